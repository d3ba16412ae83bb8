/-
  NARROWER THAN 'FOR EVERY INPUT', by the rows' own cells (each row's printed sentence says how): BusPromotes: laid · BusOthers: laid · BusNumbers: laid · BusPlays: laid.
  DERIVED. THE GIVEN ROWS OF THIS SEAT. 4 by the template 'for every input the law returns true; each argument reads behind the call as it read before'; 0 by the template 'total and deterministic' (their statements: YthiephlfhbkcbaaDoorTotals.lean).
  GIVEN WITH THE SEED: the statements are not yours to turn. If you find one false, say at which input.
  Laid BY PROGRAM, IN A SANDBOX (cutbox-rows.mjs): the forced cells as the released guide's own fill.sh prints them over the translation a8d5fa6a3ce8893f… (all of the seat's roots in one cut). By AI agents, Wed Nov 11 2026. No macro, syntax, notation, axiom, sorry.
-/
import Derived.Test.YthiephlfhbkcbaaDoorChecked
import GoSem.Claim
import GoSem.ClaimJoined
import GoSem.ClaimMapViews
import Derived.JoinedTies
import Derived.KernelRfl
namespace Go.Proofs.YthiephlfhbkcbaaDoor
/- THE CELL 'sum', in the pinned program and in every row, IS THE sha256 OF THE DUMP (.gsa) THAT YthiephlfhbkcbaaDoorProg.lean LOADS. Nothing in Lean hashes anything: it is a label: what it is worth is what the hold of that sum in a sandbox is worth. -/
noncomputable def Tryd.pinned : Pinned := { name := "ythiephlfhbkcbaadoor", sum := "a8d5fa6a3ce8893f27f668897f1e0e74886a1260762660ea8244a9f193fa5e63", checked := Tryd.checked }
namespace Rows
def none {H : Type} : Left H := { results := [], args := [] }

/- WHAT THE LISTED PACKAGE-LEVEL VARIABLES READ AS WHEN THE CALL BEGINS. Each datum BY PROGRAM (the guide's laid-datum.mjs) off the statement by which the dump's own 'gosem.cut.vars' lays the variable. In a bare row this is a premise. The card (YthiephlfhbkcbaaDoorCards.lean) ties it to the program's text. -/
def laid_math_bits_deBruijn32tab {H : Type} : DataW H := .agg [.lit (.int .u8 0), .lit (.int .u8 1), .lit (.int .u8 28), .lit (.int .u8 2), .lit (.int .u8 29), .lit (.int .u8 14), .lit (.int .u8 24), .lit (.int .u8 3), .lit (.int .u8 30), .lit (.int .u8 22), .lit (.int .u8 20), .lit (.int .u8 15), .lit (.int .u8 25), .lit (.int .u8 17), .lit (.int .u8 4), .lit (.int .u8 8), .lit (.int .u8 31), .lit (.int .u8 27), .lit (.int .u8 13), .lit (.int .u8 23), .lit (.int .u8 21), .lit (.int .u8 19), .lit (.int .u8 16), .lit (.int .u8 7), .lit (.int .u8 26), .lit (.int .u8 12), .lit (.int .u8 18), .lit (.int .u8 6), .lit (.int .u8 11), .lit (.int .u8 5), .lit (.int .u8 10), .lit (.int .u8 9)]

/-- 'innkeeperlaw15.BusPromotes': WHATEVER THE INPUT: true; the input reads as it did. -/
def busPromotesSpec : ChangeSpec := { name := "busPromotes", fn := fun _ => fun
  | [d1, d2, d3, d4] => { results := [.lit (.bool true)], args := [d1, d2, d3, d4] }
  | _ => none }
def busPromotesRow : OpenClaim := { program := "ythiephlfhbkcbaadoor", sum := "a8d5fa6a3ce8893f27f668897f1e0e74886a1260762660ea8244a9f193fa5e63", func := "innkeeper/innkeeperlaw15.BusPromotes", spec := "busPromotes", named := ["math/bits.deBruijn32tab"], apart := false, laid := [("math/bits.deBruijn32tab", laid_math_bits_deBruijn32tab)] }
def BusPromotesSaid : Prop := busPromotesRow.holds Tryd.pinned (OpenSpec.ofChange busPromotesSpec)

/-- ITS FALSE NEIGHBOUR: 'it returns false'. Refute it at one input. -/
def busPromotesWrong : ChangeSpec := { name := "busPromotes", fn := fun _ => fun
  | [d1, d2, d3, d4] => { results := [.lit (.bool false)], args := [d1, d2, d3, d4] }
  | _ => none }
def BusPromotesWrongFalsely : Prop := busPromotesRow.holds Tryd.pinned (OpenSpec.ofChange busPromotesWrong)

/-- 'innkeeperlaw15.BusOthers': WHATEVER THE INPUT: true; the input reads as it did. -/
def busOthersSpec : ChangeSpec := { name := "busOthers", fn := fun _ => fun
  | [d1, d2, d3] => { results := [.lit (.bool true)], args := [d1, d2, d3] }
  | _ => none }
def busOthersRow : OpenClaim := { program := "ythiephlfhbkcbaadoor", sum := "a8d5fa6a3ce8893f27f668897f1e0e74886a1260762660ea8244a9f193fa5e63", func := "innkeeper/innkeeperlaw15.BusOthers", spec := "busOthers", named := ["math/bits.deBruijn32tab"], apart := false, laid := [("math/bits.deBruijn32tab", laid_math_bits_deBruijn32tab)] }
def BusOthersSaid : Prop := busOthersRow.holds Tryd.pinned (OpenSpec.ofChange busOthersSpec)

/-- ITS FALSE NEIGHBOUR: 'it returns false'. Refute it at one input. -/
def busOthersWrong : ChangeSpec := { name := "busOthers", fn := fun _ => fun
  | [d1, d2, d3] => { results := [.lit (.bool false)], args := [d1, d2, d3] }
  | _ => none }
def BusOthersWrongFalsely : Prop := busOthersRow.holds Tryd.pinned (OpenSpec.ofChange busOthersWrong)

/-- 'innkeeperlaw15.BusNumbers': WHATEVER THE INPUT: true; the input reads as it did. -/
def busNumbersSpec : ChangeSpec := { name := "busNumbers", fn := fun _ => fun
  | [] => { results := [.lit (.bool true)], args := [] }
  | _ => none }
def busNumbersRow : OpenClaim := { program := "ythiephlfhbkcbaadoor", sum := "a8d5fa6a3ce8893f27f668897f1e0e74886a1260762660ea8244a9f193fa5e63", func := "innkeeper/innkeeperlaw15.BusNumbers", spec := "busNumbers", named := ["math/bits.deBruijn32tab"], apart := false, laid := [("math/bits.deBruijn32tab", laid_math_bits_deBruijn32tab)] }
def BusNumbersSaid : Prop := busNumbersRow.holds Tryd.pinned (OpenSpec.ofChange busNumbersSpec)

/-- ITS FALSE NEIGHBOUR: 'it returns false'. Refute it at one input. -/
def busNumbersWrong : ChangeSpec := { name := "busNumbers", fn := fun _ => fun
  | [] => { results := [.lit (.bool false)], args := [] }
  | _ => none }
def BusNumbersWrongFalsely : Prop := busNumbersRow.holds Tryd.pinned (OpenSpec.ofChange busNumbersWrong)

/-- 'innkeeperlaw15.BusPlays': WHATEVER THE INPUT: true; the input reads as it did. -/
def busPlaysSpec : ChangeSpec := { name := "busPlays", fn := fun _ => fun
  | [d1, d2, d3] => { results := [.lit (.bool true)], args := [d1, d2, d3] }
  | _ => none }
def busPlaysRow : OpenClaim := { program := "ythiephlfhbkcbaadoor", sum := "a8d5fa6a3ce8893f27f668897f1e0e74886a1260762660ea8244a9f193fa5e63", func := "innkeeper/innkeeperlaw15.BusPlays", spec := "busPlays", named := ["math/bits.deBruijn32tab"], apart := false, laid := [("math/bits.deBruijn32tab", laid_math_bits_deBruijn32tab)] }
def BusPlaysSaid : Prop := busPlaysRow.holds Tryd.pinned (OpenSpec.ofChange busPlaysSpec)

/-- ITS FALSE NEIGHBOUR: 'it returns false'. Refute it at one input. -/
def busPlaysWrong : ChangeSpec := { name := "busPlays", fn := fun _ => fun
  | [d1, d2, d3] => { results := [.lit (.bool false)], args := [d1, d2, d3] }
  | _ => none }
def BusPlaysWrongFalsely : Prop := busPlaysRow.holds Tryd.pinned (OpenSpec.ofChange busPlaysWrong)

/- THE SECOND FORM. 'bulk': how many values and letters a reading holds, each counted each time it is reached (what is shared counts as often as it is met; a slice's spare places count too). A statement '..UptoSaid' is the law's where the arguments, and the package variables that the reading takes, are together of bulk at most 1048576: NARROWER than '..Said'. Prove '..Said' where nothing that the law and all that it calls make is longer than what came in: it says more and counts as full. Else prove '..UptoSaid'. A law counts once. -/
mutual
def uptoBulk {H : Type} : DataW H → Nat
  | .lit (.string bytes) => bytes.length + 1
  | .lit _ => 1
  | .nil => 1
  | .ptr d => uptoBulk d + 1
  | .slice elems spare => uptoBulkAll elems + uptoBulkAll spare + 1
  | .agg parts => uptoBulkAll parts + 1
  | .iface _ d => uptoBulk d + 1
  | .map entries => uptoBulkEntries entries + 1
  | .held _ => 1
def uptoBulkAll {H : Type} : List (DataW H) → Nat
  | [] => 0
  | d :: r => uptoBulk d + uptoBulkAll r
def uptoBulkEntries {H : Type} : List (Lit × DataW H) → Nat
  | [] => 0
  | x :: r => uptoBulkEntry x + uptoBulkEntries r
def uptoBulkEntry {H : Type} : Lit × DataW H → Nat
  | (.string bytes, d) => bytes.length + uptoBulk d + 1
  | (_, d) => uptoBulk d + 1
 end
def uptoSmall : (H : Type) → List (DataW H) → Bool := fun _ ds => decide (uptoBulkAll ds ≤ 1048576)
def OpenSpec.upto (s : _root_.Go.ChangeSpec) : _root_.Go.OpenSpec := { _root_.Go.OpenSpec.ofChange s with cond := some uptoSmall }

/-- 'innkeeperlaw15.BusPromotes', WHERE WHAT IT READS IS OF BULK AT MOST 1048576: true; the input reads as it did. -/
def busPromotesUptoRow : OpenClaim := { program := "ythiephlfhbkcbaadoor", sum := "a8d5fa6a3ce8893f27f668897f1e0e74886a1260762660ea8244a9f193fa5e63", func := "innkeeper/innkeeperlaw15.BusPromotes", spec := "busPromotes", named := ["math/bits.deBruijn32tab"], apart := false, laid := [("math/bits.deBruijn32tab", laid_math_bits_deBruijn32tab)], narrowed := true }
def BusPromotesUptoSaid : Prop := busPromotesUptoRow.holds Tryd.pinned (OpenSpec.upto busPromotesSpec)

/-- 'innkeeperlaw15.BusOthers', WHERE WHAT IT READS IS OF BULK AT MOST 1048576: true; the input reads as it did. -/
def busOthersUptoRow : OpenClaim := { program := "ythiephlfhbkcbaadoor", sum := "a8d5fa6a3ce8893f27f668897f1e0e74886a1260762660ea8244a9f193fa5e63", func := "innkeeper/innkeeperlaw15.BusOthers", spec := "busOthers", named := ["math/bits.deBruijn32tab"], apart := false, laid := [("math/bits.deBruijn32tab", laid_math_bits_deBruijn32tab)], narrowed := true }
def BusOthersUptoSaid : Prop := busOthersUptoRow.holds Tryd.pinned (OpenSpec.upto busOthersSpec)

/-- 'innkeeperlaw15.BusNumbers', WHERE WHAT IT READS IS OF BULK AT MOST 1048576: true; the input reads as it did. -/
def busNumbersUptoRow : OpenClaim := { program := "ythiephlfhbkcbaadoor", sum := "a8d5fa6a3ce8893f27f668897f1e0e74886a1260762660ea8244a9f193fa5e63", func := "innkeeper/innkeeperlaw15.BusNumbers", spec := "busNumbers", named := ["math/bits.deBruijn32tab"], apart := false, laid := [("math/bits.deBruijn32tab", laid_math_bits_deBruijn32tab)], narrowed := true }
def BusNumbersUptoSaid : Prop := busNumbersUptoRow.holds Tryd.pinned (OpenSpec.upto busNumbersSpec)

/-- 'innkeeperlaw15.BusPlays', WHERE WHAT IT READS IS OF BULK AT MOST 1048576: true; the input reads as it did. -/
def busPlaysUptoRow : OpenClaim := { program := "ythiephlfhbkcbaadoor", sum := "a8d5fa6a3ce8893f27f668897f1e0e74886a1260762660ea8244a9f193fa5e63", func := "innkeeper/innkeeperlaw15.BusPlays", spec := "busPlays", named := ["math/bits.deBruijn32tab"], apart := false, laid := [("math/bits.deBruijn32tab", laid_math_bits_deBruijn32tab)], narrowed := true }
def BusPlaysUptoSaid : Prop := busPlaysUptoRow.holds Tryd.pinned (OpenSpec.upto busPlaysSpec)

end Rows
end Go.Proofs.YthiephlfhbkcbaaDoor
