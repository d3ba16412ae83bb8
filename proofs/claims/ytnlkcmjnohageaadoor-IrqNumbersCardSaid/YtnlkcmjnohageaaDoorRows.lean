/-
  NARROWER THAN 'FOR EVERY INPUT', by the rows' own cells (each row's printed sentence says how): IrqTakes: laid · IrqBits: laid · IrqNumbers: laid · IrqPlays: laid.
  DERIVED. THE GIVEN ROWS OF THIS SEAT. 4 by the template 'for every input the law returns true; each argument reads behind the call as it read before'; 0 by the template 'total and deterministic' (their statements: YtnlkcmjnohageaaDoorTotals.lean).
  GIVEN WITH THE SEED: the statements are not yours to turn. If you find one false, say at which input.
  Laid BY PROGRAM, IN A SANDBOX (cutbox-rows.mjs): the forced cells as the released guide's own fill.sh prints them over the translation 7a443c70ae371eff… (all of the seat's roots in one cut). By AI agents, Wed Nov 11 2026. No macro, syntax, notation, axiom, sorry.
-/
import Derived.Test.YtnlkcmjnohageaaDoorChecked
import GoSem.Claim
import GoSem.ClaimJoined
import GoSem.ClaimMapViews
import Derived.JoinedTies
import Derived.KernelRfl
namespace Go.Proofs.YtnlkcmjnohageaaDoor
/- THE CELL 'sum', in the pinned program and in every row, IS THE sha256 OF THE DUMP (.gsa) THAT YtnlkcmjnohageaaDoorProg.lean LOADS. Nothing in Lean hashes anything: it is a label: what it is worth is what the hold of that sum in a sandbox is worth. -/
noncomputable def Tryd.pinned : Pinned := { name := "ytnlkcmjnohageaadoor", sum := "7a443c70ae371eff01475da6b4e12b42fc9949cfbe9d2f41b0d6bba49e44c324", checked := Tryd.checked }
namespace Rows
def none {H : Type} : Left H := { results := [], args := [] }

/- WHAT THE LISTED PACKAGE-LEVEL VARIABLES READ AS WHEN THE CALL BEGINS. Each datum BY PROGRAM (the guide's laid-datum.mjs) off the statement by which the dump's own 'gosem.cut.vars' lays the variable. In a bare row this is a premise. The card (YtnlkcmjnohageaaDoorCards.lean) ties it to the program's text. -/
def laid_math_bits_deBruijn32tab {H : Type} : DataW H := .agg [.lit (.int .u8 0), .lit (.int .u8 1), .lit (.int .u8 28), .lit (.int .u8 2), .lit (.int .u8 29), .lit (.int .u8 14), .lit (.int .u8 24), .lit (.int .u8 3), .lit (.int .u8 30), .lit (.int .u8 22), .lit (.int .u8 20), .lit (.int .u8 15), .lit (.int .u8 25), .lit (.int .u8 17), .lit (.int .u8 4), .lit (.int .u8 8), .lit (.int .u8 31), .lit (.int .u8 27), .lit (.int .u8 13), .lit (.int .u8 23), .lit (.int .u8 21), .lit (.int .u8 19), .lit (.int .u8 16), .lit (.int .u8 7), .lit (.int .u8 26), .lit (.int .u8 12), .lit (.int .u8 18), .lit (.int .u8 6), .lit (.int .u8 11), .lit (.int .u8 5), .lit (.int .u8 10), .lit (.int .u8 9)]

/-- 'innkeeperlaw11.IrqTakes': WHATEVER THE INPUT: true; the input reads as it did. -/
def irqTakesSpec : ChangeSpec := { name := "irqTakes", fn := fun _ => fun
  | [d1, d2] => { results := [.lit (.bool true)], args := [d1, d2] }
  | _ => none }
def irqTakesRow : OpenClaim := { program := "ytnlkcmjnohageaadoor", sum := "7a443c70ae371eff01475da6b4e12b42fc9949cfbe9d2f41b0d6bba49e44c324", func := "innkeeper/innkeeperlaw11.IrqTakes", spec := "irqTakes", named := ["math/bits.deBruijn32tab"], apart := false, laid := [("math/bits.deBruijn32tab", laid_math_bits_deBruijn32tab)] }
def IrqTakesSaid : Prop := irqTakesRow.holds Tryd.pinned (OpenSpec.ofChange irqTakesSpec)

/-- ITS FALSE NEIGHBOUR: 'it returns false'. Refute it at one input. -/
def irqTakesWrong : ChangeSpec := { name := "irqTakes", fn := fun _ => fun
  | [d1, d2] => { results := [.lit (.bool false)], args := [d1, d2] }
  | _ => none }
def IrqTakesWrongFalsely : Prop := irqTakesRow.holds Tryd.pinned (OpenSpec.ofChange irqTakesWrong)

/-- 'innkeeperlaw11.IrqBits': WHATEVER THE INPUT: true; the input reads as it did. -/
def irqBitsSpec : ChangeSpec := { name := "irqBits", fn := fun _ => fun
  | [d1, d2, d3] => { results := [.lit (.bool true)], args := [d1, d2, d3] }
  | _ => none }
def irqBitsRow : OpenClaim := { program := "ytnlkcmjnohageaadoor", sum := "7a443c70ae371eff01475da6b4e12b42fc9949cfbe9d2f41b0d6bba49e44c324", func := "innkeeper/innkeeperlaw11.IrqBits", spec := "irqBits", named := ["math/bits.deBruijn32tab"], apart := false, laid := [("math/bits.deBruijn32tab", laid_math_bits_deBruijn32tab)] }
def IrqBitsSaid : Prop := irqBitsRow.holds Tryd.pinned (OpenSpec.ofChange irqBitsSpec)

/-- ITS FALSE NEIGHBOUR: 'it returns false'. Refute it at one input. -/
def irqBitsWrong : ChangeSpec := { name := "irqBits", fn := fun _ => fun
  | [d1, d2, d3] => { results := [.lit (.bool false)], args := [d1, d2, d3] }
  | _ => none }
def IrqBitsWrongFalsely : Prop := irqBitsRow.holds Tryd.pinned (OpenSpec.ofChange irqBitsWrong)

/-- 'innkeeperlaw11.IrqNumbers': WHATEVER THE INPUT: true; the input reads as it did. -/
def irqNumbersSpec : ChangeSpec := { name := "irqNumbers", fn := fun _ => fun
  | [] => { results := [.lit (.bool true)], args := [] }
  | _ => none }
def irqNumbersRow : OpenClaim := { program := "ytnlkcmjnohageaadoor", sum := "7a443c70ae371eff01475da6b4e12b42fc9949cfbe9d2f41b0d6bba49e44c324", func := "innkeeper/innkeeperlaw11.IrqNumbers", spec := "irqNumbers", named := ["math/bits.deBruijn32tab"], apart := false, laid := [("math/bits.deBruijn32tab", laid_math_bits_deBruijn32tab)] }
def IrqNumbersSaid : Prop := irqNumbersRow.holds Tryd.pinned (OpenSpec.ofChange irqNumbersSpec)

/-- ITS FALSE NEIGHBOUR: 'it returns false'. Refute it at one input. -/
def irqNumbersWrong : ChangeSpec := { name := "irqNumbers", fn := fun _ => fun
  | [] => { results := [.lit (.bool false)], args := [] }
  | _ => none }
def IrqNumbersWrongFalsely : Prop := irqNumbersRow.holds Tryd.pinned (OpenSpec.ofChange irqNumbersWrong)

/-- 'innkeeperlaw11.IrqPlays': WHATEVER THE INPUT: true; the input reads as it did. -/
def irqPlaysSpec : ChangeSpec := { name := "irqPlays", fn := fun _ => fun
  | [d] => { results := [.lit (.bool true)], args := [d] }
  | _ => none }
def irqPlaysRow : OpenClaim := { program := "ytnlkcmjnohageaadoor", sum := "7a443c70ae371eff01475da6b4e12b42fc9949cfbe9d2f41b0d6bba49e44c324", func := "innkeeper/innkeeperlaw11.IrqPlays", spec := "irqPlays", named := ["math/bits.deBruijn32tab"], apart := false, laid := [("math/bits.deBruijn32tab", laid_math_bits_deBruijn32tab)] }
def IrqPlaysSaid : Prop := irqPlaysRow.holds Tryd.pinned (OpenSpec.ofChange irqPlaysSpec)

/-- ITS FALSE NEIGHBOUR: 'it returns false'. Refute it at one input. -/
def irqPlaysWrong : ChangeSpec := { name := "irqPlays", fn := fun _ => fun
  | [d] => { results := [.lit (.bool false)], args := [d] }
  | _ => none }
def IrqPlaysWrongFalsely : Prop := irqPlaysRow.holds Tryd.pinned (OpenSpec.ofChange irqPlaysWrong)

/- THE SECOND FORM. 'bulk': how many values and letters a reading holds, each counted each time it is reached (what is shared counts as often as it is met; a slice's spare places count too). A statement '..UptoSaid' is the law's where the arguments, and the package variables that the reading takes, are together of bulk at most 1048576: NARROWER than '..Said'. Prove '..Said' where nothing that the law and all that it calls make is longer than what came in: it says more and counts as full. Else prove '..UptoSaid'. A law counts once. -/
mutual
def uptoBulk {H : Type} : DataW H → Nat
  | .lit (.string bytes) => bytes.length + 1
  | .lit _ => 1
  | .nil => 1
  | .ptr d => uptoBulk d + 1
  | .slice elems spare => uptoBulkAll elems + uptoBulkAll spare + 1
  | .agg parts => uptoBulkAll parts + 1
  | .iface _ d => uptoBulk d + 1
  | .map entries => uptoBulkEntries entries + 1
  | .held _ => 1
def uptoBulkAll {H : Type} : List (DataW H) → Nat
  | [] => 0
  | d :: r => uptoBulk d + uptoBulkAll r
def uptoBulkEntries {H : Type} : List (Lit × DataW H) → Nat
  | [] => 0
  | x :: r => uptoBulkEntry x + uptoBulkEntries r
def uptoBulkEntry {H : Type} : Lit × DataW H → Nat
  | (.string bytes, d) => bytes.length + uptoBulk d + 1
  | (_, d) => uptoBulk d + 1
 end
def uptoSmall : (H : Type) → List (DataW H) → Bool := fun _ ds => decide (uptoBulkAll ds ≤ 1048576)
def OpenSpec.upto (s : _root_.Go.ChangeSpec) : _root_.Go.OpenSpec := { _root_.Go.OpenSpec.ofChange s with cond := some uptoSmall }

/-- 'innkeeperlaw11.IrqTakes', WHERE WHAT IT READS IS OF BULK AT MOST 1048576: true; the input reads as it did. -/
def irqTakesUptoRow : OpenClaim := { program := "ytnlkcmjnohageaadoor", sum := "7a443c70ae371eff01475da6b4e12b42fc9949cfbe9d2f41b0d6bba49e44c324", func := "innkeeper/innkeeperlaw11.IrqTakes", spec := "irqTakes", named := ["math/bits.deBruijn32tab"], apart := false, laid := [("math/bits.deBruijn32tab", laid_math_bits_deBruijn32tab)], narrowed := true }
def IrqTakesUptoSaid : Prop := irqTakesUptoRow.holds Tryd.pinned (OpenSpec.upto irqTakesSpec)

/-- 'innkeeperlaw11.IrqBits', WHERE WHAT IT READS IS OF BULK AT MOST 1048576: true; the input reads as it did. -/
def irqBitsUptoRow : OpenClaim := { program := "ytnlkcmjnohageaadoor", sum := "7a443c70ae371eff01475da6b4e12b42fc9949cfbe9d2f41b0d6bba49e44c324", func := "innkeeper/innkeeperlaw11.IrqBits", spec := "irqBits", named := ["math/bits.deBruijn32tab"], apart := false, laid := [("math/bits.deBruijn32tab", laid_math_bits_deBruijn32tab)], narrowed := true }
def IrqBitsUptoSaid : Prop := irqBitsUptoRow.holds Tryd.pinned (OpenSpec.upto irqBitsSpec)

/-- 'innkeeperlaw11.IrqNumbers', WHERE WHAT IT READS IS OF BULK AT MOST 1048576: true; the input reads as it did. -/
def irqNumbersUptoRow : OpenClaim := { program := "ytnlkcmjnohageaadoor", sum := "7a443c70ae371eff01475da6b4e12b42fc9949cfbe9d2f41b0d6bba49e44c324", func := "innkeeper/innkeeperlaw11.IrqNumbers", spec := "irqNumbers", named := ["math/bits.deBruijn32tab"], apart := false, laid := [("math/bits.deBruijn32tab", laid_math_bits_deBruijn32tab)], narrowed := true }
def IrqNumbersUptoSaid : Prop := irqNumbersUptoRow.holds Tryd.pinned (OpenSpec.upto irqNumbersSpec)

/-- 'innkeeperlaw11.IrqPlays', WHERE WHAT IT READS IS OF BULK AT MOST 1048576: true; the input reads as it did. -/
def irqPlaysUptoRow : OpenClaim := { program := "ytnlkcmjnohageaadoor", sum := "7a443c70ae371eff01475da6b4e12b42fc9949cfbe9d2f41b0d6bba49e44c324", func := "innkeeper/innkeeperlaw11.IrqPlays", spec := "irqPlays", named := ["math/bits.deBruijn32tab"], apart := false, laid := [("math/bits.deBruijn32tab", laid_math_bits_deBruijn32tab)], narrowed := true }
def IrqPlaysUptoSaid : Prop := irqPlaysUptoRow.holds Tryd.pinned (OpenSpec.upto irqPlaysSpec)

end Rows
end Go.Proofs.YtnlkcmjnohageaaDoor
