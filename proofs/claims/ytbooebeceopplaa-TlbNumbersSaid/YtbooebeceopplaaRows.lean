/-
  No cell of these rows narrows 'for every input' (looked for: loops, veiled, ifaces, maps, wideKeys, modest, calm, conditions, laid).
  DERIVED. THE GIVEN ROWS OF THIS SEAT. 9 by the template 'for every input the law returns true; each argument reads behind the call as it read before'; 0 by the template 'total and deterministic' (their statements: YtbooebeceopplaaTotals.lean).
  GIVEN WITH THE SEED: the statements are not yours to turn. If you find one false, say at which input.
  Laid BY PROGRAM, IN A SANDBOX (cutbox-rows.mjs): the forced cells as the released guide's own fill.sh prints them over the translation de839c5f1947ba96… (all of the seat's roots in one cut). By AI agents, Wed Nov 11 2026. No macro, syntax, notation, axiom, sorry.
-/
import Derived.Test.YtbooebeceopplaaChecked
import GoSem.Claim
import GoSem.ClaimJoined
import GoSem.ClaimMapViews
import Derived.JoinedTies
import Derived.KernelRfl
namespace Go.Proofs.Ytbooebeceopplaa
/- THE CELL 'sum', in the pinned program and in every row, IS THE sha256 OF THE DUMP (.gsa) THAT YtbooebeceopplaaProg.lean LOADS. Nothing in Lean hashes anything: it is a label: what it is worth is what the hold of that sum in a sandbox is worth. -/
noncomputable def Try.pinned : Pinned := { name := "ytbooebeceopplaa", sum := "de839c5f1947ba9679f233fe9ec066a125be43d3bbe88ae517f9cabecf11a892", checked := Try.checked }
namespace Rows
def none {H : Type} : Left H := { results := [], args := [] }

/-- 'innkeeperlaw9.TlbRights': WHATEVER THE INPUT: true; the input reads as it did. -/
def tlbRightsSpec : ChangeSpec := { name := "tlbRights", fn := fun _ => fun
  | [d1, d2, d3] => { results := [.lit (.bool true)], args := [d1, d2, d3] }
  | _ => none }
def tlbRightsRow : OpenClaim := { program := "ytbooebeceopplaa", sum := "de839c5f1947ba9679f233fe9ec066a125be43d3bbe88ae517f9cabecf11a892", func := "innkeeper/innkeeperlaw9.TlbRights", spec := "tlbRights", apart := false }
def TlbRightsSaid : Prop := tlbRightsRow.holds Try.pinned (OpenSpec.ofChange tlbRightsSpec)

/-- ITS FALSE NEIGHBOUR: 'it returns false'. Refute it at one input. -/
def tlbRightsWrong : ChangeSpec := { name := "tlbRights", fn := fun _ => fun
  | [d1, d2, d3] => { results := [.lit (.bool false)], args := [d1, d2, d3] }
  | _ => none }
def TlbRightsWrongFalsely : Prop := tlbRightsRow.holds Try.pinned (OpenSpec.ofChange tlbRightsWrong)

/-- 'innkeeperlaw9.TlbKeeps': WHATEVER THE INPUT: true; the input reads as it did. -/
def tlbKeepsSpec : ChangeSpec := { name := "tlbKeeps", fn := fun _ => fun
  | [d1, d2] => { results := [.lit (.bool true)], args := [d1, d2] }
  | _ => none }
def tlbKeepsRow : OpenClaim := { program := "ytbooebeceopplaa", sum := "de839c5f1947ba9679f233fe9ec066a125be43d3bbe88ae517f9cabecf11a892", func := "innkeeper/innkeeperlaw9.TlbKeeps", spec := "tlbKeeps", apart := false }
def TlbKeepsSaid : Prop := tlbKeepsRow.holds Try.pinned (OpenSpec.ofChange tlbKeepsSpec)

/-- ITS FALSE NEIGHBOUR: 'it returns false'. Refute it at one input. -/
def tlbKeepsWrong : ChangeSpec := { name := "tlbKeeps", fn := fun _ => fun
  | [d1, d2] => { results := [.lit (.bool false)], args := [d1, d2] }
  | _ => none }
def TlbKeepsWrongFalsely : Prop := tlbKeepsRow.holds Try.pinned (OpenSpec.ofChange tlbKeepsWrong)

/-- 'innkeeperlaw9.TlbNumbers': WHATEVER THE INPUT: true; the input reads as it did. -/
def tlbNumbersSpec : ChangeSpec := { name := "tlbNumbers", fn := fun _ => fun
  | [] => { results := [.lit (.bool true)], args := [] }
  | _ => none }
def tlbNumbersRow : OpenClaim := { program := "ytbooebeceopplaa", sum := "de839c5f1947ba9679f233fe9ec066a125be43d3bbe88ae517f9cabecf11a892", func := "innkeeper/innkeeperlaw9.TlbNumbers", spec := "tlbNumbers", apart := false }
def TlbNumbersSaid : Prop := tlbNumbersRow.holds Try.pinned (OpenSpec.ofChange tlbNumbersSpec)

/-- ITS FALSE NEIGHBOUR: 'it returns false'. Refute it at one input. -/
def tlbNumbersWrong : ChangeSpec := { name := "tlbNumbers", fn := fun _ => fun
  | [] => { results := [.lit (.bool false)], args := [] }
  | _ => none }
def TlbNumbersWrongFalsely : Prop := tlbNumbersRow.holds Try.pinned (OpenSpec.ofChange tlbNumbersWrong)

/-- 'innkeeperlaw9.TlbPlays': WHATEVER THE INPUT: true; the input reads as it did. -/
def tlbPlaysSpec : ChangeSpec := { name := "tlbPlays", fn := fun _ => fun
  | [d] => { results := [.lit (.bool true)], args := [d] }
  | _ => none }
def tlbPlaysRow : OpenClaim := { program := "ytbooebeceopplaa", sum := "de839c5f1947ba9679f233fe9ec066a125be43d3bbe88ae517f9cabecf11a892", func := "innkeeper/innkeeperlaw9.TlbPlays", spec := "tlbPlays", apart := false }
def TlbPlaysSaid : Prop := tlbPlaysRow.holds Try.pinned (OpenSpec.ofChange tlbPlaysSpec)

/-- ITS FALSE NEIGHBOUR: 'it returns false'. Refute it at one input. -/
def tlbPlaysWrong : ChangeSpec := { name := "tlbPlays", fn := fun _ => fun
  | [d] => { results := [.lit (.bool false)], args := [d] }
  | _ => none }
def TlbPlaysWrongFalsely : Prop := tlbPlaysRow.holds Try.pinned (OpenSpec.ofChange tlbPlaysWrong)

/-- 'innkeeperlaw9.TlbFlushes': WHATEVER THE INPUT: true; the input reads as it did. -/
def tlbFlushesSpec : ChangeSpec := { name := "tlbFlushes", fn := fun _ => fun
  | [d1, d2] => { results := [.lit (.bool true)], args := [d1, d2] }
  | _ => none }
def tlbFlushesRow : OpenClaim := { program := "ytbooebeceopplaa", sum := "de839c5f1947ba9679f233fe9ec066a125be43d3bbe88ae517f9cabecf11a892", func := "innkeeper/innkeeperlaw9.TlbFlushes", spec := "tlbFlushes", apart := false }
def TlbFlushesSaid : Prop := tlbFlushesRow.holds Try.pinned (OpenSpec.ofChange tlbFlushesSpec)

/-- ITS FALSE NEIGHBOUR: 'it returns false'. Refute it at one input. -/
def tlbFlushesWrong : ChangeSpec := { name := "tlbFlushes", fn := fun _ => fun
  | [d1, d2] => { results := [.lit (.bool false)], args := [d1, d2] }
  | _ => none }
def TlbFlushesWrongFalsely : Prop := tlbFlushesRow.holds Try.pinned (OpenSpec.ofChange tlbFlushesWrong)

/-- 'innkeeperlaw5.FramesLowest': WHATEVER THE INPUT: true; the input reads as it did. -/
def framesLowestSpec : ChangeSpec := { name := "framesLowest", fn := fun _ => fun
  | [d1, d2] => { results := [.lit (.bool true)], args := [d1, d2] }
  | _ => none }
def framesLowestRow : OpenClaim := { program := "ytbooebeceopplaa", sum := "de839c5f1947ba9679f233fe9ec066a125be43d3bbe88ae517f9cabecf11a892", func := "innkeeper/innkeeperlaw5.FramesLowest", spec := "framesLowest", apart := false }
def FramesLowestSaid : Prop := framesLowestRow.holds Try.pinned (OpenSpec.ofChange framesLowestSpec)

/-- ITS FALSE NEIGHBOUR: 'it returns false'. Refute it at one input. -/
def framesLowestWrong : ChangeSpec := { name := "framesLowest", fn := fun _ => fun
  | [d1, d2] => { results := [.lit (.bool false)], args := [d1, d2] }
  | _ => none }
def FramesLowestWrongFalsely : Prop := framesLowestRow.holds Try.pinned (OpenSpec.ofChange framesLowestWrong)

/-- 'innkeeperlaw5.FramesBytes': WHATEVER THE INPUT: true; the input reads as it did. -/
def framesBytesSpec : ChangeSpec := { name := "framesBytes", fn := fun _ => fun
  | [d1, d2, d3] => { results := [.lit (.bool true)], args := [d1, d2, d3] }
  | _ => none }
def framesBytesRow : OpenClaim := { program := "ytbooebeceopplaa", sum := "de839c5f1947ba9679f233fe9ec066a125be43d3bbe88ae517f9cabecf11a892", func := "innkeeper/innkeeperlaw5.FramesBytes", spec := "framesBytes", apart := false }
def FramesBytesSaid : Prop := framesBytesRow.holds Try.pinned (OpenSpec.ofChange framesBytesSpec)

/-- ITS FALSE NEIGHBOUR: 'it returns false'. Refute it at one input. -/
def framesBytesWrong : ChangeSpec := { name := "framesBytes", fn := fun _ => fun
  | [d1, d2, d3] => { results := [.lit (.bool false)], args := [d1, d2, d3] }
  | _ => none }
def FramesBytesWrongFalsely : Prop := framesBytesRow.holds Try.pinned (OpenSpec.ofChange framesBytesWrong)

/-- 'innkeeperlaw5.FramesPlays': WHATEVER THE INPUT: true; the input reads as it did. -/
def framesPlaysSpec : ChangeSpec := { name := "framesPlays", fn := fun _ => fun
  | [d] => { results := [.lit (.bool true)], args := [d] }
  | _ => none }
def framesPlaysRow : OpenClaim := { program := "ytbooebeceopplaa", sum := "de839c5f1947ba9679f233fe9ec066a125be43d3bbe88ae517f9cabecf11a892", func := "innkeeper/innkeeperlaw5.FramesPlays", spec := "framesPlays", apart := false }
def FramesPlaysSaid : Prop := framesPlaysRow.holds Try.pinned (OpenSpec.ofChange framesPlaysSpec)

/-- ITS FALSE NEIGHBOUR: 'it returns false'. Refute it at one input. -/
def framesPlaysWrong : ChangeSpec := { name := "framesPlays", fn := fun _ => fun
  | [d] => { results := [.lit (.bool false)], args := [d] }
  | _ => none }
def FramesPlaysWrongFalsely : Prop := framesPlaysRow.holds Try.pinned (OpenSpec.ofChange framesPlaysWrong)

/-- 'innkeeperlaw5.FramesOwn': WHATEVER THE INPUT: true; the input reads as it did. -/
def framesOwnSpec : ChangeSpec := { name := "framesOwn", fn := fun _ => fun
  | [d] => { results := [.lit (.bool true)], args := [d] }
  | _ => none }
def framesOwnRow : OpenClaim := { program := "ytbooebeceopplaa", sum := "de839c5f1947ba9679f233fe9ec066a125be43d3bbe88ae517f9cabecf11a892", func := "innkeeper/innkeeperlaw5.FramesOwn", spec := "framesOwn", apart := false }
def FramesOwnSaid : Prop := framesOwnRow.holds Try.pinned (OpenSpec.ofChange framesOwnSpec)

/-- ITS FALSE NEIGHBOUR: 'it returns false'. Refute it at one input. -/
def framesOwnWrong : ChangeSpec := { name := "framesOwn", fn := fun _ => fun
  | [d] => { results := [.lit (.bool false)], args := [d] }
  | _ => none }
def FramesOwnWrongFalsely : Prop := framesOwnRow.holds Try.pinned (OpenSpec.ofChange framesOwnWrong)

/- THE SECOND FORM. 'bulk': how many values and letters a reading holds, each counted each time it is reached (what is shared counts as often as it is met; a slice's spare places count too). A statement '..UptoSaid' is the law's where the arguments, and the package variables that the reading takes, are together of bulk at most 1048576: NARROWER than '..Said'. Prove '..Said' where nothing that the law and all that it calls make is longer than what came in: it says more and counts as full. Else prove '..UptoSaid'. A law counts once. -/
mutual
def uptoBulk {H : Type} : DataW H → Nat
  | .lit (.string bytes) => bytes.length + 1
  | .lit _ => 1
  | .nil => 1
  | .ptr d => uptoBulk d + 1
  | .slice elems spare => uptoBulkAll elems + uptoBulkAll spare + 1
  | .agg parts => uptoBulkAll parts + 1
  | .iface _ d => uptoBulk d + 1
  | .map entries => uptoBulkEntries entries + 1
  | .held _ => 1
def uptoBulkAll {H : Type} : List (DataW H) → Nat
  | [] => 0
  | d :: r => uptoBulk d + uptoBulkAll r
def uptoBulkEntries {H : Type} : List (Lit × DataW H) → Nat
  | [] => 0
  | x :: r => uptoBulkEntry x + uptoBulkEntries r
def uptoBulkEntry {H : Type} : Lit × DataW H → Nat
  | (.string bytes, d) => bytes.length + uptoBulk d + 1
  | (_, d) => uptoBulk d + 1
 end
def uptoSmall : (H : Type) → List (DataW H) → Bool := fun _ ds => decide (uptoBulkAll ds ≤ 1048576)
def OpenSpec.upto (s : _root_.Go.ChangeSpec) : _root_.Go.OpenSpec := { _root_.Go.OpenSpec.ofChange s with cond := some uptoSmall }

/-- 'innkeeperlaw9.TlbRights', WHERE WHAT IT READS IS OF BULK AT MOST 1048576: true; the input reads as it did. -/
def tlbRightsUptoRow : OpenClaim := { program := "ytbooebeceopplaa", sum := "de839c5f1947ba9679f233fe9ec066a125be43d3bbe88ae517f9cabecf11a892", func := "innkeeper/innkeeperlaw9.TlbRights", spec := "tlbRights", apart := false, narrowed := true }
def TlbRightsUptoSaid : Prop := tlbRightsUptoRow.holds Try.pinned (OpenSpec.upto tlbRightsSpec)

/-- 'innkeeperlaw9.TlbKeeps', WHERE WHAT IT READS IS OF BULK AT MOST 1048576: true; the input reads as it did. -/
def tlbKeepsUptoRow : OpenClaim := { program := "ytbooebeceopplaa", sum := "de839c5f1947ba9679f233fe9ec066a125be43d3bbe88ae517f9cabecf11a892", func := "innkeeper/innkeeperlaw9.TlbKeeps", spec := "tlbKeeps", apart := false, narrowed := true }
def TlbKeepsUptoSaid : Prop := tlbKeepsUptoRow.holds Try.pinned (OpenSpec.upto tlbKeepsSpec)

/-- 'innkeeperlaw9.TlbNumbers', WHERE WHAT IT READS IS OF BULK AT MOST 1048576: true; the input reads as it did. -/
def tlbNumbersUptoRow : OpenClaim := { program := "ytbooebeceopplaa", sum := "de839c5f1947ba9679f233fe9ec066a125be43d3bbe88ae517f9cabecf11a892", func := "innkeeper/innkeeperlaw9.TlbNumbers", spec := "tlbNumbers", apart := false, narrowed := true }
def TlbNumbersUptoSaid : Prop := tlbNumbersUptoRow.holds Try.pinned (OpenSpec.upto tlbNumbersSpec)

/-- 'innkeeperlaw9.TlbPlays', WHERE WHAT IT READS IS OF BULK AT MOST 1048576: true; the input reads as it did. -/
def tlbPlaysUptoRow : OpenClaim := { program := "ytbooebeceopplaa", sum := "de839c5f1947ba9679f233fe9ec066a125be43d3bbe88ae517f9cabecf11a892", func := "innkeeper/innkeeperlaw9.TlbPlays", spec := "tlbPlays", apart := false, narrowed := true }
def TlbPlaysUptoSaid : Prop := tlbPlaysUptoRow.holds Try.pinned (OpenSpec.upto tlbPlaysSpec)

/-- 'innkeeperlaw9.TlbFlushes', WHERE WHAT IT READS IS OF BULK AT MOST 1048576: true; the input reads as it did. -/
def tlbFlushesUptoRow : OpenClaim := { program := "ytbooebeceopplaa", sum := "de839c5f1947ba9679f233fe9ec066a125be43d3bbe88ae517f9cabecf11a892", func := "innkeeper/innkeeperlaw9.TlbFlushes", spec := "tlbFlushes", apart := false, narrowed := true }
def TlbFlushesUptoSaid : Prop := tlbFlushesUptoRow.holds Try.pinned (OpenSpec.upto tlbFlushesSpec)

/-- 'innkeeperlaw5.FramesLowest', WHERE WHAT IT READS IS OF BULK AT MOST 1048576: true; the input reads as it did. -/
def framesLowestUptoRow : OpenClaim := { program := "ytbooebeceopplaa", sum := "de839c5f1947ba9679f233fe9ec066a125be43d3bbe88ae517f9cabecf11a892", func := "innkeeper/innkeeperlaw5.FramesLowest", spec := "framesLowest", apart := false, narrowed := true }
def FramesLowestUptoSaid : Prop := framesLowestUptoRow.holds Try.pinned (OpenSpec.upto framesLowestSpec)

/-- 'innkeeperlaw5.FramesBytes', WHERE WHAT IT READS IS OF BULK AT MOST 1048576: true; the input reads as it did. -/
def framesBytesUptoRow : OpenClaim := { program := "ytbooebeceopplaa", sum := "de839c5f1947ba9679f233fe9ec066a125be43d3bbe88ae517f9cabecf11a892", func := "innkeeper/innkeeperlaw5.FramesBytes", spec := "framesBytes", apart := false, narrowed := true }
def FramesBytesUptoSaid : Prop := framesBytesUptoRow.holds Try.pinned (OpenSpec.upto framesBytesSpec)

/-- 'innkeeperlaw5.FramesPlays', WHERE WHAT IT READS IS OF BULK AT MOST 1048576: true; the input reads as it did. -/
def framesPlaysUptoRow : OpenClaim := { program := "ytbooebeceopplaa", sum := "de839c5f1947ba9679f233fe9ec066a125be43d3bbe88ae517f9cabecf11a892", func := "innkeeper/innkeeperlaw5.FramesPlays", spec := "framesPlays", apart := false, narrowed := true }
def FramesPlaysUptoSaid : Prop := framesPlaysUptoRow.holds Try.pinned (OpenSpec.upto framesPlaysSpec)

/-- 'innkeeperlaw5.FramesOwn', WHERE WHAT IT READS IS OF BULK AT MOST 1048576: true; the input reads as it did. -/
def framesOwnUptoRow : OpenClaim := { program := "ytbooebeceopplaa", sum := "de839c5f1947ba9679f233fe9ec066a125be43d3bbe88ae517f9cabecf11a892", func := "innkeeper/innkeeperlaw5.FramesOwn", spec := "framesOwn", apart := false, narrowed := true }
def FramesOwnUptoSaid : Prop := framesOwnUptoRow.holds Try.pinned (OpenSpec.upto framesOwnSpec)

end Rows
end Go.Proofs.Ytbooebeceopplaa
