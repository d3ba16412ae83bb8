/-
  No cell of these rows narrows 'for every input' (looked for: loops, veiled, ifaces, maps, wideKeys, modest, calm, conditions, laid).
  DERIVED. THE GIVEN ROWS OF THIS SEAT. 9 by the template 'for every input the law returns true; each argument reads behind the call as it read before'; 0 by the template 'total and deterministic' (their statements: YthiephlfhbkcbaaTotals.lean).
  GIVEN WITH THE SEED: the statements are not yours to turn. If you find one false, say at which input.
  Laid BY PROGRAM, IN A SANDBOX (cutbox-rows.mjs): the forced cells as the released guide's own fill.sh prints them over the translation 82cdc3e9d575ba16… (all of the seat's roots in one cut). By AI agents, Wed Nov 11 2026. No macro, syntax, notation, axiom, sorry.
-/
import Derived.Test.YthiephlfhbkcbaaChecked
import GoSem.Claim
import GoSem.ClaimJoined
import GoSem.ClaimMapViews
import Derived.JoinedTies
import Derived.KernelRfl
namespace Go.Proofs.Ythiephlfhbkcbaa
/- THE CELL 'sum', in the pinned program and in every row, IS THE sha256 OF THE DUMP (.gsa) THAT YthiephlfhbkcbaaProg.lean LOADS. Nothing in Lean hashes anything: it is a label: what it is worth is what the hold of that sum in a sandbox is worth. -/
noncomputable def Try.pinned : Pinned := { name := "ythiephlfhbkcbaa", sum := "82cdc3e9d575ba1623611592bc0fb8b1427ab89c957df2173a270bb0b375c064", checked := Try.checked }
namespace Rows
def none {H : Type} : Left H := { results := [], args := [] }

/-- 'innkeeperlaw15.BusReads': WHATEVER THE INPUT: true; the input reads as it did. -/
def busReadsSpec : ChangeSpec := { name := "busReads", fn := fun _ => fun
  | [d1, d2, d3, d4] => { results := [.lit (.bool true)], args := [d1, d2, d3, d4] }
  | _ => none }
def busReadsRow : OpenClaim := { program := "ythiephlfhbkcbaa", sum := "82cdc3e9d575ba1623611592bc0fb8b1427ab89c957df2173a270bb0b375c064", func := "innkeeper/innkeeperlaw15.BusReads", spec := "busReads", apart := false }
def BusReadsSaid : Prop := busReadsRow.holds Try.pinned (OpenSpec.ofChange busReadsSpec)

/-- ITS FALSE NEIGHBOUR: 'it returns false'. Refute it at one input. -/
def busReadsWrong : ChangeSpec := { name := "busReads", fn := fun _ => fun
  | [d1, d2, d3, d4] => { results := [.lit (.bool false)], args := [d1, d2, d3, d4] }
  | _ => none }
def BusReadsWrongFalsely : Prop := busReadsRow.holds Try.pinned (OpenSpec.ofChange busReadsWrong)

/-- 'innkeeperlaw15.BusDrives': WHATEVER THE INPUT: true; the input reads as it did. -/
def busDrivesSpec : ChangeSpec := { name := "busDrives", fn := fun _ => fun
  | [d1, d2, d3, d4] => { results := [.lit (.bool true)], args := [d1, d2, d3, d4] }
  | _ => none }
def busDrivesRow : OpenClaim := { program := "ythiephlfhbkcbaa", sum := "82cdc3e9d575ba1623611592bc0fb8b1427ab89c957df2173a270bb0b375c064", func := "innkeeper/innkeeperlaw15.BusDrives", spec := "busDrives", apart := false }
def BusDrivesSaid : Prop := busDrivesRow.holds Try.pinned (OpenSpec.ofChange busDrivesSpec)

/-- ITS FALSE NEIGHBOUR: 'it returns false'. Refute it at one input. -/
def busDrivesWrong : ChangeSpec := { name := "busDrives", fn := fun _ => fun
  | [d1, d2, d3, d4] => { results := [.lit (.bool false)], args := [d1, d2, d3, d4] }
  | _ => none }
def BusDrivesWrongFalsely : Prop := busDrivesRow.holds Try.pinned (OpenSpec.ofChange busDrivesWrong)

/-- 'innkeeperlaw15.BusTimes': WHATEVER THE INPUT: true; the input reads as it did. -/
def busTimesSpec : ChangeSpec := { name := "busTimes", fn := fun _ => fun
  | [d1, d2] => { results := [.lit (.bool true)], args := [d1, d2] }
  | _ => none }
def busTimesRow : OpenClaim := { program := "ythiephlfhbkcbaa", sum := "82cdc3e9d575ba1623611592bc0fb8b1427ab89c957df2173a270bb0b375c064", func := "innkeeper/innkeeperlaw15.BusTimes", spec := "busTimes", apart := false }
def BusTimesSaid : Prop := busTimesRow.holds Try.pinned (OpenSpec.ofChange busTimesSpec)

/-- ITS FALSE NEIGHBOUR: 'it returns false'. Refute it at one input. -/
def busTimesWrong : ChangeSpec := { name := "busTimes", fn := fun _ => fun
  | [d1, d2] => { results := [.lit (.bool false)], args := [d1, d2] }
  | _ => none }
def BusTimesWrongFalsely : Prop := busTimesRow.holds Try.pinned (OpenSpec.ofChange busTimesWrong)

/-- 'innkeeperlaw10.MmuWrites': WHATEVER THE INPUT: true; the input reads as it did. -/
def mmuWritesSpec : ChangeSpec := { name := "mmuWrites", fn := fun _ => fun
  | [d1, d2, d3, d4, d5, d6] => { results := [.lit (.bool true)], args := [d1, d2, d3, d4, d5, d6] }
  | _ => none }
def mmuWritesRow : OpenClaim := { program := "ythiephlfhbkcbaa", sum := "82cdc3e9d575ba1623611592bc0fb8b1427ab89c957df2173a270bb0b375c064", func := "innkeeper/innkeeperlaw10.MmuWrites", spec := "mmuWrites", apart := false }
def MmuWritesSaid : Prop := mmuWritesRow.holds Try.pinned (OpenSpec.ofChange mmuWritesSpec)

/-- ITS FALSE NEIGHBOUR: 'it returns false'. Refute it at one input. -/
def mmuWritesWrong : ChangeSpec := { name := "mmuWrites", fn := fun _ => fun
  | [d1, d2, d3, d4, d5, d6] => { results := [.lit (.bool false)], args := [d1, d2, d3, d4, d5, d6] }
  | _ => none }
def MmuWritesWrongFalsely : Prop := mmuWritesRow.holds Try.pinned (OpenSpec.ofChange mmuWritesWrong)

/-- 'innkeeperlaw10.MmuBuffer': WHATEVER THE INPUT: true; the input reads as it did. -/
def mmuBufferSpec : ChangeSpec := { name := "mmuBuffer", fn := fun _ => fun
  | [d1, d2] => { results := [.lit (.bool true)], args := [d1, d2] }
  | _ => none }
def mmuBufferRow : OpenClaim := { program := "ythiephlfhbkcbaa", sum := "82cdc3e9d575ba1623611592bc0fb8b1427ab89c957df2173a270bb0b375c064", func := "innkeeper/innkeeperlaw10.MmuBuffer", spec := "mmuBuffer", apart := false }
def MmuBufferSaid : Prop := mmuBufferRow.holds Try.pinned (OpenSpec.ofChange mmuBufferSpec)

/-- ITS FALSE NEIGHBOUR: 'it returns false'. Refute it at one input. -/
def mmuBufferWrong : ChangeSpec := { name := "mmuBuffer", fn := fun _ => fun
  | [d1, d2] => { results := [.lit (.bool false)], args := [d1, d2] }
  | _ => none }
def MmuBufferWrongFalsely : Prop := mmuBufferRow.holds Try.pinned (OpenSpec.ofChange mmuBufferWrong)

/-- 'innkeeperlaw10.MmuPlain': WHATEVER THE INPUT: true; the input reads as it did. -/
def mmuPlainSpec : ChangeSpec := { name := "mmuPlain", fn := fun _ => fun
  | [d1, d2] => { results := [.lit (.bool true)], args := [d1, d2] }
  | _ => none }
def mmuPlainRow : OpenClaim := { program := "ythiephlfhbkcbaa", sum := "82cdc3e9d575ba1623611592bc0fb8b1427ab89c957df2173a270bb0b375c064", func := "innkeeper/innkeeperlaw10.MmuPlain", spec := "mmuPlain", apart := false }
def MmuPlainSaid : Prop := mmuPlainRow.holds Try.pinned (OpenSpec.ofChange mmuPlainSpec)

/-- ITS FALSE NEIGHBOUR: 'it returns false'. Refute it at one input. -/
def mmuPlainWrong : ChangeSpec := { name := "mmuPlain", fn := fun _ => fun
  | [d1, d2] => { results := [.lit (.bool false)], args := [d1, d2] }
  | _ => none }
def MmuPlainWrongFalsely : Prop := mmuPlainRow.holds Try.pinned (OpenSpec.ofChange mmuPlainWrong)

/-- 'innkeeperlaw10.MmuSplits': WHATEVER THE INPUT: true; the input reads as it did. -/
def mmuSplitsSpec : ChangeSpec := { name := "mmuSplits", fn := fun _ => fun
  | [d1, d2, d3, d4, d5] => { results := [.lit (.bool true)], args := [d1, d2, d3, d4, d5] }
  | _ => none }
def mmuSplitsRow : OpenClaim := { program := "ythiephlfhbkcbaa", sum := "82cdc3e9d575ba1623611592bc0fb8b1427ab89c957df2173a270bb0b375c064", func := "innkeeper/innkeeperlaw10.MmuSplits", spec := "mmuSplits", unfollowed := true, recurses := true, apart := false }
def MmuSplitsSaid : Prop := mmuSplitsRow.holds Try.pinned (OpenSpec.ofChange mmuSplitsSpec)

/-- ITS FALSE NEIGHBOUR: 'it returns false'. Refute it at one input. -/
def mmuSplitsWrong : ChangeSpec := { name := "mmuSplits", fn := fun _ => fun
  | [d1, d2, d3, d4, d5] => { results := [.lit (.bool false)], args := [d1, d2, d3, d4, d5] }
  | _ => none }
def MmuSplitsWrongFalsely : Prop := mmuSplitsRow.holds Try.pinned (OpenSpec.ofChange mmuSplitsWrong)

/-- 'innkeeperlaw10.MmuNumbers': WHATEVER THE INPUT: true; the input reads as it did. -/
def mmuNumbersSpec : ChangeSpec := { name := "mmuNumbers", fn := fun _ => fun
  | [] => { results := [.lit (.bool true)], args := [] }
  | _ => none }
def mmuNumbersRow : OpenClaim := { program := "ythiephlfhbkcbaa", sum := "82cdc3e9d575ba1623611592bc0fb8b1427ab89c957df2173a270bb0b375c064", func := "innkeeper/innkeeperlaw10.MmuNumbers", spec := "mmuNumbers", apart := false }
def MmuNumbersSaid : Prop := mmuNumbersRow.holds Try.pinned (OpenSpec.ofChange mmuNumbersSpec)

/-- ITS FALSE NEIGHBOUR: 'it returns false'. Refute it at one input. -/
def mmuNumbersWrong : ChangeSpec := { name := "mmuNumbers", fn := fun _ => fun
  | [] => { results := [.lit (.bool false)], args := [] }
  | _ => none }
def MmuNumbersWrongFalsely : Prop := mmuNumbersRow.holds Try.pinned (OpenSpec.ofChange mmuNumbersWrong)

/-- 'innkeeperlaw10.MmuPlays': WHATEVER THE INPUT: true; the input reads as it did. -/
def mmuPlaysSpec : ChangeSpec := { name := "mmuPlays", fn := fun _ => fun
  | [d1, d2, d3] => { results := [.lit (.bool true)], args := [d1, d2, d3] }
  | _ => none }
def mmuPlaysRow : OpenClaim := { program := "ythiephlfhbkcbaa", sum := "82cdc3e9d575ba1623611592bc0fb8b1427ab89c957df2173a270bb0b375c064", func := "innkeeper/innkeeperlaw10.MmuPlays", spec := "mmuPlays", apart := false }
def MmuPlaysSaid : Prop := mmuPlaysRow.holds Try.pinned (OpenSpec.ofChange mmuPlaysSpec)

/-- ITS FALSE NEIGHBOUR: 'it returns false'. Refute it at one input. -/
def mmuPlaysWrong : ChangeSpec := { name := "mmuPlays", fn := fun _ => fun
  | [d1, d2, d3] => { results := [.lit (.bool false)], args := [d1, d2, d3] }
  | _ => none }
def MmuPlaysWrongFalsely : Prop := mmuPlaysRow.holds Try.pinned (OpenSpec.ofChange mmuPlaysWrong)

/- THE SECOND FORM. 'bulk': how many values and letters a reading holds, each counted each time it is reached (what is shared counts as often as it is met; a slice's spare places count too). A statement '..UptoSaid' is the law's where the arguments, and the package variables that the reading takes, are together of bulk at most 1048576: NARROWER than '..Said'. Prove '..Said' where nothing that the law and all that it calls make is longer than what came in: it says more and counts as full. Else prove '..UptoSaid'. A law counts once. -/
mutual
def uptoBulk {H : Type} : DataW H → Nat
  | .lit (.string bytes) => bytes.length + 1
  | .lit _ => 1
  | .nil => 1
  | .ptr d => uptoBulk d + 1
  | .slice elems spare => uptoBulkAll elems + uptoBulkAll spare + 1
  | .agg parts => uptoBulkAll parts + 1
  | .iface _ d => uptoBulk d + 1
  | .map entries => uptoBulkEntries entries + 1
  | .held _ => 1
def uptoBulkAll {H : Type} : List (DataW H) → Nat
  | [] => 0
  | d :: r => uptoBulk d + uptoBulkAll r
def uptoBulkEntries {H : Type} : List (Lit × DataW H) → Nat
  | [] => 0
  | x :: r => uptoBulkEntry x + uptoBulkEntries r
def uptoBulkEntry {H : Type} : Lit × DataW H → Nat
  | (.string bytes, d) => bytes.length + uptoBulk d + 1
  | (_, d) => uptoBulk d + 1
 end
def uptoSmall : (H : Type) → List (DataW H) → Bool := fun _ ds => decide (uptoBulkAll ds ≤ 1048576)
def OpenSpec.upto (s : _root_.Go.ChangeSpec) : _root_.Go.OpenSpec := { _root_.Go.OpenSpec.ofChange s with cond := some uptoSmall }

/-- 'innkeeperlaw15.BusReads', WHERE WHAT IT READS IS OF BULK AT MOST 1048576: true; the input reads as it did. -/
def busReadsUptoRow : OpenClaim := { program := "ythiephlfhbkcbaa", sum := "82cdc3e9d575ba1623611592bc0fb8b1427ab89c957df2173a270bb0b375c064", func := "innkeeper/innkeeperlaw15.BusReads", spec := "busReads", apart := false, narrowed := true }
def BusReadsUptoSaid : Prop := busReadsUptoRow.holds Try.pinned (OpenSpec.upto busReadsSpec)

/-- 'innkeeperlaw15.BusDrives', WHERE WHAT IT READS IS OF BULK AT MOST 1048576: true; the input reads as it did. -/
def busDrivesUptoRow : OpenClaim := { program := "ythiephlfhbkcbaa", sum := "82cdc3e9d575ba1623611592bc0fb8b1427ab89c957df2173a270bb0b375c064", func := "innkeeper/innkeeperlaw15.BusDrives", spec := "busDrives", apart := false, narrowed := true }
def BusDrivesUptoSaid : Prop := busDrivesUptoRow.holds Try.pinned (OpenSpec.upto busDrivesSpec)

/-- 'innkeeperlaw15.BusTimes', WHERE WHAT IT READS IS OF BULK AT MOST 1048576: true; the input reads as it did. -/
def busTimesUptoRow : OpenClaim := { program := "ythiephlfhbkcbaa", sum := "82cdc3e9d575ba1623611592bc0fb8b1427ab89c957df2173a270bb0b375c064", func := "innkeeper/innkeeperlaw15.BusTimes", spec := "busTimes", apart := false, narrowed := true }
def BusTimesUptoSaid : Prop := busTimesUptoRow.holds Try.pinned (OpenSpec.upto busTimesSpec)

/-- 'innkeeperlaw10.MmuWrites', WHERE WHAT IT READS IS OF BULK AT MOST 1048576: true; the input reads as it did. -/
def mmuWritesUptoRow : OpenClaim := { program := "ythiephlfhbkcbaa", sum := "82cdc3e9d575ba1623611592bc0fb8b1427ab89c957df2173a270bb0b375c064", func := "innkeeper/innkeeperlaw10.MmuWrites", spec := "mmuWrites", apart := false, narrowed := true }
def MmuWritesUptoSaid : Prop := mmuWritesUptoRow.holds Try.pinned (OpenSpec.upto mmuWritesSpec)

/-- 'innkeeperlaw10.MmuBuffer', WHERE WHAT IT READS IS OF BULK AT MOST 1048576: true; the input reads as it did. -/
def mmuBufferUptoRow : OpenClaim := { program := "ythiephlfhbkcbaa", sum := "82cdc3e9d575ba1623611592bc0fb8b1427ab89c957df2173a270bb0b375c064", func := "innkeeper/innkeeperlaw10.MmuBuffer", spec := "mmuBuffer", apart := false, narrowed := true }
def MmuBufferUptoSaid : Prop := mmuBufferUptoRow.holds Try.pinned (OpenSpec.upto mmuBufferSpec)

/-- 'innkeeperlaw10.MmuPlain', WHERE WHAT IT READS IS OF BULK AT MOST 1048576: true; the input reads as it did. -/
def mmuPlainUptoRow : OpenClaim := { program := "ythiephlfhbkcbaa", sum := "82cdc3e9d575ba1623611592bc0fb8b1427ab89c957df2173a270bb0b375c064", func := "innkeeper/innkeeperlaw10.MmuPlain", spec := "mmuPlain", apart := false, narrowed := true }
def MmuPlainUptoSaid : Prop := mmuPlainUptoRow.holds Try.pinned (OpenSpec.upto mmuPlainSpec)

/-- 'innkeeperlaw10.MmuSplits', WHERE WHAT IT READS IS OF BULK AT MOST 1048576: true; the input reads as it did. -/
def mmuSplitsUptoRow : OpenClaim := { program := "ythiephlfhbkcbaa", sum := "82cdc3e9d575ba1623611592bc0fb8b1427ab89c957df2173a270bb0b375c064", func := "innkeeper/innkeeperlaw10.MmuSplits", spec := "mmuSplits", unfollowed := true, recurses := true, apart := false, narrowed := true }
def MmuSplitsUptoSaid : Prop := mmuSplitsUptoRow.holds Try.pinned (OpenSpec.upto mmuSplitsSpec)

/-- 'innkeeperlaw10.MmuNumbers', WHERE WHAT IT READS IS OF BULK AT MOST 1048576: true; the input reads as it did. -/
def mmuNumbersUptoRow : OpenClaim := { program := "ythiephlfhbkcbaa", sum := "82cdc3e9d575ba1623611592bc0fb8b1427ab89c957df2173a270bb0b375c064", func := "innkeeper/innkeeperlaw10.MmuNumbers", spec := "mmuNumbers", apart := false, narrowed := true }
def MmuNumbersUptoSaid : Prop := mmuNumbersUptoRow.holds Try.pinned (OpenSpec.upto mmuNumbersSpec)

/-- 'innkeeperlaw10.MmuPlays', WHERE WHAT IT READS IS OF BULK AT MOST 1048576: true; the input reads as it did. -/
def mmuPlaysUptoRow : OpenClaim := { program := "ythiephlfhbkcbaa", sum := "82cdc3e9d575ba1623611592bc0fb8b1427ab89c957df2173a270bb0b375c064", func := "innkeeper/innkeeperlaw10.MmuPlays", spec := "mmuPlays", apart := false, narrowed := true }
def MmuPlaysUptoSaid : Prop := mmuPlaysUptoRow.holds Try.pinned (OpenSpec.upto mmuPlaysSpec)

end Rows
end Go.Proofs.Ythiephlfhbkcbaa
