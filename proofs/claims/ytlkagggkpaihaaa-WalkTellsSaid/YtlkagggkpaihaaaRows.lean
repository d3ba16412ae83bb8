/-
  No cell of these rows narrows 'for every input' (looked for: loops, veiled, ifaces, maps, wideKeys, modest, calm, conditions, laid).
  DERIVED. THE GIVEN ROWS OF THIS SEAT. 9 by the template 'for every input the law returns true; each argument reads behind the call as it read before'; 0 by the template 'total and deterministic' (their statements: YtlkagggkpaihaaaTotals.lean).
  GIVEN WITH THE SEED: the statements are not yours to turn. If you find one false, say at which input.
  Laid BY PROGRAM, IN A SANDBOX (cutbox-rows.mjs): the forced cells as the released guide's own fill.sh prints them over the translation 8816b33bf8446470… (all of the seat's roots in one cut). By AI agents, Wed Nov 11 2026. No macro, syntax, notation, axiom, sorry.
-/
import Derived.Test.YtlkagggkpaihaaaChecked
import GoSem.Claim
import GoSem.ClaimJoined
import GoSem.ClaimMapViews
import Derived.JoinedTies
import Derived.KernelRfl
namespace Go.Proofs.Ytlkagggkpaihaaa
/- THE CELL 'sum', in the pinned program and in every row, IS THE sha256 OF THE DUMP (.gsa) THAT YtlkagggkpaihaaaProg.lean LOADS. Nothing in Lean hashes anything: it is a label: what it is worth is what the hold of that sum in a sandbox is worth. -/
noncomputable def Try.pinned : Pinned := { name := "ytlkagggkpaihaaa", sum := "8816b33bf844647075cd69adca3c6d5f1eb5fcb16ed906655efe7d38468fcf85", checked := Try.checked }
namespace Rows
def none {H : Type} : Left H := { results := [], args := [] }

/-- 'innkeeperlaw14.DriveSectors': WHATEVER THE INPUT: true; the input reads as it did. -/
def driveSectorsSpec : ChangeSpec := { name := "driveSectors", fn := fun _ => fun
  | [d1, d2] => { results := [.lit (.bool true)], args := [d1, d2] }
  | _ => none }
def driveSectorsRow : OpenClaim := { program := "ytlkagggkpaihaaa", sum := "8816b33bf844647075cd69adca3c6d5f1eb5fcb16ed906655efe7d38468fcf85", func := "innkeeper/innkeeperlaw14.DriveSectors", spec := "driveSectors", unfollowed := true, recurses := true, apart := false }
def DriveSectorsSaid : Prop := driveSectorsRow.holds Try.pinned (OpenSpec.ofChange driveSectorsSpec)

/-- ITS FALSE NEIGHBOUR: 'it returns false'. Refute it at one input. -/
def driveSectorsWrong : ChangeSpec := { name := "driveSectors", fn := fun _ => fun
  | [d1, d2] => { results := [.lit (.bool false)], args := [d1, d2] }
  | _ => none }
def DriveSectorsWrongFalsely : Prop := driveSectorsRow.holds Try.pinned (OpenSpec.ofChange driveSectorsWrong)

/-- 'innkeeperlaw14.DriveBack': WHATEVER THE INPUT: true; the input reads as it did. -/
def driveBackSpec : ChangeSpec := { name := "driveBack", fn := fun _ => fun
  | [d1, d2, d3, d4] => { results := [.lit (.bool true)], args := [d1, d2, d3, d4] }
  | _ => none }
def driveBackRow : OpenClaim := { program := "ytlkagggkpaihaaa", sum := "8816b33bf844647075cd69adca3c6d5f1eb5fcb16ed906655efe7d38468fcf85", func := "innkeeper/innkeeperlaw14.DriveBack", spec := "driveBack", apart := false }
def DriveBackSaid : Prop := driveBackRow.holds Try.pinned (OpenSpec.ofChange driveBackSpec)

/-- ITS FALSE NEIGHBOUR: 'it returns false'. Refute it at one input. -/
def driveBackWrong : ChangeSpec := { name := "driveBack", fn := fun _ => fun
  | [d1, d2, d3, d4] => { results := [.lit (.bool false)], args := [d1, d2, d3, d4] }
  | _ => none }
def DriveBackWrongFalsely : Prop := driveBackRow.holds Try.pinned (OpenSpec.ofChange driveBackWrong)

/-- 'innkeeperlaw14.DriveNumbers': WHATEVER THE INPUT: true; the input reads as it did. -/
def driveNumbersSpec : ChangeSpec := { name := "driveNumbers", fn := fun _ => fun
  | [] => { results := [.lit (.bool true)], args := [] }
  | _ => none }
def driveNumbersRow : OpenClaim := { program := "ytlkagggkpaihaaa", sum := "8816b33bf844647075cd69adca3c6d5f1eb5fcb16ed906655efe7d38468fcf85", func := "innkeeper/innkeeperlaw14.DriveNumbers", spec := "driveNumbers", apart := false }
def DriveNumbersSaid : Prop := driveNumbersRow.holds Try.pinned (OpenSpec.ofChange driveNumbersSpec)

/-- ITS FALSE NEIGHBOUR: 'it returns false'. Refute it at one input. -/
def driveNumbersWrong : ChangeSpec := { name := "driveNumbers", fn := fun _ => fun
  | [] => { results := [.lit (.bool false)], args := [] }
  | _ => none }
def DriveNumbersWrongFalsely : Prop := driveNumbersRow.holds Try.pinned (OpenSpec.ofChange driveNumbersWrong)

/-- 'innkeeperlaw14.DrivePlays': WHATEVER THE INPUT: true; the input reads as it did. -/
def drivePlaysSpec : ChangeSpec := { name := "drivePlays", fn := fun _ => fun
  | [d1, d2, d3] => { results := [.lit (.bool true)], args := [d1, d2, d3] }
  | _ => none }
def drivePlaysRow : OpenClaim := { program := "ytlkagggkpaihaaa", sum := "8816b33bf844647075cd69adca3c6d5f1eb5fcb16ed906655efe7d38468fcf85", func := "innkeeper/innkeeperlaw14.DrivePlays", spec := "drivePlays", apart := false }
def DrivePlaysSaid : Prop := drivePlaysRow.holds Try.pinned (OpenSpec.ofChange drivePlaysSpec)

/-- ITS FALSE NEIGHBOUR: 'it returns false'. Refute it at one input. -/
def drivePlaysWrong : ChangeSpec := { name := "drivePlays", fn := fun _ => fun
  | [d1, d2, d3] => { results := [.lit (.bool false)], args := [d1, d2, d3] }
  | _ => none }
def DrivePlaysWrongFalsely : Prop := drivePlaysRow.holds Try.pinned (OpenSpec.ofChange drivePlaysWrong)

/-- 'innkeeperlaw14.DriveRefused': WHATEVER THE INPUT: true; the input reads as it did. -/
def driveRefusedSpec : ChangeSpec := { name := "driveRefused", fn := fun _ => fun
  | [d1, d2, d3, d4, d5] => { results := [.lit (.bool true)], args := [d1, d2, d3, d4, d5] }
  | _ => none }
def driveRefusedRow : OpenClaim := { program := "ytlkagggkpaihaaa", sum := "8816b33bf844647075cd69adca3c6d5f1eb5fcb16ed906655efe7d38468fcf85", func := "innkeeper/innkeeperlaw14.DriveRefused", spec := "driveRefused", apart := false }
def DriveRefusedSaid : Prop := driveRefusedRow.holds Try.pinned (OpenSpec.ofChange driveRefusedSpec)

/-- ITS FALSE NEIGHBOUR: 'it returns false'. Refute it at one input. -/
def driveRefusedWrong : ChangeSpec := { name := "driveRefused", fn := fun _ => fun
  | [d1, d2, d3, d4, d5] => { results := [.lit (.bool false)], args := [d1, d2, d3, d4, d5] }
  | _ => none }
def DriveRefusedWrongFalsely : Prop := driveRefusedRow.holds Try.pinned (OpenSpec.ofChange driveRefusedWrong)

/-- 'innkeeperlaw8.WalkLevels': WHATEVER THE INPUT: true; the input reads as it did. -/
def walkLevelsSpec : ChangeSpec := { name := "walkLevels", fn := fun _ => fun
  | [d1, d2, d3] => { results := [.lit (.bool true)], args := [d1, d2, d3] }
  | _ => none }
def walkLevelsRow : OpenClaim := { program := "ytlkagggkpaihaaa", sum := "8816b33bf844647075cd69adca3c6d5f1eb5fcb16ed906655efe7d38468fcf85", func := "innkeeper/innkeeperlaw8.WalkLevels", spec := "walkLevels", apart := false }
def WalkLevelsSaid : Prop := walkLevelsRow.holds Try.pinned (OpenSpec.ofChange walkLevelsSpec)

/-- ITS FALSE NEIGHBOUR: 'it returns false'. Refute it at one input. -/
def walkLevelsWrong : ChangeSpec := { name := "walkLevels", fn := fun _ => fun
  | [d1, d2, d3] => { results := [.lit (.bool false)], args := [d1, d2, d3] }
  | _ => none }
def WalkLevelsWrongFalsely : Prop := walkLevelsRow.holds Try.pinned (OpenSpec.ofChange walkLevelsWrong)

/-- 'innkeeperlaw8.WalkBits': WHATEVER THE INPUT: true; the input reads as it did. -/
def walkBitsSpec : ChangeSpec := { name := "walkBits", fn := fun _ => fun
  | [d1, d2, d3] => { results := [.lit (.bool true)], args := [d1, d2, d3] }
  | _ => none }
def walkBitsRow : OpenClaim := { program := "ytlkagggkpaihaaa", sum := "8816b33bf844647075cd69adca3c6d5f1eb5fcb16ed906655efe7d38468fcf85", func := "innkeeper/innkeeperlaw8.WalkBits", spec := "walkBits", apart := false }
def WalkBitsSaid : Prop := walkBitsRow.holds Try.pinned (OpenSpec.ofChange walkBitsSpec)

/-- ITS FALSE NEIGHBOUR: 'it returns false'. Refute it at one input. -/
def walkBitsWrong : ChangeSpec := { name := "walkBits", fn := fun _ => fun
  | [d1, d2, d3] => { results := [.lit (.bool false)], args := [d1, d2, d3] }
  | _ => none }
def WalkBitsWrongFalsely : Prop := walkBitsRow.holds Try.pinned (OpenSpec.ofChange walkBitsWrong)

/-- 'innkeeperlaw8.WalkNumbers': WHATEVER THE INPUT: true; the input reads as it did. -/
def walkNumbersSpec : ChangeSpec := { name := "walkNumbers", fn := fun _ => fun
  | [] => { results := [.lit (.bool true)], args := [] }
  | _ => none }
def walkNumbersRow : OpenClaim := { program := "ytlkagggkpaihaaa", sum := "8816b33bf844647075cd69adca3c6d5f1eb5fcb16ed906655efe7d38468fcf85", func := "innkeeper/innkeeperlaw8.WalkNumbers", spec := "walkNumbers", apart := false }
def WalkNumbersSaid : Prop := walkNumbersRow.holds Try.pinned (OpenSpec.ofChange walkNumbersSpec)

/-- ITS FALSE NEIGHBOUR: 'it returns false'. Refute it at one input. -/
def walkNumbersWrong : ChangeSpec := { name := "walkNumbers", fn := fun _ => fun
  | [] => { results := [.lit (.bool false)], args := [] }
  | _ => none }
def WalkNumbersWrongFalsely : Prop := walkNumbersRow.holds Try.pinned (OpenSpec.ofChange walkNumbersWrong)

/-- 'innkeeperlaw8.WalkTells': WHATEVER THE INPUT: true; the input reads as it did. -/
def walkTellsSpec : ChangeSpec := { name := "walkTells", fn := fun _ => fun
  | [d1, d2, d3, d4] => { results := [.lit (.bool true)], args := [d1, d2, d3, d4] }
  | _ => none }
def walkTellsRow : OpenClaim := { program := "ytlkagggkpaihaaa", sum := "8816b33bf844647075cd69adca3c6d5f1eb5fcb16ed906655efe7d38468fcf85", func := "innkeeper/innkeeperlaw8.WalkTells", spec := "walkTells", apart := false }
def WalkTellsSaid : Prop := walkTellsRow.holds Try.pinned (OpenSpec.ofChange walkTellsSpec)

/-- ITS FALSE NEIGHBOUR: 'it returns false'. Refute it at one input. -/
def walkTellsWrong : ChangeSpec := { name := "walkTells", fn := fun _ => fun
  | [d1, d2, d3, d4] => { results := [.lit (.bool false)], args := [d1, d2, d3, d4] }
  | _ => none }
def WalkTellsWrongFalsely : Prop := walkTellsRow.holds Try.pinned (OpenSpec.ofChange walkTellsWrong)

/- THE SECOND FORM. 'bulk': how many values and letters a reading holds, each counted each time it is reached (what is shared counts as often as it is met; a slice's spare places count too). A statement '..UptoSaid' is the law's where the arguments, and the package variables that the reading takes, are together of bulk at most 1048576: NARROWER than '..Said'. Prove '..Said' where nothing that the law and all that it calls make is longer than what came in: it says more and counts as full. Else prove '..UptoSaid'. A law counts once. -/
mutual
def uptoBulk {H : Type} : DataW H → Nat
  | .lit (.string bytes) => bytes.length + 1
  | .lit _ => 1
  | .nil => 1
  | .ptr d => uptoBulk d + 1
  | .slice elems spare => uptoBulkAll elems + uptoBulkAll spare + 1
  | .agg parts => uptoBulkAll parts + 1
  | .iface _ d => uptoBulk d + 1
  | .map entries => uptoBulkEntries entries + 1
  | .held _ => 1
def uptoBulkAll {H : Type} : List (DataW H) → Nat
  | [] => 0
  | d :: r => uptoBulk d + uptoBulkAll r
def uptoBulkEntries {H : Type} : List (Lit × DataW H) → Nat
  | [] => 0
  | x :: r => uptoBulkEntry x + uptoBulkEntries r
def uptoBulkEntry {H : Type} : Lit × DataW H → Nat
  | (.string bytes, d) => bytes.length + uptoBulk d + 1
  | (_, d) => uptoBulk d + 1
 end
def uptoSmall : (H : Type) → List (DataW H) → Bool := fun _ ds => decide (uptoBulkAll ds ≤ 1048576)
def OpenSpec.upto (s : _root_.Go.ChangeSpec) : _root_.Go.OpenSpec := { _root_.Go.OpenSpec.ofChange s with cond := some uptoSmall }

/-- 'innkeeperlaw14.DriveSectors', WHERE WHAT IT READS IS OF BULK AT MOST 1048576: true; the input reads as it did. -/
def driveSectorsUptoRow : OpenClaim := { program := "ytlkagggkpaihaaa", sum := "8816b33bf844647075cd69adca3c6d5f1eb5fcb16ed906655efe7d38468fcf85", func := "innkeeper/innkeeperlaw14.DriveSectors", spec := "driveSectors", unfollowed := true, recurses := true, apart := false, narrowed := true }
def DriveSectorsUptoSaid : Prop := driveSectorsUptoRow.holds Try.pinned (OpenSpec.upto driveSectorsSpec)

/-- 'innkeeperlaw14.DriveBack', WHERE WHAT IT READS IS OF BULK AT MOST 1048576: true; the input reads as it did. -/
def driveBackUptoRow : OpenClaim := { program := "ytlkagggkpaihaaa", sum := "8816b33bf844647075cd69adca3c6d5f1eb5fcb16ed906655efe7d38468fcf85", func := "innkeeper/innkeeperlaw14.DriveBack", spec := "driveBack", apart := false, narrowed := true }
def DriveBackUptoSaid : Prop := driveBackUptoRow.holds Try.pinned (OpenSpec.upto driveBackSpec)

/-- 'innkeeperlaw14.DriveNumbers', WHERE WHAT IT READS IS OF BULK AT MOST 1048576: true; the input reads as it did. -/
def driveNumbersUptoRow : OpenClaim := { program := "ytlkagggkpaihaaa", sum := "8816b33bf844647075cd69adca3c6d5f1eb5fcb16ed906655efe7d38468fcf85", func := "innkeeper/innkeeperlaw14.DriveNumbers", spec := "driveNumbers", apart := false, narrowed := true }
def DriveNumbersUptoSaid : Prop := driveNumbersUptoRow.holds Try.pinned (OpenSpec.upto driveNumbersSpec)

/-- 'innkeeperlaw14.DrivePlays', WHERE WHAT IT READS IS OF BULK AT MOST 1048576: true; the input reads as it did. -/
def drivePlaysUptoRow : OpenClaim := { program := "ytlkagggkpaihaaa", sum := "8816b33bf844647075cd69adca3c6d5f1eb5fcb16ed906655efe7d38468fcf85", func := "innkeeper/innkeeperlaw14.DrivePlays", spec := "drivePlays", apart := false, narrowed := true }
def DrivePlaysUptoSaid : Prop := drivePlaysUptoRow.holds Try.pinned (OpenSpec.upto drivePlaysSpec)

/-- 'innkeeperlaw14.DriveRefused', WHERE WHAT IT READS IS OF BULK AT MOST 1048576: true; the input reads as it did. -/
def driveRefusedUptoRow : OpenClaim := { program := "ytlkagggkpaihaaa", sum := "8816b33bf844647075cd69adca3c6d5f1eb5fcb16ed906655efe7d38468fcf85", func := "innkeeper/innkeeperlaw14.DriveRefused", spec := "driveRefused", apart := false, narrowed := true }
def DriveRefusedUptoSaid : Prop := driveRefusedUptoRow.holds Try.pinned (OpenSpec.upto driveRefusedSpec)

/-- 'innkeeperlaw8.WalkLevels', WHERE WHAT IT READS IS OF BULK AT MOST 1048576: true; the input reads as it did. -/
def walkLevelsUptoRow : OpenClaim := { program := "ytlkagggkpaihaaa", sum := "8816b33bf844647075cd69adca3c6d5f1eb5fcb16ed906655efe7d38468fcf85", func := "innkeeper/innkeeperlaw8.WalkLevels", spec := "walkLevels", apart := false, narrowed := true }
def WalkLevelsUptoSaid : Prop := walkLevelsUptoRow.holds Try.pinned (OpenSpec.upto walkLevelsSpec)

/-- 'innkeeperlaw8.WalkBits', WHERE WHAT IT READS IS OF BULK AT MOST 1048576: true; the input reads as it did. -/
def walkBitsUptoRow : OpenClaim := { program := "ytlkagggkpaihaaa", sum := "8816b33bf844647075cd69adca3c6d5f1eb5fcb16ed906655efe7d38468fcf85", func := "innkeeper/innkeeperlaw8.WalkBits", spec := "walkBits", apart := false, narrowed := true }
def WalkBitsUptoSaid : Prop := walkBitsUptoRow.holds Try.pinned (OpenSpec.upto walkBitsSpec)

/-- 'innkeeperlaw8.WalkNumbers', WHERE WHAT IT READS IS OF BULK AT MOST 1048576: true; the input reads as it did. -/
def walkNumbersUptoRow : OpenClaim := { program := "ytlkagggkpaihaaa", sum := "8816b33bf844647075cd69adca3c6d5f1eb5fcb16ed906655efe7d38468fcf85", func := "innkeeper/innkeeperlaw8.WalkNumbers", spec := "walkNumbers", apart := false, narrowed := true }
def WalkNumbersUptoSaid : Prop := walkNumbersUptoRow.holds Try.pinned (OpenSpec.upto walkNumbersSpec)

/-- 'innkeeperlaw8.WalkTells', WHERE WHAT IT READS IS OF BULK AT MOST 1048576: true; the input reads as it did. -/
def walkTellsUptoRow : OpenClaim := { program := "ytlkagggkpaihaaa", sum := "8816b33bf844647075cd69adca3c6d5f1eb5fcb16ed906655efe7d38468fcf85", func := "innkeeper/innkeeperlaw8.WalkTells", spec := "walkTells", apart := false, narrowed := true }
def WalkTellsUptoSaid : Prop := walkTellsUptoRow.holds Try.pinned (OpenSpec.upto walkTellsSpec)

end Rows
end Go.Proofs.Ytlkagggkpaihaaa
