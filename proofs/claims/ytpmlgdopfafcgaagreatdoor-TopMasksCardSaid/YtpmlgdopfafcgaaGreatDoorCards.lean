/-
  DERIVED. GIVEN WITH THE SEED: THE CARDS: each row of YtpmlgdopfafcgaaGreatDoorRows.lean that lists a variable, with what it lists TIED to the program's text (the seventh form; the later family's looks); each row that meets fmt, with fmt's text TOLD by the authors' own Lean function (tested against real Go, not proved from fmt's source: count such statements apart). THE CARD IS WHAT COUNTS. Prove the row's statement (the work); the ties are given (YtpmlgdopfafcgaaGreatDoorTie.lean); close each card by the builder's one call (the guide's Derived/Test/ToyasCard.lean, 'card_holds'). Laid BY PROGRAM, IN A SANDBOX (cutbox-door.mjs). By AI agents, Wed Nov 11 2026. No macro, syntax, notation, axiom, sorry.
-/
import Derived.Test.YtpmlgdopfafcgaaGreatDoorRows
import GoSem.ClaimSeven
namespace Go.Proofs.YtpmlgdopfafcgaaGreatDoor
namespace Rows

/-- THE TIED CARD OF 'innkeepertop.TopIrqs'. -/
def topIrqsCard : Claim7 := { stood := { row := topIrqsRow, standIns := [], harness := (true, "fc7d6a82c040c00dcd08622d329864d5a0ef01080be9bc4fa1fce214407df52a"), looks := false }, kinds := [], alts := [], laidByText := true, laidKinds := [.data], laidTests := true, laidLooks := .later }
def TopIrqsCardSaid : Prop := Claim7.holds Tryz.pinned (.plain (OpenSpec.ofChange topIrqsSpec)) topIrqsCard

/-- THE TIED CARD OF 'innkeepertop.TopMasks'. -/
def topMasksCard : Claim7 := { stood := { row := topMasksRow, standIns := [], harness := (true, "fc7d6a82c040c00dcd08622d329864d5a0ef01080be9bc4fa1fce214407df52a"), looks := false }, kinds := [], alts := [], laidByText := true, laidKinds := [.data], laidTests := true, laidLooks := .later }
def TopMasksCardSaid : Prop := Claim7.holds Tryz.pinned (.plain (OpenSpec.ofChange topMasksSpec)) topMasksCard

/-- THE TIED CARD OF 'innkeepertop.TopEnds'. -/
def topEndsCard : Claim7 := { stood := { row := topEndsRow, standIns := [], harness := (true, "fc7d6a82c040c00dcd08622d329864d5a0ef01080be9bc4fa1fce214407df52a"), looks := false }, kinds := [], alts := [], laidByText := true, laidKinds := [.data], laidTests := true, laidLooks := .later }
def TopEndsCardSaid : Prop := Claim7.holds Tryz.pinned (.plain (OpenSpec.ofChange topEndsSpec)) topEndsCard

/-- THE SECOND FORM's CARD OF 'innkeepertop.TopIrqs'. -/
def topIrqsUptoCard : Claim7 := { stood := { row := topIrqsUptoRow, standIns := [], harness := (true, "fc7d6a82c040c00dcd08622d329864d5a0ef01080be9bc4fa1fce214407df52a"), looks := false }, kinds := [], alts := [], laidByText := true, laidKinds := [.data], laidTests := true, laidLooks := .later }
def TopIrqsUptoCardSaid : Prop := Claim7.holds Tryz.pinned (.plain (OpenSpec.upto topIrqsSpec)) topIrqsUptoCard

/-- THE SECOND FORM's CARD OF 'innkeepertop.TopMasks'. -/
def topMasksUptoCard : Claim7 := { stood := { row := topMasksUptoRow, standIns := [], harness := (true, "fc7d6a82c040c00dcd08622d329864d5a0ef01080be9bc4fa1fce214407df52a"), looks := false }, kinds := [], alts := [], laidByText := true, laidKinds := [.data], laidTests := true, laidLooks := .later }
def TopMasksUptoCardSaid : Prop := Claim7.holds Tryz.pinned (.plain (OpenSpec.upto topMasksSpec)) topMasksUptoCard

/-- THE SECOND FORM's CARD OF 'innkeepertop.TopEnds'. -/
def topEndsUptoCard : Claim7 := { stood := { row := topEndsUptoRow, standIns := [], harness := (true, "fc7d6a82c040c00dcd08622d329864d5a0ef01080be9bc4fa1fce214407df52a"), looks := false }, kinds := [], alts := [], laidByText := true, laidKinds := [.data], laidTests := true, laidLooks := .later }
def TopEndsUptoCardSaid : Prop := Claim7.holds Tryz.pinned (.plain (OpenSpec.upto topEndsSpec)) topEndsUptoCard
end Rows
end Go.Proofs.YtpmlgdopfafcgaaGreatDoor
