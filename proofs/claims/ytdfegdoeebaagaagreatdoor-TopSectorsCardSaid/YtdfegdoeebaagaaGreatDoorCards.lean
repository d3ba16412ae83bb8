/-
  DERIVED. GIVEN WITH THE SEED: THE CARDS: each row of YtdfegdoeebaagaaGreatDoorRows.lean that lists a variable, with what it lists TIED to the program's text (the seventh form; the later family's looks); each row that meets fmt, with fmt's text TOLD by the authors' own Lean function (tested against real Go, not proved from fmt's source: count such statements apart). THE CARD IS WHAT COUNTS. Prove the row's statement (the work); the ties are given (YtdfegdoeebaagaaGreatDoorTie.lean); close each card by the builder's one call (the guide's Derived/Test/ToyasCard.lean, 'card_holds'). Laid BY PROGRAM, IN A SANDBOX (cutbox-door.mjs). By AI agents, Wed Nov 11 2026. No macro, syntax, notation, axiom, sorry.
-/
import Derived.Test.YtdfegdoeebaagaaGreatDoorRows
import GoSem.ClaimSeven
namespace Go.Proofs.YtdfegdoeebaagaaGreatDoor
namespace Rows

/-- THE TIED CARD OF 'innkeepertop.TopSectors'. -/
def topSectorsCard : Claim7 := { stood := { row := topSectorsRow, standIns := [], harness := (true, "416c0729281acecf46d6d9584be1f0950eec869a31cb4148cd21632aaa5dc097"), looks := false }, kinds := [], alts := [], laidByText := true, laidKinds := [.data], laidTests := true, laidLooks := .later }
def TopSectorsCardSaid : Prop := Claim7.holds Tryz.pinned (.plain (OpenSpec.ofChange topSectorsSpec)) topSectorsCard

/-- THE TIED CARD OF 'innkeepertop.TopFibs'. -/
def topFibsCard : Claim7 := { stood := { row := topFibsRow, standIns := [], harness := (true, "416c0729281acecf46d6d9584be1f0950eec869a31cb4148cd21632aaa5dc097"), looks := false }, kinds := [], alts := [], laidByText := true, laidKinds := [.data], laidTests := true, laidLooks := .later }
def TopFibsCardSaid : Prop := Claim7.holds Tryz.pinned (.plain (OpenSpec.ofChange topFibsSpec)) topFibsCard

/-- THE TIED CARD OF 'innkeepertop.TopPatches'. -/
def topPatchesCard : Claim7 := { stood := { row := topPatchesRow, standIns := [], harness := (true, "416c0729281acecf46d6d9584be1f0950eec869a31cb4148cd21632aaa5dc097"), looks := false }, kinds := [], alts := [], laidByText := true, laidKinds := [.data], laidTests := true, laidLooks := .later }
def TopPatchesCardSaid : Prop := Claim7.holds Tryz.pinned (.plain (OpenSpec.ofChange topPatchesSpec)) topPatchesCard

/-- THE SECOND FORM's CARD OF 'innkeepertop.TopSectors'. -/
def topSectorsUptoCard : Claim7 := { stood := { row := topSectorsUptoRow, standIns := [], harness := (true, "416c0729281acecf46d6d9584be1f0950eec869a31cb4148cd21632aaa5dc097"), looks := false }, kinds := [], alts := [], laidByText := true, laidKinds := [.data], laidTests := true, laidLooks := .later }
def TopSectorsUptoCardSaid : Prop := Claim7.holds Tryz.pinned (.plain (OpenSpec.upto topSectorsSpec)) topSectorsUptoCard

/-- THE SECOND FORM's CARD OF 'innkeepertop.TopFibs'. -/
def topFibsUptoCard : Claim7 := { stood := { row := topFibsUptoRow, standIns := [], harness := (true, "416c0729281acecf46d6d9584be1f0950eec869a31cb4148cd21632aaa5dc097"), looks := false }, kinds := [], alts := [], laidByText := true, laidKinds := [.data], laidTests := true, laidLooks := .later }
def TopFibsUptoCardSaid : Prop := Claim7.holds Tryz.pinned (.plain (OpenSpec.upto topFibsSpec)) topFibsUptoCard

/-- THE SECOND FORM's CARD OF 'innkeepertop.TopPatches'. -/
def topPatchesUptoCard : Claim7 := { stood := { row := topPatchesUptoRow, standIns := [], harness := (true, "416c0729281acecf46d6d9584be1f0950eec869a31cb4148cd21632aaa5dc097"), looks := false }, kinds := [], alts := [], laidByText := true, laidKinds := [.data], laidTests := true, laidLooks := .later }
def TopPatchesUptoCardSaid : Prop := Claim7.holds Tryz.pinned (.plain (OpenSpec.upto topPatchesSpec)) topPatchesUptoCard
end Rows
end Go.Proofs.YtdfegdoeebaagaaGreatDoor
