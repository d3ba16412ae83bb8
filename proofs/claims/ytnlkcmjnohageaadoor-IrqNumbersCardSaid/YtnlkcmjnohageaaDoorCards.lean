/-
  DERIVED. GIVEN WITH THE SEED: THE CARDS: each row of YtnlkcmjnohageaaDoorRows.lean that lists a variable, with what it lists TIED to the program's text (the seventh form; the later family's looks); each row that meets fmt, with fmt's text TOLD by the authors' own Lean function (tested against real Go, not proved from fmt's source: count such statements apart). THE CARD IS WHAT COUNTS. Prove the row's statement (the work); the ties are given (YtnlkcmjnohageaaDoorTie.lean); close each card by the builder's one call (the guide's Derived/Test/ToyasCard.lean, 'card_holds'). Laid BY PROGRAM, IN A SANDBOX (cutbox-door.mjs). By AI agents, Wed Nov 11 2026. No macro, syntax, notation, axiom, sorry.
-/
import Derived.Test.YtnlkcmjnohageaaDoorRows
import GoSem.ClaimSeven
namespace Go.Proofs.YtnlkcmjnohageaaDoor
namespace Rows

/-- THE TIED CARD OF 'innkeeperlaw11.IrqTakes'. -/
def irqTakesCard : Claim7 := { stood := { row := irqTakesRow, standIns := [], harness := (true, "cf474f0de7b1822302c5672a6400f43773c8b352dc2f82bb7e1d7929bf9500c0"), looks := false }, kinds := [], alts := [], laidByText := true, laidKinds := [.data], laidTests := true, laidLooks := .later }
def IrqTakesCardSaid : Prop := Claim7.holds Tryd.pinned (.plain (OpenSpec.ofChange irqTakesSpec)) irqTakesCard

/-- THE TIED CARD OF 'innkeeperlaw11.IrqBits'. -/
def irqBitsCard : Claim7 := { stood := { row := irqBitsRow, standIns := [], harness := (true, "cf474f0de7b1822302c5672a6400f43773c8b352dc2f82bb7e1d7929bf9500c0"), looks := false }, kinds := [], alts := [], laidByText := true, laidKinds := [.data], laidTests := true, laidLooks := .later }
def IrqBitsCardSaid : Prop := Claim7.holds Tryd.pinned (.plain (OpenSpec.ofChange irqBitsSpec)) irqBitsCard

/-- THE TIED CARD OF 'innkeeperlaw11.IrqNumbers'. -/
def irqNumbersCard : Claim7 := { stood := { row := irqNumbersRow, standIns := [], harness := (true, "cf474f0de7b1822302c5672a6400f43773c8b352dc2f82bb7e1d7929bf9500c0"), looks := false }, kinds := [], alts := [], laidByText := true, laidKinds := [.data], laidTests := true, laidLooks := .later }
def IrqNumbersCardSaid : Prop := Claim7.holds Tryd.pinned (.plain (OpenSpec.ofChange irqNumbersSpec)) irqNumbersCard

/-- THE TIED CARD OF 'innkeeperlaw11.IrqPlays'. -/
def irqPlaysCard : Claim7 := { stood := { row := irqPlaysRow, standIns := [], harness := (true, "cf474f0de7b1822302c5672a6400f43773c8b352dc2f82bb7e1d7929bf9500c0"), looks := false }, kinds := [], alts := [], laidByText := true, laidKinds := [.data], laidTests := true, laidLooks := .later }
def IrqPlaysCardSaid : Prop := Claim7.holds Tryd.pinned (.plain (OpenSpec.ofChange irqPlaysSpec)) irqPlaysCard

/-- THE SECOND FORM's CARD OF 'innkeeperlaw11.IrqTakes'. -/
def irqTakesUptoCard : Claim7 := { stood := { row := irqTakesUptoRow, standIns := [], harness := (true, "cf474f0de7b1822302c5672a6400f43773c8b352dc2f82bb7e1d7929bf9500c0"), looks := false }, kinds := [], alts := [], laidByText := true, laidKinds := [.data], laidTests := true, laidLooks := .later }
def IrqTakesUptoCardSaid : Prop := Claim7.holds Tryd.pinned (.plain (OpenSpec.upto irqTakesSpec)) irqTakesUptoCard

/-- THE SECOND FORM's CARD OF 'innkeeperlaw11.IrqBits'. -/
def irqBitsUptoCard : Claim7 := { stood := { row := irqBitsUptoRow, standIns := [], harness := (true, "cf474f0de7b1822302c5672a6400f43773c8b352dc2f82bb7e1d7929bf9500c0"), looks := false }, kinds := [], alts := [], laidByText := true, laidKinds := [.data], laidTests := true, laidLooks := .later }
def IrqBitsUptoCardSaid : Prop := Claim7.holds Tryd.pinned (.plain (OpenSpec.upto irqBitsSpec)) irqBitsUptoCard

/-- THE SECOND FORM's CARD OF 'innkeeperlaw11.IrqNumbers'. -/
def irqNumbersUptoCard : Claim7 := { stood := { row := irqNumbersUptoRow, standIns := [], harness := (true, "cf474f0de7b1822302c5672a6400f43773c8b352dc2f82bb7e1d7929bf9500c0"), looks := false }, kinds := [], alts := [], laidByText := true, laidKinds := [.data], laidTests := true, laidLooks := .later }
def IrqNumbersUptoCardSaid : Prop := Claim7.holds Tryd.pinned (.plain (OpenSpec.upto irqNumbersSpec)) irqNumbersUptoCard

/-- THE SECOND FORM's CARD OF 'innkeeperlaw11.IrqPlays'. -/
def irqPlaysUptoCard : Claim7 := { stood := { row := irqPlaysUptoRow, standIns := [], harness := (true, "cf474f0de7b1822302c5672a6400f43773c8b352dc2f82bb7e1d7929bf9500c0"), looks := false }, kinds := [], alts := [], laidByText := true, laidKinds := [.data], laidTests := true, laidLooks := .later }
def IrqPlaysUptoCardSaid : Prop := Claim7.holds Tryd.pinned (.plain (OpenSpec.upto irqPlaysSpec)) irqPlaysUptoCard
end Rows
end Go.Proofs.YtnlkcmjnohageaaDoor
