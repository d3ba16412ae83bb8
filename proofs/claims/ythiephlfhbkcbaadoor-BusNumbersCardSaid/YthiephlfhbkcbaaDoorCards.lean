/-
  DERIVED. GIVEN WITH THE SEED: THE CARDS: each row of YthiephlfhbkcbaaDoorRows.lean that lists a variable, with what it lists TIED to the program's text (the seventh form; the later family's looks); each row that meets fmt, with fmt's text TOLD by the authors' own Lean function (tested against real Go, not proved from fmt's source: count such statements apart). THE CARD IS WHAT COUNTS. Prove the row's statement (the work); the ties are given (YthiephlfhbkcbaaDoorTie.lean); close each card by the builder's one call (the guide's Derived/Test/ToyasCard.lean, 'card_holds'). Laid BY PROGRAM, IN A SANDBOX (cutbox-door.mjs). By AI agents, Wed Nov 11 2026. No macro, syntax, notation, axiom, sorry.
-/
import Derived.Test.YthiephlfhbkcbaaDoorRows
import GoSem.ClaimSeven
namespace Go.Proofs.YthiephlfhbkcbaaDoor
namespace Rows

/-- THE TIED CARD OF 'innkeeperlaw15.BusPromotes'. -/
def busPromotesCard : Claim7 := { stood := { row := busPromotesRow, standIns := [], harness := (true, "dff0b01f7c86167e26ce3d0a441580e9eb970b0d98fefa82f6ff643086f5170a"), looks := false }, kinds := [], alts := [], laidByText := true, laidKinds := [.data], laidTests := true, laidLooks := .later }
def BusPromotesCardSaid : Prop := Claim7.holds Tryd.pinned (.plain (OpenSpec.ofChange busPromotesSpec)) busPromotesCard

/-- THE TIED CARD OF 'innkeeperlaw15.BusOthers'. -/
def busOthersCard : Claim7 := { stood := { row := busOthersRow, standIns := [], harness := (true, "dff0b01f7c86167e26ce3d0a441580e9eb970b0d98fefa82f6ff643086f5170a"), looks := false }, kinds := [], alts := [], laidByText := true, laidKinds := [.data], laidTests := true, laidLooks := .later }
def BusOthersCardSaid : Prop := Claim7.holds Tryd.pinned (.plain (OpenSpec.ofChange busOthersSpec)) busOthersCard

/-- THE TIED CARD OF 'innkeeperlaw15.BusNumbers'. -/
def busNumbersCard : Claim7 := { stood := { row := busNumbersRow, standIns := [], harness := (true, "dff0b01f7c86167e26ce3d0a441580e9eb970b0d98fefa82f6ff643086f5170a"), looks := false }, kinds := [], alts := [], laidByText := true, laidKinds := [.data], laidTests := true, laidLooks := .later }
def BusNumbersCardSaid : Prop := Claim7.holds Tryd.pinned (.plain (OpenSpec.ofChange busNumbersSpec)) busNumbersCard

/-- THE TIED CARD OF 'innkeeperlaw15.BusPlays'. -/
def busPlaysCard : Claim7 := { stood := { row := busPlaysRow, standIns := [], harness := (true, "dff0b01f7c86167e26ce3d0a441580e9eb970b0d98fefa82f6ff643086f5170a"), looks := false }, kinds := [], alts := [], laidByText := true, laidKinds := [.data], laidTests := true, laidLooks := .later }
def BusPlaysCardSaid : Prop := Claim7.holds Tryd.pinned (.plain (OpenSpec.ofChange busPlaysSpec)) busPlaysCard

/-- THE SECOND FORM's CARD OF 'innkeeperlaw15.BusPromotes'. -/
def busPromotesUptoCard : Claim7 := { stood := { row := busPromotesUptoRow, standIns := [], harness := (true, "dff0b01f7c86167e26ce3d0a441580e9eb970b0d98fefa82f6ff643086f5170a"), looks := false }, kinds := [], alts := [], laidByText := true, laidKinds := [.data], laidTests := true, laidLooks := .later }
def BusPromotesUptoCardSaid : Prop := Claim7.holds Tryd.pinned (.plain (OpenSpec.upto busPromotesSpec)) busPromotesUptoCard

/-- THE SECOND FORM's CARD OF 'innkeeperlaw15.BusOthers'. -/
def busOthersUptoCard : Claim7 := { stood := { row := busOthersUptoRow, standIns := [], harness := (true, "dff0b01f7c86167e26ce3d0a441580e9eb970b0d98fefa82f6ff643086f5170a"), looks := false }, kinds := [], alts := [], laidByText := true, laidKinds := [.data], laidTests := true, laidLooks := .later }
def BusOthersUptoCardSaid : Prop := Claim7.holds Tryd.pinned (.plain (OpenSpec.upto busOthersSpec)) busOthersUptoCard

/-- THE SECOND FORM's CARD OF 'innkeeperlaw15.BusNumbers'. -/
def busNumbersUptoCard : Claim7 := { stood := { row := busNumbersUptoRow, standIns := [], harness := (true, "dff0b01f7c86167e26ce3d0a441580e9eb970b0d98fefa82f6ff643086f5170a"), looks := false }, kinds := [], alts := [], laidByText := true, laidKinds := [.data], laidTests := true, laidLooks := .later }
def BusNumbersUptoCardSaid : Prop := Claim7.holds Tryd.pinned (.plain (OpenSpec.upto busNumbersSpec)) busNumbersUptoCard

/-- THE SECOND FORM's CARD OF 'innkeeperlaw15.BusPlays'. -/
def busPlaysUptoCard : Claim7 := { stood := { row := busPlaysUptoRow, standIns := [], harness := (true, "dff0b01f7c86167e26ce3d0a441580e9eb970b0d98fefa82f6ff643086f5170a"), looks := false }, kinds := [], alts := [], laidByText := true, laidKinds := [.data], laidTests := true, laidLooks := .later }
def BusPlaysUptoCardSaid : Prop := Claim7.holds Tryd.pinned (.plain (OpenSpec.upto busPlaysSpec)) busPlaysUptoCard
end Rows
end Go.Proofs.YthiephlfhbkcbaaDoor
