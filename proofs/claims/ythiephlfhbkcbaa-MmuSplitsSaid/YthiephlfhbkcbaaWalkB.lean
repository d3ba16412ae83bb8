/- A memory and the document's, of the same bytes (innkeeperlaw8.both). -/
import Derived.Test.YthiephlfhbkcbaaWalkT
import Derived.Test.YthiephlfhbkcbaaMemory
import Derived.Test.YthiephlfhbkcbaaRef8
import Derived.Test.YthiephlfhbkcbaaCopy
namespace Go.Proofs.Ythiephlfhbkcbaa.Wk
open Go.RowKit Fm Nt Rm By Rf
set_option linter.unusedVariables false
set_option maxHeartbeats 8000000

theorem szU : (Try.prog.info? 5).map (·.size) = some 1 := by
  obtain ⟨i0, hi0, hz0, hz1, hz2⟩ := info_parts infoU8
  rw [hi0]; simp [hz1]
def Both8 (w : World) (n : Nat) (yl : List Int) (e : Ending) (w' : World) : Prop :=
  ∃ (a : Am) (gM gb gt : Nat), e = .returned (.tuple #[.pointer (some ⟨a.gm, 0, none⟩), .pointer (some ⟨gM, 0, none⟩)]) ∧ Mem w' a (Ms.init n yl) ∧ RM w' gM gb gt n (Ms.init n yl).mem (Ms.init n yl).tu ∧
    (∀ k, a.own k → k ≠ gM ∧ k ≠ gb ∧ k ≠ gt) ∧ (∀ k, k = gM ∨ k = gb ∨ k = gt ∨ a.own k → w.heap.size ≤ k) ∧ Fr (fun _ => False) w w'
end Go.Proofs.Ythiephlfhbkcbaa.Wk
