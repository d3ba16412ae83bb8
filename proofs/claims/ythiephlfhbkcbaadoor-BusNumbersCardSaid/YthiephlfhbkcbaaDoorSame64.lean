/- innkeeperbook.Same at numbers. -/
import Derived.Test.YthiephlfhbkcbaaDoorFramesF
import Derived.Test.YthiephlfhbkcbaaDoorBook
namespace Go.Proofs.YthiephlfhbkcbaaDoor.Bk
open Go.RowKit Fm
set_option linter.unusedVariables false
set_option maxHeartbeats 4000000

/-- a row of the program's own numbers, as a list -/
theorem own_ints {k : IntKind} {w : World} {base n : Nat} {e : TypeId} {A : Option Addr} {c : Nat} {l : List Int} (h : w.ownsRow base e 1 (.slice A n c) n (l.map (Value.int k))) (hw : ∀ z ∈ l, (Lit.int k z).wf = true) : IntsAt k w w.heap.size A n l := by
  have hr := Reads.of_own h
  have hl : l.length = n := by simpa using hr.1
  refine ⟨hl, fun i hi => ?_, fun hn => ?_⟩
  · have e : l.getD i 0 = l[i]'(by omega) := by simp [show i < l.length by omega]
    rw [e]
    exact hw _ (List.getElem_mem _)
  · obtain ⟨ad, e, hb, hc⟩ := hr.2 hn
    have h0 := hc 0 (.int k (l.getD 0 0)) (by simp [show 0 < l.length by omega])
    obtain ⟨b, off, spot⟩ := ad
    have hspot : spot = none := by simpa [Addr.add] using World.cell?_spot h0
    subst hspot
    refine ⟨b, off, e, hb, fun i hi => ?_⟩
    have := hc i (.int k (l.getD i 0)) (by simp [show i < l.length by omega])
    rw [← this]
    unfold Addr.add
    split
    · rename_i h0; subst h0; rfl
    · rfl
end Go.Proofs.YthiephlfhbkcbaaDoor.Bk
