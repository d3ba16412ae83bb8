/- The statements' tables opened: lists of entries (Place, Page, Bits). -/
import Derived.Test.YtlkagggkpaihaaaWalkT
import Derived.Test.YtlkagggkpaihaaaOpen
namespace Go.Proofs.Ytlkagggkpaihaaa.Wk
open Go.RowKit Go.ChangeShapes Go.WideShapes Go.Deep
set_option linter.unusedVariables false

instance : Inhabited Pt := ⟨⟨0, 0, 0⟩⟩
theorem openPts {H : Type} {enc : TypeId × Value → H} {w : World} {a : Option Addr} {len cap : Nat} {d : DataW H} {p : List MemPlace}
    (h : DataW.Trod enc Try.prog w 0 (fun _ => true) true 52 (.slice a len cap) d p) : (∃ L, PtsAt w w.heap.size a len L) ∧ len ≤ maxLen := by
  obtain ⟨fuel, hf⟩ := h
  rcases open_slice_fields Try.underlying52 Try.underlying74 (by kernel_rfl) (by kernel_rfl) hf with ⟨hcs, _⟩ | ⟨x, l, c, m, D, Pl, hcs, _, hl, hm, hmm, hx, hi⟩
  · simp [Value.cells] at hcs
    obtain ⟨rfl, rfl, rfl⟩ := hcs
    exact ⟨⟨fun _ => ⟨0, 0, 0⟩, fun i hi => absurd hi (by omega)⟩, by simp [maxLen]⟩
  · simp [Value.cells] at hcs
    obtain ⟨rfl, rfl, rfl⟩ := hcs
    have hlm : len ≤ m := by simp at hmm; omega
    have key : ∀ i, i < len → ∃ y : Pt, (w.cell? (x.add (i * 3)) = some (.int .i64 y.place) ∧ w.cell? (x.add (i * 3 + 1)) = some (.int .i64 y.page) ∧ w.cell? (x.add (i * 3 + 2)) = some (.int .u32 y.bits)) ∧
        (Lit.int .i64 y.place).wf = true ∧ (Lit.int .i64 y.page).wf = true ∧ (Lit.int .u32 y.bits).wf = true := by
      intro i hil
      obtain ⟨ys, n, _, _, _, hf⟩ := hi i (by omega)
      obtain ⟨v0, y0, hc0, _, ht0⟩ := hf 0 _ rfl
      obtain ⟨v1, y1, hc1, _, ht1⟩ := hf 1 _ rfl
      obtain ⟨v2, y2, hc2, _, ht2⟩ := hf 2 _ rfl
      obtain ⟨s, rfl, w0⟩ := cell_int Try.underlying3 ht0
      obtain ⟨at_, rfl, w1⟩ := cell_int Try.underlying3 ht1
      obtain ⟨c, rfl, w2⟩ := cell_int Try.underlying30 ht2
      exact ⟨⟨s, at_, c⟩, ⟨hc0, hc1, hc2⟩, w0, w1, w2⟩
    obtain ⟨L, hL⟩ := choose_lt key
    refine ⟨⟨L, fun i hil => ?_⟩, Nat.le_trans hl hm⟩
    obtain ⟨b, off, spot⟩ := x
    obtain ⟨⟨hc0, _⟩, _⟩ := hL 0 (by omega)
    have hspot : spot = none := by simpa [Addr.add] using World.cell?_spot hc0
    subst hspot
    have hadd : ∀ j, (⟨b, off, none⟩ : Addr).add j = ⟨b, off + j, none⟩ := by
      intro j
      unfold Addr.add
      split
      · rename_i h0; subst h0; rfl
      · rfl
    refine ⟨b, off, rfl, ?_, ?_⟩
    · rcases Nat.lt_or_ge b w.heap.size with h | h
      · exact h
      · exfalso
        have : w.heap[b]? = none := Array.getElem?_eq_none h
        rw [hadd] at hc0
        simp [World.cell?, this] at hc0
    · obtain ⟨q, r⟩ := hL i hil
      simp only [hadd, ← Nat.add_assoc] at q
      exact ⟨q, r⟩
end Go.Proofs.Ytlkagggkpaihaaa.Wk
