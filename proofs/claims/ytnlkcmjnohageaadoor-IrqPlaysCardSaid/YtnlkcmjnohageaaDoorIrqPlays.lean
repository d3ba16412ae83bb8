/- IrqPlays: the walk, and the argument opened. -/
import Derived.Test.YtnlkcmjnohageaaDoorIrqPlay
import Derived.Test.YtnlkcmjnohageaaDoorOpen
namespace Go.Proofs.YtnlkcmjnohageaaDoor.irqPlays
open Go.RowKit Iq Go.ChangeShapes Go.WideShapes Go.Deep
set_option linter.unusedVariables false

theorem walk (w : World) (A : Option Addr) (len cap : Nat) (hl : AsksAt w w.heap.size A len ∧ len ≤ maxLen) (hT : Tab w) :
    Calls Tryd.prog 6 #[.slice A len cap] w fun e w' => e = .returned (.bool true) ∧ Fr (fun _ => False) w w' := by
  obtain ⟨hl, hm⟩ := hl
  go_enter Tryd.func6, Tryd.ntmps6
  go_wp2_with fail
  refine (play_any _ hT _ _ _ hl hm).mono ?_
  rintro e w1 ⟨rfl, f1⟩
  go_wp2_with fail
  refine (known_any _ (hT.fr f1 (fun e => e))).mono ?_
  rintro e w2 ⟨rfl, f2⟩
  go_wp2_with fail
  go_ret
  exact ⟨rfl, f1.tr f2⟩

theorem openAsks {H : Type} {enc : TypeId × Value → H} {w : World} {a : Option Addr} {len cap : Nat} {d : DataW H} {p : List MemPlace}
    (h : DataW.Trod enc Tryd.prog w 0 (fun _ => true) true 36 (.slice a len cap) d p) : AsksAt w w.heap.size a len ∧ len ≤ maxLen := by
  obtain ⟨fuel, hf⟩ := h
  rcases open_slice_fields Tryd.underlying36 Tryd.underlying38 (by kernel_rfl) (by kernel_rfl) hf with ⟨hcs, _⟩ | ⟨x, l, c, m, D, Pl, hcs, _, hl, hm, hmm, hx, hi⟩
  · simp [Value.cells] at hcs
    obtain ⟨rfl, rfl, rfl⟩ := hcs
    exact ⟨fun h => absurd h (by omega), by simp [maxLen]⟩
  · simp [Value.cells] at hcs
    obtain ⟨rfl, rfl, rfl⟩ := hcs
    refine ⟨fun hn => ?_, Nat.le_trans hl hm⟩
    have hlm : len ≤ m := by simp at hmm; omega
    have key : ∀ i, i < len → ∃ (kd bt : Int) (A2 : Option Addr) (l2 c2 : Nat) (zs : List Int), w.cell? (x.add (i * 3)) = some (.int .i64 kd) ∧ w.cell? (x.add (i * 3 + 1)) = some (.slice A2 l2 c2) ∧ w.cell? (x.add (i * 3 + 2)) = some (.int .u32 bt) ∧ IntsAt .i64 w w.heap.size A2 l2 zs ∧ l2 ≤ maxLen ∧ l2 ≤ c2 ∧ 0 ≤ bt ∧ bt ≤ 4294967295 := by
      intro i hil
      obtain ⟨ys, n, _, _, _, hf⟩ := hi i (by omega)
      obtain ⟨v0, y0, hc0, _, ht0⟩ := hf 0 _ rfl
      obtain ⟨v1, y1, hc1, _, ht1⟩ := hf 1 _ rfl
      obtain ⟨v2, y2, hc2, _, ht2⟩ := hf 2 _ rfl
      obtain ⟨kd, rfl, _⟩ := cell_int Tryd.underlying3 ht0
      obtain ⟨A2, l2, c2, zs, rfl, hin, hl2, hl3⟩ := cell_ints Tryd.underlying22 Tryd.underlying3 (by kernel_rfl) ht1
      obtain ⟨bt, rfl, hb⟩ := cell_int Tryd.underlying23 ht2
      obtain ⟨b0, b1⟩ := wf_u32 hb
      exact ⟨kd, bt, A2, l2, c2, zs, hc0, hc1, hc2, hin, hl2, hl3, b0, b1⟩
    obtain ⟨b, off, spot⟩ := x
    obtain ⟨kd, bt, A2, l2, c2, zs, hc0, _⟩ := key 0 hn
    have hspot : spot = none := by simpa [Addr.add] using World.cell?_spot hc0
    subst hspot
    have hadd : ∀ j, (⟨b, off, none⟩ : Addr).add j = ⟨b, off + j, none⟩ := by
      intro j
      unfold Addr.add
      split
      · rename_i h0; subst h0; rfl
      · rfl
    refine ⟨b, off, rfl, ?_, fun i hil => ?_⟩
    · rcases Nat.lt_or_ge b w.heap.size with h | h
      · exact h
      · exfalso
        have : w.heap[b]? = none := Array.getElem?_eq_none h
        rw [hadd] at hc0
        simp [World.cell?, this] at hc0
    · obtain ⟨kd, bt, A2, l2, c2, zs, hc0, hc1, hc2, r⟩ := key i hil
      rw [hadd] at hc0 hc1 hc2
      exact ⟨kd, bt, A2, l2, c2, zs, hc0, by rw [Nat.add_assoc]; exact hc1, by rw [Nat.add_assoc]; exact hc2, r⟩
end Go.Proofs.YtnlkcmjnohageaaDoor.irqPlays
