/- The statements' memory: a memory in new places that some bytes were loaded into. -/
import Derived.Test.YthiephlfhbkcbaaDoorBytesW
import Derived.Test.YthiephlfhbkcbaaDoorSame64
import Derived.Test.YthiephlfhbkcbaaDoorSlices
namespace Go.Proofs.YthiephlfhbkcbaaDoor.Rm
open Go.RowKit Fm Nt
set_option linter.unusedVariables false
set_option maxHeartbeats 4000000

/-- what was loaded, none of it written since -/
def Ms.init (n : Nat) (zs : List Int) : Ms := ((Ms.new n).load zs).calm
theorem init_n (n : Nat) (zs : List Int) : (Ms.init n zs).n = n := by
  show ((Ms.new n).load zs).n = n
  unfold Ms.load
  split
  · exact puts_n _ _ _ _
  · rfl
theorem init_mem (n : Nat) (zs : List Int) (h : zs.length ≤ n * 64) (j : Nat) : (Ms.init n zs).mem j = if j < zs.length then zs.getD j 0 else 0 := by
  show ((Ms.new n).load zs).mem j = _
  rw [Ms.load, if_pos (by exact h), puts_mem]
  by_cases hj : j < zs.length
  · rw [if_pos (by omega), if_pos hj, Nat.sub_zero]
  · rw [if_neg (by omega), if_neg hj]; rfl
/-- frames.New, nested.New, ram.New, one behind the other: what stands then -/
def Born (w : World) (a : Ad) (n : Nat) (o : Int) (w2 : World) : Prop := ∃ s, Pool w2 a.gp s ∧ Tab w2 a (Ts.new n o) ∧ TInv s (Ts.new n o) ∧ (∀ k, a.own k ∨ k = a.gp → w.heap.size ≤ k) ∧ Fr (fun _ => False) w w2
theorem born {w w1 w2 : World} {a : Ad} {n : Nat} {o : Int} (h0 : 0 ≤ o) (h1 : o < 4) (hn0 : 1 ≤ n) (hn1 : n ≤ 64) (ha : a.gp = w.heap.size) (hT : Tab w2 a (Ts.new n o)) (hP : Pool w2 w.heap.size (Pl.new.promise o n)) (hbl : ∀ k, a.own k → w1.heap.size ≤ k) (f1 : Fr (fun _ => False) w w1) (f2 : Fr (· = w.heap.size) w1 w2) : Born w a n o w2 :=
  ⟨_, by rw [ha]; exact hP, hT, TInv.new h0 h1 hn0 hn1 PInv.new rfl (promRN h0 h1 hn1), fun k hk => by
    rcases hk with hk | hk
    · have := hbl k hk; have := f1.size; omega
    · omega, f1.trans f2 (fun i hi e => by omega)⟩
theorem born_mem {w w2 w3 : World} {a : Ad} {n : Nat} {o : Int} (h : Born w a n o w2) (hM : Mem w3 ⟨a, w2.heap.size⟩ (Ms.new n)) (f : Fr (fun _ => False) w2 w3) : FreshM w ⟨a, w2.heap.size⟩ (Ms.new n) w3 := by
  obtain ⟨s, _, _, _, hb, f2⟩ := h
  refine ⟨hM, fun k hk => ?_, f2.tr f⟩
  rcases hk with rfl | hk | hk
  · exact f2.size
  · exact hb k (.inl hk)
  · exact hb k (.inr hk)
end Go.Proofs.YthiephlfhbkcbaaDoor.Rm
