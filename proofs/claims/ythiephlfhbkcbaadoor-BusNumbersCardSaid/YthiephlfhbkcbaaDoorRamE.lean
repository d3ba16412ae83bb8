/- A guest's memory, V: New; its table's Frame, Unmap, Mapped; a memory that was just made. -/
import Derived.Test.YthiephlfhbkcbaaDoorRamD
import Derived.Test.YthiephlfhbkcbaaDoorNestedF
namespace Go.Proofs.YthiephlfhbkcbaaDoor.Rm
open Go.RowKit Fm Nt
set_option linter.unusedVariables false
set_option maxHeartbeats 4000000

def rz : Array Value := ([Value.pointer none, Value.pointer none] ++ List.replicate 65 (Value.bool false)).toArray
theorem zeroM : (Tryd.prog.info? 120).bind (·.zero) = some (.agg rz) := by kernel_rfl
theorem zeroM_run (W : World) : (zeroValue 120).run Tryd.prog W = .ok (.agg rz) W := by
  have h := zeroM
  cases hi : Tryd.prog.info? 120 with
  | none => rw [hi] at h; cases h
  | some i =>
    rw [hi] at h
    have h' : i.zero = some (.agg rz) := h
    simp [zeroValue, typeInfo, hi, h']
theorem cellsM (w : World) (a : Ad) (m : Ms) (hm : ∀ k, m.tu k = false) : Cells (w.alloc (.cells ((rz.setIfInBounds 0 (.pointer (some ⟨a.gp, 0, none⟩))).setIfInBounds 1 (.pointer (some ⟨a.gt, 0, none⟩))) 120)) w.heap.size 120 67 (mcell ⟨a, w.heap.size⟩ m) := by
  refine ⟨_, Blk.new _ _ _, by simp [rz], fun i hi => ?_⟩
  rw [Array.getElem?_setIfInBounds]
  unfold mcell
  by_cases e1 : i = 1
  · subst e1; simp [rz]
  · rw [if_neg (fun e => e1 e.symm), Array.getElem?_setIfInBounds]
    by_cases e0 : i = 0
    · subst e0; simp [rz]
    · rw [if_neg (fun e => e0 e.symm), if_neg e0, if_neg e1]
      have hz : rz[i]? = some (.bool false) := by
        show (([Value.pointer none, Value.pointer none] ++ List.replicate 65 (Value.bool false)).toArray)[i]? = _
        rw [List.getElem?_toArray, List.getElem?_append_right (by simp; omega), List.getElem?_replicate, if_pos (by simp; omega)]
      rw [hz]
      split
      · rw [hm]
      · rfl
set_option maxRecDepth 100000 in
theorem new_any (w : World) (a : Ad) (s : Pl) (n : Nat) (o : Int) (hP : Pool w a.gp s) (hT : Tab w a (Ts.new n o)) (hI : TInv s (Ts.new n o)) : Calls Tryd.prog 51 #[.pointer (some ⟨a.gp, 0, none⟩), .pointer (some ⟨a.gt, 0, none⟩)] w fun e w' => e = .returned (.tuple #[.pointer (some ⟨w.heap.size, 0, none⟩), .int .i64 0]) ∧ Mem w' ⟨a, w.heap.size⟩ (Ms.new n) ∧ Fr (fun _ => False) w w' := by
  have hz := zeroM_run
  have hc := cellsM w a (Ms.new n) (fun _ => rfl)
  have hM : Mem (w.alloc (.cells ((rz.setIfInBounds 0 (.pointer (some ⟨a.gp, 0, none⟩))).setIfInBounds 1 (.pointer (some ⟨a.gt, 0, none⟩))) 120)) ⟨a, w.heap.size⟩ (Ms.new n) := ⟨s, _, hP.alloc _, hT.alloc _, hc, Sees.new hI⟩
  have fr := (Fr.refl (fun _ => False) w).alloc (.cells ((rz.setIfInBounds 0 (.pointer (some ⟨a.gp, 0, none⟩))).setIfInBounds 1 (.pointer (some ⟨a.gt, 0, none⟩))) 120)
  have HM := Lib.hid hM
  have FR := Lib.hid fr
  clear hc hM fr
  go_enter Tryd.func51, Tryd.ntmps51
  go_wp2_with fail
  go_ret2
  exact ⟨rfl, HM.out, FR.out⟩
theorem sumN0 : sumP Pl.new 4 = 0 := by decide
theorem promRN {o : Int} {n : Nat} (h0 : 0 ≤ o) (h1 : o < 4) (hn : n ≤ 64) : promR Pl.new o n = 0 := by
  unfold promR
  rw [sumN0]
  have hb : isO o = true := by simp [isO, h0, h1]
  rw [if_neg (by rw [hb]; simp; omega), if_neg (by simp [Pl.new]), if_neg (by omega)]
/-- a memory in new places -/
def FreshM (w : World) (a : Am) (m : Ms) (w' : World) : Prop := Mem w' a m ∧ (∀ k, a.own k → w.heap.size ≤ k) ∧ Fr (fun _ => False) w w'
theorem FreshM.fr {w w1 w2 : World} {a : Am} {m m2 : Ms} (h : FreshM w a m w1) (hM : Mem w2 a m2) (f : Fr a.own w1 w2) : FreshM w a m2 w2 :=
  ⟨hM, h.2.1, h.2.2.trans f (fun i hi e => by have := h.2.1 i e; omega)⟩
section
variable {w : World} {a : Am} {m : Ms}
theorem tframe_any (h : Mem w a m) (i : Int) : Calls Tryd.prog 65 #[.pointer (some ⟨a.a.gt, 0, none⟩), .int .i64 i] w fun e w' => ∃ x : Int, e = .returned (.tuple #[.int .i64 x, .bool (decide (0 ≤ i ∧ i < m.n) && m.mp i.toNat)]) ∧ w = w' := by
  obtain ⟨s, t, hC⟩ := h
  refine (frame_any w a.a t i hC.2.1).mono ?_
  rintro e w' ⟨rfl, rfl⟩
  refine ⟨frV t i, ?_, rfl⟩
  have : frB t i = (decide (0 ≤ i ∧ i < m.n) && m.mp i.toNat) := by
    have hS := hC.2.2.2
    unfold frB inP
    rw [hS.n]
    by_cases h : 0 ≤ i ∧ i < m.n
    · rw [hS.mp _ (by omega)]
    · rw [decide_eq_false h]; rfl
  rw [this]
def Ms.unmap (m : Ms) (k : Int) : Ms := if 0 ≤ k ∧ k < m.n then m.drop k.toNat else m
def unE (m : Ms) (k : Int) : Int := if (decide (0 ≤ k ∧ k < m.n) && m.mp k.toNat) = true then 0 else 22
theorem Mem.zero (h : Mem w a m) {i : Nat} (hi : i < m.n * 64) (hm : m.mp (i / 64) = false) : m.mem i = 0 := by
  obtain ⟨s, t, hC⟩ := h
  have hS := hC.2.2.2
  rw [hS.mem i hi]
  have := hS.mp (i / 64) (by omega)
  rw [hm] at this
  exact byteAt_none (by simpa using this.symm)
end
end Go.Proofs.YthiephlfhbkcbaaDoor.Rm
