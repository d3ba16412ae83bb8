/- The document's memory (innkeeperref8.Memory): New, Put, Has, Pages. -/
import Derived.Test.YthiephlfhbkcbaaDoorRamE
import Derived.Test.YthiephlfhbkcbaaDoorBytesW
import Derived.Test.YthiephlfhbkcbaaDoorNestedE
import Derived.RegionTactic
namespace Go.Proofs.YthiephlfhbkcbaaDoor.Rf
open Go.RowKit Fm Nt Rm By
set_option linter.unusedVariables false
set_option maxHeartbeats 4000000

/-- the bytes, the pages that were written -/
structure RM (w : World) (gM gb gt n : Nat) (mem : Nat → Int) (tu : Nat → Bool) : Prop where
  b : Blk w gM 68 #[.slice (some ⟨gb, 0, none⟩) (n * 64) (n * 64), .slice (some ⟨gt, 0, none⟩) n n]
  cb : Cells w gb 5 (n * 64) (fun k => .int .u8 (mem k))
  ct : Cells w gt 4 n (fun k => .bool (tu k))
section
variable {w w' : World} {gM gb gt n : Nat} {mem : Nat → Int} {tu : Nat → Bool} {S : Nat → Prop}
theorem RM.fr (h : RM w gM gb gt n mem tu) (f : Fr S w w') (h1 : ¬ S gM) (h2 : ¬ S gb) (h3 : ¬ S gt) : RM w' gM gb gt n mem tu := ⟨h.b.fr f h1, h.cb.fr f h2, h.ct.fr f h3⟩
theorem RM.fr0 (h : RM w gM gb gt n mem tu) (f : Fr (fun _ => False) w w') : RM w' gM gb gt n mem tu := h.fr f (fun e => e) (fun e => e) (fun e => e)
theorem RM.lt (h : RM w gM gb gt n mem tu) : gM < w.heap.size ∧ gb < w.heap.size ∧ gt < w.heap.size := ⟨h.b.lt, h.cb.lt, h.ct.lt⟩
theorem RM.nbt (h : RM w gM gb gt n mem tu) : gb ≠ gt := Cells.ne h.cb h.ct (by decide)
theorem RM.nMb (h : RM w gM gb gt n mem tu) : gM ≠ gb := by
  obtain ⟨cs, hcs, _⟩ := h.cb
  exact Blk.ne_ h.b hcs (by decide)
theorem RM.nMt (h : RM w gM gb gt n mem tu) : gM ≠ gt := by
  obtain ⟨cs, hcs, _⟩ := h.ct
  exact Blk.ne_ h.b hcs (by decide)
theorem RM.put (h : RM w gM gb gt n mem tu) (j : Nat) (b : Int) : RM ((w.setCell ⟨gb, j, none⟩ (.int .u8 b)).setCell ⟨gt, j / 64, none⟩ (.bool true)) gM gb gt n (updI mem j b) (updB tu (j / 64) true) := by
  have f1 := Fr.set1 w gb j (.int .u8 b)
  have f2 := Fr.set1 (w.setCell ⟨gb, j, none⟩ (.int .u8 b)) gt (j / 64) (.bool true)
  refine ⟨(h.b.fr f1 (fun e => h.nMb e)).fr f2 (fun e => h.nMt e), ?_, ?_⟩
  · refine Cells.congr ((Cells.set_ h.cb j _).fr f2 (fun e => h.nbt e)) fun i hi => ?_
    unfold putV updI
    split <;> rfl
  · refine Cells.congr (Cells.set_ (h.ct.fr f1 (fun e => h.nbt e.symm)) (j / 64) _) fun i hi => ?_
    unfold putV updB
    split <;> rfl
end
theorem has_any (w : World) (gM gb gt n : Nat) (mem : Nat → Int) (tu : Nat → Bool) (h : RM w gM gb gt n mem tu) (hn : n ≤ 64) (at_ : Int) (h0 : 0 ≤ at_) (h1 : at_ ≤ 4294967295) :
    Calls Tryd.prog 67 #[.pointer (some ⟨gM, 0, none⟩), .int .u64 at_, .int .i64 1] w fun e w' => e = .returned (.bool (decide (at_ < (n : Int) * 64))) ∧ w = w' := by
  have c0 := h.b.cell 0
  simp only [List.getElem?_toArray, List.getElem?_cons_zero] at c0
  have e1 : decide (at_ + 1 ≤ (n : Int) * 64) = decide (at_ < (n : Int) * 64) := decide_eq_decide.2 (by omega)
  have hN : ((n * 64 : Nat) : Int) = (n : Int) * 64 := by omega
  rw [← e1, ← hN]
  generalize hNN : n * 64 = NN at *
  have hNb : NN ≤ 4096 := by omega
  clear e1 hN
  go_enter Tryd.func67, Tryd.ntmps67
  go_wp2_with fail
  go_ret
  exact ⟨rfl, rfl⟩
theorem put_any (w : World) (gM gb gt n : Nat) (mem : Nat → Int) (tu : Nat → Bool) (h : RM w gM gb gt n mem tu) (hn : n ≤ 64) (j : Nat) (hj : j < n * 64) (b : Int) :
    Calls Tryd.prog 68 #[.pointer (some ⟨gM, 0, none⟩), .int .u32 (j : Int), .int .u8 b] w fun e w' => e = .returned (.tuple #[]) ∧ RM w' gM gb gt n (updI mem j b) (updB tu (j / 64) true) ∧ Fr (fun k => k = gb ∨ k = gt) w w' := by
  have c0 := h.b.cell 0
  simp only [List.getElem?_toArray, List.getElem?_cons_zero] at c0
  have HR := Lib.hid (h.put j b)
  have HF := Lib.hid (((Fr.refl (fun k => k = gb ∨ k = gt) w).setCell (p := ⟨gb, j, none⟩) (.inl (.inl rfl)) (.int .u8 b)).setCell (p := ⟨gt, j / 64, none⟩) (.inl (.inr rfl)) (.bool true))
  have d1 := (h.b.fr (Fr.set1 w gb j (.int .u8 b)) (fun e => h.nMb e)).cell 1
  simp only [List.getElem?_toArray, List.getElem?_cons_succ, List.getElem?_cons_zero] at d1
  have cj := h.cb.cell j hj
  have zj := Cells.frozen h.cb j
  have ct := h.ct.far (p := ⟨gb, j, none⟩) (fun e => h.nbt e.symm) (.int .u8 b)
  have ck := ct.cell (j / 64) (by omega)
  have zk := Cells.frozen ct (j / 64)
  have q0 : (0 : Int) ≤ (j : Int) := by omega
  generalize hNN : n * 64 = NN at *
  have q1 : (j : Int) < (NN : Int) := by omega
  have q2 : (j : Int) ≤ 4294967295 := by omega
  have q3 : (j : Int) / 64 < (n : Int) := by omega
  clear ct h
  go_enter Tryd.func68, Tryd.ntmps68
  go_wp2_with fail
  go_end0
  exact ⟨rfl, HR.out, HF.out⟩
/-- an empty one -/
def NewR (w : World) (n : Nat) (e : Ending) (w' : World) : Prop := ∃ gM gb gt, e = .returned (.pointer (some ⟨gM, 0, none⟩)) ∧ RM w' gM gb gt n (fun _ => 0) (fun _ => false) ∧ w.heap.size ≤ gM ∧ w.heap.size ≤ gb ∧ w.heap.size ≤ gt ∧ Fr (fun _ => False) w w'
set_option maxRecDepth 100000 in
theorem new_any (w : World) (n : Nat) (hn : n ≤ 64) : Calls Tryd.prog 29 #[.int .i64 (n : Int)] w (NewR w n) := by
  have hmk : ∀ W, (Instr.makeSlice 24 (.int .i64 ((n : Int) * 64)) (.int .i64 ((n : Int) * 64))).run Tryd.prog W = .ok (.slice (some ⟨W.heap.size, 0, none⟩) (n * 64) (n * 64)) (W.alloc (.cells (zU (n * 64)) 5)) := fun W => by
    have := run_makeU .i64 (n * 64) (by omega) W
    rw [show ((n * 64 : Nat) : Int) = (n : Int) * 64 by omega] at this
    exact this
  have hmb := fun W => run_makeB n (by omega) W
  have w64 : IntKind.i64.wrap ((n : Int) * 64) = (n : Int) * 64 := IntWalk.i64_in _ (by omega)
  have g1 : (w.drew.alloc (.cells (zU (n * 64)) 5)).heap.size = w.heap.size + 1 := by simp
  have g2 : (w.drew.alloc (.cells (zB n) 4)).heap.size = w.heap.size + 1 := by simp
  have g3 : ((w.drew.alloc (.cells (zU (n * 64)) 5)).alloc (.cells (zB n) 4)).heap.size = w.heap.size + 2 := by simp
  have g4 : ((w.drew.alloc (.cells (zB n) 4)).alloc (.cells (zU (n * 64)) 5)).heap.size = w.heap.size + 2 := by simp
  have hA : NewR w n (.returned (.pointer (some ⟨w.heap.size + 2, 0, none⟩))) (((w.drew.alloc (.cells (zU (n * 64)) 5)).alloc (.cells (zB n) 4)).alloc (.cells #[.slice (some ⟨w.heap.size, 0, none⟩) (n * 64) (n * 64), .slice (some ⟨w.heap.size + 1, 0, none⟩) n n] 68)) :=
    ⟨_, w.heap.size, w.heap.size + 1, rfl, ⟨g3 ▸ Blk.new _ _ _, ((cellsU w.drew (n * 64) rfl).alloc _).alloc _, (cellsB _ n g1).alloc _⟩, by omega, by omega, by omega, (((Fr.refl _ w).drew.alloc _).alloc _).alloc _⟩
  have hB : NewR w n (.returned (.pointer (some ⟨w.heap.size + 2, 0, none⟩))) (((w.drew.alloc (.cells (zB n) 4)).alloc (.cells (zU (n * 64)) 5)).alloc (.cells #[.slice (some ⟨w.heap.size + 1, 0, none⟩) (n * 64) (n * 64), .slice (some ⟨w.heap.size, 0, none⟩) n n] 68)) :=
    ⟨_, w.heap.size + 1, w.heap.size, rfl, ⟨g4 ▸ Blk.new _ _ _, (cellsU _ (n * 64) g2).alloc _, ((cellsB w.drew n rfl).alloc _).alloc _⟩, by omega, by omega, by omega, (((Fr.refl _ w).drew.alloc _).alloc _).alloc _⟩
  have HA := Lib.hid hA
  have HB := Lib.hid hB
  clear hA hB g1 g2 g3 g4
  go_enter Tryd.func29, Tryd.ntmps29
  go_wp2_with fail
  go_region
  all_goals
    go_wp2_with fail
    go_ret
    first
    | exact HA.out
    | exact HB.out
end Go.Proofs.YthiephlfhbkcbaaDoor.Rf
