/- The document's memory (innkeeperref8.Memory): New, Put, Has, Pages. -/
import Derived.Test.YthiephlfhbkcbaaRamE
import Derived.Test.YthiephlfhbkcbaaBytesW
import Derived.Test.YthiephlfhbkcbaaNestedE
import Derived.RegionTactic
namespace Go.Proofs.Ythiephlfhbkcbaa.Rf
open Go.RowKit Fm Nt Rm By
set_option linter.unusedVariables false
set_option maxHeartbeats 4000000

/-- the bytes, the pages that were written -/
structure RM (w : World) (gM gb gt n : Nat) (mem : Nat → Int) (tu : Nat → Bool) : Prop where
  b : Blk w gM 96 #[.slice (some ⟨gb, 0, none⟩) (n * 64) (n * 64), .slice (some ⟨gt, 0, none⟩) n n]
  cb : Cells w gb 5 (n * 64) (fun k => .int .u8 (mem k))
  ct : Cells w gt 4 n (fun k => .bool (tu k))
section
variable {w w' : World} {gM gb gt n : Nat} {mem : Nat → Int} {tu : Nat → Bool} {S : Nat → Prop}
theorem RM.fr (h : RM w gM gb gt n mem tu) (f : Fr S w w') (h1 : ¬ S gM) (h2 : ¬ S gb) (h3 : ¬ S gt) : RM w' gM gb gt n mem tu := ⟨h.b.fr f h1, h.cb.fr f h2, h.ct.fr f h3⟩
theorem RM.fr0 (h : RM w gM gb gt n mem tu) (f : Fr (fun _ => False) w w') : RM w' gM gb gt n mem tu := h.fr f (fun e => e) (fun e => e) (fun e => e)
theorem RM.lt (h : RM w gM gb gt n mem tu) : gM < w.heap.size ∧ gb < w.heap.size ∧ gt < w.heap.size := ⟨h.b.lt, h.cb.lt, h.ct.lt⟩
theorem RM.nbt (h : RM w gM gb gt n mem tu) : gb ≠ gt := Cells.ne h.cb h.ct (by decide)
theorem RM.nMb (h : RM w gM gb gt n mem tu) : gM ≠ gb := by
  obtain ⟨cs, hcs, _⟩ := h.cb
  exact Blk.ne_ h.b hcs (by decide)
theorem RM.nMt (h : RM w gM gb gt n mem tu) : gM ≠ gt := by
  obtain ⟨cs, hcs, _⟩ := h.ct
  exact Blk.ne_ h.b hcs (by decide)
theorem RM.put (h : RM w gM gb gt n mem tu) (j : Nat) (b : Int) : RM ((w.setCell ⟨gb, j, none⟩ (.int .u8 b)).setCell ⟨gt, j / 64, none⟩ (.bool true)) gM gb gt n (updI mem j b) (updB tu (j / 64) true) := by
  have f1 := Fr.set1 w gb j (.int .u8 b)
  have f2 := Fr.set1 (w.setCell ⟨gb, j, none⟩ (.int .u8 b)) gt (j / 64) (.bool true)
  refine ⟨(h.b.fr f1 (fun e => h.nMb e)).fr f2 (fun e => h.nMt e), ?_, ?_⟩
  · refine Cells.congr ((Cells.set_ h.cb j _).fr f2 (fun e => h.nbt e)) fun i hi => ?_
    unfold putV updI
    split <;> rfl
  · refine Cells.congr (Cells.set_ (h.ct.fr f1 (fun e => h.nbt e.symm)) (j / 64) _) fun i hi => ?_
    unfold putV updB
    split <;> rfl
end
theorem has_any (w : World) (gM gb gt n : Nat) (mem : Nat → Int) (tu : Nat → Bool) (h : RM w gM gb gt n mem tu) (hn : n ≤ 64) (at_ : Int) (h0 : 0 ≤ at_) (h1 : at_ ≤ 4294967295) :
    Calls Try.prog 101 #[.pointer (some ⟨gM, 0, none⟩), .int .u64 at_, .int .i64 1] w fun e w' => e = .returned (.bool (decide (at_ < (n : Int) * 64))) ∧ w = w' := by
  have c0 := h.b.cell 0
  simp only [List.getElem?_toArray, List.getElem?_cons_zero] at c0
  have e1 : decide (at_ + 1 ≤ (n : Int) * 64) = decide (at_ < (n : Int) * 64) := decide_eq_decide.2 (by omega)
  have hN : ((n * 64 : Nat) : Int) = (n : Int) * 64 := by omega
  rw [← e1, ← hN]
  generalize hNN : n * 64 = NN at *
  have hNb : NN ≤ 4096 := by omega
  clear e1 hN
  go_enter Try.func101, Try.ntmps101
  go_wp2_with fail
  go_ret
  exact ⟨rfl, rfl⟩
theorem put_any (w : World) (gM gb gt n : Nat) (mem : Nat → Int) (tu : Nat → Bool) (h : RM w gM gb gt n mem tu) (hn : n ≤ 64) (j : Nat) (hj : j < n * 64) (b : Int) :
    Calls Try.prog 103 #[.pointer (some ⟨gM, 0, none⟩), .int .u32 (j : Int), .int .u8 b] w fun e w' => e = .returned (.tuple #[]) ∧ RM w' gM gb gt n (updI mem j b) (updB tu (j / 64) true) ∧ Fr (fun k => k = gb ∨ k = gt) w w' := by
  have c0 := h.b.cell 0
  simp only [List.getElem?_toArray, List.getElem?_cons_zero] at c0
  have HR := Lib.hid (h.put j b)
  have HF := Lib.hid (((Fr.refl (fun k => k = gb ∨ k = gt) w).setCell (p := ⟨gb, j, none⟩) (.inl (.inl rfl)) (.int .u8 b)).setCell (p := ⟨gt, j / 64, none⟩) (.inl (.inr rfl)) (.bool true))
  have d1 := (h.b.fr (Fr.set1 w gb j (.int .u8 b)) (fun e => h.nMb e)).cell 1
  simp only [List.getElem?_toArray, List.getElem?_cons_succ, List.getElem?_cons_zero] at d1
  have cj := h.cb.cell j hj
  have zj := Cells.frozen h.cb j
  have ct := h.ct.far (p := ⟨gb, j, none⟩) (fun e => h.nbt e.symm) (.int .u8 b)
  have ck := ct.cell (j / 64) (by omega)
  have zk := Cells.frozen ct (j / 64)
  have q0 : (0 : Int) ≤ (j : Int) := by omega
  generalize hNN : n * 64 = NN at *
  have q1 : (j : Int) < (NN : Int) := by omega
  have q2 : (j : Int) ≤ 4294967295 := by omega
  have q3 : (j : Int) / 64 < (n : Int) := by omega
  clear ct h
  go_enter Try.func103, Try.ntmps103
  go_wp2_with fail
  go_end0
  exact ⟨rfl, HR.out, HF.out⟩
set_option maxRecDepth 100000 in
theorem pages_any (w : World) (gM gb gt : Nat) (mem : Nat → Int) (m : Ms) (h : RM w gM gb gt m.n mem m.tu) (hn : m.n ≤ 64) (base : Nat) (hb : base ≤ w.heap.size) :
    Calls Try.prog 82 #[.pointer (some ⟨gM, 0, none⟩)] w (GivesI w base (turnN m m.n)) := by
  obtain ⟨i0, hi0, hz0, hz1, hz2⟩ := info_parts info64
  go_enter Try.func82, Try.ntmps82
  go_wp2_with fail
  go_loopw [3, 4] (fun v i wr => ∃ k : Nat, k ≤ m.n ∧ i = .int .i64 k ∧ wr.ownsRow base 3 1 v (turnN m k).length (by64 (turnN m k)) ∧ Fr (fun _ => False) w wr ∧ (∀ b, v.ownBlock = some b → w.heap.size ≤ b)) (fun _ i _ => m.n - (intOf i).toNat)
  case atStart => exact ⟨0, by omega, rfl, ⟨rfl, .inl ⟨rfl, rfl⟩⟩, Fr.refl _ _, fun k hk => by simp [Value.ownBlock] at hk⟩
  case round =>
    obtain ⟨k, hk, rfl, hown, fr, hat⟩ := hrel
    have hR := h.fr0 fr
    have c1 := hR.b.cell 1
    simp only [List.getElem?_toArray, List.getElem?_cons_succ, List.getElem?_cons_zero] at c1
    by_cases hlt : k < m.n
    · have c := hR.ct.cell k hlt
      have hle := turnN_le m k
      have hbs := Nat.le_trans hb fr.size
      clear hR
      cases ho : m.tu k
      · rw [ho] at c
        have Hs := Lib.hid (turnN_no m k ho)
        clear ho
        generalize turnN m k = l at *
        go_wp2_with fail
        go_roundw
        case rel => exact ⟨k + 1, by omega, by go_num, by rw [Hs.out]; exact hown, fr, hat⟩
        case measure => simp [intOf]; omega
      · rw [ho] at c
        have Hs := Lib.hid (turnN_yes m k ho)
        have hown' := own_alloc hown (.cells #[.int .i64 (k : Int)] 3)
        clear ho
        generalize turnN m k = l at *
        go_wp2_with
          (at_builtin
           refine wpList_append_any _ rfl (.tmp 21) (.tmp 23) _ rfl base 3 i0 _ 1 8 Try.underlying142 hi0 hz0 hz1 hz2 rfl (by omega) u3 l.length (by64 l) rfl hown' (wr.heap.size + 1) (some ⟨wr.heap.size, 0, none⟩) 1 1 [.int .i64 (k : Int)] rfl (reads_blk (Blk.new _ _ _) rfl) (by simp [Value.oneCell']) (by simp only [maxLen]; omega) (by omega) (by simp; omega) ?_
           intro v1 w1 hown1 hg1 hat1)
        go_roundw
        case rel =>
          refine ⟨k + 1, by omega, by go_num, ?_, (fr.alloc _).grown hg1 (fun q hq => .inr (hat q hq)), fun q hq => ?_⟩
          · rw [Hs.out]; simpa [by64] using hown1
          · rcases hat1 with e | e
            · exact hat q (by rw [← e]; exact hq)
            · rw [e] at hq
              have : wr.heap.size + 1 = q := by simpa using hq
              have := fr.size
              omega
        case measure => simp [intOf]; omega
    · have e : k = m.n := by omega
      rw [e] at hown
      have hG : GivesI w base (turnN m m.n) (.returned u3) wr := ⟨_, rfl, hown, fr, hat⟩
      have HG := Lib.hid hG
      clear hG hR e
      go_wp2_with fail
      go_ret
      exact HG.out
/-- an empty one -/
def NewR (w : World) (n : Nat) (e : Ending) (w' : World) : Prop := ∃ gM gb gt, e = .returned (.pointer (some ⟨gM, 0, none⟩)) ∧ RM w' gM gb gt n (fun _ => 0) (fun _ => false) ∧ w.heap.size ≤ gM ∧ w.heap.size ≤ gb ∧ w.heap.size ≤ gt ∧ Fr (fun _ => False) w w'
set_option maxRecDepth 100000 in
theorem new_any (w : World) (n : Nat) (hn : n ≤ 64) : Calls Try.prog 42 #[.int .i64 (n : Int)] w (NewR w n) := by
  have hmk : ∀ W, (Instr.makeSlice 24 (.int .i64 ((n : Int) * 64)) (.int .i64 ((n : Int) * 64))).run Try.prog W = .ok (.slice (some ⟨W.heap.size, 0, none⟩) (n * 64) (n * 64)) (W.alloc (.cells (zU (n * 64)) 5)) := fun W => by
    have := run_makeU .i64 (n * 64) (by omega) W
    rw [show ((n * 64 : Nat) : Int) = (n : Int) * 64 by omega] at this
    exact this
  have hmb := fun W => run_makeB n (by omega) W
  have w64 : IntKind.i64.wrap ((n : Int) * 64) = (n : Int) * 64 := IntWalk.i64_in _ (by omega)
  have g1 : (w.drew.alloc (.cells (zU (n * 64)) 5)).heap.size = w.heap.size + 1 := by simp
  have g2 : (w.drew.alloc (.cells (zB n) 4)).heap.size = w.heap.size + 1 := by simp
  have g3 : ((w.drew.alloc (.cells (zU (n * 64)) 5)).alloc (.cells (zB n) 4)).heap.size = w.heap.size + 2 := by simp
  have g4 : ((w.drew.alloc (.cells (zB n) 4)).alloc (.cells (zU (n * 64)) 5)).heap.size = w.heap.size + 2 := by simp
  have hA : NewR w n (.returned (.pointer (some ⟨w.heap.size + 2, 0, none⟩))) (((w.drew.alloc (.cells (zU (n * 64)) 5)).alloc (.cells (zB n) 4)).alloc (.cells #[.slice (some ⟨w.heap.size, 0, none⟩) (n * 64) (n * 64), .slice (some ⟨w.heap.size + 1, 0, none⟩) n n] 96)) :=
    ⟨_, w.heap.size, w.heap.size + 1, rfl, ⟨g3 ▸ Blk.new _ _ _, ((cellsU w.drew (n * 64) rfl).alloc _).alloc _, (cellsB _ n g1).alloc _⟩, by omega, by omega, by omega, (((Fr.refl _ w).drew.alloc _).alloc _).alloc _⟩
  have hB : NewR w n (.returned (.pointer (some ⟨w.heap.size + 2, 0, none⟩))) (((w.drew.alloc (.cells (zB n) 4)).alloc (.cells (zU (n * 64)) 5)).alloc (.cells #[.slice (some ⟨w.heap.size + 1, 0, none⟩) (n * 64) (n * 64), .slice (some ⟨w.heap.size, 0, none⟩) n n] 96)) :=
    ⟨_, w.heap.size + 1, w.heap.size, rfl, ⟨g4 ▸ Blk.new _ _ _, (cellsU _ (n * 64) g2).alloc _, ((cellsB w.drew n rfl).alloc _).alloc _⟩, by omega, by omega, by omega, (((Fr.refl _ w).drew.alloc _).alloc _).alloc _⟩
  have HA := Lib.hid hA
  have HB := Lib.hid hB
  clear hA hB g1 g2 g3 g4
  go_enter Try.func42, Try.ntmps42
  go_wp2_with fail
  go_region
  all_goals
    go_wp2_with fail
    go_ret
    first
    | exact HA.out
    | exact HB.out
end Go.Proofs.Ythiephlfhbkcbaa.Rf
