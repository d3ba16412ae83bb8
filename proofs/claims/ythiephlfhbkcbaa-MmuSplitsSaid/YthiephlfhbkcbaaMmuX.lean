/- A unit (mmu.Unit): Load, Store. -/
import Derived.Test.YthiephlfhbkcbaaMmuS
import Derived.Deep.QuietTactic
import Derived.BigQuiet
namespace Go.Proofs.Ythiephlfhbkcbaa.Mu
open Go.RowKit Fm Nt Rm By Wk
set_option linter.unusedVariables false
set_option linter.unusedSimpArgs false
set_option maxHeartbeats 2000000

theorem spanR_len (u : Us) (s : Sp) (va n k : Int) : (spanR u s va n k).l.length ≤ 4 := by
  unfold spanR
  split
  · exact Nat.zero_le _
  · split
    · exact Nat.zero_le _
    · split
      · exact Nat.zero_le _
      · split
        · exact Nat.zero_le _
        · split
          · exact Nat.zero_le _
          · show (spots _ _ _ _).length ≤ 4
            rw [spots_len]
            omega
theorem join_step (m : Ms) (l : List Int) (j : Nat) (h : j < l.length) : join m (l.drop j) = memV m (l.getD j 0) + 256 * join m (l.drop (j + 1)) := by
  rw [List.drop_eq_getElem_cons h, join]
  simp [List.getD_eq_getElem?_getD, h]
theorem memV_bd {w : World} {a : Am} {m : Ms} (h : Mem w a m) (p : Int) (p0 : 0 ≤ p) : 0 ≤ memV m p ∧ memV m p < 256 := by
  unfold memV
  split
  · rename_i hq
    have hq : p + 1 ≤ (m.n : Int) * 64 := by simpa [inB] using hq
    exact h.bd _ (by omega)
  · omega
theorem join_bd {w : World} {a : Am} {m : Ms} (h : Mem w a m) : ∀ (l : List Int), (∀ p ∈ l, 0 ≤ p) → 0 ≤ join m l ∧ join m l < 256 ^ l.length
  | [], _ => by simp [join]
  | p :: ps, hl => by
    have h1 := memV_bd h p (hl p (List.mem_cons_self ..))
    have h2 := join_bd h ps (fun q hq => hl q (List.mem_cons_of_mem _ hq))
    have e : (256 : Int) ^ (p :: ps).length = 256 ^ ps.length * 256 := by rw [List.length_cons, Int.pow_succ]
    rw [join, e]
    omega
theorem ints_pos {w : World} {B n : Nat} {A : Option Addr} {l : List Int} (h : IntsAt .u32 w B A n l) : ∀ p ∈ l, 0 ≤ p ∧ p ≤ 4294967295 := fun p hp => by
  obtain ⟨i, hi, rfl⟩ := List.getElem_of_mem hp
  have := wf_u32 (h.2.1 i (by rw [← h.1]; exact hi))
  have e : l.getD i 0 = l[i] := by simp [hi]
  rw [e] at this
  exact this
set_option maxRecDepth 100000 in
theorem load_any (w : World) (A : Au) (u : Us) (h : Un w A u) (s : Sp) (va n : Int) (r0 : 0 ≤ s.rt) (r1 : s.rt ≤ 4294967295) (v0 : 0 ≤ va) (v1 : va ≤ 4294967295) :
    Calls Try.prog 30 #[.pointer (some ⟨A.gU, 0, none⟩), spv s, .int .u32 va, .int .i64 n] w (PPost w A ⟨loadV u s va n, (spanR u s va n 2).c, (spanR u s va n 2).a, (spanR u s va n 2).u⟩) := by
  have hl := h.lt
  obtain ⟨b1, b2, fx⟩ := boxed w #[.bool s.pg, .bool s.su, .int .u32 s.rt] #[.int .i64 0, .int .u32 0]
  generalize hw1 : ((w.alloc (.cells #[.bool s.pg, .bool s.su, .int .u32 s.rt] 59)).alloc (.cells #[.int .i64 0, .int .u32 0] 63)) = w1 at *
  have H1 := Lib.hid (h.fr0 fx)
  have B2 := Lib.hid b2
  have FX := Lib.hid fx
  have hs1 : w1.heap.size = w.heap.size + 2 := by rw [← hw1]; simp
  have s0 : w1.cell? ⟨w.heap.size, 0, none⟩ = some (.bool s.pg) := b1.cell 0
  have s1 : w1.cell? ⟨w.heap.size, 1, none⟩ = some (.bool s.su) := b1.cell 1
  have s2 : w1.cell? ⟨w.heap.size, 2, none⟩ = some (.int .u32 s.rt) := b1.cell 2
  have Hs := Lib.hid (span_any w1 A u H1.out s va n 2 r0 r1 v0 v1)
  have hlen := spanR_len u s va n 2
  have hlv : loadV u s va n = join (spanR u s va n 2).u.m (spanR u s va n 2).l := rfl
  rw [hlv]
  clear h b1 b2 fx hlv
  generalize spanR u s va n 2 = lr at *
  obtain ⟨l, c, a, u1⟩ := lr
  dsimp only at hlen ⊢
  obtain ⟨res, hres⟩ : ∃ q, join u1.m l = q := ⟨_, rfl⟩
  rw [hres]
  have HRES := Lib.hid hres
  clear hres
  go_enter Try.func30, Try.ntmps30
  go_wp2_with fail
  refine (Hs.out).mono ?_
  rintro e w2 ⟨Al, N, cp, rfl, hI, hnew, hcap, hU2, f2⟩
  dsimp only at hU2 hI ⊢
  have f2x := FX.out.none.trans f2 (S := A.wr) (fun i hi e => e)
  have g2 := B2.out.fr f2 (fun e => by have := hl _ (.inr e); omega)
  have hs2 := f2.size
  have fy : Fr (fun _ => False) w2 (w2.alloc (.cells #[.int .i64 c, .int .u32 a] 63)) := (Fr.refl _ _).alloc _
  have g4 := Blk.new w2 63 #[.int .i64 c, .int .u32 a]
  have H3 := hU2.fr0 fy
  have g2 := g2.fr fy (fun e => e)
  have F3 := f2x.tr fy.none
  have hI3 := (hI.fr fy (Nat.le_refl _) (fun _ _ e => e)).more fy.size
  generalize hw3 : w2.alloc (.cells #[.int .i64 c, .int .u32 a] 63) = w3 at *
  have hs3 : w3.heap.size = w2.heap.size + 1 := by rw [← hw3]; simp
  clear s0 s1 s2 f2 f2x fy hU2 hI
  have hN : l.length = N := hI3.1
  have HI := Lib.hid hI3
  have HU := Lib.hid H3
  have G2 := Lib.hid g2
  have G4 := Lib.hid g4
  have FF := Lib.hid F3
  have HP := Lib.hid (ints_pos hI3)
  clear g2 g4 H3 F3 hI3
  have hU0 := HU.out.c0
  have hUl := HU.out.b.lt
  go_wp2_with fail
  go_loopw [12, 13] (fun v k wr => ∃ r : Nat, r ≤ N ∧ k = .int .i64 ((N : Int) - r - 1) ∧ v = .int .u32 (join u1.m (l.drop (N - r))) ∧ Fr (fun _ => False) w3 wr) (fun _ k _ => (intOf k + 1).toNat)
  case atStart => exact ⟨0, Nat.zero_le _, by congr 1, by rw [Nat.sub_zero, ← hN, List.drop_length]; rfl, Fr.refl _ _⟩
  case round =>
    obtain ⟨r, hr, rfl, rfl, fr⟩ := hrel
    by_cases hlt : r < N
    · obtain ⟨j, hj⟩ : ∃ j : Nat, j = N - r - 1 := ⟨_, rfl⟩
      have ej : ((N : Int) - r - 1) = (j : Int) := by omega
      have ej1 : N - r = j + 1 := by omega
      have ej2 : N - (r + 1) = j := by omega
      rw [ej, ej1]
      have hjl : j < l.length := by omega
      obtain ⟨b, off, rfl, hbb, hcell⟩ := HI.out.at_ (show j < N by omega)
      have hpj : 0 ≤ l.getD j 0 ∧ l.getD j 0 ≤ 4294967295 := HP.out _ (by rw [List.getD_eq_getElem?_getD, List.getElem?_eq_getElem hjl]; exact List.getElem_mem _)
      have hcell := fr.cell hcell hbb (fun e => e)
      have d0 := fr.cell hU0 hUl (fun e => e)
      have hmv := memV_bd HU.out.M (l.getD j 0) hpj.1
      have hjb := join_bd HU.out.M (l.drop (j + 1)) (fun p hp => (HP.out p (List.mem_of_mem_drop hp)).1)
      have hjb2 : join u1.m (l.drop (j + 1)) < 16777216 := by
        have hq := hjb.2
        rw [List.length_drop] at hq
        rcases (by omega : l.length - (j + 1) = 0 ∨ l.length - (j + 1) = 1 ∨ l.length - (j + 1) = 2 ∨ l.length - (j + 1) = 3) with e | e | e | e <;> rw [e] at hq <;> simp at hq <;> omega
      have HJ := Lib.hid (join_step u1.m l j hjl)
      have Hby := Lib.hid (fun W (f : Fr (fun _ => False) w3 W) => byte_any W A.am u1.m (HU.out.M.fr0 f) (l.getD j 0) hpj.1 hpj.2)
      have hj0 : (0 : Int) ≤ (j : Int) := by omega
      have hj1 : (j : Int) < (N : Int) := by omega
      have hjj := hjb.1
      clear hjb ej ej1 hj
      generalize join u1.m (l.drop (j + 1)) = v at *
      generalize l.getD j 0 = pp at *
      generalize memV u1.m pp = mv at *
      generalize inB u1.m pp 1 = ib at *
      obtain ⟨hm0, hm1⟩ := hmv
      have Ho := Lib.hid (or8 (v * 256) mv (by omega) (by omega) (by omega) hm0 hm1)
      go_wp2_with fail
      go_quiet ((go_at_call 32; exact quiet_same (Hby.out _ (by (repeat (first | exact Fr.refl _ _ | with_reducible assumption | refine Fr.drewN ?_ _ | refine Fr.drew ?_ | refine Fr.alloc ?_ _ | (refine Fr.setCell (p := ⟨_, _, _⟩) ?_ ?_ _; rotate_left; first | exact .inl rfl | (right; simp; done) | (right; simp; omega))))))))
      go_wp2_with fail
      go_roundw
      case rel => exact ⟨r + 1, by omega, by first | (congr 1; omega) | (congr 1), by rw [Ho.out, ej2, HJ.out]; congr 1; omega, fr.drewN _⟩
      case measure => first | (simp [intOf]; omega) | simp [intOf]
    · have e : r = N := by omega
      have ek : ((N : Int) - r - 1) = -1 := by omega
      have ed : N - r = 0 := by omega
      rw [ek, ed, List.drop_zero]
      rw [HRES.out]
      have HUe := HU.out.fr0 fr
      have be := G2.out.fr fr (fun e => e)
      have bt := G4.out.fr fr (fun e => e)
      have FFe := FF.out.tr fr.none
      have e2 := be.cell 0
      have e3 := be.cell 1
      have e4 := be.frozen 0
      have e5 := be.frozen 1
      have y0 := bt.cell 0
      have y1 := bt.cell 1
      simp only [List.getElem?_toArray, List.getElem?_cons_succ, List.getElem?_cons_zero] at e2 e3 y0 y1
      have HF0 := Lib.hid (trap_in be HUe FFe hl (Nat.le_succ _) (.int .i64 c) (.int .u32 a))
      clear be bt HUe FFe e ek ed
      go_wp2_with fail
      go_region
      all_goals
        go_wp2_with fail
        try simp only [Exit.inBlock, Exit.then]
        exact bodyPost_ret (results_tc rfl _ _ (w.heap.size + 1) 63 _ _ _ rfl rfl HF0.out.1.drew Try.underlying63 rfl szT) rfl ⟨rfl, HF0.out.2.1.drew, HF0.out.2.2.drew⟩
theorem putI_n (m : Ms) (p b : Int) : (m.putI p b).n = m.n := by
  unfold Ms.putI
  split <;> rfl
theorem stor_n (m : Ms) (l : List Int) (v : Int) : ∀ r, (stor m l v r).n = m.n
  | 0 => rfl
  | r + 1 => (putI_n _ _ _).trans (stor_n m l v r)
set_option maxRecDepth 100000 in
theorem store_any (w : World) (A : Au) (u : Us) (h : Un w A u) (s : Sp) (va v n : Int) (r0 : 0 ≤ s.rt) (r1 : s.rt ≤ 4294967295) (v0 : 0 ≤ va) (v1 : va ≤ 4294967295) (x0 : 0 ≤ v) (x1 : v ≤ 4294967295) :
    Calls Try.prog 28 #[.pointer (some ⟨A.gU, 0, none⟩), spv s, .int .u32 va, .int .u32 v, .int .i64 n] w fun e w' => e = .returned (trv (spanR u s va n 3).c (spanR u s va n 3).a) ∧ Un w' A (storeU u s va v n) ∧ Fr A.wr w w' := by
  have hl := h.lt
  obtain ⟨b1, b2, fx⟩ := boxed w #[.bool s.pg, .bool s.su, .int .u32 s.rt] #[.int .i64 0, .int .u32 0]
  generalize hw1 : ((w.alloc (.cells #[.bool s.pg, .bool s.su, .int .u32 s.rt] 59)).alloc (.cells #[.int .i64 0, .int .u32 0] 63)) = w1 at *
  have H1 := Lib.hid (h.fr0 fx)
  have B2 := Lib.hid b2
  have FX := Lib.hid fx
  have hs1 : w1.heap.size = w.heap.size + 2 := by rw [← hw1]; simp
  have s0 : w1.cell? ⟨w.heap.size, 0, none⟩ = some (.bool s.pg) := b1.cell 0
  have s1 : w1.cell? ⟨w.heap.size, 1, none⟩ = some (.bool s.su) := b1.cell 1
  have s2 : w1.cell? ⟨w.heap.size, 2, none⟩ = some (.int .u32 s.rt) := b1.cell 2
  have Hs := Lib.hid (span_any w1 A u H1.out s va n 3 r0 r1 v0 v1)
  have hlen := spanR_len u s va n 3
  have hlv : storeU u s va v n = ⟨stor (spanR u s va n 3).u.m (spanR u s va n 3).l v (spanR u s va n 3).l.length, (spanR u s va n 3).u.l⟩ := rfl
  rw [hlv]
  clear h b1 b2 fx hlv
  generalize spanR u s va n 3 = lr at *
  obtain ⟨l, c, a, u1⟩ := lr
  dsimp only at hlen ⊢
  obtain ⟨res, hres⟩ : ∃ q : Us, (⟨stor u1.m l v l.length, u1.l⟩ : Us) = q := ⟨_, rfl⟩
  rw [hres]
  have HRES := Lib.hid hres
  clear hres
  go_enter Try.func28, Try.ntmps28
  go_wp2_with fail
  refine (Hs.out).mono ?_
  rintro e w2 ⟨Al, N, cp, rfl, hI, hnew, hcap, hU2, f2⟩
  dsimp only at hU2 hI ⊢
  have f2x := FX.out.none.trans f2 (S := A.wr) (fun i hi e => e)
  have g2 := B2.out.fr f2 (fun e => by have := hl _ (.inr e); omega)
  have hs2 := f2.size
  have fy : Fr (fun _ => False) w2 (w2.alloc (.cells #[.int .i64 c, .int .u32 a] 63)) := (Fr.refl _ _).alloc _
  have g4 := Blk.new w2 63 #[.int .i64 c, .int .u32 a]
  have H3 := hU2.fr0 fy
  have g2 := g2.fr fy (fun e => e)
  have F3 := f2x.tr fy.none
  have hI3 := (hI.fr fy (Nat.le_refl _) (fun _ _ e => e)).more fy.size
  generalize hw3 : w2.alloc (.cells #[.int .i64 c, .int .u32 a] 63) = w3 at *
  have hs3 : w3.heap.size = w2.heap.size + 1 := by rw [← hw3]; simp
  clear s0 s1 s2 f2 f2x fy hU2 hI
  have hN : l.length = N := hI3.1
  rw [hN] at HRES
  have hwo : ∀ k, A.wr k → k < w.heap.size := fun k hk => hl k (.inr hk)
  have hrow : ∀ b off, 0 < N → Al = some ⟨b, off, none⟩ → ¬ A.am.own b := fun b off hN e q => by have := hnew hN b off e; have := hwo b (.inr q); omega
  have HRW := Lib.hid hrow
  have HWO := Lib.hid hwo
  have HI := Lib.hid hI3
  have HU := Lib.hid H3
  have G2 := Lib.hid g2
  have G4 := Lib.hid g4
  have FF := Lib.hid F3
  have HP := Lib.hid (ints_pos hI3)
  clear g2 g4 H3 F3 hI3 hrow hwo hnew
  have hU0 := HU.out.c0
  have hUl := HU.out.b.lt
  have hUn : ¬ A.am.own A.gU := fun e => (HU.out.sep _ e).1 rfl
  go_wp2_with fail
  go_loopw [25] (fun k wr => ∃ r : Nat, r ≤ N ∧ k = .int .i64 r ∧ Mem wr A.am (stor u1.m l v r) ∧ Fr A.am.own w3 wr) (fun k _ => N - (intOf k).toNat)
  case atStart => exact ⟨0, Nat.zero_le _, rfl, HU.out.M, Fr.refl _ _⟩
  case round =>
    obtain ⟨r, hr, rfl, hM, fr⟩ := hrel
    by_cases hlt : r < N
    · have hrl : r < l.length := by omega
      obtain ⟨b, off, rfl, hbb, hcell⟩ := HI.out.at_ hlt
      have hpj : 0 ≤ l.getD r 0 ∧ l.getD r 0 ≤ 4294967295 := HP.out _ (by rw [List.getD_eq_getElem?_getD, List.getElem?_eq_getElem hrl]; exact List.getElem_mem _)
      have hcell := fr.cell hcell hbb (HRW.out b off (by omega) rfl)
      have d0 := fr.cell hU0 hUl hUn
      have Hput := Lib.hid (fun bv (h0 : 0 ≤ bv) (h1 : bv < 256) => put_any wr.drew A.am _ hM.drew (l.getD r 0) bv hpj.1 hpj.2 h0 h1)
      have HSt : Hid (stor u1.m l v (r + 1) = (stor u1.m l v r).putI (l.getD r 0) (v / 256 ^ r % 256)) := rfl
      have hrl1 : (r : Int) < (N : Int) := by omega
      have hrl0 : (0 : Int) ≤ (r : Int) := by omega
      generalize l.getD r 0 = pp at *
      have Hrr : Hid (∀ w5, Fr A.am.own wr.drew w5 → Fr A.am.own w3 w5) := Lib.hid (fun w5 f => fr.drew.tr f)
      clear hM
      rcases (by omega : r = 0 ∨ r = 1 ∨ r = 2 ∨ r = 3) with hr0 | hr0 | hr0 | hr0
      · subst hr0
        have hw8 : IntKind.i64.wrap 0 = 0 := by decide
        have HB : v / 256 ^ 0 % 256 = v % 256 := by omega
        rw [Nat.add_zero] at hcell
        rw [HB] at HSt
        have Hp := Lib.hid (Hput.out _ (show 0 ≤ v % 256 by omega) (show v % 256 < 256 by omega))
        rw [← HSt.out] at Hp
        clear Hput HSt HB
        go_wp2_with fail
        go_region_with ((go_at_call 67; refine (Hp.out).mono ?_; rintro e w5 ⟨rfl, hM5, f5⟩; have fr5 := Hrr.out _ f5))
        go_wp2_with fail
        go_roundw
        case rel => exact ⟨1, by omega, by go_num, hM5, fr5⟩
        case measure => simp [intOf]; omega
      · subst hr0
        have hw8 : IntKind.i64.wrap 8 = 8 := by decide
        have HB : v / 256 ^ 1 % 256 = v / 256 % 256 := by omega
        rw [HB] at HSt
        have Hp := Lib.hid (Hput.out _ (show 0 ≤ v / 256 % 256 by omega) (show v / 256 % 256 < 256 by omega))
        rw [← HSt.out] at Hp
        clear Hput HSt HB
        go_wp2_with fail
        go_region_with ((go_at_call 67; refine (Hp.out).mono ?_; rintro e w5 ⟨rfl, hM5, f5⟩; have fr5 := Hrr.out _ f5))
        go_wp2_with fail
        go_roundw
        case rel => exact ⟨2, by omega, by go_num, hM5, fr5⟩
        case measure => simp [intOf]; omega
      · subst hr0
        have hw8 : IntKind.i64.wrap 16 = 16 := by decide
        have HB : v / 256 ^ 2 % 256 = v / 65536 % 256 := by omega
        rw [HB] at HSt
        have Hp := Lib.hid (Hput.out _ (show 0 ≤ v / 65536 % 256 by omega) (show v / 65536 % 256 < 256 by omega))
        rw [← HSt.out] at Hp
        clear Hput HSt HB
        go_wp2_with fail
        go_region_with ((go_at_call 67; refine (Hp.out).mono ?_; rintro e w5 ⟨rfl, hM5, f5⟩; have fr5 := Hrr.out _ f5))
        go_wp2_with fail
        go_roundw
        case rel => exact ⟨3, by omega, by go_num, hM5, fr5⟩
        case measure => simp [intOf]; omega
      · subst hr0
        have hw8 : IntKind.i64.wrap 24 = 24 := by decide
        have HB : v / 256 ^ 3 % 256 = v / 16777216 % 256 := by omega
        rw [HB] at HSt
        have Hp := Lib.hid (Hput.out _ (show 0 ≤ v / 16777216 % 256 by omega) (show v / 16777216 % 256 < 256 by omega))
        rw [← HSt.out] at Hp
        clear Hput HSt HB
        go_wp2_with fail
        go_region_with ((go_at_call 67; refine (Hp.out).mono ?_; rintro e w5 ⟨rfl, hM5, f5⟩; have fr5 := Hrr.out _ f5))
        go_wp2_with fail
        go_roundw
        case rel => exact ⟨4, by omega, by go_num, hM5, fr5⟩
        case measure => simp [intOf]; omega
    · have e : r = N := by omega
      rw [e] at hM
      have HUe : Un wr A res := by rw [← HRES.out]; exact HU.out.setM hM fr
      have be := G2.out.fr fr (fun e => by have := HWO.out _ (.inr e); omega)
      have bt := G4.out.fr fr (fun e => by have := HWO.out _ (.inr e); omega)
      have FFe := FF.out.trans fr (S := A.wr) (fun i hi e => .inr e)
      have e2 := be.cell 0
      have e3 := be.cell 1
      have e4 := be.frozen 0
      have e5 := be.frozen 1
      have y0 := bt.cell 0
      have y1 := bt.cell 1
      simp only [List.getElem?_toArray, List.getElem?_cons_succ, List.getElem?_cons_zero] at e2 e3 y0 y1
      have HF0 := Lib.hid (trap_in be HUe FFe hl (Nat.le_succ _) (.int .i64 c) (.int .u32 a))
      clear be bt HUe FFe e hM
      go_wp2_with fail
      try simp only [Exit.inBlock, Exit.then]
      exact bodyPost_ret (results_c rfl _ _ (w.heap.size + 1) 63 _ _ rfl HF0.out.1 Try.underlying63 rfl szT) rfl ⟨rfl, HF0.out.2.1, HF0.out.2.2⟩
end Go.Proofs.Ythiephlfhbkcbaa.Mu
