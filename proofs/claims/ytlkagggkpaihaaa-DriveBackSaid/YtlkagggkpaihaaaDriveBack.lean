/- DriveBack: the walk. -/
import Derived.Test.YtlkagggkpaihaaaDriveLaws
import Derived.Deep.DeepCutAuto
namespace Go.Proofs.Ytlkagggkpaihaaa.driveBack
open Go.RowKit Fm Nt Rm By Dr
set_option linter.unusedVariables false
set_option maxHeartbeats 40000000

theorem run_sect2 (A g cap k : Nat) (hk : k < 16) (hc : 1024 ≤ cap) (W : World) : (Instr.slice 22 (.slice (some ⟨g, 0, none⟩) 1024 cap) (some (.int .u32 (64 * (k : Int)))) (some (.int .u32 (64 * (k : Int) + 64))) none).run Try.prog W = .ok (.slice (some ⟨g, k * 64, none⟩) 64 (cap - k * 64)) W := by
  obtain ⟨i0, hi0, hz0, hz1, hz2⟩ := info_parts infoU8
  have he : Try.prog.elem 22 = 5 := by kernel_rfl
  rw [run_slice_lh W 22 (some ⟨g, 0, none⟩) 1024 cap (by rw [he]; exact Try.underlying22) .u32 .u32 (64 * (k : Int)) (64 * (k : Int) + 64) (by omega) (by omega) (by omega)]
  have e1 : (64 * (k : Int)).toNat = k * 64 := by omega
  have e2 : (64 * (k : Int) + 64).toNat = k * 64 + 64 := by omega
  have e3 : ¬ (cap = k * 64) := by omega
  have e4 : k * 64 + 64 - k * 64 = 64 := by omega
  simp [sizeOf, typeInfo, he, hi0, hz1, Result.andThen, sliced, e1, e2, e3, e4, Addr.add]
  intro h; omega
theorem sub_ints {w : World} {B n g : Nat} {z : Nat → Int} (h : IntsAt .u8 w B (some ⟨g, 0, none⟩) n (lst z n)) {o k : Nat} (hok : o + k ≤ n) (hk : 0 < k) : IntsAt .u8 w B (some ⟨g, o, none⟩) k (lst (fun j => z (o + j)) k) := by
  obtain ⟨b, off, e, hb, hc⟩ := h.2.2 (by omega)
  injection e with e
  injection e with e1 e2
  subst e1 e2
  refine ⟨lst_len _ _, fun i hi => ?_, fun _ => ⟨_, _, rfl, hb, fun i hi => ?_⟩⟩
  · rw [lst_at _ hi]
    have := h.2.1 (o + i) (by omega)
    rw [lst_at _ (by omega)] at this
    exact this
  · rw [lst_at _ hi]
    have := hc (o + i) (by omega)
    rw [lst_at _ (by omega), Nat.zero_add] at this
    exact this
set_option maxRecDepth 100000 in
theorem walk (w : World) (A2 : Option Addr) (len2 cap2 : Nat) (hc2 : len2 ≤ cap2) (zs2 : List Int) (hz2 : IntsAt .u8 w w.heap.size A2 len2 zs2) (hm2 : len2 ≤ maxLen) (s : Int) (hs : (Lit.int .u32 s).wf = true) (x : Int) (hx : (Lit.int .u32 x).wf = true) (y : Int) (hy : (Lit.int .u32 y).wf = true) :
    Calls Try.prog 4 #[.slice A2 len2 cap2, .int .u32 s, .int .u32 x, .int .u32 y] w fun e w' => e = .returned (.bool true) ∧ Fr (fun _ => False) w w' := by
  obtain ⟨s0, s1⟩ := wf_u32 hs
  obtain ⟨x0, x1⟩ := wf_u32 hx
  obtain ⟨y0, y1⟩ := wf_u32 hy
  have Hcut2 : Hid (∀ W, Calls Try.prog 20 #[.slice A2 len2 cap2, .int .i64 256] W fun e w' => e = .returned (.slice A2 (min len2 256) cap2) ∧ W = w') := fun W => cut_any W A2 len2 cap2 256 hm2 hc2 (by omega)
  have hy1 := hz2.take (show min len2 256 ≤ len2 from Nat.min_le_left _ _)
  have hn2 : min len2 256 ≤ 256 := Nat.min_le_right _ _
  obtain ⟨k, hk⟩ : ∃ k : Nat, s % 16 = k := ⟨(s % 16).toNat, by omega⟩
  obtain ⟨p, hp⟩ : ∃ k : Nat, x % 4 = k := ⟨(x % 4).toNat, by omega⟩
  obtain ⟨q, hq⟩ : ∃ k : Nat, y % 4 = k := ⟨(y % 4).toNat, by omega⟩
  have k16 : k < 16 := by omega
  have p4 : p < 4 := by omega
  have q4 : q < 4 := by omega
  have HK := Lib.hid hk
  have HP := Lib.hid hp
  have HQ := Lib.hid hq
  clear hz2 hm2 hc2 hs hx hy hk hp hq
  generalize zs2.take (min len2 256) = yl at *
  generalize min len2 256 = n2 at *
  have Hm : Hid (Calls Try.prog 13 #[.slice A2 n2 cap2, .int .i64 4] w (Memory14 w 4 yl)) := memory14 w A2 n2 cap2 4 yl hy1 (by omega) (by omega) (by omega)
  go_enter Try.func4, Try.ntmps4
  go_wp2_with fail
  refine (Hcut2.out _).mono ?_
  rintro e w' ⟨rfl, rfl⟩
  go_wp2_with fail
  refine (Hm.out).mono ?_
  rintro e w1 ⟨a, rfl, hM, hba, f1⟩
  have Hnd := Lib.hid (new_any w1 none 0 0 [] (intsAt_nil _ _ _ _) (by omega))
  have Hlt := Lib.hid hM.lt
  have Hba := Lib.hid hba
  clear hba
  go_wp2_with fail
  refine (Hnd.out).mono ?_
  rintro e w2 ⟨gd, gb, rfl, hD, hgd, hgb, f2⟩
  have hM2 := hM.fr0 f2
  have fr2 := f1.tr f2
  have Hdis := Lib.hid (show ∀ k, a.own k → k ≠ gd ∧ k ≠ gb from fun k hk => by
    have := Hlt.out k hk
    omega)
  have hgw : w.heap.size ≤ gb := by have := f1.size; omega
  have Hown := Lib.hid (show ∀ k, k = gb ∨ a.own k → k < w2.heap.size from fun k hk => by
    rcases hk with hk | hk
    · have := hD.lt.2; omega
    · have := Hlt.out k hk; have := f2.size; omega)
  have hn4 : (Ms.init 4 yl).n = 4 := init_n 4 yl
  have Hd0 := Lib.hid (show ∀ i, dinit [] i = 0 from fun i => by simp [dinit])
  generalize Ms.init 4 yl = m at *
  generalize dinit [] = d at *
  have Hn4 := Lib.hid hn4
  have Hbd : Hid (∀ k, k < 256 → 0 ≤ m.mem k ∧ m.mem k < 256) := by
    show ∀ k, k < 256 → 0 ≤ m.mem k ∧ m.mem k < 256
    have := hM2.bd
    rw [Hn4.out] at this
    exact this
  have HAL : Hid (∀ (mm : Ms), mm.n = 4 → ∀ W, Mem W a mm → Calls Try.prog 21 #[.pointer (some ⟨a.gm, 0, none⟩)] W fun e w' => e = .returned (.slice (some ⟨W.heap.size, 0, none⟩) 256 256) ∧ Cells w' W.heap.size 5 256 (fun k => .int .u8 (mm.mem k)) ∧ Fr (fun _ => False) W w') := fun mm h4 W h => by
    have := all_any W a mm h
    rw [h4] at this
    exact this
  -- what the two calls of the drive come to
  have hb1 : doB m k (64 * (p : Int)) 2 = true := by simp [doB, hn4]; omega
  have hb2 : doB m k (64 * (q : Int)) 1 = true := by simp [doB, hn4]; omega
  have eM1 : doM d m k (64 * (p : Int)) 2 = m := by rw [doM, if_neg (by omega)]
  obtain ⟨d1, hd1⟩ : ∃ d1, doD d m k (64 * (p : Int)) 2 = d1 := ⟨_, rfl⟩
  have hdv : ∀ i, d1 i = if k * 64 ≤ i ∧ i < k * 64 + 64 then m.mem (p * 64 + (i - k * 64)) else d i := fun i => by
    rw [← hd1, doD, if_pos ⟨hb1, rfl⟩, show (64 * (p : Int)).toNat = p * 64 by omega]; rfl
  have eD2 : doD d1 m k (64 * (q : Int)) 1 = d1 := by rw [doD, if_neg (by omega)]
  obtain ⟨m1, hm1⟩ : ∃ m1, doM d1 m k (64 * (q : Int)) 1 = m1 := ⟨_, rfl⟩
  have hmv : ∀ i, m1.mem i = if q * 64 ≤ i ∧ i < q * 64 + 64 then m.mem (p * 64 + (i - q * 64)) else m.mem i := fun i => by
    rw [← hm1, doM, if_pos ⟨hb2, rfl⟩, show (64 * (q : Int)).toNat = q * 64 by omega, puts_mem]
    by_cases h : q * 64 ≤ i ∧ i < q * 64 + 64
    · rw [if_pos h, if_pos h, sect, lst_at _ (by omega), show (k : Int).toNat = k from rfl, hdv, if_pos (by omega)]
      congr 1; omega
    · rw [if_neg h, if_neg h]
  have hm1n : m1.n = 4 := by rw [← hm1, doM, if_pos ⟨hb2, rfl⟩, puts_n]; exact hn4
  have HB1 := Lib.hid hb1
  have HB2 := Lib.hid hb2
  have HE1 := Lib.hid eM1
  have HD1 := Lib.hid hd1
  have HDV := Lib.hid hdv
  have HE2 := Lib.hid eD2
  have HM1 := Lib.hid hm1
  have HMV := Lib.hid hmv
  have HM1n := Lib.hid hm1n
  have hpg := page_in w2 a m hM2 (p : Int) (by omega) (by rw [hn4]; omega)
  rw [show (p : Int).toNat = p from rfl] at hpg
  have Hpg := Lib.hid hpg
  clear hb1 hb2 eM1 hd1 hdv eD2 hm1 hmv hm1n hpg hn4 hM hgd hgb hn2 hy1 Hm Hcut2 f1 f2 Hnd
  go_wp2_with fail
  rw [HK.out, HP.out, HQ.out]
  refine (Hpg.out).mono ?_
  rintro e w3 ⟨rfl, hc3, f3⟩
  have hM3 := hM2.fr0 f3
  have hD3 := hD.fr f3 (fun e => e) (fun e => e)
  have fr3 := fr2.tr f3
  have HI3 := Lib.hid (cells_ints hc3 (fun k hk => Hbd.out _ (by omega)))
  have Hal3 := Lib.hid (HAL.out m Hn4.out w3 hM3)
  have hl3 : w2.heap.size + 1 ≤ w3.heap.size := hc3.lt
  clear hc3
  go_wp2_with fail
  refine (Hal3.out).mono ?_
  rintro e w4 ⟨rfl, hc4, f4⟩
  have hM4 := hM3.fr0 f4
  have hD4 := hD3.fr f4 (fun e => e) (fun e => e)
  have fr4 := fr3.tr f4
  have HI4 := Lib.hid (cells_ints hc4 Hbd.out)
  have HJ3 := Lib.hid (HI3.out.fr f4 hl3 (fun _ _ e => e))
  have hl4 : w3.heap.size + 1 ≤ w4.heap.size := hc4.lt
  clear hc4
  go_upto_region 8 with (fail)
  go_cut [83] (fun v wx => v = .bool false ∧ Drv wx gd gb d1 ∧ Mem wx a m1 ∧ IntsAt .u8 wx (w2.heap.size + 1) (some ⟨w2.heap.size, 0, none⟩) 64 (lst (fun j => m.mem (p * 64 + j)) 64) ∧ IntsAt .u8 wx (w3.heap.size + 1) (some ⟨w3.heap.size, 0, none⟩) 256 (lst m.mem 256) ∧ Fr (fun k => k = gb ∨ a.own k) w4 wx)
  case first => as_aux_lemma =>
    have hD9 : Drv w4.drew gd gb d := ⟨hD4.b, hD4.c, hD4.bd⟩
    have hM9 : Mem w4.drew a m := hM4.drew
    have HWP : Hid (IntKind.u32.wrap (64 * (p : Int)) = 64 * (p : Int)) := IntWalk.u32_in _ (by omega)
    have HWQ : Hid (IntKind.u32.wrap (64 * (q : Int)) = 64 * (q : Int)) := IntWalk.u32_in _ (by omega)
    have HFd : Hid (Fr (fun k => k = gb ∨ a.own k) w4 w4.drew) := Lib.hid (Fr.refl _ w4).drew
    have hno : ∀ b' off, (some ⟨w2.heap.size, 0, none⟩ : Option Addr) = some ⟨b', off, none⟩ → ¬ (b' = gb ∨ a.own b') := fun b' off e ho => by
      injection e with e
      injection e with e1 e2
      have := Hown.out b' ho
      omega
    have hno2 : ∀ b' off, (some ⟨w3.heap.size, 0, none⟩ : Option Addr) = some ⟨b', off, none⟩ → ¬ (b' = gb ∨ a.own b') := fun b' off e ho => by
      injection e with e
      injection e with e1 e2
      have := Hown.out b' ho
      omega
    have HNO := Lib.hid hno
    have HNO2 := Lib.hid hno2
    have hkeepA : ∀ W, Fr (fun k => k = gb ∨ a.own k) w4 W → IntsAt .u8 W (w2.heap.size + 1) (some ⟨w2.heap.size, 0, none⟩) 64 (lst (fun j => m.mem (p * 64 + j)) 64) := fun W f => ints_own HJ3.out f (by omega) (fun _ => HNO.out)
    have hkeepB : ∀ W, Fr (fun k => k = gb ∨ a.own k) w4 W → IntsAt .u8 W (w3.heap.size + 1) (some ⟨w3.heap.size, 0, none⟩) 256 (lst m.mem 256) := fun W f => ints_own HI4.out f (by omega) (fun _ => HNO2.out)
    have HKA := Lib.hid hkeepA
    have HKB := Lib.hid hkeepB
    have HDo1 := Lib.hid (do_any w4.drew gd gb d a m hD9 hM9 Hdis.out (k : Int) (64 * (p : Int)) 2 (by omega) (by omega) (by omega) (by omega) (by omega) (by omega))
    rw [HB1.out, HE1.out, HD1.out] at HDo1
    have HDo2 := Lib.hid (fun W (h1 : Drv W gd gb d1) (h2 : Mem W a m) => do_any W gd gb d1 a m h1 h2 Hdis.out (k : Int) (64 * (q : Int)) 1 (by omega) (by omega) (by omega) (by omega) (by omega) (by omega))
    simp only [HB2.out, HE2.out, HM1.out] at HDo2
    have HAm := Lib.hid (HAL.out m Hn4.out)
    have HQS := Lib.hid (fun W g B (h : IntsAt .u8 W B (some ⟨g, 0, none⟩) 256 (lst m.mem 256)) => str_of_ints (c := 256) h)
    have HCI := Lib.hid (fun W g (h : Cells W g 5 256 (fun k => .int .u8 (m.mem k))) => cells_ints h Hbd.out)
    clear hD9 hM9 hno hno2 hkeepA hkeepB hD4 hM4 hD3 hM3 hD hM2 HI3 HI4 HJ3 Hpg Hal3 Hba Hlt HAL HK HP HQ HB1 HB2 HE1 HE2 HD1 HDV HM1 HMV HM1n s0 s1 x0 x1 y0 y1 fr2 fr3 fr4 f3 f4 hl3 hl4 Hd0
    generalize str (lst m.mem 256) = QM at *
    refine wp_region_any (by kernel_rfl) ?_
    try (change wpAny _ _ _ _ _ _ _ (World.drew _))
    refine wpAny_take (i := 0) (v := ?_) rfl (by kernel_rfl) (by kernel_rfl) (by kernel_rfl) (fun _ _ _ h => h) (Or.inl ⟨by kernel_rfl, ?_⟩) ?_
    rotate_left
    · (intro w; go_simp; try with_reducible rfl)
    refine wpAny_take (i := 1) (v := ?_) rfl (by kernel_rfl) (by kernel_rfl) (by kernel_rfl) (fun _ _ _ h => h) (Or.inl ⟨by kernel_rfl, ?_⟩) ?_
    rotate_left
    · (intro w; go_simp; try with_reducible rfl)
    refine wpAny_take (i := 2) (v := ?_) rfl (by kernel_rfl) (by kernel_rfl) (by kernel_rfl) (fun _ _ _ h => h) (Or.inl ⟨by kernel_rfl, ?_⟩) ?_
    rotate_left
    · (intro w; go_simp; try with_reducible rfl)
    refine wpAny_take (i := 3) (v := ?_) rfl (by kernel_rfl) (by kernel_rfl) (by kernel_rfl) (fun _ _ _ h => h) (Or.inl ⟨by kernel_rfl, ?_⟩) ?_
    rotate_left
    · (intro w; go_simp; try with_reducible rfl)
    simp only [Act.put, List.getElem_toArray, List.getElem_cons_zero, List.getElem_cons_succ, List.setIfInBounds_toArray, List.set_cons_zero, List.set_cons_succ]
    refine wpAny_take (i := 4) (v := ?_) rfl (by kernel_rfl) (by kernel_rfl) (by kernel_rfl) (fun _ _ _ h => h) (Or.inl ⟨by kernel_rfl, ?_⟩) ?_
    rotate_left
    · (intro w; go_simp; try with_reducible rfl)
    refine wpAny_take (i := 5) (v := ?_) rfl (by kernel_rfl) (by kernel_rfl) (by kernel_rfl) (fun _ _ _ h => h) (Or.inl ⟨by kernel_rfl, ?_⟩) ?_
    rotate_left
    · (intro w; go_simp; try with_reducible rfl)
    refine wpAny_take (i := 6) (v := ?_) rfl (by kernel_rfl) (by kernel_rfl) (by kernel_rfl) (fun _ _ _ h => h) (Or.inl ⟨by kernel_rfl, ?_⟩) ?_
    rotate_left
    · (intro w; go_simp; try with_reducible rfl)
    refine wpAny_take (i := 7) (v := ?_) rfl (by kernel_rfl) (by kernel_rfl) (by kernel_rfl) (fun _ _ _ h => h) (Or.inl ⟨by kernel_rfl, ?_⟩) ?_
    rotate_left
    · (intro w; go_simp; try with_reducible rfl)
    simp only [Act.put, List.getElem_toArray, List.getElem_cons_zero, List.getElem_cons_succ, List.setIfInBounds_toArray, List.set_cons_zero, List.set_cons_succ]
    refine wpAny_ready (rs := [8]) (by kernel_rfl) (by simp) ?_
    refine AllReady.cons rfl (fun K hK => ?_) ?_
    · go_simp
      go_wp2_with (rw [HWP.out]; refine (HDo1.out).mono ?_; rintro e w5 ⟨rfl, hD5, hM5, f5⟩; have qw5 := HQS.out _ _ _ (HKB.out _ (HFd.out.tr f5)); have HD5 := Lib.hid hD5; have HM5 := Lib.hid hM5; have HF5 := Lib.hid (HFd.out.tr f5); clear hD5 hM5 f5)
      refine wpAny_take (i := 9) (v := ?_) rfl (by kernel_rfl) (by kernel_rfl) (by kernel_rfl) (fun _ _ _ h => h) (Or.inl ⟨by kernel_rfl, ?_⟩) ?_
      rotate_left
      · (intro w; go_simp; try with_reducible rfl)
      refine wpAny_take (i := 10) (v := ?_) rfl (by kernel_rfl) (by kernel_rfl) (by kernel_rfl) (fun _ _ _ h => h) (Or.inl ⟨by kernel_rfl, ?_⟩) ?_
      rotate_left
      · (intro w; go_simp; try with_reducible rfl)
      refine wpAny_take (i := 11) (v := ?_) rfl (by kernel_rfl) (by kernel_rfl) (by kernel_rfl) (fun _ _ _ h => h) (Or.inl ⟨by kernel_rfl, ?_⟩) ?_
      rotate_left
      · (intro w; go_simp; try with_reducible rfl)
      refine wpAny_take (i := 12) (v := ?_) rfl (by kernel_rfl) (by kernel_rfl) (by kernel_rfl) (fun _ _ _ h => h) (Or.inl ⟨by kernel_rfl, ?_⟩) ?_
      rotate_left
      · (intro w; go_simp; try with_reducible rfl)
      simp only [Act.put, List.getElem_toArray, List.getElem_cons_zero, List.getElem_cons_succ, List.setIfInBounds_toArray, List.set_cons_zero, List.set_cons_succ]
      refine wpAny_take (i := 15) (v := ?_) rfl (by kernel_rfl) (by kernel_rfl) (by kernel_rfl) (fun _ _ _ h => h) (Or.inl ⟨by kernel_rfl, ?_⟩) ?_
      rotate_left
      · (intro w; go_simp; try with_reducible rfl)
      simp only [Act.put, List.getElem_toArray, List.getElem_cons_zero, List.getElem_cons_succ, List.setIfInBounds_toArray, List.set_cons_zero, List.set_cons_succ]
      refine wpAny_ready (rs := [13, 16]) (by kernel_rfl) (by simp) ?_
      refine AllReady.cons rfl (fun K hK => ?_) ?_
      · go_simp
        go_wp2_with (refine (HAm.out w5 HM5.out).mono ?_; rintro e w6 ⟨rfl, hc6, f6⟩; have q6 := HQS.out _ _ _ (HCI.out _ _ hc6); have HF6 := Lib.hid (HF5.out.tr (Fr.none (S := fun k => k = gb ∨ a.own k) f6)); have qw6 := HQS.out _ _ _ (HKB.out _ HF6.out); have HM6 := Lib.hid (HM5.out.fr0 f6); have HD6 := Lib.hid (HD5.out.fr f6 (fun e => e) (fun e => e)); clear hc6 f6)
        refine wpAny_ready (rs := [14, 16]) (by kernel_rfl) (by simp) ?_
        refine AllReady.cons rfl (fun K hK => ?_) ?_
        · go_simp
          refine hK _ _ ?_
          clear hK K
          refine wpAny_ready (rs := [16]) (by kernel_rfl) (by simp) ?_
          refine AllReady.cons rfl (fun K hK => ?_) ?_
          · go_simp
            refine hK _ _ ?_
            clear hK K
            refine wpAny_take (i := 17) (v := ?_) rfl (by kernel_rfl) (by kernel_rfl) (by kernel_rfl) (fun _ _ _ h => h) (Or.inl ⟨by kernel_rfl, ?_⟩) ?_
            rotate_left
            · (intro w; go_simp; try with_reducible rfl)
            refine wpAny_take (i := 18) (v := ?_) rfl (by kernel_rfl) (by kernel_rfl) (by kernel_rfl) (fun _ _ _ h => h) (Or.inl ⟨by kernel_rfl, ?_⟩) ?_
            rotate_left
            · (intro w; go_simp; try with_reducible rfl)
            refine wpAny_take (i := 19) (v := ?_) rfl (by kernel_rfl) (by kernel_rfl) (by kernel_rfl) (fun _ _ _ h => h) (Or.inl ⟨by kernel_rfl, ?_⟩) ?_
            rotate_left
            · (intro w; go_simp; try with_reducible rfl)
            refine wpAny_take (i := 20) (v := ?_) rfl (by kernel_rfl) (by kernel_rfl) (by kernel_rfl) (fun _ _ _ h => h) (Or.inl ⟨by kernel_rfl, ?_⟩) ?_
            rotate_left
            · (intro w; go_simp; try with_reducible rfl)
            simp only [Act.put, List.getElem_toArray, List.getElem_cons_zero, List.getElem_cons_succ, List.setIfInBounds_toArray, List.set_cons_zero, List.set_cons_succ]
            refine wpAny_take (i := 21) (v := ?_) rfl (by kernel_rfl) (by kernel_rfl) (by kernel_rfl) (fun _ _ _ h => h) (Or.inl ⟨by kernel_rfl, ?_⟩) ?_
            rotate_left
            · (intro w; go_simp; try with_reducible rfl)
            refine wpAny_take (i := 22) (v := ?_) rfl (by kernel_rfl) (by kernel_rfl) (by kernel_rfl) (fun _ _ _ h => h) (Or.inl ⟨by kernel_rfl, ?_⟩) ?_
            rotate_left
            · (intro w; go_simp; try with_reducible rfl)
            refine wpAny_take (i := 23) (v := ?_) rfl (by kernel_rfl) (by kernel_rfl) (by kernel_rfl) (fun _ _ _ h => h) (Or.inl ⟨by kernel_rfl, ?_⟩) ?_
            rotate_left
            · (intro w; go_simp; try with_reducible rfl)
            refine wpAny_take (i := 24) (v := ?_) rfl (by kernel_rfl) (by kernel_rfl) (by kernel_rfl) (fun _ _ _ h => h) (Or.inl ⟨by kernel_rfl, ?_⟩) ?_
            rotate_left
            · (intro w; go_simp; try with_reducible rfl)
            simp only [Act.put, List.getElem_toArray, List.getElem_cons_zero, List.getElem_cons_succ, List.setIfInBounds_toArray, List.set_cons_zero, List.set_cons_succ]
            refine wpAny_ready (rs := [25]) (by kernel_rfl) (by simp) ?_
            refine AllReady.cons rfl (fun K hK => ?_) ?_
            · go_simp
              go_wp2_with (rw [HWQ.out]; refine (HDo2.out w6 HD6.out HM6.out).mono ?_; rintro e w7 ⟨rfl, hD7, hM7, f7⟩; have HX := Lib.hid (And.intro hD7 (And.intro hM7 (HF6.out.tr f7))); clear hD7 hM7 f7)
              refine wpAny_take (i := 26) (v := ?_) rfl (by kernel_rfl) (by kernel_rfl) (by kernel_rfl) (fun _ _ _ h => h) (Or.inl ⟨by kernel_rfl, ?_⟩) ?_
              rotate_left
              · (intro w; go_simp; try with_reducible rfl)
              refine wpAny_take (i := 27) (v := ?_) rfl (by kernel_rfl) (by kernel_rfl) (by kernel_rfl) (fun _ _ _ h => h) (Or.inl ⟨by kernel_rfl, ?_⟩) ?_
              rotate_left
              · (intro w; go_simp; try with_reducible rfl)
              refine wpAny_done (by kernel_rfl) ?_ _
              go_wp2_with fail
              go_meet
              exact ⟨rfl, HX.out.1, HX.out.2.1, HKA.out _ HX.out.2.2, HKB.out _ HX.out.2.2, HX.out.2.2⟩
            exact AllReady.nil
          exact AllReady.nil
        refine AllReady.cons rfl (fun K hK => ?_) ?_
        · go_simp
          refine hK _ _ ?_
          clear hK K
          refine wpAny_ready (rs := [14]) (by kernel_rfl) (by simp) ?_
          refine AllReady.cons rfl (fun K hK => ?_) ?_
          · go_simp
            refine hK _ _ ?_
            clear hK K
            refine wpAny_take (i := 17) (v := ?_) rfl (by kernel_rfl) (by kernel_rfl) (by kernel_rfl) (fun _ _ _ h => h) (Or.inl ⟨by kernel_rfl, ?_⟩) ?_
            rotate_left
            · (intro w; go_simp; try with_reducible rfl)
            refine wpAny_take (i := 18) (v := ?_) rfl (by kernel_rfl) (by kernel_rfl) (by kernel_rfl) (fun _ _ _ h => h) (Or.inl ⟨by kernel_rfl, ?_⟩) ?_
            rotate_left
            · (intro w; go_simp; try with_reducible rfl)
            refine wpAny_take (i := 19) (v := ?_) rfl (by kernel_rfl) (by kernel_rfl) (by kernel_rfl) (fun _ _ _ h => h) (Or.inl ⟨by kernel_rfl, ?_⟩) ?_
            rotate_left
            · (intro w; go_simp; try with_reducible rfl)
            refine wpAny_take (i := 20) (v := ?_) rfl (by kernel_rfl) (by kernel_rfl) (by kernel_rfl) (fun _ _ _ h => h) (Or.inl ⟨by kernel_rfl, ?_⟩) ?_
            rotate_left
            · (intro w; go_simp; try with_reducible rfl)
            simp only [Act.put, List.getElem_toArray, List.getElem_cons_zero, List.getElem_cons_succ, List.setIfInBounds_toArray, List.set_cons_zero, List.set_cons_succ]
            refine wpAny_take (i := 21) (v := ?_) rfl (by kernel_rfl) (by kernel_rfl) (by kernel_rfl) (fun _ _ _ h => h) (Or.inl ⟨by kernel_rfl, ?_⟩) ?_
            rotate_left
            · (intro w; go_simp; try with_reducible rfl)
            refine wpAny_take (i := 22) (v := ?_) rfl (by kernel_rfl) (by kernel_rfl) (by kernel_rfl) (fun _ _ _ h => h) (Or.inl ⟨by kernel_rfl, ?_⟩) ?_
            rotate_left
            · (intro w; go_simp; try with_reducible rfl)
            refine wpAny_take (i := 23) (v := ?_) rfl (by kernel_rfl) (by kernel_rfl) (by kernel_rfl) (fun _ _ _ h => h) (Or.inl ⟨by kernel_rfl, ?_⟩) ?_
            rotate_left
            · (intro w; go_simp; try with_reducible rfl)
            refine wpAny_take (i := 24) (v := ?_) rfl (by kernel_rfl) (by kernel_rfl) (by kernel_rfl) (fun _ _ _ h => h) (Or.inl ⟨by kernel_rfl, ?_⟩) ?_
            rotate_left
            · (intro w; go_simp; try with_reducible rfl)
            simp only [Act.put, List.getElem_toArray, List.getElem_cons_zero, List.getElem_cons_succ, List.setIfInBounds_toArray, List.set_cons_zero, List.set_cons_succ]
            refine wpAny_ready (rs := [25]) (by kernel_rfl) (by simp) ?_
            refine AllReady.cons rfl (fun K hK => ?_) ?_
            · go_simp
              go_wp2_with (rw [HWQ.out]; refine (HDo2.out w6 HD6.out HM6.out).mono ?_; rintro e w7 ⟨rfl, hD7, hM7, f7⟩; have HX := Lib.hid (And.intro hD7 (And.intro hM7 (HF6.out.tr f7))); clear hD7 hM7 f7)
              refine wpAny_take (i := 26) (v := ?_) rfl (by kernel_rfl) (by kernel_rfl) (by kernel_rfl) (fun _ _ _ h => h) (Or.inl ⟨by kernel_rfl, ?_⟩) ?_
              rotate_left
              · (intro w; go_simp; try with_reducible rfl)
              refine wpAny_take (i := 27) (v := ?_) rfl (by kernel_rfl) (by kernel_rfl) (by kernel_rfl) (fun _ _ _ h => h) (Or.inl ⟨by kernel_rfl, ?_⟩) ?_
              rotate_left
              · (intro w; go_simp; try with_reducible rfl)
              refine wpAny_done (by kernel_rfl) ?_ _
              go_wp2_with fail
              go_meet
              exact ⟨rfl, HX.out.1, HX.out.2.1, HKA.out _ HX.out.2.2, HKB.out _ HX.out.2.2, HX.out.2.2⟩
            exact AllReady.nil
          exact AllReady.nil
        exact AllReady.nil
      refine AllReady.cons rfl (fun K hK => ?_) ?_
      · go_simp
        refine hK _ _ ?_
        clear hK K
        refine wpAny_ready (rs := [13]) (by kernel_rfl) (by simp) ?_
        refine AllReady.cons rfl (fun K hK => ?_) ?_
        · go_simp
          go_wp2_with (refine (HAm.out w5 HM5.out).mono ?_; rintro e w6 ⟨rfl, hc6, f6⟩; have q6 := HQS.out _ _ _ (HCI.out _ _ hc6); have HF6 := Lib.hid (HF5.out.tr (Fr.none (S := fun k => k = gb ∨ a.own k) f6)); have qw6 := HQS.out _ _ _ (HKB.out _ HF6.out); have HM6 := Lib.hid (HM5.out.fr0 f6); have HD6 := Lib.hid (HD5.out.fr f6 (fun e => e) (fun e => e)); clear hc6 f6)
          refine wpAny_ready (rs := [14]) (by kernel_rfl) (by simp) ?_
          refine AllReady.cons rfl (fun K hK => ?_) ?_
          · go_simp
            refine hK _ _ ?_
            clear hK K
            refine wpAny_take (i := 17) (v := ?_) rfl (by kernel_rfl) (by kernel_rfl) (by kernel_rfl) (fun _ _ _ h => h) (Or.inl ⟨by kernel_rfl, ?_⟩) ?_
            rotate_left
            · (intro w; go_simp; try with_reducible rfl)
            refine wpAny_take (i := 18) (v := ?_) rfl (by kernel_rfl) (by kernel_rfl) (by kernel_rfl) (fun _ _ _ h => h) (Or.inl ⟨by kernel_rfl, ?_⟩) ?_
            rotate_left
            · (intro w; go_simp; try with_reducible rfl)
            refine wpAny_take (i := 19) (v := ?_) rfl (by kernel_rfl) (by kernel_rfl) (by kernel_rfl) (fun _ _ _ h => h) (Or.inl ⟨by kernel_rfl, ?_⟩) ?_
            rotate_left
            · (intro w; go_simp; try with_reducible rfl)
            refine wpAny_take (i := 20) (v := ?_) rfl (by kernel_rfl) (by kernel_rfl) (by kernel_rfl) (fun _ _ _ h => h) (Or.inl ⟨by kernel_rfl, ?_⟩) ?_
            rotate_left
            · (intro w; go_simp; try with_reducible rfl)
            simp only [Act.put, List.getElem_toArray, List.getElem_cons_zero, List.getElem_cons_succ, List.setIfInBounds_toArray, List.set_cons_zero, List.set_cons_succ]
            refine wpAny_take (i := 21) (v := ?_) rfl (by kernel_rfl) (by kernel_rfl) (by kernel_rfl) (fun _ _ _ h => h) (Or.inl ⟨by kernel_rfl, ?_⟩) ?_
            rotate_left
            · (intro w; go_simp; try with_reducible rfl)
            refine wpAny_take (i := 22) (v := ?_) rfl (by kernel_rfl) (by kernel_rfl) (by kernel_rfl) (fun _ _ _ h => h) (Or.inl ⟨by kernel_rfl, ?_⟩) ?_
            rotate_left
            · (intro w; go_simp; try with_reducible rfl)
            refine wpAny_take (i := 23) (v := ?_) rfl (by kernel_rfl) (by kernel_rfl) (by kernel_rfl) (fun _ _ _ h => h) (Or.inl ⟨by kernel_rfl, ?_⟩) ?_
            rotate_left
            · (intro w; go_simp; try with_reducible rfl)
            refine wpAny_take (i := 24) (v := ?_) rfl (by kernel_rfl) (by kernel_rfl) (by kernel_rfl) (fun _ _ _ h => h) (Or.inl ⟨by kernel_rfl, ?_⟩) ?_
            rotate_left
            · (intro w; go_simp; try with_reducible rfl)
            simp only [Act.put, List.getElem_toArray, List.getElem_cons_zero, List.getElem_cons_succ, List.setIfInBounds_toArray, List.set_cons_zero, List.set_cons_succ]
            refine wpAny_ready (rs := [25]) (by kernel_rfl) (by simp) ?_
            refine AllReady.cons rfl (fun K hK => ?_) ?_
            · go_simp
              go_wp2_with (rw [HWQ.out]; refine (HDo2.out w6 HD6.out HM6.out).mono ?_; rintro e w7 ⟨rfl, hD7, hM7, f7⟩; have HX := Lib.hid (And.intro hD7 (And.intro hM7 (HF6.out.tr f7))); clear hD7 hM7 f7)
              refine wpAny_take (i := 26) (v := ?_) rfl (by kernel_rfl) (by kernel_rfl) (by kernel_rfl) (fun _ _ _ h => h) (Or.inl ⟨by kernel_rfl, ?_⟩) ?_
              rotate_left
              · (intro w; go_simp; try with_reducible rfl)
              refine wpAny_take (i := 27) (v := ?_) rfl (by kernel_rfl) (by kernel_rfl) (by kernel_rfl) (fun _ _ _ h => h) (Or.inl ⟨by kernel_rfl, ?_⟩) ?_
              rotate_left
              · (intro w; go_simp; try with_reducible rfl)
              refine wpAny_done (by kernel_rfl) ?_ _
              go_wp2_with fail
              go_meet
              exact ⟨rfl, HX.out.1, HX.out.2.1, HKA.out _ HX.out.2.2, HKB.out _ HX.out.2.2, HX.out.2.2⟩
            exact AllReady.nil
          exact AllReady.nil
        exact AllReady.nil
      exact AllReady.nil
    exact AllReady.nil
  case rest => as_aux_lemma =>
    obtain ⟨rfl, hD5, hM5, IP, IW, f5⟩ := hcut
    have fr5 := fr4.trans (S := fun _ => False) f5 (fun i hi e => by
      rcases e with e | e
      · omega
      · have := Hba.out i e; omega)
    have hbd1 : ∀ i, i < 256 → 0 ≤ m1.mem i ∧ m1.mem i < 256 := by
      have := hM5.bd
      rw [HM1n.out] at this
      exact this
    have Hbd1 := Lib.hid hbd1
    have hpg := page_in wc a m1 hM5 (q : Int) (by omega) (by rw [HM1n.out]; omega)
    rw [show (q : Int).toNat = q from rfl] at hpg
    have Hpg5 := Lib.hid hpg
    have hl5 := f5.size
    clear hpg hbd1 hD4 hM4 hD3 hM3 hD hM2 HI3 HI4 HJ3 Hpg Hal3 HB1 HB2 HE1 HE2 HD1 HM1 s0 s1 x0 x1 y0 y1 fr2 fr3 f3 f4 f5 HK HP HQ Hlt Hba Hdis
    go_wp2_with fail
    refine (Hpg5.out).mono ?_
    rintro e w6 ⟨rfl, hc6, f6⟩
    have hM6 := hM5.fr0 f6
    have hD6 := hD5.fr f6 (fun e => e) (fun e => e)
    have fr6 := fr5.tr f6
    have hc6 : Cells w6 wc.heap.size 5 64 (fun j => .int .u8 (m.mem (p * 64 + j))) := Cells.congr hc6 (fun j hj => by rw [HMV.out, if_pos (by omega), show q * 64 + j - q * 64 = j by omega])
    have I6 := cells_ints hc6 (fun j hj => Hbd.out _ (by omega))
    have hl6 : wc.heap.size + 1 ≤ w6.heap.size := hc6.lt
    have Hal6 := Lib.hid (HAL.out m1 HM1n.out w6 hM6)
    clear hc6 hD5 hM5
    go_wp2_with fail
    refine (Hal6.out).mono ?_
    rintro e w7 ⟨rfl, hc7, f7⟩
    have hD7 := hD6.fr f7 (fun e => e) (fun e => e)
    have fr7 := fr6.tr f7
    have I7 := cells_ints hc7 Hbd1.out
    have hl7 : w6.heap.size + 1 ≤ w7.heap.size := hc7.lt
    have Hda7 := Lib.hid (dall_any w7 gd gb d1 hD7)
    clear hc7 hM6 hD6
    go_wp2_with fail
    refine (Hda7.out).mono ?_
    rintro e w8 ⟨g8, c8, rfl, I8, hc8, hg8, f8⟩
    have fr8 := fr7.tr f8
    have f68 := (f6.tr f7).tr f8
    have hl8 := f8.size
    have JP := Lib.hid (IP.fr f68 (by omega) (fun _ _ e => e))
    have JW := Lib.hid (IW.fr f68 (by omega) (fun _ _ e => e))
    have JG := Lib.hid (I6.fr (f7.tr f8) hl6 (fun _ _ e => e))
    have JN := Lib.hid (I7.fr f8 hl7 (fun _ _ e => e))
    have JD := Lib.hid I8
    have hsub := sub_ints I8 (o := k * 64) (k := 64) (by omega) (by omega)
    have esub : lst (fun j => d1 (k * 64 + j)) 64 = lst (fun j => m.mem (p * 64 + j)) 64 := lst_congr (fun j hj => by rw [HDV.out, if_pos (by omega), show k * 64 + j - k * 64 = j by omega])
    rw [esub] at hsub
    have JS := Lib.hid hsub
    have hsl := fun W => run_sect2 0 g8 c8 k k16 hc8 W
    clear IP IW I6 I7 I8 hsub esub fr5 fr6 fr7 f6 f7 f8 f68 hD7 Hal6 Hda7 Hpg5
    go_upto_region 12 with (fail)
    go_cut [131] (fun v wx => v = .bool false ∧ Fr (fun _ => False) w8 wx)
    case first => as_aux_lemma =>
      have cP : ∀ nq, (convert 22 9 (.slice (some ⟨w2.heap.size, 0, none⟩) 64 64)).run Try.prog (w8.drewN nq) = .ok (.string (str (lst (fun j => m.mem (p * 64 + j)) 64))) (w8.drewN nq) := fun nq => str_of_ints (w := w8.drewN nq) (B := w2.heap.size + 1) JP.out
      have cG : ∀ nq, (convert 22 9 (.slice (some ⟨wc.heap.size, 0, none⟩) 64 64)).run Try.prog (w8.drewN nq) = .ok (.string (str (lst (fun j => m.mem (p * 64 + j)) 64))) (w8.drewN nq) := fun nq => str_of_ints (w := w8.drewN nq) (B := wc.heap.size + 1) JG.out
      have cS : ∀ nq, (convert 22 9 (.slice (some ⟨g8, k * 64, none⟩) 64 (c8 - k * 64))).run Try.prog (w8.drewN nq) = .ok (.string (str (lst (fun j => m.mem (p * 64 + j)) 64))) (w8.drewN nq) := fun nq => str_of_ints (w := w8.drewN nq) (B := w8.heap.size) JS.out
      generalize str (lst (fun j => m.mem (p * 64 + j)) 64) = QP at *
      go_quiet (fail)
      go_wp2_with fail
      go_meet
      exact ⟨rfl, (Fr.refl _ _).drewN _⟩
    case rest => as_aux_lemma =>
      obtain ⟨rfl, fx⟩ := hcut
      clear hsl
      go_wp2_with fail
      go_loopw [22] (fun i wx => ∃ j : Nat, j ≤ 256 ∧ i = .int .u32 j ∧ Fr (fun _ => False) w8 wx) (fun i _ => 256 - (intOf i).toNat)
      case atStart => exact ⟨0, by omega, rfl, fx⟩
      case round =>
        clear fx
        obtain ⟨j, hj, rfl, fx⟩ := hrel
        by_cases hlt : j < 256
        · obtain ⟨b1, o1, e1, hb1, cN⟩ := (JN.out.fr fx (Nat.le_trans hl7 hl8) (fun _ _ e => e)).at_ hlt
          obtain ⟨b2, o2, e2, hb2, cW⟩ := (JW.out.fr fx (by omega) (fun _ _ e => e)).at_ hlt
          injection e1 with e1
          injection e1 with e11 e12
          subst e11 e12
          injection e2 with e2
          injection e2 with e21 e22
          subst e21 e22
          rw [lst_at _ hlt, Nat.zero_add] at cN cW
          have j0 : (0 : Int) ≤ (j : Int) := by omega
          have j1 : (j : Int) < 256 := by omega
          by_cases hjq : j / 64 = q
          · have t1 : ((j : Int) / 64 != (q : Int)) = false := by simp; omega
            clear hjq
            generalize m1.mem j = v1 at *
            generalize m.mem j = v2 at *
            go_wp2_with fail
            go_quiet (fail)
            go_wp2_with fail
            exact ⟨⟨j + 1, by omega, by go_num, fx.drewN _⟩, by simp [intOf]; omega⟩
          · have t1 : ((j : Int) / 64 != (q : Int)) = true := by simp; omega
            have hv : m1.mem j = m.mem j := by rw [HMV.out, if_neg (by omega)]
            rw [hv] at cN
            clear hjq hv
            generalize m.mem j = v2 at *
            go_wp2_with fail
            go_quiet (fail)
            go_wp2_with fail
            exact ⟨⟨j + 1, by omega, by go_num, fx.drewN _⟩, by simp [intOf]; omega⟩
        · go_wp2_with fail
          obtain ⟨j7, rfl⟩ : ∃ j7 : Nat, j7 = j := ⟨j, rfl⟩
          clear hlt hj
          go_loopw [23] (fun i wx => ∃ j : Nat, j ≤ 1024 ∧ i = .int .u32 j ∧ Fr (fun _ => False) w8 wx) (fun i _ => 1024 - (intOf i).toNat)
          case atStart => exact ⟨0, by omega, rfl, fx⟩
          case round =>
            clear fx
            obtain ⟨j, hj, rfl, fx⟩ := hrel
            by_cases hlt : j < 1024
            · obtain ⟨b1, o1, e1, hb1, cN⟩ := (JD.out.fr fx (Nat.le_refl _) (fun _ _ e => e)).at_ hlt
              injection e1 with e1
              injection e1 with e11 e12
              subst e11 e12
              rw [lst_at _ hlt, Nat.zero_add] at cN
              have j0 : (0 : Int) ≤ (j : Int) := by omega
              have j1 : (j : Int) < 1024 := by omega
              by_cases hjk : j / 64 = k
              · have t1 : ((j : Int) / 64 != (k : Int)) = false := by simp; omega
                clear hjk
                generalize d1 j = v1 at *
                go_wp2_with fail
                go_roundw
                case rel => exact ⟨j + 1, by omega, by go_num, fx⟩
                case measure => simp [intOf]; omega
              · have t1 : ((j : Int) / 64 != (k : Int)) = true := by simp; omega
                have hv : d1 j = 0 := by rw [HDV.out, if_neg (by omega), Hd0.out]
                rw [hv] at cN
                clear hjk hv
                go_wp2_with fail
                go_roundw
                case rel => exact ⟨j + 1, by omega, by go_num, fx⟩
                case measure => simp [intOf]; omega
            · go_wp2_with fail
              refine (known14 _).mono ?_
              rintro e w9 ⟨rfl, f9⟩
              go_wp2_with fail
              go_ret
              exact ⟨rfl, (fr8.tr fx).tr f9⟩
end Go.Proofs.Ytlkagggkpaihaaa.driveBack
