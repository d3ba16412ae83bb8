/- MmuPlays: the walk. -/
import Derived.Test.YthiephlfhbkcbaaMmuDb
namespace Go.Proofs.Ythiephlfhbkcbaa.mmuPlays
open Go.RowKit Fm Nt Rm By Wk Rf Mu
set_option linter.unusedVariables false
set_option linter.unusedSimpArgs false
set_option maxHeartbeats 4000000

theorem ints_u8 {w : World} {B n : Nat} {A : Option Addr} {zs : List Int} (h : IntsAt .u8 w B A n zs) : ∀ z ∈ zs, 0 ≤ z ∧ z < 256 := by
  intro z hz
  obtain ⟨i, hi, rfl⟩ := List.getElem_of_mem hz
  have hn := h.1
  have := wf_u8 (h.2.1 i (by omega))
  rw [List.getD_eq_getElem?_getD, List.getElem?_eq_getElem hi] at this
  have e : (some zs[i]).getD 0 = zs[i] := rfl
  rw [e] at this
  omega
set_option maxRecDepth 100000 in
theorem walk (w : World) (A1 : Option Addr) (len1 cap1 : Nat) (hP : (∃ L, PtsAt w w.heap.size A1 len1 L) ∧ len1 ≤ maxLen) (A3 : Option Addr) (len3 cap3 : Nat) (hc3 : len3 ≤ cap3) (zs : List Int) (hz : IntsAt .u8 w w.heap.size A3 len3 zs) (hm3 : len3 ≤ maxLen) (A2 : Option Addr) (len2 cap2 : Nat) (hA : AsksAt w w.heap.size A2 len2 ∧ len2 ≤ maxLen) :
    Calls Try.prog 11 #[.slice A1 len1 cap1, .slice A3 len3 cap3, .slice A2 len2 cap2] w fun e w' => e = .returned (.bool true) ∧ Fr (fun _ => False) w w' := by
  obtain ⟨⟨L, hL⟩, hm1⟩ := hP
  obtain ⟨hA, hm2⟩ := hA
  have HA := Lib.hid hA
  obtain ⟨ys, hy⟩ : ∃ ys, IntsAt .u8 w w.heap.size A3 (min len3 320) ys := ⟨_, hz.take (Nat.min_le_left _ _)⟩
  have hyb := ints_u8 hy
  have Ht := Lib.hid (tables10 w A1 len1 cap1 L hL hm1 A3 len3 cap3 ys hy)
  unfold maxLen at hm2
  clear hL hA hz hy
  go_enter Try.func11, Try.ntmps11
  go_wp2_with fail
  refine (Ht.out).mono ?_
  rintro e w1 ⟨rfl, hc1, f1⟩
  have hi1 := tabs_ints hyb hc1
  have Hb1 := Lib.hid (both10 w1 _ 512 512 8 _ _ hi1 hc1.lt (by omega) (by omega) (by omega))
  clear hc1 hi1 Ht hyb
  go_wp2_with fail
  refine (Hb1.out).mono ?_
  rintro e w2 ⟨A, r, rfl, hU, hD, hsep, hbl, f2⟩
  have hs1 := f1.size
  have HLO : Hid (∀ k, DW A r k → w.heap.size ≤ k) := Lib.hid (fun k hk => by
    have := hbl k (by rcases hk with h | h; exact .inr (.inl h); exact .inr (.inr (Dr.wr_its h)))
    omega)
  have hS : Hid (∃ u, Duo w2 A r u ∧ TuOk u.m ∧ Fr (fun _ => False) w w2) := Lib.hid ⟨_, ⟨hU, hD, hsep⟩, fun _ _ _ => rfl, f1.tr f2⟩
  clear hU hD hsep hbl f1 f2 Hb1 hs1
  go_wp2_with fail
  go_loopw [9] (fun i wr => ∃ k : Nat, k ≤ len2 ∧ i = .int .i64 k ∧ ∃ u, Duo wr A r u ∧ TuOk u.m ∧ Fr (fun _ => False) w wr) (fun i _ => len2 - (intOf i).toNat)
  case atStart => exact ⟨0, by omega, rfl, hS.out⟩
  case round =>
    clear hS
    obtain ⟨k, hk, rfl, u, hD, htu, fr⟩ := hrel
    obtain ⟨wo, rfl⟩ : ∃ wo : World, wo = wr := ⟨_, rfl⟩
    by_cases hlt : k < len2 ∧ k < 50
    · obtain ⟨h1, h2⟩ := hlt
      have h1i : (k : Int) < (len2 : Int) := by omega
      have h2i : (k : Int) < 50 := by omega
      obtain ⟨b, off, rfl, hbb, x, hx⟩ := AsksAt.at_ HA.out h1
      have hx := hx.fr fr hbb (fun e => e)
      obtain ⟨⟨x0, x1, x2, x3, x4, x5, x6⟩, p0, p1, p2, p3, p4⟩ := hx
      obtain ⟨kd, how, nn0, vv, v, pg, su⟩ := x
      dsimp only at x0 x1 x2 x3 x4 x5 x6 p0 p1 p2 p3 p4
      obtain ⟨n00, n01⟩ := wf_i64 p2
      obtain ⟨va0, va1⟩ := wf_u32 p3
      obtain ⟨v0, v1⟩ := wf_u32 p4
      have Hdo := Lib.hid (fun W (h : Duo W A r u) (va : Int) (a0 : 0 ≤ va) (a1 : va ≤ 4294967295) => do10 W A r u h kd how nn0 va v 0 pg su n00 n01 a0 a1 v0 v1 (by omega) (by omega))
      have f1 : Fr (fun _ => False) wo (wo.alloc (.cells #[.int .i64 kd, .int .i64 how, .int .i64 nn0, .int .u32 vv, .int .u32 v, .bool pg, .bool su] 73)) := (Fr.refl _ _).alloc _
      have bX := Blk.new wo 73 #[.int .i64 kd, .int .i64 how, .int .i64 nn0, .int .u32 vv, .int .u32 v, .bool pg, .bool su]
      go_upto_region 8 with (fail)
      generalize hw2 : wo.alloc (.cells #[.int .i64 kd, .int .i64 how, .int .i64 nn0, .int .u32 vv, .int .u32 v, .bool pg, .bool su] 73) = w2 at *
      have HD := Lib.hid hD
      have HT := Lib.hid htu
      have HF := Lib.hid fr
      have F1 := Lib.hid f1
      clear x0 x1 x2 x3 x4 x5 x6 hw2 hD htu fr f1 p0 p1 p2 p3 p4
      by_cases h5 : 0 < (k : Int) % 5
      · have t5 : decide (0 < (k : Int) % 5) = true := by simpa using h5
        have X3 := bX.cell 3
        have Z3 := bX.frozen 3
        have bY := bX.set_ 3 (.int .u32 (vv % 3100))
        have F3 := Lib.hid (F1.out.setCell (p := ⟨wo.heap.size, 3, none⟩) (.inr (Nat.le_refl _)) (.int .u32 (vv % 3100)))
        simp only [List.getElem?_toArray, List.getElem?_cons_succ, List.getElem?_cons_zero, List.setIfInBounds_toArray, List.set_cons_zero, List.set_cons_succ] at X3 bY
        clear h5 bX F1
        have hv0 : 0 ≤ vv % 3100 := by omega
        have hv1 : vv % 3100 ≤ 4294967295 := by omega
        go_upto_region 10 with (fail)
        generalize w2.setCell ⟨wo.heap.size, 3, none⟩ (.int .u32 (vv % 3100)) = w3 at *
        generalize vv % 3100 = va at *
        have X0 := bY.cell 0
        have X1 := bY.cell 1
        have X2 := bY.cell 2
        have X3 := bY.cell 3
        have X4 := bY.cell 4
        have X5 := bY.cell 5
        have X6 := bY.cell 6
        simp only [List.getElem?_toArray, List.getElem?_cons_succ, List.getElem?_cons_zero] at X0 X1 X2 X3 X4 X5 X6
        clear bY Z3
        have Hd := Lib.hid (Hdo.out w3 (HD.out.fr0 F3.out) va hv0 hv1)
        clear Hdo
        go_wp2_with fail
        refine (Hd.out).mono ?_
        rintro e w4 ⟨rfl, ⟨u', hD', hT'⟩, f4⟩
        have HX : Hid (∃ u, Duo w4 A r u ∧ TuOk u.m ∧ Fr (fun _ => False) w w4) := Lib.hid ⟨u', hD', hT' HT.out, (HF.out.tr F3.out).trans f4 (S := fun _ => False) (fun i hi e => by have := HLO.out i e; omega)⟩
        clear hD' hT' f4 Hd
        go_wp2_with fail
        go_roundw
        case rel => exact ⟨k + 1, by omega, by go_num, HX.out⟩
        case measure => simp [intOf]; omega
      · have t5 : decide (0 < (k : Int) % 5) = false := by simpa using h5
        have X0 := bX.cell 0
        have X1 := bX.cell 1
        have X2 := bX.cell 2
        have X3 := bX.cell 3
        have X4 := bX.cell 4
        have X5 := bX.cell 5
        have X6 := bX.cell 6
        simp only [List.getElem?_toArray, List.getElem?_cons_succ, List.getElem?_cons_zero] at X0 X1 X2 X3 X4 X5 X6
        clear h5 bX
        have Hd := Lib.hid (Hdo.out w2 (HD.out.fr0 F1.out) vv va0 va1)
        clear Hdo
        go_wp2_with fail
        refine (Hd.out).mono ?_
        rintro e w4 ⟨rfl, ⟨u', hD', hT'⟩, f4⟩
        have HX : Hid (∃ u, Duo w4 A r u ∧ TuOk u.m ∧ Fr (fun _ => False) w w4) := Lib.hid ⟨u', hD', hT' HT.out, (HF.out.tr F1.out).trans f4 (S := fun _ => False) (fun i hi e => by have := HLO.out i e; omega)⟩
        clear hD' hT' f4 Hd
        go_wp2_with fail
        go_roundw
        case rel => exact ⟨k + 1, by omega, by go_num, HX.out⟩
        case measure => simp [intOf]; omega
    · have hlt' : ¬ k < len2 ∨ k < len2 ∧ ¬ k < 50 := by omega
      have Hal := Lib.hid (alike10 wo A r u hD htu)
      have HF := Lib.hid fr
      clear hD htu fr hlt
      rcases hlt' with h1 | ⟨h1, h2⟩
      · have t1 : decide (k < len2) = false := by simpa using h1
        go_wp2_with fail
        refine (Hal.out).mono ?_
        rintro e w4 ⟨rfl, f4⟩
        go_wp2_with fail
        refine (known10 w4).mono ?_
        rintro e w5 ⟨rfl, f5⟩
        go_wp2_with fail
        go_ret
        exact ⟨rfl, (HF.out.tr f4).tr f5⟩
      · have t1 : decide (k < len2) = true := by simpa using h1
        have t2 : decide ((k : Int) < 50) = false := by simp; omega
        go_wp2_with fail
        refine (Hal.out).mono ?_
        rintro e w4 ⟨rfl, f4⟩
        go_wp2_with fail
        refine (known10 w4).mono ?_
        rintro e w5 ⟨rfl, f5⟩
        go_wp2_with fail
        go_ret
        exact ⟨rfl, (HF.out.tr f4).tr f5⟩
end Go.Proofs.Ythiephlfhbkcbaa.mmuPlays
