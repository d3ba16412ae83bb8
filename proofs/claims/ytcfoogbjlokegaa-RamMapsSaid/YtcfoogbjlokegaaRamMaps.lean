/- RamMaps: the walk. -/
import Derived.Test.YtcfoogbjlokegaaRamLaws
import Derived.Test.YtcfoogbjlokegaaNestedE
import Derived.RegionTactic
namespace Go.Proofs.Ytcfoogbjlokegaa.ramMaps
open Go.RowKit Fm Nt Rm
set_option linter.unusedVariables false
set_option maxHeartbeats 4000000

set_option maxRecDepth 100000 in
theorem walk (w : World) (A : Option Addr) (len cap : Nat) (zs : List Int) (hz : IntsAt .u32 w w.heap.size A len zs) (hm : len ≤ maxLen) (A2 : Option Addr) (len2 cap2 : Nat) (vs : List Int) (hv : IntsAt .u8 w w.heap.size A2 len2 vs) (hm2 : len2 ≤ maxLen) :
    Calls Try.prog 10 #[.slice A len cap, .slice A2 len2 cap2] w fun e w' => e = .returned (.bool true) ∧ Fr (fun _ => False) w w' := by
  unfold maxLen at hm hm2
  have Hfr : Hid (Calls Try.prog 33 #[.int .i64 16] w (Fresh7 w 16)) := fresh7 w 16 (by omega) (by omega)
  have hmk : ∀ W, (Instr.makeSlice 48 (.int .i64 16) (.int .i64 16)).run Try.prog W = .ok (.slice (some ⟨W.heap.size, 0, none⟩) 16 16) (W.alloc (.cells (zB 16) 4)) := fun W => run_makeB 16 (by omega) W
  go_enter Try.func10, Try.ntmps10
  go_wp2_with fail
  refine (Hfr.out).mono ?_
  rintro e w1 ⟨a, rfl, hM, hbl, f1⟩
  have hlt := hM.lt
  have hD : ∀ k, a.own k → w.heap.size ≤ k ∧ k ≠ w1.heap.size := fun k hk => ⟨hbl k hk, by have := hlt k hk; omega⟩
  have HD := Lib.hid hD
  have hgw := f1.size
  have hS : ∃ m, Mem (w1.alloc (.cells (zB 16) 4)) a m ∧ m.n = 16 ∧ Cells (w1.alloc (.cells (zB 16) 4)) w1.heap.size 4 16 (fun j => .bool (m.mp j)) := ⟨_, hM.alloc _, rfl, cellsB w1 16 rfl⟩
  have fr1 := f1.alloc (.cells (zB 16) 4)
  clear hM hbl hlt hD
  go_wp2_with fail
  clear hmk
  generalize w1.alloc (.cells (zB 16) 4) = wz at *
  generalize w1.heap.size = gw at *
  go_loopw [8] (fun i wr => ∃ k : Nat, k ≤ len ∧ i = .int .i64 k ∧ (∃ m, Mem wr a m ∧ m.n = 16 ∧ Cells wr gw 4 16 (fun j => .bool (m.mp j))) ∧ Fr (fun _ => False) w wr) (fun i _ => len - (intOf i).toNat)
  case atStart => exact ⟨0, Nat.zero_le _, rfl, hS, fr1⟩
  case round =>
    clear hS fr1 f1
    obtain ⟨k, hk, rfl, ⟨m, hM, hn, hC⟩, fr⟩ := hrel
    by_cases hlt : k < len ∧ k < len2 ∧ k < 30
    · obtain ⟨h1, h2, h3⟩ := hlt
      obtain ⟨b, off, rfl, hb, hc⟩ := (hz.fr fr (Nat.le_refl _) (fun _ _ e => e)).at_ h1
      obtain ⟨b2, off2, rfl, hb2, hc2⟩ := (hv.fr fr (Nat.le_refl _) (fun _ _ e => e)).at_ h2
      have hbd := wf_u32 (hz.2.1 k h1)
      have hbv := wf_u8 (hv.2.1 k h2)
      generalize zs.getD k 0 = x at *
      have hp := put_in wr a m hM (x % 1024) (vs.getD k 0) (by omega) (by rw [hn]; omega) hbv.1 (by omega)
      obtain ⟨q, hq⟩ : ∃ q : Nat, x % 1024 = q := ⟨(x % 1024).toNat, by omega⟩
      have hq2 : q < 1024 := by omega
      rw [hq, show (q : Int).toNat = q from rfl] at hp
      have Hq := Lib.hid hq
      obtain ⟨v, hv9⟩ : ∃ v, vs.getD k 0 = v := ⟨_, rfl⟩
      rw [hv9] at hp hc2 hbv
      have Hv9 := Lib.hid hv9
      have Hp := Lib.hid hp
      have hbv0 := hbv.1
      have hbv1 := hbv.2
      clear hp hv9 hq hbv
      go_wp2_with fail
      rw [Hq.out]
      refine (Hp.out).mono ?_
      rintro e w3 ⟨rfl, hM3, f3⟩
      have fr3 := fr.trans (S := fun _ => False) f3 (fun i hi e => by have := HD.out i e; omega)
      have hC3 := hC.fr f3 (fun e => (HD.out _ e).2 rfl)
      have cC := hC3.cell (q / 64) (by omega)
      have zC := Cells.frozen hC3 (q / 64)
      obtain ⟨b2', off2', e2, hb2', hc3⟩ := (hv.fr fr3 (Nat.le_refl _) (fun _ _ e => e)).at_ h2
      injection e2 with e2
      injection e2 with e3 e4
      subst e3 e4
      rw [Hv9.out] at hc3
      have hbw3 : b2 < w3.heap.size := Nat.lt_of_lt_of_le hb2 fr3.size
      have hfin : ∀ bb : Bool, bb = (m.mp (q / 64) || v != 0) → Mem (w3.setCell ⟨gw, q / 64, none⟩ (.bool bb)) a (m.put q v) ∧ Cells (w3.setCell ⟨gw, q / 64, none⟩ (.bool bb)) gw 4 16 (fun j => .bool ((m.put q v).mp j)) := fun bb hbb => ⟨hM3.fr (Fr.set1 _ _ _ _) (fun k hk e => (HD.out k hk).2 e), Cells.congr (Cells.set_ hC3 _ _) (fun j hj => by
        unfold putV
        show _ = Value.bool ((if v = 0 then m.mp else updB m.mp (q / 64) true) j)
        by_cases e : j = q / 64
        · rw [if_pos e, hbb, e]
          by_cases e0 : v = 0
          · rw [if_pos e0, e0]; simp
          · rw [if_neg e0]; simp [updB, e0]
        · rw [if_neg e]
          split
          · rfl
          · rw [updB, if_neg e])⟩
      have Hfin := Lib.hid hfin
      have Hfz := Lib.hid (fun bb => fr3.setCell (p := ⟨gw, q / 64, none⟩) (.inr hgw) (.bool bb))
      have hn3 : (m.put q v).n = 16 := hn
      clear hfin
      cases hmp : m.mp (q / 64)
      · rw [hmp] at cC Hfin
        by_cases e0 : v = 0
        · subst e0
          have h1 := Lib.hid (Hfin.out false rfl)
          have h2 := Lib.hid (Hfz.out false)
          clear hmp Hfin Hfz
          go_wp2_with fail
          go_roundw
          case rel => exact ⟨k + 1, by omega, by go_num, ⟨_, h1.out.1, hn3, h1.out.2⟩, h2.out⟩
          case measure => simp [intOf]; omega
        · have e1 : (v != 0) = true := by simpa using e0
          have h1 := Lib.hid (Hfin.out true (by rw [e1]; rfl))
          have h2 := Lib.hid (Hfz.out true)
          clear hmp Hfin Hfz e0
          go_wp2_with fail
          go_roundw
          case rel => exact ⟨k + 1, by omega, by go_num, ⟨_, h1.out.1, hn3, h1.out.2⟩, h2.out⟩
          case measure => simp [intOf]; omega
      · rw [hmp] at cC Hfin
        have h1 := Lib.hid (Hfin.out true rfl)
        have h2 := Lib.hid (Hfz.out true)
        clear hmp Hfin Hfz
        go_wp2_with fail
        go_roundw
        case rel => exact ⟨k + 1, by omega, by go_num, ⟨_, h1.out.1, hn3, h1.out.2⟩, h2.out⟩
        case measure => simp [intOf]; omega
    · have hex : ∃ m, Mem wr a m ∧ m.n = 16 ∧ Cells wr gw 4 16 (fun j => .bool (m.mp j)) := ⟨m, hM, hn, hC⟩
      clear hM hn hC
      go_wp2_with fail
      all_goals
        obtain ⟨m, hM, hn, hC⟩ := hex
        obtain ⟨k7, rfl⟩ : ∃ k7 : Nat, k7 = k := ⟨k, rfl⟩
        clear hlt
        have Hn := Lib.hid hn
        clear hn
        go_loopw [10, 11] (fun c i wx => ∃ (j : Nat) (wq : World), j ≤ 16 ∧ i = .int .i64 j ∧ c = .int .i64 (cnt m.mp j) ∧ Fr (fun _ => False) wr wq ∧ wq = wx) (fun _ i _ => 16 - (intOf i).toNat)
        case atStart => exact ⟨0, _, by omega, rfl, rfl, Fr.refl _ _, rfl⟩
        case round =>
          obtain ⟨j, wq, hj, rfl, rfl, fx, rfl⟩ := hrel
          have hMx := hM.fr0 fx
          have hcl := cnt_le m.mp j
          by_cases hlt : j < 16
          · have hf := tframe_any hMx j
            rw [Hn.out, decide_eq_true (show (0 : Int) ≤ (j : Int) ∧ (j : Int) < ((16 : Nat) : Int) by omega), Bool.true_and, show (j : Int).toNat = j from rfl] at hf
            have cC := (hC.fr fx (fun e => e)).cell j hlt
            have hpg := page_in wq a m hMx (j : Int) (by omega) (by rw [Hn.out]; omega)
            rw [show (j : Int).toNat = j from rfl] at hpg
            have Hpg := Lib.hid hpg
            have Hf := Lib.hid hf
            have Hc : Hid (cnt m.mp (j + 1) = cnt m.mp j + if m.mp j then 1 else 0) := rfl
            have hbd := hMx.bd
            have Hz := Lib.hid (fun (hq : m.mp j = false) i (hi : i < 64) => hMx.zero (i := j * 64 + i) (by rw [Hn.out]; omega) (by rw [show (j * 64 + i) / 64 = j by omega]; exact hq))
            have Hbd := Lib.hid hbd
            clear hf hpg hbd
            cases hmp : m.mp j
            · rw [hmp] at cC Hf Hc
              have Hz := Lib.hid (Hz.out hmp)
              clear hmp
              generalize cnt m.mp j = c at *
              go_wp2_with fail
              refine (Hf.out).mono ?_
              rintro e w' ⟨x, rfl, rfl⟩
              go_wp2_with fail
              refine (Hpg.out).mono ?_
              rintro e w4 ⟨rfl, hP, f4⟩
              have fx4 := fx.tr f4
              have hPz : Cells w4 wq.heap.size 5 64 (fun _ => .int .u8 0) := Cells.congr hP (fun i hi => by rw [Hz.out i hi])
              have hI := By.cells_ints (z := fun _ => 0) hPz (fun k _ => by omega)
              have hmk8 : ∀ W, (Instr.makeSlice 57 (.int .i64 64) (.int .i64 64)).run Try.prog W = .ok (.slice (some ⟨W.heap.size, 0, none⟩) 64 64) (W.alloc (.cells (zU 64) 5)) := fun W => run_makeU .i64 64 (by omega) W
              have hlq := hPz.lt
              have cv : ∀ W, Fr (fun _ => False) w4 W → (convert 57 9 (.slice (some ⟨wq.heap.size, 0, none⟩) 64 64)).run Try.prog W = .ok (.string (By.str (By.lst (fun _ => 0) 64))) W := fun W f => By.str_of_ints (hI.fr f (by omega) (fun _ _ e => e))
              have c1 := cv w4 (Fr.refl _ _)
              have c2 := cv w4.drew (Fr.refl _ w4).drew
              have c3 := cv (w4.alloc (.cells (zU 64) 5)) ((Fr.refl _ w4).alloc _)
              have c4 := cv (w4.alloc (.cells (zU 64) 5)).drew ((Fr.refl _ w4).alloc _).drew
              have d1 : (convert 57 9 (.slice (some ⟨w4.heap.size, 0, none⟩) 64 64)).run Try.prog (w4.alloc (.cells (zU 64) 5)) = .ok (.string (By.str (By.lst (fun _ => 0) 64))) (w4.alloc (.cells (zU 64) 5)) := By.str_of_ints (By.cells_ints (z := fun _ => 0) (cellsU w4 64 rfl) (fun k _ => by omega))
              have d2 : (convert 57 9 (.slice (some ⟨w4.heap.size, 0, none⟩) 64 64)).run Try.prog (w4.alloc (.cells (zU 64) 5)).drew = .ok (.string (By.str (By.lst (fun _ => 0) 64))) (w4.alloc (.cells (zU 64) 5)).drew := By.str_of_ints (w := (w4.alloc (.cells (zU 64) 5)).drew) (B := w4.heap.size + 1) (By.cells_ints (z := fun _ => 0) (Cells.drew (cellsU w4 64 rfl)) (fun k _ => by omega))
              clear cv hI hPz hP Hz
              generalize By.str (By.lst (fun _ => 0) 64) = s0 at *
              go_wp2_with fail
              go_region
              all_goals
                go_wp2_with fail
                go_roundw
                case rel => exact ⟨j + 1, _, by omega, by go_num, by rw [Hc.out]; rfl, (fx4.alloc _).drew, rfl⟩
                case measure => simp [intOf]; omega
            · rw [hmp] at cC Hf Hc
              clear hmp
              generalize cnt m.mp j = c at *
              go_wp2_with fail
              refine (Hf.out).mono ?_
              rintro e w' ⟨x, rfl, rfl⟩
              go_wp2_with fail
              refine (Hpg.out).mono ?_
              rintro e w4 ⟨rfl, hP, f4⟩
              have fx4 := fx.tr f4
              go_wp2_with fail
              go_region
              all_goals
                go_wp2_with fail
                go_roundw
                case rel => exact ⟨j + 1, _, by omega, by go_num, by rw [Hc.out]; go_num, fx4.drew, rfl⟩
                case measure => simp [intOf]; omega
          · have hcl2 : cnt m.mp 16 ≤ 16 := cnt_le m.mp 16
            have hj16 : j = 16 := by omega
            have hmp := tmapped_any hMx
            rw [Hn.out] at hmp
            have Hmp := Lib.hid hmp
            rw [hj16]
            clear hmp
            go_wp2_with fail
            refine (Hmp.out).mono ?_
            rintro e w4 ⟨A4, cap4, rfl, f4⟩
            go_wp2_with fail
            refine (known7 _).mono ?_
            rintro e w5 ⟨rfl, f5⟩
            go_wp2_with fail
            go_ret
            exact ⟨rfl, ((fr.tr fx).tr f4).tr f5⟩
end Go.Proofs.Ytcfoogbjlokegaa.ramMaps
