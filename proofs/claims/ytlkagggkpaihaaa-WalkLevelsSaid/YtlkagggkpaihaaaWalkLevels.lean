/- WalkLevels: the walk. -/
import Derived.Test.YtlkagggkpaihaaaWalkK
import Derived.Test.YtlkagggkpaihaaaWalkOpen
namespace Go.Proofs.Ytlkagggkpaihaaa.walkLevels
open Go.RowKit Fm Nt Rm By Wk
set_option linter.unusedVariables false
set_option maxHeartbeats 8000000

/-- another address of the same page, another root of the same page: the same entry -/
theorem look_same (m : Ms) (R V : Int) (r0 : 0 ≤ R) (v0 : 0 ≤ V) :
    lkOk m (R / 64 * 64) (V / 64 * 64 + (V + 9) % 64) = lkOk m R V ∧ lkAt m (R / 64 * 64) (V / 64 * 64 + (V + 9) % 64) = lkAt m R V ∧ lkLeaf m (R / 64 * 64) (V / 64 * 64 + (V + 9) % 64) = lkLeaf m R V := by
  have e1 : lkA (R / 64 * 64) (V / 64 * 64 + (V + 9) % 64) = lkA R V := by unfold lkA; omega
  have e2 : (V / 64 * 64 + (V + 9) % 64) / 64 % 16 = V / 64 % 16 := by omega
  have e3 : lkB m (R / 64 * 64) (V / 64 * 64 + (V + 9) % 64) = lkB m R V := by unfold lkB; rw [e1, e2]
  have e4 : decide (V / 64 * 64 + (V + 9) % 64 < 16384) = decide (V < 16384) := decide_eq_decide.2 (by omega)
  have e5 : lkOk m (R / 64 * 64) (V / 64 * 64 + (V + 9) % 64) = lkOk m R V := by unfold lkOk; rw [e1, e3, e4]
  exact ⟨e5, by unfold lkAt; rw [e5, e3], by unfold lkLeaf; rw [e5, e3]⟩
theorem ok_parts {m : Ms} {R V : Int} (h : lkOk m R V = true) : V < 16384 ∧ inB m (lkA R V) 4 = true ∧ wrdV m (lkA R V) % 2 = 1 ∧ inB m (lkB m R V) 4 = true := by
  simp only [lkOk, Bool.and_eq_true, decide_eq_true_eq] at h
  exact ⟨h.1, h.2.1, h.2.2.1, h.2.2.2⟩
set_option maxRecDepth 100000 in
theorem walk (w : World) (A : Option Addr) (len cap : Nat) (hl : (∃ L, PtsAt w w.heap.size A len L) ∧ len ≤ maxLen) (va : Int) (hva : (Lit.int .u32 va).wf = true) (root : Int) (hro : (Lit.int .u32 root).wf = true) :
    Calls Try.prog 8 #[.slice A len cap, .int .u32 va, .int .u32 root] w fun e w' => e = .returned (.bool true) ∧ Fr (fun _ => False) w w' := by
  obtain ⟨⟨L, hL⟩, hm⟩ := hl
  obtain ⟨va0, va1⟩ := wf_u32 hva
  obtain ⟨ro0, ro1⟩ := wf_u32 hro
  have Ht := Lib.hid (tables_any w A len cap L hL hm)
  obtain ⟨V, hV⟩ : ∃ V, va % 16448 = V := ⟨_, rfl⟩
  obtain ⟨R, hR⟩ : ∃ R, root % 512 = R := ⟨_, rfl⟩
  have V0 : 0 ≤ V := by omega
  have V1 : V < 16448 := by omega
  have R0 : 0 ≤ R := by omega
  have R1 : R < 512 := by omega
  clear hL hm hva hro
  go_enter Try.func8, Try.ntmps8
  go_wp2_with fail
  refine (Ht.out).mono ?_
  rintro e w2 ⟨rfl, hc2, f2⟩
  have hI2 := cells_ints hc2 (fun i hi => tabZ_bd _ _ _)
  have Hbo := Lib.hid (both8 w2 _ 512 512 8 _ _ hI2 hc2.lt (by omega) (by omega) (by omega))
  clear hc2 hI2
  go_wp2_with fail
  refine (Hbo.out).mono ?_
  rintro e w3 ⟨a, gM, gb, gt, rfl, hM, hR3, hsp, hge, f3⟩
  have fr3 := f2.tr f3
  have hn8 : (Ms.init 8 (lst (tabZ L (min len 40)) 512)).n = 8 := init_n _ _
  generalize Ms.init 8 (lst (tabZ L (min len 40)) 512) = m at *
  have HM := Lib.hid hM
  clear hR3 hsp hge f2 f3 Ht Hbo
  obtain ⟨s1, s2, s3⟩ := look_same m R V R0 V0
  have Hl1 := Lib.hid (look_any w3 a m hM R V R0 (by omega) V0 (by omega))
  have hl2 := look_any w3 a m hM (R / 64 * 64) (V / 64 * 64 + (V + 9) % 64) (by omega) (by omega) (by omega) (by omega)
  rw [s1, s2, s3] at hl2
  have Hl2 := Lib.hid hl2
  clear hl2 s1 s2 s3
  cases hok : lkOk m R V
  · rw [hok] at Hl1 Hl2
    have e1 : lkAt m R V = 0 := by rw [lkAt, hok]; rfl
    have e2 : lkLeaf m R V = 0 := by rw [lkLeaf, hok]; rfl
    rw [e1, e2] at Hl1 Hl2
    clear hM hok e1 e2
    go_wp2_with fail
    rw [hV, hR]
    refine (Hl1.out).mono ?_
    rintro e w' ⟨rfl, rfl⟩
    go_wp2_with fail
    refine (Hl2.out).mono ?_
    rintro e w' ⟨rfl, rfl⟩
    go_wp2_with fail
    refine (known8 _).mono ?_
    rintro e w9 ⟨rfl, f9⟩
    go_wp2_with fail
    go_ret
    exact ⟨rfl, fr3.tr f9⟩
  · obtain ⟨p1, p2, p3, p4⟩ := ok_parts hok
    have e1 : lkAt m R V = lkB m R V := by rw [lkAt, hok, if_pos rfl]
    have e2 : lkLeaf m R V = wrdV m (lkB m R V) := by rw [lkLeaf, hok, if_pos rfl]
    have hab := lkAt_bd hM R V R0 V0
    rw [e1] at hab
    have hw1 := word_any w3 a m hM (lkB m R V) hab.1 (by omega)
    have hA0 : 0 ≤ lkA R V := by unfold lkA; omega
    have hA1 : lkA R V ≤ 4294967295 := by unfold lkA; omega
    have hw2 := word_any w3 a m hM (lkA R V) hA0 hA1
    have h4 : lkB m R V % 4 = 0 := by unfold lkB; omega
    rw [p4] at hw1
    rw [p2] at hw2
    rw [hok, e1, e2] at Hl1 Hl2
    have hq : lkA R V = R / 64 * 64 + V / 1024 % 16 * 4 := by unfold lkA; omega
    have hfb := wrdV_bd hM (lkA R V) hA0
    rw [hq] at hw2 p3 hfb
    generalize wrdV m (lkB m R V) = lf at *
    generalize lkB m R V = pb at *
    generalize wrdV m (R / 64 * 64 + V / 1024 % 16 * 4) = fw at *
    have Hw1 := Lib.hid hw1
    have Hw2 := Lib.hid hw2
    obtain ⟨fw0, fw1⟩ := hfb
    have t1 : (fw % 2 == 1) = true := by simp [p3]
    have t2 : (pb % 4 == 0) = true := by simp [h4]
    have t3 : decide (V < 16384) = true := by simp [p1]
    clear hw1 hw2 hq hA0 hA1 p2 p4 e1 e2 hok hM
    go_wp2_with fail
    rw [hV, hR]
    refine (Hl1.out).mono ?_
    rintro e w' ⟨rfl, rfl⟩
    go_wp2_with fail
    refine (Hl2.out).mono ?_
    rintro e w' ⟨rfl, rfl⟩
    go_wp2_with fail
    refine (Hw1.out).mono ?_
    rintro e w' ⟨rfl, rfl⟩
    go_wp2_with fail
    refine (Hw2.out).mono ?_
    rintro e w' ⟨rfl, rfl⟩
    go_wp2_with fail
    refine (known8 _).mono ?_
    rintro e w9 ⟨rfl, f9⟩
    go_wp2_with fail
    go_ret
    exact ⟨rfl, fr3.tr f9⟩
end Go.Proofs.Ytlkagggkpaihaaa.walkLevels
