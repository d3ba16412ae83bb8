/- WalkTells: the walk. -/
import Derived.Test.YtlkagggkpaihaaaWalkSame
import Derived.Test.YtlkagggkpaihaaaWalkOpen
namespace Go.Proofs.Ytlkagggkpaihaaa.walkTells
open Go.RowKit Fm Nt Rm By Rf Wk
set_option linter.unusedVariables false
set_option maxHeartbeats 8000000

set_option maxRecDepth 100000 in
theorem walk (w : World) (A : Option Addr) (len cap : Nat) (hl : (∃ L, PtsAt w w.heap.size A len L) ∧ len ≤ maxLen) (A2 : Option Addr) (len2 cap2 : Nat) (zs2 : List Int) (hz2 : IntsAt .u32 w w.heap.size A2 len2 zs2) (hm2 : len2 ≤ maxLen) (A3 : Option Addr) (len3 cap3 : Nat) (zs3 : List Int) (hz3 : IntsAt .i64 w w.heap.size A3 len3 zs3) (hm3 : len3 ≤ maxLen) (root : Int) (hro : (Lit.int .u32 root).wf = true) :
    Calls Try.prog 11 #[.slice A len cap, .slice A2 len2 cap2, .slice A3 len3 cap3, .int .u32 root] w fun e w' => e = .returned (.bool true) ∧ Fr (fun _ => False) w w' := by
  obtain ⟨⟨L, hL⟩, hm⟩ := hl
  obtain ⟨ro0, ro1⟩ := wf_u32 hro
  have Ht := Lib.hid (tables_any w A len cap L hL hm)
  have HZ2 := Lib.hid hz2
  have HZ3 := Lib.hid hz3
  unfold maxLen at hm2 hm3
  clear hL hm hro hz2 hz3
  go_enter Try.func11, Try.ntmps11
  go_wp2_with fail
  refine (Ht.out).mono ?_
  rintro e w2 ⟨rfl, hc2, f2⟩
  have hI2 := cells_ints hc2 (fun i hi => tabZ_bd _ _ _)
  have Hbo := Lib.hid (both8 w2 _ 512 512 8 _ _ hI2 hc2.lt (by omega) (by omega) (by omega))
  clear hc2 hI2
  go_wp2_with fail
  refine (Hbo.out).mono ?_
  rintro e w3 ⟨a, gM, gb, gt, rfl, hM, hR3, hsp, hge, f3⟩
  have fr3 := f2.tr f3
  have hn8 : (Ms.init 8 (lst (tabZ L (min len 40)) 512)).n = 8 := init_n _ _
  have hex : ∃ m, WP w3 a gM gb gt m := ⟨_, hM, by rw [hn8]; exact hR3, fun _ _ _ => rfl⟩
  have Hsp := Lib.hid hsp
  have Hnew := Lib.hid (show ∀ i, i < w.heap.size → ¬ (i = gb ∨ i = gt ∨ a.own i) from fun i hi e => by
    have hs := f2.size
    rcases e with e | e | e
    · have := hge i (.inr (.inl e)); omega
    · have := hge i (.inr (.inr (.inl e))); omega
    · have := hge i (.inr (.inr (.inr e))); omega)
  clear hM hR3 hsp hge f2 f3 Ht Hbo hn8
  go_wp2_with fail
  go_loopw [11] (fun i wr => ∃ k : Nat, k ≤ len2 ∧ i = .int .i64 k ∧ (∃ m, WP wr a gM gb gt m) ∧ Fr (fun _ => False) w wr) (fun i _ => len2 - (intOf i).toNat)
  case atStart => exact ⟨0, Nat.zero_le _, rfl, hex, fr3⟩
  case round =>
    clear hex fr3
    obtain ⟨k, hk, rfl, ⟨m, hP⟩, fr⟩ := hrel
    by_cases hlt : k < len2 ∧ k < 20
    · obtain ⟨h1, h2⟩ := hlt
      have hk20 : decide ((k : Int) < 20) = true := by simp; omega
      obtain ⟨b, off, rfl, hb, hc⟩ := (HZ2.out.fr fr (Nat.le_refl _) (fun _ _ e => e)).at_ h1
      obtain ⟨v0, v1⟩ := wf_u32 (HZ2.out.2.1 k h1)
      generalize zs2.getD k 0 = va at *
      have HP := Lib.hid hP
      have hva : 0 ≤ va % 4096 ∧ va % 4096 ≤ 4294967295 := by omega
      clear hP hk
      by_cases hkd : k < len3
      · have t0 : decide ((k : Int) < (len3 : Int)) = true := by simp; omega
        obtain ⟨b3, off3, rfl, hb3, hc3⟩ := (HZ3.out.fr fr (Nat.le_refl _) (fun _ _ e => e)).at_ hkd
        generalize zs3.getD k 0 = kd at *
        by_cases h3 : 0 < (k : Int) % 3
        · have t3 : decide (0 < (k : Int) % 3) = true := by simp [h3]
          clear h3
          by_cases h5 : (k : Int) % 5 = 4
          · have t5 : ((k : Int) % 5 == 4) = true := by simp [h5]
            clear h5
            go_wp2_with fail
            refine (same_any wr a gM gb gt m HP.out Hsp.out root (va % 4096) kd _ ro0 ro1 hva.1 hva.2).mono ?_
            rintro e w5 ⟨rfl, ⟨m5, _, hP5⟩, f5⟩
            have fr5 := fr.trans (S := fun _ => False) f5 (fun i hi e => Hnew.out i hi e)
            go_wp2_with fail
            go_roundw
            case rel => exact ⟨k + 1, by omega, by go_num, ⟨m5, hP5⟩, fr5⟩
            case measure => simp [intOf]; omega
          · have t5 : ((k : Int) % 5 == 4) = false := by simp [h5]
            clear h5
            go_wp2_with fail
            refine (same_any wr a gM gb gt m HP.out Hsp.out 0 (va % 4096) kd _ (by omega) (by omega) hva.1 hva.2).mono ?_
            rintro e w5 ⟨rfl, ⟨m5, _, hP5⟩, f5⟩
            have fr5 := fr.trans (S := fun _ => False) f5 (fun i hi e => Hnew.out i hi e)
            go_wp2_with fail
            go_roundw
            case rel => exact ⟨k + 1, by omega, by go_num, ⟨m5, hP5⟩, fr5⟩
            case measure => simp [intOf]; omega
        · have t3 : decide (0 < (k : Int) % 3) = false := by simp; omega
          clear h3
          by_cases h5 : (k : Int) % 5 = 4
          · have t5 : ((k : Int) % 5 == 4) = true := by simp [h5]
            clear h5
            go_wp2_with fail
            refine (same_any wr a gM gb gt m HP.out Hsp.out root va kd _ ro0 ro1 v0 v1).mono ?_
            rintro e w5 ⟨rfl, ⟨m5, _, hP5⟩, f5⟩
            have fr5 := fr.trans (S := fun _ => False) f5 (fun i hi e => Hnew.out i hi e)
            go_wp2_with fail
            go_roundw
            case rel => exact ⟨k + 1, by omega, by go_num, ⟨m5, hP5⟩, fr5⟩
            case measure => simp [intOf]; omega
          · have t5 : ((k : Int) % 5 == 4) = false := by simp [h5]
            clear h5
            go_wp2_with fail
            refine (same_any wr a gM gb gt m HP.out Hsp.out 0 va kd _ (by omega) (by omega) v0 v1).mono ?_
            rintro e w5 ⟨rfl, ⟨m5, _, hP5⟩, f5⟩
            have fr5 := fr.trans (S := fun _ => False) f5 (fun i hi e => Hnew.out i hi e)
            go_wp2_with fail
            go_roundw
            case rel => exact ⟨k + 1, by omega, by go_num, ⟨m5, hP5⟩, fr5⟩
            case measure => simp [intOf]; omega
      · have t0 : decide ((k : Int) < (len3 : Int)) = false := by simp; omega
        by_cases h3 : 0 < (k : Int) % 3
        · have t3 : decide (0 < (k : Int) % 3) = true := by simp [h3]
          clear h3
          by_cases h5 : (k : Int) % 5 = 4
          · have t5 : ((k : Int) % 5 == 4) = true := by simp [h5]
            clear h5
            go_wp2_with fail
            refine (same_any wr a gM gb gt m HP.out Hsp.out root (va % 4096) 2 _ ro0 ro1 hva.1 hva.2).mono ?_
            rintro e w5 ⟨rfl, ⟨m5, _, hP5⟩, f5⟩
            have fr5 := fr.trans (S := fun _ => False) f5 (fun i hi e => Hnew.out i hi e)
            go_wp2_with fail
            go_roundw
            case rel => exact ⟨k + 1, by omega, by go_num, ⟨m5, hP5⟩, fr5⟩
            case measure => simp [intOf]; omega
          · have t5 : ((k : Int) % 5 == 4) = false := by simp [h5]
            clear h5
            go_wp2_with fail
            refine (same_any wr a gM gb gt m HP.out Hsp.out 0 (va % 4096) 2 _ (by omega) (by omega) hva.1 hva.2).mono ?_
            rintro e w5 ⟨rfl, ⟨m5, _, hP5⟩, f5⟩
            have fr5 := fr.trans (S := fun _ => False) f5 (fun i hi e => Hnew.out i hi e)
            go_wp2_with fail
            go_roundw
            case rel => exact ⟨k + 1, by omega, by go_num, ⟨m5, hP5⟩, fr5⟩
            case measure => simp [intOf]; omega
        · have t3 : decide (0 < (k : Int) % 3) = false := by simp; omega
          clear h3
          by_cases h5 : (k : Int) % 5 = 4
          · have t5 : ((k : Int) % 5 == 4) = true := by simp [h5]
            clear h5
            go_wp2_with fail
            refine (same_any wr a gM gb gt m HP.out Hsp.out root va 2 _ ro0 ro1 v0 v1).mono ?_
            rintro e w5 ⟨rfl, ⟨m5, _, hP5⟩, f5⟩
            have fr5 := fr.trans (S := fun _ => False) f5 (fun i hi e => Hnew.out i hi e)
            go_wp2_with fail
            go_roundw
            case rel => exact ⟨k + 1, by omega, by go_num, ⟨m5, hP5⟩, fr5⟩
            case measure => simp [intOf]; omega
          · have t5 : ((k : Int) % 5 == 4) = false := by simp [h5]
            clear h5
            go_wp2_with fail
            refine (same_any wr a gM gb gt m HP.out Hsp.out 0 va 2 _ (by omega) (by omega) v0 v1).mono ?_
            rintro e w5 ⟨rfl, ⟨m5, _, hP5⟩, f5⟩
            have fr5 := fr.trans (S := fun _ => False) f5 (fun i hi e => Hnew.out i hi e)
            go_wp2_with fail
            go_roundw
            case rel => exact ⟨k + 1, by omega, by go_num, ⟨m5, hP5⟩, fr5⟩
            case measure => simp [intOf]; omega
    · go_wp2_with fail
      all_goals
        refine (known8 _).mono ?_
        rintro e w9 ⟨rfl, f9⟩
        go_wp2_with fail
        go_ret
        exact ⟨rfl, fr.tr f9⟩
end Go.Proofs.Ytlkagggkpaihaaa.walkTells
