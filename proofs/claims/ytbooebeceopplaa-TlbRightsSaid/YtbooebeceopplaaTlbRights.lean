/- TlbRights: the walk. -/
import Derived.Test.YtbooebeceopplaaTlbLaws
import Derived.Test.YtbooebeceopplaaTlbBits
namespace Go.Proofs.Ytbooebeceopplaa.tlbRights
open Go.RowKit Tl
set_option linter.unusedVariables false
set_option maxHeartbeats 8000000

set_option maxRecDepth 100000 in
theorem walk (w : World) (va : Int) (wva : (Lit.int .u32 va).wf = true) (pfn : Int) (wp : (Lit.int .u32 pfn).wf = true) (b : Int) (wb : (Lit.int .u32 b).wf = true) :
    Calls Try.prog 3 #[.int .u32 va, .int .u32 pfn, .int .u32 b] w fun e w' => e = .returned (.bool true) ∧ Fr (fun _ => False) w w' := by
  obtain ⟨hv0, hv1⟩ := wf_u32 wva
  obtain ⟨hp0, hp1⟩ := wf_u32 wp
  obtain ⟨hb0, hb1⟩ := wf_u32 wb
  clear wva wp wb
  obtain ⟨j, hj⟩ : ∃ j : Nat, va / 64 % 16 = j := ⟨(va / 64 % 16).toNat, by omega⟩
  have hj16 : j < 16 := by omega
  have Hj := Lib.hid hj
  clear hj
  have hq : 0 ≤ va / 64 := by omega
  go_enter Try.func3, Try.ntmps3
  go_wp2_with fail
  refine (new_any w).mono ?_
  rintro e w1 ⟨rfl, b1, f1⟩
  go_wp2_with fail
  refine (fill_yes w1 _ _ ⟨true, va / 64, pfn, b⟩ b1 rfl hq).mono ?_
  rintro e w2 ⟨rfl, b2, f2⟩
  rw [Hj.out] at b2
  have b2 : Buf w2 w.heap.size (upd (fun _ => noE) j ⟨true, va / 64, pfn, b⟩) := b2
  have f2 := f1.trans (S := fun _ => False) f2 (fun i hi e => by omega)
  clear b1 f1
  go_wp2_with fail
  go_loopw [8] (fun i wr => ∃ kd : Int, 1 ≤ kd ∧ kd ≤ 4 ∧ i = .int .i64 kd ∧ Buf wr w.heap.size (upd (fun _ => noE) j ⟨true, va / 64, pfn, b⟩) ∧ Fr (fun _ => False) w wr) (fun i _ => 5 - (intOf i).toNat)
  case atStart => exact ⟨1, by omega, by omega, rfl, b2, f2⟩
  case round =>
    clear b2 f2
    obtain ⟨kd, hk0, hk1, rfl, bw, fr⟩ := hrel
    by_cases hlt : kd ≤ 3
    · have hk : kd = 1 ∨ kd = 2 ∨ kd = 3 := by omega
      have hR := rights b kd hb0 hb1 hk
      have hS : hit ⟨true, va / 64, pfn, b⟩ va kd true = (bits .and .u32 b (asks kd true) == asks kd true) := by simp [hit, hk0, hlt]
      have hU : hit ⟨true, va / 64, pfn, b⟩ va kd false = ((bits .and .u32 b (asks kd true) == asks kd true) && (bits .and .u32 b 16 != 0)) := by
        rw [Bool.eq_iff_iff]
        simp [hit, hk0, hlt, hR]
      have hq1 : (pfn * 64 % 4294967296 + va % 64) % 64 = va % 64 := by omega
      have hq2 : (pfn * 64 % 4294967296 + va % 64) / 64 = pfn % 67108864 := by omega
      have hq3 : 0 ≤ pfn * 64 % 4294967296 + va % 64 := by omega
      have hq4 : pfn * 64 % 4294967296 + va % 64 ≤ 4294967295 := by omega
      clear hR
      by_cases hA : bits .and .u32 b (asks kd true) = asks kd true
      · by_cases hB : bits .and .u32 b 16 = 0
        · have eS : hit ⟨true, va / 64, pfn, b⟩ va kd true = true := by rw [hS]; simp [hA]
          have eU : hit ⟨true, va / 64, pfn, b⟩ va kd false = false := by rw [hU]; simp [hB]
          have fS : found ⟨true, va / 64, pfn, b⟩ va kd true = pfn * 64 % 4294967296 + va % 64 := by rw [found, if_pos eS]
          have fU : found ⟨true, va / 64, pfn, b⟩ va kd false = 0 := by simp [found, eU]
          have gA : (bits .and .u32 b (asks kd true) == asks kd true) = true := by simp [hA]
          have gB : (bits .and .u32 b 16 != 0) = false := by simp [hB]
          have ES := Lib.hid eS
          have EU := Lib.hid eU
          have FS := Lib.hid fS
          have FU := Lib.hid fU
          clear hS hU hA eS eU fS fU
          rcases hk with rfl | rfl | rfl
          · have ea : asks 1 true = 8 := rfl
            rw [ea] at gA
            go_wp2_with fail
            refine (find_any _ _ _ va _ false hv0 hv1 j Hj.out bw).mono ?_
            rw [upd_same, EU.out, FU.out]
            rintro e w3 ⟨rfl, f3⟩
            have b3 := bw.fr f3 (fun e => e)
            go_wp2_with fail
            refine (find_any _ _ _ va _ true hv0 hv1 j Hj.out b3).mono ?_
            rw [upd_same, ES.out, FS.out]
            rintro e w4 ⟨rfl, f4⟩
            have b4 := b3.fr f4 (fun e => e)
            have fr4 := (fr.tr f3).tr f4
            go_wp2_with fail
            go_roundw
            case rel => exact ⟨_, by omega, by omega, rfl, b4.alloc _, fr4.alloc _⟩
            case measure => simp [intOf]
          · have ea : asks 2 true = 2 := rfl
            rw [ea] at gA
            go_wp2_with fail
            refine (find_any _ _ _ va _ false hv0 hv1 j Hj.out bw).mono ?_
            rw [upd_same, EU.out, FU.out]
            rintro e w3 ⟨rfl, f3⟩
            have b3 := bw.fr f3 (fun e => e)
            go_wp2_with fail
            refine (find_any _ _ _ va _ true hv0 hv1 j Hj.out b3).mono ?_
            rw [upd_same, ES.out, FS.out]
            rintro e w4 ⟨rfl, f4⟩
            have b4 := b3.fr f4 (fun e => e)
            have fr4 := (fr.tr f3).tr f4
            go_wp2_with fail
            go_roundw
            case rel => exact ⟨_, by omega, by omega, rfl, b4.alloc _, fr4.alloc _⟩
            case measure => simp [intOf]
          · have ea : asks 3 true = 68 := rfl
            rw [ea] at gA
            go_wp2_with fail
            refine (find_any _ _ _ va _ false hv0 hv1 j Hj.out bw).mono ?_
            rw [upd_same, EU.out, FU.out]
            rintro e w3 ⟨rfl, f3⟩
            have b3 := bw.fr f3 (fun e => e)
            go_wp2_with fail
            refine (find_any _ _ _ va _ true hv0 hv1 j Hj.out b3).mono ?_
            rw [upd_same, ES.out, FS.out]
            rintro e w4 ⟨rfl, f4⟩
            have b4 := b3.fr f4 (fun e => e)
            have fr4 := (fr.tr f3).tr f4
            go_wp2_with fail
            go_roundw
            case rel => exact ⟨_, by omega, by omega, rfl, b4.alloc _, fr4.alloc _⟩
            case measure => simp [intOf]
        · have eS : hit ⟨true, va / 64, pfn, b⟩ va kd true = true := by rw [hS]; simp [hA]
          have eU : hit ⟨true, va / 64, pfn, b⟩ va kd false = true := by rw [hU]; simp [hA, hB]
          have fS : found ⟨true, va / 64, pfn, b⟩ va kd true = pfn * 64 % 4294967296 + va % 64 := by rw [found, if_pos eS]
          have fU : found ⟨true, va / 64, pfn, b⟩ va kd false = pfn * 64 % 4294967296 + va % 64 := by rw [found, if_pos eU]
          have gA : (bits .and .u32 b (asks kd true) == asks kd true) = true := by simp [hA]
          have gB : (bits .and .u32 b 16 != 0) = true := by simpa using hB
          have ES := Lib.hid eS
          have EU := Lib.hid eU
          have FS := Lib.hid fS
          have FU := Lib.hid fU
          clear hS hU hA eS eU fS fU
          rcases hk with rfl | rfl | rfl
          · have ea : asks 1 true = 8 := rfl
            rw [ea] at gA
            go_wp2_with fail
            refine (find_any _ _ _ va _ false hv0 hv1 j Hj.out bw).mono ?_
            rw [upd_same, EU.out, FU.out]
            rintro e w3 ⟨rfl, f3⟩
            have b3 := bw.fr f3 (fun e => e)
            go_wp2_with fail
            refine (find_any _ _ _ va _ true hv0 hv1 j Hj.out b3).mono ?_
            rw [upd_same, ES.out, FS.out]
            rintro e w4 ⟨rfl, f4⟩
            have b4 := b3.fr f4 (fun e => e)
            have fr4 := (fr.tr f3).tr f4
            go_wp2_with fail
            go_roundw
            case rel => exact ⟨_, by omega, by omega, rfl, b4.alloc _, fr4.alloc _⟩
            case measure => simp [intOf]
          · have ea : asks 2 true = 2 := rfl
            rw [ea] at gA
            go_wp2_with fail
            refine (find_any _ _ _ va _ false hv0 hv1 j Hj.out bw).mono ?_
            rw [upd_same, EU.out, FU.out]
            rintro e w3 ⟨rfl, f3⟩
            have b3 := bw.fr f3 (fun e => e)
            go_wp2_with fail
            refine (find_any _ _ _ va _ true hv0 hv1 j Hj.out b3).mono ?_
            rw [upd_same, ES.out, FS.out]
            rintro e w4 ⟨rfl, f4⟩
            have b4 := b3.fr f4 (fun e => e)
            have fr4 := (fr.tr f3).tr f4
            go_wp2_with fail
            go_roundw
            case rel => exact ⟨_, by omega, by omega, rfl, b4.alloc _, fr4.alloc _⟩
            case measure => simp [intOf]
          · have ea : asks 3 true = 68 := rfl
            rw [ea] at gA
            go_wp2_with fail
            refine (find_any _ _ _ va _ false hv0 hv1 j Hj.out bw).mono ?_
            rw [upd_same, EU.out, FU.out]
            rintro e w3 ⟨rfl, f3⟩
            have b3 := bw.fr f3 (fun e => e)
            go_wp2_with fail
            refine (find_any _ _ _ va _ true hv0 hv1 j Hj.out b3).mono ?_
            rw [upd_same, ES.out, FS.out]
            rintro e w4 ⟨rfl, f4⟩
            have b4 := b3.fr f4 (fun e => e)
            have fr4 := (fr.tr f3).tr f4
            go_wp2_with fail
            go_roundw
            case rel => exact ⟨_, by omega, by omega, rfl, b4.alloc _, fr4.alloc _⟩
            case measure => simp [intOf]
      · by_cases hB : bits .and .u32 b 16 = 0
        · have eS : hit ⟨true, va / 64, pfn, b⟩ va kd true = false := by rw [hS]; simp [hA]
          have eU : hit ⟨true, va / 64, pfn, b⟩ va kd false = false := by rw [hU]; simp [hA]
          have fS : found ⟨true, va / 64, pfn, b⟩ va kd true = 0 := by simp [found, eS]
          have fU : found ⟨true, va / 64, pfn, b⟩ va kd false = 0 := by simp [found, eU]
          have gA : (bits .and .u32 b (asks kd true) == asks kd true) = false := by simp [hA]
          have gB : (bits .and .u32 b 16 != 0) = false := by simp [hB]
          have ES := Lib.hid eS
          have EU := Lib.hid eU
          have FS := Lib.hid fS
          have FU := Lib.hid fU
          clear hS hU hA eS eU fS fU
          rcases hk with rfl | rfl | rfl
          · have ea : asks 1 true = 8 := rfl
            rw [ea] at gA
            go_wp2_with fail
            refine (find_any _ _ _ va _ false hv0 hv1 j Hj.out bw).mono ?_
            rw [upd_same, EU.out, FU.out]
            rintro e w3 ⟨rfl, f3⟩
            have b3 := bw.fr f3 (fun e => e)
            go_wp2_with fail
            refine (find_any _ _ _ va _ true hv0 hv1 j Hj.out b3).mono ?_
            rw [upd_same, ES.out, FS.out]
            rintro e w4 ⟨rfl, f4⟩
            have b4 := b3.fr f4 (fun e => e)
            have fr4 := (fr.tr f3).tr f4
            go_wp2_with fail
            go_roundw
            case rel => exact ⟨_, by omega, by omega, rfl, b4.alloc _, fr4.alloc _⟩
            case measure => simp [intOf]
          · have ea : asks 2 true = 2 := rfl
            rw [ea] at gA
            go_wp2_with fail
            refine (find_any _ _ _ va _ false hv0 hv1 j Hj.out bw).mono ?_
            rw [upd_same, EU.out, FU.out]
            rintro e w3 ⟨rfl, f3⟩
            have b3 := bw.fr f3 (fun e => e)
            go_wp2_with fail
            refine (find_any _ _ _ va _ true hv0 hv1 j Hj.out b3).mono ?_
            rw [upd_same, ES.out, FS.out]
            rintro e w4 ⟨rfl, f4⟩
            have b4 := b3.fr f4 (fun e => e)
            have fr4 := (fr.tr f3).tr f4
            go_wp2_with fail
            go_roundw
            case rel => exact ⟨_, by omega, by omega, rfl, b4.alloc _, fr4.alloc _⟩
            case measure => simp [intOf]
          · have ea : asks 3 true = 68 := rfl
            rw [ea] at gA
            go_wp2_with fail
            refine (find_any _ _ _ va _ false hv0 hv1 j Hj.out bw).mono ?_
            rw [upd_same, EU.out, FU.out]
            rintro e w3 ⟨rfl, f3⟩
            have b3 := bw.fr f3 (fun e => e)
            go_wp2_with fail
            refine (find_any _ _ _ va _ true hv0 hv1 j Hj.out b3).mono ?_
            rw [upd_same, ES.out, FS.out]
            rintro e w4 ⟨rfl, f4⟩
            have b4 := b3.fr f4 (fun e => e)
            have fr4 := (fr.tr f3).tr f4
            go_wp2_with fail
            go_roundw
            case rel => exact ⟨_, by omega, by omega, rfl, b4.alloc _, fr4.alloc _⟩
            case measure => simp [intOf]
        · have eS : hit ⟨true, va / 64, pfn, b⟩ va kd true = false := by rw [hS]; simp [hA]
          have eU : hit ⟨true, va / 64, pfn, b⟩ va kd false = false := by rw [hU]; simp [hA]
          have fS : found ⟨true, va / 64, pfn, b⟩ va kd true = 0 := by simp [found, eS]
          have fU : found ⟨true, va / 64, pfn, b⟩ va kd false = 0 := by simp [found, eU]
          have gA : (bits .and .u32 b (asks kd true) == asks kd true) = false := by simp [hA]
          have gB : (bits .and .u32 b 16 != 0) = true := by simpa using hB
          have ES := Lib.hid eS
          have EU := Lib.hid eU
          have FS := Lib.hid fS
          have FU := Lib.hid fU
          clear hS hU hA eS eU fS fU
          rcases hk with rfl | rfl | rfl
          · have ea : asks 1 true = 8 := rfl
            rw [ea] at gA
            go_wp2_with fail
            refine (find_any _ _ _ va _ false hv0 hv1 j Hj.out bw).mono ?_
            rw [upd_same, EU.out, FU.out]
            rintro e w3 ⟨rfl, f3⟩
            have b3 := bw.fr f3 (fun e => e)
            go_wp2_with fail
            refine (find_any _ _ _ va _ true hv0 hv1 j Hj.out b3).mono ?_
            rw [upd_same, ES.out, FS.out]
            rintro e w4 ⟨rfl, f4⟩
            have b4 := b3.fr f4 (fun e => e)
            have fr4 := (fr.tr f3).tr f4
            go_wp2_with fail
            go_roundw
            case rel => exact ⟨_, by omega, by omega, rfl, b4.alloc _, fr4.alloc _⟩
            case measure => simp [intOf]
          · have ea : asks 2 true = 2 := rfl
            rw [ea] at gA
            go_wp2_with fail
            refine (find_any _ _ _ va _ false hv0 hv1 j Hj.out bw).mono ?_
            rw [upd_same, EU.out, FU.out]
            rintro e w3 ⟨rfl, f3⟩
            have b3 := bw.fr f3 (fun e => e)
            go_wp2_with fail
            refine (find_any _ _ _ va _ true hv0 hv1 j Hj.out b3).mono ?_
            rw [upd_same, ES.out, FS.out]
            rintro e w4 ⟨rfl, f4⟩
            have b4 := b3.fr f4 (fun e => e)
            have fr4 := (fr.tr f3).tr f4
            go_wp2_with fail
            go_roundw
            case rel => exact ⟨_, by omega, by omega, rfl, b4.alloc _, fr4.alloc _⟩
            case measure => simp [intOf]
          · have ea : asks 3 true = 68 := rfl
            rw [ea] at gA
            go_wp2_with fail
            refine (find_any _ _ _ va _ false hv0 hv1 j Hj.out bw).mono ?_
            rw [upd_same, EU.out, FU.out]
            rintro e w3 ⟨rfl, f3⟩
            have b3 := bw.fr f3 (fun e => e)
            go_wp2_with fail
            refine (find_any _ _ _ va _ true hv0 hv1 j Hj.out b3).mono ?_
            rw [upd_same, ES.out, FS.out]
            rintro e w4 ⟨rfl, f4⟩
            have b4 := b3.fr f4 (fun e => e)
            have fr4 := (fr.tr f3).tr f4
            go_wp2_with fail
            go_roundw
            case rel => exact ⟨_, by omega, by omega, rfl, b4.alloc _, fr4.alloc _⟩
            case measure => simp [intOf]
    · have e1 : cnt (upd (fun _ => noE) j ⟨true, va / 64, pfn, b⟩) 16 = 1 := by
        have := cnt_upd (fun _ => noE) j ⟨true, va / 64, pfn, b⟩ 16 hj16
        rw [cnt_zero] at this
        simpa [noE] using this
      go_wp2_with fail
      refine (len_any _ _ _ bw).mono ?_
      rw [e1]
      rintro e w3 ⟨rfl, f3⟩
      go_wp2_with fail
      refine (known_any _).mono ?_
      rintro e w6 ⟨rfl, f6⟩
      go_wp2_with fail
      go_ret
      exact ⟨rfl, (fr.tr f3).tr f6⟩
end Go.Proofs.Ytbooebeceopplaa.tlbRights
