/- The statements of layer 14: known. -/
import Derived.Test.YtlkagggkpaihaaaDriveB
namespace Go.Proofs.Ytlkagggkpaihaaa.Dr
open Go.RowKit Fm Nt Rm By
set_option linter.unusedVariables false
set_option maxHeartbeats 4000000

def k14m : Ms := Ms.init 2 []
def k14d : Nat → Int := dinit [1, 2, 3]
def k14n : Ms := doM k14d k14m 0 64 1
theorem k14a : doB k14m 0 64 1 = true := by decide +kernel
theorem k14b : memV k14n 66 = 3 := by decide +kernel
theorem k14c : inB k14n 66 1 = true := by decide +kernel
theorem k14e : doB k14n 0 64 3 = false := by decide +kernel
set_option maxRecDepth 100000 in
theorem known14 (w : World) : Calls Try.prog 19 #[] w fun e w' => e = .returned (.bool true) ∧ Fr (fun _ => False) w w' := by
  have Hm : Hid (Calls Try.prog 13 #[.slice none 0 0, .int .i64 2] w (Memory14 w 2 [])) := memory14 w none 0 0 2 [] (intsAt_nil _ _ _ _) (by omega) (by omega) (by omega)
  go_enter Try.func19, Try.ntmps19
  go_wp2_with fail
  refine (Hm.out).mono ?_
  rintro e w1 ⟨a, rfl, hM, hba, f1⟩
  have hI := intsAt_lit (k := .u8) [1, 2, 3] (Blk.new w1 5 #[.int .u8 1, .int .u8 2, .int .u8 3]) (by decide)
  have hnd := new_any (w1.alloc (.cells #[.int .u8 1, .int .u8 2, .int .u8 3] 5)) (some ⟨w1.heap.size, 0, none⟩) 3 3 [1, 2, 3] (hI.more (by simp)) (by omega)
  have Hnd := Lib.hid hnd
  have hlt := hM.lt
  have hM1 := hM.alloc (.cells #[.int .u8 1, .int .u8 2, .int .u8 3] 5)
  have f1a := f1.alloc (.cells #[.int .u8 1, .int .u8 2, .int .u8 3] 5)
  have Hlt := Lib.hid hlt
  have Hba := Lib.hid hba
  clear hnd hI hM hlt hba
  go_wp2_with fail
  refine (Hnd.out).mono ?_
  rintro e w2 ⟨gd, gb, rfl, hD, hgd, hgb, f2⟩
  have hM2 := hM1.fr0 f2
  have fr2 := f1a.tr f2
  have hdis : ∀ k, a.own k → k ≠ gd ∧ k ≠ gb := fun k hk => by
    have := Hlt.out k hk
    have e : (w1.alloc (.cells #[.int .u8 1, .int .u8 2, .int .u8 3] 5)).heap.size = w1.heap.size + 1 := by simp
    omega
  have hgw : w.heap.size ≤ gb := by
    have e : (w1.alloc (.cells #[.int .u8 1, .int .u8 2, .int .u8 3] 5)).heap.size = w1.heap.size + 1 := by simp
    have := f1.size
    omega
  have hdo := do_any w2 gd gb k14d a k14m hD hM2 hdis 0 64 1 (by omega) (by omega) (by omega) (by omega) (by omega) (by omega)
  rw [k14a] at hdo
  have Hdo := Lib.hid hdo
  have Hdis := Lib.hid hdis
  clear hdo hD hM2 hM1 hdis hgd hgb
  go_wp2_with fail
  refine (Hdo.out).mono ?_
  rintro e w3 ⟨rfl, hD3, hM3, f3⟩
  have fr3 := fr2.trans (S := fun _ => False) f3 (fun i hi e => by
    rcases e with e | e
    · omega
    · have := Hba.out i e; omega)
  have hM3 : Mem w3 a k14n := hM3
  have h1 := byte_any w3 a k14n hM3 66 (by omega) (by omega)
  rw [k14b, k14c] at h1
  have H1 := Lib.hid h1
  have hdo := do_any w3 gd gb _ a k14n hD3 hM3 Hdis.out 0 64 3 (by omega) (by omega) (by omega) (by omega) (by omega) (by omega)
  rw [k14e] at hdo
  have Hdo2 := Lib.hid hdo
  clear h1 hdo hD3 hM3
  go_wp2_with fail
  refine (H1.out).mono ?_
  rintro e w' ⟨rfl, rfl⟩
  go_wp2_with fail
  refine (Hdo2.out).mono ?_
  rintro e w4 ⟨rfl, hD4, hM4, f4⟩
  have fr4 := fr3.trans (S := fun _ => False) f4 (fun i hi e => by
    rcases e with e | e
    · omega
    · have := Hba.out i e; omega)
  have hda := Lib.hid (dall_any w4 gd gb _ hD4)
  clear hD4 hM4
  go_wp2_with fail
  refine (hda.out).mono ?_
  rintro e w5 ⟨g5, c5, rfl, I5, hc5, hg5, f5⟩
  clear I5
  go_wp2_with fail
  go_ret
  exact ⟨rfl, fr4.tr f5⟩
end Go.Proofs.Ytlkagggkpaihaaa.Dr
