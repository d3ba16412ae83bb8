/- The statements of layer 7: known. -/
import Derived.Test.YtijhbhhcaicdfaaBytesW
import Derived.Test.YtijhbhhcaicdfaaSame64
namespace Go.Proofs.Ytijhbhhcaicdfaa.Rm
open Go.RowKit Fm Nt
set_option linter.unusedVariables false
set_option maxHeartbeats 4000000

def k7 : Ms := (Ms.new 2).putW 62 67305985
theorem k7b : inB (Ms.new 2) 62 4 = true := by decide +kernel
theorem k7v : memV k7 64 = 3 := by decide +kernel
theorem k7i : inB k7 64 1 = true := by decide +kernel
theorem k7w : inB k7 125 4 = false := by decide +kernel
theorem k7n : (k7.n : Int) * 64 = 128 := by decide +kernel
theorem k7t : turnN k7 64 = [0, 1] := by decide +kernel
set_option maxRecDepth 100000 in
theorem known7 (w : World) : Calls Try.prog 11 #[] w fun e w' => e = .returned (.bool true) ∧ Fr (fun _ => False) w w' := by
  have hfr := fresh7 w 2 (by omega) (by omega)
  have Hfr : Hid (Calls Try.prog 6 #[.int .i64 2] w (Fresh7 w 2)) := hfr
  clear hfr
  go_enter Try.func11, Try.ntmps11
  go_wp2_with fail
  refine (Hfr.out).mono ?_
  rintro e w1 ⟨a, rfl, hM, hbl, f1⟩
  have hp := putWord_any w1 a _ hM 62 67305985 (by omega) (by omega) (by omega) (by omega)
  rw [k7b] at hp
  have Hp := Lib.hid hp
  clear hp
  go_wp2_with fail
  refine (Hp.out).mono ?_
  rintro e w2 ⟨rfl, hM2, f2⟩
  have fr2 := f1.trans (S := fun _ => False) f2 (fun i hi e => by have := hbl i e; omega)
  have hM2 : Mem w2 a k7 := hM2
  have h1 := byte_any w2 a k7 hM2 64 (by omega) (by omega)
  rw [k7v, k7i] at h1
  have h2 := word_any w2 a k7 hM2 125 (by omega) (by omega)
  rw [k7w] at h2
  have h3 := size_any w2 a k7 hM2
  rw [k7n] at h3
  have h4 := turned_any w2 a k7 hM2 0 (by omega)
  rw [k7t] at h4
  have H1 := Lib.hid h1
  have H2 := Lib.hid h2
  have H3 := Lib.hid h3
  have H4 := Lib.hid h4
  clear h1 h2 h3 h4 hbl
  go_wp2_with fail
  refine (H1.out).mono ?_
  rintro e w' ⟨rfl, rfl⟩
  go_wp2_with fail
  refine (H2.out).mono ?_
  rintro e w' ⟨rfl, rfl⟩
  go_wp2_with fail
  refine (H3.out).mono ?_
  rintro e w' ⟨rfl, rfl⟩
  go_wp2_with fail
  refine (H4.out).mono ?_
  rintro e w3 ⟨v, rfl, ho, f3, k3⟩
  obtain ⟨A5, cap5, rfl⟩ := ownI_any ho
  have hI := Bk.own_ints ho (by decide)
  have fr3 := fr2.tr f3
  have hI2 := hI.fr ((Fr.refl (fun _ => False) w3).alloc (.cells #[.int .i64 0, .int .i64 1] 3)) (Nat.le_refl _) (fun _ _ e => e)
  have hL := intsAt_lit (k := .i64) [0, 1] (Blk.new w3 3 #[.int .i64 0, .int .i64 1]) (by decide)
  have hs := Bk.same64_eq (w3.alloc (.cells #[.int .i64 0, .int .i64 1] 3)) w3.heap.size (w3.heap.size + 1) 2 cap5 2 A5 (some ⟨w3.heap.size, 0, none⟩) [0, 1] hI2 (by simp) hL (by simp) (by omega)
  have Hs := Lib.hid hs
  have fr4 := fr3.alloc (.cells #[.int .i64 0, .int .i64 1] 3)
  clear hs hI hI2 hL ho k3
  go_wp2_with fail
  refine (Hs.out).mono ?_
  rintro e w4 ⟨rfl, f4⟩
  go_wp2_with fail
  go_ret
  exact ⟨rfl, fr4.tr f4⟩
end Go.Proofs.Ytijhbhhcaicdfaa.Rm
