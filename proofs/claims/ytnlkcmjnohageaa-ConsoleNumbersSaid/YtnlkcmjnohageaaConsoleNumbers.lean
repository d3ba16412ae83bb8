/- ConsoleNumbers: the walk. -/
import Derived.Test.YtnlkcmjnohageaaConsoleLaws
namespace Go.Proofs.Ytnlkcmjnohageaa.consoleNumbers
open Go.RowKit Co
set_option linter.unusedVariables false

set_option maxRecDepth 100000 in
set_option maxHeartbeats 4000000 in
theorem walk (w : World) :
    Calls Try.prog 7 #[] w fun e w' => e = .returned (.bool true) ∧ Fr (fun _ => False) w w' := by
  have hmk100 : ∀ w, (Instr.makeSlice 33 (.int .i64 100) (.int .i64 100)).run Try.prog w = .ok (.slice (some ⟨w.heap.size, 0, none⟩) 100 100) (w.alloc (.cells (zcells 100) 5)) := fun w => run_make8 100 (by omega) w
  go_enter Try.func7, Try.ntmps7
  go_wp2_with fail
  go_loopw [1] (fun i wr => ∃ n : Nat, n ≤ 70 ∧ n % 7 = 0 ∧ i = .int .i64 n ∧ Fr (fun _ => False) w wr) (fun i _ => 70 - (intOf i).toNat)
  case atStart => exact ⟨0, by omega, by omega, rfl, Fr.refl _ _⟩
  case round =>
    obtain ⟨n, hn, hn7, rfl, fr⟩ := hrel
    obtain ⟨wo, rfl⟩ : ∃ wo : World, wo = wr := ⟨_, rfl⟩
    have Hn7 := Lib.hid hn7
    clear hn7
    by_cases hlt : n < 70
    · have hn63 : n ≤ 63 := by have := Hn7.out; omega
      have hmk := run_make8 n (by omega)
      go_wp2_with fail
      refine (new_L wo).mono ?_
      rintro e w1 ⟨rfl, c1⟩
      go_wp2_with fail
      refine (read_L_nil _ _ _ _ c1).mono ?_
      rintro e w2 ⟨rfl, rfl⟩
      go_wp2_with fail
      refine (type_L wo _ _ _ _ c1 (by simp) 0 none 0 0 [] (intsAt_nil _ _ _ _) (by simp [maxLen]) (by omega)).mono ?_
      rintro e w2 ⟨rfl, c2⟩
      go_wp2_with fail
      have e1 : min n (64 - ([] : List Int).length) = n := by simp; omega
      refine (type_L wo _ _ _ _ (c2.fr ((Fr.refl _ _).alloc _)) (by simp) _ _ n n (zeros n) (made8 _ n) (by simp only [maxLen]; omega) (by omega)).mono ?_
      have e2 : (zeros n).take (min n (64 - ([] ++ ([] : List Int).take (min 0 (64 - ([] : List Int).length))).length)) = zeros n := List.take_of_length_le (by rw [zeros_len]; simp; omega)
      have e3 : min n (64 - ([] ++ ([] : List Int).take (min 0 (64 - ([] : List Int).length))).length) = n := by simp; omega
      rw [e2, e3]
      clear e1 e2 e3
      rintro e w3 ⟨rfl, c3⟩
      have hlen : (([] : List Int) ++ ([] : List Int).take (min 0 (64 - ([] : List Int).length)) ++ zeros n).length = n := by simp [zeros]
      have c3' : ConL wo w3 wo.heap.size [] (zeros n) := by simpa using c3
      clear c3 hlen
      go_wp2_with fail
      refine (waits_L _ _ _ _ _ c3').mono ?_
      rw [zeros_len]
      rintro e w4 ⟨rfl, rfl⟩
      go_wp2_with fail
      obtain ⟨F, d1, d2⟩ := c3'
      refine (input_any _ _ _ _ _ _ d1 (by rw [zeros_len]; omega) wo.heap.size d2.size).mono ?_
      rw [zeros_len]
      rintro e w5 ⟨v5, rfl, ho5, f5, k5⟩
      have c5 : ConL wo w5 wo.heap.size [] (zeros n) := ConL.fr ⟨F, d1, d2⟩ f5
      obtain ⟨A5, cap5, hv5⟩ := own_any ho5
      subst hv5
      clear d1 d2 ho5 k5 f5
      go_wp2_with fail
      refine (type_L wo _ _ _ _ (c5.fr ((Fr.refl _ _).alloc _)) (by rw [zeros_len]; omega) _ _ 100 100 (zeros 100) (made8 _ 100) (by simp [maxLen]) (by omega)).mono ?_
      have e3 : min 100 (64 - (zeros n).length) = 64 - n := by rw [zeros_len]; omega
      have e4 : (((64 - n : Nat)) : Int) = 64 - (n : Int) := by omega
      rw [e3, e4]
      have e5 : (zeros n ++ (zeros 100).take (64 - n)).length = 64 := by rw [List.length_append, zeros_len, List.length_take, zeros_len]; omega
      generalize zeros n ++ (zeros 100).take (64 - n) = Z at *
      clear e3 e4
      rintro e w6 ⟨rfl, c6⟩
      have E5 := Lib.hid e5
      clear e5
      go_wp2_with fail
      refine (waits_L _ _ _ _ _ c6).mono ?_
      rw [E5.out]
      rintro e w7 ⟨rfl, rfl⟩
      go_wp2_with fail
      refine (type_L wo _ _ _ _ (c6.fr ((Fr.refl _ _).alloc _)) (by rw [E5.out]; omega) _ _ 1 1 [5] (intsAt_lit [5] (Blk.new _ _ _) (by decide)) (by simp [maxLen]) (by omega)).mono ?_
      rw [E5.out]
      rintro e w8 ⟨rfl, c8⟩
      have fr8 := fr.tr c8.fr0
      go_wp2_with fail
      exact ⟨⟨n + 7, by omega, by have := Hn7.out; omega, by congr 1, fr8⟩, by simp [intOf]; omega⟩
    · go_wp2_with fail
      refine (known_any _).mono ?_
      rintro e w6 ⟨rfl, f6⟩
      go_wp2_with fail
      go_ret
      exact ⟨rfl, fr.tr f6⟩
end Go.Proofs.Ytnlkcmjnohageaa.consoleNumbers
