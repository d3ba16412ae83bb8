/- TimerOnce: the walk. -/
import Derived.Test.YtnlkcmjnohageaaTimer
import Derived.LoopTactic
import Derived.Deep.LoopGhost
namespace Go.Proofs.Ytnlkcmjnohageaa.timerOnce
open Go.RowKit
set_option linter.unusedVariables false

set_option maxRecDepth 100000 in
set_option maxHeartbeats 2000000 in
theorem walk (w : World) (a : Int) (ha : (Lit.int .u32 a).wf = true) (A : Option Addr) (len cap : Nat) (zs : List Int) (hl : IntsAt .u8 w w.heap.size A len zs) (hm : len ≤ maxLen) :
    Calls Try.prog 5 #[.int .u32 a, .slice A len cap] w fun e w' => e = .returned (.bool true) ∧ Fr (fun _ => False) w w' := by
  unfold maxLen at hm
  obtain ⟨ha0, ha1⟩ := wf_u32 ha
  clear ha
  have hT : ∃ T : Int, a % 2000 = T ∧ 0 ≤ T ∧ T < 2000 := ⟨_, rfl, by omega, by omega⟩
  obtain ⟨T, hT, hT0, hT1⟩ := hT
  have HT := Lib.hid hT
  clear hT
  go_enter Try.func5, Try.ntmps5
  go_wp2_with fail
  refine (Tm.new_any _).mono ?_
  rintro e w1 ⟨rfl, b1, f1⟩
  go_wp2_with fail
  rw [HT.out]
  refine (Tm.set_any _ _ _ _ b1).mono ?_
  rintro e w2 ⟨rfl, b2, f2⟩
  have fr := f1.trans f2 (by intro i hi e; omega)
  clear f1 f2 b1
  go_wp2_with fail
  go_loopw [6, 7, 8] (fun n t i wr => ∃ k : Nat, ∃ N told x : Int, k ≤ len ∧ k ≤ 300 ∧ i = .int .i64 k ∧ n = .int .u64 N ∧ t = .int .i64 told ∧ 0 ≤ N ∧ N ≤ 255 * k ∧ (told = 0 ∧ x = T ∧ (T = 0 ∨ N < T) ∨ told = 1 ∧ x = 0 ∧ 0 < T ∧ T ≤ N) ∧ Tm.Tmr wr w.heap.size x ∧ Fr (fun _ => False) w wr) (fun _ _ i _ => len - (intOf i).toNat)
  case atStart => exact ⟨0, 0, 0, T, Nat.zero_le _, Nat.zero_le _, rfl, rfl, rfl, by omega, by omega, .inl ⟨rfl, rfl, by omega⟩, b2, fr⟩
  case round =>
    obtain ⟨k, N, told, x, hk, hk3, rfl, rfl, rfl, hN0, hN1, hI, br, fr⟩ := hrel
    by_cases hlt : k < len ∧ k < 300
    · obtain ⟨h1, h2⟩ := hlt
      obtain ⟨b, off, rfl, hb, hc⟩ := (hl.fr fr (Nat.le_refl _) (fun _ _ e => e)).at_ h1
      obtain ⟨hz0, hz1⟩ := wf_u8 (hl.2.1 k h1)
      clear hl
      generalize zs.getD k 0 = z at *
      rcases hI with ⟨rfl, rfl, hI⟩ | ⟨rfl, rfl, hI1, hI2⟩
      · go_wp2_with fail
        refine (Tm.due_any _ _ _ _ br).mono ?_
        rintro e wr' ⟨rfl, br, f⟩
        have fr := fr.trans f (by intro i hi e; omega)
        clear f
        by_cases hd : x = 0 ∨ N + z < x
        · have hd2 : Tm.dueB x (N + z) = false := by simp [Tm.dueB]; omega
          have hd3 : Tm.dueAt x (N + z) = x := by simp [Tm.dueAt, hd2]
          rw [hd3] at br
          clear hd3
          go_wp2_with fail
          all_goals exact ⟨⟨k + 1, _, _, _, by omega, by omega, by go_num, rfl, rfl, by omega, by omega, .inl ⟨rfl, rfl, hd⟩, br, fr⟩, by simp [intOf]; omega⟩
        · have hd2 : Tm.dueB x (N + z) = true := by simp [Tm.dueB]; omega
          have hd3 : Tm.dueAt x (N + z) = 0 := by simp [Tm.dueAt, hd2]
          rw [hd3] at br
          clear hd3
          have hd4 : 0 < x ∧ x ≤ N + z ∧ N < x := by omega
          obtain ⟨hd4, hd5, hd6⟩ := hd4
          go_wp2_with fail
          all_goals exact ⟨⟨k + 1, _, _, _, by omega, by omega, by go_num, rfl, rfl, by omega, by omega, .inr ⟨rfl, rfl, hd4, hd5⟩, br, fr⟩, by simp [intOf]; omega⟩
      · go_wp2_with fail
        refine (Tm.due_zero _ _ _ br).mono ?_
        rintro e wr' ⟨rfl, rfl⟩
        go_wp2_with fail
        all_goals exact ⟨⟨k + 1, _, _, _, by omega, by omega, by go_num, rfl, rfl, by omega, by omega, .inr ⟨rfl, rfl, hI1, by omega⟩, br, fr⟩, by simp [intOf]; omega⟩
    · rcases hI with ⟨rfl, rfl, hI⟩ | ⟨rfl, rfl, hI1, hI2⟩
      · go_wp2_with fail
        all_goals
          refine (Tm.known_any _).mono ?_
          rintro e w6 ⟨rfl, f6⟩
          go_wp2_with fail
          go_ret
          exact ⟨rfl, fr.tr f6⟩
      · go_wp2_with fail
        all_goals
          refine (Tm.known_any _).mono ?_
          rintro e w6 ⟨rfl, f6⟩
          go_wp2_with fail
          go_ret
          exact ⟨rfl, fr.tr f6⟩
end Go.Proofs.Ytnlkcmjnohageaa.timerOnce
