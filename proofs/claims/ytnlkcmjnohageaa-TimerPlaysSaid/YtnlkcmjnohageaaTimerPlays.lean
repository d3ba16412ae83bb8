/- TimerPlays: the walk. -/
import Derived.Test.YtnlkcmjnohageaaTimer
import Derived.LoopTactic
import Derived.Deep.LoopGhost
namespace Go.Proofs.Ytnlkcmjnohageaa.timerPlays
open Go.RowKit
set_option linter.unusedVariables false

set_option maxHeartbeats 2000000 in
theorem walk (w : World) (A : Option Addr) (len cap : Nat) (zs : List Int) (hl : IntsAt .u32 w w.heap.size A len zs) (hm : len ≤ maxLen)
    (A2 : Option Addr) (len2 cap2 : Nat) (zs2 : List Int) (hl2 : IntsAt .u64 w w.heap.size A2 len2 zs2) (hm2 : len2 ≤ maxLen) :
    Calls Try.prog 4 #[.slice A len cap, .slice A2 len2 cap2] w fun e w' => e = .returned (.bool true) ∧ Fr (fun _ => False) w w' := by
  unfold maxLen at hm hm2
  go_enter Try.func4, Try.ntmps4
  go_wp2_with fail
  refine (Tm.new_any _).mono ?_
  rintro e w1 ⟨rfl, b1, f1⟩
  go_wp2_with fail
  go_loopw [6, 7] (fun a i wr => ∃ k : Nat, ∃ x : Int, k ≤ len2 ∧ i = .int .i64 k ∧ a = .int .u32 x ∧ 0 ≤ x ∧ x ≤ 4294967295 ∧ Tm.Tmr wr w.heap.size x ∧ Fr (fun _ => False) w wr) (fun _ i _ => len2 - (intOf i).toNat)
  case atStart => exact ⟨0, 0, Nat.zero_le _, rfl, rfl, by omega, by omega, b1, f1⟩
  case round =>
    obtain ⟨k, x, hk, rfl, rfl, hx0, hx1, br, fr⟩ := hrel
    by_cases hlt : k < len2 ∧ k < 60
    · obtain ⟨h1, h2⟩ := hlt
      obtain ⟨b, off, rfl, hb, hc⟩ := (hl2.fr fr (Nat.le_refl _) (fun _ _ e => e)).at_ h1
      have hz := wf_u64 (hl2.2.1 k h1)
      obtain ⟨hz0, hz1⟩ := hz
      by_cases h3 : k < len
      · obtain ⟨b', off', rfl, hb', hc'⟩ := (hl.fr fr (Nat.le_refl _) (fun _ _ e => e)).at_ h3
        have hy := wf_u32 (hl.2.1 k h3)
        obtain ⟨hy0, hy1⟩ := hy
        clear hl hl2
        generalize zs.getD k 0 = y at *
        generalize zs2.getD k 0 = z at *
        go_wp2_with (first
          | (go_at_call 14; refine (Tm.set_any _ _ _ _ br).mono ?_; rintro e wr' ⟨rfl, br, f⟩; have hc := f.cell hc (Nat.lt_of_lt_of_le hb fr.size) (by show ¬ b = _; omega); have fr := fr.trans f (by intro i hi e; omega); clear f)
          | (go_at_call 13; refine (Tm.due_any _ _ _ _ br).mono ?_; rintro e wr' ⟨rfl, br, f⟩; have fr := fr.trans f (by intro i hi e; omega); clear f; rcases Tm.due3 br with ⟨hd1, hd2, br⟩ | ⟨hd1, hd2, hd3, br⟩ | ⟨hd1, hd2, hd3, br⟩)
          | (go_at_call 12; refine (Tm.at_any _ _ _ br).mono ?_; rintro e wr' ⟨rfl, rfl⟩))
        all_goals try subst x
        all_goals first
          | exact ⟨⟨k + 1, _, by omega, by go_num, rfl, by omega, by omega, br, fr⟩, by simp [intOf]; omega⟩
          | (exfalso; have hbad : (!decide (y ≤ z % 4294967296)) = true := by assumption
             simp at hbad; omega)
          | (exfalso; have hbad : (!decide (x ≤ z % 4294967296)) = true := by assumption
             simp at hbad; omega)
      · clear hl hl2
        generalize zs2.getD k 0 = z at *
        go_wp2_with (first
          | (go_at_call 14; refine (Tm.set_any _ _ _ _ br).mono ?_; rintro e wr' ⟨rfl, br, f⟩; have hc := f.cell hc (Nat.lt_of_lt_of_le hb fr.size) (by show ¬ b = _; omega); have fr := fr.trans f (by intro i hi e; omega); clear f)
          | (go_at_call 13; refine (Tm.due_any _ _ _ _ br).mono ?_; rintro e wr' ⟨rfl, br, f⟩; have fr := fr.trans f (by intro i hi e; omega); clear f; rcases Tm.due3 br with ⟨hd1, hd2, br⟩ | ⟨hd1, hd2, hd3, br⟩ | ⟨hd1, hd2, hd3, br⟩)
          | (go_at_call 12; refine (Tm.at_any _ _ _ br).mono ?_; rintro e wr' ⟨rfl, rfl⟩))
        all_goals try subst x
        all_goals first
          | exact ⟨⟨k + 1, _, by omega, by go_num, rfl, by omega, by omega, br, fr⟩, by simp [intOf]; omega⟩
          | (exfalso; have hbad : (!decide (x ≤ z % 4294967296)) = true := by assumption
             simp at hbad; omega)
    · go_wp2_with fail
      all_goals
        refine (Tm.known_any _).mono ?_
        rintro e w6 ⟨rfl, f6⟩
        go_wp2_with fail
        go_ret
        exact ⟨rfl, fr.tr f6⟩
end Go.Proofs.Ytnlkcmjnohageaa.timerPlays
