/- TimerSets: the walk. -/
import Derived.Test.YtnlkcmjnohageaaTimer
import Derived.LoopTactic
import Derived.Deep.LoopGhost
namespace Go.Proofs.Ytnlkcmjnohageaa.timerSets
open Go.RowKit
set_option linter.unusedVariables false

theorem walk (w : World) (A : Option Addr) (len cap : Nat) (zs : List Int) (hl : IntsAt .u32 w w.heap.size A len zs) (hm : len ≤ maxLen) (n : Int) (hn : (Lit.int .u64 n).wf = true) :
    Calls Try.prog 6 #[.slice A len cap, .int .u64 n] w fun e w' => e = .returned (.bool true) ∧ Fr (fun _ => False) w w' := by
  unfold maxLen at hm
  obtain ⟨h0, hn9⟩ := wf_u64 hn
  clear hn
  go_enter Try.func6, Try.ntmps6
  go_wp2_with fail
  refine (Tm.new_any _).mono ?_
  rintro e w1 ⟨rfl, b1, f1⟩
  go_wp2_with fail
  go_loopw [6, 7] (fun a i wr => ∃ k : Nat, ∃ x : Int, k ≤ len ∧ i = .int .i64 k ∧ a = .int .u32 x ∧ Tm.Tmr wr w.heap.size x ∧ Fr (fun _ => False) w wr) (fun _ i _ => len - (intOf i).toNat)
  case atStart => exact ⟨0, 0, Nat.zero_le _, rfl, rfl, b1, f1⟩
  case round =>
    obtain ⟨k, x, hk, rfl, rfl, br, fr⟩ := hrel
    by_cases hlt : k < len ∧ k < 30
    · obtain ⟨h1, h2⟩ := hlt
      obtain ⟨b, off, rfl, hb, hc⟩ := (hl.fr fr (Nat.le_refl _) (fun _ _ e => e)).at_ h1
      go_wp2_with fail
      refine (Tm.set_any _ _ _ _ br).mono ?_
      rintro e w2 ⟨rfl, b2, f2⟩
      go_wp2_with fail
      refine (Tm.at_any _ _ _ b2).mono ?_
      rintro e w3 ⟨rfl, rfl⟩
      go_wp2_with fail
      go_roundw
      case rel => exact ⟨k + 1, _, by omega, by go_num, rfl, b2, fr.trans f2 (fun i hi e => by omega)⟩
      case measure => simp [intOf]; omega
    · have hcc : 0 ≤ n % 1099511627776 ∧ n % 1099511627776 < 1099511627776 := ⟨by omega, by omega⟩
      obtain ⟨hc1, hc2⟩ := hcc
      go_wp2_with fail
      all_goals
        refine (Tm.due_any _ _ _ _ br).mono ?_
        rintro e w2 ⟨rfl, b2, f2⟩
        by_cases hx : x = 0
        · subst hx
          have hd : Tm.dueB 0 (n % 1099511627776) = false := by simp [Tm.dueB]
          go_wp2_with fail
          refine (Tm.set_any _ _ _ _ b2).mono ?_
          rintro e w3 ⟨rfl, b3, f3⟩
          go_wp2_with fail
          refine (Tm.set_any _ _ _ _ b3).mono ?_
          rintro e w4 ⟨rfl, b4, f4⟩
          go_wp2_with fail
          refine (Tm.due_zero _ _ _ b4).mono ?_
          rintro e w5 ⟨rfl, rfl⟩
          go_wp2_with fail
          refine (Tm.due_zero _ _ _ b4).mono ?_
          rintro e w5 ⟨rfl, rfl⟩
          go_wp2_with fail
          refine (Tm.at_any _ _ _ b4).mono ?_
          rintro e w5 ⟨rfl, rfl⟩
          go_wp2_with fail
          refine (Tm.known_any _).mono ?_
          rintro e w6 ⟨rfl, f6⟩
          go_wp2_with fail
          go_ret
          exact ⟨rfl, (fr.trans ((f2.tr f3).tr f4) (fun i hi e => by omega)).tr f6⟩
        · have hx' : (x != 0) = true := by simpa using hx
          by_cases hy : x ≤ n % 4294967296
          all_goals
            first
            | have hd : Tm.dueB x (n % 1099511627776) = true := by simp [Tm.dueB]; omega
            | have hd : Tm.dueB x (n % 1099511627776) = false := by simp [Tm.dueB]; omega
            go_wp2_with fail
            refine (Tm.set_any _ _ _ _ b2).mono ?_
            rintro e w3 ⟨rfl, b3, f3⟩
            go_wp2_with fail
            refine (Tm.set_any _ _ _ _ b3).mono ?_
            rintro e w4 ⟨rfl, b4, f4⟩
            go_wp2_with fail
            refine (Tm.due_zero _ _ _ b4).mono ?_
            rintro e w5 ⟨rfl, rfl⟩
            go_wp2_with fail
            refine (Tm.due_zero _ _ _ b4).mono ?_
            rintro e w5 ⟨rfl, rfl⟩
            go_wp2_with fail
            refine (Tm.at_any _ _ _ b4).mono ?_
            rintro e w5 ⟨rfl, rfl⟩
            go_wp2_with fail
            refine (Tm.known_any _).mono ?_
            rintro e w6 ⟨rfl, f6⟩
            go_wp2_with fail
            go_ret
            exact ⟨rfl, (fr.trans ((f2.tr f3).tr f4) (fun i hi e => by omega)).tr f6⟩
end Go.Proofs.Ytnlkcmjnohageaa.timerSets
