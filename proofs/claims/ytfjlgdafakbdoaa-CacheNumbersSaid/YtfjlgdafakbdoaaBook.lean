/- The statements' own helpers (innkeeperbook, innkeeperkeep), each by a contract. -/
import Derived.Test.YtfjlgdafakbdoaaChecked
import Derived.Test.YtfjlgdafakbdoaaWords
import Derived.WalkKit
import Derived.Outline
import Derived.WalkSpells
import Derived.Handy
import Derived.LoopTactic
import Derived.Deep.LoopGhost
import Derived.Deep.QuietTactic
import Derived.BigQuiet
namespace Go.Proofs.Ytfjlgdafakbdoaa.Bk
open Go.RowKit
set_option linter.unusedVariables false

theorem within_any (w : World) (n lo hi : Int) (h0 : -9223372036854775808 ≤ n) (h1 : n ≤ 9223372036854775807) (hl0 : -1000000 ≤ lo) (hl1 : lo ≤ hi) (hh : hi ≤ 1000000) :
    Calls Try.prog 8 #[.int .i64 n, .int .i64 lo, .int .i64 hi] w fun e w' => e = .returned (.int .i64 (lo + n % (hi - lo + 1))) ∧ w = w' := by
  have hm : 0 < hi - lo + 1 := by omega
  by_cases hn : 0 ≤ n
  · have ht : n.tmod (hi - lo + 1) = n % (hi - lo + 1) := Int.tmod_eq_emod_of_nonneg hn
    have hb0 : 0 ≤ n % (hi - lo + 1) := Int.emod_nonneg _ (by omega)
    have hb1 : n % (hi - lo + 1) < hi - lo + 1 := Int.emod_lt_of_pos _ hm
    clear ht
    go_enter Try.func8, Try.ntmps8
    go_wp2
    go_ret
    exact ⟨rfl, rfl⟩
  · have ht : n.tmod (hi - lo + 1) = -((-n) % (hi - lo + 1)) := by
      have e : n = -(-n) := by omega
      rw [e, Int.neg_tmod, Int.tmod_eq_emod_of_nonneg (by omega)]
      simp
    have hb0 : 0 ≤ (-n) % (hi - lo + 1) := Int.emod_nonneg _ (by omega)
    have hb1 : (-n) % (hi - lo + 1) < hi - lo + 1 := Int.emod_lt_of_pos _ hm
    have hfin : (-n) % (hi - lo + 1) = 0 ∧ n % (hi - lo + 1) = 0 ∨ 0 < (-n) % (hi - lo + 1) ∧ n % (hi - lo + 1) = hi - lo + 1 - (-n) % (hi - lo + 1) := by
      have e1 := Int.mul_ediv_add_emod (-n) (hi - lo + 1)
      have e2 := Int.mul_ediv_add_emod n (hi - lo + 1)
      have e3 := Int.neg_emod (a := n) (b := hi - lo + 1)
      have e4 : ((hi - lo + 1).natAbs : Int) = hi - lo + 1 := by omega
      rw [e4] at e3
      by_cases hd : (hi - lo + 1) ∣ n
      · left
        rw [if_pos hd] at e3
        exact ⟨e3, Int.emod_eq_zero_of_dvd hd⟩
      · right
        rw [if_neg hd] at e3
        have := Int.emod_nonneg n (show hi - lo + 1 ≠ 0 by omega)
        have h5 := Int.emod_lt_of_pos n hm
        exact ⟨by omega, by omega⟩
    have Hfin := Lib.hid hfin
    clear hfin
    generalize hg : (-n) % (hi - lo + 1) = r at *
    clear hg
    by_cases hr : r = 0
    · subst hr
      go_enter Try.func8, Try.ntmps8
      go_wp2
      go_ret
      exact ⟨by have := Hfin.out; rw [show n % (hi - lo + 1) = 0 by omega]; simp, rfl⟩
    · have hr' : 0 < r := by omega
      have hneg : -r < 0 := by omega
      go_enter Try.func8, Try.ntmps8
      go_wp2
      go_ret
      exact ⟨by have := Hfin.out; rw [show n % (hi - lo + 1) = hi - lo + 1 - r by omega]; simp; omega, rfl⟩
end Go.Proofs.Ytfjlgdafakbdoaa.Bk
