/- The host's memory, VI: slices.Contains at ints; Give. -/
import Derived.Test.YtijhbhhcaicdfaaFramesE
namespace Go.Proofs.Ytijhbhhcaicdfaa.Fm
open Go.RowKit
set_option linter.unusedVariables false
set_option maxHeartbeats 4000000

/-- where a number stands first; -1: nowhere -/
def ixOf (l : List Int) (x : Int) (n : Nat) : Int := match l.findIdx? (· == x) with
  | some k => (k : Int)
  | none => -1
theorem index_any (w : World) (B n c : Nat) (A : Option Addr) (zs : List Int) (x : Int) (h : IntsAt .i64 w B A n zs) (hm : n ≤ maxLen) :
    Calls Try.prog 62 #[.slice A n c, .int .i64 x] w fun e w' => e = .returned (.int .i64 (ixOf zs x n)) ∧ w = w' := by
  unfold maxLen at hm
  have hlen := Lib.hid h.1
  go_enter Try.func62, Try.ntmps62
  go_wp2_with fail
  go_loop [8] (fun i => ∃ k : Nat, k ≤ n ∧ i = .int .i64 k ∧ (Hid (∀ j, j < k → zs.getD j 0 ≠ x))) (fun i => n - (intOf i).toNat)
  case atStart => exact ⟨0, by omega, rfl, fun j hj => by omega⟩
  case round =>
    obtain ⟨k, hk, rfl, hno⟩ := hrel
    by_cases hlt : k < n
    · obtain ⟨b, off, rfl, hb, hc⟩ := h.at_ hlt
      by_cases hx : zs.getD k 0 = x
      · have e1 : ixOf zs x n = k := by
          have hl := hlen.out
          have : zs.findIdx? (· == x) = some k := by
            rw [List.findIdx?_eq_some_iff_getElem]
            refine ⟨by omega, by simpa [show k < zs.length by omega] using hx, fun j hj => ?_⟩
            have := hno.out j hj
            simpa [show j < zs.length by omega] using this
          simp [ixOf, this]
        have E1 := Lib.hid e1
        rw [hx] at hc
        clear e1 hx
        go_wp2_with fail
        go_ret
        exact ⟨by rw [E1.out]; rfl, rfl⟩
      · have hx' : (x == zs.getD k 0) = false := by
          simp only [beq_eq_false_iff_ne]
          exact fun e => hx e.symm
        have hno2 : Hid (∀ j, j < k + 1 → zs.getD j 0 ≠ x) := fun j hj => by
          by_cases e : j = k
          · rw [e]; exact hx
          · exact hno.out j (by omega)
        clear hx
        generalize zs.getD k 0 = z at *
        go_wp2_with fail
        go_round
        case rel => exact ⟨k + 1, by omega, by go_num, hno2⟩
        case measure => simp [intOf]; omega
    · have e : k = n := by omega
      subst e
      have e1 : ixOf zs x k = -1 := by
        have : zs.findIdx? (· == x) = none := by
          rw [List.findIdx?_eq_none_iff]
          intro y hy
          obtain ⟨j, hj, rfl⟩ := List.getElem_of_mem hy
          have hl := hlen.out
          have := hno.out j (by omega)
          simpa [hj] using this
        simp [ixOf, this]
      have E1 := Lib.hid e1
      clear e1
      go_wp2_with fail
      go_ret
      exact ⟨by rw [E1.out]; rfl, rfl⟩
def hasI (l : List Int) (x : Int) : Bool := l.any (· == x)
theorem has_ix (l : List Int) (x : Int) (n : Nat) : decide (0 ≤ ixOf l x n) = hasI l x := by
  unfold ixOf hasI
  cases h : l.findIdx? (· == x) with
  | none =>
    rw [List.findIdx?_eq_none_iff] at h
    have : l.any (· == x) = false := by
      rw [List.any_eq_false]
      intro y hy
      simpa using h y hy
    rw [this]; rfl
  | some k =>
    have hk := List.findIdx?_eq_some_iff_getElem.1 h
    obtain ⟨hl, hp, _⟩ := hk
    have : l.any (· == x) = true := List.any_eq_true.2 ⟨_, List.getElem_mem hl, hp⟩
    rw [this]; simp
theorem contains_any (w : World) (B n c : Nat) (A : Option Addr) (zs : List Int) (x : Int) (h : IntsAt .i64 w B A n zs) (hm : n ≤ maxLen) :
    Calls Try.prog 59 #[.slice A n c, .int .i64 x] w fun e w' => e = .returned (.bool (hasI zs x)) ∧ w = w' := by
  have hi := Lib.hid (index_any w B n c A zs x h hm)
  have hh := has_ix zs x n
  generalize ixOf zs x n = q at *
  rw [← hh]
  clear hh h
  go_enter Try.func59, Try.ntmps59
  go_wp2_with fail
  refine (hi.out).mono ?_
  rintro e w' ⟨rfl, rfl⟩
  go_wp2_with fail
  go_ret
  exact ⟨rfl, rfl⟩
end Go.Proofs.Ytijhbhhcaicdfaa.Fm
