/- The host's memory, VI: slices.Contains at ints; Give. -/
import Derived.Test.YthiephlfhbkcbaaDoorFramesE
namespace Go.Proofs.YthiephlfhbkcbaaDoor.Fm
open Go.RowKit
set_option linter.unusedVariables false
set_option maxHeartbeats 4000000

/-- where a number stands first; -1: nowhere -/
def ixOf (l : List Int) (x : Int) (n : Nat) : Int := match l.findIdx? (· == x) with
  | some k => (k : Int)
  | none => -1
def hasI (l : List Int) (x : Int) : Bool := l.any (· == x)
theorem has_ix (l : List Int) (x : Int) (n : Nat) : decide (0 ≤ ixOf l x n) = hasI l x := by
  unfold ixOf hasI
  cases h : l.findIdx? (· == x) with
  | none =>
    rw [List.findIdx?_eq_none_iff] at h
    have : l.any (· == x) = false := by
      rw [List.any_eq_false]
      intro y hy
      simpa using h y hy
    rw [this]; rfl
  | some k =>
    have hk := List.findIdx?_eq_some_iff_getElem.1 h
    obtain ⟨hl, hp, _⟩ := hk
    have : l.any (· == x) = true := List.any_eq_true.2 ⟨_, List.getElem_mem hl, hp⟩
    rw [this]; simp
end Go.Proofs.YthiephlfhbkcbaaDoor.Fm
