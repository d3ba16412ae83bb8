/- irq: same, the statements' own look at a controller. -/
import Derived.Test.YthiephlfhbkcbaaDoorIrqLaws
namespace Go.Proofs.YthiephlfhbkcbaaDoor.Iq
open Go.RowKit
set_option linter.unusedVariables false

def lw (x k : Nat) : Nat := ((List.range 8).find? (fun j => decide (k ≤ j) && x.testBit j)).getD 0
def lb (x k : Nat) : Bool := ((List.range 8).find? (fun j => decide (k ≤ j) && x.testBit j)).isSome
theorem lw_at : ∀ x, x < 256 → ∀ k, k < 8 → x / 2 ^ k % 2 = 1 → lw x k = k ∧ lb x k = true := by decide +kernel
theorem lw_up : ∀ x, x < 256 → ∀ k, k < 8 → x / 2 ^ k % 2 ≠ 1 → lw x k = lw x (k + 1) ∧ lb x k = lb x (k + 1) := by decide +kernel
theorem lw_8 : ∀ x, x < 256 → lw x 8 = 0 ∧ lb x 8 = false := by decide +kernel
theorem lw_0 : ∀ x, x < 256 → low x = lw x 0 ∧ (x != 0) = lb x 0 := by decide +kernel

end Go.Proofs.YthiephlfhbkcbaaDoor.Iq
