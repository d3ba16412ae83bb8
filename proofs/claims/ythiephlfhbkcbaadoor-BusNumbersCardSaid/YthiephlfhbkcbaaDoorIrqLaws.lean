/- The irq statements: known, and plain facts on bits. -/
import Derived.Test.YthiephlfhbkcbaaDoorIrq
import Derived.Test.YthiephlfhbkcbaaDoorBook
namespace Go.Proofs.YthiephlfhbkcbaaDoor.Iq
open Go.RowKit
set_option linter.unusedVariables false

theorem testBit_not32 (x i : Nat) (h : x < 4294967296) : (4294967295 - x).testBit i = (decide (i < 32) && !x.testBit i) := by
  have e : 4294967295 - x = 2 ^ 32 - (x + 1) := by omega
  rw [e]
  exact Nat.testBit_two_pow_sub_succ h i
theorem keeps (j b : Nat) (hj : j < 8) (hb : b < 4294967296) : 2 ^ j &&& (4294967295 - (b &&& (4294967295 - 2 ^ j))) = 2 ^ j := by
  have hp : 2 ^ j < 4294967296 := Nat.lt_trans (Nat.pow_lt_pow_right (a := 2) (by omega) hj) (by omega)
  have hl : (b &&& (4294967295 - 2 ^ j)) < 4294967296 := Nat.lt_of_le_of_lt Nat.and_le_left hb
  apply Nat.eq_of_testBit_eq
  intro i
  rw [Nat.testBit_and, testBit_not32 _ _ hl, Nat.testBit_and, testBit_not32 _ _ hp, Nat.testBit_two_pow]
  by_cases h : j = i
  · subst h; simp; omega
  · simp [h]
theorem gone (j : Nat) (hj : j < 8) : 2 ^ j &&& (4294967295 - 2 ^ j) = 0 := by
  match j, hj with
  | 0, _ | 1, _ | 2, _ | 3, _ | 4, _ | 5, _ | 6, _ | 7, _ => rfl
theorem bit_of (j m : Nat) (hj : j < 8) : nextB (2 ^ j) (m % 256) = (m / 2 ^ j % 2 == 1) := by
  unfold nextB
  rw [Nat.and_comm, nat_bit]
  have hp : 0 < 2 ^ j := Nat.two_pow_pos j
  have e : m % 256 / 2 ^ j % 2 = m / 2 ^ j % 2 := by
    match j, hj with
    | 0, _ | 1, _ | 2, _ | 3, _ | 4, _ | 5, _ | 6, _ | 7, _ => omega
  rw [e]
  rcases Nat.mod_two_eq_zero_or_one (m / 2 ^ j) with h | h <;> rw [h] <;> simp
theorem pw_of (q : Nat) (h : q < 8) : (2 : Int) ^ q % 4294967296 = ((2 ^ q : Nat) : Int) := by
  match q, h with
  | 0, _ | 1, _ | 2, _ | 3, _ | 4, _ | 5, _ | 6, _ | 7, _ => rfl
theorem facts (j : Nat) (hj : j < 8) : okAll [(j : Int)] = true ∧ okAll [(j : Int), (j : Int)] = true ∧ raised [(j : Int)] 0 = 2 ^ j ∧ raised [(j : Int), (j : Int)] (2 ^ j) = 2 ^ j ∧ nextN (2 ^ j) 255 = j ∧ nextB (2 ^ j) 255 = true ∧ nextB 0 255 = false := by
  match j, hj with
  | 0, _ | 1, _ | 2, _ | 3, _ | 4, _ | 5, _ | 6, _ | 7, _ => decide
def tk (x L : Nat) : Nat := x % 2 ^ L
def lft (x L : Nat) : Nat := x / 2 ^ L * 2 ^ L
def b2 (n : Nat) : Nat := 2 ^ n
/-- one step of taking: x: what waits and is let by; L: the lines below it are done -/
theorem step_low : ∀ x, x < 256 → ∀ L, L ≤ 8 → lft x L ≠ 0 → L ≤ low (lft x L) ∧ low (lft x L) < 8 ∧ (tk x L ||| b2 (low (lft x L))) = tk x (low (lft x L) + 1) := by decide +kernel
theorem rest_of : ∀ x, x < 256 → ∀ L, L ≤ 8 → x &&& (4294967295 - tk x L) = lft x L := by decide +kernel
theorem two_not : ∀ T, T < 256 → ∀ n, n < 8 → (4294967295 - T) &&& (4294967295 - b2 n) = 4294967295 - (T ||| b2 n) := by decide +kernel
theorem waits (a m L : Nat) (ha : a < 256) (hL : L ≤ 8) : (a &&& (4294967295 - tk (a &&& m) L)) &&& m = lft (a &&& m) L := by
  rw [← rest_of (a &&& m) (Nat.lt_of_le_of_lt Nat.and_le_left ha) L hL, Nat.and_assoc, Nat.and_comm _ m, ← Nat.and_assoc]
theorem taken_all : ∀ x, x < 256 → ∀ L, L ≤ 8 → (lft x L = 0 ∨ L = 8) → tk x L = x ∧ lft x L = 0 := by decide +kernel
theorem tk_lt : ∀ x, x < 256 → ∀ L, L ≤ 8 → tk x L < 256 := by decide +kernel
theorem b2_lt : ∀ n, n < 8 → b2 n < 256 := by decide +kernel
theorem pw_b2 (q : Nat) (h : q < 8) : (2 : Int) ^ q % 4294967296 = (b2 q : Int) := pw_of q h
theorem tk_zero (x : Nat) : tk x 0 = 0 := Nat.mod_one x
theorem and256 (a m : Nat) (ha : a < 256) : (a &&& m) % 256 = a &&& (m % 256) := by
  have h := Nat.and_mod_two_pow (a := a) (b := m) (n := 8)
  rw [show (2 : Nat) ^ 8 = 256 from rfl] at h
  rw [h, Nat.mod_eq_of_lt ha]
end Go.Proofs.YthiephlfhbkcbaaDoor.Iq
