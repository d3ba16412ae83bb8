/- The buffer's bits, plain laws. -/
import Derived.Test.YtbooebeceopplaaTlbMore
import Derived.Test.YtbooebeceopplaaTlbFind
import Derived.Laws.BitsAllLaws
namespace Go.Proofs.Ytbooebeceopplaa.Tl
open Go.RowKit
set_option linter.unusedVariables false

theorem nat_keep (x a b : Nat) : ((x ||| a) ||| b) &&& (a ||| b) = a ||| b := by
  apply Nat.eq_of_testBit_eq
  intro i
  simp only [Nat.testBit_and, Nat.testBit_or]
  cases x.testBit i <;> cases a.testBit i <;> cases b.testBit i <;> rfl
theorem nat_keep1 (x a b : Nat) : ((x ||| a) ||| b) &&& a = a := by
  apply Nat.eq_of_testBit_eq
  intro i
  simp only [Nat.testBit_and, Nat.testBit_or]
  cases x.testBit i <;> cases a.testBit i <;> cases b.testBit i <;> rfl
theorem keeps_bits (b : Int) (s : Bool) (h0 : 0 ≤ b) (h1 : b ≤ 4294967295) : bits .and .u32 (bits .or .u32 (bits .or .u32 b 2) 16) (asks 2 s) = asks 2 s := by
  have hl : b.toNat < 2 ^ 32 := by omega
  have hl2 : b.toNat ||| 2 < 2 ^ 32 := Nat.or_lt_two_pow hl (by decide)
  have hl3 : (b.toNat ||| 2) ||| 16 < 2 ^ 32 := Nat.or_lt_two_pow hl2 (by decide)
  have e1 : bits .or .u32 b 2 = ((b.toNat ||| 2 : Nat) : Int) := by
    rw [u32_or b 2 h0 (by omega) (by omega) (by omega)]; rfl
  have e2 : bits .or .u32 ((b.toNat ||| 2 : Nat) : Int) 16 = (((b.toNat ||| 2) ||| 16 : Nat) : Int) := by
    have := u32_or_nat (b.toNat ||| 2) 16 (by omega) (by omega)
    exact this
  rw [e1, e2]
  cases s
  · have := u32_and_nat ((b.toNat ||| 2) ||| 16) 18 (by omega) (by omega)
    rw [show (18 : Nat) = 2 ||| 16 from rfl, nat_keep] at this
    exact this
  · have := u32_and_nat ((b.toNat ||| 2) ||| 16) 2 (by omega) (by omega)
    rw [nat_keep1] at this
    exact this

theorem nat_split (x a b : Nat) : (x &&& (a ||| b) = a ||| b) ↔ (x &&& a = a ∧ x &&& b = b) := by
  constructor
  · intro h
    constructor
    · apply Nat.eq_of_testBit_eq
      intro i
      have := congrArg (Nat.testBit · i) h
      simp only [Nat.testBit_and, Nat.testBit_or] at this ⊢
      revert this
      cases x.testBit i <;> cases a.testBit i <;> cases b.testBit i <;> simp
    · apply Nat.eq_of_testBit_eq
      intro i
      have := congrArg (Nat.testBit · i) h
      simp only [Nat.testBit_and, Nat.testBit_or] at this ⊢
      revert this
      cases x.testBit i <;> cases a.testBit i <;> cases b.testBit i <;> simp
  · rintro ⟨h1, h2⟩
    rw [Nat.and_or_distrib_left, h1, h2]
theorem and16 (x : Nat) : x &&& 16 = 0 ∨ x &&& 16 = 16 := by
  have h : x &&& 16 = (x.testBit 4).toNat * 16 := by
    apply Nat.eq_of_testBit_eq
    intro i
    rw [Nat.testBit_and, show (16 : Nat) = 2 ^ 4 from rfl, Nat.testBit_two_pow]
    by_cases e : 4 = i
    · subst e
      cases x.testBit 4
      · simp
      · rfl
    · rw [decide_eq_false e, Bool.and_false]
      cases x.testBit 4
      · simp
      · simp only [Bool.toNat_true, Nat.one_mul]; rw [Nat.testBit_two_pow, decide_eq_false e]
  rw [h]
  cases x.testBit 4 <;> simp
/-- a user finds what the system finds, if the page is a user's -/
theorem rights (b kd : Int) (h0 : 0 ≤ b) (h1 : b ≤ 4294967295) (hk : kd = 1 ∨ kd = 2 ∨ kd = 3) :
    (bits .and .u32 b (asks kd false) = asks kd false) ↔ (bits .and .u32 b (asks kd true) = asks kd true ∧ bits .and .u32 b 16 ≠ 0) := by
  have key : ∀ n : Nat, n < 4294967296 → n ||| 16 < 4294967296 → ((bits .and .u32 b ((n ||| 16 : Nat) : Int) = ((n ||| 16 : Nat) : Int)) ↔ (bits .and .u32 b (n : Int) = (n : Int) ∧ bits .and .u32 b 16 ≠ 0)) := by
    intro n hn hn2
    have e0 := u32_and_nat b.toNat (n ||| 16) (by omega) hn2
    have e1 := u32_and_nat b.toNat n (by omega) hn
    have e2 := u32_and_nat b.toNat 16 (by omega) (by omega)
    rw [show ((b.toNat : Nat) : Int) = b by omega] at e0 e1 e2
    rw [e0, e1, show ((16 : Int)) = ((16 : Nat) : Int) from rfl, e2]
    have := nat_split b.toNat n 16
    rcases and16 b.toNat with h | h
    · rw [h] at this ⊢
      constructor
      · intro hh; exact absurd (this.1 (by exact_mod_cast hh)).2 (by omega)
      · rintro ⟨_, hh⟩; exact absurd rfl hh
    · rw [h] at this ⊢
      constructor
      · intro hh; exact ⟨by exact_mod_cast (this.1 (by exact_mod_cast hh)).1, by omega⟩
      · rintro ⟨hh, _⟩; exact_mod_cast this.2 ⟨by exact_mod_cast hh, rfl⟩
  rcases hk with rfl | rfl | rfl
  · exact key 8 (by omega) (by decide)
  · exact key 2 (by omega) (by decide)
  · exact key 68 (by omega) (by decide)
theorem cnt_pos (l : Nat → Ent) (k : Nat) : ∀ n, k < n → (l k).v = true → 1 ≤ cnt l n := by
  intro n
  induction n with
  | zero => intro h; omega
  | succ n ih =>
    intro h hv
    simp only [cnt]
    by_cases e : k = n
    · subst e; simp [hv]
    · have := ih (by omega) hv
      omega
theorem cnt_zero (n : Nat) : cnt (fun _ => noE) n = 0 := by
  induction n with
  | zero => rfl
  | succ n ih => simp only [cnt, ih]; rfl
theorem cnt_upd (l : Nat → Ent) (k : Nat) (e : Ent) : ∀ n, k < n → cnt (upd l k e) n + (if (l k).v then 1 else 0) = cnt l n + (if e.v then 1 else 0) := by
  intro n
  have low : ∀ m, m ≤ k → cnt (upd l k e) m = cnt l m := by
    intro m
    induction m with
    | zero => intro _; rfl
    | succ m ih => intro h; simp only [cnt]; rw [ih (by omega), upd_other l e (by omega)]
  induction n with
  | zero => intro h; omega
  | succ n ih =>
    intro h
    simp only [cnt]
    by_cases e1 : k = n
    · subst e1
      rw [low k (Nat.le_refl _), upd_same]
      omega
    · have := ih (by omega)
      rw [upd_other l e (by omega)]
      omega
end Go.Proofs.Ytbooebeceopplaa.Tl
