/- irq: same, the statements' own look at a controller. -/
import Derived.Test.YtnlkcmjnohageaaDoorIrqLaws
namespace Go.Proofs.YtnlkcmjnohageaaDoor.Iq
open Go.RowKit
set_option linter.unusedVariables false

def lw (x k : Nat) : Nat := ((List.range 8).find? (fun j => decide (k ≤ j) && x.testBit j)).getD 0
def lb (x k : Nat) : Bool := ((List.range 8).find? (fun j => decide (k ≤ j) && x.testBit j)).isSome
theorem lw_at : ∀ x, x < 256 → ∀ k, k < 8 → x / 2 ^ k % 2 = 1 → lw x k = k ∧ lb x k = true := by decide +kernel
theorem lw_up : ∀ x, x < 256 → ∀ k, k < 8 → x / 2 ^ k % 2 ≠ 1 → lw x k = lw x (k + 1) ∧ lb x k = lb x (k + 1) := by decide +kernel
theorem lw_8 : ∀ x, x < 256 → lw x 8 = 0 ∧ lb x 8 = false := by decide +kernel
theorem lw_0 : ∀ x, x < 256 → low x = lw x 0 ∧ (x != 0) = lb x 0 := by decide +kernel

set_option maxRecDepth 100000 in
set_option maxHeartbeats 1000000 in
theorem same_any (w : World) (g p m : Nat) (hT : Tab w) (h : Ctl w g p m) (hp : p < 256) (hm : m < 256) :
    Calls Tryd.prog 17 #[.pointer (some ⟨g, 0, none⟩), .int .u32 (p : Int), .int .u32 (m : Int)] w fun e w' => e = .returned (.bool true) ∧ Ctl w' g p m ∧ Fr (fun _ => False) w w' := by
  have hx : p &&& m < 256 := Nat.lt_of_le_of_lt Nat.and_le_left hp
  have hand : bits .and .u32 (p : Int) (m : Int) = ((p &&& m : Nat) : Int) := u32_and_nat p m (by omega) (by omega)
  have hN : nextN p m = lw (p &&& m) 0 := (lw_0 _ hx).1
  have hB : nextB p m = lb (p &&& m) 0 := (lw_0 _ hx).2
  generalize p &&& m = x at *
  go_enter Tryd.func17, Tryd.ntmps17
  go_wp2_with fail
  have h8 := lw_8 x hx
  go_loop [7, 8, 9] (fun wa ok i => ∃ k : Nat, k ≤ 8 ∧ i = .int .i64 ((k : Int) - 1) ∧ wa = .int .i64 (lw x k : Int) ∧ ok = .bool (lb x k)) (fun _ _ i => (intOf i + 1).toNat)
  case atStart => exact ⟨8, by omega, rfl, by rw [h8.1]; rfl, by rw [h8.2]⟩
  case round =>
    clear h8
    obtain ⟨k, hk, rfl, rfl, rfl⟩ := hrel
    by_cases hk0 : k = 0
    · subst hk0
      rw [show ((0 : Nat) : Int) - 1 = -1 from rfl]
      have HN := Lib.hid hN
      have HB := Lib.hid hB
      clear hN hB
      go_wp2_with fail
      refine (next_any _ _ _ _ hT h (by omega) hm).mono ?_
      rw [HN.out, HB.out]
      rintro e w4 ⟨rfl, b4, f4⟩
      go_wp2_with fail
      refine (pending_any _ _ _ _ b4).mono ?_
      rintro e w5 ⟨rfl, rfl⟩
      go_wp2_with fail
      refine (mask_any _ _ _ _ b4).mono ?_
      rintro e w5 ⟨rfl, rfl⟩
      go_wp2_with fail
      go_ret
      exact ⟨rfl, b4, f4⟩
    · obtain ⟨q, rfl⟩ : ∃ q, k = q + 1 := ⟨k - 1, by omega⟩
      have eq : ((q + 1 : Nat) : Int) - 1 = (q : Int) := by omega
      rw [eq]
      clear eq hk0
      have hb : bits .and .u32 ((x : Int) / (2 : Int) ^ q) 1 = ((x / 2 ^ q % 2 : Nat) : Int) := by
        have e : (x : Int) / (2 : Int) ^ q = ((x / 2 ^ q : Nat) : Int) := by rw [Int.natCast_ediv]; simp
        rw [e, ← nat_mask1]
        exact u32_and_nat _ 1 (Nat.lt_of_le_of_lt (Nat.div_le_self _ _) (by omega)) (by omega)
      by_cases hbit : x / 2 ^ q % 2 = 1
      · obtain ⟨s1, s2⟩ := lw_at x hx q (by omega) hbit
        have ht : (bits .and .u32 ((x : Int) / (2 : Int) ^ q) 1 == 1) = true := by rw [hb, hbit]; rfl
        have S1 := Lib.hid s1
        have S2 := Lib.hid s2
        clear hb hbit s1 s2
        go_wp2_with fail
        exact ⟨⟨q, by omega, rfl, by rw [S1.out], by rw [S2.out]⟩, by simp [intOf]⟩
      · obtain ⟨s1, s2⟩ := lw_up x hx q (by omega) hbit
        have ht : (bits .and .u32 ((x : Int) / (2 : Int) ^ q) 1 == 1) = false := beq_eq_false_iff_ne.2 (by rw [hb]; intro e; omega)
        have S1 := Lib.hid s1
        have S2 := Lib.hid s2
        clear hb hbit s1 s2
        go_wp2_with fail
        exact ⟨⟨q, by omega, rfl, by rw [S1.out], by rw [S2.out]⟩, by simp [intOf]⟩
end Go.Proofs.YtnlkcmjnohageaaDoor.Iq
