/- A walk of the tables: entry, Look, Fault, Bits. -/
import Derived.Test.YthiephlfhbkcbaaRamE
import Derived.Test.YthiephlfhbkcbaaBytesW
namespace Go.Proofs.Ythiephlfhbkcbaa.Wk
open Go.RowKit Fm Nt Rm By
set_option linter.unusedVariables false
set_option maxHeartbeats 4000000

theorem andN (a b : Nat) (ha : a < 4294967296) (hb : b < 4294967296) : bits .and .u32 (a : Int) (b : Int) = ((a &&& b : Nat) : Int) := u32_and_nat a b ha hb
theorem and15 (x : Int) (h0 : 0 ≤ x) (h1 : x ≤ 4294967295) : bits .and .u32 x 15 = x % 16 := by
  obtain ⟨a, rfl⟩ : ∃ a : Nat, x = a := ⟨x.toNat, by omega⟩
  have := andN a 15 (by omega) (by omega)
  rw [show a &&& 15 = a % 16 from Nat.and_two_pow_sub_one_eq_mod a 4] at this
  rw [show ((15 : Nat) : Int) = 15 from rfl] at this
  rw [this]
  omega
theorem and1 (x : Int) (h0 : 0 ≤ x) (h1 : x ≤ 4294967295) : bits .and .u32 x 1 = x % 2 := by
  obtain ⟨a, rfl⟩ : ∃ a : Nat, x = a := ⟨x.toNat, by omega⟩
  have := andN a 1 (by omega) (by omega)
  rw [show a &&& 1 = a % 2 from Nat.and_two_pow_sub_one_eq_mod a 1] at this
  rw [show ((1 : Nat) : Int) = 1 from rfl] at this
  rw [this]
  omega
theorem nat63 (b : Nat) (hb : b < 4294967296) : b &&& (4294967295 - 63) = b / 64 * 64 := by
  apply Nat.eq_of_testBit_eq
  intro i
  rw [Nat.testBit_and, show (64 : Nat) = 2 ^ 6 from rfl, Nat.testBit_mul_two_pow, Nat.testBit_div_two_pow, show 4294967295 - 63 = (2 ^ 26 - 1) * 2 ^ 6 from rfl, Nat.testBit_mul_two_pow, Nat.testBit_two_pow_sub_one]
  by_cases h : 6 ≤ i
  · by_cases h2 : i - 6 < 26
    · simp [h, h2, show i - 6 + 6 = i by omega]
    · have : b.testBit i = false := Nat.testBit_lt_two_pow (Nat.lt_of_lt_of_le hb (by
        have : 2 ^ 32 ≤ 2 ^ i := Nat.pow_le_pow_right (by omega) (by omega)
        omega))
      simp [h, h2, this, show i - 6 + 6 = i by omega]
  · simp [h]
theorem not63 (x : Int) (h0 : 0 ≤ x) (h1 : x ≤ 4294967295) : bits .andNot .u32 x 63 = x / 64 * 64 := by
  obtain ⟨a, rfl⟩ : ∃ a : Nat, x = a := ⟨x.toNat, by omega⟩
  have := u32_andNot_nat a 63 (by omega) (by omega)
  rw [nat63 a (by omega)] at this
  rw [show ((63 : Nat) : Int) = 63 from rfl] at this
  rw [this]
  omega
/-- a word is a word -/
theorem wrdV_bd {w : World} {a : Am} {m : Ms} (h : Mem w a m) (at_ : Int) (h0 : 0 ≤ at_) : 0 ≤ wrdV m at_ ∧ wrdV m at_ ≤ 4294967295 := by
  unfold wrdV
  split
  · rename_i hb
    have hat : at_ + 4 ≤ (m.n : Int) * 64 := by simpa [inB] using hb
    obtain ⟨i, rfl⟩ : ∃ i : Nat, at_ = i := ⟨at_.toNat, by omega⟩
    rw [show (i : Int).toNat = i from rfl]
    have b0 := h.bd (i + 0) (by omega)
    have b1 := h.bd (i + 1) (by omega)
    have b2 := h.bd (i + 2) (by omega)
    have b3 := h.bd (i + 3) (by omega)
    show 0 ≤ (((0 * 256 + m.mem (i + 3)) * 256 + m.mem (i + 2)) * 256 + m.mem (i + 1)) * 256 + m.mem (i + 0) ∧ (((0 * 256 + m.mem (i + 3)) * 256 + m.mem (i + 2)) * 256 + m.mem (i + 1)) * 256 + m.mem (i + 0) ≤ 4294967295
    omega
  · omega
theorem entry_any (w : World) (a : Am) (m : Ms) (h : Mem w a m) (at_ : Int) (h0 : 0 ≤ at_) (h1 : at_ ≤ 1099511627776) :
    Calls Try.prog 119 #[.pointer (some ⟨a.gm, 0, none⟩), .int .u64 at_] w fun e w' => e = .returned (.tuple #[.int .u32 (wrdV m at_), .bool (inB m at_ 4)]) ∧ w = w' := by
  have hn := h.n0
  have hs := Lib.hid (size_any w a m h)
  by_cases hb : at_ ≤ (m.n : Int) * 64
  · have hw := Lib.hid (word_any w a m h at_ h0 (by omega))
    have q : ¬ (m.n : Int) * 64 < at_ := by omega
    have c1 : IntKind.u32.wrap at_ = at_ := IntWalk.u32_in _ (by omega)
    go_enter Try.func119, Try.ntmps119
    go_wp2_with fail
    refine (hs.out).mono ?_
    rintro e w' ⟨rfl, rfl⟩
    go_wp2_with fail
    refine (hw.out).mono ?_
    rintro e w' ⟨rfl, rfl⟩
    go_wp2_with fail
    go_ret2
    exact ⟨rfl, rfl⟩
  · have q : (m.n : Int) * 64 < at_ := by omega
    have e1 : inB m at_ 4 = false := by simp [inB]; omega
    have e2 : wrdV m at_ = 0 := by rw [wrdV, e1]; rfl
    rw [e1, e2]
    go_enter Try.func119, Try.ntmps119
    go_wp2_with fail
    refine (hs.out).mono ?_
    rintro e w' ⟨rfl, rfl⟩
    go_wp2_with fail
    go_ret2
    exact ⟨rfl, rfl⟩
/-- where the first entry lies, what it says, where the second lies -/
def lkA (root va : Int) : Int := root / 64 * 64 + 4 * (va / 1024 % 16)
def lkB (m : Ms) (root va : Int) : Int := wrdV m (lkA root va) / 256 * 64 + 4 * (va / 64 % 16)
def lkOk (m : Ms) (root va : Int) : Bool := decide (va < 16384) && (inB m (lkA root va) 4 && (decide (wrdV m (lkA root va) % 2 = 1) && inB m (lkB m root va) 4))
def lkAt (m : Ms) (root va : Int) : Int := if lkOk m root va then lkB m root va else 0
def lkLeaf (m : Ms) (root va : Int) : Int := if lkOk m root va then wrdV m (lkB m root va) else 0
set_option maxRecDepth 100000 in
theorem look_any (w : World) (a : Am) (m : Ms) (h : Mem w a m) (root va : Int) (r0 : 0 ≤ root) (r1 : root ≤ 4294967295) (v0 : 0 ≤ va) (v1 : va ≤ 4294967295) :
    Calls Try.prog 112 #[.pointer (some ⟨a.gm, 0, none⟩), .int .u32 root, .int .u32 va] w fun e w' => e = .returned (.tuple #[.int .u32 (lkAt m root va), .int .u32 (lkLeaf m root va), .bool (lkOk m root va)]) ∧ w = w' := by
  have hn := h.n0
  by_cases hv : va < 16384
  · have x1 : bits .andNot .u32 root 63 = root / 64 * 64 := not63 root r0 r1
    have x2 : bits .and .u32 (va / 1024) 15 = va / 1024 % 16 := and15 _ (by omega) (by omega)
    have x3 : bits .and .u32 (va / 64) 15 = va / 64 % 16 := and15 _ (by omega) (by omega)
    have hA0 : 0 ≤ lkA root va := by unfold lkA; omega
    have hA1 : lkA root va ≤ 4294967355 := by unfold lkA; omega
    have he1 := entry_any w a m h (lkA root va) hA0 (by omega)
    have hb1 := wrdV_bd h (lkA root va) hA0
    have hv' : ¬ 16384 ≤ va := by omega
    have y1 : IntKind.u64.wrap (root / 64 * 64 + 4 * (va / 1024 % 16)) = root / 64 * 64 + 4 * (va / 1024 % 16) := IntWalk.u64_in _ (by omega)
    cases hi1 : inB m (lkA root va) 4
    · have eo : lkOk m root va = false := by simp [lkOk, hi1]
      have ea : lkAt m root va = 0 := by rw [lkAt, eo]; rfl
      have el : lkLeaf m root va = 0 := by rw [lkLeaf, eo]; rfl
      rw [eo, ea, el]
      rw [hi1] at he1
      unfold lkA at he1
      have He1 := Lib.hid he1
      clear he1 eo ea el hA0 hA1 hb1 hi1
      go_enter Try.func112, Try.ntmps112
      go_wp2_with fail
      refine (He1.out).mono ?_
      rintro e w' ⟨rfl, rfl⟩
      go_wp2_with fail
      go_ret3
      exact ⟨rfl, rfl⟩
    · rw [hi1] at he1
      obtain ⟨e1, he⟩ : ∃ q, q = wrdV m (lkA root va) := ⟨_, rfl⟩
      have hB : lkB m root va = e1 / 256 * 64 + 4 * (va / 64 % 16) := by rw [lkB, he]
      rw [← he] at he1 hb1
      obtain ⟨z0, z1⟩ := hb1
      have x4 : bits .and .u32 e1 1 = e1 % 2 := and1 e1 z0 z1
      have hB0 : 0 ≤ lkB m root va := by rw [hB]; omega
      have he2 := entry_any w a m h (lkB m root va) hB0 (by rw [hB]; omega)
      by_cases ho : e1 % 2 = 1
      · have xo : (e1 % 2 == 0) = false := by simp; omega
        have y2 : IntKind.u64.wrap (e1 / 256 * 64) = e1 / 256 * 64 := IntWalk.u64_in _ (by omega)
        have y3 : IntKind.u64.wrap (e1 / 256 * 64 + 4 * (va / 64 % 16)) = e1 / 256 * 64 + 4 * (va / 64 % 16) := IntWalk.u64_in _ (by omega)
        cases hi2 : inB m (lkB m root va) 4
        · have eo : lkOk m root va = false := by simp [lkOk, hi2]
          have ea : lkAt m root va = 0 := by rw [lkAt, eo]; rfl
          have el : lkLeaf m root va = 0 := by rw [lkLeaf, eo]; rfl
          rw [eo, ea, el]
          rw [hi2, hB] at he2
          unfold lkA at he1
          have He1 := Lib.hid he1
          have He2 := Lib.hid he2
          clear he1 he2 eo ea el hA0 hA1 hi1 hi2 hB hB0 he ho
          go_enter Try.func112, Try.ntmps112
          go_wp2_with fail
          refine (He1.out).mono ?_
          rintro e w' ⟨rfl, rfl⟩
          go_wp2_with fail
          refine (He2.out).mono ?_
          rintro e w' ⟨rfl, rfl⟩
          go_wp2_with fail
          go_ret3
          exact ⟨rfl, rfl⟩
        · have eo : lkOk m root va = true := by simp [lkOk, hi1, hi2, hv, ← he, ho]
          have ea : lkAt m root va = e1 / 256 * 64 + 4 * (va / 64 % 16) := by rw [lkAt, eo, if_pos rfl, hB]
          have el : lkLeaf m root va = wrdV m (lkB m root va) := by rw [lkLeaf, eo, if_pos rfl]
          rw [eo, ea, el]
          have hin : lkB m root va + 4 ≤ (m.n : Int) * 64 := by simpa [inB] using hi2
          rw [hB] at hin
          have y4 : IntKind.u32.wrap (e1 / 256 * 64 + 4 * (va / 64 % 16)) = e1 / 256 * 64 + 4 * (va / 64 % 16) := IntWalk.u32_in _ (by omega)
          rw [hi2, hB] at he2
          rw [hB]
          unfold lkA at he1
          have He1 := Lib.hid he1
          have He2 := Lib.hid he2
          clear he1 he2 eo ea el hA0 hA1 hi1 hi2 hB hB0 he ho hin
          generalize wrdV m (e1 / 256 * 64 + 4 * (va / 64 % 16)) = lf at *
          go_enter Try.func112, Try.ntmps112
          go_wp2_with fail
          refine (He1.out).mono ?_
          rintro e w' ⟨rfl, rfl⟩
          go_wp2_with fail
          refine (He2.out).mono ?_
          rintro e w' ⟨rfl, rfl⟩
          go_wp2_with fail
          go_ret3
          exact ⟨rfl, rfl⟩
      · have xo : (e1 % 2 == 0) = true := by simp; omega
        have eo : lkOk m root va = false := by simp [lkOk, ← he, ho]
        have ea : lkAt m root va = 0 := by rw [lkAt, eo]; rfl
        have el : lkLeaf m root va = 0 := by rw [lkLeaf, eo]; rfl
        rw [eo, ea, el]
        unfold lkA at he1
        have He1 := Lib.hid he1
        clear he1 he2 eo ea el hA0 hA1 hi1 hB hB0 he ho
        go_enter Try.func112, Try.ntmps112
        go_wp2_with fail
        refine (He1.out).mono ?_
        rintro e w' ⟨rfl, rfl⟩
        go_wp2_with fail
        go_ret3
        exact ⟨rfl, rfl⟩
  · have eo : lkOk m root va = false := by simp [lkOk, hv]
    have ea : lkAt m root va = 0 := by rw [lkAt, eo]; rfl
    have el : lkLeaf m root va = 0 := by rw [lkLeaf, eo]; rfl
    rw [eo, ea, el]
    have hv' : 16384 ≤ va := by omega
    clear eo ea el hv
    go_enter Try.func112, Try.ntmps112
    go_wp2_with fail
    go_ret3
    exact ⟨rfl, rfl⟩
end Go.Proofs.Ythiephlfhbkcbaa.Wk
