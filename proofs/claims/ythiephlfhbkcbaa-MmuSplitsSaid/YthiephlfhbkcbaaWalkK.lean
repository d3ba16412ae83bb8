/- The statements of layer 8: known. -/
import Derived.Test.YthiephlfhbkcbaaWalkB
import Derived.Test.YthiephlfhbkcbaaWalkD
namespace Go.Proofs.Ythiephlfhbkcbaa.Wk
open Go.RowKit Fm Nt Rm By
set_option linter.unusedVariables false
set_option maxHeartbeats 8000000

def L8 (k : Nat) : Pt := if k = 0 then ⟨0, 1, 257⟩ else ⟨16, 2, 259⟩
theorem wrd_wby (m : Ms) (i : Nat) (v : Int) (h0 : 0 ≤ v) (h1 : v ≤ 4294967295) : wrd (m.puts i (wby v) 4) i 4 = v := by
  show (((0 * 256 + (m.puts i (wby v) 4).mem (i + 3)) * 256 + (m.puts i (wby v) 4).mem (i + 2)) * 256 + (m.puts i (wby v) 4).mem (i + 1)) * 256 + (m.puts i (wby v) 4).mem (i + 0) = v
  rw [puts_mem, puts_mem, puts_mem, puts_mem, if_pos (by omega), if_pos (by omega), if_pos (by omega), if_pos (by omega)]
  rw [show i + 3 - i = 3 by omega, show i + 2 - i = 2 by omega, show i + 1 - i = 1 by omega, show i + 0 - i = 0 by omega]
  show (((0 * 256 + v / 16777216 % 256) * 256 + v / 65536 % 256) * 256 + v / 256 % 256) * 256 + v % 256 = v
  omega
theorem wrd_bytes (m : Ms) (i : Nat) : wrd m i 4 = ((m.mem (i + 3) * 256 + m.mem (i + 2)) * 256 + m.mem (i + 1)) * 256 + m.mem i := by
  show (((0 * 256 + m.mem (i + 3)) * 256 + m.mem (i + 2)) * 256 + m.mem (i + 1)) * 256 + m.mem (i + 0) = _
  simp
/-- the memory that the statements' own runs have -/
def m8 : Ms := Ms.init 8 (lst (tabZ L8 2) 512)
theorem m8_n : m8.n = 8 := init_n _ _
theorem mz_mem (z : Nat → Int) (N n : Nat) (hN : N ≤ n * 64) (i : Nat) (h : i < N) : (Ms.init n (lst z N)).mem i = z i := by
  rw [init_mem _ _ (by rw [lst_len]; exact hN), lst_len, if_pos h, lst_at _ h]
theorem m8_mem (i : Nat) (h : i < 512) : m8.mem i = tabZ L8 2 i := mz_mem _ 512 8 (by omega) i h
theorem m8_w (i : Nat) (h : i + 4 ≤ 512) : wrdV m8 (i : Int) = ((tabZ L8 2 (i + 3) * 256 + tabZ L8 2 (i + 2)) * 256 + tabZ L8 2 (i + 1)) * 256 + tabZ L8 2 i := by
  have hb : inB m8 (i : Int) 4 = true := by rw [inB, m8_n]; simp; omega
  rw [wrdV, hb, if_pos rfl, show (i : Int).toNat = i from rfl]
  rw [wrd_bytes, m8_mem _ (by omega), m8_mem _ (by omega), m8_mem _ (by omega), m8_mem _ (by omega)]
theorem m8_0 : wrdV m8 0 = 257 := by
  have := m8_w 0 (by omega)
  rw [show ((0 : Nat) : Int) = 0 from rfl] at this
  rw [this]
  decide
theorem m8_64 : wrdV m8 64 = 515 := by
  have := m8_w 64 (by omega)
  rw [show ((64 : Nat) : Int) = 64 from rfl] at this
  rw [this]
  decide
theorem k_A : lkA 0 5 = 0 := by decide
theorem k_B : lkB m8 0 5 = 64 := by rw [lkB, k_A, m8_0]; decide
theorem k_ok : lkOk m8 0 5 = true := by
  rw [lkOk, k_B, k_A, m8_0]
  simp [inB, m8_n]
theorem k_at : lkAt m8 0 5 = 64 := by rw [lkAt, k_ok, if_pos rfl, k_B]
theorem k_leaf : lkLeaf m8 0 5 = 515 := by rw [lkLeaf, k_ok, if_pos rfl, k_B, m8_64]
theorem k_now : now 2 515 = 547 := by decide
theorem k_do : doOk m8 0 5 2 true = true := by
  rw [doOk, k_ok, k_leaf]
  decide
theorem k_ms : doMs m8 0 5 2 = m8.putW 64 547 := by rw [doMs, k_leaf, k_at, k_now, if_neg (by decide)]
theorem k_w : wrdV (m8.putW 64 547) 64 = 547 ∧ inB (m8.putW 64 547) 64 4 = true := by
  have hb : inB m8 64 4 = true := by rw [inB, m8_n]; decide
  have e : m8.putW 64 547 = m8.puts 64 (wby 547) 4 := by rw [Ms.putW, hb, if_pos rfl]; rfl
  have hb2 : inB (m8.putW 64 547) 64 4 = true := by rw [e, inB, puts_n, m8_n]; decide
  refine ⟨?_, hb2⟩
  rw [wrdV, hb2, if_pos rfl, e]
  exact wrd_wby m8 64 547 (by omega) (by omega)
theorem k_no (m : Ms) : doOk m 0 16384 2 true = false := by
  rw [doOk, lkOk]
  simp
end Go.Proofs.Ythiephlfhbkcbaa.Wk
