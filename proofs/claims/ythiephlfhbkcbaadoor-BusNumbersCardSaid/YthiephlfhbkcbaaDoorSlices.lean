/- Cuts of slices of bytes. -/
import Derived.Test.YthiephlfhbkcbaaDoorBytesW
namespace Go.Proofs.YthiephlfhbkcbaaDoor.By
open Go.RowKit
set_option linter.unusedVariables false
set_option maxHeartbeats 4000000

/-- where s[lo:] begins -/
def cutA (A : Option Addr) (cap lo : Nat) : Option Addr := if cap = lo then A else A.map (·.add (lo * 1))
theorem run_sl_l (A : Option Addr) (len cap lo : Nat) (h1 : lo ≤ len) (w : World) :
    (Instr.slice 24 (.slice A len cap) (some (.int .i64 (lo : Int))) none none).run Tryd.prog w = .ok (.slice (cutA A cap lo) (len - lo) (cap - lo)) w := by
  obtain ⟨i0, hi0, hz0, hz1, hz2⟩ := info_parts Rm.infoU8
  have he : Tryd.prog.elem 24 = 5 := by kernel_rfl
  rw [run_slice_l w 24 A len cap (by rw [he]; exact Tryd.underlying24) .i64 lo (by omega) (by omega)]
  simp [sizeOf, typeInfo, he, hi0, hz1, Result.andThen, sliced, cutA]
theorem run_sl_lh (A : Option Addr) (len cap lo hi : Nat) (h1 : lo ≤ hi) (h2 : hi ≤ cap) (w : World) :
    (Instr.slice 24 (.slice A len cap) (some (.int .i64 (lo : Int))) (some (.int .i64 (hi : Int))) none).run Tryd.prog w = .ok (.slice (cutA A cap lo) (hi - lo) (cap - lo)) w := by
  obtain ⟨i0, hi0, hz0, hz1, hz2⟩ := info_parts Rm.infoU8
  have he : Tryd.prog.elem 24 = 5 := by kernel_rfl
  rw [run_slice_lh w 24 A len cap (by rw [he]; exact Tryd.underlying24) .i64 .i64 lo hi (by omega) (by omega) (by omega)]
  simp [sizeOf, typeInfo, he, hi0, hz1, Result.andThen, sliced, cutA]
theorem run_sl_h (A : Option Addr) (len cap hi : Nat) (h2 : hi ≤ cap) (w : World) :
    (Instr.slice 24 (.slice A len cap) none (some (.int .i64 (hi : Int))) none).run Tryd.prog w = .ok (.slice A hi cap) w := by
  obtain ⟨i0, hi0, hz0, hz1, hz2⟩ := info_parts Rm.infoU8
  have he : Tryd.prog.elem 24 = 5 := by kernel_rfl
  rw [run_slice_h w 24 A len cap (by rw [he]; exact Tryd.underlying24) .i64 hi (by omega) (by omega)]
  simp [sizeOf, typeInfo, he, hi0, hz1, Result.andThen, sliced]
  cases A <;> simp [Addr.add]
theorem cutA_ints {w : World} {k : IntKind} {B n cap lo hi : Nat} {A : Option Addr} {zs : List Int} (h : IntsAt k w B A n zs) (h1 : lo ≤ hi) (h2 : hi ≤ n) (hc : n ≤ cap) : IntsAt k w B (cutA A cap lo) (hi - lo) ((zs.take hi).drop lo) := by
  have hx := h.1
  have hg : ∀ i, i < hi - lo → ((zs.take hi).drop lo).getD i 0 = zs.getD (lo + i) 0 := by
    intro i hi'
    simp only [List.getD_eq_getElem?_getD]
    rw [List.getElem?_drop, List.getElem?_take_of_lt (by omega)]
  refine ⟨by simp; omega, fun i hi' => by rw [hg i hi']; exact h.2.1 _ (by omega), fun hn => ?_⟩
  obtain ⟨b, off, e, hb, hcell⟩ := h.2.2 (by omega)
  refine ⟨b, off + lo, ?_, hb, fun i hi' => ?_⟩
  · rw [cutA, if_neg (by omega), e, Nat.mul_one]
    show some (Addr.add _ _) = _
    unfold Addr.add
    split
    · rename_i h0; subst h0; rfl
    · rfl
  · rw [hg i hi', Nat.add_assoc]
    exact hcell _ (by omega)
/-- the tail of a row of bytes -/
theorem cut_tail {w : World} {B n lo : Nat} {A : Option Addr} {zs : List Int} {cap : Nat} (h : IntsAt .u8 w B A n zs) (h1 : lo ≤ n) (hc : n ≤ cap) : IntsAt .u8 w B (cutA A cap lo) (n - lo) (zs.drop lo) := by
  have := cutA_ints h h1 (Nat.le_refl n) hc
  rw [List.take_of_length_le (by rw [h.1]; exact Nat.le_refl _)] at this
  exact this
end Go.Proofs.YthiephlfhbkcbaaDoor.By
