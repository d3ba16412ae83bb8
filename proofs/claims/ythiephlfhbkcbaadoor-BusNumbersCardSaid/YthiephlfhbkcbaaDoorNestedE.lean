/- The second stage of paging, V: New. -/
import Derived.Test.YthiephlfhbkcbaaDoorNestedD
namespace Go.Proofs.YthiephlfhbkcbaaDoor.Nt
open Go.RowKit Fm
set_option linter.unusedVariables false
set_option maxHeartbeats 4000000

def zI (n : Nat) : Array Value := madeCells #[.int .i64 0] n
def zB (n : Nat) : Array Value := madeCells #[.bool false] n
theorem infoB : (Tryd.prog.info? 4).map (fun i => (i.zero, i.size, i.bytes)) = some (some (.bool false), 1, 1) := by kernel_rfl
theorem run_makeI (n : Nat) (hn : n ≤ 1000000) (w : World) : (Instr.makeSlice 22 (.int .i64 (n : Int)) (.int .i64 (n : Int))).run Tryd.prog w = .ok (.slice (some ⟨w.heap.size, 0, none⟩) n n) (w.alloc (.cells (zI n) 3)) := by
  obtain ⟨i0, hi0, hz0, hz1, hz2⟩ := info_parts info64
  have hr := run_make (P := Tryd.prog) w 22 3 i0 (.int .i64 0) Tryd.underlying22 hi0 hz0 .i64 .i64 n n (by omega) (by omega) (by rw [hz2]; omega) (by omega)
  simp only [Int.toNat_natCast, hz1, Nat.mul_one] at hr
  exact hr
theorem run_makeB (n : Nat) (hn : n ≤ 1000000) (w : World) : (Instr.makeSlice 66 (.int .i64 (n : Int)) (.int .i64 (n : Int))).run Tryd.prog w = .ok (.slice (some ⟨w.heap.size, 0, none⟩) n n) (w.alloc (.cells (zB n) 4)) := by
  obtain ⟨i0, hi0, hz0, hz1, hz2⟩ := info_parts infoB
  have hr := run_make (P := Tryd.prog) w 66 4 i0 (.bool false) Tryd.underlying66 hi0 hz0 .i64 .i64 n n (by omega) (by omega) (by rw [hz2]; omega) (by omega)
  simp only [Int.toNat_natCast, hz1, Nat.mul_one] at hr
  exact hr
theorem cellsI (w : World) (n : Nat) {g : Nat} (hg : w.heap.size = g) : Cells (w.alloc (.cells (zI n) 3)) g 3 n (fun _ => .int .i64 0) := by
  subst hg
  have e : (zI n).toList = List.replicate n (.int .i64 0) := by rw [zI, toList_madeCells_one]
  exact Cells.new' w _ _ n _ (by rw [e]; apply List.ext_getElem <;> simp)
theorem cellsB (w : World) (n : Nat) {g : Nat} (hg : w.heap.size = g) : Cells (w.alloc (.cells (zB n) 4)) g 4 n (fun _ => .bool false) := by
  subst hg
  have e : (zB n).toList = List.replicate n (.bool false) := by rw [zB, toList_madeCells_one]
  exact Cells.new' w _ _ n _ (by rw [e]; apply List.ext_getElem <;> simp)
end Go.Proofs.YthiephlfhbkcbaaDoor.Nt
