/- innkeeperkeep.Sized: just so many bytes, in new memory. -/
import Derived.Test.YtlkagggkpaihaaaRamD
import Derived.Test.YtlkagggkpaihaaaBytesW
import Derived.Test.YtlkagggkpaihaaaCopy
namespace Go.Proofs.Ytlkagggkpaihaaa.By
open Go.RowKit Fm Nt Rm
set_option linter.unusedVariables false
set_option maxHeartbeats 4000000

def sized (zs : List Int) (i : Nat) : Int := if i < zs.length then zs.getD i 0 else 0
theorem sized_bd {w : World} {B n : Nat} {A : Option Addr} {zs : List Int} (h : IntsAt .u8 w B A n zs) (i : Nat) : 0 ≤ sized zs i ∧ sized zs i < 256 := by
  unfold sized
  split
  · rename_i hi
    exact byte_of h (by rw [← h.1]; exact hi)
  · omega
theorem szU8 : (Try.prog.info? 5).map (·.size) = some 1 := by
  obtain ⟨i0, hi0, hz0, hz1, hz2⟩ := info_parts infoU8
  rw [hi0]; simp [hz1]
set_option maxRecDepth 100000 in
theorem sized_any (w : World) (A : Option Addr) (len cap B : Nat) (zs : List Int) (hz : IntsAt .u8 w B A len zs) (hB : B ≤ w.heap.size) (n : Nat) (hn : n ≤ 1000000) :
    Calls Try.prog 15 #[.slice A len cap, .int .i64 n] w fun e w' => e = .returned (.slice (some ⟨w.heap.size, 0, none⟩) n n) ∧ Cells w' w.heap.size 5 n (fun k => .int .u8 (sized zs k)) ∧ Fr (fun _ => False) w w' := by
  have hmk : ∀ W, (Instr.makeSlice 22 (.int .i64 (n : Int)) (.int .i64 (n : Int))).run Try.prog W = .ok (.slice (some ⟨W.heap.size, 0, none⟩) n n) (W.alloc (.cells (zU n) 5)) := fun W => run_makeU .i64 n hn W
  have hc0 := cellsU w n rfl
  have f0 := (Fr.refl (fun _ => False) w).alloc (.cells (zU n) 5)
  have hz0 := (hz.take (show min len n ≤ len from Nat.min_le_left _ _)).fr f0 hB (fun _ _ e => e)
  have hlz := Lib.hid hz.1
  have HC0 := Lib.hid hc0
  have HF0 := Lib.hid f0
  have HZ0 := Lib.hid hz0
  have hsz := szU8
  clear hc0 f0 hz0
  go_enter Try.func15, Try.ntmps15
  go_wp2_with
    (refine wpList_copy_cells rfl (.tmp 8) (.tmp 9) 22 22 rfl 5 Try.underlying22 hsz w.heap.size 0 n n A len cap rfl rfl 5 n _ HC0.out .u8 B (min len n) (zs.take (min len n)) rfl HZ0.out (by omega) ?_
     intro w2 hc2 f2)
  have hc3 : Cells w2 w.heap.size 5 n (fun k => .int .u8 (sized zs k)) := Cells.congr hc2 (fun i hi => by
    unfold putR sized
    rw [List.length_map, List.length_take, hlz.out]
    by_cases h : i < len
    · rw [if_pos (by omega), if_pos h, Nat.sub_zero]
      have := hlz.out
      simp [List.getD_eq_getElem?_getD, List.getElem?_take, show i < zs.length by omega]
      rw [if_pos (by omega)]
      rfl
    · rw [if_neg (by omega), if_neg h])
  have HC3 := Lib.hid hc3
  have HFN := Lib.hid (HF0.out.trans (S := fun _ => False) f2 (fun i hi e => by omega))
  clear hc2 hc3
  go_wp2_with fail
  go_ret
  exact ⟨rfl, HC3.out, HFN.out⟩
end Go.Proofs.Ytlkagggkpaihaaa.By
