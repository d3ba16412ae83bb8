/- The translation buffer: Drop, Flush, Len. -/
import Derived.Test.YthiephlfhbkcbaaTlb
namespace Go.Proofs.Ythiephlfhbkcbaa.Tl
open Go.RowKit
set_option linter.unusedVariables false
set_option maxHeartbeats 4000000

theorem drop_any (w : World) (g : Nat) (l : Nat → Ent) (va : Int) (hv : 0 ≤ va) (hv1 : va ≤ 4294967295) (k : Nat) (hk : va / 64 % 16 = k) (h : Buf w g l) :
    Calls Try.prog 104 #[.pointer (some ⟨g, 0, none⟩), .int .u32 va] w fun e w' => e = .returned (.tuple #[]) ∧ Buf w' g (if (l k).n = va / 64 then upd l k noE else l) ∧ Fr (· = g) w w' := by
  have hk16 : k < 16 := by omega
  have Hk := Lib.hid hk
  clear hk
  obtain ⟨c0, c1, c2, c3⟩ := h.ent k hk16
  have hlt := h.lt
  have f0 := Cells.frozen h (k * 4)
  have f1 := Cells.frozen h (k * 4 + 1)
  have f2 := Cells.frozen h (k * 4 + 2)
  have f3 := Cells.frozen h (k * 4 + 3)
  have hq : 0 ≤ va / 64 := by omega
  by_cases hn : (l k).n = va / 64
  · rw [if_pos hn]
    have hn' : ((l k).n == va / 64) = true := by simp [hn]
    clear hn
    go_enter Try.func104, Try.ntmps104
    go_wp2
    go_quiet ((go_at_call 109; exact quiet_same (place_k _ _ _ hq Hk)))
    go_wp2
    go_end0
    refine ⟨rfl, ?_, ?_⟩
    · exact h.put k hk16 false 0 0 0
    · (repeat (first | exact Fr.refl _ _ | with_reducible assumption | refine Fr.drewN ?_ _ | refine Fr.drew ?_ | refine Fr.alloc ?_ _ | (refine Fr.setCell (p := ⟨_, _, _⟩) ?_ ?_ _; rotate_left; first | exact .inl rfl | (right; simp; done) | (right; simp; omega))))
  · rw [if_neg hn]
    have hn' : ((l k).n == va / 64) = false := by simp [hn]
    clear hn
    go_enter Try.func104, Try.ntmps104
    go_wp2
    go_quiet ((go_at_call 109; exact quiet_same (place_k _ _ _ hq Hk)))
    go_wp2
    go_end0
    refine ⟨rfl, h, ?_⟩
    (repeat (first | exact Fr.refl _ _ | with_reducible assumption | refine Fr.drewN ?_ _ | refine Fr.drew ?_ | refine Fr.alloc ?_ _ | (refine Fr.setCell (p := ⟨_, _, _⟩) ?_ ?_ _; rotate_left; first | exact .inl rfl | (right; simp; done) | (right; simp; omega))))

/-- all cells of a buffer, opaque -/
def all_ (l : Nat → Ent) : List Value := (List.range 64).map (tf l)
theorem all_len (l : Nat → Ent) : (all_ l).length = 64 := by simp [all_]
theorem all_at (l : Nat → Ent) (j : Nat) (h : j < 64) : (all_ l)[j]? = some (tf l j) := by simp [all_, h]
theorem all_ent (l : Nat → Ent) (k : Nat) (hk : k < 16) : ((all_ l).drop (k * 4)).take 4 = ecells (l k) := by
  apply List.ext_getElem?
  intro j
  by_cases hj : j < 4
  · rw [List.getElem?_take_of_lt hj, List.getElem?_drop, all_at l _ (by omega)]
    have hm : j = 0 ∨ j = 1 ∨ j = 2 ∨ j = 3 := by omega
    rcases hm with rfl | rfl | rfl | rfl <;> simp [tf, ecell, ecells, show k * 4 / 4 = k by omega, show (k * 4 + 1) / 4 = k by omega, show (k * 4 + 2) / 4 = k by omega, show (k * 4 + 3) / 4 = k by omega, show k * 4 % 4 = 0 by omega, show (k * 4 + 1) % 4 = 1 by omega, show (k * 4 + 2) % 4 = 2 by omega, show (k * 4 + 3) % 4 = 3 by omega]
  · rw [List.getElem?_eq_none (by simp; omega), List.getElem?_eq_none (by simp [ecells]; omega)]
theorem all_one (l : Nat → Ent) : ∀ v ∈ all_ l, v.oneCell' = true := by
  intro v hv
  obtain ⟨i, _, rfl⟩ := List.mem_map.1 hv
  unfold tf ecell
  split
  · rfl
  · split
    · rfl
    · split <;> rfl
def noCells : Array Value := (all_ fun _ => noE).toArray

theorem flush_any (w : World) (g : Nat) (l : Nat → Ent) (h : Buf w g l) :
    Calls Try.prog 72 #[.pointer (some ⟨g, 0, none⟩)] w fun e w' => e = .returned (.tuple #[]) ∧ Buf w' g (fun _ => noE) ∧ Fr (· = g) w w' := by
  have hsz : noCells.size = 64 := by simp [noCells, all_len]
  have hth := Cells.there h 0 noCells.size (by omega)
  have hinf : (Try.prog.info? 133).map (·.size) = some noCells.size := by rw [hsz]; kernel_rfl
  have hone : noCells.all (·.oneCell') = true := all_oneCell_toArray (all_one _)
  have hfin : Buf (w.setCells g 0 noCells.toList) g (fun _ => noE) := Cells.congr (Cells.setCells _ 0 h) (fun i hi => by
    have := all_at (fun _ => noE) i hi
    unfold putR
    rw [if_pos ⟨by omega, by rw [show noCells.toList = all_ fun _ => noE from rfl, all_len]; omega⟩, show noCells.toList = all_ fun _ => noE from rfl]
    rw [List.getD_eq_getElem?_getD, Nat.sub_zero, this]; rfl)
  have hfr : Fr (· = g) w (w.setCells g 0 noCells.toList) := Fr.setRow _ _ (Fr.refl _ _) (.inl rfl)
  clear hsz
  go_enter Try.func72, Try.ntmps72
  go_wp2_with (refine wpList_store_mid rfl 133 (.tmp 5) (.tmp 3) rfl g 0 noCells rfl rfl hth hinf hone ?_)
  go_end0
  exact ⟨rfl, hfin, hfr⟩

def cnt (l : Nat → Ent) : Nat → Nat
  | 0 => 0
  | k + 1 => cnt l k + if (l k).v then 1 else 0
theorem cnt_le (l : Nat → Ent) (k : Nat) : cnt l k ≤ k := by
  induction k with
  | zero => simp [cnt]
  | succ k ih => simp only [cnt]; split <;> omega
theorem len_any (w : World) (g : Nat) (l : Nat → Ent) (h : Buf w g l) :
    Calls Try.prog 35 #[.pointer (some ⟨g, 0, none⟩)] w fun e w' => e = .returned (.int .i64 (cnt l 16)) ∧ Fr (fun _ => False) w w' := by
  have hr : w.rangeAt g 0 (all_ l) := Cells.rangeAt h 0 _ (by rw [all_len]; omega) (fun j hj => by rw [all_len] at hj; rw [all_at l j hj, Nat.zero_add])
  have hix : ∀ (k : Nat), k < 16 → ∀ w, (Instr.index 133 (.agg (all_ l).toArray) (.int .i64 (k : Int))).run Try.prog w = .ok (eval_ (l k)) w := fun k hk w => by
    rw [run_index_agg w _ 132 16 4 _ k _ Try.underlying133 hk Try.underlying132 rfl (by kernel_rfl) .i64, all_ent l k hk]; rfl
  have Hix := Lib.hid hix
  have hinf : (Try.prog.info? 133).map (·.size) = some (all_ l).length := by rw [all_len]; kernel_rfl
  clear hix
  go_enter Try.func35, Try.ntmps35
  go_wp2_with (refine wpList_load_mid rfl 133 (.tmp 8) rfl g 0 rfl _ _ hr Try.underlying133 rfl hinf ?_)
  clear hr hinf
  go_loopw [3, 10] (fun n i wr => ∃ k : Nat, k ≤ 16 ∧ i = .int .i64 k ∧ n = .int .i64 (cnt l k) ∧ Fr (fun _ => False) w wr) (fun _ i _ => 16 - (intOf i).toNat)
  case atStart => exact ⟨0, by omega, rfl, rfl, Fr.refl _ _⟩
  case round =>
    obtain ⟨k, hk, rfl, rfl, fr⟩ := hrel
    by_cases hlt : k < 16
    · have hi := Hix.out k hlt
      have hle := cnt_le l k
      have Hs := Lib.hid (show cnt l (k + 1) = cnt l k + if (l k).v then 1 else 0 from rfl)
      have fr2 := fr.alloc (.cells #[.bool (l k).v, .int .u32 (l k).n, .int .u32 (l k).p, .int .u32 (l k).b] 132)
      generalize cnt l k = c at *
      generalize l k = en at *
      obtain ⟨v, n, p, b⟩ := en
      dsimp only at fr2 Hs
      cases v
      · go_wp2_with fail
        go_roundw
        case rel => exact ⟨k + 1, by omega, by go_num, by rw [Hs.out]; simp, fr2⟩
        case measure => simp [intOf]; omega
      · go_wp2_with fail
        go_roundw
        case rel => exact ⟨k + 1, by omega, by go_num, by rw [Hs.out]; simp, fr2⟩
        case measure => simp [intOf]; omega
    · have : k = 16 := by omega
      subst this
      go_wp2_with fail
      go_ret
      exact ⟨rfl, fr⟩
end Go.Proofs.Ythiephlfhbkcbaa.Tl
