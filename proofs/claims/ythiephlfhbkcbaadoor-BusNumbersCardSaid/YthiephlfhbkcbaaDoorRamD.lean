/- A guest's memory, IV: Page, All, Turned, Calm, New; its table's Frame, Unmap, Mapped. -/
import Derived.Test.YthiephlfhbkcbaaDoorRamC
namespace Go.Proofs.YthiephlfhbkcbaaDoor.Rm
open Go.RowKit Fm Nt
set_option linter.unusedVariables false
set_option maxHeartbeats 4000000

def zU (n : Nat) : Array Value := madeCells #[.int .u8 0] n
theorem infoU8 : (Tryd.prog.info? 5).map (fun i => (i.zero, i.size, i.bytes)) = some (some (.int .u8 0), 1, 1) := by kernel_rfl
theorem run_makeU (k : IntKind) (n : Nat) (hn : n ≤ 1000000) (w : World) : (Instr.makeSlice 24 (.int k (n : Int)) (.int k (n : Int))).run Tryd.prog w = .ok (.slice (some ⟨w.heap.size, 0, none⟩) n n) (w.alloc (.cells (zU n) 5)) := by
  obtain ⟨i0, hi0, hz0, hz1, hz2⟩ := info_parts infoU8
  have hr := run_make (P := Tryd.prog) w 24 5 i0 (.int .u8 0) Tryd.underlying24 hi0 hz0 k k n n (by omega) (by omega) (by rw [hz2]; omega) (by omega)
  simp only [Int.toNat_natCast, hz1, Nat.mul_one] at hr
  exact hr
theorem cellsU (w : World) (n : Nat) {g : Nat} (hg : w.heap.size = g) : Cells (w.alloc (.cells (zU n) 5)) g 5 n (fun _ => .int .u8 0) := by
  subst hg
  have e : (zU n).toList = List.replicate n (.int .u8 0) := by rw [zU, toList_madeCells_one]
  exact Cells.new' w _ _ n _ (by rw [e]; apply List.ext_getElem <;> simp)
/-- some bytes copied, noughts behind -/
def part (z : Nat → Int) (r : Nat) (j : Nat) : Value := .int .u8 (if j < r then z j else 0)
theorem part_set {w : World} {g n : Nat} {z : Nat → Int} {r : Nat} (h : Cells w g 5 n (part z r)) (hr : r < n) : Cells (w.setCell ⟨g, r, none⟩ (.int .u8 (z r))) g 5 n (part z (r + 1)) :=
  Cells.congr (Cells.set_ h r _) fun j hj => by
    unfold putV part
    by_cases e : j = r
    · subst e; rw [if_pos rfl, if_pos (by omega)]
    · rw [if_neg e]
      by_cases h1 : j < r
      · rw [if_pos h1, if_pos (by omega)]
      · rw [if_neg h1, if_neg (by omega)]
set_option maxRecDepth 100000 in
theorem page_in (w : World) (a : Am) (m : Ms) (h : Mem w a m) (n : Int) (n0 : 0 ≤ n) (n1 : n < m.n) :
    Calls Tryd.prog 57 #[.pointer (some ⟨a.gm, 0, none⟩), .int .i64 n] w fun e w' => e = .returned (.tuple #[.slice (some ⟨w.heap.size, 0, none⟩) 64 64, .bool true]) ∧ Cells w' w.heap.size 5 64 (fun k => .int .u8 (m.mem (n.toNat * 64 + k))) ∧ Fr (fun _ => False) w w' := by
  have hn := h.n0
  have hpg : Calls Tryd.prog 63 #[.pointer (some ⟨a.a.gt, 0, none⟩)] w fun e w' => e = .returned (.int .i64 m.n) ∧ w = w' := by
    obtain ⟨s, t, hC⟩ := h
    have := pages_any w a.a t hC.2.1
    rw [hC.2.2.2.n] at this
    exact this
  have Hpg := Lib.hid hpg
  have c1 : w.cell? ⟨a.gm, 1, none⟩ = some (.pointer (some ⟨a.a.gt, 0, none⟩)) := by
    obtain ⟨s, t, hC⟩ := h
    exact hC.c1
  obtain ⟨p, rfl⟩ : ∃ i : Nat, n = i := ⟨n.toNat, by omega⟩
  rw [show (p : Int).toNat = p from rfl]
  have d1 : decide (m.n ≤ p) = false := by simp; omega
  have d2 : decide ((p : Int) < 0) = false := by simp
  have hmk : ∀ W, (Instr.makeSlice 24 (.int .i64 64) (.int .i64 64)).run Tryd.prog W = .ok (.slice (some ⟨W.heap.size, 0, none⟩) 64 64) (W.alloc (.cells (zU 64) 5)) := fun W => run_makeU .i64 64 (by omega) W
  have hc0 : Cells (w.alloc (.cells (zU 64) 5)) w.heap.size 5 64 (part (fun k => m.mem (p * 64 + k)) 0) := Cells.congr (cellsU w 64 rfl) (fun j hj => by simp [part])
  have hM0 : Mem (w.alloc (.cells (zU 64) 5)) a m := h.alloc _
  have hf0 := (Fr.refl (fun _ => False) w).alloc (.cells (zU 64) 5)
  clear hpg
  go_enter Tryd.func57, Tryd.ntmps57
  go_wp2_with fail
  refine (Hpg.out).mono ?_
  rintro e w' ⟨rfl, rfl⟩
  go_wp2_with fail
  clear hmk
  generalize w.alloc (.cells (zU 64) 5) = wz at *
  go_loopw [22] (fun k wr => ∃ r : Nat, r ≤ 64 ∧ k = .int .i64 r ∧ Mem wr a m ∧ Cells wr w.heap.size 5 64 (part (fun k => m.mem (p * 64 + k)) r) ∧ Fr (fun _ => False) w wr) (fun k _ => 64 - (intOf k).toNat)
  case atStart => exact ⟨0, by omega, rfl, hM0, hc0, hf0⟩
  case round =>
    clear hM0 hc0 hf0
    obtain ⟨r, hr, rfl, hM, hc, fr⟩ := hrel
    by_cases hlt : r < 64
    · have hg := get_any wr a m hM ((p : Int) * 64 + r) (by omega) (by omega)
      rw [show ((p : Int) * 64 + r).toNat = p * 64 + r by omega] at hg
      have Hg := Lib.hid hg
      have cz := hc.cell r hlt
      have zz := Cells.frozen hc r
      have hc2 := part_set hc hlt
      have hM2 := hM.fr0 (w' := wr) (Fr.refl _ _)
      have fr2 := fr.setCell (p := ⟨w.heap.size, r, none⟩) (.inr (Nat.le_refl _)) (.int .u8 (m.mem (p * 64 + r)))
      have hM3 := hM.fr (Fr.set1 wr w.heap.size r (.int .u8 (m.mem (p * 64 + r)))) (fun k hk e => by have := h.lt k hk; omega)
      have HC := Lib.hid hc2
      have HF := Lib.hid fr2
      have HM := Lib.hid hM3
      clear hg hc2 fr2 hM3 hM2
      simp only [part] at cz
      go_wp2_with fail
      refine (Hg.out).mono ?_
      rintro e w' ⟨rfl, rfl⟩
      go_wp2_with fail
      go_roundw
      case rel => exact ⟨r + 1, by omega, by go_num, HM.out, HC.out, HF.out⟩
      case measure => simp [intOf]; omega
    · have hfin : Cells wr w.heap.size 5 64 (fun k => .int .u8 (m.mem (p * 64 + k))) := Cells.congr hc (fun j hj => by rw [part, if_pos (by omega)])
      have HC := Lib.hid hfin
      clear hfin
      go_wp2_with fail
      go_ret2
      exact ⟨rfl, HC.out, fr⟩
theorem page_out (w : World) (a : Am) (m : Ms) (h : Mem w a m) (n : Int) (hn2 : ¬ (0 ≤ n ∧ n < m.n)) :
    Calls Tryd.prog 57 #[.pointer (some ⟨a.gm, 0, none⟩), .int .i64 n] w fun e w' => e = .returned (.tuple #[.slice none 0 0, .bool false]) ∧ w = w' := by
  have hn := h.n0
  have hpg : Calls Tryd.prog 63 #[.pointer (some ⟨a.a.gt, 0, none⟩)] w fun e w' => e = .returned (.int .i64 m.n) ∧ w = w' := by
    obtain ⟨s, t, hC⟩ := h
    have := pages_any w a.a t hC.2.1
    rw [hC.2.2.2.n] at this
    exact this
  have Hpg := Lib.hid hpg
  have c1 : w.cell? ⟨a.gm, 1, none⟩ = some (.pointer (some ⟨a.a.gt, 0, none⟩)) := by
    obtain ⟨s, t, hC⟩ := h
    exact hC.c1
  clear hpg
  by_cases n0 : 0 ≤ n
  · have n1 : (m.n : Int) ≤ n := by omega
    clear hn2
    go_enter Tryd.func57, Tryd.ntmps57
    go_wp2_with fail
    refine (Hpg.out).mono ?_
    rintro e w' ⟨rfl, rfl⟩
    go_wp2_with fail
    go_ret2
    exact ⟨rfl, rfl⟩
  · clear hn2
    go_enter Tryd.func57, Tryd.ntmps57
    go_wp2_with fail
    go_ret2
    exact ⟨rfl, rfl⟩
set_option maxRecDepth 100000 in
theorem all_any (w : World) (a : Am) (m : Ms) (h : Mem w a m) :
    Calls Tryd.prog 39 #[.pointer (some ⟨a.gm, 0, none⟩)] w fun e w' => e = .returned (.slice (some ⟨w.heap.size, 0, none⟩) (m.n * 64) (m.n * 64)) ∧ Cells w' w.heap.size 5 (m.n * 64) (fun k => .int .u8 (m.mem k)) ∧ Fr (fun _ => False) w w' := by
  have hn := h.n0
  have hsz := size_any w a m h
  have hnm : ((m.n * 64 : Nat) : Int) = (m.n : Int) * 64 := by omega
  have hmk := fun W => run_makeU .u32 (m.n * 64) (by omega) W
  rw [hnm] at hmk
  obtain ⟨N, hN⟩ : ∃ N, m.n * 64 = N := ⟨_, rfl⟩
  have hNi : (m.n : Int) * 64 = (N : Int) := by omega
  have hNb : N ≤ 4096 := by omega
  have HN := Lib.hid hN
  rw [hNi, hN] at hmk
  rw [hNi] at hsz
  have Hsz := Lib.hid hsz
  have hc0 : Cells (w.alloc (.cells (zU N) 5)) w.heap.size 5 N (part m.mem 0) := Cells.congr (cellsU w N rfl) (fun j hj => by simp [part])
  have hM0 : Mem (w.alloc (.cells (zU N) 5)) a m := h.alloc _
  have hf0 := (Fr.refl (fun _ => False) w).alloc (.cells (zU N) 5)
  rw [hN]
  clear hsz hnm hN hNi
  go_enter Tryd.func39, Tryd.ntmps39
  go_wp2_with fail
  refine (Hsz.out).mono ?_
  rintro e w' ⟨rfl, rfl⟩
  go_wp2_with fail
  clear hmk
  generalize w.alloc (.cells (zU N) 5) = wz at *
  go_loopw [10] (fun k wr => ∃ r : Nat, r ≤ N ∧ k = .int .i64 r ∧ Mem wr a m ∧ Cells wr w.heap.size 5 N (part m.mem r) ∧ Fr (fun _ => False) w wr) (fun k _ => N - (intOf k).toNat)
  case atStart => exact ⟨0, by omega, rfl, hM0, hc0, hf0⟩
  case round =>
    clear hM0 hc0 hf0
    obtain ⟨r, hr, rfl, hM, hc, fr⟩ := hrel
    by_cases hlt : r < N
    · have hg := get_any wr a m hM (r : Int) (by omega) (by have := HN.out; omega)
      rw [show ((r : Int)).toNat = r from rfl] at hg
      have Hg := Lib.hid hg
      have cz := hc.cell r hlt
      have zz := Cells.frozen hc r
      have hc2 := part_set hc hlt
      have fr2 := fr.setCell (p := ⟨w.heap.size, r, none⟩) (.inr (Nat.le_refl _)) (.int .u8 (m.mem r))
      have hM3 := hM.fr (Fr.set1 wr w.heap.size r (.int .u8 (m.mem r))) (fun k hk e => by have := h.lt k hk; omega)
      have HC := Lib.hid hc2
      have HF := Lib.hid fr2
      have HM := Lib.hid hM3
      clear hg hc2 fr2 hM3
      simp only [part] at cz
      go_wp2_with fail
      refine (Hg.out).mono ?_
      rintro e w' ⟨rfl, rfl⟩
      go_wp2_with fail
      go_roundw
      case rel => exact ⟨r + 1, by omega, by go_num, HM.out, HC.out, HF.out⟩
      case measure => simp [intOf]; omega
    · have hfin : Cells wr w.heap.size 5 N (fun k => .int .u8 (m.mem k)) := Cells.congr hc (fun j hj => by rw [part, if_pos (by omega)])
      have HC := Lib.hid hfin
      clear hfin
      go_wp2_with fail
      go_ret
      exact ⟨rfl, HC.out, fr⟩
/-- the pages that were written, below k -/
def turnN (m : Ms) (k : Nat) : List Int := ((List.range k).filter fun p => m.tu p).map Int.ofNat
theorem turnN_le (m : Ms) (k : Nat) : (turnN m k).length ≤ k := by
  unfold turnN
  rw [List.length_map]
  exact Nat.le_trans (List.length_filter_le _ _) (by simp)
theorem turnN_yes (m : Ms) (k : Nat) (h : m.tu k = true) : turnN m (k + 1) = turnN m k ++ [(k : Int)] := by
  unfold turnN
  rw [List.range_succ, List.filter_append]
  simp [h]
theorem turnN_no (m : Ms) (k : Nat) (h : m.tu k = false) : turnN m (k + 1) = turnN m k := by
  unfold turnN
  rw [List.range_succ, List.filter_append]
  simp [h]
def tuV (m : Ms) : List Value := (List.range 64).map (fun k => Value.bool (m.tu k))
theorem tuV_len (m : Ms) : (tuV m).length = 64 := by simp [tuV]
theorem tuV_at (m : Ms) (k : Nat) (hk : k < 64) : (tuV m)[k]? = some (.bool (m.tu k)) := by simp [tuV, hk]
theorem tu_range {w : World} {a : Am} {m : Ms} (h : Mem w a m) : w.rangeAt a.gm 2 (tuV m) := by
  obtain ⟨s, t, hC⟩ := h
  exact Cells.rangeAt hC.2.2.1 2 _ (by rw [tuV_len]; omega) (fun j hj => by
    rw [tuV_len] at hj
    rw [tuV_at m j hj, mcell, if_neg (by omega), if_neg (by omega), if_pos (by omega), show 2 + j - 2 = j by omega])
def zb64 : Array Value := (List.replicate 64 (Value.bool false)).toArray
theorem zeroB64 : (Tryd.prog.info? 118).bind (·.zero) = some (.agg zb64) := by kernel_rfl
theorem zeroB64_run (W : World) : (zeroValue 118).run Tryd.prog W = .ok (.agg zb64) W := by
  have h := zeroB64
  cases hi : Tryd.prog.info? 118 with
  | none => rw [hi] at h; cases h
  | some i =>
    rw [hi] at h
    have h' : i.zero = some (.agg zb64) := h
    simp [zeroValue, typeInfo, hi, h']
set_option maxRecDepth 100000 in
theorem calm_any (w : World) (a : Am) (m : Ms) (h : Mem w a m) :
    Calls Tryd.prog 53 #[.pointer (some ⟨a.gm, 0, none⟩)] w fun e w' => e = .returned (.tuple #[]) ∧ Mem w' a m.calm ∧ Fr a.own w w' := by
  have hM : Mem (w.setCells a.gm 2 zb64.toList) a m.calm := by
    obtain ⟨s, t, hC⟩ := h
    have ff := Fr.setRow (a := w) (S := (· = a.gm)) zb64.toList 2 (Fr.refl _ w) (.inl rfl)
    refine ⟨s, t, hC.1.fr ff (fun e => hC.neT _ (.inr rfl) e), hC.2.1.fr ff (fun k hk e => hC.neT _ (.inl hk) e), Cells.congr (Cells.setCells _ 2 hC.2.2.1) (fun i hi => ?_), hC.2.2.2.turn _⟩
    have hl : zb64.toList.length = 64 := by simp [zb64]
    unfold putR mcell
    rw [hl]
    by_cases e0 : i = 0
    · rw [if_neg (by omega), if_pos e0, if_pos e0]
    · by_cases e1 : i = 1
      · rw [if_neg (by omega), if_neg e0, if_pos e1, if_neg e0, if_pos e1]
      · by_cases e2 : i < 66
        · rw [if_pos (by omega), if_neg e0, if_neg e1, if_pos e2]
          have : i - 2 < 64 := by omega
          show (List.replicate 64 (Value.bool false)).getD (i - 2) undef = Value.bool false
          rw [List.getD_eq_getElem?_getD, List.getElem?_replicate, if_pos this]; rfl
        · rw [if_neg (by omega), if_neg e0, if_neg e1, if_neg e2, if_neg e0, if_neg e1, if_neg e2]
  have fr : Fr a.own w (w.setCells a.gm 2 zb64.toList) := Fr.setRow _ _ (Fr.refl _ _) (.inl (.inl rfl))
  have hsz : zb64.size = 64 := by simp [zb64]
  have hth : w.there a.gm 2 zb64.size := by
    obtain ⟨s, t, hC⟩ := h
    exact Cells.there hC.2.2.1 2 zb64.size (by omega)
  have hinf : (Tryd.prog.info? 118).map (·.size) = some zb64.size := by rw [hsz]; kernel_rfl
  have hone : zb64.all (·.oneCell') = true := all_oneCell_toArray (fun v hv => by rw [List.eq_of_mem_replicate hv]; rfl)
  have hz := zeroB64_run
  have HM := Lib.hid hM
  have FR := Lib.hid fr
  clear hsz hM fr
  go_enter Tryd.func53, Tryd.ntmps53
  go_wp2_with (refine wpList_store_mid rfl 118 (.tmp 5) (.tmp 3) rfl a.gm 2 zb64 rfl rfl hth hinf hone ?_)
  go_end0
  exact ⟨rfl, HM.out, FR.out⟩
end Go.Proofs.YthiephlfhbkcbaaDoor.Rm
