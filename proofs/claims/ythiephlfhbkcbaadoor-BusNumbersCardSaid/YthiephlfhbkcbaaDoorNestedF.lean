/- The second stage of paging, VI: New, the walk. -/
import Derived.Test.YthiephlfhbkcbaaDoorNestedE
namespace Go.Proofs.YthiephlfhbkcbaaDoor.Nt
open Go.RowKit Fm
set_option linter.unusedVariables false
set_option maxHeartbeats 4000000

/-- a table, none of its pages mapped -/
def Ts.new (n : Nat) (o : Int) : Ts := ⟨n, o, fun _ => -1, fun _ => false⟩
def newT (n : Nat) (o : Int) (k : Nat) : Ts := ⟨n, o, fun j => if j < k then -1 else 0, fun _ => false⟩
theorem newT_succ (n : Nat) (o : Int) (k : Nat) : (newT n o k).setFr k (-1) = newT n o (k + 1) := by
  unfold newT Ts.setFr updI
  congr 1
  funext j
  dsimp only
  by_cases e : j = k
  · subst e; simp
  · rw [if_neg e]
    by_cases h : j < k
    · rw [if_pos h, if_pos (by omega)]
    · rw [if_neg h, if_neg (by omega)]
theorem newT_zero (w : World) (a : Ad) (n : Nat) (o : Int) (h0 : 1 ≤ n) (h1 : n ≤ 64) (hb : Blk w a.gt 117 #[.pointer (some ⟨a.gp, 0, none⟩), .int .i64 o, .slice (some ⟨a.gf, 0, none⟩) n n, .slice (some ⟨a.gg, 0, none⟩) n n])
    (hf : Cells w a.gf 3 n (fun _ => .int .i64 0)) (hg : Cells w a.gg 4 n (fun _ => .bool false)) : Tab w a (newT n o 0) :=
  ⟨hb, Cells.congr hf (fun i hi => by simp [newT]), hg, h0, h1⟩
theorem newT_end {w : World} {a : Ad} {n : Nat} {o : Int} (h : Tab w a (newT n o n)) : Tab w a (Ts.new n o) :=
  ⟨h.1, Cells.congr h.2.1 (fun i hi => by have hi : i < n := hi; simp [newT, Ts.new, hi]), h.2.2.1, h.2.2.2⟩
def NewP (w : World) (gp : Nat) (s : Pl) (o : Int) (n : Nat) (e : Ending) (w' : World) : Prop :=
  ∃ a : Ad, e = .returned (.tuple #[.pointer (some ⟨a.gt, 0, none⟩), .int .i64 0]) ∧ a.gp = gp ∧ Tab w' a (Ts.new n o) ∧ Pool w' gp (s.promise o n) ∧ (∀ k, a.own k → w.heap.size ≤ k) ∧ Fr (· = gp) w w'

set_option maxRecDepth 100000 in
theorem new_yes (w : World) (gp : Nat) (s : Pl) (o : Int) (n : Nat) (hP : Pool w gp s) (hok : s.Ok) (ho0 : 0 ≤ o) (ho1 : o < 4) (hn0 : 1 ≤ n) (hn1 : n ≤ 64) (hR : promR s o n = 0) :
    Calls Tryd.prog 50 #[.pointer (some ⟨gp, 0, none⟩), .int .i64 o, .int .i64 n] w (NewP w gp s o n) := by
  have hpr := promise_any w gp s o n hP hok (by omega) (by omega)
  rw [hR] at hpr
  have Hpr := Lib.hid hpr
  have hm1 := fun W => run_makeI n (by omega) W
  have hm2 := fun W => run_makeB n (by omega) W
  have hltp := hP.lt
  have d1 : decide (o < 0) = false := by simp; omega
  have d2 : decide (4 ≤ o) = false := by simp; omega
  have d3 : decide ((n : Int) < 1) = false := by simp; omega
  have d4 : decide ((64 : Int) < (n : Int)) = false := by simp; omega
  clear hpr hR
  go_enter Tryd.func50, Tryd.ntmps50
  go_wp2_with fail
  refine (Hpr.out).mono ?_
  rintro e w1 ⟨rfl, hP1, f1⟩
  go_wp2_with fail
  go_region
  · have hT : Tab ((((w1.alloc (.cells (zI n) 3)).alloc (.cells (zB n) 4)).alloc (.cells #[.pointer (some ⟨gp, 0, none⟩), .int .i64 o, .slice (some ⟨w1.heap.size, 0, none⟩) n n, .slice (some ⟨(w1.heap.size + 1), 0, none⟩) n n] 117)).drew) ⟨gp, w1.heap.size + 1 + 1, w1.heap.size, (w1.heap.size + 1)⟩ (newT n o 0) :=
      newT_zero _ ⟨gp, w1.heap.size + 1 + 1, w1.heap.size, (w1.heap.size + 1)⟩ n o hn0 hn1 (Blk.drew (Blk.new' _ _ _ (by simp))) (Cells.drew (((cellsI w1 n rfl).alloc _).alloc _)) (Cells.drew ((cellsB _ n (by simp)).alloc _))
    have hPz := Pool.drew (((hP1.alloc (.cells (zI n) 3)).alloc (.cells (zB n) 4)).alloc (.cells #[.pointer (some ⟨gp, 0, none⟩), .int .i64 o, .slice (some ⟨w1.heap.size, 0, none⟩) n n, .slice (some ⟨(w1.heap.size + 1), 0, none⟩) n n] 117))
    have frz := (((f1.alloc (.cells (zI n) 3)).alloc (.cells (zB n) 4)).alloc (.cells #[.pointer (some ⟨gp, 0, none⟩), .int .i64 o, .slice (some ⟨w1.heap.size, 0, none⟩) n n, .slice (some ⟨(w1.heap.size + 1), 0, none⟩) n n] 117)).drew
    have hbl : ∀ k, Ad.own ⟨gp, w1.heap.size + 1 + 1, w1.heap.size, (w1.heap.size + 1)⟩ k → w.heap.size ≤ k := by
      have := f1.size
      rintro k (rfl | rfl | rfl)
      · show w.heap.size ≤ w1.heap.size + 1 + 1; omega
      · show w.heap.size ≤ w1.heap.size; omega
      · show w.heap.size ≤ (w1.heap.size + 1); omega
    have hne : ∀ k, Ad.own ⟨gp, w1.heap.size + 1 + 1, w1.heap.size, (w1.heap.size + 1)⟩ k → ¬ k = gp := fun k hk e => by have := hbl k hk; omega
    have Hbl := Lib.hid hbl
    have Hne := Lib.hid hne
    clear hbl hne hm1 hm2
    generalize ((((w1.alloc (.cells (zI n) 3)).alloc (.cells (zB n) 4)).alloc (.cells #[.pointer (some ⟨gp, 0, none⟩), .int .i64 o, .slice (some ⟨w1.heap.size, 0, none⟩) n n, .slice (some ⟨(w1.heap.size + 1), 0, none⟩) n n] 117)).drew) = wz at *
    have c2 := hT.1.cell 2
    go_wp2_with fail
    go_loopw [10, 49] (fun _ i wr => ∃ k : Nat, k ≤ n ∧ i = .int .i64 k ∧ Tab wr ⟨gp, w1.heap.size + 1 + 1, w1.heap.size, (w1.heap.size + 1)⟩ (newT n o k) ∧ Pool wr gp (s.promise o n) ∧ Fr (· = gp) w wr) (fun _ i _ => n - (intOf i).toNat)
    case atStart => exact ⟨0, by omega, rfl, hT, hPz, frz⟩
    case round =>
      clear hT hPz frz c2
      obtain ⟨k, hk, rfl, hT, hPz, frz⟩ := hrel
      by_cases hlt : k < n
      · have c2 := hT.1.cell 2
        have c := hT.2.1.cell k hlt
        have z := Cells.frozen hT.2.1 k
        have hT2 := hT.setFr k (-1)
        rw [newT_succ] at hT2
        have HT2 := Lib.hid hT2
        have HP2 := Lib.hid (Cells.far hPz (p := ⟨w1.heap.size, k, none⟩) (fun e => Hne.out w1.heap.size (.inr (.inl rfl)) e.symm) (.int .i64 (-1)))
        have FR2 := Lib.hid (frz.setCell (p := ⟨w1.heap.size, k, none⟩) (.inr (Hbl.out w1.heap.size (.inr (.inl rfl)))) (.int .i64 (-1)))
        clear hT2
        go_wp2_with fail
        go_roundw
        case rel => exact ⟨k + 1, by omega, by go_num, HT2.out, HP2.out, FR2.out⟩
        case measure => simp [intOf]; omega
      · have e : k = n := by omega
        subst e
        have hG : NewP w gp s o k (.returned (.tuple #[.pointer (some ⟨w1.heap.size + 1 + 1, 0, none⟩), .int .i64 0])) wr := ⟨_, rfl, rfl, newT_end hT, hPz, Hbl.out, frz⟩
        have HG := Lib.hid hG
        clear hG
        go_wp2_with fail
        go_ret2
        exact HG.out
  · have hT : Tab ((((w1.alloc (.cells (zB n) 4)).alloc (.cells (zI n) 3)).alloc (.cells #[.pointer (some ⟨gp, 0, none⟩), .int .i64 o, .slice (some ⟨(w1.heap.size + 1), 0, none⟩) n n, .slice (some ⟨w1.heap.size, 0, none⟩) n n] 117)).drew) ⟨gp, w1.heap.size + 1 + 1, (w1.heap.size + 1), w1.heap.size⟩ (newT n o 0) :=
      newT_zero _ ⟨gp, w1.heap.size + 1 + 1, (w1.heap.size + 1), w1.heap.size⟩ n o hn0 hn1 (Blk.drew (Blk.new' _ _ _ (by simp))) (Cells.drew ((cellsI _ n (by simp)).alloc _)) (Cells.drew (((cellsB w1 n rfl).alloc _).alloc _))
    have hPz := Pool.drew (((hP1.alloc (.cells (zB n) 4)).alloc (.cells (zI n) 3)).alloc (.cells #[.pointer (some ⟨gp, 0, none⟩), .int .i64 o, .slice (some ⟨(w1.heap.size + 1), 0, none⟩) n n, .slice (some ⟨w1.heap.size, 0, none⟩) n n] 117))
    have frz := (((f1.alloc (.cells (zB n) 4)).alloc (.cells (zI n) 3)).alloc (.cells #[.pointer (some ⟨gp, 0, none⟩), .int .i64 o, .slice (some ⟨(w1.heap.size + 1), 0, none⟩) n n, .slice (some ⟨w1.heap.size, 0, none⟩) n n] 117)).drew
    have hbl : ∀ k, Ad.own ⟨gp, w1.heap.size + 1 + 1, (w1.heap.size + 1), w1.heap.size⟩ k → w.heap.size ≤ k := by
      have := f1.size
      rintro k (rfl | rfl | rfl)
      · show w.heap.size ≤ w1.heap.size + 1 + 1; omega
      · show w.heap.size ≤ (w1.heap.size + 1); omega
      · show w.heap.size ≤ w1.heap.size; omega
    have hne : ∀ k, Ad.own ⟨gp, w1.heap.size + 1 + 1, (w1.heap.size + 1), w1.heap.size⟩ k → ¬ k = gp := fun k hk e => by have := hbl k hk; omega
    have Hbl := Lib.hid hbl
    have Hne := Lib.hid hne
    clear hbl hne hm1 hm2
    generalize ((((w1.alloc (.cells (zB n) 4)).alloc (.cells (zI n) 3)).alloc (.cells #[.pointer (some ⟨gp, 0, none⟩), .int .i64 o, .slice (some ⟨(w1.heap.size + 1), 0, none⟩) n n, .slice (some ⟨w1.heap.size, 0, none⟩) n n] 117)).drew) = wz at *
    have c2 := hT.1.cell 2
    go_wp2_with fail
    go_loopw [10, 49] (fun _ i wr => ∃ k : Nat, k ≤ n ∧ i = .int .i64 k ∧ Tab wr ⟨gp, w1.heap.size + 1 + 1, (w1.heap.size + 1), w1.heap.size⟩ (newT n o k) ∧ Pool wr gp (s.promise o n) ∧ Fr (· = gp) w wr) (fun _ i _ => n - (intOf i).toNat)
    case atStart => exact ⟨0, by omega, rfl, hT, hPz, frz⟩
    case round =>
      clear hT hPz frz c2
      obtain ⟨k, hk, rfl, hT, hPz, frz⟩ := hrel
      by_cases hlt : k < n
      · have c2 := hT.1.cell 2
        have c := hT.2.1.cell k hlt
        have z := Cells.frozen hT.2.1 k
        have hT2 := hT.setFr k (-1)
        rw [newT_succ] at hT2
        have HT2 := Lib.hid hT2
        have HP2 := Lib.hid (Cells.far hPz (p := ⟨(w1.heap.size + 1), k, none⟩) (fun e => Hne.out (w1.heap.size + 1) (.inr (.inl rfl)) e.symm) (.int .i64 (-1)))
        have FR2 := Lib.hid (frz.setCell (p := ⟨(w1.heap.size + 1), k, none⟩) (.inr (Hbl.out (w1.heap.size + 1) (.inr (.inl rfl)))) (.int .i64 (-1)))
        clear hT2
        go_wp2_with fail
        go_roundw
        case rel => exact ⟨k + 1, by omega, by go_num, HT2.out, HP2.out, FR2.out⟩
        case measure => simp [intOf]; omega
      · have e : k = n := by omega
        subst e
        have hG : NewP w gp s o k (.returned (.tuple #[.pointer (some ⟨w1.heap.size + 1 + 1, 0, none⟩), .int .i64 0])) wr := ⟨_, rfl, rfl, newT_end hT, hPz, Hbl.out, frz⟩
        have HG := Lib.hid hG
        clear hG
        go_wp2_with fail
        go_ret2
        exact HG.out
end Go.Proofs.YthiephlfhbkcbaaDoor.Nt
