/- innkeeperlaw9.do: a call on a buffer, and on the document's. -/
import Derived.Test.YtbooebeceopplaaTlbLaws
import Derived.Test.YtbooebeceopplaaBoxes
import Derived.RegionTactic
namespace Go.Proofs.Ytbooebeceopplaa.Tl
open Go.RowKit
set_option linter.unusedVariables false
set_option maxHeartbeats 4000000

/-- both hold the same entries -/
def Both (w : World) (gb gu : Nat) (l : Nat → Ent) : Prop := Buf w gb l ∧ Uni w gu none l ∧ gb ≠ gu
theorem Both.fr {w w' : World} {gb gu : Nat} {l : Nat → Ent} {S : Nat → Prop} (h : Both w gb gu l) (f : Fr S w w') (h1 : ¬ S gb) (h2 : ¬ S gu) : Both w' gb gu l := ⟨h.1.fr f h1, h.2.1.fr f h2, h.2.2⟩
def DoP (w : World) (gb gu : Nat) (e : Ending) (w' : World) : Prop := e = .returned (.bool true) ∧ (∃ l, Both w' gb gu l) ∧ Fr (fun k => k = gb ∨ k = gu) w w'
abbrev ask_ (kd how va p b : Int) (s : Bool) : Value := .agg #[.int .i64 kd, .int .i64 how, .int .u32 va, .int .u32 p, .int .u32 b, .bool s]

set_option maxRecDepth 100000 in
theorem do_any (w : World) (gb gu : Nat) (l : Nat → Ent) (kd how va p b : Int) (s : Bool) (hv : 0 ≤ va) (hv1 : va ≤ 4294967295) (h : Both w gb gu l) :
    Calls Try.prog 20 #[.pointer (some ⟨gb, 0, none⟩), .pointer (some ⟨gu, 0, none⟩), ask_ kd how va p b s] w (DoP w gb gu) := by
  obtain ⟨hb, hu, hne⟩ := h
  obtain ⟨k, hk⟩ : ∃ k : Nat, va / 64 % 16 = k := ⟨(va / 64 % 16).toNat, by omega⟩
  have hk16 : k < 16 := by omega
  have Hk := Lib.hid hk
  clear hk
  have hq : 0 ≤ va / 64 := by omega
  have hlb := hb.lt
  have hlu := hu.lt
  have n0 : w.heap.size ≠ gb := by omega
  have n1 : w.heap.size ≠ gu := by omega
  have n2 : w.heap.size + 1 ≠ gb := by omega
  have n3 : w.heap.size + 1 ≠ gu := by omega
  have n4 : ¬ (w.heap.size = gb ∨ w.heap.size = gu) := by omega
  have n5 : ¬ (gb = gu) := hne
  have n6 : ¬ (gu = gb) := fun e => hne e.symm
  have hA := Blk.new w 36 #[.int .i64 kd, .int .i64 how, .int .u32 va, .int .u32 p, .int .u32 b, .bool s]
  have frA := (Fr.refl (fun k => k = gb ∨ k = gu) w).alloc (.cells #[.int .i64 kd, .int .i64 how, .int .u32 va, .int .u32 p, .int .u32 b, .bool s] 36)
  have hbA := hb.alloc (.cells #[.int .i64 kd, .int .i64 how, .int .u32 va, .int .u32 p, .int .u32 b, .bool s] 36)
  have huA : Uni _ gu none l := Cells.alloc hu (.cells #[.int .i64 kd, .int .i64 how, .int .u32 va, .int .u32 p, .int .u32 b, .bool s] 36)
  have HA := Lib.hid hA
  by_cases h1 : kd = 1
  · subst h1
    by_cases hh : 0 < how.tmod 5
    · have hB := Blk.new' (w.alloc (.cells #[.int .i64 1, .int .i64 how, .int .u32 va, .int .u32 p, .int .u32 b, .bool s] 36)) 27 #[.bool true, .int .u32 (va / 64), .int .u32 p, .int .u32 b] (n := w.heap.size + 1) (by simp)
      have hbB := hbA.alloc (.cells #[.bool true, .int .u32 (va / 64), .int .u32 p, .int .u32 b] 27)
      have huB : Uni _ gu none l := Cells.alloc huA (.cells #[.bool true, .int .u32 (va / 64), .int .u32 p, .int .u32 b] 27)
      have frB := frA.alloc (.cells #[.bool true, .int .u32 (va / 64), .int .u32 p, .int .u32 b] 27)
      have hAB := hA.alloc (.cells #[.bool true, .int .u32 (va / 64), .int .u32 p, .int .u32 b] 27)
      have hfill := fill_yes _ gb l ⟨true, va / 64, p, b⟩ (Cells.drew hbB) rfl hq
      dsimp only at hfill
      have HB := Lib.hid hB
      have HAB := Lib.hid hAB
      clear hA hB hAB
      go_enter Try.func20, Try.ntmps20
      go_wp2_with fail
      go_region_with ((go_at_call 13; refine hfill.mono ?_; rintro e w1 ⟨rfl, b1, f1⟩; obtain ⟨q0, q1, q2, q3⟩ := Fr.blk4 (Blk.drew HB.out) f1 n2; obtain ⟨r0, r1, r2, r3, r4, r5⟩ := Fr.blk6 (Blk.drew HAB.out) f1 n0))
      all_goals
        rw [Hk.out] at b1
        have u1 : Uni w1 gu none l := Cells.fr huB.drew f1 n6
        have fr1 := (Fr.drew frB).tr f1.inl2
        obtain ⟨c0, c1, c2, c3⟩ := u1.ent k hk16
        have z0 := Cells.frozen u1 (1 + k * 4)
        have z1 := Cells.frozen u1 (1 + k * 4 + 1)
        have z2 := Cells.frozen u1 (1 + k * 4 + 2)
        have z3 := Cells.frozen u1 (1 + k * 4 + 3)
        have u2 := Uni.put u1 k hk16 true (va / 64) p b
        have fr2 : Fr (fun k => k = gb ∨ k = gu) w1 _ := Fr.put4 (Fr.refl _ w1) (.inr rfl) (1 + k * 4) (1 + k * 4 + 1) (1 + k * 4 + 2) (1 + k * 4 + 3) (.bool true) (.int .u32 (va / 64)) (.int .u32 p) (.int .u32 b)
        have b2 : Buf _ gb _ := Cells.far (Cells.far (Cells.far (Cells.far b1 (p := ⟨gu, 1 + k * 4, none⟩) n5 (.bool true)) (p := ⟨gu, 1 + k * 4 + 1, none⟩) n5 (.int .u32 (va / 64))) (p := ⟨gu, 1 + k * 4 + 2, none⟩) n5 (.int .u32 p)) (p := ⟨gu, 1 + k * 4 + 3, none⟩) n5 (.int .u32 b)
        have k2 : ∀ i, (((((w1.setCell ⟨gu, 1 + k * 4, none⟩ (.bool true)).setCell ⟨gu, 1 + k * 4 + 1, none⟩ (.int .u32 (va / 64))).setCell ⟨gu, 1 + k * 4 + 2, none⟩ (.int .u32 p)).setCell ⟨gu, 1 + k * 4 + 3, none⟩ (.int .u32 b))).cell? ⟨w.heap.size, i, none⟩ = w1.cell? ⟨w.heap.size, i, none⟩ := fun i => by
          rw [World.cell?_setCell_other _ _ _ _ (by simp), World.cell?_setCell_other _ _ _ _ (by simp), World.cell?_setCell_other _ _ _ _ (by simp), World.cell?_setCell_other _ _ _ _ (by simp)]
        have k2' := (k2 2).trans r2
        have U2 := Lib.hid u2
        have B2 := Lib.hid b2
        have F2 := Lib.hid fr2
        have hk := Hk.out
        clear k2 u2 b2 fr2 b1 u1 f1
        go_wp2_with fail
        go_region
        all_goals
          clear hk
          go_wp2_with fail
          refine (same_any _ gb gu none _ va hv hv1 (Cells.drew B2.out) (Cells.drew U2.out)).mono ?_
          rintro e w3 ⟨rfl, f3⟩
          go_wp2_with fail
          go_ret
          exact ⟨rfl, ⟨_, Cells.fr (Cells.drew B2.out) f3 (fun e => e), Cells.fr (Cells.drew U2.out) f3 (fun e => e), hne⟩, (fr1.tr (Fr.drew F2.out)).tr (Fr.none f3)⟩
    · have hh' : decide (0 < how.tmod 5) = false := by simpa using hh
      have hB := Blk.new' (w.alloc (.cells #[.int .i64 1, .int .i64 how, .int .u32 va, .int .u32 p, .int .u32 b, .bool s] 36)) 27 #[.bool false, .int .u32 (va / 64), .int .u32 p, .int .u32 b] (n := w.heap.size + 1) (by simp)
      have hbB := hbA.alloc (.cells #[.bool false, .int .u32 (va / 64), .int .u32 p, .int .u32 b] 27)
      have huB : Uni _ gu none l := Cells.alloc huA (.cells #[.bool false, .int .u32 (va / 64), .int .u32 p, .int .u32 b] 27)
      have frB := frA.alloc (.cells #[.bool false, .int .u32 (va / 64), .int .u32 p, .int .u32 b] 27)
      have hAB := hA.alloc (.cells #[.bool false, .int .u32 (va / 64), .int .u32 p, .int .u32 b] 27)
      have hfill := fill_no _ gb l (va / 64) p b (Cells.drew hbB)
      have HB := Lib.hid hB
      have HAB := Lib.hid hAB
      clear hA hB hAB
      go_enter Try.func20, Try.ntmps20
      go_wp2_with fail
      go_region_with ((go_at_call 13; refine hfill.mono ?_; rintro e w1 ⟨rfl, f1⟩; obtain ⟨q0, q1, q2, q3⟩ := Fr.blk4 (Blk.drew HB.out) f1 (fun e => e); obtain ⟨r0, r1, r2, r3, r4, r5⟩ := Fr.blk6 (Blk.drew HAB.out) f1 (fun e => e)))
      all_goals
        have u1 : Uni w1 gu none l := Cells.fr huB.drew f1 (fun e => e)
        have b1 : Buf w1 gb l := Cells.fr hbB.drew f1 (fun e => e)
        have fr1 := (Fr.drew frB).tr (Fr.none f1)
        go_wp2_with fail
        refine (same_any _ gb gu none _ va hv hv1 b1 u1).mono ?_
        rintro e w3 ⟨rfl, f3⟩
        go_wp2_with fail
        go_ret
        exact ⟨rfl, ⟨_, b1.fr f3 (fun e => e), u1.fr f3 (fun e => e), hne⟩, fr1.tr (Fr.none f3)⟩
  · have g1 : (kd == 1) = false := by simpa using h1
    by_cases h2 : kd = 2
    · subst h2
      go_enter Try.func20, Try.ntmps20
      go_wp2_with fail
      refine (drop_any _ gb l va hv hv1 k Hk.out hbA).mono ?_
      rintro e w1 ⟨rfl, b1, f1⟩
      obtain ⟨q0, q1, q2, q3, q4, q5⟩ := Fr.blk6 HA.out f1 n0
      have u1 : Uni w1 gu none l := Cells.fr huA f1 n6
      have fr1 := frA.tr f1.inl2
      go_wp2_with fail
      refine (uDrop_any _ gu none l va hv hv1 k Hk.out u1).mono ?_
      rintro e w2 ⟨rfl, u2, f2⟩
      have c2 := f2.cell q2 (Nat.lt_of_lt_of_le (by simp) f1.size) n1
      have b2 := b1.fr f2 n5
      have fr2 := fr1.tr f2.inr2
      go_wp2_with fail
      refine (same_any _ gb gu none _ va hv hv1 b2 u2).mono ?_
      rintro e w3 ⟨rfl, f3⟩
      go_wp2_with fail
      go_ret
      exact ⟨rfl, ⟨_, b2.fr f3 (fun e => e), u2.fr f3 (fun e => e), hne⟩, fr2.tr f3.none⟩
    · have g2 : (kd == 2) = false := by simpa using h2
      by_cases h3 : kd = 3
      · subst h3
        go_enter Try.func20, Try.ntmps20
        go_wp2_with fail
        refine (flush_any _ gb l hbA).mono ?_
        rintro e w1 ⟨rfl, b1, f1⟩
        obtain ⟨q0, q1, q2, q3, q4, q5⟩ := Fr.blk6 HA.out f1 n0
        have u1 : Uni w1 gu none l := Cells.fr huA f1 n6
        have fr1 := frA.tr f1.inl2
        go_wp2_with fail
        refine (uFlush_any _ gu none l u1).mono ?_
        rintro e w2 ⟨rfl, u2, f2⟩
        have c2 := f2.cell q2 (Nat.lt_of_lt_of_le (by simp) f1.size) n1
        have b2 := b1.fr f2 n5
        have fr2 := fr1.tr f2.inr2
        go_wp2_with fail
        refine (same_any _ gb gu none _ va hv hv1 b2 u2).mono ?_
        rintro e w3 ⟨rfl, f3⟩
        go_wp2_with fail
        go_ret
        exact ⟨rfl, ⟨_, b2.fr f3 (fun e => e), u2.fr f3 (fun e => e), hne⟩, fr2.tr f3.none⟩
      · have g3 : (kd == 3) = false := by simpa using h3
        go_enter Try.func20, Try.ntmps20
        go_wp2_with fail
        refine (same_any _ gb gu none _ va hv hv1 hbA huA).mono ?_
        rintro e w3 ⟨rfl, f3⟩
        go_wp2_with fail
        go_ret
        exact ⟨rfl, ⟨_, hbA.fr f3 (fun e => e), huA.fr f3 (fun e => e), hne⟩, frA.tr f3.none⟩
end Go.Proofs.Ytbooebeceopplaa.Tl
