/- IrqBits: the walk. -/
import Derived.Test.YtnlkcmjnohageaaDoorIrqLaws
namespace Go.Proofs.YtnlkcmjnohageaaDoor.irqBits
open Go.RowKit Iq
set_option linter.unusedVariables false

set_option maxRecDepth 100000 in
set_option maxHeartbeats 2000000 in
theorem core (w : World) (hT : Tab w) (n : Int) (hn : (Lit.int .i64 n).wf = true) (b m : Nat) (hb : b < 4294967296) (hm : m < 4294967296) :
    Calls Tryd.prog 4 #[.int .i64 n, .int .u32 (b : Int), .int .u32 (m : Int)] w fun e w' => e = .returned (.bool true) ∧ Fr (fun _ => False) w w' := by
  obtain ⟨hn0, hn1⟩ := wf_i64 hn
  clear hn
  have hz := hT.1
  go_enter Tryd.func4, Tryd.ntmps4
  go_wp2_with fail
  refine (new_any _).mono ?_
  rintro e w1 ⟨rfl, b1, fr⟩
  have T1 := hT.fr fr (fun e => e)
  clear hT
  go_wp2_with fail
  refine (Bk.within_any _ _ _ _ hn0 hn1 (by omega) (by omega) (by omega)).mono ?_
  rintro e w1' ⟨rfl, rfl⟩
  obtain ⟨j, hj, hj8⟩ : ∃ j : Nat, (0 : Int) + n % (7 - 0 + 1) = (j : Int) ∧ j < 8 := ⟨((0 : Int) + n % (7 - 0 + 1)).toNat, by omega, by omega⟩
  rw [hj]
  clear hj hn0 hn1
  have wj : (Lit.int .i64 (j : Int)).wf = true := wf_i64_mk (by omega) (by omega)
  obtain ⟨k1, k2, k3, k4, k5, k6, k7⟩ := facts j hj8
  have hp : 2 ^ j < 256 := Nat.pow_lt_pow_right (a := 2) (by omega) hj8
  have Hkeep := Lib.hid (keeps j b hj8 hb)
  have Hgone := Lib.hid (gone j hj8)
  have Hbit := Lib.hid (bit_of j m hj8)
  have hpw := pw_of j hj8
  have HpI : Hid ((2 : Int) ^ j = ((2 ^ j : Nat) : Int)) := by show _ = _; simp
  generalize hP : 2 ^ j = P at *
  clear hP
  go_wp2_with fail
  have f1 := (Fr.refl (fun _ => False) w1).alloc (Obj.cells #[Value.int .i64 j] 3)
  refine (raise_any _ _ _ _ (b1.fr f1 (fun e => e)) (by omega) _ _ _ 1 [(j : Int)] (intsAt_lit [(j : Int)] (Blk.new _ _ _) (wf_list (by intro z hz; simp at hz; subst hz; exact wj))) (by simp [maxLen])).mono ?_
  rw [k3]
  rintro e w2 ⟨rfl, b2, f2⟩
  have T2 := (T1.fr f1 (fun e => e)).fr f2 (by omega)
  have fr := (fr.tr f1).trans f2 (by intro i hi e; omega)
  clear f1 f2 T1 b1 k3
  go_wp2_with fail
  have f1 := (Fr.refl (fun _ => False) w2).alloc (Obj.cells #[Value.int .i64 j, Value.int .i64 j] 3)
  refine (raise_any _ _ _ _ (b2.fr f1 (fun e => e)) (by omega) _ _ _ 2 [(j : Int), (j : Int)] (intsAt_lit [(j : Int), (j : Int)] (Blk.new _ _ _) (wf_list (by intro z hz; simp at hz; subst hz; exact wj))) (by simp [maxLen])).mono ?_
  rw [k4]
  rintro e w3 ⟨rfl, b3, f2⟩
  have T3 := (T2.fr f1 (fun e => e)).fr f2 (by omega)
  have fr := (fr.tr f1).trans f2 (by intro i hi e; omega)
  clear f1 f2 T2 b2 k4
  go_wp2_with fail
  refine (pending_any _ _ _ _ b3).mono ?_
  rintro e w4 ⟨rfl, rfl⟩
  have hba : bits .andNot .u32 (b : Int) (P : Int) = ((b &&& (4294967295 - P) : Nat) : Int) := u32_andNot_nat _ _ hb (by omega)
  go_wp2_with fail
  refine (clear_any _ _ _ _ _ b3 (by omega) (Nat.lt_of_le_of_lt Nat.and_le_left hb)).mono ?_
  rw [Hkeep.out]
  rintro e w4 ⟨rfl, b4, f4⟩
  have T4 := T3.fr f4 (by omega)
  have fr := fr.trans f4 (by intro i hi e; omega)
  clear f4 T3 b3 Hkeep hba
  go_wp2_with fail
  refine (pending_any _ _ _ _ b4).mono ?_
  rintro e w5 ⟨rfl, rfl⟩
  go_wp2_with fail
  refine (setMask_any _ _ _ _ _ b4 hm).mono ?_
  rintro e w5 ⟨rfl, b5, f5⟩
  have T5 := T4.fr f5 (by omega)
  have fr := fr.trans f5 (by intro i hi e; omega)
  clear f5 T4 b4
  go_wp2_with fail
  refine (next_any _ _ _ _ T5 b5 (by omega) (by omega)).mono ?_
  rw [Hbit.out]
  rintro e w6 ⟨rfl, b6, f6⟩
  have T6 := T5.fr f6 (fun e => e)
  have fr := fr.tr f6
  clear f6 T5 b5 Hbit
  go_wp2_with fail
  refine (setMask_any _ _ _ _ 255 b6 (by omega)).mono ?_
  rintro e w7 ⟨rfl, b7, f7⟩
  have T7 := T6.fr f7 (by omega)
  have fr := fr.trans f7 (by intro i hi e; omega)
  clear f7 T6 b6
  go_wp2_with fail
  refine (next_any _ _ _ _ T7 b7 (by omega) (by omega)).mono ?_
  rintro e w8 ⟨rfl, b8, f8⟩
  have T8 := T7.fr f8 (fun e => e)
  have fr := fr.tr f8
  clear f8 T7 b7
  go_wp2_with fail
  refine (clear_any _ _ _ _ _ b8 (by omega) (by omega)).mono ?_
  rw [Hgone.out]
  rintro e w9 ⟨rfl, b9, f9⟩
  have T9 := T8.fr f9 (by omega)
  have fr := fr.trans f9 (by intro i hi e; omega)
  clear f9 T8 b8
  go_wp2_with fail
  refine (next_any _ _ _ _ T9 b9 (by omega) (by omega)).mono ?_
  rintro e w10 ⟨rfl, b10, f10⟩
  have T10 := T9.fr f10 (fun e => e)
  have fr := fr.tr f10
  clear f10 T9 b9
  have h0 : 0 < P := by
    rcases Nat.eq_zero_or_pos P with h | h
    · subst h; cases k6
    · exact h
  have hlast : ((m : Int) / (2 : Int) ^ j).tmod 2 = ((m / P % 2 : Nat) : Int) := by
    rw [HpI.out, Int.tmod_eq_emod_of_nonneg (Int.ediv_nonneg (by omega) (by omega))]
    omega
  by_cases hbit : m / P % 2 = 1
  all_goals
    first
      | have hb1 : (m / P % 2 == 1) = true := by simpa using hbit
      | have hb1 : (m / P % 2 == 1) = false := by simpa using hbit
    first
      | have hb2 : (((m : Int) / (2 : Int) ^ j).tmod 2 == 1) = true := by rw [hlast]; simp; omega
      | have hb2 : (((m : Int) / (2 : Int) ^ j).tmod 2 == 1) = false := by rw [hlast]; simp; omega
    clear hlast
    go_wp2_with fail
    refine (pending_any _ _ _ _ b10).mono ?_
    rintro e w11 ⟨rfl, rfl⟩
    go_wp2_with fail
    refine (known_any _ T10).mono ?_
    rintro e w12 ⟨rfl, f12⟩
    go_wp2_with fail
    go_ret
    exact ⟨rfl, fr.tr f12⟩

theorem walk (w : World) (n : Int) (hn : (Lit.int .i64 n).wf = true) (b : Int) (hb : (Lit.int .u32 b).wf = true) (m : Int) (hm : (Lit.int .u32 m).wf = true) (hT : Tab w) :
    Calls Tryd.prog 4 #[.int .i64 n, .int .u32 b, .int .u32 m] w fun e w' => e = .returned (.bool true) ∧ Fr (fun _ => False) w w' := by
  obtain ⟨b0, b1⟩ := wf_u32 hb
  obtain ⟨m0, m1⟩ := wf_u32 hm
  obtain ⟨b, rfl⟩ := Int.eq_ofNat_of_zero_le b0
  obtain ⟨m, rfl⟩ := Int.eq_ofNat_of_zero_le m0
  exact core w hT n hn b m (by omega) (by omega)
end Go.Proofs.YtnlkcmjnohageaaDoor.irqBits
