/- The statements' tables (innkeeperlaw8.tables). -/
import Derived.Test.YtijhbhhcaicdfaaWalkA
import Derived.Test.YtijhbhhcaicdfaaBook
import Derived.Deep.RegionHeld
namespace Go.Proofs.Ytijhbhhcaicdfaa.Wk
open Go.RowKit Fm Nt Rm By
set_option linter.unusedVariables false
set_option maxHeartbeats 8000000

structure Pt where
  place : Int
  page : Int
  bits : Int
def PtAt (w : World) (b o : Nat) (x : Pt) : Prop :=
  (w.cell? ⟨b, o, none⟩ = some (.int .i64 x.place) ∧ w.cell? ⟨b, o + 1, none⟩ = some (.int .i64 x.page) ∧ w.cell? ⟨b, o + 2, none⟩ = some (.int .u32 x.bits)) ∧
  (Lit.int .i64 x.place).wf = true ∧ (Lit.int .i64 x.page).wf = true ∧ (Lit.int .u32 x.bits).wf = true
def PtsAt (w : World) (B : Nat) (A : Option Addr) (n : Nat) (L : Nat → Pt) : Prop := ∀ i, i < n → ∃ b off, A = some ⟨b, off, none⟩ ∧ b < B ∧ PtAt w b (off + i * 3) (L i)
theorem PtAt.fr {w w' : World} {b o : Nat} {x : Pt} {S : Nat → Prop} (h : PtAt w b o x) (f : Fr S w w') (hb : b < w.heap.size) (hs : ¬ S b) : PtAt w' b o x :=
  ⟨⟨f.cell h.1.1 hb hs, f.cell h.1.2.1 hb hs, f.cell h.1.2.2 hb hs⟩, h.2⟩
def Pt.at_ (x : Pt) : Nat := (x.place % 1001 % 48 * 4).toNat
/-- the entry -/
def Pt.v1 (x : Pt) : Int := x.page % 1001 % 10 * 256 + x.bits % 128
def Pt.v (x : Pt) : Int := if 0 < x.bits / 256 % 4 then x.v1 / 2 * 2 + 1 else x.v1
/-- r of its bytes laid -/
def part4 (z : Nat → Int) (x : Pt) (r : Nat) : Nat → Int := fun i => if x.at_ ≤ i ∧ i < x.at_ + r then (if i - x.at_ = 0 then x.v % 256 else if i - x.at_ = 1 then x.v / 256 % 256 else if i - x.at_ = 2 then x.v / 65536 % 256 else x.v / 16777216 % 256) else z i
def tabZ (L : Nat → Pt) : Nat → Nat → Int
  | 0 => fun _ => 0
  | k + 1 => part4 (tabZ L k) (L k) 4
theorem or1 (x : Int) (h0 : 0 ≤ x) (h1 : x ≤ 4294967295) : bits .or .u32 x 1 = x / 2 * 2 + 1 := by
  obtain ⟨a, rfl⟩ : ∃ a : Nat, x = a := ⟨x.toNat, by omega⟩
  have := u32_or_nat a 1 (by omega) (by omega)
  have e : a ||| 1 = a / 2 * 2 + 1 := by
    apply Nat.eq_of_testBit_eq
    intro i
    rw [Nat.testBit_or]
    cases i with
    | zero => simp [Nat.testBit_zero]
    | succ i =>
      rw [Nat.testBit_succ, Nat.testBit_succ, Nat.testBit_succ]
      rw [show (a / 2 * 2 + 1) / 2 = a / 2 by omega]
      simp
  rw [e] at this
  rw [show ((1 : Nat) : Int) = 1 from rfl] at this
  rw [this]
  omega
theorem tabZ_bd (L : Nat → Pt) : ∀ k i, 0 ≤ tabZ L k i ∧ tabZ L k i < 256 := by
  intro k
  induction k with
  | zero => intro i; show (0 : Int) ≤ 0 ∧ (0 : Int) < 256; omega
  | succ k ih =>
    intro i
    show 0 ≤ part4 (tabZ L k) (L k) 4 i ∧ part4 (tabZ L k) (L k) 4 i < 256
    unfold part4
    split
    · split
      · omega
      · split
        · omega
        · split <;> omega
    · exact ih i
theorem set_u8 {w : World} {g n : Nat} {z : Nat → Int} (h : Cells w g 5 n (fun k => .int .u8 (z k))) (j : Nat) (x : Int) : Cells (w.setCell ⟨g, j, none⟩ (.int .u8 x)) g 5 n (fun k => .int .u8 (updI z j x k)) :=
  Cells.congr (Cells.set_ h j _) (fun i hi => by unfold putV updI; split <;> rfl)
theorem part4_succ (z : Nat → Int) (x : Pt) (r : Nat) (b : Int) (hb : b = if r = 0 then x.v % 256 else if r = 1 then x.v / 256 % 256 else if r = 2 then x.v / 65536 % 256 else x.v / 16777216 % 256) : updI (part4 z x r) (x.at_ + r) b = part4 z x (r + 1) := by
  funext i
  unfold updI part4
  by_cases e : i = x.at_ + r
  · have h1 : x.at_ ≤ i ∧ i < x.at_ + (r + 1) := by omega
    have h2 : i - x.at_ = r := by omega
    rw [if_pos e, if_pos h1, hb, h2]
  · rw [if_neg e]
    by_cases h : x.at_ ≤ i ∧ i < x.at_ + r
    · have h1 : x.at_ ≤ i ∧ i < x.at_ + (r + 1) := by omega
      rw [if_pos h, if_pos h1]
    · have h1 : ¬ (x.at_ ≤ i ∧ i < x.at_ + (r + 1)) := by omega
      rw [if_neg h, if_neg h1]
def TabsD (w : World) (len : Nat) (L : Nat → Pt) (e : Ending) (w' : World) : Prop := e = .returned (.slice (some ⟨w.heap.size, 0, none⟩) 512 512) ∧ Cells w' w.heap.size 5 512 (fun i => .int .u8 (tabZ L (min len 40) i)) ∧ Fr (fun _ => False) w w'
set_option maxRecDepth 100000 in
theorem tables_any (w : World) (A : Option Addr) (len cap : Nat) (L : Nat → Pt) (hL : PtsAt w w.heap.size A len L) (hm : len ≤ maxLen) :
    Calls Try.prog 17 #[.slice A len cap] w (TabsD w len L) := by
  unfold maxLen at hm
  have HL := Lib.hid hL
  have hmk : ∀ W, (Instr.makeSlice 29 (.int .i64 512) (.int .i64 512)).run Try.prog W = .ok (.slice (some ⟨W.heap.size, 0, none⟩) 512 512) (W.alloc (.cells (zU 512) 5)) := fun W => run_makeU .i64 512 (by omega) W
  have hc0 : Cells (w.alloc (.cells (zU 512) 5)) w.heap.size 5 512 (fun i => .int .u8 (tabZ L 0 i)) := cellsU w 512 rfl
  have f0 := (Fr.refl (fun _ => False) w).alloc (.cells (zU 512) 5)
  clear hL
  go_enter Try.func17, Try.ntmps17
  go_wp2_with fail
  clear hmk
  generalize w.alloc (.cells (zU 512) 5) = wz at *
  go_loopw [4] (fun i wr => ∃ k : Nat, k ≤ len ∧ k ≤ 40 ∧ i = .int .i64 k ∧ Cells wr w.heap.size 5 512 (fun i => .int .u8 (tabZ L k i)) ∧ Fr (fun _ => False) w wr) (fun i _ => len - (intOf i).toNat)
  case atStart => exact ⟨0, by omega, by omega, rfl, hc0, f0⟩
  case round =>
    clear hc0 f0
    obtain ⟨k, hk, hk2, rfl, hC, fr⟩ := hrel
    obtain ⟨wo, rfl⟩ : ∃ wo : World, wo = wr := ⟨_, rfl⟩
    by_cases hlt : k < len ∧ k < 40
    · obtain ⟨h1, h2⟩ := hlt
      have hd1 : decide ((k : Int) < 40) = true := by simp; omega
      have hd2 : decide (k < len) = true := by simp; omega
      obtain ⟨b, off, rfl, hb, hx⟩ := HL.out k h1
      have hbw : b < wo.heap.size := Nat.lt_of_lt_of_le hb fr.size
      have hbg : b ≠ w.heap.size := by omega
      obtain ⟨⟨c0, c1, c2⟩, p0, p1, p2⟩ := hx.fr fr hb (fun e => e)
      obtain ⟨Lk, hLk⟩ : ∃ q, q = L k := ⟨_, rfl⟩
      rw [← hLk] at c0 c1 c2 p0 p1 p2
      have HLk := Lib.hid hLk
      have a0 := wf_i64 p0
      have a1 := wf_i64 p1
      obtain ⟨a2, a3⟩ := wf_u32 p2
      have Hw0 : Hid (∀ W, Calls Try.prog 37 #[.int .i64 Lk.place, .int .i64 0, .int .i64 1000] W fun e w' => e = .returned (.int .i64 (Lk.place % 1001)) ∧ W = w') := Lib.hid (fun W => by
        have := Bk.within_any W Lk.place 0 1000 a0.1 a0.2 (by omega) (by omega) (by omega)
        rw [show (0 : Int) + Lk.place % (1000 - 0 + 1) = Lk.place % 1001 by omega] at this
        exact this)
      have Hw1 : Hid (∀ W, Calls Try.prog 37 #[.int .i64 Lk.page, .int .i64 0, .int .i64 1000] W fun e w' => e = .returned (.int .i64 (Lk.page % 1001)) ∧ W = w') := Lib.hid (fun W => by
        have := Bk.within_any W Lk.page 0 1000 a1.1 a1.2 (by omega) (by omega) (by omega)
        rw [show (0 : Int) + Lk.page % (1000 - 0 + 1) = Lk.page % 1001 by omega] at this
        exact this)
      have xa : Lk.place % 1001 % 48 * 4 = (Lk.at_ : Int) := by unfold Pt.at_; omega
      have hat : Lk.at_ + 4 ≤ 192 := by unfold Pt.at_; omega
      have x1 : IntKind.u32.wrap (Lk.page % 1001 % 10) = Lk.page % 1001 % 10 := IntWalk.u32_in _ (by omega)
      have x2 : IntKind.u32.wrap (Lk.page % 1001 % 10 * 256) = Lk.page % 1001 % 10 * 256 := IntWalk.u32_in _ (by omega)
      have o8 : bits .or .u32 (Lk.page % 1001 % 10 * 256) (Lk.bits % 128) = Lk.v1 := or8 _ _ (by omega) (by omega) (by omega) (by omega) (by omega)
      have v10 : 0 ≤ Lk.v1 := by unfold Pt.v1; omega
      have v11 : Lk.v1 ≤ 4294967295 := by unfold Pt.v1; omega
      have m1 : (Lk.page % 1001).tmod 10 = Lk.page % 1001 % 10 := Int.tmod_eq_emod_of_nonneg (by omega)
      have m2 : Lk.bits.tmod 128 = Lk.bits % 128 := Int.tmod_eq_emod_of_nonneg a2
      have s1 : wo.drew.cell? ⟨b, off + k * 3 + 1, none⟩ = some (.int .i64 Lk.page) := c1
      have s2 : wo.drew.cell? ⟨b, off + k * 3 + 2, none⟩ = some (.int .u32 Lk.bits) := c2
      have hv0 : 0 ≤ Lk.v := by unfold Pt.v; split <;> omega
      have hv1 : Lk.v ≤ 4294967295 := by unfold Pt.v Pt.v1; split <;> omega
      have HC := Lib.hid hC
      have HFR := Lib.hid fr
      clear hx hLk p0 p1 p2 a0 a1 hC fr
      go_wp2_with fail
      refine (Hw0.out _).mono ?_
      rintro e w' ⟨rfl, rfl⟩
      go_wp2_with fail
      go_upto_region 6 with (fail)
      go_cut [6] (fun v wx => v = .int .u32 Lk.v1 ∧ Fr (fun _ => False) wo wx)
      case first => as_aux_lemma =>
        go_region_held (fun W => W.cell? ⟨b, off + k * 3 + 1, none⟩ = some (.int .i64 Lk.page) ∧ W.cell? ⟨b, off + k * 3 + 2, none⟩ = some (.int .u32 Lk.bits)) (exact ⟨s1, s2⟩) ((refine (Hw1.out _).mono ?_; rintro e w' ⟨rfl, rfl⟩))
        all_goals
          go_wp2_with fail
          go_meet
          exact ⟨by first | rfl | (rw [m1, m2, x1, x2, o8]), (Fr.refl _ wo).drew⟩
      case rest => as_aux_lemma =>
        obtain ⟨rfl, fx⟩ := hcut
        clear m1 m2 s1 s2 c0 c1 o8 x1 x2 Hw0 Hw1
        have c2' := fx.cell c2 hbw (fun e => e)
        clear c2
        have HC2 := Lib.hid (HC.out.fr fx (fun e => e))
        have HF2 := Lib.hid (HFR.out.tr fx)
        by_cases hbt : 0 < Lk.bits / 256 % 4
        · have t1 : decide (0 < Lk.bits / 256 % 4) = true := by simp [hbt]
          have o1 : bits .or .u32 Lk.v1 1 = Lk.v := by rw [or1 _ v10 v11, Pt.v, if_pos hbt]
          clear hbt v10 v11
          go_wp2_with fail
          go_loopw [7] (fun i wr => ∃ r : Nat, r ≤ 4 ∧ i = .int .i64 r ∧ Cells wr w.heap.size 5 512 (fun i => .int .u8 (part4 (tabZ L k) Lk r i)) ∧ Fr (fun _ => False) w wr) (fun i _ => 4 - (intOf i).toNat)
          case atStart => exact ⟨0, by omega, rfl, Cells.congr HC2.out (fun i hi => by unfold part4; rw [if_neg (by omega)]), HF2.out⟩
          case round =>
            obtain ⟨r, hr, rfl, hC, fr⟩ := hrel
            by_cases hlr : r < 4
            · rcases (by omega : r = 0 ∨ r = 1 ∨ r = 2 ∨ r = 3) with rfl | rfl | rfl | rfl
              · obtain ⟨jr, hjr⟩ : ∃ q : Nat, q = Lk.at_ := ⟨_, rfl⟩
                have s3 : (Lk.at_ : Int) = (jr : Int) := by omega
                have u3 : IntKind.u8.wrap Lk.v = Lk.v % 256 := IntKind.wrap_u8 _
                have cj := hC.cell jr (by omega)
                have zj := Cells.frozen hC jr
                have q0 : (0 : Int) ≤ (jr : Int) := by omega
                have q1 : (jr : Int) < 512 := by omega
                have HD : Hid (Cells (wr.setCell ⟨w.heap.size, jr, none⟩ (.int .u8 (Lk.v % 256))) w.heap.size 5 512 (fun i => .int .u8 (part4 (tabZ L k) Lk 1 i))) := Lib.hid (by
                  have := set_u8 hC jr (Lk.v % 256)
                  rw [hjr] at this ⊢
                  rw [show Lk.at_ = Lk.at_ + 0 from rfl, part4_succ _ _ 0 _ (by simp)] at this
                  exact this)
                have HF := Lib.hid (fr.setCell (p := ⟨w.heap.size, jr, none⟩) (.inr (Nat.le_refl _)) (.int .u8 (Lk.v % 256)))
                clear hC fr hjr
                go_wp2_with fail
                go_roundw
                case rel => exact ⟨1, by omega, rfl, HD.out, HF.out⟩
                case measure => simp [intOf]
              · obtain ⟨jr, hjr⟩ : ∃ q : Nat, q = Lk.at_ + 1 := ⟨_, rfl⟩
                have s3 : (Lk.at_ : Int) + 1 = (jr : Int) := by omega
                have s4 : IntKind.i64.wrap ((Lk.at_ : Int) + 1) = (jr : Int) := by rw [IntWalk.i64_in _ (by omega)]; omega
                have cj := hC.cell jr (by omega)
                have zj := Cells.frozen hC jr
                have q0 : (0 : Int) ≤ (jr : Int) := by omega
                have q1 : (jr : Int) < 512 := by omega
                have HD : Hid (Cells (wr.setCell ⟨w.heap.size, jr, none⟩ (.int .u8 (Lk.v / 256 % 256))) w.heap.size 5 512 (fun i => .int .u8 (part4 (tabZ L k) Lk 2 i))) := Lib.hid (by
                  have := set_u8 hC jr (Lk.v / 256 % 256)
                  rw [hjr] at this ⊢
                  rw [part4_succ _ _ 1 _ (by simp)] at this
                  exact this)
                have HF := Lib.hid (fr.setCell (p := ⟨w.heap.size, jr, none⟩) (.inr (Nat.le_refl _)) (.int .u8 (Lk.v / 256 % 256)))
                clear hC fr hjr
                go_wp2_with fail
                go_roundw
                case rel => exact ⟨2, by omega, rfl, HD.out, HF.out⟩
                case measure => simp [intOf]
              · obtain ⟨jr, hjr⟩ : ∃ q : Nat, q = Lk.at_ + 2 := ⟨_, rfl⟩
                have s3 : (Lk.at_ : Int) + 2 = (jr : Int) := by omega
                have s4 : IntKind.i64.wrap ((Lk.at_ : Int) + 2) = (jr : Int) := by rw [IntWalk.i64_in _ (by omega)]; omega
                have cj := hC.cell jr (by omega)
                have zj := Cells.frozen hC jr
                have q0 : (0 : Int) ≤ (jr : Int) := by omega
                have q1 : (jr : Int) < 512 := by omega
                have HD : Hid (Cells (wr.setCell ⟨w.heap.size, jr, none⟩ (.int .u8 (Lk.v / 65536 % 256))) w.heap.size 5 512 (fun i => .int .u8 (part4 (tabZ L k) Lk 3 i))) := Lib.hid (by
                  have := set_u8 hC jr (Lk.v / 65536 % 256)
                  rw [hjr] at this ⊢
                  rw [part4_succ _ _ 2 _ (by simp)] at this
                  exact this)
                have HF := Lib.hid (fr.setCell (p := ⟨w.heap.size, jr, none⟩) (.inr (Nat.le_refl _)) (.int .u8 (Lk.v / 65536 % 256)))
                clear hC fr hjr
                go_wp2_with fail
                go_roundw
                case rel => exact ⟨3, by omega, rfl, HD.out, HF.out⟩
                case measure => simp [intOf]
              · obtain ⟨jr, hjr⟩ : ∃ q : Nat, q = Lk.at_ + 3 := ⟨_, rfl⟩
                have s3 : (Lk.at_ : Int) + 3 = (jr : Int) := by omega
                have s4 : IntKind.i64.wrap ((Lk.at_ : Int) + 3) = (jr : Int) := by rw [IntWalk.i64_in _ (by omega)]; omega
                have cj := hC.cell jr (by omega)
                have zj := Cells.frozen hC jr
                have q0 : (0 : Int) ≤ (jr : Int) := by omega
                have q1 : (jr : Int) < 512 := by omega
                have HD : Hid (Cells (wr.setCell ⟨w.heap.size, jr, none⟩ (.int .u8 (Lk.v / 16777216))) w.heap.size 5 512 (fun i => .int .u8 (part4 (tabZ L k) Lk 4 i))) := Lib.hid (by
                  have := set_u8 hC jr (Lk.v / 16777216)
                  rw [hjr] at this ⊢
                  rw [part4_succ _ _ 3 _ (by simp; omega)] at this
                  exact this)
                have HF := Lib.hid (fr.setCell (p := ⟨w.heap.size, jr, none⟩) (.inr (Nat.le_refl _)) (.int .u8 (Lk.v / 16777216)))
                clear hC fr hjr
                go_wp2_with fail
                go_roundw
                case rel => exact ⟨4, by omega, rfl, HD.out, HF.out⟩
                case measure => simp [intOf]
            · have e : r = 4 := by omega
              rw [e] at hC
              have HD : Hid (Cells wr w.heap.size 5 512 (fun i => .int .u8 (tabZ L (k + 1) i))) := Lib.hid (by
                show Cells wr w.heap.size 5 512 (fun i => .int .u8 (part4 (tabZ L k) (L k) 4 i))
                rw [← HLk.out]
                exact hC)
              clear hC e
              go_wp2_with fail
              go_roundw
              case rel => exact ⟨k + 1, by omega, by omega, by go_num, HD.out, fr⟩
              case measure => simp [intOf]; omega
        · have t1 : decide (0 < Lk.bits / 256 % 4) = false := by simp; omega
          have ev : Lk.v1 = Lk.v := by rw [Pt.v, if_neg hbt]
          rw [ev]
          clear hbt v10 v11 ev
          go_wp2_with fail
          go_loopw [7] (fun i wr => ∃ r : Nat, r ≤ 4 ∧ i = .int .i64 r ∧ Cells wr w.heap.size 5 512 (fun i => .int .u8 (part4 (tabZ L k) Lk r i)) ∧ Fr (fun _ => False) w wr) (fun i _ => 4 - (intOf i).toNat)
          case atStart => exact ⟨0, by omega, rfl, Cells.congr HC2.out (fun i hi => by unfold part4; rw [if_neg (by omega)]), HF2.out⟩
          case round =>
            obtain ⟨r, hr, rfl, hC, fr⟩ := hrel
            by_cases hlr : r < 4
            · rcases (by omega : r = 0 ∨ r = 1 ∨ r = 2 ∨ r = 3) with rfl | rfl | rfl | rfl
              · obtain ⟨jr, hjr⟩ : ∃ q : Nat, q = Lk.at_ := ⟨_, rfl⟩
                have s3 : (Lk.at_ : Int) = (jr : Int) := by omega
                have u3 : IntKind.u8.wrap Lk.v = Lk.v % 256 := IntKind.wrap_u8 _
                have cj := hC.cell jr (by omega)
                have zj := Cells.frozen hC jr
                have q0 : (0 : Int) ≤ (jr : Int) := by omega
                have q1 : (jr : Int) < 512 := by omega
                have HD : Hid (Cells (wr.setCell ⟨w.heap.size, jr, none⟩ (.int .u8 (Lk.v % 256))) w.heap.size 5 512 (fun i => .int .u8 (part4 (tabZ L k) Lk 1 i))) := Lib.hid (by
                  have := set_u8 hC jr (Lk.v % 256)
                  rw [hjr] at this ⊢
                  rw [show Lk.at_ = Lk.at_ + 0 from rfl, part4_succ _ _ 0 _ (by simp)] at this
                  exact this)
                have HF := Lib.hid (fr.setCell (p := ⟨w.heap.size, jr, none⟩) (.inr (Nat.le_refl _)) (.int .u8 (Lk.v % 256)))
                clear hC fr hjr
                go_wp2_with fail
                go_roundw
                case rel => exact ⟨1, by omega, rfl, HD.out, HF.out⟩
                case measure => simp [intOf]
              · obtain ⟨jr, hjr⟩ : ∃ q : Nat, q = Lk.at_ + 1 := ⟨_, rfl⟩
                have s3 : (Lk.at_ : Int) + 1 = (jr : Int) := by omega
                have s4 : IntKind.i64.wrap ((Lk.at_ : Int) + 1) = (jr : Int) := by rw [IntWalk.i64_in _ (by omega)]; omega
                have cj := hC.cell jr (by omega)
                have zj := Cells.frozen hC jr
                have q0 : (0 : Int) ≤ (jr : Int) := by omega
                have q1 : (jr : Int) < 512 := by omega
                have HD : Hid (Cells (wr.setCell ⟨w.heap.size, jr, none⟩ (.int .u8 (Lk.v / 256 % 256))) w.heap.size 5 512 (fun i => .int .u8 (part4 (tabZ L k) Lk 2 i))) := Lib.hid (by
                  have := set_u8 hC jr (Lk.v / 256 % 256)
                  rw [hjr] at this ⊢
                  rw [part4_succ _ _ 1 _ (by simp)] at this
                  exact this)
                have HF := Lib.hid (fr.setCell (p := ⟨w.heap.size, jr, none⟩) (.inr (Nat.le_refl _)) (.int .u8 (Lk.v / 256 % 256)))
                clear hC fr hjr
                go_wp2_with fail
                go_roundw
                case rel => exact ⟨2, by omega, rfl, HD.out, HF.out⟩
                case measure => simp [intOf]
              · obtain ⟨jr, hjr⟩ : ∃ q : Nat, q = Lk.at_ + 2 := ⟨_, rfl⟩
                have s3 : (Lk.at_ : Int) + 2 = (jr : Int) := by omega
                have s4 : IntKind.i64.wrap ((Lk.at_ : Int) + 2) = (jr : Int) := by rw [IntWalk.i64_in _ (by omega)]; omega
                have cj := hC.cell jr (by omega)
                have zj := Cells.frozen hC jr
                have q0 : (0 : Int) ≤ (jr : Int) := by omega
                have q1 : (jr : Int) < 512 := by omega
                have HD : Hid (Cells (wr.setCell ⟨w.heap.size, jr, none⟩ (.int .u8 (Lk.v / 65536 % 256))) w.heap.size 5 512 (fun i => .int .u8 (part4 (tabZ L k) Lk 3 i))) := Lib.hid (by
                  have := set_u8 hC jr (Lk.v / 65536 % 256)
                  rw [hjr] at this ⊢
                  rw [part4_succ _ _ 2 _ (by simp)] at this
                  exact this)
                have HF := Lib.hid (fr.setCell (p := ⟨w.heap.size, jr, none⟩) (.inr (Nat.le_refl _)) (.int .u8 (Lk.v / 65536 % 256)))
                clear hC fr hjr
                go_wp2_with fail
                go_roundw
                case rel => exact ⟨3, by omega, rfl, HD.out, HF.out⟩
                case measure => simp [intOf]
              · obtain ⟨jr, hjr⟩ : ∃ q : Nat, q = Lk.at_ + 3 := ⟨_, rfl⟩
                have s3 : (Lk.at_ : Int) + 3 = (jr : Int) := by omega
                have s4 : IntKind.i64.wrap ((Lk.at_ : Int) + 3) = (jr : Int) := by rw [IntWalk.i64_in _ (by omega)]; omega
                have cj := hC.cell jr (by omega)
                have zj := Cells.frozen hC jr
                have q0 : (0 : Int) ≤ (jr : Int) := by omega
                have q1 : (jr : Int) < 512 := by omega
                have HD : Hid (Cells (wr.setCell ⟨w.heap.size, jr, none⟩ (.int .u8 (Lk.v / 16777216))) w.heap.size 5 512 (fun i => .int .u8 (part4 (tabZ L k) Lk 4 i))) := Lib.hid (by
                  have := set_u8 hC jr (Lk.v / 16777216)
                  rw [hjr] at this ⊢
                  rw [part4_succ _ _ 3 _ (by simp; omega)] at this
                  exact this)
                have HF := Lib.hid (fr.setCell (p := ⟨w.heap.size, jr, none⟩) (.inr (Nat.le_refl _)) (.int .u8 (Lk.v / 16777216)))
                clear hC fr hjr
                go_wp2_with fail
                go_roundw
                case rel => exact ⟨4, by omega, rfl, HD.out, HF.out⟩
                case measure => simp [intOf]
            · have e : r = 4 := by omega
              rw [e] at hC
              have HD : Hid (Cells wr w.heap.size 5 512 (fun i => .int .u8 (tabZ L (k + 1) i))) := Lib.hid (by
                show Cells wr w.heap.size 5 512 (fun i => .int .u8 (part4 (tabZ L k) (L k) 4 i))
                rw [← HLk.out]
                exact hC)
              clear hC e
              go_wp2_with fail
              go_roundw
              case rel => exact ⟨k + 1, by omega, by omega, by go_num, HD.out, fr⟩
              case measure => simp [intOf]; omega
    · have hkm : k = min len 40 := by omega
      have HX : Hid (TabsD w len L (.returned (.slice (some ⟨w.heap.size, 0, none⟩) 512 512)) wo) := Lib.hid ⟨rfl, hkm ▸ hC, fr⟩
      clear hC fr hkm
      go_wp2_with fail
      all_goals
        go_ret
        exact HX.out
end Go.Proofs.Ytijhbhhcaicdfaa.Wk
