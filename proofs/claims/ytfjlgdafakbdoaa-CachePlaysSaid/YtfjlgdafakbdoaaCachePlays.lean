/- CachePlays. -/
import Derived.Test.YtfjlgdafakbdoaaCaAl
namespace Go.Proofs.Ytfjlgdafakbdoaa.cachePlays
open Go.RowKit Ca Bk
set_option linter.unusedVariables false
set_option linter.unusedSimpArgs false
set_option maxHeartbeats 4000000
set_option maxRecDepth 100000

/-- where the loop stands -/
def PI (w : World) (gc gd i : Nat) (wr : World) : Prop := ∃ s d, Duo w.heap.size wr gc gd s d ∧ Same s d ∧ s.fl ≤ (i : Int) ∧ Fr (fun _ => False) w wr
theorem pi_start (w w1 w2 : World) (gc gm gd : Nat) (n : Int) (hn : 1 ≤ n ∧ n ≤ 1024) (h1 : Cch w1 gc (Cs.new n gm)) (hg1 : w.heap.size ≤ gc) (hgm1 : w.heap.size ≤ gm) (f1 : Fr (fun _ => False) w w1) (e : gd = w1.heap.size) (h2 : Doc w2 gd ⟨n, [], none, 0, 0⟩) (f2 : Fr (fun _ => False) w1 w2) : PI w gc gd 0 w2 := by
  have hs := f1.size
  have hs2 := f2.size
  have hlow := h1.low
  refine ⟨Cs.new n gm, ⟨n, [], none, 0, 0⟩, ⟨h1.fr0 f2, h2, fun q hq e2 => ?_, fun q hq => ?_, fun q hq => ?_, by omega⟩, ⟨rfl, rfl, rfl⟩, by show (0 : Int) ≤ ((0 : Nat) : Int); omega, f1.tr f2⟩
  · have := hlow q hq
    rcases e2 with e2 | e2 | ⟨b, hb, _⟩
    · omega
    · cases e2
    · cases hb
  · exact (own_new (K := fun q => q < w.heap.size) (n := n) (by omega) (by omega) : OwnK _ gc (Cs.new n gm)) q hq |> Nat.ge_of_not_lt
  · rcases hq with e2 | e2 | ⟨b, hb, _⟩
    · omega
    · cases e2
    · cases hb
/-- one call -/
def DoI (w : World) (gc gd i : Nat) (wr : World) (e : Ending) (w' : World) : Prop := e = .returned (.bool true) ∧ Hid (PI w gc gd (i + 1) w')
theorem do_i {w wr : World} {gc gd i : Nat} (h : PI w gc gd i wr) (hi : i ≤ 100) (W : World) (f : Fr (fun _ => False) wr W) (x : Ask23) (hx : x.Ok W w.heap.size) :
    Calls Try.prog 21 #[.pointer (some ⟨gc, 0, none⟩), .pointer (some ⟨gd, 0, none⟩), .agg #[.int .i64 x.kd, .int .i64 x.ct, .int .u32 x.a0, .int .u32 x.a1, .int .u32 x.b0, .int .u32 x.b1, .slice x.A x.len x.cap, .slice x.pA x.pl x.pc]] W (DoI w gc gd i W) := by
  obtain ⟨s, d, hD, hS, hfl, fr⟩ := h
  refine (do_any w.heap.size W gc gd s d (hD.fr0 f) hS (by omega) x hx).mono ?_
  rintro e w' ⟨g1, s', d', g2, g3, _, g4, g5⟩
  exact ⟨g1, Lib.hid ⟨s', d', g2, g3, by omega, (fr.tr f).trans g5 (fun q hq e => by have := hD.lo q e; omega)⟩⟩
theorem alike_i {w wr : World} {gc gd i : Nat} (h : PI w gc gd i wr) (a0 a1 : Int) (ha : (Lit.int .u32 a0).wf = true) (hb : (Lit.int .u32 a1).wf = true) :
    Calls Try.prog 22 #[.pointer (some ⟨gc, 0, none⟩), .pointer (some ⟨gd, 0, none⟩), .agg #[.int .u32 a0, .int .u32 a1]] wr fun e w' => e = .returned (.bool true) ∧ Hid (PI w gc gd i w' ∧ Fr (fun _ => False) wr w') := by
  obtain ⟨s, d, hD, hS, hfl, fr⟩ := h
  refine (alike_any w.heap.size wr gc gd s d hD hS a0 a1 ha hb).mono ?_
  rintro e w' ⟨g1, g2⟩
  exact ⟨g1, Lib.hid ⟨⟨s, d, hD.fr0 g2, hS, hfl, fr.tr g2⟩, g2⟩⟩
theorem walk (w : World) (room : Int) (hroom : (Lit.int .i64 room).wf = true) (A0 : Option Addr) (len cap : Nat) (hlm : AsksAt w w.heap.size A0 len ∧ len ≤ maxLen) :
    Calls Try.prog 6 #[.int .i64 room, .slice A0 len cap] w fun e w' => e = .returned (.bool true) ∧ Fr (fun _ => False) w w' := by
  obtain ⟨hl, hm⟩ := hlm
  obtain ⟨r0, r1⟩ := wf_i64 hroom
  clear hroom
  obtain ⟨k, hk⟩ : ∃ k : Int, 1 + room % 9 = k := ⟨_, rfl⟩
  have hk1 : 1 ≤ k := by omega
  have hk2 : k ≤ 9 := by omega
  have Hw : Hid (∀ W, Calls Try.prog 8 #[.int .i64 room, .int .i64 1, .int .i64 9] W fun e w' => e = .returned (.int .i64 k) ∧ W = w') := Lib.hid (fun W => by
    have := within_any W room 1 9 r0 r1 (by omega) (by omega) (by omega)
    rw [show (9 : Int) - 1 + 1 = 9 by omega, hk] at this
    exact this)
  have Hn := Lib.hid (new_yes w k (by omega) (by omega))
  have HL := Lib.hid hl
  unfold maxLen at hm
  clear hl hk
  go_enter Try.func6, Try.ntmps6
  go_wp2_with fail
  refine (Hw.out _).mono ?_
  rintro e w' ⟨rfl, rfl⟩
  go_wp2_with fail
  refine (Hn.out).mono ?_
  rintro e w1 ⟨gc, gm, rfl, h1, hg1, hgm1, hg2, hgm2, f1⟩
  have Hr := Lib.hid (rnew_any w1 k ⟨by omega, by omega⟩)
  have H1 := Lib.hid h1
  have F1 := Lib.hid f1
  clear Hn h1 f1
  go_wp2_with fail
  refine (Hr.out).mono ?_
  rintro e w2 ⟨gd, rfl, hgd, h2, f2⟩
  have HPI0 := Lib.hid (pi_start w w1 w2 gc gm gd k ⟨by omega, by omega⟩ H1.out hg1 hgm1 F1.out hgd h2 f2)
  clear hgd h2 f2 Hr H1 F1
  go_wp2_with fail
  go_loopw [9] (fun i wr => ∃ j : Nat, j ≤ len ∧ j ≤ 60 ∧ i = .int .i64 j ∧ Hid (PI w gc gd j wr)) (fun i _ => len - (intOf i).toNat)
  case atStart => exact ⟨0, by omega, by omega, rfl, HPI0⟩
  case round =>
    obtain ⟨i, hi, hi60, rfl, HP⟩ := hrel
    obtain ⟨wo, rfl⟩ : ∃ wo : World, wo = wr := ⟨_, rfl⟩
    clear HPI0
    by_cases hlt : i < len ∧ i < 60
    · obtain ⟨hl1, hl2⟩ := hlt
      obtain ⟨b, off, hA0, hb, x, hx⟩ := HL.out.at_ hl1
      subst hA0
      have hfr : Fr (fun _ => False) w wo := by obtain ⟨_, _, _, _, _, fr⟩ := HP.out; exact fr
      have hx2 := hx.fr hfr hb (Nat.le_refl _) (fun _ _ e => e)
      obtain ⟨⟨c0, c1, c2, c3, c4, c5, c6, c7⟩, hok⟩ := hx2
      have Hdo := Lib.hid (do_i HP.out (by omega) wo (Fr.refl _ _) x hok)
      have HX := Lib.hid hx
      have HOK := Lib.hid hok
      have hbl : b < wo.heap.size := Nat.lt_of_lt_of_le hb hfr.size
      obtain ⟨kd, ct, a0, a1, b0, b1, A, ln, cp, zs, pA, pl, pc, ps⟩ := x
      have c0 : wo.cell? ⟨b, off + i * 8, none⟩ = some (.int .i64 kd) := c0
      have c1 : wo.cell? ⟨b, off + i * 8 + 1, none⟩ = some (.int .i64 ct) := c1
      have c2 : wo.cell? ⟨b, off + i * 8 + 2, none⟩ = some (.int .u32 a0) := c2
      have c3 : wo.cell? ⟨b, off + i * 8 + 3, none⟩ = some (.int .u32 a1) := c3
      have c4 : wo.cell? ⟨b, off + i * 8 + 4, none⟩ = some (.int .u32 b0) := c4
      have c5 : wo.cell? ⟨b, off + i * 8 + 5, none⟩ = some (.int .u32 b1) := c5
      have c6 : wo.cell? ⟨b, off + i * 8 + 6, none⟩ = some (.slice A ln cp) := c6
      have c7 : wo.cell? ⟨b, off + i * 8 + 7, none⟩ = some (.slice pA pl pc) := c7
      have Hdo : Hid (Calls Try.prog 21 #[.pointer (some ⟨gc, 0, none⟩), .pointer (some ⟨gd, 0, none⟩), .agg #[.int .i64 kd, .int .i64 ct, .int .u32 a0, .int .u32 a1, .int .u32 b0, .int .u32 b1, .slice A ln cp, .slice pA pl pc]] wo (DoI w gc gd i wo)) := Hdo
      have hd1 : decide ((i : Int) < (len : Int)) = true := by simp; omega
      have hd2 : decide ((i : Int) < 60) = true := by simp; omega
      have hi0 : (0 : Int) ≤ (i : Int) := by omega
      have hi1 : (i : Int) < (len : Int) := by omega
      clear hx hok hfr
      go_wp2_with fail
      refine (Hdo.out).mono ?_
      rintro e w3 ⟨rfl, HP3⟩
      have FW3 : Hid (Fr (fun _ => False) w w3) := Lib.hid (by obtain ⟨_, _, _, _, _, fr⟩ := HP3.out; exact fr)
      obtain ⟨⟨_, _, u2, u3, u4, u5, _, _⟩, _⟩ := HX.out.fr FW3.out hb (Nat.le_refl _) (fun _ _ e => e)
      have u2 : w3.cell? ⟨b, off + i * 8 + 2, none⟩ = some (.int .u32 a0) := u2
      have u3 : w3.cell? ⟨b, off + i * 8 + 3, none⟩ = some (.int .u32 a1) := u3
      have Ha := Lib.hid (alike_i HP3.out a0 a1 HOK.out.a0 HOK.out.a1)
      clear c0 c1 c2 c3 c4 c5 c6 c7 u4 u5
      go_wp2_with fail
      refine (Ha.out).mono ?_
      rintro e w4 ⟨rfl, HP4⟩
      obtain ⟨⟨_, _, v2, v3, v4, v5, _, _⟩, _⟩ := HX.out.fr (FW3.out.tr HP4.out.2) hb (Nat.le_refl _) (fun _ _ e => e)
      have v4 : w4.cell? ⟨b, off + i * 8 + 4, none⟩ = some (.int .u32 b0) := v4
      have v5 : w4.cell? ⟨b, off + i * 8 + 5, none⟩ = some (.int .u32 b1) := v5
      have Hb := Lib.hid (alike_i HP4.out.1 b0 b1 HOK.out.b0 HOK.out.b1)
      clear u2 u3 v2 v3
      go_wp2_with fail
      refine (Hb.out).mono ?_
      rintro e w5 ⟨rfl, HP5⟩
      have HE := Lib.hid HP5.out.1
      clear v4 v5
      go_wp2_with fail
      exact ⟨⟨i + 1, by omega, by omega, by go_num, HE⟩, by simp [intOf]; omega⟩
    · have hcase : (decide ((i : Int) < (len : Int)) = false ∧ decide (i < len) = false) ∨ (decide ((i : Int) < (len : Int)) = true ∧ decide ((i : Int) < 60) = false ∧ decide (i < len) = true) := by
        by_cases h1 : i < len
        · right
          exact ⟨by simp; omega, by simp; omega, by simp; omega⟩
        · left
          exact ⟨by simp; omega, by simp; omega⟩
      clear hlt
      obtain ⟨s9, c9, o9, l9, m9, f9⟩ := HP.out
      have F9 := Lib.hid f9
      have Hkn := Lib.hid (known_any wo)
      clear o9 l9 m9 f9
      rcases hcase with ⟨hd1, hd2⟩ | ⟨hd1, hd2, hd4⟩
      all_goals
        go_wp2_with fail
        refine (Hkn.out).mono ?_
        rintro e w9 ⟨rfl, f9⟩
        have F10 := Lib.hid (F9.out.tr f9)
        clear f9
        go_wp2_with fail
        go_ret
        exact ⟨rfl, F10.out⟩
end Go.Proofs.Ytfjlgdafakbdoaa.cachePlays
