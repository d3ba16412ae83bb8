/- DrivePlays: the walk. -/
import Derived.Test.YtlkagggkpaihaaaDriveOpen
namespace Go.Proofs.Ytlkagggkpaihaaa.drivePlays
open Go.RowKit Fm Nt Rm By Dr Rf
set_option linter.unusedVariables false
set_option maxHeartbeats 8000000

def askd (s at_ c : Int) (i : Nat) : Value := if i = 0 then .int .u32 s else if i = 1 then .int .u32 at_ else .int .u32 c
section
variable {w : World} {g : Nat} {s at_ c : Int}
theorem askd_new (w : World) (s at_ c : Int) : Cells (w.alloc (.cells #[.int .u32 s, .int .u32 at_, .int .u32 c] 46)) w.heap.size 46 3 (askd s at_ c) :=
  Cells.new _ _ #[.int .u32 s, .int .u32 at_, .int .u32 c] _ (fun i hi => by
    have hi : i < 3 := hi
    rcases (by omega : i = 0 ∨ i = 1 ∨ i = 2) with rfl | rfl | rfl <;> rfl)
theorem askd_c (h : Cells w g 46 3 (askd s at_ c)) : w.cell? ⟨g, 0, none⟩ = some (.int .u32 s) ∧ w.cell? ⟨g, 1, none⟩ = some (.int .u32 at_) ∧ w.cell? ⟨g, 2, none⟩ = some (.int .u32 c) :=
  ⟨h.cell 0 (by omega), h.cell 1 (by omega), h.cell 2 (by omega)⟩
end
set_option maxRecDepth 100000 in
theorem walk (w : World) (A : Option Addr) (len cap : Nat) (hc : len ≤ cap) (zs : List Int) (hz : IntsAt .u8 w w.heap.size A len zs) (hm : len ≤ maxLen) (A2 : Option Addr) (len2 cap2 : Nat) (hc2 : len2 ≤ cap2) (zs2 : List Int) (hz2 : IntsAt .u8 w w.heap.size A2 len2 zs2) (hm2 : len2 ≤ maxLen)
    (A3 : Option Addr) (len3 cap3 : Nat) (hl : AsksAt w w.heap.size A3 len3 ∧ len3 ≤ maxLen) :
    Calls Try.prog 6 #[.slice A len cap, .slice A2 len2 cap2, .slice A3 len3 cap3] w fun e w' => e = .returned (.bool true) ∧ Fr (fun _ => False) w w' := by
  obtain ⟨hl, hm3⟩ := hl
  have HL := Lib.hid hl
  unfold maxLen at hm3
  have Hcut1 : Hid (∀ W, Calls Try.prog 20 #[.slice A len cap, .int .i64 1024] W fun e w' => e = .returned (.slice A (min len 1024) cap) ∧ W = w') := fun W => cut_any W A len cap 1024 hm hc (by omega)
  have Hcut2 : Hid (∀ W, Calls Try.prog 20 #[.slice A2 len2 cap2, .int .i64 256] W fun e w' => e = .returned (.slice A2 (min len2 256) cap2) ∧ W = w') := fun W => cut_any W A2 len2 cap2 256 hm2 hc2 (by omega)
  have hy1 := hz.take (show min len 1024 ≤ len from Nat.min_le_left _ _)
  have hy2 := hz2.take (show min len2 256 ≤ len2 from Nat.min_le_left _ _)
  have hn1 : min len 1024 ≤ 1024 := Nat.min_le_right _ _
  have hn2 : min len2 256 ≤ 256 := Nat.min_le_right _ _
  clear hz hz2 hm hm2 hc hc2 hl
  generalize zs.take (min len 1024) = zl at *
  generalize zs2.take (min len2 256) = yl at *
  generalize min len 1024 = n1 at *
  generalize min len2 256 = n2 at *
  have Hbo : Hid (Calls Try.prog 23 #[.slice A n1 cap, .slice A2 n2 cap2, .int .i64 4] w (Both w 4 yl zl)) := both14 w A n1 cap zl hy1 hn1 A2 n2 cap2 4 yl hy2 (by omega) (by omega) (by omega)
  clear hy1 hy2
  go_enter Try.func6, Try.ntmps6
  go_wp2_with fail
  refine (Hcut1.out _).mono ?_
  rintro e w' ⟨rfl, rfl⟩
  go_wp2_with fail
  refine (Hcut2.out _).mono ?_
  rintro e w' ⟨rfl, rfl⟩
  go_wp2_with fail
  refine (Hbo.out).mono ?_
  rintro e w1 ⟨a, gd, ge, gB, gk, gM, gb, gt, rfl, hP, hA, hge, hgd, f1⟩
  have HA := Lib.hid hA
  have Hge := Lib.hid hge
  have hex : ∃ m d, DP w1 a gd ge gB gk gM gb gt m d := ⟨_, _, hP⟩
  clear hA hge hP
  go_wp2_with fail
  go_loopw [10] (fun i wr => ∃ k : Nat, k ≤ len3 ∧ i = .int .i64 k ∧ (∃ m d, DP wr a gd ge gB gk gM gb gt m d) ∧ Fr (fun _ => False) w wr) (fun i _ => len3 - (intOf i).toNat)
  case atStart => exact ⟨0, Nat.zero_le _, rfl, hex, f1⟩
  case round =>
    clear hex f1
    obtain ⟨k, hk, rfl, ⟨m, d, hP⟩, fr⟩ := hrel
    by_cases hlt : k < len3 ∧ k < 40
    · obtain ⟨h1, h2⟩ := hlt
      obtain ⟨b, off, rfl, hb, x, hx⟩ := HL.out.at_ h1
      obtain ⟨⟨c0, c1, c2⟩, w0, w1', w2'⟩ := hx.fr fr hb (Nat.le_refl _) (fun _ _ e => e)
      obtain ⟨s, at_, c⟩ := x
      dsimp only at c0 c1 c2 w0 w1' w2'
      obtain ⟨s0, s1⟩ := wf_u32 w0
      obtain ⟨a0, a1⟩ := wf_u32 w1'
      obtain ⟨q0, q1⟩ := wf_u32 w2'
      have hk40 : decide ((k : Int) < 40) = true := by simp; omega
      have hbw : b < wr.heap.size := Nat.lt_of_lt_of_le hb fr.size
      have hx0 := askd_new wr s at_ c
      have hxl := hx0.lt
      have fx0 := (Fr.refl (fun _ => False) wr).alloc (.cells #[.int .u32 s, .int .u32 at_, .int .u32 c] 46)
      have HP := Lib.hid (hP.fr0 fx0)
      have HP0 := Lib.hid hP
      have HF0 := Lib.hid fr
      have HF := Lib.hid (fr.tr fx0)
      have hws := fr.size
      clear hx hk w0 w1' w2' hP fx0
      by_cases hev : 0 < (k : Int) % 4
      · have t2 : decide (0 < (k : Int) % 4) = true := by simp [hev]
        obtain ⟨e0, e1, e2⟩ := askd_c hx0
        have z0 := Cells.frozen hx0 0
        have z1 := Cells.frozen hx0 1
        have z2 := Cells.frozen hx0 2
        have Hx0 := Lib.hid hx0
        have w5 : IntKind.u32.wrap (at_ % 5 * 64) = at_ % 5 * 64 := IntWalk.u32_in _ (by omega)
        clear hev hx0 fr
        go_wp2_with fail
        refine (do14_any _ a gd ge gB gk gM gb gt m d (HP0.out.fr0 ((Fr.refl (fun _ => False) wr).alloc _)) HA.out.dis HA.out.sep (s % 17) (at_ % 5 * 64) (c % 4) (by omega) (by omega) (by omega) (by omega) (by omega) (by omega)).mono ?_
        rintro e w5 ⟨rfl, ⟨m5, d5, _, hP5⟩, f5⟩
        have fr5 := (HF0.out.alloc _).trans (S := fun _ => False) f5 (fun i hi e => by have := Hge.out i e; omega)
        go_wp2_with fail
        go_roundw
        case rel => exact ⟨k + 1, by omega, by go_num, ⟨_, _, hP5⟩, fr5⟩
        case measure => simp [intOf]; omega
      · have t2 : decide (0 < (k : Int) % 4) = false := by simp; omega
        obtain ⟨e0, e1, e2⟩ := askd_c hx0
        clear hev hx0 fr
        go_wp2_with fail
        refine (do14_any _ a gd ge gB gk gM gb gt m d HP.out HA.out.dis HA.out.sep s at_ c s0 s1 a0 a1 q0 q1).mono ?_
        rintro e w5 ⟨rfl, ⟨m5, d5, _, hP5⟩, f5⟩
        have fr5 := HF.out.trans (S := fun _ => False) f5 (fun i hi e => by have := Hge.out i e; omega)
        go_wp2_with fail
        go_roundw
        case rel => exact ⟨k + 1, by omega, by go_num, ⟨_, _, hP5⟩, fr5⟩
        case measure => simp [intOf]; omega
    · go_wp2_with fail
      all_goals
        refine (known14 _).mono ?_
        rintro e w9 ⟨rfl, f9⟩
        go_wp2_with fail
        go_ret
        exact ⟨rfl, fr.tr f9⟩
end Go.Proofs.Ytlkagggkpaihaaa.drivePlays
