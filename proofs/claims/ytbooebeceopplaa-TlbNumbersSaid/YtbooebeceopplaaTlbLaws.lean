/- The statements' own helpers on buffers (innkeeperlaw9): known, same, do. -/
import Derived.Test.YtbooebeceopplaaTlbRef
import Derived.Deep.DeepCutAuto
import Derived.Deep.CutBlock
namespace Go.Proofs.Ytbooebeceopplaa.Tl
open Go.RowKit
set_option linter.unusedVariables false
set_option maxHeartbeats 4000000

def k1 : Nat → Ent := upd (fun _ => noE) 3 ⟨true, 3, 9, 2⟩
def k2 : Nat → Ent := upd k1 3 ⟨true, 19, 8, 2⟩
theorem known_any (w : World) : Calls Try.prog 16 #[] w fun e w' => e = .returned (.bool true) ∧ Fr (fun _ => False) w w' := by
  have e1 : found (k1 3) 197 2 true = 581 := by decide
  have e2 : hit (k1 3) 197 2 true = true := by decide
  have e3 : found (k2 3) 192 2 true = 0 := by decide
  have e4 : hit (k2 3) 192 2 true = false := by decide
  have e5 : cnt k2 16 = 1 := by decide
  go_enter Try.func16, Try.ntmps16
  go_wp2_with fail
  refine (new_any w).mono ?_
  rintro e w1 ⟨rfl, b1, f1⟩
  go_wp2_with fail
  refine (fill_yes w1 _ _ ⟨true, 3, 9, 2⟩ b1 rfl (by decide)).mono ?_
  rintro e w2 ⟨rfl, b2, f2⟩
  have b2 : Buf w2 w.heap.size k1 := b2
  have f2 := f1.trans (S := fun _ => False) f2 (fun i hi e => by omega)
  go_wp2_with fail
  refine (find_any w2 _ _ 197 2 true (by decide) (by decide) 3 (by decide) b2).mono ?_
  rw [e1, e2]
  rintro e w3 ⟨rfl, f3⟩
  have b3 := b2.fr f3 (fun e => e)
  have f3 := f2.tr f3
  go_wp2_with fail
  refine (fill_yes w3 _ _ ⟨true, 19, 8, 2⟩ b3 rfl (by decide)).mono ?_
  rintro e w4 ⟨rfl, b4, f4⟩
  have b4 : Buf w4 w.heap.size k2 := b4
  have f4 := f3.trans (S := fun _ => False) f4 (fun i hi e => by omega)
  go_wp2_with fail
  refine (find_any w4 _ _ 192 2 true (by decide) (by decide) 3 (by decide) b4).mono ?_
  rw [e3, e4]
  rintro e w5 ⟨rfl, f5⟩
  have b5 := b4.fr f5 (fun e => e)
  have f5 := f4.tr f5
  go_wp2_with fail
  refine (len_any w5 _ _ b5).mono ?_
  rw [e5]
  rintro e w6 ⟨rfl, f6⟩
  go_wp2_with fail
  go_ret
  exact ⟨rfl, f5.tr f6⟩

set_option maxRecDepth 100000 in
theorem same_any (w : World) (gb gu : Nat) (mp : Option Addr) (l : Nat → Ent) (va : Int) (hv : 0 ≤ va) (hv1 : va ≤ 4294967295) (hb : Buf w gb l) (hu : Uni w gu mp l) :
    Calls Try.prog 42 #[.pointer (some ⟨gb, 0, none⟩), .pointer (some ⟨gu, 0, none⟩), .int .u32 va] w fun e w' => e = .returned (.bool true) ∧ Fr (fun _ => False) w w' := by
  obtain ⟨kv, hkv⟩ : ∃ k : Nat, va / 64 % 16 = k := ⟨(va / 64 % 16).toNat, by omega⟩
  have Hkv := Lib.hid hkv
  clear hkv
  go_enter Try.func42, Try.ntmps42
  go_wp2_with fail
  go_loopw [7, 8] (fun n i wr => ∃ i0 : Int, -1 ≤ i0 ∧ i0 ≤ 17 ∧ i = .int .i64 i0 ∧ n = .int .i64 (cnt l (min i0.toNat 16)) ∧ Fr (fun _ => False) w wr) (fun _ i _ => 18 - (intOf i + 1).toNat)
  case atStart => exact ⟨-1, by omega, by omega, rfl, rfl, Fr.refl _ _⟩
  case round =>
    obtain ⟨i0, hi0, hi1, rfl, rfl, fr⟩ := hrel
    have hbr := hb.fr fr (fun e => e)
    have hur := hu.fr fr (fun e => e)
    have hle := cnt_le l (min i0.toNat 16)
    by_cases hlt : i0 ≤ 16
    · by_cases hin : 0 ≤ i0 ∧ i0 < 16
      · obtain ⟨h0, h1⟩ := hin
        obtain ⟨j, rfl⟩ : ∃ j : Nat, i0 = j := ⟨i0.toNat, by omega⟩
        have hj : j < 16 := by omega
        obtain ⟨c0, c1, c2, c3⟩ := hur.ent j hj
        have hlu := hur.lt
        have hm : min (j : Int).toNat 16 = j := by simp; omega
        have hm' : min ((j : Int) + 1).toNat 16 = j + 1 := by omega
        rw [hm] at hle ⊢
        have Hs := Lib.hid (show cnt l (j + 1) = cnt l j + if (l j).v then 1 else 0 from rfl)
        have Hm' := Lib.hid hm'
        have hat := fun w h => at_any w gb l j hj h
        have fr2 := fr.alloc (.cells #[.bool (l j).v, .int .u32 (l j).n, .int .u32 (l j).p, .int .u32 (l j).b] 27)
        generalize cnt l j = c at *
        clear hm hm'
        generalize l j = en at *
        obtain ⟨v, n, p, b⟩ := en
        dsimp only at fr2 Hs c0 c1 c2 c3 hat
        have hat' := hat (wr.alloc (.cells #[.bool v, .int .u32 n, .int .u32 p, .int .u32 b] 27)).drew (hbr.alloc _)
        clear hat
        cases v <;>
        · go_wp2_with fail
          go_region_with ((go_at_call 21; refine (hat').mono ?_; rintro e w' ⟨rfl, f⟩; obtain ⟨q0, q1, q2, q3⟩ := f.boxed4 (fun e => e)))
          all_goals go_wp2_with fail
          all_goals exact ⟨⟨(j : Int) + 1, by omega, by omega, rfl, by rw [Hm'.out, Hs.out]; simp, (fr.alloc _).drew.tr f⟩, by simp [intOf]; omega⟩
      · have hm : min (i0 + 1).toNat 16 = min i0.toNat 16 := by omega
        have Hm := Lib.hid (show cnt l (min (i0 + 1).toNat 16) = cnt l (min i0.toNat 16) by rw [hm])
        have hat' := at_out (wr.alloc (.cells #[.bool false, .int .u32 0, .int .u32 0, .int .u32 0] 27)).drew gb l i0 (by omega) (hbr.alloc _)
        clear hm
        generalize cnt l (min i0.toNat 16) = c at *
        by_cases h0 : 0 ≤ i0
        · have h1 : decide (i0 < 16) = false := by simp; omega
          go_wp2_with fail
          go_region_with ((go_at_call 21; refine (hat').mono ?_; rintro e w' ⟨rfl, f⟩; obtain ⟨q0, q1, q2, q3⟩ := f.boxed4 (fun e => e)))
          all_goals go_wp2_with fail
          all_goals exact ⟨⟨i0 + 1, by omega, by omega, rfl, by rw [Hm.out], (fr.alloc _).drew.tr f⟩, by simp [intOf]; omega⟩
        · have h0' : decide (0 ≤ i0) = false := by simpa using h0
          go_wp2_with fail
          go_region_with ((go_at_call 21; refine (hat').mono ?_; rintro e w' ⟨rfl, f⟩; obtain ⟨q0, q1, q2, q3⟩ := f.boxed4 (fun e => e)))
          all_goals go_wp2_with fail
          all_goals exact ⟨⟨i0 + 1, by omega, by omega, rfl, by rw [Hm.out], (fr.alloc _).drew.tr f⟩, by simp [intOf]; omega⟩
    · have e17 : i0 = 17 := by omega
      subst e17
      have hm : min (17 : Int).toNat 16 = 16 := rfl
      rw [hm]
      clear hle hm
      go_wp2_with fail
      go_loopw [10] (fun i wx => ∃ kd : Int, -1 ≤ kd ∧ kd ≤ 5 ∧ i = .int .i64 kd ∧ Fr (fun _ => False) w wx) (fun i _ => 6 - (intOf i + 1).toNat)
      case atStart => exact ⟨-1, by omega, by omega, rfl, fr⟩
      case round =>
        clear fr hbr hur
        obtain ⟨kd, hk0, hk1, rfl, fr⟩ := hrel
        by_cases hlt : kd < 5
        · go_wp2_with fail
          go_loopw [49] (fun i wx => ∃ j : Nat, j ≤ 2 ∧ i = .int .i64 j ∧ wx.cell? ⟨wr.heap.size, 0, none⟩ = some (.bool true) ∧ wx.cell? ⟨wr.heap.size, 1, none⟩ = some (.bool false) ∧ wr.heap.size < wx.heap.size ∧ Fr (fun _ => False) w wx) (fun i _ => 2 - (intOf i).toNat)
          case atStart => exact ⟨0, by omega, rfl, (Blk.new _ _ _).cell 0, (Blk.new _ _ _).cell 1, by simp, fr.alloc _⟩
          case round =>
            clear fr
            obtain ⟨j, hj, rfl, c0, c1, hwl, fr⟩ := hrel
            have hbr := hb.fr fr (fun e => e)
            have hur := hu.fr fr (fun e => e)
            by_cases hlt2 : j < 2
            · rcases (by omega : j = 0 ∨ j = 1) with rfl | rfl
              · go_wp2_with fail
                refine (find_any _ _ _ va kd true hv hv1 kv Hkv.out hbr).mono ?_
                rintro e w3 ⟨rfl, f3⟩
                have hu3 := hur.fr f3 (fun e => e)
                go_wp2_with fail
                refine (uFind_any _ _ _ _ va kd true hv hv1 kv Hkv.out hu3).mono ?_
                rintro e w4 ⟨rfl, f4⟩
                have f34 := f3.tr f4
                go_wp2_with fail
                go_roundw
                case rel => exact ⟨1, by omega, rfl, f34.cell c0 hwl (fun e => e), f34.cell c1 hwl (fun e => e), Nat.lt_of_lt_of_le hwl f34.size, fr.tr f34⟩
                case measure => simp [intOf]
              · go_wp2_with fail
                refine (find_any _ _ _ va kd false hv hv1 kv Hkv.out hbr).mono ?_
                rintro e w3 ⟨rfl, f3⟩
                have hu3 := hur.fr f3 (fun e => e)
                go_wp2_with fail
                refine (uFind_any _ _ _ _ va kd false hv hv1 kv Hkv.out hu3).mono ?_
                rintro e w4 ⟨rfl, f4⟩
                have f34 := f3.tr f4
                go_wp2_with fail
                go_roundw
                case rel => exact ⟨2, by omega, rfl, f34.cell c0 hwl (fun e => e), f34.cell c1 hwl (fun e => e), Nat.lt_of_lt_of_le hwl f34.size, fr.tr f34⟩
                case measure => simp [intOf]
            · have : j = 2 := by omega
              subst this
              go_wp2_with fail
              go_roundw
              case rel => exact ⟨kd + 1, by omega, by omega, rfl, fr⟩
              case measure => simp [intOf]; omega
        · go_wp2_with fail
          refine (len_any _ _ _ (hb.fr fr (fun e => e))).mono ?_
          rintro e w3 ⟨rfl, f3⟩
          go_wp2_with fail
          go_ret
          exact ⟨rfl, fr.tr f3⟩
end Go.Proofs.Ytbooebeceopplaa.Tl
