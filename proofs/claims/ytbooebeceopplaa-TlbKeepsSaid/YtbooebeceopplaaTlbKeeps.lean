/- TlbKeeps: the walk. -/
import Derived.Test.YtbooebeceopplaaTlbLaws
import Derived.Test.YtbooebeceopplaaTlbBits
import Derived.Test.YtbooebeceopplaaTlbOpen
import Derived.StillTailTactics
namespace Go.Proofs.Ytbooebeceopplaa.tlbKeeps
open Go.RowKit Tl
set_option linter.unusedVariables false
set_option maxHeartbeats 4000000

set_option maxRecDepth 100000 in
theorem walk (w : World) (A : Option Addr) (len cap : Nat) (hl : AsksAt w w.heap.size A len ∧ len ≤ maxLen) (drop : Bool) :
    Calls Try.prog 4 #[.slice A len cap, .bool drop] w fun e w' => e = .returned (.bool true) ∧ Fr (fun _ => False) w w' := by
  obtain ⟨hl, hm⟩ := hl
  unfold maxLen at hm
  go_enter Try.func4, Try.ntmps4
  go_wp2_with fail
  refine (new_any w).mono ?_
  rintro e w1 ⟨rfl, b1, f1⟩
  have hB : ∃ l, Buf w1 w.heap.size l := ⟨_, b1⟩
  clear b1
  go_wp2_with fail
  go_loopw [6] (fun i wr => ∃ k : Nat, k ≤ len ∧ i = .int .i64 k ∧ (∃ l, Buf wr w.heap.size l) ∧ Fr (fun _ => False) w wr) (fun i _ => len - (intOf i).toNat)
  case atStart => exact ⟨0, Nat.zero_le _, rfl, hB, f1⟩
  case round =>
    clear hB f1
    obtain ⟨k, hk, rfl, ⟨l, hB⟩, fr⟩ := hrel
    by_cases hlt : k < len ∧ k < 60
    · obtain ⟨h1, h2⟩ := hlt
      obtain ⟨b, off, rfl, hb, kd, how, va, p, bs, s, ha⟩ := hl.at_ h1
      obtain ⟨c0, c1, c2, c3, c4, c5, hva, hp, hbs⟩ := ha.fr fr hb (Nat.le_refl _) (fun _ _ e => e)
      have hbw : b < wr.heap.size := Nat.lt_of_lt_of_le hb fr.size
      have hbg : ¬ b = w.heap.size := by omega
      obtain ⟨hv0, hv1⟩ := hva
      obtain ⟨j, hj⟩ : ∃ j : Nat, va / 64 % 16 = j := ⟨(va / 64 % 16).toNat, by omega⟩
      have hj16 : j < 16 := by omega
      have Hj := Lib.hid hj
      clear hj
      have hq : 0 ≤ va / 64 := by omega
      have kb := keeps_bits bs s hbs.1 hbs.2
      have hfill := fill_yes wr.drew w.heap.size l ⟨true, va / 64, p, bits .or .u32 (bits .or .u32 bs 2) 16⟩ (Cells.drew hB) rfl hq
      dsimp only at hfill
      have hhit : hit ⟨true, va / 64, p, bits .or .u32 (bits .or .u32 bs 2) 16⟩ va 2 s = true := by simp [hit, kb]
      have hfnd : found ⟨true, va / 64, p, bits .or .u32 (bits .or .u32 bs 2) 16⟩ va 2 s = p * 64 % 4294967296 + va % 64 := by rw [found, if_pos hhit]
      clear kb
      generalize hbb : bits .or .u32 (bits .or .u32 bs 2) 16 = bb at *
      go_wp2_with fail
      go_still_tail 16, (by kernel_rfl)
      go_wp2_with fail
      refine hfill.mono ?_
      rintro e w1 ⟨rfl, b1, f1⟩
      rw [Hj.out] at b1
      have b1 : Buf w1 w.heap.size (upd l j ⟨true, va / 64, p, bb⟩) := b1
      have c5' := f1.cell (w := wr.drew) c5 hbw hbg
      have c3' := f1.cell (w := wr.drew) c3 hbw hbg
      have fr1 := (Fr.drew fr).trans (S := fun _ => False) f1 (fun i hi e => by omega)
      clear f1 hbb
      go_wp2_with fail
      refine (find_any _ _ _ va 2 s hv0 hv1 j Hj.out b1).mono ?_
      rw [upd_same, hhit, hfnd]
      rintro e w3 ⟨rfl, f3⟩
      have b3 := b1.fr f3 (fun e => e)
      have c3'' := f3.cell c3' (Nat.lt_of_lt_of_le hb fr1.size) (fun e => e)
      have fr3 := fr1.tr f3
      have hl1 := cnt_le (upd l j ⟨true, va / 64, p, bb⟩) 16
      have hl2 := cnt_pos (upd l j ⟨true, va / 64, p, bb⟩) j 16 hj16 (by rw [upd_same])
      clear c3' c5' f3 b1 fr1
      have hlen : ∀ W, Buf W w.heap.size (upd l j ⟨true, va / 64, p, bb⟩) → Calls Try.prog 15 #[.pointer (some ⟨w.heap.size, 0, none⟩)] W fun e w' => e = .returned (.int .i64 (cnt (upd l j ⟨true, va / 64, p, bb⟩) 16)) ∧ Fr (fun _ => False) W w' := fun W h => len_any W w.heap.size _ h
      have Hlen := Lib.hid hlen
      clear hlen
      have hi1 : (cnt (upd l j ⟨true, va / 64, p, bb⟩) 16 : Int) ≤ 16 := by omega
      have hi2 : (1 : Int) ≤ (cnt (upd l j ⟨true, va / 64, p, bb⟩) 16 : Int) := by omega
      generalize cnt (upd l j ⟨true, va / 64, p, bb⟩) 16 = c at *
      have c3 := c3''
      clear hl1 hl2 c3''
      go_wp2_with fail
      refine (Hlen.out _ b3).mono ?_
      rintro e w4 ⟨rfl, f4⟩
      have b4 := b3.fr f4 (fun e => e)
      have fr4 := fr3.tr f4
      go_wp2_with fail
      refine (Hlen.out _ b4).mono ?_
      rintro e w5 ⟨rfl, f5⟩
      have b5 := b4.fr f5 (fun e => e)
      have fr5 := fr4.tr f5
      clear Hlen f4 f5 fr4 b4
      cases drop
      · go_wp2_with fail
        go_roundw
        case rel => exact ⟨k + 1, by omega, by go_num, ⟨_, b5⟩, fr5⟩
        case measure => simp [intOf]; omega
      · go_wp2_with fail
        refine (drop_any _ _ _ va hv0 hv1 j Hj.out b5).mono ?_
        rw [upd_same, if_pos rfl]
        rintro e w6 ⟨rfl, b6, f6⟩
        have fr6 := fr5.trans (S := fun _ => False) f6 (fun i hi e => by omega)
        have hno : hit noE va 2 true = false := by simp [hit, noE]
        have hno2 : found noE va 2 true = 0 := by rw [found, hno]; rfl
        go_wp2_with fail
        refine (find_any _ _ _ va 2 true hv0 hv1 j Hj.out b6).mono ?_
        rw [upd_same, hno, hno2]
        rintro e w7 ⟨rfl, f7⟩
        go_wp2_with fail
        go_roundw
        case rel => exact ⟨k + 1, by omega, by go_num, ⟨_, b6.fr f7 (fun e => e)⟩, fr6.tr f7⟩
        case measure => simp [intOf]; omega
    · go_wp2_with fail
      all_goals
        refine (flush_any _ _ _ hB).mono ?_
        rintro e w2 ⟨rfl, b2, f2⟩
        have fr2 := fr.trans (S := fun _ => False) f2 (fun i hi e => by omega)
        go_wp2_with fail
        refine (len_any _ _ _ b2).mono ?_
        rw [cnt_zero]
        rintro e w3 ⟨rfl, f3⟩
        go_wp2_with fail
        refine (known_any _).mono ?_
        rintro e w6 ⟨rfl, f6⟩
        go_wp2_with fail
        go_ret
        exact ⟨rfl, (fr2.tr f3).tr f6⟩
end Go.Proofs.Ytbooebeceopplaa.tlbKeeps
