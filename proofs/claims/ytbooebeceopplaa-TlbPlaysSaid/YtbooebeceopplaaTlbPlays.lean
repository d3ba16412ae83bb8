/- TlbPlays: the walk. -/
import Derived.Test.YtbooebeceopplaaTlbDo
import Derived.Test.YtbooebeceopplaaTlbOpen
namespace Go.Proofs.Ytbooebeceopplaa.tlbPlays
open Go.RowKit Tl
set_option linter.unusedVariables false
set_option maxHeartbeats 4000000

set_option maxRecDepth 100000 in
theorem walk (w : World) (A : Option Addr) (len cap : Nat) (hl : AsksAt w w.heap.size A len ∧ len ≤ maxLen) :
    Calls Try.prog 6 #[.slice A len cap] w fun e w' => e = .returned (.bool true) ∧ Fr (fun _ => False) w w' := by
  obtain ⟨hl, hm⟩ := hl
  unfold maxLen at hm
  go_enter Try.func6, Try.ntmps6
  go_wp2_with fail
  refine (new_any w).mono ?_
  rintro e w1 ⟨rfl, b1, f1⟩
  go_wp2_with fail
  refine (uNew_any w1 none).mono ?_
  rintro e w2 ⟨rfl, u2, f2⟩
  have b2 := b1.fr f2 (fun e => e)
  have hB : ∃ l, Both w2 w.heap.size w1.heap.size l := ⟨_, b2, u2, by have := b1.lt; omega⟩
  have f2 := f1.tr f2
  have hs1 := f1.size
  generalize w1.heap.size = gu at *
  clear b1 u2 b2 f1
  go_wp2_with fail
  go_loopw [5] (fun i wr => ∃ k : Nat, k ≤ len ∧ i = .int .i64 k ∧ (∃ l, Both wr w.heap.size gu l) ∧ Fr (fun _ => False) w wr) (fun i _ => len - (intOf i).toNat)
  case atStart => exact ⟨0, Nat.zero_le _, rfl, hB, f2⟩
  case round =>
    clear hB f2
    obtain ⟨k, hk, rfl, ⟨l, hB⟩, fr⟩ := hrel
    by_cases hlt : k < len ∧ k < 60
    · obtain ⟨h1, h2⟩ := hlt
      obtain ⟨b, off, rfl, hb, kd, how, va, p, bs, s, ha⟩ := hl.at_ h1
      obtain ⟨c0, c1, c2, c3, c4, c5, hva, hp, hbs⟩ := ha.fr fr hb (Nat.le_refl _) (fun _ _ e => e)
      have hbw : b < wr.heap.size := Nat.lt_of_lt_of_le hb fr.size
      obtain ⟨hv0, hv1⟩ := hva
      by_cases hm4 : 0 < k % 4
      · have hm4' : (0 : Int) < (k : Int) % 4 := by omega
        go_wp2_with fail
        refine (do_any _ _ _ l kd how (va % 4096) p bs s (by omega) (by omega) (hB.fr (S := fun _ => False) ((Fr.refl _ _).alloc _) (fun e => e) (fun e => e))).mono ?_
        rintro e w3 ⟨rfl, hB3, f3⟩
        go_wp2_with fail
        go_roundw
        case rel => exact ⟨k + 1, by omega, by go_num, hB3, (fr.alloc _).trans f3 (fun i hi e => by omega)⟩
        case measure => simp [intOf]; omega
      · have hm4' : decide ((0 : Int) < (k : Int) % 4) = false := by simp; omega
        go_wp2_with fail
        refine (do_any _ _ _ l kd how va p bs s (by omega) (by omega) (hB.fr (S := fun _ => False) ((Fr.refl _ _).alloc _) (fun e => e) (fun e => e))).mono ?_
        rintro e w3 ⟨rfl, hB3, f3⟩
        go_wp2_with fail
        go_roundw
        case rel => exact ⟨k + 1, by omega, by go_num, hB3, (fr.alloc _).trans f3 (fun i hi e => by omega)⟩
        case measure => simp [intOf]; omega
    · go_wp2_with fail
      all_goals
        refine (known_any _).mono ?_
        rintro e w6 ⟨rfl, f6⟩
        go_wp2_with fail
        go_ret
        exact ⟨rfl, fr.tr f6⟩
end Go.Proofs.Ytbooebeceopplaa.tlbPlays
