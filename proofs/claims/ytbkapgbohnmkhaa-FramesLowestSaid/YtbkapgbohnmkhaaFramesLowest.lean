/- FramesLowest: the walk. -/
import Derived.Test.YtbkapgbohnmkhaaFramesLaws
namespace Go.Proofs.Ytbkapgbohnmkhaa.framesLowest
open Go.RowKit Fm
set_option linter.unusedVariables false
set_option maxHeartbeats 4000000

set_option maxRecDepth 100000 in
theorem walk (w : World) (A : Option Addr) (len cap : Nat) (zs : List Int) (hz : IntsAt .i64 w w.heap.size A len zs) (hm : len ≤ maxLen) (ow : Int) (how : (Lit.int .i64 ow).wf = true) :
    Calls Try.prog 3 #[.slice A len cap, .int .i64 ow] w fun e w' => e = .returned (.bool true) ∧ Fr (fun _ => False) w w' := by
  unfold maxLen at hm
  have b1 := wf_i64 how
  have hw1 := Lib.hid (fun W => Bk.within_any W ow 0 3 b1.1 b1.2 (by omega) (by omega) (by omega))
  have g1 := Int.emod_nonneg ow (show (3 - 0 + 1 : Int) ≠ 0 by omega)
  have g2 := Int.emod_lt_of_pos ow (show (0 : Int) < 3 - 0 + 1 by omega)
  obtain ⟨o, ho⟩ : ∃ o : Nat, (0 : Int) + ow % (3 - 0 + 1) = o := ⟨(ow % (3 - 0 + 1)).toNat, by omega⟩
  have o4 : o < 4 := by omega
  rw [ho] at hw1
  clear ho g1 g2 b1
  have hpr := fun W g (h : Pool W g Pl.new) => promise_any W g Pl.new o 64 h new_ok (by omega) (by omega)
  rw [show promR Pl.new o 64 = 0 from promR_new0 (n := 64) (by omega) (by omega) (by omega)] at hpr
  have Hpr := Lib.hid hpr
  clear hpr
  go_enter Try.func3, Try.ntmps3
  go_wp2_with fail
  refine (Fm.new_any w).mono ?_
  rintro e w1 ⟨rfl, hP, f1⟩
  go_wp2_with fail
  refine (hw1.out _).mono ?_
  rintro e w' ⟨rfl, rfl⟩
  go_wp2_with fail
  refine (Hpr.out _ _ hP).mono ?_
  rintro e w2 ⟨rfl, hP2, f2⟩
  have fr2 := f1.trans (S := fun _ => False) f2 (fun i hi e => by omega)
  have hS : ∃ s, Pool w2 w.heap.size s ∧ LS s o 64 ∧ (∀ j, j < 64 → s.own (16 + j) = if j < 0 then (o : Int) else -1) := ⟨_, hP2, LS.new (N := 64) o4 (by omega), fun j hj => by
    rw [show Pl.new.promise o 64 = Pl.new.setProm o 64 from promise_new (n := 64) o4 (by omega), if_neg (by omega)]; rfl⟩
  clear hP hP2
  go_wp2_with fail
  go_loopw [7] (fun i wr => ∃ k : Nat, k ≤ 64 ∧ i = .int .i64 k ∧ (∃ s, Pool wr w.heap.size s ∧ LS s o 64 ∧ (∀ j, j < 64 → s.own (16 + j) = if j < k then (o : Int) else -1)) ∧ Fr (fun _ => False) w wr) (fun i _ => 64 - (intOf i).toNat)
  case atStart => exact ⟨0, by omega, rfl, hS, fr2⟩
  case round =>
    clear hS fr2
    obtain ⟨k, hk, rfl, ⟨s, hP, hS, hO⟩, fr⟩ := hrel
    by_cases hlt : k < 64
    · obtain ⟨e1, e2, e3, hS2⟩ := hS.take hlt (by rw [hO k hlt, if_neg (by omega)]) (fun j h1 h2 => by
        have := hO (j - 16) (by omega)
        rw [show 16 + (j - 16) = j by omega, if_pos (by omega)] at this
        omega)
      have ht := take_any wr w.heap.size s o hP hS.I.ok
      rw [e1, e2, show ((16 + k : Nat) : Int) = 16 + (k : Int) by omega] at ht
      have hO2 : ∀ j, j < 64 → (s.take o).own (16 + j) = if j < k + 1 then (o : Int) else -1 := fun j hj => by
        rw [e3]
        show updI s.own (16 + k) o (16 + j) = _
        unfold updI
        split
        · rw [if_pos (by omega)]
        · rw [hO j hj]
          by_cases h : j < k
          · rw [if_pos h, if_pos (by omega)]
          · rw [if_neg h, if_neg (by omega)]
      have Ht := Lib.hid ht
      have HO2 := Lib.hid hO2
      clear ht hO2 e1 e2 e3 hO
      go_wp2_with fail
      refine (Ht.out).mono ?_
      rintro e w3 ⟨rfl, hP3, f3⟩
      have fr3 := fr.trans (S := fun _ => False) f3 (fun i hi e => by omega)
      go_wp2_with fail
      go_roundw
      case rel => exact ⟨k + 1, by omega, by go_num, ⟨_, hP3, hS2, HO2.out⟩, fr3⟩
      case measure => simp [intOf]; omega
    · have hS : ∃ s, Pool wr w.heap.size s ∧ LS s o 64 := ⟨s, hP, hS⟩
      clear hP hO
      go_wp2_with fail
      obtain ⟨k7, rfl⟩ : ∃ k7 : Nat, k7 = k := ⟨k, rfl⟩
      clear hlt hk
      go_loopw [10] (fun i wr => ∃ k : Nat, k ≤ len ∧ i = .int .i64 k ∧ (∃ s, Pool wr w.heap.size s ∧ LS s o 64) ∧ Fr (fun _ => False) w wr) (fun i _ => len - (intOf i).toNat)
      case atStart => exact ⟨0, by omega, rfl, hS, fr⟩
      case round =>
        clear hS fr
        obtain ⟨k, hk, rfl, ⟨s, hP, hS⟩, fr⟩ := hrel
        by_cases hlt : k < len ∧ k < 30
        · obtain ⟨h1, h2⟩ := hlt
          obtain ⟨b, off, rfl, hb, hc⟩ := (hz.fr fr (Nat.le_refl _) (fun _ _ e => e)).at_ h1
          have hbd := wf_i64 (hz.2.1 k h1)
          generalize zs.getD k 0 = x at *
          have hw := Lib.hid (fun W => Bk.within_any W x 0 63 hbd.1 hbd.2 (by omega) (by omega) (by omega))
          have hq0 := Int.emod_nonneg x (show (63 - 0 + 1 : Int) ≠ 0 by omega)
          have hq1 := Int.emod_lt_of_pos x (show (0 : Int) < 63 - 0 + 1 by omega)
          obtain ⟨j, hj⟩ : ∃ j : Nat, (0 : Int) + x % (63 - 0 + 1) = j := ⟨(x % (63 - 0 + 1)).toNat, by omega⟩
          have hj64 : j < 64 := by omega
          rw [hj] at hw
          have hwo := owner_any wr w.heap.size s ((16 + j : Nat) : Int) hP
          have hgv := give1 wr w.heap.size s o ((16 + j : Nat) : Int) hP (by omega) (by omega)
          clear hj hq0 hq1
          rcases hS.ow (16 + j) (by omega) with e | ⟨e, _, _⟩
          · obtain ⟨q1, q2⟩ := own_no e
            rw [q1, q2, show ((16 + j : Nat) : Int) = 16 + (j : Int) by omega] at hwo
            have Hwo := Lib.hid hwo
            clear hwo q1 q2 e hgv
            go_wp2_with fail
            refine (hw.out _).mono ?_
            rintro e w' ⟨rfl, rfl⟩
            go_wp2_with fail
            refine (Hwo.out).mono ?_
            rintro e w' ⟨rfl, rfl⟩
            go_wp2_with fail
            go_roundw
            case rel => exact ⟨k + 1, by omega, by go_num, ⟨s, hP, hS⟩, fr⟩
            case measure => simp [intOf]; omega
          · obtain ⟨q1, q2⟩ := own_yes (s := s) (f := 16 + j) (by omega) (by omega) (by rw [e]; omega)
            obtain ⟨a1, a2, a3⟩ := hS.give hj64 e
            rw [q1, q2, e, show ((16 + j : Nat) : Int) = 16 + (j : Int) by omega] at hwo
            rw [a1] at hgv
            rw [show ((16 + j : Nat) : Int) = 16 + (j : Int) by omega] at hgv a3
            have Hwo := Lib.hid hwo
            have Hgv := Lib.hid hgv
            clear hwo q1 q2 e hgv a1 a2
            go_wp2_with fail
            refine (hw.out _).mono ?_
            rintro e w' ⟨rfl, rfl⟩
            go_wp2_with fail
            refine (Hwo.out).mono ?_
            rintro e w' ⟨rfl, rfl⟩
            go_wp2_with fail
            refine (Hgv.out).mono ?_
            rintro e w3 ⟨rfl, hP3, f3⟩
            have fr3 := fr.trans (S := fun _ => False) f3 (fun i hi e => by omega)
            go_wp2_with fail
            go_roundw
            case rel => exact ⟨k + 1, by omega, by go_num, ⟨_, hP3, a3⟩, fr3⟩
            case measure => simp [intOf]; omega
        · have hS0 : ∃ s, Pool wr w.heap.size s ∧ LS s o 64 ∧ (∀ j, j < 0 → s.own (16 + j) = (o : Int)) := ⟨s, hP, hS, fun j hj => by omega⟩
          clear hP
          go_wp2_with fail
          all_goals
            clear hlt hk
            obtain ⟨k8, rfl⟩ : ∃ k8 : Nat, k8 = k := ⟨k, rfl⟩
            go_loopw [14] (fun i wr => ∃ k : Nat, k ≤ 64 ∧ i = .int .i64 (16 + (k : Int)) ∧ (∃ s, Pool wr w.heap.size s ∧ LS s o 64 ∧ (∀ j, j < k → s.own (16 + j) = (o : Int))) ∧ Fr (fun _ => False) w wr) (fun i _ => 80 - (intOf i).toNat)
            case atStart => exact ⟨0, by omega, rfl, hS0, fr⟩
            case round =>
              clear hS0 fr hS
              obtain ⟨k, hk, rfl, ⟨s, hP, hS, hO⟩, fr⟩ := hrel
              by_cases hlt : k < 64
              · have hwo := owner_any wr w.heap.size s ((16 + k : Nat) : Int) hP
                rcases hS.ow (16 + k) (by omega) with e | ⟨e, _, _⟩
                · obtain ⟨q1, q2⟩ := own_no e
                  obtain ⟨e1, e2, e3, hS2⟩ := hS.take hlt e (fun j h1 h2 => by
                    have := hO (j - 16) (by omega)
                    rw [show 16 + (j - 16) = j by omega] at this
                    omega)
                  have ht := take_any wr w.heap.size s o hP hS.I.ok
                  rw [e1, e2, show ((16 + k : Nat) : Int) = 16 + (k : Int) by omega] at ht
                  rw [q1, q2, show ((16 + k : Nat) : Int) = 16 + (k : Int) by omega] at hwo
                  have hO2 : ∀ j, j < k + 1 → (s.take o).own (16 + j) = (o : Int) := fun j hj => by
                    rw [e3]
                    show updI s.own (16 + k) o (16 + j) = _
                    unfold updI
                    split
                    · rfl
                    · exact hO j (by omega)
                  have Hwo := Lib.hid hwo
                  have Ht := Lib.hid ht
                  have HO2 := Lib.hid hO2
                  clear hwo ht hO2 q1 q2 e e1 e2 e3 hO
                  go_wp2_with fail
                  refine (Hwo.out).mono ?_
                  rintro e w' ⟨rfl, rfl⟩
                  go_wp2_with fail
                  refine (Ht.out).mono ?_
                  rintro e w3 ⟨rfl, hP3, f3⟩
                  have fr3 := fr.trans (S := fun _ => False) f3 (fun i hi e => by omega)
                  go_wp2_with fail
                  go_roundw
                  case rel => exact ⟨k + 1, by omega, by congr 1 <;> omega, ⟨_, hP3, hS2, HO2.out⟩, fr3⟩
                  case measure => simp [intOf]; omega
                · obtain ⟨q1, q2⟩ := own_yes (s := s) (f := 16 + k) (by omega) (by omega) (by rw [e]; omega)
                  rw [q1, q2, show ((16 + k : Nat) : Int) = 16 + (k : Int) by omega] at hwo
                  have hO2 : ∀ j, j < k + 1 → s.own (16 + j) = (o : Int) := fun j hj => by
                    by_cases h : j = k
                    · subst h; exact e
                    · exact hO j (by omega)
                  have Hwo := Lib.hid hwo
                  have HO2 := Lib.hid hO2
                  clear hwo hO2 q1 q2 e hO
                  go_wp2_with fail
                  refine (Hwo.out).mono ?_
                  rintro e w' ⟨rfl, rfl⟩
                  go_wp2_with fail
                  go_roundw
                  case rel => exact ⟨k + 1, by omega, by congr 1 <;> omega, ⟨_, hP, hS, HO2.out⟩, fr⟩
                  case measure => simp [intOf]; omega
              · obtain ⟨e1, e2, e3⟩ := hS.full (fun j hj => hO j (by omega))
                have ht := take_any wr w.heap.size s o hP hS.I.ok
                rw [e1, e2] at ht
                have hfr := fun W (h : Pool W w.heap.size s) => free_any W w.heap.size s h
                rw [freeN_eq, e3] at hfr
                have Ht := Lib.hid ht
                have Hfr := Lib.hid hfr
                have hk64 : k = 64 := by omega
                subst hk64
                clear ht hfr e1 e2 e3 hO
                go_wp2_with fail
                refine (Ht.out).mono ?_
                rintro e w3 ⟨rfl, hP3, f3⟩
                have fr3 := fr.trans (S := fun _ => False) f3 (fun i hi e => by omega)
                go_wp2_with fail
                refine (Hfr.out _ hP3).mono ?_
                rintro e w' ⟨rfl, rfl⟩
                go_wp2_with fail
                refine (Fm.known_any _).mono ?_
                rintro e w4 ⟨rfl, f4⟩
                go_wp2_with fail
                go_ret
                exact ⟨rfl, fr3.tr f4⟩
end Go.Proofs.Ytbkapgbohnmkhaa.framesLowest
