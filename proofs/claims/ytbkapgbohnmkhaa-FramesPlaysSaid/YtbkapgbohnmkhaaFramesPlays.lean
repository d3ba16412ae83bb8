/- FramesPlays: the walk. -/
import Derived.Test.YtbkapgbohnmkhaaFramesDo
import Derived.Test.YtbkapgbohnmkhaaSame64
namespace Go.Proofs.Ytbkapgbohnmkhaa.framesPlays
open Go.RowKit Fm
set_option linter.unusedVariables false
set_option maxHeartbeats 8000000

set_option maxRecDepth 100000 in
theorem alike5_any (w : World) (gp gw : Nat) (s : Pl) (h : PP w gp gw s) :
    Calls Try.prog 40 #[.pointer (some ⟨gp, 0, none⟩), .pointer (some ⟨gw, 0, none⟩)] w fun e w' => e = .returned (.bool true) ∧ Fr (fun _ => False) w w' := by
  have HH := Lib.hid h
  clear h
  go_enter Try.func40, Try.ntmps40
  go_wp2_with fail
  go_loop [5] (fun i => ∃ k : Nat, k ≤ 258 ∧ i = .int .i64 ((k : Int) - 1)) (fun i => (257 - intOf i).toNat)
  case atStart => exact ⟨0, by omega, rfl⟩
  case round =>
    obtain ⟨k, hk, rfl⟩ := hrel
    by_cases hlt : k < 258
    · have ho := Lib.hid (owner_any w gp s ((k : Int) - 1) HH.out.p)
      have hl0 : (k : Int) - 1 ≤ 256 := by omega
      by_cases h0 : k = 0
      · subst h0
        have e1 : ownB s (((0 : Nat) : Int) - 1) = false := by simp [ownB, isF]
        have e2 : ownV s (((0 : Nat) : Int) - 1) = 0 := by rw [ownV, if_neg (by rw [e1]; exact Bool.false_ne_true)]
        rw [e1, e2] at ho
        clear e1 e2
        go_wp2_with fail
        refine (ho.out).mono ?_
        rintro e w' ⟨rfl, rfl⟩
        go_wp2_with fail
        go_round
        case rel => exact ⟨1, by omega, rfl⟩
        case measure => simp [intOf]
      · obtain ⟨j, rfl⟩ : ∃ j, k = j + 1 := ⟨k - 1, by omega⟩
        have ej : ((j + 1 : Nat) : Int) - 1 = j := by omega
        rw [ej] at ho hl0 ⊢
        clear h0 ej
        have hj0 : (0 : Int) ≤ (j : Int) := by omega
        by_cases h256 : j < 256
        · have co := HH.out.r.cOwn j h256
          have hj1 : (j : Int) < 256 := by omega
          have hb := HH.out.i.ok.own j h256
          by_cases hn : s.own j = -1
          · obtain ⟨y1, y2⟩ := own_no hn
            rw [y1, y2] at ho
            rw [hn] at co
            clear y1 y2 hn hb
            go_wp2_with fail
            refine (ho.out).mono ?_
            rintro e w' ⟨rfl, rfl⟩
            go_wp2_with fail
            go_round
            case rel => exact ⟨j + 2, by omega, by congr 1; omega⟩
            case measure => simp [intOf]; omega
          · have h16 : 16 ≤ j := by
              rcases Nat.lt_or_ge j 16 with h | h
              · have := HH.out.i.low j h; omega
              · exact h
            have hp : (0 : Int) ≤ s.own j := by omega
            obtain ⟨y1, y2⟩ := own_yes h16 h256 hp
            rw [y1, y2] at ho
            have hnn : (s.own j != s.own j) = false := by simp
            clear y1 y2 hn hb
            generalize s.own j = q at *
            go_wp2_with fail
            refine (ho.out).mono ?_
            rintro e w' ⟨rfl, rfl⟩
            go_wp2_with fail
            go_round
            case rel => exact ⟨j + 2, by omega, by congr 1; omega⟩
            case measure => simp [intOf]; omega
        · have e : j = 256 := by omega
          subst e
          have e1 : ownB s ((256 : Nat) : Int) = false := by simp [ownB, isF]
          have e2 : ownV s ((256 : Nat) : Int) = 0 := by rw [ownV, if_neg (by rw [e1]; exact Bool.false_ne_true)]
          rw [e1, e2] at ho
          clear e1 e2
          go_wp2_with fail
          refine (ho.out).mono ?_
          rintro e w' ⟨rfl, rfl⟩
          go_wp2_with fail
          go_round
          case rel => exact ⟨258, by omega, rfl⟩
          case measure => simp [intOf]
    · have e : k = 258 := by omega
      subst e
      go_wp2_with fail
      go_loopw [9] (fun i wr => ∃ k : Nat, k ≤ 6 ∧ i = .int .i64 ((k : Int) - 1) ∧ Fr (fun _ => False) w wr) (fun i _ => (5 - intOf i).toNat)
      case atStart => exact ⟨0, by omega, rfl, Fr.refl _ _⟩
      case round =>
        obtain ⟨k, hk, rfl, fr⟩ := hrel
        have hP := HH.out.fr0 fr
        by_cases hlt : k < 6
        · have hl0 : (k : Int) - 1 ≤ 4 := by omega
          have hhp := fun W (h : Pool W gp s) => held_any W gp s ((k : Int) - 1) h 0 (by omega)
          have hhr := fun W (h : RPool W gw s) => rheld_any W gw s ((k : Int) - 1) h hP.i.ok 0 (by omega)
          have hpm := fun W (h : Pool W gp s) => promised_any W gp s ((k : Int) - 1) h
          have hle := held_len s ((k : Int) - 1)
          have hwf : ∀ z ∈ held s ((k : Int) - 1), (Lit.int .i64 z).wf = true := by
            intro z hz
            unfold held at hz
            split at hz
            · obtain ⟨f, rfl, hf, _⟩ := heldN_mem.1 hz
              exact wf_i64_mk (n := (f : Int)) (by omega) (by omega)
            · cases hz
          have Hwf := Lib.hid hwf
          have Hhp := Lib.hid hhp
          have Hhr := Lib.hid hhr
          have Hpm : Hid (∀ W (h : Pool W gp s), Calls Try.prog 43 #[.pointer (some ⟨gp, 0, none⟩), .int .i64 ((k : Int) - 1)] W fun e w' => e = .returned (.int .i64 (promV s ((k : Int) - 1))) ∧ W = w') := Lib.hid hpm
          clear hhp hhr hpm hwf
          have fin : ∀ (pv : Int), promV s ((k : Int) - 1) = pv → True := fun _ _ => trivial
          clear fin
          by_cases ho : 1 ≤ k ∧ k ≤ 4
          · obtain ⟨o, rfl⟩ : ∃ o, k = o + 1 := ⟨k - 1, by omega⟩
            have eo : ((o + 1 : Nat) : Int) - 1 = o := by omega
            rw [eo] at Hhp Hhr Hpm Hwf hle hl0 ⊢
            have o4 : o < 4 := by omega
            have oi0 : (0 : Int) ≤ (o : Int) := by omega
            have oi1 : (o : Int) < 4 := by omega
            have cp := hP.r.cProm o o4
            have epv : promV s o = max (s.prom o) 0 := by simp [promV, isO]; omega
            rw [epv] at Hpm
            generalize held s o = L at *
            by_cases hq : 0 < s.prom o
            · rw [show max (s.prom o) 0 = s.prom o by omega] at Hpm
              have hnn : (s.prom o != s.prom o) = false := by simp
              clear epv ho eo
              generalize s.prom o = q at *
              go_wp2_with fail
              refine (Hpm.out _ hP.p).mono ?_
              rintro e w' ⟨rfl, rfl⟩
              go_wp2_with fail
              refine (Hhp.out _ hP.p).mono ?_
              rintro e w2 ⟨v2, rfl, ho2, f2, k2⟩
              obtain ⟨A2, cp2, rfl⟩ := ownI_any ho2
              have hP2 := hP.fr0 f2
              have hI2 := Bk.own_ints ho2 Hwf.out
              go_wp2_with fail
              refine (Hhr.out _ hP2.r).mono ?_
              rintro e w3 ⟨v3, rfl, ho3, f3, k3⟩
              obtain ⟨A3, cp3, rfl⟩ := ownI_any ho3
              have hI3 := Bk.own_ints ho3 Hwf.out
              have hI2' := hI2.fr f3 (Nat.le_refl _) (fun _ _ e => e)
              have hsm := Lib.hid (Bk.same64_eq w3 w2.heap.size w3.heap.size L.length cp2 cp3 A2 A3 L hI2' f3.size hI3 (Nat.le_refl _) (by omega))
              clear ho2 ho3 k2 k3 hI2 hI3 hI2'
              go_wp2_with fail
              refine (hsm.out).mono ?_
              rintro e w4 ⟨rfl, f4⟩
              go_wp2_with fail
              go_roundw
              case rel => exact ⟨o + 2, by omega, by congr 1; omega, ((fr.tr f2).tr f3).tr f4⟩
              case measure => simp [intOf]; omega
            · rw [show max (s.prom o) 0 = 0 by omega] at Hpm
              have hq' : decide (0 < s.prom o) = false := by simpa using hq
              clear epv ho eo hq
              generalize s.prom o = q at *
              go_wp2_with fail
              refine (Hpm.out _ hP.p).mono ?_
              rintro e w' ⟨rfl, rfl⟩
              go_wp2_with fail
              refine (Hhp.out _ hP.p).mono ?_
              rintro e w2 ⟨v2, rfl, ho2, f2, k2⟩
              obtain ⟨A2, cp2, rfl⟩ := ownI_any ho2
              have hP2 := hP.fr0 f2
              have hI2 := Bk.own_ints ho2 Hwf.out
              go_wp2_with fail
              refine (Hhr.out _ hP2.r).mono ?_
              rintro e w3 ⟨v3, rfl, ho3, f3, k3⟩
              obtain ⟨A3, cp3, rfl⟩ := ownI_any ho3
              have hI3 := Bk.own_ints ho3 Hwf.out
              have hI2' := hI2.fr f3 (Nat.le_refl _) (fun _ _ e => e)
              have hsm := Lib.hid (Bk.same64_eq w3 w2.heap.size w3.heap.size L.length cp2 cp3 A2 A3 L hI2' f3.size hI3 (Nat.le_refl _) (by omega))
              clear ho2 ho3 k2 k3 hI2 hI3 hI2'
              go_wp2_with fail
              refine (hsm.out).mono ?_
              rintro e w4 ⟨rfl, f4⟩
              go_wp2_with fail
              go_roundw
              case rel => exact ⟨o + 2, by omega, by congr 1; omega, ((fr.tr f2).tr f3).tr f4⟩
              case measure => simp [intOf]; omega
          · have epv : promV s ((k : Int) - 1) = 0 := by
              have : isO ((k : Int) - 1) = false := by simp [isO]; omega
              simp [promV, this]
            rw [epv] at Hpm
            clear epv
            rcases (by omega : k = 0 ∨ k = 5) with rfl | rfl
            all_goals
              generalize hL : held s _ = L at *
              clear hL
              go_wp2_with fail
              refine (Hpm.out _ hP.p).mono ?_
              rintro e w' ⟨rfl, rfl⟩
              go_wp2_with fail
              refine (Hhp.out _ hP.p).mono ?_
              rintro e w2 ⟨v2, rfl, ho2, f2, k2⟩
              obtain ⟨A2, cp2, rfl⟩ := ownI_any ho2
              have hP2 := hP.fr0 f2
              have hI2 := Bk.own_ints ho2 Hwf.out
              go_wp2_with fail
              refine (Hhr.out _ hP2.r).mono ?_
              rintro e w3 ⟨v3, rfl, ho3, f3, k3⟩
              obtain ⟨A3, cp3, rfl⟩ := ownI_any ho3
              have hI3 := Bk.own_ints ho3 Hwf.out
              have hI2' := hI2.fr f3 (Nat.le_refl _) (fun _ _ e => e)
              have hsm := Lib.hid (Bk.same64_eq w3 w2.heap.size w3.heap.size L.length cp2 cp3 A2 A3 L hI2' f3.size hI3 (Nat.le_refl _) (by omega))
              clear ho2 ho3 k2 k3 hI2 hI3 hI2'
              go_wp2_with fail
              refine (hsm.out).mono ?_
              rintro e w4 ⟨rfl, f4⟩
              go_wp2_with fail
              go_roundw
              case rel => first | exact ⟨1, by omega, rfl, ((fr.tr f2).tr f3).tr f4⟩ | exact ⟨6, by omega, rfl, ((fr.tr f2).tr f3).tr f4⟩
              case measure => simp [intOf]
        · have e : k = 6 := by omega
          subst e
          have hfp := Lib.hid (free_any wr gp s hP.p)
          have hfr := Lib.hid (rfree_any wr gw s hP.r hP.i.ok)
          generalize freeN s 256 = fn at *
          go_wp2_with fail
          refine (hfp.out).mono ?_
          rintro e w' ⟨rfl, rfl⟩
          go_wp2_with fail
          refine (hfr.out).mono ?_
          rintro e w' ⟨rfl, rfl⟩
          go_wp2_with fail
          go_ret
          exact ⟨by first | rfl | simp, fr⟩

set_option maxRecDepth 100000 in
theorem walk (w : World) (A : Option Addr) (len cap : Nat) (hl : AsksAt w w.heap.size A len ∧ len ≤ maxLen) :
    Calls Try.prog 10 #[.slice A len cap] w fun e w' => e = .returned (.bool true) ∧ Fr (fun _ => False) w w' := by
  obtain ⟨hl, hm⟩ := hl
  unfold maxLen at hm
  go_enter Try.func10, Try.ntmps10
  go_wp2_with fail
  refine (Fm.new_any w).mono ?_
  rintro e w1 ⟨rfl, hP, f1⟩
  go_wp2_with fail
  refine (Fm.rnew_any w1).mono ?_
  rintro e w2 ⟨rfl, hR, f2⟩
  have hS : ∃ s, PP w2 w.heap.size w1.heap.size s := ⟨Pl.new, hP.fr f2 (fun e => e), hR, PInv.new⟩
  have hgw := f1.size
  have fr2 := f1.tr f2
  clear hP hR f1 f2
  go_wp2_with fail
  go_loopw [5] (fun i wr => ∃ k : Nat, k ≤ len ∧ i = .int .i64 k ∧ (∃ s, PP wr w.heap.size w1.heap.size s) ∧ Fr (fun _ => False) w wr) (fun i _ => len - (intOf i).toNat)
  case atStart => exact ⟨0, Nat.zero_le _, rfl, hS, fr2⟩
  case round =>
    clear hS fr2
    obtain ⟨k, hk, rfl, ⟨s, hP⟩, fr⟩ := hrel
    by_cases hlt : k < len ∧ k < 80
    · obtain ⟨h1, h2⟩ := hlt
      obtain ⟨b, off, rfl, hb, x, hx⟩ := hl.at_ h1
      obtain ⟨⟨c0, c1, c2, c3, c4⟩, ⟨w0, w1'⟩, ⟨w2', w3'⟩, hI, hI2, hI3, _⟩ := hx.fr fr hb (Nat.le_refl _) (fun _ _ e => e)
      obtain ⟨kd, ow, n, A2, len2, cap2, zs, by_⟩ := x
      dsimp only at c0 c1 c2 c3 c4 w0 w1' w2' w3' hI hI2 hI3
      have hd := Lib.hid (do5_any wr w.heap.size w1.heap.size s hP kd ow n by_ w0 w1' w2' w3' A2 len2 cap2 w.heap.size zs hI fr.size (fun h b' off' e => by
        obtain ⟨b2, o2, e2, hb2, _⟩ := hI.2.2 h
        rw [e] at e2
        injection e2 with e2
        injection e2 with e3
        omega) hI2 hI3)
      have hk80 : decide ((k : Int) < 80) = true := by simp; omega
      clear hx hI hP
      go_wp2_with fail
      refine (hd.out).mono ?_
      rintro e w4 ⟨rfl, hS4, f4⟩
      have fr4 := fr.trans (S := fun _ => False) f4 (fun i hi e => by omega)
      go_wp2_with fail
      go_roundw
      case rel => exact ⟨k + 1, by omega, by go_num, hS4, fr4⟩
      case measure => simp [intOf]; omega
    · have ha := Lib.hid (alike5_any wr w.heap.size w1.heap.size s hP)
      go_wp2_with fail
      all_goals
        refine (ha.out).mono ?_
        rintro e w5 ⟨rfl, f5⟩
        go_wp2_with fail
        refine (Fm.known_any _).mono ?_
        rintro e w6 ⟨rfl, f6⟩
        go_wp2_with fail
        go_ret
        exact ⟨rfl, (fr.tr f5).tr f6⟩
end Go.Proofs.Ytbkapgbohnmkhaa.framesPlays
