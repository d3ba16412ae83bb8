/- FramesBytes: the walk. -/
import Derived.Test.YtbkapgbohnmkhaaFramesLaws
namespace Go.Proofs.Ytbkapgbohnmkhaa.framesBytes
open Go.RowKit Fm
set_option linter.unusedVariables false
set_option maxHeartbeats 4000000

def z512 : Array Value := (List.replicate 512 (Value.int .u8 0)).toArray
set_option maxRecDepth 1000000 in
theorem zero512 : (Try.prog.info? 37).bind (·.zero) = some (.agg z512) := by kernel_rfl
theorem zero512_run (W : World) : (zeroValue 37).run Try.prog W = .ok (.agg z512) W := by
  have h := zero512
  cases hi : Try.prog.info? 37 with
  | none => rw [hi] at h; cases h
  | some i =>
    rw [hi] at h
    have h' : i.zero = some (.agg z512) := h
    simp [zeroValue, typeInfo, hi, h']
theorem cells512 (w : World) : Cells (w.alloc (.cells z512 37)) w.heap.size 37 512 (fun _ => .int .u8 0) :=
  Cells.new' w _ _ 512 _ (by
    show List.replicate 512 _ = _
    rw [List.map_const']; simp)
/-- eight frames, their bytes -/
structure BS (w : World) (gp gw : Nat) (s : Pl) : Prop where
  P : Pool w gp s
  L : LS s 0 8
  ow : ∀ j, j < 8 → s.own (16 + j) = 0
  W : Cells w gw 37 512 (fun k => .int .u8 (s.byt (1024 + k)))
theorem here_at {s : Pl} (f : Nat) {a : Int} (h1 : 16 ≤ f) (h2 : f < 256) (h3 : 0 ≤ s.own f) (ha : 0 ≤ a) (ha2 : a < 64) : hereB s f a = true := by
  have e1 := (own_yes h1 h2 h3).1
  simp [hereB, e1]
  omega
set_option maxRecDepth 100000 in
theorem walk (w : World) (A : Option Addr) (len cap : Nat) (zs : List Int) (hz : IntsAt .i64 w w.heap.size A len zs) (hm : len ≤ maxLen) (A2 : Option Addr) (len2 cap2 : Nat) (vs : List Int) (hv : IntsAt .u8 w w.heap.size A2 len2 vs) (hm2 : len2 ≤ maxLen) (gi : Int) (hgi : (Lit.int .i64 gi).wf = true) :
    Calls Try.prog 4 #[.slice A len cap, .slice A2 len2 cap2, .int .i64 gi] w fun e w' => e = .returned (.bool true) ∧ Fr (fun _ => False) w w' := by
  unfold maxLen at hm hm2
  have b1 := wf_i64 hgi
  have hw1 := Lib.hid (fun W => Bk.within_any W gi 0 7 b1.1 b1.2 (by omega) (by omega) (by omega))
  have g1 := Int.emod_nonneg gi (show (7 - 0 + 1 : Int) ≠ 0 by omega)
  have g2 := Int.emod_lt_of_pos gi (show (0 : Int) < 7 - 0 + 1 by omega)
  obtain ⟨g, hg⟩ : ∃ o : Nat, (0 : Int) + gi % (7 - 0 + 1) = o := ⟨(gi % (7 - 0 + 1)).toNat, by omega⟩
  have g8 : g < 8 := by omega
  rw [hg] at hw1
  clear hg g1 g2 b1
  have hpr := fun W g (h : Pool W g Pl.new) => promise_any W g Pl.new 0 8 h new_ok (by omega) (by omega)
  rw [show promR Pl.new 0 8 = 0 from promR_new0 (n := 8) (by omega) (by omega) (by omega)] at hpr
  have Hpr := Lib.hid hpr
  have hz5 := zero512_run
  clear hpr
  go_enter Try.func4, Try.ntmps4
  go_wp2_with fail
  refine (Fm.new_any w).mono ?_
  rintro e w1 ⟨rfl, hP, f1⟩
  go_wp2_with fail
  refine (Hpr.out _ _ hP).mono ?_
  rintro e w2 ⟨rfl, hP2, f2⟩
  have fr2 := f1.trans (S := fun _ => False) f2 (fun i hi e => by omega)
  have e0 : Pl.new.promise 0 8 = Pl.new.setProm 0 8 := promise_new (o := 0) (n := 8) (by omega) (by omega)
  have hS : ∃ s, Pool w2 w.heap.size s ∧ LS s 0 8 ∧ (∀ j, j < 8 → s.own (16 + j) = if j < 0 then (0 : Int) else -1) ∧ (∀ i, s.byt i = 0) := ⟨_, hP2, LS.new (o := 0) (N := 8) (by omega) (by omega), fun j hj => by
    rw [e0, if_neg (by omega)]; rfl, fun i => by rw [e0]; rfl⟩
  clear hP hP2 e0
  go_wp2_with fail
  go_loopw [8] (fun i wr => ∃ k : Nat, k ≤ 8 ∧ i = .int .i64 k ∧ (∃ s, Pool wr w.heap.size s ∧ LS s 0 8 ∧ (∀ j, j < 8 → s.own (16 + j) = if j < k then (0 : Int) else -1) ∧ (∀ i, s.byt i = 0)) ∧ Fr (fun _ => False) w wr) (fun i _ => 8 - (intOf i).toNat)
  case atStart => exact ⟨0, by omega, rfl, hS, fr2⟩
  case round =>
    clear hS fr2
    obtain ⟨k, hk, rfl, ⟨s, hP, hS, hO, hby⟩, fr⟩ := hrel
    by_cases hlt : k < 8
    · obtain ⟨e1, e2, e3, hS2⟩ := hS.take hlt (by rw [hO k hlt, if_neg (by omega)]) (fun j h1 h2 => by
        have := hO (j - 16) (by omega)
        rw [show 16 + (j - 16) = j by omega, if_pos (by omega)] at this
        omega)
      have ht := take_any wr w.heap.size s ((0 : Nat) : Int) hP hS.I.ok
      rw [e1, e2] at ht
      have ht : Calls Try.prog 15 #[.pointer (some ⟨w.heap.size, 0, none⟩), .int .i64 0] wr fun e w' => e = .returned (.tuple #[.int .i64 ((16 + k : Nat) : Int), .int .i64 0]) ∧ Pool w' w.heap.size (s.take ((0 : Nat) : Int)) ∧ Fr (· = w.heap.size) wr w' := ht
      have hO2 : ∀ j, j < 8 → (s.take ((0 : Nat) : Int)).own (16 + j) = if j < k + 1 then (0 : Int) else -1 := fun j hj => by
        rw [e3]
        show updI s.own (16 + k) ((0 : Nat) : Int) (16 + j) = _
        unfold updI
        split
        · rw [if_pos (by omega)]; rfl
        · rw [hO j hj]
          by_cases h : j < k
          · rw [if_pos h, if_pos (by omega)]
          · rw [if_neg h, if_neg (by omega)]
      have hB2 : ∀ i, (s.take ((0 : Nat) : Int)).byt i = 0 := fun i => by
        rw [e3]
        show (if (16 + k) * 64 ≤ i ∧ i < (16 + k) * 64 + 64 then 0 else s.byt i) = 0
        rw [hby i]; split <;> rfl
      have Ht := Lib.hid ht
      have HO2 := Lib.hid hO2
      have HB2 := Lib.hid hB2
      clear ht hO2 hB2 e1 e2 e3 hO hby
      go_wp2_with fail
      refine (Ht.out).mono ?_
      rintro e w3 ⟨rfl, hP3, f3⟩
      have fr3 := fr.trans (S := fun _ => False) f3 (fun i hi e => by omega)
      go_wp2_with fail
      go_roundw
      case rel => exact ⟨k + 1, by omega, by go_num, ⟨_, hP3, hS2, HO2.out, HB2.out⟩, fr3⟩
      case measure => simp [intOf]; omega
    · have hlt0 := hP.lt
      have hS : ∃ s, BS (wr.alloc (.cells z512 37)) w.heap.size wr.heap.size s := ⟨s, hP.alloc _, hS, fun j hj => by rw [hO j hj, if_pos (by omega)], Cells.congr (cells512 wr) (fun i hi => by rw [hby])⟩
      have fr3 := fr.alloc (.cells z512 37)
      have hgw := fr.size
      have hne : w.heap.size ≠ wr.heap.size := by omega
      clear hP hO hby hlt0
      go_wp2_with fail
      obtain ⟨k7, rfl⟩ : ∃ k7 : Nat, k7 = k := ⟨k, rfl⟩
      generalize hgw2 : wr.heap.size = gw at *
      clear hlt hk hgw2
      go_loopw [12] (fun i wr => ∃ k : Nat, k ≤ len ∧ i = .int .i64 k ∧ (∃ s, BS wr w.heap.size gw s) ∧ Fr (fun _ => False) w wr) (fun i _ => len - (intOf i).toNat)
      case atStart => exact ⟨0, Nat.zero_le _, rfl, hS, fr3⟩
      case round =>
        clear hS fr3 fr
        obtain ⟨k, hk, rfl, ⟨s, hS⟩, fr⟩ := hrel
        by_cases hlt : k < len ∧ k < len2 ∧ k < 40
        · obtain ⟨h1, h2, h3⟩ := hlt
          obtain ⟨b, off, rfl, hb, hc⟩ := (hz.fr fr (Nat.le_refl _) (fun _ _ e => e)).at_ h1
          obtain ⟨b2, off2, rfl, hb2, hc2⟩ := (hv.fr fr (Nat.le_refl _) (fun _ _ e => e)).at_ h2
          have hbd := wf_i64 (hz.2.1 k h1)
          generalize zs.getD k 0 = x at *
          have hw := Lib.hid (fun W => Bk.within_any W x 0 511 hbd.1 hbd.2 (by omega) (by omega) (by omega))
          have hq0 := Int.emod_nonneg x (show (511 - 0 + 1 : Int) ≠ 0 by omega)
          have hq1 := Int.emod_lt_of_pos x (show (0 : Int) < 511 - 0 + 1 by omega)
          obtain ⟨j, hj⟩ : ∃ j : Nat, (0 : Int) + x % (511 - 0 + 1) = j := ⟨(x % (511 - 0 + 1)).toNat, by omega⟩
          have hj5 : j < 512 := by omega
          rw [hj] at hw
          have hpt := put_any wr w.heap.size s ((16 + j / 64 : Nat) : Int) ((j % 64 : Nat) : Int) (vs.getD k 0) hS.P
          have hhe := here_at (s := s) (16 + j / 64) (a := ((j % 64 : Nat) : Int)) (by omega) (by omega) (by rw [hS.ow (j / 64) (by omega)]; omega) (by omega) (by omega)
          rw [hhe, show ((16 + j / 64 : Nat) : Int) = 16 + (j : Int) / 64 by omega, show ((j % 64 : Nat) : Int) = (j : Int) % 64 by omega] at hpt
          have ep : s.putB (16 + (j : Int) / 64) ((j : Int) % 64) (vs.getD k 0) = s.setByt (1024 + j) (vs.getD k 0) := by
            rw [show 16 + (j : Int) / 64 = ((16 + j / 64 : Nat) : Int) by omega, show (j : Int) % 64 = ((j % 64 : Nat) : Int) by omega, Pl.putB, if_pos hhe]
            congr 1
            omega
          rw [ep] at hpt
          have hL2 : LS (s.setByt (1024 + j) (vs.getD k 0)) 0 8 := ⟨by
            have := hS.L.I.putB (16 + (j : Int) / 64) ((j : Int) % 64) (vs.getD k 0)
            rw [ep] at this; exact this, hS.L.ho, hS.L.nN, hS.L.pr, hS.L.ow⟩
          obtain ⟨v, hv9⟩ : ∃ v, vs.getD k 0 = v := ⟨_, rfl⟩
          rw [hv9] at hpt hc2 hL2
          have Hv9 := Lib.hid hv9
          have hpt2 := Lib.hid hpt
          clear hpt ep hhe hj hq0 hq1 hv9
          go_wp2_with fail
          refine (hw.out _).mono ?_
          rintro e w' ⟨rfl, rfl⟩
          go_wp2_with fail
          refine (hpt2.out).mono ?_
          rintro e w3 ⟨rfl, hP3, f3⟩
          have fr3 := fr.trans (S := fun _ => False) f3 (fun i hi e => by omega)
          have hW3 := hS.W.fr f3 (fun e => hne e.symm)
          have cW := hW3.cell j hj5
          have zW := Cells.frozen hW3 j
          obtain ⟨b2', off2', e2, hb2', hc3⟩ := (hv.fr fr3 (Nat.le_refl _) (fun _ _ e => e)).at_ h2
          injection e2 with e2
          injection e2 with e3 e4
          subst e3 e4
          rw [Hv9.out] at hc3
          have hbw3 : b2 < w3.heap.size := Nat.lt_of_lt_of_le hb2 fr3.size
          have hS4 : BS (w3.setCell ⟨gw, j, none⟩ (.int .u8 v)) w.heap.size gw (s.setByt (1024 + j) v) := ⟨hP3.fr (Fr.set1 _ _ _ _) hne, hL2, hS.ow, Cells.congr (Cells.set_ hW3 j _) (fun i hi => by
            show putV _ j _ i = Value.int .u8 (updI s.byt (1024 + j) v (1024 + i))
            unfold putV updI
            by_cases e : i = j
            · rw [if_pos e, if_pos (by omega)]
            · rw [if_neg e, if_neg (by omega)])⟩
          have fr4 := fr3.setCell (p := ⟨gw, j, none⟩) (.inr hgw) (.int .u8 v)
          have HS4 := Lib.hid hS4
          have FR4 := Lib.hid fr4
          clear hS4 fr4
          go_wp2_with fail
          go_roundw
          case rel => exact ⟨k + 1, by omega, by go_num, ⟨_, HS4.out⟩, FR4.out⟩
          case measure => simp [intOf]; omega
        · have hex : ∃ s, BS wr w.heap.size gw s := ⟨s, hS⟩
          clear hS
          go_wp2_with fail
          all_goals
            obtain ⟨s, hS⟩ := hex
            refine (hw1.out _).mono ?_
            rintro e w' ⟨rfl, rfl⟩
            have hg16 := hS.ow g g8
            obtain ⟨a1, a2, a3⟩ := hS.L.give (k := g) g8 hg16
            have hgv := give1 wr w.heap.size s ((0 : Nat) : Int) ((16 + g : Nat) : Int) hS.P (by omega) (by omega)
            rw [a1, show ((16 + g : Nat) : Int) = 16 + (g : Int) by omega] at hgv
            have hgv : Calls Try.prog 17 #[.pointer (some ⟨w.heap.size, 0, none⟩), .int .i64 0, .slice (some ⟨wr.heap.size, 0, none⟩) 1 1] (wr.alloc (.cells #[.int .i64 (16 + (g : Int))] 3)) fun e w' => e = .returned (.int .i64 0) ∧ Pool w' w.heap.size (s.give ((0 : Nat) : Int) [16 + (g : Int)]) ∧ Fr (· = w.heap.size) wr w' := hgv
            have Hgv := Lib.hid hgv
            obtain ⟨s5, hs5⟩ : ∃ s5, s.give ((0 : Nat) : Int) [16 + (g : Int)] = s5 := ⟨_, rfl⟩
            rw [show ((16 + g : Nat) : Int) = 16 + (g : Int) by omega, hs5] at a2
            rw [show ((16 + g : Nat) : Int) = 16 + (g : Int) by omega, hs5] at a3
            rw [hs5] at Hgv
            have hW := Lib.hid hS.W
            have hbt : ∀ i, s5.byt i = s.byt i := fun i => by rw [a2]; rfl
            have how : ∀ j, j < 8 → s5.own (16 + j) = if j = g then -1 else 0 := fun j hj => by
              rw [a2]
              show updI s.own (16 + g) (-1) (16 + j) = _
              unfold updI
              by_cases e : j = g
              · rw [if_pos (by omega), if_pos e]
              · rw [if_neg (by omega), if_neg e]; exact hS.ow j hj
            have hlow : s5.own 0 = -1 := a3.I.low 0 (by omega)
            have hhg : ∀ a, hereB s5 (16 + (g : Int)) a = false := fun a => by
              have := (own_no (s := s5) (f := 16 + g) (by rw [how g g8, if_pos rfl])).1
              rw [show ((16 + g : Nat) : Int) = 16 + (g : Int) by omega] at this
              simp [hereB, this]
            have hpt := fun W (h : Pool W w.heap.size s5) => put_any W w.heap.size s5 (16 + (g : Int)) 0 1 h
            rw [hhg, show s5.putB (16 + (g : Int)) 0 1 = s5 by rw [Pl.putB, if_neg (by rw [hhg]; exact Bool.false_ne_true)]] at hpt
            have Hpt := Lib.hid hpt
            have Hbt := Lib.hid hbt
            have How := Lib.hid how
            have hne' : ¬ gw = w.heap.size := fun e => hne e.symm
            clear hgv a1 a2 hs5 hpt hbt hhg hS hg16 how
            go_wp2_with fail
            refine (Hgv.out).mono ?_
            rintro e w3 ⟨rfl, hP3, f3⟩
            have fr3 := fr.trans (S := fun _ => False) f3 (fun i hi e => by omega)
            have hW3 := hW.out.fr f3 hne'
            go_wp2_with fail
            refine (Hpt.out _ hP3).mono ?_
            rintro e w4 ⟨rfl, hP4, f4⟩
            have fr4 := fr3.trans (S := fun _ => False) f4 (fun i hi e => by omega)
            have hW4 := hW3.fr f4 hne'
            clear hP3 hW3 fr3 fr f3 f4 hW Hgv Hpt
            go_wp2_with fail
            go_loop [15] (fun i => ∃ m : Nat, m ≤ 512 ∧ i = .int .i64 m) (fun i => 512 - (intOf i).toNat)
            case atStart => exact ⟨0, by omega, rfl⟩
            case round =>
              obtain ⟨m, hm5, rfl⟩ := hrel
              by_cases hlt5 : m < 512
              · have hby := byte_any w4 w.heap.size s5 ((16 + m / 64 : Nat) : Int) ((m % 64 : Nat) : Int) hP4
                have cW := hW4.cell m hlt5
                by_cases hmg : m / 64 = g
                · have hh : hereB s5 ((16 + m / 64 : Nat) : Int) ((m % 64 : Nat) : Int) = false := by
                    have := (own_no (s := s5) (f := 16 + m / 64) (by rw [How.out _ (by omega), if_pos hmg])).1
                    rw [hereB, this, Bool.false_and]
                  have hbv : bytV s5 ((16 + m / 64 : Nat) : Int) ((m % 64 : Nat) : Int) = 0 := by rw [bytV, if_neg (by rw [hh]; exact Bool.false_ne_true)]
                  rw [hh, hbv, show ((16 + m / 64 : Nat) : Int) = 16 + (m : Int) / 64 by omega, show ((m % 64 : Nat) : Int) = (m : Int) % 64 by omega] at hby
                  have Hby := Lib.hid hby
                  have hne1 : ((m : Int) / 64 != (g : Int)) = false := by simp; omega
                  clear hby hh hbv hmg
                  go_wp2_with fail
                  refine (Hby.out).mono ?_
                  rintro e w' ⟨rfl, rfl⟩
                  go_wp2_with fail
                  go_round
                  case rel => exact ⟨m + 1, by omega, by go_num⟩
                  case measure => simp [intOf]; omega
                · have hh := here_at (s := s5) (16 + m / 64) (a := ((m % 64 : Nat) : Int)) (by omega) (by omega) (by rw [How.out _ (by omega), if_neg hmg]; omega) (by omega) (by omega)
                  have hbv : bytV s5 ((16 + m / 64 : Nat) : Int) ((m % 64 : Nat) : Int) = s.byt (1024 + m) := by
                    rw [bytV, if_pos hh, Hbt.out]
                    congr 1
                    omega
                  rw [hh, hbv, show ((16 + m / 64 : Nat) : Int) = 16 + (m : Int) / 64 by omega, show ((m % 64 : Nat) : Int) = (m : Int) % 64 by omega] at hby
                  have Hby := Lib.hid hby
                  have hne1 : ((m : Int) / 64 != (g : Int)) = true := by simp; omega
                  clear hby hh hbv hmg
                  generalize s.byt (1024 + m) = bv at *
                  go_wp2_with fail
                  refine (Hby.out).mono ?_
                  rintro e w' ⟨rfl, rfl⟩
                  go_wp2_with fail
                  go_round
                  case rel => exact ⟨m + 1, by omega, by go_num⟩
                  case measure => simp [intOf]; omega
              · have h1 := byte_any w4 w.heap.size s5 16 (-1) hP4
                have h2 := byte_any w4 w.heap.size s5 16 64 hP4
                have h3 := byte_any w4 w.heap.size s5 0 0 hP4
                have q1 : hereB s5 16 (-1) = false := by simp [hereB]
                have q2 : hereB s5 16 64 = false := by simp [hereB]
                have q3 : hereB s5 0 0 = false := by simp [hereB, ownB, isF]
                rw [q1] at h1
                rw [q2] at h2
                rw [q3] at h3
                have H1 := Lib.hid h1
                have H2 := Lib.hid h2
                have H3 := Lib.hid h3
                clear h1 h2 h3 q1 q2 q3
                go_wp2_with fail
                refine (H1.out).mono ?_
                rintro e w' ⟨rfl, rfl⟩
                go_wp2_with fail
                refine (H2.out).mono ?_
                rintro e w' ⟨rfl, rfl⟩
                go_wp2_with fail
                refine (H3.out).mono ?_
                rintro e w' ⟨rfl, rfl⟩
                go_wp2_with fail
                refine (Fm.known_any _).mono ?_
                rintro e w5 ⟨rfl, f5⟩
                go_wp2_with fail
                go_ret
                exact ⟨rfl, fr4.tr f5⟩
end Go.Proofs.Ytbkapgbohnmkhaa.framesBytes
