/- The document's pool, II: Promised, Take, Give, Drop. -/
import Derived.Test.YtbkapgbohnmkhaaFramesRef
import Derived.Deep.RegionHeld3
namespace Go.Proofs.Ytbkapgbohnmkhaa.Fm
open Go.RowKit
set_option linter.unusedVariables false
set_option maxHeartbeats 4000000

set_option maxRecDepth 100000 in
theorem rpromised_any (w : World) (g : Nat) (s : Pl) (o n : Int) (h : RPool w g s) (hok : s.Ok) (hn0 : -9223372036854775808 ≤ n) (hn1 : n ≤ 9223372036854775807) :
    Calls Try.prog 61 #[.pointer (some ⟨g, 0, none⟩), .int .i64 o, .int .i64 n] w fun e w' => e = .returned (.int .i64 (promR s o n)) ∧ RPool w' g (s.promise o n) ∧ Fr (· = g) w w' := by
  have hf := fun w => rowner_any w o
  have Hf := Lib.hid hf
  clear hf
  cases hb : isO o
  · have e1 : promR s o n = 1 := by simp [promR, hb]
    have e2 : s.promise o n = s := by simp [Pl.promise, e1]
    rw [e1, e2]
    rw [hb] at Hf
    clear hb e1 e2
    go_enter Try.func61, Try.ntmps61
    go_wp2_with fail
    refine (Hf.out _).mono ?_
    rintro e w' ⟨rfl, rfl⟩
    go_wp2_with fail
    go_ret
    exact ⟨rfl, h, Fr.refl _ _⟩
  · rw [hb] at Hf
    by_cases hn : n < 0
    · have e1 : promR s o n = 1 := by simp [promR, hn]
      have e2 : s.promise o n = s := by simp [Pl.promise, e1]
      rw [e1, e2]
      clear hb e1 e2
      go_enter Try.func61, Try.ntmps61
      go_wp2_with fail
      refine (Hf.out _).mono ?_
      rintro e w' ⟨rfl, rfl⟩
      go_wp2_with fail
      go_ret
      exact ⟨rfl, h, Fr.refl _ _⟩
    · by_cases hn2 : 64 < n
      · have e1 : promR s o n = 1 := by simp [promR, hn2]
        have e2 : s.promise o n = s := by simp [Pl.promise, e1]
        rw [e1, e2]
        have hn' : decide (n < 0) = false := by simpa using hn
        clear hb e1 e2 hn
        go_enter Try.func61, Try.ntmps61
        go_wp2_with fail
        refine (Hf.out _).mono ?_
        rintro e w' ⟨rfl, rfl⟩
        go_wp2_with fail
        go_ret
        exact ⟨rfl, h, Fr.refl _ _⟩
      · obtain ⟨ho1, ho2⟩ : 0 ≤ o ∧ o < 4 := by simpa [isO] using hb
        obtain ⟨k, rfl⟩ : ∃ k : Nat, o = k := ⟨o.toNat, by omega⟩
        have hk4 : k < 4 := by omega
        have c := h.cProm k hk4
        have z := Cells.frozen h (256 + k)
        have hpk := hok.prom k hk4
        have hn' : decide (n < 0) = false := by simpa using hn
        have hn2' : decide (64 < n) = false := by simpa using hn2
        by_cases hp : s.prom k = -1
        · have hbd := sumP_bd hok
          have Hbd := Lib.hid hbd
          have hpw := h.setProm k hk4 n
          have Hpw := Lib.hid hpw
          have e1 : promR s k n = if 240 < n + sumP s 4 then 13 else 0 := by simp [promR, hb, hn, hn2, hp]
          have E1 := Lib.hid e1
          have E2 := Lib.hid (show s.promise k n = if 240 < n + sumP s 4 then s else s.setProm k n by
            unfold Pl.promise
            rw [e1]
            by_cases hh : 240 < n + sumP s 4
            · rw [if_pos hh, if_pos hh, if_neg (by omega)]
            · rw [if_neg hh, if_neg hh, if_pos rfl]; rfl)
          have hn3 : 0 ≤ n := by omega
          have hn4 : n ≤ 64 := by omega
          rw [hp] at c
          clear hbd hpw e1 hp hb hn hn2 hpk
          go_enter Try.func61, Try.ntmps61
          go_wp2_with fail
          refine (Hf.out _).mono ?_
          rintro e w' ⟨rfl, rfl⟩
          go_wp2_with fail
          go_loop [7, 8] (fun a i => ∃ j : Nat, j ≤ 4 ∧ i = .int .i64 j ∧ a = .int .i64 (n + sumP s j)) (fun _ i => 4 - (intOf i).toNat)
          case atStart => exact ⟨0, by omega, rfl, by simp [sumP]⟩
          case round =>
            obtain ⟨j, hj, rfl, rfl⟩ := hrel
            by_cases hlt : j < 4
            · have cj := h.cProm j hlt
              obtain ⟨hb0, hb1⟩ := Hbd.out j hj
              have hpj := hok.prom j hlt
              have Hs := Lib.hid (show sumP s (j + 1) = sumP s j + max (s.prom j) 0 from rfl)
              generalize sumP s j = sj at *
              generalize s.prom j = pj at *
              by_cases hq : 0 < pj
              · go_wp2_with fail
                go_round
                case rel => exact ⟨j + 1, by omega, by go_num, by rw [Hs.out]; congr 1; omega⟩
                case measure => simp [intOf]; omega
              · have hq' : decide (0 < pj) = false := by simpa using hq
                clear hq
                go_wp2_with fail
                go_round
                case rel => exact ⟨j + 1, by omega, by go_num, by rw [Hs.out]; congr 1; have : ¬ 0 < pj := by simpa using hq'
                                                                  omega⟩
                case measure => simp [intOf]; omega
            · have e4 : j = 4 := by omega
              subst e4
              obtain ⟨hb0, hb1⟩ := Hbd.out 4 (by omega)
              generalize sumP s 4 = s4 at *
              by_cases hh : 240 < n + s4
              · have H1 := Lib.hid (E1.out.trans (if_pos hh))
                have H2 := Lib.hid (E2.out.trans (if_pos hh))
                go_wp2_with fail
                go_ret
                exact ⟨by rw [H1.out]; rfl, by rw [H2.out]; exact h, Fr.refl _ _⟩
              · have H1 := Lib.hid (E1.out.trans (if_neg hh))
                have H2 := Lib.hid (E2.out.trans (if_neg hh))
                go_wp2_with fail
                go_ret
                exact ⟨by rw [H1.out]; rfl, by rw [H2.out]; exact Hpw.out, Fr.set1 _ _ _ _⟩
        · have e1 : promR s k n = 24 := by simp [promR, hb, hn, hn2, hp]
          have e2 : s.promise k n = s := by simp [Pl.promise, e1]
          rw [e1, e2]
          have hp' : (0 : Int) ≤ s.prom k := by omega
          clear hb e1 e2 hn hn2 hp hpk
          go_enter Try.func61, Try.ntmps61
          go_wp2_with fail
          refine (Hf.out _).mono ?_
          rintro e w' ⟨rfl, rfl⟩
          go_wp2_with fail
          go_ret
          exact ⟨rfl, h, Fr.refl _ _⟩

set_option maxRecDepth 100000 in
theorem rtake_any (w : World) (g : Nat) (s : Pl) (o : Int) (h : RPool w g s) (hok : s.Ok) :
    Calls Try.prog 62 #[.pointer (some ⟨g, 0, none⟩), .int .i64 o] w fun e w' => e = .returned (.tuple #[.int .i64 (takeV s o), .int .i64 (takeE s o)]) ∧ RPool w' g (s.take o) ∧ Fr (· = g) w w' := by
  have hf := fun w => rowner_any w o
  have Hf := Lib.hid hf
  clear hf
  cases hb : isO o
  · have e0 : takeF s o = none := by simp [takeF, mayTake, hb]
    have e1 : takeV s o = 0 := by simp [takeV, e0]
    have e2 : takeE s o = 1 := by simp [takeE, hb]
    have e3 : s.take o = s := by simp [Pl.take, e0]
    rw [e1, e2, e3]
    rw [hb] at Hf
    clear hb e0 e1 e2 e3
    go_enter Try.func62, Try.ntmps62
    go_wp2_with fail
    refine (Hf.out _).mono ?_
    rintro e w' ⟨rfl, rfl⟩
    go_wp2_with fail
    go_ret2
    exact ⟨rfl, h, Fr.refl _ _⟩
  · rw [hb] at Hf
    obtain ⟨ho1, ho2⟩ : 0 ≤ o ∧ o < 4 := by simpa [isO] using hb
    obtain ⟨m, rfl⟩ : ∃ k : Nat, o = k := ⟨o.toNat, by omega⟩
    have hm4 : m < 4 := by omega
    have c := h.cProm m hm4
    have hlt := h.lt
    have hheld := Lib.hid (rheld_any w.drew g s m (h.drew) hok w.heap.size (Nat.le_refl _))
    have hhl := held_len s m
    have hmt : mayTake s m = decide (((held s m).length : Int) < s.prom m) := by simp [mayTake, hb]
    have hpm := hok.prom m hm4
    obtain ⟨hp0, hp1⟩ := hpm
    by_cases hfull : ((held s m).length : Int) < s.prom m
    · have hmt : mayTake s m = true := by rw [hmt]; simpa using hfull
      have eF : takeF s m = takeN s := by rw [takeF, if_pos hmt]
      have EF := Lib.hid eF
      have HB := Lib.hid hb
      clear eF hmt hb
      generalize hq : (held s m).length = hn at *
      have Hhl := Lib.hid hq
      clear hq
      go_enter Try.func62, Try.ntmps62
      go_wp2_with fail
      refine (Hf.out _).mono ?_
      rintro e w' ⟨rfl, rfl⟩
      go_wp2_with fail
      go_region_with ((go_at_call 66; refine (hheld.out).mono ?_; rintro e w1 ⟨v, rfl, ho5, f5, k5⟩; rw [Hhl.out] at ho5; have c5 := f5.cell (w := w.drew) c hlt (fun e => e); obtain ⟨A5, cap5, hv5⟩ := ownI_any ho5; subst hv5))
      all_goals
        have hP1 : RPool w1 g s := h.drew.fr f5 (fun e => e)
        have fr1 : Fr (fun k => k = g) w w1 := ((Fr.refl _ w).drew).tr (Fr.none f5)
        go_wp2_with fail
        go_loop [6] (fun i => ∃ k : Nat, 16 ≤ k ∧ k ≤ 256 ∧ i = .int .i64 k ∧ NoFree s k) (fun i => 256 - (intOf i).toNat)
        case atStart => exact ⟨16, by omega, by omega, rfl, fun j h1 h2 => by omega⟩
        case round =>
          obtain ⟨k, h16, hk, rfl, hNF⟩ := hrel
          by_cases hlt2 : k < 256
          · have c := hP1.cOwn k hlt2
            have hlow := (hok.own k hlt2).1
            by_cases ho : s.own k = -1
            · have z := Cells.frozen hP1 k
              have hp1 := hP1.setOwn k hlt2 m
              have hth := Cells.there hp1 (260 + k * 64) z64.size (by simp [z64]; omega)
              have hinf : (Try.prog.info? 82).map (·.size) = some z64.size := by kernel_rfl
              have hone : z64.all (·.oneCell') = true := all_oneCell_toArray (fun v hv => by rw [List.eq_of_mem_replicate hv]; rfl)
              have hp2 := hp1.wipe k hlt2
              have fr2 := Fr.setRow (List.replicate 64 (.int .u8 0)) (260 + k * 64) (fr1.setCell (p := ⟨g, k, none⟩) (.inl rfl) (.int .i64 m)) (.inl rfl)
              have e0 : takeF s m = some k := (EF.out).trans (takeN_some hNF h16 hlt2 ho)
              have e1 : takeV s m = k := by simp [takeV, e0]
              have e2 : takeE s m = 0 := by simp [takeE, e0, HB.out]
              have e3 : s.take m = (s.setOwn k m).wipe k := by simp [Pl.take, e0]
              have HP2 := Lib.hid hp2
              have FR2 := Lib.hid fr2
              have E1 := Lib.hid e1
              have E2 := Lib.hid e2
              have E3 := Lib.hid e3
              have hz : z64.toList = List.replicate 64 (Value.int .u8 0) := by simp [z64]
              have HZ := Lib.hid hz
              rw [ho] at c
              clear hp1 hp2 fr2 e0 e1 e2 e3 ho hz hlow
              go_wp2_with (refine wpList_store_mid rfl 82 (.tmp 43) (.tmp 40) rfl g (260 + k * 64) z64 rfl rfl hth hinf hone ?_)
              go_ret2
              rw [HZ.out]
              exact ⟨by rw [E1.out, E2.out]; rfl, by rw [E3.out]; exact HP2.out, FR2.out⟩
            · have ho' : decide (s.own k < 0) = false := by simp; omega
              have hNF2 : NoFree s (k + 1) := fun j h1 h2 => by
                by_cases e : j = k
                · rw [e]; exact ho
                · exact hNF j h1 (by omega)
              clear ho
              generalize s.own k = q at *
              go_wp2_with fail
              go_round
              case rel => exact ⟨k + 1, by omega, by omega, by go_num, hNF2⟩
              case measure => simp [intOf]; omega
          · have e : k = 256 := by omega
            subst e
            have e0 : takeF s m = none := (EF.out).trans (takeN_none hNF)
            have e1 : takeV s m = 0 := by simp [takeV, e0]
            have e2 : takeE s m = 13 := by simp [takeE, e0, HB.out]
            have e3 : s.take m = s := by simp [Pl.take, e0]
            have E1 := Lib.hid e1
            have E2 := Lib.hid e2
            have E3 := Lib.hid e3
            clear e0 e1 e2 e3
            go_wp2_with fail
            go_ret2
            exact ⟨by rw [E1.out, E2.out]; rfl, by rw [E3.out]; exact hP1, fr1⟩
    · have hmt : mayTake s m = false := by rw [hmt]; simpa using hfull
      have e0 : takeF s m = none := by simp [takeF, hmt]
      have e1 : takeV s m = 0 := by simp [takeV, e0]
      have e2 : takeE s m = 13 := by simp [takeE, e0, hb]
      have e3 : s.take m = s := by simp [Pl.take, e0]
      rw [e1, e2, e3]
      clear e0 e1 e2 e3 hmt hb
      generalize hq : (held s m).length = hn at *
      have Hhl := Lib.hid hq
      have hfull' : s.prom m ≤ (hn : Int) := by omega
      clear hq hfull
      go_enter Try.func62, Try.ntmps62
      go_wp2_with fail
      refine (Hf.out _).mono ?_
      rintro e w' ⟨rfl, rfl⟩
      go_wp2_with fail
      go_region_with ((go_at_call 66; refine (hheld.out).mono ?_; rintro e w1 ⟨v, rfl, ho5, f5, k5⟩; rw [Hhl.out] at ho5; have c5 := f5.cell (w := w.drew) c hlt (fun e => e); obtain ⟨A5, cap5, hv5⟩ := ownI_any ho5; subst hv5))
      all_goals
        have hP1 : RPool w1 g s := h.drew.fr f5 (fun e => e)
        have fr1 : Fr (fun k => k = g) w w1 := ((Fr.refl _ w).drew).tr (Fr.none f5)
        go_wp2_with fail
        go_ret2
        exact ⟨rfl, hP1, fr1⟩

set_option maxRecDepth 100000 in
theorem rgive_any (w : World) (g : Nat) (s : Pl) (o : Int) (B n c : Nat) (A : Option Addr) (l : List Int) (h : RPool w g s) (hlow : ∀ f, f < 16 → s.own f = -1) (hl : IntsAt .i64 w B A n l) (hB : B ≤ w.heap.size) (hA : 0 < n → ∀ b off, A = some ⟨b, off, none⟩ → ¬ b = g) (hm : n ≤ maxLen) (hc : n ≤ c) :
    Calls Try.prog 63 #[.pointer (some ⟨g, 0, none⟩), .int .i64 o, .slice A n c] w fun e w' => e = .returned (.int .i64 (giveR s o l)) ∧ RPool w' g (s.give o l) ∧ Fr (· = g) w w' := by
  have hm' := hm
  unfold maxLen at hm
  have hlen := Lib.hid hl.1
  have hf := fun w => rowner_any w o
  have Hf := Lib.hid hf
  clear hf
  cases hb : isO o
  · have e1 : giveR s o l = 1 := by simp [giveR, hb]
    have e2 : s.give o l = s := by simp [Pl.give, e1]
    rw [e1, e2]
    rw [hb] at Hf
    clear hb e1 e2
    go_enter Try.func63, Try.ntmps63
    go_wp2_with fail
    refine (Hf.out _).mono ?_
    rintro e w' ⟨rfl, rfl⟩
    go_wp2_with fail
    go_ret
    exact ⟨rfl, h, Fr.refl _ _⟩
  · rw [hb] at Hf
    have ho0 : 0 ≤ o := by simp [isO] at hb; omega
    have hbad : ∀ k, k < n → okAt s o l k = false → giveR s o l = 25 := by
      intro k hk hok
      have : allOk s o l l.length = false := by
        cases hh : allOk s o l l.length
        · rfl
        · have := allOk_at hh k (by rw [hlen.out]; exact hk)
          rw [hok] at this; cases this
      simp [giveR, hb, this]
    have hbad2 : giveR s o l = 25 → s.give o l = s := fun e => by simp [Pl.give, e]
    have Hbad := Lib.hid hbad
    have Hbad2 := Lib.hid hbad2
    have HB := Lib.hid hb
    have Hlow := Lib.hid hlow
    clear hbad hbad2 hb hlow
    go_enter Try.func63, Try.ntmps63
    go_wp2_with fail
    refine (Hf.out _).mono ?_
    rintro e w' ⟨rfl, rfl⟩
    go_wp2_with fail
    go_loopw [7] (fun i wr => ∃ k : Nat, k ≤ n ∧ i = .int .i64 k ∧ Hid (allOk s o l k = true) ∧ Fr (fun _ => False) w wr) (fun i _ => n - (intOf i).toNat)
    case atStart => exact ⟨0, by omega, rfl, rfl, Fr.refl _ _⟩
    case round =>
      obtain ⟨k, hk, rfl, hok, fr0⟩ := hrel
      have h0 := h.fr fr0 (fun e => e)
      have hl0 := hl.fr fr0 hB (fun _ _ e => e)
      have Fg : Hid (Fr (· = g) w wr) := Lib.hid (Fr.none fr0)
      by_cases hlt : k < n
      · obtain ⟨b, off, rfl, hbb, hcell⟩ := hl0.at_ hlt
        have Hk : Hid (okAt s o l k = (isF (l.getD k 0) && (s.own (l.getD k 0).toNat == o) && !hasI (l.take k) (l.getD k 0))) := rfl
        have hkn0 : (0 : Int) ≤ (k : Int) := by omega
        have hkn : (k : Int) < (n : Int) := by omega
        obtain ⟨x, hx⟩ : ∃ x, l.getD k 0 = x := ⟨_, rfl⟩
        rw [hx] at hcell Hk
        by_cases hx0 : 0 ≤ x
        · by_cases hx1 : x < 256
          · obtain ⟨f, rfl⟩ : ∃ f : Nat, x = f := ⟨x.toNat, by omega⟩
            have co := h0.cOwn f (by omega)
            have hx0' : decide ((f : Int) < 0) = false := by simp
            have hx1' : decide (256 ≤ (f : Int)) = false := by simp; omega
            by_cases ho : s.own f = o
            · have h16 : 16 ≤ f := by
                rcases Nat.lt_or_ge f 16 with h | h
                · have := Hlow.out f h; omega
                · exact h
              have ho' : (o != o) = false := by simp
              have Hk2 : Hid (okAt s o l k = !hasI (l.take k) f) := by
                show okAt s o l k = _
                rw [Hk.out, show isF (f : Int) = true by simp [isF]; omega]; simp [ho]
              rw [ho] at co
              clear ho Hk
              go_wp2_with fail
              go_quiet (fail)
              go_wp2_with fail
              obtain ⟨wo, hwo⟩ : ∃ wo : World, wo = wr := ⟨_, rfl⟩
              go_loopw [8] (fun i wx => ∃ q : Nat, q ≤ k ∧ i = .int .i64 q ∧ Hid (∀ j, j < q → l.getD j 0 ≠ (f : Int)) ∧ Fr (fun _ => False) wo wx) (fun i _ => k - (intOf i).toNat)
              case atStart => exact ⟨0, by omega, rfl, fun j hj => by omega, by rw [hwo]; (repeat (first | exact Fr.refl _ _ | with_reducible assumption | refine Fr.drewN ?_ _ | refine Fr.drew ?_ | refine Fr.alloc ?_ _ | (refine Fr.setCell (p := ⟨_, _, _⟩) ?_ ?_ _; rotate_left; first | exact .inl rfl | (right; simp; done) | (right; simp; omega))))⟩
              case round =>
                subst hwo
                obtain ⟨q, hq, rfl, hno, frx⟩ := hrel
                have hlx := hl0.fr frx (Nat.le_trans hB fr0.size) (fun _ _ e => e)
                have h1 := h0.fr frx (fun e => e)
                by_cases hlt2 : q < k
                · obtain ⟨b2, off2, e2, hb2, hcell2⟩ := hlx.at_ (show q < n by omega)
                  obtain ⟨b3, off3, e3, hb3, hcell3⟩ := hlx.at_ hlt
                  injection e2 with e2
                  injection e2 with e4 e5
                  subst e4 e5
                  injection e3 with e3
                  injection e3 with e4 e5
                  subst e4 e5
                  rw [hx] at hcell3
                  have hq0 : (0 : Int) ≤ (q : Int) := by omega
                  have hq1 : (q : Int) < (n : Int) := by omega
                  have hqk : (q : Int) < (k : Int) := by omega
                  by_cases hxx : l.getD q 0 = f
                  · have hin : hasI (l.take k) (f : Int) = true := by
                      simp only [hasI, List.any_eq_true, beq_iff_eq]
                      refine ⟨_, ?_, hxx⟩
                      have hl2 := hlen.out
                      have e5 : l.getD q 0 = (l.take k)[q]'(by simp; omega) := by
                        simp [show q < l.length by omega]
                      rw [e5]
                      exact List.getElem_mem _
                    have e1 := Hbad.out k hlt (by rw [Hk2.out, hin]; rfl)
                    have E1 := Lib.hid e1
                    have E2 := Lib.hid (Hbad2.out e1)
                    rw [hxx] at hcell2
                    clear hxx hin e1
                    go_wp2_with fail
                    go_quiet (fail)
                    go_wp2_with fail
                    go_ret
                    exact ⟨by rw [E1.out]; rfl, by rw [E2.out]; exact h1.drewN _, (Fg.out.tr (Fr.none frx)).drewN _⟩
                  · have hxx' : (l.getD q 0 == (f : Int)) = false := by simpa using hxx
                    have hno2 : Hid (∀ j, j < q + 1 → l.getD j 0 ≠ (f : Int)) := fun j hj => by
                      by_cases e : j = q
                      · rw [e]; exact hxx
                      · exact hno.out j (by omega)
                    clear hxx
                    generalize l.getD q 0 = y at *
                    go_wp2_with fail
                    go_quiet (fail)
                    go_wp2_with fail
                    exact ⟨⟨q + 1, by omega, by go_num, hno2, frx.drewN _⟩, by simp [intOf]; omega⟩
                · have hqk : decide ((q : Int) < (k : Int)) = false := by simp; omega
                  have hout : hasI (l.take k) (f : Int) = false := by
                    cases hh : hasI (l.take k) (f : Int)
                    · rfl
                    · exfalso
                      simp only [hasI, List.any_eq_true, beq_iff_eq] at hh
                      obtain ⟨y, hy, e⟩ := hh
                      obtain ⟨j, hj, rfl⟩ := List.getElem_of_mem hy
                      have hj2 : j < k := by simp at hj; omega
                      have hl2 := hlen.out
                      have := hno.out j (by omega)
                      rw [List.getElem_take] at e
                      exact this (by simpa [show j < l.length by omega] using e)
                  have hok2 : Hid (allOk s o l (k + 1) = true) := by
                    show allOk s o l (k + 1) = true
                    rw [allOk, hok.out, Hk2.out, hout]; rfl
                  have frz := fr0.tr frx
                  clear hout
                  go_wp2_with fail
                  go_roundw
                  case rel => exact ⟨k + 1, by omega, by go_num, hok2, frz⟩
                  case measure => simp [intOf]; omega
            · have ho' : (s.own f != o) = true := by simpa using ho
              have e1 := Hbad.out k hlt (by rw [Hk.out]; simp [ho])
              have E1 := Lib.hid e1
              have E2 := Lib.hid (Hbad2.out e1)
              clear ho e1 hx Hk
              generalize s.own f = y at *
              go_wp2_with fail
              go_quiet (fail)
              go_wp2_with fail
              go_ret
              exact ⟨by rw [E1.out]; rfl, by rw [E2.out]; exact h0.drewN _, Fg.out.drewN _⟩
          · have e1 := Hbad.out k hlt (by rw [Hk.out, show isF x = false by simp [isF]; omega]; rfl)
            have E1 := Lib.hid e1
            have E2 := Lib.hid (Hbad2.out e1)
            have hx0' : decide (x < 0) = false := by simp; omega
            have hx1' : 256 ≤ x := by omega
            clear e1 hx Hk hx1 hx0
            go_wp2_with fail
            go_quiet (fail)
            go_wp2_with fail
            go_ret
            exact ⟨by rw [E1.out]; rfl, by rw [E2.out]; exact h0.drewN _, Fg.out.drewN _⟩
        · have e1 := Hbad.out k hlt (by rw [Hk.out, show isF x = false by simp [isF]; omega]; rfl)
          have E1 := Lib.hid e1
          have E2 := Lib.hid (Hbad2.out e1)
          have hx0' : x < 0 := by omega
          clear e1 hx Hk hx0
          go_wp2_with fail
          go_quiet (fail)
          go_wp2_with fail
          go_ret
          exact ⟨by rw [E1.out]; rfl, by rw [E2.out]; exact h0.drewN _, Fg.out.drewN _⟩
      · have e : k = n := by omega
        subst e
        have e1 : giveR s o l = 0 := by simp [giveR, HB.out, hlen.out, hok.out]
        have E1 := Lib.hid e1
        have E2 := Lib.hid (show s.give o l = s.giveTo l k by rw [Pl.give, if_pos e1, hlen.out])
        have hall := Lib.hid (allOk_at hok.out)
        have hg0 : RPool wr g (s.giveTo l 0) := by rw [giveTo_zero]; exact h0
        have fgo := Fg.out
        clear e1 Hbad Hbad2 h0 Fg hl0 fr0
        go_wp2_with fail
        go_loopw [9] (fun i wr => ∃ j : Nat, j ≤ k ∧ i = .int .i64 j ∧ RPool wr g (s.giveTo l j) ∧ Fr (· = g) w wr) (fun i _ => k - (intOf i).toNat)
        case atStart => exact ⟨0, by omega, rfl, hg0, fgo⟩
        case round =>
          clear hg0 fgo
          obtain ⟨j, hj, rfl, hP, fr⟩ := hrel
          by_cases hlt2 : j < k
          · obtain ⟨b, off, rfl, hbb, hcell⟩ := (intsAt_frA hl fr hB (fun b off e => hA (by omega) b off e)).at_ hlt2
            have hoka := hall.out j hlt2
            simp only [okAt, isF, Bool.and_eq_true, decide_eq_true_eq] at hoka
            obtain ⟨⟨⟨hx0, hx1⟩, _⟩, _⟩ := hoka
            have hst := giveTo_succ s l j (by rw [hlen.out]; exact hlt2) (by omega)
            generalize l.getD j 0 = x at *
            obtain ⟨f, rfl⟩ : ∃ f : Nat, x = f := ⟨x.toNat, by omega⟩
            have c := hP.cOwn f (by omega)
            have z := Cells.frozen hP f
            have hp := hP.setOwn f (by omega) (-1)
            rw [show (f : Int).toNat = f from rfl] at hst
            rw [hst] at hp
            have fr2 := fr.setCell (p := ⟨g, f, none⟩) (.inl rfl) (.int .i64 (-1))
            have HP := Lib.hid hp
            have FR := Lib.hid fr2
            clear hst hp fr2
            go_upto_region 16 with (fail)
            go_still_tail 8, (by kernel_rfl)
            go_wp2_with fail
            go_roundw
            case rel => exact ⟨j + 1, by omega, by go_num, HP.out.drew, FR.out.drew⟩
            case measure => simp [intOf]; omega
          · have e : j = k := by omega
            subst e
            go_wp2_with fail
            go_ret
            exact ⟨by rw [E1.out]; rfl, by rw [E2.out]; exact hP, fr⟩
set_option maxRecDepth 100000 in
theorem rdrop_any (w : World) (g : Nat) (s : Pl) (o : Int) (h : RPool w g s) (hI : PInv s) : Calls Try.prog 64 #[.pointer (some ⟨g, 0, none⟩), .int .i64 o] w fun e w' => e = .returned (.int .i64 ((held s o).length : Int)) ∧ RPool w' g (s.dropO o) ∧ Fr (· = g) w w' := by
  have hf := fun w => rowner_any w o
  have Hf := Lib.hid hf
  clear hf
  cases hb : isO o
  · have e1 : held s o = [] := by simp [held, hb]
    have e2 : s.dropO o = s := by simp [Pl.dropO, hb]
    rw [e1, e2]
    rw [hb] at Hf
    clear hb e1 e2
    go_enter Try.func64, Try.ntmps64
    go_wp2_with fail
    refine (Hf.out _).mono ?_
    rintro e w' ⟨rfl, rfl⟩
    go_wp2_with fail
    go_ret
    exact ⟨rfl, h, Fr.refl _ _⟩
  · have hgv := give_held hI hb
    have e2 : s.dropO o = (s.giveTo (held s o) (held s o).length).setProm o.toNat (-1) := by simp [Pl.dropO, hb, Pl.give, hgv]
    have hall : allOk s o (held s o) (held s o).length = true := by
      have h0 : 0 ≤ o := by simp [isO] at hb; omega
      have e : held s o = heldN s o 256 := by rw [held, if_pos hb]
      rw [e]
      exact allOk_held h0 hI.low _ (Nat.le_refl _)
    obtain ⟨h0, h1⟩ : 0 ≤ o ∧ o < 4 := by simpa [isO] using hb
    obtain ⟨m, rfl⟩ : ∃ k : Nat, o = k := ⟨o.toNat, by omega⟩
    have hm : m < 4 := by omega
    rw [e2, show (m : Int).toNat = m from rfl]
    rw [hb] at Hf
    have hh := Lib.hid (rheld_any w g s m h hI.ok 0 (by omega))
    have hlt := h.lt
    have hle := held_len s m
    have hwf : ∀ z ∈ held s m, (Lit.int .i64 z).wf = true := by
      intro z hz
      rw [held, if_pos hb] at hz
      obtain ⟨f, rfl, hf, _⟩ := heldN_mem.1 hz
      exact wf_i64_mk (n := (f : Int)) (by omega) (by omega)
    have Hwf := Lib.hid hwf
    have Hall := Lib.hid (allOk_at hall)
    clear hb e2 hwf hall hgv
    generalize hL : held s m = L at *
    clear hL
    go_enter Try.func64, Try.ntmps64
    go_wp2_with fail
    refine (Hf.out _).mono ?_
    rintro e w' ⟨rfl, rfl⟩
    go_wp2_with fail
    refine (hh.out).mono ?_
    rintro e w2 ⟨v, rfl, ho2, f2, k2⟩
    obtain ⟨A2, c2, rfl⟩ := ownI_any ho2
    have hP2 := h.fr f2 (fun e => e)
    have hI2 := Bk.own_ints ho2 Hwf.out
    have hA2 : ∀ b off, A2 = some ⟨b, off, none⟩ → ¬ b = g := by
      intro b off e
      rcases ho2.2 with ⟨hv, _⟩ | ⟨g', cap, cur, hv, _⟩
      · injection hv with h1; rw [h1] at e; cases e
      · have := k2 g' (by rw [hv]; rfl)
        injection hv with h1
        rw [h1] at e
        injection e with e
        injection e with e1
        omega
    have h02 : RPool w2 g (s.giveTo L 0) := by rw [giveTo_zero]; exact hP2
    clear ho2 k2 hP2
    go_wp2_with fail
    go_loopw [6] (fun i wr => ∃ j : Nat, j ≤ L.length ∧ i = .int .i64 j ∧ RPool wr g (s.giveTo L j) ∧ Fr (· = g) w2 wr) (fun i _ => L.length - (intOf i).toNat)
    case atStart => exact ⟨0, by omega, rfl, h02, Fr.refl _ _⟩
    case round =>
      clear h02
      obtain ⟨j, hj, rfl, hP, fr⟩ := hrel
      by_cases hlt2 : j < L.length
      · obtain ⟨b, off, rfl, hbb, hcell⟩ := (intsAt_frA hI2 fr (Nat.le_refl _) hA2).at_ hlt2
        have hoka := Hall.out j hlt2
        simp only [okAt, isF, Bool.and_eq_true, decide_eq_true_eq] at hoka
        obtain ⟨⟨⟨hx0, hx1⟩, _⟩, _⟩ := hoka
        have hst := giveTo_succ s L j hlt2 (by omega)
        generalize L.getD j 0 = x at *
        obtain ⟨f, rfl⟩ : ∃ f : Nat, x = f := ⟨x.toNat, by omega⟩
        have c := hP.cOwn f (by omega)
        have z := Cells.frozen hP f
        have hp := hP.setOwn f (by omega) (-1)
        rw [show (f : Int).toNat = f from rfl] at hst
        rw [hst] at hp
        have fr2 := fr.setCell (p := ⟨g, f, none⟩) (.inl rfl) (.int .i64 (-1))
        have HP := Lib.hid hp
        have FR := Lib.hid fr2
        clear hst hp fr2
        go_upto_region 7 with (fail)
        go_still_tail 8, (by kernel_rfl)
        go_wp2_with fail
        go_roundw
        case rel => exact ⟨j + 1, by omega, by go_num, HP.out.drew, FR.out.drew⟩
        case measure => simp [intOf]; omega
      · have e : j = L.length := by omega
        rw [e] at hP
        have c := hP.cProm m hm
        have z := Cells.frozen hP (256 + m)
        have hp4 := Lib.hid (hP.setProm m hm (-1))
        have FR4 := Lib.hid (((Fr.none (S := (· = g)) f2).tr fr).setCell (p := ⟨g, 256 + m, none⟩) (.inl rfl) (.int .i64 (-1)))
        clear hP fr f2
        go_wp2_with fail
        go_ret
        exact ⟨by first | rfl | (rw [← e]; rfl) | (rw [e]; rfl), hp4.out, FR4.out⟩
end Go.Proofs.Ytbkapgbohnmkhaa.Fm
