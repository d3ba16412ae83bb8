/- The host's memory, VII: Give. -/
import Derived.Test.YtijhbhhcaicdfaaFramesF
namespace Go.Proofs.Ytijhbhhcaicdfaa.Fm
open Go.RowKit
set_option linter.unusedVariables false
set_option maxHeartbeats 4000000

theorem intsAt_frA {k : IntKind} {w w' : World} {B n : Nat} {A : Option Addr} {zs : List Int} {S : Nat → Prop} (h : IntsAt k w B A n zs) (f : Fr S w w') (hB : B ≤ w.heap.size) (hA : ∀ b off, A = some ⟨b, off, none⟩ → ¬ S b) : IntsAt k w' B A n zs :=
  ⟨h.1, h.2.1, fun hn => by
    obtain ⟨b, off, e, hb, hc⟩ := h.2.2 hn
    exact ⟨b, off, e, hb, fun i hi => (World.cell?_of_block (w := w) (a := ⟨b, off + i, none⟩) (f.block b (by omega) (hA b off e))).trans (hc i hi)⟩⟩

/-- may the i-th be given back? -/
def okAt (s : Pl) (o : Int) (l : List Int) (i : Nat) : Bool := isF (l.getD i 0) && (s.own (l.getD i 0).toNat == o) && !hasI (l.take i) (l.getD i 0)
def allOk (s : Pl) (o : Int) (l : List Int) : Nat → Bool
  | 0 => true
  | k + 1 => allOk s o l k && okAt s o l k
theorem allOk_at {s : Pl} {o : Int} {l : List Int} : ∀ {n : Nat}, allOk s o l n = true → ∀ k, k < n → okAt s o l k = true := by
  intro n
  induction n with
  | zero => intro _ k hk; omega
  | succ n ih =>
    intro h k hk
    simp [allOk] at h
    by_cases e : k = n
    · rw [e]; exact h.2
    · exact ih h.1 k (by omega)
def giveR (s : Pl) (o : Int) (l : List Int) : Int := if isO o = false then 1 else if allOk s o l l.length then 0 else 25
/-- those of l below k are nobody's -/
def Pl.giveTo (s : Pl) (l : List Int) (k : Nat) : Pl := { s with own := fun f => if hasI (l.take k) f then -1 else s.own f }
def Pl.give (s : Pl) (o : Int) (l : List Int) : Pl := if giveR s o l = 0 then s.giveTo l l.length else s
theorem hasI_append (a b : List Int) (x : Int) : hasI (a ++ b) x = (hasI a x || hasI b x) := by simp [hasI]
theorem giveTo_succ (s : Pl) (l : List Int) (k : Nat) (hk : k < l.length) (h0 : 0 ≤ l.getD k 0) : (s.giveTo l k).setOwn (l.getD k 0).toNat (-1) = s.giveTo l (k + 1) := by
  have e1 : l.take (k + 1) = l.take k ++ [l.getD k 0] := by
    rw [List.take_succ_eq_append_getElem hk]; simp [hk]
  unfold Pl.giveTo Pl.setOwn updI
  rw [e1]
  generalize l.getD k 0 = x at *
  congr 1
  funext f
  rw [hasI_append]
  have e2 : hasI [x] (f : Int) = decide (f = x.toNat) := by
    rw [Bool.eq_iff_iff]
    simp [hasI]
    omega
  rw [e2]
  by_cases e : f = x.toNat
  · simp [e]
  · rw [if_neg e, decide_eq_false e, Bool.or_false]
theorem giveTo_zero (s : Pl) (l : List Int) : s.giveTo l 0 = s := by simp [Pl.giveTo, hasI]
theorem give_ok {s : Pl} (h : s.Ok) (o : Int) (l : List Int) : (s.give o l).Ok := by
  unfold Pl.give
  split
  · refine ⟨fun f hf => ?_, h.prom⟩
    unfold Pl.giveTo
    dsimp only
    split
    · omega
    · exact h.own f hf
  · exact h

set_option maxRecDepth 100000 in
theorem give_any (w : World) (g : Nat) (s : Pl) (o : Int) (B n c : Nat) (A : Option Addr) (l : List Int) (h : Pool w g s) (hl : IntsAt .i64 w B A n l) (hB : B ≤ w.heap.size) (hA : 0 < n → ∀ b off, A = some ⟨b, off, none⟩ → ¬ b = g) (hm : n ≤ maxLen) (hc : n ≤ c) :
    Calls Try.prog 48 #[.pointer (some ⟨g, 0, none⟩), .int .i64 o, .slice A n c] w fun e w' => e = .returned (.int .i64 (giveR s o l)) ∧ Pool w' g (s.give o l) ∧ Fr (· = g) w w' := by
  have hm' := hm
  unfold maxLen at hm
  have hlen := Lib.hid hl.1
  have hf := fun w => is_any w o
  have Hf := Lib.hid hf
  clear hf
  cases hb : isO o
  · have e1 : giveR s o l = 1 := by simp [giveR, hb]
    have e2 : s.give o l = s := by simp [Pl.give, e1]
    rw [e1, e2]
    rw [hb] at Hf
    clear hb e1 e2
    go_enter Try.func48, Try.ntmps48
    go_wp2_with fail
    refine (Hf.out _).mono ?_
    rintro e w' ⟨rfl, rfl⟩
    go_wp2_with fail
    go_ret
    exact ⟨rfl, h, Fr.refl _ _⟩
  · rw [hb] at Hf
    have hbad : ∀ k, k < n → okAt s o l k = false → giveR s o l = 25 := by
      intro k hk hok
      have : allOk s o l l.length = false := by
        cases hh : allOk s o l l.length
        · rfl
        · have := allOk_at hh k (by rw [hlen.out]; exact hk)
          rw [hok] at this; cases this
      simp [giveR, hb, this]
    have hbad2 : giveR s o l = 25 → s.give o l = s := fun e => by simp [Pl.give, e]
    have Hbad := Lib.hid hbad
    have Hbad2 := Lib.hid hbad2
    have HB := Lib.hid hb
    clear hbad hbad2 hb
    go_enter Try.func48, Try.ntmps48
    go_wp2_with fail
    refine (Hf.out _).mono ?_
    rintro e w' ⟨rfl, rfl⟩
    go_wp2_with fail
    go_loop [7, 8, 16] (fun _ _ i => ∃ k : Nat, k ≤ n ∧ i = .int .i64 k ∧ Hid (allOk s o l k = true)) (fun _ _ i => n - (intOf i).toNat)
    case atStart => exact ⟨0, by omega, rfl, rfl⟩
    case round =>
      obtain ⟨k, hk, rfl, hok⟩ := hrel
      by_cases hlt : k < n
      · obtain ⟨b, off, rfl, hbb, hcell⟩ := hl.at_ hlt
        have Hk : Hid (okAt s o l k = (isF (l.getD k 0) && (s.own (l.getD k 0).toNat == o) && !hasI (l.take k) (l.getD k 0))) := rfl
        have hcon := contains_any w B k c (some ⟨b, off, none⟩) (l.take k) (l.getD k 0) (hl.take (by omega)) (by simp only [maxLen]; omega)
        have hfr := fun w => frame_any w (l.getD k 0)
        have Hcon := Lib.hid hcon
        have Hfr := Lib.hid hfr
        clear hcon hfr
        generalize l.getD k 0 = x at *
        cases hx : isF x
        · rw [hx] at Hfr Hk
          have e1 := Hbad.out k hlt (by rw [Hk.out]; rfl)
          have E1 := Lib.hid e1
          have E2 := Lib.hid (Hbad2.out e1)
          clear hx e1
          go_wp2_with fail
          refine (Hfr.out _).mono ?_
          rintro e w' ⟨rfl, rfl⟩
          go_wp2_with fail
          go_ret
          exact ⟨by rw [E1.out]; rfl, by rw [E2.out]; exact h, Fr.refl _ _⟩
        · obtain ⟨hx0, hx1⟩ : 16 ≤ x ∧ x < 256 := by simpa [isF] using hx
          obtain ⟨f, rfl⟩ : ∃ f : Nat, x = f := ⟨x.toNat, by omega⟩
          have co := h.cOwn f (by omega)
          rw [hx] at Hfr Hk
          by_cases ho : s.own f = o
          · have ho' : (s.own f != o) = false := by simp [ho]
            have Hk2 : Hid (okAt s o l k = !hasI (l.take k) f) := by
              show okAt s o l k = _
              rw [Hk.out]; simp [ho]
            clear ho Hk hx
            cases hq : hasI (l.take k) f
            · rw [hq] at Hcon Hk2
              have hok2 : Hid (allOk s o l (k + 1) = true) := by
                show allOk s o l (k + 1) = true
                rw [allOk, hok.out, Hk2.out]; rfl
              clear hq
              go_wp2_with fail
              refine (Hfr.out _).mono ?_
              rintro e w' ⟨rfl, rfl⟩
              go_wp2_with fail
              refine (Hcon.out).mono ?_
              rintro e w' ⟨rfl, rfl⟩
              go_wp2_with fail
              go_round
              case rel => exact ⟨k + 1, by omega, by go_num, hok2⟩
              case measure => simp [intOf]; omega
            · rw [hq] at Hcon Hk2
              have e1 := Hbad.out k hlt (by rw [Hk2.out]; rfl)
              have E1 := Lib.hid e1
              have E2 := Lib.hid (Hbad2.out e1)
              clear hq e1
              go_wp2_with fail
              refine (Hfr.out _).mono ?_
              rintro e w' ⟨rfl, rfl⟩
              go_wp2_with fail
              refine (Hcon.out).mono ?_
              rintro e w' ⟨rfl, rfl⟩
              go_wp2_with fail
              go_ret
              exact ⟨by rw [E1.out]; rfl, by rw [E2.out]; exact h, Fr.refl _ _⟩
          · have ho' : (s.own f != o) = true := by simpa using ho
            have e1 := Hbad.out k hlt (by rw [Hk.out]; simp [ho])
            have E1 := Lib.hid e1
            have E2 := Lib.hid (Hbad2.out e1)
            clear ho e1 hx
            go_wp2_with fail
            refine (Hfr.out _).mono ?_
            rintro e w' ⟨rfl, rfl⟩
            go_wp2_with fail
            go_ret
            exact ⟨by rw [E1.out]; rfl, by rw [E2.out]; exact h, Fr.refl _ _⟩
      · have e : k = n := by omega
        subst e
        have e1 : giveR s o l = 0 := by simp [giveR, HB.out, hlen.out, hok.out]
        have E1 := Lib.hid e1
        have E2 := Lib.hid (show s.give o l = s.giveTo l k by rw [Pl.give, if_pos e1, hlen.out])
        have hall := Lib.hid (allOk_at hok.out)
        have h0 : Pool w g (s.giveTo l 0) := by rw [giveTo_zero]; exact h
        clear e1 Hbad Hbad2
        go_wp2_with fail
        go_loopw [10, 44] (fun _ i wr => ∃ j : Nat, j ≤ k ∧ i = .int .i64 j ∧ Pool wr g (s.giveTo l j) ∧ Fr (· = g) w wr) (fun _ i _ => k - (intOf i).toNat)
        case atStart => exact ⟨0, by omega, rfl, h0, Fr.refl _ _⟩
        case round =>
          clear h0
          obtain ⟨j, hj, rfl, hP, fr⟩ := hrel
          by_cases hlt2 : j < k
          · obtain ⟨b, off, rfl, hbb, hcell⟩ := (intsAt_frA hl fr hB (fun b off e => hA (by omega) b off e)).at_ hlt2
            have hoka := hall.out j hlt2
            simp only [okAt, isF, Bool.and_eq_true, decide_eq_true_eq] at hoka
            obtain ⟨⟨⟨hx0, hx1⟩, _⟩, _⟩ := hoka
            have hst := giveTo_succ s l j (by rw [hlen.out]; exact hlt2) (by omega)
            generalize l.getD j 0 = x at *
            obtain ⟨f, rfl⟩ : ∃ f : Nat, x = f := ⟨x.toNat, by omega⟩
            have c := hP.cOwn f (by omega)
            have z := Cells.frozen hP (16384 + f)
            have hp := hP.setOwn f (by omega) (-1)
            rw [show (f : Int).toNat = f from rfl] at hst
            rw [hst] at hp
            have fr2 := fr.setCell (p := ⟨g, 16384 + f, none⟩) (.inl rfl) (.int .i64 (-1))
            have HP := Lib.hid hp
            have FR := Lib.hid fr2
            clear hst hp fr2
            go_wp2_with fail
            go_roundw
            case rel => exact ⟨j + 1, by omega, by go_num, HP.out, FR.out⟩
            case measure => simp [intOf]; omega
          · have e : j = k := by omega
            subst e
            go_wp2_with fail
            go_ret
            exact ⟨by rw [E1.out]; rfl, by rw [E2.out]; exact hP, fr⟩
end Go.Proofs.Ytijhbhhcaicdfaa.Fm
