/- NestedGuards: the walk. -/
import Derived.Test.YtcfoogbjlokegaaNestedOpen
import Derived.Test.YtcfoogbjlokegaaBook
namespace Go.Proofs.Ytcfoogbjlokegaa.nestedGuards
open Go.RowKit Fm Nt
set_option linter.unusedVariables false
set_option maxHeartbeats 4000000

/-- what holds between two calls: bounds; only a mapped page is guarded -/
def Gd (s : Pl) (t : Ts) : Prop := s.Ok ∧ t.Ok ∧ ∀ k, k < t.n → t.gd k = true → ¬ t.fr k = -1
def St (w0 w : World) (a : Ad) : Prop := ∃ s t, Pool w a.gp s ∧ Tab w a t ∧ t.n = 12 ∧ Gd s t
theorem gd_le {s : Pl} {t : Ts} (h : Gd s t) (p : Int) : (gdB t p && frB t p) = gdB t p := by
  unfold gdB frB
  cases hp : inP t p
  · rfl
  · obtain ⟨k, rfl, hk⟩ := inP_at hp
    cases hg : t.gd k
    · simp [hg]
    · have := h.2.2 k hk hg
      simp [hg, this]
theorem takeE_zero {s : Pl} {o : Int} (h : takeE s o = 0) : ∃ f, takeF s o = some f ∧ takeV s o = (f : Int) ∧ 16 ≤ f ∧ f < 256 := by
  unfold takeE at h
  split at h
  · omega
  · split at h
    · rename_i hs
      obtain ⟨f, hf⟩ := Option.isSome_iff_exists.1 hs
      refine ⟨f, hf, by simp [takeV, hf], ?_⟩
      unfold takeF at hf
      split at hf
      · have := takeN_spec hf; omega
      · cases hf
    · omega
theorem Gd.map {s : Pl} {t : Ts} (h : Gd s t) (p : Int) : Gd (mapS s t p) (t.map s p) ∧ (t.map s p).n = t.n ∧ gdB (t.map s p) p = gdB t p := by
  obtain ⟨h1, h2, h3⟩ := h
  have hs : (mapS s t p).Ok := by
    unfold mapS
    split
    · exact take_ok h1 _
    · exact h1
  unfold Ts.map
  split
  · rename_i hc
    simp only [Bool.and_eq_true, beq_iff_eq] at hc
    obtain ⟨f, _, hv, hf0, hf1⟩ := takeE_zero hc.2
    refine ⟨⟨hs, fun k hk => ?_, fun k hk hg => ?_⟩, rfl, rfl⟩
    · unfold Ts.setFr updI
      dsimp only
      split
      · omega
      · exact h2 k hk
    · unfold Ts.setFr updI
      dsimp only
      split
      · omega
      · exact h3 k hk hg
  · exact ⟨⟨hs, h2, h3⟩, rfl, rfl⟩
theorem Gd.unmap {s : Pl} {t : Ts} (h : Gd s t) (p : Int) : Gd (unmapS s t p) (t.unmap p) ∧ (t.unmap p).n = t.n ∧ gdB (t.unmap p) p = false := by
  have hl := gd_le h p
  obtain ⟨h1, h2, h3⟩ := h
  have hs : (unmapS s t p).Ok := by
    unfold unmapS
    split
    · exact give_ok h1 _ _
    · exact h1
  unfold Ts.unmap
  split
  · refine ⟨⟨hs, fun k hk => ?_, fun k hk hg => ?_⟩, rfl, ?_⟩
    · unfold Ts.setGd Ts.setFr updI
      dsimp only
      split
      · omega
      · exact h2 k hk
    · unfold Ts.setGd Ts.setFr updI updB at *
      dsimp only at *
      split
      · rename_i e; rw [if_pos e] at hg; cases hg
      · rename_i e; rw [if_neg e] at hg; exact h3 k hk hg
    · unfold gdB Ts.setGd updB
      simp
  · rename_i hq
    have hq : frB t p = false := by simpa using hq
    rw [hq, Bool.and_false] at hl
    exact ⟨⟨hs, h2, h3⟩, rfl, hl.symm⟩
theorem Gd.guard {s : Pl} {t : Ts} (h : Gd s t) (p : Int) (b : Bool) : Gd s (t.guard p b) ∧ (t.guard p b).n = t.n ∧ gdB (t.guard p b) p = (b && frB t p) := by
  have hl := gd_le h p
  obtain ⟨h1, h2, h3⟩ := h
  unfold Ts.guard
  split
  · rename_i hq
    have hin : inP t p = true := by simp [frB] at hq; exact hq.1
    refine ⟨⟨h1, h2, fun k hk hg => ?_⟩, rfl, ?_⟩
    · unfold Ts.setGd updB at *
      dsimp only at *
      by_cases e : k = p.toNat
      · subst e
        simp [frB] at hq
        exact hq.2
      · rw [if_neg e] at hg; exact h3 k hk hg
    · have e : inP (t.setGd p.toNat b) p = true := hin
      unfold gdB
      rw [e, hq]
      simp [Ts.setGd, updB]
  · rename_i hq
    have hq : frB t p = false := by simpa using hq
    rw [hq, Bool.and_false] at hl
    exact ⟨⟨h1, h2, h3⟩, rfl, by rw [hq, Bool.and_false]; exact hl.symm⟩

set_option maxRecDepth 100000 in
theorem walk (w : World) (A : Option Addr) (len cap : Nat) (hl : AsksAt w w.heap.size A len ∧ len ≤ maxLen) :
    Calls Try.prog 4 #[.slice A len cap] w fun e w' => e = .returned (.bool true) ∧ Fr (fun _ => False) w w' := by
  obtain ⟨hl, hm⟩ := hl
  unfold maxLen at hm
  have hfr := Lib.hid (fresh_any w 1 12 (by omega) (by omega) (by omega) (by omega))
  go_enter Try.func4, Try.ntmps4
  go_wp2_with fail
  refine (hfr.out).mono ?_
  rintro e w1 ⟨a, rfl, hT, hP, hbl, f1⟩
  have hG : Gd (Pl.new.promise 1 12) (Ts.new 12 1) := ⟨promise_ok new_ok 1 12, fun k hk => by simp [Ts.new], fun k hk hg => by simp [Ts.new] at hg⟩
  have hne := hT.pool hP
  have hS : ∃ s t, Pool w1 a.gp s ∧ Tab w1 a t ∧ t.n = 12 ∧ Gd s t := ⟨_, _, hP, hT, rfl, hG⟩
  have Hbl := Lib.hid hbl
  have Hne := Lib.hid hne
  clear hT hP hG hbl hne hfr
  go_wp2_with fail
  go_loopw [5] (fun i wr => ∃ k : Nat, k ≤ len ∧ i = .int .i64 k ∧ (∃ s t, Pool wr a.gp s ∧ Tab wr a t ∧ t.n = 12 ∧ Gd s t) ∧ Fr (fun _ => False) w wr) (fun i _ => len - (intOf i).toNat)
  case atStart => exact ⟨0, Nat.zero_le _, rfl, hS, f1⟩
  case round =>
    clear hS f1
    obtain ⟨k, hk, rfl, ⟨s, t, hP, hT, hn, hG⟩, fr⟩ := hrel
    by_cases hlt : k < len ∧ k < 60
    · obtain ⟨h1, h2⟩ := hlt
      obtain ⟨b, off, rfl, hb, kd, pg, ha⟩ := hl.at_ h1
      obtain ⟨c0, c1, hp0, hp1⟩ := ha.fr fr hb (Nat.le_refl _) (fun _ _ e => e)
      have hbw : b < wr.heap.size := Nat.lt_of_lt_of_le hb fr.size
      have hw := Lib.hid (Bk.within_any wr pg 0 11 hp0 hp1 (by omega) (by omega) (by omega))
      have Hn := Lib.hid hn
      clear hn
      generalize (0 : Int) + pg % (11 - 0 + 1) = q at *
      have hf := Lib.hid (frame_any wr a t q hT)
      go_wp2_with fail
      refine (hw.out).mono ?_
      rintro e w' ⟨rfl, rfl⟩
      go_wp2_with fail
      refine (hf.out).mono ?_
      rintro e w' ⟨rfl, rfl⟩
      have hle := gd_le hG q
      have hgd := fun W (h : Tab W a t) => guarded_any W a t q h
      have Hgd := Lib.hid hgd
      clear hgd
      have g1 := Hbl.out a.gp (.inr rfl)
      have g2 := fun k hk => Hbl.out k (.inl hk)
      have G2 := Lib.hid g2
      clear g2
      by_cases hk1 : kd = 1
      · subst hk1
        obtain ⟨hG', hn', hgq⟩ := hG.map q
        have hmap := Lib.hid (map_any wr a s t q hP hT hG.1)
        have Hgq := Lib.hid hgq
        have Hn2 := Lib.hid (hn'.trans Hn.out)
        clear hgq hn'
        have hcase : (gdB t q = false) ∨ (gdB t q = true ∧ frB t q = true) := by
          cases hx : gdB t q
          · exact .inl rfl
          · rw [hx] at hle; exact .inr ⟨rfl, by simpa using hle⟩
        clear hle
        generalize hgb : gdB t q = gb at *
        generalize hfb : frB t q = fb at *
        clear hgb hfb
        rcases hcase with rfl | ⟨rfl, rfl⟩
        all_goals
          go_wp2_with fail
          refine (Hgd.out _ hT).mono ?_
          rintro e w' ⟨rfl, rfl⟩
          go_wp2_with fail
          refine (hmap.out).mono ?_
          rintro e w2 ⟨rfl, hP2, hT2, f2⟩
          have fr2 := fr.trans (S := fun _ => False) f2 (fun i hi e => by
            rcases e with e | e
            · omega
            · have := G2.out a.gf (.inr (.inl rfl)); omega)
          have hg2 := Lib.hid (guarded_any w2 a _ q hT2)
          go_wp2_with fail
          refine (hg2.out).mono ?_
          rw [Hgq.out]
          rintro e w' ⟨rfl, rfl⟩
          go_wp2_with fail
          go_roundw
          case rel => exact ⟨k + 1, by omega, by go_num, ⟨_, _, hP2, hT2, Hn2.out, hG'⟩, fr2⟩
          case measure => simp [intOf]; omega
      · have e1 : (kd == 1) = false := by simpa using hk1
        clear hle
        by_cases hk2 : kd = 2
        · subst hk2
          obtain ⟨hG', hn', hgq⟩ := hG.unmap q
          have hun := Lib.hid (unmap_any wr a s t q hP hT hG.2.1)
          have Hgq := Lib.hid hgq
          have Hn2 := Lib.hid (hn'.trans Hn.out)
          clear hgq hn'
          go_wp2_with fail
          refine (hun.out).mono ?_
          rintro e w2 ⟨rfl, hP2, hT2, f2⟩
          have fr2 := fr.trans (S := fun _ => False) f2 (fun i hi e => by
              rcases e with e | e
              · omega
              · have := G2.out i e; omega)
          have hg2 := Lib.hid (guarded_any w2 a _ q hT2)
          go_wp2_with fail
          refine (hg2.out).mono ?_
          rw [Hgq.out]
          rintro e w' ⟨rfl, rfl⟩
          go_wp2_with fail
          go_roundw
          case rel => exact ⟨k + 1, by omega, by go_num, ⟨_, _, hP2, hT2, Hn2.out, hG'⟩, fr2⟩
          case measure => simp [intOf]; omega
        · have e2 : (kd == 2) = false := by simpa using hk2
          by_cases hk3 : kd = 3
          · subst hk3
            obtain ⟨hG', hn', hgq⟩ := hG.guard q true
            have hgu := Lib.hid (Guard_any wr a t q hT)
            rw [Bool.true_and] at hgq
            have Hgq := Lib.hid hgq
            have Hn2 := Lib.hid (hn'.trans Hn.out)
            clear hgq hn'
            go_wp2_with fail
            refine (hgu.out).mono ?_
            rintro e w2 ⟨rfl, hT2, f2⟩
            have fr2 := fr.trans (S := fun _ => False) f2 (fun i hi e => by have := G2.out a.gg (.inr (.inr rfl)); omega)
            have hg2 := Lib.hid (guarded_any w2 a _ q hT2)
            go_wp2_with fail
            refine (hg2.out).mono ?_
            rw [Hgq.out]
            rintro e w' ⟨rfl, rfl⟩
            go_wp2_with fail
            go_roundw
            case rel => exact ⟨k + 1, by omega, by go_num, ⟨_, _, (hP.fr f2 (fun e => Hne.out a.gg (.inr (.inr rfl)) e.symm)), hT2, Hn2.out, hG'⟩, fr2⟩
            case measure => simp [intOf]; omega
          · have e3 : (kd == 3) = false := by simpa using hk3
            obtain ⟨hG', hn', hgq⟩ := hG.guard q false
            have hgu := Lib.hid (Unguard_any wr a t q hT)
            rw [Bool.false_and] at hgq
            have Hgq := Lib.hid hgq
            have Hn2 := Lib.hid (hn'.trans Hn.out)
            clear hgq hn'
            go_wp2_with fail
            refine (hgu.out).mono ?_
            rintro e w2 ⟨rfl, hT2, f2⟩
            have fr2 := fr.trans (S := fun _ => False) f2 (fun i hi e => by have := G2.out a.gg (.inr (.inr rfl)); omega)
            have hg2 := Lib.hid (guarded_any w2 a _ q hT2)
            go_wp2_with fail
            refine (hg2.out).mono ?_
            rw [Hgq.out]
            rintro e w' ⟨rfl, rfl⟩
            go_wp2_with fail
            go_roundw
            case rel => exact ⟨k + 1, by omega, by go_num, ⟨_, _, (hP.fr f2 (fun e => Hne.out a.gg (.inr (.inr rfl)) e.symm)), hT2, Hn2.out, hG'⟩, fr2⟩
            case measure => simp [intOf]; omega
    · go_wp2_with fail
      all_goals
        refine (known_any _).mono ?_
        rintro e w6 ⟨rfl, f6⟩
        go_wp2_with fail
        go_ret
        exact ⟨rfl, fr.tr f6⟩
end Go.Proofs.Ytcfoogbjlokegaa.nestedGuards
