/- The program's pool and the document's, through one call (innkeeperlaw5.do). -/
import Derived.Test.YtbkapgbohnmkhaaFramesRefB
import Derived.Test.YtbkapgbohnmkhaaFramesOpen
import Derived.Deep.RegionHeld3
namespace Go.Proofs.Ytbkapgbohnmkhaa.Fm
open Go.RowKit
set_option linter.unusedVariables false
set_option maxHeartbeats 8000000

/-- both pools, with one state -/
structure PP (w : World) (gp gw : Nat) (s : Pl) : Prop where
  p : Pool w gp s
  r : RPool w gw s
  i : PInv s
theorem PP.ne {w : World} {gp gw : Nat} {s : Pl} (h : PP w gp gw s) : gp ≠ gw := Cells.ne h.p h.r (by decide)
theorem PP.fr0 {w w' : World} {gp gw : Nat} {s : Pl} (h : PP w gp gw s) (f : Fr (fun _ => False) w w') : PP w' gp gw s := ⟨h.p.fr f (fun e => e), h.r.fr f (fun e => e), h.i⟩
theorem ask5_c {w : World} {g : Nat} {t : TypeId} {a b c d e : Value} (h : Blk w g t #[a, b, c, d, e]) : w.cell? ⟨g, 0, none⟩ = some a ∧ w.cell? ⟨g, 1, none⟩ = some b ∧ w.cell? ⟨g, 2, none⟩ = some c ∧ w.cell? ⟨g, 3, none⟩ = some d ∧ w.cell? ⟨g, 4, none⟩ = some e :=
  ⟨h.cell 0, h.cell 1, h.cell 2, h.cell 3, h.cell 4⟩
theorem take_zero {s : Pl} (hI : PInv s) {o : Int} (h : takeE s o = 0) : ∃ f : Nat, takeV s o = f ∧ 16 ≤ f ∧ f < 256 ∧ 0 ≤ (s.take o).own f ∧ ∀ k, k < 64 → (s.take o).byt (f * 64 + k) = 0 := by
  cases hb : isO o
  · rw [takeE, if_pos hb] at h; omega
  · obtain ⟨h2, h3⟩ : 0 ≤ o ∧ o < 4 := by simpa [isO] using hb
    obtain ⟨m, rfl⟩ : ∃ k : Nat, o = k := ⟨o.toNat, by omega⟩
    rcases Int.lt_or_le (hN s m 256 : Int) (s.prom m) with hr | hr
    · obtain ⟨f, _, _, f1, f2, _, e1, e2, e3⟩ := hI.takes (show m < 4 by omega) hr
      refine ⟨f, e2, f1, f2, ?_, fun k hk => ?_⟩
      · rw [e3]
        show 0 ≤ updI s.own f (m : Int) f
        rw [updI_same]; omega
      · rw [e3]
        show (if f * 64 ≤ f * 64 + k ∧ f * 64 + k < f * 64 + 64 then 0 else _) = (0 : Int)
        rw [if_pos (by omega)]
    · rw [(take_not (show m < 4 by omega) hr).1] at h; omega
theorem intsAt_frP {k : IntKind} {w w' : World} {B n : Nat} {A : Option Addr} {zs : List Int} {S : Nat → Prop} (h : IntsAt k w B A n zs) (f : Fr S w w') (hB : B ≤ w.heap.size) (hA : 0 < n → ∀ b off, A = some ⟨b, off, none⟩ → ¬ S b) : IntsAt k w' B A n zs :=
  ⟨h.1, h.2.1, fun hn => by
    obtain ⟨b, off, e, hb, hc⟩ := h.2.2 hn
    exact ⟨b, off, e, hb, fun i hi => (World.cell?_of_block (w := w) (a := ⟨b, off + i, none⟩) (f.block b (by omega) (hA hn b off e))).trans (hc i hi)⟩⟩
def DoP (w : World) (gp gw : Nat) (e : Ending) (w' : World) : Prop := e = .returned (.bool true) ∧ (∃ s', PP w' gp gw s') ∧ Fr (fun k => k = gp ∨ k = gw) w w'
theorem here_eq {s : Pl} (hI : PInv s) {f a : Nat} (hf : f < 256) (ha : a < 64) : hereB s f a = decide (0 ≤ s.own f) := by
  have h1 := hI.ok.own f hf
  rw [Bool.eq_iff_iff]
  simp only [hereB, ownB, isF, Bool.and_eq_true, decide_eq_true_eq, bne_iff_ne, ne_eq, Int.toNat_natCast]
  constructor
  · rintro ⟨⟨_, h⟩, _⟩; omega
  · intro h
    refine ⟨⟨⟨?_, by omega⟩, by omega⟩, by omega, by omega⟩
    rcases Nat.lt_or_ge f 16 with h2 | h2
    · have := hI.low f h2; omega
    · omega
set_option maxRecDepth 100000 in
theorem do5_any (w : World) (gp gw : Nat) (s : Pl) (h : PP w gp gw s) (kd ow n by_ : Int) (o0 : -9223372036854775808 ≤ ow) (o1 : ow ≤ 9223372036854775807) (n0 : -9223372036854775808 ≤ n) (n1 : n ≤ 9223372036854775807)
    (A : Option Addr) (len cap B : Nat) (zs : List Int) (hz : IntsAt .i64 w B A len zs) (hB : B ≤ w.heap.size) (hA : 0 < len → ∀ b off, A = some ⟨b, off, none⟩ → b ≠ gp ∧ b ≠ gw) (hm : len ≤ maxLen) (hc : len ≤ cap) :
    Calls Try.prog 39 #[.pointer (some ⟨gp, 0, none⟩), .pointer (some ⟨gw, 0, none⟩), .agg #[.int .i64 kd, .int .i64 ow, .int .i64 n, .slice A len cap, .int .u8 by_]] w (DoP w gp gw) := by
  have hx : Blk (w.alloc (.cells #[.int .i64 kd, .int .i64 ow, .int .i64 n, .slice A len cap, .int .u8 by_] 76)) w.heap.size 76 #[.int .i64 kd, .int .i64 ow, .int .i64 n, .slice A len cap, .int .u8 by_] := Blk.new _ _ _
  have f1 := (Fr.refl (fun _ => False) w).alloc (.cells #[.int .i64 kd, .int .i64 ow, .int .i64 n, .slice A len cap, .int .u8 by_] 76)
  have h1 := h.fr0 f1
  have hz1 := hz.fr f1 hB (fun _ _ e => e)
  have hB1 := Nat.le_trans hB f1.size
  have gp_ : w.heap.size ≠ gp := fun e => by have := h.p.lt; omega
  have gw_ : w.heap.size ≠ gw := fun e => by have := h.r.lt; omega
  have hbw : B ≤ w.heap.size := hB
  go_enter Try.func39, Try.ntmps39
  go_upto_region 1 with (fail)
  generalize w.alloc (.cells #[.int .i64 kd, .int .i64 ow, .int .i64 n, .slice A len cap, .int .u8 by_] 76) = w1 at *
  generalize hg : w.heap.size = g at *
  obtain ⟨c0, c1, c2, c3, c4⟩ := ask5_c hx
  have HH := Lib.hid h1
  have HX := Lib.hid hx
  have F1 : Hid (Fr (fun k => k = gp ∨ k = gw) w w1) := Lib.hid (Fr.none f1)
  have Hne := Lib.hid h.ne
  have s1 : w1.drew.cell? ⟨g, 1, none⟩ = some (.int .i64 ow) := c1
  have s2 : w1.drew.cell? ⟨g, 2, none⟩ = some (.int .i64 n) := c2
  have s4 : w1.drew.cell? ⟨g, 4, none⟩ = some (.int .u8 by_) := c4
  clear hx f1 h1 h hz hg
  by_cases hk1 : kd = 1
  · subst hk1
    as_aux_lemma =>
      have Hp := Lib.hid (promise_any w1.drew gp s ow n HH.out.p.drew HH.out.i.ok n0 n1)
      have Hq := Lib.hid (fun W (hR : RPool W gw s) => rpromised_any W gw s ow n hR HH.out.i.ok n0 n1)
      have HI := Lib.hid (HH.out.i.promise ow n)
      generalize promR s ow n = rr at *
      generalize s.promise ow n = s2' at *
      go_upto_region 3 with (fail)
      go_region_held3 (fun W => W.cell? ⟨g, 1, none⟩ = some (.int .i64 ow) ∧ W.cell? ⟨g, 2, none⟩ = some (.int .i64 n)) (first | exact ⟨s1, s2⟩ | exact ⟨d1, d2⟩ | exact ⟨e1, e2⟩)
        (first
        | (go_at_call 14; refine (Hp.out).mono ?_; rintro e w2 ⟨rfl, hP2, f2⟩; have x2 := HX.out.drew.fr f2 gp_; obtain ⟨d0, d1, d2, d3, d4⟩ := ask5_c x2; have hR2 := HH.out.r.drew.fr f2 (fun e => Hne.out e.symm))
        | (go_at_call 61; refine (Hq.out _ hR2).mono ?_; rintro e w3 ⟨rfl, hR3, f3⟩; have x3 := x2.fr f3 gw_; obtain ⟨e0, e1, e2, e3, e4⟩ := ask5_c x3))
      all_goals
        have hP3 := hP2.fr f3 Hne.out
        have fr3 := (F1.out.drew.trans f2 (fun i hi e => .inl e)).trans f3 (fun i hi e => .inr e)
        go_wp2_with fail
        go_ret
        exact ⟨rfl, ⟨_, hP3, hR3, HI.out⟩, fr3⟩
  have q1 : (kd == 1) = false := by simpa using hk1
  by_cases hk2 : kd = 2
  · subst hk2
    as_aux_lemma =>
      have Ht := Lib.hid (take_any w1 gp s ow HH.out.p HH.out.i.ok)
      have Hu := Lib.hid (fun W (hR : RPool W gw s) => rtake_any W gw s ow hR HH.out.i.ok)
      have HI := Lib.hid (HH.out.i.take ow)
      by_cases hE : takeE s ow = 0
      · obtain ⟨f, tV, f16, f256, town, tz⟩ := take_zero HH.out.i hE
        rw [hE, tV] at Ht Hu
        have Hto := Lib.hid town
        have Htz := Lib.hid tz
        clear hE tV town tz hk1 q1
        generalize s.take ow = s2' at *
        go_wp2_with fail
        refine (Ht.out).mono ?_
        rintro e w2 ⟨rfl, hP2, f2⟩
        have x2 := HX.out.fr f2 gp_
        obtain ⟨d0, d1, d2, d3, d4⟩ := ask5_c x2
        have hR2 := HH.out.r.fr f2 (fun e => Hne.out e.symm)
        go_wp2_with fail
        refine (Hu.out _ hR2).mono ?_
        rintro e w3 ⟨rfl, hR3, f3⟩
        have hP3 := hP2.fr f3 Hne.out
        have fr3 := (F1.out.trans f2 (fun i hi e => .inl e)).trans f3 (fun i hi e => .inr e)
        have hne0 : ((f : Int) != (f : Int)) = false := by simp
        clear hP2 hR2 f2 f3
        go_wp2_with fail
        go_loop [11] (fun i => ∃ j : Nat, j ≤ 64 ∧ i = .int .i64 j) (fun i => 64 - (intOf i).toNat)
        case atStart => exact ⟨0, by omega, rfl⟩
        case round =>
          obtain ⟨j, hj, rfl⟩ := hrel
          by_cases hlt : j < 64
          · have hhe : hereB s2' f j = true := by rw [here_eq HI.out f256 hlt]; simpa using Hto.out
            have hby := byte_any _ gp s2' f j hP3
            have hbv : bytV s2' f j = 0 := by rw [bytV, if_pos hhe]; exact Htz.out j hlt
            rw [hbv, hhe] at hby
            have Hby := Lib.hid hby
            clear hby hhe hbv
            go_wp2_with fail
            refine (Hby.out).mono ?_
            rintro e w' ⟨rfl, rfl⟩
            go_wp2_with fail
            go_round
            case rel => exact ⟨j + 1, by omega, by go_num⟩
            case measure => simp [intOf]; omega
          · have e64 : j = 64 := by omega
            subst e64
            go_wp2_with fail
            go_ret
            exact ⟨rfl, ⟨_, hP3, hR3, HI.out⟩, fr3⟩
      · have hE' : (takeE s ow == 0) = false := by simpa using hE
        have hne0 : (takeV s ow != takeV s ow) = false := by simp
        have hne1 : (takeE s ow != takeE s ow) = false := by simp
        clear hE hk1 q1
        generalize takeE s ow = te at *
        generalize takeV s ow = tv at *
        generalize s.take ow = s2' at *
        go_wp2_with fail
        refine (Ht.out).mono ?_
        rintro e w2 ⟨rfl, hP2, f2⟩
        have x2 := HX.out.fr f2 gp_
        obtain ⟨d0, d1, d2, d3, d4⟩ := ask5_c x2
        have hR2 := HH.out.r.fr f2 (fun e => Hne.out e.symm)
        go_wp2_with fail
        refine (Hu.out _ hR2).mono ?_
        rintro e w3 ⟨rfl, hR3, f3⟩
        have hP3 := hP2.fr f3 Hne.out
        have fr3 := (F1.out.trans f2 (fun i hi e => .inl e)).trans f3 (fun i hi e => .inr e)
        go_wp2_with fail
        go_ret
        exact ⟨rfl, ⟨_, hP3, hR3, HI.out⟩, fr3⟩
  have q2 : (kd == 2) = false := by simpa using hk2
  by_cases hk3 : kd = 3
  · subst hk3
    as_aux_lemma =>
      obtain ⟨ll, cc, l, hll, hzl, hcl, hml, hpos⟩ : ∃ (ll cc : Nat) (l : List Int), ((len ≤ 20 ∧ ll = len ∧ cc = cap) ∨ (20 < len ∧ ll = 20 ∧ cc = cap)) ∧ IntsAt .i64 w1 B A ll l ∧ ll ≤ cc ∧ ll ≤ maxLen ∧ (0 < ll → 0 < len) := by
        by_cases h20 : len ≤ 20
        · exact ⟨len, cap, zs, .inl ⟨h20, rfl, rfl⟩, hz1, hc, hm, fun h => h⟩
        · exact ⟨20, cap, zs.take 20, .inr ⟨by omega, rfl, rfl⟩, hz1.take (by omega), by omega, by unfold maxLen at *; omega, fun h => by omega⟩
      have hA1 : 0 < ll → ∀ b off, A = some ⟨b, off, none⟩ → b ≠ gp ∧ b ≠ gw := fun h => hA (hpos h)
      have Hg := Lib.hid (give_any w1.drew gp s ow B ll cc A l HH.out.p.drew hzl hB1 (fun h b off e => (hA1 h b off e).1) hml hcl)
      have Hu := Lib.hid (fun W (hR : RPool W gw s) (hz : IntsAt .i64 W B A ll l) (hb : B ≤ W.heap.size) => rgive_any W gw s ow B ll cc A l hR HH.out.i.low hz hb (fun h b off e => (hA1 h b off e).2) hml hcl)
      have HI := Lib.hid (HH.out.i.give ow l)
      have HzA : Hid (∀ b off, 0 < ll → A = some ⟨b, off, none⟩ → b ≠ gp ∧ b ≠ gw) := Lib.hid (fun b off h e => hA1 h b off e)
      have Hzl := Lib.hid hzl
      generalize giveR s ow l = rr at *
      generalize s.give ow l = s2' at *
      unfold maxLen at hm
      clear hA hA1 hz1 hzl hk1 q1 hk2 q2 hml hpos
      have h20c : 20 < len → (20 : Int) ≤ (cap : Int) := by omega
      rcases hll with ⟨h20, rfl, rfl⟩ | ⟨h20, rfl, rfl⟩
      all_goals
        try (have h20d := h20c h20)
        clear h20c
        go_upto_region 20 with (fail)
        go_region_held3 (fun W => W.cell? ⟨g, 1, none⟩ = some (.int .i64 ow)) (first | exact s1 | exact d1 | exact e1)
          (first
          | (go_at_call 17; refine (Hg.out).mono ?_; rintro e w2 ⟨rfl, hP2, f2⟩; have x2 := HX.out.drew.fr f2 gp_; obtain ⟨d0, d1, d2, d3, d4⟩ := ask5_c x2; have hR2 := HH.out.r.drew.fr f2 (fun e => Hne.out e.symm); have hz2 := intsAt_frP (w := w1.drew) Hzl.out f2 hB1 (fun h b off e => (HzA.out b off h e).1))
          | (go_at_call 63; refine (Hu.out _ hR2 hz2 (Nat.le_trans hB1 f2.size)).mono ?_; rintro e w3 ⟨rfl, hR3, f3⟩; have x3 := x2.fr f3 gw_; obtain ⟨e0, e1, e2, e3, e4⟩ := ask5_c x3))
        have hP3 := hP2.fr f3 Hne.out
        have fr3 := (F1.out.drew.trans f2 (fun i hi e => .inl e)).trans f3 (fun i hi e => .inr e)
        go_wp2_with fail
        go_ret
        exact ⟨rfl, ⟨_, hP3, hR3, HI.out⟩, fr3⟩
  have q3 : (kd == 3) = false := by simpa using hk3
  by_cases hk4 : kd = 4
  · subst hk4
    as_aux_lemma =>
      have Hd := Lib.hid (drop_any w1.drew gp s ow HH.out.p.drew HH.out.i)
      have Hu := Lib.hid (fun W (hR : RPool W gw s) => rdrop_any W gw s ow hR HH.out.i)
      have HI := Lib.hid (HH.out.i.dropO ow)
      generalize (held s ow).length = rr at *
      generalize s.dropO ow = s2' at *
      go_upto_region 22 with (fail)
      go_region_held3 (fun W => W.cell? ⟨g, 1, none⟩ = some (.int .i64 ow)) (first | exact s1 | exact d1 | exact e1)
        (first
        | (go_at_call 42; refine (Hd.out).mono ?_; rintro e w2 ⟨rfl, hP2, f2⟩; have x2 := HX.out.drew.fr f2 gp_; obtain ⟨d0, d1, d2, d3, d4⟩ := ask5_c x2; have hR2 := HH.out.r.drew.fr f2 (fun e => Hne.out e.symm))
        | (go_at_call 64; refine (Hu.out _ hR2).mono ?_; rintro e w3 ⟨rfl, hR3, f3⟩; have x3 := x2.fr f3 gw_; obtain ⟨e0, e1, e2, e3, e4⟩ := ask5_c x3))
      all_goals
        have hP3 := hP2.fr f3 Hne.out
        have fr3 := (F1.out.drew.trans f2 (fun i hi e => .inl e)).trans f3 (fun i hi e => .inr e)
        go_wp2_with fail
        go_ret
        exact ⟨rfl, ⟨_, hP3, hR3, HI.out⟩, fr3⟩
  have q4 : (kd == 4) = false := by simpa using hk4
  by_cases hk5 : kd = 5
  · subst hk5
    as_aux_lemma =>
      clear hk1 hk2 hk3 hk4
      have hs1 := HX.out.lt
      go_upto_region 24 with (fail)
      go_cut [15] (fun v wx => v = .bool (hereB s n ow) ∧ Fr (fun _ => False) w1 wx)
      case first => as_aux_lemma =>
        by_cases b0 : 0 ≤ n
        · by_cases b1 : n < 256
          · by_cases b2 : 0 ≤ ow
            · by_cases b3 : ow < 64
              · obtain ⟨f, rfl⟩ : ∃ f : Nat, n = f := ⟨n.toNat, by omega⟩
                obtain ⟨a, rfl⟩ : ∃ a : Nat, ow = a := ⟨ow.toNat, by omega⟩
                have hh := here_eq HH.out.i (show f < 256 by omega) (show a < 64 by omega)
                have Hh := Lib.hid hh
                have co := HH.out.r.cOwn f (by omega)
                have hw := fun W => Bk.within_any W f 0 255 (by omega) (by omega) (by omega) (by omega) (by omega)
                rw [show (0 : Int) + (f : Int) % (255 - 0 + 1) = f by omega] at hw
                have Hw := Lib.hid hw
                clear hw hh
                generalize hq : s.own f = q at *
                clear hq
                go_quiet ((go_at_call 13; exact quiet_same (Hw.out _)))
                go_wp2_with fail
                go_meet
                exact ⟨by rw [Hh.out], (Fr.refl _ _).drewN _⟩
              · have e0 : hereB s n ow = false := by simp [hereB]; omega
                have b3' : decide (ow < 64) = false := by simpa using b3
                have E0 := Lib.hid e0
                clear e0 b3
                go_quiet (fail)
                go_wp2_with fail
                go_meet
                exact ⟨by rw [E0.out], (Fr.refl _ _).drewN _⟩
            · have e0 : hereB s n ow = false := by simp [hereB]; omega
              have b2' : decide (0 ≤ ow) = false := by simpa using b2
              have E0 := Lib.hid e0
              clear e0 b2
              go_quiet (fail)
              go_wp2_with fail
              go_meet
              exact ⟨by rw [E0.out], (Fr.refl _ _).drewN _⟩
          · have e0 : hereB s n ow = false := by simp [hereB, ownB, isF]; omega
            have b1' : decide (n < 256) = false := by simpa using b1
            have E0 := Lib.hid e0
            clear e0 b1
            go_quiet (fail)
            go_wp2_with fail
            go_meet
            exact ⟨by rw [E0.out], (Fr.refl _ _).drewN _⟩
        · have e0 : hereB s n ow = false := by simp [hereB, ownB, isF]; omega
          have b0' : decide (0 ≤ n) = false := by simpa using b0
          have E0 := Lib.hid e0
          clear e0 b0
          go_quiet (fail)
          go_wp2_with fail
          go_meet
          exact ⟨by rw [E0.out], (Fr.refl _ _).drewN _⟩
      case rest => as_aux_lemma =>
        obtain ⟨rfl, fc⟩ := hcut
        have xc := HX.out.fr fc (fun e => e)
        obtain ⟨a0, a1, a2, a3, a4⟩ := ask5_c xc
        have hc1 := HH.out.fr0 fc
        have fr1 := F1.out.tr (Fr.none fc)
        have Hp := Lib.hid (put_any wc gp s n ow by_ hc1.p)
        have hI2 := hc1.i.putB n ow by_
        have HR := Lib.hid hc1.r
        clear hc1 c0 c1 c2 c3 c4 s1 s2 s4
        cases hb : hereB s n ow
        · have e1 : s.putB n ow by_ = s := by rw [Pl.putB, hb]; rfl
          have hby := fun W (hP : Pool W gp s) => byte_any W gp s n ow hP
          have hbv : bytV s n ow = 0 := by rw [bytV, hb]; rfl
          rw [hbv, hb] at hby
          rw [hb, e1] at Hp
          rw [e1] at hI2
          have Hby := Lib.hid hby
          have HI := Lib.hid hI2
          clear hb e1 hbv hby hI2
          go_wp2_with fail
          refine (Hp.out).mono ?_
          rintro e w2 ⟨rfl, hP2, f2⟩
          have x2 := xc.fr f2 gp_
          obtain ⟨d0, d1, d2, d3, d4⟩ := ask5_c x2
          have hR2 := HR.out.fr f2 (fun e => Hne.out e.symm)
          go_wp2_with fail
          refine (Hby.out _ hP2).mono ?_
          rintro e w' ⟨rfl, rfl⟩
          go_wp2_with fail
          go_ret
          exact ⟨rfl, ⟨_, hP2, hR2, HI.out⟩, fr1.trans f2 (fun i hi e => .inl e)⟩
        · obtain ⟨f, a, rfl, rfl, f16, f256, a64⟩ := hereB_at hb
          have e1 : s.putB f a by_ = s.setByt (f * 64 + a) by_ := by rw [Pl.putB, hb]; rfl
          have hby := fun W (hP : Pool W gp (s.setByt (f * 64 + a) by_)) => byte_any W gp (s.setByt (f * 64 + a) by_) f a hP
          have hb2 : hereB (s.setByt (f * 64 + a) by_) f a = true := hb
          have hbv : bytV (s.setByt (f * 64 + a) by_) f a = by_ := by
            rw [bytV, if_pos hb2]
            show updI s.byt (f * 64 + a) by_ (f * 64 + a) = by_
            exact updI_same _ _ _
          rw [hbv, hb2] at hby
          rw [hb, e1] at Hp
          rw [e1] at hI2
          have Hby := Lib.hid hby
          have HI := Lib.hid hI2
          clear hb e1 hbv hby hI2 hb2
          go_wp2_with fail
          refine (Hp.out).mono ?_
          rintro e w2 ⟨rfl, hP2, f2⟩
          have x2 := xc.fr f2 gp_
          obtain ⟨d0, d1, d2, d3, d4⟩ := ask5_c x2
          have hR2 := HR.out.fr f2 (fun e => Hne.out e.symm)
          have z2 := Cells.frozen hR2 (260 + (f * 64 + a))
          have cb2 := hR2.cByt (f * 64 + a) (by omega)
          have hR3 := hR2.setByt (f * 64 + a) (by omega) by_
          have hP3 := hP2.fr (Fr.set1 w2 gw (260 + (f * 64 + a)) (.int .u8 by_)) Hne.out
          have x3 := x2.fr (Fr.set1 w2 gw (260 + (f * 64 + a)) (.int .u8 by_)) gw_
          obtain ⟨e0, e1, e2, e3, e4⟩ := ask5_c x3
          have hadd : (260 : Nat) + (f * 64 + a) = 260 + f * 64 + a := by omega
          rw [hadd] at z2 cb2 hR3 hP3 x3 e0 e1 e2 e3 e4
          have HR3 := Lib.hid hR3
          have HP3 := Lib.hid hP3
          have fr3 := (fr1.trans f2 (fun i hi e => .inl e)).trans (Fr.set1 w2 gw (260 + f * 64 + a) (.int .u8 by_)) (fun i hi e => .inr e)
          have FR3 := Lib.hid fr3
          clear hR3 hP3 hR2 hP2 fr3
          go_upto_region 28 with (fail)
          have i0 : (0 : Int) ≤ (f : Int) := by omega
          have i1 : (f : Int) < 256 := by omega
          have i2 : (0 : Int) ≤ (a : Int) := by omega
          have i3 : (a : Int) < 64 := by omega
          go_still_tail 11, (by kernel_rfl)
          go_wp2_with fail
          refine (Hby.out _ HP3.out.drew).mono ?_
          rintro e w' ⟨rfl, rfl⟩
          go_wp2_with fail
          go_ret
          exact ⟨rfl, ⟨_, HP3.out.drew, HR3.out.drew, HI.out⟩, FR3.out.drew⟩
  have q5 : (kd == 5) = false := by simpa using hk5
  clear hk1 hk2 hk3 hk4 hk5
  go_wp2_with fail
  go_ret
  exact ⟨rfl, ⟨_, HH.out⟩, F1.out⟩
end Go.Proofs.Ytbkapgbohnmkhaa.Fm
