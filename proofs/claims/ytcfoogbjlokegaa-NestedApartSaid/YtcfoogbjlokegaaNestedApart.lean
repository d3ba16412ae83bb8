/- NestedApart: the walk. -/
import Derived.Test.YtcfoogbjlokegaaTabInv
import Derived.Test.YtcfoogbjlokegaaNestedOpen
import Derived.Test.YtcfoogbjlokegaaNestedTells
namespace Go.Proofs.Ytcfoogbjlokegaa.nestedApart
open Go.RowKit Fm Nt
set_option linter.unusedVariables false
set_option maxHeartbeats 4000000

theorem other {s s' : Pl} {t : Ts} (h : TInv s t) (hp : PInv s') (hr : s'.prom t.o.toNat = s.prom t.o.toNat) (ho : ∀ f, f < 256 → (s'.own f == t.o) = (s.own f == t.o)) : TInv s' t := by
  refine ⟨hp, h.n0, h.n1, h.o0, h.o1, hr.trans h.pr, fun k hk => ?_, h.inj, ?_, h.gd⟩
  · rcases h.at_ k hk with e | ⟨e1, e2, e3⟩
    · exact .inl e
    · refine .inr ⟨e1, e2, ?_⟩
      have := ho (t.fr k).toNat (by omega)
      rw [e3] at this
      simpa using this
  · rw [← h.cn]
    exact cnt_congr fun j hj => ho j hj
theorem other_map {s : Pl} {ta tb : Ts} (ha : TInv s ta) (hb : TInv s tb) (hne : ta.o ≠ tb.o) (k : Nat) (hk : k < ta.n) : TInv (mapS s ta k) tb := by
  have hI := ha.map k
  by_cases hx : ta.fr k = -1
  · obtain ⟨f, f1, f2, f3, _, _, _, e1, _⟩ := ha.mapNew hk hx
    have hpi := hI.pi
    rw [e1] at hpi ⊢
    refine other hb hpi rfl fun j hj => ?_
    show (updI s.own f ta.o j == tb.o) = _
    unfold updI
    split
    · rename_i e
      subst e
      rw [f3]
      have := hb.o0
      have h1 : (ta.o == tb.o) = false := by simpa using hne
      have h2 : ((-1 : Int) == tb.o) = false := by simp; omega
      rw [h1, h2]
    · rfl
  · obtain ⟨_, _, e1, _⟩ := mapOld (s := s) hk hx
    rw [e1]; exact hb
theorem other_unmap {s : Pl} {ta tb : Ts} (ha : TInv s ta) (hb : TInv s tb) (hne : ta.o ≠ tb.o) (k : Nat) (hk : k < ta.n) : TInv (unmapS s ta k) tb := by
  have hI := ha.unmap k
  by_cases hx : ta.fr k = -1
  · obtain ⟨_, e1, _⟩ := unmapOut (s := s) (t := ta) (p := k) (by simp [frB_iff ta hk, hx])
    rw [e1]; exact hb
  · obtain ⟨f, hf, f1, f2, f3, _, e1, _⟩ := ha.unmapOld hk hx
    have hpi := hI.pi
    rw [e1] at hpi ⊢
    refine other hb hpi rfl fun j hj => ?_
    show (updI s.own f (-1) j == tb.o) = _
    unfold updI
    split
    · rename_i e
      subst e
      rw [f3]
      have := hb.o0
      have h1 : (ta.o == tb.o) = false := by simpa using hne
      have h2 : ((-1 : Int) == tb.o) = false := by simp; omega
      rw [h1, h2]
    · rfl
/-- two tables on one pool -/
structure Two (w : World) (a b : Ad) (s : Pl) (ta tb : Ts) : Prop where
  gp : b.gp = a.gp
  P : Pool w a.gp s
  A : Tab w a ta
  B : Tab w b tb
  ia : TInv s ta
  ib : TInv s tb
  na : ta.n = 64
  nb : tb.n = 64
  oa : ta.o = 0
  ob : tb.o = 3
/-- the places of both -/
def own2 (a b : Ad) (k : Nat) : Prop := k = a.gp ∨ a.own k ∨ b.own k
theorem Two.fr {w w' : World} {a b : Ad} {s : Pl} {ta tb : Ts} {S : Nat → Prop} (h : Two w a b s ta tb) (f : Fr S w w') (hn : ∀ k, own2 a b k → ¬ S k) : Two w' a b s ta tb :=
  ⟨h.gp, h.P.fr f (hn _ (.inl rfl)), h.A.fr f (fun k hk => hn k (.inr (.inl hk))), h.B.fr f (fun k hk => hn k (.inr (.inr hk))), h.ia, h.ib, h.na, h.nb, h.oa, h.ob⟩
theorem frame_own {s : Pl} {t : Ts} (h : TInv s t) {x : Int} (hx : x ∈ mapN t t.n) : ∃ k f : Nat, x = k ∧ k < t.n ∧ frB t k = true ∧ frV t k = f ∧ 16 ≤ f ∧ f < 256 ∧ s.own f = t.o := by
  simp only [mapN, List.mem_map, List.mem_filter, List.mem_range] at hx
  obtain ⟨k, ⟨hk, hm⟩, rfl⟩ := hx
  have hm : ¬ t.fr k = -1 := by simpa using hm
  rcases h.at_ k hk with e | ⟨e1, e2, e3⟩
  · exact absurd e hm
  · obtain ⟨f, hf⟩ : ∃ f : Nat, t.fr k = f := ⟨(t.fr k).toNat, by omega⟩
    have hb : frB t k = true := by simp [frB_iff t hk, hm]
    rw [hf] at e1 e2 e3
    exact ⟨k, f, rfl, hk, hb, by rw [frV_eq t hb, hf], by omega, by omega, e3⟩
def s1 : Pl := Pl.new.promise 0 64
def s2 : Pl := s1.promise 3 64
theorem r2 : promR s1 3 64 = 0 := by decide +kernel
theorem init : TInv s2 (Ts.new 64 0) ∧ TInv s2 (Ts.new 64 3) := by
  have i1 : TInv s1 (Ts.new 64 0) := TInv.new (o := 0) (n := 64) (by omega) (by omega) (by omega) (by omega) PInv.new rfl (promR_new (by omega) (by omega) (by omega))
  have hp : s1.prom 3 = -1 := by decide +kernel
  have i2 : TInv s2 (Ts.new 64 3) := TInv.new (o := 3) (n := 64) (by omega) (by omega) (by omega) (by omega) i1.pi hp r2
  exact ⟨other i1 i2.pi (by decide +kernel) (fun f hf => by
    have : s2.own = s1.own := by
      have : s2 = s1.setProm 3 64 := by
        show s1.promise 3 64 = _
        rw [Pl.promise, if_pos r2]; rfl
      rw [this]; rfl
    rw [this]), i2⟩
/-- a call that leaves two tables on one pool -/
def Goes2 (w : World) (a b : Ad) (e : Ending) (w' : World) : Prop := ∃ (x y : Int) (s : Pl) (ta tb : Ts), e = .returned (.tuple #[.int .i64 x, .int .i64 y]) ∧ Two w' a b s ta tb ∧ Fr (own2 a b) w w'
def Goes1 (w : World) (a b : Ad) (e : Ending) (w' : World) : Prop := ∃ (x : Int) (s : Pl) (ta tb : Ts), e = .returned (.int .i64 x) ∧ Two w' a b s ta tb ∧ Fr (own2 a b) w w'
section
variable {w : World} {a b : Ad} {s : Pl} {ta tb : Ts}
theorem mapA (h : Two w a b s ta tb) (hd : ∀ k, b.own k → ¬ a.own k) (j : Nat) (hj : j < 64) : Calls Try.prog 18 #[.pointer (some ⟨a.gt, 0, none⟩), .int .i64 (j : Int)] w (Goes2 w a b) := by
  refine (map_any w a s ta j h.P h.A h.ia.pi.ok).mono ?_
  rintro e w' ⟨rfl, hP, hT, f⟩
  obtain ⟨m1, m2, _⟩ := map_no s ta j
  refine ⟨_, _, _, _, tb, rfl, ⟨h.gp, hP, hT, h.B.fr f (fun k hk e => ?_), h.ia.map j, other_map h.ia h.ib (by rw [h.oa, h.ob]; omega) j (by rw [h.na]; exact hj), m1.trans h.na, h.nb, m2.trans h.oa, h.ob⟩, f.mono (fun k _ e => ?_)⟩
  · rcases e with e | e
    · exact h.B.pool (by rw [h.gp]; exact h.P) k hk (by rw [h.gp]; exact e)
    · exact hd k hk (.inr (.inl e))
  · rcases e with e | e
    · exact .inl e
    · exact .inr (.inl (.inr (.inl e)))
theorem unmapA (h : Two w a b s ta tb) (hd : ∀ k, b.own k → ¬ a.own k) (j : Nat) (hj : j < 64) : Calls Try.prog 17 #[.pointer (some ⟨a.gt, 0, none⟩), .int .i64 (j : Int)] w (Goes1 w a b) := by
  refine (unmap_any w a s ta j h.P h.A h.ia.tok).mono ?_
  rintro e w' ⟨rfl, hP, hT, f⟩
  obtain ⟨m1, m2⟩ := unmap_no ta j
  refine ⟨_, _, _, tb, rfl, ⟨h.gp, hP, hT, h.B.fr f (fun k hk e => ?_), h.ia.unmap j, other_unmap h.ia h.ib (by rw [h.oa, h.ob]; omega) j (by rw [h.na]; exact hj), m1.trans h.na, h.nb, m2.trans h.oa, h.ob⟩, f.mono (fun k _ e => ?_)⟩
  · rcases e with e | e
    · exact h.B.pool (by rw [h.gp]; exact h.P) k hk (by rw [h.gp]; exact e)
    · exact hd k hk e
  · rcases e with e | e
    · exact .inl e
    · exact .inr (.inl e)
theorem mapB_ (h : Two w a b s ta tb) (hd : ∀ k, b.own k → ¬ a.own k) (j : Nat) (hj : j < 64) : Calls Try.prog 18 #[.pointer (some ⟨b.gt, 0, none⟩), .int .i64 (j : Int)] w (Goes2 w a b) := by
  refine (map_any w b s tb j (by rw [h.gp]; exact h.P) h.B h.ib.pi.ok).mono ?_
  rintro e w' ⟨rfl, hP, hT, f⟩
  rw [h.gp] at hP f
  obtain ⟨m1, m2, _⟩ := map_no s tb j
  refine ⟨_, _, _, ta, _, rfl, ⟨h.gp, hP, h.A.fr f (fun k hk e => ?_), hT, other_map h.ib h.ia (by rw [h.oa, h.ob]; omega) j (by rw [h.nb]; exact hj), h.ib.map j, h.na, m1.trans h.nb, h.oa, m2.trans h.ob⟩, f.mono (fun k _ e => ?_)⟩
  · rcases e with e | e
    · exact h.A.pool h.P k hk e
    · exact hd k (.inr (.inl e)) hk
  · rcases e with e | e
    · exact .inl e
    · exact .inr (.inr (.inr (.inl e)))
theorem unmapB (h : Two w a b s ta tb) (hd : ∀ k, b.own k → ¬ a.own k) (j : Nat) (hj : j < 64) : Calls Try.prog 17 #[.pointer (some ⟨b.gt, 0, none⟩), .int .i64 (j : Int)] w (Goes1 w a b) := by
  refine (unmap_any w b s tb j (by rw [h.gp]; exact h.P) h.B h.ib.tok).mono ?_
  rintro e w' ⟨rfl, hP, hT, f⟩
  rw [h.gp] at hP f
  obtain ⟨m1, m2⟩ := unmap_no tb j
  refine ⟨_, _, ta, _, rfl, ⟨h.gp, hP, h.A.fr f (fun k hk e => ?_), hT, other_unmap h.ib h.ia (by rw [h.oa, h.ob]; omega) j (by rw [h.nb]; exact hj), h.ib.unmap j, h.na, m1.trans h.nb, h.oa, m2.trans h.ob⟩, f.mono (fun k _ e => ?_)⟩
  · rcases e with e | e
    · exact h.A.pool h.P k hk e
    · exact hd k e hk
  · rcases e with e | e
    · exact .inl e
    · exact .inr (.inr e)
end
set_option maxRecDepth 100000 in
theorem walk (w : World) (A : Option Addr) (len cap : Nat) (hl : AsksAt w w.heap.size A len ∧ len ≤ maxLen) (A2 : Option Addr) (len2 cap2 : Nat) (hl2 : AsksAt w w.heap.size A2 len2 ∧ len2 ≤ maxLen) :
    Calls Try.prog 3 #[.slice A len cap, .slice A2 len2 cap2] w fun e w' => e = .returned (.bool true) ∧ Fr (fun _ => False) w w' := by
  obtain ⟨hl, hm⟩ := hl
  obtain ⟨hl2, hm2⟩ := hl2
  unfold maxLen at hm hm2
  go_enter Try.func3, Try.ntmps3
  go_wp2_with fail
  refine (Fm.new_any w).mono ?_
  rintro e w1 ⟨rfl, hP, f1⟩
  go_wp2_with fail
  refine (new_yes w1 w.heap.size Pl.new 0 64 hP new_ok (by omega) (by omega) (by omega) (by omega) (promR_new (by omega) (by omega) (by omega))).mono ?_
  rintro e w2 ⟨a, rfl, ha, hTa, hP2, hbla, f2⟩
  go_wp2_with fail
  refine (new_yes w2 w.heap.size s1 3 64 hP2 (promise_ok new_ok 0 64) (by omega) (by omega) (by omega) (by omega) r2).mono ?_
  rintro e w3 ⟨b, rfl, hb, hTb, hP3, hblb, f3⟩
  have hlta := hTa.lt
  have hd : ∀ k, b.own k → ¬ a.own k := fun k h1 h2 => by
    have := hblb k h1
    have := hlta k h2
    omega
  have hT : Two w3 a b s2 (Ts.new 64 0) (Ts.new 64 3) := ⟨by rw [hb, ha], by rw [ha]; exact hP3, hTa.fr f3 (fun k hk e => by
    have h1 := hbla k hk
    have h2 := hP.lt
    omega), hTb, init.1, init.2, rfl, rfl, rfl, rfl⟩
  have hbl : ∀ k, own2 a b k → w.heap.size ≤ k := by
    have := f1.size
    have := f2.size
    rintro k (rfl | hk | hk)
    · omega
    · have := hbla k hk; omega
    · have := hblb k hk; omega
  have fr3 : Fr (fun _ => False) w w3 := (f1.trans (S := fun _ => False) f2 (fun i hi e => by omega)).trans f3 (fun i hi e => by omega)
  have Hbl := Lib.hid hbl
  have Hd := Lib.hid hd
  have hS : ∃ s ta tb, Two w3 a b s ta tb := ⟨_, _, _, hT⟩
  clear hT hbl hd hlta hbla hblb hTa hTb hP hP2 hP3 f1 f2 f3 ha hb
  go_wp2_with fail
  go_loopw [10] (fun i wr => ∃ k : Nat, k ≤ len ∧ i = .int .i64 k ∧ (∃ s ta tb, Two wr a b s ta tb) ∧ Fr (fun _ => False) w wr) (fun i _ => len - (intOf i).toNat)
  case atStart => exact ⟨0, Nat.zero_le _, rfl, hS, fr3⟩
  case round =>
    clear hS fr3
    obtain ⟨k, hk, rfl, ⟨s, ta, tb, hT⟩, fr⟩ := hrel
    by_cases hlt : k < len ∧ k < len2 ∧ k < 50
    · obtain ⟨h1, h2, h3⟩ := hlt
      obtain ⟨bx, off, rfl, hbx, kd, pg, hax⟩ := hl.at_ h1
      obtain ⟨by_, offy, rfl, hby, kd2, pg2, hay⟩ := hl2.at_ h2
      obtain ⟨wo, rfl⟩ : ∃ wo : World, wo = wr := ⟨_, rfl⟩
      have h50 : decide ((k : Int) < 50) = true := by simp; omega
      have hlo := Lib.hid (fun k (hk : own2 a b k) => show k < wo.heap.size from by
        rcases hk with rfl | hk | hk
        · exact hT.P.lt
        · exact hT.A.lt k hk
        · exact hT.B.lt k hk)
      have fr1 := fr.alloc (.cells #[.pointer (some ⟨a.gt, 0, none⟩), .pointer (some ⟨b.gt, 0, none⟩)] 25)
      have hB1 := Blk.new wo 25 #[.pointer (some ⟨a.gt, 0, none⟩), .pointer (some ⟨b.gt, 0, none⟩)]
      have hT1 : ∃ s ta tb, Two (wo.alloc (.cells #[.pointer (some ⟨a.gt, 0, none⟩), .pointer (some ⟨b.gt, 0, none⟩)] 25)) a b s ta tb := ⟨s, ta, tb, hT.fr ((Fr.refl (fun _ => False) wo).alloc _) (fun _ _ e => e)⟩
      have hsz := fr.size
      clear hT
      go_wp2_with fail
      go_loopw [70] (fun i wr => ∃ j : Nat, j ≤ 2 ∧ i = .int .i64 j ∧ (∃ s ta tb, Two wr a b s ta tb) ∧ Blk wr wo.heap.size 25 #[.pointer (some ⟨a.gt, 0, none⟩), .pointer (some ⟨b.gt, 0, none⟩)] ∧ Fr (fun _ => False) w wr) (fun i _ => 2 - (intOf i).toNat)
      case atStart => exact ⟨0, by omega, rfl, hT1, hB1, fr1⟩
      case round =>
        clear hT1 hB1 fr1
        obtain ⟨j, hj, rfl, ⟨s, ta, tb, hT⟩, hB, fr⟩ := hrel
        obtain ⟨c0, c1, hp0, hp1⟩ := hax.fr fr hbx (Nat.le_refl _) (fun _ _ e => e)
        obtain ⟨d0, d1, hq0, hq1⟩ := hay.fr fr hby (Nat.le_refl _) (fun _ _ e => e)
        have hbw : bx < wr.heap.size := Nat.lt_of_lt_of_le hbx fr.size
        have hbw2 : by_ < wr.heap.size := Nat.lt_of_lt_of_le hby fr.size
        have hBl := hB.lt
        have e0 := hB.cell 0
        have e1 := hB.cell 1
        by_cases hj2 : j < 2
        · rcases (by omega : j = 0 ∨ j = 1) with rfl | rfl
          · have hw := Lib.hid (fun W => Bk.within_any W pg 0 63 hp0 hp1 (by omega) (by omega) (by omega))
            have hg0 := Int.emod_nonneg pg (show (63 - 0 + 1 : Int) ≠ 0 by omega)
            have hg1 := Int.emod_lt_of_pos pg (show (0 : Int) < 63 - 0 + 1 by omega)
            obtain ⟨q, hq⟩ : ∃ q : Nat, (0 : Int) + pg % (63 - 0 + 1) = q := ⟨(pg % (63 - 0 + 1)).toNat, by omega⟩
            have hq64 : q < 64 := by omega
            rw [hq] at hw
            clear hq hg0 hg1
            go_wp2_with fail
            refine (hw.out _).mono ?_
            rintro e w' ⟨rfl, rfl⟩
            go_wp2_with fail
            · refine (unmapA (hT.fr (S := fun _ => False) ((Fr.refl _ wr).alloc _) (fun _ _ e => e)) Hd.out q hq64).mono ?_
              rintro e w2 ⟨x, s2, ta2, tb2, rfl, hT2, f2⟩
              have hB2 := (hB.alloc (.cells #[.int .i64 kd, .int .i64 pg] 31)).fr f2 (fun e => by have := hlo.out _ e; omega)
              have fr2 := (fr.alloc (.cells #[.int .i64 kd, .int .i64 pg] 31)).trans (S := fun _ => False) f2 (fun i hi e => by have := Hbl.out i e; omega)
              go_wp2_with fail
              go_roundw
              case rel => exact ⟨1, by omega, rfl, ⟨s2, ta2, tb2, hT2⟩, hB2, fr2⟩
              case measure => simp [intOf]
            · refine (mapA (hT.fr (S := fun _ => False) ((Fr.refl _ wr).alloc _) (fun _ _ e => e)) Hd.out q hq64).mono ?_
              rintro e w2 ⟨x, y, s2, ta2, tb2, rfl, hT2, f2⟩
              have hB2 := (hB.alloc (.cells #[.int .i64 kd, .int .i64 pg] 31)).fr f2 (fun e => by have := hlo.out _ e; omega)
              have fr2 := (fr.alloc (.cells #[.int .i64 kd, .int .i64 pg] 31)).trans (S := fun _ => False) f2 (fun i hi e => by have := Hbl.out i e; omega)
              go_wp2_with fail
              go_roundw
              case rel => exact ⟨1, by omega, rfl, ⟨s2, ta2, tb2, hT2⟩, hB2, fr2⟩
              case measure => simp [intOf]
          · have hw := Lib.hid (fun W => Bk.within_any W pg2 0 63 hq0 hq1 (by omega) (by omega) (by omega))
            have hg0 := Int.emod_nonneg pg2 (show (63 - 0 + 1 : Int) ≠ 0 by omega)
            have hg1 := Int.emod_lt_of_pos pg2 (show (0 : Int) < 63 - 0 + 1 by omega)
            obtain ⟨q, hq⟩ : ∃ q : Nat, (0 : Int) + pg2 % (63 - 0 + 1) = q := ⟨(pg2 % (63 - 0 + 1)).toNat, by omega⟩
            have hq64 : q < 64 := by omega
            rw [hq] at hw
            clear hq hg0 hg1
            go_wp2_with fail
            refine (hw.out _).mono ?_
            rintro e w' ⟨rfl, rfl⟩
            go_wp2_with fail
            · refine (unmapB (hT.fr (S := fun _ => False) ((Fr.refl _ wr).alloc _) (fun _ _ e => e)) Hd.out q hq64).mono ?_
              rintro e w2 ⟨x, s2, ta2, tb2, rfl, hT2, f2⟩
              have hB2 := (hB.alloc (.cells #[.int .i64 kd2, .int .i64 pg2] 31)).fr f2 (fun e => by have := hlo.out _ e; omega)
              have fr2 := (fr.alloc (.cells #[.int .i64 kd2, .int .i64 pg2] 31)).trans (S := fun _ => False) f2 (fun i hi e => by have := Hbl.out i e; omega)
              go_wp2_with fail
              go_roundw
              case rel => exact ⟨2, by omega, rfl, ⟨s2, ta2, tb2, hT2⟩, hB2, fr2⟩
              case measure => simp [intOf]
            · refine (mapB_ (hT.fr (S := fun _ => False) ((Fr.refl _ wr).alloc _) (fun _ _ e => e)) Hd.out q hq64).mono ?_
              rintro e w2 ⟨x, y, s2, ta2, tb2, rfl, hT2, f2⟩
              have hB2 := (hB.alloc (.cells #[.int .i64 kd2, .int .i64 pg2] 31)).fr f2 (fun e => by have := hlo.out _ e; omega)
              have fr2 := (fr.alloc (.cells #[.int .i64 kd2, .int .i64 pg2] 31)).trans (S := fun _ => False) f2 (fun i hi e => by have := Hbl.out i e; omega)
              go_wp2_with fail
              go_roundw
              case rel => exact ⟨2, by omega, rfl, ⟨s2, ta2, tb2, hT2⟩, hB2, fr2⟩
              case measure => simp [intOf]
        · have e : j = 2 := by omega
          subst e
          clear c0 c1 d0 d1 e0 e1 hB
          have hma := Lib.hid (mapped_any wr a ta hT.A 0 (by omega))
          have hla : (mapN ta ta.n).length ≤ 64 := by have := mapN_le ta ta.n; have := hT.na; omega
          have hna := Lib.hid hT.na
          go_wp2_with fail
          refine (hma.out).mono ?_
          rintro e w2 ⟨v, rfl, ho2, f2, k2⟩
          obtain ⟨A5, cap5, rfl⟩ := ownI_any ho2
          have hI5 := Bk.own_ints ho2 (mapN_wf ta ta.n (by rw [hna.out]; omega))
          have hin := fun i hi => frame_own hT.ia (show (mapN ta ta.n).getD i 0 ∈ mapN ta ta.n from by
            have hi : i < (mapN ta ta.n).length := hi
            simp [hi])
          have Hin := Lib.hid hin
          have fr2 := fr.tr f2
          have hT2 := hT.fr f2 (fun _ _ e => e)
          clear hin ho2 k2 hT
          generalize hlen5 : (mapN ta ta.n).length = n5 at *
          clear hlen5
          go_wp2_with fail
          go_loopw [101] (fun i wr => ∃ m : Nat, m ≤ n5 ∧ i = .int .i64 m ∧ Fr (fun _ => False) w2 wr) (fun i _ => n5 - (intOf i).toNat)
          case atStart => exact ⟨0, by omega, rfl, Fr.refl _ _⟩
          case round =>
            obtain ⟨m, hm5, rfl, fr5⟩ := hrel
            by_cases hlt5 : m < n5
            · have hTz := hT2.fr fr5 (fun _ _ e => e)
              have hI5z := hI5.fr fr5 (Nat.le_refl _) (fun _ _ e => e)
              obtain ⟨b5, o5, rfl, hb5, hc5⟩ := hI5z.at_ hlt5
              obtain ⟨x, f, hx, hxn, hxb, hxv, f16, f256, fown⟩ := Hin.out m hlt5
              rw [hx] at hc5
              have hmb := Lib.hid (mapped_any wr b tb hTz.B 0 (by omega))
              have hlb : (mapN tb tb.n).length ≤ 64 := by have := mapN_le tb tb.n; have := hTz.nb; omega
              have hnb := Lib.hid hTz.nb
              have hFx := fun W (h : Tab W a ta) => Nt.frame_any W a ta x h
              rw [hxb, hxv] at hFx
              have HFx := Lib.hid hFx
              have hfo := Lib.hid fown
              clear hx hxb hxv hFx fown
              go_wp2_with fail
              refine (hmb.out).mono ?_
              rintro e w6 ⟨v, rfl, ho6, f6, k6⟩
              obtain ⟨A6, cap6, rfl⟩ := ownI_any ho6
              have hI6 := Bk.own_ints ho6 (mapN_wf tb tb.n (by rw [hnb.out]; omega))
              have hin := fun i hi => frame_own hTz.ib (show (mapN tb tb.n).getD i 0 ∈ mapN tb tb.n from by
                have hi : i < (mapN tb tb.n).length := hi
                simp [hi])
              have Hin6 := Lib.hid hin
              have fr6 := fr5.tr f6
              have hT6 := hTz.fr f6 (fun _ _ e => e)
              clear hin ho6 k6 hTz
              generalize hlen6 : (mapN tb tb.n).length = n6 at *
              clear hlen6
              go_wp2_with fail
              go_loop [108] (fun i => ∃ y : Nat, y ≤ n6 ∧ i = .int .i64 y) (fun i => n6 - (intOf i).toNat)
              case atStart => exact ⟨0, by omega, rfl⟩
              case round =>
                obtain ⟨y, hy6, rfl⟩ := hrel
                by_cases hlt6 : y < n6
                · obtain ⟨b6, o6, rfl, hb6, hc6⟩ := hI6.at_ hlt6
                  obtain ⟨z, g, hz, hzn, hzb, hzv, g16, g256, gown⟩ := Hin6.out y hlt6
                  rw [hz] at hc6
                  have hFz := Nt.frame_any w6 b tb z hT6.B
                  rw [hzb, hzv] at hFz
                  have HFz := Lib.hid hFz
                  have hne : ((f : Int) == (g : Int)) = false := by
                    rw [beq_eq_false_iff_ne]
                    intro e
                    have e : f = g := by omega
                    subst e
                    have h1 := hfo.out
                    rw [gown, hT6.oa, hT6.ob] at h1
                    omega
                  clear hz hzb hzv hFz gown
                  go_wp2_with fail
                  refine (HFx.out _ hT6.A).mono ?_
                  rintro e w' ⟨rfl, rfl⟩
                  go_wp2_with fail
                  refine (HFz.out).mono ?_
                  rintro e w' ⟨rfl, rfl⟩
                  go_wp2_with fail
                  go_round
                  case rel => exact ⟨y + 1, by omega, by go_num⟩
                  case measure => simp [intOf]; omega
                · go_wp2_with fail
                  go_roundw
                  case rel => exact ⟨m + 1, by omega, by go_num, fr6⟩
                  case measure => simp [intOf]; omega
            · have frz := fr2.tr fr5
              have hTz := hT2.fr fr5 (fun _ _ e => e)
              go_wp2_with fail
              go_roundw
              case rel => exact ⟨k + 1, by omega, by go_num, ⟨s, ta, tb, hTz⟩, frz⟩
              case measure => simp [intOf]; omega
    · go_wp2_with fail
      all_goals
        refine (known_any _).mono ?_
        rintro e w6 ⟨rfl, f6⟩
        go_wp2_with fail
        go_ret
        exact ⟨rfl, fr.tr f6⟩
end Go.Proofs.Ytcfoogbjlokegaa.nestedApart
