/- NestedNumbers: the walk. -/
import Derived.Test.YtcfoogbjlokegaaTabInv
import Derived.Test.YtcfoogbjlokegaaNestedLaws
namespace Go.Proofs.Ytcfoogbjlokegaa.nestedNumbers
open Go.RowKit Fm Nt
set_option linter.unusedVariables false
set_option maxHeartbeats 4000000

theorem newA (w : World) : Calls Try.prog 15 #[.pointer none, .int .i64 0, .int .i64 4] w fun e w' => e = .returned (.tuple #[.pointer none, .int .i64 1]) ∧ w = w' := by
  go_enter Try.func15, Try.ntmps15
  go_wp2_with fail
  go_ret2
  exact ⟨rfl, rfl⟩
theorem newB (w : World) (g : Nat) : Calls Try.prog 15 #[.pointer (some ⟨g, 0, none⟩), .int .i64 4, .int .i64 4] w fun e w' => e = .returned (.tuple #[.pointer none, .int .i64 1]) ∧ w = w' := by
  go_enter Try.func15, Try.ntmps15
  go_wp2_with fail
  go_ret2
  exact ⟨rfl, rfl⟩
theorem newC (w : World) (g : Nat) : Calls Try.prog 15 #[.pointer (some ⟨g, 0, none⟩), .int .i64 0, .int .i64 0] w fun e w' => e = .returned (.tuple #[.pointer none, .int .i64 1]) ∧ w = w' := by
  go_enter Try.func15, Try.ntmps15
  go_wp2_with fail
  go_ret2
  exact ⟨rfl, rfl⟩
theorem newD (w : World) (g : Nat) : Calls Try.prog 15 #[.pointer (some ⟨g, 0, none⟩), .int .i64 0, .int .i64 65] w fun e w' => e = .returned (.tuple #[.pointer none, .int .i64 1]) ∧ w = w' := by
  go_enter Try.func15, Try.ntmps15
  go_wp2_with fail
  go_ret2
  exact ⟨rfl, rfl⟩
theorem newF (w : World) (g : Nat) (s : Pl) (hP : Pool w g s) (hok : s.Ok) (hr : promR s 2 4 = 24) : Calls Try.prog 15 #[.pointer (some ⟨g, 0, none⟩), .int .i64 2, .int .i64 4] w fun e w' => e = .returned (.tuple #[.pointer none, .int .i64 24]) ∧ Pool w' g s ∧ Fr (· = g) w w' := by
  have hp := promise_any w g s 2 4 hP hok (by omega) (by omega)
  have e : s.promise 2 4 = s := by rw [Pl.promise, if_neg (by rw [hr]; omega)]
  rw [hr, e] at hp
  have Hp := Lib.hid hp
  clear hp e hr
  go_enter Try.func15, Try.ntmps15
  go_wp2_with fail
  refine (Hp.out).mono ?_
  rintro e w1 ⟨rfl, hP1, f1⟩
  go_wp2_with fail
  go_ret2
  exact ⟨rfl, hP1, f1⟩
theorem cnt_all {p : Nat → Bool} : ∀ {k : Nat}, (∀ j, j < k → p j = true) → cnt p k = k := by
  intro k
  induction k with
  | zero => intro _; rfl
  | succ k ih =>
    intro h
    rw [cnt, ih (fun j hj => h j (by omega)), if_pos (h k (by omega))]
structure NS (s : Pl) (t : Ts) (k : Nat) : Prop where
  I : TInv s t
  n : t.n = 64
  o : t.o = 2
  fr : ∀ j, j < 64 → (t.fr j = -1 ↔ j < 64 - k)
  ow : ∀ f, 16 ≤ f → f < 256 → (s.own f = -1 ↔ 16 + k ≤ f)
theorem NS.next {s : Pl} {t : Ts} {k : Nat} (h : NS s t k) (hk : k < 64) : mapE s t ((63 - k : Nat) : Int) = 0 ∧ mapV s t ((63 - k : Nat) : Int) = 16 + k ∧ NS (mapS s t ((63 - k : Nat) : Int)) (t.map s ((63 - k : Nat) : Int)) (k + 1) := by
  have hI := h.I.map ((63 - k : Nat) : Int)
  obtain ⟨f, f1, f2, f3, f4, e1, e2, e3, e4⟩ := h.I.mapNew (k := 63 - k) (by rw [h.n]; omega) ((h.fr _ (by omega)).2 (by omega))
  have hf : f = 16 + k := by
    have h1 := (h.ow f f1 f2).1 f3
    obtain ⟨_, _, _, hnf⟩ := takeN_spec f4
    rcases Nat.lt_or_ge (16 + k) f with h2 | h2
    · exact absurd ((h.ow (16 + k) (by omega) (by omega)).2 (by omega)) (hnf (16 + k) (by omega) h2)
    · omega
  refine ⟨e1, by rw [e2, hf]; omega, hI, ?_, ?_, fun j hj => ?_, fun g hg1 hg2 => ?_⟩
  · rw [e4]; exact h.n
  · rw [e4]; exact h.o
  · rw [e4]
    show updI t.fr (63 - k) f j = -1 ↔ _
    unfold updI
    split
    · constructor <;> intro _ <;> omega
    · rw [h.fr j hj]; omega
  · rw [e3]
    show updI s.own f t.o g = -1 ↔ _
    unfold updI
    split
    · rw [h.o]; constructor <;> intro _ <;> omega
    · rw [h.ow g hg1 hg2]; omega
theorem f176 : cnt (fun f => decide (80 ≤ f)) 256 = 176 := by decide +kernel
theorem NS.last {s : Pl} {t : Ts} (h : NS s t 64) : unmapE t 9 = 0 ∧ (mapN t t.n).length = 64 ∧ freeN (unmapS s t 9) 256 = 177 ∧ promV s 2 = 64 := by
  obtain ⟨f, hf, f1, f2, f3, e1, e2, _⟩ := h.I.unmapOld (k := 9) (by rw [h.n]; omega) (fun e => by have := (h.fr 9 (by omega)).1 e; omega)
  refine ⟨e1, ?_, ?_, ?_⟩
  · rw [mapN_len, h.n]
    refine cnt_all fun j hj => ?_
    have := (h.fr j hj)
    simp
    rw [this]; omega
  · rw [freeN_eq]
    have e2 : unmapS s t 9 = s.setOwn f (-1) := e2
    rw [e2, fN_back f1 f2 (by rw [f3, h.o]; omega)]
    have : fN s 256 = 176 := by
      rw [← f176]
      refine cnt_congr fun j hj => ?_
      by_cases h16 : 16 ≤ j
      · have := h.ow j h16 hj
        rw [Bool.eq_iff_iff]
        simp [h16]
        rw [this]
      · simp [h16]; omega
    omega
  · have := h.I.pr
    rw [h.o, h.n] at this
    have e : s.prom 2 = 64 := this
    have hO : isO 2 = true := rfl
    rw [promV, if_pos hO]
    show max (s.prom 2) 0 = 64
    rw [e]; omega
def s1 : Pl := Pl.new.promise 2 64
theorem init : NS s1 (Ts.new 64 2) 0 := by
  have hr : promR Pl.new 2 64 = 0 := promR_new (n := 64) (by omega) (by omega) (by omega)
  refine ⟨TInv.new (o := 2) (n := 64) (by omega) (by omega) (by omega) (by omega) PInv.new rfl hr, rfl, rfl, fun j hj => by simp [Ts.new]; omega, fun f h1 h2 => ?_⟩
  have : s1 = Pl.new.setProm 2 64 := by
    show Pl.new.promise 2 64 = _
    rw [Pl.promise, if_pos hr]; rfl
  rw [this]
  constructor
  · intro _; omega
  · intro _; rfl
theorem r24 : promR s1 2 4 = 24 := by decide +kernel
set_option maxRecDepth 100000 in
theorem walk (w : World) : Calls Try.prog 5 #[] w fun e w' => e = .returned (.bool true) ∧ Fr (fun _ => False) w w' := by
  go_enter Try.func5, Try.ntmps5
  go_wp2_with fail
  refine (Fm.new_any w).mono ?_
  rintro e w1 ⟨rfl, hP, f1⟩
  go_wp2_with fail
  refine (newA _).mono ?_
  rintro e w' ⟨rfl, rfl⟩
  go_wp2_with fail
  refine (newB _ _).mono ?_
  rintro e w' ⟨rfl, rfl⟩
  go_wp2_with fail
  refine (newC _ _).mono ?_
  rintro e w' ⟨rfl, rfl⟩
  go_wp2_with fail
  refine (newD _ _).mono ?_
  rintro e w' ⟨rfl, rfl⟩
  go_wp2_with fail
  refine (new_yes w1 w.heap.size Pl.new 2 64 hP new_ok (by omega) (by omega) (by omega) (by omega) (promR_new (by omega) (by omega) (by omega))).mono ?_
  rintro e w2 ⟨a, rfl, ha, hT, hP2, hbl, f2⟩
  go_wp2_with fail
  refine (newF w2 w.heap.size s1 hP2 init.I.pi.ok r24).mono ?_
  rintro e w3 ⟨rfl, hP3, f3⟩
  have hT3 := hT.fr f3 (fun k hk e => by have := hbl k hk; have := hP.lt; omega)
  have fr3 : Fr (fun _ => False) w w3 := (f1.trans (S := fun _ => False) f2 (fun i hi e => by omega)).trans f3 (fun i hi e => by omega)
  rw [← ha] at hP3
  have hbl2 : ∀ k, a.own k → w.heap.size ≤ k := fun k hk => by have := hbl k hk; have := f1.size; omega
  have Hbl := Lib.hid hbl2
  have hgp : w.heap.size ≤ a.gp := by omega
  have Ha := Lib.hid ha
  have N0 := init
  generalize s1 = s at *
  generalize Ts.new 64 2 = t at *
  have hm := map_any w3 a s t (-1) hP3 hT3 N0.I.pi.ok
  obtain ⟨m1, m2, m3, m4⟩ := mapOut (s := s) (t := t) (p := -1) rfl
  rw [m1, m2, m3, m4] at hm
  have Hm := Lib.hid hm
  have hum := fun W (h1 : Pool W a.gp s) (h2 : Tab W a t) => unmap_any W a s t 5 h1 h2 N0.I.tok
  obtain ⟨u1, u2, u3⟩ := unmapOut (s := s) (t := t) (p := 5) (by rw [show (5 : Int) = ((5 : Nat) : Int) from rfl, frB_iff t (by rw [N0.n]; omega), (N0.fr 5 (by omega)).2 (by omega)]; rfl)
  rw [u1, u2, u3] at hum
  have Hum := Lib.hid hum
  clear hm m1 m2 m3 m4 hum u1 u2 u3 hbl hbl2 hT hP hP2 f1 f2 f3 hT3 hP3 ha
  go_wp2_with fail
  refine (Hm.out).mono ?_
  rintro e w4 ⟨rfl, hP4, hT4, f4⟩
  have fr4 := fr3.trans (S := fun _ => False) f4 (fun i hi e => by have := Hbl.out a.gf (.inr (.inl rfl)); omega)
  go_wp2_with fail
  refine (Hum.out _ hP4 hT4).mono ?_
  rintro e w5 ⟨rfl, hP5, hT5, f5⟩
  have fr5 := fr4.trans (S := fun _ => False) f5 (fun i hi e => by
    rcases e with e | e
    · omega
    · have := Hbl.out i e; omega)
  have hS : ∃ s t, Pool w5 a.gp s ∧ Tab w5 a t ∧ NS s t 0 := ⟨s, t, hP5, hT5, N0⟩
  clear hP4 hT4 hP5 hT5 N0 fr3 fr4 f4 f5
  go_wp2_with fail
  go_loopw [17] (fun i wr => ∃ k : Nat, k ≤ 64 ∧ i = .int .i64 k ∧ (∃ s t, Pool wr a.gp s ∧ Tab wr a t ∧ NS s t k) ∧ Fr (fun _ => False) w wr) (fun i _ => 64 - (intOf i).toNat)
  case atStart => exact ⟨0, by omega, rfl, hS, fr5⟩
  case round =>
    clear hS fr5
    obtain ⟨k, hk, rfl, ⟨s, t, hP, hT, N⟩, fr⟩ := hrel
    by_cases hlt : k < 64
    · obtain ⟨e1, e2, N2⟩ := N.next hlt
      have hm := map_any wr a s t ((63 - k : Nat) : Int) hP hT N.I.pi.ok
      rw [e1, e2] at hm
      have e3 : ((63 - k : Nat) : Int) = 63 - (k : Int) := by omega
      rw [e3] at hm N2
      have Hm := Lib.hid hm
      have N2 := Lib.hid N2
      clear hm e1 e2 e3
      go_wp2_with fail
      refine (Hm.out).mono ?_
      rintro e w4 ⟨rfl, hP4, hT4, f4⟩
      have fr4 := fr.trans (S := fun _ => False) f4 (fun i hi e => by have := Hbl.out a.gf (.inr (.inl rfl)); omega)
      go_wp2_with fail
      go_roundw
      case rel => exact ⟨k + 1, by omega, by go_num, ⟨_, _, hP4, hT4, N2.out⟩, fr4⟩
      case measure => simp [intOf]; omega
    · have e : k = 64 := by omega
      subst e
      obtain ⟨e1, e2, e3, e4⟩ := N.last
      have hpm := promised_any wr a.gp s 2 hP
      rw [e4] at hpm
      have Hpm := Lib.hid hpm
      have hmp := mapped_any wr a t hT 0 (by omega)
      have Hmp := Lib.hid hmp
      have hum := fun W (h1 : Pool W a.gp s) (h2 : Tab W a t) => unmap_any W a s t 9 h1 h2 N.I.tok
      rw [e1] at hum
      have Hum := Lib.hid hum
      have hfr := fun W (h : Pool W a.gp (unmapS s t 9)) => free_any W a.gp _ h
      rw [e3] at hfr
      have Hfr := Lib.hid hfr
      have E2 := Lib.hid e2
      have Hb2 := Lib.hid (fun k (hk : k = a.gp ∨ a.own k) => show w.heap.size ≤ k from by
        rcases hk with rfl | hk
        · exact hgp
        · exact Hbl.out k hk)
      rw [← Ha.out] at *
      clear hpm hmp hum hfr e1 e2 e3 e4
      go_wp2_with fail
      refine (Hpm.out).mono ?_
      rintro e w' ⟨rfl, rfl⟩
      go_wp2_with fail
      refine (Hmp.out).mono ?_
      rintro e w6 ⟨v6, rfl, ho6, f6, k6⟩
      obtain ⟨A6, cap6, rfl⟩ := ownI_any ho6
      rw [E2.out]
      clear ho6 k6
      have hP6 := hP.fr f6 (fun e => e)
      have hT6 := hT.fr f6 (fun _ _ e => e)
      go_wp2_with fail
      refine (Hum.out _ hP6 hT6).mono ?_
      rintro e w7 ⟨rfl, hP7, hT7, f7⟩
      have fr7 := (fr.tr f6).trans (S := fun _ => False) f7 (fun i hi e => by have := Hb2.out i e; omega)
      go_wp2_with fail
      refine (Hfr.out _ hP7).mono ?_
      rintro e w' ⟨rfl, rfl⟩
      go_wp2_with fail
      refine (known_any _).mono ?_
      rintro e w8 ⟨rfl, f8⟩
      go_wp2_with fail
      go_ret
      exact ⟨rfl, fr7.tr f8⟩
end Go.Proofs.Ytcfoogbjlokegaa.nestedNumbers
