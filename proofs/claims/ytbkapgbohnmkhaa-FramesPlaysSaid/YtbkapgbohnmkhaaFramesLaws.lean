/- The statements of layer 5: their own helpers; takes and gives, plain laws. -/
import Derived.Test.YtbkapgbohnmkhaaPoolInv
import Derived.Test.YtbkapgbohnmkhaaBook
namespace Go.Proofs.Ytbkapgbohnmkhaa.Fm
open Go.RowKit
set_option linter.unusedVariables false
set_option maxHeartbeats 4000000

theorem sum_new0 : sumP Pl.new 4 = 0 := by decide
theorem promR_new0 {o : Int} {n : Nat} (h0 : 0 ≤ o) (h1 : o < 4) (hn : n ≤ 64) : promR Pl.new o n = 0 := by
  unfold promR
  rw [sum_new0]
  have hb : isO o = true := by simp [isO, h0, h1]
  rw [if_neg (by rw [hb]; simp; omega), if_neg (by simp [Pl.new]), if_neg (by omega)]
theorem promise_new {o n : Nat} (h1 : o < 4) (hn : n ≤ 64) : Pl.new.promise o n = Pl.new.setProm o n := by
  rw [Pl.promise, if_pos (promR_new0 (by omega) (by omega) hn)]; rfl
def k1 : Pl := Pl.new.promise 1 2
def k2 : Pl := k1.take 1
def k3 : Pl := k2.take 1
theorem kR : promR Pl.new 1 2 = 0 := by decide +kernel
theorem kV1 : takeV k1 1 = 16 := by decide +kernel
theorem kE1 : takeE k1 1 = 0 := by decide +kernel
theorem kV2 : takeV k2 1 = 17 := by decide +kernel
theorem kE2 : takeE k2 1 = 0 := by decide +kernel
theorem kE3 : takeE k3 1 = 13 := by decide +kernel
set_option maxRecDepth 100000 in
theorem known_any (w : World) : Calls Try.prog 19 #[] w fun e w' => e = .returned (.bool true) ∧ Fr (fun _ => False) w w' := by
  have o1 : k1.Ok := promise_ok new_ok 1 2
  have o2 : k2.Ok := take_ok o1 1
  have o3 : k3.Ok := take_ok o2 1
  have hp := fun W g (h : Pool W g Pl.new) => promise_any W g Pl.new 1 2 h new_ok (by omega) (by omega)
  rw [kR] at hp
  have Hp := Lib.hid hp
  have h1 := fun W g (h : Pool W g k1) => take_any W g k1 1 h o1
  rw [kV1, kE1] at h1
  have H1 := Lib.hid h1
  have h2 := fun W g (h : Pool W g k2) => take_any W g k2 1 h o2
  rw [kV2, kE2] at h2
  have H2 := Lib.hid h2
  have h3 := fun W g (h : Pool W g k3) => take_any W g k3 1 h o3
  rw [kE3] at h3
  have H3 := Lib.hid h3
  clear hp h1 h2 h3
  go_enter Try.func19, Try.ntmps19
  go_wp2_with fail
  refine (Fm.new_any w).mono ?_
  rintro e w1 ⟨rfl, hP, f1⟩
  go_wp2_with fail
  refine (Hp.out _ _ hP).mono ?_
  rintro e w2 ⟨rfl, hP2, f2⟩
  have fr2 := f1.trans (S := fun _ => False) f2 (fun i hi e => by omega)
  go_wp2_with fail
  refine (H1.out _ _ hP2).mono ?_
  rintro e w3 ⟨rfl, hP3, f3⟩
  have fr3 := fr2.trans (S := fun _ => False) f3 (fun i hi e => by omega)
  go_wp2_with fail
  refine (H2.out _ _ hP3).mono ?_
  rintro e w4 ⟨rfl, hP4, f4⟩
  have fr4 := fr3.trans (S := fun _ => False) f4 (fun i hi e => by omega)
  go_wp2_with fail
  refine (H3.out _ _ hP4).mono ?_
  rintro e w5 ⟨rfl, hP5, f5⟩
  have fr5 := fr4.trans (S := fun _ => False) f5 (fun i hi e => by omega)
  go_wp2_with fail
  go_ret
  exact ⟨rfl, fr5⟩

theorem cnt_mono {p q : Nat → Bool} : ∀ {k : Nat}, (∀ j, j < k → p j = true → q j = true) → cnt p k ≤ cnt q k := by
  intro k
  induction k with
  | zero => intro _; exact Nat.le_refl _
  | succ k ih =>
    intro h
    rw [cnt, cnt]
    have := ih (fun j hj => h j (by omega))
    by_cases e : p k = true
    · rw [if_pos e, if_pos (h k (by omega) e)]; omega
    · rw [if_neg e]; omega
def inR (N : Nat) (f : Nat) : Bool := decide (16 ≤ f ∧ f < 16 + N)
theorem cnt_inR (N : Nat) : ∀ k, cnt (inR N) k = min (k - 16) N := by
  intro k
  induction k with
  | zero => simp [cnt]
  | succ k ih =>
    rw [cnt, ih]
    unfold inR
    by_cases h : 16 ≤ k ∧ k < 16 + N
    · rw [if_pos (by simpa using h)]; omega
    · rw [if_neg (by simpa using h)]; omega
/-- one owner, and frames from 16 on -/
structure LS (s : Pl) (o N : Nat) : Prop where
  I : PInv s
  ho : o < 4
  nN : N ≤ 64
  pr : s.prom o = N
  ow : ∀ f, f < 256 → s.own f = -1 ∨ (s.own f = o ∧ 16 ≤ f ∧ f < 16 + N)
theorem LS.new {o N : Nat} (ho : o < 4) (hN : N ≤ 64) : LS (Pl.new.promise o N) o N := by
  have hI := PInv.new.promise o N
  rw [promise_new ho hN] at hI ⊢
  exact ⟨hI, ho, hN, updI_same _ _ _, fun f _ => .inl rfl⟩
theorem LS.room {s : Pl} {o N k : Nat} (h : LS s o N) (hk : k < N) (hf : s.own (16 + k) = -1) : (hN s o 256 : Int) < s.prom o := by
  have h2 := h.nN
  have h1 : hN s o 256 ≤ cnt (fun f => inR N f && f != 16 + k) 256 := cnt_mono fun j hj e => by
    have e : s.own j = o := by simpa using e
    rcases h.ow j hj with e2 | ⟨_, e3, e4⟩
    · omega
    · have : j ≠ 16 + k := by rintro rfl; omega
      simp [inR, e3, e4, this]
  have h3 : cnt (inR N) 256 = cnt (fun f => inR N f && f != 16 + k) 256 + 1 := cnt_gain (f := 16 + k) (by simp) (by simp [inR]; omega) (fun j hj => by simp [hj]) (by omega)
  rw [cnt_inR] at h3
  have := h.pr
  omega
theorem LS.take {s : Pl} {o N k : Nat} (h : LS s o N) (hk : k < N) (hf : s.own (16 + k) = -1) (hl : ∀ j, 16 ≤ j → j < 16 + k → s.own j ≠ -1) :
    takeE s o = 0 ∧ takeV s o = ((16 + k : Nat) : Int) ∧ s.take o = (s.setOwn (16 + k) o).wipe (16 + k) ∧ LS (s.take o) o N := by
  have h2 := h.nN
  obtain ⟨f, _, t1, f1, f2, f3, e1, e2, e3⟩ := h.I.takes h.ho (h.room hk hf)
  have hfk : f = 16 + k := by
    rw [takeN_some hl (by omega) (by omega) hf] at t1
    injection t1 with t1
    exact t1.symm
  subst hfk
  have hI := h.I.take o
  refine ⟨e1, e2, e3, ?_⟩
  rw [e3] at hI ⊢
  refine ⟨hI, h.ho, h.nN, h.pr, fun j hj => ?_⟩
  show updI s.own (16 + k) o j = -1 ∨ updI s.own (16 + k) o j = o ∧ _
  unfold updI
  split
  · rename_i e; subst e; exact .inr ⟨rfl, by omega, by omega⟩
  · exact h.ow j hj
theorem LS.full {s : Pl} {o N : Nat} (h : LS s o N) (hf : ∀ j, j < N → s.own (16 + j) = o) : takeE s o = 13 ∧ s.take o = s ∧ fN s 256 = 240 - N := by
  have h2 := h.nN
  have h1 : hN s o 256 = cnt (inR N) 256 := cnt_congr fun j hj => by
    rw [Bool.eq_iff_iff]
    simp [inR]
    constructor
    · intro e
      rcases h.ow j hj with e2 | ⟨_, e3, e4⟩
      · omega
      · exact ⟨e3, e4⟩
    · rintro ⟨e3, e4⟩
      have := hf (j - 16) (by omega)
      rw [show 16 + (j - 16) = j by omega] at this
      exact this
  rw [cnt_inR] at h1
  obtain ⟨e1, _, e2⟩ := take_not (s := s) h.ho (by have := h.pr; omega)
  refine ⟨e1, e2, ?_⟩
  have h4 : fN s 256 + cnt (inR N) 256 = 240 := by
    have : ∀ k, k ≤ 256 → fN s k + cnt (inR N) k = k - 16 := by
      intro k
      induction k with
      | zero => intro _; rfl
      | succ k ih =>
        intro hk
        have := ih (by omega)
        unfold fN at *
        rw [cnt, cnt]
        by_cases hr : 16 ≤ k ∧ k < 16 + N
        · have e := hf (k - 16) (by omega)
          rw [show 16 + (k - 16) = k by omega] at e
          have q1 : (decide (16 ≤ k) && s.own k == -1) = false := by simp [e]
          have q2 : inR N k = true := by simp [inR, hr.1, hr.2]
          rw [if_neg (by rw [q1]; exact Bool.false_ne_true), if_pos q2]
          omega
        · have q2 : inR N k = false := by simp [inR]; omega
          rcases h.ow k (by omega) with e | ⟨_, e3, e4⟩
          · by_cases h16 : 16 ≤ k
            · have q1 : (decide (16 ≤ k) && s.own k == -1) = true := by simp [h16, e]
              rw [if_pos q1, if_neg (by rw [q2]; exact Bool.false_ne_true)]; omega
            · have q1 : (decide (16 ≤ k) && s.own k == -1) = false := by simp [h16]
              rw [if_neg (by rw [q1]; exact Bool.false_ne_true), if_neg (by rw [q2]; exact Bool.false_ne_true)]; omega
          · exact absurd ⟨e3, e4⟩ hr
    exact this 256 (by omega)
  rw [cnt_inR] at h4
  omega
theorem giveOne {s : Pl} {o : Int} (ho : isO o = true) {f : Nat} (h1 : 16 ≤ f) (h2 : f < 256) (h3 : s.own f = o) : giveR s o [(f : Int)] = 0 ∧ s.give o [(f : Int)] = s.setOwn f (-1) := by
  have hr : giveR s o [(f : Int)] = 0 := by
    simp [giveR, ho, allOk, okAt, isF, hasI, h3]
    omega
  refine ⟨hr, ?_⟩
  rw [Pl.give, if_pos hr]
  unfold Pl.giveTo Pl.setOwn updI
  congr 1
  funext j
  have : hasI (List.take [(f : Int)].length [(f : Int)]) (j : Int) = decide (j = f) := by
    rw [Bool.eq_iff_iff]; simp [hasI]; omega
  rw [this]
  by_cases e : j = f <;> simp [e]
theorem LS.give {s : Pl} {o N k : Nat} (h : LS s o N) (hk : k < N) (hf : s.own (16 + k) = o) : giveR s o [((16 + k : Nat) : Int)] = 0 ∧ s.give o [((16 + k : Nat) : Int)] = s.setOwn (16 + k) (-1) ∧ LS (s.give o [((16 + k : Nat) : Int)]) o N := by
  have h2 := h.nN
  have ho := h.ho
  obtain ⟨e1, e2⟩ := giveOne (s := s) (o := o) (by simp [isO]; omega) (f := 16 + k) (by omega) (by omega) hf
  have hI := h.I.give o [((16 + k : Nat) : Int)]
  refine ⟨e1, e2, ?_⟩
  rw [e2] at hI ⊢
  refine ⟨hI, h.ho, h.nN, h.pr, fun j hj => ?_⟩
  show updI s.own (16 + k) (-1) j = -1 ∨ updI s.own (16 + k) (-1) j = o ∧ _
  unfold updI
  split
  · exact .inl rfl
  · exact h.ow j hj
theorem own_yes {s : Pl} {f : Nat} (h1 : 16 ≤ f) (h2 : f < 256) (h3 : 0 ≤ s.own f) : ownB s f = true ∧ ownV s f = s.own f := by
  have e : ownB s f = true := by
    have : ¬ s.own f = -1 := by omega
    simp [ownB, isF, this]
    omega
  exact ⟨e, by simp [ownV, e]⟩
theorem own_no {s : Pl} {f : Nat} (h3 : s.own f = -1) : ownB s f = false ∧ ownV s f = 0 := by
  have e : ownB s f = false := by simp [ownB, h3]
  exact ⟨e, by simp [ownV, e]⟩
/-- a give of one frame, its list just made -/
theorem give1 (w : World) (g : Nat) (s : Pl) (o f : Int) (h : Pool w g s) (hf0 : -9223372036854775808 ≤ f) (hf1 : f ≤ 9223372036854775807) :
    Calls Try.prog 17 #[.pointer (some ⟨g, 0, none⟩), .int .i64 o, .slice (some ⟨w.heap.size, 0, none⟩) 1 1] (w.alloc (.cells #[.int .i64 f] 3)) fun e w' => e = .returned (.int .i64 (giveR s o [f])) ∧ Pool w' g (s.give o [f]) ∧ Fr (· = g) w w' := by
  have hlt := h.lt
  refine (give_any (w.alloc (.cells #[.int .i64 f] 3)) g s o (w.heap.size + 1) 1 1 (some ⟨w.heap.size, 0, none⟩) [f] (h.alloc _) (intsAt_lit [f] (Blk.new _ _ _) (fun i hi => by
      have : i = 0 := by simpa using hi
      subst this
      exact wf_i64_mk (n := f) hf0 hf1)) (by simp) (fun _ b off e => by
      have : w.heap.size = b := by simpa using congrArg (fun x => x.map Addr.block) e
      omega) (by simp [maxLen]) (by omega)).mono ?_
  rintro e w' ⟨h1, h2, h3⟩
  exact ⟨h1, h2, ((Fr.refl _ w).alloc _).tr h3⟩
end Go.Proofs.Ytbkapgbohnmkhaa.Fm
