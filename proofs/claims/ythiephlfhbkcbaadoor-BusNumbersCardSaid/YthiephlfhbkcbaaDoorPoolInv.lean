/- The host's memory: what holds of a pool through any calls. Plain laws. -/
import Derived.Test.YthiephlfhbkcbaaDoorFramesG
namespace Go.Proofs.YthiephlfhbkcbaaDoor.Fm
open Go.RowKit
set_option linter.unusedVariables false

/-- how many below k -/
def cnt (p : Nat → Bool) : Nat → Nat
  | 0 => 0
  | k + 1 => cnt p k + if p k then 1 else 0
theorem cnt_le (p : Nat → Bool) (k : Nat) : cnt p k ≤ k := by
  induction k with
  | zero => simp [cnt]
  | succ k ih => simp only [cnt]; split <;> omega
theorem cnt_congr {p q : Nat → Bool} : ∀ {k : Nat}, (∀ j, j < k → p j = q j) → cnt p k = cnt q k := by
  intro k
  induction k with
  | zero => intro _; rfl
  | succ k ih =>
    intro h
    rw [cnt, cnt, ih (fun j hj => h j (by omega)), h k (by omega)]
theorem cnt_gain {p q : Nat → Bool} {f : Nat} (hp : p f = false) (hq : q f = true) (ho : ∀ j, j ≠ f → q j = p j) : ∀ {k : Nat}, f < k → cnt q k = cnt p k + 1 := by
  intro k
  induction k with
  | zero => intro h; omega
  | succ k ih =>
    intro h
    rw [cnt, cnt]
    by_cases e : f = k
    · subst e
      rw [cnt_congr (fun j hj => ho j (by omega)), hp, hq]
      simp
    · rw [ih (by omega), ho k (fun e2 => e e2.symm)]
      omega
theorem cnt_lt {p : Nat → Bool} {f : Nat} (hp : p f = false) : ∀ {k : Nat}, f < k → cnt p k < k := by
  intro k
  induction k with
  | zero => intro h; omega
  | succ k ih =>
    intro h
    rw [cnt]
    by_cases e : f = k
    · subst e
      rw [hp]
      have := cnt_le p f
      simp
      omega
    · have := ih (by omega)
      split <;> omega
theorem cnt_pos {p : Nat → Bool} : ∀ {k : Nat}, 0 < cnt p k → ∃ f, f < k ∧ p f = true := by
  intro k
  induction k with
  | zero => intro h; simp [cnt] at h
  | succ k ih =>
    intro h
    by_cases e : p k = true
    · exact ⟨k, by omega, e⟩
    · rw [cnt, if_neg e] at h
      obtain ⟨f, h1, h2⟩ := ih (by omega)
      exact ⟨f, by omega, h2⟩
theorem cnt_pos_of {p : Nat → Bool} {f : Nat} (hp : p f = true) : ∀ {k : Nat}, f < k → 0 < cnt p k := by
  intro k
  induction k with
  | zero => intro h; omega
  | succ k ih =>
    intro h
    rw [cnt]
    by_cases e : f = k
    · subst e; rw [hp]; simp
    · have := ih (by omega); omega
theorem filter_len (p : Nat → Bool) (k : Nat) : ((List.range k).filter p).length = cnt p k := by
  induction k with
  | zero => rfl
  | succ k ih =>
    rw [List.range_succ, List.filter_append, List.length_append, ih, cnt]
    congr 1
    by_cases e : p k = true
    · simp [e]
    · simp [e]

/-- how many an owner holds; how many nobody does -/
def hN (s : Pl) (o : Int) (k : Nat) : Nat := cnt (fun f => s.own f == o) k
def fN (s : Pl) (k : Nat) : Nat := cnt (fun f => decide (16 ≤ f) && s.own f == -1) k
theorem heldN_len (s : Pl) (o : Int) (k : Nat) : (heldN s o k).length = hN s o k := by
  unfold heldN hN
  rw [List.length_map, filter_len]
theorem held_len_eq {s : Pl} {o : Int} (h : isO o = true) : (held s o).length = hN s o 256 := by
  unfold held
  rw [if_pos h, heldN_len]
theorem freeN_eq (s : Pl) (k : Nat) : freeN s k = fN s k := by
  unfold fN
  induction k with
  | zero => rfl
  | succ k ih =>
    rw [freeN, cnt, ih]
    congr 1
    by_cases e : 16 ≤ k ∧ s.own k = -1
    · rw [if_pos e]; simp [e.1, e.2]
    · rw [if_neg e]
      by_cases e1 : 16 ≤ k
      · have : ¬ s.own k = -1 := fun h => e ⟨e1, h⟩
        simp [this]
      · simp [e1]

/-- through any calls -/
structure PInv (s : Pl) : Prop where
  ok : s.Ok
  low : ∀ f, f < 16 → s.own f = -1
  held : ∀ o : Nat, o < 4 → (hN s o 256 : Int) ≤ max (s.prom o) 0
  sum : sumP s 4 ≤ 240
theorem all_sum {s : Pl} (h : s.Ok) (hl : ∀ f, f < 16 → s.own f = -1) : ∀ k, k ≤ 256 → fN s k + (hN s 0 k + hN s 1 k + hN s 2 k + hN s 3 k) + min k 16 = k := by
  intro k
  induction k with
  | zero => intro _; rfl
  | succ k ih =>
    intro hk
    have := ih (by omega)
    obtain ⟨h1, h2⟩ := h.own k (by omega)
    unfold fN hN at *
    simp only [cnt]
    by_cases e : k < 16
    · have e2 := hl k e
      simp [show ¬ 16 ≤ k by omega, e2]
      omega
    · rcases (by omega : s.own k = -1 ∨ s.own k = 0 ∨ s.own k = 1 ∨ s.own k = 2 ∨ s.own k = 3) with e1 | e1 | e1 | e1 | e1 <;> simp [show 16 ≤ k by omega, e1] <;> omega
theorem sumP4 (s : Pl) : sumP s 4 = max (s.prom 0) 0 + max (s.prom 1) 0 + max (s.prom 2) 0 + max (s.prom 3) 0 := by
  simp [sumP]
theorem PInv.total {s : Pl} (h : PInv s) : fN s 256 + (hN s 0 256 + hN s 1 256 + hN s 2 256 + hN s 3 256) = 240 := by
  have := all_sum h.ok h.low 256 (by omega)
  omega
theorem PInv.new : PInv Pl.new := by
  refine ⟨new_ok, fun f _ => rfl, fun o ho => ?_, by decide⟩
  have : hN Pl.new o 256 = 0 := by
    rcases Nat.eq_zero_or_pos (hN Pl.new o 256) with h | h
    · exact h
    · obtain ⟨f, _, hf⟩ := cnt_pos h
      simp [Pl.new] at hf
  rw [this]
  show ((0 : Nat) : Int) ≤ max (-1) 0
  omega
theorem PInv.room {s : Pl} (h : PInv s) {o : Nat} (ho : o < 4) (hr : (hN s o 256 : Int) < s.prom o) : 0 < fN s 256 := by
  have ht := h.total
  have h0 := h.held 0 (by omega)
  have h1 := h.held 1 (by omega)
  have h2 := h.held 2 (by omega)
  have h3 := h.held 3 (by omega)
  have hs := h.sum
  rw [sumP4] at hs
  rcases (by omega : o = 0 ∨ o = 1 ∨ o = 2 ∨ o = 3) with rfl | rfl | rfl | rfl <;> simp at * <;> omega
theorem takeN_of_room {s : Pl} (h : 0 < fN s 256) : ∃ f, takeN s = some f := by
  obtain ⟨f, hf, hp⟩ := cnt_pos h
  cases ht : takeN s with
  | some g => exact ⟨g, rfl⟩
  | none =>
    unfold takeN at ht
    rw [List.find?_eq_none] at ht
    have := ht f (by simpa using hf)
    simp at this hp
    exact absurd hp.2 (this hp.1)
/-- a take, when it is let -/
theorem PInv.takes {s : Pl} (h : PInv s) {o : Nat} (ho : o < 4) (hr : (hN s o 256 : Int) < s.prom o) : ∃ f, takeF s o = some f ∧ takeN s = some f ∧ 16 ≤ f ∧ f < 256 ∧ s.own f = -1 ∧ takeE s o = 0 ∧ takeV s o = f ∧ s.take o = (s.setOwn f o).wipe f := by
  obtain ⟨f, hf⟩ := takeN_of_room (h.room ho hr)
  have hO : isO (o : Int) = true := by simp [isO]; omega
  have hm : mayTake s o = true := by
    unfold mayTake
    rw [held_len_eq hO, hO]
    simpa using hr
  have e : takeF s o = some f := by rw [takeF, if_pos hm, hf]
  obtain ⟨h1, h2, h3, _⟩ := takeN_spec hf
  refine ⟨f, e, hf, h1, h2, h3, by simp [takeE, e, hO], by simp [takeV, e], by simp [Pl.take, e]⟩
theorem take_not {s : Pl} {o : Nat} (ho : o < 4) (hr : s.prom o ≤ (hN s o 256 : Int)) : takeE s o = 13 ∧ takeV s o = 0 ∧ s.take o = s := by
  have hO : isO (o : Int) = true := by simp [isO]; omega
  have hm : mayTake s o = false := by
    unfold mayTake
    rw [held_len_eq hO, hO]
    simpa using hr
  have e : takeF s o = none := by rw [takeF, if_neg (by simp [hm])]
  exact ⟨by simp [takeE, e, hO], by simp [takeV, e], by simp [Pl.take, e]⟩
theorem hN_setOwn {s : Pl} {f : Nat} (hf : f < 256) (ho : s.own f = -1) (o q : Nat) : hN ((s.setOwn f o).wipe f) q 256 = if q = o then hN s q 256 + 1 else hN s q 256 := by
  unfold hN
  by_cases e : q = o
  · subst e
    rw [if_pos rfl]
    refine cnt_gain (f := f) ?_ ?_ (fun j hj => ?_) hf
    · rw [ho]; simp
    · simp [Pl.wipe, Pl.setOwn, updI]
    · simp [Pl.wipe, Pl.setOwn, updI, hj]
  · rw [if_neg e]
    refine cnt_congr fun j hj => ?_
    by_cases e2 : j = f
    · subst e2
      rw [ho]
      have h1 : ((o : Int) == (q : Int)) = false := by simp; omega
      have h2 : ((-1 : Int) == (q : Int)) = false := by simp
      simp only [Pl.wipe, Pl.setOwn, updI, if_true]
      rw [h1, h2]
    · simp [Pl.wipe, Pl.setOwn, updI, e2]
theorem PInv.take {s : Pl} (h : PInv s) (o : Int) : PInv (s.take o) := by
  have hok := take_ok h.ok o
  by_cases hO : isO o = true
  · obtain ⟨h0, h1⟩ : 0 ≤ o ∧ o < 4 := by simpa [isO] using hO
    obtain ⟨m, rfl⟩ : ∃ k : Nat, o = k := ⟨o.toNat, by omega⟩
    have hm : m < 4 := by omega
    rcases Int.lt_or_le (hN s m 256 : Int) (s.prom m) with hr | hr
    · obtain ⟨f, _, _, f1, f2, f3, _, _, e⟩ := h.takes hm hr
      rw [e] at hok ⊢
      refine ⟨hok, fun j hj => ?_, fun q hq => ?_, h.sum⟩
      · simp only [Pl.wipe, Pl.setOwn, updI]
        rw [if_neg (by omega)]
        exact h.low j hj
      · rw [hN_setOwn f2 f3]
        have := h.held q hq
        show _ ≤ max (s.prom q) 0
        split
        · rename_i e; subst e; omega
        · exact this
    · rw [(take_not hm hr).2.2]; exact h
  · have : s.take o = s := by
      have hm : mayTake s o = false := by simp [mayTake, hO]
      simp [Pl.take, takeF, hm]
    rw [this]; exact h
theorem hN_mono {s s' : Pl} (q : Int) (hs : ∀ f, f < 256 → s'.own f = s.own f ∨ s'.own f = -1) (hq : 0 ≤ q) : ∀ k, k ≤ 256 → hN s' q k ≤ hN s q k := by
  intro k
  induction k with
  | zero => intro _; exact Nat.le_refl _
  | succ k ih =>
    intro hk
    have := ih (by omega)
    unfold hN at *
    rw [cnt, cnt]
    rcases hs k (by omega) with e | e
    · rw [e]; omega
    · rw [e]
      rw [if_neg (by simp; omega)]
      omega
theorem PInv.give {s : Pl} (h : PInv s) (o : Int) (l : List Int) : PInv (s.give o l) := by
  have hok := give_ok h.ok o l
  unfold Pl.give at *
  split
  · rename_i hg
    rw [if_pos hg] at hok
    refine ⟨hok, fun j hj => ?_, fun q hq => ?_, h.sum⟩
    · unfold Pl.giveTo
      dsimp only
      split
      · rfl
      · exact h.low j hj
    · have := hN_mono (s := s) (s' := s.giveTo l l.length) q (fun f _ => by
        unfold Pl.giveTo
        dsimp only
        split
        · exact .inr rfl
        · exact .inl rfl) (by omega) 256 (by omega)
      have h2 := h.held q hq
      show _ ≤ max (s.prom q) 0
      omega
  · exact h
theorem PInv.promise {s : Pl} (h : PInv s) (o n : Int) : PInv (s.promise o n) := by
  have hok := promise_ok h.ok o n
  unfold Pl.promise at *
  split
  · rename_i hr
    rw [if_pos hr] at hok
    unfold promR at hr
    split at hr
    · omega
    · rename_i hq
      split at hr
      · omega
      · rename_i hp
        split at hr
        · omega
        · rename_i hs
          have hp : s.prom o.toNat = -1 := by simpa using hp
          simp [isO] at hq
          obtain ⟨⟨ho0, ho1⟩, hn0, hn1⟩ := hq
          obtain ⟨m, rfl⟩ : ∃ k : Nat, o = k := ⟨o.toNat, by omega⟩
          have hm : m < 4 := by omega
          rw [show (m : Int).toNat = m from rfl] at *
          refine ⟨hok, h.low, fun q hq => ?_, ?_⟩
          · have := h.held q hq
            show (hN s q 256 : Int) ≤ max (updI s.prom m n q) 0
            unfold updI
            split
            · rename_i e; subst e; rw [hp] at this; omega
            · exact this
          · rw [sumP4] at *
            unfold Pl.setProm updI
            dsimp only
            rcases (by omega : m = 0 ∨ m = 1 ∨ m = 2 ∨ m = 3) with rfl | rfl | rfl | rfl <;> simp <;> omega
  · exact h
theorem PInv.putB {s : Pl} (h : PInv s) (f a b : Int) : PInv (s.putB f a b) := by
  unfold Pl.putB
  split
  · exact ⟨⟨h.ok.own, h.ok.prom⟩, h.low, h.held, h.sum⟩
  · exact h
end Go.Proofs.YthiephlfhbkcbaaDoor.Fm
