/- The second stage of paging: what holds of a table and its pool through any calls. Plain laws. -/
import Derived.Test.YthiephlfhbkcbaaDoorPoolInv
import Derived.Test.YthiephlfhbkcbaaDoorNestedF
namespace Go.Proofs.YthiephlfhbkcbaaDoor.Nt
open Go.RowKit Fm
set_option linter.unusedVariables false

/-- how many are mapped -/
def mN (t : Ts) (k : Nat) : Nat := cnt (fun p => t.fr p != -1) k
theorem mapN_len (t : Ts) (k : Nat) : (mapN t k).length = mN t k := by
  unfold mapN mN
  rw [List.length_map, filter_len]

structure TInv (s : Pl) (t : Ts) : Prop where
  pi : PInv s
  n0 : 1 ≤ t.n
  n1 : t.n ≤ 64
  o0 : 0 ≤ t.o
  o1 : t.o < 4
  pr : s.prom t.o.toNat = t.n
  at_ : ∀ k, k < t.n → t.fr k = -1 ∨ (16 ≤ t.fr k ∧ t.fr k < 256 ∧ s.own (t.fr k).toNat = t.o)
  inj : ∀ j k, j < t.n → k < t.n → t.fr j = t.fr k → t.fr j ≠ -1 → j = k
  cn : hN s t.o 256 = mN t t.n
  gd : ∀ k, k < t.n → t.gd k = true → ¬ t.fr k = -1
theorem TInv.tok {s : Pl} {t : Ts} (h : TInv s t) : t.Ok := fun k hk => by
  rcases h.at_ k hk with e | ⟨e1, e2, _⟩ <;> omega
theorem TInv.own {s : Pl} {t : Ts} (h : TInv s t) : ∃ m : Nat, t.o = m ∧ m < 4 := ⟨t.o.toNat, by have := h.o0; omega, by have := h.o0; have := h.o1; omega⟩

section
variable {s : Pl} {t : Ts}
theorem TInv.new {o : Int} {n : Nat} (h0 : 0 ≤ o) (h1 : o < 4) (hn0 : 1 ≤ n) (hn1 : n ≤ 64) {s : Pl} (hs : PInv s) (hp : s.prom o.toNat = -1) (hr : promR s o n = 0) : TInv (s.promise o n) (Ts.new n o) := by
  have hi := hs.promise o n
  have hh : s.promise o n = s.setProm o.toNat n := by rw [Pl.promise, if_pos hr]
  rw [hh] at hi ⊢
  refine ⟨hi, hn0, hn1, h0, h1, ?_, fun k hk => .inl rfl, fun j k _ _ _ e => absurd rfl e, ?_, fun k hk e => by cases e⟩
  · show updI s.prom o.toNat n o.toNat = n
    exact updI_same _ _ _
  · obtain ⟨m, rfl⟩ : ∃ k : Nat, o = k := ⟨o.toNat, by omega⟩
    have e1 : hN s m 256 = 0 := by
      have := hs.held m (by omega)
      rw [show (m : Int).toNat = m from rfl] at hp
      rw [hp] at this
      omega
    have e2 : mN (Ts.new n m) n = 0 := by
      rcases Nat.eq_zero_or_pos (mN (Ts.new n m) n) with h | h
      · exact h
      · obtain ⟨f, _, hf⟩ := cnt_pos h
        simp [Ts.new] at hf
    show hN s m 256 = mN (Ts.new n m) n
    omega

theorem frB_iff (t : Ts) {k : Nat} (hk : k < t.n) : frB t k = (t.fr k != -1) := by
  have : inP t k = true := by simp [inP, hk]
  simp [frB, this]
theorem frV_eq (t : Ts) {k : Nat} (h : frB t k = true) : frV t k = t.fr k := by simp [frV, h]
theorem inP_iff (t : Ts) (k : Nat) : inP t k = decide (k < t.n) := by simp [inP]

/-- a page that is not mapped is given a frame -/
theorem TInv.mapNew (h : TInv s t) {k : Nat} (hk : k < t.n) (hx : t.fr k = -1) : ∃ f : Nat, 16 ≤ f ∧ f < 256 ∧ s.own f = -1 ∧ takeN s = some f ∧ mapE s t k = 0 ∧ mapV s t k = f ∧ mapS s t k = (s.setOwn f t.o).wipe f ∧ t.map s k = t.setFr k f := by
  obtain ⟨m, hm, hm4⟩ := h.own
  have hlt : mN t t.n < t.n := cnt_lt (f := k) (by simp [hx]) hk
  have hpr := h.pr
  have hcn := h.cn
  rw [hm] at hpr hcn
  have hr : (hN s m 256 : Int) < s.prom m := by
    rw [show (m : Int).toNat = m from rfl] at hpr
    rw [hpr]
    omega
  obtain ⟨f, _, f0, f1, f2, f3, f4, f5, f6⟩ := h.pi.takes hm4 hr
  have hq : needB t k = true := by simp [needB, inP_iff, hk, frB_iff t hk, hx]
  refine ⟨f, f1, f2, f3, f0, ?_, ?_, ?_, ?_⟩
  · rw [mapE, if_pos hq, hm, f4]
  · rw [mapV, if_pos hq, hm, f5]
  · rw [mapS, if_pos hq, hm, f6]
  · rw [Ts.map, if_pos (by rw [hm, hq, f4]; rfl), hm, f5]; rfl
/-- a page that is mapped stays so -/
theorem mapOld {k : Nat} (hk : k < t.n) (hx : ¬ t.fr k = -1) : mapE s t k = 0 ∧ mapV s t k = t.fr k ∧ mapS s t k = s ∧ t.map s k = t := by
  have hb : frB t k = true := by simp [frB_iff t hk, hx]
  have hq : needB t k = false := by simp [needB, hb]
  have hi : inP t k = true := by simp [inP_iff, hk]
  refine ⟨by simp [mapE, hq, hi], by simp [mapV, hq, frV, hb], by simp [mapS, hq], by simp [Ts.map, hq]⟩
theorem mapOut {p : Int} (h : inP t p = false) : mapE s t p = 22 ∧ mapV s t p = 0 ∧ mapS s t p = s ∧ t.map s p = t := by
  have hb : frB t p = false := by simp [frB, h]
  have hq : needB t p = false := by simp [needB, h]
  refine ⟨by simp [mapE, hq, h], by simp [mapV, hq, frV, hb], by simp [mapS, hq], by simp [Ts.map, hq]⟩
theorem TInv.setNew (h : TInv s t) {k f : Nat} (hk : k < t.n) (hx : t.fr k = -1) (f1 : 16 ≤ f) (f2 : f < 256) (f3 : s.own f = -1) (hp : PInv ((s.setOwn f t.o).wipe f)) : TInv ((s.setOwn f t.o).wipe f) (t.setFr k f) := by
  obtain ⟨m, hm, hm4⟩ := h.own
  have hne : ∀ j, j < t.n → t.fr j ≠ (f : Int) := fun j hj e => by
    rcases h.at_ j hj with e1 | ⟨_, _, e1⟩
    · omega
    · rw [e, show (f : Int).toNat = f from rfl, f3] at e1
      have := h.o0
      omega
  refine ⟨hp, h.n0, h.n1, h.o0, h.o1, h.pr, fun j hj => ?_, fun i j hi hj => ?_, ?_, fun j hj hg => ?_⟩
  · have hj : j < t.n := hj
    show updI t.fr k f j = -1 ∨ 16 ≤ updI t.fr k f j ∧ updI t.fr k f j < 256 ∧ updI s.own f t.o (updI t.fr k f j).toNat = t.o
    unfold updI
    split
    · right
      exact ⟨by omega, by omega, by simp⟩
    · rcases h.at_ j hj with e1 | ⟨e1, e2, e3⟩
      · exact .inl e1
      · right
        refine ⟨e1, e2, ?_⟩
        split
        · rfl
        · exact e3
  · have hi : i < t.n := hi
    have hj : j < t.n := hj
    show updI t.fr k f i = updI t.fr k f j → updI t.fr k f i ≠ -1 → i = j
    unfold updI
    intro e1 e2
    split at e1
    · rename_i ei
      split at e1
      · rename_i ej; rw [ei, ej]
      · exact absurd e1.symm (hne j hj)
    · rename_i ei
      split at e1
      · exact absurd e1 (hne i hi)
      · rw [if_neg ei] at e2
        exact h.inj i j hi hj e1 e2
  · show hN ((s.setOwn f t.o).wipe f) t.o 256 = mN (t.setFr k f) t.n
    rw [hm, hN_setOwn f2 f3, if_pos rfl]
    have := h.cn
    rw [hm] at this
    rw [this]
    unfold mN
    symm
    refine cnt_gain (f := k) (by simp [hx]) ?_ (fun j hj => ?_) hk
    · show (updI t.fr k f k != -1) = true
      rw [updI_same]; simp
    · show (updI t.fr k f j != -1) = _
      rw [updI_other _ _ hj]
  · show ¬ updI t.fr k f j = -1
    unfold updI
    split
    · omega
    · exact h.gd j hj hg
theorem TInv.map (h : TInv s t) (p : Int) : TInv (mapS s t p) (t.map s p) := by
  cases hi : inP t p
  · obtain ⟨_, _, e1, e2⟩ := mapOut (s := s) hi
    rw [e1, e2]; exact h
  · obtain ⟨k, rfl, hk⟩ := inP_at hi
    by_cases hx : t.fr k = -1
    · obtain ⟨f, f1, f2, f3, _, _, _, e1, e2⟩ := h.mapNew hk hx
      have hp : PInv (mapS s t k) := by
        unfold mapS
        split
        · exact h.pi.take _
        · exact h.pi
      rw [e1, e2]
      rw [e1] at hp
      exact h.setNew hk hx f1 f2 f3 hp
    · obtain ⟨_, _, e1, e2⟩ := mapOld (s := s) hk hx
      rw [e1, e2]; exact h

theorem giveOne {s : Pl} {o : Int} (ho : isO o = true) {f : Nat} (h1 : 16 ≤ f) (h2 : f < 256) (h3 : s.own f = o) : giveR s o [(f : Int)] = 0 ∧ s.give o [(f : Int)] = s.setOwn f (-1) := by
  have hr : giveR s o [(f : Int)] = 0 := by
    simp [giveR, ho, allOk, okAt, isF, hasI, h3]
    omega
  refine ⟨hr, ?_⟩
  rw [Pl.give, if_pos hr]
  unfold Pl.giveTo Pl.setOwn updI
  congr 1
  funext j
  have : hasI (List.take [(f : Int)].length [(f : Int)]) (j : Int) = decide (j = f) := by
    rw [Bool.eq_iff_iff]; simp [hasI]; omega
  rw [this]
  by_cases e : j = f <;> simp [e]
/-- a page that is unmapped -/
theorem TInv.unmapOld (h : TInv s t) {k : Nat} (hk : k < t.n) (hx : ¬ t.fr k = -1) : ∃ f : Nat, t.fr k = f ∧ 16 ≤ f ∧ f < 256 ∧ s.own f = t.o ∧ unmapE t k = 0 ∧ unmapS s t k = s.setOwn f (-1) ∧ t.unmap k = (t.setFr k (-1)).setGd k false := by
  rcases h.at_ k hk with e | ⟨e1, e2, e3⟩
  · exact absurd e hx
  · have hO : isO t.o = true := by simp [isO, h.o0, h.o1]
    have hb : frB t k = true := by simp [frB_iff t hk, hx]
    obtain ⟨f, hf⟩ : ∃ f : Nat, t.fr k = f := ⟨(t.fr k).toNat, by omega⟩
    rw [hf] at e1 e2 e3
    rw [show (f : Int).toNat = f from rfl] at e3
    refine ⟨f, hf, by omega, by omega, e3, by simp [unmapE, hb], ?_, ?_⟩
    · rw [unmapS, if_pos hb, frV, if_pos hb, show (k : Int).toNat = k from rfl, hf]
      exact (giveOne hO (by omega) (by omega) e3).2
    · rw [Ts.unmap, if_pos hb]; rfl
theorem unmapOut {s : Pl} {t : Ts} {p : Int} (h : frB t p = false) : unmapE t p = 22 ∧ unmapS s t p = s ∧ t.unmap p = t := by
  refine ⟨by simp [unmapE, h], by simp [unmapS, h], by simp [Ts.unmap, h]⟩
theorem TInv.setOld (h : TInv s t) {k f : Nat} (hk : k < t.n) (hf : t.fr k = f) (f1 : 16 ≤ f) (f2 : f < 256) (f3 : s.own f = t.o) (hp : PInv (s.setOwn f (-1))) : TInv (s.setOwn f (-1)) ((t.setFr k (-1)).setGd k false) := by
  have h0 := h.o0
  have hne : ∀ j, j < t.n → j ≠ k → t.fr j ≠ (f : Int) := fun j hj hjk e => hjk (h.inj j k hj hk (by rw [e, hf]) (by rw [e]; omega))
  refine ⟨hp, h.n0, h.n1, h.o0, h.o1, h.pr, fun j hj => ?_, fun i j hi hj => ?_, ?_, fun j hj hg => ?_⟩
  · have hj : j < t.n := hj
    show updI t.fr k (-1) j = -1 ∨ 16 ≤ updI t.fr k (-1) j ∧ updI t.fr k (-1) j < 256 ∧ updI s.own f (-1) (updI t.fr k (-1) j).toNat = t.o
    unfold updI
    split
    · exact .inl rfl
    · rename_i hjk
      rcases h.at_ j hj with e1 | ⟨e1, e2, e3⟩
      · exact .inl e1
      · right
        refine ⟨e1, e2, ?_⟩
        rw [if_neg (fun e => hne j hj hjk (by omega))]
        exact e3
  · have hi : i < t.n := hi
    have hj : j < t.n := hj
    show updI t.fr k (-1) i = updI t.fr k (-1) j → updI t.fr k (-1) i ≠ -1 → i = j
    unfold updI
    intro e1 e2
    split at e2
    · exact absurd rfl e2
    · rename_i ei
      rw [if_neg ei] at e1
      split at e1
      · exact absurd e1 e2
      · exact h.inj i j hi hj e1 e2
  · show hN (s.setOwn f (-1)) t.o 256 = mN ((t.setFr k (-1)).setGd k false) t.n
    have e1 : hN s t.o 256 = hN (s.setOwn f (-1)) t.o 256 + 1 := by
      unfold hN
      refine cnt_gain (f := f) ?_ (by simp [f3]) (fun j hj => ?_) f2
      · show (updI s.own f (-1) f == t.o) = false
        rw [updI_same]; simp; omega
      · show _ = (updI s.own f (-1) j == t.o)
        rw [updI_other _ _ hj]
    have e2 : mN t t.n = mN ((t.setFr k (-1)).setGd k false) t.n + 1 := by
      unfold mN
      refine cnt_gain (f := k) ?_ (by simp [hf]) (fun j hj => ?_) hk
      · show (updI t.fr k (-1) k != -1) = false
        rw [updI_same]; rfl
      · show _ = (updI t.fr k (-1) j != -1)
        rw [updI_other _ _ hj]
    have := h.cn
    omega
  · revert hg
    show updB t.gd k false j = true → ¬ updI t.fr k (-1) j = -1
    unfold updB updI
    split
    · intro e; cases e
    · exact h.gd j hj
theorem TInv.unmap (h : TInv s t) (p : Int) : TInv (unmapS s t p) (t.unmap p) := by
  cases hb : frB t p
  · obtain ⟨_, e1, e2⟩ := unmapOut (s := s) hb
    rw [e1, e2]; exact h
  · have hin : inP t p = true := by simp [frB] at hb; exact hb.1
    obtain ⟨k, rfl, hk⟩ := inP_at hin
    have hx : ¬ t.fr k = -1 := by simpa [frB_iff t hk] using hb
    obtain ⟨f, hf, f1, f2, f3, _, e1, e2⟩ := h.unmapOld hk hx
    have hp : PInv (unmapS s t k) := by
      rw [unmapS, if_pos hb]
      exact h.pi.give _ _
    rw [e1, e2]
    rw [e1] at hp
    exact h.setOld hk hf f1 f2 f3 hp
theorem TInv.guard (h : TInv s t) (p : Int) (b : Bool) : TInv s (t.guard p b) := by
  unfold Ts.guard
  split
  · rename_i hb
    refine ⟨h.pi, h.n0, h.n1, h.o0, h.o1, h.pr, h.at_, h.inj, h.cn, fun j hj => ?_⟩
    show updB t.gd p.toNat b j = true → ¬ t.fr j = -1
    unfold updB
    split
    · rename_i e
      intro _
      subst e
      simp [frB] at hb
      exact hb.2
    · exact h.gd j hj
  · exact h
theorem TInv.putB (h : TInv s t) (f a b : Int) : TInv (s.putB f a b) t := by
  have hp := h.pi.putB f a b
  unfold Pl.putB at *
  split
  · rename_i hh
    rw [if_pos hh] at hp
    exact ⟨hp, h.n0, h.n1, h.o0, h.o1, h.pr, h.at_, h.inj, h.cn, h.gd⟩
  · exact h
/-- a page that is asked for has a frame of its owner's -/
theorem TInv.mapped (h : TInv s t) {k : Nat} (hk : k < t.n) : ∃ f : Nat, mapE s t k = 0 ∧ mapV s t k = f ∧ 16 ≤ f ∧ f < 256 ∧ (t.map s k).fr k = f ∧ (mapS s t k).own f = t.o ∧ (t.map s k).n = t.n ∧ (t.map s k).o = t.o := by
  by_cases hx : t.fr k = -1
  · obtain ⟨f, f1, f2, f3, _, e1, e2, e3, e4⟩ := h.mapNew hk hx
    refine ⟨f, e1, e2, f1, f2, ?_, ?_, ?_, ?_⟩
    · rw [e4]; show updI t.fr k f k = f; rw [updI_same]
    · rw [e3]; show updI s.own f t.o f = t.o; rw [updI_same]
    · rw [e4]; rfl
    · rw [e4]; rfl
  · obtain ⟨e1, e2, e3, e4⟩ := mapOld (s := s) hk hx
    rcases h.at_ k hk with e | ⟨g1, g2, g3⟩
    · exact absurd e hx
    · obtain ⟨f, hf⟩ : ∃ f : Nat, t.fr k = f := ⟨(t.fr k).toNat, by omega⟩
      rw [hf] at g1 g2 g3
      exact ⟨f, e1, by rw [e2, hf], by omega, by omega, by rw [e4, hf], by rw [e3]; exact g3, by rw [e4], by rw [e4]⟩
theorem map_no (s : Pl) (t : Ts) (p : Int) : (t.map s p).n = t.n ∧ (t.map s p).o = t.o ∧ (t.map s p).gd = t.gd := by
  unfold Ts.map
  split <;> exact ⟨rfl, rfl, rfl⟩
theorem unmap_no (t : Ts) (p : Int) : (t.unmap p).n = t.n ∧ (t.unmap p).o = t.o := by
  unfold Ts.unmap
  split <;> exact ⟨rfl, rfl⟩
theorem guard_no (t : Ts) (p : Int) (b : Bool) : (t.guard p b).n = t.n ∧ (t.guard p b).o = t.o ∧ (t.guard p b).fr = t.fr := by
  unfold Ts.guard
  split <;> exact ⟨rfl, rfl, rfl⟩
theorem fN_take {s : Pl} {f : Nat} (h1 : 16 ≤ f) (h2 : f < 256) (h3 : s.own f = -1) {o : Int} (ho : 0 ≤ o) : fN s 256 = fN ((s.setOwn f o).wipe f) 256 + 1 := by
  unfold fN
  refine cnt_gain (f := f) ?_ (by simp [h1, h3]) (fun j hj => ?_) h2
  · show (decide (16 ≤ f) && updI s.own f o f == -1) = false
    rw [updI_same]
    simp; omega
  · show _ = (decide (16 ≤ j) && updI s.own f o j == -1)
    rw [updI_other _ _ hj]
theorem fN_back {s : Pl} {f : Nat} (h1 : 16 ≤ f) (h2 : f < 256) (h3 : 0 ≤ s.own f) : fN (s.setOwn f (-1)) 256 = fN s 256 + 1 := by
  unfold fN
  refine cnt_gain (f := f) (by simp; omega) ?_ (fun j hj => ?_) h2
  · show (decide (16 ≤ f) && updI s.own f (-1) f == -1) = true
    rw [updI_same]
    simp [h1]
  · show (decide (16 ≤ j) && updI s.own f (-1) j == -1) = _
    rw [updI_other _ _ hj]
theorem fN_put (s : Pl) (f a b : Int) (k : Nat) : fN (s.putB f a b) k = fN s k := by
  unfold Pl.putB
  split <;> rfl
theorem own_put (s : Pl) (f a b : Int) : (s.putB f a b).own = s.own := by
  unfold Pl.putB
  split <;> rfl
end
end Go.Proofs.YthiephlfhbkcbaaDoor.Nt
