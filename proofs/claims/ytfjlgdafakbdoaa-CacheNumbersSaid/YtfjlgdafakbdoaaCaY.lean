/- Both caches tell the same: the plain part. -/
import Derived.Test.YtfjlgdafakbdoaaCaX
namespace Go.Proofs.Ytfjlgdafakbdoaa.Ca
open Go.RowKit Mz Go.Maps By
set_option linter.unusedVariables false
set_option linter.unusedSimpArgs false
set_option maxHeartbeats 4000000

def pv (s : Cs) (b : Bk) : Dv := ⟨b.k, str b.code, b.ct, lnk s.E b.k⟩
def pviews (s : Cs) : List Dv := s.bl.map (pv s)
structure Same (s : Cs) (d : Ds) : Prop where
  room : d.room = s.room
  fl : d.fl = s.fl
  v : views d = pviews s
theorem vkeys_p (s : Cs) : vkeys (pviews s) = s.bl.map Bk.k := by unfold vkeys pviews; rw [List.map_map]; rfl
theorem Same.keys {s : Cs} {d : Ds} (h : Same s d) : dkeys d = s.bl.map Bk.k := by rw [← vkeys_views, h.v, vkeys_p]
theorem Same.ix {s : Cs} {d : Ds} (h : Same s d) (k : Ky) : ixK k (dkeys d) = idx k s.bl := by rw [h.keys, ixK_map]
theorem Same.len {s : Cs} {d : Ds} (h : Same s d) : d.bl.length = s.bl.length := by
  have := congrArg List.length h.v
  unfold views pviews at this
  simpa using this
theorem Same.at_ {s : Cs} {d : Ds} (h : Same s d) {i : Nat} (hi : i < s.bl.length) : (nthD d.bl i).v = pv s (nthB s.bl i) := by
  have hd : i < d.bl.length := by rw [h.len]; exact hi
  have h1 := nthV_views hd
  rw [h.v] at h1
  rw [← h1, nthB_at hi]
  unfold nthV pviews
  simp [List.getD_eq_getElem?_getD, hi]
theorem lnk_cons (p : Ky × Lr) (E : List (Ky × Lr)) (k : Ky) : lnk (p :: E) k = if p.1 = k then p.2.ks else lnk E k := by
  unfold lnk
  rw [List.find?_cons]
  by_cases e : p.1 = k
  · simp [e]
  · simp [e]
theorem lnk_unlink (E : List (Ky × Lr)) (k k' : Ky) : lnk ((away E k).map (fun p => (p.1, strip k p.2))) k' = if k' = k then [] else strK k (lnk E k') := by
  induction E with
  | nil => by_cases e : k' = k <;> simp [away, lnk, strK, e]
  | cons p E ih =>
    by_cases e : p.1 = k
    · have h1 : away (p :: E) k = away E k := by unfold away; rw [List.filter_cons]; simp [e]
      rw [h1, ih, lnk_cons]
      by_cases e2 : k' = k
      · rw [if_pos e2, if_pos e2]
      · rw [if_neg e2, if_neg e2, if_neg (by rw [e]; exact fun h => e2 h.symm)]
    · have h1 : away (p :: E) k = p :: away E k := by unfold away; rw [List.filter_cons]; simp [e]
      rw [h1, List.map_cons, lnk_cons, ih, lnk_cons]
      by_cases e2 : p.1 = k'
      · rw [if_pos e2, if_pos e2, if_neg (by rw [← e2]; exact e)]; rfl
      · rw [if_neg e2, if_neg e2]
theorem lnk_none {E : List (Ky × Lr)} {k : Ky} (h : ∀ p ∈ E, p.1 ≠ k) : lnk E k = [] := by
  induction E with
  | nil => rfl
  | cons p E ih => rw [lnk_cons, if_neg (h p (by simp)), ih (fun p hp => h p (by simp [hp]))]
theorem same_put {s : Cs} {d : Ds} (h : Same s d) (ok : s.Ok) (b : Bk) (A : Option Addr) (c gm : Nat) :
    vput d.room (views d) d.fl ⟨b.k, str b.code, b.ct, []⟩ = (pviews (s.put b A c gm), (s.put b A c gm).fl) := by
  unfold vput Cs.put
  have hv : vkeys (views d) = s.bl.map Bk.k := by rw [h.v, vkeys_p]
  show (if 0 ≤ ixK b.k (vkeys (views d)) then _ else _) = _
  rw [hv, ← ixK_map]
  by_cases hi : 0 ≤ idx b.k s.bl
  · rw [if_pos hi, if_pos hi]
    obtain ⟨i, hj⟩ : ∃ i : Nat, idx b.k s.bl = i := ⟨(idx b.k s.bl).toNat, by omega⟩
    obtain ⟨h1, h2⟩ := idx_spec b.k s.bl i hj
    refine Prod.ext ?_ h.fl
    show ((views d).map (unlV b.k)).set (idx b.k s.bl).toNat _ = pviews (s.set b)
    have e1 : (s.set b).bl = s.bl.set i b := by show s.bl.set (idx b.k s.bl).toNat b = _; rw [hj]; rfl
    have e2 : (s.set b).E = (s.unlink b.k).E := rfl
    rw [hj, h.v]
    unfold pviews
    rw [e1]
    apply List.ext_getElem
    · simp
    · intro q q1 q2
      have hq : q < s.bl.length := by simp at q1; exact q1
      simp only [List.getElem_set, List.getElem_map, Int.toNat_natCast]
      by_cases e : i = q
      · rw [if_pos e, if_pos e]
        show _ = (⟨b.k, str b.code, b.ct, lnk ((away s.E b.k).map (fun p => (p.1, strip b.k p.2))) b.k⟩ : Dv)
        rw [lnk_unlink, if_pos rfl]
      · rw [if_neg e, if_neg e]
        have hne : s.bl[q].k ≠ b.k := fun e3 => by
          have hn := List.pairwise_iff_getElem.1 ok.kd
          have h5 : (s.bl.map Bk.k)[i]'(by simpa using h1) = b.k := by rw [List.getElem_map, ← nthB_at h1]; exact h2
          have h6 : (s.bl.map Bk.k)[q]'(by simpa using hq) = b.k := by rw [List.getElem_map]; exact e3
          rcases Nat.lt_or_gt_of_ne e with h7 | h7
          · exact hn i q _ _ h7 (h5.trans h6.symm)
          · exact hn q i _ _ h7 (h6.trans h5.symm)
        show (⟨s.bl[q].k, str s.bl[q].code, s.bl[q].ct, strK b.k (lnk s.E s.bl[q].k)⟩ : Dv) = (⟨s.bl[q].k, str s.bl[q].code, s.bl[q].ct, lnk ((away s.E b.k).map (fun p => (p.1, strip b.k p.2))) s.bl[q].k⟩ : Dv)
        rw [lnk_unlink, if_neg hne]
  · rw [if_neg hi, if_neg hi]
    have hl : (views d).length = s.bl.length := by rw [h.v]; simp [pviews]
    rw [hl, h.room]
    by_cases hf : s.room ≤ (s.bl.length : Int)
    · rw [if_pos hf, if_pos hf]
      refine Prod.ext ?_ (by show d.fl + 1 = s.fl + 1; rw [h.fl])
      rfl
    · rw [if_neg hf, if_neg hf]
      refine Prod.ext ?_ h.fl
      show views d ++ [_] = (s.bl ++ [b]).map (pv (s.snoc b A c))
      rw [List.map_append, h.v]
      congr 1
      show [_] = [(⟨b.k, str b.code, b.ct, lnk s.E b.k⟩ : Dv)]
      rw [lnk_none (fun p hp e => by
        have := ok.froms p hp
        rw [e] at this
        exact idx_none b.k s.bl (by omega) this)]
theorem strKs_drop (ps : List Int) : ∀ (l : List Bk) (s : Cs) (k : Ky), (∀ b ∈ l, gone ps b = true → k ≠ b.k) → lnk (s.upto ps l).E k = ((l.filter (gone ps)).map Bk.k).foldl (fun ks x => strK x ks) (lnk s.E k)
  | [], s, k, _ => rfl
  | b :: l, s, k, h => by
    have ih := strKs_drop ps l (s.drop1 ps b) k (fun x hx => h x (by simp [hx]))
    show lnk ((s.drop1 ps b).upto ps l).E k = _
    rw [ih]
    unfold Cs.drop1
    by_cases e : gone ps b = true
    · rw [if_pos e, List.filter_cons, if_pos e, List.map_cons, List.foldl_cons]
      congr 1
      show lnk ((away s.E b.k).map (fun p => (p.1, strip b.k p.2))) k = _
      rw [lnk_unlink, if_neg (h b (by simp) e)]
    · rw [if_neg e, List.filter_cons, if_neg e]
theorem unls_map (ks : List Ky) : ∀ (L : List Dv), unls L ks = L.map (fun v => { v with ks := ks.foldl (fun l x => strK x l) v.ks }) := by
  induction ks with
  | nil => intro L; simp [unls]
  | cons k ks ih =>
    intro L
    show unls (L.map (unlV k)) ks = _
    rw [ih, List.map_map]
    rfl
theorem same_drop {s : Cs} {d : Ds} (h : Same s d) (ps : List Int) : vdrop ps (views d) = pviews (s.drop ps) ∧ (gonesD ps d.bl).length = cntG ps s.bl := by
  have hg : ∀ b, goneV ps (pv s b) = gone ps b := fun b => rfl
  have h1 : (pviews s).filter (goneV ps) = (s.bl.filter (gone ps)).map (pv s) := by
    unfold pviews
    rw [List.filter_map]
    rfl
  have h2 : (pviews s).filter (fun v => !goneV ps v) = (s.bl.filter (fun b => !gone ps b)).map (pv s) := by
    unfold pviews
    rw [List.filter_map]
    rfl
  constructor
  · unfold vdrop
    rw [h.v, h1, h2, unls_map, List.map_map, List.map_map]
    unfold pviews
    show _ = (s.bl.filter (fun b => !gone ps b)).map (pv (s.drop ps))
    apply List.map_congr_left
    intro b hb
    obtain ⟨_, hb2⟩ := List.mem_filter.1 hb
    have hb3 : gone ps b = false := by simpa using hb2
    show (⟨b.k, str b.code, b.ct, _⟩ : Dv) = ⟨b.k, str b.code, b.ct, lnk (s.upto ps s.bl).E b.k⟩
    rw [strKs_drop ps s.bl s b.k (fun x _ hx e => by
      have : gone ps b = gone ps x := by
        unfold gone
        have : b.pl = x.pl := congrArg Prod.snd e
        rw [this]
      rw [hb3, hx] at this
      cases this)]
    rfl
  · have h3 : (gonesD ps d.bl).map Db.k = ((views d).filter (goneV ps)).map Dv.k := (keep_views ps d.bl).2
    have h4 := congrArg List.length h3
    rw [h.v, h1] at h4
    simpa [cntG] using h4
theorem lnk_putL {E : List (Ky × Lr)} {a : Ky} (l : Lr) (h : ∃ p ∈ E, p.1 = a) (k : Ky) : lnk (putL E a l) k = if k = a then l.ks else lnk E k := by
  induction E with
  | nil => obtain ⟨p, hp, _⟩ := h; cases hp
  | cons p E ih =>
    show lnk ((if p.1 = a then (p.1, l) else p) :: putL E a l) k = _
    rw [lnk_cons, lnk_cons]
    by_cases e : p.1 = a
    · rw [if_pos e]
      by_cases e2 : p.1 = k
      · rw [if_pos e2, if_pos (by rw [← e2]; exact e)]
      · rw [if_neg e2, if_neg (fun h => e2 (e.trans h.symm)), if_neg e2]
        have hp : ∀ q : Ky × Lr, ((if q.1 = a then (q.1, l) else q) : Ky × Lr).1 = q.1 := fun q => by split <;> rfl
        unfold lnk putL
        rw [List.find?_map]
        have hc : ((fun p : Ky × Lr => decide (p.1 = k)) ∘ fun p => if p.1 = a then (p.1, l) else p) = (fun p : Ky × Lr => decide (p.1 = k)) := by
          funext q
          show decide (((if q.1 = a then (q.1, l) else q) : Ky × Lr).1 = k) = _
          rw [hp]
        rw [hc]
        cases hf : E.find? (fun p => decide (p.1 = k)) with
        | none => rfl
        | some q =>
          have hq : q.1 = k := by simpa using List.find?_some hf
          show (if q.1 = a then (q.1, l) else q).2.ks = q.2.ks
          rw [if_neg (by rw [hq]; intro e3; exact e2 (e.trans e3.symm))]
    · rw [if_neg e]
      by_cases e2 : p.1 = k
      · rw [if_pos e2, if_pos e2, if_neg (by rw [← e2]; exact e)]
      · rw [if_neg e2, if_neg e2]
        refine ih ?_
        obtain ⟨q, hq, hqa⟩ := h
        rcases List.mem_cons.1 hq with rfl | hq
        · exact absurd hqa e
        · exact ⟨q, hq, hqa⟩
theorem lnk_base (s : Cs) (a k : Ky) : lnk (s.base a) k = lnk s.E k := by
  unfold Cs.base
  split
  · rfl
  · rename_i hh
    have : ∀ E : List (Ky × Lr), lnk (E ++ [(a, eL)]) k = lnk E k := by
      intro E
      induction E with
      | nil =>
        show lnk [(a, eL)] k = []
        rw [lnk_cons]
        split
        · rfl
        · rfl
      | cons p E ih => rw [List.cons_append, lnk_cons, lnk_cons, ih]
    exact this _
theorem base_has (s : Cs) (a : Ky) : ∃ p ∈ s.base a, p.1 = a := by
  unfold Cs.base
  by_cases h : hasE s.E a = true
  · rw [if_pos h]
    unfold hasE at h
    obtain ⟨p, hp, e⟩ := List.any_eq_true.1 h
    exact ⟨p, hp, by simpa using e⟩
  · rw [if_neg h]
    exact ⟨(a, eL), by simp, rfl⟩
theorem same_link {s : Cs} {d : Ds} (h : Same s d) (ok : s.Ok) (a b : Ky) (A : Option Addr) (c : Nat) :
    vlink (views d) a b = if 0 ≤ idx a s.bl ∧ 0 ≤ idx b s.bl then (if b ∈ lnk s.E a then (pviews s, true) else (pviews (s.link a ⟨lnk s.E a ++ [b], A, c⟩), true)) else (pviews s, false) := by
  unfold vlink
  have hv : vkeys (views d) = s.bl.map Bk.k := by rw [h.v, vkeys_p]
  rw [hv, ← ixK_map, ← ixK_map]
  by_cases hab : 0 ≤ idx a s.bl ∧ 0 ≤ idx b s.bl
  · rw [if_pos hab, if_pos hab]
    obtain ⟨i, hj⟩ : ∃ i : Nat, idx a s.bl = i := ⟨(idx a s.bl).toNat, by omega⟩
    obtain ⟨h1, h2⟩ := idx_spec a s.bl i hj
    have hn : nthV (views d) (idx a s.bl).toNat = pv s (nthB s.bl i) := by
      rw [hj, h.v]
      unfold nthV pviews
      rw [nthB_at h1]
      simp [List.getD_eq_getElem?_getD, h1]
    have hk : (pv s (nthB s.bl i)).ks = lnk s.E a := by show lnk s.E (nthB s.bl i).k = _; rw [h2]
    rw [hn, hk]
    by_cases hm : b ∈ lnk s.E a
    · rw [if_pos hm, if_pos hm, h.v]
    · rw [if_neg hm, if_neg hm]
      refine Prod.ext ?_ rfl
      show (views d).set (idx a s.bl).toNat _ = s.bl.map (pv (s.link a ⟨lnk s.E a ++ [b], A, c⟩))
      rw [hj, h.v, Int.toNat_natCast]
      unfold pviews
      apply List.ext_getElem
      · simp
      · intro q q1 q2
        have hq : q < s.bl.length := by simp at q1; exact q1
        simp only [List.getElem_set, List.getElem_map]
        have hL : ∀ x, lnk (s.link a ⟨lnk s.E a ++ [b], A, c⟩).E x = if x = a then lnk s.E a ++ [b] else lnk s.E x := fun x => by
          show lnk (putL (s.base a) a _) x = _
          rw [lnk_putL _ (base_has s a), lnk_base]
        by_cases e : i = q
        · rw [if_pos e]
          subst e
          have h3 : s.bl[i].k = a := by rw [← nthB_at h1]; exact h2
          show (⟨(nthB s.bl i).k, str (nthB s.bl i).code, (nthB s.bl i).ct, lnk s.E a ++ [b]⟩ : Dv) = ⟨s.bl[i].k, str s.bl[i].code, s.bl[i].ct, lnk (s.link a ⟨lnk s.E a ++ [b], A, c⟩).E s.bl[i].k⟩
          rw [hL, if_pos h3, nthB_at h1]
        · rw [if_neg e]
          have hne : s.bl[q].k ≠ a := fun e3 => by
            have hnn := List.pairwise_iff_getElem.1 ok.kd
            have h5 : (s.bl.map Bk.k)[i]'(by simpa using h1) = a := by rw [List.getElem_map, ← nthB_at h1]; exact h2
            have h6 : (s.bl.map Bk.k)[q]'(by simpa using hq) = a := by rw [List.getElem_map]; exact e3
            rcases Nat.lt_or_gt_of_ne e with h7 | h7
            · exact hnn i q _ _ h7 (h5.trans h6.symm)
            · exact hnn q i _ _ h7 (h6.trans h5.symm)
          show (⟨s.bl[q].k, str s.bl[q].code, s.bl[q].ct, lnk s.E s.bl[q].k⟩ : Dv) = ⟨s.bl[q].k, str s.bl[q].code, s.bl[q].ct, lnk (s.link a ⟨lnk s.E a ++ [b], A, c⟩).E s.bl[q].k⟩
          rw [hL, if_neg hne]
  · rw [if_neg hab, if_neg hab, h.v]
end Go.Proofs.Ytfjlgdafakbdoaa.Ca
