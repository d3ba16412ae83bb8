/- Translations that are kept: what Link leaves. -/
import Derived.Test.YtfjlgdafakbdoaaCaI
namespace Go.Proofs.Ytfjlgdafakbdoaa.Ca
open Go.RowKit Mz Go.Maps
set_option linter.unusedVariables false
set_option linter.unusedSimpArgs false
set_option maxHeartbeats 4000000

def eL : Lr := ⟨[], none, 0⟩
def hasE (E : List (Ky × Lr)) (a : Ky) : Bool := E.any (fun p => decide (p.1 = a))
def Cs.base (s : Cs) (a : Ky) : List (Ky × Lr) := if hasE s.E a then s.E else s.E ++ [(a, eL)]
def putL (E : List (Ky × Lr)) (a : Ky) (l : Lr) : List (Ky × Lr) := E.map (fun p => if p.1 = a then (p.1, l) else p)
/-- behind Link, where there was none -/
def Cs.link (s : Cs) (a : Ky) (l : Lr) : Cs := { s with E := putL (s.base a) a l }
theorem has_ent (E : List (Ky × Lr)) (a : Ky) : Mz.has (E.map ent) a = hasE E a := by
  unfold Mz.has hasE
  rw [List.any_map]
  rfl
theorem rep_putL (E : List (Ky × Lr)) (a : Ky) (l : Lr) : rep (E.map ent) a (.slice l.A l.ks.length l.c) = (putL E a l).map ent := by
  unfold rep putL
  rw [List.map_map, List.map_map]
  refine List.map_congr_left (fun p _ => ?_)
  show (if (ent p).1 = a then _ else _) = ent (if p.1 = a then _ else _)
  by_cases e : p.1 = a
  · rw [if_pos e, if_pos (show (ent p).1 = a from e)]
    rfl
  · rw [if_neg e, if_neg (show ¬ (ent p).1 = a from e)]
theorem lrOf_none {E : List (Ky × Lr)} {a : Ky} (h : hasE E a = false) : lrOf E a = eL := by
  unfold hasE at h
  rw [List.any_eq_false] at h
  unfold lrOf
  rw [List.find?_eq_none.2 (fun p hp => h p hp)]
  rfl
theorem lrOf_some {E : List (Ky × Lr)} {a : Ky} (h : hasE E a = true) : ∃ p ∈ E, p.1 = a ∧ lrOf E a = p.2 := by
  unfold hasE at h
  unfold lrOf
  cases hf : E.find? (fun p => decide (p.1 = a)) with
  | none =>
    rw [List.find?_eq_none] at hf
    rw [List.any_eq_true] at h
    obtain ⟨p, hp, e⟩ := h
    exact absurd e (hf p hp)
  | some p => exact ⟨p, List.mem_of_find?_eq_some hf, by simpa using List.find?_some hf, rfl⟩
/-- the entry of a key, and what is stored into it -/
theorem entry_any (w : World) (g : Nat) (s : Cs) (h : Cch w g s) (a : Ky) (ha : a.Ok) :
    ∃ we st, (Instr.mapEntry 57 (.map (some s.gm)) (.agg #[.int .u32 a.1, .int .u32 a.2])).run Try.prog w = .ok (.tuple #[.slice (lrOf s.E a).A (lrOf s.E a).ks.length (lrOf s.E a).c, st]) we ∧ Fr (· = s.gm) w we ∧
      ∀ (w2 : World) (l : Lr), Fr (fun q => q ≠ s.gm) we w2 → ∃ w3, (Instr.entryStore 57 (.map (some s.gm)) st (.slice l.A l.ks.length l.c)).run Try.prog w2 = .ok () w3 ∧ (∃ bs clock, MapL Try.prog 31 kyv w3 s.gm ((putL (s.base a) a l).map ent) bs clock) ∧ Fr (· = s.gm) w2 w3 := by
  obtain ⟨bs, clock, hm⟩ := h.m
  obtain ⟨l0, hl⟩ := keyOf_ky a ha
  have hlk := lk_ent s.E a
  by_cases hin : hasE s.E a = true
  · obtain ⟨we, j, hj, hb, e1, hrun, hme, hf⟩ := hm.entry_old keyLaw kyv_inj Try.underlying57 hl (by rw [has_ent]; exact hin)
    have h2 := lk_at hm.kd hj
    rw [e1] at h2
    rw [h2] at hlk
    have hlk : (s.E.map ent)[j].2 = .slice (lrOf s.E a).A (lrOf s.E a).ks.length (lrOf s.E a).c := hlk
    rw [hlk] at hrun
    refine ⟨we, _, hrun, hf, fun w2 l f2 => ?_⟩
    have hm2 := hme.fr f2 (fun e => e rfl)
    obtain ⟨w3, g1, g2, g3⟩ := hm2.stamp 57 hj hb (.slice l.A l.ks.length l.c)
    rw [e1, rep_putL] at g2
    have hbase : s.base a = s.E := by unfold Cs.base; rw [if_pos hin]
    exact ⟨w3, g1, ⟨_, _, by rw [hbase]; exact g2⟩, g3⟩
  · have hin : hasE s.E a = false := by simpa using hin
    obtain ⟨we, hrun, hme, hf⟩ := hm.entry_new keyLaw kyv_inj Try.underlying57 hl (by rw [has_ent]; exact hin) (zK w)
    have hz : (Value.slice none 0 0) = .slice (lrOf s.E a).A (lrOf s.E a).ks.length (lrOf s.E a).c := by rw [lrOf_none hin]; rfl
    have hj : (s.E.map ent).length < (s.E.map ent ++ [(a, Value.slice none 0 0)]).length := by simp
    have hb : (s.E.map ent).length < (bs ++ [clock]).length := by rw [← hm.len]; simp
    have hbe : (bs ++ [clock])[(s.E.map ent).length]'hb = clock := by
      have := hm.len
      simp [← this]
    have hke : ((s.E.map ent ++ [(a, Value.slice none 0 0)])[(s.E.map ent).length]'hj).1 = a := by simp
    refine ⟨we, goInt clock, by rw [← hz]; exact hrun, hf, fun w2 l f2 => ?_⟩
    have hm2 := hme.fr f2 (fun e => e rfl)
    obtain ⟨w3, g1, g2, g3⟩ := hm2.stamp 57 hj hb (.slice l.A l.ks.length l.c)
    rw [hbe] at g1
    rw [hke] at g2
    have hbase : (s.E.map ent ++ [(a, Value.slice none 0 0)]) = (s.base a).map ent := by
      unfold Cs.base
      rw [hin]
      simp [ent, eL]
    rw [hbase, rep_putL] at g2
    exact ⟨w3, g1, ⟨_, _, g2⟩, g3⟩
theorem base_mem {s : Cs} {a : Ky} {p : Ky × Lr} (hp : p ∈ s.base a) : p ∈ s.E ∨ p = (a, eL) := by
  unfold Cs.base at hp
  by_cases h : hasE s.E a = true
  · rw [if_pos h] at hp; exact .inl hp
  · rw [if_neg h] at hp
    rcases List.mem_append.1 hp with h | h
    · exact .inl h
    · exact .inr (List.mem_singleton.1 h)
theorem hasE_false {E : List (Ky × Lr)} {a : Ky} (h : hasE E a = false) : ∀ p ∈ E, p.1 ≠ a := by
  unfold hasE at h
  rw [List.any_eq_false] at h
  intro p hp e
  exact h p hp (by simp [e])
theorem base_nd {s : Cs} {a : Ky} (h : (s.E.map (·.1)).Nodup) : (s.base a).Pairwise (fun p q => p.1 ≠ q.1) := by
  have h0 : s.E.Pairwise (fun p q => p.1 ≠ q.1) := List.pairwise_map.1 h
  unfold Cs.base
  by_cases hh : hasE s.E a = true
  · rw [if_pos hh]; exact h0
  · rw [if_neg hh]
    rw [List.pairwise_append]
    refine ⟨h0, by simp, fun p hp q hq => ?_⟩
    rw [List.mem_singleton.1 hq]
    exact hasE_false (by simpa using hh) p hp
theorem apartL {s : Cs} (hs : s.E.Pairwise (fun p q => ∀ k, ab p.2.A = some k → ab q.2.A ≠ some k)) {a : Ky} {p : Ky × Lr} (hp : p ∈ s.E) (hne : p.1 ≠ a) {q : Nat} (hq : ab p.2.A = some q) : ab (lrOf s.E a).A ≠ some q := by
  by_cases h : hasE s.E a = true
  · obtain ⟨p0, h1, h2, h3⟩ := lrOf_some h
    rw [h3]
    intro e
    obtain ⟨i, hi, rfl⟩ := List.getElem_of_mem hp
    obtain ⟨j, hj, rfl⟩ := List.getElem_of_mem h1
    rw [List.pairwise_iff_getElem] at hs
    rcases Nat.lt_trichotomy i j with h4 | h4 | h4
    · exact hs i j hi hj h4 q hq e
    · subst h4; exact hne h2
    · exact hs j i hj hi h4 q e hq
  · rw [lrOf_none (by simpa using h)]
    simp [eL, ab]
theorem Cs.link_ok {s : Cs} (h : s.Ok) {a b : Ky} {l : Lr} (ha : a ∈ s.bl.map Bk.k) (hb : b ∈ s.bl.map Bk.k) (hl : l.ks = lnk s.E a ++ [b]) (hn : b ∉ lnk s.E a) : (s.link a l).Ok := by
  have hk : l.ks.Nodup ∧ ∀ k ∈ l.ks, k ∈ s.bl.map Bk.k := by
    have h0 : (lnk s.E a).Nodup ∧ ∀ k ∈ lnk s.E a, k ∈ s.bl.map Bk.k := by
      rw [lnk_lr]
      by_cases hh : hasE s.E a = true
      · obtain ⟨p, hp, _, e⟩ := lrOf_some hh
        rw [e]; exact h.tos p hp
      · rw [lrOf_none (by simpa using hh)]
        exact ⟨List.nodup_nil, by simp [eL]⟩
    rw [hl]
    refine ⟨List.nodup_append.2 ⟨h0.1, by simp, fun x hx y hy e => ?_⟩, fun k hk => ?_⟩
    · have : y = b := by simpa using hy
      exact hn (by rw [← this, ← e]; exact hx)
    · rcases List.mem_append.1 hk with hk | hk
      · exact h0.2 k hk
      · rw [List.mem_singleton.1 hk]; exact hb
  refine ⟨h.room, h.len, h.keys, h.kd, h.ct, h.code, h.fl, fun p hp => ?_, fun p hp => ?_⟩
  · obtain ⟨q, hq, rfl⟩ := List.mem_map.1 hp
    show (if q.1 = a then (q.1, l) else q).1 ∈ s.bl.map Bk.k
    have : (if q.1 = a then (q.1, l) else q).1 = q.1 := by split <;> rfl
    rw [this]
    rcases base_mem hq with h1 | h1
    · exact h.froms q h1
    · rw [h1]; exact ha
  · obtain ⟨q, hq, rfl⟩ := List.mem_map.1 hp
    by_cases e : q.1 = a
    · rw [if_pos e]; exact hk
    · rw [if_neg e]
      rcases base_mem hq with h1 | h1
      · exact h.tos q h1
      · rw [h1] at e; exact absurd rfl e
theorem Cch.linkB {w w3 : World} {g : Nat} {s : Cs} (h : Cch w g s) {a b : Ky} {l : Lr} (ha : a ∈ s.bl.map Bk.k) (hb : b ∈ s.bl.map Bk.k) (hl : l.ks = lnk s.E a ++ [b]) (hn : b ∉ lnk s.E a) (f : Fr (fun q => q = s.gm ∨ ab (lrOf s.E a).A = some q) w w3)
    (hm : ∃ bs clock, MapL Try.prog 31 kyv w3 s.gm ((putL (s.base a) a l).map ent) bs clock) (hr : LrOk w3 l) (hnew : ∀ q, ab l.A = some q → ab (lrOf s.E a).A = some q ∨ w.heap.size ≤ q) : Cch w3 g (s.link a l) := by
  have hS : ∀ q, (q = s.gm ∨ ab (lrOf s.E a).A = some q) → (q = s.gm ∨ ∃ p ∈ s.E, ab p.2.A = some q) := fun q e => by
    rcases e with e | e
    · exact .inl e
    · by_cases hh : hasE s.E a = true
      · obtain ⟨p, hp, _, e2⟩ := lrOf_some hh
        exact .inr ⟨p, hp, by rw [← e2]; exact e⟩
      · rw [lrOf_none (by simpa using hh)] at e
        exact absurd e (by simp [eL, ab])
  obtain ⟨t1, t2, t3, t4, t5⟩ := h.srt
  have hkd : (s.E.map (·.1)).Nodup := by
    obtain ⟨bs, clock, hm0⟩ := h.m
    have := hm0.kd
    rw [List.map_map] at this
    exact this
  refine ⟨h.b.fr f (fun e => (h.apart (hS _ e)).1 rfl), hm, h.r.fr f (fun q hq e => (h.apart (hS _ e)).2.1 hq), fun x hx => (h.code x hx).fr f (fun q hq e => (h.apart (hS _ e)).2.2 x hx hq), fun p hp => ?_, ?_, Cs.link_ok h.ok ha hb hl hn⟩
  · obtain ⟨q, hq, rfl⟩ := List.mem_map.1 hp
    by_cases e : q.1 = a
    · rw [if_pos e]; exact hr
    · rw [if_neg e]
      rcases base_mem hq with h1 | h1
      · refine (h.rows q h1).fr f (fun k hk e2 => ?_)
        rcases e2 with e2 | e2
        · have := t5 q h1 k hk
          rw [e2, t2] at this
          simp at this
        · exact apartL h.sep h1 e hk e2
      · rw [h1] at e; exact absurd rfl e
  · show (putL (s.base a) a l).Pairwise _
    unfold putL
    rw [List.pairwise_map]
    have hsep : (s.base a).Pairwise (fun p q => ∀ k, ab p.2.A = some k → ab q.2.A ≠ some k) := by
      unfold Cs.base
      by_cases hh : hasE s.E a = true
      · rw [if_pos hh]; exact h.sep
      · rw [if_neg hh, List.pairwise_append]
        refine ⟨h.sep, by simp, fun p hp q hq k hk => ?_⟩
        rw [List.mem_singleton.1 hq]
        simp [eL, ab]
    refine List.Pairwise.imp_of_mem ?_ ((base_nd hkd).and hsep)
    rintro p q hp hq ⟨h1, h2⟩ k
    have key : ∀ r ∈ s.base a, r.1 ≠ a → ∀ k, ab r.2.A = some k → ab l.A ≠ some k := fun r hr2 hne k hk e => by
      rcases base_mem hr2 with h3 | h3
      · rcases hnew k e with h4 | h4
        · exact apartL h.sep h3 hne hk h4
        · have := (h.rows r h3).low hk
          omega
      · rw [h3] at hne; exact hne rfl
    by_cases ep : p.1 = a
    · have eq : q.1 ≠ a := fun e => h1 (ep.trans e.symm)
      rw [if_pos ep, if_neg eq]
      exact fun e1 e2 => key q hq eq k e2 e1
    · rw [if_neg ep]
      by_cases eq : q.1 = a
      · rw [if_pos eq]
        exact fun e1 e2 => key p hp ep k e1 e2
      · rw [if_neg eq]
        exact h2 k
end Go.Proofs.Ytfjlgdafakbdoaa.Ca
