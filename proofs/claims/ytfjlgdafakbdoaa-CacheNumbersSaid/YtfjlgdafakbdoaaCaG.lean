/- Translations that are kept: what Put leaves, told of the cache. -/
import Derived.Test.YtfjlgdafakbdoaaCaF
namespace Go.Proofs.Ytfjlgdafakbdoaa.Ca
open Go.RowKit Mz Go.Maps
set_option linter.unusedVariables false
set_option linter.unusedSimpArgs false
set_option maxHeartbeats 4000000

theorem idx_spec (k : Ky) : ∀ (l : List Bk) (i : Nat), idx k l = i → i < l.length ∧ (nthB l i).k = k
  | [], i, h => by simp [idx] at h
  | b :: l, i, h => by
    rw [idx_cons] at h
    by_cases e : b.k = k
    · rw [if_pos e] at h
      have : i = 0 := by omega
      subst this
      exact ⟨by simp, e⟩
    · rw [if_neg e] at h
      by_cases e2 : idx k l < 0
      · rw [if_pos e2] at h; omega
      · rw [if_neg e2] at h
        obtain ⟨j, hj⟩ : ∃ j : Nat, idx k l = j := ⟨(idx k l).toNat, by omega⟩
        have ih := idx_spec k l j hj
        have : i = j + 1 := by omega
        subst this
        exact ⟨by simp; omega, ih.2⟩
theorem idx_none (k : Ky) : ∀ (l : List Bk), idx k l < 0 → k ∉ l.map Bk.k
  | [], _ => by simp
  | b :: l, h => by
    rw [idx_cons] at h
    by_cases e : b.k = k
    · rw [if_pos e] at h; omega
    · rw [if_neg e] at h
      have h2 : idx k l < 0 := by
        by_cases e2 : idx k l < 0
        · exact e2
        · rw [if_neg e2] at h; omega
      have ih := idx_none k l h2
      intro hm
      rcases List.mem_cons.1 hm with h3 | h3
      · exact e h3.symm
      · exact ih h3
theorem idx_neg (k : Ky) (l : List Bk) : idx k l < 0 ↔ k ∉ l.map Bk.k := by
  refine ⟨idx_none k l, fun h => ?_⟩
  by_cases e : idx k l < 0
  · exact e
  · obtain ⟨j, hj⟩ : ∃ j : Nat, idx k l = j := ⟨(idx k l).toNat, by omega⟩
    obtain ⟨h1, h2⟩ := idx_spec k l j hj
    rw [nthB_at h1] at h2
    exact absurd (by rw [← h2]; exact List.mem_map_of_mem (List.getElem_mem h1)) h
def Cs.set (s : Cs) (b : Bk) : Cs := { s.unlink b.k with bl := s.bl.set (idx b.k s.bl).toNat b }
def Cs.snoc (s : Cs) (b : Bk) (A : Option Addr) (c : Nat) : Cs := { s with bl := s.bl ++ [b], A := A, c := c }
/-- behind Put -/
def Cs.put (s : Cs) (b : Bk) (A : Option Addr) (c gm : Nat) : Cs :=
  if 0 ≤ idx b.k s.bl then s.set b else if s.room ≤ s.bl.length then (s.flush gm).snoc b A c else s.snoc b A c
def Bk.Ok (b : Bk) : Prop := b.k.Ok ∧ (1 ≤ b.ct ∧ b.ct ≤ 9223372036854775807) ∧ (b.code ≠ [] ∧ b.code.length ≤ 1000000 ∧ ∀ z ∈ b.code, 0 ≤ z ∧ z < 256)
theorem set_keys {l : List Bk} {i : Nat} {b : Bk} (hi : i < l.length) (e : (nthB l i).k = b.k) : (l.set i b).map Bk.k = l.map Bk.k := by
  rw [List.map_set]
  apply List.ext_getElem
  · simp
  · intro j h1 h2
    rw [List.getElem_set]
    split
    · rename_i h; subst h
      rw [← e, nthB_at hi]
      simp
    · rfl
theorem Cs.set_ok {s : Cs} (h : s.Ok) {b : Bk} (hb : b.Ok) {i : Nat} (hi : idx b.k s.bl = i) : (s.set b).Ok := by
  obtain ⟨h1, h2⟩ := idx_spec _ _ _ hi
  have hto : (idx b.k s.bl).toNat = i := by omega
  have hu := Cs.unlink_ok h b.k
  have hk := set_keys h1 h2
  have hm : ∀ x ∈ s.bl.set i b, x = b ∨ x ∈ s.bl := fun x hx => by
    rcases List.mem_or_eq_of_mem_set hx with e | e
    · exact .inr e
    · exact .inl e
  have e : s.set b = { s.unlink b.k with bl := s.bl.set i b } := by unfold Cs.set; rw [hto]
  rw [e]
  refine ⟨h.room, by show ((s.bl.set i b).length : Int) ≤ _; rw [List.length_set]; exact h.len, fun x hx => ?_, ?_, fun x hx => ?_, fun x hx => ?_, h.fl, fun p hp => ?_, fun p hp => ?_⟩
  · rcases hm x hx with rfl | hx
    · exact hb.1
    · exact h.keys x hx
  · show ((s.bl.set i b).map Bk.k).Nodup
    rw [hk]; exact h.kd
  · rcases hm x hx with rfl | hx
    · exact hb.2.1
    · exact h.ct x hx
  · rcases hm x hx with rfl | hx
    · exact hb.2.2
    · exact h.code x hx
  · show p.1 ∈ (s.bl.set i b).map Bk.k
    rw [hk]; exact hu.froms p hp
  · show _ ∧ ∀ k ∈ p.2.ks, k ∈ (s.bl.set i b).map Bk.k
    rw [hk]; exact hu.tos p hp
theorem Cs.snoc_ok {s : Cs} (h : s.Ok) {b : Bk} (hb : b.Ok) (hi : idx b.k s.bl < 0) (hl : (s.bl.length : Int) < s.room) (A : Option Addr) (c : Nat) : (s.snoc b A c).Ok := by
  have hn := idx_none _ _ hi
  refine ⟨h.room, by show ((s.bl ++ [b]).length : Int) ≤ s.room; rw [List.length_append]; show ((s.bl.length + 1 : Nat) : Int) ≤ s.room; omega, fun x hx => ?_, ?_, fun x hx => ?_, fun x hx => ?_, h.fl, fun p hp => ?_, fun p hp => ?_⟩
  · rcases List.mem_append.1 hx with hx | hx
    · exact h.keys x hx
    · rw [List.mem_singleton.1 hx]; exact hb.1
  · show ((s.bl ++ [b]).map Bk.k).Nodup
    rw [List.map_append, List.nodup_append]
    refine ⟨h.kd, by simp, fun a ha c hc e => ?_⟩
    simp at hc
    subst hc
    exact hn (e ▸ ha)
  · rcases List.mem_append.1 hx with hx | hx
    · exact h.ct x hx
    · rw [List.mem_singleton.1 hx]; exact hb.2.1
  · rcases List.mem_append.1 hx with hx | hx
    · exact h.code x hx
    · rw [List.mem_singleton.1 hx]; exact hb.2.2
  · show p.1 ∈ (s.bl ++ [b]).map Bk.k
    rw [List.map_append]; exact List.mem_append_left _ (h.froms p hp)
  · have := h.tos p hp
    refine ⟨this.1, fun k hk => ?_⟩
    show k ∈ (s.bl ++ [b]).map Bk.k
    rw [List.map_append]; exact List.mem_append_left _ (this.2 k hk)
/-- a block is written over another one -/
theorem Cch.setB {w : World} {g : Nat} {s : Cs} {b : Bk} {i gl : Nat} (h : Cch w g (s.unlink b.k)) (hok : s.Ok) (hb : b.Ok) (hi : idx b.k s.bl = i) (hc : CodeOk w b) (hA : s.A = some ⟨gl, 0, none⟩) : Cch (wr4 w gl i b) g (s.set b) := by
  obtain ⟨h1, h2⟩ := idx_spec _ _ _ hi
  have hto : (idx b.k s.bl).toNat = i := by omega
  have f : Fr (· = gl) w (wr4 w gl i b) := wr4_fr w gl i b rfl
  obtain ⟨t1, t2, t3, t4, t5⟩ := h.srt
  have tl : Ca.srt w gl = some (some 34) := t3 gl (by show ab s.A = _; rw [hA]; rfl)
  obtain ⟨bs, clock, hm⟩ := h.m
  have hok2 := Cs.set_ok hok hb hi
  have e : s.set b = { s.unlink b.k with bl := s.bl.set i b } := by unfold Cs.set; rw [hto]
  rw [e] at hok2 ⊢
  have hlen : (s.bl.set i b).length = s.bl.length := List.length_set
  have hcells : cells4 { s.unlink b.k with bl := s.bl.set i b } = cells4 (s.unlink b.k) := by
    show #[_, Value.slice s.A (s.bl.set i b).length s.c, _, _] = _
    rw [hlen]; rfl
  refine ⟨?_, ⟨bs, clock, hm.fr f (fun e => by rw [e, tl] at t2; simp at t2)⟩, ?_, fun x hx => ?_, fun p hp => (h.rows p hp).fr f (fun q hq e => by have := t5 p hp q hq; rw [e, tl] at this; simp at this), h.sep, hok2⟩
  · rw [hcells]
    exact h.b.fr f (fun e => by rw [e, tl] at t1; simp at t1)
  · rcases h.r with ⟨e1, _⟩ | ⟨gl2, e2, h3, h4⟩
    · exact absurd e1 (by show s.bl ≠ []; intro e1; rw [e1] at h1; simp at h1)
    · have e2 : s.A = some ⟨gl2, 0, none⟩ := e2
      rw [hA] at e2
      injection e2 with e2
      injection e2 with e2
      subst e2
      have h3 : Row_b w gl s.c s.bl.length (nthB s.bl) := h3
      refine .inr ⟨gl, hA, ?_, h4⟩
      show Row_b _ gl s.c (s.bl.set i b).length (nthB (s.bl.set i b))
      rw [hlen]
      exact h3.put rfl i h1 b
  · have hcx : CodeOk w x := by
      rcases List.mem_or_eq_of_mem_set hx with e | e
      · exact h.code x e
      · rw [e]; exact hc
    exact hcx.fr f (fun q hq e => by have := hcx.srt hq; rw [e, tl] at this; simp at this)
theorem bcells_snoc (l : List Bk) (b : Bk) : bcells (l ++ [b]) = bcells l ++ [.int .u32 b.pc, .int .u32 b.pl, .slice b.A b.code.length b.c, .int .i64 b.ct] := by
  unfold bcells fcells
  rw [List.flatMap_append]
  rfl
/-- a block is put behind the others -/
theorem Cch.snocB {w w6 : World} {g : Nat} {s : Cs} {b : Bk} (h : Cch w g s) (hb : b.Ok) (hi : idx b.k s.bl < 0) (hl : (s.bl.length : Int) < s.room) {base : Nat} {A2 : Option Addr} {c2 : Nat} (f : Fr (fun q => ab s.A = some q) w w6) (hc : CodeOk w6 b)
    (ho : w6.ownsRow base 34 4 (.slice A2 (s.bl.length + 1) c2) (s.bl.length + 1) (bcells (s.bl ++ [b]))) : Cch (w6.setCell ⟨g, 1, none⟩ (.slice A2 (s.bl.length + 1) c2)) g (s.snoc b A2 c2) := by
  obtain ⟨t1, t2, t3, t4, t5⟩ := h.srt
  have f2 : Fr (· = g) w6 (w6.setCell ⟨g, 1, none⟩ (.slice A2 (s.bl.length + 1) c2)) := Fr.set1 _ _ _ _
  have hbg := h.b.fr f (fun e => by rw [t3 g e] at t1; simp at t1)
  have tg := srt_blk hbg
  obtain ⟨bs, clock, hm⟩ := h.m
  have hm6 := hm.fr f (fun e => by rw [t3 _ e] at t2; simp at t2)
  have tm := srt_map hm6.b
  have hlen : (s.bl ++ [b]).length = s.bl.length + 1 := by simp
  have hr : BRow w6 A2 c2 (s.bl ++ [b]) := BRow.of_own (base := base) (by rw [hlen]; exact ho)
  refine ⟨?_, ⟨bs, clock, hm6.fr f2 (fun e => by have e : s.gm = g := e; rw [e, tg] at tm; simp at tm)⟩, hr.fr f2 (fun q hq e => by have := hr.srt hq; rw [e, tg] at this; simp at this), fun x hx => ?_, fun p hp => ?_, h.sep, Cs.snoc_ok h.ok hb hi hl A2 c2⟩
  · have e : cells4 (s.snoc b A2 c2) = (cells4 s).setIfInBounds 1 (.slice A2 (s.bl.length + 1) c2) := by
      show #[_, Value.slice A2 (s.bl ++ [b]).length c2, _, _] = _
      rw [hlen]; rfl
    rw [e]
    exact hbg.set_ 1 _
  · have hcx : CodeOk w6 x := by
      rcases List.mem_append.1 hx with hx | hx
      · exact (h.code x hx).fr f (fun q hq e => by have := t4 x hx q hq; rw [t3 q e] at this; simp at this)
      · rw [List.mem_singleton.1 hx]; exact hc
    exact hcx.fr f2 (fun q hq e => by have := hcx.srt hq; rw [e, tg] at this; simp at this)
  · have h6 := (h.rows p hp).fr f (fun q hq e => by have := t5 p hp q hq; rw [t3 q e] at this; simp at this)
    exact h6.fr f2 (fun q hq e => by have := h6.srt hq; rw [e, tg] at this; simp at this)
end Go.Proofs.Ytfjlgdafakbdoaa.Ca
