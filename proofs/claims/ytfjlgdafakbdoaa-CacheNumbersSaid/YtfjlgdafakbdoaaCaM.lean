/- Translations that are kept: Drop. -/
import Derived.Test.YtfjlgdafakbdoaaCaL
import Derived.Deep.RegionHeld
namespace Go.Proofs.Ytfjlgdafakbdoaa.Ca
open Go.RowKit Mz Go.Maps
set_option linter.unusedVariables false
set_option linter.unusedSimpArgs false
set_option maxHeartbeats 4000000

/-- behind the closure at these blocks -/
def Cs.upto (s : Cs) (ps : List Int) (l : List Bk) : Cs := l.foldl (fun s b => s.drop1 ps b) s
def cntG (ps : List Int) (l : List Bk) : Nat := (l.filter (gone ps)).length
/-- behind Drop -/
def Cs.drop (s : Cs) (ps : List Int) : Cs := { s with E := (s.upto ps s.bl).E, bl := s.bl.filter (fun b => !gone ps b) }
theorem drop1_same (s : Cs) (ps : List Int) (b : Bk) : (s.drop1 ps b).gm = s.gm ∧ (s.drop1 ps b).bl = s.bl ∧ (s.drop1 ps b).A = s.A := by
  unfold Cs.drop1
  split <;> exact ⟨rfl, rfl, rfl⟩
theorem upto_gm (ps : List Int) : ∀ (l : List Bk) (s : Cs), (s.upto ps l).gm = s.gm
  | [], s => rfl
  | b :: l, s => by
    show ((s.drop1 ps b).upto ps l).gm = _
    rw [upto_gm ps l, (drop1_same s ps b).1]
theorem upto_E (ps : List Int) : ∀ (l : List Bk) (s : Cs), ∀ p ∈ (s.upto ps l).E, (∀ b ∈ l, gone ps b = true → p.1 ≠ b.k ∧ b.k ∉ p.2.ks) ∧ ∃ p' ∈ s.E, p.1 = p'.1 ∧ p.2.A = p'.2.A ∧ p.2.ks.Sublist p'.2.ks
  | [], s, p, hp => ⟨by simp, p, hp, rfl, rfl, List.Sublist.refl _⟩
  | b :: l, s, p, hp => by
    have hp : p ∈ ((s.drop1 ps b).upto ps l).E := hp
    obtain ⟨h1, p', hp', e1, e2, e3⟩ := upto_E ps l _ p hp
    unfold Cs.drop1 at hp'
    by_cases hg : gone ps b = true
    · rw [if_pos hg] at hp'
      obtain ⟨q, hq, rfl⟩ := List.mem_map.1 hp'
      obtain ⟨hq1, hq2⟩ := List.mem_filter.1 hq
      have hne : q.1 ≠ b.k := by simpa using hq2
      have hns : b.k ∉ (strip b.k q.2).ks := fun e => by have := (List.mem_filter.1 e).2; simp at this
      refine ⟨fun x hx hgx => ?_, q, hq1, e1, e2, e3.trans List.filter_sublist⟩
      rcases List.mem_cons.1 hx with rfl | hx
      · exact ⟨by rw [e1]; exact hne, fun e => hns (e3.subset e)⟩
      · exact h1 x hx hgx
    · rw [if_neg hg] at hp'
      refine ⟨fun x hx hgx => ?_, p', hp', e1, e2, e3⟩
      rcases List.mem_cons.1 hx with rfl | hx
      · exact absurd hgx hg
      · exact h1 x hx hgx
theorem upto_snoc (ps : List Int) (s : Cs) (l : List Bk) (b : Bk) : s.upto ps (l ++ [b]) = (s.upto ps l).drop1 ps b := by
  unfold Cs.upto
  rw [List.foldl_append]
  rfl
theorem cntG_snoc (ps : List Int) (l : List Bk) (b : Bk) : cntG ps (l ++ [b]) = cnt1 (cntG ps l) ps b := by
  unfold cntG cnt1
  rw [List.filter_append, List.length_append]
  by_cases h : gone ps b = true
  · rw [if_pos h, List.filter_cons, if_pos h]; rfl
  · rw [if_neg h, List.filter_cons, if_neg h]; rfl
theorem take_snoc {l : List Bk} {q : Nat} (h : q < l.length) : l.take (q + 1) = l.take q ++ [nthB l q] := by
  rw [List.take_add_one, List.getElem?_eq_getElem h, nthB_at h]
  rfl
theorem cntG_le (ps : List Int) (l : List Bk) : cntG ps l ≤ l.length := List.length_filter_le _ _
theorem Cs.drop_ok {s : Cs} (h : s.Ok) (ps : List Int) : (s.drop ps).Ok := by
  have hs : ∀ b ∈ s.bl.filter (fun b => !gone ps b), b ∈ s.bl := fun b hb => (List.mem_filter.1 hb).1
  have hk : ∀ x, x ∈ s.bl.map Bk.k → (∀ b ∈ s.bl, gone ps b = true → x ≠ b.k) → x ∈ (s.bl.filter (fun b => !gone ps b)).map Bk.k := fun x hx hn => by
    obtain ⟨b, hb, rfl⟩ := List.mem_map.1 hx
    refine List.mem_map_of_mem (List.mem_filter.2 ⟨hb, ?_⟩)
    cases hg : gone ps b with
    | false => rfl
    | true => exact absurd rfl (hn b hb hg)
  refine ⟨h.room, ?_, fun b hb => h.keys b (hs b hb), h.kd.sublist (List.filter_sublist.map _), fun b hb => h.ct b (hs b hb), fun b hb => h.code b (hs b hb), h.fl, fun p hp => ?_, fun p hp => ?_⟩
  · have h1 : (s.bl.filter (fun b => !gone ps b)).length ≤ s.bl.length := List.length_filter_le _ _
    have := h.len
    show ((s.bl.filter (fun b => !gone ps b)).length : Int) ≤ s.room
    omega
  · obtain ⟨h1, p', hp', e1, e2, e3⟩ := upto_E ps s.bl s p hp
    exact hk _ (by rw [e1]; exact h.froms p' hp') (fun b hb hg => (h1 b hb hg).1)
  · obtain ⟨h1, p', hp', e1, e2, e3⟩ := upto_E ps s.bl s p hp
    have := h.tos p' hp'
    exact ⟨this.1.sublist e3, fun k hk2 => hk k (this.2 k (e3.subset hk2)) (fun b hb hg e => (h1 b hb hg).2 (e ▸ hk2))⟩
theorem kept_mapB (l : List Bk) (q : Bk → Bool) : (kept (fun t => !q (nthB l t)) l.length).map (nthB l) = l.filter q := by
  have e : (List.range l.length).map (nthB l) = l := by
    apply List.ext_getElem
    · simp
    · intro i h1 h2
      simp [nthB_at h2]
  unfold kept
  have : (fun t => !!q (nthB l t)) = q ∘ nthB l := by funext t; simp
  rw [this, ← List.filter_map, e]
/-- blocks that Drop may write -/
def Cs.sx (s : Cs) (q : Nat) : Prop := ab s.A = some q ∨ q = s.gm ∨ ∃ p ∈ s.E, ab p.2.A = some q
/-- what stands while blocks are looked at -/
structure Mid (w : World) (g gp gc gn : Nat) (s : Cs) (ps : List Int) (pA : Option Addr) (np pc : Nat) (q : Nat) (W : World) : Prop where
  lk : LK W g (s.upto ps (s.bl.take q))
  b : Blk W g 60 (cells4 s)
  bp : Blk W gp 45 #[.slice pA np pc]
  bc : Blk W gc 24 #[.pointer (some ⟨g, 0, none⟩)]
  bn : Blk W gn 3 #[.int .i64 (cntG ps (s.bl.take q) : Nat)]
  fr : Fr s.sx w W
theorem Mid.fr' {w W W' : World} {g gp gc gn : Nat} {s : Cs} {ps : List Int} {pA : Option Addr} {np pc q : Nat} (h : Mid w g gp gc gn s ps pA np pc q W) {gl : Nat} (hA : ab s.A = some gl) (hc : Cch w g s) (h1 : w.heap.size ≤ gp) (h2 : w.heap.size ≤ gc) (h3 : w.heap.size ≤ gn) (f : Fr (· = gl) W W') : Mid w g gp gc gn s ps pA np pc q W' := by
  obtain ⟨t1, t2, t3, t4, t5⟩ := hc.srt
  have hgl : gl < w.heap.size := by
    rcases hc.r with ⟨_, e, _⟩ | ⟨gl2, e, hr, _⟩
    · rw [e] at hA; cases hA
    · rw [e] at hA
      have e2 : gl2 = gl := by simpa [ab] using hA
      subst e2
      obtain ⟨F, hF, _⟩ := hr
      exact hF.lt
  have hg : g ≠ gl := fun e => by have := t3 gl hA; rw [← e, t1] at this; simp at this
  refine ⟨h.lk.fr f hg (fun e => ?_) (fun p hp q2 hq e => ?_), h.b.fr f hg, h.bp.fr f (fun e => by omega), h.bc.fr f (fun e => by omega), h.bn.fr f (fun e => by omega), h.fr.tr (f.mono (fun q2 _ e => .inl (by rw [e]; exact hA)))⟩
  · rw [upto_gm] at e
    have e : s.gm = gl := e
    have := t3 gl hA
    rw [← e, t2] at this
    simp at this
  · obtain ⟨_, p', hp', _, e2, _⟩ := upto_E ps _ s p hp
    have e : q2 = gl := e
    subst e
    have h4 := t5 p' hp' q2 (by rw [← e2]; exact hq)
    rw [t3 q2 hA] at h4
    simp at h4
theorem del_any (w w0 : World) (g gp gc gn : Nat) (s : Cs) (hc : Cch w g s) (ps : List Int) (B np pc : Nat) (pA : Option Addr) (hp : ∀ W, Fr s.sx w W → IntsAt .i64 W B pA np ps) (hm : np ≤ maxLen) (hB : B ≤ w.heap.size) (h1 : w.heap.size ≤ gp) (h2 : w.heap.size ≤ gc) (h3 : w.heap.size ≤ gn) (hne : gp ≠ gn) (hcn : gc ≠ gn) (h0 : Mid w g gp gc gn s ps pA np pc 0 w0) (hw0 : Fr (fun _ => False) w w0) :
    Calls Try.prog 28 #[.slice s.A s.bl.length s.c, .func (.func 29) #[] #[.pointer (some ⟨gp, 0, none⟩), .pointer (some ⟨gc, 0, none⟩), .pointer (some ⟨gn, 0, none⟩)]] w0 fun e w' => e = .returned (.slice s.A (s.drop ps).bl.length s.c) ∧ BRow w' s.A s.c (s.drop ps).bl ∧ Mid w g gp gc gn s ps pA np pc s.bl.length w' := by
  have hlen := hc.ok.len
  have hroom := hc.ok.room
  rcases hc.r with ⟨e1, e2, e3⟩ | ⟨gl, hA, hrow, hcm⟩
  · have hbl : (s.drop ps).bl = [] := by show s.bl.filter _ = []; rw [e1]; rfl
    rw [hbl, e1, e2, e3]
    rw [show ([] : List Bk).length = 0 from rfl] at *
    have Hi := Lib.hid (index_b w0 none 0 0 (by omega) (fun _ => dBk) 29 #[.pointer (some ⟨gp, 0, none⟩), .pointer (some ⟨gc, 0, none⟩), .pointer (some ⟨gn, 0, none⟩)] (fun args W => by rfl) (fun q W => w0 = W) (fun _ => false) rfl (fun q W _ q' hq => absurd hq (by omega)) (fun q W hq => absurd hq (by omega)))
    have H0 := Lib.hid h0
    clear h0 hc hp
    go_enter Try.func28, Try.ntmps28
    go_wp2_with fail
    refine (Hi.out).mono ?_
    rintro e w' (⟨m, hm, _⟩ | ⟨rfl, _, rfl⟩)
    · omega
    · go_wp2_with fail
      go_ret
      exact ⟨rfl, .inl ⟨rfl, rfl, rfl⟩, H0.out⟩
  · have hgl : gl < w.heap.size := by obtain ⟨F, hF, _⟩ := hrow; exact hF.lt
    have hAb : ab s.A = some gl := by rw [hA]; rfl
    have hs0 := h0.fr.size
    have hsw0 : w.heap.size ≤ w0.heap.size := hs0
    have hgw : g < w.heap.size := hc.b.lt
    obtain ⟨t1, t2, t3, t4, t5⟩ := hc.srt
    have hgmw : s.gm < w.heap.size := by obtain ⟨_, _, hm0⟩ := hc.m; exact hm0.bound
    have hrl : ∀ p ∈ s.E, ∀ q, ab p.2.A = some q → q < w.heap.size := fun p hp q e => (hc.rows p hp).low e
    have hrow0 : Row_b w0 gl s.c s.bl.length (nthB s.bl) := hrow.fr hw0 (fun e => e)
    have Hd := delete_b w0 gl s.bl.length s.c (nthB s.bl) hrow0 (by omega) hcm 29 #[.pointer (some ⟨gp, 0, none⟩), .pointer (some ⟨gc, 0, none⟩), .pointer (some ⟨gn, 0, none⟩)] (fun args W => by rfl) (fun q => q = gn ∨ q = s.gm ∨ ∃ p ∈ s.E, ab p.2.A = some q)
      ⟨fun e => by
        rcases e with e | e | ⟨p, hp, e⟩
        · omega
        · have := t3 gl hAb; rw [e, t2] at this; simp at this
        · have h4 := t5 p hp gl e; rw [t3 gl hAb] at h4; simp at h4, fun k e => by
        rcases e with e | e | ⟨p, hp, e⟩
        · rw [e]; exact h0.bn.lt
        · omega
        · have := hrl p hp k e; omega⟩
      (Mid w g gp gc gn s ps pA np pc) (fun q => gone ps (nthB s.bl q)) h0 (fun q W W' h f => h.fr' hAb hc h1 h2 h3 f)
      (fun q W hq h => by
        have hmem : nthB s.bl q ∈ s.bl := by rw [nthB_at hq]; exact List.getElem_mem hq
        have hky := hc.ok.keys _ hmem
        have hsW := h.fr.size
        have h5 : (nthB s.bl q).pl ≤ 4294967295 := hky.2.2
        have h6 : 0 ≤ (nthB s.bl q).pl := hky.2.1
        have hcnt : cntG ps (s.bl.take q) ≤ 1000000 := by
          have g1 := cntG_le ps (s.bl.take q)
          have g2 : (s.bl.take q).length ≤ s.bl.length := by rw [List.length_take]; omega
          omega
        refine (drop1_any W g gp gc gn w.heap.size (s.upto ps (s.bl.take q)) h.lk (nthB s.bl q) hky ⟨h6, by omega⟩ ps B np pc pA (hp W h.fr) hm (by omega) (cntG ps (s.bl.take q)) hcnt h.bp h.bc h.bn hgw (by rw [upto_gm]; exact hgmw) (fun p hp q2 hq2 => ?_) h3 h2 hcn).mono ?_
        · obtain ⟨_, p', hp', _, e2, _⟩ := upto_E ps _ s p hp
          exact hrl p' hp' q2 (by rw [← e2]; exact hq2)
        · rintro e w' ⟨g1, g2, g3, g4⟩
          have g4' : Fr (fun q => q = gn ∨ q = s.gm ∨ ∃ p ∈ s.E, ab p.2.A = some q) W w' := g4.mono (fun q2 _ e => by
            rcases e with e | e | ⟨p, hp, e⟩
            · exact .inl e
            · exact .inr (.inl (by rw [upto_gm] at e; exact e))
            · obtain ⟨_, p', hp', _, e2, _⟩ := upto_E ps _ s p hp
              exact .inr (.inr ⟨p', hp', by rw [← e2]; exact e⟩))
          have hno : ∀ q2, w.heap.size ≤ q2 → q2 ≠ gn → ¬ (q2 = gn ∨ q2 = s.gm ∨ ∃ p ∈ s.E, ab p.2.A = some q2) := fun q2 hq2 hne2 e => by
            rcases e with e | e | ⟨p, hp, e⟩
            · exact hne2 e
            · omega
            · have := hrl p hp q2 e; omega
          refine ⟨g1, ⟨?_, h.b.fr g4' (fun e => ?_), h.bp.fr g4' (hno gp h1 hne), h.bc.fr g4' (hno gc h2 hcn), ?_, h.fr.trans g4' (fun q2 hq2 e => ?_)⟩, g4'⟩
          · rw [take_snoc hq, upto_snoc]; exact g2
          · rcases e with e | e | ⟨p, hp, e⟩
            · omega
            · rw [e, t2] at t1; simp at t1
            · have h4 := t5 p hp g e; rw [t1] at h4; simp at h4
          · rw [take_snoc hq, cntG_snoc]; exact g3
          · rcases e with e | e
            · omega
            · exact .inr e)
    rw [hA]
    refine Hd.mono ?_
    rintro e w' ⟨g1, g2, g3⟩
    have hk := kept_mapB s.bl (fun b => !gone ps b)
    simp only [Bool.not_not] at hk
    have hkl : (kept (fun q => gone ps (nthB s.bl q)) s.bl.length).length = (s.drop ps).bl.length := by
      show _ = (s.bl.filter _).length
      rw [← hk, List.length_map]
    refine ⟨by rw [g1, hkl], .inr ⟨gl, rfl, ?_, hcm⟩, g2⟩
    rw [hkl] at g3
    obtain ⟨F, q1, q2, q3⟩ := g3
    refine ⟨F, q1, q2, fun q hq c hc => ?_⟩
    rw [q3 q hq c hc]
    congr 1
    show nthB s.bl _ = nthB (s.bl.filter _) q
    rw [← hk]
    have hq2 : q < (kept (fun q => gone ps (nthB s.bl q)) s.bl.length).length := by rw [hkl]; exact hq
    show _ = List.getD (List.map _ _) q dBk
    rw [List.getD_eq_getElem?_getD (l := List.map _ _), List.getElem?_map, List.getD_eq_getElem?_getD (l := kept _ _), List.getElem?_eq_getElem hq2]
    rfl
end Go.Proofs.Ytfjlgdafakbdoaa.Ca
