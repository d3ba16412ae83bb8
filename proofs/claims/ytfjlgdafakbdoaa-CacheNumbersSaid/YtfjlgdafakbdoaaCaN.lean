/- Translations that are kept: Drop, whole. -/
import Derived.Test.YtfjlgdafakbdoaaCaM
import Derived.Deep.RegionLaw
namespace Go.Proofs.Ytfjlgdafakbdoaa.Ca
open Go.RowKit Mz Go.Maps
set_option linter.unusedVariables false
set_option linter.unusedSimpArgs false
set_option maxHeartbeats 4000000

def DropPost (w : World) (g : Nat) (s : Cs) (ps : List Int) (e : Ending) (w' : World) : Prop :=
  e = .returned (.int .i64 (cntG ps s.bl : Nat)) ∧ Cch w' g (s.drop ps) ∧ Fr (s.wr g) w w' ∧ ∀ q, (s.drop ps).own g q → s.own g q
theorem sx_wr {s : Cs} {g q : Nat} (h : s.sx q) : s.wr g q := by
  rcases h with h | h | h
  · exact .inr (.inl h)
  · exact .inr (.inr (.inl h))
  · exact .inr (.inr (.inr h))
theorem drop_cch {w W : World} {g gp gc gn : Nat} {s : Cs} {ps : List Int} {pA : Option Addr} {np pc : Nat} (h : Cch w g s) (hm : Mid w g gp gc gn s ps pA np pc s.bl.length W) (hr : BRow W s.A s.c (s.drop ps).bl) : Cch (W.setCell ⟨g, 1, none⟩ (.slice s.A (s.drop ps).bl.length s.c)) g (s.drop ps) := by
  have f : Fr (· = g) W (W.setCell ⟨g, 1, none⟩ (.slice s.A (s.drop ps).bl.length s.c)) := Fr.set1 _ _ _ _
  have tg := srt_blk hm.b
  have hE : s.upto ps (s.bl.take s.bl.length) = s.upto ps s.bl := by rw [List.take_length]
  have hlk := hm.lk
  rw [hE] at hlk
  obtain ⟨t1, t2, t3, t4, t5⟩ := h.srt
  refine ⟨?_, ?_, hr.fr f (fun q hq e => by have := hr.srt hq; rw [e, tg] at this; simp at this), fun x hx => ?_, fun p hp => ?_, hlk.sep, Cs.drop_ok h.ok ps⟩
  · have e : cells4 (s.drop ps) = (cells4 s).setIfInBounds 1 (.slice s.A (s.drop ps).bl.length s.c) := rfl
    rw [e]
    exact hm.b.set_ 1 _
  · obtain ⟨bs, clock, hmm⟩ := hlk.m
    rw [upto_gm] at hmm
    exact ⟨bs, clock, hmm.fr f (fun e => by have e : s.gm = g := e; have := srt_map hmm.b; rw [e, tg] at this; simp at this)⟩
  · have hx0 : x ∈ s.bl := (List.mem_filter.1 hx).1
    have hcx := (h.code x hx0).fr hm.fr (fun q hq e => by
      have h4 := t4 x hx0 q hq
      rcases e with e | e | ⟨p, hp, e⟩
      · rw [t3 q e] at h4; simp at h4
      · rw [e, t2] at h4; simp at h4
      · rw [t5 p hp q e] at h4; simp at h4)
    exact hcx.fr f (fun q hq e => by have := hcx.srt hq; rw [e, tg] at this; simp at this)
  · exact (hlk.rows p hp).fr f (fun q hq e => by have := (hlk.rows p hp).srt hq; rw [e, tg] at this; simp at this)
set_option maxRecDepth 100000 in
theorem drop_any (w : World) (g : Nat) (s : Cs) (h : Cch w g s) (ps : List Int) (B np pc : Nat) (pA : Option Addr) (hp : ∀ W, Fr s.sx w W → IntsAt .i64 W B pA np ps) (hm : np ≤ maxLen) (hB : B ≤ w.heap.size) :
    Calls Try.prog 19 #[.pointer (some ⟨g, 0, none⟩), .slice pA np pc] w (DropPost w g s ps) := by
  have f1 := (Fr.refl (fun _ => False) w).alloc (.cells #[.pointer (some ⟨g, 0, none⟩)] 24)
  have s1 : (w.alloc (.cells #[.pointer (some ⟨g, 0, none⟩)] 24)).heap.size = w.heap.size + 1 := by simp
  have f2 := f1.alloc (.cells #[.slice pA np pc] 45)
  have s2 : ((w.alloc (.cells #[.pointer (some ⟨g, 0, none⟩)] 24)).alloc (.cells #[.slice pA np pc] 45)).heap.size = w.heap.size + 2 := by simp
  have f3 := f2.alloc (.cells #[.int .i64 0] 3)
  have bc := ((Blk.new w 24 #[.pointer (some ⟨g, 0, none⟩)]).alloc (.cells #[.slice pA np pc] 45)).alloc (.cells #[.int .i64 0] 3)
  have bp := ((Blk.new' (w.alloc (.cells #[.pointer (some ⟨g, 0, none⟩)] 24)) 45 #[.slice pA np pc] s1)).alloc (.cells #[.int .i64 0] 3)
  have bn := Blk.new' ((w.alloc (.cells #[.pointer (some ⟨g, 0, none⟩)] 24)).alloc (.cells #[.slice pA np pc] 45)) 3 #[.int .i64 0] s2
  have h3 := h.fr0 f3
  obtain ⟨c0, c1, c2, c3⟩ := h3.cells
  have hgl := h.b.lt
  have HC := Lib.hid h
  have F3 := Lib.hid f3
  generalize hw3 : ((w.alloc (.cells #[.pointer (some ⟨g, 0, none⟩)] 24)).alloc (.cells #[.slice pA np pc] 45)).alloc (.cells #[.int .i64 0] 3) = w3 at *
  have hmid : Mid w g (w.heap.size + 1) w.heap.size (w.heap.size + 2) s ps pA np pc 0 w3.drew := ⟨(h3.fr0 ((Fr.refl _ w3).drew)).lk, h3.b.drew, bp.drew, bc.drew, bn.drew, (f3.mono (fun _ _ e => e.elim)).drew⟩
  have Hd := Lib.hid (del_any w w3.drew g (w.heap.size + 1) w.heap.size (w.heap.size + 2) s h ps B np pc pA hp hm hB (by omega) (by omega) (by omega) (by omega) (by omega) hmid (f3.drew))
  have k0 : w3.cell? ⟨w.heap.size, 0, none⟩ = some (.pointer (some ⟨g, 0, none⟩)) := bc.cell 0
  obtain ⟨sn, hsn⟩ : ∃ q, s.bl.length = q := ⟨_, rfl⟩
  obtain ⟨sA, hsA⟩ : ∃ q, s.A = q := ⟨_, rfl⟩
  obtain ⟨sc, hsc⟩ : ∃ q, s.c = q := ⟨_, rfl⟩
  obtain ⟨dn, hdn⟩ : ∃ q, (s.drop ps).bl.length = q := ⟨_, rfl⟩
  have HD2 : Hid (Calls Try.prog 28 #[.slice sA sn sc, .func (.func 29) #[] #[.pointer (some ⟨w.heap.size + 1, 0, none⟩), .pointer (some ⟨w.heap.size, 0, none⟩), .pointer (some ⟨w.heap.size + 2, 0, none⟩)]] w3.drew fun e w' => e = .returned (.slice sA dn sc) ∧ Hid (BRow w' s.A s.c (s.drop ps).bl) ∧ Hid (Mid w g (w.heap.size + 1) w.heap.size (w.heap.size + 2) s ps pA np pc s.bl.length w')) := Lib.hid (by
    have := Hd.out
    rw [hsn, hsA, hsc, hdn] at this
    rw [hsn, hsA, hsc]
    exact this.mono fun e w' ⟨g1, g2, g3⟩ => ⟨g1, Lib.hid g2, Lib.hid g3⟩)
  rw [hsn, hsA, hsc] at c1
  have HDN := Lib.hid hdn
  have HSA := Lib.hid hsA
  have HSC := Lib.hid hsc
  have HSN := Lib.hid hsn
  obtain ⟨cn, hcn⟩ : ∃ q, cntG ps s.bl = q := ⟨_, rfl⟩
  have HCN := Lib.hid hcn
  have hdp : DropPost w g s ps = fun e w' => e = .returned (.int .i64 (cn : Nat)) ∧ Hid (Cch w' g (s.drop ps) ∧ Fr (s.wr g) w w' ∧ ∀ q, (s.drop ps).own g q → s.own g q) := by unfold DropPost; rw [hcn]; rfl
  have HOWN : Hid (∀ q, (s.drop ps).own g q → s.own g q) := Lib.hid (by
    rintro q ((e | e | e | ⟨p, hp, e⟩) | ⟨x, hx, e⟩)
    · exact .inl (.inl e)
    · exact .inl (.inr (.inl e))
    · exact .inl (.inr (.inr (.inl e)))
    · obtain ⟨_, p', hp', _, e2, _⟩ := upto_E ps _ s p hp
      exact .inl (.inr (.inr (.inr ⟨p', hp', by rw [← e2]; exact e⟩)))
    · exact .inr ⟨x, (List.mem_filter.1 hx).1, e⟩)
  rw [hdp]
  subst hw3
  clear h h3 hmid Hd bc bp bn f1 f2 f3 hp s1 s2 c0 c2 c3 hdp hsn hsA hsc hdn hcn
  go_enter Try.func19, Try.ntmps19
  go_upto_region 2 with (fail)
  generalize ((w.alloc (.cells #[.pointer (some ⟨g, 0, none⟩)] 24)).alloc (.cells #[.slice pA np pc] 45)).alloc (.cells #[.int .i64 0] 3) = w3 at *
  go_region_law (
    go_simp
    refine (HD2.out).mono ?_
    rintro e w5 ⟨rfl, hb5, hm5⟩
    have k5 : w5.cell? ⟨w.heap.size, 0, none⟩ = some (.pointer (some ⟨g, 0, none⟩)) := hm5.out.bc.cell 0
    have z1 : ∃ v, w5.cell? ⟨g, 1, none⟩ = some v := ⟨_, hm5.out.b.cell 1⟩
    obtain ⟨z, hz⟩ := z1
    have y1 := hm5.out.b.frozen 1
    have hl5 := hm5.out.b.lt)
  all_goals
    have n0 : (w5.setCell ⟨g, 1, none⟩ (.slice sA dn sc)).cell? ⟨w.heap.size + 2, 0, none⟩ = some (.int .i64 (cn : Nat)) := by
      have := (hm5.out.bn.far (p := ⟨g, 1, none⟩) (by show w.heap.size + 2 ≠ g; omega) (.slice sA dn sc)).cell 0
      rw [List.take_length, HCN.out] at this
      exact this
    clear hz y1 k5 k0 c1
    go_wp2_with fail
    go_ret
    have hC := drop_cch HC.out hm5.out hb5.out
    rw [HSA.out, HDN.out, HSC.out] at hC
    exact ⟨rfl, Lib.hid ⟨hC, (hm5.out.fr.mono (fun q _ e => sx_wr e)).setCell (p := ⟨g, 1, none⟩) (.inl (.inl rfl)) _, HOWN.out⟩⟩
end Go.Proofs.Ytfjlgdafakbdoaa.Ca
