/- Translations that are kept: Link. -/
import Derived.Test.YtfjlgdafakbdoaaCaJ
import Derived.StillTailTactics
import Derived.Deep.RegionHeldLaw
namespace Go.Proofs.Ytfjlgdafakbdoaa.Ca
open Go.RowKit Mz Go.Maps
set_option linter.unusedVariables false
set_option linter.unusedSimpArgs false
set_option maxHeartbeats 4000000

/-- what Link leaves -/
def LinkPost (w : World) (g : Nat) (s : Cs) (a b : Ky) (e : Ending) (w' : World) : Prop :=
  if 0 ≤ idx a s.bl ∧ 0 ≤ idx b s.bl then
    e = .returned (.bool true) ∧ Fr (s.wr g) w w' ∧ if b ∈ lnk s.E a then Cch w' g s else ∃ A c, Cch w' g (s.link a ⟨lnk s.E a ++ [b], A, c⟩) ∧ ∀ q, (s.link a ⟨lnk s.E a ++ [b], A, c⟩).own g q → s.own g q ∨ w.heap.size ≤ q
  else e = .returned (.bool false) ∧ Fr (s.wr g) w w' ∧ Cch w' g s
theorem mem_nthK (l : List Ky) (k : Ky) : (∃ q, q < l.length ∧ nthK l q = k) ↔ k ∈ l := by
  constructor
  · rintro ⟨q, hq, e⟩
    rw [nthK_at hq] at e
    rw [← e]
    exact List.getElem_mem hq
  · intro h
    obtain ⟨q, hq, e⟩ := List.getElem_of_mem h
    exact ⟨q, hq, by rw [nthK_at hq]; exact e⟩
theorem link_app {w5 we W : World} {g : Nat} {s : Cs} (h : Cch w5 g s) {a b : Ky} (ha : 0 ≤ idx a s.bl) (hb : 0 ≤ idx b s.bl) (hn : b ∉ lnk s.E a) {st : Value} (fe : Fr (· = s.gm) w5 we) (fW : Fr (fun _ => False) we W)
    (E : ∀ (w2 : World) (l : Lr), Fr (fun q => q ≠ s.gm) we w2 → ∃ w3, (Instr.entryStore 57 (.map (some s.gm)) st (.slice l.A l.ks.length l.c)).run Try.prog w2 = .ok () w3 ∧ (∃ bs clock, MapL Try.prog 31 kyv w3 s.gm ((putL (s.base a) a l).map ent) bs clock) ∧ Fr (· = s.gm) w2 w3)
    {lA : Option Addr} {ln lc : Nat} (e1 : (lrOf s.E a).A = lA) (e2 : (lrOf s.E a).ks.length = ln) (e3 : (lrOf s.E a).c = lc) {v : Value} {w6 : World}
    (ho : w6.ownsRow 0 31 2 v (ln + 1) (kcells (lrOf s.E a).ks ++ [.int .u32 b.1, .int .u32 b.2])) (hg : W.grownBy w6 (Value.slice lA ln lc).ownBlock) (hat : v.ownBlock = (Value.slice lA ln lc).ownBlock ∨ v.ownBlock = some W.heap.size) :
    ∃ A2 c2, v = .slice A2 (ln + 1) c2 ∧ ∃ w7, (Instr.entryStore 57 (.map (some s.gm)) st (.slice A2 (ln + 1) c2)).run Try.prog w6 = .ok () w7 ∧
      Hid (∃ A c, Cch w7 g (s.link a ⟨lnk s.E a ++ [b], A, c⟩) ∧ ∀ q, (s.link a ⟨lnk s.E a ++ [b], A, c⟩).own g q → s.own g q ∨ w5.heap.size ≤ q) ∧ Hid (Fr (s.wr g) w5 w7) ∧ ∀ q t cs, Blk w5 q t cs → q ≠ s.gm → ab lA ≠ some q → Blk w6 q t cs ∧ Blk w7 q t cs := by
  obtain ⟨A2, c2, rfl⟩ := slice_form ho
  have hown : ∀ q, (Value.slice lA ln lc).ownBlock = some q → ab lA = some q := fun q e => by
    cases lA with
    | none => simp [Value.ownBlock] at e
    | some x => simpa [Value.ownBlock, ab] using e
  have hown2 : ∀ q, ab A2 = some q → (Value.slice A2 (ln + 1) c2).ownBlock = some q := fun q e => by
    cases A2 with
    | none => cases e
    | some x => simpa [Value.ownBlock, ab] using e
  obtain ⟨t1, t2, t3, t4, t5⟩ := h.srt
  have hlr := lrOf_ok h.rows a
  have hngm : ab lA ≠ some s.gm := fun e => by
    rw [← e1] at e
    have := hlr.srt e
    rw [t2] at this
    simp at this
  have f6 : Fr (fun q => ab lA = some q) we w6 := (fW.mono (fun _ _ e => e.elim)).grown hg (fun q e => .inl (hown q e))
  have hse := fe.size
  have hsW := fW.size
  obtain ⟨bs, clock, hm5⟩ := h.m
  have hgl := hm5.bound
  have hlr5 : ∀ q, ab lA = some q → q < w5.heap.size := fun q e => hlr.low (by rw [e1]; exact e)
  obtain ⟨w7, hrun, hm7, f7⟩ := E w6 ⟨(lrOf s.E a).ks ++ [b], A2, c2⟩ (f6.mono (fun q _ e => fun e2 => hngm (by rw [← e2]; exact e)))
  have hlen : ((lrOf s.E a).ks ++ [b]).length = ln + 1 := by rw [List.length_append, e2]; rfl
  have hk6 : LrOk w6 ⟨(lrOf s.E a).ks ++ [b], A2, c2⟩ := LrOk.of_own (base := 0) (by
    show w6.ownsRow 0 _ 2 (.slice A2 ((lrOf s.E a).ks ++ [b]).length c2) ((lrOf s.E a).ks ++ [b]).length (kcells ((lrOf s.E a).ks ++ [b]))
    rw [hlen]
    have : kcells ((lrOf s.E a).ks ++ [b]) = kcells (lrOf s.E a).ks ++ [.int .u32 b.1, .int .u32 b.2] := by
      unfold kcells
      rw [List.flatMap_append]
      rfl
    rw [this]
    exact ho)
  have hA2gm : ab A2 ≠ some s.gm := fun e => by
    have h0 := hown2 _ e
    rcases hat with h1 | h1
    · rw [h0] at h1
      exact hngm (hown _ h1.symm)
    · rw [h0] at h1
      injection h1 with h1
      omega
  have hk7 := hk6.fr f7 (fun q hq e => hA2gm (by rw [← e]; exact hq))
  have f57 : Fr (fun q => q = s.gm ∨ ab (lrOf s.E a).A = some q) w5 w7 := ((fe.mono (fun q _ e => .inl e)).tr (f6.mono (fun q _ e => .inr (by rw [e1]; exact e)))).tr (f7.mono (fun q _ e => .inl e))
  have hka : a ∈ s.bl.map Bk.k := by
    by_cases e : a ∈ s.bl.map Bk.k
    · exact e
    · have := (idx_neg a s.bl).2 e; omega
  have hkb : b ∈ s.bl.map Bk.k := by
    by_cases e : b ∈ s.bl.map Bk.k
    · exact e
    · have := (idx_neg b s.bl).2 e; omega
  have hnew : ∀ q, ab A2 = some q → ab (lrOf s.E a).A = some q ∨ w5.heap.size ≤ q := fun q e => by
    have h0 := hown2 _ e
    rcases hat with h1 | h1
    · rw [h0] at h1
      exact .inl (by rw [e1]; exact hown _ h1.symm)
    · rw [h0] at h1
      injection h1 with h1
      right; omega
  have hwr : ∀ q, (q = s.gm ∨ ab (lrOf s.E a).A = some q) → s.wr g q := fun q e => by
    rcases e with e | e
    · exact .inr (.inr (.inl e))
    · by_cases hh : hasE s.E a = true
      · obtain ⟨p, hp, _, e2⟩ := lrOf_some hh
        exact .inr (.inr (.inr ⟨p, hp, by rw [← e2]; exact e⟩))
      · rw [lrOf_none (by simpa using hh)] at e
        exact absurd e (by simp [eL, ab])
  refine ⟨A2, c2, rfl, w7, by rw [← hlen]; exact hrun, Lib.hid ⟨A2, c2, ?_, ?_⟩, Lib.hid (f57.mono (fun q _ e => hwr q e)), fun q t cs hq h1 h2 => ?_⟩
  · rw [lnk_lr]
    exact Cch.linkB (b := b) h hka hkb (by rw [lnk_lr]) hn f57 hm7 hk7 hnew
  · rintro q ((e | e | e | ⟨p, hp, e⟩) | ⟨x, hx, e⟩)
    · exact .inl (.inl (.inl e))
    · exact .inl (.inl (.inr (.inl e)))
    · exact .inl (.inl (.inr (.inr (.inl e))))
    · obtain ⟨p', hp', rfl⟩ := List.mem_map.1 hp
      by_cases ep : p'.1 = a
      · rw [if_pos ep] at e
        rcases hnew q e with h1 | h1
        · exact .inl (.inl (hwr q (.inr h1)))
        · exact .inr h1
      · rw [if_neg ep] at e
        rcases base_mem hp' with h1 | h1
        · exact .inl (.inl (.inr (.inr (.inr ⟨p', h1, e⟩))))
        · rw [h1] at e; exact absurd e (by simp [eL, ab])
    · exact .inl (.inr ⟨x, hx, e⟩)
  · have b6 := (hq.fr fe h1).fr f6 h2
    exact ⟨b6, b6.fr f7 h1⟩
set_option maxRecDepth 100000 in
theorem link_any (w : World) (g : Nat) (s : Cs) (h : Cch w g s) (a b : Ky) (ha : a.Ok) (hb : b.Ok) :
    Calls Try.prog 23 #[.pointer (some ⟨g, 0, none⟩), .agg #[.int .u32 a.1, .int .u32 a.2], .agg #[.int .u32 b.1, .int .u32 b.2]] w (LinkPost w g s a b) := by
  obtain ⟨i0, hin, hz0, hz1, hz2⟩ := info_parts info2
  obtain ⟨a0, a1⟩ := a
  obtain ⟨b0, b1⟩ := b
  have hs1 : (w.alloc (.cells #[.int .u32 a0, .int .u32 a1] 31)).heap.size = w.heap.size + 1 := by simp
  have f1 := (Fr.refl (fun _ => False) w).alloc (.cells #[.int .u32 a0, .int .u32 a1] 31)
  have f2 := f1.alloc (.cells #[.int .u32 b0, .int .u32 b1] 31)
  have ba : Blk ((w.alloc (.cells #[.int .u32 a0, .int .u32 a1] 31)).alloc (.cells #[.int .u32 b0, .int .u32 b1] 31)) w.heap.size 31 #[.int .u32 a0, .int .u32 a1] := (Blk.new w _ _).alloc _
  have bb : Blk ((w.alloc (.cells #[.int .u32 a0, .int .u32 a1] 31)).alloc (.cells #[.int .u32 b0, .int .u32 b1] 31)) (w.heap.size + 1) 31 #[.int .u32 b0, .int .u32 b1] := by
    have := Blk.new (w.alloc (.cells #[.int .u32 a0, .int .u32 a1] 31)) 31 #[.int .u32 b0, .int .u32 b1]
    rw [hs1] at this
    exact this
  have h2 := h.fr0 f2
  have Hp : Hid (Calls Try.prog 26 #[.pointer (some ⟨g, 0, none⟩), .agg #[.int .u32 a0, .int .u32 a1]] ((w.alloc (.cells #[.int .u32 a0, .int .u32 a1] 31)).alloc (.cells #[.int .u32 b0, .int .u32 b1] 31)) fun e w' => e = .returned (.int .i64 (idx (a0, a1) s.bl)) ∧ Fr (fun _ => False) ((w.alloc (.cells #[.int .u32 a0, .int .u32 a1] 31)).alloc (.cells #[.int .u32 b0, .int .u32 b1] 31)) w') := Lib.hid (place_any _ g s h2 (a0, a1))
  obtain ⟨i, hi⟩ : ∃ i, idx (a0, a1) s.bl = i := ⟨_, rfl⟩
  obtain ⟨j, hj⟩ : ∃ j, idx (b0, b1) s.bl = j := ⟨_, rfl⟩
  rw [hi] at Hp
  have HI := Lib.hid hi
  have HJ := Lib.hid hj
  have H2 := Lib.hid h2
  have F2 := Lib.hid f2
  have BA := Lib.hid ba
  have BB := Lib.hid bb
  have HC := Lib.hid h
  have HA := Lib.hid ha
  have HB := Lib.hid hb
  have hgl := h.b.lt
  clear h h2 f1 f2 ba bb hi hj ha hb
  go_enter Try.func23, Try.ntmps23
  go_wp2_with fail
  refine (Hp.out).mono ?_
  rintro e w3 ⟨rfl, f3⟩
  have F3 := Lib.hid (F2.out.tr f3)
  have H3 := Lib.hid (H2.out.fr0 f3)
  have BA3 := Lib.hid (BA.out.fr f3 (fun e => e))
  have BB3 := Lib.hid (BB.out.fr f3 (fun e => e))
  clear Hp f3
  by_cases hni : i < 0
  · have hd : decide (i < 0) = true := by simpa using hni
    go_wp2_with fail
    go_ret
    unfold LinkPost
    rw [if_neg (fun e => by have := e.1; have := HI.out; omega)]
    exact ⟨rfl, F3.out.mono (fun _ _ e => e.elim), H3.out⟩
  · have hd : decide (i < 0) = false := by simpa using hni
    have v0 := BB3.out.cell 0
    have v1 := BB3.out.cell 1
    have Hq : Hid (Calls Try.prog 26 #[.pointer (some ⟨g, 0, none⟩), .agg #[.int .u32 b0, .int .u32 b1]] w3 fun e w' => e = .returned (.int .i64 (idx (b0, b1) s.bl)) ∧ Fr (fun _ => False) w3 w') := Lib.hid (place_any _ g s H3.out (b0, b1))
    rw [HJ.out] at Hq
    have hgb := BB3.out.lt
    go_wp2_with fail
    refine (Hq.out).mono ?_
    rintro e w4 ⟨rfl, f4⟩
    have F4 := Lib.hid (F3.out.tr f4)
    have H4 := Lib.hid (H3.out.fr0 f4)
    have BA4 := Lib.hid (BA3.out.fr f4 (fun e => e))
    have BB4 := Lib.hid (BB3.out.fr f4 (fun e => e))
    clear Hq f4 v0 v1
    by_cases hnj : j < 0
    · have hd2 : decide (j < 0) = true := by simpa using hnj
      go_wp2_with fail
      go_ret
      unfold LinkPost
      rw [if_neg (fun e => by have := e.2; have := HJ.out; omega)]
      exact ⟨rfl, F4.out.mono (fun _ _ e => e.elim), H4.out⟩
    · have hd2 : decide (j < 0) = false := by simpa using hnj
      obtain ⟨l0, hl⟩ := keyOf_ky (a0, a1) HA.out
      obtain ⟨bs, clock, hm⟩ := H4.out.m
      have hlk : (Instr.lookup 57 (.map (some s.gm)) (.agg #[.int .u32 a0, .int .u32 a1]) false).run Try.prog w4.drew = .ok (.slice (lrOf s.E (a0, a1)).A (lrOf s.E (a0, a1)).ks.length (lrOf s.E (a0, a1)).c) w4.drew := by
        have := (hm.fr ((Fr.refl (fun _ => False) _).drew) (fun e => e)).look keyLaw kyv_inj Try.underlying57 (zK _) hl false
        rw [lk_ent] at this
        exact this
      have c2 := H4.out.cells.2.2.1
      have x0 := BA4.out.cell 0
      have x1 := BA4.out.cell 1
      have y0 := BB4.out.cell 0
      have y1 := BB4.out.cell 1
      have hle : (lrOf s.E (a0, a1)).ks.length ≤ 1000000 := by have := H4.out.ok.lrl (a0, a1); have := H4.out.ok.len; have := H4.out.ok.room; omega
      have Hct : Hid (Calls Try.prog 37 #[.slice (lrOf s.E (a0, a1)).A (lrOf s.E (a0, a1)).ks.length (lrOf s.E (a0, a1)).c, .agg #[.int .u32 b0, .int .u32 b1]] w4.drew fun e w' => e = .returned (.bool (decide (∃ q, q < (lrOf s.E (a0, a1)).ks.length ∧ nthK (lrOf s.E (a0, a1)).ks q = (b0, b1)))) ∧ Fr (fun _ => False) w4.drew w') := Lib.hid (contains_k _ _ _ _ (by omega) _ (b0, b1) ((lrOf_ok H4.out.rows (a0, a1)).fr ((Fr.refl (fun _ => False) w4).drew) (fun _ _ e => e)).at_)
      obtain ⟨t, ht⟩ : ∃ t, decide (∃ q, q < (lrOf s.E (a0, a1)).ks.length ∧ nthK (lrOf s.E (a0, a1)).ks q = (b0, b1)) = t := ⟨_, rfl⟩
      rw [ht] at Hct
      have HT := Lib.hid ht
      clear ht hm
      obtain ⟨lA, hlA⟩ : ∃ q, (lrOf s.E (a0, a1)).A = q := ⟨_, rfl⟩
      obtain ⟨ln, hln⟩ : ∃ q, (lrOf s.E (a0, a1)).ks.length = q := ⟨_, rfl⟩
      obtain ⟨lc, hlc⟩ : ∃ q, (lrOf s.E (a0, a1)).c = q := ⟨_, rfl⟩
      rw [hlA, hln, hlc] at hlk Hct
      have HlA := Lib.hid hlA
      have Hln := Lib.hid hln
      have Hlc := Lib.hid hlc
      rw [hln] at hle
      clear hlA hln hlc
      go_upto_region 3 with (fail)
      go_still_tail 7, (by kernel_rfl)
      change wpList _ _ _ _ _ w4.drew
      go_wp2_with fail
      refine (Hct.out).mono ?_
      rintro e w5 ⟨rfl, f5⟩
      have F5 := Lib.hid ((F4.out.drew).tr f5)
      have H5 := Lib.hid ((H4.out.fr0 ((Fr.refl _ w4).drew)).fr0 f5)
      have BA5 := Lib.hid ((BA4.out.drew).fr f5 (fun e => e))
      have BB5 := Lib.hid ((BB4.out.drew).fr f5 (fun e => e))
      clear Hct f5 x0 x1 y0 y1 c2 hlk
      cases t
      · have hnot : (b0, b1) ∉ lnk s.E (a0, a1) := by
          rw [lnk_lr, ← mem_nthK]
          exact of_decide_eq_false HT.out
        have hgm0 : s.gm < w.heap.size := by obtain ⟨_, _, hm0⟩ := HC.out.m; exact hm0.bound
        have hlA0 : ∀ q, ab lA = some q → q < w.heap.size := fun q e => (lrOf_ok HC.out.rows (a0, a1)).low (by rw [HlA.out]; exact e)
        have hggm : g ≠ s.gm := fun e => by have t := HC.out.srt; have := t.1; rw [e, t.2.1] at this; simp at this
        have hglA : ab lA ≠ some g := fun e => by have t := HC.out.srt; have := (lrOf_ok HC.out.rows (a0, a1)).srt (by rw [HlA.out]; exact e); rw [t.1] at this; simp at this
        have fX := ((Fr.refl (fun _ => False) w5).alloc (.cells #[.int .u32 b0, .int .u32 b1] 31)).drew
        obtain ⟨we1, st1, hme1, fe1, E1⟩ := entry_any w5.drew g s (H5.out.fr0 ((Fr.refl _ w5).drew)) (a0, a1) HA.out
        obtain ⟨we2, st2, hme2, fe2, E2⟩ := entry_any _ g s (H5.out.fr0 fX) (a0, a1) HA.out
        rw [HlA.out, Hln.out, Hlc.out] at hme1 hme2
        have fe1' : Fr (· = s.gm) w5 we1 := ((Fr.refl _ w5).drew).tr fe1
        have fe2' : Fr (· = s.gm) w5 we2 := (fX.mono (fun _ _ e => e.elim)).tr fe2
        have hs5 := F5.out.size
        have hi2 : 0 ≤ idx (a0, a1) s.bl := by rw [HI.out]; omega
        have hj2 : 0 ≤ idx (b0, b1) s.bl := by rw [HJ.out]; omega
        have APA := Lib.hid (fun (v : Value) (w6 : World) => link_app (v := v) (w6 := w6) H5.out hi2 hj2 hnot fe1' ((Fr.refl (fun _ => False) we1).alloc (.cells #[.int .u32 b0, .int .u32 b1] 31)) E1 HlA.out Hln.out Hlc.out)
        have APB := Lib.hid (fun (v : Value) (w6 : World) => link_app (v := v) (w6 := w6) H5.out hi2 hj2 hnot fe2' (Fr.refl (fun _ => False) we2) E2 HlA.out Hln.out Hlc.out)
        have hlr5 := lrOf_ok H5.out.rows (a0, a1)
        have hl1 : LrOk we1 (lrOf s.E (a0, a1)) := hlr5.fr fe1' (fun q hq e => by rw [e] at hq; rw [HlA.out] at hq; have := H5.out.srt.2.1; have h2 := hlr5.srt (by rw [HlA.out]; exact hq); rw [this] at h2; simp at h2)
        have hl2 : LrOk we2 (lrOf s.E (a0, a1)) := hlr5.fr fe2' (fun q hq e => by rw [e] at hq; rw [HlA.out] at hq; have := H5.out.srt.2.1; have h2 := hlr5.srt (by rw [HlA.out]; exact hq); rw [this] at h2; simp at h2)
        have OWA : Hid ((we1.alloc (.cells #[.int .u32 b0, .int .u32 b1] 31)).ownsRow 0 31 2 (.slice lA ln lc) ln (kcells (lrOf s.E (a0, a1)).ks)) := Lib.hid (by
          have := (hl1.own).alloc (.cells #[.int .u32 b0, .int .u32 b1] 31)
          rw [HlA.out, Hln.out, Hlc.out] at this
          exact this)
        have OWB : Hid (we2.ownsRow 0 31 2 (.slice lA ln lc) ln (kcells (lrOf s.E (a0, a1)).ks)) := Lib.hid (by
          have := hl2.own
          rw [HlA.out, Hln.out, Hlc.out] at this
          exact this)
        have RDA : Hid (Reads (we1.alloc (.cells #[.int .u32 b0, .int .u32 b1] 31)) (we1.heap.size + 1) 2 (some ⟨we1.heap.size, 0, none⟩) 1 [.int .u32 b0, .int .u32 b1]) := Lib.hid (reads_blk (size := 2) (n := 1) (Blk.new we1 31 #[.int .u32 b0, .int .u32 b1]) rfl)
        have bX2 : Blk we2 w5.heap.size 31 #[.int .u32 b0, .int .u32 b1] := ((Blk.new w5 31 #[.int .u32 b0, .int .u32 b1]).drew).fr fe2 (fun e => by omega)
        have RDB : Hid (Reads we2 (w5.heap.size + 1) 2 (some ⟨w5.heap.size, 0, none⟩) 1 [.int .u32 b0, .int .u32 b1]) := Lib.hid (reads_blk (size := 2) (n := 1) bX2 rfl)
        have hb2 : w5.heap.size + 1 ≤ we2.heap.size := bX2.lt
        have hga : w.heap.size ≠ s.gm := by omega
        have hgb : w.heap.size + 1 ≠ s.gm := by omega
        have hla : ab lA ≠ some w.heap.size := fun e => by have := hlA0 _ e; omega
        have hlb : ab lA ≠ some (w.heap.size + 1) := fun e => by have := hlA0 _ e; omega
        have BG := Lib.hid H5.out.b
        have bg1 := H5.out.b.fr fe1' (fun e => hggm e)
        have ba1 := BA5.out.fr fe1' (fun e => hga e)
        have bb1 := BB5.out.fr fe1' (fun e => hgb e)
        have bg2 := H5.out.b.fr fe2' (fun e => hggm e)
        have ba2 := BA5.out.fr fe2' (fun e => hga e)
        have bb2 := BB5.out.fr fe2' (fun e => hgb e)
        have KK : ∀ W, Blk W g 60 (cells4 s) → Blk W w.heap.size 31 #[.int .u32 a0, .int .u32 a1] → Blk W (w.heap.size + 1) 31 #[.int .u32 b0, .int .u32 b1] →
            W.cell? ⟨g, 2, none⟩ = some (.map (some s.gm)) ∧ W.cell? ⟨w.heap.size, 0, none⟩ = some (.int .u32 a0) ∧ W.cell? ⟨w.heap.size, 1, none⟩ = some (.int .u32 a1) ∧ W.cell? ⟨w.heap.size + 1, 0, none⟩ = some (.int .u32 b0) ∧ W.cell? ⟨w.heap.size + 1, 1, none⟩ = some (.int .u32 b1) := fun W h1 h2 h3 => ⟨h1.cell 2, h2.cell 0, h2.cell 1, h3.cell 0, h3.cell 1⟩
        have K0 := KK w5 BG.out BA5.out BB5.out
        have K1 := KK we1 bg1 ba1 bb1
        have K2 := KK _ (BG.out.alloc (.cells #[.int .u32 b0, .int .u32 b1] 31)) (BA5.out.alloc (.cells #[.int .u32 b0, .int .u32 b1] 31)) (BB5.out.alloc (.cells #[.int .u32 b0, .int .u32 b1] 31))
        have K3 := KK _ (bg1.alloc (.cells #[.int .u32 b0, .int .u32 b1] 31)) (ba1.alloc (.cells #[.int .u32 b0, .int .u32 b1] 31)) (bb1.alloc (.cells #[.int .u32 b0, .int .u32 b1] 31))
        have K4 := KK we2 bg2 ba2 bb2
        have KH := Lib.hid KK
        have hme1' : (Instr.mapEntry 57 (.map (some s.gm)) (.agg #[.int .u32 a0, .int .u32 a1])).run Try.prog w5.drew = .ok (.tuple #[.slice lA ln lc, st1]) we1 := hme1
        have hme2' : (Instr.mapEntry 57 (.map (some s.gm)) (.agg #[.int .u32 a0, .int .u32 a1])).run Try.prog (w5.alloc (.cells #[.int .u32 b0, .int .u32 b1] 31)).drew = .ok (.tuple #[.slice lA ln lc, st2]) we2 := hme2
        clear hme1 hme2 E1 E2 fe1 fe2 fe1' fe2' fX hlr5 hl1 hl2 bX2 bg1 ba1 bb1 bg2 ba2 bb2 KK
        go_upto_region 4 with (fail)
        go_region_held_law (fun W => W.cell? ⟨g, 2, none⟩ = some (.map (some s.gm)) ∧ W.cell? ⟨w.heap.size, 0, none⟩ = some (.int .u32 a0) ∧ W.cell? ⟨w.heap.size, 1, none⟩ = some (.int .u32 a1) ∧ W.cell? ⟨w.heap.size + 1, 0, none⟩ = some (.int .u32 b0) ∧ W.cell? ⟨w.heap.size + 1, 1, none⟩ = some (.int .u32 b1)) (first | exact K0 | exact K1 | exact K2 | exact K3 | exact K4 | exact K5 | exact K6)
          (first
            | (refine step_append_any _ rfl (.tmp 31) (.tmp 33) 38 rfl 0 31 i0 _ 2 8 Try.underlying38 hin hz0 hz1 hz2 rfl (by omega) (.slice lA ln lc) ln _ (by simp [Act.eval, Act.put]) OWA.out (we1.heap.size + 1) (some ⟨we1.heap.size, 0, none⟩) 1 1 [.int .u32 b0, .int .u32 b1] (by simp [Act.eval, Act.put]) RDA.out (by simp [Value.oneCell']) (by simp only [maxLen]; omega) (by omega) (Nat.zero_le _) ?_
               intro v1 w6 hown1 hg1 hat1
               obtain ⟨A2, c2, rfl, w7, hst, hc7, f7, kb⟩ := APA.out v1 w6 hown1 hg1 hat1
               have K5 := KH.out w6 (kb _ _ _ BG.out hggm hglA).1 (kb _ _ _ BA5.out hga hla).1 (kb _ _ _ BB5.out hgb hlb).1
               have K6 := KH.out w7 (kb _ _ _ BG.out hggm hglA).2 (kb _ _ _ BA5.out hga hla).2 (kb _ _ _ BB5.out hgb hlb).2
               clear hown1 hg1 hat1 kb)
            | (refine step_append_any _ rfl (.tmp 31) (.tmp 33) 38 rfl 0 31 i0 _ 2 8 Try.underlying38 hin hz0 hz1 hz2 rfl (by omega) (.slice lA ln lc) ln _ (by simp [Act.eval, Act.put]) OWB.out (w5.heap.size + 1) (some ⟨w5.heap.size, 0, none⟩) 1 1 [.int .u32 b0, .int .u32 b1] (by simp [Act.eval, Act.put]) RDB.out (by simp [Value.oneCell']) (by simp only [maxLen]; omega) (by omega) (Nat.zero_le _) ?_
               intro v1 w6 hown1 hg1 hat1
               obtain ⟨A2, c2, rfl, w7, hst, hc7, f7, kb⟩ := APB.out v1 w6 hown1 hg1 hat1
               have K5 := KH.out w6 (kb _ _ _ BG.out hggm hglA).1 (kb _ _ _ BA5.out hga hla).1 (kb _ _ _ BB5.out hgb hlb).1
               have K6 := KH.out w7 (kb _ _ _ BG.out hggm hglA).2 (kb _ _ _ BA5.out hga hla).2 (kb _ _ _ BB5.out hgb hlb).2
               clear hown1 hg1 hat1 kb))
        all_goals
          have HNM := Lib.hid hnot
          clear hnot K0 K1 K2 K3 K4 K5
          go_wp2_with fail
          go_ret
          unfold LinkPost
          rw [if_pos ⟨by rw [HI.out]; omega, by rw [HJ.out]; omega⟩, if_neg HNM.out]
          obtain ⟨A, c, g1, g2⟩ := hc7.out
          exact ⟨rfl, (F5.out.mono (fun _ _ e => e.elim)).tr f7.out, A, c, g1, fun q hq => (g2 q hq).imp id (fun e => by omega)⟩
      · go_wp2_with fail
        go_ret
        have hmem := (mem_nthK _ _).1 (of_decide_eq_true HT.out)
        rw [← lnk_lr] at hmem
        unfold LinkPost
        rw [if_pos ⟨by rw [HI.out]; omega, by rw [HJ.out]; omega⟩, if_pos hmem]
        exact ⟨rfl, F5.out.mono (fun _ _ e => e.elim), H5.out⟩
end Go.Proofs.Ytfjlgdafakbdoaa.Ca
