/- The document's cache: Link. -/
import Derived.Test.YtfjlgdafakbdoaaCaW
namespace Go.Proofs.Ytfjlgdafakbdoaa.Ca
open Go.RowKit Mz Go.Maps By
set_option linter.unusedVariables false
set_option linter.unusedSimpArgs false
set_option maxHeartbeats 4000000

section
variable {w w' : World} {g : Nat} {d : Ds}
theorem Doc.ne_lk (h : Doc w g d) {q : Nat} (hq : q < d.bl.length) {x : Nat} (hx : ab (nthD d.bl q).A = some x) : x ≠ g ∧ ab d.A ≠ some x ∧ ∀ p, p < d.bl.length → p ≠ q → ab (nthD d.bl p).A ≠ some x := by
  obtain ⟨_, _, cs, hb⟩ := own_blk (h.rows _ (mem_nthD hq)) x hx
  refine ⟨fun e => ?_, fun e => (h.ne_gl e).2 _ (mem_nthD hq) hx, fun p hp hne e => ?_⟩
  · subst e
    exact Blk.ne_ hb h.b (by decide) rfl
  · have := List.pairwise_iff_getElem.1 h.sep
    rw [nthD_at hp] at e
    rw [nthD_at hq] at hx
    rcases Nat.lt_or_gt_of_ne hne with h1 | h1
    · exact this p q hp hq h1 x e hx
    · exact this q p hq hp h1 x hx e
theorem Doc.setB2 (h : Doc w g d) {q : Nat} {b : Db} (hq : q < d.bl.length) (f : Fr (fun x => ab d.A = some x ∨ ab (nthD d.bl q).A = some x) w w') (hrow : DRow w' d.A d.c (d.bl.set q b)) (hl : LnkOk w' b) (hsep : ∀ p, p < d.bl.length → p ≠ q → ∀ k, ab b.A = some k → ab (nthD d.bl p).A ≠ some k) (hok : ({ d with bl := d.bl.set q b } : Ds).Ok) :
    Doc w' g { d with bl := d.bl.set q b } := by
  have hn := fun x hx => h.ne_gl (x := x) hx
  have hk := fun x hx => h.ne_lk hq (x := x) hx
  have hlen : (d.bl.set q b).length = d.bl.length := List.length_set ..
  refine ⟨?_, hrow, fun b' hb' => ?_, ?_, hok⟩
  · have := h.b.fr f (fun e => e.elim (fun e => (hn g e).1 rfl) (fun e => (hk g e).1 rfl))
    unfold cells3 at this ⊢
    rw [show ({ d with bl := d.bl.set q b } : Ds).bl.length = d.bl.length from hlen]
    exact this
  · obtain ⟨p, hp, hpe⟩ := List.getElem_of_mem hb'
    rw [hlen] at hp
    rw [List.getElem_set] at hpe
    by_cases e : q = p
    · rw [if_pos e] at hpe
      rw [← hpe]; exact hl
    · rw [if_neg e] at hpe
      rw [← hpe]
      refine (h.rows _ (List.getElem_mem hp)).fr f (fun k hkk e2 => ?_)
      rcases e2 with e2 | e2
      · exact (hn k e2).2 _ (List.getElem_mem hp) hkk
      · have := (hk k e2).2.2 p hp (fun e3 => e e3.symm)
        rw [nthD_at hp] at this
        exact this hkk
  · show (d.bl.set q b).Pairwise _
    rw [List.pairwise_iff_getElem]
    intro i j hi hj hij k hk2
    rw [hlen] at hi hj
    rw [List.getElem_set] at hk2 ⊢
    by_cases e1 : q = i
    · rw [if_pos e1] at hk2
      rw [if_neg (by omega)]
      have := hsep j hj (by omega) k hk2
      rwa [nthD_at hj] at this
    · rw [if_neg e1] at hk2
      by_cases e2 : q = j
      · rw [if_pos e2]
        intro e3
        have := hsep i hi (by omega) k e3
        rw [nthD_at hi] at this
        exact this hk2
      · rw [if_neg e2]
        exact (List.pairwise_iff_getElem.1 h.sep) i j hi hj hij k hk2
end
def dDv : Dv := ⟨(0, 0), ByteArray.empty, 0, []⟩
def nthV (L : List Dv) (i : Nat) : Dv := L.getD i dDv
/-- behind Link: what is seen, what is told -/
def vlink (L : List Dv) (a b : Ky) : List Dv × Bool :=
  if 0 ≤ ixK a (vkeys L) ∧ 0 ≤ ixK b (vkeys L) then
    if b ∈ (nthV L (ixK a (vkeys L)).toNat).ks then (L, true)
    else (L.set (ixK a (vkeys L)).toNat { nthV L (ixK a (vkeys L)).toNat with ks := (nthV L (ixK a (vkeys L)).toNat).ks ++ [b] }, true)
  else (L, false)
theorem nthV_views {d : Ds} {i : Nat} (h : i < d.bl.length) : nthV (views d) i = (nthD d.bl i).v := by
  unfold nthV views
  rw [nthD_at h]
  simp [List.getD_eq_getElem?_getD, h]
def RLink (w : World) (g : Nat) (d : Ds) (a b : Ky) (e : Ending) (w' : World) : Prop :=
  e = .returned (.bool (vlink (views d) a b).2) ∧ ∃ d' : Ds, Doc w' g d' ∧ d'.room = d.room ∧ d'.fl = d.fl ∧ views d' = (vlink (views d) a b).1 ∧ (∀ q, d'.own g q → d.own g q ∨ w.heap.size ≤ q) ∧ Fr (d.own g) w w'
theorem rlink_same {w w' : World} {g : Nat} {d : Ds} {a b : Ky} {t : Bool} (h : Doc w g d) (f : Fr (fun _ => False) w w') (hv : vlink (views d) a b = (views d, t)) : RLink w g d a b (.returned (.bool t)) w' :=
  ⟨by rw [hv], d, h.fr0 f, rfl, rfl, by rw [hv], fun q hq => .inl hq, f.mono (fun _ _ e => e.elim)⟩
theorem rlink_app {w W w6 : World} {g i gl : Nat} {d : Ds} {a b : Ky} {A : Option Addr} {c m : Nat} {o : Obj} (h0 : Doc w g d) (fW : Fr (fun _ => False) w W) (hi : i < d.bl.length) (hgl : d.A = some ⟨gl, 0, none⟩) (hia : ixK a (dkeys d) = (i : Int)) (hib : 0 ≤ ixK b (dkeys d)) (hnb : b ∉ (nthD d.bl i).ks) (hm : (nthD d.bl i).ks.length = m) (hlk : m + 1 ≤ 1000000)
    (ho : w6.ownsRow 0 44 2 (.slice A (m + 1) c) (m + 1) (kcells (nthD d.bl i).ks ++ [.int .u32 b.1, .int .u32 b.2]))
    (hg : (W.alloc o).drew.grownBy w6 (Value.slice (nthD d.bl i).A m (nthD d.bl i).c).ownBlock) (hat : (Value.slice A (m + 1) c).ownBlock = (Value.slice (nthD d.bl i).A m (nthD d.bl i).c).ownBlock ∨ (Value.slice A (m + 1) c).ownBlock = some (W.alloc o).drew.heap.size) :
    RLink w g d a b (.returned (.bool true)) (w6.setCell ⟨gl, i * 5 + 4, none⟩ (.slice A (m + 1) c)) := by
  have hia2 : ixK a (vkeys (views d)) = (i : Int) := by rw [vkeys_views]; exact hia
  have hib2 : 0 ≤ ixK b (vkeys (views d)) := by rw [vkeys_views]; exact hib
  have hv : vlink (views d) a b = ((views d).set i { (nthD d.bl i).v with ks := (nthD d.bl i).ks ++ [b] }, true) := by
    unfold vlink
    rw [if_pos ⟨by omega, hib2⟩, hia2, Int.toNat_natCast, nthV_views hi]
    show (if b ∈ (nthD d.bl i).ks then _ else _) = _
    rw [if_neg hnb]
    rfl
  have h := h0.fr0 fW
  have fc : Fr (fun x => ab (nthD d.bl i).A = some x) W w6 := (((Fr.refl _ W).alloc o).drew).grown hg (fun q hq => .inl (ab_own hq))
  have fs : Fr (fun x => ab d.A = some x) w6 (w6.setCell ⟨gl, i * 5 + 4, none⟩ (.slice A (m + 1) c)) := (Fr.refl (fun x => ab d.A = some x) w6).setCell (p := ⟨gl, i * 5 + 4, none⟩) (.inl (by rw [hgl]; rfl)) _
  have f2 : Fr (fun x => ab d.A = some x ∨ ab (nthD d.bl i).A = some x) W (w6.setCell ⟨gl, i * 5 + 4, none⟩ (.slice A (m + 1) c)) := (fc.mono (fun _ _ e => .inr e)).tr (fs.mono (fun _ _ e => .inl e))
  obtain ⟨bb, hbb⟩ : ∃ bb : Db, bb = { nthD d.bl i with ks := (nthD d.bl i).ks ++ [b], A := A, c := c } := ⟨_, rfl⟩
  have hkl : ((nthD d.bl i).ks ++ [b]).length = m + 1 := by rw [List.length_append, hm]; rfl
  have hr6 : DRow w6 d.A d.c d.bl := h.r.fr fc (fun x hx e => (h.ne_lk hi e).2.1 hx)
  have hrow : DRow (w6.setCell ⟨gl, i * 5 + 4, none⟩ (.slice A (m + 1) c)) d.A d.c (d.bl.set i bb) := by
    rw [hgl] at hr6 ⊢
    refine drow_set (F := fun _ => undef) hr6 hi bb (fun {cs F0} hc hF => ⟨_, hc.set_ (i * 5 + 4) (.slice A (m + 1) c), fun j hj => ?_, fun p hp => ?_⟩)
    · unfold putV
      by_cases e : j = 4
      · subst e
        rw [if_pos rfl, hbb]
        show _ = Value.slice A ((nthD d.bl i).ks ++ [b]).length c
        rw [hkl]
      · rw [if_neg (by omega), hF j hj, hbb]
        unfold dc
        simp only []
        repeat (first | omega | (split <;> first | rfl | skip))
    · unfold putV
      rw [if_neg (by omega)]
  have hA : ∀ x, ab A = some x → ab (nthD d.bl i).A = some x ∨ W.heap.size ≤ x := fun x hx => by
    rcases hat with h6 | h6
    · rw [own_ab ho hx] at h6
      exact .inl (ab_own h6.symm)
    · rw [own_ab ho hx] at h6
      injection h6 with h6
      right
      have h7 : (W.alloc o).drew.heap.size = W.heap.size + 1 := by show (W.heap.push _).size = _; simp
      omega
  have hlow := h.low
  have hlkk : LnkOk (w6.setCell ⟨gl, i * 5 + 4, none⟩ (.slice A (m + 1) c)) bb := by
    unfold LnkOk
    have e9 : bb.ks.length = m + 1 := by rw [hbb]; exact hkl
    have e10 : kcells bb.ks = kcells (nthD d.bl i).ks ++ [.int .u32 b.1, .int .u32 b.2] := by rw [hbb]; exact kcells_snoc _ _
    rw [e9, e10, hbb]
    refine own_fr ho fs (fun q hq e => ?_)
    rcases hA q (ab_own hq) with h3 | h3
    · exact (h.ne_lk hi h3).2.1 e
    · have := hlow q (.inr (.inl e)); omega
  have ok := h.ok
  have hok : ({ d with bl := d.bl.set i bb } : Ds).Ok := by
    refine ⟨ok.room, by show ((d.bl.set i bb).length : Int) ≤ _; rw [List.length_set]; exact ok.len, ?_, ?_, ?_, ok.fl⟩
    all_goals
      intro b' hb'
      rcases List.mem_or_eq_of_mem_set hb' with h1 | h1
    · exact ok.keys b' h1
    · rw [h1, hbb]; show (nthD d.bl i).k.Ok; exact ok.keys _ (mem_nthD hi)
    · exact ok.ct b' h1
    · rw [h1, hbb]; show 1 ≤ (nthD d.bl i).ct ∧ (nthD d.bl i).ct ≤ _; exact ok.ct _ (mem_nthD hi)
    · exact ok.lk b' h1
    · rw [h1, hbb]; show ((nthD d.bl i).ks ++ [b]).length ≤ _; omega
  have hs := fW.size
  refine ⟨by rw [hv], _, h.setB2 hi f2 hrow hlkk (fun p hp hne k hk e => ?_) hok, rfl, rfl, ?_, fun q hq => ?_, ?_⟩
  · have hk' : ab A = some k := by rw [hbb] at hk; exact hk
    rcases hA k hk' with h3 | h3
    · exact (h.ne_lk hi h3).2.2 p hp hne e
    · have := hlow k (.inr (.inr ⟨_, mem_nthD hp, e⟩)); omega
  · rw [hv]
    unfold views
    show (d.bl.set i bb).map Db.v = _
    rw [List.map_set, hbb]
    rfl
  · rcases hq with h3 | h3 | ⟨b', hb', h3⟩
    · exact .inl (.inl h3)
    · exact .inl (.inr (.inl h3))
    · rcases List.mem_or_eq_of_mem_set hb' with h1 | h1
      · exact .inl (.inr (.inr ⟨b', h1, h3⟩))
      · have h3' : ab A = some q := by rw [h1, hbb] at h3; exact h3
        rcases hA q h3' with h4 | h4
        · exact .inl (.inr (.inr ⟨_, mem_nthD hi, h4⟩))
        · right; omega
  · exact (fW.mono (S' := d.own g) (fun _ _ e => e.elim)).tr (f2.mono (fun q _ e => e.elim (fun e => .inr (.inl e)) (fun e => .inr (.inr ⟨_, mem_nthD hi, e⟩))))
set_option maxRecDepth 100000 in
theorem rlink_any (w : World) (g : Nat) (d : Ds) (h : Doc w g d) (a b : Ky) (hlk : ∀ x ∈ d.bl, x.ks.length + 1 ≤ 1000000) :
    Calls Try.prog 35 #[.pointer (some ⟨g, 0, none⟩), .agg #[.int .u32 a.1, .int .u32 a.2], .agg #[.int .u32 b.1, .int .u32 b.2]] w (RLink w g d a b) := by
  obtain ⟨i0, hin, hz0, hz1, hz2⟩ := info_parts infoP
  have f1 := ((Fr.refl (fun _ => False) w).alloc (.cells #[.int .u32 a.1, .int .u32 a.2] 44)).alloc (.cells #[.int .u32 b.1, .int .u32 b.2] 44)
  have s1 : (w.alloc (.cells #[.int .u32 a.1, .int .u32 a.2] 44)).heap.size = w.heap.size + 1 := by simp
  have bb := Blk.new' (w.alloc (.cells #[.int .u32 a.1, .int .u32 a.2] 44)) 44 #[.int .u32 b.1, .int .u32 b.2] s1
  have Ha := Lib.hid (rat_any _ g d (h.fr0 f1) a)
  have Hb := Lib.hid (rat_any _ g d (h.fr0 f1) b)
  obtain ⟨ia, hia⟩ : ∃ q, ixK a (dkeys d) = q := ⟨_, rfl⟩
  obtain ⟨ib, hib⟩ : ∃ q, ixK b (dkeys d) = q := ⟨_, rfl⟩
  rw [hia] at Ha
  rw [hib] at Hb
  have hla := ixK_lo a (dkeys d)
  have hlb := ixK_lo b (dkeys d)
  rw [hia] at hla
  rw [hib] at hlb
  have hdl : (dkeys d).length = d.bl.length := by unfold dkeys; simp
  rw [hdl] at hla hlb
  obtain ⟨hla0, hla1⟩ := hla
  obtain ⟨hlb0, hlb1⟩ := hlb
  have hl24 := h.ok_len
  have HIA := Lib.hid hia
  have HIB := Lib.hid hib
  have H := Lib.hid h
  have F1 := Lib.hid f1
  have BB := Lib.hid bb
  obtain ⟨a0, a1⟩ := a
  obtain ⟨b0, b1⟩ := b
  clear h f1 bb hia hib hdl s1
  show Calls _ _ #[_, .agg #[.int .u32 a0, .int .u32 a1], .agg #[.int .u32 b0, .int .u32 b1]] _ _
  by_cases hna : ia < 0
  · have hd1 : decide (ia < 0) = true := by simpa using hna
    have hv : vlink (views d) (a0, a1) (b0, b1) = (views d, false) := by
      unfold vlink
      rw [if_neg (by rw [vkeys_views, HIA.out]; omega)]
    have HV := Lib.hid hv
    clear hv hna
    go_enter Try.func35, Try.ntmps35
    go_wp2_with fail
    refine (Ha.out).mono ?_
    rintro e w' ⟨rfl, rfl⟩
    go_wp2_with fail
    go_ret
    exact rlink_same H.out F1.out HV.out
  · have hd1 : decide (ia < 0) = false := by simpa using hna
    by_cases hnb : ib < 0
    · have hd2 : decide (ib < 0) = true := by simpa using hnb
      have hv : vlink (views d) (a0, a1) (b0, b1) = (views d, false) := by
        unfold vlink
        rw [if_neg (by rw [vkeys_views, HIA.out, HIB.out]; omega)]
      have HV := Lib.hid hv
      clear hv hnb hna
      go_enter Try.func35, Try.ntmps35
      go_wp2_with fail
      refine (Ha.out).mono ?_
      rintro e w' ⟨rfl, rfl⟩
      go_wp2_with fail
      refine (Hb.out).mono ?_
      rintro e w' ⟨rfl, rfl⟩
      go_wp2_with fail
      go_ret
      exact rlink_same H.out F1.out HV.out
    · have hd2 : decide (ib < 0) = false := by simpa using hnb
      obtain ⟨i, rfl⟩ : ∃ i : Nat, ia = i := ⟨ia.toNat, by omega⟩
      have hi : i < d.bl.length := by omega
      have hib0 : 0 ≤ ib := by omega
      have q0 : (0 : Int) ≤ (i : Int) := by omega
      have hlkl := H.out.rows _ (mem_nthD hi)
      have hlkm := hlk _ (mem_nthD hi)
      unfold LnkOk at hlkl
      obtain ⟨n, hn⟩ : ∃ n, d.bl.length = n := ⟨_, rfl⟩
      obtain ⟨dA, hdA⟩ : ∃ q, d.A = q := ⟨_, rfl⟩
      obtain ⟨dcap, hdc⟩ : ∃ q, d.c = q := ⟨_, rfl⟩
      have C0 : Hid (w.cell? ⟨g, 0, none⟩ = some (.slice dA n dcap)) := Lib.hid (by have := H.out.cells.1; rw [hn, hdA, hdc] at this; exact this)
      obtain ⟨gl, hgl, hgll, hc⟩ := drow_cells H.out.r hi
      have hgl' : dA = some ⟨gl, 0, none⟩ := hdA.symm.trans hgl
      subst hgl'
      have v4 := (hc 4 (by omega)).1
      have y4 := (hc 4 (by omega)).2
      obtain ⟨bA, hbA⟩ : ∃ q, (nthD d.bl i).A = q := ⟨_, rfl⟩
      obtain ⟨bc, hbc⟩ : ∃ q, (nthD d.bl i).c = q := ⟨_, rfl⟩
      obtain ⟨ks, hks⟩ : ∃ q, (nthD d.bl i).ks = q := ⟨_, rfl⟩
      obtain ⟨m, hm⟩ : ∃ q, ks.length = q := ⟨_, rfl⟩
      have v4 : w.cell? ⟨gl, i * 5 + 4, none⟩ = some (.slice bA m bc) := by rw [← hm, ← hks, ← hbA, ← hbc]; exact v4
      rw [hks, hbA, hbc, hm] at hlkl
      rw [hks, hm] at hlkm
      have HA := Lib.hid hdA
      have HBA := Lib.hid hbA
      have HBC := Lib.hid hbc
      have HKS := Lib.hid hks
      have HM := Lib.hid hm
      have HN := Lib.hid hn
      have V4 := Lib.hid v4
      have Y4 := Lib.hid y4
      have HLK := Lib.hid hlkl
      have hgg := H.out.b.lt
      have x0 := BB.out.cell 0
      have x1 := BB.out.cell 1
      have q1 : (i : Int) < (n : Int) := by omega
      have n24 : n ≤ 1024 := by omega
      clear hdA hbA hbc hks hm hn hlkl hc v4 y4 hgl hdc hna hnb hlk
      go_enter Try.func35, Try.ntmps35
      go_wp2_with fail
      refine (Ha.out).mono ?_
      rintro e w' ⟨rfl, rfl⟩
      go_wp2_with fail
      refine (Hb.out).mono ?_
      rintro e w' ⟨rfl, rfl⟩
      have c0 := F1.out.cell C0.out hgg (fun e => e)
      have v4 := F1.out.cell V4.out hgll (fun e => e)
      go_wp2_with fail
      go_loopw [8] (fun jv wr => ∃ j : Nat, j ≤ m ∧ jv = .int .i64 j ∧ Hid (∀ q, q < j → nthK ks q ≠ (b0, b1)) ∧ Hid (Fr (fun _ => False) ((w.alloc (.cells #[.int .u32 a0, .int .u32 a1] 44)).alloc (.cells #[.int .u32 b0, .int .u32 b1] 44)) wr)) (fun jv _ => m - (intOf jv).toNat)
      case atStart => exact ⟨0, by omega, rfl, Lib.hid (fun q hq => absurd hq (by omega)), Lib.hid (Fr.refl _ _)⟩
      case round =>
        obtain ⟨j, hj, rfl, hno, hfw⟩ := hrel
        have FW := Lib.hid (F1.out.tr hfw.out)
        have c0' := FW.out.cell C0.out hgg (fun e => e)
        have v4' := FW.out.cell V4.out hgll (fun e => e)
        have BW := BB.out.fr hfw.out (fun e => e)
        have y0 := BW.cell 0
        have y1 := BW.cell 1
        have y0 : wr.cell? ⟨w.heap.size + 1, 0, none⟩ = some (.int .u32 b0) := y0
        have y1 : wr.cell? ⟨w.heap.size + 1, 1, none⟩ = some (.int .u32 b1) := y1
        clear BW
        by_cases hjm : j < m
        · have hd3 : decide ((j : Int) < (m : Int)) = true := by simp; omega
          have j0 : (0 : Int) ≤ (j : Int) := by omega
          have j1 : (j : Int) < (m : Int) := by omega
          obtain ⟨ga, go, hA2, hal, u0, u1⟩ := at_cells (krow_at_ HLK.out HM.out) hjm
          have u0 := FW.out.cell u0 hal (fun e => e)
          have u1 := FW.out.cell u1 hal (fun e => e)
          obtain ⟨y, hy⟩ : ∃ y, nthK ks j = y := ⟨_, rfl⟩
          rw [hy] at u0 u1
          have HBA2 : Hid (bA = some ⟨ga, go, none⟩) := Lib.hid hA2
          subst hA2
          obtain ⟨k0, k1⟩ := y
          have u2 : wr.cell? ⟨ga, go + j * 2, none⟩ = some (.int .u32 k0) := u0
          have u3 : wr.cell? ⟨ga, go + j * 2 + 1, none⟩ = some (.int .u32 k1) := u1
          by_cases hkk : (k0, k1) = (b0, b1)
          · have HV : Hid (vlink (views d) (a0, a1) (b0, b1) = (views d, true)) := Lib.hid (by
              have hjk : j < ks.length := by have := HM.out; omega
              have hmem : (b0, b1) ∈ (nthD d.bl i).ks := by rw [HKS.out, ← hkk, ← hy, nthK_at hjk]; exact List.getElem_mem hjk
              unfold vlink
              rw [vkeys_views, HIA.out, HIB.out, if_pos ⟨by omega, by omega⟩, Int.toNat_natCast, nthV_views hi]
              show (if (b0, b1) ∈ (nthD d.bl i).ks then _ else _) = _
              rw [if_pos hmem])
            injection hkk with h8 h9
            subst h8
            subst h9
            clear hy u0 u1 hno
            go_upto_region 7 with (fail)
            go_still_tail 12, (by kernel_rfl)
            change wpList _ _ _ _ _ wr.drew
            go_wp2_with fail
            go_ret
            exact rlink_same H.out FW.out.drew HV.out
          · have HS : Hid (∀ q, q < j + 1 → nthK ks q ≠ (b0, b1)) := Lib.hid (fun q hq => by
              rcases (by omega : q < j ∨ q = j) with h1 | rfl
              · exact hno.out q h1
              · rw [hy]; exact hkk)
            have hne : (k0 == b0 && k1 == b1) = false := by
              rw [Bool.eq_false_iff]
              intro e
              simp at e
              exact hkk (by rw [e.1, e.2])
            clear hy u0 u1 hno hkk
            go_upto_region 7 with (fail)
            go_still_tail 12, (by kernel_rfl)
            change wpList _ _ _ _ _ wr.drew
            go_wp2_with fail
            exact ⟨⟨j + 1, by omega, by go_num, HS, Lib.hid hfw.out.drew⟩, by simp [intOf]; omega⟩
        · have hd3 : decide ((j : Int) < (m : Int)) = false := by simp; omega
          have hnb : (b0, b1) ∉ (nthD d.bl i).ks := by
            rw [HKS.out]
            intro hm'
            obtain ⟨q, hq, e⟩ := List.getElem_of_mem hm'
            have := HM.out
            exact hno.out q (by omega) (by rw [nthK_at hq, e])
          have HNB := Lib.hid hnb
          have hgw : g < wr.heap.size := Nat.lt_of_lt_of_le hgg FW.out.size
          have hglw : gl < wr.heap.size := Nat.lt_of_lt_of_le hgll FW.out.size
          have hbw : w.heap.size + 1 < wr.heap.size := (BB.out.fr hfw.out (fun e => e)).lt
          have OWN : Hid ((wr.alloc (.cells #[.int .u32 b0, .int .u32 b1] 44)).drew.ownsRow 0 44 2 (.slice bA m bc) m (kcells ks)) := Lib.hid ((own_fr HLK.out FW.out (fun _ _ e => e)).alloc _)
          have HRD : Hid (Reads (wr.alloc (.cells #[.int .u32 b0, .int .u32 b1] 44)).drew (wr.heap.size + 1) 2 (some ⟨wr.heap.size, 0, none⟩) 1 [.int .u32 b0, .int .u32 b1]) := Lib.hid (by
            have := reads_blk (size := 2) (n := 1) (Blk.new wr 44 #[.int .u32 b0, .int .u32 b1]) rfl
            exact this)
          have HGL : Hid (∃ cs, Blk (wr.alloc (.cells #[.int .u32 b0, .int .u32 b1] 44)).drew gl 73 cs) := Lib.hid (by
            obtain ⟨cs, hb⟩ := (own_blk H.out.r gl (by rw [HA.out]; rfl)).2.2
            exact ⟨cs, ((hb.fr FW.out (fun e => e)).alloc _).drew⟩)
          have HNG : Hid ((Value.slice bA m bc).ownBlock ≠ some gl) := Lib.hid (fun e => by
            have h1 := ab_own e
            rw [← HBA.out] at h1
            exact (H.out.ne_lk hi h1).2.1 (by rw [HA.out]; rfl))
          have hv5 : ∀ w6, (wr.alloc (.cells #[.int .u32 b0, .int .u32 b1] 44)).drew.grownBy w6 (Value.slice bA m bc).ownBlock → w6.cell? ⟨gl, i * 5 + 4, none⟩ = some (.slice bA m bc) ∧ w6.frozen? ⟨gl, i * 5 + 4, none⟩ = false := fun w6 hg => by
            obtain ⟨cs, hb⟩ := HGL.out
            have hb6 := hb.grown hg (Ne.symm HNG.out)
            refine ⟨?_, hb6.frozen _⟩
            have h1 : wr.cell? ⟨gl, i * 5 + 4, none⟩ = some (.slice bA m bc) := v4'
            have h2 := hb.cell (i * 5 + 4)
            have h3 : (wr.alloc (.cells #[.int .u32 b0, .int .u32 b1] 44)).drew.cell? ⟨gl, i * 5 + 4, none⟩ = some (.slice bA m bc) := ((Fr.refl (fun _ => False) wr).alloc _).cell h1 (Nat.lt_of_lt_of_le hgll FW.out.size) (fun e => e)
            rw [hb6.cell, ← h2]
            exact h3
          have HV5 := Lib.hid hv5
          have hv6 : ∀ w6, (wr.alloc (.cells #[.int .u32 b0, .int .u32 b1] 44)).drew.grownBy w6 (Value.slice bA m bc).ownBlock → w6.cell? ⟨g, 0, none⟩ = some (.slice (some ⟨gl, 0, none⟩) n dcap) := fun w6 hg => by
            have hb := ((H.out.b.fr FW.out (fun e => e)).alloc (.cells #[.int .u32 b0, .int .u32 b1] 44)).drew
            have hng : some g ≠ (Value.slice bA m bc).ownBlock := fun e => by
              have h1 := ab_own e.symm
              rw [← HBA.out] at h1
              exact (H.out.ne_lk hi h1).1 rfl
            have h1 := (hb.grown hg hng).cell 0
            have h2 := H.out.b.cell 0
            rw [h1, ← h2]
            exact C0.out
          have HV6 := Lib.hid hv6
          clear hv5 hv6 hnb hno
          go_wp2_with fail
          go_upto_region 9 with (fail)
          go_region_law (
            refine step_append_any _ rfl (.tmp 64) (.tmp 66) 71 rfl 0 44 i0 _ 2 8 Try.underlying71 hin hz0 hz1 hz2 rfl (by omega) (.slice bA m bc) m _ (by simp [Act.eval, Act.put]) OWN.out (wr.heap.size + 1) (some ⟨wr.heap.size, 0, none⟩) 1 1 [.int .u32 b0, .int .u32 b1] (by simp [Act.eval, Act.put]) HRD.out (by simp [Value.oneCell']) (by simp only [maxLen]; omega) (by omega) (Nat.zero_le _) ?_
            intro v1 w6 hown1 hg1 hat1
            obtain ⟨A2, c2, hv1⟩ := slice_form hown1
            subst hv1
            obtain ⟨k4, k5⟩ := HV5.out w6 hg1
            have k6 := HV6.out w6 hg1)
          all_goals
            have HO := Lib.hid hown1
            have HG := Lib.hid hg1
            have HAT := Lib.hid hat1
            clear hown1 hg1 hat1
            go_wp2_with fail
            go_ret
            have ho := HO.out
            have hg := HG.out
            have ha := HAT.out
            rw [← HKS.out] at ho
            rw [← HBA.out, ← HBC.out] at hg ha
            exact rlink_app H.out FW.out hi HA.out HIA.out (by rw [HIB.out]; omega) HNB.out (by rw [HKS.out]; exact HM.out) hlkm ho hg ha
end Go.Proofs.Ytfjlgdafakbdoaa.Ca
