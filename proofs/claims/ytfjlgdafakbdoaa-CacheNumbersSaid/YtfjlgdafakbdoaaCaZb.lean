/- Law 23: do: Drop, Flush, Link of both caches. -/
import Derived.Test.YtfjlgdafakbdoaaCaZ
namespace Go.Proofs.Ytfjlgdafakbdoaa.Ca
open Go.RowKit Mz Go.Maps By
set_option linter.unusedVariables false
set_option linter.unusedSimpArgs false
set_option maxHeartbeats 4000000
set_option maxRecDepth 100000

theorem do_flush (KS : Nat → Prop) (w : World) (gc gd : Nat) (s : Cs) (d : Ds) (h : Duo KS w gc gd s d) (hs : Same s d) (hfl : s.fl ≤ 900) (kd ct a0 a1 b0 b1 : Int) (A pA : Option Addr) (ln cp pl pc : Nat) (hk : kd = 3) :
    Calls Try.prog 21 #[.pointer (some ⟨gc, 0, none⟩), .pointer (some ⟨gd, 0, none⟩), .agg #[.int .i64 kd, .int .i64 ct, .int .u32 a0, .int .u32 a1, .int .u32 b0, .int .u32 b1, .slice A ln cp, .slice pA pl pc]] w (DoP KS w gc gd s d) := by
  subst hk
  have f1 := (Fr.refl (fun _ => False) w).alloc (.cells #[.int .i64 3, .int .i64 ct, .int .u32 a0, .int .u32 a1, .int .u32 b0, .int .u32 b1, .slice A ln cp, .slice pA pl pc] 47)
  have h1 := h.fr0 f1
  have Hf := Lib.hid (flush_any _ gc s h1.cc (by omega))
  have hl := hs.len
  obtain ⟨n, hn⟩ : ∃ n, s.bl.length = n := ⟨_, rfl⟩
  rw [hn] at Hf
  have HN : Hid (d.bl.length = n) := Lib.hid (by rw [hl, hn])
  have HS := Lib.hid hs
  have H1 := Lib.hid h1
  have F1 := Lib.hid f1
  clear h1 f1 hl hn h hs
  go_enter Try.func21, Try.ntmps21
  go_wp2_with fail
  refine (Hf.out).mono ?_
  rintro e w2 ⟨gm, rfl, c2, hg1, hg2, f2⟩
  have D2 : Hid (Duo KS w2 gc gd (s.flush gm) d) := Lib.hid (H1.out.prog c2 (fun q hq => by
    rcases hq with (e | e | e | ⟨p, hp, e⟩) | ⟨x, hx, e⟩
    · exact .inl (.inl (.inl e))
    · cases e
    · right; have e : q = gm := e; omega
    · cases hp
    · cases hx) (f2.mono (fun q _ e => .inl (.inl e))))
  have Hg := Lib.hid (rflush_any w2 gd d D2.out.dd (by rw [HS.out.fl]; omega))
  rw [HN.out] at Hg
  have F2 := Lib.hid f2
  clear c2 f2 hg1 hg2
  go_wp2_with fail
  refine (Hg.out).mono ?_
  rintro e w3 ⟨rfl, d3, f3⟩
  have HE : Hid (DoP KS w gc gd s d (.returned (.bool true)) w3) := Lib.hid (by
    refine ⟨rfl, s.flush gm, d.flush, D2.out.doc d3 (fun q hq => ?_) (f3.mono (fun q _ e => .inl e)), ⟨HS.out.room, by show d.fl + 1 = s.fl + 1; rw [HS.out.fl], rfl⟩, rfl, by show s.fl + 1 ≤ s.fl + 1; omega, ?_⟩
    · rcases hq with e | e | ⟨x, hx, e⟩
      · exact .inl (.inl e)
      · cases e
      · cases hx
    · exact ((F1.out.mono (S' := fun q => s.own gc q ∨ d.own gd q) (fun _ _ e => e.elim)).tr (F2.out.mono (fun q _ e => .inl (.inl (.inl e))))).tr (f3.mono (fun q _ e => .inr (.inl e))))
  clear d3 f3
  go_wp2_with fail
  go_ret
  exact HE.out
theorem drop_fl (s : Cs) (ps : List Int) : (s.drop ps).fl = s.fl ∧ (s.drop ps).room = s.room := ⟨rfl, rfl⟩
/-- both Drop -/
theorem drop_both {KS : Nat → Prop} {gc gd : Nat} {w W : World} {s : Cs} {d : Ds} (h : Duo KS w gc gd s d) (hs : Same s d) (f1 : Fr (fun _ => False) w W) (ps : List Int) (pA : Option Addr) (np pc : Nat) (B : Nat) (hP : ∀ W, Fr (fun q => ¬ KS q) w W → IntsAt .i64 W B pA np ps) (hBw : B ≤ w.heap.size) (hm : np ≤ maxLen) :
    Calls Try.prog 19 #[.pointer (some ⟨gc, 0, none⟩), .slice pA np pc] W fun e w2 => e = .returned (.int .i64 (cntG ps s.bl : Nat)) ∧ Hid (Calls Try.prog 33 #[.pointer (some ⟨gd, 0, none⟩), .slice pA np pc] w2 fun e w3 => e = .returned (.int .i64 (cntG ps s.bl : Nat)) ∧ Hid (DoP KS w gc gd s d (.returned (.bool true)) w3)) := by
  have h1 := h.fr0 f1
  refine (drop_any W gc s h1.cc ps B np pc pA (fun W' fW => hP W' ((f1.mono (fun _ _ e => e.elim)).tr (fW.mono (fun q _ e => h.lc q (sx_own e))))) hm (Nat.le_trans hBw f1.size)).mono ?_
  rintro e w2 ⟨g1, g2, g3, g4⟩
  have f2 : Fr (s.own gc) W w2 := g3.mono (fun q _ e => .inl e)
  have h2 := h1.prog g2 (fun q hq => .inl (g4 q hq)) f2
  have hP2 := hP w2 ((f1.mono (fun _ _ e => e.elim)).tr (f2.mono (fun q _ e => h.lc q e)))
  obtain ⟨k1, k2⟩ := same_drop hs ps
  refine ⟨g1, Lib.hid ((rdrop_any w2 gd d h2.dd ps B np pc pA hP2 hm (Nat.le_trans hBw (Nat.le_trans f1.size f2.size))).mono ?_)⟩
  rintro e w3 ⟨m1, d3, m2, m3, m4, m5, m6, m7⟩
  refine ⟨by rw [m1, k2], Lib.hid ⟨rfl, s.drop ps, d3, h2.doc m2 m6 m7, ⟨m3.trans hs.room, m4.trans hs.fl, m5.trans k1⟩, rfl, by show s.fl ≤ s.fl + 1; omega, ?_⟩⟩
  exact ((f1.mono (S' := fun q => s.own gc q ∨ d.own gd q) (fun _ _ e => e.elim)).tr (f2.mono (fun q _ e => .inl e))).tr (m7.mono (fun q _ e => .inr e))
theorem do_drop (KS : Nat → Prop) (w : World) (gc gd : Nat) (s : Cs) (d : Ds) (h : Duo KS w gc gd s d) (hs : Same s d) (hfl : s.fl ≤ 900) (kd ct a0 a1 b0 b1 : Int) (A pA : Option Addr) (ln cp pl pc : Nat) (ps : List Int) (B : Nat) (hP : ∀ W, Fr (fun q => ¬ KS q) w W → IntsAt .i64 W B pA pl ps) (hBw : B ≤ w.heap.size) (hm : pl ≤ maxLen) (hc : pl ≤ pc) (hk : kd = 2) :
    Calls Try.prog 21 #[.pointer (some ⟨gc, 0, none⟩), .pointer (some ⟨gd, 0, none⟩), .agg #[.int .i64 kd, .int .i64 ct, .int .u32 a0, .int .u32 a1, .int .u32 b0, .int .u32 b1, .slice A ln cp, .slice pA pl pc]] w (DoP KS w gc gd s d) := by
  subst hk
  have f1 := (Fr.refl (fun _ => False) w).alloc (.cells #[.int .i64 2, .int .i64 ct, .int .u32 a0, .int .u32 a1, .int .u32 b0, .int .u32 b1, .slice A ln cp, .slice pA pl pc] 47)
  by_cases h8 : 8 < pl
  · have HD := Lib.hid (drop_both h hs f1 (ps.take 8) pA 8 pc B (fun W fW => (hP W fW).take (by omega)) hBw (by decide))
    have hd : decide (8 < pl) = true := by simpa using h8
    have hd2 : decide ((8 : Int) < (pl : Int)) = true := by simp; omega
    unfold maxLen at hm
    clear h hs hP f1
    go_enter Try.func21, Try.ntmps21
    go_wp2_with fail
    refine (HD.out).mono ?_
    rintro e w2 ⟨rfl, HD2⟩
    go_wp2_with fail
    refine (HD2.out).mono ?_
    rintro e w3 ⟨rfl, HE⟩
    go_wp2_with fail
    go_ret
    exact HE.out
  · have HD := Lib.hid (drop_both h hs f1 ps pA pl pc B hP hBw hm)
    have hd : decide (8 < pl) = false := by simpa using h8
    have hd2 : decide ((8 : Int) < (pl : Int)) = false := by simp; omega
    unfold maxLen at hm
    clear h hs hP f1
    go_enter Try.func21, Try.ntmps21
    go_wp2_with fail
    refine (HD.out).mono ?_
    rintro e w2 ⟨rfl, HD2⟩
    go_wp2_with fail
    refine (HD2.out).mono ?_
    rintro e w3 ⟨rfl, HE⟩
    go_wp2_with fail
    go_ret
    exact HE.out
theorem do_none (KS : Nat → Prop) (w : World) (gc gd : Nat) (s : Cs) (d : Ds) (h : Duo KS w gc gd s d) (hs : Same s d) (kd ct a0 a1 b0 b1 : Int) (A pA : Option Addr) (ln cp pl pc : Nat) (h1 : kd ≠ 1) (h2 : kd ≠ 2) (h3 : kd ≠ 3) (h4 : kd ≠ 4) :
    Calls Try.prog 21 #[.pointer (some ⟨gc, 0, none⟩), .pointer (some ⟨gd, 0, none⟩), .agg #[.int .i64 kd, .int .i64 ct, .int .u32 a0, .int .u32 a1, .int .u32 b0, .int .u32 b1, .slice A ln cp, .slice pA pl pc]] w (DoP KS w gc gd s d) := by
  have f1 := (Fr.refl (fun _ => False) w).alloc (.cells #[.int .i64 kd, .int .i64 ct, .int .u32 a0, .int .u32 a1, .int .u32 b0, .int .u32 b1, .slice A ln cp, .slice pA pl pc] 47)
  have HE : Hid (DoP KS w gc gd s d (.returned (.bool true)) (w.alloc (.cells #[.int .i64 kd, .int .i64 ct, .int .u32 a0, .int .u32 a1, .int .u32 b0, .int .u32 b1, .slice A ln cp, .slice pA pl pc] 47))) := Lib.hid ⟨rfl, s, d, h.fr0 f1, hs, rfl, by omega, f1.mono (fun _ _ e => e.elim)⟩
  have g1 : (kd == 1) = false := by simpa using h1
  have g2 : (kd == 2) = false := by simpa using h2
  have g3 : (kd == 3) = false := by simpa using h3
  have g4 : (kd == 4) = false := by simpa using h4
  clear h hs f1 h1 h2 h3 h4
  go_enter Try.func21, Try.ntmps21
  go_wp2_with fail
  go_ret
  exact HE.out
/-- both Link -/
theorem link_both {KS : Nat → Prop} {gc gd : Nat} {w W : World} {s : Cs} {d : Ds} (h : Duo KS w gc gd s d) (hs : Same s d) (f1 : Fr (fun _ => False) w W) (a b : Ky) (ha : a.Ok) (hb : b.Ok) :
    Calls Try.prog 23 #[.pointer (some ⟨gc, 0, none⟩), .agg #[.int .u32 a.1, .int .u32 a.2], .agg #[.int .u32 b.1, .int .u32 b.2]] W fun e w2 => ∃ t, e = .returned (.bool t) ∧ Hid (Fr (s.own gc) W w2) ∧ Hid (∀ w3, Fr (fun _ => False) w2 w3 → Calls Try.prog 35 #[.pointer (some ⟨gd, 0, none⟩), .agg #[.int .u32 a.1, .int .u32 a.2], .agg #[.int .u32 b.1, .int .u32 b.2]] w3 fun e w4 => e = .returned (.bool t) ∧ Hid (DoP KS w gc gd s d (.returned (.bool true)) w4) ∧ Hid (Fr (d.own gd) w3 w4)) := by
  have h1 := h.fr0 f1
  have hlk := hs.lk h.cc.ok
  have hsl := fun A c => same_link hs h.cc.ok a b A c
  have key : ∀ (s2 : Cs) (w2 : World) (t : Bool), Cch w2 gc s2 → (∀ q, s2.own gc q → s.own gc q ∨ W.heap.size ≤ q) → Fr (s.own gc) W w2 → s2.room = s.room → s2.fl = s.fl → vlink (views d) a b = (pviews s2, t) → ∀ w3, Fr (fun _ => False) w2 w3 → Calls Try.prog 35 #[.pointer (some ⟨gd, 0, none⟩), .agg #[.int .u32 a.1, .int .u32 a.2], .agg #[.int .u32 b.1, .int .u32 b.2]] w3 fun e w4 => e = .returned (.bool t) ∧ Hid (DoP KS w gc gd s d (.returned (.bool true)) w4) ∧ Hid (Fr (d.own gd) w3 w4) := by
    intro s2 w2 t c2 o2 f2 r2 l2 hv w3 f3
    have h2 := (h1.prog c2 o2 f2).fr0 f3
    refine (rlink_any w3 gd d h2.dd a b hlk).mono ?_
    rintro e w4 ⟨m1, d4, m2, m3, m4, m5, m6, m7⟩
    rw [hv] at m1 m5
    refine ⟨m1, Lib.hid ⟨rfl, s2, d4, h2.doc m2 m6 m7, ⟨by rw [m3, r2]; exact hs.room, by rw [m4, l2]; exact hs.fl, m5⟩, r2, by omega, ?_⟩, Lib.hid m7⟩
    exact (((f1.mono (S' := fun q => s.own gc q ∨ d.own gd q) (fun _ _ e => e.elim)).tr (f2.mono (fun q _ e => .inl e))).tr (f3.mono (fun _ _ e => e.elim))).tr (m7.mono (fun q _ e => .inr e))
  refine (link_any W gc s h1.cc a b ha hb).mono ?_
  rintro e w2 hL
  unfold LinkPost at hL
  by_cases hab : 0 ≤ idx a s.bl ∧ 0 ≤ idx b s.bl
  · rw [if_pos hab] at hL
    obtain ⟨g1, g2, g3⟩ := hL
    have f2 : Fr (s.own gc) W w2 := g2.mono (fun q _ e => .inl e)
    by_cases hm : b ∈ lnk s.E a
    · rw [if_pos hm] at g3
      have hv := hsl none 0
      rw [if_pos hab, if_pos hm] at hv
      exact ⟨_, g1, Lib.hid f2, Lib.hid (key s w2 true g3 (fun q hq => .inl hq) f2 rfl rfl hv)⟩
    · rw [if_neg hm] at g3
      obtain ⟨A, c, k1, k2⟩ := g3
      have hv := hsl A c
      rw [if_pos hab, if_neg hm] at hv
      exact ⟨_, g1, Lib.hid f2, Lib.hid (key _ w2 true k1 k2 f2 rfl rfl hv)⟩
  · rw [if_neg hab] at hL
    obtain ⟨g1, g2, g3⟩ := hL
    have f2 : Fr (s.own gc) W w2 := g2.mono (fun q _ e => .inl e)
    have hv := hsl none 0
    rw [if_neg hab] at hv
    exact ⟨_, g1, Lib.hid f2, Lib.hid (key s w2 false g3 (fun q hq => .inl hq) f2 rfl rfl hv)⟩
/-- the asked keys' cells -/
def S4 (gx : Nat) (a0 a1 b0 b1 : Int) (W : World) : Prop := W.cell? ⟨gx, 2, none⟩ = some (.int .u32 a0) ∧ W.cell? ⟨gx, 3, none⟩ = some (.int .u32 a1) ∧ W.cell? ⟨gx, 4, none⟩ = some (.int .u32 b0) ∧ W.cell? ⟨gx, 5, none⟩ = some (.int .u32 b1) ∧ gx < W.heap.size
theorem S4.fr {W W' : World} {gx : Nat} {a0 a1 b0 b1 : Int} {S : Nat → Prop} (h : S4 gx a0 a1 b0 b1 W) (f : Fr S W W') (hg : ¬ S gx) : S4 gx a0 a1 b0 b1 W' := by
  obtain ⟨h0, h1, h2, h3, hl⟩ := h
  exact ⟨f.cell h0 hl hg, f.cell h1 hl hg, f.cell h2 hl hg, f.cell h3 hl hg, Nat.lt_of_lt_of_le hl f.size⟩
theorem do_link (KS : Nat → Prop) (w : World) (gc gd : Nat) (s : Cs) (d : Ds) (h : Duo KS w gc gd s d) (hs : Same s d) (hfl : s.fl ≤ 900) (kd ct a0 a1 b0 b1 : Int) (A pA : Option Addr) (ln cp pl pc : Nat) (ha : (Lit.int .u32 a0).wf = true) (ha1 : (Lit.int .u32 a1).wf = true) (hb : (Lit.int .u32 b0).wf = true) (hb1 : (Lit.int .u32 b1).wf = true) (hk : kd = 4) :
    Calls Try.prog 21 #[.pointer (some ⟨gc, 0, none⟩), .pointer (some ⟨gd, 0, none⟩), .agg #[.int .i64 kd, .int .i64 ct, .int .u32 a0, .int .u32 a1, .int .u32 b0, .int .u32 b1, .slice A ln cp, .slice pA pl pc]] w (DoP KS w gc gd s d) := by
  subst hk
  have u1 := wf_u32 ha
  have u2 := wf_u32 ha1
  have u3 := wf_u32 hb
  have u4 := wf_u32 hb1
  obtain ⟨ka, hka⟩ : ∃ z, a0 % 5 = z := ⟨_, rfl⟩
  obtain ⟨kb, hkb⟩ : ∃ z, a1 % 400 = z := ⟨_, rfl⟩
  obtain ⟨kc, hkc⟩ : ∃ z, b0 % 5 = z := ⟨_, rfl⟩
  obtain ⟨ke, hke⟩ : ∃ z, b1 % 400 = z := ⟨_, rfl⟩
  have KA : Hid (∀ W, Calls Try.prog 18 #[.agg #[.int .u32 a0, .int .u32 a1]] W fun e w' => e = .returned (.agg #[.int .u32 ka, .int .u32 kb]) ∧ Hid (Fr (fun _ => False) W w')) := Lib.hid (fun W => (key_any W a0 a1 ha ha1).mono (by rintro e w' ⟨g1, g2⟩; rw [hka, hkb] at g1; exact ⟨g1, Lib.hid g2⟩))
  have KB : Hid (∀ W, Calls Try.prog 18 #[.agg #[.int .u32 b0, .int .u32 b1]] W fun e w' => e = .returned (.agg #[.int .u32 kc, .int .u32 ke]) ∧ Hid (Fr (fun _ => False) W w')) := Lib.hid (fun W => (key_any W b0 b1 hb hb1).mono (by rintro e w' ⟨g1, g2⟩; rw [hkc, hke] at g1; exact ⟨g1, Lib.hid g2⟩))
  have PA : Hid (∀ W, Calls Try.prog 31 #[.agg #[.int .u32 a0, .int .u32 a1]] W fun e w' => e = .returned (.agg #[.int .u32 ka, .int .u32 kb]) ∧ Hid (Fr (fun _ => False) W w')) := Lib.hid (fun W => (pair_any W a0 a1 ha ha1).mono (by rintro e w' ⟨g1, g2⟩; rw [hka, hkb] at g1; exact ⟨g1, Lib.hid g2⟩))
  have PB : Hid (∀ W, Calls Try.prog 31 #[.agg #[.int .u32 b0, .int .u32 b1]] W fun e w' => e = .returned (.agg #[.int .u32 kc, .int .u32 ke]) ∧ Hid (Fr (fun _ => False) W w')) := Lib.hid (fun W => (pair_any W b0 b1 hb hb1).mono (by rintro e w' ⟨g1, g2⟩; rw [hkc, hke] at g1; exact ⟨g1, Lib.hid g2⟩))
  have f1 := (Fr.refl (fun _ => False) w).alloc (.cells #[.int .i64 4, .int .i64 ct, .int .u32 a0, .int .u32 a1, .int .u32 b0, .int .u32 b1, .slice A ln cp, .slice pA pl pc] 47)
  have bx := Blk.new w 47 #[.int .i64 4, .int .i64 ct, .int .u32 a0, .int .u32 a1, .int .u32 b0, .int .u32 b1, .slice A ln cp, .slice pA pl pc]
  have hS4 : S4 w.heap.size a0 a1 b0 b1 (w.alloc (.cells #[.int .i64 4, .int .i64 ct, .int .u32 a0, .int .u32 a1, .int .u32 b0, .int .u32 b1, .slice A ln cp, .slice pA pl pc] 47)) := ⟨bx.cell 2, bx.cell 3, bx.cell 4, bx.cell 5, bx.lt⟩
  have hka2 : Ky.Ok (ka, kb) := by unfold Ky.Ok; exact ⟨by show 0 ≤ ka ∧ _; omega, by show 0 ≤ kb ∧ _; omega⟩
  have hkc2 : Ky.Ok (kc, ke) := by unfold Ky.Ok; exact ⟨by show 0 ≤ kc ∧ _; omega, by show 0 ≤ ke ∧ _; omega⟩
  have HLk : Hid (∀ W, Fr (fun _ => False) (w.alloc (.cells #[.int .i64 4, .int .i64 ct, .int .u32 a0, .int .u32 a1, .int .u32 b0, .int .u32 b1, .slice A ln cp, .slice pA pl pc] 47)) W → Calls Try.prog 23 #[.pointer (some ⟨gc, 0, none⟩), .agg #[.int .u32 ka, .int .u32 kb], .agg #[.int .u32 kc, .int .u32 ke]] W fun e w2 => ∃ t, e = .returned (.bool t) ∧ Hid (Fr (s.own gc) W w2) ∧ Hid (∀ w3, Fr (fun _ => False) w2 w3 → Calls Try.prog 35 #[.pointer (some ⟨gd, 0, none⟩), .agg #[.int .u32 ka, .int .u32 kb], .agg #[.int .u32 kc, .int .u32 ke]] w3 fun e w4 => e = .returned (.bool t) ∧ Hid (DoP KS w gc gd s d (.returned (.bool true)) w4) ∧ Hid (Fr (d.own gd) w3 w4))) := Lib.hid (fun W fW => link_both h hs (f1.tr fW) (ka, kb) (kc, ke) hka2 hkc2)
  have HLOW : Hid (∀ q, s.own gc q ∨ d.own gd q → q < w.heap.size) := Lib.hid (fun q hq => hq.elim (h.cc.low q) (h.dd.low q))
  clear u1 u2 u3 u4 hka hkb hkc hke f1 bx hka2 hkc2 h hs ha ha1 hb hb1
  go_enter Try.func21, Try.ntmps21
  go_upto_region 14 with (fail)
  refine wp_region_held_drew (S := S4 w.heap.size a0 a1 b0 b1) (by kernel_rfl) (hS4) (fun hH => ?_)
  refine wpAnyH_take (i := 0) (v := ?_) rfl (by kernel_rfl) (by kernel_rfl) (by kernel_rfl) (fun _ _ _ h => h) (Or.inl ⟨by kernel_rfl, ?_⟩) hH ?_
  rotate_left
  · (intro W hSw; obtain ⟨k1, k2, k3, k4, k5⟩ := hSw; go_simp; try with_reducible rfl)
  refine wpAnyH_take (i := 1) (v := ?_) rfl (by kernel_rfl) (by kernel_rfl) (by kernel_rfl) (fun _ _ _ h => h) (Or.inl ⟨by kernel_rfl, ?_⟩) hH ?_
  rotate_left
  · (intro W hSw; obtain ⟨k1, k2, k3, k4, k5⟩ := hSw; go_simp; try with_reducible rfl)
  refine wpAnyH_take (i := 2) (v := ?_) rfl (by kernel_rfl) (by kernel_rfl) (by kernel_rfl) (fun _ _ _ h => h) (Or.inl ⟨by kernel_rfl, ?_⟩) hH ?_
  rotate_left
  · (intro W hSw; obtain ⟨k1, k2, k3, k4, k5⟩ := hSw; go_simp; try with_reducible rfl)
  try simp only [Act.put, List.getElem_toArray, List.getElem_cons_zero, List.getElem_cons_succ, List.setIfInBounds_toArray, List.set_cons_zero, List.set_cons_succ]
  refine wpAnyH_take (i := 4) (v := ?_) rfl (by kernel_rfl) (by kernel_rfl) (by kernel_rfl) (fun _ _ _ h => h) (Or.inl ⟨by kernel_rfl, ?_⟩) hH ?_
  rotate_left
  · (intro W hSw; obtain ⟨k1, k2, k3, k4, k5⟩ := hSw; go_simp; try with_reducible rfl)
  refine wpAnyH_take (i := 5) (v := ?_) rfl (by kernel_rfl) (by kernel_rfl) (by kernel_rfl) (fun _ _ _ h => h) (Or.inl ⟨by kernel_rfl, ?_⟩) hH ?_
  rotate_left
  · (intro W hSw; obtain ⟨k1, k2, k3, k4, k5⟩ := hSw; go_simp; try with_reducible rfl)
  refine wpAnyH_take (i := 8) (v := ?_) rfl (by kernel_rfl) (by kernel_rfl) (by kernel_rfl) (fun _ _ _ h => h) (Or.inl ⟨by kernel_rfl, ?_⟩) hH ?_
  rotate_left
  · (intro W hSw; obtain ⟨k1, k2, k3, k4, k5⟩ := hSw; go_simp; try with_reducible rfl)
  try simp only [Act.put, List.getElem_toArray, List.getElem_cons_zero, List.getElem_cons_succ, List.setIfInBounds_toArray, List.set_cons_zero, List.set_cons_succ]
  refine wpAnyH_take (i := 9) (v := ?_) rfl (by kernel_rfl) (by kernel_rfl) (by kernel_rfl) (fun _ _ _ h => h) (Or.inl ⟨by kernel_rfl, ?_⟩) hH ?_
  rotate_left
  · (intro W hSw; obtain ⟨k1, k2, k3, k4, k5⟩ := hSw; go_simp; try with_reducible rfl)
  refine wpAnyH_take (i := 10) (v := ?_) rfl (by kernel_rfl) (by kernel_rfl) (by kernel_rfl) (fun _ _ _ h => h) (Or.inl ⟨by kernel_rfl, ?_⟩) hH ?_
  rotate_left
  · (intro W hSw; obtain ⟨k1, k2, k3, k4, k5⟩ := hSw; go_simp; try with_reducible rfl)
  refine wpAnyH_take (i := 12) (v := ?_) rfl (by kernel_rfl) (by kernel_rfl) (by kernel_rfl) (fun _ _ _ h => h) (Or.inl ⟨by kernel_rfl, ?_⟩) hH ?_
  rotate_left
  · (intro W hSw; obtain ⟨k1, k2, k3, k4, k5⟩ := hSw; go_simp; try with_reducible rfl)
  try simp only [Act.put, List.getElem_toArray, List.getElem_cons_zero, List.getElem_cons_succ, List.setIfInBounds_toArray, List.set_cons_zero, List.set_cons_succ]
  refine wpAnyH_take (i := 13) (v := ?_) rfl (by kernel_rfl) (by kernel_rfl) (by kernel_rfl) (fun _ _ _ h => h) (Or.inl ⟨by kernel_rfl, ?_⟩) hH ?_
  rotate_left
  · (intro W hSw; obtain ⟨k1, k2, k3, k4, k5⟩ := hSw; go_simp; try with_reducible rfl)
  try simp only [Act.put, List.getElem_toArray, List.getElem_cons_zero, List.getElem_cons_succ, List.setIfInBounds_toArray, List.set_cons_zero, List.set_cons_succ]
  refine wpAnyH_ready (rs := [3]) (by kernel_rfl) (by simp) ?_
  refine AllReadyH.cons rfl (fun K hK => ?_) ?_
  · go_simp
    go_wp2_with (refine (KA.out _).mono ?_; rintro e w3 ⟨rfl, f3⟩)
    refine hK.out _ _ ?_ (fun hH => ?_)
    · exact hH.fr f3.out (fun e => e)
    clear hK K
    refine wpAnyH_ready (rs := [6]) (by kernel_rfl) (by simp) ?_
    refine AllReadyH.cons rfl (fun K hK => ?_) ?_
    · go_simp
      go_wp2_with (refine (KB.out _).mono ?_; rintro e w4 ⟨rfl, f4⟩)
      refine hK.out _ _ ?_ (fun hH => ?_)
      · exact hH.fr f4.out (fun e => e)
      clear hK K
      refine wpAnyH_ready (rs := [7]) (by kernel_rfl) (by simp) ?_
      refine AllReadyH.cons rfl (fun K hK => ?_) ?_
      · go_simp
        go_wp2_with (refine (HLk.out _ ((((Fr.refl _ _).drew).tr f3.out).tr f4.out)).mono ?_; rintro e w5 ⟨t, rfl, f5, HL5⟩)
        refine hK.out _ _ ?_ (fun hH => ?_)
        · exact hH.fr f5.out (fun e => by have := HLOW.out _ (.inl e); omega)
        clear hK K
        refine wpAnyH_ready (rs := [11]) (by kernel_rfl) (by simp) ?_
        refine AllReadyH.cons rfl (fun K hK => ?_) ?_
        · go_simp
          go_wp2_with (refine (PA.out _).mono ?_; rintro e w6 ⟨rfl, f6⟩)
          refine hK.out _ _ ?_ (fun hH => ?_)
          · exact hH.fr f6.out (fun e => e)
          clear hK K
          refine wpAnyH_ready (rs := [14]) (by kernel_rfl) (by simp) ?_
          refine AllReadyH.cons rfl (fun K hK => ?_) ?_
          · go_simp
            go_wp2_with (refine (PB.out _).mono ?_; rintro e w7 ⟨rfl, f7⟩)
            refine hK.out _ _ ?_ (fun hH => ?_)
            · exact hH.fr f7.out (fun e => e)
            clear hK K
            refine wpAnyH_ready (rs := [15]) (by kernel_rfl) (by simp) ?_
            refine AllReadyH.cons rfl (fun K hK => ?_) ?_
            · go_simp
              go_wp2_with (refine (HL5.out _ (f6.out.tr f7.out)).mono ?_; rintro e w8 ⟨rfl, hE, f8⟩)
              refine hK.out _ _ ?_ (fun hH => ?_)
              · exact hH.fr f8.out (fun e => by have := HLOW.out _ (.inr e); omega)
              clear hK K
              refine wpAnyH_take (i := 16) (v := (.bool true)) rfl (by kernel_rfl) (by kernel_rfl) (by kernel_rfl) (fun _ _ _ h => h) (Or.inl ⟨by kernel_rfl, ?_⟩) hH ?_
              · (intro W hSw; obtain ⟨k1, k2, k3, k4, k5⟩ := hSw; go_simp; try (cases t <;> rfl))
              refine wpAnyH_take (i := 17) (v := ?_) rfl (by kernel_rfl) (by kernel_rfl) (by kernel_rfl) (fun _ _ _ h => h) (Or.inl ⟨by kernel_rfl, ?_⟩) hH ?_
              rotate_left
              · (intro W hSw; obtain ⟨k1, k2, k3, k4, k5⟩ := hSw; go_simp; try with_reducible rfl)
              refine wpAnyH_done (by kernel_rfl) ?_ _
              go_wp2_with fail
              go_ret
              exact hE.out
            exact AllReadyH.nil
          exact AllReadyH.nil
        exact AllReadyH.nil
      exact AllReadyH.nil
    exact AllReadyH.nil
  exact AllReadyH.nil
theorem do_any (KS : Nat → Prop) (B : Nat) (w : World) (gc gd : Nat) (s : Cs) (d : Ds) (h : Duo KS w gc gd s d) (hs : Same s d) (hfl : s.fl ≤ 900) (x : Ask23) (hx : x.OkK w B KS) :
    Calls Try.prog 21 #[.pointer (some ⟨gc, 0, none⟩), .pointer (some ⟨gd, 0, none⟩), .agg #[.int .i64 x.kd, .int .i64 x.ct, .int .u32 x.a0, .int .u32 x.a1, .int .u32 x.b0, .int .u32 x.b1, .slice x.A x.len x.cap, .slice x.pA x.pl x.pc]] w (DoP KS w gc gd s d) := by
  by_cases h1 : x.kd = 1
  · exact do_put KS B w gc gd s d h hs hfl x hx h1
  · by_cases h2 : x.kd = 2
    · exact do_drop KS w gc gd s d h hs hfl _ _ _ _ _ _ _ _ _ _ _ _ _ B hx.pages.1 hx.hB hx.pages.2.1 hx.pages.2.2 h2
    · by_cases h3 : x.kd = 3
      · exact do_flush KS w gc gd s d h hs hfl _ _ _ _ _ _ _ _ _ _ _ _ h3
      · by_cases h4 : x.kd = 4
        · exact do_link KS w gc gd s d h hs hfl _ _ _ _ _ _ _ _ _ _ _ _ hx.a0 hx.a1 hx.b0 hx.b1 h4
        · exact do_none KS w gc gd s d h hs _ _ _ _ _ _ _ _ _ _ _ _ h1 h2 h3 h4
end Go.Proofs.Ytfjlgdafakbdoaa.Ca
