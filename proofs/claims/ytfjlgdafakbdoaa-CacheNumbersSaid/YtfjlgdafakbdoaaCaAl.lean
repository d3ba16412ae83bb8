/- Law 23: alike. -/
import Derived.Test.YtfjlgdafakbdoaaCaZb
namespace Go.Proofs.Ytfjlgdafakbdoaa.Ca
open Go.RowKit Mz Go.Maps By
set_option linter.unusedVariables false
set_option linter.unusedSimpArgs false
set_option maxHeartbeats 8000000
set_option maxRecDepth 100000

/-- what Find told lies in its box; the asked pair in its own -/
structure AlF (w : World) (gx g7 : Nat) (a0 a1 : Int) (p0 p1 : Int) (A : Option Addr) (n c : Nat) (ct : Int) (wx : World) : Prop where
  bx : Blk wx gx 44 #[.int .u32 a0, .int .u32 a1]
  b7 : Blk wx g7 34 #[.int .u32 p0, .int .u32 p1, .slice A n c, .int .i64 ct]
  fr : Fr (fun _ => False) w wx
theorem Same.row {w : World} {gd : Nat} {s : Cs} {d : Ds} (h : Same s d) (hd : Doc w gd d) {i : Nat} (hi : i < s.bl.length) : ∃ gl bA bc, d.A = some ⟨gl, 0, none⟩ ∧ gl < w.heap.size ∧ w.cell? ⟨gl, i * 5, none⟩ = some (.int .u32 (nthB s.bl i).pc) ∧ w.cell? ⟨gl, i * 5 + 1, none⟩ = some (.int .u32 (nthB s.bl i).pl) ∧ w.cell? ⟨gl, i * 5 + 2, none⟩ = some (.string (str (nthB s.bl i).code)) ∧ w.cell? ⟨gl, i * 5 + 3, none⟩ = some (.int .i64 (nthB s.bl i).ct) ∧ w.cell? ⟨gl, i * 5 + 4, none⟩ = some (.slice bA (lnk s.E (nthB s.bl i).k).length bc) ∧ w.ownsRow 0 44 2 (.slice bA (lnk s.E (nthB s.bl i).k).length bc) (lnk s.E (nthB s.bl i).k).length (kcells (lnk s.E (nthB s.bl i).k)) := by
  have hdl : i < d.bl.length := by rw [h.len]; exact hi
  obtain ⟨gl, hgl, hgll, hc⟩ := drow_cells hd.r hdl
  have hv := h.at_ hi
  have e1 : (nthD d.bl i).pc = (nthB s.bl i).pc := congrArg (fun v => v.k.1) hv
  have e2 : (nthD d.bl i).pl = (nthB s.bl i).pl := congrArg (fun v => v.k.2) hv
  have e3 : (nthD d.bl i).code = str (nthB s.bl i).code := congrArg Dv.code hv
  have e4 : (nthD d.bl i).ct = (nthB s.bl i).ct := congrArg Dv.ct hv
  have e5 : (nthD d.bl i).ks = lnk s.E (nthB s.bl i).k := congrArg Dv.ks hv
  have hl := hd.rows _ (mem_nthD hdl)
  unfold LnkOk at hl
  rw [e5] at hl
  refine ⟨gl, (nthD d.bl i).A, (nthD d.bl i).c, hgl, hgll, ?_, ?_, ?_, ?_, ?_, hl⟩
  · rw [← e1]; exact (hc 0 (by omega)).1
  · rw [← e2]; exact (hc 1 (by omega)).1
  · rw [← e3]; exact (hc 2 (by omega)).1
  · rw [← e4]; exact (hc 3 (by omega)).1
  · rw [← e5]; exact (hc 4 (by omega)).1
def SP (gx : Nat) (a0 a1 : Int) (W : World) : Prop := W.cell? ⟨gx, 0, none⟩ = some (.int .u32 a0) ∧ W.cell? ⟨gx, 1, none⟩ = some (.int .u32 a1) ∧ gx < W.heap.size
theorem SP.fr {W W' : World} {gx : Nat} {a0 a1 : Int} {S : Nat → Prop} (h : SP gx a0 a1 W) (f : Fr S W W') (hg : ¬ S gx) : SP gx a0 a1 W' :=
  ⟨f.cell h.1 h.2.2 hg, f.cell h.2.1 h.2.2 hg, Nat.lt_of_lt_of_le h.2.2 f.size⟩
/-- the cells that the first test reads where the block is kept -/
def SQ (wb : World) (gx g7 gd gl i : Nat) (a0 a1 p0 p1 : Int) (A : Option Addr) (n c : Nat) (ct : Int) (dn dc' : Nat) (sc : ByteArray) (W : World) : Prop :=
  (W.cell? ⟨gx, 0, none⟩ = some (.int .u32 a0) ∧ W.cell? ⟨gx, 1, none⟩ = some (.int .u32 a1)) ∧ (W.cell? ⟨g7, 0, none⟩ = some (.int .u32 p0) ∧ W.cell? ⟨g7, 1, none⟩ = some (.int .u32 p1) ∧ W.cell? ⟨g7, 2, none⟩ = some (.slice A n c) ∧ W.cell? ⟨g7, 3, none⟩ = some (.int .i64 ct)) ∧ W.cell? ⟨gd, 0, none⟩ = some (.slice (some ⟨gl, 0, none⟩) dn dc') ∧ (W.cell? ⟨gl, i * 5 + 2, none⟩ = some (.string sc) ∧ W.cell? ⟨gl, i * 5 + 3, none⟩ = some (.int .i64 ct)) ∧ Fr (fun _ => False) wb W ∧ gx < wb.heap.size ∧ g7 < W.heap.size ∧ gd < wb.heap.size ∧ gl < wb.heap.size
theorem SQ.fr {wb : World} {gx g7 gd gl i : Nat} {a0 a1 p0 p1 : Int} {A : Option Addr} {n c : Nat} {ct : Int} {dn dc' : Nat} {sc : ByteArray} {W W' : World} (h : SQ wb gx g7 gd gl i a0 a1 p0 p1 A n c ct dn dc' sc W) (f : Fr (fun _ => False) W W') : SQ wb gx g7 gd gl i a0 a1 p0 p1 A n c ct dn dc' sc W' := by
  obtain ⟨⟨h0, h1⟩, ⟨h2, h3, h4, h5⟩, h6, ⟨h7, h8⟩, h9, l1, l2, l3, l4⟩ := h
  have hs := h9.size
  have k := fun {p : Addr} {v : Option Value} (e : W.cell? p = v) (hp : p.block < W.heap.size) => f.cell e hp (fun e => e)
  exact ⟨⟨k h0 (Nat.lt_of_lt_of_le l1 hs), k h1 (Nat.lt_of_lt_of_le l1 hs)⟩, ⟨k h2 l2, k h3 l2, k h4 l2, k h5 l2⟩, k h6 (Nat.lt_of_lt_of_le l3 hs), ⟨k h7 (Nat.lt_of_lt_of_le l4 hs), k h8 (Nat.lt_of_lt_of_le l4 hs)⟩, h9.tr f, l1, Nat.lt_of_lt_of_le l2 f.size, l3, l4⟩
/-- the document's own cells -/
def S6 (gd : Nat) (A : Option Addr) (n c : Nat) (room fl : Int) (W : World) : Prop := W.cell? ⟨gd, 0, none⟩ = some (.slice A n c) ∧ W.cell? ⟨gd, 1, none⟩ = some (.int .i64 room) ∧ W.cell? ⟨gd, 2, none⟩ = some (.int .i64 fl)
theorem at_lt {w : World} {g off : Nat} {n : Nat} {f : Nat → Ky} (h : At_k w (some ⟨g, off, none⟩) n f) {q : Nat} (hq : q < n) : g < w.heap.size := by
  obtain ⟨g2, o2, e, hl, _⟩ := at_cells h hq
  injection e with e
  injection e with e
  subst e
  exact hl
def SN (g7 : Nat) (W : World) : Prop := W.cell? ⟨g7, 0, none⟩ = some (.int .u32 0) ∧ W.cell? ⟨g7, 1, none⟩ = some (.int .u32 0) ∧ W.cell? ⟨g7, 2, none⟩ = some (.slice none 0 0) ∧ W.cell? ⟨g7, 3, none⟩ = some (.int .i64 0)
theorem alike_any (KS : Nat → Prop) (w : World) (gc gd : Nat) (s : Cs) (d : Ds) (h : Duo KS w gc gd s d) (hs : Same s d) (a0 a1 : Int) (ha : (Lit.int .u32 a0).wf = true) (hb : (Lit.int .u32 a1).wf = true) :
    Calls Try.prog 22 #[.pointer (some ⟨gc, 0, none⟩), .pointer (some ⟨gd, 0, none⟩), .agg #[.int .u32 a0, .int .u32 a1]] w fun e w' => e = .returned (.bool true) ∧ Fr (fun _ => False) w w' := by
  have u1 := wf_u32 ha
  have u2 := wf_u32 hb
  obtain ⟨ka, hka⟩ : ∃ z, a0 % 5 = z := ⟨_, rfl⟩
  obtain ⟨kb, hkb⟩ : ∃ z, a1 % 400 = z := ⟨_, rfl⟩
  have KA : Hid (∀ W, Calls Try.prog 18 #[.agg #[.int .u32 a0, .int .u32 a1]] W fun e w' => e = .returned (.agg #[.int .u32 ka, .int .u32 kb]) ∧ Hid (Fr (fun _ => False) W w')) := Lib.hid (fun W => (key_any W a0 a1 ha hb).mono (by rintro e w' ⟨g1, g2⟩; rw [hka, hkb] at g1; exact ⟨g1, Lib.hid g2⟩))
  have PA : Hid (∀ W, Calls Try.prog 31 #[.agg #[.int .u32 a0, .int .u32 a1]] W fun e w' => e = .returned (.agg #[.int .u32 ka, .int .u32 kb]) ∧ Hid (Fr (fun _ => False) W w')) := Lib.hid (fun W => (pair_any W a0 a1 ha hb).mono (by rintro e w' ⟨g1, g2⟩; rw [hka, hkb] at g1; exact ⟨g1, Lib.hid g2⟩))
  obtain ⟨ix, hix⟩ : ∃ q, idx (ka, kb) s.bl = q := ⟨_, rfl⟩
  have hlo := idx_lo (ka, kb) s.bl
  rw [hix] at hlo
  obtain ⟨hlo0, hlo1⟩ := hlo
  have hl24 : s.bl.length ≤ 1024 := by have := h.cc.ok.len; have := h.cc.ok.room; omega
  have f1 := (Fr.refl (fun _ => False) w).alloc (.cells #[.int .u32 a0, .int .u32 a1] 44)
  have bx := Blk.new w 44 #[.int .u32 a0, .int .u32 a1]
  have HAt : Hid (∀ W, Fr (fun _ => False) w W → Calls Try.prog 36 #[.pointer (some ⟨gd, 0, none⟩), .int .u32 ka, .int .u32 kb] W fun e w' => e = .returned (.int .i64 ix) ∧ W = w') := Lib.hid (fun W fW => by
    have := rat_any W gd d (h.dd.fr0 fW) (ka, kb)
    rw [hs.ix, hix] at this
    exact this)
  have H := Lib.hid h
  have HS := Lib.hid hs
  have F1 := Lib.hid f1
  have BX := Lib.hid bx
  have HIX := Lib.hid hix
  have x0 : (w.alloc (.cells #[.int .u32 a0, .int .u32 a1] 44)).cell? ⟨w.heap.size, 0, none⟩ = some (.int .u32 a0) := bx.cell 0
  have x1 : (w.alloc (.cells #[.int .u32 a0, .int .u32 a1] 44)).cell? ⟨w.heap.size, 1, none⟩ = some (.int .u32 a1) := bx.cell 1
  clear u1 u2 hka hkb ha hb f1 bx hix h hs
  go_enter Try.func22, Try.ntmps22
  have hj0 : ∀ W : World, (Instr.index 44 (.agg #[.int .u32 ka, .int .u32 kb]) (.int .i64 0)).run Try.prog W = .ok (.int .u32 ka) W := fun W => by kernel_rfl
  have hj1 : ∀ W : World, (Instr.index 44 (.agg #[.int .u32 ka, .int .u32 kb]) (.int .i64 1)).run Try.prog W = .ok (.int .u32 kb) W := fun W => by kernel_rfl
  by_cases hge : 0 ≤ ix
  · have hd0 : decide (0 ≤ ix) = true := by simpa using hge
    obtain ⟨i, rfl⟩ : ∃ i : Nat, ix = i := ⟨ix.toNat, by omega⟩
    have hi : i < s.bl.length := by omega
    obtain ⟨_, hbk⟩ := idx_spec (ka, kb) s.bl i HIX.out
    obtain ⟨n, hn⟩ : ∃ q, (nthB s.bl i).code.length = q := ⟨_, rfl⟩
    obtain ⟨ct, hct⟩ : ∃ q, (nthB s.bl i).ct = q := ⟨_, rfl⟩
    obtain ⟨sc, hsc⟩ : ∃ q, str (nthB s.bl i).code = q := ⟨_, rfl⟩
    have HFd : Hid (∀ W, Fr (fun _ => False) w W → Calls Try.prog 14 #[.pointer (some ⟨gc, 0, none⟩), .agg #[.int .u32 ka, .int .u32 kb]] W fun e w' => ∃ A c, e = .returned (.tuple #[.agg #[.int .u32 ka, .int .u32 kb, .slice A n c, .int .i64 ct], .bool true]) ∧ Hid (w'.ownsRow W.heap.size 5 1 (.slice A n c) n ((nthB s.bl i).code.map (Value.int .u8))) ∧ Hid (Fr (fun _ => False) W w')) := Lib.hid (fun W fW => by
      refine (find_yes W gc s (H.out.cc.fr0 fW) (ka, kb) i HIX.out).mono ?_
      rintro e w' ⟨A, c, g1, g2, g3⟩
      have e1 : (nthB s.bl i).pc = ka := congrArg Prod.fst hbk
      have e2 : (nthB s.bl i).pl = kb := congrArg Prod.snd hbk
      rw [e1, e2, hn, hct] at g1
      rw [hn] at g2
      exact ⟨A, c, g1, Lib.hid g2, Lib.hid g3⟩)
    have HSC := Lib.hid hsc
    have HCT := Lib.hid hct
    clear hn hct hsc hbk
    go_wp2_with fail
    refine (KA.out _).mono ?_
    rintro e w2 ⟨rfl, f2⟩
    clear x0 x1
    go_wp2_with fail
    refine (HFd.out _ (F1.out.tr f2.out)).mono ?_
    rintro e w3 ⟨A, c, rfl, R3, f3⟩
    have F3 := Lib.hid ((F1.out.tr f2.out).tr f3.out)
    have fb := (Fr.refl (fun _ => False) w3).alloc (.cells #[.int .u32 ka, .int .u32 kb, .slice A n c, .int .i64 ct] 34)
    have F4 := Lib.hid (F3.out.tr fb)
    have b7 := Blk.new w3 34 #[.int .u32 ka, .int .u32 kb, .slice A n c, .int .i64 ct]
    have bx4 := (((BX.out.fr f2.out (fun e => e)).fr f3.out (fun e => e)).fr fb (fun e => e))
    have hSP : SP w.heap.size a0 a1 (w3.alloc (.cells #[.int .u32 ka, .int .u32 kb, .slice A n c, .int .i64 ct] 34)) := ⟨bx4.cell 0, bx4.cell 1, bx4.lt⟩
    have HCV : Hid (∀ W, Fr (fun _ => False) w3 W → (convert 22 9 (.slice A n c)).run Try.prog W = .ok (.string sc) W) := Lib.hid (fun W fW => by rw [← HSC.out]; exact run_str _ _ _ _ c _ (Reads.of_own (own_fr R3.out fW (fun _ _ e => e))))
    obtain ⟨dn, hdn⟩ : ∃ q, d.bl.length = q := ⟨_, rfl⟩
    obtain ⟨dcap, hdc⟩ : ∃ q, d.c = q := ⟨_, rfl⟩
    have hidn : (i : Int) < (dn : Int) := by have := HS.out.len; omega
    have hi0 : (0 : Int) ≤ (i : Int) := by omega
    obtain ⟨gl, bA, bc, q1, q2, q3, q4, q5, q6, q7, _⟩ := HS.out.row (H.out.dd.fr0 F3.out) hi
    have hc0 := (H.out.dd.fr0 F3.out).cells.1
    rw [q1, hdn, hdc] at hc0
    rw [HSC.out] at q5
    rw [HCT.out] at q6
    have hSQ : Hid (∀ W, Fr (fun _ => False) (w3.alloc (.cells #[.int .u32 ka, .int .u32 kb, .slice A n c, .int .i64 ct] 34)) W → SQ w3 w.heap.size w3.heap.size gd gl i a0 a1 ka kb A n c ct dn dcap sc W) := Lib.hid (fun W fW => by
      have e7 := b7.fr fW (fun e => e)
      have ex := bx4.fr fW (fun e => e)
      have fw := fb.tr fW
      have hgd := H.out.dd.b.lt
      have hs3 := F3.out.size
      exact ⟨⟨ex.cell 0, ex.cell 1⟩, ⟨e7.cell 0, e7.cell 1, e7.cell 2, e7.cell 3⟩, fw.cell hc0 (by show gd < w3.heap.size; omega) (fun e => e), ⟨fw.cell q5 q2 (fun e => e), fw.cell q6 q2 (fun e => e)⟩, fw, (BX.out.fr (f2.out.tr f3.out) (fun e => e)).lt, e7.lt, by omega, q2⟩)
    clear q1 q3 q4 q5 q6 q7 hc0 hdn hdc bx4 b7 fb
    go_upto_region 2 with (fail)
    refine wp_region_held_drew (S := SP w.heap.size a0 a1) (by kernel_rfl) (hSP) (fun hH => ?_)
    refine wpAnyH_take (i := 0) (v := ?_) rfl (by kernel_rfl) (by kernel_rfl) (by kernel_rfl) (fun _ _ _ h => h) (Or.inl ⟨by kernel_rfl, ?_⟩) hH ?_
    rotate_left
    · (intro W hSw; obtain ⟨k1, k2, k3⟩ := hSw; go_simp; try with_reducible rfl)
    refine wpAnyH_take (i := 1) (v := ?_) rfl (by kernel_rfl) (by kernel_rfl) (by kernel_rfl) (fun _ _ _ h => h) (Or.inl ⟨by kernel_rfl, ?_⟩) hH ?_
    rotate_left
    · (intro W hSw; obtain ⟨k1, k2, k3⟩ := hSw; go_simp; try with_reducible rfl)
    refine wpAnyH_take (i := 4) (v := ?_) rfl (by kernel_rfl) (by kernel_rfl) (by kernel_rfl) (fun _ _ _ h => h) (Or.inl ⟨by kernel_rfl, ?_⟩) hH ?_
    rotate_left
    · (intro W hSw; obtain ⟨k1, k2, k3⟩ := hSw; go_simp; try with_reducible rfl)
    try simp only [Act.put, List.getElem_toArray, List.getElem_cons_zero, List.getElem_cons_succ, List.setIfInBounds_toArray, List.set_cons_zero, List.set_cons_succ]
    refine wpAnyH_ready (rs := [2]) (by kernel_rfl) (by simp) ?_
    refine AllReadyH.cons rfl (fun K hK => ?_) ?_
    · go_simp
      go_wp2_with (refine (PA.out _).mono ?_; rintro e w5 ⟨rfl, f5⟩)
      refine hK.out _ _ ?_ (fun hH => ?_)
      · exact hH.fr f5.out (fun e => e)
      clear hK K
      refine wpAnyH_take (i := 3) (v := ?_) rfl (by kernel_rfl) (by kernel_rfl) (by kernel_rfl) (fun _ _ _ h => h) (Or.inl ⟨by kernel_rfl, ?_⟩) hH ?_
      rotate_left
      · (intro W hSw; obtain ⟨k1, k2, k3⟩ := hSw; go_simp; try with_reducible rfl)
      try simp only [Act.put, List.getElem_toArray, List.getElem_cons_zero, List.getElem_cons_succ, List.setIfInBounds_toArray, List.set_cons_zero, List.set_cons_succ]
      refine wpAnyH_ready (rs := [5]) (by kernel_rfl) (by simp) ?_
      refine AllReadyH.cons rfl (fun K hK => ?_) ?_
      · go_simp
        go_wp2_with (refine (PA.out _).mono ?_; rintro e w6 ⟨rfl, f6⟩)
        refine hK.out _ _ ?_ (fun hH => ?_)
        · exact hH.fr f6.out (fun e => e)
        clear hK K
        refine wpAnyH_take (i := 6) (v := ?_) rfl (by kernel_rfl) (by kernel_rfl) (by kernel_rfl) (fun _ _ _ h => h) (Or.inl ⟨by kernel_rfl, ?_⟩) hH ?_
        rotate_left
        · (intro W hSw; obtain ⟨k1, k2, k3⟩ := hSw; go_simp; try with_reducible rfl)
        try simp only [Act.put, List.getElem_toArray, List.getElem_cons_zero, List.getElem_cons_succ, List.setIfInBounds_toArray, List.set_cons_zero, List.set_cons_succ]
        refine wpAnyH_ready (rs := [7]) (by kernel_rfl) (by simp) ?_
        refine AllReadyH.cons rfl (fun K hK => ?_) ?_
        · go_simp
          go_wp2_with (refine (HAt.out _ (((F4.out.drew).tr f5.out).tr f6.out)).mono ?_; rintro e w' ⟨rfl, rfl⟩)
          refine hK.out _ _ ?_ (fun hH => ?_)
          · exact hH
          clear hK K
          refine wpAnyH_take (i := 8) (v := ?_) rfl (by kernel_rfl) (by kernel_rfl) (by kernel_rfl) (fun _ _ _ h => h) (Or.inl ⟨by kernel_rfl, ?_⟩) hH ?_
          rotate_left
          · (intro W hSw; obtain ⟨k1, k2, k3⟩ := hSw; go_simp; try with_reducible rfl)
          refine wpAnyH_done (by kernel_rfl) ?_ _
          have F6 := Lib.hid (((F4.out.drew).tr f5.out).tr f6.out)
          have hSQ6 := hSQ.out w6 ((((Fr.refl _ _).drew).tr f5.out).tr f6.out)
          have hSQ7 := hSQ6.fr ((Fr.refl (fun _ => False) w6).drew)
          go_upto_region 3 with (fail)
          refine wp_region_held_drew (S := SQ w3 w.heap.size w3.heap.size gd gl i a0 a1 ka kb A n c ct dn dcap sc) (by kernel_rfl) (hSQ7) (fun hH => ?_)
          refine wpAnyH_take (i := 0) (v := ?_) rfl (by kernel_rfl) (by kernel_rfl) (by kernel_rfl) (fun _ _ _ h => h) (Or.inl ⟨by kernel_rfl, ?_⟩) hH ?_
          rotate_left
          · (intro W hSw; obtain ⟨⟨k1, k2⟩, ⟨k3, k4, k5, k6⟩, k7, ⟨k8, k9⟩, k10, k11, k12, k13, k14⟩ := hSw; have k15 := HCV.out W k10; clear k10; go_simp; try with_reducible rfl)
          refine wpAnyH_take (i := 1) (v := ?_) rfl (by kernel_rfl) (by kernel_rfl) (by kernel_rfl) (fun _ _ _ h => h) (Or.inl ⟨by kernel_rfl, ?_⟩) hH ?_
          rotate_left
          · (intro W hSw; obtain ⟨⟨k1, k2⟩, ⟨k3, k4, k5, k6⟩, k7, ⟨k8, k9⟩, k10, k11, k12, k13, k14⟩ := hSw; have k15 := HCV.out W k10; clear k10; go_simp; try with_reducible rfl)
          refine wpAnyH_take (i := 2) (v := ?_) rfl (by kernel_rfl) (by kernel_rfl) (by kernel_rfl) (fun _ _ _ h => h) (Or.inl ⟨by kernel_rfl, ?_⟩) hH ?_
          rotate_left
          · (intro W hSw; obtain ⟨⟨k1, k2⟩, ⟨k3, k4, k5, k6⟩, k7, ⟨k8, k9⟩, k10, k11, k12, k13, k14⟩ := hSw; have k15 := HCV.out W k10; clear k10; go_simp; try with_reducible rfl)
          try simp only [Act.put, List.getElem_toArray, List.getElem_cons_zero, List.getElem_cons_succ, List.setIfInBounds_toArray, List.set_cons_zero, List.set_cons_succ]
          refine wpAnyH_take (i := 3) (v := ?_) rfl (by kernel_rfl) (by kernel_rfl) (by kernel_rfl) (fun _ _ _ h => h) (Or.inl ⟨by kernel_rfl, ?_⟩) hH ?_
          rotate_left
          · (intro W hSw; obtain ⟨⟨k1, k2⟩, ⟨k3, k4, k5, k6⟩, k7, ⟨k8, k9⟩, k10, k11, k12, k13, k14⟩ := hSw; have k15 := HCV.out W k10; clear k10; go_simp; try with_reducible rfl)
          refine wpAnyH_take (i := 4) (v := ?_) rfl (by kernel_rfl) (by kernel_rfl) (by kernel_rfl) (fun _ _ _ h => h) (Or.inl ⟨by kernel_rfl, ?_⟩) hH ?_
          rotate_left
          · (intro W hSw; obtain ⟨⟨k1, k2⟩, ⟨k3, k4, k5, k6⟩, k7, ⟨k8, k9⟩, k10, k11, k12, k13, k14⟩ := hSw; have k15 := HCV.out W k10; clear k10; go_simp; try with_reducible rfl)
          refine wpAnyH_take (i := 5) (v := ?_) rfl (by kernel_rfl) (by kernel_rfl) (by kernel_rfl) (fun _ _ _ h => h) (Or.inl ⟨by kernel_rfl, ?_⟩) hH ?_
          rotate_left
          · (intro W hSw; obtain ⟨⟨k1, k2⟩, ⟨k3, k4, k5, k6⟩, k7, ⟨k8, k9⟩, k10, k11, k12, k13, k14⟩ := hSw; have k15 := HCV.out W k10; clear k10; go_simp; try with_reducible rfl)
          try simp only [Act.put, List.getElem_toArray, List.getElem_cons_zero, List.getElem_cons_succ, List.setIfInBounds_toArray, List.set_cons_zero, List.set_cons_succ]
          refine wpAnyH_take (i := 6) (v := ?_) rfl (by kernel_rfl) (by kernel_rfl) (by kernel_rfl) (fun _ _ _ h => h) (Or.inl ⟨by kernel_rfl, ?_⟩) hH ?_
          rotate_left
          · (intro W hSw; obtain ⟨⟨k1, k2⟩, ⟨k3, k4, k5, k6⟩, k7, ⟨k8, k9⟩, k10, k11, k12, k13, k14⟩ := hSw; have k15 := HCV.out W k10; clear k10; go_simp; try with_reducible rfl)
          refine wpAnyH_take (i := 7) (v := ?_) rfl (by kernel_rfl) (by kernel_rfl) (by kernel_rfl) (fun _ _ _ h => h) (Or.inl ⟨by kernel_rfl, ?_⟩) hH ?_
          rotate_left
          · (intro W hSw; obtain ⟨⟨k1, k2⟩, ⟨k3, k4, k5, k6⟩, k7, ⟨k8, k9⟩, k10, k11, k12, k13, k14⟩ := hSw; have k15 := HCV.out W k10; clear k10; go_simp; try with_reducible rfl)
          refine wpAnyH_take (i := 8) (v := ?_) rfl (by kernel_rfl) (by kernel_rfl) (by kernel_rfl) (fun _ _ _ h => h) (Or.inl ⟨by kernel_rfl, ?_⟩) hH ?_
          rotate_left
          · (intro W hSw; obtain ⟨⟨k1, k2⟩, ⟨k3, k4, k5, k6⟩, k7, ⟨k8, k9⟩, k10, k11, k12, k13, k14⟩ := hSw; have k15 := HCV.out W k10; clear k10; go_simp; try with_reducible rfl)
          try simp only [Act.put, List.getElem_toArray, List.getElem_cons_zero, List.getElem_cons_succ, List.setIfInBounds_toArray, List.set_cons_zero, List.set_cons_succ]
          refine wpAnyH_take (i := 9) (v := ?_) rfl (by kernel_rfl) (by kernel_rfl) (by kernel_rfl) (fun _ _ _ h => h) (Or.inl ⟨by kernel_rfl, ?_⟩) hH ?_
          rotate_left
          · (intro W hSw; obtain ⟨⟨k1, k2⟩, ⟨k3, k4, k5, k6⟩, k7, ⟨k8, k9⟩, k10, k11, k12, k13, k14⟩ := hSw; have k15 := HCV.out W k10; clear k10; go_simp; try with_reducible rfl)
          try simp only [Act.put, List.getElem_toArray, List.getElem_cons_zero, List.getElem_cons_succ, List.setIfInBounds_toArray, List.set_cons_zero, List.set_cons_succ]
          refine wpAnyH_ready (rs := [10]) (by kernel_rfl) (by simp) ?_
          refine AllReadyH.cons rfl (fun K hK => ?_) ?_
          · go_simp
            go_wp2_with (refine (KA.out _).mono ?_; rintro e w7 ⟨rfl, f7⟩)
            refine hK.out _ _ ?_ (fun hH => ?_)
            · exact hH.fr f7.out
            clear hK K
            refine wpAnyH_take (i := 11) (v := ?_) rfl (by kernel_rfl) (by kernel_rfl) (by kernel_rfl) (fun _ _ _ h => h) (Or.inl ⟨by kernel_rfl, ?_⟩) hH ?_
            rotate_left
            · (intro W hSw; obtain ⟨⟨k1, k2⟩, ⟨k3, k4, k5, k6⟩, k7, ⟨k8, k9⟩, k10, k11, k12, k13, k14⟩ := hSw; have k15 := HCV.out W k10; clear k10; go_simp; try with_reducible rfl)
            refine wpAnyH_take (i := 12) (v := ?_) rfl (by kernel_rfl) (by kernel_rfl) (by kernel_rfl) (fun _ _ _ h => h) (Or.inl ⟨by kernel_rfl, ?_⟩) hH ?_
            rotate_left
            · (intro W hSw; obtain ⟨⟨k1, k2⟩, ⟨k3, k4, k5, k6⟩, k7, ⟨k8, k9⟩, k10, k11, k12, k13, k14⟩ := hSw; have k15 := HCV.out W k10; clear k10; go_simp; try with_reducible rfl)
            refine wpAnyH_take (i := 13) (v := ?_) rfl (by kernel_rfl) (by kernel_rfl) (by kernel_rfl) (fun _ _ _ h => h) (Or.inl ⟨by kernel_rfl, ?_⟩) hH ?_
            rotate_left
            · (intro W hSw; obtain ⟨⟨k1, k2⟩, ⟨k3, k4, k5, k6⟩, k7, ⟨k8, k9⟩, k10, k11, k12, k13, k14⟩ := hSw; have k15 := HCV.out W k10; clear k10; go_simp; try with_reducible rfl)
            try simp only [Act.put, List.getElem_toArray, List.getElem_cons_zero, List.getElem_cons_succ, List.setIfInBounds_toArray, List.set_cons_zero, List.set_cons_succ]
            refine wpAnyH_take (i := 14) (v := ?_) rfl (by kernel_rfl) (by kernel_rfl) (by kernel_rfl) (fun _ _ _ h => h) (Or.inl ⟨by kernel_rfl, ?_⟩) hH ?_
            rotate_left
            · (intro W hSw; obtain ⟨⟨k1, k2⟩, ⟨k3, k4, k5, k6⟩, k7, ⟨k8, k9⟩, k10, k11, k12, k13, k14⟩ := hSw; have k15 := HCV.out W k10; clear k10; go_simp; try with_reducible rfl)
            refine wpAnyH_take (i := 15) (v := ?_) rfl (by kernel_rfl) (by kernel_rfl) (by kernel_rfl) (fun _ _ _ h => h) (Or.inl ⟨by kernel_rfl, ?_⟩) hH ?_
            rotate_left
            · (intro W hSw; obtain ⟨⟨k1, k2⟩, ⟨k3, k4, k5, k6⟩, k7, ⟨k8, k9⟩, k10, k11, k12, k13, k14⟩ := hSw; have k15 := HCV.out W k10; clear k10; go_simp; try with_reducible rfl)
            refine wpAnyH_take (i := 16) (v := ?_) rfl (by kernel_rfl) (by kernel_rfl) (by kernel_rfl) (fun _ _ _ h => h) (Or.inl ⟨by kernel_rfl, ?_⟩) hH ?_
            rotate_left
            · (intro W hSw; obtain ⟨⟨k1, k2⟩, ⟨k3, k4, k5, k6⟩, k7, ⟨k8, k9⟩, k10, k11, k12, k13, k14⟩ := hSw; have k15 := HCV.out W k10; clear k10; go_simp; try with_reducible rfl)
            try simp only [Act.put, List.getElem_toArray, List.getElem_cons_zero, List.getElem_cons_succ, List.setIfInBounds_toArray, List.set_cons_zero, List.set_cons_succ]
            refine wpAnyH_take (i := 17) (v := ?_) rfl (by kernel_rfl) (by kernel_rfl) (by kernel_rfl) (fun _ _ _ h => h) (Or.inl ⟨by kernel_rfl, ?_⟩) hH ?_
            rotate_left
            · (intro W hSw; obtain ⟨⟨k1, k2⟩, ⟨k3, k4, k5, k6⟩, k7, ⟨k8, k9⟩, k10, k11, k12, k13, k14⟩ := hSw; have k15 := HCV.out W k10; clear k10; go_simp; try with_reducible rfl)
            refine wpAnyH_take (i := 18) (v := ?_) rfl (by kernel_rfl) (by kernel_rfl) (by kernel_rfl) (fun _ _ _ h => h) (Or.inl ⟨by kernel_rfl, ?_⟩) hH ?_
            rotate_left
            · (intro W hSw; obtain ⟨⟨k1, k2⟩, ⟨k3, k4, k5, k6⟩, k7, ⟨k8, k9⟩, k10, k11, k12, k13, k14⟩ := hSw; have k15 := HCV.out W k10; clear k10; go_simp; try with_reducible rfl)
            refine wpAnyH_take (i := 19) (v := ?_) rfl (by kernel_rfl) (by kernel_rfl) (by kernel_rfl) (fun _ _ _ h => h) (Or.inl ⟨by kernel_rfl, ?_⟩) hH ?_
            rotate_left
            · (intro W hSw; obtain ⟨⟨k1, k2⟩, ⟨k3, k4, k5, k6⟩, k7, ⟨k8, k9⟩, k10, k11, k12, k13, k14⟩ := hSw; have k15 := HCV.out W k10; clear k10; go_simp; try with_reducible rfl)
            try simp only [Act.put, List.getElem_toArray, List.getElem_cons_zero, List.getElem_cons_succ, List.setIfInBounds_toArray, List.set_cons_zero, List.set_cons_succ]
            refine wpAnyH_take (i := 20) (v := ?_) rfl (by kernel_rfl) (by kernel_rfl) (by kernel_rfl) (fun _ _ _ h => h) (Or.inl ⟨by kernel_rfl, ?_⟩) hH ?_
            rotate_left
            · (intro W hSw; obtain ⟨⟨k1, k2⟩, ⟨k3, k4, k5, k6⟩, k7, ⟨k8, k9⟩, k10, k11, k12, k13, k14⟩ := hSw; have k15 := HCV.out W k10; clear k10; go_simp; try with_reducible rfl)
            refine wpAnyH_take (i := 21) (v := ?_) rfl (by kernel_rfl) (by kernel_rfl) (by kernel_rfl) (fun _ _ _ h => h) (Or.inl ⟨by kernel_rfl, ?_⟩) hH ?_
            rotate_left
            · (intro W hSw; obtain ⟨⟨k1, k2⟩, ⟨k3, k4, k5, k6⟩, k7, ⟨k8, k9⟩, k10, k11, k12, k13, k14⟩ := hSw; have k15 := HCV.out W k10; clear k10; go_simp; try with_reducible rfl)
            refine wpAnyH_take (i := 22) (v := ?_) rfl (by kernel_rfl) (by kernel_rfl) (by kernel_rfl) (fun _ _ _ h => h) (Or.inl ⟨by kernel_rfl, ?_⟩) hH ?_
            rotate_left
            · (intro W hSw; obtain ⟨⟨k1, k2⟩, ⟨k3, k4, k5, k6⟩, k7, ⟨k8, k9⟩, k10, k11, k12, k13, k14⟩ := hSw; have k15 := HCV.out W k10; clear k10; go_simp; try with_reducible rfl)
            try simp only [Act.put, List.getElem_toArray, List.getElem_cons_zero, List.getElem_cons_succ, List.setIfInBounds_toArray, List.set_cons_zero, List.set_cons_succ]
            refine wpAnyH_take (i := 23) (v := ?_) rfl (by kernel_rfl) (by kernel_rfl) (by kernel_rfl) (fun _ _ _ h => h) (Or.inl ⟨by kernel_rfl, ?_⟩) hH ?_
            rotate_left
            · (intro W hSw; obtain ⟨⟨k1, k2⟩, ⟨k3, k4, k5, k6⟩, k7, ⟨k8, k9⟩, k10, k11, k12, k13, k14⟩ := hSw; have k15 := HCV.out W k10; clear k10; go_simp; try with_reducible rfl)
            refine wpAnyH_take (i := 24) (v := ?_) rfl (by kernel_rfl) (by kernel_rfl) (by kernel_rfl) (fun _ _ _ h => h) (Or.inl ⟨by kernel_rfl, ?_⟩) hH ?_
            rotate_left
            · (intro W hSw; obtain ⟨⟨k1, k2⟩, ⟨k3, k4, k5, k6⟩, k7, ⟨k8, k9⟩, k10, k11, k12, k13, k14⟩ := hSw; have k15 := HCV.out W k10; clear k10; go_simp; try with_reducible rfl)
            refine wpAnyH_take (i := 25) (v := ?_) rfl (by kernel_rfl) (by kernel_rfl) (by kernel_rfl) (fun _ _ _ h => h) (Or.inl ⟨by kernel_rfl, ?_⟩) hH ?_
            rotate_left
            · (intro W hSw; obtain ⟨⟨k1, k2⟩, ⟨k3, k4, k5, k6⟩, k7, ⟨k8, k9⟩, k10, k11, k12, k13, k14⟩ := hSw; have k15 := HCV.out W k10; clear k10; go_simp; try with_reducible rfl)
            try simp only [Act.put, List.getElem_toArray, List.getElem_cons_zero, List.getElem_cons_succ, List.setIfInBounds_toArray, List.set_cons_zero, List.set_cons_succ]
            refine wpAnyH_take (i := 26) (v := ?_) rfl (by kernel_rfl) (by kernel_rfl) (by kernel_rfl) (fun _ _ _ h => h) (Or.inl ⟨by kernel_rfl, ?_⟩) hH ?_
            rotate_left
            · (intro W hSw; obtain ⟨⟨k1, k2⟩, ⟨k3, k4, k5, k6⟩, k7, ⟨k8, k9⟩, k10, k11, k12, k13, k14⟩ := hSw; have k15 := HCV.out W k10; clear k10; go_simp; try with_reducible rfl)
            refine wpAnyH_take (i := 27) (v := ?_) rfl (by kernel_rfl) (by kernel_rfl) (by kernel_rfl) (fun _ _ _ h => h) (Or.inl ⟨by kernel_rfl, ?_⟩) hH ?_
            rotate_left
            · (intro W hSw; obtain ⟨⟨k1, k2⟩, ⟨k3, k4, k5, k6⟩, k7, ⟨k8, k9⟩, k10, k11, k12, k13, k14⟩ := hSw; have k15 := HCV.out W k10; clear k10; go_simp; try with_reducible rfl)
            refine wpAnyH_take (i := 28) (v := ?_) rfl (by kernel_rfl) (by kernel_rfl) (by kernel_rfl) (fun _ _ _ h => h) (Or.inl ⟨by kernel_rfl, ?_⟩) hH ?_
            rotate_left
            · (intro W hSw; obtain ⟨⟨k1, k2⟩, ⟨k3, k4, k5, k6⟩, k7, ⟨k8, k9⟩, k10, k11, k12, k13, k14⟩ := hSw; have k15 := HCV.out W k10; clear k10; go_simp; try with_reducible rfl)
            try simp only [Act.put, List.getElem_toArray, List.getElem_cons_zero, List.getElem_cons_succ, List.setIfInBounds_toArray, List.set_cons_zero, List.set_cons_succ]
            refine wpAnyH_take (i := 29) (v := ?_) rfl (by kernel_rfl) (by kernel_rfl) (by kernel_rfl) (fun _ _ _ h => h) (Or.inl ⟨by kernel_rfl, ?_⟩) hH ?_
            rotate_left
            · (intro W hSw; obtain ⟨⟨k1, k2⟩, ⟨k3, k4, k5, k6⟩, k7, ⟨k8, k9⟩, k10, k11, k12, k13, k14⟩ := hSw; have k15 := HCV.out W k10; clear k10; go_simp; try with_reducible rfl)
            refine wpAnyH_take (i := 30) (v := ?_) rfl (by kernel_rfl) (by kernel_rfl) (by kernel_rfl) (fun _ _ _ h => h) (Or.inl ⟨by kernel_rfl, ?_⟩) hH ?_
            rotate_left
            · (intro W hSw; obtain ⟨⟨k1, k2⟩, ⟨k3, k4, k5, k6⟩, k7, ⟨k8, k9⟩, k10, k11, k12, k13, k14⟩ := hSw; have k15 := HCV.out W k10; clear k10; go_simp; try with_reducible rfl)
            refine wpAnyH_take (i := 31) (v := ?_) rfl (by kernel_rfl) (by kernel_rfl) (by kernel_rfl) (fun _ _ _ h => h) (Or.inl ⟨by kernel_rfl, ?_⟩) hH ?_
            rotate_left
            · (intro W hSw; obtain ⟨⟨k1, k2⟩, ⟨k3, k4, k5, k6⟩, k7, ⟨k8, k9⟩, k10, k11, k12, k13, k14⟩ := hSw; have k15 := HCV.out W k10; clear k10; go_simp; try with_reducible rfl)
            try simp only [Act.put, List.getElem_toArray, List.getElem_cons_zero, List.getElem_cons_succ, List.setIfInBounds_toArray, List.set_cons_zero, List.set_cons_succ]
            refine wpAnyH_take (i := 32) (v := ?_) rfl (by kernel_rfl) (by kernel_rfl) (by kernel_rfl) (fun _ _ _ h => h) (Or.inl ⟨by kernel_rfl, ?_⟩) hH ?_
            rotate_left
            · (intro W hSw; obtain ⟨⟨k1, k2⟩, ⟨k3, k4, k5, k6⟩, k7, ⟨k8, k9⟩, k10, k11, k12, k13, k14⟩ := hSw; have k15 := HCV.out W k10; clear k10; go_simp; try with_reducible rfl)
            refine wpAnyH_take (i := 33) (v := ?_) rfl (by kernel_rfl) (by kernel_rfl) (by kernel_rfl) (fun _ _ _ h => h) (Or.inl ⟨by kernel_rfl, ?_⟩) hH ?_
            rotate_left
            · (intro W hSw; obtain ⟨⟨k1, k2⟩, ⟨k3, k4, k5, k6⟩, k7, ⟨k8, k9⟩, k10, k11, k12, k13, k14⟩ := hSw; have k15 := HCV.out W k10; clear k10; go_simp; try with_reducible rfl)
            refine wpAnyH_take (i := 34) (v := ?_) rfl (by kernel_rfl) (by kernel_rfl) (by kernel_rfl) (fun _ _ _ h => h) (Or.inl ⟨by kernel_rfl, ?_⟩) hH ?_
            rotate_left
            · (intro W hSw; obtain ⟨⟨k1, k2⟩, ⟨k3, k4, k5, k6⟩, k7, ⟨k8, k9⟩, k10, k11, k12, k13, k14⟩ := hSw; have k15 := HCV.out W k10; clear k10; go_simp; try with_reducible rfl)
            try simp only [Act.put, List.getElem_toArray, List.getElem_cons_zero, List.getElem_cons_succ, List.setIfInBounds_toArray, List.set_cons_zero, List.set_cons_succ]
            refine wpAnyH_take (i := 35) (v := ?_) rfl (by kernel_rfl) (by kernel_rfl) (by kernel_rfl) (fun _ _ _ h => h) (Or.inl ⟨by kernel_rfl, ?_⟩) hH ?_
            rotate_left
            · (intro W hSw; obtain ⟨⟨k1, k2⟩, ⟨k3, k4, k5, k6⟩, k7, ⟨k8, k9⟩, k10, k11, k12, k13, k14⟩ := hSw; have k15 := HCV.out W k10; clear k10; go_simp; try with_reducible rfl)
            refine wpAnyH_take (i := 36) (v := ?_) rfl (by kernel_rfl) (by kernel_rfl) (by kernel_rfl) (fun _ _ _ h => h) (Or.inl ⟨by kernel_rfl, ?_⟩) hH ?_
            rotate_left
            · (intro W hSw; obtain ⟨⟨k1, k2⟩, ⟨k3, k4, k5, k6⟩, k7, ⟨k8, k9⟩, k10, k11, k12, k13, k14⟩ := hSw; have k15 := HCV.out W k10; clear k10; go_simp; try with_reducible rfl)
            refine wpAnyH_take (i := 37) (v := ?_) rfl (by kernel_rfl) (by kernel_rfl) (by kernel_rfl) (fun _ _ _ h => h) (Or.inl ⟨by kernel_rfl, ?_⟩) hH ?_
            rotate_left
            · (intro W hSw; obtain ⟨⟨k1, k2⟩, ⟨k3, k4, k5, k6⟩, k7, ⟨k8, k9⟩, k10, k11, k12, k13, k14⟩ := hSw; have k15 := HCV.out W k10; clear k10; go_simp; try with_reducible rfl)
            try simp only [Act.put, List.getElem_toArray, List.getElem_cons_zero, List.getElem_cons_succ, List.setIfInBounds_toArray, List.set_cons_zero, List.set_cons_succ]
            refine wpAnyH_take (i := 38) (v := ?_) rfl (by kernel_rfl) (by kernel_rfl) (by kernel_rfl) (fun _ _ _ h => h) (Or.inl ⟨by kernel_rfl, ?_⟩) hH ?_
            rotate_left
            · (intro W hSw; obtain ⟨⟨k1, k2⟩, ⟨k3, k4, k5, k6⟩, k7, ⟨k8, k9⟩, k10, k11, k12, k13, k14⟩ := hSw; have k15 := HCV.out W k10; clear k10; go_simp; try with_reducible rfl)
            refine wpAnyH_take (i := 39) (v := ?_) rfl (by kernel_rfl) (by kernel_rfl) (by kernel_rfl) (fun _ _ _ h => h) (Or.inl ⟨by kernel_rfl, ?_⟩) hH ?_
            rotate_left
            · (intro W hSw; obtain ⟨⟨k1, k2⟩, ⟨k3, k4, k5, k6⟩, k7, ⟨k8, k9⟩, k10, k11, k12, k13, k14⟩ := hSw; have k15 := HCV.out W k10; clear k10; go_simp; try with_reducible rfl)
            refine wpAnyH_take (i := 40) (v := ?_) rfl (by kernel_rfl) (by kernel_rfl) (by kernel_rfl) (fun _ _ _ h => h) (Or.inl ⟨by kernel_rfl, ?_⟩) hH ?_
            rotate_left
            · (intro W hSw; obtain ⟨⟨k1, k2⟩, ⟨k3, k4, k5, k6⟩, k7, ⟨k8, k9⟩, k10, k11, k12, k13, k14⟩ := hSw; have k15 := HCV.out W k10; clear k10; go_simp; try with_reducible rfl)
            try simp only [Act.put, List.getElem_toArray, List.getElem_cons_zero, List.getElem_cons_succ, List.setIfInBounds_toArray, List.set_cons_zero, List.set_cons_succ]
            refine wpAnyH_take (i := 41) (v := ?_) rfl (by kernel_rfl) (by kernel_rfl) (by kernel_rfl) (fun _ _ _ h => h) (Or.inl ⟨by kernel_rfl, ?_⟩) hH ?_
            rotate_left
            · (intro W hSw; obtain ⟨⟨k1, k2⟩, ⟨k3, k4, k5, k6⟩, k7, ⟨k8, k9⟩, k10, k11, k12, k13, k14⟩ := hSw; have k15 := HCV.out W k10; clear k10; go_simp; try with_reducible rfl)
            refine wpAnyH_take (i := 42) (v := ?_) rfl (by kernel_rfl) (by kernel_rfl) (by kernel_rfl) (fun _ _ _ h => h) (Or.inl ⟨by kernel_rfl, ?_⟩) hH ?_
            rotate_left
            · (intro W hSw; obtain ⟨⟨k1, k2⟩, ⟨k3, k4, k5, k6⟩, k7, ⟨k8, k9⟩, k10, k11, k12, k13, k14⟩ := hSw; have k15 := HCV.out W k10; clear k10; go_simp; try with_reducible rfl)
            refine wpAnyH_take (i := 43) (v := ?_) rfl (by kernel_rfl) (by kernel_rfl) (by kernel_rfl) (fun _ _ _ h => h) (Or.inl ⟨by kernel_rfl, ?_⟩) hH ?_
            rotate_left
            · (intro W hSw; obtain ⟨⟨k1, k2⟩, ⟨k3, k4, k5, k6⟩, k7, ⟨k8, k9⟩, k10, k11, k12, k13, k14⟩ := hSw; have k15 := HCV.out W k10; clear k10; go_simp; try with_reducible rfl)
            try simp only [Act.put, List.getElem_toArray, List.getElem_cons_zero, List.getElem_cons_succ, List.setIfInBounds_toArray, List.set_cons_zero, List.set_cons_succ]
            refine wpAnyH_take (i := 44) (v := ?_) rfl (by kernel_rfl) (by kernel_rfl) (by kernel_rfl) (fun _ _ _ h => h) (Or.inl ⟨by kernel_rfl, ?_⟩) hH ?_
            rotate_left
            · (intro W hSw; obtain ⟨⟨k1, k2⟩, ⟨k3, k4, k5, k6⟩, k7, ⟨k8, k9⟩, k10, k11, k12, k13, k14⟩ := hSw; have k15 := HCV.out W k10; clear k10; go_simp; try with_reducible rfl)
            refine wpAnyH_take (i := 45) (v := undef) rfl (by kernel_rfl) (by kernel_rfl) (by kernel_rfl) (fun _ _ _ h => h) (Or.inr ⟨by kernel_rfl, rfl⟩) hH ?_
            refine wpAnyH_take (i := 46) (v := undef) rfl (by kernel_rfl) (by kernel_rfl) (by kernel_rfl) (fun _ _ _ h => h) (Or.inr ⟨by kernel_rfl, rfl⟩) hH ?_
            try simp only [Act.put, List.getElem_toArray, List.getElem_cons_zero, List.getElem_cons_succ, List.setIfInBounds_toArray, List.set_cons_zero, List.set_cons_succ]
            refine wpAnyH_take (i := 47) (v := undef) rfl (by kernel_rfl) (by kernel_rfl) (by kernel_rfl) (fun _ _ _ h => h) (Or.inr ⟨by kernel_rfl, rfl⟩) hH ?_
            refine wpAnyH_take (i := 48) (v := undef) rfl (by kernel_rfl) (by kernel_rfl) (by kernel_rfl) (fun _ _ _ h => h) (Or.inr ⟨by kernel_rfl, rfl⟩) hH ?_
            refine wpAnyH_take (i := 49) (v := undef) rfl (by kernel_rfl) (by kernel_rfl) (by kernel_rfl) (fun _ _ _ h => h) (Or.inr ⟨by kernel_rfl, rfl⟩) hH ?_
            try simp only [Act.put, List.getElem_toArray, List.getElem_cons_zero, List.getElem_cons_succ, List.setIfInBounds_toArray, List.set_cons_zero, List.set_cons_succ]
            refine wpAnyH_take (i := 50) (v := undef) rfl (by kernel_rfl) (by kernel_rfl) (by kernel_rfl) (fun _ _ _ h => h) (Or.inr ⟨by kernel_rfl, rfl⟩) hH ?_
            refine wpAnyH_take (i := 51) (v := undef) rfl (by kernel_rfl) (by kernel_rfl) (by kernel_rfl) (fun _ _ _ h => h) (Or.inr ⟨by kernel_rfl, rfl⟩) hH ?_
            refine wpAnyH_take (i := 52) (v := undef) rfl (by kernel_rfl) (by kernel_rfl) (by kernel_rfl) (fun _ _ _ h => h) (Or.inr ⟨by kernel_rfl, rfl⟩) hH ?_
            try simp only [Act.put, List.getElem_toArray, List.getElem_cons_zero, List.getElem_cons_succ, List.setIfInBounds_toArray, List.set_cons_zero, List.set_cons_succ]
            refine wpAnyH_take (i := 53) (v := undef) rfl (by kernel_rfl) (by kernel_rfl) (by kernel_rfl) (fun _ _ _ h => h) (Or.inr ⟨by kernel_rfl, rfl⟩) hH ?_
            refine wpAnyH_take (i := 54) (v := undef) rfl (by kernel_rfl) (by kernel_rfl) (by kernel_rfl) (fun _ _ _ h => h) (Or.inr ⟨by kernel_rfl, rfl⟩) hH ?_
            refine wpAnyH_take (i := 55) (v := undef) rfl (by kernel_rfl) (by kernel_rfl) (by kernel_rfl) (fun _ _ _ h => h) (Or.inr ⟨by kernel_rfl, rfl⟩) hH ?_
            try simp only [Act.put, List.getElem_toArray, List.getElem_cons_zero, List.getElem_cons_succ, List.setIfInBounds_toArray, List.set_cons_zero, List.set_cons_succ]
            refine wpAnyH_take (i := 56) (v := undef) rfl (by kernel_rfl) (by kernel_rfl) (by kernel_rfl) (fun _ _ _ h => h) (Or.inr ⟨by kernel_rfl, rfl⟩) hH ?_
            refine wpAnyH_take (i := 57) (v := undef) rfl (by kernel_rfl) (by kernel_rfl) (by kernel_rfl) (fun _ _ _ h => h) (Or.inr ⟨by kernel_rfl, rfl⟩) hH ?_
            refine wpAnyH_take (i := 58) (v := undef) rfl (by kernel_rfl) (by kernel_rfl) (by kernel_rfl) (fun _ _ _ h => h) (Or.inr ⟨by kernel_rfl, rfl⟩) hH ?_
            try simp only [Act.put, List.getElem_toArray, List.getElem_cons_zero, List.getElem_cons_succ, List.setIfInBounds_toArray, List.set_cons_zero, List.set_cons_succ]
            refine wpAnyH_take (i := 59) (v := undef) rfl (by kernel_rfl) (by kernel_rfl) (by kernel_rfl) (fun _ _ _ h => h) (Or.inr ⟨by kernel_rfl, rfl⟩) hH ?_
            refine wpAnyH_take (i := 60) (v := ?_) rfl (by kernel_rfl) (by kernel_rfl) (by kernel_rfl) (fun _ _ _ h => h) (Or.inl ⟨by kernel_rfl, ?_⟩) hH ?_
            rotate_left
            · (intro W hSw; obtain ⟨⟨k1, k2⟩, ⟨k3, k4, k5, k6⟩, k7, ⟨k8, k9⟩, k10, k11, k12, k13, k14⟩ := hSw; have k15 := HCV.out W k10; clear k10; go_simp; try with_reducible rfl)
            refine wpAnyH_take (i := 61) (v := ?_) rfl (by kernel_rfl) (by kernel_rfl) (by kernel_rfl) (fun _ _ _ h => h) (Or.inl ⟨by kernel_rfl, ?_⟩) hH ?_
            rotate_left
            · (intro W hSw; obtain ⟨⟨k1, k2⟩, ⟨k3, k4, k5, k6⟩, k7, ⟨k8, k9⟩, k10, k11, k12, k13, k14⟩ := hSw; have k15 := HCV.out W k10; clear k10; go_simp; try with_reducible rfl)
            try simp only [Act.put, List.getElem_toArray, List.getElem_cons_zero, List.getElem_cons_succ, List.setIfInBounds_toArray, List.set_cons_zero, List.set_cons_succ]
            refine wpAnyH_done (by kernel_rfl) ?_ _
            have F7 := Lib.hid ((F6.out.drew).tr f7.out)
            go_upto_region 5 with (fail)
            obtain ⟨n7, hn7⟩ : ∃ q, s.bl.length = q := ⟨_, rfl⟩
            have HK := Lib.hid (keys_any w7 gc s (H.out.cc.fr0 F7.out))
            have hroom := H.out.cc.ok.room
            have hlen := H.out.cc.ok.len
            rw [hn7] at HK hl24 hlen
            have HN7 := Lib.hid hn7
            clear hn7
            go_wp2_with fail
            refine (HK.out).mono ?_
            rintro e w8 ⟨A8, c8, rfl, r8, f8⟩
            have F8 := Lib.hid (F7.out.tr f8)
            have R8 := Lib.hid (krow_at r8 (by rw [List.length_map]; exact HN7.out))
            obtain ⟨dA8, hdA8⟩ : ∃ q, d.A = q := ⟨_, rfl⟩
            obtain ⟨dc8, hdc8⟩ : ∃ q, d.c = q := ⟨_, rfl⟩
            obtain ⟨room, hrm⟩ : ∃ q, s.room = q := ⟨_, rfl⟩
            obtain ⟨fl, hflq⟩ : ∃ q, s.fl = q := ⟨_, rfl⟩
            have hroomd := HS.out.room
            have hfld := HS.out.fl
            rw [hrm] at hroomd hroom hlen
            rw [hflq] at hfld
            have HDc : Hid (∀ W, Fr (fun _ => False) w W → W.cell? ⟨gd, 0, none⟩ = some (.slice dA8 n7 dc8) ∧ W.cell? ⟨gd, 1, none⟩ = some (.int .i64 room) ∧ W.cell? ⟨gd, 2, none⟩ = some (.int .i64 fl)) := Lib.hid (fun W fW => by
              have hc := (H.out.dd.fr0 fW).cells
              rw [hroomd, hfld, hdA8, hdc8, HS.out.len, HN7.out] at hc
              exact hc)
            have HLen : Hid (∀ W, Fr (fun _ => False) w W → Calls Try.prog 12 #[.pointer (some ⟨gc, 0, none⟩)] W fun e w' => e = .returned (.int .i64 (n7 : Int)) ∧ W = w') := Lib.hid (fun W fW => by
              have := len_any W gc s (H.out.cc.fr0 fW)
              rw [HN7.out] at this
              exact this)
            have HFl : Hid (∀ W, Fr (fun _ => False) w W → Calls Try.prog 13 #[.pointer (some ⟨gc, 0, none⟩)] W fun e w' => e = .returned (.int .i64 fl) ∧ W = w') := Lib.hid (fun W fW => by
              have := flushes_any W gc s (H.out.cc.fr0 fW)
              rw [hflq] at this
              exact this)
            have HDA := Lib.hid hdA8
            have hgt : decide (room < (n7 : Int)) = false := by simp; omega
            have hS6 : S6 gd dA8 n7 dc8 room fl w8 := HDc.out w8 F8.out
            clear r8 f8 HK hroomd hfld hdA8 hdc8 hrm hflq hroom hlen
            go_upto_region 6 with (fail)
            refine wp_region_held_drew (S := S6 gd dA8 n7 dc8 room fl) (by kernel_rfl) (hS6) (fun hH => ?_)
            refine wpAnyH_take (i := 0) (v := ?_) rfl (by kernel_rfl) (by kernel_rfl) (by kernel_rfl) (fun _ _ _ h => h) (Or.inl ⟨by kernel_rfl, ?_⟩) hH ?_
            rotate_left
            · (intro W hSw; obtain ⟨k1, k2, k3⟩ := hSw; go_simp; try with_reducible rfl)
            refine wpAnyH_take (i := 1) (v := ?_) rfl (by kernel_rfl) (by kernel_rfl) (by kernel_rfl) (fun _ _ _ h => h) (Or.inl ⟨by kernel_rfl, ?_⟩) hH ?_
            rotate_left
            · (intro W hSw; obtain ⟨k1, k2, k3⟩ := hSw; go_simp; try with_reducible rfl)
            refine wpAnyH_take (i := 2) (v := ?_) rfl (by kernel_rfl) (by kernel_rfl) (by kernel_rfl) (fun _ _ _ h => h) (Or.inl ⟨by kernel_rfl, ?_⟩) hH ?_
            rotate_left
            · (intro W hSw; obtain ⟨k1, k2, k3⟩ := hSw; go_simp; try with_reducible rfl)
            try simp only [Act.put, List.getElem_toArray, List.getElem_cons_zero, List.getElem_cons_succ, List.setIfInBounds_toArray, List.set_cons_zero, List.set_cons_succ]
            refine wpAnyH_take (i := 3) (v := ?_) rfl (by kernel_rfl) (by kernel_rfl) (by kernel_rfl) (fun _ _ _ h => h) (Or.inl ⟨by kernel_rfl, ?_⟩) hH ?_
            rotate_left
            · (intro W hSw; obtain ⟨k1, k2, k3⟩ := hSw; go_simp; try with_reducible rfl)
            refine wpAnyH_take (i := 4) (v := ?_) rfl (by kernel_rfl) (by kernel_rfl) (by kernel_rfl) (fun _ _ _ h => h) (Or.inl ⟨by kernel_rfl, ?_⟩) hH ?_
            rotate_left
            · (intro W hSw; obtain ⟨k1, k2, k3⟩ := hSw; go_simp; try with_reducible rfl)
            refine wpAnyH_take (i := 5) (v := ?_) rfl (by kernel_rfl) (by kernel_rfl) (by kernel_rfl) (fun _ _ _ h => h) (Or.inl ⟨by kernel_rfl, ?_⟩) hH ?_
            rotate_left
            · (intro W hSw; obtain ⟨k1, k2, k3⟩ := hSw; go_simp; try with_reducible rfl)
            try simp only [Act.put, List.getElem_toArray, List.getElem_cons_zero, List.getElem_cons_succ, List.setIfInBounds_toArray, List.set_cons_zero, List.set_cons_succ]
            refine wpAnyH_take (i := 6) (v := ?_) rfl (by kernel_rfl) (by kernel_rfl) (by kernel_rfl) (fun _ _ _ h => h) (Or.inl ⟨by kernel_rfl, ?_⟩) hH ?_
            rotate_left
            · (intro W hSw; obtain ⟨k1, k2, k3⟩ := hSw; go_simp; try with_reducible rfl)
            refine wpAnyH_take (i := 7) (v := ?_) rfl (by kernel_rfl) (by kernel_rfl) (by kernel_rfl) (fun _ _ _ h => h) (Or.inl ⟨by kernel_rfl, ?_⟩) hH ?_
            rotate_left
            · (intro W hSw; obtain ⟨k1, k2, k3⟩ := hSw; go_simp; try with_reducible rfl)
            refine wpAnyH_take (i := 8) (v := ?_) rfl (by kernel_rfl) (by kernel_rfl) (by kernel_rfl) (fun _ _ _ h => h) (Or.inl ⟨by kernel_rfl, ?_⟩) hH ?_
            rotate_left
            · (intro W hSw; obtain ⟨k1, k2, k3⟩ := hSw; go_simp; try with_reducible rfl)
            try simp only [Act.put, List.getElem_toArray, List.getElem_cons_zero, List.getElem_cons_succ, List.setIfInBounds_toArray, List.set_cons_zero, List.set_cons_succ]
            refine wpAnyH_take (i := 9) (v := ?_) rfl (by kernel_rfl) (by kernel_rfl) (by kernel_rfl) (fun _ _ _ h => h) (Or.inl ⟨by kernel_rfl, ?_⟩) hH ?_
            rotate_left
            · (intro W hSw; obtain ⟨k1, k2, k3⟩ := hSw; go_simp; try with_reducible rfl)
            refine wpAnyH_take (i := 11) (v := ?_) rfl (by kernel_rfl) (by kernel_rfl) (by kernel_rfl) (fun _ _ _ h => h) (Or.inl ⟨by kernel_rfl, ?_⟩) hH ?_
            rotate_left
            · (intro W hSw; obtain ⟨k1, k2, k3⟩ := hSw; go_simp; try with_reducible rfl)
            refine wpAnyH_take (i := 12) (v := ?_) rfl (by kernel_rfl) (by kernel_rfl) (by kernel_rfl) (fun _ _ _ h => h) (Or.inl ⟨by kernel_rfl, ?_⟩) hH ?_
            rotate_left
            · (intro W hSw; obtain ⟨k1, k2, k3⟩ := hSw; go_simp; try with_reducible rfl)
            try simp only [Act.put, List.getElem_toArray, List.getElem_cons_zero, List.getElem_cons_succ, List.setIfInBounds_toArray, List.set_cons_zero, List.set_cons_succ]
            refine wpAnyH_take (i := 13) (v := ?_) rfl (by kernel_rfl) (by kernel_rfl) (by kernel_rfl) (fun _ _ _ h => h) (Or.inl ⟨by kernel_rfl, ?_⟩) hH ?_
            rotate_left
            · (intro W hSw; obtain ⟨k1, k2, k3⟩ := hSw; go_simp; try with_reducible rfl)
            refine wpAnyH_take (i := 14) (v := ?_) rfl (by kernel_rfl) (by kernel_rfl) (by kernel_rfl) (fun _ _ _ h => h) (Or.inl ⟨by kernel_rfl, ?_⟩) hH ?_
            rotate_left
            · (intro W hSw; obtain ⟨k1, k2, k3⟩ := hSw; go_simp; try with_reducible rfl)
            refine wpAnyH_take (i := 15) (v := ?_) rfl (by kernel_rfl) (by kernel_rfl) (by kernel_rfl) (fun _ _ _ h => h) (Or.inl ⟨by kernel_rfl, ?_⟩) hH ?_
            rotate_left
            · (intro W hSw; obtain ⟨k1, k2, k3⟩ := hSw; go_simp; try with_reducible rfl)
            try simp only [Act.put, List.getElem_toArray, List.getElem_cons_zero, List.getElem_cons_succ, List.setIfInBounds_toArray, List.set_cons_zero, List.set_cons_succ]
            refine wpAnyH_ready (rs := [10]) (by kernel_rfl) (by simp) ?_
            refine AllReadyH.cons rfl (fun K hK => ?_) ?_
            · go_simp
              go_wp2_with (refine (HLen.out _ F8.out.drew).mono ?_; rintro e w' ⟨rfl, rfl⟩)
              refine hK.out _ _ ?_ (fun hH => ?_)
              · exact hH
              clear hK K
              refine wpAnyH_take (i := 16) (v := ?_) rfl (by kernel_rfl) (by kernel_rfl) (by kernel_rfl) (fun _ _ _ h => h) (Or.inl ⟨by kernel_rfl, ?_⟩) hH ?_
              rotate_left
              · (intro W hSw; obtain ⟨k1, k2, k3⟩ := hSw; go_simp; try with_reducible rfl)
              refine wpAnyH_take (i := 17) (v := ?_) rfl (by kernel_rfl) (by kernel_rfl) (by kernel_rfl) (fun _ _ _ h => h) (Or.inl ⟨by kernel_rfl, ?_⟩) hH ?_
              rotate_left
              · (intro W hSw; obtain ⟨k1, k2, k3⟩ := hSw; go_simp; try with_reducible rfl)
              refine wpAnyH_take (i := 18) (v := ?_) rfl (by kernel_rfl) (by kernel_rfl) (by kernel_rfl) (fun _ _ _ h => h) (Or.inl ⟨by kernel_rfl, ?_⟩) hH ?_
              rotate_left
              · (intro W hSw; obtain ⟨k1, k2, k3⟩ := hSw; go_simp; try with_reducible rfl)
              try simp only [Act.put, List.getElem_toArray, List.getElem_cons_zero, List.getElem_cons_succ, List.setIfInBounds_toArray, List.set_cons_zero, List.set_cons_succ]
              refine wpAnyH_take (i := 19) (v := ?_) rfl (by kernel_rfl) (by kernel_rfl) (by kernel_rfl) (fun _ _ _ h => h) (Or.inl ⟨by kernel_rfl, ?_⟩) hH ?_
              rotate_left
              · (intro W hSw; obtain ⟨k1, k2, k3⟩ := hSw; go_simp; try with_reducible rfl)
              refine wpAnyH_take (i := 21) (v := ?_) rfl (by kernel_rfl) (by kernel_rfl) (by kernel_rfl) (fun _ _ _ h => h) (Or.inl ⟨by kernel_rfl, ?_⟩) hH ?_
              rotate_left
              · (intro W hSw; obtain ⟨k1, k2, k3⟩ := hSw; go_simp; try with_reducible rfl)
              refine wpAnyH_take (i := 22) (v := ?_) rfl (by kernel_rfl) (by kernel_rfl) (by kernel_rfl) (fun _ _ _ h => h) (Or.inl ⟨by kernel_rfl, ?_⟩) hH ?_
              rotate_left
              · (intro W hSw; obtain ⟨k1, k2, k3⟩ := hSw; go_simp; try with_reducible rfl)
              try simp only [Act.put, List.getElem_toArray, List.getElem_cons_zero, List.getElem_cons_succ, List.setIfInBounds_toArray, List.set_cons_zero, List.set_cons_succ]
              refine wpAnyH_take (i := 23) (v := ?_) rfl (by kernel_rfl) (by kernel_rfl) (by kernel_rfl) (fun _ _ _ h => h) (Or.inl ⟨by kernel_rfl, ?_⟩) hH ?_
              rotate_left
              · (intro W hSw; obtain ⟨k1, k2, k3⟩ := hSw; go_simp; try with_reducible rfl)
              refine wpAnyH_take (i := 24) (v := ?_) rfl (by kernel_rfl) (by kernel_rfl) (by kernel_rfl) (fun _ _ _ h => h) (Or.inl ⟨by kernel_rfl, ?_⟩) hH ?_
              rotate_left
              · (intro W hSw; obtain ⟨k1, k2, k3⟩ := hSw; go_simp; try with_reducible rfl)
              try simp only [Act.put, List.getElem_toArray, List.getElem_cons_zero, List.getElem_cons_succ, List.setIfInBounds_toArray, List.set_cons_zero, List.set_cons_succ]
              refine wpAnyH_ready (rs := [20]) (by kernel_rfl) (by simp) ?_
              refine AllReadyH.cons rfl (fun K hK => ?_) ?_
              · go_simp
                go_wp2_with (refine (HFl.out _ F8.out.drew).mono ?_; rintro e w' ⟨rfl, rfl⟩)
                refine hK.out _ _ ?_ (fun hH => ?_)
                · exact hH
                clear hK K
                refine wpAnyH_take (i := 25) (v := ?_) rfl (by kernel_rfl) (by kernel_rfl) (by kernel_rfl) (fun _ _ _ h => h) (Or.inl ⟨by kernel_rfl, ?_⟩) hH ?_
                rotate_left
                · (intro W hSw; obtain ⟨k1, k2, k3⟩ := hSw; go_simp; try with_reducible rfl)
                refine wpAnyH_take (i := 26) (v := ?_) rfl (by kernel_rfl) (by kernel_rfl) (by kernel_rfl) (fun _ _ _ h => h) (Or.inl ⟨by kernel_rfl, ?_⟩) hH ?_
                rotate_left
                · (intro W hSw; obtain ⟨k1, k2, k3⟩ := hSw; go_simp; try with_reducible rfl)
                refine wpAnyH_take (i := 27) (v := ?_) rfl (by kernel_rfl) (by kernel_rfl) (by kernel_rfl) (fun _ _ _ h => h) (Or.inl ⟨by kernel_rfl, ?_⟩) hH ?_
                rotate_left
                · (intro W hSw; obtain ⟨k1, k2, k3⟩ := hSw; go_simp; try with_reducible rfl)
                try simp only [Act.put, List.getElem_toArray, List.getElem_cons_zero, List.getElem_cons_succ, List.setIfInBounds_toArray, List.set_cons_zero, List.set_cons_succ]
                refine wpAnyH_take (i := 28) (v := ?_) rfl (by kernel_rfl) (by kernel_rfl) (by kernel_rfl) (fun _ _ _ h => h) (Or.inl ⟨by kernel_rfl, ?_⟩) hH ?_
                rotate_left
                · (intro W hSw; obtain ⟨k1, k2, k3⟩ := hSw; go_simp; try with_reducible rfl)
                refine wpAnyH_take (i := 30) (v := ?_) rfl (by kernel_rfl) (by kernel_rfl) (by kernel_rfl) (fun _ _ _ h => h) (Or.inl ⟨by kernel_rfl, ?_⟩) hH ?_
                rotate_left
                · (intro W hSw; obtain ⟨k1, k2, k3⟩ := hSw; go_simp; try with_reducible rfl)
                refine wpAnyH_take (i := 31) (v := ?_) rfl (by kernel_rfl) (by kernel_rfl) (by kernel_rfl) (fun _ _ _ h => h) (Or.inl ⟨by kernel_rfl, ?_⟩) hH ?_
                rotate_left
                · (intro W hSw; obtain ⟨k1, k2, k3⟩ := hSw; go_simp; try with_reducible rfl)
                try simp only [Act.put, List.getElem_toArray, List.getElem_cons_zero, List.getElem_cons_succ, List.setIfInBounds_toArray, List.set_cons_zero, List.set_cons_succ]
                refine wpAnyH_take (i := 32) (v := ?_) rfl (by kernel_rfl) (by kernel_rfl) (by kernel_rfl) (fun _ _ _ h => h) (Or.inl ⟨by kernel_rfl, ?_⟩) hH ?_
                rotate_left
                · (intro W hSw; obtain ⟨k1, k2, k3⟩ := hSw; go_simp; try with_reducible rfl)
                refine wpAnyH_take (i := 33) (v := ?_) rfl (by kernel_rfl) (by kernel_rfl) (by kernel_rfl) (fun _ _ _ h => h) (Or.inl ⟨by kernel_rfl, ?_⟩) hH ?_
                rotate_left
                · (intro W hSw; obtain ⟨k1, k2, k3⟩ := hSw; go_simp; try with_reducible rfl)
                try simp only [Act.put, List.getElem_toArray, List.getElem_cons_zero, List.getElem_cons_succ, List.setIfInBounds_toArray, List.set_cons_zero, List.set_cons_succ]
                refine wpAnyH_ready (rs := [29]) (by kernel_rfl) (by simp) ?_
                refine AllReadyH.cons rfl (fun K hK => ?_) ?_
                · go_simp
                  go_wp2_with (refine (HLen.out _ F8.out.drew).mono ?_; rintro e w' ⟨rfl, rfl⟩)
                  refine hK.out _ _ ?_ (fun hH => ?_)
                  · exact hH
                  clear hK K
                  refine wpAnyH_take (i := 34) (v := ?_) rfl (by kernel_rfl) (by kernel_rfl) (by kernel_rfl) (fun _ _ _ h => h) (Or.inl ⟨by kernel_rfl, ?_⟩) hH ?_
                  rotate_left
                  · (intro W hSw; obtain ⟨k1, k2, k3⟩ := hSw; go_simp; try with_reducible rfl)
                  refine wpAnyH_take (i := 35) (v := ?_) rfl (by kernel_rfl) (by kernel_rfl) (by kernel_rfl) (fun _ _ _ h => h) (Or.inl ⟨by kernel_rfl, ?_⟩) hH ?_
                  rotate_left
                  · (intro W hSw; obtain ⟨k1, k2, k3⟩ := hSw; go_simp; try with_reducible rfl)
                  refine wpAnyH_done (by kernel_rfl) ?_ _
                  clear hgt HLen HFl hS6
                  go_wp2_with fail
                  go_loopw [11] (fun iv wr => ∃ q : Nat, q ≤ n7 ∧ iv = .int .i64 q ∧ Hid (Fr (fun _ => False) w8 wr)) (fun iv _ => n7 - (intOf iv).toNat)
                  case atStart => exact ⟨0, by omega, rfl, Lib.hid ((Fr.refl _ w8).drew)⟩
                  case round =>
                    obtain ⟨q, hq, rfl, hfq⟩ := hrel
                    obtain ⟨wp, rfl⟩ : ∃ wp : World, wp = wr := ⟨_, rfl⟩
                    have FP := Lib.hid (F8.out.tr hfq.out)
                    by_cases hqn : q < n7
                    · have hd3 : decide ((q : Int) < (n7 : Int)) = true := by simp; omega
                      have hq0 : (0 : Int) ≤ (q : Int) := by omega
                      have hq1 : (q : Int) < (n7 : Int) := by omega
                      have hqs : q < s.bl.length := by have := HN7.out; omega
                      obtain ⟨ga, go, hA, hgl, e0, e1⟩ := at_cells R8.out hqn
                      have e0 := hfq.out.cell e0 hgl (fun e => e)
                      have e1 := hfq.out.cell e1 hgl (fun e => e)
                      have hky : nthK (s.bl.map Bk.k) q = (nthB s.bl q).k := by rw [nthK_at (by simpa using hqs), nthB_at hqs]; simp
                      rw [hky] at e0 e1
                      obtain ⟨yb, hyb⟩ : ∃ y, nthB s.bl q = y := ⟨_, rfl⟩
                      obtain ⟨y0, hy0⟩ : ∃ y, yb.pc = y := ⟨_, rfl⟩
                      obtain ⟨y1, hy1⟩ : ∃ y, yb.pl = y := ⟨_, rfl⟩
                      have hyok : Ky.Ok (y0, y1) := by
                        have := H.out.cc.ok.keys _ (by rw [nthB_at hqs]; exact List.getElem_mem hqs : nthB s.bl q ∈ s.bl)
                        rw [hyb] at this
                        rw [← hy0, ← hy1]; exact this
                      have hyk : (nthB s.bl q).k = (y0, y1) := by rw [hyb, ← hy0, ← hy1]; rfl
                      subst hA
                      have e2 : wp.cell? ⟨ga, go + q * 2, none⟩ = some (.int .u32 y0) := by rw [e0]; exact congrArg (fun k : Ky => some (Value.int .u32 k.1)) hyk
                      have e3 : wp.cell? ⟨ga, go + q * 2 + 1, none⟩ = some (.int .u32 y1) := by rw [e1]; exact congrArg (fun k : Ky => some (Value.int .u32 k.2)) hyk
                      obtain ⟨ll, hll⟩ : ∃ y, lnk s.E (y0, y1) = y := ⟨_, rfl⟩
                      obtain ⟨m, hm⟩ : ∃ y, ll.length = y := ⟨_, rfl⟩
                      have hm24 : m ≤ 1024 := by rw [← hm, ← hll]; exact lnk_len H.out.cc.ok _
                      have HRw : Hid (∃ gl bA bc, dA8 = some ⟨gl, 0, none⟩ ∧ gl < w.heap.size ∧ ∀ W, Fr (fun _ => False) w W → W.cell? ⟨gl, q * 5, none⟩ = some (.int .u32 y0) ∧ W.cell? ⟨gl, q * 5 + 1, none⟩ = some (.int .u32 y1) ∧ W.cell? ⟨gl, q * 5 + 4, none⟩ = some (.slice bA m bc) ∧ At_k W bA m (nthK ll)) := Lib.hid (by
                        obtain ⟨gl, bA, bc, q1, q2, q3, q4, _, _, q7, q8⟩ := HS.out.row H.out.dd hqs
                        rw [hyk, hll, hm] at q7 q8
                        rw [hyb, hy0] at q3
                        rw [hyb, hy1] at q4
                        refine ⟨gl, bA, bc, HDA.out.symm.trans q1, q2, fun W fW => ⟨fW.cell q3 q2 (fun e => e), fW.cell q4 q2 (fun e => e), fW.cell q7 q2 (fun e => e), krow_at_ (own_fr q8 fW (fun _ _ e => e)) hm⟩⟩)
                      have HLk : Hid (∀ W, Fr (fun _ => False) w W → Calls Try.prog 24 #[.pointer (some ⟨gc, 0, none⟩), .agg #[.int .u32 y0, .int .u32 y1]] W fun e w' => ∃ A c, e = .returned (.slice A m c) ∧ Hid (At_k w' A m (nthK ll)) ∧ Hid (Fr (fun _ => False) W w')) := Lib.hid (fun W fW => by
                        refine (linked_any W gc s (H.out.cc.fr0 fW) (y0, y1) hyok).mono ?_
                        rintro e w' ⟨A, c, g1, g2, g3⟩
                        rw [hll, hm] at g1 g2
                        exact ⟨A, c, g1, Lib.hid (krow_at g2 hm), Lib.hid g3⟩)
                      clear hky hyb hy0 hy1 hyok hyk hll hm e0 e1
                      obtain ⟨gl, bA, bc, hgl8, hgl9, hrow⟩ := HRw.out
                      subst hgl8
                      have HRow := Lib.hid hrow
                      obtain ⟨c0, _, _⟩ := HDc.out wp FP.out
                      obtain ⟨v0, v1, v4, _⟩ := hrow wp FP.out
                      clear hrow
                      go_upto_region 11 with (fail)
                      go_quiet (fail)
                      generalize hwq : wp.drewN _ = wq
                      have fq : Fr (fun _ => False) wp wq := by rw [← hwq]; exact (Fr.refl _ wp).drewN _
                      have FQ := Lib.hid (FP.out.tr fq)
                      have e2 := fq.cell e2 (by have := (at_lt R8.out hqn); exact Nat.lt_of_lt_of_le this hfq.out.size) (fun e => e)
                      have e3 := fq.cell e3 (by have := (at_lt R8.out hqn); exact Nat.lt_of_lt_of_le this hfq.out.size) (fun e => e)
                      have HFQ := Lib.hid (hfq.out.tr fq)
                      clear hwq fq c0 v0 v1 v4
                      go_wp2_with fail
                      refine (HLk.out _ FQ.out).mono ?_
                      rintro e w9 ⟨A9, c9, rfl, K9, f9⟩
                      have F9 := Lib.hid (FQ.out.tr f9.out)
                      have G9 := Lib.hid (HFQ.out.tr f9.out)
                      obtain ⟨c0, _, _⟩ := HDc.out w9 F9.out
                      obtain ⟨_, _, v4, _⟩ := HRow.out w9 F9.out
                      clear e2 e3
                      go_wp2_with fail
                      go_loopw [13] (fun jv wr => ∃ r : Nat, r ≤ m ∧ jv = .int .i64 r ∧ Hid (Fr (fun _ => False) w9 wr)) (fun jv _ => m - (intOf jv).toNat)
                      case atStart => exact ⟨0, by omega, rfl, Lib.hid (Fr.refl _ _)⟩
                      case round =>
                        obtain ⟨r, hr, rfl, hfr⟩ := hrel
                        have FR := Lib.hid (F9.out.tr hfr.out)
                        by_cases hrm : r < m
                        · have hd4 : decide ((r : Int) < (m : Int)) = true := by simp; omega
                          have hr0 : (0 : Int) ≤ (r : Int) := by omega
                          have hr1 : (r : Int) < (m : Int) := by omega
                          obtain ⟨gb, go2, hB, hbl, u0, u1⟩ := at_cells K9.out hrm
                          have u0 := hfr.out.cell u0 hbl (fun e => e)
                          have u1 := hfr.out.cell u1 hbl (fun e => e)
                          obtain ⟨c0, _, _⟩ := HDc.out wr FR.out
                          obtain ⟨_, _, v4, hlk⟩ := HRow.out wr FR.out
                          obtain ⟨gc2, go3, hC, hcl, t0, t1⟩ := at_cells hlk hrm
                          subst hB
                          subst hC
                          obtain ⟨z, hz⟩ : ∃ z, nthK ll r = z := ⟨_, rfl⟩
                          rw [hz] at u0 u1 t0 t1
                          obtain ⟨z0, z1⟩ := z
                          have u2 : wr.cell? ⟨gb, go2 + r * 2, none⟩ = some (.int .u32 z0) := u0
                          have u3 : wr.cell? ⟨gb, go2 + r * 2 + 1, none⟩ = some (.int .u32 z1) := u1
                          have t2 : wr.cell? ⟨gc2, go3 + r * 2, none⟩ = some (.int .u32 z0) := t0
                          have t3 : wr.cell? ⟨gc2, go3 + r * 2 + 1, none⟩ = some (.int .u32 z1) := t1
                          clear hz hlk u0 u1 t0 t1
                          go_upto_region 19 with (fail)
                          go_still_tail 22, (by kernel_rfl)
                          change wpList _ _ _ _ _ wr.drew
                          go_wp2_with fail
                          exact ⟨⟨r + 1, by omega, by go_num, Lib.hid hfr.out.drew⟩, by simp [intOf]; omega⟩
                        · have hd4 : decide ((r : Int) < (m : Int)) = false := by simp; omega
                          have HE := Lib.hid (G9.out.tr hfr.out)
                          go_wp2_with fail
                          exact ⟨⟨q + 1, by omega, by go_num, HE⟩, by simp [intOf]; omega⟩
                    · have hd3 : decide ((q : Int) < (n7 : Int)) = false := by simp; omega
                      go_wp2_with fail
                      go_ret
                      exact ⟨rfl, FP.out⟩
                exact AllReadyH.nil
              exact AllReadyH.nil
            exact AllReadyH.nil
          exact AllReadyH.nil
        exact AllReadyH.nil
      exact AllReadyH.nil
    exact AllReadyH.nil
  · have hd0 : decide (0 ≤ ix) = false := by simpa using hge
    have hix : ix = -1 := by omega
    have HFn : Hid (∀ W, Fr (fun _ => False) w W → Calls Try.prog 14 #[.pointer (some ⟨gc, 0, none⟩), .agg #[.int .u32 ka, .int .u32 kb]] W fun e w' => e = .returned (.tuple #[.agg #[.int .u32 0, .int .u32 0, .slice none 0 0, .int .i64 0], .bool false]) ∧ Hid (Fr (fun _ => False) W w')) := Lib.hid (fun W fW => (find_no W gc s (H.out.cc.fr0 fW) (ka, kb) (by rw [HIX.out]; omega)).mono fun e w' ⟨g1, g2⟩ => ⟨g1, Lib.hid g2⟩)
    subst hix
    have hb31 : ∀ W : World, (Instr.build 31 #[]).run Try.prog W = .ok (.agg #[.int .u32 0, .int .u32 0]) W := fun W => by kernel_rfl
    clear hge hlo0 hlo1 HIX
    go_wp2_with fail
    refine (KA.out _).mono ?_
    rintro e w2 ⟨rfl, f2⟩
    clear x0 x1
    go_wp2_with fail
    refine (HFn.out _ (F1.out.tr f2.out)).mono ?_
    rintro e w3 ⟨rfl, f3⟩
    have F3 := Lib.hid ((F1.out.tr f2.out).tr f3.out)
    have fb := (Fr.refl (fun _ => False) w3).alloc (.cells #[.int .u32 0, .int .u32 0, .slice none 0 0, .int .i64 0] 34)
    have F4 := Lib.hid (F3.out.tr fb)
    have b7 := Blk.new w3 34 #[.int .u32 0, .int .u32 0, .slice none 0 0, .int .i64 0]
    have bx4 := (((BX.out.fr f2.out (fun e => e)).fr f3.out (fun e => e)).fr fb (fun e => e))
    have hSP : SP w.heap.size a0 a1 (w3.alloc (.cells #[.int .u32 0, .int .u32 0, .slice none 0 0, .int .i64 0] 34)) := ⟨bx4.cell 0, bx4.cell 1, bx4.lt⟩
    have hSN : Hid (∀ W, Fr (fun _ => False) (w3.alloc (.cells #[.int .u32 0, .int .u32 0, .slice none 0 0, .int .i64 0] 34)) W → SN w3.heap.size W) := Lib.hid (fun W fW => by
      have e7 := b7.fr fW (fun e => e)
      exact ⟨e7.cell 0, e7.cell 1, e7.cell 2, e7.cell 3⟩)
    clear bx4 b7 fb
    go_upto_region 2 with (fail)
    refine wp_region_held_drew (S := SP w.heap.size a0 a1) (by kernel_rfl) (hSP) (fun hH => ?_)
    refine wpAnyH_take (i := 0) (v := ?_) rfl (by kernel_rfl) (by kernel_rfl) (by kernel_rfl) (fun _ _ _ h => h) (Or.inl ⟨by kernel_rfl, ?_⟩) hH ?_
    rotate_left
    · (intro W hSw; obtain ⟨k1, k2, k3⟩ := hSw; go_simp; try with_reducible rfl)
    refine wpAnyH_take (i := 1) (v := ?_) rfl (by kernel_rfl) (by kernel_rfl) (by kernel_rfl) (fun _ _ _ h => h) (Or.inl ⟨by kernel_rfl, ?_⟩) hH ?_
    rotate_left
    · (intro W hSw; obtain ⟨k1, k2, k3⟩ := hSw; go_simp; try with_reducible rfl)
    refine wpAnyH_take (i := 4) (v := ?_) rfl (by kernel_rfl) (by kernel_rfl) (by kernel_rfl) (fun _ _ _ h => h) (Or.inl ⟨by kernel_rfl, ?_⟩) hH ?_
    rotate_left
    · (intro W hSw; obtain ⟨k1, k2, k3⟩ := hSw; go_simp; try with_reducible rfl)
    try simp only [Act.put, List.getElem_toArray, List.getElem_cons_zero, List.getElem_cons_succ, List.setIfInBounds_toArray, List.set_cons_zero, List.set_cons_succ]
    refine wpAnyH_ready (rs := [2]) (by kernel_rfl) (by simp) ?_
    refine AllReadyH.cons rfl (fun K hK => ?_) ?_
    · go_simp
      go_wp2_with (refine (PA.out _).mono ?_; rintro e w5 ⟨rfl, f5⟩)
      refine hK.out _ _ ?_ (fun hH => ?_)
      · exact hH.fr f5.out (fun e => e)
      clear hK K
      refine wpAnyH_take (i := 3) (v := ?_) rfl (by kernel_rfl) (by kernel_rfl) (by kernel_rfl) (fun _ _ _ h => h) (Or.inl ⟨by kernel_rfl, ?_⟩) hH ?_
      rotate_left
      · (intro W hSw; obtain ⟨k1, k2, k3⟩ := hSw; go_simp; try with_reducible rfl)
      try simp only [Act.put, List.getElem_toArray, List.getElem_cons_zero, List.getElem_cons_succ, List.setIfInBounds_toArray, List.set_cons_zero, List.set_cons_succ]
      refine wpAnyH_ready (rs := [5]) (by kernel_rfl) (by simp) ?_
      refine AllReadyH.cons rfl (fun K hK => ?_) ?_
      · go_simp
        go_wp2_with (refine (PA.out _).mono ?_; rintro e w6 ⟨rfl, f6⟩)
        refine hK.out _ _ ?_ (fun hH => ?_)
        · exact hH.fr f6.out (fun e => e)
        clear hK K
        refine wpAnyH_take (i := 6) (v := ?_) rfl (by kernel_rfl) (by kernel_rfl) (by kernel_rfl) (fun _ _ _ h => h) (Or.inl ⟨by kernel_rfl, ?_⟩) hH ?_
        rotate_left
        · (intro W hSw; obtain ⟨k1, k2, k3⟩ := hSw; go_simp; try with_reducible rfl)
        try simp only [Act.put, List.getElem_toArray, List.getElem_cons_zero, List.getElem_cons_succ, List.setIfInBounds_toArray, List.set_cons_zero, List.set_cons_succ]
        refine wpAnyH_ready (rs := [7]) (by kernel_rfl) (by simp) ?_
        refine AllReadyH.cons rfl (fun K hK => ?_) ?_
        · go_simp
          go_wp2_with (refine (HAt.out _ (((F4.out.drew).tr f5.out).tr f6.out)).mono ?_; rintro e w' ⟨rfl, rfl⟩)
          refine hK.out _ _ ?_ (fun hH => ?_)
          · exact hH
          clear hK K
          refine wpAnyH_take (i := 8) (v := ?_) rfl (by kernel_rfl) (by kernel_rfl) (by kernel_rfl) (fun _ _ _ h => h) (Or.inl ⟨by kernel_rfl, ?_⟩) hH ?_
          rotate_left
          · (intro W hSw; obtain ⟨k1, k2, k3⟩ := hSw; go_simp; try with_reducible rfl)
          refine wpAnyH_done (by kernel_rfl) ?_ _
          have F6 := Lib.hid (((F4.out.drew).tr f5.out).tr f6.out)
          have hSN6 := hSN.out w6 ((((Fr.refl _ _).drew).tr f5.out).tr f6.out)
          go_upto_region 3 with (fail)
          refine wp_region_held_drew (S := SN w3.heap.size) (by kernel_rfl) (hSN6) (fun hH => ?_)
          refine wpAnyH_take (i := 0) (v := ?_) rfl (by kernel_rfl) (by kernel_rfl) (by kernel_rfl) (fun _ _ _ h => h) (Or.inl ⟨by kernel_rfl, ?_⟩) hH ?_
          rotate_left
          · (intro W hSw; obtain ⟨k1, k2, k3, k4⟩ := hSw; go_simp; try with_reducible rfl)
          refine wpAnyH_take (i := 1) (v := ?_) rfl (by kernel_rfl) (by kernel_rfl) (by kernel_rfl) (fun _ _ _ h => h) (Or.inl ⟨by kernel_rfl, ?_⟩) hH ?_
          rotate_left
          · (intro W hSw; obtain ⟨k1, k2, k3, k4⟩ := hSw; go_simp; try with_reducible rfl)
          refine wpAnyH_take (i := 2) (v := ?_) rfl (by kernel_rfl) (by kernel_rfl) (by kernel_rfl) (fun _ _ _ h => h) (Or.inl ⟨by kernel_rfl, ?_⟩) hH ?_
          rotate_left
          · (intro W hSw; obtain ⟨k1, k2, k3, k4⟩ := hSw; go_simp; try with_reducible rfl)
          try simp only [Act.put, List.getElem_toArray, List.getElem_cons_zero, List.getElem_cons_succ, List.setIfInBounds_toArray, List.set_cons_zero, List.set_cons_succ]
          refine wpAnyH_take (i := 3) (v := ?_) rfl (by kernel_rfl) (by kernel_rfl) (by kernel_rfl) (fun _ _ _ h => h) (Or.inl ⟨by kernel_rfl, ?_⟩) hH ?_
          rotate_left
          · (intro W hSw; obtain ⟨k1, k2, k3, k4⟩ := hSw; go_simp; try with_reducible rfl)
          refine wpAnyH_take (i := 4) (v := ?_) rfl (by kernel_rfl) (by kernel_rfl) (by kernel_rfl) (fun _ _ _ h => h) (Or.inl ⟨by kernel_rfl, ?_⟩) hH ?_
          rotate_left
          · (intro W hSw; obtain ⟨k1, k2, k3, k4⟩ := hSw; go_simp; try with_reducible rfl)
          refine wpAnyH_take (i := 5) (v := ?_) rfl (by kernel_rfl) (by kernel_rfl) (by kernel_rfl) (fun _ _ _ h => h) (Or.inl ⟨by kernel_rfl, ?_⟩) hH ?_
          rotate_left
          · (intro W hSw; obtain ⟨k1, k2, k3, k4⟩ := hSw; go_simp; try with_reducible rfl)
          try simp only [Act.put, List.getElem_toArray, List.getElem_cons_zero, List.getElem_cons_succ, List.setIfInBounds_toArray, List.set_cons_zero, List.set_cons_succ]
          refine wpAnyH_take (i := 6) (v := ?_) rfl (by kernel_rfl) (by kernel_rfl) (by kernel_rfl) (fun _ _ _ h => h) (Or.inl ⟨by kernel_rfl, ?_⟩) hH ?_
          rotate_left
          · (intro W hSw; obtain ⟨k1, k2, k3, k4⟩ := hSw; go_simp; try with_reducible rfl)
          refine wpAnyH_take (i := 7) (v := undef) rfl (by kernel_rfl) (by kernel_rfl) (by kernel_rfl) (fun _ _ _ h => h) (Or.inr ⟨by kernel_rfl, rfl⟩) hH ?_
          refine wpAnyH_take (i := 8) (v := undef) rfl (by kernel_rfl) (by kernel_rfl) (by kernel_rfl) (fun _ _ _ h => h) (Or.inr ⟨by kernel_rfl, rfl⟩) hH ?_
          try simp only [Act.put, List.getElem_toArray, List.getElem_cons_zero, List.getElem_cons_succ, List.setIfInBounds_toArray, List.set_cons_zero, List.set_cons_succ]
          refine wpAnyH_take (i := 9) (v := undef) rfl (by kernel_rfl) (by kernel_rfl) (by kernel_rfl) (fun _ _ _ h => h) (Or.inr ⟨by kernel_rfl, rfl⟩) hH ?_
          refine wpAnyH_take (i := 10) (v := undef) rfl (by kernel_rfl) (by kernel_rfl) (by kernel_rfl) (fun _ _ _ h => h) (Or.inr ⟨by kernel_rfl, rfl⟩) hH ?_
          refine wpAnyH_take (i := 11) (v := undef) rfl (by kernel_rfl) (by kernel_rfl) (by kernel_rfl) (fun _ _ _ h => h) (Or.inr ⟨by kernel_rfl, rfl⟩) hH ?_
          try simp only [Act.put, List.getElem_toArray, List.getElem_cons_zero, List.getElem_cons_succ, List.setIfInBounds_toArray, List.set_cons_zero, List.set_cons_succ]
          refine wpAnyH_take (i := 12) (v := undef) rfl (by kernel_rfl) (by kernel_rfl) (by kernel_rfl) (fun _ _ _ h => h) (Or.inr ⟨by kernel_rfl, rfl⟩) hH ?_
          refine wpAnyH_take (i := 13) (v := undef) rfl (by kernel_rfl) (by kernel_rfl) (by kernel_rfl) (fun _ _ _ h => h) (Or.inr ⟨by kernel_rfl, rfl⟩) hH ?_
          refine wpAnyH_take (i := 14) (v := undef) rfl (by kernel_rfl) (by kernel_rfl) (by kernel_rfl) (fun _ _ _ h => h) (Or.inr ⟨by kernel_rfl, rfl⟩) hH ?_
          try simp only [Act.put, List.getElem_toArray, List.getElem_cons_zero, List.getElem_cons_succ, List.setIfInBounds_toArray, List.set_cons_zero, List.set_cons_succ]
          refine wpAnyH_take (i := 15) (v := undef) rfl (by kernel_rfl) (by kernel_rfl) (by kernel_rfl) (fun _ _ _ h => h) (Or.inr ⟨by kernel_rfl, rfl⟩) hH ?_
          refine wpAnyH_take (i := 16) (v := undef) rfl (by kernel_rfl) (by kernel_rfl) (by kernel_rfl) (fun _ _ _ h => h) (Or.inr ⟨by kernel_rfl, rfl⟩) hH ?_
          refine wpAnyH_take (i := 17) (v := undef) rfl (by kernel_rfl) (by kernel_rfl) (by kernel_rfl) (fun _ _ _ h => h) (Or.inr ⟨by kernel_rfl, rfl⟩) hH ?_
          try simp only [Act.put, List.getElem_toArray, List.getElem_cons_zero, List.getElem_cons_succ, List.setIfInBounds_toArray, List.set_cons_zero, List.set_cons_succ]
          refine wpAnyH_take (i := 18) (v := undef) rfl (by kernel_rfl) (by kernel_rfl) (by kernel_rfl) (fun _ _ _ h => h) (Or.inr ⟨by kernel_rfl, rfl⟩) hH ?_
          refine wpAnyH_take (i := 19) (v := undef) rfl (by kernel_rfl) (by kernel_rfl) (by kernel_rfl) (fun _ _ _ h => h) (Or.inr ⟨by kernel_rfl, rfl⟩) hH ?_
          refine wpAnyH_take (i := 20) (v := undef) rfl (by kernel_rfl) (by kernel_rfl) (by kernel_rfl) (fun _ _ _ h => h) (Or.inr ⟨by kernel_rfl, rfl⟩) hH ?_
          try simp only [Act.put, List.getElem_toArray, List.getElem_cons_zero, List.getElem_cons_succ, List.setIfInBounds_toArray, List.set_cons_zero, List.set_cons_succ]
          refine wpAnyH_take (i := 21) (v := undef) rfl (by kernel_rfl) (by kernel_rfl) (by kernel_rfl) (fun _ _ _ h => h) (Or.inr ⟨by kernel_rfl, rfl⟩) hH ?_
          refine wpAnyH_take (i := 22) (v := undef) rfl (by kernel_rfl) (by kernel_rfl) (by kernel_rfl) (fun _ _ _ h => h) (Or.inr ⟨by kernel_rfl, rfl⟩) hH ?_
          refine wpAnyH_take (i := 23) (v := undef) rfl (by kernel_rfl) (by kernel_rfl) (by kernel_rfl) (fun _ _ _ h => h) (Or.inr ⟨by kernel_rfl, rfl⟩) hH ?_
          try simp only [Act.put, List.getElem_toArray, List.getElem_cons_zero, List.getElem_cons_succ, List.setIfInBounds_toArray, List.set_cons_zero, List.set_cons_succ]
          refine wpAnyH_take (i := 24) (v := undef) rfl (by kernel_rfl) (by kernel_rfl) (by kernel_rfl) (fun _ _ _ h => h) (Or.inr ⟨by kernel_rfl, rfl⟩) hH ?_
          refine wpAnyH_take (i := 25) (v := undef) rfl (by kernel_rfl) (by kernel_rfl) (by kernel_rfl) (fun _ _ _ h => h) (Or.inr ⟨by kernel_rfl, rfl⟩) hH ?_
          refine wpAnyH_take (i := 26) (v := undef) rfl (by kernel_rfl) (by kernel_rfl) (by kernel_rfl) (fun _ _ _ h => h) (Or.inr ⟨by kernel_rfl, rfl⟩) hH ?_
          try simp only [Act.put, List.getElem_toArray, List.getElem_cons_zero, List.getElem_cons_succ, List.setIfInBounds_toArray, List.set_cons_zero, List.set_cons_succ]
          refine wpAnyH_take (i := 27) (v := undef) rfl (by kernel_rfl) (by kernel_rfl) (by kernel_rfl) (fun _ _ _ h => h) (Or.inr ⟨by kernel_rfl, rfl⟩) hH ?_
          refine wpAnyH_take (i := 28) (v := undef) rfl (by kernel_rfl) (by kernel_rfl) (by kernel_rfl) (fun _ _ _ h => h) (Or.inr ⟨by kernel_rfl, rfl⟩) hH ?_
          refine wpAnyH_take (i := 29) (v := undef) rfl (by kernel_rfl) (by kernel_rfl) (by kernel_rfl) (fun _ _ _ h => h) (Or.inr ⟨by kernel_rfl, rfl⟩) hH ?_
          try simp only [Act.put, List.getElem_toArray, List.getElem_cons_zero, List.getElem_cons_succ, List.setIfInBounds_toArray, List.set_cons_zero, List.set_cons_succ]
          refine wpAnyH_take (i := 30) (v := undef) rfl (by kernel_rfl) (by kernel_rfl) (by kernel_rfl) (fun _ _ _ h => h) (Or.inr ⟨by kernel_rfl, rfl⟩) hH ?_
          refine wpAnyH_take (i := 31) (v := undef) rfl (by kernel_rfl) (by kernel_rfl) (by kernel_rfl) (fun _ _ _ h => h) (Or.inr ⟨by kernel_rfl, rfl⟩) hH ?_
          refine wpAnyH_take (i := 32) (v := undef) rfl (by kernel_rfl) (by kernel_rfl) (by kernel_rfl) (fun _ _ _ h => h) (Or.inr ⟨by kernel_rfl, rfl⟩) hH ?_
          try simp only [Act.put, List.getElem_toArray, List.getElem_cons_zero, List.getElem_cons_succ, List.setIfInBounds_toArray, List.set_cons_zero, List.set_cons_succ]
          refine wpAnyH_take (i := 33) (v := undef) rfl (by kernel_rfl) (by kernel_rfl) (by kernel_rfl) (fun _ _ _ h => h) (Or.inr ⟨by kernel_rfl, rfl⟩) hH ?_
          refine wpAnyH_take (i := 34) (v := undef) rfl (by kernel_rfl) (by kernel_rfl) (by kernel_rfl) (fun _ _ _ h => h) (Or.inr ⟨by kernel_rfl, rfl⟩) hH ?_
          refine wpAnyH_take (i := 35) (v := undef) rfl (by kernel_rfl) (by kernel_rfl) (by kernel_rfl) (fun _ _ _ h => h) (Or.inr ⟨by kernel_rfl, rfl⟩) hH ?_
          try simp only [Act.put, List.getElem_toArray, List.getElem_cons_zero, List.getElem_cons_succ, List.setIfInBounds_toArray, List.set_cons_zero, List.set_cons_succ]
          refine wpAnyH_take (i := 36) (v := undef) rfl (by kernel_rfl) (by kernel_rfl) (by kernel_rfl) (fun _ _ _ h => h) (Or.inr ⟨by kernel_rfl, rfl⟩) hH ?_
          refine wpAnyH_take (i := 37) (v := undef) rfl (by kernel_rfl) (by kernel_rfl) (by kernel_rfl) (fun _ _ _ h => h) (Or.inr ⟨by kernel_rfl, rfl⟩) hH ?_
          refine wpAnyH_take (i := 38) (v := undef) rfl (by kernel_rfl) (by kernel_rfl) (by kernel_rfl) (fun _ _ _ h => h) (Or.inr ⟨by kernel_rfl, rfl⟩) hH ?_
          try simp only [Act.put, List.getElem_toArray, List.getElem_cons_zero, List.getElem_cons_succ, List.setIfInBounds_toArray, List.set_cons_zero, List.set_cons_succ]
          refine wpAnyH_take (i := 39) (v := ?_) rfl (by kernel_rfl) (by kernel_rfl) (by kernel_rfl) (fun _ _ _ h => h) (Or.inl ⟨by kernel_rfl, ?_⟩) hH ?_
          rotate_left
          · (intro W hSw; obtain ⟨k1, k2, k3, k4⟩ := hSw; go_simp; try with_reducible rfl)
          refine wpAnyH_take (i := 40) (v := ?_) rfl (by kernel_rfl) (by kernel_rfl) (by kernel_rfl) (fun _ _ _ h => h) (Or.inl ⟨by kernel_rfl, ?_⟩) hH ?_
          rotate_left
          · (intro W hSw; obtain ⟨k1, k2, k3, k4⟩ := hSw; go_simp; try with_reducible rfl)
          refine wpAnyH_take (i := 41) (v := ?_) rfl (by kernel_rfl) (by kernel_rfl) (by kernel_rfl) (fun _ _ _ h => h) (Or.inl ⟨by kernel_rfl, ?_⟩) hH ?_
          rotate_left
          · (intro W hSw; obtain ⟨k1, k2, k3, k4⟩ := hSw; go_simp; try with_reducible rfl)
          try simp only [Act.put, List.getElem_toArray, List.getElem_cons_zero, List.getElem_cons_succ, List.setIfInBounds_toArray, List.set_cons_zero, List.set_cons_succ]
          refine wpAnyH_take (i := 42) (v := ?_) rfl (by kernel_rfl) (by kernel_rfl) (by kernel_rfl) (fun _ _ _ h => h) (Or.inl ⟨by kernel_rfl, ?_⟩) hH ?_
          rotate_left
          · (intro W hSw; obtain ⟨k1, k2, k3, k4⟩ := hSw; go_simp; try with_reducible rfl)
          refine wpAnyH_take (i := 43) (v := ?_) rfl (by kernel_rfl) (by kernel_rfl) (by kernel_rfl) (fun _ _ _ h => h) (Or.inl ⟨by kernel_rfl, ?_⟩) hH ?_
          rotate_left
          · (intro W hSw; obtain ⟨k1, k2, k3, k4⟩ := hSw; go_simp; try with_reducible rfl)
          refine wpAnyH_take (i := 44) (v := ?_) rfl (by kernel_rfl) (by kernel_rfl) (by kernel_rfl) (fun _ _ _ h => h) (Or.inl ⟨by kernel_rfl, ?_⟩) hH ?_
          rotate_left
          · (intro W hSw; obtain ⟨k1, k2, k3, k4⟩ := hSw; go_simp; try with_reducible rfl)
          try simp only [Act.put, List.getElem_toArray, List.getElem_cons_zero, List.getElem_cons_succ, List.setIfInBounds_toArray, List.set_cons_zero, List.set_cons_succ]
          refine wpAnyH_take (i := 45) (v := ?_) rfl (by kernel_rfl) (by kernel_rfl) (by kernel_rfl) (fun _ _ _ h => h) (Or.inl ⟨by kernel_rfl, ?_⟩) hH ?_
          rotate_left
          · (intro W hSw; obtain ⟨k1, k2, k3, k4⟩ := hSw; go_simp; try with_reducible rfl)
          refine wpAnyH_take (i := 46) (v := ?_) rfl (by kernel_rfl) (by kernel_rfl) (by kernel_rfl) (fun _ _ _ h => h) (Or.inl ⟨by kernel_rfl, ?_⟩) hH ?_
          rotate_left
          · (intro W hSw; obtain ⟨k1, k2, k3, k4⟩ := hSw; go_simp; try with_reducible rfl)
          refine wpAnyH_take (i := 47) (v := ?_) rfl (by kernel_rfl) (by kernel_rfl) (by kernel_rfl) (fun _ _ _ h => h) (Or.inl ⟨by kernel_rfl, ?_⟩) hH ?_
          rotate_left
          · (intro W hSw; obtain ⟨k1, k2, k3, k4⟩ := hSw; go_simp; try with_reducible rfl)
          try simp only [Act.put, List.getElem_toArray, List.getElem_cons_zero, List.getElem_cons_succ, List.setIfInBounds_toArray, List.set_cons_zero, List.set_cons_succ]
          refine wpAnyH_take (i := 48) (v := ?_) rfl (by kernel_rfl) (by kernel_rfl) (by kernel_rfl) (fun _ _ _ h => h) (Or.inl ⟨by kernel_rfl, ?_⟩) hH ?_
          rotate_left
          · (intro W hSw; obtain ⟨k1, k2, k3, k4⟩ := hSw; go_simp; try with_reducible rfl)
          refine wpAnyH_take (i := 49) (v := ?_) rfl (by kernel_rfl) (by kernel_rfl) (by kernel_rfl) (fun _ _ _ h => h) (Or.inl ⟨by kernel_rfl, ?_⟩) hH ?_
          rotate_left
          · (intro W hSw; obtain ⟨k1, k2, k3, k4⟩ := hSw; go_simp; try with_reducible rfl)
          refine wpAnyH_take (i := 50) (v := ?_) rfl (by kernel_rfl) (by kernel_rfl) (by kernel_rfl) (fun _ _ _ h => h) (Or.inl ⟨by kernel_rfl, ?_⟩) hH ?_
          rotate_left
          · (intro W hSw; obtain ⟨k1, k2, k3, k4⟩ := hSw; go_simp; try with_reducible rfl)
          try simp only [Act.put, List.getElem_toArray, List.getElem_cons_zero, List.getElem_cons_succ, List.setIfInBounds_toArray, List.set_cons_zero, List.set_cons_succ]
          refine wpAnyH_take (i := 51) (v := ?_) rfl (by kernel_rfl) (by kernel_rfl) (by kernel_rfl) (fun _ _ _ h => h) (Or.inl ⟨by kernel_rfl, ?_⟩) hH ?_
          rotate_left
          · (intro W hSw; obtain ⟨k1, k2, k3, k4⟩ := hSw; go_simp; try with_reducible rfl)
          refine wpAnyH_take (i := 52) (v := ?_) rfl (by kernel_rfl) (by kernel_rfl) (by kernel_rfl) (fun _ _ _ h => h) (Or.inl ⟨by kernel_rfl, ?_⟩) hH ?_
          rotate_left
          · (intro W hSw; obtain ⟨k1, k2, k3, k4⟩ := hSw; go_simp; try with_reducible rfl)
          refine wpAnyH_take (i := 53) (v := ?_) rfl (by kernel_rfl) (by kernel_rfl) (by kernel_rfl) (fun _ _ _ h => h) (Or.inl ⟨by kernel_rfl, ?_⟩) hH ?_
          rotate_left
          · (intro W hSw; obtain ⟨k1, k2, k3, k4⟩ := hSw; go_simp; try with_reducible rfl)
          try simp only [Act.put, List.getElem_toArray, List.getElem_cons_zero, List.getElem_cons_succ, List.setIfInBounds_toArray, List.set_cons_zero, List.set_cons_succ]
          refine wpAnyH_take (i := 54) (v := ?_) rfl (by kernel_rfl) (by kernel_rfl) (by kernel_rfl) (fun _ _ _ h => h) (Or.inl ⟨by kernel_rfl, ?_⟩) hH ?_
          rotate_left
          · (intro W hSw; obtain ⟨k1, k2, k3, k4⟩ := hSw; go_simp; try with_reducible rfl)
          refine wpAnyH_take (i := 55) (v := ?_) rfl (by kernel_rfl) (by kernel_rfl) (by kernel_rfl) (fun _ _ _ h => h) (Or.inl ⟨by kernel_rfl, ?_⟩) hH ?_
          rotate_left
          · (intro W hSw; obtain ⟨k1, k2, k3, k4⟩ := hSw; go_simp; try with_reducible rfl)
          refine wpAnyH_take (i := 56) (v := ?_) rfl (by kernel_rfl) (by kernel_rfl) (by kernel_rfl) (fun _ _ _ h => h) (Or.inl ⟨by kernel_rfl, ?_⟩) hH ?_
          rotate_left
          · (intro W hSw; obtain ⟨k1, k2, k3, k4⟩ := hSw; go_simp; try with_reducible rfl)
          try simp only [Act.put, List.getElem_toArray, List.getElem_cons_zero, List.getElem_cons_succ, List.setIfInBounds_toArray, List.set_cons_zero, List.set_cons_succ]
          refine wpAnyH_take (i := 57) (v := ?_) rfl (by kernel_rfl) (by kernel_rfl) (by kernel_rfl) (fun _ _ _ h => h) (Or.inl ⟨by kernel_rfl, ?_⟩) hH ?_
          rotate_left
          · (intro W hSw; obtain ⟨k1, k2, k3, k4⟩ := hSw; go_simp; try with_reducible rfl)
          refine wpAnyH_take (i := 58) (v := ?_) rfl (by kernel_rfl) (by kernel_rfl) (by kernel_rfl) (fun _ _ _ h => h) (Or.inl ⟨by kernel_rfl, ?_⟩) hH ?_
          rotate_left
          · (intro W hSw; obtain ⟨k1, k2, k3, k4⟩ := hSw; go_simp; try with_reducible rfl)
          refine wpAnyH_take (i := 59) (v := ?_) rfl (by kernel_rfl) (by kernel_rfl) (by kernel_rfl) (fun _ _ _ h => h) (Or.inl ⟨by kernel_rfl, ?_⟩) hH ?_
          rotate_left
          · (intro W hSw; obtain ⟨k1, k2, k3, k4⟩ := hSw; go_simp; try with_reducible rfl)
          try simp only [Act.put, List.getElem_toArray, List.getElem_cons_zero, List.getElem_cons_succ, List.setIfInBounds_toArray, List.set_cons_zero, List.set_cons_succ]
          refine wpAnyH_take (i := 60) (v := ?_) rfl (by kernel_rfl) (by kernel_rfl) (by kernel_rfl) (fun _ _ _ h => h) (Or.inl ⟨by kernel_rfl, ?_⟩) hH ?_
          rotate_left
          · (intro W hSw; obtain ⟨k1, k2, k3, k4⟩ := hSw; go_simp; try with_reducible rfl)
          refine wpAnyH_take (i := 61) (v := ?_) rfl (by kernel_rfl) (by kernel_rfl) (by kernel_rfl) (fun _ _ _ h => h) (Or.inl ⟨by kernel_rfl, ?_⟩) hH ?_
          rotate_left
          · (intro W hSw; obtain ⟨k1, k2, k3, k4⟩ := hSw; go_simp; try with_reducible rfl)
          refine wpAnyH_done (by kernel_rfl) ?_ _
          have F7 := Lib.hid (F6.out.drew)
          go_upto_region 5 with (fail)
          generalize w6.drew = w7 at F7 ⊢
          obtain ⟨n7, hn7⟩ : ∃ q, s.bl.length = q := ⟨_, rfl⟩
          have HK := Lib.hid (keys_any w7 gc s (H.out.cc.fr0 F7.out))
          have hroom := H.out.cc.ok.room
          have hlen := H.out.cc.ok.len
          rw [hn7] at HK hl24 hlen
          have HN7 := Lib.hid hn7
          clear hn7
          go_wp2_with fail
          refine (HK.out).mono ?_
          rintro e w8 ⟨A8, c8, rfl, r8, f8⟩
          have F8 := Lib.hid (F7.out.tr f8)
          have R8 := Lib.hid (krow_at r8 (by rw [List.length_map]; exact HN7.out))
          obtain ⟨dA8, hdA8⟩ : ∃ q, d.A = q := ⟨_, rfl⟩
          obtain ⟨dc8, hdc8⟩ : ∃ q, d.c = q := ⟨_, rfl⟩
          obtain ⟨room, hrm⟩ : ∃ q, s.room = q := ⟨_, rfl⟩
          obtain ⟨fl, hflq⟩ : ∃ q, s.fl = q := ⟨_, rfl⟩
          have hroomd := HS.out.room
          have hfld := HS.out.fl
          rw [hrm] at hroomd hroom hlen
          rw [hflq] at hfld
          have HDc : Hid (∀ W, Fr (fun _ => False) w W → W.cell? ⟨gd, 0, none⟩ = some (.slice dA8 n7 dc8) ∧ W.cell? ⟨gd, 1, none⟩ = some (.int .i64 room) ∧ W.cell? ⟨gd, 2, none⟩ = some (.int .i64 fl)) := Lib.hid (fun W fW => by
            have hc := (H.out.dd.fr0 fW).cells
            rw [hroomd, hfld, hdA8, hdc8, HS.out.len, HN7.out] at hc
            exact hc)
          have HLen : Hid (∀ W, Fr (fun _ => False) w W → Calls Try.prog 12 #[.pointer (some ⟨gc, 0, none⟩)] W fun e w' => e = .returned (.int .i64 (n7 : Int)) ∧ W = w') := Lib.hid (fun W fW => by
            have := len_any W gc s (H.out.cc.fr0 fW)
            rw [HN7.out] at this
            exact this)
          have HFl : Hid (∀ W, Fr (fun _ => False) w W → Calls Try.prog 13 #[.pointer (some ⟨gc, 0, none⟩)] W fun e w' => e = .returned (.int .i64 fl) ∧ W = w') := Lib.hid (fun W fW => by
            have := flushes_any W gc s (H.out.cc.fr0 fW)
            rw [hflq] at this
            exact this)
          have HDA := Lib.hid hdA8
          have hgt : decide (room < (n7 : Int)) = false := by simp; omega
          have hS6 : S6 gd dA8 n7 dc8 room fl w8 := HDc.out w8 F8.out
          clear r8 f8 HK hroomd hfld hdA8 hdc8 hrm hflq hroom hlen
          go_upto_region 6 with (fail)
          refine wp_region_held_drew (S := S6 gd dA8 n7 dc8 room fl) (by kernel_rfl) (hS6) (fun hH => ?_)
          refine wpAnyH_take (i := 0) (v := ?_) rfl (by kernel_rfl) (by kernel_rfl) (by kernel_rfl) (fun _ _ _ h => h) (Or.inl ⟨by kernel_rfl, ?_⟩) hH ?_
          rotate_left
          · (intro W hSw; obtain ⟨k1, k2, k3⟩ := hSw; go_simp; try with_reducible rfl)
          refine wpAnyH_take (i := 1) (v := ?_) rfl (by kernel_rfl) (by kernel_rfl) (by kernel_rfl) (fun _ _ _ h => h) (Or.inl ⟨by kernel_rfl, ?_⟩) hH ?_
          rotate_left
          · (intro W hSw; obtain ⟨k1, k2, k3⟩ := hSw; go_simp; try with_reducible rfl)
          refine wpAnyH_take (i := 2) (v := ?_) rfl (by kernel_rfl) (by kernel_rfl) (by kernel_rfl) (fun _ _ _ h => h) (Or.inl ⟨by kernel_rfl, ?_⟩) hH ?_
          rotate_left
          · (intro W hSw; obtain ⟨k1, k2, k3⟩ := hSw; go_simp; try with_reducible rfl)
          try simp only [Act.put, List.getElem_toArray, List.getElem_cons_zero, List.getElem_cons_succ, List.setIfInBounds_toArray, List.set_cons_zero, List.set_cons_succ]
          refine wpAnyH_take (i := 3) (v := ?_) rfl (by kernel_rfl) (by kernel_rfl) (by kernel_rfl) (fun _ _ _ h => h) (Or.inl ⟨by kernel_rfl, ?_⟩) hH ?_
          rotate_left
          · (intro W hSw; obtain ⟨k1, k2, k3⟩ := hSw; go_simp; try with_reducible rfl)
          refine wpAnyH_take (i := 4) (v := ?_) rfl (by kernel_rfl) (by kernel_rfl) (by kernel_rfl) (fun _ _ _ h => h) (Or.inl ⟨by kernel_rfl, ?_⟩) hH ?_
          rotate_left
          · (intro W hSw; obtain ⟨k1, k2, k3⟩ := hSw; go_simp; try with_reducible rfl)
          refine wpAnyH_take (i := 5) (v := ?_) rfl (by kernel_rfl) (by kernel_rfl) (by kernel_rfl) (fun _ _ _ h => h) (Or.inl ⟨by kernel_rfl, ?_⟩) hH ?_
          rotate_left
          · (intro W hSw; obtain ⟨k1, k2, k3⟩ := hSw; go_simp; try with_reducible rfl)
          try simp only [Act.put, List.getElem_toArray, List.getElem_cons_zero, List.getElem_cons_succ, List.setIfInBounds_toArray, List.set_cons_zero, List.set_cons_succ]
          refine wpAnyH_take (i := 6) (v := ?_) rfl (by kernel_rfl) (by kernel_rfl) (by kernel_rfl) (fun _ _ _ h => h) (Or.inl ⟨by kernel_rfl, ?_⟩) hH ?_
          rotate_left
          · (intro W hSw; obtain ⟨k1, k2, k3⟩ := hSw; go_simp; try with_reducible rfl)
          refine wpAnyH_take (i := 7) (v := ?_) rfl (by kernel_rfl) (by kernel_rfl) (by kernel_rfl) (fun _ _ _ h => h) (Or.inl ⟨by kernel_rfl, ?_⟩) hH ?_
          rotate_left
          · (intro W hSw; obtain ⟨k1, k2, k3⟩ := hSw; go_simp; try with_reducible rfl)
          refine wpAnyH_take (i := 8) (v := ?_) rfl (by kernel_rfl) (by kernel_rfl) (by kernel_rfl) (fun _ _ _ h => h) (Or.inl ⟨by kernel_rfl, ?_⟩) hH ?_
          rotate_left
          · (intro W hSw; obtain ⟨k1, k2, k3⟩ := hSw; go_simp; try with_reducible rfl)
          try simp only [Act.put, List.getElem_toArray, List.getElem_cons_zero, List.getElem_cons_succ, List.setIfInBounds_toArray, List.set_cons_zero, List.set_cons_succ]
          refine wpAnyH_take (i := 9) (v := ?_) rfl (by kernel_rfl) (by kernel_rfl) (by kernel_rfl) (fun _ _ _ h => h) (Or.inl ⟨by kernel_rfl, ?_⟩) hH ?_
          rotate_left
          · (intro W hSw; obtain ⟨k1, k2, k3⟩ := hSw; go_simp; try with_reducible rfl)
          refine wpAnyH_take (i := 11) (v := ?_) rfl (by kernel_rfl) (by kernel_rfl) (by kernel_rfl) (fun _ _ _ h => h) (Or.inl ⟨by kernel_rfl, ?_⟩) hH ?_
          rotate_left
          · (intro W hSw; obtain ⟨k1, k2, k3⟩ := hSw; go_simp; try with_reducible rfl)
          refine wpAnyH_take (i := 12) (v := ?_) rfl (by kernel_rfl) (by kernel_rfl) (by kernel_rfl) (fun _ _ _ h => h) (Or.inl ⟨by kernel_rfl, ?_⟩) hH ?_
          rotate_left
          · (intro W hSw; obtain ⟨k1, k2, k3⟩ := hSw; go_simp; try with_reducible rfl)
          try simp only [Act.put, List.getElem_toArray, List.getElem_cons_zero, List.getElem_cons_succ, List.setIfInBounds_toArray, List.set_cons_zero, List.set_cons_succ]
          refine wpAnyH_take (i := 13) (v := ?_) rfl (by kernel_rfl) (by kernel_rfl) (by kernel_rfl) (fun _ _ _ h => h) (Or.inl ⟨by kernel_rfl, ?_⟩) hH ?_
          rotate_left
          · (intro W hSw; obtain ⟨k1, k2, k3⟩ := hSw; go_simp; try with_reducible rfl)
          refine wpAnyH_take (i := 14) (v := ?_) rfl (by kernel_rfl) (by kernel_rfl) (by kernel_rfl) (fun _ _ _ h => h) (Or.inl ⟨by kernel_rfl, ?_⟩) hH ?_
          rotate_left
          · (intro W hSw; obtain ⟨k1, k2, k3⟩ := hSw; go_simp; try with_reducible rfl)
          refine wpAnyH_take (i := 15) (v := ?_) rfl (by kernel_rfl) (by kernel_rfl) (by kernel_rfl) (fun _ _ _ h => h) (Or.inl ⟨by kernel_rfl, ?_⟩) hH ?_
          rotate_left
          · (intro W hSw; obtain ⟨k1, k2, k3⟩ := hSw; go_simp; try with_reducible rfl)
          try simp only [Act.put, List.getElem_toArray, List.getElem_cons_zero, List.getElem_cons_succ, List.setIfInBounds_toArray, List.set_cons_zero, List.set_cons_succ]
          refine wpAnyH_ready (rs := [10]) (by kernel_rfl) (by simp) ?_
          refine AllReadyH.cons rfl (fun K hK => ?_) ?_
          · go_simp
            go_wp2_with (refine (HLen.out _ F8.out.drew).mono ?_; rintro e w' ⟨rfl, rfl⟩)
            refine hK.out _ _ ?_ (fun hH => ?_)
            · exact hH
            clear hK K
            refine wpAnyH_take (i := 16) (v := ?_) rfl (by kernel_rfl) (by kernel_rfl) (by kernel_rfl) (fun _ _ _ h => h) (Or.inl ⟨by kernel_rfl, ?_⟩) hH ?_
            rotate_left
            · (intro W hSw; obtain ⟨k1, k2, k3⟩ := hSw; go_simp; try with_reducible rfl)
            refine wpAnyH_take (i := 17) (v := ?_) rfl (by kernel_rfl) (by kernel_rfl) (by kernel_rfl) (fun _ _ _ h => h) (Or.inl ⟨by kernel_rfl, ?_⟩) hH ?_
            rotate_left
            · (intro W hSw; obtain ⟨k1, k2, k3⟩ := hSw; go_simp; try with_reducible rfl)
            refine wpAnyH_take (i := 18) (v := ?_) rfl (by kernel_rfl) (by kernel_rfl) (by kernel_rfl) (fun _ _ _ h => h) (Or.inl ⟨by kernel_rfl, ?_⟩) hH ?_
            rotate_left
            · (intro W hSw; obtain ⟨k1, k2, k3⟩ := hSw; go_simp; try with_reducible rfl)
            try simp only [Act.put, List.getElem_toArray, List.getElem_cons_zero, List.getElem_cons_succ, List.setIfInBounds_toArray, List.set_cons_zero, List.set_cons_succ]
            refine wpAnyH_take (i := 19) (v := ?_) rfl (by kernel_rfl) (by kernel_rfl) (by kernel_rfl) (fun _ _ _ h => h) (Or.inl ⟨by kernel_rfl, ?_⟩) hH ?_
            rotate_left
            · (intro W hSw; obtain ⟨k1, k2, k3⟩ := hSw; go_simp; try with_reducible rfl)
            refine wpAnyH_take (i := 21) (v := ?_) rfl (by kernel_rfl) (by kernel_rfl) (by kernel_rfl) (fun _ _ _ h => h) (Or.inl ⟨by kernel_rfl, ?_⟩) hH ?_
            rotate_left
            · (intro W hSw; obtain ⟨k1, k2, k3⟩ := hSw; go_simp; try with_reducible rfl)
            refine wpAnyH_take (i := 22) (v := ?_) rfl (by kernel_rfl) (by kernel_rfl) (by kernel_rfl) (fun _ _ _ h => h) (Or.inl ⟨by kernel_rfl, ?_⟩) hH ?_
            rotate_left
            · (intro W hSw; obtain ⟨k1, k2, k3⟩ := hSw; go_simp; try with_reducible rfl)
            try simp only [Act.put, List.getElem_toArray, List.getElem_cons_zero, List.getElem_cons_succ, List.setIfInBounds_toArray, List.set_cons_zero, List.set_cons_succ]
            refine wpAnyH_take (i := 23) (v := ?_) rfl (by kernel_rfl) (by kernel_rfl) (by kernel_rfl) (fun _ _ _ h => h) (Or.inl ⟨by kernel_rfl, ?_⟩) hH ?_
            rotate_left
            · (intro W hSw; obtain ⟨k1, k2, k3⟩ := hSw; go_simp; try with_reducible rfl)
            refine wpAnyH_take (i := 24) (v := ?_) rfl (by kernel_rfl) (by kernel_rfl) (by kernel_rfl) (fun _ _ _ h => h) (Or.inl ⟨by kernel_rfl, ?_⟩) hH ?_
            rotate_left
            · (intro W hSw; obtain ⟨k1, k2, k3⟩ := hSw; go_simp; try with_reducible rfl)
            try simp only [Act.put, List.getElem_toArray, List.getElem_cons_zero, List.getElem_cons_succ, List.setIfInBounds_toArray, List.set_cons_zero, List.set_cons_succ]
            refine wpAnyH_ready (rs := [20]) (by kernel_rfl) (by simp) ?_
            refine AllReadyH.cons rfl (fun K hK => ?_) ?_
            · go_simp
              go_wp2_with (refine (HFl.out _ F8.out.drew).mono ?_; rintro e w' ⟨rfl, rfl⟩)
              refine hK.out _ _ ?_ (fun hH => ?_)
              · exact hH
              clear hK K
              refine wpAnyH_take (i := 25) (v := ?_) rfl (by kernel_rfl) (by kernel_rfl) (by kernel_rfl) (fun _ _ _ h => h) (Or.inl ⟨by kernel_rfl, ?_⟩) hH ?_
              rotate_left
              · (intro W hSw; obtain ⟨k1, k2, k3⟩ := hSw; go_simp; try with_reducible rfl)
              refine wpAnyH_take (i := 26) (v := ?_) rfl (by kernel_rfl) (by kernel_rfl) (by kernel_rfl) (fun _ _ _ h => h) (Or.inl ⟨by kernel_rfl, ?_⟩) hH ?_
              rotate_left
              · (intro W hSw; obtain ⟨k1, k2, k3⟩ := hSw; go_simp; try with_reducible rfl)
              refine wpAnyH_take (i := 27) (v := ?_) rfl (by kernel_rfl) (by kernel_rfl) (by kernel_rfl) (fun _ _ _ h => h) (Or.inl ⟨by kernel_rfl, ?_⟩) hH ?_
              rotate_left
              · (intro W hSw; obtain ⟨k1, k2, k3⟩ := hSw; go_simp; try with_reducible rfl)
              try simp only [Act.put, List.getElem_toArray, List.getElem_cons_zero, List.getElem_cons_succ, List.setIfInBounds_toArray, List.set_cons_zero, List.set_cons_succ]
              refine wpAnyH_take (i := 28) (v := ?_) rfl (by kernel_rfl) (by kernel_rfl) (by kernel_rfl) (fun _ _ _ h => h) (Or.inl ⟨by kernel_rfl, ?_⟩) hH ?_
              rotate_left
              · (intro W hSw; obtain ⟨k1, k2, k3⟩ := hSw; go_simp; try with_reducible rfl)
              refine wpAnyH_take (i := 30) (v := ?_) rfl (by kernel_rfl) (by kernel_rfl) (by kernel_rfl) (fun _ _ _ h => h) (Or.inl ⟨by kernel_rfl, ?_⟩) hH ?_
              rotate_left
              · (intro W hSw; obtain ⟨k1, k2, k3⟩ := hSw; go_simp; try with_reducible rfl)
              refine wpAnyH_take (i := 31) (v := ?_) rfl (by kernel_rfl) (by kernel_rfl) (by kernel_rfl) (fun _ _ _ h => h) (Or.inl ⟨by kernel_rfl, ?_⟩) hH ?_
              rotate_left
              · (intro W hSw; obtain ⟨k1, k2, k3⟩ := hSw; go_simp; try with_reducible rfl)
              try simp only [Act.put, List.getElem_toArray, List.getElem_cons_zero, List.getElem_cons_succ, List.setIfInBounds_toArray, List.set_cons_zero, List.set_cons_succ]
              refine wpAnyH_take (i := 32) (v := ?_) rfl (by kernel_rfl) (by kernel_rfl) (by kernel_rfl) (fun _ _ _ h => h) (Or.inl ⟨by kernel_rfl, ?_⟩) hH ?_
              rotate_left
              · (intro W hSw; obtain ⟨k1, k2, k3⟩ := hSw; go_simp; try with_reducible rfl)
              refine wpAnyH_take (i := 33) (v := ?_) rfl (by kernel_rfl) (by kernel_rfl) (by kernel_rfl) (fun _ _ _ h => h) (Or.inl ⟨by kernel_rfl, ?_⟩) hH ?_
              rotate_left
              · (intro W hSw; obtain ⟨k1, k2, k3⟩ := hSw; go_simp; try with_reducible rfl)
              try simp only [Act.put, List.getElem_toArray, List.getElem_cons_zero, List.getElem_cons_succ, List.setIfInBounds_toArray, List.set_cons_zero, List.set_cons_succ]
              refine wpAnyH_ready (rs := [29]) (by kernel_rfl) (by simp) ?_
              refine AllReadyH.cons rfl (fun K hK => ?_) ?_
              · go_simp
                go_wp2_with (refine (HLen.out _ F8.out.drew).mono ?_; rintro e w' ⟨rfl, rfl⟩)
                refine hK.out _ _ ?_ (fun hH => ?_)
                · exact hH
                clear hK K
                refine wpAnyH_take (i := 34) (v := ?_) rfl (by kernel_rfl) (by kernel_rfl) (by kernel_rfl) (fun _ _ _ h => h) (Or.inl ⟨by kernel_rfl, ?_⟩) hH ?_
                rotate_left
                · (intro W hSw; obtain ⟨k1, k2, k3⟩ := hSw; go_simp; try with_reducible rfl)
                refine wpAnyH_take (i := 35) (v := ?_) rfl (by kernel_rfl) (by kernel_rfl) (by kernel_rfl) (fun _ _ _ h => h) (Or.inl ⟨by kernel_rfl, ?_⟩) hH ?_
                rotate_left
                · (intro W hSw; obtain ⟨k1, k2, k3⟩ := hSw; go_simp; try with_reducible rfl)
                refine wpAnyH_done (by kernel_rfl) ?_ _
                clear hgt HLen HFl hS6
                go_wp2_with fail
                go_loopw [11] (fun iv wr => ∃ q : Nat, q ≤ n7 ∧ iv = .int .i64 q ∧ Hid (Fr (fun _ => False) w8 wr)) (fun iv _ => n7 - (intOf iv).toNat)
                case atStart => exact ⟨0, by omega, rfl, Lib.hid ((Fr.refl _ w8).drew)⟩
                case round =>
                  obtain ⟨q, hq, rfl, hfq⟩ := hrel
                  obtain ⟨wp, rfl⟩ : ∃ wp : World, wp = wr := ⟨_, rfl⟩
                  have FP := Lib.hid (F8.out.tr hfq.out)
                  by_cases hqn : q < n7
                  · have hd3 : decide ((q : Int) < (n7 : Int)) = true := by simp; omega
                    have hq0 : (0 : Int) ≤ (q : Int) := by omega
                    have hq1 : (q : Int) < (n7 : Int) := by omega
                    have hqs : q < s.bl.length := by have := HN7.out; omega
                    obtain ⟨ga, go, hA, hgl, e0, e1⟩ := at_cells R8.out hqn
                    have e0 := hfq.out.cell e0 hgl (fun e => e)
                    have e1 := hfq.out.cell e1 hgl (fun e => e)
                    have hky : nthK (s.bl.map Bk.k) q = (nthB s.bl q).k := by rw [nthK_at (by simpa using hqs), nthB_at hqs]; simp
                    rw [hky] at e0 e1
                    obtain ⟨yb, hyb⟩ : ∃ y, nthB s.bl q = y := ⟨_, rfl⟩
                    obtain ⟨y0, hy0⟩ : ∃ y, yb.pc = y := ⟨_, rfl⟩
                    obtain ⟨y1, hy1⟩ : ∃ y, yb.pl = y := ⟨_, rfl⟩
                    have hyok : Ky.Ok (y0, y1) := by
                      have := H.out.cc.ok.keys _ (by rw [nthB_at hqs]; exact List.getElem_mem hqs : nthB s.bl q ∈ s.bl)
                      rw [hyb] at this
                      rw [← hy0, ← hy1]; exact this
                    have hyk : (nthB s.bl q).k = (y0, y1) := by rw [hyb, ← hy0, ← hy1]; rfl
                    subst hA
                    have e2 : wp.cell? ⟨ga, go + q * 2, none⟩ = some (.int .u32 y0) := by rw [e0]; exact congrArg (fun k : Ky => some (Value.int .u32 k.1)) hyk
                    have e3 : wp.cell? ⟨ga, go + q * 2 + 1, none⟩ = some (.int .u32 y1) := by rw [e1]; exact congrArg (fun k : Ky => some (Value.int .u32 k.2)) hyk
                    obtain ⟨ll, hll⟩ : ∃ y, lnk s.E (y0, y1) = y := ⟨_, rfl⟩
                    obtain ⟨m, hm⟩ : ∃ y, ll.length = y := ⟨_, rfl⟩
                    have hm24 : m ≤ 1024 := by rw [← hm, ← hll]; exact lnk_len H.out.cc.ok _
                    have HRw : Hid (∃ gl bA bc, dA8 = some ⟨gl, 0, none⟩ ∧ gl < w.heap.size ∧ ∀ W, Fr (fun _ => False) w W → W.cell? ⟨gl, q * 5, none⟩ = some (.int .u32 y0) ∧ W.cell? ⟨gl, q * 5 + 1, none⟩ = some (.int .u32 y1) ∧ W.cell? ⟨gl, q * 5 + 4, none⟩ = some (.slice bA m bc) ∧ At_k W bA m (nthK ll)) := Lib.hid (by
                      obtain ⟨gl, bA, bc, q1, q2, q3, q4, _, _, q7, q8⟩ := HS.out.row H.out.dd hqs
                      rw [hyk, hll, hm] at q7 q8
                      rw [hyb, hy0] at q3
                      rw [hyb, hy1] at q4
                      refine ⟨gl, bA, bc, HDA.out.symm.trans q1, q2, fun W fW => ⟨fW.cell q3 q2 (fun e => e), fW.cell q4 q2 (fun e => e), fW.cell q7 q2 (fun e => e), krow_at_ (own_fr q8 fW (fun _ _ e => e)) hm⟩⟩)
                    have HLk : Hid (∀ W, Fr (fun _ => False) w W → Calls Try.prog 24 #[.pointer (some ⟨gc, 0, none⟩), .agg #[.int .u32 y0, .int .u32 y1]] W fun e w' => ∃ A c, e = .returned (.slice A m c) ∧ Hid (At_k w' A m (nthK ll)) ∧ Hid (Fr (fun _ => False) W w')) := Lib.hid (fun W fW => by
                      refine (linked_any W gc s (H.out.cc.fr0 fW) (y0, y1) hyok).mono ?_
                      rintro e w' ⟨A, c, g1, g2, g3⟩
                      rw [hll, hm] at g1 g2
                      exact ⟨A, c, g1, Lib.hid (krow_at g2 hm), Lib.hid g3⟩)
                    clear hky hyb hy0 hy1 hyok hyk hll hm e0 e1
                    obtain ⟨gl, bA, bc, hgl8, hgl9, hrow⟩ := HRw.out
                    subst hgl8
                    have HRow := Lib.hid hrow
                    obtain ⟨c0, _, _⟩ := HDc.out wp FP.out
                    obtain ⟨v0, v1, v4, _⟩ := hrow wp FP.out
                    clear hrow
                    go_upto_region 11 with (fail)
                    go_quiet (fail)
                    generalize hwq : wp.drewN _ = wq
                    have fq : Fr (fun _ => False) wp wq := by rw [← hwq]; exact (Fr.refl _ wp).drewN _
                    have FQ := Lib.hid (FP.out.tr fq)
                    have e2 := fq.cell e2 (by have := (at_lt R8.out hqn); exact Nat.lt_of_lt_of_le this hfq.out.size) (fun e => e)
                    have e3 := fq.cell e3 (by have := (at_lt R8.out hqn); exact Nat.lt_of_lt_of_le this hfq.out.size) (fun e => e)
                    have HFQ := Lib.hid (hfq.out.tr fq)
                    clear hwq fq c0 v0 v1 v4
                    go_wp2_with fail
                    refine (HLk.out _ FQ.out).mono ?_
                    rintro e w9 ⟨A9, c9, rfl, K9, f9⟩
                    have F9 := Lib.hid (FQ.out.tr f9.out)
                    have G9 := Lib.hid (HFQ.out.tr f9.out)
                    obtain ⟨c0, _, _⟩ := HDc.out w9 F9.out
                    obtain ⟨_, _, v4, _⟩ := HRow.out w9 F9.out
                    clear e2 e3
                    go_wp2_with fail
                    go_loopw [13] (fun jv wr => ∃ r : Nat, r ≤ m ∧ jv = .int .i64 r ∧ Hid (Fr (fun _ => False) w9 wr)) (fun jv _ => m - (intOf jv).toNat)
                    case atStart => exact ⟨0, by omega, rfl, Lib.hid (Fr.refl _ _)⟩
                    case round =>
                      obtain ⟨r, hr, rfl, hfr⟩ := hrel
                      have FR := Lib.hid (F9.out.tr hfr.out)
                      by_cases hrm : r < m
                      · have hd4 : decide ((r : Int) < (m : Int)) = true := by simp; omega
                        have hr0 : (0 : Int) ≤ (r : Int) := by omega
                        have hr1 : (r : Int) < (m : Int) := by omega
                        obtain ⟨gb, go2, hB, hbl, u0, u1⟩ := at_cells K9.out hrm
                        have u0 := hfr.out.cell u0 hbl (fun e => e)
                        have u1 := hfr.out.cell u1 hbl (fun e => e)
                        obtain ⟨c0, _, _⟩ := HDc.out wr FR.out
                        obtain ⟨_, _, v4, hlk⟩ := HRow.out wr FR.out
                        obtain ⟨gc2, go3, hC, hcl, t0, t1⟩ := at_cells hlk hrm
                        subst hB
                        subst hC
                        obtain ⟨z, hz⟩ : ∃ z, nthK ll r = z := ⟨_, rfl⟩
                        rw [hz] at u0 u1 t0 t1
                        obtain ⟨z0, z1⟩ := z
                        have u2 : wr.cell? ⟨gb, go2 + r * 2, none⟩ = some (.int .u32 z0) := u0
                        have u3 : wr.cell? ⟨gb, go2 + r * 2 + 1, none⟩ = some (.int .u32 z1) := u1
                        have t2 : wr.cell? ⟨gc2, go3 + r * 2, none⟩ = some (.int .u32 z0) := t0
                        have t3 : wr.cell? ⟨gc2, go3 + r * 2 + 1, none⟩ = some (.int .u32 z1) := t1
                        clear hz hlk u0 u1 t0 t1
                        go_upto_region 19 with (fail)
                        go_still_tail 22, (by kernel_rfl)
                        change wpList _ _ _ _ _ wr.drew
                        go_wp2_with fail
                        exact ⟨⟨r + 1, by omega, by go_num, Lib.hid hfr.out.drew⟩, by simp [intOf]; omega⟩
                      · have hd4 : decide ((r : Int) < (m : Int)) = false := by simp; omega
                        have HE := Lib.hid (G9.out.tr hfr.out)
                        go_wp2_with fail
                        exact ⟨⟨q + 1, by omega, by go_num, HE⟩, by simp [intOf]; omega⟩
                  · have hd3 : decide ((q : Int) < (n7 : Int)) = false := by simp; omega
                    go_wp2_with fail
                    go_ret
                    exact ⟨rfl, FP.out⟩
              exact AllReadyH.nil
            exact AllReadyH.nil
          exact AllReadyH.nil
        exact AllReadyH.nil
      exact AllReadyH.nil
    exact AllReadyH.nil
end Go.Proofs.Ytfjlgdafakbdoaa.Ca
