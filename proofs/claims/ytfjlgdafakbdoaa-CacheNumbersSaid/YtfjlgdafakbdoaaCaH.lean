/- Translations that are kept: Put. -/
import Derived.Test.YtfjlgdafakbdoaaCaG
import Derived.StillTailTactics
import Derived.Deep.QuietTactic
import Derived.BigQuiet
namespace Go.Proofs.Ytfjlgdafakbdoaa.Ca
open Go.RowKit Mz Go.Maps
set_option linter.unusedVariables false
set_option linter.unusedSimpArgs false
set_option maxHeartbeats 4000000

theorem info4 : (Try.prog.info? 34).map (fun i => (i.zero, i.size, i.bytes)) = some (some (.agg #[.int .u32 0, .int .u32 0, .slice none 0 0, .int .i64 0]), 4, 40) := by kernel_rfl
theorem put_no (w : World) (g : Nat) (pc pl : Int) (A : Option Addr) (n c : Nat) (ct : Int) (h : ct < 1 ∨ n = 0) :
    Calls Try.prog 11 #[.pointer (some ⟨g, 0, none⟩), .agg #[.int .u32 pc, .int .u32 pl, .slice A n c, .int .i64 ct]] w fun e w' => e = .returned (.bool false) ∧ Fr (fun _ => False) w w' := by
  by_cases h1 : ct < 1
  · have hd : decide (ct < 1) = true := by simpa using h1
    go_enter Try.func11, Try.ntmps11
    go_wp2_with fail
    go_ret
    exact ⟨rfl, (Fr.refl _ w).alloc _⟩
  · have hd : decide (ct < 1) = false := by simpa using h1
    have hn : n = 0 := by rcases h with h | h; exact absurd h h1; exact h
    subst hn
    go_enter Try.func11, Try.ntmps11
    go_wp2_with fail
    go_ret
    exact ⟨rfl, (Fr.refl _ w).alloc _⟩
/-- what Put leaves -/
def PutPost (w : World) (g : Nat) (s : Cs) (mk : Option Addr → Nat → Bk) (e : Ending) (w' : World) : Prop :=
  ∃ A' c' A2 c2 gm2, e = .returned (.bool true) ∧ Cch w' g (s.put (mk A' c') A2 c2 gm2) ∧ Fr (s.wr g) w w' ∧ ∀ q, (s.put (mk A' c') A2 c2 gm2).own g q → s.own g q ∨ w.heap.size ≤ q
set_option maxRecDepth 100000 in
theorem put_any (w : World) (g : Nat) (s : Cs) (h : Cch w g s) (pc pl : Int) (code : List Int) (ct : Int) (A : Option Addr) (c B : Nat) (hr : Reads w B 1 A code.length (code.map (Value.int .u8))) (hB : B ≤ w.heap.size) (hk : Ky.Ok (pc, pl)) (hct : 1 ≤ ct ∧ ct ≤ 9223372036854775807) (hcode : code ≠ [] ∧ code.length ≤ 1000000 ∧ ∀ z ∈ code, 0 ≤ z ∧ z < 256) (hfl : s.fl ≤ 1000000) :
    Calls Try.prog 11 #[.pointer (some ⟨g, 0, none⟩), .agg #[.int .u32 pc, .int .u32 pl, .slice A code.length c, .int .i64 ct]] w (PutPost w g s fun A' c' => ⟨pc, pl, code, ct, A', c'⟩) := by
  obtain ⟨i0, hin, hz0, hz1, hz2⟩ := info_parts info4
  have hpos : 0 < code.length := List.length_pos_iff.2 hcode.1
  have HBO : Hid (∀ A' c', Bk.Ok ⟨pc, pl, code, ct, A', c'⟩) := Lib.hid (fun A' c' => ⟨hk, hct, hcode⟩)
  have hnn : A = none → code.length = 0 ∧ c = 0 := fun e => by
    obtain ⟨ad, e2, _⟩ := hr.2 (by simpa using hpos)
    rw [e] at e2; cases e2
  obtain ⟨n, hn⟩ : ∃ n, code.length = n := ⟨_, rfl⟩
  have f1 := (Fr.refl (fun _ => False) w).alloc (.cells #[.int .u32 pc, .int .u32 pl, .slice A code.length c, .int .i64 ct] 34)
  have b1 : Blk (w.alloc (.cells #[.int .u32 pc, .int .u32 pl, .slice A code.length c, .int .i64 ct] 34)) w.heap.size 34 #[.int .u32 pc, .int .u32 pl, .slice A code.length c, .int .i64 ct] := Blk.new _ _ _
  have Hc := Lib.hid (clone_any _ A code.length c B _ (hr.alloc hB (.cells #[.int .u32 pc, .int .u32 pl, .slice A code.length c, .int .i64 ct] 34)) (by simp; omega) oneCell_ints (by omega) hnn)
  have HCL := Lib.hid hn
  have hn1 : n ≤ 1000000 := by rw [← hn]; exact hcode.2.1
  rw [hn] at f1 b1 Hc hpos
  rw [hn]
  have HC := Lib.hid h
  have HF1 := Lib.hid f1
  have HB1 := Lib.hid b1
  have HK := Lib.hid hk
  have hct1 := hct.1
  have hd0 : decide (ct < 1) = false := by simp; omega
  have hd1 : ((n : Int) == 0) = false := by simp; omega
  have hd2 : decide ((n : Int) = 0) = false := by simp; omega
  have hgl0 := h.b.lt
  clear h f1 b1 hr hk hnn hcode hn
  go_enter Try.func11, Try.ntmps11
  go_wp2_with fail
  refine (Hc.out).mono ?_
  rintro e w2 ⟨A', c', rfl, hown, f2⟩
  have hsz1 : (w.alloc (.cells #[.int .u32 pc, .int .u32 pl, .slice A n c, .int .i64 ct] 34)).heap.size = w.heap.size + 1 := by simp
  have b2 := HB1.out.fr f2 (fun e => e)
  have HNA : Hid (∀ q, ab A' = some q → w.heap.size ≤ q) := Lib.hid (fun q e => by
    have := own_base hown q (by
      cases A' with
      | none => cases e
      | some a => simpa [Value.ownBlock, ab] using e)
    omega)
  have HNG : Hid (∀ q, ab A' = some q → q ≠ w.heap.size) := Lib.hid (fun q e e2 => by
    have := own_base hown q (by
      cases A' with
      | none => cases e
      | some a => simpa [Value.ownBlock, ab] using e)
    omega)
  have b3 := b2.set_ 2 (.slice A' n c')
  have f3 : Fr (fun q => q = w.heap.size) w2 (w2.setCell ⟨w.heap.size, 2, none⟩ (.slice A' n c')) := Fr.set1 _ _ _ _
  have hcn2 : CodeOk w2 ⟨pc, pl, code, ct, A', c'⟩ := by
    show w2.ownsRow 0 5 1 (.slice A' code.length c') code.length _
    rw [HCL.out]
    exact own_low hown (Nat.zero_le _)
  have HCN3 := Lib.hid (CodeOk.fr (b := ⟨pc, pl, code, ct, A', c'⟩) hcn2 f3 (fun q hq e => HNG.out q hq e))
  have fw3 : Fr (fun _ => False) w (w2.setCell ⟨w.heap.size, 2, none⟩ (.slice A' n c')) := (HF1.out.tr f2).trans f3 (fun q hq e => by omega)
  have HF3 := Lib.hid fw3
  have HC3 := Lib.hid (HC.out.fr0 fw3)
  have HB3 := Lib.hid b3
  have x0 := b2.cell 0
  have x1 := b2.cell 1
  have x2 := b2.cell 2
  have y2 := b2.frozen 2
  have hgb2 := b2.lt
  have Hp : Hid (Calls Try.prog 26 #[.pointer (some ⟨g, 0, none⟩), .agg #[.int .u32 pc, .int .u32 pl]] (w2.setCell ⟨w.heap.size, 2, none⟩ (.slice A' n c')) fun e w' => e = .returned (.int .i64 (idx (pc, pl) s.bl)) ∧ Fr (fun _ => False) (w2.setCell ⟨w.heap.size, 2, none⟩ (.slice A' n c')) w') := Lib.hid (place_any _ g s HC3.out (pc, pl))
  obtain ⟨i, hi⟩ : ∃ i, idx (pc, pl) s.bl = i := ⟨_, rfl⟩
  rw [hi] at Hp
  have HI := Lib.hid hi
  clear hi b2 b3 f3 fw3 f2 hown hcn2 Hc
  go_wp2_with fail
  refine (Hp.out).mono ?_
  rintro e w4 ⟨rfl, f4⟩
  have HF4 := Lib.hid (HF3.out.tr f4)
  have h4 := HC3.out.fr0 f4
  have b4 := HB3.out.fr f4 (fun e => e)
  have HCN4 := Lib.hid (CodeOk.fr (b := ⟨pc, pl, code, ct, A', c'⟩) HCN3.out f4 (fun _ _ e => e))
  have hroom := HC.out.ok.room
  have hlen := HC.out.ok.len
  clear f4 Hp x0 x1 x2 y2
  by_cases hi0 : 0 ≤ i
  · have hd3 : decide (0 ≤ i) = true := by simpa using hi0
    obtain ⟨m, rfl⟩ : ∃ m : Nat, i = m := ⟨i.toNat, by omega⟩
    obtain ⟨hm1, hm2⟩ := idx_spec _ _ _ HI.out
    have Hu : Hid (Calls Try.prog 27 #[.pointer (some ⟨g, 0, none⟩), .agg #[.int .u32 pc, .int .u32 pl]] w4 fun e w' => e = .returned (.tuple #[]) ∧ Cch w' g (s.unlink (pc, pl)) ∧ Fr (fun q => q = s.gm ∨ ∃ p ∈ s.E, ab p.2.A = some q) w4 w') := Lib.hid (unlink_any w4 g s h4 (pc, pl) HK.out)
    have u0 := b4.cell 0
    have u1 := b4.cell 1
    have HB4 := Lib.hid b4
    have H4 := Lib.hid h4
    clear b4 h4
    go_wp2_with fail
    refine (Hu.out).mono ?_
    rintro e w5 ⟨rfl, h5, f5⟩
    clear u0 u1
    have hlow : Hid (∀ q, (q = s.gm ∨ ∃ p ∈ s.E, ab p.2.A = some q) → q < w.heap.size) := Lib.hid (fun q e => by
      rcases e with rfl | ⟨p, hp, e⟩
      · obtain ⟨_, _, hm⟩ := HC.out.m
        exact hm.bound
      · exact (HC.out.rows p hp).low e)
    have b5 := HB4.out.fr f5 (fun e => by have := hlow.out _ e; omega)
    have hcn5 := CodeOk.fr (b := ⟨pc, pl, code, ct, A', c'⟩) HCN4.out f5 (fun q hq e => by have := hlow.out _ e; have := HNA.out q hq; omega)
    have hc1 : w5.cell? ⟨g, 1, none⟩ = some (.slice s.A s.bl.length s.c) := h5.cells.2.1
    rcases h5.r with ⟨e1, _⟩ | ⟨gl, hA, hrow, hcm⟩
    · exact absurd e1 (by show s.bl ≠ []; intro e1; rw [e1] at hm1; simp at hm1)
    · have hA : s.A = some ⟨gl, 0, none⟩ := hA
      have hrow : Row_b w5 gl s.c s.bl.length (nthB s.bl) := hrow
      have hC5 := Lib.hid (Cch.setB (w := w5.drew) (b := ⟨pc, pl, code, ct, A', c'⟩) (h5.fr0 ((Fr.refl _ w5).drew)) HC.out.ok (HBO.out A' c') HI.out (CodeOk.fr (b := ⟨pc, pl, code, ct, A', c'⟩) hcn5 ((Fr.refl (fun _ => False) w5).drew) (fun _ _ e => e)) hA)
      obtain ⟨F, g1, g2, g3⟩ := hrow
      have e0 := g1.cell (m * 4) (by omega)
      have e1 := g1.cell (m * 4 + 1) (by omega)
      have e2 := g1.cell (m * 4 + 2) (by omega)
      have e3 := g1.cell (m * 4 + 3) (by omega)
      have y0 := g1.frozen (m * 4)
      have y1 := g1.frozen (m * 4 + 1)
      have y2 := g1.frozen (m * 4 + 2)
      have y3 := g1.frozen (m * 4 + 3)
      have hgl := g1.lt
      have x0 := b5.cell 0
      have x1 := b5.cell 1
      have x2 := b5.cell 2
      have x3 := b5.cell 3
      have HF5 := Lib.hid f5
      have HSA := Lib.hid hA
      rw [hA] at hc1
      obtain ⟨sn, hsn⟩ : ∃ q, s.bl.length = q := ⟨_, rfl⟩
      rw [hsn] at hc1 hm1
      have hm3 : (m : Int) < (sn : Int) := by omega
      have hm4 : (0 : Int) ≤ (m : Int) := by omega
      clear g1 g2 g3 b5 hcn5 h5 f5 hm2 hA hsn
      generalize F (m * 4) = F0 at *
      generalize F (m * 4 + 1) = F1 at *
      generalize F (m * 4 + 2) = F2 at *
      generalize F (m * 4 + 3) = F3 at *
      go_upto_region 7 with (fail)
      go_still_tail 7, (by kernel_rfl)
      change wpList _ _ _ _ _ w5.drew
      go_wp2_with fail
      go_ret
      have hp : ∀ A2 c2 gm2, s.put ⟨pc, pl, code, ct, A', c'⟩ A2 c2 gm2 = s.set ⟨pc, pl, code, ct, A', c'⟩ := fun A2 c2 gm2 => by
        unfold Cs.put
        rw [if_pos (by show 0 ≤ idx (pc, pl) s.bl; rw [HI.out]; omega)]
      refine ⟨A', c', none, 0, 0, rfl, by rw [hp]; have := hC5.out; unfold wr4 at this; rw [show (Bk.mk pc pl code ct A' c').code.length = n from HCL.out] at this; exact this, ?_, ?_⟩
      · have fw : Fr (s.wr g) w5.drew _ := wr4_fr w5.drew gl m ⟨pc, pl, code, ct, A', c'⟩ (.inr (.inl (by rw [HSA.out]; rfl)))
        unfold wr4 at fw
        rw [show (Bk.mk pc pl code ct A' c').code.length = n from HCL.out] at fw
        exact ((((HF4.out.mono (S' := s.wr g) (fun _ _ e => e.elim)).tr (HF5.out.mono (fun q _ e => .inr (.inr e)))).drew).tr fw)
      · rw [hp]
        intro q hq
        rcases hq with (e | e | e | ⟨p, hp, e⟩) | ⟨x, hx, e⟩
        · exact .inl (.inl (.inl e))
        · exact .inl (.inl (.inr (.inl e)))
        · exact .inl (.inl (.inr (.inr (.inl e))))
        · obtain ⟨p', hp', rfl⟩ := List.mem_map.1 hp
          exact .inl (.inl (.inr (.inr (.inr ⟨p', (List.mem_filter.1 hp').1, e⟩))))
        · rcases List.mem_or_eq_of_mem_set hx with hx | hx
          · exact .inl (.inr ⟨x, hx, e⟩)
          · rw [hx] at e
            exact .inr (HNA.out q e)
  · have hd3 : decide (0 ≤ i) = false := by simpa using hi0
    have hneg : i < 0 := by omega
    have HI4 : Hid (idx (Bk.k ⟨pc, pl, code, ct, A', c'⟩) s.bl < 0) := Lib.hid (by show idx (pc, pl) s.bl < 0; rw [HI.out]; exact hneg)
    have hcl4 := h4.cells
    have cr0 := hcl4.1
    have cr1 := hcl4.2.1
    have hg4 := h4.b.lt
    clear hcl4
    by_cases hge : s.room ≤ (s.bl.length : Int)
    · have hd4 : decide (s.room ≤ (s.bl.length : Int)) = true := by simpa using hge
      go_upto_region 9 with (fail)
      go_quiet (fail)
      generalize hwq : w4.drewN _ = wq
      have fq : Fr (fun _ => False) w4 wq := by rw [← hwq]; exact (Fr.refl _ w4).drewN _
      have HFq := Lib.hid (HF4.out.tr fq)
      have HCNq := Lib.hid (CodeOk.fr (b := ⟨pc, pl, code, ct, A', c'⟩) HCN4.out fq (fun _ _ e => e))
      have hq := h4.fr0 fq
      have Hf := Lib.hid (flush_any wq g s hq hfl)
      have HBq := Lib.hid (b4.fr fq (fun e => e))
      clear hwq h4 b4 HF4 HCN4 cr0 cr1 fq hq
      go_wp2_with fail
      refine (Hf.out).mono ?_
      rintro e w5 ⟨gm, rfl, h5, hgm1, hgm2, f5⟩
      have hlt5 : ((s.flush gm).bl.length : Int) < s.room := by show ((0 : Nat) : Int) < s.room; omega
      have hbg : w.heap.size ≠ g := by omega
      have b5 := HBq.out.fr f5 (fun e => hbg e)
      have hnag : Hid (∀ q, ab A' = some q → q ≠ g) := Lib.hid (fun q e e2 => by have := HNA.out q e; omega)
      have HCN5 := Lib.hid (CodeOk.fr (b := ⟨pc, pl, code, ct, A', c'⟩) HCNq.out f5 (fun q hq e => hnag.out q hq e))
      have HF5 := Lib.hid f5
      have HGM := Lib.hid hgm1
      clear f5 hgm2
      obtain ⟨bb, hbb⟩ : ∃ bb : Bk, bb = ⟨pc, pl, code, ct, A', c'⟩ := ⟨_, rfl⟩
      have hcells := h5.cells
      have c0 := hcells.1
      have c1 := hcells.2.1
      clear hcells
      have z1 := h5.b.frozen 1
      have hgl := h5.b.lt
      have hown := h5.r.own
      have hblen := hlt5
      obtain ⟨sn, hsn⟩ : ∃ q, (s.flush gm).bl.length = q := ⟨_, rfl⟩
      obtain ⟨sA, hsA⟩ : ∃ q, (s.flush gm).A = q := ⟨_, rfl⟩
      obtain ⟨sc, hsc⟩ : ∃ q, (s.flush gm).c = q := ⟨_, rfl⟩
      rw [hsn, hsA, hsc] at c1 hown
      rw [hsn] at hblen
      have HSN := Lib.hid hsn
      have HSA := Lib.hid hsA
      have HSC := Lib.hid hsc
      clear hsn hsA hsc
      have OWN : Hid ((w5.alloc (.cells #[.int .u32 pc, .int .u32 pl, .slice A' n c', .int .i64 ct] 34)).drew.ownsRow 0 34 4 (.slice sA sn sc) sn (bcells (s.flush gm).bl)) := Lib.hid (hown.alloc _)
      have HRD : Hid (Reads (w5.alloc (.cells #[.int .u32 pc, .int .u32 pl, .slice A' n c', .int .i64 ct] 34)).drew (w5.heap.size + 1) 4 (some ⟨w5.heap.size, 0, none⟩) 1 [.int .u32 pc, .int .u32 pl, .slice A' n c', .int .i64 ct]) := Lib.hid (by
        have := reads_blk (size := 4) (n := 1) (Blk.new w5 34 #[.int .u32 pc, .int .u32 pl, .slice A' n c', .int .i64 ct]) rfl
        exact this)
      have H5 := Lib.hid h5
      have kb0 := Lib.hid (((h5.b).alloc (.cells #[.int .u32 pc, .int .u32 pl, .slice A' n c', .int .i64 ct] 34)).drew)
      have hne : Hid (∀ k, (Value.slice sA sn sc).ownBlock = some k → ab (s.flush gm).A = some k) := Lib.hid (fun k e => by
        rw [HSA.out]
        cases sA with
        | none => simp [Value.ownBlock] at e
        | some a => simpa [Value.ownBlock, ab] using e)
      have hngb : Hid ((Value.slice sA sn sc).ownBlock ≠ some g) := Lib.hid (fun e => by
        have h1 := hne.out g e
        have t := H5.out.srt
        have := t.2.2.1 g h1
        rw [t.1] at this
        simp at this)
      have d0 := b5.cell 0
      have d1 := b5.cell 1
      have d2 := b5.cell 2
      have d3 := b5.cell 3
      clear hown h5 c0
      go_upto_region 11 with (fail)
      go_region_law (
        refine step_append_any _ rfl (.tmp 52) (.tmp 54) 58 rfl 0 34 i0 _ 4 40 Try.underlying58 hin hz0 hz1 hz2 rfl (by omega) (.slice sA sn sc) sn _ (by simp [Act.eval, Act.put]) OWN.out (w5.heap.size + 1) (some ⟨w5.heap.size, 0, none⟩) 1 1 [.int .u32 pc, .int .u32 pl, .slice A' n c', .int .i64 ct] (by simp [Act.eval, Act.put]) HRD.out (by simp [Value.oneCell']) (by simp only [maxLen]; omega) (by omega) (Nat.zero_le _) ?_
        intro v1 w6 hown1 hg1 hat1
        obtain ⟨A2, c2, hv1⟩ := slice_form hown1
        subst hv1
        have kb := kb0.out.grown hg1 hngb.out.symm
        have k1 : w6.cell? ⟨g, 1, none⟩ = some (.slice (s.flush gm).A (s.flush gm).bl.length (s.flush gm).c) := kb.cell 1
        have y1 := kb.frozen 1)
      all_goals
        have HO := Lib.hid hown1
        have HG := Lib.hid hg1
        have HAT := Lib.hid hat1
        clear hown1 hg1 hat1
        go_wp2_with fail
        go_ret
        subst hbb
        have f6 : Fr (fun q => ab (s.flush gm).A = some q) w5 w6 := ((((Fr.refl _ w5).alloc _).drew).grown HG.out (fun k e => .inl (hne.out k e)))
        have ho6 : w6.ownsRow 0 34 4 (.slice A2 ((s.flush gm).bl.length + 1) c2) ((s.flush gm).bl.length + 1) (bcells ((s.flush gm).bl ++ [⟨pc, pl, code, ct, A', c'⟩])) := by
          rw [bcells_snoc, HSN.out]
          have := HO.out
          rw [← HCL.out] at this
          exact this
        have hcn : CodeOk w6 ⟨pc, pl, code, ct, A', c'⟩ := CodeOk.fr (b := ⟨pc, pl, code, ct, A', c'⟩) HCN5.out f6 (fun q hq e => by
          have := CodeOk.srt (b := ⟨pc, pl, code, ct, A', c'⟩) HCN5.out hq
          rw [H5.out.srt.2.2.1 q e] at this
          simp at this)
        have hC := Cch.snocB (b := ⟨pc, pl, code, ct, A', c'⟩) H5.out (HBO.out A' c') (by show (-1 : Int) < 0; omega) (by rw [HSN.out]; exact hblen) f6 hcn ho6
        rw [HSN.out] at hC
        have hp : s.put ⟨pc, pl, code, ct, A', c'⟩ A2 c2 gm = (s.flush gm).snoc ⟨pc, pl, code, ct, A', c'⟩ A2 c2 := by unfold Cs.put; rw [if_neg (by have := HI4.out; omega), if_pos hge]
        refine ⟨A', c', A2, c2, gm, rfl, by rw [hp]; exact hC, ?_, ?_⟩
        · exact (((HFq.out.mono (S' := s.wr g) (fun _ _ e => e.elim)).tr (HF5.out.mono (fun q _ e => .inl e))).trans (S' := fun q => ab (s.flush gm).A = some q ∨ q = g) ((f6.mono (fun q _ e => .inl e)).setCell (p := ⟨g, 1, none⟩) (.inl (.inr rfl)) _) (fun q hq e => by
            rcases e with e | e
            · exact absurd e (by show ab none ≠ some q; simp [ab])
            · exact .inl e))
        · rw [hp]
          intro q hq
          have hA2 : ab A2 = some q → s.own g q ∨ w.heap.size ≤ q := fun e => by
            rcases HAT.out with e2 | e2
            · have : (Value.slice A2 (sn + 1) c2).ownBlock = some q := by
                cases A2 with
                | none => cases e
                | some a => simpa [Value.ownBlock, ab] using e
              rw [this] at e2
              have := hne.out q e2.symm
              exact absurd this (by show ab none ≠ some q; simp [ab])
            · right
              have : (Value.slice A2 (sn + 1) c2).ownBlock = some q := by
                cases A2 with
                | none => cases e
                | some a => simpa [Value.ownBlock, ab] using e
              rw [this] at e2
              injection e2 with e2
              have h1 : w5.heap.size + 1 = q ∨ w5.heap.size ≤ q := by right; rw [e2]; simp
              have := ((HFq.out.mono (S' := s.wr g) (fun _ _ e => e.elim)).tr (HF5.out.mono (fun q _ e => .inl e))).size
              omega
          rcases hq with (e | e | e | ⟨p, hp, e⟩) | ⟨x, hx, e⟩
          · exact .inl (.inl (.inl e))
          · exact hA2 e
          · right; have e : q = gm := e; have := HGM.out; have := HFq.out.size; omega
          · exact absurd hp (by show p ∉ []; simp)
          · rcases List.mem_append.1 hx with hx | hx
            · exact absurd hx (by show x ∉ []; simp)
            · right
              rw [List.mem_singleton.1 hx] at e
              exact HNA.out q e
    · have hd4 : decide (s.room ≤ (s.bl.length : Int)) = false := by simpa using hge
      have hlt : (s.bl.length : Int) < s.room := by omega
      go_upto_region 9 with (fail)
      go_quiet (fail)
      generalize hwq : w4.drewN _ = wq
      have fq : Fr (fun _ => False) w4 wq := by rw [← hwq]; exact (Fr.refl _ w4).drewN _
      have HFq := Lib.hid (HF4.out.tr fq)
      have HCNq := Lib.hid (CodeOk.fr (b := ⟨pc, pl, code, ct, A', c'⟩) HCN4.out fq (fun _ _ e => e))
      have hq := h4.fr0 fq
      have bq := b4.fr fq (fun e => e)
      clear hwq h4 b4 HF4 HCN4 cr0 cr1 fq
      obtain ⟨bb, hbb⟩ : ∃ bb : Bk, bb = ⟨pc, pl, code, ct, A', c'⟩ := ⟨_, rfl⟩
      have hcells := hq.cells
      have c0 := hcells.1
      have c1 := hcells.2.1
      clear hcells
      have z1 := hq.b.frozen 1
      have hgl := hq.b.lt
      have hown := hq.r.own
      have hblen := hlt
      obtain ⟨sn, hsn⟩ : ∃ q, s.bl.length = q := ⟨_, rfl⟩
      obtain ⟨sA, hsA⟩ : ∃ q, s.A = q := ⟨_, rfl⟩
      obtain ⟨sc, hsc⟩ : ∃ q, s.c = q := ⟨_, rfl⟩
      rw [hsn, hsA, hsc] at c1 hown
      rw [hsn] at hblen
      have HSN := Lib.hid hsn
      have HSA := Lib.hid hsA
      have HSC := Lib.hid hsc
      clear hsn hsA hsc
      have OWN : Hid ((wq.alloc (.cells #[.int .u32 pc, .int .u32 pl, .slice A' n c', .int .i64 ct] 34)).drew.ownsRow 0 34 4 (.slice sA sn sc) sn (bcells s.bl)) := Lib.hid (hown.alloc _)
      have HRD : Hid (Reads (wq.alloc (.cells #[.int .u32 pc, .int .u32 pl, .slice A' n c', .int .i64 ct] 34)).drew (wq.heap.size + 1) 4 (some ⟨wq.heap.size, 0, none⟩) 1 [.int .u32 pc, .int .u32 pl, .slice A' n c', .int .i64 ct]) := Lib.hid (by
        have := reads_blk (size := 4) (n := 1) (Blk.new wq 34 #[.int .u32 pc, .int .u32 pl, .slice A' n c', .int .i64 ct]) rfl
        exact this)
      have H5 := Lib.hid hq
      have kb0 := Lib.hid (((hq.b).alloc (.cells #[.int .u32 pc, .int .u32 pl, .slice A' n c', .int .i64 ct] 34)).drew)
      have hne : Hid (∀ k, (Value.slice sA sn sc).ownBlock = some k → ab s.A = some k) := Lib.hid (fun k e => by
        rw [HSA.out]
        cases sA with
        | none => simp [Value.ownBlock] at e
        | some a => simpa [Value.ownBlock, ab] using e)
      have hngb : Hid ((Value.slice sA sn sc).ownBlock ≠ some g) := Lib.hid (fun e => by
        have h1 := hne.out g e
        have t := H5.out.srt
        have := t.2.2.1 g h1
        rw [t.1] at this
        simp at this)
      have d0 := bq.cell 0
      have d1 := bq.cell 1
      have d2 := bq.cell 2
      have d3 := bq.cell 3
      clear hown hq c0
      go_upto_region 11 with (fail)
      go_region_law (
        refine step_append_any _ rfl (.tmp 52) (.tmp 54) 58 rfl 0 34 i0 _ 4 40 Try.underlying58 hin hz0 hz1 hz2 rfl (by omega) (.slice sA sn sc) sn _ (by simp [Act.eval, Act.put]) OWN.out (wq.heap.size + 1) (some ⟨wq.heap.size, 0, none⟩) 1 1 [.int .u32 pc, .int .u32 pl, .slice A' n c', .int .i64 ct] (by simp [Act.eval, Act.put]) HRD.out (by simp [Value.oneCell']) (by simp only [maxLen]; omega) (by omega) (Nat.zero_le _) ?_
        intro v1 w6 hown1 hg1 hat1
        obtain ⟨A2, c2, hv1⟩ := slice_form hown1
        subst hv1
        have kb := kb0.out.grown hg1 hngb.out.symm
        have k1 : w6.cell? ⟨g, 1, none⟩ = some (.slice s.A s.bl.length s.c) := kb.cell 1
        have y1 := kb.frozen 1)
      all_goals
        have HO := Lib.hid hown1
        have HG := Lib.hid hg1
        have HAT := Lib.hid hat1
        clear hown1 hg1 hat1
        go_wp2_with fail
        go_ret
        subst hbb
        have f6 : Fr (fun q => ab s.A = some q) wq w6 := ((((Fr.refl _ wq).alloc _).drew).grown HG.out (fun k e => .inl (hne.out k e)))
        have ho6 : w6.ownsRow 0 34 4 (.slice A2 (s.bl.length + 1) c2) (s.bl.length + 1) (bcells (s.bl ++ [⟨pc, pl, code, ct, A', c'⟩])) := by
          rw [bcells_snoc, HSN.out]
          have := HO.out
          rw [← HCL.out] at this
          exact this
        have hcn : CodeOk w6 ⟨pc, pl, code, ct, A', c'⟩ := CodeOk.fr (b := ⟨pc, pl, code, ct, A', c'⟩) HCNq.out f6 (fun q hq e => by
          have := CodeOk.srt (b := ⟨pc, pl, code, ct, A', c'⟩) HCNq.out hq
          rw [H5.out.srt.2.2.1 q e] at this
          simp at this)
        have hC := Cch.snocB (b := ⟨pc, pl, code, ct, A', c'⟩) H5.out (HBO.out A' c') HI4.out (by rw [HSN.out]; exact hblen) f6 hcn ho6
        rw [HSN.out] at hC
        have hp : s.put ⟨pc, pl, code, ct, A', c'⟩ A2 c2 0 = s.snoc ⟨pc, pl, code, ct, A', c'⟩ A2 c2 := by unfold Cs.put; rw [if_neg (by have := HI4.out; omega), if_neg (by have := HSN.out; omega)]
        refine ⟨A', c', A2, c2, 0, rfl, by rw [hp]; exact hC, ?_, ?_⟩
        · exact ((HFq.out.mono (S' := s.wr g) (fun _ _ e => e.elim)).trans (S' := fun q => ab s.A = some q ∨ q = g) ((f6.mono (fun q _ e => .inl e)).setCell (p := ⟨g, 1, none⟩) (.inl (.inr rfl)) _) (fun q hq e => by
            rcases e with e | e
            · exact .inr (.inl e)
            · exact .inl e))
        · rw [hp]
          intro q hq
          have hA2 : ab A2 = some q → s.own g q ∨ w.heap.size ≤ q := fun e => by
            rcases HAT.out with e2 | e2
            · have : (Value.slice A2 (sn + 1) c2).ownBlock = some q := by
                cases A2 with
                | none => cases e
                | some a => simpa [Value.ownBlock, ab] using e
              rw [this] at e2
              have := hne.out q e2.symm
              exact .inl (.inl (.inr (.inl this)))
            · right
              have : (Value.slice A2 (sn + 1) c2).ownBlock = some q := by
                cases A2 with
                | none => cases e
                | some a => simpa [Value.ownBlock, ab] using e
              rw [this] at e2
              injection e2 with e2
              have h1 : wq.heap.size + 1 = q ∨ wq.heap.size ≤ q := by right; rw [e2]; simp
              have := (HFq.out.mono (S' := s.wr g) (fun _ _ e => e.elim)).size
              omega
          rcases hq with (e | e | e | ⟨p, hp, e⟩) | ⟨x, hx, e⟩
          · exact .inl (.inl (.inl e))
          · exact hA2 e
          · exact .inl (.inl (.inr (.inr (.inl e))))
          · exact .inl (.inl (.inr (.inr (.inr ⟨p, hp, e⟩))))
          · rcases List.mem_append.1 hx with hx | hx
            · exact .inl (.inr ⟨x, hx, e⟩)
            · right
              rw [List.mem_singleton.1 hx] at e
              exact HNA.out q e
end Go.Proofs.Ytfjlgdafakbdoaa.Ca
