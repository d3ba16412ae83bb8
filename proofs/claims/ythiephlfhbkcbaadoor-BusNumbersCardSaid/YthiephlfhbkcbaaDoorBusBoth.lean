/- A bus, and the document's (innkeeperlaw15.both); some of chapter 15's runs (known). -/
import Derived.Test.YthiephlfhbkcbaaDoorBusB
import Derived.Test.YthiephlfhbkcbaaDoorMemory15
import Derived.Test.YthiephlfhbkcbaaDoorRef15
namespace Go.Proofs.YthiephlfhbkcbaaDoor.Bs
open Go.RowKit Fm Nt Rm By Dr Rf
set_option linter.unusedVariables false
set_option maxHeartbeats 8000000

/-- where the document's parts lie -/
structure Rr where
  gR : Nat
  gk : Nat
  gM : Nat
  gb : Nat
  gt : Nat
def Rr.its (r : Rr) (k : Nat) : Prop := k = r.gR ∨ k = r.gk ∨ k = r.gM ∨ k = r.gb ∨ k = r.gt
/-- a slice that reads as zs, and lies elsewhere -/
def RowAt (w : World) (r : Rr) (v : Value) (zs : List Int) : Prop := ∃ A n c, v = .slice A n c ∧ IntsAt .u8 w w.heap.size A n zs ∧ n ≤ c ∧ n ≤ 1000000 ∧ (0 < n → ∀ b off, A = some ⟨b, off, none⟩ → ¬ r.its b)
def docCells (r : Rr) (s : Sb) (vo vi : Value) : Array Value := #[.pointer (some ⟨r.gM, 0, none⟩), .int .u32 (s.p : Int), .int .u32 (s.m : Int), .int .u32 s.tm, vo, vi, .slice (some ⟨r.gk, 0, none⟩) 1024 1024, .int .u32 s.sec, .int .u32 s.pl, .int .u32 s.st]
/-- the document's bus holds the same -/
structure Doc (w : World) (r : Rr) (s : Sb) : Prop where
  B : BS w r.gR r.gk r.gM r.gb r.gt s.ms.n s.ms.mem s.ms.tu s.d
  b : ∃ vo vi, Blk w r.gR 83 (docCells r s vo vi) ∧ RowAt w r vo s.outs ∧ RowAt w r vi s.ins
theorem Doc.fr0 {w w' : World} {r : Rr} {s : Sb} (h : Doc w r s) (f : Fr (fun _ => False) w w') : Doc w' r s := by
  obtain ⟨vo, vi, h1, ⟨A, n, c, e1, h2, h3⟩, ⟨A', n', c', e2, h4, h5⟩⟩ := h.b
  exact ⟨h.B.fr0 f, vo, vi, h1.fr f (fun e => e), ⟨A, n, c, e1, (h2.fr f (Nat.le_refl _) (fun _ _ e => e)).more f.size, h3⟩, ⟨A', n', c', e2, (h4.fr f (Nat.le_refl _) (fun _ _ e => e)).more f.size, h5⟩⟩
/-- a bus and the document's -/
def Both15 (w : World) (yl zl : List Int) (e : Ending) (w' : World) : Prop :=
  ∃ (a : Ab) (F : Nat → Prop) (r : Rr), e = .returned (.tuple #[.pointer (some ⟨a.gB, 0, none⟩), .pointer (some ⟨r.gR, 0, none⟩), .pointer (some ⟨a.am.gm, 0, none⟩)]) ∧ Bus w' F a (Sb.new (Ms.init 4 yl) zl) ∧ Doc w' r (Sb.new (Ms.init 4 yl) zl) ∧
    (∀ k, a.wr F k ∨ k = a.gd → w.heap.size ≤ k) ∧ (∀ k, r.its k → w.heap.size ≤ k) ∧ (∀ k, a.wr F k ∨ k = a.gd → ¬ r.its k) ∧ Fr (fun _ => False) w w'
set_option maxRecDepth 100000 in
theorem both15 (w : World) (A : Option Addr) (len cap : Nat) (zl : List Int) (hz : IntsAt .u8 w w.heap.size A len zl) (hl : len ≤ 1024) (A2 : Option Addr) (len2 cap2 : Nat) (yl : List Int) (hy : IntsAt .u8 w w.heap.size A2 len2 yl) (hl2 : len2 ≤ 256) :
    Calls Tryd.prog 7 #[.slice A len cap, .slice A2 len2 cap2] w (Both15 w yl zl) := by
  have Hm := Lib.hid (memory15 w A2 len2 cap2 4 yl hy (by omega) (by omega) (by omega))
  have hsz := szU
  have HZ := Lib.hid hz
  have HY := Lib.hid hy
  have hly := Lib.hid hy.1
  clear hz hy
  go_enter Tryd.func7, Tryd.ntmps7
  go_wp2_with fail
  refine (Hm.out).mono ?_
  rintro e w1 ⟨am, rfl, hM, hba, f1⟩
  have hown := hM.lt
  go_wp2_with fail
  refine (Bs.new_any w1 am (Ms.init 4 yl) hM (fun _ _ _ => rfl) A len cap zl ((HZ.out.fr f1 (Nat.le_refl _) (fun _ _ e => e)).more f1.size) hl).mono ?_
  rintro e w2 ⟨a, F, rfl, rfl, hB, hbl, f2⟩
  have fr2 := f1.tr f2
  have hblt := hB.lt
  go_wp2_with fail
  refine (Rf.new_any w2 4 (by omega)).mono ?_
  rintro e w3 ⟨gM, gb, gt, rfl, hR, hgM, hgb, hgt, f3⟩
  have hB3 := hB.fr0 f3
  have fr3 := fr2.tr f3
  have c0 : w3.cell? ⟨gM, 0, none⟩ = some (.slice (some ⟨gb, 0, none⟩) 256 256) := hR.b.cell 0
  have hcb : Cells w3 gb 5 256 (fun k => .int .u8 ((fun _ => 0 : Nat → Int) k)) := hR.cb
  have hbt := hR.nbt
  have hMb := hR.nMb
  have Hcb := Lib.hid hcb
  have HR := Lib.hid hR
  have Hbl := Lib.hid hbl
  have Hba := Lib.hid hba
  have Hblt := Lib.hid hblt
  have HB3 := Lib.hid hB3
  have HF3 := Lib.hid fr3
  have hs1 := f1.size
  have hs2 := f2.size
  have hs3 := f3.size
  clear hcb hR hown hba hM hB hB3 fr2 fr3 f1 f2 f3 hbl hblt
  go_wp2_with
    (refine wpList_copy_cells rfl (.tmp 27) (.tmp 28) 24 24 rfl 5 Tryd.underlying24 hsz gb 0 256 256 A2 len2 cap2 rfl rfl 5 256 _ Hcb.out .u8 w.heap.size len2 yl (by omega) (HY.out.fr HF3.out (Nat.le_refl _) (fun _ _ e => e)) (by omega) ?_
     intro w4 hc4 f4)
  have hB4 := HB3.out.fr f4 (fun k hk e => by have := Hblt.out k hk; omega)
  have fr4 := HF3.out.trans (S := fun _ => False) f4 (fun i hi e => by omega)
  have hR4 : RM w4 gM gb gt 4 (Ms.init 4 yl).mem (Ms.init 4 yl).tu := by
    refine ⟨HR.out.b.fr f4 hMb, Cells.congr hc4 (fun i hi => ?_), HR.out.ct.fr f4 (fun e => hbt e.symm)⟩
    rw [init_mem 4 yl (by rw [hly.out]; omega)]
    unfold putR
    rw [List.length_map]
    by_cases h : i < yl.length
    · rw [if_pos (by omega), if_pos h, Nat.sub_zero]
      simp [List.getD_eq_getElem?_getD, h]
    · rw [if_neg (by omega), if_neg h]
  have Hbn := Lib.hid (bus_new w4 gM A len cap zl ((HZ.out.fr fr4 (Nat.le_refl _) (fun _ _ e => e)).more fr4.size) hl)
  have hs4 := f4.size
  have HR4 := Lib.hid hR4
  have HB4 := Lib.hid hB4
  have HF4 := Lib.hid fr4
  clear hc4 hR4 hB4 fr4 f4
  go_wp2_with fail
  refine (Hbn.out).mono ?_
  rintro e w5 ⟨gR, gk, rfl, hb5, hc5, hgk, hgR, f5⟩
  have HX : Hid (Both15 w yl zl (.returned (.tuple #[.pointer (some ⟨a.gB, 0, none⟩), .pointer (some ⟨gR, 0, none⟩), .pointer (some ⟨a.am.gm, 0, none⟩)])) w5) := Lib.hid (by
    have hR5 := HR4.out.fr0 f5
    have hl4 := HR4.out.lt
    have hnil : ∀ r, RowAt w5 r (.slice none 0 0) [] := fun r => ⟨none, 0, 0, rfl, intsAt_nil _ _ _ _, Nat.le_refl _, by omega, fun h => absurd h (by omega)⟩
    have hin : (Ms.init 4 yl).n = 4 := init_n 4 yl
    refine ⟨a, F, ⟨gR, gk, gM, gb, gt⟩, rfl, HB4.out.fr0 f5, ⟨⟨by show RM w5 gM gb gt (Ms.init 4 yl).n _ _; rw [hin]; exact hR5, ⟨_, hb5, rfl, rfl⟩, hc5, by show gk ≠ gb; omega⟩, _, _, hb5, hnil _, hnil _⟩, fun k hk => ?_, fun k hk => ?_, fun k hk e => ?_, HF4.out.tr f5⟩
    · rcases Hbl.out k hk with e | e
      · omega
      · exact Hba.out k e
    · rcases hk with e | e | e | e | e
      · have e : k = gR := e; omega
      · have e : k = gk := e; omega
      · have e : k = gM := e; omega
      · have e : k = gb := e; omega
      · have e : k = gt := e; omega
    · have := Hblt.out k hk
      rcases e with e | e | e | e | e
      · have e : k = gR := e; omega
      · have e : k = gk := e; omega
      · have e : k = gM := e; omega
      · have e : k = gb := e; omega
      · have e : k = gt := e; omega)
  clear hb5 hc5
  go_wp2_with fail
  go_ret3
  exact HX.out

theorem output_ints (w : World) (F : Nat → Prop) (a : Ab) (s : Sb) (h : Bus w F a s) (hlo : s.outs.length ≤ 1000000) :
    Calls Tryd.prog 18 #[.pointer (some ⟨a.gk, 0, none⟩)] w fun e w' => ∃ A n c, e = .returned (.slice A n c) ∧ n = s.outs.length ∧ IntsAt .u8 w' w'.heap.size A n s.outs ∧ n ≤ c ∧ (∀ b off, A = some ⟨b, off, none⟩ → w.heap.size ≤ b) ∧ Fr (fun _ => False) w w' := by
  refine (Co.output_any w 0 a.gk F s.outs s.ins h.k (by omega) 0 (Nat.zero_le _)).mono ?_
  rintro e w' ⟨v, rfl, ho, f, hk⟩
  obtain ⟨A, c, rfl⟩ := Co.own_any ho
  refine ⟨A, s.outs.length, c, rfl, rfl, Bk.own_ints ho (fun z hz => wf_u8_mk (n := z) (h.ok.outs z hz).1 (by have := (h.ok.outs z hz).2; omega)), ?_, fun b off e => ?_, f⟩
  · rcases ho.2 with ⟨hv, he⟩ | ⟨g', cap, cur, hv, _, _, hnc, _⟩
    · injection hv with h1 h2 h3; omega
    · injection hv with h1 h2 h3; omega
  · rcases ho.2 with ⟨hv, _⟩ | ⟨g', cap, cur, hv, _⟩
    · injection hv with h1; rw [h1] at e; cases e
    · have := hk g' (by rw [hv]; rfl)
      injection hv with h1
      rw [h1] at e
      injection e with e
      injection e with e1
      omega
theorem lit7 (w : World) : IntsAt .u8 (w.alloc (.cells #[.int .u8 7] 5)) (w.heap.size + 1) (some ⟨w.heap.size, 0, none⟩) 1 [7] :=
  intsAt_lit [7] (Blk.new _ _ _) (fun i hi => by
    have : i = 0 := by simpa using hi
    subst this
    exact wf_u8_mk (n := 7) (by omega) (by omega))
set_option maxRecDepth 100000 in
theorem known15 (w : World) : Calls Tryd.prog 22 #[] w fun e w' => e = .returned (.bool true) ∧ Fr (fun _ => False) w w' := by
  go_enter Tryd.func22, Tryd.ntmps22
  go_wp2_with fail
  refine (both15 w none 0 0 [] (intsAt_nil _ _ _ _) (by omega) none 0 0 [] (intsAt_nil _ _ _ _) (by omega)).mono ?_
  rintro e w1 ⟨a, F, r, rfl, hB, _, hbl, _, _, f1⟩
  have Hbl := Lib.hid hbl
  clear hbl
  generalize hs0 : Sb.new (Ms.init 4 []) [] = s0 at *
  have g0 : s0.outs = [] := by rw [← hs0]; rfl
  have g1 : s0.ins = [] := by rw [← hs0]; rfl
  have g2 : s0.p = 0 := by rw [← hs0]; rfl
  clear hs0
  go_wp2_with fail
  refine (store_any w1 F a s0 hB 32784 65 0 (by omega) (by omega) (by omega) (by omega) (by rw [g0]; decide)).mono ?_
  rintro e w2 ⟨rfl, F2, hB2, hF2, f2⟩
  have e1 : loadB 32784 = true := by decide
  have e2 : s0.store 32784 65 = { s0 with outs := s0.outs ++ [65] } := by
    unfold Sb.store
    rw [show offO 32784 = 16 by decide]
    rfl
  rw [e1]
  rw [e2, g0] at hB2
  generalize hs1 : ({ s0 with outs := [] ++ [(65 : Int)] } : Sb) = s1 at *
  have k0 : s1.outs = [65] := by rw [← hs1]; rfl
  have k1 : s1.ins = [] := by rw [← hs1]; exact g1
  have k2 : s1.p = 0 := by rw [← hs1]; exact g2
  have fr2 := f1.trans (S := fun _ => False) f2 (fun i hi e => by have := Hbl.out i (.inl e); omega)
  have Hbl2 : Hid (∀ k, a.wr F2 k → w.heap.size ≤ k) := Lib.hid (fun k hk => by
    rcases hk with e | e | e | e | e | e
    · exact Hbl.out k (.inl (.inl e))
    · exact Hbl.out k (.inl (.inr (.inl e)))
    · exact Hbl.out k (.inl (.inr (.inr (.inl e))))
    · exact Hbl.out k (.inl (.inr (.inr (.inr (.inl e)))))
    · exact Hbl.out k (.inl (.inr (.inr (.inr (.inr (.inl e))))))
    · rcases hF2 k e with h | h
      · exact Hbl.out k (.inl (.inr (.inr (.inr (.inr (.inr h))))))
      · have := f1.size; omega)
  clear hs1 e1 e2 hB f2 hF2
  go_wp2_with fail
  refine (load_any w2 F2 a s1 hB2 32796 0 (by omega) (by omega) (by omega) (by omega)).mono ?_
  rintro e w3 ⟨rfl, F3, hB3, hF3, f3⟩
  have e1 : loadB 32796 = false := by decide
  have e2 : s1.read 32796 = s1 := by unfold Sb.read; rw [if_neg (by decide)]
  rw [e1]
  rw [e2] at hB3
  have fr3 := fr2.trans (S := fun _ => False) f3 (fun i hi e => by have := Hbl2.out i e; omega)
  have Hbl3 : Hid (∀ k, a.wr F3 k → w.heap.size ≤ k) := Lib.hid (fun k hk => by
    rcases hk with e | e | e | e | e | e
    · exact Hbl2.out k (.inl e)
    · exact Hbl2.out k (.inr (.inl e))
    · exact Hbl2.out k (.inr (.inr (.inl e)))
    · exact Hbl2.out k (.inr (.inr (.inr (.inl e))))
    · exact Hbl2.out k (.inr (.inr (.inr (.inr (.inl e)))))
    · rcases hF3 k e with h | h
      · exact Hbl2.out k (.inr (.inr (.inr (.inr (.inr h)))))
      · have := fr2.size; omega)
  clear e1 e2 hB2 f3 hF3 fr2
  generalize loadV s1 32796 0 = lv at *
  obtain ⟨c0, c1, c2, c3, c4, c5, c6, c7⟩ := hB3.cells
  go_wp2_with fail
  refine (output_ints w3 F3 a s1 hB3 (by rw [k0]; decide)).mono ?_
  rintro e w4 ⟨A4, n4, cp4, rfl, hn4, hI4, _, _, f4⟩
  rw [k0] at hI4 hn4
  have hstr := str_of_ints (c := cp4) hI4
  have es : str [65] = { data := #[65] } := by decide
  rw [es] at hstr
  have hB4 := hB3.fr0 f4
  have fr4 := fr3.tr f4
  obtain ⟨d0, d1, d2, d3, d4, d5, d6, d7⟩ := hB4.cells
  have Hin := Lib.hid (input_any w4 F3 a s1 hB4 0 none 0 0 [] (intsAt_nil _ _ _ _) (by decide) (Nat.le_refl _))
  have ei : s1.input [] = s1 := by
    have : s1.fit ([] : List Int).length = 0 := by simp [Sb.fit]
    unfold Sb.input
    rw [this, if_neg (by omega)]
    simp
  have ef : s1.fit 0 = 0 := by simp [Sb.fit]
  rw [ei, ef] at Hin
  clear es hI4 hn4 ei ef hB3
  go_wp2_with fail
  refine (Hin.out).mono ?_
  rintro e w5 ⟨rfl, F5, hB5, hF5, f5⟩
  have fr5 := fr4.trans (S := fun _ => False) f5 (fun i hi e => by have := Hbl3.out i e; omega)
  have Hbl5 : Hid (∀ k, a.wr F5 k → w.heap.size ≤ k) := Lib.hid (fun k hk => by
    rcases hk with e | e | e | e | e | e
    · exact Hbl3.out k (.inl e)
    · exact Hbl3.out k (.inr (.inl e))
    · exact Hbl3.out k (.inr (.inr (.inl e)))
    · exact Hbl3.out k (.inr (.inr (.inr (.inl e))))
    · exact Hbl3.out k (.inr (.inr (.inr (.inr (.inl e)))))
    · rcases hF5 k e with h | h
      · exact Hbl3.out k (.inr (.inr (.inr (.inr (.inr h)))))
      · have := fr4.size; omega)
  obtain ⟨e0, e1, e2, e3, e4, e5, e6, e7⟩ := hB5.cells
  have hpe := Iq.pending_any w5 a.gc s1.p s1.m hB5.c
  rw [k2] at hpe
  have Hpe := Lib.hid hpe
  clear hpe hB4 f5 hF5 fr4
  go_wp2_with fail
  refine (Hpe.out).mono ?_
  rintro e w' ⟨rfl, rfl⟩
  have hB6 := hB5.fr0 ((Fr.refl (fun _ => False) w5).alloc (.cells #[.int .u8 7] 5))
  have Hin2 := Lib.hid (input_any _ F5 a s1 hB6 (w5.heap.size + 1) (some ⟨w5.heap.size, 0, none⟩) 1 1 [7] (lit7 w5) (by decide) (Nat.le_refl _))
  have ef : s1.fit 1 = 1 := by simp [Sb.fit, k1]
  have ei : (s1.input [7]).p = 2 := by
    have : s1.fit ([7] : List Int).length = 1 := ef
    unfold Sb.input
    rw [this, if_pos (by omega), k2]
    rfl
  rw [ef] at Hin2
  have fr6 := fr5.alloc (.cells #[.int .u8 7] 5)
  clear ef
  generalize s1.input [7] = s2 at *
  go_wp2_with fail
  refine (Hin2.out).mono ?_
  rintro e w7 ⟨rfl, F7, hB7, hF7, f7⟩
  have fr7 := fr6.trans (S := fun _ => False) f7 (fun i hi e => by have := Hbl5.out i e; omega)
  obtain ⟨x0, x1, x2, x3, x4, x5, x6, x7⟩ := hB7.cells
  have hpe := Iq.pending_any w7 a.gc s2.p s2.m hB7.c
  rw [ei] at hpe
  have Hpe2 := Lib.hid hpe
  clear hpe
  go_wp2_with fail
  refine (Hpe2.out).mono ?_
  rintro e w' ⟨rfl, rfl⟩
  go_wp2_with fail
  go_ret
  exact ⟨rfl, fr7⟩
end Go.Proofs.YthiephlfhbkcbaaDoor.Bs
