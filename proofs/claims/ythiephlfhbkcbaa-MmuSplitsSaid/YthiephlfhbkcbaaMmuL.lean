/- A unit (mmu.Unit): Place. -/
import Derived.Test.YthiephlfhbkcbaaMmuT
namespace Go.Proofs.Ythiephlfhbkcbaa.Mu
open Go.RowKit Fm Nt Rm By Wk
set_option linter.unusedVariables false
set_option linter.unusedSimpArgs false
set_option maxHeartbeats 2000000

theorem Us.bnd {w : World} {A : Au} {u : Us} (h : Un w A u) : 1 ≤ u.m.n ∧ u.m.n ≤ 64 := h.M.n0
/-- where a turned address lies: within bounds -/
theorem turned_bd {w : World} {A : Au} {u : Us} (h : Un w A u) (s : Sp) (va k : Int) (r0 : 0 ≤ s.rt) (v0 : 0 ≤ va) (v1 : va ≤ 4294967295) : 0 ≤ (turnedR u s va k).p ∧ (turnedR u s va k).p ≤ 4294967295 := by
  unfold turnedR
  split
  · exact ⟨v0, v1⟩
  · split
    · exact found_bd _ _ _ _ v0
    · split
      · have h1 := lkLeaf_bd h.M s.rt va r0 v0
        have h2 := now_bd k _ h1.1 h1.2
        dsimp only
        omega
      · exact ⟨Int.le_refl _, by show (0 : Int) ≤ 4294967295; omega⟩
/-- nothing is told but by a cause -/
theorem turned_c (u : Us) (s : Sp) (va k : Int) (hk : k = 1 ∨ k = 2 ∨ k = 3) : (turnedR u s va k).c = 0 ∧ (turnedR u s va k).a = 0 ∨ (turnedR u s va k).c ≠ 0 := by
  unfold turnedR
  split
  · exact .inl ⟨rfl, rfl⟩
  · split
    · exact .inl ⟨rfl, rfl⟩
    · split
      · exact .inl ⟨rfl, rfl⟩
      · right
        show flt k ≠ 0
        rcases hk with rfl | rfl | rfl <;> decide
set_option maxRecDepth 100000 in
theorem place_any (w : World) (A : Au) (u : Us) (h : Un w A u) (s : Sp) (va k : Int) (r0 : 0 ≤ s.rt) (r1 : s.rt ≤ 4294967295) (v0 : 0 ≤ va) (v1 : va ≤ 4294967295) :
    Calls Try.prog 31 #[.pointer (some ⟨A.gU, 0, none⟩), spv s, .int .u32 va, .int .i64 k] w (PPost w A (placeR u s va k)) := by
  have hl := h.lt
  obtain ⟨b1, b2, fx⟩ := boxed w #[.bool s.pg, .bool s.su, .int .u32 s.rt] #[.int .i64 0, .int .u32 0]
  have b3 := Blk.new' ((w.alloc (.cells #[.bool s.pg, .bool s.su, .int .u32 s.rt] 59)).alloc (.cells #[.int .i64 0, .int .u32 0] 63)) 63 #[.int .i64 10, .int .u32 va] (n := w.heap.size + 2) (by simp)
  have b1 := b1.alloc (.cells #[.int .i64 10, .int .u32 va] 63)
  have b2 := b2.alloc (.cells #[.int .i64 10, .int .u32 va] 63)
  have fx := fx.alloc (.cells #[.int .i64 10, .int .u32 va] 63)
  generalize hw1 : ((w.alloc (.cells #[.bool s.pg, .bool s.su, .int .u32 s.rt] 59)).alloc (.cells #[.int .i64 0, .int .u32 0] 63)).alloc (.cells #[.int .i64 10, .int .u32 va] 63) = w1 at *
  have H1 := Lib.hid (h.fr0 fx)
  have B2 := Lib.hid b2
  have B3 := Lib.hid b3
  have FX := Lib.hid fx
  have HF := Lib.hid (fun W => fault_any W k)
  have hs1 : w1.heap.size = w.heap.size + 3 := by rw [← hw1]; simp
  have s0 : w1.cell? ⟨w.heap.size, 0, none⟩ = some (.bool s.pg) := b1.cell 0
  have s1 : w1.cell? ⟨w.heap.size, 1, none⟩ = some (.bool s.su) := b1.cell 1
  have s2 : w1.cell? ⟨w.heap.size, 2, none⟩ = some (.int .u32 s.rt) := b1.cell 2
  have e0 := b3.cell 0
  have e1 := b3.cell 1
  have e2 := b2.cell 0
  have e3 := b2.cell 1
  have e4 := b2.frozen 0
  have e5 := b2.frozen 1
  simp only [List.getElem?_toArray, List.getElem?_cons_succ, List.getElem?_cons_zero] at e0 e1 e2 e3
  obtain ⟨res, hres⟩ : ∃ res, placeR u s va k = res := ⟨_, rfl⟩
  rw [hres]
  have HRES := Lib.hid hres
  have HL := Lib.hid h
  clear hres h b1 b2 b3 fx
  by_cases hk : k = 1 ∨ k = 2 ∨ k = 3
  · have hf0 : (flt k == 0) = false := by rcases hk with rfl | rfl | rfl <;> decide
    have hf1 : ¬ flt k = 0 := by simpa using hf0
    have HK := Lib.hid hk
    have Htn := Lib.hid (turned_any w1 A u H1.out s va k r0 r1 v0 v1 hk)
    have hbd := turned_bd HL.out s va k r0 v0 v1
    have HC := Lib.hid (turned_c u s va k hk)
    have Hr0 : Hid (res = if (turnedR u s va k).c ≠ 0 then ⟨0, (turnedR u s va k).c, (turnedR u s va k).a, (turnedR u s va k).u⟩ else if thereB (turnedR u s va k).u.m (turnedR u s va k).p k then ⟨(turnedR u s va k).p, 0, 0, (turnedR u s va k).u⟩ else ⟨0, 10, va, (turnedR u s va k).u⟩) := Lib.hid (by rw [← HRES.out, placeR, if_neg hf1])
    clear hk hf1 HRES
    generalize flt k = fk at *
    generalize turnedR u s va k = tr at *
    obtain ⟨p, c, a, u'⟩ := tr
    dsimp only at hbd HC Hr0
    go_enter Try.func31, Try.ntmps31
    go_wp2_with fail
    refine (HF.out _).mono ?_
    rintro e w' ⟨rfl, rfl⟩
    go_wp2_with fail
    refine (Htn.out).mono ?_
    rintro e w2 ⟨rfl, hU2, f2⟩
    dsimp only at hU2 ⊢
    have f2x := FX.out.none.trans f2 (S := A.wr) (fun i hi e => e)
    have g2 := B2.out.fr f2 (fun e => by have := hl _ (.inr e); omega)
    have g3 := B3.out.fr f2 (fun e => by have := hl _ (.inr e); omega)
    have hs2 := f2.size
    have fy : Fr (fun _ => False) w2 (w2.alloc (.cells #[.int .i64 c, .int .u32 a] 63)) := (Fr.refl _ _).alloc _
    have b4 := Blk.new w2 63 #[.int .i64 c, .int .u32 a]
    have H3 := hU2.fr0 fy
    have g2 := g2.fr fy (fun e => e)
    have g3 := g3.fr fy (fun e => e)
    have F3 := f2x.tr fy.none
    generalize hw3 : w2.alloc (.cells #[.int .i64 c, .int .u32 a] 63) = w3 at *
    have hs3 : w3.heap.size = w2.heap.size + 1 := by rw [← hw3]; simp
    clear e0 e1 e2 e3 e4 e5 s0 s1 s2 f2 f2x fy hU2
    have e0 := g3.cell 0
    have e1 := g3.cell 1
    have e2 := g2.cell 0
    have e3 := g2.cell 1
    have e4 := g2.frozen 0
    have e5 := g2.frozen 1
    have x0 := b4.cell 0
    have x1 := b4.cell 1
    have hU0 := H3.c0
    simp only [List.getElem?_toArray, List.getElem?_cons_succ, List.getElem?_cons_zero] at e0 e1 e2 e3 x0 x1
    have HEnd : Hid (∀ y0 y1, Blk ((w3.drew.setCell ⟨w.heap.size + 1, 0, none⟩ y0).setCell ⟨w.heap.size + 1, 1, none⟩ y1) (w.heap.size + 1) 63 #[y0, y1] ∧ Un ((w3.drew.setCell ⟨w.heap.size + 1, 0, none⟩ y0).setCell ⟨w.heap.size + 1, 1, none⟩ y1) A u' ∧ Fr A.wr w ((w3.drew.setCell ⟨w.heap.size + 1, 0, none⟩ y0).setCell ⟨w.heap.size + 1, 1, none⟩ y1)) := Lib.hid (fun y0 y1 => trap_in g2.drew H3.drew F3.drew hl (Nat.le_succ _) y0 y1)
    have HS := Lib.hid (size_any w3 A.am u'.m H3.M)
    have hnn := H3.M.n0
    have HDv := Lib.hid (fun W => device_any W p hbd.1 hbd.2)
    clear g2 g3 b4 H3 F3
    go_upto_region 5 with (fail)
    by_cases hc : c = 0
    · obtain ⟨rfl, rfl⟩ : c = 0 ∧ a = 0 := by
        rcases HC.out with h | h
        · exact h
        · exact absurd hc h
      have Hr1 : Hid (res = if thereB u'.m p k then ⟨p, 0, 0, u'⟩ else ⟨0, 10, va, u'⟩) := Lib.hid (by rw [Hr0.out, if_neg (by simp)])
      clear HC Hr0
      unfold thereB at Hr1
      by_cases hp : p < (u'.m.n : Int) * 64
      · obtain rfl : res = ⟨p, 0, 0, u'⟩ := by rw [Hr1.out, if_pos (by simp [hp])]
        go_wp2_with fail
        refine (HS.out).mono ?_
        rintro e w' ⟨rfl, rfl⟩
        go_wp2_with fail
        go_region
        all_goals
          go_wp2_with fail
          try simp only [Exit.inBlock, Exit.then]
          have hf := HEnd.out (.int .i64 0) (.int .u32 0)
          exact bodyPost_ret (results_tc rfl _ _ (w.heap.size + 1) 63 _ _ _ rfl rfl hf.1 Try.underlying63 rfl szT) rfl ⟨rfl, hf.2⟩
      · by_cases hk1 : k = 1
        · subst hk1
          obtain rfl : res = ⟨0, 10, va, u'⟩ := by rw [Hr1.out, if_neg (by simp [hp])]
          have hp' : decide (p < (u'.m.n : Int) * 64) = false := by simpa using hp
          clear hp
          go_wp2_with fail
          refine (HS.out).mono ?_
          rintro e w' ⟨rfl, rfl⟩
          go_wp2_with fail
          go_region
          all_goals
            go_wp2_with fail
            try simp only [Exit.inBlock, Exit.then]
            have hf := HEnd.out (.int .i64 10) (.int .u32 va)
            exact bodyPost_ret (results_tc rfl _ _ (w.heap.size + 1) 63 _ _ _ rfl rfl hf.1 Try.underlying63 rfl szT) rfl ⟨rfl, hf.2⟩
        · have hk1' : (k != 1) = true := by simpa using hk1
          have hp' : decide (p < (u'.m.n : Int) * 64) = false := by simpa using hp
          cases hd : devB p
          · obtain rfl : res = ⟨0, 10, va, u'⟩ := by rw [Hr1.out, if_neg (by simp [hp, hd])]
            rw [hd] at HDv
            clear hp hk1 hd
            go_wp2_with fail
            refine (HS.out).mono ?_
            rintro e w' ⟨rfl, rfl⟩
            go_wp2_with fail
            refine (HDv.out _).mono ?_
            rintro e w' ⟨rfl, rfl⟩
            go_wp2_with fail
            go_region
            all_goals
              go_wp2_with fail
              try simp only [Exit.inBlock, Exit.then]
              have hf := HEnd.out (.int .i64 10) (.int .u32 va)
              exact bodyPost_ret (results_tc rfl _ _ (w.heap.size + 1) 63 _ _ _ rfl rfl hf.1 Try.underlying63 rfl szT) rfl ⟨rfl, hf.2⟩
          · obtain rfl : res = ⟨p, 0, 0, u'⟩ := by rw [Hr1.out, if_pos (by simp [hk1, hd])]
            rw [hd] at HDv
            clear hp hk1 hd
            go_wp2_with fail
            refine (HS.out).mono ?_
            rintro e w' ⟨rfl, rfl⟩
            go_wp2_with fail
            refine (HDv.out _).mono ?_
            rintro e w' ⟨rfl, rfl⟩
            go_wp2_with fail
            go_region
            all_goals
              go_wp2_with fail
              try simp only [Exit.inBlock, Exit.then]
              have hf := HEnd.out (.int .i64 0) (.int .u32 0)
              exact bodyPost_ret (results_tc rfl _ _ (w.heap.size + 1) 63 _ _ _ rfl rfl hf.1 Try.underlying63 rfl szT) rfl ⟨rfl, hf.2⟩
    · have hc' : (c != 0) = true := by simpa using hc
      obtain rfl : res = ⟨0, c, a, u'⟩ := by rw [Hr0.out, if_pos hc]
      clear hc HC Hr0
      go_wp2_with fail
      go_region
      all_goals
        go_wp2_with fail
        try simp only [Exit.inBlock, Exit.then]
        have hf := HEnd.out (.int .i64 c) (.int .u32 a)
        exact bodyPost_ret (results_tc rfl _ _ (w.heap.size + 1) 63 _ _ _ rfl rfl hf.1 Try.underlying63 rfl szT) rfl ⟨rfl, hf.2⟩
  · have hf0 : flt k = 0 := by unfold flt; rw [if_neg (by omega), if_neg (by omega), if_neg (by omega)]
    obtain rfl : res = ⟨0, 10, va, u⟩ := by rw [← HRES.out, placeR, if_pos hf0]
    rw [hf0] at HF
    clear hk hf0 HRES
    have HE := Lib.hid (trap_in B2.out.drew H1.out.drew FX.out.drew.none hl (Nat.le_succ _) (.int .i64 10) (.int .u32 va))
    go_enter Try.func31, Try.ntmps31
    go_wp2_with fail
    refine (HF.out _).mono ?_
    rintro e w' ⟨rfl, rfl⟩
    go_wp2_with fail
    go_region
    all_goals
      go_wp2_with fail
      try simp only [Exit.inBlock, Exit.then]
      exact bodyPost_ret (results_tc rfl _ _ (w.heap.size + 1) 63 _ _ _ rfl rfl HE.out.1 Try.underlying63 rfl szT) rfl ⟨rfl, HE.out.2⟩
end Go.Proofs.Ythiephlfhbkcbaa.Mu
