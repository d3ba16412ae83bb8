/- A unit (mmu.Unit): turned. -/
import Derived.Test.YthiephlfhbkcbaaMmu
import Derived.Deep.RegionHeld
import Derived.Deep.Cut
import Derived.RegionTactic
import Derived.ChangeAlike
namespace Go.Proofs.Ythiephlfhbkcbaa.Mu
open Go.RowKit Fm Nt Rm By Wk
set_option linter.unusedVariables false
set_option linter.unusedSimpArgs false
set_option maxHeartbeats 1000000

/-- what a walk of the tables hands back, in one form -/
theorem do_one (m : Ms) (rt va k : Int) (su : Bool) (r0 : 0 ≤ rt) (r1 : rt ≤ 4294967295) (v0 : 0 ≤ va) (v1 : va ≤ 4294967295) (hk : k = 1 ∨ k = 2 ∨ k = 3) :
    ∃ (b : Bool) (x y z t q : Int) (m' : Ms), (∀ (am : Am) W, Mem W am m → Calls Try.prog 97 #[.pointer (some ⟨am.gm, 0, none⟩), .int .u32 rt, .int .u32 va, .int .i64 k, .bool su] W fun e w' => e = .returned (.tuple #[.agg #[.bool b, .int .u32 x, .int .u32 y, .int .u32 z], trv t q]) ∧ Mem w' am m' ∧ Fr am.own W w') ∧
      (doOk m rt va k su = true ∧ b = true ∧ x = va / 64 ∧ y = now k (lkLeaf m rt va) / 256 ∧ z = bits .and .u32 (now k (lkLeaf m rt va)) 94 ∧ t = 0 ∧ q = 0 ∧ m' = doMs m rt va k ∨ doOk m rt va k su = false ∧ t = flt k ∧ q = va ∧ m' = m) := by
  cases h : doOk m rt va k su
  · exact ⟨false, 0, 0, 0, flt k, va, m, fun am W hM => (do_fault W am m hM rt va k su r0 r1 v0 v1 hk h).mono fun e w' ⟨h1, h2⟩ => ⟨h1, hM.fr0 h2, h2.none⟩, .inr ⟨rfl, rfl, rfl, rfl⟩⟩
  · exact ⟨true, va / 64, now k (lkLeaf m rt va) / 256, bits .and .u32 (now k (lkLeaf m rt va)) 94, 0, 0, doMs m rt va k, fun am W hM => do_ok W am m hM rt va k su r0 r1 v0 v1 hk h, .inl ⟨rfl, rfl, rfl, rfl, rfl, rfl, rfl, rfl⟩⟩
def oE : Obj := .cells #[.bool false, .int .u32 0, .int .u32 0, .int .u32 0] 132
def oT : Obj := .cells #[.int .i64 0, .int .u32 0] 63
/-- an entry and a trap in boxes of their own -/
def Two (w wx : World) (b : Bool) (x y z t q : Int) (ve vt : Value) : Prop := ∃ gE gT, ve = .pointer (some ⟨gE, 0, none⟩) ∧ vt = .pointer (some ⟨gT, 0, none⟩) ∧ w.heap.size ≤ gE ∧ w.heap.size ≤ gT ∧ gE ≠ gT ∧ Blk wx gE 132 #[.bool b, .int .u32 x, .int .u32 y, .int .u32 z] ∧ Blk wx gT 63 #[.int .i64 t, .int .u32 q]
theorem two_stored {w wx : World} {gE gT : Nat} (hE : w.heap.size ≤ gE) (hT : w.heap.size ≤ gT) (hne : gE ≠ gT) (h1 : Blk wx gE 132 #[.bool false, .int .u32 0, .int .u32 0, .int .u32 0]) (h2 : Blk wx gT 63 #[.int .i64 0, .int .u32 0]) (b : Bool) (x y z t q : Int) :
    Two w ((((((wx.setCell ⟨gE, 0, none⟩ (.bool b)).setCell ⟨gE, 1, none⟩ (.int .u32 x)).setCell ⟨gE, 2, none⟩ (.int .u32 y)).setCell ⟨gE, 3, none⟩ (.int .u32 z)).setCell ⟨gT, 0, none⟩ (.int .i64 t)).setCell ⟨gT, 1, none⟩ (.int .u32 q)) b x y z t q (.pointer (some ⟨gE, 0, none⟩)) (.pointer (some ⟨gT, 0, none⟩)) := by
  obtain ⟨k1, k2, _⟩ := Wk.stored hne h1 h2 (.bool b) (.int .u32 x) (.int .u32 y) (.int .u32 z) (.int .i64 t) (.int .u32 q)
  exact ⟨gE, gT, rfl, rfl, hE, hT, hne, k1, k2⟩
theorem six_end {w2 w3 W0 : World} {am : Am} {m' : Ms} {gE gT : Nat} (hM3 : Mem w3 am m') (f3 : Fr am.own w2 w3) (fa : Fr (fun _ => False) w3 W0) (hE : w2.heap.size ≤ gE) (hT : w2.heap.size ≤ gT) (hne : gE ≠ gT)
    (bE : Blk W0 gE 132 #[.bool false, .int .u32 0, .int .u32 0, .int .u32 0]) (bT : Blk W0 gT 63 #[.int .i64 0, .int .u32 0]) (hno : ∀ q, w2.heap.size ≤ q → ¬ am.own q) (b : Bool) (x y z t q : Int) :
    Two w2 ((((((W0.setCell ⟨gE, 0, none⟩ (.bool b)).setCell ⟨gE, 1, none⟩ (.int .u32 x)).setCell ⟨gE, 2, none⟩ (.int .u32 y)).setCell ⟨gE, 3, none⟩ (.int .u32 z)).setCell ⟨gT, 0, none⟩ (.int .i64 t)).setCell ⟨gT, 1, none⟩ (.int .u32 q)) b x y z t q (.pointer (some ⟨gE, 0, none⟩)) (.pointer (some ⟨gT, 0, none⟩)) ∧
    Mem ((((((W0.setCell ⟨gE, 0, none⟩ (.bool b)).setCell ⟨gE, 1, none⟩ (.int .u32 x)).setCell ⟨gE, 2, none⟩ (.int .u32 y)).setCell ⟨gE, 3, none⟩ (.int .u32 z)).setCell ⟨gT, 0, none⟩ (.int .i64 t)).setCell ⟨gT, 1, none⟩ (.int .u32 q)) am m' ∧
    Fr am.own w2 ((((((W0.setCell ⟨gE, 0, none⟩ (.bool b)).setCell ⟨gE, 1, none⟩ (.int .u32 x)).setCell ⟨gE, 2, none⟩ (.int .u32 y)).setCell ⟨gE, 3, none⟩ (.int .u32 z)).setCell ⟨gT, 0, none⟩ (.int .i64 t)).setCell ⟨gT, 1, none⟩ (.int .u32 q)) := by
  obtain ⟨_, _, k3⟩ := Wk.stored hne bE bT (.bool b) (.int .u32 x) (.int .u32 y) (.int .u32 z) (.int .i64 t) (.int .u32 q)
  refine ⟨two_stored hE hT hne bE bT b x y z t q, (hM3.fr0 fa).fr k3 (fun k hk e => ?_), (f3.tr fa.none).trans k3 (fun i hi e => ?_)⟩
  · rcases e with rfl | rfl
    · exact hno _ hE hk
    · exact hno _ hT hk
  · omega
set_option maxRecDepth 100000 in
theorem turned_any (w : World) (A : Au) (u : Us) (h : Un w A u) (s : Sp) (va k : Int) (r0 : 0 ≤ s.rt) (r1 : s.rt ≤ 4294967295) (v0 : 0 ≤ va) (v1 : va ≤ 4294967295) (hk : k = 1 ∨ k = 2 ∨ k = 3) :
    Calls Try.prog 69 #[.pointer (some ⟨A.gU, 0, none⟩), spv s, .int .u32 va, .int .i64 k] w (PPost w A (turnedR u s va k)) := by
  obtain ⟨pg, su, rt⟩ := s
  dsimp only at r0 r1
  have hUlt := h.b.lt
  have hl := h.lt
  have hown := fun q (hq : A.am.own q) => h.M.lt q hq
  have hBlt := h.B.lt
  cases pg
  · have e : turnedR u ⟨false, su, rt⟩ va k = ⟨va, 0, 0, u⟩ := by unfold turnedR; rw [if_pos rfl]
    rw [e]
    obtain ⟨b1, b2, fx⟩ := boxed w #[.bool false, .bool su, .int .u32 rt] #[.int .i64 0, .int .u32 0]
    have H := Lib.hid (h.fr0 fx)
    have B2 := Lib.hid b2
    have FX := Lib.hid fx
    clear h fx b1 b2 e
    go_enter Try.func69, Try.ntmps69
    go_wp2_with fail
    try simp only [Exit.inBlock, Exit.then]
    exact bodyPost_ret (results_tc rfl _ _ (w.heap.size + 1) 63 _ _ _ rfl rfl B2.out Try.underlying63 rfl szT) rfl ⟨rfl, H.out, FX.out.none⟩
  · obtain ⟨b1, b2, fx⟩ := boxed w #[.bool true, .bool su, .int .u32 rt] #[.int .i64 0, .int .u32 0]
    have h1 := h.fr0 fx
    generalize hw1 : ((w.alloc (.cells #[.bool true, .bool su, .int .u32 rt] 59)).alloc (.cells #[.int .i64 0, .int .u32 0] 63)) = w1 at *
    have c0 := h1.c0
    have c1 := h1.c1
    have s0 : w1.cell? ⟨w.heap.size, 0, none⟩ = some (.bool true) := b1.cell 0
    have s1 : w1.cell? ⟨w.heap.size, 1, none⟩ = some (.bool su) := b1.cell 1
    have s2 : w1.cell? ⟨w.heap.size, 2, none⟩ = some (.int .u32 rt) := b1.cell 2
    have hsz : w1.heap.size = w.heap.size + 2 := by rw [← hw1]; simp
    have Hf := Lib.hid (fun W (hB : Tl.Buf W A.gB u.l) => Tl.find_any W A.gB u.l va k su v0 v1 (idx va) (idx_eq v0) hB)
    have hfb := found_bd (u.l (idx va)) va k su v0
    have hb0 : (turnedR u ⟨true, su, rt⟩ va k) = (if Tl.hit (u.l (idx va)) va k su then ⟨Tl.found (u.l (idx va)) va k su, 0, 0, u⟩
        else if doOk u.m rt va k su then ⟨now k (lkLeaf u.m rt va) / 256 * 64 + va % 64, 0, 0, u.walked rt va k⟩ else ⟨0, flt k, va, u⟩) := by unfold turnedR; rw [if_neg (by simp)]
    have H1 := Lib.hid h1
    have B1 := Lib.hid b1
    have B2 := Lib.hid b2
    have FX := Lib.hid fx
    obtain ⟨res, hres⟩ : ∃ res, turnedR u ⟨true, su, rt⟩ va k = res := ⟨_, rfl⟩
    rw [hres]
    rw [hres] at hb0
    have HR := Lib.hid hb0
    clear h1 b1 b2 fx h hb0 hres
    generalize hhb : Tl.hit (u.l (idx va)) va k su = hb at *
    generalize Tl.found (u.l (idx va)) va k su = fd at *
    go_enter Try.func69, Try.ntmps69
    go_upto_region 3 with (fail)
    go_cut [10, 11] (fun p b wx => p = .int .u32 fd ∧ b = .bool hb ∧ Fr (fun _ => False) w1 wx)
    case first =>
      go_region_with ((go_at_call 96; refine (Hf.out w1.drew H1.out.B).mono ?_; rintro e w2 ⟨rfl, f2⟩))
      all_goals
        have f2' := (Fr.refl (fun _ => False) w1).drew.tr f2
        go_wp2_with fail
        go_meet
        exact ⟨rfl, rfl, f2'⟩
    case rest =>
      obtain ⟨rfl, rfl, f2⟩ := hcut
      clear Hf
      have H2 := H1.out.fr0 f2
      have t0 := f2.cell s0 (show w.heap.size < w1.heap.size by omega) (fun e => e)
      have t1 := f2.cell s1 (show w.heap.size < w1.heap.size by omega) (fun e => e)
      have t2 := f2.cell s2 (show w.heap.size < w1.heap.size by omega) (fun e => e)
      have d0 := H2.c0
      have d1 := H2.c1
      have b2 := B2.out.fr f2 (fun e => e)
      have hs2 := f2.size
      have F2 := Lib.hid (FX.out.tr f2)
      have HU2 := Lib.hid H2
      have x0 : wc.cell? ⟨w.heap.size + 1, 0, none⟩ = some (.int .i64 0) := b2.cell 0
      have x1 : wc.cell? ⟨w.heap.size + 1, 1, none⟩ = some (.int .u32 0) := b2.cell 1
      have z0 := b2.frozen 0
      have z1 := b2.frozen 1
      have BB2 := Lib.hid b2
      clear c0 c1 s0 s1 s2 f2 b2 H2
      cases hb
      · obtain ⟨b, x, y, z, t, q, m', hD, hcase⟩ := do_one u.m rt va k su r0 r1 v0 v1 hk
        have HD := Lib.hid (hD A.am)
        have HC := Lib.hid hcase
        clear hD hcase x0 x1 z0 z1
        go_upto_region 6 with (fail)
        generalize hw2 : wc = w2 at *
        go_cut [12, 13] (fun ve vt wx => Two w2 wx b x y z t q ve vt ∧ Mem wx A.am m' ∧ Fr A.am.own w2 wx)
        case first =>
          have hUl : A.gU < w2.heap.size := by omega
          have hBl : w.heap.size < w2.heap.size := by omega
          have hUn : ¬ A.am.own A.gU := fun e => (HU2.out.sep _ e).1 rfl
          have hBn : ¬ A.am.own w.heap.size := fun e => by have := hown _ e; omega
          have hno : ∀ q, w2.heap.size ≤ q → ¬ A.am.own q := fun q hq e => by have := hown _ e; omega
          have HM2 : Mem w2 A.am u.m := HU2.out.M
          refine wp_region_held_drew (S := Fr A.am.own w2) (by kernel_rfl) ((Fr.refl A.am.own w2).drew) (fun hH => ?_)
          obtain ⟨wx, hwx⟩ : ∃ wx, wx = w2.drew := ⟨_, rfl⟩
          rw [← hwx] at hH ⊢
          have HMx := Lib.hid (show Mem wx A.am u.m by rw [hwx]; exact HM2.drew)
          have HFx := Lib.hid hH
          clear hwx
          refine wpAnyH_take (i := 0) (v := ?_) rfl (by kernel_rfl) (by kernel_rfl) (by kernel_rfl) (fun _ _ _ h => h) (Or.inl ⟨by kernel_rfl, ?_⟩) hH ?_
          rotate_left
          · (intro W hSw; have k0 := hSw.cell d0 hUl hUn; have k1 := hSw.cell t1 hBl hBn; have k2 := hSw.cell t2 hBl hBn; go_simp; try with_reducible rfl)
          refine wpAnyH_take (i := 1) (v := ?_) rfl (by kernel_rfl) (by kernel_rfl) (by kernel_rfl) (fun _ _ _ h => h) (Or.inl ⟨by kernel_rfl, ?_⟩) hH ?_
          rotate_left
          · (intro W hSw; have k0 := hSw.cell d0 hUl hUn; have k1 := hSw.cell t1 hBl hBn; have k2 := hSw.cell t2 hBl hBn; go_simp; try with_reducible rfl)
          refine wpAnyH_take (i := 2) (v := ?_) rfl (by kernel_rfl) (by kernel_rfl) (by kernel_rfl) (fun _ _ _ h => h) (Or.inl ⟨by kernel_rfl, ?_⟩) hH ?_
          rotate_left
          · (intro W hSw; have k0 := hSw.cell d0 hUl hUn; have k1 := hSw.cell t1 hBl hBn; have k2 := hSw.cell t2 hBl hBn; go_simp; try with_reducible rfl)
          try simp only [Act.put, List.getElem_toArray, List.getElem_cons_zero, List.getElem_cons_succ, List.setIfInBounds_toArray, List.set_cons_zero, List.set_cons_succ]
          refine wpAnyH_take (i := 3) (v := ?_) rfl (by kernel_rfl) (by kernel_rfl) (by kernel_rfl) (fun _ _ _ h => h) (Or.inl ⟨by kernel_rfl, ?_⟩) hH ?_
          rotate_left
          · (intro W hSw; have k0 := hSw.cell d0 hUl hUn; have k1 := hSw.cell t1 hBl hBn; have k2 := hSw.cell t2 hBl hBn; go_simp; try with_reducible rfl)
          refine wpAnyH_take (i := 4) (v := ?_) rfl (by kernel_rfl) (by kernel_rfl) (by kernel_rfl) (fun _ _ _ h => h) (Or.inl ⟨by kernel_rfl, ?_⟩) hH ?_
          rotate_left
          · (intro W hSw; have k0 := hSw.cell d0 hUl hUn; have k1 := hSw.cell t1 hBl hBn; have k2 := hSw.cell t2 hBl hBn; go_simp; try with_reducible rfl)
          refine wpAnyH_take (i := 5) (v := ?_) rfl (by kernel_rfl) (by kernel_rfl) (by kernel_rfl) (fun _ _ _ h => h) (Or.inl ⟨by kernel_rfl, ?_⟩) hH ?_
          rotate_left
          · (intro W hSw; have k0 := hSw.cell d0 hUl hUn; have k1 := hSw.cell t1 hBl hBn; have k2 := hSw.cell t2 hBl hBn; go_simp; try with_reducible rfl)
          try simp only [Act.put, List.getElem_toArray, List.getElem_cons_zero, List.getElem_cons_succ, List.setIfInBounds_toArray, List.set_cons_zero, List.set_cons_succ]
          refine wpAnyH_take (i := 6) (v := ?_) rfl (by kernel_rfl) (by kernel_rfl) (by kernel_rfl) (fun _ _ _ h => h) (Or.inl ⟨by kernel_rfl, ?_⟩) hH ?_
          rotate_left
          · (intro W hSw; have k0 := hSw.cell d0 hUl hUn; have k1 := hSw.cell t1 hBl hBn; have k2 := hSw.cell t2 hBl hBn; go_simp; try with_reducible rfl)
          refine wpAnyH_take (i := 7) (v := ?_) rfl (by kernel_rfl) (by kernel_rfl) (by kernel_rfl) (fun _ _ _ h => h) (Or.inl ⟨by kernel_rfl, ?_⟩) hH ?_
          rotate_left
          · (intro W hSw; have k0 := hSw.cell d0 hUl hUn; have k1 := hSw.cell t1 hBl hBn; have k2 := hSw.cell t2 hBl hBn; go_simp; try with_reducible rfl)
          refine wpAnyH_take (i := 8) (v := ?_) rfl (by kernel_rfl) (by kernel_rfl) (by kernel_rfl) (fun _ _ _ h => h) (Or.inl ⟨by kernel_rfl, ?_⟩) hH ?_
          rotate_left
          · (intro W hSw; have k0 := hSw.cell d0 hUl hUn; have k1 := hSw.cell t1 hBl hBn; have k2 := hSw.cell t2 hBl hBn; go_simp; try with_reducible rfl)
          try simp only [Act.put, List.getElem_toArray, List.getElem_cons_zero, List.getElem_cons_succ, List.setIfInBounds_toArray, List.set_cons_zero, List.set_cons_succ]
          refine wpAnyH_take (i := 9) (v := ?_) rfl (by kernel_rfl) (by kernel_rfl) (by kernel_rfl) (fun _ _ _ h => h) (Or.inl ⟨by kernel_rfl, ?_⟩) hH ?_
          rotate_left
          · (intro W hSw; have k0 := hSw.cell d0 hUl hUn; have k1 := hSw.cell t1 hBl hBn; have k2 := hSw.cell t2 hBl hBn; go_simp; try with_reducible rfl)
          try simp only [Act.put, List.getElem_toArray, List.getElem_cons_zero, List.getElem_cons_succ, List.setIfInBounds_toArray, List.set_cons_zero, List.set_cons_succ]
          refine wpAnyH_ready (rs := [10, 14, 15]) (by kernel_rfl) (by simp) ?_
          refine AllReadyH.cons rfl (fun K hK => ?_) ?_
          · go_simp
            go_wp2_with (refine Calls.mono (HD.out wx HMx.out) ?_; rintro e wy ⟨rfl, hMy, fy⟩)
            refine hK.out _ _ ?_ (fun hH => ?_)
            · exact HFx.out.tr fy
            clear hK K
            try have BE := Lib.hid (BE.out.fr fy (hno _ hE0))
            try have BT := Lib.hid (BT.out.fr fy (hno _ hT0))
            have HMx := Lib.hid hMy
            have HFx := Lib.hid (HFx.out.tr fy)
            have hsy := fy.size
            try have hEl : gE < wy.heap.size := by omega
            try have hTl : gT < wy.heap.size := by omega
            clear fy hMy hsy
            obtain ⟨wx, rfl⟩ : ∃ z, z = wy := ⟨_, rfl⟩
            refine wpAnyH_take (i := 11) (v := ?_) rfl (by kernel_rfl) (by kernel_rfl) (by kernel_rfl) (fun _ _ _ h => h) (Or.inl ⟨by kernel_rfl, ?_⟩) hH ?_
            rotate_left
            · (intro W hSw; have k0 := hSw.cell d0 hUl hUn; have k1 := hSw.cell t1 hBl hBn; have k2 := hSw.cell t2 hBl hBn; go_simp; try with_reducible rfl)
            refine wpAnyH_take (i := 12) (v := ?_) rfl (by kernel_rfl) (by kernel_rfl) (by kernel_rfl) (fun _ _ _ h => h) (Or.inl ⟨by kernel_rfl, ?_⟩) hH ?_
            rotate_left
            · (intro W hSw; have k0 := hSw.cell d0 hUl hUn; have k1 := hSw.cell t1 hBl hBn; have k2 := hSw.cell t2 hBl hBn; go_simp; try with_reducible rfl)
            refine wpAnyH_take (i := 13) (v := ?_) rfl (by kernel_rfl) (by kernel_rfl) (by kernel_rfl) (fun _ _ _ h => h) (Or.inl ⟨by kernel_rfl, ?_⟩) hH ?_
            rotate_left
            · (intro W hSw; have k0 := hSw.cell d0 hUl hUn; have k1 := hSw.cell t1 hBl hBn; have k2 := hSw.cell t2 hBl hBn; go_simp; try with_reducible rfl)
            try simp only [Act.put, List.getElem_toArray, List.getElem_cons_zero, List.getElem_cons_succ, List.setIfInBounds_toArray, List.set_cons_zero, List.set_cons_succ]
            refine wpAnyH_ready (rs := [14, 15]) (by kernel_rfl) (by simp) ?_
            refine AllReadyH.cons rfl (fun K hK => ?_) ?_
            · go_simp
              refine hK.out _ _ ?_ (fun hH => ?_)
              · exact hH.alloc _
              clear hK K
              obtain ⟨gE, hgE⟩ : ∃ g, g = wx.heap.size := ⟨_, rfl⟩
              obtain ⟨wy, hwy⟩ : ∃ wy, wy = wx.alloc (.cells #[.bool false, .int .u32 0, .int .u32 0, .int .u32 0] 132) := ⟨_, rfl⟩
              have fy : Fr (fun _ => False) wx wy := by rw [hwy]; exact (Fr.refl _ _).alloc _
              have BE := Lib.hid (show Blk wy gE 132 #[.bool false, .int .u32 0, .int .u32 0, .int .u32 0] by rw [hwy]; exact Blk.new' _ _ _ hgE.symm)
              have hE0 : w2.heap.size ≤ gE := by have := HFx.out.size; omega
              have hEl : gE < wy.heap.size := BE.out.lt
              try have hne : gE ≠ gT := by omega
              try have BT := Lib.hid (BT.out.fr fy (fun e => e))
              have hsy := fy.size
              try have hTl : gT < wy.heap.size := by omega
              have HMx := Lib.hid (HMx.out.fr0 fy)
              have HFx := Lib.hid (HFx.out.tr fy.none)
              rw [← hwy] at hH ⊢
              rw [← hgE]
              clear hwy hgE fy hsy
              obtain ⟨wx, rfl⟩ : ∃ z, z = wy := ⟨_, rfl⟩
              refine wpAnyH_ready (rs := [15]) (by kernel_rfl) (by simp) ?_
              refine AllReadyH.cons rfl (fun K hK => ?_) ?_
              · go_simp
                refine hK.out _ _ ?_ (fun hH => ?_)
                · exact hH.alloc _
                clear hK K
                obtain ⟨gT, hgT⟩ : ∃ g, g = wx.heap.size := ⟨_, rfl⟩
                obtain ⟨wy, hwy⟩ : ∃ wy, wy = wx.alloc (.cells #[.int .i64 0, .int .u32 0] 63) := ⟨_, rfl⟩
                have fy : Fr (fun _ => False) wx wy := by rw [hwy]; exact (Fr.refl _ _).alloc _
                have BT := Lib.hid (show Blk wy gT 63 #[.int .i64 0, .int .u32 0] by rw [hwy]; exact Blk.new' _ _ _ hgT.symm)
                have hT0 : w2.heap.size ≤ gT := by have := HFx.out.size; omega
                have hTl : gT < wy.heap.size := BT.out.lt
                try have hne : gE ≠ gT := by omega
                try have BE := Lib.hid (BE.out.fr fy (fun e => e))
                have hsy := fy.size
                try have hEl : gE < wy.heap.size := by omega
                have HMx := Lib.hid (HMx.out.fr0 fy)
                have HFx := Lib.hid (HFx.out.tr fy.none)
                rw [← hwy] at hH ⊢
                rw [← hgT]
                clear hwy hgT fy hsy
                obtain ⟨wx, rfl⟩ : ∃ z, z = wy := ⟨_, rfl⟩
                refine wpAnyH_ready (rs := [16]) (by kernel_rfl) (by simp) ?_
                refine AllReadyH.cons rfl (fun K hK => ?_) ?_
                · have q0 := BE.out.cell 0
                  have q1 := BE.out.cell 1
                  have q2 := BE.out.cell 2
                  have q3 := BE.out.cell 3
                  have y0 := BE.out.frozen 0
                  have y1 := BE.out.frozen 1
                  have y2 := BE.out.frozen 2
                  have y3 := BE.out.frozen 3
                  simp only [List.getElem?_toArray, List.getElem?_cons_succ, List.getElem?_cons_zero] at q0 q1 q2 q3
                  go_simp
                  refine hK.out _ _ ?_ (fun hH => ?_)
                  · exact (((HFx.out.setCell (p := ⟨gE, 0, none⟩) (.inr hE0) _).setCell (p := ⟨gE, 1, none⟩) (.inr hE0) _).setCell (p := ⟨gE, 2, none⟩) (.inr hE0) _).setCell (p := ⟨gE, 3, none⟩) (.inr hE0) _
                  clear hK K
                  refine wpAnyH_ready (rs := [17]) (by kernel_rfl) (by simp) ?_
                  refine AllReadyH.cons rfl (fun K hK => ?_) ?_
                  · have bT4 := (((BT.out.far (p := ⟨gE, 0, none⟩) (fun e => hne e.symm) (.bool b)).far (p := ⟨gE, 1, none⟩) (fun e => hne e.symm) (.int .u32 x)).far (p := ⟨gE, 2, none⟩) (fun e => hne e.symm) (.int .u32 y)).far (p := ⟨gE, 3, none⟩) (fun e => hne e.symm) (.int .u32 z)
                    have p0 := bT4.cell 0
                    have p1 := bT4.cell 1
                    have v0_ := bT4.frozen 0
                    have v1_ := bT4.frozen 1
                    simp only [List.getElem?_toArray, List.getElem?_cons_succ, List.getElem?_cons_zero] at p0 p1
                    clear bT4 q0 q1 q2 q3 y0 y1 y2 y3
                    go_simp
                    refine hK.out _ _ ?_ (fun hH => ?_)
                    · exact (((((HFx.out.setCell (p := ⟨gE, 0, none⟩) (.inr hE0) _).setCell (p := ⟨gE, 1, none⟩) (.inr hE0) _).setCell (p := ⟨gE, 2, none⟩) (.inr hE0) _).setCell (p := ⟨gE, 3, none⟩) (.inr hE0) _).setCell (p := ⟨gT, 0, none⟩) (.inr hT0) _).setCell (p := ⟨gT, 1, none⟩) (.inr hT0) _
                    clear hK K
                    refine wpAnyH_done (by kernel_rfl) ?_ _
                    go_wp2_with fail
                    go_meet
                    exact six_end HMx.out HFx.out (Fr.refl _ _) hE0 hT0 hne BE.out BT.out hno b x y z t q
                  exact AllReadyH.nil
                exact AllReadyH.nil
              exact AllReadyH.nil
            refine AllReadyH.cons rfl (fun K hK => ?_) ?_
            · go_simp
              refine hK.out _ _ ?_ (fun hH => ?_)
              · exact hH.alloc _
              clear hK K
              obtain ⟨gT, hgT⟩ : ∃ g, g = wx.heap.size := ⟨_, rfl⟩
              obtain ⟨wy, hwy⟩ : ∃ wy, wy = wx.alloc (.cells #[.int .i64 0, .int .u32 0] 63) := ⟨_, rfl⟩
              have fy : Fr (fun _ => False) wx wy := by rw [hwy]; exact (Fr.refl _ _).alloc _
              have BT := Lib.hid (show Blk wy gT 63 #[.int .i64 0, .int .u32 0] by rw [hwy]; exact Blk.new' _ _ _ hgT.symm)
              have hT0 : w2.heap.size ≤ gT := by have := HFx.out.size; omega
              have hTl : gT < wy.heap.size := BT.out.lt
              try have hne : gE ≠ gT := by omega
              try have BE := Lib.hid (BE.out.fr fy (fun e => e))
              have hsy := fy.size
              try have hEl : gE < wy.heap.size := by omega
              have HMx := Lib.hid (HMx.out.fr0 fy)
              have HFx := Lib.hid (HFx.out.tr fy.none)
              rw [← hwy] at hH ⊢
              rw [← hgT]
              clear hwy hgT fy hsy
              obtain ⟨wx, rfl⟩ : ∃ z, z = wy := ⟨_, rfl⟩
              refine wpAnyH_ready (rs := [14]) (by kernel_rfl) (by simp) ?_
              refine AllReadyH.cons rfl (fun K hK => ?_) ?_
              · go_simp
                refine hK.out _ _ ?_ (fun hH => ?_)
                · exact hH.alloc _
                clear hK K
                obtain ⟨gE, hgE⟩ : ∃ g, g = wx.heap.size := ⟨_, rfl⟩
                obtain ⟨wy, hwy⟩ : ∃ wy, wy = wx.alloc (.cells #[.bool false, .int .u32 0, .int .u32 0, .int .u32 0] 132) := ⟨_, rfl⟩
                have fy : Fr (fun _ => False) wx wy := by rw [hwy]; exact (Fr.refl _ _).alloc _
                have BE := Lib.hid (show Blk wy gE 132 #[.bool false, .int .u32 0, .int .u32 0, .int .u32 0] by rw [hwy]; exact Blk.new' _ _ _ hgE.symm)
                have hE0 : w2.heap.size ≤ gE := by have := HFx.out.size; omega
                have hEl : gE < wy.heap.size := BE.out.lt
                try have hne : gE ≠ gT := by omega
                try have BT := Lib.hid (BT.out.fr fy (fun e => e))
                have hsy := fy.size
                try have hTl : gT < wy.heap.size := by omega
                have HMx := Lib.hid (HMx.out.fr0 fy)
                have HFx := Lib.hid (HFx.out.tr fy.none)
                rw [← hwy] at hH ⊢
                rw [← hgE]
                clear hwy hgE fy hsy
                obtain ⟨wx, rfl⟩ : ∃ z, z = wy := ⟨_, rfl⟩
                refine wpAnyH_ready (rs := [16]) (by kernel_rfl) (by simp) ?_
                refine AllReadyH.cons rfl (fun K hK => ?_) ?_
                · have q0 := BE.out.cell 0
                  have q1 := BE.out.cell 1
                  have q2 := BE.out.cell 2
                  have q3 := BE.out.cell 3
                  have y0 := BE.out.frozen 0
                  have y1 := BE.out.frozen 1
                  have y2 := BE.out.frozen 2
                  have y3 := BE.out.frozen 3
                  simp only [List.getElem?_toArray, List.getElem?_cons_succ, List.getElem?_cons_zero] at q0 q1 q2 q3
                  go_simp
                  refine hK.out _ _ ?_ (fun hH => ?_)
                  · exact (((HFx.out.setCell (p := ⟨gE, 0, none⟩) (.inr hE0) _).setCell (p := ⟨gE, 1, none⟩) (.inr hE0) _).setCell (p := ⟨gE, 2, none⟩) (.inr hE0) _).setCell (p := ⟨gE, 3, none⟩) (.inr hE0) _
                  clear hK K
                  refine wpAnyH_ready (rs := [17]) (by kernel_rfl) (by simp) ?_
                  refine AllReadyH.cons rfl (fun K hK => ?_) ?_
                  · have bT4 := (((BT.out.far (p := ⟨gE, 0, none⟩) (fun e => hne e.symm) (.bool b)).far (p := ⟨gE, 1, none⟩) (fun e => hne e.symm) (.int .u32 x)).far (p := ⟨gE, 2, none⟩) (fun e => hne e.symm) (.int .u32 y)).far (p := ⟨gE, 3, none⟩) (fun e => hne e.symm) (.int .u32 z)
                    have p0 := bT4.cell 0
                    have p1 := bT4.cell 1
                    have v0_ := bT4.frozen 0
                    have v1_ := bT4.frozen 1
                    simp only [List.getElem?_toArray, List.getElem?_cons_succ, List.getElem?_cons_zero] at p0 p1
                    clear bT4 q0 q1 q2 q3 y0 y1 y2 y3
                    go_simp
                    refine hK.out _ _ ?_ (fun hH => ?_)
                    · exact (((((HFx.out.setCell (p := ⟨gE, 0, none⟩) (.inr hE0) _).setCell (p := ⟨gE, 1, none⟩) (.inr hE0) _).setCell (p := ⟨gE, 2, none⟩) (.inr hE0) _).setCell (p := ⟨gE, 3, none⟩) (.inr hE0) _).setCell (p := ⟨gT, 0, none⟩) (.inr hT0) _).setCell (p := ⟨gT, 1, none⟩) (.inr hT0) _
                    clear hK K
                    refine wpAnyH_done (by kernel_rfl) ?_ _
                    go_wp2_with fail
                    go_meet
                    exact six_end HMx.out HFx.out (Fr.refl _ _) hE0 hT0 hne BE.out BT.out hno b x y z t q
                  exact AllReadyH.nil
                exact AllReadyH.nil
              exact AllReadyH.nil
            exact AllReadyH.nil
          refine AllReadyH.cons rfl (fun K hK => ?_) ?_
          · go_simp
            refine hK.out _ _ ?_ (fun hH => ?_)
            · exact hH.alloc _
            clear hK K
            obtain ⟨gE, hgE⟩ : ∃ g, g = wx.heap.size := ⟨_, rfl⟩
            obtain ⟨wy, hwy⟩ : ∃ wy, wy = wx.alloc (.cells #[.bool false, .int .u32 0, .int .u32 0, .int .u32 0] 132) := ⟨_, rfl⟩
            have fy : Fr (fun _ => False) wx wy := by rw [hwy]; exact (Fr.refl _ _).alloc _
            have BE := Lib.hid (show Blk wy gE 132 #[.bool false, .int .u32 0, .int .u32 0, .int .u32 0] by rw [hwy]; exact Blk.new' _ _ _ hgE.symm)
            have hE0 : w2.heap.size ≤ gE := by have := HFx.out.size; omega
            have hEl : gE < wy.heap.size := BE.out.lt
            try have hne : gE ≠ gT := by omega
            try have BT := Lib.hid (BT.out.fr fy (fun e => e))
            have hsy := fy.size
            try have hTl : gT < wy.heap.size := by omega
            have HMx := Lib.hid (HMx.out.fr0 fy)
            have HFx := Lib.hid (HFx.out.tr fy.none)
            rw [← hwy] at hH ⊢
            rw [← hgE]
            clear hwy hgE fy hsy
            obtain ⟨wx, rfl⟩ : ∃ z, z = wy := ⟨_, rfl⟩
            refine wpAnyH_ready (rs := [10, 15]) (by kernel_rfl) (by simp) ?_
            refine AllReadyH.cons rfl (fun K hK => ?_) ?_
            · go_simp
              go_wp2_with (refine Calls.mono (HD.out wx HMx.out) ?_; rintro e wy ⟨rfl, hMy, fy⟩)
              refine hK.out _ _ ?_ (fun hH => ?_)
              · exact HFx.out.tr fy
              clear hK K
              try have BE := Lib.hid (BE.out.fr fy (hno _ hE0))
              try have BT := Lib.hid (BT.out.fr fy (hno _ hT0))
              have HMx := Lib.hid hMy
              have HFx := Lib.hid (HFx.out.tr fy)
              have hsy := fy.size
              try have hEl : gE < wy.heap.size := by omega
              try have hTl : gT < wy.heap.size := by omega
              clear fy hMy hsy
              obtain ⟨wx, rfl⟩ : ∃ z, z = wy := ⟨_, rfl⟩
              refine wpAnyH_take (i := 11) (v := ?_) rfl (by kernel_rfl) (by kernel_rfl) (by kernel_rfl) (fun _ _ _ h => h) (Or.inl ⟨by kernel_rfl, ?_⟩) hH ?_
              rotate_left
              · (intro W hSw; have k0 := hSw.cell d0 hUl hUn; have k1 := hSw.cell t1 hBl hBn; have k2 := hSw.cell t2 hBl hBn; go_simp; try with_reducible rfl)
              refine wpAnyH_take (i := 12) (v := ?_) rfl (by kernel_rfl) (by kernel_rfl) (by kernel_rfl) (fun _ _ _ h => h) (Or.inl ⟨by kernel_rfl, ?_⟩) hH ?_
              rotate_left
              · (intro W hSw; have k0 := hSw.cell d0 hUl hUn; have k1 := hSw.cell t1 hBl hBn; have k2 := hSw.cell t2 hBl hBn; go_simp; try with_reducible rfl)
              refine wpAnyH_take (i := 13) (v := ?_) rfl (by kernel_rfl) (by kernel_rfl) (by kernel_rfl) (fun _ _ _ h => h) (Or.inl ⟨by kernel_rfl, ?_⟩) hH ?_
              rotate_left
              · (intro W hSw; have k0 := hSw.cell d0 hUl hUn; have k1 := hSw.cell t1 hBl hBn; have k2 := hSw.cell t2 hBl hBn; go_simp; try with_reducible rfl)
              try simp only [Act.put, List.getElem_toArray, List.getElem_cons_zero, List.getElem_cons_succ, List.setIfInBounds_toArray, List.set_cons_zero, List.set_cons_succ]
              refine wpAnyH_ready (rs := [15]) (by kernel_rfl) (by simp) ?_
              refine AllReadyH.cons rfl (fun K hK => ?_) ?_
              · go_simp
                refine hK.out _ _ ?_ (fun hH => ?_)
                · exact hH.alloc _
                clear hK K
                obtain ⟨gT, hgT⟩ : ∃ g, g = wx.heap.size := ⟨_, rfl⟩
                obtain ⟨wy, hwy⟩ : ∃ wy, wy = wx.alloc (.cells #[.int .i64 0, .int .u32 0] 63) := ⟨_, rfl⟩
                have fy : Fr (fun _ => False) wx wy := by rw [hwy]; exact (Fr.refl _ _).alloc _
                have BT := Lib.hid (show Blk wy gT 63 #[.int .i64 0, .int .u32 0] by rw [hwy]; exact Blk.new' _ _ _ hgT.symm)
                have hT0 : w2.heap.size ≤ gT := by have := HFx.out.size; omega
                have hTl : gT < wy.heap.size := BT.out.lt
                try have hne : gE ≠ gT := by omega
                try have BE := Lib.hid (BE.out.fr fy (fun e => e))
                have hsy := fy.size
                try have hEl : gE < wy.heap.size := by omega
                have HMx := Lib.hid (HMx.out.fr0 fy)
                have HFx := Lib.hid (HFx.out.tr fy.none)
                rw [← hwy] at hH ⊢
                rw [← hgT]
                clear hwy hgT fy hsy
                obtain ⟨wx, rfl⟩ : ∃ z, z = wy := ⟨_, rfl⟩
                refine wpAnyH_ready (rs := [16]) (by kernel_rfl) (by simp) ?_
                refine AllReadyH.cons rfl (fun K hK => ?_) ?_
                · have q0 := BE.out.cell 0
                  have q1 := BE.out.cell 1
                  have q2 := BE.out.cell 2
                  have q3 := BE.out.cell 3
                  have y0 := BE.out.frozen 0
                  have y1 := BE.out.frozen 1
                  have y2 := BE.out.frozen 2
                  have y3 := BE.out.frozen 3
                  simp only [List.getElem?_toArray, List.getElem?_cons_succ, List.getElem?_cons_zero] at q0 q1 q2 q3
                  go_simp
                  refine hK.out _ _ ?_ (fun hH => ?_)
                  · exact (((HFx.out.setCell (p := ⟨gE, 0, none⟩) (.inr hE0) _).setCell (p := ⟨gE, 1, none⟩) (.inr hE0) _).setCell (p := ⟨gE, 2, none⟩) (.inr hE0) _).setCell (p := ⟨gE, 3, none⟩) (.inr hE0) _
                  clear hK K
                  refine wpAnyH_ready (rs := [17]) (by kernel_rfl) (by simp) ?_
                  refine AllReadyH.cons rfl (fun K hK => ?_) ?_
                  · have bT4 := (((BT.out.far (p := ⟨gE, 0, none⟩) (fun e => hne e.symm) (.bool b)).far (p := ⟨gE, 1, none⟩) (fun e => hne e.symm) (.int .u32 x)).far (p := ⟨gE, 2, none⟩) (fun e => hne e.symm) (.int .u32 y)).far (p := ⟨gE, 3, none⟩) (fun e => hne e.symm) (.int .u32 z)
                    have p0 := bT4.cell 0
                    have p1 := bT4.cell 1
                    have v0_ := bT4.frozen 0
                    have v1_ := bT4.frozen 1
                    simp only [List.getElem?_toArray, List.getElem?_cons_succ, List.getElem?_cons_zero] at p0 p1
                    clear bT4 q0 q1 q2 q3 y0 y1 y2 y3
                    go_simp
                    refine hK.out _ _ ?_ (fun hH => ?_)
                    · exact (((((HFx.out.setCell (p := ⟨gE, 0, none⟩) (.inr hE0) _).setCell (p := ⟨gE, 1, none⟩) (.inr hE0) _).setCell (p := ⟨gE, 2, none⟩) (.inr hE0) _).setCell (p := ⟨gE, 3, none⟩) (.inr hE0) _).setCell (p := ⟨gT, 0, none⟩) (.inr hT0) _).setCell (p := ⟨gT, 1, none⟩) (.inr hT0) _
                    clear hK K
                    refine wpAnyH_done (by kernel_rfl) ?_ _
                    go_wp2_with fail
                    go_meet
                    exact six_end HMx.out HFx.out (Fr.refl _ _) hE0 hT0 hne BE.out BT.out hno b x y z t q
                  exact AllReadyH.nil
                exact AllReadyH.nil
              exact AllReadyH.nil
            refine AllReadyH.cons rfl (fun K hK => ?_) ?_
            · go_simp
              refine hK.out _ _ ?_ (fun hH => ?_)
              · exact hH.alloc _
              clear hK K
              obtain ⟨gT, hgT⟩ : ∃ g, g = wx.heap.size := ⟨_, rfl⟩
              obtain ⟨wy, hwy⟩ : ∃ wy, wy = wx.alloc (.cells #[.int .i64 0, .int .u32 0] 63) := ⟨_, rfl⟩
              have fy : Fr (fun _ => False) wx wy := by rw [hwy]; exact (Fr.refl _ _).alloc _
              have BT := Lib.hid (show Blk wy gT 63 #[.int .i64 0, .int .u32 0] by rw [hwy]; exact Blk.new' _ _ _ hgT.symm)
              have hT0 : w2.heap.size ≤ gT := by have := HFx.out.size; omega
              have hTl : gT < wy.heap.size := BT.out.lt
              try have hne : gE ≠ gT := by omega
              try have BE := Lib.hid (BE.out.fr fy (fun e => e))
              have hsy := fy.size
              try have hEl : gE < wy.heap.size := by omega
              have HMx := Lib.hid (HMx.out.fr0 fy)
              have HFx := Lib.hid (HFx.out.tr fy.none)
              rw [← hwy] at hH ⊢
              rw [← hgT]
              clear hwy hgT fy hsy
              obtain ⟨wx, rfl⟩ : ∃ z, z = wy := ⟨_, rfl⟩
              refine wpAnyH_ready (rs := [10]) (by kernel_rfl) (by simp) ?_
              refine AllReadyH.cons rfl (fun K hK => ?_) ?_
              · go_simp
                go_wp2_with (refine Calls.mono (HD.out wx HMx.out) ?_; rintro e wy ⟨rfl, hMy, fy⟩)
                refine hK.out _ _ ?_ (fun hH => ?_)
                · exact HFx.out.tr fy
                clear hK K
                try have BE := Lib.hid (BE.out.fr fy (hno _ hE0))
                try have BT := Lib.hid (BT.out.fr fy (hno _ hT0))
                have HMx := Lib.hid hMy
                have HFx := Lib.hid (HFx.out.tr fy)
                have hsy := fy.size
                try have hEl : gE < wy.heap.size := by omega
                try have hTl : gT < wy.heap.size := by omega
                clear fy hMy hsy
                obtain ⟨wx, rfl⟩ : ∃ z, z = wy := ⟨_, rfl⟩
                refine wpAnyH_take (i := 11) (v := ?_) rfl (by kernel_rfl) (by kernel_rfl) (by kernel_rfl) (fun _ _ _ h => h) (Or.inl ⟨by kernel_rfl, ?_⟩) hH ?_
                rotate_left
                · (intro W hSw; have k0 := hSw.cell d0 hUl hUn; have k1 := hSw.cell t1 hBl hBn; have k2 := hSw.cell t2 hBl hBn; go_simp; try with_reducible rfl)
                refine wpAnyH_take (i := 12) (v := ?_) rfl (by kernel_rfl) (by kernel_rfl) (by kernel_rfl) (fun _ _ _ h => h) (Or.inl ⟨by kernel_rfl, ?_⟩) hH ?_
                rotate_left
                · (intro W hSw; have k0 := hSw.cell d0 hUl hUn; have k1 := hSw.cell t1 hBl hBn; have k2 := hSw.cell t2 hBl hBn; go_simp; try with_reducible rfl)
                refine wpAnyH_take (i := 13) (v := ?_) rfl (by kernel_rfl) (by kernel_rfl) (by kernel_rfl) (fun _ _ _ h => h) (Or.inl ⟨by kernel_rfl, ?_⟩) hH ?_
                rotate_left
                · (intro W hSw; have k0 := hSw.cell d0 hUl hUn; have k1 := hSw.cell t1 hBl hBn; have k2 := hSw.cell t2 hBl hBn; go_simp; try with_reducible rfl)
                try simp only [Act.put, List.getElem_toArray, List.getElem_cons_zero, List.getElem_cons_succ, List.setIfInBounds_toArray, List.set_cons_zero, List.set_cons_succ]
                refine wpAnyH_ready (rs := [16]) (by kernel_rfl) (by simp) ?_
                refine AllReadyH.cons rfl (fun K hK => ?_) ?_
                · have q0 := BE.out.cell 0
                  have q1 := BE.out.cell 1
                  have q2 := BE.out.cell 2
                  have q3 := BE.out.cell 3
                  have y0 := BE.out.frozen 0
                  have y1 := BE.out.frozen 1
                  have y2 := BE.out.frozen 2
                  have y3 := BE.out.frozen 3
                  simp only [List.getElem?_toArray, List.getElem?_cons_succ, List.getElem?_cons_zero] at q0 q1 q2 q3
                  go_simp
                  refine hK.out _ _ ?_ (fun hH => ?_)
                  · exact (((HFx.out.setCell (p := ⟨gE, 0, none⟩) (.inr hE0) _).setCell (p := ⟨gE, 1, none⟩) (.inr hE0) _).setCell (p := ⟨gE, 2, none⟩) (.inr hE0) _).setCell (p := ⟨gE, 3, none⟩) (.inr hE0) _
                  clear hK K
                  refine wpAnyH_ready (rs := [17]) (by kernel_rfl) (by simp) ?_
                  refine AllReadyH.cons rfl (fun K hK => ?_) ?_
                  · have bT4 := (((BT.out.far (p := ⟨gE, 0, none⟩) (fun e => hne e.symm) (.bool b)).far (p := ⟨gE, 1, none⟩) (fun e => hne e.symm) (.int .u32 x)).far (p := ⟨gE, 2, none⟩) (fun e => hne e.symm) (.int .u32 y)).far (p := ⟨gE, 3, none⟩) (fun e => hne e.symm) (.int .u32 z)
                    have p0 := bT4.cell 0
                    have p1 := bT4.cell 1
                    have v0_ := bT4.frozen 0
                    have v1_ := bT4.frozen 1
                    simp only [List.getElem?_toArray, List.getElem?_cons_succ, List.getElem?_cons_zero] at p0 p1
                    clear bT4 q0 q1 q2 q3 y0 y1 y2 y3
                    go_simp
                    refine hK.out _ _ ?_ (fun hH => ?_)
                    · exact (((((HFx.out.setCell (p := ⟨gE, 0, none⟩) (.inr hE0) _).setCell (p := ⟨gE, 1, none⟩) (.inr hE0) _).setCell (p := ⟨gE, 2, none⟩) (.inr hE0) _).setCell (p := ⟨gE, 3, none⟩) (.inr hE0) _).setCell (p := ⟨gT, 0, none⟩) (.inr hT0) _).setCell (p := ⟨gT, 1, none⟩) (.inr hT0) _
                    clear hK K
                    refine wpAnyH_done (by kernel_rfl) ?_ _
                    go_wp2_with fail
                    go_meet
                    exact six_end HMx.out HFx.out (Fr.refl _ _) hE0 hT0 hne BE.out BT.out hno b x y z t q
                  exact AllReadyH.nil
                exact AllReadyH.nil
              exact AllReadyH.nil
            exact AllReadyH.nil
          refine AllReadyH.cons rfl (fun K hK => ?_) ?_
          · go_simp
            refine hK.out _ _ ?_ (fun hH => ?_)
            · exact hH.alloc _
            clear hK K
            obtain ⟨gT, hgT⟩ : ∃ g, g = wx.heap.size := ⟨_, rfl⟩
            obtain ⟨wy, hwy⟩ : ∃ wy, wy = wx.alloc (.cells #[.int .i64 0, .int .u32 0] 63) := ⟨_, rfl⟩
            have fy : Fr (fun _ => False) wx wy := by rw [hwy]; exact (Fr.refl _ _).alloc _
            have BT := Lib.hid (show Blk wy gT 63 #[.int .i64 0, .int .u32 0] by rw [hwy]; exact Blk.new' _ _ _ hgT.symm)
            have hT0 : w2.heap.size ≤ gT := by have := HFx.out.size; omega
            have hTl : gT < wy.heap.size := BT.out.lt
            try have hne : gE ≠ gT := by omega
            try have BE := Lib.hid (BE.out.fr fy (fun e => e))
            have hsy := fy.size
            try have hEl : gE < wy.heap.size := by omega
            have HMx := Lib.hid (HMx.out.fr0 fy)
            have HFx := Lib.hid (HFx.out.tr fy.none)
            rw [← hwy] at hH ⊢
            rw [← hgT]
            clear hwy hgT fy hsy
            obtain ⟨wx, rfl⟩ : ∃ z, z = wy := ⟨_, rfl⟩
            refine wpAnyH_ready (rs := [10, 14]) (by kernel_rfl) (by simp) ?_
            refine AllReadyH.cons rfl (fun K hK => ?_) ?_
            · go_simp
              go_wp2_with (refine Calls.mono (HD.out wx HMx.out) ?_; rintro e wy ⟨rfl, hMy, fy⟩)
              refine hK.out _ _ ?_ (fun hH => ?_)
              · exact HFx.out.tr fy
              clear hK K
              try have BE := Lib.hid (BE.out.fr fy (hno _ hE0))
              try have BT := Lib.hid (BT.out.fr fy (hno _ hT0))
              have HMx := Lib.hid hMy
              have HFx := Lib.hid (HFx.out.tr fy)
              have hsy := fy.size
              try have hEl : gE < wy.heap.size := by omega
              try have hTl : gT < wy.heap.size := by omega
              clear fy hMy hsy
              obtain ⟨wx, rfl⟩ : ∃ z, z = wy := ⟨_, rfl⟩
              refine wpAnyH_take (i := 11) (v := ?_) rfl (by kernel_rfl) (by kernel_rfl) (by kernel_rfl) (fun _ _ _ h => h) (Or.inl ⟨by kernel_rfl, ?_⟩) hH ?_
              rotate_left
              · (intro W hSw; have k0 := hSw.cell d0 hUl hUn; have k1 := hSw.cell t1 hBl hBn; have k2 := hSw.cell t2 hBl hBn; go_simp; try with_reducible rfl)
              refine wpAnyH_take (i := 12) (v := ?_) rfl (by kernel_rfl) (by kernel_rfl) (by kernel_rfl) (fun _ _ _ h => h) (Or.inl ⟨by kernel_rfl, ?_⟩) hH ?_
              rotate_left
              · (intro W hSw; have k0 := hSw.cell d0 hUl hUn; have k1 := hSw.cell t1 hBl hBn; have k2 := hSw.cell t2 hBl hBn; go_simp; try with_reducible rfl)
              refine wpAnyH_take (i := 13) (v := ?_) rfl (by kernel_rfl) (by kernel_rfl) (by kernel_rfl) (fun _ _ _ h => h) (Or.inl ⟨by kernel_rfl, ?_⟩) hH ?_
              rotate_left
              · (intro W hSw; have k0 := hSw.cell d0 hUl hUn; have k1 := hSw.cell t1 hBl hBn; have k2 := hSw.cell t2 hBl hBn; go_simp; try with_reducible rfl)
              try simp only [Act.put, List.getElem_toArray, List.getElem_cons_zero, List.getElem_cons_succ, List.setIfInBounds_toArray, List.set_cons_zero, List.set_cons_succ]
              refine wpAnyH_ready (rs := [14]) (by kernel_rfl) (by simp) ?_
              refine AllReadyH.cons rfl (fun K hK => ?_) ?_
              · go_simp
                refine hK.out _ _ ?_ (fun hH => ?_)
                · exact hH.alloc _
                clear hK K
                obtain ⟨gE, hgE⟩ : ∃ g, g = wx.heap.size := ⟨_, rfl⟩
                obtain ⟨wy, hwy⟩ : ∃ wy, wy = wx.alloc (.cells #[.bool false, .int .u32 0, .int .u32 0, .int .u32 0] 132) := ⟨_, rfl⟩
                have fy : Fr (fun _ => False) wx wy := by rw [hwy]; exact (Fr.refl _ _).alloc _
                have BE := Lib.hid (show Blk wy gE 132 #[.bool false, .int .u32 0, .int .u32 0, .int .u32 0] by rw [hwy]; exact Blk.new' _ _ _ hgE.symm)
                have hE0 : w2.heap.size ≤ gE := by have := HFx.out.size; omega
                have hEl : gE < wy.heap.size := BE.out.lt
                try have hne : gE ≠ gT := by omega
                try have BT := Lib.hid (BT.out.fr fy (fun e => e))
                have hsy := fy.size
                try have hTl : gT < wy.heap.size := by omega
                have HMx := Lib.hid (HMx.out.fr0 fy)
                have HFx := Lib.hid (HFx.out.tr fy.none)
                rw [← hwy] at hH ⊢
                rw [← hgE]
                clear hwy hgE fy hsy
                obtain ⟨wx, rfl⟩ : ∃ z, z = wy := ⟨_, rfl⟩
                refine wpAnyH_ready (rs := [16]) (by kernel_rfl) (by simp) ?_
                refine AllReadyH.cons rfl (fun K hK => ?_) ?_
                · have q0 := BE.out.cell 0
                  have q1 := BE.out.cell 1
                  have q2 := BE.out.cell 2
                  have q3 := BE.out.cell 3
                  have y0 := BE.out.frozen 0
                  have y1 := BE.out.frozen 1
                  have y2 := BE.out.frozen 2
                  have y3 := BE.out.frozen 3
                  simp only [List.getElem?_toArray, List.getElem?_cons_succ, List.getElem?_cons_zero] at q0 q1 q2 q3
                  go_simp
                  refine hK.out _ _ ?_ (fun hH => ?_)
                  · exact (((HFx.out.setCell (p := ⟨gE, 0, none⟩) (.inr hE0) _).setCell (p := ⟨gE, 1, none⟩) (.inr hE0) _).setCell (p := ⟨gE, 2, none⟩) (.inr hE0) _).setCell (p := ⟨gE, 3, none⟩) (.inr hE0) _
                  clear hK K
                  refine wpAnyH_ready (rs := [17]) (by kernel_rfl) (by simp) ?_
                  refine AllReadyH.cons rfl (fun K hK => ?_) ?_
                  · have bT4 := (((BT.out.far (p := ⟨gE, 0, none⟩) (fun e => hne e.symm) (.bool b)).far (p := ⟨gE, 1, none⟩) (fun e => hne e.symm) (.int .u32 x)).far (p := ⟨gE, 2, none⟩) (fun e => hne e.symm) (.int .u32 y)).far (p := ⟨gE, 3, none⟩) (fun e => hne e.symm) (.int .u32 z)
                    have p0 := bT4.cell 0
                    have p1 := bT4.cell 1
                    have v0_ := bT4.frozen 0
                    have v1_ := bT4.frozen 1
                    simp only [List.getElem?_toArray, List.getElem?_cons_succ, List.getElem?_cons_zero] at p0 p1
                    clear bT4 q0 q1 q2 q3 y0 y1 y2 y3
                    go_simp
                    refine hK.out _ _ ?_ (fun hH => ?_)
                    · exact (((((HFx.out.setCell (p := ⟨gE, 0, none⟩) (.inr hE0) _).setCell (p := ⟨gE, 1, none⟩) (.inr hE0) _).setCell (p := ⟨gE, 2, none⟩) (.inr hE0) _).setCell (p := ⟨gE, 3, none⟩) (.inr hE0) _).setCell (p := ⟨gT, 0, none⟩) (.inr hT0) _).setCell (p := ⟨gT, 1, none⟩) (.inr hT0) _
                    clear hK K
                    refine wpAnyH_done (by kernel_rfl) ?_ _
                    go_wp2_with fail
                    go_meet
                    exact six_end HMx.out HFx.out (Fr.refl _ _) hE0 hT0 hne BE.out BT.out hno b x y z t q
                  exact AllReadyH.nil
                exact AllReadyH.nil
              exact AllReadyH.nil
            refine AllReadyH.cons rfl (fun K hK => ?_) ?_
            · go_simp
              refine hK.out _ _ ?_ (fun hH => ?_)
              · exact hH.alloc _
              clear hK K
              obtain ⟨gE, hgE⟩ : ∃ g, g = wx.heap.size := ⟨_, rfl⟩
              obtain ⟨wy, hwy⟩ : ∃ wy, wy = wx.alloc (.cells #[.bool false, .int .u32 0, .int .u32 0, .int .u32 0] 132) := ⟨_, rfl⟩
              have fy : Fr (fun _ => False) wx wy := by rw [hwy]; exact (Fr.refl _ _).alloc _
              have BE := Lib.hid (show Blk wy gE 132 #[.bool false, .int .u32 0, .int .u32 0, .int .u32 0] by rw [hwy]; exact Blk.new' _ _ _ hgE.symm)
              have hE0 : w2.heap.size ≤ gE := by have := HFx.out.size; omega
              have hEl : gE < wy.heap.size := BE.out.lt
              try have hne : gE ≠ gT := by omega
              try have BT := Lib.hid (BT.out.fr fy (fun e => e))
              have hsy := fy.size
              try have hTl : gT < wy.heap.size := by omega
              have HMx := Lib.hid (HMx.out.fr0 fy)
              have HFx := Lib.hid (HFx.out.tr fy.none)
              rw [← hwy] at hH ⊢
              rw [← hgE]
              clear hwy hgE fy hsy
              obtain ⟨wx, rfl⟩ : ∃ z, z = wy := ⟨_, rfl⟩
              refine wpAnyH_ready (rs := [10]) (by kernel_rfl) (by simp) ?_
              refine AllReadyH.cons rfl (fun K hK => ?_) ?_
              · go_simp
                go_wp2_with (refine Calls.mono (HD.out wx HMx.out) ?_; rintro e wy ⟨rfl, hMy, fy⟩)
                refine hK.out _ _ ?_ (fun hH => ?_)
                · exact HFx.out.tr fy
                clear hK K
                try have BE := Lib.hid (BE.out.fr fy (hno _ hE0))
                try have BT := Lib.hid (BT.out.fr fy (hno _ hT0))
                have HMx := Lib.hid hMy
                have HFx := Lib.hid (HFx.out.tr fy)
                have hsy := fy.size
                try have hEl : gE < wy.heap.size := by omega
                try have hTl : gT < wy.heap.size := by omega
                clear fy hMy hsy
                obtain ⟨wx, rfl⟩ : ∃ z, z = wy := ⟨_, rfl⟩
                refine wpAnyH_take (i := 11) (v := ?_) rfl (by kernel_rfl) (by kernel_rfl) (by kernel_rfl) (fun _ _ _ h => h) (Or.inl ⟨by kernel_rfl, ?_⟩) hH ?_
                rotate_left
                · (intro W hSw; have k0 := hSw.cell d0 hUl hUn; have k1 := hSw.cell t1 hBl hBn; have k2 := hSw.cell t2 hBl hBn; go_simp; try with_reducible rfl)
                refine wpAnyH_take (i := 12) (v := ?_) rfl (by kernel_rfl) (by kernel_rfl) (by kernel_rfl) (fun _ _ _ h => h) (Or.inl ⟨by kernel_rfl, ?_⟩) hH ?_
                rotate_left
                · (intro W hSw; have k0 := hSw.cell d0 hUl hUn; have k1 := hSw.cell t1 hBl hBn; have k2 := hSw.cell t2 hBl hBn; go_simp; try with_reducible rfl)
                refine wpAnyH_take (i := 13) (v := ?_) rfl (by kernel_rfl) (by kernel_rfl) (by kernel_rfl) (fun _ _ _ h => h) (Or.inl ⟨by kernel_rfl, ?_⟩) hH ?_
                rotate_left
                · (intro W hSw; have k0 := hSw.cell d0 hUl hUn; have k1 := hSw.cell t1 hBl hBn; have k2 := hSw.cell t2 hBl hBn; go_simp; try with_reducible rfl)
                try simp only [Act.put, List.getElem_toArray, List.getElem_cons_zero, List.getElem_cons_succ, List.setIfInBounds_toArray, List.set_cons_zero, List.set_cons_succ]
                refine wpAnyH_ready (rs := [16]) (by kernel_rfl) (by simp) ?_
                refine AllReadyH.cons rfl (fun K hK => ?_) ?_
                · have q0 := BE.out.cell 0
                  have q1 := BE.out.cell 1
                  have q2 := BE.out.cell 2
                  have q3 := BE.out.cell 3
                  have y0 := BE.out.frozen 0
                  have y1 := BE.out.frozen 1
                  have y2 := BE.out.frozen 2
                  have y3 := BE.out.frozen 3
                  simp only [List.getElem?_toArray, List.getElem?_cons_succ, List.getElem?_cons_zero] at q0 q1 q2 q3
                  go_simp
                  refine hK.out _ _ ?_ (fun hH => ?_)
                  · exact (((HFx.out.setCell (p := ⟨gE, 0, none⟩) (.inr hE0) _).setCell (p := ⟨gE, 1, none⟩) (.inr hE0) _).setCell (p := ⟨gE, 2, none⟩) (.inr hE0) _).setCell (p := ⟨gE, 3, none⟩) (.inr hE0) _
                  clear hK K
                  refine wpAnyH_ready (rs := [17]) (by kernel_rfl) (by simp) ?_
                  refine AllReadyH.cons rfl (fun K hK => ?_) ?_
                  · have bT4 := (((BT.out.far (p := ⟨gE, 0, none⟩) (fun e => hne e.symm) (.bool b)).far (p := ⟨gE, 1, none⟩) (fun e => hne e.symm) (.int .u32 x)).far (p := ⟨gE, 2, none⟩) (fun e => hne e.symm) (.int .u32 y)).far (p := ⟨gE, 3, none⟩) (fun e => hne e.symm) (.int .u32 z)
                    have p0 := bT4.cell 0
                    have p1 := bT4.cell 1
                    have v0_ := bT4.frozen 0
                    have v1_ := bT4.frozen 1
                    simp only [List.getElem?_toArray, List.getElem?_cons_succ, List.getElem?_cons_zero] at p0 p1
                    clear bT4 q0 q1 q2 q3 y0 y1 y2 y3
                    go_simp
                    refine hK.out _ _ ?_ (fun hH => ?_)
                    · exact (((((HFx.out.setCell (p := ⟨gE, 0, none⟩) (.inr hE0) _).setCell (p := ⟨gE, 1, none⟩) (.inr hE0) _).setCell (p := ⟨gE, 2, none⟩) (.inr hE0) _).setCell (p := ⟨gE, 3, none⟩) (.inr hE0) _).setCell (p := ⟨gT, 0, none⟩) (.inr hT0) _).setCell (p := ⟨gT, 1, none⟩) (.inr hT0) _
                    clear hK K
                    refine wpAnyH_done (by kernel_rfl) ?_ _
                    go_wp2_with fail
                    go_meet
                    exact six_end HMx.out HFx.out (Fr.refl _ _) hE0 hT0 hne BE.out BT.out hno b x y z t q
                  exact AllReadyH.nil
                exact AllReadyH.nil
              exact AllReadyH.nil
            exact AllReadyH.nil
          exact AllReadyH.nil
        case rest =>
          obtain ⟨⟨gE, gT, rfl, rfl, hE0, hT0, hne, bE, bT⟩, hM3, f3⟩ := hcut
          have hown' : ∀ q, A.am.own q → q < w2.heap.size := fun q hq => by have := hown q hq; omega
          have H3 := HU2.out.setM hM3 f3
          have hB : w.heap.size + 1 < w2.heap.size := by omega
          have hBn : ¬ A.am.own (w.heap.size + 1) := fun e => by have := hown _ e; omega
          have b3 := BB2.out.fr f3 hBn
          have e0 := bT.cell 0
          have e1 := bT.cell 1
          have e2 := b3.cell 0
          have e3 := b3.cell 1
          have e4 := b3.frozen 0
          have e5 := b3.frozen 1
          simp only [List.getElem?_toArray, List.getElem?_cons_succ, List.getElem?_cons_zero] at e0 e1 e2 e3
          have H3h := Lib.hid H3
          have B3h := Lib.hid b3
          have BEh := Lib.hid bE
          have BTh := Lib.hid bT
          have F3h := Lib.hid (F2.out.none.trans f3 (S := A.wr) (fun i hi e => .inr e))
          clear d0 d1 t0 t1 t2 hM3 f3 H3 b3 bE bT HD
          rcases HC.out with ⟨ho, rfl, rfl, rfl, rfl, rfl, rfl, rfl⟩ | ⟨ho, ht, rfl, rfl⟩
          · have hres : res = ⟨now k (lkLeaf u.m rt va) / 256 * 64 + va % 64, 0, 0, ⟨doMs u.m rt va k, Tl.upd u.l (idx va) ⟨true, va / 64, now k (lkLeaf u.m rt va) / 256, bits .and .u32 (now k (lkLeaf u.m rt va)) 94⟩⟩⟩ := by rw [HR.out, if_neg (by simp), if_pos ho]; rfl
            have hfb0 := lkLeaf_bd HU2.out.M rt va r0 v0
            have hnb := now_bd k _ hfb0.1 hfb0.2
            have BEc0 := BEh.out.cell 0
            have BEc1 := BEh.out.cell 1
            have BEc2 := BEh.out.cell 2
            have BEc3 := BEh.out.cell 3
            simp only [List.getElem?_toArray, List.getElem?_cons_succ, List.getElem?_cons_zero] at BEc0 BEc1 BEc2 BEc3
            have g0 := H3h.out.c1
            have hgUl : A.gU < wc.heap.size := H3h.out.b.lt
            have hEl := BEh.out.lt
            have hTl := BTh.out.lt
            have hBl := B3h.out.lt
            have hlw : ∀ q, A.wr q → q < w.heap.size := fun q hq => hl q (.inr hq)
            have hgB : A.gB < w.heap.size := hlw _ (.inl rfl)
            have Hfill := Lib.hid (Tl.fill_yes wc.drew A.gB u.l ⟨true, va / 64, now k (lkLeaf u.m rt va) / 256, bits .and .u32 (now k (lkLeaf u.m rt va)) 94⟩ H3h.out.B.drew rfl (by show 0 ≤ va / 64; omega))
            clear HC HR hfb0
            generalize doMs u.m rt va k = md at *
            generalize bits .and .u32 (now k (lkLeaf u.m rt va)) 94 = zb at *
            have hp0 : 0 ≤ now k (lkLeaf u.m rt va) / 256 := by omega
            have hp1 : now k (lkLeaf u.m rt va) / 256 ≤ 16777215 := by omega
            generalize now k (lkLeaf u.m rt va) / 256 = pf at *
            have HRES := Lib.hid hres
            clear hnb hres
            go_upto_region 9 with (fail)
            go_cut [] (fun wx => Tl.Buf wx A.gB (Tl.upd u.l (idx va) ⟨true, va / 64, pf, zb⟩) ∧ Fr (· = A.gB) wc wx)
            case first =>
              go_region_with ((go_at_call 98; refine (Hfill.out).mono ?_; rintro e w4 ⟨rfl, hB4, f4⟩))
              all_goals
                go_wp2_with fail
                go_meet
                exact ⟨hB4, (Fr.refl (· = A.gB) wc).drew.tr f4⟩
            case rest =>
              obtain ⟨hB4, f4⟩ := hcut
              have H4 := H3h.out.setB hB4 f4
              have b4 := B3h.out.fr f4 (by omega)
              have l4 := BEh.out.fr f4 (by omega)
              have t4 := BTh.out.fr f4 (by omega)
              have l2 := l4.cell 2
              have e0 := t4.cell 0
              have e1 := t4.cell 1
              have e2 := b4.cell 0
              have e3 := b4.cell 1
              have e4 := b4.frozen 0
              have e5 := b4.frozen 1
              simp only [List.getElem?_toArray, List.getElem?_cons_succ, List.getElem?_cons_zero] at e0 e1 e2 e3 l2
              have F4 := F3h.out.trans f4 (S := A.wr) (fun i hi e => .inl e)
              have HF := Lib.hid (trap_in b4.drew H4.drew F4.drew hl (Nat.le_succ _) (.int .i64 0) (.int .u32 0))
              have HG := Lib.hid (trap_in b4 H4 F4 hl (Nat.le_succ _) (.int .i64 0) (.int .u32 0))
              clear H4 b4 l4 t4 F4 f4 hB4
              go_wp2_with fail
              go_region
              all_goals
                go_wp2_with fail
                try simp only [Exit.inBlock, Exit.then]
                first
                  | (refine bodyPost_ret (results_tc rfl _ _ (w.heap.size + 1) 63 _ _ _ rfl rfl HF.out.1 Try.underlying63 rfl szT) rfl ?_
                     rw [HRES.out]
                     exact ⟨rfl, HF.out.2⟩)
                  | (refine bodyPost_ret (results_tc rfl _ _ (w.heap.size + 1) 63 _ _ _ rfl rfl HG.out.1 Try.underlying63 rfl szT) rfl ?_
                     rw [HRES.out]
                     exact ⟨rfl, HG.out.2⟩)
                  | (refine bodyPost_ret (results_tc rfl _ _ (w.heap.size + 1) 63 _ _ _ rfl rfl HG.out.1.drew Try.underlying63 rfl szT) rfl ?_
                     rw [HRES.out]
                     exact ⟨rfl, HG.out.2.1.drew, HG.out.2.2.drew⟩)
          · obtain rfl : res = ⟨0, t, q, u⟩ := by rw [HR.out, if_neg (by simp), if_neg (by simp [ho]), ht]
            have hf0 : (t != 0) = true := by rw [ht]; rcases hk with rfl | rfl | rfl <;> decide
            clear ht HC HR
            go_wp2_with fail
            go_region
            all_goals
              go_wp2_with fail
              try simp only [Exit.inBlock, Exit.then]
              have hf := trap_in B3h.out.drew H3h.out.drew F3h.out.drew hl (by omega) (.int .i64 t) (.int .u32 q)
              exact bodyPost_ret (results_tc rfl _ _ (w.heap.size + 1) 63 _ _ _ rfl rfl hf.1 Try.underlying63 rfl szT) rfl ⟨rfl, hf.2⟩
      · obtain rfl : res = ⟨fd, 0, 0, u⟩ := by rw [HR.out, if_pos rfl]
        go_wp2_with fail
        try simp only [Exit.inBlock, Exit.then]
        have hf := trap_in BB2.out HU2.out F2.out.none hl (Nat.le_succ _) (.int .i64 0) (.int .u32 0)
        exact bodyPost_ret (results_tc rfl _ _ (w.heap.size + 1) 63 _ _ _ rfl rfl hf.1 Try.underlying63 rfl szT) rfl ⟨rfl, hf.2⟩
end Go.Proofs.Ythiephlfhbkcbaa.Mu
