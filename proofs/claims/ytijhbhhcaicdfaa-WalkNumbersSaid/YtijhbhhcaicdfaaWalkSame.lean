/- A walk and the document's, side by side (innkeeperlaw8.same). -/
import Derived.Test.YtijhbhhcaicdfaaWalkQ
import Derived.Test.YtijhbhhcaicdfaaSame64
import Derived.Deep.RegionHeld
namespace Go.Proofs.Ytijhbhhcaicdfaa.Wk
open Go.RowKit Fm Nt Rm By Rf
set_option linter.unusedVariables false
set_option maxHeartbeats 8000000

theorem turnN_end (m : Ms) (h : ∀ k, m.n ≤ k → k < 64 → m.tu k = false) : ∀ j, m.n ≤ j → j ≤ 64 → turnN m j = turnN m m.n := by
  intro j
  induction j with
  | zero => intro h0 _; rw [show m.n = 0 by omega]
  | succ j ih =>
    intro h0 h1
    by_cases e : m.n = j + 1
    · rw [e]
    · rw [turnN_no m j (h j (by omega) (by omega)), ih (by omega) (by omega)]
theorem turnN_wf (m : Ms) (k : Nat) (hk : k ≤ 64) : ∀ z ∈ turnN m k, (Lit.int .i64 z).wf = true := by
  intro z hz
  simp only [turnN, List.mem_map, List.mem_filter, List.mem_range] at hz
  obtain ⟨y, ⟨h1, _⟩, rfl⟩ := hz
  exact wf_i64_mk (n := Int.ofNat y) (by show -9223372036854775808 ≤ (y : Int); omega) (by show (y : Int) ≤ 9223372036854775807; omega)
/-- a memory, and the document's -/
structure WP (w : World) (a : Am) (gM gb gt : Nat) (m : Ms) : Prop where
  M : Mem w a m
  R : RM w gM gb gt m.n m.mem m.tu
  tu : ∀ k, m.n ≤ k → k < 64 → m.tu k = false
/-- both walks hand back the same, and leave the same -/
theorem both_do (w : World) (a : Am) (gM gb gt : Nat) (m : Ms) (h : WP w a gM gb gt m) (root va k : Int) (s : Bool) (r0 : 0 ≤ root) (r1 : root ≤ 4294967295) (v0 : 0 ≤ va) (v1 : va ≤ 4294967295) :
    ∃ (b : Bool) (x y z t u : Int) (m' : Ms), m'.n = m.n ∧ (∀ k, m'.n ≤ k → k < 64 → m'.tu k = false) ∧
      (∀ W, Mem W a m → Calls Try.prog 19 #[.pointer (some ⟨a.gm, 0, none⟩), .int .u32 root, .int .u32 va, .int .i64 k, .bool s] W fun e w' => e = .returned (.tuple #[.agg #[.bool b, .int .u32 x, .int .u32 y, .int .u32 z], .agg #[.int .i64 t, .int .u32 u]]) ∧ Mem w' a m' ∧ Fr a.own W w') ∧
      (∀ W, RM W gM gb gt m.n m.mem m.tu → Calls Try.prog 40 #[.pointer (some ⟨gM, 0, none⟩), .int .u32 root, .int .u32 va, .int .i64 k, .bool s] W fun e w' => e = .returned (.tuple #[.agg #[.bool b, .int .u32 x, .int .u32 y, .int .u32 z], .agg #[.int .i64 t, .int .u32 u]]) ∧ RM w' gM gb gt m'.n m'.mem m'.tu ∧ Fr (fun q => q = gb ∨ q = gt) W w') := by
  have hn := h.M.n0
  have hbd := h.M.bd
  have hwb := fun Q (q : 0 ≤ Q) => wrdV_bd h.M Q q
  by_cases hk : k = 1 ∨ k = 2 ∨ k = 3
  · cases hd : doOk m root va k s
    · exact ⟨false, 0, 0, 0, flt k, va, m, rfl, h.tu, fun W hM => (do_fault W a m hM root va k s r0 r1 v0 v1 hk hd).mono fun e w' ⟨h1, h2⟩ => ⟨h1, hM.fr0 h2, h2.none⟩,
        fun W hR => (rdo_fault W gM gb gt m hR (by omega) hbd hwb root va k s r0 r1 v0 v1 hk hd).mono fun e w' ⟨h1, h2⟩ => ⟨h1, hR.fr0 h2, h2.none⟩⟩
    · have hlo : lkOk m root va = true := by cases hq : lkOk m root va <;> simp [doOk, hq] at hd ⊢
      have hin : inB m (lkAt m root va) 4 = true := by
        have hq := hlo
        simp only [lkOk, Bool.and_eq_true] at hq
        rw [lkAt, hlo, if_pos rfl]
        exact hq.2.2.2
      have hb1 := lkLeaf_bd h.M root va r0 v0
      have hA := lkAt_bd h.M root va r0 v0
      have D := doneLaws h.M root va k r0 v0 hlo
      have ht : ∀ k', (doMs m root va k).n ≤ k' → k' < 64 → (doMs m root va k).tu k' = false := by
        intro k' h1 h2
        rw [D.n] at h1
        unfold doMs
        split
        · exact h.tu k' h1 h2
        · rw [Ms.putW, hin, if_pos rfl, puts_tu, h.tu k' h1 h2, Bool.false_or]
          unfold hits
          have : lkAt m root va + 4 ≤ (m.n : Int) * 64 := by simpa [inB] using hin
          exact decide_eq_false (by rintro ⟨j, h3, h4⟩; omega)
      exact ⟨true, va / 64, now k (lkLeaf m root va) / 256, bits .and .u32 (now k (lkLeaf m root va)) 94, 0, 0, doMs m root va k, D.n, ht,
        fun W hM => do_ok W a m hM root va k s r0 r1 v0 v1 hk hd,
        fun W hR => (rdo_ok W gM gb gt m hR (by omega) hbd hwb root va k s r0 r1 v0 v1 hk hd hb1 hA hin).mono fun e w' ⟨h1, h2, h3⟩ => ⟨h1, by rw [D.n]; exact h2, h3⟩⟩
  · exact ⟨false, 0, 0, 0, 10, va, m, rfl, h.tu, fun W hM => (do_other W a.gm root va k s hk).mono fun e w' ⟨h1, h2⟩ => ⟨h1, hM.fr0 h2, h2.none⟩,
      fun W hR => (rdo_other W gM root va k s hk).mono fun e w' ⟨h1, h2⟩ => ⟨h1, hR.fr0 h2, h2.none⟩⟩
def S8 (g g' gM gb NN : Nat) (es ts : Array Value) (qm : ByteArray) (W : World) : Prop :=
  (W.cell? ⟨g, 0, none⟩ = es[0]? ∧ W.cell? ⟨g, 1, none⟩ = es[1]? ∧ W.cell? ⟨g, 2, none⟩ = es[2]? ∧ W.cell? ⟨g, 3, none⟩ = es[3]? ∧ W.cell? ⟨g + 1, 0, none⟩ = ts[0]? ∧ W.cell? ⟨g + 1, 1, none⟩ = ts[1]?) ∧
  (W.cell? ⟨g', 0, none⟩ = es[0]? ∧ W.cell? ⟨g', 1, none⟩ = es[1]? ∧ W.cell? ⟨g', 2, none⟩ = es[2]? ∧ W.cell? ⟨g', 3, none⟩ = es[3]? ∧ W.cell? ⟨g' + 1, 0, none⟩ = ts[0]? ∧ W.cell? ⟨g' + 1, 1, none⟩ = ts[1]?) ∧
  W.cell? ⟨gM, 0, none⟩ = some (.slice (some ⟨gb, 0, none⟩) NN NN) ∧
  (convert 29 9 (.slice (some ⟨gb, 0, none⟩) NN NN)).run Try.prog W = .ok (.string qm) W
/-- two results laid in new memory -/
theorem two (w : World) (e t : Array Value) : Blk ((w.alloc (.cells e 53)).alloc (.cells t 55)) w.heap.size 53 e ∧ Blk ((w.alloc (.cells e 53)).alloc (.cells t 55)) (w.heap.size + 1) 55 t ∧ Fr (fun _ => False) w ((w.alloc (.cells e 53)).alloc (.cells t 55)) := by
  refine ⟨(Blk.new w 53 e).alloc _, ?_, ((Fr.refl _ w).alloc _).alloc _⟩
  have := Blk.new (w.alloc (.cells e 53)) 55 t
  rwa [show (w.alloc (.cells e 53)).heap.size = w.heap.size + 1 by simp] at this
set_option maxRecDepth 100000 in
theorem same_any (w : World) (a : Am) (gM gb gt : Nat) (m : Ms) (h : WP w a gM gb gt m) (hsep : ∀ k, a.own k → k ≠ gM ∧ k ≠ gb ∧ k ≠ gt) (root va k : Int) (s : Bool) (r0 : 0 ≤ root) (r1 : root ≤ 4294967295) (v0 : 0 ≤ va) (v1 : va ≤ 4294967295) :
    Calls Try.prog 18 #[.pointer (some ⟨a.gm, 0, none⟩), .pointer (some ⟨gM, 0, none⟩), .int .u32 root, .int .u32 va, .int .i64 k, .bool s] w
      fun e w' => e = .returned (.bool true) ∧ (∃ m', m'.n = m.n ∧ WP w' a gM gb gt m') ∧ Fr (fun q => q = gb ∨ q = gt ∨ a.own q) w w' := by
  have hn := h.M.n0
  have hA := lkAt_bd h.M root va r0 v0
  have Hl := Lib.hid (look_any w a m h.M root va r0 r1 v0 v1)
  have Hr := Lib.hid (rlook_any w gM gb gt m h.R (by omega) h.M.bd (fun Q q => wrdV_bd h.M Q q) root va r0 r1 v0 v1)
  have wa : IntKind.u64.wrap (lkAt m root va) = lkAt m root va := IntWalk.u64_in _ (by omega)
  obtain ⟨b, x, y, z, t, u, m', hn', ht', hD, hR'⟩ := both_do w a gM gb gt m h root va k s r0 r1 v0 v1
  have HD := Lib.hid hD
  have HRD := Lib.hid hR'
  have Hn' := Lib.hid hn'
  have Ht' := Lib.hid ht'
  have Hlt := Lib.hid h.M.lt
  have Hrl := Lib.hid h.R.lt
  have hbt := Lib.hid h.R.nMb
  have hMt := Lib.hid h.R.nMt
  have Hsep := Lib.hid hsep
  have hend := Lib.hid (turnN_end m' ht' 64 (by omega) (by omega))
  have Hwl := Lib.hid (turnN_wf m' 64 (by omega))
  have hln := turnN_le m' 64
  generalize lkAt m root va = at_ at *
  generalize lkLeaf m root va = lf at *
  generalize lkOk m root va = ok at *
  have HM := Lib.hid h.M
  have HR := Lib.hid h.R
  clear hD hR' hn' ht' h hsep
  go_enter Try.func18, Try.ntmps18
  go_wp2_with fail
  refine (Hl.out).mono ?_
  rintro e w' ⟨rfl, rfl⟩
  go_wp2_with fail
  refine (Hr.out).mono ?_
  rintro e w2 ⟨rfl, f2⟩
  go_wp2_with fail
  refine (HD.out w2 (HM.out.fr0 f2)).mono ?_
  rintro e w3 ⟨rfl, hM3, f3⟩
  obtain ⟨cE, cT, fx3⟩ := two w3 #[.bool b, .int .u32 x, .int .u32 y, .int .u32 z] #[.int .i64 t, .int .u32 u]
  have HM4 := Lib.hid (hM3.fr0 fx3)
  have HR4 := Lib.hid (((HR.out.fr0 f2).fr f3 (fun e => (Hsep.out _ e).1 rfl) (fun e => (Hsep.out _ e).2.1 rfl) (fun e => (Hsep.out _ e).2.2 rfl)).fr0 fx3)
  have HF4 := Lib.hid ((((f2.none (S := fun q => q = gb ∨ q = gt ∨ a.own q)).trans f3 (S := fun q => q = gb ∨ q = gt ∨ a.own q) (fun i hi e => .inr (.inr e)))).tr fx3.none)
  have HcE := Lib.hid cE
  have HcT := Lib.hid cT
  have hs3 : w.heap.size ≤ w3.heap.size := by have := f2.size; have := f3.size; omega
  clear hM3 f3 f2 fx3 cE cT
  go_wp2_with fail
  generalize (w3.alloc (.cells #[.bool b, .int .u32 x, .int .u32 y, .int .u32 z] 53)).alloc (.cells #[.int .i64 t, .int .u32 u] 55) = w4 at *
  generalize w3.heap.size = g at *
  refine (HRD.out w4 HR4.out).mono ?_
  rintro e w5 ⟨rfl, hR5, f5⟩
  have hnot : ∀ q, w.heap.size ≤ q → ¬ (q = gb ∨ q = gt) := fun q hq e => by have := Hrl.out; omega
  obtain ⟨cE2, cT2, fx5⟩ := two w5 #[.bool b, .int .u32 x, .int .u32 y, .int .u32 z] #[.int .i64 t, .int .u32 u]
  have HE := Lib.hid ((HcE.out.fr f5 (hnot g hs3)).fr fx5 (fun e => e))
  have HT := Lib.hid ((HcT.out.fr f5 (hnot (g + 1) (by omega))).fr fx5 (fun e => e))
  have HE2 := Lib.hid cE2
  have HT2 := Lib.hid cT2
  have HM6 := Lib.hid ((HM4.out.fr f5 (fun q hq e => by have := Hsep.out q hq; omega)).fr0 fx5)
  have HR6 := Lib.hid (hR5.fr0 fx5)
  have HF6 := Lib.hid ((HF4.out.trans f5 (S := fun q => q = gb ∨ q = gt ∨ a.own q) (fun i hi e => by rcases e with e | e; exact .inl e; exact .inr (.inl e))).tr fx5.none)
  obtain ⟨NN, hNN⟩ : ∃ q, q = m'.n * 64 := ⟨_, rfl⟩
  have HNN := Lib.hid hNN
  clear hR5 f5 fx5 cE2 cT2 hNN
  go_upto_region 7 with (fail)
  generalize (w5.alloc (.cells #[.bool b, .int .u32 x, .int .u32 y, .int .u32 z] 53)).alloc (.cells #[.int .i64 t, .int .u32 u] 55) = w6 at *
  generalize w5.heap.size = g' at *
  have Hqm := Lib.hid (fun W B A c (h : IntsAt .u8 W B A NN (lst m'.mem NN)) => str_of_ints (c := c) h)
  generalize str (lst m'.mem NN) = qm at *
  have hbd6 : ∀ i, i < NN → 0 ≤ m'.mem i ∧ m'.mem i < 256 := by rw [HNN.out]; exact HM6.out.bd
  have Hbd6 := Lib.hid hbd6
  have Hcb6 : Hid (IntsAt .u8 w6 (gb + 1) (some ⟨gb, 0, none⟩) NN (lst m'.mem NN)) := Lib.hid (by
    have hc := HR6.out.cb
    rw [← HNN.out] at hc
    exact cells_ints hc hbd6)
  have Hgl : Hid (gb + 1 ≤ w6.heap.size) := Lib.hid HR6.out.lt.2.1
  have HS : Hid (∀ W, Fr (fun _ => False) w6 W → S8 g g' gM gb NN #[.bool b, .int .u32 x, .int .u32 y, .int .u32 z] #[.int .i64 t, .int .u32 u] qm W) := Lib.hid (fun W f =>
    ⟨⟨(HE.out.fr f (fun e => e)).cell 0, (HE.out.fr f (fun e => e)).cell 1, (HE.out.fr f (fun e => e)).cell 2, (HE.out.fr f (fun e => e)).cell 3, (HT.out.fr f (fun e => e)).cell 0, (HT.out.fr f (fun e => e)).cell 1⟩,
     ⟨(HE2.out.fr f (fun e => e)).cell 0, (HE2.out.fr f (fun e => e)).cell 1, (HE2.out.fr f (fun e => e)).cell 2, (HE2.out.fr f (fun e => e)).cell 3, (HT2.out.fr f (fun e => e)).cell 0, (HT2.out.fr f (fun e => e)).cell 1⟩,
     by rw [HNN.out]; exact (HR6.out.fr0 f).b.cell 0, Hqm.out _ _ _ _ (Hcb6.out.fr f Hgl.out (fun _ _ e => e))⟩)
  clear hbd6 hs3 hnot
  refine wp_region_held_drew (S := S8 g g' gM gb NN #[.bool b, .int .u32 x, .int .u32 y, .int .u32 z] #[.int .i64 t, .int .u32 u] qm) (by kernel_rfl) (HS.out w6.drew (Fr.refl _ w6).drew) (fun hH => ?_)
  refine wpAnyH_take (i := 0) (v := ?_) rfl (by kernel_rfl) (by kernel_rfl) (by kernel_rfl) (fun _ _ _ h => h) (Or.inl ⟨by kernel_rfl, ?_⟩) hH ?_
  rotate_left
  · (intro W hSw; obtain ⟨⟨k0, k1, k2, k3, k4, k5⟩, ⟨j0, j1, j2, j3, j4, j5⟩, k6, k7⟩ := hSw; simp only [List.getElem?_toArray, List.getElem?_cons_succ, List.getElem?_cons_zero] at k0 k1 k2 k3 k4 k5 j0 j1 j2 j3 j4 j5; go_simp; try with_reducible rfl)
  refine wpAnyH_take (i := 1) (v := ?_) rfl (by kernel_rfl) (by kernel_rfl) (by kernel_rfl) (fun _ _ _ h => h) (Or.inl ⟨by kernel_rfl, ?_⟩) hH ?_
  rotate_left
  · (intro W hSw; obtain ⟨⟨k0, k1, k2, k3, k4, k5⟩, ⟨j0, j1, j2, j3, j4, j5⟩, k6, k7⟩ := hSw; simp only [List.getElem?_toArray, List.getElem?_cons_succ, List.getElem?_cons_zero] at k0 k1 k2 k3 k4 k5 j0 j1 j2 j3 j4 j5; go_simp; try with_reducible rfl)
  refine wpAnyH_take (i := 2) (v := ?_) rfl (by kernel_rfl) (by kernel_rfl) (by kernel_rfl) (fun _ _ _ h => h) (Or.inl ⟨by kernel_rfl, ?_⟩) hH ?_
  rotate_left
  · (intro W hSw; obtain ⟨⟨k0, k1, k2, k3, k4, k5⟩, ⟨j0, j1, j2, j3, j4, j5⟩, k6, k7⟩ := hSw; simp only [List.getElem?_toArray, List.getElem?_cons_succ, List.getElem?_cons_zero] at k0 k1 k2 k3 k4 k5 j0 j1 j2 j3 j4 j5; go_simp; try with_reducible rfl)
  try simp only [Act.put, List.getElem_toArray, List.getElem_cons_zero, List.getElem_cons_succ, List.setIfInBounds_toArray, List.set_cons_zero, List.set_cons_succ]
  refine wpAnyH_take (i := 3) (v := ?_) rfl (by kernel_rfl) (by kernel_rfl) (by kernel_rfl) (fun _ _ _ h => h) (Or.inl ⟨by kernel_rfl, ?_⟩) hH ?_
  rotate_left
  · (intro W hSw; obtain ⟨⟨k0, k1, k2, k3, k4, k5⟩, ⟨j0, j1, j2, j3, j4, j5⟩, k6, k7⟩ := hSw; simp only [List.getElem?_toArray, List.getElem?_cons_succ, List.getElem?_cons_zero] at k0 k1 k2 k3 k4 k5 j0 j1 j2 j3 j4 j5; go_simp; try with_reducible rfl)
  refine wpAnyH_take (i := 4) (v := ?_) rfl (by kernel_rfl) (by kernel_rfl) (by kernel_rfl) (fun _ _ _ h => h) (Or.inl ⟨by kernel_rfl, ?_⟩) hH ?_
  rotate_left
  · (intro W hSw; obtain ⟨⟨k0, k1, k2, k3, k4, k5⟩, ⟨j0, j1, j2, j3, j4, j5⟩, k6, k7⟩ := hSw; simp only [List.getElem?_toArray, List.getElem?_cons_succ, List.getElem?_cons_zero] at k0 k1 k2 k3 k4 k5 j0 j1 j2 j3 j4 j5; go_simp; try with_reducible rfl)
  refine wpAnyH_take (i := 5) (v := ?_) rfl (by kernel_rfl) (by kernel_rfl) (by kernel_rfl) (fun _ _ _ h => h) (Or.inl ⟨by kernel_rfl, ?_⟩) hH ?_
  rotate_left
  · (intro W hSw; obtain ⟨⟨k0, k1, k2, k3, k4, k5⟩, ⟨j0, j1, j2, j3, j4, j5⟩, k6, k7⟩ := hSw; simp only [List.getElem?_toArray, List.getElem?_cons_succ, List.getElem?_cons_zero] at k0 k1 k2 k3 k4 k5 j0 j1 j2 j3 j4 j5; go_simp; try with_reducible rfl)
  try simp only [Act.put, List.getElem_toArray, List.getElem_cons_zero, List.getElem_cons_succ, List.setIfInBounds_toArray, List.set_cons_zero, List.set_cons_succ]
  refine wpAnyH_take (i := 6) (v := ?_) rfl (by kernel_rfl) (by kernel_rfl) (by kernel_rfl) (fun _ _ _ h => h) (Or.inl ⟨by kernel_rfl, ?_⟩) hH ?_
  rotate_left
  · (intro W hSw; obtain ⟨⟨k0, k1, k2, k3, k4, k5⟩, ⟨j0, j1, j2, j3, j4, j5⟩, k6, k7⟩ := hSw; simp only [List.getElem?_toArray, List.getElem?_cons_succ, List.getElem?_cons_zero] at k0 k1 k2 k3 k4 k5 j0 j1 j2 j3 j4 j5; go_simp; try with_reducible rfl)
  refine wpAnyH_take (i := 7) (v := ?_) rfl (by kernel_rfl) (by kernel_rfl) (by kernel_rfl) (fun _ _ _ h => h) (Or.inl ⟨by kernel_rfl, ?_⟩) hH ?_
  rotate_left
  · (intro W hSw; obtain ⟨⟨k0, k1, k2, k3, k4, k5⟩, ⟨j0, j1, j2, j3, j4, j5⟩, k6, k7⟩ := hSw; simp only [List.getElem?_toArray, List.getElem?_cons_succ, List.getElem?_cons_zero] at k0 k1 k2 k3 k4 k5 j0 j1 j2 j3 j4 j5; go_simp; try with_reducible rfl)
  refine wpAnyH_take (i := 8) (v := ?_) rfl (by kernel_rfl) (by kernel_rfl) (by kernel_rfl) (fun _ _ _ h => h) (Or.inl ⟨by kernel_rfl, ?_⟩) hH ?_
  rotate_left
  · (intro W hSw; obtain ⟨⟨k0, k1, k2, k3, k4, k5⟩, ⟨j0, j1, j2, j3, j4, j5⟩, k6, k7⟩ := hSw; simp only [List.getElem?_toArray, List.getElem?_cons_succ, List.getElem?_cons_zero] at k0 k1 k2 k3 k4 k5 j0 j1 j2 j3 j4 j5; go_simp; try with_reducible rfl)
  try simp only [Act.put, List.getElem_toArray, List.getElem_cons_zero, List.getElem_cons_succ, List.setIfInBounds_toArray, List.set_cons_zero, List.set_cons_succ]
  refine wpAnyH_take (i := 9) (v := ?_) rfl (by kernel_rfl) (by kernel_rfl) (by kernel_rfl) (fun _ _ _ h => h) (Or.inl ⟨by kernel_rfl, ?_⟩) hH ?_
  rotate_left
  · (intro W hSw; obtain ⟨⟨k0, k1, k2, k3, k4, k5⟩, ⟨j0, j1, j2, j3, j4, j5⟩, k6, k7⟩ := hSw; simp only [List.getElem?_toArray, List.getElem?_cons_succ, List.getElem?_cons_zero] at k0 k1 k2 k3 k4 k5 j0 j1 j2 j3 j4 j5; go_simp; try with_reducible rfl)
  refine wpAnyH_take (i := 12) (v := ?_) rfl (by kernel_rfl) (by kernel_rfl) (by kernel_rfl) (fun _ _ _ h => h) (Or.inl ⟨by kernel_rfl, ?_⟩) hH ?_
  rotate_left
  · (intro W hSw; obtain ⟨⟨k0, k1, k2, k3, k4, k5⟩, ⟨j0, j1, j2, j3, j4, j5⟩, k6, k7⟩ := hSw; simp only [List.getElem?_toArray, List.getElem?_cons_succ, List.getElem?_cons_zero] at k0 k1 k2 k3 k4 k5 j0 j1 j2 j3 j4 j5; go_simp; try with_reducible rfl)
  refine wpAnyH_take (i := 13) (v := ?_) rfl (by kernel_rfl) (by kernel_rfl) (by kernel_rfl) (fun _ _ _ h => h) (Or.inl ⟨by kernel_rfl, ?_⟩) hH ?_
  rotate_left
  · (intro W hSw; obtain ⟨⟨k0, k1, k2, k3, k4, k5⟩, ⟨j0, j1, j2, j3, j4, j5⟩, k6, k7⟩ := hSw; simp only [List.getElem?_toArray, List.getElem?_cons_succ, List.getElem?_cons_zero] at k0 k1 k2 k3 k4 k5 j0 j1 j2 j3 j4 j5; go_simp; try with_reducible rfl)
  try simp only [Act.put, List.getElem_toArray, List.getElem_cons_zero, List.getElem_cons_succ, List.setIfInBounds_toArray, List.set_cons_zero, List.set_cons_succ]
  refine wpAnyH_take (i := 14) (v := ?_) rfl (by kernel_rfl) (by kernel_rfl) (by kernel_rfl) (fun _ _ _ h => h) (Or.inl ⟨by kernel_rfl, ?_⟩) hH ?_
  rotate_left
  · (intro W hSw; obtain ⟨⟨k0, k1, k2, k3, k4, k5⟩, ⟨j0, j1, j2, j3, j4, j5⟩, k6, k7⟩ := hSw; simp only [List.getElem?_toArray, List.getElem?_cons_succ, List.getElem?_cons_zero] at k0 k1 k2 k3 k4 k5 j0 j1 j2 j3 j4 j5; go_simp; try with_reducible rfl)
  refine wpAnyH_take (i := 15) (v := ?_) rfl (by kernel_rfl) (by kernel_rfl) (by kernel_rfl) (fun _ _ _ h => h) (Or.inl ⟨by kernel_rfl, ?_⟩) hH ?_
  rotate_left
  · (intro W hSw; obtain ⟨⟨k0, k1, k2, k3, k4, k5⟩, ⟨j0, j1, j2, j3, j4, j5⟩, k6, k7⟩ := hSw; simp only [List.getElem?_toArray, List.getElem?_cons_succ, List.getElem?_cons_zero] at k0 k1 k2 k3 k4 k5 j0 j1 j2 j3 j4 j5; go_simp; try with_reducible rfl)
  refine wpAnyH_take (i := 16) (v := ?_) rfl (by kernel_rfl) (by kernel_rfl) (by kernel_rfl) (fun _ _ _ h => h) (Or.inl ⟨by kernel_rfl, ?_⟩) hH ?_
  rotate_left
  · (intro W hSw; obtain ⟨⟨k0, k1, k2, k3, k4, k5⟩, ⟨j0, j1, j2, j3, j4, j5⟩, k6, k7⟩ := hSw; simp only [List.getElem?_toArray, List.getElem?_cons_succ, List.getElem?_cons_zero] at k0 k1 k2 k3 k4 k5 j0 j1 j2 j3 j4 j5; go_simp; try with_reducible rfl)
  try simp only [Act.put, List.getElem_toArray, List.getElem_cons_zero, List.getElem_cons_succ, List.setIfInBounds_toArray, List.set_cons_zero, List.set_cons_succ]
  refine wpAnyH_ready (rs := [10]) (by kernel_rfl) (by simp) ?_
  refine AllReadyH.cons rfl (fun K hK => ?_) ?_
  · go_simp
    go_wp2_with (refine (all_any w6.drew a m' HM6.out.drew).mono ?_; rintro e w7 ⟨rfl, hc7, f67⟩; have f7 : Fr (fun _ => False) w6 w7 := (Fr.refl (fun _ => False) w6).drew.tr f67; rw [← HNN.out] at hc7 ⊢; have hc7 : Cells w7 w6.heap.size 5 NN (fun k => .int .u8 (m'.mem k)) := hc7; have q7 := Hqm.out w7 _ _ NN (cells_ints hc7 Hbd6.out); clear hc7 f67)
    refine hK.out _ _ ?_ (fun hH => ?_)
    · exact HS.out w7 f7
    clear hK K
    refine wpAnyH_ready (rs := [11]) (by kernel_rfl) (by simp) ?_
    refine AllReadyH.cons rfl (fun K hK => ?_) ?_
    · go_simp
      refine hK.out _ _ ?_ (fun hH => ?_)
      · exact hH
      clear hK K
      refine wpAnyH_take (i := 17) (v := ?_) rfl (by kernel_rfl) (by kernel_rfl) (by kernel_rfl) (fun _ _ _ h => h) (Or.inl ⟨by kernel_rfl, ?_⟩) hH ?_
      rotate_left
      · (intro W hSw; obtain ⟨⟨k0, k1, k2, k3, k4, k5⟩, ⟨j0, j1, j2, j3, j4, j5⟩, k6, k7⟩ := hSw; simp only [List.getElem?_toArray, List.getElem?_cons_succ, List.getElem?_cons_zero] at k0 k1 k2 k3 k4 k5 j0 j1 j2 j3 j4 j5; go_simp; try with_reducible rfl)
      refine wpAnyH_take (i := 18) (v := ?_) rfl (by kernel_rfl) (by kernel_rfl) (by kernel_rfl) (fun _ _ _ h => h) (Or.inl ⟨by kernel_rfl, ?_⟩) hH ?_
      rotate_left
      · (intro W hSw; obtain ⟨⟨k0, k1, k2, k3, k4, k5⟩, ⟨j0, j1, j2, j3, j4, j5⟩, k6, k7⟩ := hSw; simp only [List.getElem?_toArray, List.getElem?_cons_succ, List.getElem?_cons_zero] at k0 k1 k2 k3 k4 k5 j0 j1 j2 j3 j4 j5; go_simp; try with_reducible rfl)
      refine wpAnyH_take (i := 19) (v := ?_) rfl (by kernel_rfl) (by kernel_rfl) (by kernel_rfl) (fun _ _ _ h => h) (Or.inl ⟨by kernel_rfl, ?_⟩) hH ?_
      rotate_left
      · (intro W hSw; obtain ⟨⟨k0, k1, k2, k3, k4, k5⟩, ⟨j0, j1, j2, j3, j4, j5⟩, k6, k7⟩ := hSw; simp only [List.getElem?_toArray, List.getElem?_cons_succ, List.getElem?_cons_zero] at k0 k1 k2 k3 k4 k5 j0 j1 j2 j3 j4 j5; go_simp; try with_reducible rfl)
      try simp only [Act.put, List.getElem_toArray, List.getElem_cons_zero, List.getElem_cons_succ, List.setIfInBounds_toArray, List.set_cons_zero, List.set_cons_succ]
      refine wpAnyH_take (i := 20) (v := ?_) rfl (by kernel_rfl) (by kernel_rfl) (by kernel_rfl) (fun _ _ _ h => h) (Or.inl ⟨by kernel_rfl, ?_⟩) hH ?_
      rotate_left
      · (intro W hSw; obtain ⟨⟨k0, k1, k2, k3, k4, k5⟩, ⟨j0, j1, j2, j3, j4, j5⟩, k6, k7⟩ := hSw; simp only [List.getElem?_toArray, List.getElem?_cons_succ, List.getElem?_cons_zero] at k0 k1 k2 k3 k4 k5 j0 j1 j2 j3 j4 j5; go_simp; try with_reducible rfl)
      refine wpAnyH_take (i := 22) (v := ?_) rfl (by kernel_rfl) (by kernel_rfl) (by kernel_rfl) (fun _ _ _ h => h) (Or.inl ⟨by kernel_rfl, ?_⟩) hH ?_
      rotate_left
      · (intro W hSw; obtain ⟨⟨k0, k1, k2, k3, k4, k5⟩, ⟨j0, j1, j2, j3, j4, j5⟩, k6, k7⟩ := hSw; simp only [List.getElem?_toArray, List.getElem?_cons_succ, List.getElem?_cons_zero] at k0 k1 k2 k3 k4 k5 j0 j1 j2 j3 j4 j5; go_simp; try with_reducible rfl)
      try simp only [Act.put, List.getElem_toArray, List.getElem_cons_zero, List.getElem_cons_succ, List.setIfInBounds_toArray, List.set_cons_zero, List.set_cons_succ]
      refine wpAnyH_ready (rs := [21]) (by kernel_rfl) (by simp) ?_
      refine AllReadyH.cons rfl (fun K hK => ?_) ?_
      · go_simp
        go_wp2_with (refine (turned_any w7 a m' (HM6.out.fr0 f7) 0 (by omega)).mono ?_; rintro e w9 ⟨v9, rfl, ho9, f89, k9⟩; have f9 := f7.tr f89; obtain ⟨A9, c9, rfl⟩ := ownI_any ho9; have I9 := Lib.hid (Bk.own_ints ho9 Hwl.out); clear ho9 k9)
        refine hK.out _ _ ?_ (fun hH => ?_)
        · exact HS.out w9 f9
        clear hK K
        refine wpAnyH_ready (rs := [23]) (by kernel_rfl) (by simp) ?_
        refine AllReadyH.cons rfl (fun K hK => ?_) ?_
        · go_simp
          go_wp2_with (refine (pages_any w9 gM gb gt m'.mem m' (HR6.out.fr0 f9) (by have := HM6.out.n0; omega) 0 (by omega)).mono ?_; rintro e w10 ⟨v10, rfl, ho10, f910, k10⟩; have f10 := f9.tr f910; rw [← hend.out] at ho10; obtain ⟨A10, c10, rfl⟩ := ownI_any ho10; have I10 := Lib.hid (Bk.own_ints ho10 Hwl.out); have J9 := Lib.hid (I9.out.fr f910 (Nat.le_refl _) (fun _ _ e => e)); have hs9 := f910.size; clear ho10 k10)
          refine hK.out _ _ ?_ (fun hH => ?_)
          · exact HS.out w10 f10
          clear hK K
          refine wpAnyH_ready (rs := [24]) (by kernel_rfl) (by simp) ?_
          refine AllReadyH.cons rfl (fun K hK => ?_) ?_
          · go_simp
            go_wp2_with (refine (Bk.same64_eq w10 _ _ _ c9 c10 A9 A10 _ J9.out hs9 I10.out (Nat.le_refl _) (by omega)).mono ?_; rintro e w11 ⟨rfl, f1011⟩; have f11 := f10.tr f1011)
            refine hK.out _ _ ?_ (fun hH => ?_)
            · exact HS.out w11 f11
            clear hK K
            refine wpAnyH_take (i := 25) (v := ?_) rfl (by kernel_rfl) (by kernel_rfl) (by kernel_rfl) (fun _ _ _ h => h) (Or.inl ⟨by kernel_rfl, ?_⟩) hH ?_
            rotate_left
            · (intro W hSw; obtain ⟨⟨k0, k1, k2, k3, k4, k5⟩, ⟨j0, j1, j2, j3, j4, j5⟩, k6, k7⟩ := hSw; simp only [List.getElem?_toArray, List.getElem?_cons_succ, List.getElem?_cons_zero] at k0 k1 k2 k3 k4 k5 j0 j1 j2 j3 j4 j5; go_simp; try with_reducible rfl)
            refine wpAnyH_take (i := 26) (v := ?_) rfl (by kernel_rfl) (by kernel_rfl) (by kernel_rfl) (fun _ _ _ h => h) (Or.inl ⟨by kernel_rfl, ?_⟩) hH ?_
            rotate_left
            · (intro W hSw; obtain ⟨⟨k0, k1, k2, k3, k4, k5⟩, ⟨j0, j1, j2, j3, j4, j5⟩, k6, k7⟩ := hSw; simp only [List.getElem?_toArray, List.getElem?_cons_succ, List.getElem?_cons_zero] at k0 k1 k2 k3 k4 k5 j0 j1 j2 j3 j4 j5; go_simp; try with_reducible rfl)
            refine wpAnyH_done (by kernel_rfl) ?_ _
            go_wp2_with fail
            go_ret
            exact ⟨rfl, ⟨m', Hn'.out, HM6.out.fr0 f11, HR6.out.fr0 f11, Ht'.out⟩, HF6.out.tr f11.none⟩
          exact AllReadyH.nil
        exact AllReadyH.nil
      exact AllReadyH.nil
    exact AllReadyH.nil
  exact AllReadyH.nil
end Go.Proofs.Ytijhbhhcaicdfaa.Wk
