/- A drive and a memory, and the document's, through one call (innkeeperlaw14.do). -/
import Derived.Test.YtlkagggkpaihaaaRef15
import Derived.Test.YtlkagggkpaihaaaDriveLaws
import Derived.Deep.RegionHeld
namespace Go.Proofs.Ytlkagggkpaihaaa.Rf
open Go.RowKit Fm Nt Rm By Dr
set_option linter.unusedVariables false
set_option maxHeartbeats 8000000

theorem wpAnyH_mono {P : Program} {ops : Array Oper} {Q : Exit → Act → World → Prop} {md : Region.Mode} {S S' : World → Prop} (hS : ∀ w, S' w → S w) :
    ∀ (fuel : Nat) (listed : Array Bool) (a : Act) (w : World), wpAnyH P md ops Q S' fuel listed a w → wpAnyH P md ops Q S fuel listed a w
  | 0, _, _, _, h => h
  | fuel + 1, _, _, _, h => ⟨h.1, fun i hi => wpOp_mono (fun a' w' h' => ⟨hS w' h'.1, wpAnyH_mono hS fuel _ a' w' h'.2⟩) (h.2 i hi)⟩
theorem turnN_end (m : Ms) (h : ∀ k, m.n ≤ k → k < 64 → m.tu k = false) : ∀ j, m.n ≤ j → j ≤ 64 → turnN m j = turnN m m.n := by
  intro j
  induction j with
  | zero => intro h0 _; rw [show m.n = 0 by omega]
  | succ j ih =>
    intro h0 h1
    by_cases e : m.n = j + 1
    · rw [e]
    · rw [turnN_no m j (h j (by omega) (by omega)), ih (by omega) (by omega)]
theorem turnN_wf (m : Ms) (k : Nat) (hk : k ≤ 64) : ∀ z ∈ turnN m k, (Lit.int .i64 z).wf = true := by
  intro z hz
  simp only [turnN, List.mem_map, List.mem_filter, List.mem_range] at hz
  obtain ⟨y, ⟨h1, _⟩, rfl⟩ := hz
  exact wf_i64_mk (n := Int.ofNat y) (by show -9223372036854775808 ≤ (y : Int); omega) (by show (y : Int) ≤ 9223372036854775807; omega)
theorem doM_n (d : Nat → Int) (m : Ms) (s at_ c : Int) : (doM d m s at_ c).n = m.n := by
  unfold doM
  split
  · exact puts_n _ _ _ _
  · rfl
theorem doM_tu (d : Nat → Int) (m : Ms) (s at_ c : Int) (a0 : 0 ≤ at_) (ht : ∀ k, m.n ≤ k → k < 64 → m.tu k = false) : ∀ k, (doM d m s at_ c).n ≤ k → k < 64 → (doM d m s at_ c).tu k = false := by
  intro k h1 h2
  rw [doM_n] at h1
  unfold doM
  split
  · rename_i h
    have hb := h.1
    simp only [doB, decide_eq_true_eq] at hb
    rw [puts_tu, ht k h1 h2, Bool.false_or]
    unfold hits
    exact decide_eq_false (by rintro ⟨j, h3, h4⟩; omega)
  · exact ht k h1 h2
/-- a drive and a memory, the document's beside them -/
structure DP (w : World) (a : Am) (gd ge gB gk gM gb gt : Nat) (m : Ms) (d : Nat → Int) : Prop where
  M : Mem w a m
  D : Drv w gd ge d
  B : BS w gB gk gM gb gt m.n m.mem m.tu d
  tu : ∀ k, m.n ≤ k → k < 64 → m.tu k = false
theorem DP.fr0 {w w' : World} {a : Am} {gd ge gB gk gM gb gt : Nat} {m : Ms} {d : Nat → Int} (h : DP w a gd ge gB gk gM gb gt m d) (f : Fr (fun _ => False) w w') : DP w' a gd ge gB gk gM gb gt m d :=
  ⟨h.M.fr0 f, h.D.fr f (fun e => e) (fun e => e), h.B.fr0 f, h.tu⟩
def S1 (g : Nat) (s at_ c : Int) (W : World) : Prop := W.cell? ⟨g, 0, none⟩ = some (.int .u32 s) ∧ W.cell? ⟨g, 1, none⟩ = some (.int .u32 at_) ∧ W.cell? ⟨g, 2, none⟩ = some (.int .u32 c)
def S2 (g gB gk gM gb NN : Nat) (s at_ c : Int) (qd qm : ByteArray) (W : World) : Prop :=
  S1 g s at_ c W ∧ W.cell? ⟨gB, 6, none⟩ = some (.slice (some ⟨gk, 0, none⟩) 1024 1024) ∧ W.cell? ⟨gB, 0, none⟩ = some (.pointer (some ⟨gM, 0, none⟩)) ∧ W.cell? ⟨gM, 0, none⟩ = some (.slice (some ⟨gb, 0, none⟩) NN NN) ∧
  (convert 22 9 (.slice (some ⟨gk, 0, none⟩) 1024 1024)).run Try.prog W = .ok (.string qd) W ∧ (convert 22 9 (.slice (some ⟨gb, 0, none⟩) NN NN)).run Try.prog W = .ok (.string qm) W
set_option maxRecDepth 100000 in
theorem do14_any (w : World) (a : Am) (gd ge gB gk gM gb gt : Nat) (m : Ms) (d : Nat → Int) (h : DP w a gd ge gB gk gM gb gt m d) (hdis : ∀ k, a.own k → k ≠ gd ∧ k ≠ ge) (hsep : ∀ k, k = gd ∨ k = ge ∨ a.own k → k ≠ gB ∧ k ≠ gk ∧ k ≠ gM ∧ k ≠ gb ∧ k ≠ gt)
    (s at_ c : Int) (s0 : 0 ≤ s) (s1 : s ≤ 4294967295) (a0 : 0 ≤ at_) (a1 : at_ ≤ 4294967295) (c0 : 0 ≤ c) (c1 : c ≤ 4294967295) :
    Calls Try.prog 24 #[.pointer (some ⟨gd, 0, none⟩), .pointer (some ⟨a.gm, 0, none⟩), .pointer (some ⟨gB, 0, none⟩), .agg #[.int .u32 s, .int .u32 at_, .int .u32 c]] w
      fun e w' => e = .returned (.bool true) ∧ (∃ m' d', m'.n = m.n ∧ DP w' a gd ge gB gk gM gb gt m' d') ∧ Fr (fun k => k = ge ∨ a.own k ∨ k = gb ∨ k = gt ∨ k = gk) w w' := by
  have hn := h.M.n0
  have hx0 : Blk (w.alloc (.cells #[.int .u32 s, .int .u32 at_, .int .u32 c] 46)) w.heap.size 46 #[.int .u32 s, .int .u32 at_, .int .u32 c] := Blk.new _ _ _
  have f0 := (Fr.refl (fun _ => False) w).alloc (.cells #[.int .u32 s, .int .u32 at_, .int .u32 c] 46)
  have h1 := h.fr0 f0.drew
  have gno : ∀ k, k = ge ∨ a.own k ∨ k = gb ∨ k = gt ∨ k = gk → k < w.heap.size := fun k hk => by
    rcases hk with e | e | e | e | e
    · have := h.D.lt; omega
    · exact h.M.lt k e
    · have := h.B.r.lt; omega
    · have := h.B.r.lt; omega
    · have := h.B.c.lt; omega
  go_enter Try.func24, Try.ntmps24
  go_upto_region 1 with (fail)
  generalize w.alloc (.cells #[.int .u32 s, .int .u32 at_, .int .u32 c] 46) = w1 at *
  generalize hg : w.heap.size = g at *
  have hS1 : S1 g s at_ c w1.drew := ⟨hx0.cell 0, hx0.cell 1, hx0.cell 2⟩
  have Hx := Lib.hid hx0
  have HDo := Lib.hid (do_any w1.drew gd ge d a m h1.D h1.M hdis s at_ c s0 s1 a0 a1 c0 c1)
  have HDr := Lib.hid (fun W (hB : BS W gB gk gM gb gt m.n m.mem m.tu d) => drive_any W gB gk gM gb gt m d hB (by omega) s at_ c s0 s1 a0 a1 c0 c1)
  have hn6 := doM_n d m s at_ c
  have ht6 := doM_tu d m s at_ c a0 h.tu
  generalize doB m s at_ c = bb at *
  generalize doM d m s at_ c = m6 at *
  generalize doD d m s at_ c = d6 at *
  have HB1 := Lib.hid h1.B
  have HF0 := Lib.hid (show Fr (fun _ => False) w w1.drew from f0.drew)
  have Hn6 := Lib.hid hn6
  have hend := Lib.hid (turnN_end m6 ht6 64 (by omega) (by omega))
  have Hwl := Lib.hid (turnN_wf m6 64 (by omega))
  have hln := turnN_le m6 64
  have Ht6 := Lib.hid ht6
  have Hno := Lib.hid gno
  have Hs1 : Hid (g < w1.heap.size) := Lib.hid hx0.lt
  obtain ⟨NN, hNN⟩ : ∃ q, q = m.n * 64 := ⟨_, rfl⟩
  have HNN := Lib.hid hNN
  have Hsep := Lib.hid hsep
  have Hqd := Lib.hid (fun W B A c (h : IntsAt .u8 W B A 1024 (lst d6 1024)) => str_of_ints (c := c) h)
  have Hqm := Lib.hid (fun W B A c (h : IntsAt .u8 W B A NN (lst m6.mem NN)) => str_of_ints (c := c) h)
  generalize str (lst d6 1024) = qd at *
  generalize str (lst m6.mem NN) = qm at *
  clear hn6 ht6 h1 h f0 hx0 gno hNN hsep hdis
  refine wp_region_held_drew (S := S1 g s at_ c) (by kernel_rfl) (hS1) (fun hH => ?_)
  refine wpAnyH_take (i := 0) (v := ?_) rfl (by kernel_rfl) (by kernel_rfl) (by kernel_rfl) (fun _ _ _ h => h) (Or.inl ⟨by kernel_rfl, ?_⟩) hH ?_
  rotate_left
  · (intro W hSw; obtain ⟨k0, k1, k2⟩ := hSw; go_simp; try with_reducible rfl)
  refine wpAnyH_take (i := 1) (v := ?_) rfl (by kernel_rfl) (by kernel_rfl) (by kernel_rfl) (fun _ _ _ h => h) (Or.inl ⟨by kernel_rfl, ?_⟩) hH ?_
  rotate_left
  · (intro W hSw; obtain ⟨k0, k1, k2⟩ := hSw; go_simp; try with_reducible rfl)
  refine wpAnyH_take (i := 2) (v := ?_) rfl (by kernel_rfl) (by kernel_rfl) (by kernel_rfl) (fun _ _ _ h => h) (Or.inl ⟨by kernel_rfl, ?_⟩) hH ?_
  rotate_left
  · (intro W hSw; obtain ⟨k0, k1, k2⟩ := hSw; go_simp; try with_reducible rfl)
  try simp only [Act.put, List.getElem_toArray, List.getElem_cons_zero, List.getElem_cons_succ, List.setIfInBounds_toArray, List.set_cons_zero, List.set_cons_succ]
  refine wpAnyH_take (i := 3) (v := ?_) rfl (by kernel_rfl) (by kernel_rfl) (by kernel_rfl) (fun _ _ _ h => h) (Or.inl ⟨by kernel_rfl, ?_⟩) hH ?_
  rotate_left
  · (intro W hSw; obtain ⟨k0, k1, k2⟩ := hSw; go_simp; try with_reducible rfl)
  refine wpAnyH_take (i := 4) (v := ?_) rfl (by kernel_rfl) (by kernel_rfl) (by kernel_rfl) (fun _ _ _ h => h) (Or.inl ⟨by kernel_rfl, ?_⟩) hH ?_
  rotate_left
  · (intro W hSw; obtain ⟨k0, k1, k2⟩ := hSw; go_simp; try with_reducible rfl)
  refine wpAnyH_take (i := 5) (v := ?_) rfl (by kernel_rfl) (by kernel_rfl) (by kernel_rfl) (fun _ _ _ h => h) (Or.inl ⟨by kernel_rfl, ?_⟩) hH ?_
  rotate_left
  · (intro W hSw; obtain ⟨k0, k1, k2⟩ := hSw; go_simp; try with_reducible rfl)
  try simp only [Act.put, List.getElem_toArray, List.getElem_cons_zero, List.getElem_cons_succ, List.setIfInBounds_toArray, List.set_cons_zero, List.set_cons_succ]
  refine wpAnyH_take (i := 6) (v := ?_) rfl (by kernel_rfl) (by kernel_rfl) (by kernel_rfl) (fun _ _ _ h => h) (Or.inl ⟨by kernel_rfl, ?_⟩) hH ?_
  rotate_left
  · (intro W hSw; obtain ⟨k0, k1, k2⟩ := hSw; go_simp; try with_reducible rfl)
  refine wpAnyH_take (i := 7) (v := ?_) rfl (by kernel_rfl) (by kernel_rfl) (by kernel_rfl) (fun _ _ _ h => h) (Or.inl ⟨by kernel_rfl, ?_⟩) hH ?_
  rotate_left
  · (intro W hSw; obtain ⟨k0, k1, k2⟩ := hSw; go_simp; try with_reducible rfl)
  refine wpAnyH_take (i := 9) (v := ?_) rfl (by kernel_rfl) (by kernel_rfl) (by kernel_rfl) (fun _ _ _ h => h) (Or.inl ⟨by kernel_rfl, ?_⟩) hH ?_
  rotate_left
  · (intro W hSw; obtain ⟨k0, k1, k2⟩ := hSw; go_simp; try with_reducible rfl)
  try simp only [Act.put, List.getElem_toArray, List.getElem_cons_zero, List.getElem_cons_succ, List.setIfInBounds_toArray, List.set_cons_zero, List.set_cons_succ]
  refine wpAnyH_take (i := 10) (v := ?_) rfl (by kernel_rfl) (by kernel_rfl) (by kernel_rfl) (fun _ _ _ h => h) (Or.inl ⟨by kernel_rfl, ?_⟩) hH ?_
  rotate_left
  · (intro W hSw; obtain ⟨k0, k1, k2⟩ := hSw; go_simp; try with_reducible rfl)
  refine wpAnyH_take (i := 11) (v := ?_) rfl (by kernel_rfl) (by kernel_rfl) (by kernel_rfl) (fun _ _ _ h => h) (Or.inl ⟨by kernel_rfl, ?_⟩) hH ?_
  rotate_left
  · (intro W hSw; obtain ⟨k0, k1, k2⟩ := hSw; go_simp; try with_reducible rfl)
  refine wpAnyH_take (i := 12) (v := ?_) rfl (by kernel_rfl) (by kernel_rfl) (by kernel_rfl) (fun _ _ _ h => h) (Or.inl ⟨by kernel_rfl, ?_⟩) hH ?_
  rotate_left
  · (intro W hSw; obtain ⟨k0, k1, k2⟩ := hSw; go_simp; try with_reducible rfl)
  try simp only [Act.put, List.getElem_toArray, List.getElem_cons_zero, List.getElem_cons_succ, List.setIfInBounds_toArray, List.set_cons_zero, List.set_cons_succ]
  refine wpAnyH_take (i := 13) (v := ?_) rfl (by kernel_rfl) (by kernel_rfl) (by kernel_rfl) (fun _ _ _ h => h) (Or.inl ⟨by kernel_rfl, ?_⟩) hH ?_
  rotate_left
  · (intro W hSw; obtain ⟨k0, k1, k2⟩ := hSw; go_simp; try with_reducible rfl)
  refine wpAnyH_take (i := 14) (v := ?_) rfl (by kernel_rfl) (by kernel_rfl) (by kernel_rfl) (fun _ _ _ h => h) (Or.inl ⟨by kernel_rfl, ?_⟩) hH ?_
  rotate_left
  · (intro W hSw; obtain ⟨k0, k1, k2⟩ := hSw; go_simp; try with_reducible rfl)
  refine wpAnyH_take (i := 15) (v := ?_) rfl (by kernel_rfl) (by kernel_rfl) (by kernel_rfl) (fun _ _ _ h => h) (Or.inl ⟨by kernel_rfl, ?_⟩) hH ?_
  rotate_left
  · (intro W hSw; obtain ⟨k0, k1, k2⟩ := hSw; go_simp; try with_reducible rfl)
  try simp only [Act.put, List.getElem_toArray, List.getElem_cons_zero, List.getElem_cons_succ, List.setIfInBounds_toArray, List.set_cons_zero, List.set_cons_succ]
  refine wpAnyH_ready (rs := [8]) (by kernel_rfl) (by simp) ?_
  refine AllReadyH.cons rfl (fun K hK => ?_) ?_
  · go_simp
    go_wp2_with (refine (HDo.out).mono ?_; rintro e w5 ⟨rfl, hD5, hM5, f5⟩; have HB5 := Lib.hid (HB1.out.fr f5 (fun k _ hk => Hsep.out k (by rcases hk with e | e; exact .inr (.inl e); exact .inr (.inr e)))); have HD5 := Lib.hid hD5; have HM5 := Lib.hid hM5; have HF5 := Lib.hid (f5.mono (S' := fun k => k = ge ∨ a.own k ∨ k = gb ∨ k = gt ∨ k = gk) (fun i _ e => by rcases e with e | e; exact .inl e; exact .inr (.inl e))); clear hD5 hM5 f5)
    refine hK.out _ _ ?_ (fun hH => ?_)
    · exact ⟨(Hx.out.drew.fr HF5.out (fun e => by have := Hno.out g e; omega)).cell 0, (Hx.out.drew.fr HF5.out (fun e => by have := Hno.out g e; omega)).cell 1, (Hx.out.drew.fr HF5.out (fun e => by have := Hno.out g e; omega)).cell 2⟩
    clear hK K
    refine wpAnyH_ready (rs := [16]) (by kernel_rfl) (by simp) ?_
    refine AllReadyH.cons rfl (fun K hK => ?_) ?_
    · go_simp
      go_wp2_with (refine (HDr.out w5 HB5.out).mono ?_; rintro e w6 ⟨rfl, hB6, f6⟩; have HF6 := Lib.hid (HF5.out.tr (f6.mono (S' := fun k => k = ge ∨ a.own k ∨ k = gb ∨ k = gt ∨ k = gk) (fun i _ e => .inr (.inr e)))); have HD6 := Lib.hid (HD5.out.fr f6 (fun e => by have := Hsep.out gd (.inl rfl); omega) (fun e => by have := Hsep.out ge (.inr (.inl rfl)); omega)); have HM6 := Lib.hid (HM5.out.fr f6 (fun k hk e => by have := Hsep.out k (.inr (.inr hk)); omega)); have HB6 := Lib.hid hB6; clear hB6 f6)
      refine hK.out _ _ ?_ (fun hH => ?_)
      · exact ⟨(Hx.out.drew.fr HF6.out (fun e => by have := Hno.out g e; omega)).cell 0, (Hx.out.drew.fr HF6.out (fun e => by have := Hno.out g e; omega)).cell 1, (Hx.out.drew.fr HF6.out (fun e => by have := Hno.out g e; omega)).cell 2⟩
      clear hK K
      have Hx6 := Lib.hid (Hx.out.drew.fr HF6.out (fun e => by have := Hno.out g e; omega))
      have Hcb6 : Hid (IntsAt .u8 w6 (gb + 1) (some ⟨gb, 0, none⟩) NN (lst m6.mem NN)) := Lib.hid (by
        rw [HNN.out]
        exact cells_ints HB6.out.r.cb (fun k hk => HM6.out.bd k (by rw [Hn6.out]; exact hk)))
      have Hck6 : Hid (IntsAt .u8 w6 (gk + 1) (some ⟨gk, 0, none⟩) 1024 (lst d6 1024)) := Lib.hid (cells_ints HB6.out.c HD6.out.bd)
      have Hl6 : Hid (gb + 1 ≤ w6.heap.size ∧ gk + 1 ≤ w6.heap.size) := Lib.hid ⟨HB6.out.r.lt.2.1, HB6.out.c.lt⟩
      have HS2 : Hid (∀ W, Fr (fun _ => False) w6 W → S2 g gB gk gM gb NN s at_ c qd qm W) := Lib.hid (fun W f => ⟨⟨(Hx6.out.fr f (fun e => e)).cell 0, (Hx6.out.fr f (fun e => e)).cell 1, (Hx6.out.fr f (fun e => e)).cell 2⟩, (HB6.out.fr0 f).c6, (HB6.out.fr0 f).c0, by rw [HNN.out]; exact (HB6.out.fr0 f).r.b.cell 0, Hqd.out _ _ _ _ (Hck6.out.fr f Hl6.out.2 (fun _ _ e => e)), Hqm.out _ _ _ _ (Hcb6.out.fr f Hl6.out.1 (fun _ _ e => e))⟩)
      refine wpAnyH_mono (S' := S2 g gB gk gM gb NN s at_ c qd qm) (fun W h => h.1) _ _ _ _ ?_
      clear hH
      have hH := HS2.out w6 (Fr.refl _ w6)
      refine wpAnyH_take (i := 17) (v := ?_) rfl (by kernel_rfl) (by kernel_rfl) (by kernel_rfl) (fun _ _ _ h => h) (Or.inl ⟨by kernel_rfl, ?_⟩) hH ?_
      rotate_left
      · (intro W hSw; obtain ⟨⟨k0, k1, k2⟩, k3, k4, k5, k6, k7⟩ := hSw; go_simp; try with_reducible rfl)
      refine wpAnyH_take (i := 18) (v := ?_) rfl (by kernel_rfl) (by kernel_rfl) (by kernel_rfl) (fun _ _ _ h => h) (Or.inl ⟨by kernel_rfl, ?_⟩) hH ?_
      rotate_left
      · (intro W hSw; obtain ⟨⟨k0, k1, k2⟩, k3, k4, k5, k6, k7⟩ := hSw; go_simp; try with_reducible rfl)
      refine wpAnyH_take (i := 19) (v := ?_) rfl (by kernel_rfl) (by kernel_rfl) (by kernel_rfl) (fun _ _ _ h => h) (Or.inl ⟨by kernel_rfl, ?_⟩) hH ?_
      rotate_left
      · (intro W hSw; obtain ⟨⟨k0, k1, k2⟩, k3, k4, k5, k6, k7⟩ := hSw; go_simp; try with_reducible rfl)
      try simp only [Act.put, List.getElem_toArray, List.getElem_cons_zero, List.getElem_cons_succ, List.setIfInBounds_toArray, List.set_cons_zero, List.set_cons_succ]
      refine wpAnyH_take (i := 22) (v := ?_) rfl (by kernel_rfl) (by kernel_rfl) (by kernel_rfl) (fun _ _ _ h => h) (Or.inl ⟨by kernel_rfl, ?_⟩) hH ?_
      rotate_left
      · (intro W hSw; obtain ⟨⟨k0, k1, k2⟩, k3, k4, k5, k6, k7⟩ := hSw; go_simp; try with_reducible rfl)
      refine wpAnyH_take (i := 23) (v := ?_) rfl (by kernel_rfl) (by kernel_rfl) (by kernel_rfl) (fun _ _ _ h => h) (Or.inl ⟨by kernel_rfl, ?_⟩) hH ?_
      rotate_left
      · (intro W hSw; obtain ⟨⟨k0, k1, k2⟩, k3, k4, k5, k6, k7⟩ := hSw; go_simp; try with_reducible rfl)
      refine wpAnyH_take (i := 24) (v := ?_) rfl (by kernel_rfl) (by kernel_rfl) (by kernel_rfl) (fun _ _ _ h => h) (Or.inl ⟨by kernel_rfl, ?_⟩) hH ?_
      rotate_left
      · (intro W hSw; obtain ⟨⟨k0, k1, k2⟩, k3, k4, k5, k6, k7⟩ := hSw; go_simp; try with_reducible rfl)
      try simp only [Act.put, List.getElem_toArray, List.getElem_cons_zero, List.getElem_cons_succ, List.setIfInBounds_toArray, List.set_cons_zero, List.set_cons_succ]
      refine wpAnyH_take (i := 25) (v := ?_) rfl (by kernel_rfl) (by kernel_rfl) (by kernel_rfl) (fun _ _ _ h => h) (Or.inl ⟨by kernel_rfl, ?_⟩) hH ?_
      rotate_left
      · (intro W hSw; obtain ⟨⟨k0, k1, k2⟩, k3, k4, k5, k6, k7⟩ := hSw; go_simp; try with_reducible rfl)
      refine wpAnyH_take (i := 26) (v := ?_) rfl (by kernel_rfl) (by kernel_rfl) (by kernel_rfl) (fun _ _ _ h => h) (Or.inl ⟨by kernel_rfl, ?_⟩) hH ?_
      rotate_left
      · (intro W hSw; obtain ⟨⟨k0, k1, k2⟩, k3, k4, k5, k6, k7⟩ := hSw; go_simp; try with_reducible rfl)
      try simp only [Act.put, List.getElem_toArray, List.getElem_cons_zero, List.getElem_cons_succ, List.setIfInBounds_toArray, List.set_cons_zero, List.set_cons_succ]
      refine wpAnyH_ready (rs := [20]) (by kernel_rfl) (by simp) ?_
      refine AllReadyH.cons rfl (fun K hK => ?_) ?_
      · go_simp
        go_wp2_with (refine (dall_any w6 gd ge d6 HD6.out).mono ?_; rintro e w7 ⟨g7, c7, rfl, I7, hc7, hg7, f7⟩; have q7 := Hqd.out w7 _ _ c7 I7; clear I7)
        refine hK.out _ _ ?_ (fun hH => ?_)
        · exact HS2.out w7 f7
        clear hK K
        refine wpAnyH_ready (rs := [21]) (by kernel_rfl) (by simp) ?_
        refine AllReadyH.cons rfl (fun K hK => ?_) ?_
        · go_simp
          refine hK.out _ _ ?_ (fun hH => ?_)
          · exact hH
          clear hK K
          refine wpAnyH_take (i := 27) (v := ?_) rfl (by kernel_rfl) (by kernel_rfl) (by kernel_rfl) (fun _ _ _ h => h) (Or.inl ⟨by kernel_rfl, ?_⟩) hH ?_
          rotate_left
          · (intro W hSw; obtain ⟨⟨k0, k1, k2⟩, k3, k4, k5, k6, k7⟩ := hSw; go_simp; try with_reducible rfl)
          refine wpAnyH_take (i := 28) (v := ?_) rfl (by kernel_rfl) (by kernel_rfl) (by kernel_rfl) (fun _ _ _ h => h) (Or.inl ⟨by kernel_rfl, ?_⟩) hH ?_
          rotate_left
          · (intro W hSw; obtain ⟨⟨k0, k1, k2⟩, k3, k4, k5, k6, k7⟩ := hSw; go_simp; try with_reducible rfl)
          refine wpAnyH_take (i := 29) (v := ?_) rfl (by kernel_rfl) (by kernel_rfl) (by kernel_rfl) (fun _ _ _ h => h) (Or.inl ⟨by kernel_rfl, ?_⟩) hH ?_
          rotate_left
          · (intro W hSw; obtain ⟨⟨k0, k1, k2⟩, k3, k4, k5, k6, k7⟩ := hSw; go_simp; try with_reducible rfl)
          try simp only [Act.put, List.getElem_toArray, List.getElem_cons_zero, List.getElem_cons_succ, List.setIfInBounds_toArray, List.set_cons_zero, List.set_cons_succ]
          refine wpAnyH_take (i := 30) (v := ?_) rfl (by kernel_rfl) (by kernel_rfl) (by kernel_rfl) (fun _ _ _ h => h) (Or.inl ⟨by kernel_rfl, ?_⟩) hH ?_
          rotate_left
          · (intro W hSw; obtain ⟨⟨k0, k1, k2⟩, k3, k4, k5, k6, k7⟩ := hSw; go_simp; try with_reducible rfl)
          refine wpAnyH_take (i := 33) (v := ?_) rfl (by kernel_rfl) (by kernel_rfl) (by kernel_rfl) (fun _ _ _ h => h) (Or.inl ⟨by kernel_rfl, ?_⟩) hH ?_
          rotate_left
          · (intro W hSw; obtain ⟨⟨k0, k1, k2⟩, k3, k4, k5, k6, k7⟩ := hSw; go_simp; try with_reducible rfl)
          refine wpAnyH_take (i := 34) (v := ?_) rfl (by kernel_rfl) (by kernel_rfl) (by kernel_rfl) (fun _ _ _ h => h) (Or.inl ⟨by kernel_rfl, ?_⟩) hH ?_
          rotate_left
          · (intro W hSw; obtain ⟨⟨k0, k1, k2⟩, k3, k4, k5, k6, k7⟩ := hSw; go_simp; try with_reducible rfl)
          try simp only [Act.put, List.getElem_toArray, List.getElem_cons_zero, List.getElem_cons_succ, List.setIfInBounds_toArray, List.set_cons_zero, List.set_cons_succ]
          refine wpAnyH_take (i := 35) (v := ?_) rfl (by kernel_rfl) (by kernel_rfl) (by kernel_rfl) (fun _ _ _ h => h) (Or.inl ⟨by kernel_rfl, ?_⟩) hH ?_
          rotate_left
          · (intro W hSw; obtain ⟨⟨k0, k1, k2⟩, k3, k4, k5, k6, k7⟩ := hSw; go_simp; try with_reducible rfl)
          refine wpAnyH_take (i := 36) (v := ?_) rfl (by kernel_rfl) (by kernel_rfl) (by kernel_rfl) (fun _ _ _ h => h) (Or.inl ⟨by kernel_rfl, ?_⟩) hH ?_
          rotate_left
          · (intro W hSw; obtain ⟨⟨k0, k1, k2⟩, k3, k4, k5, k6, k7⟩ := hSw; go_simp; try with_reducible rfl)
          refine wpAnyH_take (i := 37) (v := ?_) rfl (by kernel_rfl) (by kernel_rfl) (by kernel_rfl) (fun _ _ _ h => h) (Or.inl ⟨by kernel_rfl, ?_⟩) hH ?_
          rotate_left
          · (intro W hSw; obtain ⟨⟨k0, k1, k2⟩, k3, k4, k5, k6, k7⟩ := hSw; go_simp; try with_reducible rfl)
          try simp only [Act.put, List.getElem_toArray, List.getElem_cons_zero, List.getElem_cons_succ, List.setIfInBounds_toArray, List.set_cons_zero, List.set_cons_succ]
          refine wpAnyH_take (i := 38) (v := ?_) rfl (by kernel_rfl) (by kernel_rfl) (by kernel_rfl) (fun _ _ _ h => h) (Or.inl ⟨by kernel_rfl, ?_⟩) hH ?_
          rotate_left
          · (intro W hSw; obtain ⟨⟨k0, k1, k2⟩, k3, k4, k5, k6, k7⟩ := hSw; go_simp; try with_reducible rfl)
          refine wpAnyH_take (i := 39) (v := ?_) rfl (by kernel_rfl) (by kernel_rfl) (by kernel_rfl) (fun _ _ _ h => h) (Or.inl ⟨by kernel_rfl, ?_⟩) hH ?_
          rotate_left
          · (intro W hSw; obtain ⟨⟨k0, k1, k2⟩, k3, k4, k5, k6, k7⟩ := hSw; go_simp; try with_reducible rfl)
          refine wpAnyH_take (i := 40) (v := ?_) rfl (by kernel_rfl) (by kernel_rfl) (by kernel_rfl) (fun _ _ _ h => h) (Or.inl ⟨by kernel_rfl, ?_⟩) hH ?_
          rotate_left
          · (intro W hSw; obtain ⟨⟨k0, k1, k2⟩, k3, k4, k5, k6, k7⟩ := hSw; go_simp; try with_reducible rfl)
          try simp only [Act.put, List.getElem_toArray, List.getElem_cons_zero, List.getElem_cons_succ, List.setIfInBounds_toArray, List.set_cons_zero, List.set_cons_succ]
          refine wpAnyH_ready (rs := [31]) (by kernel_rfl) (by simp) ?_
          refine AllReadyH.cons rfl (fun K hK => ?_) ?_
          · go_simp
            go_wp2_with (refine (all_any w7 a m6 (HM6.out.fr0 f7)).mono ?_; rintro e w8 ⟨rfl, hc8, f78⟩; have f8 := f7.tr f78; rw [Hn6.out, ← HNN.out] at hc8 ⊢; have q8 := Hqm.out w8 _ _ NN (cells_ints hc8 (fun k hk => HM6.out.bd k (by rw [Hn6.out, ← HNN.out]; exact hk))); clear hc8 f78)
            refine hK.out _ _ ?_ (fun hH => ?_)
            · exact HS2.out w8 f8
            clear hK K
            refine wpAnyH_ready (rs := [32]) (by kernel_rfl) (by simp) ?_
            refine AllReadyH.cons rfl (fun K hK => ?_) ?_
            · go_simp
              refine hK.out _ _ ?_ (fun hH => ?_)
              · exact hH
              clear hK K
              refine wpAnyH_take (i := 41) (v := ?_) rfl (by kernel_rfl) (by kernel_rfl) (by kernel_rfl) (fun _ _ _ h => h) (Or.inl ⟨by kernel_rfl, ?_⟩) hH ?_
              rotate_left
              · (intro W hSw; obtain ⟨⟨k0, k1, k2⟩, k3, k4, k5, k6, k7⟩ := hSw; go_simp; try with_reducible rfl)
              refine wpAnyH_take (i := 42) (v := ?_) rfl (by kernel_rfl) (by kernel_rfl) (by kernel_rfl) (fun _ _ _ h => h) (Or.inl ⟨by kernel_rfl, ?_⟩) hH ?_
              rotate_left
              · (intro W hSw; obtain ⟨⟨k0, k1, k2⟩, k3, k4, k5, k6, k7⟩ := hSw; go_simp; try with_reducible rfl)
              refine wpAnyH_take (i := 43) (v := ?_) rfl (by kernel_rfl) (by kernel_rfl) (by kernel_rfl) (fun _ _ _ h => h) (Or.inl ⟨by kernel_rfl, ?_⟩) hH ?_
              rotate_left
              · (intro W hSw; obtain ⟨⟨k0, k1, k2⟩, k3, k4, k5, k6, k7⟩ := hSw; go_simp; try with_reducible rfl)
              try simp only [Act.put, List.getElem_toArray, List.getElem_cons_zero, List.getElem_cons_succ, List.setIfInBounds_toArray, List.set_cons_zero, List.set_cons_succ]
              refine wpAnyH_take (i := 44) (v := ?_) rfl (by kernel_rfl) (by kernel_rfl) (by kernel_rfl) (fun _ _ _ h => h) (Or.inl ⟨by kernel_rfl, ?_⟩) hH ?_
              rotate_left
              · (intro W hSw; obtain ⟨⟨k0, k1, k2⟩, k3, k4, k5, k6, k7⟩ := hSw; go_simp; try with_reducible rfl)
              refine wpAnyH_take (i := 46) (v := ?_) rfl (by kernel_rfl) (by kernel_rfl) (by kernel_rfl) (fun _ _ _ h => h) (Or.inl ⟨by kernel_rfl, ?_⟩) hH ?_
              rotate_left
              · (intro W hSw; obtain ⟨⟨k0, k1, k2⟩, k3, k4, k5, k6, k7⟩ := hSw; go_simp; try with_reducible rfl)
              refine wpAnyH_take (i := 47) (v := ?_) rfl (by kernel_rfl) (by kernel_rfl) (by kernel_rfl) (fun _ _ _ h => h) (Or.inl ⟨by kernel_rfl, ?_⟩) hH ?_
              rotate_left
              · (intro W hSw; obtain ⟨⟨k0, k1, k2⟩, k3, k4, k5, k6, k7⟩ := hSw; go_simp; try with_reducible rfl)
              try simp only [Act.put, List.getElem_toArray, List.getElem_cons_zero, List.getElem_cons_succ, List.setIfInBounds_toArray, List.set_cons_zero, List.set_cons_succ]
              refine wpAnyH_take (i := 48) (v := ?_) rfl (by kernel_rfl) (by kernel_rfl) (by kernel_rfl) (fun _ _ _ h => h) (Or.inl ⟨by kernel_rfl, ?_⟩) hH ?_
              rotate_left
              · (intro W hSw; obtain ⟨⟨k0, k1, k2⟩, k3, k4, k5, k6, k7⟩ := hSw; go_simp; try with_reducible rfl)
              refine wpAnyH_take (i := 49) (v := ?_) rfl (by kernel_rfl) (by kernel_rfl) (by kernel_rfl) (fun _ _ _ h => h) (Or.inl ⟨by kernel_rfl, ?_⟩) hH ?_
              rotate_left
              · (intro W hSw; obtain ⟨⟨k0, k1, k2⟩, k3, k4, k5, k6, k7⟩ := hSw; go_simp; try with_reducible rfl)
              try simp only [Act.put, List.getElem_toArray, List.getElem_cons_zero, List.getElem_cons_succ, List.setIfInBounds_toArray, List.set_cons_zero, List.set_cons_succ]
              refine wpAnyH_ready (rs := [45]) (by kernel_rfl) (by simp) ?_
              refine AllReadyH.cons rfl (fun K hK => ?_) ?_
              · go_simp
                go_wp2_with (refine (turned_any w8 a m6 (HM6.out.fr0 f8) 0 (by omega)).mono ?_; rintro e w9 ⟨v9, rfl, ho9, f89, k9⟩; have f9 := f8.tr f89; obtain ⟨A9, c9, rfl⟩ := ownI_any ho9; have I9 := Lib.hid (Bk.own_ints ho9 Hwl.out); clear ho9 k9)
                refine hK.out _ _ ?_ (fun hH => ?_)
                · exact HS2.out w9 f9
                clear hK K
                refine wpAnyH_ready (rs := [50]) (by kernel_rfl) (by simp) ?_
                refine AllReadyH.cons rfl (fun K hK => ?_) ?_
                · go_simp
                  go_wp2_with (refine (pages_any w9 gM gb gt m6.mem m6 (by rw [Hn6.out]; exact (HB6.out.fr0 f9).r) (by rw [Hn6.out]; omega) 0 (by omega)).mono ?_; rintro e w10 ⟨v10, rfl, ho10, f910, k10⟩; have f10 := f9.tr f910; rw [← hend.out] at ho10; obtain ⟨A10, c10, rfl⟩ := ownI_any ho10; have I10 := Lib.hid (Bk.own_ints ho10 Hwl.out); have J9 := Lib.hid (I9.out.fr f910 (Nat.le_refl _) (fun _ _ e => e)); have hs9 := f910.size; clear ho10 k10)
                  refine hK.out _ _ ?_ (fun hH => ?_)
                  · exact HS2.out w10 f10
                  clear hK K
                  refine wpAnyH_ready (rs := [51]) (by kernel_rfl) (by simp) ?_
                  refine AllReadyH.cons rfl (fun K hK => ?_) ?_
                  · go_simp
                    go_wp2_with (refine (Bk.same64_eq w10 _ _ _ c9 c10 A9 A10 _ J9.out hs9 I10.out (Nat.le_refl _) (by omega)).mono ?_; rintro e w11 ⟨rfl, f1011⟩; have f11 := f10.tr f1011)
                    refine hK.out _ _ ?_ (fun hH => ?_)
                    · exact HS2.out w11 f11
                    clear hK K
                    refine wpAnyH_take (i := 52) (v := ?_) rfl (by kernel_rfl) (by kernel_rfl) (by kernel_rfl) (fun _ _ _ h => h) (Or.inl ⟨by kernel_rfl, ?_⟩) hH ?_
                    rotate_left
                    · (intro W hSw; obtain ⟨⟨k0, k1, k2⟩, k3, k4, k5, k6, k7⟩ := hSw; go_simp; try with_reducible rfl)
                    refine wpAnyH_take (i := 53) (v := ?_) rfl (by kernel_rfl) (by kernel_rfl) (by kernel_rfl) (fun _ _ _ h => h) (Or.inl ⟨by kernel_rfl, ?_⟩) hH ?_
                    rotate_left
                    · (intro W hSw; obtain ⟨⟨k0, k1, k2⟩, k3, k4, k5, k6, k7⟩ := hSw; go_simp; try with_reducible rfl)
                    refine wpAnyH_done (by kernel_rfl) ?_ _
                    go_wp2_with fail
                    go_ret
                    exact ⟨rfl, ⟨m6, d6, Hn6.out, HM6.out.fr0 f11, HD6.out.fr f11 (fun e => e) (fun e => e), by rw [Hn6.out]; exact HB6.out.fr0 f11, Ht6.out⟩, (HF0.out.none.tr HF6.out).tr f11.none⟩
                  exact AllReadyH.nil
                exact AllReadyH.nil
              exact AllReadyH.nil
            exact AllReadyH.nil
          exact AllReadyH.nil
        exact AllReadyH.nil
      exact AllReadyH.nil
    exact AllReadyH.nil
  exact AllReadyH.nil
end Go.Proofs.Ytlkagggkpaihaaa.Rf
