/- A bus and the document's: do they tell the same? (innkeeperlaw15.alike) -/
import Derived.Test.YthiephlfhbkcbaaDoorBusNext
import Derived.Deep.RegionHeld
import Derived.Deep.Cut
namespace Go.Proofs.YthiephlfhbkcbaaDoor.Bs
open Go.RowKit Fm Nt Rm By Dr Rf
set_option linter.unusedVariables false
set_option linter.unusedSimpArgs false
set_option maxHeartbeats 8000000

theorem wpAnyH_mono {P : Program} {ops : Array Oper} {Q : Exit → Act → World → Prop} {md : Region.Mode} {S S' : World → Prop} (hS : ∀ w, S' w → S w) :
    ∀ (fuel : Nat) (listed : Array Bool) (a : Act) (w : World), wpAnyH P md ops Q S' fuel listed a w → wpAnyH P md ops Q S fuel listed a w
  | 0, _, _, _, h => h
  | fuel + 1, _, _, _, h => ⟨h.1, fun i hi => wpOp_mono (fun a' w' h' => ⟨hS w' h'.1, wpAnyH_mono hS fuel _ a' w' h'.2⟩) (h.2 i hi)⟩
theorem wpAnyH_listed {P : Program} {ops : Array Oper} {Q : Exit → Act → World → Prop} {md : Region.Mode} {S : World → Prop} {fuel : Nat} {l l2 : Array Bool} {a : Act} {w : World} (h : l = l2) (g : wpAnyH P md ops Q S fuel l2 a w) : wpAnyH P md ops Q S fuel l a w := by subst h; exact g
theorem low0 : Iq.low 0 = 0 := by decide
theorem ints_bd {w : World} {B n : Nat} {A : Option Addr} {z : Nat → Int} (h : IntsAt .u8 w B A n (lst z n)) : ∀ i, i < n → 0 ≤ z i ∧ z i < 256 := fun i hi => by
  have := wf_u8 (h.2.1 i hi)
  rw [lst_at _ hi] at this
  omega
theorem disk_bd {w0 w : World} {K : Nat → Prop} {a : Ab} {s : Sb} (h : BO w0 w K a s) : ∀ i, i < s.ms.n * 64 → 0 ≤ s.ms.mem i ∧ s.ms.mem i < 256 := by
  obtain ⟨F, h1, _⟩ := h
  exact h1.M.bd
theorem input_l {w0 w : World} {K : Nat → Prop} {a : Ab} {s : Sb} (h : BO w0 w K a s) :
    Calls Tryd.prog 38 #[.pointer (some ⟨a.gk, 0, none⟩)] w fun e w' => ∃ A n c, e = .returned (.slice A n c) ∧ IntsAt .u8 w' w'.heap.size A n s.ins ∧ Fr (fun _ => False) w w' := by
  obtain ⟨F, h1, _⟩ := h
  have hl := h1.ok.len
  refine (Co.input_any w 0 a.gk F s.outs s.ins h1.k (by omega) 0 (Nat.zero_le _)).mono ?_
  rintro e w' ⟨v, rfl, ho, f, hk⟩
  obtain ⟨A, c, rfl⟩ := Co.own_any ho
  exact ⟨A, s.ins.length, c, rfl, Bk.own_ints ho (fun z hz => wf_u8_mk (n := z) (h1.ok.ins z hz).1 (by have := (h1.ok.ins z hz).2; omega)), f⟩
theorem Doc.cells {w : World} {r : Rr} {s : Sb} (h : Doc w r s) : ∃ Ao no co Ai ni ci, w.cell? ⟨r.gR, 0, none⟩ = some (.pointer (some ⟨r.gM, 0, none⟩)) ∧ w.cell? ⟨r.gR, 1, none⟩ = some (.int .u32 (s.p : Int)) ∧ w.cell? ⟨r.gR, 2, none⟩ = some (.int .u32 (s.m : Int)) ∧ w.cell? ⟨r.gR, 3, none⟩ = some (.int .u32 s.tm) ∧
    w.cell? ⟨r.gR, 4, none⟩ = some (.slice Ao no co) ∧ w.cell? ⟨r.gR, 5, none⟩ = some (.slice Ai ni ci) ∧ w.cell? ⟨r.gR, 6, none⟩ = some (.slice (some ⟨r.gk, 0, none⟩) 1024 1024) ∧ w.cell? ⟨r.gM, 0, none⟩ = some (.slice (some ⟨r.gb, 0, none⟩) (s.ms.n * 64) (s.ms.n * 64)) ∧
    IntsAt .u8 w w.heap.size Ao no s.outs ∧ IntsAt .u8 w w.heap.size Ai ni s.ins := by
  obtain ⟨vo, vi, hb, ⟨Ao, no, co, rfl, ho, _⟩, ⟨Ai, ni, ci, rfl, hi, _⟩⟩ := h.b
  exact ⟨Ao, no, co, Ai, ni, ci, hb.cell 0, hb.cell 1, hb.cell 2, hb.cell 3, hb.cell 4, hb.cell 5, hb.cell 6, h.B.r.b.cell 0, ho, hi⟩
set_option maxRecDepth 100000 in
theorem alike15 (w0 w : World) (K : Nat → Prop) (a : Ab) (s : Sb) (r : Rr) (hT : Iq.Tab w) (h : BO w0 w K a s) (hD : Doc w r s) (hlo : s.outs.length ≤ 1000000) :
    Calls Tryd.prog 25 #[.pointer (some ⟨a.gB, 0, none⟩), .pointer (some ⟨r.gR, 0, none⟩), .pointer (some ⟨a.am.gm, 0, none⟩)] w fun e w' => e = .returned (.bool true) ∧ Fr (fun _ => False) w w' := by
  have hok := h.ok
  have hmb := Lib.hid (disk_bd h)
  obtain ⟨c0, c1, c2, c3, c4, c5, c6, c7⟩ := h.cells
  have H := Lib.hid h
  have HD := Lib.hid hD
  have HO := Lib.hid hok
  have hn := next_o hT h
  have hx : s.p &&& s.m < 256 := Nat.lt_of_le_of_lt Nat.and_le_left hok.p
  have hnx : nxt s.p s.m = if Iq.nextB s.p s.m then (Iq.nextN s.p s.m : Int) else -1 := rfl
  have hz : Iq.nextB s.p s.m = false → Iq.nextN s.p s.m = 0 := fun e => by
    have e2 : s.p &&& s.m = 0 := by simpa [Iq.nextB] using e
    rw [Iq.nextN, e2, low0]
  have Hrn := Lib.hid (fun W (d : Doc W r s) => rnext_any W r s d hok)
  obtain ⟨kk, hkk⟩ : ∃ q : Int, (if Iq.nextB s.p s.m then (Iq.nextN s.p s.m : Int) else -1) = q := ⟨_, rfl⟩
  rw [hnx, hkk] at Hrn
  have HKK := Lib.hid hkk
  clear hkk
  have hlen := hok.len
  clear hT h hD hok hx hnx
  generalize Iq.nextB s.p s.m = nb at *
  generalize Iq.nextN s.p s.m = nn at *
  have HN := Lib.hid hn
  clear hn
  go_enter Tryd.func25, Tryd.ntmps25
  go_wp2_with fail
  refine (HN.out).mono ?_
  rintro e w1 ⟨rfl, f1⟩
  have D1 := HD.out.fr0 f1
  have H1 := H.out.fr0 f1
  clear c0 c1 c2 c3 c4 c5 c6 c7
  go_wp2_with fail
  refine (Hrn.out w1 D1).mono ?_
  rintro e w2 ⟨rfl, f2⟩
  have hH2 := H1.fr0 f2
  have hD2 := D1.fr0 f2
  obtain ⟨c0, c1, c2, c3, _, _, _, _⟩ := hH2.cells
  obtain ⟨Ao, no, co, Ai, ni, ci, d0, d1, d2, d3, d4, d5, d6, d7, io, ii⟩ := hD2.cells
  have hni := ii.1
  have hbd : ∀ i, i < 1024 → 0 ≤ s.d i ∧ s.d i < 256 := by obtain ⟨F, h1, _⟩ := hH2; exact h1.d.bd
  have hBl : a.gB < w2.heap.size := by obtain ⟨F, h1, _⟩ := hH2; exact h1.b.lt
  have hRl : r.gR < w2.heap.size := by obtain ⟨vo, vi, h1, _⟩ := hD2.b; exact h1.lt
  have hMl : r.gM < w2.heap.size := hD2.B.r.b.lt
  have i3 : IntsAt .u8 w2 w2.heap.size (some ⟨r.gk, 0, none⟩) 1024 (lst s.d 1024) := (cells_ints hD2.B.c hbd).more hD2.B.c.lt
  have i4 : IntsAt .u8 w2 w2.heap.size (some ⟨r.gb, 0, none⟩) (s.ms.n * 64) (lst s.ms.mem (s.ms.n * 64)) := (cells_ints hD2.B.r.cb hmb.out).more hD2.B.r.cb.lt
  have Hq1 : Hid (∀ W B A n c, IntsAt .u8 W B A n s.outs → (convert 24 9 (.slice A n c)).run Tryd.prog W = .ok (.string (str s.outs)) W) := Lib.hid (fun W B A n c h => str_of_ints h)
  have Hq2 : Hid (∀ W B A n c, IntsAt .u8 W B A n s.ins → (convert 24 9 (.slice A n c)).run Tryd.prog W = .ok (.string (str s.ins)) W) := Lib.hid (fun W B A n c h => str_of_ints h)
  have Hq3 : Hid (∀ W B A n c, IntsAt .u8 W B A n (lst s.d 1024) → (convert 24 9 (.slice A n c)).run Tryd.prog W = .ok (.string (str (lst s.d 1024))) W) := Lib.hid (fun W B A n c h => str_of_ints h)
  have Hq4 : Hid (∀ W B A n c, IntsAt .u8 W B A n (lst s.ms.mem (s.ms.n * 64)) → (convert 24 9 (.slice A n c)).run Tryd.prog W = .ok (.string (str (lst s.ms.mem (s.ms.n * 64)))) W) := Lib.hid (fun W B A n c h => str_of_ints h)
  have HP := Lib.hid (fun W (f : Fr (fun _ => False) w2 W) => pending_o (hH2.fr0 f))
  have HM := Lib.hid (fun W (f : Fr (fun _ => False) w2 W) => mask_o (hH2.fr0 f))
  have HA := Lib.hid (fun W (f : Fr (fun _ => False) w2 W) => at_o (hH2.fr0 f))
  have HW := Lib.hid (fun W (f : Fr (fun _ => False) w2 W) => waits_o (hH2.fr0 f))
  have HU := Lib.hid (fun W (f : Fr (fun _ => False) w2 W) => output_o (hH2.fr0 f) hlo)
  have HI := Lib.hid (fun W (f : Fr (fun _ => False) w2 W) => input_l (hH2.fr0 f))
  have HL := Lib.hid (fun W (f : Fr (fun _ => False) w2 W) => dall_o (hH2.fr0 f))
  have HQ : Hid (∀ W, Fr (fun _ => False) w2 W → Calls Tryd.prog 39 #[.pointer (some ⟨a.am.gm, 0, none⟩)] W fun e w' => ∃ g, e = .returned (.slice (some ⟨g, 0, none⟩) (s.ms.n * 64) (s.ms.n * 64)) ∧ IntsAt .u8 w' w'.heap.size (some ⟨g, 0, none⟩) (s.ms.n * 64) (lst s.ms.mem (s.ms.n * 64)) ∧ Fr (fun _ => False) W w') := Lib.hid (fun W f => (mall_o (hH2.fr0 f)).mono fun e w' ⟨h1, h2, h3⟩ => ⟨_, h1, (cells_ints h2 hmb.out).more h2.lt, h3⟩)
  rw [hni] at HW
  have hni64 : ni ≤ 64 := by omega
  have I1 := Lib.hid io
  have I2 := Lib.hid ii
  have I3 := Lib.hid i3
  have I4 := Lib.hid i4
  have fr2 := Lib.hid (f1.tr f2)
  clear D1 H1 f1 f2 io ii i3 i4 hbd hH2 hD2 hni
  generalize str s.outs = q1 at *
  generalize str s.ins = q2 at *
  generalize str (lst s.d 1024) = q3 at *
  generalize str (lst s.ms.mem (s.ms.n * 64)) = q4 at *
  generalize s.ms.n * 64 = NN at *
  go_upto_region 3 with (fail)
  go_cut [39] (fun v wx => v = .bool false ∧ w2 = wx)
  case first =>
    cases nb
    · obtain rfl : nn = 0 := hz rfl
      obtain rfl : kk = -1 := by rw [← HKK.out]; rfl
      go_wp2_with fail
      go_meet
      exact ⟨rfl, rfl⟩
    · obtain rfl : kk = (nn : Int) := by rw [← HKK.out]; rfl
      have hnn : (0 : Int) ≤ (nn : Int) := by omega
      go_wp2_with fail
      go_meet
      exact ⟨rfl, rfl⟩
  case rest =>
    obtain ⟨rfl, hw⟩ := hcut
    subst hw
    go_upto_region 5 with (fail)
    simp only [List.append_eq, List.cons_append, List.nil_append]
    refine wp_region_held_drew (S := Fr (fun _ => False) w2) (by kernel_rfl) ((Fr.refl (fun _ => False) w2).drew) (fun hH => ?_)
    refine wpAnyH_take (i := 0) (v := ?_) rfl (by kernel_rfl) (by kernel_rfl) (by kernel_rfl) (fun _ _ _ h => h) (Or.inl ⟨by kernel_rfl, ?_⟩) hH ?_
    rotate_left
    · (intro W _; go_simp; try with_reducible rfl)
    refine wpAnyH_take (i := 1) (v := ?_) rfl (by kernel_rfl) (by kernel_rfl) (by kernel_rfl) (fun _ _ _ h => h) (Or.inl ⟨by kernel_rfl, ?_⟩) hH ?_
    rotate_left
    · (intro W _; go_simp; try with_reducible rfl)
    refine wpAnyH_take (i := 2) (v := ?_) rfl (by kernel_rfl) (by kernel_rfl) (by kernel_rfl) (fun _ _ _ h => h) (Or.inl ⟨by kernel_rfl, ?_⟩) hH ?_
    rotate_left
    · (intro W _; go_simp; try with_reducible rfl)
    simp (config := { maxSteps := 2000000 }) only [Act.put, List.getElem_toArray, List.getElem_cons_zero, List.getElem_cons_succ, List.setIfInBounds_toArray, List.set_cons_zero, List.set_cons_succ]
    refine wpAnyH_take (i := 3) (v := ?_) rfl (by kernel_rfl) (by kernel_rfl) (by kernel_rfl) (fun _ _ _ h => h) (Or.inl ⟨by kernel_rfl, ?_⟩) hH ?_
    rotate_left
    · (intro W hSw; have k0 := hSw.cell c0 hBl (fun e => e); have k1 := hSw.cell c1 hBl (fun e => e); have k2 := hSw.cell c2 hBl (fun e => e); have k3 := hSw.cell c3 hBl (fun e => e); have j0 := hSw.cell d0 hRl (fun e => e); have j1 := hSw.cell d1 hRl (fun e => e); have j2 := hSw.cell d2 hRl (fun e => e); have j3 := hSw.cell d3 hRl (fun e => e); have j4 := hSw.cell d4 hRl (fun e => e); have j5 := hSw.cell d5 hRl (fun e => e); have j6 := hSw.cell d6 hRl (fun e => e); have j7 := hSw.cell d7 hMl (fun e => e); have l1 := Hq1.out W _ Ao no co (I1.out.fr hSw (Nat.le_refl _) (fun _ _ e => e)); have l2 := Hq2.out W _ Ai ni ci (I2.out.fr hSw (Nat.le_refl _) (fun _ _ e => e)); have l3 := Hq3.out W _ _ 1024 1024 (I3.out.fr hSw (Nat.le_refl _) (fun _ _ e => e)); have l4 := Hq4.out W _ _ NN NN (I4.out.fr hSw (Nat.le_refl _) (fun _ _ e => e)); go_simp; try with_reducible rfl)
    refine wpAnyH_take (i := 5) (v := ?_) rfl (by kernel_rfl) (by kernel_rfl) (by kernel_rfl) (fun _ _ _ h => h) (Or.inl ⟨by kernel_rfl, ?_⟩) hH ?_
    rotate_left
    · (intro W _; go_simp; try with_reducible rfl)
    refine wpAnyH_take (i := 6) (v := ?_) rfl (by kernel_rfl) (by kernel_rfl) (by kernel_rfl) (fun _ _ _ h => h) (Or.inl ⟨by kernel_rfl, ?_⟩) hH ?_
    rotate_left
    · (intro W _; go_simp; try with_reducible rfl)
    simp (config := { maxSteps := 2000000 }) only [Act.put, List.getElem_toArray, List.getElem_cons_zero, List.getElem_cons_succ, List.setIfInBounds_toArray, List.set_cons_zero, List.set_cons_succ]
    refine wpAnyH_take (i := 7) (v := ?_) rfl (by kernel_rfl) (by kernel_rfl) (by kernel_rfl) (fun _ _ _ h => h) (Or.inl ⟨by kernel_rfl, ?_⟩) hH ?_
    rotate_left
    · (intro W _; go_simp; try with_reducible rfl)
    refine wpAnyH_take (i := 8) (v := ?_) rfl (by kernel_rfl) (by kernel_rfl) (by kernel_rfl) (fun _ _ _ h => h) (Or.inl ⟨by kernel_rfl, ?_⟩) hH ?_
    rotate_left
    · (intro W hSw; have k0 := hSw.cell c0 hBl (fun e => e); have k1 := hSw.cell c1 hBl (fun e => e); have k2 := hSw.cell c2 hBl (fun e => e); have k3 := hSw.cell c3 hBl (fun e => e); have j0 := hSw.cell d0 hRl (fun e => e); have j1 := hSw.cell d1 hRl (fun e => e); have j2 := hSw.cell d2 hRl (fun e => e); have j3 := hSw.cell d3 hRl (fun e => e); have j4 := hSw.cell d4 hRl (fun e => e); have j5 := hSw.cell d5 hRl (fun e => e); have j6 := hSw.cell d6 hRl (fun e => e); have j7 := hSw.cell d7 hMl (fun e => e); have l1 := Hq1.out W _ Ao no co (I1.out.fr hSw (Nat.le_refl _) (fun _ _ e => e)); have l2 := Hq2.out W _ Ai ni ci (I2.out.fr hSw (Nat.le_refl _) (fun _ _ e => e)); have l3 := Hq3.out W _ _ 1024 1024 (I3.out.fr hSw (Nat.le_refl _) (fun _ _ e => e)); have l4 := Hq4.out W _ _ NN NN (I4.out.fr hSw (Nat.le_refl _) (fun _ _ e => e)); go_simp; try with_reducible rfl)
    simp (config := { maxSteps := 2000000 }) only [Act.put, List.getElem_toArray, List.getElem_cons_zero, List.getElem_cons_succ, List.setIfInBounds_toArray, List.set_cons_zero, List.set_cons_succ]
    refine wpAnyH_ready (rs := [4]) (by kernel_rfl) (by simp) ?_
    refine AllReadyH.cons rfl (fun K hK => ?_) ?_
    · go_simp
      go_wp2_with (refine (HP.out _ hH).mono ?_; rintro e w' ⟨rfl, rfl⟩)
      refine hK.out _ _ ?_ (fun hH => ?_)
      · exact hH
      clear hK K
      refine wpAnyH_take (i := 9) (v := ?_) rfl (by kernel_rfl) (by kernel_rfl) (by kernel_rfl) (fun _ _ _ h => h) (Or.inl ⟨by kernel_rfl, ?_⟩) hH ?_
      rotate_left
      · (intro W _; go_simp; try with_reducible rfl)
      refine wpAnyH_take (i := 10) (v := ?_) rfl (by kernel_rfl) (by kernel_rfl) (by kernel_rfl) (fun _ _ _ h => h) (Or.inl ⟨by kernel_rfl, ?_⟩) hH ?_
      rotate_left
      · (intro W _; go_simp; try with_reducible rfl)
      refine wpAnyH_take (i := 11) (v := ?_) rfl (by kernel_rfl) (by kernel_rfl) (by kernel_rfl) (fun _ _ _ h => h) (Or.inl ⟨by kernel_rfl, ?_⟩) hH ?_
      rotate_left
      · (intro W _; go_simp; try with_reducible rfl)
      simp (config := { maxSteps := 2000000 }) only [Act.put, List.getElem_toArray, List.getElem_cons_zero, List.getElem_cons_succ, List.setIfInBounds_toArray, List.set_cons_zero, List.set_cons_succ]
      refine wpAnyH_take (i := 12) (v := ?_) rfl (by kernel_rfl) (by kernel_rfl) (by kernel_rfl) (fun _ _ _ h => h) (Or.inl ⟨by kernel_rfl, ?_⟩) hH ?_
      rotate_left
      · (intro W _; go_simp; try with_reducible rfl)
      refine wpAnyH_take (i := 13) (v := ?_) rfl (by kernel_rfl) (by kernel_rfl) (by kernel_rfl) (fun _ _ _ h => h) (Or.inl ⟨by kernel_rfl, ?_⟩) hH ?_
      rotate_left
      · (intro W _; go_simp; try with_reducible rfl)
      refine wpAnyH_take (i := 14) (v := ?_) rfl (by kernel_rfl) (by kernel_rfl) (by kernel_rfl) (fun _ _ _ h => h) (Or.inl ⟨by kernel_rfl, ?_⟩) hH ?_
      rotate_left
      · (intro W hSw; have k0 := hSw.cell c0 hBl (fun e => e); have k1 := hSw.cell c1 hBl (fun e => e); have k2 := hSw.cell c2 hBl (fun e => e); have k3 := hSw.cell c3 hBl (fun e => e); have j0 := hSw.cell d0 hRl (fun e => e); have j1 := hSw.cell d1 hRl (fun e => e); have j2 := hSw.cell d2 hRl (fun e => e); have j3 := hSw.cell d3 hRl (fun e => e); have j4 := hSw.cell d4 hRl (fun e => e); have j5 := hSw.cell d5 hRl (fun e => e); have j6 := hSw.cell d6 hRl (fun e => e); have j7 := hSw.cell d7 hMl (fun e => e); have l1 := Hq1.out W _ Ao no co (I1.out.fr hSw (Nat.le_refl _) (fun _ _ e => e)); have l2 := Hq2.out W _ Ai ni ci (I2.out.fr hSw (Nat.le_refl _) (fun _ _ e => e)); have l3 := Hq3.out W _ _ 1024 1024 (I3.out.fr hSw (Nat.le_refl _) (fun _ _ e => e)); have l4 := Hq4.out W _ _ NN NN (I4.out.fr hSw (Nat.le_refl _) (fun _ _ e => e)); go_simp; try with_reducible rfl)
      simp (config := { maxSteps := 2000000 }) only [Act.put, List.getElem_toArray, List.getElem_cons_zero, List.getElem_cons_succ, List.setIfInBounds_toArray, List.set_cons_zero, List.set_cons_succ]
      refine wpAnyH_take (i := 16) (v := ?_) rfl (by kernel_rfl) (by kernel_rfl) (by kernel_rfl) (fun _ _ _ h => h) (Or.inl ⟨by kernel_rfl, ?_⟩) hH ?_
      rotate_left
      · (intro W _; go_simp; try with_reducible rfl)
      refine wpAnyH_take (i := 17) (v := ?_) rfl (by kernel_rfl) (by kernel_rfl) (by kernel_rfl) (fun _ _ _ h => h) (Or.inl ⟨by kernel_rfl, ?_⟩) hH ?_
      rotate_left
      · (intro W _; go_simp; try with_reducible rfl)
      refine wpAnyH_take (i := 18) (v := ?_) rfl (by kernel_rfl) (by kernel_rfl) (by kernel_rfl) (fun _ _ _ h => h) (Or.inl ⟨by kernel_rfl, ?_⟩) hH ?_
      rotate_left
      · (intro W _; go_simp; try with_reducible rfl)
      simp (config := { maxSteps := 2000000 }) only [Act.put, List.getElem_toArray, List.getElem_cons_zero, List.getElem_cons_succ, List.setIfInBounds_toArray, List.set_cons_zero, List.set_cons_succ]
      refine wpAnyH_take (i := 19) (v := ?_) rfl (by kernel_rfl) (by kernel_rfl) (by kernel_rfl) (fun _ _ _ h => h) (Or.inl ⟨by kernel_rfl, ?_⟩) hH ?_
      rotate_left
      · (intro W hSw; have k0 := hSw.cell c0 hBl (fun e => e); have k1 := hSw.cell c1 hBl (fun e => e); have k2 := hSw.cell c2 hBl (fun e => e); have k3 := hSw.cell c3 hBl (fun e => e); have j0 := hSw.cell d0 hRl (fun e => e); have j1 := hSw.cell d1 hRl (fun e => e); have j2 := hSw.cell d2 hRl (fun e => e); have j3 := hSw.cell d3 hRl (fun e => e); have j4 := hSw.cell d4 hRl (fun e => e); have j5 := hSw.cell d5 hRl (fun e => e); have j6 := hSw.cell d6 hRl (fun e => e); have j7 := hSw.cell d7 hMl (fun e => e); have l1 := Hq1.out W _ Ao no co (I1.out.fr hSw (Nat.le_refl _) (fun _ _ e => e)); have l2 := Hq2.out W _ Ai ni ci (I2.out.fr hSw (Nat.le_refl _) (fun _ _ e => e)); have l3 := Hq3.out W _ _ 1024 1024 (I3.out.fr hSw (Nat.le_refl _) (fun _ _ e => e)); have l4 := Hq4.out W _ _ NN NN (I4.out.fr hSw (Nat.le_refl _) (fun _ _ e => e)); go_simp; try with_reducible rfl)
      simp (config := { maxSteps := 2000000 }) only [Act.put, List.getElem_toArray, List.getElem_cons_zero, List.getElem_cons_succ, List.setIfInBounds_toArray, List.set_cons_zero, List.set_cons_succ]
      refine wpAnyH_ready (rs := [15]) (by kernel_rfl) (by simp) ?_
      refine AllReadyH.cons rfl (fun K hK => ?_) ?_
      · go_simp
        go_wp2_with (refine (HM.out _ hH).mono ?_; rintro e w' ⟨rfl, rfl⟩)
        refine hK.out _ _ ?_ (fun hH => ?_)
        · exact hH
        clear hK K
        refine wpAnyH_take (i := 20) (v := ?_) rfl (by kernel_rfl) (by kernel_rfl) (by kernel_rfl) (fun _ _ _ h => h) (Or.inl ⟨by kernel_rfl, ?_⟩) hH ?_
        rotate_left
        · (intro W _; go_simp; try with_reducible rfl)
        refine wpAnyH_take (i := 21) (v := ?_) rfl (by kernel_rfl) (by kernel_rfl) (by kernel_rfl) (fun _ _ _ h => h) (Or.inl ⟨by kernel_rfl, ?_⟩) hH ?_
        rotate_left
        · (intro W _; go_simp; try with_reducible rfl)
        refine wpAnyH_take (i := 22) (v := ?_) rfl (by kernel_rfl) (by kernel_rfl) (by kernel_rfl) (fun _ _ _ h => h) (Or.inl ⟨by kernel_rfl, ?_⟩) hH ?_
        rotate_left
        · (intro W _; go_simp; try with_reducible rfl)
        simp (config := { maxSteps := 2000000 }) only [Act.put, List.getElem_toArray, List.getElem_cons_zero, List.getElem_cons_succ, List.setIfInBounds_toArray, List.set_cons_zero, List.set_cons_succ]
        refine wpAnyH_take (i := 23) (v := ?_) rfl (by kernel_rfl) (by kernel_rfl) (by kernel_rfl) (fun _ _ _ h => h) (Or.inl ⟨by kernel_rfl, ?_⟩) hH ?_
        rotate_left
        · (intro W _; go_simp; try with_reducible rfl)
        refine wpAnyH_take (i := 24) (v := ?_) rfl (by kernel_rfl) (by kernel_rfl) (by kernel_rfl) (fun _ _ _ h => h) (Or.inl ⟨by kernel_rfl, ?_⟩) hH ?_
        rotate_left
        · (intro W _; go_simp; try with_reducible rfl)
        refine wpAnyH_take (i := 25) (v := ?_) rfl (by kernel_rfl) (by kernel_rfl) (by kernel_rfl) (fun _ _ _ h => h) (Or.inl ⟨by kernel_rfl, ?_⟩) hH ?_
        rotate_left
        · (intro W _; go_simp; try with_reducible rfl)
        simp (config := { maxSteps := 2000000 }) only [Act.put, List.getElem_toArray, List.getElem_cons_zero, List.getElem_cons_succ, List.setIfInBounds_toArray, List.set_cons_zero, List.set_cons_succ]
        refine wpAnyH_take (i := 26) (v := ?_) rfl (by kernel_rfl) (by kernel_rfl) (by kernel_rfl) (fun _ _ _ h => h) (Or.inl ⟨by kernel_rfl, ?_⟩) hH ?_
        rotate_left
        · (intro W hSw; have k0 := hSw.cell c0 hBl (fun e => e); have k1 := hSw.cell c1 hBl (fun e => e); have k2 := hSw.cell c2 hBl (fun e => e); have k3 := hSw.cell c3 hBl (fun e => e); have j0 := hSw.cell d0 hRl (fun e => e); have j1 := hSw.cell d1 hRl (fun e => e); have j2 := hSw.cell d2 hRl (fun e => e); have j3 := hSw.cell d3 hRl (fun e => e); have j4 := hSw.cell d4 hRl (fun e => e); have j5 := hSw.cell d5 hRl (fun e => e); have j6 := hSw.cell d6 hRl (fun e => e); have j7 := hSw.cell d7 hMl (fun e => e); have l1 := Hq1.out W _ Ao no co (I1.out.fr hSw (Nat.le_refl _) (fun _ _ e => e)); have l2 := Hq2.out W _ Ai ni ci (I2.out.fr hSw (Nat.le_refl _) (fun _ _ e => e)); have l3 := Hq3.out W _ _ 1024 1024 (I3.out.fr hSw (Nat.le_refl _) (fun _ _ e => e)); have l4 := Hq4.out W _ _ NN NN (I4.out.fr hSw (Nat.le_refl _) (fun _ _ e => e)); go_simp; try with_reducible rfl)
        refine wpAnyH_take (i := 28) (v := ?_) rfl (by kernel_rfl) (by kernel_rfl) (by kernel_rfl) (fun _ _ _ h => h) (Or.inl ⟨by kernel_rfl, ?_⟩) hH ?_
        rotate_left
        · (intro W _; go_simp; try with_reducible rfl)
        refine wpAnyH_take (i := 29) (v := ?_) rfl (by kernel_rfl) (by kernel_rfl) (by kernel_rfl) (fun _ _ _ h => h) (Or.inl ⟨by kernel_rfl, ?_⟩) hH ?_
        rotate_left
        · (intro W _; go_simp; try with_reducible rfl)
        simp (config := { maxSteps := 2000000 }) only [Act.put, List.getElem_toArray, List.getElem_cons_zero, List.getElem_cons_succ, List.setIfInBounds_toArray, List.set_cons_zero, List.set_cons_succ]
        refine wpAnyH_take (i := 30) (v := ?_) rfl (by kernel_rfl) (by kernel_rfl) (by kernel_rfl) (fun _ _ _ h => h) (Or.inl ⟨by kernel_rfl, ?_⟩) hH ?_
        rotate_left
        · (intro W _; go_simp; try with_reducible rfl)
        refine wpAnyH_take (i := 31) (v := ?_) rfl (by kernel_rfl) (by kernel_rfl) (by kernel_rfl) (fun _ _ _ h => h) (Or.inl ⟨by kernel_rfl, ?_⟩) hH ?_
        rotate_left
        · (intro W hSw; have k0 := hSw.cell c0 hBl (fun e => e); have k1 := hSw.cell c1 hBl (fun e => e); have k2 := hSw.cell c2 hBl (fun e => e); have k3 := hSw.cell c3 hBl (fun e => e); have j0 := hSw.cell d0 hRl (fun e => e); have j1 := hSw.cell d1 hRl (fun e => e); have j2 := hSw.cell d2 hRl (fun e => e); have j3 := hSw.cell d3 hRl (fun e => e); have j4 := hSw.cell d4 hRl (fun e => e); have j5 := hSw.cell d5 hRl (fun e => e); have j6 := hSw.cell d6 hRl (fun e => e); have j7 := hSw.cell d7 hMl (fun e => e); have l1 := Hq1.out W _ Ao no co (I1.out.fr hSw (Nat.le_refl _) (fun _ _ e => e)); have l2 := Hq2.out W _ Ai ni ci (I2.out.fr hSw (Nat.le_refl _) (fun _ _ e => e)); have l3 := Hq3.out W _ _ 1024 1024 (I3.out.fr hSw (Nat.le_refl _) (fun _ _ e => e)); have l4 := Hq4.out W _ _ NN NN (I4.out.fr hSw (Nat.le_refl _) (fun _ _ e => e)); go_simp; try with_reducible rfl)
        simp (config := { maxSteps := 2000000 }) only [Act.put, List.getElem_toArray, List.getElem_cons_zero, List.getElem_cons_succ, List.setIfInBounds_toArray, List.set_cons_zero, List.set_cons_succ]
        refine wpAnyH_ready (rs := [27]) (by kernel_rfl) (by simp) ?_
        refine AllReadyH.cons rfl (fun K hK => ?_) ?_
        · go_simp
          go_wp2_with (refine (HA.out _ hH).mono ?_; rintro e w' ⟨rfl, rfl⟩)
          refine hK.out _ _ ?_ (fun hH => ?_)
          · exact hH
          clear hK K
          refine wpAnyH_take (i := 32) (v := ?_) rfl (by kernel_rfl) (by kernel_rfl) (by kernel_rfl) (fun _ _ _ h => h) (Or.inl ⟨by kernel_rfl, ?_⟩) hH ?_
          rotate_left
          · (intro W _; go_simp; try with_reducible rfl)
          refine wpAnyH_take (i := 33) (v := ?_) rfl (by kernel_rfl) (by kernel_rfl) (by kernel_rfl) (fun _ _ _ h => h) (Or.inl ⟨by kernel_rfl, ?_⟩) hH ?_
          rotate_left
          · (intro W _; go_simp; try with_reducible rfl)
          refine wpAnyH_take (i := 34) (v := ?_) rfl (by kernel_rfl) (by kernel_rfl) (by kernel_rfl) (fun _ _ _ h => h) (Or.inl ⟨by kernel_rfl, ?_⟩) hH ?_
          rotate_left
          · (intro W _; go_simp; try with_reducible rfl)
          simp (config := { maxSteps := 2000000 }) only [Act.put, List.getElem_toArray, List.getElem_cons_zero, List.getElem_cons_succ, List.setIfInBounds_toArray, List.set_cons_zero, List.set_cons_succ]
          refine wpAnyH_take (i := 35) (v := ?_) rfl (by kernel_rfl) (by kernel_rfl) (by kernel_rfl) (fun _ _ _ h => h) (Or.inl ⟨by kernel_rfl, ?_⟩) hH ?_
          rotate_left
          · (intro W _; go_simp; try with_reducible rfl)
          refine wpAnyH_take (i := 36) (v := ?_) rfl (by kernel_rfl) (by kernel_rfl) (by kernel_rfl) (fun _ _ _ h => h) (Or.inl ⟨by kernel_rfl, ?_⟩) hH ?_
          rotate_left
          · (intro W _; go_simp; try with_reducible rfl)
          refine wpAnyH_take (i := 37) (v := ?_) rfl (by kernel_rfl) (by kernel_rfl) (by kernel_rfl) (fun _ _ _ h => h) (Or.inl ⟨by kernel_rfl, ?_⟩) hH ?_
          rotate_left
          · (intro W _; go_simp; try with_reducible rfl)
          simp (config := { maxSteps := 2000000 }) only [Act.put, List.getElem_toArray, List.getElem_cons_zero, List.getElem_cons_succ, List.setIfInBounds_toArray, List.set_cons_zero, List.set_cons_succ]
          refine wpAnyH_take (i := 38) (v := ?_) rfl (by kernel_rfl) (by kernel_rfl) (by kernel_rfl) (fun _ _ _ h => h) (Or.inl ⟨by kernel_rfl, ?_⟩) hH ?_
          rotate_left
          · (intro W hSw; have k0 := hSw.cell c0 hBl (fun e => e); have k1 := hSw.cell c1 hBl (fun e => e); have k2 := hSw.cell c2 hBl (fun e => e); have k3 := hSw.cell c3 hBl (fun e => e); have j0 := hSw.cell d0 hRl (fun e => e); have j1 := hSw.cell d1 hRl (fun e => e); have j2 := hSw.cell d2 hRl (fun e => e); have j3 := hSw.cell d3 hRl (fun e => e); have j4 := hSw.cell d4 hRl (fun e => e); have j5 := hSw.cell d5 hRl (fun e => e); have j6 := hSw.cell d6 hRl (fun e => e); have j7 := hSw.cell d7 hMl (fun e => e); have l1 := Hq1.out W _ Ao no co (I1.out.fr hSw (Nat.le_refl _) (fun _ _ e => e)); have l2 := Hq2.out W _ Ai ni ci (I2.out.fr hSw (Nat.le_refl _) (fun _ _ e => e)); have l3 := Hq3.out W _ _ 1024 1024 (I3.out.fr hSw (Nat.le_refl _) (fun _ _ e => e)); have l4 := Hq4.out W _ _ NN NN (I4.out.fr hSw (Nat.le_refl _) (fun _ _ e => e)); go_simp; try with_reducible rfl)
          refine wpAnyH_take (i := 40) (v := ?_) rfl (by kernel_rfl) (by kernel_rfl) (by kernel_rfl) (fun _ _ _ h => h) (Or.inl ⟨by kernel_rfl, ?_⟩) hH ?_
          rotate_left
          · (intro W _; go_simp; try with_reducible rfl)
          refine wpAnyH_take (i := 41) (v := ?_) rfl (by kernel_rfl) (by kernel_rfl) (by kernel_rfl) (fun _ _ _ h => h) (Or.inl ⟨by kernel_rfl, ?_⟩) hH ?_
          rotate_left
          · (intro W _; go_simp; try with_reducible rfl)
          simp (config := { maxSteps := 2000000 }) only [Act.put, List.getElem_toArray, List.getElem_cons_zero, List.getElem_cons_succ, List.setIfInBounds_toArray, List.set_cons_zero, List.set_cons_succ]
          refine wpAnyH_take (i := 42) (v := ?_) rfl (by kernel_rfl) (by kernel_rfl) (by kernel_rfl) (fun _ _ _ h => h) (Or.inl ⟨by kernel_rfl, ?_⟩) hH ?_
          rotate_left
          · (intro W _; go_simp; try with_reducible rfl)
          refine wpAnyH_take (i := 43) (v := ?_) rfl (by kernel_rfl) (by kernel_rfl) (by kernel_rfl) (fun _ _ _ h => h) (Or.inl ⟨by kernel_rfl, ?_⟩) hH ?_
          rotate_left
          · (intro W hSw; have k0 := hSw.cell c0 hBl (fun e => e); have k1 := hSw.cell c1 hBl (fun e => e); have k2 := hSw.cell c2 hBl (fun e => e); have k3 := hSw.cell c3 hBl (fun e => e); have j0 := hSw.cell d0 hRl (fun e => e); have j1 := hSw.cell d1 hRl (fun e => e); have j2 := hSw.cell d2 hRl (fun e => e); have j3 := hSw.cell d3 hRl (fun e => e); have j4 := hSw.cell d4 hRl (fun e => e); have j5 := hSw.cell d5 hRl (fun e => e); have j6 := hSw.cell d6 hRl (fun e => e); have j7 := hSw.cell d7 hMl (fun e => e); have l1 := Hq1.out W _ Ao no co (I1.out.fr hSw (Nat.le_refl _) (fun _ _ e => e)); have l2 := Hq2.out W _ Ai ni ci (I2.out.fr hSw (Nat.le_refl _) (fun _ _ e => e)); have l3 := Hq3.out W _ _ 1024 1024 (I3.out.fr hSw (Nat.le_refl _) (fun _ _ e => e)); have l4 := Hq4.out W _ _ NN NN (I4.out.fr hSw (Nat.le_refl _) (fun _ _ e => e)); go_simp; try with_reducible rfl)
          refine wpAnyH_take (i := 44) (v := ?_) rfl (by kernel_rfl) (by kernel_rfl) (by kernel_rfl) (fun _ _ _ h => h) (Or.inl ⟨by kernel_rfl, ?_⟩) hH ?_
          rotate_left
          · (intro W _; go_simp; try with_reducible rfl)
          simp (config := { maxSteps := 2000000 }) only [Act.put, List.getElem_toArray, List.getElem_cons_zero, List.getElem_cons_succ, List.setIfInBounds_toArray, List.set_cons_zero, List.set_cons_succ]
          refine wpAnyH_ready (rs := [39]) (by kernel_rfl) (by simp) ?_
          refine AllReadyH.cons rfl (fun K hK => ?_) ?_
          · go_simp
            go_wp2_with (refine (HW.out _ hH).mono ?_; rintro e w' ⟨rfl, rfl⟩)
            refine hK.out _ _ ?_ (fun hH => ?_)
            · exact hH
            clear hK K
            as_aux_lemma =>
              refine wpAnyH_take (i := 45) (v := ?_) rfl (by kernel_rfl) (by kernel_rfl) (by kernel_rfl) (fun _ _ _ h => h) (Or.inl ⟨by kernel_rfl, ?_⟩) hH ?_
              rotate_left
              · (intro W _; go_simp; try with_reducible rfl)
              refine wpAnyH_take (i := 46) (v := ?_) rfl (by kernel_rfl) (by kernel_rfl) (by kernel_rfl) (fun _ _ _ h => h) (Or.inl ⟨by kernel_rfl, ?_⟩) hH ?_
              rotate_left
              · (intro W _; go_simp; try with_reducible rfl)
              refine wpAnyH_take (i := 47) (v := ?_) rfl (by kernel_rfl) (by kernel_rfl) (by kernel_rfl) (fun _ _ _ h => h) (Or.inl ⟨by kernel_rfl, ?_⟩) hH ?_
              rotate_left
              · (intro W _; go_simp; try with_reducible rfl)
              simp (config := { maxSteps := 2000000 }) only [Act.put, List.getElem_toArray, List.getElem_cons_zero, List.getElem_cons_succ, List.setIfInBounds_toArray, List.set_cons_zero, List.set_cons_succ]
              refine wpAnyH_take (i := 48) (v := ?_) rfl (by kernel_rfl) (by kernel_rfl) (by kernel_rfl) (fun _ _ _ h => h) (Or.inl ⟨by kernel_rfl, ?_⟩) hH ?_
              rotate_left
              · (intro W _; go_simp; try with_reducible rfl)
              refine wpAnyH_take (i := 49) (v := ?_) rfl (by kernel_rfl) (by kernel_rfl) (by kernel_rfl) (fun _ _ _ h => h) (Or.inl ⟨by kernel_rfl, ?_⟩) hH ?_
              rotate_left
              · (intro W _; go_simp; try with_reducible rfl)
              refine wpAnyH_take (i := 50) (v := ?_) rfl (by kernel_rfl) (by kernel_rfl) (by kernel_rfl) (fun _ _ _ h => h) (Or.inl ⟨by kernel_rfl, ?_⟩) hH ?_
              rotate_left
              · (intro W _; go_simp; try with_reducible rfl)
              simp (config := { maxSteps := 2000000 }) only [Act.put, List.getElem_toArray, List.getElem_cons_zero, List.getElem_cons_succ, List.setIfInBounds_toArray, List.set_cons_zero, List.set_cons_succ]
              refine wpAnyH_take (i := 51) (v := ?_) rfl (by kernel_rfl) (by kernel_rfl) (by kernel_rfl) (fun _ _ _ h => h) (Or.inl ⟨by kernel_rfl, ?_⟩) hH ?_
              rotate_left
              · (intro W hSw; have k0 := hSw.cell c0 hBl (fun e => e); have k1 := hSw.cell c1 hBl (fun e => e); have k2 := hSw.cell c2 hBl (fun e => e); have k3 := hSw.cell c3 hBl (fun e => e); have j0 := hSw.cell d0 hRl (fun e => e); have j1 := hSw.cell d1 hRl (fun e => e); have j2 := hSw.cell d2 hRl (fun e => e); have j3 := hSw.cell d3 hRl (fun e => e); have j4 := hSw.cell d4 hRl (fun e => e); have j5 := hSw.cell d5 hRl (fun e => e); have j6 := hSw.cell d6 hRl (fun e => e); have j7 := hSw.cell d7 hMl (fun e => e); have l1 := Hq1.out W _ Ao no co (I1.out.fr hSw (Nat.le_refl _) (fun _ _ e => e)); have l2 := Hq2.out W _ Ai ni ci (I2.out.fr hSw (Nat.le_refl _) (fun _ _ e => e)); have l3 := Hq3.out W _ _ 1024 1024 (I3.out.fr hSw (Nat.le_refl _) (fun _ _ e => e)); have l4 := Hq4.out W _ _ NN NN (I4.out.fr hSw (Nat.le_refl _) (fun _ _ e => e)); go_simp; try with_reducible rfl)
              refine wpAnyH_take (i := 54) (v := ?_) rfl (by kernel_rfl) (by kernel_rfl) (by kernel_rfl) (fun _ _ _ h => h) (Or.inl ⟨by kernel_rfl, ?_⟩) hH ?_
              rotate_left
              · (intro W _; go_simp; try with_reducible rfl)
              refine wpAnyH_take (i := 55) (v := ?_) rfl (by kernel_rfl) (by kernel_rfl) (by kernel_rfl) (fun _ _ _ h => h) (Or.inl ⟨by kernel_rfl, ?_⟩) hH ?_
              rotate_left
              · (intro W _; go_simp; try with_reducible rfl)
              simp (config := { maxSteps := 2000000 }) only [Act.put, List.getElem_toArray, List.getElem_cons_zero, List.getElem_cons_succ, List.setIfInBounds_toArray, List.set_cons_zero, List.set_cons_succ]
              refine wpAnyH_take (i := 56) (v := ?_) rfl (by kernel_rfl) (by kernel_rfl) (by kernel_rfl) (fun _ _ _ h => h) (Or.inl ⟨by kernel_rfl, ?_⟩) hH ?_
              rotate_left
              · (intro W _; go_simp; try with_reducible rfl)
              refine wpAnyH_take (i := 57) (v := ?_) rfl (by kernel_rfl) (by kernel_rfl) (by kernel_rfl) (fun _ _ _ h => h) (Or.inl ⟨by kernel_rfl, ?_⟩) hH ?_
              rotate_left
              · (intro W hSw; have k0 := hSw.cell c0 hBl (fun e => e); have k1 := hSw.cell c1 hBl (fun e => e); have k2 := hSw.cell c2 hBl (fun e => e); have k3 := hSw.cell c3 hBl (fun e => e); have j0 := hSw.cell d0 hRl (fun e => e); have j1 := hSw.cell d1 hRl (fun e => e); have j2 := hSw.cell d2 hRl (fun e => e); have j3 := hSw.cell d3 hRl (fun e => e); have j4 := hSw.cell d4 hRl (fun e => e); have j5 := hSw.cell d5 hRl (fun e => e); have j6 := hSw.cell d6 hRl (fun e => e); have j7 := hSw.cell d7 hMl (fun e => e); have l1 := Hq1.out W _ Ao no co (I1.out.fr hSw (Nat.le_refl _) (fun _ _ e => e)); have l2 := Hq2.out W _ Ai ni ci (I2.out.fr hSw (Nat.le_refl _) (fun _ _ e => e)); have l3 := Hq3.out W _ _ 1024 1024 (I3.out.fr hSw (Nat.le_refl _) (fun _ _ e => e)); have l4 := Hq4.out W _ _ NN NN (I4.out.fr hSw (Nat.le_refl _) (fun _ _ e => e)); go_simp; try with_reducible rfl)
              refine wpAnyH_take (i := 58) (v := ?_) rfl (by kernel_rfl) (by kernel_rfl) (by kernel_rfl) (fun _ _ _ h => h) (Or.inl ⟨by kernel_rfl, ?_⟩) hH ?_
              rotate_left
              · (intro W hSw; have k0 := hSw.cell c0 hBl (fun e => e); have k1 := hSw.cell c1 hBl (fun e => e); have k2 := hSw.cell c2 hBl (fun e => e); have k3 := hSw.cell c3 hBl (fun e => e); have j0 := hSw.cell d0 hRl (fun e => e); have j1 := hSw.cell d1 hRl (fun e => e); have j2 := hSw.cell d2 hRl (fun e => e); have j3 := hSw.cell d3 hRl (fun e => e); have j4 := hSw.cell d4 hRl (fun e => e); have j5 := hSw.cell d5 hRl (fun e => e); have j6 := hSw.cell d6 hRl (fun e => e); have j7 := hSw.cell d7 hMl (fun e => e); have l1 := Hq1.out W _ Ao no co (I1.out.fr hSw (Nat.le_refl _) (fun _ _ e => e)); have l2 := Hq2.out W _ Ai ni ci (I2.out.fr hSw (Nat.le_refl _) (fun _ _ e => e)); have l3 := Hq3.out W _ _ 1024 1024 (I3.out.fr hSw (Nat.le_refl _) (fun _ _ e => e)); have l4 := Hq4.out W _ _ NN NN (I4.out.fr hSw (Nat.le_refl _) (fun _ _ e => e)); go_simp; try with_reducible rfl)
              simp (config := { maxSteps := 2000000 }) only [Act.put, List.getElem_toArray, List.getElem_cons_zero, List.getElem_cons_succ, List.setIfInBounds_toArray, List.set_cons_zero, List.set_cons_succ]
              refine wpAnyH_ready (rs := [52]) (by kernel_rfl) (by simp) ?_
              refine AllReadyH.cons rfl (fun K hK => ?_) ?_
              · go_simp
                go_wp2_with (refine (HU.out _ hH).mono ?_; rintro e w3 ⟨A3, n3, p3, rfl, hn3, i3, _, _, f3⟩; have R3 := Lib.hid i3; clear i3 hn3)
                refine hK.out _ _ ?_ (fun hH => ?_)
                · exact hH.tr f3
                clear hK K
                have F3 := Lib.hid hH
                refine wpAnyH_mono (S' := Fr (fun _ => False) w3) (fun w h => hH.tr h) _ _ _ _ ?_
                clear hH
                have hH := Fr.refl (fun _ => False) w3
                refine wpAnyH_take (i := 53) (v := ?_) rfl (by kernel_rfl) (by kernel_rfl) (by kernel_rfl) (fun _ _ _ h => h) (Or.inl ⟨by kernel_rfl, ?_⟩) hH ?_
                rotate_left
                · (intro W hS3; have hSw := F3.out.tr hS3; have k0 := hSw.cell c0 hBl (fun e => e); have k1 := hSw.cell c1 hBl (fun e => e); have k2 := hSw.cell c2 hBl (fun e => e); have k3 := hSw.cell c3 hBl (fun e => e); have j0 := hSw.cell d0 hRl (fun e => e); have j1 := hSw.cell d1 hRl (fun e => e); have j2 := hSw.cell d2 hRl (fun e => e); have j3 := hSw.cell d3 hRl (fun e => e); have j4 := hSw.cell d4 hRl (fun e => e); have j5 := hSw.cell d5 hRl (fun e => e); have j6 := hSw.cell d6 hRl (fun e => e); have j7 := hSw.cell d7 hMl (fun e => e); have l1 := Hq1.out W _ Ao no co (I1.out.fr hSw (Nat.le_refl _) (fun _ _ e => e)); have l2 := Hq2.out W _ Ai ni ci (I2.out.fr hSw (Nat.le_refl _) (fun _ _ e => e)); have l3 := Hq3.out W _ _ 1024 1024 (I3.out.fr hSw (Nat.le_refl _) (fun _ _ e => e)); have l4 := Hq4.out W _ _ NN NN (I4.out.fr hSw (Nat.le_refl _) (fun _ _ e => e)); have r3 := Hq1.out W _ A3 n3 p3 (R3.out.fr hS3 (Nat.le_refl _) (fun _ _ e => e)); go_simp; try with_reducible rfl)
                refine wpAnyH_take (i := 59) (v := ?_) rfl (by kernel_rfl) (by kernel_rfl) (by kernel_rfl) (fun _ _ _ h => h) (Or.inl ⟨by kernel_rfl, ?_⟩) hH ?_
                rotate_left
                · (intro W _; go_simp; try with_reducible rfl)
                refine wpAnyH_take (i := 60) (v := ?_) rfl (by kernel_rfl) (by kernel_rfl) (by kernel_rfl) (fun _ _ _ h => h) (Or.inl ⟨by kernel_rfl, ?_⟩) hH ?_
                rotate_left
                · (intro W _; go_simp; try with_reducible rfl)
                simp (config := { maxSteps := 2000000 }) only [Act.put, List.getElem_toArray, List.getElem_cons_zero, List.getElem_cons_succ, List.setIfInBounds_toArray, List.set_cons_zero, List.set_cons_succ]
                refine wpAnyH_take (i := 61) (v := ?_) rfl (by kernel_rfl) (by kernel_rfl) (by kernel_rfl) (fun _ _ _ h => h) (Or.inl ⟨by kernel_rfl, ?_⟩) hH ?_
                rotate_left
                · (intro W _; go_simp; try with_reducible rfl)
                refine wpAnyH_take (i := 62) (v := ?_) rfl (by kernel_rfl) (by kernel_rfl) (by kernel_rfl) (fun _ _ _ h => h) (Or.inl ⟨by kernel_rfl, ?_⟩) hH ?_
                rotate_left
                · (intro W _; go_simp; try with_reducible rfl)
                refine wpAnyH_take (i := 63) (v := ?_) rfl (by kernel_rfl) (by kernel_rfl) (by kernel_rfl) (fun _ _ _ h => h) (Or.inl ⟨by kernel_rfl, ?_⟩) hH ?_
                rotate_left
                · (intro W _; go_simp; try with_reducible rfl)
                simp (config := { maxSteps := 2000000 }) only [Act.put, List.getElem_toArray, List.getElem_cons_zero, List.getElem_cons_succ, List.setIfInBounds_toArray, List.set_cons_zero, List.set_cons_succ]
                refine wpAnyH_take (i := 64) (v := ?_) rfl (by kernel_rfl) (by kernel_rfl) (by kernel_rfl) (fun _ _ _ h => h) (Or.inl ⟨by kernel_rfl, ?_⟩) hH ?_
                rotate_left
                · (intro W _; go_simp; try with_reducible rfl)
                refine wpAnyH_take (i := 65) (v := ?_) rfl (by kernel_rfl) (by kernel_rfl) (by kernel_rfl) (fun _ _ _ h => h) (Or.inl ⟨by kernel_rfl, ?_⟩) hH ?_
                rotate_left
                · (intro W hS3; have hSw := F3.out.tr hS3; have k0 := hSw.cell c0 hBl (fun e => e); have k1 := hSw.cell c1 hBl (fun e => e); have k2 := hSw.cell c2 hBl (fun e => e); have k3 := hSw.cell c3 hBl (fun e => e); have j0 := hSw.cell d0 hRl (fun e => e); have j1 := hSw.cell d1 hRl (fun e => e); have j2 := hSw.cell d2 hRl (fun e => e); have j3 := hSw.cell d3 hRl (fun e => e); have j4 := hSw.cell d4 hRl (fun e => e); have j5 := hSw.cell d5 hRl (fun e => e); have j6 := hSw.cell d6 hRl (fun e => e); have j7 := hSw.cell d7 hMl (fun e => e); have l1 := Hq1.out W _ Ao no co (I1.out.fr hSw (Nat.le_refl _) (fun _ _ e => e)); have l2 := Hq2.out W _ Ai ni ci (I2.out.fr hSw (Nat.le_refl _) (fun _ _ e => e)); have l3 := Hq3.out W _ _ 1024 1024 (I3.out.fr hSw (Nat.le_refl _) (fun _ _ e => e)); have l4 := Hq4.out W _ _ NN NN (I4.out.fr hSw (Nat.le_refl _) (fun _ _ e => e)); have r3 := Hq1.out W _ A3 n3 p3 (R3.out.fr hS3 (Nat.le_refl _) (fun _ _ e => e)); go_simp; try with_reducible rfl)
                refine wpAnyH_take (i := 68) (v := ?_) rfl (by kernel_rfl) (by kernel_rfl) (by kernel_rfl) (fun _ _ _ h => h) (Or.inl ⟨by kernel_rfl, ?_⟩) hH ?_
                rotate_left
                · (intro W _; go_simp; try with_reducible rfl)
                simp (config := { maxSteps := 2000000 }) only [Act.put, List.getElem_toArray, List.getElem_cons_zero, List.getElem_cons_succ, List.setIfInBounds_toArray, List.set_cons_zero, List.set_cons_succ]
                refine wpAnyH_take (i := 69) (v := ?_) rfl (by kernel_rfl) (by kernel_rfl) (by kernel_rfl) (fun _ _ _ h => h) (Or.inl ⟨by kernel_rfl, ?_⟩) hH ?_
                rotate_left
                · (intro W _; go_simp; try with_reducible rfl)
                refine wpAnyH_take (i := 70) (v := ?_) rfl (by kernel_rfl) (by kernel_rfl) (by kernel_rfl) (fun _ _ _ h => h) (Or.inl ⟨by kernel_rfl, ?_⟩) hH ?_
                rotate_left
                · (intro W _; go_simp; try with_reducible rfl)
                refine wpAnyH_take (i := 71) (v := ?_) rfl (by kernel_rfl) (by kernel_rfl) (by kernel_rfl) (fun _ _ _ h => h) (Or.inl ⟨by kernel_rfl, ?_⟩) hH ?_
                rotate_left
                · (intro W hS3; have hSw := F3.out.tr hS3; have k0 := hSw.cell c0 hBl (fun e => e); have k1 := hSw.cell c1 hBl (fun e => e); have k2 := hSw.cell c2 hBl (fun e => e); have k3 := hSw.cell c3 hBl (fun e => e); have j0 := hSw.cell d0 hRl (fun e => e); have j1 := hSw.cell d1 hRl (fun e => e); have j2 := hSw.cell d2 hRl (fun e => e); have j3 := hSw.cell d3 hRl (fun e => e); have j4 := hSw.cell d4 hRl (fun e => e); have j5 := hSw.cell d5 hRl (fun e => e); have j6 := hSw.cell d6 hRl (fun e => e); have j7 := hSw.cell d7 hMl (fun e => e); have l1 := Hq1.out W _ Ao no co (I1.out.fr hSw (Nat.le_refl _) (fun _ _ e => e)); have l2 := Hq2.out W _ Ai ni ci (I2.out.fr hSw (Nat.le_refl _) (fun _ _ e => e)); have l3 := Hq3.out W _ _ 1024 1024 (I3.out.fr hSw (Nat.le_refl _) (fun _ _ e => e)); have l4 := Hq4.out W _ _ NN NN (I4.out.fr hSw (Nat.le_refl _) (fun _ _ e => e)); have r3 := Hq1.out W _ A3 n3 p3 (R3.out.fr hS3 (Nat.le_refl _) (fun _ _ e => e)); go_simp; try with_reducible rfl)
                simp (config := { maxSteps := 2000000 }) only [Act.put, List.getElem_toArray, List.getElem_cons_zero, List.getElem_cons_succ, List.setIfInBounds_toArray, List.set_cons_zero, List.set_cons_succ]
                refine wpAnyH_take (i := 72) (v := ?_) rfl (by kernel_rfl) (by kernel_rfl) (by kernel_rfl) (fun _ _ _ h => h) (Or.inl ⟨by kernel_rfl, ?_⟩) hH ?_
                rotate_left
                · (intro W hS3; have hSw := F3.out.tr hS3; have k0 := hSw.cell c0 hBl (fun e => e); have k1 := hSw.cell c1 hBl (fun e => e); have k2 := hSw.cell c2 hBl (fun e => e); have k3 := hSw.cell c3 hBl (fun e => e); have j0 := hSw.cell d0 hRl (fun e => e); have j1 := hSw.cell d1 hRl (fun e => e); have j2 := hSw.cell d2 hRl (fun e => e); have j3 := hSw.cell d3 hRl (fun e => e); have j4 := hSw.cell d4 hRl (fun e => e); have j5 := hSw.cell d5 hRl (fun e => e); have j6 := hSw.cell d6 hRl (fun e => e); have j7 := hSw.cell d7 hMl (fun e => e); have l1 := Hq1.out W _ Ao no co (I1.out.fr hSw (Nat.le_refl _) (fun _ _ e => e)); have l2 := Hq2.out W _ Ai ni ci (I2.out.fr hSw (Nat.le_refl _) (fun _ _ e => e)); have l3 := Hq3.out W _ _ 1024 1024 (I3.out.fr hSw (Nat.le_refl _) (fun _ _ e => e)); have l4 := Hq4.out W _ _ NN NN (I4.out.fr hSw (Nat.le_refl _) (fun _ _ e => e)); have r3 := Hq1.out W _ A3 n3 p3 (R3.out.fr hS3 (Nat.le_refl _) (fun _ _ e => e)); go_simp; try with_reducible rfl)
                simp (config := { maxSteps := 2000000 }) only [Act.put, List.getElem_toArray, List.getElem_cons_zero, List.getElem_cons_succ, List.setIfInBounds_toArray, List.set_cons_zero, List.set_cons_succ]
                refine wpAnyH_ready (rs := [66]) (by kernel_rfl) (by simp) ?_
                refine AllReadyH.cons rfl (fun K hK => ?_) ?_
                · go_simp
                  go_wp2_with (refine (HI.out _ (F3.out.tr hH)).mono ?_; rintro e w4 ⟨A4, n4, p4, rfl, i4, f4⟩; have R4 := Lib.hid i4; clear i4)
                  refine hK.out _ _ ?_ (fun hH => ?_)
                  · exact hH.tr f4
                  clear hK K
                  have F4 := Lib.hid (F3.out.tr hH)
                  refine wpAnyH_mono (S' := Fr (fun _ => False) w4) (fun w h => hH.tr h) _ _ _ _ ?_
                  clear hH
                  have hH := Fr.refl (fun _ => False) w4
                  as_aux_lemma =>
                    refine wpAnyH_take (i := 67) (v := ?_) rfl (by kernel_rfl) (by kernel_rfl) (by kernel_rfl) (fun _ _ _ h => h) (Or.inl ⟨by kernel_rfl, ?_⟩) hH ?_
                    rotate_left
                    · (intro W hS4; have hSw := F4.out.tr hS4; have k0 := hSw.cell c0 hBl (fun e => e); have k1 := hSw.cell c1 hBl (fun e => e); have k2 := hSw.cell c2 hBl (fun e => e); have k3 := hSw.cell c3 hBl (fun e => e); have j0 := hSw.cell d0 hRl (fun e => e); have j1 := hSw.cell d1 hRl (fun e => e); have j2 := hSw.cell d2 hRl (fun e => e); have j3 := hSw.cell d3 hRl (fun e => e); have j4 := hSw.cell d4 hRl (fun e => e); have j5 := hSw.cell d5 hRl (fun e => e); have j6 := hSw.cell d6 hRl (fun e => e); have j7 := hSw.cell d7 hMl (fun e => e); have l1 := Hq1.out W _ Ao no co (I1.out.fr hSw (Nat.le_refl _) (fun _ _ e => e)); have l2 := Hq2.out W _ Ai ni ci (I2.out.fr hSw (Nat.le_refl _) (fun _ _ e => e)); have l3 := Hq3.out W _ _ 1024 1024 (I3.out.fr hSw (Nat.le_refl _) (fun _ _ e => e)); have l4 := Hq4.out W _ _ NN NN (I4.out.fr hSw (Nat.le_refl _) (fun _ _ e => e)); have r4 := Hq2.out W _ A4 n4 p4 (R4.out.fr hS4 (Nat.le_refl _) (fun _ _ e => e)); go_simp; try with_reducible rfl)
                    refine wpAnyH_take (i := 73) (v := ?_) rfl (by kernel_rfl) (by kernel_rfl) (by kernel_rfl) (fun _ _ _ h => h) (Or.inl ⟨by kernel_rfl, ?_⟩) hH ?_
                    rotate_left
                    · (intro W _; go_simp; try with_reducible rfl)
                    refine wpAnyH_take (i := 74) (v := ?_) rfl (by kernel_rfl) (by kernel_rfl) (by kernel_rfl) (fun _ _ _ h => h) (Or.inl ⟨by kernel_rfl, ?_⟩) hH ?_
                    rotate_left
                    · (intro W _; go_simp; try with_reducible rfl)
                    simp (config := { maxSteps := 2000000 }) only [Act.put, List.getElem_toArray, List.getElem_cons_zero, List.getElem_cons_succ, List.setIfInBounds_toArray, List.set_cons_zero, List.set_cons_succ]
                    refine wpAnyH_take (i := 75) (v := ?_) rfl (by kernel_rfl) (by kernel_rfl) (by kernel_rfl) (fun _ _ _ h => h) (Or.inl ⟨by kernel_rfl, ?_⟩) hH ?_
                    rotate_left
                    · (intro W _; go_simp; try with_reducible rfl)
                    refine wpAnyH_take (i := 76) (v := ?_) rfl (by kernel_rfl) (by kernel_rfl) (by kernel_rfl) (fun _ _ _ h => h) (Or.inl ⟨by kernel_rfl, ?_⟩) hH ?_
                    rotate_left
                    · (intro W _; go_simp; try with_reducible rfl)
                    refine wpAnyH_take (i := 77) (v := ?_) rfl (by kernel_rfl) (by kernel_rfl) (by kernel_rfl) (fun _ _ _ h => h) (Or.inl ⟨by kernel_rfl, ?_⟩) hH ?_
                    rotate_left
                    · (intro W _; go_simp; try with_reducible rfl)
                    simp (config := { maxSteps := 2000000 }) only [Act.put, List.getElem_toArray, List.getElem_cons_zero, List.getElem_cons_succ, List.setIfInBounds_toArray, List.set_cons_zero, List.set_cons_succ]
                    refine wpAnyH_take (i := 78) (v := ?_) rfl (by kernel_rfl) (by kernel_rfl) (by kernel_rfl) (fun _ _ _ h => h) (Or.inl ⟨by kernel_rfl, ?_⟩) hH ?_
                    rotate_left
                    · (intro W _; go_simp; try with_reducible rfl)
                    refine wpAnyH_take (i := 79) (v := ?_) rfl (by kernel_rfl) (by kernel_rfl) (by kernel_rfl) (fun _ _ _ h => h) (Or.inl ⟨by kernel_rfl, ?_⟩) hH ?_
                    rotate_left
                    · (intro W hS4; have hSw := F4.out.tr hS4; have k0 := hSw.cell c0 hBl (fun e => e); have k1 := hSw.cell c1 hBl (fun e => e); have k2 := hSw.cell c2 hBl (fun e => e); have k3 := hSw.cell c3 hBl (fun e => e); have j0 := hSw.cell d0 hRl (fun e => e); have j1 := hSw.cell d1 hRl (fun e => e); have j2 := hSw.cell d2 hRl (fun e => e); have j3 := hSw.cell d3 hRl (fun e => e); have j4 := hSw.cell d4 hRl (fun e => e); have j5 := hSw.cell d5 hRl (fun e => e); have j6 := hSw.cell d6 hRl (fun e => e); have j7 := hSw.cell d7 hMl (fun e => e); have l1 := Hq1.out W _ Ao no co (I1.out.fr hSw (Nat.le_refl _) (fun _ _ e => e)); have l2 := Hq2.out W _ Ai ni ci (I2.out.fr hSw (Nat.le_refl _) (fun _ _ e => e)); have l3 := Hq3.out W _ _ 1024 1024 (I3.out.fr hSw (Nat.le_refl _) (fun _ _ e => e)); have l4 := Hq4.out W _ _ NN NN (I4.out.fr hSw (Nat.le_refl _) (fun _ _ e => e)); have r4 := Hq2.out W _ A4 n4 p4 (R4.out.fr hS4 (Nat.le_refl _) (fun _ _ e => e)); go_simp; try with_reducible rfl)
                    refine wpAnyH_take (i := 82) (v := ?_) rfl (by kernel_rfl) (by kernel_rfl) (by kernel_rfl) (fun _ _ _ h => h) (Or.inl ⟨by kernel_rfl, ?_⟩) hH ?_
                    rotate_left
                    · (intro W _; go_simp; try with_reducible rfl)
                    simp (config := { maxSteps := 2000000 }) only [Act.put, List.getElem_toArray, List.getElem_cons_zero, List.getElem_cons_succ, List.setIfInBounds_toArray, List.set_cons_zero, List.set_cons_succ]
                    refine wpAnyH_take (i := 83) (v := ?_) rfl (by kernel_rfl) (by kernel_rfl) (by kernel_rfl) (fun _ _ _ h => h) (Or.inl ⟨by kernel_rfl, ?_⟩) hH ?_
                    rotate_left
                    · (intro W _; go_simp; try with_reducible rfl)
                    refine wpAnyH_take (i := 84) (v := ?_) rfl (by kernel_rfl) (by kernel_rfl) (by kernel_rfl) (fun _ _ _ h => h) (Or.inl ⟨by kernel_rfl, ?_⟩) hH ?_
                    rotate_left
                    · (intro W _; go_simp; try with_reducible rfl)
                    refine wpAnyH_take (i := 85) (v := ?_) rfl (by kernel_rfl) (by kernel_rfl) (by kernel_rfl) (fun _ _ _ h => h) (Or.inl ⟨by kernel_rfl, ?_⟩) hH ?_
                    rotate_left
                    · (intro W hS4; have hSw := F4.out.tr hS4; have k0 := hSw.cell c0 hBl (fun e => e); have k1 := hSw.cell c1 hBl (fun e => e); have k2 := hSw.cell c2 hBl (fun e => e); have k3 := hSw.cell c3 hBl (fun e => e); have j0 := hSw.cell d0 hRl (fun e => e); have j1 := hSw.cell d1 hRl (fun e => e); have j2 := hSw.cell d2 hRl (fun e => e); have j3 := hSw.cell d3 hRl (fun e => e); have j4 := hSw.cell d4 hRl (fun e => e); have j5 := hSw.cell d5 hRl (fun e => e); have j6 := hSw.cell d6 hRl (fun e => e); have j7 := hSw.cell d7 hMl (fun e => e); have l1 := Hq1.out W _ Ao no co (I1.out.fr hSw (Nat.le_refl _) (fun _ _ e => e)); have l2 := Hq2.out W _ Ai ni ci (I2.out.fr hSw (Nat.le_refl _) (fun _ _ e => e)); have l3 := Hq3.out W _ _ 1024 1024 (I3.out.fr hSw (Nat.le_refl _) (fun _ _ e => e)); have l4 := Hq4.out W _ _ NN NN (I4.out.fr hSw (Nat.le_refl _) (fun _ _ e => e)); have r4 := Hq2.out W _ A4 n4 p4 (R4.out.fr hS4 (Nat.le_refl _) (fun _ _ e => e)); go_simp; try with_reducible rfl)
                    simp (config := { maxSteps := 2000000 }) only [Act.put, List.getElem_toArray, List.getElem_cons_zero, List.getElem_cons_succ, List.setIfInBounds_toArray, List.set_cons_zero, List.set_cons_succ]
                    refine wpAnyH_take (i := 86) (v := ?_) rfl (by kernel_rfl) (by kernel_rfl) (by kernel_rfl) (fun _ _ _ h => h) (Or.inl ⟨by kernel_rfl, ?_⟩) hH ?_
                    rotate_left
                    · (intro W hS4; have hSw := F4.out.tr hS4; have k0 := hSw.cell c0 hBl (fun e => e); have k1 := hSw.cell c1 hBl (fun e => e); have k2 := hSw.cell c2 hBl (fun e => e); have k3 := hSw.cell c3 hBl (fun e => e); have j0 := hSw.cell d0 hRl (fun e => e); have j1 := hSw.cell d1 hRl (fun e => e); have j2 := hSw.cell d2 hRl (fun e => e); have j3 := hSw.cell d3 hRl (fun e => e); have j4 := hSw.cell d4 hRl (fun e => e); have j5 := hSw.cell d5 hRl (fun e => e); have j6 := hSw.cell d6 hRl (fun e => e); have j7 := hSw.cell d7 hMl (fun e => e); have l1 := Hq1.out W _ Ao no co (I1.out.fr hSw (Nat.le_refl _) (fun _ _ e => e)); have l2 := Hq2.out W _ Ai ni ci (I2.out.fr hSw (Nat.le_refl _) (fun _ _ e => e)); have l3 := Hq3.out W _ _ 1024 1024 (I3.out.fr hSw (Nat.le_refl _) (fun _ _ e => e)); have l4 := Hq4.out W _ _ NN NN (I4.out.fr hSw (Nat.le_refl _) (fun _ _ e => e)); have r4 := Hq2.out W _ A4 n4 p4 (R4.out.fr hS4 (Nat.le_refl _) (fun _ _ e => e)); go_simp; try with_reducible rfl)
                    simp (config := { maxSteps := 2000000 }) only [Act.put, List.getElem_toArray, List.getElem_cons_zero, List.getElem_cons_succ, List.setIfInBounds_toArray, List.set_cons_zero, List.set_cons_succ]
                    refine wpAnyH_ready (rs := [80]) (by kernel_rfl) (by simp) ?_
                    refine AllReadyH.cons rfl (fun K hK => ?_) ?_
                    · go_simp
                      go_wp2_with (refine (HL.out _ (F4.out.tr hH)).mono ?_; rintro e w5 ⟨g5, p5, rfl, i5, _, _, f5⟩; have R5 := Lib.hid i5; clear i5)
                      refine hK.out _ _ ?_ (fun hH => ?_)
                      · exact hH.tr f5
                      clear hK K
                      have F5 := Lib.hid (F4.out.tr hH)
                      refine wpAnyH_mono (S' := Fr (fun _ => False) w5) (fun w h => hH.tr h) _ _ _ _ ?_
                      clear hH
                      have hH := Fr.refl (fun _ => False) w5
                      refine wpAnyH_take (i := 81) (v := ?_) rfl (by kernel_rfl) (by kernel_rfl) (by kernel_rfl) (fun _ _ _ h => h) (Or.inl ⟨by kernel_rfl, ?_⟩) hH ?_
                      rotate_left
                      · (intro W hS5; have hSw := F5.out.tr hS5; have k0 := hSw.cell c0 hBl (fun e => e); have k1 := hSw.cell c1 hBl (fun e => e); have k2 := hSw.cell c2 hBl (fun e => e); have k3 := hSw.cell c3 hBl (fun e => e); have j0 := hSw.cell d0 hRl (fun e => e); have j1 := hSw.cell d1 hRl (fun e => e); have j2 := hSw.cell d2 hRl (fun e => e); have j3 := hSw.cell d3 hRl (fun e => e); have j4 := hSw.cell d4 hRl (fun e => e); have j5 := hSw.cell d5 hRl (fun e => e); have j6 := hSw.cell d6 hRl (fun e => e); have j7 := hSw.cell d7 hMl (fun e => e); have l1 := Hq1.out W _ Ao no co (I1.out.fr hSw (Nat.le_refl _) (fun _ _ e => e)); have l2 := Hq2.out W _ Ai ni ci (I2.out.fr hSw (Nat.le_refl _) (fun _ _ e => e)); have l3 := Hq3.out W _ _ 1024 1024 (I3.out.fr hSw (Nat.le_refl _) (fun _ _ e => e)); have l4 := Hq4.out W _ _ NN NN (I4.out.fr hSw (Nat.le_refl _) (fun _ _ e => e)); have r5 := Hq3.out W _ _ 1024 p5 (R5.out.fr hS5 (Nat.le_refl _) (fun _ _ e => e)); go_simp; try with_reducible rfl)
                      refine wpAnyH_take (i := 87) (v := ?_) rfl (by kernel_rfl) (by kernel_rfl) (by kernel_rfl) (fun _ _ _ h => h) (Or.inl ⟨by kernel_rfl, ?_⟩) hH ?_
                      rotate_left
                      · (intro W _; go_simp; try with_reducible rfl)
                      refine wpAnyH_take (i := 88) (v := ?_) rfl (by kernel_rfl) (by kernel_rfl) (by kernel_rfl) (fun _ _ _ h => h) (Or.inl ⟨by kernel_rfl, ?_⟩) hH ?_
                      rotate_left
                      · (intro W _; go_simp; try with_reducible rfl)
                      simp (config := { maxSteps := 2000000 }) only [Act.put, List.getElem_toArray, List.getElem_cons_zero, List.getElem_cons_succ, List.setIfInBounds_toArray, List.set_cons_zero, List.set_cons_succ]
                      refine wpAnyH_take (i := 89) (v := ?_) rfl (by kernel_rfl) (by kernel_rfl) (by kernel_rfl) (fun _ _ _ h => h) (Or.inl ⟨by kernel_rfl, ?_⟩) hH ?_
                      rotate_left
                      · (intro W _; go_simp; try with_reducible rfl)
                      refine wpAnyH_take (i := 90) (v := ?_) rfl (by kernel_rfl) (by kernel_rfl) (by kernel_rfl) (fun _ _ _ h => h) (Or.inl ⟨by kernel_rfl, ?_⟩) hH ?_
                      rotate_left
                      · (intro W _; go_simp; try with_reducible rfl)
                      refine wpAnyH_take (i := 93) (v := ?_) rfl (by kernel_rfl) (by kernel_rfl) (by kernel_rfl) (fun _ _ _ h => h) (Or.inl ⟨by kernel_rfl, ?_⟩) hH ?_
                      rotate_left
                      · (intro W _; go_simp; try with_reducible rfl)
                      simp (config := { maxSteps := 2000000 }) only [Act.put, List.getElem_toArray, List.getElem_cons_zero, List.getElem_cons_succ, List.setIfInBounds_toArray, List.set_cons_zero, List.set_cons_succ]
                      refine wpAnyH_take (i := 94) (v := ?_) rfl (by kernel_rfl) (by kernel_rfl) (by kernel_rfl) (fun _ _ _ h => h) (Or.inl ⟨by kernel_rfl, ?_⟩) hH ?_
                      rotate_left
                      · (intro W _; go_simp; try with_reducible rfl)
                      refine wpAnyH_take (i := 95) (v := ?_) rfl (by kernel_rfl) (by kernel_rfl) (by kernel_rfl) (fun _ _ _ h => h) (Or.inl ⟨by kernel_rfl, ?_⟩) hH ?_
                      rotate_left
                      · (intro W _; go_simp; try with_reducible rfl)
                      refine wpAnyH_take (i := 96) (v := ?_) rfl (by kernel_rfl) (by kernel_rfl) (by kernel_rfl) (fun _ _ _ h => h) (Or.inl ⟨by kernel_rfl, ?_⟩) hH ?_
                      rotate_left
                      · (intro W hS5; have hSw := F5.out.tr hS5; have k0 := hSw.cell c0 hBl (fun e => e); have k1 := hSw.cell c1 hBl (fun e => e); have k2 := hSw.cell c2 hBl (fun e => e); have k3 := hSw.cell c3 hBl (fun e => e); have j0 := hSw.cell d0 hRl (fun e => e); have j1 := hSw.cell d1 hRl (fun e => e); have j2 := hSw.cell d2 hRl (fun e => e); have j3 := hSw.cell d3 hRl (fun e => e); have j4 := hSw.cell d4 hRl (fun e => e); have j5 := hSw.cell d5 hRl (fun e => e); have j6 := hSw.cell d6 hRl (fun e => e); have j7 := hSw.cell d7 hMl (fun e => e); have l1 := Hq1.out W _ Ao no co (I1.out.fr hSw (Nat.le_refl _) (fun _ _ e => e)); have l2 := Hq2.out W _ Ai ni ci (I2.out.fr hSw (Nat.le_refl _) (fun _ _ e => e)); have l3 := Hq3.out W _ _ 1024 1024 (I3.out.fr hSw (Nat.le_refl _) (fun _ _ e => e)); have l4 := Hq4.out W _ _ NN NN (I4.out.fr hSw (Nat.le_refl _) (fun _ _ e => e)); have r5 := Hq3.out W _ _ 1024 p5 (R5.out.fr hS5 (Nat.le_refl _) (fun _ _ e => e)); go_simp; try with_reducible rfl)
                      simp (config := { maxSteps := 2000000 }) only [Act.put, List.getElem_toArray, List.getElem_cons_zero, List.getElem_cons_succ, List.setIfInBounds_toArray, List.set_cons_zero, List.set_cons_succ]
                      refine wpAnyH_take (i := 97) (v := ?_) rfl (by kernel_rfl) (by kernel_rfl) (by kernel_rfl) (fun _ _ _ h => h) (Or.inl ⟨by kernel_rfl, ?_⟩) hH ?_
                      rotate_left
                      · (intro W _; go_simp; try with_reducible rfl)
                      refine wpAnyH_take (i := 98) (v := ?_) rfl (by kernel_rfl) (by kernel_rfl) (by kernel_rfl) (fun _ _ _ h => h) (Or.inl ⟨by kernel_rfl, ?_⟩) hH ?_
                      rotate_left
                      · (intro W _; go_simp; try with_reducible rfl)
                      refine wpAnyH_take (i := 99) (v := ?_) rfl (by kernel_rfl) (by kernel_rfl) (by kernel_rfl) (fun _ _ _ h => h) (Or.inl ⟨by kernel_rfl, ?_⟩) hH ?_
                      rotate_left
                      · (intro W hS5; have hSw := F5.out.tr hS5; have k0 := hSw.cell c0 hBl (fun e => e); have k1 := hSw.cell c1 hBl (fun e => e); have k2 := hSw.cell c2 hBl (fun e => e); have k3 := hSw.cell c3 hBl (fun e => e); have j0 := hSw.cell d0 hRl (fun e => e); have j1 := hSw.cell d1 hRl (fun e => e); have j2 := hSw.cell d2 hRl (fun e => e); have j3 := hSw.cell d3 hRl (fun e => e); have j4 := hSw.cell d4 hRl (fun e => e); have j5 := hSw.cell d5 hRl (fun e => e); have j6 := hSw.cell d6 hRl (fun e => e); have j7 := hSw.cell d7 hMl (fun e => e); have l1 := Hq1.out W _ Ao no co (I1.out.fr hSw (Nat.le_refl _) (fun _ _ e => e)); have l2 := Hq2.out W _ Ai ni ci (I2.out.fr hSw (Nat.le_refl _) (fun _ _ e => e)); have l3 := Hq3.out W _ _ 1024 1024 (I3.out.fr hSw (Nat.le_refl _) (fun _ _ e => e)); have l4 := Hq4.out W _ _ NN NN (I4.out.fr hSw (Nat.le_refl _) (fun _ _ e => e)); have r5 := Hq3.out W _ _ 1024 p5 (R5.out.fr hS5 (Nat.le_refl _) (fun _ _ e => e)); go_simp; try with_reducible rfl)
                      simp (config := { maxSteps := 2000000 }) only [Act.put, List.getElem_toArray, List.getElem_cons_zero, List.getElem_cons_succ, List.setIfInBounds_toArray, List.set_cons_zero, List.set_cons_succ]
                      refine wpAnyH_take (i := 100) (v := ?_) rfl (by kernel_rfl) (by kernel_rfl) (by kernel_rfl) (fun _ _ _ h => h) (Or.inl ⟨by kernel_rfl, ?_⟩) hH ?_
                      rotate_left
                      · (intro W hS5; have hSw := F5.out.tr hS5; have k0 := hSw.cell c0 hBl (fun e => e); have k1 := hSw.cell c1 hBl (fun e => e); have k2 := hSw.cell c2 hBl (fun e => e); have k3 := hSw.cell c3 hBl (fun e => e); have j0 := hSw.cell d0 hRl (fun e => e); have j1 := hSw.cell d1 hRl (fun e => e); have j2 := hSw.cell d2 hRl (fun e => e); have j3 := hSw.cell d3 hRl (fun e => e); have j4 := hSw.cell d4 hRl (fun e => e); have j5 := hSw.cell d5 hRl (fun e => e); have j6 := hSw.cell d6 hRl (fun e => e); have j7 := hSw.cell d7 hMl (fun e => e); have l1 := Hq1.out W _ Ao no co (I1.out.fr hSw (Nat.le_refl _) (fun _ _ e => e)); have l2 := Hq2.out W _ Ai ni ci (I2.out.fr hSw (Nat.le_refl _) (fun _ _ e => e)); have l3 := Hq3.out W _ _ 1024 1024 (I3.out.fr hSw (Nat.le_refl _) (fun _ _ e => e)); have l4 := Hq4.out W _ _ NN NN (I4.out.fr hSw (Nat.le_refl _) (fun _ _ e => e)); have r5 := Hq3.out W _ _ 1024 p5 (R5.out.fr hS5 (Nat.le_refl _) (fun _ _ e => e)); go_simp; try with_reducible rfl)
                      simp (config := { maxSteps := 2000000 }) only [Act.put, List.getElem_toArray, List.getElem_cons_zero, List.getElem_cons_succ, List.setIfInBounds_toArray, List.set_cons_zero, List.set_cons_succ]
                      refine wpAnyH_ready (rs := [91]) (by kernel_rfl) (by simp) ?_
                      refine AllReadyH.cons rfl (fun K hK => ?_) ?_
                      · go_simp
                        go_wp2_with (refine (HQ.out _ (F5.out.tr hH)).mono ?_; rintro e w6 ⟨g6, rfl, i6, f6⟩; have R6 := Lib.hid i6; clear i6)
                        refine hK.out _ _ ?_ (fun hH => ?_)
                        · exact hH.tr f6
                        clear hK K
                        have F6 := Lib.hid (F5.out.tr hH)
                        refine wpAnyH_mono (S' := Fr (fun _ => False) w6) (fun w h => hH.tr h) _ _ _ _ ?_
                        clear hH
                        have hH := Fr.refl (fun _ => False) w6
                        refine wpAnyH_take (i := 92) (v := ?_) rfl (by kernel_rfl) (by kernel_rfl) (by kernel_rfl) (fun _ _ _ h => h) (Or.inl ⟨by kernel_rfl, ?_⟩) hH ?_
                        rotate_left
                        · (intro W hS6; have hSw := F6.out.tr hS6; have k0 := hSw.cell c0 hBl (fun e => e); have k1 := hSw.cell c1 hBl (fun e => e); have k2 := hSw.cell c2 hBl (fun e => e); have k3 := hSw.cell c3 hBl (fun e => e); have j0 := hSw.cell d0 hRl (fun e => e); have j1 := hSw.cell d1 hRl (fun e => e); have j2 := hSw.cell d2 hRl (fun e => e); have j3 := hSw.cell d3 hRl (fun e => e); have j4 := hSw.cell d4 hRl (fun e => e); have j5 := hSw.cell d5 hRl (fun e => e); have j6 := hSw.cell d6 hRl (fun e => e); have j7 := hSw.cell d7 hMl (fun e => e); have l1 := Hq1.out W _ Ao no co (I1.out.fr hSw (Nat.le_refl _) (fun _ _ e => e)); have l2 := Hq2.out W _ Ai ni ci (I2.out.fr hSw (Nat.le_refl _) (fun _ _ e => e)); have l3 := Hq3.out W _ _ 1024 1024 (I3.out.fr hSw (Nat.le_refl _) (fun _ _ e => e)); have l4 := Hq4.out W _ _ NN NN (I4.out.fr hSw (Nat.le_refl _) (fun _ _ e => e)); have r6 := Hq4.out W _ _ NN NN (R6.out.fr hS6 (Nat.le_refl _) (fun _ _ e => e)); go_simp; try with_reducible rfl)
                        refine wpAnyH_take (i := 101) (v := ?_) rfl (by kernel_rfl) (by kernel_rfl) (by kernel_rfl) (fun _ _ _ h => h) (Or.inl ⟨by kernel_rfl, ?_⟩) hH ?_
                        rotate_left
                        · (intro W _; go_simp; try with_reducible rfl)
                        refine wpAnyH_take (i := 102) (v := ?_) rfl (by kernel_rfl) (by kernel_rfl) (by kernel_rfl) (fun _ _ _ h => h) (Or.inl ⟨by kernel_rfl, ?_⟩) hH ?_
                        rotate_left
                        · (intro W _; go_simp; try with_reducible rfl)
                        simp (config := { maxSteps := 2000000 }) only [Act.put, List.getElem_toArray, List.getElem_cons_zero, List.getElem_cons_succ, List.setIfInBounds_toArray, List.set_cons_zero, List.set_cons_succ]
                        refine wpAnyH_take (i := 103) (v := ?_) rfl (by kernel_rfl) (by kernel_rfl) (by kernel_rfl) (fun _ _ _ h => h) (Or.inl ⟨by kernel_rfl, ?_⟩) hH ?_
                        rotate_left
                        · (intro W _; go_simp; try with_reducible rfl)
                        simp (config := { maxSteps := 2000000 }) only [Act.put, List.getElem_toArray, List.getElem_cons_zero, List.getElem_cons_succ, List.setIfInBounds_toArray, List.set_cons_zero, List.set_cons_succ]
                        refine wpAnyH_done (by kernel_rfl) ?_ _
                        go_wp2_with fail
                        go_ret
                        exact ⟨by kernel_rfl, fr2.out.tr F6.out⟩
                      exact AllReadyH.nil
                    exact AllReadyH.nil
                exact AllReadyH.nil
              exact AllReadyH.nil
          exact AllReadyH.nil
        exact AllReadyH.nil
      exact AllReadyH.nil
    exact AllReadyH.nil
end Go.Proofs.YthiephlfhbkcbaaDoor.Bs
