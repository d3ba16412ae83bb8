/- BusPromotes: the walk. -/
import Derived.Test.YthiephlfhbkcbaaDoorBusOwnB
import Derived.Test.YthiephlfhbkcbaaDoorBook
import Derived.Deep.RegionHeld3
namespace Go.Proofs.YthiephlfhbkcbaaDoor.busPromotes
open Go.RowKit Fm Nt Rm By Dr Rf Bs
set_option linter.unusedVariables false
set_option linter.unusedSimpArgs false
set_option maxHeartbeats 8000000

theorem wpAnyH_mono {P : Program} {ops : Array Oper} {Q : Exit → Act → World → Prop} {md : Region.Mode} {S S' : World → Prop} (hS : ∀ w, S' w → S w) :
    ∀ (fuel : Nat) (listed : Array Bool) (a : Act) (w : World), wpAnyH P md ops Q S' fuel listed a w → wpAnyH P md ops Q S fuel listed a w
  | 0, _, _, _, h => h
  | fuel + 1, _, _, _, h => ⟨h.1, fun i hi => wpOp_mono (fun a' w' h' => ⟨hS w' h'.1, wpAnyH_mono hS fuel _ a' w' h'.2⟩) (h.2 i hi)⟩
set_option maxRecDepth 100000 in
theorem walk (w : World) (hT : Iq.Tab w) (A2 : Option Addr) (len2 cap2 : Nat) (hc2 : len2 ≤ cap2) (zs2 : List Int) (hz2 : IntsAt .i64 w w.heap.size A2 len2 zs2) (hm2 : len2 ≤ maxLen) (mask : Int) (hmask : (Lit.int .u32 mask).wf = true) (A : Option Addr) (len cap : Nat) (hc : len ≤ cap) (zs : List Int) (hz : IntsAt .u8 w w.heap.size A len zs) (hm : len ≤ maxLen) (at_ : Int) (hat : (Lit.int .u32 at_).wf = true) :
    Calls Tryd.prog 3 #[.slice A2 len2 cap2, .int .u32 mask, .slice A len cap, .int .u32 at_] w fun e w' => e = .returned (.bool true) ∧ Fr (fun _ => False) w w' := by
  obtain ⟨m0, m1⟩ := wf_u32 hmask
  obtain ⟨a0, a1⟩ := wf_u32 hat
  obtain ⟨mk, rfl⟩ : ∃ k : Nat, mask = k := ⟨mask.toNat, by omega⟩
  have Hcut : Hid (∀ W, Calls Tryd.prog 12 #[.slice A len cap, .int .i64 30] W fun e w' => e = .returned (.slice A (min len 30) cap) ∧ W = w') := fun W => cut_any W A len cap 30 hm hc (by omega)
  have hz1 := hz.take (show min len 30 ≤ len from Nat.min_le_left _ _)
  have hn30 : min len 30 ≤ 30 := Nat.min_le_right _ _
  have hnc : min len 30 ≤ cap := by have := Nat.min_le_left len 30; omega
  unfold maxLen at hm2
  have HZ2 := Lib.hid hz2
  have HTb := Lib.hid hT
  clear hz hm hc hmask hat hz2 hT
  generalize zs.take (min len 30) = z1 at *
  generalize min len 30 = n1 at *
  have HZ1 := Lib.hid hz1
  have hzl := hz1.1
  clear hz1
  go_enter Tryd.func3, Tryd.ntmps3
  go_wp2_with fail
  refine (both15 w none 0 0 [] (intsAt_nil _ _ _ _) (by omega) none 0 0 [] (intsAt_nil _ _ _ _) (by omega)).mono ?_
  rintro e w1 hb
  obtain ⟨a, gR, rfl, hB⟩ := bo_both hb
  obtain ⟨c0, c1, c2, c3, c4, c5, c6, c7⟩ := hB.cells
  have hS : ∃ s, BO w w1 (fun _ => False) a s ∧ s.outs = [] ∧ s.ins = [] := ⟨_, hB, rfl, rfl⟩
  clear hb hB
  go_upto_block 0 with (fail)
  clear c0 c1 c2 c3 c4 c5 c6 c7
  go_cut [12] (fun i wx => ∃ s, BO w wx (fun _ => False) a s ∧ s.outs = [] ∧ s.ins = [])
  case first =>
    go_wp2_with fail
    go_loopw [12] (fun i wr => ∃ k : Nat, k ≤ len2 ∧ i = .int .i64 k ∧ ∃ s, BO w wr (fun _ => False) a s ∧ s.outs = [] ∧ s.ins = []) (fun i _ => len2 - (intOf i).toNat)
    case atStart => exact ⟨0, by omega, rfl, hS⟩
    case round =>
      clear hS
      obtain ⟨k, hk, rfl, s, hB, ho, hi⟩ := hrel
      by_cases hlt : k < len2 ∧ k < 20
      · obtain ⟨h1, h2⟩ := hlt
        obtain ⟨b, off, rfl, hbb, hcell⟩ := (HZ2.out.fr hB.frame (Nat.le_refl _) (fun _ _ e => e)).at_ h1
        have hwf := wf_i64 (HZ2.out.2.1 k h1)
        obtain ⟨z, hzk⟩ : ∃ z, zs2.getD k 0 = z := ⟨_, rfl⟩
        rw [hzk] at hcell hwf
        have hfrs := hB.frame.size
        have hltB : a.gB < wr.heap.size := by obtain ⟨F, h1, _⟩ := hB; exact h1.b.lt
        have hw := fun W => Bk.within_any W z 0 7 hwf.1 hwf.2 (by omega) (by omega) (by omega)
        have g1 := Int.emod_nonneg z (show (7 - 0 + 1 : Int) ≠ 0 by omega)
        have g2 := Int.emod_lt_of_pos z (show (0 : Int) < 7 - 0 + 1 by omega)
        obtain ⟨o, hoo⟩ : ∃ o : Nat, (0 : Int) + z % (7 - 0 + 1) = o := ⟨(z % (7 - 0 + 1)).toNat, by omega⟩
        have o8 : o < 8 := by omega
        rw [hoo] at hw
        have Hw := Lib.hid hw
        obtain ⟨c0, c1, c2, c3, c4, c5, c6, c7⟩ := hB.cells
        have hk20 : decide ((k : Int) < 20) = true := by simp; omega
        have hk0 : (0 : Int) ≤ (k : Int) := by omega
        have hk1 : (k : Int) < (len2 : Int) := by omega
        have hBd : BO w _ (fun _ => False) a s := hB.fr0 ((Fr.refl (fun _ => False) _).drew)
        have Hr := Lib.hid (raise_o hBd o o8)
        clear hw hoo g1 g2 hwf hB
        have hlb : b < wr.heap.size := Nat.lt_of_lt_of_le hbb hfrs
        have s0 : wr.drew.cell? ⟨a.gB, 0, none⟩ = some (.pointer (some ⟨a.gc, 0, none⟩)) := c0
        have s1 : wr.drew.cell? ⟨b, off + k, none⟩ = some (.int .i64 z) := hcell
        have fal := (Fr.refl (fun _ => False) wr.drew).alloc (.cells #[.int .i64 (o : Int)] 3)
        have t0 := fal.cell s0 hltB (fun e => e)
        have t1 := fal.cell s1 hlb (fun e => e)
        have hkeep : ∀ w4, BO w w4 (fun _ => False) a { s with p := s.p ||| 2 ^ o } → w4.cell? ⟨a.gB, 0, none⟩ = some (.pointer (some ⟨a.gc, 0, none⟩)) ∧ w4.cell? ⟨b, off + k, none⟩ = some (.int .i64 z) := fun w4 h4 => ⟨h4.cells.1, by
          obtain ⟨b', off', e', _, hc'⟩ := (HZ2.out.fr h4.frame (Nat.le_refl _) (fun _ _ e => e)).at_ h1
          injection e' with e'
          injection e' with e1 e2
          rw [e1, e2, hc', hzk]⟩
        have Hkeep := Lib.hid hkeep
        clear hkeep
        go_upto_region 7 with (fail)
        go_region_held3 (fun W => W.cell? ⟨a.gB, 0, none⟩ = some (.pointer (some ⟨a.gc, 0, none⟩)) ∧ W.cell? ⟨b, off + k, none⟩ = some (.int .i64 z)) (first | exact ⟨s0, s1⟩ | exact ⟨t0, t1⟩ | exact Hkeep.out _ hB4)
          (first
          | (go_at_call 9; refine (Hw.out _).mono ?_; rintro e w' ⟨rfl, rfl⟩)
          | (go_at_call 8; refine (Hr.out).mono ?_; rintro e w4 ⟨rfl, hB4, _⟩))
        all_goals
          go_wp2_with fail
          go_roundw
          case rel => exact ⟨k + 1, by omega, by go_num, _, hB4, ho, hi⟩
          case measure => simp [intOf]; omega
      · go_wp2_with fail
        all_goals
          go_meet
          exact ⟨_, hB, ho, hi⟩
  case rest =>
    clear hS
    obtain ⟨s, hB, ho, hi⟩ := hcut
    obtain ⟨c0, c1, c2, c3, c4, c5, c6, c7⟩ := hB.cells
    have hsm := Lib.hid (setMask_o hB mk (by omega))
    go_wp2_with fail
    refine (hsm.out).mono ?_
    rintro e w3 ⟨rfl, hB3, _⟩
    obtain ⟨c0, c1, c2, c3, c4, c5, c6, c7⟩ := hB3.cells
    have hst := Lib.hid (set_o hB3 at_ a0 a1)
    clear hB
    go_wp2_with fail
    refine (hst.out).mono ?_
    rintro e w4 ⟨rfl, hB4, _⟩
    have hS : ∃ s', BO w w4 (fun _ => False) a s' ∧ s'.outs = z1.take 0 ∧ s'.ins = [] ∧ s'.m = mk % 256 ∧ s'.tm = at_ := ⟨_, hB4, by simpa using ho, hi, rfl, rfl⟩
    clear hB3 hB4 ho hi hsm hst c0 c1 c2 c3 c4 c5 c6 c7
    go_wp2_with fail
    refine (Hcut.out _).mono ?_
    rintro e w' ⟨rfl, rfl⟩
    go_wp2_with fail
    go_loopw [13] (fun i wr => ∃ k : Nat, k ≤ n1 ∧ i = .int .i64 k ∧ ∃ s, BO w wr (fun _ => False) a s ∧ s.outs = z1.take k ∧ s.ins = [] ∧ s.m = mk % 256 ∧ s.tm = at_) (fun i _ => n1 - (intOf i).toNat)
    case atStart => exact ⟨0, by omega, rfl, hS⟩
    case round =>
      clear hS
      obtain ⟨k, hk, rfl, s, hB, ho, hi, hmm, htm⟩ := hrel
      by_cases hlt : k < n1
      · obtain ⟨b, off, rfl, hbb, hcell⟩ := (HZ1.out.fr hB.frame (Nat.le_refl _) (fun _ _ e => e)).at_ hlt
        have hwf := wf_u8 (HZ1.out.2.1 k hlt)
        have htk : z1.take (k + 1) = z1.take k ++ [z1.getD k 0] := by
          rw [List.take_succ_eq_append_getElem (by omega)]
          simp [show k < z1.length by omega]
        generalize z1.getD k 0 = z at *
        obtain ⟨c0, c1, c2, c3, c4, c5, c6, c7⟩ := hB.cells
        have hk0 : (0 : Int) ≤ (k : Int) := by omega
        have hk1 : (k : Int) < (n1 : Int) := by omega
        have hlo : s.outs.length ≤ 1000000 := by rw [ho, List.length_take]; omega
        have hBd := hB.fr0 ((Fr.refl (fun _ => False) _).drew)
        have Hwr := Lib.hid (write_o hBd z hwf.1 (by omega) hlo)
        have Htk := Lib.hid htk
        clear hB hBd htk hwf
        go_upto_region 14 with (fail)
        go_still_tail 8, (by kernel_rfl)
        go_wp2_with fail
        refine (Hwr.out).mono ?_
        rintro e w5 ⟨rfl, hB5, _⟩
        go_wp2_with fail
        go_roundw
        case rel => exact ⟨k + 1, by omega, by go_num, _, hB5, by rw [Htk.out, ← ho], hi, hmm, htm⟩
        case measure => simp [intOf]; omega
      · have e : k = n1 := by omega
        subst e
        rw [← hzl, List.take_length] at ho
        clear hlt hk
        have hfr := hB.frame
        have hlo : s.outs.length ≤ 1000000 := by rw [ho, hzl]; omega
        have hT1 := HTb.out.fr hfr (fun e => e)
        obtain ⟨c0, c1, c2, c3, c4, c5, c6, c7⟩ := hB.cells
        have hn1 := Lib.hid (next_o hT1 hB)
        have hnn : (Iq.nextN s.p s.m == Iq.nextN s.p s.m) = true := by simp
        go_wp2_with fail
        refine (hn1.out).mono ?_
        rintro e w5 ⟨rfl, f5⟩
        have hB5 := hB.fr0 f5
        obtain ⟨d0, d1, d2, d3, d4, d5, d6, d7⟩ := hB5.cells
        have hn2 := Lib.hid (next_o (hT1.fr f5 (fun e => e)) hB5)
        go_wp2_with fail
        refine (hn2.out).mono ?_
        rintro e w6 ⟨rfl, f6⟩
        have hB6 := hB5.fr0 f6
        go_upto_region 17 with (fail)
        have hB6d := hB6.fr0 ((Fr.refl (fun _ => False) w6).drew)
        obtain ⟨e0, e1, e2, e3, e4, e5, e6, e7⟩ := hB6d.cells
        have Hpe := Lib.hid (pending_o hB6d)
        have hmo := mask_o hB6d
        obtain ⟨mv, hmv⟩ : ∃ mv : Int, (mk : Int) % 256 = mv := ⟨_, rfl⟩
        have hmt : (mk : Int).tmod 256 = mv := by rw [Int.tmod_eq_emod_of_nonneg (by omega)]; exact hmv
        rw [hmm, show ((mk % 256 : Nat) : Int) = mv by omega] at hmo
        have Hmo := Lib.hid hmo
        have hao := at_o hB6d
        rw [htm] at hao
        have Hao := Lib.hid hao
        have Hou := Lib.hid (output_o hB6d hlo)
        have hS1 : (w6.drew.cell? ⟨a.gB, 0, none⟩ = some (.pointer (some ⟨a.gc, 0, none⟩)) ∧ w6.drew.cell? ⟨a.gB, 1, none⟩ = some (.pointer (some ⟨a.gt, 0, none⟩)) ∧ w6.drew.cell? ⟨a.gB, 2, none⟩ = some (.pointer (some ⟨a.gk, 0, none⟩)) ∧ w6.drew.cell? ⟨a.gB, 3, none⟩ = some (.pointer (some ⟨a.gd, 0, none⟩))) ∧ IntsAt .u8 w6.drew w.heap.size A k z1 := ⟨⟨e0, e1, e2, e3⟩, HZ1.out.fr hB6d.frame (Nat.le_refl _) (fun _ _ e => e)⟩
        have Hst : Hid (∀ W B A n c, IntsAt .u8 W B A n z1 → (convert 24 9 (.slice A n c)).run Tryd.prog W = .ok (.string (str z1)) W) := fun W B A n c h => str_of_ints h
        have HB6 := Lib.hid hB6d
        clear hmo hao hB hB5 hB6 hB6d c0 c1 c2 c3 c4 c5 c6 c7 d0 d1 d2 d3 d4 d5 d6 d7 e0 e1 e2 e3 e4 e5 e6 e7
        generalize Iq.nextN s.p s.m = nn at *
        generalize Iq.nextB s.p s.m = nb at *
        generalize str z1 = q at *
        refine wp_region_held_drew (S := fun W => (W.cell? ⟨a.gB, 0, none⟩ = some (.pointer (some ⟨a.gc, 0, none⟩)) ∧ W.cell? ⟨a.gB, 1, none⟩ = some (.pointer (some ⟨a.gt, 0, none⟩)) ∧ W.cell? ⟨a.gB, 2, none⟩ = some (.pointer (some ⟨a.gk, 0, none⟩)) ∧ W.cell? ⟨a.gB, 3, none⟩ = some (.pointer (some ⟨a.gd, 0, none⟩))) ∧ IntsAt .u8 W w.heap.size A k z1) (by kernel_rfl) (hS1) (fun hH => ?_)
        refine wpAnyH_take (i := 0) (v := ?_) rfl (by kernel_rfl) (by kernel_rfl) (by kernel_rfl) (fun _ _ _ h => h) (Or.inl ⟨by kernel_rfl, ?_⟩) hH ?_
        rotate_left
        · (intro W hSw; obtain ⟨⟨k0, k1, k2, k3⟩, k5⟩ := hSw; have k7 := Hst.out W _ _ k cap k5; go_simp; try with_reducible rfl)
        refine wpAnyH_take (i := 1) (v := ?_) rfl (by kernel_rfl) (by kernel_rfl) (by kernel_rfl) (fun _ _ _ h => h) (Or.inl ⟨by kernel_rfl, ?_⟩) hH ?_
        rotate_left
        · (intro W hSw; obtain ⟨⟨k0, k1, k2, k3⟩, k5⟩ := hSw; have k7 := Hst.out W _ _ k cap k5; go_simp; try with_reducible rfl)
        refine wpAnyH_take (i := 2) (v := ?_) rfl (by kernel_rfl) (by kernel_rfl) (by kernel_rfl) (fun _ _ _ h => h) (Or.inl ⟨by kernel_rfl, ?_⟩) hH ?_
        rotate_left
        · (intro W hSw; obtain ⟨⟨k0, k1, k2, k3⟩, k5⟩ := hSw; have k7 := Hst.out W _ _ k cap k5; go_simp; try with_reducible rfl)
        try simp only [Act.put, List.getElem_toArray, List.getElem_cons_zero, List.getElem_cons_succ, List.setIfInBounds_toArray, List.set_cons_zero, List.set_cons_succ]
        refine wpAnyH_take (i := 3) (v := ?_) rfl (by kernel_rfl) (by kernel_rfl) (by kernel_rfl) (fun _ _ _ h => h) (Or.inl ⟨by kernel_rfl, ?_⟩) hH ?_
        rotate_left
        · (intro W hSw; obtain ⟨⟨k0, k1, k2, k3⟩, k5⟩ := hSw; have k7 := Hst.out W _ _ k cap k5; go_simp; try with_reducible rfl)
        refine wpAnyH_take (i := 4) (v := ?_) rfl (by kernel_rfl) (by kernel_rfl) (by kernel_rfl) (fun _ _ _ h => h) (Or.inl ⟨by kernel_rfl, ?_⟩) hH ?_
        rotate_left
        · (intro W hSw; obtain ⟨⟨k0, k1, k2, k3⟩, k5⟩ := hSw; have k7 := Hst.out W _ _ k cap k5; go_simp; try with_reducible rfl)
        refine wpAnyH_take (i := 5) (v := ?_) rfl (by kernel_rfl) (by kernel_rfl) (by kernel_rfl) (fun _ _ _ h => h) (Or.inl ⟨by kernel_rfl, ?_⟩) hH ?_
        rotate_left
        · (intro W hSw; obtain ⟨⟨k0, k1, k2, k3⟩, k5⟩ := hSw; have k7 := Hst.out W _ _ k cap k5; go_simp; try with_reducible rfl)
        try simp only [Act.put, List.getElem_toArray, List.getElem_cons_zero, List.getElem_cons_succ, List.setIfInBounds_toArray, List.set_cons_zero, List.set_cons_succ]
        refine wpAnyH_take (i := 6) (v := ?_) rfl (by kernel_rfl) (by kernel_rfl) (by kernel_rfl) (fun _ _ _ h => h) (Or.inl ⟨by kernel_rfl, ?_⟩) hH ?_
        rotate_left
        · (intro W hSw; obtain ⟨⟨k0, k1, k2, k3⟩, k5⟩ := hSw; have k7 := Hst.out W _ _ k cap k5; go_simp; try with_reducible rfl)
        refine wpAnyH_take (i := 7) (v := ?_) rfl (by kernel_rfl) (by kernel_rfl) (by kernel_rfl) (fun _ _ _ h => h) (Or.inl ⟨by kernel_rfl, ?_⟩) hH ?_
        rotate_left
        · (intro W hSw; obtain ⟨⟨k0, k1, k2, k3⟩, k5⟩ := hSw; have k7 := Hst.out W _ _ k cap k5; go_simp; try with_reducible rfl)
        refine wpAnyH_take (i := 8) (v := ?_) rfl (by kernel_rfl) (by kernel_rfl) (by kernel_rfl) (fun _ _ _ h => h) (Or.inl ⟨by kernel_rfl, ?_⟩) hH ?_
        rotate_left
        · (intro W hSw; obtain ⟨⟨k0, k1, k2, k3⟩, k5⟩ := hSw; have k7 := Hst.out W _ _ k cap k5; go_simp; try with_reducible rfl)
        try simp only [Act.put, List.getElem_toArray, List.getElem_cons_zero, List.getElem_cons_succ, List.setIfInBounds_toArray, List.set_cons_zero, List.set_cons_succ]
        refine wpAnyH_take (i := 9) (v := ?_) rfl (by kernel_rfl) (by kernel_rfl) (by kernel_rfl) (fun _ _ _ h => h) (Or.inl ⟨by kernel_rfl, ?_⟩) hH ?_
        rotate_left
        · (intro W hSw; obtain ⟨⟨k0, k1, k2, k3⟩, k5⟩ := hSw; have k7 := Hst.out W _ _ k cap k5; go_simp; try with_reducible rfl)
        refine wpAnyH_take (i := 10) (v := ?_) rfl (by kernel_rfl) (by kernel_rfl) (by kernel_rfl) (fun _ _ _ h => h) (Or.inl ⟨by kernel_rfl, ?_⟩) hH ?_
        rotate_left
        · (intro W hSw; obtain ⟨⟨k0, k1, k2, k3⟩, k5⟩ := hSw; have k7 := Hst.out W _ _ k cap k5; go_simp; try with_reducible rfl)
        refine wpAnyH_take (i := 11) (v := ?_) rfl (by kernel_rfl) (by kernel_rfl) (by kernel_rfl) (fun _ _ _ h => h) (Or.inl ⟨by kernel_rfl, ?_⟩) hH ?_
        rotate_left
        · (intro W hSw; obtain ⟨⟨k0, k1, k2, k3⟩, k5⟩ := hSw; have k7 := Hst.out W _ _ k cap k5; go_simp; try with_reducible rfl)
        try simp only [Act.put, List.getElem_toArray, List.getElem_cons_zero, List.getElem_cons_succ, List.setIfInBounds_toArray, List.set_cons_zero, List.set_cons_succ]
        refine wpAnyH_take (i := 12) (v := ?_) rfl (by kernel_rfl) (by kernel_rfl) (by kernel_rfl) (fun _ _ _ h => h) (Or.inl ⟨by kernel_rfl, ?_⟩) hH ?_
        rotate_left
        · (intro W hSw; obtain ⟨⟨k0, k1, k2, k3⟩, k5⟩ := hSw; have k7 := Hst.out W _ _ k cap k5; go_simp; try with_reducible rfl)
        refine wpAnyH_take (i := 14) (v := ?_) rfl (by kernel_rfl) (by kernel_rfl) (by kernel_rfl) (fun _ _ _ h => h) (Or.inl ⟨by kernel_rfl, ?_⟩) hH ?_
        rotate_left
        · (intro W hSw; obtain ⟨⟨k0, k1, k2, k3⟩, k5⟩ := hSw; have k7 := Hst.out W _ _ k cap k5; go_simp; try with_reducible rfl)
        refine wpAnyH_take (i := 15) (v := ?_) rfl (by kernel_rfl) (by kernel_rfl) (by kernel_rfl) (fun _ _ _ h => h) (Or.inl ⟨by kernel_rfl, ?_⟩) hH ?_
        rotate_left
        · (intro W hSw; obtain ⟨⟨k0, k1, k2, k3⟩, k5⟩ := hSw; have k7 := Hst.out W _ _ k cap k5; go_simp; try with_reducible rfl)
        try simp only [Act.put, List.getElem_toArray, List.getElem_cons_zero, List.getElem_cons_succ, List.setIfInBounds_toArray, List.set_cons_zero, List.set_cons_succ]
        refine wpAnyH_take (i := 16) (v := ?_) rfl (by kernel_rfl) (by kernel_rfl) (by kernel_rfl) (fun _ _ _ h => h) (Or.inl ⟨by kernel_rfl, ?_⟩) hH ?_
        rotate_left
        · (intro W hSw; obtain ⟨⟨k0, k1, k2, k3⟩, k5⟩ := hSw; have k7 := Hst.out W _ _ k cap k5; go_simp; try with_reducible rfl)
        refine wpAnyH_take (i := 17) (v := ?_) rfl (by kernel_rfl) (by kernel_rfl) (by kernel_rfl) (fun _ _ _ h => h) (Or.inl ⟨by kernel_rfl, ?_⟩) hH ?_
        rotate_left
        · (intro W hSw; obtain ⟨⟨k0, k1, k2, k3⟩, k5⟩ := hSw; have k7 := Hst.out W _ _ k cap k5; go_simp; try with_reducible rfl)
        try simp only [Act.put, List.getElem_toArray, List.getElem_cons_zero, List.getElem_cons_succ, List.setIfInBounds_toArray, List.set_cons_zero, List.set_cons_succ]
        refine wpAnyH_ready (rs := [13]) (by kernel_rfl) (by simp) ?_
        refine AllReadyH.cons rfl (fun K hK => ?_) ?_
        · go_simp
          go_wp2_with (refine (Hpe.out).mono ?_; rintro e w' ⟨rfl, rfl⟩)
          refine hK.out _ _ ?_ (fun hH => ?_)
          · exact hH
          clear hK K
          refine wpAnyH_ready (rs := [18]) (by kernel_rfl) (by simp) ?_
          refine AllReadyH.cons rfl (fun K hK => ?_) ?_
          · go_simp
            go_wp2_with (refine (Hpe.out).mono ?_; rintro e w' ⟨rfl, rfl⟩)
            refine hK.out _ _ ?_ (fun hH => ?_)
            · exact hH
            clear hK K
            refine wpAnyH_take (i := 19) (v := ?_) rfl (by kernel_rfl) (by kernel_rfl) (by kernel_rfl) (fun _ _ _ h => h) (Or.inl ⟨by kernel_rfl, ?_⟩) hH ?_
            rotate_left
            · (intro W hSw; obtain ⟨⟨k0, k1, k2, k3⟩, k5⟩ := hSw; have k7 := Hst.out W _ _ k cap k5; go_simp; try with_reducible rfl)
            refine wpAnyH_take (i := 20) (v := ?_) rfl (by kernel_rfl) (by kernel_rfl) (by kernel_rfl) (fun _ _ _ h => h) (Or.inl ⟨by kernel_rfl, ?_⟩) hH ?_
            rotate_left
            · (intro W hSw; obtain ⟨⟨k0, k1, k2, k3⟩, k5⟩ := hSw; have k7 := Hst.out W _ _ k cap k5; go_simp; try with_reducible rfl)
            refine wpAnyH_take (i := 21) (v := ?_) rfl (by kernel_rfl) (by kernel_rfl) (by kernel_rfl) (fun _ _ _ h => h) (Or.inl ⟨by kernel_rfl, ?_⟩) hH ?_
            rotate_left
            · (intro W hSw; obtain ⟨⟨k0, k1, k2, k3⟩, k5⟩ := hSw; have k7 := Hst.out W _ _ k cap k5; go_simp; try with_reducible rfl)
            try simp only [Act.put, List.getElem_toArray, List.getElem_cons_zero, List.getElem_cons_succ, List.setIfInBounds_toArray, List.set_cons_zero, List.set_cons_succ]
            refine wpAnyH_take (i := 22) (v := ?_) rfl (by kernel_rfl) (by kernel_rfl) (by kernel_rfl) (fun _ _ _ h => h) (Or.inl ⟨by kernel_rfl, ?_⟩) hH ?_
            rotate_left
            · (intro W hSw; obtain ⟨⟨k0, k1, k2, k3⟩, k5⟩ := hSw; have k7 := Hst.out W _ _ k cap k5; go_simp; try with_reducible rfl)
            refine wpAnyH_take (i := 23) (v := ?_) rfl (by kernel_rfl) (by kernel_rfl) (by kernel_rfl) (fun _ _ _ h => h) (Or.inl ⟨by kernel_rfl, ?_⟩) hH ?_
            rotate_left
            · (intro W hSw; obtain ⟨⟨k0, k1, k2, k3⟩, k5⟩ := hSw; have k7 := Hst.out W _ _ k cap k5; go_simp; try with_reducible rfl)
            refine wpAnyH_take (i := 24) (v := ?_) rfl (by kernel_rfl) (by kernel_rfl) (by kernel_rfl) (fun _ _ _ h => h) (Or.inl ⟨by kernel_rfl, ?_⟩) hH ?_
            rotate_left
            · (intro W hSw; obtain ⟨⟨k0, k1, k2, k3⟩, k5⟩ := hSw; have k7 := Hst.out W _ _ k cap k5; go_simp; try with_reducible rfl)
            try simp only [Act.put, List.getElem_toArray, List.getElem_cons_zero, List.getElem_cons_succ, List.setIfInBounds_toArray, List.set_cons_zero, List.set_cons_succ]
            refine wpAnyH_take (i := 25) (v := ?_) rfl (by kernel_rfl) (by kernel_rfl) (by kernel_rfl) (fun _ _ _ h => h) (Or.inl ⟨by kernel_rfl, ?_⟩) hH ?_
            rotate_left
            · (intro W hSw; obtain ⟨⟨k0, k1, k2, k3⟩, k5⟩ := hSw; have k7 := Hst.out W _ _ k cap k5; go_simp; try with_reducible rfl)
            refine wpAnyH_take (i := 27) (v := ?_) rfl (by kernel_rfl) (by kernel_rfl) (by kernel_rfl) (fun _ _ _ h => h) (Or.inl ⟨by kernel_rfl, ?_⟩) hH ?_
            rotate_left
            · (intro W hSw; obtain ⟨⟨k0, k1, k2, k3⟩, k5⟩ := hSw; have k7 := Hst.out W _ _ k cap k5; go_simp; try with_reducible rfl)
            refine wpAnyH_take (i := 28) (v := ?_) rfl (by kernel_rfl) (by kernel_rfl) (by kernel_rfl) (fun _ _ _ h => h) (Or.inl ⟨by kernel_rfl, ?_⟩) hH ?_
            rotate_left
            · (intro W hSw; obtain ⟨⟨k0, k1, k2, k3⟩, k5⟩ := hSw; have k7 := Hst.out W _ _ k cap k5; go_simp; try with_reducible rfl)
            try simp only [Act.put, List.getElem_toArray, List.getElem_cons_zero, List.getElem_cons_succ, List.setIfInBounds_toArray, List.set_cons_zero, List.set_cons_succ]
            refine wpAnyH_ready (rs := [26]) (by kernel_rfl) (by simp) ?_
            refine AllReadyH.cons rfl (fun K hK => ?_) ?_
            · go_simp
              go_wp2_with (refine (Hmo.out).mono ?_; rintro e w' ⟨rfl, rfl⟩)
              refine hK.out _ _ ?_ (fun hH => ?_)
              · exact hH
              clear hK K
              refine wpAnyH_take (i := 29) (v := ?_) rfl (by kernel_rfl) (by kernel_rfl) (by kernel_rfl) (fun _ _ _ h => h) (Or.inl ⟨by kernel_rfl, ?_⟩) hH ?_
              rotate_left
              · (intro W hSw; obtain ⟨⟨k0, k1, k2, k3⟩, k5⟩ := hSw; have k7 := Hst.out W _ _ k cap k5; go_simp; try with_reducible rfl)
              refine wpAnyH_take (i := 30) (v := ?_) rfl (by kernel_rfl) (by kernel_rfl) (by kernel_rfl) (fun _ _ _ h => h) (Or.inl ⟨by kernel_rfl, ?_⟩) hH ?_
              rotate_left
              · (intro W hSw; obtain ⟨⟨k0, k1, k2, k3⟩, k5⟩ := hSw; have k7 := Hst.out W _ _ k cap k5; go_simp; try with_reducible rfl)
              refine wpAnyH_take (i := 31) (v := ?_) rfl (by kernel_rfl) (by kernel_rfl) (by kernel_rfl) (fun _ _ _ h => h) (Or.inl ⟨by kernel_rfl, ?_⟩) hH ?_
              rotate_left
              · (intro W hSw; obtain ⟨⟨k0, k1, k2, k3⟩, k5⟩ := hSw; have k7 := Hst.out W _ _ k cap k5; go_simp; try with_reducible rfl)
              try simp only [Act.put, List.getElem_toArray, List.getElem_cons_zero, List.getElem_cons_succ, List.setIfInBounds_toArray, List.set_cons_zero, List.set_cons_succ]
              refine wpAnyH_take (i := 32) (v := ?_) rfl (by kernel_rfl) (by kernel_rfl) (by kernel_rfl) (fun _ _ _ h => h) (Or.inl ⟨by kernel_rfl, ?_⟩) hH ?_
              rotate_left
              · (intro W hSw; obtain ⟨⟨k0, k1, k2, k3⟩, k5⟩ := hSw; have k7 := Hst.out W _ _ k cap k5; go_simp; try with_reducible rfl)
              refine wpAnyH_take (i := 33) (v := ?_) rfl (by kernel_rfl) (by kernel_rfl) (by kernel_rfl) (fun _ _ _ h => h) (Or.inl ⟨by kernel_rfl, ?_⟩) hH ?_
              rotate_left
              · (intro W hSw; obtain ⟨⟨k0, k1, k2, k3⟩, k5⟩ := hSw; have k7 := Hst.out W _ _ k cap k5; go_simp; try with_reducible rfl)
              refine wpAnyH_take (i := 34) (v := ?_) rfl (by kernel_rfl) (by kernel_rfl) (by kernel_rfl) (fun _ _ _ h => h) (Or.inl ⟨by kernel_rfl, ?_⟩) hH ?_
              rotate_left
              · (intro W hSw; obtain ⟨⟨k0, k1, k2, k3⟩, k5⟩ := hSw; have k7 := Hst.out W _ _ k cap k5; go_simp; try with_reducible rfl)
              try simp only [Act.put, List.getElem_toArray, List.getElem_cons_zero, List.getElem_cons_succ, List.setIfInBounds_toArray, List.set_cons_zero, List.set_cons_succ]
              refine wpAnyH_take (i := 35) (v := ?_) rfl (by kernel_rfl) (by kernel_rfl) (by kernel_rfl) (fun _ _ _ h => h) (Or.inl ⟨by kernel_rfl, ?_⟩) hH ?_
              rotate_left
              · (intro W hSw; obtain ⟨⟨k0, k1, k2, k3⟩, k5⟩ := hSw; have k7 := Hst.out W _ _ k cap k5; go_simp; try with_reducible rfl)
              refine wpAnyH_take (i := 37) (v := ?_) rfl (by kernel_rfl) (by kernel_rfl) (by kernel_rfl) (fun _ _ _ h => h) (Or.inl ⟨by kernel_rfl, ?_⟩) hH ?_
              rotate_left
              · (intro W hSw; obtain ⟨⟨k0, k1, k2, k3⟩, k5⟩ := hSw; have k7 := Hst.out W _ _ k cap k5; go_simp; try with_reducible rfl)
              try simp only [Act.put, List.getElem_toArray, List.getElem_cons_zero, List.getElem_cons_succ, List.setIfInBounds_toArray, List.set_cons_zero, List.set_cons_succ]
              refine wpAnyH_ready (rs := [36]) (by kernel_rfl) (by simp) ?_
              refine AllReadyH.cons rfl (fun K hK => ?_) ?_
              · go_simp
                go_wp2_with (refine (Hao.out).mono ?_; rintro e w' ⟨rfl, rfl⟩)
                refine hK.out _ _ ?_ (fun hH => ?_)
                · exact hH
                clear hK K
                refine wpAnyH_take (i := 38) (v := ?_) rfl (by kernel_rfl) (by kernel_rfl) (by kernel_rfl) (fun _ _ _ h => h) (Or.inl ⟨by kernel_rfl, ?_⟩) hH ?_
                rotate_left
                · (intro W hSw; obtain ⟨⟨k0, k1, k2, k3⟩, k5⟩ := hSw; have k7 := Hst.out W _ _ k cap k5; go_simp; try with_reducible rfl)
                refine wpAnyH_take (i := 39) (v := ?_) rfl (by kernel_rfl) (by kernel_rfl) (by kernel_rfl) (fun _ _ _ h => h) (Or.inl ⟨by kernel_rfl, ?_⟩) hH ?_
                rotate_left
                · (intro W hSw; obtain ⟨⟨k0, k1, k2, k3⟩, k5⟩ := hSw; have k7 := Hst.out W _ _ k cap k5; go_simp; try with_reducible rfl)
                refine wpAnyH_take (i := 40) (v := ?_) rfl (by kernel_rfl) (by kernel_rfl) (by kernel_rfl) (fun _ _ _ h => h) (Or.inl ⟨by kernel_rfl, ?_⟩) hH ?_
                rotate_left
                · (intro W hSw; obtain ⟨⟨k0, k1, k2, k3⟩, k5⟩ := hSw; have k7 := Hst.out W _ _ k cap k5; go_simp; try with_reducible rfl)
                try simp only [Act.put, List.getElem_toArray, List.getElem_cons_zero, List.getElem_cons_succ, List.setIfInBounds_toArray, List.set_cons_zero, List.set_cons_succ]
                refine wpAnyH_take (i := 41) (v := ?_) rfl (by kernel_rfl) (by kernel_rfl) (by kernel_rfl) (fun _ _ _ h => h) (Or.inl ⟨by kernel_rfl, ?_⟩) hH ?_
                rotate_left
                · (intro W hSw; obtain ⟨⟨k0, k1, k2, k3⟩, k5⟩ := hSw; have k7 := Hst.out W _ _ k cap k5; go_simp; try with_reducible rfl)
                refine wpAnyH_take (i := 42) (v := ?_) rfl (by kernel_rfl) (by kernel_rfl) (by kernel_rfl) (fun _ _ _ h => h) (Or.inl ⟨by kernel_rfl, ?_⟩) hH ?_
                rotate_left
                · (intro W hSw; obtain ⟨⟨k0, k1, k2, k3⟩, k5⟩ := hSw; have k7 := Hst.out W _ _ k cap k5; go_simp; try with_reducible rfl)
                refine wpAnyH_take (i := 43) (v := ?_) rfl (by kernel_rfl) (by kernel_rfl) (by kernel_rfl) (fun _ _ _ h => h) (Or.inl ⟨by kernel_rfl, ?_⟩) hH ?_
                rotate_left
                · (intro W hSw; obtain ⟨⟨k0, k1, k2, k3⟩, k5⟩ := hSw; have k7 := Hst.out W _ _ k cap k5; go_simp; try with_reducible rfl)
                try simp only [Act.put, List.getElem_toArray, List.getElem_cons_zero, List.getElem_cons_succ, List.setIfInBounds_toArray, List.set_cons_zero, List.set_cons_succ]
                refine wpAnyH_take (i := 44) (v := ?_) rfl (by kernel_rfl) (by kernel_rfl) (by kernel_rfl) (fun _ _ _ h => h) (Or.inl ⟨by kernel_rfl, ?_⟩) hH ?_
                rotate_left
                · (intro W hSw; obtain ⟨⟨k0, k1, k2, k3⟩, k5⟩ := hSw; have k7 := Hst.out W _ _ k cap k5; go_simp; try with_reducible rfl)
                refine wpAnyH_take (i := 47) (v := ?_) rfl (by kernel_rfl) (by kernel_rfl) (by kernel_rfl) (fun _ _ _ h => h) (Or.inl ⟨by kernel_rfl, ?_⟩) hH ?_
                rotate_left
                · (intro W hSw; obtain ⟨⟨k0, k1, k2, k3⟩, k5⟩ := hSw; have k7 := Hst.out W _ _ k cap k5; go_simp; try with_reducible rfl)
                refine wpAnyH_take (i := 48) (v := ?_) rfl (by kernel_rfl) (by kernel_rfl) (by kernel_rfl) (fun _ _ _ h => h) (Or.inl ⟨by kernel_rfl, ?_⟩) hH ?_
                rotate_left
                · (intro W hSw; obtain ⟨⟨k0, k1, k2, k3⟩, k5⟩ := hSw; have k7 := Hst.out W _ _ k cap k5; go_simp; try with_reducible rfl)
                try simp only [Act.put, List.getElem_toArray, List.getElem_cons_zero, List.getElem_cons_succ, List.setIfInBounds_toArray, List.set_cons_zero, List.set_cons_succ]
                refine wpAnyH_ready (rs := [45]) (by kernel_rfl) (by simp) ?_
                refine AllReadyH.cons rfl (fun K hK => ?_) ?_
                · go_simp
                  go_wp2_with (refine (Hou.out).mono ?_; rintro e w7 ⟨A7, n7, cp7, rfl, hn7, hI7, hcp7, hA7, f7⟩; rw [ho] at hI7 hn7; rw [hzl] at hn7; subst hn7; have hB7 := HB6.out.keep (K' := fun j => w6.heap.size ≤ j ∧ j < w7.heap.size) f7 (fun j h => .inr h); have hI1 := HZ1.out.fr hB7.frame (Nat.le_refl _) (fun _ _ e => e); have hft : s.fit n7 = n7 := (by unfold Sb.fit; rw [hi]; simp; omega); have hty := type_o hB7 w.heap.size A n7 cap z1 hI1 (by simp only [maxLen]; omega) hnc; rw [hft] at hty; have Hty := Lib.hid hty; clear hty hft)
                  refine hK.out _ _ ?_ (fun hH => ?_)
                  · exact ⟨⟨hB7.cells.1, hB7.cells.2.1, hB7.cells.2.2.1, hB7.cells.2.2.2.1⟩, hI1⟩
                  clear hK K
                  have hS2 : ((w7.cell? ⟨a.gB, 0, none⟩ = some (.pointer (some ⟨a.gc, 0, none⟩)) ∧ w7.cell? ⟨a.gB, 1, none⟩ = some (.pointer (some ⟨a.gt, 0, none⟩)) ∧ w7.cell? ⟨a.gB, 2, none⟩ = some (.pointer (some ⟨a.gk, 0, none⟩)) ∧ w7.cell? ⟨a.gB, 3, none⟩ = some (.pointer (some ⟨a.gd, 0, none⟩))) ∧ IntsAt .u8 w7 w.heap.size A n7 z1) ∧ IntsAt .u8 w7 w7.heap.size A7 n7 z1 := ⟨hH, hI7⟩
                  refine wpAnyH_mono (S' := fun W => ((W.cell? ⟨a.gB, 0, none⟩ = some (.pointer (some ⟨a.gc, 0, none⟩)) ∧ W.cell? ⟨a.gB, 1, none⟩ = some (.pointer (some ⟨a.gt, 0, none⟩)) ∧ W.cell? ⟨a.gB, 2, none⟩ = some (.pointer (some ⟨a.gk, 0, none⟩)) ∧ W.cell? ⟨a.gB, 3, none⟩ = some (.pointer (some ⟨a.gd, 0, none⟩))) ∧ IntsAt .u8 W w.heap.size A n7 z1) ∧ IntsAt .u8 W w7.heap.size A7 n7 z1) (fun w h => h.1) _ _ _ _ ?_
                  clear hH
                  have hH := hS2
                  refine wpAnyH_take (i := 46) (v := ?_) rfl (by kernel_rfl) (by kernel_rfl) (by kernel_rfl) (fun _ _ _ h => h) (Or.inl ⟨by kernel_rfl, ?_⟩) hH ?_
                  rotate_left
                  · (intro W hSw; obtain ⟨⟨⟨k0, k1, k2, k3⟩, k5⟩, k4⟩ := hSw; have k6 := Hst.out W _ _ n7 cp7 k4; have k7 := Hst.out W _ _ n7 cap k5; go_simp; try with_reducible rfl)
                  refine wpAnyH_take (i := 49) (v := ?_) rfl (by kernel_rfl) (by kernel_rfl) (by kernel_rfl) (fun _ _ _ h => h) (Or.inl ⟨by kernel_rfl, ?_⟩) hH ?_
                  rotate_left
                  · (intro W hSw; obtain ⟨⟨⟨k0, k1, k2, k3⟩, k5⟩, k4⟩ := hSw; have k6 := Hst.out W _ _ n7 cp7 k4; have k7 := Hst.out W _ _ n7 cap k5; go_simp; try with_reducible rfl)
                  refine wpAnyH_take (i := 50) (v := ?_) rfl (by kernel_rfl) (by kernel_rfl) (by kernel_rfl) (fun _ _ _ h => h) (Or.inl ⟨by kernel_rfl, ?_⟩) hH ?_
                  rotate_left
                  · (intro W hSw; obtain ⟨⟨⟨k0, k1, k2, k3⟩, k5⟩, k4⟩ := hSw; have k6 := Hst.out W _ _ n7 cp7 k4; have k7 := Hst.out W _ _ n7 cap k5; go_simp; try with_reducible rfl)
                  try simp only [Act.put, List.getElem_toArray, List.getElem_cons_zero, List.getElem_cons_succ, List.setIfInBounds_toArray, List.set_cons_zero, List.set_cons_succ]
                  refine wpAnyH_take (i := 51) (v := ?_) rfl (by kernel_rfl) (by kernel_rfl) (by kernel_rfl) (fun _ _ _ h => h) (Or.inl ⟨by kernel_rfl, ?_⟩) hH ?_
                  rotate_left
                  · (intro W hSw; obtain ⟨⟨⟨k0, k1, k2, k3⟩, k5⟩, k4⟩ := hSw; have k6 := Hst.out W _ _ n7 cp7 k4; have k7 := Hst.out W _ _ n7 cap k5; go_simp; try with_reducible rfl)
                  refine wpAnyH_take (i := 52) (v := ?_) rfl (by kernel_rfl) (by kernel_rfl) (by kernel_rfl) (fun _ _ _ h => h) (Or.inl ⟨by kernel_rfl, ?_⟩) hH ?_
                  rotate_left
                  · (intro W hSw; obtain ⟨⟨⟨k0, k1, k2, k3⟩, k5⟩, k4⟩ := hSw; have k6 := Hst.out W _ _ n7 cp7 k4; have k7 := Hst.out W _ _ n7 cap k5; go_simp; try with_reducible rfl)
                  refine wpAnyH_take (i := 53) (v := ?_) rfl (by kernel_rfl) (by kernel_rfl) (by kernel_rfl) (fun _ _ _ h => h) (Or.inl ⟨by kernel_rfl, ?_⟩) hH ?_
                  rotate_left
                  · (intro W hSw; obtain ⟨⟨⟨k0, k1, k2, k3⟩, k5⟩, k4⟩ := hSw; have k6 := Hst.out W _ _ n7 cp7 k4; have k7 := Hst.out W _ _ n7 cap k5; go_simp; try with_reducible rfl)
                  try simp only [Act.put, List.getElem_toArray, List.getElem_cons_zero, List.getElem_cons_succ, List.setIfInBounds_toArray, List.set_cons_zero, List.set_cons_succ]
                  refine wpAnyH_take (i := 54) (v := ?_) rfl (by kernel_rfl) (by kernel_rfl) (by kernel_rfl) (fun _ _ _ h => h) (Or.inl ⟨by kernel_rfl, ?_⟩) hH ?_
                  rotate_left
                  · (intro W hSw; obtain ⟨⟨⟨k0, k1, k2, k3⟩, k5⟩, k4⟩ := hSw; have k6 := Hst.out W _ _ n7 cp7 k4; have k7 := Hst.out W _ _ n7 cap k5; go_simp; try with_reducible rfl)
                  refine wpAnyH_take (i := 55) (v := ?_) rfl (by kernel_rfl) (by kernel_rfl) (by kernel_rfl) (fun _ _ _ h => h) (Or.inl ⟨by kernel_rfl, ?_⟩) hH ?_
                  rotate_left
                  · (intro W hSw; obtain ⟨⟨⟨k0, k1, k2, k3⟩, k5⟩, k4⟩ := hSw; have k6 := Hst.out W _ _ n7 cp7 k4; have k7 := Hst.out W _ _ n7 cap k5; go_simp; try with_reducible rfl)
                  refine wpAnyH_take (i := 56) (v := ?_) rfl (by kernel_rfl) (by kernel_rfl) (by kernel_rfl) (fun _ _ _ h => h) (Or.inl ⟨by kernel_rfl, ?_⟩) hH ?_
                  rotate_left
                  · (intro W hSw; obtain ⟨⟨⟨k0, k1, k2, k3⟩, k5⟩, k4⟩ := hSw; have k6 := Hst.out W _ _ n7 cp7 k4; have k7 := Hst.out W _ _ n7 cap k5; go_simp; try with_reducible rfl)
                  try simp only [Act.put, List.getElem_toArray, List.getElem_cons_zero, List.getElem_cons_succ, List.setIfInBounds_toArray, List.set_cons_zero, List.set_cons_succ]
                  refine wpAnyH_take (i := 58) (v := ?_) rfl (by kernel_rfl) (by kernel_rfl) (by kernel_rfl) (fun _ _ _ h => h) (Or.inl ⟨by kernel_rfl, ?_⟩) hH ?_
                  rotate_left
                  · (intro W hSw; obtain ⟨⟨⟨k0, k1, k2, k3⟩, k5⟩, k4⟩ := hSw; have k6 := Hst.out W _ _ n7 cp7 k4; have k7 := Hst.out W _ _ n7 cap k5; go_simp; try with_reducible rfl)
                  refine wpAnyH_take (i := 59) (v := ?_) rfl (by kernel_rfl) (by kernel_rfl) (by kernel_rfl) (fun _ _ _ h => h) (Or.inl ⟨by kernel_rfl, ?_⟩) hH ?_
                  rotate_left
                  · (intro W hSw; obtain ⟨⟨⟨k0, k1, k2, k3⟩, k5⟩, k4⟩ := hSw; have k6 := Hst.out W _ _ n7 cp7 k4; have k7 := Hst.out W _ _ n7 cap k5; go_simp; try with_reducible rfl)
                  try simp only [Act.put, List.getElem_toArray, List.getElem_cons_zero, List.getElem_cons_succ, List.setIfInBounds_toArray, List.set_cons_zero, List.set_cons_succ]
                  refine wpAnyH_ready (rs := [57]) (by kernel_rfl) (by simp) ?_
                  refine AllReadyH.cons rfl (fun K hK => ?_) ?_
                  · go_simp
                    go_wp2_with (refine (Hty.out).mono ?_; rintro e w8 ⟨rfl, hB8, f8⟩; have hs8 := f8.size; have hJ7 := ints_own hI7 f8 (Nat.le_refl _) (fun hn b off e h => h ⟨hA7 b off e, IntsAt.lt_ hI7 b off e hn⟩); have hJ1 := HZ1.out.fr hB8.frame (Nat.le_refl _) (fun _ _ e => e); have hwl : (s.ins ++ z1.take n7).length = n7 := (by rw [hi, List.nil_append, List.length_take]; omega); have Hwt := Lib.hid (waits_o hB8); have Hwl := Lib.hid hwl; have Hda := Lib.hid (dall_o hB8); clear hwl)
                    refine hK.out _ _ ?_ (fun hH => ?_)
                    · exact ⟨⟨⟨hB8.cells.1, hB8.cells.2.1, hB8.cells.2.2.1, hB8.cells.2.2.2.1⟩, hJ1⟩, hJ7⟩
                    clear hK K
                    refine wpAnyH_take (i := 60) (v := ?_) rfl (by kernel_rfl) (by kernel_rfl) (by kernel_rfl) (fun _ _ _ h => h) (Or.inl ⟨by kernel_rfl, ?_⟩) hH ?_
                    rotate_left
                    · (intro W hSw; obtain ⟨⟨⟨k0, k1, k2, k3⟩, k5⟩, k4⟩ := hSw; have k6 := Hst.out W _ _ n7 cp7 k4; have k7 := Hst.out W _ _ n7 cap k5; go_simp; try with_reducible rfl)
                    refine wpAnyH_take (i := 61) (v := ?_) rfl (by kernel_rfl) (by kernel_rfl) (by kernel_rfl) (fun _ _ _ h => h) (Or.inl ⟨by kernel_rfl, ?_⟩) hH ?_
                    rotate_left
                    · (intro W hSw; obtain ⟨⟨⟨k0, k1, k2, k3⟩, k5⟩, k4⟩ := hSw; have k6 := Hst.out W _ _ n7 cp7 k4; have k7 := Hst.out W _ _ n7 cap k5; go_simp; try with_reducible rfl)
                    refine wpAnyH_take (i := 62) (v := ?_) rfl (by kernel_rfl) (by kernel_rfl) (by kernel_rfl) (fun _ _ _ h => h) (Or.inl ⟨by kernel_rfl, ?_⟩) hH ?_
                    rotate_left
                    · (intro W hSw; obtain ⟨⟨⟨k0, k1, k2, k3⟩, k5⟩, k4⟩ := hSw; have k6 := Hst.out W _ _ n7 cp7 k4; have k7 := Hst.out W _ _ n7 cap k5; go_simp; try with_reducible rfl)
                    try simp only [Act.put, List.getElem_toArray, List.getElem_cons_zero, List.getElem_cons_succ, List.setIfInBounds_toArray, List.set_cons_zero, List.set_cons_succ]
                    refine wpAnyH_take (i := 63) (v := ?_) rfl (by kernel_rfl) (by kernel_rfl) (by kernel_rfl) (fun _ _ _ h => h) (Or.inl ⟨by kernel_rfl, ?_⟩) hH ?_
                    rotate_left
                    · (intro W hSw; obtain ⟨⟨⟨k0, k1, k2, k3⟩, k5⟩, k4⟩ := hSw; have k6 := Hst.out W _ _ n7 cp7 k4; have k7 := Hst.out W _ _ n7 cap k5; go_simp; try with_reducible rfl)
                    refine wpAnyH_take (i := 64) (v := ?_) rfl (by kernel_rfl) (by kernel_rfl) (by kernel_rfl) (fun _ _ _ h => h) (Or.inl ⟨by kernel_rfl, ?_⟩) hH ?_
                    rotate_left
                    · (intro W hSw; obtain ⟨⟨⟨k0, k1, k2, k3⟩, k5⟩, k4⟩ := hSw; have k6 := Hst.out W _ _ n7 cp7 k4; have k7 := Hst.out W _ _ n7 cap k5; go_simp; try with_reducible rfl)
                    refine wpAnyH_take (i := 65) (v := ?_) rfl (by kernel_rfl) (by kernel_rfl) (by kernel_rfl) (fun _ _ _ h => h) (Or.inl ⟨by kernel_rfl, ?_⟩) hH ?_
                    rotate_left
                    · (intro W hSw; obtain ⟨⟨⟨k0, k1, k2, k3⟩, k5⟩, k4⟩ := hSw; have k6 := Hst.out W _ _ n7 cp7 k4; have k7 := Hst.out W _ _ n7 cap k5; go_simp; try with_reducible rfl)
                    try simp only [Act.put, List.getElem_toArray, List.getElem_cons_zero, List.getElem_cons_succ, List.setIfInBounds_toArray, List.set_cons_zero, List.set_cons_succ]
                    refine wpAnyH_take (i := 66) (v := ?_) rfl (by kernel_rfl) (by kernel_rfl) (by kernel_rfl) (fun _ _ _ h => h) (Or.inl ⟨by kernel_rfl, ?_⟩) hH ?_
                    rotate_left
                    · (intro W hSw; obtain ⟨⟨⟨k0, k1, k2, k3⟩, k5⟩, k4⟩ := hSw; have k6 := Hst.out W _ _ n7 cp7 k4; have k7 := Hst.out W _ _ n7 cap k5; go_simp; try with_reducible rfl)
                    refine wpAnyH_take (i := 68) (v := ?_) rfl (by kernel_rfl) (by kernel_rfl) (by kernel_rfl) (fun _ _ _ h => h) (Or.inl ⟨by kernel_rfl, ?_⟩) hH ?_
                    rotate_left
                    · (intro W hSw; obtain ⟨⟨⟨k0, k1, k2, k3⟩, k5⟩, k4⟩ := hSw; have k6 := Hst.out W _ _ n7 cp7 k4; have k7 := Hst.out W _ _ n7 cap k5; go_simp; try with_reducible rfl)
                    refine wpAnyH_take (i := 69) (v := ?_) rfl (by kernel_rfl) (by kernel_rfl) (by kernel_rfl) (fun _ _ _ h => h) (Or.inl ⟨by kernel_rfl, ?_⟩) hH ?_
                    rotate_left
                    · (intro W hSw; obtain ⟨⟨⟨k0, k1, k2, k3⟩, k5⟩, k4⟩ := hSw; have k6 := Hst.out W _ _ n7 cp7 k4; have k7 := Hst.out W _ _ n7 cap k5; go_simp; try with_reducible rfl)
                    try simp only [Act.put, List.getElem_toArray, List.getElem_cons_zero, List.getElem_cons_succ, List.setIfInBounds_toArray, List.set_cons_zero, List.set_cons_succ]
                    refine wpAnyH_ready (rs := [67]) (by kernel_rfl) (by simp) ?_
                    refine AllReadyH.cons rfl (fun K hK => ?_) ?_
                    · go_simp
                      go_wp2_with (refine (Hwt.out).mono ?_; rintro e w' ⟨rfl, rfl⟩; rw [show ({ s with ins := s.ins ++ z1.take n7 } : Sb).ins.length = n7 from Hwl.out])
                      refine hK.out _ _ ?_ (fun hH => ?_)
                      · exact hH
                      clear hK K
                      refine wpAnyH_take (i := 70) (v := ?_) rfl (by kernel_rfl) (by kernel_rfl) (by kernel_rfl) (fun _ _ _ h => h) (Or.inl ⟨by kernel_rfl, ?_⟩) hH ?_
                      rotate_left
                      · (intro W hSw; obtain ⟨⟨⟨k0, k1, k2, k3⟩, k5⟩, k4⟩ := hSw; have k6 := Hst.out W _ _ n7 cp7 k4; have k7 := Hst.out W _ _ n7 cap k5; go_simp; try with_reducible rfl)
                      refine wpAnyH_take (i := 71) (v := ?_) rfl (by kernel_rfl) (by kernel_rfl) (by kernel_rfl) (fun _ _ _ h => h) (Or.inl ⟨by kernel_rfl, ?_⟩) hH ?_
                      rotate_left
                      · (intro W hSw; obtain ⟨⟨⟨k0, k1, k2, k3⟩, k5⟩, k4⟩ := hSw; have k6 := Hst.out W _ _ n7 cp7 k4; have k7 := Hst.out W _ _ n7 cap k5; go_simp; try with_reducible rfl)
                      refine wpAnyH_take (i := 72) (v := ?_) rfl (by kernel_rfl) (by kernel_rfl) (by kernel_rfl) (fun _ _ _ h => h) (Or.inl ⟨by kernel_rfl, ?_⟩) hH ?_
                      rotate_left
                      · (intro W hSw; obtain ⟨⟨⟨k0, k1, k2, k3⟩, k5⟩, k4⟩ := hSw; have k6 := Hst.out W _ _ n7 cp7 k4; have k7 := Hst.out W _ _ n7 cap k5; go_simp; try with_reducible rfl)
                      try simp only [Act.put, List.getElem_toArray, List.getElem_cons_zero, List.getElem_cons_succ, List.setIfInBounds_toArray, List.set_cons_zero, List.set_cons_succ]
                      refine wpAnyH_take (i := 73) (v := ?_) rfl (by kernel_rfl) (by kernel_rfl) (by kernel_rfl) (fun _ _ _ h => h) (Or.inl ⟨by kernel_rfl, ?_⟩) hH ?_
                      rotate_left
                      · (intro W hSw; obtain ⟨⟨⟨k0, k1, k2, k3⟩, k5⟩, k4⟩ := hSw; have k6 := Hst.out W _ _ n7 cp7 k4; have k7 := Hst.out W _ _ n7 cap k5; go_simp; try with_reducible rfl)
                      refine wpAnyH_take (i := 74) (v := ?_) rfl (by kernel_rfl) (by kernel_rfl) (by kernel_rfl) (fun _ _ _ h => h) (Or.inl ⟨by kernel_rfl, ?_⟩) hH ?_
                      rotate_left
                      · (intro W hSw; obtain ⟨⟨⟨k0, k1, k2, k3⟩, k5⟩, k4⟩ := hSw; have k6 := Hst.out W _ _ n7 cp7 k4; have k7 := Hst.out W _ _ n7 cap k5; go_simp; try with_reducible rfl)
                      refine wpAnyH_take (i := 75) (v := ?_) rfl (by kernel_rfl) (by kernel_rfl) (by kernel_rfl) (fun _ _ _ h => h) (Or.inl ⟨by kernel_rfl, ?_⟩) hH ?_
                      rotate_left
                      · (intro W hSw; obtain ⟨⟨⟨k0, k1, k2, k3⟩, k5⟩, k4⟩ := hSw; have k6 := Hst.out W _ _ n7 cp7 k4; have k7 := Hst.out W _ _ n7 cap k5; go_simp; try with_reducible rfl)
                      try simp only [Act.put, List.getElem_toArray, List.getElem_cons_zero, List.getElem_cons_succ, List.setIfInBounds_toArray, List.set_cons_zero, List.set_cons_succ]
                      refine wpAnyH_take (i := 76) (v := ?_) rfl (by kernel_rfl) (by kernel_rfl) (by kernel_rfl) (fun _ _ _ h => h) (Or.inl ⟨by kernel_rfl, ?_⟩) hH ?_
                      rotate_left
                      · (intro W hSw; obtain ⟨⟨⟨k0, k1, k2, k3⟩, k5⟩, k4⟩ := hSw; have k6 := Hst.out W _ _ n7 cp7 k4; have k7 := Hst.out W _ _ n7 cap k5; go_simp; try with_reducible rfl)
                      try simp only [Act.put, List.getElem_toArray, List.getElem_cons_zero, List.getElem_cons_succ, List.setIfInBounds_toArray, List.set_cons_zero, List.set_cons_succ]
                      refine wpAnyH_ready (rs := [77]) (by kernel_rfl) (by simp) ?_
                      refine AllReadyH.cons rfl (fun K hK => ?_) ?_
                      · go_simp
                        go_wp2_with (refine (Hda.out).mono ?_; rintro e w9 ⟨g9, cp9, rfl, hI9, _, _, f9⟩; have hB9 := hB8.fr0 f9)
                        refine hK.out _ _ ?_ (fun hH => ?_)
                        · exact ⟨⟨⟨hB9.cells.1, hB9.cells.2.1, hB9.cells.2.2.1, hB9.cells.2.2.2.1⟩, hH.1.2.fr f9 hB8.frame.size (fun _ _ e => e)⟩, hH.2.fr f9 hs8 (fun _ _ e => e)⟩
                        clear hK K
                        refine wpAnyH_take (i := 78) (v := ?_) rfl (by kernel_rfl) (by kernel_rfl) (by kernel_rfl) (fun _ _ _ h => h) (Or.inl ⟨by kernel_rfl, ?_⟩) hH ?_
                        rotate_left
                        · (intro W hSw; obtain ⟨⟨⟨k0, k1, k2, k3⟩, k5⟩, k4⟩ := hSw; have k6 := Hst.out W _ _ n7 cp7 k4; have k7 := Hst.out W _ _ n7 cap k5; go_simp; try with_reducible rfl)
                        refine wpAnyH_take (i := 79) (v := ?_) rfl (by kernel_rfl) (by kernel_rfl) (by kernel_rfl) (fun _ _ _ h => h) (Or.inl ⟨by kernel_rfl, ?_⟩) hH ?_
                        rotate_left
                        · (intro W hSw; obtain ⟨⟨⟨k0, k1, k2, k3⟩, k5⟩, k4⟩ := hSw; have k6 := Hst.out W _ _ n7 cp7 k4; have k7 := Hst.out W _ _ n7 cap k5; go_simp; try with_reducible rfl)
                        refine wpAnyH_take (i := 80) (v := ?_) rfl (by kernel_rfl) (by kernel_rfl) (by kernel_rfl) (fun _ _ _ h => h) (Or.inl ⟨by kernel_rfl, ?_⟩) hH ?_
                        rotate_left
                        · (intro W hSw; obtain ⟨⟨⟨k0, k1, k2, k3⟩, k5⟩, k4⟩ := hSw; have k6 := Hst.out W _ _ n7 cp7 k4; have k7 := Hst.out W _ _ n7 cap k5; go_simp; try with_reducible rfl)
                        try simp only [Act.put, List.getElem_toArray, List.getElem_cons_zero, List.getElem_cons_succ, List.setIfInBounds_toArray, List.set_cons_zero, List.set_cons_succ]
                        refine wpAnyH_take (i := 81) (v := ?_) rfl (by kernel_rfl) (by kernel_rfl) (by kernel_rfl) (fun _ _ _ h => h) (Or.inl ⟨by kernel_rfl, ?_⟩) hH ?_
                        rotate_left
                        · (intro W hSw; obtain ⟨⟨⟨k0, k1, k2, k3⟩, k5⟩, k4⟩ := hSw; have k6 := Hst.out W _ _ n7 cp7 k4; have k7 := Hst.out W _ _ n7 cap k5; go_simp; try with_reducible rfl)
                        try simp only [Act.put, List.getElem_toArray, List.getElem_cons_zero, List.getElem_cons_succ, List.setIfInBounds_toArray, List.set_cons_zero, List.set_cons_succ]
                        refine wpAnyH_ready (rs := [82]) (by kernel_rfl) (by simp) ?_
                        refine AllReadyH.cons rfl (fun K hK => ?_) ?_
                        · go_simp
                          go_wp2_with (refine (known15 _).mono ?_; rintro e w10 ⟨rfl, f10⟩; have hB10 := hB9.fr0 f10)
                          refine hK.out _ _ ?_ (fun hH => ?_)
                          · exact ⟨⟨⟨hB10.cells.1, hB10.cells.2.1, hB10.cells.2.2.1, hB10.cells.2.2.2.1⟩, hH.1.2.fr f10 hB9.frame.size (fun _ _ e => e)⟩, hH.2.fr f10 (Nat.le_trans hs8 f9.size) (fun _ _ e => e)⟩
                          clear hK K
                          refine wpAnyH_take (i := 83) (v := ?_) rfl (by kernel_rfl) (by kernel_rfl) (by kernel_rfl) (fun _ _ _ h => h) (Or.inl ⟨by kernel_rfl, ?_⟩) hH ?_
                          rotate_left
                          · (intro W hSw; obtain ⟨⟨⟨k0, k1, k2, k3⟩, k5⟩, k4⟩ := hSw; have k6 := Hst.out W _ _ n7 cp7 k4; have k7 := Hst.out W _ _ n7 cap k5; go_simp; try with_reducible rfl)
                          refine wpAnyH_take (i := 84) (v := .bool true) rfl (by kernel_rfl) (by kernel_rfl) (by kernel_rfl) (fun _ _ _ h => h) (Or.inl ⟨by kernel_rfl, ?_⟩) hH ?_
                          · (intro W hSw; kernel_rfl)
                          refine wpAnyH_done (by kernel_rfl) ?_ _
                          go_wp2_with fail
                          go_ret
                          exact ⟨by kernel_rfl, hB10.frame⟩
                        exact AllReadyH.nil
                      exact AllReadyH.nil
                    exact AllReadyH.nil
                  exact AllReadyH.nil
                exact AllReadyH.nil
              exact AllReadyH.nil
            exact AllReadyH.nil
          exact AllReadyH.nil
        exact AllReadyH.nil
end Go.Proofs.YthiephlfhbkcbaaDoor.busPromotes
