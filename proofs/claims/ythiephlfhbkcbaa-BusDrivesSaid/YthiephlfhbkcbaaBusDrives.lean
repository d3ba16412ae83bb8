/- BusDrives: the walk. -/
import Derived.Test.YthiephlfhbkcbaaBusOwn
import Derived.Lib.SlBytesConst
import Derived.Deep.DeepCutAuto
import Derived.Deep.RegionHeld
namespace Go.Proofs.Ythiephlfhbkcbaa.busDrives
open Go.RowKit Fm Nt Rm By Dr Rf Bs
set_option linter.unusedVariables false
set_option maxHeartbeats 2000000

theorem run_sect2 (g cap k : Nat) (hk : k < 16) (hc : 1024 ≤ cap) (W : World) : (Instr.slice 24 (.slice (some ⟨g, 0, none⟩) 1024 cap) (some (.int .u32 (64 * (k : Int)))) (some (.int .u32 (64 * (k : Int) + 64))) none).run Try.prog W = .ok (.slice (some ⟨g, k * 64, none⟩) 64 (cap - k * 64)) W := by
  obtain ⟨i0, hi0, hz0, hz1, hz2⟩ := info_parts infoU8
  have he : Try.prog.elem 24 = 5 := by kernel_rfl
  rw [run_slice_lh W 24 (some ⟨g, 0, none⟩) 1024 cap (by rw [he]; exact Try.underlying24) .u32 .u32 (64 * (k : Int)) (64 * (k : Int) + 64) (by omega) (by omega) (by omega)]
  have e1 : (64 * (k : Int)).toNat = k * 64 := by omega
  have e2 : (64 * (k : Int) + 64).toNat = k * 64 + 64 := by omega
  have e3 : ¬ (cap = k * 64) := by omega
  have e4 : k * 64 + 64 - k * 64 = 64 := by omega
  simp [sizeOf, typeInfo, he, hi0, hz1, Result.andThen, sliced, e1, e2, e3, e4, Addr.add]
  intro h; omega
theorem sub_ints {w : World} {B n g : Nat} {z : Nat → Int} (h : IntsAt .u8 w B (some ⟨g, 0, none⟩) n (lst z n)) {o k : Nat} (hok : o + k ≤ n) (hk : 0 < k) : IntsAt .u8 w B (some ⟨g, o, none⟩) k (lst (fun j => z (o + j)) k) := by
  obtain ⟨b, off, e, hb, hc⟩ := h.2.2 (by omega)
  injection e with e
  injection e with e1 e2
  subst e1 e2
  refine ⟨lst_len _ _, fun i hi => ?_, fun _ => ⟨_, _, rfl, hb, fun i hi => ?_⟩⟩
  · rw [lst_at _ hi]
    have := h.2.1 (o + i) (by omega)
    rw [lst_at _ (by omega)] at this
    exact this
  · rw [lst_at _ hi]
    have := hc (o + i) (by omega)
    rw [lst_at _ (by omega), Nat.zero_add] at this
    exact this
theorem lit_fz {k : IntKind} {w : World} {t : TypeId} {zs : List Int} {N : Nat} {cs : Array Value} (fz : Nat × Nat) (hc : cs = (zs.map (Value.int k)).toArray) (hl : zs.length = N) (hw : ∀ z ∈ zs, (Lit.int k z).wf = true) : IntsAt k (w.alloc (.cells cs t fz)) (w.heap.size + 1) (some ⟨w.heap.size, 0, none⟩) N zs := by
  subst hl hc
  refine ⟨rfl, fun i hi => ?_, fun _ => ⟨w.heap.size, 0, rfl, by omega, fun i hi => ?_⟩⟩
  · rw [List.getD_eq_getElem?_getD, List.getElem?_eq_getElem hi]
    exact hw _ (List.getElem_mem hi)
  · have : (w.alloc (.cells (zs.map (Value.int k)).toArray t fz)).heap[w.heap.size]? = some (.cells (zs.map (Value.int k)).toArray t fz) := by
      show (w.heap.push _)[w.heap.size]? = _
      simp
    unfold World.cell?
    dsimp only
    rw [this]
    simp [hi, List.getD_eq_getElem?_getD]
def LW : List Int := [119, 104, 97, 116, 32, 115, 116, 97, 110, 100, 115, 32, 111, 110, 32, 116, 104, 101, 32, 100, 114, 105, 118, 101]
def cW : Array Value := #[.int .u8 119, .int .u8 104, .int .u8 97, .int .u8 116, .int .u8 32, .int .u8 115, .int .u8 116, .int .u8 97, .int .u8 110, .int .u8 100, .int .u8 115, .int .u8 32, .int .u8 111, .int .u8 110, .int .u8 32, .int .u8 116, .int .u8 104, .int .u8 101, .int .u8 32, .int .u8 100, .int .u8 114, .int .u8 105, .int .u8 118, .int .u8 101]
theorem page_o {w0 w : World} {K : Nat → Prop} {a : Ab} {s : Sb} (h : BO w0 w K a s) (n : Int) (n0 : 0 ≤ n) (n1 : n < s.ms.n) :
    Calls Try.prog 19 #[.pointer (some ⟨a.am.gm, 0, none⟩), .int .i64 n] w fun e w' => e = .returned (.tuple #[.slice (some ⟨w.heap.size, 0, none⟩) 64 64, .bool true]) ∧ IntsAt .u8 w' w'.heap.size (some ⟨w.heap.size, 0, none⟩) 64 (lst (fun k => s.ms.mem (n.toNat * 64 + k)) 64) ∧ Fr (fun _ => False) w w' := by
  obtain ⟨F, h1, _⟩ := h
  refine (page_in w a.am s.ms h1.M n n0 n1).mono ?_
  rintro e w' ⟨rfl, hc, f⟩
  exact ⟨rfl, (cells_ints hc (fun k hk => h1.M.bd _ (by omega))).more hc.lt, f⟩
theorem dall_o {w0 w : World} {K : Nat → Prop} {a : Ab} {s : Sb} (h : BO w0 w K a s) :
    Calls Try.prog 20 #[.pointer (some ⟨a.gd, 0, none⟩)] w (GivesL w 1024 (lst s.d 1024)) := by
  obtain ⟨F, h1, _⟩ := h
  exact dall_any w a.gd a.ge s.d h1.d
/-- what the three stores leave -/
theorem told (m : Ms) (d : Nat → Int) (s p c : Int) : ((((⟨0, 0, 0, [], [], d, m, 0, 0, 0⟩ : Sb).store 32800 s).store 32804 p).store 32808 c) = ⟨0 ||| 4, 0, 0, [], [], doD d m s p c, doM d m s p c, s, p, if doB m s p c then 0 else 1⟩ := rfl
theorem same_page (m : Ms) (d : Nat → Int) (s p : Nat) (c : Int) (hp : p % 64 = 0) (h : doB m s p c = true) (j : Nat) (hj : j < 64) : doD d m s p c (s * 64 + j) = (doM d m s p c).mem (p / 64 * 64 + j) := by
  have hb := h
  simp only [doB, decide_eq_true_eq] at hb
  have e : p / 64 * 64 = p := by omega
  rw [e]
  rcases hb.2.2.2 with rfl | rfl
  · rw [doD, if_neg (by omega), doM, if_pos ⟨h, rfl⟩, show ((p : Int)).toNat = p from rfl, puts_mem, if_pos (by omega), show p + j - p = j by omega, sect, lst_at _ hj]
    rfl
  · have e1 : doM d m s p 2 = m := by rw [doM, if_neg (fun hh => absurd hh.2 (by decide))]
    have e2 : doD d m s p 2 (s * 64 + j) = if (s : Int).toNat * 64 ≤ s * 64 + j ∧ s * 64 + j < (s : Int).toNat * 64 + 64 then m.mem ((p : Int).toNat + (s * 64 + j - (s : Int).toNat * 64)) else d (s * 64 + j) := by rw [doD, if_pos ⟨h, rfl⟩]
    rw [e1, e2, show ((s : Int)).toNat = s from rfl, show ((p : Int)).toNat = p from rfl, if_pos (by omega)]
    congr 1
    omega
set_option maxRecDepth 100000 in
theorem walk (w : World) (sec : Int) (hsec : (Lit.int .u32 sec).wf = true) (pla : Int) (hpla : (Lit.int .u32 pla).wf = true) (cmd : Int) (hcmd : (Lit.int .u32 cmd).wf = true) (A : Option Addr) (len cap : Nat) (hc : len ≤ cap) (zs : List Int) (hz : IntsAt .u8 w w.heap.size A len zs) (hm : len ≤ maxLen) :
    Calls Try.prog 4 #[.int .u32 sec, .int .u32 pla, .int .u32 cmd, .slice A len cap] w fun e w' => e = .returned (.bool true) ∧ Fr (fun _ => False) w w' := by
  obtain ⟨s0, s1⟩ := wf_u32 hsec
  obtain ⟨p0, p1⟩ := wf_u32 hpla
  obtain ⟨q0, q1⟩ := wf_u32 hcmd
  have Hcut : Hid (∀ W, Calls Try.prog 14 #[.slice A len cap, .int .i64 256] W fun e w' => e = .returned (.slice A (min len 256) cap) ∧ W = w') := fun W => cut_any W A len cap 256 hm hc (by omega)
  have hz1 := hz.take (show min len 256 ≤ len from Nat.min_le_left _ _)
  have hn256 : min len 256 ≤ 256 := Nat.min_le_right _ _
  clear hz hm hc hsec hpla hcmd
  generalize zs.take (min len 256) = z1 at *
  generalize min len 256 = n1 at *
  have fa : Fr (fun _ => False) w (w.alloc (.cells cW 5 (24, 25))) := (Fr.refl _ w).alloc _
  have I1 := lit_fz (k := .u8) (zs := LW) (N := 24) (w := w) (t := 5) (cs := cW) (24, 25) rfl rfl (by decide)
  have hsa : (w.alloc (.cells cW 5 (24, 25))).heap.size = w.heap.size + 1 := by simp
  have hcv : (convert 24 24 (.slice (some ⟨w.heap.size, 0, none⟩) 24 24)).run Try.prog (w.alloc (.cells cW 5)) = .ok (.slice (some ⟨w.heap.size, 0, none⟩) 24 24) (w.alloc (.cells cW 5 (24, 25))) := Go.Lib.run_convert_bytes_const w 24 5 cW 24 24 Try.underlying24 Try.underlying5
  have Hbo := Lib.hid (both15 _ (some ⟨w.heap.size, 0, none⟩) 24 24 LW (I1.more (by rw [hsa]; omega)) (by omega) A n1 cap z1 ((hz1.fr fa (Nat.le_refl _) (fun _ _ e => e)).more fa.size) hn256)
  unfold cW at *
  have Hfa := Lib.hid fa
  clear I1 fa hz1
  obtain ⟨sN, hsN⟩ : ∃ k : Nat, sec % 18 = k := ⟨(sec % 18).toNat, by omega⟩
  obtain ⟨qN, hqN⟩ : ∃ k : Nat, pla % 6 = k := ⟨(pla % 6).toNat, by omega⟩
  obtain ⟨cN, hcN⟩ : ∃ k : Nat, cmd % 4 = k := ⟨(cmd % 4).toNat, by omega⟩
  have hs18 : sN < 18 := by omega
  have hq6 : qN < 6 := by omega
  have hc4 : cN < 4 := by omega
  go_enter Try.func4, Try.ntmps4
  go_wp2_with fail
  refine (Hcut.out _).mono ?_
  rintro e w' ⟨rfl, rfl⟩
  go_wp2_with fail
  refine (Hbo.out).mono ?_
  rintro e w1 hb
  obtain ⟨a, gR, rfl, hB⟩ := bo_both hb
  have hn4 : (Ms.init 4 z1).n = 4 := init_n 4 z1
  have Htold := Lib.hid (told (Ms.init 4 z1) (dinit LW) sN ((qN : Int) * 32) cN)
  have hB : BO _ w1 (fun _ => False) a ⟨0, 0, 0, [], [], dinit LW, Ms.init 4 z1, 0, 0, 0⟩ := hB
  have hst := store_o hB 32800 sN 0 (by omega) (by omega) (by omega) (by omega) (by show 0 ≤ 1000000; omega)
  rw [show loadB 32800 = true by decide] at hst
  have Hst := Lib.hid hst
  have ho1 := store_outs (⟨0, 0, 0, [], [], dinit LW, Ms.init 4 z1, 0, 0, 0⟩ : Sb) 32800 sN
  clear hb hst hcv
  generalize Ms.init 4 z1 = m at *
  generalize dinit LW = d at *
  generalize hx1 : (⟨0, 0, 0, [], [], d, m, 0, 0, 0⟩ : Sb).store 32800 sN = x1 at *
  have ho1 : x1.outs.length ≤ 1 := ho1
  go_wp2_with fail
  refine (Hst.out).mono ?_
  rintro e w2 ⟨rfl, hB2, _⟩
  have hst := store_o hB2 32804 ((qN : Int) * 32) 0 (by omega) (by omega) (by omega) (by omega) (by omega)
  rw [show loadB 32804 = true by decide] at hst
  have Hst2 := Lib.hid hst
  have ho2 := store_outs x1 32804 ((qN : Int) * 32)
  clear hB hB2 hst
  generalize hx2 : x1.store 32804 ((qN : Int) * 32) = x2 at *
  go_wp2_with fail
  refine (Hst2.out).mono ?_
  rintro e w3 ⟨rfl, hB3, _⟩
  have hst := store_o hB3 32808 cN 0 (by omega) (by omega) (by omega) (by omega) (by omega)
  rw [show loadB 32808 = true by decide, Htold.out] at hst
  have Hst3 := Lib.hid hst
  clear hB3 hst hx2 hx1 Htold
  have Hdob : Hid (doB m sN ((qN : Int) * 32) cN = decide ((sN : Int) < 16 ∧ (qN : Int) * 32 % 64 = 0 ∧ (qN : Int) * 32 < 256 ∧ ((cN : Int) = 1 ∨ (cN : Int) = 2))) := by
    show doB m sN ((qN : Int) * 32) cN = _
    rw [doB, hn4]
    rfl
  have Hpg : Hid (doB m sN ((qN : Int) * 32) cN = true → ∀ j, j < 64 → doD d m sN ((qN : Int) * 32) cN (sN * 64 + j) = (doM d m sN ((qN : Int) * 32) cN).mem ((qN * 32) / 64 * 64 + j)) := fun hb j hj => by
    have hb2 := hb
    simp only [doB, decide_eq_true_eq] at hb2
    have := same_page m d sN (qN * 32) cN (by omega) (by rw [show ((qN * 32 : Nat) : Int) = (qN : Int) * 32 by omega]; exact hb) j hj
    rw [show ((qN * 32 : Nat) : Int) = (qN : Int) * 32 by omega] at this
    exact this
  have Hn4 : Hid ((doM d m sN ((qN : Int) * 32) cN).n = 4) := by
    show (doM d m sN ((qN : Int) * 32) cN).n = 4
    rw [doM_n]; exact hn4
  generalize doB m sN ((qN : Int) * 32) cN = bb at *
  generalize doD d m sN ((qN : Int) * 32) cN = d' at *
  generalize doM d m sN ((qN : Int) * 32) cN = m' at *
  clear hn4
  go_wp2_with fail
  refine (Hst3.out).mono ?_
  rintro e w4 ⟨rfl, hB4, _⟩
  have hld := load_o hB4 32812 0 (by omega) (by omega) (by omega) (by omega)
  rw [show loadB 32812 = true by decide] at hld
  rw [show Sb.read ⟨0 ||| 4, 0, 0, [], [], d', m', sN, (qN : Int) * 32, if bb then 0 else 1⟩ 32812 = ⟨0 ||| 4, 0, 0, [], [], d', m', sN, (qN : Int) * 32, if bb then 0 else 1⟩ from rfl, show loadV ⟨0 ||| 4, 0, 0, [], [], d', m', sN, (qN : Int) * 32, if bb then 0 else 1⟩ 32812 0 = if bb then 0 else 1 from rfl] at hld
  have Hld := Lib.hid hld
  clear hld hB4
  generalize hx : (⟨0 ||| 4, 0, 0, [], [], d', m', sN, (qN : Int) * 32, if bb then 0 else 1⟩ : Sb) = x at *
  have g1 : x.d = d' := by rw [← hx]
  have g2 : x.ms = m' := by rw [← hx]
  have g3 : x.p = 4 := by rw [← hx]; rfl
  clear hx
  go_wp2_with fail
  refine (Hld.out).mono ?_
  rintro e w5 ⟨rfl, hB5, _⟩
  go_upto_region 8 with (fail)
  go_cut [17] (fun v wx => v = .bool bb ∧ wx = w5)
  case first => as_aux_lemma =>
    by_cases k1 : sN < 16
    · have k1' : (sN : Int) < 16 := by omega
      by_cases k2 : (qN : Int) * 32 % 64 = 0
      · have k3 : (qN : Int) * 32 < 256 := by omega
        rcases (by omega : cN = 1 ∨ cN = 2 ∨ (cN ≠ 1 ∧ cN ≠ 2)) with rfl | rfl | ⟨k4, k5⟩
        · have e : bb = true := by rw [Hdob.out]; simp; omega
          subst e
          go_wp2_with fail
          go_meet
          exact ⟨rfl, rfl⟩
        · have e : bb = true := by rw [Hdob.out]; simp; omega
          subst e
          go_wp2_with fail
          go_meet
          exact ⟨rfl, rfl⟩
        · have e : bb = false := by rw [Hdob.out]; simp; omega
          subst e
          have k4' : ((cN : Int) == 1) = false := by simp; omega
          have k5' : ((cN : Int) == 2) = false := by simp; omega
          go_wp2_with fail
          go_meet
          exact ⟨rfl, rfl⟩
      · have e : bb = false := by rw [Hdob.out]; simp; omega
        subst e
        have k2' : ((qN : Int) * 32 % 64 == 0) = false := by simp; omega
        go_wp2_with fail
        go_meet
        exact ⟨rfl, rfl⟩
    · have e : bb = false := by rw [Hdob.out]; simp; omega
      subst e
      have k1' : decide ((sN : Int) < 16) = false := by simp; omega
      go_wp2_with fail
      go_meet
      exact ⟨rfl, rfl⟩
  case rest => as_aux_lemma =>
    obtain ⟨rfl, rfl⟩ := hcut
    obtain ⟨c0, c1, c2, c3, c4, c5, c6, c7⟩ := hB5.cells
    have hpe := pending_o hB5
    rw [g3] at hpe
    have Hpe : Hid (Calls Try.prog 18 #[.pointer (some ⟨a.gc, 0, none⟩)] wc fun e w' => e = .returned (.int .u32 4) ∧ wc = w') := hpe
    have hpg := page_o hB5 ((qN : Int) * 32 / 64) (by omega) (by rw [g2, Hn4.out]; omega)
    rw [show ((qN : Int) * 32 / 64).toNat = qN * 32 / 64 by omega, g2] at hpg
    have Hpgc := Lib.hid hpg
    have hf5 := hB5.frame
    have Hda := Lib.hid (fun W (f : Fr (fun _ => False) wc W) => dall_o (hB5.fr0 f))
    rw [g1] at Hda
    have hp0 : 0 ≤ (qN : Int) * 32 / 64 := by omega
    have hp1 : (qN : Int) * 32 / 64 ≤ 4294967295 := by omega
    have hcw : IntKind.i64.wrap ((qN : Int) * 32 / 64) = (qN : Int) * 32 / 64 := IntWalk.i64_in _ (by omega)
    clear hpe hpg g1 g2 g3
    cases bb
    · clear Hpg
      go_wp2_with fail
      refine (Hpe.out).mono ?_
      rintro e w' ⟨rfl, rfl⟩
      go_wp2_with fail
      refine (Hpgc.out).mono ?_
      rintro e w6 ⟨rfl, hI6, f6⟩
      have c3' := f6.cell c3 (by have h := hB5; obtain ⟨F, h1, _⟩ := h; exact h1.b.lt) (fun e => e)
      go_wp2_with fail
      refine (Hda.out w6 f6).mono ?_
      rintro e w7 ⟨g7, cp7, rfl, hI7, hc7, _, f7⟩
      have fr7 := (Hfa.out.tr hf5).tr (f6.tr f7)
      go_upto_region 15 with (fail)
      have HF7 := Lib.hid fr7
      clear c0 c1 c2 c3 c4 c5 c6 c7 c3' fr7 hf5 f6 f7 hB5 hI6 hI7
      refine wp_region_held_drew (S := fun _ => True) (by kernel_rfl) (trivial) (fun hH => ?_)
      refine wpAnyH_take (i := 0) (v := ?_) rfl (by kernel_rfl) (by kernel_rfl) (by kernel_rfl) (fun _ _ _ h => h) (Or.inl ⟨by kernel_rfl, ?_⟩) hH ?_
      rotate_left
      · (intro W hSw; go_simp; try with_reducible rfl)
      refine wpAnyH_take (i := 1) (v := ?_) rfl (by kernel_rfl) (by kernel_rfl) (by kernel_rfl) (fun _ _ _ h => h) (Or.inl ⟨by kernel_rfl, ?_⟩) hH ?_
      rotate_left
      · (intro W hSw; go_simp; try with_reducible rfl)
      refine wpAnyH_take (i := 2) (v := ?_) rfl (by kernel_rfl) (by kernel_rfl) (by kernel_rfl) (fun _ _ _ h => h) (Or.inl ⟨by kernel_rfl, ?_⟩) hH ?_
      rotate_left
      · (intro W hSw; go_simp; try with_reducible rfl)
      try simp only [Act.put, List.getElem_toArray, List.getElem_cons_zero, List.getElem_cons_succ, List.setIfInBounds_toArray, List.set_cons_zero, List.set_cons_succ]
      refine wpAnyH_take (i := 3) (v := undef) rfl (by kernel_rfl) (by kernel_rfl) (by kernel_rfl) (fun _ _ _ h => h) (Or.inr ⟨by kernel_rfl, rfl⟩) hH ?_
      refine wpAnyH_take (i := 4) (v := undef) rfl (by kernel_rfl) (by kernel_rfl) (by kernel_rfl) (fun _ _ _ h => h) (Or.inr ⟨by kernel_rfl, rfl⟩) hH ?_
      refine wpAnyH_take (i := 5) (v := undef) rfl (by kernel_rfl) (by kernel_rfl) (by kernel_rfl) (fun _ _ _ h => h) (Or.inr ⟨by kernel_rfl, rfl⟩) hH ?_
      try simp only [Act.put, List.getElem_toArray, List.getElem_cons_zero, List.getElem_cons_succ, List.setIfInBounds_toArray, List.set_cons_zero, List.set_cons_succ]
      refine wpAnyH_take (i := 6) (v := undef) rfl (by kernel_rfl) (by kernel_rfl) (by kernel_rfl) (fun _ _ _ h => h) (Or.inr ⟨by kernel_rfl, rfl⟩) hH ?_
      refine wpAnyH_take (i := 7) (v := undef) rfl (by kernel_rfl) (by kernel_rfl) (by kernel_rfl) (fun _ _ _ h => h) (Or.inr ⟨by kernel_rfl, rfl⟩) hH ?_
      refine wpAnyH_take (i := 8) (v := undef) rfl (by kernel_rfl) (by kernel_rfl) (by kernel_rfl) (fun _ _ _ h => h) (Or.inr ⟨by kernel_rfl, rfl⟩) hH ?_
      try simp only [Act.put, List.getElem_toArray, List.getElem_cons_zero, List.getElem_cons_succ, List.setIfInBounds_toArray, List.set_cons_zero, List.set_cons_succ]
      refine wpAnyH_take (i := 9) (v := undef) rfl (by kernel_rfl) (by kernel_rfl) (by kernel_rfl) (fun _ _ _ h => h) (Or.inr ⟨by kernel_rfl, rfl⟩) hH ?_
      refine wpAnyH_take (i := 10) (v := undef) rfl (by kernel_rfl) (by kernel_rfl) (by kernel_rfl) (fun _ _ _ h => h) (Or.inr ⟨by kernel_rfl, rfl⟩) hH ?_
      refine wpAnyH_take (i := 11) (v := undef) rfl (by kernel_rfl) (by kernel_rfl) (by kernel_rfl) (fun _ _ _ h => h) (Or.inr ⟨by kernel_rfl, rfl⟩) hH ?_
      try simp only [Act.put, List.getElem_toArray, List.getElem_cons_zero, List.getElem_cons_succ, List.setIfInBounds_toArray, List.set_cons_zero, List.set_cons_succ]
      refine wpAnyH_take (i := 12) (v := undef) rfl (by kernel_rfl) (by kernel_rfl) (by kernel_rfl) (fun _ _ _ h => h) (Or.inr ⟨by kernel_rfl, rfl⟩) hH ?_
      refine wpAnyH_take (i := 13) (v := undef) rfl (by kernel_rfl) (by kernel_rfl) (by kernel_rfl) (fun _ _ _ h => h) (Or.inr ⟨by kernel_rfl, rfl⟩) hH ?_
      refine wpAnyH_take (i := 14) (v := ?_) rfl (by kernel_rfl) (by kernel_rfl) (by kernel_rfl) (fun _ _ _ h => h) (Or.inl ⟨by kernel_rfl, ?_⟩) hH ?_
      rotate_left
      · (intro W hSw; go_simp; try with_reducible rfl)
      try simp only [Act.put, List.getElem_toArray, List.getElem_cons_zero, List.getElem_cons_succ, List.setIfInBounds_toArray, List.set_cons_zero, List.set_cons_succ]
      refine wpAnyH_take (i := 15) (v := ?_) rfl (by kernel_rfl) (by kernel_rfl) (by kernel_rfl) (fun _ _ _ h => h) (Or.inl ⟨by kernel_rfl, ?_⟩) hH ?_
      rotate_left
      · (intro W hSw; go_simp; try with_reducible rfl)
      try simp only [Act.put, List.getElem_toArray, List.getElem_cons_zero, List.getElem_cons_succ, List.setIfInBounds_toArray, List.set_cons_zero, List.set_cons_succ]
      refine wpAnyH_ready (rs := [16]) (by kernel_rfl) (by simp) ?_
      refine AllReadyH.cons rfl (fun K hK => ?_) ?_
      · go_simp
        go_wp2_with (refine (known15 _).mono ?_; rintro e w8 ⟨rfl, f8⟩)
        refine hK.out _ _ ?_ (fun hH => ?_)
        · exact trivial
        clear hK K
        refine wpAnyH_take (i := 17) (v := ?_) rfl (by kernel_rfl) (by kernel_rfl) (by kernel_rfl) (fun _ _ _ h => h) (Or.inl ⟨by kernel_rfl, ?_⟩) hH ?_
        rotate_left
        · (intro W hSw; go_simp; try with_reducible rfl)
        refine wpAnyH_take (i := 18) (v := ?_) rfl (by kernel_rfl) (by kernel_rfl) (by kernel_rfl) (fun _ _ _ h => h) (Or.inl ⟨by kernel_rfl, ?_⟩) hH ?_
        rotate_left
        · (intro W hSw; go_simp; try with_reducible rfl)
        refine wpAnyH_done (by kernel_rfl) ?_ _
        go_wp2_with fail
        go_ret
        exact ⟨rfl, HF7.out.drew.tr f8⟩
      exact AllReadyH.nil
    · have hk16 : sN < 16 := by
        have := Hdob.out
        simp at this
        omega
      go_wp2_with fail
      refine (Hpe.out).mono ?_
      rintro e w' ⟨rfl, rfl⟩
      go_wp2_with fail
      refine (Hpgc.out).mono ?_
      rintro e w6 ⟨rfl, hI6, f6⟩
      have c3' := f6.cell c3 (by have h := hB5; obtain ⟨F, h1, _⟩ := h; exact h1.b.lt) (fun e => e)
      go_wp2_with fail
      refine (Hda.out w6 f6).mono ?_
      rintro e w7 ⟨g7, cp7, rfl, hI7, hc7, _, f7⟩
      have fr7 := (Hfa.out.tr hf5).tr (f6.tr f7)
      have hsl := fun W => run_sect2 g7 cp7 sN hk16 hc7 W
      have hI8 := sub_ints hI7 (o := sN * 64) (k := 64) (by omega) (by omega)
      have hI9 := hI6.fr f7 (Nat.le_refl _) (fun _ _ e => e)
      have hsame : lst (fun j => d' (sN * 64 + j)) 64 = lst (fun k => m'.mem (qN * 32 / 64 * 64 + k)) 64 := lst_congr (fun k hk => Hpg.out (by trivial) k hk)
      rw [hsame] at hI8
      generalize lst (fun k => m'.mem (qN * 32 / 64 * 64 + k)) 64 = ll at *
      have Hst : Hid (∀ W B A c, IntsAt .u8 W B A 64 ll → (convert 24 9 (.slice A 64 c)).run Try.prog W = .ok (.string (str ll)) W) := fun W B A c h => str_of_ints h
      generalize str ll = q at *
      have hw1 : IntKind.u32.wrap (64 * (sN : Int)) = 64 * (sN : Int) := IntWalk.u32_in _ (by omega)
      have hw2 : IntKind.u32.wrap (64 * (sN : Int) + 64) = 64 * (sN : Int) + 64 := IntWalk.u32_in _ (by omega)
      have hlw6 := f7.size
      generalize hb6 : w6.heap.size = b6 at *
      go_upto_region 15 with (fail)
      have HF7 := Lib.hid fr7
      have H89 : IntsAt .u8 w7.drew w7.heap.size (some ⟨g7, sN * 64, none⟩) 64 ll ∧ IntsAt .u8 w7.drew b6 (some ⟨wc.heap.size, 0, none⟩) 64 ll ∧ b6 ≤ w7.heap.size := ⟨hI8, hI9, hlw6⟩
      clear c0 c1 c2 c3 c4 c5 c6 c7 c3' fr7 hf5 f6 f7 hB5 hI6 hI7 hI8 hI9 hsame
      generalize hg5 : wc.heap.size = g5 at *
      clear hg5 hb6
      refine wp_region_held_drew (S := fun W => IntsAt .u8 W w7.heap.size (some ⟨g7, sN * 64, none⟩) 64 ll ∧ IntsAt .u8 W b6 (some ⟨g5, 0, none⟩) 64 ll ∧ b6 ≤ w7.heap.size) (by kernel_rfl) (H89) (fun hH => ?_)
      refine wpAnyH_take (i := 0) (v := ?_) rfl (by kernel_rfl) (by kernel_rfl) (by kernel_rfl) (fun _ _ _ h => h) (Or.inl ⟨by kernel_rfl, ?_⟩) hH ?_
      rotate_left
      · (intro W hSw; have k1 := Hst.out W _ _ (cp7 - sN * 64) hSw.1; have k2 := Hst.out W _ _ 64 hSw.2.1; have k3 := hsl W; go_simp; try with_reducible rfl)
      refine wpAnyH_take (i := 1) (v := ?_) rfl (by kernel_rfl) (by kernel_rfl) (by kernel_rfl) (fun _ _ _ h => h) (Or.inl ⟨by kernel_rfl, ?_⟩) hH ?_
      rotate_left
      · (intro W hSw; have k1 := Hst.out W _ _ (cp7 - sN * 64) hSw.1; have k2 := Hst.out W _ _ 64 hSw.2.1; have k3 := hsl W; go_simp; try with_reducible rfl)
      refine wpAnyH_take (i := 2) (v := ?_) rfl (by kernel_rfl) (by kernel_rfl) (by kernel_rfl) (fun _ _ _ h => h) (Or.inl ⟨by kernel_rfl, ?_⟩) hH ?_
      rotate_left
      · (intro W hSw; have k1 := Hst.out W _ _ (cp7 - sN * 64) hSw.1; have k2 := Hst.out W _ _ 64 hSw.2.1; have k3 := hsl W; go_simp; try with_reducible rfl)
      try simp only [Act.put, List.getElem_toArray, List.getElem_cons_zero, List.getElem_cons_succ, List.setIfInBounds_toArray, List.set_cons_zero, List.set_cons_succ]
      refine wpAnyH_take (i := 3) (v := ?_) rfl (by kernel_rfl) (by kernel_rfl) (by kernel_rfl) (fun _ _ _ h => h) (Or.inl ⟨by kernel_rfl, ?_⟩) hH ?_
      rotate_left
      · (intro W hSw; have k1 := Hst.out W _ _ (cp7 - sN * 64) hSw.1; have k2 := Hst.out W _ _ 64 hSw.2.1; have k3 := hsl W; go_simp; try with_reducible rfl)
      refine wpAnyH_take (i := 4) (v := ?_) rfl (by kernel_rfl) (by kernel_rfl) (by kernel_rfl) (fun _ _ _ h => h) (Or.inl ⟨by kernel_rfl, ?_⟩) hH ?_
      rotate_left
      · (intro W hSw; have k1 := Hst.out W _ _ (cp7 - sN * 64) hSw.1; have k2 := Hst.out W _ _ 64 hSw.2.1; have k3 := hsl W; go_simp; try with_reducible rfl)
      refine wpAnyH_take (i := 5) (v := ?_) rfl (by kernel_rfl) (by kernel_rfl) (by kernel_rfl) (fun _ _ _ h => h) (Or.inl ⟨by kernel_rfl, ?_⟩) hH ?_
      rotate_left
      · (intro W hSw; have k1 := Hst.out W _ _ (cp7 - sN * 64) hSw.1; have k2 := Hst.out W _ _ 64 hSw.2.1; have k3 := hsl W; go_simp; try with_reducible rfl)
      try simp only [Act.put, List.getElem_toArray, List.getElem_cons_zero, List.getElem_cons_succ, List.setIfInBounds_toArray, List.set_cons_zero, List.set_cons_succ]
      refine wpAnyH_take (i := 6) (v := ?_) rfl (by kernel_rfl) (by kernel_rfl) (by kernel_rfl) (fun _ _ _ h => h) (Or.inl ⟨by kernel_rfl, ?_⟩) hH ?_
      rotate_left
      · (intro W hSw; have k1 := Hst.out W _ _ (cp7 - sN * 64) hSw.1; have k2 := Hst.out W _ _ 64 hSw.2.1; have k3 := hsl W; go_simp; try with_reducible rfl)
      refine wpAnyH_take (i := 7) (v := ?_) rfl (by kernel_rfl) (by kernel_rfl) (by kernel_rfl) (fun _ _ _ h => h) (Or.inl ⟨by kernel_rfl, ?_⟩) hH ?_
      rotate_left
      · (intro W hSw; have k1 := Hst.out W _ _ (cp7 - sN * 64) hSw.1; have k2 := Hst.out W _ _ 64 hSw.2.1; have k3 := hsl W; go_simp; try with_reducible rfl)
      refine wpAnyH_take (i := 8) (v := ?_) rfl (by kernel_rfl) (by kernel_rfl) (by kernel_rfl) (fun _ _ _ h => h) (Or.inl ⟨by kernel_rfl, ?_⟩) hH ?_
      rotate_left
      · (intro W hSw; have k1 := Hst.out W _ _ (cp7 - sN * 64) hSw.1; have k2 := Hst.out W _ _ 64 hSw.2.1; have k3 := hsl W; go_simp; try with_reducible rfl)
      try simp only [Act.put, List.getElem_toArray, List.getElem_cons_zero, List.getElem_cons_succ, List.setIfInBounds_toArray, List.set_cons_zero, List.set_cons_succ]
      refine wpAnyH_take (i := 9) (v := ?_) rfl (by kernel_rfl) (by kernel_rfl) (by kernel_rfl) (fun _ _ _ h => h) (Or.inl ⟨by kernel_rfl, ?_⟩) hH ?_
      rotate_left
      · (intro W hSw; have k1 := Hst.out W _ _ (cp7 - sN * 64) hSw.1; have k2 := Hst.out W _ _ 64 hSw.2.1; have k3 := hsl W; go_simp; try with_reducible rfl)
      refine wpAnyH_take (i := 10) (v := ?_) rfl (by kernel_rfl) (by kernel_rfl) (by kernel_rfl) (fun _ _ _ h => h) (Or.inl ⟨by kernel_rfl, ?_⟩) hH ?_
      rotate_left
      · (intro W hSw; have k1 := Hst.out W _ _ (cp7 - sN * 64) hSw.1; have k2 := Hst.out W _ _ 64 hSw.2.1; have k3 := hsl W; go_simp; try with_reducible rfl)
      refine wpAnyH_take (i := 11) (v := ?_) rfl (by kernel_rfl) (by kernel_rfl) (by kernel_rfl) (fun _ _ _ h => h) (Or.inl ⟨by kernel_rfl, ?_⟩) hH ?_
      rotate_left
      · (intro W hSw; have k1 := Hst.out W _ _ (cp7 - sN * 64) hSw.1; have k2 := Hst.out W _ _ 64 hSw.2.1; have k3 := hsl W; go_simp; try with_reducible rfl)
      try simp only [Act.put, List.getElem_toArray, List.getElem_cons_zero, List.getElem_cons_succ, List.setIfInBounds_toArray, List.set_cons_zero, List.set_cons_succ]
      refine wpAnyH_take (i := 12) (v := ?_) rfl (by kernel_rfl) (by kernel_rfl) (by kernel_rfl) (fun _ _ _ h => h) (Or.inl ⟨by kernel_rfl, ?_⟩) hH ?_
      rotate_left
      · (intro W hSw; have k1 := Hst.out W _ _ (cp7 - sN * 64) hSw.1; have k2 := Hst.out W _ _ 64 hSw.2.1; have k3 := hsl W; go_simp; try with_reducible rfl)
      refine wpAnyH_take (i := 13) (v := ?_) rfl (by kernel_rfl) (by kernel_rfl) (by kernel_rfl) (fun _ _ _ h => h) (Or.inl ⟨by kernel_rfl, ?_⟩) hH ?_
      rotate_left
      · (intro W hSw; have k1 := Hst.out W _ _ (cp7 - sN * 64) hSw.1; have k2 := Hst.out W _ _ 64 hSw.2.1; have k3 := hsl W; go_simp; try with_reducible rfl)
      refine wpAnyH_take (i := 14) (v := ?_) rfl (by kernel_rfl) (by kernel_rfl) (by kernel_rfl) (fun _ _ _ h => h) (Or.inl ⟨by kernel_rfl, ?_⟩) hH ?_
      rotate_left
      · (intro W hSw; have k1 := Hst.out W _ _ (cp7 - sN * 64) hSw.1; have k2 := Hst.out W _ _ 64 hSw.2.1; have k3 := hsl W; go_simp; try with_reducible rfl)
      try simp only [Act.put, List.getElem_toArray, List.getElem_cons_zero, List.getElem_cons_succ, List.setIfInBounds_toArray, List.set_cons_zero, List.set_cons_succ]
      refine wpAnyH_take (i := 15) (v := ?_) rfl (by kernel_rfl) (by kernel_rfl) (by kernel_rfl) (fun _ _ _ h => h) (Or.inl ⟨by kernel_rfl, ?_⟩) hH ?_
      rotate_left
      · (intro W hSw; have k1 := Hst.out W _ _ (cp7 - sN * 64) hSw.1; have k2 := Hst.out W _ _ 64 hSw.2.1; have k3 := hsl W; go_simp; try with_reducible rfl)
      try simp only [Act.put, List.getElem_toArray, List.getElem_cons_zero, List.getElem_cons_succ, List.setIfInBounds_toArray, List.set_cons_zero, List.set_cons_succ]
      refine wpAnyH_ready (rs := [16]) (by kernel_rfl) (by simp) ?_
      refine AllReadyH.cons rfl (fun K hK => ?_) ?_
      · go_simp
        go_wp2_with (refine (known15 _).mono ?_; rintro e w8 ⟨rfl, f8⟩)
        refine hK.out _ _ ?_ (fun hH => ?_)
        · exact ⟨hH.1.fr f8 (Nat.le_refl _) (fun _ _ e => e), hH.2.1.fr f8 hH.2.2 (fun _ _ e => e), hH.2.2⟩
        clear hK K
        refine wpAnyH_take (i := 17) (v := ?_) rfl (by kernel_rfl) (by kernel_rfl) (by kernel_rfl) (fun _ _ _ h => h) (Or.inl ⟨by kernel_rfl, ?_⟩) hH ?_
        rotate_left
        · (intro W hSw; have k1 := Hst.out W _ _ (cp7 - sN * 64) hSw.1; have k2 := Hst.out W _ _ 64 hSw.2.1; have k3 := hsl W; go_simp; try with_reducible rfl)
        refine wpAnyH_take (i := 18) (v := ?_) rfl (by kernel_rfl) (by kernel_rfl) (by kernel_rfl) (fun _ _ _ h => h) (Or.inl ⟨by kernel_rfl, ?_⟩) hH ?_
        rotate_left
        · (intro W hSw; have k1 := Hst.out W _ _ (cp7 - sN * 64) hSw.1; have k2 := Hst.out W _ _ 64 hSw.2.1; have k3 := hsl W; go_simp; try with_reducible rfl)
        refine wpAnyH_done (by kernel_rfl) ?_ _
        go_wp2_with fail
        go_ret
        exact ⟨rfl, HF7.out.drew.tr f8⟩
      exact AllReadyH.nil
end Go.Proofs.Ythiephlfhbkcbaa.busDrives
