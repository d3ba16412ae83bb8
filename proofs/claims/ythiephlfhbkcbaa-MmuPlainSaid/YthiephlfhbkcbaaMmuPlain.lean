/- MmuPlain: the walk. -/
import Derived.Test.YthiephlfhbkcbaaMmuOpen
namespace Go.Proofs.Ythiephlfhbkcbaa.mmuPlain
open Go.RowKit Fm Nt Rm By Wk Rf Mu
set_option linter.unusedVariables false
set_option linter.unusedSimpArgs false
set_option maxHeartbeats 4000000

theorem memory_any (w : World) (A : Au) (u : Us) (h : Un w A u) : Calls Try.prog 26 #[.pointer (some ⟨A.gU, 0, none⟩)] w fun e w' => e = .returned (.pointer (some ⟨A.am.gm, 0, none⟩)) ∧ w = w' := by
  have c0 := h.c0
  go_enter Try.func26, Try.ntmps26
  go_wp2_with fail
  go_ret
  exact ⟨rfl, rfl⟩
theorem buffer_any (w : World) (A : Au) (u : Us) (h : Un w A u) : Calls Try.prog 34 #[.pointer (some ⟨A.gU, 0, none⟩)] w fun e w' => e = .returned (.pointer (some ⟨A.gB, 0, none⟩)) ∧ w = w' := by
  have c0 := h.c1
  go_enter Try.func34, Try.ntmps34
  go_wp2_with fail
  go_ret
  exact ⟨rfl, rfl⟩
theorem Ow.weak {w0 w : World} {K K' : Nat → Prop} {A : Au} {u : Us} (h : Ow w0 w K A u) (hk : ∀ k, K' k → K k) : Ow w0 w K' A u := ⟨h.U, fun k e => ⟨(h.lo k e).1, fun e2 => (h.lo k e).2 (hk k e2)⟩, h.f, fun k e => h.kl k (hk k e)⟩
/-- a plain load: its bytes -/
theorem load_bytes {w : World} {A : Au} {u : Us} (h : Un w A u) (va : Int) (n : Nat) (n4 : n ≤ 4) (v0 : 0 ≤ va) : 0 ≤ join u.m (rng va n) ∧ join u.m (rng va n) ≤ 4294967295 ∧ ∀ j, j < n → join u.m (rng va n) / 256 ^ j % 256 = memV u.m (va + (j : Int)) := by
  have hp : ∀ p ∈ rng va n, 0 ≤ p := fun p hp => by
    unfold rng at hp
    obtain ⟨j, hj, rfl⟩ := List.mem_map.1 hp
    omega
  have hb := join_bd h.M (rng va n) hp
  rw [rng_len] at hb
  refine ⟨hb.1, ?_, fun j hj => ?_⟩
  · obtain ⟨_, h2⟩ := hb
    rcases (by omega : n = 0 ∨ n = 1 ∨ n = 2 ∨ n = 3 ∨ n = 4) with rfl | rfl | rfl | rfl | rfl <;> simp at h2 <;> omega
  · have := join_byte h.M (rng va n) hp j (by rw [rng_len]; exact hj)
    rw [rng_at va hj] at this
    exact this
set_option maxRecDepth 100000 in
theorem walk (w : World) (A1 : Option Addr) (len1 cap1 : Nat) (hA : AsksAt w w.heap.size A1 len1) (hm1 : len1 ≤ maxLen) (A2 : Option Addr) (len2 cap2 : Nat) (hc2 : len2 ≤ cap2) (zs : List Int) (hz : IntsAt .u8 w w.heap.size A2 len2 zs) (hm2 : len2 ≤ maxLen) :
    Calls Try.prog 8 #[.slice A1 len1 cap1, .slice A2 len2 cap2] w fun e w' => e = .returned (.bool true) ∧ Fr (fun _ => False) w w' := by
  unfold maxLen at hm1 hm2
  have HA := Lib.hid hA
  have Hb : Hid (∃ (n : Nat) (ys : List Int), n = min len2 512 ∧ IntsAt .u8 w w.heap.size A2 n ys) := Lib.hid ⟨_, _, rfl, hz.take (Nat.min_le_left _ _)⟩
  clear hA hz
  go_enter Try.func8, Try.ntmps8
  go_upto_if 21 with (fail)
  go_cut [1] (fun v wx => ∃ n1 ys, v = .slice A2 n1 cap2 ∧ n1 ≤ 512 ∧ IntsAt .u8 w w.heap.size A2 n1 ys ∧ w = wx)
  case first =>
    by_cases h5 : 512 < len2
    · have h5i : (512 : Int) ≤ (cap2 : Int) := by omega
      have he := Hb.out
      rw [Nat.min_eq_right (by omega)] at he
      have He := Lib.hid he
      clear he Hb
      go_wp2_with fail
      go_meet
      obtain ⟨n, ys, rfl, hi⟩ := He.out
      exact ⟨512, ys, rfl, Nat.le_refl _, hi, rfl⟩
    · have h5i : decide ((512 : Int) < (len2 : Int)) = false := by simp; omega
      have he := Hb.out
      rw [Nat.min_eq_left (by omega)] at he
      have He := Lib.hid he
      clear he Hb
      go_wp2_with fail
      go_meet
      obtain ⟨n, ys, rfl, hi⟩ := He.out
      exact ⟨_, ys, rfl, by omega, hi, rfl⟩
  case rest =>
    obtain ⟨n1, ys, rfl, hn1, hys, hw⟩ := hcut
    subst hw
    have Hbo := Lib.hid (both10 w A2 n1 cap2 8 w.heap.size ys hys (Nat.le_refl _) hn1 (by omega) (by omega))
    clear hys Hb
    go_wp2_with fail
    refine (Hbo.out).mono ?_
    rintro e w1 hb
    obtain ⟨A, r, rfl, hO, _⟩ := ow_both hb
    have hO : Ow w w1 (fun _ => False) A ⟨Ms.init 8 ys, noL⟩ := Ow.weak hO (fun k e => e.elim)
    have hn8 : (⟨Ms.init 8 ys, noL⟩ : Us).m.n = 8 := init_n 8 ys
    have hS : Hid (∃ u, Ow w w1 (fun _ => False) A u ∧ u.l = noL ∧ u.m.n = 8) := Lib.hid ⟨_, hO, rfl, hn8⟩
    have Hm := Lib.hid (memory_any w1 A _ hO.U)
    have Hbf := Lib.hid (buffer_any w1 A _ hO.U)
    clear hb hO hn8 Hbo
    go_wp2_with fail
    refine (Hm.out).mono ?_
    rintro e w' ⟨rfl, rfl⟩
    go_wp2_with fail
    refine (Hbf.out).mono ?_
    rintro e w' ⟨rfl, rfl⟩
    go_wp2_with fail
    refine (Hm.out).mono ?_
    rintro e w' ⟨rfl, rfl⟩
    go_wp2_with fail
    clear Hm Hbf
    go_loopw [8] (fun i wr => ∃ k : Nat, k ≤ len1 ∧ i = .int .i64 k ∧ ∃ u, Ow w wr (fun _ => False) A u ∧ u.l = noL ∧ u.m.n = 8) (fun i _ => len1 - (intOf i).toNat)
    case atStart => exact ⟨0, by omega, rfl, hS.out⟩
    case round =>
      clear hS
      obtain ⟨k, hk, rfl, u, hO, hul, hun⟩ := hrel
      obtain ⟨wo, rfl⟩ : ∃ wo : World, wo = wr := ⟨_, rfl⟩
      by_cases hlt : k < len1 ∧ k < 40
      · obtain ⟨h1, h2⟩ := hlt
        have h1i : (k : Int) < (len1 : Int) := by omega
        have h2i : (k : Int) < 40 := by omega
        obtain ⟨b, off, rfl, hbb, x, hx⟩ := AsksAt.at_ HA.out h1
        have hx := hx.fr hO.f hbb (fun e => e)
        obtain ⟨⟨x0, x1, x2, x3, x4, x5, x6⟩, p0, p1, p2, p3, p4⟩ := hx
        obtain ⟨kd, how, nn0, vv, v, pg, su⟩ := x
        dsimp only at x0 x1 x2 x3 x4 x5 x6 p0 p1 p2 p3 p4
        obtain ⟨kd0, kd1⟩ := wf_i64 p0
        obtain ⟨n00, n01⟩ := wf_i64 p2
        obtain ⟨va0, va1⟩ := wf_u32 p3
        obtain ⟨v0, v1⟩ := wf_u32 p4
        have Hw := Lib.hid (fun W => Bk.within_any W nn0 1 4 n00 n01 (by omega) (by omega) (by omega))
        obtain ⟨n, hn, n1_, n4⟩ : ∃ n : Nat, 1 + nn0 % (4 - 1 + 1) = n ∧ 1 ≤ n ∧ n ≤ 4 := ⟨(1 + nn0 % 4).toNat, by omega, by omega, by omega⟩
        rw [hn] at Hw
        have f1 : Fr (fun _ => False) wo (wo.alloc (.cells #[.int .i64 kd, .int .i64 how, .int .i64 nn0, .int .u32 vv, .int .u32 v, .bool pg, .bool su] 73)) := (Fr.refl _ _).alloc _
        have bX := Blk.new wo 73 #[.int .i64 kd, .int .i64 how, .int .i64 nn0, .int .u32 vv, .int .u32 v, .bool pg, .bool su]
        have hO2 := hO.keep (K' := fun q => q = wo.heap.size) f1 (fun q e => .inr (by subst e; simp))
        go_upto_region 11 with (fail)
        generalize hw2 : wo.alloc (.cells #[.int .i64 kd, .int .i64 how, .int .i64 nn0, .int .u32 vv, .int .u32 v, .bool pg, .bool su] 73) = w2 at *
        have X2 := bX.cell 2
        have X3 := bX.cell 3
        have X4 := bX.cell 4
        have X6 := bX.cell 6
        simp only [List.getElem?_toArray, List.getElem?_cons_succ, List.getElem?_cons_zero] at X2 X3 X4 X6
        clear x0 x1 x2 x3 x4 x5 x6 hw2 hO p0 p1 p2 p3 p4
        have hva0 : 0 ≤ vv % 600 := by omega
        have hva1 : vv % 600 < 600 := by omega
        have f2 : Fr (fun _ => False) w2 (w2.alloc (.cells #[.bool false, .bool su, .int .u32 v] 59)) := (Fr.refl _ _).alloc _
        have bS := Blk.new w2 59 #[.bool false, .bool su, .int .u32 v]
        have hO3 := hO2.keep (K' := fun q => q = wo.heap.size ∨ q = w2.heap.size) f2 (fun q e => by rcases e with e | e; exact .inl e; exact .inr (by subst e; simp))
        have bX3 := bX.fr f2 (fun e => e)
        clear hO2 bX
        go_wp2_with fail
        refine (Hw.out _).mono ?_
        rintro e w' ⟨rfl, rfl⟩
        go_upto_region 14 with (fail)
        generalize hw3 : w2.alloc (.cells #[.bool false, .bool su, .int .u32 v] 59) = w3 at *
        generalize vv % 600 = va at *
        clear hw3 X2 X3 X4 X6 Hw hn
        have X0 := bX3.cell 0
        have X4 := bX3.cell 4
        have S0 := bS.cell 0
        have S1 := bS.cell 1
        have S2 := bS.cell 2
        simp only [List.getElem?_toArray, List.getElem?_cons_succ, List.getElem?_cons_zero] at X0 X4 S0 S1 S2
        have HO3 := Lib.hid hO3
        have BX := Lib.hid bX3
        have BS := Lib.hid bS
        have HUN := Lib.hid hun
        clear hO3 bX3 bS f1 f2
        by_cases hfit : va + (n : Int) ≤ 512
        · have hfit8 : va + (n : Int) ≤ (8 : Int) * 64 := by omega
          have hfi : decide (va + (n : Int) ≤ 512) = true := by simp [hfit]
          have hst3 : ∀ (u : Us), u.m.n = 8 → storeU u ⟨false, su, v⟩ va v n = ⟨stor u.m (rng va n) v n, u.l⟩ := fun u h => storeU_plain rfl n n1_ n4 hva0 (by rw [h]; exact hfit8) (by omega)
          have hsp3 : ∀ (u : Us), u.m.n = 8 → spanR u ⟨false, su, v⟩ va n 3 = ⟨rng va n, 0, 0, u⟩ := fun u h => span_plain rfl (.inr rfl) n n1_ n4 hva0 (by rw [h]; exact hfit8) (by omega)
          have hsp2 : ∀ (u : Us), u.m.n = 8 → spanR u ⟨false, su, v⟩ va n 2 = ⟨rng va n, 0, 0, u⟩ := fun u h => span_plain rfl (.inl rfl) n n1_ n4 hva0 (by rw [h]; exact hfit8) (by omega)
          have hlv : ∀ (u : Us), u.m.n = 8 → loadV u ⟨false, su, v⟩ va n = join u.m (rng va n) := fun u h => loadV_plain rfl n n1_ n4 hva0 (by rw [h]; exact hfit8) (by omega)
          have hst8 : ∀ (u : Us), u.m.n = 8 → (⟨stor u.m (rng va n) v n, u.l⟩ : Us).m.n = 8 := fun u h => (stor_n _ _ _ _).trans h
          have HST := Lib.hid (And.intro hst3 (And.intro hsp3 hst8))
          have HLD := Lib.hid (And.intro hsp2 hlv)
          clear hst3 hsp3 hsp2 hlv hst8 hfit8
          go_upto_if 76 with (fail)
          go_cut [] (fun wx => ∃ u2, Ow w wx (fun q => q = wo.heap.size ∨ q = w2.heap.size) A u2 ∧ u2.l = noL ∧ u2.m.n = 8 ∧ Blk wx wo.heap.size 73 #[.int .i64 kd, .int .i64 how, .int .i64 nn0, .int .u32 vv, .int .u32 v, .bool pg, .bool su] ∧ Blk wx w2.heap.size 59 #[.bool false, .bool su, .int .u32 v])
          case first =>
            have hst := store_any w3 A u HO3.out.U ⟨false, su, v⟩ va v n v0 v1 hva0 (by omega) v0 v1
            rw [HST.out.1 u HUN.out, HST.out.2.1 u HUN.out] at hst
            have Hst := Lib.hid hst
            have H8 := Lib.hid (HST.out.2.2 u HUN.out)
            have hl3 : (⟨stor u.m (rng va n) v n, u.l⟩ : Us).l = noL := hul
            have HL3 := Lib.hid hl3
            clear hst hl3
            generalize (⟨stor u.m (rng va n) v n, u.l⟩ : Us) = u3 at *
            by_cases hkk : kd.tmod 2 = 0
            · have hkt : (kd.tmod 2 == 0) = true := by simp [hkk]
              clear hkk
              go_wp2_with fail
              refine (Hst.out).mono ?_
              rintro e w4 ⟨rfl, hU4, f4⟩
              have HO4 := Lib.hid (HO3.out.step hU4 f4)
              have b3 := Lib.hid (HO3.out.box BX.out (.inl rfl) f4)
              have b4 := Lib.hid (HO3.out.box BS.out (.inr rfl) f4)
              clear hU4 f4
              go_wp2_with fail
              go_meet
              exact ⟨u3, HO4.out, HL3.out, H8.out, b3.out, b4.out⟩
            · have hkt : (kd.tmod 2 == 0) = false := by simp [hkk]
              clear hkk
              go_wp2_with fail
              go_meet
              exact ⟨u, HO3.out, hul, HUN.out, BX.out, BS.out⟩
          case rest =>
            obtain ⟨u2, hO2, hu2l, hu2n, bX2, bS2⟩ := hcut
            clear S0 S1 S2 X0 X4
            have S0 := bS2.cell 0
            have S1 := bS2.cell 1
            have S2 := bS2.cell 2
            simp only [List.getElem?_toArray, List.getElem?_cons_succ, List.getElem?_cons_zero] at S0 S1 S2
            clear bX2 bS2
            have hld := load_any wc A u2 hO2.U ⟨false, su, v⟩ va n v0 v1 hva0 (by omega)
            rw [HLD.out.2 u2 hu2n, HLD.out.1 u2 hu2n] at hld
            obtain ⟨j0, j1, jb⟩ := load_bytes hO2.U va n n4 hva0
            have Hbyte := Lib.hid (fun W (f : Fr A.wr wc W) (hU : Un W A u2) (j : Nat) (hj : j < n) => byte_any W A.am u2.m hU.M (va + (j : Int)) (by omega) (by omega))
            have Hib : Hid (∀ j : Nat, j < n → inB u2.m (va + (j : Int)) 1 = true) := Lib.hid (fun j hj => by unfold inB; rw [hu2n]; simp; omega)
            have HJB := Lib.hid jb
            have Hld := Lib.hid hld
            have HO2 := Lib.hid hO2
            clear hld jb hO2
            generalize join u2.m (rng va n) = jv at *
            go_wp2_with fail
            refine (Hld.out).mono ?_
            rintro e w5 ⟨rfl, hU5, f5⟩
            dsimp only at hU5 ⊢
            have hO5 := HO2.out.step hU5 f5
            have f6 : Fr (fun _ => False) w5 (w5.alloc (.cells #[.int .i64 0, .int .u32 0] 63)) := (Fr.refl _ _).alloc _
            have bT := Blk.new w5 63 #[.int .i64 0, .int .u32 0]
            have hO6 := hO5.keep (K' := fun _ => False) f6 (fun q e => e.elim)
            go_upto_region 19 with (fail)
            generalize hw6 : w5.alloc (.cells #[.int .i64 0, .int .u32 0] 63) = w6 at *
            have T0 := bT.cell 0
            have T1 := bT.cell 1
            simp only [List.getElem?_toArray, List.getElem?_cons_succ, List.getElem?_cons_zero] at T0 T1
            have HO6 := Lib.hid hO6
            have hTl : w5.heap.size < w6.heap.size := by rw [← hw6]; simp
            have HBy := Lib.hid (fun W (f : Fr (fun _ => False) w6 W) (j : Nat) (hj : j < n) => by have := Hbyte.out W ((f5.tr f6.none).tr f.none) (hO6.fr0 f).U j hj; rw [Hib.out j hj] at this; exact this)
            have HFIN : Hid (∃ u, Ow w w6 (fun _ => False) A u ∧ u.l = noL ∧ u.m.n = 8) := Lib.hid ⟨u2, hO6, hu2l, hu2n⟩
            clear hw6 hO5 hU5 f5 f6 bT hO6 Hbyte Hib HLD HST Hld
            have hvl0 : 0 ≤ va := hva0
            have hvn : va + (n : Int) ≤ 512 := hfit
            go_wp2_with fail
            go_loopw [16] (fun i wr => ∃ j : Nat, j ≤ n ∧ i = .int .i64 j ∧ Fr (fun _ => False) w6 wr) (fun i _ => n - (intOf i).toNat)
            case atStart => exact ⟨0, Nat.zero_le _, rfl, Fr.refl _ _⟩
            case round =>
              obtain ⟨j, hj, rfl, fr⟩ := hrel
              have T0' := fr.cell T0 hTl (fun e => e)
              have T1' := fr.cell T1 hTl (fun e => e)
              clear T0 T1
              by_cases hjn : j < n
              · have hjni : (j : Int) < (n : Int) := by omega
                have hBy := HBy.out wr fr j hjn
                have hjb := HJB.out j hjn
                generalize hbt : memV u2.m (va + (j : Int)) = bt at *
                have hb0 : 0 ≤ bt := by omega
                have hb1 : bt < 256 := by omega
                have hvj : va + (j : Int) ≤ 512 := by omega
                have Hj := Lib.hid hBy
                clear hBy hbt
                rcases (by omega : j = 0 ∨ j = 1 ∨ j = 2 ∨ j = 3) with hj0 | hj0 | hj0 | hj0
                · subst hj0
                  have hjb : jv % 256 = bt := by simpa using hjb
                  have Hj := Lib.hid (show Calls Try.prog 32 #[.pointer (some ⟨A.am.gm, 0, none⟩), .int .u32 va] wr fun e w' => e = .returned (.tuple #[.int .u8 bt, .bool true]) ∧ wr = w' by simpa using Hj.out)
                  have hw8 : IntKind.u64.wrap 0 = 0 := by decide
                  go_wp2_with fail
                  refine (Hj.out).mono ?_
                  rintro e w' ⟨rfl, rfl⟩
                  go_wp2_with fail
                  go_roundw
                  case rel => exact ⟨1, by omega, by go_num, fr⟩
                  case measure => simp [intOf]; omega
                · subst hj0
                  have hjb : jv / 256 % 256 = bt := by simpa using hjb
                  have Hj := Lib.hid (show Calls Try.prog 32 #[.pointer (some ⟨A.am.gm, 0, none⟩), .int .u32 (va + 1)] wr fun e w' => e = .returned (.tuple #[.int .u8 bt, .bool true]) ∧ wr = w' from Hj.out)
                  have hw8 : IntKind.u64.wrap 8 = 8 := by decide
                  go_wp2_with fail
                  refine (Hj.out).mono ?_
                  rintro e w' ⟨rfl, rfl⟩
                  go_wp2_with fail
                  go_roundw
                  case rel => exact ⟨2, by omega, by go_num, fr⟩
                  case measure => simp [intOf]; omega
                · subst hj0
                  have hjb : jv / 65536 % 256 = bt := by simpa using hjb
                  have Hj := Lib.hid (show Calls Try.prog 32 #[.pointer (some ⟨A.am.gm, 0, none⟩), .int .u32 (va + 2)] wr fun e w' => e = .returned (.tuple #[.int .u8 bt, .bool true]) ∧ wr = w' from Hj.out)
                  have hw8 : IntKind.u64.wrap 16 = 16 := by decide
                  go_wp2_with fail
                  refine (Hj.out).mono ?_
                  rintro e w' ⟨rfl, rfl⟩
                  go_wp2_with fail
                  go_roundw
                  case rel => exact ⟨3, by omega, by go_num, fr⟩
                  case measure => simp [intOf]; omega
                · subst hj0
                  have hjb : jv / 16777216 % 256 = bt := by simpa using hjb
                  have Hj := Lib.hid (show Calls Try.prog 32 #[.pointer (some ⟨A.am.gm, 0, none⟩), .int .u32 (va + 3)] wr fun e w' => e = .returned (.tuple #[.int .u8 bt, .bool true]) ∧ wr = w' from Hj.out)
                  have hw8 : IntKind.u64.wrap 24 = 24 := by decide
                  go_wp2_with fail
                  refine (Hj.out).mono ?_
                  rintro e w' ⟨rfl, rfl⟩
                  go_wp2_with fail
                  go_roundw
                  case rel => exact ⟨4, by omega, by go_num, fr⟩
                  case measure => simp [intOf]; omega
              · have hjn' : decide ((j : Int) < (n : Int)) = false := by simp; omega
                have HE : Hid (∃ u, Ow w wr (fun _ => False) A u ∧ u.l = noL ∧ u.m.n = 8) := Lib.hid (by obtain ⟨u, h1, h2, h3⟩ := HFIN.out; exact ⟨u, h1.fr0 fr, h2, h3⟩)
                clear HFIN fr
                go_wp2_with fail
                go_roundw
                case rel => exact ⟨k + 1, by omega, by go_num, HE.out⟩
                case measure => simp [intOf]; omega
        · have hfi : decide (va + (n : Int) ≤ 512) = false := by simp; omega
          have hfit8 : ¬ va + (n : Int) ≤ (8 : Int) * 64 := by omega
          rcases (by omega : va < 512 ∨ ¬ va < 512) with hv5 | hv5
          · have hne : ((512 : Int) != va) = true := by simp; omega
            have hst3 : ∀ (u : Us), u.m.n = 8 → storeU u ⟨false, su, v⟩ va v n = u := fun u h => storeU_no rfl n n1_ n4 hva0 (by omega) (by rw [h]; exact hfit8) (by omega)
            have hsp3 : ∀ (u : Us), u.m.n = 8 → spanR u ⟨false, su, v⟩ va n 3 = ⟨[], 10, 512, u⟩ := fun u h => by
              rw [span_no rfl (.inr rfl) n n1_ n4 hva0 (by omega) (by rw [h]; exact hfit8) (by omega), h, if_pos (show va < ((8 : Nat) : Int) * 64 by omega)]; rfl
            have hsp2 : ∀ (u : Us), u.m.n = 8 → spanR u ⟨false, su, v⟩ va n 2 = ⟨[], 10, 512, u⟩ := fun u h => by
              rw [span_no rfl (.inl rfl) n n1_ n4 hva0 (by omega) (by rw [h]; exact hfit8) (by omega), h, if_pos (show va < ((8 : Nat) : Int) * 64 by omega)]; rfl
            have hlv : loadV u ⟨false, su, v⟩ va n = 0 := loadV_no rfl n n1_ n4 hva0 (by omega) (by rw [HUN.out]; exact hfit8) (by rw [HUN.out]; omega)
            have hst := store_any w3 A u HO3.out.U ⟨false, su, v⟩ va v n v0 v1 hva0 (by omega) v0 v1
            rw [hst3 u HUN.out, hsp3 u HUN.out] at hst
            have Hst := Lib.hid hst
            have HSP := Lib.hid (hsp2 u HUN.out)
            have HLV := Lib.hid hlv
            clear hst hst3 hsp3 hsp2 hlv hfit8
            go_upto_if 76 with (fail)
            go_cut [] (fun wx => Ow w wx (fun q => q = wo.heap.size ∨ q = w2.heap.size) A u ∧ Blk wx w2.heap.size 59 #[.bool false, .bool su, .int .u32 v])
            case first =>
              by_cases hkk : kd.tmod 2 = 0
              · have hkt : (kd.tmod 2 == 0) = true := by simp [hkk]
                clear hkk
                go_wp2_with fail
                refine (Hst.out).mono ?_
                rintro e w4 ⟨rfl, hU4, f4⟩
                have HO4 := Lib.hid (HO3.out.step hU4 f4)
                have b4 := Lib.hid (HO3.out.box BS.out (.inr rfl) f4)
                clear hU4 f4
                go_wp2_with fail
                go_meet
                exact ⟨HO4.out, b4.out⟩
              · have hkt : (kd.tmod 2 == 0) = false := by simp [hkk]
                clear hkk
                go_wp2_with fail
                go_meet
                exact ⟨HO3.out, BS.out⟩
            case rest =>
              obtain ⟨hO2, bS2⟩ := hcut
              clear S0 S1 S2 X0 X4 Hst
              have S0 := bS2.cell 0
              have S1 := bS2.cell 1
              have S2 := bS2.cell 2
              simp only [List.getElem?_toArray, List.getElem?_cons_succ, List.getElem?_cons_zero] at S0 S1 S2
              have hld := load_any wc A u hO2.U ⟨false, su, v⟩ va n v0 v1 hva0 (by omega)
              rw [HLV.out, HSP.out] at hld
              have Hld := Lib.hid hld
              have HO2 := Lib.hid hO2
              clear hld hO2 bS2
              go_wp2_with fail
              refine (Hld.out).mono ?_
              rintro e w5 ⟨rfl, hU5, f5⟩
              dsimp only at hU5 ⊢
              have hO5 := HO2.out.step hU5 f5
              have f6 : Fr (fun _ => False) w5 (w5.alloc (.cells #[.int .i64 10, .int .u32 512] 63)) := (Fr.refl _ _).alloc _
              have bT := Blk.new w5 63 #[.int .i64 10, .int .u32 512]
              have hO6 := hO5.keep (K' := fun _ => False) f6 (fun q e => e.elim)
              go_upto_region 19 with (fail)
              generalize hw6 : w5.alloc (.cells #[.int .i64 10, .int .u32 512] 63) = w6 at *
              have T0 := bT.cell 0
              have T1 := bT.cell 1
              simp only [List.getElem?_toArray, List.getElem?_cons_succ, List.getElem?_cons_zero] at T0 T1
              have HFIN : Hid (∃ u, Ow w w6 (fun _ => False) A u ∧ u.l = noL ∧ u.m.n = 8) := Lib.hid ⟨u, hO6, hul, HUN.out⟩
              clear hw6 hO5 hU5 f5 f6 bT hO6 Hld
              go_wp2_with fail
              go_loopw [16] (fun i wr => i = .int .i64 0 ∧ w6 = wr) (fun i _ => 0)
              case atStart => exact ⟨rfl, rfl⟩
              case round =>
                obtain ⟨rfl, rfl⟩ := hrel
                go_wp2_with fail
                go_roundw
                case rel => exact ⟨k + 1, by omega, by go_num, HFIN.out⟩
                case measure => simp [intOf]; omega
          · have hst3 : ∀ (u : Us), u.m.n = 8 → storeU u ⟨false, su, v⟩ va v n = u := fun u h => storeU_no rfl n n1_ n4 hva0 (by omega) (by rw [h]; exact hfit8) (by omega)
            have hsp3 : ∀ (u : Us), u.m.n = 8 → spanR u ⟨false, su, v⟩ va n 3 = ⟨[], 10, va, u⟩ := fun u h => by
              rw [span_no rfl (.inr rfl) n n1_ n4 hva0 (by omega) (by rw [h]; exact hfit8) (by omega), h, if_neg (show ¬ va < ((8 : Nat) : Int) * 64 by omega)]
            have hsp2 : ∀ (u : Us), u.m.n = 8 → spanR u ⟨false, su, v⟩ va n 2 = ⟨[], 10, va, u⟩ := fun u h => by
              rw [span_no rfl (.inl rfl) n n1_ n4 hva0 (by omega) (by rw [h]; exact hfit8) (by omega), h, if_neg (show ¬ va < ((8 : Nat) : Int) * 64 by omega)]
            have hlv : loadV u ⟨false, su, v⟩ va n = 0 := loadV_no rfl n n1_ n4 hva0 (by omega) (by rw [HUN.out]; exact hfit8) (by rw [HUN.out]; omega)
            have hst := store_any w3 A u HO3.out.U ⟨false, su, v⟩ va v n v0 v1 hva0 (by omega) v0 v1
            rw [hst3 u HUN.out, hsp3 u HUN.out] at hst
            have Hst := Lib.hid hst
            have HSP := Lib.hid (hsp2 u HUN.out)
            have HLV := Lib.hid hlv
            clear hst hst3 hsp3 hsp2 hlv hfit8
            go_upto_if 76 with (fail)
            go_cut [] (fun wx => Ow w wx (fun q => q = wo.heap.size ∨ q = w2.heap.size) A u ∧ Blk wx w2.heap.size 59 #[.bool false, .bool su, .int .u32 v])
            case first =>
              by_cases hkk : kd.tmod 2 = 0
              · have hkt : (kd.tmod 2 == 0) = true := by simp [hkk]
                clear hkk
                go_wp2_with fail
                refine (Hst.out).mono ?_
                rintro e w4 ⟨rfl, hU4, f4⟩
                have HO4 := Lib.hid (HO3.out.step hU4 f4)
                have b4 := Lib.hid (HO3.out.box BS.out (.inr rfl) f4)
                clear hU4 f4
                go_wp2_with fail
                go_meet
                exact ⟨HO4.out, b4.out⟩
              · have hkt : (kd.tmod 2 == 0) = false := by simp [hkk]
                clear hkk
                go_wp2_with fail
                go_meet
                exact ⟨HO3.out, BS.out⟩
            case rest =>
              obtain ⟨hO2, bS2⟩ := hcut
              clear S0 S1 S2 X0 X4 Hst
              have S0 := bS2.cell 0
              have S1 := bS2.cell 1
              have S2 := bS2.cell 2
              simp only [List.getElem?_toArray, List.getElem?_cons_succ, List.getElem?_cons_zero] at S0 S1 S2
              have hld := load_any wc A u hO2.U ⟨false, su, v⟩ va n v0 v1 hva0 (by omega)
              rw [HLV.out, HSP.out] at hld
              have Hld := Lib.hid hld
              have HO2 := Lib.hid hO2
              clear hld hO2 bS2
              go_wp2_with fail
              refine (Hld.out).mono ?_
              rintro e w5 ⟨rfl, hU5, f5⟩
              dsimp only at hU5 ⊢
              have hO5 := HO2.out.step hU5 f5
              have f6 : Fr (fun _ => False) w5 (w5.alloc (.cells #[.int .i64 10, .int .u32 va] 63)) := (Fr.refl _ _).alloc _
              have bT := Blk.new w5 63 #[.int .i64 10, .int .u32 va]
              have hO6 := hO5.keep (K' := fun _ => False) f6 (fun q e => e.elim)
              go_upto_region 19 with (fail)
              generalize hw6 : w5.alloc (.cells #[.int .i64 10, .int .u32 va] 63) = w6 at *
              have T0 := bT.cell 0
              have T1 := bT.cell 1
              simp only [List.getElem?_toArray, List.getElem?_cons_succ, List.getElem?_cons_zero] at T0 T1
              have HFIN : Hid (∃ u, Ow w w6 (fun _ => False) A u ∧ u.l = noL ∧ u.m.n = 8) := Lib.hid ⟨u, hO6, hul, HUN.out⟩
              clear hw6 hO5 hU5 f5 f6 bT hO6 Hld
              go_wp2_with fail
              go_loopw [16] (fun i wr => i = .int .i64 0 ∧ w6 = wr) (fun i _ => 0)
              case atStart => exact ⟨rfl, rfl⟩
              case round =>
                obtain ⟨rfl, rfl⟩ := hrel
                go_wp2_with fail
                go_roundw
                case rel => exact ⟨k + 1, by omega, by go_num, HFIN.out⟩
                case measure => simp [intOf]; omega
      · have hlt' : decide ((k : Int) < (len1 : Int)) = false ∨ decide ((k : Int) < (len1 : Int)) = true ∧ decide ((k : Int) < 40) = false := by
          by_cases h1 : k < len1
          · right; constructor
            · simp; omega
            · simp; omega
          · left; simp; omega
        have Hbf := Lib.hid (buffer_any wo A u hO.U)
        have Hln := Lib.hid (Tl.len_any wo A.gB u.l hO.U.B)
        rw [hul, show Tl.cnt noL 16 = 0 from rfl] at Hln
        have HOf := Lib.hid hO.f
        clear hO hlt
        rcases hlt' with h1 | ⟨h1, h2⟩
        · have h3 : ¬ k < len1 := by simp at h1; omega
          have h4 : decide (k < len1) = false := by simp; omega
          go_wp2_with fail
          refine (Hbf.out).mono ?_
          rintro e w' ⟨rfl, rfl⟩
          go_wp2_with fail
          refine (Hln.out).mono ?_
          rintro e w7 ⟨rfl, f7⟩
          go_wp2_with fail
          refine (known10 w7).mono ?_
          rintro e w8 ⟨rfl, f8⟩
          go_wp2_with fail
          go_ret
          exact ⟨rfl, (HOf.out.tr f7).tr f8⟩
        · have h1i : (k : Int) < (len1 : Int) := of_decide_eq_true h1
          have h3 : decide (k < 40) = false := by simp at h2 ⊢; omega
          clear h1
          go_wp2_with fail
          refine (Hbf.out).mono ?_
          rintro e w' ⟨rfl, rfl⟩
          go_wp2_with fail
          refine (Hln.out).mono ?_
          rintro e w7 ⟨rfl, f7⟩
          go_wp2_with fail
          refine (known10 w7).mono ?_
          rintro e w8 ⟨rfl, f8⟩
          go_wp2_with fail
          go_ret
          exact ⟨rfl, (HOf.out.tr f7).tr f8⟩
end Go.Proofs.Ythiephlfhbkcbaa.mmuPlain
