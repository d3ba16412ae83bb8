/- DriveNumbers: the walk. -/
import Derived.Test.YtlkagggkpaihaaaDriveBoth
import Derived.Lib.SlBytesConst
namespace Go.Proofs.Ytlkagggkpaihaaa.driveNumbers
open Go.RowKit Fm Nt Rm By Dr Rf
set_option linter.unusedVariables false
set_option maxHeartbeats 8000000

/-- what is too long is no drive -/
theorem new_long (w : World) (A : Option Addr) (cap : Nat) : Calls Try.prog 12 #[.slice A 1025 cap] w fun e w' => e = .returned (.tuple #[.pointer none, .int .i64 3]) ∧ w = w' := by
  go_enter Try.func12, Try.ntmps12
  go_wp2_with fail
  go_ret2
  exact ⟨rfl, rfl⟩
/-- no memory, nothing done -/
theorem do_nil (w : World) (g : Nat) : Calls Try.prog 17 #[.pointer (some ⟨g, 0, none⟩), .pointer none, .int .u32 0, .int .u32 0, .int .u32 1] w fun e w' => e = .returned (.bool false) ∧ w = w' := by
  go_enter Try.func17, Try.ntmps17
  go_wp2_with fail
  go_ret
  exact ⟨rfl, rfl⟩
/-- a row of numbers in new memory -/
theorem lit_at {k : IntKind} {w : World} {g : Nat} {t : TypeId} {zs : List Int} {N : Nat} (hb : Blk w g t (zs.map (Value.int k)).toArray) (hl : zs.length = N) (hw : ∀ z ∈ zs, (Lit.int k z).wf = true) : IntsAt k w (g + 1) (some ⟨g, 0, none⟩) N zs := by
  subst hl
  refine intsAt_lit zs hb (fun i hi => ?_)
  rw [List.getD_eq_getElem?_getD, List.getElem?_eq_getElem hi]
  exact hw _ (List.getElem_mem hi)
/-- the same, with the run-time's mark behind it -/
theorem lit_fz {k : IntKind} {w : World} {t : TypeId} {zs : List Int} {N : Nat} {cs : Array Value} (fz : Nat × Nat) (hc : cs = (zs.map (Value.int k)).toArray) (hl : zs.length = N) (hw : ∀ z ∈ zs, (Lit.int k z).wf = true) : IntsAt k (w.alloc (.cells cs t fz)) (w.heap.size + 1) (some ⟨w.heap.size, 0, none⟩) N zs := by
  subst hl hc
  refine ⟨rfl, fun i hi => ?_, fun _ => ⟨w.heap.size, 0, rfl, by omega, fun i hi => ?_⟩⟩
  · rw [List.getD_eq_getElem?_getD, List.getElem?_eq_getElem hi]
    exact hw _ (List.getElem_mem hi)
  · have : (w.alloc (.cells (zs.map (Value.int k)).toArray t fz)).heap[w.heap.size]? = some (.cells (zs.map (Value.int k)).toArray t fz) := by
      show (w.heap.push _)[w.heap.size]? = _
      simp
    unfold World.cell?
    dsimp only
    rw [this]
    simp [hi, List.getD_eq_getElem?_getD]
def L1 : List Int := [115, 101, 99, 116, 111, 114, 32, 110, 111, 117, 103, 104, 116]
def L2 : List Int := [109, 101, 109, 111, 114, 121]
def LS : List Int := [0, 1, 15, 16, 4294967295]
def LA : List Int := [0, 1, 63, 64, 128, 192, 4294967232]
def c1 : Array Value := #[.int .u8 115, .int .u8 101, .int .u8 99, .int .u8 116, .int .u8 111, .int .u8 114, .int .u8 32, .int .u8 110, .int .u8 111, .int .u8 117, .int .u8 103, .int .u8 104, .int .u8 116]
def c2 : Array Value := #[.int .u8 109, .int .u8 101, .int .u8 109, .int .u8 111, .int .u8 114, .int .u8 121]
def cS : Array Value := #[.int .u32 0, .int .u32 1, .int .u32 15, .int .u32 16, .int .u32 4294967295]
def cA : Array Value := #[.int .u32 0, .int .u32 1, .int .u32 63, .int .u32 64, .int .u32 128, .int .u32 192, .int .u32 4294967232]
set_option maxRecDepth 100000 in
theorem walk (w : World) : Calls Try.prog 5 #[] w fun e w' => e = .returned (.bool true) ∧ Fr (fun _ => False) w w' := by
  have fa : Fr (fun _ => False) w ((w.alloc (.cells c1 5 (13, 14))).alloc (.cells c2 5 (6, 7))) := ((Fr.refl _ w).alloc _).alloc _
  have hs1 : (w.alloc (.cells c1 5 (13, 14))).heap.size = w.heap.size + 1 := by simp
  have I1 : IntsAt .u8 ((w.alloc (.cells c1 5 (13, 14))).alloc (.cells c2 5 (6, 7))) (w.heap.size + 1) (some ⟨w.heap.size, 0, none⟩) 13 L1 := by
    have := lit_fz (k := .u8) (zs := L1) (N := 13) (w := w) (t := 5) (cs := c1) (13, 14) rfl rfl (by decide)
    exact this.fr ((Fr.refl (fun _ => False) _).alloc _) (by simp) (fun _ _ e => e)
  have I2 : IntsAt .u8 ((w.alloc (.cells c1 5 (13, 14))).alloc (.cells c2 5 (6, 7))) (w.heap.size + 1 + 1) (some ⟨w.heap.size + 1, 0, none⟩) 6 L2 := by
    have := lit_fz (k := .u8) (zs := L2) (N := 6) (w := w.alloc (.cells c1 5 (13, 14))) (t := 5) (cs := c2) (6, 7) rfl rfl (by decide)
    rw [hs1] at this
    exact this
  have hs2 : ((w.alloc (.cells c1 5 (13, 14))).alloc (.cells c2 5 (6, 7))).heap.size = w.heap.size + 2 := by simp
  have hcv1 : (convert 22 22 (.slice (some ⟨w.heap.size, 0, none⟩) 13 13)).run Try.prog (w.alloc (.cells c1 5)) = .ok (.slice (some ⟨w.heap.size, 0, none⟩) 13 13) (w.alloc (.cells c1 5 (13, 14))) := Go.Lib.run_convert_bytes_const w 22 5 c1 13 13 Try.underlying22 Try.underlying5
  have hcv2 : (convert 22 22 (.slice (some ⟨w.heap.size + 1, 0, none⟩) 6 6)).run Try.prog ((w.alloc (.cells c1 5 (13, 14))).alloc (.cells c2 5)) = .ok (.slice (some ⟨w.heap.size + 1, 0, none⟩) 6 6) ((w.alloc (.cells c1 5 (13, 14))).alloc (.cells c2 5 (6, 7))) := by
    have := Go.Lib.run_convert_bytes_const (P := Try.prog) (w.alloc (.cells c1 5 (13, 14))) 22 5 c2 6 6 Try.underlying22 Try.underlying5
    rw [hs1] at this
    exact this
  have Hbo := Lib.hid (both14 _ (some ⟨w.heap.size, 0, none⟩) 13 13 L1 (I1.more (by rw [hs2]; omega)) (by omega) (some ⟨w.heap.size + 1, 0, none⟩) 6 6 3 L2 (I2.more (by rw [hs2]; omega)) (by omega) (by omega) (by omega))
  unfold c1 c2 at *
  have Hfa := Lib.hid fa
  clear I1 I2 fa
  go_enter Try.func5, Try.ntmps5
  go_wp2_with fail
  clear hcv1 hcv2
  refine (Hbo.out).mono ?_
  rintro e w1 ⟨a, gd, ge, gB, gk, gM, gb, gt, rfl, hP, hA, hge, hgd, f1⟩
  have HA := Lib.hid hA
  have Hge := Lib.hid (fun k hk => Nat.le_trans (Nat.le_add_right w.heap.size 2) (hs2 ▸ hge k hk))
  have fr1 := Hfa.out.tr f1
  have hfS := fr1.alloc (.cells cS 30)
  have IS : IntsAt .u32 (w1.alloc (.cells cS 30)) (w1.heap.size + 1) (some ⟨w1.heap.size, 0, none⟩) 5 LS := lit_at (k := .u32) (zs := LS) (N := 5) (Blk.new w1 30 cS) rfl (by decide)
  have hex : ∃ m d, DP (w1.alloc (.cells cS 30)) a gd ge gB gk gM gb gt m d := ⟨_, _, hP.fr0 ((Fr.refl _ w1).alloc _)⟩
  have Hno := Lib.hid (show ∀ k, (k = ge ∨ a.own k ∨ k = gb ∨ k = gt ∨ k = gk) → k < w1.heap.size from fun k hk => by
    rcases hk with e | e | e | e | e
    · have := hP.D.lt; omega
    · exact hP.M.lt k e
    · have := hP.B.r.lt; omega
    · have := hP.B.r.lt; omega
    · have := hP.B.c.lt; omega)
  have hsS : (w1.alloc (.cells cS 30)).heap.size = w1.heap.size + 1 := by simp
  unfold cS at *
  clear hA hge hP Hbo Hfa hs1 hs2 f1 fr1 hgd
  go_wp2_with fail
  generalize w1.alloc (.cells #[.int .u32 0, .int .u32 1, .int .u32 15, .int .u32 16, .int .u32 4294967295] 30) = wz at *
  generalize w1.heap.size = gS at *
  have HIS := Lib.hid IS
  clear IS
  go_loopw [26] (fun i wr => ∃ k : Nat, k ≤ 5 ∧ i = .int .i64 k ∧ (∃ m d, DP wr a gd ge gB gk gM gb gt m d) ∧ Fr (fun k => k = ge ∨ a.own k ∨ k = gb ∨ k = gt ∨ k = gk) wz wr) (fun i _ => 5 - (intOf i).toNat)
  case atStart => exact ⟨0, by omega, rfl, hex, Fr.refl _ _⟩
  case round =>
    clear hex
    obtain ⟨k, hk, rfl, hex, fr⟩ := hrel
    obtain ⟨wo, rfl⟩ : ∃ wo : World, wo = wr := ⟨_, rfl⟩
    have hso := fr.size
    by_cases hlt : k < 5
    · obtain ⟨b, off, e, hb, hc⟩ := (ints_own HIS.out fr (by omega) (fun _ b off e ho => by
        injection e with e
        injection e with e1 e2
        have := Hno.out b ho
        omega)).at_ hlt
      injection e with e
      injection e with e1 e2
      subst e1 e2
      rw [Nat.zero_add] at hc
      obtain ⟨s0, s1⟩ := wf_u32 (HIS.out.2.1 k hlt)
      generalize LS.getD k 0 = s at *
      have hd1 : decide ((k : Int) < 5) = true := by simp; omega
      have hd2 : decide (k < 5) = true := by simp; omega
      have IA : IntsAt .u32 (wo.alloc (.cells cA 30)) (wo.heap.size + 1) (some ⟨wo.heap.size, 0, none⟩) 7 LA := lit_at (k := .u32) (zs := LA) (N := 7) (Blk.new wo 30 cA) rfl (by decide)
      have hexA : ∃ m d, DP (wo.alloc (.cells cA 30)) a gd ge gB gk gM gb gt m d := by
        obtain ⟨m, d, hP⟩ := hex
        exact ⟨m, d, hP.fr0 ((Fr.refl _ wo).alloc _)⟩
      have frA := fr.alloc (.cells cA 30)
      have hsA : (wo.alloc (.cells cA 30)).heap.size = wo.heap.size + 1 := by simp
      unfold cA at *
      clear hex fr
      go_wp2_with fail
      generalize wo.alloc (.cells #[.int .u32 0, .int .u32 1, .int .u32 63, .int .u32 64, .int .u32 128, .int .u32 192, .int .u32 4294967232] 30) = wA at *
      generalize hgA : wo.heap.size = gA at *
      have HIA := Lib.hid IA
      have HG := Lib.hid hgA
      clear IA hgA
      go_loopw [32] (fun i wr => ∃ j : Nat, j ≤ 7 ∧ i = .int .i64 j ∧ (∃ m d, DP wr a gd ge gB gk gM gb gt m d) ∧ Fr (fun k => k = ge ∨ a.own k ∨ k = gb ∨ k = gt ∨ k = gk) wA wr) (fun i _ => 7 - (intOf i).toNat)
      case atStart => exact ⟨0, by omega, rfl, hexA, Fr.refl _ _⟩
      case round =>
        clear hexA
        obtain ⟨j, hj, rfl, hex, fr2⟩ := hrel
        obtain ⟨wp, rfl⟩ : ∃ wp : World, wp = wr := ⟨_, rfl⟩
        have hsp := fr2.size
        by_cases hlt2 : j < 7
        · obtain ⟨b, off, e, hb2, hc2⟩ := (ints_own HIA.out fr2 (by omega) (fun _ b off e ho => by
            injection e with e
            injection e with e1 e2
            have := Hno.out b ho
            omega)).at_ hlt2
          injection e with e
          injection e with e1 e2
          subst e1 e2
          rw [Nat.zero_add] at hc2
          obtain ⟨a0, a1⟩ := wf_u32 (HIA.out.2.1 j hlt2)
          generalize LA.getD j 0 = at_ at *
          have hd3 : decide ((j : Int) < 7) = true := by simp; omega
          have hd4 : decide (j < 7) = true := by simp; omega
          go_wp2_with fail
          go_loopw [8] (fun c wr => ∃ q : Nat, q ≤ 4 ∧ c = .int .u32 q ∧ (∃ m d, DP wr a gd ge gB gk gM gb gt m d) ∧ Fr (fun k => k = ge ∨ a.own k ∨ k = gb ∨ k = gt ∨ k = gk) wp wr) (fun c _ => 4 - (intOf c).toNat)
          case atStart => exact ⟨0, by omega, rfl, hex, Fr.refl _ _⟩
          case round =>
            clear hex
            obtain ⟨q, hq, rfl, ⟨m, d, hP⟩, fr3⟩ := hrel
            by_cases hlt3 : q < 4
            · go_wp2_with fail
              refine (do14_any wr a gd ge gB gk gM gb gt m d hP HA.out.dis HA.out.sep s at_ q s0 s1 a0 a1 (by omega) (by omega)).mono ?_
              rintro e w5 ⟨rfl, ⟨m5, d5, _, hP5⟩, f5⟩
              have fr5 := fr3.tr f5
              go_wp2_with fail
              go_roundw
              case rel => exact ⟨q + 1, by omega, by go_num, ⟨_, _, hP5⟩, fr5⟩
              case measure => simp [intOf]; omega
            · go_wp2_with fail
              go_roundw
              case rel => exact ⟨j + 1, by omega, by go_num, ⟨_, _, hP⟩, fr2.tr fr3⟩
              case measure => simp [intOf]; omega
        · go_wp2_with fail
          go_roundw
          case rel => exact ⟨k + 1, by omega, by go_num, hex, frA.tr fr2⟩
          case measure => simp [intOf]; omega
    · clear hex
      have frw : Fr (fun _ => False) w wo := hfS.trans fr (fun i hi e => by have := Hge.out i e; omega)
      have hm1 := fun W => run_makeU .i64 1025 (by omega) W
      have hm2 := fun W => run_makeU .i64 1024 (by omega) W
      have HFW := Lib.hid (frw.alloc (.cells (zU 1025) 5))
      have hmk1 : ∀ W, (Instr.makeSlice 22 (.int .i64 1025) (.int .i64 1025)).run Try.prog W = .ok (.slice (some ⟨W.heap.size, 0, none⟩) 1025 1025) (W.alloc (.cells (zU 1025) 5)) := hm1
      have hmk2 : ∀ W, (Instr.makeSlice 22 (.int .i64 1024) (.int .i64 1024)).run Try.prog W = .ok (.slice (some ⟨W.heap.size, 0, none⟩) 1024 1024) (W.alloc (.cells (zU 1024) 5)) := hm2
      clear hm1 hm2 fr
      go_wp2_with fail
      generalize wo.alloc (.cells (zU 1025) 5) = w5 at *
      refine (new_long w5 _ _).mono ?_
      rintro e w' ⟨rfl, rfl⟩
      have HI6 := Lib.hid (cells_ints (z := fun _ => 0) (cellsU w5 1024 rfl) (fun k _ => ⟨Int.le_refl 0, by decide⟩))
      have HF6 := Lib.hid (HFW.out.alloc (.cells (zU 1024) 5))
      have hs6 : (w5.alloc (.cells (zU 1024) 5)).heap.size = w5.heap.size + 1 := by simp
      go_wp2_with fail
      refine (Dr.new_any _ (some ⟨w5.heap.size, 0, none⟩) 1024 1024 (lst (fun _ => 0) 1024) (HI6.out.more (by rw [hs6]; omega)) (by omega)).mono ?_
      rintro e w7 ⟨gd2, ge2, rfl, _, _, _, f7⟩
      have fr7 := HF6.out.tr f7
      clear hmk1 hmk2 hs6
      go_wp2_with fail
      refine (do_nil w7 gd).mono ?_
      rintro e w' ⟨rfl, rfl⟩
      go_wp2_with fail
      refine (known14 _).mono ?_
      rintro e w9 ⟨rfl, f9⟩
      go_wp2_with fail
      go_ret
      exact ⟨rfl, fr7.tr f9⟩
end Go.Proofs.Ytlkagggkpaihaaa.driveNumbers
