/- MmuNumbers: the walk. -/
import Derived.Test.YthiephlfhbkcbaaMmuDb
import Derived.Lib.SlBytesConst
namespace Go.Proofs.Ythiephlfhbkcbaa.mmuNumbers
open Go.RowKit Fm Nt Rm By Wk Rf Mu
set_option linter.unusedVariables false
set_option linter.unusedSimpArgs false
set_option maxHeartbeats 4000000

theorem lit_at {k : IntKind} {w : World} {g : Nat} {t : TypeId} {zs : List Int} {N : Nat} (hb : Blk w g t (zs.map (Value.int k)).toArray) (hl : zs.length = N) (hw : ∀ z ∈ zs, (Lit.int k z).wf = true) : IntsAt k w (g + 1) (some ⟨g, 0, none⟩) N zs := by
  subst hl
  refine intsAt_lit zs hb (fun i hi => ?_)
  rw [List.getD_eq_getElem?_getD, List.getElem?_eq_getElem hi]
  exact hw _ (List.getElem_mem hi)
theorem lit_fz {k : IntKind} {w : World} {t : TypeId} {zs : List Int} {N : Nat} {cs : Array Value} (fz : Nat × Nat) (hc : cs = (zs.map (Value.int k)).toArray) (hl : zs.length = N) (hw : ∀ z ∈ zs, (Lit.int k z).wf = true) : IntsAt k (w.alloc (.cells cs t fz)) (w.heap.size + 1) (some ⟨w.heap.size, 0, none⟩) N zs := by
  subst hl hc
  refine ⟨rfl, fun i hi => ?_, fun _ => ⟨w.heap.size, 0, rfl, by omega, fun i hi => ?_⟩⟩
  · rw [List.getD_eq_getElem?_getD, List.getElem?_eq_getElem hi]
    exact hw _ (List.getElem_mem hi)
  · have : (w.alloc (.cells (zs.map (Value.int k)).toArray t fz)).heap[w.heap.size]? = some (.cells (zs.map (Value.int k)).toArray t fz) := by
      show (w.heap.push _)[w.heap.size]? = _
      simp
    unfold World.cell?
    dsimp only
    rw [this]
    simp [hi, List.getD_eq_getElem?_getD]
def LV : List Int := [0, 61, 63, 64, 125, 127, 128, 131, 191, 192, 255, 16383, 16381, 32768, 33023, 33024, 4294967295, 510, 511, 512]
def cV : Array Value := #[.int .u32 0, .int .u32 61, .int .u32 63, .int .u32 64, .int .u32 125, .int .u32 127, .int .u32 128, .int .u32 131, .int .u32 191, .int .u32 192, .int .u32 255, .int .u32 16383, .int .u32 16381, .int .u32 32768, .int .u32 33023, .int .u32 33024, .int .u32 4294967295, .int .u32 510, .int .u32 511, .int .u32 512]
def LB : List Int := [115, 111, 109, 101, 32, 98, 121, 116, 101, 115, 32, 116, 104, 97, 116, 32, 115, 116, 97, 110, 100, 32, 105, 110, 32, 112, 97, 103, 101, 32, 116, 104, 114, 101, 101, 32, 97, 110, 100, 32, 111, 110]
def cB : Array Value := #[.int .u8 115, .int .u8 111, .int .u8 109, .int .u8 101, .int .u8 32, .int .u8 98, .int .u8 121, .int .u8 116, .int .u8 101, .int .u8 115, .int .u8 32, .int .u8 116, .int .u8 104, .int .u8 97, .int .u8 116, .int .u8 32, .int .u8 115, .int .u8 116, .int .u8 97, .int .u8 110, .int .u8 100, .int .u8 32, .int .u8 105, .int .u8 110, .int .u8 32, .int .u8 112, .int .u8 97, .int .u8 103, .int .u8 101, .int .u8 32, .int .u8 116, .int .u8 104, .int .u8 114, .int .u8 101, .int .u8 101, .int .u8 32, .int .u8 97, .int .u8 110, .int .u8 100, .int .u8 32, .int .u8 111, .int .u8 110]
def cP (f s : Int) : Array Value := #[.int .i64 0, .int .i64 1, .int .u32 1, .int .i64 16, .int .i64 3, .int .u32 f, .int .i64 17, .int .i64 5, .int .u32 s, .int .i64 18, .int .i64 10, .int .u32 30, .int .i64 19, .int .i64 9, .int .u32 30]
def LP (f s : Int) (i : Nat) : Pt := if i = 0 then ⟨0, 1, 1⟩ else if i = 1 then ⟨16, 3, f⟩ else if i = 2 then ⟨17, 5, s⟩ else if i = 3 then ⟨18, 10, 30⟩ else ⟨19, 9, 30⟩
theorem ptsP (w : World) (f s : Int) (c0 : 0 ≤ f) (c1 : f ≤ 4294967295) (o0 : 0 ≤ s) (o1 : s ≤ 4294967295) : PtsAt (w.alloc (.cells (cP f s) 80)) (w.alloc (.cells (cP f s) 80)).heap.size (some ⟨w.heap.size, 0, none⟩) 5 (LP f s) := fun i hi => by
  have hb := Blk.new w 80 (cP f s)
  refine ⟨w.heap.size, 0, rfl, hb.lt, ?_⟩
  rcases (by omega : i = 0 ∨ i = 1 ∨ i = 2 ∨ i = 3 ∨ i = 4) with rfl | rfl | rfl | rfl | rfl
  · exact ⟨⟨hb.cell 0, hb.cell 1, hb.cell 2⟩, (show (Lit.int .i64 0).wf = true by decide), (show (Lit.int .i64 1).wf = true by decide), (show (Lit.int .u32 1).wf = true by decide)⟩
  · exact ⟨⟨hb.cell 3, hb.cell 4, hb.cell 5⟩, (show (Lit.int .i64 16).wf = true by decide), (show (Lit.int .i64 3).wf = true by decide), wf_u32_mk c0 c1⟩
  · exact ⟨⟨hb.cell 6, hb.cell 7, hb.cell 8⟩, (show (Lit.int .i64 17).wf = true by decide), (show (Lit.int .i64 5).wf = true by decide), wf_u32_mk o0 o1⟩
  · exact ⟨⟨hb.cell 9, hb.cell 10, hb.cell 11⟩, (show (Lit.int .i64 18).wf = true by decide), (show (Lit.int .i64 10).wf = true by decide), (show (Lit.int .u32 30).wf = true by decide)⟩
  · exact ⟨⟨hb.cell 12, hb.cell 13, hb.cell 14⟩, (show (Lit.int .i64 19).wf = true by decide), (show (Lit.int .i64 9).wf = true by decide), (show (Lit.int .u32 30).wf = true by decide)⟩
set_option maxRecDepth 100000 in
theorem walk (w : World) : Calls Try.prog 10 #[] w fun e w' => e = .returned (.bool true) ∧ Fr (fun _ => False) w w' := by
  go_enter Try.func10, Try.ntmps10
  go_wp2_with fail
  go_loopw [1] (fun i wr => ∃ f : Nat, f ≤ 33 ∧ i = .int .u32 f ∧ Fr (fun _ => False) w wr) (fun i _ => 34 - (intOf i).toNat)
  case atStart => exact ⟨0, by omega, rfl, Fr.refl _ _⟩
  case round =>
    obtain ⟨f, hf, rfl, fr⟩ := hrel
    obtain ⟨wo, rfl⟩ : ∃ wo : World, wo = wr := ⟨_, rfl⟩
    by_cases hlt : f < 32
    · have hd1 : decide ((f : Int) < 32) = true := by simp; omega
      go_wp2_with fail
      go_loopw [2] (fun i wr => ∃ s : Nat, s ≤ 37 ∧ i = .int .u32 s ∧ Fr (fun _ => False) w wr) (fun i _ => 38 - (intOf i).toNat)
      case atStart => exact ⟨0, by omega, rfl, fr⟩
      case round =>
        clear fr
        obtain ⟨s, hs, rfl, fr⟩ := hrel
        obtain ⟨wp, rfl⟩ : ∃ wp : World, wp = wr := ⟨_, rfl⟩
        by_cases hlt2 : s < 32
        · have hd2 : decide ((s : Int) < 32) = true := by simp; omega
          have HP := Lib.hid (ptsP wp f s (by omega) (by omega) (by omega) (by omega))
          have F1 := Lib.hid (fr.alloc (.cells (cP f s) 80))
          have hs1 : (wp.alloc (.cells (cP f s) 80)).heap.size = wp.heap.size + 1 := by simp
          have HS1 := Lib.hid hs1
          unfold cP at *
          clear fr hs1
          go_upto_region 7 with (fail)
          refine wp_region_lit ?_
          refine wpList_plain rfl fun K hK => ?_
          go_simp
          refine hK _ _ ?_
          clear hK K
          refine wpList_plain rfl fun K hK => ?_
          go_simp
          refine hK _ _ ?_
          clear hK K
          refine wpList_plain rfl fun K hK => ?_
          go_simp
          refine hK _ _ ?_
          clear hK K
          refine wpList_plain rfl fun K hK => ?_
          go_simp
          refine hK _ _ ?_
          clear hK K
          refine wpList_plain rfl fun K hK => ?_
          go_simp
          refine hK _ _ ?_
          clear hK K
          refine wpList_plain rfl fun K hK => ?_
          go_simp
          refine hK _ _ ?_
          clear hK K
          refine wpList_plain rfl fun K hK => ?_
          go_simp
          refine hK _ _ ?_
          clear hK K
          refine wpList_plain rfl fun K hK => ?_
          go_simp
          generalize wp.alloc (.cells #[.int .i64 0, .int .i64 1, .int .u32 1, .int .i64 16, .int .i64 3, .int .u32 (f : Int), .int .i64 17, .int .i64 5, .int .u32 (s : Int), .int .i64 18, .int .i64 10, .int .u32 30, .int .i64 19, .int .i64 9, .int .u32 30] 80) = w1 at *
          refine hK _ _ ?_
          clear hK K
          have hcv : (convert 24 24 (.slice (some ⟨w1.heap.size, 0, none⟩) 42 42)).run Try.prog (w1.alloc (.cells cB 5)) = .ok (.slice (some ⟨w1.heap.size, 0, none⟩) 42 42) (w1.alloc (.cells cB 5 (42, 43))) := Go.Lib.run_convert_bytes_const w1 24 5 cB 42 42 Try.underlying24 Try.underlying5
          have IB := Lib.hid (lit_fz (k := .u8) (zs := LB) (N := 42) (w := w1) (t := 5) (cs := cB) (42, 43) rfl rfl (by decide))
          have F2 := Lib.hid (F1.out.alloc (.cells cB 5 (42, 43)))
          have Ff := Lib.hid ((Fr.refl (fun _ => False) w1).alloc (.cells cB 5 (42, 43)))
          have hs2 : (w1.alloc (.cells cB 5 (42, 43))).heap.size = w1.heap.size + 1 := by simp
          have HS2 := Lib.hid hs2
          unfold cB at *
          clear hs2
          refine wpList_plain rfl fun K hK => ?_
          go_simp
          refine hK _ _ ?_
          clear hK K
          refine wpList_plain rfl fun K hK => ?_
          go_simp
          generalize w1.alloc (.cells #[.int .u8 115, .int .u8 111, .int .u8 109, .int .u8 101, .int .u8 32, .int .u8 98, .int .u8 121, .int .u8 116, .int .u8 101, .int .u8 115, .int .u8 32, .int .u8 116, .int .u8 104, .int .u8 97, .int .u8 116, .int .u8 32, .int .u8 115, .int .u8 116, .int .u8 97, .int .u8 110, .int .u8 100, .int .u8 32, .int .u8 105, .int .u8 110, .int .u8 32, .int .u8 112, .int .u8 97, .int .u8 103, .int .u8 101, .int .u8 32, .int .u8 116, .int .u8 104, .int .u8 114, .int .u8 101, .int .u8 101, .int .u8 32, .int .u8 97, .int .u8 110, .int .u8 100, .int .u8 32, .int .u8 111, .int .u8 110] 5 (42, 43)) = w2 at *
          refine hK _ _ ?_
          clear hK K hcv
          have Ht := Lib.hid (tables10 w2 (some ⟨wp.heap.size, 0, none⟩) 5 5 (LP f s) (pts_fr HP.out Ff.out) (by simp [maxLen]) (some ⟨w1.heap.size, 0, none⟩) 42 42 LB (IB.out.more (by rw [HS2.out]; omega)))
          refine wpList_plain rfl fun K hK => ?_
          go_simp
          refine (Ht.out).mono ?_
          rintro e w3 ⟨rfl, hc3, f3⟩
          refine hK _ _ ?_
          clear hK K
          have hi3 := tabs_ints (ys := LB) (by decide) hc3
          have Hb3 := Lib.hid (both10 w3 _ 512 512 8 _ _ hi3 hc3.lt (by omega) (by omega) (by omega))
          have fr3 := F2.out.tr f3
          clear hc3 hi3 f3 Ht F2 Ff IB HP F1
          refine wpList_plain rfl fun K hK => ?_
          go_simp
          refine (Hb3.out).mono ?_
          rintro e w4 ⟨A, r, rfl, hU, hD, hsep, hbl, f4⟩
          refine hK _ _ ?_
          clear hK K
          have hs3 := fr3.size
          have HLO : Hid (∀ k, DW A r k → w.heap.size ≤ k) := Lib.hid (fun k hk => by
            have := hbl k (by rcases hk with h | h; exact .inr (.inl h); exact .inr (.inr (Dr.wr_its h)))
            omega)
          have hS : Hid (∃ u, Duo w4 A r u ∧ TuOk u.m ∧ Fr (fun _ => False) w w4) := Lib.hid ⟨_, ⟨hU, hD, hsep⟩, fun _ _ _ => rfl, fr3.tr f4⟩
          clear hU hD hsep hbl f4 Hb3 hs3 fr3
          go_wp2_with fail
          go_loopw [5] (fun i wr => ∃ kd : Nat, 1 ≤ kd ∧ kd ≤ 4 ∧ i = .int .i64 kd ∧ ∃ u, Duo wr A r u ∧ TuOk u.m ∧ Fr (fun _ => False) w wr) (fun i _ => 5 - (intOf i).toNat)
          case atStart => exact ⟨1, by omega, by omega, rfl, hS.out⟩
          case round =>
            clear hS
            obtain ⟨kd, hk1, hk4, rfl, u0, hD, htu, fr⟩ := hrel
            obtain ⟨wk, rfl⟩ : ∃ wk : World, wk = wr := ⟨_, rfl⟩
            by_cases hlt3 : kd ≤ 3
            · have hd3 : decide ((kd : Int) ≤ 3) = true := by simp; omega
              have hDl := hD.lt
              have HIV := Lib.hid (lit_at (k := .u32) (zs := LV) (N := 20) (Blk.new wk 22 cV) rfl (by decide))
              have HNO : Hid (∀ k, DW A r k → k ≠ wk.heap.size) := Lib.hid (fun k hk e => by have := hDl k hk; omega)
              have fV : Fr (fun _ => False) wk (wk.alloc (.cells cV 22)) := (Fr.refl _ wk).alloc _
              have hsV : (wk.alloc (.cells cV 22)).heap.size = wk.heap.size + 1 := by simp
              have HSV := Lib.hid hsV
              have FV := Lib.hid (fr.tr fV)
              have hS : Hid (∃ u, Duo (wk.alloc (.cells cV 22)) A r u ∧ TuOk u.m ∧ Fr (DW A r) (wk.alloc (.cells cV 22)) (wk.alloc (.cells cV 22))) := Lib.hid ⟨u0, hD.fr0 fV, htu, Fr.refl _ _⟩
              unfold cV at *
              clear hD htu fr hDl fV hsV
              go_wp2_with fail
              generalize wk.alloc (.cells #[.int .u32 0, .int .u32 61, .int .u32 63, .int .u32 64, .int .u32 125, .int .u32 127, .int .u32 128, .int .u32 131, .int .u32 191, .int .u32 192, .int .u32 255, .int .u32 16383, .int .u32 16381, .int .u32 32768, .int .u32 33023, .int .u32 33024, .int .u32 4294967295, .int .u32 510, .int .u32 511, .int .u32 512] 22) = wz at *
              generalize wk.heap.size = gS at *
              go_loopw [42] (fun i wr => ∃ j : Nat, j ≤ 20 ∧ i = .int .i64 j ∧ ∃ u, Duo wr A r u ∧ TuOk u.m ∧ Fr (DW A r) wz wr) (fun i _ => 20 - (intOf i).toNat)
              case atStart => exact ⟨0, by omega, rfl, hS.out⟩
              case round =>
                clear hS
                obtain ⟨j, hj, rfl, u1, hD, htu, fx⟩ := hrel
                obtain ⟨wj, rfl⟩ : ∃ wj : World, wj = wr := ⟨_, rfl⟩
                by_cases hlt4 : j < 20
                · obtain ⟨b, off, e, hb2, hc2⟩ := (ints_own HIV.out fx (by rw [HSV.out]; omega) (fun _ b off e ho => by
                    injection e with e
                    injection e with e1 e2
                    exact HNO.out b ho e1.symm)).at_ hlt4
                  injection e with e
                  injection e with e1 e2
                  subst e1 e2
                  rw [Nat.zero_add] at hc2
                  obtain ⟨v0, v1⟩ := wf_u32 (HIV.out.2.1 j hlt4)
                  generalize LV.getD j 0 = va at *
                  have hd4 : decide ((j : Int) < 20) = true := by simp; omega
                  have hS : Hid (∃ u, Duo wj A r u ∧ TuOk u.m ∧ Fr (DW A r) wz wj) := Lib.hid ⟨u1, hD, htu, fx⟩
                  clear hD htu fx
                  go_wp2_with fail
                  clear hc2
                  go_loopw [8] (fun i wr => ∃ n : Nat, n ≤ 7 ∧ i = .int .i64 n ∧ ∃ u, Duo wr A r u ∧ TuOk u.m ∧ Fr (DW A r) wz wr) (fun i _ => 8 - (intOf i).toNat)
                  case atStart => exact ⟨0, by omega, rfl, hS.out⟩
                  case round =>
                    clear hS
                    obtain ⟨n, hn, rfl, u2, hD, htu, fx⟩ := hrel
                    obtain ⟨wn, rfl⟩ : ∃ wn : World, wn = wr := ⟨_, rfl⟩
                    by_cases hlt5 : n < 6
                    · have hd5 : decide ((n : Int) < 6) = true := by simp; omega
                      have Hdo := Lib.hid (fun pg su => do10 wn A r u2 hD kd n n va 287454020 0 pg su (by omega) (by omega) v0 v1 (by omega) (by omega) (by omega) (by omega))
                      have HT := Lib.hid htu
                      have FX := Lib.hid fx
                      clear hD htu fx
                      have hq : va % 2 = 1 ∨ va % 2 = 0 := by omega
                      rcases hq with hq | hq
                      · have tq : (va % 2 == 1) = true := by simp [hq]
                        clear hq
                        go_wp2_with fail
                        refine (Hdo.out _ _).mono ?_
                        rintro e w5 ⟨rfl, ⟨u', hD', hT'⟩, f5⟩
                        have HX : Hid (∃ u, Duo w5 A r u ∧ TuOk u.m ∧ Fr (DW A r) wz w5) := Lib.hid ⟨u', hD', hT' HT.out, FX.out.trans f5 (fun i hi e => e)⟩
                        clear hD' hT' f5 Hdo
                        go_wp2_with fail
                        go_roundw
                        case rel => exact ⟨n + 1 + kd % 2, by omega, by go_num, HX.out⟩
                        case measure => simp [intOf]; omega
                      · have tq : (va % 2 == 1) = false := by simp [hq]
                        clear hq
                        go_wp2_with fail
                        refine (Hdo.out _ _).mono ?_
                        rintro e w5 ⟨rfl, ⟨u', hD', hT'⟩, f5⟩
                        have HX : Hid (∃ u, Duo w5 A r u ∧ TuOk u.m ∧ Fr (DW A r) wz w5) := Lib.hid ⟨u', hD', hT' HT.out, FX.out.trans f5 (fun i hi e => e)⟩
                        clear hD' hT' f5 Hdo
                        go_wp2_with fail
                        go_roundw
                        case rel => exact ⟨n + 1 + kd % 2, by omega, by go_num, HX.out⟩
                        case measure => simp [intOf]; omega
                    · have hd5 : decide ((n : Int) < 6) = false := by simp; omega
                      go_wp2_with fail
                      go_roundw
                      case rel => exact ⟨j + 1, by omega, by go_num, u2, hD, htu, fx⟩
                      case measure => simp [intOf]; omega
                · have hd4 : decide ((j : Int) < 20) = false := by simp; omega
                  have fr9 := FV.out.trans (S := fun _ => False) fx (fun i hi e => by have := HLO.out i e; omega)
                  go_wp2_with fail
                  go_roundw
                  case rel => exact ⟨kd + 1, by omega, by omega, by go_num, u1, hD, htu, fr9⟩
                  case measure => simp [intOf]; omega
            · have hd3 : decide ((kd : Int) ≤ 3) = false := by simp; omega
              have Hal := Lib.hid (alike10 wk A r u0 hD htu)
              have HF := Lib.hid fr
              clear hD htu fr
              go_wp2_with fail
              refine (Hal.out).mono ?_
              rintro e w6 ⟨rfl, f6⟩
              have fr6 := HF.out.tr f6
              go_wp2_with fail
              go_roundw
              case rel => exact ⟨s + 6, by omega, by go_num, fr6⟩
              case measure => simp [intOf]; omega
        · have hd2 : decide ((s : Int) < 32) = false := by simp; omega
          go_wp2_with fail
          go_roundw
          case rel => exact ⟨f + 2, by omega, by go_num, fr⟩
          case measure => simp [intOf]; omega
    · have hd1 : decide ((f : Int) < 32) = false := by simp; omega
      go_wp2_with fail
      refine (unew_nil wo).mono ?_
      rintro e w' ⟨rfl, rfl⟩
      go_wp2_with fail
      refine (known10 wo).mono ?_
      rintro e w5 ⟨rfl, f5⟩
      go_wp2_with fail
      go_ret
      exact ⟨rfl, fr.tr f5⟩
end Go.Proofs.Ythiephlfhbkcbaa.mmuNumbers
