/- WalkNumbers: the walk. -/
import Derived.Test.YtijhbhhcaicdfaaWalkSame
namespace Go.Proofs.Ytijhbhhcaicdfaa.walkNumbers
open Go.RowKit Fm Nt Rm By Rf Wk
set_option linter.unusedVariables false
set_option maxHeartbeats 4000000

theorem lit_at {k : IntKind} {w : World} {g : Nat} {t : TypeId} {zs : List Int} {N : Nat} (hb : Blk w g t (zs.map (Value.int k)).toArray) (hl : zs.length = N) (hw : ∀ z ∈ zs, (Lit.int k z).wf = true) : IntsAt k w (g + 1) (some ⟨g, 0, none⟩) N zs := by
  subst hl
  refine intsAt_lit zs hb (fun i hi => ?_)
  rw [List.getD_eq_getElem?_getD, List.getElem?_eq_getElem hi]
  exact hw _ (List.getElem_mem hi)
def LV : List Int := [0, 63, 64, 65, 128, 1024, 2048, 16383, 16384, 4294967295]
def cV : Array Value := #[.int .u32 0, .int .u32 63, .int .u32 64, .int .u32 65, .int .u32 128, .int .u32 1024, .int .u32 2048, .int .u32 16383, .int .u32 16384, .int .u32 4294967295]
def cP (c o : Int) : Array Value := #[.int .i64 0, .int .i64 1, .int .u32 257, .int .i64 1, .int .i64 9, .int .u32 257, .int .i64 16, .int .i64 2, .int .u32 c, .int .i64 17, .int .i64 9, .int .u32 o]
def LP (c o : Int) (i : Nat) : Pt := if i = 0 then ⟨0, 1, 257⟩ else if i = 1 then ⟨1, 9, 257⟩ else if i = 2 then ⟨16, 2, c⟩ else ⟨17, 9, o⟩
theorem ptsP (w : World) (c o : Int) (c0 : 0 ≤ c) (c1 : c ≤ 4294967295) (o0 : 0 ≤ o) (o1 : o ≤ 4294967295) : PtsAt (w.alloc (.cells (cP c o) 48)) (w.alloc (.cells (cP c o) 48)).heap.size (some ⟨w.heap.size, 0, none⟩) 4 (LP c o) := fun i hi => by
  have hb := Blk.new w 48 (cP c o)
  refine ⟨w.heap.size, 0, rfl, hb.lt, ?_⟩
  rcases (by omega : i = 0 ∨ i = 1 ∨ i = 2 ∨ i = 3) with rfl | rfl | rfl | rfl
  · exact ⟨⟨hb.cell 0, hb.cell 1, hb.cell 2⟩, (show (Lit.int .i64 0).wf = true by decide), (show (Lit.int .i64 1).wf = true by decide), (show (Lit.int .u32 257).wf = true by decide)⟩
  · exact ⟨⟨hb.cell 3, hb.cell 4, hb.cell 5⟩, (show (Lit.int .i64 1).wf = true by decide), (show (Lit.int .i64 9).wf = true by decide), (show (Lit.int .u32 257).wf = true by decide)⟩
  · exact ⟨⟨hb.cell 6, hb.cell 7, hb.cell 8⟩, (show (Lit.int .i64 16).wf = true by decide), (show (Lit.int .i64 2).wf = true by decide), wf_u32_mk c0 c1⟩
  · exact ⟨⟨hb.cell 9, hb.cell 10, hb.cell 11⟩, (show (Lit.int .i64 17).wf = true by decide), (show (Lit.int .i64 9).wf = true by decide), wf_u32_mk o0 o1⟩
set_option maxRecDepth 100000 in
theorem walk (w : World) : Calls Try.prog 4 #[] w fun e w' => e = .returned (.bool true) ∧ Fr (fun _ => False) w w' := by
  go_enter Try.func4, Try.ntmps4
  go_wp2_with fail
  go_loopw [1] (fun i wr => ∃ q : Nat, q ≤ 6 ∧ i = .int .i64 ((q : Int) - 1) ∧ Fr (fun _ => False) w wr) (fun i _ => (6 - (intOf i + 1)).toNat)
  case atStart => exact ⟨0, by omega, rfl, Fr.refl _ _⟩
  case round =>
    obtain ⟨q, hq, rfl, fr⟩ := hrel
    obtain ⟨wo, rfl⟩ : ∃ wo : World, wo = wr := ⟨_, rfl⟩
    by_cases hlt : q < 6
    · have hd1 : decide ((q : Int) - 1 < 5) = true := by simp; omega
      go_upto_region 4 with (fail)
      go_cut [1, 41] (fun i v wx => i = .int .i64 ((q : Int) - 1) ∧ v = .bool false ∧ wo = wx)
      case first => as_aux_lemma =>
        have Hf1 := Lib.hid (fault_any wo ((q : Int) - 1))
        have Hf2 := Lib.hid (rfault_any wo ((q : Int) - 1))
        generalize flt ((q : Int) - 1) = fk at *
        by_cases hr : q = 2 ∨ q = 3 ∨ q = 4
        · have Hb1 := Lib.hid (fun s => bits_any wo ((q : Int) - 1) s (by omega))
          have Hb2 := Lib.hid (fun s => rbits_any wo ((q : Int) - 1) s (by omega))
          have t1 : decide ((1 : Int) ≤ (q : Int) - 1) = true := by simp; omega
          have t2 : decide ((q : Int) - 1 ≤ 3) = true := by simp; omega
          go_wp2_with fail
          refine (Hf1.out).mono ?_
          rintro e w' ⟨rfl, rfl⟩
          go_wp2_with fail
          refine (Hf2.out).mono ?_
          rintro e w' ⟨rfl, rfl⟩
          go_wp2_with fail
          refine (Hb1.out true).mono ?_
          rintro e w' ⟨rfl, rfl⟩
          go_wp2_with fail
          refine (Hb2.out true).mono ?_
          rintro e w' ⟨rfl, rfl⟩
          go_wp2_with fail
          refine (Hb1.out false).mono ?_
          rintro e w' ⟨rfl, rfl⟩
          go_wp2_with fail
          refine (Hb2.out false).mono ?_
          rintro e w' ⟨rfl, rfl⟩
          go_wp2_with fail
          go_meet
          exact ⟨rfl, by first | rfl | simp, rfl⟩
        · by_cases hlo : (1 : Int) ≤ (q : Int) - 1
          · have t1 : decide ((1 : Int) ≤ (q : Int) - 1) = true := by simp; omega
            have t2 : decide ((q : Int) - 1 ≤ 3) = false := by simp; omega
            go_wp2_with fail
            refine (Hf1.out).mono ?_
            rintro e w' ⟨rfl, rfl⟩
            go_wp2_with fail
            refine (Hf2.out).mono ?_
            rintro e w' ⟨rfl, rfl⟩
            go_wp2_with fail
            go_meet
            exact ⟨rfl, by first | rfl | simp, rfl⟩
          · have t1 : decide ((1 : Int) ≤ (q : Int) - 1) = false := by simp; omega
            go_wp2_with fail
            refine (Hf1.out).mono ?_
            rintro e w' ⟨rfl, rfl⟩
            go_wp2_with fail
            refine (Hf2.out).mono ?_
            rintro e w' ⟨rfl, rfl⟩
            go_wp2_with fail
            go_meet
            exact ⟨rfl, by first | rfl | simp, rfl⟩
      case rest =>
        obtain ⟨rfl, rfl, rfl⟩ := hcut
        go_wp2_with fail
        go_loopw [2] (fun i wr => ∃ c : Nat, c ≤ 130 ∧ i = .int .u32 c ∧ Fr (fun _ => False) w wr) (fun i _ => 131 - (intOf i).toNat)
        case atStart => exact ⟨0, by omega, rfl, fr⟩
        case round =>
          clear fr
          obtain ⟨c, hc, rfl, fr⟩ := hrel
          obtain ⟨wp, rfl⟩ : ∃ wp : World, wp = wr := ⟨_, rfl⟩
          by_cases hlt2 : c < 128
          · have hd3 : decide ((c : Int) < 128) = true := by simp; omega
            have hob := or_bd 256 (c : Int) (by omega) (by omega) (by omega) (by omega)
            obtain ⟨o, ho⟩ : ∃ o, bits .or .u32 256 (c : Int) = o := ⟨_, rfl⟩
            rw [ho] at hob
            have Ht := Lib.hid (tables_any _ (some ⟨wp.heap.size, 0, none⟩) 4 4 (LP c o) (ptsP wp c o (by omega) (by omega) hob.1 hob.2) (by simp [maxLen]))
            have frP := fr.alloc (.cells (cP c o) 48)
            have hsp0 := fr.size
            unfold cP at *
            go_upto_region 9 with (fail)
            refine wp_region_lit ?_
            refine wpList_plain rfl fun K hK => ?_
            go_simp
            refine hK _ _ ?_
            clear hK K
            refine wpList_plain rfl fun K hK => ?_
            go_simp
            refine hK _ _ ?_
            clear hK K
            refine wpList_plain rfl fun K hK => ?_
            go_simp
            refine hK _ _ ?_
            clear hK K
            refine wpList_plain rfl fun K hK => ?_
            go_simp
            refine hK _ _ ?_
            clear hK K
            refine wpList_plain rfl fun K hK => ?_
            go_simp
            refine hK _ _ ?_
            clear hK K
            refine wpList_plain rfl fun K hK => ?_
            go_simp
            refine hK _ _ ?_
            clear hK K
            refine wpList_plain rfl fun K hK => ?_
            go_simp
            refine hK _ _ ?_
            clear hK K
            refine wpList_plain rfl fun K hK => ?_
            go_simp
            refine hK _ _ ?_
            clear hK K
            refine wpList_plain rfl fun K hK => ?_
            go_simp
            generalize wp.alloc (.cells #[.int .i64 0, .int .i64 1, .int .u32 257, .int .i64 1, .int .i64 9, .int .u32 257, .int .i64 16, .int .i64 2, .int .u32 (c : Int), .int .i64 17, .int .i64 9, .int .u32 o] 48) = w1 at *
            refine (Ht.out).mono ?_
            rintro e w2 ⟨rfl, hc2, f2⟩
            refine hK _ _ ?_
            clear hK K
            have hlt9 := hc2.lt
            obtain ⟨zz, hI2⟩ : ∃ zz, IntsAt .u8 w2 (w1.heap.size + 1) (some ⟨w1.heap.size, 0, none⟩) 512 zz := ⟨_, cells_ints hc2 (fun i hi => tabZ_bd _ _ _)⟩
            have Hbo := Lib.hid (both8 w2 _ 512 512 8 _ zz hI2 hlt9 (by omega) (by omega) (by omega))
            have fr2 := frP.tr f2
            have hs2 := fr2.size
            clear hc2 hI2 frP f2 Ht hlt9
            refine wpList_plain rfl fun K hK => ?_
            go_simp
            refine (Hbo.out).mono ?_
            rintro e w3 ⟨a, gM, gb, gt, rfl, hM, hR3, hsp, hge, f3⟩
            refine hK _ _ ?_
            clear hK K
            have hn8 : (Ms.init 8 zz).n = 8 := init_n _ _
            have hP3 : WP w3 a gM gb gt (Ms.init 8 zz) := ⟨hM, by rw [hn8]; exact hR3, fun _ _ _ => rfl⟩
            have Hsp := Lib.hid hsp
            have Hnew := Lib.hid (show ∀ i, i < w.heap.size → ¬ (i = gb ∨ i = gt ∨ a.own i) from fun i hi e => by
              rcases e with e | e | e
              · have := hge i (.inr (.inl e)); omega
              · have := hge i (.inr (.inr (.inl e))); omega
              · have := hge i (.inr (.inr (.inr e))); omega)
            have Hno := Lib.hid (show ∀ i, (i = gb ∨ i = gt ∨ a.own i) → i < w3.heap.size from fun i e => by
              rcases e with e | e | e
              · have := hR3.lt; omega
              · have := hR3.lt; omega
              · exact hM.lt i e)
            have fr3 := fr2.tr f3
            have IV : IntsAt .u32 (w3.alloc (.cells cV 31)) (w3.heap.size + 1) (some ⟨w3.heap.size, 0, none⟩) 10 LV := lit_at (k := .u32) (zs := LV) (N := 10) (Blk.new w3 31 cV) rfl (by decide)
            have hexV : ∃ m, WP (w3.alloc (.cells cV 31)) a gM gb gt m := ⟨_, hP3.M.alloc _, hP3.R.fr0 ((Fr.refl _ w3).alloc _), hP3.tu⟩
            have frV := fr3.alloc (.cells cV 31)
            have hsV : (w3.alloc (.cells cV 31)).heap.size = w3.heap.size + 1 := by simp
            unfold cV at *
            clear hM hR3 hsp hge f3 Hbo hn8 hP3 fr2 fr3
            go_wp2_with fail
            generalize w3.alloc (.cells #[.int .u32 0, .int .u32 63, .int .u32 64, .int .u32 65, .int .u32 128, .int .u32 1024, .int .u32 2048, .int .u32 16383, .int .u32 16384, .int .u32 4294967295] 31) = wz at *
            generalize w3.heap.size = gS at *
            have HIV := Lib.hid IV
            clear IV
            go_loopw [63] (fun i wr => ∃ j : Nat, j ≤ 10 ∧ i = .int .i64 j ∧ (∃ m, WP wr a gM gb gt m) ∧ Fr (fun q => q = gb ∨ q = gt ∨ a.own q) wz wr) (fun i _ => 10 - (intOf i).toNat)
            case atStart => exact ⟨0, by omega, rfl, hexV, Fr.refl _ _⟩
            case round =>
              clear hexV
              obtain ⟨j, hj, rfl, ⟨m, hP⟩, fx⟩ := hrel
              by_cases hlt3 : j < 10
              · obtain ⟨b, off, e, hb2, hc2⟩ := (ints_own HIV.out fx (by omega) (fun _ b off e ho => by
                  injection e with e
                  injection e with e1 e2
                  have := Hno.out b ho
                  omega)).at_ hlt3
                injection e with e
                injection e with e1 e2
                subst e1 e2
                rw [Nat.zero_add] at hc2
                obtain ⟨v0, v1⟩ := wf_u32 (HIV.out.2.1 j hlt3)
                generalize LV.getD j 0 = va at *
                go_wp2_with fail
                refine (same_any wr a gM gb gt m hP Hsp.out 0 va ((q : Int) - 1) _ (by omega) (by omega) v0 v1).mono ?_
                rintro e w5 ⟨rfl, ⟨m5, _, hP5⟩, f5⟩
                go_wp2_with fail
                refine (same_any w5 a gM gb gt m5 hP5 Hsp.out 63 va ((q : Int) - 1) _ (by omega) (by omega) v0 v1).mono ?_
                rintro e w6 ⟨rfl, ⟨m6, _, hP6⟩, f6⟩
                have fx6 := (fx.tr f5).tr f6
                go_wp2_with fail
                go_roundw
                case rel => exact ⟨j + 1, by omega, by go_num, ⟨m6, hP6⟩, fx6⟩
                case measure => simp [intOf]; omega
              · have fr9 := frV.trans (S := fun _ => False) fx (fun i hi e => Hnew.out i hi e)
                go_wp2_with fail
                go_roundw
                case rel => exact ⟨c + 3, by omega, by go_num, fr9⟩
                case measure => simp [intOf]; omega
          · go_wp2_with fail
            go_roundw
            case rel => exact ⟨q + 1, by omega, by congr 1; omega, fr⟩
            case measure => simp [intOf]; omega
    · have Hbo := Lib.hid (both8 wo none 0 0 1 0 [] (intsAt_nil _ _ _ _) (by omega) (by omega) (by omega) (by omega))
      go_wp2_with fail
      refine (Hbo.out).mono ?_
      rintro e w3 ⟨a, gM, gb, gt, rfl, hM, hR3, hsp, hge, f3⟩
      have hn1 : (Ms.init 1 []).n = 1 := init_n _ _
      have hs0 := fr.size
      have hP3 : WP w3 a gM gb gt (Ms.init 1 []) := ⟨hM, by rw [hn1]; exact hR3, fun _ _ _ => rfl⟩
      have Hnew := Lib.hid (show ∀ i, i < w.heap.size → ¬ (i = gb ∨ i = gt ∨ a.own i) from fun i hi e => by
        rcases e with e | e | e
        · have := hge i (.inr (.inl e)); omega
        · have := hge i (.inr (.inr (.inl e))); omega
        · have := hge i (.inr (.inr (.inr e))); omega)
      have Hno := Lib.hid (show ∀ i, (i = gb ∨ i = gt ∨ a.own i) → i < w3.heap.size from fun i e => by
        rcases e with e | e | e
        · have := hR3.lt; omega
        · have := hR3.lt; omega
        · exact hM.lt i e)
      have fr3 := fr.tr f3
      have hdn := do_nil w3 0 7 2 true
      unfold entry0 at hdn
      have Hdn := Lib.hid hdn
      clear hM hR3 hge f3 Hbo hn1 hdn fr
      go_wp2_with fail
      refine (Hdn.out).mono ?_
      rintro e w4 ⟨rfl, f4⟩
      obtain ⟨cE, cT, fx⟩ := two w4 #[.bool false, .int .u32 0, .int .u32 0, .int .u32 0] #[.int .i64 10, .int .u32 7]
      have hs4 := f4.size
      have hP5 : WP ((w4.alloc (.cells #[.bool false, .int .u32 0, .int .u32 0, .int .u32 0] 53)).alloc (.cells #[.int .i64 10, .int .u32 7] 55)) a gM gb gt (Ms.init 1 []) := ⟨hP3.M.fr0 (f4.tr fx), hP3.R.fr0 (f4.tr fx), hP3.tu⟩
      have fr5 := (fr3.tr f4).tr fx
      clear fx
      go_wp2_with fail
      generalize (w4.alloc (.cells #[.bool false, .int .u32 0, .int .u32 0, .int .u32 0] 53)).alloc (.cells #[.int .i64 10, .int .u32 7] 55) = w5 at *
      generalize w4.heap.size = g at *
      have hnt : ¬ (g + 1 = gb ∨ g + 1 = gt ∨ a.own (g + 1)) := fun e => by have := Hno.out _ e; omega
      refine (same_any w5 a gM gb gt _ hP5 hsp 64 0 2 true (by omega) (by omega) (by omega) (by omega)).mono ?_
      rintro e w6 ⟨rfl, ⟨m6, _, hP6⟩, f6⟩
      have fr6 := fr5.trans (S := fun _ => False) f6 (fun i hi e => Hnew.out i hi e)
      go_wp2_with fail
      refine (same_any w6 a gM gb gt m6 hP6 hsp 4294967232 65535 1 false (by omega) (by omega) (by omega) (by omega)).mono ?_
      rintro e w7 ⟨rfl, ⟨m7, _, hP7⟩, f7⟩
      have fr7 := fr6.trans (S := fun _ => False) f7 (fun i hi e => Hnew.out i hi e)
      have dT := (cT.fr f6 hnt).fr f7 hnt
      have d0 := dT.cell 0
      have d1 := dT.cell 1
      simp only [List.getElem?_toArray, List.getElem?_cons_succ, List.getElem?_cons_zero] at d0 d1
      go_wp2_with fail
      refine (known8 _).mono ?_
      rintro e w9 ⟨rfl, f9⟩
      go_wp2_with fail
      go_ret
      exact ⟨rfl, fr7.tr f9⟩
end Go.Proofs.Ytijhbhhcaicdfaa.walkNumbers
