/- DriveSectors: the walk. -/
import Derived.Test.YtlkagggkpaihaaaDriveLaws
import Derived.Test.YtlkagggkpaihaaaSized
import Derived.Deep.RegionWith
namespace Go.Proofs.Ytlkagggkpaihaaa.driveSectors
open Go.RowKit Fm Nt Rm By Dr
set_option linter.unusedVariables false
set_option maxHeartbeats 8000000

/-- the bytes of the page that is put to a sector -/
def pgv (zs : List Int) (k i : Nat) : Int := if i = 0 then (k : Int) + 1 else sized zs i
def PageD (W : World) (zs : List Int) (k : Nat) (e : Ending) (w' : World) : Prop := ∃ G, e = .returned (.slice (some ⟨G, 0, none⟩) 64 64) ∧ W.heap.size ≤ G ∧ Cells w' G 5 64 (fun i => .int .u8 (pgv zs k i)) ∧ Fr (fun _ => False) W w'
set_option maxRecDepth 100000 in
theorem page_any (W : World) (g0 : Nat) (A : Option Addr) (l c B : Nat) (zs : List Int) (h0 : W.cell? ⟨g0, 0, none⟩ = some (.slice A l c)) (hz : IntsAt .u8 W B A l zs) (hB : B ≤ W.heap.size) (k : Nat) (hk : k < 16) :
    Calls Try.prog 14 #[.int .u32 (k : Int), .pointer (some ⟨g0, 0, none⟩)] W (PageD W zs k) := by
  have Hs := Lib.hid (sized_any W A l c B zs hz hB 64 (by omega))
  have w1 : IntKind.u32.wrap ((k : Int) + 1) = (k : Int) + 1 := IntWalk.u32_in _ (by omega)
  have w2 : IntKind.u8.wrap ((k : Int) + 1) = (k : Int) + 1 := by rw [IntKind.wrap_u8]; omega
  go_enter Try.func14, Try.ntmps14
  go_wp2_with fail
  refine (Hs.out).mono ?_
  rintro e w3 ⟨rfl, hc, f⟩
  have cc := hc.cell 0 (by omega)
  have cz := Cells.frozen hc 0
  have HP : Hid (PageD W zs k (.returned (.slice (some ⟨W.heap.size, 0, none⟩) 64 64)) (w3.setCell ⟨W.heap.size, 0, none⟩ (.int .u8 ((k : Int) + 1)))) := Lib.hid ⟨W.heap.size, rfl, Nat.le_refl _, Cells.congr (Cells.set_ hc 0 _) (fun i hi => by
    unfold putV pgv
    split <;> rfl), f.setCell (p := ⟨W.heap.size, 0, none⟩) (.inr (Nat.le_refl _)) _⟩
  clear hc
  go_wp2_with fail
  go_ret
  exact HP.out
set_option maxRecDepth 100000 in
theorem walk (w : World) (A : Option Addr) (len cap : Nat) (zs : List Int) (hz : IntsAt .u8 w w.heap.size A len zs) (hm : len ≤ maxLen) (A2 : Option Addr) (len2 cap2 : Nat) (zs2 : List Int) (hz2 : IntsAt .u32 w w.heap.size A2 len2 zs2) (hm2 : len2 ≤ maxLen) :
    Calls Try.prog 3 #[.slice A len cap, .slice A2 len2 cap2] w fun e w' => e = .returned (.bool true) ∧ Fr (fun _ => False) w w' := by
  unfold maxLen at hm hm2
  have hmf : ∀ (fn : Fn) (first cp : Array Value) (W : World), (Instr.makeFunc fn first cp).run Try.prog W = .ok (.func fn first cp) W := fun _ _ _ _ => rfl
  have f0 := (Fr.refl (fun _ => False) w).alloc (.cells #[.slice A len cap] 22)
  have x0 := Blk.new w 22 #[.slice A len cap]
  go_enter Try.func3, Try.ntmps3
  go_wp2_with fail
  generalize w.alloc (.cells #[.slice A len cap] 22) = w0 at *
  generalize hg0 : w.heap.size = g0 at *
  have HX0 := Lib.hid (x0.cell 0)
  have hg0l := x0.lt
  clear x0
  refine (new_any w0 none 0 0 [] (intsAt_nil _ _ _ _) (by omega)).mono ?_
  rintro e w1 ⟨gd, gb, rfl, hD, hgd, hgb, f1⟩
  have fr1 := f1
  go_wp2_with fail
  refine (memory14 w1 none 0 0 2 [] (intsAt_nil _ _ _ _) (by omega) (by omega) (by omega)).mono ?_
  rintro e w2 ⟨a, rfl, hM, hba, f2⟩
  have hD2 := hD.fr f2 (fun e => e) (fun e => e)
  have fr2 := fr1.tr f2
  have Hdis := Lib.hid (show ∀ k, a.own k → k ≠ gd ∧ k ≠ gb from fun k hk => by
    have := hba k hk
    have := hD.lt
    omega)
  have Hown := Lib.hid (show ∀ k, k = gb ∨ a.own k → w0.heap.size ≤ k from fun k hk => by
    rcases hk with hk | hk
    · omega
    · have := hba k hk; have := f1.size; omega)
  have hs0 := f0.size
  have hgs := hg0
  have hn2 : (Ms.init 2 []).n = 2 := init_n 2 []
  generalize Ms.init 2 [] = m0 at *
  generalize dinit [] = d0 at *
  have HZ := Lib.hid hz
  have HZ2 := Lib.hid hz2
  have Hg0 := Lib.hid hg0
  have HF0 := Lib.hid f0
  have HI := Lib.hid (hz.fr f0 (Nat.le_of_eq hg0.symm) (fun _ _ e => e))
  have HI2 := Lib.hid (hz2.fr f0 (Nat.le_of_eq hg0.symm) (fun _ _ e => e))
  clear hz hz2 hg0 hba hD f0 f1 f2 fr1 HZ HZ2
  go_wp2_with fail
  clear hmf
  go_loopw [9] (fun i wr => ∃ k : Nat, k ≤ 16 ∧ i = .int .u32 k ∧ (∃ d m, Drv wr gd gb d ∧ Mem wr a m ∧ m.n = 2 ∧ ∀ s, s < k → ∀ i, i < 64 → d (s * 64 + i) = pgv zs s i) ∧ Fr (fun _ => False) w0 wr) (fun i _ => 16 - (intOf i).toNat)
  case atStart => exact ⟨0, by omega, rfl, ⟨_, _, hD2, hM, hn2, fun s hs => absurd hs (by omega)⟩, fr2⟩
  case round =>
    clear hD2 hM hn2 fr2
    obtain ⟨k, hk, rfl, ⟨d, m, hD, hM, hn, hd⟩, fr⟩ := hrel
    obtain ⟨wo, rfl⟩ : ∃ wo : World, wo = wr := ⟨_, rfl⟩
    by_cases hlt : k < 16
    · have Hpg := Lib.hid (page_any wo g0 A len cap g0 zs (fr.cell HX0.out hg0l (fun e => e)) (HI.out.fr fr (by omega) (fun _ _ e => e)) (by have := fr.size; omega) k hlt)
      have Hd := Lib.hid hd
      have hown := hM.lt
      have hbd : ∀ i, i < 64 → 0 ≤ pgv zs k i ∧ pgv zs k i < 256 := fun i hi => by
        unfold pgv
        split
        · omega
        · exact sized_bd HI.out i
      have Hbd := Lib.hid hbd
      clear hd hbd
      go_wp2_with fail
      refine (Hpg.out).mono ?_
      rintro e w3 ⟨G, rfl, hG, hc3, f3⟩
      have hM3 := hM.fr0 f3
      have hD3 := hD.fr f3 (fun e => e) (fun e => e)
      have fr3 := fr.tr f3
      have hI3 := cells_ints hc3 Hbd.out
      have hpp := putPage_any w3 a m hM3 0 (some ⟨G, 0, none⟩) 64 64 (G + 1) (lst (pgv zs k) 64) hI3 hc3.lt (fun _ b off e ho => by
        injection e with e
        injection e with e1 e2
        have := hown b ho
        omega) (by simp [maxLen])
      have hpg : pgB m 0 64 = true := by simp [pgB, hn]
      have epp : m.putP 0 (lst (pgv zs k) 64) = m.puts 0 (lst (pgv zs k) 64) 64 := by rw [Ms.putP, lst_len, if_pos hpg]; rfl
      rw [hpg, epp] at hpp
      have Hpp := Lib.hid hpp
      have hn4 : (m.puts 0 (lst (pgv zs k) 64) 64).n = 2 := (puts_n _ _ _ _).trans hn
      have hmv : ∀ i, i < 64 → (m.puts 0 (lst (pgv zs k) 64) 64).mem i = pgv zs k i := fun i hi => by
        rw [puts_mem, if_pos (by omega), lst_at _ (by omega), Nat.sub_zero]
      have Hn4 := Lib.hid hn4
      have Hmv := Lib.hid hmv
      clear hpp hpg epp hn4 hmv hI3 hc3 hM hD hn hM3
      generalize m.puts 0 (lst (pgv zs k) 64) 64 = m4 at *
      go_wp2_with fail
      refine (Hpp.out).mono ?_
      rintro e w4 ⟨rfl, hM4, f4⟩
      have hD4 := hD3.fr f4 (fun e => (Hdis.out _ e).1 rfl) (fun e => (Hdis.out _ e).2 rfl)
      have fr4 := fr3.trans (S := fun _ => False) f4 (fun i hi e => by have := Hown.out i (.inr e); omega)
      have hdo := do_any w4 gd gb d a m4 hD4 hM4 Hdis.out (k : Int) 0 2 (by omega) (by omega) (by omega) (by omega) (by omega) (by omega)
      have hb : doB m4 k 0 2 = true := by simp [doB, Hn4.out]; omega
      have eM : doM d m4 k 0 2 = m4 := by rw [doM, if_neg (by omega)]
      have eD : ∀ i, doD d m4 k 0 2 i = if k * 64 ≤ i ∧ i < k * 64 + 64 then m4.mem (0 + (i - k * 64)) else d i := fun i => by
        rw [doD, if_pos ⟨hb, rfl⟩]; rfl
      rw [hb, eM] at hdo
      have Hd2 : Hid (∀ s, s < k + 1 → ∀ i, i < 64 → doD d m4 k 0 2 (s * 64 + i) = pgv zs s i) := Lib.hid (fun s hs i hi => by
        rw [eD]
        by_cases e : s = k
        · subst e
          rw [if_pos (by omega), Nat.zero_add, show s * 64 + i - s * 64 = i by omega]
          exact Hmv.out i hi
        · rw [if_neg (by omega)]
          exact Hd.out s (by omega) i hi)
      have Hdo := Lib.hid hdo
      clear hdo hb eM eD hD3 hD4 hM4
      generalize doD d m4 k 0 2 = d5 at *
      go_wp2_with fail
      refine (Hdo.out).mono ?_
      rintro e w5 ⟨rfl, hD5, hM5, f5⟩
      have fr5 := fr4.trans (S := fun _ => False) f5 (fun i hi e => by have := Hown.out i e; omega)
      go_wp2_with fail
      go_roundw
      case rel => exact ⟨k + 1, by omega, by go_num, ⟨_, _, hD5, hM5, Hn4.out, Hd2.out⟩, fr5⟩
      case measure => simp [intOf]; omega
    · have ek : k = 16 := by omega
      rw [ek] at hd
      have Hd := Lib.hid hd
      have hex : ∃ m, Mem wo a m ∧ m.n = 2 := ⟨m, hM, hn⟩
      clear hd hM hn ek
      go_wp2_with fail
      go_loopw [10] (fun i wr => ∃ j : Nat, j ≤ len2 ∧ i = .int .i64 j ∧ (∃ m, Mem wr a m ∧ m.n = 2) ∧ Drv wr gd gb d ∧ Fr (fun _ => False) w0 wr) (fun i _ => len2 - (intOf i).toNat)
      case atStart => exact ⟨0, by omega, rfl, hex, hD, fr⟩
      case round =>
        clear hex hD fr
        obtain ⟨j, hj, rfl, ⟨m, hM, hn⟩, hD, fr⟩ := hrel
        by_cases hlt2 : j < len2 ∧ j < 30
        · obtain ⟨h1, h2⟩ := hlt2
          have h30 : decide ((j : Int) < 30) = true := by simp; omega
          have hjl : decide (j < len2) = true := by simp; omega
          obtain ⟨b, off, rfl, hb, hc⟩ := (HI2.out.fr fr (by omega) (fun _ _ e => e)).at_ h1
          have hzb := wf_u32 (HI2.out.2.1 j h1)
          generalize zs2.getD j 0 = z at *
          obtain ⟨q, hq⟩ : ∃ q : Nat, z % 16 = q := ⟨(z % 16).toNat, by omega⟩
          have q16 : q < 16 := by omega
          have HQ := Lib.hid hq
          have hdo := do_any wr gd gb d a m hD hM Hdis.out (q : Int) 64 1 (by omega) (by omega) (by omega) (by omega) (by omega) (by omega)
          have hb1 : doB m q 64 1 = true := by simp [doB, hn]; omega
          have eD : doD d m q 64 1 = d := by rw [doD, if_neg (by omega)]
          have eM : doM d m q 64 1 = m.puts 64 (sect d q) 64 := by rw [doM, if_pos ⟨hb1, rfl⟩]; rfl
          rw [hb1, eD, eM] at hdo
          have Hdo := Lib.hid hdo
          have hn4 : (m.puts 64 (sect d q) 64).n = 2 := (puts_n _ _ _ _).trans hn
          have hmv : ∀ i, i < 64 → (m.puts 64 (sect d q) 64).mem (1 * 64 + i) = pgv zs q i := fun i hi => by
            rw [puts_mem, if_pos (by omega), sect, lst_at _ (by omega), show 1 * 64 + i - 64 = i by omega]
            exact Hd.out q q16 i hi
          have Hn4 := Lib.hid hn4
          have Hmv := Lib.hid hmv
          clear hdo hb1 eD eM hn4 hmv hM hD hn hq
          generalize m.puts 64 (sect d q) 64 = m4 at *
          go_wp2_with fail
          rw [HQ.out]
          refine (Hdo.out).mono ?_
          rintro e w5 ⟨rfl, hD5, hM5, f5⟩
          have fr5 := fr.trans (S := fun _ => False) f5 (fun i hi e => by have := Hown.out i e; omega)
          have hpg := page_in w5 a m4 hM5 1 (by omega) (by rw [Hn4.out]; omega)
          rw [show (1 : Int).toNat = 1 from rfl] at hpg
          have Hpg := Lib.hid hpg
          clear hpg
          go_wp2_with fail
          refine (Hpg.out).mono ?_
          rintro e w6 ⟨rfl, hc6, f6⟩
          have hbd : ∀ i, i < 64 → 0 ≤ pgv zs q i ∧ pgv zs q i < 256 := fun i hi => by
            unfold pgv
            split
            · omega
            · exact sized_bd HI.out i
          have Hbd := Lib.hid hbd
          have hc6 : Cells w6 w5.heap.size 5 64 (fun i => .int .u8 (pgv zs q i)) := Cells.congr hc6 (fun i hi => by rw [Hmv.out i hi])
          have HM6 := Lib.hid (hM5.fr0 f6).drew
          have HD6 := Lib.hid (hD5.fr f6 (fun e => e) (fun e => e))
          have fr6 := (fr5.tr f6).drew
          have HC6 := Lib.hid (cells_ints hc6 Hbd.out)
          have hl6 : w5.heap.size + 1 ≤ w6.heap.size := hc6.lt
          have Hpa := Lib.hid (page_any w6.drew g0 A len cap g0 zs (fr6.cell HX0.out hg0l (fun e => e)) (HI.out.fr fr6 (by omega) (fun _ _ e => e)) (by have := fr6.size; omega) q q16)
          have HS := Lib.hid (fun W G (h : Cells W G 5 64 (fun i => .int .u8 (pgv zs q i))) => str_of_ints (c := 64) (cells_ints h Hbd.out))
          have HV := Lib.hid (fun W (f : Fr (fun _ => False) w6 W) => str_of_ints (c := 64) (HC6.out.fr f hl6 (fun _ _ e => e)))
          have HFR := Lib.hid fr6
          clear hc6 hD5 hM5 hbd fr fr5 fr6 f6 f5 hc hb
          generalize str (lst (pgv zs q) 64) = sq at *
          have qw0 := HV.out w6.drew (Fr.refl _ w6).drew
          go_upto_region 18 with (fail)
          go_cut [10, 82] (fun i v wx => i = .int .i64 j ∧ v = .bool false ∧ (∃ m, Mem wx a m ∧ m.n = 2) ∧ Drv wx gd gb d ∧ Fr (fun _ => False) w0 wx)
          case first => as_aux_lemma =>
            refine wp_region_any (by kernel_rfl) ?_
            try (change wpAny _ _ _ _ _ _ _ (World.drew _))
            refine wpAny_take (i := 0) (v := ?_) rfl (by kernel_rfl) (by kernel_rfl) (by kernel_rfl) (fun _ _ _ h => h) (Or.inl ⟨by kernel_rfl, ?_⟩) ?_
            rotate_left
            · (intro w; go_simp; try with_reducible rfl)
            refine wpAny_take (i := 1) (v := ?_) rfl (by kernel_rfl) (by kernel_rfl) (by kernel_rfl) (fun _ _ _ h => h) (Or.inl ⟨by kernel_rfl, ?_⟩) ?_
            rotate_left
            · (intro w; go_simp; try with_reducible rfl)
            refine wpAny_take (i := 2) (v := ?_) rfl (by kernel_rfl) (by kernel_rfl) (by kernel_rfl) (fun _ _ _ h => h) (Or.inl ⟨by kernel_rfl, ?_⟩) ?_
            rotate_left
            · (intro w; go_simp; try with_reducible rfl)
            refine wpAny_take (i := 3) (v := ?_) rfl (by kernel_rfl) (by kernel_rfl) (by kernel_rfl) (fun _ _ _ h => h) (Or.inl ⟨by kernel_rfl, ?_⟩) ?_
            rotate_left
            · (intro w; go_simp; try with_reducible rfl)
            simp only [Act.put, List.getElem_toArray, List.getElem_cons_zero, List.getElem_cons_succ, List.setIfInBounds_toArray, List.set_cons_zero, List.set_cons_succ]
            refine wpAny_take (i := 5) (v := ?_) rfl (by kernel_rfl) (by kernel_rfl) (by kernel_rfl) (fun _ _ _ h => h) (Or.inl ⟨by kernel_rfl, ?_⟩) ?_
            rotate_left
            · (intro w; go_simp; try with_reducible rfl)
            refine wpAny_take (i := 6) (v := ?_) rfl (by kernel_rfl) (by kernel_rfl) (by kernel_rfl) (fun _ _ _ h => h) (Or.inl ⟨by kernel_rfl, ?_⟩) ?_
            rotate_left
            · (intro w; go_simp; try with_reducible rfl)
            simp only [Act.put, List.getElem_toArray, List.getElem_cons_zero, List.getElem_cons_succ, List.setIfInBounds_toArray, List.set_cons_zero, List.set_cons_succ]
            refine wpAny_ready (rs := [4, 7]) (by kernel_rfl) (by simp) ?_
            refine AllReady.cons rfl (fun K hK => ?_) ?_
            · go_simp
              refine hK _ _ ?_
              clear hK K
              refine wpAny_ready (rs := [7]) (by kernel_rfl) (by simp) ?_
              refine AllReady.cons rfl (fun K hK => ?_) ?_
              · go_simp
                go_wp2_with (refine (Hpa.out).mono ?_; rintro e w8 ⟨G, rfl, hG, hc8, f8⟩; have q8 := HS.out w8 G hc8; have qw8 := HV.out w8 ((Fr.refl _ w6).drew.tr f8); have HX := Lib.hid (And.intro (HM6.out.fr0 f8) (And.intro (HD6.out.fr ((Fr.refl _ w6).drew.tr f8) (fun e => e) (fun e => e)) (HFR.out.tr f8))); clear hc8 f8)
                refine wpAny_ready (rs := [8]) (by kernel_rfl) (by simp) ?_
                refine AllReady.cons rfl (fun K hK => ?_) ?_
                · go_simp
                  refine hK _ _ ?_
                  clear hK K
                  refine wpAny_take (i := 9) (v := ?_) rfl (by kernel_rfl) (by kernel_rfl) (by kernel_rfl) (fun _ _ _ h => h) (Or.inl ⟨by kernel_rfl, ?_⟩) ?_
                  rotate_left
                  · (intro w; go_simp; try with_reducible rfl)
                  refine wpAny_take (i := 10) (v := ?_) rfl (by kernel_rfl) (by kernel_rfl) (by kernel_rfl) (fun _ _ _ h => h) (Or.inl ⟨by kernel_rfl, ?_⟩) ?_
                  rotate_left
                  · (intro w; go_simp; try with_reducible rfl)
                  refine wpAny_done (by kernel_rfl) ?_ _
                  go_wp2_with fail
                  go_meet
                  exact ⟨rfl, rfl, ⟨_, HX.out.1, Hn4.out⟩, HX.out.2.1, HX.out.2.2⟩
                exact AllReady.nil
              exact AllReady.nil
            refine AllReady.cons rfl (fun K hK => ?_) ?_
            · go_simp
              go_wp2_with (refine (Hpa.out).mono ?_; rintro e w8 ⟨G, rfl, hG, hc8, f8⟩; have q8 := HS.out w8 G hc8; have qw8 := HV.out w8 ((Fr.refl _ w6).drew.tr f8); have HX := Lib.hid (And.intro (HM6.out.fr0 f8) (And.intro (HD6.out.fr ((Fr.refl _ w6).drew.tr f8) (fun e => e) (fun e => e)) (HFR.out.tr f8))); clear hc8 f8)
              refine wpAny_ready (rs := [4, 8]) (by kernel_rfl) (by simp) ?_
              refine AllReady.cons rfl (fun K hK => ?_) ?_
              · go_simp
                refine hK _ _ ?_
                clear hK K
                refine wpAny_ready (rs := [8]) (by kernel_rfl) (by simp) ?_
                refine AllReady.cons rfl (fun K hK => ?_) ?_
                · go_simp
                  refine hK _ _ ?_
                  clear hK K
                  refine wpAny_take (i := 9) (v := ?_) rfl (by kernel_rfl) (by kernel_rfl) (by kernel_rfl) (fun _ _ _ h => h) (Or.inl ⟨by kernel_rfl, ?_⟩) ?_
                  rotate_left
                  · (intro w; go_simp; try with_reducible rfl)
                  refine wpAny_take (i := 10) (v := ?_) rfl (by kernel_rfl) (by kernel_rfl) (by kernel_rfl) (fun _ _ _ h => h) (Or.inl ⟨by kernel_rfl, ?_⟩) ?_
                  rotate_left
                  · (intro w; go_simp; try with_reducible rfl)
                  refine wpAny_done (by kernel_rfl) ?_ _
                  go_wp2_with fail
                  go_meet
                  exact ⟨rfl, rfl, ⟨_, HX.out.1, Hn4.out⟩, HX.out.2.1, HX.out.2.2⟩
                exact AllReady.nil
              refine AllReady.cons rfl (fun K hK => ?_) ?_
              · go_simp
                refine hK _ _ ?_
                clear hK K
                refine wpAny_ready (rs := [4]) (by kernel_rfl) (by simp) ?_
                refine AllReady.cons rfl (fun K hK => ?_) ?_
                · go_simp
                  refine hK _ _ ?_
                  clear hK K
                  refine wpAny_take (i := 9) (v := ?_) rfl (by kernel_rfl) (by kernel_rfl) (by kernel_rfl) (fun _ _ _ h => h) (Or.inl ⟨by kernel_rfl, ?_⟩) ?_
                  rotate_left
                  · (intro w; go_simp; try with_reducible rfl)
                  refine wpAny_take (i := 10) (v := ?_) rfl (by kernel_rfl) (by kernel_rfl) (by kernel_rfl) (fun _ _ _ h => h) (Or.inl ⟨by kernel_rfl, ?_⟩) ?_
                  rotate_left
                  · (intro w; go_simp; try with_reducible rfl)
                  refine wpAny_done (by kernel_rfl) ?_ _
                  go_wp2_with fail
                  go_meet
                  exact ⟨rfl, rfl, ⟨_, HX.out.1, Hn4.out⟩, HX.out.2.1, HX.out.2.2⟩
                exact AllReady.nil
              exact AllReady.nil
            exact AllReady.nil
          case rest => as_aux_lemma =>
            obtain ⟨rfl, rfl, hex, hD7, fr7⟩ := hcut
            go_wp2_with fail
            go_roundw
            case rel => exact ⟨j + 1, by omega, by go_num, hex, hD7, fr7⟩
            case measure => simp [intOf]; omega
        · go_wp2_with fail
          all_goals
            refine (known14 _).mono ?_
            rintro e w9 ⟨rfl, f9⟩
            go_wp2_with fail
            go_ret
            exact ⟨rfl, (HF0.out.tr fr).tr f9⟩
end Go.Proofs.Ytlkagggkpaihaaa.driveSectors
