/- RamWords: the walk. -/
import Derived.Test.YtcfoogbjlokegaaRamLaws
import Derived.Deep.RegionWith
namespace Go.Proofs.Ytcfoogbjlokegaa.ramWords
open Go.RowKit Fm Nt Rm By
set_option linter.unusedVariables false
set_option maxHeartbeats 4000000

theorem load_n (m : Ms) (zs : List Int) : (m.load zs).n = m.n := by
  unfold Ms.load
  split
  · exact puts_n _ _ _ _
  · rfl
theorem wrd_wby (m : Ms) (i : Nat) (v : Int) (h0 : 0 ≤ v) (h1 : v ≤ 4294967295) : wrd (m.puts i (wby v) 4) i 4 = v := by
  have hm : ∀ j, j < 4 → (m.puts i (wby v) 4).mem (i + j) = (wby v).getD j 0 := fun j hj => by
    rw [puts_mem, if_pos (by omega), show i + j - i = j by omega]
  have e : ∀ j, j < 4 → (m.puts i (wby v) 4).mem (i + j) = (wby v).getD j 0 := hm
  show ((((0 * 256 + (m.puts i (wby v) 4).mem (i + 3)) * 256 + (m.puts i (wby v) 4).mem (i + 2)) * 256 + (m.puts i (wby v) 4).mem (i + 1)) * 256 + (m.puts i (wby v) 4).mem (i + 0)) = v
  rw [e 0 (by omega), e 1 (by omega), e 2 (by omega), e 3 (by omega)]
  show (((0 * 256 + v / 16777216 % 256) * 256 + v / 65536 % 256) * 256 + v / 256 % 256) * 256 + v % 256 = v
  omega
set_option maxRecDepth 100000 in
theorem walk (w : World) (at_ : Int) (hat : (Lit.int .u32 at_).wf = true) (v : Int) (hv : (Lit.int .u32 v).wf = true) (A : Option Addr) (len cap : Nat) (hc : len ≤ cap) (zs : List Int) (hz : IntsAt .u8 w w.heap.size A len zs) (hm : len ≤ maxLen) :
    Calls Try.prog 8 #[.int .u32 at_, .int .u32 v, .slice A len cap] w fun e w' => e = .returned (.bool true) ∧ Fr (fun _ => False) w w' := by
  obtain ⟨hat0, hat1⟩ := wf_u32 hat
  obtain ⟨v0, v1⟩ := wf_u32 hv
  have hcut : ∀ W, Calls Try.prog 35 #[.slice A len cap, .int .i64 256] W fun e w' => e = .returned (.slice A (min len 256) cap) ∧ W = w' := fun W => cut_any W A len cap 256 hm hc (by omega)
  have Hcut := Lib.hid hcut
  have hz1 := hz.take (show min len 256 ≤ len from Nat.min_le_left _ _)
  have hn256 : min len 256 ≤ 256 := Nat.min_le_right _ _
  have Hfr : Hid (∀ W, Calls Try.prog 33 #[.int .i64 4] W (Fresh7 W 4)) := fun W => fresh7 W 4 (by omega) (by omega)
  clear hcut hz hm hc hat hv
  generalize zs.take (min len 256) = z1 at *
  generalize min len 256 = n1 at *
  obtain ⟨i, hi⟩ : ∃ i : Nat, at_ % 253 = i := ⟨(at_ % 253).toNat, by omega⟩
  have hi2 : i < 253 := by omega
  have Hi := Lib.hid hi
  clear hi
  go_enter Try.func8, Try.ntmps8
  go_wp2_with fail
  refine (Hfr.out _).mono ?_
  rintro e w1 ⟨a, rfl, hMa, hba, f1⟩
  go_wp2_with fail
  refine (Hfr.out _).mono ?_
  rintro e w2 ⟨b, rfl, hMb, hbb, f2⟩
  have hlta := hMa.lt
  have hMa2 := hMa.fr0 f2
  have hd : ∀ k, a.own k → ¬ b.own k := fun k h1 h2 => by
    have := hlta k h1
    have := hbb k h2
    omega
  have hd2 : ∀ k, b.own k → ¬ a.own k := fun k h1 h2 => hd k h2 h1
  have hba2 : ∀ k, a.own k → w.heap.size ≤ k := hba
  have hbb2 : ∀ k, b.own k → w.heap.size ≤ k := fun k hk => by have := hbb k hk; have := f1.size; omega
  have fr2 := f1.tr f2
  have hzw2 := hz1.fr fr2 (Nat.le_refl _) (fun _ _ e => e)
  have hA1 : 0 < n1 → ∀ b' off, A = some ⟨b', off, none⟩ → b' < w.heap.size := fun hn b' off e => IntsAt.lt_ hz1 b' off e hn
  have hld := load_any w2 a (Ms.new 4) hMa2 A n1 cap w.heap.size z1 hzw2 fr2.size (fun hn b' off e ho => by have := hA1 hn b' off e; have := hba2 b' ho; omega) (by simp only [maxLen]; omega)
  have hE : loadE (Ms.new 4) n1 = 0 := by rw [loadE, if_pos (by show n1 ≤ 4 * 64; omega)]
  rw [hE] at hld
  have Hld := Lib.hid hld
  have Ha2 := Lib.hid hba2
  have Hb2 := Lib.hid hbb2
  have Hd := Lib.hid hd
  have Hd2 := Lib.hid hd2
  have HA1 := Lib.hid hA1
  have HE := Lib.hid hE
  have hm1n : ((Ms.new 4).load z1).n = 4 := load_n _ _
  clear hld hba2 hbb2 hd hd2 hA1 hE hba hbb hlta hMa hMa2
  obtain ⟨m1, hm1⟩ : ∃ m1, (Ms.new 4).load z1 = m1 := ⟨_, rfl⟩
  rw [hm1] at Hld hm1n
  go_wp2_with fail
  refine (Hcut.out _).mono ?_
  rintro e w' ⟨rfl, rfl⟩
  go_wp2_with fail
  refine (Hld.out).mono ?_
  rintro e w3 ⟨rfl, hMa3, f3⟩
  have hMb3 := hMb.fr f3 Hd2.out
  have fr3 := fr2.trans (S := fun _ => False) f3 (fun i hi e => by have := Ha2.out i e; omega)
  have hzw3 := hz1.fr fr3 (Nat.le_refl _) (fun _ _ e => e)
  have hld := load_any w3 b (Ms.new 4) hMb3 A n1 cap w.heap.size z1 hzw3 fr3.size (fun hn b' off e ho => by have := HA1.out hn b' off e; have := Hb2.out b' ho; omega) (by simp only [maxLen]; omega)
  rw [HE.out, hm1] at hld
  have Hld2 := Lib.hid hld
  have Hn4 := Lib.hid hm1n
  clear hld hm1 hm1n
  go_wp2_with fail
  refine (Hcut.out _).mono ?_
  rintro e w' ⟨rfl, rfl⟩
  go_wp2_with fail
  refine (Hld2.out).mono ?_
  rintro e w4 ⟨rfl, hMb4, f4⟩
  have hMa4 := hMa3.fr f4 Hd.out
  have fr4 := fr3.trans (S := fun _ => False) f4 (fun i hi e => by have := Hb2.out i e; omega)
  have hpw := putWord_any w4 a m1 hMa4 (i : Int) v (by omega) (by omega) v0 v1
  have hin : inB m1 i 4 = true := by rw [inB, Hn4.out]; simp; omega
  rw [hin, Ms.putW, if_pos hin, show (i : Int).toNat = i from rfl] at hpw
  have Hpw := Lib.hid hpw
  have Hin := Lib.hid hin
  clear hpw hin hMb hMb3 hMa3 hzw2 hzw3 hMa4
  go_wp2_with fail
  rw [Hi.out]
  refine (Hpw.out).mono ?_
  rintro e w5 ⟨rfl, hMa5, f5⟩
  have hMb5 : Mem w5 b (m1.puts i (wby v) 0) := hMb4.fr f5 Hd2.out
  have fr5 := fr4.trans (S := fun _ => False) f5 (fun i hi e => by have := Ha2.out i e; omega)
  clear hMb4 fr4 fr3 fr2 f1 f2 f3 f4 f5
  go_wp2_with fail
  go_loopw [12] (fun k wr => ∃ r : Nat, r ≤ 4 ∧ k = .int .u32 r ∧ Mem wr b (m1.puts i (wby v) r) ∧ Mem wr a (m1.puts i (wby v) 4) ∧ Fr (fun _ => False) w wr) (fun k _ => 4 - (intOf k).toNat)
  case atStart => exact ⟨0, by omega, rfl, hMb5, hMa5, fr5⟩
  case round =>
    clear hMb5 hMa5 fr5
    obtain ⟨r, hr, rfl, hMb, hMa, fr⟩ := hrel
    by_cases hlt : r < 4
    · have hp := fun q q0 q1 => put_in wr b _ hMb ((i : Int) + r) q (by omega) (by rw [puts_n, Hn4.out]; omega) q0 q1
      rw [show ((i : Int) + r).toNat = i + r by omega] at hp
      have Hp := Lib.hid hp
      clear hp
      rcases (by omega : r = 0 ∨ r = 1 ∨ r = 2 ∨ r = 3) with rfl | rfl | rfl | rfl
      · have Hq : Hid (Calls Try.prog 37 #[.pointer (some ⟨b.gm, 0, none⟩), .int .u32 (i : Int), .int .u8 (v % 256)] wr fun e w' => e = .returned (.bool true) ∧ Mem w' b (m1.puts i (wby v) 1) ∧ Fr b.own wr w') := by
          have := Hp.out (v % 256) (by omega) (by omega)
          rw [show (i : Int) + ((0 : Nat) : Int) = i by omega] at this
          exact this
        go_wp2_with fail
        refine (Hq.out).mono ?_
        rintro e w6 ⟨rfl, hMb6, f6⟩
        have hMa6 := hMa.fr f6 Hd.out
        have fr6 := fr.trans (S := fun _ => False) f6 (fun i hi e => by have := Hb2.out i e; omega)
        go_wp2_with fail
        go_roundw
        case rel => exact ⟨1, by omega, rfl, hMb6, hMa6, fr6⟩
        case measure => simp [intOf]
      · have Hq := Lib.hid (Hp.out (v / 256 % 256) (by omega) (by omega))
        go_wp2_with fail
        refine (Hq.out).mono ?_
        rintro e w6 ⟨rfl, hMb6, f6⟩
        have hMa6 := hMa.fr f6 Hd.out
        have fr6 := fr.trans (S := fun _ => False) f6 (fun i hi e => by have := Hb2.out i e; omega)
        go_wp2_with fail
        go_roundw
        case rel => exact ⟨2, by omega, rfl, hMb6, hMa6, fr6⟩
        case measure => simp [intOf]
      · have Hq := Lib.hid (Hp.out (v / 65536 % 256) (by omega) (by omega))
        go_wp2_with fail
        refine (Hq.out).mono ?_
        rintro e w6 ⟨rfl, hMb6, f6⟩
        have hMa6 := hMa.fr f6 Hd.out
        have fr6 := fr.trans (S := fun _ => False) f6 (fun i hi e => by have := Hb2.out i e; omega)
        go_wp2_with fail
        go_roundw
        case rel => exact ⟨3, by omega, rfl, hMb6, hMa6, fr6⟩
        case measure => simp [intOf]
      · have Hq : Hid (Calls Try.prog 37 #[.pointer (some ⟨b.gm, 0, none⟩), .int .u32 ((i : Int) + 3), .int .u8 (v / 16777216)] wr fun e w' => e = .returned (.bool true) ∧ Mem w' b (m1.puts i (wby v) 4) ∧ Fr b.own wr w') := by
          have := Hp.out (v / 16777216 % 256) (by omega) (by omega)
          have e9 : v / 16777216 % 256 = v / 16777216 := by omega
          rw [show (m1.puts i (wby v) 4) = (m1.puts i (wby v) 3).put (i + 3) (v / 16777216 % 256) from rfl]
          rw [e9] at this ⊢
          exact this
        go_wp2_with fail
        refine (Hq.out).mono ?_
        rintro e w6 ⟨rfl, hMb6, f6⟩
        have hMa6 := hMa.fr f6 Hd.out
        have fr6 := fr.trans (S := fun _ => False) f6 (fun i hi e => by have := Hb2.out i e; omega)
        go_wp2_with fail
        go_roundw
        case rel => exact ⟨4, by omega, rfl, hMb6, hMa6, fr6⟩
        case measure => simp [intOf]
    · have e : r = 4 := by omega
      rw [e] at hMb
      have hin4 : inB (m1.puts i (wby v) 4) i 4 = true := by rw [inB, puts_n, Hn4.out]; simp; omega
      have hw := word_any wr a _ hMa (i : Int) (by omega) (by omega)
      rw [hin4, wrdV, if_pos hin4, show (i : Int).toNat = i from rfl, wrd_wby m1 i v v0 v1] at hw
      obtain ⟨xv, hx, hxv⟩ : ∃ xv : Int, xv = v ∧ (xv == v) = true := ⟨v, rfl, by simp⟩
      rw [← hx] at hw
      have HX := Lib.hid hx
      clear hx
      have Hw := Lib.hid hw
      have hbd := hMa.bd
      have hn4 : (m1.puts i (wby v) 4).n = 4 := by rw [puts_n, Hn4.out]
      clear hw hin4 e
      generalize m1.puts i (wby v) 4 = mm at *
      have HN := Lib.hid hn4
      have Hbd := Lib.hid hbd
      obtain ⟨Q, hQ⟩ : ∃ Q, str (lst mm.mem (mm.n * 64)) = Q := ⟨_, rfl⟩
      have hcv : ∀ W g, Cells W g 5 (mm.n * 64) (fun k => .int .u8 (mm.mem k)) → ∀ W', Fr (fun _ => False) W W' → (convert 57 9 (.slice (some ⟨g, 0, none⟩) (mm.n * 64) (mm.n * 64))).run Try.prog W' = .ok (.string Q) W' := fun W g h W' f => by
        rw [← hQ]
        exact str_of_ints (cells_ints (h.fr f (fun e => e)) Hbd.out)
      have HCV := Lib.hid hcv
      have hla := turnN_le mm 64
      have hwl : ∀ z ∈ turnN mm 64, (Lit.int .i64 z).wf = true := by
        intro z hz
        simp only [turnN, List.mem_map, List.mem_filter, List.mem_range] at hz
        obtain ⟨y, ⟨h1, _⟩, rfl⟩ := hz
        exact wf_i64_mk (n := Int.ofNat y) (by show -9223372036854775808 ≤ (y : Int); omega) (by show (y : Int) ≤ 9223372036854775807; omega)
      have Hwl := Lib.hid hwl
      clear hcv hQ hn4 hbd hwl
      go_wp2_with fail
      refine (Hw.out).mono ?_
      rintro e w' ⟨rfl, rfl⟩
      go_wp2_with fail
      have hHA : ∀ W x, Mem W x mm → Calls Try.prog 39 #[.pointer (some ⟨x.gm, 0, none⟩)] W fun e w' => e = .returned (.slice (some ⟨W.heap.size, 0, none⟩) (mm.n * 64) (mm.n * 64)) ∧ Cells w' W.heap.size 5 (mm.n * 64) (fun k => .int .u8 (mm.mem k)) ∧ Fr (fun _ => False) W w' := fun W x h => all_any W x mm h
      have HA := Lib.hid hHA
      have hTu := fun W (x : Am) (h : Mem W x mm) => turned_any W x mm h 0 (by omega)
      have HT := Lib.hid hTu
      have hMa9 : Mem wr.drew a mm := hMa.drew
      have hMb9 : Mem wr.drew b mm := hMb.drew
      have fr9 : Fr (fun _ => False) w wr.drew := fr.drew
      clear hHA hTu hMa hMb fr Hcut hz1 hn256 Hfr Hi Hld Hld2 Hn4 HE HA1 Hpw Hin Hw hlt hr Ha2 Hb2 Hd Hd2 hi2 v0 v1 hat0 hat1 HN Hbd HX
      generalize hNN : mm.n * 64 = NN at *
      clear hNN
      generalize turnN mm 64 = tl at *
      refine wp_region_any (by kernel_rfl) ?_
      try (change wpAny _ _ _ _ _ _ _ (World.drew _))
      refine wpAny_take (i := 0) (v := ?_) rfl (by kernel_rfl) (by kernel_rfl) (by kernel_rfl) (fun _ _ _ h => h) (Or.inl ⟨by kernel_rfl, ?_⟩) ?_
      rotate_left
      · (intro w; go_simp; try with_reducible rfl)
      refine wpAny_take (i := 1) (v := ?_) rfl (by kernel_rfl) (by kernel_rfl) (by kernel_rfl) (fun _ _ _ h => h) (Or.inl ⟨by kernel_rfl, ?_⟩) ?_
      rotate_left
      · (intro w; go_simp; try with_reducible rfl)
      refine wpAny_take (i := 2) (v := ?_) rfl (by kernel_rfl) (by kernel_rfl) (by kernel_rfl) (fun _ _ _ h => h) (Or.inl ⟨by kernel_rfl, ?_⟩) ?_
      rotate_left
      · (intro w; go_simp; try with_reducible rfl)
      refine wpAny_take (i := 3) (v := ?_) rfl (by kernel_rfl) (by kernel_rfl) (by kernel_rfl) (fun _ _ _ h => h) (Or.inl ⟨by kernel_rfl, ?_⟩) ?_
      rotate_left
      · (intro w; go_simp; try with_reducible rfl)
      simp only [Act.put, List.getElem_toArray, List.getElem_cons_zero, List.getElem_cons_succ, List.setIfInBounds_toArray, List.set_cons_zero, List.set_cons_succ]
      refine wpAny_take (i := 4) (v := ?_) rfl (by kernel_rfl) (by kernel_rfl) (by kernel_rfl) (fun _ _ _ h => h) (Or.inl ⟨by kernel_rfl, ?_⟩) ?_
      rotate_left
      · (intro w; go_simp; try with_reducible rfl)
      refine wpAny_take (i := 5) (v := ?_) rfl (by kernel_rfl) (by kernel_rfl) (by kernel_rfl) (fun _ _ _ h => h) (Or.inl ⟨by kernel_rfl, ?_⟩) ?_
      rotate_left
      · (intro w; go_simp; try with_reducible rfl)
      refine wpAny_take (i := 6) (v := ?_) rfl (by kernel_rfl) (by kernel_rfl) (by kernel_rfl) (fun _ _ _ h => h) (Or.inl ⟨by kernel_rfl, ?_⟩) ?_
      rotate_left
      · (intro w; go_simp; try with_reducible rfl)
      refine wpAny_take (i := 7) (v := ?_) rfl (by kernel_rfl) (by kernel_rfl) (by kernel_rfl) (fun _ _ _ h => h) (Or.inl ⟨by kernel_rfl, ?_⟩) ?_
      rotate_left
      · (intro w; go_simp; try with_reducible rfl)
      simp only [Act.put, List.getElem_toArray, List.getElem_cons_zero, List.getElem_cons_succ, List.setIfInBounds_toArray, List.set_cons_zero, List.set_cons_succ]
      refine wpAny_take (i := 10) (v := ?_) rfl (by kernel_rfl) (by kernel_rfl) (by kernel_rfl) (fun _ _ _ h => h) (Or.inl ⟨by kernel_rfl, ?_⟩) ?_
      rotate_left
      · (intro w; go_simp; try with_reducible rfl)
      simp only [Act.put, List.getElem_toArray, List.getElem_cons_zero, List.getElem_cons_succ, List.setIfInBounds_toArray, List.set_cons_zero, List.set_cons_succ]
      refine wpAny_ready (rs := [8]) (by kernel_rfl) (by simp) ?_
      refine AllReady.cons rfl (fun K hK => ?_) ?_
      · go_simp
        go_wp2_with (refine (HA.out _ a hMa9).mono ?_; rintro e w6 ⟨rfl, hc6, f6⟩; have hc6 : Cells w6 wr.heap.size 5 NN (fun k => .int .u8 (mm.mem k)) := hc6; have q6 := HCV.out _ _ hc6 _ (Fr.refl _ _); have hM6 := hMb9.fr0 f6; have hM6a := hMa9.fr0 f6)
        refine wpAny_ready (rs := [9, 11]) (by kernel_rfl) (by simp) ?_
        refine AllReady.cons rfl (fun K hK => ?_) ?_
        · go_simp
          refine hK _ _ ?_
          clear hK K
          refine wpAny_ready (rs := [11]) (by kernel_rfl) (by simp) ?_
          refine AllReady.cons rfl (fun K hK => ?_) ?_
          · go_simp
            go_wp2_with (refine (HA.out _ b hM6).mono ?_; rintro e w7 ⟨rfl, hc7, f7⟩; have q67 := HCV.out _ _ hc6 _ f7; have q7 := HCV.out _ _ hc7 _ (Fr.refl _ _); have hM7a := hM6a.fr0 f7; have hM7b := hM6.fr0 f7)
            refine wpAny_ready (rs := [12]) (by kernel_rfl) (by simp) ?_
            refine AllReady.cons rfl (fun K hK => ?_) ?_
            · go_simp
              refine hK _ _ ?_
              clear hK K
              refine wpAny_take (i := 13) (v := ?_) rfl (by kernel_rfl) (by kernel_rfl) (by kernel_rfl) (fun _ _ _ h => h) (Or.inl ⟨by kernel_rfl, ?_⟩) ?_
              rotate_left
              · (intro w; go_simp; try with_reducible rfl)
              refine wpAny_take (i := 14) (v := ?_) rfl (by kernel_rfl) (by kernel_rfl) (by kernel_rfl) (fun _ _ _ h => h) (Or.inl ⟨by kernel_rfl, ?_⟩) ?_
              rotate_left
              · (intro w; go_simp; try with_reducible rfl)
              refine wpAny_take (i := 15) (v := ?_) rfl (by kernel_rfl) (by kernel_rfl) (by kernel_rfl) (fun _ _ _ h => h) (Or.inl ⟨by kernel_rfl, ?_⟩) ?_
              rotate_left
              · (intro w; go_simp; try with_reducible rfl)
              refine wpAny_take (i := 16) (v := ?_) rfl (by kernel_rfl) (by kernel_rfl) (by kernel_rfl) (fun _ _ _ h => h) (Or.inl ⟨by kernel_rfl, ?_⟩) ?_
              rotate_left
              · (intro w; go_simp; try with_reducible rfl)
              simp only [Act.put, List.getElem_toArray, List.getElem_cons_zero, List.getElem_cons_succ, List.setIfInBounds_toArray, List.set_cons_zero, List.set_cons_succ]
              refine wpAny_take (i := 18) (v := ?_) rfl (by kernel_rfl) (by kernel_rfl) (by kernel_rfl) (fun _ _ _ h => h) (Or.inl ⟨by kernel_rfl, ?_⟩) ?_
              rotate_left
              · (intro w; go_simp; try with_reducible rfl)
              simp only [Act.put, List.getElem_toArray, List.getElem_cons_zero, List.getElem_cons_succ, List.setIfInBounds_toArray, List.set_cons_zero, List.set_cons_succ]
              refine wpAny_ready (rs := [17]) (by kernel_rfl) (by simp) ?_
              refine AllReady.cons rfl (fun K hK => ?_) ?_
              · go_simp
                go_wp2_with (refine (HT.out _ a hM7a).mono ?_; rintro e w8 ⟨v8, rfl, ho8, f8, k8⟩; obtain ⟨A8, c8, rfl⟩ := ownI_any ho8; have hM8b := hM7b.fr0 f8; have I8 := Lib.hid (Bk.own_ints ho8 Hwl.out))
                refine wpAny_ready (rs := [19]) (by kernel_rfl) (by simp) ?_
                refine AllReady.cons rfl (fun K hK => ?_) ?_
                · go_simp
                  go_wp2_with (refine (HT.out _ b hM8b).mono ?_; rintro e w9 ⟨v9, rfl, ho9, f9, k9⟩; obtain ⟨A9, c9, rfl⟩ := ownI_any ho9; have I9 := Lib.hid (Bk.own_ints ho9 Hwl.out); have J8 := Lib.hid (I8.out.fr f9 (Nat.le_refl _) (fun _ _ e => e)))
                  refine wpAny_ready (rs := [20]) (by kernel_rfl) (by simp) ?_
                  refine AllReady.cons rfl (fun K hK => ?_) ?_
                  · go_simp
                    go_wp2_with (refine (Bk.same64_eq _ _ _ _ _ _ _ _ tl J8.out f9.size I9.out (Nat.le_refl _) (by omega)).mono ?_; rintro e w10 ⟨rfl, f10⟩)
                    refine wpAny_take (i := 21) (v := ?_) rfl (by kernel_rfl) (by kernel_rfl) (by kernel_rfl) (fun _ _ _ h => h) (Or.inl ⟨by kernel_rfl, ?_⟩) ?_
                    rotate_left
                    · (intro w; go_simp; try with_reducible rfl)
                    refine wpAny_take (i := 22) (v := ?_) rfl (by kernel_rfl) (by kernel_rfl) (by kernel_rfl) (fun _ _ _ h => h) (Or.inl ⟨by kernel_rfl, ?_⟩) ?_
                    rotate_left
                    · (intro w; go_simp; try with_reducible rfl)
                    simp only [Act.put, List.getElem_toArray, List.getElem_cons_zero, List.getElem_cons_succ, List.setIfInBounds_toArray, List.set_cons_zero, List.set_cons_succ]
                    refine wpAny_ready (rs := [23]) (by kernel_rfl) (by simp) ?_
                    refine AllReady.cons rfl (fun K hK => ?_) ?_
                    · go_simp
                      go_wp2_with (refine (known7 _).mono ?_; rintro e w11 ⟨rfl, f11⟩)
                      refine wpAny_take (i := 24) (v := ?_) rfl (by kernel_rfl) (by kernel_rfl) (by kernel_rfl) (fun _ _ _ h => h) (Or.inl ⟨by kernel_rfl, ?_⟩) ?_
                      rotate_left
                      · (intro w; go_simp; try with_reducible rfl)
                      refine wpAny_take (i := 25) (v := ?_) rfl (by kernel_rfl) (by kernel_rfl) (by kernel_rfl) (fun _ _ _ h => h) (Or.inl ⟨by kernel_rfl, ?_⟩) ?_
                      rotate_left
                      · (intro w; go_simp; try with_reducible rfl)
                      refine wpAny_done (by kernel_rfl) ?_ _
                      go_wp2_with fail
                      go_ret
                      exact ⟨rfl, ((((((fr9.tr f6).tr f7).tr f8).tr f9).tr f10).tr f11)⟩
                    exact AllReady.nil
                  exact AllReady.nil
                exact AllReady.nil
              exact AllReady.nil
            exact AllReady.nil
          exact AllReady.nil
        refine AllReady.cons rfl (fun K hK => ?_) ?_
        · go_simp
          go_wp2_with (refine (HA.out _ b hM6).mono ?_; rintro e w7 ⟨rfl, hc7, f7⟩; have q67 := HCV.out _ _ hc6 _ f7; have q7 := HCV.out _ _ hc7 _ (Fr.refl _ _); have hM7a := hM6a.fr0 f7; have hM7b := hM6.fr0 f7)
          refine wpAny_ready (rs := [9, 12]) (by kernel_rfl) (by simp) ?_
          refine AllReady.cons rfl (fun K hK => ?_) ?_
          · go_simp
            refine hK _ _ ?_
            clear hK K
            refine wpAny_ready (rs := [12]) (by kernel_rfl) (by simp) ?_
            refine AllReady.cons rfl (fun K hK => ?_) ?_
            · go_simp
              refine hK _ _ ?_
              clear hK K
              refine wpAny_take (i := 13) (v := ?_) rfl (by kernel_rfl) (by kernel_rfl) (by kernel_rfl) (fun _ _ _ h => h) (Or.inl ⟨by kernel_rfl, ?_⟩) ?_
              rotate_left
              · (intro w; go_simp; try with_reducible rfl)
              refine wpAny_take (i := 14) (v := ?_) rfl (by kernel_rfl) (by kernel_rfl) (by kernel_rfl) (fun _ _ _ h => h) (Or.inl ⟨by kernel_rfl, ?_⟩) ?_
              rotate_left
              · (intro w; go_simp; try with_reducible rfl)
              refine wpAny_take (i := 15) (v := ?_) rfl (by kernel_rfl) (by kernel_rfl) (by kernel_rfl) (fun _ _ _ h => h) (Or.inl ⟨by kernel_rfl, ?_⟩) ?_
              rotate_left
              · (intro w; go_simp; try with_reducible rfl)
              refine wpAny_take (i := 16) (v := ?_) rfl (by kernel_rfl) (by kernel_rfl) (by kernel_rfl) (fun _ _ _ h => h) (Or.inl ⟨by kernel_rfl, ?_⟩) ?_
              rotate_left
              · (intro w; go_simp; try with_reducible rfl)
              simp only [Act.put, List.getElem_toArray, List.getElem_cons_zero, List.getElem_cons_succ, List.setIfInBounds_toArray, List.set_cons_zero, List.set_cons_succ]
              refine wpAny_take (i := 18) (v := ?_) rfl (by kernel_rfl) (by kernel_rfl) (by kernel_rfl) (fun _ _ _ h => h) (Or.inl ⟨by kernel_rfl, ?_⟩) ?_
              rotate_left
              · (intro w; go_simp; try with_reducible rfl)
              simp only [Act.put, List.getElem_toArray, List.getElem_cons_zero, List.getElem_cons_succ, List.setIfInBounds_toArray, List.set_cons_zero, List.set_cons_succ]
              refine wpAny_ready (rs := [17]) (by kernel_rfl) (by simp) ?_
              refine AllReady.cons rfl (fun K hK => ?_) ?_
              · go_simp
                go_wp2_with (refine (HT.out _ a hM7a).mono ?_; rintro e w8 ⟨v8, rfl, ho8, f8, k8⟩; obtain ⟨A8, c8, rfl⟩ := ownI_any ho8; have hM8b := hM7b.fr0 f8; have I8 := Lib.hid (Bk.own_ints ho8 Hwl.out))
                refine wpAny_ready (rs := [19]) (by kernel_rfl) (by simp) ?_
                refine AllReady.cons rfl (fun K hK => ?_) ?_
                · go_simp
                  go_wp2_with (refine (HT.out _ b hM8b).mono ?_; rintro e w9 ⟨v9, rfl, ho9, f9, k9⟩; obtain ⟨A9, c9, rfl⟩ := ownI_any ho9; have I9 := Lib.hid (Bk.own_ints ho9 Hwl.out); have J8 := Lib.hid (I8.out.fr f9 (Nat.le_refl _) (fun _ _ e => e)))
                  refine wpAny_ready (rs := [20]) (by kernel_rfl) (by simp) ?_
                  refine AllReady.cons rfl (fun K hK => ?_) ?_
                  · go_simp
                    go_wp2_with (refine (Bk.same64_eq _ _ _ _ _ _ _ _ tl J8.out f9.size I9.out (Nat.le_refl _) (by omega)).mono ?_; rintro e w10 ⟨rfl, f10⟩)
                    refine wpAny_take (i := 21) (v := ?_) rfl (by kernel_rfl) (by kernel_rfl) (by kernel_rfl) (fun _ _ _ h => h) (Or.inl ⟨by kernel_rfl, ?_⟩) ?_
                    rotate_left
                    · (intro w; go_simp; try with_reducible rfl)
                    refine wpAny_take (i := 22) (v := ?_) rfl (by kernel_rfl) (by kernel_rfl) (by kernel_rfl) (fun _ _ _ h => h) (Or.inl ⟨by kernel_rfl, ?_⟩) ?_
                    rotate_left
                    · (intro w; go_simp; try with_reducible rfl)
                    simp only [Act.put, List.getElem_toArray, List.getElem_cons_zero, List.getElem_cons_succ, List.setIfInBounds_toArray, List.set_cons_zero, List.set_cons_succ]
                    refine wpAny_ready (rs := [23]) (by kernel_rfl) (by simp) ?_
                    refine AllReady.cons rfl (fun K hK => ?_) ?_
                    · go_simp
                      go_wp2_with (refine (known7 _).mono ?_; rintro e w11 ⟨rfl, f11⟩)
                      refine wpAny_take (i := 24) (v := ?_) rfl (by kernel_rfl) (by kernel_rfl) (by kernel_rfl) (fun _ _ _ h => h) (Or.inl ⟨by kernel_rfl, ?_⟩) ?_
                      rotate_left
                      · (intro w; go_simp; try with_reducible rfl)
                      refine wpAny_take (i := 25) (v := ?_) rfl (by kernel_rfl) (by kernel_rfl) (by kernel_rfl) (fun _ _ _ h => h) (Or.inl ⟨by kernel_rfl, ?_⟩) ?_
                      rotate_left
                      · (intro w; go_simp; try with_reducible rfl)
                      refine wpAny_done (by kernel_rfl) ?_ _
                      go_wp2_with fail
                      go_ret
                      exact ⟨rfl, ((((((fr9.tr f6).tr f7).tr f8).tr f9).tr f10).tr f11)⟩
                    exact AllReady.nil
                  exact AllReady.nil
                exact AllReady.nil
              exact AllReady.nil
            exact AllReady.nil
          refine AllReady.cons rfl (fun K hK => ?_) ?_
          · go_simp
            refine hK _ _ ?_
            clear hK K
            refine wpAny_ready (rs := [9]) (by kernel_rfl) (by simp) ?_
            refine AllReady.cons rfl (fun K hK => ?_) ?_
            · go_simp
              refine hK _ _ ?_
              clear hK K
              refine wpAny_take (i := 13) (v := ?_) rfl (by kernel_rfl) (by kernel_rfl) (by kernel_rfl) (fun _ _ _ h => h) (Or.inl ⟨by kernel_rfl, ?_⟩) ?_
              rotate_left
              · (intro w; go_simp; try with_reducible rfl)
              refine wpAny_take (i := 14) (v := ?_) rfl (by kernel_rfl) (by kernel_rfl) (by kernel_rfl) (fun _ _ _ h => h) (Or.inl ⟨by kernel_rfl, ?_⟩) ?_
              rotate_left
              · (intro w; go_simp; try with_reducible rfl)
              refine wpAny_take (i := 15) (v := ?_) rfl (by kernel_rfl) (by kernel_rfl) (by kernel_rfl) (fun _ _ _ h => h) (Or.inl ⟨by kernel_rfl, ?_⟩) ?_
              rotate_left
              · (intro w; go_simp; try with_reducible rfl)
              refine wpAny_take (i := 16) (v := ?_) rfl (by kernel_rfl) (by kernel_rfl) (by kernel_rfl) (fun _ _ _ h => h) (Or.inl ⟨by kernel_rfl, ?_⟩) ?_
              rotate_left
              · (intro w; go_simp; try with_reducible rfl)
              simp only [Act.put, List.getElem_toArray, List.getElem_cons_zero, List.getElem_cons_succ, List.setIfInBounds_toArray, List.set_cons_zero, List.set_cons_succ]
              refine wpAny_take (i := 18) (v := ?_) rfl (by kernel_rfl) (by kernel_rfl) (by kernel_rfl) (fun _ _ _ h => h) (Or.inl ⟨by kernel_rfl, ?_⟩) ?_
              rotate_left
              · (intro w; go_simp; try with_reducible rfl)
              simp only [Act.put, List.getElem_toArray, List.getElem_cons_zero, List.getElem_cons_succ, List.setIfInBounds_toArray, List.set_cons_zero, List.set_cons_succ]
              refine wpAny_ready (rs := [17]) (by kernel_rfl) (by simp) ?_
              refine AllReady.cons rfl (fun K hK => ?_) ?_
              · go_simp
                go_wp2_with (refine (HT.out _ a hM7a).mono ?_; rintro e w8 ⟨v8, rfl, ho8, f8, k8⟩; obtain ⟨A8, c8, rfl⟩ := ownI_any ho8; have hM8b := hM7b.fr0 f8; have I8 := Lib.hid (Bk.own_ints ho8 Hwl.out))
                refine wpAny_ready (rs := [19]) (by kernel_rfl) (by simp) ?_
                refine AllReady.cons rfl (fun K hK => ?_) ?_
                · go_simp
                  go_wp2_with (refine (HT.out _ b hM8b).mono ?_; rintro e w9 ⟨v9, rfl, ho9, f9, k9⟩; obtain ⟨A9, c9, rfl⟩ := ownI_any ho9; have I9 := Lib.hid (Bk.own_ints ho9 Hwl.out); have J8 := Lib.hid (I8.out.fr f9 (Nat.le_refl _) (fun _ _ e => e)))
                  refine wpAny_ready (rs := [20]) (by kernel_rfl) (by simp) ?_
                  refine AllReady.cons rfl (fun K hK => ?_) ?_
                  · go_simp
                    go_wp2_with (refine (Bk.same64_eq _ _ _ _ _ _ _ _ tl J8.out f9.size I9.out (Nat.le_refl _) (by omega)).mono ?_; rintro e w10 ⟨rfl, f10⟩)
                    refine wpAny_take (i := 21) (v := ?_) rfl (by kernel_rfl) (by kernel_rfl) (by kernel_rfl) (fun _ _ _ h => h) (Or.inl ⟨by kernel_rfl, ?_⟩) ?_
                    rotate_left
                    · (intro w; go_simp; try with_reducible rfl)
                    refine wpAny_take (i := 22) (v := ?_) rfl (by kernel_rfl) (by kernel_rfl) (by kernel_rfl) (fun _ _ _ h => h) (Or.inl ⟨by kernel_rfl, ?_⟩) ?_
                    rotate_left
                    · (intro w; go_simp; try with_reducible rfl)
                    simp only [Act.put, List.getElem_toArray, List.getElem_cons_zero, List.getElem_cons_succ, List.setIfInBounds_toArray, List.set_cons_zero, List.set_cons_succ]
                    refine wpAny_ready (rs := [23]) (by kernel_rfl) (by simp) ?_
                    refine AllReady.cons rfl (fun K hK => ?_) ?_
                    · go_simp
                      go_wp2_with (refine (known7 _).mono ?_; rintro e w11 ⟨rfl, f11⟩)
                      refine wpAny_take (i := 24) (v := ?_) rfl (by kernel_rfl) (by kernel_rfl) (by kernel_rfl) (fun _ _ _ h => h) (Or.inl ⟨by kernel_rfl, ?_⟩) ?_
                      rotate_left
                      · (intro w; go_simp; try with_reducible rfl)
                      refine wpAny_take (i := 25) (v := ?_) rfl (by kernel_rfl) (by kernel_rfl) (by kernel_rfl) (fun _ _ _ h => h) (Or.inl ⟨by kernel_rfl, ?_⟩) ?_
                      rotate_left
                      · (intro w; go_simp; try with_reducible rfl)
                      refine wpAny_done (by kernel_rfl) ?_ _
                      go_wp2_with fail
                      go_ret
                      exact ⟨rfl, ((((((fr9.tr f6).tr f7).tr f8).tr f9).tr f10).tr f11)⟩
                    exact AllReady.nil
                  exact AllReady.nil
                exact AllReady.nil
              exact AllReady.nil
            exact AllReady.nil
          exact AllReady.nil
        exact AllReady.nil
      exact AllReady.nil
end Go.Proofs.Ytcfoogbjlokegaa.ramWords
