/- The statements of layer 7: alike. -/
import Derived.Test.YtijhbhhcaicdfaaRamLaws
import Derived.Deep.RegionWith
namespace Go.Proofs.Ytijhbhhcaicdfaa.Rm
open Go.RowKit Fm Nt By
set_option linter.unusedVariables false
set_option maxHeartbeats 4000000

theorem turnN_end (m : Ms) (h : ∀ k, m.n ≤ k → k < 64 → m.tu k = false) : ∀ j, m.n ≤ j → j ≤ 64 → turnN m j = turnN m m.n := by
  intro j
  induction j with
  | zero => intro h0 _; rw [show m.n = 0 by omega]
  | succ j ih =>
    intro h0 h1
    by_cases e : m.n = j + 1
    · rw [e]
    · rw [turnN_no m j (h j (by omega) (by omega)), ih (by omega) (by omega)]
theorem turnN_wf (m : Ms) (k : Nat) (hk : k ≤ 64) : ∀ z ∈ turnN m k, (Lit.int .i64 z).wf = true := by
  intro z hz
  simp only [turnN, List.mem_map, List.mem_filter, List.mem_range] at hz
  obtain ⟨y, ⟨h1, _⟩, rfl⟩ := hz
  exact wf_i64_mk (n := Int.ofNat y) (by show -9223372036854775808 ≤ (y : Int); omega) (by show (y : Int) ≤ 9223372036854775807; omega)
set_option maxRecDepth 100000 in
theorem alike_any (w : World) (a : Am) (m : Ms) (gb gt : Nat) (hM : Mem w a m) (hB : Cells w gb 5 (m.n * 64) (fun k => .int .u8 (m.mem k))) (hT : Cells w gt 4 m.n (fun k => .bool (m.tu k))) (htu : ∀ k, m.n ≤ k → k < 64 → m.tu k = false) :
    Calls Try.prog 8 #[.pointer (some ⟨a.gm, 0, none⟩), .slice (some ⟨gb, 0, none⟩) (m.n * 64) (m.n * 64), .slice (some ⟨gt, 0, none⟩) m.n m.n] w fun e w' => e = .returned (.bool true) ∧ Fr (fun _ => False) w w' := by
  obtain ⟨i0, hi0, hz0, hz1, hz2⟩ := info_parts info64
  have hn := hM.n0
  have hend := Lib.hid (turnN_end m htu 64 (by omega) (by omega))
  have hsz := Lib.hid (fun W (h : Mem W a m) => size_any W a m h)
  have Hbd := Lib.hid hM.bd
  have Hall := Lib.hid (fun W (h : Mem W a m) => all_any W a m h)
  have Htu := Lib.hid (fun W (h : Mem W a m) => turned_any W a m h 0 (by omega))
  clear htu
  generalize hNN : m.n * 64 = NN at *
  have hNb : NN ≤ 4096 := by omega
  have hNi : ((m.n : Int) * 64) = (NN : Int) := by omega
  obtain ⟨SN, hS1, hSN⟩ : ∃ S : Int, S = (NN : Int) ∧ (S == (NN : Int)) = true := ⟨_, rfl, by simp⟩
  simp only [hNi, ← hS1] at hsz
  have S0 : 0 ≤ SN := by omega
  have S1 : SN ≤ 4096 := by omega
  have HW : Hid (IntKind.i64.wrap SN = (NN : Int)) := Lib.hid (by rw [hS1]; exact IntWalk.i64_in _ (by omega))
  clear hNN hNi hS1
  go_enter Try.func8, Try.ntmps8
  go_wp2_with fail
  go_loopw [7, 8] (fun v i wr => ∃ k : Nat, k ≤ m.n ∧ i = .int .i64 k ∧ wr.ownsRow 0 3 1 v (turnN m k).length (by64 (turnN m k)) ∧ Fr (fun _ => False) w wr ∧ (∀ b, v.ownBlock = some b → w.heap.size ≤ b)) (fun _ i _ => m.n - (intOf i).toNat)
  case atStart => exact ⟨0, by omega, rfl, ⟨rfl, .inl ⟨rfl, rfl⟩⟩, Fr.refl _ _, fun k hk => by simp [Value.ownBlock] at hk⟩
  case round =>
    obtain ⟨k, hk, rfl, hown, fr, hat⟩ := hrel
    by_cases hlt : k < m.n
    · have c := (hT.fr fr (fun e => e)).cell k hlt
      have hle := turnN_le m k
      cases ho : m.tu k
      · rw [ho] at c
        have Hs := Lib.hid (turnN_no m k ho)
        clear ho
        generalize turnN m k = l at *
        go_wp2_with fail
        go_roundw
        case rel => exact ⟨k + 1, by omega, by go_num, by rw [Hs.out]; exact hown, fr, hat⟩
        case measure => simp [intOf]; omega
      · rw [ho] at c
        have Hs := Lib.hid (turnN_yes m k ho)
        have hown' := own_alloc hown (.cells #[.int .i64 (k : Int)] 3)
        clear ho
        generalize turnN m k = l at *
        go_wp2_with
          (at_builtin
           refine wpList_append_any _ rfl (.tmp 19) (.tmp 21) _ rfl 0 3 i0 _ 1 8 Try.underlying74 hi0 hz0 hz1 hz2 rfl (by omega) u7 l.length (by64 l) rfl hown' (wr.heap.size + 1) (some ⟨wr.heap.size, 0, none⟩) 1 1 [.int .i64 (k : Int)] rfl (reads_blk (Blk.new _ _ _) rfl) (by simp [Value.oneCell']) (by simp only [maxLen]; omega) (by omega) (by simp) ?_
           intro v1 w1 hown1 hg1 hat1)
        go_roundw
        case rel =>
          refine ⟨k + 1, by omega, by go_num, ?_, (fr.alloc _).grown hg1 (fun q hq => .inr (hat q hq)), fun q hq => ?_⟩
          · rw [Hs.out]; simpa [by64] using hown1
          · rcases hat1 with e | e
            · exact hat q (by rw [← e]; exact hq)
            · rw [e] at hq
              have : wr.heap.size + 1 = q := by simpa using hq
              have := fr.size
              omega
        case measure => simp [intOf]; omega
    · have e : k = m.n := by omega
      rw [e, ← hend.out] at hown
      obtain ⟨A5, cap5, rfl⟩ := ownI_any hown
      have hwl := turnN_wf m 64 (by omega)
      have hll := turnN_le m 64
      have I5 := Lib.hid (Bk.own_ints hown hwl)
      have Hwl := Lib.hid hwl
      have hM9 : Mem wr.drew a m := (hM.fr0 fr).drew
      have fr9 := fr.drew
      have IB := Lib.hid ((cells_ints hB Hbd.out).fr fr9 hB.lt (fun _ _ e => e))
      have hgb := Nat.lt_of_lt_of_le hB.lt fr.size
      have hkeep := Lib.hid (fun W (f : Fr (fun _ => False) wr.drew W) => str_of_ints (c := NN) (IB.out.fr f hgb (fun _ _ e => e)))
      have hstr := Lib.hid (fun W g (h : Cells W g 5 NN (fun k => .int .u8 (m.mem k))) => str_of_ints (c := NN) (cells_ints h Hbd.out))
      have qb0 := hkeep.out _ (Fr.refl _ _)
      have J5 : Hid (IntsAt .i64 wr.drew wr.heap.size A5 (turnN m 64).length (turnN m 64)) := I5.out
      go_wp2_with fail
      clear hown e hwl I5 hat hB hT hM fr hend hi0 hz0 hz1 hz2 hk hlt
      generalize turnN m 64 = tl at *
      generalize str (lst m.mem NN) = Q at *
      refine wp_region_any (by kernel_rfl) ?_
      try (change wpAny _ _ _ _ _ _ _ (World.drew _))
      refine wpAny_take (i := 0) (v := ?_) rfl (by kernel_rfl) (by kernel_rfl) (by kernel_rfl) (fun _ _ _ h => h) (Or.inl ⟨by kernel_rfl, ?_⟩) ?_
      rotate_left
      · (intro w; go_simp; try with_reducible rfl)
      refine wpAny_take (i := 3) (v := ?_) rfl (by kernel_rfl) (by kernel_rfl) (by kernel_rfl) (fun _ _ _ h => h) (Or.inl ⟨by kernel_rfl, ?_⟩) ?_
      rotate_left
      · (intro w; go_simp; try with_reducible rfl)
      simp only [Act.put, List.getElem_toArray, List.getElem_cons_zero, List.getElem_cons_succ, List.setIfInBounds_toArray, List.set_cons_zero, List.set_cons_succ]
      refine wpAny_ready (rs := [1, 4]) (by kernel_rfl) (by simp) ?_
      refine AllReady.cons rfl (fun K hK => ?_) ?_
      · go_simp
        go_wp2_with (refine (Hall.out _ hM9).mono ?_; rintro e w6 ⟨rfl, hc6, f6⟩; have hc6 : Cells w6 wr.heap.size 5 NN (fun k => .int .u8 (m.mem k)) := hc6; have q6 := hstr.out _ _ hc6; have qb6 := hkeep.out _ f6; have hM6 := hM9.fr0 f6)
        refine wpAny_ready (rs := [2, 4]) (by kernel_rfl) (by simp) ?_
        refine AllReady.cons rfl (fun K hK => ?_) ?_
        · go_simp
          refine hK _ _ ?_
          clear hK K
          refine wpAny_ready (rs := [4]) (by kernel_rfl) (by simp) ?_
          refine AllReady.cons rfl (fun K hK => ?_) ?_
          · go_simp
            refine hK _ _ ?_
            clear hK K
            refine wpAny_take (i := 5) (v := (.bool true)) rfl (by kernel_rfl) (by kernel_rfl) (by kernel_rfl) (fun _ _ _ h => h) (Or.inl ⟨by kernel_rfl, ?_⟩) ?_
            · (intro w; go_simp <;> exact HW.out)
            refine wpAny_take (i := 6) (v := ?_) rfl (by kernel_rfl) (by kernel_rfl) (by kernel_rfl) (fun _ _ _ h => h) (Or.inl ⟨by kernel_rfl, ?_⟩) ?_
            rotate_left
            · (intro w; go_simp; try with_reducible rfl)
            refine wpAny_take (i := 7) (v := ?_) rfl (by kernel_rfl) (by kernel_rfl) (by kernel_rfl) (fun _ _ _ h => h) (Or.inl ⟨by kernel_rfl, ?_⟩) ?_
            rotate_left
            · (intro w; go_simp; try with_reducible rfl)
            refine wpAny_take (i := 10) (v := ?_) rfl (by kernel_rfl) (by kernel_rfl) (by kernel_rfl) (fun _ _ _ h => h) (Or.inl ⟨by kernel_rfl, ?_⟩) ?_
            rotate_left
            · (intro w; go_simp; try with_reducible rfl)
            simp only [Act.put, List.getElem_toArray, List.getElem_cons_zero, List.getElem_cons_succ, List.setIfInBounds_toArray, List.set_cons_zero, List.set_cons_succ]
            refine wpAny_take (i := 11) (v := ?_) rfl (by kernel_rfl) (by kernel_rfl) (by kernel_rfl) (fun _ _ _ h => h) (Or.inl ⟨by kernel_rfl, ?_⟩) ?_
            rotate_left
            · (intro w; go_simp; try with_reducible rfl)
            simp only [Act.put, List.getElem_toArray, List.getElem_cons_zero, List.getElem_cons_succ, List.setIfInBounds_toArray, List.set_cons_zero, List.set_cons_succ]
            refine wpAny_ready (rs := [8]) (by kernel_rfl) (by simp) ?_
            refine AllReady.cons rfl (fun K hK => ?_) ?_
            · go_simp
              go_wp2_with (refine (hsz.out _ hM6).mono ?_; rintro e w' ⟨rfl, rfl⟩)
              refine wpAny_ready (rs := [9]) (by kernel_rfl) (by simp) ?_
              refine AllReady.cons rfl (fun K hK => ?_) ?_
              · go_simp
                refine hK _ _ ?_
                clear hK K
                refine wpAny_take (i := 12) (v := (.bool true)) rfl (by kernel_rfl) (by kernel_rfl) (by kernel_rfl) (fun _ _ _ h => h) (Or.inl ⟨by kernel_rfl, ?_⟩) ?_
                · (intro w; go_simp <;> exact HW.out)
                refine wpAny_take (i := 13) (v := (.bool true)) rfl (by kernel_rfl) (by kernel_rfl) (by kernel_rfl) (fun _ _ _ h => h) (Or.inl ⟨by kernel_rfl, ?_⟩) ?_
                · (intro w; go_simp <;> exact HW.out)
                refine wpAny_take (i := 14) (v := (.bool true)) rfl (by kernel_rfl) (by kernel_rfl) (by kernel_rfl) (fun _ _ _ h => h) (Or.inl ⟨by kernel_rfl, ?_⟩) ?_
                · (intro w; go_simp <;> exact HW.out)
                refine wpAny_take (i := 15) (v := ?_) rfl (by kernel_rfl) (by kernel_rfl) (by kernel_rfl) (fun _ _ _ h => h) (Or.inl ⟨by kernel_rfl, ?_⟩) ?_
                rotate_left
                · (intro w; go_simp; try with_reducible rfl)
                simp only [Act.put, List.getElem_toArray, List.getElem_cons_zero, List.getElem_cons_succ, List.setIfInBounds_toArray, List.set_cons_zero, List.set_cons_succ]
                refine wpAny_take (i := 17) (v := ?_) rfl (by kernel_rfl) (by kernel_rfl) (by kernel_rfl) (fun _ _ _ h => h) (Or.inl ⟨by kernel_rfl, ?_⟩) ?_
                rotate_left
                · (intro w; go_simp; try with_reducible rfl)
                simp only [Act.put, List.getElem_toArray, List.getElem_cons_zero, List.getElem_cons_succ, List.setIfInBounds_toArray, List.set_cons_zero, List.set_cons_succ]
                refine wpAny_ready (rs := [16]) (by kernel_rfl) (by simp) ?_
                refine AllReady.cons rfl (fun K hK => ?_) ?_
                · go_simp
                  go_wp2_with (refine (Htu.out _ hM6).mono ?_; rintro e w8 ⟨v8, rfl, ho8, f8, k8⟩; obtain ⟨A8, c8, rfl⟩ := ownI_any ho8; have I8 := Lib.hid (Bk.own_ints ho8 Hwl.out); have J8 := Lib.hid (J5.out.fr (f6.tr f8) (by exact Nat.le_refl _) (fun _ _ e => e)))
                  refine wpAny_ready (rs := [18]) (by kernel_rfl) (by simp) ?_
                  refine AllReady.cons rfl (fun K hK => ?_) ?_
                  · go_simp
                    go_wp2_with (refine (Bk.same64_eq _ _ _ _ _ _ _ _ tl I8.out (Nat.le_refl _) J8.out (Nat.le_trans f6.size f8.size) (by omega)).mono ?_; rintro e w10 ⟨rfl, f10⟩)
                    refine wpAny_take (i := 19) (v := ?_) rfl (by kernel_rfl) (by kernel_rfl) (by kernel_rfl) (fun _ _ _ h => h) (Or.inl ⟨by kernel_rfl, ?_⟩) ?_
                    rotate_left
                    · (intro w; go_simp; try with_reducible rfl)
                    refine wpAny_take (i := 20) (v := ?_) rfl (by kernel_rfl) (by kernel_rfl) (by kernel_rfl) (fun _ _ _ h => h) (Or.inl ⟨by kernel_rfl, ?_⟩) ?_
                    rotate_left
                    · (intro w; go_simp; try with_reducible rfl)
                    refine wpAny_done (by kernel_rfl) ?_ _
                    go_wp2_with fail
                    go_ret
                    exact ⟨rfl, (((fr9.tr f6).tr f8).tr f10)⟩
                  exact AllReady.nil
                exact AllReady.nil
              exact AllReady.nil
            exact AllReady.nil
          exact AllReady.nil
        refine AllReady.cons rfl (fun K hK => ?_) ?_
        · go_simp
          refine hK _ _ ?_
          clear hK K
          refine wpAny_ready (rs := [2]) (by kernel_rfl) (by simp) ?_
          refine AllReady.cons rfl (fun K hK => ?_) ?_
          · go_simp
            refine hK _ _ ?_
            clear hK K
            refine wpAny_take (i := 5) (v := (.bool true)) rfl (by kernel_rfl) (by kernel_rfl) (by kernel_rfl) (fun _ _ _ h => h) (Or.inl ⟨by kernel_rfl, ?_⟩) ?_
            · (intro w; go_simp <;> exact HW.out)
            refine wpAny_take (i := 6) (v := ?_) rfl (by kernel_rfl) (by kernel_rfl) (by kernel_rfl) (fun _ _ _ h => h) (Or.inl ⟨by kernel_rfl, ?_⟩) ?_
            rotate_left
            · (intro w; go_simp; try with_reducible rfl)
            refine wpAny_take (i := 7) (v := ?_) rfl (by kernel_rfl) (by kernel_rfl) (by kernel_rfl) (fun _ _ _ h => h) (Or.inl ⟨by kernel_rfl, ?_⟩) ?_
            rotate_left
            · (intro w; go_simp; try with_reducible rfl)
            refine wpAny_take (i := 10) (v := ?_) rfl (by kernel_rfl) (by kernel_rfl) (by kernel_rfl) (fun _ _ _ h => h) (Or.inl ⟨by kernel_rfl, ?_⟩) ?_
            rotate_left
            · (intro w; go_simp; try with_reducible rfl)
            simp only [Act.put, List.getElem_toArray, List.getElem_cons_zero, List.getElem_cons_succ, List.setIfInBounds_toArray, List.set_cons_zero, List.set_cons_succ]
            refine wpAny_take (i := 11) (v := ?_) rfl (by kernel_rfl) (by kernel_rfl) (by kernel_rfl) (fun _ _ _ h => h) (Or.inl ⟨by kernel_rfl, ?_⟩) ?_
            rotate_left
            · (intro w; go_simp; try with_reducible rfl)
            simp only [Act.put, List.getElem_toArray, List.getElem_cons_zero, List.getElem_cons_succ, List.setIfInBounds_toArray, List.set_cons_zero, List.set_cons_succ]
            refine wpAny_ready (rs := [8]) (by kernel_rfl) (by simp) ?_
            refine AllReady.cons rfl (fun K hK => ?_) ?_
            · go_simp
              go_wp2_with (refine (hsz.out _ hM6).mono ?_; rintro e w' ⟨rfl, rfl⟩)
              refine wpAny_ready (rs := [9]) (by kernel_rfl) (by simp) ?_
              refine AllReady.cons rfl (fun K hK => ?_) ?_
              · go_simp
                refine hK _ _ ?_
                clear hK K
                refine wpAny_take (i := 12) (v := (.bool true)) rfl (by kernel_rfl) (by kernel_rfl) (by kernel_rfl) (fun _ _ _ h => h) (Or.inl ⟨by kernel_rfl, ?_⟩) ?_
                · (intro w; go_simp <;> exact HW.out)
                refine wpAny_take (i := 13) (v := (.bool true)) rfl (by kernel_rfl) (by kernel_rfl) (by kernel_rfl) (fun _ _ _ h => h) (Or.inl ⟨by kernel_rfl, ?_⟩) ?_
                · (intro w; go_simp <;> exact HW.out)
                refine wpAny_take (i := 14) (v := (.bool true)) rfl (by kernel_rfl) (by kernel_rfl) (by kernel_rfl) (fun _ _ _ h => h) (Or.inl ⟨by kernel_rfl, ?_⟩) ?_
                · (intro w; go_simp <;> exact HW.out)
                refine wpAny_take (i := 15) (v := ?_) rfl (by kernel_rfl) (by kernel_rfl) (by kernel_rfl) (fun _ _ _ h => h) (Or.inl ⟨by kernel_rfl, ?_⟩) ?_
                rotate_left
                · (intro w; go_simp; try with_reducible rfl)
                simp only [Act.put, List.getElem_toArray, List.getElem_cons_zero, List.getElem_cons_succ, List.setIfInBounds_toArray, List.set_cons_zero, List.set_cons_succ]
                refine wpAny_take (i := 17) (v := ?_) rfl (by kernel_rfl) (by kernel_rfl) (by kernel_rfl) (fun _ _ _ h => h) (Or.inl ⟨by kernel_rfl, ?_⟩) ?_
                rotate_left
                · (intro w; go_simp; try with_reducible rfl)
                simp only [Act.put, List.getElem_toArray, List.getElem_cons_zero, List.getElem_cons_succ, List.setIfInBounds_toArray, List.set_cons_zero, List.set_cons_succ]
                refine wpAny_ready (rs := [16]) (by kernel_rfl) (by simp) ?_
                refine AllReady.cons rfl (fun K hK => ?_) ?_
                · go_simp
                  go_wp2_with (refine (Htu.out _ hM6).mono ?_; rintro e w8 ⟨v8, rfl, ho8, f8, k8⟩; obtain ⟨A8, c8, rfl⟩ := ownI_any ho8; have I8 := Lib.hid (Bk.own_ints ho8 Hwl.out); have J8 := Lib.hid (J5.out.fr (f6.tr f8) (by exact Nat.le_refl _) (fun _ _ e => e)))
                  refine wpAny_ready (rs := [18]) (by kernel_rfl) (by simp) ?_
                  refine AllReady.cons rfl (fun K hK => ?_) ?_
                  · go_simp
                    go_wp2_with (refine (Bk.same64_eq _ _ _ _ _ _ _ _ tl I8.out (Nat.le_refl _) J8.out (Nat.le_trans f6.size f8.size) (by omega)).mono ?_; rintro e w10 ⟨rfl, f10⟩)
                    refine wpAny_take (i := 19) (v := ?_) rfl (by kernel_rfl) (by kernel_rfl) (by kernel_rfl) (fun _ _ _ h => h) (Or.inl ⟨by kernel_rfl, ?_⟩) ?_
                    rotate_left
                    · (intro w; go_simp; try with_reducible rfl)
                    refine wpAny_take (i := 20) (v := ?_) rfl (by kernel_rfl) (by kernel_rfl) (by kernel_rfl) (fun _ _ _ h => h) (Or.inl ⟨by kernel_rfl, ?_⟩) ?_
                    rotate_left
                    · (intro w; go_simp; try with_reducible rfl)
                    refine wpAny_done (by kernel_rfl) ?_ _
                    go_wp2_with fail
                    go_ret
                    exact ⟨rfl, (((fr9.tr f6).tr f8).tr f10)⟩
                  exact AllReady.nil
                exact AllReady.nil
              exact AllReady.nil
            exact AllReady.nil
          exact AllReady.nil
        exact AllReady.nil
      refine AllReady.cons rfl (fun K hK => ?_) ?_
      · go_simp
        refine hK _ _ ?_
        clear hK K
        refine wpAny_ready (rs := [1]) (by kernel_rfl) (by simp) ?_
        refine AllReady.cons rfl (fun K hK => ?_) ?_
        · go_simp
          go_wp2_with (refine (Hall.out _ hM9).mono ?_; rintro e w6 ⟨rfl, hc6, f6⟩; have hc6 : Cells w6 wr.heap.size 5 NN (fun k => .int .u8 (m.mem k)) := hc6; have q6 := hstr.out _ _ hc6; have qb6 := hkeep.out _ f6; have hM6 := hM9.fr0 f6)
          refine wpAny_ready (rs := [2]) (by kernel_rfl) (by simp) ?_
          refine AllReady.cons rfl (fun K hK => ?_) ?_
          · go_simp
            refine hK _ _ ?_
            clear hK K
            refine wpAny_take (i := 5) (v := (.bool true)) rfl (by kernel_rfl) (by kernel_rfl) (by kernel_rfl) (fun _ _ _ h => h) (Or.inl ⟨by kernel_rfl, ?_⟩) ?_
            · (intro w; go_simp <;> exact HW.out)
            refine wpAny_take (i := 6) (v := ?_) rfl (by kernel_rfl) (by kernel_rfl) (by kernel_rfl) (fun _ _ _ h => h) (Or.inl ⟨by kernel_rfl, ?_⟩) ?_
            rotate_left
            · (intro w; go_simp; try with_reducible rfl)
            refine wpAny_take (i := 7) (v := ?_) rfl (by kernel_rfl) (by kernel_rfl) (by kernel_rfl) (fun _ _ _ h => h) (Or.inl ⟨by kernel_rfl, ?_⟩) ?_
            rotate_left
            · (intro w; go_simp; try with_reducible rfl)
            refine wpAny_take (i := 10) (v := ?_) rfl (by kernel_rfl) (by kernel_rfl) (by kernel_rfl) (fun _ _ _ h => h) (Or.inl ⟨by kernel_rfl, ?_⟩) ?_
            rotate_left
            · (intro w; go_simp; try with_reducible rfl)
            simp only [Act.put, List.getElem_toArray, List.getElem_cons_zero, List.getElem_cons_succ, List.setIfInBounds_toArray, List.set_cons_zero, List.set_cons_succ]
            refine wpAny_take (i := 11) (v := ?_) rfl (by kernel_rfl) (by kernel_rfl) (by kernel_rfl) (fun _ _ _ h => h) (Or.inl ⟨by kernel_rfl, ?_⟩) ?_
            rotate_left
            · (intro w; go_simp; try with_reducible rfl)
            simp only [Act.put, List.getElem_toArray, List.getElem_cons_zero, List.getElem_cons_succ, List.setIfInBounds_toArray, List.set_cons_zero, List.set_cons_succ]
            refine wpAny_ready (rs := [8]) (by kernel_rfl) (by simp) ?_
            refine AllReady.cons rfl (fun K hK => ?_) ?_
            · go_simp
              go_wp2_with (refine (hsz.out _ hM6).mono ?_; rintro e w' ⟨rfl, rfl⟩)
              refine wpAny_ready (rs := [9]) (by kernel_rfl) (by simp) ?_
              refine AllReady.cons rfl (fun K hK => ?_) ?_
              · go_simp
                refine hK _ _ ?_
                clear hK K
                refine wpAny_take (i := 12) (v := (.bool true)) rfl (by kernel_rfl) (by kernel_rfl) (by kernel_rfl) (fun _ _ _ h => h) (Or.inl ⟨by kernel_rfl, ?_⟩) ?_
                · (intro w; go_simp <;> exact HW.out)
                refine wpAny_take (i := 13) (v := (.bool true)) rfl (by kernel_rfl) (by kernel_rfl) (by kernel_rfl) (fun _ _ _ h => h) (Or.inl ⟨by kernel_rfl, ?_⟩) ?_
                · (intro w; go_simp <;> exact HW.out)
                refine wpAny_take (i := 14) (v := (.bool true)) rfl (by kernel_rfl) (by kernel_rfl) (by kernel_rfl) (fun _ _ _ h => h) (Or.inl ⟨by kernel_rfl, ?_⟩) ?_
                · (intro w; go_simp <;> exact HW.out)
                refine wpAny_take (i := 15) (v := ?_) rfl (by kernel_rfl) (by kernel_rfl) (by kernel_rfl) (fun _ _ _ h => h) (Or.inl ⟨by kernel_rfl, ?_⟩) ?_
                rotate_left
                · (intro w; go_simp; try with_reducible rfl)
                simp only [Act.put, List.getElem_toArray, List.getElem_cons_zero, List.getElem_cons_succ, List.setIfInBounds_toArray, List.set_cons_zero, List.set_cons_succ]
                refine wpAny_take (i := 17) (v := ?_) rfl (by kernel_rfl) (by kernel_rfl) (by kernel_rfl) (fun _ _ _ h => h) (Or.inl ⟨by kernel_rfl, ?_⟩) ?_
                rotate_left
                · (intro w; go_simp; try with_reducible rfl)
                simp only [Act.put, List.getElem_toArray, List.getElem_cons_zero, List.getElem_cons_succ, List.setIfInBounds_toArray, List.set_cons_zero, List.set_cons_succ]
                refine wpAny_ready (rs := [16]) (by kernel_rfl) (by simp) ?_
                refine AllReady.cons rfl (fun K hK => ?_) ?_
                · go_simp
                  go_wp2_with (refine (Htu.out _ hM6).mono ?_; rintro e w8 ⟨v8, rfl, ho8, f8, k8⟩; obtain ⟨A8, c8, rfl⟩ := ownI_any ho8; have I8 := Lib.hid (Bk.own_ints ho8 Hwl.out); have J8 := Lib.hid (J5.out.fr (f6.tr f8) (by exact Nat.le_refl _) (fun _ _ e => e)))
                  refine wpAny_ready (rs := [18]) (by kernel_rfl) (by simp) ?_
                  refine AllReady.cons rfl (fun K hK => ?_) ?_
                  · go_simp
                    go_wp2_with (refine (Bk.same64_eq _ _ _ _ _ _ _ _ tl I8.out (Nat.le_refl _) J8.out (Nat.le_trans f6.size f8.size) (by omega)).mono ?_; rintro e w10 ⟨rfl, f10⟩)
                    refine wpAny_take (i := 19) (v := ?_) rfl (by kernel_rfl) (by kernel_rfl) (by kernel_rfl) (fun _ _ _ h => h) (Or.inl ⟨by kernel_rfl, ?_⟩) ?_
                    rotate_left
                    · (intro w; go_simp; try with_reducible rfl)
                    refine wpAny_take (i := 20) (v := ?_) rfl (by kernel_rfl) (by kernel_rfl) (by kernel_rfl) (fun _ _ _ h => h) (Or.inl ⟨by kernel_rfl, ?_⟩) ?_
                    rotate_left
                    · (intro w; go_simp; try with_reducible rfl)
                    refine wpAny_done (by kernel_rfl) ?_ _
                    go_wp2_with fail
                    go_ret
                    exact ⟨rfl, (((fr9.tr f6).tr f8).tr f10)⟩
                  exact AllReady.nil
                exact AllReady.nil
              exact AllReady.nil
            exact AllReady.nil
          exact AllReady.nil
        exact AllReady.nil
      exact AllReady.nil
end Go.Proofs.Ytijhbhhcaicdfaa.Rm
