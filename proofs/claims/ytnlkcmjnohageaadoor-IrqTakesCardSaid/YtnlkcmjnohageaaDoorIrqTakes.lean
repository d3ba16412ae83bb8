/- IrqTakes: the walk. -/
import Derived.Test.YtnlkcmjnohageaaDoorIrqLaws
namespace Go.Proofs.YtnlkcmjnohageaaDoor.irqTakes
open Go.RowKit Iq
set_option linter.unusedVariables false

set_option maxRecDepth 100000 in
set_option maxHeartbeats 2000000 in
theorem core (w : World) (hT : Tab w) (A : Option Addr) (len cap : Nat) (zs : List Int) (hl : IntsAt .i64 w w.heap.size A len zs) (hm : len ≤ maxLen) (m : Nat) (hm4 : m < 4294967296) :
    Calls Tryd.prog 3 #[.slice A len cap, .int .u32 (m : Int)] w fun e w' => e = .returned (.bool true) ∧ Fr (fun _ => False) w w' := by
  unfold maxLen at hm
  have hz := hT.1
  go_enter Tryd.func3, Tryd.ntmps3
  go_wp2_with fail
  refine (new_any _).mono ?_
  rintro e w1 ⟨rfl, b1, f1⟩
  go_wp2_with fail
  go_loopw [6] (fun i wr => ∃ k p : Nat, k ≤ len ∧ i = .int .i64 k ∧ p < 256 ∧ Ctl wr w.heap.size p 0 ∧ Fr (fun _ => False) w wr) (fun i _ => len - (intOf i).toNat)
  case atStart => exact ⟨0, 0, Nat.zero_le _, rfl, by omega, b1, f1⟩
  case round =>
    obtain ⟨k, p, hk, rfl, hp, br, fr⟩ := hrel
    by_cases hlt : k < len ∧ k < 20
    · obtain ⟨h1, h2⟩ := hlt
      obtain ⟨b, off, rfl, hb, hc⟩ := (hl.fr fr (Nat.le_refl _) (fun _ _ e => e)).at_ h1
      obtain ⟨hz0, hz1⟩ := wf_i64 (hl.2.1 k h1)
      clear hl
      generalize zs.getD k 0 = z at *
      go_wp2_with fail
      refine (Bk.within_any _ _ _ _ hz0 hz1 (by omega) (by omega) (by omega)).mono ?_
      rintro e w1' ⟨rfl, rfl⟩
      obtain ⟨j, hj, hj8⟩ : ∃ j : Nat, (0 : Int) + z % (7 - 0 + 1) = (j : Int) ∧ j < 8 := ⟨((0 : Int) + z % (7 - 0 + 1)).toNat, by omega, by omega⟩
      rw [hj]
      clear hj
      have wj : (Lit.int .i64 (j : Int)).wf = true := wf_i64_mk (by omega) (by omega)
      have k1 := (facts j hj8).1
      have hr : Iq.raised [(j : Int)] p < 256 := by
        unfold Iq.raised
        rw [k1, if_pos rfl]
        exact Nat.or_lt_two_pow (n := 8) hp (orAll_lt _ k1)
      go_wp2_with fail
      have f1 := (Fr.refl (fun _ => False) wr).alloc (Obj.cells #[Value.int .i64 j] 3)
      refine (raise_any _ _ _ _ (br.fr f1 (fun e => e)) (by omega) _ _ _ 1 [(j : Int)] (intsAt_lit [(j : Int)] (Blk.new _ _ _) (wf_list (by intro z hz; simp at hz; subst hz; exact wj))) (by simp [maxLen])).mono ?_
      generalize Iq.raised [(j : Int)] p = p2 at *
      rintro e w2 ⟨rfl, b2, f2⟩
      have fr := (fr.tr f1).trans f2 (by intro i hi e; omega)
      clear f1 f2
      go_wp2_with fail
      exact ⟨⟨k + 1, p2, by omega, by go_num, hr, b2, fr⟩, by simp [intOf]; omega⟩
    · go_wp2_with fail
      all_goals
        refine (setMask_any _ _ _ _ _ br hm4).mono ?_
        rintro e w2 ⟨rfl, b2, f2⟩
        have fr := fr.trans f2 (by intro i hi e; omega)
        clear f2
        go_wp2_with fail
        refine (pending_any _ _ _ _ b2).mono ?_
        rintro e w3 ⟨rfl, rfl⟩
        have hM : m % 256 < 256 := Nat.mod_lt _ (by omega)
        have H256 := Lib.hid (and256 p m hp)
        generalize hMd : m % 256 = M at *
        clear hMd
        go_wp2_with fail
        go_loopw [8, 9, 10, 11, 12] (fun la ta i _ _ wr => ∃ k L : Nat, k ≤ L ∧ L ≤ 8 ∧ i = .int .i64 k ∧ la = .int .i64 ((L : Int) - 1) ∧ ta = .int .u32 (tk (p &&& M) L : Int) ∧ Ctl wr w.heap.size (p &&& (4294967295 - tk (p &&& M) L)) M ∧ Fr (fun _ => False) w wr) (fun _ _ i _ _ _ => 8 - (intOf i).toNat)
        case atStart =>
          have e0 : p &&& (4294967295 - tk (p &&& M) 0) = p := by
            rw [tk_zero, Nat.sub_zero, nat_mask32, Nat.mod_eq_of_lt (by omega)]
          exact ⟨0, 0, by omega, by omega, rfl, rfl, by rw [tk_zero]; rfl, by rw [e0]; exact b2, fr⟩
        case round =>
          clear fr b2 br
          obtain ⟨k, L, hkL, hL8, rfl, rfl, rfl, br, fr⟩ := hrel
          have hx : p &&& M < 256 := Nat.lt_of_le_of_lt Nat.and_le_left hp
          have hw := waits p M L hp hL8
          have hnN : nextN (p &&& (4294967295 - tk (p &&& M) L)) M = low (lft (p &&& M) L) := by unfold nextN; rw [hw]
          have hnB : nextB (p &&& (4294967295 - tk (p &&& M) L)) M = (lft (p &&& M) L != 0) := by unfold nextB; rw [hw]
          have hstep := step_low (p &&& M) hx L hL8
          have htaken := taken_all (p &&& M) hx L hL8
          have HB := Lib.hid hnB
          have HN := Lib.hid hnN
          have Hstep := Lib.hid hstep
          have Htaken := Lib.hid htaken
          have hpl : p &&& (4294967295 - tk (p &&& M) L) < 4294967296 := Nat.lt_of_le_of_lt Nat.and_le_left (by omega)
          have hTl : tk (p &&& M) L < 256 := tk_lt _ hx _ hL8
          clear hnB hnN hstep htaken hw
          have hT2 := hT.fr fr (fun e => e)
          by_cases hk8 : k < 8
          · by_cases hy : lft (p &&& M) L = 0
            · obtain ⟨t1, t2⟩ := Htaken.out (.inl hy)
              rw [hy] at HB HN
              rw [t1] at br HB HN hpl ⊢
              have HB : Hid (nextB (p &&& (4294967295 - (p &&& M))) M = false) := HB
              have HN := Lib.hid HN.out
              clear t1 t2 hy Hstep Htaken hTl
              go_wp2_with fail
              refine (next_any _ _ _ _ hT2 br hpl hM).mono ?_
              rw [HB.out]
              rintro e w4 ⟨rfl, b4, f4⟩
              have hT3 := hT2.fr f4 (fun e => e)
              have fr := fr.tr f4
              clear f4 br hT2
              go_wp2_with fail
              refine (next_any _ _ _ _ hT3 b4 hpl hM).mono ?_
              rw [HB.out]
              rintro e w5 ⟨rfl, b5, f5⟩
              have hT4 := hT3.fr f5 (fun e => e)
              have fr := fr.tr f5
              clear f5 b4 hT3
              have hq1 : bits .and .u32 (p : Int) (m : Int) = ((p &&& m : Nat) : Int) := u32_and_nat p m (by omega) hm4
              have hq2 : ((p &&& m : Nat) : Int) % 256 = ((p &&& M : Nat) : Int) := by rw [← H256.out]; omega
              have hq3 : bits .andNot .u32 (p : Int) ((p &&& M : Nat) : Int) = ((p &&& (4294967295 - (p &&& M)) : Nat) : Int) := u32_andNot_nat _ _ (by omega) (by omega)
              have Hq2 := Lib.hid hq2
              have hq4 : (((p &&& M : Nat) : Int) == ((p &&& m : Nat) : Int) % 256) = true := by rw [hq2]; simp
              clear hq2
              go_wp2_with fail
              refine (pending_any _ _ _ _ b5).mono ?_
              rintro e w6 ⟨rfl, rfl⟩
              go_wp2_with fail
              refine (known_any _ hT4).mono ?_
              rintro e w7 ⟨rfl, f7⟩
              go_wp2_with fail
              go_ret
              exact ⟨rfl, fr.tr f7⟩
            · obtain ⟨s1, s2, s3⟩ := Hstep.out hy
              have hyB : (lft (p &&& M) L != 0) = true := by simpa using hy
              rw [hyB] at HB
              have hpw := pw_b2 _ s2
              have hnl := b2_lt _ s2
              have hnew : (p &&& (4294967295 - tk (p &&& M) L)) &&& (4294967295 - b2 (low (lft (p &&& M) L))) = p &&& (4294967295 - tk (p &&& M) (low (lft (p &&& M) L) + 1)) := by
                rw [Nat.and_assoc, two_not _ hTl _ s2, s3]
              have hbo : bits .or .u32 (tk (p &&& M) L : Int) (b2 (low (lft (p &&& M) L)) : Int) = (tk (p &&& M) (low (lft (p &&& M) L) + 1) : Int) := by
                rw [u32_or_nat _ _ (by omega) (by omega), s3]
              have Hnew := Lib.hid hnew
              clear hnew s3 hy hyB Hstep Htaken
              generalize low (lft (p &&& M) L) = n at *
              go_wp2_with fail
              refine (next_any _ _ _ _ hT2 br hpl hM).mono ?_
              rw [HB.out, HN.out]
              rintro e w4 ⟨rfl, b4, f4⟩
              have fr := fr.tr f4
              clear f4 br
              have hgt : (L : Int) - 1 < (n : Int) := by omega
              go_wp2_with fail
              refine (clear_any _ _ _ _ (b2 n) b4 hpl (by omega)).mono ?_
              rw [Hnew.out]
              rintro e w5 ⟨rfl, b5, f5⟩
              have fr := fr.trans f5 (by intro i hi e; omega)
              clear f5 b4
              go_wp2_with fail
              exact ⟨⟨k + 1, n + 1, by omega, by omega, by go_num, by congr 1; omega, rfl, b5, fr⟩, by simp [intOf]; omega⟩
          · have hL : L = 8 := by omega
            obtain ⟨t1, t2⟩ := Htaken.out (.inr hL)
            rw [t2] at HB HN
            rw [t1] at br HB HN hpl ⊢
            have HB : Hid (nextB (p &&& (4294967295 - (p &&& M))) M = false) := HB
            clear t1 t2 Hstep Htaken hTl hL
            have b4 := br
            have hT3 := hT2
            clear br hT2
            go_wp2_with fail
            refine (next_any _ _ _ _ hT3 b4 hpl hM).mono ?_
            rw [HB.out]
            rintro e w5 ⟨rfl, b5, f5⟩
            have hT4 := hT3.fr f5 (fun e => e)
            have fr := fr.tr f5
            clear f5 b4 hT3
            have hq1 : bits .and .u32 (p : Int) (m : Int) = ((p &&& m : Nat) : Int) := u32_and_nat p m (by omega) hm4
            have hq2 : ((p &&& m : Nat) : Int) % 256 = ((p &&& M : Nat) : Int) := by rw [← H256.out]; omega
            have hq3 : bits .andNot .u32 (p : Int) ((p &&& M : Nat) : Int) = ((p &&& (4294967295 - (p &&& M)) : Nat) : Int) := u32_andNot_nat _ _ (by omega) (by omega)
            have Hq2 := Lib.hid hq2
            have hq4 : (((p &&& M : Nat) : Int) == ((p &&& m : Nat) : Int) % 256) = true := by rw [hq2]; simp
            clear hq2
            go_wp2_with fail
            refine (pending_any _ _ _ _ b5).mono ?_
            rintro e w6 ⟨rfl, rfl⟩
            go_wp2_with fail
            refine (known_any _ hT4).mono ?_
            rintro e w7 ⟨rfl, f7⟩
            go_wp2_with fail
            go_ret
            exact ⟨rfl, fr.tr f7⟩

theorem walk (w : World) (A : Option Addr) (len cap : Nat) (zs : List Int) (hl : IntsAt .i64 w w.heap.size A len zs) (hm : len ≤ maxLen) (m : Int) (hm4 : (Lit.int .u32 m).wf = true) (hT : Tab w) :
    Calls Tryd.prog 3 #[.slice A len cap, .int .u32 m] w fun e w' => e = .returned (.bool true) ∧ Fr (fun _ => False) w w' := by
  obtain ⟨m0, m1⟩ := wf_u32 hm4
  obtain ⟨m, rfl⟩ := Int.eq_ofNat_of_zero_le m0
  exact core w hT A len cap zs hl hm m (by omega)
end Go.Proofs.YtnlkcmjnohageaaDoor.irqTakes
