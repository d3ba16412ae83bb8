/- ConsoleRooms: the walk. -/
import Derived.Test.YtnlkcmjnohageaaConsoleLaws
import Derived.Deep.RegionWith
import Derived.Deep.DeepCutAuto
namespace Go.Proofs.Ytnlkcmjnohageaa.consoleRooms
open Go.RowKit Co
set_option linter.unusedVariables false

set_option maxRecDepth 100000 in
set_option maxHeartbeats 4000000 in
theorem walk (w : World) (A : Option Addr) (len cap : Nat) (hc : len ≤ cap) (zs : List Int) (hl : IntsAt .u8 w w.heap.size A len zs) (hm : len ≤ maxLen)
    (A2 : Option Addr) (len2 cap2 : Nat) (hc2 : len2 ≤ cap2) (zs2 : List Int) (hl2 : IntsAt .u8 w w.heap.size A2 len2 zs2) (hm2 : len2 ≤ maxLen) (r : Int) (hr : (Lit.int .i64 r).wf = true) :
    Calls Try.prog 8 #[.slice A len cap, .slice A2 len2 cap2, .int .i64 r] w fun e w' => e = .returned (.bool true) ∧ Fr (fun _ => False) w w' := by
  obtain ⟨hr0, hr1⟩ := wf_i64 hr
  clear hr
  go_enter Try.func8, Try.ntmps8
  go_wp2_with fail
  refine (new_L w).mono ?_
  rintro e w1 ⟨rfl, c1⟩
  go_wp2_with fail
  refine (cut_any w1 A len cap 100 hm hc (by omega)).mono ?_
  rintro e w1' ⟨rfl, rfl⟩
  go_wp2_with fail
  refine (cut_any w1 A2 len2 cap2 100 hm2 hc2 (by omega)).mono ?_
  rintro e w1' ⟨rfl, rfl⟩
  have hA := hl.take (show min len 100 ≤ len from Nat.min_le_left _ _)
  have hB := hl2.take (show min len2 100 ≤ len2 from Nat.min_le_left _ _)
  have hla : min len 100 ≤ 100 := Nat.min_le_right _ _
  have hlb : min len2 100 ≤ 100 := Nat.min_le_right _ _
  have hca : min len 100 ≤ cap := by omega
  have hcb : min len2 100 ≤ cap2 := by omega
  clear hl hl2 hm hm2 hc hc2
  generalize min len 100 = la at *
  generalize min len2 100 = lb at *
  generalize zs.take la = al at *
  generalize zs2.take lb = bl at *
  go_wp2_with fail
  refine (type_L w _ _ _ _ c1 (by simp) _ _ la cap al (hA.fr c1.fr0 (Nat.le_refl _) (fun _ _ e => e)) (by simp only [maxLen]; omega) hca).mono ?_
  have hn1 : min la (64 - ([] : List Int).length) ≤ la := Nat.min_le_left _ _
  have hn2 : min la (64 - ([] : List Int).length) ≤ 64 := by simp; omega
  have hn3 : min la (64 - ([] : List Int).length) = la ∨ min la (64 - ([] : List Int).length) = 64 := by simp; omega
  rw [List.nil_append]
  generalize min la (64 - ([] : List Int).length) = n at *
  rintro e w2 ⟨rfl, c2⟩
  have Hn3 := Lib.hid hn3
  clear hn3 c1
  go_wp2_with fail
  refine (Bk.within_any _ _ _ _ hr0 hr1 (by omega) (by omega) (by omega)).mono ?_
  rintro e w1' ⟨rfl, rfl⟩
  obtain ⟨k, hk, hkn⟩ : ∃ k : Nat, (0 : Int) + r % ((n : Int) - 0 + 1) = (k : Int) ∧ k ≤ n := by
    have h1 := Int.emod_nonneg r (show (n : Int) - 0 + 1 ≠ 0 by omega)
    have h2 := Int.emod_lt_of_pos r (show (0 : Int) < (n : Int) - 0 + 1 by omega)
    exact ⟨((0 : Int) + r % ((n : Int) - 0 + 1)).toNat, by omega, by omega⟩
  rw [hk]
  clear hk hr0 hr1
  have halen := Lib.hid hA.1
  have hblen := Lib.hid hB.1
  go_wp2_with fail
  go_loopw [10] (fun i wr => ∃ j : Nat, j ≤ k ∧ i = .int .i64 j ∧ ConL w wr w.heap.size [] ((al.take n).drop j)) (fun i _ => k - (intOf i).toNat)
  case atStart => exact ⟨0, by omega, rfl, by rw [List.drop_zero]; exact c2⟩
  case round =>
    clear c2
    obtain ⟨j, hj, rfl, cr⟩ := hrel
    by_cases hlt : j < k
    · have hsplit : (al.take n).drop j = al.getD j 0 :: (al.take n).drop (j + 1) := by
        have hlen : j < (al.take n).length := by have := halen.out; simp; omega
        rw [List.drop_eq_getElem_cons hlen]
        congr 1
        have h2 : j < al.length := by have := halen.out; omega
        simp [h2]
      rw [hsplit] at cr
      obtain ⟨b, off, rfl, hb, hcell⟩ := hA.at_ (show j < la by omega)
      have hcr := cr.fr0.cell hcell hb (fun e => e)
      have hrl : ((al.take n).drop (j + 1)).length ≤ 64 := by simp; omega
      clear hsplit
      generalize al.getD j 0 = x at *
      generalize hrest : (al.take n).drop (j + 1) = rest at *
      have Hrest := Lib.hid hrest
      clear hrest
      have hj1 : (j : Int) < (la : Int) := by omega
      go_wp2_with fail
      have crd := cr.fr ((Fr.refl _ _).drew)
      have hw0 : b < wr.heap.size := Nat.lt_of_lt_of_le hb cr.fr0.size
      clear hcr
      have hcd := crd.fr0.cell hcell hb (fun e => e)
      clear cr
      go_region_with (go_at_call 17; refine (read_L w _ _ _ _ _ crd hrl).mono ?_; rintro e w3 ⟨rfl, c3⟩; have hc3 := c3.fr0.cell hcell hb (fun e => e))
      all_goals
        go_wp2_with fail
        exact ⟨⟨j + 1, by omega, by go_num, by rw [Hrest.out]; exact c3⟩, by simp [intOf]; omega⟩
    · have hjk : j = k := by omega
      subst hjk
      have hil : ((al.take n).drop j).length = n - j := by have := halen.out; simp; omega
      go_wp2_with fail
      refine (type_L w _ _ _ _ cr (by rw [hil]; omega) _ _ lb cap2 bl (hB.fr cr.fr0 (Nat.le_refl _) (fun _ _ e => e)) (by simp only [maxLen]; omega) hcb).mono ?_
      rw [hil]
      have hm1 : min lb (64 - (n - j)) ≤ lb := Nat.min_le_left _ _
      have hm2 : min lb (64 - (n - j)) = lb ∨ min lb (64 - (n - j)) < lb ∧ n - j + min lb (64 - (n - j)) = 64 := by omega
      have hm3 : n - j + min lb (64 - (n - j)) ≤ 64 := by omega
      generalize min lb (64 - (n - j)) = m at *
      rintro e w3 ⟨rfl, c3⟩
      have hWl : ((al.take n).drop j ++ bl.take m).length = n - j + m := by rw [List.length_append, hil, List.length_take, hblen.out]; omega
      clear hil cr
      obtain ⟨W, hW, hWI, hW64⟩ : ∃ W : Nat, ((al.take n).drop j ++ bl.take m).length = W ∧ ((W : Int) != (n : Int) - (j : Int) + (m : Int)) = false ∧ W ≤ 64 := ⟨_, rfl, by rw [hWl]; simp; omega, by rw [hWl]; exact hm3⟩
      have hA2 : n = la ∨ (n ≠ la ∧ n = 64) := by have := Hn3.out; omega
      have hB2 : m = lb ∨ (m < lb ∧ W = 64) := by omega
      have HW := Lib.hid hW
      clear hW hWl hm2 hm3
      have q1 : ((n : Int) < 0) = False := by simp
      have q2 : ((la : Int) < n) = False := by simp; omega
      have q3 : ((lb : Int) < m) = False := by simp; omega
      have q4 : ((64 : Int) < (W : Int)) = False := by simp; omega
      have q5 : ((m : Int) < 0) = False := by simp
      have q6 : ((64 : Int) < (n : Int)) = False := by simp; omega
      have hend : ∀ (P : Prop), (((n : Int) != (la : Int)) = false → ((m : Int) < (lb : Int)) = False → P) → (((n : Int) != (la : Int)) = false → ((m : Int) < (lb : Int)) = True → ((W : Int) != 64) = false → P) → (((n : Int) != (la : Int)) = true → ((n : Int) != 64) = false → ((m : Int) < (lb : Int)) = False → P) → (((n : Int) != (la : Int)) = true → ((n : Int) != 64) = false → ((m : Int) < (lb : Int)) = True → ((W : Int) != 64) = false → P) → P := by
        intro P p1 p2 p3 p4
        rcases hA2 with a | ⟨a1, a2⟩ <;> rcases hB2 with b | ⟨b1, b2⟩
        · exact p1 (by simp [a]) (by simp [b])
        · exact p2 (by simp [a]) (by simp; omega) (by simp [b2])
        · exact p3 (by simp; omega) (by simp [a2]) (by simp [b])
        · exact p4 (by simp; omega) (by simp [a2]) (by simp; omega) (by simp [b2])
      go_upto_region 17 with (fail)
      go_cut [99] (fun c wx => c = .bool false ∧ wx = w3)
      case first =>
        apply hend
        all_goals
          intros
          clear hend hA2 hB2
          go_wp2_with (first
            | (go_at_call 19; refine (waits_L _ _ _ _ _ c3).mono ?_; rw [HW.out]; rintro e w4 ⟨rfl, rfl⟩))
          go_meet
          exact ⟨rfl, rfl⟩
      case rest =>
        clear hend hA2 hB2
        obtain ⟨rfl, rfl⟩ := hcut
        go_wp2_with fail
        have hcd := c3.fr ((Fr.refl _ _).drew)
        have hsl1 := run_slice8 A la cap j n hkn (by omega)
        have hsl2 : ∀ W, (Instr.slice 33 (.slice A2 lb cap2) none (some (.int .i64 (m : Int))) none).run Try.prog W = .ok (.slice A2 m cap2) W := fun W => run_slice8h A2 lb cap2 m (by omega) W
        have rA := cutA_reads (lo := j) (hi := n) (intsAt_reads hA) hkn hn1 hca
        have rB := intsAt_reads (hB.take hm1)
        have eA : ((al.map (Value.int .u8)).take n).drop j = by8 ((al.take n).drop j) := by simp [by8, List.map_take, List.map_drop]
        rw [eA] at rA
        generalize (al.take n).drop j = X at *
        generalize bl.take m = Y at *
        generalize cutA A cap j = A' at *
        have cvA : ∀ W, Fr (fun _ => False) w W → (convert 33 9 (.slice A' (n - j) (cap - j))).run Try.prog W = .ok (.string (str X)) W := fun W f => run_str W w.heap.size A' _ _ X (rA.keep (fun p hp => f.cell rfl hp (fun e => e)))
        have cvB : ∀ W, Fr (fun _ => False) w W → (convert 33 9 (.slice A2 m cap2)).run Try.prog W = .ok (.string (str Y)) W := fun W f => run_str W w.heap.size A2 _ _ Y (rB.keep (fun p hp => f.cell rfl hp (fun e => e)))
        have a0 := cvA _ hcd.fr0
        have b0 := cvB _ hcd.fr0
        obtain ⟨F, d1, d2⟩ := hcd
        have hin := input_any _ _ _ _ _ _ d1 (by rw [HW.out]; omega) w.heap.size d2.size
        rw [HW.out] at hin
        have hkn2 := fun W => known_any W
        have hXY : str (X ++ Y) = str X ++ str Y := str_append X Y
        have hsz : (str X).size + (str Y).size ≤ 9223372036854775807 := by
          have e1 : X.length + Y.length = W := by have := HW.out; simpa using this
          have e2 : (str X).size = X.length := by rw [ByteArray.size, str_data]; simp
          have e3 : (str Y).size = Y.length := by rw [ByteArray.size, str_data]; simp
          rw [e2, e3]; omega
        have hadd := fun W => run_string_add_sum (P := Try.prog) W (str X) (str Y) hsz
        clear hsz
        have CA := Lib.hid cvA
        have CB := Lib.hid cvB
        clear cvA cvB eA
        go_region_with (first
          | (go_at_call 20; refine hin.mono ?_; rintro e w5 ⟨v5, rfl, ho5, f5, k5⟩; have a5 := CA.out _ (d2.tr f5); have b5 := CB.out _ (d2.tr f5); obtain ⟨A5, c5, hv5⟩ := own_any ho5; subst hv5; have i5 := run_str w5 _ A5 W c5 (X ++ Y) (Reads.of_own ho5))
          | (go_at_call 21; refine (hkn2 _).mono ?_; rintro e w6 ⟨rfl, f6⟩))
        all_goals
          go_wp2_with fail
          go_ret
          exact ⟨rfl, (d2.tr f5).tr f6⟩
end Go.Proofs.Ytnlkcmjnohageaa.consoleRooms
