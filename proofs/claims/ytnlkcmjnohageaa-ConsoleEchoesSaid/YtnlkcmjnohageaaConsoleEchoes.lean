/- ConsoleEchoes: the walk. -/
import Derived.Test.YtnlkcmjnohageaaConsoleLaws
import Derived.Deep.RegionWith
import Derived.Deep.DeepCutAuto
namespace Go.Proofs.Ytnlkcmjnohageaa.consoleEchoes
open Go.RowKit Co
set_option linter.unusedVariables false

/-- a row of bytes of the text's own: a cell of it -/
theorem row_at {w : World} {base g n cap : Nat} {ys : List Int} (h : w.ownsRow base 5 1 (.slice (some ⟨g, 0, none⟩) n cap) n (by8 ys)) {i : Nat} (hi : i < n) :
    w.cell? ⟨g, i, none⟩ = some (.int .u8 (ys.getD i 0)) ∧ w.frozen? ⟨g, i, none⟩ = false := by
  have hl : ys.length = n := by have := h.1; simpa [by8] using this
  refine ⟨?_, h.frozenAt i⟩
  have := h.cells (g := g) rfl i (.int .u8 (ys.getD i 0)) (by simp [by8, show i < ys.length by omega])
  have e : (⟨g, 0, none⟩ : Addr).add i = ⟨g, i, none⟩ := by
    unfold Addr.add
    split
    · rename_i h0; subst h0; rfl
    · simp
  rwa [e] at this
theorem row_set {w : World} {base g n cap : Nat} {ys : List Int} (h : w.ownsRow base 5 1 (.slice (some ⟨g, 0, none⟩) n cap) n (by8 ys)) (i : Nat) (x : Int) :
    (w.setCell ⟨g, i, none⟩ (.int .u8 x)).ownsRow base 5 1 (.slice (some ⟨g, 0, none⟩) n cap) n (by8 (ys.set i x)) := by
  have := (h.stored i (.int .u8 x)).1
  simpa [by8, List.map_set] using this

set_option maxRecDepth 100000 in
set_option maxHeartbeats 8000000 in
theorem walk (w : World) (A : Option Addr) (len cap : Nat) (hc : len ≤ cap) (zs : List Int) (hl : IntsAt .u8 w w.heap.size A len zs) (hm : len ≤ maxLen) (r : Int) (hr : (Lit.int .i64 r).wf = true) :
    Calls Try.prog 10 #[.slice A len cap, .int .i64 r] w fun e w' => e = .returned (.bool true) ∧ Fr (fun _ => False) w w' := by
  obtain ⟨hr0, hr1⟩ := wf_i64 hr
  clear hr
  go_enter Try.func10, Try.ntmps10
  go_wp2_with fail
  refine (cut_any w A len cap 300 hm hc (by omega)).mono ?_
  rintro e w1' ⟨rfl, rfl⟩
  have hA := hl.take (show min len 300 ≤ len from Nat.min_le_left _ _)
  have hla : min len 300 ≤ 300 := Nat.min_le_right _ _
  have hca : min len 300 ≤ cap := by omega
  clear hl hm hc
  generalize min len 300 = la at *
  generalize zs.take la = al at *
  go_wp2_with fail
  refine (new_L w).mono ?_
  rintro e w1 ⟨rfl, c1⟩
  go_wp2_with fail
  refine (Bk.within_any _ _ _ _ hr0 hr1 (by omega) (by omega) (by omega)).mono ?_
  rintro e w1' ⟨rfl, rfl⟩
  obtain ⟨n, hn, hn0, hn61⟩ : ∃ n : Nat, (1 : Int) + (0 + r % (60 - 0 + 1)) = (n : Int) ∧ 1 ≤ n ∧ n ≤ 61 := ⟨((1 : Int) + (0 + r % (60 - 0 + 1))).toNat, by omega, by omega, by omega⟩
  have hn' : (1 : Int) + (r % 61) = (n : Int) := by omega
  go_wp2_with fail
  clear hn hn' hr0 hr1
  have halen := Lib.hid hA.1
  go_loopw [7] (fun a wr => ∃ k : Nat, k ≤ la ∧ a = .int .i64 k ∧ ConL w wr w.heap.size (al.take k) []) (fun a _ => la - (intOf a).toNat)
  case atStart => exact ⟨0, by omega, rfl, by rw [List.take_zero]; exact c1⟩
  case round =>
    clear c1
    obtain ⟨k, hk, rfl, cr⟩ := hrel
    obtain ⟨wo, rfl⟩ : ∃ wo : World, wo = wr := ⟨_, rfl⟩
    by_cases hlt : k < la
    · have hdk : decide (k < la) = true := by simp; omega
      go_upto_if 33 with (fail)
      go_cut [8] (fun c wx => ∃ m : Nat, c = .int .i64 m ∧ k < m ∧ m ≤ la ∧ m ≤ k + 61 ∧ wx = wo)
      case first =>
        go_wp2_with fail
        all_goals
          go_meet
          first
          | exact ⟨la, rfl, by omega, by omega, by omega, rfl⟩
          | exact ⟨k + n, by go_num, by omega, by omega, by omega, rfl⟩
      case rest =>
        obtain ⟨m, rfl, hkm, hma, hm61, rfl⟩ := hcut
        have hsl1 := run_slice8 A la cap k m (by omega) (by omega)
        have rA := cutA_ints (lo := k) (hi := m) hA (by omega) hma hca
        have hLlen : ((al.take m).drop k).length = m - k := by have := halen.out; simp; omega
        have htk : al.take k ++ (al.take m).drop k = al.take m := by
          have e : al.take k = (al.take m).take k := by rw [List.take_take, Nat.min_eq_left (by omega)]
          rw [e, List.take_append_drop]
        have Htk := Lib.hid htk
        clear htk
        have hol : (al.take k).length ≤ 1000 := by simp; omega
        obtain ⟨d, hd⟩ : ∃ d, m - k = d := ⟨_, rfl⟩
        rw [hd] at hsl1 rA hLlen
        have hd0 : 0 < d := by omega
        have hdI : ((m : Int) - (k : Int)) = (d : Int) := by omega
        have hd61 : d ≤ 61 := by omega
        have HL := Lib.hid hLlen
        have Hd := Lib.hid hd
        clear hd hLlen
        generalize (al.take m).drop k = L at *
        generalize al.take k = O at *
        generalize cutA A cap k = A' at *
        go_wp2_with fail
        refine (type_L w _ _ _ _ cr (by simp) _ _ d (cap - k) L (rA.fr cr.fr0 (Nat.le_refl _) (fun _ _ e => e)) (by simp only [maxLen]; omega) (by omega)).mono ?_
        have e1 : min d (64 - ([] : List Int).length) = d := by simp; omega
        have e2 : L.take d = L := List.take_of_length_le (by rw [HL.out]; omega)
        rw [e1, e2, List.nil_append]
        clear e1 e2
        rintro e w3 ⟨rfl, c3⟩
        clear cr
        go_wp2_with fail
        obtain ⟨F, d1, d2⟩ := c3
        have hin := input_any _ _ _ _ _ _ d1 (by rw [HL.out]; omega) w.heap.size d2.size
        rw [HL.out] at hin
        refine hin.mono ?_
        rintro e w4 ⟨v4, rfl, ho4, f4, k4⟩
        have hFw : ∀ k, F k → k < w3.heap.size := by
          intro k hk
          obtain ⟨_, _, _, _, _, _, _, _, _, h8⟩ := d1
          exact (h8 k hk).2
        have d4 := d1.fr f4 (fun _ _ e => e)
        have d24 := d2.tr f4
        obtain ⟨g4, c4, hv4⟩ := own_pos ho4 (by omega)
        subst hv4
        have hg4 : w3.heap.size ≤ g4 := k4 g4 rfl
        clear d1 hin k4 f4
        go_wp2_with fail
        go_loopw [11] (fun i wr => ∃ j : Nat, ∃ ys : List Int, j ≤ d ∧ i = .int .i64 j ∧ wr.ownsRow w.heap.size 5 1 (.slice (some ⟨g4, 0, none⟩) d c4) d (by8 ys) ∧ Fr (fun q => q = g4) w4 wr) (fun i _ => d - (intOf i).toNat)
        case atStart => exact ⟨0, L, by omega, rfl, ho4, Fr.refl _ _⟩
        case round =>
          clear ho4
          obtain ⟨j, ys, hj, rfl, ho, fo⟩ := hrel
          by_cases hlt2 : j < d
          · obtain ⟨r1, r2⟩ := row_at ho hlt2
            have hst := row_set ho j ((ys.getD j 0 + 1) % 256)
            have fst := fo.setCell (p := ⟨g4, j, none⟩) (.inl rfl) (.int .u8 ((ys.getD j 0 + 1) % 256))
            generalize ys.getD j 0 = y at *
            go_wp2_with fail
            go_roundw
            case rel => exact ⟨j + 1, _, by omega, by go_num, hst, fst⟩
            case measure => simp [intOf]; omega
          · have hFg : ∀ q, F q → ¬ q = g4 := fun q hq e => by have := hFw q hq; omega
            have dA := d4.fr fo hFg
            have d2A := d24.trans fo (fun i hi e => by have := d2.size; omega)
            have cA : ConL w wr w.heap.size O L := ⟨F, dA, d2A⟩
            clear dA d2A hFg ho fo d4 d24 d2 hFw
            go_wp2_with fail
            clear hlt2
            go_loopw [9] (fun q wr => ∃ j : Nat, j ≤ d ∧ q = .int .i64 ((d : Int) - (j : Int)) ∧ ConL w wr w.heap.size (O ++ L.take j) (L.drop j)) (fun q _ => (intOf q).toNat)
            case atStart => exact ⟨0, by omega, by simp, by simpa using cA⟩
            case round =>
              clear cA
              obtain ⟨j, hj, rfl, cB⟩ := hrel
              have hdl : (L.drop j).length = d - j := by rw [List.length_drop, HL.out]
              by_cases hlt3 : j < d
              · have hsplit : L.drop j = L.getD j 0 :: L.drop (j + 1) := by
                  have hlen : j < L.length := by rw [HL.out]; exact hlt3
                  rw [List.drop_eq_getElem_cons hlen]
                  congr 1
                  simp [hlen]
                have htk1 : L.take (j + 1) = L.take j ++ [L.getD j 0] := by
                  have hlen : j < L.length := by rw [HL.out]; exact hlt3
                  rw [List.take_succ_eq_append_getElem hlen]
                  simp [hlen]
                have hq0 : (0 : Int) < (d : Int) - (j : Int) := by omega
                have hw0 : (0 : Int) < ((d - j : Nat) : Int) := by omega
                go_wp2_with fail
                refine (waits_L _ _ _ _ _ cB).mono ?_
                rw [hdl]
                rintro e w7 ⟨rfl, rfl⟩
                generalize hWn : d - j = Wn at *
                rw [hsplit] at cB
                have Htk1 := Lib.hid htk1
                have hl1 : (L.drop (j + 1)).length ≤ 64 := by rw [List.length_drop, HL.out]; omega
                have hol2 : (O ++ L.take j).length ≤ 1099511627776 := by rw [List.length_append, List.length_take]; have := HL.out; omega
                clear hsplit htk1 hdl hWn
                generalize L.getD j 0 = y at *
                go_wp2_with fail
                refine (read_L w _ _ _ _ _ cB hl1).mono ?_
                rintro e w8 ⟨rfl, c8⟩
                go_wp2_with fail
                refine (write_L w _ _ _ _ _ c8 hol2).mono ?_
                rintro e w9 ⟨rfl, c9⟩
                go_wp2_with fail
                go_roundw
                case rel => exact ⟨j + 1, by omega, by congr 1; omega, by rw [Htk1.out, ← List.append_assoc]; exact c9⟩
                case measure => simp [intOf]; omega
              · have hjm : j = d := by omega
                have hdl0 : L.drop j = [] := List.drop_eq_nil_of_le (by rw [HL.out]; omega)
                have htl : L.take j = L := List.take_of_length_le (by rw [HL.out]; omega)
                rw [hdl0, htl, Htk.out] at cB
                have hz0 : (d : Int) - (j : Int) = 0 := by omega
                rw [hz0]
                clear hdl hdl0 htl hz0 hlt3 hjm hj
                go_wp2_with fail
                refine (waits_L _ _ _ _ _ cB).mono ?_
                rintro e w7 ⟨rfl, rfl⟩
                go_wp2_with fail
                refine (waits_L _ _ _ _ _ cB).mono ?_
                rintro e w7 ⟨rfl, rfl⟩
                go_wp2_with fail
                go_roundw
                case rel => exact ⟨m, hma, rfl, cB⟩
                case measure => simp [intOf]; omega
    · have hk2 : k = la := by omega
      subst hk2
      have htl : al.take k = al := List.take_of_length_le (by rw [halen.out]; omega)
      rw [htl] at cr
      clear htl hlt
      have cvA : ∀ W, Fr (fun _ => False) w W → (convert 33 9 (.slice A k cap)).run Try.prog W = .ok (.string (str al)) W := fun W f => run_str W w.heap.size A _ _ al ((intsAt_reads hA).keep (fun p hp => f.cell rfl hp (fun e => e)))
      have CA := Lib.hid cvA
      clear cvA
      obtain ⟨F, d1, d2⟩ := cr
      have hFw : ∀ q, F q → q < wo.heap.size := by
        intro k hk
        obtain ⟨_, _, _, _, _, _, _, _, _, h8⟩ := d1
        exact (h8 k hk).2
      have hin := output_any _ _ _ _ _ _ d1 (by rw [halen.out]; omega) w.heap.size d2.size
      rw [halen.out] at hin
      go_wp2_with fail
      refine hin.mono ?_
      rintro e w4 ⟨v4, rfl, ho4, f4, k4⟩
      have d4 := d1.fr f4 (fun _ _ e => e)
      have d24 := d2.tr f4
      obtain ⟨A4, c4, hv4⟩ := own_any ho4
      subst hv4
      have hsA := CA.out _ d24
      have hs4 := run_str w4 _ A4 k c4 al (Reads.of_own ho4)
      clear d1 hin f4
      go_wp2_with fail
      go_loopw [14] (fun i wr => ∃ j : Nat, ∃ ys : List Int, j ≤ k ∧ i = .int .i64 j ∧ wr.ownsRow w.heap.size 5 1 (.slice A4 k c4) k (by8 ys) ∧ Fr (fun q => (Value.slice A4 k c4).ownBlock = some q) w4 wr) (fun i _ => k - (intOf i).toNat)
      case atStart => exact ⟨0, al, by omega, rfl, ho4, Fr.refl _ _⟩
      case round =>
        clear ho4 hsA hs4
        obtain ⟨j, ys, hj, rfl, ho, fo⟩ := hrel
        by_cases hlt2 : j < k
        · obtain ⟨g4, c5, hv⟩ := own_pos ho (by omega)
          have hv1 : A4 = some ⟨g4, 0, none⟩ := by injection hv
          have hv2 : c4 = c5 := by injection hv
          subst hv1 hv2
          obtain ⟨r1, r2⟩ := row_at ho hlt2
          have hst := row_set ho j ((ys.getD j 0 + 1) % 256)
          have fst := fo.setCell (p := ⟨g4, j, none⟩) (.inl rfl) (.int .u8 ((ys.getD j 0 + 1) % 256))
          generalize ys.getD j 0 = y at *
          clear hv
          go_wp2_with fail
          go_roundw
          case rel => exact ⟨j + 1, _, by omega, by go_num, hst, fst⟩
          case measure => simp [intOf]; omega
        · have dA := d4.fr fo (fun q hq e => by have := hFw q hq; have := k4 q e; omega)
          have d2A := d24.trans fo (fun i hi e => by have := d2.size; have := k4 i e; omega)
          clear fo ho d4 d24 k4 hFw
          have dD := dA.fr ((Fr.refl (fun _ => False) _).drew) (fun _ _ e => e)
          have d2D := d2A.tr ((Fr.refl (fun _ => False) _).drew)
          have hin := output_any _ _ _ _ _ _ dD (by rw [halen.out]; omega) w.heap.size d2D.size
          rw [halen.out] at hin
          have hkn2 := fun W => known_any W
          have a0 := CA.out _ d2D
          clear dA
          go_wp2_with fail
          go_region_with (first
            | (go_at_call 27; refine hin.mono ?_; rintro e w5 ⟨v5, rfl, ho5, f5, k5⟩; have a5 := CA.out _ (d2D.tr f5); obtain ⟨A5, c5, hv5⟩ := own_any ho5; subst hv5; have i5 := run_str w5 _ A5 k c5 al (Reads.of_own ho5))
            | (go_at_call 21; refine (hkn2 _).mono ?_; rintro e w6 ⟨rfl, f6⟩))
          all_goals
            go_wp2_with fail
            go_ret
            exact ⟨rfl, (d2D.tr f5).tr f6⟩
end Go.Proofs.Ytnlkcmjnohageaa.consoleEchoes
