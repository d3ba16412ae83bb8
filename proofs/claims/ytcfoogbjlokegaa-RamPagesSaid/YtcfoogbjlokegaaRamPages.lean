/- RamPages: the walk. -/
import Derived.Test.YtcfoogbjlokegaaRamLaws
import Derived.Test.YtcfoogbjlokegaaSized
import Derived.Deep.RegionWith
namespace Go.Proofs.Ytcfoogbjlokegaa.ramPages
open Go.RowKit Fm Nt Rm By
set_option linter.unusedVariables false
set_option maxHeartbeats 4000000

def by8 (l : List Int) : List Value := l.map (Value.int .u8)
theorem by8_len (l : List Int) : (by8 l).length = l.length := by simp [by8]
theorem lst_more (z z' y : Nat → Int) (i : Nat) (h : ∀ k, k < i * 64 → z' k = z k) (h2 : ∀ k, k < 64 → z' (i * 64 + k) = y k) : lst z' ((i + 1) * 64) = lst z (i * 64) ++ lst y 64 := by
  unfold lst
  rw [show (i + 1) * 64 = i * 64 + 64 by omega, List.range_add, List.map_append, List.map_map]
  congr 1
  · exact List.map_congr_left (fun k hk => h k (by simpa using hk))
  · exact List.map_congr_left (fun k hk => h2 k (by simpa using hk))
theorem set_u8 {w : World} {g n : Nat} {z : Nat → Int} (h : Cells w g 5 n (fun k => .int .u8 (z k))) (j : Nat) (x : Int) : Cells (w.setCell ⟨g, j, none⟩ (.int .u8 x)) g 5 n (fun k => .int .u8 (updI z j x k)) :=
  Cells.congr (Cells.set_ h j _) (fun i hi => by unfold putV updI; split <;> rfl)
theorem lst_wf {z : Nat → Int} {N : Nat} (h : ∀ k, k < N → 0 ≤ z k ∧ z k < 256) : ∀ y ∈ lst z N, (Lit.int .u8 y).wf = true := by
  intro y hy
  simp only [lst, List.mem_map, List.mem_range] at hy
  obtain ⟨k, hk, rfl⟩ := hy
  have := h k hk
  exact wf_u8_mk (by omega) (by omega)
theorem cell_parts {w : World} {x : Addr} {r : Nat} {v v0 : Value} (hx : w.cell? (x.add 0) = some v0) (h : w.cell? (x.add r) = some v) : ∃ b off, x = ⟨b, off, none⟩ ∧ b < w.heap.size ∧ w.cell? ⟨b, off + r, none⟩ = some v := by
  obtain ⟨b, off, spot⟩ := x
  have hspot : spot = none := by simpa [Addr.add] using World.cell?_spot hx
  subst hspot
  refine ⟨b, off, rfl, ?_, ?_⟩
  · rcases Nat.lt_or_ge b w.heap.size with h1 | h1
    · exact h1
    · exfalso
      have : w.heap[b]? = none := Array.getElem?_eq_none h1
      unfold Addr.add at h
      split at h <;> simp [World.cell?, this] at h
  · rw [← h]
    unfold Addr.add
    split
    · rename_i h0; subst h0; rfl
    · rfl
set_option maxRecDepth 100000 in
theorem walk (w : World) (A0 : Option Addr) (len cap : Nat) (A : Nat → Option Addr) (L C : Nat → Nat) (Z : Nat → List Int)
    (hrow : ∀ r, r < len → ∃ b off, A0 = some ⟨b, off, none⟩ ∧ b < w.heap.size ∧ w.cell? ⟨b, off + r, none⟩ = some (.slice (A r) (L r) (C r)) ∧ IntsAt .u8 w w.heap.size (A r) (L r) (Z r)) :
    Calls Try.prog 11 #[.slice A0 len cap] w fun e w' => e = .returned (.bool true) ∧ Fr (fun _ => False) w w' := by
  obtain ⟨i0, hi0, hz0, hz1, hz2⟩ := info_parts infoU8
  have HROW := Lib.hid hrow
  have hmk : ∀ W, (Instr.makeSlice 57 (.int .i64 64) (.int .i64 64)).run Try.prog W = .ok (.slice (some ⟨W.heap.size, 0, none⟩) 64 64) (W.alloc (.cells (zU 64) 5)) := fun W => run_makeU .i64 64 (by omega) W
  have Hfr := Lib.hid (fun W => fresh7 W 5 (by omega) (by omega))
  clear hrow
  go_enter Try.func11, Try.ntmps11
  go_wp2_with fail
  refine (Hfr.out _).mono ?_
  rintro e w1 ⟨a, rfl, hM, hba, f1⟩
  have Hba := Lib.hid hba
  have Hlt := Lib.hid hM.lt
  have hs1 := f1.size
  clear hba
  go_wp2_with fail
  go_loopw [5, 6] (fun v i wr => ∃ (r : Nat) (m : Ms), r ≤ 5 ∧ i = .int .i64 r ∧ Mem wr a m ∧ m.n = 5 ∧ wr.ownsRow w1.heap.size 5 1 v (r * 64) (by8 (lst m.mem (r * 64))) ∧ Fr (fun _ => False) w wr ∧ w1.heap.size ≤ wr.heap.size) (fun _ i _ => 5 - (intOf i).toNat)
  case atStart => exact ⟨0, _, by omega, rfl, hM, rfl, ⟨by simp [lst, by8], .inl ⟨rfl, by simp⟩⟩, f1, Nat.le_refl _⟩
  case round =>
    clear hM f1
    obtain ⟨r, m, hr, rfl, hM, hn, hown, fr, hsz⟩ := hrel
    obtain ⟨wo, rfl⟩ : ∃ wo : World, wo = wr := ⟨_, rfl⟩
    have hgb := hM.lt
    have hwn := own_lt hown
    have hwb := own_base hown
    by_cases hlt : r < 5
    · have hdk : decide ((r : Int) < 5) = true := by simp; omega
      have hcz := cellsU wo 64 rfl
      have fz := (Fr.refl (fun _ => False) wo).alloc (.cells (zU 64) 5)
      go_upto_if 32 with (fail)
      clear hmk
      generalize wo.alloc (.cells (zU 64) 5) = wz at *
      go_cut [7] (fun p wx => ∃ (gp : Nat) (z : Nat → Int), p = .slice (some ⟨gp, 0, none⟩) 64 64 ∧ wo.heap.size ≤ gp ∧ Cells wx gp 5 64 (fun k => .int .u8 (z k)) ∧ (∀ k, k < 64 → 0 ≤ z k ∧ z k < 256) ∧ Fr (fun _ => False) wo wx)
      case first => as_aux_lemma =>
        by_cases hl : r < len
        · obtain ⟨b, off, rfl, hb, hc, hI⟩ := HROW.out r hl
          have frz := fr.tr fz
          have hcr := frz.cell hc hb (fun e => e)
          have hdl : decide (r < len) = true := by simp; omega
          have hsd := Lib.hid (sized_any wz (A r) (L r) (C r) w.heap.size (Z r) (hI.fr frz (Nat.le_refl _) (fun _ _ e => e)) frz.size 64 (by omega))
          have hbd := Lib.hid (sized_bd hI)
          clear hI hc
          go_wp2_with fail
          refine (hsd.out).mono ?_
          rintro e w' ⟨rfl, hc, f⟩
          go_wp2_with fail
          go_meet
          exact ⟨_, sized (Z r), rfl, fz.size, hc, fun k _ => hbd.out k, fz.tr f⟩
        · have hdl : decide (r < len) = false := by simp; omega
          go_wp2_with fail
          go_meet
          exact ⟨_, fun _ => 0, rfl, Nat.le_refl _, hcz, fun _ _ => ⟨Int.le_refl 0, show (0 : Int) < 256 by decide⟩, fz⟩
      case rest => as_aux_lemma =>
        obtain ⟨gp, z, rfl, hgp, hcp, hz, fx⟩ := hcut
        clear hcz fz hdk
        have hMc := hM.fr0 fx
        have hownc := own_fr hown fx (fun _ _ e => e)
        have hI := cells_ints hcp hz
        have hpg : pgB m (r : Int) 64 = true := by simp [pgB, hn]; omega
        have hpp := putPage_any wc a m hMc (r : Int) (some ⟨gp, 0, none⟩) 64 64 (gp + 1) (lst z 64) hI hcp.lt (fun _ b off e ho => by
          injection e with e
          injection e with e1 e2
          have := hgb b ho
          omega) (by simp [maxLen])
        have epp : m.putP (r : Int) (lst z 64) = m.puts (r * 64) (lst z 64) 64 := by rw [Ms.putP, lst_len, if_pos hpg]; rfl
        rw [hpg, epp] at hpp
        have Hpp := Lib.hid hpp
        have hmem : ∀ k, (m.puts (r * 64) (lst z 64) 64).mem k = if r * 64 ≤ k ∧ k < r * 64 + 64 then z (k - r * 64) else m.mem k := fun k => by
          rw [puts_mem]
          by_cases h : r * 64 ≤ k ∧ k < r * 64 + 64
          · rw [if_pos h, if_pos h, lst_at _ (by omega)]
          · rw [if_neg h, if_neg h]
        have hn2 : (m.puts (r * 64) (lst z 64) 64).n = 5 := by rw [puts_n]; exact hn
        have hls : lst (m.puts (r * 64) (lst z 64) 64).mem ((r + 1) * 64) = lst m.mem (r * 64) ++ lst z 64 := lst_more _ _ _ _ (fun k hk => by rw [hmem, if_neg (by omega)]) (fun k hk => by rw [hmem, if_pos (by omega), show r * 64 + k - r * 64 = k by omega])
        have Hmem := Lib.hid hmem
        have Hn2 := Lib.hid hn2
        have Hls := Lib.hid hls
        have Hz := Lib.hid hz
        clear hpp hpg epp hmem hn2 hls hz hI hM hMc hown
        generalize m.puts (r * 64) (lst z 64) 64 = m2 at *
        generalize hol : by8 (lst m.mem (r * 64)) = ol at *
        go_wp2_with fail
        refine (Hpp.out).mono ?_
        rintro e w2 ⟨rfl, hM2, f2⟩
        have hcp2 := hcp.fr f2 (fun e => by have := hgb _ e; omega)
        have hown2 := own_fr hownc f2 (fun q hq e => by have := Hlt.out q e; have := hwb q hq; omega)
        have fr2 := (fr.tr fx).trans (S := fun _ => False) f2 (fun i hi e => by have := Hba.out i e; omega)
        have hI2 := cells_ints hcp2 Hz.out
        have hs2 : w1.heap.size ≤ w2.heap.size := by have := f2.size; have := fx.size; omega
        clear hcp hownc
        go_wp2_with
          (at_builtin
           refine wpList_append_any _ rfl (.tmp 43) (.tmp 44) _ rfl w1.heap.size 5 i0 _ 1 1 Try.underlying57 hi0 hz0 hz1 hz2 rfl (by omega) u5 (r * 64) ol rfl hown2 (gp + 1) (some ⟨gp, 0, none⟩) 64 64 (by8 (lst z 64)) rfl (intsAt_reads hI2) oneCell_ints (by simp only [maxLen]; omega) (by omega) hs2 ?_
           intro v1 w3 hown3 hg3 hat3)
        have f3 : Fr (fun q => u5.ownBlock = some q) w2 w3 := (Fr.refl _ w2).grown hg3 (fun q hq => .inl hq)
        have hM3 := hM2.fr f3 (fun q hq e => by have := Hlt.out q hq; have := hwb q e; omega)
        have hcp3 := hcp2.fr f3 (fun e => by have := hwn _ e; omega)
        have fr3 := fr2.trans (S := fun _ => False) f3 (fun i hi e => by have := hwb i e; omega)
        have hs3 : w1.heap.size ≤ w3.heap.size := by have := f3.size; omega
        have hpgn := page_in w3 a m2 hM3 (r : Int) (by omega) (by rw [Hn2.out]; omega)
        rw [show (r : Int).toNat = r from rfl] at hpgn
        have Hpgn := Lib.hid hpgn
        have Hown3 := Lib.hid hown3
        have hg3' := hcp3.lt
        have hg2 := hcp2.lt
        have hw3 := own_lt Hown3.out
        clear hpgn hown2 hI2 hcp2 hM2 hown3 hg3 f3 f2
        go_wp2_with fail
        refine (Hpgn.out).mono ?_
        rintro e w4 ⟨rfl, hcq, f4⟩
        have hcq : Cells w4 w3.heap.size 5 64 (fun k => .int .u8 (z k)) := Cells.congr hcq (fun k hk => by rw [Hmem.out, if_pos (by omega), show r * 64 + k - r * 64 = k by omega])
        have hM4 := hM3.fr0 f4
        have hcp4 := hcp3.fr f4 (fun e => e)
        have fr4 := fr3.tr f4
        have hown4 := own_fr Hown3.out f4 (fun _ _ e => e)
        have q1 : (convert 57 9 (.slice (some ⟨w3.heap.size, 0, none⟩) 64 64)).run Try.prog w4 = .ok (.string (str (lst z 64))) w4 := str_of_ints (cells_ints hcq Hz.out)
        have q2 : (convert 57 9 (.slice (some ⟨gp, 0, none⟩) 64 64)).run Try.prog w4 = .ok (.string (str (lst z 64))) w4 := str_of_ints (cells_ints hcp4 Hz.out)
        have hs4 := f4.size
        have Hown4 := Lib.hid hown4
        clear hcp3 hM3 hown4
        generalize str (lst z 64) = sq at *
        go_wp2_with fail
        clear q1 q2
        have hpq : gp ≠ w3.heap.size := by omega
        generalize hgq : w3.heap.size = gq at *
        go_loopw [10] (fun k wx => ∃ j : Nat, j ≤ 64 ∧ k = .int .i64 j ∧ (∃ zq : Nat → Int, Cells wx gq 5 64 (fun k => .int .u8 (zq k))) ∧ (∃ zp : Nat → Int, Cells wx gp 5 64 (fun k => .int .u8 (zp k))) ∧ Fr (fun b => b = gp ∨ b = gq) w4 wx) (fun k _ => 64 - (intOf k).toNat)
        case atStart => exact ⟨0, by omega, rfl, ⟨_, hcq⟩, ⟨_, hcp4⟩, Fr.refl _ _⟩
        case round =>
          clear hcq hcp4
          obtain ⟨j, hj, rfl, ⟨zq, hq⟩, ⟨zp, hp⟩, fy⟩ := hrel
          by_cases hjl : j < 64
          · have c1 := hq.cell j hjl
            have d1 := Cells.frozen hq j
            have c2 : ∀ u, (wr.setCell ⟨gq, j, none⟩ u).cell? ⟨gp, j, none⟩ = some (.int .u8 (zp j)) := fun u => (hp.far hpq u).cell j hjl
            have d2 : ∀ u, (wr.setCell ⟨gq, j, none⟩ u).frozen? ⟨gp, j, none⟩ = false := fun u => Cells.frozen (hp.far hpq u) j
            have hfin := fun (x y : Int) => And.intro ((set_u8 hq j x).far (p := ⟨gp, j, none⟩) (fun e => hpq e.symm) (.int .u8 y)) (And.intro (set_u8 (hp.far (p := ⟨gq, j, none⟩) hpq (.int .u8 x)) j y) ((fy.setCell (p := ⟨gq, j, none⟩) (.inl (.inr rfl)) (.int .u8 x)).setCell (p := ⟨gp, j, none⟩) (.inl (.inl rfl)) (.int .u8 y)))
            have Hfin := Lib.hid hfin
            clear hfin hq hp
            generalize zq j = x1 at *
            generalize zp j = x2 at *
            go_wp2_with fail
            go_roundw
            case rel => exact ⟨j + 1, by omega, by go_num, ⟨_, (Hfin.out _ _).1⟩, ⟨_, (Hfin.out _ _).2.1⟩, (Hfin.out _ _).2.2⟩
            case measure => simp [intOf]; omega
          · go_wp2_with fail
            go_roundw
            case rel =>
              refine ⟨r + 1, m2, by omega, by go_num, hM4.fr fy (fun q hq e => ?_), Hn2.out, ?_, fr4.trans (S := fun _ => False) fy (fun i hi e => ?_), by have := fy.size; omega⟩
              · have := hgb q hq
                have := fx.size
                omega
              · have := own_fr Hown4.out fy (fun q hq e => ?_)
                · rw [Hls.out, by8, List.map_append]
                  rw [show (r + 1) * 64 = r * 64 + 64 by omega]
                  rw [← hol] at this
                  exact this
                · rcases hat3 with e3 | e3
                  · rw [e3] at hq
                    have := hwn q hq
                    omega
                  · rw [e3] at hq
                    have h2 : w2.heap.size = q := by simpa using hq
                    have := hw3 q (e3.trans (by rw [h2]))
                    omega
              · have := fr.size
                omega
            case measure => simp [intOf]; omega
    · have e5 : r = 5 := by omega
      rw [e5] at hown
      obtain ⟨A5, cap5, rfl⟩ := ownI_any hown
      have hbd := hM.bd
      rw [hn] at hbd
      have Hbd := Lib.hid hbd
      have hal := all_any wo a m hM
      rw [hn] at hal
      have Hal := Lib.hid hal
      have I5 := Bk.own_ints hown (lst_wf hbd)
      have HI5 := Lib.hid I5
      clear hal hbd I5
      generalize hN : (5 * 64 : Nat) = N at *
      have hN2 : (N : Int) = 320 := by omega
      go_wp2_with fail
      refine (Hal.out).mono ?_
      rintro e w6 ⟨rfl, hc6, f6⟩
      have q1 : (convert 57 9 (.slice (some ⟨wo.heap.size, 0, none⟩) N N)).run Try.prog w6 = .ok (.string (str (lst m.mem N))) w6 := str_of_ints (cells_ints hc6 Hbd.out)
      have q2 : (convert 57 9 (.slice A5 N cap5)).run Try.prog w6 = .ok (.string (str (lst m.mem N))) w6 := str_of_ints (HI5.out.fr f6 (Nat.le_refl _) (fun _ _ e => e))
      have HQ := Lib.hid (fun W g (h : Cells W g 5 N (fun k => .int .u8 (m.mem k))) => str_of_ints (c := N) (cells_ints h Hbd.out))
      have HV := Lib.hid (fun W (h : IntsAt .u8 W wo.heap.size A5 N (lst m.mem N)) => str_of_ints (c := cap5) h)
      generalize str (lst m.mem N) = sq at *
      go_wp2_with fail
      clear q1 q2
      go_loopw [13] (fun k wx => ∃ j : Nat, j ≤ N ∧ k = .int .i64 j ∧ (∃ zq : Nat → Int, Cells wx wo.heap.size 5 N (fun k => .int .u8 (zq k))) ∧ Fr (fun b => b = wo.heap.size) w6 wx) (fun k _ => N - (intOf k).toNat)
      case atStart => exact ⟨0, by omega, rfl, ⟨_, hc6⟩, Fr.refl _ _⟩
      case round =>
        clear hc6
        obtain ⟨j, hj, rfl, ⟨zq, hq⟩, fy⟩ := hrel
        by_cases hjl : j < N
        · have c1 := hq.cell j hjl
          have d1 := Cells.frozen hq j
          have Hfin := Lib.hid (fun (x : Int) => And.intro (set_u8 hq j x) (fy.setCell (p := ⟨wo.heap.size, j, none⟩) (.inl rfl) (.int .u8 x)))
          clear hq
          generalize zq j = x1 at *
          go_wp2_with fail
          go_roundw
          case rel => exact ⟨j + 1, by omega, by go_num, ⟨_, (Hfin.out _).1⟩, (Hfin.out _).2⟩
          case measure => simp [intOf]; omega
        · have hsx : wo.heap.size < wr.heap.size := hq.lt
          have hMx : Mem wr.drew a m := ((hM.fr0 f6).fr fy (fun q hq e => by have := hgb q hq; omega)).drew
          have frx : Fr (fun _ => False) w wr.drew := ((fr.tr f6).trans (S := fun _ => False) fy (fun i hi e => by have := fr.size; omega)).drew
          have IXr : IntsAt .u8 wr wo.heap.size A5 N (lst m.mem N) := (HI5.out.fr f6 (Nat.le_refl _) (fun _ _ e => e)).fr fy f6.size (fun i hi e => by omega)
          have IX : IntsAt .u8 wr.drew wo.heap.size A5 N (lst m.mem N) := IXr
          have hal := all_any wr.drew a m hMx
          rw [hn, hN] at hal
          have Hal := Lib.hid hal
          have HW := Lib.hid (fun W (f : Fr (fun _ => False) wr.drew W) => HV.out W (IX.fr f (Nat.le_of_lt hsx) (fun _ _ e => e)))
          have qw0 := HW.out _ (Fr.refl _ _)
          have HFX := Lib.hid frx
          clear hal hq fy hM fr f6 hown hgb hwn hwb IX IXr hMx frx hmk HI5 HV
          go_wp2_with fail
          refine wp_region_any (by kernel_rfl) ?_
          try (change wpAny _ _ _ _ _ _ _ (World.drew _))
          refine wpAny_take (i := 0) (v := ?_) rfl (by kernel_rfl) (by kernel_rfl) (by kernel_rfl) (fun _ _ _ h => h) (Or.inl ⟨by kernel_rfl, ?_⟩) ?_
          rotate_left
          · (intro w; go_simp; try with_reducible rfl)
          refine wpAny_take (i := 1) (v := ?_) rfl (by kernel_rfl) (by kernel_rfl) (by kernel_rfl) (fun _ _ _ h => h) (Or.inl ⟨by kernel_rfl, ?_⟩) ?_
          rotate_left
          · (intro w; go_simp; try with_reducible rfl)
          refine wpAny_take (i := 2) (v := ?_) rfl (by kernel_rfl) (by kernel_rfl) (by kernel_rfl) (fun _ _ _ h => h) (Or.inl ⟨by kernel_rfl, ?_⟩) ?_
          rotate_left
          · (intro w; go_simp; try with_reducible rfl)
          refine wpAny_take (i := 5) (v := ?_) rfl (by kernel_rfl) (by kernel_rfl) (by kernel_rfl) (fun _ _ _ h => h) (Or.inl ⟨by kernel_rfl, ?_⟩) ?_
          rotate_left
          · (intro w; go_simp; try with_reducible rfl)
          simp only [Act.put, List.getElem_toArray, List.getElem_cons_zero, List.getElem_cons_succ, List.setIfInBounds_toArray, List.set_cons_zero, List.set_cons_succ]
          refine wpAny_ready (rs := [3, 6]) (by kernel_rfl) (by simp) ?_
          refine AllReady.cons rfl (fun K hK => ?_) ?_
          · go_simp
            go_wp2_with (refine (Hal.out).mono ?_; rintro e w8 ⟨rfl, hc8, f8⟩; have q8 := HQ.out w8 wr.heap.size hc8; have qw8 := HW.out _ f8; have HF8 := Lib.hid (HFX.out.tr f8); clear hc8 f8)
            refine wpAny_ready (rs := [4, 6]) (by kernel_rfl) (by simp) ?_
            refine AllReady.cons rfl (fun K hK => ?_) ?_
            · go_simp
              refine hK _ _ ?_
              clear hK K
              refine wpAny_ready (rs := [6]) (by kernel_rfl) (by simp) ?_
              refine AllReady.cons rfl (fun K hK => ?_) ?_
              · go_simp
                refine hK _ _ ?_
                clear hK K
                refine wpAny_take (i := 7) (v := ?_) rfl (by kernel_rfl) (by kernel_rfl) (by kernel_rfl) (fun _ _ _ h => h) (Or.inl ⟨by kernel_rfl, ?_⟩) ?_
                rotate_left
                · (intro w; go_simp; try with_reducible rfl)
                refine wpAny_take (i := 8) (v := ?_) rfl (by kernel_rfl) (by kernel_rfl) (by kernel_rfl) (fun _ _ _ h => h) (Or.inl ⟨by kernel_rfl, ?_⟩) ?_
                rotate_left
                · (intro w; go_simp; try with_reducible rfl)
                refine wpAny_take (i := 9) (v := ?_) rfl (by kernel_rfl) (by kernel_rfl) (by kernel_rfl) (fun _ _ _ h => h) (Or.inl ⟨by kernel_rfl, ?_⟩) ?_
                rotate_left
                · (intro w; go_simp; try with_reducible rfl)
                simp only [Act.put, List.getElem_toArray, List.getElem_cons_zero, List.getElem_cons_succ, List.setIfInBounds_toArray, List.set_cons_zero, List.set_cons_succ]
                refine wpAny_ready (rs := [10]) (by kernel_rfl) (by simp) ?_
                refine AllReady.cons rfl (fun K hK => ?_) ?_
                · go_simp
                  go_wp2_with (refine (known7 _).mono ?_; rintro e w9 ⟨rfl, f9⟩; have HF9 := Lib.hid (HF8.out.tr f9); clear f9)
                  refine wpAny_take (i := 11) (v := ?_) rfl (by kernel_rfl) (by kernel_rfl) (by kernel_rfl) (fun _ _ _ h => h) (Or.inl ⟨by kernel_rfl, ?_⟩) ?_
                  rotate_left
                  · (intro w; go_simp; try with_reducible rfl)
                  refine wpAny_take (i := 12) (v := ?_) rfl (by kernel_rfl) (by kernel_rfl) (by kernel_rfl) (fun _ _ _ h => h) (Or.inl ⟨by kernel_rfl, ?_⟩) ?_
                  rotate_left
                  · (intro w; go_simp; try with_reducible rfl)
                  refine wpAny_done (by kernel_rfl) ?_ _
                  go_wp2_with fail
                  go_ret
                  exact ⟨rfl, HF9.out⟩
                exact AllReady.nil
              exact AllReady.nil
            refine AllReady.cons rfl (fun K hK => ?_) ?_
            · go_simp
              refine hK _ _ ?_
              clear hK K
              refine wpAny_ready (rs := [4]) (by kernel_rfl) (by simp) ?_
              refine AllReady.cons rfl (fun K hK => ?_) ?_
              · go_simp
                refine hK _ _ ?_
                clear hK K
                refine wpAny_take (i := 7) (v := ?_) rfl (by kernel_rfl) (by kernel_rfl) (by kernel_rfl) (fun _ _ _ h => h) (Or.inl ⟨by kernel_rfl, ?_⟩) ?_
                rotate_left
                · (intro w; go_simp; try with_reducible rfl)
                refine wpAny_take (i := 8) (v := ?_) rfl (by kernel_rfl) (by kernel_rfl) (by kernel_rfl) (fun _ _ _ h => h) (Or.inl ⟨by kernel_rfl, ?_⟩) ?_
                rotate_left
                · (intro w; go_simp; try with_reducible rfl)
                refine wpAny_take (i := 9) (v := ?_) rfl (by kernel_rfl) (by kernel_rfl) (by kernel_rfl) (fun _ _ _ h => h) (Or.inl ⟨by kernel_rfl, ?_⟩) ?_
                rotate_left
                · (intro w; go_simp; try with_reducible rfl)
                simp only [Act.put, List.getElem_toArray, List.getElem_cons_zero, List.getElem_cons_succ, List.setIfInBounds_toArray, List.set_cons_zero, List.set_cons_succ]
                refine wpAny_ready (rs := [10]) (by kernel_rfl) (by simp) ?_
                refine AllReady.cons rfl (fun K hK => ?_) ?_
                · go_simp
                  go_wp2_with (refine (known7 _).mono ?_; rintro e w9 ⟨rfl, f9⟩; have HF9 := Lib.hid (HF8.out.tr f9); clear f9)
                  refine wpAny_take (i := 11) (v := ?_) rfl (by kernel_rfl) (by kernel_rfl) (by kernel_rfl) (fun _ _ _ h => h) (Or.inl ⟨by kernel_rfl, ?_⟩) ?_
                  rotate_left
                  · (intro w; go_simp; try with_reducible rfl)
                  refine wpAny_take (i := 12) (v := ?_) rfl (by kernel_rfl) (by kernel_rfl) (by kernel_rfl) (fun _ _ _ h => h) (Or.inl ⟨by kernel_rfl, ?_⟩) ?_
                  rotate_left
                  · (intro w; go_simp; try with_reducible rfl)
                  refine wpAny_done (by kernel_rfl) ?_ _
                  go_wp2_with fail
                  go_ret
                  exact ⟨rfl, HF9.out⟩
                exact AllReady.nil
              exact AllReady.nil
            exact AllReady.nil
          refine AllReady.cons rfl (fun K hK => ?_) ?_
          · go_simp
            refine hK _ _ ?_
            clear hK K
            refine wpAny_ready (rs := [3]) (by kernel_rfl) (by simp) ?_
            refine AllReady.cons rfl (fun K hK => ?_) ?_
            · go_simp
              go_wp2_with (refine (Hal.out).mono ?_; rintro e w8 ⟨rfl, hc8, f8⟩; have q8 := HQ.out w8 wr.heap.size hc8; have qw8 := HW.out _ f8; have HF8 := Lib.hid (HFX.out.tr f8); clear hc8 f8)
              refine wpAny_ready (rs := [4]) (by kernel_rfl) (by simp) ?_
              refine AllReady.cons rfl (fun K hK => ?_) ?_
              · go_simp
                refine hK _ _ ?_
                clear hK K
                refine wpAny_take (i := 7) (v := ?_) rfl (by kernel_rfl) (by kernel_rfl) (by kernel_rfl) (fun _ _ _ h => h) (Or.inl ⟨by kernel_rfl, ?_⟩) ?_
                rotate_left
                · (intro w; go_simp; try with_reducible rfl)
                refine wpAny_take (i := 8) (v := ?_) rfl (by kernel_rfl) (by kernel_rfl) (by kernel_rfl) (fun _ _ _ h => h) (Or.inl ⟨by kernel_rfl, ?_⟩) ?_
                rotate_left
                · (intro w; go_simp; try with_reducible rfl)
                refine wpAny_take (i := 9) (v := ?_) rfl (by kernel_rfl) (by kernel_rfl) (by kernel_rfl) (fun _ _ _ h => h) (Or.inl ⟨by kernel_rfl, ?_⟩) ?_
                rotate_left
                · (intro w; go_simp; try with_reducible rfl)
                simp only [Act.put, List.getElem_toArray, List.getElem_cons_zero, List.getElem_cons_succ, List.setIfInBounds_toArray, List.set_cons_zero, List.set_cons_succ]
                refine wpAny_ready (rs := [10]) (by kernel_rfl) (by simp) ?_
                refine AllReady.cons rfl (fun K hK => ?_) ?_
                · go_simp
                  go_wp2_with (refine (known7 _).mono ?_; rintro e w9 ⟨rfl, f9⟩; have HF9 := Lib.hid (HF8.out.tr f9); clear f9)
                  refine wpAny_take (i := 11) (v := ?_) rfl (by kernel_rfl) (by kernel_rfl) (by kernel_rfl) (fun _ _ _ h => h) (Or.inl ⟨by kernel_rfl, ?_⟩) ?_
                  rotate_left
                  · (intro w; go_simp; try with_reducible rfl)
                  refine wpAny_take (i := 12) (v := ?_) rfl (by kernel_rfl) (by kernel_rfl) (by kernel_rfl) (fun _ _ _ h => h) (Or.inl ⟨by kernel_rfl, ?_⟩) ?_
                  rotate_left
                  · (intro w; go_simp; try with_reducible rfl)
                  refine wpAny_done (by kernel_rfl) ?_ _
                  go_wp2_with fail
                  go_ret
                  exact ⟨rfl, HF9.out⟩
                exact AllReady.nil
              exact AllReady.nil
            exact AllReady.nil
          exact AllReady.nil
end Go.Proofs.Ytcfoogbjlokegaa.ramPages
