/- BusReads: the walk. -/
import Derived.Test.YthiephlfhbkcbaaBusOwn
namespace Go.Proofs.Ythiephlfhbkcbaa.busReads
open Go.RowKit Fm Nt Rm By Dr Rf Bs
set_option linter.unusedVariables false
set_option maxHeartbeats 8000000

theorem store_load (s : Sb) (v c : Int) (v0 : 0 ≤ v) : loadV (s.store 32772 v) 32772 c = v % 256 ∧ loadV (s.store 32776 v) 32776 c = v ∧ loadV (s.store 32800 v) 32800 c = v ∧ loadV (s.store 32804 v) 32804 c = v := by
  refine ⟨?_, rfl, rfl, rfl⟩
  show ((v.toNat % 256 : Nat) : Int) = v % 256
  omega
set_option maxRecDepth 100000 in
theorem walk (w : World) (at_ : Int) (hat : (Lit.int .u32 at_).wf = true) (v : Int) (hv : (Lit.int .u32 v).wf = true) (n : Int) (hn : (Lit.int .u64 n).wf = true) (A : Option Addr) (len cap : Nat) (hc : len ≤ cap) (zs : List Int) (hz : IntsAt .u8 w w.heap.size A len zs) (hm : len ≤ maxLen) :
    Calls Try.prog 3 #[.int .u32 at_, .int .u32 v, .int .u64 n, .slice A len cap] w fun e w' => e = .returned (.bool true) ∧ Fr (fun _ => False) w w' := by
  obtain ⟨a0, a1⟩ := wf_u32 hat
  obtain ⟨v0, v1⟩ := wf_u32 hv
  obtain ⟨n0, n1⟩ := wf_u64 hn
  have hcut : ∀ W, Calls Try.prog 14 #[.slice A len cap, .int .i64 9] W fun e w' => e = .returned (.slice A (min len 9) cap) ∧ W = w' := fun W => cut_any W A len cap 9 hm hc (by omega)
  have Hcut := Lib.hid hcut
  have hz1 := hz.take (show min len 9 ≤ len from Nat.min_le_left _ _)
  have hml : min len 9 ≤ maxLen := by unfold maxLen; have := Nat.min_le_right len 9; omega
  have hmc : min len 9 ≤ cap := by have := Nat.min_le_left len 9; omega
  clear hcut hz hat hv hn
  generalize zs.take (min len 9) = z1 at *
  generalize min len 9 = n9 at *
  have hc0 : 0 ≤ n % 1099511627776 := by omega
  have hc1 : n % 1099511627776 ≤ 18446744073709551615 := by omega
  have hq0 : 0 ≤ at_ % 13 := by omega
  have hq1 : at_ % 13 < 13 := by omega
  have HZ := Lib.hid hz1
  clear hz1
  go_enter Try.func3, Try.ntmps3
  go_wp2_with fail
  refine (both15 w none 0 0 [] (intsAt_nil _ _ _ _) (by omega) none 0 0 [] (intsAt_nil _ _ _ _) (by omega)).mono ?_
  rintro e w1 hb
  obtain ⟨a, gR, rfl, hB⟩ := bo_both hb
  have ho : (Sb.new (Ms.init 4 []) []).outs.length = 0 := rfl
  clear hb
  generalize Sb.new (Ms.init 4 []) [] = s0 at *
  go_wp2_with fail
  refine (Hcut.out _).mono ?_
  rintro e w' ⟨rfl, rfl⟩
  go_wp2_with fail
  refine (input_o hB w.heap.size A n9 cap z1 (HZ.out.fr hB.frame (Nat.le_refl _) (fun _ _ e => e)) hml hmc).mono ?_
  rintro e w2 ⟨rfl, hB2, _⟩
  have ho2 : (s0.input z1).outs.length = 0 := ho
  clear hB ho
  generalize s0.input z1 = s1 at *
  generalize n % 1099511627776 = c at *
  have hP0 : 0 ≤ 32768 + at_ % 13 * 4 := by omega
  have hP1 : 32768 + at_ % 13 * 4 ≤ 4294967295 := by omega
  have hP2 : (32768 + at_ % 13 * 4 = 32788) ∨ (offO (32768 + at_ % 13 * 4) ≠ 20 ∧ 32768 + at_ % 13 * 4 ≠ 32788) := by
    unfold offO
    omega
  go_wp2_with fail
  generalize hPe : 32768 + at_ % 13 * 4 = P at *
  clear hPe hq0 hq1
  refine (load_o hB2 P c hP0 hP1 hc0 hc1).mono ?_
  rintro e w3 ⟨rfl, hB3, _⟩
  go_wp2_with fail
  refine (load_o hB3 P c hP0 hP1 hc0 hc1).mono ?_
  rintro e w4 ⟨rfl, hB4, _⟩
  have ho4 : ((s1.read P).read P).outs.length = 0 := by rw [read_outs, read_outs]; exact ho2
  have hsame : P = 32788 ∨ (loadV (s1.read P) P c = loadV s1 P c ∧ (P != 32788) = true) := by
    rcases hP2 with e | ⟨e1, e2⟩
    · exact .inl e
    · right
      refine ⟨?_, by simpa using e2⟩
      rw [show s1.read P = s1 by unfold Sb.read; rw [if_neg e1]]
  have hbb : (loadB P != loadB P) = false := by simp
  generalize (s1.read P).read P = s4 at *
  generalize loadV (s1.read P) P c = y2 at *
  generalize loadV s1 P c = y1 at *
  generalize loadB P = lb at *
  have fr4 := hB4.frame
  clear hB2 hB3
  have hlb : (lb != lb) = false := by simp
  rcases hsame with rfl | ⟨rfl, hpp⟩
  all_goals
    try (have hyy : (y2 != y2) = false := by simp)
    go_upto_region 11 with (fail)
    have hL : IntsAt .u32 (w4.alloc (.cells #[.int .u32 4, .int .u32 8, .int .u32 32, .int .u32 36] 22)) (w4.heap.size + 1) (some ⟨w4.heap.size, 0, none⟩) 4 [4, 8, 32, 36] :=
      intsAt_lit [4, 8, 32, 36] (Blk.new _ _ _) (wf_list (fun z hz => by
        simp at hz
        rcases hz with rfl | rfl | rfl | rfl <;> decide))
    have hB5 := hB4.keep (K' := fun k => k = w4.heap.size) ((Fr.refl (fun _ => False) w4).alloc (.cells #[.int .u32 4, .int .u32 8, .int .u32 32, .int .u32 36] 22)) (fun k e => .inr ⟨by omega, by rw [e]; simp⟩)
    have hS : ∃ s, BO w (w4.alloc (.cells #[.int .u32 4, .int .u32 8, .int .u32 32, .int .u32 36] 22)) (fun k => k = w4.heap.size) a s ∧ s.outs.length ≤ 0 := ⟨_, hB5, by omega⟩
    have hsz5 : (w4.alloc (.cells #[.int .u32 4, .int .u32 8, .int .u32 32, .int .u32 36] 22)).heap.size = w4.heap.size + 1 := by simp
    clear hB4 hB5
    go_wp2_with fail
    generalize hw5 : w4.alloc (.cells #[.int .u32 4, .int .u32 8, .int .u32 32, .int .u32 36] 22) = w5 at *
    generalize hg4 : w4.heap.size = g at *
    clear hw5 hg4 ho4 hlb
    try clear hyy
    try clear hpp
    go_loopw [67] (fun i wr => ∃ k : Nat, k ≤ 4 ∧ i = .int .i64 k ∧ (∃ s, BO w wr (fun k => k = g) a s ∧ s.outs.length ≤ k) ∧ Fr (fun k => ¬ k = g) w5 wr) (fun i _ => 4 - (intOf i).toNat)
    case atStart => exact ⟨0, by omega, rfl, hS, Fr.refl _ _⟩
    case round =>
      clear hS fr4
      obtain ⟨k, hk, rfl, ⟨s, hB, hso⟩, fr⟩ := hrel
      by_cases hlt : k < 4
      · obtain ⟨b, off, e, hbb, hcell⟩ := (intsAt_frA hL fr (by omega) (fun b off e => by
          injection e with e
          injection e with e1
          exact fun h => h e1.symm)).at_ hlt
        injection e with e
        injection e with e1 e2
        subst e1 e2
        obtain ⟨l1, l2, l3, l4⟩ := store_load s v c v0
        rcases (by omega : k = 0 ∨ k = 1 ∨ k = 2 ∨ k = 3) with rfl | rfl | rfl | rfl
        · have hst := Lib.hid (store_o hB 32772 v c (by omega) (by omega) v0 v1 (by omega))
          rw [show loadB 32772 = true by decide] at hst
          have hso2 := store_outs s 32772 v
          have hc4 : wr.cell? ⟨g, 0, none⟩ = some (.int .u32 4) := hcell
          clear hcell
          go_wp2_with fail
          refine (hst.out).mono ?_
          rintro e w6 ⟨rfl, hB6, f6⟩
          have hld := load_o hB6 32772 c (by omega) (by omega) hc0 hc1
          rw [show loadB 32772 = true by decide, l1] at hld
          rw [show (s.store 32772 v).read 32772 = s.store 32772 v from rfl] at hld
          have Hld := Lib.hid hld
          have hnn : (v % 256 != v % 256) = false := by simp
          clear hB hB6 hld l1 l2 l3 l4
          generalize s.store 32772 v = s6 at *
          go_wp2_with fail
          refine (Hld.out).mono ?_
          rintro e w7 ⟨rfl, hB7, f7⟩
          by_cases hv : v % 256 = v
          · have hvb : (v % 256 != v) = false := by simpa using hv
            go_wp2_with fail
            go_roundw
            case rel => exact ⟨1, by omega, rfl, ⟨_, hB7, by omega⟩, (fr.tr f6).tr f7⟩
            case measure => simp [intOf]
          · have hvb : (v % 256 != v) = true := by simpa using hv
            go_wp2_with fail
            go_roundw
            case rel => exact ⟨1, by omega, rfl, ⟨_, hB7, by omega⟩, (fr.tr f6).tr f7⟩
            case measure => simp [intOf]
        · have hst := Lib.hid (store_o hB 32776 v c (by omega) (by omega) v0 v1 (by omega))
          rw [show loadB 32776 = true by decide] at hst
          have hso2 := store_outs s 32776 v
          have hc4 : wr.cell? ⟨g, 1, none⟩ = some (.int .u32 8) := by rw [← show 0 + 1 = 1 from rfl]; exact hcell
          clear hcell
          go_wp2_with fail
          refine (hst.out).mono ?_
          rintro e w6 ⟨rfl, hB6, f6⟩
          have hld := load_o hB6 32776 c (by omega) (by omega) hc0 hc1
          rw [show loadB 32776 = true by decide, l2] at hld
          rw [show (s.store 32776 v).read 32776 = s.store 32776 v from rfl] at hld
          have Hld := Lib.hid hld
          have hnn : (v != v) = false := by simp
          clear hB hB6 hld l1 l2 l3 l4
          generalize s.store 32776 v = s6 at *
          go_wp2_with fail
          refine (Hld.out).mono ?_
          rintro e w7 ⟨rfl, hB7, f7⟩
          go_wp2_with fail
          go_roundw
          case rel => exact ⟨2, by omega, rfl, ⟨_, hB7, by omega⟩, (fr.tr f6).tr f7⟩
          case measure => simp [intOf]
        · have hst := Lib.hid (store_o hB 32800 v c (by omega) (by omega) v0 v1 (by omega))
          rw [show loadB 32800 = true by decide] at hst
          have hso2 := store_outs s 32800 v
          have hc4 : wr.cell? ⟨g, 2, none⟩ = some (.int .u32 32) := by rw [← show 0 + 2 = 2 from rfl]; exact hcell
          clear hcell
          go_wp2_with fail
          refine (hst.out).mono ?_
          rintro e w6 ⟨rfl, hB6, f6⟩
          have hld := load_o hB6 32800 c (by omega) (by omega) hc0 hc1
          rw [show loadB 32800 = true by decide, l3] at hld
          rw [show (s.store 32800 v).read 32800 = s.store 32800 v from rfl] at hld
          have Hld := Lib.hid hld
          have hnn : (v != v) = false := by simp
          clear hB hB6 hld l1 l2 l3 l4
          generalize s.store 32800 v = s6 at *
          go_wp2_with fail
          refine (Hld.out).mono ?_
          rintro e w7 ⟨rfl, hB7, f7⟩
          go_wp2_with fail
          go_roundw
          case rel => exact ⟨3, by omega, rfl, ⟨_, hB7, by omega⟩, (fr.tr f6).tr f7⟩
          case measure => simp [intOf]
        · have hst := Lib.hid (store_o hB 32804 v c (by omega) (by omega) v0 v1 (by omega))
          rw [show loadB 32804 = true by decide] at hst
          have hso2 := store_outs s 32804 v
          have hc4 : wr.cell? ⟨g, 3, none⟩ = some (.int .u32 36) := by rw [← show 0 + 3 = 3 from rfl]; exact hcell
          clear hcell
          go_wp2_with fail
          refine (hst.out).mono ?_
          rintro e w6 ⟨rfl, hB6, f6⟩
          have hld := load_o hB6 32804 c (by omega) (by omega) hc0 hc1
          rw [show loadB 32804 = true by decide, l4] at hld
          rw [show (s.store 32804 v).read 32804 = s.store 32804 v from rfl] at hld
          have Hld := Lib.hid hld
          have hnn : (v != v) = false := by simp
          clear hB hB6 hld l1 l2 l3 l4
          generalize s.store 32804 v = s6 at *
          go_wp2_with fail
          refine (Hld.out).mono ?_
          rintro e w7 ⟨rfl, hB7, f7⟩
          go_wp2_with fail
          go_roundw
          case rel => exact ⟨4, by omega, rfl, ⟨_, hB7, by omega⟩, (fr.tr f6).tr f7⟩
          case measure => simp [intOf]
      · have e4 : k = 4 := by omega
        subst e4
        have frw := hB.frame
        clear hL
        go_wp2_with fail
        refine (known15 _).mono ?_
        rintro e w8 ⟨rfl, f8⟩
        go_wp2_with fail
        go_ret
        exact ⟨rfl, frw.tr f8⟩
end Go.Proofs.Ythiephlfhbkcbaa.busReads
