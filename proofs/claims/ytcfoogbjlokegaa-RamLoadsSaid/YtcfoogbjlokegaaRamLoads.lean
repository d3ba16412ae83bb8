/- RamLoads: the walk. -/
import Derived.Test.YtcfoogbjlokegaaRamLaws
import Derived.Test.YtcfoogbjlokegaaSlices
import Derived.StillTailTactics
import Derived.IntWalk
namespace Go.Proofs.Ytcfoogbjlokegaa.ramLoads
open Go.RowKit Fm Nt Rm By
set_option linter.unusedVariables false
set_option maxHeartbeats 4000000

theorem load_n (m : Ms) (zs : List Int) : (m.load zs).n = m.n := by
  unfold Ms.load
  split
  · exact puts_n _ _ _ _
  · rfl
theorem load_head (m : Ms) (zs : List Int) (h : zs.length ≤ m.n * 64) : lst (m.load zs).mem zs.length = zs := by
  rw [Ms.load, if_pos h]
  rw [lst_congr (z' := fun k => zs.getD k 0) (fun k hk => by rw [puts_mem, if_pos (by omega), Nat.sub_zero])]
  exact lst_of zs _ rfl
theorem load_tail (m : Ms) (zs : List Int) (h : zs.length ≤ m.n * 64) (N : Nat) : (lst (m.load zs).mem N).drop zs.length = (lst m.mem N).drop zs.length := by
  apply List.ext_getElem?
  intro i
  rw [List.getElem?_drop, List.getElem?_drop]
  unfold lst
  by_cases hi : zs.length + i < N
  · rw [List.getElem?_map, List.getElem?_map, Ms.load, if_pos h, List.getElem?_range hi]
    show some _ = some _
    rw [puts_mem, if_neg (by omega)]
  · rw [List.getElem?_eq_none (by simp; omega), List.getElem?_eq_none (by simp; omega)]
theorem take_lst (z : Nat → Int) {k N : Nat} (h : k ≤ N) : (lst z N).take k = lst z k := by
  apply List.ext_getElem?
  intro i
  unfold lst
  by_cases hi : i < k
  · rw [List.getElem?_take_of_lt hi, List.getElem?_map, List.getElem?_map, List.getElem?_range (by omega), List.getElem?_range hi]
  · rw [List.getElem?_eq_none (by simp; omega), List.getElem?_eq_none (by simp; omega)]
set_option maxRecDepth 100000 in
theorem walk (w : World) (A : Option Addr) (len cap : Nat) (hc : len ≤ cap) (zs : List Int) (hz : IntsAt .u8 w w.heap.size A len zs) (hm : len ≤ maxLen) (A2 : Option Addr) (len2 cap2 : Nat) (hc2 : len2 ≤ cap2) (zs2 : List Int) (hz2 : IntsAt .u8 w w.heap.size A2 len2 zs2) (hm2 : len2 ≤ maxLen) (pg : Int) (hpg : (Lit.int .i64 pg).wf = true) :
    Calls Try.prog 9 #[.slice A len cap, .slice A2 len2 cap2, .int .i64 pg] w fun e w' => e = .returned (.bool true) ∧ Fr (fun _ => False) w w' := by
  have b1 := wf_i64 hpg
  have hw1 := Lib.hid (fun W => Bk.within_any W pg 1 4 b1.1 b1.2 (by omega) (by omega) (by omega))
  have g1 := Int.emod_nonneg pg (show (4 - 1 + 1 : Int) ≠ 0 by omega)
  have g2 := Int.emod_lt_of_pos pg (show (0 : Int) < 4 - 1 + 1 by omega)
  obtain ⟨n, hn⟩ : ∃ n : Nat, (1 : Int) + pg % (4 - 1 + 1) = n := ⟨(1 + pg % (4 - 1 + 1)).toNat, by omega⟩
  have n0 : 1 ≤ n := by omega
  have n1 : n ≤ 4 := by omega
  rw [hn] at hw1
  have Hfr := Lib.hid (fun W => fresh7 W n n0 (by omega))
  have hcut : ∀ W, Calls Try.prog 35 #[.slice A len cap, .int .i64 ((n : Int) * 64)] W fun e w' => e = .returned (.slice A (min len (n * 64)) cap) ∧ W = w' := fun W => by
    have := cut_any W A len cap (n * 64) hm hc (by omega)
    rw [show ((n * 64 : Nat) : Int) = (n : Int) * 64 by omega] at this
    exact this
  have Hcut := Lib.hid hcut
  have hz1 := hz.take (show min len (n * 64) ≤ len from Nat.min_le_left _ _)
  have hk1 : min len (n * 64) ≤ n * 64 := Nat.min_le_right _ _
  have Hm2 := Lib.hid hm2
  clear hcut hz b1 g1 g2 hn hm hpg hc
  generalize zs.take (min len (n * 64)) = z1 at *
  generalize min len (n * 64) = k1 at *
  unfold maxLen at hm2
  go_enter Try.func9, Try.ntmps9
  go_wp2_with fail
  refine (hw1.out _).mono ?_
  rintro e w' ⟨rfl, rfl⟩
  go_wp2_with fail
  refine (Hfr.out _).mono ?_
  rintro e w1 ⟨a, rfl, hM, hba, f1⟩
  have hA1 : 0 < k1 → ∀ b' off, A = some ⟨b', off, none⟩ → ¬ a.own b' := fun hn b' off e ho => by have := IntsAt.lt_ hz1 b' off e hn; have := hba b' ho; omega
  have hA2 : 0 < len2 → ∀ b' off, A2 = some ⟨b', off, none⟩ → ¬ a.own b' := fun hn b' off e ho => by have := IntsAt.lt_ hz2 b' off e hn; have := hba b' ho; omega
  have hld := load_any w1 a (Ms.new n) hM A k1 cap w.heap.size z1 (hz1.fr f1 (Nat.le_refl _) (fun _ _ e => e)) f1.size hA1 (by simp only [maxLen]; omega)
  have hE : loadE (Ms.new n) k1 = 0 := by rw [loadE, if_pos (by show k1 ≤ n * 64; exact hk1)]
  rw [hE] at hld
  have hmn : ((Ms.new n).load z1).n = n := load_n _ _
  have Hld := Lib.hid hld
  have Hba := Lib.hid hba
  have HA2 := Lib.hid hA2
  clear hld hE hA1 hA2 hba hM
  generalize (Ms.new n).load z1 = m1 at *
  have Hmn := Lib.hid hmn
  clear hmn
  go_wp2_with fail
  refine (Hcut.out _).mono ?_
  rintro e w' ⟨rfl, rfl⟩
  go_wp2_with fail
  refine (Hld.out).mono ?_
  rintro e w2 ⟨rfl, hM2, f2⟩
  have fr2 := f1.trans (S := fun _ => False) f2 (fun i hi e => by have := Hba.out i e; omega)
  have hal := all_any w2 a m1 hM2
  rw [Hmn.out] at hal
  have Hal := Lib.hid hal
  clear hal
  go_wp2_with fail
  refine (Hal.out).mono ?_
  rintro e w3 ⟨rfl, hc3, f3⟩
  have hM3 := hM2.fr0 f3
  have fr3 := fr2.tr f3
  have hld := load_any w3 a m1 hM3 A2 len2 cap2 w.heap.size zs2 (hz2.fr fr3 (Nat.le_refl _) (fun _ _ e => e)) fr3.size HA2.out Hm2.out
  have Hld2 := Lib.hid hld
  have hg3 := hM2.lt
  clear hld
  have hbd1 := hM2.bd
  rw [Hmn.out] at hbd1
  have Hbd1 := Lib.hid hbd1
  clear hbd1
  by_cases hfit : len2 ≤ n * 64
  · have hE : loadE m1 len2 = 0 := by rw [loadE, if_pos (by rw [Hmn.out]; exact hfit)]
    rw [hE] at Hld2
    clear hE
    go_wp2_with fail
    refine (Hld2.out).mono ?_
    rintro e w4 ⟨rfl, hM4, f4⟩
    have hn2 : (m1.load zs2).n = n := (load_n _ _).trans Hmn.out
    have hc4 := hc3.fr f4 (fun e => by have := hg3 _ e; omega)
    have fr4 := fr3.trans (S := fun _ => False) f4 (fun i hi e => by have := Hba.out i e; omega)
    have hal := all_any w4 a _ hM4
    rw [hn2] at hal
    have Hal4 := Lib.hid hal
    have hlz := hz2.1
    have l1 := load_head m1 zs2 (by rw [hlz, Hmn.out]; exact hfit)
    have l2 := load_tail m1 zs2 (by rw [hlz, Hmn.out]; exact hfit) (n * 64)
    rw [hlz] at l1 l2
    have L1 := Lib.hid l1
    have L2 := Lib.hid l2
    have hbd2 := hM4.bd
    rw [hn2] at hbd2
    have Hbd2 := Lib.hid hbd2
    clear hal hn2 hlz l1 l2 hbd2 hc3
    generalize (m1.load zs2).mem = mem2 at *
    generalize hN : n * 64 = N at *
    have hNi : (n : Int) * 64 = (N : Int) := by omega
    have hNb : N ≤ 256 := by omega
    have HN := Lib.hid hN
    clear hN
    go_wp2_with fail
    refine (Hal4.out).mono ?_
    rintro e w5 ⟨rfl, hc5, f5⟩
    have hc45 := hc4.fr f5 (fun e => e)
    have fr5 := fr4.tr f5
    have hge : ¬ ((n : Int) * 64 < (len2 : Int)) := by omega
    have I5 := cells_ints hc5 Hbd2.out
    have I3 := cells_ints hc45 Hbd1.out
    have I2 := hz2.fr fr5 (Nat.le_refl _) (fun _ _ e => e)
    have I5h := I5.take hfit
    rw [take_lst _ hfit, L1.out] at I5h
    have I5t := cut_tail (cap := N) I5 hfit (Nat.le_refl _)
    have I3t := cut_tail (cap := N) I3 hfit (Nat.le_refl _)
    rw [L2.out] at I5t
    have HNi := Lib.hid hNi
    have hl5 : w4.heap.size + 1 ≤ w5.heap.size := hc5.lt
    have hl3 : w2.heap.size + 1 ≤ w5.heap.size := hc45.lt
    have c1 : (convert 57 9 (.slice (some ⟨w4.heap.size, 0, none⟩) len2 N)).run Try.prog w5.drew = .ok (.string (str zs2)) w5.drew := str_of_ints (w := w5.drew) (B := w4.heap.size + 1) I5h
    have c2 : (convert 57 9 (.slice A2 len2 cap2)).run Try.prog w5.drew = .ok (.string (str zs2)) w5.drew := str_of_ints (w := w5.drew) (B := w.heap.size) I2
    have c3 : (convert 57 9 (.slice (cutA (some ⟨w4.heap.size, 0, none⟩) N len2) (N - len2) (N - len2))).run Try.prog w5.drew = .ok (.string (str ((lst m1.mem N).drop len2))) w5.drew := str_of_ints (w := w5.drew) (B := w4.heap.size + 1) I5t
    have c4 : (convert 57 9 (.slice (cutA (some ⟨w2.heap.size, 0, none⟩) N len2) (N - len2) (N - len2))).run Try.prog w5.drew = .ok (.string (str ((lst m1.mem N).drop len2))) w5.drew := str_of_ints (w := w5.drew) (B := w2.heap.size + 1) I3t
    have s1 := fun A W => run_sl_h A N N len2 hfit W
    have s2 := fun A W => run_sl_l A N N len2 hfit W
    clear I5 I3 I2 I5h I5t I3t hc5 hc45 hc4
    generalize str zs2 = q1 at *
    generalize str ((lst m1.mem N).drop len2) = q2 at *
    go_wp2_with fail
    have e1 : ((N : Int) == (n : Int) * 64) = true := by rw [hNi]; simp
    have wN : IntKind.i64.wrap ((n : Int) * 64) = (n : Int) * 64 := IntWalk.i64_in _ (by omega)
    have p0 : (0 : Int) ≤ (len2 : Int) := by omega
    have p1 : (len2 : Int) ≤ (N : Int) := by omega
    clear hNi
    go_still_tail 40, (by kernel_rfl)
    change wpList _ _ _ _ _ w5.drew
    go_wp2_with fail
    refine (known7 _).mono ?_
    rintro e w6 ⟨rfl, f6⟩
    go_wp2_with fail
    go_ret
    exact ⟨rfl, fr5.drew.tr f6⟩
  · have hE : loadE m1 len2 = 3 := by rw [loadE, if_neg (by rw [Hmn.out]; exact hfit)]
    have hlz := hz2.1
    have hmm : m1.load zs2 = m1 := by rw [Ms.load, if_neg (by rw [hlz, Hmn.out]; exact hfit)]
    rw [hE, hmm] at Hld2
    clear hE hlz hmm
    go_wp2_with fail
    refine (Hld2.out).mono ?_
    rintro e w4 ⟨rfl, hM4, f4⟩
    have hc4 := hc3.fr f4 (fun e => by have := hg3 _ e; omega)
    have fr4 := fr3.trans (S := fun _ => False) f4 (fun i hi e => by have := Hba.out i e; omega)
    have hal := all_any w4 a _ hM4
    rw [Hmn.out] at hal
    have Hal4 := Lib.hid hal
    clear hal hc3
    generalize hN : n * 64 = N at *
    have hNi : (n : Int) * 64 < (len2 : Int) := by omega
    have hNb : N ≤ 256 := by omega
    clear hN
    go_wp2_with fail
    refine (Hal4.out).mono ?_
    rintro e w5 ⟨rfl, hc5, f5⟩
    have hc45 := hc4.fr f5 (fun e => e)
    have fr5 := fr4.tr f5
    have I5 := cells_ints hc5 Hbd1.out
    have I3 := cells_ints hc45 Hbd1.out
    have c1 := str_of_ints (c := N) I5
    have c2 := str_of_ints (c := N) I3
    clear I5 I3 hc5 hc45 hc4
    generalize str (lst m1.mem N) = q1 at *
    go_wp2_with fail
    refine (known7 _).mono ?_
    rintro e w6 ⟨rfl, f6⟩
    go_wp2_with fail
    go_ret
    exact ⟨rfl, fr5.tr f6⟩
end Go.Proofs.Ytcfoogbjlokegaa.ramLoads
