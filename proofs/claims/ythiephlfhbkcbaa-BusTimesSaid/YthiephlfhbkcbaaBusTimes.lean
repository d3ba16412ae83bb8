/- BusTimes: the walk. -/
import Derived.Test.YthiephlfhbkcbaaBusOwn
namespace Go.Proofs.Ythiephlfhbkcbaa.busTimes
open Go.RowKit Fm Nt Rm By Dr Rf Bs
set_option linter.unusedVariables false
set_option maxHeartbeats 8000000

/-- what stands while times are told -/
structure Tl (s : Sb) (at_ : Int) (told : Bool) : Prop where
  tm : s.tm = if told then 0 else at_
  p : s.p = if told then 1 else 0
  nz : told = true → at_ ≠ 0
theorem Tl.no {s : Sb} {at_ n : Int} {told : Bool} (h : Tl s at_ told) (hn : told = true ∨ at_ = 0 ∨ n % 4294967296 < at_) : s.tick n = s := by
  have : Tm.dueB s.tm n = false := by
    rw [h.tm]
    unfold Tm.dueB
    rcases hn with e | e | e
    · rw [e]; rfl
    · rw [e]; cases told <;> rfl
    · cases told
      · simp; omega
      · rfl
  unfold Sb.tick
  rw [this, if_neg Bool.false_ne_true]
theorem Tl.yes {s : Sb} {at_ n : Int} (h : Tl s at_ false) (h0 : at_ ≠ 0) (hn : at_ ≤ n % 4294967296) : Tl (s.tick n) at_ true := by
  have e : Tm.dueB s.tm n = true := by
    rw [h.tm]
    unfold Tm.dueB
    simp [h0, hn]
  unfold Sb.tick
  rw [e, if_pos rfl]
  refine ⟨rfl, ?_, fun _ => h0⟩
  show s.p ||| 1 = 1
  rw [h.p]
  rfl
set_option maxRecDepth 100000 in
theorem walk (w : World) (at_ : Int) (hat : (Lit.int .u32 at_).wf = true) (A : Option Addr) (len cap : Nat) (hc : len ≤ cap) (zs : List Int) (hz : IntsAt .u64 w w.heap.size A len zs) (hm : len ≤ maxLen) :
    Calls Try.prog 5 #[.int .u32 at_, .slice A len cap] w fun e w' => e = .returned (.bool true) ∧ Fr (fun _ => False) w w' := by
  obtain ⟨a0, a1⟩ := wf_u32 hat
  unfold maxLen at hm
  clear hat hc
  have HZ := Lib.hid hz
  clear hz
  go_enter Try.func5, Try.ntmps5
  go_wp2_with fail
  refine (both15 w none 0 0 [] (intsAt_nil _ _ _ _) (by omega) none 0 0 [] (intsAt_nil _ _ _ _) (by omega)).mono ?_
  rintro e w1 hb
  obtain ⟨a, gR, rfl, hB⟩ := bo_both hb
  have hst := store_o hB 32776 at_ 0 (by omega) (by omega) a0 a1 (by decide)
  rw [show loadB 32776 = true by decide] at hst
  have Hst := Lib.hid hst
  have hT : Tl ((Sb.new (Ms.init 4 []) []).store 32776 at_) at_ false := ⟨rfl, rfl, fun e => by cases e⟩
  clear hb hst
  generalize (Sb.new (Ms.init 4 []) []).store 32776 at_ = s0 at *
  go_wp2_with fail
  refine (Hst.out).mono ?_
  rintro e w2 ⟨rfl, hB2, _⟩
  have hS : ∃ s, BO w w2 (fun _ => False) a s ∧ Tl s at_ false := ⟨_, hB2, hT⟩
  clear hB hB2 hT
  go_wp2_with fail
  go_loopw [8, 9] (fun t i wr => ∃ (k : Nat) (told : Bool), k ≤ len ∧ i = .int .i64 k ∧ t = .bool told ∧ ∃ s, BO w wr (fun _ => False) a s ∧ Tl s at_ told) (fun _ i _ => len - (intOf i).toNat)
  case atStart => exact ⟨0, false, by omega, rfl, rfl, hS⟩
  case round =>
    clear hS
    obtain ⟨k, told, hk, rfl, rfl, s, hB, hT⟩ := hrel
    by_cases hlt : k < len ∧ k < 30
    · obtain ⟨h1, h2⟩ := hlt
      obtain ⟨b, off, rfl, hb, hcell⟩ := (HZ.out.fr hB.frame (Nat.le_refl _) (fun _ _ e => e)).at_ h1
      have hwf := wf_u64 (HZ.out.2.1 k h1)
      have hk30 : decide ((k : Int) < 30) = true := by simp; omega
      generalize zs.getD k 0 = z at *
      have hn0 : 0 ≤ z % 1099511627776 := by omega
      have hn1 : z % 1099511627776 ≤ 18446744073709551615 := by omega
      obtain ⟨n, hn⟩ : ∃ n, z % 1099511627776 = n := ⟨_, rfl⟩
      rw [hn] at hn0 hn1
      have Hn := Lib.hid hn
      have hwr : IntKind.u32.wrap n = n % 4294967296 := IntKind.wrap_u32 _
      have hti := tick_o hB n
      have hq0 : 0 ≤ n % 4294967296 := by omega
      have hq1 : n % 4294967296 ≤ 4294967295 := by omega
      have hv : loadB 32780 = true := by decide
      have hb0 : bits .and .u32 0 1 = 0 := by decide
      have hb1 : bits .and .u32 1 1 = 1 := by decide
      have hcase : told = true ∨ (told = false ∧ at_ = 0) ∨ (told = false ∧ at_ ≠ 0 ∧ at_ ≤ n % 4294967296) ∨ (told = false ∧ at_ ≠ 0 ∧ n % 4294967296 < at_) := by
        cases told
        · simp; omega
        · simp
      rcases hcase with rfl | ⟨rfl, rfl⟩ | ⟨rfl, hz, hle⟩ | ⟨rfl, hz, hgt⟩
      · have hnz := hT.nz rfl
        have hnz' : (at_ != 0) = true := by simpa using hnz
        have h0nz : ((0 : Int) != at_) = true := by simp; omega
        rw [hT.no (.inl rfl)] at hti
        have Hti := Lib.hid hti
        have hti : Hid (Calls Try.prog 21 #[.pointer (some ⟨a.gB, 0, none⟩), .int .u64 n] _ fun e w' => e = .returned (.tuple #[]) ∧ BO w w' (fun _ => False) a s ∧ Fr (fun k => ¬ (fun _ => False) k) _ w') := Hti
        clear hnz hti
        go_wp2_with fail
        try rw [Hn.out]
        refine (Hti.out).mono ?_
        rintro e w3 ⟨rfl, hB3, _⟩
        have hld := load_o hB3 32780 n (by omega) (by omega) hn0 hn1
        rw [hv] at hld
        rw [show s.read 32780 = s from rfl, show loadV s 32780 n = n % 4294967296 from rfl] at hld
        have Hld := Lib.hid hld
        clear hB3 hld hB
        generalize n % 4294967296 = q at *
        go_wp2_with fail
        try rw [Hn.out]
        refine (Hld.out).mono ?_
        rintro e w4 ⟨rfl, hB4, _⟩
        obtain ⟨c0, c1, c2, c3, c4, c5, c6, c7⟩ := hB4.cells
        have hpe := pending_o hB4
        rw [hT.p, if_pos rfl] at hpe
        have Hpe : Hid (Calls Try.prog 18 #[.pointer (some ⟨a.gc, 0, none⟩)] w4 fun e w' => e = .returned (.int .u32 1) ∧ w4 = w') := hpe
        have hao := at_o hB4
        rw [hT.tm, if_pos rfl] at hao
        have Hao := Lib.hid hao
        have hqq : (q != q) = false := by simp
        clear hpe hao
        go_wp2_with fail
        refine (Hpe.out).mono ?_
        rintro e w' ⟨rfl, rfl⟩
        go_wp2_with fail
        refine (Hao.out).mono ?_
        rintro e w' ⟨rfl, rfl⟩
        go_wp2_with fail
        go_roundw
        case rel => exact ⟨k + 1, true, by omega, by go_num, rfl, s, hB4, hT⟩
        case measure => simp [intOf]; omega
      · rw [hT.no (.inr (.inl rfl))] at hti
        have Hti := Lib.hid hti
        clear hti
        go_wp2_with fail
        try rw [Hn.out]
        refine (Hti.out).mono ?_
        rintro e w3 ⟨rfl, hB3, _⟩
        have hld := load_o hB3 32780 n (by omega) (by omega) hn0 hn1
        rw [hv] at hld
        rw [show s.read 32780 = s from rfl, show loadV s 32780 n = n % 4294967296 from rfl] at hld
        have Hld := Lib.hid hld
        clear hB3 hld hB
        generalize n % 4294967296 = q at *
        go_wp2_with fail
        try rw [Hn.out]
        refine (Hld.out).mono ?_
        rintro e w4 ⟨rfl, hB4, _⟩
        obtain ⟨c0, c1, c2, c3, c4, c5, c6, c7⟩ := hB4.cells
        have hpe := pending_o hB4
        rw [hT.p, if_neg Bool.false_ne_true] at hpe
        have Hpe : Hid (Calls Try.prog 18 #[.pointer (some ⟨a.gc, 0, none⟩)] w4 fun e w' => e = .returned (.int .u32 0) ∧ w4 = w') := hpe
        have hao := at_o hB4
        rw [hT.tm, if_neg Bool.false_ne_true] at hao
        have Hao := Lib.hid hao
        have hqq : (q != q) = false := by simp
        clear hpe hao
        go_wp2_with fail
        refine (Hpe.out).mono ?_
        rintro e w' ⟨rfl, rfl⟩
        go_wp2_with fail
        refine (Hao.out).mono ?_
        rintro e w' ⟨rfl, rfl⟩
        go_wp2_with fail
        go_roundw
        case rel => exact ⟨k + 1, false, by omega, by go_num, rfl, s, hB4, hT⟩
        case measure => simp [intOf]; omega
      · have hz' : (at_ != 0) = true := by simpa using hz
        have h0nz : ((0 : Int) != at_) = true := by simp; omega
        have hT2 := hT.yes hz hle
        have hr : (s.tick n).read 32780 = s.tick n := rfl
        have hlv : loadV (s.tick n) 32780 n = n % 4294967296 := rfl
        have Hti := Lib.hid hti
        have HT2 := Lib.hid hT2
        have Hr := Lib.hid hr
        have Hlv := Lib.hid hlv
        clear hti hz hT hT2 hr hlv
        generalize s.tick n = s2 at *
        generalize n % 4294967296 = q at *
        go_wp2_with fail
        try rw [Hn.out]
        refine (Hti.out).mono ?_
        rintro e w3 ⟨rfl, hB3, _⟩
        have hld := load_o hB3 32780 n (by omega) (by omega) hn0 hn1
        rw [hv, Hr.out, Hlv.out] at hld
        have Hld := Lib.hid hld
        clear hB3 hld hB
        go_wp2_with fail
        try rw [Hn.out]
        refine (Hld.out).mono ?_
        rintro e w4 ⟨rfl, hB4, _⟩
        obtain ⟨c0, c1, c2, c3, c4, c5, c6, c7⟩ := hB4.cells
        have hpe := pending_o hB4
        rw [HT2.out.p, if_pos rfl] at hpe
        have Hpe : Hid (Calls Try.prog 18 #[.pointer (some ⟨a.gc, 0, none⟩)] w4 fun e w' => e = .returned (.int .u32 1) ∧ w4 = w') := hpe
        have hao := at_o hB4
        rw [HT2.out.tm, if_pos rfl] at hao
        have Hao := Lib.hid hao
        have hqq : (q != q) = false := by simp
        clear hpe hao
        go_wp2_with fail
        refine (Hpe.out).mono ?_
        rintro e w' ⟨rfl, rfl⟩
        go_wp2_with fail
        refine (Hao.out).mono ?_
        rintro e w' ⟨rfl, rfl⟩
        go_wp2_with fail
        go_roundw
        case rel => exact ⟨k + 1, true, by omega, by go_num, rfl, s2, hB4, HT2.out⟩
        case measure => simp [intOf]; omega
      · have hz' : (at_ != 0) = true := by simpa using hz
        have hgt' : decide (at_ ≤ n % 4294967296) = false := by simp; omega
        have haa : (at_ != at_) = false := by simp
        rw [hT.no (.inr (.inr hgt))] at hti
        have Hti := Lib.hid hti
        have hlv : loadV s 32780 n = n % 4294967296 := rfl
        have Hlv := Lib.hid hlv
        clear hti hz hgt hlv
        generalize n % 4294967296 = q at *
        go_wp2_with fail
        try rw [Hn.out]
        refine (Hti.out).mono ?_
        rintro e w3 ⟨rfl, hB3, _⟩
        have hld := load_o hB3 32780 n (by omega) (by omega) hn0 hn1
        rw [hv, Hlv.out] at hld
        rw [show s.read 32780 = s from rfl] at hld
        have Hld := Lib.hid hld
        clear hB3 hld hB
        go_wp2_with fail
        try rw [Hn.out]
        refine (Hld.out).mono ?_
        rintro e w4 ⟨rfl, hB4, _⟩
        obtain ⟨c0, c1, c2, c3, c4, c5, c6, c7⟩ := hB4.cells
        have hpe := pending_o hB4
        rw [hT.p, if_neg Bool.false_ne_true] at hpe
        have Hpe : Hid (Calls Try.prog 18 #[.pointer (some ⟨a.gc, 0, none⟩)] w4 fun e w' => e = .returned (.int .u32 0) ∧ w4 = w') := hpe
        have hao := at_o hB4
        rw [hT.tm, if_neg Bool.false_ne_true] at hao
        have Hao := Lib.hid hao
        have hqq : (q != q) = false := by simp
        clear hpe hao
        go_wp2_with fail
        refine (Hpe.out).mono ?_
        rintro e w' ⟨rfl, rfl⟩
        go_wp2_with fail
        refine (Hao.out).mono ?_
        rintro e w' ⟨rfl, rfl⟩
        go_wp2_with fail
        go_roundw
        case rel => exact ⟨k + 1, false, by omega, by go_num, rfl, s, hB4, hT⟩
        case measure => simp [intOf]; omega
    · have fr := hB.frame
      obtain ⟨c0, c1, c2, c3, c4, c5, c6, c7⟩ := hB.cells
      have hpe := pending_o hB
      have hb0 : bits .andNot .u32 0 1 = 0 := by decide
      have hb1 : bits .andNot .u32 1 1 = 0 := by decide
      have hp := hT.p
      cases told
      · rw [hp, if_neg Bool.false_ne_true] at hpe
        have Hpe : Hid (Calls Try.prog 18 #[.pointer (some ⟨a.gc, 0, none⟩)] _ fun e w' => e = .returned (.int .u32 0) ∧ _ = w') := hpe
        clear hpe
        go_wp2_with fail
        all_goals
          refine (Hpe.out).mono ?_
          rintro e w' ⟨rfl, rfl⟩
          go_wp2_with fail
          refine (known15 _).mono ?_
          rintro e w8 ⟨rfl, f8⟩
          go_wp2_with fail
          go_ret
          exact ⟨rfl, fr.tr f8⟩
      · rw [hp, if_pos rfl] at hpe
        have Hpe : Hid (Calls Try.prog 18 #[.pointer (some ⟨a.gc, 0, none⟩)] _ fun e w' => e = .returned (.int .u32 1) ∧ _ = w') := hpe
        clear hpe
        go_wp2_with fail
        all_goals
          refine (Hpe.out).mono ?_
          rintro e w' ⟨rfl, rfl⟩
          go_wp2_with fail
          refine (known15 _).mono ?_
          rintro e w8 ⟨rfl, f8⟩
          go_wp2_with fail
          go_ret
          exact ⟨rfl, fr.tr f8⟩
end Go.Proofs.Ythiephlfhbkcbaa.busTimes
