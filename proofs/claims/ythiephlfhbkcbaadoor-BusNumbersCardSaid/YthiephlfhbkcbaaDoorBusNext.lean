/- The document's bus (innkeeperref15.Bus): Next. -/
import Derived.Test.YthiephlfhbkcbaaDoorBusDoc
import Derived.Test.YthiephlfhbkcbaaDoorIrqSame
namespace Go.Proofs.YthiephlfhbkcbaaDoor.Bs
open Go.RowKit Fm Nt Rm By Dr Rf
set_option linter.unusedVariables false
set_option linter.unusedSimpArgs false
set_option maxHeartbeats 4000000

/-- the lowest line that waits; -1 -/
def nxt (p m : Nat) : Int := if Iq.nextB p m then (Iq.nextN p m : Int) else -1
set_option maxRecDepth 100000 in
theorem rnext_any (w : World) (r : Rr) (s : Sb) (h : Doc w r s) (hok : s.Ok) :
    Calls Tryd.prog 37 #[.pointer (some ⟨r.gR, 0, none⟩)] w fun e w' => e = .returned (.int .i64 (nxt s.p s.m)) ∧ Fr (fun _ => False) w w' := by
  obtain ⟨vo, vi, hb, ho, hi⟩ := h.b
  have c1 : w.cell? ⟨r.gR, 1, none⟩ = some (.int .u32 (s.p : Int)) := hb.cell 1
  have c2 : w.cell? ⟨r.gR, 2, none⟩ = some (.int .u32 (s.m : Int)) := hb.cell 2
  have hl := hb.lt
  have hp := hok.p
  have hm := hok.m
  have hx : s.p &&& s.m < 256 := Nat.lt_of_le_of_lt Nat.and_le_left hp
  have hand : bits .and .u32 (s.p : Int) (s.m : Int) = ((s.p &&& s.m : Nat) : Int) := u32_and_nat s.p s.m (by omega) (by omega)
  have hN : Iq.nextN s.p s.m = Iq.lw (s.p &&& s.m) 0 := (Iq.lw_0 _ hx).1
  have hB : Iq.nextB s.p s.m = Iq.lb (s.p &&& s.m) 0 := (Iq.lw_0 _ hx).2
  have hn : nxt s.p s.m = if Iq.lb (s.p &&& s.m) 0 then (Iq.lw (s.p &&& s.m) 0 : Int) else -1 := by rw [nxt, hN, hB]
  rw [hn]
  generalize s.p &&& s.m = x at *
  obtain ⟨res, hres⟩ : ∃ q : Int, (if Iq.lb x 0 then (Iq.lw x 0 : Int) else -1) = q := ⟨_, rfl⟩
  rw [hres]
  have HQ := Lib.hid hres
  clear hN hB hn ho hi hb h hp hm hres
  generalize (s.p : Int) = P at *
  generalize (s.m : Int) = M at *
  go_enter Tryd.func37, Tryd.ntmps37
  go_wp2_with fail
  go_loopw [3] (fun i wr => ∃ k : Nat, k ≤ 8 ∧ i = .int .i64 (k : Int) ∧ Iq.lw x k = Iq.lw x 0 ∧ Iq.lb x k = Iq.lb x 0 ∧ Fr (fun _ => False) w wr) (fun i _ => 8 - (intOf i).toNat)
  case atStart => exact ⟨0, by omega, rfl, rfl, rfl, Fr.refl _ _⟩
  case round =>
    obtain ⟨k, hk, rfl, h1, h2, fr⟩ := hrel
    have d1 := fr.cell c1 hl (fun e => e)
    have d2 := fr.cell c2 hl (fun e => e)
    clear c1 c2
    by_cases h8 : k < 8
    · have hlt : decide ((k : Int) < 8) = true := by simp; omega
      have hb : bits .and .u32 ((x : Int) / (2 : Int) ^ k) 1 = ((x / 2 ^ k % 2 : Nat) : Int) := by
        have e : (x : Int) / (2 : Int) ^ k = ((x / 2 ^ k : Nat) : Int) := by rw [Int.natCast_ediv]; simp
        rw [e, ← nat_mask1]
        exact u32_and_nat _ 1 (Nat.lt_of_le_of_lt (Nat.div_le_self _ _) (by omega)) (by omega)
      have k0 : (0 : Int) ≤ (k : Int) := by omega
      have k1 : (k : Int) < 8 := by omega
      by_cases hbit : x / 2 ^ k % 2 = 1
      · obtain ⟨s1, s2⟩ := Iq.lw_at x hx k h8 hbit
        have ht : (bits .and .u32 ((x : Int) / (2 : Int) ^ k) 1 == 1) = true := by rw [hb, hbit]; rfl
        have HX : Hid (res = (k : Int)) := Lib.hid (by rw [← HQ.out, ← h1, ← h2, s1, s2, if_pos rfl])
        clear hb hbit s1 s2 h1 h2
        go_wp2_with fail
        go_quiet (fail)
        go_wp2_with fail
        go_ret
        exact ⟨by rw [HX.out]; rfl, fr.drewN _⟩
      · obtain ⟨s1, s2⟩ := Iq.lw_up x hx k h8 hbit
        have ht : (bits .and .u32 ((x : Int) / (2 : Int) ^ k) 1 == 1) = false := beq_eq_false_iff_ne.2 (by rw [hb]; intro e; omega)
        have S1 := Lib.hid (s1.symm.trans h1)
        have S2 := Lib.hid (s2.symm.trans h2)
        clear hb hbit s1 s2 h1 h2
        go_wp2_with fail
        go_quiet (fail)
        go_wp2_with fail
        go_roundw
        case rel => exact ⟨k + 1, by omega, by go_num, S1.out, S2.out, fr.drewN _⟩
        case measure => simp [intOf]; omega
    · have e8 : k = 8 := by omega
      have HX : Hid (res = -1) := Lib.hid (by rw [← HQ.out, ← h2, e8, (Iq.lw_8 x hx).2, if_neg (by simp)])
      have hlt : decide ((k : Int) < 8) = false := by simp; omega
      clear h1 h2 e8
      go_wp2_with fail
      go_ret
      exact ⟨by rw [HX.out]; rfl, fr⟩
end Go.Proofs.YthiephlfhbkcbaaDoor.Bs
