/- The translation buffer: Find. -/
import Derived.Test.YthiephlfhbkcbaaTlb
namespace Go.Proofs.Ythiephlfhbkcbaa.Tl
open Go.RowKit
set_option linter.unusedVariables false
set_option maxHeartbeats 4000000

theorem find_any (w : World) (g : Nat) (l : Nat → Ent) (va kind : Int) (super : Bool) (hv : 0 ≤ va) (hv1 : va ≤ 4294967295) (k : Nat) (hk : va / 64 % 16 = k) (h : Buf w g l) :
    Calls Try.prog 96 #[.pointer (some ⟨g, 0, none⟩), .int .u32 va, .int .i64 kind, .bool super] w fun e w' => e = .returned (.tuple #[.int .u32 (found (l k) va kind super), .bool (hit (l k) va kind super)]) ∧ Fr (fun _ => False) w w' := by
  have hk16 : k < 16 := by omega
  have Hk := Lib.hid hk
  clear hk
  obtain ⟨c0, c1, c2, c3⟩ := h.ent k hk16
  have hlt := h.lt
  have hq : 0 ≤ va / 64 := by omega
  generalize l k = en at *
  obtain ⟨v, n, p, b⟩ := en
  dsimp only at c0 c1 c2 c3
  by_cases hkind : 1 ≤ kind ∧ kind ≤ 3
  · cases v
    · have hd : hit ⟨false, n, p, b⟩ va kind super = false := by simp [hit]
      have hf : found ⟨false, n, p, b⟩ va kind super = 0 := by simp [found, hd]
      rw [hd, hf]
      clear hd hf
      go_enter Try.func96, Try.ntmps96
      go_wp2
      go_region_with ((go_at_call 109; refine (place_k _ _ _ hq Hk).mono ?_; rintro e w' ⟨rfl, rfl⟩))
      all_goals go_wp2_with fail
      all_goals (refine (asked_any _ _ _ hkind).mono ?_; rintro e w' ⟨rfl, rfl⟩)
      all_goals go_wp2_with fail
      all_goals (go_ret2; refine ⟨rfl, ?_⟩)
      all_goals (repeat (first | exact Fr.refl _ _ | with_reducible assumption | refine Fr.drewN ?_ _ | refine Fr.drew ?_ | refine Fr.alloc ?_ _ | (refine Fr.setCell (p := ⟨_, _, _⟩) ?_ ?_ _; rotate_left; first | exact .inl rfl | (right; simp; done) | (right; simp; omega))))
    · by_cases hn : n = va / 64
      · by_cases hb : bits .and .u32 b (asks kind super) = asks kind super
        · have hd : hit ⟨true, n, p, b⟩ va kind super = true := by simp [hit, hkind, hn, hb]
          have hf : found ⟨true, n, p, b⟩ va kind super = p * 64 % 4294967296 + va % 64 := by rw [found, if_pos hd]
          rw [hd, hf]
          clear hd hf
          have hn' : (n != va / 64) = false := by simp [hn]
          have hb' : (bits .and .u32 b (asks kind super) != asks kind super) = false := by simp [hb]
          clear hn hb
          go_enter Try.func96, Try.ntmps96
          go_wp2
          go_region_with ((go_at_call 109; refine (place_k _ _ _ hq Hk).mono ?_; rintro e w' ⟨rfl, rfl⟩))
          all_goals go_wp2_with fail
          all_goals (refine (asked_any _ _ _ hkind).mono ?_; rintro e w' ⟨rfl, rfl⟩)
          all_goals go_wp2_with fail
          all_goals (go_ret2; refine ⟨rfl, ?_⟩)
          all_goals (repeat (first | exact Fr.refl _ _ | with_reducible assumption | refine Fr.drewN ?_ _ | refine Fr.drew ?_ | refine Fr.alloc ?_ _ | (refine Fr.setCell (p := ⟨_, _, _⟩) ?_ ?_ _; rotate_left; first | exact .inl rfl | (right; simp; done) | (right; simp; omega))))
        · have hd : hit ⟨true, n, p, b⟩ va kind super = false := by simp [hit, hb]
          have hf : found ⟨true, n, p, b⟩ va kind super = 0 := by simp [found, hd]
          rw [hd, hf]
          clear hd hf
          have hn' : (n != va / 64) = false := by simp [hn]
          have hb' : (bits .and .u32 b (asks kind super) != asks kind super) = true := by simp [hb]
          clear hn hb
          go_enter Try.func96, Try.ntmps96
          go_wp2
          go_region_with ((go_at_call 109; refine (place_k _ _ _ hq Hk).mono ?_; rintro e w' ⟨rfl, rfl⟩))
          all_goals go_wp2_with fail
          all_goals (refine (asked_any _ _ _ hkind).mono ?_; rintro e w' ⟨rfl, rfl⟩)
          all_goals go_wp2_with fail
          all_goals (go_ret2; refine ⟨rfl, ?_⟩)
          all_goals (repeat (first | exact Fr.refl _ _ | with_reducible assumption | refine Fr.drewN ?_ _ | refine Fr.drew ?_ | refine Fr.alloc ?_ _ | (refine Fr.setCell (p := ⟨_, _, _⟩) ?_ ?_ _; rotate_left; first | exact .inl rfl | (right; simp; done) | (right; simp; omega))))
      · have hd : hit ⟨true, n, p, b⟩ va kind super = false := by simp [hit, hn]
        have hf : found ⟨true, n, p, b⟩ va kind super = 0 := by simp [found, hd]
        rw [hd, hf]
        clear hd hf
        have hn' : (n != va / 64) = true := by simp [hn]
        clear hn
        go_enter Try.func96, Try.ntmps96
        go_wp2
        go_region_with ((go_at_call 109; refine (place_k _ _ _ hq Hk).mono ?_; rintro e w' ⟨rfl, rfl⟩))
        all_goals go_wp2_with fail
        all_goals (refine (asked_any _ _ _ hkind).mono ?_; rintro e w' ⟨rfl, rfl⟩)
        all_goals go_wp2_with fail
        all_goals (go_ret2; refine ⟨rfl, ?_⟩)
        all_goals (repeat (first | exact Fr.refl _ _ | with_reducible assumption | refine Fr.drewN ?_ _ | refine Fr.drew ?_ | refine Fr.alloc ?_ _ | (refine Fr.setCell (p := ⟨_, _, _⟩) ?_ ?_ _; rotate_left; first | exact .inl rfl | (right; simp; done) | (right; simp; omega))))
  · have hd : hit ⟨v, n, p, b⟩ va kind super = false := by simp [hit, hkind]
    have hf : found ⟨v, n, p, b⟩ va kind super = 0 := by simp [found, hd]
    rw [hd, hf]
    clear hd hf
    go_enter Try.func96, Try.ntmps96
    go_wp2
    go_region_with ((go_at_call 109; refine (place_k _ _ _ hq Hk).mono ?_; rintro e w' ⟨rfl, rfl⟩))
    all_goals go_wp2_with fail
    all_goals (refine (asked_no _ _ _ (by omega)).mono ?_; rintro e w' ⟨rfl, rfl⟩)
    all_goals go_wp2_with fail
    all_goals (go_ret2; refine ⟨rfl, ?_⟩)
    all_goals (repeat (first | exact Fr.refl _ _ | with_reducible assumption | refine Fr.drewN ?_ _ | refine Fr.drew ?_ | refine Fr.alloc ?_ _ | (refine Fr.setCell (p := ⟨_, _, _⟩) ?_ ?_ _; rotate_left; first | exact .inl rfl | (right; simp; done) | (right; simp; omega))))
end Go.Proofs.Ythiephlfhbkcbaa.Tl
