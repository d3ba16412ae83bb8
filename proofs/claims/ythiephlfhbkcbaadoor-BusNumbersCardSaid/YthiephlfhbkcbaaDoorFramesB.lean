/- The host's memory, II: here, Byte, Put, Promised, Free, New. -/
import Derived.Test.YthiephlfhbkcbaaDoorFrames
namespace Go.Proofs.YthiephlfhbkcbaaDoor.Fm
open Go.RowKit
set_option linter.unusedVariables false
set_option maxHeartbeats 4000000

def hereB (s : Pl) (f a : Int) : Bool := ownB s f && decide (0 ≤ a ∧ a < 64)
theorem ownB_in {s : Pl} {f : Int} (h : ownB s f = true) : 16 ≤ f ∧ f < 256 := by
  simp [ownB, isF] at h
  exact h.1
theorem here_any (w : World) (g : Nat) (s : Pl) (f a : Int) (h : Pool w g s) : Calls Tryd.prog 74 #[.pointer (some ⟨g, 0, none⟩), .int .i64 f, .int .i64 a] w fun e w' => e = .returned (.bool (hereB s f a)) ∧ w = w' := by
  have ho := Lib.hid (owner_any w g s f h)
  cases hb : ownB s f
  · have e1 : hereB s f a = false := by simp [hereB, hb]
    rw [e1]
    have hv := ho.out
    rw [hb] at hv
    have Hv := Lib.hid hv
    clear hv hb e1 ho
    go_enter Tryd.func74, Tryd.ntmps74
    go_wp2_with fail
    refine (Hv.out).mono ?_
    rintro e w' ⟨rfl, rfl⟩
    go_wp2_with fail
    go_ret
    exact ⟨rfl, rfl⟩
  · have hv := ho.out
    rw [hb] at hv
    have Hv := Lib.hid hv
    clear hv ho
    by_cases h0 : 0 ≤ a
    · by_cases h1 : a < 64
      · have e1 : hereB s f a = true := by simp [hereB, hb, h0, h1]
        rw [e1]
        clear e1 hb
        go_enter Tryd.func74, Tryd.ntmps74
        go_wp2_with fail
        refine (Hv.out).mono ?_
        rintro e w' ⟨rfl, rfl⟩
        go_wp2_with fail
        go_ret
        exact ⟨rfl, rfl⟩
      · have e1 : hereB s f a = false := by simp [hereB, h1]
        have h1' : decide (a < 64) = false := by simpa using h1
        rw [e1]
        clear e1 hb
        go_enter Tryd.func74, Tryd.ntmps74
        go_wp2_with fail
        refine (Hv.out).mono ?_
        rintro e w' ⟨rfl, rfl⟩
        go_wp2_with fail
        go_ret
        exact ⟨rfl, rfl⟩
    · have e1 : hereB s f a = false := by simp [hereB, h0]
      have h0' : decide (0 ≤ a) = false := by simpa using h0
      rw [e1]
      clear e1 hb
      go_enter Tryd.func74, Tryd.ntmps74
      go_wp2_with fail
      refine (Hv.out).mono ?_
      rintro e w' ⟨rfl, rfl⟩
      go_wp2_with fail
      go_ret
      exact ⟨rfl, rfl⟩
theorem hereB_at {s : Pl} {f a : Int} (h : hereB s f a = true) : ∃ k j : Nat, f = k ∧ a = j ∧ 16 ≤ k ∧ k < 256 ∧ j < 64 := by
  simp [hereB] at h
  obtain ⟨h1, h2, h3⟩ := h
  have := ownB_in h1
  exact ⟨f.toNat, a.toNat, by omega, by omega, by omega, by omega, by omega⟩

/-- a byte of a frame -/
def bytV (s : Pl) (f a : Int) : Int := if hereB s f a then s.byt (f.toNat * 64 + a.toNat) else 0
theorem byte_any (w : World) (g : Nat) (s : Pl) (f a : Int) (h : Pool w g s) : Calls Tryd.prog 66 #[.pointer (some ⟨g, 0, none⟩), .int .i64 f, .int .i64 a] w fun e w' => e = .returned (.tuple #[.int .u8 (bytV s f a), .bool (hereB s f a)]) ∧ w = w' := by
  have hh := Lib.hid (here_any w g s f a h)
  cases hb : hereB s f a
  · have e1 : bytV s f a = 0 := by simp [bytV, hb]
    rw [e1]
    have hv := hh.out
    rw [hb] at hv
    have Hv := Lib.hid hv
    clear hv hb e1 hh
    go_enter Tryd.func66, Tryd.ntmps66
    go_wp2_with fail
    refine (Hv.out).mono ?_
    rintro e w' ⟨rfl, rfl⟩
    go_wp2_with fail
    go_ret2
    exact ⟨rfl, rfl⟩
  · have e1 : bytV s f a = s.byt (f.toNat * 64 + a.toNat) := by simp [bytV, hb]
    rw [e1]
    have hv := hh.out
    rw [hb] at hv
    have Hv := Lib.hid hv
    obtain ⟨k, j, rfl, rfl, h1, h2, h3⟩ := hereB_at hb
    have c := h.cByt (k * 64 + j) (by omega)
    clear hv hb e1 hh
    go_enter Tryd.func66, Tryd.ntmps66
    go_wp2_with fail
    refine (Hv.out).mono ?_
    rintro e w' ⟨rfl, rfl⟩
    go_wp2_with fail
    go_ret2
    exact ⟨rfl, rfl⟩

/-- what a Put leaves -/
def Pl.putB (s : Pl) (f a b : Int) : Pl := if hereB s f a then s.setByt (f.toNat * 64 + a.toNat) b else s
theorem put_any (w : World) (g : Nat) (s : Pl) (f a b : Int) (h : Pool w g s) : Calls Tryd.prog 72 #[.pointer (some ⟨g, 0, none⟩), .int .i64 f, .int .i64 a, .int .u8 b] w fun e w' => e = .returned (.bool (hereB s f a)) ∧ Pool w' g (s.putB f a b) ∧ Fr (· = g) w w' := by
  have hh := Lib.hid (here_any w g s f a h)
  cases hb : hereB s f a
  · have e1 : s.putB f a b = s := by simp [Pl.putB, hb]
    rw [e1]
    have hv := hh.out
    rw [hb] at hv
    have Hv := Lib.hid hv
    clear hv hb e1 hh
    go_enter Tryd.func72, Tryd.ntmps72
    go_wp2_with fail
    refine (Hv.out).mono ?_
    rintro e w' ⟨rfl, rfl⟩
    go_wp2_with fail
    go_ret
    exact ⟨rfl, h, Fr.refl _ _⟩
  · have e1 : s.putB f a b = s.setByt (f.toNat * 64 + a.toNat) b := by simp [Pl.putB, hb]
    rw [e1]
    have hv := hh.out
    rw [hb] at hv
    have Hv := Lib.hid hv
    obtain ⟨k, j, rfl, rfl, h1, h2, h3⟩ := hereB_at hb
    have c := h.cByt (k * 64 + j) (by omega)
    have z := Cells.frozen h (k * 64 + j)
    have hp := h.setByt (k * 64 + j) (by omega) b
    clear hv hb e1 hh
    go_enter Tryd.func72, Tryd.ntmps72
    go_wp2_with fail
    refine (Hv.out).mono ?_
    rintro e w' ⟨rfl, rfl⟩
    go_wp2_with fail
    go_ret
    exact ⟨rfl, hp, Fr.set1 _ _ _ _⟩

/-- a promise, told: 0 of none -/
def promV (s : Pl) (o : Int) : Int := if isO o then max (s.prom o.toNat) 0 else 0

/-- how many nobody holds, from 16 on below k -/
def freeN (s : Pl) : Nat → Nat
  | 0 => 0
  | k + 1 => freeN s k + if 16 ≤ k ∧ s.own k = -1 then 1 else 0
theorem freeN_le (s : Pl) (k : Nat) : freeN s k ≤ k := by
  induction k with
  | zero => simp [freeN]
  | succ k ih => simp only [freeN]; split <;> omega
theorem freeN16 (s : Pl) : ∀ k, k ≤ 16 → freeN s k = 0 := by
  intro k
  induction k with
  | zero => intro _; rfl
  | succ k ih => intro h; rw [freeN, ih (by omega), if_neg (by omega)]
end Go.Proofs.YthiephlfhbkcbaaDoor.Fm
