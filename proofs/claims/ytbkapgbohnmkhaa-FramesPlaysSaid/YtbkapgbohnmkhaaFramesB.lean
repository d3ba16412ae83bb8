/- The host's memory, II: here, Byte, Put, Promised, Free, New. -/
import Derived.Test.YtbkapgbohnmkhaaFrames
namespace Go.Proofs.Ytbkapgbohnmkhaa.Fm
open Go.RowKit
set_option linter.unusedVariables false
set_option maxHeartbeats 4000000

def hereB (s : Pl) (f a : Int) : Bool := ownB s f && decide (0 ≤ a ∧ a < 64)
theorem ownB_in {s : Pl} {f : Int} (h : ownB s f = true) : 16 ≤ f ∧ f < 256 := by
  simp [ownB, isF] at h
  exact h.1
theorem here_any (w : World) (g : Nat) (s : Pl) (f a : Int) (h : Pool w g s) : Calls Try.prog 47 #[.pointer (some ⟨g, 0, none⟩), .int .i64 f, .int .i64 a] w fun e w' => e = .returned (.bool (hereB s f a)) ∧ w = w' := by
  have ho := Lib.hid (owner_any w g s f h)
  cases hb : ownB s f
  · have e1 : hereB s f a = false := by simp [hereB, hb]
    rw [e1]
    have hv := ho.out
    rw [hb] at hv
    have Hv := Lib.hid hv
    clear hv hb e1 ho
    go_enter Try.func47, Try.ntmps47
    go_wp2_with fail
    refine (Hv.out).mono ?_
    rintro e w' ⟨rfl, rfl⟩
    go_wp2_with fail
    go_ret
    exact ⟨rfl, rfl⟩
  · have hv := ho.out
    rw [hb] at hv
    have Hv := Lib.hid hv
    clear hv ho
    by_cases h0 : 0 ≤ a
    · by_cases h1 : a < 64
      · have e1 : hereB s f a = true := by simp [hereB, hb, h0, h1]
        rw [e1]
        clear e1 hb
        go_enter Try.func47, Try.ntmps47
        go_wp2_with fail
        refine (Hv.out).mono ?_
        rintro e w' ⟨rfl, rfl⟩
        go_wp2_with fail
        go_ret
        exact ⟨rfl, rfl⟩
      · have e1 : hereB s f a = false := by simp [hereB, h1]
        have h1' : decide (a < 64) = false := by simpa using h1
        rw [e1]
        clear e1 hb
        go_enter Try.func47, Try.ntmps47
        go_wp2_with fail
        refine (Hv.out).mono ?_
        rintro e w' ⟨rfl, rfl⟩
        go_wp2_with fail
        go_ret
        exact ⟨rfl, rfl⟩
    · have e1 : hereB s f a = false := by simp [hereB, h0]
      have h0' : decide (0 ≤ a) = false := by simpa using h0
      rw [e1]
      clear e1 hb
      go_enter Try.func47, Try.ntmps47
      go_wp2_with fail
      refine (Hv.out).mono ?_
      rintro e w' ⟨rfl, rfl⟩
      go_wp2_with fail
      go_ret
      exact ⟨rfl, rfl⟩
theorem hereB_at {s : Pl} {f a : Int} (h : hereB s f a = true) : ∃ k j : Nat, f = k ∧ a = j ∧ 16 ≤ k ∧ k < 256 ∧ j < 64 := by
  simp [hereB] at h
  obtain ⟨h1, h2, h3⟩ := h
  have := ownB_in h1
  exact ⟨f.toNat, a.toNat, by omega, by omega, by omega, by omega, by omega⟩

/-- a byte of a frame -/
def bytV (s : Pl) (f a : Int) : Int := if hereB s f a then s.byt (f.toNat * 64 + a.toNat) else 0
theorem byte_any (w : World) (g : Nat) (s : Pl) (f a : Int) (h : Pool w g s) : Calls Try.prog 21 #[.pointer (some ⟨g, 0, none⟩), .int .i64 f, .int .i64 a] w fun e w' => e = .returned (.tuple #[.int .u8 (bytV s f a), .bool (hereB s f a)]) ∧ w = w' := by
  have hh := Lib.hid (here_any w g s f a h)
  cases hb : hereB s f a
  · have e1 : bytV s f a = 0 := by simp [bytV, hb]
    rw [e1]
    have hv := hh.out
    rw [hb] at hv
    have Hv := Lib.hid hv
    clear hv hb e1 hh
    go_enter Try.func21, Try.ntmps21
    go_wp2_with fail
    refine (Hv.out).mono ?_
    rintro e w' ⟨rfl, rfl⟩
    go_wp2_with fail
    go_ret2
    exact ⟨rfl, rfl⟩
  · have e1 : bytV s f a = s.byt (f.toNat * 64 + a.toNat) := by simp [bytV, hb]
    rw [e1]
    have hv := hh.out
    rw [hb] at hv
    have Hv := Lib.hid hv
    obtain ⟨k, j, rfl, rfl, h1, h2, h3⟩ := hereB_at hb
    have c := h.cByt (k * 64 + j) (by omega)
    clear hv hb e1 hh
    go_enter Try.func21, Try.ntmps21
    go_wp2_with fail
    refine (Hv.out).mono ?_
    rintro e w' ⟨rfl, rfl⟩
    go_wp2_with fail
    go_ret2
    exact ⟨rfl, rfl⟩

/-- what a Put leaves -/
def Pl.putB (s : Pl) (f a b : Int) : Pl := if hereB s f a then s.setByt (f.toNat * 64 + a.toNat) b else s
theorem put_any (w : World) (g : Nat) (s : Pl) (f a b : Int) (h : Pool w g s) : Calls Try.prog 20 #[.pointer (some ⟨g, 0, none⟩), .int .i64 f, .int .i64 a, .int .u8 b] w fun e w' => e = .returned (.bool (hereB s f a)) ∧ Pool w' g (s.putB f a b) ∧ Fr (· = g) w w' := by
  have hh := Lib.hid (here_any w g s f a h)
  cases hb : hereB s f a
  · have e1 : s.putB f a b = s := by simp [Pl.putB, hb]
    rw [e1]
    have hv := hh.out
    rw [hb] at hv
    have Hv := Lib.hid hv
    clear hv hb e1 hh
    go_enter Try.func20, Try.ntmps20
    go_wp2_with fail
    refine (Hv.out).mono ?_
    rintro e w' ⟨rfl, rfl⟩
    go_wp2_with fail
    go_ret
    exact ⟨rfl, h, Fr.refl _ _⟩
  · have e1 : s.putB f a b = s.setByt (f.toNat * 64 + a.toNat) b := by simp [Pl.putB, hb]
    rw [e1]
    have hv := hh.out
    rw [hb] at hv
    have Hv := Lib.hid hv
    obtain ⟨k, j, rfl, rfl, h1, h2, h3⟩ := hereB_at hb
    have c := h.cByt (k * 64 + j) (by omega)
    have z := Cells.frozen h (k * 64 + j)
    have hp := h.setByt (k * 64 + j) (by omega) b
    clear hv hb e1 hh
    go_enter Try.func20, Try.ntmps20
    go_wp2_with fail
    refine (Hv.out).mono ?_
    rintro e w' ⟨rfl, rfl⟩
    go_wp2_with fail
    go_ret
    exact ⟨rfl, hp, Fr.set1 _ _ _ _⟩

/-- a promise, told: 0 of none -/
def promV (s : Pl) (o : Int) : Int := if isO o then max (s.prom o.toNat) 0 else 0
theorem promised_any (w : World) (g : Nat) (s : Pl) (o : Int) (h : Pool w g s) : Calls Try.prog 43 #[.pointer (some ⟨g, 0, none⟩), .int .i64 o] w fun e w' => e = .returned (.int .i64 (promV s o)) ∧ w = w' := by
  have hf := fun w => is_any w o
  have Hf := Lib.hid hf
  clear hf
  cases hb : isO o
  · have e1 : promV s o = 0 := by simp [promV, hb]
    rw [e1]
    rw [hb] at Hf
    clear hb e1
    go_enter Try.func43, Try.ntmps43
    go_wp2_with fail
    refine (Hf.out _).mono ?_
    rintro e w' ⟨rfl, rfl⟩
    go_wp2_with fail
    go_ret
    exact ⟨rfl, rfl⟩
  · have e1 : promV s o = max (s.prom o.toNat) 0 := by simp [promV, hb]
    rw [e1]
    obtain ⟨h2, h3⟩ : 0 ≤ o ∧ o < 4 := by simpa [isO] using hb
    obtain ⟨k, rfl⟩ : ∃ k : Nat, o = k := ⟨o.toNat, by omega⟩
    rw [hb] at Hf
    clear hb e1
    have c := h.cProm k (by omega)
    go_enter Try.func43, Try.ntmps43
    go_wp2_with fail
    refine (Hf.out _).mono ?_
    rintro e w' ⟨rfl, rfl⟩
    go_wp2_with fail
    · rw [show max (s.prom k) 0 = 0 by omega]
      go_ret
      exact ⟨rfl, rfl⟩
    · rw [show max (s.prom k) 0 = s.prom k by omega]
      go_ret
      exact ⟨rfl, rfl⟩

/-- how many nobody holds, from 16 on below k -/
def freeN (s : Pl) : Nat → Nat
  | 0 => 0
  | k + 1 => freeN s k + if 16 ≤ k ∧ s.own k = -1 then 1 else 0
theorem freeN_le (s : Pl) (k : Nat) : freeN s k ≤ k := by
  induction k with
  | zero => simp [freeN]
  | succ k ih => simp only [freeN]; split <;> omega
theorem freeN16 (s : Pl) : ∀ k, k ≤ 16 → freeN s k = 0 := by
  intro k
  induction k with
  | zero => intro _; rfl
  | succ k ih => intro h; rw [freeN, ih (by omega), if_neg (by omega)]
set_option maxRecDepth 100000 in
theorem free_any (w : World) (g : Nat) (s : Pl) (h : Pool w g s) : Calls Try.prog 18 #[.pointer (some ⟨g, 0, none⟩)] w fun e w' => e = .returned (.int .i64 (freeN s 256)) ∧ w = w' := by
  go_enter Try.func18, Try.ntmps18
  go_wp2_with fail
  go_loop [3, 4] (fun n i => ∃ k : Nat, 16 ≤ k ∧ k ≤ 256 ∧ i = .int .i64 k ∧ n = .int .i64 (freeN s k)) (fun _ i => 256 - (intOf i).toNat)
  case atStart => exact ⟨16, by omega, by omega, rfl, by rw [freeN16 s 16 (by omega)]; rfl⟩
  case round =>
    obtain ⟨k, h16, hk, rfl, rfl⟩ := hrel
    by_cases hlt : k < 256
    · have c := h.cOwn k hlt
      have hle := freeN_le s k
      by_cases ho : s.own k = -1
      · have Hs := Lib.hid (show freeN s (k + 1) = freeN s k + 1 by rw [freeN, if_pos ⟨h16, ho⟩])
        rw [ho] at c
        clear ho
        generalize freeN s k = n at *
        go_wp2_with fail
        go_round
        case rel => exact ⟨k + 1, by omega, by omega, by go_num, by rw [Hs.out]; go_num⟩
        case measure => simp [intOf]; omega
      · have Hs := Lib.hid (show freeN s (k + 1) = freeN s k by rw [freeN, if_neg (fun e => ho e.2)]; rfl)
        have ho' : (s.own k == -1) = false := by simpa using ho
        clear ho
        generalize freeN s k = n at *
        go_wp2_with fail
        go_round
        case rel => exact ⟨k + 1, by omega, by omega, by go_num, by rw [Hs.out]⟩
        case measure => simp [intOf]; omega
    · have : k = 256 := by omega
      subst this
      go_wp2_with fail
      go_ret
      exact ⟨rfl, rfl⟩
end Go.Proofs.Ytbkapgbohnmkhaa.Fm
