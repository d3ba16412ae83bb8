/- A guest's memory, II: Word, PutWord. -/
import Derived.Test.YthiephlfhbkcbaaRam
import Derived.Lib.EndianBits
namespace Go.Proofs.Ythiephlfhbkcbaa.Rm
open Go.RowKit Fm Nt
set_option linter.unusedVariables false
set_option maxHeartbeats 4000000

theorem or8 (x y : Int) (h0 : 0 ≤ x) (h1 : x % 256 = 0) (h2 : x < 4294967296) (h3 : 0 ≤ y) (h4 : y < 256) : bits .or .u32 x y = x + y :=
  bits_join .u32 32 (by decide) wraps_u32 8 x y h0 h1 h2 h3 h4 (by omega)
/-- the word, from its last byte on -/
def wrd (m : Ms) (i : Nat) : Nat → Int
  | 0 => 0
  | r + 1 => wrd m i r * 256 + m.mem (i + (3 - r))
def wrdV (m : Ms) (at_ : Int) : Int := if inB m at_ 4 then wrd m at_.toNat 4 else 0
theorem word_any (w : World) (a : Am) (m : Ms) (h : Mem w a m) (at_ : Int) (h0 : 0 ≤ at_) (h1 : at_ ≤ 4294967295) : Calls Try.prog 122 #[.pointer (some ⟨a.gm, 0, none⟩), .int .u32 at_] w fun e w' => e = .returned (.tuple #[.int .u32 (wrdV m at_), .bool (inB m at_ 4)]) ∧ w = w' := by
  have his := is_any w a m h at_ 4 h0 h1 (by omega) (by omega)
  have hn := h.n0
  cases hb : inB m at_ 4
  · have e1 : wrdV m at_ = 0 := by simp [wrdV, hb]
    rw [hb] at his
    rw [e1]
    have His := Lib.hid his
    clear his hb e1
    go_enter Try.func122, Try.ntmps122
    go_wp2_with fail
    refine (His.out).mono ?_
    rintro e w' ⟨rfl, rfl⟩
    go_wp2_with fail
    go_ret2
    exact ⟨rfl, rfl⟩
  · have e1 : wrdV m at_ = wrd m at_.toNat 4 := by simp [wrdV, hb]
    rw [hb] at his
    rw [e1]
    have His := Lib.hid his
    have hat : at_ + 4 ≤ (m.n : Int) * 64 := by simpa [inB] using hb
    clear his hb e1
    obtain ⟨i, rfl⟩ : ∃ i : Nat, at_ = i := ⟨at_.toNat, by omega⟩
    rw [show (i : Int).toNat = i from rfl]
    go_enter Try.func122, Try.ntmps122
    go_wp2_with fail
    refine (His.out).mono ?_
    rintro e w' ⟨rfl, rfl⟩
    go_wp2_with fail
    go_loop [6, 7] (fun v k => ∃ r : Nat, r ≤ 4 ∧ k = .int .u32 (4 - (r : Int)) ∧ v = .int .u32 (wrd m i r) ∧ 0 ≤ wrd m i r ∧ wrd m i r < 256 ^ r) (fun _ k => (intOf k).toNat)
    case atStart => exact ⟨0, by omega, rfl, rfl, by simp [wrd], by simp [wrd]⟩
    case round =>
      obtain ⟨r, hr, rfl, rfl, hv0, hv1⟩ := hrel
      by_cases hlt : r < 4
      · have hg := get_any w a m h ((i : Int) + (4 - (r : Int)) - 1) (by omega) (by omega)
        have hbd := h.bd (i + (3 - r)) (by omega)
        rw [show ((i : Int) + (4 - (r : Int)) - 1).toNat = i + (3 - r) by omega] at hg
        have Hg := Lib.hid hg
        have Hs : Hid (wrd m i (r + 1) = wrd m i r * 256 + m.mem (i + (3 - r))) := rfl
        have hv2 : wrd m i r < 16777216 := by
          rcases (by omega : r = 0 ∨ r = 1 ∨ r = 2 ∨ r = 3) with rfl | rfl | rfl | rfl <;> simp at hv1 <;> omega
        have hv3 : wrd m i r * 256 + m.mem (i + (3 - r)) < 256 ^ (r + 1) := by
          have : (256 : Int) ^ (r + 1) = 256 ^ r * 256 := Int.pow_succ _ _
          obtain ⟨_, hb1⟩ := hbd
          omega
        have Hv3 := Lib.hid hv3
        clear hg hv3 hv1
        generalize m.mem (i + (3 - r)) = b at *
        generalize wrd m i r = v at *
        obtain ⟨hb0, hb1⟩ := hbd
        have Ho := Lib.hid (or8 (v * 256) b (by omega) (by omega) (by omega) hb0 hb1)
        go_wp2_with fail
        refine (Hg.out).mono ?_
        rintro e w' ⟨rfl, rfl⟩
        go_wp2_with fail
        go_round
        case rel => exact ⟨r + 1, by omega, by congr 1; omega, by rw [Ho.out, Hs.out], by rw [Hs.out]; omega, by rw [Hs.out]; exact Hv3.out⟩
        case measure => simp [intOf]; omega
      · have e : r = 4 := by omega
        subst e
        go_wp2_with fail
        go_ret2
        exact ⟨rfl, rfl⟩

/-- bytes are written one behind the other -/
def Ms.puts (m : Ms) (i : Nat) (zs : List Int) : Nat → Ms
  | 0 => m
  | r + 1 => (m.puts i zs r).put (i + r) (zs.getD r 0)
section
variable (m : Ms) (i : Nat) (zs : List Int)
theorem puts_n (r : Nat) : (m.puts i zs r).n = m.n := by
  induction r with
  | zero => rfl
  | succ r ih => exact ih
theorem puts_mem (r j : Nat) : (m.puts i zs r).mem j = if i ≤ j ∧ j < i + r then zs.getD (j - i) 0 else m.mem j := by
  induction r with
  | zero => rw [if_neg (by omega)]; rfl
  | succ r ih =>
    show updI (m.puts i zs r).mem (i + r) (zs.getD r 0) j = _
    unfold updI
    by_cases e : j = i + r
    · rw [if_pos e, if_pos (by omega), show j - i = r by omega]
    · rw [if_neg e, ih]
      by_cases h : i ≤ j ∧ j < i + r
      · rw [if_pos h, if_pos (by omega)]
      · rw [if_neg h, if_neg (by omega)]
/-- is the page written by it? -/
def hits (i r k : Nat) : Bool := decide (∃ j, j < r ∧ (i + j) / 64 = k)
theorem hits_succ (i r k : Nat) : hits i (r + 1) k = (hits i r k || decide ((i + r) / 64 = k)) := by
  unfold hits
  rw [Bool.eq_iff_iff]
  simp only [Bool.or_eq_true, decide_eq_true_eq]
  constructor
  · rintro ⟨j, h1, h2⟩
    by_cases e : j = r
    · subst e; exact .inr h2
    · exact .inl ⟨j, by omega, h2⟩
  · rintro (⟨j, h1, h2⟩ | h)
    · exact ⟨j, by omega, h2⟩
    · exact ⟨r, by omega, h⟩
theorem puts_tu (r k : Nat) : (m.puts i zs r).tu k = (m.tu k || hits i r k) := by
  induction r with
  | zero => simp [Ms.puts, hits]
  | succ r ih =>
    show updB (m.puts i zs r).tu ((i + r) / 64) true k = _
    rw [hits_succ]
    unfold updB
    by_cases e : k = (i + r) / 64
    · rw [if_pos e, decide_eq_true e.symm]; simp
    · rw [if_neg e, ih, decide_eq_false (fun h => e h.symm)]; simp
end
end Go.Proofs.Ythiephlfhbkcbaa.Rm
