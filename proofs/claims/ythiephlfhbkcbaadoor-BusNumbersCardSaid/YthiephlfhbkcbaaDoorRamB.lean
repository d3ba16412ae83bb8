/- A guest's memory, II: Word, PutWord. -/
import Derived.Test.YthiephlfhbkcbaaDoorRam
import Derived.Lib.EndianBits
namespace Go.Proofs.YthiephlfhbkcbaaDoor.Rm
open Go.RowKit Fm Nt
set_option linter.unusedVariables false
set_option maxHeartbeats 4000000

theorem or8 (x y : Int) (h0 : 0 ≤ x) (h1 : x % 256 = 0) (h2 : x < 4294967296) (h3 : 0 ≤ y) (h4 : y < 256) : bits .or .u32 x y = x + y :=
  bits_join .u32 32 (by decide) wraps_u32 8 x y h0 h1 h2 h3 h4 (by omega)
/-- the word, from its last byte on -/
def wrd (m : Ms) (i : Nat) : Nat → Int
  | 0 => 0
  | r + 1 => wrd m i r * 256 + m.mem (i + (3 - r))
def wrdV (m : Ms) (at_ : Int) : Int := if inB m at_ 4 then wrd m at_.toNat 4 else 0
/-- bytes are written one behind the other -/
def Ms.puts (m : Ms) (i : Nat) (zs : List Int) : Nat → Ms
  | 0 => m
  | r + 1 => (m.puts i zs r).put (i + r) (zs.getD r 0)
section
variable (m : Ms) (i : Nat) (zs : List Int)
theorem puts_n (r : Nat) : (m.puts i zs r).n = m.n := by
  induction r with
  | zero => rfl
  | succ r ih => exact ih
theorem puts_mem (r j : Nat) : (m.puts i zs r).mem j = if i ≤ j ∧ j < i + r then zs.getD (j - i) 0 else m.mem j := by
  induction r with
  | zero => rw [if_neg (by omega)]; rfl
  | succ r ih =>
    show updI (m.puts i zs r).mem (i + r) (zs.getD r 0) j = _
    unfold updI
    by_cases e : j = i + r
    · rw [if_pos e, if_pos (by omega), show j - i = r by omega]
    · rw [if_neg e, ih]
      by_cases h : i ≤ j ∧ j < i + r
      · rw [if_pos h, if_pos (by omega)]
      · rw [if_neg h, if_neg (by omega)]
/-- is the page written by it? -/
def hits (i r k : Nat) : Bool := decide (∃ j, j < r ∧ (i + j) / 64 = k)
theorem hits_succ (i r k : Nat) : hits i (r + 1) k = (hits i r k || decide ((i + r) / 64 = k)) := by
  unfold hits
  rw [Bool.eq_iff_iff]
  simp only [Bool.or_eq_true, decide_eq_true_eq]
  constructor
  · rintro ⟨j, h1, h2⟩
    by_cases e : j = r
    · subst e; exact .inr h2
    · exact .inl ⟨j, by omega, h2⟩
  · rintro (⟨j, h1, h2⟩ | h)
    · exact ⟨j, by omega, h2⟩
    · exact ⟨r, by omega, h⟩
theorem puts_tu (r k : Nat) : (m.puts i zs r).tu k = (m.tu k || hits i r k) := by
  induction r with
  | zero => simp [Ms.puts, hits]
  | succ r ih =>
    show updB (m.puts i zs r).tu ((i + r) / 64) true k = _
    rw [hits_succ]
    unfold updB
    by_cases e : k = (i + r) / 64
    · rw [if_pos e, decide_eq_true e.symm]; simp
    · rw [if_neg e, ih, decide_eq_false (fun h => e h.symm)]; simp
end
end Go.Proofs.YthiephlfhbkcbaaDoor.Rm
