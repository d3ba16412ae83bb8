/- The timer's functions, each by a contract. -/
import Derived.Test.YthiephlfhbkcbaaDoorChecked
import Derived.Test.YthiephlfhbkcbaaDoorWords
import Derived.WalkKit
import Derived.Outline
import Derived.WalkSpells
import Derived.Handy
namespace Go.Proofs.YthiephlfhbkcbaaDoor.Tm
open Go.RowKit
set_option linter.unusedVariables false


/-- a timer at block g -/
def Tmr (w : World) (g : Nat) (a : Int) : Prop := Blk w g 73 #[.int .u32 a]
theorem Tmr.fr {w w' : World} {g : Nat} {a : Int} {S : Nat → Prop} (h : Tmr w g a) (f : Fr S w w') (hn : ¬ S g) : Tmr w' g a := Blk.fr h f hn
theorem Tmr.lt {w : World} {g : Nat} {a : Int} (h : Tmr w g a) : g < w.heap.size := Blk.lt h

theorem new_any (w : World) : Calls Tryd.prog 47 #[] w fun e w' => e = .returned (.pointer (some ⟨w.heap.size, 0, none⟩)) ∧ Tmr w' w.heap.size 0 ∧ Fr (fun _ => False) w w' := by
  go_enter Tryd.func47, Tryd.ntmps47
  go_wp2
  go_ret
  exact ⟨rfl, Blk.new _ _ _, (Fr.refl _ _).alloc _⟩

theorem at_any (w : World) (g : Nat) (a : Int) (h : Tmr w g a) : Calls Tryd.prog 17 #[.pointer (some ⟨g, 0, none⟩)] w fun e w' => e = .returned (.int .u32 a) ∧ w = w' := by
  have c := Blk.cell h 0
  go_enter Tryd.func17, Tryd.ntmps17
  go_wp2
  go_ret
  exact ⟨rfl, rfl⟩

theorem set_any (w : World) (g : Nat) (a x : Int) (h : Tmr w g a) : Calls Tryd.prog 11 #[.pointer (some ⟨g, 0, none⟩), .int .u32 x] w fun e w' => e = .returned (.tuple #[]) ∧ Tmr w' g x ∧ Fr (· = g) w w' := by
  have c := Blk.cell h 0
  have f := Blk.frozen h 0
  go_enter Tryd.func11, Tryd.ntmps11
  go_wp2
  go_end0
  exact ⟨rfl, Blk.set_ h 0 _, Fr.set1 _ _ _ _⟩

def dueB (a n : Int) : Bool := (a != 0) && decide (a ≤ n % 4294967296)
def dueAt (a n : Int) : Int := if dueB a n then 0 else a

theorem due_any (w : World) (g : Nat) (a n : Int) (h : Tmr w g a) :
    Calls Tryd.prog 60 #[.pointer (some ⟨g, 0, none⟩), .int .u64 n] w fun e w' => e = .returned (.bool (dueB a n)) ∧ Tmr w' g (dueAt a n) ∧ Fr (· = g) w w' := by
  have c := Blk.cell h 0
  have f := Blk.frozen h 0
  by_cases ha : a = 0
  · have hd : dueB a n = false := by simp [dueB, ha]
    have hs : dueAt a n = a := by simp [dueAt, hd]
    rw [hd, hs]
    subst ha
    clear hd hs
    go_enter Tryd.func60, Tryd.ntmps60
    go_wp2
    go_ret
    exact ⟨rfl, h, Fr.refl _ _⟩
  · by_cases hl : n % 4294967296 < a
    · have hd : dueB a n = false := by simp [dueB]; omega
      have hs : dueAt a n = a := by simp [dueAt, hd]
      rw [hd, hs]
      clear hd hs
      go_enter Tryd.func60, Tryd.ntmps60
      go_wp2
      go_ret
      exact ⟨rfl, h, Fr.refl _ _⟩
    · have hd : dueB a n = true := by simp [dueB]; omega
      have hs : dueAt a n = 0 := by simp [dueAt, hd]
      rw [hd, hs]
      clear hd hs
      go_enter Tryd.func60, Tryd.ntmps60
      go_wp2
      go_ret
      exact ⟨rfl, Blk.set_ h 0 _, Fr.set1 _ _ _ _⟩

theorem due3 {w : World} {g : Nat} {a n : Int} (h : Tmr w g (dueAt a n)) :
    ((a != 0) = false ∧ dueB a n = false ∧ Tmr w g a) ∨ ((a != 0) = true ∧ n % 4294967296 < a ∧ dueB a n = false ∧ Tmr w g a) ∨ ((a != 0) = true ∧ a ≤ n % 4294967296 ∧ dueB a n = true ∧ Tmr w g 0) := by
  by_cases h1 : a = 0
  · left; subst h1; simp [dueAt, dueB] at h ⊢; exact h
  · by_cases h2 : a ≤ n % 4294967296
    · right; right
      have hb : dueB a n = true := by simp [dueB]; omega
      exact ⟨by simpa using h1, h2, hb, by simpa [dueAt, hb] using h⟩
    · right; left
      have hb : dueB a n = false := by simp [dueB]; omega
      exact ⟨by simpa using h1, by omega, hb, by simpa [dueAt, hb] using h⟩
theorem due_zero (w : World) (g : Nat) (n : Int) (h : Tmr w g 0) :
    Calls Tryd.prog 60 #[.pointer (some ⟨g, 0, none⟩), .int .u64 n] w fun e w' => e = .returned (.bool false) ∧ w = w' := by
  have c := Blk.cell h 0
  go_enter Tryd.func60, Tryd.ntmps60
  go_wp2
  go_ret
  exact ⟨rfl, rfl⟩

end Go.Proofs.YthiephlfhbkcbaaDoor.Tm
