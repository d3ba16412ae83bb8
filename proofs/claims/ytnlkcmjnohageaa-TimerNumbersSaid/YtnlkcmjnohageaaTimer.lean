/- The timer's functions, each by a contract. -/
import Derived.Test.YtnlkcmjnohageaaChecked
import Derived.Test.YtnlkcmjnohageaaWords
import Derived.WalkKit
import Derived.Outline
import Derived.WalkSpells
import Derived.Handy
namespace Go.Proofs.Ytnlkcmjnohageaa.Tm
open Go.RowKit
set_option linter.unusedVariables false


/-- a timer at block g -/
def Tmr (w : World) (g : Nat) (a : Int) : Prop := Blk w g 54 #[.int .u32 a]
theorem Tmr.fr {w w' : World} {g : Nat} {a : Int} {S : Nat → Prop} (h : Tmr w g a) (f : Fr S w w') (hn : ¬ S g) : Tmr w' g a := Blk.fr h f hn
theorem Tmr.lt {w : World} {g : Nat} {a : Int} (h : Tmr w g a) : g < w.heap.size := Blk.lt h

theorem new_any (w : World) : Calls Try.prog 11 #[] w fun e w' => e = .returned (.pointer (some ⟨w.heap.size, 0, none⟩)) ∧ Tmr w' w.heap.size 0 ∧ Fr (fun _ => False) w w' := by
  go_enter Try.func11, Try.ntmps11
  go_wp2
  go_ret
  exact ⟨rfl, Blk.new _ _ _, (Fr.refl _ _).alloc _⟩

theorem at_any (w : World) (g : Nat) (a : Int) (h : Tmr w g a) : Calls Try.prog 12 #[.pointer (some ⟨g, 0, none⟩)] w fun e w' => e = .returned (.int .u32 a) ∧ w = w' := by
  have c := Blk.cell h 0
  go_enter Try.func12, Try.ntmps12
  go_wp2
  go_ret
  exact ⟨rfl, rfl⟩

theorem set_any (w : World) (g : Nat) (a x : Int) (h : Tmr w g a) : Calls Try.prog 14 #[.pointer (some ⟨g, 0, none⟩), .int .u32 x] w fun e w' => e = .returned (.tuple #[]) ∧ Tmr w' g x ∧ Fr (· = g) w w' := by
  have c := Blk.cell h 0
  have f := Blk.frozen h 0
  go_enter Try.func14, Try.ntmps14
  go_wp2
  go_end0
  exact ⟨rfl, Blk.set_ h 0 _, Fr.set1 _ _ _ _⟩

def dueB (a n : Int) : Bool := (a != 0) && decide (a ≤ n % 4294967296)
def dueAt (a n : Int) : Int := if dueB a n then 0 else a

theorem due_any (w : World) (g : Nat) (a n : Int) (h : Tmr w g a) :
    Calls Try.prog 13 #[.pointer (some ⟨g, 0, none⟩), .int .u64 n] w fun e w' => e = .returned (.bool (dueB a n)) ∧ Tmr w' g (dueAt a n) ∧ Fr (· = g) w w' := by
  have c := Blk.cell h 0
  have f := Blk.frozen h 0
  by_cases ha : a = 0
  · have hd : dueB a n = false := by simp [dueB, ha]
    have hs : dueAt a n = a := by simp [dueAt, hd]
    rw [hd, hs]
    subst ha
    clear hd hs
    go_enter Try.func13, Try.ntmps13
    go_wp2
    go_ret
    exact ⟨rfl, h, Fr.refl _ _⟩
  · by_cases hl : n % 4294967296 < a
    · have hd : dueB a n = false := by simp [dueB]; omega
      have hs : dueAt a n = a := by simp [dueAt, hd]
      rw [hd, hs]
      clear hd hs
      go_enter Try.func13, Try.ntmps13
      go_wp2
      go_ret
      exact ⟨rfl, h, Fr.refl _ _⟩
    · have hd : dueB a n = true := by simp [dueB]; omega
      have hs : dueAt a n = 0 := by simp [dueAt, hd]
      rw [hd, hs]
      clear hd hs
      go_enter Try.func13, Try.ntmps13
      go_wp2
      go_ret
      exact ⟨rfl, Blk.set_ h 0 _, Fr.set1 _ _ _ _⟩

theorem due3 {w : World} {g : Nat} {a n : Int} (h : Tmr w g (dueAt a n)) :
    ((a != 0) = false ∧ dueB a n = false ∧ Tmr w g a) ∨ ((a != 0) = true ∧ n % 4294967296 < a ∧ dueB a n = false ∧ Tmr w g a) ∨ ((a != 0) = true ∧ a ≤ n % 4294967296 ∧ dueB a n = true ∧ Tmr w g 0) := by
  by_cases h1 : a = 0
  · left; subst h1; simp [dueAt, dueB] at h ⊢; exact h
  · by_cases h2 : a ≤ n % 4294967296
    · right; right
      have hb : dueB a n = true := by simp [dueB]; omega
      exact ⟨by simpa using h1, h2, hb, by simpa [dueAt, hb] using h⟩
    · right; left
      have hb : dueB a n = false := by simp [dueB]; omega
      exact ⟨by simpa using h1, by omega, hb, by simpa [dueAt, hb] using h⟩
theorem due_zero (w : World) (g : Nat) (n : Int) (h : Tmr w g 0) :
    Calls Try.prog 13 #[.pointer (some ⟨g, 0, none⟩), .int .u64 n] w fun e w' => e = .returned (.bool false) ∧ w = w' := by
  have c := Blk.cell h 0
  go_enter Try.func13, Try.ntmps13
  go_wp2
  go_ret
  exact ⟨rfl, rfl⟩

theorem known_any (w : World) : Calls Try.prog 15 #[] w fun e w' => e = .returned (.bool true) ∧ Fr (fun _ => False) w w' := by
  have e1 : dueB 5 4 = false := by decide
  have e2 : dueB 5 9 = true := by decide
  have e3 : dueB 0 9 = false := by decide
  have a1 : dueAt 5 4 = 5 := by decide
  have a2 : dueAt 5 9 = 0 := by decide
  have a3 : dueAt 0 9 = 0 := by decide
  go_enter Try.func15, Try.ntmps15
  go_wp2_with fail
  refine (new_any _).mono ?_
  rintro e w1 ⟨rfl, b1, f1⟩
  go_wp2_with fail
  refine (set_any _ _ _ _ b1).mono ?_
  rintro e w2 ⟨rfl, b2, f2⟩
  go_wp2_with fail
  refine (due_any _ _ _ _ b2).mono ?_
  rw [a1]
  rintro e w3 ⟨rfl, b3, f3⟩
  go_wp2_with fail
  refine (due_any _ _ _ _ b3).mono ?_
  rw [a2]
  rintro e w4 ⟨rfl, b4, f4⟩
  go_wp2_with fail
  refine (due_any _ _ _ _ b4).mono ?_
  rw [a3]
  rintro e w5 ⟨rfl, b5, f5⟩
  go_wp2_with fail
  refine (at_any _ _ _ b5).mono ?_
  rintro e w6 ⟨rfl, rfl⟩
  go_wp2_with fail
  go_ret
  exact ⟨rfl, f1.trans (((f2.tr f3).tr f4).tr f5) (fun i hi e => by omega)⟩
end Go.Proofs.Ytnlkcmjnohageaa.Tm
