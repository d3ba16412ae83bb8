/- The statements' tables (innkeeperlaw8.tables). -/
import Derived.Test.YthiephlfhbkcbaaWalkA
import Derived.Test.YthiephlfhbkcbaaBook
import Derived.Deep.RegionHeld
namespace Go.Proofs.Ythiephlfhbkcbaa.Wk
open Go.RowKit Fm Nt Rm By
set_option linter.unusedVariables false
set_option maxHeartbeats 8000000

structure Pt where
  place : Int
  page : Int
  bits : Int
def PtAt (w : World) (b o : Nat) (x : Pt) : Prop :=
  (w.cell? ⟨b, o, none⟩ = some (.int .i64 x.place) ∧ w.cell? ⟨b, o + 1, none⟩ = some (.int .i64 x.page) ∧ w.cell? ⟨b, o + 2, none⟩ = some (.int .u32 x.bits)) ∧
  (Lit.int .i64 x.place).wf = true ∧ (Lit.int .i64 x.page).wf = true ∧ (Lit.int .u32 x.bits).wf = true
def PtsAt (w : World) (B : Nat) (A : Option Addr) (n : Nat) (L : Nat → Pt) : Prop := ∀ i, i < n → ∃ b off, A = some ⟨b, off, none⟩ ∧ b < B ∧ PtAt w b (off + i * 3) (L i)
theorem PtAt.fr {w w' : World} {b o : Nat} {x : Pt} {S : Nat → Prop} (h : PtAt w b o x) (f : Fr S w w') (hb : b < w.heap.size) (hs : ¬ S b) : PtAt w' b o x :=
  ⟨⟨f.cell h.1.1 hb hs, f.cell h.1.2.1 hb hs, f.cell h.1.2.2 hb hs⟩, h.2⟩
def Pt.at_ (x : Pt) : Nat := (x.place % 1001 % 48 * 4).toNat
/-- the entry -/
def Pt.v1 (x : Pt) : Int := x.page % 1001 % 10 * 256 + x.bits % 128
def Pt.v (x : Pt) : Int := if 0 < x.bits / 256 % 4 then x.v1 / 2 * 2 + 1 else x.v1
/-- r of its bytes laid -/
def part4 (z : Nat → Int) (x : Pt) (r : Nat) : Nat → Int := fun i => if x.at_ ≤ i ∧ i < x.at_ + r then (if i - x.at_ = 0 then x.v % 256 else if i - x.at_ = 1 then x.v / 256 % 256 else if i - x.at_ = 2 then x.v / 65536 % 256 else x.v / 16777216 % 256) else z i
def tabZ (L : Nat → Pt) : Nat → Nat → Int
  | 0 => fun _ => 0
  | k + 1 => part4 (tabZ L k) (L k) 4
theorem or1 (x : Int) (h0 : 0 ≤ x) (h1 : x ≤ 4294967295) : bits .or .u32 x 1 = x / 2 * 2 + 1 := by
  obtain ⟨a, rfl⟩ : ∃ a : Nat, x = a := ⟨x.toNat, by omega⟩
  have := u32_or_nat a 1 (by omega) (by omega)
  have e : a ||| 1 = a / 2 * 2 + 1 := by
    apply Nat.eq_of_testBit_eq
    intro i
    rw [Nat.testBit_or]
    cases i with
    | zero => simp [Nat.testBit_zero]
    | succ i =>
      rw [Nat.testBit_succ, Nat.testBit_succ, Nat.testBit_succ]
      rw [show (a / 2 * 2 + 1) / 2 = a / 2 by omega]
      simp
  rw [e] at this
  rw [show ((1 : Nat) : Int) = 1 from rfl] at this
  rw [this]
  omega
theorem tabZ_bd (L : Nat → Pt) : ∀ k i, 0 ≤ tabZ L k i ∧ tabZ L k i < 256 := by
  intro k
  induction k with
  | zero => intro i; show (0 : Int) ≤ 0 ∧ (0 : Int) < 256; omega
  | succ k ih =>
    intro i
    show 0 ≤ part4 (tabZ L k) (L k) 4 i ∧ part4 (tabZ L k) (L k) 4 i < 256
    unfold part4
    split
    · split
      · omega
      · split
        · omega
        · split <;> omega
    · exact ih i
theorem set_u8 {w : World} {g n : Nat} {z : Nat → Int} (h : Cells w g 5 n (fun k => .int .u8 (z k))) (j : Nat) (x : Int) : Cells (w.setCell ⟨g, j, none⟩ (.int .u8 x)) g 5 n (fun k => .int .u8 (updI z j x k)) :=
  Cells.congr (Cells.set_ h j _) (fun i hi => by unfold putV updI; split <;> rfl)
theorem part4_succ (z : Nat → Int) (x : Pt) (r : Nat) (b : Int) (hb : b = if r = 0 then x.v % 256 else if r = 1 then x.v / 256 % 256 else if r = 2 then x.v / 65536 % 256 else x.v / 16777216 % 256) : updI (part4 z x r) (x.at_ + r) b = part4 z x (r + 1) := by
  funext i
  unfold updI part4
  by_cases e : i = x.at_ + r
  · have h1 : x.at_ ≤ i ∧ i < x.at_ + (r + 1) := by omega
    have h2 : i - x.at_ = r := by omega
    rw [if_pos e, if_pos h1, hb, h2]
  · rw [if_neg e]
    by_cases h : x.at_ ≤ i ∧ i < x.at_ + r
    · have h1 : x.at_ ≤ i ∧ i < x.at_ + (r + 1) := by omega
      rw [if_pos h, if_pos h1]
    · have h1 : ¬ (x.at_ ≤ i ∧ i < x.at_ + (r + 1)) := by omega
      rw [if_neg h, if_neg h1]
def TabsD (w : World) (len : Nat) (L : Nat → Pt) (e : Ending) (w' : World) : Prop := e = .returned (.slice (some ⟨w.heap.size, 0, none⟩) 512 512) ∧ Cells w' w.heap.size 5 512 (fun i => .int .u8 (tabZ L (min len 40) i)) ∧ Fr (fun _ => False) w w'
end Go.Proofs.Ythiephlfhbkcbaa.Wk
