/- A guest's addresses by a unit (mmu.Unit), plain: what a call computes of a memory and a buffer. -/
import Derived.Test.YthiephlfhbkcbaaWalkD
import Derived.Test.YthiephlfhbkcbaaWalkL
import Derived.Test.YthiephlfhbkcbaaTlbFind
namespace Go.Proofs.Ythiephlfhbkcbaa.Mu
open Go.RowKit Fm Nt Rm By Wk
set_option linter.unusedVariables false

/-- what a unit keeps: its memory, its buffer -/
structure Us where
  m : Ms
  l : Nat → Tl.Ent
/-- by what an address is turned -/
structure Sp where
  pg : Bool
  su : Bool
  rt : Int
/-- a place or a trap, and the unit behind it -/
structure Pr where
  p : Int
  c : Int
  a : Int
  u : Us
/-- the number of a page's entry -/
def idx (va : Int) : Nat := (va / 64 % 16).toNat
def entOf (m : Ms) (rt va k : Int) : Tl.Ent := ⟨true, va / 64, now k (lkLeaf m rt va) / 256, bits .and .u32 (now k (lkLeaf m rt va)) 94⟩
def Us.walked (u : Us) (rt va k : Int) : Us := ⟨doMs u.m rt va k, Tl.upd u.l (idx va) (entOf u.m rt va k)⟩
def turnedR (u : Us) (s : Sp) (va k : Int) : Pr :=
  if s.pg = false then ⟨va, 0, 0, u⟩
  else if Tl.hit (u.l (idx va)) va k s.su then ⟨Tl.found (u.l (idx va)) va k s.su, 0, 0, u⟩
  else if doOk u.m s.rt va k s.su then ⟨now k (lkLeaf u.m s.rt va) / 256 * 64 + va % 64, 0, 0, u.walked s.rt va k⟩
  else ⟨0, flt k, va, u⟩
def devB (p : Int) : Bool := decide (32768 ≤ p) && decide (p < 33024)
def thereB (m : Ms) (p k : Int) : Bool := decide (p < (m.n : Int) * 64) || (decide (k ≠ 1) && devB p)
def placeR (u : Us) (s : Sp) (va k : Int) : Pr :=
  if flt k = 0 then ⟨0, 10, va, u⟩
  else if (turnedR u s va k).c ≠ 0 then ⟨0, (turnedR u s va k).c, (turnedR u s va k).a, (turnedR u s va k).u⟩
  else if thereB (turnedR u s va k).u.m (turnedR u s va k).p k then ⟨(turnedR u s va k).p, 0, 0, (turnedR u s va k).u⟩
  else ⟨0, 10, va, (turnedR u s va k).u⟩
/-- where the next page begins -/
def nextP (va : Int) : Int := (va / 64 * 64 + 64) % 4294967296
/-- places or a trap, and the unit behind them -/
structure Lr where
  l : List Int
  c : Int
  a : Int
  u : Us
/-- the second page's place -/
def secR (u : Us) (s : Sp) (va n k : Int) : Pr := if 64 - va % 64 < n then placeR (placeR u s va k).u s (nextP va) k else ⟨0, 0, 0, (placeR u s va k).u⟩
def spot (left p q : Int) (j : Nat) : Int := if (j : Int) < left then p + j else q + ((j : Int) - left)
def spots (left p q : Int) (n : Nat) : List Int := (List.range n).map (spot left p q)
def spanR (u : Us) (s : Sp) (va n k : Int) : Lr :=
  if n < 1 ∨ 4 < n then ⟨[], 10, va, u⟩
  else if (placeR u s va k).c ≠ 0 then ⟨[], (placeR u s va k).c, (placeR u s va k).a, (placeR u s va k).u⟩
  else if (secR u s va n k).c ≠ 0 then ⟨[], (secR u s va n k).c, (secR u s va n k).a, (secR u s va n k).u⟩
  else if devB (placeR u s va k).p then ⟨[], 10, va, (secR u s va n k).u⟩
  else if 64 - va % 64 < n ∧ devB (secR u s va n k).p = true then ⟨[], 10, nextP va, (secR u s va n k).u⟩
  else ⟨spots (64 - va % 64) (placeR u s va k).p (secR u s va n k).p n.toNat, 0, 0, (secR u s va n k).u⟩
/-- bytes joined, the first one lowest -/
def join (m : Ms) : List Int → Int
  | [] => 0
  | p :: ps => memV m p + 256 * join m ps
/-- so many bytes of a word stored at places -/
def stor (m : Ms) (l : List Int) (v : Int) : Nat → Ms
  | 0 => m
  | k + 1 => (stor m l v k).putI (l.getD k 0) (v / 256 ^ k % 256)
def loadV (u : Us) (s : Sp) (va n : Int) : Int := join (spanR u s va n 2).u.m (spanR u s va n 2).l
def storeU (u : Us) (s : Sp) (va v n : Int) : Us := ⟨stor (spanR u s va n 3).u.m (spanR u s va n 3).l v (spanR u s va n 3).l.length, (spanR u s va n 3).u.l⟩

/-- bounds of what a unit keeps -/
structure Us.Ok (u : Us) : Prop where
  n0 : 1 ≤ u.m.n ∧ u.m.n ≤ 64
  bd : ∀ i, i < u.m.n * 64 → 0 ≤ u.m.mem i ∧ u.m.mem i < 256
theorem idx_lt (va : Int) : idx va < 16 := by unfold idx; omega
theorem idx_eq {va : Int} (h : 0 ≤ va) : va / 64 % 16 = (idx va : Int) := by unfold idx; omega
theorem found_bd (e : Tl.Ent) (va k : Int) (s : Bool) (h0 : 0 ≤ va) : 0 ≤ Tl.found e va k s ∧ Tl.found e va k s ≤ 4294967295 := by
  unfold Tl.found
  split
  · omega
  · omega
theorem found_mod (e : Tl.Ent) (va k : Int) (s : Bool) (h0 : 0 ≤ va) (hh : Tl.hit e va k s = true) : Tl.found e va k s % 64 = va % 64 := by
  unfold Tl.found
  rw [if_pos hh]
  omega
theorem now_bd (k lf : Int) (h0 : 0 ≤ lf) (h1 : lf ≤ 4294967295) : 0 ≤ now k lf ∧ now k lf ≤ 4294967295 := by
  unfold now
  have h2 := or_bd lf 32 h0 h1 (by omega) (by omega)
  split
  · exact or_bd _ 64 h2.1 h2.2 (by omega) (by omega)
  · exact h2
theorem doMs_n (m : Ms) (rt va k : Int) : (doMs m rt va k).n = m.n := by
  unfold doMs
  split
  · rfl
  · unfold Ms.putW
    split
    · exact puts_n _ _ _ _
    · rfl
end Go.Proofs.Ythiephlfhbkcbaa.Mu
