/- The host's memory, VII: Give. -/
import Derived.Test.YthiephlfhbkcbaaDoorFramesF
namespace Go.Proofs.YthiephlfhbkcbaaDoor.Fm
open Go.RowKit
set_option linter.unusedVariables false
set_option maxHeartbeats 4000000

theorem intsAt_frA {k : IntKind} {w w' : World} {B n : Nat} {A : Option Addr} {zs : List Int} {S : Nat → Prop} (h : IntsAt k w B A n zs) (f : Fr S w w') (hB : B ≤ w.heap.size) (hA : ∀ b off, A = some ⟨b, off, none⟩ → ¬ S b) : IntsAt k w' B A n zs :=
  ⟨h.1, h.2.1, fun hn => by
    obtain ⟨b, off, e, hb, hc⟩ := h.2.2 hn
    exact ⟨b, off, e, hb, fun i hi => (World.cell?_of_block (w := w) (a := ⟨b, off + i, none⟩) (f.block b (by omega) (hA b off e))).trans (hc i hi)⟩⟩

/-- may the i-th be given back? -/
def okAt (s : Pl) (o : Int) (l : List Int) (i : Nat) : Bool := isF (l.getD i 0) && (s.own (l.getD i 0).toNat == o) && !hasI (l.take i) (l.getD i 0)
def allOk (s : Pl) (o : Int) (l : List Int) : Nat → Bool
  | 0 => true
  | k + 1 => allOk s o l k && okAt s o l k
theorem allOk_at {s : Pl} {o : Int} {l : List Int} : ∀ {n : Nat}, allOk s o l n = true → ∀ k, k < n → okAt s o l k = true := by
  intro n
  induction n with
  | zero => intro _ k hk; omega
  | succ n ih =>
    intro h k hk
    simp [allOk] at h
    by_cases e : k = n
    · rw [e]; exact h.2
    · exact ih h.1 k (by omega)
def giveR (s : Pl) (o : Int) (l : List Int) : Int := if isO o = false then 1 else if allOk s o l l.length then 0 else 25
/-- those of l below k are nobody's -/
def Pl.giveTo (s : Pl) (l : List Int) (k : Nat) : Pl := { s with own := fun f => if hasI (l.take k) f then -1 else s.own f }
def Pl.give (s : Pl) (o : Int) (l : List Int) : Pl := if giveR s o l = 0 then s.giveTo l l.length else s
theorem hasI_append (a b : List Int) (x : Int) : hasI (a ++ b) x = (hasI a x || hasI b x) := by simp [hasI]
theorem giveTo_succ (s : Pl) (l : List Int) (k : Nat) (hk : k < l.length) (h0 : 0 ≤ l.getD k 0) : (s.giveTo l k).setOwn (l.getD k 0).toNat (-1) = s.giveTo l (k + 1) := by
  have e1 : l.take (k + 1) = l.take k ++ [l.getD k 0] := by
    rw [List.take_succ_eq_append_getElem hk]; simp [hk]
  unfold Pl.giveTo Pl.setOwn updI
  rw [e1]
  generalize l.getD k 0 = x at *
  congr 1
  funext f
  rw [hasI_append]
  have e2 : hasI [x] (f : Int) = decide (f = x.toNat) := by
    rw [Bool.eq_iff_iff]
    simp [hasI]
    omega
  rw [e2]
  by_cases e : f = x.toNat
  · simp [e]
  · rw [if_neg e, decide_eq_false e, Bool.or_false]
theorem giveTo_zero (s : Pl) (l : List Int) : s.giveTo l 0 = s := by simp [Pl.giveTo, hasI]
theorem give_ok {s : Pl} (h : s.Ok) (o : Int) (l : List Int) : (s.give o l).Ok := by
  unfold Pl.give
  split
  · refine ⟨fun f hf => ?_, h.prom⟩
    unfold Pl.giveTo
    dsimp only
    split
    · omega
    · exact h.own f hf
  · exact h

end Go.Proofs.YthiephlfhbkcbaaDoor.Fm
