/- The second stage of paging, IV: Unmap. -/
import Derived.Test.YthiephlfhbkcbaaDoorNestedC
namespace Go.Proofs.YthiephlfhbkcbaaDoor.Nt
open Go.RowKit Fm
set_option linter.unusedVariables false
set_option maxHeartbeats 4000000

/-- what holds of any table -/
def Ts.Ok (t : Ts) : Prop := ∀ k, k < t.n → -1 ≤ t.fr k ∧ t.fr k < 256
theorem frV_bd {t : Ts} (h : t.Ok) (p : Int) : -1 ≤ frV t p ∧ frV t p < 256 := by
  unfold frV
  split
  · rename_i hq
    have hin : inP t p = true := by simp [frB] at hq; exact hq.1
    obtain ⟨k, rfl, hk⟩ := inP_at hin
    exact h k hk
  · omega
def unmapE (t : Ts) (p : Int) : Int := if frB t p then 0 else 22
def unmapS (s : Pl) (t : Ts) (p : Int) : Pl := if frB t p then s.give t.o [frV t p] else s
def Ts.unmap (t : Ts) (p : Int) : Ts := if frB t p then (t.setFr p.toNat (-1)).setGd p.toNat false else t
end Go.Proofs.YthiephlfhbkcbaaDoor.Nt
