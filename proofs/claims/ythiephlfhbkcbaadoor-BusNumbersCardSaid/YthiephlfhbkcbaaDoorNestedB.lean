/- The second stage of paging, II: Guarded, guard, Mapped. -/
import Derived.Test.YthiephlfhbkcbaaDoorNested
namespace Go.Proofs.YthiephlfhbkcbaaDoor.Nt
open Go.RowKit Fm
set_option linter.unusedVariables false
set_option maxHeartbeats 4000000

def updB (f : Nat → Bool) (k : Nat) (v : Bool) : Nat → Bool := fun j => if j = k then v else f j
def Ts.setFr (t : Ts) (k : Nat) (f : Int) : Ts := { t with fr := updI t.fr k f }
def Ts.setGd (t : Ts) (k : Nat) (b : Bool) : Ts := { t with gd := updB t.gd k b }
theorem Tab.setFr {w : World} {a : Ad} {t : Ts} (h : Tab w a t) (k : Nat) (v : Int) : Tab (w.setCell ⟨a.gf, k, none⟩ (.int .i64 v)) a (t.setFr k v) := by
  refine ⟨h.1.far (p := ⟨a.gf, k, none⟩) h.ne1 _, Cells.congr (Cells.set_ h.2.1 k _) (fun i hi => ?_), Cells.far h.2.2.1 (p := ⟨a.gf, k, none⟩) (fun e => h.ne3 e.symm) _, h.2.2.2⟩
  unfold putV Ts.setFr updI
  dsimp only
  split <;> rfl
theorem Tab.setGd {w : World} {a : Ad} {t : Ts} (h : Tab w a t) (k : Nat) (v : Bool) : Tab (w.setCell ⟨a.gg, k, none⟩ (.bool v)) a (t.setGd k v) := by
  refine ⟨h.1.far (p := ⟨a.gg, k, none⟩) h.ne2 _, Cells.far h.2.1 (p := ⟨a.gg, k, none⟩) h.ne3 _, Cells.congr (Cells.set_ h.2.2.1 k _) (fun i hi => ?_), h.2.2.2⟩
  unfold putV Ts.setGd updB
  dsimp only
  split <;> rfl


def Ts.guard (t : Ts) (p : Int) (b : Bool) : Ts := if frB t p then t.setGd p.toNat b else t

/-- the pages that are mapped, below k -/
def mapN (t : Ts) (k : Nat) : List Int := ((List.range k).filter fun p => t.fr p != -1).map Int.ofNat
theorem mapN_le (t : Ts) (k : Nat) : (mapN t k).length ≤ k := by
  unfold mapN
  rw [List.length_map]
  exact Nat.le_trans (List.length_filter_le _ _) (by simp)
theorem mapN_yes (t : Ts) (k : Nat) (h : ¬ t.fr k = -1) : mapN t (k + 1) = mapN t k ++ [(k : Int)] := by
  unfold mapN
  rw [List.range_succ, List.filter_append]
  simp [h]
theorem mapN_no (t : Ts) (k : Nat) (h : t.fr k = -1) : mapN t (k + 1) = mapN t k := by
  unfold mapN
  rw [List.range_succ, List.filter_append]
  simp [h]
end Go.Proofs.YthiephlfhbkcbaaDoor.Nt
