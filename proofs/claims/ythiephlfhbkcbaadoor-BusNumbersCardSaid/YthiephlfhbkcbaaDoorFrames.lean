/- The host's memory (frames.Pool): what a pool is, and its small functions, each by a contract. -/
import Derived.Test.YthiephlfhbkcbaaDoorChecked
import Derived.Test.YthiephlfhbkcbaaDoorBoxes
import Derived.Test.YthiephlfhbkcbaaDoorAppend
import Derived.WalkKit
import Derived.Outline
import Derived.WalkSpells
import Derived.Handy
import Derived.LoopTactic
import Derived.Deep.LoopGhost
import Derived.Deep.QuietTactic
import Derived.BigQuiet
import Derived.StillTailTactics
import Derived.Deep.RegionWith
import Derived.Deep.DeepCutAuto
import Derived.Deep.CutBlock
namespace Go.Proofs.YthiephlfhbkcbaaDoor.Fm
open Go.RowKit
set_option linter.unusedVariables false
set_option maxHeartbeats 4000000

/-- a pool: who holds each frame, promises, bytes -/
structure Pl where
  own : Nat → Int
  prom : Nat → Int
  byt : Nat → Int
def pcell (s : Pl) (i : Nat) : Value := if i < 16384 then .int .u8 (s.byt i) else if i < 16640 then .int .i64 (s.own (i - 16384)) else .int .i64 (s.prom (i - 16640))
def updI (f : Nat → Int) (k : Nat) (v : Int) : Nat → Int := fun j => if j = k then v else f j
theorem updI_same (f : Nat → Int) (k : Nat) (v : Int) : updI f k v k = v := by simp [updI]
theorem updI_other (f : Nat → Int) {k j : Nat} (v : Int) (h : j ≠ k) : updI f k v j = f j := by simp [updI, h]
def Pl.setOwn (s : Pl) (f : Nat) (o : Int) : Pl := { s with own := updI s.own f o }
def Pl.setProm (s : Pl) (o : Nat) (n : Int) : Pl := { s with prom := updI s.prom o n }
def Pl.setByt (s : Pl) (i : Nat) (b : Int) : Pl := { s with byt := updI s.byt i b }
def Pl.wipe (s : Pl) (f : Nat) : Pl := { s with byt := fun i => if f * 64 ≤ i ∧ i < f * 64 + 64 then 0 else s.byt i }
def Pl.new : Pl := ⟨fun _ => -1, fun _ => -1, fun _ => 0⟩
/-- what holds of any pool -/
structure Pl.Ok (s : Pl) : Prop where
  own : ∀ f, f < 256 → -1 ≤ s.own f ∧ s.own f < 4
  prom : ∀ o, o < 4 → -1 ≤ s.prom o ∧ s.prom o ≤ 64

def Pool (w : World) (g : Nat) (s : Pl) : Prop := Cells w g 114 16644 (pcell s)
section
variable {w w' : World} {g : Nat} {s : Pl} {S : Nat → Prop}
theorem Pool.fr (h : Pool w g s) (f : Fr S w w') (hn : ¬ S g) : Pool w' g s := Cells.fr h f hn
theorem Pool.lt (h : Pool w g s) : g < w.heap.size := Cells.lt h
theorem Pool.drew (h : Pool w g s) : Pool w.drew g s := h
theorem Pool.alloc (h : Pool w g s) (o : Obj) : Pool (w.alloc o) g s := Cells.alloc h o
theorem Pool.cOwn (h : Pool w g s) (f : Nat) (hf : f < 256) : w.cell? ⟨g, 16384 + f, none⟩ = some (.int .i64 (s.own f)) := by
  rw [Cells.cell h _ (by omega), pcell, if_neg (by omega), if_pos (by omega), show 16384 + f - 16384 = f by omega]
theorem Pool.cProm (h : Pool w g s) (o : Nat) (ho : o < 4) : w.cell? ⟨g, 16640 + o, none⟩ = some (.int .i64 (s.prom o)) := by
  rw [Cells.cell h _ (by omega), pcell, if_neg (by omega), if_neg (by omega), show 16640 + o - 16640 = o by omega]
theorem Pool.cByt (h : Pool w g s) (i : Nat) (hi : i < 16384) : w.cell? ⟨g, i, none⟩ = some (.int .u8 (s.byt i)) := by
  rw [Cells.cell h _ (by omega), pcell, if_pos hi]
theorem Pool.setOwn (h : Pool w g s) (f : Nat) (hf : f < 256) (o : Int) : Pool (w.setCell ⟨g, 16384 + f, none⟩ (.int .i64 o)) g (s.setOwn f o) := by
  refine Cells.congr (Cells.set_ h _ _) (fun i hi => ?_)
  unfold putV pcell Pl.setOwn updI
  by_cases e : i = 16384 + f
  · rw [if_pos e, if_neg (by omega), if_pos (by omega)]
    dsimp only
    rw [if_pos (by omega)]
  · rw [if_neg e]
    by_cases h1 : i < 16384
    · rw [if_pos h1, if_pos h1]
    · by_cases h2 : i < 16640
      · rw [if_neg h1, if_pos h2, if_neg h1, if_pos h2]
        dsimp only
        rw [if_neg (by omega)]
      · rw [if_neg h1, if_neg h2, if_neg h1, if_neg h2]
theorem Pool.setProm (h : Pool w g s) (o : Nat) (ho : o < 4) (n : Int) : Pool (w.setCell ⟨g, 16640 + o, none⟩ (.int .i64 n)) g (s.setProm o n) := by
  refine Cells.congr (Cells.set_ h _ _) (fun i hi => ?_)
  unfold putV pcell Pl.setProm updI
  by_cases e : i = 16640 + o
  · rw [if_pos e, if_neg (by omega), if_neg (by omega)]
    dsimp only
    rw [if_pos (by omega)]
  · rw [if_neg e]
    by_cases h1 : i < 16384
    · rw [if_pos h1, if_pos h1]
    · by_cases h2 : i < 16640
      · rw [if_neg h1, if_pos h2, if_neg h1, if_pos h2]
      · rw [if_neg h1, if_neg h2, if_neg h1, if_neg h2]
        dsimp only
        rw [if_neg (by omega)]
theorem Pool.setByt (h : Pool w g s) (j : Nat) (hj : j < 16384) (b : Int) : Pool (w.setCell ⟨g, j, none⟩ (.int .u8 b)) g (s.setByt j b) := by
  refine Cells.congr (Cells.set_ h _ _) (fun i hi => ?_)
  unfold putV pcell Pl.setByt updI
  by_cases e : i = j
  · rw [if_pos e, if_pos (by omega)]
    dsimp only
    rw [if_pos e]
  · rw [if_neg e]
    by_cases h1 : i < 16384
    · rw [if_pos h1, if_pos h1]
      dsimp only
      rw [if_neg e]
    · rw [if_neg h1, if_neg h1]
theorem Pool.wipe (h : Pool w g s) (f : Nat) (hf : f < 256) : Pool (w.setCells g (f * 64) (List.replicate 64 (.int .u8 0))) g (s.wipe f) := by
  refine Cells.congr (Cells.setCells _ _ h) (fun i hi => ?_)
  unfold putR pcell Pl.wipe
  rw [List.length_replicate]
  by_cases e : f * 64 ≤ i ∧ i < f * 64 + 64
  · rw [if_pos e, if_pos (by omega)]
    dsimp only
    rw [if_pos e, List.getD_eq_getElem?_getD, List.getElem?_replicate, if_pos (by omega)]
    rfl
  · rw [if_neg e]
    by_cases h1 : i < 16384
    · rw [if_pos h1, if_pos h1]
      dsimp only
      rw [if_neg e]
    · rw [if_neg h1, if_neg h1]
end

def isO (o : Int) : Bool := decide (0 ≤ o ∧ o < 4)
def isF (f : Int) : Bool := decide (16 ≤ f ∧ f < 256)
theorem is_any (w : World) (o : Int) : Calls Tryd.prog 69 #[.int .i64 o] w fun e w' => e = .returned (.bool (isO o)) ∧ w = w' := by
  by_cases h0 : 0 ≤ o
  · by_cases h1 : o < 4
    · have hb : isO o = true := by simp [isO, h0, h1]
      rw [hb]
      go_enter Tryd.func69, Tryd.ntmps69
      go_wp2
      go_ret
      exact ⟨rfl, rfl⟩
    · have hb : isO o = false := by simp [isO, h1]
      have h1' : decide (o < 4) = false := by simpa using h1
      rw [hb]
      go_enter Tryd.func69, Tryd.ntmps69
      go_wp2
      go_ret
      exact ⟨rfl, rfl⟩
  · have hb : isO o = false := by simp [isO, h0]
    have h0' : decide (0 ≤ o) = false := by simpa using h0
    rw [hb]
    go_enter Tryd.func69, Tryd.ntmps69
    go_wp2
    go_ret
    exact ⟨rfl, rfl⟩
theorem frame_any (w : World) (f : Int) : Calls Tryd.prog 78 #[.int .i64 f] w fun e w' => e = .returned (.bool (isF f)) ∧ w = w' := by
  by_cases h0 : 16 ≤ f
  · by_cases h1 : f < 256
    · have hb : isF f = true := by simp [isF, h0, h1]
      rw [hb]
      go_enter Tryd.func78, Tryd.ntmps78
      go_wp2
      go_ret
      exact ⟨rfl, rfl⟩
    · have hb : isF f = false := by simp [isF, h1]
      have h1' : decide (f < 256) = false := by simpa using h1
      rw [hb]
      go_enter Tryd.func78, Tryd.ntmps78
      go_wp2
      go_ret
      exact ⟨rfl, rfl⟩
  · have hb : isF f = false := by simp [isF, h0]
    have h0' : decide (16 ≤ f) = false := by simpa using h0
    rw [hb]
    go_enter Tryd.func78, Tryd.ntmps78
    go_wp2
    go_ret
    exact ⟨rfl, rfl⟩

/-- who holds a frame -/
def ownB (s : Pl) (f : Int) : Bool := isF f && (s.own f.toNat != -1)
def ownV (s : Pl) (f : Int) : Int := if ownB s f then s.own f.toNat else 0
theorem owner_any (w : World) (g : Nat) (s : Pl) (f : Int) (h : Pool w g s) : Calls Tryd.prog 76 #[.pointer (some ⟨g, 0, none⟩), .int .i64 f] w fun e w' => e = .returned (.tuple #[.int .i64 (ownV s f), .bool (ownB s f)]) ∧ w = w' := by
  have hf := fun w => frame_any w f
  have Hf := Lib.hid hf
  clear hf
  by_cases h1 : isF f = true
  · obtain ⟨h2, h3⟩ : 16 ≤ f ∧ f < 256 := by simpa [isF] using h1
    obtain ⟨k, rfl⟩ : ∃ k : Nat, f = k := ⟨f.toNat, by omega⟩
    have c := h.cOwn k (by omega)
    rw [h1] at Hf
    by_cases h4 : s.own k = -1
    · have e1 : ownB s k = false := by simp [ownB, h4]
      have e2 : ownV s k = 0 := by simp [ownV, e1]
      rw [e1, e2]
      clear e1 e2 h1
      rw [h4] at c
      go_enter Tryd.func76, Tryd.ntmps76
      go_wp2_with fail
      refine (Hf.out _).mono ?_
      rintro e w' ⟨rfl, rfl⟩
      go_wp2_with fail
      go_ret2
      exact ⟨rfl, rfl⟩
    · have e1 : ownB s k = true := by simp [ownB, h4, h1]
      have e2 : ownV s k = s.own k := by simp [ownV, e1]
      rw [e1, e2]
      have h4' : (s.own k == -1) = false := by simpa using h4
      clear e1 e2 h1 h4
      go_enter Tryd.func76, Tryd.ntmps76
      go_wp2_with fail
      refine (Hf.out _).mono ?_
      rintro e w' ⟨rfl, rfl⟩
      go_wp2_with fail
      go_ret2
      exact ⟨rfl, rfl⟩
  · have h1 : isF f = false := by simpa using h1
    have e1 : ownB s f = false := by simp [ownB, h1]
    have e2 : ownV s f = 0 := by simp [ownV, e1]
    rw [e1, e2]
    rw [h1] at Hf
    clear e1 e2 h1
    go_enter Tryd.func76, Tryd.ntmps76
    go_wp2_with fail
    refine (Hf.out _).mono ?_
    rintro e w' ⟨rfl, rfl⟩
    go_wp2_with fail
    go_ret2
    exact ⟨rfl, rfl⟩
end Go.Proofs.YthiephlfhbkcbaaDoor.Fm
