/- The translation buffer's functions, each by a contract. -/
import Derived.Test.YthiephlfhbkcbaaChecked
import Derived.Test.YthiephlfhbkcbaaCells
import Derived.WalkKit
import Derived.Outline
import Derived.WalkSpells
import Derived.Handy
import Derived.LoopTactic
import Derived.Deep.LoopGhost
import Derived.Deep.QuietTactic
import Derived.BigQuiet
import Derived.StillTailTactics
import Derived.Deep.RegionWith
import Derived.Deep.RegionHeld3
namespace Go.Proofs.Ythiephlfhbkcbaa.Tl
open Go.RowKit
set_option linter.unusedVariables false
set_option maxHeartbeats 4000000

/-- an entry -/
structure Ent where
  v : Bool
  n : Int
  p : Int
  b : Int
def noE : Ent := ⟨false, 0, 0, 0⟩
def ecells (e : Ent) : List Value := [.bool e.v, .int .u32 e.n, .int .u32 e.p, .int .u32 e.b]
abbrev eval_ (e : Ent) : Value := .agg #[.bool e.v, .int .u32 e.n, .int .u32 e.p, .int .u32 e.b]
def ecell (e : Ent) (j : Nat) : Value := if j = 0 then .bool e.v else if j = 1 then .int .u32 e.n else if j = 2 then .int .u32 e.p else .int .u32 e.b
/-- sixteen entries as cells -/
def tf (l : Nat → Ent) (i : Nat) : Value := ecell (l (i / 4)) (i % 4)
def upd (l : Nat → Ent) (k : Nat) (e : Ent) : Nat → Ent := fun j => if j = k then e else l j
theorem upd_same (l : Nat → Ent) (k : Nat) (e : Ent) : upd l k e k = e := by simp [upd]
theorem upd_other (l : Nat → Ent) {k j : Nat} (e : Ent) (h : j ≠ k) : upd l k e j = l j := by simp [upd, h]

/-- a buffer at block g -/
def Buf (w : World) (g : Nat) (l : Nat → Ent) : Prop := Cells w g 135 64 (tf l)
theorem Buf.fr {w w' : World} {g : Nat} {l : Nat → Ent} {S : Nat → Prop} (h : Buf w g l) (f : Fr S w w') (hn : ¬ S g) : Buf w' g l := Cells.fr h f hn
theorem Buf.lt {w : World} {g : Nat} {l : Nat → Ent} (h : Buf w g l) : g < w.heap.size := Cells.lt h

theorem Buf.ent {w : World} {g : Nat} {l : Nat → Ent} (h : Buf w g l) (k : Nat) (hk : k < 16) :
    w.cell? ⟨g, k * 4, none⟩ = some (.bool (l k).v) ∧ w.cell? ⟨g, k * 4 + 1, none⟩ = some (.int .u32 (l k).n) ∧ w.cell? ⟨g, k * 4 + 2, none⟩ = some (.int .u32 (l k).p) ∧ w.cell? ⟨g, k * 4 + 3, none⟩ = some (.int .u32 (l k).b) := by
  have e0 : tf l (k * 4) = .bool (l k).v := by simp [tf, ecell, show k * 4 / 4 = k by omega, show k * 4 % 4 = 0 by omega]
  have e1 : tf l (k * 4 + 1) = .int .u32 (l k).n := by simp [tf, ecell, show (k * 4 + 1) / 4 = k by omega, show (k * 4 + 1) % 4 = 1 by omega]
  have e2 : tf l (k * 4 + 2) = .int .u32 (l k).p := by simp [tf, ecell, show (k * 4 + 2) / 4 = k by omega, show (k * 4 + 2) % 4 = 2 by omega]
  have e3 : tf l (k * 4 + 3) = .int .u32 (l k).b := by simp [tf, ecell, show (k * 4 + 3) / 4 = k by omega, show (k * 4 + 3) % 4 = 3 by omega]
  exact ⟨by rw [Cells.cell h _ (by omega), e0], by rw [Cells.cell h _ (by omega), e1], by rw [Cells.cell h _ (by omega), e2], by rw [Cells.cell h _ (by omega), e3]⟩

theorem Buf.put {w : World} {g : Nat} {l : Nat → Ent} (h : Buf w g l) (k : Nat) (hk : k < 16) (v : Bool) (n p b : Int) :
    Buf ((((w.setCell ⟨g, k * 4, none⟩ (.bool v)).setCell ⟨g, k * 4 + 1, none⟩ (.int .u32 n)).setCell ⟨g, k * 4 + 2, none⟩ (.int .u32 p)).setCell ⟨g, k * 4 + 3, none⟩ (.int .u32 b)) g (upd l k ⟨v, n, p, b⟩) := by
  refine Cells.congr ((((Cells.set_ h _ _).set_ _ _).set_ _ _).set_ _ _) (fun i hi => ?_)
  unfold putV tf upd
  by_cases e : i / 4 = k
  · rw [if_pos e]
    have hm : i % 4 = 0 ∨ i % 4 = 1 ∨ i % 4 = 2 ∨ i % 4 = 3 := by omega
    rcases hm with hm | hm | hm | hm
    · rw [if_neg (by omega), if_neg (by omega), if_neg (by omega), if_pos (by omega), hm]; rfl
    · rw [if_neg (by omega), if_neg (by omega), if_pos (by omega), hm]; rfl
    · rw [if_neg (by omega), if_pos (by omega), hm]; rfl
    · rw [if_pos (by omega), hm]; rfl
  · rw [if_neg e, if_neg (by omega), if_neg (by omega), if_neg (by omega), if_neg (by omega)]
theorem Fr.put4 {S : Nat → Prop} {a w : World} {g : Nat} (h : Fr S a w) (hg : S g) (i j k m : Nat) (x y z u : Value) :
    Fr S a ((((w.setCell ⟨g, i, none⟩ x).setCell ⟨g, j, none⟩ y).setCell ⟨g, k, none⟩ z).setCell ⟨g, m, none⟩ u) :=
  (((h.setCell (p := ⟨g, i, none⟩) (.inl hg) _).setCell (p := ⟨g, j, none⟩) (.inl hg) _).setCell (p := ⟨g, k, none⟩) (.inl hg) _).setCell (p := ⟨g, m, none⟩) (.inl hg) _
theorem Buf.congr {w : World} {g : Nat} {l l' : Nat → Ent} (h : Buf w g l) (e : ∀ k, k < 16 → l k = l' k) : Buf w g l' := Cells.congr h (fun i hi => by unfold tf; rw [e _ (by omega)])
theorem Buf.alloc {w : World} {g : Nat} {l : Nat → Ent} (h : Buf w g l) (o : Obj) : Buf (w.alloc o) g l := Cells.alloc h o

theorem new_any (w : World) : Calls Try.prog 83 #[] w fun e w' => e = .returned (.pointer (some ⟨w.heap.size, 0, none⟩)) ∧ Buf w' w.heap.size (fun _ => noE) ∧ Fr (fun _ => False) w w' := by
  go_enter Try.func83, Try.ntmps83
  go_wp2
  go_ret
  exact ⟨rfl, (Cells.new' _ _ _ _ _ (by kernel_rfl)), (Fr.refl _ _).alloc _⟩

theorem at_any (w : World) (g : Nat) (l : Nat → Ent) (k : Nat) (hk : k < 16) (h : Buf w g l) : Calls Try.prog 79 #[.pointer (some ⟨g, 0, none⟩), .int .i64 k] w fun e w' => e = .returned (eval_ (l k)) ∧ Fr (fun _ => False) w w' := by
  obtain ⟨c0, c1, c2, c3⟩ := h.ent k hk
  have hlt := h.lt
  go_enter Try.func79, Try.ntmps79
  go_wp2
  refine bodyPost_ret (v := eval_ (l k)) (by simp [results, Try.results79, go_sem, eval_]) rfl ⟨rfl, ?_⟩
  exact (Fr.refl _ _).alloc _
theorem at_out (w : World) (g : Nat) (l : Nat → Ent) (k : Int) (hk : k < 0 ∨ 16 ≤ k) (h : Buf w g l) : Calls Try.prog 79 #[.pointer (some ⟨g, 0, none⟩), .int .i64 k] w fun e w' => e = .returned (eval_ noE) ∧ Fr (fun _ => False) w w' := by
  rcases hk with hk | hk
  · go_enter Try.func79, Try.ntmps79
    go_wp2
    refine bodyPost_ret (v := eval_ noE) (by simp [results, Try.results79, go_sem, eval_, noE]) rfl ⟨rfl, ?_⟩
    exact (Fr.refl _ _).alloc _
  · have h0 : ¬ k < 0 := by omega
    go_enter Try.func79, Try.ntmps79
    go_wp2
    refine bodyPost_ret (v := eval_ noE) (by simp [results, Try.results79, go_sem, eval_, noE]) rfl ⟨rfl, ?_⟩
    exact (Fr.refl _ _).alloc _

theorem place_any (w : World) (n : Int) (h : 0 ≤ n) : Calls Try.prog 109 #[.int .u32 n] w fun e w' => e = .returned (.int .u32 (n % 16)) ∧ w = w' := by
  go_enter Try.func109, Try.ntmps109
  go_wp2
  go_ret
  exact ⟨rfl, rfl⟩

theorem place_k (w : World) (n : Int) (k : Nat) (h : 0 ≤ n) (hk : Hid (n % 16 = k)) : Calls Try.prog 109 #[.int .u32 n] w fun e w' => e = .returned (.int .u32 k) ∧ w = w' := by
  rw [← hk.out]
  exact place_any w n h
theorem fill_yes (w : World) (g : Nat) (l : Nat → Ent) (e : Ent) (h : Buf w g l) (hv : e.v = true) (hn : 0 ≤ e.n) : Calls Try.prog 98 #[.pointer (some ⟨g, 0, none⟩), eval_ e] w fun e' w' => e' = .returned (.bool true) ∧ Buf w' g (upd l (e.n % 16).toNat e) ∧ Fr (· = g) w w' := by
  obtain ⟨v, n, p, b⟩ := e
  dsimp only at hv hn ⊢
  subst hv
  obtain ⟨k, hk⟩ : ∃ k : Nat, n % 16 = k := ⟨(n % 16).toNat, by omega⟩
  have hk16 : k < 16 := by omega
  have Hk := Lib.hid hk
  clear hk
  obtain ⟨c0, c1, c2, c3⟩ := h.ent k hk16
  have hlt := h.lt
  have f0 := Cells.frozen h (k * 4)
  have f1 := Cells.frozen h (k * 4 + 1)
  have f2 := Cells.frozen h (k * 4 + 2)
  have f3 := Cells.frozen h (k * 4 + 3)
  go_enter Try.func98, Try.ntmps98
  go_wp2
  go_region_with ((go_at_call 109; refine (place_k _ _ _ hn Hk).mono ?_; rintro e w' ⟨rfl, rfl⟩))
  all_goals go_wp2
  all_goals
    go_ret
    refine ⟨rfl, ?_, ?_⟩
    · rw [Hk.out]
      exact (h.put k hk16 true n p b).alloc _
    · (repeat (first | exact Fr.refl _ _ | with_reducible assumption | refine Fr.drewN ?_ _ | refine Fr.drew ?_ | refine Fr.alloc ?_ _ | (refine Fr.setCell (p := ⟨_, _, _⟩) ?_ ?_ _; rotate_left; first | exact .inl rfl | (right; simp; done) | (right; simp; omega))))
theorem fill_no (w : World) (g : Nat) (l : Nat → Ent) (n p b : Int) (h : Buf w g l) : Calls Try.prog 98 #[.pointer (some ⟨g, 0, none⟩), eval_ ⟨false, n, p, b⟩] w fun e' w' => e' = .returned (.bool false) ∧ Fr (fun _ => False) w w' := by
  go_enter Try.func98, Try.ntmps98
  go_wp2
  go_ret
  exact ⟨rfl, (Fr.refl _ _).alloc _⟩

/-- what is asked: -1 of no kind -/
def asks (kind : Int) (super : Bool) : Int := (if kind = 1 then 8 else if kind = 2 then 2 else 68) + (if super then 0 else 16)
theorem asked_any (w : World) (kind : Int) (super : Bool) (h : 1 ≤ kind ∧ kind ≤ 3) : Calls Try.prog 110 #[.int .i64 kind, .bool super] w fun e w' => e = .returned (.tuple #[.int .u32 (asks kind super), .bool true]) ∧ w = w' := by
  have h3 : kind = 1 ∨ kind = 2 ∨ kind = 3 := by omega
  rcases h3 with rfl | rfl | rfl <;> cases super <;>
  · go_enter Try.func110, Try.ntmps110
    go_wp2
    go_ret2
    exact ⟨rfl, rfl⟩
theorem asked_no (w : World) (kind : Int) (super : Bool) (h : kind < 1 ∨ 3 < kind) : Calls Try.prog 110 #[.int .i64 kind, .bool super] w fun e w' => e = .returned (.tuple #[.int .u32 0, .bool false]) ∧ w = w' := by
  have h1 : (kind == 1) = false := by simp; omega
  have h2 : (kind == 2) = false := by simp; omega
  have h3 : (kind == 3) = false := by simp; omega
  go_enter Try.func110, Try.ntmps110
  go_wp2
  go_ret2
  exact ⟨rfl, rfl⟩

/-- chapter 9: where an address is; none: not kept -/
def hit (e : Ent) (va kind : Int) (super : Bool) : Bool := decide (1 ≤ kind ∧ kind ≤ 3) && e.v && (e.n == va / 64) && (bits .and .u32 e.b (asks kind super) == asks kind super)
def found (e : Ent) (va kind : Int) (super : Bool) : Int := if hit e va kind super then e.p * 64 % 4294967296 + va % 64 else 0

end Go.Proofs.Ythiephlfhbkcbaa.Tl
