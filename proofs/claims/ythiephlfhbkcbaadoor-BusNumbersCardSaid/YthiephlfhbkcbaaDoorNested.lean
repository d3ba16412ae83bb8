/- The second stage of paging (nested.Table): what a table is; is, Pages, Frame, Guarded, guard. -/
import Derived.Test.YthiephlfhbkcbaaDoorFramesG
import Derived.RegionTactic
namespace Go.Proofs.YthiephlfhbkcbaaDoor.Nt
open Go.RowKit Fm
set_option linter.unusedVariables false
set_option maxHeartbeats 4000000

/-- where a table's memory lies -/
structure Ad where
  gp : Nat
  gt : Nat
  gf : Nat
  gg : Nat
/-- a table: pages, owner, frames (-1: none), guards -/
structure Ts where
  n : Nat
  o : Int
  fr : Nat → Int
  gd : Nat → Bool
def Tab (w : World) (a : Ad) (t : Ts) : Prop :=
  Blk w a.gt 117 #[.pointer (some ⟨a.gp, 0, none⟩), .int .i64 t.o, .slice (some ⟨a.gf, 0, none⟩) t.n t.n, .slice (some ⟨a.gg, 0, none⟩) t.n t.n] ∧
  Cells w a.gf 3 t.n (fun i => .int .i64 (t.fr i)) ∧ Cells w a.gg 4 t.n (fun i => .bool (t.gd i)) ∧ (1 ≤ t.n ∧ t.n ≤ 64)
def Ad.own (a : Ad) (k : Nat) : Prop := k = a.gt ∨ k = a.gf ∨ k = a.gg
theorem Tab.fr {w w' : World} {a : Ad} {t : Ts} {S : Nat → Prop} (h : Tab w a t) (f : Fr S w w') (hn : ∀ k, a.own k → ¬ S k) : Tab w' a t :=
  ⟨h.1.fr f (hn _ (.inl rfl)), h.2.1.fr f (hn _ (.inr (.inl rfl))), h.2.2.1.fr f (hn _ (.inr (.inr rfl))), h.2.2.2⟩
theorem Tab.drew {w : World} {a : Ad} {t : Ts} (h : Tab w a t) : Tab w.drew a t := h
theorem Tab.alloc {w : World} {a : Ad} {t : Ts} (h : Tab w a t) (o : Obj) : Tab (w.alloc o) a t := ⟨h.1.alloc o, h.2.1.alloc o, h.2.2.1.alloc o, h.2.2.2⟩
theorem Tab.ne1 {w : World} {a : Ad} {t : Ts} (h : Tab w a t) : a.gt ≠ a.gf := Blk.ne_ h.1 h.2.1.choose_spec.1 (by decide)
theorem Tab.ne2 {w : World} {a : Ad} {t : Ts} (h : Tab w a t) : a.gt ≠ a.gg := Blk.ne_ h.1 h.2.2.1.choose_spec.1 (by decide)
theorem Tab.ne3 {w : World} {a : Ad} {t : Ts} (h : Tab w a t) : a.gf ≠ a.gg := Cells.ne h.2.1 h.2.2.1 (by decide)
theorem Tab.lt {w : World} {a : Ad} {t : Ts} (h : Tab w a t) : ∀ k, a.own k → k < w.heap.size := by
  rintro k (rfl | rfl | rfl)
  · exact h.1.lt
  · exact h.2.1.lt
  · exact h.2.2.1.lt
theorem Tab.pool {w : World} {a : Ad} {t : Ts} {s : Pl} (h : Tab w a t) (hp : Pool w a.gp s) : ∀ k, a.own k → ¬ k = a.gp := by
  obtain ⟨cs, hcs, _⟩ := hp
  rintro k (rfl | rfl | rfl) e
  · exact Blk.ne_ h.1 (e ▸ hcs) (by decide) rfl
  · exact Blk.ne_ h.2.1.choose_spec.1 (e ▸ hcs) (by decide) rfl
  · exact Blk.ne_ h.2.2.1.choose_spec.1 (e ▸ hcs) (by decide) rfl

def inP (t : Ts) (p : Int) : Bool := decide (0 ≤ p ∧ p < t.n)
theorem is_any (w : World) (a : Ad) (t : Ts) (p : Int) (h : Tab w a t) : Calls Tryd.prog 73 #[.pointer (some ⟨a.gt, 0, none⟩), .int .i64 p] w fun e w' => e = .returned (.bool (inP t p)) ∧ w = w' := by
  obtain ⟨hb, hf, hg, hn0, hn1⟩ := h
  have c2 := hb.cell 2
  by_cases h0 : 0 ≤ p
  · by_cases h1 : p < t.n
    · have e : inP t p = true := by simp [inP, h0, h1]
      rw [e]
      clear e
      go_enter Tryd.func73, Tryd.ntmps73
      go_wp2_with fail
      go_ret
      exact ⟨rfl, rfl⟩
    · have e : inP t p = false := by simp [inP, h1]
      have h1' : decide (p < (t.n : Int)) = false := by simpa using h1
      rw [e]
      clear e
      go_enter Tryd.func73, Tryd.ntmps73
      go_wp2_with fail
      go_ret
      exact ⟨rfl, rfl⟩
  · have e : inP t p = false := by simp [inP, h0]
    have h0' : decide (0 ≤ p) = false := by simpa using h0
    rw [e]
    clear e
    go_enter Tryd.func73, Tryd.ntmps73
    go_wp2_with fail
    go_ret
    exact ⟨rfl, rfl⟩
theorem pages_any (w : World) (a : Ad) (t : Ts) (h : Tab w a t) : Calls Tryd.prog 63 #[.pointer (some ⟨a.gt, 0, none⟩)] w fun e w' => e = .returned (.int .i64 t.n) ∧ w = w' := by
  obtain ⟨hb, hf, hg, hn0, hn1⟩ := h
  have c2 := hb.cell 2
  go_enter Tryd.func63, Tryd.ntmps63
  go_wp2_with fail
  go_ret
  exact ⟨rfl, rfl⟩

def frB (t : Ts) (p : Int) : Bool := inP t p && (t.fr p.toNat != -1)
def frV (t : Ts) (p : Int) : Int := if frB t p then t.fr p.toNat else 0
theorem inP_at {t : Ts} {p : Int} (h : inP t p = true) : ∃ k : Nat, p = k ∧ k < t.n := by
  simp [inP] at h
  exact ⟨p.toNat, by omega, by omega⟩
theorem frame_any (w : World) (a : Ad) (t : Ts) (p : Int) (h : Tab w a t) : Calls Tryd.prog 65 #[.pointer (some ⟨a.gt, 0, none⟩), .int .i64 p] w fun e w' => e = .returned (.tuple #[.int .i64 (frV t p), .bool (frB t p)]) ∧ w = w' := by
  have hi := Lib.hid (is_any w a t p h)
  obtain ⟨hb, hf, hg, hn0, hn1⟩ := h
  have c2 := hb.cell 2
  cases hp : inP t p
  · have hv := hi.out
    rw [hp] at hv
    have Hv := Lib.hid hv
    have e1 : frB t p = false := by simp [frB, hp]
    have e2 : frV t p = 0 := by simp [frV, e1]
    rw [e1, e2]
    clear hv hp e1 e2 hi
    go_enter Tryd.func65, Tryd.ntmps65
    go_wp2_with fail
    refine (Hv.out).mono ?_
    rintro e w' ⟨rfl, rfl⟩
    go_wp2_with fail
    go_ret2
    exact ⟨rfl, rfl⟩
  · have hv := hi.out
    rw [hp] at hv
    have Hv := Lib.hid hv
    obtain ⟨k, rfl, hk⟩ := inP_at hp
    have c := hf.cell k hk
    by_cases hx : t.fr k = -1
    · have e1 : frB t k = false := by simp [frB, hx]
      have e2 : frV t k = 0 := by simp [frV, e1]
      rw [e1, e2]
      rw [hx] at c
      clear hv hp e1 e2 hi hx
      go_enter Tryd.func65, Tryd.ntmps65
      go_wp2_with fail
      refine (Hv.out).mono ?_
      rintro e w' ⟨rfl, rfl⟩
      go_wp2_with fail
      go_ret2
      exact ⟨rfl, rfl⟩
    · have e1 : frB t k = true := by simp [frB, hx, hp]
      have e2 : frV t k = t.fr k := by simp [frV, e1]
      rw [e1, e2]
      have hx' : (t.fr k == -1) = false := by simpa using hx
      clear hv hp e1 e2 hi hx
      go_enter Tryd.func65, Tryd.ntmps65
      go_wp2_with fail
      refine (Hv.out).mono ?_
      rintro e w' ⟨rfl, rfl⟩
      go_wp2_with fail
      go_ret2
      exact ⟨rfl, rfl⟩
end Go.Proofs.YthiephlfhbkcbaaDoor.Nt
