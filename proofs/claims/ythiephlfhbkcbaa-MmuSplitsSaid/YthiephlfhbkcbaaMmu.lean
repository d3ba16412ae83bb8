/- A unit (mmu.Unit): what it is; New, device, turned, Place, Drop, Flush. -/
import Derived.Test.YthiephlfhbkcbaaMmuP
import Derived.Test.YthiephlfhbkcbaaTlbMore
import Derived.Test.YthiephlfhbkcbaaCells
namespace Go.Proofs.Ythiephlfhbkcbaa.Mu
open Go.RowKit Fm Nt Rm By Wk
set_option linter.unusedVariables false
set_option linter.unusedSimpArgs false
set_option maxHeartbeats 4000000

/-- where a unit's parts lie -/
structure Au where
  gU : Nat
  gB : Nat
  am : Am
structure Un (w : World) (A : Au) (u : Us) : Prop where
  b : Blk w A.gU 125 #[.pointer (some ⟨A.am.gm, 0, none⟩), .pointer (some ⟨A.gB, 0, none⟩)]
  M : Mem w A.am u.m
  B : Tl.Buf w A.gB u.l
  sep : ∀ k, A.am.own k → k ≠ A.gU ∧ k ≠ A.gB
/-- the blocks that calls may write -/
def Au.wr (A : Au) (k : Nat) : Prop := k = A.gB ∨ A.am.own k
section
variable {w w' : World} {A : Au} {u : Us} {S : Nat → Prop}
theorem Un.nUB (h : Un w A u) : A.gU ≠ A.gB := by
  obtain ⟨cs, hcs, _⟩ := h.B
  exact Blk.ne_ h.b hcs (by decide)
theorem Un.fr0 (h : Un w A u) (f : Fr (fun _ => False) w w') : Un w' A u := ⟨h.b.fr f (fun e => e), h.M.fr0 f, h.B.fr f (fun e => e), h.sep⟩
theorem Un.fr (h : Un w A u) (f : Fr S w w') (hs : ∀ k, k = A.gU ∨ A.wr k → ¬ S k) : Un w' A u := ⟨h.b.fr f (hs _ (.inl rfl)), h.M.fr f (fun k hk => hs k (.inr (.inr hk))), h.B.fr f (hs _ (.inr (.inl rfl))), h.sep⟩
theorem Un.setM (h : Un w A u) {m' : Ms} (hM : Mem w' A.am m') (f : Fr A.am.own w w') : Un w' A ⟨m', u.l⟩ := ⟨h.b.fr f (fun e => (h.sep _ e).1 rfl), hM, h.B.fr f (fun e => (h.sep _ e).2 rfl), h.sep⟩
theorem Un.setB (h : Un w A u) {l' : Nat → Tl.Ent} (hB : Tl.Buf w' A.gB l') (f : Fr (· = A.gB) w w') : Un w' A ⟨u.m, l'⟩ := ⟨h.b.fr f h.nUB, h.M.fr f (fun k hk e => (h.sep k hk).2 e), hB, h.sep⟩
theorem Un.lt (h : Un w A u) : ∀ k, k = A.gU ∨ A.wr k → k < w.heap.size := by
  rintro k (rfl | rfl | hk)
  · exact h.b.lt
  · exact h.B.lt
  · exact h.M.lt k hk
theorem Un.c0 (h : Un w A u) : w.cell? ⟨A.gU, 0, none⟩ = some (.pointer (some ⟨A.am.gm, 0, none⟩)) := h.b.cell 0
theorem Un.c1 (h : Un w A u) : w.cell? ⟨A.gU, 1, none⟩ = some (.pointer (some ⟨A.gB, 0, none⟩)) := h.b.cell 1
end
abbrev spv (s : Sp) : Value := .agg #[.bool s.pg, .bool s.su, .int .u32 s.rt]
abbrev trv (c a : Int) : Value := .agg #[.int .i64 c, .int .u32 a]
theorem device_any (w : World) (p : Int) (h0 : 0 ≤ p) (h1 : p ≤ 4294967295) : Calls Try.prog 70 #[.int .u32 p] w fun e w' => e = .returned (.bool (devB p)) ∧ w = w' := by
  unfold devB
  by_cases a : 32768 ≤ p
  · by_cases b : p < 33024
    · have e : (decide (32768 ≤ p) && decide (p < 33024)) = true := by simp [a, b]
      rw [e]
      clear e
      go_enter Try.func70, Try.ntmps70
      go_wp2_with fail
      go_ret
      exact ⟨rfl, rfl⟩
    · have e : (decide (32768 ≤ p) && decide (p < 33024)) = false := by simp [b]
      have b' : decide (p < 33024) = false := by simpa using b
      rw [e]
      clear e b
      go_enter Try.func70, Try.ntmps70
      go_wp2_with fail
      go_ret
      exact ⟨rfl, rfl⟩
  · have e : (decide (32768 ≤ p) && decide (p < 33024)) = false := by simp [a]
    have a' : decide (32768 ≤ p) = false := by simpa using a
    rw [e]
    clear e a
    go_enter Try.func70, Try.ntmps70
    go_wp2_with fail
    go_ret
    exact ⟨rfl, rfl⟩
theorem results_tc {P : Program} {fn : Func} {p q : Tmp} {ty' : TypeId} (h : fn.results = #[.tmp p, .cell q ty']) (tmps : Array Value) (w : World) (g' : Nat) (t' : TypeId) (cs' : Array Value) (d' : TypeDesc) (v : Value)
    (hp : tmps.getD p undef = v) (hq : tmps.getD q undef = .pointer (some ⟨g', 0, none⟩)) (hg' : Blk w g' t' cs')
    (hu' : P.underlying ty' = some d') (hd' : (match d' with | .struct _ | .array _ _ => true | _ => false) = true) (hi' : (P.info? ty').map (·.size) = some cs'.size) :
    (results fn tmps).run P w = .ok (.tuple #[v, .agg cs']) w := by
  have hp' : tmps[p]?.getD undef = v := by simpa using hp
  have hq' : tmps[q]?.getD undef = .pointer (some ⟨g', 0, none⟩) := by simpa using hq
  simp [results, h, hp', hq', asAddr, run_loadVar_row w g' t' ty' cs' (0, 0) d' hg' hu' hd' hi', Sem.run_bind, Result.andThen]
theorem results_c {P : Program} {fn : Func} {q : Tmp} {ty' : TypeId} (h : fn.results = #[.cell q ty']) (tmps : Array Value) (w : World) (g' : Nat) (t' : TypeId) (cs' : Array Value) (d' : TypeDesc)
    (hq : tmps.getD q undef = .pointer (some ⟨g', 0, none⟩)) (hg' : Blk w g' t' cs')
    (hu' : P.underlying ty' = some d') (hd' : (match d' with | .struct _ | .array _ _ => true | _ => false) = true) (hi' : (P.info? ty').map (·.size) = some cs'.size) :
    (results fn tmps).run P w = .ok (.agg cs') w := by
  have hq' : tmps[q]?.getD undef = .pointer (some ⟨g', 0, none⟩) := by simpa using hq
  simp [results, h, hq', asAddr, run_loadVar_row w g' t' ty' cs' (0, 0) d' hg' hu' hd' hi', Sem.run_bind, Result.andThen]
/-- a space and a trap laid in new memory -/
theorem boxed (w : World) (x t : Array Value) : Blk ((w.alloc (.cells x 59)).alloc (.cells t 63)) w.heap.size 59 x ∧ Blk ((w.alloc (.cells x 59)).alloc (.cells t 63)) (w.heap.size + 1) 63 t ∧ Fr (fun _ => False) w ((w.alloc (.cells x 59)).alloc (.cells t 63)) := by
  refine ⟨(Blk.new w 59 x).alloc _, ?_, ((Fr.refl _ w).alloc _).alloc _⟩
  have := Blk.new (w.alloc (.cells x 59)) 63 t
  rwa [show (w.alloc (.cells x 59)).heap.size = w.heap.size + 1 by simp] at this
theorem Un.drew {w : World} {A : Au} {u : Us} (h : Un w A u) : Un w.drew A u := ⟨h.b, h.M, h.B, h.sep⟩
/-- a trap is laid in its box -/
theorem trap_in {w w3 : World} {A : Au} {u : Us} {g : Nat} {x0 x1 : Value} (b3 : Blk w3 g 63 #[x0, x1]) (H3 : Un w3 A u) (f : Fr A.wr w w3) (hl : ∀ k, k = A.gU ∨ A.wr k → k < w.heap.size) (hg : w.heap.size ≤ g) (y0 y1 : Value) :
    Blk ((w3.setCell ⟨g, 0, none⟩ y0).setCell ⟨g, 1, none⟩ y1) g 63 #[y0, y1] ∧ Un ((w3.setCell ⟨g, 0, none⟩ y0).setCell ⟨g, 1, none⟩ y1) A u ∧ Fr A.wr w ((w3.setCell ⟨g, 0, none⟩ y0).setCell ⟨g, 1, none⟩ y1) := by
  have f2 : Fr (· = g) w3 ((w3.setCell ⟨g, 0, none⟩ y0).setCell ⟨g, 1, none⟩ y1) := (Fr.set1 w3 g 0 y0).setCell (p := ⟨g, 1, none⟩) (.inl rfl) y1
  exact ⟨(b3.set_ 0 y0).set_ 1 y1, H3.fr f2 (fun k hk e => by have := hl k hk; omega), f.trans f2 (fun i hi e => by omega)⟩
/-- what a call that turns an address leaves -/
def PPost (w : World) (A : Au) (r : Pr) (e : Ending) (w' : World) : Prop := e = .returned (.tuple #[.int .u32 r.p, trv r.c r.a]) ∧ Un w' A r.u ∧ Fr A.wr w w'
end Go.Proofs.Ythiephlfhbkcbaa.Mu
