/- The document's bus (innkeeperref15.Bus), as far as its drive: New, Drive. -/
import Derived.Test.YthiephlfhbkcbaaRef8
import Derived.Test.YthiephlfhbkcbaaDriveB
import Derived.StillTailTactics
namespace Go.Proofs.Ythiephlfhbkcbaa.Rf
open Go.RowKit Fm Nt Rm By Dr
set_option linter.unusedVariables false
set_option maxHeartbeats 8000000

def busRow (gM gk : Nat) : Array Value := #[.pointer (some ⟨gM, 0, none⟩), .int .u32 0, .int .u32 0, .int .u32 0, .slice none 0 0, .slice none 0 0, .slice (some ⟨gk, 0, none⟩) 1024 1024, .int .u32 0, .int .u32 0, .int .u32 0]
/-- the document's bus, as far as its memory and its disk -/
def BRow (w : World) (gB gM gk : Nat) : Prop := ∃ cs, Blk w gB 150 cs ∧ cs[0]? = some (.pointer (some ⟨gM, 0, none⟩)) ∧ cs[6]? = some (.slice (some ⟨gk, 0, none⟩) 1024 1024)
theorem BRow.fr {w w' : World} {gB gM gk : Nat} {S : Nat → Prop} (h : BRow w gB gM gk) (f : Fr S w w') (hn : ¬ S gB) : BRow w' gB gM gk := by
  obtain ⟨cs, h1, h2⟩ := h
  exact ⟨cs, h1.fr f hn, h2⟩
theorem BRow.lt {w : World} {gB gM gk : Nat} (h : BRow w gB gM gk) : gB < w.heap.size := by
  obtain ⟨cs, h1, h2⟩ := h
  exact h1.lt
/-- a bus: its memory, its disk -/
structure BS (w : World) (gB gk gM gb gt n : Nat) (mem : Nat → Int) (tu : Nat → Bool) (d : Nat → Int) : Prop where
  r : RM w gM gb gt n mem tu
  b : BRow w gB gM gk
  c : Cells w gk 5 1024 (fun i => .int .u8 (d i))
  ne : gk ≠ gb
section
variable {w w' : World} {gB gk gM gb gt n : Nat} {mem : Nat → Int} {tu : Nat → Bool} {d : Nat → Int} {S : Nat → Prop}
theorem BS.fr0 (h : BS w gB gk gM gb gt n mem tu d) (f : Fr (fun _ => False) w w') : BS w' gB gk gM gb gt n mem tu d := ⟨h.r.fr0 f, h.b.fr f (fun e => e), h.c.fr f (fun e => e), h.ne⟩
theorem BS.fr (h : BS w gB gk gM gb gt n mem tu d) (f : Fr S w w') (h1 : ∀ k, k < w.heap.size → S k → k ≠ gB ∧ k ≠ gk ∧ k ≠ gM ∧ k ≠ gb ∧ k ≠ gt) : BS w' gB gk gM gb gt n mem tu d :=
  ⟨h.r.fr f (fun e => (h1 _ h.r.lt.1 e).2.2.1 rfl) (fun e => (h1 _ h.r.lt.2.1 e).2.2.2.1 rfl) (fun e => (h1 _ h.r.lt.2.2 e).2.2.2.2 rfl), h.b.fr f (fun e => (h1 _ h.b.lt e).1 rfl), h.c.fr f (fun e => (h1 _ h.c.lt e).2.1 rfl), h.ne⟩
theorem BS.c0 (h : BS w gB gk gM gb gt n mem tu d) : w.cell? ⟨gB, 0, none⟩ = some (.pointer (some ⟨gM, 0, none⟩)) := by
  obtain ⟨cs, h1, h2, _⟩ := h.b
  exact (h1.cell 0).trans h2
theorem BS.c6 (h : BS w gB gk gM gb gt n mem tu d) : w.cell? ⟨gB, 6, none⟩ = some (.slice (some ⟨gk, 0, none⟩) 1024 1024) := by
  obtain ⟨cs, h1, _, h3⟩ := h.b
  exact (h1.cell 6).trans h3
theorem BS.nBb (h : BS w gB gk gM gb gt n mem tu d) : gB ≠ gb := by
  obtain ⟨cs, hcs, _⟩ := h.r.cb
  obtain ⟨cr, hr, _⟩ := h.b
  exact Blk.ne_ hr hcs (by decide)
theorem BS.nBk (h : BS w gB gk gM gb gt n mem tu d) : gB ≠ gk := by
  obtain ⟨cs, hcs, _⟩ := h.c
  obtain ⟨cr, hr, _⟩ := h.b
  exact Blk.ne_ hr hcs (by decide)
theorem BS.nBt (h : BS w gB gk gM gb gt n mem tu d) : gB ≠ gt := by
  obtain ⟨cs, hcs, _⟩ := h.r.ct
  obtain ⟨cr, hr, _⟩ := h.b
  exact Blk.ne_ hr hcs (by decide)
theorem BS.nMk (h : BS w gB gk gM gb gt n mem tu d) : gM ≠ gk := by
  obtain ⟨cs, hcs, _⟩ := h.c
  exact Blk.ne_ h.r.b hcs (by decide)
theorem BS.ntk (h : BS w gB gk gM gb gt n mem tu d) : gt ≠ gk := Cells.ne h.r.ct h.c (by decide)
/-- a byte of the memory is written -/
theorem BS.put {mem' : Nat → Int} {tu' : Nat → Bool} (h : BS w gB gk gM gb gt n mem tu d) (f : Fr (fun k => k = gb ∨ k = gt) w w') (hr : RM w' gM gb gt n mem' tu') : BS w' gB gk gM gb gt n mem' tu' d :=
  ⟨hr, h.b.fr f (fun e => by rcases e with e | e; exact h.nBb e; exact h.nBt e), h.c.fr f (fun e => by rcases e with e | e; exact h.ne e; exact h.ntk e.symm), h.ne⟩
/-- a byte of the disk is written -/
theorem BS.setD (h : BS w gB gk gM gb gt n mem tu d) (j : Nat) (b : Int) : BS (w.setCell ⟨gk, j, none⟩ (.int .u8 b)) gB gk gM gb gt n mem tu (updI d j b) := by
  have f := Fr.set1 w gk j (.int .u8 b)
  exact ⟨h.r.fr f (fun e => h.nMk e) (fun e => h.ne e.symm) (fun e => h.ntk e), h.b.fr f (fun e => h.nBk e), Cells.congr (Cells.set_ h.c j _) (fun i hi => by unfold putV updI; split <;> rfl), h.ne⟩
theorem BS.congr {mem' : Nat → Int} {tu' : Nat → Bool} {d' : Nat → Int} (h : BS w gB gk gM gb gt n mem tu d) (h1 : ∀ i, mem i = mem' i) (h2 : ∀ i, tu i = tu' i) (h3 : ∀ i, d i = d' i) : BS w gB gk gM gb gt n mem' tu' d' := by
  obtain rfl : mem = mem' := funext h1
  obtain rfl : tu = tu' := funext h2
  obtain rfl : d = d' := funext h3
  exact h
end
/-- the disk of the document's bus with r bytes of a sector laid -/
def dpart (d mem : Nat → Int) (s A r : Nat) : Nat → Int := fun i => if s * 64 ≤ i ∧ i < s * 64 + r then mem (A + (i - s * 64)) else d i
theorem dpart_succ (d mem : Nat → Int) (s A r : Nat) : updI (dpart d mem s A r) (s * 64 + r) (mem (A + r)) = dpart d mem s A (r + 1) := by
  funext i
  unfold updI dpart
  by_cases e : i = s * 64 + r
  · rw [if_pos e, if_pos (by omega), show A + (i - s * 64) = A + r by omega]
  · rw [if_neg e]
    by_cases h : s * 64 ≤ i ∧ i < s * 64 + r
    · rw [if_pos h, if_pos (by omega)]
    · rw [if_neg h, if_neg (by omega)]
/-- a bus over a memory, with a new disk -/
def NewB (w : World) (gM : Nat) (zs : List Int) (e : Ending) (w' : World) : Prop := ∃ gB gk, e = .returned (.pointer (some ⟨gB, 0, none⟩)) ∧ Blk w' gB 150 (busRow gM gk) ∧ Cells w' gk 5 1024 (fun i => .int .u8 (dinit zs i)) ∧ w.heap.size ≤ gk ∧ w.heap.size ≤ gB ∧ Fr (fun _ => False) w w'
set_option maxRecDepth 100000 in
theorem bus_new (w : World) (gM : Nat) (A : Option Addr) (len cap : Nat) (zs : List Int) (hz : IntsAt .u8 w w.heap.size A len zs) (hl : len ≤ 1024) :
    Calls Try.prog 43 #[.pointer (some ⟨gM, 0, none⟩), .slice A len cap] w (NewB w gM zs) := by
  have hmk : ∀ W, (Instr.makeSlice 24 (.int .i64 1024) (.int .i64 1024)).run Try.prog W = .ok (.slice (some ⟨W.heap.size, 0, none⟩) 1024 1024) (W.alloc (.cells (zU 1024) 5)) := fun W => run_makeU .i64 1024 (by omega) W
  have HC0 := Lib.hid (cellsU w 1024 rfl)
  have f0 := (Fr.refl (fun _ => False) w).alloc (.cells (zU 1024) 5)
  have HZ0 := Lib.hid (hz.fr f0 (Nat.le_refl _) (fun _ _ e => e))
  have hlz := Lib.hid hz.1
  have HF0 := Lib.hid f0
  have hs1 : (w.alloc (.cells (zU 1024) 5)).heap.size = w.heap.size + 1 := by simp
  have hsz := szU
  clear f0
  go_enter Try.func43, Try.ntmps43
  go_wp2_with
    (refine wpList_copy_cells rfl (.tmp 7) (.tmp 8) 24 24 rfl 5 Try.underlying24 hsz w.heap.size 0 1024 1024 A len cap rfl rfl 5 1024 _ HC0.out .u8 w.heap.size len zs (by omega) HZ0.out (by omega) ?_
     intro w2 hc2 f2
     have hc3 : Cells w2 w.heap.size 5 1024 (fun i => .int .u8 (dinit zs i)) := Cells.congr hc2 (fun i hi => by
       unfold putR dinit
       rw [List.length_map, hlz.out]
       by_cases h : i < len
       · rw [if_pos (by omega), if_pos h, Nat.sub_zero]
         have := hlz.out
         simp [List.getD_eq_getElem?_getD, show i < zs.length by omega]
       · rw [if_neg (by omega), if_neg h])
     have hfin : NewB w gM zs (.returned (.pointer (some ⟨w2.heap.size, 0, none⟩))) (w2.alloc (.cells (busRow gM w.heap.size) 150)) := ⟨w2.heap.size, w.heap.size, rfl, Blk.new _ _ _, hc3.alloc _, Nat.le_refl _, by have := f2.size; omega, (HF0.out.trans (S := fun _ => False) f2 (fun i hi e => by omega)).alloc _⟩
     have HFN := Lib.hid hfin
     clear hfin hc2 hc3)
  go_ret
  exact HFN.out
end Go.Proofs.Ythiephlfhbkcbaa.Rf
