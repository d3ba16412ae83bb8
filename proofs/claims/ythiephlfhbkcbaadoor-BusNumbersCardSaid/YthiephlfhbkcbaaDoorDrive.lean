/- A guest's drive: New, All, Do. -/
import Derived.Test.YthiephlfhbkcbaaDoorMemory
import Derived.Test.YthiephlfhbkcbaaDoorCopy
namespace Go.Proofs.YthiephlfhbkcbaaDoor.Dr
open Go.RowKit Fm Nt Rm By
set_option linter.unusedVariables false
set_option maxHeartbeats 4000000

/-- a drive: its block, its bytes' block, its bytes -/
structure Drv (w : World) (gd gb : Nat) (d : Nat → Int) : Prop where
  b : Blk w gd 79 #[.slice (some ⟨gb, 0, none⟩) 1024 1024]
  c : Cells w gb 5 1024 (fun i => .int .u8 (d i))
  bd : ∀ i, i < 1024 → 0 ≤ d i ∧ d i < 256
theorem Drv.fr {w w' : World} {gd gb : Nat} {d : Nat → Int} {S : Nat → Prop} (h : Drv w gd gb d) (f : Fr S w w') (h1 : ¬ S gd) (h2 : ¬ S gb) : Drv w' gd gb d := ⟨h.b.fr f h1, h.c.fr f h2, h.bd⟩
theorem Drv.lt {w : World} {gd gb : Nat} {d : Nat → Int} (h : Drv w gd gb d) : gd < w.heap.size ∧ gb < w.heap.size := ⟨h.b.lt, h.c.lt⟩
theorem Drv.ne {w : World} {gd gb : Nat} {d : Nat → Int} (h : Drv w gd gb d) : gd ≠ gb := by
  obtain ⟨cs, hcs, _⟩ := h.c
  exact Blk.ne_ h.b hcs (by decide)
/-- what a new drive holds -/
def dinit (zs : List Int) (i : Nat) : Int := if i < zs.length then zs.getD i 0 else 0
theorem szU : (Tryd.prog.info? 5).map (·.size) = some 1 := by
  obtain ⟨i0, hi0, hz0, hz1, hz2⟩ := info_parts infoU8
  rw [hi0]; simp [hz1]
def NewD (w : World) (zs : List Int) (e : Ending) (w' : World) : Prop := ∃ gd gb, e = .returned (.tuple #[.pointer (some ⟨gd, 0, none⟩), .int .i64 0]) ∧ Drv w' gd gb (dinit zs) ∧ w.heap.size ≤ gd ∧ w.heap.size ≤ gb ∧ Fr (fun _ => False) w w'
set_option maxRecDepth 100000 in
theorem new_any (w : World) (A : Option Addr) (len cap : Nat) (zs : List Int) (hz : IntsAt .u8 w w.heap.size A len zs) (hl : len ≤ 1024) :
    Calls Tryd.prog 45 #[.slice A len cap] w (NewD w zs) := by
  have hmk : ∀ W, (Instr.makeSlice 24 (.int .i64 1024) (.int .i64 1024)).run Tryd.prog W = .ok (.slice (some ⟨W.heap.size, 0, none⟩) 1024 1024) (W.alloc (.cells (zU 1024) 5)) := fun W => run_makeU .i64 1024 (by omega) W
  have hc0 := (cellsU w 1024 rfl).alloc (.cells #[.slice (some ⟨w.heap.size, 0, none⟩) 1024 1024] 79)
  have hb0 := Blk.new (w.alloc (.cells (zU 1024) 5)) 79 #[.slice (some ⟨w.heap.size, 0, none⟩) 1024 1024]
  have f0 := ((Fr.refl (fun _ => False) w).alloc (.cells (zU 1024) 5)).alloc (.cells #[.slice (some ⟨w.heap.size, 0, none⟩) 1024 1024] 79)
  have hz0 := hz.fr f0 (Nat.le_refl _) (fun _ _ e => e)
  have hlz := Lib.hid hz.1
  have HC0 := Lib.hid hc0
  have HB0 := Lib.hid hb0
  have HF0 := Lib.hid f0
  have HZ0 := Lib.hid hz0
  have hsz := szU
  clear hc0 hb0 f0 hz0
  go_enter Tryd.func45, Tryd.ntmps45
  go_wp2_with
    (refine wpList_copy_cells rfl (.tmp 14) (.tmp 15) 24 24 rfl 5 Tryd.underlying24 hsz w.heap.size 0 1024 1024 A len cap rfl rfl 5 1024 _ HC0.out .u8 w.heap.size len zs (by omega) HZ0.out (by omega) ?_
     intro w2 hc2 f2)
  have hfin : NewD w zs (.returned (.tuple #[.pointer (some ⟨w.heap.size + 1, 0, none⟩), .int .i64 0])) w2 := by
    have hbb := HB0.out
    rw [show (w.alloc (.cells (zU 1024) 5)).heap.size = w.heap.size + 1 by simp] at hbb
    refine ⟨w.heap.size + 1, w.heap.size, rfl, ⟨hbb.fr f2 (by omega), Cells.congr hc2 (fun i hi => ?_), fun i hi => ?_⟩, by omega, by omega, HF0.out.trans f2 (fun i hi e => by omega)⟩
    · unfold putR dinit
      rw [List.length_map, hlz.out]
      by_cases h : i < len
      · rw [if_pos (by omega), if_pos h, Nat.sub_zero]
        have := hlz.out
        simp [List.getD_eq_getElem?_getD, show i < zs.length by omega]
      · rw [if_neg (by omega), if_neg h]
    · unfold dinit
      split
      · rename_i h
        have := wf_u8 (hz.2.1 i (by rw [hlz.out] at h; exact h))
        omega
      · omega
  have HFN := Lib.hid hfin
  clear hfin hc2
  go_wp2_with fail
  go_ret2
  exact HFN.out
/-- bytes are told, in new memory -/
def GivesL (w : World) (n : Nat) (l : List Int) (e : Ending) (w' : World) : Prop := ∃ g cap, e = .returned (.slice (some ⟨g, 0, none⟩) n cap) ∧ IntsAt .u8 w' w'.heap.size (some ⟨g, 0, none⟩) n l ∧ n ≤ cap ∧ w.heap.size ≤ g ∧ Fr (fun _ => False) w w'
set_option maxRecDepth 100000 in
theorem clone_any (w : World) (gb : Nat) (n : Nat) (hn0 : 0 < n) (hn : n ≤ 100000) (zs : List Int) (hz : IntsAt .u8 w w.heap.size (some ⟨gb, 0, none⟩) n zs) (c : Nat) :
    Calls Tryd.prog 32 #[.slice (some ⟨gb, 0, none⟩) n c] w (GivesL w n zs) := by
  obtain ⟨i0, hi0, hz0, hz1, hz2⟩ := info_parts infoU8
  have hown : (w.alloc (.cells #[] 5)).ownsRow w.heap.size 5 1 (.slice (some ⟨w.heap.size, 0, none⟩) 0 0) 0 [] := ⟨rfl, .inr ⟨w.heap.size, 0, #[], rfl, Nat.le_refl _, Blk.new w 5 #[], Nat.le_refl _, by simp [maxLen], rfl, rfl⟩⟩
  have hr := intsAt_reads (hz.fr ((Fr.refl (fun _ => False) w).alloc (.cells #[] 5)) (Nat.le_refl _) (fun _ _ e => e))
  have hwf := Lib.hid hz.2.1
  have hlz := Lib.hid hz.1
  have hnil : ∀ W, (binOp .eql 24 (.slice (some ⟨gb, 0, none⟩) n c) (.slice none 0 0)).run Tryd.prog W = .ok (.bool false) W := fun W => Lib.run_eql_slice_nil W 24 5 (some ⟨gb, 0, none⟩) n c 0 0 Tryd.underlying24
  clear hz
  go_enter Tryd.func32, Tryd.ntmps32
  go_wp2_with
    (at_builtin
     refine wpList_append_any _ rfl (.tmp 5) (.tmp 6) _ rfl w.heap.size 5 i0 _ 1 1 Tryd.underlying24 hi0 hz0 hz1 hz2 rfl (by omega) _ 0 [] rfl hown w.heap.size (some ⟨gb, 0, none⟩) n c (zs.map (Value.int .u8)) rfl hr oneCell_ints (by simp only [maxLen]; omega) (by omega) (by simp) ?_
     intro v1 w1 hown1 hg1 hat1)
  have hfin : GivesL w n zs (.returned v1) w1 := by
    rw [Nat.zero_add, List.nil_append] at hown1
    obtain ⟨g, cap, cur, rfl, hb, _, hcap, _⟩ := own_blk hown1 hn0
    refine ⟨g, cap, rfl, Bk.own_ints hown1 (fun z hz => ?_), hcap, hb, ((Fr.refl (fun _ => False) w).alloc _).grown hg1 (fun k hk => ?_)⟩
    · obtain ⟨i, hi, rfl⟩ := List.getElem_of_mem hz
      have := hwf.out i (by rw [hlz.out] at hi; exact hi)
      simpa [hi] using this
    · have hk : some w.heap.size = some k := hk
      injection hk with hk
      right; omega
  have HF := Lib.hid hfin
  clear hfin hown1 hat1
  go_wp2_with fail
  go_ret
  exact HF.out
theorem dall_any (w : World) (gd gb : Nat) (d : Nat → Int) (h : Drv w gd gb d) : Calls Tryd.prog 21 #[.pointer (some ⟨gd, 0, none⟩)] w (GivesL w 1024 (lst d 1024)) := by
  have c0 := h.b.cell 0
  have hI := (cells_ints h.c h.bd).more (show gb + 1 ≤ w.heap.size from h.lt.2)
  have hcl := Lib.hid (clone_any w gb 1024 (by omega) (by omega) _ hI 1024)
  clear hI
  go_enter Tryd.func21, Tryd.ntmps21
  go_wp2_with fail
  refine (hcl.out).mono ?_
  rintro e w1 ⟨g, cap, rfl, hI, hc, hg, f⟩
  have hG : GivesL w 1024 (lst d 1024) (.returned (.slice (some ⟨g, 0, none⟩) 1024 cap)) w1 := ⟨g, cap, rfl, hI, hc, hg, f⟩
  have HG := Lib.hid hG
  clear hG hI
  go_wp2_with fail
  go_ret
  exact HG.out
end Go.Proofs.YthiephlfhbkcbaaDoor.Dr
