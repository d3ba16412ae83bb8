/- A guest's memory (ram.Memory): what a memory is; its bytes through any calls. Plain laws. -/
import Derived.Test.YthiephlfhbkcbaaDoorTabInv
namespace Go.Proofs.YthiephlfhbkcbaaDoor.Rm
open Go.RowKit Fm Nt
set_option linter.unusedVariables false

/-- where a memory lies -/
structure Am where
  a : Ad
  gm : Nat
/-- a memory: pages, bytes, which are mapped, which were written -/
structure Ms where
  n : Nat
  mem : Nat → Int
  mp : Nat → Bool
  tu : Nat → Bool
def mcell (a : Am) (m : Ms) (i : Nat) : Value := if i = 0 then .pointer (some ⟨a.a.gp, 0, none⟩) else if i = 1 then .pointer (some ⟨a.a.gt, 0, none⟩) else if i < 66 then .bool (m.tu (i - 2)) else .bool false
def Am.own (a : Am) (k : Nat) : Prop := k = a.gm ∨ a.a.own k ∨ k = a.a.gp
/-- a byte through the second stage -/
def byteAt (s : Pl) (t : Ts) (i : Nat) : Int := if t.fr (i / 64) = -1 then 0 else s.byt ((t.fr (i / 64)).toNat * 64 + i % 64)

/-- what a memory tells of its pool and its table -/
structure Sees (m : Ms) (s : Pl) (t : Ts) : Prop where
  inv : TInv s t
  n : t.n = m.n
  mp : ∀ k, k < m.n → m.mp k = (t.fr k != -1)
  mem : ∀ i, i < m.n * 64 → m.mem i = byteAt s t i
  bd : ∀ i, i < m.n * 64 → 0 ≤ m.mem i ∧ m.mem i < 256

/-- a byte is written -/
def Ms.put (m : Ms) (i : Nat) (b : Int) : Ms := { m with mem := updI m.mem i b, mp := if b = 0 then m.mp else updB m.mp (i / 64) true, tu := updB m.tu (i / 64) true }
/-- a page is unmapped -/
def Ms.drop (m : Ms) (k : Nat) : Ms := { m with mem := fun i => if i / 64 = k then 0 else m.mem i, mp := updB m.mp k false }
def Ms.calm (m : Ms) : Ms := { m with tu := fun _ => false }
def Ms.new (n : Nat) : Ms := ⟨n, fun _ => 0, fun _ => false, fun _ => false⟩

section
variable {m : Ms} {s : Pl} {t : Ts}
theorem Sees.lt (h : Sees m s t) {i : Nat} (hi : i < m.n * 64) : i / 64 < t.n := by rw [h.n]; omega
theorem byteAt_mapped {s : Pl} {t : Ts} {i f : Nat} (h : t.fr (i / 64) = f) : byteAt s t i = s.byt (f * 64 + i % 64) := by
  unfold byteAt
  rw [h, if_neg (by omega)]; rfl
theorem byteAt_none {s : Pl} {t : Ts} {i : Nat} (h : t.fr (i / 64) = -1) : byteAt s t i = 0 := by
  unfold byteAt
  rw [if_pos h]
/-- a page that has no frame is given one: no byte changes -/
theorem Sees.map (h : Sees m s t) {k : Nat} (hk : k < m.n) (hx : t.fr k = -1) : Sees { m with mp := updB m.mp k true } (mapS s t k) (t.map s k) := by
  have hk' : k < t.n := by rw [h.n]; exact hk
  have hI := h.inv.map k
  obtain ⟨f, f1, f2, f3, _, _, _, e1, e2⟩ := h.inv.mapNew hk' hx
  rw [e1, e2] at hI
  rw [e1, e2]
  refine ⟨hI, h.n, fun j hj => ?_, fun i hi => ?_, h.bd⟩
  · have hj : j < m.n := hj
    show updB m.mp k true j = (updI t.fr k f j != -1)
    unfold updB updI
    split
    · simp
    · exact h.mp j hj
  · have hi : i < m.n * 64 := hi
    show m.mem i = _
    rw [h.mem i hi]
    by_cases e : i / 64 = k
    · have h1 : (t.setFr k f).fr (i / 64) = f := by show updI t.fr k f (i / 64) = f; rw [e, updI_same]
      rw [byteAt_none (e ▸ hx), byteAt_mapped h1]
      show 0 = if f * 64 ≤ f * 64 + i % 64 ∧ f * 64 + i % 64 < f * 64 + 64 then 0 else _
      rw [if_pos (by omega)]
    · have h1 : (t.setFr k f).fr (i / 64) = t.fr (i / 64) := updI_other _ _ e
      by_cases hm : t.fr (i / 64) = -1
      · rw [byteAt_none hm, byteAt_none (h1.trans hm)]
      · rcases h.inv.at_ (i / 64) (h.lt hi) with q | ⟨q1, q2, q3⟩
        · exact absurd q hm
        · obtain ⟨g, hg⟩ : ∃ g : Nat, t.fr (i / 64) = g := ⟨(t.fr (i / 64)).toNat, by omega⟩
          rw [byteAt_mapped hg, byteAt_mapped (h1.trans hg)]
          have hgf : g ≠ f := by
            rintro rfl
            rw [hg, show (g : Int).toNat = g from rfl, f3] at q3
            have := h.inv.o0
            omega
          show _ = if f * 64 ≤ g * 64 + i % 64 ∧ g * 64 + i % 64 < f * 64 + 64 then 0 else s.byt (g * 64 + i % 64)
          rw [if_neg (by omega)]
/-- the frame of a mapped page -/
theorem Sees.frame (h : Sees m s t) {k : Nat} (hk : k < m.n) (hx : ¬ t.fr k = -1) : ∃ f : Nat, t.fr k = f ∧ 16 ≤ f ∧ f < 256 ∧ s.own f = t.o := by
  rcases h.inv.at_ k (by rw [h.n]; exact hk) with e | ⟨e1, e2, e3⟩
  · exact absurd e hx
  · obtain ⟨f, hf⟩ : ∃ f : Nat, t.fr k = f := ⟨(t.fr k).toNat, by omega⟩
    rw [hf] at e1 e2 e3
    exact ⟨f, hf, by omega, by omega, e3⟩
theorem here_of {s : Pl} {o : Int} {f a : Nat} (h1 : 16 ≤ f) (h2 : f < 256) (h3 : s.own f = o) (h4 : 0 ≤ o) (ha : a < 64) : hereB s f a = true := by
  have e1 : ownB s f = true := by
    have : ¬ s.own f = -1 := by omega
    simp [ownB, isF, this]
    omega
  simp [hereB, e1]
  omega
/-- a byte of a mapped page is written -/
theorem Sees.putF (h : Sees m s t) {i f : Nat} (hi : i < m.n * 64) (hf : t.fr (i / 64) = f) (b : Int) (b0 : 0 ≤ b) (b1 : b < 256) :
    hereB s f (i % 64 : Nat) = true ∧ Sees { m with mem := updI m.mem i b } (s.putB f (i % 64 : Nat) b) t := by
  have hlt := h.lt hi
  obtain ⟨f', hf', f1, f2, f3⟩ := h.frame (k := i / 64) (by omega) (by omega)
  have : f' = f := by omega
  subst this
  have hh := here_of (a := i % 64) f1 f2 f3 h.inv.o0 (by omega)
  have hI := h.inv.putB f' (i % 64 : Nat) b
  have e1 : s.putB f' (i % 64 : Nat) b = s.setByt (f' * 64 + i % 64) b := by
    rw [Pl.putB, if_pos hh]; rfl
  rw [e1] at hI ⊢
  refine ⟨hh, hI, h.n, h.mp, fun j hj => ?_, fun j hj => ?_⟩
  · have hj : j < m.n * 64 := hj
    show updI m.mem i b j = _
    unfold updI
    by_cases e : j = i
    · subst e
      rw [if_pos rfl, byteAt_mapped hf]
      show b = updI s.byt _ b _
      rw [updI_same]
    · rw [if_neg e, h.mem j hj]
      by_cases hm : t.fr (j / 64) = -1
      · rw [byteAt_none hm, byteAt_none hm]
      · obtain ⟨g, hg, g1, g2, _⟩ := h.frame (k := j / 64) (by omega) hm
        rw [byteAt_mapped hg, byteAt_mapped hg]
        show _ = updI s.byt _ b _
        rw [updI_other]
        intro e2
        by_cases e3 : j / 64 = i / 64
        · rw [e3, hf] at hg; omega
        · have : g ≠ f' := fun e4 => e3 (h.inv.inj _ _ (h.lt hj) hlt (by rw [hg, hf, e4]) (by omega))
          omega
  · show 0 ≤ updI m.mem i b j ∧ updI m.mem i b j < 256
    unfold updI
    split
    · omega
    · exact h.bd j hj
theorem Sees.turn (h : Sees m s t) (tu : Nat → Bool) : Sees { m with tu := tu } s t := ⟨h.inv, h.n, h.mp, h.mem, h.bd⟩
theorem Sees.congr (h : Sees m s t) {m' : Ms} (hn : m'.n = m.n) (h1 : ∀ k, k < m.n → m'.mp k = m.mp k) (h2 : ∀ i, i < m.n * 64 → m'.mem i = m.mem i) : Sees m' s t :=
  ⟨h.inv, h.n.trans hn.symm, fun k hk => (h1 k (hn ▸ hk)).trans (h.mp k (hn ▸ hk)), fun i hi => (h2 i (hn ▸ hi)).trans (h.mem i (hn ▸ hi)), fun i hi => by rw [h2 i (hn ▸ hi)]; exact h.bd i (hn ▸ hi)⟩
/-- a nought to a page that has no frame -/
theorem Sees.put0 (h : Sees m s t) {i : Nat} (hi : i < m.n * 64) (hx : t.fr (i / 64) = -1) : Sees (m.put i 0) s t := by
  refine h.congr rfl (fun k hk => by simp [Ms.put]) (fun j hj => ?_)
  show updI m.mem i 0 j = m.mem j
  unfold updI
  split
  · rename_i e
    subst e
    rw [h.mem j hi, byteAt_none hx]
  · rfl
/-- a page is unmapped -/
theorem Sees.drop (h : Sees m s t) {k : Nat} (hk : k < m.n) : Sees (m.drop k) (unmapS s t k) (t.unmap k) := by
  have hk' : k < t.n := by rw [h.n]; exact hk
  have hI := h.inv.unmap k
  by_cases hx : t.fr k = -1
  · obtain ⟨_, e1, e2⟩ := unmapOut (s := s) (t := t) (p := k) (by simp [frB_iff t hk', hx])
    rw [e1, e2]
    refine h.congr rfl (fun j hj => ?_) (fun i hi => ?_)
    · show updB m.mp k false j = m.mp j
      unfold updB
      split
      · rename_i e; subst e; rw [h.mp j hj, hx]; rfl
      · rfl
    · show (if i / 64 = k then 0 else m.mem i) = m.mem i
      split
      · rename_i e; subst e; rw [h.mem i hi, byteAt_none hx]
      · rfl
  · obtain ⟨f, hf, f1, f2, f3, _, e1, e2⟩ := h.inv.unmapOld hk' hx
    rw [e1, e2] at hI
    rw [e1, e2]
    refine ⟨hI, h.n, fun j hj => ?_, fun i hi => ?_, fun i hi => ?_⟩
    · have hj : j < m.n := hj
      show updB m.mp k false j = (updI t.fr k (-1) j != -1)
      unfold updB updI
      split
      · rfl
      · exact h.mp j hj
    · have hi : i < m.n * 64 := hi
      show (if i / 64 = k then 0 else m.mem i) = _
      by_cases e : i / 64 = k
      · have h1 : ((t.setFr k (-1)).setGd k false).fr (i / 64) = -1 := by show updI t.fr k (-1) (i / 64) = -1; rw [e, updI_same]
        rw [if_pos e, byteAt_none h1]
      · have h1 : ((t.setFr k (-1)).setGd k false).fr (i / 64) = t.fr (i / 64) := updI_other _ _ e
        rw [if_neg e, h.mem i hi]
        by_cases hm : t.fr (i / 64) = -1
        · rw [byteAt_none hm, byteAt_none (h1.trans hm)]
        · obtain ⟨g, hg, _⟩ := h.frame (k := i / 64) (by omega) hm
          rw [byteAt_mapped hg, byteAt_mapped (h1.trans hg)]
          rfl
    · show 0 ≤ (if i / 64 = k then 0 else m.mem i) ∧ (if i / 64 = k then 0 else m.mem i) < 256
      split
      · omega
      · exact h.bd i hi
theorem Sees.new {n : Nat} {o : Int} (h : TInv s (Ts.new n o)) : Sees (Ms.new n) s (Ts.new n o) :=
  ⟨h, rfl, fun k hk => rfl, fun i hi => rfl, fun i hi => by show (0 : Int) ≤ 0 ∧ (0 : Int) < 256; omega⟩
end

/-- a memory in the world -/
def MemC (w : World) (a : Am) (m : Ms) (s : Pl) (t : Ts) : Prop := Pool w a.a.gp s ∧ Tab w a.a t ∧ Cells w a.gm 120 67 (mcell a m) ∧ Sees m s t
def Mem (w : World) (a : Am) (m : Ms) : Prop := ∃ s t, MemC w a m s t
section
variable {w w' : World} {a : Am} {m : Ms} {s : Pl} {t : Ts} {S : Nat → Prop}
theorem MemC.fr (h : MemC w a m s t) (f : Fr S w w') (hn : ∀ k, a.own k → ¬ S k) : MemC w' a m s t :=
  ⟨h.1.fr f (hn _ (.inr (.inr rfl))), h.2.1.fr f (fun k hk => hn k (.inr (.inl hk))), h.2.2.1.fr f (hn _ (.inl rfl)), h.2.2.2⟩
theorem Mem.fr (h : Mem w a m) (f : Fr S w w') (hn : ∀ k, a.own k → ¬ S k) : Mem w' a m := by
  obtain ⟨s, t, h⟩ := h; exact ⟨s, t, h.fr f hn⟩
theorem Mem.fr0 (h : Mem w a m) (f : Fr (fun _ => False) w w') : Mem w' a m := h.fr f (fun _ _ e => e)
theorem MemC.drew (h : MemC w a m s t) : MemC w.drew a m s t := h
theorem Mem.drew (h : Mem w a m) : Mem w.drew a m := h
theorem Mem.alloc (h : Mem w a m) (o : Obj) : Mem (w.alloc o) a m := h.fr0 ((Fr.refl _ w).alloc o)
theorem MemC.ne1 (h : MemC w a m s t) : a.gm ≠ a.a.gp := Cells.ne h.2.2.1 h.1 (by decide)
theorem MemC.ne2 (h : MemC w a m s t) : a.gm ≠ a.a.gt := by
  obtain ⟨cs, hcs, _⟩ := h.2.2.1
  exact Blk.ne_ hcs h.2.1.1 (by decide)
theorem MemC.ne3 (h : MemC w a m s t) : a.gm ≠ a.a.gf := Cells.ne h.2.2.1 h.2.1.2.1 (by decide)
theorem MemC.ne4 (h : MemC w a m s t) : a.gm ≠ a.a.gg := Cells.ne h.2.2.1 h.2.1.2.2.1 (by decide)
theorem MemC.neT (h : MemC w a m s t) : ∀ k, a.a.own k ∨ k = a.a.gp → ¬ k = a.gm := by
  rintro k ((rfl | rfl | rfl) | rfl) e
  · exact h.ne2 e.symm
  · exact h.ne3 e.symm
  · exact h.ne4 e.symm
  · exact h.ne1 e.symm
theorem Mem.lt (h : Mem w a m) : ∀ k, a.own k → k < w.heap.size := by
  obtain ⟨s, t, h⟩ := h
  rintro k (rfl | hk | rfl)
  · exact Cells.lt h.2.2.1
  · exact h.2.1.lt k hk
  · exact h.1.lt
theorem Mem.n0 (h : Mem w a m) : 1 ≤ m.n ∧ m.n ≤ 64 := by
  obtain ⟨s, t, h⟩ := h
  have := h.2.2.2.inv.n0
  have := h.2.2.2.inv.n1
  have := h.2.2.2.n
  omega
theorem Mem.bd (h : Mem w a m) : ∀ i, i < m.n * 64 → 0 ≤ m.mem i ∧ m.mem i < 256 := by
  obtain ⟨s, t, h⟩ := h
  exact h.2.2.2.bd
theorem MemC.c0 (h : MemC w a m s t) : w.cell? ⟨a.gm, 0, none⟩ = some (.pointer (some ⟨a.a.gp, 0, none⟩)) := Cells.cell h.2.2.1 0 (by omega)
theorem MemC.c1 (h : MemC w a m s t) : w.cell? ⟨a.gm, 1, none⟩ = some (.pointer (some ⟨a.a.gt, 0, none⟩)) := Cells.cell h.2.2.1 1 (by omega)
theorem MemC.cT (h : MemC w a m s t) (k : Nat) (hk : k < 64) : w.cell? ⟨a.gm, 2 + k, none⟩ = some (.bool (m.tu k)) := by
  rw [Cells.cell h.2.2.1 _ (by omega), mcell, if_neg (by omega), if_neg (by omega), if_pos (by omega), show 2 + k - 2 = k by omega]
theorem MemC.cC (h : MemC w a m s t) : w.cell? ⟨a.gm, 66, none⟩ = some (.bool false) := Cells.cell h.2.2.1 66 (by omega)
theorem MemC.setT (h : MemC w a m s t) (k : Nat) (hk : k < 64) (b : Bool) : MemC (w.setCell ⟨a.gm, 2 + k, none⟩ (.bool b)) a { m with tu := updB m.tu k b } s t := by
  have ff := Fr.set1 w a.gm (2 + k) (.bool b)
  refine ⟨h.1.fr ff (fun e => h.neT _ (.inr rfl) e), h.2.1.fr ff (fun k hk e => h.neT _ (.inl hk) e), Cells.congr (Cells.set_ h.2.2.1 _ _) (fun i hi => ?_), h.2.2.2.turn _⟩
  unfold putV mcell
  dsimp only
  by_cases e : i = 2 + k
  · rw [if_pos e, if_neg (by omega), if_neg (by omega), if_pos (by omega), show i - 2 = k by omega]
    simp [updB]
  · rw [if_neg e]
    by_cases e0 : i = 0
    · rw [if_pos e0, if_pos e0]
    · by_cases e1 : i = 1
      · rw [if_neg e0, if_pos e1, if_neg e0, if_pos e1]
      · by_cases e2 : i < 66
        · rw [if_neg e0, if_neg e1, if_pos e2, if_neg e0, if_neg e1, if_pos e2]
          rw [updB, if_neg (by omega)]
        · rw [if_neg e0, if_neg e1, if_neg e2, if_neg e0, if_neg e1, if_neg e2]
end
end Go.Proofs.YthiephlfhbkcbaaDoor.Rm
