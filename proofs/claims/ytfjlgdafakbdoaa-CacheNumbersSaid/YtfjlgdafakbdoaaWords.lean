/- Words of memory used by all texts of this seat: a block known whole, a slice that reads as a list, frames. -/
import Derived.WalkKit
import Derived.Below
import Derived.Laws.OwnMore
import Derived.Deep.AppendLies
import Derived.Deep.Draws
import Derived.Laws.Rows
import Derived.Lib.Hide
namespace Go.Proofs.Ytfjlgdafakbdoaa
open Go.RowKit

theorem block_of_add (a : Addr) (n : Nat) : (a.add n).block = a.block := by unfold Addr.add; split <;> rfl
theorem add_of_add (a : Addr) (i j : Nat) : (a.add i).add j = a.add (i + j) := by
  unfold Addr.add
  by_cases hi : i = 0 <;> by_cases hj : j = 0 <;> simp [hi, hj, Nat.add_assoc]

def Blk (w : World) (g : Nat) (t : TypeId) (cs : Array Value) : Prop := w.heap[g]? = some (.cells cs t (0, 0))

section
variable {w w' : World} {g : Nat} {t : TypeId} {cs : Array Value}
theorem Blk.lt (h : Blk w g t cs) : g < w.heap.size := by
  rcases Nat.lt_or_ge g w.heap.size with hlt | hge
  · exact hlt
  · unfold Blk at h; rw [Array.getElem?_eq_none hge] at h; cases h
theorem Blk.cell (h : Blk w g t cs) (i : Nat) : w.cell? ⟨g, i, none⟩ = cs[i]? := cell_of_row w g i cs t (0, 0) h
theorem Blk.frozen (h : Blk w g t cs) (i : Nat) : w.frozen? ⟨g, i, none⟩ = false := by
  unfold Blk at h
  simp [World.frozen?, h]
theorem Blk.new (w : World) (t : TypeId) (cs : Array Value) : Blk (w.alloc (.cells cs t)) w.heap.size t cs := heap_alloc_new w _
theorem Blk.new' (w : World) (t : TypeId) (cs : Array Value) {n : Nat} (h : w.heap.size = n) : Blk (w.alloc (.cells cs t)) n t cs := h ▸ Blk.new w t cs
theorem Blk.drew (h : Blk w g t cs) : Blk w.drew g t cs := h
theorem Blk.drewN (h : Blk w g t cs) (n : Nat) : Blk (w.drewN n) g t cs := h
theorem Blk.alloc (h : Blk w g t cs) (o : Obj) : Blk (w.alloc o) g t cs := (Below.heap_alloc w o g h.lt).trans h
theorem Blk.set_ (h : Blk w g t cs) (i : Nat) (u : Value) : Blk (w.setCell ⟨g, i, none⟩ u) g t (cs.setIfInBounds i u) := by
  unfold Blk at h ⊢
  simp [World.setCell, Array.getElem?_modify, h]
theorem Blk.far (h : Blk w g t cs) {p : Addr} (hp : g ≠ p.block) (u : Value) : Blk (w.setCell p u) g t cs := (Below.heap_setCell w p u g hp).trans h
theorem Blk.below {B : Nat} (h : Blk w g t cs) (hb : Below B w w') (hg : g < B) : Blk w' g t cs := (hb.block g hg).trans h
theorem Blk.grown {row : Option Nat} (h : Blk w g t cs) (hb : w.grownBy w' row) (hg : some g ≠ row) : Blk w' g t cs := (hb.block g h.lt hg).trans h
end

/-- What was there is as it was, but for the blocks in S; blocks may have come. -/
structure Fr (S : Nat → Prop) (w w' : World) : Prop where
  os : w'.os = w.os
  tape : w'.tape = w.tape
  output : w'.output = w.output
  size : w.heap.size ≤ w'.heap.size
  block : ∀ k, k < w.heap.size → ¬ S k → w'.heap[k]? = w.heap[k]?

section
variable {S S' : Nat → Prop} {a w w' w'' : World}
theorem Fr.refl (S : Nat → Prop) (w : World) : Fr S w w := ⟨rfl, rfl, rfl, Nat.le_refl _, fun _ _ _ => rfl⟩
theorem Fr.trans (h : Fr S a w) (k : Fr S' w w') (hs : ∀ i, i < a.heap.size → S' i → S i) : Fr S a w' :=
  ⟨k.os.trans h.os, k.tape.trans h.tape, k.output.trans h.output, Nat.le_trans h.size k.size, fun i hi hn => (k.block i (Nat.lt_of_lt_of_le hi h.size) (fun e => hn (hs i hi e))).trans (h.block i hi hn)⟩
theorem Fr.tr (h : Fr S a w) (k : Fr S w w') : Fr S a w' := h.trans k (fun _ _ e => e)
theorem Fr.mono (h : Fr S w w') (hs : ∀ i, i < w.heap.size → S i → S' i) : Fr S' w w' := ⟨h.os, h.tape, h.output, h.size, fun k hk hn => h.block k hk (fun e => hn (hs k hk e))⟩
theorem Fr.drew (h : Fr S a w) : Fr S a w.drew := ⟨h.os, h.tape, h.output, h.size, h.block⟩
theorem Fr.drewN (h : Fr S a w) (n : Nat) : Fr S a (w.drewN n) := ⟨h.os, h.tape, h.output, h.size, h.block⟩
theorem Fr.alloc (h : Fr S a w) (o : Obj) : Fr S a (w.alloc o) :=
  ⟨h.os, h.tape, h.output, Nat.le_trans h.size (by simp), fun i hi hn => (Below.heap_alloc w o i (Nat.lt_of_lt_of_le hi h.size)).trans (h.block i hi hn)⟩
theorem Fr.setCell (h : Fr S a w) {p : Addr} (hp : S p.block ∨ a.heap.size ≤ p.block) (u : Value) : Fr S a (w.setCell p u) :=
  ⟨h.os, h.tape, h.output, by simpa [World.setCell] using h.size, fun i hi hn => (Below.heap_setCell w p u i (by
    rintro rfl
    rcases hp with hp | hp
    · exact hn hp
    · omega)).trans (h.block i hi hn)⟩
theorem Fr.grown (h : Fr S a w) {row : Option Nat} (hg : w.grownBy w' row) (hr : ∀ k, row = some k → S k ∨ a.heap.size ≤ k) : Fr S a w' :=
  ⟨hg.os.trans h.os, hg.tape.trans h.tape, hg.output.trans h.output, Nat.le_trans h.size hg.size, fun i hi hn => (hg.block i (Nat.lt_of_lt_of_le hi h.size) (fun e => by
    rcases hr i e.symm with hp | hp
    · exact hn hp
    · omega)).trans (h.block i hi hn)⟩
theorem Fr.of_below (h : Below w.heap.size w w') : Fr S w w' := ⟨h.os, h.tape, h.output, h.size, fun k hk _ => h.block k hk⟩
theorem Fr.cell (f : Fr S w w') {p : Addr} {v : Option Value} (hc : w.cell? p = v) (hp : p.block < w.heap.size) (hn : ¬ S p.block) : w'.cell? p = v := (World.cell?_of_block (w := w) (f.block _ hp hn)).trans hc
theorem Fr.below {B : Nat} (h : Fr S w w') (hs : ∀ k, k < w.heap.size → S k → B ≤ k) (hB : B ≤ w.heap.size) : Below B w w' :=
  ⟨h.os, h.tape, h.output, h.size, fun k hk => h.block k (by omega) (fun e => by have := hs k (by omega) e; omega)⟩
theorem Blk.fr {g : Nat} {t : TypeId} {cs : Array Value} (h : Blk w g t cs) (f : Fr S w w') (hn : ¬ S g) : Blk w' g t cs := (f.block g h.lt hn).trans h
theorem Fr.set1 (w : World) (g i : Nat) (u : Value) : Fr (· = g) w (w.setCell ⟨g, i, none⟩ u) := (Fr.refl (· = g) w).setCell (p := ⟨g, i, none⟩) (.inl rfl) u
theorem Fr.none_below (h : Fr (fun _ => False) w w') : Below w.heap.size w w' := h.below (fun _ _ e => e.elim) (Nat.le_refl _)
end
/-- a slice value that reads as the integers zs -/
def IntsAt (k : IntKind) (w : World) (B : Nat) (A : Option Addr) (n : Nat) (zs : List Int) : Prop :=
  zs.length = n ∧ (∀ i, i < n → (Lit.int k (zs.getD i 0)).wf = true) ∧ (0 < n → ∃ b off, A = some ⟨b, off, none⟩ ∧ b < B ∧ ∀ i, i < n → w.cell? ⟨b, off + i, none⟩ = some (.int k (zs.getD i 0)))
section
variable {k : IntKind} {w w' : World} {B n : Nat} {A : Option Addr} {zs : List Int} {S : Nat → Prop}
theorem IntsAt.at_ (h : IntsAt k w B A n zs) {i : Nat} (hi : i < n) : ∃ b off, A = some ⟨b, off, none⟩ ∧ b < B ∧ w.cell? ⟨b, off + i, none⟩ = some (.int k (zs.getD i 0)) := by
  obtain ⟨b, off, e, hb, hc⟩ := h.2.2 (by omega)
  exact ⟨b, off, e, hb, hc i hi⟩
theorem IntsAt.more {B' : Nat} (h : IntsAt k w B A n zs) (hB : B ≤ B') : IntsAt k w B' A n zs :=
  ⟨h.1, h.2.1, fun hn => by
    obtain ⟨b, off, e, hb, hc⟩ := h.2.2 hn
    exact ⟨b, off, e, by omega, hc⟩⟩
theorem IntsAt.fr (h : IntsAt k w B A n zs) (f : Fr S w w') (hB : B ≤ w.heap.size) (hs : ∀ i, i < B → ¬ S i) : IntsAt k w' B A n zs :=
  ⟨h.1, h.2.1, fun hn => by
    obtain ⟨b, off, e, hb, hc⟩ := h.2.2 hn
    exact ⟨b, off, e, hb, fun i hi => (World.cell?_of_block (w := w) (a := ⟨b, off + i, none⟩) (f.block b (by omega) (hs b hb))).trans (hc i hi)⟩⟩
end
theorem IntsAt.take {k : IntKind} {w : World} {B n m : Nat} {A : Option Addr} {zs : List Int} (h : IntsAt k w B A n zs) (hm : m ≤ n) : IntsAt k w B A m (zs.take m) := by
  have hg : ∀ i, i < m → (zs.take m).getD i 0 = zs.getD i 0 := by
    intro i hi
    simp only [List.getD_eq_getElem?_getD]
    rw [List.getElem?_take_of_lt hi]
  refine ⟨by have := h.1; simp; omega, fun i hi => by rw [hg i hi]; exact h.2.1 i (by omega), fun hn => ?_⟩
  obtain ⟨b, off, e, hb, hc⟩ := h.2.2 (by omega)
  exact ⟨b, off, e, hb, fun i hi => by rw [hg i hi]; exact hc i (by omega)⟩
theorem intsAt_nil (k : IntKind) (w : World) (B : Nat) (A : Option Addr) : IntsAt k w B A 0 [] := ⟨rfl, fun i hi => absurd hi (by omega), fun hn => absurd hn (by omega)⟩
theorem intsAt_of_open {k : IntKind} {w : World} {x : Addr} {len : Nat} {zs : List Int} (hl : len ≤ zs.length)
    (hcell : ∀ i, i < zs.length → w.cell? (x.add i) = some (.int k (zs.getD i 0))) (hwz : ∀ n ∈ zs, (Lit.int k n).wf = true) : IntsAt k w w.heap.size (some x) len (zs.take len) := by
  have hg : ∀ i, i < len → (zs.take len).getD i 0 = zs.getD i 0 := by
    intro i hi
    simp only [List.getD_eq_getElem?_getD]
    rw [List.getElem?_take_of_lt hi]
  refine ⟨by simp; omega, fun i hi => ?_, fun hn => ?_⟩
  · rw [hg i hi]
    have hlt : i < zs.length := by omega
    have e : zs.getD i 0 = zs[i] := by simp [hlt]
    rw [e]
    exact hwz _ (List.getElem_mem hlt)
  · obtain ⟨b, off, spot⟩ := x
    have hc := hcell 0 (by omega)
    have hspot : spot = none := by simpa [Addr.add] using World.cell?_spot hc
    subst hspot
    refine ⟨b, off, rfl, ?_, fun i hi => ?_⟩
    · rcases Nat.lt_or_ge b w.heap.size with h | h
      · exact h
      · exfalso
        have : w.heap[b]? = none := Array.getElem?_eq_none h
        simp [World.cell?, Addr.add, this] at hc
    · rw [hg i hi, ← hcell i (by omega)]
      unfold Addr.add
      split
      · rename_i h0; subst h0; rfl
      · rfl
theorem intsAt_lit {k : IntKind} {w : World} {g : Nat} {t : TypeId} (zs : List Int) (hb : Blk w g t (zs.map (Value.int k)).toArray) (hw : ∀ i, i < zs.length → (Lit.int k (zs.getD i 0)).wf = true) : IntsAt k w (g + 1) (some ⟨g, 0, none⟩) zs.length zs := by
  refine ⟨rfl, hw, fun _ => ⟨g, 0, rfl, by omega, fun i hi => ?_⟩⟩
  rw [Nat.zero_add, hb.cell i]
  simp [hi]
theorem wf_list {k : IntKind} {zs : List Int} (h : ∀ z ∈ zs, (Lit.int k z).wf = true) : ∀ i, i < zs.length → (Lit.int k (zs.getD i 0)).wf = true := by
  intro i hi
  have e : zs.getD i 0 = zs[i] := by simp [hi]
  rw [e]
  exact h _ (List.getElem_mem hi)
theorem wf_i64_mk {n : Int} (h0 : -9223372036854775808 ≤ n) (h1 : n ≤ 9223372036854775807) : (Lit.int .i64 n).wf = true := by simpa [Lit.wf, IntKind.min, IntKind.max, IntKind.signed, IntKind.bits] using ⟨h0, h1⟩
theorem wf_u32_mk {n : Int} (h0 : 0 ≤ n) (h1 : n ≤ 4294967295) : (Lit.int .u32 n).wf = true := by simpa [Lit.wf, IntKind.min, IntKind.max, IntKind.signed, IntKind.bits] using ⟨h0, h1⟩
theorem wf_u8_mk {n : Int} (h0 : 0 ≤ n) (h1 : n ≤ 255) : (Lit.int .u8 n).wf = true := by simpa [Lit.wf, IntKind.min, IntKind.max, IntKind.signed, IntKind.bits] using ⟨h0, h1⟩
theorem wf_u64 {n : Int} (h : (Lit.int .u64 n).wf = true) : 0 ≤ n ∧ n ≤ 18446744073709551615 := by simpa [Lit.wf, IntKind.min, IntKind.max, IntKind.signed, IntKind.bits] using h
theorem wf_u32 {n : Int} (h : (Lit.int .u32 n).wf = true) : 0 ≤ n ∧ n ≤ 4294967295 := by simpa [Lit.wf, IntKind.min, IntKind.max, IntKind.signed, IntKind.bits] using h
theorem wf_u8 {n : Int} (h : (Lit.int .u8 n).wf = true) : 0 ≤ n ∧ n ≤ 255 := by simpa [Lit.wf, IntKind.min, IntKind.max, IntKind.signed, IntKind.bits] using h
theorem wf_i64 {n : Int} (h : (Lit.int .i64 n).wf = true) : -9223372036854775808 ≤ n ∧ n ≤ 9223372036854775807 := by simpa [Lit.wf, IntKind.min, IntKind.max, IntKind.signed, IntKind.bits] using h
theorem setCell_self {w : World} {g : Nat} {t : TypeId} {cs : Array Value} (h : Blk w g t cs) (i : Nat) (v : Value) (hi : cs[i]? = some v) : w.setCell ⟨g, i, none⟩ v = w := by
  have he : cs.setIfInBounds i v = cs := by
    apply Array.ext_getElem?
    intro j
    rw [Array.getElem?_setIfInBounds]
    split
    · rename_i e; subst e; split
      · exact hi.symm
      · rename_i hn; rw [Array.getElem?_eq_none (by omega)]
    · rfl
  have hh : (w.setCell ⟨g, i, none⟩ v).heap = w.heap := by
    apply Array.ext_getElem?
    intro k
    by_cases hk : k = g
    · subst hk
      have := h.set_ i v
      unfold Blk at this h
      rw [this, h, he]
    · exact Below.heap_setCell w _ v k hk
  cases w
  simp only [World.setCell] at hh ⊢
  rw [hh]
end Go.Proofs.Ytfjlgdafakbdoaa
