/- Words of memory, II: a block of fixed size known cell by cell; ranges of it loaded and stored. -/
import Derived.Test.YtfjlgdafakbdoaaWords
import Derived.Deep.MidRow
import Derived.Deep.QuietTactic
namespace Go.Proofs.Ytfjlgdafakbdoaa
open Go.RowKit

/-- block g has n cells, cell i holds f i -/
def Cells (w : World) (g : Nat) (t : TypeId) (n : Nat) (f : Nat → Value) : Prop := ∃ cs, Blk w g t cs ∧ cs.size = n ∧ ∀ i, i < n → cs[i]? = some (f i)

def putV (f : Nat → Value) (i : Nat) (v : Value) : Nat → Value := fun j => if j = i then v else f j
def putR (f : Nat → Value) (o : Nat) (vs : List Value) : Nat → Value := fun j => if o ≤ j ∧ j < o + vs.length then vs.getD (j - o) undef else f j

section
variable {w w' : World} {g n : Nat} {t : TypeId} {f f' : Nat → Value}
theorem Cells.lt (h : Cells w g t n f) : g < w.heap.size := by obtain ⟨_, h, _⟩ := h; exact h.lt
theorem Cells.cell (h : Cells w g t n f) (i : Nat) (hi : i < n) : w.cell? ⟨g, i, none⟩ = some (f i) := by
  obtain ⟨cs, h1, _, h3⟩ := h; rw [h1.cell i]; exact h3 i hi
theorem Cells.frozen (h : Cells w g t n f) (i : Nat) : w.frozen? ⟨g, i, none⟩ = false := by
  obtain ⟨cs, h1, _⟩ := h; exact h1.frozen i
theorem Cells.drew (h : Cells w g t n f) : Cells w.drew g t n f := h
theorem Cells.drewN (h : Cells w g t n f) (k : Nat) : Cells (w.drewN k) g t n f := h
theorem Cells.alloc (h : Cells w g t n f) (o : Obj) : Cells (w.alloc o) g t n f := by
  obtain ⟨cs, h1, h2⟩ := h; exact ⟨cs, h1.alloc o, h2⟩
theorem Cells.far (h : Cells w g t n f) {p : Addr} (hp : g ≠ p.block) (u : Value) : Cells (w.setCell p u) g t n f := by
  obtain ⟨cs, h1, h2⟩ := h; exact ⟨cs, h1.far hp u, h2⟩
theorem Cells.fr {S : Nat → Prop} (h : Cells w g t n f) (k : Fr S w w') (hn : ¬ S g) : Cells w' g t n f := by
  obtain ⟨cs, h1, h2⟩ := h; exact ⟨cs, h1.fr k hn, h2⟩
theorem Cells.congr (h : Cells w g t n f) (e : ∀ i, i < n → f i = f' i) : Cells w g t n f' := by
  obtain ⟨cs, h1, h2, h3⟩ := h; exact ⟨cs, h1, h2, fun i hi => by rw [h3 i hi, e i hi]⟩
theorem Cells.set_ (h : Cells w g t n f) (i : Nat) (v : Value) : Cells (w.setCell ⟨g, i, none⟩ v) g t n (putV f i v) := by
  obtain ⟨cs, h1, h2, h3⟩ := h
  refine ⟨_, h1.set_ i v, by simp [h2], fun j hj => ?_⟩
  rw [Array.getElem?_setIfInBounds]
  by_cases e : i = j
  · subst e; simp [putV, h2, hj]
  · rw [if_neg e, h3 j hj, putV, if_neg (fun h => e h.symm)]
theorem setCells_cons (w : World) (g o : Nat) (v : Value) (vs : List Value) : w.setCells g o (v :: vs) = (w.setCell ⟨g, o, none⟩ v).setCells g (o + 1) vs := rfl
theorem putR_cons (f : Nat → Value) (o : Nat) (v : Value) (vs : List Value) : putR (putV f o v) (o + 1) vs = putR f o (v :: vs) := by
  funext j
  unfold putR putV
  by_cases e : j = o
  · subst e
    rw [if_neg (by omega), if_pos rfl, if_pos (by simp)]
    simp
  · by_cases h : o + 1 ≤ j ∧ j < o + 1 + vs.length
    · rw [if_pos h, if_pos (by simp; omega), show j - o = (j - (o + 1)) + 1 by omega]
      simp
    · rw [if_neg h, if_neg e, if_neg (by simp; omega)]
theorem Cells.setCells (vs : List Value) : ∀ {w : World} {f : Nat → Value} (o : Nat), Cells w g t n f → Cells (w.setCells g o vs) g t n (putR f o vs) := by
  induction vs with
  | nil => intro w f o h; exact h.congr (fun i _ => by unfold putR; rw [if_neg (by rintro ⟨h1, h2⟩; simp at h2; omega)])
  | cons v vs ih =>
    intro w f o h
    rw [setCells_cons, ← putR_cons]
    exact ih (o + 1) (h.set_ o v)
theorem Fr.setRow {S : Nat → Prop} {a : World} {g : Nat} (vs : List Value) : ∀ {w : World} (o : Nat), Fr S a w → S g ∨ a.heap.size ≤ g → Fr S a (w.setCells g o vs) := by
  induction vs with
  | nil => intro w o h _; exact h
  | cons v vs ih =>
    intro w o h hg
    rw [setCells_cons]
    exact ih (o + 1) (h.setCell (p := ⟨g, o, none⟩) hg v) hg
theorem Cells.rangeAt (h : Cells w g t n f) (o : Nat) (vs : List Value) (hn : o + vs.length ≤ n) (e : ∀ j, j < vs.length → vs[j]? = some (f (o + j))) : w.rangeAt g o vs := fun j v hv => by
  have hj : j < vs.length := (List.getElem?_eq_some_iff.1 hv).1
  rw [h.cell (o + j) (by omega), ← hv, e j hj]
theorem Cells.there (h : Cells w g t n f) (o k : Nat) (hn : o + k ≤ n) : w.there g o k := fun j hj =>
  ⟨by rw [h.cell (o + j) (by omega)]; rfl, h.frozen _⟩
theorem Cells.new (w : World) (t : TypeId) (cs : Array Value) (f : Nat → Value) (h : ∀ i, i < cs.size → cs[i]? = some (f i)) : Cells (w.alloc (.cells cs t)) w.heap.size t cs.size f := ⟨cs, Blk.new _ _ _, rfl, h⟩
theorem Cells.new' (w : World) (t : TypeId) (cs : Array Value) (n : Nat) (f : Nat → Value) (h : cs.toList = (List.range n).map f) : Cells (w.alloc (.cells cs t)) w.heap.size t n f := by
  refine ⟨cs, Blk.new _ _ _, by rw [← Array.length_toList, h]; simp, fun i hi => ?_⟩
  rw [← Array.getElem?_toList, h]
  simp [hi]
theorem Cells.ne {g' n' : Nat} {t' : TypeId} {f' : Nat → Value} (h : Cells w g t n f) (h' : Cells w g' t' n' f') (hne : t ≠ t') : g ≠ g' := by
  rintro rfl
  obtain ⟨cs, h1, _⟩ := h
  obtain ⟨cs', h1', _⟩ := h'
  unfold Blk at h1 h1'
  rw [h1] at h1'
  injection h1' with e
  injection e with _ e2
  exact hne e2
end

theorem quiet_same {P : Program} {f : FuncId} {args : Array Value} {w : World} {n : Nat} {v : Value}
    (h : Calls P f args (w.drewN n) fun e w' => e = .returned v ∧ w.drewN n = w') : Calls P f args (w.drewN n) fun e w'' => e = .returned v ∧ ∃ m, w'' = w.drewN m :=
  h.mono fun _ _ ⟨he, hm⟩ => ⟨he, n, hm.symm⟩

theorem run_index_agg {P : Program} (w : World) (t e : TypeId) (n s : Nat) (cs : List Value) (i : Nat) (d : TypeDesc) (h : P.underlying t = some (.array n e)) (hi : i < n) (hu : P.underlying e = some d) (hd : d.isRow = true) (hs : (P.info? e).map (·.size) = some s) (k : IntKind) :
    (Instr.index t (.agg cs.toArray) (.int k (i : Int))).run P w = .ok (.agg ((cs.drop (i * s)).take s).toArray) w := by
  have hn : 0 ≤ (i : Int) ∧ (i : Int) < (n : Int) := by omega
  cases hq : P.info? e with
  | none => simp [hq] at hs
  | some inf =>
    have hs' : inf.size = s := by simpa [hq] using hs
    have hagg : (isAgg e).run P w = .ok true w := by
      unfold isAgg
      rw [Sem.run_bind, run_underlying hu w]
      cases d <;> simp_all
    simp [Instr.index, run_underlying h, asIntOf, hi, part, Sem.run_bind, hagg, sizeOf, typeInfo, hq, hs']
theorem run_index_one {P : Program} (w : World) (t e : TypeId) (n : Nat) (cs : List Value) (i : Nat) (v : Value) (d : TypeDesc) (h : P.underlying t = some (.array n e)) (hi : i < n) (hu : P.underlying e = some d) (hd : d.isRow = false) (hs : (P.info? e).map (·.size) = some 1) (hv : cs[i]? = some v) (k : IntKind) :
    (Instr.index t (.agg cs.toArray) (.int k (i : Int))).run P w = .ok v w := by
  cases hq : P.info? e with
  | none => simp [hq] at hs
  | some inf =>
    have hs' : inf.size = 1 := by simpa [hq] using hs
    have hagg : (isAgg e).run P w = .ok false w := by
      unfold isAgg
      rw [Sem.run_bind, run_underlying hu w]
      cases d <;> simp_all
    simp [Instr.index, run_underlying h, asIntOf, hi, part, Sem.run_bind, hagg, sizeOf, typeInfo, hq, hs', hv]

/-- a variable that was boxed is as it was -/
theorem Fr.boxedN {S : Nat → Prop} {w w' : World} {t : TypeId} {cs : Array Value} (f : Fr S (w.alloc (.cells cs t)).drew w') (hs : ¬ S w.heap.size) (i : Nat) : w'.cell? ⟨w.heap.size, i, none⟩ = cs[i]? :=
  f.cell (w := (w.alloc (.cells cs t)).drew) ((Blk.new w t cs).cell i) (by show w.heap.size < (w.alloc _).heap.size; simp) hs
theorem Fr.boxed4 {S : Nat → Prop} {w w' : World} {t : TypeId} {a b c d : Value} (f : Fr S (w.alloc (.cells #[a, b, c, d] t)).drew w') (hs : ¬ S w.heap.size) :
    w'.cell? ⟨w.heap.size, 0, none⟩ = some a ∧ w'.cell? ⟨w.heap.size, 1, none⟩ = some b ∧ w'.cell? ⟨w.heap.size, 2, none⟩ = some c ∧ w'.cell? ⟨w.heap.size, 3, none⟩ = some d :=
  ⟨f.boxedN hs 0, f.boxedN hs 1, f.boxedN hs 2, f.boxedN hs 3⟩
theorem Fr.boxed6 {S : Nat → Prop} {w w' : World} {t : TypeId} {a b c d x y : Value} (f : Fr S (w.alloc (.cells #[a, b, c, d, x, y] t)).drew w') (hs : ¬ S w.heap.size) :
    w'.cell? ⟨w.heap.size, 0, none⟩ = some a ∧ w'.cell? ⟨w.heap.size, 1, none⟩ = some b ∧ w'.cell? ⟨w.heap.size, 2, none⟩ = some c ∧ w'.cell? ⟨w.heap.size, 3, none⟩ = some d ∧ w'.cell? ⟨w.heap.size, 4, none⟩ = some x ∧ w'.cell? ⟨w.heap.size, 5, none⟩ = some y :=
  ⟨f.boxedN hs 0, f.boxedN hs 1, f.boxedN hs 2, f.boxedN hs 3, f.boxedN hs 4, f.boxedN hs 5⟩
end Go.Proofs.Ytfjlgdafakbdoaa
