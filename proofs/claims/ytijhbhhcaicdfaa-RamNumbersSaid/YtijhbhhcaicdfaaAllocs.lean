/- A region that draws its order: several operations that only make memory come first, in any order: what is made, wherever it lies. -/
import Derived.Test.YtijhbhhcaicdfaaWords
import Derived.Orders
import Derived.RegionTactic
namespace Go.Proofs.Ytijhbhhcaicdfaa
open Go.RowKit
section
variable {P : Program} {ops : Array Oper} {Q : Exit → Act → World → Prop} {md : Region.Mode}

def setAll (bo : Nat → Nat) (l : List Nat) (listed : Array Bool) : Array Bool := l.foldl (fun l i => (l.setIfInBounds i true).setIfInBounds (bo i) true) listed
def putAll (D Db : Nat → Tmp) (V Vb : Nat → Value) (l : List Nat) (a : Act) : Act := l.foldl (fun a i => (a.put (some (D i)) (V i)).put (some (Db i)) (Vb i)) a
/-- whichever of the listed comes, what waits for it may come at once, and then the others are those that may come next -/
def chkAllocs (bo : Nat → Nat) (md : Region.Mode) (ops : Array Oper) : Nat → List Nat → Array Bool → Bool
  | 0, _, _ => true
  | n + 1, todo, listed => !(Region.ready md ops listed).isEmpty && (Region.ready md ops listed).all fun i => todo.contains i && Region.free md ops (listed.setIfInBounds i true) (bo i) &&
      (Region.ready md ops (listed.setIfInBounds i true)).contains (bo i) && chkAllocs bo md ops n (todo.erase i) ((listed.setIfInBounds i true).setIfInBounds (bo i) true)
/-- what is made lies somewhere -/
structure Made (l : List Nat) (g : Nat → Nat) (O : Nat → Obj) (w w' : World) : Prop where
  fr : Fr (fun _ => False) w w'
  at_ : ∀ i ∈ l, w.heap.size ≤ g i ∧ w'.heap[g i]? = some (O i)
  ne : ∀ i ∈ l, ∀ j ∈ l, i ≠ j → g i ≠ g j

theorem foldl_same {α β : Type} {f h : α → β → α} : ∀ {l : List β}, (∀ a, ∀ b ∈ l, f a b = h a b) → ∀ a, l.foldl f a = l.foldl h a := by
  intro l
  induction l with
  | nil => intro _ a; rfl
  | cons x l ih =>
    intro H a
    rw [List.foldl_cons, List.foldl_cons, H a x (List.mem_cons_self ..)]
    exact ih (fun a b hb => H a b (List.mem_cons_of_mem _ hb)) _
theorem put2_comm (a : Act) {x x' y y' : Tmp} (v v' u u' : Value) (h1 : x ≠ y) (h2 : x ≠ y') (h3 : x' ≠ y) (h4 : x' ≠ y') :
    (((a.put (some x) v).put (some x') v').put (some y) u).put (some y') u' = (((a.put (some y) u).put (some y') u').put (some x) v).put (some x') v' := by
  have hc : ∀ (a : Act) {p q : Tmp} (v u : Value), p ≠ q → (a.put (some p) v).put (some q) u = (a.put (some q) u).put (some p) v := fun a p q v u hpq =>
    Act.put_comm a v u (fun d e e2 => hpq (by injection e with e; injection e2 with e2; exact e.trans e2.symm))
  rw [hc (a.put (some x) v) v' u h3, hc a v u h1, hc ((a.put (some y) u).put (some x) v) v' u' h4, hc (a.put (some y) u) v u' h2]
theorem put_size (a : Act) (d : Option Tmp) (v : Value) : (a.put d v).tmps.size = a.tmps.size := by
  cases d <;> simp [Act.put]
theorem wpOp_of {i : Nat} {o : Oper} {K : Act → World → Prop} {a : Act} {w : World} (ho : ops[i]? = some o) (hg : o.guard = none) (h : o.wp P a w K Q) : wpOp P ops Q i K a w := by
  unfold wpOp
  rw [ho]
  dsimp only
  rw [if_pos (by simp [Region.wanted, hg])]
  exact .inl h

theorem wpAny_allocs (N : Nat) (bo : Nat → Nat) (D Db : Nat → Tmp) (V Vb : Nat → Nat → Value) (O : Nat → Obj) (hsel : Region.noSelect ops = true) (hQ : ∀ c (a : Act) d v w, Q (.panic c) (a.put (some d) v) w → Q (.panic c) a w) :
    ∀ (n : Nat) (todo : List Nat) (fuel : Nat) (listed : Array Bool) (a : Act) (w : World), todo.length = n → todo.Nodup → a.tmps.size = N →
    (∀ i ∈ todo, ∀ j ∈ todo, i ≠ j → D i ≠ D j ∧ D i ≠ Db j ∧ Db i ≠ D j ∧ Db i ≠ Db j) → (∀ i ∈ todo, ∀ j ∈ todo, i ≠ j → i ≠ bo j ∧ bo i ≠ bo j) →
    (∀ i ∈ todo, ∀ (a : Act) (w : World) (K : Act → World → Prop), K (a.put (some (D i)) (V i w.heap.size)) (w.alloc (O i)) → wpOp P ops Q i K a w) →
    (∀ i ∈ todo, ∃ o, ops[bo i]? = some o ∧ o.dst = some (Db i) ∧ ∀ (a : Act) g, a.tmps.size = N → Yields P ops o (Vb i g) (a.put (some (D i)) (V i g))) →
    chkAllocs bo md ops n todo listed = true →
    (∀ g w', Made todo g O w w' → wpAny P md ops Q fuel (setAll bo todo listed) (putAll D Db (fun i => V i (g i)) (fun i => Vb i (g i)) todo a) w') →
    wpAny P md ops Q (2 * n + fuel) listed a w := by
  intro n
  induction n with
  | zero =>
    intro todo fuel listed a w hn _ _ _ _ _ _ _ H
    obtain rfl : todo = [] := List.eq_nil_of_length_eq_zero hn
    have := H (fun _ => 0) w ⟨Fr.refl _ _, fun i hi => by simp at hi, fun i hi => by simp at hi⟩
    rw [Nat.mul_zero, Nat.zero_add]
    exact this
  | succ n ih =>
    intro todo fuel listed a w hn hnd hN hD hB hstep hb hc H
    rw [chkAllocs, Bool.and_eq_true, List.all_eq_true] at hc
    obtain ⟨hne, hall⟩ := hc
    rw [show 2 * (n + 1) + fuel = (2 * n + fuel + 1) + 1 by omega]
    refine ⟨fun h0 => by rw [h0] at hne; simp at hne, fun i hi => ?_⟩
    have h1 := hall i hi
    rw [Bool.and_eq_true, Bool.and_eq_true, Bool.and_eq_true] at h1
    obtain ⟨⟨⟨hi1, hfree⟩, hcon⟩, hc'⟩ := h1
    have hit : i ∈ todo := by simpa using hi1
    have hp : todo.Perm (i :: todo.erase i) := List.perm_cons_erase hit
    have hni : i ∉ todo.erase i := fun h => by
      have := (hp.nodup_iff.1 hnd)
      exact (List.nodup_cons.1 this).1 h
    obtain ⟨o, ho, hdst, hy⟩ := hb i hit
    refine hstep i hit a w _ ?_
    refine wpAny_take (i := bo i) (oi := o) (v := Vb i w.heap.size) ho hsel hfree hcon (fun c a w h => hQ c a (Db i) _ w (by rw [hdst] at h; exact h)) (hy a w.heap.size hN) ?_
    rw [hdst]
    refine ih (todo.erase i) fuel _ _ _ (by rw [List.length_erase_of_mem hit]; omega) (hnd.erase i) (by rw [put_size, put_size]; exact hN) (fun x hx y hy => hD x (List.mem_of_mem_erase hx) y (List.mem_of_mem_erase hy)) (fun x hx y hy => hB x (List.mem_of_mem_erase hx) y (List.mem_of_mem_erase hy)) (fun j hj => hstep j (List.mem_of_mem_erase hj)) (fun j hj => hb j (List.mem_of_mem_erase hj)) hc' ?_
    intro g' w' hM
    have hsz : (w.alloc (O i)).heap.size = w.heap.size + 1 := by simp
    have hg := H (fun j => if j = i then w.heap.size else g' j) w' ⟨((Fr.refl _ w).alloc _).tr hM.fr, fun j hj => by
        by_cases e : j = i
        · subst e
          rw [if_pos rfl]
          exact ⟨Nat.le_refl _, (hM.fr.block _ (by omega) (fun e => e)).trans (heap_alloc_new w _)⟩
        · rw [if_neg e]
          have := hM.at_ j ((List.mem_erase_of_ne e).2 hj)
          exact ⟨by omega, this.2⟩, fun j hj k hk hjk => by
        by_cases e1 : j = i
        · rw [if_pos e1, if_neg (fun e2 => hjk (e1.trans e2.symm))]
          have := (hM.at_ k ((List.mem_erase_of_ne (fun e2 => hjk (e1.trans e2.symm))).2 hk)).1
          omega
        · by_cases e2 : k = i
          · rw [if_neg e1, if_pos e2]
            have := (hM.at_ j ((List.mem_erase_of_ne e1).2 hj)).1
            omega
          · rw [if_neg e1, if_neg e2]
            exact hM.ne j ((List.mem_erase_of_ne e1).2 hj) k ((List.mem_erase_of_ne e2).2 hk) hjk⟩
    have e1 : setAll bo todo listed = setAll bo (todo.erase i) ((listed.setIfInBounds i true).setIfInBounds (bo i) true) :=
      hp.foldl_eq' (fun x hx y hy z => by
        have sc : ∀ (z : Array Bool) (p q : Nat), (z.setIfInBounds p true).setIfInBounds q true = (z.setIfInBounds q true).setIfInBounds p true := fun z p q => by
          by_cases e : p = q
          · subst e; rfl
          · exact Array.setIfInBounds_comm _ _ e
        rw [sc (z.setIfInBounds x true) (bo x) y, sc z x y, sc ((z.setIfInBounds y true).setIfInBounds x true) (bo x) (bo y), sc (z.setIfInBounds y true) x (bo y)]) listed
    have e2 : putAll D Db (fun j => V j (if j = i then w.heap.size else g' j)) (fun j => Vb j (if j = i then w.heap.size else g' j)) todo a = putAll D Db (fun j => V j (g' j)) (fun j => Vb j (g' j)) (todo.erase i) ((a.put (some (D i)) (V i w.heap.size)).put (some (Db i)) (Vb i w.heap.size)) := by
      unfold putAll
      rw [hp.foldl_eq' (fun x hx y hy z => by
        by_cases e : x = y
        · subst e; rfl
        · obtain ⟨q1, q2, q3, q4⟩ := hD x hx y hy e
          exact put2_comm _ _ _ _ _ q1 q2 q3 q4) a]
      rw [List.foldl_cons]
      dsimp only
      rw [if_pos rfl]
      exact foldl_same (fun b j hj => by
        have hne : j ≠ i := fun e => hni (e ▸ hj)
        simp [hne]) _
    rw [e1, e2] at hg
    exact hg
end
end Go.Proofs.Ytijhbhhcaicdfaa
