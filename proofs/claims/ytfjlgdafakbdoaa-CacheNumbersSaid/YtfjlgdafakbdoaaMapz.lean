/- Maps as lists of entries, in the order in which they were put: look, store, delete, range, next. -/
import Derived.Test.YtfjlgdafakbdoaaWords
import Derived.Maps.RangeWalk
import Derived.DeepKeys5
namespace Go.Proofs.Ytfjlgdafakbdoaa.Mz
open Go.RowKit Go.Maps
open Go.ChangeMaps (setBlock)
set_option linter.unusedVariables false
set_option linter.unusedSectionVars false

def ents {κ : Type} (mk : κ → Value) : List (κ × Value) → List Nat → List MapEntry
  | p :: L, b :: bs => ⟨mk p.1, p.2, b⟩ :: ents mk L bs
  | _, _ => []
variable {κ : Type} [DecidableEq κ] {P : Program} {k : TypeId} {mk : κ → Value}
theorem ents_len (L : List (κ × Value)) : ∀ bs : List Nat, bs.length = L.length → (ents mk L bs).length = L.length := by
  induction L with
  | nil => intro bs h; cases bs <;> simp [ents] at h ⊢
  | cons p L ih =>
    intro bs h
    cases bs with
    | nil => simp at h
    | cons b bs => simp [ents, ih bs (by simpa using h)]
theorem ents_at (L : List (κ × Value)) : ∀ (bs : List Nat), bs.length = L.length → ∀ i (hi : i < L.length) (hb : i < bs.length), (ents mk L bs)[i]? = some ⟨mk L[i].1, L[i].2, bs[i]⟩ := by
  induction L with
  | nil => intro bs h i hi; simp at hi
  | cons p L ih =>
    intro bs h i hi hb
    cases bs with
    | nil => simp at h
    | cons b bs =>
      cases i with
      | zero => simp [ents]
      | succ i => simpa [ents] using ih bs (by simpa using h) i (by simpa using hi) (by simpa using hb)
theorem ents_mem {L : List (κ × Value)} {bs : List Nat} (h : bs.length = L.length) {e : MapEntry} (he : e ∈ ents mk L bs) : ∃ i, ∃ (hi : i < L.length) (hb : i < bs.length), e = ⟨mk L[i].1, L[i].2, bs[i]⟩ := by
  obtain ⟨i, hi, rfl⟩ := List.getElem_of_mem he
  have hi' : i < L.length := by rwa [ents_len L bs h] at hi
  have hb : i < bs.length := by omega
  refine ⟨i, hi', hb, ?_⟩
  have := ents_at (mk := mk) L bs h i hi' hb
  rw [List.getElem?_eq_getElem hi] at this
  exact Option.some.inj this
theorem ents_born (L : List (κ × Value)) : ∀ (bs : List Nat), bs.length = L.length → (ents mk L bs).map (·.born) = bs := by
  induction L with
  | nil => intro bs h; cases bs <;> simp [ents] at h ⊢
  | cons p L ih =>
    intro bs h
    cases bs with
    | nil => simp at h
    | cons b bs => simp [ents, ih bs (by simpa using h)]
/-- block g is a map with these entries; bs: when each was put -/
structure MapL (P : Program) (k : TypeId) (mk : κ → Value) (w : World) (g : Nat) (L : List (κ × Value)) (bs : List Nat) (clock : Nat) : Prop where
  b : w.heap[g]? = some (.map (ents mk L bs).toArray clock)
  len : bs.length = L.length
  nd : bs.Nodup
  lt : ∀ x ∈ bs, x < clock
  keys : ∀ p ∈ L, ∃ l, keyOf P k (mk p.1) = some l
  kd : (L.map (·.1)).Nodup
def lk (L : List (κ × Value)) (x : κ) : Option Value := (L.find? (fun p => decide (p.1 = x))).map (·.2)
def has (L : List (κ × Value)) (x : κ) : Bool := L.any (fun p => decide (p.1 = x))
def rep (L : List (κ × Value)) (x : κ) (v : Value) : List (κ × Value) := L.map (fun p => if p.1 = x then (p.1, v) else p)
def del (L : List (κ × Value)) (x : κ) : List (κ × Value) := L.filter (fun p => !decide (p.1 = x))
section
variable {w w' : World} {g : Nat} {L : List (κ × Value)} {bs : List Nat} {clock : Nat} {S : Nat → Prop}
theorem MapL.bound (h : MapL P k mk w g L bs clock) : g < w.heap.size := (Array.getElem?_eq_some_iff.1 h.b).1
theorem MapL.fr (h : MapL P k mk w g L bs clock) (f : Fr S w w') (hn : ¬ S g) : MapL P k mk w' g L bs clock := ⟨(f.block g h.bound hn).trans h.b, h.len, h.nd, h.lt, h.keys, h.kd⟩
theorem MapL.made (w : World) : MapL P k mk (w.alloc (.map #[] 0)) w.heap.size ([] : List (κ × Value)) [] 0 := by
  refine ⟨?_, rfl, List.nodup_nil, by simp, by simp, by simp⟩
  show (w.heap.push _)[w.heap.size]? = _
  simp [ents]
theorem MapL.ekeys (h : MapL P k mk w g L bs clock) : ∀ e ∈ ents mk L bs, ∃ l, keyOf P k e.key = some l := fun e he => by
  obtain ⟨i, hi, hb, rfl⟩ := ents_mem h.len he
  exact h.keys _ (List.getElem_mem hi)
/-- which entry has a key -/
theorem MapL.find (h : MapL P k mk w g L bs clock) (K : Keyed P k) (inj : ∀ a b, mk a = mk b → a = b) (W : World) {x : κ} {l : Lit} (hx : keyOf P k (mk x) = some l) :
    (has L x = false ∧ (Instr.findKey k (mk x) (ents mk L bs)).run P W = .ok none W) ∨ ∃ j, ∃ hj : j < L.length, L[j].1 = x ∧ has L x = true ∧ (Instr.findKey k (mk x) (ents mk L bs)).run P W = .ok (some (j, L[j].2)) W := by
  rcases K.find W hx (ents mk L bs) h.ekeys with ⟨h1, h2⟩ | ⟨j, e, h1, h2, h3⟩
  · left
    refine ⟨?_, h1⟩
    unfold has
    rw [List.any_eq_false]
    intro p hp hd
    obtain ⟨i, hi, rfl⟩ := List.getElem_of_mem hp
    have := ents_at (mk := mk) L bs h.len i hi (by rw [h.len]; exact hi)
    have := h2 _ (List.mem_of_getElem? this)
    exact this (by rw [of_decide_eq_true hd])
  · right
    obtain ⟨hj, he⟩ := List.getElem?_eq_some_iff.1 h2
    have hj' : j < L.length := by rwa [ents_len L bs h.len] at hj
    have he2 := ents_at (mk := mk) L bs h.len j hj' (by rw [h.len]; exact hj')
    rw [h2] at he2
    have he2 := Option.some.inj he2
    subst he2
    have hk := inj _ _ h3
    refine ⟨j, hj', hk, ?_, h1⟩
    unfold has
    rw [List.any_eq_true]
    exact ⟨L[j], List.getElem_mem hj', by simpa using hk⟩
theorem lk_none {x : κ} (h : has L x = false) : lk L x = none := by
  unfold has at h
  rw [List.any_eq_false] at h
  unfold lk
  rw [List.find?_eq_none.2 (fun p hp => h p hp)]
  rfl
theorem lk_at (hn : (L.map (·.1)).Nodup) {j : Nat} (hj : j < L.length) : lk L L[j].1 = some L[j].2 := by
  induction L generalizing j with
  | nil => simp at hj
  | cons p L ih =>
    unfold lk
    rw [List.map_cons, List.nodup_cons] at hn
    cases j with
    | zero => simp
    | succ j =>
      have hj' : j < L.length := by simpa using hj
      have hne : decide (p.1 = L[j].1) = false := by
        rw [decide_eq_false_iff_not]
        intro e
        exact hn.1 (by rw [e]; exact List.mem_map_of_mem (List.getElem_mem hj'))
      rw [List.getElem_cons_succ, List.find?_cons, hne]
      exact ih hn.2 hj'
/-- m[k] -/
theorem MapL.look (h : MapL P k mk w g L bs clock) (K : Keyed P k) (inj : ∀ a b, mk a = mk b → a = b) {t e : TypeId} (ht : P.underlying t = some (.map k e)) {z : Value} (hz : (zeroValue e).run P w = .ok z w) {x : κ} {l : Lit} (hx : keyOf P k (mk x) = some l) (c : Bool) :
    (Instr.lookup t (.map (some g)) (mk x) c).run P w = .ok (if c then .tuple #[(lk L x).getD z, .bool (has L x)] else (lk L x).getD z) w := by
  rcases h.find K inj w hx with ⟨h1, h2⟩ | ⟨j, hj, h1, h3, h2⟩
  · rw [lk_none h1, h1]
    simp [Instr.lookup, run_underlying ht, MapKept.run_getObj_map h.b, K.check w _ hx, h2, hz, Result.andThen]
  · have := lk_at h.kd hj
    rw [h1] at this
    rw [this, h3]
    simp [Instr.lookup, run_underlying ht, MapKept.run_getObj_map h.b, K.check w _ hx, h2, Result.andThen]
theorem set_heap (hb : ∃ es c, w.heap[g]? = some (.map es c)) (o : Obj) : (setBlock w g o).heap[g]? = some o ∧ Fr (· = g) w (setBlock w g o) := by
  obtain ⟨es, c, hb⟩ := hb
  have hl := (Array.getElem?_eq_some_iff.1 hb).1
  refine ⟨by simp [setBlock, hl], ⟨rfl, rfl, rfl, by simp [setBlock], fun i hi hn => ?_⟩⟩
  show (w.heap.setIfInBounds g o)[i]? = _
  rw [Array.getElem?_setIfInBounds_ne (fun e => hn e.symm)]
end
theorem modify_same {α : Type} : ∀ (l : List α) (j : Nat) (f f' : α → α) (a : α), l[j]? = some a → f a = f' a → l.modify j f = l.modify j f'
  | [], j, f, f', a, h, _ => by simp at h
  | b :: l, 0, f, f', a, h, e => by
    have : b = a := by simpa using h
    subst this
    simp [e]
  | b :: l, j + 1, f, f', a, h, e => by
    have := modify_same l j f f' a (by simpa using h) e
    simpa using this
theorem rep_no {L : List (κ × Value)} {x : κ} (h : ∀ p ∈ L, p.1 ≠ x) (v : Value) : rep L x v = L := by
  unfold rep
  induction L with
  | nil => rfl
  | cons p L ih =>
    rw [List.map_cons, if_neg (h p (by simp)), ih (fun q hq => h q (by simp [hq]))]
theorem rep_keys (L : List (κ × Value)) (x : κ) (v : Value) : (rep L x v).map (·.1) = L.map (·.1) := by
  unfold rep
  rw [List.map_map]
  refine List.map_congr_left (fun p _ => ?_)
  show (if p.1 = x then (p.1, v) else p).1 = p.1
  split <;> rfl
theorem rep_len (L : List (κ × Value)) (x : κ) (v : Value) : (rep L x v).length = L.length := by simp [rep]
theorem ents_rep (L : List (κ × Value)) : (L.map (·.1)).Nodup → ∀ (bs : List Nat), bs.length = L.length → ∀ j (hj : j < L.length) (v : Value), ents mk (rep L L[j].1 v) bs = (ents mk L bs).modify j (fun e => { e with val := v }) := by
  induction L with
  | nil => intro _ bs _ j hj; simp at hj
  | cons p L ih =>
    intro hn bs h j hj v
    rw [List.map_cons, List.nodup_cons] at hn
    cases bs with
    | nil => simp at h
    | cons b bs =>
      cases j with
      | zero =>
        have e : rep (p :: L) p.1 v = (p.1, v) :: L := by
          show (if p.1 = p.1 then (p.1, v) else p) :: rep L p.1 v = _
          rw [if_pos rfl, rep_no (fun q hq e => hn.1 (by rw [← e]; exact List.mem_map_of_mem hq))]
        show ents mk (rep (p :: L) p.1 v) (b :: bs) = _
        rw [e]
        rfl
      | succ j =>
        have hj' : j < L.length := by simpa using hj
        have e : rep (p :: L) L[j].1 v = p :: rep L L[j].1 v := by
          show (if p.1 = L[j].1 then (p.1, v) else p) :: rep L L[j].1 v = _
          rw [if_neg (fun e => hn.1 (by rw [e]; exact List.mem_map_of_mem (List.getElem_mem hj')))]
        show ents mk (rep (p :: L) L[j].1 v) (b :: bs) = _
        rw [e]
        show _ :: ents mk (rep L L[j].1 v) bs = _ :: (ents mk L bs).modify j _
        rw [ih hn.2 bs (by simpa using h) j hj' v]
theorem ents_snoc (L : List (κ × Value)) (p : κ × Value) (b : Nat) : ∀ (bs : List Nat), bs.length = L.length → ents mk (L ++ [p]) (bs ++ [b]) = ents mk L bs ++ [⟨mk p.1, p.2, b⟩] := by
  induction L with
  | nil => intro bs h; cases bs <;> simp [ents] at h ⊢
  | cons q L ih =>
    intro bs h
    cases bs with
    | nil => simp at h
    | cons c bs => simp [ents, ih bs (by simpa using h)]
theorem ents_erase (L : List (κ × Value)) : ∀ (bs : List Nat), bs.length = L.length → ∀ j, ents mk (L.eraseIdx j) (bs.eraseIdx j) = (ents mk L bs).eraseIdx j := by
  induction L with
  | nil => intro bs h j; cases bs <;> simp [ents] at h ⊢
  | cons q L ih =>
    intro bs h j
    cases bs with
    | nil => simp at h
    | cons c bs =>
      cases j with
      | zero => simp [ents]
      | succ j => simp [ents, ih bs (by simpa using h)]
theorem del_at {L : List (κ × Value)} (hn : (L.map (·.1)).Nodup) : ∀ j (hj : j < L.length), del L L[j].1 = L.eraseIdx j := by
  induction L with
  | nil => intro j hj; simp at hj
  | cons p L ih =>
    intro j hj
    rw [List.map_cons, List.nodup_cons] at hn
    cases j with
    | zero =>
      show del (p :: L) p.1 = L
      unfold del
      rw [List.filter_cons, if_neg (by simp)]
      refine List.filter_eq_self.2 (fun q hq => ?_)
      have : q.1 ≠ p.1 := fun e => hn.1 (by rw [← e]; exact List.mem_map_of_mem hq)
      simpa using this
    | succ j =>
      have hj' : j < L.length := by simpa using hj
      have hne : p.1 ≠ L[j].1 := fun e => hn.1 (by rw [e]; exact List.mem_map_of_mem (List.getElem_mem hj'))
      show del (p :: L) L[j].1 = p :: L.eraseIdx j
      rw [← ih hn.2 j hj']
      unfold del
      rw [List.filter_cons, if_pos (by simpa using hne)]
theorem del_no {L : List (κ × Value)} {x : κ} (h : has L x = false) : del L x = L := by
  unfold has at h
  rw [List.any_eq_false] at h
  unfold del
  refine List.filter_eq_self.2 (fun q hq => ?_)
  simpa using h q hq
section
variable {w w' : World} {g : Nat} {L : List (κ × Value)} {bs : List Nat} {clock : Nat}
/-- m[k] = v, at a key that is there -/
theorem MapL.store_old (h : MapL P k mk w g L bs clock) (K : Keyed P k) (inj : ∀ a b, mk a = mk b → a = b) {t e : TypeId} (ht : P.underlying t = some (.map k e)) {x : κ} {l : Lit} (hx : keyOf P k (mk x) = some l) (hin : has L x = true) (v : Value) :
    ∃ w', (Instr.mapUpdate t (.map (some g)) (mk x) v).run P w = .ok () w' ∧ MapL P k mk w' g (rep L x v) bs clock ∧ Fr (· = g) w w' := by
  rcases h.find K inj w hx with ⟨h1, h2⟩ | ⟨j, hj, h1, h3, h2⟩
  · rw [hin] at h1; simp at h1
  · obtain ⟨s1, s2⟩ := set_heap ⟨_, _, h.b⟩ (.map (ents mk (rep L x v) bs).toArray clock)
    have hat := ents_at (mk := mk) L bs h.len j hj (by rw [h.len]; exact hj)
    have hen := ents_rep (mk := mk) L h.kd bs h.len j hj v
    rw [h1] at hen
    have hst := K.stays w hx
    refine ⟨setBlock w g (.map (ents mk (rep L x v) bs).toArray clock), ?_, ⟨s1, by rw [rep_len]; exact h.len, h.nd, h.lt, fun p hp => ?_, by rw [rep_keys]; exact h.kd⟩, s2⟩
    · have hkey : (((ents mk L bs).toArray[j]?).map (·.key)).getD (mk x) = mk x := by
        rw [List.getElem?_toArray, hat]
        show mk L[j].1 = mk x
        rw [h1]
      have hmod : (ents mk L bs).toArray.modify j (fun e => { e with key := mk x, val := v }) = (ents mk (rep L x v) bs).toArray := by
        rw [hen]
        apply Array.toList_inj.1
        rw [Array.toList_modify]
        exact modify_same (ents mk L bs) j _ _ _ hat (by show (⟨mk x, v, _⟩ : MapEntry) = ⟨mk L[j].1, v, _⟩; rw [h1])
      simp only [Instr.mapUpdate, run_underlying ht, MapKept.run_getObj_map h.b, K.check w _ hx, h2, Sem.run_bind, Result.andThen_ok]
      rw [hkey, hst]
      simp only [Result.andThen_ok, hmod]
      rw [MapKept.run_setObj_map _ h.b]
      rfl
    · unfold rep at hp
      obtain ⟨q, hq, rfl⟩ := List.mem_map.1 hp
      split
      · exact h.keys q hq
      · exact h.keys q hq
/-- m[k] = v, at a new key -/
theorem MapL.store_new (h : MapL P k mk w g L bs clock) (K : Keyed P k) (inj : ∀ a b, mk a = mk b → a = b) {t e : TypeId} (ht : P.underlying t = some (.map k e)) {x : κ} {l : Lit} (hx : keyOf P k (mk x) = some l) (hin : has L x = false) (v : Value) :
    ∃ w', (Instr.mapUpdate t (.map (some g)) (mk x) v).run P w = .ok () w' ∧ MapL P k mk w' g (L ++ [(x, v)]) (bs ++ [clock]) (clock + 1) ∧ Fr (· = g) w w' := by
  rcases h.find K inj w hx with ⟨h1, h2⟩ | ⟨j, hj, h1, h3, h2⟩
  · obtain ⟨s1, s2⟩ := set_heap ⟨_, _, h.b⟩ (.map (ents mk (L ++ [(x, v)]) (bs ++ [clock])).toArray (clock + 1))
    refine ⟨setBlock w g (.map (ents mk (L ++ [(x, v)]) (bs ++ [clock])).toArray (clock + 1)), ?_, ⟨s1, by simp [h.len], ?_, ?_, ?_, ?_⟩, s2⟩
    · have hp : (ents mk L bs).toArray.push ⟨mk x, v, clock⟩ = (ents mk (L ++ [(x, v)]) (bs ++ [clock])).toArray := by
        rw [ents_snoc L (x, v) clock bs h.len]
        simp
      simp [Instr.mapUpdate, run_underlying ht, MapKept.run_getObj_map h.b, K.check w _ hx, h2, MapKept.run_setObj_map _ h.b, Result.andThen, setBlock, hp]
    · rw [List.nodup_append]
      exact ⟨h.nd, by simp, fun a ha b hb e => by have := h.lt a ha; simp at hb; omega⟩
    · intro y hy
      rcases List.mem_append.1 hy with e | e
      · have := h.lt y e; omega
      · have : y = clock := by simpa using e
        omega
    · intro p hp
      rcases List.mem_append.1 hp with e | e
      · exact h.keys p e
      · have : p = (x, v) := by simpa using e
        subst this
        exact ⟨l, hx⟩
    · rw [List.map_append, List.nodup_append]
      refine ⟨h.kd, by simp, fun a ha b hb e => ?_⟩
      obtain ⟨q, hq, rfl⟩ := List.mem_map.1 ha
      have hb : b = x := by simpa using hb
      unfold has at hin
      rw [List.any_eq_false] at hin
      exact hin q hq (by rw [e, hb]; simp)
  · rw [hin] at h3; simp at h3
/-- delete(m, k) -/
theorem MapL.drop (h : MapL P k mk w g L bs clock) (K : Keyed P k) (inj : ∀ a b, mk a = mk b → a = b) {t e : TypeId} (ht : P.underlying t = some (.map k e)) {x : κ} {l : Lit} (hx : keyOf P k (mk x) = some l) :
    ∃ w' bs', (∀ ty, (Builtin.delete_ #[t, k] ty #[.map (some g), mk x]).run P w = .ok (.tuple #[]) w') ∧ MapL P k mk w' g (del L x) bs' clock ∧ Fr (· = g) w w' := by
  rcases h.find K inj w hx with ⟨h1, h2⟩ | ⟨j, hj, h1, h3, h2⟩
  · obtain ⟨s1, s2⟩ := set_heap ⟨_, _, h.b⟩ (.map (ents mk L bs).toArray clock)
    rw [del_no h1]
    refine ⟨setBlock w g (.map (ents mk L bs).toArray clock), bs, fun ty => ?_, ⟨s1, h.len, h.nd, h.lt, h.keys, h.kd⟩, s2⟩
    simp [Builtin.delete_, run_underlying ht, MapKept.run_getObj_map h.b, K.check w _ hx, h2, MapKept.run_setObj_map _ h.b, Result.andThen, setBlock]
  · have hd : del L x = L.eraseIdx j := by rw [← h1]; exact del_at h.kd j hj
    rw [hd]
    obtain ⟨s1, s2⟩ := set_heap ⟨_, _, h.b⟩ (.map (ents mk (L.eraseIdx j) (bs.eraseIdx j)).toArray clock)
    refine ⟨setBlock w g (.map (ents mk (L.eraseIdx j) (bs.eraseIdx j)).toArray clock), bs.eraseIdx j, fun ty => ?_, ⟨s1, ?_, h.nd.sublist (List.eraseIdx_sublist _ _), fun y hy => h.lt y (List.mem_of_mem_eraseIdx hy), fun p hp => h.keys p (List.mem_of_mem_eraseIdx hp), ?_⟩, s2⟩
    · rw [ents_erase L bs h.len j]
      simp [Builtin.delete_, run_underlying ht, MapKept.run_getObj_map h.b, K.check w _ hx, h2, MapKept.run_setObj_map _ h.b, Result.andThen, setBlock]
    · rw [List.length_eraseIdx, List.length_eraseIdx, h.len]
    · rw [Go.ChangeMaps.map_eraseIdx]
      exact h.kd.sublist (List.eraseIdx_sublist _ _)
/-- len(m) -/
theorem MapL.count (h : MapL P k mk w g L bs clock) : (ents mk L bs).toArray.size = L.length := by simp [ents_len L bs h.len]
/-- range m -/
theorem MapL.range (h : MapL P k mk w g L bs clock) {t e : TypeId} (ht : P.underlying t = some (.map k e)) :
    (Instr.range t (.map (some g))).run P w = .ok (.pointer (some ⟨w.heap.size, 0, none⟩)) (w.alloc (.mapIter (some g) clock #[] clock)) := run_range_map w t k e g _ clock ht h.b
/-- the iterator's next step, in whatever order -/
theorem MapL.next (h : MapL P k mk w g L bs clock) {r : Nat} {seen : Array Nat} (hr : w.heap[r]? = some (.mapIter (some g) clock seen clock)) :
    ((∀ b ∈ bs, b ∈ seen) ∧ ∀ ty, (Instr.next (.pointer (some ⟨r, 0, none⟩)) false ty).run P w = .ok (.tuple #[.bool false]) w) ∨
    ∃ i, ∃ (hi : i < L.length) (hb : i < bs.length), bs[i] ∉ seen ∧ ∃ w', (∀ ty, (Instr.next (.pointer (some ⟨r, 0, none⟩)) false ty).run P w = .ok (.tuple #[.bool true, mk L[i].1, L[i].2]) w') ∧ w'.heap[r]? = some (.mapIter (some g) clock (seen.push bs[i]) clock) ∧ Fr (· = r) w w' ∧
      (Instr.entry (.pointer (some ⟨r, 0, none⟩))).run P w' = .ok (.tuple #[mk L[i].1, L[i].2]) w' := by
  have hold : ∀ x ∈ (ents mk L bs).toArray.toList, x.born < clock := fun x hx => by
    obtain ⟨i, hi, hb, rfl⟩ := ents_mem h.len (by simpa using hx)
    exact h.lt _ (List.getElem_mem hb)
  rcases run_next_at (P := P) w 0 r g clock clock seen _ clock hr h.b hold (Nat.le_refl _) with ⟨h1, h2⟩ | ⟨e, he, w1, hw1, h2⟩
  · left
    refine ⟨fun b hb => ?_, fun ty => h2⟩
    obtain ⟨i, hi, rfl⟩ := List.getElem_of_mem hb
    have hiL : i < L.length := by rw [← h.len]; exact hi
    have hm := List.mem_of_getElem? (ents_at (mk := mk) L bs h.len i hiL hi)
    by_cases hs : bs[i] ∈ seen
    · exact hs
    · exfalso
      have : (⟨mk L[i].1, L[i].2, bs[i]⟩ : MapEntry) ∈ leftOf (ents mk L bs).toArray seen := by
        unfold leftOf
        rw [Array.mem_filter]
        exact ⟨by simpa using hm, by simpa using hs⟩
      have : 0 < (leftOf (ents mk L bs).toArray seen).size := Array.size_pos_of_mem this
      omega
  · right
    have hme : e ∈ ents mk L bs ∧ e.born ∉ seen := by
      have : e ∈ leftOf (ents mk L bs).toArray seen := by simpa using he
      unfold leftOf at this
      rw [Array.mem_filter] at this
      exact ⟨by simpa using this.1, by simpa using this.2⟩
    obtain ⟨hme, hns⟩ := hme
    obtain ⟨i, hi, hb, rfl⟩ := ents_mem h.len hme
    have hrl := (Array.getElem?_eq_some_iff.1 hr).1
    have hr1 : w1.heap = w.heap := by rcases hw1 with rfl | rfl <;> rfl
    have hne : r ≠ g := by
      rintro rfl
      have h1 := h.b
      rw [hr] at h1
      simp at h1
    refine ⟨i, hi, hb, hns, _, fun ty => h2, ?_, ?_, ?_⟩
    · show (w1.heap.setIfInBounds r _)[r]? = _
      rw [hr1]
      simp [hrl]
    · refine ⟨by rcases hw1 with rfl | rfl <;> rfl, by rcases hw1 with rfl | rfl <;> rfl, by rcases hw1 with rfl | rfl <;> rfl, ?_, fun j hj hn => ?_⟩
      · show w.heap.size ≤ (w1.heap.setIfInBounds r _).size
        rw [hr1]; simp
      · show (w1.heap.setIfInBounds r _)[j]? = _
        rw [hr1, Array.getElem?_setIfInBounds_ne (fun e => hn e.symm)]
    · refine run_entry_at (P := P) _ r g clock seen (ents mk L bs).toArray clock ⟨mk L[i].1, L[i].2, bs[i]⟩ ?_ ?_ (by simpa using hme) ?_
      · show (w1.heap.setIfInBounds r _)[r]? = _
        rw [hr1]
        simp [hrl]
      · show (w1.heap.setIfInBounds r _)[g]? = _
        rw [hr1, Array.getElem?_setIfInBounds_ne hne]
        exact h.b
      · show ((ents mk L bs).map (·.born)).Nodup
        rw [ents_born L bs h.len]
        exact h.nd
end
end Go.Proofs.Ytfjlgdafakbdoaa.Mz
