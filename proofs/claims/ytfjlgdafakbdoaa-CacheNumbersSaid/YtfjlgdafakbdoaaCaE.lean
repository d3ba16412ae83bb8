/- Translations that are kept: unlink. -/
import Derived.Test.YtfjlgdafakbdoaaCaD
namespace Go.Proofs.Ytfjlgdafakbdoaa.Ca
open Go.RowKit Mz Go.Maps
set_option linter.unusedVariables false
set_option linter.unusedSimpArgs false
set_option maxHeartbeats 4000000

def dE : Ky × Lr := ((0, 0), ⟨[], none, 0⟩)
def away (E : List (Ky × Lr)) (k : Ky) : List (Ky × Lr) := E.filter (fun p => !decide (p.1 = k))
/-- no link leads from or to a key -/
def Cs.unlink (s : Cs) (k : Ky) : Cs := { s with E := (away s.E k).map (fun p => (p.1, strip k p.2)) }
theorem del_ent (E : List (Ky × Lr)) (k : Ky) : del (E.map ent) k = (away E k).map ent := by
  unfold del away
  rw [List.filter_map]
  rfl
/-- the entries while some of them are done -/
def one (E : List (Ky × Lr)) (bs : List Nat) (k : Ky) (seen : Array Nat) (j : Nat) : Ky × Lr := if bs.getD j 0 ∈ seen then ((E.getD j dE).1, strip k (E.getD j dE).2) else E.getD j dE
def cur (E : List (Ky × Lr)) (bs : List Nat) (k : Ky) (seen : Array Nat) : List (Ky × Lr) := (List.range E.length).map (one E bs k seen)
theorem one_key (E : List (Ky × Lr)) (bs : List Nat) (k : Ky) (seen : Array Nat) (j : Nat) : (one E bs k seen j).1 = (E.getD j dE).1 := by
  unfold one
  split <;> rfl
theorem cur_len (E : List (Ky × Lr)) (bs : List Nat) (k : Ky) (seen : Array Nat) : (cur E bs k seen).length = E.length := by simp [cur]
theorem cur_0 (E : List (Ky × Lr)) (bs : List Nat) (k : Ky) : cur E bs k #[] = E := by
  apply List.ext_getElem
  · simp [cur]
  · intro i h1 h2
    simp [cur, one, h2]
theorem cur_all {E : List (Ky × Lr)} {bs : List Nat} {k : Ky} {seen : Array Nat} (hl : bs.length = E.length) (h : ∀ b ∈ bs, b ∈ seen) : cur E bs k seen = E.map (fun p => (p.1, strip k p.2)) := by
  apply List.ext_getElem
  · simp [cur]
  · intro i h1 h2
    have hi : i < E.length := by simpa using h2
    have hb : i < bs.length := by omega
    have : bs.getD i 0 ∈ seen := h _ (by simp [List.getD_eq_getElem?_getD, hb])
    simp only [cur, List.getElem_map, List.getElem_range, one, if_pos this]
    simp [List.getD_eq_getElem?_getD, hi]
theorem cur_at {E : List (Ky × Lr)} {bs : List Nat} {k : Ky} {seen : Array Nat} {i : Nat} (hi : i < E.length) (hb : i < bs.length) (hs : bs[i] ∉ seen) : (cur E bs k seen)[i]'(by rw [cur_len]; exact hi) = E[i] := by
  have : bs.getD i 0 ∉ seen := by simpa [List.getD_eq_getElem?_getD, hb] using hs
  simp only [cur, List.getElem_map, List.getElem_range, one, if_neg this]
  simp [List.getD_eq_getElem?_getD, hi]
/-- one more is done -/
theorem cur_rep {E : List (Ky × Lr)} {bs : List Nat} {k : Ky} {seen : Array Nat} {i : Nat} (hi : i < E.length) (hl : bs.length = E.length) (hn : bs.Nodup) (hk : (E.map (·.1)).Nodup) (v : Value) (hv : v = .slice (strip k E[i].2).A (strip k E[i].2).ks.length (strip k E[i].2).c) :
    rep ((cur E bs k seen).map ent) E[i].1 v = (cur E bs k (seen.push (bs[i]'(by omega)))).map ent := by
  apply List.ext_getElem
  · simp [rep, cur]
  · intro j h1 h2
    have hj : j < E.length := by simpa [cur] using h2
    have hjb : j < bs.length := by omega
    simp only [rep, cur, List.getElem_map, List.getElem_range]
    have hkey : (ent (one E bs k seen j)).1 = E[j].1 := by
      show (one E bs k seen j).1 = _
      rw [one_key]
      simp [List.getD_eq_getElem?_getD, hj]
    by_cases e : j = i
    · subst e
      rw [if_pos hkey]
      have hin : bs.getD j 0 ∈ seen.push bs[j] := by simp [List.getD_eq_getElem?_getD, hjb]
      unfold one at hkey ⊢
      rw [if_pos hin]
      refine Prod.ext ?_ ?_
      · rw [hkey]
        simp [ent, List.getD_eq_getElem?_getD, hj]
      · rw [hv]
        simp [ent, List.getD_eq_getElem?_getD, hj]
    · have hne : E[j].1 ≠ E[i].1 := fun e2 => by
        have := (List.getElem_inj (xs := E.map (·.1)) (i := j) (j := i) (h₀ := by simpa using hj) (h₁ := by simpa using hi) hk).1 (by simpa using e2)
        exact e this
      rw [if_neg (by rw [hkey]; exact hne)]
      have hb2 : bs[j] ≠ bs[i]'(by omega) := fun e2 => e ((List.getElem_inj hn).1 e2)
      have hiff : (bs.getD j 0 ∈ seen.push (bs[i]'(by omega))) ↔ bs.getD j 0 ∈ seen := by
        rw [Array.mem_push]
        have : bs.getD j 0 = bs[j] := by simp [List.getD_eq_getElem?_getD, hjb]
        rw [this]
        exact ⟨fun h => h.elim id (fun h => absurd h hb2), .inl⟩
      unfold one
      by_cases hs : bs.getD j 0 ∈ seen
      · rw [if_pos hs, if_pos (hiff.2 hs)]
      · rw [if_neg hs, if_neg (fun h => hs (hiff.1 h))]
def leftN (bs : List Nat) (seen : Array Nat) : Nat := (bs.filter (fun b => !decide (b ∈ seen))).length
theorem leftN_lt {bs : List Nat} {seen : Array Nat} {b : Nat} (hb : b ∈ bs) (hs : b ∉ seen) : leftN bs (seen.push b) < leftN bs seen := by
  unfold leftN
  have hsub : ∀ l : List Nat, (l.filter (fun x => !decide (x ∈ seen.push b))).length ≤ (l.filter (fun x => !decide (x ∈ seen))).length := by
    intro l
    induction l with
    | nil => simp
    | cons x l ih =>
      simp only [List.filter_cons]
      by_cases h1 : x ∈ seen
      · have h2 : x ∈ seen.push b := by simp [h1]
        simp [h1, h2]
        simpa using ih
      · by_cases h2 : x ∈ seen.push b
        · simp [h1, h2]
          have := ih
          simp at this
          omega
        · simp [h1, h2]
          simpa using ih
  induction bs with
  | nil => simp at hb
  | cons x l ih =>
    simp only [List.filter_cons]
    by_cases e : x = b
    · subst e
      have h2 : x ∈ seen.push x := by simp
      have := hsub l
      simp [hs]
      simp at this
      omega
    · have hb' : b ∈ l := by
        rcases List.mem_cons.1 hb with h | h
        · exact absurd h.symm e
        · exact h
      have := ih hb'
      have hiff : x ∈ seen.push b ↔ x ∈ seen := by
        rw [Array.mem_push]
        exact ⟨fun h => h.elim id (fun h => absurd h e), .inl⟩
      by_cases h1 : x ∈ seen
      · simp [h1, hiff.2 h1]
        simpa using this
      · have h2 : x ∉ seen.push b := fun h => h1 (hiff.1 h)
        simp [h1, h2]
        simpa using this
/-- how many entries an iterator has to tell -/
def leftW (bs : List Nat) (gi : Nat) (w : World) : Nat :=
  match w.heap[gi]? with
  | some (.mapIter _ _ seen _) => leftN bs seen
  | _ => 0
theorem leftW_at {bs : List Nat} {gi : Nat} {w : World} {m : Option Nat} {a c : Nat} {seen : Array Nat} (h : w.heap[gi]? = some (.mapIter m a seen c)) : leftW bs gi w = leftN bs seen := by
  unfold leftW
  rw [h]
theorem nodup_away {E : List (Ky × Lr)} (k : Ky) (h : (E.map (·.1)).Nodup) : ((away E k).map (·.1)).Nodup := h.sublist ((List.filter_sublist).map _)
theorem one_A (E : List (Ky × Lr)) (bs : List Nat) (k : Ky) (seen : Array Nat) (j : Nat) : (one E bs k seen j).2.A = (E.getD j dE).2.A := by
  unfold one
  split <;> rfl
theorem cur_mem {E : List (Ky × Lr)} {bs : List Nat} {k : Ky} {seen : Array Nat} {p : Ky × Lr} (h : p ∈ cur E bs k seen) : ∃ j, ∃ hj : j < E.length, p = one E bs k seen j ∧ p.2.A = E[j].2.A ∧ (p.2.ks = E[j].2.ks ∨ p.2.ks = (strip k E[j].2).ks) := by
  obtain ⟨j, hj, rfl⟩ := List.mem_map.1 h
  have hj := List.mem_range.1 hj
  have e : E.getD j dE = E[j] := by simp [List.getD_eq_getElem?_getD, hj]
  refine ⟨j, hj, rfl, by rw [one_A, e], ?_⟩
  unfold one
  split
  · right; rw [e]
  · left; rw [e]
theorem one_push {E : List (Ky × Lr)} {bs : List Nat} {k : Ky} {seen : Array Nat} {i : Nat} (hi : i < E.length) (hl : bs.length = E.length) (hn : bs.Nodup) (j : Nat) (hj : j < E.length) :
    one E bs k (seen.push (bs[i]'(by omega))) j = if j = i then (E[i].1, strip k E[i].2) else one E bs k seen j := by
  by_cases e : j = i
  · subst e
    have hjb : j < bs.length := by omega
    have hin : bs.getD j 0 ∈ seen.push bs[j] := by simp [List.getD_eq_getElem?_getD, hjb]
    rw [if_pos rfl]
    unfold one
    rw [if_pos hin]
    simp [List.getD_eq_getElem?_getD, hj]
  · rw [if_neg e]
    have hjb : j < bs.length := by omega
    have hb2 : bs[j] ≠ bs[i]'(by omega) := fun e2 => e ((List.getElem_inj hn).1 e2)
    have hiff : (bs.getD j 0 ∈ seen.push (bs[i]'(by omega))) ↔ bs.getD j 0 ∈ seen := by
      rw [Array.mem_push]
      have : bs.getD j 0 = bs[j] := by simp [List.getD_eq_getElem?_getD, hjb]
      rw [this]
      exact ⟨fun h => h.elim id (fun h => absurd h hb2), .inl⟩
    unfold one
    by_cases hs : bs.getD j 0 ∈ seen
    · rw [if_pos hs, if_pos (hiff.2 hs)]
    · rw [if_neg hs, if_neg (fun h => hs (hiff.1 h))]
theorem rows_step {w w' : World} {E : List (Ky × Lr)} {bs : List Nat} {k : Ky} {seen : Array Nat} {i : Nat} (hi : i < E.length) (hl : bs.length = E.length) (hn : bs.Nodup) (sep : E.Pairwise (fun p q => ∀ k, ab p.2.A = some k → ab q.2.A ≠ some k))
    (h : ∀ p ∈ cur E bs k seen, LrOk w p.2) (f : Fr (fun q => ab E[i].2.A = some q) w w') (hs : LrOk w' (strip k E[i].2)) : ∀ p ∈ cur E bs k (seen.push (bs[i]'(by omega))), LrOk w' p.2 := by
  intro p hp
  obtain ⟨j, hj, rfl⟩ := List.mem_map.1 hp
  have hj := List.mem_range.1 hj
  rw [one_push hi hl hn j hj]
  by_cases e : j = i
  · rw [if_pos e]; exact hs
  · rw [if_neg e]
    have hm : one E bs k seen j ∈ cur E bs k seen := List.mem_map.2 ⟨j, List.mem_range.2 hj, rfl⟩
    refine (h _ hm).fr f (fun q hq hq2 => ?_)
    rw [one_A] at hq
    have hd : E.getD j dE = E[j] := by simp [List.getD_eq_getElem?_getD, hj]
    rw [hd] at hq
    rw [List.pairwise_iff_getElem] at sep
    rcases Nat.lt_or_gt_of_ne e with h1 | h1
    · exact sep j i hj hi h1 q hq hq2
    · exact sep i j hi hj h1 q hq2 hq
theorem LrOk.notMap {w : World} {l : Lr} (h : LrOk w l) {g : Nat} {es : Array MapEntry} {c : Nat} (hb : w.heap[g]? = some (.map es c)) : ab l.A ≠ some g := fun e => by
  rcases h with ⟨_, h2, _⟩ | ⟨gk, e2, ⟨F, h1, _⟩, _⟩
  · rw [h2] at e; cases e
  · rw [e2] at e
    have : gk = g := by simpa [ab] using e
    subst this
    obtain ⟨cs, hc, _⟩ := h1
    unfold Blk at hc
    rw [hb] at hc
    simp at hc
theorem LrOk.low {w : World} {l : Lr} (h : LrOk w l) {q : Nat} (e : ab l.A = some q) : q < w.heap.size := by
  rcases h with ⟨_, h2, _⟩ | ⟨gk, e2, ⟨F, h1, _⟩, _⟩
  · rw [h2] at e; cases e
  · rw [e2] at e
    have : gk = q := by simpa [ab] using e
    subst this
    exact h1.lt
theorem step_delete {P : Program} {ops : Array Oper} {o : Oper} {a : Act} {w : World} {K : Act → World → Prop} {Q : Exit → Act → World → Prop} {E : Prop}
    (hg : o.guard = none) (m k : Operand) (t kt : TypeId) (hop : o.op = Op.call { callee := Callee.builtin Builtin.delete, args := #[m, k], argTypes := #[t, kt] }) {w' : World}
    (hrun : ∀ ty, (Builtin.delete_ #[t, kt] ty #[a.eval m, a.eval k]).run P w = .ok (.tuple #[]) w') (hK : K (a.put o.dst (.tuple #[])) w') :
    if Region.wanted o (yielded ops a.tmps) = true then Oper.wp P o a w K Q else E := by
  have hw : Region.wanted o (yielded ops a.tmps) = true := by simp [Region.wanted, hg]
  rw [if_pos hw]
  unfold Oper.wp
  simp [execOp, hop, resolve, invoke, builtin, hrun, Result.andThen]
  exact hK
/-- the loop over the map: some entries are done -/
def UR (w : World) (g gi gm clock : Nat) (E : List (Ky × Lr)) (bs : List Nat) (k : Ky) (S : Nat → Prop) (seen : Array Nat) (wr : World) : Prop :=
  MapL Try.prog 31 kyv wr gm ((cur E bs k seen).map ent) bs clock ∧ wr.heap[gi]? = some (.mapIter (some gm) clock seen clock) ∧ (∀ p ∈ cur E bs k seen, LrOk wr p.2) ∧ Blk wr w.heap.size 31 #[.int .u32 k.1, .int .u32 k.2] ∧ wr.cell? ⟨g, 2, none⟩ = some (.map (some gm)) ∧ Fr S w wr
theorem ur_step {w wr w4 : World} {g gi gm clock : Nat} {E : List (Ky × Lr)} {bs : List Nat} {k : Ky} {S : Nat → Prop} {seen : Array Nat} (h : UR w g gi gm clock E bs k S seen wr) {i : Nat} (hi : i < E.length) (hl : bs.length = E.length) (hn : bs.Nodup) (hk : (E.map (·.1)).Nodup) (sep : E.Pairwise (fun p q => ∀ k, ab p.2.A = some k → ab q.2.A ≠ some k))
    (hns : (bs[i]'(by omega)) ∉ seen) (f4 : Fr (· = gi) wr w4) (hi4 : w4.heap[gi]? = some (.mapIter (some gm) clock (seen.push (bs[i]'(by omega))) clock)) (hgi : w.heap.size < gi) (hg : g < w.heap.size) (hgm : g ≠ gm) (hlow : ∀ p ∈ E, ∀ q, ab p.2.A = some q → q < w.heap.size) (hgr : ∀ p ∈ E, ab p.2.A ≠ some g) (hngm : ∀ p ∈ E, ab p.2.A ≠ some gm) (hgmb : gm < w.heap.size)
    (hS : ∀ q, (q = gm ∨ ∃ p ∈ E, ab p.2.A = some q) → S q) (hkey : E[i].1.Ok) {p : Ky × Lr} (hp : E[i] = p) :
    LrOk (w4.alloc (.cells #[.int .u32 p.1.1, .int .u32 p.1.2] 31)).drew p.2 ∧ Blk (w4.alloc (.cells #[.int .u32 p.1.1, .int .u32 p.1.2] 31)).drew w.heap.size 31 #[.int .u32 k.1, .int .u32 k.2] ∧
    ∀ w6, LrOk w6 (strip k p.2) → Fr (fun q => ab p.2.A = some q) (w4.alloc (.cells #[.int .u32 p.1.1, .int .u32 p.1.2] 31)).drew w6 →
      ∃ w7, (Instr.mapUpdate 57 (.map (some gm)) (.agg #[.int .u32 p.1.1, .int .u32 p.1.2]) (.slice p.2.A (strip k p.2).ks.length p.2.c)).run Try.prog w6 = .ok () w7 ∧ UR w g gi gm clock E bs k S (seen.push (bs[i]'(by omega))) w7 ∧ leftW bs gi w7 < leftW bs gi wr ∧
        w6.cell? ⟨g, 2, none⟩ = some (.map (some gm)) ∧ w6.cell? ⟨w4.heap.size, 0, none⟩ = some (.int .u32 p.1.1) ∧ w6.cell? ⟨w4.heap.size, 1, none⟩ = some (.int .u32 p.1.2) ∧ w7.cell? ⟨g, 2, none⟩ = some (.map (some gm)) ∧ w7.cell? ⟨w4.heap.size, 0, none⟩ = some (.int .u32 p.1.1) ∧ w7.cell? ⟨w4.heap.size, 1, none⟩ = some (.int .u32 p.1.2) := by
  obtain ⟨hm, hit, hr, hb, hc, hf⟩ := h
  subst hp
  have hE : E[i] ∈ E := List.getElem_mem hi
  have hbi : i < bs.length := by omega
  have hcm : E[i] ∈ cur E bs k seen := by
    have := cur_at (k := k) hi hbi hns
    rw [← this]
    exact List.getElem_mem _
  have hA : ∀ p ∈ cur E bs k seen, ∃ q ∈ E, p.2.A = q.2.A := fun p hp => by
    obtain ⟨j, hj, _, h2, _⟩ := cur_mem hp
    exact ⟨_, List.getElem_mem hj, h2⟩
  have hsw := hf.size
  have fa := ((Fr.refl (fun _ => False) w4).alloc (.cells #[.int .u32 E[i].1.1, .int .u32 E[i].1.2] 31)).drew
  have hr5 : ∀ p ∈ cur E bs k seen, LrOk (w4.alloc (.cells #[.int .u32 E[i].1.1, .int .u32 E[i].1.2] 31)).drew p.2 := fun p hp => by
    refine ((hr p hp).fr f4 (fun q hq e => ?_)).fr fa (fun _ _ e => e)
    obtain ⟨r, hr1, hr2⟩ := hA p hp
    rw [hr2] at hq
    have := hlow r hr1 q hq
    omega
  have hb5 := (hb.fr f4 (fun e => by omega)).fr fa (fun e => e)
  have hm5 := (hm.fr f4 (fun e => by omega)).fr fa (fun e => e)
  have hc4 := f4.cell hc (by show g < wr.heap.size; omega) (by show ¬ g = gi; omega)
  have hs4 := f4.size
  have hc5 := fa.cell hc4 (by show g < w4.heap.size; omega) (fun e => e)
  have hi5 := (fa.block gi (by have := (Array.getElem?_eq_some_iff.1 hi4).1; exact this) (fun e => e)).trans hi4
  have bk : Blk (w4.alloc (.cells #[.int .u32 E[i].1.1, .int .u32 E[i].1.2] 31)) w4.heap.size 31 #[.int .u32 E[i].1.1, .int .u32 E[i].1.2] := Blk.new _ _ _
  have bk5 := bk.fr ((Fr.refl (fun _ => False) _).drew) (fun e => e)
  refine ⟨hr5 _ hcm, hb5, fun w6 h6 f6 => ?_⟩
  obtain ⟨l, hl2⟩ := keyOf_ky _ hkey
  have hm6 := hm5.fr f6 (hngm _ hE)
  have hin : Mz.has ((cur E bs k seen).map ent) E[i].1 = true := by
    unfold Mz.has
    rw [List.any_eq_true]
    exact ⟨ent E[i], List.mem_map_of_mem hcm, by simp [ent]⟩
  obtain ⟨w7, hup, hm7, f7⟩ := hm6.store_old keyLaw kyv_inj Try.underlying57 hl2 hin (.slice E[i].2.A (strip k E[i].2).ks.length E[i].2.c)
  rw [cur_rep (k := k) (seen := seen) hi hl hn hk (.slice E[i].2.A (strip k E[i].2).ks.length E[i].2.c) rfl] at hm7
  have hg6 : g < (w4.alloc (.cells #[.int .u32 E[i].1.1, .int .u32 E[i].1.2] 31)).drew.heap.size := by
    have := fa.size
    omega
  have hi6 := (f6.block gi (Array.getElem?_eq_some_iff.1 hi5).1 (fun e => by have := hlow _ hE _ e; omega)).trans hi5
  have hi7 := (f7.block gi (Array.getElem?_eq_some_iff.1 hi6).1 (by show ¬ gi = gm; omega)).trans hi6
  have b6 := bk5.fr f6 (fun e => by have := hlow _ hE _ e; omega)
  have hc6 := f6.cell hc5 hg6 (by show ¬ ab E[i].2.A = some g; exact hgr _ hE)
  refine ⟨w7, hup, ⟨hm7, hi7, ?_, ?_, ?_, ?_⟩, ?_, hc6, b6.cell 0, b6.cell 1, ?_⟩
  · have hr6 := rows_step hi hl hn sep hr5 f6 h6
    intro p hp
    refine (hr6 p hp).fr f7 (fun q hq e => ?_)
    obtain ⟨j, hj, _, h2, _⟩ := cur_mem hp
    rw [h2] at hq
    exact hngm _ (List.getElem_mem hj) (by rw [hq, e])
  · exact (hb5.fr f6 (fun e => by have := hlow _ hE _ e; omega)).fr f7 (fun e => by omega)
  · exact f7.cell hc6 (by show g < w6.heap.size; have := f6.size; omega) (by show ¬ g = gm; exact hgm)
  · refine hf.trans ((((f4.mono (S' := fun q => S q ∨ q = gi) (fun q _ e => .inr e)).tr (fa.mono (fun _ _ e => e.elim))).tr (f6.mono (fun q _ e => .inl (hS q (.inr ⟨_, hE, e⟩))))).tr (f7.mono (fun q _ e => .inl (hS q (.inl e))))) (fun q hq e => ?_)
    rcases e with e | e
    · exact e
    · omega
  · rw [leftW_at hi7, leftW_at hit]
    exact leftN_lt (List.getElem_mem hbi) hns
  · have b7 := b6.fr f7 (by show ¬ w4.heap.size = gm; omega)
    exact ⟨f7.cell hc6 (by show g < w6.heap.size; have := f6.size; omega) (by show ¬ g = gm; exact hgm), b7.cell 0, b7.cell 1⟩
/-- what kind of block it is -/
def srt (w : World) (q : Nat) : Option (Option TypeId) :=
  match w.heap[q]? with
  | some (.cells _ t _) => some (some t)
  | some (.map _ _) => some none
  | _ => none
theorem srt_blk {w : World} {g : Nat} {t : TypeId} {cs : Array Value} (h : Blk w g t cs) : srt w g = some (some t) := by
  unfold Blk at h
  simp [srt, h]
theorem srt_map {w : World} {g : Nat} {es : Array MapEntry} {c : Nat} (h : w.heap[g]? = some (.map es c)) : srt w g = some none := by
  simp [srt, h]
theorem BRow.srt {w : World} {A : Option Addr} {c : Nat} {l : List Bk} (h : BRow w A c l) {q : Nat} (e : ab A = some q) : Ca.srt w q = some (some 34) := by
  rcases h with ⟨_, h2, _⟩ | ⟨gl, e2, ⟨F, h1, _⟩, _⟩
  · rw [h2] at e; cases e
  · rw [e2] at e
    have : gl = q := by simpa [ab] using e
    subst this
    obtain ⟨cs, hc, _⟩ := h1
    exact srt_blk hc
theorem LrOk.srt {w : World} {l : Lr} (h : LrOk w l) {q : Nat} (e : ab l.A = some q) : Ca.srt w q = some (some 31) := by
  rcases h with ⟨_, h2, _⟩ | ⟨gl, e2, ⟨F, h1, _⟩, _⟩
  · rw [h2] at e; cases e
  · rw [e2] at e
    have : gl = q := by simpa [ab] using e
    subst this
    obtain ⟨cs, hc, _⟩ := h1
    exact srt_blk hc
theorem CodeOk.srt {w : World} {b : Bk} (h : CodeOk w b) {q : Nat} (e : ab b.A = some q) : Ca.srt w q = some (some 5) := by
  unfold CodeOk at h
  rcases h.2 with ⟨e2, _⟩ | ⟨g', cap, cur, e2, _, hb, _⟩
  · injection e2 with e2
    rw [e2] at e
    cases e
  · injection e2 with e2
    rw [e2] at e
    have : g' = q := by simpa [ab] using e
    subst this
    exact srt_blk hb
theorem Cch.srt {w : World} {g : Nat} {s : Cs} (h : Cch w g s) : Ca.srt w g = some (some 60) ∧ Ca.srt w s.gm = some none ∧ (∀ q, ab s.A = some q → Ca.srt w q = some (some 34)) ∧ (∀ b ∈ s.bl, ∀ q, ab b.A = some q → Ca.srt w q = some (some 5)) ∧ (∀ p ∈ s.E, ∀ q, ab p.2.A = some q → Ca.srt w q = some (some 31)) := by
  obtain ⟨bs, clock, hm⟩ := h.m
  exact ⟨srt_blk h.b, srt_map hm.b, fun q e => h.r.srt e, fun b hb q e => (h.code b hb).srt e, fun p hp q e => (h.rows p hp).srt e⟩
/-- the map and the links, apart from the others -/
theorem Cch.apart {w : World} {g : Nat} {s : Cs} (h : Cch w g s) {q : Nat} (e : q = s.gm ∨ ∃ p ∈ s.E, ab p.2.A = some q) : q ≠ g ∧ ab s.A ≠ some q ∧ ∀ b ∈ s.bl, ab b.A ≠ some q := by
  obtain ⟨h1, h2, h3, h4, h5⟩ := h.srt
  have hq : Ca.srt w q = some none ∨ Ca.srt w q = some (some 31) := by
    rcases e with rfl | ⟨p, hp, e⟩
    · exact .inl h2
    · exact .inr (h5 p hp q e)
  refine ⟨fun e2 => ?_, fun e2 => ?_, fun b hb e2 => ?_⟩
  · rw [e2, h1] at hq; simp at hq
  · rw [h3 q e2] at hq; simp at hq
  · rw [h4 b hb q e2] at hq; simp at hq
theorem strip_sub (k : Ky) (l : Lr) : ∀ x ∈ (strip k l).ks, x ∈ l.ks := fun x hx => (List.mem_filter.1 hx).1
theorem Cs.unlink_ok {s : Cs} (h : s.Ok) (k : Ky) : (s.unlink k).Ok := by
  refine ⟨h.room, h.len, h.keys, h.kd, h.ct, h.code, h.fl, fun p hp => ?_, fun p hp => ?_⟩
  · obtain ⟨q, hq, rfl⟩ := List.mem_map.1 hp
    exact h.froms q (List.mem_filter.1 hq).1
  · obtain ⟨q, hq, rfl⟩ := List.mem_map.1 hp
    have := h.tos q (List.mem_filter.1 hq).1
    exact ⟨this.1.sublist List.filter_sublist, fun x hx => this.2 x (strip_sub k q.2 x hx)⟩
theorem Cs.unlink_sep {s : Cs} (h : s.E.Pairwise (fun p q => ∀ k, ab p.2.A = some k → ab q.2.A ≠ some k)) (k : Ky) : (s.unlink k).E.Pairwise (fun p q => ∀ k, ab p.2.A = some k → ab q.2.A ≠ some k) := by
  show ((away s.E k).map _).Pairwise _
  rw [List.pairwise_map]
  exact h.sublist List.filter_sublist
/-- the links alone: what unlink asks for -/
structure LK (w : World) (g : Nat) (s : Cs) : Prop where
  b : ∃ v0 v1 v3, Blk w g 60 #[v0, v1, .map (some s.gm), v3]
  m : ∃ bs clock, MapL Try.prog 31 kyv w s.gm (s.E.map ent) bs clock
  rows : ∀ p ∈ s.E, LrOk w p.2
  sep : s.E.Pairwise (fun p q => ∀ k, ab p.2.A = some k → ab q.2.A ≠ some k)
  ks : ∀ p ∈ s.E, p.2.ks.length ≤ 1000000
  ko : ∀ p ∈ s.E, p.1.Ok
theorem LK.fr {w w' : World} {g : Nat} {s : Cs} {S : Nat → Prop} (h : LK w g s) (f : Fr S w w') (h1 : ¬ S g) (h2 : ¬ S s.gm) (h3 : ∀ p ∈ s.E, ∀ q, ab p.2.A = some q → ¬ S q) : LK w' g s := by
  obtain ⟨v0, v1, v3, hb⟩ := h.b
  obtain ⟨bs, clock, hm⟩ := h.m
  exact ⟨⟨v0, v1, v3, hb.fr f h1⟩, ⟨bs, clock, hm.fr f h2⟩, fun p hp => (h.rows p hp).fr f (h3 p hp), h.sep, h.ks, h.ko⟩
theorem Cch.lk {w : World} {g : Nat} {s : Cs} (h : Cch w g s) : LK w g s :=
  ⟨⟨_, _, _, h.b⟩, h.m, h.rows, h.sep, fun p hp => by have := h.ok.ksl p hp; have := h.ok.len; have := h.ok.room; omega, fun p hp => by obtain ⟨b, hb, e⟩ := List.mem_map.1 (h.ok.froms p hp); rw [← e]; exact h.ok.keys b hb⟩
set_option maxRecDepth 100000 in
theorem unlink_lk (w : World) (g : Nat) (s : Cs) (h : LK w g s) (k : Ky) (hk : k.Ok) :
    Calls Try.prog 27 #[.pointer (some ⟨g, 0, none⟩), .agg #[.int .u32 k.1, .int .u32 k.2]] w fun e w' => e = .returned (.tuple #[]) ∧ LK w' g (s.unlink k) ∧ Fr (fun q => q = s.gm ∨ ∃ p ∈ s.E, ab p.2.A = some q) w w' := by
  obtain ⟨l, hl⟩ := keyOf_ky k hk
  obtain ⟨v0, v1, v3, hb0⟩ := h.b
  have hgm : g ≠ s.gm := by
    obtain ⟨bs, clock, hm⟩ := h.m
    intro e
    have h1 := hb0
    unfold Blk at h1
    rw [e, hm.b] at h1
    simp at h1
  have hgr : ∀ p ∈ s.E, ab p.2.A ≠ some g := fun p hp e => by
    rcases h.rows p hp with ⟨_, h2, _⟩ | ⟨gk, e2, ⟨F, h1, _⟩, _⟩
    · rw [h2] at e; cases e
    · rw [e2] at e
      have : gk = g := by simpa [ab] using e
      subst this
      obtain ⟨cs, hc, _⟩ := h1
      exact Blk.ne_ hc hb0 (by decide) rfl
  have f1 := (Fr.refl (fun _ => False) w).alloc (.cells #[.int .u32 k.1, .int .u32 k.2] 31)
  have bk : Blk (w.alloc (.cells #[.int .u32 k.1, .int .u32 k.2] 31)) w.heap.size 31 #[.int .u32 k.1, .int .u32 k.2] := Blk.new _ _ _
  have h1 := h.fr f1 (fun e => e) (fun e => e) (fun _ _ _ _ e => e)
  have hb1 := hb0.fr f1 (fun e => e)
  have c2 : (w.alloc (.cells #[.int .u32 k.1, .int .u32 k.2] 31)).cell? ⟨g, 2, none⟩ = some (.map (some s.gm)) := hb1.cell 2
  obtain ⟨bs, clock, hm⟩ := h1.m
  obtain ⟨w2, bs2, hdr, hm2, f2⟩ := (hm.fr ((Fr.refl (fun _ => False) _).drew) (fun e => e)).drop keyLaw kyv_inj Try.underlying57 hl
  rw [del_ent] at hm2
  have hdr : ∀ ty, (Builtin.delete_ #[57, 31] ty #[.map (some s.gm), .agg #[.int .u32 k.1, .int .u32 k.2]]).run Try.prog (w.alloc (.cells #[.int .u32 k.1, .int .u32 k.2] 31)).drew = .ok (.tuple #[]) w2 := hdr
  have hrg := hm2.range Try.underlying57
  have hg2 : g < w2.heap.size := by have := hb1.lt; have := f2.size; exact Nat.lt_of_lt_of_le hb1.lt f2.size
  have d2 : w2.cell? ⟨g, 2, none⟩ = some (.map (some s.gm)) := f2.cell (w := (w.alloc (.cells #[.int .u32 k.1, .int .u32 k.2] 31)).drew) c2 hb1.lt (by show ¬ g = s.gm; exact hgm)
  have f3 := (Fr.refl (fun _ => False) w2).alloc (.mapIter (some s.gm) clock #[] clock)
  have hit : (w2.alloc (.mapIter (some s.gm) clock #[] clock)).heap[w2.heap.size]? = some (.mapIter (some s.gm) clock #[] clock) := heap_alloc_new _ _
  have hm3 := hm2.fr f3 (fun e => e)
  have ih0 : ∀ p ∈ s.E, ab p.2.A ≠ some s.gm := fun p hp => (h1.rows p hp).notMap hm.b
  have hlow : ∀ p ∈ s.E, ∀ q, ab p.2.A = some q → q < w.heap.size := fun p hp q e => (h.rows p hp).low e
  have hrows3 : ∀ p ∈ away s.E k, LrOk (w2.alloc (.mapIter (some s.gm) clock #[] clock)) p.2 := fun p hp => by
    have hp := (List.mem_filter.1 hp).1
    exact (((h1.rows p hp).fr ((Fr.refl (fun _ => False) _).drew) (fun _ _ e => e)).fr f2 (fun q hq e => ih0 p hp (by rw [hq, e]))).fr f3 (fun _ _ e => e)
  have hgb : s.gm ≠ w.heap.size := by have := h.m; obtain ⟨_, _, hm0⟩ := this; have := hm0.bound; omega
  have hbk3 : Blk (w2.alloc (.mapIter (some s.gm) clock #[] clock)) w.heap.size 31 #[.int .u32 k.1, .int .u32 k.2] := ((bk.fr ((Fr.refl (fun _ => False) _).drew) (fun e => e)).fr f2 (fun e => hgb e.symm)).fr f3 (fun e => e)
  have d3 := f3.cell d2 hg2 (fun e => e)
  have F3 : Fr (fun q => q = s.gm ∨ ∃ p ∈ s.E, ab p.2.A = some q) w (w2.alloc (.mapIter (some s.gm) clock #[] clock)) := (((f1.mono (fun _ _ e => e.elim)).drew).tr (f2.mono (fun q _ e => .inl e))).alloc _
  have hgi : w.heap.size < w2.heap.size := by have := f2.size; have := bk.lt; exact Nat.lt_of_lt_of_le bk.lt f2.size
  have hgl : g < w.heap.size := hb0.lt
  have hE0 : cur (away s.E k) bs2 k #[] = away s.E k := cur_0 _ _ _
  have hl2 : bs2.length = (away s.E k).length := by have := hm2.len; simpa using this
  have hsep : (away s.E k).Pairwise (fun p q => ∀ k, ab p.2.A = some k → ab q.2.A ≠ some k) := h.sep.sublist List.filter_sublist
  have hmemE : ∀ p ∈ away s.E k, p ∈ s.E := fun p hp => (List.mem_filter.1 hp).1
  have HC := Lib.hid h
  have HB0 := Lib.hid hb0
  have HF3 := Lib.hid F3
  have HS := Lib.hid hsep
  have HR3 := Lib.hid hrows3
  have HM3 := Lib.hid hm3
  have HB3 := Lib.hid hbk3
  have HN2 := Lib.hid hm2.nd
  have HL2 := Lib.hid hl2
  have HME := Lib.hid hmemE
  have HI0 := Lib.hid ih0
  have HLO := Lib.hid hlow
  have HGR := Lib.hid hgr
  have HD3 := Lib.hid d3
  have HKD : Hid ((s.E.map (·.1)).Nodup) := Lib.hid (by have := hm.kd; rw [List.map_map] at this; exact this)
  have hgmb : s.gm < w.heap.size := by obtain ⟨_, _, hm0⟩ := h.m; exact hm0.bound
  clear h h1 hb0 hm hm3 hm2 f1 f2 f3 bk hbk3 hrows3 F3 hsep hb1 hl2 hmemE ih0 hlow hgr d3
  go_enter Try.func27, Try.ntmps27
  go_upto_region 1 with (fail)
  go_region_law (refine step_delete rfl (.tmp 9) (.tmp 10) 57 31 rfl hdr ?_)
  all_goals
    go_wp2_with fail
    go_loopw [5] (fun _ wr => ∃ seen : Array Nat, UR w g w2.heap.size s.gm clock (away s.E k) bs2 k (fun q => q = s.gm ∨ ∃ p ∈ s.E, ab p.2.A = some q) seen wr) (fun _ wr => leftW bs2 w2.heap.size wr)
    case atStart => exact ⟨#[], by rw [hE0]; exact HM3.out, hit, by rw [hE0]; exact HR3.out, HB3.out, HD3.out, HF3.out⟩
    case round =>
      obtain ⟨seen, hur⟩ := hrel
      rcases hur.1.next hur.2.1 with ⟨hdone, hnx⟩ | ⟨i, hiL, hbL, hns, w4, hnx, hi4, f4, hen⟩
      · have HU := Lib.hid hur
        have hA := Lib.hid (cur_all (k := k) HL2.out hdone)
        clear hur hdone
        go_wp2_with fail
        go_end0
        obtain ⟨hm, hi, hrw, hbk, hd, fr⟩ := HU.out
        rw [hA.out] at hm hrw
        have hc := HC.out
        refine ⟨rfl, ⟨⟨v0, v1, v3, HB0.out.fr fr (fun e => by rcases e with e | ⟨p, hp, e⟩; exact hgm e; exact HGR.out p hp e)⟩, ⟨_, _, hm⟩, hrw, Cs.unlink_sep hc.sep k, fun p hp => ?_, fun p hp => ?_⟩, fr⟩
        · obtain ⟨q, hq, rfl⟩ := List.mem_map.1 hp
          have := hc.ks q (List.mem_filter.1 hq).1
          have h2 : (strip k q.2).ks.length ≤ q.2.ks.length := List.length_filter_le _ _
          show (strip k q.2).ks.length ≤ _
          omega
        · obtain ⟨q, hq, rfl⟩ := List.mem_map.1 hp
          exact hc.ko q (List.mem_filter.1 hq).1
      · have hiE : i < (away s.E k).length := by have := HL2.out; omega
        have hcur : ((cur (away s.E k) bs2 k seen).map ent)[i] = ent (away s.E k)[i] := by rw [List.getElem_map, cur_at hiE hbL hns]
        rw [hcur] at hnx hen
        obtain ⟨p, hp⟩ : ∃ p, (away s.E k)[i] = p := ⟨_, rfl⟩
        rw [hp] at hnx hen
        replace hnx : ∀ ty, (Instr.next (.pointer (some ⟨w2.heap.size, 0, none⟩)) false ty).run Try.prog wr = .ok (.tuple #[.bool true, .agg #[.int .u32 p.1.1, .int .u32 p.1.2], .slice p.2.A p.2.ks.length p.2.c]) w4 := hnx
        replace hen : (Instr.entry (.pointer (some ⟨w2.heap.size, 0, none⟩))).run Try.prog w4 = .ok (.tuple #[.agg #[.int .u32 p.1.1, .int .u32 p.1.2], .slice p.2.A p.2.ks.length p.2.c]) w4 := hen
        have hpE : p ∈ s.E := HME.out p (by rw [← hp]; exact List.getElem_mem hiE)
        obtain ⟨g1, g2, g3⟩ := ur_step hur hiE HL2.out HN2.out (nodup_away k HKD.out) HS.out hns f4 hi4 hgi hgl hgm (fun p hp => HLO.out p (HME.out p hp)) (fun p hp => HGR.out p (HME.out p hp)) (fun p hp => HI0.out p (HME.out p hp)) hgmb (fun q e => by
          rcases e with e | ⟨p, hp, e⟩
          · exact .inl e
          · exact .inr ⟨p, HME.out p hp, e⟩) (by rw [hp]; exact HC.out.ko p hpE) hp
        have hd4 := f4.cell hur.2.2.2.2.1 (by show g < wr.heap.size; have := hur.2.2.2.2.2.size; omega) (by show ¬ g = w2.heap.size; omega)
        have HST : Hid (Calls Try.prog 41 #[.slice p.2.A p.2.ks.length p.2.c, .func (.func 42) #[] #[.pointer (some ⟨w.heap.size, 0, none⟩)]] (w4.alloc (.cells #[.int .u32 p.1.1, .int .u32 p.1.2] 31)).drew fun e w6 => e = .returned (.slice p.2.A (strip k p.2).ks.length p.2.c) ∧
            ∃ w7, (Instr.mapUpdate 57 (.map (some s.gm)) (.agg #[.int .u32 p.1.1, .int .u32 p.1.2]) (.slice p.2.A (strip k p.2).ks.length p.2.c)).run Try.prog w6 = .ok () w7 ∧ Hid (UR w g w2.heap.size s.gm clock (away s.E k) bs2 k (fun q => q = s.gm ∨ ∃ p ∈ s.E, ab p.2.A = some q) (seen.push bs2[i]) w7) ∧ leftW bs2 w2.heap.size w7 < leftW bs2 w2.heap.size wr ∧
              w6.cell? ⟨g, 2, none⟩ = some (.map (some s.gm)) ∧ w6.cell? ⟨w4.heap.size, 0, none⟩ = some (.int .u32 p.1.1) ∧ w6.cell? ⟨w4.heap.size, 1, none⟩ = some (.int .u32 p.1.2) ∧ w7.cell? ⟨g, 2, none⟩ = some (.map (some s.gm)) ∧ w7.cell? ⟨w4.heap.size, 0, none⟩ = some (.int .u32 p.1.1) ∧ w7.cell? ⟨w4.heap.size, 1, none⟩ = some (.int .u32 p.1.2)) := Lib.hid ((strip_any _ p.2 g1 (HC.out.ks p hpE) w.heap.size k g2 (fun e => by have := HLO.out p hpE _ e; omega)).mono (by
          rintro e w6 ⟨h1, hs6, f6⟩
          obtain ⟨w7, hup, hur7, hlt, k0, k1, k2, k3, k4, k5⟩ := g3 w6 hs6 f6
          exact ⟨h1, w7, hup, Lib.hid hur7, hlt, k0, k1, k2, k3, k4, k5⟩))
        have hgw4 : g < w4.heap.size := by have := hur.2.2.2.2.2.size; have := f4.size; omega
        clear hur hcur g1 g2 g3 f4 hi4 hp hpE
        have bk : Blk (w4.alloc (.cells #[.int .u32 p.1.1, .int .u32 p.1.2] 31)) w4.heap.size 31 #[.int .u32 p.1.1, .int .u32 p.1.2] := Blk.new _ _ _
        have s0 : (w4.alloc (.cells #[.int .u32 p.1.1, .int .u32 p.1.2] 31)).cell? ⟨g, 2, none⟩ = some (.map (some s.gm)) := ((Fr.refl (fun _ => False) w4).alloc _).cell hd4 (by show g < w4.heap.size; omega) (fun e => e)
        have s1 : (w4.alloc (.cells #[.int .u32 p.1.1, .int .u32 p.1.2] 31)).cell? ⟨w4.heap.size, 0, none⟩ = some (.int .u32 p.1.1) := bk.cell 0
        have s2 : (w4.alloc (.cells #[.int .u32 p.1.1, .int .u32 p.1.2] 31)).cell? ⟨w4.heap.size, 1, none⟩ = some (.int .u32 p.1.2) := bk.cell 1
        clear bk hd4
        generalize p.1.1 = pa at *
        generalize p.1.2 = pb at *
        generalize (strip k p.2).ks.length = pm at *
        generalize p.2.A = pA at *
        generalize p.2.ks.length = pn at *
        generalize p.2.c = pc at *
        clear p
        go_upto_region 5 with (fail)
        generalize w4.alloc (.cells #[.int .u32 pa, .int .u32 pb] 31) = w5 at *
        clear hen hnx hiL hgw4 hns

        go_region_held (fun W => W.cell? ⟨g, 2, none⟩ = some (.map (some s.gm)) ∧ W.cell? ⟨w4.heap.size, 0, none⟩ = some (.int .u32 pa) ∧ W.cell? ⟨w4.heap.size, 1, none⟩ = some (.int .u32 pb)) (first | exact ⟨s0, s1, s2⟩ | exact ⟨k0, k1, k2⟩ | exact ⟨k3, k4, k5⟩) ((refine (HST.out).mono ?_; rintro e w6 ⟨rfl, w7, hup, HU7, hlt, k0, k1, k2, k3, k4, k5⟩))
        all_goals
          go_roundw
          case rel => exact ⟨_, _, _, _, _, _, _, _, _, _, _, _, _, _, _, ⟨_, HU7.out⟩, rfl⟩
          case measure => exact hlt
theorem unlink_any (w : World) (g : Nat) (s : Cs) (h : Cch w g s) (k : Ky) (hk : k.Ok) :
    Calls Try.prog 27 #[.pointer (some ⟨g, 0, none⟩), .agg #[.int .u32 k.1, .int .u32 k.2]] w fun e w' => e = .returned (.tuple #[]) ∧ Cch w' g (s.unlink k) ∧ Fr (fun q => q = s.gm ∨ ∃ p ∈ s.E, ab p.2.A = some q) w w' :=
  (unlink_lk w g s h.lk k hk).mono fun e w' ⟨h1, h2, fr⟩ => ⟨h1, ⟨h.b.fr fr (fun e => (h.apart e).1 rfl), h2.m, h.r.fr fr (fun q hq e => (h.apart e).2.1 hq), fun b hb => (h.code b hb).fr fr (fun q hq e => (h.apart e).2.2 b hb hq), h2.rows, h2.sep, Cs.unlink_ok h.ok k⟩, fr⟩
end Go.Proofs.Ytfjlgdafakbdoaa.Ca
