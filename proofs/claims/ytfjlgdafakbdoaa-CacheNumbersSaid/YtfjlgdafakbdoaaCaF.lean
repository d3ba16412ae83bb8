/- Translations that are kept: rows as lists of cells, both ways; what Put leaves. -/
import Derived.Test.YtfjlgdafakbdoaaCaE
namespace Go.Proofs.Ytfjlgdafakbdoaa.Ca
open Go.RowKit Mz Go.Maps
set_option linter.unusedVariables false
set_option linter.unusedSimpArgs false
set_option maxHeartbeats 4000000

/-- things as they lie in memory -/
def fcells {α : Type} (sz : Nat) (fc : α → Nat → Value) (l : List α) : List Value := l.flatMap fun b => (List.range sz).map (fc b)
theorem fcells_len {α : Type} (sz : Nat) (fc : α → Nat → Value) (l : List α) : (fcells sz fc l).length = l.length * sz := by
  induction l with
  | nil => simp [fcells]
  | cons b l ih =>
    show ((List.range sz).map (fc b) ++ fcells sz fc l).length = _
    rw [List.length_append, ih, List.length_map, List.length_range, List.length_cons, Nat.succ_mul, Nat.add_comm]
theorem fcells_at {α : Type} (sz : Nat) (fc : α → Nat → Value) (d : α) (l : List α) : ∀ i, i < l.length → ∀ c, c < sz → (fcells sz fc l)[i * sz + c]? = some (fc (l.getD i d) c) := by
  induction l with
  | nil => intro i hi; simp at hi
  | cons b l ih =>
    intro i hi c hc
    show ((List.range sz).map (fc b) ++ fcells sz fc l)[i * sz + c]? = _
    cases i with
    | zero =>
      rw [Nat.zero_mul, Nat.zero_add, List.getElem?_append_left (by simpa using hc)]
      simp [hc]
    | succ i =>
      rw [List.getElem?_append_right (by simp only [List.length_map, List.length_range]; rw [Nat.succ_mul]; omega)]
      have : (i + 1) * sz + c - ((List.range sz).map (fc b)).length = i * sz + c := by simp only [List.length_map, List.length_range]; rw [Nat.succ_mul]; omega
      rw [this, ih i (by simpa using hi) c hc]
      simp
theorem own_to {α : Type} {w : World} {base : Nat} {e : TypeId} {sz : Nat} {A : Option Addr} {n c : Nat} {l : List α} {fc : α → Nat → Value} (hl : l.length = n) (d : α) (hsz : 0 < sz) (h : w.ownsRow base e sz (.slice A n c) n (fcells sz fc l)) :
    (l = [] ∧ A = none ∧ c = 0) ∨ ∃ gl, A = some ⟨gl, 0, none⟩ ∧ (∃ F, Cells w gl e (c * sz) F ∧ n ≤ c ∧ ∀ q, q < n → ∀ j, j < sz → F (q * sz + j) = fc (l.getD q d) j) ∧ c ≤ maxLen ∧ base ≤ gl := by
  rcases h.2 with ⟨e1, h0⟩ | ⟨g, cap, cur, e1, hg, hb, hnc, hm, hs, ht⟩
  · left
    injection e1 with e1 e2 e3
    exact ⟨List.eq_nil_of_length_eq_zero (by omega), e1, e3⟩
  · right
    injection e1 with e1 e2 e3
    subst e3
    refine ⟨g, e1, ⟨fun i => cur.getD i undef, ⟨cur, hb, hs, fun i hi => ?_⟩, hnc, fun q hq j hj => ?_⟩, hm, hg⟩
    · have : i < cur.size := by omega
      simp [this]
    · have hat := fcells_at sz fc d l q (by omega) j hj
      have hlt : q * sz + j < n * sz := by
        have : (q + 1) * sz ≤ n * sz := Nat.mul_le_mul_right _ hq
        rw [Nat.succ_mul] at this
        omega
      rw [← ht, List.getElem?_take_of_lt hlt] at hat
      show cur.getD (q * sz + j) undef = _
      rw [Array.getD_eq_getD_getElem?, ← Array.getElem?_toList, hat]
      rfl
theorem own_from {α : Type} {w : World} {e : TypeId} {sz : Nat} {n c gl : Nat} {l : List α} {fc : α → Nat → Value} (hl : l.length = n) (d : α) (hsz : 0 < sz) {F : Nat → Value} (h : Cells w gl e (c * sz) F) (hn : n ≤ c) (hm : c ≤ maxLen) (hF : ∀ q, q < n → ∀ j, j < sz → F (q * sz + j) = fc (l.getD q d) j) :
    w.ownsRow 0 e sz (.slice (some ⟨gl, 0, none⟩) n c) n (fcells sz fc l) := by
  obtain ⟨cs, hb, hs, hc⟩ := h
  have hle : n * sz ≤ c * sz := Nat.mul_le_mul_right _ hn
  refine ⟨by rw [fcells_len, hl], .inr ⟨gl, c, cs, rfl, Nat.zero_le _, hb, hn, hm, hs, ?_⟩⟩
  apply List.ext_getElem?
  intro m
  by_cases hmn : m < n * sz
  · rw [List.getElem?_take_of_lt hmn, Array.getElem?_toList, hc m (by omega)]
    have hq : m / sz < n := (Nat.div_lt_iff_lt_mul hsz).2 hmn
    have hat := fcells_at sz fc d l (m / sz) (by omega) (m % sz) (Nat.mod_lt _ hsz)
    have hmd : m / sz * sz + m % sz = m := Nat.div_add_mod' m sz
    rw [hmd] at hat
    rw [hat, ← hF _ hq _ (Nat.mod_lt _ hsz), hmd]
  · rw [List.getElem?_eq_none (by rw [List.length_take]; omega), List.getElem?_eq_none (by rw [fcells_len, hl]; omega)]
def bcells (l : List Bk) : List Value := fcells 4 bc l
theorem BRow.own {w : World} {A : Option Addr} {c : Nat} {l : List Bk} (h : BRow w A c l) : w.ownsRow 0 34 4 (.slice A l.length c) l.length (bcells l) := by
  rcases h with ⟨rfl, rfl, rfl⟩ | ⟨gl, rfl, ⟨F, h1, h2, h3⟩, h4⟩
  · exact ⟨rfl, .inl ⟨rfl, rfl⟩⟩
  · exact own_from rfl dBk (by omega) h1 h2 h4 h3
theorem BRow.of_own {w : World} {base : Nat} {A : Option Addr} {c : Nat} {l : List Bk} (h : w.ownsRow base 34 4 (.slice A l.length c) l.length (bcells l)) : BRow w A c l := by
  rcases own_to rfl dBk (by omega) h with h | ⟨gl, e, h1, h2, h3⟩
  · exact .inl h
  · exact .inr ⟨gl, e, h1, h2⟩
theorem kcells_f (l : List Ky) : kcells l = fcells 2 kc l := by
  unfold kcells fcells
  congr 1
theorem LrOk.own {w : World} {l : Lr} (h : LrOk w l) : w.ownsRow 0 31 2 (.slice l.A l.ks.length l.c) l.ks.length (kcells l.ks) := by
  rw [kcells_f]
  rcases h with ⟨h1, h2, h3⟩ | ⟨gl, e, ⟨F, h1, h2, h3⟩, h4⟩
  · rw [h1, h2, h3]
    exact ⟨rfl, .inl ⟨rfl, rfl⟩⟩
  · rw [e]
    exact own_from rfl (0, 0) (by omega) h1 h2 h4 h3
theorem LrOk.of_own {w : World} {base : Nat} {l : Lr} (h : w.ownsRow base 31 2 (.slice l.A l.ks.length l.c) l.ks.length (kcells l.ks)) : LrOk w l := by
  rw [kcells_f] at h
  rcases own_to rfl (0, 0) (by omega) h with h | ⟨gl, e, h1, h2, h3⟩
  · exact .inl h
  · exact .inr ⟨gl, e, h1, h2⟩
/-- four cells of a block are written -/
def wr4 (w : World) (gl i : Nat) (b : Bk) : World :=
  (((w.setCell ⟨gl, i * 4, none⟩ (.int .u32 b.pc)).setCell ⟨gl, i * 4 + 1, none⟩ (.int .u32 b.pl)).setCell ⟨gl, i * 4 + 2, none⟩ (.slice b.A b.code.length b.c)).setCell ⟨gl, i * 4 + 3, none⟩ (.int .i64 b.ct)
theorem wr4_fr {S : Nat → Prop} (w : World) (gl i : Nat) (b : Bk) (hs : S gl) : Fr S w (wr4 w gl i b) :=
  ((((Fr.refl S w).setCell (p := ⟨gl, i * 4, none⟩) (.inl hs) _).setCell (p := ⟨gl, i * 4 + 1, none⟩) (.inl hs) _).setCell (p := ⟨gl, i * 4 + 2, none⟩) (.inl hs) _).setCell (p := ⟨gl, i * 4 + 3, none⟩) (.inl hs) _
theorem nthB_set (l : List Bk) (i : Nat) (b : Bk) (q : Nat) (hq : q < l.length) : nthB (l.set i b) q = if q = i then b else nthB l q := by
  rw [nthB_at (by simpa using hq), nthB_at hq, List.getElem_set]
  by_cases e : i = q
  · rw [if_pos e, if_pos e.symm]
  · rw [if_neg e, if_neg (fun h => e h.symm)]
theorem Row_b.put {w : World} {gl c n : Nat} {l : List Bk} (h : Row_b w gl c n (nthB l)) (hn : l.length = n) (i : Nat) (hi : i < n) (b : Bk) : Row_b (wr4 w gl i b) gl c n (nthB (l.set i b)) := by
  obtain ⟨F, h1, h2, h3⟩ := h
  refine ⟨_, (((h1.set_ (i * 4) _).set_ (i * 4 + 1) _).set_ (i * 4 + 2) _).set_ (i * 4 + 3) _, h2, fun q hq j hj => ?_⟩
  rw [nthB_set l i b q (by omega)]
  by_cases e : q = i
  · subst e
    rw [if_pos rfl]
    rcases (by omega : j = 0 ∨ j = 1 ∨ j = 2 ∨ j = 3) with rfl | rfl | rfl | rfl
    all_goals
      unfold putV
      simp [bc]
  · rw [if_neg e, ← h3 q hq j hj]
    unfold putV
    rw [if_neg (by omega), if_neg (by omega), if_neg (by omega), if_neg (by omega)]
end Go.Proofs.Ytfjlgdafakbdoaa.Ca
