/- CacheOrders: the plain part: the keys in the order in which they were put first. -/
import Derived.Test.YtfjlgdafakbdoaaCaR
import Derived.Test.YtfjlgdafakbdoaaCaP
namespace Go.Proofs.Ytfjlgdafakbdoaa.Ca
open Go.RowKit Mz Go.Maps
set_option linter.unusedVariables false
set_option linter.unusedSimpArgs false
set_option maxHeartbeats 4000000

/-- was the key seen among the first ones? -/
def hadB (ks : List Ky) (k : Ky) (j : Nat) : Bool := (ks.take j).any (fun q => decide (q = k))
theorem hadB_succ {ks : List Ky} {k : Ky} {j : Nat} (h : j < ks.length) : hadB ks k (j + 1) = (hadB ks k j || decide (nthK ks j = k)) := by
  unfold hadB
  rw [List.take_add_one, List.getElem?_eq_getElem h, List.any_append, nthK_at h]
  simp
theorem hadB_stays {ks : List Ky} {k : Ky} {j : Nat} (h : j < ks.length) (e : hadB ks k j = true) : hadB ks k (j + 1) = true := by rw [hadB_succ h, e]; rfl
theorem hadB_no {ks : List Ky} {k : Ky} {j : Nat} (h : j < ks.length) (e : hadB ks k j = false) (hn : nthK ks j ≠ k) : hadB ks k (j + 1) = false := by rw [hadB_succ h, e]; simp [hn]
theorem hadB_yes {ks : List Ky} {k : Ky} {j : Nat} (h : j < ks.length) (hn : nthK ks j = k) : hadB ks k (j + 1) = true := by rw [hadB_succ h]; simp [hn]
theorem hadB_zero (ks : List Ky) (k : Ky) : hadB ks k 0 = false := rfl
theorem hadB_all (ks : List Ky) (k : Ky) : hadB ks k ks.length = decide (k ∈ ks) := by
  unfold hadB
  rw [List.take_length]
  rw [Bool.eq_iff_iff]
  simp
/-- keys behind a Put -/
theorem put_keys {s : Cs} {b : Bk} (hl : (s.bl.length : Int) < s.room) (A : Option Addr) (c gm : Nat) :
    (s.put b A c gm).room = s.room ∧ (s.put b A c gm).fl = s.fl ∧ (s.put b A c gm).bl.map Bk.k = if b.k ∈ s.bl.map Bk.k then s.bl.map Bk.k else s.bl.map Bk.k ++ [b.k] := by
  unfold Cs.put
  by_cases h : b.k ∈ s.bl.map Bk.k
  · have hi : 0 ≤ idx b.k s.bl := by
      rcases Int.lt_or_le (idx b.k s.bl) 0 with e | e
      · exact absurd h ((idx_neg _ _).1 e)
      · exact e
    rw [if_pos hi, if_pos h]
    obtain ⟨j, hj⟩ : ∃ j : Nat, idx b.k s.bl = j := ⟨(idx b.k s.bl).toNat, by omega⟩
    obtain ⟨h1, h2⟩ := idx_spec b.k s.bl j hj
    refine ⟨rfl, rfl, ?_⟩
    show (s.bl.set (idx b.k s.bl).toNat b).map Bk.k = _
    rw [hj]
    exact set_keys h1 h2
  · have hi : idx b.k s.bl < 0 := (idx_neg _ _).2 h
    rw [if_neg (by omega), if_neg (by omega), if_neg h]
    refine ⟨rfl, rfl, ?_⟩
    show (s.bl ++ [b]).map Bk.k = _
    rw [List.map_append]; rfl
/-- the keys that lie in other pages -/
def leftK (p : Int) (ks : List Ky) : List Ky := ks.filter fun k => decide (k.2 / 64 ≠ p)
theorem leftK_snoc {p : Int} {ks : List Ky} {j : Nat} (h : j < ks.length) : leftK p (ks.take (j + 1)) = if (nthK ks j).2 / 64 ≠ p then leftK p (ks.take j) ++ [nthK ks j] else leftK p (ks.take j) := by
  unfold leftK
  rw [List.take_add_one, List.getElem?_eq_getElem h, List.filter_append, nthK_at h]
  split <;> rename_i e <;> simp [e]
theorem leftK_le (p : Int) (ks : List Ky) : (leftK p ks).length ≤ ks.length := List.length_filter_le _ _
theorem gone_one (p : Int) (b : Bk) : gone [p] b = decide (b.k.2 / 64 = p) := by
  show (hasI [p] (b.pl / 64)) = decide (b.pl / 64 = p)
  by_cases e : b.pl / 64 = p
  · simp [hasI, e]
  · simp [hasI, e]; exact fun h => e h.symm
theorem drop_keys (s : Cs) (p : Int) : (s.drop [p]).bl.map Bk.k = leftK p (s.bl.map Bk.k) ∧ (cntG [p] s.bl : Int) = (s.bl.length : Int) - ((leftK p (s.bl.map Bk.k)).length : Int) := by
  have h : ∀ l : List Bk, (l.filter (fun b => !gone [p] b)).map Bk.k = leftK p (l.map Bk.k) ∧ cntG [p] l + (leftK p (l.map Bk.k)).length = l.length := by
    intro l
    induction l with
    | nil => exact ⟨rfl, rfl⟩
    | cons b l ih =>
      obtain ⟨h1, h2⟩ := ih
      unfold cntG leftK at *
      by_cases e : b.k.2 / 64 = p
      · have g : gone [p] b = true := by rw [gone_one]; simpa using e
        simp [List.filter_cons, g, e] at h1 h2 ⊢
        exact ⟨h1, by omega⟩
      · have g : gone [p] b = false := by rw [gone_one]; simpa using e
        simp [List.filter_cons, g, e] at h1 h2 ⊢
        exact ⟨h1, by omega⟩
  obtain ⟨h1, h2⟩ := h s.bl
  exact ⟨h1, by omega⟩
theorem ab_own {A : Option Addr} {n c q : Nat} (h : (Value.slice A n c).ownBlock = some q) : ab A = some q := by
  cases A with
  | none => simp [Value.ownBlock] at h
  | some a => 
    obtain ⟨gl, off, sp⟩ := a
    cases off <;> cases sp <;> simp_all [Value.ownBlock, ab]
/-- a row of keys of a statement's own, apart from its cache -/
def KRow (w : World) (B : Nat) (A : Option Addr) (c : Nat) (ks : List Ky) : Prop := w.ownsRow B 31 2 (.slice A ks.length c) ks.length (kcells ks)
theorem KRow.at_ {w : World} {B c : Nat} {A : Option Addr} {ks : List Ky} (h : KRow w B A c ks) : At_k w A ks.length (nthK ks) := krow_at h rfl
theorem KRow.nil (w : World) (B : Nat) : KRow w B none 0 [] := ⟨rfl, .inl ⟨rfl, rfl⟩⟩
theorem KRow.fr {w w' : World} {B c : Nat} {A : Option Addr} {ks : List Ky} {S : Nat → Prop} (h : KRow w B A c ks) (f : Fr S w w') (hn : ∀ q, ab A = some q → ¬ S q) : KRow w' B A c ks :=
  own_fr h f (fun q hq => hn q (ab_own hq))
theorem KRow.lt {w : World} {B c : Nat} {A : Option Addr} {ks : List Ky} (h : KRow w B A c ks) : ∀ q, ab A = some q → q < w.heap.size ∧ B ≤ q := fun q hq => by
  rcases h.2 with ⟨e, _⟩ | ⟨g', cap, cur, e, hb, r⟩
  · have e : A = none := by injection e
    rw [e] at hq; cases hq
  · have e1 : A = some ⟨g', 0, none⟩ := by injection e
    rw [e1] at hq
    have hq : g' = q := by simpa [ab] using hq
    subst hq
    exact ⟨own_lt h _ (by rw [e]; rfl), hb⟩
end Go.Proofs.Ytfjlgdafakbdoaa.Ca
