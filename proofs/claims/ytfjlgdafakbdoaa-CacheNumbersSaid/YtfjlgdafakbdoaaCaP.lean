/- CacheFull: the plain part: how many are kept, how often all were thrown away. -/
import Derived.Test.YtfjlgdafakbdoaaCaO
namespace Go.Proofs.Ytfjlgdafakbdoaa.Ca
open Go.RowKit Mz Go.Maps
set_option linter.unusedVariables false
set_option linter.unusedSimpArgs false
set_option maxHeartbeats 4000000

theorem cut_any (w : World) (A : Option Addr) (len cap : Nat) (n : Nat) (hm : len ≤ maxLen) (hc : len ≤ cap) (hn : n ≤ 1000000) :
    Calls Try.prog 10 #[.slice A len cap, .int .i64 (n : Int)] w fun e w' => e = .returned (.slice A (min len n) cap) ∧ w = w' := by
  unfold maxLen at hm
  by_cases h : n < len
  · have e : min len n = n := by omega
    rw [e]
    go_enter Try.func10, Try.ntmps10
    go_wp2
    go_ret
    exact ⟨rfl, rfl⟩
  · have e : min len n = len := by omega
    rw [e]
    go_enter Try.func10, Try.ntmps10
    go_wp2
    go_ret
    exact ⟨rfl, rfl⟩
theorem idx_first (k : Ky) : ∀ (l : List Bk) (i : Nat), idx k l = i → ∀ j, j < i → (nthB l j).k ≠ k
  | [], i, h, _, _ => by simp [idx] at h
  | b :: l, i, h, j, hj => by
    rw [idx_cons] at h
    by_cases e : b.k = k
    · rw [if_pos e] at h
      omega
    · rw [if_neg e] at h
      by_cases e2 : idx k l < 0
      · rw [if_pos e2] at h; omega
      · rw [if_neg e2] at h
        obtain ⟨q, hq⟩ : ∃ q : Nat, idx k l = q := ⟨(idx k l).toNat, by omega⟩
        cases j with
        | zero => exact e
        | succ j => exact idx_first k l q hq j (by omega)
theorem idx_set {k : Ky} {l : List Bk} {i : Nat} (h : idx k l = i) {b : Bk} (hb : b.k = k) : idx k (l.set i b) = i ∧ nthB (l.set i b) i = b := by
  obtain ⟨h1, h2⟩ := idx_spec k l i h
  have hn : nthB (l.set i b) i = b := by rw [nthB_set l i b i h1, if_pos rfl]
  refine ⟨idx_at k _ i (by simpa using h1) (fun j hj => ?_) (by rw [hn]; exact hb), hn⟩
  rw [nthB_set l i b j (by omega), if_neg (by omega)]
  exact idx_first k l i h j hj
theorem idx_snoc {k : Ky} {l : List Bk} (h : idx k l < 0) {b : Bk} (hb : b.k = k) : idx k (l ++ [b]) = (l.length : Nat) ∧ nthB (l ++ [b]) l.length = b := by
  have hn : nthB (l ++ [b]) l.length = b := by rw [nthB_at (by simp)]; simp
  refine ⟨idx_at k _ l.length (by simp) (fun j hj => ?_) (by rw [hn]; exact hb), hn⟩
  have hm := idx_none k l h
  have e : nthB (l ++ [b]) j = nthB l j := by
    rw [nthB_at (by simp; omega), nthB_at hj, List.getElem_append_left hj]
  rw [e, nthB_at hj]
  exact fun e2 => hm (by rw [← e2]; exact List.mem_map_of_mem (List.getElem_mem hj))
/-- where CacheFull stands behind i rounds -/
structure FullAt (k i : Nat) (s : Cs) : Prop where
  room : s.room = (k : Int)
  fl : s.fl = (((if i = 0 then 0 else (i - 1) / k) : Nat) : Int)
  len : s.bl.length = if i = 0 then 0 else (i - 1) % k + 1
  keys : ∀ b ∈ s.bl, b.pc < (i : Int)
theorem full_new (k gm : Nat) : FullAt k 0 (Cs.new (k : Int) gm) := ⟨rfl, rfl, rfl, by simp [Cs.new]⟩
theorem div_next {k i : Nat} (hk : 0 < k) (hi : 0 < i) : ((i - 1) % k + 1 = k → i % k = 0 ∧ (i - 1) / k + 1 = i / k) ∧ ((i - 1) % k + 1 < k → (i - 1) % k + 1 = i % k ∧ (i - 1) / k = i / k) := by
  obtain ⟨j, rfl⟩ : ∃ j, i = j + 1 := ⟨i - 1, by omega⟩
  have hm := Nat.mod_lt j hk
  have hd := Nat.div_add_mod j k
  rw [Nat.add_sub_cancel]
  constructor
  · intro h
    have e : j + 1 = k * (j / k + 1) := by rw [Nat.mul_add]; omega
    rw [e, Nat.mul_mod_right, Nat.mul_div_cancel_left _ hk]
    exact ⟨rfl, rfl⟩
  · intro h
    have e : j + 1 = k * (j / k) + (j % k + 1) := by omega
    rw [e, Nat.mul_add_mod, Nat.mod_eq_of_lt h, Nat.mul_add_div hk, Nat.div_eq_of_lt h]
    exact ⟨rfl, by omega⟩
theorem full_put {k i : Nat} {s : Cs} (h : FullAt k i s) (hk : 0 < k) (b : Bk) (hb : b.k = ((i : Int), (i : Int))) (A : Option Addr) (c gm : Nat) :
    FullAt k (i + 1) (s.put b A c gm) ∧ (s.put b A c gm).bl.length = i % k + 1 ∧ (s.put b A c gm).fl = ((i / k : Nat) : Int) ∧ ∃ j : Nat, idx b.k (s.put b A c gm).bl = j := by
  have hpc : b.pc = (i : Int) := congrArg Prod.fst hb
  have hneg : idx b.k s.bl < 0 := by
    rw [idx_neg]
    intro hm
    obtain ⟨x, hx, e⟩ := List.mem_map.1 hm
    have h1 := h.keys x hx
    have h2 : x.pc = (i : Int) := congrArg Prod.fst (e.trans hb)
    omega
  unfold Cs.put
  rw [if_neg (by omega)]
  have hlen := h.len
  have hfl := h.fl
  by_cases hf : s.room ≤ (s.bl.length : Int)
  · rw [if_pos hf]
    rw [h.room] at hf
    have hi : 0 < i := by
      rcases Nat.eq_zero_or_pos i with e | e
      · rw [if_pos e] at hlen; omega
      · exact e
    rw [if_neg (by omega)] at hlen hfl
    have hm := Nat.mod_lt (i - 1) hk
    obtain ⟨d1, d2⟩ := (div_next hk hi).1 (by omega)
    have e1 : ((s.flush gm).snoc b A c).bl = [b] := rfl
    have e2 : ((s.flush gm).snoc b A c).fl = s.fl + 1 := rfl
    refine ⟨⟨h.room, ?_, ?_, ?_⟩, ?_, ?_, ?_⟩
    · rw [e2, hfl, if_neg (by omega), Nat.add_sub_cancel]; omega
    · rw [e1, if_neg (by omega), Nat.add_sub_cancel, d1]; rfl
    · rw [e1]; intro x hx
      rw [List.mem_singleton.1 hx]; omega
    · rw [e1, d1]; rfl
    · rw [e2, hfl]; omega
    · rw [e1]; exact ⟨0, by simp [idx]⟩
  · rw [if_neg hf]
    rw [h.room] at hf
    have e1 : (s.snoc b A c).bl = s.bl ++ [b] := rfl
    have e2 : (s.snoc b A c).fl = s.fl := rfl
    have key : s.bl.length = i % k ∧ s.fl = ((i / k : Nat) : Int) := by
      rcases Nat.eq_zero_or_pos i with e | e
      · subst e
        rw [if_pos rfl] at hlen hfl
        rw [Nat.zero_mod, Nat.zero_div]
        exact ⟨hlen, hfl⟩
      · rw [if_neg (by omega)] at hlen hfl
        obtain ⟨d1, d2⟩ := (div_next hk e).2 (by omega)
        exact ⟨by omega, by rw [hfl, d2]⟩
    refine ⟨⟨h.room, ?_, ?_, ?_⟩, ?_, ?_, ?_⟩
    · rw [e2, if_neg (by omega), Nat.add_sub_cancel]; exact key.2
    · rw [e1, if_neg (by omega), Nat.add_sub_cancel, List.length_append, key.1]; rfl
    · rw [e1]; intro x hx
      rcases List.mem_append.1 hx with hx | hx
      · have := h.keys x hx; omega
      · rw [List.mem_singleton.1 hx]; omega
    · rw [e1, List.length_append, key.1]; rfl
    · rw [e2]; exact key.2
    · rw [e1]; exact ⟨_, (idx_snoc hneg rfl).1⟩
theorem full_again {k i : Nat} {s : Cs} (h : FullAt k (i + 1) s) (b : Bk) (hb : b.k = ((i : Int), (i : Int))) {j : Nat} (hj : idx b.k s.bl = j) (A : Option Addr) (c gm : Nat) :
    FullAt k (i + 1) (s.put b A c gm) ∧ (s.put b A c gm).bl.length = s.bl.length ∧ (s.put b A c gm).fl = s.fl ∧ idx b.k (s.put b A c gm).bl = j ∧ nthB (s.put b A c gm).bl j = b := by
  have hpc : b.pc = (i : Int) := congrArg Prod.fst hb
  unfold Cs.put
  rw [if_pos (by omega)]
  have e1 : (s.set b).bl = s.bl.set j b := by show s.bl.set (idx b.k s.bl).toNat b = _; rw [hj]; rfl
  have hl : (s.set b).bl.length = s.bl.length := by rw [e1, List.length_set]
  refine ⟨⟨h.room, h.fl, by rw [hl]; exact h.len, ?_⟩, hl, rfl, by rw [e1]; exact (idx_set hj rfl).1, by rw [e1]; exact (idx_set hj rfl).2⟩
  rw [e1]
  intro x hx
  rcases List.mem_or_eq_of_mem_set hx with hx | hx
  · exact h.keys x hx
  · rw [hx]; omega
end Go.Proofs.Ytfjlgdafakbdoaa.Ca
