/- A unit without paging: plain laws; some of chapter 10's runs (known). -/
import Derived.Test.YthiephlfhbkcbaaMmuB
namespace Go.Proofs.Ythiephlfhbkcbaa.Mu
open Go.RowKit Fm Nt Rm By Wk Rf
set_option linter.unusedVariables false
set_option linter.unusedSimpArgs false
set_option maxHeartbeats 4000000

def rng (va : Int) (n : Nat) : List Int := (List.range n).map (fun (j : Nat) => va + (j : Int))
theorem flt_ne {k : Int} (hk : k = 1 ∨ k = 2 ∨ k = 3) : ¬ flt k = 0 := by rcases hk with rfl | rfl | rfl <;> decide
section
variable {u : Us} {s : Sp} {va k : Int}
theorem turned_plain (hs : s.pg = false) : turnedR u s va k = ⟨va, 0, 0, u⟩ := by unfold turnedR; rw [if_pos hs]
theorem place_plain (hs : s.pg = false) (hk : k = 2 ∨ k = 3) (h : va < (u.m.n : Int) * 64) : placeR u s va k = ⟨va, 0, 0, u⟩ := by
  unfold placeR
  rw [if_neg (flt_ne (.inr hk)), turned_plain hs, if_neg (by simp), if_pos (by simp [thereB, h])]
theorem place_dev (hs : s.pg = false) (hk : k = 2 ∨ k = 3) (h : devB va = true) : placeR u s va k = ⟨va, 0, 0, u⟩ := by
  unfold placeR
  rw [if_neg (flt_ne (.inr hk)), turned_plain hs, if_neg (by simp), if_pos (by rcases hk with rfl | rfl <;> simp [thereB, h])]
theorem place_no (hs : s.pg = false) (hk : k = 2 ∨ k = 3) (h : ¬ va < (u.m.n : Int) * 64) (hd : devB va = false) : placeR u s va k = ⟨0, 10, va, u⟩ := by
  unfold placeR
  rw [if_neg (flt_ne (.inr hk)), turned_plain hs, if_neg (by simp), if_neg (by simp [thereB, h, hd])]
theorem dev_low {p : Int} (h : p < 32768) : devB p = false := by simp [devB]; omega
theorem span_plain (hs : s.pg = false) (hk : k = 2 ∨ k = 3) (n : Nat) (n0 : 1 ≤ n) (n4 : n ≤ 4) (v0 : 0 ≤ va) (h : va + n ≤ (u.m.n : Int) * 64) (hn : u.m.n ≤ 64) : spanR u s va n k = ⟨rng va n, 0, 0, u⟩ := by
  have hp := place_plain (u := u) (va := va) hs hk (by omega)
  unfold spanR
  rw [if_neg (by omega), hp, if_neg (by simp)]
  by_cases hc : 64 - va % 64 < (n : Int)
  · have hnx : nextP va = va / 64 * 64 + 64 := by unfold nextP; omega
    have hq : secR u s va n k = ⟨nextP va, 0, 0, u⟩ := by
      unfold secR
      rw [if_pos hc, hp]
      exact place_plain hs hk (by show nextP va < (u.m.n : Int) * 64; rw [hnx]; omega)
    have hd1 : devB va = false := dev_low (by omega)
    have hd2 : devB (nextP va) = false := dev_low (by rw [hnx]; omega)
    rw [hq, if_neg (by simp), if_neg (by simp [hd1]), if_neg (by simp [hd2])]
    show (⟨spots (64 - va % 64) va (nextP va) ((n : Int)).toNat, 0, 0, u⟩ : Lr) = _
    rw [show ((n : Int)).toNat = n from rfl]
    congr 1
    unfold spots rng
    apply List.map_congr_left
    intro j hj
    unfold spot
    split
    · rfl
    · rw [hnx]; omega
  · have hq : secR u s va n k = ⟨0, 0, 0, u⟩ := by
      unfold secR
      rw [if_neg hc, hp]
    have hd1 : devB va = false := dev_low (by omega)
    rw [hq, if_neg (by simp), if_neg (by simp [hd1]), if_neg (fun e => hc e.1)]
    show (⟨spots (64 - va % 64) va 0 ((n : Int)).toNat, 0, 0, u⟩ : Lr) = _
    rw [show ((n : Int)).toNat = n from rfl]
    congr 1
    unfold spots rng
    apply List.map_congr_left
    intro j hj
    have := List.mem_range.1 hj
    unfold spot
    rw [if_pos (by omega)]
theorem span_no (hs : s.pg = false) (hk : k = 2 ∨ k = 3) (n : Nat) (n0 : 1 ≤ n) (n4 : n ≤ 4) (v0 : 0 ≤ va) (v1 : va < 32000) (h : ¬ va + n ≤ (u.m.n : Int) * 64) (hn : u.m.n ≤ 64) : spanR u s va n k = ⟨[], 10, if va < (u.m.n : Int) * 64 then (u.m.n : Int) * 64 else va, u⟩ := by
  unfold spanR
  rw [if_neg (by omega)]
  by_cases hv : va < (u.m.n : Int) * 64
  · have hp := place_plain (u := u) (va := va) hs hk hv
    have hnx : nextP va = (u.m.n : Int) * 64 := by unfold nextP; omega
    have hq : secR u s va n k = ⟨0, 10, (u.m.n : Int) * 64, u⟩ := by
      unfold secR
      rw [if_pos (by omega), hp, hnx]
      exact place_no hs hk (by show ¬ (u.m.n : Int) * 64 < (u.m.n : Int) * 64; omega) (dev_low (by omega))
    rw [hp, if_neg (by simp), hq, if_pos (by show (10 : Int) ≠ 0; omega), if_pos hv]
  · rw [place_no hs hk hv (dev_low (by omega)), if_pos (by show (10 : Int) ≠ 0; omega), if_neg hv]
end
theorem rng_len (va : Int) (n : Nat) : (rng va n).length = n := by simp [rng]
theorem rng_at (va : Int) {n j : Nat} (h : j < n) : (rng va n).getD j 0 = va + (j : Int) := by simp [rng, List.getD_eq_getElem?_getD, h]
/-- a byte of what was loaded -/
theorem join_byte {w : World} {a : Am} {m : Ms} (h : Mem w a m) : ∀ (l : List Int), (∀ p ∈ l, 0 ≤ p) → ∀ j, j < l.length → join m l / 256 ^ j % 256 = memV m (l.getD j 0)
  | [], _, j, hj => absurd hj (by simp)
  | p :: ps, hl, 0, _ => by
    have h1 := memV_bd h p (hl p (List.mem_cons_self ..))
    simp [join]
    omega
  | p :: ps, hl, j + 1, hj => by
    have h1 := memV_bd h p (hl p (List.mem_cons_self ..))
    have h2 := join_byte h ps (fun q hq => hl q (List.mem_cons_of_mem _ hq)) j (by simpa using hj)
    have e : (256 : Int) ^ (j + 1) = 256 * 256 ^ j := by rw [Int.pow_succ, Int.mul_comm]
    rw [join, e, ← Int.ediv_ediv_of_nonneg (by omega)]
    have e2 : (memV m p + 256 * join m ps) / 256 = join m ps := by omega
    rw [e2, h2]
    simp
theorem putI_mem (m : Ms) (p b : Int) (j : Nat) (p0 : 0 ≤ p) (hp : p < (m.n : Int) * 64) : (m.putI p b).mem j = if (j : Int) = p then b else m.mem j := by
  unfold Ms.putI
  rw [if_pos (by simp [inB]; omega)]
  show updI m.mem p.toNat b j = _
  unfold updI
  by_cases h : (j : Int) = p
  · rw [if_pos (by omega), if_pos h]
  · rw [if_neg (by omega), if_neg h]
/-- bytes of a word that is stored in a row -/
theorem stor_rng (m : Ms) (va v : Int) (n : Nat) (v0 : 0 ≤ va) (h : va + n ≤ (m.n : Int) * 64) : ∀ r, r ≤ n → ∀ j : Nat, (stor m (rng va n) v r).mem j = if va ≤ (j : Int) ∧ (j : Int) < va + r then v / 256 ^ ((j : Int) - va).toNat % 256 else m.mem j
  | 0, _, j => by rw [if_neg (by omega)]; rfl
  | r + 1, hr, j => by
    have ih := stor_rng m va v n v0 h r (by omega) j
    show ((stor m (rng va n) v r).putI ((rng va n).getD r 0) (v / 256 ^ r % 256)).mem j = _
    rw [rng_at va (by omega), putI_mem _ _ _ _ (by omega) (by rw [stor_n]; omega), ih]
    by_cases e : (j : Int) = va + r
    · rw [if_pos e, if_pos (by omega), show ((j : Int) - va).toNat = r by omega]
    · rw [if_neg e]
      by_cases e2 : va ≤ (j : Int) ∧ (j : Int) < va + r
      · rw [if_pos e2, if_pos (by omega)]
      · rw [if_neg e2, if_neg (by omega)]
/-- a plain load's value is its bytes -/
theorem loadV_plain {u : Us} {s : Sp} {va : Int} (hs : s.pg = false) (n : Nat) (n0 : 1 ≤ n) (n4 : n ≤ 4) (v0 : 0 ≤ va) (h : va + n ≤ (u.m.n : Int) * 64) (hn : u.m.n ≤ 64) : loadV u s va n = join u.m (rng va n) := by
  unfold loadV
  rw [span_plain hs (.inl rfl) n n0 n4 v0 h hn]
theorem loadV_no {u : Us} {s : Sp} {va : Int} (hs : s.pg = false) (n : Nat) (n0 : 1 ≤ n) (n4 : n ≤ 4) (v0 : 0 ≤ va) (v1 : va < 32000) (h : ¬ va + n ≤ (u.m.n : Int) * 64) (hn : u.m.n ≤ 64) : loadV u s va n = 0 := by
  unfold loadV
  rw [span_no hs (.inl rfl) n n0 n4 v0 v1 h hn]
  rfl
theorem storeU_plain {u : Us} {s : Sp} {va v : Int} (hs : s.pg = false) (n : Nat) (n0 : 1 ≤ n) (n4 : n ≤ 4) (v0 : 0 ≤ va) (h : va + n ≤ (u.m.n : Int) * 64) (hn : u.m.n ≤ 64) : storeU u s va v n = ⟨stor u.m (rng va n) v n, u.l⟩ := by
  unfold storeU
  rw [span_plain hs (.inr rfl) n n0 n4 v0 h hn]
  show (⟨stor u.m (rng va n) v (rng va n).length, u.l⟩ : Us) = _
  rw [rng_len]
theorem storeU_no {u : Us} {s : Sp} {va v : Int} (hs : s.pg = false) (n : Nat) (n0 : 1 ≤ n) (n4 : n ≤ 4) (v0 : 0 ≤ va) (v1 : va < 32000) (h : ¬ va + n ≤ (u.m.n : Int) * 64) (hn : u.m.n ≤ 64) : storeU u s va v n = u := by
  unfold storeU
  rw [span_no hs (.inr rfl) n n0 n4 v0 v1 h hn]
  rfl
end Go.Proofs.Ythiephlfhbkcbaa.Mu
