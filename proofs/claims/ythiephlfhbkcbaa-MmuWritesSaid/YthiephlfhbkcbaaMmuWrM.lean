/- MmuOk, MmuW, MmuTab, MmuTell, MmuWrites, in one text. -/
import Derived.Test.YthiephlfhbkcbaaMmuS
import Derived.Test.YthiephlfhbkcbaaMmuQ
import Derived.Test.YthiephlfhbkcbaaMmuOpen
import Derived.Test.YthiephlfhbkcbaaWalkT
import Derived.Test.YthiephlfhbkcbaaWalkB
import Derived.Deep.RegionHeld
import Derived.Deep.Slices
import Derived.Test.YthiephlfhbkcbaaMmuK
import Derived.Deep.QuietTactic
import Derived.BigQuiet
import Derived.Deep.Cut
namespace Go.Proofs.Ythiephlfhbkcbaa.Mu
open Go.RowKit Fm Nt Rm By Wk
set_option linter.unusedVariables false
set_option linter.unusedSimpArgs false

theorem Un.ok {w : World} {A : Au} {u : Us} (h : Un w A u) : u.Ok := ⟨h.M.n0, h.M.bd⟩
section
variable {u : Us} {s : Sp} {va k n v : Int}
theorem Us.Ok.wb (h : u.Ok) (Q : Int) (h0 : 0 ≤ Q) : 0 ≤ wrdV u.m Q ∧ wrdV u.m Q ≤ 4294967295 := by
  unfold wrdV
  split
  · rename_i hb
    have hat : Q + 4 ≤ (u.m.n : Int) * 64 := by simpa [inB] using hb
    obtain ⟨i, rfl⟩ : ∃ i : Nat, Q = i := ⟨Q.toNat, by omega⟩
    rw [show (i : Int).toNat = i from rfl]
    have b0 := h.bd (i + 0) (by omega)
    have b1 := h.bd (i + 1) (by omega)
    have b2 := h.bd (i + 2) (by omega)
    have b3 := h.bd (i + 3) (by omega)
    show 0 ≤ (((0 * 256 + u.m.mem (i + 3)) * 256 + u.m.mem (i + 2)) * 256 + u.m.mem (i + 1)) * 256 + u.m.mem (i + 0) ∧ (((0 * 256 + u.m.mem (i + 3)) * 256 + u.m.mem (i + 2)) * 256 + u.m.mem (i + 1)) * 256 + u.m.mem (i + 0) ≤ 4294967295
    omega
  · omega
theorem Us.Ok.leaf (h : u.Ok) (rt va : Int) (r0 : 0 ≤ rt) (v0 : 0 ≤ va) : 0 ≤ lkLeaf u.m rt va ∧ lkLeaf u.m rt va ≤ 4294967295 := by
  unfold lkLeaf
  split
  · have h1 := h.wb (lkA rt va) (by unfold lkA; omega)
    exact h.wb _ (by unfold lkB; omega)
  · omega
theorem Us.Ok.at_ (h : u.Ok) (rt va : Int) (r0 : 0 ≤ rt) (v0 : 0 ≤ va) : 0 ≤ lkAt u.m rt va ∧ lkAt u.m rt va ≤ 4096 := by
  have hn := h.n0
  unfold lkAt
  split
  · rename_i hq
    have h1 := h.wb (lkA rt va) (by unfold lkA; omega)
    simp only [lkOk, Bool.and_eq_true, inB, decide_eq_true_eq] at hq
    have := hq.2.2.2
    refine ⟨by unfold lkB; omega, by omega⟩
  · omega
theorem lk_in {m : Ms} {rt va : Int} (hlo : lkOk m rt va = true) : inB m (lkAt m rt va) 4 = true := by
  have hq := hlo
  simp only [lkOk, Bool.and_eq_true] at hq
  rw [lkAt, hlo, if_pos rfl]
  exact hq.2.2.2
theorem do_lk {m : Ms} {rt va k : Int} {s : Bool} (h : doOk m rt va k s = true) : lkOk m rt va = true := by cases hq : lkOk m rt va <;> simp [doOk, hq] at h ⊢
theorem putW_bd {m : Ms} (hb : ∀ i, i < m.n * 64 → 0 ≤ m.mem i ∧ m.mem i < 256) (P x : Int) (x0 : 0 ≤ x) (x1 : x ≤ 4294967295) : ∀ i, i < (m.putW P x).n * 64 → 0 ≤ (m.putW P x).mem i ∧ (m.putW P x).mem i < 256 := by
  intro i hi
  unfold Ms.putW at hi ⊢
  split
  · rename_i h
    rw [if_pos h, puts_n] at hi
    rw [puts_mem]
    split
    · rename_i hq
      have e : i - P.toNat = 0 ∨ i - P.toNat = 1 ∨ i - P.toNat = 2 ∨ i - P.toNat = 3 := by omega
      rcases e with e | e | e | e <;> rw [e] <;> simp [wby] <;> omega
    · exact hb i hi
  · rename_i h
    rw [if_neg h] at hi
    exact hb i hi
theorem Us.Ok.walked (h : u.Ok) (rt va k : Int) (r0 : 0 ≤ rt) (v0 : 0 ≤ va) : (u.walked rt va k).Ok := by
  have hl := h.leaf rt va r0 v0
  have hn := now_bd k _ hl.1 hl.2
  refine ⟨?_, ?_⟩
  · show 1 ≤ (doMs u.m rt va k).n ∧ (doMs u.m rt va k).n ≤ 64
    rw [doMs_n]
    exact h.n0
  · show ∀ i, i < (doMs u.m rt va k).n * 64 → 0 ≤ (doMs u.m rt va k).mem i ∧ (doMs u.m rt va k).mem i < 256
    unfold doMs
    split
    · exact h.bd
    · exact putW_bd h.bd _ _ hn.1 hn.2
theorem Us.Ok.turned (h : u.Ok) (r0 : 0 ≤ s.rt) (v0 : 0 ≤ va) : (turnedR u s va k).u.Ok := by
  unfold turnedR
  split
  · exact h
  · split
    · exact h
    · split
      · exact h.walked _ _ _ r0 v0
      · exact h
theorem Us.Ok.place (h : u.Ok) (r0 : 0 ≤ s.rt) (v0 : 0 ≤ va) : (placeR u s va k).u.Ok := by
  unfold placeR
  split
  · exact h
  · split
    · exact h.turned r0 v0
    · split
      · exact h.turned r0 v0
      · exact h.turned r0 v0
theorem nextP_bd (h : 0 ≤ va) : 0 ≤ nextP va ∧ nextP va ≤ 4294967295 := by unfold nextP; omega
theorem Us.Ok.sec (h : u.Ok) (r0 : 0 ≤ s.rt) (v0 : 0 ≤ va) : (secR u s va n k).u.Ok := by
  unfold secR
  split
  · exact (h.place r0 v0).place r0 (nextP_bd v0).1
  · exact h.place r0 v0
theorem Us.Ok.span (h : u.Ok) (r0 : 0 ≤ s.rt) (v0 : 0 ≤ va) : (spanR u s va n k).u.Ok := by
  unfold spanR
  split
  · exact h
  · split
    · exact h.place r0 v0
    · split
      · exact h.sec r0 v0
      · split
        · exact h.sec r0 v0
        · split
          · exact h.sec r0 v0
          · exact h.sec r0 v0
theorem turned_bd' (h : u.Ok) (r0 : 0 ≤ s.rt) (v0 : 0 ≤ va) (v1 : va ≤ 4294967295) : 0 ≤ (turnedR u s va k).p ∧ (turnedR u s va k).p ≤ 4294967295 := by
  unfold turnedR
  split
  · exact ⟨v0, v1⟩
  · split
    · exact found_bd _ _ _ _ v0
    · split
      · have h1 := h.leaf s.rt va r0 v0
        have h2 := now_bd k _ h1.1 h1.2
        dsimp only
        omega
      · exact ⟨Int.le_refl _, by show (0 : Int) ≤ 4294967295; omega⟩
theorem place_in' (h : u.Ok) (r0 : 0 ≤ s.rt) (v0 : 0 ≤ va) (v1 : va ≤ 4294967295) (hc : (placeR u s va k).c = 0) : (placeR u s va k).a = 0 ∧ 0 ≤ (placeR u s va k).p ∧ (placeR u s va k).p ≤ 4294967295 ∧ (devB (placeR u s va k).p = false → (placeR u s va k).p < ((placeR u s va k).u.m.n : Int) * 64) := by
  have hb := turned_bd' (k := k) h r0 v0 v1
  unfold placeR at hc ⊢
  split
  · rename_i hq
    rw [if_pos hq] at hc
    exact absurd hc (by show ¬ (10 : Int) = 0; omega)
  · rename_i hq
    rw [if_neg hq] at hc
    split
    · rename_i hq2
      rw [if_pos hq2] at hc
      exact absurd hc hq2
    · rename_i hq2
      rw [if_neg hq2] at hc
      split
      · rename_i hq3
        refine ⟨rfl, hb.1, hb.2, fun hd => ?_⟩
        have hd : devB (turnedR u s va k).p = false := hd
        unfold thereB at hq3
        simpa [hd] using hq3
      · rename_i hq3
        rw [if_neg hq3] at hc
        exact absurd hc (by show ¬ (10 : Int) = 0; omega)
theorem turned_n : (turnedR u s va k).u.m.n = u.m.n := by
  unfold turnedR
  split
  · rfl
  · split
    · rfl
    · split
      · exact doMs_n _ _ _ _
      · rfl
theorem place_n : (placeR u s va k).u.m.n = u.m.n := by
  unfold placeR
  split
  · rfl
  · split
    · exact turned_n
    · split
      · exact turned_n
      · exact turned_n
theorem sec_n : (secR u s va n k).u.m.n = u.m.n := by
  unfold secR
  split
  · exact place_n.trans place_n
  · exact place_n
theorem span_n : (spanR u s va n k).u.m.n = u.m.n := by
  unfold spanR
  split
  · rfl
  · split
    · exact place_n
    · split
      · exact sec_n
      · split
        · exact sec_n
        · split
          · exact sec_n
          · exact sec_n
end
end Go.Proofs.Ythiephlfhbkcbaa.Mu
namespace Go.Proofs.Ythiephlfhbkcbaa.Mu
open Go.RowKit Fm Nt Rm By Wk
set_option linter.unusedVariables false
set_option linter.unusedSimpArgs false
set_option maxHeartbeats 1000000

/-- an address is kept: where it is -/
def HitP (u : Us) (su : Bool) (va p : Int) : Prop := Tl.hit (u.l (idx va)) va 2 su = true ∧ Tl.found (u.l (idx va)) va 2 su = p
section
variable {u : Us} {su : Bool} {rt va va' p n : Int}
theorem hit_page {e : Tl.Ent} (h : va / 64 = va' / 64) : Tl.hit e va 2 su = Tl.hit e va' 2 su := by unfold Tl.hit; rw [h]
theorem HitP.page (h : HitP u su va p) (e : va' / 64 = va / 64) : HitP u su va' (p - va % 64 + va' % 64) := by
  have hi : idx va' = idx va := by unfold idx; rw [e]
  obtain ⟨h1, h2⟩ := h
  refine ⟨by rw [hi, hit_page e]; exact h1, ?_⟩
  have h1' : Tl.hit (u.l (idx va)) va' 2 su = true := by rw [hit_page e]; exact h1
  rw [Tl.found, if_pos h1] at h2
  rw [hi, Tl.found, if_pos h1']
  omega
theorem HitP.turned (h : HitP u su va p) : turnedR u ⟨true, su, rt⟩ va 2 = ⟨p, 0, 0, u⟩ := by
  unfold turnedR
  rw [if_neg (by simp), if_pos h.1]
  rw [h.2]
theorem HitP.place (h : HitP u su va p) (hp : p < (u.m.n : Int) * 64) : placeR u ⟨true, su, rt⟩ va 2 = ⟨p, 0, 0, u⟩ := by
  unfold placeR
  rw [if_neg (by decide), h.turned, if_neg (by simp), if_pos (by simp [thereB, hp])]
/-- what a walk lays is found -/
theorem walked_hit (hO : u.Ok) (r0 : 0 ≤ rt) (v0 : 0 ≤ va) (hd : doOk u.m rt va 2 su = true) : HitP (u.walked rt va 2) su va (now 2 (lkLeaf u.m rt va) / 256 * 64 + va % 64) := by
  have ho := do_lk hd
  have hlb := hO.leaf rt va r0 v0
  obtain ⟨a, ha⟩ : ∃ a : Nat, lkLeaf u.m rt va = a := ⟨(lkLeaf u.m rt va).toNat, by omega⟩
  have ha32 : a < 4294967296 := by omega
  have hnl := nowN_lt 2 a ha32
  have hnow : now 2 (lkLeaf u.m rt va) = (nowN 2 a : Int) := by rw [ha, now_nat 2 a ha32]
  have hbits : bits .and .u32 (now 2 (lkLeaf u.m rt va)) 94 = ((nowN 2 a &&& 94 : Nat) : Int) := by
    rw [hnow, show (94 : Int) = ((94 : Nat) : Int) from rfl, andN _ 94 hnl (by omega)]
  have hq := hd
  unfold doOk at hq
  rw [ho, ha, Bool.true_and] at hq
  have hq := of_decide_eq_true hq
  have key : ∀ C B : Nat, B < 4294967296 → C < 4294967296 → Wk.ask 2 su = B → Tl.asks 2 su = C → B &&& C = C → 94 &&& C = C → bits .and .u32 ((nowN 2 a &&& 94 : Nat) : Int) (Tl.asks 2 su) = Tl.asks 2 su := fun C B hB hC hk hs h1 h2 => by
    rw [hk, andN a B ha32 hB] at hq
    have hq' : a &&& B = B := by omega
    have h3 : a &&& C = C := by rw [← h1, ← Nat.and_assoc, hq']
    have h4 : nowN 2 a &&& C = C := nowN_and 2 a C h3
    rw [hs, andN _ C (Nat.lt_of_le_of_lt Nat.and_le_left hnl) hC, Nat.and_assoc, h2, h4]
  have hk : bits .and .u32 ((nowN 2 a &&& 94 : Nat) : Int) (Tl.asks 2 su) = Tl.asks 2 su := by
    cases su
    · exact key 18 19 (by omega) (by omega) rfl rfl (by decide) (by decide)
    · exact key 2 3 (by omega) (by omega) rfl rfl (by decide) (by decide)
  have he : (u.walked rt va 2).l (idx va) = entOf u.m rt va 2 := Tl.upd_same _ _ _
  have hh : Tl.hit (entOf u.m rt va 2) va 2 su = true := by
    unfold Tl.hit entOf
    simp only [hbits, hk]
    simp
  have hnb := now_bd 2 _ hlb.1 hlb.2
  refine ⟨by rw [he]; exact hh, ?_⟩
  rw [he, Tl.found, if_pos hh]
  show now 2 (lkLeaf u.m rt va) / 256 * 64 % 4294967296 + va % 64 = _
  omega
/-- a place that is told is found again -/
theorem place_hit (hO : u.Ok) (r0 : 0 ≤ rt) (v0 : 0 ≤ va) (hc : (placeR u ⟨true, su, rt⟩ va 2).c = 0) : HitP (placeR u ⟨true, su, rt⟩ va 2).u su va (placeR u ⟨true, su, rt⟩ va 2).p ∧ (placeR u ⟨true, su, rt⟩ va 2).p % 64 = va % 64 := by
  have ht : (turnedR u ⟨true, su, rt⟩ va 2).c = 0 → HitP (turnedR u ⟨true, su, rt⟩ va 2).u su va (turnedR u ⟨true, su, rt⟩ va 2).p ∧ (turnedR u ⟨true, su, rt⟩ va 2).p % 64 = va % 64 := by
    intro hc
    unfold turnedR at hc ⊢
    rw [if_neg (by simp)] at hc ⊢
    split at hc
    · rename_i hh
      rw [if_pos hh]
      exact ⟨⟨hh, rfl⟩, found_mod _ _ _ _ v0 hh⟩
    · rename_i hh
      rw [if_neg hh]
      split at hc
      · rename_i hd
        rw [if_pos hd]
        exact ⟨walked_hit hO r0 v0 hd, by show (now 2 (lkLeaf u.m rt va) / 256 * 64 + va % 64) % 64 = va % 64; omega⟩
      · exact absurd hc (by show ¬ flt 2 = 0; decide)
  unfold placeR at hc ⊢
  rw [if_neg (by decide)] at hc ⊢
  split at hc
  · rename_i hq
    exact absurd hc hq
  · rename_i hq
    rw [if_neg hq]
    split at hc
    · rename_i hq2
      rw [if_pos hq2]
      exact ht (by simpa using hq)
    · exact absurd hc (by show ¬ (10 : Int) = 0; omega)
/-- another page's walk leaves it -/
theorem HitP.stay (h : HitP u su va p) (k : Int) (hne : idx va' ≠ idx va) : HitP (placeR u ⟨true, su, rt⟩ va' k).u su va p := by
  have ht : ((turnedR u ⟨true, su, rt⟩ va' k).u.l) (idx va) = u.l (idx va) := by
    unfold turnedR
    rw [if_neg (by simp)]
    split
    · rfl
    · split
      · exact Tl.upd_other _ _ (fun e => hne e.symm)
      · rfl
  have hp : ((placeR u ⟨true, su, rt⟩ va' k).u.l) (idx va) = u.l (idx va) := by
    unfold placeR
    split
    · rfl
    · split
      · exact ht
      · split
        · exact ht
        · exact ht
  exact ⟨by rw [hp]; exact h.1, by rw [hp]; exact h.2⟩
end
/-- loaded bytes: each is found again where it was, and nothing turns -/
theorem again_bytes {u : Us} (hO : u.Ok) (s : Sp) (va : Int) (n : Nat) (r0 : 0 ≤ s.rt) (v0 : 0 ≤ va) (v1 : va < 4294960000) (hc : (spanR u s va n 2).c = 0) :
    (spanR u s va n 2).l.length = n ∧ ∀ j, j < n → 0 ≤ (spanR u s va n 2).l.getD j 0 ∧ (spanR u s va n 2).l.getD j 0 < (u.m.n : Int) * 64 ∧ placeR (spanR u s va n 2).u s (va + (j : Int)) 2 = ⟨(spanR u s va n 2).l.getD j 0, 0, 0, (spanR u s va n 2).u⟩ := by
  obtain ⟨pg, su, rt⟩ := s
  dsimp only at r0
  have hn64 := hO.n0.2
  have hP := place_in' (u := u) (s := ⟨pg, su, rt⟩) (va := va) (k := 2) hO r0 v0 (by omega)
  have hPn : (placeR u ⟨pg, su, rt⟩ va 2).u.m.n = u.m.n := place_n
  have hPO : (placeR u ⟨pg, su, rt⟩ va 2).u.Ok := hO.place (s := ⟨pg, su, rt⟩) r0 v0
  have hnx : nextP va = va / 64 * 64 + 64 := by unfold nextP; omega
  have hlow : ∀ q : Int, q < (u.m.n : Int) * 64 → devB q = false := fun q hq => dev_low (by omega)
  unfold spanR at hc ⊢
  by_cases h1 : (n : Int) < 1 ∨ 4 < (n : Int)
  · rw [if_pos h1] at hc
    exact absurd hc (by show ¬ (10 : Int) = 0; omega)
  rw [if_neg h1] at hc ⊢
  by_cases h2 : (placeR u ⟨pg, su, rt⟩ va 2).c ≠ 0
  · rw [if_pos h2] at hc
    exact absurd hc h2
  rw [if_neg h2] at hc ⊢
  have h2 : (placeR u ⟨pg, su, rt⟩ va 2).c = 0 := by simpa using h2
  by_cases h3 : (secR u ⟨pg, su, rt⟩ va n 2).c ≠ 0
  · rw [if_pos h3] at hc
    exact absurd hc h3
  rw [if_neg h3] at hc ⊢
  have h3 : (secR u ⟨pg, su, rt⟩ va n 2).c = 0 := by simpa using h3
  by_cases h4 : devB (placeR u ⟨pg, su, rt⟩ va 2).p = true
  · rw [if_pos h4] at hc
    exact absurd hc (by show ¬ (10 : Int) = 0; omega)
  rw [if_neg h4] at hc ⊢
  by_cases h5 : 64 - va % 64 < (n : Int) ∧ devB (secR u ⟨pg, su, rt⟩ va n 2).p = true
  · rw [if_pos h5] at hc
    exact absurd hc (by show ¬ (10 : Int) = 0; omega)
  rw [if_neg h5]
  have h4 : devB (placeR u ⟨pg, su, rt⟩ va 2).p = false := by simpa using h4
  obtain ⟨_, p0, p1, p2⟩ := hP h2
  have p2 := p2 h4
  rw [hPn] at p2
  refine ⟨by show (spots _ _ _ ((n : Int)).toNat).length = n; rw [spots_len]; rfl, fun j hj => ?_⟩
  show 0 ≤ (spots (64 - va % 64) (placeR u ⟨pg, su, rt⟩ va 2).p (secR u ⟨pg, su, rt⟩ va n 2).p ((n : Int)).toNat).getD j 0 ∧ (spots (64 - va % 64) (placeR u ⟨pg, su, rt⟩ va 2).p (secR u ⟨pg, su, rt⟩ va n 2).p ((n : Int)).toNat).getD j 0 < _ ∧ placeR (secR u ⟨pg, su, rt⟩ va n 2).u ⟨pg, su, rt⟩ (va + (j : Int)) 2 = ⟨(spots (64 - va % 64) (placeR u ⟨pg, su, rt⟩ va 2).p (secR u ⟨pg, su, rt⟩ va n 2).p ((n : Int)).toNat).getD j 0, 0, 0, (secR u ⟨pg, su, rt⟩ va n 2).u⟩
  rw [show ((n : Int)).toNat = n from rfl, spots_at _ _ _ hj]
  by_cases hcr : 64 - va % 64 < (n : Int)
  · have e3 : secR u ⟨pg, su, rt⟩ va n 2 = placeR (placeR u ⟨pg, su, rt⟩ va 2).u ⟨pg, su, rt⟩ (nextP va) 2 := by unfold secR; rw [if_pos hcr]
    rw [e3] at h3 h5 ⊢
    have h5 : devB (placeR (placeR u ⟨pg, su, rt⟩ va 2).u ⟨pg, su, rt⟩ (nextP va) 2).p = false := by
      cases hq : devB (placeR (placeR u ⟨pg, su, rt⟩ va 2).u ⟨pg, su, rt⟩ (nextP va) 2).p
      · rfl
      · exact absurd ⟨hcr, hq⟩ h5
    obtain ⟨_, q0, q1, q2⟩ := place_in' (u := (placeR u ⟨pg, su, rt⟩ va 2).u) (s := ⟨pg, su, rt⟩) (va := nextP va) (k := 2) hPO r0 (by omega) (by omega) h3
    have q2 := q2 h5
    have hQn : (placeR (placeR u ⟨pg, su, rt⟩ va 2).u ⟨pg, su, rt⟩ (nextP va) 2).u.m.n = u.m.n := place_n.trans hPn
    rw [hQn] at q2
    cases pg
    · have f1 := place_plain (u := u) (s := ⟨false, su, rt⟩) (va := va) (k := 2) rfl (.inl rfl)
      have hva : va < (u.m.n : Int) * 64 := by
        rcases Int.lt_or_le va ((u.m.n : Int) * 64) with h | h
        · exact h
        · have hd : devB va = false := by
            cases hq : devB va
            · rfl
            · rw [place_dev (u := u) (s := ⟨false, su, rt⟩) rfl (.inl rfl) hq] at h4
              rw [show (⟨va, 0, 0, u⟩ : Pr).p = va from rfl, hq] at h4
              cases h4
          rw [place_no (u := u) (s := ⟨false, su, rt⟩) rfl (.inl rfl) (by omega) hd] at h2
          exact absurd h2 (by show ¬ (10 : Int) = 0; omega)
      rw [f1 hva] at q2 h3 h5 hQn ⊢
      have hnv : nextP va < (u.m.n : Int) * 64 := by
        rcases Int.lt_or_le (nextP va) ((u.m.n : Int) * 64) with h | h
        · exact h
        · have hd : devB (nextP va) = false := dev_low (by omega)
          rw [place_no (u := u) (s := ⟨false, su, rt⟩) rfl (.inl rfl) (by omega) hd] at h3
          exact absurd h3 (by show ¬ (10 : Int) = 0; omega)
      rw [place_plain (u := u) (s := ⟨false, su, rt⟩) rfl (.inl rfl) hnv]
      have hs : spot (64 - va % 64) va (nextP va) j = va + (j : Int) := by
        unfold spot
        split
        · rfl
        · rw [hnx]; omega
      show 0 ≤ spot (64 - va % 64) va (nextP va) j ∧ spot (64 - va % 64) va (nextP va) j < _ ∧ placeR u ⟨false, su, rt⟩ (va + (j : Int)) 2 = ⟨spot (64 - va % 64) va (nextP va) j, 0, 0, u⟩
      rw [hs]
      have hlt : va + (j : Int) < (u.m.n : Int) * 64 := by omega
      exact ⟨by omega, hlt, place_plain rfl (.inl rfl) hlt⟩
    · obtain ⟨g1, g2⟩ := place_hit (u := u) hO r0 v0 h2
      obtain ⟨g3, g4⟩ := place_hit (u := (placeR u ⟨true, su, rt⟩ va 2).u) hPO r0 (by omega) h3
      have hne : idx (nextP va) ≠ idx va := by unfold idx; rw [hnx]; omega
      have g5 := HitP.stay (rt := rt) g1 2 hne
      generalize placeR (placeR u ⟨true, su, rt⟩ va 2).u ⟨true, su, rt⟩ (nextP va) 2 = y at *
      generalize placeR u ⟨true, su, rt⟩ va 2 = x at *
      by_cases hjl : (j : Int) < 64 - va % 64
      · have e : spot (64 - va % 64) x.p y.p j = x.p + (j : Int) := by unfold spot; rw [if_pos hjl]
        rw [e]
        have g6 := g5.page (va' := va + (j : Int)) (by omega)
        rw [show x.p - va % 64 + (va + (j : Int)) % 64 = x.p + (j : Int) by omega] at g6
        have hlt : x.p + (j : Int) < (u.m.n : Int) * 64 := by omega
        exact ⟨by omega, hlt, g6.place (by rw [hQn]; exact hlt)⟩
      · have e : spot (64 - va % 64) x.p y.p j = y.p + ((j : Int) - (64 - va % 64)) := by unfold spot; rw [if_neg hjl]
        rw [e]
        have g6 := g3.page (va' := va + (j : Int)) (by rw [hnx]; omega)
        rw [show y.p - nextP va % 64 + (va + (j : Int)) % 64 = y.p + ((j : Int) - (64 - va % 64)) by rw [hnx]; omega] at g6
        have hlt : y.p + ((j : Int) - (64 - va % 64)) < (u.m.n : Int) * 64 := by rw [hnx] at g4; omega
        exact ⟨by omega, hlt, g6.place (by rw [hQn]; exact hlt)⟩
  · have e3 : secR u ⟨pg, su, rt⟩ va n 2 = ⟨0, 0, 0, (placeR u ⟨pg, su, rt⟩ va 2).u⟩ := by unfold secR; rw [if_neg hcr]
    rw [e3]
    have e : spot (64 - va % 64) (placeR u ⟨pg, su, rt⟩ va 2).p 0 j = (placeR u ⟨pg, su, rt⟩ va 2).p + (j : Int) := by unfold spot; rw [if_pos (by omega)]
    show 0 ≤ spot (64 - va % 64) (placeR u ⟨pg, su, rt⟩ va 2).p 0 j ∧ spot (64 - va % 64) (placeR u ⟨pg, su, rt⟩ va 2).p 0 j < _ ∧ placeR (placeR u ⟨pg, su, rt⟩ va 2).u ⟨pg, su, rt⟩ (va + (j : Int)) 2 = ⟨spot (64 - va % 64) (placeR u ⟨pg, su, rt⟩ va 2).p 0 j, 0, 0, (placeR u ⟨pg, su, rt⟩ va 2).u⟩
    rw [e]
    cases pg
    · have hva : va < (u.m.n : Int) * 64 := by
        rcases Int.lt_or_le va ((u.m.n : Int) * 64) with h | h
        · exact h
        · have hd : devB va = false := by
            cases hq : devB va
            · rfl
            · rw [place_dev (u := u) (s := ⟨false, su, rt⟩) rfl (.inl rfl) hq] at h4
              rw [show (⟨va, 0, 0, u⟩ : Pr).p = va from rfl, hq] at h4
              cases h4
          rw [place_no (u := u) (s := ⟨false, su, rt⟩) rfl (.inl rfl) (by omega) hd] at h2
          exact absurd h2 (by show ¬ (10 : Int) = 0; omega)
      rw [place_plain (u := u) (s := ⟨false, su, rt⟩) rfl (.inl rfl) hva]
      have hlt : va + (j : Int) < (u.m.n : Int) * 64 := by omega
      exact ⟨by show 0 ≤ va + (j : Int); omega, hlt, place_plain rfl (.inl rfl) hlt⟩
    · obtain ⟨g1, g2⟩ := place_hit (u := u) hO r0 v0 h2
      generalize placeR u ⟨true, su, rt⟩ va 2 = x at *
      have g6 := g1.page (va' := va + (j : Int)) (by omega)
      rw [show x.p - va % 64 + (va + (j : Int)) % 64 = x.p + (j : Int) by omega] at g6
      have hlt : x.p + (j : Int) < (u.m.n : Int) * 64 := by omega
      exact ⟨by omega, hlt, g6.place (by rw [hPn]; exact hlt)⟩
end Go.Proofs.Ythiephlfhbkcbaa.Mu
namespace Go.Proofs.Ythiephlfhbkcbaa.Mu
open Go.RowKit Fm Nt Rm By Wk
open Go.ChangeShapes Go.WideShapes Go.Deep
set_option linter.unusedVariables false
set_option linter.unusedSimpArgs false
set_option maxHeartbeats 4000000

/-- the page and the entry -/
def pgv (x : Pt) : Int := if x.page % 11 = 10 then 512 else x.page % 11
def pv (x : Pt) : Int := pgv x * 256 + (x.bits % 128) / 2 * 2 + 1
def prt4 (z : Nat → Int) (x : Pt) (r : Nat) : Nat → Int := fun i => if x.at_ ≤ i ∧ i < x.at_ + r then (if i - x.at_ = 0 then pv x % 256 else if i - x.at_ = 1 then pv x / 256 % 256 else if i - x.at_ = 2 then pv x / 65536 % 256 else pv x / 16777216 % 256) else z i
/-- what stands behind the tables -/
def rstZ (ys : List Int) : Nat → Int := fun i => if 192 ≤ i ∧ i - 192 < ys.length then ys.getD (i - 192) 0 else 0
def tab10 (L : Nat → Pt) (ys : List Int) : Nat → Nat → Int
  | 0 => rstZ ys
  | k + 1 => prt4 (tab10 L ys k) (L k) 4
theorem pgv_bd (x : Pt) : 0 ≤ pgv x ∧ pgv x ≤ 512 := by unfold pgv; split <;> omega
theorem pv_bd (x : Pt) : 0 ≤ pv x ∧ pv x ≤ 4294967295 := by
  have := pgv_bd x
  unfold pv
  omega
theorem getD_bd (ys : List Int) (hy : ∀ z ∈ ys, 0 ≤ z ∧ z < 256) (j : Nat) (h : j < ys.length) : 0 ≤ ys.getD j 0 ∧ ys.getD j 0 < 256 := by
  rw [List.getD_eq_getElem?_getD, List.getElem?_eq_getElem h]
  exact hy _ (List.getElem_mem h)
theorem tab10_bd (L : Nat → Pt) (ys : List Int) (hy : ∀ z ∈ ys, 0 ≤ z ∧ z < 256) : ∀ k i, 0 ≤ tab10 L ys k i ∧ tab10 L ys k i < 256 := by
  intro k
  induction k with
  | zero =>
    intro i
    show 0 ≤ rstZ ys i ∧ rstZ ys i < 256
    unfold rstZ
    split
    · rename_i h
      exact getD_bd ys hy _ h.2
    · exact ⟨Int.le_refl _, by decide⟩
  | succ k ih =>
    intro i
    show 0 ≤ prt4 (tab10 L ys k) (L k) 4 i ∧ prt4 (tab10 L ys k) (L k) 4 i < 256
    unfold prt4
    split
    · split
      · omega
      · split
        · omega
        · split <;> omega
    · exact ih i
theorem prt4_succ (z : Nat → Int) (x : Pt) (r : Nat) (b : Int) (hb : b = if r = 0 then pv x % 256 else if r = 1 then pv x / 256 % 256 else if r = 2 then pv x / 65536 % 256 else pv x / 16777216 % 256) : updI (prt4 z x r) (x.at_ + r) b = prt4 z x (r + 1) := by
  funext i
  unfold updI prt4
  by_cases e : i = x.at_ + r
  · have h1 : x.at_ ≤ i ∧ i < x.at_ + (r + 1) := by omega
    have h2 : i - x.at_ = r := by omega
    rw [if_pos e, if_pos h1, hb, h2]
  · rw [if_neg e]
    by_cases h : x.at_ ≤ i ∧ i < x.at_ + r
    · have h1 : x.at_ ≤ i ∧ i < x.at_ + (r + 1) := by omega
      rw [if_pos h, if_pos h1]
    · have h1 : ¬ (x.at_ ≤ i ∧ i < x.at_ + (r + 1)) := by omega
      rw [if_neg h, if_neg h1]
theorem run_behind (g : Nat) (W : World) : (Instr.slice 24 (.slice (some ⟨g, 0, none⟩) 512 512) (some (.int .i64 192)) none none).run Try.prog W = .ok (.slice (some ⟨g, 192, none⟩) 320 320) W := by
  obtain ⟨i0, hi0, hz0, hz1, hz2⟩ := info_parts infoU8
  have he : Try.prog.elem 24 = 5 := by kernel_rfl
  rw [run_slice_l W 24 (some ⟨g, 0, none⟩) 512 512 (by rw [he]; exact Try.underlying24) .i64 192 (by omega) (by omega)]
  simp [sizeOf, typeInfo, he, hi0, hz1, Result.andThen, sliced, Addr.add]
def Tabs10 (w : World) (len : Nat) (L : Nat → Pt) (ys : List Int) (e : Ending) (w' : World) : Prop := e = .returned (.slice (some ⟨w.heap.size, 0, none⟩) 512 512) ∧ Cells w' w.heap.size 5 512 (fun i => .int .u8 (tab10 L ys (min len 40) i)) ∧ Fr (fun _ => False) w w'
set_option maxRecDepth 100000 in
theorem tables10 (w : World) (A : Option Addr) (len cap : Nat) (L : Nat → Pt) (hL : PtsAt w w.heap.size A len L) (hm : len ≤ maxLen) (A2 : Option Addr) (len2 cap2 : Nat) (ys : List Int) (hy : IntsAt .u8 w w.heap.size A2 (min len2 320) ys) :
    Calls Try.prog 24 #[.slice A len cap, .slice A2 len2 cap2] w (Tabs10 w len L ys) := by
  unfold maxLen at hm
  have HL := Lib.hid hL
  have hmk : ∀ W, (Instr.makeSlice 24 (.int .i64 512) (.int .i64 512)).run Try.prog W = .ok (.slice (some ⟨W.heap.size, 0, none⟩) 512 512) (W.alloc (.cells (zU 512) 5)) := fun W => run_makeU .i64 512 (by omega) W
  have hsl := run_behind w.heap.size
  have hc0 := Lib.hid (cellsU w 512 rfl)
  have f0 := (Fr.refl (fun _ => False) w).alloc (.cells (zU 512) 5)
  have hsz := szU
  have HY := Lib.hid (hy.fr f0 (Nat.le_refl _) (fun _ _ e => e))
  have hly := hy.1
  have F0 := Lib.hid f0
  clear hL hy f0
  go_enter Try.func24, Try.ntmps24
  go_wp2_with
    (refine wpList_copy_cells rfl (.tmp 13) (.tmp 14) 24 24 rfl 5 Try.underlying24 hsz w.heap.size 192 320 320 A2 len2 cap2 rfl rfl 5 512 _ hc0.out .u8 w.heap.size (min len2 320) ys (by omega) HY.out (by omega) ?_
     intro w2 hc2 f2)
  have hc3 : Cells w2 w.heap.size 5 512 (fun i => .int .u8 (tab10 L ys 0 i)) := Cells.congr hc2 (fun i hi => by
    show putR _ 192 _ i = .int .u8 (rstZ ys i)
    unfold putR rstZ
    rw [List.length_map]
    by_cases h : 192 ≤ i ∧ i < 192 + ys.length
    · rw [if_pos h, if_pos (by omega)]
      have : i - 192 < ys.length := by omega
      simp [List.getD_eq_getElem?_getD, this]
    · rw [if_neg h, if_neg (by omega)])
  have hc0' := Lib.hid hc3
  have f2' := Lib.hid (F0.out.trans (S := fun _ => False) f2 (fun i hi e => by omega))
  clear hc2 hc3 f2 hmk hsl
  go_wp2_with fail
  go_loopw [6] (fun i wr => ∃ k : Nat, k ≤ len ∧ k ≤ 40 ∧ i = .int .i64 k ∧ Cells wr w.heap.size 5 512 (fun i => .int .u8 (tab10 L ys k i)) ∧ Fr (fun _ => False) w wr) (fun i _ => len - (intOf i).toNat)
  case atStart => exact ⟨0, by omega, by omega, rfl, hc0'.out, f2'.out⟩
  case round =>
    clear hc0' f2'
    obtain ⟨k, hk, hk2, rfl, hC, fr⟩ := hrel
    obtain ⟨wo, rfl⟩ : ∃ wo : World, wo = wr := ⟨_, rfl⟩
    by_cases hlt : k < len ∧ k < 40
    · obtain ⟨h1, h2⟩ := hlt
      have hd1 : decide ((k : Int) < 40) = true := by simp; omega
      have hd2 : decide (k < len) = true := by simp; omega
      obtain ⟨b, off, rfl, hb, hx⟩ := HL.out k h1
      have hbw : b < wo.heap.size := Nat.lt_of_lt_of_le hb fr.size
      have hbg : b ≠ w.heap.size := by omega
      obtain ⟨⟨c0, c1, c2⟩, p0, p1, p2⟩ := hx.fr fr hb (fun e => e)
      obtain ⟨Lk, hLk⟩ : ∃ q, q = L k := ⟨_, rfl⟩
      rw [← hLk] at c0 c1 c2 p0 p1 p2
      have HLk := Lib.hid hLk
      have a0 := wf_i64 p0
      have a1 := wf_i64 p1
      obtain ⟨a2, a3⟩ := wf_u32 p2
      have Hw0 : Hid (∀ W, Calls Try.prog 25 #[.int .i64 Lk.place, .int .i64 0, .int .i64 1000] W fun e w' => e = .returned (.int .i64 (Lk.place % 1001)) ∧ W = w') := Lib.hid (fun W => by
        have := Bk.within_any W Lk.place 0 1000 a0.1 a0.2 (by omega) (by omega) (by omega)
        rw [show (0 : Int) + Lk.place % (1000 - 0 + 1) = Lk.place % 1001 by omega] at this
        exact this)
      have Hw1 : Hid (∀ W, Calls Try.prog 25 #[.int .i64 Lk.page, .int .i64 0, .int .i64 1000] W fun e w' => e = .returned (.int .i64 (Lk.page % 1001)) ∧ W = w') := Lib.hid (fun W => by
        have := Bk.within_any W Lk.page 0 1000 a1.1 a1.2 (by omega) (by omega) (by omega)
        rw [show (0 : Int) + Lk.page % (1000 - 0 + 1) = Lk.page % 1001 by omega] at this
        exact this)
      have xa : Lk.place % 1001 % 48 * 4 = (Lk.at_ : Int) := by unfold Pt.at_; omega
      have hat : Lk.at_ + 4 ≤ 192 := by unfold Pt.at_; omega
      have m2 : Lk.bits.tmod 128 = Lk.bits % 128 := Int.tmod_eq_emod_of_nonneg a2
      have hpb := pgv_bd Lk
      have hvb := pv_bd Lk
      have o8 : bits .or .u32 (pgv Lk * 256) (Lk.bits % 128) = pgv Lk * 256 + Lk.bits % 128 := or8 _ _ (by omega) (by omega) (by omega) (by omega) (by omega)
      have o1 : bits .or .u32 (pgv Lk * 256 + Lk.bits % 128) 1 = pv Lk := by rw [or1 _ (by omega) (by omega)]; unfold pv; omega
      have HC2 := Lib.hid hC
      have HF2 := Lib.hid fr
      have Hpg : Hid (pgv Lk = if Lk.page % 11 = 10 then 512 else Lk.page % 11) := rfl
      have hv0 := hvb.1
      have hv1 := hvb.2
      clear hx hLk p0 p1 p2 a0 a1 hC fr hvb
      go_wp2_with fail
      refine (Hw0.out _).mono ?_
      rintro e w' ⟨rfl, rfl⟩
      go_wp2_with fail
      refine (Hw1.out _).mono ?_
      rintro e w' ⟨rfl, rfl⟩
      go_upto_if 43 with (fail)
      go_cut [8] (fun v wx => v = .int .u32 (pgv Lk) ∧ wo = wx)
      case first =>
        by_cases h10 : Lk.page % 11 = 10
        · have e1 : (Lk.page % 11 == 10) = true := by simp [h10]
          have Hq : Hid (pgv Lk = 512) := Lib.hid (by rw [Hpg.out, if_pos h10])
          clear h10
          go_wp2_with fail
          go_meet
          exact ⟨by rw [Hq.out], rfl⟩
        · have e1 : (Lk.page % 11 == 10) = false := by simpa using h10
          have Hq : Hid (pgv Lk = Lk.page % 11) := Lib.hid (by rw [Hpg.out, if_neg h10])
          clear h10
          go_wp2_with fail
          go_meet
          exact ⟨by rw [Hq.out], rfl⟩
      case rest =>
        obtain ⟨rfl, hw⟩ := hcut
        subst hw
        clear Hpg
        have hp0 := hpb.1
        have hp1 := hpb.2
        clear hpb
        generalize pgv Lk = pg at *
        go_wp2_with fail
        go_loopw [10] (fun i wr => ∃ r : Nat, r ≤ 4 ∧ i = .int .i64 r ∧ Cells wr w.heap.size 5 512 (fun i => .int .u8 (prt4 (tab10 L ys k) Lk r i)) ∧ Fr (fun _ => False) w wr) (fun i _ => 4 - (intOf i).toNat)
        case atStart => exact ⟨0, by omega, rfl, Cells.congr HC2.out (fun i hi => by unfold prt4; rw [if_neg (by omega)]), HF2.out⟩
        case round =>
          obtain ⟨r, hr, rfl, hC, fr⟩ := hrel
          by_cases hlr : r < 4
          · rcases (by omega : r = 0 ∨ r = 1 ∨ r = 2 ∨ r = 3) with rfl | rfl | rfl | rfl
            · obtain ⟨jr, hjr⟩ : ∃ q : Nat, q = Lk.at_ := ⟨_, rfl⟩
              have s3 : (Lk.at_ : Int) = (jr : Int) := by omega
              have u3 : IntKind.u8.wrap (pv Lk) = (pv Lk) % 256 := IntKind.wrap_u8 _
              have cj := hC.cell jr (by omega)
              have zj := Cells.frozen hC jr
              have q0 : (0 : Int) ≤ (jr : Int) := by omega
              have q1 : (jr : Int) < 512 := by omega
              have HD : Hid (Cells (wr.setCell ⟨w.heap.size, jr, none⟩ (.int .u8 ((pv Lk) % 256))) w.heap.size 5 512 (fun i => .int .u8 (prt4 (tab10 L ys k) Lk 1 i))) := Lib.hid (by
                have := set_u8 hC jr ((pv Lk) % 256)
                rw [hjr] at this ⊢
                rw [show Lk.at_ = Lk.at_ + 0 from rfl, prt4_succ _ _ 0 _ (by simp)] at this
                exact this)
              have HF := Lib.hid (fr.setCell (p := ⟨w.heap.size, jr, none⟩) (.inr (Nat.le_refl _)) (.int .u8 ((pv Lk) % 256)))
              clear hC fr hjr
              go_wp2_with fail
              go_roundw
              case rel => exact ⟨1, by omega, rfl, HD.out, HF.out⟩
              case measure => simp [intOf]
            · obtain ⟨jr, hjr⟩ : ∃ q : Nat, q = Lk.at_ + 1 := ⟨_, rfl⟩
              have s3 : (Lk.at_ : Int) + 1 = (jr : Int) := by omega
              have s4 : IntKind.i64.wrap ((Lk.at_ : Int) + 1) = (jr : Int) := by rw [IntWalk.i64_in _ (by omega)]; omega
              have cj := hC.cell jr (by omega)
              have zj := Cells.frozen hC jr
              have q0 : (0 : Int) ≤ (jr : Int) := by omega
              have q1 : (jr : Int) < 512 := by omega
              have HD : Hid (Cells (wr.setCell ⟨w.heap.size, jr, none⟩ (.int .u8 ((pv Lk) / 256 % 256))) w.heap.size 5 512 (fun i => .int .u8 (prt4 (tab10 L ys k) Lk 2 i))) := Lib.hid (by
                have := set_u8 hC jr ((pv Lk) / 256 % 256)
                rw [hjr] at this ⊢
                rw [prt4_succ _ _ 1 _ (by simp)] at this
                exact this)
              have HF := Lib.hid (fr.setCell (p := ⟨w.heap.size, jr, none⟩) (.inr (Nat.le_refl _)) (.int .u8 ((pv Lk) / 256 % 256)))
              clear hC fr hjr
              go_wp2_with fail
              go_roundw
              case rel => exact ⟨2, by omega, rfl, HD.out, HF.out⟩
              case measure => simp [intOf]
            · obtain ⟨jr, hjr⟩ : ∃ q : Nat, q = Lk.at_ + 2 := ⟨_, rfl⟩
              have s3 : (Lk.at_ : Int) + 2 = (jr : Int) := by omega
              have s4 : IntKind.i64.wrap ((Lk.at_ : Int) + 2) = (jr : Int) := by rw [IntWalk.i64_in _ (by omega)]; omega
              have cj := hC.cell jr (by omega)
              have zj := Cells.frozen hC jr
              have q0 : (0 : Int) ≤ (jr : Int) := by omega
              have q1 : (jr : Int) < 512 := by omega
              have HD : Hid (Cells (wr.setCell ⟨w.heap.size, jr, none⟩ (.int .u8 ((pv Lk) / 65536 % 256))) w.heap.size 5 512 (fun i => .int .u8 (prt4 (tab10 L ys k) Lk 3 i))) := Lib.hid (by
                have := set_u8 hC jr ((pv Lk) / 65536 % 256)
                rw [hjr] at this ⊢
                rw [prt4_succ _ _ 2 _ (by simp)] at this
                exact this)
              have HF := Lib.hid (fr.setCell (p := ⟨w.heap.size, jr, none⟩) (.inr (Nat.le_refl _)) (.int .u8 ((pv Lk) / 65536 % 256)))
              clear hC fr hjr
              go_wp2_with fail
              go_roundw
              case rel => exact ⟨3, by omega, rfl, HD.out, HF.out⟩
              case measure => simp [intOf]
            · obtain ⟨jr, hjr⟩ : ∃ q : Nat, q = Lk.at_ + 3 := ⟨_, rfl⟩
              have s3 : (Lk.at_ : Int) + 3 = (jr : Int) := by omega
              have s4 : IntKind.i64.wrap ((Lk.at_ : Int) + 3) = (jr : Int) := by rw [IntWalk.i64_in _ (by omega)]; omega
              have cj := hC.cell jr (by omega)
              have zj := Cells.frozen hC jr
              have q0 : (0 : Int) ≤ (jr : Int) := by omega
              have q1 : (jr : Int) < 512 := by omega
              have HD : Hid (Cells (wr.setCell ⟨w.heap.size, jr, none⟩ (.int .u8 ((pv Lk) / 16777216))) w.heap.size 5 512 (fun i => .int .u8 (prt4 (tab10 L ys k) Lk 4 i))) := Lib.hid (by
                have := set_u8 hC jr ((pv Lk) / 16777216)
                rw [hjr] at this ⊢
                rw [prt4_succ _ _ 3 _ (by simp; omega)] at this
                exact this)
              have HF := Lib.hid (fr.setCell (p := ⟨w.heap.size, jr, none⟩) (.inr (Nat.le_refl _)) (.int .u8 ((pv Lk) / 16777216)))
              clear hC fr hjr
              go_wp2_with fail
              go_roundw
              case rel => exact ⟨4, by omega, rfl, HD.out, HF.out⟩
              case measure => simp [intOf]
          · have e : r = 4 := by omega
            rw [e] at hC
            have HD : Hid (Cells wr w.heap.size 5 512 (fun i => .int .u8 (tab10 L ys (k + 1) i))) := Lib.hid (by
              show Cells wr w.heap.size 5 512 (fun i => .int .u8 (prt4 (tab10 L ys k) (L k) 4 i))
              rw [← HLk.out]
              exact hC)
            clear hC e
            go_wp2_with fail
            go_roundw
            case rel => exact ⟨k + 1, by omega, by omega, by go_num, HD.out, fr⟩
            case measure => simp [intOf]; omega
    · have hkm : k = min len 40 := by omega
      have HX : Hid (Tabs10 w len L ys (.returned (.slice (some ⟨w.heap.size, 0, none⟩) 512 512)) wo) := Lib.hid ⟨rfl, hkm ▸ hC, fr⟩
      clear hC fr hkm
      go_wp2_with fail
      all_goals
        go_ret
        exact HX.out
instance : Inhabited Pt := ⟨⟨0, 0, 0⟩⟩
theorem openPtes {H : Type} {enc : TypeId × Value → H} {w : World} {a : Option Addr} {len cap : Nat} {d : DataW H} {p : List MemPlace}
    (h : DataW.Trod enc Try.prog w 0 (fun _ => true) true 52 (.slice a len cap) d p) : (∃ L, PtsAt w w.heap.size a len L) ∧ len ≤ maxLen := by
  obtain ⟨fuel, hf⟩ := h
  rcases open_slice_fields Try.underlying52 Try.underlying80 (by kernel_rfl) (by kernel_rfl) hf with ⟨hcs, _⟩ | ⟨x, l, c, m, D, Pl, hcs, _, hl, hm, hmm, hx, hi⟩
  · simp [Value.cells] at hcs
    obtain ⟨rfl, rfl, rfl⟩ := hcs
    exact ⟨⟨fun _ => ⟨0, 0, 0⟩, fun i hi => absurd hi (by omega)⟩, by simp [maxLen]⟩
  · simp [Value.cells] at hcs
    obtain ⟨rfl, rfl, rfl⟩ := hcs
    have hlm : len ≤ m := by simp at hmm; omega
    have key : ∀ i, i < len → ∃ y : Pt, (w.cell? (x.add (i * 3)) = some (.int .i64 y.place) ∧ w.cell? (x.add (i * 3 + 1)) = some (.int .i64 y.page) ∧ w.cell? (x.add (i * 3 + 2)) = some (.int .u32 y.bits)) ∧
        (Lit.int .i64 y.place).wf = true ∧ (Lit.int .i64 y.page).wf = true ∧ (Lit.int .u32 y.bits).wf = true := by
      intro i hil
      obtain ⟨ys, n, _, _, _, hf⟩ := hi i (by omega)
      obtain ⟨v0, y0, hc0, _, ht0⟩ := hf 0 _ rfl
      obtain ⟨v1, y1, hc1, _, ht1⟩ := hf 1 _ rfl
      obtain ⟨v2, y2, hc2, _, ht2⟩ := hf 2 _ rfl
      obtain ⟨s, rfl, w0⟩ := cell_int Try.underlying3 ht0
      obtain ⟨at_, rfl, w1⟩ := cell_int Try.underlying3 ht1
      obtain ⟨c, rfl, w2⟩ := cell_int Try.underlying22 ht2
      exact ⟨⟨s, at_, c⟩, ⟨hc0, hc1, hc2⟩, w0, w1, w2⟩
    obtain ⟨L, hL⟩ := choose_lt key
    refine ⟨⟨L, fun i hil => ?_⟩, Nat.le_trans hl hm⟩
    obtain ⟨b, off, spot⟩ := x
    obtain ⟨⟨hc0, _⟩, _⟩ := hL 0 (by omega)
    have hspot : spot = none := by simpa [Addr.add] using World.cell?_spot hc0
    subst hspot
    have hadd : ∀ j, (⟨b, off, none⟩ : Addr).add j = ⟨b, off + j, none⟩ := by
      intro j
      unfold Addr.add
      split
      · rename_i h0; subst h0; rfl
      · rfl
    refine ⟨b, off, rfl, ?_, ?_⟩
    · rcases Nat.lt_or_ge b w.heap.size with h | h
      · exact h
      · exfalso
        have : w.heap[b]? = none := Array.getElem?_eq_none h
        rw [hadd] at hc0
        simp [World.cell?, this] at hc0
    · obtain ⟨q, r⟩ := hL i hil
      simp only [hadd, ← Nat.add_assoc] at q
      exact ⟨q, r⟩
end Go.Proofs.Ythiephlfhbkcbaa.Mu
namespace Go.Proofs.Ythiephlfhbkcbaa.Mu
open Go.RowKit Fm Nt Rm By Wk
set_option linter.unusedVariables false
set_option linter.unusedSimpArgs false
set_option maxHeartbeats 1000000

theorem memory_t (w : World) (A : Au) (u : Us) (h : Un w A u) : Calls Try.prog 26 #[.pointer (some ⟨A.gU, 0, none⟩)] w fun e w' => e = .returned (.pointer (some ⟨A.am.gm, 0, none⟩)) ∧ w = w' := by
  have c0 := h.c0
  go_enter Try.func26, Try.ntmps26
  go_wp2_with fail
  go_ret
  exact ⟨rfl, rfl⟩
theorem flush_t (w : World) (A : Au) (u : Us) (h : Un w A u) : Calls Try.prog 33 #[.pointer (some ⟨A.gU, 0, none⟩)] w fun e w' => e = .returned (.tuple #[]) ∧ Un w' A ⟨u.m, noL⟩ ∧ Fr A.wr w w' := by
  have c0 := h.c1
  have Hf := Lib.hid (Tl.flush_any w A.gB u.l h.B)
  have H := Lib.hid h
  clear h
  go_enter Try.func33, Try.ntmps33
  go_wp2_with fail
  refine (Hf.out).mono ?_
  rintro e w1 ⟨rfl, hB, f⟩
  have HX := Lib.hid (And.intro (H.out.setB hB f) (f.mono (S' := A.wr) (fun k _ e => .inl e)))
  clear hB f
  go_wp2_with fail
  go_end0
  exact ⟨rfl, HX.out.1, HX.out.2⟩
theorem all_t (w : World) (A : Au) (u : Us) (h : Un w A u) : Calls Try.prog 27 #[.pointer (some ⟨A.am.gm, 0, none⟩)] w fun e w' => ∃ g, e = .returned (.slice (some ⟨g, 0, none⟩) (u.m.n * 64) (u.m.n * 64)) ∧ IntsAt .u8 w' w'.heap.size (some ⟨g, 0, none⟩) (u.m.n * 64) (lst u.m.mem (u.m.n * 64)) ∧ Fr (fun _ => False) w w' := by
  refine (all_any w A.am u.m h.M).mono ?_
  rintro e w' ⟨rfl, hc, f⟩
  exact ⟨_, rfl, (cells_ints hc h.M.bd).more hc.lt, f⟩
theorem pts_fr {w w' : World} {A : Option Addr} {n : Nat} {L : Nat → Pt} (h : PtsAt w w.heap.size A n L) (f : Fr (fun _ => False) w w') : PtsAt w' w'.heap.size A n L := fun i hi => by
  obtain ⟨b, off, e, hb, hx⟩ := h i hi
  exact ⟨b, off, e, Nat.lt_of_lt_of_le hb f.size, hx.fr f hb (fun e => e)⟩
/-- the tables' bytes as they are handed on -/
theorem tabs_ints {w w' : World} {len : Nat} {L : Nat → Pt} {ys : List Int} (hy : ∀ z ∈ ys, 0 ≤ z ∧ z < 256) (hc : Cells w' w.heap.size 5 512 (fun i => .int .u8 (tab10 L ys (min len 40) i))) : IntsAt .u8 w' (w.heap.size + 1) (some ⟨w.heap.size, 0, none⟩) 512 (lst (tab10 L ys (min len 40)) 512) := cells_ints hc (fun k _ => tab10_bd L ys hy _ k)
end Go.Proofs.Ythiephlfhbkcbaa.Mu
namespace Go.Proofs.Ythiephlfhbkcbaa.mmuWrites
open Go.RowKit Fm Nt Rm By Wk Mu
set_option linter.unusedVariables false
set_option linter.unusedSimpArgs false
set_option maxHeartbeats 4000000

theorem weak {w0 w : World} {K K' : Nat → Prop} {A : Au} {u : Us} (h : Ow w0 w K A u) (hk : ∀ k, K' k → K k) : Ow w0 w K' A u := ⟨h.U, fun k e => ⟨(h.lo k e).1, fun e2 => (h.lo k e).2 (hk k e2)⟩, h.f, fun k e => h.kl k (hk k e)⟩
/-- a cause is nought, a fault or no access -/
theorem turned_cs (u : Us) (s : Sp) (va k : Int) : (turnedR u s va k).c = 0 ∧ (turnedR u s va k).a = 0 ∨ (turnedR u s va k).c = flt k := by
  unfold turnedR
  split
  · exact .inl ⟨rfl, rfl⟩
  · split
    · exact .inl ⟨rfl, rfl⟩
    · split
      · exact .inl ⟨rfl, rfl⟩
      · exact .inr rfl
theorem place_cs (u : Us) (s : Sp) (va k : Int) : (placeR u s va k).c = 0 ∧ (placeR u s va k).a = 0 ∨ (placeR u s va k).c = flt k ∨ (placeR u s va k).c = 10 := by
  have h := turned_cs u s va k
  unfold placeR
  split
  · exact .inr (.inr rfl)
  · split
    · rcases h with h | h
      · exact .inl h
      · exact .inr (.inl h)
    · split
      · exact .inl ⟨rfl, rfl⟩
      · exact .inr (.inr rfl)
theorem span_cs (u : Us) (s : Sp) (va n k : Int) : (spanR u s va n k).c = 0 ∧ (spanR u s va n k).a = 0 ∨ (spanR u s va n k).c = flt k ∨ (spanR u s va n k).c = 10 := by
  have h1 := place_cs u s va k
  have h2 : (secR u s va n k).c = 0 ∧ (secR u s va n k).a = 0 ∨ (secR u s va n k).c = flt k ∨ (secR u s va n k).c = 10 := by
    unfold secR
    split
    · exact place_cs _ _ _ _
    · exact .inl ⟨rfl, rfl⟩
  unfold spanR
  split
  · exact .inr (.inr rfl)
  · split
    · exact h1
    · split
      · exact h2
      · split
        · exact .inr (.inr rfl)
        · split
          · exact .inr (.inr rfl)
          · exact .inl ⟨rfl, rfl⟩
theorem place_same (u : Us) (s : Sp) (va k : Int) (h : s.pg = false) : (placeR u s va k).u = u := by
  have ht : (turnedR u s va k).u = u := by rw [turned_plain h]
  unfold placeR
  split
  · rfl
  · split
    · exact ht
    · split
      · exact ht
      · exact ht
/-- a plain store that is trapped leaves all -/
theorem store_same (u : Us) (s : Sp) (va v n : Int) (h : s.pg = false) (hc : (spanR u s va n 3).c ≠ 0) : (storeU u s va v n).m = u.m := by
  have h1 := place_same u s va 3 h
  have h2 : (secR u s va n 3).u = u := by
    unfold secR
    split
    · rw [place_same _ _ _ _ h, h1]
    · exact h1
  have hl : (spanR u s va n 3).l = [] ∧ (spanR u s va n 3).u = u := by
    unfold spanR at hc ⊢
    split
    · exact ⟨rfl, rfl⟩
    · rename_i q0
      rw [if_neg q0] at hc
      split
      · exact ⟨rfl, h1⟩
      · rename_i q1
        rw [if_neg q1] at hc
        split
        · exact ⟨rfl, h2⟩
        · rename_i q2
          rw [if_neg q2] at hc
          split
          · exact ⟨rfl, h2⟩
          · rename_i q3
            rw [if_neg q3] at hc
            split
            · exact ⟨rfl, h2⟩
            · rename_i q4
              rw [if_neg q4] at hc
              exact absurd rfl hc
  unfold storeU
  rw [hl.1, hl.2]
  rfl
def wantV (v : Int) (n : Nat) : Int := if n < 4 then v % 256 ^ n else v
/-- a plain store is loaded again -/
theorem store_load (u : Us) (s : Sp) (va v : Int) (n : Nat) (hO : u.Ok) (h8 : u.m.n = 8) (h : s.pg = false) (n1 : 1 ≤ n) (n4 : n ≤ 4) (v0 : 0 ≤ va) (v1 : va < 32000) (x0 : 0 ≤ v) (x1 : v ≤ 4294967295) (hc : (spanR u s va n 3).c = 0) :
    (spanR (storeU u s va v n) s va n 2).c = 0 ∧ loadV (storeU u s va v n) s va n = wantV v n := by
  have hfit : va + (n : Int) ≤ (u.m.n : Int) * 64 := by
    rcases Int.lt_or_le ((u.m.n : Int) * 64) (va + (n : Int)) with hq | hq
    · rw [span_no h (.inr rfl) n n1 n4 v0 v1 (by omega) (by omega)] at hc
      exact absurd hc (by show ¬ (10 : Int) = 0; omega)
    · exact hq
  have hst : storeU u s va v n = ⟨stor u.m (rng va n) v n, u.l⟩ := storeU_plain h n n1 n4 v0 hfit (by omega)
  have hsn : (stor u.m (rng va n) v n).n = u.m.n := stor_n _ _ _ _
  rw [hst]
  refine ⟨by rw [span_plain (u := ⟨stor u.m (rng va n) v n, u.l⟩) h (.inl rfl) n n1 n4 v0 (by show va + (n : Int) ≤ ((stor u.m (rng va n) v n).n : Int) * 64; rw [hsn]; exact hfit) (by show (stor u.m (rng va n) v n).n ≤ 64; omega)], ?_⟩
  rw [loadV_plain (u := ⟨stor u.m (rng va n) v n, u.l⟩) h n n1 n4 v0 (by show va + (n : Int) ≤ ((stor u.m (rng va n) v n).n : Int) * 64; rw [hsn]; exact hfit) (by show (stor u.m (rng va n) v n).n ≤ 64; omega)]
  show join (stor u.m (rng va n) v n) (rng va n) = wantV v n
  have hb : ∀ j : Nat, j < n → memV (stor u.m (rng va n) v n) (va + (j : Int)) = v / 256 ^ j % 256 := fun j hj => by
    unfold memV
    rw [if_pos (by unfold inB; rw [hsn]; simp; omega), stor_rng u.m va v n v0 hfit n (Nat.le_refl _), if_pos (by omega)]
    rw [show (((va + (j : Int)).toNat : Int) - va).toNat = j by omega]
  unfold wantV
  rcases (by omega : n = 1 ∨ n = 2 ∨ n = 3 ∨ n = 4) with rfl | rfl | rfl | rfl
  · have b0 := hb 0 (by omega)
    show memV (stor u.m (rng va 1) v 1) (va + ((0 : Nat) : Int)) + 256 * 0 = v % 256 ^ 1
    rw [b0]
    simp
  · have b0 := hb 0 (by omega)
    have b1 := hb 1 (by omega)
    show memV (stor u.m (rng va 2) v 2) (va + ((0 : Nat) : Int)) + 256 * (memV (stor u.m (rng va 2) v 2) (va + ((1 : Nat) : Int)) + 256 * 0) = v % 256 ^ 2
    rw [b0, b1]
    simp
    omega
  · have b0 := hb 0 (by omega)
    have b1 := hb 1 (by omega)
    have b2 := hb 2 (by omega)
    show memV (stor u.m (rng va 3) v 3) (va + ((0 : Nat) : Int)) + 256 * (memV (stor u.m (rng va 3) v 3) (va + ((1 : Nat) : Int)) + 256 * (memV (stor u.m (rng va 3) v 3) (va + ((2 : Nat) : Int)) + 256 * 0)) = v % 256 ^ 3
    rw [b0, b1, b2]
    simp
    omega
  · have b0 := hb 0 (by omega)
    have b1 := hb 1 (by omega)
    have b2 := hb 2 (by omega)
    have b3 := hb 3 (by omega)
    show memV (stor u.m (rng va 4) v 4) (va + ((0 : Nat) : Int)) + 256 * (memV (stor u.m (rng va 4) v 4) (va + ((1 : Nat) : Int)) + 256 * (memV (stor u.m (rng va 4) v 4) (va + ((2 : Nat) : Int)) + 256 * (memV (stor u.m (rng va 4) v 4) (va + ((3 : Nat) : Int)) + 256 * 0))) = v
    rw [b0, b1, b2, b3]
    simp
    omega
theorem stor_bd {w : World} {A : Au} {u : Us} (h : Un w A u) : u.Ok := h.ok
set_option maxRecDepth 100000 in
theorem walk (w : World) (A1 : Option Addr) (len1 cap1 : Nat) (hP : (∃ L, PtsAt w w.heap.size A1 len1 L) ∧ len1 ≤ maxLen) (va0 : Int) (hva : (Lit.int .u32 va0).wf = true) (v : Int) (hv : (Lit.int .u32 v).wf = true) (n0 : Int) (hn : (Lit.int .i64 n0).wf = true) (pg su : Bool) :
    Calls Try.prog 6 #[.slice A1 len1 cap1, .int .u32 va0, .int .u32 v, .int .i64 n0, .bool pg, .bool su] w fun e w' => e = .returned (.bool true) ∧ Fr (fun _ => False) w w' := by
  obtain ⟨⟨L, hL⟩, hm1⟩ := hP
  obtain ⟨a0, a1⟩ := wf_u32 hva
  obtain ⟨v0, v1⟩ := wf_u32 hv
  obtain ⟨n00, n01⟩ := wf_i64 hn
  have Ht := Lib.hid (tables10 w A1 len1 cap1 L hL hm1 none 0 0 [] (intsAt_nil _ _ _ _))
  have Hw := Lib.hid (fun W => Bk.within_any W n0 1 4 n00 n01 (by omega) (by omega) (by omega))
  obtain ⟨n, hne, n1, n4⟩ : ∃ n : Nat, 1 + n0 % (4 - 1 + 1) = n ∧ 1 ≤ n ∧ n ≤ 4 := ⟨(1 + n0 % 4).toNat, by omega, by omega, by omega⟩
  rw [hne] at Hw
  clear hL hm1 hva hv hn hne
  go_enter Try.func6, Try.ntmps6
  go_wp2_with fail
  refine (Ht.out).mono ?_
  rintro e w1 ⟨rfl, hc1, f1⟩
  have hi1 := tabs_ints (fun z hz => by cases hz) hc1
  have Hb1 := Lib.hid (both10 w1 _ 512 512 8 _ _ hi1 hc1.lt (by omega) (by omega) (by omega))
  have F1 := Lib.hid f1
  clear hc1 hi1 f1 Ht
  go_wp2_with fail
  refine (Hb1.out).mono ?_
  rintro e w2 hb
  obtain ⟨A, r, rfl, hO, _⟩ := ow_both hb
  have hO : Ow w1 w2 (fun _ => False) A _ := weak hO (fun k e => e.elim)
  have h8 : (⟨Ms.init 8 (lst (tab10 L [] (min len1 40)) 512), noL⟩ : Us).m.n = 8 := init_n 8 _
  clear hb Hb1
  generalize (⟨Ms.init 8 (lst (tab10 L [] (min len1 40)) 512), noL⟩ : Us) = u0 at *
  have f2 : Fr (fun _ => False) w2 (w2.alloc (.cells #[.bool pg, .bool su, .int .u32 0] 59)) := (Fr.refl _ _).alloc _
  have bS := Blk.new w2 59 #[.bool pg, .bool su, .int .u32 0]
  have hO3 := hO.keep (K' := fun q => q = w2.heap.size) f2 (fun q e => .inr (by subst e; simp))
  go_upto_region 5 with (fail)
  generalize hw3 : w2.alloc (.cells #[.bool pg, .bool su, .int .u32 0] 59) = w3 at *
  have hva2 : 0 ≤ va0 % 1100 := by omega
  have hva3 : va0 % 1100 < 1100 := by omega
  have Hm := Lib.hid (memory_t w3 A u0 hO3.U)
  have hall := all_any w3 A.am u0.m hO3.U.M
  rw [h8] at hall
  have Hall := Lib.hid hall
  have HO3 := Lib.hid hO3
  have BS3 := Lib.hid bS
  have H8 := Lib.hid h8
  clear hw3 hO hO3 bS f2 hall
  go_wp2_with fail
  refine (Hw.out _).mono ?_
  rintro e w' ⟨rfl, rfl⟩
  go_wp2_with fail
  refine (Hm.out).mono ?_
  rintro e w' ⟨rfl, rfl⟩
  go_wp2_with fail
  refine (Hall.out).mono ?_
  rintro e w4 ⟨rfl, hW4, f4⟩
  have hO4 := HO3.out.keep (K' := fun q => q = w2.heap.size ∨ q = w3.heap.size) f4 (fun q e => by rcases e with e | e; exact .inl e; exact .inr ⟨by omega, by rw [e]; exact hW4.lt⟩)
  have bS4 := BS3.out.fr f4 (fun e => e)
  have hva4 : va0 % 1100 ≤ 4294967295 := by omega
  have hst := store_any w4 A u0 hO4.U ⟨pg, su, 0⟩ (va0 % 1100) v n (Int.le_refl _) (by show (0 : Int) ≤ 4294967295; omega) hva2 hva4 v0 v1
  have HCS := Lib.hid (span_cs u0 ⟨pg, su, 0⟩ (va0 % 1100) n 3)
  have HSS := Lib.hid (fun (h : pg = false) => store_same u0 ⟨pg, su, 0⟩ (va0 % 1100) v n h)
  have HSL := Lib.hid (fun (h : pg = false) => store_load u0 ⟨pg, su, 0⟩ (va0 % 1100) v n hO4.U.ok H8.out h n1 n4 hva2 (by omega) v0 v1)
  have h8s : (storeU u0 ⟨pg, su, 0⟩ (va0 % 1100) v n).m.n = 8 := by
    unfold storeU
    show (stor _ _ _ _).n = 8
    rw [stor_n, span_n]
    exact H8.out
  have Hst := Lib.hid hst
  generalize storeU u0 ⟨pg, su, 0⟩ (va0 % 1100) v n = u1 at *
  generalize (spanR u0 ⟨pg, su, 0⟩ (va0 % 1100) n 3).c = c at *
  generalize (spanR u0 ⟨pg, su, 0⟩ (va0 % 1100) n 3).a = a at *
  have S0 := bS4.cell 0
  have S1 := bS4.cell 1
  have S2 := bS4.cell 2
  simp only [List.getElem?_toArray, List.getElem?_cons_succ, List.getElem?_cons_zero] at S0 S1 S2
  have HO4 := Lib.hid hO4
  have BS4 := Lib.hid bS4
  have HW4 := Lib.hid hW4
  clear hst hO4 bS4 hW4 f4 Hall Hm HO3 BS3
  go_wp2_with fail
  refine (Hst.out).mono ?_
  rintro e w5 ⟨rfl, hU5, f5⟩
  have hO5 := HO4.out.step hU5 f5
  have bS5 := HO4.out.box BS4.out (.inl rfl) f5
  have hW5 := HW4.out.fr f5 (fun e => (HO4.out.lo _ (.inr e)).2 (.inr rfl))
  have f6 : Fr (fun _ => False) w5 (w5.alloc (.cells #[.int .i64 c, .int .u32 a] 63)) := (Fr.refl _ _).alloc _
  have bT := Blk.new w5 63 #[.int .i64 c, .int .u32 a]
  have hO6 := hO5.keep (K' := fun q => q = w2.heap.size ∨ q = w3.heap.size) f6 (fun q e => .inl e)
  go_upto_region 12 with (fail)
  generalize hw6 : w5.alloc (.cells #[.int .i64 c, .int .u32 a] 63) = w6 at *
  have bS6 := bS5.fr f6 (fun e => e)
  have hW6 := hW5.fr f6 (fun e => e)
  have y0 := bT.cell 0
  have y1 := bT.cell 1
  simp only [List.getElem?_toArray, List.getElem?_cons_succ, List.getElem?_cons_zero] at y0 y1
  have HO6 := Lib.hid hO6
  have BS6 := Lib.hid bS6
  have HW6 := Lib.hid hW6
  clear hw6 hU5 hO5 bS5 hW5 f5 f6 bT hO6 bS6 hW6 S0 S1 S2 Hst HO4 BS4 HW4
  rcases HCS.out with ⟨hc, ha⟩ | hc | hc
  · subst hc ha
    have S0 := BS6.out.cell 0
    have S1 := BS6.out.cell 1
    have S2 := BS6.out.cell 2
    simp only [List.getElem?_toArray, List.getElem?_cons_succ, List.getElem?_cons_zero] at S0 S1 S2
    have hld := load_any w6 A u1 HO6.out.U ⟨pg, su, 0⟩ (va0 % 1100) n (Int.le_refl _) (by show (0 : Int) ≤ 4294967295; omega) hva2 hva4
    have hOk1 := HO6.out.U.ok
    have HCS2 := Lib.hid (span_cs u1 ⟨pg, su, 0⟩ (va0 % 1100) n 2)
    have HAG := Lib.hid (again_bytes hOk1 ⟨pg, su, 0⟩ (va0 % 1100) n (Int.le_refl _) hva2 (by omega))
    have hlv : loadV u1 ⟨pg, su, 0⟩ (va0 % 1100) n = join (spanR u1 ⟨pg, su, 0⟩ (va0 % 1100) n 2).u.m (spanR u1 ⟨pg, su, 0⟩ (va0 % 1100) n 2).l := rfl
    have h8x : (spanR u1 ⟨pg, su, 0⟩ (va0 % 1100) n 2).u.m.n = 8 := span_n.trans h8s
    have HSL2 := Lib.hid (fun (h : pg = false) => HSL.out h rfl)
    rw [hlv] at hld HSL2
    have Hld := Lib.hid hld
    clear hld hlv HSL HSS HCS
    generalize spanR u1 ⟨pg, su, 0⟩ (va0 % 1100) n 2 = lr at *
    obtain ⟨ll, c2, a2, u2⟩ := lr
    dsimp only at HCS2 HAG h8x HSL2
    obtain ⟨wv, hwv⟩ : ∃ q, join u2.m ll = q := ⟨_, rfl⟩
    rw [hwv] at Hld HSL2
    have HWV := Lib.hid hwv
    clear hwv
    go_wp2_with fail
    refine (Hld.out).mono ?_
    rintro e w7 ⟨rfl, hU7, f7⟩
    dsimp only at hU7 ⊢
    have hO7 := HO6.out.step hU7 f7
    have bS7 := HO6.out.box BS6.out (.inl rfl) f7
    have f8 : Fr (fun _ => False) w7 (w7.alloc (.cells #[.int .i64 c2, .int .u32 a2] 63)) := (Fr.refl _ _).alloc _
    have bT := Blk.new w7 63 #[.int .i64 c2, .int .u32 a2]
    have hO8 := hO7.keep (K' := fun q => q = w2.heap.size) f8 (fun q e => .inl (.inl e))
    go_upto_region 21 with (fail)
    generalize hw8 : w7.alloc (.cells #[.int .i64 c2, .int .u32 a2] 63) = w8 at *
    have bS8 := bS7.fr f8 (fun e => e)
    clear y0 y1 S0 S1 S2
    have y0 := bT.cell 0
    have y1 := bT.cell 1
    simp only [List.getElem?_toArray, List.getElem?_cons_succ, List.getElem?_cons_zero] at y0 y1
    have HO8 := Lib.hid hO8
    have BS8 := Lib.hid bS8
    clear hw8 hU7 hO7 bS7 f7 f8 bT hO8 bS8 Hld HO6 BS6 HW6
    rcases HCS2.out with ⟨hc, ha⟩ | hc | hc
    · subst hc ha
      obtain ⟨hll, hag⟩ := HAG.out rfl
      have HAg := Lib.hid hag
      have hlb : ∀ p ∈ ll, 0 ≤ p := fun p hp => by
        obtain ⟨i, hi, rfl⟩ := List.getElem_of_mem hp
        have := (hag i (by omega)).1
        simpa [List.getD_eq_getElem?_getD, hi] using this
      have hjb := join_bd HO8.out.U.M ll hlb
      rw [HWV.out] at hjb
      have hw0 : 0 ≤ wv := hjb.1
      have HJB := Lib.hid (fun j (hj : j < n) => by have := join_byte HO8.out.U.M ll hlb j (by omega); rw [HWV.out] at this; exact this)
      have hw1 : wv ≤ 4294967295 := by
        have h2 := hjb.2
        rw [hll] at h2
        rcases (by omega : n = 1 ∨ n = 2 ∨ n = 3 ∨ n = 4) with rfl | rfl | rfl | rfl <;> simp at h2 <;> omega
      clear hag hjb hlb
      go_upto_if 111 with (fail)
      go_cut [23] (fun q wx => q = .int .u32 (wantV v n) ∧ w8 = wx)
      case first =>
        rcases (by omega : n = 1 ∨ n = 2 ∨ n = 3 ∨ n = 4) with hn1 | hn1 | hn1 | hn1
        · subst hn1
          have hw8_ : IntKind.u64.wrap 8 = 8 := by decide
          have hsh : IntKind.u32.wrap 256 = 256 := by decide
          have hwe : wantV v 1 = v % 256 := by unfold wantV; rw [if_pos (by omega)]; rfl
          have hms : v.tmod 256 = v % 256 := Int.tmod_eq_emod_of_nonneg v0
          go_wp2_with fail
          go_meet
          exact ⟨by rw [hwe], rfl⟩
        · subst hn1
          have hw8_ : IntKind.u64.wrap 16 = 16 := by decide
          have hsh : IntKind.u32.wrap 65536 = 65536 := by decide
          have hwe : wantV v 2 = v % 65536 := by unfold wantV; rw [if_pos (by omega)]; rfl
          have hms : v.tmod 65536 = v % 65536 := Int.tmod_eq_emod_of_nonneg v0
          go_wp2_with fail
          go_meet
          exact ⟨by rw [hwe], rfl⟩
        · subst hn1
          have hw8_ : IntKind.u64.wrap 24 = 24 := by decide
          have hsh : IntKind.u32.wrap 16777216 = 16777216 := by decide
          have hwe : wantV v 3 = v % 16777216 := by unfold wantV; rw [if_pos (by omega)]; rfl
          have hms : v.tmod 16777216 = v % 16777216 := Int.tmod_eq_emod_of_nonneg v0
          go_wp2_with fail
          go_meet
          exact ⟨by rw [hwe], rfl⟩
        · subst hn1
          go_wp2_with fail
          go_meet
          exact ⟨rfl, rfl⟩
      case rest =>
        obtain ⟨rfl, hw⟩ := hcut
        subst hw
        have hcond : wv = wantV v n ∨ ¬ wv = wantV v n ∧ pg = true := by
          cases pg
          · exact .inl (HSL2.out rfl).2
          · by_cases h : wv = wantV v n
            · exact .inl h
            · exact .inr ⟨h, rfl⟩
        have hwt0 : 0 ≤ wantV v n ∧ wantV v n ≤ 4294967295 := by
          unfold wantV
          split
          · rcases (by omega : n = 1 ∨ n = 2 ∨ n = 3 ∨ n = 4) with rfl | rfl | rfl | rfl <;> simp <;> omega
          · omega
        obtain ⟨t0, t1⟩ := hwt0
        clear HSL2 HCS2 HAG
        generalize wantV v n = want at *
        go_upto_region 26 with (fail)
        go_cut [124] (fun q wx => q = .bool false ∧ w8 = wx)
        case first =>
          rcases hcond with h | ⟨h, rfl⟩
          · have hq : (wv != want) = false := by simp [h]
            clear h
            go_wp2_with fail
            all_goals
              go_meet
              exact ⟨rfl, rfl⟩
          · have hq : (wv != want) = true := by simp [h]
            clear h
            go_wp2_with fail
            all_goals
              go_meet
              exact ⟨rfl, rfl⟩
        case rest =>
          obtain ⟨rfl, hw⟩ := hcut
          subst hw
          have hS8 : Ow w1 w8 (fun q => q = w2.heap.size) A u2 ∧ Blk w8 w2.heap.size 59 #[.bool pg, .bool su, .int .u32 0] := ⟨HO8.out, BS8.out⟩
          clear y0 y1 hcond
          have HS8 := Lib.hid hS8
          clear hS8 HO8 BS8
          go_wp2_with fail
          go_loopw [24] (fun i wr => ∃ j : Nat, j ≤ n ∧ i = .int .i64 j ∧ Ow w1 wr (fun q => q = w2.heap.size) A u2 ∧ Blk wr w2.heap.size 59 #[.bool pg, .bool su, .int .u32 0]) (fun i _ => n - (intOf i).toNat)
          case atStart => exact ⟨0, Nat.zero_le _, rfl, HS8.out.1, HS8.out.2⟩
          case round =>
            clear HS8
            obtain ⟨j, hj, rfl, hO, bS⟩ := hrel
            obtain ⟨wo, rfl⟩ : ∃ wo : World, wo = wr := ⟨_, rfl⟩
            by_cases hjn : j < n
            · obtain ⟨l0, l1, hpl⟩ := HAg.out j hjn
              have hjb := HJB.out j hjn
              have hjni : (j : Int) < (n : Int) := by omega
              have hpa := place_any wo A u2 hO.U ⟨pg, su, 0⟩ (va0 % 1100 + (j : Int)) 2 (Int.le_refl _) (by show (0 : Int) ≤ 4294967295; omega) (by omega) (by omega)
              rw [hpl] at hpa
              have h8u : u1.m.n = 8 := h8s
              have hib : inB u2.m (ll.getD j 0) 1 = true := by unfold inB; rw [h8x]; rw [h8u] at l1; exact decide_eq_true (by omega)
              have hl1 : ll.getD j 0 ≤ 4294967295 := by rw [h8u] at l1; omega
              have hby : ∀ W, Un W A u2 → Calls Try.prog 32 #[.pointer (some ⟨A.am.gm, 0, none⟩), .int .u32 (ll.getD j 0)] W fun e w' => e = .returned (.tuple #[.int .u8 (memV u2.m (ll.getD j 0)), .bool true]) ∧ W = w' := fun W hW => by
                have := byte_any W A.am u2.m hW.M (ll.getD j 0) l0 hl1
                rw [hib] at this
                exact this
              have Hpa := Lib.hid hpa
              have Hby := Lib.hid hby
              clear hpa hpl hby hib l1
              generalize ll.getD j 0 = pp at *
              generalize memV u2.m pp = bt at *
              have hb0 : 0 ≤ bt := by omega
              have hb1 : bt < 256 := by omega
              have S0 := bS.cell 0
              have S1 := bS.cell 1
              have S2 := bS.cell 2
              simp only [List.getElem?_toArray, List.getElem?_cons_succ, List.getElem?_cons_zero] at S0 S1 S2
              have HO := Lib.hid hO
              have BS := Lib.hid bS
              clear hO bS
              rcases (by omega : j = 0 ∨ j = 1 ∨ j = 2 ∨ j = 3) with hj0 | hj0 | hj0 | hj0
              · subst hj0
                have hjb : wv % 256 = bt := by simpa using hjb
                have hw8_ : IntKind.u64.wrap 0 = 0 := by decide
                have Hpa := Lib.hid (show Calls Try.prog 31 #[.pointer (some ⟨A.gU, 0, none⟩), spv ⟨pg, su, 0⟩, .int .u32 (va0 % 1100), .int .i64 2] wo (PPost wo A ⟨pp, 0, 0, u2⟩) by simpa using Hpa.out)
                go_wp2_with fail
                refine (Hpa.out).mono ?_
                rintro e w9 ⟨rfl, hU9, f9⟩
                dsimp only at hU9 ⊢
                have hO9 := HO.out.step hU9 f9
                have bS9 := HO.out.box BS.out rfl f9
                have f10 : Fr (fun _ => False) w9 (w9.alloc (.cells #[.int .i64 0, .int .u32 0] 63)) := (Fr.refl _ _).alloc _
                have bT := Blk.new w9 63 #[.int .i64 0, .int .u32 0]
                have hO10 := hO9.keep (K' := fun q => q = w2.heap.size) f10 (fun q e => .inl e)
                go_upto_region 32 with (fail)
                generalize hw10 : w9.alloc (.cells #[.int .i64 0, .int .u32 0] 63) = w10 at *
                have bS10 := bS9.fr f10 (fun e => e)
                have y0 := bT.cell 0
                have y1 := bT.cell 1
                simp only [List.getElem?_toArray, List.getElem?_cons_succ, List.getElem?_cons_zero] at y0 y1
                have Hb10 := Lib.hid (Hby.out w10 hO10.U)
                have HE := Lib.hid (And.intro hO10 bS10)
                clear hw10 hU9 hO9 bS9 f9 f10 bT hO10 bS10 S0 S1 S2 Hpa Hby HO BS
                go_wp2_with fail
                refine (Hb10.out).mono ?_
                rintro e w' ⟨rfl, rfl⟩
                go_wp2_with fail
                go_roundw
                case rel => exact ⟨1, by omega, by go_num, HE.out.1, HE.out.2⟩
                case measure => simp [intOf]; omega
              · subst hj0
                have hjb : wv / 256 % 256 = bt := by simpa using hjb
                have hw8_ : IntKind.u64.wrap 8 = 8 := by decide
                have Hpa := Lib.hid (show Calls Try.prog 31 #[.pointer (some ⟨A.gU, 0, none⟩), spv ⟨pg, su, 0⟩, .int .u32 (va0 % 1100 + 1), .int .i64 2] wo (PPost wo A ⟨pp, 0, 0, u2⟩) by exact Hpa.out)
                go_wp2_with fail
                refine (Hpa.out).mono ?_
                rintro e w9 ⟨rfl, hU9, f9⟩
                dsimp only at hU9 ⊢
                have hO9 := HO.out.step hU9 f9
                have bS9 := HO.out.box BS.out rfl f9
                have f10 : Fr (fun _ => False) w9 (w9.alloc (.cells #[.int .i64 0, .int .u32 0] 63)) := (Fr.refl _ _).alloc _
                have bT := Blk.new w9 63 #[.int .i64 0, .int .u32 0]
                have hO10 := hO9.keep (K' := fun q => q = w2.heap.size) f10 (fun q e => .inl e)
                go_upto_region 32 with (fail)
                generalize hw10 : w9.alloc (.cells #[.int .i64 0, .int .u32 0] 63) = w10 at *
                have bS10 := bS9.fr f10 (fun e => e)
                have y0 := bT.cell 0
                have y1 := bT.cell 1
                simp only [List.getElem?_toArray, List.getElem?_cons_succ, List.getElem?_cons_zero] at y0 y1
                have Hb10 := Lib.hid (Hby.out w10 hO10.U)
                have HE := Lib.hid (And.intro hO10 bS10)
                clear hw10 hU9 hO9 bS9 f9 f10 bT hO10 bS10 S0 S1 S2 Hpa Hby HO BS
                go_wp2_with fail
                refine (Hb10.out).mono ?_
                rintro e w' ⟨rfl, rfl⟩
                go_wp2_with fail
                go_roundw
                case rel => exact ⟨2, by omega, by go_num, HE.out.1, HE.out.2⟩
                case measure => simp [intOf]; omega
              · subst hj0
                have hjb : wv / 65536 % 256 = bt := by simpa using hjb
                have hw8_ : IntKind.u64.wrap 16 = 16 := by decide
                have Hpa := Lib.hid (show Calls Try.prog 31 #[.pointer (some ⟨A.gU, 0, none⟩), spv ⟨pg, su, 0⟩, .int .u32 (va0 % 1100 + 2), .int .i64 2] wo (PPost wo A ⟨pp, 0, 0, u2⟩) by exact Hpa.out)
                go_wp2_with fail
                refine (Hpa.out).mono ?_
                rintro e w9 ⟨rfl, hU9, f9⟩
                dsimp only at hU9 ⊢
                have hO9 := HO.out.step hU9 f9
                have bS9 := HO.out.box BS.out rfl f9
                have f10 : Fr (fun _ => False) w9 (w9.alloc (.cells #[.int .i64 0, .int .u32 0] 63)) := (Fr.refl _ _).alloc _
                have bT := Blk.new w9 63 #[.int .i64 0, .int .u32 0]
                have hO10 := hO9.keep (K' := fun q => q = w2.heap.size) f10 (fun q e => .inl e)
                go_upto_region 32 with (fail)
                generalize hw10 : w9.alloc (.cells #[.int .i64 0, .int .u32 0] 63) = w10 at *
                have bS10 := bS9.fr f10 (fun e => e)
                have y0 := bT.cell 0
                have y1 := bT.cell 1
                simp only [List.getElem?_toArray, List.getElem?_cons_succ, List.getElem?_cons_zero] at y0 y1
                have Hb10 := Lib.hid (Hby.out w10 hO10.U)
                have HE := Lib.hid (And.intro hO10 bS10)
                clear hw10 hU9 hO9 bS9 f9 f10 bT hO10 bS10 S0 S1 S2 Hpa Hby HO BS
                go_wp2_with fail
                refine (Hb10.out).mono ?_
                rintro e w' ⟨rfl, rfl⟩
                go_wp2_with fail
                go_roundw
                case rel => exact ⟨3, by omega, by go_num, HE.out.1, HE.out.2⟩
                case measure => simp [intOf]; omega
              · subst hj0
                have hjb : wv / 16777216 % 256 = bt := by simpa using hjb
                have hw8_ : IntKind.u64.wrap 24 = 24 := by decide
                have Hpa := Lib.hid (show Calls Try.prog 31 #[.pointer (some ⟨A.gU, 0, none⟩), spv ⟨pg, su, 0⟩, .int .u32 (va0 % 1100 + 3), .int .i64 2] wo (PPost wo A ⟨pp, 0, 0, u2⟩) by exact Hpa.out)
                go_wp2_with fail
                refine (Hpa.out).mono ?_
                rintro e w9 ⟨rfl, hU9, f9⟩
                dsimp only at hU9 ⊢
                have hO9 := HO.out.step hU9 f9
                have bS9 := HO.out.box BS.out rfl f9
                have f10 : Fr (fun _ => False) w9 (w9.alloc (.cells #[.int .i64 0, .int .u32 0] 63)) := (Fr.refl _ _).alloc _
                have bT := Blk.new w9 63 #[.int .i64 0, .int .u32 0]
                have hO10 := hO9.keep (K' := fun q => q = w2.heap.size) f10 (fun q e => .inl e)
                go_upto_region 32 with (fail)
                generalize hw10 : w9.alloc (.cells #[.int .i64 0, .int .u32 0] 63) = w10 at *
                have bS10 := bS9.fr f10 (fun e => e)
                have y0 := bT.cell 0
                have y1 := bT.cell 1
                simp only [List.getElem?_toArray, List.getElem?_cons_succ, List.getElem?_cons_zero] at y0 y1
                have Hb10 := Lib.hid (Hby.out w10 hO10.U)
                have HE := Lib.hid (And.intro hO10 bS10)
                clear hw10 hU9 hO9 bS9 f9 f10 bT hO10 bS10 S0 S1 S2 Hpa Hby HO BS
                go_wp2_with fail
                refine (Hb10.out).mono ?_
                rintro e w' ⟨rfl, rfl⟩
                go_wp2_with fail
                go_roundw
                case rel => exact ⟨4, by omega, by go_num, HE.out.1, HE.out.2⟩
                case measure => simp [intOf]; omega
            · have hjn' : decide ((j : Int) < (n : Int)) = false := by simp; omega
              have HFo := Lib.hid (F1.out.tr hO.f)
              clear hO bS
              go_wp2_with fail
              refine (known10 wo).mono ?_
              rintro e w9 ⟨rfl, f9⟩
              go_wp2_with fail
              go_ret
              exact ⟨rfl, HFo.out.tr f9⟩
    · rw [show flt 2 = 8 from rfl] at hc
      subst hc
      have hpg : pg = true := by
        cases pg
        · have := (HSL2.out rfl).1
          exact absurd this (by decide)
        · rfl
      subst hpg
      have HFo := Lib.hid (F1.out.tr HO8.out.f)
      clear HSL2 HCS2 HAG
      go_wp2_with fail
      refine (known10 w8).mono ?_
      rintro e w9 ⟨rfl, f9⟩
      go_wp2_with fail
      go_ret
      exact ⟨rfl, HFo.out.tr f9⟩
    · subst hc
      have hpg : pg = true := by
        cases pg
        · have := (HSL2.out rfl).1
          exact absurd this (by decide)
        · rfl
      subst hpg
      have HFo := Lib.hid (F1.out.tr HO8.out.f)
      clear HSL2 HCS2 HAG
      go_wp2_with fail
      refine (known10 w8).mono ?_
      rintro e w9 ⟨rfl, f9⟩
      go_wp2_with fail
      go_ret
      exact ⟨rfl, HFo.out.tr f9⟩
  · rw [show flt 3 = 9 from rfl] at hc
    subst hc
    have hall := all_any w6 A.am u1.m HO6.out.U.M
    rw [h8s] at hall
    have Hm := Lib.hid (memory_t w6 A u1 HO6.out.U)
    have Hall := Lib.hid hall
    have HSE := Lib.hid (fun (h : pg = false) => HSS.out h (by decide))
    clear hall HSL HSS HCS
    go_wp2_with fail
    refine (Hall.out).mono ?_
    rintro e w7 ⟨rfl, hN7, f7⟩
    have hW7 := HW6.out.fr f7 (fun e => e)
    have F7 := Lib.hid (F1.out.tr (HO6.out.f.tr f7))
    have HN7 := Lib.hid hN7
    have HW7 := Lib.hid hW7
    clear hN7 hW7 f7 y0 y1
    go_wp2_with fail
    go_loopw [20] (fun i wr => ∃ k : Nat, 192 ≤ k ∧ k ≤ 512 ∧ i = .int .i64 k ∧ Fr (fun _ => False) w7 wr) (fun i _ => 512 - (intOf i).toNat)
    case atStart => exact ⟨192, by omega, by omega, rfl, Fr.refl _ _⟩
    case round =>
      obtain ⟨k, hk0, hk, rfl, fr⟩ := hrel
      by_cases hlt : k < 512
      · have hki : (k : Int) < 512 := by omega
        have hk00 : (0 : Int) ≤ (k : Int) := by omega
        have q0 : wr.cell? ⟨w3.heap.size, k, none⟩ = some (.int .u8 (u0.m.mem k)) := (HW7.out.fr fr (fun e => e)).cell k (by omega)
        have q1 : wr.cell? ⟨w6.heap.size, k, none⟩ = some (.int .u8 (u1.m.mem k)) := (HN7.out.fr fr (fun e => e)).cell k (by omega)
        by_cases he : u0.m.mem k = u1.m.mem k
        · rw [he] at q0
          generalize u1.m.mem k = bb at *
          clear he
          go_wp2_with fail
          go_quiet (fail)
          go_wp2_with fail
          go_roundw
          case rel => exact ⟨k + 1, by omega, by omega, by go_num, fr.drewN _⟩
          case measure => simp [intOf]; omega
        · have hpg : pg = true := by
            cases pg
            · exact absurd (by rw [HSE.out rfl]) he
            · rfl
          subst hpg
          have he' : (u0.m.mem k != u1.m.mem k) = true := by simpa using he
          generalize u1.m.mem k = bb at *
          generalize u0.m.mem k = cc at *
          clear he
          go_wp2_with fail
          go_quiet (fail)
          go_wp2_with fail
          go_roundw
          case rel => exact ⟨k + 1, by omega, by omega, by go_num, fr.drewN _⟩
          case measure => simp [intOf]; omega
      · have hk5 : ¬ (k : Int) < 512 := by omega
        have hk6 : decide (k < 512) = false := by simp; omega
        have Ff := Lib.hid (F7.out.tr fr)
        clear fr
        go_wp2_with fail
        refine (known10 _).mono ?_
        rintro e w9 ⟨rfl, f9⟩
        go_wp2_with fail
        go_ret
        exact ⟨rfl, Ff.out.tr f9⟩
  · subst hc
    have hall := all_any w6 A.am u1.m HO6.out.U.M
    rw [h8s] at hall
    have Hm := Lib.hid (memory_t w6 A u1 HO6.out.U)
    have Hall := Lib.hid hall
    have HSE := Lib.hid (fun (h : pg = false) => HSS.out h (by decide))
    clear hall HSL HSS HCS
    go_wp2_with fail
    refine (Hall.out).mono ?_
    rintro e w7 ⟨rfl, hN7, f7⟩
    have hW7 := HW6.out.fr f7 (fun e => e)
    have F7 := Lib.hid (F1.out.tr (HO6.out.f.tr f7))
    have HN7 := Lib.hid hN7
    have HW7 := Lib.hid hW7
    clear hN7 hW7 f7 y0 y1
    go_wp2_with fail
    go_loopw [20] (fun i wr => ∃ k : Nat, 192 ≤ k ∧ k ≤ 512 ∧ i = .int .i64 k ∧ Fr (fun _ => False) w7 wr) (fun i _ => 512 - (intOf i).toNat)
    case atStart => exact ⟨192, by omega, by omega, rfl, Fr.refl _ _⟩
    case round =>
      obtain ⟨k, hk0, hk, rfl, fr⟩ := hrel
      by_cases hlt : k < 512
      · have hki : (k : Int) < 512 := by omega
        have hk00 : (0 : Int) ≤ (k : Int) := by omega
        have q0 : wr.cell? ⟨w3.heap.size, k, none⟩ = some (.int .u8 (u0.m.mem k)) := (HW7.out.fr fr (fun e => e)).cell k (by omega)
        have q1 : wr.cell? ⟨w6.heap.size, k, none⟩ = some (.int .u8 (u1.m.mem k)) := (HN7.out.fr fr (fun e => e)).cell k (by omega)
        by_cases he : u0.m.mem k = u1.m.mem k
        · rw [he] at q0
          generalize u1.m.mem k = bb at *
          clear he
          go_wp2_with fail
          go_quiet (fail)
          go_wp2_with fail
          go_roundw
          case rel => exact ⟨k + 1, by omega, by omega, by go_num, fr.drewN _⟩
          case measure => simp [intOf]; omega
        · have hpg : pg = true := by
            cases pg
            · exact absurd (by rw [HSE.out rfl]) he
            · rfl
          subst hpg
          have he' : (u0.m.mem k != u1.m.mem k) = true := by simpa using he
          generalize u1.m.mem k = bb at *
          generalize u0.m.mem k = cc at *
          clear he
          go_wp2_with fail
          go_quiet (fail)
          go_wp2_with fail
          go_roundw
          case rel => exact ⟨k + 1, by omega, by omega, by go_num, fr.drewN _⟩
          case measure => simp [intOf]; omega
      · have hk5 : ¬ (k : Int) < 512 := by omega
        have hk6 : decide (k < 512) = false := by simp; omega
        have Ff := Lib.hid (F7.out.tr fr)
        clear fr
        go_wp2_with fail
        refine (known10 _).mono ?_
        rintro e w9 ⟨rfl, f9⟩
        go_wp2_with fail
        go_ret
        exact ⟨rfl, Ff.out.tr f9⟩
end Go.Proofs.Ythiephlfhbkcbaa.mmuWrites
