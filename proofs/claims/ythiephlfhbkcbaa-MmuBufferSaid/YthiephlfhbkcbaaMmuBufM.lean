/- MmuOk, MmuKept, MmuTab, MmuTell, MmuBuffer, in one text. -/
import Derived.Test.YthiephlfhbkcbaaMmuS
import Derived.Test.YthiephlfhbkcbaaMmuB
import Derived.Test.YthiephlfhbkcbaaMmuOpen
import Derived.Test.YthiephlfhbkcbaaWalkT
import Derived.Test.YthiephlfhbkcbaaWalkB
import Derived.Deep.RegionHeld
import Derived.Deep.Slices
import Derived.Test.YthiephlfhbkcbaaMmuK
import Derived.Deep.Cut
namespace Go.Proofs.Ythiephlfhbkcbaa.Mu
open Go.RowKit Fm Nt Rm By Wk
set_option linter.unusedVariables false
set_option linter.unusedSimpArgs false

theorem Un.ok {w : World} {A : Au} {u : Us} (h : Un w A u) : u.Ok := ⟨h.M.n0, h.M.bd⟩
section
variable {u : Us} {s : Sp} {va k n v : Int}
theorem Us.Ok.wb (h : u.Ok) (Q : Int) (h0 : 0 ≤ Q) : 0 ≤ wrdV u.m Q ∧ wrdV u.m Q ≤ 4294967295 := by
  unfold wrdV
  split
  · rename_i hb
    have hat : Q + 4 ≤ (u.m.n : Int) * 64 := by simpa [inB] using hb
    obtain ⟨i, rfl⟩ : ∃ i : Nat, Q = i := ⟨Q.toNat, by omega⟩
    rw [show (i : Int).toNat = i from rfl]
    have b0 := h.bd (i + 0) (by omega)
    have b1 := h.bd (i + 1) (by omega)
    have b2 := h.bd (i + 2) (by omega)
    have b3 := h.bd (i + 3) (by omega)
    show 0 ≤ (((0 * 256 + u.m.mem (i + 3)) * 256 + u.m.mem (i + 2)) * 256 + u.m.mem (i + 1)) * 256 + u.m.mem (i + 0) ∧ (((0 * 256 + u.m.mem (i + 3)) * 256 + u.m.mem (i + 2)) * 256 + u.m.mem (i + 1)) * 256 + u.m.mem (i + 0) ≤ 4294967295
    omega
  · omega
theorem Us.Ok.leaf (h : u.Ok) (rt va : Int) (r0 : 0 ≤ rt) (v0 : 0 ≤ va) : 0 ≤ lkLeaf u.m rt va ∧ lkLeaf u.m rt va ≤ 4294967295 := by
  unfold lkLeaf
  split
  · have h1 := h.wb (lkA rt va) (by unfold lkA; omega)
    exact h.wb _ (by unfold lkB; omega)
  · omega
theorem Us.Ok.at_ (h : u.Ok) (rt va : Int) (r0 : 0 ≤ rt) (v0 : 0 ≤ va) : 0 ≤ lkAt u.m rt va ∧ lkAt u.m rt va ≤ 4096 := by
  have hn := h.n0
  unfold lkAt
  split
  · rename_i hq
    have h1 := h.wb (lkA rt va) (by unfold lkA; omega)
    simp only [lkOk, Bool.and_eq_true, inB, decide_eq_true_eq] at hq
    have := hq.2.2.2
    refine ⟨by unfold lkB; omega, by omega⟩
  · omega
theorem lk_in {m : Ms} {rt va : Int} (hlo : lkOk m rt va = true) : inB m (lkAt m rt va) 4 = true := by
  have hq := hlo
  simp only [lkOk, Bool.and_eq_true] at hq
  rw [lkAt, hlo, if_pos rfl]
  exact hq.2.2.2
theorem do_lk {m : Ms} {rt va k : Int} {s : Bool} (h : doOk m rt va k s = true) : lkOk m rt va = true := by cases hq : lkOk m rt va <;> simp [doOk, hq] at h ⊢
theorem putW_bd {m : Ms} (hb : ∀ i, i < m.n * 64 → 0 ≤ m.mem i ∧ m.mem i < 256) (P x : Int) (x0 : 0 ≤ x) (x1 : x ≤ 4294967295) : ∀ i, i < (m.putW P x).n * 64 → 0 ≤ (m.putW P x).mem i ∧ (m.putW P x).mem i < 256 := by
  intro i hi
  unfold Ms.putW at hi ⊢
  split
  · rename_i h
    rw [if_pos h, puts_n] at hi
    rw [puts_mem]
    split
    · rename_i hq
      have e : i - P.toNat = 0 ∨ i - P.toNat = 1 ∨ i - P.toNat = 2 ∨ i - P.toNat = 3 := by omega
      rcases e with e | e | e | e <;> rw [e] <;> simp [wby] <;> omega
    · exact hb i hi
  · rename_i h
    rw [if_neg h] at hi
    exact hb i hi
theorem Us.Ok.walked (h : u.Ok) (rt va k : Int) (r0 : 0 ≤ rt) (v0 : 0 ≤ va) : (u.walked rt va k).Ok := by
  have hl := h.leaf rt va r0 v0
  have hn := now_bd k _ hl.1 hl.2
  refine ⟨?_, ?_⟩
  · show 1 ≤ (doMs u.m rt va k).n ∧ (doMs u.m rt va k).n ≤ 64
    rw [doMs_n]
    exact h.n0
  · show ∀ i, i < (doMs u.m rt va k).n * 64 → 0 ≤ (doMs u.m rt va k).mem i ∧ (doMs u.m rt va k).mem i < 256
    unfold doMs
    split
    · exact h.bd
    · exact putW_bd h.bd _ _ hn.1 hn.2
theorem Us.Ok.turned (h : u.Ok) (r0 : 0 ≤ s.rt) (v0 : 0 ≤ va) : (turnedR u s va k).u.Ok := by
  unfold turnedR
  split
  · exact h
  · split
    · exact h
    · split
      · exact h.walked _ _ _ r0 v0
      · exact h
theorem Us.Ok.place (h : u.Ok) (r0 : 0 ≤ s.rt) (v0 : 0 ≤ va) : (placeR u s va k).u.Ok := by
  unfold placeR
  split
  · exact h
  · split
    · exact h.turned r0 v0
    · split
      · exact h.turned r0 v0
      · exact h.turned r0 v0
theorem nextP_bd (h : 0 ≤ va) : 0 ≤ nextP va ∧ nextP va ≤ 4294967295 := by unfold nextP; omega
theorem Us.Ok.sec (h : u.Ok) (r0 : 0 ≤ s.rt) (v0 : 0 ≤ va) : (secR u s va n k).u.Ok := by
  unfold secR
  split
  · exact (h.place r0 v0).place r0 (nextP_bd v0).1
  · exact h.place r0 v0
theorem Us.Ok.span (h : u.Ok) (r0 : 0 ≤ s.rt) (v0 : 0 ≤ va) : (spanR u s va n k).u.Ok := by
  unfold spanR
  split
  · exact h
  · split
    · exact h.place r0 v0
    · split
      · exact h.sec r0 v0
      · split
        · exact h.sec r0 v0
        · split
          · exact h.sec r0 v0
          · exact h.sec r0 v0
theorem turned_bd' (h : u.Ok) (r0 : 0 ≤ s.rt) (v0 : 0 ≤ va) (v1 : va ≤ 4294967295) : 0 ≤ (turnedR u s va k).p ∧ (turnedR u s va k).p ≤ 4294967295 := by
  unfold turnedR
  split
  · exact ⟨v0, v1⟩
  · split
    · exact found_bd _ _ _ _ v0
    · split
      · have h1 := h.leaf s.rt va r0 v0
        have h2 := now_bd k _ h1.1 h1.2
        dsimp only
        omega
      · exact ⟨Int.le_refl _, by show (0 : Int) ≤ 4294967295; omega⟩
theorem place_in' (h : u.Ok) (r0 : 0 ≤ s.rt) (v0 : 0 ≤ va) (v1 : va ≤ 4294967295) (hc : (placeR u s va k).c = 0) : (placeR u s va k).a = 0 ∧ 0 ≤ (placeR u s va k).p ∧ (placeR u s va k).p ≤ 4294967295 ∧ (devB (placeR u s va k).p = false → (placeR u s va k).p < ((placeR u s va k).u.m.n : Int) * 64) := by
  have hb := turned_bd' (k := k) h r0 v0 v1
  unfold placeR at hc ⊢
  split
  · rename_i hq
    rw [if_pos hq] at hc
    exact absurd hc (by show ¬ (10 : Int) = 0; omega)
  · rename_i hq
    rw [if_neg hq] at hc
    split
    · rename_i hq2
      rw [if_pos hq2] at hc
      exact absurd hc hq2
    · rename_i hq2
      rw [if_neg hq2] at hc
      split
      · rename_i hq3
        refine ⟨rfl, hb.1, hb.2, fun hd => ?_⟩
        have hd : devB (turnedR u s va k).p = false := hd
        unfold thereB at hq3
        simpa [hd] using hq3
      · rename_i hq3
        rw [if_neg hq3] at hc
        exact absurd hc (by show ¬ (10 : Int) = 0; omega)
theorem turned_n : (turnedR u s va k).u.m.n = u.m.n := by
  unfold turnedR
  split
  · rfl
  · split
    · rfl
    · split
      · exact doMs_n _ _ _ _
      · rfl
theorem place_n : (placeR u s va k).u.m.n = u.m.n := by
  unfold placeR
  split
  · rfl
  · split
    · exact turned_n
    · split
      · exact turned_n
      · exact turned_n
theorem sec_n : (secR u s va n k).u.m.n = u.m.n := by
  unfold secR
  split
  · exact place_n.trans place_n
  · exact place_n
theorem span_n : (spanR u s va n k).u.m.n = u.m.n := by
  unfold spanR
  split
  · rfl
  · split
    · exact place_n
    · split
      · exact sec_n
      · split
        · exact sec_n
        · split
          · exact sec_n
          · exact sec_n
end
end Go.Proofs.Ythiephlfhbkcbaa.Mu
namespace Go.Proofs.Ythiephlfhbkcbaa.Mu
open Go.RowKit Fm Nt Rm By Wk
set_option linter.unusedVariables false
set_option linter.unusedSimpArgs false
set_option maxHeartbeats 1000000

theorem lk_page (m : Ms) (R V V' : Int) (h : V / 64 = V' / 64) : lkOk m R V = lkOk m R V' ∧ lkLeaf m R V = lkLeaf m R V' ∧ lkAt m R V = lkAt m R V' := by
  have hA : lkA R V = lkA R V' := by unfold lkA; omega
  have hB : lkB m R V = lkB m R V' := by unfold lkB; rw [hA, h]
  have hV : decide (V < 16384) = decide (V' < 16384) := decide_eq_decide.2 (by omega)
  have hO : lkOk m R V = lkOk m R V' := by unfold lkOk; rw [hA, hB, hV]
  exact ⟨hO, by unfold lkLeaf; rw [hO, hB], by unfold lkAt; rw [hO, hB]⟩
theorem or_of_and {a b : Nat} (h : a &&& b = b) : a ||| b = a := by
  apply Nat.eq_of_testBit_eq
  intro i
  have := congrArg (fun x => x.testBit i) h
  simp only [Nat.testBit_and] at this
  rw [Nat.testBit_or]
  cases h1 : a.testBit i <;> cases h2 : b.testBit i <;> simp [h1, h2] at this ⊢
/-- a walk that is let through turns of other walks no more than their leaf's bits -/
theorem walk_other {u : Us} (h : u.Ok) (R V k V' : Int) (r0 : 0 ≤ R) (v0 : 0 ≤ V) (w0 : 0 ≤ V') (hok : lkOk u.m R V = true) :
    lkOk (doMs u.m R V k) R V' = lkOk u.m R V' ∧ (lkLeaf (doMs u.m R V k) R V' = lkLeaf u.m R V' ∨ lkLeaf (doMs u.m R V k) R V' = now k (lkLeaf u.m R V')) ∧ (V' / 64 = V / 64 → lkLeaf (doMs u.m R V k) R V' = now k (lkLeaf u.m R V')) := by
  have hlb := h.leaf R V r0 v0
  have hab := h.at_ R V r0 v0
  have e1 : lkAt u.m R V = lkB u.m R V := by rw [lkAt, hok, if_pos rfl]
  have e2 : lkLeaf u.m R V = wrdV u.m (lkB u.m R V) := by rw [lkLeaf, hok, if_pos rfl]
  have hp := hok
  simp only [lkOk, Bool.and_eq_true, decide_eq_true_eq] at hp
  obtain ⟨p1, p2, p3, p4⟩ := hp
  by_cases hs : now k (lkLeaf u.m R V) = lkLeaf u.m R V
  · have e : doMs u.m R V k = u.m := by rw [doMs, if_pos hs]
    rw [e]
    refine ⟨rfl, .inl rfl, fun hv => ?_⟩
    rw [(lk_page u.m R V' V hv).2.1, hs]
  · have e : doMs u.m R V k = u.m.putW (lkB u.m R V) (now k (lkLeaf u.m R V)) := by rw [doMs, if_neg hs, e1]
    have NL := nowLaws k _ hlb.1 hlb.2
    have hn : (doMs u.m R V k).n = u.m.n := doMs_n _ _ _ _
    have hin : ∀ x, inB (doMs u.m R V k) x 4 = inB u.m x 4 := fun x => by unfold inB; rw [hn]
    have hA0 : ∀ X, 0 ≤ X → 0 ≤ lkA R X ∧ lkA R X % 4 = 0 := fun X hX => by unfold lkA; omega
    have hB0 : ∀ X, 0 ≤ X → 0 ≤ lkB u.m R X ∧ lkB u.m R X % 4 = 0 := fun X hX => by
      have := h.wb (lkA R X) (hA0 X hX).1
      unfold lkB
      omega
    have hw : ∀ Q, 0 ≤ Q → Q % 4 = 0 → wrdV (doMs u.m R V k) Q = if Q = lkB u.m R V then now k (wrdV u.m (lkB u.m R V)) else wrdV u.m Q := fun Q q0 q4 => by
      rw [e, putW_wrd u.m (lkB u.m R V) Q (now k (lkLeaf u.m R V)) p4 (hB0 V v0).1 q0 (hB0 V v0).2 q4 NL.b0 NL.b1, e2]
    have hAw : wrdV (doMs u.m R V k) (lkA R V') / 256 = wrdV u.m (lkA R V') / 256 ∧ wrdV (doMs u.m R V k) (lkA R V') % 2 = wrdV u.m (lkA R V') % 2 := by
      rw [hw _ (hA0 V' w0).1 (hA0 V' w0).2]
      split
      · rename_i hq
        have NL2 := nowLaws k (wrdV u.m (lkB u.m R V)) (h.wb _ (hB0 V v0).1).1 (h.wb _ (hB0 V v0).1).2
        rw [NL2.div, NL2.mod, hq]
        exact ⟨rfl, rfl⟩
      · exact ⟨rfl, rfl⟩
    have hB : lkB (doMs u.m R V k) R V' = lkB u.m R V' := by
      show wrdV (doMs u.m R V k) (lkA R V') / 256 * 64 + _ = wrdV u.m (lkA R V') / 256 * 64 + _
      rw [hAw.1]
    have hO : lkOk (doMs u.m R V k) R V' = lkOk u.m R V' := by
      unfold lkOk
      rw [hB, hin, hin, hAw.2]
    have hL : lkOk u.m R V' = true → lkLeaf (doMs u.m R V k) R V' = if lkB u.m R V' = lkB u.m R V then now k (lkLeaf u.m R V') else lkLeaf u.m R V' := fun ho => by
      rw [lkLeaf, hO, ho, if_pos rfl, hB, hw _ (hB0 V' w0).1 (hB0 V' w0).2, lkLeaf, ho, if_pos rfl]
      split
      · rename_i hq; rw [hq]
      · rfl
    refine ⟨hO, ?_, fun hv => ?_⟩
    · cases ho : lkOk u.m R V'
      · left
        simp [lkLeaf, hO, ho]
      · rw [hL ho]
        split
        · exact .inr rfl
        · exact .inl rfl
    · have hpg := lk_page u.m R V' V hv
      have hb : lkB u.m R V' = lkB u.m R V := by
        have hAe : lkA R V' = lkA R V := by unfold lkA; omega
        unfold lkB
        rw [hAe, hv]
      rw [hL (hpg.1.trans hok), if_pos hb]
/-- an entry that a walk would tell again -/
def KeptE (m : Ms) (e : Tl.Ent) : Prop := e.v = true → ∃ (va0 : Int) (lf eb : Nat), 0 ≤ va0 ∧ va0 / 64 = e.n ∧ lkOk m 0 va0 = true ∧ lkLeaf m 0 va0 = lf ∧ e.p = (lf : Int) / 256 ∧ e.b = eb ∧ lf < 4294967296 ∧ eb < 4294967296 ∧ lf &&& 33 = 33 ∧ ∀ b, eb &&& b = b → lf &&& b = b
def Kept (u : Us) : Prop := ∀ j, j < 16 → KeptE u.m (u.l j)
theorem kept_no (m : Ms) : Kept ⟨m, noL⟩ := fun j _ h => by cases h
theorem and_sub {a b c : Nat} (h : a &&& b = b) (hc : b &&& c = c) : a &&& c = c := by rw [← hc, ← Nat.and_assoc, h]
/-- what is kept tells what a walk would tell, and writes nothing -/
theorem hit_do {m : Ms} {e : Tl.Ent} (h : KeptE m e) (va k : Int) (s : Bool) (v0 : 0 ≤ va) (hk : k = 1 ∨ k = 2) (hh : Tl.hit e va k s = true) :
    doOk m 0 va k s = true ∧ doMs m 0 va k = m ∧ Tl.found e va k s = now k (lkLeaf m 0 va) / 256 * 64 + va % 64 := by
  have hf : Tl.found e va k s = e.p * 64 % 4294967296 + va % 64 := by rw [Tl.found, if_pos hh]
  simp only [Tl.hit, Bool.and_eq_true, beq_iff_eq] at hh
  obtain ⟨⟨⟨_, hv⟩, hn⟩, hb⟩ := hh
  obtain ⟨va0, lf, eb, q0, q1, q2, q3, q4, q5, q6, q7, q8, q9⟩ := h hv
  have hpg := lk_page m 0 va va0 (by rw [q1, hn])
  have hl : lkLeaf m 0 va = (lf : Int) := hpg.2.1.trans q3
  have ho : lkOk m 0 va = true := hpg.1.trans q2
  have a32 : lf &&& 32 = 32 := and_sub q8 (by decide)
  have a1 : lf &&& 1 = 1 := and_sub q8 (by decide)
  have hnow : now k (lf : Int) = (lf : Int) := by
    rw [now_nat k lf q6]
    unfold nowN
    rw [if_neg (by omega), or_of_and a32]
  have key : ∀ A B : Nat, A < 4294967296 → B < 4294967296 → A ||| 1 = B → Tl.asks k s = A → Wk.ask k s = B → bits .and .u32 (lf : Int) (Wk.ask k s) = Wk.ask k s := fun A B hA hB hAB ha hk => by
    rw [ha, q5, andN eb A q7 hA] at hb
    have hb' : eb &&& A = A := by omega
    have h1 := q9 A hb'
    rw [hk, andN lf B q6 hB, ← hAB, Nat.and_or_distrib_left, h1, a1]
  have hd : doOk m 0 va k s = true := by
    unfold doOk
    rw [ho, hl, Bool.true_and]
    apply decide_eq_true
    rcases hk with rfl | rfl <;> cases s
    · exact key 24 25 (by omega) (by omega) (by decide) rfl rfl
    · exact key 8 9 (by omega) (by omega) (by decide) rfl rfl
    · exact key 18 19 (by omega) (by omega) (by decide) rfl rfl
    · exact key 2 3 (by omega) (by omega) (by decide) rfl rfl
  refine ⟨hd, by rw [doMs, hl, hnow, if_pos rfl], ?_⟩
  rw [hf, hl, hnow, q4]
  omega
/-- a walk keeps it so -/
theorem kept_walked {u : Us} (h : u.Ok) (hK : Kept u) (va k : Int) (s : Bool) (v0 : 0 ≤ va) (hk : k = 1 ∨ k = 2) (hd : doOk u.m 0 va k s = true) : Kept (u.walked 0 va k) := by
  have ho := do_lk hd
  intro j hj
  show KeptE (doMs u.m 0 va k) (Tl.upd u.l (idx va) (entOf u.m 0 va k) j)
  unfold Tl.upd
  by_cases e : j = idx va
  · rw [if_pos e]
    intro _
    have hw := walk_other h 0 va k va (Int.le_refl _) v0 v0 ho
    have hlb := h.leaf 0 va (Int.le_refl _) v0
    obtain ⟨a, ha⟩ : ∃ a : Nat, lkLeaf u.m 0 va = a := ⟨(lkLeaf u.m 0 va).toNat, by omega⟩
    have ha32 : a < 4294967296 := by omega
    have hnl := nowN_lt k a ha32
    have hnow : now k (lkLeaf u.m 0 va) = (nowN k a : Int) := by rw [ha, now_nat k a ha32]
    have h1 : nowN k a &&& 1 = 1 := by
      have hq := hd
      unfold doOk at hq
      rw [ho, ha, Bool.true_and] at hq
      have hq := of_decide_eq_true hq
      have : ∀ B : Nat, B < 4294967296 → Wk.ask k s = B → B &&& 1 = 1 → nowN k a &&& 1 = 1 := fun B hB hk h1 => by
        rw [hk, andN a B ha32 hB] at hq
        have hq' : a &&& B = B := by omega
        exact nowN_and k a 1 (and_sub hq' h1)
      rcases hk with rfl | rfl <;> cases s
      · exact this 25 (by omega) rfl (by decide)
      · exact this 9 (by omega) rfl (by decide)
      · exact this 19 (by omega) rfl (by decide)
      · exact this 3 (by omega) rfl (by decide)
    refine ⟨va, nowN k a, nowN k a &&& 94, v0, rfl, hw.1.trans ho, (hw.2.2 rfl).trans hnow, ?_, ?_, hnl, Nat.lt_of_le_of_lt Nat.and_le_left hnl, ?_, fun b hb => ?_⟩
    · show now k (lkLeaf u.m 0 va) / 256 = _
      rw [hnow]
    · show bits .and .u32 (now k (lkLeaf u.m 0 va)) 94 = _
      rw [hnow, show (94 : Int) = ((94 : Nat) : Int) from rfl, andN _ 94 hnl (by omega)]
    · rw [show (33 : Nat) = 32 ||| 1 by decide, Nat.and_or_distrib_left, nowN_32, h1]
    · have : nowN k a &&& b = nowN k a &&& (nowN k a &&& 94 &&& b) := by rw [hb]
      rw [this, Nat.and_assoc, ← Nat.and_assoc, Nat.and_self, ← Nat.and_assoc, hb]
  · rw [if_neg e]
    intro hv
    obtain ⟨va0, lf, eb, q0, q1, q2, q3, q4, q5, q6, q7, q8, q9⟩ := hK j hj hv
    have hw := walk_other h 0 va k va0 (Int.le_refl _) v0 q0 ho
    have hnl := nowN_lt k lf q6
    rcases hw.2.1 with e1 | e1
    · exact ⟨va0, lf, eb, q0, q1, hw.1.trans q2, e1.trans q3, q4, q5, q6, q7, q8, q9⟩
    · refine ⟨va0, nowN k lf, eb, q0, q1, hw.1.trans q2, by rw [e1, q3, now_nat k lf q6], ?_, q5, hnl, q7, nowN_and k lf 33 q8, fun b hb => nowN_and k lf b (q9 b hb)⟩
      rw [q4]
      have := nowN_div k lf
      omega
/-- with a buffer or without one: the same place -/
theorem both_places {u : Us} (h : u.Ok) (hK : Kept u) (s : Bool) (va k : Int) (v0 : 0 ≤ va) (hk : k = 1 ∨ k = 2) :
    (placeR u ⟨true, s, 0⟩ va k).p = (placeR ⟨u.m, noL⟩ ⟨true, s, 0⟩ va k).p ∧ (placeR u ⟨true, s, 0⟩ va k).c = (placeR ⟨u.m, noL⟩ ⟨true, s, 0⟩ va k).c ∧ (placeR u ⟨true, s, 0⟩ va k).a = (placeR ⟨u.m, noL⟩ ⟨true, s, 0⟩ va k).a ∧
      (placeR u ⟨true, s, 0⟩ va k).u.m = (placeR ⟨u.m, noL⟩ ⟨true, s, 0⟩ va k).u.m ∧ Kept (placeR u ⟨true, s, 0⟩ va k).u := by
  have hT : (turnedR u ⟨true, s, 0⟩ va k).p = (turnedR ⟨u.m, noL⟩ ⟨true, s, 0⟩ va k).p ∧ (turnedR u ⟨true, s, 0⟩ va k).c = (turnedR ⟨u.m, noL⟩ ⟨true, s, 0⟩ va k).c ∧ (turnedR u ⟨true, s, 0⟩ va k).a = (turnedR ⟨u.m, noL⟩ ⟨true, s, 0⟩ va k).a ∧
      (turnedR u ⟨true, s, 0⟩ va k).u.m = (turnedR ⟨u.m, noL⟩ ⟨true, s, 0⟩ va k).u.m ∧ Kept (turnedR u ⟨true, s, 0⟩ va k).u := by
    have hno : Tl.hit (noL (idx va)) va k s = false := by simp [noL, Tl.noE, Tl.hit]
    have e2 : turnedR ⟨u.m, noL⟩ ⟨true, s, 0⟩ va k = if doOk u.m 0 va k s then ⟨now k (lkLeaf u.m 0 va) / 256 * 64 + va % 64, 0, 0, (⟨u.m, noL⟩ : Us).walked 0 va k⟩ else ⟨0, flt k, va, ⟨u.m, noL⟩⟩ := by
      unfold turnedR
      rw [if_neg (by simp), if_neg (by simp [hno])]
    have e1 : turnedR u ⟨true, s, 0⟩ va k = if Tl.hit (u.l (idx va)) va k s then ⟨Tl.found (u.l (idx va)) va k s, 0, 0, u⟩
        else if doOk u.m 0 va k s then ⟨now k (lkLeaf u.m 0 va) / 256 * 64 + va % 64, 0, 0, u.walked 0 va k⟩ else ⟨0, flt k, va, u⟩ := by
      unfold turnedR
      rw [if_neg (by simp)]
    cases hh : Tl.hit (u.l (idx va)) va k s
    · rw [hh, if_neg (by simp)] at e1
      cases hd : doOk u.m 0 va k s
      · rw [hd, if_neg (by simp)] at e1 e2
        rw [e1, e2]
        exact ⟨rfl, rfl, rfl, rfl, hK⟩
      · rw [hd, if_pos rfl] at e1 e2
        rw [e1, e2]
        exact ⟨rfl, rfl, rfl, rfl, kept_walked h hK va k s v0 hk hd⟩
    · obtain ⟨h1, h2, h3⟩ := hit_do (hK (idx va) (idx_lt va)) va k s v0 hk hh
      rw [hh, if_pos rfl] at e1
      rw [h1, if_pos rfl] at e2
      rw [e1, e2]
      exact ⟨h3, rfl, rfl, h2.symm, hK⟩
  obtain ⟨t1, t2, t3, t4, t5⟩ := hT
  have hf : ¬ flt k = 0 := by rcases hk with rfl | rfl <;> decide
  have g1 : placeR u ⟨true, s, 0⟩ va k = if (turnedR u ⟨true, s, 0⟩ va k).c ≠ 0 then ⟨0, (turnedR u ⟨true, s, 0⟩ va k).c, (turnedR u ⟨true, s, 0⟩ va k).a, (turnedR u ⟨true, s, 0⟩ va k).u⟩ else if thereB (turnedR u ⟨true, s, 0⟩ va k).u.m (turnedR u ⟨true, s, 0⟩ va k).p k then ⟨(turnedR u ⟨true, s, 0⟩ va k).p, 0, 0, (turnedR u ⟨true, s, 0⟩ va k).u⟩ else ⟨0, 10, va, (turnedR u ⟨true, s, 0⟩ va k).u⟩ := by rw [placeR, if_neg hf]
  have g2 : placeR ⟨u.m, noL⟩ ⟨true, s, 0⟩ va k = if (turnedR ⟨u.m, noL⟩ ⟨true, s, 0⟩ va k).c ≠ 0 then ⟨0, (turnedR ⟨u.m, noL⟩ ⟨true, s, 0⟩ va k).c, (turnedR ⟨u.m, noL⟩ ⟨true, s, 0⟩ va k).a, (turnedR ⟨u.m, noL⟩ ⟨true, s, 0⟩ va k).u⟩ else if thereB (turnedR ⟨u.m, noL⟩ ⟨true, s, 0⟩ va k).u.m (turnedR ⟨u.m, noL⟩ ⟨true, s, 0⟩ va k).p k then ⟨(turnedR ⟨u.m, noL⟩ ⟨true, s, 0⟩ va k).p, 0, 0, (turnedR ⟨u.m, noL⟩ ⟨true, s, 0⟩ va k).u⟩ else ⟨0, 10, va, (turnedR ⟨u.m, noL⟩ ⟨true, s, 0⟩ va k).u⟩ := by rw [placeR, if_neg hf]
  rw [g1, g2]
  rw [← t1, ← t2, ← t3, ← t4]
  split
  · exact ⟨rfl, rfl, rfl, t4, t5⟩
  · split
    · exact ⟨rfl, rfl, rfl, t4, t5⟩
    · exact ⟨rfl, rfl, rfl, t4, t5⟩
end Go.Proofs.Ythiephlfhbkcbaa.Mu
namespace Go.Proofs.Ythiephlfhbkcbaa.Mu
open Go.RowKit Fm Nt Rm By Wk
open Go.ChangeShapes Go.WideShapes Go.Deep
set_option linter.unusedVariables false
set_option linter.unusedSimpArgs false
set_option maxHeartbeats 4000000

/-- the page and the entry -/
def pgv (x : Pt) : Int := if x.page % 11 = 10 then 512 else x.page % 11
def pv (x : Pt) : Int := pgv x * 256 + (x.bits % 128) / 2 * 2 + 1
def prt4 (z : Nat → Int) (x : Pt) (r : Nat) : Nat → Int := fun i => if x.at_ ≤ i ∧ i < x.at_ + r then (if i - x.at_ = 0 then pv x % 256 else if i - x.at_ = 1 then pv x / 256 % 256 else if i - x.at_ = 2 then pv x / 65536 % 256 else pv x / 16777216 % 256) else z i
/-- what stands behind the tables -/
def rstZ (ys : List Int) : Nat → Int := fun i => if 192 ≤ i ∧ i - 192 < ys.length then ys.getD (i - 192) 0 else 0
def tab10 (L : Nat → Pt) (ys : List Int) : Nat → Nat → Int
  | 0 => rstZ ys
  | k + 1 => prt4 (tab10 L ys k) (L k) 4
theorem pgv_bd (x : Pt) : 0 ≤ pgv x ∧ pgv x ≤ 512 := by unfold pgv; split <;> omega
theorem pv_bd (x : Pt) : 0 ≤ pv x ∧ pv x ≤ 4294967295 := by
  have := pgv_bd x
  unfold pv
  omega
theorem getD_bd (ys : List Int) (hy : ∀ z ∈ ys, 0 ≤ z ∧ z < 256) (j : Nat) (h : j < ys.length) : 0 ≤ ys.getD j 0 ∧ ys.getD j 0 < 256 := by
  rw [List.getD_eq_getElem?_getD, List.getElem?_eq_getElem h]
  exact hy _ (List.getElem_mem h)
theorem tab10_bd (L : Nat → Pt) (ys : List Int) (hy : ∀ z ∈ ys, 0 ≤ z ∧ z < 256) : ∀ k i, 0 ≤ tab10 L ys k i ∧ tab10 L ys k i < 256 := by
  intro k
  induction k with
  | zero =>
    intro i
    show 0 ≤ rstZ ys i ∧ rstZ ys i < 256
    unfold rstZ
    split
    · rename_i h
      exact getD_bd ys hy _ h.2
    · exact ⟨Int.le_refl _, by decide⟩
  | succ k ih =>
    intro i
    show 0 ≤ prt4 (tab10 L ys k) (L k) 4 i ∧ prt4 (tab10 L ys k) (L k) 4 i < 256
    unfold prt4
    split
    · split
      · omega
      · split
        · omega
        · split <;> omega
    · exact ih i
theorem prt4_succ (z : Nat → Int) (x : Pt) (r : Nat) (b : Int) (hb : b = if r = 0 then pv x % 256 else if r = 1 then pv x / 256 % 256 else if r = 2 then pv x / 65536 % 256 else pv x / 16777216 % 256) : updI (prt4 z x r) (x.at_ + r) b = prt4 z x (r + 1) := by
  funext i
  unfold updI prt4
  by_cases e : i = x.at_ + r
  · have h1 : x.at_ ≤ i ∧ i < x.at_ + (r + 1) := by omega
    have h2 : i - x.at_ = r := by omega
    rw [if_pos e, if_pos h1, hb, h2]
  · rw [if_neg e]
    by_cases h : x.at_ ≤ i ∧ i < x.at_ + r
    · have h1 : x.at_ ≤ i ∧ i < x.at_ + (r + 1) := by omega
      rw [if_pos h, if_pos h1]
    · have h1 : ¬ (x.at_ ≤ i ∧ i < x.at_ + (r + 1)) := by omega
      rw [if_neg h, if_neg h1]
theorem run_behind (g : Nat) (W : World) : (Instr.slice 24 (.slice (some ⟨g, 0, none⟩) 512 512) (some (.int .i64 192)) none none).run Try.prog W = .ok (.slice (some ⟨g, 192, none⟩) 320 320) W := by
  obtain ⟨i0, hi0, hz0, hz1, hz2⟩ := info_parts infoU8
  have he : Try.prog.elem 24 = 5 := by kernel_rfl
  rw [run_slice_l W 24 (some ⟨g, 0, none⟩) 512 512 (by rw [he]; exact Try.underlying24) .i64 192 (by omega) (by omega)]
  simp [sizeOf, typeInfo, he, hi0, hz1, Result.andThen, sliced, Addr.add]
def Tabs10 (w : World) (len : Nat) (L : Nat → Pt) (ys : List Int) (e : Ending) (w' : World) : Prop := e = .returned (.slice (some ⟨w.heap.size, 0, none⟩) 512 512) ∧ Cells w' w.heap.size 5 512 (fun i => .int .u8 (tab10 L ys (min len 40) i)) ∧ Fr (fun _ => False) w w'
set_option maxRecDepth 100000 in
theorem tables10 (w : World) (A : Option Addr) (len cap : Nat) (L : Nat → Pt) (hL : PtsAt w w.heap.size A len L) (hm : len ≤ maxLen) (A2 : Option Addr) (len2 cap2 : Nat) (ys : List Int) (hy : IntsAt .u8 w w.heap.size A2 (min len2 320) ys) :
    Calls Try.prog 24 #[.slice A len cap, .slice A2 len2 cap2] w (Tabs10 w len L ys) := by
  unfold maxLen at hm
  have HL := Lib.hid hL
  have hmk : ∀ W, (Instr.makeSlice 24 (.int .i64 512) (.int .i64 512)).run Try.prog W = .ok (.slice (some ⟨W.heap.size, 0, none⟩) 512 512) (W.alloc (.cells (zU 512) 5)) := fun W => run_makeU .i64 512 (by omega) W
  have hsl := run_behind w.heap.size
  have hc0 := Lib.hid (cellsU w 512 rfl)
  have f0 := (Fr.refl (fun _ => False) w).alloc (.cells (zU 512) 5)
  have hsz := szU
  have HY := Lib.hid (hy.fr f0 (Nat.le_refl _) (fun _ _ e => e))
  have hly := hy.1
  have F0 := Lib.hid f0
  clear hL hy f0
  go_enter Try.func24, Try.ntmps24
  go_wp2_with
    (refine wpList_copy_cells rfl (.tmp 13) (.tmp 14) 24 24 rfl 5 Try.underlying24 hsz w.heap.size 192 320 320 A2 len2 cap2 rfl rfl 5 512 _ hc0.out .u8 w.heap.size (min len2 320) ys (by omega) HY.out (by omega) ?_
     intro w2 hc2 f2)
  have hc3 : Cells w2 w.heap.size 5 512 (fun i => .int .u8 (tab10 L ys 0 i)) := Cells.congr hc2 (fun i hi => by
    show putR _ 192 _ i = .int .u8 (rstZ ys i)
    unfold putR rstZ
    rw [List.length_map]
    by_cases h : 192 ≤ i ∧ i < 192 + ys.length
    · rw [if_pos h, if_pos (by omega)]
      have : i - 192 < ys.length := by omega
      simp [List.getD_eq_getElem?_getD, this]
    · rw [if_neg h, if_neg (by omega)])
  have hc0' := Lib.hid hc3
  have f2' := Lib.hid (F0.out.trans (S := fun _ => False) f2 (fun i hi e => by omega))
  clear hc2 hc3 f2 hmk hsl
  go_wp2_with fail
  go_loopw [6] (fun i wr => ∃ k : Nat, k ≤ len ∧ k ≤ 40 ∧ i = .int .i64 k ∧ Cells wr w.heap.size 5 512 (fun i => .int .u8 (tab10 L ys k i)) ∧ Fr (fun _ => False) w wr) (fun i _ => len - (intOf i).toNat)
  case atStart => exact ⟨0, by omega, by omega, rfl, hc0'.out, f2'.out⟩
  case round =>
    clear hc0' f2'
    obtain ⟨k, hk, hk2, rfl, hC, fr⟩ := hrel
    obtain ⟨wo, rfl⟩ : ∃ wo : World, wo = wr := ⟨_, rfl⟩
    by_cases hlt : k < len ∧ k < 40
    · obtain ⟨h1, h2⟩ := hlt
      have hd1 : decide ((k : Int) < 40) = true := by simp; omega
      have hd2 : decide (k < len) = true := by simp; omega
      obtain ⟨b, off, rfl, hb, hx⟩ := HL.out k h1
      have hbw : b < wo.heap.size := Nat.lt_of_lt_of_le hb fr.size
      have hbg : b ≠ w.heap.size := by omega
      obtain ⟨⟨c0, c1, c2⟩, p0, p1, p2⟩ := hx.fr fr hb (fun e => e)
      obtain ⟨Lk, hLk⟩ : ∃ q, q = L k := ⟨_, rfl⟩
      rw [← hLk] at c0 c1 c2 p0 p1 p2
      have HLk := Lib.hid hLk
      have a0 := wf_i64 p0
      have a1 := wf_i64 p1
      obtain ⟨a2, a3⟩ := wf_u32 p2
      have Hw0 : Hid (∀ W, Calls Try.prog 25 #[.int .i64 Lk.place, .int .i64 0, .int .i64 1000] W fun e w' => e = .returned (.int .i64 (Lk.place % 1001)) ∧ W = w') := Lib.hid (fun W => by
        have := Bk.within_any W Lk.place 0 1000 a0.1 a0.2 (by omega) (by omega) (by omega)
        rw [show (0 : Int) + Lk.place % (1000 - 0 + 1) = Lk.place % 1001 by omega] at this
        exact this)
      have Hw1 : Hid (∀ W, Calls Try.prog 25 #[.int .i64 Lk.page, .int .i64 0, .int .i64 1000] W fun e w' => e = .returned (.int .i64 (Lk.page % 1001)) ∧ W = w') := Lib.hid (fun W => by
        have := Bk.within_any W Lk.page 0 1000 a1.1 a1.2 (by omega) (by omega) (by omega)
        rw [show (0 : Int) + Lk.page % (1000 - 0 + 1) = Lk.page % 1001 by omega] at this
        exact this)
      have xa : Lk.place % 1001 % 48 * 4 = (Lk.at_ : Int) := by unfold Pt.at_; omega
      have hat : Lk.at_ + 4 ≤ 192 := by unfold Pt.at_; omega
      have m2 : Lk.bits.tmod 128 = Lk.bits % 128 := Int.tmod_eq_emod_of_nonneg a2
      have hpb := pgv_bd Lk
      have hvb := pv_bd Lk
      have o8 : bits .or .u32 (pgv Lk * 256) (Lk.bits % 128) = pgv Lk * 256 + Lk.bits % 128 := or8 _ _ (by omega) (by omega) (by omega) (by omega) (by omega)
      have o1 : bits .or .u32 (pgv Lk * 256 + Lk.bits % 128) 1 = pv Lk := by rw [or1 _ (by omega) (by omega)]; unfold pv; omega
      have HC2 := Lib.hid hC
      have HF2 := Lib.hid fr
      have Hpg : Hid (pgv Lk = if Lk.page % 11 = 10 then 512 else Lk.page % 11) := rfl
      have hv0 := hvb.1
      have hv1 := hvb.2
      clear hx hLk p0 p1 p2 a0 a1 hC fr hvb
      go_wp2_with fail
      refine (Hw0.out _).mono ?_
      rintro e w' ⟨rfl, rfl⟩
      go_wp2_with fail
      refine (Hw1.out _).mono ?_
      rintro e w' ⟨rfl, rfl⟩
      go_upto_if 43 with (fail)
      go_cut [8] (fun v wx => v = .int .u32 (pgv Lk) ∧ wo = wx)
      case first =>
        by_cases h10 : Lk.page % 11 = 10
        · have e1 : (Lk.page % 11 == 10) = true := by simp [h10]
          have Hq : Hid (pgv Lk = 512) := Lib.hid (by rw [Hpg.out, if_pos h10])
          clear h10
          go_wp2_with fail
          go_meet
          exact ⟨by rw [Hq.out], rfl⟩
        · have e1 : (Lk.page % 11 == 10) = false := by simpa using h10
          have Hq : Hid (pgv Lk = Lk.page % 11) := Lib.hid (by rw [Hpg.out, if_neg h10])
          clear h10
          go_wp2_with fail
          go_meet
          exact ⟨by rw [Hq.out], rfl⟩
      case rest =>
        obtain ⟨rfl, hw⟩ := hcut
        subst hw
        clear Hpg
        have hp0 := hpb.1
        have hp1 := hpb.2
        clear hpb
        generalize pgv Lk = pg at *
        go_wp2_with fail
        go_loopw [10] (fun i wr => ∃ r : Nat, r ≤ 4 ∧ i = .int .i64 r ∧ Cells wr w.heap.size 5 512 (fun i => .int .u8 (prt4 (tab10 L ys k) Lk r i)) ∧ Fr (fun _ => False) w wr) (fun i _ => 4 - (intOf i).toNat)
        case atStart => exact ⟨0, by omega, rfl, Cells.congr HC2.out (fun i hi => by unfold prt4; rw [if_neg (by omega)]), HF2.out⟩
        case round =>
          obtain ⟨r, hr, rfl, hC, fr⟩ := hrel
          by_cases hlr : r < 4
          · rcases (by omega : r = 0 ∨ r = 1 ∨ r = 2 ∨ r = 3) with rfl | rfl | rfl | rfl
            · obtain ⟨jr, hjr⟩ : ∃ q : Nat, q = Lk.at_ := ⟨_, rfl⟩
              have s3 : (Lk.at_ : Int) = (jr : Int) := by omega
              have u3 : IntKind.u8.wrap (pv Lk) = (pv Lk) % 256 := IntKind.wrap_u8 _
              have cj := hC.cell jr (by omega)
              have zj := Cells.frozen hC jr
              have q0 : (0 : Int) ≤ (jr : Int) := by omega
              have q1 : (jr : Int) < 512 := by omega
              have HD : Hid (Cells (wr.setCell ⟨w.heap.size, jr, none⟩ (.int .u8 ((pv Lk) % 256))) w.heap.size 5 512 (fun i => .int .u8 (prt4 (tab10 L ys k) Lk 1 i))) := Lib.hid (by
                have := set_u8 hC jr ((pv Lk) % 256)
                rw [hjr] at this ⊢
                rw [show Lk.at_ = Lk.at_ + 0 from rfl, prt4_succ _ _ 0 _ (by simp)] at this
                exact this)
              have HF := Lib.hid (fr.setCell (p := ⟨w.heap.size, jr, none⟩) (.inr (Nat.le_refl _)) (.int .u8 ((pv Lk) % 256)))
              clear hC fr hjr
              go_wp2_with fail
              go_roundw
              case rel => exact ⟨1, by omega, rfl, HD.out, HF.out⟩
              case measure => simp [intOf]
            · obtain ⟨jr, hjr⟩ : ∃ q : Nat, q = Lk.at_ + 1 := ⟨_, rfl⟩
              have s3 : (Lk.at_ : Int) + 1 = (jr : Int) := by omega
              have s4 : IntKind.i64.wrap ((Lk.at_ : Int) + 1) = (jr : Int) := by rw [IntWalk.i64_in _ (by omega)]; omega
              have cj := hC.cell jr (by omega)
              have zj := Cells.frozen hC jr
              have q0 : (0 : Int) ≤ (jr : Int) := by omega
              have q1 : (jr : Int) < 512 := by omega
              have HD : Hid (Cells (wr.setCell ⟨w.heap.size, jr, none⟩ (.int .u8 ((pv Lk) / 256 % 256))) w.heap.size 5 512 (fun i => .int .u8 (prt4 (tab10 L ys k) Lk 2 i))) := Lib.hid (by
                have := set_u8 hC jr ((pv Lk) / 256 % 256)
                rw [hjr] at this ⊢
                rw [prt4_succ _ _ 1 _ (by simp)] at this
                exact this)
              have HF := Lib.hid (fr.setCell (p := ⟨w.heap.size, jr, none⟩) (.inr (Nat.le_refl _)) (.int .u8 ((pv Lk) / 256 % 256)))
              clear hC fr hjr
              go_wp2_with fail
              go_roundw
              case rel => exact ⟨2, by omega, rfl, HD.out, HF.out⟩
              case measure => simp [intOf]
            · obtain ⟨jr, hjr⟩ : ∃ q : Nat, q = Lk.at_ + 2 := ⟨_, rfl⟩
              have s3 : (Lk.at_ : Int) + 2 = (jr : Int) := by omega
              have s4 : IntKind.i64.wrap ((Lk.at_ : Int) + 2) = (jr : Int) := by rw [IntWalk.i64_in _ (by omega)]; omega
              have cj := hC.cell jr (by omega)
              have zj := Cells.frozen hC jr
              have q0 : (0 : Int) ≤ (jr : Int) := by omega
              have q1 : (jr : Int) < 512 := by omega
              have HD : Hid (Cells (wr.setCell ⟨w.heap.size, jr, none⟩ (.int .u8 ((pv Lk) / 65536 % 256))) w.heap.size 5 512 (fun i => .int .u8 (prt4 (tab10 L ys k) Lk 3 i))) := Lib.hid (by
                have := set_u8 hC jr ((pv Lk) / 65536 % 256)
                rw [hjr] at this ⊢
                rw [prt4_succ _ _ 2 _ (by simp)] at this
                exact this)
              have HF := Lib.hid (fr.setCell (p := ⟨w.heap.size, jr, none⟩) (.inr (Nat.le_refl _)) (.int .u8 ((pv Lk) / 65536 % 256)))
              clear hC fr hjr
              go_wp2_with fail
              go_roundw
              case rel => exact ⟨3, by omega, rfl, HD.out, HF.out⟩
              case measure => simp [intOf]
            · obtain ⟨jr, hjr⟩ : ∃ q : Nat, q = Lk.at_ + 3 := ⟨_, rfl⟩
              have s3 : (Lk.at_ : Int) + 3 = (jr : Int) := by omega
              have s4 : IntKind.i64.wrap ((Lk.at_ : Int) + 3) = (jr : Int) := by rw [IntWalk.i64_in _ (by omega)]; omega
              have cj := hC.cell jr (by omega)
              have zj := Cells.frozen hC jr
              have q0 : (0 : Int) ≤ (jr : Int) := by omega
              have q1 : (jr : Int) < 512 := by omega
              have HD : Hid (Cells (wr.setCell ⟨w.heap.size, jr, none⟩ (.int .u8 ((pv Lk) / 16777216))) w.heap.size 5 512 (fun i => .int .u8 (prt4 (tab10 L ys k) Lk 4 i))) := Lib.hid (by
                have := set_u8 hC jr ((pv Lk) / 16777216)
                rw [hjr] at this ⊢
                rw [prt4_succ _ _ 3 _ (by simp; omega)] at this
                exact this)
              have HF := Lib.hid (fr.setCell (p := ⟨w.heap.size, jr, none⟩) (.inr (Nat.le_refl _)) (.int .u8 ((pv Lk) / 16777216)))
              clear hC fr hjr
              go_wp2_with fail
              go_roundw
              case rel => exact ⟨4, by omega, rfl, HD.out, HF.out⟩
              case measure => simp [intOf]
          · have e : r = 4 := by omega
            rw [e] at hC
            have HD : Hid (Cells wr w.heap.size 5 512 (fun i => .int .u8 (tab10 L ys (k + 1) i))) := Lib.hid (by
              show Cells wr w.heap.size 5 512 (fun i => .int .u8 (prt4 (tab10 L ys k) (L k) 4 i))
              rw [← HLk.out]
              exact hC)
            clear hC e
            go_wp2_with fail
            go_roundw
            case rel => exact ⟨k + 1, by omega, by omega, by go_num, HD.out, fr⟩
            case measure => simp [intOf]; omega
    · have hkm : k = min len 40 := by omega
      have HX : Hid (Tabs10 w len L ys (.returned (.slice (some ⟨w.heap.size, 0, none⟩) 512 512)) wo) := Lib.hid ⟨rfl, hkm ▸ hC, fr⟩
      clear hC fr hkm
      go_wp2_with fail
      all_goals
        go_ret
        exact HX.out
instance : Inhabited Pt := ⟨⟨0, 0, 0⟩⟩
theorem openPtes {H : Type} {enc : TypeId × Value → H} {w : World} {a : Option Addr} {len cap : Nat} {d : DataW H} {p : List MemPlace}
    (h : DataW.Trod enc Try.prog w 0 (fun _ => true) true 52 (.slice a len cap) d p) : (∃ L, PtsAt w w.heap.size a len L) ∧ len ≤ maxLen := by
  obtain ⟨fuel, hf⟩ := h
  rcases open_slice_fields Try.underlying52 Try.underlying80 (by kernel_rfl) (by kernel_rfl) hf with ⟨hcs, _⟩ | ⟨x, l, c, m, D, Pl, hcs, _, hl, hm, hmm, hx, hi⟩
  · simp [Value.cells] at hcs
    obtain ⟨rfl, rfl, rfl⟩ := hcs
    exact ⟨⟨fun _ => ⟨0, 0, 0⟩, fun i hi => absurd hi (by omega)⟩, by simp [maxLen]⟩
  · simp [Value.cells] at hcs
    obtain ⟨rfl, rfl, rfl⟩ := hcs
    have hlm : len ≤ m := by simp at hmm; omega
    have key : ∀ i, i < len → ∃ y : Pt, (w.cell? (x.add (i * 3)) = some (.int .i64 y.place) ∧ w.cell? (x.add (i * 3 + 1)) = some (.int .i64 y.page) ∧ w.cell? (x.add (i * 3 + 2)) = some (.int .u32 y.bits)) ∧
        (Lit.int .i64 y.place).wf = true ∧ (Lit.int .i64 y.page).wf = true ∧ (Lit.int .u32 y.bits).wf = true := by
      intro i hil
      obtain ⟨ys, n, _, _, _, hf⟩ := hi i (by omega)
      obtain ⟨v0, y0, hc0, _, ht0⟩ := hf 0 _ rfl
      obtain ⟨v1, y1, hc1, _, ht1⟩ := hf 1 _ rfl
      obtain ⟨v2, y2, hc2, _, ht2⟩ := hf 2 _ rfl
      obtain ⟨s, rfl, w0⟩ := cell_int Try.underlying3 ht0
      obtain ⟨at_, rfl, w1⟩ := cell_int Try.underlying3 ht1
      obtain ⟨c, rfl, w2⟩ := cell_int Try.underlying22 ht2
      exact ⟨⟨s, at_, c⟩, ⟨hc0, hc1, hc2⟩, w0, w1, w2⟩
    obtain ⟨L, hL⟩ := choose_lt key
    refine ⟨⟨L, fun i hil => ?_⟩, Nat.le_trans hl hm⟩
    obtain ⟨b, off, spot⟩ := x
    obtain ⟨⟨hc0, _⟩, _⟩ := hL 0 (by omega)
    have hspot : spot = none := by simpa [Addr.add] using World.cell?_spot hc0
    subst hspot
    have hadd : ∀ j, (⟨b, off, none⟩ : Addr).add j = ⟨b, off + j, none⟩ := by
      intro j
      unfold Addr.add
      split
      · rename_i h0; subst h0; rfl
      · rfl
    refine ⟨b, off, rfl, ?_, ?_⟩
    · rcases Nat.lt_or_ge b w.heap.size with h | h
      · exact h
      · exfalso
        have : w.heap[b]? = none := Array.getElem?_eq_none h
        rw [hadd] at hc0
        simp [World.cell?, this] at hc0
    · obtain ⟨q, r⟩ := hL i hil
      simp only [hadd, ← Nat.add_assoc] at q
      exact ⟨q, r⟩
end Go.Proofs.Ythiephlfhbkcbaa.Mu
namespace Go.Proofs.Ythiephlfhbkcbaa.Mu
open Go.RowKit Fm Nt Rm By Wk
set_option linter.unusedVariables false
set_option linter.unusedSimpArgs false
set_option maxHeartbeats 1000000

theorem memory_t (w : World) (A : Au) (u : Us) (h : Un w A u) : Calls Try.prog 26 #[.pointer (some ⟨A.gU, 0, none⟩)] w fun e w' => e = .returned (.pointer (some ⟨A.am.gm, 0, none⟩)) ∧ w = w' := by
  have c0 := h.c0
  go_enter Try.func26, Try.ntmps26
  go_wp2_with fail
  go_ret
  exact ⟨rfl, rfl⟩
theorem flush_t (w : World) (A : Au) (u : Us) (h : Un w A u) : Calls Try.prog 33 #[.pointer (some ⟨A.gU, 0, none⟩)] w fun e w' => e = .returned (.tuple #[]) ∧ Un w' A ⟨u.m, noL⟩ ∧ Fr A.wr w w' := by
  have c0 := h.c1
  have Hf := Lib.hid (Tl.flush_any w A.gB u.l h.B)
  have H := Lib.hid h
  clear h
  go_enter Try.func33, Try.ntmps33
  go_wp2_with fail
  refine (Hf.out).mono ?_
  rintro e w1 ⟨rfl, hB, f⟩
  have HX := Lib.hid (And.intro (H.out.setB hB f) (f.mono (S' := A.wr) (fun k _ e => .inl e)))
  clear hB f
  go_wp2_with fail
  go_end0
  exact ⟨rfl, HX.out.1, HX.out.2⟩
theorem all_t (w : World) (A : Au) (u : Us) (h : Un w A u) : Calls Try.prog 27 #[.pointer (some ⟨A.am.gm, 0, none⟩)] w fun e w' => ∃ g, e = .returned (.slice (some ⟨g, 0, none⟩) (u.m.n * 64) (u.m.n * 64)) ∧ IntsAt .u8 w' w'.heap.size (some ⟨g, 0, none⟩) (u.m.n * 64) (lst u.m.mem (u.m.n * 64)) ∧ Fr (fun _ => False) w w' := by
  refine (all_any w A.am u.m h.M).mono ?_
  rintro e w' ⟨rfl, hc, f⟩
  exact ⟨_, rfl, (cells_ints hc h.M.bd).more hc.lt, f⟩
theorem pts_fr {w w' : World} {A : Option Addr} {n : Nat} {L : Nat → Pt} (h : PtsAt w w.heap.size A n L) (f : Fr (fun _ => False) w w') : PtsAt w' w'.heap.size A n L := fun i hi => by
  obtain ⟨b, off, e, hb, hx⟩ := h i hi
  exact ⟨b, off, e, Nat.lt_of_lt_of_le hb f.size, hx.fr f hb (fun e => e)⟩
/-- the tables' bytes as they are handed on -/
theorem tabs_ints {w w' : World} {len : Nat} {L : Nat → Pt} {ys : List Int} (hy : ∀ z ∈ ys, 0 ≤ z ∧ z < 256) (hc : Cells w' w.heap.size 5 512 (fun i => .int .u8 (tab10 L ys (min len 40) i))) : IntsAt .u8 w' (w.heap.size + 1) (some ⟨w.heap.size, 0, none⟩) 512 (lst (tab10 L ys (min len 40)) 512) := cells_ints hc (fun k _ => tab10_bd L ys hy _ k)
end Go.Proofs.Ythiephlfhbkcbaa.Mu
namespace Go.Proofs.Ythiephlfhbkcbaa.mmuBuffer
open Go.RowKit Fm Nt Rm By Wk Mu
set_option linter.unusedVariables false
set_option linter.unusedSimpArgs false
set_option maxHeartbeats 4000000

theorem wpAnyH_mono {P : Program} {ops : Array Oper} {Q : Exit → Act → World → Prop} {md : Region.Mode} {S S' : World → Prop} (hS : ∀ w, S' w → S w) :
    ∀ (fuel : Nat) (listed : Array Bool) (a : Act) (w : World), wpAnyH P md ops Q S' fuel listed a w → wpAnyH P md ops Q S fuel listed a w
  | 0, _, _, _, h => h
  | fuel + 1, _, _, _, h => ⟨h.1, fun i hi => wpOp_mono (fun a' w' h' => ⟨hS w' h'.1, wpAnyH_mono hS fuel _ a' w' h'.2⟩) (h.2 i hi)⟩
/-- two units of one memory, apart: one with a buffer that keeps what a walk would tell -/
structure Pair (w0 w : World) (A B : Au) (u v : Us) : Prop where
  U : Un w A u
  V : Un w B v
  m : v.m = u.m
  K : Kept u
  f : Fr (fun _ => False) w0 w
structure Apart (w0 : World) (A B : Au) : Prop where
  a : ∀ k, k = A.gU ∨ A.wr k → w0.heap.size ≤ k
  b : ∀ k, k = B.gU ∨ B.wr k → w0.heap.size ≤ k
  ab : ∀ k, k = A.gU ∨ A.wr k → ¬ (k = B.gU ∨ B.wr k)
set_option maxRecDepth 100000 in
theorem walk (w : World) (A1 : Option Addr) (len1 cap1 : Nat) (hP : (∃ L, PtsAt w w.heap.size A1 len1 L) ∧ len1 ≤ maxLen) (A2 : Option Addr) (len2 cap2 : Nat) (hA : AsksAt w w.heap.size A2 len2 ∧ len2 ≤ maxLen) :
    Calls Try.prog 7 #[.slice A1 len1 cap1, .slice A2 len2 cap2] w fun e w' => e = .returned (.bool true) ∧ Fr (fun _ => False) w w' := by
  obtain ⟨⟨L, hL⟩, hm1⟩ := hP
  obtain ⟨hA, hm2⟩ := hA
  have HL := Lib.hid hL
  have HA := Lib.hid hA
  have Ht := Lib.hid (fun W (f : Fr (fun _ => False) w W) => tables10 W A1 len1 cap1 L (pts_fr hL f) hm1 none 0 0 [] (intsAt_nil _ _ _ _))
  unfold maxLen at hm2
  clear hL hA
  go_enter Try.func7, Try.ntmps7
  go_wp2_with fail
  refine (Ht.out w (Fr.refl _ w)).mono ?_
  rintro e w1 ⟨rfl, hc1, f1⟩
  have hi1 := tabs_ints (fun z hz => by cases hz) hc1
  have Hb1 := Lib.hid (both10 w1 _ 512 512 8 _ _ hi1 hc1.lt (by omega) (by omega) (by omega))
  clear hc1 hi1
  go_wp2_with fail
  refine (Hb1.out).mono ?_
  rintro e w2 ⟨A, r1, rfl, hU, _, _, hbl1, f2⟩
  have fr2 := f1.tr f2
  have HU := Lib.hid hU
  have hsA := Lib.hid hU.lt
  have HB1 := Lib.hid hbl1
  clear hU hbl1 Hb1
  go_wp2_with fail
  refine (Ht.out w2 fr2).mono ?_
  rintro e w3 ⟨rfl, hc3, f3⟩
  have hi3 := tabs_ints (fun z hz => by cases hz) hc3
  have Hb3 := Lib.hid (both10 w3 _ 512 512 8 _ _ hi3 hc3.lt (by omega) (by omega) (by omega))
  clear hc3 hi3
  go_wp2_with fail
  refine (Hb3.out).mono ?_
  rintro e w4 ⟨B, r2, rfl, hV, _, _, hbl2, f4⟩
  have hs1 := f1.size
  have hs2 := f2.size
  have hs3 := f3.size
  have hAp : Hid (Apart w A B) := Lib.hid ⟨fun k hk => by have := HB1.out k (by rcases hk with h | h; exact .inl h; exact .inr (.inl h)); omega, fun k hk => by have := hbl2 k (by rcases hk with h | h; exact .inl h; exact .inr (.inl h)); omega, fun k hk e => by
    have h1 := hsA.out k hk
    have h2 := hbl2 k (by rcases e with h | h; exact .inl h; exact .inr (.inl h))
    omega⟩
  have hPr : Hid (∃ u v, Pair w w4 A B u v) := Lib.hid ⟨_, _, (HU.out.fr0 f3).fr0 f4, hV, rfl, kept_no _, (fr2.tr f3).tr f4⟩
  clear hV hbl2 f1 f2 f3 f4 fr2 HU Hb3 HB1 hsA Ht
  go_wp2_with fail
  go_loopw [9] (fun i wr => ∃ k : Nat, k ≤ len2 ∧ i = .int .i64 k ∧ ∃ u v, Pair w wr A B u v) (fun i _ => len2 - (intOf i).toNat)
  case atStart => exact ⟨0, by omega, rfl, hPr.out⟩
  case round =>
    clear hPr
    obtain ⟨k, hk, rfl, u, v, hPa⟩ := hrel
    obtain ⟨wo, rfl⟩ : ∃ wo : World, wo = wr := ⟨_, rfl⟩
    by_cases hlt : k < len2 ∧ k < 40
    · obtain ⟨h1, h2⟩ := hlt
      have h1i : (k : Int) < (len2 : Int) := by omega
      have h2i : (k : Int) < 40 := by omega
      obtain ⟨b, off, rfl, hbb, x, hx⟩ := AsksAt.at_ HA.out h1
      have hbw : b < wo.heap.size := Nat.lt_of_lt_of_le hbb hPa.f.size
      have hx := hx.fr hPa.f hbb (fun e => e)
      obtain ⟨⟨x0, x1, x2, x3, x4, x5, x6⟩, p0, p1, p2, p3, p4⟩ := hx
      obtain ⟨kd, how, nn0, vv, vx, pg, su⟩ := x
      dsimp only at x0 x1 x2 x3 x4 x5 x6 p0 p1 p2 p3 p4
      obtain ⟨h00, h01⟩ := wf_i64 p1
      obtain ⟨va0, va1⟩ := wf_u32 p3
      have Hw := Lib.hid (fun W => Bk.within_any W how 1 2 h00 h01 (by omega) (by omega) (by omega))
      obtain ⟨kk, hkk, hk12⟩ : ∃ q : Int, 1 + how % (2 - 1 + 1) = q ∧ (q = 1 ∨ q = 2) := ⟨_, rfl, by omega⟩
      rw [hkk] at Hw
      have f1 : Fr (fun _ => False) wo (wo.alloc (.cells #[.bool true, .bool su, .int .u32 0] 59)) := (Fr.refl _ _).alloc _
      have bS := Blk.new wo 59 #[.bool true, .bool su, .int .u32 0]
      go_upto_region 9 with (fail)
      generalize hw2 : wo.alloc (.cells #[.bool true, .bool su, .int .u32 0] 59) = w2 at *
      have x1 := f1.cell x1 hbw (fun e => e)
      have x3 := f1.cell x3 hbw (fun e => e)
      have hva0 : 0 ≤ vv % 3100 := by omega
      have hva1 : vv % 3100 < 3100 := by omega
      have hgs : wo.heap.size < w2.heap.size := by rw [← hw2]; simp
      clear x0 x2 x4 x5 x6 hw2 p0 p1 p2 p3 p4 hkk
      have hU2 := hPa.U.fr0 f1
      have hV2 := hPa.V.fr0 f1
      have fr2 := hPa.f.tr f1
      have hvm := hPa.m
      have hK := hPa.K
      obtain ⟨t1, t2, t3, t4, t5⟩ := both_places hPa.U.ok hK su (vv % 3100) kk hva0 hk12
      have hlA := hPa.U.lt
      have hlB := hPa.V.lt
      have nA : ∀ q, wo.heap.size ≤ q → ¬ A.wr q := fun q hq e => by have := hlA q (.inr e); omega
      have nB : ∀ q, wo.heap.size ≤ q → ¬ B.wr q := fun q hq e => by have := hlB q (.inr e); omega
      have Hp := Lib.hid (fun W (h : Un W A u) => place_any W A u h ⟨true, su, 0⟩ (vv % 3100) kk (Int.le_refl _) (by show (0 : Int) ≤ 4294967295; omega) hva0 (by omega))
      have Hq := Lib.hid (fun W (h : Un W B ⟨u.m, noL⟩) => place_any W B ⟨u.m, noL⟩ h ⟨true, su, 0⟩ (vv % 3100) kk (Int.le_refl _) (by show (0 : Int) ≤ 4294967295; omega) hva0 (by omega))
      generalize placeR u ⟨true, su, 0⟩ (vv % 3100) kk = x at *
      generalize placeR ⟨u.m, noL⟩ ⟨true, su, 0⟩ (vv % 3100) kk = y at *
      obtain ⟨p, c, a, u'⟩ := x
      obtain ⟨p2, c2, a2, v'⟩ := y
      dsimp only at t1 t2 t3 t4 t5
      subst t1 t2 t3
      have S0 := bS.cell 0
      have S1 := bS.cell 1
      have S2 := bS.cell 2
      simp only [List.getElem?_toArray, List.getElem?_cons_succ, List.getElem?_cons_zero] at S0 S1 S2
      have Hp2 := Lib.hid (Hp.out w2 hU2)
      have HV2 := Lib.hid hV2
      have HF2 := Lib.hid fr2
      have BS := Lib.hid bS
      have T4 := Lib.hid t4
      have T5 := Lib.hid t5
      have HVM := Lib.hid hvm
      have HlA := Lib.hid hlA
      have HlB := Lib.hid hlB
      have HnA := Lib.hid nA
      have HnB := Lib.hid nB
      clear hPa hU2 hV2 fr2 bS t4 t5 hvm hK Hp f1 hlA hlB nA nB
      go_wp2_with fail
      refine (Hw.out _).mono ?_
      rintro e w' ⟨rfl, rfl⟩
      go_wp2_with fail
      refine (Hp2.out).mono ?_
      rintro e w3 ⟨rfl, hU3, f3⟩
      dsimp only at hU3 ⊢
      have hV3 := HV2.out.fr f3 (fun q hq e => hAp.out.ab q (.inr e) hq)
      have fr3 := HF2.out.trans f3 (S := fun _ => False) (fun i hi e => by have := hAp.out.a i (.inr e); omega)
      have bS3 := BS.out.fr f3 (HnA.out _ (Nat.le_refl _))
      have hs3 := f3.size
      have f4 : Fr (fun _ => False) w3 (w3.alloc (.cells #[.int .i64 c, .int .u32 a] 63)) := (Fr.refl _ _).alloc _
      have bT := Blk.new w3 63 #[.int .i64 c, .int .u32 a]
      go_upto_region 12 with (fail)
      generalize hw4 : w3.alloc (.cells #[.int .i64 c, .int .u32 a] 63) = w4 at *
      have HU4 := Lib.hid (hU3.fr0 f4)
      have hV4 := hV3.fr0 f4
      have HF4 := Lib.hid (fr3.tr f4)
      have BS4 := Lib.hid (bS3.fr f4 (fun e => e))
      have BT4 := Lib.hid bT
      have Hfl := Lib.hid (flush_t w4 B v hV4)
      have hs4 : w3.heap.size < w4.heap.size := by rw [← hw4]; simp
      clear hw4 hU3 hV3 fr3 bS3 f3 f4 bT hV4 S0 S1 S2
      go_wp2_with fail
      refine (Hfl.out).mono ?_
      rintro e w5 ⟨rfl, hV5, f5⟩
      rw [HVM.out] at hV5
      have hU5 := HU4.out.fr f5 (fun q hq e => hAp.out.ab q hq (.inr e))
      have fr5 := HF4.out.trans f5 (S := fun _ => False) (fun i hi e => by have := hAp.out.b i (.inr e); omega)
      have bS5 := BS4.out.fr f5 (HnB.out _ (Nat.le_refl _))
      have bT5 := BT4.out.fr f5 (HnB.out _ (by omega))
      have Hq5 := Lib.hid (Hq.out w5 hV5)
      have S0 := bS5.cell 0
      have S1 := bS5.cell 1
      have S2 := bS5.cell 2
      simp only [List.getElem?_toArray, List.getElem?_cons_succ, List.getElem?_cons_zero] at S0 S1 S2
      have HU5 := Lib.hid hU5
      have HF5 := Lib.hid fr5
      have BT5 := Lib.hid bT5
      have hs5 := f5.size
      clear hV5 hU5 fr5 bS5 bT5 f5 Hq Hfl
      go_wp2_with fail
      refine (Hq5.out).mono ?_
      rintro e w6 ⟨rfl, hV6, f6⟩
      dsimp only at hV6 ⊢
      have hU6 := HU5.out.fr f6 (fun q hq e => hAp.out.ab q hq (.inr e))
      have fr6 := HF5.out.trans f6 (S := fun _ => False) (fun i hi e => by have := hAp.out.b i (.inr e); omega)
      have bT6 := BT5.out.fr f6 (HnB.out _ (by omega))
      have f7 : Fr (fun _ => False) w6 (w6.alloc (.cells #[.int .i64 c, .int .u32 a] 63)) := (Fr.refl _ _).alloc _
      have bW := Blk.new w6 63 #[.int .i64 c, .int .u32 a]
      go_upto_region 14 with (fail)
      generalize hw7 : w6.alloc (.cells #[.int .i64 c, .int .u32 a] 63) = w7 at *
      have bT7 := bT6.fr f7 (fun e => e)
      have y0 := bT7.cell 0
      have y1 := bT7.cell 1
      have z0 := bW.cell 0
      have z1 := bW.cell 1
      simp only [List.getElem?_toArray, List.getElem?_cons_succ, List.getElem?_cons_zero] at y0 y1 z0 z1
      have HFin : Hid (∃ u v, Pair w w7 A B u v) := Lib.hid ⟨u', v', hU6.fr0 f7, hV6.fr0 f7, T4.out.symm, T5.out, fr6.tr f7⟩
      clear hw7 hV6 hU6 fr6 bT6 bT7 bW f6 f7 S0 S1 S2
      go_wp2_with fail
      go_roundw
      case rel => exact ⟨k + 1, by omega, by go_num, HFin.out⟩
      case measure => simp [intOf]; omega
    · have hlt' : ¬ k < len2 ∨ k < len2 ∧ ¬ k < 40 := by omega
      have hU := hPa.U
      have hV := hPa.V
      have hvm := hPa.m
      have Hq : Hid (∀ W B A n c, IntsAt .u8 W B A n (lst u.m.mem (u.m.n * 64)) → (convert 24 9 (.slice A n c)).run Try.prog W = .ok (.string (str (lst u.m.mem (u.m.n * 64)))) W) := Lib.hid (fun W B A n c h => str_of_ints h)
      have HM1 := Lib.hid (fun W (f : Fr (fun _ => False) wo W) => memory_t W A u (hU.fr0 f))
      have HM2 := Lib.hid (fun W (f : Fr (fun _ => False) wo W) => memory_t W B v (hV.fr0 f))
      have HA1 := Lib.hid (fun W (f : Fr (fun _ => False) wo W) => all_t W A u (hU.fr0 f))
      have ha2 := fun W (f : Fr (fun _ => False) wo W) => all_t W B v (hV.fr0 f)
      rw [hvm] at ha2
      have HA2 := Lib.hid ha2
      have HF := Lib.hid hPa.f
      clear hPa hU hV hvm ha2 hlt
      generalize str (lst u.m.mem (u.m.n * 64)) = q1 at *
      generalize u.m.n * 64 = NN at *
      go_upto_region 16 with (fail)
      all_goals
        refine wp_region_held_drew (S := Fr (fun _ => False) wo) (by kernel_rfl) ((Fr.refl (fun _ => False) wo).drew) (fun hH => ?_)
        refine wpAnyH_take (i := 0) (v := ?_) rfl (by kernel_rfl) (by kernel_rfl) (by kernel_rfl) (fun _ _ _ h => h) (Or.inl ⟨by kernel_rfl, ?_⟩) hH ?_
        rotate_left
        · (intro W _; go_simp; try with_reducible rfl)
        simp (config := { maxSteps := 2000000 }) only [Act.put, List.getElem_toArray, List.getElem_cons_zero, List.getElem_cons_succ, List.setIfInBounds_toArray, List.set_cons_zero, List.set_cons_succ]
        refine wpAnyH_ready (rs := [1]) (by kernel_rfl) (by simp) ?_
        refine AllReadyH.cons rfl (fun K hK => ?_) ?_
        · go_simp
          go_wp2_with (refine (HM1.out _ hH).mono ?_; rintro e w' ⟨rfl, rfl⟩)
          refine hK.out _ _ ?_ (fun hH => ?_)
          · exact hH
          clear hK K
          refine wpAnyH_take (i := 2) (v := ?_) rfl (by kernel_rfl) (by kernel_rfl) (by kernel_rfl) (fun _ _ _ h => h) (Or.inl ⟨by kernel_rfl, ?_⟩) hH ?_
          rotate_left
          · (intro W _; go_simp; try with_reducible rfl)
          refine wpAnyH_take (i := 3) (v := ?_) rfl (by kernel_rfl) (by kernel_rfl) (by kernel_rfl) (fun _ _ _ h => h) (Or.inl ⟨by kernel_rfl, ?_⟩) hH ?_
          rotate_left
          · (intro W _; go_simp; try with_reducible rfl)
          refine wpAnyH_take (i := 4) (v := ?_) rfl (by kernel_rfl) (by kernel_rfl) (by kernel_rfl) (fun _ _ _ h => h) (Or.inl ⟨by kernel_rfl, ?_⟩) hH ?_
          rotate_left
          · (intro W _; go_simp; try with_reducible rfl)
          simp (config := { maxSteps := 2000000 }) only [Act.put, List.getElem_toArray, List.getElem_cons_zero, List.getElem_cons_succ, List.setIfInBounds_toArray, List.set_cons_zero, List.set_cons_succ]
          refine wpAnyH_ready (rs := [5]) (by kernel_rfl) (by simp) ?_
          refine AllReadyH.cons rfl (fun K hK => ?_) ?_
          · go_simp
            go_wp2_with (refine (HM2.out _ hH).mono ?_; rintro e w' ⟨rfl, rfl⟩)
            refine hK.out _ _ ?_ (fun hH => ?_)
            · exact hH
            clear hK K
            refine wpAnyH_take (i := 6) (v := ?_) rfl (by kernel_rfl) (by kernel_rfl) (by kernel_rfl) (fun _ _ _ h => h) (Or.inl ⟨by kernel_rfl, ?_⟩) hH ?_
            rotate_left
            · (intro W _; go_simp; try with_reducible rfl)
            refine wpAnyH_take (i := 7) (v := ?_) rfl (by kernel_rfl) (by kernel_rfl) (by kernel_rfl) (fun _ _ _ h => h) (Or.inl ⟨by kernel_rfl, ?_⟩) hH ?_
            rotate_left
            · (intro W _; go_simp; try with_reducible rfl)
            refine wpAnyH_take (i := 8) (v := ?_) rfl (by kernel_rfl) (by kernel_rfl) (by kernel_rfl) (fun _ _ _ h => h) (Or.inl ⟨by kernel_rfl, ?_⟩) hH ?_
            rotate_left
            · (intro W _; go_simp; try with_reducible rfl)
            simp (config := { maxSteps := 2000000 }) only [Act.put, List.getElem_toArray, List.getElem_cons_zero, List.getElem_cons_succ, List.setIfInBounds_toArray, List.set_cons_zero, List.set_cons_succ]
            refine wpAnyH_take (i := 9) (v := ?_) rfl (by kernel_rfl) (by kernel_rfl) (by kernel_rfl) (fun _ _ _ h => h) (Or.inl ⟨by kernel_rfl, ?_⟩) hH ?_
            rotate_left
            · (intro W _; go_simp; try with_reducible rfl)
            refine wpAnyH_take (i := 13) (v := ?_) rfl (by kernel_rfl) (by kernel_rfl) (by kernel_rfl) (fun _ _ _ h => h) (Or.inl ⟨by kernel_rfl, ?_⟩) hH ?_
            rotate_left
            · (intro W _; go_simp; try with_reducible rfl)
            simp (config := { maxSteps := 2000000 }) only [Act.put, List.getElem_toArray, List.getElem_cons_zero, List.getElem_cons_succ, List.setIfInBounds_toArray, List.set_cons_zero, List.set_cons_succ]
            refine wpAnyH_ready (rs := [10]) (by kernel_rfl) (by simp) ?_
            refine AllReadyH.cons rfl (fun K hK => ?_) ?_
            · go_simp
              go_wp2_with (refine (HM1.out _ hH).mono ?_; rintro e w' ⟨rfl, rfl⟩)
              refine hK.out _ _ ?_ (fun hH => ?_)
              · exact hH
              clear hK K
              refine wpAnyH_ready (rs := [11]) (by kernel_rfl) (by simp) ?_
              refine AllReadyH.cons rfl (fun K hK => ?_) ?_
              · go_simp
                go_wp2_with (refine (HA1.out _ hH).mono ?_; rintro e w3 ⟨g3, rfl, i3, f3⟩; have R3 := Lib.hid i3; clear i3)
                refine hK.out _ _ ?_ (fun hH => ?_)
                · exact hH.tr f3
                clear hK K
                have F3 := Lib.hid hH
                refine wpAnyH_mono (S' := Fr (fun _ => False) w3) (fun w h => hH.tr h) _ _ _ _ ?_
                clear hH
                have hH := Fr.refl (fun _ => False) w3
                refine wpAnyH_take (i := 12) (v := ?_) rfl (by kernel_rfl) (by kernel_rfl) (by kernel_rfl) (fun _ _ _ h => h) (Or.inl ⟨by kernel_rfl, ?_⟩) hH ?_
                rotate_left
                · (intro W hS3; have r3 := Hq.out W _ _ NN NN (R3.out.fr hS3 (Nat.le_refl _) (fun _ _ e => e)); go_simp; try with_reducible rfl)
                simp (config := { maxSteps := 2000000 }) only [Act.put, List.getElem_toArray, List.getElem_cons_zero, List.getElem_cons_succ, List.setIfInBounds_toArray, List.set_cons_zero, List.set_cons_succ]
                refine wpAnyH_ready (rs := [14]) (by kernel_rfl) (by simp) ?_
                refine AllReadyH.cons rfl (fun K hK => ?_) ?_
                · go_simp
                  go_wp2_with (refine (HM2.out _ (F3.out.tr hH)).mono ?_; rintro e w' ⟨rfl, rfl⟩)
                  refine hK.out _ _ ?_ (fun hH => ?_)
                  · exact hH
                  clear hK K
                  refine wpAnyH_ready (rs := [15]) (by kernel_rfl) (by simp) ?_
                  refine AllReadyH.cons rfl (fun K hK => ?_) ?_
                  · go_simp
                    go_wp2_with (refine (HA2.out _ (F3.out.tr hH)).mono ?_; rintro e w4 ⟨g4, rfl, i4, f4⟩; have R4 := Lib.hid i4; clear i4)
                    refine hK.out _ _ ?_ (fun hH => ?_)
                    · exact hH.tr f4
                    clear hK K
                    have F4 := Lib.hid (F3.out.tr hH)
                    refine wpAnyH_mono (S' := Fr (fun _ => False) w4) (fun w h => hH.tr h) _ _ _ _ ?_
                    clear hH
                    have hH := Fr.refl (fun _ => False) w4
                    refine wpAnyH_take (i := 16) (v := ?_) rfl (by kernel_rfl) (by kernel_rfl) (by kernel_rfl) (fun _ _ _ h => h) (Or.inl ⟨by kernel_rfl, ?_⟩) hH ?_
                    rotate_left
                    · (intro W hS4; have r4 := Hq.out W _ _ NN NN (R4.out.fr hS4 (Nat.le_refl _) (fun _ _ e => e)); go_simp; try with_reducible rfl)
                    refine wpAnyH_take (i := 17) (v := ?_) rfl (by kernel_rfl) (by kernel_rfl) (by kernel_rfl) (fun _ _ _ h => h) (Or.inl ⟨by kernel_rfl, ?_⟩) hH ?_
                    rotate_left
                    · (intro W _; go_simp; try with_reducible rfl)
                    refine wpAnyH_take (i := 18) (v := ?_) rfl (by kernel_rfl) (by kernel_rfl) (by kernel_rfl) (fun _ _ _ h => h) (Or.inl ⟨by kernel_rfl, ?_⟩) hH ?_
                    rotate_left
                    · (intro W _; go_simp; try with_reducible rfl)
                    simp (config := { maxSteps := 2000000 }) only [Act.put, List.getElem_toArray, List.getElem_cons_zero, List.getElem_cons_succ, List.setIfInBounds_toArray, List.set_cons_zero, List.set_cons_succ]
                    refine wpAnyH_take (i := 19) (v := ?_) rfl (by kernel_rfl) (by kernel_rfl) (by kernel_rfl) (fun _ _ _ h => h) (Or.inl ⟨by kernel_rfl, ?_⟩) hH ?_
                    rotate_left
                    · (intro W _; go_simp; try with_reducible rfl)
                    simp (config := { maxSteps := 2000000 }) only [Act.put, List.getElem_toArray, List.getElem_cons_zero, List.getElem_cons_succ, List.setIfInBounds_toArray, List.set_cons_zero, List.set_cons_succ]
                    refine wpAnyH_ready (rs := [20]) (by kernel_rfl) (by simp) ?_
                    refine AllReadyH.cons rfl (fun K hK => ?_) ?_
                    · go_simp
                      go_wp2_with (refine (known10 _).mono ?_; rintro e w5 ⟨rfl, f5⟩; have F5 := Lib.hid (F4.out.tr (hH.tr f5)))
                      refine hK.out _ _ ?_ (fun hH => ?_)
                      · exact hH.tr f5
                      clear hK K
                      refine wpAnyH_take (i := 21) (v := ?_) rfl (by kernel_rfl) (by kernel_rfl) (by kernel_rfl) (fun _ _ _ h => h) (Or.inl ⟨by kernel_rfl, ?_⟩) hH ?_
                      rotate_left
                      · (intro W _; go_simp; try with_reducible rfl)
                      refine wpAnyH_take (i := 22) (v := ?_) rfl (by kernel_rfl) (by kernel_rfl) (by kernel_rfl) (fun _ _ _ h => h) (Or.inl ⟨by kernel_rfl, ?_⟩) hH ?_
                      rotate_left
                      · (intro W _; go_simp; try with_reducible rfl)
                      refine wpAnyH_done (by kernel_rfl) ?_ _
                      go_wp2_with fail
                      go_ret
                      exact ⟨by kernel_rfl, HF.out.tr F5.out⟩
                    exact AllReadyH.nil
                  exact AllReadyH.nil
                exact AllReadyH.nil
              exact AllReadyH.nil
            exact AllReadyH.nil
          exact AllReadyH.nil
        exact AllReadyH.nil
end Go.Proofs.Ythiephlfhbkcbaa.mmuBuffer
