/- What a walk of the tables writes, and what a walk finds then. Plain laws. -/
import Derived.Test.YthiephlfhbkcbaaWalkK
namespace Go.Proofs.Ythiephlfhbkcbaa.Wk
open Go.RowKit Fm Nt Rm By
set_option linter.unusedVariables false
set_option maxHeartbeats 4000000

def nowN (k : Int) (a : Nat) : Nat := if k = 3 then (a ||| 32) ||| 64 else a ||| 32
theorem nowN_lt (k : Int) (a : Nat) (h : a < 4294967296) : nowN k a < 4294967296 := by
  have h1 := Nat.or_lt_two_pow (show a < 2 ^ 32 by omega) (show 32 < 2 ^ 32 by omega)
  have h2 := Nat.or_lt_two_pow h1 (show 64 < 2 ^ 32 by omega)
  unfold nowN
  split <;> omega
theorem now_nat (k : Int) (a : Nat) (h : a < 4294967296) : now k (a : Int) = (nowN k a : Int) := by
  have h1 := Nat.or_lt_two_pow (show a < 2 ^ 32 by omega) (show 32 < 2 ^ 32 by omega)
  have e1 := u32_or_nat a 32 h (by omega)
  rw [show ((32 : Nat) : Int) = 32 from rfl] at e1
  have e2 := u32_or_nat (a ||| 32) 64 (by omega) (by omega)
  rw [show ((64 : Nat) : Int) = 64 from rfl] at e2
  unfold now nowN
  split
  · rw [e1, e2]
  · rw [e1]
theorem nowN_twice (k : Int) (a : Nat) : nowN k (nowN k a) = nowN k a := by
  unfold nowN
  split
  · apply Nat.eq_of_testBit_eq
    intro i
    simp only [Nat.testBit_or]
    cases a.testBit i <;> cases (32 : Nat).testBit i <;> cases (64 : Nat).testBit i <;> rfl
  · rw [Nat.or_assoc, Nat.or_self]
theorem nowN_and (k : Int) (a b : Nat) (h : a &&& b = b) : nowN k a &&& b = b := by
  apply Nat.eq_of_testBit_eq
  intro i
  have hi : (a &&& b).testBit i = b.testBit i := by rw [h]
  rw [Nat.testBit_and] at hi
  unfold nowN
  split
  · simp only [Nat.testBit_and, Nat.testBit_or]
    cases ha : a.testBit i <;> cases hb : b.testBit i <;> simp [ha, hb] at hi ⊢
  · simp only [Nat.testBit_and, Nat.testBit_or]
    cases ha : a.testBit i <;> cases hb : b.testBit i <;> simp [ha, hb] at hi ⊢
theorem nowN_32 (k : Int) (a : Nat) : nowN k a &&& 32 = 32 := by
  apply Nat.eq_of_testBit_eq
  intro i
  unfold nowN
  split <;> simp only [Nat.testBit_and, Nat.testBit_or] <;> cases a.testBit i <;> cases (32 : Nat).testBit i <;> simp
theorem nowN_64 (a : Nat) : nowN 3 a &&& 64 = 64 := by
  apply Nat.eq_of_testBit_eq
  intro i
  unfold nowN
  rw [if_pos rfl]
  simp only [Nat.testBit_and, Nat.testBit_or]
  cases a.testBit i <;> cases (32 : Nat).testBit i <;> cases (64 : Nat).testBit i <;> rfl
theorem or_div (a b : Nat) (hb : b < 256) : (a ||| b) / 256 = a / 256 := by
  apply Nat.eq_of_testBit_eq
  intro i
  rw [show (256 : Nat) = 2 ^ 8 from rfl, Nat.testBit_div_two_pow, Nat.testBit_div_two_pow, Nat.testBit_or]
  have : b.testBit (i + 8) = false := Nat.testBit_lt_two_pow (Nat.lt_of_lt_of_le hb (by
    have : 2 ^ 8 ≤ 2 ^ (i + 8) := Nat.pow_le_pow_right (by omega) (by omega)
    omega))
  simp [this]
theorem or_mod (a b : Nat) (hb : b % 2 = 0) : (a ||| b) % 2 = a % 2 := by
  have h : ∀ n : Nat, n % 2 = if n.testBit 0 then 1 else 0 := fun n => by
    rw [Nat.testBit_zero]
    rcases Nat.mod_two_eq_zero_or_one n with e | e <;> simp [e]
  rw [h, h a, Nat.testBit_or]
  have : b.testBit 0 = false := by rw [Nat.testBit_zero]; simp [hb]
  simp [this]
theorem nowN_div (k : Int) (a : Nat) : nowN k a / 256 = a / 256 := by
  unfold nowN
  split
  · rw [or_div _ _ (by omega), or_div _ _ (by omega)]
  · rw [or_div _ _ (by omega)]
theorem nowN_mod (k : Int) (a : Nat) : nowN k a % 2 = a % 2 := by
  unfold nowN
  split
  · rw [or_mod _ _ (by omega), or_mod _ _ (by omega)]
  · rw [or_mod _ _ (by omega)]
/-- the same of numbers as the program has them -/
structure NowLaws (k x : Int) : Prop where
  b0 : 0 ≤ now k x
  b1 : now k x ≤ 4294967295
  twice : now k (now k x) = now k x
  and : ∀ s, bits .and .u32 x (ask k s) = ask k s → bits .and .u32 (now k x) (ask k s) = ask k s
  a32 : bits .and .u32 (now k x) 32 = 32
  a64 : k = 3 → bits .and .u32 (now k x) 64 = 64
  div : now k x / 256 = x / 256
  mod : now k x % 2 = x % 2
theorem ask_nat (k : Int) (s : Bool) : ∃ b : Nat, ask k s = b ∧ b < 4294967296 := by
  unfold ask
  split
  · split
    · exact ⟨9, rfl, by omega⟩
    · split
      · exact ⟨3, rfl, by omega⟩
      · exact ⟨5, rfl, by omega⟩
  · split
    · exact ⟨25, rfl, by omega⟩
    · split
      · exact ⟨19, rfl, by omega⟩
      · exact ⟨21, rfl, by omega⟩
theorem nowLaws (k x : Int) (h0 : 0 ≤ x) (h1 : x ≤ 4294967295) : NowLaws k x := by
  obtain ⟨a, rfl⟩ : ∃ a : Nat, x = a := ⟨x.toNat, by omega⟩
  have ha : a < 4294967296 := by omega
  have hl := nowN_lt k a ha
  have e := now_nat k a ha
  refine ⟨by rw [e]; omega, by rw [e]; omega, ?_, fun s hs => ?_, ?_, fun hk => ?_, ?_, ?_⟩
  · rw [e, now_nat k _ hl, nowN_twice]
  · obtain ⟨b, hb, hbl⟩ := ask_nat k s
    rw [hb] at hs ⊢
    rw [andN a b ha hbl] at hs
    rw [e, andN _ b hl hbl, nowN_and k a b (by omega)]
  · have := andN (nowN k a) 32 hl (by omega)
    rw [nowN_32] at this
    rw [e]
    exact this
  · subst hk
    have := andN (nowN 3 a) 64 hl (by omega)
    rw [nowN_64] at this
    rw [e]
    exact this
  · rw [e]
    have := nowN_div k a
    omega
  · rw [e]
    have := nowN_mod k a
    omega
/-- a user may nothing that the system may not -/
theorem user_system (k x : Int) (h0 : 0 ≤ x) (h1 : x ≤ 4294967295) (h : bits .and .u32 x (ask k false) = ask k false) : bits .and .u32 x (ask k true) = ask k true := by
  obtain ⟨a, rfl⟩ : ∃ a : Nat, x = a := ⟨x.toNat, by omega⟩
  have key : ∀ u s : Nat, u < 4294967296 → s < 4294967296 → u &&& s = s → bits .and .u32 (a : Int) (u : Int) = (u : Int) → bits .and .u32 (a : Int) (s : Int) = (s : Int) := fun u s hu hs hus hx => by
    rw [andN a u (by omega) hu] at hx
    rw [andN a s (by omega) hs]
    have hx : a &&& u = u := by omega
    have : a &&& s = s := by
      rw [← hus, ← Nat.and_assoc, hx]
    rw [this]
  unfold ask at h ⊢
  simp only [Bool.false_eq_true, if_false, if_true] at h ⊢
  by_cases e1 : k = 1
  · rw [if_pos e1] at h ⊢
    exact key 25 9 (by omega) (by omega) (by decide) h
  · rw [if_neg e1] at h ⊢
    by_cases e2 : k = 2
    · rw [if_pos e2] at h ⊢
      exact key 19 3 (by omega) (by omega) (by decide) h
    · rw [if_neg e2] at h ⊢
      exact key 21 5 (by omega) (by omega) (by decide) h
/-- a word is written: other words of the same grid stay -/
theorem putW_wrd (m : Ms) (P Q v : Int) (hP : inB m P 4 = true) (p0 : 0 ≤ P) (q0 : 0 ≤ Q) (hp : P % 4 = 0) (hq : Q % 4 = 0) (v0 : 0 ≤ v) (v1 : v ≤ 4294967295) :
    wrdV (m.putW P v) Q = if Q = P then v else wrdV m Q := by
  obtain ⟨p, rfl⟩ : ∃ p : Nat, P = p := ⟨P.toNat, by omega⟩
  obtain ⟨q, rfl⟩ : ∃ q : Nat, Q = q := ⟨Q.toNat, by omega⟩
  have e : m.putW (p : Int) v = m.puts p (wby v) 4 := by rw [Ms.putW, hP, if_pos rfl]; rfl
  have hb : inB (m.puts p (wby v) 4) (q : Int) 4 = inB m (q : Int) 4 := by unfold inB; rw [puts_n]
  rw [e]
  unfold wrdV
  rw [hb, show ((q : Int)).toNat = q from rfl]
  by_cases h : (q : Int) = (p : Int)
  · have : q = p := by omega
    subst this
    rw [if_pos rfl, hP, if_pos rfl, wrd_wby m q v v0 v1]
  · rw [if_neg h]
    cases inB m (q : Int) 4
    · rfl
    · simp only [if_true]
      rw [wrd_bytes, wrd_bytes, puts_mem, puts_mem, puts_mem, puts_mem, if_neg (by omega), if_neg (by omega), if_neg (by omega), if_neg (by omega)]
/-- what a walk that is let through leaves -/
structure DoneLaws (m : Ms) (R V k : Int) : Prop where
  n : (doMs m R V k).n = m.n
  ok : lkOk (doMs m R V k) R V = true
  at_ : lkAt (doMs m R V k) R V = lkAt m R V
  leaf : lkLeaf (doMs m R V k) R V = now k (lkLeaf m R V)
theorem doneLaws {w : World} {a : Am} {m : Ms} (h : Mem w a m) (R V k : Int) (r0 : 0 ≤ R) (v0 : 0 ≤ V) (hok : lkOk m R V = true) : DoneLaws m R V k := by
  have hlb := lkLeaf_bd h R V r0 v0
  have NL := nowLaws k _ hlb.1 hlb.2
  have hab := lkAt_bd h R V r0 v0
  have e1 : lkAt m R V = lkB m R V := by rw [lkAt, hok, if_pos rfl]
  have e2 : lkLeaf m R V = wrdV m (lkB m R V) := by rw [lkLeaf, hok, if_pos rfl]
  have hp := hok
  simp only [lkOk, Bool.and_eq_true, decide_eq_true_eq] at hp
  obtain ⟨p1, p2, p3, p4⟩ := hp
  have hA0 : 0 ≤ lkA R V := by unfold lkA; omega
  have hA4 : lkA R V % 4 = 0 := by unfold lkA; omega
  have hB4 : lkB m R V % 4 = 0 := by unfold lkB; omega
  rw [e1] at hab
  by_cases hs : now k (lkLeaf m R V) = lkLeaf m R V
  · have e : doMs m R V k = m := by rw [doMs, if_pos hs]
    rw [e2] at hs
    exact ⟨by rw [e], by rw [e]; exact hok, by rw [e], by rw [e, e2, hs]⟩
  · have e : doMs m R V k = m.putW (lkB m R V) (now k (lkLeaf m R V)) := by rw [doMs, if_neg hs, e1]
    have hn : (doMs m R V k).n = m.n := by
      rw [e, Ms.putW, p4, if_pos rfl]
      exact puts_n _ _ _ _
    have hin : ∀ x, inB (doMs m R V k) x 4 = inB m x 4 := fun x => by unfold inB; rw [hn]
    have wA := putW_wrd m (lkB m R V) (lkA R V) (now k (lkLeaf m R V)) p4 hab.1 hA0 hB4 hA4 NL.b0 NL.b1
    have wB := putW_wrd m (lkB m R V) (lkB m R V) (now k (lkLeaf m R V)) p4 hab.1 hab.1 hB4 hB4 NL.b0 NL.b1
    rw [if_pos rfl] at wB
    rw [← e] at wA wB
    have hA : wrdV (doMs m R V k) (lkA R V) / 256 = wrdV m (lkA R V) / 256 ∧ wrdV (doMs m R V k) (lkA R V) % 2 = wrdV m (lkA R V) % 2 := by
      rw [wA]
      split
      · rename_i hq
        rw [NL.div, NL.mod, e2, hq]
        exact ⟨rfl, rfl⟩
      · exact ⟨rfl, rfl⟩
    have hB : lkB (doMs m R V k) R V = lkB m R V := by
      show wrdV (doMs m R V k) (lkA R V) / 256 * 64 + _ = wrdV m (lkA R V) / 256 * 64 + _
      rw [hA.1]
    have hO : lkOk (doMs m R V k) R V = true := by
      rw [lkOk, hB, hin, hin, p2, p4, hA.2, p3]
      simp [p1]
    exact ⟨hn, hO, by rw [lkAt, hO, if_pos rfl, hB, e1], by rw [lkLeaf, hO, if_pos rfl, hB, wB]⟩
/-- walked again, nothing is written -/
theorem again {w : World} {a : Am} {m : Ms} (h : Mem w a m) (R V k : Int) (r0 : 0 ≤ R) (v0 : 0 ≤ V) (hok : lkOk m R V = true) : doMs (doMs m R V k) R V k = doMs m R V k := by
  have hlb := lkLeaf_bd h R V r0 v0
  have D := doneLaws h R V k r0 v0 hok
  rw [doMs, D.leaf, (nowLaws k _ hlb.1 hlb.2).twice, if_pos rfl]
end Go.Proofs.Ythiephlfhbkcbaa.Wk
