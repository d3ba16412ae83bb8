/- MmuOk, MmuOpen, MmuTab, MmuTell, MmuSpl, MmuSplits, in one text. -/
import Derived.Test.YthiephlfhbkcbaaMmuS
import Derived.Test.YthiephlfhbkcbaaMmuK
import Derived.Test.YthiephlfhbkcbaaOpen
import Derived.Test.YthiephlfhbkcbaaWalkT
import Derived.Test.YthiephlfhbkcbaaWalkB
import Derived.Deep.RegionHeld
import Derived.Deep.Slices
import Derived.Deep.Cut
namespace Go.Proofs.Ythiephlfhbkcbaa.Mu
open Go.RowKit Fm Nt Rm By Wk
set_option linter.unusedVariables false
set_option linter.unusedSimpArgs false

theorem Un.ok {w : World} {A : Au} {u : Us} (h : Un w A u) : u.Ok := ⟨h.M.n0, h.M.bd⟩
section
variable {u : Us} {s : Sp} {va k n v : Int}
theorem Us.Ok.wb (h : u.Ok) (Q : Int) (h0 : 0 ≤ Q) : 0 ≤ wrdV u.m Q ∧ wrdV u.m Q ≤ 4294967295 := by
  unfold wrdV
  split
  · rename_i hb
    have hat : Q + 4 ≤ (u.m.n : Int) * 64 := by simpa [inB] using hb
    obtain ⟨i, rfl⟩ : ∃ i : Nat, Q = i := ⟨Q.toNat, by omega⟩
    rw [show (i : Int).toNat = i from rfl]
    have b0 := h.bd (i + 0) (by omega)
    have b1 := h.bd (i + 1) (by omega)
    have b2 := h.bd (i + 2) (by omega)
    have b3 := h.bd (i + 3) (by omega)
    show 0 ≤ (((0 * 256 + u.m.mem (i + 3)) * 256 + u.m.mem (i + 2)) * 256 + u.m.mem (i + 1)) * 256 + u.m.mem (i + 0) ∧ (((0 * 256 + u.m.mem (i + 3)) * 256 + u.m.mem (i + 2)) * 256 + u.m.mem (i + 1)) * 256 + u.m.mem (i + 0) ≤ 4294967295
    omega
  · omega
theorem Us.Ok.leaf (h : u.Ok) (rt va : Int) (r0 : 0 ≤ rt) (v0 : 0 ≤ va) : 0 ≤ lkLeaf u.m rt va ∧ lkLeaf u.m rt va ≤ 4294967295 := by
  unfold lkLeaf
  split
  · have h1 := h.wb (lkA rt va) (by unfold lkA; omega)
    exact h.wb _ (by unfold lkB; omega)
  · omega
theorem Us.Ok.at_ (h : u.Ok) (rt va : Int) (r0 : 0 ≤ rt) (v0 : 0 ≤ va) : 0 ≤ lkAt u.m rt va ∧ lkAt u.m rt va ≤ 4096 := by
  have hn := h.n0
  unfold lkAt
  split
  · rename_i hq
    have h1 := h.wb (lkA rt va) (by unfold lkA; omega)
    simp only [lkOk, Bool.and_eq_true, inB, decide_eq_true_eq] at hq
    have := hq.2.2.2
    refine ⟨by unfold lkB; omega, by omega⟩
  · omega
theorem lk_in {m : Ms} {rt va : Int} (hlo : lkOk m rt va = true) : inB m (lkAt m rt va) 4 = true := by
  have hq := hlo
  simp only [lkOk, Bool.and_eq_true] at hq
  rw [lkAt, hlo, if_pos rfl]
  exact hq.2.2.2
theorem do_lk {m : Ms} {rt va k : Int} {s : Bool} (h : doOk m rt va k s = true) : lkOk m rt va = true := by cases hq : lkOk m rt va <;> simp [doOk, hq] at h ⊢
theorem putW_bd {m : Ms} (hb : ∀ i, i < m.n * 64 → 0 ≤ m.mem i ∧ m.mem i < 256) (P x : Int) (x0 : 0 ≤ x) (x1 : x ≤ 4294967295) : ∀ i, i < (m.putW P x).n * 64 → 0 ≤ (m.putW P x).mem i ∧ (m.putW P x).mem i < 256 := by
  intro i hi
  unfold Ms.putW at hi ⊢
  split
  · rename_i h
    rw [if_pos h, puts_n] at hi
    rw [puts_mem]
    split
    · rename_i hq
      have e : i - P.toNat = 0 ∨ i - P.toNat = 1 ∨ i - P.toNat = 2 ∨ i - P.toNat = 3 := by omega
      rcases e with e | e | e | e <;> rw [e] <;> simp [wby] <;> omega
    · exact hb i hi
  · rename_i h
    rw [if_neg h] at hi
    exact hb i hi
theorem Us.Ok.walked (h : u.Ok) (rt va k : Int) (r0 : 0 ≤ rt) (v0 : 0 ≤ va) : (u.walked rt va k).Ok := by
  have hl := h.leaf rt va r0 v0
  have hn := now_bd k _ hl.1 hl.2
  refine ⟨?_, ?_⟩
  · show 1 ≤ (doMs u.m rt va k).n ∧ (doMs u.m rt va k).n ≤ 64
    rw [doMs_n]
    exact h.n0
  · show ∀ i, i < (doMs u.m rt va k).n * 64 → 0 ≤ (doMs u.m rt va k).mem i ∧ (doMs u.m rt va k).mem i < 256
    unfold doMs
    split
    · exact h.bd
    · exact putW_bd h.bd _ _ hn.1 hn.2
theorem Us.Ok.turned (h : u.Ok) (r0 : 0 ≤ s.rt) (v0 : 0 ≤ va) : (turnedR u s va k).u.Ok := by
  unfold turnedR
  split
  · exact h
  · split
    · exact h
    · split
      · exact h.walked _ _ _ r0 v0
      · exact h
theorem Us.Ok.place (h : u.Ok) (r0 : 0 ≤ s.rt) (v0 : 0 ≤ va) : (placeR u s va k).u.Ok := by
  unfold placeR
  split
  · exact h
  · split
    · exact h.turned r0 v0
    · split
      · exact h.turned r0 v0
      · exact h.turned r0 v0
theorem nextP_bd (h : 0 ≤ va) : 0 ≤ nextP va ∧ nextP va ≤ 4294967295 := by unfold nextP; omega
theorem Us.Ok.sec (h : u.Ok) (r0 : 0 ≤ s.rt) (v0 : 0 ≤ va) : (secR u s va n k).u.Ok := by
  unfold secR
  split
  · exact (h.place r0 v0).place r0 (nextP_bd v0).1
  · exact h.place r0 v0
theorem Us.Ok.span (h : u.Ok) (r0 : 0 ≤ s.rt) (v0 : 0 ≤ va) : (spanR u s va n k).u.Ok := by
  unfold spanR
  split
  · exact h
  · split
    · exact h.place r0 v0
    · split
      · exact h.sec r0 v0
      · split
        · exact h.sec r0 v0
        · split
          · exact h.sec r0 v0
          · exact h.sec r0 v0
theorem turned_bd' (h : u.Ok) (r0 : 0 ≤ s.rt) (v0 : 0 ≤ va) (v1 : va ≤ 4294967295) : 0 ≤ (turnedR u s va k).p ∧ (turnedR u s va k).p ≤ 4294967295 := by
  unfold turnedR
  split
  · exact ⟨v0, v1⟩
  · split
    · exact found_bd _ _ _ _ v0
    · split
      · have h1 := h.leaf s.rt va r0 v0
        have h2 := now_bd k _ h1.1 h1.2
        dsimp only
        omega
      · exact ⟨Int.le_refl _, by show (0 : Int) ≤ 4294967295; omega⟩
theorem place_in' (h : u.Ok) (r0 : 0 ≤ s.rt) (v0 : 0 ≤ va) (v1 : va ≤ 4294967295) (hc : (placeR u s va k).c = 0) : (placeR u s va k).a = 0 ∧ 0 ≤ (placeR u s va k).p ∧ (placeR u s va k).p ≤ 4294967295 ∧ (devB (placeR u s va k).p = false → (placeR u s va k).p < ((placeR u s va k).u.m.n : Int) * 64) := by
  have hb := turned_bd' (k := k) h r0 v0 v1
  unfold placeR at hc ⊢
  split
  · rename_i hq
    rw [if_pos hq] at hc
    exact absurd hc (by show ¬ (10 : Int) = 0; omega)
  · rename_i hq
    rw [if_neg hq] at hc
    split
    · rename_i hq2
      rw [if_pos hq2] at hc
      exact absurd hc hq2
    · rename_i hq2
      rw [if_neg hq2] at hc
      split
      · rename_i hq3
        refine ⟨rfl, hb.1, hb.2, fun hd => ?_⟩
        have hd : devB (turnedR u s va k).p = false := hd
        unfold thereB at hq3
        simpa [hd] using hq3
      · rename_i hq3
        rw [if_neg hq3] at hc
        exact absurd hc (by show ¬ (10 : Int) = 0; omega)
theorem turned_n : (turnedR u s va k).u.m.n = u.m.n := by
  unfold turnedR
  split
  · rfl
  · split
    · rfl
    · split
      · exact doMs_n _ _ _ _
      · rfl
theorem place_n : (placeR u s va k).u.m.n = u.m.n := by
  unfold placeR
  split
  · rfl
  · split
    · exact turned_n
    · split
      · exact turned_n
      · exact turned_n
theorem sec_n : (secR u s va n k).u.m.n = u.m.n := by
  unfold secR
  split
  · exact place_n.trans place_n
  · exact place_n
theorem span_n : (spanR u s va n k).u.m.n = u.m.n := by
  unfold spanR
  split
  · rfl
  · split
    · exact place_n
    · split
      · exact sec_n
      · split
        · exact sec_n
        · split
          · exact sec_n
          · exact sec_n
end
end Go.Proofs.Ythiephlfhbkcbaa.Mu
namespace Go.Proofs.Ythiephlfhbkcbaa.Mu
open Go.RowKit Go.ChangeShapes Go.WideShapes Go.Deep
set_option linter.unusedVariables false

structure Ask10 where
  kind : Int
  how : Int
  n : Int
  va : Int
  v : Int
  pg : Bool
  su : Bool
def AskAt (w : World) (b o : Nat) (x : Ask10) : Prop :=
  (w.cell? ⟨b, o, none⟩ = some (.int .i64 x.kind) ∧ w.cell? ⟨b, o + 1, none⟩ = some (.int .i64 x.how) ∧ w.cell? ⟨b, o + 2, none⟩ = some (.int .i64 x.n) ∧ w.cell? ⟨b, o + 3, none⟩ = some (.int .u32 x.va) ∧ w.cell? ⟨b, o + 4, none⟩ = some (.int .u32 x.v) ∧ w.cell? ⟨b, o + 5, none⟩ = some (.bool x.pg) ∧ w.cell? ⟨b, o + 6, none⟩ = some (.bool x.su)) ∧
  (Lit.int .i64 x.kind).wf = true ∧ (Lit.int .i64 x.how).wf = true ∧ (Lit.int .i64 x.n).wf = true ∧ (Lit.int .u32 x.va).wf = true ∧ (Lit.int .u32 x.v).wf = true
def AsksAt (w : World) (B : Nat) (A : Option Addr) (n : Nat) : Prop :=
  0 < n → ∃ b off, A = some ⟨b, off, none⟩ ∧ b < B ∧ ∀ i, i < n → ∃ x, AskAt w b (off + i * 7) x
theorem AskAt.fr {w w' : World} {b o : Nat} {x : Ask10} {S : Nat → Prop} (h : AskAt w b o x) (f : Fr S w w') (hb : b < w.heap.size) (hs : ¬ S b) : AskAt w' b o x := by
  obtain ⟨⟨h0, h1, h2, h3, h4, h5, h6⟩, h7⟩ := h
  exact ⟨⟨f.cell h0 hb hs, f.cell h1 hb hs, f.cell h2 hb hs, f.cell h3 hb hs, f.cell h4 hb hs, f.cell h5 hb hs, f.cell h6 hb hs⟩, h7⟩
theorem AsksAt.at_ {w : World} {B n i : Nat} {A : Option Addr} (h : AsksAt w B A n) (hi : i < n) : ∃ b off, A = some ⟨b, off, none⟩ ∧ b < B ∧ ∃ x, AskAt w b (off + i * 7) x := by
  obtain ⟨b, off, e, hb, hc⟩ := h (by omega)
  exact ⟨b, off, e, hb, hc i hi⟩
theorem openAsks {H : Type} {enc : TypeId × Value → H} {w : World} {a : Option Addr} {len cap : Nat} {d : DataW H} {p : List MemPlace}
    (h : DataW.Trod enc Try.prog w 0 (fun _ => true) true 71 (.slice a len cap) d p) : AsksAt w w.heap.size a len ∧ len ≤ maxLen := by
  obtain ⟨fuel, hf⟩ := h
  rcases open_slice_fields Try.underlying71 Try.underlying73 (by kernel_rfl) (by kernel_rfl) hf with ⟨hcs, _⟩ | ⟨x, l, c, m, D, Pl, hcs, _, hl, hm, hmm, hx, hi⟩
  · simp [Value.cells] at hcs
    obtain ⟨rfl, rfl, rfl⟩ := hcs
    exact ⟨fun h => absurd h (by omega), by simp [maxLen]⟩
  · simp [Value.cells] at hcs
    obtain ⟨rfl, rfl, rfl⟩ := hcs
    refine ⟨fun hn => ?_, Nat.le_trans hl hm⟩
    have hlm : len ≤ m := by simp at hmm; omega
    have key : ∀ i, i < len → ∃ y : Ask10, (w.cell? (x.add (i * 7)) = some (.int .i64 y.kind) ∧ w.cell? (x.add (i * 7 + 1)) = some (.int .i64 y.how) ∧ w.cell? (x.add (i * 7 + 2)) = some (.int .i64 y.n) ∧ w.cell? (x.add (i * 7 + 3)) = some (.int .u32 y.va) ∧ w.cell? (x.add (i * 7 + 4)) = some (.int .u32 y.v) ∧ w.cell? (x.add (i * 7 + 5)) = some (.bool y.pg) ∧ w.cell? (x.add (i * 7 + 6)) = some (.bool y.su)) ∧
        (Lit.int .i64 y.kind).wf = true ∧ (Lit.int .i64 y.how).wf = true ∧ (Lit.int .i64 y.n).wf = true ∧ (Lit.int .u32 y.va).wf = true ∧ (Lit.int .u32 y.v).wf = true := by
      intro i hil
      obtain ⟨ys, n, _, _, _, hf⟩ := hi i (by omega)
      obtain ⟨v0, y0, hc0, _, ht0⟩ := hf 0 _ rfl
      obtain ⟨v1, y1, hc1, _, ht1⟩ := hf 1 _ rfl
      obtain ⟨v2, y2, hc2, _, ht2⟩ := hf 2 _ rfl
      obtain ⟨v3, y3, hc3, _, ht3⟩ := hf 3 _ rfl
      obtain ⟨v4, y4, hc4, _, ht4⟩ := hf 4 _ rfl
      obtain ⟨v5, y5, hc5, _, ht5⟩ := hf 5 _ rfl
      obtain ⟨v6, y6, hc6, _, ht6⟩ := hf 6 _ rfl
      obtain ⟨k0, rfl, w0⟩ := cell_int Try.underlying3 ht0
      obtain ⟨k1, rfl, w1⟩ := cell_int Try.underlying3 ht1
      obtain ⟨k2, rfl, w2⟩ := cell_int Try.underlying3 ht2
      obtain ⟨k3, rfl, w3⟩ := cell_int Try.underlying22 ht3
      obtain ⟨k4, rfl, w4⟩ := cell_int Try.underlying22 ht4
      obtain ⟨k5, rfl⟩ := cell_bool Try.underlying4 ht5
      obtain ⟨k6, rfl⟩ := cell_bool Try.underlying4 ht6
      exact ⟨⟨k0, k1, k2, k3, k4, k5, k6⟩, ⟨hc0, hc1, hc2, hc3, hc4, hc5, hc6⟩, w0, w1, w2, w3, w4⟩
    obtain ⟨b, off, spot⟩ := x
    obtain ⟨_, ⟨hc0, _⟩, _⟩ := key 0 hn
    have hspot : spot = none := by simpa [Addr.add] using World.cell?_spot hc0
    subst hspot
    have hadd : ∀ j, (⟨b, off, none⟩ : Addr).add j = ⟨b, off + j, none⟩ := by
      intro j
      unfold Addr.add
      split
      · rename_i h0; subst h0; rfl
      · rfl
    refine ⟨b, off, rfl, ?_, fun i hil => ?_⟩
    · rcases Nat.lt_or_ge b w.heap.size with h | h
      · exact h
      · exfalso
        have : w.heap[b]? = none := Array.getElem?_eq_none h
        rw [hadd] at hc0
        simp [World.cell?, this] at hc0
    · obtain ⟨y, q, r⟩ := key i hil
      simp only [hadd, ← Nat.add_assoc] at q
      exact ⟨y, q, r⟩
end Go.Proofs.Ythiephlfhbkcbaa.Mu
namespace Go.Proofs.Ythiephlfhbkcbaa.Mu
open Go.RowKit Fm Nt Rm By Wk
open Go.ChangeShapes Go.WideShapes Go.Deep
set_option linter.unusedVariables false
set_option linter.unusedSimpArgs false
set_option maxHeartbeats 4000000

/-- the page and the entry -/
def pgv (x : Pt) : Int := if x.page % 11 = 10 then 512 else x.page % 11
def pv (x : Pt) : Int := pgv x * 256 + (x.bits % 128) / 2 * 2 + 1
def prt4 (z : Nat → Int) (x : Pt) (r : Nat) : Nat → Int := fun i => if x.at_ ≤ i ∧ i < x.at_ + r then (if i - x.at_ = 0 then pv x % 256 else if i - x.at_ = 1 then pv x / 256 % 256 else if i - x.at_ = 2 then pv x / 65536 % 256 else pv x / 16777216 % 256) else z i
/-- what stands behind the tables -/
def rstZ (ys : List Int) : Nat → Int := fun i => if 192 ≤ i ∧ i - 192 < ys.length then ys.getD (i - 192) 0 else 0
def tab10 (L : Nat → Pt) (ys : List Int) : Nat → Nat → Int
  | 0 => rstZ ys
  | k + 1 => prt4 (tab10 L ys k) (L k) 4
theorem pgv_bd (x : Pt) : 0 ≤ pgv x ∧ pgv x ≤ 512 := by unfold pgv; split <;> omega
theorem pv_bd (x : Pt) : 0 ≤ pv x ∧ pv x ≤ 4294967295 := by
  have := pgv_bd x
  unfold pv
  omega
theorem getD_bd (ys : List Int) (hy : ∀ z ∈ ys, 0 ≤ z ∧ z < 256) (j : Nat) (h : j < ys.length) : 0 ≤ ys.getD j 0 ∧ ys.getD j 0 < 256 := by
  rw [List.getD_eq_getElem?_getD, List.getElem?_eq_getElem h]
  exact hy _ (List.getElem_mem h)
theorem tab10_bd (L : Nat → Pt) (ys : List Int) (hy : ∀ z ∈ ys, 0 ≤ z ∧ z < 256) : ∀ k i, 0 ≤ tab10 L ys k i ∧ tab10 L ys k i < 256 := by
  intro k
  induction k with
  | zero =>
    intro i
    show 0 ≤ rstZ ys i ∧ rstZ ys i < 256
    unfold rstZ
    split
    · rename_i h
      exact getD_bd ys hy _ h.2
    · exact ⟨Int.le_refl _, by decide⟩
  | succ k ih =>
    intro i
    show 0 ≤ prt4 (tab10 L ys k) (L k) 4 i ∧ prt4 (tab10 L ys k) (L k) 4 i < 256
    unfold prt4
    split
    · split
      · omega
      · split
        · omega
        · split <;> omega
    · exact ih i
theorem prt4_succ (z : Nat → Int) (x : Pt) (r : Nat) (b : Int) (hb : b = if r = 0 then pv x % 256 else if r = 1 then pv x / 256 % 256 else if r = 2 then pv x / 65536 % 256 else pv x / 16777216 % 256) : updI (prt4 z x r) (x.at_ + r) b = prt4 z x (r + 1) := by
  funext i
  unfold updI prt4
  by_cases e : i = x.at_ + r
  · have h1 : x.at_ ≤ i ∧ i < x.at_ + (r + 1) := by omega
    have h2 : i - x.at_ = r := by omega
    rw [if_pos e, if_pos h1, hb, h2]
  · rw [if_neg e]
    by_cases h : x.at_ ≤ i ∧ i < x.at_ + r
    · have h1 : x.at_ ≤ i ∧ i < x.at_ + (r + 1) := by omega
      rw [if_pos h, if_pos h1]
    · have h1 : ¬ (x.at_ ≤ i ∧ i < x.at_ + (r + 1)) := by omega
      rw [if_neg h, if_neg h1]
theorem run_behind (g : Nat) (W : World) : (Instr.slice 24 (.slice (some ⟨g, 0, none⟩) 512 512) (some (.int .i64 192)) none none).run Try.prog W = .ok (.slice (some ⟨g, 192, none⟩) 320 320) W := by
  obtain ⟨i0, hi0, hz0, hz1, hz2⟩ := info_parts infoU8
  have he : Try.prog.elem 24 = 5 := by kernel_rfl
  rw [run_slice_l W 24 (some ⟨g, 0, none⟩) 512 512 (by rw [he]; exact Try.underlying24) .i64 192 (by omega) (by omega)]
  simp [sizeOf, typeInfo, he, hi0, hz1, Result.andThen, sliced, Addr.add]
def Tabs10 (w : World) (len : Nat) (L : Nat → Pt) (ys : List Int) (e : Ending) (w' : World) : Prop := e = .returned (.slice (some ⟨w.heap.size, 0, none⟩) 512 512) ∧ Cells w' w.heap.size 5 512 (fun i => .int .u8 (tab10 L ys (min len 40) i)) ∧ Fr (fun _ => False) w w'
set_option maxRecDepth 100000 in
theorem tables10 (w : World) (A : Option Addr) (len cap : Nat) (L : Nat → Pt) (hL : PtsAt w w.heap.size A len L) (hm : len ≤ maxLen) (A2 : Option Addr) (len2 cap2 : Nat) (ys : List Int) (hy : IntsAt .u8 w w.heap.size A2 (min len2 320) ys) :
    Calls Try.prog 24 #[.slice A len cap, .slice A2 len2 cap2] w (Tabs10 w len L ys) := by
  unfold maxLen at hm
  have HL := Lib.hid hL
  have hmk : ∀ W, (Instr.makeSlice 24 (.int .i64 512) (.int .i64 512)).run Try.prog W = .ok (.slice (some ⟨W.heap.size, 0, none⟩) 512 512) (W.alloc (.cells (zU 512) 5)) := fun W => run_makeU .i64 512 (by omega) W
  have hsl := run_behind w.heap.size
  have hc0 := Lib.hid (cellsU w 512 rfl)
  have f0 := (Fr.refl (fun _ => False) w).alloc (.cells (zU 512) 5)
  have hsz := szU
  have HY := Lib.hid (hy.fr f0 (Nat.le_refl _) (fun _ _ e => e))
  have hly := hy.1
  have F0 := Lib.hid f0
  clear hL hy f0
  go_enter Try.func24, Try.ntmps24
  go_wp2_with
    (refine wpList_copy_cells rfl (.tmp 13) (.tmp 14) 24 24 rfl 5 Try.underlying24 hsz w.heap.size 192 320 320 A2 len2 cap2 rfl rfl 5 512 _ hc0.out .u8 w.heap.size (min len2 320) ys (by omega) HY.out (by omega) ?_
     intro w2 hc2 f2)
  have hc3 : Cells w2 w.heap.size 5 512 (fun i => .int .u8 (tab10 L ys 0 i)) := Cells.congr hc2 (fun i hi => by
    show putR _ 192 _ i = .int .u8 (rstZ ys i)
    unfold putR rstZ
    rw [List.length_map]
    by_cases h : 192 ≤ i ∧ i < 192 + ys.length
    · rw [if_pos h, if_pos (by omega)]
      have : i - 192 < ys.length := by omega
      simp [List.getD_eq_getElem?_getD, this]
    · rw [if_neg h, if_neg (by omega)])
  have hc0' := Lib.hid hc3
  have f2' := Lib.hid (F0.out.trans (S := fun _ => False) f2 (fun i hi e => by omega))
  clear hc2 hc3 f2 hmk hsl
  go_wp2_with fail
  go_loopw [6] (fun i wr => ∃ k : Nat, k ≤ len ∧ k ≤ 40 ∧ i = .int .i64 k ∧ Cells wr w.heap.size 5 512 (fun i => .int .u8 (tab10 L ys k i)) ∧ Fr (fun _ => False) w wr) (fun i _ => len - (intOf i).toNat)
  case atStart => exact ⟨0, by omega, by omega, rfl, hc0'.out, f2'.out⟩
  case round =>
    clear hc0' f2'
    obtain ⟨k, hk, hk2, rfl, hC, fr⟩ := hrel
    obtain ⟨wo, rfl⟩ : ∃ wo : World, wo = wr := ⟨_, rfl⟩
    by_cases hlt : k < len ∧ k < 40
    · obtain ⟨h1, h2⟩ := hlt
      have hd1 : decide ((k : Int) < 40) = true := by simp; omega
      have hd2 : decide (k < len) = true := by simp; omega
      obtain ⟨b, off, rfl, hb, hx⟩ := HL.out k h1
      have hbw : b < wo.heap.size := Nat.lt_of_lt_of_le hb fr.size
      have hbg : b ≠ w.heap.size := by omega
      obtain ⟨⟨c0, c1, c2⟩, p0, p1, p2⟩ := hx.fr fr hb (fun e => e)
      obtain ⟨Lk, hLk⟩ : ∃ q, q = L k := ⟨_, rfl⟩
      rw [← hLk] at c0 c1 c2 p0 p1 p2
      have HLk := Lib.hid hLk
      have a0 := wf_i64 p0
      have a1 := wf_i64 p1
      obtain ⟨a2, a3⟩ := wf_u32 p2
      have Hw0 : Hid (∀ W, Calls Try.prog 25 #[.int .i64 Lk.place, .int .i64 0, .int .i64 1000] W fun e w' => e = .returned (.int .i64 (Lk.place % 1001)) ∧ W = w') := Lib.hid (fun W => by
        have := Bk.within_any W Lk.place 0 1000 a0.1 a0.2 (by omega) (by omega) (by omega)
        rw [show (0 : Int) + Lk.place % (1000 - 0 + 1) = Lk.place % 1001 by omega] at this
        exact this)
      have Hw1 : Hid (∀ W, Calls Try.prog 25 #[.int .i64 Lk.page, .int .i64 0, .int .i64 1000] W fun e w' => e = .returned (.int .i64 (Lk.page % 1001)) ∧ W = w') := Lib.hid (fun W => by
        have := Bk.within_any W Lk.page 0 1000 a1.1 a1.2 (by omega) (by omega) (by omega)
        rw [show (0 : Int) + Lk.page % (1000 - 0 + 1) = Lk.page % 1001 by omega] at this
        exact this)
      have xa : Lk.place % 1001 % 48 * 4 = (Lk.at_ : Int) := by unfold Pt.at_; omega
      have hat : Lk.at_ + 4 ≤ 192 := by unfold Pt.at_; omega
      have m2 : Lk.bits.tmod 128 = Lk.bits % 128 := Int.tmod_eq_emod_of_nonneg a2
      have hpb := pgv_bd Lk
      have hvb := pv_bd Lk
      have o8 : bits .or .u32 (pgv Lk * 256) (Lk.bits % 128) = pgv Lk * 256 + Lk.bits % 128 := or8 _ _ (by omega) (by omega) (by omega) (by omega) (by omega)
      have o1 : bits .or .u32 (pgv Lk * 256 + Lk.bits % 128) 1 = pv Lk := by rw [or1 _ (by omega) (by omega)]; unfold pv; omega
      have HC2 := Lib.hid hC
      have HF2 := Lib.hid fr
      have Hpg : Hid (pgv Lk = if Lk.page % 11 = 10 then 512 else Lk.page % 11) := rfl
      have hv0 := hvb.1
      have hv1 := hvb.2
      clear hx hLk p0 p1 p2 a0 a1 hC fr hvb
      go_wp2_with fail
      refine (Hw0.out _).mono ?_
      rintro e w' ⟨rfl, rfl⟩
      go_wp2_with fail
      refine (Hw1.out _).mono ?_
      rintro e w' ⟨rfl, rfl⟩
      go_upto_if 43 with (fail)
      go_cut [8] (fun v wx => v = .int .u32 (pgv Lk) ∧ wo = wx)
      case first =>
        by_cases h10 : Lk.page % 11 = 10
        · have e1 : (Lk.page % 11 == 10) = true := by simp [h10]
          have Hq : Hid (pgv Lk = 512) := Lib.hid (by rw [Hpg.out, if_pos h10])
          clear h10
          go_wp2_with fail
          go_meet
          exact ⟨by rw [Hq.out], rfl⟩
        · have e1 : (Lk.page % 11 == 10) = false := by simpa using h10
          have Hq : Hid (pgv Lk = Lk.page % 11) := Lib.hid (by rw [Hpg.out, if_neg h10])
          clear h10
          go_wp2_with fail
          go_meet
          exact ⟨by rw [Hq.out], rfl⟩
      case rest =>
        obtain ⟨rfl, hw⟩ := hcut
        subst hw
        clear Hpg
        have hp0 := hpb.1
        have hp1 := hpb.2
        clear hpb
        generalize pgv Lk = pg at *
        go_wp2_with fail
        go_loopw [10] (fun i wr => ∃ r : Nat, r ≤ 4 ∧ i = .int .i64 r ∧ Cells wr w.heap.size 5 512 (fun i => .int .u8 (prt4 (tab10 L ys k) Lk r i)) ∧ Fr (fun _ => False) w wr) (fun i _ => 4 - (intOf i).toNat)
        case atStart => exact ⟨0, by omega, rfl, Cells.congr HC2.out (fun i hi => by unfold prt4; rw [if_neg (by omega)]), HF2.out⟩
        case round =>
          obtain ⟨r, hr, rfl, hC, fr⟩ := hrel
          by_cases hlr : r < 4
          · rcases (by omega : r = 0 ∨ r = 1 ∨ r = 2 ∨ r = 3) with rfl | rfl | rfl | rfl
            · obtain ⟨jr, hjr⟩ : ∃ q : Nat, q = Lk.at_ := ⟨_, rfl⟩
              have s3 : (Lk.at_ : Int) = (jr : Int) := by omega
              have u3 : IntKind.u8.wrap (pv Lk) = (pv Lk) % 256 := IntKind.wrap_u8 _
              have cj := hC.cell jr (by omega)
              have zj := Cells.frozen hC jr
              have q0 : (0 : Int) ≤ (jr : Int) := by omega
              have q1 : (jr : Int) < 512 := by omega
              have HD : Hid (Cells (wr.setCell ⟨w.heap.size, jr, none⟩ (.int .u8 ((pv Lk) % 256))) w.heap.size 5 512 (fun i => .int .u8 (prt4 (tab10 L ys k) Lk 1 i))) := Lib.hid (by
                have := set_u8 hC jr ((pv Lk) % 256)
                rw [hjr] at this ⊢
                rw [show Lk.at_ = Lk.at_ + 0 from rfl, prt4_succ _ _ 0 _ (by simp)] at this
                exact this)
              have HF := Lib.hid (fr.setCell (p := ⟨w.heap.size, jr, none⟩) (.inr (Nat.le_refl _)) (.int .u8 ((pv Lk) % 256)))
              clear hC fr hjr
              go_wp2_with fail
              go_roundw
              case rel => exact ⟨1, by omega, rfl, HD.out, HF.out⟩
              case measure => simp [intOf]
            · obtain ⟨jr, hjr⟩ : ∃ q : Nat, q = Lk.at_ + 1 := ⟨_, rfl⟩
              have s3 : (Lk.at_ : Int) + 1 = (jr : Int) := by omega
              have s4 : IntKind.i64.wrap ((Lk.at_ : Int) + 1) = (jr : Int) := by rw [IntWalk.i64_in _ (by omega)]; omega
              have cj := hC.cell jr (by omega)
              have zj := Cells.frozen hC jr
              have q0 : (0 : Int) ≤ (jr : Int) := by omega
              have q1 : (jr : Int) < 512 := by omega
              have HD : Hid (Cells (wr.setCell ⟨w.heap.size, jr, none⟩ (.int .u8 ((pv Lk) / 256 % 256))) w.heap.size 5 512 (fun i => .int .u8 (prt4 (tab10 L ys k) Lk 2 i))) := Lib.hid (by
                have := set_u8 hC jr ((pv Lk) / 256 % 256)
                rw [hjr] at this ⊢
                rw [prt4_succ _ _ 1 _ (by simp)] at this
                exact this)
              have HF := Lib.hid (fr.setCell (p := ⟨w.heap.size, jr, none⟩) (.inr (Nat.le_refl _)) (.int .u8 ((pv Lk) / 256 % 256)))
              clear hC fr hjr
              go_wp2_with fail
              go_roundw
              case rel => exact ⟨2, by omega, rfl, HD.out, HF.out⟩
              case measure => simp [intOf]
            · obtain ⟨jr, hjr⟩ : ∃ q : Nat, q = Lk.at_ + 2 := ⟨_, rfl⟩
              have s3 : (Lk.at_ : Int) + 2 = (jr : Int) := by omega
              have s4 : IntKind.i64.wrap ((Lk.at_ : Int) + 2) = (jr : Int) := by rw [IntWalk.i64_in _ (by omega)]; omega
              have cj := hC.cell jr (by omega)
              have zj := Cells.frozen hC jr
              have q0 : (0 : Int) ≤ (jr : Int) := by omega
              have q1 : (jr : Int) < 512 := by omega
              have HD : Hid (Cells (wr.setCell ⟨w.heap.size, jr, none⟩ (.int .u8 ((pv Lk) / 65536 % 256))) w.heap.size 5 512 (fun i => .int .u8 (prt4 (tab10 L ys k) Lk 3 i))) := Lib.hid (by
                have := set_u8 hC jr ((pv Lk) / 65536 % 256)
                rw [hjr] at this ⊢
                rw [prt4_succ _ _ 2 _ (by simp)] at this
                exact this)
              have HF := Lib.hid (fr.setCell (p := ⟨w.heap.size, jr, none⟩) (.inr (Nat.le_refl _)) (.int .u8 ((pv Lk) / 65536 % 256)))
              clear hC fr hjr
              go_wp2_with fail
              go_roundw
              case rel => exact ⟨3, by omega, rfl, HD.out, HF.out⟩
              case measure => simp [intOf]
            · obtain ⟨jr, hjr⟩ : ∃ q : Nat, q = Lk.at_ + 3 := ⟨_, rfl⟩
              have s3 : (Lk.at_ : Int) + 3 = (jr : Int) := by omega
              have s4 : IntKind.i64.wrap ((Lk.at_ : Int) + 3) = (jr : Int) := by rw [IntWalk.i64_in _ (by omega)]; omega
              have cj := hC.cell jr (by omega)
              have zj := Cells.frozen hC jr
              have q0 : (0 : Int) ≤ (jr : Int) := by omega
              have q1 : (jr : Int) < 512 := by omega
              have HD : Hid (Cells (wr.setCell ⟨w.heap.size, jr, none⟩ (.int .u8 ((pv Lk) / 16777216))) w.heap.size 5 512 (fun i => .int .u8 (prt4 (tab10 L ys k) Lk 4 i))) := Lib.hid (by
                have := set_u8 hC jr ((pv Lk) / 16777216)
                rw [hjr] at this ⊢
                rw [prt4_succ _ _ 3 _ (by simp; omega)] at this
                exact this)
              have HF := Lib.hid (fr.setCell (p := ⟨w.heap.size, jr, none⟩) (.inr (Nat.le_refl _)) (.int .u8 ((pv Lk) / 16777216)))
              clear hC fr hjr
              go_wp2_with fail
              go_roundw
              case rel => exact ⟨4, by omega, rfl, HD.out, HF.out⟩
              case measure => simp [intOf]
          · have e : r = 4 := by omega
            rw [e] at hC
            have HD : Hid (Cells wr w.heap.size 5 512 (fun i => .int .u8 (tab10 L ys (k + 1) i))) := Lib.hid (by
              show Cells wr w.heap.size 5 512 (fun i => .int .u8 (prt4 (tab10 L ys k) (L k) 4 i))
              rw [← HLk.out]
              exact hC)
            clear hC e
            go_wp2_with fail
            go_roundw
            case rel => exact ⟨k + 1, by omega, by omega, by go_num, HD.out, fr⟩
            case measure => simp [intOf]; omega
    · have hkm : k = min len 40 := by omega
      have HX : Hid (Tabs10 w len L ys (.returned (.slice (some ⟨w.heap.size, 0, none⟩) 512 512)) wo) := Lib.hid ⟨rfl, hkm ▸ hC, fr⟩
      clear hC fr hkm
      go_wp2_with fail
      all_goals
        go_ret
        exact HX.out
instance : Inhabited Pt := ⟨⟨0, 0, 0⟩⟩
theorem openPtes {H : Type} {enc : TypeId × Value → H} {w : World} {a : Option Addr} {len cap : Nat} {d : DataW H} {p : List MemPlace}
    (h : DataW.Trod enc Try.prog w 0 (fun _ => true) true 52 (.slice a len cap) d p) : (∃ L, PtsAt w w.heap.size a len L) ∧ len ≤ maxLen := by
  obtain ⟨fuel, hf⟩ := h
  rcases open_slice_fields Try.underlying52 Try.underlying80 (by kernel_rfl) (by kernel_rfl) hf with ⟨hcs, _⟩ | ⟨x, l, c, m, D, Pl, hcs, _, hl, hm, hmm, hx, hi⟩
  · simp [Value.cells] at hcs
    obtain ⟨rfl, rfl, rfl⟩ := hcs
    exact ⟨⟨fun _ => ⟨0, 0, 0⟩, fun i hi => absurd hi (by omega)⟩, by simp [maxLen]⟩
  · simp [Value.cells] at hcs
    obtain ⟨rfl, rfl, rfl⟩ := hcs
    have hlm : len ≤ m := by simp at hmm; omega
    have key : ∀ i, i < len → ∃ y : Pt, (w.cell? (x.add (i * 3)) = some (.int .i64 y.place) ∧ w.cell? (x.add (i * 3 + 1)) = some (.int .i64 y.page) ∧ w.cell? (x.add (i * 3 + 2)) = some (.int .u32 y.bits)) ∧
        (Lit.int .i64 y.place).wf = true ∧ (Lit.int .i64 y.page).wf = true ∧ (Lit.int .u32 y.bits).wf = true := by
      intro i hil
      obtain ⟨ys, n, _, _, _, hf⟩ := hi i (by omega)
      obtain ⟨v0, y0, hc0, _, ht0⟩ := hf 0 _ rfl
      obtain ⟨v1, y1, hc1, _, ht1⟩ := hf 1 _ rfl
      obtain ⟨v2, y2, hc2, _, ht2⟩ := hf 2 _ rfl
      obtain ⟨s, rfl, w0⟩ := cell_int Try.underlying3 ht0
      obtain ⟨at_, rfl, w1⟩ := cell_int Try.underlying3 ht1
      obtain ⟨c, rfl, w2⟩ := cell_int Try.underlying22 ht2
      exact ⟨⟨s, at_, c⟩, ⟨hc0, hc1, hc2⟩, w0, w1, w2⟩
    obtain ⟨L, hL⟩ := choose_lt key
    refine ⟨⟨L, fun i hil => ?_⟩, Nat.le_trans hl hm⟩
    obtain ⟨b, off, spot⟩ := x
    obtain ⟨⟨hc0, _⟩, _⟩ := hL 0 (by omega)
    have hspot : spot = none := by simpa [Addr.add] using World.cell?_spot hc0
    subst hspot
    have hadd : ∀ j, (⟨b, off, none⟩ : Addr).add j = ⟨b, off + j, none⟩ := by
      intro j
      unfold Addr.add
      split
      · rename_i h0; subst h0; rfl
      · rfl
    refine ⟨b, off, rfl, ?_, ?_⟩
    · rcases Nat.lt_or_ge b w.heap.size with h | h
      · exact h
      · exfalso
        have : w.heap[b]? = none := Array.getElem?_eq_none h
        rw [hadd] at hc0
        simp [World.cell?, this] at hc0
    · obtain ⟨q, r⟩ := hL i hil
      simp only [hadd, ← Nat.add_assoc] at q
      exact ⟨q, r⟩
end Go.Proofs.Ythiephlfhbkcbaa.Mu
namespace Go.Proofs.Ythiephlfhbkcbaa.Mu
open Go.RowKit Fm Nt Rm By Wk
set_option linter.unusedVariables false
set_option linter.unusedSimpArgs false
set_option maxHeartbeats 1000000

theorem memory_t (w : World) (A : Au) (u : Us) (h : Un w A u) : Calls Try.prog 26 #[.pointer (some ⟨A.gU, 0, none⟩)] w fun e w' => e = .returned (.pointer (some ⟨A.am.gm, 0, none⟩)) ∧ w = w' := by
  have c0 := h.c0
  go_enter Try.func26, Try.ntmps26
  go_wp2_with fail
  go_ret
  exact ⟨rfl, rfl⟩
theorem flush_t (w : World) (A : Au) (u : Us) (h : Un w A u) : Calls Try.prog 33 #[.pointer (some ⟨A.gU, 0, none⟩)] w fun e w' => e = .returned (.tuple #[]) ∧ Un w' A ⟨u.m, noL⟩ ∧ Fr A.wr w w' := by
  have c0 := h.c1
  have Hf := Lib.hid (Tl.flush_any w A.gB u.l h.B)
  have H := Lib.hid h
  clear h
  go_enter Try.func33, Try.ntmps33
  go_wp2_with fail
  refine (Hf.out).mono ?_
  rintro e w1 ⟨rfl, hB, f⟩
  have HX := Lib.hid (And.intro (H.out.setB hB f) (f.mono (S' := A.wr) (fun k _ e => .inl e)))
  clear hB f
  go_wp2_with fail
  go_end0
  exact ⟨rfl, HX.out.1, HX.out.2⟩
theorem all_t (w : World) (A : Au) (u : Us) (h : Un w A u) : Calls Try.prog 27 #[.pointer (some ⟨A.am.gm, 0, none⟩)] w fun e w' => ∃ g, e = .returned (.slice (some ⟨g, 0, none⟩) (u.m.n * 64) (u.m.n * 64)) ∧ IntsAt .u8 w' w'.heap.size (some ⟨g, 0, none⟩) (u.m.n * 64) (lst u.m.mem (u.m.n * 64)) ∧ Fr (fun _ => False) w w' := by
  refine (all_any w A.am u.m h.M).mono ?_
  rintro e w' ⟨rfl, hc, f⟩
  exact ⟨_, rfl, (cells_ints hc h.M.bd).more hc.lt, f⟩
theorem pts_fr {w w' : World} {A : Option Addr} {n : Nat} {L : Nat → Pt} (h : PtsAt w w.heap.size A n L) (f : Fr (fun _ => False) w w') : PtsAt w' w'.heap.size A n L := fun i hi => by
  obtain ⟨b, off, e, hb, hx⟩ := h i hi
  exact ⟨b, off, e, Nat.lt_of_lt_of_le hb f.size, hx.fr f hb (fun e => e)⟩
/-- the tables' bytes as they are handed on -/
theorem tabs_ints {w w' : World} {len : Nat} {L : Nat → Pt} {ys : List Int} (hy : ∀ z ∈ ys, 0 ≤ z ∧ z < 256) (hc : Cells w' w.heap.size 5 512 (fun i => .int .u8 (tab10 L ys (min len 40) i))) : IntsAt .u8 w' (w.heap.size + 1) (some ⟨w.heap.size, 0, none⟩) 512 (lst (tab10 L ys (min len 40)) 512) := cells_ints hc (fun k _ => tab10_bd L ys hy _ k)
end Go.Proofs.Ythiephlfhbkcbaa.Mu
namespace Go.Proofs.Ythiephlfhbkcbaa.Mu
open Go.RowKit Fm Nt Rm By Wk
set_option linter.unusedVariables false
set_option linter.unusedSimpArgs false
set_option maxHeartbeats 2000000

def mayN (su : Bool) (a : Nat) : Bool := decide (a &&& 4 ≠ 0) && (su || decide (a &&& 16 ≠ 0))
theorem may_3 : ∀ a, a < 32 → a % 2 = 1 → ∀ su, decide ((768 + a) &&& (if su then 5 else 21) = (if su then 5 else 21)) = mayN su a := by decide
theorem may_6 : ∀ a, a < 32 → a % 2 = 1 → ∀ su, decide ((1536 + a) &&& (if su then 5 else 21) = (if su then 5 else 21)) = mayN su a := by decide
theorem now_3 : ∀ a, a < 32 → nowN 3 (768 + a) = 864 + a := by decide
theorem now_6 : ∀ a, a < 32 → nowN 3 (1536 + a) = 1632 + a := by decide
theorem ask3 (su : Bool) : Wk.ask 3 su = ((if su then 5 else 21 : Nat) : Int) := by cases su <;> rfl
theorem may_leaf (x : Nat) (hx : x < 4294967296) (su : Bool) : decide (bits .and .u32 (x : Int) (Wk.ask 3 su) = Wk.ask 3 su) = decide (x &&& (if su then 5 else 21) = (if su then 5 else 21)) := by
  rw [ask3, andN x _ hx (by cases su <;> decide)]
  by_cases h : x &&& (if su then 5 else 21) = (if su then 5 else 21)
  · rw [h]
    simp
  · rw [decide_eq_false h, decide_eq_false (fun e => h (by exact_mod_cast e))]
/-- bytes at places that are all others -/
theorem stor_mem (m : Ms) (l : List Int) (v : Int) (hl : ∀ i, i < l.length → 0 ≤ l.getD i 0 ∧ l.getD i 0 < (m.n : Int) * 64) (hd : ∀ i j, i < j → j < l.length → l.getD i 0 ≠ l.getD j 0) :
    ∀ r, r ≤ l.length → ∀ i, i < r → (stor m l v r).mem (l.getD i 0).toNat = v / 256 ^ i % 256 := by
  intro r
  induction r with
  | zero => intro _ i hi; omega
  | succ r ih =>
    intro hr i hi
    have hb := hl r (by omega)
    have hbi := hl i (by omega)
    show ((stor m l v r).putI (l.getD r 0) (v / 256 ^ r % 256)).mem (l.getD i 0).toNat = _
    rw [putI_mem _ _ _ _ hb.1 (by rw [stor_n]; exact hb.2)]
    by_cases e : i = r
    · subst e
      rw [if_pos (by omega)]
    · have hne := hd i r (by omega) (by omega)
      rw [if_neg (by omega)]
      exact ih (by omega) i (by omega)
section
variable {m : Ms} {a b : Nat}
/-- the tables of a statement over two pages -/
structure TwoP (m : Ms) (a b : Nat) : Prop where
  n : m.n = 8
  r : wrdV m 0 = 257
  x : wrdV m 64 = ((768 + a : Nat) : Int)
  y : wrdV m 68 = ((1536 + b : Nat) : Int)
  z : ∀ i, 192 ≤ i → i < 512 → m.mem i = 0
theorem TwoP.ok (h : TwoP m a b) (va : Int) (h0 : 61 ≤ va) (h1 : va ≤ 64) : lkOk m 0 va = true := by
  have ea : lkA 0 va = 0 := by unfold lkA; omega
  have eb : lkB m 0 va = 64 + 4 * (va / 64) := by unfold lkB; rw [ea, h.r]; omega
  unfold lkOk
  rw [ea, eb, h.r]
  simp only [inB, h.n, Bool.and_eq_true, decide_eq_true_eq]
  omega
theorem TwoP.at_ (h : TwoP m a b) (va : Int) (h0 : 61 ≤ va) (h1 : va ≤ 64) : lkAt m 0 va = 64 + 4 * (va / 64) := by
  have ea : lkA 0 va = 0 := by unfold lkA; omega
  unfold lkAt
  rw [h.ok va h0 h1, if_pos rfl]
  unfold lkB
  rw [ea, h.r]
  omega
theorem TwoP.leaf (h : TwoP m a b) (va : Int) (h0 : 61 ≤ va) (h1 : va ≤ 64) : lkLeaf m 0 va = wrdV m (64 + 4 * (va / 64)) := by
  have := h.at_ va h0 h1
  unfold lkAt at this
  unfold lkLeaf
  rw [h.ok va h0 h1, if_pos rfl] at this ⊢
  rw [this]
theorem TwoP.put (h : TwoP m a b) (Q x : Int) (hQ : Q = 64 ∨ Q = 68) : (m.putW Q x).n = 8 ∧ (∀ i, 192 ≤ i → (m.putW Q x).mem i = m.mem i) := by
  have hi : inB m Q 4 = true := by simp only [inB, h.n, decide_eq_true_eq]; omega
  have e : m.putW Q x = m.puts Q.toNat (wby x) 4 := by rw [Ms.putW, hi, if_pos rfl]
  rw [e]
  refine ⟨(puts_n _ _ _ _).trans h.n, fun i hi => ?_⟩
  rw [puts_mem, if_neg (by omega)]
variable {su : Bool} {va v : Int}
def u0 (m : Ms) : Us := ⟨m, noL⟩
theorem hit_no (va k : Int) (s : Bool) : Tl.hit Tl.noE va k s = false := by simp [Tl.hit, Tl.noE]
theorem TwoP.do1 (h : TwoP m a b) (ha : a < 32) (ha1 : a % 2 = 1) (h0 : 61 ≤ va) (h1 : va ≤ 63) : doOk m 0 va 3 su = mayN su a := by
  have e : lkLeaf m 0 va = ((768 + a : Nat) : Int) := by rw [h.leaf va h0 (by omega), show 64 + 4 * (va / 64) = 64 by omega]; exact h.x
  unfold doOk
  rw [h.ok va h0 (by omega), e, may_leaf _ (by omega), may_3 a ha ha1, Bool.true_and]
/-- the first page may not be written -/
theorem TwoP.no1 (h : TwoP m a b) (ha : a < 32) (ha1 : a % 2 = 1) (h0 : 61 ≤ va) (h1 : va ≤ 63) (hm : mayN su a = false) : placeR (u0 m) ⟨true, su, 0⟩ va 3 = ⟨0, 9, va, u0 m⟩ := by
  have ht : turnedR (u0 m) ⟨true, su, 0⟩ va 3 = ⟨0, 9, va, u0 m⟩ := by
    unfold turnedR
    rw [if_neg (by simp)]
    show (if Tl.hit Tl.noE va 3 su = true then _ else if doOk m 0 va 3 su = true then _ else _) = _
    rw [hit_no, if_neg (by decide), h.do1 ha ha1 h0 h1, hm, if_neg (by decide)]
    rfl
  unfold placeR
  rw [if_neg (by decide), ht, if_pos (by simp)]
def m1 (m : Ms) (a : Nat) : Ms := m.putW 64 ((864 + a : Nat) : Int)
theorem TwoP.two (h : TwoP m a b) (ha : a < 32) : TwoP (m1 m a) (a + 96) b := by
  have hi : inB m 64 4 = true := by simp only [inB, h.n, decide_eq_true_eq]; omega
  obtain ⟨hn, hz⟩ := h.put 64 ((864 + a : Nat) : Int) (.inl rfl)
  refine ⟨hn, ?_, ?_, ?_, fun i i0 i1 => (hz i i0).trans (h.z i i0 i1)⟩
  · unfold m1
    rw [putW_wrd m 64 0 _ hi (by decide) (by decide) (by decide) (by decide) (by omega) (by omega), if_neg (by decide)]
    exact h.r
  · unfold m1
    rw [putW_wrd m 64 64 _ hi (by decide) (by decide) (by decide) (by decide) (by omega) (by omega), if_pos rfl]
    omega
  · unfold m1
    rw [putW_wrd m 64 68 _ hi (by decide) (by decide) (by decide) (by decide) (by omega) (by omega), if_neg (by decide)]
    exact h.y
theorem TwoP.now1 (h : TwoP m a b) (ha : a < 32) (h0 : 61 ≤ va) (h1 : va ≤ 63) : now 3 (lkLeaf m 0 va) = ((864 + a : Nat) : Int) ∧ doMs m 0 va 3 = m1 m a := by
  have e : lkLeaf m 0 va = ((768 + a : Nat) : Int) := by rw [h.leaf va h0 (by omega), show 64 + 4 * (va / 64) = 64 by omega]; exact h.x
  have en : now 3 (lkLeaf m 0 va) = ((864 + a : Nat) : Int) := by rw [e, now_nat 3 _ (by omega), now_3 a ha]
  refine ⟨en, ?_⟩
  unfold doMs
  rw [en, e, if_neg (by omega), h.at_ va h0 (by omega), show 64 + 4 * (va / 64) = 64 by omega]
  rfl
def e1 (m : Ms) (va : Int) : Tl.Ent := entOf m 0 va 3
def u1 (m : Ms) (a : Nat) (va : Int) : Us := ⟨m1 m a, Tl.upd noL 0 (e1 m va)⟩
theorem TwoP.yes1 (h : TwoP m a b) (ha : a < 32) (ha1 : a % 2 = 1) (h0 : 61 ≤ va) (h1 : va ≤ 63) (hm : mayN su a = true) : placeR (u0 m) ⟨true, su, 0⟩ va 3 = ⟨192 + va, 0, 0, u1 m a va⟩ := by
  obtain ⟨en, em⟩ := h.now1 ha h0 h1
  have ei : idx va = 0 := by unfold idx; omega
  have ht : turnedR (u0 m) ⟨true, su, 0⟩ va 3 = ⟨192 + va, 0, 0, u1 m a va⟩ := by
    unfold turnedR
    rw [if_neg (by simp)]
    show (if Tl.hit Tl.noE va 3 su = true then _ else if doOk m 0 va 3 su = true then (⟨now 3 (lkLeaf m 0 va) / 256 * 64 + va % 64, 0, 0, ⟨doMs m 0 va 3, Tl.upd noL (idx va) (entOf m 0 va 3)⟩⟩ : Pr) else _) = _
    rw [hit_no, if_neg (by decide), h.do1 ha ha1 h0 h1, hm, if_pos rfl, en, em, ei]
    show (⟨_, 0, 0, u1 m a va⟩ : Pr) = _
    rw [show ((864 + a : Nat) : Int) / 256 * 64 + va % 64 = 192 + va by omega]
  unfold placeR
  rw [if_neg (by decide), ht, if_neg (by simp)]
  have hth : thereB (u1 m a va).m (192 + va) 3 = true := by
    have := (h.two ha).n
    show thereB (m1 m a) (192 + va) 3 = true
    unfold thereB
    rw [this, Bool.or_eq_true]
    left
    simp
    omega
  rw [show thereB (⟨192 + va, 0, 0, u1 m a va⟩ : Pr).u.m (⟨192 + va, 0, 0, u1 m a va⟩ : Pr).p 3 = true from hth, if_pos rfl]
theorem TwoP.do2 (h : TwoP m a b) (hb : b < 32) (hb1 : b % 2 = 1) : doOk m 0 64 3 su = mayN su b := by
  have e : lkLeaf m 0 64 = ((1536 + b : Nat) : Int) := by rw [h.leaf 64 (by omega) (by omega)]; exact h.y
  unfold doOk
  rw [h.ok 64 (by omega) (by omega), e, may_leaf _ (by omega), may_6 b hb hb1, Bool.true_and]
theorem idx64 : idx 64 = 1 := by decide
/-- the second page may not be written -/
theorem TwoP.no2 (h : TwoP m a b) (ha : a < 32) (hb : b < 32) (hb1 : b % 2 = 1) (hm : mayN su b = false) : placeR (u1 m a va) ⟨true, su, 0⟩ 64 3 = ⟨0, 9, 64, u1 m a va⟩ := by
  have ht : turnedR (u1 m a va) ⟨true, su, 0⟩ 64 3 = ⟨0, 9, 64, u1 m a va⟩ := by
    unfold turnedR
    rw [if_neg (by simp), idx64]
    show (if Tl.hit Tl.noE 64 3 su = true then _ else if doOk (m1 m a) 0 64 3 su = true then _ else _) = _
    rw [hit_no, if_neg (by decide), (h.two ha).do2 hb hb1, hm, if_neg (by decide)]
    rfl
  unfold placeR
  rw [if_neg (by decide), ht, if_pos (by simp)]
def m2 (m : Ms) (a b : Nat) : Ms := (m1 m a).putW 68 ((1632 + b : Nat) : Int)
def u2 (m : Ms) (a b : Nat) (va : Int) : Us := ⟨m2 m a b, Tl.upd (Tl.upd noL 0 (e1 m va)) 1 (entOf (m1 m a) 0 64 3)⟩
theorem TwoP.yes2 (h : TwoP m a b) (ha : a < 32) (hb : b < 32) (hb1 : b % 2 = 1) (hm : mayN su b = true) : placeR (u1 m a va) ⟨true, su, 0⟩ 64 3 = ⟨384, 0, 0, u2 m a b va⟩ := by
  have h2 := h.two ha
  have e : lkLeaf (m1 m a) 0 64 = ((1536 + b : Nat) : Int) := by rw [h2.leaf 64 (by omega) (by omega)]; exact h2.y
  have en : now 3 (lkLeaf (m1 m a) 0 64) = ((1632 + b : Nat) : Int) := by rw [e, now_nat 3 _ (by omega), now_6 b hb]
  have em : doMs (m1 m a) 0 64 3 = m2 m a b := by
    unfold doMs
    rw [en, e, if_neg (by omega), h2.at_ 64 (by omega) (by omega)]
    rfl
  have ht : turnedR (u1 m a va) ⟨true, su, 0⟩ 64 3 = ⟨384, 0, 0, u2 m a b va⟩ := by
    unfold turnedR
    rw [if_neg (by simp), idx64]
    show (if Tl.hit Tl.noE 64 3 su = true then _ else if doOk (m1 m a) 0 64 3 su = true then (⟨now 3 (lkLeaf (m1 m a) 0 64) / 256 * 64 + 64 % 64, 0, 0, ⟨doMs (m1 m a) 0 64 3, Tl.upd (Tl.upd noL 0 (e1 m va)) (idx 64) (entOf (m1 m a) 0 64 3)⟩⟩ : Pr) else _) = _
    rw [hit_no, if_neg (by decide), h2.do2 hb hb1, hm, if_pos rfl, en, em, idx64]
    show (⟨_, 0, 0, u2 m a b va⟩ : Pr) = _
    rw [show ((1632 + b : Nat) : Int) / 256 * 64 + 64 % 64 = 384 by omega]
  unfold placeR
  rw [if_neg (by decide), ht, if_neg (by simp)]
  have hth : thereB (u2 m a b va).m 384 3 = true := by
    have := (h2.put 68 ((1632 + b : Nat) : Int) (.inr rfl)).1
    show thereB ((m1 m a).putW 68 ((1632 + b : Nat) : Int)) 384 3 = true
    unfold thereB
    rw [this]
    decide
  rw [show thereB (⟨384, 0, 0, u2 m a b va⟩ : Pr).u.m (⟨384, 0, 0, u2 m a b va⟩ : Pr).p 3 = true from hth, if_pos rfl]
theorem next61 (h0 : 61 ≤ va) (h1 : va ≤ 63) : nextP va = 64 := by unfold nextP; omega
/-- what is told, what stands behind -/
structure SplitR (m : Ms) (a b : Nat) (su : Bool) (va v : Int) : Prop where
  tc : (spanR (u0 m) ⟨true, su, 0⟩ va 4 3).c = if mayN su a && mayN su b then 0 else 9
  ta : (spanR (u0 m) ⟨true, su, 0⟩ va 4 3).a = if mayN su a && mayN su b then 0 else if mayN su a then 64 else va
  n : (storeU (u0 m) ⟨true, su, 0⟩ va v 4).m.n = 8
  no : (mayN su a && mayN su b) = false → ∀ i, 192 ≤ i → i < 512 → (storeU (u0 m) ⟨true, su, 0⟩ va v 4).m.mem i = 0
  lo : (mayN su a && mayN su b) = true → ∀ i : Nat, (i : Int) < 64 - va → (storeU (u0 m) ⟨true, su, 0⟩ va v 4).m.mem (192 + (va.toNat + i)) = v / 256 ^ i % 256
  hi : (mayN su a && mayN su b) = true → ∀ i : Nat, i < 4 → ¬ (i : Int) < 64 - va → (storeU (u0 m) ⟨true, su, 0⟩ va v 4).m.mem (384 + (i - (64 - va).toNat)) = v / 256 ^ i % 256
theorem TwoP.split (h : TwoP m a b) (ha : a < 32) (ha1 : a % 2 = 1) (hb : b < 32) (hb1 : b % 2 = 1) (h0 : 61 ≤ va) (h1 : va ≤ 63) : SplitR m a b su va v := by
  cases hma : mayN su a
  · have hp := h.no1 (su := su) ha ha1 h0 h1 hma
    have hs : spanR (u0 m) ⟨true, su, 0⟩ va 4 3 = ⟨[], 9, va, u0 m⟩ := by
      unfold spanR
      rw [if_neg (by omega), hp, if_pos (by simp)]
    have hst : storeU (u0 m) ⟨true, su, 0⟩ va v 4 = u0 m := by
      unfold storeU
      rw [hs]
      rfl
    exact ⟨by rw [hs, hma]; rfl, by rw [hs, hma]; rfl, by rw [hst]; exact h.n, fun _ i i0 i1 => by rw [hst]; exact h.z i i0 i1, fun e => by rw [hma] at e; simp at e, fun e => by rw [hma] at e; simp at e⟩
  · have hp := h.yes1 (su := su) ha ha1 h0 h1 hma
    cases hmb : mayN su b
    · have hq := h.no2 (su := su) (va := va) ha hb hb1 hmb
      have hsec : secR (u0 m) ⟨true, su, 0⟩ va 4 3 = ⟨0, 9, 64, u1 m a va⟩ := by
        unfold secR
        rw [if_pos (by omega), hp, next61 h0 h1]
        exact hq
      have hs : spanR (u0 m) ⟨true, su, 0⟩ va 4 3 = ⟨[], 9, 64, u1 m a va⟩ := by
        unfold spanR
        rw [if_neg (by omega), hp, if_neg (by simp), hsec, if_pos (by simp)]
      have hst : storeU (u0 m) ⟨true, su, 0⟩ va v 4 = u1 m a va := by
        unfold storeU
        rw [hs]
        rfl
      exact ⟨by rw [hs, hma, hmb]; rfl, by rw [hs, hma, hmb]; rfl, by rw [hst]; exact (h.two ha).n, fun _ i i0 i1 => by rw [hst]; exact (h.two ha).z i i0 i1, fun e => by rw [hmb] at e; simp at e, fun e => by rw [hmb] at e; simp at e⟩
    · have hq := h.yes2 (su := su) (va := va) ha hb hb1 hmb
      have hsec : secR (u0 m) ⟨true, su, 0⟩ va 4 3 = ⟨384, 0, 0, u2 m a b va⟩ := by
        unfold secR
        rw [if_pos (by omega), hp, next61 h0 h1]
        exact hq
      have hd : devB (192 + va) = false := dev_low (by omega)
      have hs : spanR (u0 m) ⟨true, su, 0⟩ va 4 3 = ⟨spots (64 - va % 64) (192 + va) 384 4, 0, 0, u2 m a b va⟩ := by
        unfold spanR
        rw [if_neg (by omega), hp, if_neg (by simp), hsec, if_neg (by simp)]
        dsimp only
        rw [hd, if_neg (by decide), if_neg (by rw [show devB 384 = false by decide]; simp)]
        rfl
      have hl4 : (spots (64 - va % 64) (192 + va) 384 4).length = 4 := by simp [spots]
      have hg : ∀ i, i < 4 → (spots (64 - va % 64) (192 + va) 384 4).getD i 0 = spot (64 - va % 64) (192 + va) 384 i := fun i hi => by
        simp [spots, List.getD_eq_getElem?_getD, hi]
      have hst : storeU (u0 m) ⟨true, su, 0⟩ va v 4 = ⟨stor (m2 m a b) (spots (64 - va % 64) (192 + va) 384 4) v 4, (u2 m a b va).l⟩ := by
        unfold storeU
        rw [hs]
        dsimp only
        rw [hl4]
        rfl
      have hn2 : (m2 m a b).n = 8 := ((h.two ha).put 68 ((1632 + b : Nat) : Int) (.inr rfl)).1
      have key := stor_mem (m2 m a b) (spots (64 - va % 64) (192 + va) 384 4) v (fun i hi => by
          rw [hl4] at hi
          rw [hg i hi, hn2]
          unfold spot
          split <;> omega) (fun i j hij hj => by
          rw [hl4] at hj
          rw [hg i (by omega), hg j hj]
          unfold spot
          split <;> split <;> omega) 4 (by rw [hl4]; omega)
      refine ⟨by rw [hs, hma, hmb]; rfl, by rw [hs, hma, hmb]; rfl, by rw [hst]; exact (stor_n _ _ _ _).trans hn2, fun e => by rw [hma, hmb] at e; simp at e, fun _ i hi => ?_, fun _ i hi hni => ?_⟩
      · have := key i (by omega)
        rw [hg i (by omega)] at this
        rw [hst, ← this]
        dsimp only
        congr 1
        unfold spot
        rw [if_pos (by omega)]
        omega
      · have := key i hi
        rw [hg i hi] at this
        rw [hst, ← this]
        dsimp only
        congr 1
        unfold spot
        rw [if_neg (by omega)]
        omega
end
def LS (a b : Nat) (i : Nat) : Pt := if i = 0 then ⟨0, 1, 1⟩ else if i = 1 then ⟨16, 3, a⟩ else ⟨17, 6, b⟩
def cP (a b : Int) : Array Value := #[.int .i64 0, .int .i64 1, .int .u32 1, .int .i64 16, .int .i64 3, .int .u32 a, .int .i64 17, .int .i64 6, .int .u32 b]
theorem ptsP (w : World) (a b : Nat) (ha : a < 32) (hb : b < 32) : PtsAt (w.alloc (.cells (cP a b) 80)) (w.alloc (.cells (cP a b) 80)).heap.size (some ⟨w.heap.size, 0, none⟩) 3 (LS a b) := fun i hi => by
  have h := Blk.new w 80 (cP a b)
  refine ⟨w.heap.size, 0, rfl, h.lt, ?_⟩
  rcases (by omega : i = 0 ∨ i = 1 ∨ i = 2) with rfl | rfl | rfl
  · exact ⟨⟨h.cell 0, h.cell 1, h.cell 2⟩, (show (Lit.int .i64 0).wf = true by decide), (show (Lit.int .i64 1).wf = true by decide), (show (Lit.int .u32 1).wf = true by decide)⟩
  · exact ⟨⟨h.cell 3, h.cell 4, h.cell 5⟩, (show (Lit.int .i64 16).wf = true by decide), (show (Lit.int .i64 3).wf = true by decide), wf_u32_mk (n := (a : Int)) (by omega) (by omega)⟩
  · exact ⟨⟨h.cell 6, h.cell 7, h.cell 8⟩, (show (Lit.int .i64 17).wf = true by decide), (show (Lit.int .i64 6).wf = true by decide), wf_u32_mk (n := (b : Int)) (by omega) (by omega)⟩
def mS (a b : Nat) : Ms := Ms.init 8 (lst (tab10 (LS a b) [] 3) 512)
theorem mS_mem (a b i : Nat) (hi : i < 512) : (mS a b).mem i = tab10 (LS a b) [] 3 i := by
  have hl : (lst (tab10 (LS a b) [] 3) 512).length = 512 := by simp [lst]
  unfold mS
  rw [init_mem 8 _ (by rw [hl]; omega), if_pos (by omega), lst_at _ hi]
theorem pv0 (a b : Nat) : pv (LS a b 0) = 257 := rfl
theorem pv1 (a b : Nat) (ha : a < 32) (ha1 : a % 2 = 1) : pv (LS a b 1) = ((768 + a : Nat) : Int) := by
  show (if (3 : Int) % 11 = 10 then (512 : Int) else 3 % 11) * 256 + ((a : Int) % 128) / 2 * 2 + 1 = _
  rw [if_neg (by decide)]
  omega
theorem pv2 (a b : Nat) (hb : b < 32) (hb1 : b % 2 = 1) : pv (LS a b 2) = ((1536 + b : Nat) : Int) := by
  show (if (6 : Int) % 11 = 10 then (512 : Int) else 6 % 11) * 256 + ((b : Int) % 128) / 2 * 2 + 1 = _
  rw [if_neg (by decide)]
  omega
theorem at0 (a b : Nat) : (LS a b 0).at_ = 0 := rfl
theorem at1 (a b : Nat) : (LS a b 1).at_ = 64 := rfl
theorem at2 (a b : Nat) : (LS a b 2).at_ = 68 := rfl
def by4 (x : Int) (r : Nat) : Int := if r = 0 then x % 256 else if r = 1 then x / 256 % 256 else if r = 2 then x / 65536 % 256 else x / 16777216 % 256
theorem tabS (a b : Nat) (ha : a < 32) (ha1 : a % 2 = 1) (hb : b < 32) (hb1 : b % 2 = 1) (i : Nat) : tab10 (LS a b) [] 3 i = if 68 ≤ i ∧ i < 72 then by4 ((1536 + b : Nat) : Int) (i - 68) else if 64 ≤ i ∧ i < 68 then by4 ((768 + a : Nat) : Int) (i - 64) else if i < 4 then by4 257 i else 0 := by
  show prt4 (prt4 (prt4 (rstZ []) (LS a b 0) 4) (LS a b 1) 4) (LS a b 2) 4 i = _
  unfold prt4
  rw [at0, at1, at2, pv0, pv1 a b ha ha1, pv2 a b hb hb1]
  unfold by4
  by_cases h2 : 68 ≤ i ∧ i < 72
  · rw [if_pos (by omega), if_pos h2]
  · rw [if_neg (by omega), if_neg h2]
    by_cases h1 : 64 ≤ i ∧ i < 68
    · rw [if_pos (by omega), if_pos h1]
    · rw [if_neg (by omega), if_neg h1]
      by_cases h0 : i < 4
      · rw [if_pos (by omega), if_pos h0]
        rfl
      · rw [if_neg (by omega), if_neg h0]
        unfold rstZ
        rw [if_neg (by simp)]
theorem wrd4 (m : Ms) (i : Nat) (hi : i + 4 ≤ m.n * 64) : wrdV m (i : Int) = (((m.mem (i + 3)) * 256 + m.mem (i + 2)) * 256 + m.mem (i + 1)) * 256 + m.mem (i + 0) := by
  unfold wrdV
  rw [if_pos (by simp only [inB, decide_eq_true_eq]; omega)]
  show (((0 * 256 + m.mem (i + 3)) * 256 + m.mem (i + 2)) * 256 + m.mem (i + 1)) * 256 + m.mem (i + 0) = _
  omega
theorem twoS (a b : Nat) (ha : a < 32) (ha1 : a % 2 = 1) (hb : b < 32) (hb1 : b % 2 = 1) : TwoP (mS a b) a b := by
  have hn : (mS a b).n = 8 := init_n _ _
  refine ⟨hn, ?_, ?_, ?_, fun i i0 i1 => ?_⟩
  · rw [show (0 : Int) = ((0 : Nat) : Int) from rfl, wrd4 _ 0 (by rw [hn]; omega)]
    rw [mS_mem a b _ (by omega), mS_mem a b _ (by omega), mS_mem a b _ (by omega), mS_mem a b _ (by omega)]
    simp only [tabS a b ha ha1 hb hb1]
    show (((by4 257 3) * 256 + by4 257 2) * 256 + by4 257 1) * 256 + by4 257 0 = 257
    decide
  · rw [show (64 : Int) = ((64 : Nat) : Int) from rfl, wrd4 _ 64 (by rw [hn]; omega)]
    rw [mS_mem a b _ (by omega), mS_mem a b _ (by omega), mS_mem a b _ (by omega), mS_mem a b _ (by omega)]
    simp only [tabS a b ha ha1 hb hb1]
    show (((by4 ((768 + a : Nat) : Int) 3) * 256 + by4 ((768 + a : Nat) : Int) 2) * 256 + by4 ((768 + a : Nat) : Int) 1) * 256 + by4 ((768 + a : Nat) : Int) 0 = _
    simp only [by4]
    simp
    omega
  · rw [show (68 : Int) = ((68 : Nat) : Int) from rfl, wrd4 _ 68 (by rw [hn]; omega)]
    rw [mS_mem a b _ (by omega), mS_mem a b _ (by omega), mS_mem a b _ (by omega), mS_mem a b _ (by omega)]
    simp only [tabS a b ha ha1 hb hb1]
    show (((by4 ((1536 + b : Nat) : Int) 3) * 256 + by4 ((1536 + b : Nat) : Int) 2) * 256 + by4 ((1536 + b : Nat) : Int) 1) * 256 + by4 ((1536 + b : Nat) : Int) 0 = _
    simp only [by4]
    simp
    omega
  · rw [mS_mem a b i i1, tabS a b ha ha1 hb hb1, if_neg (by omega), if_neg (by omega), if_neg (by omega)]
/-- the statement's closure: may it be written? -/
theorem may_any (w : World) (x g : Nat) (hx : x < 32) (su : Bool) (hc : w.cell? ⟨g, 0, none⟩ = some (.bool su)) : Calls Try.prog 36 #[.int .u32 (x : Int), .pointer (some ⟨g, 0, none⟩)] w fun e w' => e = .returned (.bool (mayN su x)) ∧ w = w' := by
  have h4 : bits .and .u32 (x : Int) 4 = ((x &&& 4 : Nat) : Int) := andN x 4 (by omega) (by omega)
  have h16 : bits .and .u32 (x : Int) 16 = ((x &&& 16 : Nat) : Int) := andN x 16 (by omega) (by omega)
  unfold mayN
  by_cases q4 : x &&& 4 = 0
  · rw [q4] at h4
    have h4 : bits .and .u32 (x : Int) 4 = 0 := h4
    rw [show decide (x &&& 4 ≠ 0) = false by simp [q4]]
    clear q4
    go_enter Try.func36, Try.ntmps36
    go_wp2_with fail
    go_ret
    exact ⟨rfl, rfl⟩
  · have q4i : (((x &&& 4 : Nat) : Int) != 0) = true := by simpa using q4
    rw [show decide (x &&& 4 ≠ 0) = true by simp [q4]]
    clear q4
    generalize ((x &&& 4 : Nat) : Int) = y4 at *
    cases su
    · have q16i : (((x &&& 16 : Nat) : Int) != 0) = decide (x &&& 16 ≠ 0) := by
        by_cases q : x &&& 16 = 0
        · rw [q]; rfl
        · rw [decide_eq_true q]
          simpa using q
      generalize ((x &&& 16 : Nat) : Int) = y16 at *
      generalize decide (x &&& 16 ≠ 0) = z at *
      go_enter Try.func36, Try.ntmps36
      go_wp2_with fail
      go_ret
      exact ⟨rfl, rfl⟩
    · go_enter Try.func36, Try.ntmps36
      go_wp2_with fail
      go_ret
      exact ⟨rfl, rfl⟩
end Go.Proofs.Ythiephlfhbkcbaa.Mu
namespace Go.Proofs.Ythiephlfhbkcbaa.mmuSplits
open Go.RowKit Fm Nt Rm By Wk Mu
set_option linter.unusedVariables false
set_option linter.unusedSimpArgs false
set_option maxHeartbeats 4000000

theorem wpAnyH_mono {P : Program} {ops : Array Oper} {Q : Exit → Act → World → Prop} {md : Region.Mode} {S S' : World → Prop} (hS : ∀ w, S' w → S w) :
    ∀ (fuel : Nat) (listed : Array Bool) (a : Act) (w : World), wpAnyH P md ops Q S' fuel listed a w → wpAnyH P md ops Q S fuel listed a w
  | 0, _, _, _, h => h
  | fuel + 1, _, _, _, h => ⟨h.1, fun i hi => wpOp_mono (fun a' w' h' => ⟨hS w' h'.1, wpAnyH_mono hS fuel _ a' w' h'.2⟩) (h.2 i hi)⟩
/-- a page of nought, as its letters -/
theorem zero_ints {w : World} {g : Nat} {f : Nat → Int} (hc : Cells w g 5 64 (fun k => .int .u8 (f k))) (hz : ∀ k, k < 64 → f k = 0) : IntsAt .u8 w (g + 1) (some ⟨g, 0, none⟩) 64 (lst (fun _ => 0) 64) :=
  cells_ints (Cells.congr hc (fun k hk => by rw [hz k hk])) (fun _ _ => by decide)
set_option maxRecDepth 100000 in
theorem walk (w : World) (f0 : Int) (hf : (Lit.int .u32 f0).wf = true) (s0 : Int) (hs : (Lit.int .u32 s0).wf = true) (v : Int) (hv : (Lit.int .u32 v).wf = true) (off : Int) (ho : (Lit.int .u32 off).wf = true) (su : Bool) :
    Calls Try.prog 9 #[.int .u32 f0, .int .u32 s0, .int .u32 v, .int .u32 off, .bool su] w fun e w' => e = .returned (.bool true) ∧ Fr (fun _ => False) w w' := by
  obtain ⟨f00, f01⟩ := wf_u32 hf
  obtain ⟨s00, s01⟩ := wf_u32 hs
  obtain ⟨v0, v1⟩ := wf_u32 hv
  obtain ⟨o0, o1⟩ := wf_u32 ho
  clear hf hs hv ho
  obtain ⟨a, hae, ha, ha1⟩ : ∃ a : Nat, bits .or .u32 (f0 % 32) 1 = (a : Int) ∧ a < 32 ∧ a % 2 = 1 := by
    refine ⟨(f0 % 32 / 2 * 2 + 1).toNat, ?_, by omega, by omega⟩
    rw [or1 _ (by omega) (by omega)]
    omega
  obtain ⟨b, hbe, hb, hb1⟩ : ∃ b : Nat, bits .or .u32 (s0 % 32) 1 = (b : Int) ∧ b < 32 ∧ b % 2 = 1 := by
    refine ⟨(s0 % 32 / 2 * 2 + 1).toNat, ?_, by omega, by omega⟩
    rw [or1 _ (by omega) (by omega)]
    omega
  obtain ⟨va, hva, va0, va1⟩ : ∃ va : Int, 61 + off % 3 = va ∧ 61 ≤ va ∧ va ≤ 63 := ⟨_, rfl, by omega, by omega⟩
  have HTW := Lib.hid (twoS a b ha ha1 hb hb1)
  have HA1 := Lib.hid ha1
  have HB1 := Lib.hid hb1
  clear ha1 hb1
  have fB : Fr (fun _ => False) w (w.alloc (.cells #[.bool su] 4)) := (Fr.refl _ _).alloc _
  have bB := Blk.new w 4 #[.bool su]
  have hsB : (w.alloc (.cells #[.bool su] 4)).heap.size = w.heap.size + 1 := by simp
  go_enter Try.func9, Try.ntmps9
  go_upto_region 2 with (fail)
  generalize w.alloc (.cells #[.bool su] 4) = wB at *
  have HP := Lib.hid (ptsP wB a b ha hb)
  have F1 := Lib.hid (fB.alloc (.cells (cP a b) 80))
  have hs1 : (wB.alloc (.cells (cP a b) 80)).heap.size = wB.heap.size + 1 := by simp
  have bB1 := bB.alloc (.cells (cP a b) 80)
  have HS1 := Lib.hid hs1
  have HBB := Lib.hid bB1
  unfold cP at *
  clear fB hs1 bB bB1 hae hbe
  refine wp_region_lit ?_
  refine wpList_plain rfl fun K hK => ?_
  go_simp
  refine hK _ _ ?_
  clear hK K
  refine wpList_plain rfl fun K hK => ?_
  go_simp
  refine hK _ _ ?_
  clear hK K
  refine wpList_plain rfl fun K hK => ?_
  go_simp
  refine hK _ _ ?_
  clear hK K
  refine wpList_plain rfl fun K hK => ?_
  go_simp
  refine hK _ _ ?_
  clear hK K
  refine wpList_plain rfl fun K hK => ?_
  go_simp
  refine hK _ _ ?_
  clear hK K
  refine wpList_plain rfl fun K hK => ?_
  go_simp
  generalize wB.alloc (.cells #[.int .i64 0, .int .i64 1, .int .u32 1, .int .i64 16, .int .i64 3, .int .u32 (a : Int), .int .i64 17, .int .i64 6, .int .u32 (b : Int)] 80) = w1 at *
  refine hK _ _ ?_
  clear hK K
  rw [hsB] at HP HS1
  have Ht := Lib.hid (tables10 w1 (some ⟨w.heap.size + 1, 0, none⟩) 3 3 (LS a b) HP.out (by simp [maxLen]) none 0 0 [] (intsAt_nil _ _ _ _))
  refine wpList_plain rfl fun K hK => ?_
  go_simp
  refine (Ht.out).mono ?_
  rintro e w3 ⟨rfl, hc3, f3⟩
  refine hK _ _ ?_
  clear hK K
  have hi3 := tabs_ints (ys := []) (by decide) hc3
  have Hb3 := Lib.hid (both10 w3 _ 512 512 8 _ _ hi3 hc3.lt (by omega) (by omega) (by omega))
  have fr3 := F1.out.tr f3
  have bB3 := HBB.out.fr f3 (fun e => e)
  have hs3 := f3.size
  clear hc3 hi3 f3 Ht HP F1 HBB
  refine wpList_plain rfl fun K hK => ?_
  go_simp
  refine (Hb3.out).mono ?_
  rintro e w4 ⟨A, r, rfl, hU, _, _, hbl, f4⟩
  refine hK _ _ ?_
  clear hK K
  have hU : Un w4 A (u0 (mS a b)) := hU
  have nA : ∀ q, q < w1.heap.size → ¬ A.wr q := fun q hq e => by have := hbl q (.inr (.inl e)); omega
  have fr4 := fr3.tr f4
  have bB4 := bB3.fr f4 (fun e => e)
  have hs4 := f4.size
  have hgB : w.heap.size < w1.heap.size := by have := HS1.out; omega
  have HLO : Hid (∀ q, A.wr q → w.heap.size ≤ q) := Lib.hid (fun q hq => by have := nA q; by_cases e : q < w1.heap.size; exact absurd hq (this e); omega)
  have HNA := Lib.hid nA
  have Hm := Lib.hid (memory_t w4 A _ hU)
  have HU := Lib.hid hU
  have HF := Lib.hid fr4
  have HBB := Lib.hid bB4
  clear hU hbl nA fr3 fr4 f4 bB3 bB4 Hb3
  go_wp2_with fail
  refine (Hm.out).mono ?_
  rintro e w' ⟨rfl, rfl⟩
  go_wp2_with fail
  refine (Hm.out).mono ?_
  rintro e w' ⟨rfl, rfl⟩
  have cB := HBB.out.cell 0
  simp only [List.getElem?_toArray, List.getElem?_cons_zero] at cB
  have hst := store_any w4 A _ HU.out ⟨true, su, 0⟩ va v 4 (by show (0 : Int) ≤ 0; omega) (by show (0 : Int) ≤ 4294967295; omega) (by omega) (by omega) v0 v1
  have HSP := Lib.hid (HTW.out.split (su := su) (va := va) (v := v) ha HA1.out hb HB1.out va0 va1)
  obtain ⟨R, hR⟩ : ∃ R, spanR (u0 (mS a b)) ⟨true, su, 0⟩ va 4 3 = R := ⟨_, rfl⟩
  obtain ⟨U, hUU⟩ : ∃ U, storeU (u0 (mS a b)) ⟨true, su, 0⟩ va v 4 = U := ⟨_, rfl⟩
  rw [hR, hUU] at hst
  have HR := Lib.hid hR
  have HUU := Lib.hid hUU
  have Hst := Lib.hid hst
  clear Hm hst hR hUU HU
  go_wp2_with fail
  refine (Hst.out).mono ?_
  rintro e w5 ⟨rfl, hU5, f5⟩
  have hn8 : U.m.n = 8 := by have := HSP.out.n; rw [HUU.out] at this; exact this
  have hgw : ¬ A.wr w.heap.size := HNA.out _ hgB
  have F5 := Lib.hid (HF.out.trans (S := fun _ => False) f5 (fun i hi e => by have := HLO.out i e; omega))
  have bB5 := HBB.out.fr f5 hgw
  have HU5 := Lib.hid hU5
  have fT := (Fr.refl (fun _ => False) w5).alloc (.cells #[.int .i64 R.c, .int .u32 R.a] 63)
  have bT : Blk (w5.alloc (.cells #[.int .i64 R.c, .int .u32 R.a] 63)) w5.heap.size 63 #[.int .i64 R.c, .int .u32 R.a] := Blk.new _ _ _
  have bB5 := bB5.fr fT (fun e => e)
  have F5 := Lib.hid (F5.out.tr fT)
  have HM5 := Lib.hid (hU5.M.fr0 fT)
  have htc := HSP.out.tc
  have hta := HSP.out.ta
  rw [HR.out] at htc hta
  have hno := HSP.out.no
  have hlo := HSP.out.lo
  have hhi := HSP.out.hi
  rw [HUU.out] at hno hlo hhi
  clear cB f5 hU5 HBB HF Hst fT HSP HTW HR HUU
  generalize R.c = tc at *
  generalize R.a = ta at *
  have HTC := Lib.hid htc
  have HTA := Lib.hid hta
  clear htc hta
  go_upto_region 9 with (fail)
  generalize w5.alloc (.cells #[.int .i64 tc, .int .u32 ta] 63) = wt at *
  have Hp3 := Lib.hid (page_in wt A.am U.m HM5.out 3 (by omega) (by omega))
  have HNO := Lib.hid hno
  have HLO2 := Lib.hid hlo
  have HHI := Lib.hid hhi
  clear hno hlo hhi
  generalize w5.heap.size = g5 at *
  go_wp2_with fail
  refine (Hp3.out).mono ?_
  rintro e w6 ⟨rfl, hc6, f6⟩
  have hM6 := HM5.out.fr0 f6
  have Hp6 := Lib.hid (page_in w6 A.am U.m hM6 6 (by omega) (by omega))
  have bB6 := bB5.fr f6 (fun e => e)
  have bT6 := bT.fr f6 (fun e => e)
  have F6 := Lib.hid (F5.out.tr f6)
  clear bB5 Hp3 hM6 bT
  go_wp2_with fail
  refine (Hp6.out).mono ?_
  rintro e w7 ⟨rfl, hc7, f7⟩
  have bB7 := bB6.fr f7 (fun e => e)
  have bT7 := bT6.fr f7 (fun e => e)
  have F7 := Lib.hid (F6.out.tr f7)
  have hcP := Lib.hid (hc6.fr f7 (fun e => e))
  have hcQ := Lib.hid hc7
  have cB7 := bB7.cell 0
  simp only [List.getElem?_toArray, List.getElem?_cons_zero] at cB7
  have hA1 := Lib.hid (may_any w7 a w.heap.size ha su cB7)
  have hB1 := Lib.hid (may_any w7 b w.heap.size hb su cB7)
  have hT0 : w7.cell? ⟨g5, 0, none⟩ = some (.int .i64 tc) := bT7.cell 0
  have hT1 : w7.cell? ⟨g5, 1, none⟩ = some (.int .u32 ta) := bT7.cell 1
  have hTl := bT7.lt
  have hPl := hcP.out.lt
  have hQl := hcQ.out.lt
  generalize wt.heap.size = gp at *
  generalize w6.heap.size = gq at *
  clear hc6 f6 f7 hc7 bB6 bB7 bT6 Hp6 cB7 HM5 F5 F6 HNA HLO HS1 hs3 hs4 hgB hgw HA1 HB1 bT7
  generalize mayN su a = pa at *
  generalize mayN su b = pb at *
  cases pa
  · obtain rfl : tc = 9 := HTC.out
    obtain rfl : ta = va := HTA.out
    have ZN := Lib.hid (HNO.out rfl)
    clear HNO HLO2 HHI
    go_wp2_with fail
    refine (hA1.out).mono ?_
    rintro e w' ⟨rfl, rfl⟩
    go_wp2_with fail
    refine (hA1.out).mono ?_
    rintro e w' ⟨rfl, rfl⟩
    go_upto_region 25 with (fail)
    have IP := Lib.hid ((zero_ints hcP.out (fun k hk => ZN.out (192 + k) (by omega) (by omega))).more hcP.out.lt)
    have IQ := Lib.hid ((zero_ints hcQ.out (fun k hk => ZN.out (384 + k) (by omega) (by omega))).more hcQ.out.lt)
    have HQ : Hid (∀ W B A n c, IntsAt .u8 W B A n (lst (fun _ => 0) 64) → (convert 24 9 (.slice A n c)).run Try.prog W = .ok (.string (str (lst (fun _ => 0) 64))) W) := Lib.hid (fun W B A n c h => str_of_ints h)
    have hmk : ∀ W, (Instr.makeSlice 24 (.int .i64 64) (.int .i64 64)).run Try.prog W = .ok (.slice (some ⟨W.heap.size, 0, none⟩) 64 64) (W.alloc (.cells (zU 64) 5)) := fun W => run_makeU .i64 64 (by omega) W
    have IZ : Hid (∀ W : World, IntsAt .u8 (W.alloc (.cells (zU 64) 5)) (W.heap.size + 1) (some ⟨W.heap.size, 0, none⟩) 64 (lst (fun _ => 0) 64)) := Lib.hid (fun W => cells_ints (cellsU W 64 rfl) (fun _ _ => by decide))
    have Hk : Hid (∀ W, Calls Try.prog 29 #[] W fun e w' => e = .returned (.bool true) ∧ Fr (fun _ => False) W w') := Lib.hid (fun W => known10 W)
    clear hA1 hB1 HTC HTA
    generalize str (lst (fun _ => 0) 64) = qz at *
    refine wp_region_held_drew (S := Fr (fun _ => False) w7) (by kernel_rfl) ((Fr.refl (fun _ => False) w7).drew) (fun hH => ?_)
    refine wpAnyH_take (i := 0) (v := ?_) rfl (by kernel_rfl) (by kernel_rfl) (by kernel_rfl) (fun _ _ _ h => h) (Or.inl ⟨by kernel_rfl, ?_⟩) hH ?_
    rotate_left
    · (intro W hSw; have k0 := hSw.cell hT0 hTl (fun e => e); have k1 := hSw.cell hT1 hTl (fun e => e); have l1 := HQ.out W _ _ 64 64 (IP.out.fr hSw (Nat.le_refl _) (fun _ _ e => e)); have l2 := HQ.out W _ _ 64 64 (IQ.out.fr hSw (Nat.le_refl _) (fun _ _ e => e)); go_simp; try with_reducible rfl)
    refine wpAnyH_take (i := 1) (v := ?_) rfl (by kernel_rfl) (by kernel_rfl) (by kernel_rfl) (fun _ _ _ h => h) (Or.inl ⟨by kernel_rfl, ?_⟩) hH ?_
    rotate_left
    · (intro W _; go_simp; try with_reducible rfl)
    refine wpAnyH_take (i := 2) (v := ?_) rfl (by kernel_rfl) (by kernel_rfl) (by kernel_rfl) (fun _ _ _ h => h) (Or.inl ⟨by kernel_rfl, ?_⟩) hH ?_
    rotate_left
    · (intro W _; go_simp; try with_reducible rfl)
    simp (config := { maxSteps := 2000000 }) only [Act.put, List.getElem_toArray, List.getElem_cons_zero, List.getElem_cons_succ, List.setIfInBounds_toArray, List.set_cons_zero, List.set_cons_succ]
    refine wpAnyH_take (i := 3) (v := ?_) rfl (by kernel_rfl) (by kernel_rfl) (by kernel_rfl) (fun _ _ _ h => h) (Or.inl ⟨by kernel_rfl, ?_⟩) hH ?_
    rotate_left
    · (intro W _; go_simp; try with_reducible rfl)
    refine wpAnyH_take (i := 4) (v := ?_) rfl (by kernel_rfl) (by kernel_rfl) (by kernel_rfl) (fun _ _ _ h => h) (Or.inl ⟨by kernel_rfl, ?_⟩) hH ?_
    rotate_left
    · (intro W _; go_simp; try with_reducible rfl)
    refine wpAnyH_take (i := 5) (v := ?_) rfl (by kernel_rfl) (by kernel_rfl) (by kernel_rfl) (fun _ _ _ h => h) (Or.inl ⟨by kernel_rfl, ?_⟩) hH ?_
    rotate_left
    · (intro W _; go_simp; try with_reducible rfl)
    simp (config := { maxSteps := 2000000 }) only [Act.put, List.getElem_toArray, List.getElem_cons_zero, List.getElem_cons_succ, List.setIfInBounds_toArray, List.set_cons_zero, List.set_cons_succ]
    refine wpAnyH_take (i := 6) (v := ?_) rfl (by kernel_rfl) (by kernel_rfl) (by kernel_rfl) (fun _ _ _ h => h) (Or.inl ⟨by kernel_rfl, ?_⟩) hH ?_
    rotate_left
    · (intro W hSw; have k0 := hSw.cell hT0 hTl (fun e => e); have k1 := hSw.cell hT1 hTl (fun e => e); have l1 := HQ.out W _ _ 64 64 (IP.out.fr hSw (Nat.le_refl _) (fun _ _ e => e)); have l2 := HQ.out W _ _ 64 64 (IQ.out.fr hSw (Nat.le_refl _) (fun _ _ e => e)); go_simp; try with_reducible rfl)
    simp (config := { maxSteps := 2000000 }) only [Act.put, List.getElem_toArray, List.getElem_cons_zero, List.getElem_cons_succ, List.setIfInBounds_toArray, List.set_cons_zero, List.set_cons_succ]
    refine wpAnyH_ready (rs := [7]) (by kernel_rfl) (by simp) ?_
    refine AllReadyH.cons rfl (fun K hK => ?_) ?_
    · go_simp
      refine hK.out _ _ ?_ (fun hH => ?_)
      · exact ((Fr.refl (fun _ => False) w7).drew).alloc _
      clear hK K
      have FA : Hid (Fr (fun _ => False) w7 (w7.drew.alloc (.cells (zU 64) 5))) := Lib.hid hH
      have IA := Lib.hid (IZ.out w7.drew)
      refine wpAnyH_mono (S' := Fr (fun _ => False) (w7.drew.alloc (.cells (zU 64) 5))) (fun W h => FA.out.tr h) _ _ _ _ ?_
      clear hH
      have hH := Fr.refl (fun _ => False) (w7.drew.alloc (.cells (zU 64) 5))
      refine wpAnyH_take (i := 8) (v := ?_) rfl (by kernel_rfl) (by kernel_rfl) (by kernel_rfl) (fun _ _ _ h => h) (Or.inl ⟨by kernel_rfl, ?_⟩) hH ?_
      rotate_left
      · (intro W hS3; have hSw := FA.out.tr hS3; have k0 := hSw.cell hT0 hTl (fun e => e); have k1 := hSw.cell hT1 hTl (fun e => e); have l1 := HQ.out W _ _ 64 64 (IP.out.fr hSw (Nat.le_refl _) (fun _ _ e => e)); have l2 := HQ.out W _ _ 64 64 (IQ.out.fr hSw (Nat.le_refl _) (fun _ _ e => e)); have r3 := HQ.out W (w7.heap.size + 1) (some ⟨w7.heap.size, 0, none⟩) 64 64 (IA.out.fr hS3 (by simp) (fun _ _ e => e)); go_simp; try with_reducible rfl)
      refine wpAnyH_take (i := 9) (v := ?_) rfl (by kernel_rfl) (by kernel_rfl) (by kernel_rfl) (fun _ _ _ h => h) (Or.inl ⟨by kernel_rfl, ?_⟩) hH ?_
      rotate_left
      · (intro W _; go_simp; try with_reducible rfl)
      refine wpAnyH_take (i := 10) (v := ?_) rfl (by kernel_rfl) (by kernel_rfl) (by kernel_rfl) (fun _ _ _ h => h) (Or.inl ⟨by kernel_rfl, ?_⟩) hH ?_
      rotate_left
      · (intro W _; go_simp; try with_reducible rfl)
      simp (config := { maxSteps := 2000000 }) only [Act.put, List.getElem_toArray, List.getElem_cons_zero, List.getElem_cons_succ, List.setIfInBounds_toArray, List.set_cons_zero, List.set_cons_succ]
      refine wpAnyH_take (i := 11) (v := ?_) rfl (by kernel_rfl) (by kernel_rfl) (by kernel_rfl) (fun _ _ _ h => h) (Or.inl ⟨by kernel_rfl, ?_⟩) hH ?_
      rotate_left
      · (intro W _; go_simp; try with_reducible rfl)
      refine wpAnyH_take (i := 12) (v := ?_) rfl (by kernel_rfl) (by kernel_rfl) (by kernel_rfl) (fun _ _ _ h => h) (Or.inl ⟨by kernel_rfl, ?_⟩) hH ?_
      rotate_left
      · (intro W _; go_simp; try with_reducible rfl)
      refine wpAnyH_take (i := 13) (v := ?_) rfl (by kernel_rfl) (by kernel_rfl) (by kernel_rfl) (fun _ _ _ h => h) (Or.inl ⟨by kernel_rfl, ?_⟩) hH ?_
      rotate_left
      · (intro W hS3; have hSw := FA.out.tr hS3; have k0 := hSw.cell hT0 hTl (fun e => e); have k1 := hSw.cell hT1 hTl (fun e => e); have l1 := HQ.out W _ _ 64 64 (IP.out.fr hSw (Nat.le_refl _) (fun _ _ e => e)); have l2 := HQ.out W _ _ 64 64 (IQ.out.fr hSw (Nat.le_refl _) (fun _ _ e => e)); have r3 := HQ.out W (w7.heap.size + 1) (some ⟨w7.heap.size, 0, none⟩) 64 64 (IA.out.fr hS3 (by simp) (fun _ _ e => e)); go_simp; try with_reducible rfl)
      simp (config := { maxSteps := 2000000 }) only [Act.put, List.getElem_toArray, List.getElem_cons_zero, List.getElem_cons_succ, List.setIfInBounds_toArray, List.set_cons_zero, List.set_cons_succ]
      refine wpAnyH_ready (rs := [14]) (by kernel_rfl) (by simp) ?_
      refine AllReadyH.cons rfl (fun K hK => ?_) ?_
      · go_simp
        refine hK.out _ _ ?_ (fun hH => ?_)
        · exact hH.alloc _
        clear hK K
        have FB : Hid (Fr (fun _ => False) w7 ((w7.drew.alloc (.cells (zU 64) 5)).alloc (.cells (zU 64) 5))) := Lib.hid (FA.out.tr hH)
        have IB : Hid (IntsAt .u8 ((w7.drew.alloc (.cells (zU 64) 5)).alloc (.cells (zU 64) 5)) (w7.heap.size + 2) (some ⟨w7.heap.size + 1, 0, none⟩) 64 (lst (fun _ => 0) 64)) := Lib.hid (by have := IZ.out (w7.drew.alloc (.cells (zU 64) 5)); simpa using this)
        refine wpAnyH_mono (S' := Fr (fun _ => False) ((w7.drew.alloc (.cells (zU 64) 5)).alloc (.cells (zU 64) 5))) (fun W h => ((Fr.refl (fun _ => False) _).alloc _).tr h) _ _ _ _ ?_
        clear hH
        have hH := Fr.refl (fun _ => False) ((w7.drew.alloc (.cells (zU 64) 5)).alloc (.cells (zU 64) 5))
        refine wpAnyH_take (i := 15) (v := ?_) rfl (by kernel_rfl) (by kernel_rfl) (by kernel_rfl) (fun _ _ _ h => h) (Or.inl ⟨by kernel_rfl, ?_⟩) hH ?_
        rotate_left
        · (intro W hS4; have hSw := FB.out.tr hS4; have k0 := hSw.cell hT0 hTl (fun e => e); have k1 := hSw.cell hT1 hTl (fun e => e); have l1 := HQ.out W _ _ 64 64 (IP.out.fr hSw (Nat.le_refl _) (fun _ _ e => e)); have l2 := HQ.out W _ _ 64 64 (IQ.out.fr hSw (Nat.le_refl _) (fun _ _ e => e)); have r4 := HQ.out W (w7.heap.size + 2) (some ⟨w7.heap.size + 1, 0, none⟩) 64 64 (IB.out.fr hS4 (by simp) (fun _ _ e => e)); go_simp; try with_reducible rfl)
        refine wpAnyH_take (i := 16) (v := ?_) rfl (by kernel_rfl) (by kernel_rfl) (by kernel_rfl) (fun _ _ _ h => h) (Or.inl ⟨by kernel_rfl, ?_⟩) hH ?_
        rotate_left
        · (intro W _; go_simp; try with_reducible rfl)
        refine wpAnyH_take (i := 17) (v := ?_) rfl (by kernel_rfl) (by kernel_rfl) (by kernel_rfl) (fun _ _ _ h => h) (Or.inl ⟨by kernel_rfl, ?_⟩) hH ?_
        rotate_left
        · (intro W _; go_simp; try with_reducible rfl)
        simp (config := { maxSteps := 2000000 }) only [Act.put, List.getElem_toArray, List.getElem_cons_zero, List.getElem_cons_succ, List.setIfInBounds_toArray, List.set_cons_zero, List.set_cons_succ]
        refine wpAnyH_take (i := 18) (v := ?_) rfl (by kernel_rfl) (by kernel_rfl) (by kernel_rfl) (fun _ _ _ h => h) (Or.inl ⟨by kernel_rfl, ?_⟩) hH ?_
        rotate_left
        · (intro W _; go_simp; try with_reducible rfl)
        simp (config := { maxSteps := 2000000 }) only [Act.put, List.getElem_toArray, List.getElem_cons_zero, List.getElem_cons_succ, List.setIfInBounds_toArray, List.set_cons_zero, List.set_cons_succ]
        refine wpAnyH_ready (rs := [19]) (by kernel_rfl) (by simp) ?_
        refine AllReadyH.cons rfl (fun K hK => ?_) ?_
        · go_simp
          go_wp2_with (refine (Hk.out _).mono ?_; rintro e w8 ⟨rfl, f8⟩)
          refine hK.out _ _ ?_ (fun hH => ?_)
          · exact hH.tr f8
          clear hK K
          refine wpAnyH_take (i := 20) (v := ?_) rfl (by kernel_rfl) (by kernel_rfl) (by kernel_rfl) (fun _ _ _ h => h) (Or.inl ⟨by kernel_rfl, ?_⟩) hH ?_
          rotate_left
          · (intro W _; go_simp; try with_reducible rfl)
          refine wpAnyH_take (i := 21) (v := ?_) rfl (by kernel_rfl) (by kernel_rfl) (by kernel_rfl) (fun _ _ _ h => h) (Or.inl ⟨by kernel_rfl, ?_⟩) hH ?_
          rotate_left
          · (intro W _; go_simp; try with_reducible rfl)
          refine wpAnyH_done (by kernel_rfl) ?_ _
          go_wp2_with fail
          go_ret
          exact ⟨rfl, F7.out.tr (FB.out.tr hH)⟩
        exact AllReadyH.nil
      exact AllReadyH.nil
    exact AllReadyH.nil
  · cases pb
    · obtain rfl : tc = 9 := HTC.out
      obtain rfl : ta = 64 := HTA.out
      have ZN := Lib.hid (HNO.out rfl)
      clear HNO HLO2 HHI
      go_wp2_with fail
      refine (hA1.out).mono ?_
      rintro e w' ⟨rfl, rfl⟩
      go_wp2_with fail
      refine (hB1.out).mono ?_
      rintro e w' ⟨rfl, rfl⟩
      go_wp2_with fail
      refine (hA1.out).mono ?_
      rintro e w' ⟨rfl, rfl⟩
      go_upto_region 25 with (fail)
      have IP := Lib.hid ((zero_ints hcP.out (fun k hk => ZN.out (192 + k) (by omega) (by omega))).more hcP.out.lt)
      have IQ := Lib.hid ((zero_ints hcQ.out (fun k hk => ZN.out (384 + k) (by omega) (by omega))).more hcQ.out.lt)
      have HQ : Hid (∀ W B A n c, IntsAt .u8 W B A n (lst (fun _ => 0) 64) → (convert 24 9 (.slice A n c)).run Try.prog W = .ok (.string (str (lst (fun _ => 0) 64))) W) := Lib.hid (fun W B A n c h => str_of_ints h)
      have hmk : ∀ W, (Instr.makeSlice 24 (.int .i64 64) (.int .i64 64)).run Try.prog W = .ok (.slice (some ⟨W.heap.size, 0, none⟩) 64 64) (W.alloc (.cells (zU 64) 5)) := fun W => run_makeU .i64 64 (by omega) W
      have IZ : Hid (∀ W : World, IntsAt .u8 (W.alloc (.cells (zU 64) 5)) (W.heap.size + 1) (some ⟨W.heap.size, 0, none⟩) 64 (lst (fun _ => 0) 64)) := Lib.hid (fun W => cells_ints (cellsU W 64 rfl) (fun _ _ => by decide))
      have Hk : Hid (∀ W, Calls Try.prog 29 #[] W fun e w' => e = .returned (.bool true) ∧ Fr (fun _ => False) W w') := Lib.hid (fun W => known10 W)
      clear hA1 hB1 HTC HTA
      generalize str (lst (fun _ => 0) 64) = qz at *
      refine wp_region_held_drew (S := Fr (fun _ => False) w7) (by kernel_rfl) ((Fr.refl (fun _ => False) w7).drew) (fun hH => ?_)
      refine wpAnyH_take (i := 0) (v := ?_) rfl (by kernel_rfl) (by kernel_rfl) (by kernel_rfl) (fun _ _ _ h => h) (Or.inl ⟨by kernel_rfl, ?_⟩) hH ?_
      rotate_left
      · (intro W hSw; have k0 := hSw.cell hT0 hTl (fun e => e); have k1 := hSw.cell hT1 hTl (fun e => e); have l1 := HQ.out W _ _ 64 64 (IP.out.fr hSw (Nat.le_refl _) (fun _ _ e => e)); have l2 := HQ.out W _ _ 64 64 (IQ.out.fr hSw (Nat.le_refl _) (fun _ _ e => e)); go_simp; try with_reducible rfl)
      refine wpAnyH_take (i := 1) (v := ?_) rfl (by kernel_rfl) (by kernel_rfl) (by kernel_rfl) (fun _ _ _ h => h) (Or.inl ⟨by kernel_rfl, ?_⟩) hH ?_
      rotate_left
      · (intro W _; go_simp; try with_reducible rfl)
      refine wpAnyH_take (i := 2) (v := ?_) rfl (by kernel_rfl) (by kernel_rfl) (by kernel_rfl) (fun _ _ _ h => h) (Or.inl ⟨by kernel_rfl, ?_⟩) hH ?_
      rotate_left
      · (intro W _; go_simp; try with_reducible rfl)
      simp (config := { maxSteps := 2000000 }) only [Act.put, List.getElem_toArray, List.getElem_cons_zero, List.getElem_cons_succ, List.setIfInBounds_toArray, List.set_cons_zero, List.set_cons_succ]
      refine wpAnyH_take (i := 3) (v := ?_) rfl (by kernel_rfl) (by kernel_rfl) (by kernel_rfl) (fun _ _ _ h => h) (Or.inl ⟨by kernel_rfl, ?_⟩) hH ?_
      rotate_left
      · (intro W _; go_simp; try with_reducible rfl)
      refine wpAnyH_take (i := 4) (v := ?_) rfl (by kernel_rfl) (by kernel_rfl) (by kernel_rfl) (fun _ _ _ h => h) (Or.inl ⟨by kernel_rfl, ?_⟩) hH ?_
      rotate_left
      · (intro W _; go_simp; try with_reducible rfl)
      refine wpAnyH_take (i := 5) (v := ?_) rfl (by kernel_rfl) (by kernel_rfl) (by kernel_rfl) (fun _ _ _ h => h) (Or.inl ⟨by kernel_rfl, ?_⟩) hH ?_
      rotate_left
      · (intro W _; go_simp; try with_reducible rfl)
      simp (config := { maxSteps := 2000000 }) only [Act.put, List.getElem_toArray, List.getElem_cons_zero, List.getElem_cons_succ, List.setIfInBounds_toArray, List.set_cons_zero, List.set_cons_succ]
      refine wpAnyH_take (i := 6) (v := ?_) rfl (by kernel_rfl) (by kernel_rfl) (by kernel_rfl) (fun _ _ _ h => h) (Or.inl ⟨by kernel_rfl, ?_⟩) hH ?_
      rotate_left
      · (intro W hSw; have k0 := hSw.cell hT0 hTl (fun e => e); have k1 := hSw.cell hT1 hTl (fun e => e); have l1 := HQ.out W _ _ 64 64 (IP.out.fr hSw (Nat.le_refl _) (fun _ _ e => e)); have l2 := HQ.out W _ _ 64 64 (IQ.out.fr hSw (Nat.le_refl _) (fun _ _ e => e)); go_simp; try with_reducible rfl)
      simp (config := { maxSteps := 2000000 }) only [Act.put, List.getElem_toArray, List.getElem_cons_zero, List.getElem_cons_succ, List.setIfInBounds_toArray, List.set_cons_zero, List.set_cons_succ]
      refine wpAnyH_ready (rs := [7]) (by kernel_rfl) (by simp) ?_
      refine AllReadyH.cons rfl (fun K hK => ?_) ?_
      · go_simp
        refine hK.out _ _ ?_ (fun hH => ?_)
        · exact ((Fr.refl (fun _ => False) w7).drew).alloc _
        clear hK K
        have FA : Hid (Fr (fun _ => False) w7 (w7.drew.alloc (.cells (zU 64) 5))) := Lib.hid hH
        have IA := Lib.hid (IZ.out w7.drew)
        refine wpAnyH_mono (S' := Fr (fun _ => False) (w7.drew.alloc (.cells (zU 64) 5))) (fun W h => FA.out.tr h) _ _ _ _ ?_
        clear hH
        have hH := Fr.refl (fun _ => False) (w7.drew.alloc (.cells (zU 64) 5))
        refine wpAnyH_take (i := 8) (v := ?_) rfl (by kernel_rfl) (by kernel_rfl) (by kernel_rfl) (fun _ _ _ h => h) (Or.inl ⟨by kernel_rfl, ?_⟩) hH ?_
        rotate_left
        · (intro W hS3; have hSw := FA.out.tr hS3; have k0 := hSw.cell hT0 hTl (fun e => e); have k1 := hSw.cell hT1 hTl (fun e => e); have l1 := HQ.out W _ _ 64 64 (IP.out.fr hSw (Nat.le_refl _) (fun _ _ e => e)); have l2 := HQ.out W _ _ 64 64 (IQ.out.fr hSw (Nat.le_refl _) (fun _ _ e => e)); have r3 := HQ.out W (w7.heap.size + 1) (some ⟨w7.heap.size, 0, none⟩) 64 64 (IA.out.fr hS3 (by simp) (fun _ _ e => e)); go_simp; try with_reducible rfl)
        refine wpAnyH_take (i := 9) (v := ?_) rfl (by kernel_rfl) (by kernel_rfl) (by kernel_rfl) (fun _ _ _ h => h) (Or.inl ⟨by kernel_rfl, ?_⟩) hH ?_
        rotate_left
        · (intro W _; go_simp; try with_reducible rfl)
        refine wpAnyH_take (i := 10) (v := ?_) rfl (by kernel_rfl) (by kernel_rfl) (by kernel_rfl) (fun _ _ _ h => h) (Or.inl ⟨by kernel_rfl, ?_⟩) hH ?_
        rotate_left
        · (intro W _; go_simp; try with_reducible rfl)
        simp (config := { maxSteps := 2000000 }) only [Act.put, List.getElem_toArray, List.getElem_cons_zero, List.getElem_cons_succ, List.setIfInBounds_toArray, List.set_cons_zero, List.set_cons_succ]
        refine wpAnyH_take (i := 11) (v := ?_) rfl (by kernel_rfl) (by kernel_rfl) (by kernel_rfl) (fun _ _ _ h => h) (Or.inl ⟨by kernel_rfl, ?_⟩) hH ?_
        rotate_left
        · (intro W _; go_simp; try with_reducible rfl)
        refine wpAnyH_take (i := 12) (v := ?_) rfl (by kernel_rfl) (by kernel_rfl) (by kernel_rfl) (fun _ _ _ h => h) (Or.inl ⟨by kernel_rfl, ?_⟩) hH ?_
        rotate_left
        · (intro W _; go_simp; try with_reducible rfl)
        refine wpAnyH_take (i := 13) (v := ?_) rfl (by kernel_rfl) (by kernel_rfl) (by kernel_rfl) (fun _ _ _ h => h) (Or.inl ⟨by kernel_rfl, ?_⟩) hH ?_
        rotate_left
        · (intro W hS3; have hSw := FA.out.tr hS3; have k0 := hSw.cell hT0 hTl (fun e => e); have k1 := hSw.cell hT1 hTl (fun e => e); have l1 := HQ.out W _ _ 64 64 (IP.out.fr hSw (Nat.le_refl _) (fun _ _ e => e)); have l2 := HQ.out W _ _ 64 64 (IQ.out.fr hSw (Nat.le_refl _) (fun _ _ e => e)); have r3 := HQ.out W (w7.heap.size + 1) (some ⟨w7.heap.size, 0, none⟩) 64 64 (IA.out.fr hS3 (by simp) (fun _ _ e => e)); go_simp; try with_reducible rfl)
        simp (config := { maxSteps := 2000000 }) only [Act.put, List.getElem_toArray, List.getElem_cons_zero, List.getElem_cons_succ, List.setIfInBounds_toArray, List.set_cons_zero, List.set_cons_succ]
        refine wpAnyH_ready (rs := [14]) (by kernel_rfl) (by simp) ?_
        refine AllReadyH.cons rfl (fun K hK => ?_) ?_
        · go_simp
          refine hK.out _ _ ?_ (fun hH => ?_)
          · exact hH.alloc _
          clear hK K
          have FB : Hid (Fr (fun _ => False) w7 ((w7.drew.alloc (.cells (zU 64) 5)).alloc (.cells (zU 64) 5))) := Lib.hid (FA.out.tr hH)
          have IB : Hid (IntsAt .u8 ((w7.drew.alloc (.cells (zU 64) 5)).alloc (.cells (zU 64) 5)) (w7.heap.size + 2) (some ⟨w7.heap.size + 1, 0, none⟩) 64 (lst (fun _ => 0) 64)) := Lib.hid (by have := IZ.out (w7.drew.alloc (.cells (zU 64) 5)); simpa using this)
          refine wpAnyH_mono (S' := Fr (fun _ => False) ((w7.drew.alloc (.cells (zU 64) 5)).alloc (.cells (zU 64) 5))) (fun W h => ((Fr.refl (fun _ => False) _).alloc _).tr h) _ _ _ _ ?_
          clear hH
          have hH := Fr.refl (fun _ => False) ((w7.drew.alloc (.cells (zU 64) 5)).alloc (.cells (zU 64) 5))
          refine wpAnyH_take (i := 15) (v := ?_) rfl (by kernel_rfl) (by kernel_rfl) (by kernel_rfl) (fun _ _ _ h => h) (Or.inl ⟨by kernel_rfl, ?_⟩) hH ?_
          rotate_left
          · (intro W hS4; have hSw := FB.out.tr hS4; have k0 := hSw.cell hT0 hTl (fun e => e); have k1 := hSw.cell hT1 hTl (fun e => e); have l1 := HQ.out W _ _ 64 64 (IP.out.fr hSw (Nat.le_refl _) (fun _ _ e => e)); have l2 := HQ.out W _ _ 64 64 (IQ.out.fr hSw (Nat.le_refl _) (fun _ _ e => e)); have r4 := HQ.out W (w7.heap.size + 2) (some ⟨w7.heap.size + 1, 0, none⟩) 64 64 (IB.out.fr hS4 (by simp) (fun _ _ e => e)); go_simp; try with_reducible rfl)
          refine wpAnyH_take (i := 16) (v := ?_) rfl (by kernel_rfl) (by kernel_rfl) (by kernel_rfl) (fun _ _ _ h => h) (Or.inl ⟨by kernel_rfl, ?_⟩) hH ?_
          rotate_left
          · (intro W _; go_simp; try with_reducible rfl)
          refine wpAnyH_take (i := 17) (v := ?_) rfl (by kernel_rfl) (by kernel_rfl) (by kernel_rfl) (fun _ _ _ h => h) (Or.inl ⟨by kernel_rfl, ?_⟩) hH ?_
          rotate_left
          · (intro W _; go_simp; try with_reducible rfl)
          simp (config := { maxSteps := 2000000 }) only [Act.put, List.getElem_toArray, List.getElem_cons_zero, List.getElem_cons_succ, List.setIfInBounds_toArray, List.set_cons_zero, List.set_cons_succ]
          refine wpAnyH_take (i := 18) (v := ?_) rfl (by kernel_rfl) (by kernel_rfl) (by kernel_rfl) (fun _ _ _ h => h) (Or.inl ⟨by kernel_rfl, ?_⟩) hH ?_
          rotate_left
          · (intro W _; go_simp; try with_reducible rfl)
          simp (config := { maxSteps := 2000000 }) only [Act.put, List.getElem_toArray, List.getElem_cons_zero, List.getElem_cons_succ, List.setIfInBounds_toArray, List.set_cons_zero, List.set_cons_succ]
          refine wpAnyH_ready (rs := [19]) (by kernel_rfl) (by simp) ?_
          refine AllReadyH.cons rfl (fun K hK => ?_) ?_
          · go_simp
            go_wp2_with (refine (Hk.out _).mono ?_; rintro e w8 ⟨rfl, f8⟩)
            refine hK.out _ _ ?_ (fun hH => ?_)
            · exact hH.tr f8
            clear hK K
            refine wpAnyH_take (i := 20) (v := ?_) rfl (by kernel_rfl) (by kernel_rfl) (by kernel_rfl) (fun _ _ _ h => h) (Or.inl ⟨by kernel_rfl, ?_⟩) hH ?_
            rotate_left
            · (intro W _; go_simp; try with_reducible rfl)
            refine wpAnyH_take (i := 21) (v := ?_) rfl (by kernel_rfl) (by kernel_rfl) (by kernel_rfl) (fun _ _ _ h => h) (Or.inl ⟨by kernel_rfl, ?_⟩) hH ?_
            rotate_left
            · (intro W _; go_simp; try with_reducible rfl)
            refine wpAnyH_done (by kernel_rfl) ?_ _
            go_wp2_with fail
            go_ret
            exact ⟨rfl, F7.out.tr (FB.out.tr hH)⟩
          exact AllReadyH.nil
        exact AllReadyH.nil
      exact AllReadyH.nil
    · obtain rfl : tc = 0 := HTC.out
      obtain rfl : ta = 0 := HTA.out
      have LO := Lib.hid (HLO2.out rfl)
      have HI := Lib.hid (HHI.out rfl)
      clear HNO HLO2 HHI
      go_wp2_with fail
      refine (hA1.out).mono ?_
      rintro e w' ⟨rfl, rfl⟩
      go_wp2_with fail
      refine (hB1.out).mono ?_
      rintro e w' ⟨rfl, rfl⟩
      have Hk := Lib.hid (known10 w7)
      clear hA1 hB1
      rcases (by omega : va = 61 ∨ va = 62 ∨ va = 63) with rfl | rfl | rfl
      · have HVA := Lib.hid hva
        clear hva va0 va1 HTC HTA
        go_wp2_with fail
        go_loopw [24] (fun i wr => ∃ k : Nat, k ≤ 4 ∧ i = .int .i64 k ∧ w7 = wr) (fun i _ => 4 - (intOf i).toNat)
        case atStart => exact ⟨0, by omega, rfl, rfl⟩
        case round =>
          obtain ⟨k, hk, rfl, hw⟩ := hrel
          subst hw
          rcases (by omega : k = 0 ∨ k = 1 ∨ k = 2 ∨ k = 3 ∨ k = 4) with rfl | rfl | rfl | rfl | rfl
          · have h0 := LO.out 0 (by omega)
            have h1 : w7.cell? ⟨gp, 61, none⟩ = some (.int .u8 (U.m.mem (192 + ((61 : Int).toNat + 0)))) := hcP.out.cell 61 (by omega)
            rw [h0] at h1
            have h2 : v / 256 ^ 0 % 256 = v % 256 := by omega
            have h3 : IntKind.u8.wrap v = v % 256 := IntKind.wrap_u8 _
            rw [h2] at h1
            clear h0 h2
            generalize v % 256 = cv at *
            go_wp2_with fail
            go_roundw
            case rel => exact ⟨1, by omega, by go_num, trivial⟩
            case measure => simp [intOf]
          · have h0 := LO.out 1 (by omega)
            have h1 : w7.cell? ⟨gp, 62, none⟩ = some (.int .u8 (U.m.mem (192 + ((61 : Int).toNat + 1)))) := hcP.out.cell 62 (by omega)
            rw [h0] at h1
            have h2 : v / 256 ^ 1 % 256 = v / 256 % 256 := by omega
            have h3 : IntKind.u8.wrap (v / 256) = v / 256 % 256 := IntKind.wrap_u8 _
            rw [h2] at h1
            clear h0 h2
            generalize v / 256 % 256 = cv at *
            go_wp2_with fail
            go_roundw
            case rel => exact ⟨2, by omega, by go_num, trivial⟩
            case measure => simp [intOf]
          · have h0 := LO.out 2 (by omega)
            have h1 : w7.cell? ⟨gp, 63, none⟩ = some (.int .u8 (U.m.mem (192 + ((61 : Int).toNat + 2)))) := hcP.out.cell 63 (by omega)
            rw [h0] at h1
            have h2 : v / 256 ^ 2 % 256 = v / 65536 % 256 := by omega
            have h3 : IntKind.u8.wrap (v / 65536) = v / 65536 % 256 := IntKind.wrap_u8 _
            rw [h2] at h1
            clear h0 h2
            generalize v / 65536 % 256 = cv at *
            go_wp2_with fail
            go_roundw
            case rel => exact ⟨3, by omega, by go_num, trivial⟩
            case measure => simp [intOf]
          · have h0 := HI.out 3 (by omega) (by omega)
            have h1 : w7.cell? ⟨gq, 0, none⟩ = some (.int .u8 (U.m.mem (384 + (3 - (64 - 61 : Int).toNat)))) := hcQ.out.cell 0 (by omega)
            rw [h0] at h1
            have h2 : v / 256 ^ 3 % 256 = v / 16777216 % 256 := by omega
            have h3 : IntKind.u8.wrap (v / 16777216) = v / 16777216 % 256 := IntKind.wrap_u8 _
            rw [h2] at h1
            clear h0 h2
            generalize v / 16777216 % 256 = cv at *
            go_wp2_with fail
            go_roundw
            case rel => exact ⟨4, by omega, by go_num, trivial⟩
            case measure => simp [intOf]
          · go_wp2_with fail
            refine (Hk.out).mono ?_
            rintro e w8 ⟨rfl, f8⟩
            have F8 := F7.out.tr f8
            go_wp2_with fail
            go_ret
            exact ⟨rfl, F8⟩
      · have HVA := Lib.hid hva
        clear hva va0 va1 HTC HTA
        go_wp2_with fail
        go_loopw [24] (fun i wr => ∃ k : Nat, k ≤ 4 ∧ i = .int .i64 k ∧ w7 = wr) (fun i _ => 4 - (intOf i).toNat)
        case atStart => exact ⟨0, by omega, rfl, rfl⟩
        case round =>
          obtain ⟨k, hk, rfl, hw⟩ := hrel
          subst hw
          rcases (by omega : k = 0 ∨ k = 1 ∨ k = 2 ∨ k = 3 ∨ k = 4) with rfl | rfl | rfl | rfl | rfl
          · have h0 := LO.out 0 (by omega)
            have h1 : w7.cell? ⟨gp, 62, none⟩ = some (.int .u8 (U.m.mem (192 + ((62 : Int).toNat + 0)))) := hcP.out.cell 62 (by omega)
            rw [h0] at h1
            have h2 : v / 256 ^ 0 % 256 = v % 256 := by omega
            have h3 : IntKind.u8.wrap v = v % 256 := IntKind.wrap_u8 _
            rw [h2] at h1
            clear h0 h2
            generalize v % 256 = cv at *
            go_wp2_with fail
            go_roundw
            case rel => exact ⟨1, by omega, by go_num, trivial⟩
            case measure => simp [intOf]
          · have h0 := LO.out 1 (by omega)
            have h1 : w7.cell? ⟨gp, 63, none⟩ = some (.int .u8 (U.m.mem (192 + ((62 : Int).toNat + 1)))) := hcP.out.cell 63 (by omega)
            rw [h0] at h1
            have h2 : v / 256 ^ 1 % 256 = v / 256 % 256 := by omega
            have h3 : IntKind.u8.wrap (v / 256) = v / 256 % 256 := IntKind.wrap_u8 _
            rw [h2] at h1
            clear h0 h2
            generalize v / 256 % 256 = cv at *
            go_wp2_with fail
            go_roundw
            case rel => exact ⟨2, by omega, by go_num, trivial⟩
            case measure => simp [intOf]
          · have h0 := HI.out 2 (by omega) (by omega)
            have h1 : w7.cell? ⟨gq, 0, none⟩ = some (.int .u8 (U.m.mem (384 + (2 - (64 - 62 : Int).toNat)))) := hcQ.out.cell 0 (by omega)
            rw [h0] at h1
            have h2 : v / 256 ^ 2 % 256 = v / 65536 % 256 := by omega
            have h3 : IntKind.u8.wrap (v / 65536) = v / 65536 % 256 := IntKind.wrap_u8 _
            rw [h2] at h1
            clear h0 h2
            generalize v / 65536 % 256 = cv at *
            go_wp2_with fail
            go_roundw
            case rel => exact ⟨3, by omega, by go_num, trivial⟩
            case measure => simp [intOf]
          · have h0 := HI.out 3 (by omega) (by omega)
            have h1 : w7.cell? ⟨gq, 1, none⟩ = some (.int .u8 (U.m.mem (384 + (3 - (64 - 62 : Int).toNat)))) := hcQ.out.cell 1 (by omega)
            rw [h0] at h1
            have h2 : v / 256 ^ 3 % 256 = v / 16777216 % 256 := by omega
            have h3 : IntKind.u8.wrap (v / 16777216) = v / 16777216 % 256 := IntKind.wrap_u8 _
            rw [h2] at h1
            clear h0 h2
            generalize v / 16777216 % 256 = cv at *
            go_wp2_with fail
            go_roundw
            case rel => exact ⟨4, by omega, by go_num, trivial⟩
            case measure => simp [intOf]
          · go_wp2_with fail
            refine (Hk.out).mono ?_
            rintro e w8 ⟨rfl, f8⟩
            have F8 := F7.out.tr f8
            go_wp2_with fail
            go_ret
            exact ⟨rfl, F8⟩
      · have HVA := Lib.hid hva
        clear hva va0 va1 HTC HTA
        go_wp2_with fail
        go_loopw [24] (fun i wr => ∃ k : Nat, k ≤ 4 ∧ i = .int .i64 k ∧ w7 = wr) (fun i _ => 4 - (intOf i).toNat)
        case atStart => exact ⟨0, by omega, rfl, rfl⟩
        case round =>
          obtain ⟨k, hk, rfl, hw⟩ := hrel
          subst hw
          rcases (by omega : k = 0 ∨ k = 1 ∨ k = 2 ∨ k = 3 ∨ k = 4) with rfl | rfl | rfl | rfl | rfl
          · have h0 := LO.out 0 (by omega)
            have h1 : w7.cell? ⟨gp, 63, none⟩ = some (.int .u8 (U.m.mem (192 + ((63 : Int).toNat + 0)))) := hcP.out.cell 63 (by omega)
            rw [h0] at h1
            have h2 : v / 256 ^ 0 % 256 = v % 256 := by omega
            have h3 : IntKind.u8.wrap v = v % 256 := IntKind.wrap_u8 _
            rw [h2] at h1
            clear h0 h2
            generalize v % 256 = cv at *
            go_wp2_with fail
            go_roundw
            case rel => exact ⟨1, by omega, by go_num, trivial⟩
            case measure => simp [intOf]
          · have h0 := HI.out 1 (by omega) (by omega)
            have h1 : w7.cell? ⟨gq, 0, none⟩ = some (.int .u8 (U.m.mem (384 + (1 - (64 - 63 : Int).toNat)))) := hcQ.out.cell 0 (by omega)
            rw [h0] at h1
            have h2 : v / 256 ^ 1 % 256 = v / 256 % 256 := by omega
            have h3 : IntKind.u8.wrap (v / 256) = v / 256 % 256 := IntKind.wrap_u8 _
            rw [h2] at h1
            clear h0 h2
            generalize v / 256 % 256 = cv at *
            go_wp2_with fail
            go_roundw
            case rel => exact ⟨2, by omega, by go_num, trivial⟩
            case measure => simp [intOf]
          · have h0 := HI.out 2 (by omega) (by omega)
            have h1 : w7.cell? ⟨gq, 1, none⟩ = some (.int .u8 (U.m.mem (384 + (2 - (64 - 63 : Int).toNat)))) := hcQ.out.cell 1 (by omega)
            rw [h0] at h1
            have h2 : v / 256 ^ 2 % 256 = v / 65536 % 256 := by omega
            have h3 : IntKind.u8.wrap (v / 65536) = v / 65536 % 256 := IntKind.wrap_u8 _
            rw [h2] at h1
            clear h0 h2
            generalize v / 65536 % 256 = cv at *
            go_wp2_with fail
            go_roundw
            case rel => exact ⟨3, by omega, by go_num, trivial⟩
            case measure => simp [intOf]
          · have h0 := HI.out 3 (by omega) (by omega)
            have h1 : w7.cell? ⟨gq, 2, none⟩ = some (.int .u8 (U.m.mem (384 + (3 - (64 - 63 : Int).toNat)))) := hcQ.out.cell 2 (by omega)
            rw [h0] at h1
            have h2 : v / 256 ^ 3 % 256 = v / 16777216 % 256 := by omega
            have h3 : IntKind.u8.wrap (v / 16777216) = v / 16777216 % 256 := IntKind.wrap_u8 _
            rw [h2] at h1
            clear h0 h2
            generalize v / 16777216 % 256 = cv at *
            go_wp2_with fail
            go_roundw
            case rel => exact ⟨4, by omega, by go_num, trivial⟩
            case measure => simp [intOf]
          · go_wp2_with fail
            refine (Hk.out).mono ?_
            rintro e w8 ⟨rfl, f8⟩
            have F8 := F7.out.tr f8
            go_wp2_with fail
            go_ret
            exact ⟨rfl, F8⟩
end Go.Proofs.Ythiephlfhbkcbaa.mmuSplits
