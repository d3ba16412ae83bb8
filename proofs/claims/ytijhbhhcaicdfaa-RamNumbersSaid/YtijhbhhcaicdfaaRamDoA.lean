/- A memory and what is told of it beside it: plain laws for one call (innkeeperlaw7.do). -/
import Derived.Test.YtijhbhhcaicdfaaRamLaws
import Derived.Deep.QuietTactic
import Derived.BigQuiet
import Derived.Deep.RegionWith
import Derived.Deep.RegionHeld
import Derived.Lib.EndianBits
import Derived.Test.YtijhbhhcaicdfaaSlices
import Derived.Test.YtijhbhhcaicdfaaCopy
namespace Go.Proofs.Ytijhbhhcaicdfaa.Rm
open Go.RowKit Fm Nt By
set_option linter.unusedVariables false
set_option maxHeartbeats 8000000

/-- a memory, the bytes told beside it, the pages told as written -/
structure DS (w : World) (a : Am) (gb gt n : Nat) (m : Ms) : Prop where
  M : Mem w a m
  hn : m.n = n
  cb : Cells w gb 5 (n * 64) (fun k => .int .u8 (m.mem k))
  ct : Cells w gt 4 n (fun k => .bool (m.tu k))
  tu : ∀ k, n ≤ k → k < 64 → m.tu k = false
theorem wrd_join (m : Ms) (j : Nat) (h : ∀ i, i < 4 → 0 ≤ m.mem (j + i) ∧ m.mem (j + i) < 256) :
    (wrd m j 4 == bits BinOp.or IntKind.u32 (bits BinOp.or IntKind.u32 (bits BinOp.or IntKind.u32 (m.mem j % 4294967296) (m.mem (j + 1) % 4294967296 * 256 % 4294967296)) (m.mem (j + 2) % 4294967296 * 65536 % 4294967296)) (m.mem (j + 3) % 4294967296 * 16777216 % 4294967296)) = true := by
  have h0 := h 0 (by omega)
  have h1 := h 1 (by omega)
  have h2 := h 2 (by omega)
  have h3 := h 3 (by omega)
  show (((((0 * 256 + m.mem (j + 3)) * 256 + m.mem (j + 2)) * 256 + m.mem (j + 1)) * 256 + m.mem (j + 0)) == _) = true
  rw [Nat.add_zero] at h0 ⊢
  generalize m.mem j = b0 at *
  generalize m.mem (j + 1) = b1 at *
  generalize m.mem (j + 2) = b2 at *
  generalize m.mem (j + 3) = b3 at *
  rw [bits_join_low .u32 32 (by decide) wraps_u32 8 (b0 % 4294967296) (b1 % 4294967296 * 256 % 4294967296) (by omega) (by omega) (by omega) (by omega) (by omega) (by omega)]
  rw [bits_join_low .u32 32 (by decide) wraps_u32 16 _ (b2 % 4294967296 * 65536 % 4294967296) (by omega) (by omega) (by omega) (by omega) (by omega) (by omega)]
  rw [bits_join_low .u32 32 (by decide) wraps_u32 24 _ (b3 % 4294967296 * 16777216 % 4294967296) (by omega) (by omega) (by omega) (by omega) (by omega) (by omega)]
  rw [beq_iff_eq]
  omega
section
variable {w w' : World} {a : Am} {gb gt n : Nat} {m : Ms}
theorem DS.fr0 (h : DS w a gb gt n m) (f : Fr (fun _ => False) w w') : DS w' a gb gt n m :=
  ⟨h.M.fr0 f, h.hn, h.cb.fr f (fun e => e), h.ct.fr f (fun e => e), h.tu⟩
/-- a byte is written, and told -/
theorem DS.put {j : Nat} {b : Int} (hM : Mem w a (m.put j b)) (hn : m.n = n) (hj : j < n * 64) (cb : Cells w gb 5 (n * 64) (fun k => .int .u8 (m.mem k))) (ct : Cells w gt 4 n (fun k => .bool (m.tu k))) (htu : ∀ k, n ≤ k → k < 64 → m.tu k = false) (hgb : ¬ a.own gb) (hgt : ¬ a.own gt) (hbt : gb ≠ gt) :
    DS ((w.setCell ⟨gb, j, none⟩ (.int .u8 b)).setCell ⟨gt, j / 64, none⟩ (.bool true)) a gb gt n (m.put j b) := by
  have f1 := Fr.set1 w gb j (.int .u8 b)
  have f2 := Fr.set1 (w.setCell ⟨gb, j, none⟩ (.int .u8 b)) gt (j / 64) (.bool true)
  refine ⟨(hM.fr f1 (fun k hk e => hgb (e ▸ hk))).fr f2 (fun k hk e => hgt (e ▸ hk)), hn, ?_, ?_, fun k h1 h2 => ?_⟩
  · refine Cells.congr ((Cells.set_ cb j _).fr f2 (fun e => hbt e)) fun i hi => ?_
    show putV _ _ _ _ = Value.int .u8 (updI m.mem j b i)
    unfold putV updI
    split <;> rfl
  · refine Cells.congr (Cells.set_ (ct.fr f1 (fun e => hbt e.symm)) (j / 64) _) fun i hi => ?_
    show putV _ _ _ _ = Value.bool (updB m.tu (j / 64) true i)
    unfold putV updB
    split <;> rfl
  · show updB m.tu (j / 64) true k = false
    unfold updB
    rw [if_neg (by omega)]
    exact htu k h1 h2
end
/-- the bytes told, the pages told -/
structure DB (w : World) (gb gt n : Nat) (mem : Nat → Int) (tu : Nat → Bool) : Prop where
  cb : Cells w gb 5 (n * 64) (fun k => .int .u8 (mem k))
  ct : Cells w gt 4 n (fun k => .bool (tu k))
section
variable {w w' : World} {a : Am} {gb gt n : Nat} {m : Ms} {mem : Nat → Int} {tu : Nat → Bool}
theorem DB.put (h : DB w gb gt n mem tu) (hbt : gb ≠ gt) (j : Nat) (b : Int) : DB ((w.setCell ⟨gb, j, none⟩ (.int .u8 b)).setCell ⟨gt, j / 64, none⟩ (.bool true)) gb gt n (updI mem j b) (updB tu (j / 64) true) := by
  have f1 := Fr.set1 w gb j (.int .u8 b)
  have f2 := Fr.set1 (w.setCell ⟨gb, j, none⟩ (.int .u8 b)) gt (j / 64) (.bool true)
  refine ⟨?_, ?_⟩
  · refine Cells.congr ((Cells.set_ h.cb j _).fr f2 (fun e => hbt e)) fun i hi => ?_
    unfold putV updI
    split <;> rfl
  · refine Cells.congr (Cells.set_ (h.ct.fr f1 (fun e => hbt e.symm)) (j / 64) _) fun i hi => ?_
    unfold putV updB
    split <;> rfl
theorem DB.fr {S : Nat → Prop} (h : DB w gb gt n mem tu) (f : Fr S w w') (h1 : ¬ S gb) (h2 : ¬ S gt) : DB w' gb gt n mem tu := ⟨h.cb.fr f h1, h.ct.fr f h2⟩
theorem DB.to (h : DB w gb gt n m.mem m.tu) (hM : Mem w a m) (hn : m.n = n) (ht : ∀ k, n ≤ k → k < 64 → m.tu k = false) : DS w a gb gt n m := ⟨hM, hn, h.cb, h.ct, ht⟩
/-- no page behind the last is written -/
theorem puts_out (zs : List Int) (i r : Nat) (hir : i + r ≤ n * 64) (ht : ∀ k, n ≤ k → k < 64 → m.tu k = false) : ∀ k, n ≤ k → k < 64 → (m.puts i zs r).tu k = false := by
  intro k h1 h2
  rw [puts_tu, ht k h1 h2, Bool.false_or]
  unfold hits
  exact decide_eq_false (by rintro ⟨j, h3, h4⟩; omega)
theorem hits_page (p k : Nat) : hits (p * 64) 64 k = decide (k = p) := by
  unfold hits
  refine decide_eq_decide.2 ⟨?_, ?_⟩
  · rintro ⟨j, h1, h2⟩; omega
  · rintro rfl; exact ⟨0, by omega, by omega⟩
/-- a row of bytes is copied to a place -/
theorem DB.row {z : List Int} {i r : Nat} (hz : z.length = r) (hc : Cells w gb 5 (n * 64) (putR (fun k => .int .u8 (m.mem k)) i (z.map (Value.int .u8)))) : Cells w gb 5 (n * 64) (fun k => .int .u8 ((m.puts i z r).mem k)) := by
  refine Cells.congr hc fun k hk => ?_
  unfold putR
  rw [List.length_map, hz, puts_mem]
  by_cases h : i ≤ k ∧ k < i + r
  · rw [if_pos h, if_pos h]
    have : k - i < z.length := by omega
    simp [List.getD_eq_getElem?_getD, this]
  · rw [if_neg h, if_neg h]
theorem set_tu (h : Cells w gt 4 n (fun k => .bool (tu k))) (j : Nat) (b : Bool) : Cells (w.setCell ⟨gt, j, none⟩ (.bool b)) gt 4 n (fun k => .bool (updB tu j b k)) :=
  Cells.congr (Cells.set_ h j _) (fun i hi => by unfold putV updB; split <;> rfl)
/-- where s[i*64:] begins -/
theorem run_from (gb N p : Nat) (hp : p * 64 < N) (W : World) : (Instr.slice 29 (.slice (some ⟨gb, 0, none⟩) N N) (some (.int .i64 ((p : Int) * 64))) none none).run Try.prog W = .ok (.slice (some ⟨gb, p * 64, none⟩) (N - p * 64) (N - p * 64)) W := by
  have := run_sl_l (some ⟨gb, 0, none⟩) N N (p * 64) (by omega) W
  rw [show ((p * 64 : Nat) : Int) = (p : Int) * 64 by omega] at this
  rw [this, cutA, if_neg (by omega)]
  simp [Addr.add]
  intro h; omega
theorem run_page (gb N p : Nat) (hp : p * 64 + 64 ≤ N) (W : World) : (Instr.slice 29 (.slice (some ⟨gb, 0, none⟩) N N) (some (.int .i64 ((p : Int) * 64))) (some (.int .i64 (((p : Int) + 1) * 64))) none).run Try.prog W = .ok (.slice (some ⟨gb, p * 64, none⟩) 64 (N - p * 64)) W := by
  have := run_sl_lh (some ⟨gb, 0, none⟩) N N (p * 64) (p * 64 + 64) (by omega) (by omega) W
  rw [show ((p * 64 : Nat) : Int) = (p : Int) * 64 by omega, show ((p * 64 + 64 : Nat) : Int) = ((p : Int) + 1) * 64 by omega] at this
  rw [this, cutA, if_neg (by omega), show p * 64 + 64 - p * 64 = 64 by omega]
  simp [Addr.add]
  intro h; omega
end
end Go.Proofs.Ytijhbhhcaicdfaa.Rm
