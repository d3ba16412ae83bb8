/- The document's walk (innkeeperref8.Look, Do), and a walk of no kind. -/
import Derived.Test.YtijhbhhcaicdfaaWalkL
import Derived.Test.YtijhbhhcaicdfaaRef8
import Derived.Deep.QuietTactic
import Derived.BigQuiet
namespace Go.Proofs.Ytijhbhhcaicdfaa.Wk
open Go.RowKit Fm Nt Rm By Rf
set_option linter.unusedVariables false
set_option maxHeartbeats 8000000

theorem rfault_any (w : World) (k : Int) : Calls Try.prog 13 #[.int .i64 k] w fun e w' => e = .returned (.int .i64 (flt k)) ∧ w = w' := by
  by_cases h1 : k = 1 ∨ k = 2 ∨ k = 3
  · rcases h1 with rfl | rfl | rfl
    all_goals
      go_enter Try.func13, Try.ntmps13
      go_wp2_with fail
      go_ret
      exact ⟨rfl, rfl⟩
  · have e : flt k = 0 := by rw [flt, if_neg (by omega), if_neg (by omega), if_neg (by omega)]
    rw [e]
    by_cases h2 : 1 ≤ k
    · have h3 : ¬ k ≤ 3 := by omega
      clear e h1
      go_enter Try.func13, Try.ntmps13
      go_wp2_with fail
      go_ret
      exact ⟨rfl, rfl⟩
    · clear e h1
      go_enter Try.func13, Try.ntmps13
      go_wp2_with fail
      go_ret
      exact ⟨rfl, rfl⟩
theorem rbits_any (w : World) (k : Int) (s : Bool) (hk : k = 1 ∨ k = 2 ∨ k = 3) : Calls Try.prog 15 #[.int .i64 k, .bool s] w fun e w' => e = .returned (.int .u32 (ask k s)) ∧ w = w' := by
  have o1 : bits .or .u32 1 8 = 9 := by decide
  have o2 : bits .or .u32 1 2 = 3 := by decide
  have o3 : bits .or .u32 1 4 = 5 := by decide
  have o4 : bits .or .u32 9 16 = 25 := by decide
  have o5 : bits .or .u32 3 16 = 19 := by decide
  have o6 : bits .or .u32 5 16 = 21 := by decide
  rcases hk with rfl | rfl | rfl <;> cases s
  all_goals
    go_enter Try.func15, Try.ntmps15
    go_wp2_with fail
    go_ret
    exact ⟨rfl, rfl⟩
theorem has4_any (w : World) (gM gb gt : Nat) (m : Ms) (h : RM w gM gb gt m.n m.mem m.tu) (hn : m.n ≤ 64) (at_ : Int) (h0 : 0 ≤ at_) (h1 : at_ ≤ 1099511627776) :
    Calls Try.prog 51 #[.pointer (some ⟨gM, 0, none⟩), .int .u64 at_, .int .i64 4] w fun e w' => e = .returned (.bool (inB m at_ 4)) ∧ w = w' := by
  have c0 := h.b.cell 0
  simp only [List.getElem?_toArray, List.getElem?_cons_zero] at c0
  have hN : ((m.n * 64 : Nat) : Int) = (m.n : Int) * 64 := by omega
  unfold inB
  rw [← hN]
  generalize hNN : m.n * 64 = NN at *
  have hNb : NN ≤ 4096 := by omega
  clear hN
  go_enter Try.func51, Try.ntmps51
  go_wp2_with fail
  go_ret
  exact ⟨rfl, rfl⟩
theorem wrd_or (m : Ms) (j : Nat) (h : ∀ i, i < 4 → 0 ≤ m.mem (j + i) ∧ m.mem (j + i) < 256) :
    bits BinOp.or IntKind.u32 (bits BinOp.or IntKind.u32 (bits BinOp.or IntKind.u32 (m.mem j % 4294967296) (m.mem (j + 1) % 4294967296 * 256 % 4294967296)) (m.mem (j + 2) % 4294967296 * 65536 % 4294967296)) (m.mem (j + 3) % 4294967296 * 16777216 % 4294967296) = wrd m j 4 := by
  have h0 := h 0 (by omega)
  have h1 := h 1 (by omega)
  have h2 := h 2 (by omega)
  have h3 := h 3 (by omega)
  rw [wrd_bytes]
  rw [Nat.add_zero] at h0
  generalize m.mem j = b0 at *
  generalize m.mem (j + 1) = b1 at *
  generalize m.mem (j + 2) = b2 at *
  generalize m.mem (j + 3) = b3 at *
  rw [bits_join_low .u32 32 (by decide) wraps_u32 8 (b0 % 4294967296) (b1 % 4294967296 * 256 % 4294967296) (by omega) (by omega) (by omega) (by omega) (by omega) (by omega)]
  rw [bits_join_low .u32 32 (by decide) wraps_u32 16 _ (b2 % 4294967296 * 65536 % 4294967296) (by omega) (by omega) (by omega) (by omega) (by omega) (by omega)]
  rw [bits_join_low .u32 32 (by decide) wraps_u32 24 _ (b3 % 4294967296 * 16777216 % 4294967296) (by omega) (by omega) (by omega) (by omega) (by omega) (by omega)]
  omega
set_option maxRecDepth 100000 in
theorem rword_any (w : World) (gM gb gt : Nat) (m : Ms) (h : RM w gM gb gt m.n m.mem m.tu) (hn : m.n ≤ 64) (hbd : ∀ i, i < m.n * 64 → 0 ≤ m.mem i ∧ m.mem i < 256) (Q : Int) (q0 : 0 ≤ Q) (hQ : inB m Q 4 = true) :
    Calls Try.prog 52 #[.pointer (some ⟨gM, 0, none⟩), .int .u64 Q] w fun e w' => e = .returned (.int .u32 (wrdV m Q)) ∧ Fr (fun _ => False) w w' := by
  obtain ⟨j, rfl⟩ : ∃ j : Nat, Q = j := ⟨Q.toNat, by omega⟩
  rw [wrdV, hQ, if_pos rfl, show ((j : Int)).toNat = j from rfl]
  have hin : (j : Int) + 4 ≤ (m.n : Int) * 64 := by simpa [inB] using hQ
  have c0 := h.b.cell 0
  simp only [List.getElem?_toArray, List.getElem?_cons_zero] at c0
  have d0 := h.cb.cell j (by omega)
  have d1 := h.cb.cell (j + 1) (by omega)
  have d2 := h.cb.cell (j + 2) (by omega)
  have d3 := h.cb.cell (j + 3) (by omega)
  have s1 : IntKind.u64.wrap ((j : Int) + 1) = ((j + 1 : Nat) : Int) := by rw [IntWalk.u64_in _ (by omega)]; omega
  have s2 : IntKind.u64.wrap ((j : Int) + 2) = ((j + 2 : Nat) : Int) := by rw [IntWalk.u64_in _ (by omega)]; omega
  have s3 : IntKind.u64.wrap ((j : Int) + 3) = ((j + 3 : Nat) : Int) := by rw [IntWalk.u64_in _ (by omega)]; omega
  have HO := Lib.hid (wrd_or m j (fun i hi => hbd (j + i) (by omega)))
  generalize hNN : m.n * 64 = NN at *
  have q1 : (j : Int) < (NN : Int) := by omega
  have q2 : (j : Int) ≤ (NN : Int) - 4 := by omega
  clear h
  go_enter Try.func52, Try.ntmps52
  go_wp2_with fail
  go_quiet (fail)
  go_wp2_with fail
  rw [HO.out]
  go_ret
  exact ⟨rfl, (Fr.refl _ w).drewN _⟩
end Go.Proofs.Ytijhbhhcaicdfaa.Wk
