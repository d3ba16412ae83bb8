/- WalkR, WalkS, WalkQ, MmuOk, MmuD, MmuE, in one text. -/
import Derived.Test.YthiephlfhbkcbaaWalkL
import Derived.Test.YthiephlfhbkcbaaRef8
import Derived.Deep.QuietTactic
import Derived.BigQuiet
import Derived.Test.YthiephlfhbkcbaaMmuS
import Derived.Test.YthiephlfhbkcbaaMmuB
import Derived.StillTailTactics
import Derived.Deep.Cut
import Derived.RegionTactic
import Derived.Test.YthiephlfhbkcbaaSame64
namespace Go.Proofs.Ythiephlfhbkcbaa.Wk
open Go.RowKit Fm Nt Rm By Rf
set_option linter.unusedVariables false
set_option maxHeartbeats 8000000

theorem rfault_any (w : World) (k : Int) : Calls Try.prog 115 #[.int .i64 k] w fun e w' => e = .returned (.int .i64 (flt k)) ∧ w = w' := by
  by_cases h1 : k = 1 ∨ k = 2 ∨ k = 3
  · rcases h1 with rfl | rfl | rfl
    all_goals
      go_enter Try.func115, Try.ntmps115
      go_wp2_with fail
      go_ret
      exact ⟨rfl, rfl⟩
  · have e : flt k = 0 := by rw [flt, if_neg (by omega), if_neg (by omega), if_neg (by omega)]
    rw [e]
    by_cases h2 : 1 ≤ k
    · have h3 : ¬ k ≤ 3 := by omega
      clear e h1
      go_enter Try.func115, Try.ntmps115
      go_wp2_with fail
      go_ret
      exact ⟨rfl, rfl⟩
    · clear e h1
      go_enter Try.func115, Try.ntmps115
      go_wp2_with fail
      go_ret
      exact ⟨rfl, rfl⟩
theorem rbits_any (w : World) (k : Int) (s : Bool) (hk : k = 1 ∨ k = 2 ∨ k = 3) : Calls Try.prog 114 #[.int .i64 k, .bool s] w fun e w' => e = .returned (.int .u32 (ask k s)) ∧ w = w' := by
  have o1 : bits .or .u32 1 8 = 9 := by decide
  have o2 : bits .or .u32 1 2 = 3 := by decide
  have o3 : bits .or .u32 1 4 = 5 := by decide
  have o4 : bits .or .u32 9 16 = 25 := by decide
  have o5 : bits .or .u32 3 16 = 19 := by decide
  have o6 : bits .or .u32 5 16 = 21 := by decide
  rcases hk with rfl | rfl | rfl <;> cases s
  all_goals
    go_enter Try.func114, Try.ntmps114
    go_wp2_with fail
    go_ret
    exact ⟨rfl, rfl⟩
theorem has4_any (w : World) (gM gb gt : Nat) (m : Ms) (h : RM w gM gb gt m.n m.mem m.tu) (hn : m.n ≤ 64) (at_ : Int) (h0 : 0 ≤ at_) (h1 : at_ ≤ 1099511627776) :
    Calls Try.prog 101 #[.pointer (some ⟨gM, 0, none⟩), .int .u64 at_, .int .i64 4] w fun e w' => e = .returned (.bool (inB m at_ 4)) ∧ w = w' := by
  have c0 := h.b.cell 0
  simp only [List.getElem?_toArray, List.getElem?_cons_zero] at c0
  have hN : ((m.n * 64 : Nat) : Int) = (m.n : Int) * 64 := by omega
  unfold inB
  rw [← hN]
  generalize hNN : m.n * 64 = NN at *
  have hNb : NN ≤ 4096 := by omega
  clear hN
  go_enter Try.func101, Try.ntmps101
  go_wp2_with fail
  go_ret
  exact ⟨rfl, rfl⟩
theorem wrd_or (m : Ms) (j : Nat) (h : ∀ i, i < 4 → 0 ≤ m.mem (j + i) ∧ m.mem (j + i) < 256) :
    bits BinOp.or IntKind.u32 (bits BinOp.or IntKind.u32 (bits BinOp.or IntKind.u32 (m.mem j % 4294967296) (m.mem (j + 1) % 4294967296 * 256 % 4294967296)) (m.mem (j + 2) % 4294967296 * 65536 % 4294967296)) (m.mem (j + 3) % 4294967296 * 16777216 % 4294967296) = wrd m j 4 := by
  have h0 := h 0 (by omega)
  have h1 := h 1 (by omega)
  have h2 := h 2 (by omega)
  have h3 := h 3 (by omega)
  rw [wrd_bytes]
  rw [Nat.add_zero] at h0
  generalize m.mem j = b0 at *
  generalize m.mem (j + 1) = b1 at *
  generalize m.mem (j + 2) = b2 at *
  generalize m.mem (j + 3) = b3 at *
  rw [bits_join_low .u32 32 (by decide) wraps_u32 8 (b0 % 4294967296) (b1 % 4294967296 * 256 % 4294967296) (by omega) (by omega) (by omega) (by omega) (by omega) (by omega)]
  rw [bits_join_low .u32 32 (by decide) wraps_u32 16 _ (b2 % 4294967296 * 65536 % 4294967296) (by omega) (by omega) (by omega) (by omega) (by omega) (by omega)]
  rw [bits_join_low .u32 32 (by decide) wraps_u32 24 _ (b3 % 4294967296 * 16777216 % 4294967296) (by omega) (by omega) (by omega) (by omega) (by omega) (by omega)]
  omega
set_option maxRecDepth 100000 in
theorem rword_any (w : World) (gM gb gt : Nat) (m : Ms) (h : RM w gM gb gt m.n m.mem m.tu) (hn : m.n ≤ 64) (hbd : ∀ i, i < m.n * 64 → 0 ≤ m.mem i ∧ m.mem i < 256) (Q : Int) (q0 : 0 ≤ Q) (hQ : inB m Q 4 = true) :
    Calls Try.prog 120 #[.pointer (some ⟨gM, 0, none⟩), .int .u64 Q] w fun e w' => e = .returned (.int .u32 (wrdV m Q)) ∧ Fr (fun _ => False) w w' := by
  obtain ⟨j, rfl⟩ : ∃ j : Nat, Q = j := ⟨Q.toNat, by omega⟩
  rw [wrdV, hQ, if_pos rfl, show ((j : Int)).toNat = j from rfl]
  have hin : (j : Int) + 4 ≤ (m.n : Int) * 64 := by simpa [inB] using hQ
  have c0 := h.b.cell 0
  simp only [List.getElem?_toArray, List.getElem?_cons_zero] at c0
  have d0 := h.cb.cell j (by omega)
  have d1 := h.cb.cell (j + 1) (by omega)
  have d2 := h.cb.cell (j + 2) (by omega)
  have d3 := h.cb.cell (j + 3) (by omega)
  have s1 : IntKind.u64.wrap ((j : Int) + 1) = ((j + 1 : Nat) : Int) := by rw [IntWalk.u64_in _ (by omega)]; omega
  have s2 : IntKind.u64.wrap ((j : Int) + 2) = ((j + 2 : Nat) : Int) := by rw [IntWalk.u64_in _ (by omega)]; omega
  have s3 : IntKind.u64.wrap ((j : Int) + 3) = ((j + 3 : Nat) : Int) := by rw [IntWalk.u64_in _ (by omega)]; omega
  have HO := Lib.hid (wrd_or m j (fun i hi => hbd (j + i) (by omega)))
  generalize hNN : m.n * 64 = NN at *
  have q1 : (j : Int) < (NN : Int) := by omega
  have q2 : (j : Int) ≤ (NN : Int) - 4 := by omega
  clear h
  go_enter Try.func120, Try.ntmps120
  go_wp2_with fail
  go_quiet (fail)
  go_wp2_with fail
  rw [HO.out]
  go_ret
  exact ⟨rfl, (Fr.refl _ w).drewN _⟩
end Go.Proofs.Ythiephlfhbkcbaa.Wk
namespace Go.Proofs.Ythiephlfhbkcbaa.Wk
open Go.RowKit Fm Nt Rm By Rf
set_option linter.unusedVariables false
set_option maxHeartbeats 8000000

set_option maxRecDepth 100000 in
theorem rlook_any (w : World) (gM gb gt : Nat) (m : Ms) (h : RM w gM gb gt m.n m.mem m.tu) (hn : m.n ≤ 64) (hbd : ∀ i, i < m.n * 64 → 0 ≤ m.mem i ∧ m.mem i < 256) (hwb : ∀ Q, 0 ≤ Q → 0 ≤ wrdV m Q ∧ wrdV m Q ≤ 4294967295) (root va : Int) (r0 : 0 ≤ root) (r1 : root ≤ 4294967295) (v0 : 0 ≤ va) (v1 : va ≤ 4294967295) :
    Calls Try.prog 116 #[.pointer (some ⟨gM, 0, none⟩), .int .u32 root, .int .u32 va] w fun e w' => e = .returned (.tuple #[.int .u64 (lkAt m root va), .int .u32 (lkLeaf m root va), .bool (lkOk m root va)]) ∧ Fr (fun _ => False) w w' := by
  have x1 : IntKind.u32.wrap (root / 64 * 64) = root / 64 * 64 := IntWalk.u32_in _ (by omega)
  have x2 : bits .and .u32 (va / 1024) 15 = va / 1024 % 16 := and15 _ (by omega) (by omega)
  have x3 : bits .and .u32 (va / 64) 15 = va / 64 % 16 := and15 _ (by omega) (by omega)
  have hA0 : 0 ≤ lkA root va := by unfold lkA; omega
  have hA1 : lkA root va ≤ 4294967355 := by unfold lkA; omega
  have y1 : IntKind.u64.wrap (root / 64 * 64 + 4 * (va / 1024 % 16)) = root / 64 * 64 + 4 * (va / 1024 % 16) := IntWalk.u64_in _ (by omega)
  have hh1 := has4_any w gM gb gt m h hn (lkA root va) hA0 (by omega)
  by_cases hv : va < 16384
  · have hv' : ¬ 16384 ≤ va := by omega
    cases hi1 : inB m (lkA root va) 4
    · have eo : lkOk m root va = false := by simp [lkOk, hi1]
      have ea : lkAt m root va = 0 := by rw [lkAt, eo]; rfl
      have el : lkLeaf m root va = 0 := by rw [lkLeaf, eo]; rfl
      rw [eo, ea, el]
      rw [hi1] at hh1
      unfold lkA at hh1
      have Hh1 := Lib.hid hh1
      clear hh1 eo ea el hA0 hA1 hi1
      go_enter Try.func116, Try.ntmps116
      go_wp2_with fail
      refine (Hh1.out).mono ?_
      rintro e w' ⟨rfl, rfl⟩
      go_wp2_with fail
      go_ret3
      exact ⟨rfl, Fr.refl _ _⟩
    · have hw1 := rword_any w gM gb gt m h hn hbd (lkA root va) hA0 hi1
      have hb1 := hwb (lkA root va) hA0
      rw [hi1] at hh1
      obtain ⟨e1, he⟩ : ∃ q, q = wrdV m (lkA root va) := ⟨_, rfl⟩
      have hB : lkB m root va = e1 / 256 * 64 + 4 * (va / 64 % 16) := by rw [lkB, he]
      rw [← he] at hw1 hb1
      obtain ⟨z0, z1⟩ := hb1
      have x4 : bits .and .u32 e1 1 = e1 % 2 := and1 e1 z0 z1
      have hB0 : 0 ≤ lkB m root va := by rw [hB]; omega
      have hh2 := fun W (f : Fr (fun _ => False) w W) => has4_any W gM gb gt m (h.fr0 f) hn (lkB m root va) hB0 (by rw [hB]; omega)
      by_cases ho : e1 % 2 = 1
      · have xo : (e1 % 2 == 0) = false := by simp; omega
        have y2 : IntKind.u64.wrap (e1 / 256 * 64) = e1 / 256 * 64 := IntWalk.u64_in _ (by omega)
        have y3 : IntKind.u64.wrap (e1 / 256 * 64 + 4 * (va / 64 % 16)) = e1 / 256 * 64 + 4 * (va / 64 % 16) := IntWalk.u64_in _ (by omega)
        cases hi2 : inB m (lkB m root va) 4
        · have eo : lkOk m root va = false := by simp [lkOk, hi2]
          have ea : lkAt m root va = 0 := by rw [lkAt, eo]; rfl
          have el : lkLeaf m root va = 0 := by rw [lkLeaf, eo]; rfl
          rw [eo, ea, el]
          rw [hB] at hi2
          simp only [hB, hi2] at hh2
          unfold lkA at hh1 hw1
          have Hh1 := Lib.hid hh1
          have Hw1 := Lib.hid hw1
          have Hh2 := Lib.hid hh2
          clear hh1 hw1 hh2 eo ea el hA0 hA1 hi1 hi2 hB hB0 he ho
          go_enter Try.func116, Try.ntmps116
          go_wp2_with fail
          refine (Hh1.out).mono ?_
          rintro e w' ⟨rfl, rfl⟩
          go_wp2_with fail
          refine (Hw1.out).mono ?_
          rintro e w2 ⟨rfl, f2⟩
          go_wp2_with fail
          refine (Hh2.out w2 f2).mono ?_
          rintro e w' ⟨rfl, rfl⟩
          go_wp2_with fail
          go_ret3
          exact ⟨rfl, f2⟩
        · have eo : lkOk m root va = true := by simp [lkOk, hi1, hi2, hv, ← he, ho]
          have ea : lkAt m root va = e1 / 256 * 64 + 4 * (va / 64 % 16) := by rw [lkAt, eo, if_pos rfl, hB]
          have el : lkLeaf m root va = wrdV m (lkB m root va) := by rw [lkLeaf, eo, if_pos rfl]
          have hw2 := fun W (f : Fr (fun _ => False) w W) => rword_any W gM gb gt m (h.fr0 f) hn hbd (lkB m root va) hB0 hi2
          rw [eo, ea, el]
          rw [hB] at hi2
          simp only [hB, hi2] at hh2 hw2 ⊢
          unfold lkA at hh1 hw1
          have Hh1 := Lib.hid hh1
          have Hw1 := Lib.hid hw1
          have Hh2 := Lib.hid hh2
          have Hw2 := Lib.hid hw2
          clear hh1 hw1 hh2 hw2 eo ea el hA0 hA1 hi1 hi2 hB hB0 he ho
          generalize wrdV m (e1 / 256 * 64 + 4 * (va / 64 % 16)) = lf at *
          go_enter Try.func116, Try.ntmps116
          go_wp2_with fail
          refine (Hh1.out).mono ?_
          rintro e w' ⟨rfl, rfl⟩
          go_wp2_with fail
          refine (Hw1.out).mono ?_
          rintro e w2 ⟨rfl, f2⟩
          go_wp2_with fail
          refine (Hh2.out w2 f2).mono ?_
          rintro e w' ⟨rfl, rfl⟩
          go_wp2_with fail
          refine (Hw2.out w2 f2).mono ?_
          rintro e w3 ⟨rfl, f3⟩
          go_wp2_with fail
          go_ret3
          exact ⟨rfl, f2.tr f3⟩
      · have xo : (e1 % 2 == 0) = true := by simp; omega
        have eo : lkOk m root va = false := by simp [lkOk, ← he, ho]
        have ea : lkAt m root va = 0 := by rw [lkAt, eo]; rfl
        have el : lkLeaf m root va = 0 := by rw [lkLeaf, eo]; rfl
        rw [eo, ea, el]
        unfold lkA at hh1 hw1
        have Hh1 := Lib.hid hh1
        have Hw1 := Lib.hid hw1
        clear hh1 hw1 hh2 eo ea el hA0 hA1 hi1 hB hB0 he ho
        go_enter Try.func116, Try.ntmps116
        go_wp2_with fail
        refine (Hh1.out).mono ?_
        rintro e w' ⟨rfl, rfl⟩
        go_wp2_with fail
        refine (Hw1.out).mono ?_
        rintro e w2 ⟨rfl, f2⟩
        go_wp2_with fail
        go_ret3
        exact ⟨rfl, f2⟩
  · have hv' : 16384 ≤ va := by omega
    have eo : lkOk m root va = false := by simp [lkOk, hv]
    have ea : lkAt m root va = 0 := by rw [lkAt, eo]; rfl
    have el : lkLeaf m root va = 0 := by rw [lkLeaf, eo]; rfl
    rw [eo, ea, el]
    clear hh1 eo ea el hv hA0 hA1
    go_enter Try.func116, Try.ntmps116
    go_wp2_with fail
    go_ret3
    exact ⟨rfl, Fr.refl _ _⟩
set_option maxRecDepth 100000 in
theorem do_other (w : World) (g : Nat) (root va k : Int) (s : Bool) (hk : ¬ (k = 1 ∨ k = 2 ∨ k = 3)) :
    Calls Try.prog 97 #[.pointer (some ⟨g, 0, none⟩), .int .u32 root, .int .u32 va, .int .i64 k, .bool s] w fun e w' => e = .returned (.tuple #[entry0, .agg #[.int .i64 10, .int .u32 va]]) ∧ Fr (fun _ => False) w w' := by
  have e0 : flt k = 0 := by rw [flt, if_neg (by omega), if_neg (by omega), if_neg (by omega)]
  have Hf := Lib.hid (fun W => fault_any W k)
  rw [e0] at Hf
  clear e0 hk
  have b1 : Blk ((w.alloc (.cells #[.bool false, .int .u32 0, .int .u32 0, .int .u32 0] 132)).alloc (.cells #[.int .i64 10, .int .u32 va] 63)) w.heap.size 132 #[.bool false, .int .u32 0, .int .u32 0, .int .u32 0] := (Blk.new w 132 #[.bool false, .int .u32 0, .int .u32 0, .int .u32 0]).fr ((Fr.refl (fun _ => False) _).alloc _) (fun e => e)
  have b2 : Blk ((w.alloc (.cells #[.bool false, .int .u32 0, .int .u32 0, .int .u32 0] 132)).alloc (.cells #[.int .i64 10, .int .u32 va] 63)) (w.heap.size + 1) 63 #[.int .i64 10, .int .u32 va] := by
    have := Blk.new (w.alloc (.cells #[.bool false, .int .u32 0, .int .u32 0, .int .u32 0] 132)) 63 #[.int .i64 10, .int .u32 va]
    rwa [show (w.alloc (.cells #[.bool false, .int .u32 0, .int .u32 0, .int .u32 0] 132)).heap.size = w.heap.size + 1 by simp] at this
  go_enter Try.func97, Try.ntmps97
  go_wp2_with fail
  refine (Hf.out _).mono ?_
  rintro e w' ⟨rfl, rfl⟩
  go_wp2_with fail
  try simp only [Exit.inBlock, Exit.then]
  refine bodyPost_ret (results_cell2 rfl _ _ w.heap.size (w.heap.size + 1) 132 63 _ _ _ _ rfl rfl b1 b2 Try.underlying132 rfl szE Try.underlying63 rfl szT) rfl ?_
  exact ⟨rfl, ((Fr.refl _ w).alloc _).alloc _⟩
set_option maxRecDepth 100000 in
theorem rdo_other (w : World) (g : Nat) (root va k : Int) (s : Bool) (hk : ¬ (k = 1 ∨ k = 2 ∨ k = 3)) :
    Calls Try.prog 100 #[.pointer (some ⟨g, 0, none⟩), .int .u32 root, .int .u32 va, .int .i64 k, .bool s] w fun e w' => e = .returned (.tuple #[entry0, .agg #[.int .i64 10, .int .u32 va]]) ∧ Fr (fun _ => False) w w' := by
  have e0 : flt k = 0 := by rw [flt, if_neg (by omega), if_neg (by omega), if_neg (by omega)]
  have Hf := Lib.hid (fun W => rfault_any W k)
  rw [e0] at Hf
  clear e0 hk
  have b1 : Blk ((w.alloc (.cells #[.bool false, .int .u32 0, .int .u32 0, .int .u32 0] 132)).alloc (.cells #[.int .i64 10, .int .u32 va] 63)) w.heap.size 132 #[.bool false, .int .u32 0, .int .u32 0, .int .u32 0] := (Blk.new w 132 #[.bool false, .int .u32 0, .int .u32 0, .int .u32 0]).fr ((Fr.refl (fun _ => False) _).alloc _) (fun e => e)
  have b2 : Blk ((w.alloc (.cells #[.bool false, .int .u32 0, .int .u32 0, .int .u32 0] 132)).alloc (.cells #[.int .i64 10, .int .u32 va] 63)) (w.heap.size + 1) 63 #[.int .i64 10, .int .u32 va] := by
    have := Blk.new (w.alloc (.cells #[.bool false, .int .u32 0, .int .u32 0, .int .u32 0] 132)) 63 #[.int .i64 10, .int .u32 va]
    rwa [show (w.alloc (.cells #[.bool false, .int .u32 0, .int .u32 0, .int .u32 0] 132)).heap.size = w.heap.size + 1 by simp] at this
  go_enter Try.func100, Try.ntmps100
  go_wp2_with fail
  refine (Hf.out _).mono ?_
  rintro e w' ⟨rfl, rfl⟩
  go_wp2_with fail
  try simp only [Exit.inBlock, Exit.then]
  refine bodyPost_ret (results_cell2 rfl _ _ w.heap.size (w.heap.size + 1) 132 63 _ _ _ _ rfl rfl b1 b2 Try.underlying132 rfl szE Try.underlying63 rfl szT) rfl ?_
  exact ⟨rfl, ((Fr.refl _ w).alloc _).alloc _⟩
set_option maxRecDepth 100000 in
theorem do_nil (w : World) (root va k : Int) (s : Bool) :
    Calls Try.prog 97 #[.pointer none, .int .u32 root, .int .u32 va, .int .i64 k, .bool s] w fun e w' => e = .returned (.tuple #[entry0, .agg #[.int .i64 10, .int .u32 va]]) ∧ Fr (fun _ => False) w w' := by
  have Hf := Lib.hid (fun W => fault_any W k)
  generalize flt k = fk at *
  have b1 : Blk ((w.alloc (.cells #[.bool false, .int .u32 0, .int .u32 0, .int .u32 0] 132)).alloc (.cells #[.int .i64 10, .int .u32 va] 63)) w.heap.size 132 #[.bool false, .int .u32 0, .int .u32 0, .int .u32 0] := (Blk.new w 132 #[.bool false, .int .u32 0, .int .u32 0, .int .u32 0]).fr ((Fr.refl (fun _ => False) _).alloc _) (fun e => e)
  have b2 : Blk ((w.alloc (.cells #[.bool false, .int .u32 0, .int .u32 0, .int .u32 0] 132)).alloc (.cells #[.int .i64 10, .int .u32 va] 63)) (w.heap.size + 1) 63 #[.int .i64 10, .int .u32 va] := by
    have := Blk.new (w.alloc (.cells #[.bool false, .int .u32 0, .int .u32 0, .int .u32 0] 132)) 63 #[.int .i64 10, .int .u32 va]
    rwa [show (w.alloc (.cells #[.bool false, .int .u32 0, .int .u32 0, .int .u32 0] 132)).heap.size = w.heap.size + 1 by simp] at this
  go_enter Try.func97, Try.ntmps97
  go_wp2_with fail
  refine (Hf.out _).mono ?_
  rintro e w' ⟨rfl, rfl⟩
  go_wp2_with fail
  try simp only [Exit.inBlock, Exit.then]
  refine bodyPost_ret (results_cell2 rfl _ _ w.heap.size (w.heap.size + 1) 132 63 _ _ _ _ rfl rfl b1 b2 Try.underlying132 rfl szE Try.underlying63 rfl szT) rfl ?_
  exact ⟨rfl, ((Fr.refl _ w).alloc _).alloc _⟩
set_option maxRecDepth 100000 in
theorem rdo_fault (w : World) (gM gb gt : Nat) (m : Ms) (h : RM w gM gb gt m.n m.mem m.tu) (hn : m.n ≤ 64) (hbd : ∀ i, i < m.n * 64 → 0 ≤ m.mem i ∧ m.mem i < 256) (hwb : ∀ Q, 0 ≤ Q → 0 ≤ wrdV m Q ∧ wrdV m Q ≤ 4294967295) (root va k : Int) (s : Bool) (r0 : 0 ≤ root) (r1 : root ≤ 4294967295) (v0 : 0 ≤ va) (v1 : va ≤ 4294967295) (hk : k = 1 ∨ k = 2 ∨ k = 3) (hno : doOk m root va k s = false) :
    Calls Try.prog 100 #[.pointer (some ⟨gM, 0, none⟩), .int .u32 root, .int .u32 va, .int .i64 k, .bool s] w fun e w' => e = .returned (.tuple #[entry0, .agg #[.int .i64 (flt k), .int .u32 va]]) ∧ Fr (fun _ => False) w w' := by
  have Hf := Lib.hid (fun W => rfault_any W k)
  have Hb := Lib.hid (fun W => rbits_any W k s hk)
  have fa : Fr (fun _ => False) w ((w.alloc (.cells #[.bool false, .int .u32 0, .int .u32 0, .int .u32 0] 132)).alloc (.cells #[.int .i64 0, .int .u32 0] 63)) := ((Fr.refl _ w).alloc _).alloc _
  have hs1 : (w.alloc (.cells #[.bool false, .int .u32 0, .int .u32 0, .int .u32 0] 132)).heap.size = w.heap.size + 1 := by simp
  have HL := Lib.hid (rlook_any _ gM gb gt m (h.fr0 fa) hn hbd hwb root va r0 r1 v0 v1)
  have hf0 : (flt k == 0) = false := by rcases hk with rfl | rfl | rfl <;> decide
  unfold doOk at hno
  generalize flt k = fk at *
  generalize ask k s = ak at *
  generalize lkOk m root va = ok at *
  generalize lkAt m root va = at_ at *
  generalize lkLeaf m root va = lf at *
  have b1 : Blk ((w.alloc (.cells #[.bool false, .int .u32 0, .int .u32 0, .int .u32 0] 132)).alloc (.cells #[.int .i64 0, .int .u32 0] 63)) w.heap.size 132 #[.bool false, .int .u32 0, .int .u32 0, .int .u32 0] := (Blk.new w 132 #[.bool false, .int .u32 0, .int .u32 0, .int .u32 0]).fr ((Fr.refl (fun _ => False) _).alloc _) (fun e => e)
  have b2 : Blk ((w.alloc (.cells #[.bool false, .int .u32 0, .int .u32 0, .int .u32 0] 132)).alloc (.cells #[.int .i64 0, .int .u32 0] 63)) (w.heap.size + 1) 63 #[.int .i64 0, .int .u32 0] := by
    have := Blk.new (w.alloc (.cells #[.bool false, .int .u32 0, .int .u32 0, .int .u32 0] 132)) 63 #[.int .i64 0, .int .u32 0]
    rwa [show (w.alloc (.cells #[.bool false, .int .u32 0, .int .u32 0, .int .u32 0] 132)).heap.size = w.heap.size + 1 by simp] at this
  clear hs1
  cases ok
  · go_enter Try.func100, Try.ntmps100
    go_wp2_with fail
    refine (Hf.out _).mono ?_
    rintro e w' ⟨rfl, rfl⟩
    go_wp2_with fail
    refine (HL.out).mono ?_
    rintro e w3 ⟨rfl, f3⟩
    go_wp2_with fail
    refine (Hb.out _).mono ?_
    rintro e w' ⟨rfl, rfl⟩
    have g1 := b1.fr f3 (fun e => e)
    have g2 := b2.fr f3 (fun e => e)
    have g10 := g1.cell 0
    have g11 := g1.cell 1
    have g12 := g1.cell 2
    have g13 := g1.cell 3
    have g20 := g2.cell 0
    have g21 := g2.cell 1
    simp only [List.getElem?_toArray, List.getElem?_cons_succ, List.getElem?_cons_zero] at g10 g11 g12 g13 g20 g21
    have z1 : ∀ i, w3.frozen? ⟨w.heap.size, i, none⟩ = false := fun i => g1.frozen i
    have z2 : ∀ i, w3.frozen? ⟨w.heap.size + 1, i, none⟩ = false := fun i => g2.frozen i
    go_wp2_with fail
    refine (Hf.out _).mono ?_
    rintro e w' ⟨rfl, rfl⟩
    obtain ⟨k1, k2, k3⟩ := stored (show w.heap.size ≠ w.heap.size + 1 by omega) g1 g2 (.bool false) (.int .u32 0) (.int .u32 0) (.int .u32 0) (.int .i64 fk) (.int .u32 va)
    have HK1 := Lib.hid k1
    have HK2 := Lib.hid k2
    have HF4 := Lib.hid ((fa.tr f3).trans (S := fun _ => False) k3 (fun i hi e => by omega))
    clear k1 k2 k3 g1 g2
    go_wp2_with fail
    try simp only [Exit.inBlock, Exit.then]
    refine bodyPost_ret (results_cell2 rfl _ _ w.heap.size (w.heap.size + 1) 132 63 _ _ _ _ rfl rfl HK1.out HK2.out Try.underlying132 rfl szE Try.underlying63 rfl szT) rfl ?_
    exact ⟨rfl, HF4.out⟩
  · have hne : (bits .and .u32 lf ak == ak) = false := by simpa using hno
    have hne2 : (bits .and .u32 lf ak != ak) = true := by simpa using hno
    clear hno
    go_enter Try.func100, Try.ntmps100
    go_wp2_with fail
    refine (Hf.out _).mono ?_
    rintro e w' ⟨rfl, rfl⟩
    go_wp2_with fail
    refine (HL.out).mono ?_
    rintro e w3 ⟨rfl, f3⟩
    go_wp2_with fail
    refine (Hb.out _).mono ?_
    rintro e w' ⟨rfl, rfl⟩
    have g1 := b1.fr f3 (fun e => e)
    have g2 := b2.fr f3 (fun e => e)
    have g10 := g1.cell 0
    have g11 := g1.cell 1
    have g12 := g1.cell 2
    have g13 := g1.cell 3
    have g20 := g2.cell 0
    have g21 := g2.cell 1
    simp only [List.getElem?_toArray, List.getElem?_cons_succ, List.getElem?_cons_zero] at g10 g11 g12 g13 g20 g21
    have z1 : ∀ i, w3.frozen? ⟨w.heap.size, i, none⟩ = false := fun i => g1.frozen i
    have z2 : ∀ i, w3.frozen? ⟨w.heap.size + 1, i, none⟩ = false := fun i => g2.frozen i
    go_wp2_with fail
    refine (Hf.out _).mono ?_
    rintro e w' ⟨rfl, rfl⟩
    obtain ⟨k1, k2, k3⟩ := stored (show w.heap.size ≠ w.heap.size + 1 by omega) g1 g2 (.bool false) (.int .u32 0) (.int .u32 0) (.int .u32 0) (.int .i64 fk) (.int .u32 va)
    have HK1 := Lib.hid k1
    have HK2 := Lib.hid k2
    have HF4 := Lib.hid ((fa.tr f3).trans (S := fun _ => False) k3 (fun i hi e => by omega))
    clear k1 k2 k3 g1 g2
    go_wp2_with fail
    try simp only [Exit.inBlock, Exit.then]
    refine bodyPost_ret (results_cell2 rfl _ _ w.heap.size (w.heap.size + 1) 132 63 _ _ _ _ rfl rfl HK1.out HK2.out Try.underlying132 rfl szE Try.underlying63 rfl szT) rfl ?_
    exact ⟨rfl, HF4.out⟩
end Go.Proofs.Ythiephlfhbkcbaa.Wk
namespace Go.Proofs.Ythiephlfhbkcbaa.Wk
open Go.RowKit Fm Nt Rm By Rf
set_option linter.unusedVariables false
set_option maxHeartbeats 8000000

set_option maxRecDepth 100000 in
theorem rdo_ok (w : World) (gM gb gt : Nat) (m : Ms) (h : RM w gM gb gt m.n m.mem m.tu) (hn : m.n ≤ 64) (hbd : ∀ i, i < m.n * 64 → 0 ≤ m.mem i ∧ m.mem i < 256) (hwb : ∀ Q, 0 ≤ Q → 0 ≤ wrdV m Q ∧ wrdV m Q ≤ 4294967295) (root va k : Int) (s : Bool) (r0 : 0 ≤ root) (r1 : root ≤ 4294967295) (v0 : 0 ≤ va) (v1 : va ≤ 4294967295) (hk : k = 1 ∨ k = 2 ∨ k = 3) (hyes : doOk m root va k s = true)
    (hb1 : 0 ≤ lkLeaf m root va ∧ lkLeaf m root va ≤ 4294967295) (hA : 0 ≤ lkAt m root va ∧ lkAt m root va ≤ 4096) (hin : inB m (lkAt m root va) 4 = true) :
    Calls Try.prog 100 #[.pointer (some ⟨gM, 0, none⟩), .int .u32 root, .int .u32 va, .int .i64 k, .bool s] w fun e w' => e = .returned (.tuple #[.agg #[.bool true, .int .u32 (va / 64), .int .u32 (now k (lkLeaf m root va) / 256), .int .u32 (bits .and .u32 (now k (lkLeaf m root va)) 94)], trap0]) ∧ RM w' gM gb gt m.n (doMs m root va k).mem (doMs m root va k).tu ∧ Fr (fun q => q = gb ∨ q = gt) w w' := by
  have Hf := Lib.hid (fun W => rfault_any W k)
  have Hb := Lib.hid (fun W => rbits_any W k s hk)
  have NL := nowLaws k _ hb1.1 hb1.2
  have hdv := Lib.hid NL.div
  have fa : Fr (fun _ => False) w ((w.alloc (.cells #[.bool false, .int .u32 0, .int .u32 0, .int .u32 0] 132)).alloc (.cells #[.int .i64 0, .int .u32 0] 63)) := ((Fr.refl _ w).alloc _).alloc _
  have HL := Lib.hid (rlook_any _ gM gb gt m (h.fr0 fa) hn hbd hwb root va r0 r1 v0 v1)
  have hf0 : (flt k == 0) = false := by rcases hk with rfl | rfl | rfl <;> decide
  have hlo : lkOk m root va = true := by cases hq : lkOk m root va <;> simp [doOk, hq] at hyes ⊢
  unfold doOk at hyes
  unfold doMs
  rw [hlo] at HL hyes
  generalize flt k = fk at *
  generalize ask k s = ak at *
  generalize lkAt m root va = at_ at *
  generalize lkLeaf m root va = lf at *
  have heq : (bits .and .u32 lf ak == ak) = true := by simpa using hyes
  have heq2 : (bits .and .u32 lf ak != ak) = false := by simpa using hyes
  obtain ⟨p, rfl⟩ : ∃ p : Nat, at_ = p := ⟨at_.toNat, by omega⟩
  have hin2 : (p : Int) + 4 ≤ (m.n : Int) * 64 := by simpa [inB] using hin
  have epw : ∀ v, m.putW (p : Int) v = m.puts p (wby v) 4 := fun v => by rw [Ms.putW, hin, if_pos rfl]; rfl
  have b1 : Blk ((w.alloc (.cells #[.bool false, .int .u32 0, .int .u32 0, .int .u32 0] 132)).alloc (.cells #[.int .i64 0, .int .u32 0] 63)) w.heap.size 132 #[.bool false, .int .u32 0, .int .u32 0, .int .u32 0] := (Blk.new w 132 #[.bool false, .int .u32 0, .int .u32 0, .int .u32 0]).fr ((Fr.refl (fun _ => False) _).alloc _) (fun e => e)
  have b2 : Blk ((w.alloc (.cells #[.bool false, .int .u32 0, .int .u32 0, .int .u32 0] 132)).alloc (.cells #[.int .i64 0, .int .u32 0] 63)) (w.heap.size + 1) 63 #[.int .i64 0, .int .u32 0] := by
    have := Blk.new (w.alloc (.cells #[.bool false, .int .u32 0, .int .u32 0, .int .u32 0] 132)) 63 #[.int .i64 0, .int .u32 0]
    rwa [show (w.alloc (.cells #[.bool false, .int .u32 0, .int .u32 0, .int .u32 0] 132)).heap.size = w.heap.size + 1 by simp] at this
  have hlt := h.lt
  have HR := Lib.hid (h.fr0 fa)
  clear hyes hlo hin h
  by_cases h3 : k = 3
  · have t3 : (k == 3) = true := by simpa using h3
    have eN : now k lf = bits .or .u32 (bits .or .u32 lf 32) 64 := by rw [now, if_pos h3]
    obtain ⟨n1, hn1⟩ : ∃ n1, bits .or .u32 lf 32 = n1 := ⟨_, rfl⟩
    have hn1b := or_bd lf 32 hb1.1 hb1.2 (by omega) (by omega)
    rw [hn1] at eN hn1b
    obtain ⟨N, hN⟩ : ∃ N, bits .or .u32 n1 64 = N := ⟨_, rfl⟩
    have hNb := or_bd n1 64 hn1b.1 hn1b.2 (by omega) (by omega)
    rw [hN] at eN hNb
    rw [eN] at hdv ⊢
    obtain ⟨N0, N1⟩ := hNb
    clear h3 eN hk NL
    by_cases hsm : N = lf
    · have q1 : (N == lf) = true := by simpa using hsm
      have q2 : (N != lf) = false := by simpa using hsm
      rw [if_pos hsm]
      clear hsm
      go_enter Try.func100, Try.ntmps100
      go_wp2_with fail
      refine (Hf.out _).mono ?_
      rintro e w' ⟨rfl, rfl⟩
      go_wp2_with fail
      refine (HL.out).mono ?_
      rintro e w3 ⟨rfl, f3⟩
      go_wp2_with fail
      refine (Hb.out _).mono ?_
      rintro e w' ⟨rfl, rfl⟩
      have hR3 := HR.out.fr0 f3
      have c1 := b1.fr f3 (fun e => e)
      have c2 := b2.fr f3 (fun e => e)
      have g1 := c1
      have g2 := c2
      have g10 := g1.cell 0
      have g11 := g1.cell 1
      have g12 := g1.cell 2
      have g13 := g1.cell 3
      have g20 := g2.cell 0
      have g21 := g2.cell 1
      simp only [List.getElem?_toArray, List.getElem?_cons_succ, List.getElem?_cons_zero] at g10 g11 g12 g13 g20 g21
      have z1 : ∀ i, w3.frozen? ⟨w.heap.size, i, none⟩ = false := fun i => g1.frozen i
      have z2 : ∀ i, w3.frozen? ⟨w.heap.size + 1, i, none⟩ = false := fun i => g2.frozen i
      obtain ⟨k1, k2, k3⟩ := stored (show w.heap.size ≠ w.heap.size + 1 by omega) g1 g2 (.bool true) (.int .u32 (va / 64)) (.int .u32 (lf / 256)) (.int .u32 (bits .and .u32 N 94)) (.int .i64 0) (.int .u32 0)
      have HK1 := Lib.hid k1
      have HK2 := Lib.hid k2
      have HF := Lib.hid (((fa.tr f3).none (S := fun q => q = gb ∨ q = gt)).trans (S := fun q => q = gb ∨ q = gt) k3 (fun i hi e => by omega))
      have HRR := Lib.hid (hR3.fr k3 (fun e => by omega) (fun e => by omega) (fun e => by omega))
      clear k1 k2 k3 g1 g2 hR3
      go_wp2_with fail
      try simp only [Exit.inBlock, Exit.then]
      refine bodyPost_ret (results_cell2 rfl _ _ w.heap.size (w.heap.size + 1) 132 63 _ _ _ _ rfl rfl HK1.out HK2.out Try.underlying132 rfl szE Try.underlying63 rfl szT) rfl ?_
      exact ⟨by rw [hdv.out]; rfl, HRR.out, HF.out⟩
    · have q1 : (N == lf) = false := by simpa using hsm
      have q2 : (N != lf) = true := by simpa using hsm
      rw [if_neg hsm, epw]
      clear hsm
      go_enter Try.func100, Try.ntmps100
      go_wp2_with fail
      refine (Hf.out _).mono ?_
      rintro e w' ⟨rfl, rfl⟩
      go_wp2_with fail
      refine (HL.out).mono ?_
      rintro e w3 ⟨rfl, f3⟩
      go_wp2_with fail
      refine (Hb.out _).mono ?_
      rintro e w' ⟨rfl, rfl⟩
      have hR3 := HR.out.fr0 f3
      have c1 := b1.fr f3 (fun e => e)
      have c2 := b2.fr f3 (fun e => e)
      have hR30 : RM w3 gM gb gt m.n (m.puts p (wby N) 0).mem (m.puts p (wby N) 0).tu := hR3
      have hw3 : w.heap.size + 2 ≤ w3.heap.size := by have := c2.lt; omega
      clear hR3
      go_wp2_with fail
      go_loopw [17] (fun i wr => ∃ r : Nat, r ≤ 4 ∧ i = .int .u64 r ∧ RM wr gM gb gt m.n (m.puts p (wby N) r).mem (m.puts p (wby N) r).tu ∧ Fr (fun q => q = gb ∨ q = gt) w3 wr) (fun i _ => 4 - (intOf i).toNat)
      case atStart => exact ⟨0, by omega, rfl, hR30, Fr.refl _ _⟩
      case round =>
        clear hR30
        obtain ⟨r, hr, rfl, hR, fx⟩ := hrel
        by_cases hlr : r < 4
        · rcases (by omega : r = 0 ∨ r = 1 ∨ r = 2 ∨ r = 3) with rfl | rfl | rfl | rfl
          · have u4 : IntKind.u32.wrap (p : Int) = (p : Int) := IntWalk.u32_in _ (by omega)
            have u3 : IntKind.u8.wrap N = N % 256 := IntKind.wrap_u8 _
            have hp := put_any wr gM gb gt m.n _ _ hR hn p (by omega) (N % 256)
            have em : updI (m.puts p (wby N) 0).mem p (N % 256) = (m.puts p (wby N) 1).mem := by
              rfl
            have et : updB (m.puts p (wby N) 0).tu (p / 64) true = (m.puts p (wby N) 1).tu := by
              rfl
            rw [em, et] at hp
            have Hp := Lib.hid hp
            clear hp em et hR
            go_wp2_with fail
            refine (Hp.out).mono ?_
            rintro e w5 ⟨rfl, hR5, f5⟩
            have fx5 := fx.tr f5
            go_wp2_with fail
            go_roundw
            case rel => exact ⟨1, by omega, rfl, hR5, fx5⟩
            case measure => simp [intOf]
          · obtain ⟨jr, hjr⟩ : ∃ q : Nat, q = p + 1 := ⟨_, rfl⟩
            have u4 : IntKind.u32.wrap (jr : Int) = (jr : Int) := IntWalk.u32_in _ (by omega)
            have u5 : IntKind.u32.wrap ((p : Int) + 1) = (jr : Int) := by rw [IntWalk.u32_in _ (by omega)]; omega
            have s3 : (p : Int) + 1 = (jr : Int) := by omega
            have s4 : IntKind.u64.wrap ((p : Int) + 1) = (jr : Int) := by rw [IntWalk.u64_in _ (by omega)]; omega
            have hp := put_any wr gM gb gt m.n _ _ hR hn jr (by omega) (N / 256 % 256)
            have em : updI (m.puts p (wby N) 1).mem jr (N / 256 % 256) = (m.puts p (wby N) 2).mem := by
              rw [hjr]
              rfl
            have et : updB (m.puts p (wby N) 1).tu (jr / 64) true = (m.puts p (wby N) 2).tu := by
              rw [hjr]
              rfl
            rw [em, et] at hp
            have Hp := Lib.hid hp
            clear hp em et hR hjr
            go_wp2_with fail
            refine (Hp.out).mono ?_
            rintro e w5 ⟨rfl, hR5, f5⟩
            have fx5 := fx.tr f5
            go_wp2_with fail
            go_roundw
            case rel => exact ⟨2, by omega, rfl, hR5, fx5⟩
            case measure => simp [intOf]
          · obtain ⟨jr, hjr⟩ : ∃ q : Nat, q = p + 2 := ⟨_, rfl⟩
            have u4 : IntKind.u32.wrap (jr : Int) = (jr : Int) := IntWalk.u32_in _ (by omega)
            have u5 : IntKind.u32.wrap ((p : Int) + 2) = (jr : Int) := by rw [IntWalk.u32_in _ (by omega)]; omega
            have s3 : (p : Int) + 2 = (jr : Int) := by omega
            have s4 : IntKind.u64.wrap ((p : Int) + 2) = (jr : Int) := by rw [IntWalk.u64_in _ (by omega)]; omega
            have hp := put_any wr gM gb gt m.n _ _ hR hn jr (by omega) (N / 65536 % 256)
            have em : updI (m.puts p (wby N) 2).mem jr (N / 65536 % 256) = (m.puts p (wby N) 3).mem := by
              rw [hjr]
              rfl
            have et : updB (m.puts p (wby N) 2).tu (jr / 64) true = (m.puts p (wby N) 3).tu := by
              rw [hjr]
              rfl
            rw [em, et] at hp
            have Hp := Lib.hid hp
            clear hp em et hR hjr
            go_wp2_with fail
            refine (Hp.out).mono ?_
            rintro e w5 ⟨rfl, hR5, f5⟩
            have fx5 := fx.tr f5
            go_wp2_with fail
            go_roundw
            case rel => exact ⟨3, by omega, rfl, hR5, fx5⟩
            case measure => simp [intOf]
          · obtain ⟨jr, hjr⟩ : ∃ q : Nat, q = p + 3 := ⟨_, rfl⟩
            have u4 : IntKind.u32.wrap (jr : Int) = (jr : Int) := IntWalk.u32_in _ (by omega)
            have u5 : IntKind.u32.wrap ((p : Int) + 3) = (jr : Int) := by rw [IntWalk.u32_in _ (by omega)]; omega
            have s3 : (p : Int) + 3 = (jr : Int) := by omega
            have s4 : IntKind.u64.wrap ((p : Int) + 3) = (jr : Int) := by rw [IntWalk.u64_in _ (by omega)]; omega
            have e24 : N / 16777216 % 256 = N / 16777216 := by omega
            have hp := put_any wr gM gb gt m.n _ _ hR hn jr (by omega) (N / 16777216)
            have em : updI (m.puts p (wby N) 3).mem jr (N / 16777216) = (m.puts p (wby N) 4).mem := by
              rw [hjr]; rw [← e24]
              rfl
            have et : updB (m.puts p (wby N) 3).tu (jr / 64) true = (m.puts p (wby N) 4).tu := by
              rw [hjr]
              rfl
            rw [em, et] at hp
            have Hp := Lib.hid hp
            clear hp em et hR hjr e24
            go_wp2_with fail
            refine (Hp.out).mono ?_
            rintro e w5 ⟨rfl, hR5, f5⟩
            have fx5 := fx.tr f5
            go_wp2_with fail
            go_roundw
            case rel => exact ⟨4, by omega, rfl, hR5, fx5⟩
            case measure => simp [intOf]
        · have e : r = 4 := by omega
          have q9 : decide ((r : Int) < 4) = false := by simp; omega
          rw [e] at hR
          have g1 := c1.fr fx (fun e => by omega)
          have g2 := c2.fr fx (fun e => by omega)
          have g10 := g1.cell 0
          have g11 := g1.cell 1
          have g12 := g1.cell 2
          have g13 := g1.cell 3
          have g20 := g2.cell 0
          have g21 := g2.cell 1
          simp only [List.getElem?_toArray, List.getElem?_cons_succ, List.getElem?_cons_zero] at g10 g11 g12 g13 g20 g21
          have z1 : ∀ i, wr.frozen? ⟨w.heap.size, i, none⟩ = false := fun i => g1.frozen i
          have z2 : ∀ i, wr.frozen? ⟨w.heap.size + 1, i, none⟩ = false := fun i => g2.frozen i
          obtain ⟨k1, k2, k3⟩ := stored (show w.heap.size ≠ w.heap.size + 1 by omega) g1 g2 (.bool true) (.int .u32 (va / 64)) (.int .u32 (lf / 256)) (.int .u32 (bits .and .u32 N 94)) (.int .i64 0) (.int .u32 0)
          have HK1 := Lib.hid k1
          have HK2 := Lib.hid k2
          have HF := Lib.hid ((((fa.tr f3).none (S := fun q => q = gb ∨ q = gt)).tr fx).trans (S := fun q => q = gb ∨ q = gt) k3 (fun i hi e => by omega))
          have HRR := Lib.hid (hR.fr k3 (fun e => by omega) (fun e => by omega) (fun e => by omega))
          clear k1 k2 k3 g1 g2 hR e
          go_wp2_with fail
          try simp only [Exit.inBlock, Exit.then]
          refine bodyPost_ret (results_cell2 rfl _ _ w.heap.size (w.heap.size + 1) 132 63 _ _ _ _ rfl rfl HK1.out HK2.out Try.underlying132 rfl szE Try.underlying63 rfl szT) rfl ?_
          exact ⟨by rw [hdv.out]; rfl, HRR.out, HF.out⟩
  · have t3 : (k == 3) = false := by simpa using h3
    have eN : now k lf = bits .or .u32 lf 32 := by rw [now, if_neg h3]
    obtain ⟨N, hN⟩ : ∃ N, bits .or .u32 lf 32 = N := ⟨_, rfl⟩
    have hNb := or_bd lf 32 hb1.1 hb1.2 (by omega) (by omega)
    rw [hN] at eN hNb
    rw [eN] at hdv ⊢
    obtain ⟨N0, N1⟩ := hNb
    clear h3 eN hk NL
    by_cases hsm : N = lf
    · have q1 : (N == lf) = true := by simpa using hsm
      have q2 : (N != lf) = false := by simpa using hsm
      rw [if_pos hsm]
      clear hsm
      go_enter Try.func100, Try.ntmps100
      go_wp2_with fail
      refine (Hf.out _).mono ?_
      rintro e w' ⟨rfl, rfl⟩
      go_wp2_with fail
      refine (HL.out).mono ?_
      rintro e w3 ⟨rfl, f3⟩
      go_wp2_with fail
      refine (Hb.out _).mono ?_
      rintro e w' ⟨rfl, rfl⟩
      have hR3 := HR.out.fr0 f3
      have c1 := b1.fr f3 (fun e => e)
      have c2 := b2.fr f3 (fun e => e)
      have g1 := c1
      have g2 := c2
      have g10 := g1.cell 0
      have g11 := g1.cell 1
      have g12 := g1.cell 2
      have g13 := g1.cell 3
      have g20 := g2.cell 0
      have g21 := g2.cell 1
      simp only [List.getElem?_toArray, List.getElem?_cons_succ, List.getElem?_cons_zero] at g10 g11 g12 g13 g20 g21
      have z1 : ∀ i, w3.frozen? ⟨w.heap.size, i, none⟩ = false := fun i => g1.frozen i
      have z2 : ∀ i, w3.frozen? ⟨w.heap.size + 1, i, none⟩ = false := fun i => g2.frozen i
      obtain ⟨k1, k2, k3⟩ := stored (show w.heap.size ≠ w.heap.size + 1 by omega) g1 g2 (.bool true) (.int .u32 (va / 64)) (.int .u32 (lf / 256)) (.int .u32 (bits .and .u32 N 94)) (.int .i64 0) (.int .u32 0)
      have HK1 := Lib.hid k1
      have HK2 := Lib.hid k2
      have HF := Lib.hid (((fa.tr f3).none (S := fun q => q = gb ∨ q = gt)).trans (S := fun q => q = gb ∨ q = gt) k3 (fun i hi e => by omega))
      have HRR := Lib.hid (hR3.fr k3 (fun e => by omega) (fun e => by omega) (fun e => by omega))
      clear k1 k2 k3 g1 g2 hR3
      go_wp2_with fail
      try simp only [Exit.inBlock, Exit.then]
      refine bodyPost_ret (results_cell2 rfl _ _ w.heap.size (w.heap.size + 1) 132 63 _ _ _ _ rfl rfl HK1.out HK2.out Try.underlying132 rfl szE Try.underlying63 rfl szT) rfl ?_
      exact ⟨by rw [hdv.out]; rfl, HRR.out, HF.out⟩
    · have q1 : (N == lf) = false := by simpa using hsm
      have q2 : (N != lf) = true := by simpa using hsm
      rw [if_neg hsm, epw]
      clear hsm
      go_enter Try.func100, Try.ntmps100
      go_wp2_with fail
      refine (Hf.out _).mono ?_
      rintro e w' ⟨rfl, rfl⟩
      go_wp2_with fail
      refine (HL.out).mono ?_
      rintro e w3 ⟨rfl, f3⟩
      go_wp2_with fail
      refine (Hb.out _).mono ?_
      rintro e w' ⟨rfl, rfl⟩
      have hR3 := HR.out.fr0 f3
      have c1 := b1.fr f3 (fun e => e)
      have c2 := b2.fr f3 (fun e => e)
      have hR30 : RM w3 gM gb gt m.n (m.puts p (wby N) 0).mem (m.puts p (wby N) 0).tu := hR3
      have hw3 : w.heap.size + 2 ≤ w3.heap.size := by have := c2.lt; omega
      clear hR3
      go_wp2_with fail
      go_loopw [17] (fun i wr => ∃ r : Nat, r ≤ 4 ∧ i = .int .u64 r ∧ RM wr gM gb gt m.n (m.puts p (wby N) r).mem (m.puts p (wby N) r).tu ∧ Fr (fun q => q = gb ∨ q = gt) w3 wr) (fun i _ => 4 - (intOf i).toNat)
      case atStart => exact ⟨0, by omega, rfl, hR30, Fr.refl _ _⟩
      case round =>
        clear hR30
        obtain ⟨r, hr, rfl, hR, fx⟩ := hrel
        by_cases hlr : r < 4
        · rcases (by omega : r = 0 ∨ r = 1 ∨ r = 2 ∨ r = 3) with rfl | rfl | rfl | rfl
          · have u4 : IntKind.u32.wrap (p : Int) = (p : Int) := IntWalk.u32_in _ (by omega)
            have u3 : IntKind.u8.wrap N = N % 256 := IntKind.wrap_u8 _
            have hp := put_any wr gM gb gt m.n _ _ hR hn p (by omega) (N % 256)
            have em : updI (m.puts p (wby N) 0).mem p (N % 256) = (m.puts p (wby N) 1).mem := by
              rfl
            have et : updB (m.puts p (wby N) 0).tu (p / 64) true = (m.puts p (wby N) 1).tu := by
              rfl
            rw [em, et] at hp
            have Hp := Lib.hid hp
            clear hp em et hR
            go_wp2_with fail
            refine (Hp.out).mono ?_
            rintro e w5 ⟨rfl, hR5, f5⟩
            have fx5 := fx.tr f5
            go_wp2_with fail
            go_roundw
            case rel => exact ⟨1, by omega, rfl, hR5, fx5⟩
            case measure => simp [intOf]
          · obtain ⟨jr, hjr⟩ : ∃ q : Nat, q = p + 1 := ⟨_, rfl⟩
            have u4 : IntKind.u32.wrap (jr : Int) = (jr : Int) := IntWalk.u32_in _ (by omega)
            have u5 : IntKind.u32.wrap ((p : Int) + 1) = (jr : Int) := by rw [IntWalk.u32_in _ (by omega)]; omega
            have s3 : (p : Int) + 1 = (jr : Int) := by omega
            have s4 : IntKind.u64.wrap ((p : Int) + 1) = (jr : Int) := by rw [IntWalk.u64_in _ (by omega)]; omega
            have hp := put_any wr gM gb gt m.n _ _ hR hn jr (by omega) (N / 256 % 256)
            have em : updI (m.puts p (wby N) 1).mem jr (N / 256 % 256) = (m.puts p (wby N) 2).mem := by
              rw [hjr]
              rfl
            have et : updB (m.puts p (wby N) 1).tu (jr / 64) true = (m.puts p (wby N) 2).tu := by
              rw [hjr]
              rfl
            rw [em, et] at hp
            have Hp := Lib.hid hp
            clear hp em et hR hjr
            go_wp2_with fail
            refine (Hp.out).mono ?_
            rintro e w5 ⟨rfl, hR5, f5⟩
            have fx5 := fx.tr f5
            go_wp2_with fail
            go_roundw
            case rel => exact ⟨2, by omega, rfl, hR5, fx5⟩
            case measure => simp [intOf]
          · obtain ⟨jr, hjr⟩ : ∃ q : Nat, q = p + 2 := ⟨_, rfl⟩
            have u4 : IntKind.u32.wrap (jr : Int) = (jr : Int) := IntWalk.u32_in _ (by omega)
            have u5 : IntKind.u32.wrap ((p : Int) + 2) = (jr : Int) := by rw [IntWalk.u32_in _ (by omega)]; omega
            have s3 : (p : Int) + 2 = (jr : Int) := by omega
            have s4 : IntKind.u64.wrap ((p : Int) + 2) = (jr : Int) := by rw [IntWalk.u64_in _ (by omega)]; omega
            have hp := put_any wr gM gb gt m.n _ _ hR hn jr (by omega) (N / 65536 % 256)
            have em : updI (m.puts p (wby N) 2).mem jr (N / 65536 % 256) = (m.puts p (wby N) 3).mem := by
              rw [hjr]
              rfl
            have et : updB (m.puts p (wby N) 2).tu (jr / 64) true = (m.puts p (wby N) 3).tu := by
              rw [hjr]
              rfl
            rw [em, et] at hp
            have Hp := Lib.hid hp
            clear hp em et hR hjr
            go_wp2_with fail
            refine (Hp.out).mono ?_
            rintro e w5 ⟨rfl, hR5, f5⟩
            have fx5 := fx.tr f5
            go_wp2_with fail
            go_roundw
            case rel => exact ⟨3, by omega, rfl, hR5, fx5⟩
            case measure => simp [intOf]
          · obtain ⟨jr, hjr⟩ : ∃ q : Nat, q = p + 3 := ⟨_, rfl⟩
            have u4 : IntKind.u32.wrap (jr : Int) = (jr : Int) := IntWalk.u32_in _ (by omega)
            have u5 : IntKind.u32.wrap ((p : Int) + 3) = (jr : Int) := by rw [IntWalk.u32_in _ (by omega)]; omega
            have s3 : (p : Int) + 3 = (jr : Int) := by omega
            have s4 : IntKind.u64.wrap ((p : Int) + 3) = (jr : Int) := by rw [IntWalk.u64_in _ (by omega)]; omega
            have e24 : N / 16777216 % 256 = N / 16777216 := by omega
            have hp := put_any wr gM gb gt m.n _ _ hR hn jr (by omega) (N / 16777216)
            have em : updI (m.puts p (wby N) 3).mem jr (N / 16777216) = (m.puts p (wby N) 4).mem := by
              rw [hjr]; rw [← e24]
              rfl
            have et : updB (m.puts p (wby N) 3).tu (jr / 64) true = (m.puts p (wby N) 4).tu := by
              rw [hjr]
              rfl
            rw [em, et] at hp
            have Hp := Lib.hid hp
            clear hp em et hR hjr e24
            go_wp2_with fail
            refine (Hp.out).mono ?_
            rintro e w5 ⟨rfl, hR5, f5⟩
            have fx5 := fx.tr f5
            go_wp2_with fail
            go_roundw
            case rel => exact ⟨4, by omega, rfl, hR5, fx5⟩
            case measure => simp [intOf]
        · have e : r = 4 := by omega
          have q9 : decide ((r : Int) < 4) = false := by simp; omega
          rw [e] at hR
          have g1 := c1.fr fx (fun e => by omega)
          have g2 := c2.fr fx (fun e => by omega)
          have g10 := g1.cell 0
          have g11 := g1.cell 1
          have g12 := g1.cell 2
          have g13 := g1.cell 3
          have g20 := g2.cell 0
          have g21 := g2.cell 1
          simp only [List.getElem?_toArray, List.getElem?_cons_succ, List.getElem?_cons_zero] at g10 g11 g12 g13 g20 g21
          have z1 : ∀ i, wr.frozen? ⟨w.heap.size, i, none⟩ = false := fun i => g1.frozen i
          have z2 : ∀ i, wr.frozen? ⟨w.heap.size + 1, i, none⟩ = false := fun i => g2.frozen i
          obtain ⟨k1, k2, k3⟩ := stored (show w.heap.size ≠ w.heap.size + 1 by omega) g1 g2 (.bool true) (.int .u32 (va / 64)) (.int .u32 (lf / 256)) (.int .u32 (bits .and .u32 N 94)) (.int .i64 0) (.int .u32 0)
          have HK1 := Lib.hid k1
          have HK2 := Lib.hid k2
          have HF := Lib.hid ((((fa.tr f3).none (S := fun q => q = gb ∨ q = gt)).tr fx).trans (S := fun q => q = gb ∨ q = gt) k3 (fun i hi e => by omega))
          have HRR := Lib.hid (hR.fr k3 (fun e => by omega) (fun e => by omega) (fun e => by omega))
          clear k1 k2 k3 g1 g2 hR e
          go_wp2_with fail
          try simp only [Exit.inBlock, Exit.then]
          refine bodyPost_ret (results_cell2 rfl _ _ w.heap.size (w.heap.size + 1) 132 63 _ _ _ _ rfl rfl HK1.out HK2.out Try.underlying132 rfl szE Try.underlying63 rfl szT) rfl ?_
          exact ⟨by rw [hdv.out]; rfl, HRR.out, HF.out⟩
end Go.Proofs.Ythiephlfhbkcbaa.Wk
namespace Go.Proofs.Ythiephlfhbkcbaa.Mu
open Go.RowKit Fm Nt Rm By Wk
set_option linter.unusedVariables false
set_option linter.unusedSimpArgs false

theorem Un.ok {w : World} {A : Au} {u : Us} (h : Un w A u) : u.Ok := ⟨h.M.n0, h.M.bd⟩
section
variable {u : Us} {s : Sp} {va k n v : Int}
theorem Us.Ok.wb (h : u.Ok) (Q : Int) (h0 : 0 ≤ Q) : 0 ≤ wrdV u.m Q ∧ wrdV u.m Q ≤ 4294967295 := by
  unfold wrdV
  split
  · rename_i hb
    have hat : Q + 4 ≤ (u.m.n : Int) * 64 := by simpa [inB] using hb
    obtain ⟨i, rfl⟩ : ∃ i : Nat, Q = i := ⟨Q.toNat, by omega⟩
    rw [show (i : Int).toNat = i from rfl]
    have b0 := h.bd (i + 0) (by omega)
    have b1 := h.bd (i + 1) (by omega)
    have b2 := h.bd (i + 2) (by omega)
    have b3 := h.bd (i + 3) (by omega)
    show 0 ≤ (((0 * 256 + u.m.mem (i + 3)) * 256 + u.m.mem (i + 2)) * 256 + u.m.mem (i + 1)) * 256 + u.m.mem (i + 0) ∧ (((0 * 256 + u.m.mem (i + 3)) * 256 + u.m.mem (i + 2)) * 256 + u.m.mem (i + 1)) * 256 + u.m.mem (i + 0) ≤ 4294967295
    omega
  · omega
theorem Us.Ok.leaf (h : u.Ok) (rt va : Int) (r0 : 0 ≤ rt) (v0 : 0 ≤ va) : 0 ≤ lkLeaf u.m rt va ∧ lkLeaf u.m rt va ≤ 4294967295 := by
  unfold lkLeaf
  split
  · have h1 := h.wb (lkA rt va) (by unfold lkA; omega)
    exact h.wb _ (by unfold lkB; omega)
  · omega
theorem Us.Ok.at_ (h : u.Ok) (rt va : Int) (r0 : 0 ≤ rt) (v0 : 0 ≤ va) : 0 ≤ lkAt u.m rt va ∧ lkAt u.m rt va ≤ 4096 := by
  have hn := h.n0
  unfold lkAt
  split
  · rename_i hq
    have h1 := h.wb (lkA rt va) (by unfold lkA; omega)
    simp only [lkOk, Bool.and_eq_true, inB, decide_eq_true_eq] at hq
    have := hq.2.2.2
    refine ⟨by unfold lkB; omega, by omega⟩
  · omega
theorem lk_in {m : Ms} {rt va : Int} (hlo : lkOk m rt va = true) : inB m (lkAt m rt va) 4 = true := by
  have hq := hlo
  simp only [lkOk, Bool.and_eq_true] at hq
  rw [lkAt, hlo, if_pos rfl]
  exact hq.2.2.2
theorem do_lk {m : Ms} {rt va k : Int} {s : Bool} (h : doOk m rt va k s = true) : lkOk m rt va = true := by cases hq : lkOk m rt va <;> simp [doOk, hq] at h ⊢
theorem putW_bd {m : Ms} (hb : ∀ i, i < m.n * 64 → 0 ≤ m.mem i ∧ m.mem i < 256) (P x : Int) (x0 : 0 ≤ x) (x1 : x ≤ 4294967295) : ∀ i, i < (m.putW P x).n * 64 → 0 ≤ (m.putW P x).mem i ∧ (m.putW P x).mem i < 256 := by
  intro i hi
  unfold Ms.putW at hi ⊢
  split
  · rename_i h
    rw [if_pos h, puts_n] at hi
    rw [puts_mem]
    split
    · rename_i hq
      have e : i - P.toNat = 0 ∨ i - P.toNat = 1 ∨ i - P.toNat = 2 ∨ i - P.toNat = 3 := by omega
      rcases e with e | e | e | e <;> rw [e] <;> simp [wby] <;> omega
    · exact hb i hi
  · rename_i h
    rw [if_neg h] at hi
    exact hb i hi
theorem Us.Ok.walked (h : u.Ok) (rt va k : Int) (r0 : 0 ≤ rt) (v0 : 0 ≤ va) : (u.walked rt va k).Ok := by
  have hl := h.leaf rt va r0 v0
  have hn := now_bd k _ hl.1 hl.2
  refine ⟨?_, ?_⟩
  · show 1 ≤ (doMs u.m rt va k).n ∧ (doMs u.m rt va k).n ≤ 64
    rw [doMs_n]
    exact h.n0
  · show ∀ i, i < (doMs u.m rt va k).n * 64 → 0 ≤ (doMs u.m rt va k).mem i ∧ (doMs u.m rt va k).mem i < 256
    unfold doMs
    split
    · exact h.bd
    · exact putW_bd h.bd _ _ hn.1 hn.2
theorem Us.Ok.turned (h : u.Ok) (r0 : 0 ≤ s.rt) (v0 : 0 ≤ va) : (turnedR u s va k).u.Ok := by
  unfold turnedR
  split
  · exact h
  · split
    · exact h
    · split
      · exact h.walked _ _ _ r0 v0
      · exact h
theorem Us.Ok.place (h : u.Ok) (r0 : 0 ≤ s.rt) (v0 : 0 ≤ va) : (placeR u s va k).u.Ok := by
  unfold placeR
  split
  · exact h
  · split
    · exact h.turned r0 v0
    · split
      · exact h.turned r0 v0
      · exact h.turned r0 v0
theorem nextP_bd (h : 0 ≤ va) : 0 ≤ nextP va ∧ nextP va ≤ 4294967295 := by unfold nextP; omega
theorem Us.Ok.sec (h : u.Ok) (r0 : 0 ≤ s.rt) (v0 : 0 ≤ va) : (secR u s va n k).u.Ok := by
  unfold secR
  split
  · exact (h.place r0 v0).place r0 (nextP_bd v0).1
  · exact h.place r0 v0
theorem Us.Ok.span (h : u.Ok) (r0 : 0 ≤ s.rt) (v0 : 0 ≤ va) : (spanR u s va n k).u.Ok := by
  unfold spanR
  split
  · exact h
  · split
    · exact h.place r0 v0
    · split
      · exact h.sec r0 v0
      · split
        · exact h.sec r0 v0
        · split
          · exact h.sec r0 v0
          · exact h.sec r0 v0
theorem turned_bd' (h : u.Ok) (r0 : 0 ≤ s.rt) (v0 : 0 ≤ va) (v1 : va ≤ 4294967295) : 0 ≤ (turnedR u s va k).p ∧ (turnedR u s va k).p ≤ 4294967295 := by
  unfold turnedR
  split
  · exact ⟨v0, v1⟩
  · split
    · exact found_bd _ _ _ _ v0
    · split
      · have h1 := h.leaf s.rt va r0 v0
        have h2 := now_bd k _ h1.1 h1.2
        dsimp only
        omega
      · exact ⟨Int.le_refl _, by show (0 : Int) ≤ 4294967295; omega⟩
theorem place_in' (h : u.Ok) (r0 : 0 ≤ s.rt) (v0 : 0 ≤ va) (v1 : va ≤ 4294967295) (hc : (placeR u s va k).c = 0) : (placeR u s va k).a = 0 ∧ 0 ≤ (placeR u s va k).p ∧ (placeR u s va k).p ≤ 4294967295 ∧ (devB (placeR u s va k).p = false → (placeR u s va k).p < ((placeR u s va k).u.m.n : Int) * 64) := by
  have hb := turned_bd' (k := k) h r0 v0 v1
  unfold placeR at hc ⊢
  split
  · rename_i hq
    rw [if_pos hq] at hc
    exact absurd hc (by show ¬ (10 : Int) = 0; omega)
  · rename_i hq
    rw [if_neg hq] at hc
    split
    · rename_i hq2
      rw [if_pos hq2] at hc
      exact absurd hc hq2
    · rename_i hq2
      rw [if_neg hq2] at hc
      split
      · rename_i hq3
        refine ⟨rfl, hb.1, hb.2, fun hd => ?_⟩
        have hd : devB (turnedR u s va k).p = false := hd
        unfold thereB at hq3
        simpa [hd] using hq3
      · rename_i hq3
        rw [if_neg hq3] at hc
        exact absurd hc (by show ¬ (10 : Int) = 0; omega)
theorem turned_n : (turnedR u s va k).u.m.n = u.m.n := by
  unfold turnedR
  split
  · rfl
  · split
    · rfl
    · split
      · exact doMs_n _ _ _ _
      · rfl
theorem place_n : (placeR u s va k).u.m.n = u.m.n := by
  unfold placeR
  split
  · rfl
  · split
    · exact turned_n
    · split
      · exact turned_n
      · exact turned_n
theorem sec_n : (secR u s va n k).u.m.n = u.m.n := by
  unfold secR
  split
  · exact place_n.trans place_n
  · exact place_n
theorem span_n : (spanR u s va n k).u.m.n = u.m.n := by
  unfold spanR
  split
  · rfl
  · split
    · exact place_n
    · split
      · exact sec_n
      · split
        · exact sec_n
        · split
          · exact sec_n
          · exact sec_n
end
end Go.Proofs.Ythiephlfhbkcbaa.Mu
namespace Go.Proofs.Ythiephlfhbkcbaa.Mu
open Go.RowKit Fm Nt Rm By Wk Rf
set_option linter.unusedVariables false
set_option linter.unusedSimpArgs false
set_option maxHeartbeats 2000000

/-- the blocks that calls on the document's unit may write -/
def Dr.wr (r : Dr) (k : Nat) : Prop := k = r.gR ∨ k = r.gb ∨ k = r.gt
def DPost (w : World) (r : Dr) (x : Pr) (e : Ending) (w' : World) : Prop := e = .returned (.tuple #[.int .u32 x.p, trv x.c x.a]) ∧ Dn w' r x.u ∧ Fr r.wr w w'
section
variable {w w' : World} {r : Dr} {u : Us}
theorem Dn.nR (h : Dn w r u) : r.gR ≠ r.gb ∧ r.gR ≠ r.gt ∧ r.gR ≠ r.gM := by
  refine ⟨Cells.ne h.U h.R.cb (by decide), Cells.ne h.U h.R.ct (by decide), ?_⟩
  obtain ⟨cs, hcs, _⟩ := h.U
  exact Blk.ne_ hcs h.R.b (by decide)
theorem Dn.c0 (h : Dn w r u) : w.cell? ⟨r.gR, 0, none⟩ = some (.pointer (some ⟨r.gM, 0, none⟩)) := Cells.cell h.U 0 (by omega)
theorem Dn.drew (h : Dn w r u) : Dn w.drew r u := ⟨h.U, ⟨h.R.b, h.R.cb, h.R.ct⟩⟩
theorem Dn.setR (h : Dn w r u) {m' : Ms} (hR : RM w' r.gM r.gb r.gt m'.n m'.mem m'.tu) (f : Fr (fun q => q = r.gb ∨ q = r.gt) w w') : Dn w' r ⟨m', u.l⟩ :=
  ⟨h.U.fr f (fun e => by rcases e with e | e; exact h.nR.1 e; exact h.nR.2.1 e), hR⟩
theorem Dn.setL (h : Dn w r u) {l' : Nat → Tl.Ent} (hU : Tl.Uni w' r.gR (some ⟨r.gM, 0, none⟩) l') (f : Fr (· = r.gR) w w') : Dn w' r ⟨u.m, l'⟩ :=
  ⟨hU, h.R.fr f (fun e => h.nR.2.2 e.symm) (fun e => h.nR.1 e.symm) (fun e => h.nR.2.1 e.symm)⟩
theorem Dr.wr_its {k : Nat} (h : r.wr k) : r.its k := by
  rcases h with h | h | h
  · exact .inl h
  · exact .inr (.inr (.inl h))
  · exact .inr (.inr (.inr h))
end
/-- a trap is laid in its box -/
theorem trap_d {w w3 : World} {r : Dr} {u : Us} {g : Nat} {x0 x1 : Value} (b3 : Blk w3 g 63 #[x0, x1]) (H3 : Dn w3 r u) (f : Fr r.wr w w3) (hl : ∀ k, r.its k → k < w.heap.size) (hg : w.heap.size ≤ g) (y0 y1 : Value) :
    Blk ((w3.setCell ⟨g, 0, none⟩ y0).setCell ⟨g, 1, none⟩ y1) g 63 #[y0, y1] ∧ Dn ((w3.setCell ⟨g, 0, none⟩ y0).setCell ⟨g, 1, none⟩ y1) r u ∧ Fr r.wr w ((w3.setCell ⟨g, 0, none⟩ y0).setCell ⟨g, 1, none⟩ y1) := by
  have f2 : Fr (· = g) w3 ((w3.setCell ⟨g, 0, none⟩ y0).setCell ⟨g, 1, none⟩ y1) := (Fr.set1 w3 g 0 y0).setCell (p := ⟨g, 1, none⟩) (.inl rfl) y1
  exact ⟨(b3.set_ 0 y0).set_ 1 y1, H3.fr f2 (fun k hk e => by have := hl k hk; omega), f.trans f2 (fun i hi e => by omega)⟩
/-- what the document's walk hands back, in one form -/
theorem rdo_one (u : Us) (hO : u.Ok) (rt va k : Int) (su : Bool) (r0 : 0 ≤ rt) (r1 : rt ≤ 4294967295) (v0 : 0 ≤ va) (v1 : va ≤ 4294967295) (hk : k = 1 ∨ k = 2 ∨ k = 3) :
    ∃ (b : Bool) (x y z t q : Int) (m' : Ms), (∀ (r : Dr) W, RM W r.gM r.gb r.gt u.m.n u.m.mem u.m.tu → Calls Try.prog 100 #[.pointer (some ⟨r.gM, 0, none⟩), .int .u32 rt, .int .u32 va, .int .i64 k, .bool su] W fun e w' => e = .returned (.tuple #[.agg #[.bool b, .int .u32 x, .int .u32 y, .int .u32 z], trv t q]) ∧ RM w' r.gM r.gb r.gt m'.n m'.mem m'.tu ∧ Fr (fun g => g = r.gb ∨ g = r.gt) W w') ∧
      (doOk u.m rt va k su = true ∧ b = true ∧ x = va / 64 ∧ y = now k (lkLeaf u.m rt va) / 256 ∧ z = bits .and .u32 (now k (lkLeaf u.m rt va)) 94 ∧ t = 0 ∧ q = 0 ∧ m' = doMs u.m rt va k ∨ doOk u.m rt va k su = false ∧ t = flt k ∧ q = va ∧ m' = u.m) := by
  cases h : doOk u.m rt va k su
  · exact ⟨false, 0, 0, 0, flt k, va, u.m, fun r W hR => (rdo_fault W r.gM r.gb r.gt u.m hR hO.n0.2 hO.bd hO.wb rt va k su r0 r1 v0 v1 hk h).mono fun e w' ⟨h1, h2⟩ => ⟨h1, hR.fr0 h2, h2.none⟩, .inr ⟨rfl, rfl, rfl, rfl⟩⟩
  · exact ⟨true, va / 64, now k (lkLeaf u.m rt va) / 256, bits .and .u32 (now k (lkLeaf u.m rt va)) 94, 0, 0, doMs u.m rt va k, fun r W hR => (rdo_ok W r.gM r.gb r.gt u.m hR hO.n0.2 hO.bd hO.wb rt va k su r0 r1 v0 v1 hk h (hO.leaf rt va r0 v0) (hO.at_ rt va r0 v0) (lk_in (do_lk h))).mono fun e w' ⟨h1, h2, h3⟩ => ⟨h1, by rw [doMs_n]; exact h2, h3⟩, .inl ⟨rfl, rfl, rfl, rfl, rfl, rfl, rfl, rfl⟩⟩
theorem flt_n {k : Int} (hk : k = 1 ∨ k = 2 ∨ k = 3) : ¬ flt k = 0 := by rcases hk with rfl | rfl | rfl <;> decide
theorem rtwo (w : World) (e t : Array Value) : Blk ((w.alloc (.cells e 132)).alloc (.cells t 63)) w.heap.size 132 e ∧ Blk ((w.alloc (.cells e 132)).alloc (.cells t 63)) (w.heap.size + 1) 63 t ∧ Fr (fun _ => False) w ((w.alloc (.cells e 132)).alloc (.cells t 63)) := by
  refine ⟨(Blk.new w 132 e).alloc _, ?_, ((Fr.refl _ w).alloc _).alloc _⟩
  have := Blk.new (w.alloc (.cells e 132)) 63 t
  rwa [show (w.alloc (.cells e 132)).heap.size = w.heap.size + 1 by simp] at this
set_option maxRecDepth 100000 in
theorem rplace_any (w : World) (r : Dr) (u : Us) (h : Dn w r u) (hO : u.Ok) (s : Sp) (va k : Int) (r0 : 0 ≤ s.rt) (r1 : s.rt ≤ 4294967295) (v0 : 0 ≤ va) (v1 : va ≤ 4294967295) :
    Calls Try.prog 73 #[.pointer (some ⟨r.gR, 0, none⟩), .bool s.pg, .bool s.su, .int .u32 s.rt, .int .u32 va, .int .i64 k] w (DPost w r (placeR u s va k)) := by
  have hl := h.lt
  have b2 : Blk (w.alloc (.cells #[.int .i64 0, .int .u32 0] 63)) w.heap.size 63 #[.int .i64 0, .int .u32 0] := Blk.new _ _ _
  have b3 := Blk.new' (w.alloc (.cells #[.int .i64 0, .int .u32 0] 63)) 63 #[.int .i64 10, .int .u32 va] (n := w.heap.size + 1) (by simp)
  have b2 := b2.alloc (.cells #[.int .i64 10, .int .u32 va] 63)
  have fx : Fr (fun _ => False) w ((w.alloc (.cells #[.int .i64 0, .int .u32 0] 63)).alloc (.cells #[.int .i64 10, .int .u32 va] 63)) := ((Fr.refl _ w).alloc _).alloc _
  obtain ⟨res, hres⟩ : ∃ res, placeR u s va k = res := ⟨_, rfl⟩
  rw [hres]
  have HRES := Lib.hid hres
  go_enter Try.func73, Try.ntmps73
  go_upto_region 2 with (fail)
  generalize hw1 : (w.alloc (.cells #[.int .i64 0, .int .u32 0] 63)).alloc (.cells #[.int .i64 10, .int .u32 va] 63) = w1 at *
  have hs1 : w1.heap.size = w.heap.size + 2 := by rw [← hw1]; simp
  have H1 := Lib.hid (h.fr0 fx)
  have B2 := Lib.hid b2
  have B3 := Lib.hid b3
  have FX := Lib.hid fx
  have HOk := Lib.hid hO
  have e0 := b3.cell 0
  have e1 := b3.cell 1
  have e2 := b2.cell 0
  have e3 := b2.cell 1
  have e4 := b2.frozen 0
  have e5 := b2.frozen 1
  simp only [List.getElem?_toArray, List.getElem?_cons_succ, List.getElem?_cons_zero] at e0 e1 e2 e3
  clear hres h b2 b3 fx hw1 hO
  by_cases hk : k = 1 ∨ k = 2 ∨ k = 3
  · have hf1 := flt_n hk
    have hk1 : decide (k < 1) = false := by simp; omega
    have hk3 : decide (3 < k) = false := by simp; omega
    have Hr0 : Hid (res = if (turnedR u s va k).c ≠ 0 then ⟨0, (turnedR u s va k).c, (turnedR u s va k).a, (turnedR u s va k).u⟩ else if thereB (turnedR u s va k).u.m (turnedR u s va k).p k then ⟨(turnedR u s va k).p, 0, 0, (turnedR u s va k).u⟩ else ⟨0, 10, va, (turnedR u s va k).u⟩) := Lib.hid (by rw [← HRES.out, placeR, if_neg hf1])
    have hbd := turned_bd' (k := k) HOk.out r0 v0 v1
    have hTn : (turnedR u s va k).u.m.n = u.m.n := turned_n
    have HT : Hid (turnedR u s va k = if s.pg = false then ⟨va, 0, 0, u⟩ else if Tl.hit (u.l (idx va)) va k s.su then ⟨Tl.found (u.l (idx va)) va k s.su, 0, 0, u⟩
        else if doOk u.m s.rt va k s.su then ⟨now k (lkLeaf u.m s.rt va) / 256 * 64 + va % 64, 0, 0, u.walked s.rt va k⟩ else ⟨0, flt k, va, u⟩) := rfl
    have hnn := HOk.out.n0
    clear HRES hf1
    generalize turnedR u s va k = tr at *
    go_upto_if 30 with (fail)
    go_cut [15] (fun v wx => v = .int .u32 tr.p ∧ tr.c = 0 ∧ Dn wx r tr.u ∧ Fr r.wr w1 wx)
    case first =>
      obtain ⟨pg, su, rt⟩ := s
      dsimp only at r0 r1 HT ⊢
      cases pg
      · have ht : tr = ⟨va, 0, 0, u⟩ := by rw [HT.out, if_pos rfl]
        go_wp2_with fail
        go_meet
        rw [ht]
        exact ⟨rfl, rfl, H1.out, Fr.refl _ _⟩
      · have hfind := Tl.uFind_any w1 r.gR (some ⟨r.gM, 0, none⟩) u.l va k su v0 v1 (idx va) (idx_eq v0) H1.out.U
        have Hf := Lib.hid hfind
        have hfb := found_bd (u.l (idx va)) va k su v0
        have HT2 : Hid (tr = if Tl.hit (u.l (idx va)) va k su then ⟨Tl.found (u.l (idx va)) va k su, 0, 0, u⟩
          else if doOk u.m rt va k su then ⟨now k (lkLeaf u.m rt va) / 256 * 64 + va % 64, 0, 0, u.walked rt va k⟩ else ⟨0, flt k, va, u⟩) := Lib.hid (by rw [HT.out, if_neg (by simp)])
        clear hfind HT
        generalize Tl.hit (u.l (idx va)) va k su = hb at *
        generalize Tl.found (u.l (idx va)) va k su = fd at *
        go_wp2_with fail
        refine (Hf.out).mono ?_
        rintro e w2 ⟨rfl, f2⟩
        have H2 := H1.out.fr0 f2
        have g2 := B2.out.fr f2 (fun e => e)
        have hs2 := f2.size
        have F2 := Lib.hid (FX.out.tr f2)
        have F12 := Lib.hid f2
        have HU2 := Lib.hid H2
        have G2 := Lib.hid g2
        have d0 := H2.c0
        clear e0 e1 e2 e3 e4 e5 f2 H2 Hf
        cases hb
        · obtain ⟨b, x, y, z, t, q, m', hD, hcase⟩ := rdo_one u HOk.out rt va k su r0 r1 v0 v1 hk
          have HD := Lib.hid (hD r w2 HU2.out.R)
          have HC := Lib.hid hcase
          clear hD hcase
          go_wp2_with fail
          refine (HD.out).mono ?_
          rintro e w3 ⟨rfl, hR3, f3⟩
          have H3 := HU2.out.setR hR3 f3
          have g3 := g2.fr f3 (fun e => by have h1 := hl r.gb (.inr (.inr (.inl rfl))); have h2 := hl r.gt (.inr (.inr (.inr rfl))); omega)
          obtain ⟨cE, cT, fx3⟩ := rtwo w3 #[.bool b, .int .u32 x, .int .u32 y, .int .u32 z] #[.int .i64 t, .int .u32 q]
          have hs3 := f3.size
          go_upto_region 9 with (fail)
          generalize hw4 : (w3.alloc (.cells #[.bool b, .int .u32 x, .int .u32 y, .int .u32 z] 132)).alloc (.cells #[.int .i64 t, .int .u32 q] 63) = w4 at *
          have H4 := H3.fr0 fx3
          have g4 := g3.fr fx3 (fun e => e)
          have F4 : Fr r.wr w1 w4 := (F12.out.none.trans f3 (S := r.wr) (fun i hi e => by rcases e with e | e; exact .inr (.inl e); exact .inr (.inr e))).tr fx3.none
          have hs4 : w4.heap.size = w3.heap.size + 2 := by rw [← hw4]; simp
          have y0 := cT.cell 0
          have y1 := cT.cell 1
          have e2 := g4.cell 0
          have e3 := g4.cell 1
          have e4 := g4.frozen 0
          have e5 := g4.frozen 1
          simp only [List.getElem?_toArray, List.getElem?_cons_succ, List.getElem?_cons_zero] at e2 e3 y0 y1
          have H4h := Lib.hid H4
          have G4 := Lib.hid g4
          have CE := Lib.hid cE
          have F4h := Lib.hid F4
          clear hw4 H3 g3 f3 fx3 hR3 H4 g4 cT cE F4 g2 d0
          rcases HC.out with ⟨ho, rfl, rfl, rfl, rfl, rfl, rfl, rfl⟩ | ⟨ho, ht, rfl, rfl⟩
          · have hres : tr = ⟨now k (lkLeaf u.m rt va) / 256 * 64 + va % 64, 0, 0, ⟨doMs u.m rt va k, Tl.upd u.l (idx va) ⟨true, va / 64, now k (lkLeaf u.m rt va) / 256, bits .and .u32 (now k (lkLeaf u.m rt va)) 94⟩⟩⟩ := by rw [HT2.out, if_neg (by simp), if_pos ho]; rfl
            have hfb0 := HOk.out.leaf rt va r0 v0
            have hnb := now_bd k _ hfb0.1 hfb0.2
            have l0 := CE.out.cell 0
            have l1 := CE.out.cell 1
            have l2 := CE.out.cell 2
            have l3 := CE.out.cell 3
            simp only [List.getElem?_toArray, List.getElem?_cons_succ, List.getElem?_cons_zero] at l0 l1 l2 l3
            have hix := idx_eq v0
            have hix16 := idx_lt va
            obtain ⟨i0, i1, i2, i3⟩ := H4h.out.U.ent (idx va) hix16
            have j0 := Cells.frozen H4h.out.U (1 + idx va * 4)
            have j1 := Cells.frozen H4h.out.U (1 + idx va * 4 + 1)
            have j2 := Cells.frozen H4h.out.U (1 + idx va * 4 + 2)
            have j3 := Cells.frozen H4h.out.U (1 + idx va * 4 + 3)
            have hp0 : 0 ≤ now k (lkLeaf u.m rt va) / 256 := by omega
            have hp1 : now k (lkLeaf u.m rt va) / 256 ≤ 16777215 := by omega
            generalize doMs u.m rt va k = md at *
            generalize bits .and .u32 (now k (lkLeaf u.m rt va)) 94 = zb at *
            generalize now k (lkLeaf u.m rt va) / 256 = pf at *
            have HRES := Lib.hid hres
            have hput := Tl.Uni.put (w := w4.drew) (g := r.gR) (mp := some ⟨r.gM, 0, none⟩) (l := u.l) H4h.out.U (idx va) hix16 true (va / 64) pf zb
            have fput : Fr (· = r.gR) w4 ((((w4.drew.setCell ⟨r.gR, 1 + idx va * 4, none⟩ (.bool true)).setCell ⟨r.gR, 1 + idx va * 4 + 1, none⟩ (.int .u32 (va / 64))).setCell ⟨r.gR, 1 + idx va * 4 + 2, none⟩ (.int .u32 pf)).setCell ⟨r.gR, 1 + idx va * 4 + 3, none⟩ (.int .u32 zb)) := Tl.Fr.put4 (S := (· = r.gR)) (Fr.refl _ w4).drew rfl _ _ _ _ _ _ _ _
            have HX := Lib.hid (And.intro (H4h.out.setL hput fput) (F4h.out.trans fput (S := r.wr) (fun i hi e => .inl e)))
            have fput2 : Fr (· = r.gR) w4 ((((w4.setCell ⟨r.gR, 1 + idx va * 4, none⟩ (.bool true)).setCell ⟨r.gR, 1 + idx va * 4 + 1, none⟩ (.int .u32 (va / 64))).setCell ⟨r.gR, 1 + idx va * 4 + 2, none⟩ (.int .u32 pf)).setCell ⟨r.gR, 1 + idx va * 4 + 3, none⟩ (.int .u32 zb)) := Tl.Fr.put4 (S := (· = r.gR)) (Fr.refl _ w4) rfl _ _ _ _ _ _ _ _
            have l2' := fput2.cell l2 (show w3.heap.size < w4.heap.size by omega) (fun e => by have e : w3.heap.size = r.gR := e; have := hl r.gR (.inl rfl); omega)
            clear fput2
            clear hnb hres hfb0 hput fput HC HT2 e2 e3 e4 e5
            have hixi : (idx va : Int) < 16 := by omega
            have hix0 : (0 : Int) ≤ (idx va : Int) := by omega
            generalize idx va = ix at *
            go_wp2_with fail
            go_region
            all_goals
              go_wp2_with fail
              go_meet
              rw [HRES.out]
              exact ⟨rfl, rfl, HX.out.1, HX.out.2⟩
          · obtain rfl : tr = ⟨0, t, q, u⟩ := by rw [HT2.out, if_neg (by simp), if_neg (by simp [ho]), ht]
            have hf0 : (t != 0) = true := by rw [ht]; rcases hk with rfl | rfl | rfl <;> decide
            have hf2 : t ≠ 0 := by simpa using hf0
            obtain rfl : res = ⟨0, t, q, u⟩ := by rw [Hr0.out, if_pos hf2]
            have HE := Lib.hid (trap_d G4.out.drew H4h.out.drew (FX.out.none.tr F4h.out.drew) hl (Nat.le_refl _) (.int .i64 t) (.int .u32 q))
            clear ht HC HT2 Hr0 hf2
            go_wp2_with fail
            go_region
            all_goals
              go_wp2_with fail
              try simp only [Exit.inBlock, Exit.then]
              exact bodyPost_ret (results_tc rfl _ _ w.heap.size 63 _ _ _ rfl rfl HE.out.1 Try.underlying63 rfl szT) rfl ⟨rfl, HE.out.2⟩
        · have ht : tr = ⟨fd, 0, 0, u⟩ := by rw [HT2.out, if_pos rfl]
          go_wp2_with fail
          go_meet
          rw [ht]
          exact ⟨rfl, rfl, HU2.out, F12.out.none⟩
    case rest =>
      obtain ⟨rfl, hc, hD, f2⟩ := hcut
      have f2x := FX.out.none.tr f2
      have g2 := B2.out.fr f2 (fun e => by have := hl _ (Dr.wr_its e); omega)
      have g3 := B3.out.fr f2 (fun e => by have := hl _ (Dr.wr_its e); omega)
      have hs2 := f2.size
      clear e0 e1 e2 e3 e4 e5
      have e0 := g3.cell 0
      have e1 := g3.cell 1
      have e2 := g2.cell 0
      have e3 := g2.cell 1
      have e4 := g2.frozen 0
      have e5 := g2.frozen 1
      have d0 := hD.c0
      simp only [List.getElem?_toArray, List.getElem?_cons_succ, List.getElem?_cons_zero] at e0 e1 e2 e3
      have Hr1 : Hid (res = if thereB tr.u.m tr.p k then ⟨tr.p, 0, 0, tr.u⟩ else ⟨0, 10, va, tr.u⟩) := Lib.hid (by rw [Hr0.out, if_neg (fun e => e hc)])
      have HEnd : Hid (∀ y0 y1, Blk ((wc.drew.setCell ⟨w.heap.size, 0, none⟩ y0).setCell ⟨w.heap.size, 1, none⟩ y1) w.heap.size 63 #[y0, y1] ∧ Dn ((wc.drew.setCell ⟨w.heap.size, 0, none⟩ y0).setCell ⟨w.heap.size, 1, none⟩ y1) r tr.u ∧ Fr r.wr w ((wc.drew.setCell ⟨w.heap.size, 0, none⟩ y0).setCell ⟨w.heap.size, 1, none⟩ y1)) := Lib.hid (fun y0 y1 => trap_d g2.drew hD.drew f2x.drew hl (Nat.le_refl _) y0 y1)
      have HEn2 := Lib.hid (trap_d g2 hD f2x hl (Nat.le_refl _) (.int .i64 0) (.int .u32 0))
      have Hh := Lib.hid (Rf.has_any wc r.gM r.gb r.gt tr.u.m.n tr.u.m.mem tr.u.m.tu hD.R (by omega) tr.p hbd.1 hbd.2)
      have hu64 : IntKind.u64.wrap tr.p = tr.p := IntWalk.u64_in _ (by omega)
      clear g2 g3 hD f2 f2x Hr0 HT hc
      unfold thereB devB at Hr1
      obtain ⟨p, c, a, u'⟩ := tr
      dsimp only at hbd hu64 hTn Hr1 HEnd Hh HEn2 d0 ⊢
      obtain ⟨q0, q1⟩ := hbd
      by_cases hp : p < (u'.m.n : Int) * 64
      · obtain rfl : res = ⟨p, 0, 0, u'⟩ := by rw [Hr1.out, if_pos (by simp [hp])]
        have hpd : decide (p < (u'.m.n : Int) * 64) = true := by simp [hp]
        rw [hpd] at Hh
        clear hp hpd Hr1
        go_wp2_with fail
        refine (Hh.out).mono ?_
        rintro e w' ⟨rfl, rfl⟩
        go_wp2_with fail
        try simp only [Exit.inBlock, Exit.then]
        exact bodyPost_ret (results_tc rfl _ _ w.heap.size 63 _ _ _ rfl rfl HEn2.out.1 Try.underlying63 rfl szT) rfl ⟨rfl, HEn2.out.2⟩
      · have hpd : decide (p < (u'.m.n : Int) * 64) = false := by simpa using hp
        rw [hpd] at Hh
        by_cases hk1 : k = 1
        · obtain rfl : res = ⟨0, 10, va, u'⟩ := by rw [Hr1.out, if_neg (by simp [hp, hk1])]
          subst hk1
          clear hp hpd Hr1
          go_wp2_with fail
          refine (Hh.out).mono ?_
          rintro e w' ⟨rfl, rfl⟩
          go_wp2_with fail
          go_region
          all_goals
            go_wp2_with fail
            try simp only [Exit.inBlock, Exit.then]
            have hf := HEnd.out (.int .i64 10) (.int .u32 va)
            exact bodyPost_ret (results_tc rfl _ _ w.heap.size 63 _ _ _ rfl rfl hf.1 Try.underlying63 rfl szT) rfl ⟨rfl, hf.2⟩
        · have hk1' : (k != 1) = true := by simpa using hk1
          by_cases hd1 : 32768 ≤ p
          · by_cases hd2 : p < 33024
            · obtain rfl : res = ⟨p, 0, 0, u'⟩ := by rw [Hr1.out, if_pos (by simp [hk1, hd1, hd2])]
              clear hp hpd Hr1 hk1
              go_wp2_with fail
              refine (Hh.out).mono ?_
              rintro e w' ⟨rfl, rfl⟩
              go_wp2_with fail
              try simp only [Exit.inBlock, Exit.then]
              exact bodyPost_ret (results_tc rfl _ _ w.heap.size 63 _ _ _ rfl rfl HEn2.out.1 Try.underlying63 rfl szT) rfl ⟨rfl, HEn2.out.2⟩
            · obtain rfl : res = ⟨0, 10, va, u'⟩ := by rw [Hr1.out, if_neg (by simp [hp, hd2])]
              have hd2' : decide (p < 33024) = false := by simpa using hd2
              clear hp hpd Hr1 hk1 hd2
              go_wp2_with fail
              refine (Hh.out).mono ?_
              rintro e w' ⟨rfl, rfl⟩
              go_wp2_with fail
              go_region
              all_goals
                go_wp2_with fail
                try simp only [Exit.inBlock, Exit.then]
                have hf := HEnd.out (.int .i64 10) (.int .u32 va)
                exact bodyPost_ret (results_tc rfl _ _ w.heap.size 63 _ _ _ rfl rfl hf.1 Try.underlying63 rfl szT) rfl ⟨rfl, hf.2⟩
          · obtain rfl : res = ⟨0, 10, va, u'⟩ := by rw [Hr1.out, if_neg (by simp [hp, hd1])]
            have hd1' : decide (32768 ≤ p) = false := by simpa using hd1
            clear hp hpd Hr1 hk1 hd1
            go_wp2_with fail
            refine (Hh.out).mono ?_
            rintro e w' ⟨rfl, rfl⟩
            go_wp2_with fail
            go_region
            all_goals
              go_wp2_with fail
              try simp only [Exit.inBlock, Exit.then]
              have hf := HEnd.out (.int .i64 10) (.int .u32 va)
              exact bodyPost_ret (results_tc rfl _ _ w.heap.size 63 _ _ _ rfl rfl hf.1 Try.underlying63 rfl szT) rfl ⟨rfl, hf.2⟩
  · have hf0 : flt k = 0 := by unfold flt; rw [if_neg (by omega), if_neg (by omega), if_neg (by omega)]
    obtain rfl : res = ⟨0, 10, va, u⟩ := by rw [← HRES.out, placeR, if_pos hf0]
    have HE := Lib.hid (trap_d B2.out.drew H1.out.drew FX.out.drew.none hl (Nat.le_refl _) (.int .i64 10) (.int .u32 va))
    clear hf0 HRES
    by_cases hk1 : k < 1
    · clear hk
      go_wp2_with fail
      go_region
      all_goals
        go_wp2_with fail
        try simp only [Exit.inBlock, Exit.then]
        exact bodyPost_ret (results_tc rfl _ _ w.heap.size 63 _ _ _ rfl rfl HE.out.1 Try.underlying63 rfl szT) rfl ⟨rfl, HE.out.2⟩
    · have hk1' : decide (k < 1) = false := by simpa using hk1
      have hk3 : 3 < k := by omega
      clear hk hk1
      go_wp2_with fail
      go_region
      all_goals
        go_wp2_with fail
        try simp only [Exit.inBlock, Exit.then]
        exact bodyPost_ret (results_tc rfl _ _ w.heap.size 63 _ _ _ rfl rfl HE.out.1 Try.underlying63 rfl szT) rfl ⟨rfl, HE.out.2⟩
end Go.Proofs.Ythiephlfhbkcbaa.Mu
namespace Go.Proofs.Ythiephlfhbkcbaa.Mu
open Go.RowKit Fm Nt Rm By Wk Rf
set_option linter.unusedVariables false
set_option linter.unusedSimpArgs false
set_option maxHeartbeats 2000000

def RPost (w : World) (r : Dr) (x : Lr) (e : Ending) (w' : World) : Prop :=
  ∃ Al n c, e = .returned (.tuple #[.slice Al n c, trv x.c x.a]) ∧ IntsAt .u32 w' w'.heap.size Al n x.l ∧ (0 < n → ∀ b off, Al = some ⟨b, off, none⟩ → w.heap.size ≤ b) ∧ n ≤ c ∧ Dn w' r x.u ∧ Fr r.wr w w'
theorem rpost_nil {w w' : World} {r : Dr} {u : Us} {c a : Int} (h : Dn w' r u) (f : Fr r.wr w w') : RPost w r ⟨[], c, a, u⟩ (.returned (.tuple #[.slice none 0 0, trv c a])) w' := ⟨none, 0, 0, rfl, intsAt_nil _ _ _ _, fun h => absurd h (by omega), Nat.le_refl _, h, f⟩
theorem dev_ge {p : Int} {N : Int} (hN : N ≤ 4096) (h : devB p = true) : 32768 ≤ p ∧ ¬ p < N := by
  simp [devB] at h
  omega
set_option maxRecDepth 100000 in
theorem rplaces_any (w : World) (r : Dr) (u : Us) (h : Dn w r u) (hO : u.Ok) (s : Sp) (va n k : Int) (r0 : 0 ≤ s.rt) (r1 : s.rt ≤ 4294967295) (v0 : 0 ≤ va) (v1 : va ≤ 4294967295) :
    Calls Try.prog 102 #[.pointer (some ⟨r.gR, 0, none⟩), .bool s.pg, .bool s.su, .int .u32 s.rt, .int .u32 va, .int .i64 n, .int .i64 k] w (RPost w r (spanR u s va n k)) := by
  have hl := h.lt
  obtain ⟨i0, hi0, hz0, hz1, hz2⟩ := info_parts infoU32
  have b2 : Blk (w.alloc (.cells #[.int .i64 0, .int .u32 0] 63)) w.heap.size 63 #[.int .i64 0, .int .u32 0] := Blk.new _ _ _
  have fx : Fr (fun _ => False) w (w.alloc (.cells #[.int .i64 0, .int .u32 0] 63)) := (Fr.refl _ w).alloc _
  obtain ⟨res, hres⟩ : ∃ res, spanR u s va n k = res := ⟨_, rfl⟩
  rw [hres]
  have HRES := Lib.hid hres
  have HOk := Lib.hid hO
  go_enter Try.func102, Try.ntmps102
  go_upto_region 1 with (fail)
  generalize hw1 : w.alloc (.cells #[.int .i64 0, .int .u32 0] 63) = w1 at *
  have H1 := Lib.hid (h.fr0 fx)
  have B2 := Lib.hid b2
  have FX := Lib.hid fx
  have hs1 : w1.heap.size = w.heap.size + 1 := by rw [← hw1]; simp
  have e2 := b2.cell 0
  have e3 := b2.cell 1
  have e4 := b2.frozen 0
  have e5 := b2.frozen 1
  simp only [List.getElem?_toArray, List.getElem?_cons_succ, List.getElem?_cons_zero] at e2 e3
  clear hres h b2 fx hw1 hO
  by_cases hn : n < 1 ∨ 4 < n
  · obtain rfl : res = ⟨[], 10, va, u⟩ := by rw [← HRES.out, spanR, if_pos hn]
    have HE := Lib.hid (trap_d B2.out H1.out FX.out.none hl (Nat.le_refl _) (.int .i64 10) (.int .u32 va))
    clear HRES
    rcases hn with hn | hn
    · go_wp2_with fail
      try simp only [Exit.inBlock, Exit.then]
      exact bodyPost_ret (results_tc rfl _ _ w.heap.size 63 _ _ _ rfl rfl HE.out.1 Try.underlying63 rfl szT) rfl (rpost_nil HE.out.2.1 HE.out.2.2)
    · have hn' : decide (n < 1) = false := by simp; omega
      go_wp2_with fail
      try simp only [Exit.inBlock, Exit.then]
      exact bodyPost_ret (results_tc rfl _ _ w.heap.size 63 _ _ _ rfl rfl HE.out.1 Try.underlying63 rfl szT) rfl (rpost_nil HE.out.2.1 HE.out.2.2)
  · have hn1 : 1 ≤ n := by omega
    have hn4 : n ≤ 4 := by omega
    have hn1' : decide (n < 1) = false := by simp; omega
    have hn4' : decide (4 < n) = false := by simp; omega
    have Hp := Lib.hid (rplace_any w1 r u H1.out HOk.out s va k r0 r1 v0 v1)
    have HIN := Lib.hid (place_in' (k := k) HOk.out r0 v0 v1)
    have HO1 := Lib.hid (HOk.out.place (k := k) r0 v0)
    have HR1 : Hid (res = if (placeR u s va k).c ≠ 0 then ⟨[], (placeR u s va k).c, (placeR u s va k).a, (placeR u s va k).u⟩
      else if (secR u s va n k).c ≠ 0 then ⟨[], (secR u s va n k).c, (secR u s va n k).a, (secR u s va n k).u⟩
      else if devB (placeR u s va k).p then ⟨[], 10, va, (secR u s va n k).u⟩
      else if 64 - va % 64 < n ∧ devB (secR u s va n k).p = true then ⟨[], 10, nextP va, (secR u s va n k).u⟩
      else ⟨spots (64 - va % 64) (placeR u s va k).p (secR u s va n k).p n.toNat, 0, 0, (secR u s va n k).u⟩) := Lib.hid (by rw [← HRES.out, spanR, if_neg hn])
    have hsec : secR u s va n k = if 64 - va % 64 < n then placeR (placeR u s va k).u s (nextP va) k else ⟨0, 0, 0, (placeR u s va k).u⟩ := rfl
    rw [hsec] at HR1
    clear hn HRES hsec
    generalize placeR u s va k = pr at *
    obtain ⟨p, c, a, u1⟩ := pr
    dsimp only at HIN HR1 HO1
    go_wp2_with fail
    refine (Hp.out).mono ?_
    rintro e w2 ⟨rfl, hU2, f2⟩
    dsimp only at hU2 ⊢
    have f2x := FX.out.none.trans f2 (S := r.wr) (fun i hi e => e)
    have g2 := B2.out.fr f2 (fun e => by have := hl _ (Dr.wr_its e); omega)
    have hs2 := f2.size
    have fy : Fr (fun _ => False) w2 (w2.alloc (.cells #[.int .i64 c, .int .u32 a] 63)) := (Fr.refl _ _).alloc _
    have g4 := Blk.new w2 63 #[.int .i64 c, .int .u32 a]
    have H3 := hU2.fr0 fy
    have g2 := g2.fr fy (fun e => e)
    have F3 := f2x.tr fy.none
    go_upto_region 4 with (fail)
    generalize hw3 : w2.alloc (.cells #[.int .i64 c, .int .u32 a] 63) = w3 at *
    have hs3 : w3.heap.size = w2.heap.size + 1 := by rw [← hw3]; simp
    clear e2 e3 e4 e5 f2 f2x fy hU2 hw3
    have e2 := g2.cell 0
    have e3 := g2.cell 1
    have e4 := g2.frozen 0
    have e5 := g2.frozen 1
    have x0 := g4.cell 0
    have x1 := g4.cell 1
    have x2 := g4.frozen 0
    have x3 := g4.frozen 1
    simp only [List.getElem?_toArray, List.getElem?_cons_succ, List.getElem?_cons_zero] at e2 e3 x0 x1
    have HU3 := Lib.hid H3
    have G2 := Lib.hid g2
    have G4 := Lib.hid g4
    have F3h := Lib.hid F3
    clear g2 g4 H3 F3
    by_cases hc : c = 0
    · obtain ⟨ha, hp0, hp1, hpd⟩ := HIN.out hc
      have HPD := Lib.hid hpd
      subst hc ha
      clear HIN hpd
      have HR2 : Hid (res = if (if 64 - va % 64 < n then placeR u1 s (nextP va) k else ⟨0, 0, 0, u1⟩).c ≠ 0 then ⟨[], (if 64 - va % 64 < n then placeR u1 s (nextP va) k else ⟨0, 0, 0, u1⟩).c, (if 64 - va % 64 < n then placeR u1 s (nextP va) k else ⟨0, 0, 0, u1⟩).a, (if 64 - va % 64 < n then placeR u1 s (nextP va) k else ⟨0, 0, 0, u1⟩).u⟩
        else if devB p then ⟨[], 10, va, (if 64 - va % 64 < n then placeR u1 s (nextP va) k else ⟨0, 0, 0, u1⟩).u⟩
        else if 64 - va % 64 < n ∧ devB (if 64 - va % 64 < n then placeR u1 s (nextP va) k else ⟨0, 0, 0, u1⟩).p = true then ⟨[], 10, nextP va, (if 64 - va % 64 < n then placeR u1 s (nextP va) k else ⟨0, 0, 0, u1⟩).u⟩
        else ⟨spots (64 - va % 64) p (if 64 - va % 64 < n then placeR u1 s (nextP va) k else ⟨0, 0, 0, u1⟩).p n.toNat, 0, 0, (if 64 - va % 64 < n then placeR u1 s (nextP va) k else ⟨0, 0, 0, u1⟩).u⟩) := Lib.hid (by rw [HR1.out, if_neg (by simp)])
      clear HR1
      have hnn1 := HO1.out.n0
      have hx2 : (va / 64 + 1) * 64 % 4294967296 = nextP va := by unfold nextP; congr 1; omega
      have hnb : 0 ≤ nextP va ∧ nextP va ≤ 4294967295 := by unfold nextP; omega
      obtain ⟨N, rfl⟩ : ∃ N : Nat, n = N := ⟨n.toNat, by omega⟩
      have hN : ((N : Int)).toNat = N := rfl
      rw [hN] at HR2
      have hlf0 : 0 ≤ va % 64 := by omega
      have hlf1 : va % 64 < 64 := by omega
      have hup : IntKind.u64.wrap p = p := IntWalk.u64_in _ (by omega)
      generalize nextP va = nx at *
      by_cases hcr : 64 - va % 64 < (N : Int)
      · rw [if_pos hcr] at HR2
        have Hq := Lib.hid (rplace_any w3 r u1 HU3.out HO1.out s nx k r0 r1 hnb.1 hnb.2)
        have HIN := Lib.hid (place_in' (k := k) HO1.out r0 hnb.1 hnb.2)
        have HO2 := Lib.hid (HO1.out.place (k := k) r0 hnb.1)
        generalize placeR u1 s nx k = pr at *
        obtain ⟨q, c, a, u2⟩ := pr
        dsimp only at HIN HR2 HO2
        go_wp2_with fail
        refine (Hq.out).mono ?_
        rintro e w4 ⟨rfl, hU4, f4⟩
        dsimp only at hU4 ⊢
        have F4 := F3h.out.trans f4 (S := r.wr) (fun i hi e => e)
        have g2 := G2.out.fr f4 (fun e => by have := hl _ (Dr.wr_its e); omega)
        have g4 := G4.out.fr f4 (fun e => by have := hl _ (Dr.wr_its e); omega)
        have hs4 := f4.size
        clear e2 e3 e4 e5 x0 x1 x2 x3
        have x0 := g4.cell 0
        have x1 := g4.cell 1
        have x2 := g4.frozen 0
        have x3 := g4.frozen 1
        simp only [List.getElem?_toArray, List.getElem?_cons_succ, List.getElem?_cons_zero] at x0 x1
        obtain ⟨k4, HU5, F5⟩ := trap_d g4 hU4 F4 hl (show w.heap.size ≤ w2.heap.size by omega) (.int .i64 c) (.int .u32 a)
        have g2 := (g2.far (p := ⟨w2.heap.size, 0, none⟩) (show w.heap.size ≠ w2.heap.size by omega) (.int .i64 c)).far (p := ⟨w2.heap.size, 1, none⟩) (show w.heap.size ≠ w2.heap.size by omega) (.int .u32 a)
        have hs5 : ((w4.setCell ⟨w2.heap.size, 0, none⟩ (.int .i64 c)).setCell ⟨w2.heap.size, 1, none⟩ (.int .u32 a)).heap.size = w4.heap.size := by simp
        go_upto_region 11 with (fail)
        generalize hw5 : (w4.setCell ⟨w2.heap.size, 0, none⟩ (.int .i64 c)).setCell ⟨w2.heap.size, 1, none⟩ (.int .u32 a) = w5 at *
        have HU := Lib.hid HU5
        have B11 := Lib.hid g2
        have B13 := Lib.hid k4
        have FF := Lib.hid F5
        clear g4 hU4 F4 f4 HU5 k4 F5 hw5
        have e2 := g2.cell 0
        have e3 := g2.cell 1
        have e4 := g2.frozen 0
        have e5 := g2.frozen 1
        have y0 := B13.out.cell 0
        have y1 := B13.out.cell 1
        simp only [List.getElem?_toArray, List.getElem?_cons_succ, List.getElem?_cons_zero] at e2 e3 y0 y1
        clear g2 x0 x1 x2 x3
        by_cases hc2 : c = 0
        · obtain ⟨ha, hq0, hq1, hqd⟩ := HIN.out hc2
          have HQD := Lib.hid hqd
          subst hc2 ha
          have HR3 : Hid (res = if devB p then ⟨[], 10, va, u2⟩ else if 64 - va % 64 < (N : Int) ∧ devB q = true then ⟨[], 10, nx, u2⟩ else ⟨spots (64 - va % 64) p q N, 0, 0, u2⟩) := Lib.hid (by rw [HR2.out, if_neg (by simp)])
          have hnn := HO2.out.n0
          have huq : IntKind.u64.wrap q = q := IntWalk.u64_in _ (by omega)
          clear HIN HR2 hqd
          cases hdp : devB p
          · have hp2 := HPD.out hdp
            cases hdq : devB q
            · have hq2 := HQD.out hdq
              obtain rfl : res = ⟨spots (64 - va % 64) p q N, 0, 0, u2⟩ := by rw [HR3.out, if_neg (by simp [hdp]), if_neg (by simp [hdq])]
              clear HR3 HPD HQD hdp hdq
              go_wp2_with fail
              clear e2 e3 e4 e5
              have hs5_ : w4.heap.size ≤ w5.heap.size := by omega
              clear y0 y1 hs5
              try simp only [hx2]
              clear hx2
              go_loopw [21, 22] (fun v i wr => ∃ j : Nat, j ≤ N ∧ i = .int .i64 j ∧ wr.ownsRow 0 22 1 v j (by32 (spots (64 - va % 64) p q j)) ∧ Fr (fun _ => False) w5 wr ∧ (∀ b, v.ownBlock = some b → w5.heap.size ≤ b)) (fun _ i _ => N - (intOf i).toNat)
              case atStart => exact ⟨0, by omega, rfl, ⟨rfl, .inl ⟨rfl, rfl⟩⟩, Fr.refl _ _, fun k hk => by simp [Value.ownBlock] at hk⟩
              case round =>
                obtain ⟨j, hj, rfl, hown, fr, hat⟩ := hrel
                by_cases hlt : j < N
                · have hlt' : (j : Int) < (N : Int) := by omega
                  by_cases hjl : (j : Int) < 64 - va % 64
                  · have w0 : IntKind.u32.wrap (p + (j : Int)) = p + (j : Int) := IntWalk.u32_in _ (by omega)
                    have hge : decide (64 - va % 64 ≤ (j : Int)) = false := by simp; omega
                    have hpl : decide (32768 ≤ p) = false := by simp; omega
                    have hown' := own_alloc hown (.cells #[.int .u32 (p + (j : Int))] 22)
                    have HS := Lib.hid (spots_succ (64 - va % 64) p q j)
                    have HSP : Hid (spot (64 - va % 64) p q (j : Nat) = p + (j : Int)) := Lib.hid (by unfold spot; rw [if_pos hjl])
                    have hlen := spots_len (64 - va % 64) p q j
                    generalize spots (64 - va % 64) p q j = l at *
                    go_wp2_with
                      (at_builtin
                       refine wpList_append_any _ rfl (.tmp 109) (.tmp 111) _ rfl 0 22 i0 _ 1 4 Try.underlying34 hi0 hz0 hz1 hz2 rfl (by omega) u21 j (by32 l) rfl hown' (wr.heap.size + 1) (some ⟨wr.heap.size, 0, none⟩) 1 1 [.int .u32 (p + (j : Int))] rfl (reads_blk (Blk.new _ _ _) rfl) (by simp [Value.oneCell']) (by simp only [maxLen]; omega) (by omega) (Nat.zero_le _) ?_
                       intro v1 w6 hown1 hg1 hat1)
                    go_roundw
                    case rel =>
                      refine ⟨j + 1, by omega, by go_num, ?_, (fr.alloc _).grown hg1 (fun q hq => .inr (hat q hq)), fun q hq => ?_⟩
                      · rw [HS.out, HSP.out]; simpa [by32] using hown1
                      · rcases hat1 with e | e
                        · exact hat q (by rw [← e]; exact hq)
                        · rw [e] at hq
                          have h6 : wr.heap.size + 1 = q := by simpa using hq
                          have := fr.size
                          omega
                    case measure => simp [intOf]; omega
                  · have w0 : IntKind.u32.wrap (p + (j : Int)) = p + (j : Int) := IntWalk.u32_in _ (by omega)
                    have hge : decide (64 - va % 64 ≤ (j : Int)) = true := by simp; omega
                    have w1_ : IntKind.u32.wrap ((j : Int) - (64 - va % 64)) = (j : Int) - (64 - va % 64) := IntWalk.u32_in _ (by omega)
                    have w2_ : IntKind.u32.wrap (q + ((j : Int) - (64 - va % 64))) = q + ((j : Int) - (64 - va % 64)) := IntWalk.u32_in _ (by omega)
                    have hql : decide (32768 ≤ q) = false := by simp; omega
                    have hown' := own_alloc hown (.cells #[.int .u32 (q + ((j : Int) - (64 - va % 64)))] 22)
                    have HS := Lib.hid (spots_succ (64 - va % 64) p q j)
                    have HSP : Hid (spot (64 - va % 64) p q (j : Nat) = q + ((j : Int) - (64 - va % 64))) := Lib.hid (by unfold spot; rw [if_neg hjl])
                    have hlen := spots_len (64 - va % 64) p q j
                    generalize spots (64 - va % 64) p q j = l at *
                    go_wp2_with
                      (at_builtin
                       refine wpList_append_any _ rfl (.tmp 109) (.tmp 111) _ rfl 0 22 i0 _ 1 4 Try.underlying34 hi0 hz0 hz1 hz2 rfl (by omega) u21 j (by32 l) rfl hown' (wr.heap.size + 1) (some ⟨wr.heap.size, 0, none⟩) 1 1 [.int .u32 (q + ((j : Int) - (64 - va % 64)))] rfl (reads_blk (Blk.new _ _ _) rfl) (by simp [Value.oneCell']) (by simp only [maxLen]; omega) (by omega) (Nat.zero_le _) ?_
                       intro v1 w6 hown1 hg1 hat1)
                    go_roundw
                    case rel =>
                      refine ⟨j + 1, by omega, by go_num, ?_, (fr.alloc _).grown hg1 (fun q hq => .inr (hat q hq)), fun q hq => ?_⟩
                      · rw [HS.out, HSP.out]; simpa [by32] using hown1
                      · rcases hat1 with e | e
                        · exact hat q (by rw [← e]; exact hq)
                        · rw [e] at hq
                          have h6 : wr.heap.size + 1 = q := by simpa using hq
                          have := fr.size
                          omega
                    case measure => simp [intOf]; omega
                · have hje : j = N := by omega
                  have hlt' : decide ((j : Int) < (N : Int)) = false := by simp; omega
                  rw [hje] at hown
                  obtain ⟨Al, cp, rfl⟩ := ownI_any hown
                  have hoc := own_cap hown
                  have HUe := HU.out.fr0 fr
                  have be := B11.out.fr fr (fun e => e)
                  have FFe := FF.out.tr fr.none
                  have e2 := be.cell 0
                  have e3 := be.cell 1
                  have e4 := be.frozen 0
                  have e5 := be.frozen 1
                  simp only [List.getElem?_toArray, List.getElem?_cons_succ, List.getElem?_cons_zero] at e2 e3
                  have II : IntsAt .u32 wr wr.heap.size Al N (spots (64 - va % 64) p q N) := Bk.own_ints hown (fun z hz => by
                    unfold spots spot at hz
                    obtain ⟨i, hi, rfl⟩ := List.mem_map.1 hz
                    have := List.mem_range.1 hi
                    split
                    · exact wf_u32_mk (by omega) (by omega)
                    · exact wf_u32_mk (by omega) (by omega))
                  have HF0 := Lib.hid (trap_d be HUe FFe hl (Nat.le_refl _) (.int .i64 0) (.int .u32 0))
                  have hbs : ∀ b off, Al = some ⟨b, off, none⟩ → w.heap.size ≤ b := fun b off e => Nat.le_trans (show w.heap.size ≤ w5.heap.size by omega) (hat b (hoc.2 b off e))
                  have fz : Fr (· = w.heap.size) wr ((wr.setCell ⟨w.heap.size, 0, none⟩ (.int .i64 0)).setCell ⟨w.heap.size, 1, none⟩ (.int .u32 0)) := (Fr.set1 wr _ 0 _).setCell (p := ⟨w.heap.size, 1, none⟩) (.inl rfl) _
                  have hnb_ : ∀ b off, Al = some ⟨b, off, none⟩ → b ≠ w.heap.size := fun b off e e2 => by
                    have hob := hoc.2 b off e
                    rw [e2] at hob
                    exact own_blk_ne hown be (by decide) hob
                  have IZ : IntsAt .u32 ((wr.setCell ⟨w.heap.size, 0, none⟩ (.int .i64 0)).setCell ⟨w.heap.size, 1, none⟩ (.int .u32 0)) ((wr.setCell ⟨w.heap.size, 0, none⟩ (.int .i64 0)).setCell ⟨w.heap.size, 1, none⟩ (.int .u32 0)).heap.size Al N (spots (64 - va % 64) p q N) := (ints_own II fz (Nat.le_refl _) (fun hn b off e => hnb_ b off e)).more fz.size
                  have HFI := Lib.hid (And.intro IZ (And.intro hbs hoc.1))
                  clear IZ II hown hbs hnb_ be fz HUe FFe hat hoc
                  generalize spots (64 - va % 64) p q N = lst_ at *
                  go_wp2_with fail
                  try simp only [Exit.inBlock, Exit.then]
                  exact bodyPost_ret (results_tc rfl _ _ w.heap.size 63 _ _ _ rfl rfl HF0.out.1 Try.underlying63 rfl szT) rfl ⟨Al, N, cp, rfl, HFI.out.1, fun _ => HFI.out.2.1, HFI.out.2.2, HF0.out.2.1, HF0.out.2.2⟩
            · obtain rfl : res = ⟨[], 10, nx, u2⟩ := by rw [HR3.out, if_neg (by simp [hdp]), if_pos ⟨hcr, hdq⟩]
              obtain ⟨hq3, hq4⟩ := dev_ge (N := (u2.m.n : Int) * 64) (by omega) hdq
              clear HR3 HPD HQD hdp hdq
              go_wp2_with fail
              clear e2 e3 e4 e5
              have hs5_ : w4.heap.size ≤ w5.heap.size := by omega
              clear y0 y1 hs5
              try simp only [hx2]
              clear hx2
              go_loopw [21, 22] (fun v i wr => ∃ j : Nat, j ≤ N ∧ i = .int .i64 j ∧ wr.ownsRow 0 22 1 v j (by32 (spots (64 - va % 64) p q j)) ∧ Fr (fun _ => False) w5 wr ∧ (∀ b, v.ownBlock = some b → w5.heap.size ≤ b) ∧ (j : Int) ≤ 64 - va % 64) (fun _ i _ => N - (intOf i).toNat)
              case atStart => exact ⟨0, by omega, rfl, ⟨rfl, .inl ⟨rfl, rfl⟩⟩, Fr.refl _ _, fun k hk => by simp [Value.ownBlock] at hk, by omega⟩
              case round =>
                obtain ⟨j, hj, rfl, hown, fr, hat, hjq⟩ := hrel
                by_cases hlt : j < N
                · have hlt' : (j : Int) < (N : Int) := by omega
                  by_cases hjl : (j : Int) < 64 - va % 64
                  · have w0 : IntKind.u32.wrap (p + (j : Int)) = p + (j : Int) := IntWalk.u32_in _ (by omega)
                    have hge : decide (64 - va % 64 ≤ (j : Int)) = false := by simp; omega
                    have hpl : decide (32768 ≤ p) = false := by simp; omega
                    have hown' := own_alloc hown (.cells #[.int .u32 (p + (j : Int))] 22)
                    have HS := Lib.hid (spots_succ (64 - va % 64) p q j)
                    have HSP : Hid (spot (64 - va % 64) p q (j : Nat) = p + (j : Int)) := Lib.hid (by unfold spot; rw [if_pos hjl])
                    have hlen := spots_len (64 - va % 64) p q j
                    generalize spots (64 - va % 64) p q j = l at *
                    go_wp2_with
                      (at_builtin
                       refine wpList_append_any _ rfl (.tmp 109) (.tmp 111) _ rfl 0 22 i0 _ 1 4 Try.underlying34 hi0 hz0 hz1 hz2 rfl (by omega) u21 j (by32 l) rfl hown' (wr.heap.size + 1) (some ⟨wr.heap.size, 0, none⟩) 1 1 [.int .u32 (p + (j : Int))] rfl (reads_blk (Blk.new _ _ _) rfl) (by simp [Value.oneCell']) (by simp only [maxLen]; omega) (by omega) (Nat.zero_le _) ?_
                       intro v1 w6 hown1 hg1 hat1)
                    go_roundw
                    case rel =>
                      refine ⟨j + 1, by omega, by go_num, ?_, (fr.alloc _).grown hg1 (fun q hq => .inr (hat q hq)), fun q hq => ?_, by omega⟩
                      · rw [HS.out, HSP.out]; simpa [by32] using hown1
                      · rcases hat1 with e | e
                        · exact hat q (by rw [← e]; exact hq)
                        · rw [e] at hq
                          have h6 : wr.heap.size + 1 = q := by simpa using hq
                          have := fr.size
                          omega
                    case measure => simp [intOf]; omega
                  · have hje : (j : Int) = 64 - va % 64 := by omega
                    have w0 : IntKind.u32.wrap (p + (j : Int)) = p + (j : Int) := IntWalk.u32_in _ (by omega)
                    have hge : decide (64 - va % 64 ≤ (j : Int)) = true := by simp; omega
                    have w1_ : IntKind.u32.wrap ((j : Int) - (64 - va % 64)) = (j : Int) - (64 - va % 64) := IntWalk.u32_in _ (by omega)
                    have w2_ : IntKind.u32.wrap (q + ((j : Int) - (64 - va % 64))) = q + ((j : Int) - (64 - va % 64)) := IntWalk.u32_in _ (by omega)
                    have HU := Lib.hid (HU.out.fr0 fr)
                    have B11 := Lib.hid (B11.out.fr fr (fun e => e))
                    have FF := Lib.hid (FF.out.tr fr.none)
                    have hh := Rf.has_any wr r.gM r.gb r.gt _ _ _ HU.out.R (by omega) q (by omega) (by omega)
                    rw [decide_eq_false (by omega)] at hh
                    have Hh := Lib.hid hh
                    have d0 := HU.out.c0
                    have e2 := B11.out.cell 0
                    have e3 := B11.out.cell 1
                    have e4 := B11.out.frozen 0
                    have e5 := B11.out.frozen 1
                    simp only [List.getElem?_toArray, List.getElem?_cons_succ, List.getElem?_cons_zero] at e2 e3
                    clear hh
                    go_wp2_with fail
                    refine (Hh.out).mono ?_
                    rintro e w' ⟨rfl, rfl⟩
                    all_goals
                      go_wp2_with fail
                      try simp only [Exit.inBlock, Exit.then]
                      first
                        | (have hf := trap_d B11.out HU.out FF.out hl (Nat.le_refl _) (.int .i64 10) (.int .u32 nx)
                           exact bodyPost_ret (results_tc rfl _ _ w.heap.size 63 _ _ _ rfl rfl hf.1 Try.underlying63 rfl szT) rfl (rpost_nil hf.2.1 hf.2.2))
                        | (have hf := trap_d B11.out.drew HU.out.drew FF.out.drew hl (Nat.le_refl _) (.int .i64 10) (.int .u32 nx)
                           exact bodyPost_ret (results_tc rfl _ _ w.heap.size 63 _ _ _ rfl rfl hf.1 Try.underlying63 rfl szT) rfl (rpost_nil hf.2.1 hf.2.2))
                · exact absurd hjq (by omega)
          · obtain rfl : res = ⟨[], 10, va, u2⟩ := by rw [HR3.out, if_pos hdp]
            obtain ⟨hp3, hp4⟩ := dev_ge (N := (u2.m.n : Int) * 64) (by omega) hdp
            clear HR3 HPD HQD hdp
            go_wp2_with fail
            clear e2 e3 e4 e5
            try simp only [hx2]
            clear hx2
            go_loopw [22] (fun i wr => i = .int .i64 0 ∧ Fr (fun _ => False) w5 wr) (fun i _ => 0)
            case atStart => exact ⟨rfl, Fr.refl _ _⟩
            case round =>
              obtain ⟨rfl, fr⟩ := hrel
              have hlt' : (0 : Int) < (N : Int) := by omega
              have hge : decide (64 - va % 64 ≤ (0 : Int)) = false := by simp; omega
              have HU := Lib.hid (HU.out.fr0 fr)
              have B11 := Lib.hid (B11.out.fr fr (fun e => e))
              have FF := Lib.hid (FF.out.tr fr.none)
              have hh := Rf.has_any wr r.gM r.gb r.gt _ _ _ HU.out.R (by omega) p (by omega) (by omega)
              rw [decide_eq_false (by omega)] at hh
              have Hh := Lib.hid hh
              have d0 := HU.out.c0
              have e2 := B11.out.cell 0
              have e3 := B11.out.cell 1
              have e4 := B11.out.frozen 0
              have e5 := B11.out.frozen 1
              simp only [List.getElem?_toArray, List.getElem?_cons_succ, List.getElem?_cons_zero] at e2 e3
              clear hh
              go_wp2_with fail
              refine (Hh.out).mono ?_
              rintro e w' ⟨rfl, rfl⟩
              all_goals
                go_wp2_with fail
                try simp only [Exit.inBlock, Exit.then]
                first
                  | (have hf := trap_d B11.out HU.out FF.out hl (Nat.le_refl _) (.int .i64 10) (.int .u32 va)
                     exact bodyPost_ret (results_tc rfl _ _ w.heap.size 63 _ _ _ rfl rfl hf.1 Try.underlying63 rfl szT) rfl (rpost_nil hf.2.1 hf.2.2))
                  | (have hf := trap_d B11.out.drew HU.out.drew FF.out.drew hl (Nat.le_refl _) (.int .i64 10) (.int .u32 va)
                     exact bodyPost_ret (results_tc rfl _ _ w.heap.size 63 _ _ _ rfl rfl hf.1 Try.underlying63 rfl szT) rfl (rpost_nil hf.2.1 hf.2.2))
        · have hc' : (c != 0) = true := by simpa using hc2
          obtain rfl : res = ⟨[], c, a, u2⟩ := by rw [HR2.out, if_pos hc2]
          clear hc2 HIN HR2
          go_wp2_with fail
          go_region
          all_goals
            go_wp2_with fail
            try simp only [Exit.inBlock, Exit.then]
            first
              | (have hf := trap_d B11.out HU.out FF.out hl (Nat.le_refl _) (.int .i64 c) (.int .u32 a)
                 exact bodyPost_ret (results_tc rfl _ _ w.heap.size 63 _ _ _ rfl rfl hf.1 Try.underlying63 rfl szT) rfl (rpost_nil hf.2.1 hf.2.2))
              | (have hf := trap_d B11.out.drew HU.out.drew FF.out.drew hl (Nat.le_refl _) (.int .i64 c) (.int .u32 a)
                 exact bodyPost_ret (results_tc rfl _ _ w.heap.size 63 _ _ _ rfl rfl hf.1 Try.underlying63 rfl szT) rfl (rpost_nil hf.2.1 hf.2.2))
      · rw [if_neg hcr] at HR2
        have hcr' : decide (64 - va % 64 < (N : Int)) = false := by simpa using hcr
        have HR3 : Hid (res = if devB p then ⟨[], 10, va, u1⟩ else ⟨spots (64 - va % 64) p 0 N, 0, 0, u1⟩) := Lib.hid (by
          rw [HR2.out, if_neg (by simp)]
          split
          · rfl
          · rw [if_neg (fun e => hcr e.1)])
        have HU := HU3
        have B11 := G2
        have B13 := G4
        have FF := F3h
        have hnn := hnn1
        clear HR2
        cases hdp : devB p
        · have HPN := Lib.hid (HPD.out hdp)
          obtain rfl : res = ⟨spots (64 - va % 64) p 0 N, 0, 0, u1⟩ := by rw [HR3.out, if_neg (by simp [hdp])]
          clear HR3 HPD hdp
          have hpn := HPN.out
          go_wp2_with fail
          clear e2 e3 e4 e5
          skip
          try simp only [hx2]
          clear hx2
          go_loopw [21, 22] (fun v i wr => ∃ j : Nat, j ≤ N ∧ i = .int .i64 j ∧ wr.ownsRow 0 22 1 v j (by32 (spots (64 - va % 64) p 0 j)) ∧ Fr (fun _ => False) w3 wr ∧ (∀ b, v.ownBlock = some b → w3.heap.size ≤ b)) (fun _ i _ => N - (intOf i).toNat)
          case atStart => exact ⟨0, by omega, rfl, ⟨rfl, .inl ⟨rfl, rfl⟩⟩, Fr.refl _ _, fun k hk => by simp [Value.ownBlock] at hk⟩
          case round =>
            obtain ⟨j, hj, rfl, hown, fr, hat⟩ := hrel
            by_cases hlt : j < N
            · have hlt' : (j : Int) < (N : Int) := by omega
              have hjl : (j : Int) < 64 - va % 64 := by omega
              have w0 : IntKind.u32.wrap (p + (j : Int)) = p + (j : Int) := IntWalk.u32_in _ (by omega)
              have hge : decide (64 - va % 64 ≤ (j : Int)) = false := by simp; omega
              have hpl : decide (32768 ≤ p) = false := by simp; omega
              have hown' := own_alloc hown (.cells #[.int .u32 (p + (j : Int))] 22)
              have HS := Lib.hid (spots_succ (64 - va % 64) p 0 j)
              have HSP : Hid (spot (64 - va % 64) p 0 (j : Nat) = p + (j : Int)) := Lib.hid (by unfold spot; rw [if_pos hjl])
              have hlen := spots_len (64 - va % 64) p 0 j
              generalize spots (64 - va % 64) p 0 j = l at *
              go_wp2_with
                (at_builtin
                 refine wpList_append_any _ rfl (.tmp 109) (.tmp 111) _ rfl 0 22 i0 _ 1 4 Try.underlying34 hi0 hz0 hz1 hz2 rfl (by omega) u21 j (by32 l) rfl hown' (wr.heap.size + 1) (some ⟨wr.heap.size, 0, none⟩) 1 1 [.int .u32 (p + (j : Int))] rfl (reads_blk (Blk.new _ _ _) rfl) (by simp [Value.oneCell']) (by simp only [maxLen]; omega) (by omega) (Nat.zero_le _) ?_
                 intro v1 w6 hown1 hg1 hat1)
              go_roundw
              case rel =>
                refine ⟨j + 1, by omega, by go_num, ?_, (fr.alloc _).grown hg1 (fun q hq => .inr (hat q hq)), fun q hq => ?_⟩
                · rw [HS.out, HSP.out]; simpa [by32] using hown1
                · rcases hat1 with e | e
                  · exact hat q (by rw [← e]; exact hq)
                  · rw [e] at hq
                    have h6 : wr.heap.size + 1 = q := by simpa using hq
                    have := fr.size
                    omega
              case measure => simp [intOf]; omega
            · have hje : j = N := by omega
              have hlt' : decide ((j : Int) < (N : Int)) = false := by simp; omega
              rw [hje] at hown
              obtain ⟨Al, cp, rfl⟩ := ownI_any hown
              have hoc := own_cap hown
              have HUe := HU.out.fr0 fr
              have be := B11.out.fr fr (fun e => e)
              have FFe := FF.out.tr fr.none
              have e2 := be.cell 0
              have e3 := be.cell 1
              have e4 := be.frozen 0
              have e5 := be.frozen 1
              simp only [List.getElem?_toArray, List.getElem?_cons_succ, List.getElem?_cons_zero] at e2 e3
              have II : IntsAt .u32 wr wr.heap.size Al N (spots (64 - va % 64) p 0 N) := Bk.own_ints hown (fun z hz => by
                unfold spots spot at hz
                obtain ⟨i, hi, rfl⟩ := List.mem_map.1 hz
                have := List.mem_range.1 hi
                split
                · exact wf_u32_mk (by omega) (by omega)
                · exact wf_u32_mk (by omega) (by omega))
              have HF0 := Lib.hid (trap_d be HUe FFe hl (Nat.le_refl _) (.int .i64 0) (.int .u32 0))
              have hbs : ∀ b off, Al = some ⟨b, off, none⟩ → w.heap.size ≤ b := fun b off e => Nat.le_trans (show w.heap.size ≤ w3.heap.size by omega) (hat b (hoc.2 b off e))
              have fz : Fr (· = w.heap.size) wr ((wr.setCell ⟨w.heap.size, 0, none⟩ (.int .i64 0)).setCell ⟨w.heap.size, 1, none⟩ (.int .u32 0)) := (Fr.set1 wr _ 0 _).setCell (p := ⟨w.heap.size, 1, none⟩) (.inl rfl) _
              have hnb_ : ∀ b off, Al = some ⟨b, off, none⟩ → b ≠ w.heap.size := fun b off e e2 => by
                have hob := hoc.2 b off e
                rw [e2] at hob
                exact own_blk_ne hown be (by decide) hob
              have IZ : IntsAt .u32 ((wr.setCell ⟨w.heap.size, 0, none⟩ (.int .i64 0)).setCell ⟨w.heap.size, 1, none⟩ (.int .u32 0)) ((wr.setCell ⟨w.heap.size, 0, none⟩ (.int .i64 0)).setCell ⟨w.heap.size, 1, none⟩ (.int .u32 0)).heap.size Al N (spots (64 - va % 64) p 0 N) := (ints_own II fz (Nat.le_refl _) (fun hn b off e => hnb_ b off e)).more fz.size
              have HFI := Lib.hid (And.intro IZ (And.intro hbs hoc.1))
              clear IZ II hown hbs hnb_ be fz HUe FFe hat hoc
              generalize spots (64 - va % 64) p 0 N = lst_ at *
              go_wp2_with fail
              try simp only [Exit.inBlock, Exit.then]
              exact bodyPost_ret (results_tc rfl _ _ w.heap.size 63 _ _ _ rfl rfl HF0.out.1 Try.underlying63 rfl szT) rfl ⟨Al, N, cp, rfl, HFI.out.1, fun _ => HFI.out.2.1, HFI.out.2.2, HF0.out.2.1, HF0.out.2.2⟩
        · obtain rfl : res = ⟨[], 10, va, u1⟩ := by rw [HR3.out, if_pos hdp]
          obtain ⟨hp3, hp4⟩ := dev_ge (N := (u1.m.n : Int) * 64) (by omega) hdp
          clear HR3 HPD hdp
          go_wp2_with fail
          clear e2 e3 e4 e5
          try simp only [hx2]
          clear hx2
          go_loopw [22] (fun i wr => i = .int .i64 0 ∧ Fr (fun _ => False) w3 wr) (fun i _ => 0)
          case atStart => exact ⟨rfl, Fr.refl _ _⟩
          case round =>
            obtain ⟨rfl, fr⟩ := hrel
            have hlt' : (0 : Int) < (N : Int) := by omega
            have hge : decide (64 - va % 64 ≤ (0 : Int)) = false := by simp; omega
            have HU := Lib.hid (HU.out.fr0 fr)
            have B11 := Lib.hid (B11.out.fr fr (fun e => e))
            have FF := Lib.hid (FF.out.tr fr.none)
            have hh := Rf.has_any wr r.gM r.gb r.gt _ _ _ HU.out.R (by omega) p (by omega) (by omega)
            rw [decide_eq_false (by omega)] at hh
            have Hh := Lib.hid hh
            have d0 := HU.out.c0
            have e2 := B11.out.cell 0
            have e3 := B11.out.cell 1
            have e4 := B11.out.frozen 0
            have e5 := B11.out.frozen 1
            simp only [List.getElem?_toArray, List.getElem?_cons_succ, List.getElem?_cons_zero] at e2 e3
            clear hh
            go_wp2_with fail
            refine (Hh.out).mono ?_
            rintro e w' ⟨rfl, rfl⟩
            all_goals
              go_wp2_with fail
              try simp only [Exit.inBlock, Exit.then]
              first
                | (have hf := trap_d B11.out HU.out FF.out hl (Nat.le_refl _) (.int .i64 10) (.int .u32 va)
                   exact bodyPost_ret (results_tc rfl _ _ w.heap.size 63 _ _ _ rfl rfl hf.1 Try.underlying63 rfl szT) rfl (rpost_nil hf.2.1 hf.2.2))
                | (have hf := trap_d B11.out.drew HU.out.drew FF.out.drew hl (Nat.le_refl _) (.int .i64 10) (.int .u32 va)
                   exact bodyPost_ret (results_tc rfl _ _ w.heap.size 63 _ _ _ rfl rfl hf.1 Try.underlying63 rfl szT) rfl (rpost_nil hf.2.1 hf.2.2))
    · have hc' : (c != 0) = true := by simpa using hc
      obtain rfl : res = ⟨[], c, a, u1⟩ := by rw [HR1.out, if_pos hc]
      have HU := HU3
      have B11 := G2
      have FF := F3h
      clear hc HIN HR1
      go_wp2_with fail
      go_region
      all_goals
        go_wp2_with fail
        try simp only [Exit.inBlock, Exit.then]
        first
          | (have hf := trap_d B11.out HU.out FF.out hl (Nat.le_refl _) (.int .i64 c) (.int .u32 a)
             exact bodyPost_ret (results_tc rfl _ _ w.heap.size 63 _ _ _ rfl rfl hf.1 Try.underlying63 rfl szT) rfl (rpost_nil hf.2.1 hf.2.2))
          | (have hf := trap_d B11.out.drew HU.out.drew FF.out.drew hl (Nat.le_refl _) (.int .i64 c) (.int .u32 a)
             exact bodyPost_ret (results_tc rfl _ _ w.heap.size 63 _ _ _ rfl rfl hf.1 Try.underlying63 rfl szT) rfl (rpost_nil hf.2.1 hf.2.2))
end Go.Proofs.Ythiephlfhbkcbaa.Mu
