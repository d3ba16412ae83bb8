/- The document's walk, II: Look, Do; a walk of no kind. -/
import Derived.Test.YtijhbhhcaicdfaaWalkR
namespace Go.Proofs.Ytijhbhhcaicdfaa.Wk
open Go.RowKit Fm Nt Rm By Rf
set_option linter.unusedVariables false
set_option maxHeartbeats 8000000

set_option maxRecDepth 100000 in
theorem rlook_any (w : World) (gM gb gt : Nat) (m : Ms) (h : RM w gM gb gt m.n m.mem m.tu) (hn : m.n ≤ 64) (hbd : ∀ i, i < m.n * 64 → 0 ≤ m.mem i ∧ m.mem i < 256) (hwb : ∀ Q, 0 ≤ Q → 0 ≤ wrdV m Q ∧ wrdV m Q ≤ 4294967295) (root va : Int) (r0 : 0 ≤ root) (r1 : root ≤ 4294967295) (v0 : 0 ≤ va) (v1 : va ≤ 4294967295) :
    Calls Try.prog 39 #[.pointer (some ⟨gM, 0, none⟩), .int .u32 root, .int .u32 va] w fun e w' => e = .returned (.tuple #[.int .u64 (lkAt m root va), .int .u32 (lkLeaf m root va), .bool (lkOk m root va)]) ∧ Fr (fun _ => False) w w' := by
  have x1 : IntKind.u32.wrap (root / 64 * 64) = root / 64 * 64 := IntWalk.u32_in _ (by omega)
  have x2 : bits .and .u32 (va / 1024) 15 = va / 1024 % 16 := and15 _ (by omega) (by omega)
  have x3 : bits .and .u32 (va / 64) 15 = va / 64 % 16 := and15 _ (by omega) (by omega)
  have hA0 : 0 ≤ lkA root va := by unfold lkA; omega
  have hA1 : lkA root va ≤ 4294967355 := by unfold lkA; omega
  have y1 : IntKind.u64.wrap (root / 64 * 64 + 4 * (va / 1024 % 16)) = root / 64 * 64 + 4 * (va / 1024 % 16) := IntWalk.u64_in _ (by omega)
  have hh1 := has4_any w gM gb gt m h hn (lkA root va) hA0 (by omega)
  by_cases hv : va < 16384
  · have hv' : ¬ 16384 ≤ va := by omega
    cases hi1 : inB m (lkA root va) 4
    · have eo : lkOk m root va = false := by simp [lkOk, hi1]
      have ea : lkAt m root va = 0 := by rw [lkAt, eo]; rfl
      have el : lkLeaf m root va = 0 := by rw [lkLeaf, eo]; rfl
      rw [eo, ea, el]
      rw [hi1] at hh1
      unfold lkA at hh1
      have Hh1 := Lib.hid hh1
      clear hh1 eo ea el hA0 hA1 hi1
      go_enter Try.func39, Try.ntmps39
      go_wp2_with fail
      refine (Hh1.out).mono ?_
      rintro e w' ⟨rfl, rfl⟩
      go_wp2_with fail
      go_ret3
      exact ⟨rfl, Fr.refl _ _⟩
    · have hw1 := rword_any w gM gb gt m h hn hbd (lkA root va) hA0 hi1
      have hb1 := hwb (lkA root va) hA0
      rw [hi1] at hh1
      obtain ⟨e1, he⟩ : ∃ q, q = wrdV m (lkA root va) := ⟨_, rfl⟩
      have hB : lkB m root va = e1 / 256 * 64 + 4 * (va / 64 % 16) := by rw [lkB, he]
      rw [← he] at hw1 hb1
      obtain ⟨z0, z1⟩ := hb1
      have x4 : bits .and .u32 e1 1 = e1 % 2 := and1 e1 z0 z1
      have hB0 : 0 ≤ lkB m root va := by rw [hB]; omega
      have hh2 := fun W (f : Fr (fun _ => False) w W) => has4_any W gM gb gt m (h.fr0 f) hn (lkB m root va) hB0 (by rw [hB]; omega)
      by_cases ho : e1 % 2 = 1
      · have xo : (e1 % 2 == 0) = false := by simp; omega
        have y2 : IntKind.u64.wrap (e1 / 256 * 64) = e1 / 256 * 64 := IntWalk.u64_in _ (by omega)
        have y3 : IntKind.u64.wrap (e1 / 256 * 64 + 4 * (va / 64 % 16)) = e1 / 256 * 64 + 4 * (va / 64 % 16) := IntWalk.u64_in _ (by omega)
        cases hi2 : inB m (lkB m root va) 4
        · have eo : lkOk m root va = false := by simp [lkOk, hi2]
          have ea : lkAt m root va = 0 := by rw [lkAt, eo]; rfl
          have el : lkLeaf m root va = 0 := by rw [lkLeaf, eo]; rfl
          rw [eo, ea, el]
          rw [hB] at hi2
          simp only [hB, hi2] at hh2
          unfold lkA at hh1 hw1
          have Hh1 := Lib.hid hh1
          have Hw1 := Lib.hid hw1
          have Hh2 := Lib.hid hh2
          clear hh1 hw1 hh2 eo ea el hA0 hA1 hi1 hi2 hB hB0 he ho
          go_enter Try.func39, Try.ntmps39
          go_wp2_with fail
          refine (Hh1.out).mono ?_
          rintro e w' ⟨rfl, rfl⟩
          go_wp2_with fail
          refine (Hw1.out).mono ?_
          rintro e w2 ⟨rfl, f2⟩
          go_wp2_with fail
          refine (Hh2.out w2 f2).mono ?_
          rintro e w' ⟨rfl, rfl⟩
          go_wp2_with fail
          go_ret3
          exact ⟨rfl, f2⟩
        · have eo : lkOk m root va = true := by simp [lkOk, hi1, hi2, hv, ← he, ho]
          have ea : lkAt m root va = e1 / 256 * 64 + 4 * (va / 64 % 16) := by rw [lkAt, eo, if_pos rfl, hB]
          have el : lkLeaf m root va = wrdV m (lkB m root va) := by rw [lkLeaf, eo, if_pos rfl]
          have hw2 := fun W (f : Fr (fun _ => False) w W) => rword_any W gM gb gt m (h.fr0 f) hn hbd (lkB m root va) hB0 hi2
          rw [eo, ea, el]
          rw [hB] at hi2
          simp only [hB, hi2] at hh2 hw2 ⊢
          unfold lkA at hh1 hw1
          have Hh1 := Lib.hid hh1
          have Hw1 := Lib.hid hw1
          have Hh2 := Lib.hid hh2
          have Hw2 := Lib.hid hw2
          clear hh1 hw1 hh2 hw2 eo ea el hA0 hA1 hi1 hi2 hB hB0 he ho
          generalize wrdV m (e1 / 256 * 64 + 4 * (va / 64 % 16)) = lf at *
          go_enter Try.func39, Try.ntmps39
          go_wp2_with fail
          refine (Hh1.out).mono ?_
          rintro e w' ⟨rfl, rfl⟩
          go_wp2_with fail
          refine (Hw1.out).mono ?_
          rintro e w2 ⟨rfl, f2⟩
          go_wp2_with fail
          refine (Hh2.out w2 f2).mono ?_
          rintro e w' ⟨rfl, rfl⟩
          go_wp2_with fail
          refine (Hw2.out w2 f2).mono ?_
          rintro e w3 ⟨rfl, f3⟩
          go_wp2_with fail
          go_ret3
          exact ⟨rfl, f2.tr f3⟩
      · have xo : (e1 % 2 == 0) = true := by simp; omega
        have eo : lkOk m root va = false := by simp [lkOk, ← he, ho]
        have ea : lkAt m root va = 0 := by rw [lkAt, eo]; rfl
        have el : lkLeaf m root va = 0 := by rw [lkLeaf, eo]; rfl
        rw [eo, ea, el]
        unfold lkA at hh1 hw1
        have Hh1 := Lib.hid hh1
        have Hw1 := Lib.hid hw1
        clear hh1 hw1 hh2 eo ea el hA0 hA1 hi1 hB hB0 he ho
        go_enter Try.func39, Try.ntmps39
        go_wp2_with fail
        refine (Hh1.out).mono ?_
        rintro e w' ⟨rfl, rfl⟩
        go_wp2_with fail
        refine (Hw1.out).mono ?_
        rintro e w2 ⟨rfl, f2⟩
        go_wp2_with fail
        go_ret3
        exact ⟨rfl, f2⟩
  · have hv' : 16384 ≤ va := by omega
    have eo : lkOk m root va = false := by simp [lkOk, hv]
    have ea : lkAt m root va = 0 := by rw [lkAt, eo]; rfl
    have el : lkLeaf m root va = 0 := by rw [lkLeaf, eo]; rfl
    rw [eo, ea, el]
    clear hh1 eo ea el hv hA0 hA1
    go_enter Try.func39, Try.ntmps39
    go_wp2_with fail
    go_ret3
    exact ⟨rfl, Fr.refl _ _⟩
set_option maxRecDepth 100000 in
theorem do_other (w : World) (g : Nat) (root va k : Int) (s : Bool) (hk : ¬ (k = 1 ∨ k = 2 ∨ k = 3)) :
    Calls Try.prog 19 #[.pointer (some ⟨g, 0, none⟩), .int .u32 root, .int .u32 va, .int .i64 k, .bool s] w fun e w' => e = .returned (.tuple #[entry0, .agg #[.int .i64 10, .int .u32 va]]) ∧ Fr (fun _ => False) w w' := by
  have e0 : flt k = 0 := by rw [flt, if_neg (by omega), if_neg (by omega), if_neg (by omega)]
  have Hf := Lib.hid (fun W => fault_any W k)
  rw [e0] at Hf
  clear e0 hk
  have b1 : Blk ((w.alloc (.cells #[.bool false, .int .u32 0, .int .u32 0, .int .u32 0] 53)).alloc (.cells #[.int .i64 10, .int .u32 va] 55)) w.heap.size 53 #[.bool false, .int .u32 0, .int .u32 0, .int .u32 0] := (Blk.new w 53 #[.bool false, .int .u32 0, .int .u32 0, .int .u32 0]).fr ((Fr.refl (fun _ => False) _).alloc _) (fun e => e)
  have b2 : Blk ((w.alloc (.cells #[.bool false, .int .u32 0, .int .u32 0, .int .u32 0] 53)).alloc (.cells #[.int .i64 10, .int .u32 va] 55)) (w.heap.size + 1) 55 #[.int .i64 10, .int .u32 va] := by
    have := Blk.new (w.alloc (.cells #[.bool false, .int .u32 0, .int .u32 0, .int .u32 0] 53)) 55 #[.int .i64 10, .int .u32 va]
    rwa [show (w.alloc (.cells #[.bool false, .int .u32 0, .int .u32 0, .int .u32 0] 53)).heap.size = w.heap.size + 1 by simp] at this
  go_enter Try.func19, Try.ntmps19
  go_wp2_with fail
  refine (Hf.out _).mono ?_
  rintro e w' ⟨rfl, rfl⟩
  go_wp2_with fail
  try simp only [Exit.inBlock, Exit.then]
  refine bodyPost_ret (results_cell2 rfl _ _ w.heap.size (w.heap.size + 1) 53 55 _ _ _ _ rfl rfl b1 b2 Try.underlying53 rfl szE Try.underlying55 rfl szT) rfl ?_
  exact ⟨rfl, ((Fr.refl _ w).alloc _).alloc _⟩
set_option maxRecDepth 100000 in
theorem rdo_other (w : World) (g : Nat) (root va k : Int) (s : Bool) (hk : ¬ (k = 1 ∨ k = 2 ∨ k = 3)) :
    Calls Try.prog 40 #[.pointer (some ⟨g, 0, none⟩), .int .u32 root, .int .u32 va, .int .i64 k, .bool s] w fun e w' => e = .returned (.tuple #[entry0, .agg #[.int .i64 10, .int .u32 va]]) ∧ Fr (fun _ => False) w w' := by
  have e0 : flt k = 0 := by rw [flt, if_neg (by omega), if_neg (by omega), if_neg (by omega)]
  have Hf := Lib.hid (fun W => rfault_any W k)
  rw [e0] at Hf
  clear e0 hk
  have b1 : Blk ((w.alloc (.cells #[.bool false, .int .u32 0, .int .u32 0, .int .u32 0] 53)).alloc (.cells #[.int .i64 10, .int .u32 va] 55)) w.heap.size 53 #[.bool false, .int .u32 0, .int .u32 0, .int .u32 0] := (Blk.new w 53 #[.bool false, .int .u32 0, .int .u32 0, .int .u32 0]).fr ((Fr.refl (fun _ => False) _).alloc _) (fun e => e)
  have b2 : Blk ((w.alloc (.cells #[.bool false, .int .u32 0, .int .u32 0, .int .u32 0] 53)).alloc (.cells #[.int .i64 10, .int .u32 va] 55)) (w.heap.size + 1) 55 #[.int .i64 10, .int .u32 va] := by
    have := Blk.new (w.alloc (.cells #[.bool false, .int .u32 0, .int .u32 0, .int .u32 0] 53)) 55 #[.int .i64 10, .int .u32 va]
    rwa [show (w.alloc (.cells #[.bool false, .int .u32 0, .int .u32 0, .int .u32 0] 53)).heap.size = w.heap.size + 1 by simp] at this
  go_enter Try.func40, Try.ntmps40
  go_wp2_with fail
  refine (Hf.out _).mono ?_
  rintro e w' ⟨rfl, rfl⟩
  go_wp2_with fail
  try simp only [Exit.inBlock, Exit.then]
  refine bodyPost_ret (results_cell2 rfl _ _ w.heap.size (w.heap.size + 1) 53 55 _ _ _ _ rfl rfl b1 b2 Try.underlying53 rfl szE Try.underlying55 rfl szT) rfl ?_
  exact ⟨rfl, ((Fr.refl _ w).alloc _).alloc _⟩
set_option maxRecDepth 100000 in
theorem do_nil (w : World) (root va k : Int) (s : Bool) :
    Calls Try.prog 19 #[.pointer none, .int .u32 root, .int .u32 va, .int .i64 k, .bool s] w fun e w' => e = .returned (.tuple #[entry0, .agg #[.int .i64 10, .int .u32 va]]) ∧ Fr (fun _ => False) w w' := by
  have Hf := Lib.hid (fun W => fault_any W k)
  generalize flt k = fk at *
  have b1 : Blk ((w.alloc (.cells #[.bool false, .int .u32 0, .int .u32 0, .int .u32 0] 53)).alloc (.cells #[.int .i64 10, .int .u32 va] 55)) w.heap.size 53 #[.bool false, .int .u32 0, .int .u32 0, .int .u32 0] := (Blk.new w 53 #[.bool false, .int .u32 0, .int .u32 0, .int .u32 0]).fr ((Fr.refl (fun _ => False) _).alloc _) (fun e => e)
  have b2 : Blk ((w.alloc (.cells #[.bool false, .int .u32 0, .int .u32 0, .int .u32 0] 53)).alloc (.cells #[.int .i64 10, .int .u32 va] 55)) (w.heap.size + 1) 55 #[.int .i64 10, .int .u32 va] := by
    have := Blk.new (w.alloc (.cells #[.bool false, .int .u32 0, .int .u32 0, .int .u32 0] 53)) 55 #[.int .i64 10, .int .u32 va]
    rwa [show (w.alloc (.cells #[.bool false, .int .u32 0, .int .u32 0, .int .u32 0] 53)).heap.size = w.heap.size + 1 by simp] at this
  go_enter Try.func19, Try.ntmps19
  go_wp2_with fail
  refine (Hf.out _).mono ?_
  rintro e w' ⟨rfl, rfl⟩
  go_wp2_with fail
  try simp only [Exit.inBlock, Exit.then]
  refine bodyPost_ret (results_cell2 rfl _ _ w.heap.size (w.heap.size + 1) 53 55 _ _ _ _ rfl rfl b1 b2 Try.underlying53 rfl szE Try.underlying55 rfl szT) rfl ?_
  exact ⟨rfl, ((Fr.refl _ w).alloc _).alloc _⟩
set_option maxRecDepth 100000 in
theorem rdo_fault (w : World) (gM gb gt : Nat) (m : Ms) (h : RM w gM gb gt m.n m.mem m.tu) (hn : m.n ≤ 64) (hbd : ∀ i, i < m.n * 64 → 0 ≤ m.mem i ∧ m.mem i < 256) (hwb : ∀ Q, 0 ≤ Q → 0 ≤ wrdV m Q ∧ wrdV m Q ≤ 4294967295) (root va k : Int) (s : Bool) (r0 : 0 ≤ root) (r1 : root ≤ 4294967295) (v0 : 0 ≤ va) (v1 : va ≤ 4294967295) (hk : k = 1 ∨ k = 2 ∨ k = 3) (hno : doOk m root va k s = false) :
    Calls Try.prog 40 #[.pointer (some ⟨gM, 0, none⟩), .int .u32 root, .int .u32 va, .int .i64 k, .bool s] w fun e w' => e = .returned (.tuple #[entry0, .agg #[.int .i64 (flt k), .int .u32 va]]) ∧ Fr (fun _ => False) w w' := by
  have Hf := Lib.hid (fun W => rfault_any W k)
  have Hb := Lib.hid (fun W => rbits_any W k s hk)
  have fa : Fr (fun _ => False) w ((w.alloc (.cells #[.bool false, .int .u32 0, .int .u32 0, .int .u32 0] 53)).alloc (.cells #[.int .i64 0, .int .u32 0] 55)) := ((Fr.refl _ w).alloc _).alloc _
  have hs1 : (w.alloc (.cells #[.bool false, .int .u32 0, .int .u32 0, .int .u32 0] 53)).heap.size = w.heap.size + 1 := by simp
  have HL := Lib.hid (rlook_any _ gM gb gt m (h.fr0 fa) hn hbd hwb root va r0 r1 v0 v1)
  have hf0 : (flt k == 0) = false := by rcases hk with rfl | rfl | rfl <;> decide
  unfold doOk at hno
  generalize flt k = fk at *
  generalize ask k s = ak at *
  generalize lkOk m root va = ok at *
  generalize lkAt m root va = at_ at *
  generalize lkLeaf m root va = lf at *
  have b1 : Blk ((w.alloc (.cells #[.bool false, .int .u32 0, .int .u32 0, .int .u32 0] 53)).alloc (.cells #[.int .i64 0, .int .u32 0] 55)) w.heap.size 53 #[.bool false, .int .u32 0, .int .u32 0, .int .u32 0] := (Blk.new w 53 #[.bool false, .int .u32 0, .int .u32 0, .int .u32 0]).fr ((Fr.refl (fun _ => False) _).alloc _) (fun e => e)
  have b2 : Blk ((w.alloc (.cells #[.bool false, .int .u32 0, .int .u32 0, .int .u32 0] 53)).alloc (.cells #[.int .i64 0, .int .u32 0] 55)) (w.heap.size + 1) 55 #[.int .i64 0, .int .u32 0] := by
    have := Blk.new (w.alloc (.cells #[.bool false, .int .u32 0, .int .u32 0, .int .u32 0] 53)) 55 #[.int .i64 0, .int .u32 0]
    rwa [show (w.alloc (.cells #[.bool false, .int .u32 0, .int .u32 0, .int .u32 0] 53)).heap.size = w.heap.size + 1 by simp] at this
  clear hs1
  cases ok
  · go_enter Try.func40, Try.ntmps40
    go_wp2_with fail
    refine (Hf.out _).mono ?_
    rintro e w' ⟨rfl, rfl⟩
    go_wp2_with fail
    refine (HL.out).mono ?_
    rintro e w3 ⟨rfl, f3⟩
    go_wp2_with fail
    refine (Hb.out _).mono ?_
    rintro e w' ⟨rfl, rfl⟩
    have g1 := b1.fr f3 (fun e => e)
    have g2 := b2.fr f3 (fun e => e)
    have g10 := g1.cell 0
    have g11 := g1.cell 1
    have g12 := g1.cell 2
    have g13 := g1.cell 3
    have g20 := g2.cell 0
    have g21 := g2.cell 1
    simp only [List.getElem?_toArray, List.getElem?_cons_succ, List.getElem?_cons_zero] at g10 g11 g12 g13 g20 g21
    have z1 : ∀ i, w3.frozen? ⟨w.heap.size, i, none⟩ = false := fun i => g1.frozen i
    have z2 : ∀ i, w3.frozen? ⟨w.heap.size + 1, i, none⟩ = false := fun i => g2.frozen i
    go_wp2_with fail
    refine (Hf.out _).mono ?_
    rintro e w' ⟨rfl, rfl⟩
    obtain ⟨k1, k2, k3⟩ := stored (show w.heap.size ≠ w.heap.size + 1 by omega) g1 g2 (.bool false) (.int .u32 0) (.int .u32 0) (.int .u32 0) (.int .i64 fk) (.int .u32 va)
    have HK1 := Lib.hid k1
    have HK2 := Lib.hid k2
    have HF4 := Lib.hid ((fa.tr f3).trans (S := fun _ => False) k3 (fun i hi e => by omega))
    clear k1 k2 k3 g1 g2
    go_wp2_with fail
    try simp only [Exit.inBlock, Exit.then]
    refine bodyPost_ret (results_cell2 rfl _ _ w.heap.size (w.heap.size + 1) 53 55 _ _ _ _ rfl rfl HK1.out HK2.out Try.underlying53 rfl szE Try.underlying55 rfl szT) rfl ?_
    exact ⟨rfl, HF4.out⟩
  · have hne : (bits .and .u32 lf ak == ak) = false := by simpa using hno
    have hne2 : (bits .and .u32 lf ak != ak) = true := by simpa using hno
    clear hno
    go_enter Try.func40, Try.ntmps40
    go_wp2_with fail
    refine (Hf.out _).mono ?_
    rintro e w' ⟨rfl, rfl⟩
    go_wp2_with fail
    refine (HL.out).mono ?_
    rintro e w3 ⟨rfl, f3⟩
    go_wp2_with fail
    refine (Hb.out _).mono ?_
    rintro e w' ⟨rfl, rfl⟩
    have g1 := b1.fr f3 (fun e => e)
    have g2 := b2.fr f3 (fun e => e)
    have g10 := g1.cell 0
    have g11 := g1.cell 1
    have g12 := g1.cell 2
    have g13 := g1.cell 3
    have g20 := g2.cell 0
    have g21 := g2.cell 1
    simp only [List.getElem?_toArray, List.getElem?_cons_succ, List.getElem?_cons_zero] at g10 g11 g12 g13 g20 g21
    have z1 : ∀ i, w3.frozen? ⟨w.heap.size, i, none⟩ = false := fun i => g1.frozen i
    have z2 : ∀ i, w3.frozen? ⟨w.heap.size + 1, i, none⟩ = false := fun i => g2.frozen i
    go_wp2_with fail
    refine (Hf.out _).mono ?_
    rintro e w' ⟨rfl, rfl⟩
    obtain ⟨k1, k2, k3⟩ := stored (show w.heap.size ≠ w.heap.size + 1 by omega) g1 g2 (.bool false) (.int .u32 0) (.int .u32 0) (.int .u32 0) (.int .i64 fk) (.int .u32 va)
    have HK1 := Lib.hid k1
    have HK2 := Lib.hid k2
    have HF4 := Lib.hid ((fa.tr f3).trans (S := fun _ => False) k3 (fun i hi e => by omega))
    clear k1 k2 k3 g1 g2
    go_wp2_with fail
    try simp only [Exit.inBlock, Exit.then]
    refine bodyPost_ret (results_cell2 rfl _ _ w.heap.size (w.heap.size + 1) 53 55 _ _ _ _ rfl rfl HK1.out HK2.out Try.underlying53 rfl szE Try.underlying55 rfl szT) rfl ?_
    exact ⟨rfl, HF4.out⟩
end Go.Proofs.Ytijhbhhcaicdfaa.Wk
