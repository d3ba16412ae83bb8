/- The document's walk, III: Do, let through. -/
import Derived.Test.YtijhbhhcaicdfaaWalkS
namespace Go.Proofs.Ytijhbhhcaicdfaa.Wk
open Go.RowKit Fm Nt Rm By Rf
set_option linter.unusedVariables false
set_option maxHeartbeats 8000000

set_option maxRecDepth 100000 in
theorem rdo_ok (w : World) (gM gb gt : Nat) (m : Ms) (h : RM w gM gb gt m.n m.mem m.tu) (hn : m.n ≤ 64) (hbd : ∀ i, i < m.n * 64 → 0 ≤ m.mem i ∧ m.mem i < 256) (hwb : ∀ Q, 0 ≤ Q → 0 ≤ wrdV m Q ∧ wrdV m Q ≤ 4294967295) (root va k : Int) (s : Bool) (r0 : 0 ≤ root) (r1 : root ≤ 4294967295) (v0 : 0 ≤ va) (v1 : va ≤ 4294967295) (hk : k = 1 ∨ k = 2 ∨ k = 3) (hyes : doOk m root va k s = true)
    (hb1 : 0 ≤ lkLeaf m root va ∧ lkLeaf m root va ≤ 4294967295) (hA : 0 ≤ lkAt m root va ∧ lkAt m root va ≤ 4096) (hin : inB m (lkAt m root va) 4 = true) :
    Calls Try.prog 40 #[.pointer (some ⟨gM, 0, none⟩), .int .u32 root, .int .u32 va, .int .i64 k, .bool s] w fun e w' => e = .returned (.tuple #[.agg #[.bool true, .int .u32 (va / 64), .int .u32 (now k (lkLeaf m root va) / 256), .int .u32 (bits .and .u32 (now k (lkLeaf m root va)) 94)], trap0]) ∧ RM w' gM gb gt m.n (doMs m root va k).mem (doMs m root va k).tu ∧ Fr (fun q => q = gb ∨ q = gt) w w' := by
  have Hf := Lib.hid (fun W => rfault_any W k)
  have Hb := Lib.hid (fun W => rbits_any W k s hk)
  have NL := nowLaws k _ hb1.1 hb1.2
  have hdv := Lib.hid NL.div
  have fa : Fr (fun _ => False) w ((w.alloc (.cells #[.bool false, .int .u32 0, .int .u32 0, .int .u32 0] 53)).alloc (.cells #[.int .i64 0, .int .u32 0] 55)) := ((Fr.refl _ w).alloc _).alloc _
  have HL := Lib.hid (rlook_any _ gM gb gt m (h.fr0 fa) hn hbd hwb root va r0 r1 v0 v1)
  have hf0 : (flt k == 0) = false := by rcases hk with rfl | rfl | rfl <;> decide
  have hlo : lkOk m root va = true := by cases hq : lkOk m root va <;> simp [doOk, hq] at hyes ⊢
  unfold doOk at hyes
  unfold doMs
  rw [hlo] at HL hyes
  generalize flt k = fk at *
  generalize ask k s = ak at *
  generalize lkAt m root va = at_ at *
  generalize lkLeaf m root va = lf at *
  have heq : (bits .and .u32 lf ak == ak) = true := by simpa using hyes
  have heq2 : (bits .and .u32 lf ak != ak) = false := by simpa using hyes
  obtain ⟨p, rfl⟩ : ∃ p : Nat, at_ = p := ⟨at_.toNat, by omega⟩
  have hin2 : (p : Int) + 4 ≤ (m.n : Int) * 64 := by simpa [inB] using hin
  have epw : ∀ v, m.putW (p : Int) v = m.puts p (wby v) 4 := fun v => by rw [Ms.putW, hin, if_pos rfl]; rfl
  have b1 : Blk ((w.alloc (.cells #[.bool false, .int .u32 0, .int .u32 0, .int .u32 0] 53)).alloc (.cells #[.int .i64 0, .int .u32 0] 55)) w.heap.size 53 #[.bool false, .int .u32 0, .int .u32 0, .int .u32 0] := (Blk.new w 53 #[.bool false, .int .u32 0, .int .u32 0, .int .u32 0]).fr ((Fr.refl (fun _ => False) _).alloc _) (fun e => e)
  have b2 : Blk ((w.alloc (.cells #[.bool false, .int .u32 0, .int .u32 0, .int .u32 0] 53)).alloc (.cells #[.int .i64 0, .int .u32 0] 55)) (w.heap.size + 1) 55 #[.int .i64 0, .int .u32 0] := by
    have := Blk.new (w.alloc (.cells #[.bool false, .int .u32 0, .int .u32 0, .int .u32 0] 53)) 55 #[.int .i64 0, .int .u32 0]
    rwa [show (w.alloc (.cells #[.bool false, .int .u32 0, .int .u32 0, .int .u32 0] 53)).heap.size = w.heap.size + 1 by simp] at this
  have hlt := h.lt
  have HR := Lib.hid (h.fr0 fa)
  clear hyes hlo hin h
  by_cases h3 : k = 3
  · have t3 : (k == 3) = true := by simpa using h3
    have eN : now k lf = bits .or .u32 (bits .or .u32 lf 32) 64 := by rw [now, if_pos h3]
    obtain ⟨n1, hn1⟩ : ∃ n1, bits .or .u32 lf 32 = n1 := ⟨_, rfl⟩
    have hn1b := or_bd lf 32 hb1.1 hb1.2 (by omega) (by omega)
    rw [hn1] at eN hn1b
    obtain ⟨N, hN⟩ : ∃ N, bits .or .u32 n1 64 = N := ⟨_, rfl⟩
    have hNb := or_bd n1 64 hn1b.1 hn1b.2 (by omega) (by omega)
    rw [hN] at eN hNb
    rw [eN] at hdv ⊢
    obtain ⟨N0, N1⟩ := hNb
    clear h3 eN hk NL
    by_cases hsm : N = lf
    · have q1 : (N == lf) = true := by simpa using hsm
      have q2 : (N != lf) = false := by simpa using hsm
      rw [if_pos hsm]
      clear hsm
      go_enter Try.func40, Try.ntmps40
      go_wp2_with fail
      refine (Hf.out _).mono ?_
      rintro e w' ⟨rfl, rfl⟩
      go_wp2_with fail
      refine (HL.out).mono ?_
      rintro e w3 ⟨rfl, f3⟩
      go_wp2_with fail
      refine (Hb.out _).mono ?_
      rintro e w' ⟨rfl, rfl⟩
      have hR3 := HR.out.fr0 f3
      have c1 := b1.fr f3 (fun e => e)
      have c2 := b2.fr f3 (fun e => e)
      have g1 := c1
      have g2 := c2
      have g10 := g1.cell 0
      have g11 := g1.cell 1
      have g12 := g1.cell 2
      have g13 := g1.cell 3
      have g20 := g2.cell 0
      have g21 := g2.cell 1
      simp only [List.getElem?_toArray, List.getElem?_cons_succ, List.getElem?_cons_zero] at g10 g11 g12 g13 g20 g21
      have z1 : ∀ i, w3.frozen? ⟨w.heap.size, i, none⟩ = false := fun i => g1.frozen i
      have z2 : ∀ i, w3.frozen? ⟨w.heap.size + 1, i, none⟩ = false := fun i => g2.frozen i
      obtain ⟨k1, k2, k3⟩ := stored (show w.heap.size ≠ w.heap.size + 1 by omega) g1 g2 (.bool true) (.int .u32 (va / 64)) (.int .u32 (lf / 256)) (.int .u32 (bits .and .u32 N 94)) (.int .i64 0) (.int .u32 0)
      have HK1 := Lib.hid k1
      have HK2 := Lib.hid k2
      have HF := Lib.hid (((fa.tr f3).none (S := fun q => q = gb ∨ q = gt)).trans (S := fun q => q = gb ∨ q = gt) k3 (fun i hi e => by omega))
      have HRR := Lib.hid (hR3.fr k3 (fun e => by omega) (fun e => by omega) (fun e => by omega))
      clear k1 k2 k3 g1 g2 hR3
      go_wp2_with fail
      try simp only [Exit.inBlock, Exit.then]
      refine bodyPost_ret (results_cell2 rfl _ _ w.heap.size (w.heap.size + 1) 53 55 _ _ _ _ rfl rfl HK1.out HK2.out Try.underlying53 rfl szE Try.underlying55 rfl szT) rfl ?_
      exact ⟨by rw [hdv.out]; rfl, HRR.out, HF.out⟩
    · have q1 : (N == lf) = false := by simpa using hsm
      have q2 : (N != lf) = true := by simpa using hsm
      rw [if_neg hsm, epw]
      clear hsm
      go_enter Try.func40, Try.ntmps40
      go_wp2_with fail
      refine (Hf.out _).mono ?_
      rintro e w' ⟨rfl, rfl⟩
      go_wp2_with fail
      refine (HL.out).mono ?_
      rintro e w3 ⟨rfl, f3⟩
      go_wp2_with fail
      refine (Hb.out _).mono ?_
      rintro e w' ⟨rfl, rfl⟩
      have hR3 := HR.out.fr0 f3
      have c1 := b1.fr f3 (fun e => e)
      have c2 := b2.fr f3 (fun e => e)
      have hR30 : RM w3 gM gb gt m.n (m.puts p (wby N) 0).mem (m.puts p (wby N) 0).tu := hR3
      have hw3 : w.heap.size + 2 ≤ w3.heap.size := by have := c2.lt; omega
      clear hR3
      go_wp2_with fail
      go_loopw [17] (fun i wr => ∃ r : Nat, r ≤ 4 ∧ i = .int .u64 r ∧ RM wr gM gb gt m.n (m.puts p (wby N) r).mem (m.puts p (wby N) r).tu ∧ Fr (fun q => q = gb ∨ q = gt) w3 wr) (fun i _ => 4 - (intOf i).toNat)
      case atStart => exact ⟨0, by omega, rfl, hR30, Fr.refl _ _⟩
      case round =>
        clear hR30
        obtain ⟨r, hr, rfl, hR, fx⟩ := hrel
        by_cases hlr : r < 4
        · rcases (by omega : r = 0 ∨ r = 1 ∨ r = 2 ∨ r = 3) with rfl | rfl | rfl | rfl
          · have u4 : IntKind.u32.wrap (p : Int) = (p : Int) := IntWalk.u32_in _ (by omega)
            have u3 : IntKind.u8.wrap N = N % 256 := IntKind.wrap_u8 _
            have hp := put_any wr gM gb gt m.n _ _ hR hn p (by omega) (N % 256)
            have em : updI (m.puts p (wby N) 0).mem p (N % 256) = (m.puts p (wby N) 1).mem := by
              rfl
            have et : updB (m.puts p (wby N) 0).tu (p / 64) true = (m.puts p (wby N) 1).tu := by
              rfl
            rw [em, et] at hp
            have Hp := Lib.hid hp
            clear hp em et hR
            go_wp2_with fail
            refine (Hp.out).mono ?_
            rintro e w5 ⟨rfl, hR5, f5⟩
            have fx5 := fx.tr f5
            go_wp2_with fail
            go_roundw
            case rel => exact ⟨1, by omega, rfl, hR5, fx5⟩
            case measure => simp [intOf]
          · obtain ⟨jr, hjr⟩ : ∃ q : Nat, q = p + 1 := ⟨_, rfl⟩
            have u4 : IntKind.u32.wrap (jr : Int) = (jr : Int) := IntWalk.u32_in _ (by omega)
            have u5 : IntKind.u32.wrap ((p : Int) + 1) = (jr : Int) := by rw [IntWalk.u32_in _ (by omega)]; omega
            have s3 : (p : Int) + 1 = (jr : Int) := by omega
            have s4 : IntKind.u64.wrap ((p : Int) + 1) = (jr : Int) := by rw [IntWalk.u64_in _ (by omega)]; omega
            have hp := put_any wr gM gb gt m.n _ _ hR hn jr (by omega) (N / 256 % 256)
            have em : updI (m.puts p (wby N) 1).mem jr (N / 256 % 256) = (m.puts p (wby N) 2).mem := by
              rw [hjr]
              rfl
            have et : updB (m.puts p (wby N) 1).tu (jr / 64) true = (m.puts p (wby N) 2).tu := by
              rw [hjr]
              rfl
            rw [em, et] at hp
            have Hp := Lib.hid hp
            clear hp em et hR hjr
            go_wp2_with fail
            refine (Hp.out).mono ?_
            rintro e w5 ⟨rfl, hR5, f5⟩
            have fx5 := fx.tr f5
            go_wp2_with fail
            go_roundw
            case rel => exact ⟨2, by omega, rfl, hR5, fx5⟩
            case measure => simp [intOf]
          · obtain ⟨jr, hjr⟩ : ∃ q : Nat, q = p + 2 := ⟨_, rfl⟩
            have u4 : IntKind.u32.wrap (jr : Int) = (jr : Int) := IntWalk.u32_in _ (by omega)
            have u5 : IntKind.u32.wrap ((p : Int) + 2) = (jr : Int) := by rw [IntWalk.u32_in _ (by omega)]; omega
            have s3 : (p : Int) + 2 = (jr : Int) := by omega
            have s4 : IntKind.u64.wrap ((p : Int) + 2) = (jr : Int) := by rw [IntWalk.u64_in _ (by omega)]; omega
            have hp := put_any wr gM gb gt m.n _ _ hR hn jr (by omega) (N / 65536 % 256)
            have em : updI (m.puts p (wby N) 2).mem jr (N / 65536 % 256) = (m.puts p (wby N) 3).mem := by
              rw [hjr]
              rfl
            have et : updB (m.puts p (wby N) 2).tu (jr / 64) true = (m.puts p (wby N) 3).tu := by
              rw [hjr]
              rfl
            rw [em, et] at hp
            have Hp := Lib.hid hp
            clear hp em et hR hjr
            go_wp2_with fail
            refine (Hp.out).mono ?_
            rintro e w5 ⟨rfl, hR5, f5⟩
            have fx5 := fx.tr f5
            go_wp2_with fail
            go_roundw
            case rel => exact ⟨3, by omega, rfl, hR5, fx5⟩
            case measure => simp [intOf]
          · obtain ⟨jr, hjr⟩ : ∃ q : Nat, q = p + 3 := ⟨_, rfl⟩
            have u4 : IntKind.u32.wrap (jr : Int) = (jr : Int) := IntWalk.u32_in _ (by omega)
            have u5 : IntKind.u32.wrap ((p : Int) + 3) = (jr : Int) := by rw [IntWalk.u32_in _ (by omega)]; omega
            have s3 : (p : Int) + 3 = (jr : Int) := by omega
            have s4 : IntKind.u64.wrap ((p : Int) + 3) = (jr : Int) := by rw [IntWalk.u64_in _ (by omega)]; omega
            have e24 : N / 16777216 % 256 = N / 16777216 := by omega
            have hp := put_any wr gM gb gt m.n _ _ hR hn jr (by omega) (N / 16777216)
            have em : updI (m.puts p (wby N) 3).mem jr (N / 16777216) = (m.puts p (wby N) 4).mem := by
              rw [hjr]; rw [← e24]
              rfl
            have et : updB (m.puts p (wby N) 3).tu (jr / 64) true = (m.puts p (wby N) 4).tu := by
              rw [hjr]
              rfl
            rw [em, et] at hp
            have Hp := Lib.hid hp
            clear hp em et hR hjr e24
            go_wp2_with fail
            refine (Hp.out).mono ?_
            rintro e w5 ⟨rfl, hR5, f5⟩
            have fx5 := fx.tr f5
            go_wp2_with fail
            go_roundw
            case rel => exact ⟨4, by omega, rfl, hR5, fx5⟩
            case measure => simp [intOf]
        · have e : r = 4 := by omega
          have q9 : decide ((r : Int) < 4) = false := by simp; omega
          rw [e] at hR
          have g1 := c1.fr fx (fun e => by omega)
          have g2 := c2.fr fx (fun e => by omega)
          have g10 := g1.cell 0
          have g11 := g1.cell 1
          have g12 := g1.cell 2
          have g13 := g1.cell 3
          have g20 := g2.cell 0
          have g21 := g2.cell 1
          simp only [List.getElem?_toArray, List.getElem?_cons_succ, List.getElem?_cons_zero] at g10 g11 g12 g13 g20 g21
          have z1 : ∀ i, wr.frozen? ⟨w.heap.size, i, none⟩ = false := fun i => g1.frozen i
          have z2 : ∀ i, wr.frozen? ⟨w.heap.size + 1, i, none⟩ = false := fun i => g2.frozen i
          obtain ⟨k1, k2, k3⟩ := stored (show w.heap.size ≠ w.heap.size + 1 by omega) g1 g2 (.bool true) (.int .u32 (va / 64)) (.int .u32 (lf / 256)) (.int .u32 (bits .and .u32 N 94)) (.int .i64 0) (.int .u32 0)
          have HK1 := Lib.hid k1
          have HK2 := Lib.hid k2
          have HF := Lib.hid ((((fa.tr f3).none (S := fun q => q = gb ∨ q = gt)).tr fx).trans (S := fun q => q = gb ∨ q = gt) k3 (fun i hi e => by omega))
          have HRR := Lib.hid (hR.fr k3 (fun e => by omega) (fun e => by omega) (fun e => by omega))
          clear k1 k2 k3 g1 g2 hR e
          go_wp2_with fail
          try simp only [Exit.inBlock, Exit.then]
          refine bodyPost_ret (results_cell2 rfl _ _ w.heap.size (w.heap.size + 1) 53 55 _ _ _ _ rfl rfl HK1.out HK2.out Try.underlying53 rfl szE Try.underlying55 rfl szT) rfl ?_
          exact ⟨by rw [hdv.out]; rfl, HRR.out, HF.out⟩
  · have t3 : (k == 3) = false := by simpa using h3
    have eN : now k lf = bits .or .u32 lf 32 := by rw [now, if_neg h3]
    obtain ⟨N, hN⟩ : ∃ N, bits .or .u32 lf 32 = N := ⟨_, rfl⟩
    have hNb := or_bd lf 32 hb1.1 hb1.2 (by omega) (by omega)
    rw [hN] at eN hNb
    rw [eN] at hdv ⊢
    obtain ⟨N0, N1⟩ := hNb
    clear h3 eN hk NL
    by_cases hsm : N = lf
    · have q1 : (N == lf) = true := by simpa using hsm
      have q2 : (N != lf) = false := by simpa using hsm
      rw [if_pos hsm]
      clear hsm
      go_enter Try.func40, Try.ntmps40
      go_wp2_with fail
      refine (Hf.out _).mono ?_
      rintro e w' ⟨rfl, rfl⟩
      go_wp2_with fail
      refine (HL.out).mono ?_
      rintro e w3 ⟨rfl, f3⟩
      go_wp2_with fail
      refine (Hb.out _).mono ?_
      rintro e w' ⟨rfl, rfl⟩
      have hR3 := HR.out.fr0 f3
      have c1 := b1.fr f3 (fun e => e)
      have c2 := b2.fr f3 (fun e => e)
      have g1 := c1
      have g2 := c2
      have g10 := g1.cell 0
      have g11 := g1.cell 1
      have g12 := g1.cell 2
      have g13 := g1.cell 3
      have g20 := g2.cell 0
      have g21 := g2.cell 1
      simp only [List.getElem?_toArray, List.getElem?_cons_succ, List.getElem?_cons_zero] at g10 g11 g12 g13 g20 g21
      have z1 : ∀ i, w3.frozen? ⟨w.heap.size, i, none⟩ = false := fun i => g1.frozen i
      have z2 : ∀ i, w3.frozen? ⟨w.heap.size + 1, i, none⟩ = false := fun i => g2.frozen i
      obtain ⟨k1, k2, k3⟩ := stored (show w.heap.size ≠ w.heap.size + 1 by omega) g1 g2 (.bool true) (.int .u32 (va / 64)) (.int .u32 (lf / 256)) (.int .u32 (bits .and .u32 N 94)) (.int .i64 0) (.int .u32 0)
      have HK1 := Lib.hid k1
      have HK2 := Lib.hid k2
      have HF := Lib.hid (((fa.tr f3).none (S := fun q => q = gb ∨ q = gt)).trans (S := fun q => q = gb ∨ q = gt) k3 (fun i hi e => by omega))
      have HRR := Lib.hid (hR3.fr k3 (fun e => by omega) (fun e => by omega) (fun e => by omega))
      clear k1 k2 k3 g1 g2 hR3
      go_wp2_with fail
      try simp only [Exit.inBlock, Exit.then]
      refine bodyPost_ret (results_cell2 rfl _ _ w.heap.size (w.heap.size + 1) 53 55 _ _ _ _ rfl rfl HK1.out HK2.out Try.underlying53 rfl szE Try.underlying55 rfl szT) rfl ?_
      exact ⟨by rw [hdv.out]; rfl, HRR.out, HF.out⟩
    · have q1 : (N == lf) = false := by simpa using hsm
      have q2 : (N != lf) = true := by simpa using hsm
      rw [if_neg hsm, epw]
      clear hsm
      go_enter Try.func40, Try.ntmps40
      go_wp2_with fail
      refine (Hf.out _).mono ?_
      rintro e w' ⟨rfl, rfl⟩
      go_wp2_with fail
      refine (HL.out).mono ?_
      rintro e w3 ⟨rfl, f3⟩
      go_wp2_with fail
      refine (Hb.out _).mono ?_
      rintro e w' ⟨rfl, rfl⟩
      have hR3 := HR.out.fr0 f3
      have c1 := b1.fr f3 (fun e => e)
      have c2 := b2.fr f3 (fun e => e)
      have hR30 : RM w3 gM gb gt m.n (m.puts p (wby N) 0).mem (m.puts p (wby N) 0).tu := hR3
      have hw3 : w.heap.size + 2 ≤ w3.heap.size := by have := c2.lt; omega
      clear hR3
      go_wp2_with fail
      go_loopw [17] (fun i wr => ∃ r : Nat, r ≤ 4 ∧ i = .int .u64 r ∧ RM wr gM gb gt m.n (m.puts p (wby N) r).mem (m.puts p (wby N) r).tu ∧ Fr (fun q => q = gb ∨ q = gt) w3 wr) (fun i _ => 4 - (intOf i).toNat)
      case atStart => exact ⟨0, by omega, rfl, hR30, Fr.refl _ _⟩
      case round =>
        clear hR30
        obtain ⟨r, hr, rfl, hR, fx⟩ := hrel
        by_cases hlr : r < 4
        · rcases (by omega : r = 0 ∨ r = 1 ∨ r = 2 ∨ r = 3) with rfl | rfl | rfl | rfl
          · have u4 : IntKind.u32.wrap (p : Int) = (p : Int) := IntWalk.u32_in _ (by omega)
            have u3 : IntKind.u8.wrap N = N % 256 := IntKind.wrap_u8 _
            have hp := put_any wr gM gb gt m.n _ _ hR hn p (by omega) (N % 256)
            have em : updI (m.puts p (wby N) 0).mem p (N % 256) = (m.puts p (wby N) 1).mem := by
              rfl
            have et : updB (m.puts p (wby N) 0).tu (p / 64) true = (m.puts p (wby N) 1).tu := by
              rfl
            rw [em, et] at hp
            have Hp := Lib.hid hp
            clear hp em et hR
            go_wp2_with fail
            refine (Hp.out).mono ?_
            rintro e w5 ⟨rfl, hR5, f5⟩
            have fx5 := fx.tr f5
            go_wp2_with fail
            go_roundw
            case rel => exact ⟨1, by omega, rfl, hR5, fx5⟩
            case measure => simp [intOf]
          · obtain ⟨jr, hjr⟩ : ∃ q : Nat, q = p + 1 := ⟨_, rfl⟩
            have u4 : IntKind.u32.wrap (jr : Int) = (jr : Int) := IntWalk.u32_in _ (by omega)
            have u5 : IntKind.u32.wrap ((p : Int) + 1) = (jr : Int) := by rw [IntWalk.u32_in _ (by omega)]; omega
            have s3 : (p : Int) + 1 = (jr : Int) := by omega
            have s4 : IntKind.u64.wrap ((p : Int) + 1) = (jr : Int) := by rw [IntWalk.u64_in _ (by omega)]; omega
            have hp := put_any wr gM gb gt m.n _ _ hR hn jr (by omega) (N / 256 % 256)
            have em : updI (m.puts p (wby N) 1).mem jr (N / 256 % 256) = (m.puts p (wby N) 2).mem := by
              rw [hjr]
              rfl
            have et : updB (m.puts p (wby N) 1).tu (jr / 64) true = (m.puts p (wby N) 2).tu := by
              rw [hjr]
              rfl
            rw [em, et] at hp
            have Hp := Lib.hid hp
            clear hp em et hR hjr
            go_wp2_with fail
            refine (Hp.out).mono ?_
            rintro e w5 ⟨rfl, hR5, f5⟩
            have fx5 := fx.tr f5
            go_wp2_with fail
            go_roundw
            case rel => exact ⟨2, by omega, rfl, hR5, fx5⟩
            case measure => simp [intOf]
          · obtain ⟨jr, hjr⟩ : ∃ q : Nat, q = p + 2 := ⟨_, rfl⟩
            have u4 : IntKind.u32.wrap (jr : Int) = (jr : Int) := IntWalk.u32_in _ (by omega)
            have u5 : IntKind.u32.wrap ((p : Int) + 2) = (jr : Int) := by rw [IntWalk.u32_in _ (by omega)]; omega
            have s3 : (p : Int) + 2 = (jr : Int) := by omega
            have s4 : IntKind.u64.wrap ((p : Int) + 2) = (jr : Int) := by rw [IntWalk.u64_in _ (by omega)]; omega
            have hp := put_any wr gM gb gt m.n _ _ hR hn jr (by omega) (N / 65536 % 256)
            have em : updI (m.puts p (wby N) 2).mem jr (N / 65536 % 256) = (m.puts p (wby N) 3).mem := by
              rw [hjr]
              rfl
            have et : updB (m.puts p (wby N) 2).tu (jr / 64) true = (m.puts p (wby N) 3).tu := by
              rw [hjr]
              rfl
            rw [em, et] at hp
            have Hp := Lib.hid hp
            clear hp em et hR hjr
            go_wp2_with fail
            refine (Hp.out).mono ?_
            rintro e w5 ⟨rfl, hR5, f5⟩
            have fx5 := fx.tr f5
            go_wp2_with fail
            go_roundw
            case rel => exact ⟨3, by omega, rfl, hR5, fx5⟩
            case measure => simp [intOf]
          · obtain ⟨jr, hjr⟩ : ∃ q : Nat, q = p + 3 := ⟨_, rfl⟩
            have u4 : IntKind.u32.wrap (jr : Int) = (jr : Int) := IntWalk.u32_in _ (by omega)
            have u5 : IntKind.u32.wrap ((p : Int) + 3) = (jr : Int) := by rw [IntWalk.u32_in _ (by omega)]; omega
            have s3 : (p : Int) + 3 = (jr : Int) := by omega
            have s4 : IntKind.u64.wrap ((p : Int) + 3) = (jr : Int) := by rw [IntWalk.u64_in _ (by omega)]; omega
            have e24 : N / 16777216 % 256 = N / 16777216 := by omega
            have hp := put_any wr gM gb gt m.n _ _ hR hn jr (by omega) (N / 16777216)
            have em : updI (m.puts p (wby N) 3).mem jr (N / 16777216) = (m.puts p (wby N) 4).mem := by
              rw [hjr]; rw [← e24]
              rfl
            have et : updB (m.puts p (wby N) 3).tu (jr / 64) true = (m.puts p (wby N) 4).tu := by
              rw [hjr]
              rfl
            rw [em, et] at hp
            have Hp := Lib.hid hp
            clear hp em et hR hjr e24
            go_wp2_with fail
            refine (Hp.out).mono ?_
            rintro e w5 ⟨rfl, hR5, f5⟩
            have fx5 := fx.tr f5
            go_wp2_with fail
            go_roundw
            case rel => exact ⟨4, by omega, rfl, hR5, fx5⟩
            case measure => simp [intOf]
        · have e : r = 4 := by omega
          have q9 : decide ((r : Int) < 4) = false := by simp; omega
          rw [e] at hR
          have g1 := c1.fr fx (fun e => by omega)
          have g2 := c2.fr fx (fun e => by omega)
          have g10 := g1.cell 0
          have g11 := g1.cell 1
          have g12 := g1.cell 2
          have g13 := g1.cell 3
          have g20 := g2.cell 0
          have g21 := g2.cell 1
          simp only [List.getElem?_toArray, List.getElem?_cons_succ, List.getElem?_cons_zero] at g10 g11 g12 g13 g20 g21
          have z1 : ∀ i, wr.frozen? ⟨w.heap.size, i, none⟩ = false := fun i => g1.frozen i
          have z2 : ∀ i, wr.frozen? ⟨w.heap.size + 1, i, none⟩ = false := fun i => g2.frozen i
          obtain ⟨k1, k2, k3⟩ := stored (show w.heap.size ≠ w.heap.size + 1 by omega) g1 g2 (.bool true) (.int .u32 (va / 64)) (.int .u32 (lf / 256)) (.int .u32 (bits .and .u32 N 94)) (.int .i64 0) (.int .u32 0)
          have HK1 := Lib.hid k1
          have HK2 := Lib.hid k2
          have HF := Lib.hid ((((fa.tr f3).none (S := fun q => q = gb ∨ q = gt)).tr fx).trans (S := fun q => q = gb ∨ q = gt) k3 (fun i hi e => by omega))
          have HRR := Lib.hid (hR.fr k3 (fun e => by omega) (fun e => by omega) (fun e => by omega))
          clear k1 k2 k3 g1 g2 hR e
          go_wp2_with fail
          try simp only [Exit.inBlock, Exit.then]
          refine bodyPost_ret (results_cell2 rfl _ _ w.heap.size (w.heap.size + 1) 53 55 _ _ _ _ rfl rfl HK1.out HK2.out Try.underlying53 rfl szE Try.underlying55 rfl szT) rfl ?_
          exact ⟨by rw [hdv.out]; rfl, HRR.out, HF.out⟩
end Go.Proofs.Ytijhbhhcaicdfaa.Wk
