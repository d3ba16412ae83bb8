/- A walk of the tables: Fault, Bits, Do. -/
import Derived.Test.YthiephlfhbkcbaaWalkA
import Derived.Laws.Rows
namespace Go.Proofs.Ythiephlfhbkcbaa.Wk
open Go.RowKit Fm Nt Rm By
set_option linter.unusedVariables false
set_option maxHeartbeats 8000000

theorem results_cell2 {P : Program} {fn : Func} {p q : Tmp} {ty ty' : TypeId} (h : fn.results = #[.cell p ty, .cell q ty']) (tmps : Array Value) (w : World) (g g' : Nat) (t t' : TypeId) (cs cs' : Array Value) (d d' : TypeDesc)
    (hp : tmps.getD p undef = .pointer (some ⟨g, 0, none⟩)) (hq : tmps.getD q undef = .pointer (some ⟨g', 0, none⟩)) (hg : Blk w g t cs) (hg' : Blk w g' t' cs')
    (hu : P.underlying ty = some d) (hd : (match d with | .struct _ | .array _ _ => true | _ => false) = true) (hi : (P.info? ty).map (·.size) = some cs.size)
    (hu' : P.underlying ty' = some d') (hd' : (match d' with | .struct _ | .array _ _ => true | _ => false) = true) (hi' : (P.info? ty').map (·.size) = some cs'.size) :
    (results fn tmps).run P w = .ok (.tuple #[.agg cs, .agg cs']) w := by
  have hp' : tmps[p]?.getD undef = .pointer (some ⟨g, 0, none⟩) := by simpa using hp
  have hq' : tmps[q]?.getD undef = .pointer (some ⟨g', 0, none⟩) := by simpa using hq
  simp [results, h, hp', hq', asAddr, run_loadVar_row w g t ty cs (0, 0) d hg hu hd hi, run_loadVar_row w g' t' ty' cs' (0, 0) d' hg' hu' hd' hi', Sem.run_bind, Result.andThen]
theorem stored {w : World} {g g' : Nat} {t t' : TypeId} {a0 a1 a2 a3 b0 b1 : Value} (hne : g ≠ g') (h1 : Blk w g t #[a0, a1, a2, a3]) (h2 : Blk w g' t' #[b0, b1]) (x0 x1 x2 x3 y0 y1 : Value) :
    Blk ((((((w.setCell ⟨g, 0, none⟩ x0).setCell ⟨g, 1, none⟩ x1).setCell ⟨g, 2, none⟩ x2).setCell ⟨g, 3, none⟩ x3).setCell ⟨g', 0, none⟩ y0).setCell ⟨g', 1, none⟩ y1) g t #[x0, x1, x2, x3] ∧
    Blk ((((((w.setCell ⟨g, 0, none⟩ x0).setCell ⟨g, 1, none⟩ x1).setCell ⟨g, 2, none⟩ x2).setCell ⟨g, 3, none⟩ x3).setCell ⟨g', 0, none⟩ y0).setCell ⟨g', 1, none⟩ y1) g' t' #[y0, y1] ∧
    Fr (fun k => k = g ∨ k = g') w ((((((w.setCell ⟨g, 0, none⟩ x0).setCell ⟨g, 1, none⟩ x1).setCell ⟨g, 2, none⟩ x2).setCell ⟨g, 3, none⟩ x3).setCell ⟨g', 0, none⟩ y0).setCell ⟨g', 1, none⟩ y1) := by
  refine ⟨?_, ?_, ?_⟩
  · have := (((h1.set_ 0 x0).set_ 1 x1).set_ 2 x2).set_ 3 x3
    exact (this.far (p := ⟨g', 0, none⟩) hne y0).far (p := ⟨g', 1, none⟩) hne y1
  · have := (((h2.far (p := ⟨g, 0, none⟩) (fun e => hne e.symm) x0).far (p := ⟨g, 1, none⟩) (fun e => hne e.symm) x1).far (p := ⟨g, 2, none⟩) (fun e => hne e.symm) x2).far (p := ⟨g, 3, none⟩) (fun e => hne e.symm) x3
    exact (this.set_ 0 y0).set_ 1 y1
  · exact (((((((Fr.refl _ w).setCell (p := ⟨g, 0, none⟩) (.inl (.inl rfl)) x0).setCell (p := ⟨g, 1, none⟩) (.inl (.inl rfl)) x1).setCell (p := ⟨g, 2, none⟩) (.inl (.inl rfl)) x2).setCell (p := ⟨g, 3, none⟩) (.inl (.inl rfl)) x3).setCell (p := ⟨g', 0, none⟩) (.inl (.inr rfl)) y0).setCell (p := ⟨g', 1, none⟩) (.inl (.inr rfl)) y1)
theorem szE : (Try.prog.info? 132).map (·.size) = some 4 := by kernel_rfl
theorem szT : (Try.prog.info? 63).map (·.size) = some 2 := by kernel_rfl
theorem or_bd (x y : Int) (h0 : 0 ≤ x) (h1 : x ≤ 4294967295) (h2 : 0 ≤ y) (h3 : y ≤ 4294967295) : 0 ≤ bits .or .u32 x y ∧ bits .or .u32 x y ≤ 4294967295 := by
  obtain ⟨a, rfl⟩ : ∃ a : Nat, x = a := ⟨x.toNat, by omega⟩
  obtain ⟨b, rfl⟩ : ∃ a : Nat, y = a := ⟨y.toNat, by omega⟩
  rw [u32_or_nat a b (by omega) (by omega)]
  have := Nat.or_lt_two_pow (show a < 2 ^ 32 by omega) (show b < 2 ^ 32 by omega)
  omega
theorem lkLeaf_bd {w : World} {a : Am} {m : Ms} (h : Mem w a m) (root va : Int) (r0 : 0 ≤ root) (v0 : 0 ≤ va) : 0 ≤ lkLeaf m root va ∧ lkLeaf m root va ≤ 4294967295 := by
  unfold lkLeaf
  split
  · have h1 := wrdV_bd h (lkA root va) (by unfold lkA; omega)
    exact wrdV_bd h _ (by unfold lkB; omega)
  · omega
theorem lkAt_bd {w : World} {a : Am} {m : Ms} (h : Mem w a m) (root va : Int) (r0 : 0 ≤ root) (v0 : 0 ≤ va) : 0 ≤ lkAt m root va ∧ lkAt m root va ≤ 4096 := by
  have hn := h.n0
  unfold lkAt
  split
  · rename_i hq
    have h1 := wrdV_bd h (lkA root va) (by unfold lkA; omega)
    simp only [lkOk, Bool.and_eq_true, inB, decide_eq_true_eq] at hq
    have := hq.2.2.2
    refine ⟨by unfold lkB; omega, by omega⟩
  · omega
/-- the cause of a fault -/
def flt (k : Int) : Int := if k = 1 then 7 else if k = 2 then 8 else if k = 3 then 9 else 0
/-- what an access asks for -/
def ask (k : Int) (s : Bool) : Int := if s then (if k = 1 then 9 else if k = 2 then 3 else 5) else (if k = 1 then 25 else if k = 2 then 19 else 21)
theorem fault_any (w : World) (k : Int) : Calls Try.prog 68 #[.int .i64 k] w fun e w' => e = .returned (.int .i64 (flt k)) ∧ w = w' := by
  by_cases h1 : k = 1
  · subst h1
    go_enter Try.func68, Try.ntmps68
    go_wp2_with fail
    go_ret
    exact ⟨rfl, rfl⟩
  · by_cases h2 : k = 2
    · subst h2
      go_enter Try.func68, Try.ntmps68
      go_wp2_with fail
      go_ret
      exact ⟨rfl, rfl⟩
    · by_cases h3 : k = 3
      · subst h3
        go_enter Try.func68, Try.ntmps68
        go_wp2_with fail
        go_ret
        exact ⟨rfl, rfl⟩
      · have e : flt k = 0 := by rw [flt, if_neg h1, if_neg h2, if_neg h3]
        have t1 : (k == 1) = false := by simpa using h1
        have t2 : (k == 2) = false := by simpa using h2
        have t3 : (k == 3) = false := by simpa using h3
        rw [e]
        clear e h1 h2 h3
        go_enter Try.func68, Try.ntmps68
        go_wp2_with fail
        go_ret
        exact ⟨rfl, rfl⟩
theorem bits_any (w : World) (k : Int) (s : Bool) (hk : k = 1 ∨ k = 2 ∨ k = 3) : Calls Try.prog 111 #[.int .i64 k, .bool s] w fun e w' => e = .returned (.int .u32 (ask k s)) ∧ w = w' := by
  have o1 : bits .or .u32 1 8 = 9 := by decide
  have o2 : bits .or .u32 1 2 = 3 := by decide
  have o3 : bits .or .u32 1 4 = 5 := by decide
  have o4 : bits .or .u32 9 16 = 25 := by decide
  have o5 : bits .or .u32 3 16 = 19 := by decide
  have o6 : bits .or .u32 5 16 = 21 := by decide
  rcases hk with rfl | rfl | rfl <;> cases s
  all_goals
    go_enter Try.func111, Try.ntmps111
    go_wp2_with fail
    go_ret
    exact ⟨rfl, rfl⟩
/-- is the walk let through? what the entry is then -/
def doOk (m : Ms) (root va k : Int) (s : Bool) : Bool := lkOk m root va && decide (bits .and .u32 (lkLeaf m root va) (ask k s) = ask k s)
def now (k leaf : Int) : Int := if k = 3 then bits .or .u32 (bits .or .u32 leaf 32) 64 else bits .or .u32 leaf 32
def doMs (m : Ms) (root va k : Int) : Ms := if now k (lkLeaf m root va) = lkLeaf m root va then m else m.putW (lkAt m root va) (now k (lkLeaf m root va))
def entry0 : Value := .agg #[.bool false, .int .u32 0, .int .u32 0, .int .u32 0]
def trap0 : Value := .agg #[.int .i64 0, .int .u32 0]
set_option maxRecDepth 100000 in
/-- a fault writes nothing -/
theorem do_fault (w : World) (a : Am) (m : Ms) (h : Mem w a m) (root va k : Int) (s : Bool) (r0 : 0 ≤ root) (r1 : root ≤ 4294967295) (v0 : 0 ≤ va) (v1 : va ≤ 4294967295) (hk : k = 1 ∨ k = 2 ∨ k = 3) (hno : doOk m root va k s = false) :
    Calls Try.prog 97 #[.pointer (some ⟨a.gm, 0, none⟩), .int .u32 root, .int .u32 va, .int .i64 k, .bool s] w fun e w' => e = .returned (.tuple #[entry0, .agg #[.int .i64 (flt k), .int .u32 va]]) ∧ Fr (fun _ => False) w w' := by
  have Hf := Lib.hid (fun W => fault_any W k)
  have Hb := Lib.hid (fun W => bits_any W k s hk)
  have Hl := Lib.hid (fun W (f : Fr (fun _ => False) w W) => look_any W a m (h.fr0 f) root va r0 r1 v0 v1)
  have hf0 : (flt k == 0) = false := by rcases hk with rfl | rfl | rfl <;> decide
  unfold doOk at hno
  generalize flt k = fk at *
  generalize ask k s = ak at *
  generalize lkOk m root va = ok at *
  generalize lkAt m root va = at_ at *
  generalize lkLeaf m root va = lf at *
  have fa : Fr (fun _ => False) w ((w.alloc (.cells #[.bool false, .int .u32 0, .int .u32 0, .int .u32 0] 132)).alloc (.cells #[.int .i64 0, .int .u32 0] 63)) := ((Fr.refl _ w).alloc _).alloc _
  have HL := Lib.hid (Hl.out _ fa)
  go_enter Try.func97, Try.ntmps97
  go_wp2_with fail
  refine (Hf.out _).mono ?_
  rintro e w' ⟨rfl, rfl⟩
  go_wp2_with fail
  refine (Hb.out _).mono ?_
  rintro e w' ⟨rfl, rfl⟩
  go_wp2_with fail
  refine (HL.out).mono ?_
  rintro e w' ⟨rfl, rfl⟩
  have b1 : Blk ((w.alloc (.cells #[.bool false, .int .u32 0, .int .u32 0, .int .u32 0] 132)).alloc (.cells #[.int .i64 fk, .int .u32 va] 63)) w.heap.size 132 #[.bool false, .int .u32 0, .int .u32 0, .int .u32 0] := (Blk.new w 132 #[.bool false, .int .u32 0, .int .u32 0, .int .u32 0]).fr ((Fr.refl (fun _ => False) _).alloc _) (fun e => e)
  have b2 : Blk ((w.alloc (.cells #[.bool false, .int .u32 0, .int .u32 0, .int .u32 0] 132)).alloc (.cells #[.int .i64 fk, .int .u32 va] 63)) (w.heap.size + 1) 63 #[.int .i64 fk, .int .u32 va] := by
    have := Blk.new (w.alloc (.cells #[.bool false, .int .u32 0, .int .u32 0, .int .u32 0] 132)) 63 #[.int .i64 fk, .int .u32 va]
    rwa [show (w.alloc (.cells #[.bool false, .int .u32 0, .int .u32 0, .int .u32 0] 132)).heap.size = w.heap.size + 1 by simp] at this
  cases ok
  · go_wp2_with fail
    try simp only [Exit.inBlock, Exit.then]
    refine bodyPost_ret (results_cell2 rfl _ _ w.heap.size (w.heap.size + 1) 132 63 _ _ _ _ rfl rfl b1 b2 Try.underlying132 rfl szE Try.underlying63 rfl szT) rfl ?_
    exact ⟨rfl, ((Fr.refl _ w).alloc _).alloc _⟩
  · have hne : (bits .and .u32 lf ak == ak) = false := by simpa using hno
    have hne2 : (bits .and .u32 lf ak != ak) = true := by simpa using hno
    clear hno
    go_wp2_with fail
    try simp only [Exit.inBlock, Exit.then]
    refine bodyPost_ret (results_cell2 rfl _ _ w.heap.size (w.heap.size + 1) 132 63 _ _ _ _ rfl rfl b1 b2 Try.underlying132 rfl szE Try.underlying63 rfl szT) rfl ?_
    exact ⟨rfl, ((Fr.refl _ w).alloc _).alloc _⟩
set_option maxRecDepth 100000 in
/-- a walk that is let through -/
theorem do_ok (w : World) (a : Am) (m : Ms) (h : Mem w a m) (root va k : Int) (s : Bool) (r0 : 0 ≤ root) (r1 : root ≤ 4294967295) (v0 : 0 ≤ va) (v1 : va ≤ 4294967295) (hk : k = 1 ∨ k = 2 ∨ k = 3) (hyes : doOk m root va k s = true) :
    Calls Try.prog 97 #[.pointer (some ⟨a.gm, 0, none⟩), .int .u32 root, .int .u32 va, .int .i64 k, .bool s] w fun e w' => e = .returned (.tuple #[.agg #[.bool true, .int .u32 (va / 64), .int .u32 (now k (lkLeaf m root va) / 256), .int .u32 (bits .and .u32 (now k (lkLeaf m root va)) 94)], trap0]) ∧ Mem w' a (doMs m root va k) ∧ Fr a.own w w' := by
  have Hf := Lib.hid (fun W => fault_any W k)
  have Hb := Lib.hid (fun W => bits_any W k s hk)
  have Hl := Lib.hid (fun W (f : Fr (fun _ => False) w W) => look_any W a m (h.fr0 f) root va r0 r1 v0 v1)
  have hf0 : (flt k == 0) = false := by rcases hk with rfl | rfl | rfl <;> decide
  have hb1 := lkLeaf_bd h root va r0 v0
  have hA := lkAt_bd h root va r0 v0
  unfold doOk at hyes
  generalize flt k = fk at *
  generalize ask k s = ak at *
  unfold doMs
  have hlo : lkOk m root va = true := by cases hq : lkOk m root va <;> simp [hq] at hyes ⊢
  rw [hlo] at Hl hyes
  have hin : inB m (lkAt m root va) 4 = true := by
    have := hlo
    simp only [lkOk, Bool.and_eq_true] at this
    rw [lkAt, hlo, if_pos rfl]
    exact this.2.2.2
  generalize lkAt m root va = at_ at *
  generalize lkLeaf m root va = lf at *
  have heq : (bits .and .u32 lf ak == ak) = true := by simpa using hyes
  have heq2 : (bits .and .u32 lf ak != ak) = false := by simpa using hyes
  have fa : Fr (fun _ => False) w ((w.alloc (.cells #[.bool false, .int .u32 0, .int .u32 0, .int .u32 0] 132)).alloc (.cells #[.int .i64 0, .int .u32 0] 63)) := ((Fr.refl _ w).alloc _).alloc _
  have HL := Lib.hid (Hl.out _ fa)
  have hM2 := h.fr0 fa
  have hs1 : (w.alloc (.cells #[.bool false, .int .u32 0, .int .u32 0, .int .u32 0] 132)).heap.size = w.heap.size + 1 := by simp
  have b1 : Blk ((w.alloc (.cells #[.bool false, .int .u32 0, .int .u32 0, .int .u32 0] 132)).alloc (.cells #[.int .i64 0, .int .u32 0] 63)) w.heap.size 132 #[.bool false, .int .u32 0, .int .u32 0, .int .u32 0] := (Blk.new w 132 #[.bool false, .int .u32 0, .int .u32 0, .int .u32 0]).fr ((Fr.refl (fun _ => False) _).alloc _) (fun e => e)
  have b2 : Blk ((w.alloc (.cells #[.bool false, .int .u32 0, .int .u32 0, .int .u32 0] 132)).alloc (.cells #[.int .i64 0, .int .u32 0] 63)) (w.heap.size + 1) 63 #[.int .i64 0, .int .u32 0] := by
    have := Blk.new (w.alloc (.cells #[.bool false, .int .u32 0, .int .u32 0, .int .u32 0] 132)) 63 #[.int .i64 0, .int .u32 0]
    rwa [hs1] at this
  have hown := h.lt
  by_cases h3 : k = 3
  · have t3 : (k == 3) = true := by simpa using h3
    have eN : now k lf = bits .or .u32 (bits .or .u32 lf 32) 64 := by rw [now, if_pos h3]
    obtain ⟨n1, hn1⟩ : ∃ n1, bits .or .u32 lf 32 = n1 := ⟨_, rfl⟩
    have hn1b := or_bd lf 32 hb1.1 hb1.2 (by omega) (by omega)
    rw [hn1] at eN hn1b
    obtain ⟨N, hN⟩ : ∃ N, bits .or .u32 n1 64 = N := ⟨_, rfl⟩
    have hNb := or_bd n1 64 hn1b.1 hn1b.2 (by omega) (by omega)
    rw [hN] at eN hNb
    rw [eN]
    have hpw := putWord_any _ a m hM2 at_ N hA.1 (by omega) hNb.1 hNb.2
    rw [hin] at hpw
    have Hpw := Lib.hid hpw
    clear hpw h3 eN hin hlo heq Hl hk
    by_cases hsm : N = lf
    · have q1 : (N == lf) = true := by simpa using hsm
      have q2 : (N != lf) = false := by simpa using hsm
      rw [if_pos hsm]
      have Hc1 := Lib.hid ((Blk.new w 132 #[.bool true, .int .u32 (va / 64), .int .u32 (N / 256), .int .u32 (bits .and .u32 N 94)]).fr ((Fr.refl (fun _ => False) _).alloc (.cells #[.int .i64 0, .int .u32 0] 63)) (fun e => e))
      have Hc2 : Hid (Blk ((w.alloc (.cells #[.bool true, .int .u32 (va / 64), .int .u32 (N / 256), .int .u32 (bits .and .u32 N 94)] 132)).alloc (.cells #[.int .i64 0, .int .u32 0] 63)) (w.heap.size + 1) 63 #[.int .i64 0, .int .u32 0]) := Lib.hid (by
        have := Blk.new (w.alloc (.cells #[.bool true, .int .u32 (va / 64), .int .u32 (N / 256), .int .u32 (bits .and .u32 N 94)] 132)) 63 #[.int .i64 0, .int .u32 0]
        rwa [show (w.alloc (.cells #[.bool true, .int .u32 (va / 64), .int .u32 (N / 256), .int .u32 (bits .and .u32 N 94)] 132)).heap.size = w.heap.size + 1 by simp] at this)
      clear hsm b1 b2 hs1
      go_enter Try.func97, Try.ntmps97
      go_wp2_with fail
      refine (Hf.out _).mono ?_
      rintro e w' ⟨rfl, rfl⟩
      go_wp2_with fail
      refine (Hb.out _).mono ?_
      rintro e w' ⟨rfl, rfl⟩
      go_wp2_with fail
      refine (HL.out).mono ?_
      rintro e w' ⟨rfl, rfl⟩
      go_wp2_with fail
      try simp only [Exit.inBlock, Exit.then]
      refine bodyPost_ret (results_cell2 rfl _ _ w.heap.size (w.heap.size + 1) 132 63 _ _ _ _ rfl rfl Hc1.out Hc2.out Try.underlying132 rfl szE Try.underlying63 rfl szT) rfl ?_
      exact ⟨rfl, h.fr0 (((Fr.refl _ w).alloc _).alloc _), ((Fr.refl _ w).alloc _).alloc _⟩
    · have q1 : (N == lf) = false := by simpa using hsm
      have q2 : (N != lf) = true := by simpa using hsm
      rw [if_neg hsm]
      clear hsm
      go_enter Try.func97, Try.ntmps97
      go_wp2_with fail
      refine (Hf.out _).mono ?_
      rintro e w' ⟨rfl, rfl⟩
      go_wp2_with fail
      refine (Hb.out _).mono ?_
      rintro e w' ⟨rfl, rfl⟩
      go_wp2_with fail
      refine (HL.out).mono ?_
      rintro e w' ⟨rfl, rfl⟩
      go_wp2_with fail
      refine (Hpw.out).mono ?_
      rintro e w3 ⟨rfl, hM3, f3⟩
      have g1 := b1.fr f3 (fun e => by have := hown _ e; omega)
      have g2 := b2.fr f3 (fun e => by have := hown _ e; omega)
      have g10 := g1.cell 0
      have g11 := g1.cell 1
      have g12 := g1.cell 2
      have g13 := g1.cell 3
      have g20 := g2.cell 0
      have g21 := g2.cell 1
      simp only [List.getElem?_toArray, List.getElem?_cons_succ, List.getElem?_cons_zero] at g10 g11 g12 g13 g20 g21
      have z1 : ∀ i, w3.frozen? ⟨w.heap.size, i, none⟩ = false := fun i => g1.frozen i
      have z2 : ∀ i, w3.frozen? ⟨w.heap.size + 1, i, none⟩ = false := fun i => g2.frozen i
      obtain ⟨k1, k2, k3⟩ := stored (show w.heap.size ≠ w.heap.size + 1 by omega) g1 g2 (.bool true) (.int .u32 (va / 64)) (.int .u32 (N / 256)) (.int .u32 (bits .and .u32 N 94)) (.int .i64 0) (.int .u32 0)
      have HK1 := Lib.hid k1
      have HK2 := Lib.hid k2
      have HM4 := Lib.hid (hM3.fr k3 (fun q hq e => by have := hown _ hq; omega))
      have HF4 := Lib.hid (((fa.none (S := a.own)).tr f3).trans (S := a.own) k3 (fun i hi e => by omega))
      clear k1 k2 k3 g1 g2 hM3 f3
      go_wp2_with fail
      try simp only [Exit.inBlock, Exit.then]
      refine bodyPost_ret (results_cell2 rfl _ _ w.heap.size (w.heap.size + 1) 132 63 _ _ _ _ rfl rfl HK1.out HK2.out Try.underlying132 rfl szE Try.underlying63 rfl szT) rfl ?_
      exact ⟨rfl, HM4.out, HF4.out⟩
  · have t3 : (k == 3) = false := by simpa using h3
    have eN : now k lf = bits .or .u32 lf 32 := by rw [now, if_neg h3]
    obtain ⟨N, hN⟩ : ∃ N, bits .or .u32 lf 32 = N := ⟨_, rfl⟩
    have hNb := or_bd lf 32 hb1.1 hb1.2 (by omega) (by omega)
    rw [hN] at eN hNb
    rw [eN]
    have hpw := putWord_any _ a m hM2 at_ N hA.1 (by omega) hNb.1 hNb.2
    rw [hin] at hpw
    have Hpw := Lib.hid hpw
    clear hpw h3 eN hin hlo heq Hl hk
    by_cases hsm : N = lf
    · have q1 : (N == lf) = true := by simpa using hsm
      have q2 : (N != lf) = false := by simpa using hsm
      rw [if_pos hsm]
      have Hc1 := Lib.hid ((Blk.new w 132 #[.bool true, .int .u32 (va / 64), .int .u32 (N / 256), .int .u32 (bits .and .u32 N 94)]).fr ((Fr.refl (fun _ => False) _).alloc (.cells #[.int .i64 0, .int .u32 0] 63)) (fun e => e))
      have Hc2 : Hid (Blk ((w.alloc (.cells #[.bool true, .int .u32 (va / 64), .int .u32 (N / 256), .int .u32 (bits .and .u32 N 94)] 132)).alloc (.cells #[.int .i64 0, .int .u32 0] 63)) (w.heap.size + 1) 63 #[.int .i64 0, .int .u32 0]) := Lib.hid (by
        have := Blk.new (w.alloc (.cells #[.bool true, .int .u32 (va / 64), .int .u32 (N / 256), .int .u32 (bits .and .u32 N 94)] 132)) 63 #[.int .i64 0, .int .u32 0]
        rwa [show (w.alloc (.cells #[.bool true, .int .u32 (va / 64), .int .u32 (N / 256), .int .u32 (bits .and .u32 N 94)] 132)).heap.size = w.heap.size + 1 by simp] at this)
      clear hsm b1 b2 hs1
      go_enter Try.func97, Try.ntmps97
      go_wp2_with fail
      refine (Hf.out _).mono ?_
      rintro e w' ⟨rfl, rfl⟩
      go_wp2_with fail
      refine (Hb.out _).mono ?_
      rintro e w' ⟨rfl, rfl⟩
      go_wp2_with fail
      refine (HL.out).mono ?_
      rintro e w' ⟨rfl, rfl⟩
      go_wp2_with fail
      try simp only [Exit.inBlock, Exit.then]
      refine bodyPost_ret (results_cell2 rfl _ _ w.heap.size (w.heap.size + 1) 132 63 _ _ _ _ rfl rfl Hc1.out Hc2.out Try.underlying132 rfl szE Try.underlying63 rfl szT) rfl ?_
      exact ⟨rfl, h.fr0 (((Fr.refl _ w).alloc _).alloc _), ((Fr.refl _ w).alloc _).alloc _⟩
    · have q1 : (N == lf) = false := by simpa using hsm
      have q2 : (N != lf) = true := by simpa using hsm
      rw [if_neg hsm]
      clear hsm
      go_enter Try.func97, Try.ntmps97
      go_wp2_with fail
      refine (Hf.out _).mono ?_
      rintro e w' ⟨rfl, rfl⟩
      go_wp2_with fail
      refine (Hb.out _).mono ?_
      rintro e w' ⟨rfl, rfl⟩
      go_wp2_with fail
      refine (HL.out).mono ?_
      rintro e w' ⟨rfl, rfl⟩
      go_wp2_with fail
      refine (Hpw.out).mono ?_
      rintro e w3 ⟨rfl, hM3, f3⟩
      have g1 := b1.fr f3 (fun e => by have := hown _ e; omega)
      have g2 := b2.fr f3 (fun e => by have := hown _ e; omega)
      have g10 := g1.cell 0
      have g11 := g1.cell 1
      have g12 := g1.cell 2
      have g13 := g1.cell 3
      have g20 := g2.cell 0
      have g21 := g2.cell 1
      simp only [List.getElem?_toArray, List.getElem?_cons_succ, List.getElem?_cons_zero] at g10 g11 g12 g13 g20 g21
      have z1 : ∀ i, w3.frozen? ⟨w.heap.size, i, none⟩ = false := fun i => g1.frozen i
      have z2 : ∀ i, w3.frozen? ⟨w.heap.size + 1, i, none⟩ = false := fun i => g2.frozen i
      obtain ⟨k1, k2, k3⟩ := stored (show w.heap.size ≠ w.heap.size + 1 by omega) g1 g2 (.bool true) (.int .u32 (va / 64)) (.int .u32 (N / 256)) (.int .u32 (bits .and .u32 N 94)) (.int .i64 0) (.int .u32 0)
      have HK1 := Lib.hid k1
      have HK2 := Lib.hid k2
      have HM4 := Lib.hid (hM3.fr k3 (fun q hq e => by have := hown _ hq; omega))
      have HF4 := Lib.hid (((fa.none (S := a.own)).tr f3).trans (S := a.own) k3 (fun i hi e => by omega))
      clear k1 k2 k3 g1 g2 hM3 f3
      go_wp2_with fail
      try simp only [Exit.inBlock, Exit.then]
      refine bodyPost_ret (results_cell2 rfl _ _ w.heap.size (w.heap.size + 1) 132 63 _ _ _ _ rfl rfl HK1.out HK2.out Try.underlying132 rfl szE Try.underlying63 rfl szT) rfl ?_
      exact ⟨rfl, HM4.out, HF4.out⟩
end Go.Proofs.Ythiephlfhbkcbaa.Wk
