/- RamNumbers: the walk. -/
import Derived.Test.YtijhbhhcaicdfaaRamDo
import Derived.Test.YtijhbhhcaicdfaaRamAlike
import Derived.Test.YtijhbhhcaicdfaaRamOpen
import Derived.Test.YtijhbhhcaicdfaaAllocs
namespace Go.Proofs.Ytijhbhhcaicdfaa.ramNumbers
open Go.RowKit Fm Nt Rm By
set_option linter.unusedVariables false
set_option maxHeartbeats 8000000

theorem new_nil (w : World) : Calls Try.prog 5 #[.pointer none, .pointer none] w fun e w' => e = .returned (.tuple #[.pointer none, .int .i64 1]) ∧ w = w' := by
  go_enter Try.func5, Try.ntmps5
  go_wp2_with fail
  go_ret2
  exact ⟨rfl, rfl⟩
def oB (i : Nat) : Obj := if i = 7 then .cells (zU 64) 5 else if i = 9 then .cells (zU 64) 5 else if i = 11 then .cells (zU 63) 5 else if i = 14 then .cells #[.int .u8 9, .int .u8 0, .int .u8 8] 5 else .cells (zU 193) 5
def nB (i : Nat) : Nat := if i = 7 then 64 else if i = 9 then 64 else if i = 11 then 63 else if i = 14 then 3 else 193
def dB (i : Nat) : Nat := if i = 7 then 36 else if i = 9 then 38 else if i = 11 then 40 else if i = 14 then 43 else 45
def bB (i : Nat) : Nat := i + 1
def vB (i : Nat) (g : Nat) : Value := .slice (some ⟨g, 0, none⟩) (nB i) (nB i)
def kB (i : Nat) : Int := if i = 7 then 3 else if i = 9 then 3 else if i = 11 then 3 else 4
def aB (i : Nat) : Int := if i = 7 then 2 else if i = 9 then 3 else if i = 11 then 1 else 0
def vbB (i : Nat) (g : Nat) : Value := .agg #[.int .i64 (kB i), .int .u32 (aB i), .int .u32 0, vB i g]
/-- the sixteen calls -/
def kd16 (i : Nat) : Int := [1, 1, 1, 2, 2, 2, 2, 3, 3, 3, 5, 4, 4, 6, 6, 1].getD i 0
def at16 (i : Nat) : Int := [5, 191, 192, 188, 189, 4294967295, 126, 2, 3, 1, 0, 0, 0, 0, 0, 1].getD i 0
def v16 (i : Nat) : Int := [0, 7, 1, 16909060, 1, 1, 2864434397, 0, 0, 0, 0, 0, 0, 0, 0, 1].getD i 0
def s16 (g : Nat → Nat) (i : Nat) : Value := if i = 7 then vB 7 (g 7) else if i = 8 then vB 9 (g 9) else if i = 9 then vB 11 (g 11) else if i = 11 then vB 14 (g 14) else if i = 12 then vB 16 (g 16) else .slice none 0 0
def c16 (g : Nat → Nat) (i : Nat) : List Value := [.int .i64 (kd16 i), .int .u32 (at16 i), .int .u32 (v16 i), s16 g i]
def all16 (g : Nat → Nat) : Array Value := ((List.range 16).flatMap (c16 g)).toArray
theorem zeros_at {w : World} {g n : Nat} (h : w.heap[g]? = some (.cells (zU n) 5)) : IntsAt .u8 w (g + 1) (some ⟨g, 0, none⟩) n (List.replicate n 0) := by
  refine ⟨by simp, fun i hi => ?_, fun _ => ⟨g, 0, rfl, by omega, fun i hi => ?_⟩⟩
  · have : (List.replicate n (0 : Int)).getD i 0 = 0 := by rw [List.getD_eq_getElem?_getD, List.getElem?_replicate, if_pos hi]; rfl
    rw [this]; decide
  · have e1 : (List.replicate n (0 : Int)).getD i 0 = 0 := by rw [List.getD_eq_getElem?_getD, List.getElem?_replicate, if_pos hi]; rfl
    have e2 : (zU n).toList = List.replicate n (.int .u8 0) := by rw [zU, toList_madeCells_one]
    rw [e1]
    unfold World.cell?
    dsimp only
    rw [h]
    have : (zU n)[0 + i]? = some (.int .u8 0) := by
      rw [← Array.getElem?_toList, e2, Nat.zero_add, List.getElem?_replicate, if_pos hi]
    simpa using this
theorem lit3_at {w : World} {g : Nat} (h : w.heap[g]? = some (.cells #[.int .u8 9, .int .u8 0, .int .u8 8] 5)) : IntsAt .u8 w (g + 1) (some ⟨g, 0, none⟩) 3 [9, 0, 8] :=
  intsAt_lit [9, 0, 8] h (wf_list (fun z hz => by
    simp at hz
    rcases hz with rfl | rfl | rfl <;> decide))
/-- the sixteen calls lie in block B; their slices behind L -/
def Lit16 (w : World) (B L : Nat) : Prop := ∀ i, i < 16 → ∃ x : Ask7, AskAt w w.heap.size B (i * 4) x ∧ x.len ≤ 193 ∧ (0 < x.len → ∀ b off, x.A = some ⟨b, off, none⟩ → L ≤ b)
theorem asks16 {w w' : World} {g : Nat → Nat} (hM : Made [7, 9, 11, 14, 16] g oB w w') {w2 : World} {B : Nat} (f : Fr (fun _ => False) w' w2) (hb : Blk w2 B 33 (all16 g)) : Lit16 w2 B w.heap.size := by
  have hlt : ∀ i, i ∈ [7, 9, 11, 14, 16] → g i < w2.heap.size := fun i hi => by
    have h := (hM.at_ i hi).2
    rcases Nat.lt_or_ge (g i) w'.heap.size with h1 | h1
    · exact Nat.lt_of_lt_of_le h1 f.size
    · rw [Array.getElem?_eq_none h1] at h; cases h
  have hat : ∀ i, i ∈ [7, 9, 11, 14, 16] → w2.heap[g i]? = some (oB i) := fun i hi => by
    have h := (hM.at_ i hi).2
    have h1 : g i < w'.heap.size := by
      rcases Nat.lt_or_ge (g i) w'.heap.size with h1 | h1
      · exact h1
      · rw [Array.getElem?_eq_none h1] at h; cases h
    exact (f.block _ h1 (fun e => e)).trans h
  have i7 := (zeros_at (n := 64) (hat 7 (by simp))).more (hlt 7 (by simp))
  have i9 := (zeros_at (n := 64) (hat 9 (by simp))).more (hlt 9 (by simp))
  have i11 := (zeros_at (n := 63) (hat 11 (by simp))).more (hlt 11 (by simp))
  have i14 := (lit3_at (hat 14 (by simp))).more (hlt 14 (by simp))
  have i16 := (zeros_at (n := 193) (hat 16 (by simp))).more (hlt 16 (by simp))
  intro i hi
  have hc : ∀ j, j < 4 → w2.cell? ⟨B, i * 4 + j, none⟩ = (c16 g i)[j]? := fun j hj => by
    rw [hb.cell]
    rcases (by omega : i = 0 ∨ i = 1 ∨ i = 2 ∨ i = 3 ∨ i = 4 ∨ i = 5 ∨ i = 6 ∨ i = 7 ∨ i = 8 ∨ i = 9 ∨ i = 10 ∨ i = 11 ∨ i = 12 ∨ i = 13 ∨ i = 14 ∨ i = 15) with rfl | rfl | rfl | rfl | rfl | rfl | rfl | rfl | rfl | rfl | rfl | rfl | rfl | rfl | rfl | rfl <;>
      rcases (by omega : j = 0 ∨ j = 1 ∨ j = 2 ∨ j = 3) with rfl | rfl | rfl | rfl <;> rfl
  have h0 := hc 0 (by omega)
  have h1 := hc 1 (by omega)
  have h2 := hc 2 (by omega)
  have h3 := hc 3 (by omega)
  have wk : (Lit.int .i64 (kd16 i)).wf = true ∧ (Lit.int .u32 (at16 i)).wf = true ∧ (Lit.int .u32 (v16 i)).wf = true := by
    rcases (by omega : i = 0 ∨ i = 1 ∨ i = 2 ∨ i = 3 ∨ i = 4 ∨ i = 5 ∨ i = 6 ∨ i = 7 ∨ i = 8 ∨ i = 9 ∨ i = 10 ∨ i = 11 ∨ i = 12 ∨ i = 13 ∨ i = 14 ∨ i = 15) with rfl | rfl | rfl | rfl | rfl | rfl | rfl | rfl | rfl | rfl | rfl | rfl | rfl | rfl | rfl | rfl <;> decide
  have hs : ∃ A l c zs, s16 g i = .slice A l c ∧ IntsAt .u8 w2 w2.heap.size A l zs ∧ l ≤ 193 ∧ l ≤ c ∧ (0 < l → ∀ b off, A = some ⟨b, off, none⟩ → w.heap.size ≤ b) := by
    have hg : ∀ j, j ∈ [7, 9, 11, 14, 16] → ∀ b off, some (⟨g j, 0, none⟩ : Addr) = some ⟨b, off, none⟩ → w.heap.size ≤ b := fun j hj b off e => by
      injection e with e
      injection e with e1
      rw [← e1]
      exact (hM.at_ j hj).1
    unfold s16
    split
    · exact ⟨_, _, _, _, rfl, i7, by decide, by decide, fun _ => hg 7 (by simp)⟩
    split
    · exact ⟨_, _, _, _, rfl, i9, by decide, by decide, fun _ => hg 9 (by simp)⟩
    split
    · exact ⟨_, _, _, _, rfl, i11, by decide, by decide, fun _ => hg 11 (by simp)⟩
    split
    · exact ⟨_, _, _, _, rfl, i14, by decide, by decide, fun _ => hg 14 (by simp)⟩
    split
    · exact ⟨_, _, _, _, rfl, i16, by decide, by decide, fun _ => hg 16 (by simp)⟩
    · exact ⟨none, 0, 0, [], rfl, intsAt_nil _ _ _ _, by omega, by omega, fun h => absurd h (by omega)⟩
  obtain ⟨A, l, c, zs, e, hI, hl, hlc, hlo⟩ := hs
  refine ⟨⟨kd16 i, at16 i, v16 i, A, l, c, zs⟩, ⟨⟨h0, h1, h2, ?_⟩, wk.1, wk.2.1, wk.2.2, hI, by show l ≤ maxLen; simp only [maxLen]; omega, hlc⟩, hl, hlo⟩
  rw [h3, ← e]
  rfl
theorem eval_put (a : Act) (d : Nat) (v : Value) (hd : d < a.tmps.size) : (a.put (some d) v).eval (.tmp d) = v := by
  simp [Act.put, Act.eval, hd]
theorem build3 (a : Act) (d : Nat) (g n : Nat) (hd : d < a.tmps.size) (k x : Int) (w : World) (c : Option Tmp) (ty : TypeId) (ps : String) (af : Array Edge) (gd : Option (Nat × Bool)) :
    (execOp (a.put (some d) (.slice (some ⟨g, 0, none⟩) n n)).eval { dst := c, op := Op.build 33 #[(0, .const (.int .i64 k)), (1, .const (.int .u32 x)), (3, .tmp d)], type := ty, pos := ps, after := af, guard := gd }).run Try.prog w = .ok (.value (.agg #[.int .i64 k, .int .u32 x, .int .u32 0, .slice (some ⟨g, 0, none⟩) n n])) w := by
  have he := eval_put a d (.slice (some ⟨g, 0, none⟩) n n) hd
  generalize a.put (some d) (.slice (some ⟨g, 0, none⟩) n n) = b at *
  have hb : Try.prog.built 33 [(0, .int .i64 k), (1, .int .u32 x), (3, .slice (some ⟨g, 0, none⟩) n n)] = some #[.int .i64 k, .int .u32 x, .int .u32 0, .slice (some ⟨g, 0, none⟩) n n] := by kernel_rfl
  have hr := run_build (P := Try.prog) w 33 #[(0, .int .i64 k), (1, .int .u32 x), (3, .slice (some ⟨g, 0, none⟩) n n)] _ hb
  have e0 : b.eval (.const (.int .i64 k)) = .int .i64 k := rfl
  have e1 : b.eval (.const (.int .u32 x)) = .int .u32 x := rfl
  simp [execOp, he, e0, e1, hr]
theorem build4 (a : Act) (d : Nat) (g n : Nat) (hd : d < a.tmps.size) (k : Int) (w : World) (c : Option Tmp) (ty : TypeId) (ps : String) (af : Array Edge) (gd : Option (Nat × Bool)) :
    (execOp (a.put (some d) (.slice (some ⟨g, 0, none⟩) n n)).eval { dst := c, op := Op.build 33 #[(0, .const (.int .i64 k)), (3, .tmp d)], type := ty, pos := ps, after := af, guard := gd }).run Try.prog w = .ok (.value (.agg #[.int .i64 k, .int .u32 0, .int .u32 0, .slice (some ⟨g, 0, none⟩) n n])) w := by
  have he := eval_put a d (.slice (some ⟨g, 0, none⟩) n n) hd
  generalize a.put (some d) (.slice (some ⟨g, 0, none⟩) n n) = b at *
  have hb : Try.prog.built 33 [(0, .int .i64 k), (3, .slice (some ⟨g, 0, none⟩) n n)] = some #[.int .i64 k, .int .u32 0, .int .u32 0, .slice (some ⟨g, 0, none⟩) n n] := by kernel_rfl
  have hr := run_build (P := Try.prog) w 33 #[(0, .int .i64 k), (3, .slice (some ⟨g, 0, none⟩) n n)] _ hb
  have e0 : b.eval (.const (.int .i64 k)) = .int .i64 k := rfl
  simp [execOp, he, e0, hr]
set_option maxRecDepth 100000 in
theorem walk (w : World) : Calls Try.prog 3 #[] w fun e w' => e = .returned (.bool true) ∧ Fr (fun _ => False) w w' := by
  have Hfr := Lib.hid (fun W => fresh7 W 3 (by omega) (by omega))
  have hmk : ∀ W, (Instr.makeSlice 29 (.int .i64 192) (.int .i64 192)).run Try.prog W = .ok (.slice (some ⟨W.heap.size, 0, none⟩) 192 192) (W.alloc (.cells (zU 192) 5)) := fun W => run_makeU .i64 192 (by omega) W
  have hmb : ∀ W, (Instr.makeSlice 30 (.int .i64 3) (.int .i64 3)).run Try.prog W = .ok (.slice (some ⟨W.heap.size, 0, none⟩) 3 3) (W.alloc (.cells (zB 3) 4)) := fun W => run_makeB 3 (by omega) W
  go_enter Try.func3, Try.ntmps3
  go_wp2_with fail
  refine (new_nil w).mono ?_
  rintro e w' ⟨rfl, rfl⟩
  go_wp2_with fail
  refine (Hfr.out _).mono ?_
  rintro e w1 ⟨a, rfl, hM, hba, f1⟩
  have Hown := Lib.hid hM.lt
  have hgb : ¬ a.own w1.heap.size := fun e => by have := hM.lt _ e; omega
  have hgt : ¬ a.own (w1.heap.size + 1) := fun e => by have := hM.lt _ e; omega
  have hsz1 : (w1.alloc (.cells (zU 192) 5)).heap.size = w1.heap.size + 1 := by simp
  have fa : Fr (fun _ => False) w1 ((w1.alloc (.cells (zU 192) 5)).alloc (.cells (zB 3) 4)) := ((Fr.refl _ w1).alloc _).alloc _
  have hD : DS ((w1.alloc (.cells (zU 192) 5)).alloc (.cells (zB 3) 4)) a w1.heap.size (w1.heap.size + 1) 3 (Ms.new 3) :=
    ⟨hM.fr0 fa, rfl, (cellsU w1 192 rfl).alloc _, cellsB _ 3 hsz1, fun _ _ _ => rfl⟩
  have frz := f1.tr fa
  have hbt : w1.heap.size ≠ w1.heap.size + 1 := by omega
  have hsw := f1.size
  have hsa : w1.heap.size + 2 ≤ ((w1.alloc (.cells (zU 192) 5)).alloc (.cells (zB 3) 4)).heap.size := by simp
  go_upto_region 7 with (fail)
  clear hmk hmb hM
  try simp only [hsz1]
  have hown : ∀ b, a.own b → b < w1.heap.size + 2 := fun b e => by
    have := Hown.out b e
    omega
  generalize (w1.alloc (.cells (zU 192) 5)).alloc (.cells (zB 3) 4) = wz at *
  generalize w1.heap.size = gb at *
  have Hhi := Lib.hid (show ∀ b, gb + 2 ≤ b → ¬ a.own b ∧ b ≠ gb ∧ b ≠ gb + 1 from fun b hb => ⟨fun e => by have := hown b e; omega, by omega, by omega⟩)
  have Hfw := Lib.hid (show ∀ i, i < w.heap.size → ¬ (i = gb ∨ i = gb + 1 ∨ a.own i) from fun i hi e => by
    rcases e with e | e | e
    · omega
    · omega
    · have := hba i e; omega)
  clear hba hown fa f1
  refine wp_region_any (by kernel_rfl) ?_
  try (change wpAny _ _ _ _ _ _ _ (World.drew _))
  refine wpAny_take (i := 0) (v := ?_) rfl (by kernel_rfl) (by kernel_rfl) (by kernel_rfl) (fun _ _ _ h => h) (Or.inl ⟨by kernel_rfl, ?_⟩) ?_
  rotate_left
  · (intro w; go_simp; try with_reducible rfl)
  refine wpAny_take (i := 1) (v := ?_) rfl (by kernel_rfl) (by kernel_rfl) (by kernel_rfl) (fun _ _ _ h => h) (Or.inl ⟨by kernel_rfl, ?_⟩) ?_
  rotate_left
  · (intro w; go_simp; try with_reducible rfl)
  refine wpAny_take (i := 2) (v := ?_) rfl (by kernel_rfl) (by kernel_rfl) (by kernel_rfl) (fun _ _ _ h => h) (Or.inl ⟨by kernel_rfl, ?_⟩) ?_
  rotate_left
  · (intro w; go_simp; try with_reducible rfl)
  refine wpAny_take (i := 3) (v := ?_) rfl (by kernel_rfl) (by kernel_rfl) (by kernel_rfl) (fun _ _ _ h => h) (Or.inl ⟨by kernel_rfl, ?_⟩) ?_
  rotate_left
  · (intro w; go_simp; try with_reducible rfl)
  simp only [Act.put, List.getElem_toArray, List.getElem_cons_zero, List.getElem_cons_succ, List.setIfInBounds_toArray, List.set_cons_zero, List.set_cons_succ]
  refine wpAny_take (i := 4) (v := ?_) rfl (by kernel_rfl) (by kernel_rfl) (by kernel_rfl) (fun _ _ _ h => h) (Or.inl ⟨by kernel_rfl, ?_⟩) ?_
  rotate_left
  · (intro w; go_simp; try with_reducible rfl)
  refine wpAny_take (i := 5) (v := ?_) rfl (by kernel_rfl) (by kernel_rfl) (by kernel_rfl) (fun _ _ _ h => h) (Or.inl ⟨by kernel_rfl, ?_⟩) ?_
  rotate_left
  · (intro w; go_simp; try with_reducible rfl)
  refine wpAny_take (i := 6) (v := ?_) rfl (by kernel_rfl) (by kernel_rfl) (by kernel_rfl) (fun _ _ _ h => h) (Or.inl ⟨by kernel_rfl, ?_⟩) ?_
  rotate_left
  · (intro w; go_simp; try with_reducible rfl)
  refine wpAny_take (i := 13) (v := ?_) rfl (by kernel_rfl) (by kernel_rfl) (by kernel_rfl) (fun _ _ _ h => h) (Or.inl ⟨by kernel_rfl, ?_⟩) ?_
  rotate_left
  · (intro w; go_simp; try with_reducible rfl)
  simp only [Act.put, List.getElem_toArray, List.getElem_cons_zero, List.getElem_cons_succ, List.setIfInBounds_toArray, List.set_cons_zero, List.set_cons_succ]
  refine wpAny_take (i := 18) (v := ?_) rfl (by kernel_rfl) (by kernel_rfl) (by kernel_rfl) (fun _ _ _ h => h) (Or.inl ⟨by kernel_rfl, ?_⟩) ?_
  rotate_left
  · (intro w; go_simp; try with_reducible rfl)
  refine wpAny_take (i := 19) (v := ?_) rfl (by kernel_rfl) (by kernel_rfl) (by kernel_rfl) (fun _ _ _ h => h) (Or.inl ⟨by kernel_rfl, ?_⟩) ?_
  rotate_left
  · (intro w; go_simp; try with_reducible rfl)
  refine wpAny_take (i := 20) (v := ?_) rfl (by kernel_rfl) (by kernel_rfl) (by kernel_rfl) (fun _ _ _ h => h) (Or.inl ⟨by kernel_rfl, ?_⟩) ?_
  rotate_left
  · (intro w; go_simp; try with_reducible rfl)
  refine wpAny_take (i := 23) (v := ?_) rfl (by kernel_rfl) (by kernel_rfl) (by kernel_rfl) (fun _ _ _ h => h) (Or.inl ⟨by kernel_rfl, ?_⟩) ?_
  rotate_left
  · (intro w; go_simp; try with_reducible rfl)
  simp only [Act.put, List.getElem_toArray, List.getElem_cons_zero, List.getElem_cons_succ, List.setIfInBounds_toArray, List.set_cons_zero, List.set_cons_succ]
  have m64 : ∀ W, (Instr.makeSlice 29 (.int .i64 64) (.int .i64 64)).run Try.prog W = .ok (.slice (some ⟨W.heap.size, 0, none⟩) 64 64) (W.alloc (.cells (zU 64) 5)) := fun W => run_makeU .i64 64 (by omega) W
  have m63 : ∀ W, (Instr.makeSlice 29 (.int .i64 63) (.int .i64 63)).run Try.prog W = .ok (.slice (some ⟨W.heap.size, 0, none⟩) 63 63) (W.alloc (.cells (zU 63) 5)) := fun W => run_makeU .i64 63 (by omega) W
  have m193 : ∀ W, (Instr.makeSlice 29 (.int .i64 193) (.int .i64 193)).run Try.prog W = .ok (.slice (some ⟨W.heap.size, 0, none⟩) 193 193) (W.alloc (.cells (zU 193) 5)) := fun W => run_makeU .i64 193 (by omega) W
  refine wpAny_allocs 104 bB dB (fun i => dB i + 1) vB vbB oB (by kernel_rfl) (fun _ _ _ _ _ h => h) 5 [7, 9, 11, 14, 16] 2 _ _ _ rfl (by decide) rfl (by decide) (by decide) ?hst ?hbs (by kernel_rfl) ?hfin
  case hst =>
    intro i hi a w K hK
    simp only [List.mem_cons, List.not_mem_nil, or_false] at hi
    rcases hi with rfl | rfl | rfl | rfl | rfl
    all_goals
      refine wpOp_of rfl rfl ?_
      go_simp
      exact hK
  case hbs =>
    intro i hi
    simp only [List.mem_cons, List.not_mem_nil, or_false] at hi
    rcases hi with rfl | rfl | rfl | rfl | rfl
    all_goals
      exact ⟨_, rfl, rfl, fun a g hN => Or.inl ⟨rfl, fun w => by first | exact build3 a _ g _ (by rw [hN]; decide) _ _ w _ _ _ _ _ | exact build4 a _ g _ (by rw [hN]; decide) _ w _ _ _ _ _⟩⟩
  case hfin =>
    intro g w2 hMd
    simp only [setAll, putAll, List.foldl_cons, List.foldl_nil]
    simp only [Act.put, List.getElem_toArray, List.getElem_cons_zero, List.getElem_cons_succ, List.setIfInBounds_toArray, List.set_cons_zero, List.set_cons_succ, dB, vB, vbB]
    refine wpAny_ready (rs := [21]) (by kernel_rfl) (by simp) ?_
    refine AllReady.cons rfl (fun K hK => ?_) AllReady.nil
    go_simp
    refine hK _ _ ?_
    clear hK K
    have hL := asks16 hMd ((Fr.refl (fun _ => False) w2).alloc (.cells (all16 g) 33)) (Blk.new w2 33 (all16 g))
    have fz := hMd.fr.alloc (.cells (all16 g) 33)
    change wpAny _ _ _ _ _ _ _ (w2.alloc (.cells (all16 g) 33))
    have hB2 : gb + 2 ≤ w2.heap.size := by have := hMd.fr.size; have : wz.drew.heap.size = wz.heap.size := rfl; omega
    have hB3 : w2.heap.size < (w2.alloc (.cells (all16 g) 33)).heap.size := by simp
    have hzs : gb + 2 ≤ wz.drew.heap.size := hsa
    generalize w2.alloc (.cells (all16 g) 33) = w3 at *
    generalize w2.heap.size = B at *
    generalize wz.drew.heap.size = L at *
    refine wpAny_take (i := 22) (v := ?_) rfl (by kernel_rfl) (by kernel_rfl) (by kernel_rfl) (fun _ _ _ h => h) (Or.inl ⟨by kernel_rfl, ?_⟩) ?_
    rotate_left
    · (intro w; go_simp; try with_reducible rfl)
    refine wpAny_done (by kernel_rfl) ?_ _
    have hD3 : DS w3 a gb (gb + 1) 3 (Ms.new 3) := hD.fr0 (Fr.drew (Fr.refl _ wz) |>.tr fz)
    have fr3 := frz.tr (Fr.drew (Fr.refl (fun _ => False) wz) |>.tr fz)
    simp only [Act.put, List.getElem_toArray, List.getElem_cons_zero, List.getElem_cons_succ, List.setIfInBounds_toArray, List.set_cons_zero, List.set_cons_succ]
    clear hMd fz hD frz hsa m64 m63 m193
    generalize nB 7 = n7 at *
    generalize nB 9 = n9 at *
    generalize nB 11 = n11 at *
    generalize nB 14 = n14 at *
    generalize nB 16 = n16 at *
    go_wp2_with fail
    have Hdo : Hid (∀ W m (kd at_ v : Int) A' l' c' zs' B', DS W a gb (gb + 1) 3 m → (Lit.int .i64 kd).wf = true → (Lit.int .u32 at_).wf = true → (Lit.int .u32 v).wf = true → IntsAt .u8 W B' A' l' zs' → B' ≤ W.heap.size → (0 < l' → ∀ b off, A' = some ⟨b, off, none⟩ → ¬ a.own b ∧ b ≠ gb ∧ b ≠ gb + 1) → l' ≤ 193 →
        Calls Try.prog 7 #[.pointer (some ⟨a.gm, 0, none⟩), .pointer (some ⟨a.a.gt, 0, none⟩), .slice (some ⟨gb, 0, none⟩) 192 192, .slice (some ⟨gb + 1, 0, none⟩) 3 3, .agg #[.int .i64 kd, .int .u32 at_, .int .u32 v, .slice A' l' c']] W
          fun e w' => e = .returned (.bool true) ∧ (∃ m', DS w' a gb (gb + 1) 3 m') ∧ Fr (fun k => k = gb ∨ k = gb + 1 ∨ a.own k) W w') :=
      fun W m kd at_ v A' l' c' zs' B' hS h1 h2 h3 h4 h5 h6 h7 => do7_any W a gb (gb + 1) 3 m hS hgb hgt hbt kd at_ v h1 h2 h3 A' l' c' B' zs' h4 h5 h6 (by simp only [maxLen]; omega)
    have Hal : Hid (∀ W m, DS W a gb (gb + 1) 3 m → Calls Try.prog 8 #[.pointer (some ⟨a.gm, 0, none⟩), .slice (some ⟨gb, 0, none⟩) 192 192, .slice (some ⟨gb + 1, 0, none⟩) 3 3] W fun e w' => e = .returned (.bool true) ∧ Fr (fun _ => False) W w') :=
      fun W m hS => by
        have h1 := hS.cb
        have h2 := hS.ct
        have hn := hS.hn
        have h3 := hS.tu
        rw [← hn] at h1 h2 h3
        have := alike_any W a m gb (gb + 1) hS.M h1 h2 h3
        rw [hn] at this
        exact this
    have HL := Lib.hid hL
    clear hL
    go_loopw [52] (fun i wr => ∃ k : Nat, k ≤ 16 ∧ i = .int .i64 k ∧ (∃ m, DS wr a gb (gb + 1) 3 m) ∧ Fr (fun k => k = gb ∨ k = gb + 1 ∨ a.own k) w3 wr ∧ Fr (fun _ => False) w wr) (fun i _ => 16 - (intOf i).toNat)
    case atStart => exact ⟨0, by omega, rfl, ⟨_, hD3⟩, Fr.refl _ _, fr3⟩
    case round =>
      clear hD3 fr3
      obtain ⟨k, hk, rfl, ⟨m, hD⟩, fr, frw⟩ := hrel
      by_cases hlt : k < 16
      · obtain ⟨x, hx, hl193, hlo⟩ := HL.out k hlt
        obtain ⟨⟨c0, c1, c2, c3⟩, hkd, hat, hv, hI, _, _⟩ := hx
        obtain ⟨kd, at_, v, A2, l2, cap2, zs⟩ := x
        dsimp only at c0 c1 c2 c3 hkd hat hv hI hl193 hlo
        have hBn : ¬ (B = gb ∨ B = gb + 1 ∨ a.own B) := fun e => by
          have := Hhi.out B hB2
          rcases e with e | e | e
          · exact this.2.1 e
          · exact this.2.2 e
          · exact this.1 e
        have c0 := fr.cell c0 hB3 hBn
        have c1 := fr.cell c1 hB3 hBn
        have c2 := fr.cell c2 hB3 hBn
        have c3 := fr.cell c3 hB3 hBn
        have hA : 0 < l2 → ∀ b off, A2 = some ⟨b, off, none⟩ → ¬ a.own b ∧ b ≠ gb ∧ b ≠ gb + 1 := fun h b off e => Hhi.out b (by have := hlo h b off e; omega)
        have hI1 := ints_own hI fr (Nat.le_refl _) (fun h b off e e2 => by
          have := hA h b off e
          rcases e2 with e2 | e2 | e2
          · exact this.2.1 e2
          · exact this.2.2 e2
          · exact this.1 e2)
        have fx := (Fr.refl (fun _ => False) wr).alloc (.cells #[.int .i64 kd, .int .u32 at_, .int .u32 v, .slice A2 l2 cap2] 33)
        have hDx := hD.fr0 fx
        have hIx := hI1.fr fx fr.size (fun _ _ e => e)
        have hBx := Blk.new wr 33 #[.int .i64 kd, .int .u32 at_, .int .u32 v, .slice A2 l2 cap2]
        have Hd := Lib.hid (Hdo.out _ m kd at_ v A2 l2 cap2 zs _ hDx hkd hat hv hIx (Nat.le_trans fr.size fx.size) hA hl193)
        have hk0 : (0 : Int) ≤ (k : Int) := by omega
        have hk1 : (k : Int) < 16 := by omega
        have frx : Fr (fun k => k = gb ∨ k = gb + 1 ∨ a.own k) w3 (wr.alloc (.cells #[.int .i64 kd, .int .u32 at_, .int .u32 v, .slice A2 l2 cap2] 33)) := fr.tr (fx.mono (fun _ _ e => e.elim))
        have frwx := frw.tr fx
        clear hI hI1 hIx hA hlo hDx hD
        go_wp2_with fail
        refine (Hd.out).mono ?_
        rintro e w4 ⟨rfl, ⟨m4, hD4⟩, f4⟩
        have Ha := Lib.hid (Hal.out w4 m4 hD4)
        go_wp2_with fail
        refine (Ha.out).mono ?_
        rintro e w5 ⟨rfl, f5⟩
        have hD5 := hD4.fr0 f5
        go_wp2_with fail
        go_roundw
        case rel => exact ⟨k + 1, by omega, by go_num, ⟨_, hD5⟩, (frx.tr f4).tr (f5.mono (fun _ _ e => e.elim)), (frwx.trans f4 (fun i hi e => Hfw.out i hi e)).tr f5⟩
        case measure => simp [intOf]; omega
      · have e16 : k = 16 := by omega
        subst e16
        have hn3 := hD.hn
        have Hp := Lib.hid (page_in wr a m hD.M 0 (by omega) (by rw [hn3]; decide))
        have HM := Lib.hid hD.M
        have HN := Lib.hid hn3
        clear hD HL hn3
        go_wp2_with fail
        refine (Hp.out).mono ?_
        rintro e w4 ⟨rfl, hc4, f4⟩
        have hM4 := HM.out.fr0 f4
        have Hq := Lib.hid (page_out w4 a m hM4 3 (by rw [HN.out]; decide))
        have hI4 := cells_ints hc4 (fun k hk => HM.out.bd _ (by rw [HN.out]; show 0 * 64 + k < 3 * 64; omega))
        have hpp := putPage_any w4 a m hM4 (-1) (some ⟨wr.heap.size, 0, none⟩) 64 64 (wr.heap.size + 1) _ hI4 hc4.lt (fun _ b off e ho => by
          injection e with e
          injection e with e1
          have := HM.out.lt b ho
          omega) (by decide)
        have hpf : pgB m (-1) 64 = false := by simp [pgB]
        rw [hpf] at hpp
        have Hpp := Lib.hid hpp
        clear hpp hpf hI4 hc4
        go_wp2_with fail
        refine (Hq.out).mono ?_
        rintro e w' ⟨rfl, rfl⟩
        go_wp2_with fail
        refine (Hpp.out).mono ?_
        rintro e w5 ⟨rfl, _, f5⟩
        have fr5 := (frw.tr f4).trans (S := fun _ => False) f5 (fun i hi e => Hfw.out i hi (.inr (.inr e)))
        go_wp2_with fail
        refine (known7 _).mono ?_
        rintro e w6 ⟨rfl, f6⟩
        go_wp2_with fail
        go_ret
        exact ⟨rfl, fr5.tr f6⟩
end Go.Proofs.Ytijhbhhcaicdfaa.ramNumbers
