/- Translations that are kept: Find, Len, Flushes, Keys, Linked. -/
import Derived.Test.YtfjlgdafakbdoaaCa
namespace Go.Proofs.Ytfjlgdafakbdoaa.Ca
open Go.RowKit Mz Go.Maps
set_option linter.unusedVariables false
set_option linter.unusedSimpArgs false
set_option maxHeartbeats 4000000

theorem info8 : (Try.prog.info? 5).map (fun i => (i.zero, i.size, i.bytes)) = some (some (.int .u8 0), 1, 1) := by kernel_rfl
/-- new memory is handed back that holds these cells -/
def Gives (w : World) (n : Nat) (news : List Value) (e : Ending) (w' : World) : Prop :=
  ∃ A c, e = .returned (.slice A n c) ∧ w'.ownsRow w.heap.size 5 1 (.slice A n c) n news ∧ Fr (fun _ => False) w w'
theorem slice_form {w : World} {base n s : Nat} {e : TypeId} {v : Value} {xs : List Value} (h : w.ownsRow base e s v n xs) : ∃ A c, v = .slice A n c := by
  rcases h.2 with ⟨rfl, h0⟩ | ⟨g, cap, cur, rfl, _⟩
  · rw [h0]; exact ⟨_, _, rfl⟩
  · exact ⟨_, _, rfl⟩
theorem clone_any (w : World) (A : Option Addr) (n c B : Nat) (news : List Value) (hr : Reads w B 1 A n news) (hB : B ≤ w.heap.size) (h1 : ∀ u ∈ news, u.oneCell' = true) (hn : n ≤ 1099511627776) (hne : A = none → n = 0 ∧ c = 0) :
    Calls Try.prog 25 #[.slice A n c] w (Gives w n news) := by
  obtain ⟨i0, hi0, hz0, hz1, hz2⟩ := info_parts info8
  cases A with
  | none =>
    obtain ⟨rfl, rfl⟩ := hne rfl
    have hnil : news = [] := List.eq_nil_of_length_eq_zero (by simpa using hr.1)
    subst hnil
    have hq := fun w => Lib.run_eql_slice_nil (P := Try.prog) w 22 5 none 0 0 0 0 Try.underlying22
    go_enter Try.func25, Try.ntmps25
    go_wp2_with fail
    go_ret
    exact ⟨none, 0, rfl, ⟨by simp, .inl ⟨rfl, rfl⟩⟩, Fr.refl _ _⟩
  | some ad =>
    have hq := fun w => Lib.run_eql_slice_nil (P := Try.prog) w 22 5 (some ad) n c 0 0 Try.underlying22
    have ho : (w.alloc (.cells #[] 5)).ownsRow w.heap.size 5 1 (.slice (some ⟨w.heap.size, 0, none⟩) 0 0) 0 [] := ⟨rfl, .inr ⟨w.heap.size, 0, #[], rfl, Nat.le_refl _, Blk.new _ _ _, Nat.le_refl _, by simp [maxLen], rfl, rfl⟩⟩
    have hr1 := hr.alloc hB (.cells #[] 5)
    clear hr
    go_enter Try.func25, Try.ntmps25
    go_wp2_with
      (at_builtin
       refine wpList_append_any _ rfl (.tmp 5) (.tmp 6) _ rfl w.heap.size 5 i0 _ 1 1 Try.underlying22 hi0 hz0 hz1 hz2 rfl (by omega) (.slice (some ⟨w.heap.size, 0, none⟩) 0 0) 0 [] rfl ho B (some ad) n c news rfl hr1 h1 (by simp only [maxLen]; omega) (by omega) (by simp) ?_
       intro v1 w1 hown1 hg1 hat1)
    go_ret
    rw [Nat.zero_add, List.nil_append] at hown1
    obtain ⟨A1, c1, rfl⟩ := slice_form hown1
    refine ⟨A1, c1, rfl, hown1, ((Fr.refl _ _).alloc _).grown hg1 (fun k hk => ?_)⟩
    have e : w.heap.size = k := by simpa [Value.ownBlock] using hk
    exact .inr (by omega)
theorem results_ct {P : Program} {fn : Func} {p q : Tmp} {ty' : TypeId} (h : fn.results = #[.cell q ty', .tmp p]) (tmps : Array Value) (w : World) (g' : Nat) (t' : TypeId) (cs' : Array Value) (d' : TypeDesc) (v : Value)
    (hp : tmps.getD p undef = v) (hq : tmps.getD q undef = .pointer (some ⟨g', 0, none⟩)) (hg' : Blk w g' t' cs')
    (hu' : P.underlying ty' = some d') (hd' : (match d' with | .struct _ | .array _ _ => true | _ => false) = true) (hi' : (P.info? ty').map (·.size) = some cs'.size) :
    (results fn tmps).run P w = .ok (.tuple #[.agg cs', v]) w := by
  have hp' : tmps[p]?.getD undef = v := by simpa using hp
  have hq' : tmps[q]?.getD undef = .pointer (some ⟨g', 0, none⟩) := by simpa using hq
  simp [results, h, hp', hq', asAddr, run_loadVar_row w g' t' ty' cs' (0, 0) d' hg' hu' hd' hi', Sem.run_bind, Result.andThen]
theorem szB : (Try.prog.info? 34).map (·.size) = some 4 := by kernel_rfl
theorem code_reads {w : World} {b : Bk} (h : CodeOk w b) : Reads w w.heap.size 1 b.A b.code.length (b.code.map (Value.int .u8)) ∧ (b.A = none → b.code.length = 0 ∧ b.c = 0) := by
  refine ⟨Reads.of_own h, fun e => ?_⟩
  rcases h.2 with ⟨e2, h0⟩ | ⟨g', cap, cur, e2, _⟩
  · injection e2 with _ h1 h2
    exact ⟨h1, h2⟩
  · rw [e] at e2; simp at e2
/-- what is told where there is none -/
def noB : Array Value := #[.int .u32 0, .int .u32 0, .slice none 0 0, .int .i64 0]
theorem find_no (w : World) (g : Nat) (s : Cs) (h : Cch w g s) (k : Ky) (hk : idx k s.bl < 0) :
    Calls Try.prog 14 #[.pointer (some ⟨g, 0, none⟩), .agg #[.int .u32 k.1, .int .u32 k.2]] w fun e w' => e = .returned (.tuple #[.agg noB, .bool false]) ∧ Fr (fun _ => False) w w' := by
  have f1 := (Fr.refl (fun _ => False) w).alloc (.cells #[.int .u32 k.1, .int .u32 k.2] 31)
  have f2 := f1.alloc (.cells #[.int .u32 0, .int .u32 0, .slice none 0 0, .int .i64 0] 34)
  have b2 : Blk ((w.alloc (.cells #[.int .u32 k.1, .int .u32 k.2] 31)).alloc (.cells #[.int .u32 0, .int .u32 0, .slice none 0 0, .int .i64 0] 34)) (w.alloc (.cells #[.int .u32 k.1, .int .u32 k.2] 31)).heap.size 34 #[.int .u32 0, .int .u32 0, .slice none 0 0, .int .i64 0] := Blk.new _ _ _
  have hs1 : (w.alloc (.cells #[.int .u32 k.1, .int .u32 k.2] 31)).heap.size = w.heap.size + 1 := by simp
  rw [hs1] at b2
  have Hp := Lib.hid (place_any _ g s (h.fr0 f2) k)
  obtain ⟨i, hi⟩ : ∃ i, idx k s.bl = i := ⟨_, rfl⟩
  rw [hi] at Hp hk
  have F2 := Lib.hid f2
  clear f1 f2 h hi
  go_enter Try.func14, Try.ntmps14
  go_wp2_with fail
  refine (Hp.out).mono ?_
  rintro e w3 ⟨rfl, f3⟩
  have b3 := b2.fr f3 (fun e => e)
  have c0 := b3.cell 0
  have c1 := b3.cell 1
  have c2 := b3.cell 2
  have c3 := b3.cell 3
  have z0 := b3.frozen 0
  have z1 := b3.frozen 1
  have z2 := b3.frozen 2
  have z3 := b3.frozen 3
  have F3 := Lib.hid (F2.out.tr f3)
  clear b2 f3 Hp
  go_wp2_with fail
  have b4 : Blk _ (w.heap.size + 1) 34 noB := (((b3.set_ 0 (.int .u32 0)).set_ 1 (.int .u32 0)).set_ 2 (.slice none 0 0)).set_ 3 (.int .i64 0)
  exact bodyPost_ret (results_ct rfl _ _ (w.heap.size + 1) 34 noB _ (.bool false) rfl rfl b4 Try.underlying34 rfl szB) rfl ⟨rfl, (((F3.out.setCell (p := ⟨w.heap.size + 1, 0, none⟩) (.inr (Nat.le_succ _)) _).setCell (p := ⟨w.heap.size + 1, 1, none⟩) (.inr (Nat.le_succ _)) _).setCell (p := ⟨w.heap.size + 1, 2, none⟩) (.inr (Nat.le_succ _)) _).setCell (p := ⟨w.heap.size + 1, 3, none⟩) (.inr (Nat.le_succ _)) _⟩
theorem own_low {w : World} {b1 b2 n s : Nat} {e : TypeId} {v : Value} {xs : List Value} (h : w.ownsRow b1 e s v n xs) (hb : b2 ≤ b1) : w.ownsRow b2 e s v n xs := by
  obtain ⟨h1, h2⟩ := h
  refine ⟨h1, ?_⟩
  rcases h2 with h2 | ⟨g, cap, cur, hv, hg, r⟩
  · exact .inl h2
  · exact .inr ⟨g, cap, cur, hv, Nat.le_trans hb hg, r⟩
/-- what is told of a block: its code is new -/
def Told (w : World) (b : Bk) (e : Ending) (w' : World) : Prop :=
  ∃ A c, e = .returned (.tuple #[.agg #[.int .u32 b.pc, .int .u32 b.pl, .slice A b.code.length c, .int .i64 b.ct], .bool true]) ∧ w'.ownsRow w.heap.size 5 1 (.slice A b.code.length c) b.code.length (b.code.map (Value.int .u8)) ∧ Fr (fun _ => False) w w'
theorem find_yes (w : World) (g : Nat) (s : Cs) (h : Cch w g s) (k : Ky) (i : Nat) (hk : idx k s.bl = i) :
    Calls Try.prog 14 #[.pointer (some ⟨g, 0, none⟩), .agg #[.int .u32 k.1, .int .u32 k.2]] w (Told w (nthB s.bl i)) := by
  have hil : i < s.bl.length := by have := (idx_lo k s.bl).2; omega
  have f1 := (Fr.refl (fun _ => False) w).alloc (.cells #[.int .u32 k.1, .int .u32 k.2] 31)
  have f2 := f1.alloc (.cells #[.int .u32 0, .int .u32 0, .slice none 0 0, .int .i64 0] 34)
  have b2 : Blk ((w.alloc (.cells #[.int .u32 k.1, .int .u32 k.2] 31)).alloc (.cells #[.int .u32 0, .int .u32 0, .slice none 0 0, .int .i64 0] 34)) (w.alloc (.cells #[.int .u32 k.1, .int .u32 k.2] 31)).heap.size 34 #[.int .u32 0, .int .u32 0, .slice none 0 0, .int .i64 0] := Blk.new _ _ _
  have hs1 : (w.alloc (.cells #[.int .u32 k.1, .int .u32 k.2] 31)).heap.size = w.heap.size + 1 := by simp
  rw [hs1] at b2
  have Hp := Lib.hid (place_any _ g s (h.fr0 f2) k)
  rw [hk] at Hp
  have F2 := Lib.hid f2
  have HC := Lib.hid (h.fr0 f2)
  have hroom := h.ok.room
  have hlen := h.ok.len
  clear f1 f2 h hk
  go_enter Try.func14, Try.ntmps14
  go_wp2_with fail
  refine (Hp.out).mono ?_
  rintro e w3 ⟨rfl, f3⟩
  have b3 := b2.fr f3 (fun e => e)
  have h3 := HC.out.fr0 f3
  obtain ⟨d0, d1, d2, d3⟩ := h3.cells
  have F3 := Lib.hid (F2.out.tr f3)
  have HB3 := Lib.hid b3
  have hmem : nthB s.bl i ∈ s.bl := by rw [nthB_at hil]; exact List.getElem_mem hil
  have hcode := h3.code _ hmem
  have hcok := (h3.ok.code _ hmem).2.1
  obtain ⟨gl, off, hA, r0, r1, r2, r3⟩ := h3.r.at_ i hil
  rw [hA] at d1
  obtain ⟨n, hn⟩ : ∃ n, s.bl.length = n := ⟨_, rfl⟩
  rw [hn] at d1 hil hlen
  have i0 : (0 : Int) ≤ (i : Int) := by omega
  have i1 : (i : Int) < (n : Int) := by omega
  generalize nthB s.bl i = b at *
  have f4 := (Fr.refl (fun _ => False) w3).alloc (.cells #[.int .u32 b.pc, .int .u32 b.pl, .slice b.A b.code.length b.c, .int .i64 b.ct] 34)
  have b7 : Blk (w3.alloc (.cells #[.int .u32 b.pc, .int .u32 b.pl, .slice b.A b.code.length b.c, .int .i64 b.ct] 34)) w3.heap.size 34 #[.int .u32 b.pc, .int .u32 b.pl, .slice b.A b.code.length b.c, .int .i64 b.ct] := Blk.new _ _ _
  obtain ⟨hrd, hnn⟩ := code_reads (hcode.fr f4 (fun _ _ e => e))
  have Hc := Lib.hid (clone_any (w3.alloc (.cells #[.int .u32 b.pc, .int .u32 b.pl, .slice b.A b.code.length b.c, .int .i64 b.ct] 34)) b.A b.code.length b.c _ _ hrd (Nat.le_refl _) oneCell_ints (by omega) hnn)
  have F4 := Lib.hid f4
  have hgB : w.heap.size + 1 ≠ w3.heap.size := by have := b3.lt; omega
  have hszw := F3.out.size
  have hgB2 : w.heap.size + 1 < w3.heap.size := b3.lt
  clear f3 Hp b2 HC h3 d0 d2 d3 hcode hrd hnn f4 b3 hmem hs1
  obtain ⟨clen, hcl⟩ : ∃ q, b.code.length = q := ⟨_, rfl⟩
  rw [hcl] at Hc r2 b7 F4 hcok
  have HCL := Lib.hid hcl
  clear hcl
  obtain ⟨pc, hpc⟩ : ∃ q, b.pc = q := ⟨_, rfl⟩
  obtain ⟨pl, hpl⟩ : ∃ q, b.pl = q := ⟨_, rfl⟩
  obtain ⟨bt, hbt⟩ : ∃ q, b.ct = q := ⟨_, rfl⟩
  rw [hpc, hpl, hbt] at b7 F4 Hc
  rw [hpc] at r0
  rw [hpl] at r1
  rw [hbt] at r3
  have HPC := Lib.hid hpc
  have HPL := Lib.hid hpl
  have HBT := Lib.hid hbt
  clear hpc hpl hbt
  generalize b.A = bA at *
  generalize b.c = bc at *
  go_wp2_with fail
  refine (Hc.out).mono ?_
  rintro e w5 ⟨A', c', rfl, hown, f5⟩
  have b75 := b7.fr f5 (fun e => e)
  have b35 := (HB3.out.fr F4.out (fun e => e)).fr f5 (fun e => e)
  have e0 := b75.cell 0
  have e1 := b75.cell 1
  have e2 := b75.cell 2
  have e3 := b75.cell 3
  have y2 := b75.frozen 2
  have u0 := b35.cell 0
  have u1 := b35.cell 1
  have u2 := b35.cell 2
  have u3 := b35.cell 3
  have z0 := b35.frozen 0
  have z1 := b35.frozen 1
  have z2 := b35.frozen 2
  have z3 := b35.frozen 3
  have HO := Lib.hid hown
  have F5 := Lib.hid ((F3.out.tr F4.out).tr f5)
  have hs5 := F4.out.size
  have HB35 := Lib.hid b35
  have hgl7 := b7.lt
  clear b75 b35 f5 hown Hc b7 r0 r1 r2 r3 d1
  generalize hg7 : w3.heap.size = g7 at *
  go_wp2_with fail
  have fz : Fr (fun q => q = g7 ∨ q = w.heap.size + 1) w5 (((((w5.setCell ⟨g7, 2, none⟩ (.slice A' clen c')).setCell ⟨w.heap.size + 1, 0, none⟩ (.int .u32 pc)).setCell ⟨w.heap.size + 1, 1, none⟩ (.int .u32 pl)).setCell ⟨w.heap.size + 1, 2, none⟩ (.slice A' clen c')).setCell ⟨w.heap.size + 1, 3, none⟩ (.int .i64 bt)) :=
    ((((((Fr.refl _ w5).setCell (p := ⟨g7, 2, none⟩) (.inl (.inl rfl)) _).setCell (p := ⟨w.heap.size + 1, 0, none⟩) (.inl (.inr rfl)) _).setCell (p := ⟨w.heap.size + 1, 1, none⟩) (.inl (.inr rfl)) _).setCell (p := ⟨w.heap.size + 1, 2, none⟩) (.inl (.inr rfl)) _).setCell (p := ⟨w.heap.size + 1, 3, none⟩) (.inl (.inr rfl)) _)
  have b9 : Blk (((((w5.setCell ⟨g7, 2, none⟩ (.slice A' clen c')).setCell ⟨w.heap.size + 1, 0, none⟩ (.int .u32 pc)).setCell ⟨w.heap.size + 1, 1, none⟩ (.int .u32 pl)).setCell ⟨w.heap.size + 1, 2, none⟩ (.slice A' clen c')).setCell ⟨w.heap.size + 1, 3, none⟩ (.int .i64 bt)) (w.heap.size + 1) 34 #[.int .u32 pc, .int .u32 pl, .slice A' clen c', .int .i64 bt] :=
    ((((HB35.out.far (p := ⟨g7, 2, none⟩) (by show w.heap.size + 1 ≠ g7; exact hgB) (.slice A' clen c')).set_ 0 (.int .u32 pc)).set_ 1 (.int .u32 pl)).set_ 2 (.slice A' clen c')).set_ 3 (.int .i64 bt)
  refine bodyPost_ret (results_ct rfl _ _ (w.heap.size + 1) 34 _ _ (.bool true) rfl rfl b9 Try.underlying34 rfl szB) rfl ⟨A', c', ?_, ?_, F5.out.trans fz (fun q hq e => by rcases e with e | e <;> omega)⟩
  · rw [HPC.out, HPL.out, HBT.out, HCL.out]
  · rw [HCL.out]
    refine own_low (own_fr HO.out fz (fun q hq e => ?_)) (by omega)
    have h1 := own_base HO.out q hq
    have h2 : q = g7 ∨ q = w.heap.size + 1 := e
    omega
theorem len_any (w : World) (g : Nat) (s : Cs) (h : Cch w g s) : Calls Try.prog 12 #[.pointer (some ⟨g, 0, none⟩)] w fun e w' => e = .returned (.int .i64 s.bl.length) ∧ w = w' := by
  obtain ⟨c0, c1, c2, c3⟩ := h.cells
  go_enter Try.func12, Try.ntmps12
  go_wp2_with fail
  go_ret
  exact ⟨rfl, rfl⟩
theorem flushes_any (w : World) (g : Nat) (s : Cs) (h : Cch w g s) : Calls Try.prog 13 #[.pointer (some ⟨g, 0, none⟩)] w fun e w' => e = .returned (.int .i64 s.fl) ∧ w = w' := by
  obtain ⟨c0, c1, c2, c3⟩ := h.cells
  go_enter Try.func13, Try.ntmps13
  go_wp2_with fail
  go_ret
  exact ⟨rfl, rfl⟩
/-- keys as they lie in memory -/
def kcells (l : List Ky) : List Value := l.flatMap fun k => [.int .u32 k.1, .int .u32 k.2]
theorem kcells_len (l : List Ky) : (kcells l).length = l.length * 2 := by
  induction l with
  | nil => rfl
  | cons b l ih =>
    show ([_, _] ++ kcells l).length = _
    rw [List.length_append, ih]
    show 2 + l.length * 2 = (l.length + 1) * 2
    omega
theorem info2 : (Try.prog.info? 31).map (fun i => (i.zero, i.size, i.bytes)) = some (some (.agg #[.int .u32 0, .int .u32 0]), 2, 8) := by kernel_rfl
set_option maxRecDepth 100000 in
theorem keys_any (w : World) (g : Nat) (s : Cs) (h : Cch w g s) :
    Calls Try.prog 16 #[.pointer (some ⟨g, 0, none⟩)] w fun e w' => ∃ A c, e = .returned (.slice A s.bl.length c) ∧ w'.ownsRow w.heap.size 31 2 (.slice A s.bl.length c) s.bl.length (kcells (s.bl.map Bk.k)) ∧ Fr (fun _ => False) w w' := by
  obtain ⟨i0, hi0, hz0, hz1, hz2⟩ := info_parts info2
  obtain ⟨c0, c1, c2, c3⟩ := h.cells
  have hlen := h.ok.len
  have hroom := h.ok.room
  obtain ⟨n, hn⟩ : ∃ n, s.bl.length = n := ⟨_, rfl⟩
  obtain ⟨sA, hsA⟩ : ∃ q, s.A = q := ⟨_, rfl⟩
  rw [hn, hsA] at c1
  rw [hn] at hlen
  have HN := Lib.hid hn
  have HSA := Lib.hid hsA
  have HC := Lib.hid h
  clear h hn c0 c2 c3 hsA
  go_enter Try.func16, Try.ntmps16
  go_wp2_with fail
  go_loopw [3, 11] (fun v i wr => ∃ (q : Nat) (A : Option Addr) (c : Nat), q ≤ n ∧ v = .slice A q c ∧ i = .int .i64 q ∧ wr.ownsRow w.heap.size 31 2 (.slice A q c) q (kcells ((s.bl.take q).map Bk.k)) ∧ Fr (fun _ => False) w wr) (fun _ i _ => n - (intOf i).toNat)
  case atStart => exact ⟨0, none, 0, by omega, rfl, rfl, ⟨rfl, .inl ⟨rfl, rfl⟩⟩, Fr.refl _ _⟩
  case round =>
    obtain ⟨q, A, c, hq, rfl, rfl, hown, fr⟩ := hrel
    by_cases hlt : q < n
    · have hl : q < s.bl.length := by have := HN.out; omega
      obtain ⟨gl, off, hA, r0, r1, r2, r3⟩ := (HC.out.fr0 fr).r.at_ q hl
      have hA2 : sA = some ⟨gl, off, none⟩ := HSA.out.symm.trans hA
      subst hA2
      clear hA
      have hd : decide ((q : Int) < (n : Int)) = true := by simp; omega
      have q0 : (0 : Int) ≤ (q : Int) := by omega
      have q1 : (q : Int) < (n : Int) := by omega
      have HF := Lib.hid fr
      have HT : Hid (kcells ((s.bl.take (q + 1)).map Bk.k) = kcells ((s.bl.take q).map Bk.k) ++ [.int .u32 (nthB s.bl q).pc, .int .u32 (nthB s.bl q).pl]) := Lib.hid (by
        rw [List.take_add_one, List.getElem?_eq_getElem hl, List.map_append]
        unfold kcells
        rw [List.flatMap_append, nthB_at hl]
        rfl)
      clear fr
      obtain ⟨pc, hpc⟩ : ∃ p, (nthB s.bl q).pc = p := ⟨_, rfl⟩
      obtain ⟨pl, hpl⟩ : ∃ p, (nthB s.bl q).pl = p := ⟨_, rfl⟩
      rw [hpc] at r0
      rw [hpl] at r1
      rw [hpc, hpl] at HT
      clear hpc hpl
      generalize (nthB s.bl q).A = bA at *
      generalize (nthB s.bl q).code.length = bn at *
      generalize (nthB s.bl q).c = bc at *
      generalize (nthB s.bl q).ct = bt at *
      have hownA := (hown.alloc (.cells #[.int .u32 pc, .int .u32 pl, .slice bA bn bc, .int .i64 bt] 34)).alloc (.cells #[.int .u32 pc, .int .u32 pl] 31)
      have hs1 : (wr.alloc (.cells #[.int .u32 pc, .int .u32 pl, .slice bA bn bc, .int .i64 bt] 34)).heap.size = wr.heap.size + 1 := by simp
      have hrd : Reads ((wr.alloc (.cells #[.int .u32 pc, .int .u32 pl, .slice bA bn bc, .int .i64 bt] 34)).alloc (.cells #[.int .u32 pc, .int .u32 pl] 31)) (wr.heap.size + 2) 2 (some ⟨wr.heap.size + 1, 0, none⟩) 1 [.int .u32 pc, .int .u32 pl] := by
        have := reads_blk (size := 2) (n := 1) (Blk.new (wr.alloc (.cells #[.int .u32 pc, .int .u32 pl, .slice bA bn bc, .int .i64 bt] 34)) 31 #[.int .u32 pc, .int .u32 pl]) rfl
        rw [hs1] at this
        exact this
      go_wp2_with
        (at_builtin
         refine wpList_append_any _ rfl (.tmp 15) (.tmp 18) _ rfl w.heap.size 31 i0 _ 2 8 Try.underlying38 hi0 hz0 hz1 hz2 rfl (by omega) (.slice A q c) q _ rfl hownA (wr.heap.size + 2) (some ⟨wr.heap.size + 1, 0, none⟩) 1 1 [.int .u32 pc, .int .u32 pl] rfl hrd (by simp [Value.oneCell']) (by simp only [maxLen]; omega) (by omega) (by have := HF.out.size; simp; omega) ?_
         intro v1 w1 hown1 hg1 hat1
         obtain ⟨A1, cc1, hv1⟩ := slice_form hown1
         subst hv1)
      have HO := Lib.hid hown1
      have HG : Hid (Fr (fun _ => False) w w1) := Lib.hid (((HF.out.alloc _).alloc _).grown hg1 (fun k hk => .inr (own_base hown k hk)))
      clear hown1 hg1 hat1 hown hownA hrd
      go_roundw
      case rel => exact ⟨q + 1, A1, cc1, by omega, rfl, by go_num, by rw [HT.out]; exact HO.out, HG.out⟩
      case measure => simp [intOf]; omega
    · have hd : decide ((q : Int) < (n : Int)) = false := by simp; omega
      have e : q = n := by omega
      have HE : Hid (wr.ownsRow w.heap.size 31 2 (.slice A s.bl.length c) s.bl.length (kcells (s.bl.map Bk.k))) := Lib.hid (by
        have e2 : q = s.bl.length := by rw [e]; exact HN.out.symm
        rw [e2, List.take_length] at hown
        exact hown)
      subst e
      have HF := Lib.hid fr
      clear hown fr
      go_wp2_with fail
      go_ret
      exact ⟨A, c, by rw [HN.out]; rfl, HE.out, HF.out⟩
end Go.Proofs.Ytfjlgdafakbdoaa.Ca
