/- A memory and what is told of it beside it, through one call (innkeeperlaw7.do). -/
import Derived.Test.YtijhbhhcaicdfaaRamDoA
namespace Go.Proofs.Ytijhbhhcaicdfaa.Rm
open Go.RowKit Fm Nt By
set_option linter.unusedVariables false
set_option maxHeartbeats 8000000

set_option maxRecDepth 100000 in
theorem do7_any (w : World) (a : Am) (gb gt n : Nat) (m : Ms) (hS : DS w a gb gt n m) (hgb : ¬ a.own gb) (hgt : ¬ a.own gt) (hbt : gb ≠ gt) (kd at_ v : Int) (hk : (Lit.int .i64 kd).wf = true) (hat : (Lit.int .u32 at_).wf = true) (hv : (Lit.int .u32 v).wf = true)
    (A : Option Addr) (len cap B : Nat) (zs : List Int) (hz : IntsAt .u8 w B A len zs) (hB : B ≤ w.heap.size) (hA : 0 < len → ∀ b off, A = some ⟨b, off, none⟩ → ¬ a.own b ∧ b ≠ gb ∧ b ≠ gt) (hm : len ≤ maxLen) :
    Calls Try.prog 7 #[.pointer (some ⟨a.gm, 0, none⟩), .pointer (some ⟨a.a.gt, 0, none⟩), .slice (some ⟨gb, 0, none⟩) (n * 64) (n * 64), .slice (some ⟨gt, 0, none⟩) n n, .agg #[.int .i64 kd, .int .u32 at_, .int .u32 v, .slice A len cap]] w
      fun e w' => e = .returned (.bool true) ∧ (∃ m', DS w' a gb gt n m') ∧ Fr (fun k => k = gb ∨ k = gt ∨ a.own k) w w' := by
  obtain ⟨hat0, hat1⟩ := wf_u32 hat
  obtain ⟨v0, v1⟩ := wf_u32 hv
  have hn1 := hS.M.n0
  rw [hS.hn] at hn1
  clear hat hv
  generalize hNN : n * 64 = NN at *
  have hNb : NN ≤ 4096 := by omega
  have hN64 : 64 ≤ NN := by omega
  go_enter Try.func7, Try.ntmps7
  have hx0 : Blk (w.alloc (.cells #[.int .i64 kd, .int .u32 at_, .int .u32 v, .slice A len cap] 33)) w.heap.size 33 #[.int .i64 kd, .int .u32 at_, .int .u32 v, .slice A len cap] := Blk.new _ _ _
  have gnb : w.heap.size ≠ gb := fun e => by have := hS.cb.lt; omega
  have gnt : w.heap.size ≠ gt := fun e => by have := hS.ct.lt; omega
  have gno : ¬ a.own w.heap.size := fun e => by have := hS.M.lt _ e; omega
  have f0 : Fr (fun k => k = gb ∨ k = gt ∨ a.own k) w (w.alloc (.cells #[.int .i64 kd, .int .u32 at_, .int .u32 v, .slice A len cap] 33)) := (Fr.refl _ w).alloc _
  have hS0 := hS.fr0 ((Fr.refl _ w).alloc (.cells #[.int .i64 kd, .int .u32 at_, .int .u32 v, .slice A len cap] 33))
  have hz1 := hz.fr ((Fr.refl (fun _ => False) w).alloc (.cells #[.int .i64 kd, .int .u32 at_, .int .u32 v, .slice A len cap] 33)) hB (fun _ _ e => e)
  have hs1 : w.heap.size ≤ (w.alloc (.cells #[.int .i64 kd, .int .u32 at_, .int .u32 v, .slice A len cap] 33)).heap.size := f0.size
  go_upto_block 0 with (fail)
  generalize w.alloc (.cells #[.int .i64 kd, .int .u32 at_, .int .u32 v, .slice A len cap] 33) = w1 at *
  generalize w.heap.size = g at *
  go_cut [10] (fun i wx => i = .bool false ∧ (∃ m', DS wx a gb gt n m') ∧ Blk wx g 33 #[.int .i64 kd, .int .u32 at_, .int .u32 v, .slice A len cap] ∧ Fr (fun k => k = gb ∨ k = gt ∨ a.own k) w wx)
  case first =>
    have hM1 := hS0.M
    have hDB : DB w1 gb gt n m.mem m.tu := ⟨hS0.cb, hS0.ct⟩
    have cb := hS0.cb
    have ct := hS0.ct
    rw [hNN] at cb
    have c1 := hx0.cell 1
    have c2 := hx0.cell 2
    have c3 := hx0.cell 3
    simp only [List.getElem?_toArray, List.getElem?_cons_succ, List.getElem?_cons_zero] at c1 c2 c3
    rcases (by omega : kd = 1 ∨ kd = 2 ∨ kd = 3 ∨ kd = 4 ∨ kd = 5 ∨ kd = 6 ∨ (kd ≠ 1 ∧ kd ≠ 2 ∧ kd ≠ 3 ∧ kd ≠ 4 ∧ kd ≠ 5 ∧ kd ≠ 6)) with rfl | rfl | rfl | rfl | rfl | rfl | hne
    · as_aux_lemma =>
        have e1 : inB m at_ 1 = decide (at_ < (NN : Int)) := by rw [inB, hS.hn]; exact decide_eq_decide.2 (by omega)
        have hp := put_any w1.drew a m hM1.drew at_ (IntKind.u8.wrap v) hat0 hat1 (by rw [IntKind.wrap_u8]; omega) (by rw [IntKind.wrap_u8]; omega)
        have hin : at_ < (NN : Int) → m.putI at_ (IntKind.u8.wrap v) = m.put at_.toNat (v % 256) := fun h => by rw [Ms.putI, e1, decide_eq_true h, if_pos rfl, IntKind.wrap_u8]
        have hout : ¬ at_ < (NN : Int) → m.putI at_ (IntKind.u8.wrap v) = m := fun h => by rw [Ms.putI, e1, decide_eq_false h]; rfl
        rw [e1] at hp
        obtain ⟨m1, hm1⟩ : ∃ m1, m.putI at_ (IntKind.u8.wrap v) = m1 := ⟨_, rfl⟩
        rw [hm1] at hp hin hout
        obtain ⟨bb, hbb⟩ : ∃ bb, decide (at_ < (NN : Int)) = bb := ⟨_, rfl⟩
        rw [hbb] at hp
        have Hp := Lib.hid hp
        have Hin := Lib.hid hin
        have Hout := Lib.hid hout
        clear hp hm1 e1 hin hout
        go_upto_region 4 with (fail)
        go_cut [42] (fun v wx => v = .bool false ∧ Mem wx a m1 ∧ Fr a.own w1 wx)
        case first => as_aux_lemma =>
          have s1 : w1.drew.cell? ⟨g, 1, none⟩ = some (.int .u32 at_) := c1
          have s2 : w1.drew.cell? ⟨g, 2, none⟩ = some (.int .u32 v) := c2
          go_region_held (fun W => W.cell? ⟨g, 1, none⟩ = some (.int .u32 at_) ∧ W.cell? ⟨g, 2, none⟩ = some (.int .u32 v)) (first | exact ⟨s1, s2⟩ | exact ⟨d1, d2⟩) ((refine (Hp.out).mono ?_; rintro e w2 ⟨rfl, hM2, f2⟩; have x2 := hx0.drew.fr f2 gno; have d1 := x2.cell 1; have d2 := x2.cell 2; simp only [List.getElem?_toArray, List.getElem?_cons_succ, List.getElem?_cons_zero] at d1 d2; have HX := Lib.hid (And.intro hM2 (((Fr.refl a.own w1).drew).tr f2)); clear hM2 f2 x2))
          all_goals
            go_wp2_with fail
            go_meet
            exact ⟨by first | rfl | simp, HX.out.1, HX.out.2⟩
        case rest => as_aux_lemma =>
          obtain ⟨rfl, hM2, f2⟩ := hcut
          have x2 := hx0.fr f2 gno
          have d1 := x2.cell 1
          have d2 := x2.cell 2
          simp only [List.getElem?_toArray, List.getElem?_cons_succ, List.getElem?_cons_zero] at d1 d2
          have fr2 : Fr (fun k => k = gb ∨ k = gt ∨ a.own k) w wc := f0.trans f2 (fun i hi e => .inr (.inr e))
          have hB2 : DB wc gb gt n m.mem m.tu := hDB.fr f2 hgb hgt
          by_cases h1 : at_ < (NN : Int)
          · have q1 : decide (at_ < (NN : Int)) = true := by simp [h1]
            have em := Hin.out h1
            obtain ⟨j, rfl⟩ : ∃ j : Nat, at_ = j := ⟨at_.toNat, by omega⟩
            rw [show ((j : Int)).toNat = j from rfl] at em
            have u3 : IntKind.u8.wrap v = v % 256 := IntKind.wrap_u8 v
            have cj := hB2.cb.cell j (by omega)
            have zj := Cells.frozen hB2.cb j
            have x3 := x2.far (p := ⟨gb, j, none⟩) gnb (.int .u8 (v % 256))
            have y1 := x3.cell 1
            simp only [List.getElem?_toArray, List.getElem?_cons_succ, List.getElem?_cons_zero] at y1
            have ct3 := hB2.ct.far (p := ⟨gb, j, none⟩) (fun e => hbt e.symm) (.int .u8 (v % 256))
            have ck := ct3.cell (j / 64) (by omega)
            have zk := Cells.frozen ct3 (j / 64)
            have hD := hB2.put hbt j (v % 256)
            have fx := ((Fr.refl (fun k => k = gb ∨ k = gt) wc).setCell (p := ⟨gb, j, none⟩) (.inl (.inl rfl)) (.int .u8 (v % 256))).setCell (p := ⟨gt, j / 64, none⟩) (.inl (.inr rfl)) (.bool true)
            have hM3 := hM2.fr fx (fun k hk e => by rcases e with rfl | rfl; exact hgb hk; exact hgt hk)
            have x4 := x2.fr fx (fun e => by rcases e with e | e; exact gnb e; exact gnt e)
            have fr4 := fr2.trans fx (fun i hi (e : i = gb ∨ i = gt) => by rcases e with e | e; exact .inl e; exact .inr (.inl e))
            rw [em] at hM3
            have HD := Lib.hid (hD.to (m := m.put j (v % 256)) hM3 hS.hn (fun k h3 h4 => by show updB m.tu (j / 64) true k = false; unfold updB; rw [if_neg (by omega)]; exact hS.tu k h3 h4))
            have HX := Lib.hid x4
            have HF := Lib.hid fr4
            clear hD hM3 x4 fr4 fx hB2 x3 ct3 x2 fr2
            go_wp2_with fail
            go_meet
            exact ⟨rfl, ⟨_, HD.out⟩, HX.out, HF.out⟩
          · have q1 : decide (at_ < (NN : Int)) = false := by simp; omega
            have em := Hout.out h1
            rw [em] at hM2
            have HD := Lib.hid (hB2.to hM2 hS.hn hS.tu)
            go_wp2_with fail
            go_meet
            exact ⟨rfl, ⟨_, HD.out⟩, x2, fr2⟩
    · as_aux_lemma =>
        have e4 : inB m at_ 4 = decide (at_ ≤ (NN : Int) - 4) := by rw [inB, hS.hn]; exact decide_eq_decide.2 (by omega)
        have hp := putWord_any w1 a m hM1 at_ v hat0 hat1 v0 v1
        by_cases h4 : at_ ≤ (NN : Int) - 4
        · have q4 : decide (at_ ≤ (NN : Int) - 4) = true := by simp [h4]
          have g4 : inB m at_ 4 = true := e4.trans q4
          obtain ⟨j, rfl⟩ : ∃ j : Nat, at_ = j := ⟨at_.toNat, by omega⟩
          rw [Ms.putW, g4, if_pos rfl, show ((j : Int)).toNat = j from rfl] at hp
          have Hp := Lib.hid hp
          clear hp e4 g4
          go_wp2_with fail
          refine (Hp.out).mono ?_
          rintro e w2 ⟨rfl, hM2, f2⟩
          have x2 := hx0.fr f2 gno
          have hB2 : DB w2 gb gt n (m.puts j (wby v) 0).mem (m.puts j (wby v) 0).tu := hDB.fr f2 hgb hgt
          have fr2 : Fr (fun k => k = gb ∨ k = gt ∨ a.own k) w w2 := f0.trans f2 (fun i hi e => .inr (.inr e))
          go_wp2_with fail
          go_loopw [13] (fun k wx => ∃ r : Nat, r ≤ 4 ∧ k = .int .u32 r ∧ DB wx gb gt n (m.puts j (wby v) r).mem (m.puts j (wby v) r).tu ∧ Fr (fun q => q = gb ∨ q = gt) w2 wx) (fun k _ => 4 - (intOf k).toNat)
          case atStart => exact ⟨0, by omega, rfl, hB2, Fr.refl _ _⟩
          case round =>
            clear hB2
            obtain ⟨r, hr, rfl, hB, fy⟩ := hrel
            have x4 := x2.fr fy (fun e => by rcases e with e | e; exact gnb e; exact gnt e)
            have d1 := x4.cell 1
            have d2 := x4.cell 2
            simp only [List.getElem?_toArray, List.getElem?_cons_succ, List.getElem?_cons_zero] at d1 d2
            have cbb := hB.cb
            rw [hNN] at cbb
            by_cases hlt : r < 4
            · rcases (by omega : r = 0 ∨ r = 1 ∨ r = 2 ∨ r = 3) with rfl | rfl | rfl | rfl
              · have u3 : IntKind.u8.wrap v = v % 256 := IntKind.wrap_u8 v
                have cj := cbb.cell j (by omega)
                have zj := Cells.frozen cbb j
                have x5 := x4.far (p := ⟨gb, j, none⟩) gnb (.int .u8 (v % 256))
                have y1 := x5.cell 1
                simp only [List.getElem?_toArray, List.getElem?_cons_succ, List.getElem?_cons_zero] at y1
                have ct3 := hB.ct.far (p := ⟨gb, j, none⟩) (fun e => hbt e.symm) (.int .u8 (v % 256))
                have ck := ct3.cell (j / 64) (by omega)
                have zk := Cells.frozen ct3 (j / 64)
                have hD : DB ((wr.setCell ⟨gb, j, none⟩ (.int .u8 (v % 256))).setCell ⟨gt, j / 64, none⟩ (.bool true)) gb gt n (m.puts j (wby v) 1).mem (m.puts j (wby v) 1).tu := hB.put hbt (j + 0) (v % 256)
                have HD := Lib.hid hD
                have HF := Lib.hid ((fy.setCell (p := ⟨gb, j, none⟩) (.inl (.inl rfl)) (.int .u8 (v % 256))).setCell (p := ⟨gt, j / 64, none⟩) (.inl (.inr rfl)) (.bool true))
                clear hD hB cbb x5 x4 ct3
                have q0 : (0 : Int) ≤ (j : Int) := by omega
                have q1 : (j : Int) < (NN : Int) := by omega
                go_wp2_with fail
                go_roundw
                case rel => exact ⟨1, by omega, rfl, HD.out, HF.out⟩
                case measure => simp [intOf]
              · obtain ⟨jr, hjr⟩ : ∃ q : Nat, q = j + 1 := ⟨_, rfl⟩
                have s1 : IntKind.u32.wrap ((j : Int) + 1) = (jr : Int) := by rw [IntWalk.u32_in _ (by omega)]; omega
                have cj := cbb.cell jr (by omega)
                have zj := Cells.frozen cbb jr
                have x5 := x4.far (p := ⟨gb, jr, none⟩) gnb (.int .u8 (v / 256 % 256))
                have y1 := x5.cell 1
                simp only [List.getElem?_toArray, List.getElem?_cons_succ, List.getElem?_cons_zero] at y1
                have ct3 := hB.ct.far (p := ⟨gb, jr, none⟩) (fun e => hbt e.symm) (.int .u8 (v / 256 % 256))
                have ck := ct3.cell (jr / 64) (by omega)
                have zk := Cells.frozen ct3 (jr / 64)
                have hD : DB ((wr.setCell ⟨gb, jr, none⟩ (.int .u8 (v / 256 % 256))).setCell ⟨gt, jr / 64, none⟩ (.bool true)) gb gt n (m.puts j (wby v) 2).mem (m.puts j (wby v) 2).tu := by rw [hjr]; exact hB.put hbt (j + 1) (v / 256 % 256)
                have HD := Lib.hid hD
                have HF := Lib.hid ((fy.setCell (p := ⟨gb, jr, none⟩) (.inl (.inl rfl)) (.int .u8 (v / 256 % 256))).setCell (p := ⟨gt, jr / 64, none⟩) (.inl (.inr rfl)) (.bool true))
                clear hD hB cbb x5 x4 ct3
                have q0 : (0 : Int) ≤ (jr : Int) := by omega
                have q1 : (jr : Int) < (NN : Int) := by omega
                clear hjr
                go_wp2_with fail
                go_roundw
                case rel => exact ⟨2, by omega, rfl, HD.out, HF.out⟩
                case measure => simp [intOf]
              · obtain ⟨jr, hjr⟩ : ∃ q : Nat, q = j + 2 := ⟨_, rfl⟩
                have s1 : IntKind.u32.wrap ((j : Int) + 2) = (jr : Int) := by rw [IntWalk.u32_in _ (by omega)]; omega
                have cj := cbb.cell jr (by omega)
                have zj := Cells.frozen cbb jr
                have x5 := x4.far (p := ⟨gb, jr, none⟩) gnb (.int .u8 (v / 65536 % 256))
                have y1 := x5.cell 1
                simp only [List.getElem?_toArray, List.getElem?_cons_succ, List.getElem?_cons_zero] at y1
                have ct3 := hB.ct.far (p := ⟨gb, jr, none⟩) (fun e => hbt e.symm) (.int .u8 (v / 65536 % 256))
                have ck := ct3.cell (jr / 64) (by omega)
                have zk := Cells.frozen ct3 (jr / 64)
                have hD : DB ((wr.setCell ⟨gb, jr, none⟩ (.int .u8 (v / 65536 % 256))).setCell ⟨gt, jr / 64, none⟩ (.bool true)) gb gt n (m.puts j (wby v) 3).mem (m.puts j (wby v) 3).tu := by rw [hjr]; exact hB.put hbt (j + 2) (v / 65536 % 256)
                have HD := Lib.hid hD
                have HF := Lib.hid ((fy.setCell (p := ⟨gb, jr, none⟩) (.inl (.inl rfl)) (.int .u8 (v / 65536 % 256))).setCell (p := ⟨gt, jr / 64, none⟩) (.inl (.inr rfl)) (.bool true))
                clear hD hB cbb x5 x4 ct3
                have q0 : (0 : Int) ≤ (jr : Int) := by omega
                have q1 : (jr : Int) < (NN : Int) := by omega
                clear hjr
                go_wp2_with fail
                go_roundw
                case rel => exact ⟨3, by omega, rfl, HD.out, HF.out⟩
                case measure => simp [intOf]
              · obtain ⟨jr, hjr⟩ : ∃ q : Nat, q = j + 3 := ⟨_, rfl⟩
                have e24 : v / 16777216 % 256 = v / 16777216 := by omega
                have s1 : IntKind.u32.wrap ((j : Int) + 3) = (jr : Int) := by rw [IntWalk.u32_in _ (by omega)]; omega
                have cj := cbb.cell jr (by omega)
                have zj := Cells.frozen cbb jr
                have x5 := x4.far (p := ⟨gb, jr, none⟩) gnb (.int .u8 (v / 16777216))
                have y1 := x5.cell 1
                simp only [List.getElem?_toArray, List.getElem?_cons_succ, List.getElem?_cons_zero] at y1
                have ct3 := hB.ct.far (p := ⟨gb, jr, none⟩) (fun e => hbt e.symm) (.int .u8 (v / 16777216))
                have ck := ct3.cell (jr / 64) (by omega)
                have zk := Cells.frozen ct3 (jr / 64)
                have hD : DB ((wr.setCell ⟨gb, jr, none⟩ (.int .u8 (v / 16777216))).setCell ⟨gt, jr / 64, none⟩ (.bool true)) gb gt n (m.puts j (wby v) 4).mem (m.puts j (wby v) 4).tu := by rw [hjr, ← e24]; exact hB.put hbt (j + 3) (v / 16777216 % 256)
                have HD := Lib.hid hD
                have HF := Lib.hid ((fy.setCell (p := ⟨gb, jr, none⟩) (.inl (.inl rfl)) (.int .u8 (v / 16777216))).setCell (p := ⟨gt, jr / 64, none⟩) (.inl (.inr rfl)) (.bool true))
                clear hD hB cbb x5 x4 ct3
                have q0 : (0 : Int) ≤ (jr : Int) := by omega
                have q1 : (jr : Int) < (NN : Int) := by omega
                clear hjr e24
                go_wp2_with fail
                go_roundw
                case rel => exact ⟨4, by omega, rfl, HD.out, HF.out⟩
                case measure => simp [intOf]
            · have e : r = 4 := by omega
              rw [e] at hB
              have HD := Lib.hid (hB.to (hM2.fr fy (fun k hk e => by rcases e with rfl | rfl; exact hgb hk; exact hgt hk)) ((puts_n _ _ _ _).trans hS.hn) (puts_out _ _ _ (by omega) hS.tu))
              have HX := Lib.hid x4
              have HF := Lib.hid (fr2.trans fy (fun i hi (e : i = gb ∨ i = gt) => by rcases e with e | e; exact .inl e; exact .inr (.inl e)))
              clear hB cbb x2 fr2 x4
              go_wp2_with fail
              go_meet
              exact ⟨rfl, ⟨_, HD.out⟩, HX.out, HF.out⟩
        · have q4 : decide (at_ ≤ (NN : Int) - 4) = false := by simp; omega
          have g4 : inB m at_ 4 = false := e4.trans q4
          rw [Ms.putW, g4, if_neg (by decide)] at hp
          have Hp := Lib.hid hp
          clear hp e4 g4
          go_wp2_with fail
          refine (Hp.out).mono ?_
          rintro e w2 ⟨rfl, hM2, f2⟩
          have x2 := hx0.fr f2 gno
          have hB2 := hDB.fr f2 hgb hgt
          have fr2 : Fr (fun k => k = gb ∨ k = gt ∨ a.own k) w w2 := f0.trans f2 (fun i hi e => .inr (.inr e))
          have HD := Lib.hid (hB2.to hM2 hS.hn hS.tu)
          have HX := Lib.hid x2
          have HF := Lib.hid fr2
          go_wp2_with fail
          go_loopw [13] (fun k wx => k = .int .u32 0 ∧ w2 = wx) (fun k _ => 0)
          case atStart => exact ⟨rfl, rfl⟩
          case round =>
            obtain ⟨rfl, rfl⟩ := hrel
            go_wp2_with fail
            go_meet
            exact ⟨rfl, ⟨_, HD.out⟩, HX.out, HF.out⟩
    · as_aux_lemma =>
        have hlz := hz.1
        have hA1 : 0 < len → ∀ b off, A = some ⟨b, off, none⟩ → ¬ a.own b := fun h b off e => (hA h b off e).1
        obtain ⟨i0, hi0, hzz0, hzz1, hzz2⟩ := info_parts infoU8
        have hsz : (Try.prog.info? 5).map (·.size) = some 1 := by rw [hi0]; simp [hzz1]
        have w70 : IntKind.i64.wrap (at_ % 70) = at_ % 70 := IntWalk.i64_in _ (by omega)
        have v70 : IntKind.u32.wrap (at_ % 70) = at_ % 70 := IntWalk.u32_in _ (by omega)
        obtain ⟨p, hpq⟩ : ∃ p : Nat, at_ % 70 = p := ⟨(at_ % 70).toNat, by omega⟩
        have p70 : p < 70 := by omega
        have hp := putPage_any w1 a m hM1 (p : Int) A len cap B zs hz1 (by omega) hA1 hm
        have HP := Lib.hid hpq
        by_cases hok : p < n ∧ len = 64
        · obtain ⟨hpn, hl64⟩ := hok
          have hg : pgB m (p : Int) len = true := by simp [pgB, hS.hn, hl64]; omega
          have hL : m.putP (p : Int) zs = m.puts (p * 64) zs 64 := by rw [Ms.putP, hlz, if_pos hg]; rfl
          rw [hg, hL, ← hpq] at hp
          have Hp := Lib.hid hp
          have q1 : decide (at_ % 70 < (n : Int)) = true := by simp; omega
          have q2 : ((len : Int) == 64) = true := by simp; omega
          have hsl := fun W => run_from gb NN p (by omega) W
          have w64 : IntKind.i64.wrap ((p : Int) * 64) = (p : Int) * 64 := IntWalk.i64_in _ (by omega)
          have L64 := Lib.hid hl64
          clear hp hg hL hl64 hpq
          go_wp2_with fail
          refine (Hp.out).mono ?_
          rintro e w2 ⟨rfl, hM2, f2⟩
          have x2 := hx0.fr f2 gno
          have d3 := x2.cell 3
          simp only [List.getElem?_toArray, List.getElem?_cons_succ, List.getElem?_cons_zero] at d3
          have hB2 := hDB.fr f2 hgb hgt
          have hz2 := ints_own hz1 f2 (by omega) hA1
          have fr2 : Fr (fun k => k = gb ∨ k = gt ∨ a.own k) w w2 := f0.trans f2 (fun i hi e => .inr (.inr e))
          have cbb := hB2.cb
          rw [hNN] at cbb
          rw [HP.out]
          clear w70 v70 q1
          have d3' : w2.drew.cell? ⟨g, 3, none⟩ = some (.slice A len cap) := d3
          go_wp2_with fail
          go_still_tail 6, (by kernel_rfl)
          change wpList _ _ _ _ _ w2.drew
          have cbd : Cells w2.drew gb 5 NN _ := cbb
          have hzd : IntsAt .u8 w2.drew B A len zs := hz2
          go_wp2_with
            (refine wpList_copy_cells rfl (.tmp 127) (.tmp 129) 29 29 rfl 5 Try.underlying29 hsz gb (p * 64) (NN - p * 64) (NN - p * 64) A len cap rfl rfl 5 NN _ cbd .u8 B len zs (by have := L64.out; omega) hzd (by have := L64.out; omega) ?_
             intro w3 hc3 f3
             have x3 := x2.drew.fr f3 gnb
             have hM3 := hM2.drew.fr f3 (fun k hk e => hgb (e ▸ hk))
             have ct3 := hB2.ct.drew.fr f3 (fun e => hbt e.symm)
             have fr3 := fr2.drew.trans f3 (fun i hi e => .inl e)
             rw [← hNN] at hc3
             have cb3 := DB.row (m := m) (hlz.trans L64.out) hc3
             have ck := ct3.cell p hpn
             have zk := Cells.frozen ct3 p
             have f4 := Fr.set1 w3 gt p (.bool true)
             have HD : Hid (DS (w3.setCell ⟨gt, p, none⟩ (.bool true)) a gb gt n (m.puts (p * 64) zs 64)) := Lib.hid (DB.to ⟨cb3.fr f4 hbt, Cells.congr (set_tu ct3 p true) (fun q hq => by
                 rw [puts_tu, hits_page]
                 unfold updB
                 by_cases e : q = p
                 · rw [if_pos e, decide_eq_true e]; simp
                 · rw [if_neg e, decide_eq_false e]; simp)⟩ (hM3.fr f4 (fun k hk e => hgt (e ▸ hk))) ((puts_n _ _ _ _).trans hS.hn) (puts_out _ _ _ (by omega) hS.tu))
             have HX := Lib.hid (x3.fr f4 gnt)
             have HF := Lib.hid (fr3.trans f4 (fun i hi e => .inr (.inl e)))
             clear hc3 cb3 cbb hz2 cbd hzd hM3 hM2 fr3 fr2 f4 x3 x2)
          go_meet
          exact ⟨rfl, ⟨_, HD.out⟩, HX.out, HF.out⟩
        · have hg : pgB m (p : Int) len = false := by
            simp only [pgB, hS.hn]
            exact decide_eq_false (by rintro ⟨h1, h2, h3⟩; exact hok ⟨by omega, h3⟩)
          have hL : m.putP (p : Int) zs = m := by rw [Ms.putP, hlz, hg]; rfl
          rw [hg, hL, ← hpq] at hp
          have Hp := Lib.hid hp
          clear hp hg hL
          by_cases hpn : p < n
          · have q1 : decide (at_ % 70 < (n : Int)) = true := by simp; omega
            have q2 : ((len : Int) == 64) = false := by simp; omega
            clear hpq
            go_wp2_with fail
            refine (Hp.out).mono ?_
            rintro e w2 ⟨rfl, hM2, f2⟩
            have x2 := hx0.fr f2 gno
            have hB2 := hDB.fr f2 hgb hgt
            have fr2 : Fr (fun k => k = gb ∨ k = gt ∨ a.own k) w w2 := f0.trans f2 (fun i hi e => .inr (.inr e))
            have HD := Lib.hid (hB2.to hM2 hS.hn hS.tu)
            go_wp2_with fail
            go_meet
            exact ⟨rfl, ⟨_, HD.out⟩, x2, fr2⟩
          · have q1 : decide (at_ % 70 < (n : Int)) = false := by simp; omega
            clear hpq
            go_wp2_with fail
            refine (Hp.out).mono ?_
            rintro e w2 ⟨rfl, hM2, f2⟩
            have x2 := hx0.fr f2 gno
            have hB2 := hDB.fr f2 hgb hgt
            have fr2 : Fr (fun k => k = gb ∨ k = gt ∨ a.own k) w w2 := f0.trans f2 (fun i hi e => .inr (.inr e))
            have HD := Lib.hid (hB2.to hM2 hS.hn hS.tu)
            go_wp2_with fail
            go_meet
            exact ⟨rfl, ⟨_, HD.out⟩, x2, fr2⟩
    · as_aux_lemma =>
        have hlz := hz.1
        have hA1 : 0 < len → ∀ b off, A = some ⟨b, off, none⟩ → ¬ a.own b := fun h b off e => (hA h b off e).1
        have hp := load_any w1 a m hM1 A len cap B zs hz1 (by omega) hA1 hm
        obtain ⟨i0, hi0, hzz0, hzz1, hzz2⟩ := info_parts infoU8
        have hsz : (Try.prog.info? 5).map (·.size) = some 1 := by rw [hi0]; simp [hzz1]
        by_cases hfit : len ≤ NN
        · have hE : loadE m len = 0 := by rw [loadE, if_pos (by rw [hS.hn, hNN]; exact hfit)]
          have hL : m.load zs = m.puts 0 zs len := by rw [Ms.load, hlz, if_pos (by rw [hS.hn, hNN]; exact hfit)]
          rw [hE, hL] at hp
          have Hp := Lib.hid hp
          have qf : decide ((len : Int) ≤ (NN : Int)) = true := by simp; omega
          clear hp hE hL
          go_wp2_with fail
          refine (Hp.out).mono ?_
          rintro e w2 ⟨rfl, hM2, f2⟩
          have x2 := hx0.fr f2 gno
          have d3 := x2.cell 3
          simp only [List.getElem?_toArray, List.getElem?_cons_succ, List.getElem?_cons_zero] at d3
          have hB2 := hDB.fr f2 hgb hgt
          have hz2 := ints_own hz1 f2 (by omega) hA1
          have fr2 : Fr (fun k => k = gb ∨ k = gt ∨ a.own k) w w2 := f0.trans f2 (fun i hi e => .inr (.inr e))
          have cbb := hB2.cb
          rw [hNN] at cbb
          go_wp2_with
            (refine wpList_copy_cells rfl (.tmp 159) (.tmp 161) 29 29 rfl 5 Try.underlying29 hsz gb 0 NN NN A len cap rfl rfl 5 NN _ cbb .u8 B len zs (by omega) hz2 (by omega) ?_
             intro w3 hc3 f3)
          have x3 := x2.fr f3 gnb
          have e3 := x3.cell 3
          simp only [List.getElem?_toArray, List.getElem?_cons_succ, List.getElem?_cons_zero] at e3
          have hM3 := hM2.fr f3 (fun k hk e => hgb (e ▸ hk))
          have ct3 := hB2.ct.fr f3 (fun e => hbt e.symm)
          have fr3 := fr2.trans f3 (fun i hi e => .inl e)
          rw [← hNN] at hc3
          have cb3 := DB.row (m := m) hlz hc3
          have Hcb3 := Lib.hid cb3
          clear hc3 cb3 cbb hz2
          go_wp2_with fail
          go_loopw [17] (fun k wx => ∃ r : Nat, r ≤ len ∧ k = .int .i64 r ∧ Cells wx gt 4 n (fun q => .bool (m.tu q || hits 0 r q)) ∧ Fr (fun q => q = gt) w3 wx) (fun k _ => len - (intOf k).toNat)
          case atStart => exact ⟨0, by omega, rfl, Cells.congr ct3 (fun q hq => by simp [hits]), Fr.refl _ _⟩
          case round =>
            obtain ⟨r, hr, rfl, hC, fy⟩ := hrel
            have x4 := x3.fr fy gnt
            have y3 := x4.cell 3
            simp only [List.getElem?_toArray, List.getElem?_cons_succ, List.getElem?_cons_zero] at y3
            by_cases hlt : r < len
            · have qr : decide ((r : Int) < (len : Int)) = true := by simp; omega
              have cr := hC.cell (r / 64) (by omega)
              have zr := Cells.frozen hC (r / 64)
              have HC := Lib.hid (Cells.congr (set_tu hC (r / 64) true) (f' := fun q => .bool (m.tu q || hits 0 (r + 1) q)) (fun q hq => by
                rw [hits_succ, Nat.zero_add]
                unfold updB
                by_cases e : q = r / 64
                · rw [if_pos e, decide_eq_true e.symm]; simp
                · rw [if_neg e, decide_eq_false (fun h => e h.symm)]; simp))
              have HF := Lib.hid (fy.setCell (p := ⟨gt, r / 64, none⟩) (.inl rfl) (.bool true))
              clear hC x4
              go_wp2_with fail
              go_roundw
              case rel => exact ⟨r + 1, by omega, by go_num, HC.out, HF.out⟩
              case measure => simp [intOf]; omega
            · have qr : decide ((r : Int) < (len : Int)) = false := by simp; omega
              have e : r = len := by omega
              have HD : Hid (DS wr a gb gt n (m.puts 0 zs len)) := Lib.hid (DB.to ⟨(Hcb3.out.fr fy hbt), Cells.congr hC (fun q hq => by rw [puts_tu, e])⟩ (hM3.fr fy (fun k hk e => hgt (e ▸ hk))) ((puts_n _ _ _ _).trans hS.hn) (puts_out _ _ _ (by omega) hS.tu))
              have HX := Lib.hid x4
              have HF := Lib.hid (fr3.trans fy (fun i hi e => .inr (.inl e)))
              clear hC hB2 x2 fr2 e
              go_wp2_with fail
              go_meet
              exact ⟨rfl, ⟨_, HD.out⟩, HX.out, HF.out⟩
        · have hE : loadE m len = 3 := by rw [loadE, if_neg (by rw [hS.hn, hNN]; exact hfit)]
          have hL : m.load zs = m := by rw [Ms.load, hlz, if_neg (by rw [hS.hn, hNN]; exact hfit)]
          rw [hE, hL] at hp
          have Hp := Lib.hid hp
          have qf : decide ((len : Int) ≤ (NN : Int)) = false := by simp; omega
          clear hp hE hL
          go_wp2_with fail
          refine (Hp.out).mono ?_
          rintro e w2 ⟨rfl, hM2, f2⟩
          have x2 := hx0.fr f2 gno
          have d3 := x2.cell 3
          simp only [List.getElem?_toArray, List.getElem?_cons_succ, List.getElem?_cons_zero] at d3
          have hB2 := hDB.fr f2 hgb hgt
          have fr2 : Fr (fun k => k = gb ∨ k = gt ∨ a.own k) w w2 := f0.trans f2 (fun i hi e => .inr (.inr e))
          have HD := Lib.hid (hB2.to hM2 hS.hn hS.tu)
          go_wp2_with fail
          go_meet
          exact ⟨rfl, ⟨_, HD.out⟩, x2, fr2⟩
    · as_aux_lemma =>
        have hp := Lib.hid (calm_any w1 a m hM1)
        go_wp2_with fail
        refine (hp.out).mono ?_
        rintro e w2 ⟨rfl, hM2, f2⟩
        have x2 := hx0.fr f2 gno
        have hB2 := hDB.fr f2 hgb hgt
        have fr2 : Fr (fun k => k = gb ∨ k = gt ∨ a.own k) w w2 := f0.trans f2 (fun i hi e => .inr (.inr e))
        go_wp2_with fail
        go_loopw [18] (fun k wx => ∃ r : Nat, r ≤ n ∧ k = .int .i64 r ∧ Cells wx gt 4 n (fun q => .bool (if q < r then false else m.tu q)) ∧ Fr (fun q => q = gt) w2 wx) (fun k _ => n - (intOf k).toNat)
        case atStart => exact ⟨0, by omega, rfl, Cells.congr hB2.ct (fun q hq => by rw [if_neg (by omega)]), Fr.refl _ _⟩
        case round =>
          obtain ⟨r, hr, rfl, hC, fy⟩ := hrel
          by_cases hlt : r < n
          · have cr := hC.cell r hlt
            have zr := Cells.frozen hC r
            have HC := Lib.hid (Cells.congr (set_tu hC r false) (f' := fun q => .bool (if q < r + 1 then false else m.tu q)) (fun q hq => by
              unfold updB
              by_cases e : q = r
              · rw [if_pos e, if_pos (by omega)]
              · rw [if_neg e]
                show Value.bool (if q < r then false else m.tu q) = Value.bool (if q < r + 1 then false else m.tu q)
                by_cases h : q < r
                · rw [if_pos h, if_pos (by omega)]
                · rw [if_neg h, if_neg (by omega)]))
            have HF := Lib.hid (fy.setCell (p := ⟨gt, r, none⟩) (.inl rfl) (.bool false))
            clear hC
            go_wp2_with fail
            go_roundw
            case rel => exact ⟨r + 1, by omega, by go_num, HC.out, HF.out⟩
            case measure => simp [intOf]; omega
          · have e : r = n := by omega
            have HD : Hid (DS wr a gb gt n m.calm) := Lib.hid (DB.to (m := m.calm) ⟨(hB2.cb.fr fy hbt), Cells.congr hC (fun q hq => by rw [if_pos (by omega)]; rfl)⟩ (hM2.fr fy (fun k hk e => hgt (e ▸ hk))) hS.hn (fun _ _ _ => rfl))
            have HX := Lib.hid (x2.fr fy gnt)
            have HF := Lib.hid (fr2.trans fy (fun i hi e => .inr (.inl e)))
            clear hC hB2 x2 fr2 e
            go_wp2_with fail
            go_meet
            exact ⟨rfl, ⟨_, HD.out⟩, HX.out, HF.out⟩
    · as_aux_lemma =>
        obtain ⟨i0, hi0, hzz0, hzz1, hzz2⟩ := info_parts infoU8
        have hsz : (Try.prog.info? 5).map (·.size) = some 1 := by rw [hi0]; simp [hzz1]
        have w70 : IntKind.i64.wrap (at_ % 70) = at_ % 70 := IntWalk.i64_in _ (by omega)
        have v70 : IntKind.u32.wrap (at_ % 70) = at_ % 70 := IntWalk.u32_in _ (by omega)
        obtain ⟨p, hpq⟩ : ∃ p : Nat, at_ % 70 = p := ⟨(at_ % 70).toNat, by omega⟩
        have p70 : p < 70 := by omega
        have hp := tunmap_any hM1 (p : Int)
        have HP := Lib.hid hpq
        by_cases hok : p < n ∧ m.mp p = true
        · obtain ⟨hpn, hmp⟩ := hok
          have hE : unE m (p : Int) = 0 := by
            rw [unE, hS.hn, decide_eq_true (show (0 : Int) ≤ (p : Int) ∧ (p : Int) < (n : Int) by omega), show (p : Int).toNat = p from rfl, hmp]; rfl
          have hU : m.unmap (p : Int) = m.drop p := by rw [Ms.unmap, hS.hn, if_pos (by omega)]; rfl
          rw [hE, hU, ← hpq] at hp
          have Hp := Lib.hid hp
          have hsl := fun W => run_page gb NN p (by omega) W
          have w64 : IntKind.i64.wrap ((p : Int) * 64) = (p : Int) * 64 := IntWalk.i64_in _ (by omega)
          have w65 : IntKind.i64.wrap ((p : Int) + 1) = (p : Int) + 1 := IntWalk.i64_in _ (by omega)
          have w66 : IntKind.i64.wrap (((p : Int) + 1) * 64) = ((p : Int) + 1) * 64 := IntWalk.i64_in _ (by omega)
          have hmk : ∀ W, (Instr.makeSlice 29 (.int .i64 64) (.int .i64 64)).run Try.prog W = .ok (.slice (some ⟨W.heap.size, 0, none⟩) 64 64) (W.alloc (.cells (zU 64) 5)) := fun W => run_makeU .i64 64 (by omega) W
          clear hp hE hU hpq hmp
          go_wp2_with fail
          refine (Hp.out).mono ?_
          rintro e w2 ⟨rfl, hM2, f2⟩
          have x2 := hx0.fr f2 gno
          have hB2 := hDB.fr f2 hgb hgt
          have fr2 : Fr (fun k => k = gb ∨ k = gt ∨ a.own k) w w2 := f0.trans f2 (fun i hi e => .inr (.inr e))
          have fa : Fr (fun _ => False) w2 (w2.drew.alloc (.cells (zU 64) 5)) := (Fr.refl _ w2).drew.alloc _
          have cbb := hB2.cb.fr fa (fun e => e)
          rw [hNN] at cbb
          have hzz := cells_ints (z := fun _ => 0) (cellsU w2.drew 64 rfl) (fun k _ => by omega)
          have Hcb := Lib.hid cbb
          have Hzz := Lib.hid hzz
          have x3 := x2.fr fa (fun e => e)
          have ct3 := hB2.ct.fr fa (fun e => e)
          have hM3 := hM2.fr0 fa
          have fr3 := fr2.trans fa (fun i hi e => e.elim)
          have HX3 := Lib.hid x3
          have HT3 := Lib.hid ct3
          have HM3 := Lib.hid hM3
          have HF3 := Lib.hid fr3
          clear cbb hzz x3 ct3 hM3 fr3 x2 hB2 hM2 fr2 fa
          rw [HP.out]
          clear w70 v70
          go_wp2_with fail
          refine wp_region_any (by kernel_rfl) ?_
          try (change wpAny _ _ _ _ _ _ _ (World.drew _))
          refine wpAny_take (i := 0) (v := ?_) rfl (by kernel_rfl) (by kernel_rfl) (by kernel_rfl) (fun _ _ _ h => h) (Or.inl ⟨by kernel_rfl, ?_⟩) ?_
          rotate_left
          · (intro w; go_simp; try with_reducible rfl)
          refine wpAny_take (i := 1) (v := ?_) rfl (by kernel_rfl) (by kernel_rfl) (by kernel_rfl) (fun _ _ _ h => h) (Or.inl ⟨by kernel_rfl, ?_⟩) ?_
          rotate_left
          · (intro w; go_simp; try with_reducible rfl)
          refine wpAny_take (i := 2) (v := (.int .i64 ((p : Int) * 64))) rfl (by kernel_rfl) (by kernel_rfl) (by kernel_rfl) (fun _ _ _ h => h) (Or.inl ⟨by kernel_rfl, ?_⟩) ?_
          · (intro w; go_simp <;> first | rfl | assumption | omega)
          refine wpAny_take (i := 3) (v := ?_) rfl (by kernel_rfl) (by kernel_rfl) (by kernel_rfl) (fun _ _ _ h => h) (Or.inl ⟨by kernel_rfl, ?_⟩) ?_
          rotate_left
          · (intro w; go_simp; try with_reducible rfl)
          simp only [Act.put, List.getElem_toArray, List.getElem_cons_zero, List.getElem_cons_succ, List.setIfInBounds_toArray, List.set_cons_zero, List.set_cons_succ]
          refine wpAny_take (i := 4) (v := (.int .i64 ((p : Int) + 1))) rfl (by kernel_rfl) (by kernel_rfl) (by kernel_rfl) (fun _ _ _ h => h) (Or.inl ⟨by kernel_rfl, ?_⟩) ?_
          · (intro w; go_simp <;> first | rfl | assumption | omega)
          refine wpAny_take (i := 5) (v := (.int .i64 (((p : Int) + 1) * 64))) rfl (by kernel_rfl) (by kernel_rfl) (by kernel_rfl) (fun _ _ _ h => h) (Or.inl ⟨by kernel_rfl, ?_⟩) ?_
          · (intro w; go_simp <;> first | rfl | assumption | omega)
          refine wpAny_take (i := 6) (v := ?_) rfl (by kernel_rfl) (by kernel_rfl) (by kernel_rfl) (fun _ _ _ h => h) (Or.inl ⟨by kernel_rfl, ?_⟩) ?_
          rotate_left
          · (intro w; go_simp; try with_reducible rfl)
          simp only [Act.put, List.getElem_toArray, List.getElem_cons_zero, List.getElem_cons_succ, List.setIfInBounds_toArray, List.set_cons_zero, List.set_cons_succ]
          refine wpAny_ready (rs := [7]) (by kernel_rfl) (by simp) ?_
          refine AllReady.cons rfl (fun K hK => ?_) ?_
          · go_simp
            refine hK _ _ ?_
            clear hK K
            refine wpAny_ready (rs := [8]) (by kernel_rfl) (by simp) ?_
            refine AllReady.cons rfl (fun K hK => ?_) ?_
            · refine step_copy_cells rfl (.tmp 203) (.tmp 204) 29 29 rfl 5 Try.underlying29 hsz gb (p * 64) 64 (NN - p * 64) (some ⟨w2.heap.size, 0, none⟩) 64 64 rfl rfl 5 NN _ Hcb.out .u8 (w2.heap.size + 1) 64 (lst (fun _ => 0) 64) rfl Hzz.out (by omega) ?_
              intro w4 hc4 f4
              refine hK _ _ ?_
              clear hK K
              refine wpAny_done (by kernel_rfl) ?_ _
              rw [← hNN] at hc4
              have HD : Hid (DS w4 a gb gt n (m.drop p)) := Lib.hid (DB.to (m := m.drop p) ⟨Cells.congr hc4 (fun i hi => by
                  unfold putR
                  rw [List.length_map, lst_len]
                  show _ = Value.int .u8 (if i / 64 = p then 0 else m.mem i)
                  by_cases h : p * 64 ≤ i ∧ i < p * 64 + 64
                  · rw [if_pos h, if_pos (by omega)]
                    have : i - p * 64 < 64 := by omega
                    simp [List.getD_eq_getElem?_getD, lst, this]
                  · rw [if_neg h, if_neg (by omega)]), HT3.out.fr f4 (fun e => hbt e.symm)⟩ (HM3.out.fr f4 (fun k hk e => hgb (e ▸ hk))) hS.hn hS.tu)
              have HX := Lib.hid (HX3.out.fr f4 gnb)
              have HF := Lib.hid (HF3.out.trans f4 (fun i hi e => .inl e))
              clear hc4 f4
              go_wp2_with fail
              go_meet
              exact ⟨rfl, ⟨_, HD.out⟩, HX.out, HF.out⟩
            exact AllReady.nil
          exact AllReady.nil
        · have hE : unE m (p : Int) = 22 := by
            rw [unE, hS.hn]
            rw [if_neg]
            intro h
            simp only [Bool.and_eq_true, decide_eq_true_eq] at h
            exact hok ⟨by omega, h.2⟩
          have hU : ∀ i, i < n * 64 → (m.unmap (p : Int)).mem i = m.mem i := fun i hi => by
            unfold Ms.unmap
            split
            · rename_i h
              rw [hS.hn] at h
              show (if i / 64 = (p : Int).toNat then 0 else m.mem i) = m.mem i
              split
              · rename_i e
                have hf : m.mp p = false := by
                  cases hm : m.mp p
                  · rfl
                  · exact absurd ⟨by omega, hm⟩ hok
                rw [hM1.zero (i := i) (by rw [hS.hn]; exact hi) (by rw [e]; exact hf)]
              · rfl
            · rfl
          have hT : (m.unmap (p : Int)).tu = m.tu := by unfold Ms.unmap; split <;> rfl
          have hN : (m.unmap (p : Int)).n = n := by rw [← hS.hn]; unfold Ms.unmap; split <;> rfl
          rw [hE, ← hpq] at hp
          have Hp := Lib.hid hp
          rw [hpq] at Hp
          clear hp hE hpq
          go_wp2_with fail
          rw [HP.out]
          refine (Hp.out).mono ?_
          rintro e w2 ⟨rfl, hM2, f2⟩
          have x2 := hx0.fr f2 gno
          have hB2 := hDB.fr f2 hgb hgt
          have fr2 : Fr (fun k => k = gb ∨ k = gt ∨ a.own k) w w2 := f0.trans f2 (fun i hi e => .inr (.inr e))
          have HD := Lib.hid (DB.to (m := m.unmap (p : Int)) ⟨Cells.congr hB2.cb (fun i hi => by rw [hU i hi]), by rw [hT]; exact hB2.ct⟩ hM2 hN (by rw [hT]; exact hS.tu))
          go_wp2_with fail
          go_meet
          exact ⟨rfl, ⟨_, HD.out⟩, x2, fr2⟩
    · as_aux_lemma =>
        obtain ⟨n1, n2, n3, n4, n5, n6⟩ := hne
        have t1 : (kd == 1) = false := by simpa using n1
        have t2 : (kd == 2) = false := by simpa using n2
        have t3 : (kd == 3) = false := by simpa using n3
        have t4 : (kd == 4) = false := by simpa using n4
        have t5 : (kd == 5) = false := by simpa using n5
        have t6 : (kd == 6) = false := by simpa using n6
        go_wp2_with fail
        go_meet
        exact ⟨rfl, ⟨m, hS0⟩, hx0, f0⟩
  case rest => as_aux_lemma =>
    obtain ⟨rfl, ⟨m', hD⟩, hx, fr⟩ := hcut
    clear hS hS0 hx0 f0
    have c1 := hx.cell 1
    simp only [List.getElem?_toArray, List.getElem?_cons_succ, List.getElem?_cons_zero] at c1
    have hwd := word_any wc a m' hD.M at_ hat0 hat1
    have hby := byte_any wc a m' hD.M at_ hat0 hat1
    have e4 : inB m' at_ 4 = decide (at_ ≤ (NN : Int) - 4) := by rw [inB, hD.hn]; exact decide_eq_decide.2 (by omega)
    have e1 : inB m' at_ 1 = decide (at_ < (NN : Int)) := by rw [inB, hD.hn]; exact decide_eq_decide.2 (by omega)
    have cb := hD.cb
    rw [hNN] at cb
    by_cases h4 : at_ ≤ (NN : Int) - 4
    · have q4 : decide (at_ ≤ (NN : Int) - 4) = true := by simp [h4]
      have q1 : decide (at_ < (NN : Int)) = true := by simp; omega
      have g4 : inB m' at_ 4 = true := e4.trans q4
      have g1 : inB m' at_ 1 = true := e1.trans q1
      rw [wrdV, g4] at hwd
      rw [memV, g1] at hby
      simp only [if_true] at hwd hby
      obtain ⟨j, rfl⟩ : ∃ j : Nat, at_ = j := ⟨at_.toNat, by omega⟩
      rw [show ((j : Int)).toNat = j from rfl] at hwd hby
      have d0 := cb.cell j (by omega)
      have d1 := cb.cell (j + 1) (by omega)
      have d2 := cb.cell (j + 2) (by omega)
      have d3 := cb.cell (j + 3) (by omega)
      have Hwd := Lib.hid hwd
      have Hby := Lib.hid hby
      clear hwd hby e4 e1 cb g4 g1
      go_wp2_with fail
      refine (Hwd.out).mono ?_
      rintro e w' ⟨rfl, rfl⟩
      go_wp2_with fail
      refine (Hby.out).mono ?_
      rintro e w' ⟨rfl, rfl⟩
      have s1 : IntKind.u32.wrap ((j : Int) + 1) = ((j + 1 : Nat) : Int) := by rw [IntWalk.u32_in _ (by omega)]; omega
      have s2 : IntKind.u32.wrap ((j : Int) + 2) = ((j + 2 : Nat) : Int) := by rw [IntWalk.u32_in _ (by omega)]; omega
      have s3 : IntKind.u32.wrap ((j : Int) + 3) = ((j + 3 : Nat) : Int) := by rw [IntWalk.u32_in _ (by omega)]; omega
      go_wp2_with fail
      go_quiet (fail)
      go_wp2_with fail
      rw [wrd_join m' j (fun i hi => hD.M.bd (j + i) (by rw [hD.hn]; omega))]
      go_ret
      exact ⟨rfl, ⟨m', hD.fr0 ((Fr.refl _ wc).drewN nq)⟩, fr.drewN nq⟩
    · have q4 : decide (at_ ≤ (NN : Int) - 4) = false := by simp; omega
      have g4 : inB m' at_ 4 = false := e4.trans q4
      rw [wrdV, g4] at hwd
      by_cases h1 : at_ < (NN : Int)
      · have q1 : decide (at_ < (NN : Int)) = true := by simp [h1]
        have g1 : inB m' at_ 1 = true := e1.trans q1
        rw [memV, g1] at hby
        simp only [if_true, Bool.false_eq_true, if_false] at hwd hby
        obtain ⟨j, rfl⟩ : ∃ j : Nat, at_ = j := ⟨at_.toNat, by omega⟩
        rw [show ((j : Int)).toNat = j from rfl] at hby
        have d0 := cb.cell j (by omega)
        have Hwd := Lib.hid hwd
        have Hby := Lib.hid hby
        clear hwd hby e4 e1 cb g4 g1
        go_wp2_with fail
        refine (Hwd.out).mono ?_
        rintro e w' ⟨rfl, rfl⟩
        go_wp2_with fail
        refine (Hby.out).mono ?_
        rintro e w' ⟨rfl, rfl⟩
        go_wp2_with fail
        go_ret
        exact ⟨rfl, ⟨m', hD⟩, fr⟩
      · have q1 : decide (at_ < (NN : Int)) = false := by simp; omega
        have g1 : inB m' at_ 1 = false := e1.trans q1
        rw [memV, g1] at hby
        simp only [Bool.false_eq_true, if_false] at hwd hby
        have Hwd := Lib.hid hwd
        have Hby := Lib.hid hby
        clear hwd hby e4 e1 cb g4 g1
        go_wp2_with fail
        refine (Hwd.out).mono ?_
        rintro e w' ⟨rfl, rfl⟩
        go_wp2_with fail
        refine (Hby.out).mono ?_
        rintro e w' ⟨rfl, rfl⟩
        go_wp2_with fail
        go_ret
        exact ⟨rfl, ⟨m', hD⟩, fr⟩
end Go.Proofs.Ytijhbhhcaicdfaa.Rm
