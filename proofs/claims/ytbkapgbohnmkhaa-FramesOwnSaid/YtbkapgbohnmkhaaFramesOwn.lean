/- FramesOwn: the walk. -/
import Derived.Test.YtbkapgbohnmkhaaFramesOpen
import Derived.Test.YtbkapgbohnmkhaaSame64
namespace Go.Proofs.Ytbkapgbohnmkhaa.framesOwn
open Go.RowKit Fm
set_option linter.unusedVariables false
set_option maxHeartbeats 4000000

def zB256 : Array Value := madeCells #[.bool false] 256
theorem infoBo : (Try.prog.info? 4).map (fun i => (i.zero, i.size, i.bytes)) = some (some (.bool false), 1, 1) := by kernel_rfl
theorem run_mk (w : World) : (Instr.makeSlice 81 (.int .i64 256) (.int .i64 256)).run Try.prog w = .ok (.slice (some ⟨w.heap.size, 0, none⟩) 256 256) (w.alloc (.cells zB256 4)) := by
  obtain ⟨i0, hi0, hz0, hz1, hz2⟩ := info_parts infoBo
  have hr := run_make (P := Try.prog) w 81 4 i0 (.bool false) Try.underlying81 hi0 hz0 .i64 .i64 256 256 (by omega) (by omega) (by rw [hz2]; omega) (by omega)
  simp only [hz1, Nat.mul_one] at hr
  exact hr
theorem cellsB256 (w : World) : Cells (w.alloc (.cells zB256 4)) w.heap.size 4 256 (fun _ => .bool false) := by
  have e : zB256.toList = List.replicate 256 (.bool false) := by rw [zB256, toList_madeCells_one]
  exact Cells.new' w _ _ 256 _ (by
    rw [e]
    apply List.ext_getElem?
    intro i
    rw [List.getElem?_replicate, List.getElem?_map]
    by_cases hi : i < 256
    · rw [if_pos hi, List.getElem?_range hi]; rfl
    · rw [if_neg hi, List.getElem?_eq_none (by rw [List.length_range]; omega)]; rfl)
/-- how many the owners below o hold -/
def sumH (s : Pl) : Nat → Nat
  | 0 => 0
  | o + 1 => sumH s o + hN s o 256
/-- which frames the owners below o hold -/
def seenO (s : Pl) (o : Nat) (f : Nat) : Bool := decide (0 ≤ s.own f ∧ s.own f < o)
def seenM (s : Pl) (o m : Nat) (f : Nat) : Value := .bool (seenO s o f || hasI ((heldN s o 256).take m) f)
theorem take_ok_own {s : Pl} (hI : PInv s) {o : Nat} (ho : o < 4) : (takeE s o = 0 ∧ ∃ f : Nat, takeV s o = f ∧ 16 ≤ f ∧ f < 256 ∧ (s.take o).own f = o ∧ ∀ k, k < 64 → (s.take o).byt (f * 64 + k) = 0) ∨ takeE s o = 13 := by
  rcases Int.lt_or_le (hN s o 256 : Int) (s.prom o) with hr | hr
  · obtain ⟨f, _, _, f1, f2, _, e1, e2, e3⟩ := hI.takes ho hr
    refine .inl ⟨e1, f, e2, f1, f2, ?_, fun k hk => ?_⟩
    · rw [e3]; exact updI_same _ _ _
    · rw [e3]
      show (if f * 64 ≤ f * 64 + k ∧ f * 64 + k < f * 64 + 64 then 0 else _) = (0 : Int)
      rw [if_pos (by omega)]
  · exact .inr (take_not ho hr).1
set_option maxRecDepth 100000 in
theorem walk (w : World) (A : Option Addr) (len cap : Nat) (hl : AsksAt w w.heap.size A len ∧ len ≤ maxLen) :
    Calls Try.prog 11 #[.slice A len cap] w fun e w' => e = .returned (.bool true) ∧ Fr (fun _ => False) w w' := by
  obtain ⟨hl, hm⟩ := hl
  unfold maxLen at hm
  go_enter Try.func11, Try.ntmps11
  go_wp2_with fail
  refine (Fm.new_any w).mono ?_
  rintro e w1 ⟨rfl, hP, f1⟩
  have hS : ∃ s, Pool w1 w.heap.size s ∧ PInv s := ⟨_, hP, PInv.new⟩
  clear hP
  go_wp2_with fail
  go_loopw [4] (fun i wr => ∃ k : Nat, k ≤ len ∧ i = .int .i64 k ∧ (∃ s, Pool wr w.heap.size s ∧ PInv s) ∧ Fr (fun _ => False) w wr) (fun i _ => len - (intOf i).toNat)
  case atStart => exact ⟨0, Nat.zero_le _, rfl, hS, f1⟩
  case round =>
    clear hS f1
    obtain ⟨k, hk, rfl, ⟨s, hP, hI⟩, fr⟩ := hrel
    by_cases hlt : k < len ∧ k < 80
    · obtain ⟨h1, h2⟩ := hlt
      obtain ⟨b, off, rfl, hb, x, hx⟩ := hl.at_ h1
      obtain ⟨⟨c0, c1, c2, c3, c4⟩, ⟨w0, w1'⟩, ⟨w2, w3'⟩, _⟩ := hx.fr fr hb (Nat.le_refl _) (fun _ _ e => e)
      have hbw : b < wr.heap.size := Nat.lt_of_lt_of_le hb fr.size
      obtain ⟨kd, ow, n, A2, len2, cap2, zs, by_⟩ := x
      dsimp only at c0 c1 c2 c3 c4 w0 w1' w2 w3'
      have hw := Lib.hid (fun W => Bk.within_any W ow 0 3 w0 w1' (by omega) (by omega) (by omega))
      have g1 := Int.emod_nonneg ow (show (3 - 0 + 1 : Int) ≠ 0 by omega)
      have g2 := Int.emod_lt_of_pos ow (show (0 : Int) < 3 - 0 + 1 by omega)
      obtain ⟨o, ho⟩ : ∃ o : Nat, (0 : Int) + ow % (3 - 0 + 1) = o := ⟨(ow % (3 - 0 + 1)).toNat, by omega⟩
      have o4 : o < 4 := by omega
      rw [ho] at hw
      have hPx := hP.alloc (.cells #[.int .i64 kd, .int .i64 ow, .int .i64 n, .slice A2 len2 cap2, .int .u8 by_] 76)
      have frx := fr.alloc (.cells #[.int .i64 kd, .int .i64 ow, .int .i64 n, .slice A2 len2 cap2, .int .u8 by_] 76)
      have hBx := Blk.new wr 76 #[.int .i64 kd, .int .i64 ow, .int .i64 n, .slice A2 len2 cap2, .int .u8 by_]
      have hk80 : decide ((k : Int) < 80) = true := by simp; omega
      clear ho g1 g2 hx hP
      go_wp2_with fail
      refine (hw.out _).mono ?_
      rintro e w' ⟨rfl, rfl⟩
      go_upto_block 2 with (fail)
      go_cut [4] (fun i wx => i = .int .i64 k ∧ (∃ s, Pool wx w.heap.size s ∧ PInv s) ∧ Fr (fun _ => False) w wx)
      case first => as_aux_lemma =>
        have hbl := hBx.lt
        have e0 := hBx.cell 0
        have e1 := hBx.cell 1
        have e2 := hBx.cell 2
        by_cases hk1 : kd = 1
        · subst hk1
          have hp := Lib.hid (promise_any _ w.heap.size s o n hPx hI.ok w2 w3')
          have hI2 := hI.promise o n
          go_wp2_with fail
          refine (hp.out).mono ?_
          rintro e w4 ⟨rfl, hP4, f4⟩
          have fr4 := frx.trans (S := fun _ => False) f4 (fun i hi e => by omega)
          go_wp2_with fail
          go_meet
          exact ⟨rfl, ⟨_, hP4, hI2⟩, fr4⟩
        · have q1 : (kd == 1) = false := by simpa using hk1
          by_cases hk3 : kd = 3
          · subst hk3
            have hO : isO (o : Int) = true := by simp [isO]; omega
            have hh := Lib.hid (held_any _ w.heap.size s o hPx 0 (by omega))
            have hle := held_len s o
            have hmem : ∀ i, i < (held s o).length → ∃ f : Nat, (held s o).getD i 0 = f ∧ 16 ≤ f ∧ f < 256 ∧ s.own f = o := fun i hi => by
              have := getD_mem hi
              rw [held, if_pos hO] at this
              obtain ⟨f, e, hf, hof⟩ := heldN_mem.1 this
              rw [held, if_pos hO]
              refine ⟨f, e, ?_, hf, hof⟩
              rcases Nat.lt_or_ge f 16 with h | h
              · have := hI.low f h; omega
              · exact h
            have Hmem := Lib.hid hmem
            have HO := Lib.hid hO
            clear hmem hO hk1
            generalize held s o = L at *
            go_wp2_with fail
            refine (hh.out).mono ?_
            rintro e w4 ⟨v4, rfl, ho4, f4, k4⟩
            obtain ⟨A4, cp4, rfl⟩ := ownI_any ho4
            have hP4 := Pool.fr hPx f4 (fun e => e)
            have fr4 := frx.tr f4
            have hr4 := Reads.of_own ho4
            by_cases hn : L.length = 0
            · have hn0 : ¬ (0 : Int) < (L.length : Int) := by omega
              clear ho4 k4 hr4 hn
              go_wp2_with fail
              go_meet
              exact ⟨rfl, ⟨_, hP4, hI⟩, fr4⟩
            · have hn0 : (0 : Int) < (L.length : Int) := by omega
              have hhalf : L.length / 2 < L.length := by omega
              obtain ⟨f, hf, f16, f256, fo⟩ := Hmem.out _ hhalf
              obtain ⟨ad, e4, hb4, hc4⟩ := hr4.2 (by omega)
              have hcell := hc4 (L.length / 2) (.int .i64 f) (by
                rw [← hf]
                simp [by64, hhalf])
              obtain ⟨b4, o4', spot⟩ := ad
              have hspot : spot = none := by
                have h00 : 0 < L.length := by omega
                have h0 := hc4 0 (.int .i64 (L.getD 0 0)) (by simp [by64, h00])
                simpa [Addr.add] using World.cell?_spot h0
              subst hspot
              have hcell2 : w4.cell? ⟨b4, o4' + L.length / 2, none⟩ = some (.int .i64 f) := by
                rw [← hcell]
                unfold Addr.add
                split
                · rename_i h0; rw [h0]; rfl
                · rfl
              subst e4
              obtain ⟨gR, gS⟩ := giveOne (s := s) (o := o) HO.out f16 f256 fo
              have hgv := give1 w4 w.heap.size s o f hP4 (by omega) (by omega)
              rw [gR] at hgv
              have Hgv := Lib.hid hgv
              have hI4 := hI.give o [(f : Int)]
              have p0 : (0 : Int) ≤ (L.length : Int) / 2 := by omega
              have p1 : (L.length : Int) / 2 < (L.length : Int) := by omega
              clear ho4 k4 hr4 hn hf hc4 hcell fo gR gS hgv hhalf
              generalize L.length = nl at *
              go_wp2_with fail
              refine (Hgv.out).mono ?_
              rintro e w5 ⟨rfl, hP5, f5⟩
              have fr5 := fr4.trans (S := fun _ => False) f5 (fun i hi e => by omega)
              go_wp2_with fail
              go_meet
              exact ⟨rfl, ⟨_, hP5, hI4⟩, fr5⟩
          · have q3 : (kd == 3) = false := by simpa using hk3
            by_cases hk4 : kd = 4
            · subst hk4
              have hd := Lib.hid (drop_any _ w.heap.size s o hPx hI)
              have hI2 := hI.dropO o
              go_wp2_with fail
              refine (hd.out).mono ?_
              rintro e w4 ⟨rfl, hP4, f4⟩
              have fr4 := frx.trans (S := fun _ => False) f4 (fun i hi e => by omega)
              go_wp2_with fail
              go_meet
              exact ⟨rfl, ⟨_, hP4, hI2⟩, fr4⟩
            · have q4 : (kd == 4) = false := by simpa using hk4
              have ht := take_any _ w.heap.size s o hPx hI.ok
              have hI2 := hI.take o
              clear hk1 hk3 hk4
              rcases take_ok_own hI o4 with ⟨tE, f, tV, f16, f256, to_, tz⟩ | tE
              · rw [tE, tV] at ht
                have Ht := Lib.hid ht
                have Hto := Lib.hid to_
                have Htz := Lib.hid (fun k (hk : 0 ≤ k ∧ k < 64) => tz k hk.2)
                clear ht tE tV to_ tz
                generalize s.take o = s2 at *
                go_wp2_with fail
                refine (Ht.out).mono ?_
                rintro e w4 ⟨rfl, hP4, f4⟩
                have fr4 := frx.trans (S := fun _ => False) f4 (fun i hi e => by omega)
                have hS4 : ∃ s', Pool w4 w.heap.size s' ∧ PInv s' ∧ s'.own f = o ∧ ∀ k, 0 ≤ k ∧ k < 64 → s'.byt (f * 64 + k) = 0 := ⟨s2, hP4, hI2, Hto.out, Htz.out⟩
                clear hP4
                go_wp2_with fail
                go_loopw [10] (fun i wx => ∃ j : Nat, j ≤ 64 ∧ i = .int .i64 j ∧ (∃ s', Pool wx w.heap.size s' ∧ PInv s' ∧ s'.own f = o ∧ ∀ k, j ≤ k ∧ k < 64 → s'.byt (f * 64 + k) = 0) ∧ Fr (fun _ => False) w wx) (fun i _ => 64 - (intOf i).toNat)
                case atStart => exact ⟨0, by omega, rfl, hS4, fr4⟩
                case round =>
                  clear hS4 fr4
                  obtain ⟨j, hj, rfl, ⟨s', hP', hI', ho', hz'⟩, fr'⟩ := hrel
                  by_cases hlt2 : j < 64
                  · obtain ⟨y1, y2⟩ := own_yes (s := s') f16 f256 (by rw [ho']; omega)
                    have hhe : hereB s' f j = true := by simp [hereB, y1]; omega
                    have hby := byte_any _ w.heap.size s' f j hP'
                    have hbv : bytV s' f j = 0 := by rw [bytV, if_pos hhe]; exact hz' j ⟨Nat.le_refl _, hlt2⟩
                    rw [hbv, hhe] at hby
                    have hpt := put_any _ w.heap.size s' f j 255 hP'
                    rw [hhe] at hpt
                    have hI'' := hI'.putB f j 255
                    have ep : s'.putB f j 255 = s'.setByt (f * 64 + j) 255 := by rw [Pl.putB, if_pos hhe]; rfl
                    rw [ep] at hpt hI''
                    have Hz2 := Lib.hid (show ∀ k, j + 1 ≤ k ∧ k < 64 → (s'.setByt (f * 64 + j) 255).byt (f * 64 + k) = 0 from fun k hk => by
                      show updI s'.byt (f * 64 + j) 255 (f * 64 + k) = 0
                      rw [updI_other _ _ (by omega)]
                      exact hz' k ⟨by omega, hk.2⟩)
                    have Hby := Lib.hid hby
                    have Hpt := Lib.hid hpt
                    have Ho' := Lib.hid ho'
                    clear hby hpt ep y1 y2 hhe hbv hz' ho'
                    go_wp2_with fail
                    refine (Hby.out).mono ?_
                    rintro e w' ⟨rfl, rfl⟩
                    go_wp2_with fail
                    refine (Hpt.out).mono ?_
                    rintro e w5 ⟨rfl, hP5, f5⟩
                    have fr5 := fr'.trans (S := fun _ => False) f5 (fun i hi e => by omega)
                    go_wp2_with fail
                    go_roundw
                    case rel => exact ⟨j + 1, by omega, by go_num, ⟨_, hP5, hI'', Ho'.out, Hz2.out⟩, fr5⟩
                    case measure => simp [intOf]; omega
                  · clear ho' hz'
                    go_wp2_with fail
                    go_meet
                    exact ⟨rfl, ⟨_, hP', hI'⟩, fr'⟩
              · rw [tE] at ht
                have Ht := Lib.hid ht
                clear ht tE
                go_wp2_with fail
                refine (Ht.out).mono ?_
                rintro e w4 ⟨rfl, hP4, f4⟩
                have fr4 := frx.trans (S := fun _ => False) f4 (fun i hi e => by omega)
                go_wp2_with fail
                go_meet
                exact ⟨rfl, ⟨_, hP4, hI2⟩, fr4⟩
      case rest => as_aux_lemma =>
        obtain ⟨rfl, ⟨s, hP, hI⟩, fr⟩ := hcut
        have hmk := run_mk
        have htot := hI.total
        have Htot := Lib.hid (show sumH s 4 + fN s 256 = 240 from by
          show 0 + hN s 0 256 + hN s 1 256 + hN s 2 256 + hN s 3 256 + fN s 256 = 240
          simp only [Nat.zero_add]
          have e0 : hN s ((0 : Nat) : Int) 256 = hN s 0 256 := rfl
          omega)
        have hPz := hP.alloc (.cells zB256 4)
        have frz := fr.alloc (.cells zB256 4)
        have hgs := fr.size
        have hcz : Cells (wc.alloc (.cells zB256 4)) wc.heap.size 4 256 (fun f => .bool (seenO s 0 f)) := Cells.congr (cellsB256 wc) (fun f hf => by
          have : seenO s 0 f = false := by simp [seenO]
          rw [this])
        have hne : wc.heap.size ≠ w.heap.size := by have := hP.lt; omega
        have Hhd := Lib.hid (fun W (h : Pool W w.heap.size s) (o : Nat) => held_any W w.heap.size s o h 0 (by omega))
        have HI := Lib.hid hI
        clear htot hP fr hPx frx hBx c0 c1 c2 c3 c4 hw hI
        go_wp2_with fail
        clear hmk
        generalize hgsz : wc.heap.size = gs at *
        clear hgsz
        go_loopw [14, 15] (fun al i wx => ∃ o : Nat, o ≤ 4 ∧ i = .int .i64 o ∧ al = .int .i64 (sumH s o : Nat) ∧ Pool wx w.heap.size s ∧ Cells wx gs 4 256 (fun f => .bool (seenO s o f)) ∧ Fr (fun _ => False) w wx) (fun _ i _ => 4 - (intOf i).toNat)
        case atStart => exact ⟨0, by omega, rfl, rfl, hPz, hcz, frz⟩
        case round =>
          clear hPz hcz frz
          obtain ⟨q, hq, rfl, rfl, hP, hC, fr⟩ := hrel
          by_cases hlt4 : q < 4
          · have hh := Hhd.out _ hP q
            have hO : isO (q : Int) = true := by simp [isO]; omega
            have hle := held_len s q
            have hhn := heldN_len s q 256
            have eH : held s q = heldN s q 256 := by rw [held, if_pos hO]
            have hpm := fun W (h : Pool W w.heap.size s) => promised_any W w.heap.size s q h
            have hprom : (((heldN s q 256).length : Nat) : Int) ≤ promV s q := by
              rw [hhn]
              have := HI.out.held q hlt4
              rw [promV, if_pos hO]
              exact this
            rw [eH] at hh hle
            have hmem : ∀ i, i < (heldN s q 256).length → ∃ f : Nat, (heldN s q 256).getD i 0 = f ∧ 16 ≤ f ∧ f < 256 ∧ s.own f = q := fun i hi => by
              obtain ⟨f, e, hf, hof⟩ := heldN_mem.1 (getD_mem hi)
              refine ⟨f, e, ?_, hf, hof⟩
              rcases Nat.lt_or_ge f 16 with h | h
              · have := HI.out.low f h; omega
              · exact h
            have hup := heldN_up s q 256
            have hha := fun (f : Nat) (hf : f < 256) => hasI_held (s := s) (o := (q : Int)) f hf
            have hsm : sumH s (q + 1) = sumH s q + (heldN s q 256).length := by rw [hhn]; rfl
            have hb4 : sumH s q ≤ 240 := by
              have h4 := Htot.out
              have : sumH s q ≤ sumH s 4 := by
                rcases (by omega : q = 0 ∨ q = 1 ∨ q = 2 ∨ q = 3) with rfl | rfl | rfl | rfl <;> simp only [sumH] <;> omega
              omega
            have Hmem := Lib.hid hmem
            have Hup := Lib.hid hup
            have Hha := Lib.hid hha
            have Hsm := Lib.hid hsm
            have Hhh := Lib.hid hh
            have Hpm := Lib.hid hpm
            have C0 : Cells _ gs 4 256 (fun f => .bool (seenO s q f || hasI ((heldN s q 256).take 0) f)) := Cells.congr hC (fun f hf => by simp [hasI])
            have hC0lt := hC.lt
            have hwfL : ∀ z ∈ heldN s q 256, (Lit.int .i64 z).wf = true := by
              intro z hz
              obtain ⟨f, rfl, hf, _⟩ := heldN_mem.1 hz
              exact wf_i64_mk (n := (f : Int)) (by omega) (by omega)
            have HwL := Lib.hid hwfL
            clear hmem hup hha hsm hh hpm hwfL hhn eH hO hC
            generalize heldN s q 256 = L at *
            generalize sumH s q = sq at *
            generalize promV s q = pv at *
            go_wp2_with fail
            refine (Hhh.out).mono ?_
            rintro e w4 ⟨v4, rfl, ho4, f4, k4⟩
            obtain ⟨A4, cp4, rfl⟩ := ownI_any ho4
            have hP4 := hP.fr f4 (fun e => e)
            have C4 := C0.fr f4 (fun e => e)
            have fr4 := fr.tr f4
            have hI4 := Bk.own_ints ho4 HwL.out
            have hB4 : ∀ b off, A4 = some ⟨b, off, none⟩ → 0 < L.length → b ≠ gs := fun b off e hn => by
              rcases ho4.2 with ⟨hv, he⟩ | ⟨g', cap, cur, hv, _⟩
              · omega
              · have := k4 g' (by rw [hv]; rfl)
                injection hv with h1
                rw [h1] at e
                injection e with e
                injection e with e1
                have := hC0lt
                omega
            clear ho4 k4 hP hC0lt C0
            go_wp2_with fail
            refine (Hpm.out _ hP4).mono ?_
            rintro e w' ⟨rfl, rfl⟩
            go_wp2_with fail
            go_loopw [14, 124] (fun al i wx => ∃ m : Nat, m ≤ L.length ∧ i = .int .i64 m ∧ al = .int .i64 ((sq : Int) + (m : Int)) ∧ Pool wx w.heap.size s ∧ Cells wx gs 4 256 (fun f => .bool (seenO s q f || hasI (L.take m) f)) ∧ Fr (fun k => k = gs) w4 wx) (fun _ i _ => L.length - (intOf i).toNat)
            case atStart => exact ⟨0, by omega, rfl, by simp, hP4, C4, Fr.refl _ _⟩
            case round =>
              clear hP4 C4
              obtain ⟨m, hm5, rfl, rfl, hP5, hC5, f5⟩ := hrel
              by_cases hlt5 : m < L.length
              · obtain ⟨b5, o5, rfl, hb5, hc5⟩ := (intsAt_frA hI4 f5 (Nat.le_refl _) (fun b off e => hB4 b off e (by omega))).at_ hlt5
                obtain ⟨f, hf, f16, f256, fo⟩ := Hmem.out m hlt5
                have hnb := not_before Hup.out hlt5
                have htk : L.take (m + 1) = L.take m ++ [(f : Int)] := by
                  rw [List.take_succ_eq_append_getElem hlt5, ← hf]
                  simp [hlt5]
                rw [hf] at hc5 hnb
                obtain ⟨y1, y2⟩ := own_yes (s := s) f16 f256 (by rw [fo]; omega)
                have hwo := owner_any _ w.heap.size s f hP5
                rw [y1, y2, fo] at hwo
                have hso : seenO s q f = false := by simp [seenO, fo]
                have cS := hC5.cell f f256
                rw [hso, hnb] at cS
                have zS := Cells.frozen hC5 f
                have hC6 : Cells (_) gs 4 256 (fun g => .bool (seenO s q g || hasI (L.take (m + 1)) g)) := Cells.congr (Cells.set_ hC5 f (.bool true)) (fun g hg => by
                  unfold putV
                  rw [htk]
                  have e : hasI (L.take m ++ [(f : Int)]) (g : Int) = (hasI (L.take m) (g : Int) || decide (g = f)) := by
                    unfold hasI
                    rw [List.any_append, Bool.eq_iff_iff]
                    simp
                    constructor
                    · rintro (h | h)
                      · exact .inl h
                      · exact .inr (by omega)
                    · rintro (h | h)
                      · exact .inl h
                      · exact .inr (by omega)
                  rw [e]
                  by_cases e2 : g = f
                  · rw [if_pos e2, decide_eq_true e2, Bool.or_true, Bool.or_true]
                  · rw [if_neg e2, decide_eq_false e2, Bool.or_false])
                have hP6 := hP5.fr (Fr.set1 _ gs f (.bool true)) (fun e => hne e.symm)
                have hqq : ((q : Int) != (q : Int)) = false := by simp
                have Hwo := Lib.hid hwo
                have HC6 := Lib.hid hC6
                have HP6 := Lib.hid hP6
                clear hwo hC6 hP6 y1 y2 hf hnb htk hso fo hC5
                go_wp2_with fail
                refine (Hwo.out).mono ?_
                rintro e w' ⟨rfl, rfl⟩
                go_wp2_with fail
                go_roundw
                case rel => exact ⟨m + 1, by omega, by go_num, by first | (congr 1; done) | (congr 1; omega), HP6.out, HC6.out, f5.setCell (p := ⟨gs, f, none⟩) (.inl rfl) _⟩
                case measure => simp [intOf]; omega
              · have hmm : m = L.length := by omega
                have hC7 : Cells _ gs 4 256 (fun g => .bool (seenO s (q + 1) g)) := Cells.congr hC5 (fun g hg => by
                  rw [hmm, List.take_length, Hha.out g hg]
                  congr 1
                  unfold seenO
                  rw [Bool.eq_iff_iff]
                  simp
                  omega)
                have HC7 := Lib.hid hC7
                clear hC7 hC5
                have fr7 := fr4.trans (S := fun _ => False) f5 (fun i hi e => by omega)
                go_wp2_with fail
                go_roundw
                case rel => exact ⟨q + 1, by omega, by go_num, by rw [Hsm.out, hmm]; first | rfl | (congr 1; done) | (congr 1; omega), hP5, HC7.out, fr7⟩
                case measure => simp [intOf]; omega
          · have e4 : q = 4 := by omega
            have hfr := free_any _ w.heap.size s hP
            rw [freeN_eq] at hfr
            have Hfr := Lib.hid hfr
            have hto := Htot.out
            rw [← e4] at hto
            have hne2 : ((sumH s q : Int) + (fN s 256 : Int) != 240) = false := by simp; omega
            have hfb : fN s 256 ≤ 240 := by omega
            have hsb : sumH s q ≤ 240 := by omega
            clear hfr hto hC e4
            generalize sumH s q = sq at *
            generalize fN s 256 = fn at *
            go_wp2_with fail
            refine (Hfr.out).mono ?_
            rintro e w' ⟨rfl, rfl⟩
            go_wp2_with fail
            go_roundw
            case rel => exact ⟨k + 1, by omega, by go_num, ⟨s, hP, HI.out⟩, fr⟩
            case measure => simp [intOf]; omega
    · go_wp2_with fail
      all_goals
        refine (Fm.known_any _).mono ?_
        rintro e w6 ⟨rfl, f6⟩
        go_wp2_with fail
        go_ret
        exact ⟨rfl, fr.tr f6⟩
end Go.Proofs.Ytbkapgbohnmkhaa.framesOwn
