/- RamPlays: the walk. -/
import Derived.Test.YtcfoogbjlokegaaRamDo
import Derived.Test.YtcfoogbjlokegaaRamAlike
import Derived.Test.YtcfoogbjlokegaaRamOpen
import Derived.Test.YtcfoogbjlokegaaSized
namespace Go.Proofs.Ytcfoogbjlokegaa.ramPlays
open Go.RowKit Fm Nt Rm By
set_option linter.unusedVariables false
set_option maxHeartbeats 8000000

def askc (kd at_ v : Int) (A : Option Addr) (l c : Nat) (i : Nat) : Value := if i = 0 then .int .i64 kd else if i = 1 then .int .u32 at_ else if i = 2 then .int .u32 v else .slice A l c
section
variable {w : World} {g : Nat} {kd at_ v : Int} {A : Option Addr} {l c : Nat}
theorem askc_new (w : World) (kd at_ v : Int) (A : Option Addr) (l c : Nat) : Cells (w.alloc (.cells #[.int .i64 kd, .int .u32 at_, .int .u32 v, .slice A l c] 80)) w.heap.size 80 4 (askc kd at_ v A l c) :=
  Cells.new _ _ #[.int .i64 kd, .int .u32 at_, .int .u32 v, .slice A l c] _ (fun i hi => by
    have hi : i < 4 := hi
    rcases (by omega : i = 0 ∨ i = 1 ∨ i = 2 ∨ i = 3) with rfl | rfl | rfl | rfl <;> rfl)
theorem askc_1 (h : Cells w g 80 4 (askc kd at_ v A l c)) (x : Int) : Cells (w.setCell ⟨g, 1, none⟩ (.int .u32 x)) g 80 4 (askc kd x v A l c) :=
  Cells.congr (Cells.set_ h 1 _) (fun i hi => by
    rcases (by omega : i = 0 ∨ i = 1 ∨ i = 2 ∨ i = 3) with rfl | rfl | rfl | rfl <;> rfl)
theorem askc_3 (h : Cells w g 80 4 (askc kd at_ v A l c)) (B : Option Addr) (m d : Nat) : Cells (w.setCell ⟨g, 3, none⟩ (.slice B m d)) g 80 4 (askc kd at_ v B m d) :=
  Cells.congr (Cells.set_ h 3 _) (fun i hi => by
    rcases (by omega : i = 0 ∨ i = 1 ∨ i = 2 ∨ i = 3) with rfl | rfl | rfl | rfl <;> rfl)
theorem askc_c (h : Cells w g 80 4 (askc kd at_ v A l c)) : w.cell? ⟨g, 0, none⟩ = some (.int .i64 kd) ∧ w.cell? ⟨g, 1, none⟩ = some (.int .u32 at_) ∧ w.cell? ⟨g, 2, none⟩ = some (.int .u32 v) ∧ w.cell? ⟨g, 3, none⟩ = some (.slice A l c) :=
  ⟨h.cell 0 (by omega), h.cell 1 (by omega), h.cell 2 (by omega), h.cell 3 (by omega)⟩
end
theorem sizedG (W : World) (A : Option Addr) (l c B : Nat) (zs : List Int) (hz : IntsAt .u8 W B A l zs) (hB : B ≤ W.heap.size) :
    Calls Try.prog 44 #[.slice A l c, .int .i64 64] W fun e w' => ∃ G, e = .returned (.slice (some ⟨G, 0, none⟩) 64 64) ∧ Cells w' G 5 64 (fun k => .int .u8 (sized zs k)) ∧ W.heap.size ≤ G ∧ Fr (fun _ => False) W w' :=
  (sized_any W A l c B zs hz hB 64 (by omega)).mono fun e w' ⟨h1, h2, h3⟩ => ⟨_, h1, h2, Nat.le_refl _, h3⟩
set_option maxRecDepth 100000 in
theorem walk (w : World) (pg : Int) (hpg : (Lit.int .i64 pg).wf = true) (A : Option Addr) (len cap : Nat) (hl : AsksAt w w.heap.size A len ∧ len ≤ maxLen) :
    Calls Try.prog 12 #[.int .i64 pg, .slice A len cap] w fun e w' => e = .returned (.bool true) ∧ Fr (fun _ => False) w w' := by
  obtain ⟨hl, hm⟩ := hl
  have HL := Lib.hid hl
  unfold maxLen at hm
  have b1 := wf_i64 hpg
  have hw1 := Lib.hid (fun W => Bk.within_any W pg 1 8 b1.1 b1.2 (by omega) (by omega) (by omega))
  have g1 := Int.emod_nonneg pg (show (8 - 1 + 1 : Int) ≠ 0 by omega)
  have g2 := Int.emod_lt_of_pos pg (show (0 : Int) < 8 - 1 + 1 by omega)
  obtain ⟨n, hn⟩ : ∃ n : Nat, (1 : Int) + pg % (8 - 1 + 1) = n := ⟨(1 + pg % (8 - 1 + 1)).toNat, by omega⟩
  have n0 : 1 ≤ n := by omega
  have n1 : n ≤ 8 := by omega
  rw [hn] at hw1
  have Hfr := Lib.hid (fun W => fresh7 W n n0 (by omega))
  have hmk : ∀ W, (Instr.makeSlice 57 (.int .i64 ((n : Int) * 64)) (.int .i64 ((n : Int) * 64))).run Try.prog W = .ok (.slice (some ⟨W.heap.size, 0, none⟩) (n * 64) (n * 64)) (W.alloc (.cells (zU (n * 64)) 5)) := fun W => by
    have := run_makeU .i64 (n * 64) (by omega) W
    rw [show ((n * 64 : Nat) : Int) = (n : Int) * 64 by omega] at this
    exact this
  have hmb := fun W => run_makeB n (by omega) W
  clear b1 g1 g2 hn hpg hl
  go_enter Try.func12, Try.ntmps12
  go_wp2_with fail
  refine (hw1.out _).mono ?_
  rintro e w' ⟨rfl, rfl⟩
  go_wp2_with fail
  refine (Hfr.out _).mono ?_
  rintro e w1 ⟨a, rfl, hM, hba, f1⟩
  have Hown := Lib.hid hM.lt
  have hgb : ¬ a.own w1.heap.size := fun e => by have := hM.lt _ e; omega
  have hgt : ¬ a.own (w1.heap.size + 1) := fun e => by have := hM.lt _ e; omega
  have hsz1 : (w1.alloc (.cells (zU (n * 64)) 5)).heap.size = w1.heap.size + 1 := by simp
  have fa : Fr (fun _ => False) w1 ((w1.alloc (.cells (zU (n * 64)) 5)).alloc (.cells (zB n) 4)) := ((Fr.refl _ w1).alloc _).alloc _
  have hD : DS ((w1.alloc (.cells (zU (n * 64)) 5)).alloc (.cells (zB n) 4)) a w1.heap.size (w1.heap.size + 1) n (Ms.new n) :=
    ⟨hM.fr0 fa, rfl, (cellsU w1 (n * 64) rfl).alloc _, cellsB _ n hsz1, fun _ _ _ => rfl⟩
  have frz := f1.tr fa
  have hbt : w1.heap.size ≠ w1.heap.size + 1 := by omega
  have hsw := f1.size
  have hsa : w1.heap.size + 2 ≤ ((w1.alloc (.cells (zU (n * 64)) 5)).alloc (.cells (zB n) 4)).heap.size := by simp
  go_wp2_with fail
  clear hmk hmb hM
  try simp only [hsz1]
  have Hlo := Lib.hid (show ∀ b, b < w.heap.size → ¬ a.own b ∧ b ≠ w1.heap.size ∧ b ≠ w1.heap.size + 1 from fun b hb => ⟨fun e => by have := hba b e; omega, by omega, by omega⟩)
  have hown : ∀ b, a.own b → b < w1.heap.size + 2 := fun b e => by
    have h := hgb
    have h2 := hgt
    have := Hown.out b e
    omega
  generalize (w1.alloc (.cells (zU (n * 64)) 5)).alloc (.cells (zB n) 4) = wz at *
  generalize w1.heap.size = gb at *
  have Hhi := Lib.hid (show ∀ b, gb + 2 ≤ b → ¬ a.own b ∧ b ≠ gb ∧ b ≠ gb + 1 from fun b hb => ⟨fun e => by have := hown b e; omega, by omega, by omega⟩)
  have Hfw := Lib.hid (show ∀ i, i < w.heap.size → ¬ (i = gb ∨ i = gb + 1 ∨ a.own i) from fun i hi e => by
    have := Hlo.out i hi
    rcases e with e | e | e
    · exact this.2.1 e
    · exact this.2.2 e
    · exact this.1 e)
  clear hba hown fa f1
  generalize hNN : n * 64 = NN at *
  have hN1 : 64 ≤ NN := by omega
  have hN2 : NN ≤ 512 := by omega
  have Hdo : Hid (∀ W m (kd at_ v : Int) A' l' c' zs' B', DS W a gb (gb + 1) n m → (Lit.int .i64 kd).wf = true → (0 ≤ at_ ∧ at_ ≤ 4294967295) → (Lit.int .u32 v).wf = true → IntsAt .u8 W B' A' l' zs' → B' ≤ W.heap.size → (0 < l' → ∀ b off, A' = some ⟨b, off, none⟩ → ¬ a.own b ∧ b ≠ gb ∧ b ≠ gb + 1) → l' ≤ 600 →
      Calls Try.prog 46 #[.pointer (some ⟨a.gm, 0, none⟩), .pointer (some ⟨a.a.gt, 0, none⟩), .slice (some ⟨gb, 0, none⟩) NN NN, .slice (some ⟨gb + 1, 0, none⟩) n n, .agg #[.int .i64 kd, .int .u32 at_, .int .u32 v, .slice A' l' c']] W
        fun e w' => e = .returned (.bool true) ∧ (∃ m', DS w' a gb (gb + 1) n m') ∧ Fr (fun k => k = gb ∨ k = gb + 1 ∨ a.own k) W w') :=
    fun W m kd at_ v A' l' c' zs' B' hS h1 h2 h3 h4 h5 h6 h7 => by
      have := do7_any W a gb (gb + 1) n m hS hgb hgt hbt kd at_ v h1 (wf_u32_mk h2.1 h2.2) h3 A' l' c' B' zs' h4 h5 h6 (by simp only [maxLen]; omega)
      rw [hNN] at this
      exact this
  have Hal : Hid (∀ W m, DS W a gb (gb + 1) n m → Calls Try.prog 47 #[.pointer (some ⟨a.gm, 0, none⟩), .slice (some ⟨gb, 0, none⟩) NN NN, .slice (some ⟨gb + 1, 0, none⟩) n n] W fun e w' => e = .returned (.bool true) ∧ Fr (fun _ => False) W w') :=
    fun W m hS => by
      have h1 := hS.cb
      have h2 := hS.ct
      have hn := hS.hn
      have h3 := hS.tu
      rw [← hn] at h1 h2 h3
      have := alike_any W a m gb (gb + 1) hS.M h1 h2 h3
      rw [hn, hNN] at this
      exact this
  have w4 : IntKind.u32.wrap ((NN : Int) + 4) = (NN : Int) + 4 := IntWalk.u32_in _ (by omega)
  have nz : ((NN : Int) + 4 == 0) = false := by simp; omega
  clear hNN hgb hgt hbt
  go_loopw [10] (fun i wr => ∃ k : Nat, k ≤ len ∧ i = .int .i64 k ∧ (∃ m, DS wr a gb (gb + 1) n m) ∧ Fr (fun _ => False) w wr ∧ gb + 2 ≤ wr.heap.size) (fun i _ => len - (intOf i).toNat)
  case atStart => exact ⟨0, Nat.zero_le _, rfl, ⟨_, hD⟩, frz, hsa⟩
  case round =>
    clear hD frz hsa
    obtain ⟨k, hk, rfl, ⟨m, hD⟩, fr, hsr⟩ := hrel
    by_cases hlt : k < len ∧ k < 50
    · obtain ⟨h1, h2⟩ := hlt
      obtain ⟨b, off, rfl, hb, x, hx⟩ := HL.out.at_ h1
      obtain ⟨⟨c0, c1, c2, c3⟩, hkd, hat, hv, hI, hLm, hC⟩ := hx.fr fr hb (Nat.le_refl _) (fun _ _ e => e)
      obtain ⟨kd, at_, v, A2, l2, cap2, zs⟩ := x
      dsimp only at c0 c1 c2 c3 hkd hat hv hI hLm hC
      have hk50 : decide ((k : Int) < 50) = true := by simp; omega
      have hbw : b < wr.heap.size := Nat.lt_of_lt_of_le hb fr.size
      have hx0 := askc_new wr kd at_ v A2 l2 cap2
      have fx0 := (Fr.refl (fun _ => False) wr).alloc (.cells #[.int .i64 kd, .int .u32 at_, .int .u32 v, .slice A2 l2 cap2] 80)
      have Hcut : Hid (∀ W, Calls Try.prog 35 #[.slice A2 l2 cap2, .int .i64 600] W fun e w' => e = .returned (.slice A2 (min l2 600) cap2) ∧ W = w') := fun W => cut_any W A2 l2 cap2 600 hLm hC (by omega)
      have hI1 := hI.take (show min l2 600 ≤ l2 from Nat.min_le_left _ _)
      have hl1 : min l2 600 ≤ 600 := Nat.min_le_right _ _
      clear hx hI hLm hC hk
      generalize zs.take (min l2 600) = z1 at *
      generalize min l2 600 = l1 at *
      have hA1 : 0 < l1 → ∀ b off, A2 = some ⟨b, off, none⟩ → ¬ a.own b ∧ b ≠ gb ∧ b ≠ gb + 1 := fun h b off e => Hlo.out b (IntsAt.lt_ hI1 b off e h)
      have hats := wf_u32 hat
      go_wp2_with fail
      refine (Hcut.out _).mono ?_
      rintro e w' ⟨rfl, rfl⟩
      generalize wr.alloc (.cells #[.int .i64 kd, .int .u32 at_, .int .u32 v, .slice A2 l2 cap2] 80) = wx at *
      generalize hg : wr.heap.size = g at *
      clear c0 c1 c2 c3
      have d3 := hx0.cell 3 (by omega)
      have z3 := Cells.frozen hx0 3
      have hx1 := askc_3 hx0 A2 l1 cap2
      have fx1 := fx0.setCell (p := ⟨g, 3, none⟩) (.inr (Nat.le_of_eq hg)) (.slice A2 l1 cap2)
      obtain ⟨e0, e1, e2, e3⟩ := askc_c hx1
      have zz1 := Cells.frozen hx1 1
      have zz3 := Cells.frozen hx1 3
      have d3 : wx.cell? ⟨g, 3, none⟩ = some (.slice A2 l2 cap2) := d3
      have FX1 := Lib.hid fx1
      have HI1 := Lib.hid hI1
      have HA1 := Lib.hid hA1
      have HD := Lib.hid hD
      have HFR := Lib.hid fr
      have HG := Lib.hid hg
      clear fx0 fx1 hx0 hI1 hA1 hD fr hg
      by_cases hev : (k : Int) % 2 = 0
      · have t2 : ((k : Int) % 2 == 0) = true := by simp [hev]
        have hx2 := askc_1 hx1 (at_ % ((NN : Int) + 4))
        obtain ⟨y0, y1, y2, y3⟩ := askc_c hx2
        have yz3 := Cells.frozen hx2 3
        have FX2 := Lib.hid (FX1.out.setCell (p := ⟨g, 1, none⟩) (.inr (Nat.le_of_eq HG.out)) (.int .u32 (at_ % ((NN : Int) + 4))))
        have hb9 : 0 ≤ at_ % ((NN : Int) + 4) ∧ at_ % ((NN : Int) + 4) ≤ 4294967295 := ⟨Int.emod_nonneg _ (by omega), by have := Int.emod_lt_of_pos at_ (show (0 : Int) < (NN : Int) + 4 by omega); omega⟩
        clear hev
        by_cases h3 : kd = 3
        · have t3 : (kd == 3) = true := by simp [h3]
          by_cases h4 : 0 < (k : Int) % 3
          · have t4 : decide (0 < (k : Int) % 3) = true := by simp [h4]
            clear h3 h4
            go_wp2_with fail
            refine (sizedG _ A2 l1 cap2 w.heap.size z1 (HI1.out.fr (FX2.out) (by have := HFR.out.size; have := HG.out; omega) (fun _ _ e => e)) (by have := HFR.out.size; have := (FX2.out).size; have := HG.out; omega)).mono ?_
            rintro e w7 ⟨G, rfl, hc7, hG, f7⟩
            have hx7 := hx2.fr f7 (fun e => e)
            have k3 := hx7.cell 3 (by omega)
            have kz3 := Cells.frozen hx7 3
            have k3 : w7.cell? ⟨g, 3, none⟩ = some (.slice A2 l1 cap2) := k3
            have hgG : G ≠ g := by have := hx2.lt; omega
            have hx8 := askc_3 hx7 (some ⟨G, 0, none⟩) 64 64
            obtain ⟨q0, q1, q2, q3⟩ := askc_c hx8
            have hI8 := cells_ints (hc7.far (p := ⟨g, 3, none⟩) hgG (.slice (some ⟨G, 0, none⟩) 64 64)) (fun k _ => sized_bd HI1.out k)
            have hl8 := (hc7.far (p := ⟨g, 3, none⟩) hgG (.slice (some ⟨G, 0, none⟩) 64 64)).lt
            have FX8 := Lib.hid (((FX2.out).tr f7).setCell (p := ⟨g, 3, none⟩) (.inr (Nat.le_of_eq HG.out)) (.slice (some ⟨G, 0, none⟩) 64 64))
            have HI8 := Lib.hid hI8
            have hGr : gb + 2 ≤ G := by have := (FX2.out).size; have := HG.out; omega
            clear hc7 hI8 hx7 f7
            go_wp2_with fail
            refine (Hdo.out _ m kd (at_ % ((NN : Int) + 4)) v (some ⟨G, 0, none⟩) 64 64 _ _ (HD.out.fr0 FX8.out) hkd hb9 hv HI8.out hl8 (fun _ b' off' e => Hhi.out b' (by injection e with e; injection e with e4 e5; omega)) (by omega)).mono ?_
            rintro e w9 ⟨rfl, ⟨m9, hD9⟩, f9⟩
            have HD9 := Lib.hid hD9
            have HF9 := Lib.hid ((HFR.out.tr FX8.out).trans (S := fun _ => False) f9 (fun i hi e => Hfw.out i hi e))
            have HS9 := Lib.hid (Nat.le_trans (FX8.out).size f9.size)
            clear hD9 f9
            go_wp2_with fail
            go_roundw
            case rel => exact ⟨k + 1, by omega, by go_num, ⟨_, HD9.out⟩, HF9.out, by have := HS9.out; have := HG.out; omega⟩
            case measure => simp [intOf]; omega
          · have t4 : decide (0 < (k : Int) % 3) = false := by simp; omega
            clear h3 h4
            go_wp2_with fail
            refine (Hdo.out _ m kd (at_ % ((NN : Int) + 4)) v A2 l1 cap2 _ _ (HD.out.fr0 FX2.out) hkd hb9 hv (HI1.out.fr (FX2.out) (by have := HFR.out.size; have := HG.out; omega) (fun _ _ e => e)) (by have := HFR.out.size; have := (FX2.out).size; have := HG.out; omega) HA1.out hl1).mono ?_
            rintro e w9 ⟨rfl, ⟨m9, hD9⟩, f9⟩
            have HD9 := Lib.hid hD9
            have HF9 := Lib.hid ((HFR.out.tr FX2.out).trans (S := fun _ => False) f9 (fun i hi e => Hfw.out i hi e))
            have HS9 := Lib.hid (Nat.le_trans (FX2.out).size f9.size)
            clear hD9 f9
            go_wp2_with fail
            go_roundw
            case rel => exact ⟨k + 1, by omega, by go_num, ⟨_, HD9.out⟩, HF9.out, by have := HS9.out; have := HG.out; omega⟩
            case measure => simp [intOf]; omega
        · have t3 : (kd == 3) = false := by simp [h3]
          clear h3
          go_wp2_with fail
          refine (Hdo.out _ m kd (at_ % ((NN : Int) + 4)) v A2 l1 cap2 _ _ (HD.out.fr0 FX2.out) hkd hb9 hv (HI1.out.fr (FX2.out) (by have := HFR.out.size; have := HG.out; omega) (fun _ _ e => e)) (by have := HFR.out.size; have := (FX2.out).size; have := HG.out; omega) HA1.out hl1).mono ?_
          rintro e w9 ⟨rfl, ⟨m9, hD9⟩, f9⟩
          have HD9 := Lib.hid hD9
          have HF9 := Lib.hid ((HFR.out.tr FX2.out).trans (S := fun _ => False) f9 (fun i hi e => Hfw.out i hi e))
          have HS9 := Lib.hid (Nat.le_trans (FX2.out).size f9.size)
          clear hD9 f9
          go_wp2_with fail
          go_roundw
          case rel => exact ⟨k + 1, by omega, by go_num, ⟨_, HD9.out⟩, HF9.out, by have := HS9.out; have := HG.out; omega⟩
          case measure => simp [intOf]; omega
      · have t2 : ((k : Int) % 2 == 0) = false := by simp [hev]
        clear hev
        by_cases h3 : kd = 3
        · have t3 : (kd == 3) = true := by simp [h3]
          by_cases h4 : 0 < (k : Int) % 3
          · have t4 : decide (0 < (k : Int) % 3) = true := by simp [h4]
            clear h3 h4
            go_wp2_with fail
            refine (sizedG _ A2 l1 cap2 w.heap.size z1 (HI1.out.fr (FX1.out) (by have := HFR.out.size; have := HG.out; omega) (fun _ _ e => e)) (by have := HFR.out.size; have := (FX1.out).size; have := HG.out; omega)).mono ?_
            rintro e w7 ⟨G, rfl, hc7, hG, f7⟩
            have hx7 := hx1.fr f7 (fun e => e)
            have k3 := hx7.cell 3 (by omega)
            have kz3 := Cells.frozen hx7 3
            have k3 : w7.cell? ⟨g, 3, none⟩ = some (.slice A2 l1 cap2) := k3
            have hgG : G ≠ g := by have := hx1.lt; omega
            have hx8 := askc_3 hx7 (some ⟨G, 0, none⟩) 64 64
            obtain ⟨q0, q1, q2, q3⟩ := askc_c hx8
            have hI8 := cells_ints (hc7.far (p := ⟨g, 3, none⟩) hgG (.slice (some ⟨G, 0, none⟩) 64 64)) (fun k _ => sized_bd HI1.out k)
            have hl8 := (hc7.far (p := ⟨g, 3, none⟩) hgG (.slice (some ⟨G, 0, none⟩) 64 64)).lt
            have FX8 := Lib.hid (((FX1.out).tr f7).setCell (p := ⟨g, 3, none⟩) (.inr (Nat.le_of_eq HG.out)) (.slice (some ⟨G, 0, none⟩) 64 64))
            have HI8 := Lib.hid hI8
            have hGr : gb + 2 ≤ G := by have := (FX1.out).size; have := HG.out; omega
            clear hc7 hI8 hx7 f7
            go_wp2_with fail
            refine (Hdo.out _ m kd at_ v (some ⟨G, 0, none⟩) 64 64 _ _ (HD.out.fr0 FX8.out) hkd hats hv HI8.out hl8 (fun _ b' off' e => Hhi.out b' (by injection e with e; injection e with e4 e5; omega)) (by omega)).mono ?_
            rintro e w9 ⟨rfl, ⟨m9, hD9⟩, f9⟩
            have HD9 := Lib.hid hD9
            have HF9 := Lib.hid ((HFR.out.tr FX8.out).trans (S := fun _ => False) f9 (fun i hi e => Hfw.out i hi e))
            have HS9 := Lib.hid (Nat.le_trans (FX8.out).size f9.size)
            clear hD9 f9
            go_wp2_with fail
            go_roundw
            case rel => exact ⟨k + 1, by omega, by go_num, ⟨_, HD9.out⟩, HF9.out, by have := HS9.out; have := HG.out; omega⟩
            case measure => simp [intOf]; omega
          · have t4 : decide (0 < (k : Int) % 3) = false := by simp; omega
            clear h3 h4
            go_wp2_with fail
            refine (Hdo.out _ m kd at_ v A2 l1 cap2 _ _ (HD.out.fr0 FX1.out) hkd hats hv (HI1.out.fr (FX1.out) (by have := HFR.out.size; have := HG.out; omega) (fun _ _ e => e)) (by have := HFR.out.size; have := (FX1.out).size; have := HG.out; omega) HA1.out hl1).mono ?_
            rintro e w9 ⟨rfl, ⟨m9, hD9⟩, f9⟩
            have HD9 := Lib.hid hD9
            have HF9 := Lib.hid ((HFR.out.tr FX1.out).trans (S := fun _ => False) f9 (fun i hi e => Hfw.out i hi e))
            have HS9 := Lib.hid (Nat.le_trans (FX1.out).size f9.size)
            clear hD9 f9
            go_wp2_with fail
            go_roundw
            case rel => exact ⟨k + 1, by omega, by go_num, ⟨_, HD9.out⟩, HF9.out, by have := HS9.out; have := HG.out; omega⟩
            case measure => simp [intOf]; omega
        · have t3 : (kd == 3) = false := by simp [h3]
          clear h3
          go_wp2_with fail
          refine (Hdo.out _ m kd at_ v A2 l1 cap2 _ _ (HD.out.fr0 FX1.out) hkd hats hv (HI1.out.fr (FX1.out) (by have := HFR.out.size; have := HG.out; omega) (fun _ _ e => e)) (by have := HFR.out.size; have := (FX1.out).size; have := HG.out; omega) HA1.out hl1).mono ?_
          rintro e w9 ⟨rfl, ⟨m9, hD9⟩, f9⟩
          have HD9 := Lib.hid hD9
          have HF9 := Lib.hid ((HFR.out.tr FX1.out).trans (S := fun _ => False) f9 (fun i hi e => Hfw.out i hi e))
          have HS9 := Lib.hid (Nat.le_trans (FX1.out).size f9.size)
          clear hD9 f9
          go_wp2_with fail
          go_roundw
          case rel => exact ⟨k + 1, by omega, by go_num, ⟨_, HD9.out⟩, HF9.out, by have := HS9.out; have := HG.out; omega⟩
          case measure => simp [intOf]; omega
    · have HD := Lib.hid hD
      clear hD
      go_wp2_with fail
      all_goals
        refine (Hal.out _ _ HD.out).mono ?_
        rintro e w5 ⟨rfl, f5⟩
        go_wp2_with fail
        refine (known7 _).mono ?_
        rintro e w6 ⟨rfl, f6⟩
        go_wp2_with fail
        go_ret
        exact ⟨rfl, (fr.tr f5).tr f6⟩
end Go.Proofs.Ytcfoogbjlokegaa.ramPlays
