/- MmuOpen, MmuTab, MmuTell, MmuF, MmuTu, MmuG, MmuH, in one text. -/
import Derived.Test.YthiephlfhbkcbaaMmuK
import Derived.Test.YthiephlfhbkcbaaOpen
import Derived.Test.YthiephlfhbkcbaaWalkT
import Derived.Test.YthiephlfhbkcbaaWalkB
import Derived.Deep.RegionHeld
import Derived.Deep.Slices
import Derived.Test.YthiephlfhbkcbaaMmuDa
import Derived.Test.YthiephlfhbkcbaaMmuX
import Derived.Deep.QuietTactic
import Derived.BigQuiet
import Derived.Test.YthiephlfhbkcbaaSame64
import Derived.Deep.Cut
namespace Go.Proofs.Ythiephlfhbkcbaa.Mu
open Go.RowKit Go.ChangeShapes Go.WideShapes Go.Deep
set_option linter.unusedVariables false

structure Ask10 where
  kind : Int
  how : Int
  n : Int
  va : Int
  v : Int
  pg : Bool
  su : Bool
def AskAt (w : World) (b o : Nat) (x : Ask10) : Prop :=
  (w.cell? ⟨b, o, none⟩ = some (.int .i64 x.kind) ∧ w.cell? ⟨b, o + 1, none⟩ = some (.int .i64 x.how) ∧ w.cell? ⟨b, o + 2, none⟩ = some (.int .i64 x.n) ∧ w.cell? ⟨b, o + 3, none⟩ = some (.int .u32 x.va) ∧ w.cell? ⟨b, o + 4, none⟩ = some (.int .u32 x.v) ∧ w.cell? ⟨b, o + 5, none⟩ = some (.bool x.pg) ∧ w.cell? ⟨b, o + 6, none⟩ = some (.bool x.su)) ∧
  (Lit.int .i64 x.kind).wf = true ∧ (Lit.int .i64 x.how).wf = true ∧ (Lit.int .i64 x.n).wf = true ∧ (Lit.int .u32 x.va).wf = true ∧ (Lit.int .u32 x.v).wf = true
def AsksAt (w : World) (B : Nat) (A : Option Addr) (n : Nat) : Prop :=
  0 < n → ∃ b off, A = some ⟨b, off, none⟩ ∧ b < B ∧ ∀ i, i < n → ∃ x, AskAt w b (off + i * 7) x
theorem AskAt.fr {w w' : World} {b o : Nat} {x : Ask10} {S : Nat → Prop} (h : AskAt w b o x) (f : Fr S w w') (hb : b < w.heap.size) (hs : ¬ S b) : AskAt w' b o x := by
  obtain ⟨⟨h0, h1, h2, h3, h4, h5, h6⟩, h7⟩ := h
  exact ⟨⟨f.cell h0 hb hs, f.cell h1 hb hs, f.cell h2 hb hs, f.cell h3 hb hs, f.cell h4 hb hs, f.cell h5 hb hs, f.cell h6 hb hs⟩, h7⟩
theorem AsksAt.at_ {w : World} {B n i : Nat} {A : Option Addr} (h : AsksAt w B A n) (hi : i < n) : ∃ b off, A = some ⟨b, off, none⟩ ∧ b < B ∧ ∃ x, AskAt w b (off + i * 7) x := by
  obtain ⟨b, off, e, hb, hc⟩ := h (by omega)
  exact ⟨b, off, e, hb, hc i hi⟩
theorem openAsks {H : Type} {enc : TypeId × Value → H} {w : World} {a : Option Addr} {len cap : Nat} {d : DataW H} {p : List MemPlace}
    (h : DataW.Trod enc Try.prog w 0 (fun _ => true) true 71 (.slice a len cap) d p) : AsksAt w w.heap.size a len ∧ len ≤ maxLen := by
  obtain ⟨fuel, hf⟩ := h
  rcases open_slice_fields Try.underlying71 Try.underlying73 (by kernel_rfl) (by kernel_rfl) hf with ⟨hcs, _⟩ | ⟨x, l, c, m, D, Pl, hcs, _, hl, hm, hmm, hx, hi⟩
  · simp [Value.cells] at hcs
    obtain ⟨rfl, rfl, rfl⟩ := hcs
    exact ⟨fun h => absurd h (by omega), by simp [maxLen]⟩
  · simp [Value.cells] at hcs
    obtain ⟨rfl, rfl, rfl⟩ := hcs
    refine ⟨fun hn => ?_, Nat.le_trans hl hm⟩
    have hlm : len ≤ m := by simp at hmm; omega
    have key : ∀ i, i < len → ∃ y : Ask10, (w.cell? (x.add (i * 7)) = some (.int .i64 y.kind) ∧ w.cell? (x.add (i * 7 + 1)) = some (.int .i64 y.how) ∧ w.cell? (x.add (i * 7 + 2)) = some (.int .i64 y.n) ∧ w.cell? (x.add (i * 7 + 3)) = some (.int .u32 y.va) ∧ w.cell? (x.add (i * 7 + 4)) = some (.int .u32 y.v) ∧ w.cell? (x.add (i * 7 + 5)) = some (.bool y.pg) ∧ w.cell? (x.add (i * 7 + 6)) = some (.bool y.su)) ∧
        (Lit.int .i64 y.kind).wf = true ∧ (Lit.int .i64 y.how).wf = true ∧ (Lit.int .i64 y.n).wf = true ∧ (Lit.int .u32 y.va).wf = true ∧ (Lit.int .u32 y.v).wf = true := by
      intro i hil
      obtain ⟨ys, n, _, _, _, hf⟩ := hi i (by omega)
      obtain ⟨v0, y0, hc0, _, ht0⟩ := hf 0 _ rfl
      obtain ⟨v1, y1, hc1, _, ht1⟩ := hf 1 _ rfl
      obtain ⟨v2, y2, hc2, _, ht2⟩ := hf 2 _ rfl
      obtain ⟨v3, y3, hc3, _, ht3⟩ := hf 3 _ rfl
      obtain ⟨v4, y4, hc4, _, ht4⟩ := hf 4 _ rfl
      obtain ⟨v5, y5, hc5, _, ht5⟩ := hf 5 _ rfl
      obtain ⟨v6, y6, hc6, _, ht6⟩ := hf 6 _ rfl
      obtain ⟨k0, rfl, w0⟩ := cell_int Try.underlying3 ht0
      obtain ⟨k1, rfl, w1⟩ := cell_int Try.underlying3 ht1
      obtain ⟨k2, rfl, w2⟩ := cell_int Try.underlying3 ht2
      obtain ⟨k3, rfl, w3⟩ := cell_int Try.underlying22 ht3
      obtain ⟨k4, rfl, w4⟩ := cell_int Try.underlying22 ht4
      obtain ⟨k5, rfl⟩ := cell_bool Try.underlying4 ht5
      obtain ⟨k6, rfl⟩ := cell_bool Try.underlying4 ht6
      exact ⟨⟨k0, k1, k2, k3, k4, k5, k6⟩, ⟨hc0, hc1, hc2, hc3, hc4, hc5, hc6⟩, w0, w1, w2, w3, w4⟩
    obtain ⟨b, off, spot⟩ := x
    obtain ⟨_, ⟨hc0, _⟩, _⟩ := key 0 hn
    have hspot : spot = none := by simpa [Addr.add] using World.cell?_spot hc0
    subst hspot
    have hadd : ∀ j, (⟨b, off, none⟩ : Addr).add j = ⟨b, off + j, none⟩ := by
      intro j
      unfold Addr.add
      split
      · rename_i h0; subst h0; rfl
      · rfl
    refine ⟨b, off, rfl, ?_, fun i hil => ?_⟩
    · rcases Nat.lt_or_ge b w.heap.size with h | h
      · exact h
      · exfalso
        have : w.heap[b]? = none := Array.getElem?_eq_none h
        rw [hadd] at hc0
        simp [World.cell?, this] at hc0
    · obtain ⟨y, q, r⟩ := key i hil
      simp only [hadd, ← Nat.add_assoc] at q
      exact ⟨y, q, r⟩
end Go.Proofs.Ythiephlfhbkcbaa.Mu
namespace Go.Proofs.Ythiephlfhbkcbaa.Mu
open Go.RowKit Fm Nt Rm By Wk
open Go.ChangeShapes Go.WideShapes Go.Deep
set_option linter.unusedVariables false
set_option linter.unusedSimpArgs false
set_option maxHeartbeats 4000000

/-- the page and the entry -/
def pgv (x : Pt) : Int := if x.page % 11 = 10 then 512 else x.page % 11
def pv (x : Pt) : Int := pgv x * 256 + (x.bits % 128) / 2 * 2 + 1
def prt4 (z : Nat → Int) (x : Pt) (r : Nat) : Nat → Int := fun i => if x.at_ ≤ i ∧ i < x.at_ + r then (if i - x.at_ = 0 then pv x % 256 else if i - x.at_ = 1 then pv x / 256 % 256 else if i - x.at_ = 2 then pv x / 65536 % 256 else pv x / 16777216 % 256) else z i
/-- what stands behind the tables -/
def rstZ (ys : List Int) : Nat → Int := fun i => if 192 ≤ i ∧ i - 192 < ys.length then ys.getD (i - 192) 0 else 0
def tab10 (L : Nat → Pt) (ys : List Int) : Nat → Nat → Int
  | 0 => rstZ ys
  | k + 1 => prt4 (tab10 L ys k) (L k) 4
theorem pgv_bd (x : Pt) : 0 ≤ pgv x ∧ pgv x ≤ 512 := by unfold pgv; split <;> omega
theorem pv_bd (x : Pt) : 0 ≤ pv x ∧ pv x ≤ 4294967295 := by
  have := pgv_bd x
  unfold pv
  omega
theorem getD_bd (ys : List Int) (hy : ∀ z ∈ ys, 0 ≤ z ∧ z < 256) (j : Nat) (h : j < ys.length) : 0 ≤ ys.getD j 0 ∧ ys.getD j 0 < 256 := by
  rw [List.getD_eq_getElem?_getD, List.getElem?_eq_getElem h]
  exact hy _ (List.getElem_mem h)
theorem tab10_bd (L : Nat → Pt) (ys : List Int) (hy : ∀ z ∈ ys, 0 ≤ z ∧ z < 256) : ∀ k i, 0 ≤ tab10 L ys k i ∧ tab10 L ys k i < 256 := by
  intro k
  induction k with
  | zero =>
    intro i
    show 0 ≤ rstZ ys i ∧ rstZ ys i < 256
    unfold rstZ
    split
    · rename_i h
      exact getD_bd ys hy _ h.2
    · exact ⟨Int.le_refl _, by decide⟩
  | succ k ih =>
    intro i
    show 0 ≤ prt4 (tab10 L ys k) (L k) 4 i ∧ prt4 (tab10 L ys k) (L k) 4 i < 256
    unfold prt4
    split
    · split
      · omega
      · split
        · omega
        · split <;> omega
    · exact ih i
theorem prt4_succ (z : Nat → Int) (x : Pt) (r : Nat) (b : Int) (hb : b = if r = 0 then pv x % 256 else if r = 1 then pv x / 256 % 256 else if r = 2 then pv x / 65536 % 256 else pv x / 16777216 % 256) : updI (prt4 z x r) (x.at_ + r) b = prt4 z x (r + 1) := by
  funext i
  unfold updI prt4
  by_cases e : i = x.at_ + r
  · have h1 : x.at_ ≤ i ∧ i < x.at_ + (r + 1) := by omega
    have h2 : i - x.at_ = r := by omega
    rw [if_pos e, if_pos h1, hb, h2]
  · rw [if_neg e]
    by_cases h : x.at_ ≤ i ∧ i < x.at_ + r
    · have h1 : x.at_ ≤ i ∧ i < x.at_ + (r + 1) := by omega
      rw [if_pos h, if_pos h1]
    · have h1 : ¬ (x.at_ ≤ i ∧ i < x.at_ + (r + 1)) := by omega
      rw [if_neg h, if_neg h1]
theorem run_behind (g : Nat) (W : World) : (Instr.slice 24 (.slice (some ⟨g, 0, none⟩) 512 512) (some (.int .i64 192)) none none).run Try.prog W = .ok (.slice (some ⟨g, 192, none⟩) 320 320) W := by
  obtain ⟨i0, hi0, hz0, hz1, hz2⟩ := info_parts infoU8
  have he : Try.prog.elem 24 = 5 := by kernel_rfl
  rw [run_slice_l W 24 (some ⟨g, 0, none⟩) 512 512 (by rw [he]; exact Try.underlying24) .i64 192 (by omega) (by omega)]
  simp [sizeOf, typeInfo, he, hi0, hz1, Result.andThen, sliced, Addr.add]
def Tabs10 (w : World) (len : Nat) (L : Nat → Pt) (ys : List Int) (e : Ending) (w' : World) : Prop := e = .returned (.slice (some ⟨w.heap.size, 0, none⟩) 512 512) ∧ Cells w' w.heap.size 5 512 (fun i => .int .u8 (tab10 L ys (min len 40) i)) ∧ Fr (fun _ => False) w w'
set_option maxRecDepth 100000 in
theorem tables10 (w : World) (A : Option Addr) (len cap : Nat) (L : Nat → Pt) (hL : PtsAt w w.heap.size A len L) (hm : len ≤ maxLen) (A2 : Option Addr) (len2 cap2 : Nat) (ys : List Int) (hy : IntsAt .u8 w w.heap.size A2 (min len2 320) ys) :
    Calls Try.prog 24 #[.slice A len cap, .slice A2 len2 cap2] w (Tabs10 w len L ys) := by
  unfold maxLen at hm
  have HL := Lib.hid hL
  have hmk : ∀ W, (Instr.makeSlice 24 (.int .i64 512) (.int .i64 512)).run Try.prog W = .ok (.slice (some ⟨W.heap.size, 0, none⟩) 512 512) (W.alloc (.cells (zU 512) 5)) := fun W => run_makeU .i64 512 (by omega) W
  have hsl := run_behind w.heap.size
  have hc0 := Lib.hid (cellsU w 512 rfl)
  have f0 := (Fr.refl (fun _ => False) w).alloc (.cells (zU 512) 5)
  have hsz := szU
  have HY := Lib.hid (hy.fr f0 (Nat.le_refl _) (fun _ _ e => e))
  have hly := hy.1
  have F0 := Lib.hid f0
  clear hL hy f0
  go_enter Try.func24, Try.ntmps24
  go_wp2_with
    (refine wpList_copy_cells rfl (.tmp 13) (.tmp 14) 24 24 rfl 5 Try.underlying24 hsz w.heap.size 192 320 320 A2 len2 cap2 rfl rfl 5 512 _ hc0.out .u8 w.heap.size (min len2 320) ys (by omega) HY.out (by omega) ?_
     intro w2 hc2 f2)
  have hc3 : Cells w2 w.heap.size 5 512 (fun i => .int .u8 (tab10 L ys 0 i)) := Cells.congr hc2 (fun i hi => by
    show putR _ 192 _ i = .int .u8 (rstZ ys i)
    unfold putR rstZ
    rw [List.length_map]
    by_cases h : 192 ≤ i ∧ i < 192 + ys.length
    · rw [if_pos h, if_pos (by omega)]
      have : i - 192 < ys.length := by omega
      simp [List.getD_eq_getElem?_getD, this]
    · rw [if_neg h, if_neg (by omega)])
  have hc0' := Lib.hid hc3
  have f2' := Lib.hid (F0.out.trans (S := fun _ => False) f2 (fun i hi e => by omega))
  clear hc2 hc3 f2 hmk hsl
  go_wp2_with fail
  go_loopw [6] (fun i wr => ∃ k : Nat, k ≤ len ∧ k ≤ 40 ∧ i = .int .i64 k ∧ Cells wr w.heap.size 5 512 (fun i => .int .u8 (tab10 L ys k i)) ∧ Fr (fun _ => False) w wr) (fun i _ => len - (intOf i).toNat)
  case atStart => exact ⟨0, by omega, by omega, rfl, hc0'.out, f2'.out⟩
  case round =>
    clear hc0' f2'
    obtain ⟨k, hk, hk2, rfl, hC, fr⟩ := hrel
    obtain ⟨wo, rfl⟩ : ∃ wo : World, wo = wr := ⟨_, rfl⟩
    by_cases hlt : k < len ∧ k < 40
    · obtain ⟨h1, h2⟩ := hlt
      have hd1 : decide ((k : Int) < 40) = true := by simp; omega
      have hd2 : decide (k < len) = true := by simp; omega
      obtain ⟨b, off, rfl, hb, hx⟩ := HL.out k h1
      have hbw : b < wo.heap.size := Nat.lt_of_lt_of_le hb fr.size
      have hbg : b ≠ w.heap.size := by omega
      obtain ⟨⟨c0, c1, c2⟩, p0, p1, p2⟩ := hx.fr fr hb (fun e => e)
      obtain ⟨Lk, hLk⟩ : ∃ q, q = L k := ⟨_, rfl⟩
      rw [← hLk] at c0 c1 c2 p0 p1 p2
      have HLk := Lib.hid hLk
      have a0 := wf_i64 p0
      have a1 := wf_i64 p1
      obtain ⟨a2, a3⟩ := wf_u32 p2
      have Hw0 : Hid (∀ W, Calls Try.prog 25 #[.int .i64 Lk.place, .int .i64 0, .int .i64 1000] W fun e w' => e = .returned (.int .i64 (Lk.place % 1001)) ∧ W = w') := Lib.hid (fun W => by
        have := Bk.within_any W Lk.place 0 1000 a0.1 a0.2 (by omega) (by omega) (by omega)
        rw [show (0 : Int) + Lk.place % (1000 - 0 + 1) = Lk.place % 1001 by omega] at this
        exact this)
      have Hw1 : Hid (∀ W, Calls Try.prog 25 #[.int .i64 Lk.page, .int .i64 0, .int .i64 1000] W fun e w' => e = .returned (.int .i64 (Lk.page % 1001)) ∧ W = w') := Lib.hid (fun W => by
        have := Bk.within_any W Lk.page 0 1000 a1.1 a1.2 (by omega) (by omega) (by omega)
        rw [show (0 : Int) + Lk.page % (1000 - 0 + 1) = Lk.page % 1001 by omega] at this
        exact this)
      have xa : Lk.place % 1001 % 48 * 4 = (Lk.at_ : Int) := by unfold Pt.at_; omega
      have hat : Lk.at_ + 4 ≤ 192 := by unfold Pt.at_; omega
      have m2 : Lk.bits.tmod 128 = Lk.bits % 128 := Int.tmod_eq_emod_of_nonneg a2
      have hpb := pgv_bd Lk
      have hvb := pv_bd Lk
      have o8 : bits .or .u32 (pgv Lk * 256) (Lk.bits % 128) = pgv Lk * 256 + Lk.bits % 128 := or8 _ _ (by omega) (by omega) (by omega) (by omega) (by omega)
      have o1 : bits .or .u32 (pgv Lk * 256 + Lk.bits % 128) 1 = pv Lk := by rw [or1 _ (by omega) (by omega)]; unfold pv; omega
      have HC2 := Lib.hid hC
      have HF2 := Lib.hid fr
      have Hpg : Hid (pgv Lk = if Lk.page % 11 = 10 then 512 else Lk.page % 11) := rfl
      have hv0 := hvb.1
      have hv1 := hvb.2
      clear hx hLk p0 p1 p2 a0 a1 hC fr hvb
      go_wp2_with fail
      refine (Hw0.out _).mono ?_
      rintro e w' ⟨rfl, rfl⟩
      go_wp2_with fail
      refine (Hw1.out _).mono ?_
      rintro e w' ⟨rfl, rfl⟩
      go_upto_if 43 with (fail)
      go_cut [8] (fun v wx => v = .int .u32 (pgv Lk) ∧ wo = wx)
      case first =>
        by_cases h10 : Lk.page % 11 = 10
        · have e1 : (Lk.page % 11 == 10) = true := by simp [h10]
          have Hq : Hid (pgv Lk = 512) := Lib.hid (by rw [Hpg.out, if_pos h10])
          clear h10
          go_wp2_with fail
          go_meet
          exact ⟨by rw [Hq.out], rfl⟩
        · have e1 : (Lk.page % 11 == 10) = false := by simpa using h10
          have Hq : Hid (pgv Lk = Lk.page % 11) := Lib.hid (by rw [Hpg.out, if_neg h10])
          clear h10
          go_wp2_with fail
          go_meet
          exact ⟨by rw [Hq.out], rfl⟩
      case rest =>
        obtain ⟨rfl, hw⟩ := hcut
        subst hw
        clear Hpg
        have hp0 := hpb.1
        have hp1 := hpb.2
        clear hpb
        generalize pgv Lk = pg at *
        go_wp2_with fail
        go_loopw [10] (fun i wr => ∃ r : Nat, r ≤ 4 ∧ i = .int .i64 r ∧ Cells wr w.heap.size 5 512 (fun i => .int .u8 (prt4 (tab10 L ys k) Lk r i)) ∧ Fr (fun _ => False) w wr) (fun i _ => 4 - (intOf i).toNat)
        case atStart => exact ⟨0, by omega, rfl, Cells.congr HC2.out (fun i hi => by unfold prt4; rw [if_neg (by omega)]), HF2.out⟩
        case round =>
          obtain ⟨r, hr, rfl, hC, fr⟩ := hrel
          by_cases hlr : r < 4
          · rcases (by omega : r = 0 ∨ r = 1 ∨ r = 2 ∨ r = 3) with rfl | rfl | rfl | rfl
            · obtain ⟨jr, hjr⟩ : ∃ q : Nat, q = Lk.at_ := ⟨_, rfl⟩
              have s3 : (Lk.at_ : Int) = (jr : Int) := by omega
              have u3 : IntKind.u8.wrap (pv Lk) = (pv Lk) % 256 := IntKind.wrap_u8 _
              have cj := hC.cell jr (by omega)
              have zj := Cells.frozen hC jr
              have q0 : (0 : Int) ≤ (jr : Int) := by omega
              have q1 : (jr : Int) < 512 := by omega
              have HD : Hid (Cells (wr.setCell ⟨w.heap.size, jr, none⟩ (.int .u8 ((pv Lk) % 256))) w.heap.size 5 512 (fun i => .int .u8 (prt4 (tab10 L ys k) Lk 1 i))) := Lib.hid (by
                have := set_u8 hC jr ((pv Lk) % 256)
                rw [hjr] at this ⊢
                rw [show Lk.at_ = Lk.at_ + 0 from rfl, prt4_succ _ _ 0 _ (by simp)] at this
                exact this)
              have HF := Lib.hid (fr.setCell (p := ⟨w.heap.size, jr, none⟩) (.inr (Nat.le_refl _)) (.int .u8 ((pv Lk) % 256)))
              clear hC fr hjr
              go_wp2_with fail
              go_roundw
              case rel => exact ⟨1, by omega, rfl, HD.out, HF.out⟩
              case measure => simp [intOf]
            · obtain ⟨jr, hjr⟩ : ∃ q : Nat, q = Lk.at_ + 1 := ⟨_, rfl⟩
              have s3 : (Lk.at_ : Int) + 1 = (jr : Int) := by omega
              have s4 : IntKind.i64.wrap ((Lk.at_ : Int) + 1) = (jr : Int) := by rw [IntWalk.i64_in _ (by omega)]; omega
              have cj := hC.cell jr (by omega)
              have zj := Cells.frozen hC jr
              have q0 : (0 : Int) ≤ (jr : Int) := by omega
              have q1 : (jr : Int) < 512 := by omega
              have HD : Hid (Cells (wr.setCell ⟨w.heap.size, jr, none⟩ (.int .u8 ((pv Lk) / 256 % 256))) w.heap.size 5 512 (fun i => .int .u8 (prt4 (tab10 L ys k) Lk 2 i))) := Lib.hid (by
                have := set_u8 hC jr ((pv Lk) / 256 % 256)
                rw [hjr] at this ⊢
                rw [prt4_succ _ _ 1 _ (by simp)] at this
                exact this)
              have HF := Lib.hid (fr.setCell (p := ⟨w.heap.size, jr, none⟩) (.inr (Nat.le_refl _)) (.int .u8 ((pv Lk) / 256 % 256)))
              clear hC fr hjr
              go_wp2_with fail
              go_roundw
              case rel => exact ⟨2, by omega, rfl, HD.out, HF.out⟩
              case measure => simp [intOf]
            · obtain ⟨jr, hjr⟩ : ∃ q : Nat, q = Lk.at_ + 2 := ⟨_, rfl⟩
              have s3 : (Lk.at_ : Int) + 2 = (jr : Int) := by omega
              have s4 : IntKind.i64.wrap ((Lk.at_ : Int) + 2) = (jr : Int) := by rw [IntWalk.i64_in _ (by omega)]; omega
              have cj := hC.cell jr (by omega)
              have zj := Cells.frozen hC jr
              have q0 : (0 : Int) ≤ (jr : Int) := by omega
              have q1 : (jr : Int) < 512 := by omega
              have HD : Hid (Cells (wr.setCell ⟨w.heap.size, jr, none⟩ (.int .u8 ((pv Lk) / 65536 % 256))) w.heap.size 5 512 (fun i => .int .u8 (prt4 (tab10 L ys k) Lk 3 i))) := Lib.hid (by
                have := set_u8 hC jr ((pv Lk) / 65536 % 256)
                rw [hjr] at this ⊢
                rw [prt4_succ _ _ 2 _ (by simp)] at this
                exact this)
              have HF := Lib.hid (fr.setCell (p := ⟨w.heap.size, jr, none⟩) (.inr (Nat.le_refl _)) (.int .u8 ((pv Lk) / 65536 % 256)))
              clear hC fr hjr
              go_wp2_with fail
              go_roundw
              case rel => exact ⟨3, by omega, rfl, HD.out, HF.out⟩
              case measure => simp [intOf]
            · obtain ⟨jr, hjr⟩ : ∃ q : Nat, q = Lk.at_ + 3 := ⟨_, rfl⟩
              have s3 : (Lk.at_ : Int) + 3 = (jr : Int) := by omega
              have s4 : IntKind.i64.wrap ((Lk.at_ : Int) + 3) = (jr : Int) := by rw [IntWalk.i64_in _ (by omega)]; omega
              have cj := hC.cell jr (by omega)
              have zj := Cells.frozen hC jr
              have q0 : (0 : Int) ≤ (jr : Int) := by omega
              have q1 : (jr : Int) < 512 := by omega
              have HD : Hid (Cells (wr.setCell ⟨w.heap.size, jr, none⟩ (.int .u8 ((pv Lk) / 16777216))) w.heap.size 5 512 (fun i => .int .u8 (prt4 (tab10 L ys k) Lk 4 i))) := Lib.hid (by
                have := set_u8 hC jr ((pv Lk) / 16777216)
                rw [hjr] at this ⊢
                rw [prt4_succ _ _ 3 _ (by simp; omega)] at this
                exact this)
              have HF := Lib.hid (fr.setCell (p := ⟨w.heap.size, jr, none⟩) (.inr (Nat.le_refl _)) (.int .u8 ((pv Lk) / 16777216)))
              clear hC fr hjr
              go_wp2_with fail
              go_roundw
              case rel => exact ⟨4, by omega, rfl, HD.out, HF.out⟩
              case measure => simp [intOf]
          · have e : r = 4 := by omega
            rw [e] at hC
            have HD : Hid (Cells wr w.heap.size 5 512 (fun i => .int .u8 (tab10 L ys (k + 1) i))) := Lib.hid (by
              show Cells wr w.heap.size 5 512 (fun i => .int .u8 (prt4 (tab10 L ys k) (L k) 4 i))
              rw [← HLk.out]
              exact hC)
            clear hC e
            go_wp2_with fail
            go_roundw
            case rel => exact ⟨k + 1, by omega, by omega, by go_num, HD.out, fr⟩
            case measure => simp [intOf]; omega
    · have hkm : k = min len 40 := by omega
      have HX : Hid (Tabs10 w len L ys (.returned (.slice (some ⟨w.heap.size, 0, none⟩) 512 512)) wo) := Lib.hid ⟨rfl, hkm ▸ hC, fr⟩
      clear hC fr hkm
      go_wp2_with fail
      all_goals
        go_ret
        exact HX.out
instance : Inhabited Pt := ⟨⟨0, 0, 0⟩⟩
theorem openPtes {H : Type} {enc : TypeId × Value → H} {w : World} {a : Option Addr} {len cap : Nat} {d : DataW H} {p : List MemPlace}
    (h : DataW.Trod enc Try.prog w 0 (fun _ => true) true 52 (.slice a len cap) d p) : (∃ L, PtsAt w w.heap.size a len L) ∧ len ≤ maxLen := by
  obtain ⟨fuel, hf⟩ := h
  rcases open_slice_fields Try.underlying52 Try.underlying80 (by kernel_rfl) (by kernel_rfl) hf with ⟨hcs, _⟩ | ⟨x, l, c, m, D, Pl, hcs, _, hl, hm, hmm, hx, hi⟩
  · simp [Value.cells] at hcs
    obtain ⟨rfl, rfl, rfl⟩ := hcs
    exact ⟨⟨fun _ => ⟨0, 0, 0⟩, fun i hi => absurd hi (by omega)⟩, by simp [maxLen]⟩
  · simp [Value.cells] at hcs
    obtain ⟨rfl, rfl, rfl⟩ := hcs
    have hlm : len ≤ m := by simp at hmm; omega
    have key : ∀ i, i < len → ∃ y : Pt, (w.cell? (x.add (i * 3)) = some (.int .i64 y.place) ∧ w.cell? (x.add (i * 3 + 1)) = some (.int .i64 y.page) ∧ w.cell? (x.add (i * 3 + 2)) = some (.int .u32 y.bits)) ∧
        (Lit.int .i64 y.place).wf = true ∧ (Lit.int .i64 y.page).wf = true ∧ (Lit.int .u32 y.bits).wf = true := by
      intro i hil
      obtain ⟨ys, n, _, _, _, hf⟩ := hi i (by omega)
      obtain ⟨v0, y0, hc0, _, ht0⟩ := hf 0 _ rfl
      obtain ⟨v1, y1, hc1, _, ht1⟩ := hf 1 _ rfl
      obtain ⟨v2, y2, hc2, _, ht2⟩ := hf 2 _ rfl
      obtain ⟨s, rfl, w0⟩ := cell_int Try.underlying3 ht0
      obtain ⟨at_, rfl, w1⟩ := cell_int Try.underlying3 ht1
      obtain ⟨c, rfl, w2⟩ := cell_int Try.underlying22 ht2
      exact ⟨⟨s, at_, c⟩, ⟨hc0, hc1, hc2⟩, w0, w1, w2⟩
    obtain ⟨L, hL⟩ := choose_lt key
    refine ⟨⟨L, fun i hil => ?_⟩, Nat.le_trans hl hm⟩
    obtain ⟨b, off, spot⟩ := x
    obtain ⟨⟨hc0, _⟩, _⟩ := hL 0 (by omega)
    have hspot : spot = none := by simpa [Addr.add] using World.cell?_spot hc0
    subst hspot
    have hadd : ∀ j, (⟨b, off, none⟩ : Addr).add j = ⟨b, off + j, none⟩ := by
      intro j
      unfold Addr.add
      split
      · rename_i h0; subst h0; rfl
      · rfl
    refine ⟨b, off, rfl, ?_, ?_⟩
    · rcases Nat.lt_or_ge b w.heap.size with h | h
      · exact h
      · exfalso
        have : w.heap[b]? = none := Array.getElem?_eq_none h
        rw [hadd] at hc0
        simp [World.cell?, this] at hc0
    · obtain ⟨q, r⟩ := hL i hil
      simp only [hadd, ← Nat.add_assoc] at q
      exact ⟨q, r⟩
end Go.Proofs.Ythiephlfhbkcbaa.Mu
namespace Go.Proofs.Ythiephlfhbkcbaa.Mu
open Go.RowKit Fm Nt Rm By Wk
set_option linter.unusedVariables false
set_option linter.unusedSimpArgs false
set_option maxHeartbeats 1000000

theorem memory_t (w : World) (A : Au) (u : Us) (h : Un w A u) : Calls Try.prog 26 #[.pointer (some ⟨A.gU, 0, none⟩)] w fun e w' => e = .returned (.pointer (some ⟨A.am.gm, 0, none⟩)) ∧ w = w' := by
  have c0 := h.c0
  go_enter Try.func26, Try.ntmps26
  go_wp2_with fail
  go_ret
  exact ⟨rfl, rfl⟩
theorem flush_t (w : World) (A : Au) (u : Us) (h : Un w A u) : Calls Try.prog 33 #[.pointer (some ⟨A.gU, 0, none⟩)] w fun e w' => e = .returned (.tuple #[]) ∧ Un w' A ⟨u.m, noL⟩ ∧ Fr A.wr w w' := by
  have c0 := h.c1
  have Hf := Lib.hid (Tl.flush_any w A.gB u.l h.B)
  have H := Lib.hid h
  clear h
  go_enter Try.func33, Try.ntmps33
  go_wp2_with fail
  refine (Hf.out).mono ?_
  rintro e w1 ⟨rfl, hB, f⟩
  have HX := Lib.hid (And.intro (H.out.setB hB f) (f.mono (S' := A.wr) (fun k _ e => .inl e)))
  clear hB f
  go_wp2_with fail
  go_end0
  exact ⟨rfl, HX.out.1, HX.out.2⟩
theorem all_t (w : World) (A : Au) (u : Us) (h : Un w A u) : Calls Try.prog 27 #[.pointer (some ⟨A.am.gm, 0, none⟩)] w fun e w' => ∃ g, e = .returned (.slice (some ⟨g, 0, none⟩) (u.m.n * 64) (u.m.n * 64)) ∧ IntsAt .u8 w' w'.heap.size (some ⟨g, 0, none⟩) (u.m.n * 64) (lst u.m.mem (u.m.n * 64)) ∧ Fr (fun _ => False) w w' := by
  refine (all_any w A.am u.m h.M).mono ?_
  rintro e w' ⟨rfl, hc, f⟩
  exact ⟨_, rfl, (cells_ints hc h.M.bd).more hc.lt, f⟩
theorem pts_fr {w w' : World} {A : Option Addr} {n : Nat} {L : Nat → Pt} (h : PtsAt w w.heap.size A n L) (f : Fr (fun _ => False) w w') : PtsAt w' w'.heap.size A n L := fun i hi => by
  obtain ⟨b, off, e, hb, hx⟩ := h i hi
  exact ⟨b, off, e, Nat.lt_of_lt_of_le hb f.size, hx.fr f hb (fun e => e)⟩
/-- the tables' bytes as they are handed on -/
theorem tabs_ints {w w' : World} {len : Nat} {L : Nat → Pt} {ys : List Int} (hy : ∀ z ∈ ys, 0 ≤ z ∧ z < 256) (hc : Cells w' w.heap.size 5 512 (fun i => .int .u8 (tab10 L ys (min len 40) i))) : IntsAt .u8 w' (w.heap.size + 1) (some ⟨w.heap.size, 0, none⟩) 512 (lst (tab10 L ys (min len 40)) 512) := cells_ints hc (fun k _ => tab10_bd L ys hy _ k)
end Go.Proofs.Ythiephlfhbkcbaa.Mu
namespace Go.Proofs.Ythiephlfhbkcbaa.Mu
open Go.RowKit Fm Nt Rm By Wk Rf
set_option linter.unusedVariables false
set_option linter.unusedSimpArgs false
set_option maxHeartbeats 2000000

section
variable {u : Us} {s : Sp} {va k n : Int}
theorem turned_mod (v0 : 0 ≤ va) (hk : ¬ flt k = 0) (hc : (turnedR u s va k).c = 0) : (turnedR u s va k).p % 64 = va % 64 := by
  unfold turnedR at hc ⊢
  split
  · rfl
  · rename_i h0
    rw [if_neg h0] at hc
    split
    · rename_i hh
      exact found_mod _ _ _ _ v0 hh
    · rename_i hh
      rw [if_neg hh] at hc
      split
      · show (now k (lkLeaf u.m s.rt va) / 256 * 64 + va % 64) % 64 = va % 64
        omega
      · rename_i hd
        rw [if_neg hd] at hc
        exact absurd hc hk
theorem place_mod (v0 : 0 ≤ va) (hc : (placeR u s va k).c = 0) : (placeR u s va k).p % 64 = va % 64 := by
  unfold placeR at hc ⊢
  split
  · rename_i hq
    rw [if_pos hq] at hc
    exact absurd hc (by show ¬ (10 : Int) = 0; omega)
  · rename_i hq
    rw [if_neg hq] at hc
    split
    · rename_i hq2
      rw [if_pos hq2] at hc
      exact absurd hc hq2
    · rename_i hq2
      rw [if_neg hq2] at hc
      split
      · exact turned_mod v0 hq (by simpa using hq2)
      · rename_i hq3
        rw [if_neg hq3] at hc
        exact absurd hc (by show ¬ (10 : Int) = 0; omega)
/-- places that are told lie in the memory -/
theorem span_in (hO : u.Ok) (r0 : 0 ≤ s.rt) (v0 : 0 ≤ va) (v1 : va ≤ 4294967295) : ∀ x ∈ (spanR u s va n k).l, 0 ≤ x ∧ x < (u.m.n : Int) * 64 := by
  intro x hx
  have hP := place_in' (k := k) hO r0 v0 v1
  have hPn : (placeR u s va k).u.m.n = u.m.n := place_n
  have hPO := hO.place (k := k) r0 v0
  have hnb := nextP_bd v0
  unfold spanR at hx
  split at hx
  · cases hx
  · split at hx
    · cases hx
    · rename_i h2
      split at hx
      · cases hx
      · rename_i h3
        split at hx
        · cases hx
        · rename_i h4
          split at hx
          · cases hx
          · rename_i h5
            have h2 : (placeR u s va k).c = 0 := by simpa using h2
            have h4 : devB (placeR u s va k).p = false := by simpa using h4
            obtain ⟨_, p0, p1, p2⟩ := hP h2
            have p2 := p2 h4
            rw [hPn] at p2
            have pm := place_mod (u := u) (s := s) (k := k) v0 h2
            unfold spots at hx
            obtain ⟨i, hi, rfl⟩ := List.mem_map.1 hx
            have hi := List.mem_range.1 hi
            unfold spot
            split
            · omega
            · rename_i hil
              have hcr : 64 - va % 64 < n := by omega
              have e3 : secR u s va n k = placeR (placeR u s va k).u s (nextP va) k := by unfold secR; rw [if_pos hcr]
              rw [e3] at h3 h5 ⊢
              have h3 : (placeR (placeR u s va k).u s (nextP va) k).c = 0 := by simpa using h3
              have h5 : devB (placeR (placeR u s va k).u s (nextP va) k).p = false := by
                cases hq : devB (placeR (placeR u s va k).u s (nextP va) k).p
                · rfl
                · exact absurd ⟨hcr, hq⟩ h5
              obtain ⟨_, q0, q1, q2⟩ := place_in' (k := k) hPO r0 hnb.1 hnb.2 h3
              have q2 := q2 h5
              have hQn : (placeR (placeR u s va k).u s (nextP va) k).u.m.n = u.m.n := place_n.trans hPn
              rw [hQn] at q2
              have qm := place_mod (u := (placeR u s va k).u) (s := s) (k := k) hnb.1 h3
              have hn0 : nextP va % 64 = 0 := by unfold nextP; omega
              omega
end
theorem join_take (m : Ms) : ∀ (l : List Int) (j : Nat), j < l.length → join m (l.take (j + 1)) = join m (l.take j) + 256 ^ j * memV m (l.getD j 0)
  | [], j, h => absurd h (by simp)
  | p :: ps, 0, _ => by simp [join]
  | p :: ps, j + 1, h => by
    have ih := join_take m ps j (by simpa using h)
    rw [List.take_succ_cons, join, ih, List.take_succ_cons, join, Int.pow_succ]
    simp only [List.getD_cons_succ]
    rw [Int.mul_add, Int.add_assoc]
    congr 2
    rw [Int.mul_comm (256 ^ j) 256, Int.mul_assoc]
theorem join_bd' {m : Ms} (hb : ∀ i, i < m.n * 64 → 0 ≤ m.mem i ∧ m.mem i < 256) : ∀ (l : List Int), (∀ p ∈ l, 0 ≤ p) → 0 ≤ join m l ∧ join m l < 256 ^ l.length
  | [], _ => by simp [join]
  | p :: ps, hl => by
    have h1 : 0 ≤ memV m p ∧ memV m p < 256 := by
      unfold memV
      split
      · rename_i hq
        have hq : p + 1 ≤ (m.n : Int) * 64 := by simpa [inB] using hq
        have := hl p (List.mem_cons_self ..)
        exact hb _ (by omega)
      · omega
    have h2 := join_bd' hb ps (fun q hq => hl q (List.mem_cons_of_mem _ hq))
    have e : (256 : Int) ^ (p :: ps).length = 256 ^ ps.length * 256 := by rw [List.length_cons, Int.pow_succ]
    rw [join, e]
    omega
/-- a byte is joined above what stands -/
theorem or_up (i : Nat) (hi : i < 4) (v b : Int) (v0 : 0 ≤ v) (v1 : v < 256 ^ i) (b0 : 0 ≤ b) (b1 : b < 256) : bits .or .u32 v (b * 256 ^ i) = v + 256 ^ i * b := by
  rcases (by omega : i = 0 ∨ i = 1 ∨ i = 2 ∨ i = 3) with rfl | rfl | rfl | rfl
  · rw [show (256 : Int) ^ 0 = 1 from rfl] at v1 ⊢
    rw [bits_join_low .u32 32 (by decide) wraps_u32 0 v (b * 1) v0 (by omega) (by omega) (by omega) (by omega) (by omega)]
    omega
  · rw [show (256 : Int) ^ 1 = 256 from rfl] at v1 ⊢
    rw [bits_join_low .u32 32 (by decide) wraps_u32 8 v (b * 256) v0 (by omega) (by omega) (by omega) (by omega) (by omega)]
    omega
  · rw [show (256 : Int) ^ 2 = 65536 from rfl] at v1 ⊢
    rw [bits_join_low .u32 32 (by decide) wraps_u32 16 v (b * 65536) v0 (by omega) (by omega) (by omega) (by omega) (by omega)]
    omega
  · rw [show (256 : Int) ^ 3 = 16777216 from rfl] at v1 ⊢
    rw [bits_join_low .u32 32 (by decide) wraps_u32 24 v (b * 16777216) v0 (by omega) (by omega) (by omega) (by omega) (by omega)]
    omega
set_option maxRecDepth 100000 in
theorem rload10 (w : World) (r : Dr) (u : Us) (h : Dn w r u) (hO : u.Ok) (s : Sp) (va n : Int) (r0 : 0 ≤ s.rt) (r1 : s.rt ≤ 4294967295) (v0 : 0 ≤ va) (v1 : va ≤ 4294967295) :
    Calls Try.prog 74 #[.pointer (some ⟨r.gR, 0, none⟩), .bool s.pg, .bool s.su, .int .u32 s.rt, .int .u32 va, .int .i64 n] w (DPost w r ⟨loadV u s va n, (spanR u s va n 2).c, (spanR u s va n 2).a, (spanR u s va n 2).u⟩) := by
  have hl := h.lt
  have b2 : Blk (w.alloc (.cells #[.int .i64 0, .int .u32 0] 63)) w.heap.size 63 #[.int .i64 0, .int .u32 0] := Blk.new _ _ _
  have fx : Fr (fun _ => False) w (w.alloc (.cells #[.int .i64 0, .int .u32 0] 63)) := (Fr.refl _ w).alloc _
  have hlv : loadV u s va n = join (spanR u s va n 2).u.m (spanR u s va n 2).l := rfl
  rw [hlv]
  have hin := span_in (n := n) (k := 2) hO r0 v0 v1
  have hlen := spanR_len u s va n 2
  have hOs := hO.span (n := n) (k := 2) r0 v0
  have hsn : (spanR u s va n 2).u.m.n = u.m.n := span_n
  have hs := fun W (hW : Dn W r u) => rplaces_any W r u hW hO s va n 2 r0 r1 v0 v1
  rw [← hsn] at hin
  clear hlv hsn
  generalize spanR u s va n 2 = lr at *
  obtain ⟨l, c, a, u1⟩ := lr
  dsimp only at hlen hin hOs hs ⊢
  obtain ⟨res, hres⟩ : ∃ q, join u1.m l = q := ⟨_, rfl⟩
  rw [hres]
  have HRES := Lib.hid hres
  have HIn := Lib.hid hin
  have HOs := Lib.hid hOs
  clear hres hin hOs
  go_enter Try.func74, Try.ntmps74
  go_upto_region 1 with (fail)
  generalize hw1 : w.alloc (.cells #[.int .i64 0, .int .u32 0] 63) = w1 at *
  have Hs := Lib.hid (hs w1 (h.fr0 fx))
  have B2 := Lib.hid b2
  have FX := Lib.hid fx
  have hs1 : w1.heap.size = w.heap.size + 1 := by rw [← hw1]; simp
  clear hs h b2 fx hw1 hO
  go_wp2_with fail
  refine (Hs.out).mono ?_
  rintro e w2 ⟨Al, N, cp, rfl, hI, hnew, hcap, hU2, f2⟩
  dsimp only at hU2 hI ⊢
  have f2x := FX.out.none.trans f2 (S := r.wr) (fun i hi e => e)
  have g2 := B2.out.fr f2 (fun e => by have := hl _ (Dr.wr_its e); omega)
  have hs2 := f2.size
  have fy : Fr (fun _ => False) w2 (w2.alloc (.cells #[.int .i64 c, .int .u32 a] 63)) := (Fr.refl _ _).alloc _
  have g4 := Blk.new w2 63 #[.int .i64 c, .int .u32 a]
  have H3 := hU2.fr0 fy
  have g2 := g2.fr fy (fun e => e)
  have F3 := f2x.tr fy.none
  have hI3 := (hI.fr fy (Nat.le_refl _) (fun _ _ e => e)).more fy.size
  go_upto_region 2 with (fail)
  generalize hw3 : w2.alloc (.cells #[.int .i64 c, .int .u32 a] 63) = w3 at *
  have hs3 : w3.heap.size = w2.heap.size + 1 := by rw [← hw3]; simp
  clear f2 f2x fy hU2 hI hw3
  have hN : l.length = N := hI3.1
  have HI := Lib.hid hI3
  have HU := Lib.hid H3
  have G2 := Lib.hid g2
  have G4 := Lib.hid g4
  have FF := Lib.hid F3
  have hMc := H3.R.b.cell 0
  simp only [List.getElem?_toArray, List.getElem?_cons_zero] at hMc
  have hMl := H3.R.b.lt
  obtain ⟨NN, hNN⟩ : ∃ q, u1.m.n * 64 = q := ⟨_, rfl⟩
  rw [hNN] at hMc
  have hU0 := H3.c0
  have hUl := H3.U.lt
  have hbl := H3.R.cb.lt
  clear g2 g4 H3 F3 hI3
  go_wp2_with fail
  go_loopw [16, 17] (fun v k wr => ∃ r : Nat, r ≤ N ∧ k = .int .i64 r ∧ v = .int .u32 (join u1.m (l.take r)) ∧ Fr (fun _ => False) w3 wr) (fun _ k _ => N - (intOf k).toNat)
  case atStart => exact ⟨0, Nat.zero_le _, rfl, by simp [join], Fr.refl _ _⟩
  case round =>
    obtain ⟨j, hj, rfl, rfl, fr⟩ := hrel
    by_cases hlt : j < N
    · have hjl : j < l.length := by omega
      obtain ⟨b, off, rfl, hbb, hcell⟩ := HI.out.at_ hlt
      have hpp := HIn.out (l.getD j 0) (by rw [List.getD_eq_getElem?_getD, List.getElem?_eq_getElem hjl]; exact List.getElem_mem _)
      have hcell := fr.cell hcell hbb (fun e => e)
      have d0 := fr.cell hU0 hUl (fun e => e)
      have dM := fr.cell hMc hMl (fun e => e)
      obtain ⟨jp, hjp⟩ : ∃ q : Nat, l.getD j 0 = q := ⟨(l.getD j 0).toNat, by omega⟩
      have cb := fr.cell (HU.out.R.cb.cell jp (by omega)) hbl (fun e => e)
      have hbb2 := HOs.out.bd jp (by omega)
      have hmv : memV u1.m (l.getD j 0) = u1.m.mem jp := by
        unfold memV
        rw [if_pos (by unfold inB; exact decide_eq_true (by omega)), hjp]
        rfl
      have HJ := Lib.hid (join_take u1.m l j hjl)
      rw [hmv] at HJ
      have hjb := join_bd' HOs.out.bd (l.take j) (fun p hp => (HIn.out p (List.mem_of_mem_take hp)).1)
      rw [List.length_take, Nat.min_eq_left (by omega)] at hjb
      obtain ⟨v0_, v1_⟩ := hjb
      obtain ⟨hb0, hb1⟩ := hbb2
      have hq0 : (0 : Int) ≤ (jp : Int) := by omega
      have hq1 : (jp : Int) < (NN : Int) := by omega
      have hji : (j : Int) < (N : Int) := by omega
      have hj0 : (0 : Int) ≤ (j : Int) := by omega
      rw [hjp] at hcell
      clear hmv hpp hjp
      generalize u1.m.mem jp = bt at *
      generalize join u1.m (l.take j) = v at *
      rcases (by omega : j = 0 ∨ j = 1 ∨ j = 2 ∨ j = 3) with hr0 | hr0 | hr0 | hr0
      · subst hr0
        rw [Nat.add_zero] at hcell
        have hw8 : IntKind.u64.wrap 0 = 0 := by decide
        have Ho : Hid (bits .or .u32 v (bt * 1) = v + 1 * bt) := Lib.hid (or_up 0 (by omega) v bt v0_ (by simpa using v1_) hb0 hb1)
        have HJ2 : Hid (join u1.m (l.take (0 + 1)) = v + 1 * bt) := Lib.hid (by rw [HJ.out]; rfl)
        clear HJ
        go_wp2_with fail
        go_quiet (fail)
        go_wp2_with fail
        go_roundw
        case rel => exact ⟨0 + 1, by omega, by go_num, by rw [HJ2.out, ← Ho.out, Int.mul_one], fr.drewN _⟩
        case measure => simp [intOf]; omega
      · subst hr0
        have hw8 : IntKind.u64.wrap 8 = 8 := by decide
        have Ho : Hid (bits .or .u32 v (bt * 256) = v + 256 * bt) := Lib.hid (or_up 1 (by omega) v bt v0_ (by simpa using v1_) hb0 hb1)
        have HJ2 : Hid (join u1.m (l.take (1 + 1)) = v + 256 * bt) := Lib.hid (by rw [HJ.out]; rfl)
        clear HJ
        go_wp2_with fail
        go_quiet (fail)
        go_wp2_with fail
        go_roundw
        case rel => exact ⟨1 + 1, by omega, by go_num, by rw [HJ2.out, ← Ho.out], fr.drewN _⟩
        case measure => simp [intOf]; omega
      · subst hr0
        have hw8 : IntKind.u64.wrap 16 = 16 := by decide
        have Ho : Hid (bits .or .u32 v (bt * 65536) = v + 65536 * bt) := Lib.hid (or_up 2 (by omega) v bt v0_ (by simpa using v1_) hb0 hb1)
        have HJ2 : Hid (join u1.m (l.take (2 + 1)) = v + 65536 * bt) := Lib.hid (by rw [HJ.out]; rfl)
        clear HJ
        go_wp2_with fail
        go_quiet (fail)
        go_wp2_with fail
        go_roundw
        case rel => exact ⟨2 + 1, by omega, by go_num, by rw [HJ2.out, ← Ho.out], fr.drewN _⟩
        case measure => simp [intOf]; omega
      · subst hr0
        have hw8 : IntKind.u64.wrap 24 = 24 := by decide
        have Ho : Hid (bits .or .u32 v (bt * 16777216) = v + 16777216 * bt) := Lib.hid (or_up 3 (by omega) v bt v0_ (by simpa using v1_) hb0 hb1)
        have HJ2 : Hid (join u1.m (l.take (3 + 1)) = v + 16777216 * bt) := Lib.hid (by rw [HJ.out]; rfl)
        clear HJ
        go_wp2_with fail
        go_quiet (fail)
        go_wp2_with fail
        go_roundw
        case rel => exact ⟨3 + 1, by omega, by go_num, by rw [HJ2.out, ← Ho.out], fr.drewN _⟩
        case measure => simp [intOf]; omega
    · have e : j = N := by omega
      have hlt' : decide ((j : Int) < (N : Int)) = false := by simp; omega
      have et : l.take j = l := List.take_of_length_le (by omega)
      rw [et, HRES.out]
      have HUe := HU.out.fr0 fr
      have be := G2.out.fr fr (fun e => e)
      have bt := G4.out.fr fr (fun e => e)
      have FFe := FF.out.tr fr.none
      have e2 := be.cell 0
      have e3 := be.cell 1
      have e4 := be.frozen 0
      have e5 := be.frozen 1
      have y0 := bt.cell 0
      have y1 := bt.cell 1
      simp only [List.getElem?_toArray, List.getElem?_cons_succ, List.getElem?_cons_zero] at e2 e3 y0 y1
      have HF0 := Lib.hid (trap_d be HUe FFe hl (Nat.le_refl _) (.int .i64 c) (.int .u32 a))
      clear be bt HUe FFe e et
      go_wp2_with fail
      go_region
      all_goals
        go_wp2_with fail
        try simp only [Exit.inBlock, Exit.then]
        exact bodyPost_ret (results_tc rfl _ _ w.heap.size 63 _ _ _ rfl rfl HF0.out.1.drew Try.underlying63 rfl szT) rfl ⟨rfl, HF0.out.2.1.drew, HF0.out.2.2.drew⟩
set_option maxRecDepth 100000 in
theorem rstore10 (w : World) (r : Dr) (u : Us) (h : Dn w r u) (hO : u.Ok) (s : Sp) (va v n : Int) (x0 : 0 ≤ v) (x1 : v ≤ 4294967295) (r0 : 0 ≤ s.rt) (r1 : s.rt ≤ 4294967295) (v0 : 0 ≤ va) (v1 : va ≤ 4294967295) :
    Calls Try.prog 75 #[.pointer (some ⟨r.gR, 0, none⟩), .bool s.pg, .bool s.su, .int .u32 s.rt, .int .u32 va, .int .u32 v, .int .i64 n] w fun e w' => e = .returned (trv (spanR u s va n 3).c (spanR u s va n 3).a) ∧ Dn w' r (storeU u s va v n) ∧ Fr r.wr w w' := by
  have hl := h.lt
  have b2 : Blk (w.alloc (.cells #[.int .i64 0, .int .u32 0] 63)) w.heap.size 63 #[.int .i64 0, .int .u32 0] := Blk.new _ _ _
  have fx : Fr (fun _ => False) w (w.alloc (.cells #[.int .i64 0, .int .u32 0] 63)) := (Fr.refl _ w).alloc _
  have hlv : storeU u s va v n = ⟨stor (spanR u s va n 3).u.m (spanR u s va n 3).l v (spanR u s va n 3).l.length, (spanR u s va n 3).u.l⟩ := rfl
  rw [hlv]
  have hin := span_in (n := n) (k := 3) hO r0 v0 v1
  have hlen := spanR_len u s va n 3
  have hOs := hO.span (n := n) (k := 3) r0 v0
  have hsn : (spanR u s va n 3).u.m.n = u.m.n := span_n
  have hs := fun W (hW : Dn W r u) => rplaces_any W r u hW hO s va n 3 r0 r1 v0 v1
  rw [← hsn] at hin
  clear hlv hsn
  generalize spanR u s va n 3 = lr at *
  obtain ⟨l, c, a, u1⟩ := lr
  dsimp only at hlen hin hOs hs ⊢
  obtain ⟨res, hres⟩ : ∃ q : Us, (⟨stor u1.m l v l.length, u1.l⟩ : Us) = q := ⟨_, rfl⟩
  rw [hres]
  have HRES := Lib.hid hres
  have HIn := Lib.hid hin
  have HOs := Lib.hid hOs
  clear hres hin hOs
  go_enter Try.func75, Try.ntmps75
  go_upto_region 1 with (fail)
  generalize hw1 : w.alloc (.cells #[.int .i64 0, .int .u32 0] 63) = w1 at *
  have Hs := Lib.hid (hs w1 (h.fr0 fx))
  have B2 := Lib.hid b2
  have FX := Lib.hid fx
  have hs1 : w1.heap.size = w.heap.size + 1 := by rw [← hw1]; simp
  clear hs h b2 fx hw1 hO
  go_wp2_with fail
  refine (Hs.out).mono ?_
  rintro e w2 ⟨Al, N, cp, rfl, hI, hnew, hcap, hU2, f2⟩
  dsimp only at hU2 hI ⊢
  have f2x := FX.out.none.trans f2 (S := r.wr) (fun i hi e => e)
  have g2 := B2.out.fr f2 (fun e => by have := hl _ (Dr.wr_its e); omega)
  have hs2 := f2.size
  have fy : Fr (fun _ => False) w2 (w2.alloc (.cells #[.int .i64 c, .int .u32 a] 63)) := (Fr.refl _ _).alloc _
  have g4 := Blk.new w2 63 #[.int .i64 c, .int .u32 a]
  have H3 := hU2.fr0 fy
  have g2 := g2.fr fy (fun e => e)
  have F3 := f2x.tr fy.none
  have hI3 := (hI.fr fy (Nat.le_refl _) (fun _ _ e => e)).more fy.size
  go_upto_region 2 with (fail)
  generalize hw3 : w2.alloc (.cells #[.int .i64 c, .int .u32 a] 63) = w3 at *
  have hs3 : w3.heap.size = w2.heap.size + 1 := by rw [← hw3]; simp
  clear f2 f2x fy hU2 hI hw3
  have hN : l.length = N := hI3.1
  have HI := Lib.hid hI3
  have HU := Lib.hid H3
  have G2 := Lib.hid g2
  have G4 := Lib.hid g4
  have FF := Lib.hid F3
  rw [hN] at HRES
  have hrow : ∀ b off, 0 < N → Al = some ⟨b, off, none⟩ → ¬ (b = r.gb ∨ b = r.gt) := fun b off hN e q => by have h1 := hnew hN b off e; have h2 := hl r.gb (.inr (.inr (.inl rfl))); have h3 := hl r.gt (.inr (.inr (.inr rfl))); omega
  have HRW := Lib.hid hrow
  have hUn : ¬ (r.gR = r.gb ∨ r.gR = r.gt) := fun e => by rcases e with e | e; exact H3.nR.1 e; exact H3.nR.2.1 e
  have hR0 := Lib.hid H3.R
  have hU0 := H3.c0
  have hUl := H3.U.lt
  clear g2 g4 H3 F3 hI3 hrow hnew
  go_wp2_with fail
  go_loopw [17] (fun k wr => ∃ j : Nat, j ≤ N ∧ k = .int .i64 j ∧ RM wr r.gM r.gb r.gt (stor u1.m l v j).n (stor u1.m l v j).mem (stor u1.m l v j).tu ∧ Fr (fun q => q = r.gb ∨ q = r.gt) w3 wr) (fun k _ => N - (intOf k).toNat)
  case atStart => exact ⟨0, Nat.zero_le _, rfl, hR0.out, Fr.refl _ _⟩
  case round =>
    clear hR0
    obtain ⟨j, hj, rfl, hR, fr⟩ := hrel
    by_cases hlt : j < N
    · have hjl : j < l.length := by omega
      obtain ⟨b, off, rfl, hbb, hcell⟩ := HI.out.at_ hlt
      have hpp := HIn.out (l.getD j 0) (by rw [List.getD_eq_getElem?_getD, List.getElem?_eq_getElem hjl]; exact List.getElem_mem _)
      have hcell := fr.cell hcell hbb (HRW.out b off (by omega) rfl)
      have d0 := fr.cell hU0 hUl hUn
      have hMc := hR.b.cell 0
      simp only [List.getElem?_toArray, List.getElem?_cons_zero] at hMc
      obtain ⟨jp, hjp⟩ : ∃ q : Nat, l.getD j 0 = q := ⟨(l.getD j 0).toNat, by omega⟩
      have hn := HOs.out.n0
      have HSn : Hid ((stor u1.m l v j).n = u1.m.n) := Lib.hid (stor_n _ _ _ _)
      have HNs : Hid ((stor u1.m l v j).n ≤ 64) := Lib.hid (by rw [stor_n]; omega)
      have HSt : Hid (stor u1.m l v (j + 1) = (stor u1.m l v j).put jp (v / 256 ^ j % 256)) := Lib.hid (by
        show (stor u1.m l v j).putI (l.getD j 0) (v / 256 ^ j % 256) = _
        unfold Ms.putI
        rw [if_pos (by unfold inB; rw [stor_n]; exact decide_eq_true (by omega)), hjp]
        rfl)
      have hji : (j : Int) < (N : Int) := by omega
      have hj0 : (0 : Int) ≤ (j : Int) := by omega
      have hjq : (jp : Int) < (u1.m.n : Int) * 64 := by omega
      rw [hjp] at hcell
      clear hpp hjp hMc
      rcases (by omega : j = 0 ∨ j = 1 ∨ j = 2 ∨ j = 3) with hr0 | hr0 | hr0 | hr0
      · subst hr0
        rw [Nat.add_zero] at hcell
        have hw8 : IntKind.u64.wrap 0 = 0 := by decide
        have HB : v / 256 ^ 0 % 256 = v % 256 := by omega
        rw [HB] at HSt
        have hp := Rf.put_any wr.drew r.gM r.gb r.gt _ _ _ ⟨hR.b, hR.cb, hR.ct⟩ HNs.out jp (by rw [HSn.out]; omega) (v % 256)
        have Hp := Lib.hid hp
        have HE : Hid (∀ w5, RM w5 r.gM r.gb r.gt (stor u1.m l v 0).n (updI (stor u1.m l v 0).mem jp (v % 256)) (updB (stor u1.m l v 0).tu (jp / 64) true) → RM w5 r.gM r.gb r.gt (stor u1.m l v (0 + 1)).n (stor u1.m l v (0 + 1)).mem (stor u1.m l v (0 + 1)).tu) := Lib.hid (fun w5 hw => by rw [HSt.out]; exact hw)
        have Hfr := Lib.hid fr
        clear hp HB HSt hR
        go_wp2_with fail
        go_region_with ((go_at_call 103; refine (Hp.out).mono ?_; rintro e w5 ⟨rfl, hR5, f5⟩; have HX := Lib.hid (And.intro (HE.out _ hR5) (Hfr.out.drew.tr f5)); clear hR5 f5))
        all_goals
          go_wp2_with fail
          go_roundw
          case rel => exact ⟨0 + 1, by omega, by go_num, HX.out.1, HX.out.2⟩
          case measure => simp [intOf]; omega
      · subst hr0
        have hw8 : IntKind.u64.wrap 8 = 8 := by decide
        have HB : v / 256 ^ 1 % 256 = v / 256 % 256 := by omega
        rw [HB] at HSt
        have hp := Rf.put_any wr.drew r.gM r.gb r.gt _ _ _ ⟨hR.b, hR.cb, hR.ct⟩ HNs.out jp (by rw [HSn.out]; omega) (v / 256 % 256)
        have Hp := Lib.hid hp
        have HE : Hid (∀ w5, RM w5 r.gM r.gb r.gt (stor u1.m l v 1).n (updI (stor u1.m l v 1).mem jp (v / 256 % 256)) (updB (stor u1.m l v 1).tu (jp / 64) true) → RM w5 r.gM r.gb r.gt (stor u1.m l v (1 + 1)).n (stor u1.m l v (1 + 1)).mem (stor u1.m l v (1 + 1)).tu) := Lib.hid (fun w5 hw => by rw [HSt.out]; exact hw)
        have Hfr := Lib.hid fr
        clear hp HB HSt hR
        go_wp2_with fail
        go_region_with ((go_at_call 103; refine (Hp.out).mono ?_; rintro e w5 ⟨rfl, hR5, f5⟩; have HX := Lib.hid (And.intro (HE.out _ hR5) (Hfr.out.drew.tr f5)); clear hR5 f5))
        all_goals
          go_wp2_with fail
          go_roundw
          case rel => exact ⟨1 + 1, by omega, by go_num, HX.out.1, HX.out.2⟩
          case measure => simp [intOf]; omega
      · subst hr0
        have hw8 : IntKind.u64.wrap 16 = 16 := by decide
        have HB : v / 256 ^ 2 % 256 = v / 65536 % 256 := by omega
        rw [HB] at HSt
        have hp := Rf.put_any wr.drew r.gM r.gb r.gt _ _ _ ⟨hR.b, hR.cb, hR.ct⟩ HNs.out jp (by rw [HSn.out]; omega) (v / 65536 % 256)
        have Hp := Lib.hid hp
        have HE : Hid (∀ w5, RM w5 r.gM r.gb r.gt (stor u1.m l v 2).n (updI (stor u1.m l v 2).mem jp (v / 65536 % 256)) (updB (stor u1.m l v 2).tu (jp / 64) true) → RM w5 r.gM r.gb r.gt (stor u1.m l v (2 + 1)).n (stor u1.m l v (2 + 1)).mem (stor u1.m l v (2 + 1)).tu) := Lib.hid (fun w5 hw => by rw [HSt.out]; exact hw)
        have Hfr := Lib.hid fr
        clear hp HB HSt hR
        go_wp2_with fail
        go_region_with ((go_at_call 103; refine (Hp.out).mono ?_; rintro e w5 ⟨rfl, hR5, f5⟩; have HX := Lib.hid (And.intro (HE.out _ hR5) (Hfr.out.drew.tr f5)); clear hR5 f5))
        all_goals
          go_wp2_with fail
          go_roundw
          case rel => exact ⟨2 + 1, by omega, by go_num, HX.out.1, HX.out.2⟩
          case measure => simp [intOf]; omega
      · subst hr0
        have hw8 : IntKind.u64.wrap 24 = 24 := by decide
        have HB : v / 256 ^ 3 % 256 = v / 16777216 % 256 := by omega
        rw [HB] at HSt
        have hp := Rf.put_any wr.drew r.gM r.gb r.gt _ _ _ ⟨hR.b, hR.cb, hR.ct⟩ HNs.out jp (by rw [HSn.out]; omega) (v / 16777216 % 256)
        have Hp := Lib.hid hp
        have HE : Hid (∀ w5, RM w5 r.gM r.gb r.gt (stor u1.m l v 3).n (updI (stor u1.m l v 3).mem jp (v / 16777216 % 256)) (updB (stor u1.m l v 3).tu (jp / 64) true) → RM w5 r.gM r.gb r.gt (stor u1.m l v (3 + 1)).n (stor u1.m l v (3 + 1)).mem (stor u1.m l v (3 + 1)).tu) := Lib.hid (fun w5 hw => by rw [HSt.out]; exact hw)
        have Hfr := Lib.hid fr
        clear hp HB HSt hR
        go_wp2_with fail
        go_region_with ((go_at_call 103; refine (Hp.out).mono ?_; rintro e w5 ⟨rfl, hR5, f5⟩; have HX := Lib.hid (And.intro (HE.out _ hR5) (Hfr.out.drew.tr f5)); clear hR5 f5))
        all_goals
          go_wp2_with fail
          go_roundw
          case rel => exact ⟨3 + 1, by omega, by go_num, HX.out.1, HX.out.2⟩
          case measure => simp [intOf]; omega
    · have e : j = N := by omega
      have hlt' : decide ((j : Int) < (N : Int)) = false := by simp; omega
      rw [e] at hR
      have hb1 := hl r.gb (.inr (.inr (.inl rfl)))
      have hb2 := hl r.gt (.inr (.inr (.inr rfl)))
      have HUe : Dn wr r res := by rw [← HRES.out]; exact HU.out.setR hR fr
      have be := G2.out.fr fr (fun e => by omega)
      have bt := G4.out.fr fr (fun e => by omega)
      have FFe := FF.out.trans fr (S := r.wr) (fun i hi e => by rcases e with e | e; exact .inr (.inl e); exact .inr (.inr e))
      have e2 := be.cell 0
      have e3 := be.cell 1
      have e4 := be.frozen 0
      have e5 := be.frozen 1
      have y0 := bt.cell 0
      have y1 := bt.cell 1
      simp only [List.getElem?_toArray, List.getElem?_cons_succ, List.getElem?_cons_zero] at e2 e3 y0 y1
      have HF0 := Lib.hid (trap_d be HUe FFe hl (Nat.le_refl _) (.int .i64 c) (.int .u32 a))
      clear be bt HUe FFe e hR
      go_wp2_with fail
      try simp only [Exit.inBlock, Exit.then]
      exact bodyPost_ret (results_c rfl _ _ w.heap.size 63 _ _ rfl HF0.out.1 Try.underlying63 rfl szT) rfl ⟨rfl, HF0.out.2.1, HF0.out.2.2⟩
end Go.Proofs.Ythiephlfhbkcbaa.Mu
namespace Go.Proofs.Ythiephlfhbkcbaa.Mu
open Go.RowKit Fm Nt Rm By Wk Rf
set_option linter.unusedVariables false
set_option linter.unusedSimpArgs false

def TuOk (m : Ms) : Prop := ∀ k, m.n ≤ k → k < 64 → m.tu k = false
theorem tu_putW {m : Ms} (h : TuOk m) (P x : Int) (p0 : 0 ≤ P) : TuOk (m.putW P x) := by
  unfold Ms.putW
  split
  · rename_i hq
    have hq : P + 4 ≤ (m.n : Int) * 64 := by simpa [inB] using hq
    intro k h1 h2
    rw [puts_n] at h1
    rw [puts_tu, h k h1 h2, Bool.false_or]
    unfold hits
    exact decide_eq_false (by rintro ⟨j, h3, h4⟩; omega)
  · exact h
theorem tu_putI {m : Ms} (h : TuOk m) (P x : Int) (p0 : 0 ≤ P) : TuOk (m.putI P x) := by
  unfold Ms.putI
  split
  · rename_i hq
    have hq : P + 1 ≤ (m.n : Int) * 64 := by simpa [inB] using hq
    intro k h1 h2
    show updB m.tu (P.toNat / 64) true k = false
    have h1 : m.n ≤ k := h1
    unfold updB
    rw [if_neg (by omega)]
    exact h k h1 h2
  · exact h
section
variable {u : Us} {s : Sp} {va k n v : Int}
theorem tu_walked (hO : u.Ok) (h : TuOk u.m) (rt va k : Int) (r0 : 0 ≤ rt) (v0 : 0 ≤ va) : TuOk (u.walked rt va k).m := by
  show TuOk (doMs u.m rt va k)
  unfold doMs
  split
  · exact h
  · exact tu_putW h _ _ (hO.at_ rt va r0 v0).1
theorem tu_turned (hO : u.Ok) (h : TuOk u.m) (r0 : 0 ≤ s.rt) (v0 : 0 ≤ va) : TuOk (turnedR u s va k).u.m := by
  unfold turnedR
  split
  · exact h
  · split
    · exact h
    · split
      · exact tu_walked hO h _ _ _ r0 v0
      · exact h
theorem tu_place (hO : u.Ok) (h : TuOk u.m) (r0 : 0 ≤ s.rt) (v0 : 0 ≤ va) : TuOk (placeR u s va k).u.m := by
  unfold placeR
  split
  · exact h
  · split
    · exact tu_turned hO h r0 v0
    · split
      · exact tu_turned hO h r0 v0
      · exact tu_turned hO h r0 v0
theorem tu_sec (hO : u.Ok) (h : TuOk u.m) (r0 : 0 ≤ s.rt) (v0 : 0 ≤ va) : TuOk (secR u s va n k).u.m := by
  unfold secR
  split
  · exact tu_place (hO.place r0 v0) (tu_place hO h r0 v0) r0 (nextP_bd v0).1
  · exact tu_place hO h r0 v0
theorem tu_span (hO : u.Ok) (h : TuOk u.m) (r0 : 0 ≤ s.rt) (v0 : 0 ≤ va) : TuOk (spanR u s va n k).u.m := by
  unfold spanR
  split
  · exact h
  · split
    · exact tu_place hO h r0 v0
    · split
      · exact tu_sec hO h r0 v0
      · split
        · exact tu_sec hO h r0 v0
        · split
          · exact tu_sec hO h r0 v0
          · exact tu_sec hO h r0 v0
theorem tu_stor {m : Ms} (h : TuOk m) (l : List Int) (v : Int) (hl : ∀ p ∈ l, 0 ≤ p) : ∀ r, r ≤ l.length → TuOk (stor m l v r)
  | 0, _ => h
  | r + 1, hr => tu_putI (tu_stor h l v hl r (by omega)) _ _ (hl _ (by rw [List.getD_eq_getElem?_getD, List.getElem?_eq_getElem (by omega : r < l.length)]; exact List.getElem_mem _))
theorem tu_store (hO : u.Ok) (h : TuOk u.m) (r0 : 0 ≤ s.rt) (v0 : 0 ≤ va) (v1 : va ≤ 4294967295) : TuOk (storeU u s va v n).m := tu_stor (tu_span hO h r0 v0) _ _ (fun p hp => (span_in hO r0 v0 v1 p hp).1) _ (Nat.le_refl _)
end
end Go.Proofs.Ythiephlfhbkcbaa.Mu
namespace Go.Proofs.Ythiephlfhbkcbaa.Mu
open Go.RowKit Fm Nt Rm By Wk Rf
set_option linter.unusedVariables false
set_option linter.unusedSimpArgs false
set_option maxHeartbeats 4000000

/-- a unit and the document's, apart, that keep the same -/
structure Duo (w : World) (A : Au) (r : Dr) (u : Us) : Prop where
  U : Un w A u
  D : Dn w r u
  sep : ∀ k, k = A.gU ∨ A.wr k → ¬ r.its k
def DW (A : Au) (r : Dr) (k : Nat) : Prop := A.wr k ∨ r.wr k
theorem Duo.fr0 {w w' : World} {A : Au} {r : Dr} {u : Us} (h : Duo w A r u) (f : Fr (fun _ => False) w w') : Duo w' A r u := ⟨h.U.fr0 f, h.D.fr0 f, h.sep⟩
theorem Duo.lt {w : World} {A : Au} {r : Dr} {u : Us} (h : Duo w A r u) : ∀ k, DW A r k → k < w.heap.size := fun k hk => by
  rcases hk with e | e
  · exact h.U.lt k (.inr e)
  · exact h.D.lt k (Dr.wr_its e)
/-- the unit's side, then the document's -/
theorem Duo.step {w w1 w2 : World} {A : Au} {r : Dr} {u u' : Us} (h : Duo w A r u) (hU : Un w1 A u') (f1 : Fr A.wr w w1) (hD : Dn w2 r u') (f2 : Fr r.wr w1 w2) : Duo w2 A r u' ∧ Fr (DW A r) w w2 :=
  ⟨⟨hU.fr f2 (fun k hk e => h.sep k hk (Dr.wr_its e)), hD, h.sep⟩, (f1.mono (S' := DW A r) (fun k _ e => .inl e)).trans f2 (fun i hi e => .inr e)⟩
theorem Duo.doc {w w1 : World} {A : Au} {r : Dr} {u : Us} (h : Duo w A r u) (f1 : Fr A.wr w w1) : Dn w1 r u := h.D.fr f1 (fun k hk e => h.sep k (.inr e) hk)
theorem drop_t (w : World) (A : Au) (u : Us) (h : Un w A u) (va : Int) (v0 : 0 ≤ va) (v1 : va ≤ 4294967295) : Calls Try.prog 76 #[.pointer (some ⟨A.gU, 0, none⟩), .int .u32 va] w fun e w' => e = .returned (.tuple #[]) ∧ Un w' A ⟨u.m, if (u.l (idx va)).n = va / 64 then Tl.upd u.l (idx va) Tl.noE else u.l⟩ ∧ Fr A.wr w w' := by
  have c0 := h.c1
  have hf := Tl.drop_any w A.gB u.l va v0 v1 (idx va) (idx_eq v0) h.B
  generalize (if (u.l (idx va)).n = va / 64 then Tl.upd u.l (idx va) Tl.noE else u.l) = l' at *
  have Hf := Lib.hid hf
  clear hf
  have H := Lib.hid h
  clear h
  go_enter Try.func76, Try.ntmps76
  go_wp2_with fail
  refine (Hf.out).mono ?_
  rintro e w1 ⟨rfl, hB, f⟩
  have HX := Lib.hid (And.intro (H.out.setB hB f) (f.mono (S' := A.wr) (fun k _ e => .inl e)))
  clear hB f
  go_wp2_with fail
  go_end0
  exact ⟨rfl, HX.out.1, HX.out.2⟩
set_option maxRecDepth 100000 in
theorem do10 (w : World) (A : Au) (r : Dr) (u : Us) (h : Duo w A r u) (kd how n va v rt : Int) (pg su : Bool) (h0 : -9223372036854775808 ≤ n) (h1 : n ≤ 9223372036854775807) (v0 : 0 ≤ va) (v1 : va ≤ 4294967295) (x0 : 0 ≤ v) (x1 : v ≤ 4294967295) (r0 : 0 ≤ rt) (r1 : rt ≤ 4294967295) :
    Calls Try.prog 37 #[.pointer (some ⟨A.gU, 0, none⟩), .pointer (some ⟨r.gR, 0, none⟩), .agg #[.int .i64 kd, .int .i64 how, .int .i64 n, .int .u32 va, .int .u32 v, .bool pg, .bool su], .int .u32 rt] w fun e w' => e = .returned (.bool true) ∧ (∃ u', Duo w' A r u' ∧ (TuOk u.m → TuOk u'.m)) ∧ Fr (DW A r) w w' := by
  have hlt := h.lt
  have f1 : Fr (fun _ => False) w ((w.alloc (.cells #[.int .i64 kd, .int .i64 how, .int .i64 n, .int .u32 va, .int .u32 v, .bool pg, .bool su] 73)).alloc (.cells #[.bool pg, .bool su, .int .u32 rt] 59)) := ((Fr.refl _ w).alloc _).alloc _
  have bX := (Blk.new w 73 #[.int .i64 kd, .int .i64 how, .int .i64 n, .int .u32 va, .int .u32 v, .bool pg, .bool su]).alloc (.cells #[.bool pg, .bool su, .int .u32 rt] 59)
  have bS := Blk.new' (w.alloc (.cells #[.int .i64 kd, .int .i64 how, .int .i64 n, .int .u32 va, .int .u32 v, .bool pg, .bool su] 73)) 59 #[.bool pg, .bool su, .int .u32 rt] (n := w.heap.size + 1) (by simp)
  have h2 := h.fr0 f1
  go_enter Try.func37, Try.ntmps37
  go_upto_region 2 with (fail)
  generalize hw2 : (w.alloc (.cells #[.int .i64 kd, .int .i64 how, .int .i64 n, .int .u32 va, .int .u32 v, .bool pg, .bool su] 73)).alloc (.cells #[.bool pg, .bool su, .int .u32 rt] 59) = w2 at *
  have X0 := bX.cell 0
  have X1 := bX.cell 1
  have X2 := bX.cell 2
  have X3 := bX.cell 3
  have X4 := bX.cell 4
  have X5 := bX.cell 5
  have X6 := bX.cell 6
  have S0 := bS.cell 0
  have S1 := bS.cell 1
  have S2 := bS.cell 2
  simp only [List.getElem?_toArray, List.getElem?_cons_succ, List.getElem?_cons_zero] at X0 X1 X2 X3 X4 X5 X6 S0 S1 S2
  have hs2 : w2.heap.size = w.heap.size + 2 := by rw [← hw2]; simp
  have H2 := Lib.hid h2
  have BX := Lib.hid bX
  have BS := Lib.hid bS
  have F1 := Lib.hid f1
  have HLT := Lib.hid hlt
  clear h h2 bX bS f1 hlt hw2
  by_cases k1 : kd = 1
  · subst k1
    have hO := H2.out.U.ok
    have hp := place_any w2 A u H2.out.U ⟨pg, su, rt⟩ va how r0 r1 v0 v1
    have HR := Lib.hid (fun W (hW : Dn W r u) => rplace_any W r u hW hO ⟨pg, su, rt⟩ va how r0 r1 v0 v1)
    have HT : Hid (TuOk u.m → TuOk (placeR u ⟨pg, su, rt⟩ va how).u.m) := Lib.hid (fun h => tu_place (s := ⟨pg, su, rt⟩) (k := how) hO h r0 v0)
    generalize placeR u ⟨pg, su, rt⟩ va how = x at *
    obtain ⟨p, c, a, u'⟩ := x
    have Hp := Lib.hid hp
    clear hp
    go_wp2_with fail
    refine (Hp.out).mono ?_
    rintro e w3 ⟨rfl, hU3, f3⟩
    dsimp only at hU3 ⊢
    have hD3 := H2.out.doc f3
    have BX3 := BX.out.fr f3 (fun e => by have := HLT.out _ (.inl e); omega)
    have fa : Fr (fun _ => False) w3 (w3.alloc (.cells #[.int .i64 c, .int .u32 a] 63)) := (Fr.refl _ _).alloc _
    have bT := Blk.new w3 63 #[.int .i64 c, .int .u32 a]
    have hs3 := f3.size
    go_upto_region 5 with (fail)
    generalize hw4 : w3.alloc (.cells #[.int .i64 c, .int .u32 a] 63) = w4 at *
    have hs4 : w4.heap.size = w3.heap.size + 1 := by rw [← hw4]; simp
    have BX4 := BX3.fr fa (fun e => e)
    have HU4 := Lib.hid (hU3.fr0 fa)
    have HR4 := Lib.hid (HR.out w4 (hD3.fr0 fa))
    have F4 := Lib.hid (f3.tr fa.none)
    have BT := Lib.hid bT
    clear X0 X1 X2 X3 X4 X5 X6 S0 S1 S2
    have X1 := BX4.cell 1
    have X2 := BX4.cell 2
    have X3 := BX4.cell 3
    have X5 := BX4.cell 5
    have X6 := BX4.cell 6
    simp only [List.getElem?_toArray, List.getElem?_cons_succ, List.getElem?_cons_zero] at X1 X2 X3 X5 X6
    clear hU3 hD3 BX3 BX4 fa bT f3 hw4 HR
    go_wp2_with fail
    refine (HR4.out).mono ?_
    rintro e w5 ⟨rfl, hD5, f5⟩
    dsimp only at hD5 ⊢
    have bT5 := BT.out.fr f5 (fun e => by have := HLT.out _ (.inr e); omega)
    have fb : Fr (fun _ => False) w5 (w5.alloc (.cells #[.int .i64 c, .int .u32 a] 63)) := (Fr.refl _ _).alloc _
    have bV := Blk.new w5 63 #[.int .i64 c, .int .u32 a]
    go_upto_region 6 with (fail)
    generalize hw6 : w5.alloc (.cells #[.int .i64 c, .int .u32 a] 63) = w6 at *
    have bT6 := bT5.fr fb (fun e => e)
    have y0 := bT6.cell 0
    have y1 := bT6.cell 1
    have z0 := bV.cell 0
    have z1 := bV.cell 1
    simp only [List.getElem?_toArray, List.getElem?_cons_succ, List.getElem?_cons_zero] at y0 y1 z0 z1
    have HX := Lib.hid (H2.out.step HU4.out F4.out (hD5.fr0 fb) (f5.tr fb.none))
    clear bT5 bT6 bV hD5 f5 fb hw6
    go_wp2_with fail
    go_ret
    exact ⟨rfl, ⟨_, HX.out.1, HT.out⟩, F1.out.none.tr HX.out.2⟩
  · by_cases k2 : kd = 2
    · subst k2
      have hO := H2.out.U.ok
      have hp := load_any w2 A u H2.out.U ⟨pg, su, rt⟩ va n r0 r1 v0 v1
      have HR := Lib.hid (fun W (hW : Dn W r u) => rload10 W r u hW hO ⟨pg, su, rt⟩ va n r0 r1 v0 v1)
      have HT : Hid (TuOk u.m → TuOk ((⟨loadV u ⟨pg, su, rt⟩ va n, (spanR u ⟨pg, su, rt⟩ va n 2).c, (spanR u ⟨pg, su, rt⟩ va n 2).a, (spanR u ⟨pg, su, rt⟩ va n 2).u⟩ : Pr)).u.m) := Lib.hid (fun h => tu_span (s := ⟨pg, su, rt⟩) (n := n) (k := 2) hO h r0 v0)
      generalize (⟨loadV u ⟨pg, su, rt⟩ va n, (spanR u ⟨pg, su, rt⟩ va n 2).c, (spanR u ⟨pg, su, rt⟩ va n 2).a, (spanR u ⟨pg, su, rt⟩ va n 2).u⟩ : Pr) = x at *
      obtain ⟨p, c, a, u'⟩ := x
      have Hp := Lib.hid hp
      clear hp
      go_wp2_with fail
      refine (Hp.out).mono ?_
      rintro e w3 ⟨rfl, hU3, f3⟩
      dsimp only at hU3 ⊢
      have hD3 := H2.out.doc f3
      have BX3 := BX.out.fr f3 (fun e => by have := HLT.out _ (.inl e); omega)
      have fa : Fr (fun _ => False) w3 (w3.alloc (.cells #[.int .i64 c, .int .u32 a] 63)) := (Fr.refl _ _).alloc _
      have bT := Blk.new w3 63 #[.int .i64 c, .int .u32 a]
      have hs3 := f3.size
      go_upto_region 9 with (fail)
      generalize hw4 : w3.alloc (.cells #[.int .i64 c, .int .u32 a] 63) = w4 at *
      have hs4 : w4.heap.size = w3.heap.size + 1 := by rw [← hw4]; simp
      have BX4 := BX3.fr fa (fun e => e)
      have HU4 := Lib.hid (hU3.fr0 fa)
      have HR4 := Lib.hid (HR.out w4 (hD3.fr0 fa))
      have F4 := Lib.hid (f3.tr fa.none)
      have BT := Lib.hid bT
      clear X0 X1 X2 X3 X4 X5 X6 S0 S1 S2
      have X1 := BX4.cell 1
      have X2 := BX4.cell 2
      have X3 := BX4.cell 3
      have X5 := BX4.cell 5
      have X6 := BX4.cell 6
      simp only [List.getElem?_toArray, List.getElem?_cons_succ, List.getElem?_cons_zero] at X1 X2 X3 X5 X6
      clear hU3 hD3 BX3 BX4 fa bT f3 hw4 HR
      go_wp2_with fail
      refine (HR4.out).mono ?_
      rintro e w5 ⟨rfl, hD5, f5⟩
      dsimp only at hD5 ⊢
      have bT5 := BT.out.fr f5 (fun e => by have := HLT.out _ (.inr e); omega)
      have fb : Fr (fun _ => False) w5 (w5.alloc (.cells #[.int .i64 c, .int .u32 a] 63)) := (Fr.refl _ _).alloc _
      have bV := Blk.new w5 63 #[.int .i64 c, .int .u32 a]
      go_upto_region 10 with (fail)
      generalize hw6 : w5.alloc (.cells #[.int .i64 c, .int .u32 a] 63) = w6 at *
      have bT6 := bT5.fr fb (fun e => e)
      have y0 := bT6.cell 0
      have y1 := bT6.cell 1
      have z0 := bV.cell 0
      have z1 := bV.cell 1
      simp only [List.getElem?_toArray, List.getElem?_cons_succ, List.getElem?_cons_zero] at y0 y1 z0 z1
      have HX := Lib.hid (H2.out.step HU4.out F4.out (hD5.fr0 fb) (f5.tr fb.none))
      clear bT5 bT6 bV hD5 f5 fb hw6
      go_wp2_with fail
      go_ret
      exact ⟨rfl, ⟨_, HX.out.1, HT.out⟩, F1.out.none.tr HX.out.2⟩
    · by_cases k3 : kd = 3
      · subst k3
        have hst := store_any w2 A u H2.out.U ⟨pg, su, rt⟩ va v n r0 r1 v0 v1 x0 x1
        have hO := H2.out.U.ok
        have HSt := Lib.hid (fun W (f : Fr (fun _ => False) w2 W) => store_any W A u (H2.out.U.fr0 f) ⟨pg, su, rt⟩ va v n r0 r1 v0 v1 x0 x1)
        have HRst := Lib.hid (fun W (hW : Dn W r u) => rstore10 W r u hW hO ⟨pg, su, rt⟩ va v n x0 x1 r0 r1 v0 v1)
        have HT := Lib.hid (fun (h : TuOk u.m) => tu_store (s := ⟨pg, su, rt⟩) (v := v) (n := n) hO h r0 v0 v1)
        clear hst
        generalize storeU u ⟨pg, su, rt⟩ va v n = u3 at *
        generalize (spanR u ⟨pg, su, rt⟩ va n 3).c = c at *
        generalize (spanR u ⟨pg, su, rt⟩ va n 3).a = a at *
        have hn1 : ∀ q, w.heap.size ≤ q → ¬ DW A r q := fun q hq e => by have := HLT.out q e; omega
        go_upto_region 12 with (fail)
        refine wp_region_held_drew (S := Fr (DW A r) w2) (by kernel_rfl) ((Fr.refl (DW A r) w2).drew) (fun hH => ?_)
        refine wpAnyH_take (i := 0) (v := ?_) rfl (by kernel_rfl) (by kernel_rfl) (by kernel_rfl) (fun _ _ _ h => h) (Or.inl ⟨by kernel_rfl, ?_⟩) hH ?_
        rotate_left
        · (intro W _; go_simp; try with_reducible rfl)
        refine wpAnyH_take (i := 1) (v := ?_) rfl (by kernel_rfl) (by kernel_rfl) (by kernel_rfl) (fun _ _ _ h => h) (Or.inl ⟨by kernel_rfl, ?_⟩) hH ?_
        rotate_left
        · (intro W hSw; have q2 := hSw.cell X2 (show w.heap.size < w2.heap.size by omega) (hn1 _ (Nat.le_refl _)); have q3 := hSw.cell X3 (show w.heap.size < w2.heap.size by omega) (hn1 _ (Nat.le_refl _)); have q4 := hSw.cell X4 (show w.heap.size < w2.heap.size by omega) (hn1 _ (Nat.le_refl _)); have q5 := hSw.cell X5 (show w.heap.size < w2.heap.size by omega) (hn1 _ (Nat.le_refl _)); have q6 := hSw.cell X6 (show w.heap.size < w2.heap.size by omega) (hn1 _ (Nat.le_refl _)); have p0 := hSw.cell S0 (show w.heap.size + 1 < w2.heap.size by omega) (hn1 _ (Nat.le_succ _)); have p1 := hSw.cell S1 (show w.heap.size + 1 < w2.heap.size by omega) (hn1 _ (Nat.le_succ _)); have p2 := hSw.cell S2 (show w.heap.size + 1 < w2.heap.size by omega) (hn1 _ (Nat.le_succ _)); go_simp; try with_reducible rfl)
        refine wpAnyH_take (i := 2) (v := ?_) rfl (by kernel_rfl) (by kernel_rfl) (by kernel_rfl) (fun _ _ _ h => h) (Or.inl ⟨by kernel_rfl, ?_⟩) hH ?_
        rotate_left
        · (intro W _; go_simp; try with_reducible rfl)
        simp (config := { maxSteps := 2000000 }) only [Act.put, List.getElem_toArray, List.getElem_cons_zero, List.getElem_cons_succ, List.setIfInBounds_toArray, List.set_cons_zero, List.set_cons_succ]
        refine wpAnyH_take (i := 3) (v := ?_) rfl (by kernel_rfl) (by kernel_rfl) (by kernel_rfl) (fun _ _ _ h => h) (Or.inl ⟨by kernel_rfl, ?_⟩) hH ?_
        rotate_left
        · (intro W hSw; have q2 := hSw.cell X2 (show w.heap.size < w2.heap.size by omega) (hn1 _ (Nat.le_refl _)); have q3 := hSw.cell X3 (show w.heap.size < w2.heap.size by omega) (hn1 _ (Nat.le_refl _)); have q4 := hSw.cell X4 (show w.heap.size < w2.heap.size by omega) (hn1 _ (Nat.le_refl _)); have q5 := hSw.cell X5 (show w.heap.size < w2.heap.size by omega) (hn1 _ (Nat.le_refl _)); have q6 := hSw.cell X6 (show w.heap.size < w2.heap.size by omega) (hn1 _ (Nat.le_refl _)); have p0 := hSw.cell S0 (show w.heap.size + 1 < w2.heap.size by omega) (hn1 _ (Nat.le_succ _)); have p1 := hSw.cell S1 (show w.heap.size + 1 < w2.heap.size by omega) (hn1 _ (Nat.le_succ _)); have p2 := hSw.cell S2 (show w.heap.size + 1 < w2.heap.size by omega) (hn1 _ (Nat.le_succ _)); go_simp; try with_reducible rfl)
        refine wpAnyH_take (i := 4) (v := ?_) rfl (by kernel_rfl) (by kernel_rfl) (by kernel_rfl) (fun _ _ _ h => h) (Or.inl ⟨by kernel_rfl, ?_⟩) hH ?_
        rotate_left
        · (intro W _; go_simp; try with_reducible rfl)
        refine wpAnyH_take (i := 5) (v := ?_) rfl (by kernel_rfl) (by kernel_rfl) (by kernel_rfl) (fun _ _ _ h => h) (Or.inl ⟨by kernel_rfl, ?_⟩) hH ?_
        rotate_left
        · (intro W hSw; have q2 := hSw.cell X2 (show w.heap.size < w2.heap.size by omega) (hn1 _ (Nat.le_refl _)); have q3 := hSw.cell X3 (show w.heap.size < w2.heap.size by omega) (hn1 _ (Nat.le_refl _)); have q4 := hSw.cell X4 (show w.heap.size < w2.heap.size by omega) (hn1 _ (Nat.le_refl _)); have q5 := hSw.cell X5 (show w.heap.size < w2.heap.size by omega) (hn1 _ (Nat.le_refl _)); have q6 := hSw.cell X6 (show w.heap.size < w2.heap.size by omega) (hn1 _ (Nat.le_refl _)); have p0 := hSw.cell S0 (show w.heap.size + 1 < w2.heap.size by omega) (hn1 _ (Nat.le_succ _)); have p1 := hSw.cell S1 (show w.heap.size + 1 < w2.heap.size by omega) (hn1 _ (Nat.le_succ _)); have p2 := hSw.cell S2 (show w.heap.size + 1 < w2.heap.size by omega) (hn1 _ (Nat.le_succ _)); go_simp; try with_reducible rfl)
        simp (config := { maxSteps := 2000000 }) only [Act.put, List.getElem_toArray, List.getElem_cons_zero, List.getElem_cons_succ, List.setIfInBounds_toArray, List.set_cons_zero, List.set_cons_succ]
        refine wpAnyH_take (i := 6) (v := ?_) rfl (by kernel_rfl) (by kernel_rfl) (by kernel_rfl) (fun _ _ _ h => h) (Or.inl ⟨by kernel_rfl, ?_⟩) hH ?_
        rotate_left
        · (intro W _; go_simp; try with_reducible rfl)
        refine wpAnyH_take (i := 7) (v := ?_) rfl (by kernel_rfl) (by kernel_rfl) (by kernel_rfl) (fun _ _ _ h => h) (Or.inl ⟨by kernel_rfl, ?_⟩) hH ?_
        rotate_left
        · (intro W hSw; have q2 := hSw.cell X2 (show w.heap.size < w2.heap.size by omega) (hn1 _ (Nat.le_refl _)); have q3 := hSw.cell X3 (show w.heap.size < w2.heap.size by omega) (hn1 _ (Nat.le_refl _)); have q4 := hSw.cell X4 (show w.heap.size < w2.heap.size by omega) (hn1 _ (Nat.le_refl _)); have q5 := hSw.cell X5 (show w.heap.size < w2.heap.size by omega) (hn1 _ (Nat.le_refl _)); have q6 := hSw.cell X6 (show w.heap.size < w2.heap.size by omega) (hn1 _ (Nat.le_refl _)); have p0 := hSw.cell S0 (show w.heap.size + 1 < w2.heap.size by omega) (hn1 _ (Nat.le_succ _)); have p1 := hSw.cell S1 (show w.heap.size + 1 < w2.heap.size by omega) (hn1 _ (Nat.le_succ _)); have p2 := hSw.cell S2 (show w.heap.size + 1 < w2.heap.size by omega) (hn1 _ (Nat.le_succ _)); go_simp; try with_reducible rfl)
        refine wpAnyH_take (i := 9) (v := ?_) rfl (by kernel_rfl) (by kernel_rfl) (by kernel_rfl) (fun _ _ _ h => h) (Or.inl ⟨by kernel_rfl, ?_⟩) hH ?_
        rotate_left
        · (intro W _; go_simp; try with_reducible rfl)
        simp (config := { maxSteps := 2000000 }) only [Act.put, List.getElem_toArray, List.getElem_cons_zero, List.getElem_cons_succ, List.setIfInBounds_toArray, List.set_cons_zero, List.set_cons_succ]
        refine wpAnyH_take (i := 10) (v := ?_) rfl (by kernel_rfl) (by kernel_rfl) (by kernel_rfl) (fun _ _ _ h => h) (Or.inl ⟨by kernel_rfl, ?_⟩) hH ?_
        rotate_left
        · (intro W _; go_simp; try with_reducible rfl)
        refine wpAnyH_take (i := 11) (v := ?_) rfl (by kernel_rfl) (by kernel_rfl) (by kernel_rfl) (fun _ _ _ h => h) (Or.inl ⟨by kernel_rfl, ?_⟩) hH ?_
        rotate_left
        · (intro W hSw; have q2 := hSw.cell X2 (show w.heap.size < w2.heap.size by omega) (hn1 _ (Nat.le_refl _)); have q3 := hSw.cell X3 (show w.heap.size < w2.heap.size by omega) (hn1 _ (Nat.le_refl _)); have q4 := hSw.cell X4 (show w.heap.size < w2.heap.size by omega) (hn1 _ (Nat.le_refl _)); have q5 := hSw.cell X5 (show w.heap.size < w2.heap.size by omega) (hn1 _ (Nat.le_refl _)); have q6 := hSw.cell X6 (show w.heap.size < w2.heap.size by omega) (hn1 _ (Nat.le_refl _)); have p0 := hSw.cell S0 (show w.heap.size + 1 < w2.heap.size by omega) (hn1 _ (Nat.le_succ _)); have p1 := hSw.cell S1 (show w.heap.size + 1 < w2.heap.size by omega) (hn1 _ (Nat.le_succ _)); have p2 := hSw.cell S2 (show w.heap.size + 1 < w2.heap.size by omega) (hn1 _ (Nat.le_succ _)); go_simp; try with_reducible rfl)
        refine wpAnyH_take (i := 12) (v := ?_) rfl (by kernel_rfl) (by kernel_rfl) (by kernel_rfl) (fun _ _ _ h => h) (Or.inl ⟨by kernel_rfl, ?_⟩) hH ?_
        rotate_left
        · (intro W _; go_simp; try with_reducible rfl)
        simp (config := { maxSteps := 2000000 }) only [Act.put, List.getElem_toArray, List.getElem_cons_zero, List.getElem_cons_succ, List.setIfInBounds_toArray, List.set_cons_zero, List.set_cons_succ]
        refine wpAnyH_take (i := 13) (v := ?_) rfl (by kernel_rfl) (by kernel_rfl) (by kernel_rfl) (fun _ _ _ h => h) (Or.inl ⟨by kernel_rfl, ?_⟩) hH ?_
        rotate_left
        · (intro W hSw; have q2 := hSw.cell X2 (show w.heap.size < w2.heap.size by omega) (hn1 _ (Nat.le_refl _)); have q3 := hSw.cell X3 (show w.heap.size < w2.heap.size by omega) (hn1 _ (Nat.le_refl _)); have q4 := hSw.cell X4 (show w.heap.size < w2.heap.size by omega) (hn1 _ (Nat.le_refl _)); have q5 := hSw.cell X5 (show w.heap.size < w2.heap.size by omega) (hn1 _ (Nat.le_refl _)); have q6 := hSw.cell X6 (show w.heap.size < w2.heap.size by omega) (hn1 _ (Nat.le_refl _)); have p0 := hSw.cell S0 (show w.heap.size + 1 < w2.heap.size by omega) (hn1 _ (Nat.le_succ _)); have p1 := hSw.cell S1 (show w.heap.size + 1 < w2.heap.size by omega) (hn1 _ (Nat.le_succ _)); have p2 := hSw.cell S2 (show w.heap.size + 1 < w2.heap.size by omega) (hn1 _ (Nat.le_succ _)); go_simp; try with_reducible rfl)
        refine wpAnyH_take (i := 14) (v := ?_) rfl (by kernel_rfl) (by kernel_rfl) (by kernel_rfl) (fun _ _ _ h => h) (Or.inl ⟨by kernel_rfl, ?_⟩) hH ?_
        rotate_left
        · (intro W _; go_simp; try with_reducible rfl)
        refine wpAnyH_take (i := 15) (v := ?_) rfl (by kernel_rfl) (by kernel_rfl) (by kernel_rfl) (fun _ _ _ h => h) (Or.inl ⟨by kernel_rfl, ?_⟩) hH ?_
        rotate_left
        · (intro W _; go_simp; try with_reducible rfl)
        simp (config := { maxSteps := 2000000 }) only [Act.put, List.getElem_toArray, List.getElem_cons_zero, List.getElem_cons_succ, List.setIfInBounds_toArray, List.set_cons_zero, List.set_cons_succ]
        refine wpAnyH_take (i := 16) (v := ?_) rfl (by kernel_rfl) (by kernel_rfl) (by kernel_rfl) (fun _ _ _ h => h) (Or.inl ⟨by kernel_rfl, ?_⟩) hH ?_
        rotate_left
        · (intro W hSw; have q2 := hSw.cell X2 (show w.heap.size < w2.heap.size by omega) (hn1 _ (Nat.le_refl _)); have q3 := hSw.cell X3 (show w.heap.size < w2.heap.size by omega) (hn1 _ (Nat.le_refl _)); have q4 := hSw.cell X4 (show w.heap.size < w2.heap.size by omega) (hn1 _ (Nat.le_refl _)); have q5 := hSw.cell X5 (show w.heap.size < w2.heap.size by omega) (hn1 _ (Nat.le_refl _)); have q6 := hSw.cell X6 (show w.heap.size < w2.heap.size by omega) (hn1 _ (Nat.le_refl _)); have p0 := hSw.cell S0 (show w.heap.size + 1 < w2.heap.size by omega) (hn1 _ (Nat.le_succ _)); have p1 := hSw.cell S1 (show w.heap.size + 1 < w2.heap.size by omega) (hn1 _ (Nat.le_succ _)); have p2 := hSw.cell S2 (show w.heap.size + 1 < w2.heap.size by omega) (hn1 _ (Nat.le_succ _)); go_simp; try with_reducible rfl)
        refine wpAnyH_take (i := 17) (v := ?_) rfl (by kernel_rfl) (by kernel_rfl) (by kernel_rfl) (fun _ _ _ h => h) (Or.inl ⟨by kernel_rfl, ?_⟩) hH ?_
        rotate_left
        · (intro W _; go_simp; try with_reducible rfl)
        refine wpAnyH_take (i := 18) (v := ?_) rfl (by kernel_rfl) (by kernel_rfl) (by kernel_rfl) (fun _ _ _ h => h) (Or.inl ⟨by kernel_rfl, ?_⟩) hH ?_
        rotate_left
        · (intro W hSw; have q2 := hSw.cell X2 (show w.heap.size < w2.heap.size by omega) (hn1 _ (Nat.le_refl _)); have q3 := hSw.cell X3 (show w.heap.size < w2.heap.size by omega) (hn1 _ (Nat.le_refl _)); have q4 := hSw.cell X4 (show w.heap.size < w2.heap.size by omega) (hn1 _ (Nat.le_refl _)); have q5 := hSw.cell X5 (show w.heap.size < w2.heap.size by omega) (hn1 _ (Nat.le_refl _)); have q6 := hSw.cell X6 (show w.heap.size < w2.heap.size by omega) (hn1 _ (Nat.le_refl _)); have p0 := hSw.cell S0 (show w.heap.size + 1 < w2.heap.size by omega) (hn1 _ (Nat.le_succ _)); have p1 := hSw.cell S1 (show w.heap.size + 1 < w2.heap.size by omega) (hn1 _ (Nat.le_succ _)); have p2 := hSw.cell S2 (show w.heap.size + 1 < w2.heap.size by omega) (hn1 _ (Nat.le_succ _)); go_simp; try with_reducible rfl)
        simp (config := { maxSteps := 2000000 }) only [Act.put, List.getElem_toArray, List.getElem_cons_zero, List.getElem_cons_succ, List.setIfInBounds_toArray, List.set_cons_zero, List.set_cons_succ]
        refine wpAnyH_take (i := 19) (v := ?_) rfl (by kernel_rfl) (by kernel_rfl) (by kernel_rfl) (fun _ _ _ h => h) (Or.inl ⟨by kernel_rfl, ?_⟩) hH ?_
        rotate_left
        · (intro W _; go_simp; try with_reducible rfl)
        refine wpAnyH_take (i := 20) (v := ?_) rfl (by kernel_rfl) (by kernel_rfl) (by kernel_rfl) (fun _ _ _ h => h) (Or.inl ⟨by kernel_rfl, ?_⟩) hH ?_
        rotate_left
        · (intro W hSw; have q2 := hSw.cell X2 (show w.heap.size < w2.heap.size by omega) (hn1 _ (Nat.le_refl _)); have q3 := hSw.cell X3 (show w.heap.size < w2.heap.size by omega) (hn1 _ (Nat.le_refl _)); have q4 := hSw.cell X4 (show w.heap.size < w2.heap.size by omega) (hn1 _ (Nat.le_refl _)); have q5 := hSw.cell X5 (show w.heap.size < w2.heap.size by omega) (hn1 _ (Nat.le_refl _)); have q6 := hSw.cell X6 (show w.heap.size < w2.heap.size by omega) (hn1 _ (Nat.le_refl _)); have p0 := hSw.cell S0 (show w.heap.size + 1 < w2.heap.size by omega) (hn1 _ (Nat.le_succ _)); have p1 := hSw.cell S1 (show w.heap.size + 1 < w2.heap.size by omega) (hn1 _ (Nat.le_succ _)); have p2 := hSw.cell S2 (show w.heap.size + 1 < w2.heap.size by omega) (hn1 _ (Nat.le_succ _)); go_simp; try with_reducible rfl)
        simp (config := { maxSteps := 2000000 }) only [Act.put, List.getElem_toArray, List.getElem_cons_zero, List.getElem_cons_succ, List.setIfInBounds_toArray, List.set_cons_zero, List.set_cons_succ]
        refine wpAnyH_ready (rs := [8]) (by kernel_rfl) (by simp) ?_
        refine AllReadyH.cons rfl (fun K hK => ?_) ?_
        · go_simp
          go_wp2_with (refine (HSt.out w2.drew (Fr.refl (fun _ => False) w2).drew).mono ?_; rintro e w3 ⟨rfl, hU3, f3⟩; have f23 : Fr A.wr w2 w3 := (Fr.refl A.wr w2).drew.tr f3; have HU3 := Lib.hid hU3; have HR3 := Lib.hid (HRst.out w3 (H2.out.doc f23)); have F3 := Lib.hid f23; clear hU3)
          refine hK.out _ _ ?_ (fun hH => ?_)
          · exact F3.out.mono (fun k _ e => .inl e)
          clear hK K
          refine wpAnyH_ready (rs := [21]) (by kernel_rfl) (by simp) ?_
          refine AllReadyH.cons rfl (fun K hK => ?_) ?_
          · go_simp
            go_wp2_with (refine (HR3.out).mono ?_; rintro e w5 ⟨rfl, hD5, f5⟩; have HX := Lib.hid (H2.out.step HU3.out F3.out hD5 f5); clear hD5)
            refine hK.out _ _ ?_ (fun hH => ?_)
            · exact HX.out.2
            clear hK K
            refine wpAnyH_take (i := 22) (v := ?_) rfl (by kernel_rfl) (by kernel_rfl) (by kernel_rfl) (fun _ _ _ h => h) (Or.inl ⟨by kernel_rfl, ?_⟩) hH ?_
            rotate_left
            · (intro W _; go_simp; try with_reducible rfl)
            refine wpAnyH_take (i := 23) (v := ?_) rfl (by kernel_rfl) (by kernel_rfl) (by kernel_rfl) (fun _ _ _ h => h) (Or.inl ⟨by kernel_rfl, ?_⟩) hH ?_
            rotate_left
            · (intro W _; go_simp; try with_reducible rfl)
            refine wpAnyH_done (by kernel_rfl) ?_ _
            go_wp2_with fail
            go_ret
            exact ⟨rfl, ⟨_, HX.out.1, HT.out⟩, F1.out.none.tr HX.out.2⟩
          exact AllReadyH.nil
        exact AllReadyH.nil
      · by_cases k4 : kd = 4
        · subst k4
          have Hd := Lib.hid (drop_t w2 A u H2.out.U va v0 v1)
          go_wp2_with fail
          refine (Hd.out).mono ?_
          rintro e w3 ⟨rfl, hU3, f3⟩
          have hD3 := H2.out.doc f3
          have BX3 := BX.out.fr f3 (fun e => by have := HLT.out _ (.inl e); omega)
          have X3 := BX3.cell 3
          simp only [List.getElem?_toArray, List.getElem?_cons_succ, List.getElem?_cons_zero] at X3
          have Hr := Lib.hid (Tl.uDrop_any w3 r.gR (some ⟨r.gM, 0, none⟩) u.l va v0 v1 (idx va) (idx_eq v0) hD3.U)
          have HU3 := Lib.hid hU3
          have HD3 := Lib.hid hD3
          have F3 := Lib.hid f3
          clear hU3 hD3 f3 BX3
          go_wp2_with fail
          refine (Hr.out).mono ?_
          rintro e w4 ⟨rfl, hL, f4⟩
          have HX := Lib.hid (H2.out.step HU3.out F3.out (HD3.out.setL hL f4) (f4.mono (fun k _ e => .inl e)))
          clear hL f4
          go_wp2_with fail
          go_ret
          exact ⟨rfl, ⟨_, HX.out.1, fun h => h⟩, F1.out.none.tr HX.out.2⟩
        · by_cases k5 : kd = 5
          · subst k5
            have Hd := Lib.hid (flush_t w2 A u H2.out.U)
            go_wp2_with fail
            refine (Hd.out).mono ?_
            rintro e w3 ⟨rfl, hU3, f3⟩
            have hD3 := H2.out.doc f3
            have Hr := Lib.hid (Tl.uFlush_any w3 r.gR (some ⟨r.gM, 0, none⟩) u.l hD3.U)
            have HU3 := Lib.hid hU3
            have HD3 := Lib.hid hD3
            have F3 := Lib.hid f3
            clear hU3 hD3 f3
            go_wp2_with fail
            refine (Hr.out).mono ?_
            rintro e w4 ⟨rfl, hL, f4⟩
            have HX := Lib.hid (H2.out.step HU3.out F3.out (HD3.out.setL hL f4) (f4.mono (fun k _ e => .inl e)))
            clear hL f4
            go_wp2_with fail
            go_ret
            exact ⟨rfl, ⟨_, HX.out.1, fun h => h⟩, F1.out.none.tr HX.out.2⟩
          · have t1 : (kd == 1) = false := by simpa using k1
            have t2 : (kd == 2) = false := by simpa using k2
            have t3 : (kd == 3) = false := by simpa using k3
            have t4 : (kd == 4) = false := by simpa using k4
            have t5 : (kd == 5) = false := by simpa using k5
            clear k1 k2 k3 k4 k5
            go_wp2_with fail
            go_ret
            exact ⟨rfl, ⟨u, H2.out, fun h => h⟩, F1.out.none⟩
end Go.Proofs.Ythiephlfhbkcbaa.Mu
namespace Go.Proofs.Ythiephlfhbkcbaa.Mu
open Go.RowKit Fm Nt Rm By Wk Rf
set_option linter.unusedVariables false
set_option linter.unusedSimpArgs false
set_option maxHeartbeats 4000000

theorem wpAnyH_mono {P : Program} {ops : Array Oper} {Q : Exit → Act → World → Prop} {md : Region.Mode} {S S' : World → Prop} (hS : ∀ w, S' w → S w) :
    ∀ (fuel : Nat) (listed : Array Bool) (a : Act) (w : World), wpAnyH P md ops Q S' fuel listed a w → wpAnyH P md ops Q S fuel listed a w
  | 0, _, _, _, h => h
  | fuel + 1, _, _, _, h => ⟨h.1, fun i hi => wpOp_mono (fun a' w' h' => ⟨hS w' h'.1, wpAnyH_mono hS fuel _ a' w' h'.2⟩) (h.2 i hi)⟩
theorem buffer_t (w : World) (A : Au) (u : Us) (h : Un w A u) : Calls Try.prog 34 #[.pointer (some ⟨A.gU, 0, none⟩)] w fun e w' => e = .returned (.pointer (some ⟨A.gB, 0, none⟩)) ∧ w = w' := by
  have c0 := h.c1
  go_enter Try.func34, Try.ntmps34
  go_wp2_with fail
  go_ret
  exact ⟨rfl, rfl⟩
theorem turnN_end10 (m : Ms) (h : TuOk m) : ∀ j, m.n ≤ j → j ≤ 64 → turnN m j = turnN m m.n := by
  intro j
  induction j with
  | zero => intro h0 _; rw [show m.n = 0 by omega]
  | succ j ih =>
    intro h0 h1
    by_cases e : m.n = j + 1
    · rw [e]
    · rw [turnN_no m j (h j (by omega) (by omega)), ih (by omega) (by omega)]
theorem turnN_wf10 (m : Ms) (k : Nat) (hk : k ≤ 64) : ∀ z ∈ turnN m k, (Lit.int .i64 z).wf = true := by
  intro z hz
  simp only [turnN, List.mem_map, List.mem_filter, List.mem_range] at hz
  obtain ⟨y, ⟨h1, _⟩, rfl⟩ := hz
  exact wf_i64_mk (n := Int.ofNat y) (by show -9223372036854775808 ≤ (y : Int); omega) (by show (y : Int) ≤ 9223372036854775807; omega)
set_option maxRecDepth 100000 in
theorem alike10 (w : World) (A : Au) (r : Dr) (u : Us) (h : Duo w A r u) (htu : TuOk u.m) :
    Calls Try.prog 38 #[.pointer (some ⟨A.gU, 0, none⟩), .pointer (some ⟨r.gR, 0, none⟩)] w fun e w' => e = .returned (.bool true) ∧ Fr (fun _ => False) w w' := by
  have hn := h.U.M.n0
  have Hm := Lib.hid (memory_t w A u h.U)
  have Hb := Lib.hid (buffer_t w A u h.U)
  have HA := Lib.hid (fun W (f : Fr (fun _ => False) w W) => all_t W A u (h.U.fr0 f))
  have hM0 := h.D.R.b.cell 0
  simp only [List.getElem?_toArray, List.getElem?_cons_zero] at hM0
  have hMl := h.D.R.b.lt
  have c0 := h.D.c0
  have hRl := h.D.U.lt
  have I4 := Lib.hid ((cells_ints h.D.R.cb h.U.M.bd).more h.D.R.cb.lt)
  have Hq : Hid (∀ W B A n c, IntsAt .u8 W B A n (lst u.m.mem (u.m.n * 64)) → (convert 24 9 (.slice A n c)).run Try.prog W = .ok (.string (str (lst u.m.mem (u.m.n * 64)))) W) := Lib.hid (fun W B A n c h => str_of_ints h)
  have hend := Lib.hid (turnN_end10 u.m htu 64 (by omega) (by omega))
  have Hwl := Lib.hid (turnN_wf10 u.m 64 (by omega))
  have hln := turnN_le u.m 64
  have H := Lib.hid h
  clear h htu
  generalize str (lst u.m.mem (u.m.n * 64)) = q1 at *
  obtain ⟨NN, hNN⟩ : ∃ q, u.m.n * 64 = q := ⟨_, rfl⟩
  rw [hNN] at hM0 I4 Hq
  have HA2 : Hid (∀ W, Fr (fun _ => False) w W → Calls Try.prog 27 #[.pointer (some ⟨A.am.gm, 0, none⟩)] W fun e w' => ∃ g, e = .returned (.slice (some ⟨g, 0, none⟩) NN NN) ∧ IntsAt .u8 w' w'.heap.size (some ⟨g, 0, none⟩) NN (lst u.m.mem NN) ∧ Fr (fun _ => False) W w') := Lib.hid (by have := HA.out; rw [hNN] at this; exact this)
  clear HA hNN
  go_enter Try.func38, Try.ntmps38
  go_wp2_with fail
  refine (Hm.out).mono ?_
  rintro e w' ⟨rfl, rfl⟩
  go_wp2_with fail
  refine (Hb.out).mono ?_
  rintro e w' ⟨rfl, rfl⟩
  go_upto_region 2 with (fail)
  go_cut [31] (fun v wx => v = .bool false ∧ Fr (fun _ => False) w wx)
  case first =>
    refine wp_region_held_drew (S := Fr (fun _ => False) w) (by kernel_rfl) ((Fr.refl (fun _ => False) w).drew) (fun hH => ?_)
    refine wpAnyH_take (i := 0) (v := ?_) rfl (by kernel_rfl) (by kernel_rfl) (by kernel_rfl) (fun _ _ _ h => h) (Or.inl ⟨by kernel_rfl, ?_⟩) hH ?_
    rotate_left
    · (intro W _; go_simp; try with_reducible rfl)
    refine wpAnyH_take (i := 1) (v := ?_) rfl (by kernel_rfl) (by kernel_rfl) (by kernel_rfl) (fun _ _ _ h => h) (Or.inl ⟨by kernel_rfl, ?_⟩) hH ?_
    rotate_left
    · (intro W _; go_simp; try with_reducible rfl)
    refine wpAnyH_take (i := 2) (v := ?_) rfl (by kernel_rfl) (by kernel_rfl) (by kernel_rfl) (fun _ _ _ h => h) (Or.inl ⟨by kernel_rfl, ?_⟩) hH ?_
    rotate_left
    · (intro W _; go_simp; try with_reducible rfl)
    simp (config := { maxSteps := 2000000 }) only [Act.put, List.getElem_toArray, List.getElem_cons_zero, List.getElem_cons_succ, List.setIfInBounds_toArray, List.set_cons_zero, List.set_cons_succ]
    refine wpAnyH_take (i := 3) (v := ?_) rfl (by kernel_rfl) (by kernel_rfl) (by kernel_rfl) (fun _ _ _ h => h) (Or.inl ⟨by kernel_rfl, ?_⟩) hH ?_
    rotate_left
    · (intro W _; go_simp; try with_reducible rfl)
    refine wpAnyH_take (i := 4) (v := ?_) rfl (by kernel_rfl) (by kernel_rfl) (by kernel_rfl) (fun _ _ _ h => h) (Or.inl ⟨by kernel_rfl, ?_⟩) hH ?_
    rotate_left
    · (intro W _; go_simp; try with_reducible rfl)
    refine wpAnyH_take (i := 5) (v := ?_) rfl (by kernel_rfl) (by kernel_rfl) (by kernel_rfl) (fun _ _ _ h => h) (Or.inl ⟨by kernel_rfl, ?_⟩) hH ?_
    rotate_left
    · (intro W _; go_simp; try with_reducible rfl)
    simp (config := { maxSteps := 2000000 }) only [Act.put, List.getElem_toArray, List.getElem_cons_zero, List.getElem_cons_succ, List.setIfInBounds_toArray, List.set_cons_zero, List.set_cons_succ]
    refine wpAnyH_take (i := 6) (v := ?_) rfl (by kernel_rfl) (by kernel_rfl) (by kernel_rfl) (fun _ _ _ h => h) (Or.inl ⟨by kernel_rfl, ?_⟩) hH ?_
    rotate_left
    · (intro W _; go_simp; try with_reducible rfl)
    refine wpAnyH_take (i := 7) (v := ?_) rfl (by kernel_rfl) (by kernel_rfl) (by kernel_rfl) (fun _ _ _ h => h) (Or.inl ⟨by kernel_rfl, ?_⟩) hH ?_
    rotate_left
    · (intro W _; go_simp; try with_reducible rfl)
    refine wpAnyH_take (i := 10) (v := ?_) rfl (by kernel_rfl) (by kernel_rfl) (by kernel_rfl) (fun _ _ _ h => h) (Or.inl ⟨by kernel_rfl, ?_⟩) hH ?_
    rotate_left
    · (intro W _; go_simp; try with_reducible rfl)
    simp (config := { maxSteps := 2000000 }) only [Act.put, List.getElem_toArray, List.getElem_cons_zero, List.getElem_cons_succ, List.setIfInBounds_toArray, List.set_cons_zero, List.set_cons_succ]
    refine wpAnyH_take (i := 11) (v := ?_) rfl (by kernel_rfl) (by kernel_rfl) (by kernel_rfl) (fun _ _ _ h => h) (Or.inl ⟨by kernel_rfl, ?_⟩) hH ?_
    rotate_left
    · (intro W _; go_simp; try with_reducible rfl)
    refine wpAnyH_take (i := 12) (v := ?_) rfl (by kernel_rfl) (by kernel_rfl) (by kernel_rfl) (fun _ _ _ h => h) (Or.inl ⟨by kernel_rfl, ?_⟩) hH ?_
    rotate_left
    · (intro W _; go_simp; try with_reducible rfl)
    refine wpAnyH_take (i := 13) (v := ?_) rfl (by kernel_rfl) (by kernel_rfl) (by kernel_rfl) (fun _ _ _ h => h) (Or.inl ⟨by kernel_rfl, ?_⟩) hH ?_
    rotate_left
    · (intro W hSw; have k0 := hSw.cell c0 hRl (fun e => e); have k1 := hSw.cell hM0 hMl (fun e => e); have l4 := Hq.out W _ _ NN NN (I4.out.fr hSw (Nat.le_refl _) (fun _ _ e => e)); go_simp; try with_reducible rfl)
    simp (config := { maxSteps := 2000000 }) only [Act.put, List.getElem_toArray, List.getElem_cons_zero, List.getElem_cons_succ, List.setIfInBounds_toArray, List.set_cons_zero, List.set_cons_succ]
    refine wpAnyH_take (i := 14) (v := ?_) rfl (by kernel_rfl) (by kernel_rfl) (by kernel_rfl) (fun _ _ _ h => h) (Or.inl ⟨by kernel_rfl, ?_⟩) hH ?_
    rotate_left
    · (intro W _; go_simp; try with_reducible rfl)
    refine wpAnyH_take (i := 15) (v := ?_) rfl (by kernel_rfl) (by kernel_rfl) (by kernel_rfl) (fun _ _ _ h => h) (Or.inl ⟨by kernel_rfl, ?_⟩) hH ?_
    rotate_left
    · (intro W _; go_simp; try with_reducible rfl)
    refine wpAnyH_take (i := 16) (v := ?_) rfl (by kernel_rfl) (by kernel_rfl) (by kernel_rfl) (fun _ _ _ h => h) (Or.inl ⟨by kernel_rfl, ?_⟩) hH ?_
    rotate_left
    · (intro W hSw; have k0 := hSw.cell c0 hRl (fun e => e); have k1 := hSw.cell hM0 hMl (fun e => e); have l4 := Hq.out W _ _ NN NN (I4.out.fr hSw (Nat.le_refl _) (fun _ _ e => e)); go_simp; try with_reducible rfl)
    simp (config := { maxSteps := 2000000 }) only [Act.put, List.getElem_toArray, List.getElem_cons_zero, List.getElem_cons_succ, List.setIfInBounds_toArray, List.set_cons_zero, List.set_cons_succ]
    refine wpAnyH_take (i := 17) (v := ?_) rfl (by kernel_rfl) (by kernel_rfl) (by kernel_rfl) (fun _ _ _ h => h) (Or.inl ⟨by kernel_rfl, ?_⟩) hH ?_
    rotate_left
    · (intro W hSw; have k0 := hSw.cell c0 hRl (fun e => e); have k1 := hSw.cell hM0 hMl (fun e => e); have l4 := Hq.out W _ _ NN NN (I4.out.fr hSw (Nat.le_refl _) (fun _ _ e => e)); go_simp; try with_reducible rfl)
    simp (config := { maxSteps := 2000000 }) only [Act.put, List.getElem_toArray, List.getElem_cons_zero, List.getElem_cons_succ, List.setIfInBounds_toArray, List.set_cons_zero, List.set_cons_succ]
    refine wpAnyH_ready (rs := [8]) (by kernel_rfl) (by simp) ?_
    refine AllReadyH.cons rfl (fun K hK => ?_) ?_
    · go_simp
      go_wp2_with (refine (HA2.out _ hH).mono ?_; rintro e w3 ⟨g3, rfl, i3, f3⟩; have R3 := Lib.hid i3; clear i3)
      refine hK.out _ _ ?_ (fun hH => ?_)
      · exact hH.tr f3
      clear hK K
      have F3 := Lib.hid hH
      refine wpAnyH_mono (S' := Fr (fun _ => False) w3) (fun w h => hH.tr h) _ _ _ _ ?_
      clear hH
      have hH := Fr.refl (fun _ => False) w3
      refine wpAnyH_take (i := 9) (v := ?_) rfl (by kernel_rfl) (by kernel_rfl) (by kernel_rfl) (fun _ _ _ h => h) (Or.inl ⟨by kernel_rfl, ?_⟩) hH ?_
      rotate_left
      · (intro W hS3; have hSw := F3.out.tr hS3; have k0 := hSw.cell c0 hRl (fun e => e); have k1 := hSw.cell hM0 hMl (fun e => e); have l4 := Hq.out W _ _ NN NN (I4.out.fr hSw (Nat.le_refl _) (fun _ _ e => e)); have r3 := Hq.out W _ _ NN NN (R3.out.fr hS3 (Nat.le_refl _) (fun _ _ e => e)); go_simp; try with_reducible rfl)
      refine wpAnyH_take (i := 18) (v := ?_) rfl (by kernel_rfl) (by kernel_rfl) (by kernel_rfl) (fun _ _ _ h => h) (Or.inl ⟨by kernel_rfl, ?_⟩) hH ?_
      rotate_left
      · (intro W _; go_simp; try with_reducible rfl)
      refine wpAnyH_take (i := 19) (v := ?_) rfl (by kernel_rfl) (by kernel_rfl) (by kernel_rfl) (fun _ _ _ h => h) (Or.inl ⟨by kernel_rfl, ?_⟩) hH ?_
      rotate_left
      · (intro W _; go_simp; try with_reducible rfl)
      simp (config := { maxSteps := 2000000 }) only [Act.put, List.getElem_toArray, List.getElem_cons_zero, List.getElem_cons_succ, List.setIfInBounds_toArray, List.set_cons_zero, List.set_cons_succ]
      refine wpAnyH_done (by kernel_rfl) ?_ _
      go_wp2_with fail
      go_meet
      exact ⟨by first | rfl | kernel_rfl, F3.out⟩
    exact AllReadyH.nil
  case rest =>
    obtain ⟨rfl, f2⟩ := hcut
    have H2 := Lib.hid (H.out.fr0 f2)
    have HF := Lib.hid f2
    clear c0 hM0 hMl hRl I4 f2 Hm Hb
    go_wp2_with fail
    go_loopw [7] (fun i wr => ∃ k : Nat, k ≤ 16 ∧ i = .int .i64 k ∧ Fr (fun _ => False) wc wr) (fun i _ => 16 - (intOf i).toNat)
    case atStart => exact ⟨0, by omega, rfl, Fr.refl _ _⟩
    case round =>
      obtain ⟨k, hk, rfl, fr⟩ := hrel
      obtain ⟨wo, rfl⟩ : ∃ wo : World, wo = wr := ⟨_, rfl⟩
      have Ho := H2.out.fr0 fr
      by_cases hlt : k < 16
      · have hki : (k : Int) < 16 := by omega
        have hk0 : (0 : Int) ≤ (k : Int) := by omega
        obtain ⟨i0, i1, i2, i3⟩ := Ho.D.U.ent k hlt
        have hRl := Ho.D.U.lt
        have Hat := Lib.hid (fun W (f : Fr (fun _ => False) wo W) => Tl.at_any W A.gB u.l k hlt (Ho.fr0 f).U.B)
        have HFr := Lib.hid fr
        clear fr Ho
        generalize u.l k = en at *
        go_upto_region 7 with (fail)
        go_cut [45] (fun v wx => v = .bool false ∧ Fr (fun _ => False) wo wx)
        case first =>
          refine wp_region_held_drew (S := Fr (fun _ => False) wo) (by kernel_rfl) ((Fr.refl (fun _ => False) wo).drew) (fun hH => ?_)
          refine wpAnyH_take (i := 0) (v := ?_) rfl (by kernel_rfl) (by kernel_rfl) (by kernel_rfl) (fun _ _ _ h => h) (Or.inl ⟨by kernel_rfl, ?_⟩) hH ?_
          rotate_left
          · (intro W _; go_simp; try with_reducible rfl)
          refine wpAnyH_take (i := 1) (v := ?_) rfl (by kernel_rfl) (by kernel_rfl) (by kernel_rfl) (fun _ _ _ h => h) (Or.inl ⟨by kernel_rfl, ?_⟩) hH ?_
          rotate_left
          · (intro W _; go_simp; try with_reducible rfl)
          refine wpAnyH_take (i := 3) (v := ?_) rfl (by kernel_rfl) (by kernel_rfl) (by kernel_rfl) (fun _ _ _ h => h) (Or.inl ⟨by kernel_rfl, ?_⟩) hH ?_
          rotate_left
          · (intro W _; go_simp; try with_reducible rfl)
          simp (config := { maxSteps := 2000000 }) only [Act.put, List.getElem_toArray, List.getElem_cons_zero, List.getElem_cons_succ, List.setIfInBounds_toArray, List.set_cons_zero, List.set_cons_succ]
          refine wpAnyH_take (i := 4) (v := ?_) rfl (by kernel_rfl) (by kernel_rfl) (by kernel_rfl) (fun _ _ _ h => h) (Or.inl ⟨by kernel_rfl, ?_⟩) hH ?_
          rotate_left
          · (intro W _; go_simp; try with_reducible rfl)
          refine wpAnyH_take (i := 5) (v := ?_) rfl (by kernel_rfl) (by kernel_rfl) (by kernel_rfl) (fun _ _ _ h => h) (Or.inl ⟨by kernel_rfl, ?_⟩) hH ?_
          rotate_left
          · (intro W _; go_simp; try with_reducible rfl)
          refine wpAnyH_take (i := 6) (v := ?_) rfl (by kernel_rfl) (by kernel_rfl) (by kernel_rfl) (fun _ _ _ h => h) (Or.inl ⟨by kernel_rfl, ?_⟩) hH ?_
          rotate_left
          · (intro W _; go_simp; try with_reducible rfl)
          simp (config := { maxSteps := 2000000 }) only [Act.put, List.getElem_toArray, List.getElem_cons_zero, List.getElem_cons_succ, List.setIfInBounds_toArray, List.set_cons_zero, List.set_cons_succ]
          refine wpAnyH_take (i := 7) (v := ?_) rfl (by kernel_rfl) (by kernel_rfl) (by kernel_rfl) (fun _ _ _ h => h) (Or.inl ⟨by kernel_rfl, ?_⟩) hH ?_
          rotate_left
          · (intro W _; go_simp; try with_reducible rfl)
          refine wpAnyH_take (i := 8) (v := ?_) rfl (by kernel_rfl) (by kernel_rfl) (by kernel_rfl) (fun _ _ _ h => h) (Or.inl ⟨by kernel_rfl, ?_⟩) hH ?_
          rotate_left
          · (intro W hSw; have k0 := hSw.cell i0 hRl (fun e => e); have k1 := hSw.cell i1 hRl (fun e => e); have k2 := hSw.cell i2 hRl (fun e => e); have k3 := hSw.cell i3 hRl (fun e => e); go_simp; try with_reducible rfl)
          simp (config := { maxSteps := 2000000 }) only [Act.put, List.getElem_toArray, List.getElem_cons_zero, List.getElem_cons_succ, List.setIfInBounds_toArray, List.set_cons_zero, List.set_cons_succ]
          refine wpAnyH_ready (rs := [2]) (by kernel_rfl) (by simp) ?_
          refine AllReadyH.cons rfl (fun K hK => ?_) ?_
          · go_simp
            go_wp2_with (refine (Hat.out _ hH).mono ?_; rintro e w3 ⟨rfl, f3⟩)
            refine hK.out _ _ ?_ (fun hH => ?_)
            · exact hH.tr f3
            clear hK K
            refine wpAnyH_take (i := 9) (v := ?_) rfl (by kernel_rfl) (by kernel_rfl) (by kernel_rfl) (fun _ _ _ h => h) (Or.inl ⟨by kernel_rfl, ?_⟩) hH ?_
            rotate_left
            · (intro W _; go_simp; try with_reducible rfl)
            refine wpAnyH_done (by kernel_rfl) ?_ _
            go_wp2_with fail
            go_meet
            exact ⟨by first | rfl | kernel_rfl, hH⟩
          exact AllReadyH.nil
        case rest =>
          obtain ⟨rfl, f3⟩ := hcut
          have fr3 := HFr.out.tr f3
          clear i0 i1 i2 i3 f3
          go_wp2_with fail
          go_roundw
          case rel => exact ⟨k + 1, by omega, by go_num, fr3⟩
          case measure => simp [intOf]; omega
      · have hkn : decide ((k : Int) < 16) = false := by simp; omega
        have c0 := Ho.D.c0
        have hRl := Ho.D.U.lt
        have HO := Lib.hid Ho
        have FW := Lib.hid (HF.out.tr fr)
        have Htn := Lib.hid (fun W (f : Fr (fun _ => False) wo W) => Rm.turned_any W A.am u.m (Ho.fr0 f).U.M 0 (Nat.zero_le _))
        have Hpg := Lib.hid (fun W (f : Fr (fun _ => False) wo W) => pages_any W r.gM r.gb r.gt u.m.mem u.m (Ho.fr0 f).D.R (by omega) 0 (Nat.zero_le _))
        clear Ho fr
        go_upto_region 9 with (fail)
        refine wp_region_held_drew (S := Fr (fun _ => False) wo) (by kernel_rfl) ((Fr.refl (fun _ => False) wo).drew) (fun hH => ?_)
        refine wpAnyH_take (i := 0) (v := ?_) rfl (by kernel_rfl) (by kernel_rfl) (by kernel_rfl) (fun _ _ _ h => h) (Or.inl ⟨by kernel_rfl, ?_⟩) hH ?_
        rotate_left
        · (intro W _; go_simp; try with_reducible rfl)
        refine wpAnyH_take (i := 2) (v := ?_) rfl (by kernel_rfl) (by kernel_rfl) (by kernel_rfl) (fun _ _ _ h => h) (Or.inl ⟨by kernel_rfl, ?_⟩) hH ?_
        rotate_left
        · (intro W _; go_simp; try with_reducible rfl)
        refine wpAnyH_take (i := 3) (v := ?_) rfl (by kernel_rfl) (by kernel_rfl) (by kernel_rfl) (fun _ _ _ h => h) (Or.inl ⟨by kernel_rfl, ?_⟩) hH ?_
        rotate_left
        · (intro W _; go_simp; try with_reducible rfl)
        simp (config := { maxSteps := 2000000 }) only [Act.put, List.getElem_toArray, List.getElem_cons_zero, List.getElem_cons_succ, List.setIfInBounds_toArray, List.set_cons_zero, List.set_cons_succ]
        refine wpAnyH_take (i := 4) (v := ?_) rfl (by kernel_rfl) (by kernel_rfl) (by kernel_rfl) (fun _ _ _ h => h) (Or.inl ⟨by kernel_rfl, ?_⟩) hH ?_
        rotate_left
        · (intro W _; go_simp; try with_reducible rfl)
        refine wpAnyH_take (i := 5) (v := ?_) rfl (by kernel_rfl) (by kernel_rfl) (by kernel_rfl) (fun _ _ _ h => h) (Or.inl ⟨by kernel_rfl, ?_⟩) hH ?_
        rotate_left
        · (intro W hSw; have k0 := hSw.cell c0 hRl (fun e => e); go_simp; try with_reducible rfl)
        simp (config := { maxSteps := 2000000 }) only [Act.put, List.getElem_toArray, List.getElem_cons_zero, List.getElem_cons_succ, List.setIfInBounds_toArray, List.set_cons_zero, List.set_cons_succ]
        refine wpAnyH_ready (rs := [1]) (by kernel_rfl) (by simp) ?_
        refine AllReadyH.cons rfl (fun K hK => ?_) ?_
        · go_simp
          go_wp2_with (refine (Htn.out _ hH).mono ?_; rintro e w9 ⟨v9, rfl, ho9, f9, k9⟩; obtain ⟨A9, c9, rfl⟩ := ownI_any ho9; have I9 := Lib.hid (Bk.own_ints ho9 Hwl.out); clear ho9 k9)
          refine hK.out _ _ ?_ (fun hH => ?_)
          · exact hH.tr f9
          clear hK K
          have F9 := Lib.hid hH
          refine wpAnyH_ready (rs := [6]) (by kernel_rfl) (by simp) ?_
          refine AllReadyH.cons rfl (fun K hK => ?_) ?_
          · go_simp
            go_wp2_with (refine (Hpg.out _ F9.out).mono ?_; rintro e w10 ⟨v10, rfl, ho10, f10, k10⟩; rw [← hend.out] at ho10; obtain ⟨A10, c10, rfl⟩ := ownI_any ho10; have I10 := Lib.hid (Bk.own_ints ho10 Hwl.out); have J9 := Lib.hid (I9.out.fr f10 (Nat.le_refl _) (fun _ _ e => e)); have hs9 := f10.size; clear ho10 k10)
            refine hK.out _ _ ?_ (fun hH => ?_)
            · exact hH.tr f10
            clear hK K
            refine wpAnyH_ready (rs := [7]) (by kernel_rfl) (by simp) ?_
            refine AllReadyH.cons rfl (fun K hK => ?_) ?_
            · go_simp
              go_wp2_with (refine (Bk.same64_eq w10 _ _ _ c9 c10 A9 A10 _ J9.out hs9 I10.out (Nat.le_refl _) (by omega)).mono ?_; rintro e w11 ⟨rfl, f11⟩)
              refine hK.out _ _ ?_ (fun hH => ?_)
              · exact hH.tr f11
              clear hK K
              refine wpAnyH_take (i := 8) (v := ?_) rfl (by kernel_rfl) (by kernel_rfl) (by kernel_rfl) (fun _ _ _ h => h) (Or.inl ⟨by kernel_rfl, ?_⟩) hH ?_
              rotate_left
              · (intro W _; go_simp; try with_reducible rfl)
              refine wpAnyH_done (by kernel_rfl) ?_ _
              go_wp2_with fail
              go_ret
              exact ⟨rfl, FW.out.tr hH⟩
            exact AllReadyH.nil
          exact AllReadyH.nil
        exact AllReadyH.nil
end Go.Proofs.Ythiephlfhbkcbaa.Mu
