/- Translations that are kept: slices.Index, slices.Contains of keys. -/
import Derived.Test.YtfjlgdafakbdoaaCaG
import Derived.Test.YtfjlgdafakbdoaaMapy
import Derived.Deep.QuietTactic
import Derived.BigQuiet
import Derived.StillTailTactics
namespace Go.Proofs.Ytfjlgdafakbdoaa.Ca
open Go.RowKit Mz Go.Maps
set_option linter.unusedVariables false
set_option linter.unusedSimpArgs false
set_option maxHeartbeats 4000000

theorem LrOk.at_ {w : World} {l : Lr} (h : LrOk w l) : At_k w l.A l.ks.length (nthK l.ks) := by
  rcases h with ⟨h1, h2, h3⟩ | ⟨gl, e, h1, h2⟩
  · exact fun q hq => absurd hq (by rw [h1]; simp)
  · intro q hq
    have c0 := h1.cell q 0 hq (by omega)
    have c1 := h1.cell q 1 hq (by omega)
    refine ⟨gl, 0, e, ?_, ?_⟩
    · rw [Nat.zero_add]; exact c0
    · rw [Nat.zero_add]; exact c1
def IxPost (w : World) (n : Nat) (f : Nat → Ky) (k : Ky) (e : Ending) (w' : World) : Prop := (∃ r : Int, e = .returned (.int .i64 r) ∧ decide (0 ≤ r) = decide (∃ q, q < n ∧ f q = k)) ∧ Fr (fun _ => False) w w'
def IxRel (w : World) (n : Nat) (f : Nat → Ky) (k : Ky) (q : Nat) (wr : World) : Prop := (∀ j, j < q → f j ≠ k) ∧ Blk wr w.heap.size 31 #[.int .u32 k.1, .int .u32 k.2] ∧ Fr (fun _ => False) w wr
theorem indexOf_k (w : World) (A : Option Addr) (n cap : Nat) (hm : n ≤ 1099511627776) (f : Nat → Ky) (k : Ky) (h : At_k w A n f) :
    Calls Try.prog 45 #[.slice A n cap, .agg #[.int .u32 k.1, .int .u32 k.2]] w (IxPost w n f k) := by
  have f1 := (Fr.refl (fun _ => False) w).alloc (.cells #[.int .u32 k.1, .int .u32 k.2] 31)
  have b1 : Blk (w.alloc (.cells #[.int .u32 k.1, .int .u32 k.2] 31)) w.heap.size 31 #[.int .u32 k.1, .int .u32 k.2] := Blk.new _ _ _
  have HA := Lib.hid h
  have HF := Lib.hid f1
  have HB := Lib.hid b1
  clear h f1 b1
  go_enter Try.func45, Try.ntmps45
  go_wp2_with fail
  go_loopw [8] (fun i wr => ∃ q : Nat, q ≤ n ∧ i = .int .i64 q ∧ IxRel w n f k q wr) (fun i _ => n - (intOf i).toNat)
  case atStart => exact ⟨0, by omega, rfl, fun j h => absurd h (by omega), HB.out, HF.out⟩
  case round =>
    obtain ⟨q, hq, rfl, hno, hb, fr⟩ := hrel
    have HNO := Lib.hid hno
    have HFR := Lib.hid fr
    have HBR := Lib.hid hb
    clear hno
    by_cases hlt : q < n
    · obtain ⟨g, off, rfl, c0, c1⟩ := HA.out q hlt
      have e0 := fr.cell c0 (by rcases Nat.lt_or_ge g w.heap.size with h | h; exact h; rw [show w.cell? ⟨g, off + q * 2, none⟩ = none by simp [World.cell?, Array.getElem?_eq_none h]] at c0; cases c0) (fun e => e)
      have e1 := fr.cell c1 (by rcases Nat.lt_or_ge g w.heap.size with h | h; exact h; rw [show w.cell? ⟨g, off + q * 2 + 1, none⟩ = none by simp [World.cell?, Array.getElem?_eq_none h]] at c1; cases c1) (fun e => e)
      have k0 := hb.cell 0
      have k1 := hb.cell 1
      have hd : decide ((q : Int) < (n : Int)) = true := by simp; omega
      have q0 : (0 : Int) ≤ (q : Int) := by omega
      have q1 : (q : Int) < (n : Int) := by omega
      clear c0 c1 hb fr
      obtain ⟨y, hy⟩ : ∃ y, f q = y := ⟨_, rfl⟩
      rw [hy] at e0 e1
      have HN : Hid (y ≠ k → IxRel w n f k (q + 1) wr.drew) := Lib.hid (fun hne => ⟨fun j hj => by
        rcases (by omega : j < q ∨ j = q) with h | rfl
        · exact HNO.out j h
        · rw [hy]; exact hne, HBR.out.drew, HFR.out.drew⟩)
      have HY : Hid (y = k → IxPost w n f k (.returned (.int .i64 (q : Int))) wr.drew) := Lib.hid (fun e => ⟨⟨q, rfl, by
        have : ∃ j, j < n ∧ f j = k := ⟨q, hlt, by rw [hy, e]⟩
        simp [this]⟩, HFR.out.drew⟩)
      obtain ⟨y0, y1⟩ := y
      obtain ⟨ka, kb⟩ := k
      have e0 : wr.cell? ⟨g, off + q * 2, none⟩ = some (.int .u32 y0) := e0
      have e1 : wr.cell? ⟨g, off + q * 2 + 1, none⟩ = some (.int .u32 y1) := e1
      have k0 : wr.cell? ⟨w.heap.size, 0, none⟩ = some (.int .u32 ka) := k0
      have k1 : wr.cell? ⟨w.heap.size, 1, none⟩ = some (.int .u32 kb) := k1
      clear hy HNO HBR HFR HB HF HA
      by_cases c0 : ka = y0
      · subst c0
        by_cases c1 : kb = y1
        · subst c1
          have HP := Lib.hid (HY.out rfl)
          clear HN HY
          go_upto_region 4 with (fail)
          go_still_tail 5, (by kernel_rfl)
          change wpList _ _ _ _ _ wr.drew
          go_wp2_with fail
          go_ret
          exact HP.out
        · have HP := Lib.hid (HN.out (fun e => c1 (congrArg Prod.snd e).symm))
          clear HN HY
          go_upto_region 4 with (fail)
          go_still_tail 5, (by kernel_rfl)
          change wpList _ _ _ _ _ wr.drew
          go_wp2_with fail
          go_roundw
          case rel => exact ⟨q + 1, by omega, by go_num, HP.out⟩
          case measure => simp [intOf]; omega
      · have HP := Lib.hid (HN.out (fun e => c0 (congrArg Prod.fst e).symm))
        clear HN HY
        go_upto_region 4 with (fail)
        go_still_tail 5, (by kernel_rfl)
        change wpList _ _ _ _ _ wr.drew
        go_wp2_with fail
        go_roundw
        case rel => exact ⟨q + 1, by omega, by go_num, HP.out⟩
        case measure => simp [intOf]; omega
    · have hd : decide ((q : Int) < (n : Int)) = false := by simp; omega
      have e : q = n := by omega
      have HE := Lib.hid e
      clear e hb fr
      go_wp2_with fail
      go_ret
      have e := HE.out
      subst e
      refine ⟨⟨-1, rfl, ?_⟩, HFR.out⟩
      have : ¬ ∃ j, j < q ∧ f j = k := fun ⟨j, hj, e⟩ => HNO.out j hj e
      simp [this]
theorem contains_k (w : World) (A : Option Addr) (n cap : Nat) (hm : n ≤ 1099511627776) (f : Nat → Ky) (k : Ky) (h : At_k w A n f) :
    Calls Try.prog 37 #[.slice A n cap, .agg #[.int .u32 k.1, .int .u32 k.2]] w fun e w' => e = .returned (.bool (decide (∃ q, q < n ∧ f q = k))) ∧ Fr (fun _ => False) w w' := by
  have f1 := (Fr.refl (fun _ => False) w).alloc (.cells #[.int .u32 k.1, .int .u32 k.2] 31)
  have h1 : At_k (w.alloc (.cells #[.int .u32 k.1, .int .u32 k.2] 31)) A n f := fun q hq => by
    obtain ⟨g, off, e, c0, c1⟩ := h q hq
    refine ⟨g, off, e, f1.cell c0 (by rcases Nat.lt_or_ge g w.heap.size with h | h; exact h; rw [show w.cell? ⟨g, off + q * 2, none⟩ = none by simp [World.cell?, Array.getElem?_eq_none h]] at c0; cases c0) (fun e => e), f1.cell c1 (by rcases Nat.lt_or_ge g w.heap.size with h | h; exact h; rw [show w.cell? ⟨g, off + q * 2 + 1, none⟩ = none by simp [World.cell?, Array.getElem?_eq_none h]] at c1; cases c1) (fun e => e)⟩
  have Hi := Lib.hid (indexOf_k _ A n cap hm f k h1)
  have F1 := Lib.hid f1
  clear h h1 f1
  go_enter Try.func37, Try.ntmps37
  go_wp2_with fail
  refine (Hi.out).mono ?_
  rintro e w' ⟨⟨r, rfl, hr⟩, f2⟩
  obtain ⟨t, ht⟩ : ∃ t, decide (∃ q, q < n ∧ f q = k) = t := ⟨_, rfl⟩
  rw [ht] at hr
  have F2 := Lib.hid (F1.out.tr f2)
  have HT := Lib.hid ht
  clear ht f2
  go_wp2_with fail
  go_ret
  exact ⟨by rw [HT.out]; rfl, F2.out⟩
end Go.Proofs.Ytfjlgdafakbdoaa.Ca
