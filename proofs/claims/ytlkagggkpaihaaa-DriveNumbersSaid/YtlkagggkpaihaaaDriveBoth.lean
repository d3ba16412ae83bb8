/- A drive, a memory, and the document's (innkeeperlaw14.both). -/
import Derived.Test.YtlkagggkpaihaaaDriveDo
import Derived.OwnWalk
namespace Go.Proofs.Ytlkagggkpaihaaa.Rf
open Go.RowKit Fm Nt Rm By Dr
set_option linter.unusedVariables false
set_option maxHeartbeats 8000000

/-- apart from one another -/
structure Apart (a : Am) (gd ge gB gk gM gb gt : Nat) : Prop where
  dis : ∀ k, a.own k → k ≠ gd ∧ k ≠ ge
  sep : ∀ k, k = gd ∨ k = ge ∨ a.own k → k ≠ gB ∧ k ≠ gk ∧ k ≠ gM ∧ k ≠ gb ∧ k ≠ gt
def Both (w : World) (n : Nat) (yl zl : List Int) (e : Ending) (w' : World) : Prop :=
  ∃ (a : Am) (gd ge gB gk gM gb gt : Nat), e = .returned (.tuple #[.pointer (some ⟨gd, 0, none⟩), .pointer (some ⟨a.gm, 0, none⟩), .pointer (some ⟨gB, 0, none⟩)]) ∧ DP w' a gd ge gB gk gM gb gt (Ms.init n yl) (dinit zl) ∧ Apart a gd ge gB gk gM gb gt ∧
    (∀ k, k = ge ∨ a.own k ∨ k = gb ∨ k = gt ∨ k = gk → w.heap.size ≤ k) ∧ w.heap.size ≤ gd ∧ Fr (fun _ => False) w w'
set_option maxRecDepth 100000 in
theorem both14 (w : World) (A : Option Addr) (len cap : Nat) (zl : List Int) (hz : IntsAt .u8 w w.heap.size A len zl) (hl : len ≤ 1024) (A2 : Option Addr) (len2 cap2 n : Nat) (yl : List Int) (hy : IntsAt .u8 w w.heap.size A2 len2 yl) (hl2 : len2 ≤ n * 64) (hn0 : 1 ≤ n) (hn1 : n ≤ 64) :
    Calls Try.prog 23 #[.slice A len cap, .slice A2 len2 cap2, .int .i64 (n : Int)] w (Both w n yl zl) := by
  have Hm := Lib.hid (memory14 w A2 len2 cap2 n yl hy hl2 hn0 hn1)
  have hsz := szU
  have HZ := Lib.hid hz
  have HY := Lib.hid hy
  have hly := Lib.hid hy.1
  clear hz hy
  go_enter Try.func23, Try.ntmps23
  go_wp2_with fail
  refine (Hm.out).mono ?_
  rintro e w1 ⟨a, rfl, hM, hba, f1⟩
  go_wp2_with fail
  refine (Dr.new_any w1 A len cap zl ((HZ.out.fr f1 (Nat.le_refl _) (fun _ _ e => e)).more f1.size) hl).mono ?_
  rintro e w2 ⟨gd, ge, rfl, hD, hgd, hge, f2⟩
  have hM2 := hM.fr0 f2
  have fr2 := f1.tr f2
  have hown := hM.lt
  go_wp2_with fail
  refine (Rf.new_any w2 n hn1).mono ?_
  rintro e w3 ⟨gM, gb, gt, rfl, hR, hgM, hgb, hgt, f3⟩
  have hM3 := hM2.fr0 f3
  have hD3 := hD.fr f3 (fun e => e) (fun e => e)
  have fr3 := fr2.tr f3
  have c0 := hR.b.cell 0
  simp only [List.getElem?_toArray, List.getElem?_cons_zero] at c0
  have hcb := hR.cb
  have hbt := hR.nbt
  have hMb := hR.nMb
  obtain ⟨NN, hNN⟩ : ∃ q, q = n * 64 := ⟨_, rfl⟩
  rw [← hNN] at c0 hcb hl2
  have HNN := Lib.hid hNN
  have Hcb := Lib.hid hcb
  have HR := Lib.hid hR
  have Hown := Lib.hid hown
  have Hba := Lib.hid hba
  have HM3 := Lib.hid hM3
  have HD3 := Lib.hid hD3
  have HDl := Lib.hid hD.lt
  have HF3 := Lib.hid fr3
  have hs1 := f1.size
  have hs2 := f2.size
  have hs3 := f3.size
  clear hcb hNN hR hown hba hM hM2 hM3 hD hD3 fr2 fr3 f1 f2 f3
  go_wp2_with
    (refine wpList_copy_cells rfl (.tmp 36) (.tmp 37) 22 22 rfl 5 Try.underlying22 hsz gb 0 NN NN A2 len2 cap2 rfl rfl 5 NN _ Hcb.out .u8 w.heap.size len2 yl (by omega) (HY.out.fr HF3.out (Nat.le_refl _) (fun _ _ e => e)) (by omega) ?_
     intro w4 hc4 f4)
  have hM4 := HM3.out.fr f4 (fun k hk e => by have := Hown.out k hk; omega)
  have hD4 := HD3.out.fr f4 (fun e => by have := HDl.out; omega) (fun e => by have := HDl.out; omega)
  have fr4 := HF3.out.trans (S := fun _ => False) f4 (fun i hi e => by omega)
  have hR4 : RM w4 gM gb gt n (Ms.init n yl).mem (Ms.init n yl).tu := by
    rw [HNN.out] at hc4
    refine ⟨HR.out.b.fr f4 hMb, Cells.congr hc4 (fun i hi => ?_), HR.out.ct.fr f4 (fun e => hbt e.symm)⟩
    rw [init_mem n yl (by rw [hly.out, ← HNN.out]; exact hl2)]
    unfold putR
    rw [List.length_map]
    by_cases h : i < yl.length
    · rw [if_pos (by omega), if_pos h, Nat.sub_zero]
      simp [List.getD_eq_getElem?_getD, h]
    · rw [if_neg (by omega), if_neg h]
  have Hbn := Lib.hid (bus_new w4 gM A len cap zl ((HZ.out.fr fr4 (Nat.le_refl _) (fun _ _ e => e)).more fr4.size) hl)
  have hs4 := f4.size
  have HR4 := Lib.hid hR4
  have HM4 := Lib.hid hM4
  have HD4 := Lib.hid hD4
  have HF4 := Lib.hid fr4
  clear hc4 hR4 hM4 hD4 fr4 f4
  go_wp2_with fail
  refine (Hbn.out).mono ?_
  rintro e w5 ⟨gB, gk, rfl, hb5, hc5, hgk, hgB, f5⟩
  have hin : (Ms.init n yl).n = n := init_n n yl
  have HX : Hid (Both w n yl zl (.returned (.tuple #[.pointer (some ⟨gd, 0, none⟩), .pointer (some ⟨a.gm, 0, none⟩), .pointer (some ⟨gB, 0, none⟩)])) w5) := Lib.hid (by
    have hR5 := HR4.out.fr0 f5
    have hl4 := HR4.out.lt
    have hdl := HDl.out
    refine ⟨a, gd, ge, gB, gk, gM, gb, gt, rfl, ⟨HM4.out.fr0 f5, HD4.out.fr f5 (fun e => e) (fun e => e), ⟨by rw [hin]; exact hR5, hb5, hc5, by omega⟩, fun _ _ _ => rfl⟩, ⟨fun k hk => ?_, fun k hk => ?_⟩, fun k hk => ?_, by omega, HF4.out.tr f5⟩
    · have := Hown.out k hk; omega
    · have : k < w2.heap.size := by
        rcases hk with e | e | e
        · omega
        · omega
        · have := Hown.out k e; omega
      omega
    · rcases hk with e | e | e | e | e
      · omega
      · exact Hba.out k e
      · omega
      · omega
      · omega)
  clear hb5 hc5
  go_wp2_with fail
  go_ret3
  exact HX.out
end Go.Proofs.Ytlkagggkpaihaaa.Rf
