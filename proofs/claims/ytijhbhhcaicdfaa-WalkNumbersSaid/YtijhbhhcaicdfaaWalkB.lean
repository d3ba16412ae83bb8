/- A memory and the document's, of the same bytes (innkeeperlaw8.both). -/
import Derived.Test.YtijhbhhcaicdfaaWalkT
import Derived.Test.YtijhbhhcaicdfaaMemory
import Derived.Test.YtijhbhhcaicdfaaRef8
import Derived.Test.YtijhbhhcaicdfaaCopy
namespace Go.Proofs.Ytijhbhhcaicdfaa.Wk
open Go.RowKit Fm Nt Rm By Rf
set_option linter.unusedVariables false
set_option maxHeartbeats 8000000

theorem szU : (Try.prog.info? 5).map (·.size) = some 1 := by
  obtain ⟨i0, hi0, hz0, hz1, hz2⟩ := info_parts infoU8
  rw [hi0]; simp [hz1]
def Both8 (w : World) (n : Nat) (yl : List Int) (e : Ending) (w' : World) : Prop :=
  ∃ (a : Am) (gM gb gt : Nat), e = .returned (.tuple #[.pointer (some ⟨a.gm, 0, none⟩), .pointer (some ⟨gM, 0, none⟩)]) ∧ Mem w' a (Ms.init n yl) ∧ RM w' gM gb gt n (Ms.init n yl).mem (Ms.init n yl).tu ∧
    (∀ k, a.own k → k ≠ gM ∧ k ≠ gb ∧ k ≠ gt) ∧ (∀ k, k = gM ∨ k = gb ∨ k = gt ∨ a.own k → w.heap.size ≤ k) ∧ Fr (fun _ => False) w w'
set_option maxRecDepth 100000 in
theorem both8 (w : World) (A : Option Addr) (len cap n B : Nat) (zs : List Int) (hz : IntsAt .u8 w B A len zs) (hB : B ≤ w.heap.size) (hl : len ≤ n * 64) (hn0 : 1 ≤ n) (hn1 : n ≤ 64) :
    Calls Try.prog 16 #[.slice A len cap, .int .i64 (n : Int)] w (Both8 w n zs) := by
  replace hz := hz.more hB
  have hpr := promRN (o := 0) (n := n) (by omega) (by omega) hn1
  have Hpr := Lib.hid hpr
  have hsz := szU
  have HZ := Lib.hid hz
  have hly := Lib.hid hz.1
  clear hpr
  go_enter Try.func16, Try.ntmps16
  go_wp2_with fail
  refine (Fm.new_any w).mono ?_
  rintro e w1 ⟨rfl, hP, f1⟩
  go_wp2_with fail
  refine (new_yes w1 w.heap.size Pl.new 0 n hP new_ok (by omega) (by omega) hn0 hn1 Hpr.out).mono ?_
  rintro e w2 ⟨a, rfl, ha, hT, hP2, hbl, f2⟩
  have hB := born (by omega) (by omega) hn0 hn1 ha hT hP2 hbl f1 f2
  have hB2 := hB
  obtain ⟨s, hPs, _, hI, _, _⟩ := hB2
  have hnw := Rm.new_any w2 a s n 0 hPs hT hI
  rw [ha] at hnw
  have Hnw := Lib.hid hnw
  have HB := Lib.hid hB
  clear hnw hB ha hT hP2 hbl f1 f2 hPs hI hP
  go_wp2_with fail
  refine (Hnw.out).mono ?_
  rintro e w3 ⟨rfl, hM, f3⟩
  have hF := born_mem HB.out hM f3
  generalize hga : (⟨a, w2.heap.size⟩ : Am) = b at *
  have hgm : w2.heap.size = b.gm := by rw [← hga]
  have hld := load_any w3 b (Ms.new n) hM A len cap w.heap.size zs (hz.fr hF.2.2 (Nat.le_refl _) (fun _ _ e => e)) hF.2.2.size (fun hn b' off e ho => by have := By.IntsAt.lt_ hz b' off e hn; have := hF.2.1 b' ho; omega) (by simp only [maxLen]; omega)
  rw [show loadE (Ms.new n) len = 0 by rw [loadE, if_pos (by show len ≤ n * 64; exact hl)], ← hgm] at hld
  have Hld := Lib.hid hld
  have HF := Lib.hid hF
  have Hgm := Lib.hid hgm
  clear hld hF hga hM f3 HB Hnw
  rw [hgm] at *
  clear hgm
  go_wp2_with fail
  refine (Hld.out).mono ?_
  rintro e w4 ⟨rfl, hM4, f4⟩
  have hF4 := HF.out.fr hM4 f4
  have hcl := calm_any w4 b _ hM4
  have Hcl := Lib.hid hcl
  clear hcl
  go_wp2_with fail
  refine (Hcl.out).mono ?_
  rintro e w5 ⟨rfl, hM5, f5⟩
  have hF5 : FreshM w b (Ms.init n zs) w5 := hF4.fr hM5 f5
  have HF5 := Lib.hid hF5
  have hown := hM5.lt
  clear hF4 hF5 hM4 hM5 f4 f5
  go_wp2_with fail
  refine (Rf.new_any w5 n hn1).mono ?_
  rintro e w6 ⟨gM, gb, gt, rfl, hR, hgM, hgb, hgt, f6⟩
  have c0 := hR.b.cell 0
  simp only [List.getElem?_toArray, List.getElem?_cons_zero] at c0
  have hcb := hR.cb
  have hbt := hR.nbt
  have hMb := hR.nMb
  obtain ⟨NN, hNN⟩ : ∃ q, q = n * 64 := ⟨_, rfl⟩
  rw [← hNN] at c0 hcb hl
  have HNN := Lib.hid hNN
  have Hcb := Lib.hid hcb
  have HR := Lib.hid hR
  have Hown := Lib.hid hown
  have HM6 := Lib.hid (HF5.out.1.fr0 f6)
  have HF6 := Lib.hid (HF5.out.2.2.tr f6)
  have hs6 := f6.size
  have hs5 := HF5.out.2.2.size
  clear hcb hNN hR hown f6
  go_wp2_with
    (refine wpList_copy_cells rfl (.tmp 52) (.tmp 53) 29 29 rfl 5 Try.underlying29 hsz gb 0 NN NN A len cap rfl rfl 5 NN _ Hcb.out .u8 w.heap.size len zs (by omega) (HZ.out.fr HF6.out (Nat.le_refl _) (fun _ _ e => e)) (by omega) ?_
     intro w7 hc7 f7
     have hM7 := HM6.out.fr f7 (fun k hk e => by have := Hown.out k hk; omega)
     have hR7 : RM w7 gM gb gt n (Ms.init n zs).mem (Ms.init n zs).tu := by
       rw [HNN.out] at hc7
       refine ⟨HR.out.b.fr f7 hMb, Cells.congr hc7 (fun i hi => ?_), HR.out.ct.fr f7 (fun e => hbt e.symm)⟩
       rw [init_mem n zs (by rw [hly.out, ← HNN.out]; exact hl)]
       unfold putR
       rw [List.length_map]
       by_cases h : i < zs.length
       · rw [if_pos (by omega), if_pos h, Nat.sub_zero]
         simp [List.getD_eq_getElem?_getD, h]
       · rw [if_neg (by omega), if_neg h]
     have HX : Hid (Both8 w n zs (.returned (.tuple #[.pointer (some ⟨b.gm, 0, none⟩), .pointer (some ⟨gM, 0, none⟩)])) w7) := Lib.hid ⟨b, gM, gb, gt, rfl, hM7, hR7, fun k hk => by have := Hown.out k hk; omega, fun k hk => by
       rcases hk with e | e | e | e
       · omega
       · omega
       · omega
       · exact HF5.out.2.1 k e, HF6.out.trans (S := fun _ => False) f7 (fun i hi e => by omega)⟩
     clear hM7 hR7 hc7 f7)
  go_ret2
  exact HX.out
end Go.Proofs.Ytijhbhhcaicdfaa.Wk
