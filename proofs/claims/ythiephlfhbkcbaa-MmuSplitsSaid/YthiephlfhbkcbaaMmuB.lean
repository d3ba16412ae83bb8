/- A unit and the document's, of the same bytes (innkeeperlaw10.both); the unit's parts. -/
import Derived.Test.YthiephlfhbkcbaaMmuX
import Derived.Test.YthiephlfhbkcbaaTlbRef
import Derived.Test.YthiephlfhbkcbaaWalkB
namespace Go.Proofs.Ythiephlfhbkcbaa.Mu
open Go.RowKit Fm Nt Rm By Wk Rf
set_option linter.unusedVariables false
set_option linter.unusedSimpArgs false
set_option maxHeartbeats 8000000

def noL : Nat → Tl.Ent := fun _ => Tl.noE
/-- where the document's parts lie -/
structure Dr where
  gR : Nat
  gM : Nat
  gb : Nat
  gt : Nat
def Dr.its (r : Dr) (k : Nat) : Prop := k = r.gR ∨ k = r.gM ∨ k = r.gb ∨ k = r.gt
structure Dn (w : World) (r : Dr) (u : Us) : Prop where
  U : Tl.Uni w r.gR (some ⟨r.gM, 0, none⟩) u.l
  R : RM w r.gM r.gb r.gt u.m.n u.m.mem u.m.tu
theorem Dn.lt {w : World} {r : Dr} {u : Us} (h : Dn w r u) : ∀ k, r.its k → k < w.heap.size := by
  rintro k (rfl | rfl | rfl | rfl)
  · exact h.U.lt
  · exact h.R.b.lt
  · exact h.R.cb.lt
  · exact h.R.ct.lt
theorem Dn.fr {w w' : World} {r : Dr} {u : Us} {S : Nat → Prop} (h : Dn w r u) (f : Fr S w w') (hs : ∀ k, r.its k → ¬ S k) : Dn w' r u :=
  ⟨h.U.fr f (hs _ (.inl rfl)), h.R.fr f (hs _ (.inr (.inl rfl))) (hs _ (.inr (.inr (.inl rfl)))) (hs _ (.inr (.inr (.inr rfl))))⟩
theorem Dn.fr0 {w w' : World} {r : Dr} {u : Us} (h : Dn w r u) (f : Fr (fun _ => False) w w') : Dn w' r u := h.fr f (fun _ _ e => e)
theorem unew_any (w : World) (am : Am) (m : Ms) (hM : Mem w am m) : Calls Try.prog 39 #[.pointer (some ⟨am.gm, 0, none⟩)] w fun e w' => ∃ A : Au, e = .returned (.tuple #[.pointer (some ⟨A.gU, 0, none⟩), .int .i64 0]) ∧ A.am = am ∧ Un w' A ⟨m, noL⟩ ∧ w.heap.size ≤ A.gU ∧ w.heap.size ≤ A.gB ∧ Fr (fun _ => False) w w' := by
  have HM := Lib.hid hM
  have Hlt := Lib.hid hM.lt
  clear hM
  go_enter Try.func39, Try.ntmps39
  go_wp2_with fail
  refine (Tl.new_any w).mono ?_
  rintro e w1 ⟨rfl, hB, f1⟩
  have hs1 := f1.size
  have hBl := hB.lt
  have f2 : Fr (fun _ => False) w1 (w1.alloc (.cells #[.pointer (some ⟨am.gm, 0, none⟩), .pointer (some ⟨w.heap.size, 0, none⟩)] 125)) := (Fr.refl _ _).alloc _
  have HX : Hid (∃ A : Au, (⟨w1.heap.size, w.heap.size, am⟩ : Au) = A ∧ A.am = am ∧ Un (w1.alloc (.cells #[.pointer (some ⟨am.gm, 0, none⟩), .pointer (some ⟨w.heap.size, 0, none⟩)] 125)) A ⟨m, noL⟩ ∧ w.heap.size ≤ A.gU ∧ w.heap.size ≤ A.gB ∧ Fr (fun _ => False) w (w1.alloc (.cells #[.pointer (some ⟨am.gm, 0, none⟩), .pointer (some ⟨w.heap.size, 0, none⟩)] 125))) := Lib.hid
    ⟨_, rfl, rfl, ⟨Blk.new _ _ _, HM.out.fr0 (f1.tr f2), Tl.Buf.fr hB f2 (fun e => e), fun k hk => by have := Hlt.out k hk; exact ⟨by show k ≠ w1.heap.size; omega, by show k ≠ w.heap.size; omega⟩⟩, hs1, Nat.le_refl _, f1.tr f2⟩
  clear hB f1 f2
  go_wp2_with fail
  go_ret2
  obtain ⟨A, rfl, h⟩ := HX.out
  exact ⟨_, rfl, h⟩
theorem unew_nil (w : World) : Calls Try.prog 39 #[.pointer none] w fun e w' => e = .returned (.tuple #[.pointer none, .int .i64 1]) ∧ w = w' := by
  go_enter Try.func39, Try.ntmps39
  go_wp2_with fail
  go_ret2
  exact ⟨rfl, rfl⟩
def Both10 (w : World) (n : Nat) (yl : List Int) (e : Ending) (w' : World) : Prop :=
  ∃ (A : Au) (r : Dr), e = .returned (.tuple #[.pointer (some ⟨A.gU, 0, none⟩), .pointer (some ⟨r.gR, 0, none⟩)]) ∧ Un w' A ⟨Ms.init n yl, noL⟩ ∧ Dn w' r ⟨Ms.init n yl, noL⟩ ∧
    (∀ k, k = A.gU ∨ A.wr k → ¬ r.its k) ∧ (∀ k, k = A.gU ∨ A.wr k ∨ r.its k → w.heap.size ≤ k) ∧ Fr (fun _ => False) w w'
set_option maxRecDepth 100000 in
theorem both10 (w : World) (A : Option Addr) (len cap n B : Nat) (zs : List Int) (hz : IntsAt .u8 w B A len zs) (hB : B ≤ w.heap.size) (hl : len ≤ n * 64) (hn0 : 1 ≤ n) (hn1 : n ≤ 64) :
    Calls Try.prog 23 #[.slice A len cap, .int .i64 (n : Int)] w (Both10 w n zs) := by
  replace hz := hz.more hB
  have hpr := promRN (o := 0) (n := n) (by omega) (by omega) hn1
  have Hpr := Lib.hid hpr
  have hsz := szU
  have HZ := Lib.hid hz
  have hly := Lib.hid hz.1
  clear hpr
  go_enter Try.func23, Try.ntmps23
  go_wp2_with fail
  refine (Fm.new_any w).mono ?_
  rintro e w1 ⟨rfl, hP, f1⟩
  go_wp2_with fail
  refine (new_yes w1 w.heap.size Pl.new 0 n hP new_ok (by omega) (by omega) hn0 hn1 Hpr.out).mono ?_
  rintro e w2 ⟨a, rfl, ha, hT, hP2, hbl, f2⟩
  have hB := born (by omega) (by omega) hn0 hn1 ha hT hP2 hbl f1 f2
  have hB2 := hB
  obtain ⟨s, hPs, _, hI, _, _⟩ := hB2
  have hnw := Rm.new_any w2 a s n 0 hPs hT hI
  rw [ha] at hnw
  have Hnw := Lib.hid hnw
  have HB := Lib.hid hB
  clear hnw hB ha hT hP2 hbl f1 f2 hPs hI hP
  go_wp2_with fail
  refine (Hnw.out).mono ?_
  rintro e w3 ⟨rfl, hM, f3⟩
  have hF := born_mem HB.out hM f3
  generalize hga : (⟨a, w2.heap.size⟩ : Am) = b at *
  have hgm : w2.heap.size = b.gm := by rw [← hga]
  have hld := Rm.load_any w3 b (Ms.new n) hM A len cap w.heap.size zs (hz.fr hF.2.2 (Nat.le_refl _) (fun _ _ e => e)) hF.2.2.size (fun hn b' off e ho => by have := By.IntsAt.lt_ hz b' off e hn; have := hF.2.1 b' ho; omega) (by simp only [maxLen]; omega)
  rw [show loadE (Ms.new n) len = 0 by rw [loadE, if_pos (by show len ≤ n * 64; exact hl)], ← hgm] at hld
  have Hld := Lib.hid hld
  have HF := Lib.hid hF
  have Hgm := Lib.hid hgm
  clear hld hF hga hM f3 HB Hnw
  rw [hgm] at *
  clear hgm
  go_wp2_with fail
  refine (Hld.out).mono ?_
  rintro e w4 ⟨rfl, hM4, f4⟩
  have hF4 := HF.out.fr hM4 f4
  have hcl := calm_any w4 b _ hM4
  have Hcl := Lib.hid hcl
  clear hcl
  go_wp2_with fail
  refine (Hcl.out).mono ?_
  rintro e w5 ⟨rfl, hM5, f5⟩
  have hF5 : FreshM w b (Ms.init n zs) w5 := hF4.fr hM5 f5
  have HF5 := Lib.hid hF5
  have hown := hM5.lt
  have Hun := Lib.hid (unew_any w5 b _ hF5.1)
  clear hF4 hF5 hM4 hM5 f4 f5
  go_wp2_with fail
  refine (Hun.out).mono ?_
  rintro e w5' ⟨AU, rfl, hAam, hUn, hgU, hgB, f5'⟩
  have hs50 := HF5.out.2.2.size
  have HUn := Lib.hid hUn
  have hUlt := hUn.lt
  clear hUn Hun
  go_wp2_with fail
  refine (Rf.new_any w5' n hn1).mono ?_
  rintro e w6 ⟨gM, gb, gt, rfl, hR, hgM, hgb, hgt, f6⟩
  have c0 := hR.b.cell 0
  simp only [List.getElem?_toArray, List.getElem?_cons_zero] at c0
  have hcb := hR.cb
  have hbt := hR.nbt
  have hMb := hR.nMb
  obtain ⟨NN, hNN⟩ : ∃ q, q = n * 64 := ⟨_, rfl⟩
  rw [← hNN] at c0 hcb hl
  have HNN := Lib.hid hNN
  have Hcb := Lib.hid hcb
  have HR := Lib.hid hR
  have Hown := Lib.hid hown
  have Hult := Lib.hid hUlt
  have HU6 := Lib.hid (HUn.out.fr0 f6)
  have HF6 := Lib.hid ((HF5.out.2.2.tr f5').tr f6)
  have hs6 := f6.size
  have hs5 := f5'.size
  have hAam' := Lib.hid hAam
  clear hcb hNN hR hown hUlt f6 f5' hAam
  go_wp2_with
    (refine wpList_copy_cells rfl (.tmp 61) (.tmp 62) 24 24 rfl 5 Try.underlying24 hsz gb 0 NN NN A len cap rfl rfl 5 NN _ Hcb.out .u8 w.heap.size len zs (by omega) (HZ.out.fr HF6.out (Nat.le_refl _) (fun _ _ e => e)) (by omega) ?_
     intro w7 hc7 f7
     have hU7 := HU6.out.fr f7 (fun k hk e => by have := Hult.out k hk; omega)
     have hR7 : RM w7 gM gb gt n (Ms.init n zs).mem (Ms.init n zs).tu := by
       rw [HNN.out] at hc7
       refine ⟨HR.out.b.fr f7 hMb, Cells.congr hc7 (fun i hi => ?_), HR.out.ct.fr f7 (fun e => hbt e.symm)⟩
       rw [init_mem n zs (by rw [hly.out, ← HNN.out]; exact hl)]
       unfold putR
       rw [List.length_map]
       by_cases h : i < zs.length
       · rw [if_pos (by omega), if_pos h, Nat.sub_zero]
         simp [List.getD_eq_getElem?_getD, h]
       · rw [if_neg (by omega), if_neg h]
     have F7 := Lib.hid (HF6.out.trans (S := fun _ => False) f7 (fun i hi e => by omega))
     have HU7 := Lib.hid hU7
     have HR7 := Lib.hid hR7
     have hs7 := f7.size
     clear hU7 hR7 hc7 f7)
  refine (Tl.uNew_any w7 (some ⟨gM, 0, none⟩)).mono ?_
  rintro e w8 ⟨rfl, hUu, f8⟩
  have hMl := HR7.out.lt
  have HX : Hid (Both10 w n zs (.returned (.tuple #[.pointer (some ⟨AU.gU, 0, none⟩), .pointer (some ⟨w7.heap.size, 0, none⟩)])) w8) := Lib.hid (by
    have hAU : ∀ k, k = AU.gU ∨ AU.wr k → w.heap.size ≤ k ∧ k < w5'.heap.size := fun k hk => by
      refine ⟨?_, Hult.out k hk⟩
      rcases hk with rfl | rfl | hk
      · omega
      · omega
      · rw [hAam'.out] at hk; exact HF5.out.2.1 k hk
    refine ⟨AU, ⟨w7.heap.size, gM, gb, gt⟩, rfl, HU7.out.fr0 f8, ⟨hUu, ?_⟩, fun k hk e => ?_, fun k hk => ?_, F7.out.tr f8⟩
    · show RM w8 gM gb gt (Ms.init n zs).n _ _
      rw [init_n]
      exact HR7.out.fr0 f8
    · have := hAU k hk
      rcases e with e | e | e | e
      · have e : k = w7.heap.size := e; omega
      · have e : k = gM := e; omega
      · have e : k = gb := e; omega
      · have e : k = gt := e; omega
    · rcases hk with e | e | e | e | e | e
      · exact (hAU k (.inl e)).1
      · exact (hAU k (.inr e)).1
      · have e : k = w7.heap.size := e; omega
      · have e : k = gM := e; omega
      · have e : k = gb := e; omega
      · have e : k = gt := e; omega)
  clear hUu
  go_wp2_with fail
  go_ret2
  exact HX.out
end Go.Proofs.Ythiephlfhbkcbaa.Mu
