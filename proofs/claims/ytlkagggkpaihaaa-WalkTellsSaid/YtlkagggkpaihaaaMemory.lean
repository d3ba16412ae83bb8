/- The statements' memory: a memory in new places that some bytes were loaded into. -/
import Derived.Test.YtlkagggkpaihaaaBytesW
import Derived.Test.YtlkagggkpaihaaaSame64
import Derived.Test.YtlkagggkpaihaaaSlices
namespace Go.Proofs.Ytlkagggkpaihaaa.Rm
open Go.RowKit Fm Nt
set_option linter.unusedVariables false
set_option maxHeartbeats 4000000

/-- what was loaded, none of it written since -/
def Ms.init (n : Nat) (zs : List Int) : Ms := ((Ms.new n).load zs).calm
theorem init_n (n : Nat) (zs : List Int) : (Ms.init n zs).n = n := by
  show ((Ms.new n).load zs).n = n
  unfold Ms.load
  split
  · exact puts_n _ _ _ _
  · rfl
theorem init_mem (n : Nat) (zs : List Int) (h : zs.length ≤ n * 64) (j : Nat) : (Ms.init n zs).mem j = if j < zs.length then zs.getD j 0 else 0 := by
  show ((Ms.new n).load zs).mem j = _
  rw [Ms.load, if_pos (by exact h), puts_mem]
  by_cases hj : j < zs.length
  · rw [if_pos (by omega), if_pos hj, Nat.sub_zero]
  · rw [if_neg (by omega), if_neg hj]; rfl
/-- frames.New, nested.New, ram.New, one behind the other: what stands then -/
def Born (w : World) (a : Ad) (n : Nat) (o : Int) (w2 : World) : Prop := ∃ s, Pool w2 a.gp s ∧ Tab w2 a (Ts.new n o) ∧ TInv s (Ts.new n o) ∧ (∀ k, a.own k ∨ k = a.gp → w.heap.size ≤ k) ∧ Fr (fun _ => False) w w2
theorem born {w w1 w2 : World} {a : Ad} {n : Nat} {o : Int} (h0 : 0 ≤ o) (h1 : o < 4) (hn0 : 1 ≤ n) (hn1 : n ≤ 64) (ha : a.gp = w.heap.size) (hT : Tab w2 a (Ts.new n o)) (hP : Pool w2 w.heap.size (Pl.new.promise o n)) (hbl : ∀ k, a.own k → w1.heap.size ≤ k) (f1 : Fr (fun _ => False) w w1) (f2 : Fr (· = w.heap.size) w1 w2) : Born w a n o w2 :=
  ⟨_, by rw [ha]; exact hP, hT, TInv.new h0 h1 hn0 hn1 PInv.new rfl (promRN h0 h1 hn1), fun k hk => by
    rcases hk with hk | hk
    · have := hbl k hk; have := f1.size; omega
    · omega, f1.trans f2 (fun i hi e => by omega)⟩
theorem born_mem {w w2 w3 : World} {a : Ad} {n : Nat} {o : Int} (h : Born w a n o w2) (hM : Mem w3 ⟨a, w2.heap.size⟩ (Ms.new n)) (f : Fr (fun _ => False) w2 w3) : FreshM w ⟨a, w2.heap.size⟩ (Ms.new n) w3 := by
  obtain ⟨s, _, _, _, hb, f2⟩ := h
  refine ⟨hM, fun k hk => ?_, f2.tr f⟩
  rcases hk with rfl | hk | hk
  · exact f2.size
  · exact hb k (.inl hk)
  · exact hb k (.inr hk)
/-- law 14's memory -/
def Memory14 (w : World) (n : Nat) (zs : List Int) (e : Ending) (w' : World) : Prop := ∃ a : Am, e = .returned (.pointer (some ⟨a.gm, 0, none⟩)) ∧ FreshM w a (Ms.init n zs) w'
set_option maxRecDepth 100000 in
theorem memory14 (w : World) (A : Option Addr) (len cap n : Nat) (zs : List Int) (hz : IntsAt .u8 w w.heap.size A len zs) (hl : len ≤ n * 64) (hn0 : 1 ≤ n) (hn1 : n ≤ 64) :
    Calls Try.prog 13 #[.slice A len cap, .int .i64 (n : Int)] w (Memory14 w n zs) := by
  have hpr := promRN (o := 0) (n := n) (by omega) (by omega) hn1
  have Hpr := Lib.hid hpr
  clear hpr
  go_enter Try.func13, Try.ntmps13
  go_wp2_with fail
  refine (Fm.new_any w).mono ?_
  rintro e w1 ⟨rfl, hP, f1⟩
  go_wp2_with fail
  refine (new_yes w1 w.heap.size Pl.new 0 n hP new_ok (by omega) (by omega) hn0 hn1 Hpr.out).mono ?_
  rintro e w2 ⟨a, rfl, ha, hT, hP2, hbl, f2⟩
  have hB := born (by omega) (by omega) hn0 hn1 ha hT hP2 hbl f1 f2
  have hB2 := hB
  obtain ⟨s, hPs, _, hI, _, _⟩ := hB2
  have hnw := new_any w2 a s n 0 hPs hT hI
  rw [ha] at hnw
  have Hnw := Lib.hid hnw
  have HB := Lib.hid hB
  clear hnw hB ha hT hP2 hbl f1 f2 hPs hI hP
  go_wp2_with fail
  refine (Hnw.out).mono ?_
  rintro e w3 ⟨rfl, hM, f3⟩
  have hF := born_mem HB.out hM f3
  generalize hga : (⟨a, w2.heap.size⟩ : Am) = b at *
  have hgm : w2.heap.size = b.gm := by rw [← hga]
  have hld := load_any w3 b (Ms.new n) hM A len cap w.heap.size zs (hz.fr hF.2.2 (Nat.le_refl _) (fun _ _ e => e)) hF.2.2.size (fun hn b' off e ho => by have := By.IntsAt.lt_ hz b' off e hn; have := hF.2.1 b' ho; omega) (by simp only [maxLen]; omega)
  rw [show loadE (Ms.new n) len = 0 by rw [loadE, if_pos (by show len ≤ n * 64; exact hl)], ← hgm] at hld
  have Hld := Lib.hid hld
  have HF := Lib.hid hF
  have Hgm := Lib.hid hgm
  clear hld hF hga hM f3 HB Hnw
  rw [hgm] at *
  clear hgm
  go_wp2_with fail
  refine (Hld.out).mono ?_
  rintro e w4 ⟨rfl, hM4, f4⟩
  have hF4 := HF.out.fr hM4 f4
  have hcl := calm_any w4 b _ hM4
  have Hcl := Lib.hid hcl
  clear hcl
  go_wp2_with fail
  refine (Hcl.out).mono ?_
  rintro e w5 ⟨rfl, hM5, f5⟩
  have hG : Memory14 w n zs (.returned (.pointer (some ⟨b.gm, 0, none⟩))) w5 := ⟨b, rfl, hF4.fr hM5 f5⟩
  have HG := Lib.hid hG
  clear hG
  go_wp2_with fail
  go_ret
  exact HG.out
end Go.Proofs.Ytlkagggkpaihaaa.Rm
