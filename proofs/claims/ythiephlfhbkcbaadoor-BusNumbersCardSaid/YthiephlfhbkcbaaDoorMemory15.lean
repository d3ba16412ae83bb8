/- Layer 15's memory (innkeeperlaw15.memory). -/
import Derived.Test.YthiephlfhbkcbaaDoorMemory
namespace Go.Proofs.YthiephlfhbkcbaaDoor.Rm
open Go.RowKit Fm Nt
set_option linter.unusedVariables false
set_option maxHeartbeats 4000000

/-- law 15's memory -/
def Memory15 (w : World) (n : Nat) (zs : List Int) (e : Ending) (w' : World) : Prop := ∃ a : Am, e = .returned (.pointer (some ⟨a.gm, 0, none⟩)) ∧ FreshM w a (Ms.init n zs) w'
set_option maxRecDepth 100000 in
theorem memory15 (w : World) (A : Option Addr) (len cap n : Nat) (zs : List Int) (hz : IntsAt .u8 w w.heap.size A len zs) (hl : len ≤ n * 64) (hn0 : 1 ≤ n) (hn1 : n ≤ 64) :
    Calls Tryd.prog 28 #[.slice A len cap, .int .i64 (n : Int)] w (Memory15 w n zs) := by
  have hpr := promRN (o := 0) (n := n) (by omega) (by omega) hn1
  have Hpr := Lib.hid hpr
  clear hpr
  go_enter Tryd.func28, Tryd.ntmps28
  go_wp2_with fail
  refine (Fm.new_any w).mono ?_
  rintro e w1 ⟨rfl, hP, f1⟩
  go_wp2_with fail
  refine (new_yes w1 w.heap.size Pl.new 0 n hP new_ok (by omega) (by omega) hn0 hn1 Hpr.out).mono ?_
  rintro e w2 ⟨a, rfl, ha, hT, hP2, hbl, f2⟩
  have hB := born (by omega) (by omega) hn0 hn1 ha hT hP2 hbl f1 f2
  have hB2 := hB
  obtain ⟨s, hPs, _, hI, _, _⟩ := hB2
  have hnw := new_any w2 a s n 0 hPs hT hI
  rw [ha] at hnw
  have Hnw := Lib.hid hnw
  have HB := Lib.hid hB
  clear hnw hB ha hT hP2 hbl f1 f2 hPs hI hP
  go_wp2_with fail
  refine (Hnw.out).mono ?_
  rintro e w3 ⟨rfl, hM, f3⟩
  have hF := born_mem HB.out hM f3
  generalize hga : (⟨a, w2.heap.size⟩ : Am) = b at *
  have hgm : w2.heap.size = b.gm := by rw [← hga]
  have hld := load_any w3 b (Ms.new n) hM A len cap w.heap.size zs (hz.fr hF.2.2 (Nat.le_refl _) (fun _ _ e => e)) hF.2.2.size (fun hn b' off e ho => by have := By.IntsAt.lt_ hz b' off e hn; have := hF.2.1 b' ho; omega) (by simp only [maxLen]; omega)
  rw [show loadE (Ms.new n) len = 0 by rw [loadE, if_pos (by show len ≤ n * 64; exact hl)], ← hgm] at hld
  have Hld := Lib.hid hld
  have HF := Lib.hid hF
  have Hgm := Lib.hid hgm
  clear hld hF hga hM f3 HB Hnw
  rw [hgm] at *
  clear hgm
  go_wp2_with fail
  refine (Hld.out).mono ?_
  rintro e w4 ⟨rfl, hM4, f4⟩
  have hF4 := HF.out.fr hM4 f4
  have hcl := calm_any w4 b _ hM4
  have Hcl := Lib.hid hcl
  clear hcl
  go_wp2_with fail
  refine (Hcl.out).mono ?_
  rintro e w5 ⟨rfl, hM5, f5⟩
  have hG : Memory15 w n zs (.returned (.pointer (some ⟨b.gm, 0, none⟩))) w5 := ⟨b, rfl, hF4.fr hM5 f5⟩
  have HG := Lib.hid hG
  clear hG
  go_wp2_with fail
  go_ret
  exact HG.out
end Go.Proofs.YthiephlfhbkcbaaDoor.Rm
