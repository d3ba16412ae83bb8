/- A guest's drive, II: Do. -/
import Derived.Test.YthiephlfhbkcbaaDoorDrive
namespace Go.Proofs.YthiephlfhbkcbaaDoor.Dr
open Go.RowKit Fm Nt Rm By
set_option linter.unusedVariables false
set_option maxHeartbeats 4000000

/-- is it a call that a drive does? -/
def doB (m : Ms) (s at_ c : Int) : Bool := decide (s < 16 ∧ at_ % 64 = 0 ∧ at_ < (m.n : Int) * 64 ∧ (c = 1 ∨ c = 2))
/-- a sector's bytes -/
def sect (d : Nat → Int) (s : Nat) : List Int := lst (fun k => d (s * 64 + k)) 64
def doD (d : Nat → Int) (m : Ms) (s at_ c : Int) : Nat → Int := if doB m s at_ c = true ∧ c = 2 then fun i => if s.toNat * 64 ≤ i ∧ i < s.toNat * 64 + 64 then m.mem (at_.toNat + (i - s.toNat * 64)) else d i else d
def doM (d : Nat → Int) (m : Ms) (s at_ c : Int) : Ms := if doB m s at_ c = true ∧ c = 1 then m.puts at_.toNat (sect d s.toNat) 64 else m
theorem run_sect (gb s : Nat) (hs : s < 16) (W : World) : (Instr.slice 24 (.slice (some ⟨gb, 0, none⟩) 1024 1024) (some (.int .u32 ((s : Int) * 64))) (some (.int .u32 (((s : Int) + 1) * 64))) none).run Tryd.prog W = .ok (.slice (some ⟨gb, s * 64, none⟩) 64 (1024 - s * 64)) W := by
  obtain ⟨i0, hi0, hz0, hz1, hz2⟩ := info_parts infoU8
  have he : Tryd.prog.elem 24 = 5 := by kernel_rfl
  rw [run_slice_lh W 24 (some ⟨gb, 0, none⟩) 1024 1024 (by rw [he]; exact Tryd.underlying24) .u32 .u32 ((s : Int) * 64) (((s : Int) + 1) * 64) (by omega) (by omega) (by omega)]
  have e1 : ((s : Int) * 64).toNat = s * 64 := by omega
  have e2 : (((s : Int) + 1) * 64).toNat = s * 64 + 64 := by omega
  have e3 : ¬ (1024 = s * 64) := by omega
  have e4 : s * 64 + 64 - s * 64 = 64 := by omega
  simp [sizeOf, typeInfo, he, hi0, hz1, Result.andThen, sliced, e1, e2, e3, e4, Addr.add]
  intro h; omega
set_option maxRecDepth 100000 in
theorem do_any (w : World) (gd gb : Nat) (d : Nat → Int) (a : Am) (m : Ms) (hD : Drv w gd gb d) (hM : Mem w a m) (hdis : ∀ k, a.own k → k ≠ gd ∧ k ≠ gb) (s at_ c : Int) (s0 : 0 ≤ s) (s1 : s ≤ 4294967295) (a0 : 0 ≤ at_) (a1 : at_ ≤ 4294967295) (c0 : 0 ≤ c) (c1 : c ≤ 4294967295) :
    Calls Tryd.prog 36 #[.pointer (some ⟨gd, 0, none⟩), .pointer (some ⟨a.gm, 0, none⟩), .int .u32 s, .int .u32 at_, .int .u32 c] w fun e w' => e = .returned (.bool (doB m s at_ c)) ∧ Drv w' gd gb (doD d m s at_ c) ∧ Mem w' a (doM d m s at_ c) ∧ Fr (fun k => k = gb ∨ a.own k) w w' := by
  have hsz := Lib.hid (size_any w a m hM)
  have hn := hM.n0
  have cb := hD.b.cell 0
  by_cases hs : s < 16
  · by_cases ha : at_ % 64 = 0
    · by_cases hr : at_ < (m.n : Int) * 64
      · obtain ⟨k, rfl⟩ : ∃ k : Nat, s = k := ⟨s.toNat, by omega⟩
        obtain ⟨p, hp⟩ : ∃ p : Nat, at_ / 64 = p := ⟨(at_ / 64).toNat, by omega⟩
        have hap : at_ = (p : Int) * 64 := by omega
        have hat : at_.toNat = p * 64 := by omega
        have hsl := fun W => run_sect gb k (by omega) W
        have hp1 : p < m.n := by omega
        have hr1 : ¬ (m.n : Int) * 64 ≤ at_ := by omega
        by_cases hc1 : c = 1
        · subst hc1
          have hb : doB m k at_ 1 = true := by simp [doB, hs, ha, hr]
          have eD : doD d m k at_ 1 = d := by rw [doD, if_neg (by omega)]
          have eM : doM d m k at_ 1 = m.puts (p * 64) (sect d k) 64 := by rw [doM, if_pos ⟨hb, rfl⟩, hat]; rfl
          rw [hb, eD, eM]
          have hI : IntsAt .u8 w w.heap.size (some ⟨gb, k * 64, none⟩) 64 (sect d k) := by
            refine ⟨lst_len _ _, fun i hi => ?_, fun _ => ⟨gb, k * 64, rfl, hD.lt.2, fun i hi => ?_⟩⟩
            · rw [sect, lst_at _ hi]
              have := hD.bd (k * 64 + i) (by omega)
              exact wf_u8_mk (by omega) (by omega)
            · rw [sect, lst_at _ hi]
              exact hD.c.cell (k * 64 + i) (by omega)
          have hpp := putPage_any w a m hM (p : Int) (some ⟨gb, k * 64, none⟩) 64 (1024 - k * 64) w.heap.size (sect d k) hI (Nat.le_refl _) (fun _ b off e ho => by
            injection e with e
            injection e with e1 e2
            have := (hdis b ho).2
            omega) (by simp [maxLen])
          have hpg : pgB m p 64 = true := by simp [pgB, hp1]
          have epp : m.putP p (sect d k) = m.puts (p * 64) (sect d k) 64 := by rw [Ms.putP, sect, lst_len, if_pos hpg]; rfl
          rw [hpg, epp, ← hp] at hpp
          have Hpp := Lib.hid hpp
          have hdg := Lib.hid hdis
          clear hpp hI hb eD eM hpg epp hap hat hr hp
          go_enter Tryd.func36, Tryd.ntmps36
          go_wp2_with fail
          refine (hsz.out).mono ?_
          rintro e w' ⟨rfl, rfl⟩
          go_wp2_with fail
          refine (Hpp.out).mono ?_
          rintro e w2 ⟨rfl, hM2, f2⟩
          have hD2 := hD.fr f2 (fun e => (hdg.out _ e).1 rfl) (fun e => (hdg.out _ e).2 rfl)
          have fr2 : Fr (fun k => k = gb ∨ a.own k) w w2 := f2.mono (fun _ _ e => .inr e)
          go_wp2_with fail
          go_ret
          exact ⟨rfl, hD2, hM2, fr2⟩
        · by_cases hc2 : c = 2
          · subst hc2
            have hb : doB m k at_ 2 = true := by simp [doB, hs, ha, hr]
            have eD : doD d m k at_ 2 = fun i => if k * 64 ≤ i ∧ i < k * 64 + 64 then m.mem (p * 64 + (i - k * 64)) else d i := by rw [doD, if_pos ⟨hb, rfl⟩, hat]; rfl
            have eM : doM d m k at_ 2 = m := by rw [doM, if_neg (by omega)]
            rw [hb, eD, eM]
            have hpg := page_in w a m hM (p : Int) (by omega) (by omega)
            rw [← hp, show (at_ / 64).toNat = p by omega] at hpg
            have Hpg := Lib.hid hpg
            have hbd := hM.bd
            have Hbd := Lib.hid (fun i (hi : i < 64) => hbd (p * 64 + i) (by omega))
            have hszU := szU
            clear hpg hb eD eM hap hat hr hp hbd hc1
            go_enter Tryd.func36, Tryd.ntmps36
            go_wp2_with fail
            refine (hsz.out).mono ?_
            rintro e w' ⟨rfl, rfl⟩
            go_wp2_with fail
            refine (Hpg.out).mono ?_
            rintro e w2 ⟨rfl, hc2, f2⟩
            have hD2 := hD.fr f2 (fun e => e) (fun e => e)
            have hM2 := hM.fr0 f2
            have hI := cells_ints hc2 Hbd.out
            have HI := Lib.hid hI
            have HC := Lib.hid hD2.c
            clear hc2 hI
            go_wp2_with
              (refine wpList_copy_cells rfl (.tmp 60) (.tmp 61) 24 24 rfl 5 Tryd.underlying24 hszU gb (k * 64) 64 (1024 - k * 64) (some ⟨w.heap.size, 0, none⟩) 64 64 rfl rfl 5 1024 _ HC.out .u8 (w.heap.size + 1) 64 _ rfl HI.out (by omega) ?_
               intro w3 hc3 f3)
            have hD3 : Drv w3 gd gb (fun i => if k * 64 ≤ i ∧ i < k * 64 + 64 then m.mem (p * 64 + (i - k * 64)) else d i) := ⟨hD2.b.fr f3 (fun e => hD2.ne e), Cells.congr hc3 (fun i hi => by
              unfold putR
              rw [List.length_map, lst_len]
              by_cases h : k * 64 ≤ i ∧ i < k * 64 + 64
              · rw [if_pos h, if_pos h]
                have h64 : i - k * 64 < 64 := by omega
                simp [lst, List.getD_eq_getElem?_getD, h64]
              · rw [if_neg h, if_neg h]), fun i hi => by
              split
              · exact Hbd.out _ (by omega)
              · exact hD.bd i hi⟩
            have hM3 := hM2.fr f3 (fun j hj e => (hdis j hj).2 e)
            have fr3 : Fr (fun k => k = gb ∨ a.own k) w w3 := (f2.none).tr (f3.mono (fun _ _ e => .inl e))
            have HD3 := Lib.hid hD3
            clear hD3 hc3
            go_wp2_with fail
            go_ret
            exact ⟨rfl, HD3.out, hM3, fr3⟩
          · have hb : doB m k at_ c = false := by simp [doB, hc1, hc2]
            have eD : doD d m k at_ c = d := by rw [doD, if_neg (by rw [hb]; simp)]
            have eM : doM d m k at_ c = m := by rw [doM, if_neg (by rw [hb]; simp)]
            rw [hb, eD, eM]
            have q1 : (c == 1) = false := by simpa using hc1
            have q2 : (c == 2) = false := by simpa using hc2
            clear hb eD eM hap hat hr hp hc1 hc2
            go_enter Tryd.func36, Tryd.ntmps36
            go_wp2_with fail
            refine (hsz.out).mono ?_
            rintro e w' ⟨rfl, rfl⟩
            go_wp2_with fail
            go_ret
            exact ⟨rfl, hD, hM, Fr.refl _ _⟩
      · have hb : doB m s at_ c = false := by simp [doB, hr]
        have eD : doD d m s at_ c = d := by rw [doD, if_neg (by rw [hb]; simp)]
        have eM : doM d m s at_ c = m := by rw [doM, if_neg (by rw [hb]; simp)]
        rw [hb, eD, eM]
        have hr1 : (m.n : Int) * 64 ≤ at_ := by omega
        have hs1 : ¬ 16 ≤ s := by omega
        clear hb eD eM hr
        go_enter Tryd.func36, Tryd.ntmps36
        go_wp2_with fail
        refine (hsz.out).mono ?_
        rintro e w' ⟨rfl, rfl⟩
        go_wp2_with fail
        go_ret
        exact ⟨rfl, hD, hM, Fr.refl _ _⟩
    · have hb : doB m s at_ c = false := by simp [doB, ha]
      have eD : doD d m s at_ c = d := by rw [doD, if_neg (by rw [hb]; simp)]
      have eM : doM d m s at_ c = m := by rw [doM, if_neg (by rw [hb]; simp)]
      rw [hb, eD, eM]
      have q1 : (at_ % 64 == 0) = false := by simpa using ha
      have q2 : (at_ % 64 != 0) = true := by simpa using ha
      clear hb eD eM ha
      go_enter Tryd.func36, Tryd.ntmps36
      go_wp2_with fail
      go_ret
      exact ⟨rfl, hD, hM, Fr.refl _ _⟩
  · have hb : doB m s at_ c = false := by simp [doB, hs]
    have eD : doD d m s at_ c = d := by rw [doD, if_neg (by rw [hb]; simp)]
    have eM : doM d m s at_ c = m := by rw [doM, if_neg (by rw [hb]; simp)]
    rw [hb, eD, eM]
    have hs1 : 16 ≤ s := by omega
    clear hb eD eM hs
    go_enter Tryd.func36, Tryd.ntmps36
    go_wp2_with fail
    go_ret
    exact ⟨rfl, hD, hM, Fr.refl _ _⟩
end Go.Proofs.YthiephlfhbkcbaaDoor.Dr
