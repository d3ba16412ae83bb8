/- The second stage of paging, III: Map, Unmap. -/
import Derived.Test.YthiephlfhbkcbaaDoorNestedB
namespace Go.Proofs.YthiephlfhbkcbaaDoor.Nt
open Go.RowKit Fm
set_option linter.unusedVariables false
set_option maxHeartbeats 4000000

/-- may a frame be taken for a page? -/
def needB (t : Ts) (p : Int) : Bool := inP t p && !frB t p
def mapE (s : Pl) (t : Ts) (p : Int) : Int := if needB t p then takeE s t.o else if inP t p then 0 else 22
def mapV (s : Pl) (t : Ts) (p : Int) : Int := if needB t p then takeV s t.o else frV t p
def mapS (s : Pl) (t : Ts) (p : Int) : Pl := if needB t p then s.take t.o else s
def Ts.map (t : Ts) (s : Pl) (p : Int) : Ts := if needB t p && (takeE s t.o == 0) then t.setFr p.toNat (takeV s t.o) else t
set_option maxRecDepth 100000 in
theorem map_any (w : World) (a : Ad) (s : Pl) (t : Ts) (p : Int) (hP : Pool w a.gp s) (h : Tab w a t) (hok : s.Ok) :
    Calls Tryd.prog 71 #[.pointer (some ⟨a.gt, 0, none⟩), .int .i64 p] w fun e w' => e = .returned (.tuple #[.int .i64 (mapV s t p), .int .i64 (mapE s t p)]) ∧ Pool w' a.gp (mapS s t p) ∧ Tab w' a (t.map s p) ∧ Fr (fun k => k = a.gp ∨ k = a.gf) w w' := by
  have hi := Lib.hid (is_any w a t p h)
  have hfr := Lib.hid (frame_any w a t p h)
  have hne := h.pool hP
  cases hp : inP t p
  · have e0 : needB t p = false := by simp [needB, hp]
    have e1 : frB t p = false := by simp [frB, hp]
    have e2 : mapE s t p = 22 := by simp [mapE, e0, hp]
    have e3 : mapV s t p = 0 := by simp [mapV, e0, frV, e1]
    have e4 : mapS s t p = s := by simp [mapS, e0]
    have e5 : t.map s p = t := by simp [Ts.map, e0]
    rw [e2, e3, e4, e5]
    have hv := hi.out
    rw [hp] at hv
    have Hv := Lib.hid hv
    clear hv hp e0 e1 e2 e3 e4 e5 hi hfr
    go_enter Tryd.func71, Tryd.ntmps71
    go_wp2_with fail
    refine (Hv.out).mono ?_
    rintro e w' ⟨rfl, rfl⟩
    go_wp2_with fail
    go_ret2
    exact ⟨rfl, hP, h, Fr.refl _ _⟩
  · have hv := hi.out
    rw [hp] at hv
    have Hv := Lib.hid hv
    cases hq : frB t p
    · have hx := hfr.out
      have e6 : frV t p = 0 := by simp [frV, hq]
      rw [hq, e6] at hx
      have Hx := Lib.hid hx
      have e0 : needB t p = true := by simp [needB, hp, hq]
      have e2 : mapE s t p = takeE s t.o := by simp [mapE, e0]
      have e3 : mapV s t p = takeV s t.o := by simp [mapV, e0]
      have e4 : mapS s t p = s.take t.o := by simp [mapS, e0]
      have e5 : t.map s p = if takeE s t.o = 0 then t.setFr p.toNat (takeV s t.o) else t := by simp [Ts.map, e0]
      rw [e2, e3, e4, e5]
      obtain ⟨k, rfl, hk⟩ := inP_at hp
      have h' := h
      obtain ⟨hb, hf, hg, hn0, hn1⟩ := h'
      have c0 := hb.cell 0
      have c1 := hb.cell 1
      have htk := Lib.hid (take_any w.drew a.gp s t.o hP.drew hok)
      clear hv hx hp hq e0 e2 e3 e4 e5 e6 hi hfr
      by_cases hE : takeE s t.o = 0
      · rw [if_pos hE]
        have ht := htk.out
        rw [hE] at ht
        have Ht := Lib.hid ht
        rw [hE]
        clear ht htk hE
        generalize takeV s t.o = fv at *
        go_enter Tryd.func71, Tryd.ntmps71
        go_wp2_with fail
        refine (Hv.out).mono ?_
        rintro e w' ⟨rfl, rfl⟩
        go_wp2_with fail
        refine (Hx.out).mono ?_
        rintro e w' ⟨rfl, rfl⟩
        go_wp2_with fail
        go_region_with ((go_at_call 75; refine (Ht.out).mono ?_; rintro e w1 ⟨rfl, hP1, f1⟩))
        all_goals
          have h1 : Tab w1 a t := Tab.fr (Tab.drew h) f1 (fun k hk => hne k hk)
          have d2 := h1.1.cell 2
          have c := h1.2.1.cell k hk
          have z := Cells.frozen h1.2.1 k
          have hs := Lib.hid (h1.setFr k fv)
          have hP2 := Lib.hid (Cells.far hP1 (p := ⟨a.gf, k, none⟩) (fun e => hne a.gf (.inr (.inl rfl)) e.symm) (.int .i64 fv))
          have fr2 := Lib.hid (((Fr.drew (Fr.refl (fun k => k = a.gp ∨ k = a.gf) w)).tr f1.inl2).setCell (p := ⟨a.gf, k, none⟩) (.inl (.inr rfl)) (.int .i64 fv))
          go_wp2_with fail
          go_ret2
          exact ⟨rfl, hP2.out, hs.out, fr2.out⟩
      · rw [if_neg hE]
        have hE' : (takeE s t.o == 0) = false := by simpa using hE
        clear hE
        generalize takeV s t.o = fv at *
        generalize takeE s t.o = fe at *
        go_enter Tryd.func71, Tryd.ntmps71
        go_wp2_with fail
        refine (Hv.out).mono ?_
        rintro e w' ⟨rfl, rfl⟩
        go_wp2_with fail
        refine (Hx.out).mono ?_
        rintro e w' ⟨rfl, rfl⟩
        go_wp2_with fail
        go_region_with ((go_at_call 75; refine (htk.out).mono ?_; rintro e w1 ⟨rfl, hP1, f1⟩))
        all_goals
          have h1 : Tab w1 a t := Tab.fr (Tab.drew h) f1 (fun k hk => hne k hk)
          go_wp2_with fail
          go_ret2
          exact ⟨rfl, hP1, h1, (Fr.drew (Fr.refl (fun k => k = a.gp ∨ k = a.gf) w)).tr f1.inl2⟩
    · have hx := hfr.out
      rw [hq] at hx
      have Hx := Lib.hid hx
      have e0 : needB t p = false := by simp [needB, hq]
      have e2 : mapE s t p = 0 := by simp [mapE, e0, hp]
      have e3 : mapV s t p = frV t p := by simp [mapV, e0]
      have e4 : mapS s t p = s := by simp [mapS, e0]
      have e5 : t.map s p = t := by simp [Ts.map, e0]
      rw [e2, e3, e4, e5]
      clear hv hx hp hq e0 e2 e3 e4 e5 hi hfr
      go_enter Tryd.func71, Tryd.ntmps71
      go_wp2_with fail
      refine (Hv.out).mono ?_
      rintro e w' ⟨rfl, rfl⟩
      go_wp2_with fail
      refine (Hx.out).mono ?_
      rintro e w' ⟨rfl, rfl⟩
      go_wp2_with fail
      go_ret2
      exact ⟨rfl, hP, h, Fr.refl _ _⟩

end Go.Proofs.YthiephlfhbkcbaaDoor.Nt
