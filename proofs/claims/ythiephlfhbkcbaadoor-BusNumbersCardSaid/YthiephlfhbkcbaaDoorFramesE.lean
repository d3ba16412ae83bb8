/- The host's memory, V: Take; slices.Contains at ints. -/
import Derived.Test.YthiephlfhbkcbaaDoorFramesD
namespace Go.Proofs.YthiephlfhbkcbaaDoor.Fm
open Go.RowKit
set_option linter.unusedVariables false
set_option maxHeartbeats 4000000

theorem ownI_any {w : World} {base n : Nat} {e : TypeId} {v : Value} {xs : List Value} (h : w.ownsRow base e 1 v n xs) : ∃ A cap, v = .slice A n cap := by
  rcases h.2 with ⟨rfl, rfl⟩ | ⟨g, cap, cur, rfl, _⟩
  · exact ⟨none, 0, rfl⟩
  · exact ⟨_, cap, rfl⟩

/-- none is free from 16 on below k -/
def NoFree (s : Pl) (k : Nat) : Prop := ∀ j, 16 ≤ j → j < k → s.own j ≠ -1
/-- the lowest that is free -/
def takeN (s : Pl) : Option Nat := (List.range 256).find? fun f => decide (16 ≤ f) && s.own f == -1
theorem takeN_some {s : Pl} {k : Nat} (h : NoFree s k) (h16 : 16 ≤ k) (hk : k < 256) (ho : s.own k = -1) : takeN s = some k := by
  unfold takeN
  rw [List.find?_range_eq_some]
  refine ⟨by simp [h16, ho], by simpa using hk, fun j hj => ?_⟩
  by_cases h1 : 16 ≤ j
  · have := h j h1 hj
    simp [this]
  · simp [h1]
theorem takeN_none {s : Pl} (h : NoFree s 256) : takeN s = none := by
  unfold takeN
  rw [List.find?_eq_none]
  intro j hj
  have hj2 : j < 256 := by simpa using hj
  by_cases h1 : 16 ≤ j
  · have := h j h1 hj2
    simp [this]
  · simp [h1]
theorem takeN_spec {s : Pl} {k : Nat} (h : takeN s = some k) : 16 ≤ k ∧ k < 256 ∧ s.own k = -1 ∧ NoFree s k := by
  unfold takeN at h
  rw [List.find?_range_eq_some] at h
  obtain ⟨h1, h2, h3⟩ := h
  simp at h1 h2
  refine ⟨h1.1, h2, h1.2, fun j h16 hj => ?_⟩
  have := h3 j hj
  simpa [h16] using this
/-- P5.1: may an owner take one more? -/
def mayTake (s : Pl) (o : Int) : Bool := isO o && decide (((held s o).length : Int) < s.prom o.toNat)
/-- the frame that is taken -/
def takeF (s : Pl) (o : Int) : Option Nat := if mayTake s o then takeN s else none
def takeE (s : Pl) (o : Int) : Int := if isO o = false then 1 else if (takeF s o).isSome then 0 else 13
def Pl.take (s : Pl) (o : Int) : Pl := match takeF s o with
  | some f => (s.setOwn f o).wipe f
  | none => s
def takeV (s : Pl) (o : Int) : Int := match takeF s o with
  | some f => (f : Int)
  | none => 0
theorem take_ok {s : Pl} (h : s.Ok) (o : Int) : (s.take o).Ok := by
  unfold Pl.take
  split
  · rename_i f hf
    have ho : 0 ≤ o ∧ o < 4 := by
      unfold takeF at hf
      split at hf
      · rename_i hm
        simp [mayTake, isO] at hm
        exact hm.1
      · cases hf
    refine ⟨fun k hk => ?_, h.prom⟩
    unfold Pl.wipe Pl.setOwn updI
    dsimp only
    split
    · omega
    · exact h.own k hk
  · exact h
def z64 : Array Value := (List.replicate 64 (Value.int .u8 0)).toArray
theorem held_len (s : Pl) (o : Int) : (held s o).length ≤ 256 := by
  unfold held
  split
  · exact heldN_le s o 256
  · simp

set_option maxRecDepth 100000 in
theorem take_any (w : World) (g : Nat) (s : Pl) (o : Int) (h : Pool w g s) (hok : s.Ok) :
    Calls Tryd.prog 75 #[.pointer (some ⟨g, 0, none⟩), .int .i64 o] w fun e w' => e = .returned (.tuple #[.int .i64 (takeV s o), .int .i64 (takeE s o)]) ∧ Pool w' g (s.take o) ∧ Fr (· = g) w w' := by
  have hf := fun w => is_any w o
  have Hf := Lib.hid hf
  clear hf
  cases hb : isO o
  · have e0 : takeF s o = none := by simp [takeF, mayTake, hb]
    have e1 : takeV s o = 0 := by simp [takeV, e0]
    have e2 : takeE s o = 1 := by simp [takeE, hb]
    have e3 : s.take o = s := by simp [Pl.take, e0]
    rw [e1, e2, e3]
    rw [hb] at Hf
    clear hb e0 e1 e2 e3
    go_enter Tryd.func75, Tryd.ntmps75
    go_wp2_with fail
    refine (Hf.out _).mono ?_
    rintro e w' ⟨rfl, rfl⟩
    go_wp2_with fail
    go_ret2
    exact ⟨rfl, h, Fr.refl _ _⟩
  · rw [hb] at Hf
    obtain ⟨ho1, ho2⟩ : 0 ≤ o ∧ o < 4 := by simpa [isO] using hb
    obtain ⟨m, rfl⟩ : ∃ k : Nat, o = k := ⟨o.toNat, by omega⟩
    have hm4 : m < 4 := by omega
    have c := h.cProm m hm4
    have hlt := h.lt
    have hheld := Lib.hid (held_any w.drew g s m (h.drew) w.heap.size (Nat.le_refl _))
    have hhl := held_len s m
    have hmt : mayTake s m = decide (((held s m).length : Int) < s.prom m) := by simp [mayTake, hb]
    have hpm := hok.prom m hm4
    obtain ⟨hp0, hp1⟩ := hpm
    by_cases hfull : ((held s m).length : Int) < s.prom m
    · have hmt : mayTake s m = true := by rw [hmt]; simpa using hfull
      have eF : takeF s m = takeN s := by rw [takeF, if_pos hmt]
      have EF := Lib.hid eF
      have HB := Lib.hid hb
      clear eF hmt hb
      generalize hq : (held s m).length = hn at *
      have Hhl := Lib.hid hq
      clear hq
      go_enter Tryd.func75, Tryd.ntmps75
      go_wp2_with fail
      refine (Hf.out _).mono ?_
      rintro e w' ⟨rfl, rfl⟩
      go_wp2_with fail
      go_region_with ((go_at_call 77; refine (hheld.out).mono ?_; rintro e w1 ⟨v, rfl, ho5, f5, k5⟩; rw [Hhl.out] at ho5; have c5 := f5.cell (w := w.drew) c hlt (fun e => e); obtain ⟨A5, cap5, hv5⟩ := ownI_any ho5; subst hv5))
      all_goals
        have hP1 : Pool w1 g s := h.drew.fr f5 (fun e => e)
        have fr1 : Fr (fun k => k = g) w w1 := ((Fr.refl _ w).drew).tr (Fr.none f5)
        go_wp2_with fail
        go_loop [6] (fun i => ∃ k : Nat, 16 ≤ k ∧ k ≤ 256 ∧ i = .int .i64 k ∧ NoFree s k) (fun i => 256 - (intOf i).toNat)
        case atStart => exact ⟨16, by omega, by omega, rfl, fun j h1 h2 => by omega⟩
        case round =>
          obtain ⟨k, h16, hk, rfl, hNF⟩ := hrel
          by_cases hlt2 : k < 256
          · have c := hP1.cOwn k hlt2
            by_cases ho : s.own k = -1
            · have z := Cells.frozen hP1 (16384 + k)
              have hp1 := hP1.setOwn k hlt2 m
              have hth := Cells.there hp1 (k * 64) z64.size (by simp [z64]; omega)
              have hinf : (Tryd.prog.info? 109).map (·.size) = some z64.size := by kernel_rfl
              have hone : z64.all (·.oneCell') = true := all_oneCell_toArray (fun v hv => by rw [List.eq_of_mem_replicate hv]; rfl)
              have hp2 := hp1.wipe k hlt2
              have fr2 := Fr.setRow (List.replicate 64 (.int .u8 0)) (k * 64) (fr1.setCell (p := ⟨g, 16384 + k, none⟩) (.inl rfl) (.int .i64 m)) (.inl rfl)
              have e0 : takeF s m = some k := (EF.out).trans (takeN_some hNF h16 hlt2 ho)
              have e1 : takeV s m = k := by simp [takeV, e0]
              have e2 : takeE s m = 0 := by simp [takeE, e0, HB.out]
              have e3 : s.take m = (s.setOwn k m).wipe k := by simp [Pl.take, e0]
              have HP2 := Lib.hid hp2
              have FR2 := Lib.hid fr2
              have E1 := Lib.hid e1
              have E2 := Lib.hid e2
              have E3 := Lib.hid e3
              have hz : z64.toList = List.replicate 64 (Value.int .u8 0) := by simp [z64]
              have HZ := Lib.hid hz
              rw [ho] at c
              clear hp1 hp2 fr2 e0 e1 e2 e3 ho hz
              go_wp2_with (refine wpList_store_mid rfl 109 (.tmp 45) (.tmp 42) rfl g (k * 64) z64 rfl rfl hth hinf hone ?_)
              go_ret2
              rw [HZ.out]
              exact ⟨by rw [E1.out, E2.out]; rfl, by rw [E3.out]; exact HP2.out, FR2.out⟩
            · have ho' : (s.own k == -1) = false := by simpa using ho
              have hNF2 : NoFree s (k + 1) := fun j h1 h2 => by
                by_cases e : j = k
                · rw [e]; exact ho
                · exact hNF j h1 (by omega)
              clear ho
              go_wp2_with fail
              go_round
              case rel => exact ⟨k + 1, by omega, by omega, by go_num, hNF2⟩
              case measure => simp [intOf]; omega
          · have e : k = 256 := by omega
            subst e
            have e0 : takeF s m = none := (EF.out).trans (takeN_none hNF)
            have e1 : takeV s m = 0 := by simp [takeV, e0]
            have e2 : takeE s m = 13 := by simp [takeE, e0, HB.out]
            have e3 : s.take m = s := by simp [Pl.take, e0]
            have E1 := Lib.hid e1
            have E2 := Lib.hid e2
            have E3 := Lib.hid e3
            clear e0 e1 e2 e3
            go_wp2_with fail
            go_ret2
            exact ⟨by rw [E1.out, E2.out]; rfl, by rw [E3.out]; exact hP1, fr1⟩
    · have hmt : mayTake s m = false := by rw [hmt]; simpa using hfull
      have e0 : takeF s m = none := by simp [takeF, hmt]
      have e1 : takeV s m = 0 := by simp [takeV, e0]
      have e2 : takeE s m = 13 := by simp [takeE, e0, hb]
      have e3 : s.take m = s := by simp [Pl.take, e0]
      rw [e1, e2, e3]
      clear e0 e1 e2 e3 hmt hb
      generalize hq : (held s m).length = hn at *
      have Hhl := Lib.hid hq
      have hfull' : s.prom m ≤ (hn : Int) := by omega
      clear hq hfull
      go_enter Tryd.func75, Tryd.ntmps75
      go_wp2_with fail
      refine (Hf.out _).mono ?_
      rintro e w' ⟨rfl, rfl⟩
      go_wp2_with fail
      go_region_with ((go_at_call 77; refine (hheld.out).mono ?_; rintro e w1 ⟨v, rfl, ho5, f5, k5⟩; rw [Hhl.out] at ho5; have c5 := f5.cell (w := w.drew) c hlt (fun e => e); obtain ⟨A5, cap5, hv5⟩ := ownI_any ho5; subst hv5))
      all_goals
        have hP1 : Pool w1 g s := h.drew.fr f5 (fun e => e)
        have fr1 : Fr (fun k => k = g) w w1 := ((Fr.refl _ w).drew).tr (Fr.none f5)
        go_wp2_with fail
        go_ret2
        exact ⟨rfl, hP1, fr1⟩
end Go.Proofs.YthiephlfhbkcbaaDoor.Fm
