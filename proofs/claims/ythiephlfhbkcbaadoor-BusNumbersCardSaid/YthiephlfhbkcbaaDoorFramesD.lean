/- The host's memory, IV: Promise, Take. -/
import Derived.Test.YthiephlfhbkcbaaDoorFramesC
namespace Go.Proofs.YthiephlfhbkcbaaDoor.Fm
open Go.RowKit
set_option linter.unusedVariables false
set_option maxHeartbeats 4000000

/-- all promises below k -/
def sumP (s : Pl) : Nat → Int
  | 0 => 0
  | k + 1 => sumP s k + max (s.prom k) 0
theorem sumP_bd {s : Pl} (h : s.Ok) : ∀ k, k ≤ 4 → 0 ≤ sumP s k ∧ sumP s k ≤ 64 * k := by
  intro k
  induction k with
  | zero => intro _; simp [sumP]
  | succ k ih =>
    intro hk
    have := ih (by omega)
    have := h.prom k (by omega)
    rw [sumP]
    omega
/-- P5.1: the number of a refusal; 0 of none -/
def promR (s : Pl) (o n : Int) : Int :=
  if isO o = false ∨ n < 0 ∨ 64 < n then 1 else if s.prom o.toNat ≠ -1 then 24 else if 240 < n + sumP s 4 then 13 else 0
def Pl.promise (s : Pl) (o n : Int) : Pl := if promR s o n = 0 then s.setProm o.toNat n else s
theorem promise_ok {s : Pl} (h : s.Ok) (o n : Int) : (s.promise o n).Ok := by
  unfold Pl.promise
  split
  · rename_i hr
    have hn : isO o = true ∧ 0 ≤ n ∧ n ≤ 64 := by
      unfold promR at hr
      split at hr
      · omega
      · rename_i hh; simp at hh; exact hh
    refine ⟨h.own, fun k hk => ?_⟩
    unfold Pl.setProm updI
    dsimp only
    split
    · omega
    · exact h.prom k hk
  · exact h

def proms (s : Pl) : List Value := [.int .i64 (s.prom 0), .int .i64 (s.prom 1), .int .i64 (s.prom 2), .int .i64 (s.prom 3)]
theorem proms_at (s : Pl) (k : Nat) (hk : k < 4) : (proms s)[k]? = some (.int .i64 (s.prom k)) := by
  rcases (by omega : k = 0 ∨ k = 1 ∨ k = 2 ∨ k = 3) with rfl | rfl | rfl | rfl <;> rfl

set_option maxRecDepth 100000 in
theorem promise_any (w : World) (g : Nat) (s : Pl) (o n : Int) (h : Pool w g s) (hok : s.Ok) (hn0 : -9223372036854775808 ≤ n) (hn1 : n ≤ 9223372036854775807) :
    Calls Tryd.prog 61 #[.pointer (some ⟨g, 0, none⟩), .int .i64 o, .int .i64 n] w fun e w' => e = .returned (.int .i64 (promR s o n)) ∧ Pool w' g (s.promise o n) ∧ Fr (· = g) w w' := by
  have hf := fun w => is_any w o
  have Hf := Lib.hid hf
  clear hf
  cases hb : isO o
  · have e1 : promR s o n = 1 := by simp [promR, hb]
    have e2 : s.promise o n = s := by simp [Pl.promise, e1]
    rw [e1, e2]
    rw [hb] at Hf
    clear hb e1 e2
    go_enter Tryd.func61, Tryd.ntmps61
    go_wp2_with fail
    refine (Hf.out _).mono ?_
    rintro e w' ⟨rfl, rfl⟩
    go_wp2_with fail
    go_ret
    exact ⟨rfl, h, Fr.refl _ _⟩
  · rw [hb] at Hf
    by_cases hn : n < 0
    · have e1 : promR s o n = 1 := by simp [promR, hn]
      have e2 : s.promise o n = s := by simp [Pl.promise, e1]
      rw [e1, e2]
      clear hb e1 e2
      go_enter Tryd.func61, Tryd.ntmps61
      go_wp2_with fail
      refine (Hf.out _).mono ?_
      rintro e w' ⟨rfl, rfl⟩
      go_wp2_with fail
      go_ret
      exact ⟨rfl, h, Fr.refl _ _⟩
    · by_cases hn2 : 64 < n
      · have e1 : promR s o n = 1 := by simp [promR, hn2]
        have e2 : s.promise o n = s := by simp [Pl.promise, e1]
        rw [e1, e2]
        have hn' : decide (n < 0) = false := by simpa using hn
        clear hb e1 e2 hn
        go_enter Tryd.func61, Tryd.ntmps61
        go_wp2_with fail
        refine (Hf.out _).mono ?_
        rintro e w' ⟨rfl, rfl⟩
        go_wp2_with fail
        go_ret
        exact ⟨rfl, h, Fr.refl _ _⟩
      · obtain ⟨ho1, ho2⟩ : 0 ≤ o ∧ o < 4 := by simpa [isO] using hb
        obtain ⟨k, rfl⟩ : ∃ k : Nat, o = k := ⟨o.toNat, by omega⟩
        have hk4 : k < 4 := by omega
        have c := h.cProm k hk4
        have z := Cells.frozen h (16640 + k)
        by_cases hp : s.prom k = -1
        · have hr : w.rangeAt g 16640 (proms s) := Cells.rangeAt h 16640 _ (by simp [proms]) (fun j hj => by
            have hj4 : j < 4 := by simpa [proms] using hj
            rw [proms_at s j hj4, pcell, if_neg (by omega), if_neg (by omega), show 16640 + j - 16640 = j by omega])
          have hix : ∀ (j : Nat), j < 4 → ∀ w, (Instr.index 112 (.agg (proms s).toArray) (.int .i64 (j : Int))).run Tryd.prog w = .ok (.int .i64 (s.prom j)) w := fun j hj w =>
            run_index_one w _ 3 4 _ j _ _ Tryd.underlying112 hj Tryd.underlying3 rfl (by kernel_rfl) (proms_at s j hj) .i64
          have Hix := Lib.hid hix
          have hinf : (Tryd.prog.info? 112).map (·.size) = some (proms s).length := by kernel_rfl
          have hbd := sumP_bd hok
          have Hbd := Lib.hid hbd
          have hpw := h.setProm k hk4 n
          have Hpw := Lib.hid hpw
          have e1 : promR s k n = if 240 < n + sumP s 4 then 13 else 0 := by simp [promR, hb, hn, hn2, hp]
          have E1 := Lib.hid e1
          have E2 := Lib.hid (show s.promise k n = if 240 < n + sumP s 4 then s else s.setProm k n by
            unfold Pl.promise
            rw [e1]
            by_cases hh : 240 < n + sumP s 4
            · rw [if_pos hh, if_pos hh, if_neg (by omega)]
            · rw [if_neg hh, if_neg hh, if_pos rfl]; rfl)
          have hn' : decide (n < 0) = false := by simpa using hn
          have hn2' : decide (64 < n) = false := by simpa using hn2
          have hn3 : 0 ≤ n := by omega
          have hn4 : n ≤ 64 := by omega
          rw [hp] at c
          clear hix hbd hpw e1 hp hb hn hn2
          go_enter Tryd.func61, Tryd.ntmps61
          go_wp2_with fail
          refine (Hf.out _).mono ?_
          rintro e w' ⟨rfl, rfl⟩
          go_wp2_with (refine wpList_load_mid rfl 112 (.tmp 33) rfl g 16640 rfl _ _ hr Tryd.underlying112 rfl hinf ?_)
          clear hr hinf
          go_loop [7, 35] (fun a i => ∃ j : Nat, j ≤ 4 ∧ i = .int .i64 j ∧ a = .int .i64 (n + sumP s j)) (fun _ i => 4 - (intOf i).toNat)
          case atStart => exact ⟨0, by omega, rfl, by simp [sumP]⟩
          case round =>
            obtain ⟨j, hj, rfl, rfl⟩ := hrel
            by_cases hlt : j < 4
            · have hi := Hix.out j hlt
              obtain ⟨hb0, hb1⟩ := Hbd.out j hj
              have hpj := hok.prom j hlt
              have Hs := Lib.hid (show sumP s (j + 1) = sumP s j + max (s.prom j) 0 from rfl)
              generalize sumP s j = sj at *
              generalize s.prom j = pj at *
              go_wp2_with fail
              all_goals
                go_round
                case rel => exact ⟨j + 1, by omega, by go_num, by rw [Hs.out]; congr 1; omega⟩
                case measure => simp [intOf]; omega
            · have e4 : j = 4 := by omega
              subst e4
              obtain ⟨hb0, hb1⟩ := Hbd.out 4 (by omega)
              generalize sumP s 4 = s4 at *
              by_cases hh : 240 < n + s4
              · have H1 := Lib.hid (E1.out.trans (if_pos hh))
                have H2 := Lib.hid (E2.out.trans (if_pos hh))
                go_wp2_with fail
                go_ret
                exact ⟨by rw [H1.out]; rfl, by rw [H2.out]; exact h, Fr.refl _ _⟩
              · have H1 := Lib.hid (E1.out.trans (if_neg hh))
                have H2 := Lib.hid (E2.out.trans (if_neg hh))
                go_wp2_with fail
                go_ret
                exact ⟨by rw [H1.out]; rfl, by rw [H2.out]; exact Hpw.out, Fr.set1 _ _ _ _⟩
        · have e1 : promR s k n = 24 := by simp [promR, hb, hn, hn2, hp]
          have e2 : s.promise k n = s := by simp [Pl.promise, e1]
          rw [e1, e2]
          have hn' : decide (n < 0) = false := by simpa using hn
          have hn2' : decide (64 < n) = false := by simpa using hn2
          have hp' : (s.prom k != -1) = true := by simpa using hp
          clear hb e1 e2 hn hn2 hp
          go_enter Tryd.func61, Tryd.ntmps61
          go_wp2_with fail
          refine (Hf.out _).mono ?_
          rintro e w' ⟨rfl, rfl⟩
          go_wp2_with fail
          go_ret
          exact ⟨rfl, h, Fr.refl _ _⟩
end Go.Proofs.YthiephlfhbkcbaaDoor.Fm
