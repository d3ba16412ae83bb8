/- TimerNumbers: the walk. -/
import Derived.Test.YtnlkcmjnohageaaTimer
import Derived.LoopTactic
import Derived.Deep.LoopGhost
namespace Go.Proofs.Ytnlkcmjnohageaa.timerNumbers
open Go.RowKit
set_option linter.unusedVariables false


/-- n numbers of a kind lie in block g -/
def Row (kd : IntKind) (hi : Int) (w : World) (g n : Nat) : Prop := g < w.heap.size ∧ ∀ k, k < n → ∃ x : Int, 0 ≤ x ∧ x ≤ hi ∧ w.cell? ⟨g, k, none⟩ = some (.int kd x)
theorem Row.fr {kd : IntKind} {hi : Int} {w w' : World} {g n : Nat} {S : Nat → Prop} (h : Row kd hi w g n) (f : Fr S w w') (hn : ¬ S g) : Row kd hi w' g n :=
  ⟨Nat.lt_of_lt_of_le h.1 f.size, fun k hk => by
    obtain ⟨x, h0, h1, hc⟩ := h.2 k hk
    exact ⟨x, h0, h1, f.cell hc h.1 hn⟩⟩
theorem row5 (w : World) : Row .u32 4294967295 (w.alloc (Obj.cells #[Value.int IntKind.u32 0, Value.int IntKind.u32 1, Value.int IntKind.u32 5, Value.int IntKind.u32 2147483647, Value.int IntKind.u32 4294967295] 22)) w.heap.size 5 := by
  refine ⟨by simp, fun k hk => ?_⟩
  have h := fun i => (Blk.new w 22 #[Value.int IntKind.u32 0, Value.int IntKind.u32 1, Value.int IntKind.u32 5, Value.int IntKind.u32 2147483647, Value.int IntKind.u32 4294967295]).cell i
  match k, hk with
  | 0, _ => exact ⟨0, by omega, by omega, h 0⟩
  | 1, _ => exact ⟨1, by omega, by omega, h 1⟩
  | 2, _ => exact ⟨5, by omega, by omega, h 2⟩
  | 3, _ => exact ⟨2147483647, by omega, by omega, h 3⟩
  | 4, _ => exact ⟨4294967295, by omega, by omega, h 4⟩
def cells9 : Array Value := #[Value.int IntKind.u64 0, Value.int IntKind.u64 1, Value.int IntKind.u64 4, Value.int IntKind.u64 5, Value.int IntKind.u64 6, Value.int IntKind.u64 4294967295, Value.int IntKind.u64 4294967296, Value.int IntKind.u64 4294967301, Value.int IntKind.u64 4611686018427387903]
theorem row9 (w : World) : Row .u64 4611686018427387903 (w.alloc (Obj.cells cells9 24)) w.heap.size 9 := by
  refine ⟨by simp, fun k hk => ?_⟩
  have h := fun i => (Blk.new w 24 cells9).cell i
  match k, hk with
  | 0, _ => exact ⟨0, by omega, by omega, h 0⟩
  | 1, _ => exact ⟨1, by omega, by omega, h 1⟩
  | 2, _ => exact ⟨4, by omega, by omega, h 2⟩
  | 3, _ => exact ⟨5, by omega, by omega, h 3⟩
  | 4, _ => exact ⟨6, by omega, by omega, h 4⟩
  | 5, _ => exact ⟨4294967295, by omega, by omega, h 5⟩
  | 6, _ => exact ⟨4294967296, by omega, by omega, h 6⟩
  | 7, _ => exact ⟨4294967301, by omega, by omega, h 7⟩
  | 8, _ => exact ⟨4611686018427387903, by omega, by omega, h 8⟩

set_option maxRecDepth 100000 in
set_option maxHeartbeats 2000000 in
theorem walk (w : World) :
    Calls Try.prog 3 #[] w fun e w' => e = .returned (.bool true) ∧ Fr (fun _ => False) w w' := by
  have r5 := row5 w
  go_enter Try.func3, Try.ntmps3
  go_wp2_with fail
  go_loopw [9] (fun i wr => ∃ k : Nat, k ≤ 5 ∧ i = .int .i64 k ∧ Row .u32 4294967295 wr w.heap.size 5 ∧ Fr (fun _ => False) w wr) (fun i _ => 5 - (intOf i).toNat)
  case atStart => exact ⟨0, Nat.zero_le _, rfl, r5, (Fr.refl _ _).alloc _⟩
  case round =>
    clear r5
    obtain ⟨k, hk, rfl, r5, fr⟩ := hrel
    obtain ⟨wo, rfl⟩ : ∃ wo : World, wo = wr := ⟨_, rfl⟩
    by_cases hlt : k < 5
    · obtain ⟨x, hx0, hx1, hc⟩ := r5.2 k hlt
      have r9 := row9 wo
      unfold cells9 at r9
      have hdk : decide ((k : Int) < 5) = true := by simp; omega
      go_wp2_with fail
      go_loopw [15] (fun i wr => ∃ j : Nat, j ≤ 9 ∧ i = .int .i64 j ∧ Row .u64 4611686018427387903 wr wo.heap.size 9 ∧ Fr (fun _ => False) wo wr) (fun i _ => 9 - (intOf i).toNat)
      case atStart => exact ⟨0, Nat.zero_le _, rfl, r9, (Fr.refl _ _).alloc _⟩
      case round =>
        clear r9
        obtain ⟨j, hj, rfl, r9, fj⟩ := hrel
        by_cases hlt2 : j < 9
        · obtain ⟨n, hn0, hn1, hc2⟩ := r9.2 j hlt2
          have hlt9 : wo.heap.size < wr.heap.size := r9.1
          go_wp2_with fail
          refine (Tm.new_any _).mono ?_
          rintro e w1 ⟨rfl, b1, f1⟩
          go_wp2_with fail
          refine (Tm.at_any _ _ _ b1).mono ?_
          rintro e w2 ⟨rfl, rfl⟩
          go_wp2_with fail
          refine (Tm.due_zero _ _ _ b1).mono ?_
          rintro e w2 ⟨rfl, rfl⟩
          go_wp2_with fail
          refine (Tm.set_any _ _ _ _ b1).mono ?_
          rintro e w2 ⟨rfl, b2, f2⟩
          have fj2 := (fj.tr f1).trans f2 (by intro i hi e; omega)
          have r9 := (r9.fr f1 (fun e => e)).fr f2 (by omega)
          clear f1 f2 fj b1
          by_cases hx : x = 0
          · subst hx
            go_wp2_with fail
            refine (Tm.at_any _ _ _ b2).mono ?_
            rintro e w3 ⟨rfl, rfl⟩
            go_wp2_with fail
            refine (Tm.due_zero _ _ _ b2).mono ?_
            rintro e w3 ⟨rfl, rfl⟩
            go_wp2_with fail
            refine (Tm.at_any _ _ _ b2).mono ?_
            rintro e w3 ⟨rfl, rfl⟩
            go_wp2_with fail
            go_roundw
            case rel => exact ⟨j + 1, by omega, by go_num, r9, fj2⟩
            case measure => simp [intOf]; omega
          · have hx' : (x != 0) = true := by simpa using hx
            by_cases hy : x ≤ n % 4294967296
            · have hd2 : Tm.dueB x n = true := by simp [Tm.dueB]; omega
              have hd3 : Tm.dueAt x n = 0 := by simp [Tm.dueAt, hd2]
              go_wp2_with fail
              refine (Tm.at_any _ _ _ b2).mono ?_
              rintro e w3 ⟨rfl, rfl⟩
              go_wp2_with fail
              refine (Tm.due_any _ _ _ _ b2).mono ?_
              rintro e w3 ⟨rfl, b3, f3⟩
              rw [hd3] at b3
              go_wp2_with fail
              refine (Tm.at_any _ _ _ b3).mono ?_
              rintro e w4 ⟨rfl, rfl⟩
              go_wp2_with fail
              refine (Tm.due_zero _ _ _ b3).mono ?_
              rintro e w4 ⟨rfl, rfl⟩
              go_wp2_with fail
              go_roundw
              case rel => exact ⟨j + 1, by omega, by go_num, r9.fr f3 (by omega), fj2.trans f3 (by intro i hi e; omega)⟩
              case measure => simp [intOf]; omega
            · have hd2 : Tm.dueB x n = false := by simp [Tm.dueB]; omega
              have hd3 : Tm.dueAt x n = x := by simp [Tm.dueAt, hd2]
              go_wp2_with fail
              refine (Tm.at_any _ _ _ b2).mono ?_
              rintro e w3 ⟨rfl, rfl⟩
              go_wp2_with fail
              refine (Tm.due_any _ _ _ _ b2).mono ?_
              rintro e w3 ⟨rfl, b3, f3⟩
              rw [hd3] at b3
              clear hd3
              go_wp2_with fail
              refine (Tm.at_any _ _ _ b3).mono ?_
              rintro e w4 ⟨rfl, rfl⟩
              go_wp2_with fail
              go_roundw
              case rel => exact ⟨j + 1, by omega, by go_num, r9.fr f3 (by omega), fj2.trans f3 (by intro i hi e; omega)⟩
              case measure => simp [intOf]; omega
        · go_wp2_with fail
          exact ⟨⟨k + 1, by omega, by go_num, r5.fr fj (fun e => e), fr.tr fj⟩, by simp [intOf]; omega⟩
    · go_wp2_with fail
      refine (Tm.known_any _).mono ?_
      rintro e w6 ⟨rfl, f6⟩
      go_wp2_with fail
      go_ret
      exact ⟨rfl, fr.tr f6⟩
end Go.Proofs.Ytnlkcmjnohageaa.timerNumbers
