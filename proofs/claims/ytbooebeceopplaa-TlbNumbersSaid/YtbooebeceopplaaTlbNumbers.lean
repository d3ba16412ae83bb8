/- TlbNumbers: the walk. -/
import Derived.Test.YtbooebeceopplaaTlbDo
namespace Go.Proofs.Ytbooebeceopplaa.tlbNumbers
open Go.RowKit Tl
set_option linter.unusedVariables false
set_option maxHeartbeats 8000000

/-- the nine calls of a round -/
def acell (b : Int) (i : Nat) : Int × Int × Int × Int × Int :=
  [(1, 1, 192, 7, b), (0, 0, 255, 0, 0), (0, 0, 1216, 0, 0), (1, 1, 4294967295, 4294967295, b), (2, 0, 1216, 0, 0), (2, 0, 192, 0, 0), (1, 5, 64, 0, 0), (3, 0, 0, 0, 0), (0, 0, 0, 0, 0)].getD i (0, 0, 0, 0, 0)
theorem acell_va (b : Int) (i : Nat) (hi : i < 9) : 0 ≤ (acell b i).2.2.1 ∧ (acell b i).2.2.1 ≤ 4294967295 := by
  rcases (by omega : i = 0 ∨ i = 1 ∨ i = 2 ∨ i = 3 ∨ i = 4 ∨ i = 5 ∨ i = 6 ∨ i = 7 ∨ i = 8) with rfl | rfl | rfl | rfl | rfl | rfl | rfl | rfl | rfl <;> simp [acell]

set_option maxRecDepth 100000 in
theorem walk (w : World) : Calls Try.prog 5 #[] w fun e w' => e = .returned (.bool true) ∧ Fr (fun _ => False) w w' := by
  go_enter Try.func5, Try.ntmps5
  go_wp2_with fail
  go_loopw [1] (fun i wr => ∃ k : Nat, k ≤ 128 ∧ i = .int .u32 k ∧ Fr (fun _ => False) w wr) (fun i _ => 128 - (intOf i).toNat)
  case atStart => exact ⟨0, by omega, rfl, Fr.refl _ _⟩
  case round =>
    obtain ⟨k, hk, rfl, fr⟩ := hrel
    by_cases hlt : k < 128
    · go_wp2_with fail
      refine (new_any wr).mono ?_
      rintro e w1 ⟨rfl, b1, f1⟩
      go_wp2_with fail
      refine (uNew_any w1 none).mono ?_
      rintro e w2 ⟨rfl, u2, f2⟩
      have b2 := b1.fr f2 (fun e => e)
      have hB : ∃ l, Both w2 wr.heap.size w1.heap.size l := ⟨_, b2, u2, by have := b1.lt; omega⟩
      have fr2 := (fr.tr f1).tr f2
      have hs0 := fr.size
      have hs1 := f1.size
      generalize wr.heap.size = gb at *
      generalize w1.heap.size = gu at *
      clear b1 u2 b2 f1 f2 fr
      go_wp2_with fail
      have hlb1 : gb < w2.heap.size := by obtain ⟨l, hB⟩ := hB; exact hB.1.lt
      have hlb2 : gu < w2.heap.size := by obtain ⟨l, hB⟩ := hB; exact hB.2.1.lt
      go_loopw [27] (fun i wx => ∃ j : Nat, j ≤ 9 ∧ i = .int .i64 j ∧ (∃ cs, Blk wx w2.heap.size 36 cs ∧ ∀ i, i < 9 → cs[i * 6]? = some (.int .i64 (acell k i).1) ∧ cs[i * 6 + 1]? = some (.int .i64 (acell k i).2.1) ∧ cs[i * 6 + 2]? = some (.int .u32 (acell k i).2.2.1) ∧ cs[i * 6 + 3]? = some (.int .u32 (acell k i).2.2.2.1) ∧ cs[i * 6 + 4]? = some (.int .u32 (acell k i).2.2.2.2) ∧ cs[i * 6 + 5]? = some (.bool false)) ∧ (∃ l, Both wx gb gu l) ∧ Fr (fun _ => False) w wx) (fun i _ => 9 - (intOf i).toNat)
      case atStart =>
        obtain ⟨l, hB⟩ := hB
        refine ⟨0, by omega, rfl, ⟨_, Blk.new _ _ _, fun i hi => ?_⟩, ⟨l, hB.fr (S := fun _ => False) ((Fr.refl _ _).alloc _) (fun e => e) (fun e => e)⟩, fr2.alloc _⟩
        rcases (by omega : i = 0 ∨ i = 1 ∨ i = 2 ∨ i = 3 ∨ i = 4 ∨ i = 5 ∨ i = 6 ∨ i = 7 ∨ i = 8) with rfl | rfl | rfl | rfl | rfl | rfl | rfl | rfl | rfl <;> exact ⟨rfl, rfl, rfl, rfl, rfl, rfl⟩
      case round =>
        clear hB fr2
        obtain ⟨j, hj, rfl, ⟨cs, hC, hcs⟩, ⟨l, hB⟩, fr2⟩ := hrel
        by_cases hlt2 : j < 9
        · obtain ⟨c0, c1, c2, c3, c4, c5⟩ := hcs j hlt2
          have q0 := (hC.cell _).trans c0
          have q1 := (hC.cell _).trans c1
          have q2 := (hC.cell _).trans c2
          have q3 := (hC.cell _).trans c3
          have q4 := (hC.cell _).trans c4
          have q5 := (hC.cell _).trans c5
          have hlC := hC.lt
          obtain ⟨hv0, hv1⟩ := acell_va k j hlt2
          have Hcs := Lib.hid hcs
          clear c0 c1 c2 c3 c4 c5 hcs
          generalize acell k j = ac at *
          obtain ⟨a0, a1, a2, a3, a4⟩ := ac
          dsimp only at q0 q1 q2 q3 q4 hv0 hv1
          go_wp2_with fail
          refine (do_any _ _ _ l a0 a1 a2 a3 a4 false hv0 hv1 (hB.fr (S := fun _ => False) ((Fr.refl _ _).alloc _) (fun e => e) (fun e => e))).mono ?_
          rintro e w5 ⟨rfl, hB5, f5⟩
          go_wp2_with fail
          go_roundw
          case rel => exact ⟨j + 1, by omega, by go_num, ⟨cs, (hC.alloc _).fr f5 (by omega), Hcs.out⟩, hB5, (fr2.alloc _).trans f5 (fun i hi e => by omega)⟩
          case measure => simp [intOf]; omega
        · have e9 : j = 9 := by omega
          subst e9
          go_wp2_with fail
          go_roundw
          case rel => exact ⟨k + 1, by omega, by go_num, fr2⟩
          case measure => simp [intOf]; omega
    · go_wp2_with fail
      refine (known_any _).mono ?_
      rintro e w6 ⟨rfl, f6⟩
      go_wp2_with fail
      go_ret
      exact ⟨rfl, fr.tr f6⟩
end Go.Proofs.Ytbooebeceopplaa.tlbNumbers
