/- innkeeperbook's lists of bytes: Same, Roomy, Intact. -/
import Derived.Test.YtnlkcmjnohageaaConsoleLaws
import Derived.Laws.CopyOwn
namespace Go.Proofs.Ytnlkcmjnohageaa.Bk
open Go.RowKit Co
set_option linter.unusedVariables false

set_option maxRecDepth 100000 in
theorem same_eq (w : World) (B B' n c c' : Nat) (A A' : Option Addr) (zs : List Int) (hA : IntsAt .u8 w B A n zs) (hB : B ≤ w.heap.size) (hA' : IntsAt .u8 w B' A' n zs) (hB' : B' ≤ w.heap.size) (hm : n ≤ 1000000) :
    Calls Try.prog 30 #[.slice A n c, .slice A' n c'] w fun e w' => e = .returned (.bool true) ∧ Fr (fun _ => False) w w' := by
  go_enter Try.func30, Try.ntmps30
  go_wp2_with fail
  go_loopw [5] (fun i wr => ∃ k : Nat, k ≤ n ∧ i = .int .i64 k ∧ Fr (fun _ => False) w wr) (fun i _ => n - (intOf i).toNat)
  case atStart => exact ⟨0, by omega, rfl, Fr.refl _ _⟩
  case round =>
    obtain ⟨k, hk, rfl, fr⟩ := hrel
    by_cases hlt : k < n
    · obtain ⟨b, off, rfl, hb, hc⟩ := (hA.fr fr hB (fun _ _ e => e)).at_ hlt
      obtain ⟨b', off', rfl, hb', hc'⟩ := (hA'.fr fr hB' (fun _ _ e => e)).at_ hlt
      have h0 : (0 : Int) ≤ (k : Int) := by omega
      have h1 : (k : Int) < (n : Int) := by omega
      generalize zs.getD k 0 = z at *
      go_wp2_with fail
      go_quiet (fail)
      go_wp2_with fail
      exact ⟨⟨k + 1, by omega, by go_num, fr.drewN _⟩, by simp [intOf]; omega⟩
    · go_wp2_with fail
      go_ret
      exact ⟨rfl, fr⟩

def marks (m : Int) : List Int := List.replicate 80 m
/-- innkeeperbook.Roomy at bytes: the list, and 80 marks behind it, in a new block -/
def RoomyP (w : World) (n : Nat) (zs : List Int) (m : Int) (e : Ending) (w' : World) : Prop :=
  e = .returned (.slice (some ⟨w.heap.size, 0, none⟩) (n + 80) (n + 80)) ∧ Blk w' w.heap.size 5 (by8 (zs ++ marks m)).toArray ∧ Fr (fun _ => False) w w'
def filled (zs : List Int) (m : Int) (j : Nat) : List Int := zs ++ List.replicate j m ++ List.replicate (80 - j) 0
theorem filled_set (zs : List Int) (m : Int) (j : Nat) (hj : j < 80) : (filled zs m j).set (zs.length + j) m = filled zs m (j + 1) := by
  unfold filled
  have e : List.replicate (80 - j) (0 : Int) = 0 :: List.replicate (80 - (j + 1)) 0 := by
    rw [show 80 - j = (80 - (j + 1)) + 1 by omega, List.replicate_succ]
  rw [e, List.set_append_right _ _ (by simp)]
  simp [List.replicate_succ']
theorem filled_len (zs : List Int) (m : Int) (j : Nat) (hj : j ≤ 80) : (filled zs m j).length = zs.length + 80 := by
  simp [filled]; omega
theorem splice_zero (zs : List Int) (m : Int) : Go.splice (by8 (zeros (zs.length + 80))) 0 (by8 zs) = by8 (filled zs m 0) := by
  simp [Go.splice, by8, zeros, filled]

set_option maxRecDepth 100000 in
set_option maxHeartbeats 1000000 in
theorem roomy_any (w : World) (B n c : Nat) (A : Option Addr) (zs : List Int) (hA : IntsAt .u8 w B A n zs) (hB : B ≤ w.heap.size) (hn : n ≤ 1000) (m : Int) :
    Calls Try.prog 25 #[.slice A n c, .int .u8 m] w (RoomyP w n zs m) := by
  have hmk := run_make8 (n + 80) (by omega)
  have e80 : ((n + 80 : Nat) : Int) = (n : Int) + 80 := by omega
  rw [e80] at hmk
  have hlen := Lib.hid hA.1
  have hb0 : Blk (w.alloc (.cells (zcells (n + 80)) 5)) w.heap.size 5 (by8 (zeros (n + 80))).toArray := by
    have := Blk.new w 5 (zcells (n + 80))
    have e : zcells (n + 80) = (by8 (zeros (n + 80))).toArray := by
      apply Array.ext'
      rw [zcells, toList_madeCells_one]
      simp [zeros, by8]
    rw [e] at this ⊢
    exact this
  have hb1 : Below w.heap.size w (w.alloc (.cells (zcells (n + 80)) 5)) := (Below.refl _ _).alloc (Nat.le_refl _) _
  have hA1 := hA.fr ((Fr.refl (fun _ => False) w).alloc (.cells (zcells (n + 80)) 5)) hB (fun _ _ e => e)
  have hR := intsAt_reads hA1
  have hsz : (Try.prog.info? 5).map (·.size) = some 1 := by
    obtain ⟨i0, hi0, hz0, hz1, hz2⟩ := info_parts info8
    rw [hi0]; simp [hz1]
  go_enter Try.func25, Try.ntmps25
  go_wp2_with
    (refine wpList_copy_splice rfl (.tmp 11) (.tmp 12) 33 33 rfl 5 Try.underlying33 hsz (some ⟨w.heap.size, 0, none⟩) A (n + 80) (n + 80) n c rfl rfl w.heap.size 0 (by8 (zeros (n + 80))) 5 hb0 (by8 zs) ?_ ?_ ?_ oneCell_ints w.heap.size w hb1 (Nat.le_refl _) ?_
     · rw [by8_len, hlen.out]; show _ = min n (n + 80); omega
     · intro hp
       rw [by8_len, hlen.out] at hp
       obtain ⟨ad, e, _, hc⟩ := hR.2 hp
       exact ⟨rfl, ad, e, hc⟩
     · rw [by8_len, by8_len, hlen.out, zeros_len]; omega
     intro w2 hw2 hb2)
  have fr2 : Fr (fun _ => False) w w2 := Fr.of_below hb2
  have hs0 : Go.splice (by8 (zeros (n + 80))) 0 (by8 zs) = by8 (filled zs m 0) := by rw [← hlen.out]; exact splice_zero zs m
  have bl0 : Blk w2 w.heap.size 5 (by8 (filled zs m 0)).toArray := by have := hw2.out; rw [hs0] at this; exact this
  clear hs0 hw2 hb2 hA1 hR hb0 hb1 hmk e80
  go_wp2_with fail
  go_loopw [6] (fun i wr => ∃ j : Nat, j ≤ 80 ∧ i = .int .i64 ((n : Int) + (j : Int)) ∧ Blk wr w.heap.size 5 (by8 (filled zs m j)).toArray ∧ Fr (fun _ => False) w wr) (fun i _ => (n + 80) - (intOf i).toNat)
  case atStart => exact ⟨0, by omega, by simp, bl0, fr2⟩
  case round =>
    clear bl0 fr2
    obtain ⟨j, hj, rfl, bl, fr⟩ := hrel
    by_cases hlt : j < 80
    · have c0 := bl.cell (n + j)
      have f0 := bl.frozen (n + j)
      have hcell : wr.cell? ⟨w.heap.size, n + j, none⟩ = some (.int .u8 ((filled zs m j).getD (n + j) 0)) := by
        rw [c0]
        have hl := filled_len zs m j (by omega)
        have := hlen.out
        simp [by8, show n + j < (filled zs m j).length by omega]
      have bl2 := bl.set_ (n + j) (.int .u8 m)
      have e2 : (by8 (filled zs m j)).toArray.setIfInBounds (n + j) (.int .u8 m) = (by8 (filled zs m (j + 1))).toArray := by
        rw [← filled_set zs m j hlt, hlen.out]
        simp [by8, List.map_set]
      rw [e2] at bl2
      have fr2 := fr.setCell (p := ⟨w.heap.size, n + j, none⟩) (.inr (Nat.le_refl _)) (.int .u8 m)
      clear e2 c0 bl
      generalize (filled zs m j).getD (n + j) 0 = old at *
      have q0 : (0 : Int) ≤ (n : Int) + (j : Int) := by omega
      have q1 : (n : Int) + (j : Int) < (n : Int) + 80 := by omega
      go_wp2_with fail
      go_roundw
      case rel => exact ⟨j + 1, by omega, by congr 1 <;> omega, bl2, fr2⟩
      case measure => simp [intOf]; omega
    · have hj80 : j = 80 := by omega
      subst hj80
      have e3 : filled zs m 80 = zs ++ marks m := by simp [filled, marks]
      rw [e3] at bl
      clear e3
      go_wp2_with fail
      go_ret
      exact ⟨rfl, bl, fr⟩

theorem roomy_ints {w w' : World} {g B n : Nat} {A : Option Addr} {zs : List Int} {m : Int} (hm : (Lit.int .u8 m).wf = true) (hF : Blk w g 5 (by8 (zs ++ marks m)).toArray) (hA : IntsAt .u8 w' B A n zs) : IntsAt .u8 w (g + 1) (some ⟨g, 0, none⟩) n zs := by
  have hw : ∀ z ∈ zs ++ marks m, (Lit.int .u8 z).wf = true := by
    intro z hz
    rcases List.mem_append.1 hz with h | h
    · obtain ⟨i, hi, rfl⟩ := List.getElem_of_mem h
      have := hA.2.1 i (by have := hA.1; omega)
      simpa [hi] using this
    · have : z = m := List.eq_of_mem_replicate h
      subst this
      exact hm
  have hI := intsAt_lit (zs ++ marks m) hF (wf_list hw)
  have hfl : (zs ++ marks m).length = n + 80 := by rw [List.length_append, hA.1]; simp [marks]
  rw [hfl] at hI
  have hI2 := hI.take (show n ≤ n + 80 by omega)
  have htk : (zs ++ marks m).take n = zs := by rw [← hA.1]; simp
  rw [htk] at hI2
  exact hI2

set_option maxRecDepth 100000 in
set_option maxHeartbeats 1000000 in
theorem intact_any (w : World) (g B n c : Nat) (A : Option Addr) (zs : List Int) (m : Int) (hm : (Lit.int .u8 m).wf = true) (hF : Blk w g 5 (by8 (zs ++ marks m)).toArray) (hA : IntsAt .u8 w B A n zs) (hB : B ≤ w.heap.size) (hn : n ≤ 1000) :
    Calls Try.prog 26 #[.slice (some ⟨g, 0, none⟩) (n + 80) (n + 80), .slice A n c, .int .u8 m] w fun e w' => e = .returned (.bool true) ∧ Fr (fun _ => False) w w' := by
  have hlen := Lib.hid hA.1
  have hw : ∀ z ∈ zs ++ marks m, (Lit.int .u8 z).wf = true := by
    intro z hz
    rcases List.mem_append.1 hz with h | h
    · obtain ⟨i, hi, rfl⟩ := List.getElem_of_mem h
      have := hA.2.1 i (by have := hA.1; omega)
      simpa [hi] using this
    · have : z = m := List.eq_of_mem_replicate h
      subst this
      exact hm
  have hI := intsAt_lit (zs ++ marks m) hF (wf_list hw)
  have hfl : (zs ++ marks m).length = n + 80 := by rw [List.length_append, hlen.out]; simp [marks]
  rw [hfl] at hI
  have hI2 := hI.take (show n ≤ n + 80 by omega)
  have htk : (zs ++ marks m).take n = zs := by rw [← hlen.out]; simp
  rw [htk] at hI2
  have hgl := hF.lt
  have hcell : ∀ j, j < 80 → w.cell? ⟨g, n + j, none⟩ = some (.int .u8 m) := by
    intro j hj
    rw [hF.cell]
    have := hlen.out
    have e : (by8 (zs ++ marks m))[n + j]? = some (.int .u8 m) := by
      rw [← this]
      have e1 : by8 (zs ++ marks m) = by8 zs ++ List.replicate 80 (.int .u8 m) := by simp only [by8, marks, List.map_append, List.map_replicate]
      rw [e1, List.getElem?_append_right (by rw [by8_len]; omega), by8_len, List.getElem?_replicate, if_pos (by omega)]
    simpa using e
  have hsl : ∀ W, (Instr.slice 33 (.slice (some ⟨g, 0, none⟩) (n + 80) (n + 80)) none (some (.int .i64 (n : Int))) none).run Try.prog W = .ok (.slice (some ⟨g, 0, none⟩) n (n + 80)) W := fun W => run_slice8h _ (n + 80) (n + 80) n (by omega) W
  have HC := Lib.hid hcell
  clear hcell hI hfl htk
  go_enter Try.func26, Try.ntmps26
  go_wp2_with fail
  refine (same_eq w (g + 1) B n _ _ _ _ zs hI2 hgl hA hB (by omega)).mono ?_
  rintro e w1 ⟨rfl, f1⟩
  go_wp2_with fail
  go_loop [7] (fun i => ∃ j : Nat, j ≤ 80 ∧ i = .int .i64 ((n : Int) + (j : Int))) (fun i => (n + 80) - (intOf i).toNat)
  case atStart => exact ⟨0, by omega, by simp⟩
  case round =>
    obtain ⟨j, hj, rfl⟩ := hrel
    by_cases hlt : j < 80
    · have c1 := f1.cell (HC.out j hlt) hgl (fun e => e)
      have q0 : (0 : Int) ≤ (n : Int) + (j : Int) := by omega
      have q1 : (n : Int) + (j : Int) < (n : Int) + 80 := by omega
      go_wp2_with fail
      go_round
      case rel => exact ⟨j + 1, by omega, by congr 1 <;> omega⟩
      case measure => simp [intOf]; omega
    · have hj80 : j = 80 := by omega
      subst hj80
      go_wp2_with fail
      go_ret
      exact ⟨rfl, f1⟩
end Go.Proofs.Ytnlkcmjnohageaa.Bk
