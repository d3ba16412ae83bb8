/- innkeeperbook.Same at numbers. -/
import Derived.Test.YthiephlfhbkcbaaFramesF
import Derived.Test.YthiephlfhbkcbaaBook
namespace Go.Proofs.Ythiephlfhbkcbaa.Bk
open Go.RowKit Fm
set_option linter.unusedVariables false
set_option maxHeartbeats 4000000

set_option maxRecDepth 100000 in
theorem same64_eq (w : World) (B B' n c c' : Nat) (A A' : Option Addr) (zs : List Int) (hA : IntsAt .i64 w B A n zs) (hB : B ≤ w.heap.size) (hA' : IntsAt .i64 w B' A' n zs) (hB' : B' ≤ w.heap.size) (hm : n ≤ 1000000) :
    Calls Try.prog 80 #[.slice A n c, .slice A' n c'] w fun e w' => e = .returned (.bool true) ∧ Fr (fun _ => False) w w' := by
  go_enter Try.func80, Try.ntmps80
  go_wp2_with fail
  go_loopw [5] (fun i wr => ∃ k : Nat, k ≤ n ∧ i = .int .i64 k ∧ Fr (fun _ => False) w wr) (fun i _ => n - (intOf i).toNat)
  case atStart => exact ⟨0, by omega, rfl, Fr.refl _ _⟩
  case round =>
    obtain ⟨k, hk, rfl, fr⟩ := hrel
    by_cases hlt : k < n
    · obtain ⟨b, off, rfl, hb, hc⟩ := (hA.fr fr hB (fun _ _ e => e)).at_ hlt
      obtain ⟨b', off', rfl, hb', hc'⟩ := (hA'.fr fr hB' (fun _ _ e => e)).at_ hlt
      have h0 : (0 : Int) ≤ (k : Int) := by omega
      have h1 : (k : Int) < (n : Int) := by omega
      generalize zs.getD k 0 = z at *
      go_wp2_with fail
      go_quiet (fail)
      go_wp2_with fail
      exact ⟨⟨k + 1, by omega, by go_num, fr.drewN _⟩, by simp [intOf]; omega⟩
    · go_wp2_with fail
      go_ret
      exact ⟨rfl, fr⟩
/-- a row of the program's own numbers, as a list -/
theorem own_ints {k : IntKind} {w : World} {base n : Nat} {e : TypeId} {A : Option Addr} {c : Nat} {l : List Int} (h : w.ownsRow base e 1 (.slice A n c) n (l.map (Value.int k))) (hw : ∀ z ∈ l, (Lit.int k z).wf = true) : IntsAt k w w.heap.size A n l := by
  have hr := Reads.of_own h
  have hl : l.length = n := by simpa using hr.1
  refine ⟨hl, fun i hi => ?_, fun hn => ?_⟩
  · have e : l.getD i 0 = l[i]'(by omega) := by simp [show i < l.length by omega]
    rw [e]
    exact hw _ (List.getElem_mem _)
  · obtain ⟨ad, e, hb, hc⟩ := hr.2 hn
    have h0 := hc 0 (.int k (l.getD 0 0)) (by simp [show 0 < l.length by omega])
    obtain ⟨b, off, spot⟩ := ad
    have hspot : spot = none := by simpa [Addr.add] using World.cell?_spot h0
    subst hspot
    refine ⟨b, off, e, hb, fun i hi => ?_⟩
    have := hc i (.int k (l.getD i 0)) (by simp [show i < l.length by omega])
    rw [← this]
    unfold Addr.add
    split
    · rename_i h0; subst h0; rfl
    · rfl
end Go.Proofs.Ythiephlfhbkcbaa.Bk
