/- Law 23: key; rows of keys. -/
import Derived.Test.YtfjlgdafakbdoaaCaOpen
namespace Go.Proofs.Ytfjlgdafakbdoaa.Ca
open Go.RowKit Mz Go.Maps
set_option linter.unusedVariables false
set_option linter.unusedSimpArgs false
set_option maxHeartbeats 4000000

theorem key_any (w : World) (a b : Int) (ha : (Lit.int .u32 a).wf = true) (hb : (Lit.int .u32 b).wf = true) :
    Calls Try.prog 18 #[.agg #[.int .u32 a, .int .u32 b]] w fun e w' => e = .returned (.agg #[.int .u32 (a % 5), .int .u32 (b % 400)]) ∧ Fr (fun _ => False) w w' := by
  obtain ⟨a0, a1⟩ := wf_u32 ha
  obtain ⟨b0, b1⟩ := wf_u32 hb
  clear ha hb
  go_enter Try.func18, Try.ntmps18
  go_wp2
  exact bodyPost_ret (v := .agg #[.int .u32 (a % 5), .int .u32 (b % 400)]) (by simp [results, Try.results18, go_sem]) rfl ⟨rfl, by (repeat (first | exact Fr.refl _ _ | with_reducible assumption | refine Fr.drewN ?_ _ | refine Fr.drew ?_ | refine Fr.alloc ?_ _ | (refine Fr.setCell (p := ⟨_, _, _⟩) ?_ ?_ _; rotate_left; first | exact .inl rfl | (right; simp; done) | (right; simp; omega))))⟩
theorem krow_at {w : World} {B n c : Nat} {A : Option Addr} {l : List Ky} (h : w.ownsRow B 31 2 (.slice A n c) n (kcells l)) (hl : l.length = n) : At_k w A n (nthK l) := by
  rw [kcells_f] at h
  rcases own_to (fc := kc) hl (0, 0) (by omega) h with ⟨e, _, _⟩ | ⟨gl, e, ⟨F, h1, h2, h3⟩, h4, h5⟩
  · intro q hq
    rw [e] at hl
    simp at hl
    omega
  · intro q hq
    refine ⟨gl, 0, e, ?_, ?_⟩
    · rw [Nat.zero_add]
      exact (h1.cell (q * 2 + 0) (by omega)).trans (congrArg some (h3 q hq 0 (by omega)))
    · rw [Nat.zero_add]
      exact (h1.cell (q * 2 + 1) (by omega)).trans (congrArg some (h3 q hq 1 (by omega)))
theorem kcells_snoc (l : List Ky) (k : Ky) : kcells (l ++ [k]) = kcells l ++ [.int .u32 k.1, .int .u32 k.2] := by
  unfold kcells
  rw [List.flatMap_append]
  rfl
end Go.Proofs.Ytfjlgdafakbdoaa.Ca
