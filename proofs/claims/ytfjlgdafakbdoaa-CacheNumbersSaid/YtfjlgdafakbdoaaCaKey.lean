/- The keys of the maps of translations. -/
import Derived.Test.YtfjlgdafakbdoaaMapz
import Derived.Test.YtfjlgdafakbdoaaCaRows
namespace Go.Proofs.Ytfjlgdafakbdoaa.Ca
open Go.RowKit Mz Go.Maps
set_option linter.unusedVariables false

def kyv (k : Ky) : Value := .agg #[.int .u32 k.1, .int .u32 k.2]
theorem kyv_inj : ∀ a b : Ky, kyv a = kyv b → a = b := by
  rintro ⟨a, b⟩ ⟨c, d⟩ h
  simp only [kyv] at h
  injection h with h
  injection h with h
  injection h with h1 h2
  injection h1 with _ h1
  injection h2 with h2 _
  injection h2 with _ h2
  rw [h1, h2]
def Ky.Ok (k : Ky) : Prop := (0 ≤ k.1 ∧ k.1 ≤ 4294967295) ∧ (0 ≤ k.2 ∧ k.2 ≤ 4294967295)
theorem laidOut : laidOutB Try.prog = true := by kernel_rfl
theorem keyLaw : Keyed Try.prog 31 := Keyed.of_law (deep_law_gate laidOut (of_decide_eq_true (by kernel_rfl)) (of_decide_eq_true (by kernel_rfl)) (by kernel_rfl) (by kernel_rfl))
theorem keyTy : Try.prog.keyType 31 = true := by kernel_rfl
theorem cellsK : Try.prog.cellsOf 31 = 2 := by kernel_rfl
theorem cellsU : Try.prog.cellsOf 29 = 1 := by kernel_rfl
theorem tySz : ∃ n, Try.prog.types.size = n + 1 := by
  have h : decide (0 < Try.prog.types.size) = true := by kernel_rfl
  have h := of_decide_eq_true h
  exact ⟨Try.prog.types.size - 1, by omega⟩
theorem keyOf_ky (k : Ky) (h : k.Ok) : ∃ l, keyOf Try.prog 31 (kyv k) = some l := by
  obtain ⟨a, b⟩ := k
  obtain ⟨⟨h1, h2⟩, h3, h4⟩ := h
  have w1 : (Lit.int .u32 a).wf = true := wf_u32_mk h1 h2
  have w2 : (Lit.int .u32 b).wf = true := wf_u32_mk h3 h4
  obtain ⟨n, hn⟩ := tySz
  have hform : Value.formed Try.prog 31 (kyv (a, b)) = true := by
    unfold Value.formed kyv
    simp only [Try.underlying31, cellsK]
    rfl
  simp only [keyOf, Try.underlying31, keyTy, Bool.true_and, hform, if_true]
  have hl : Try.prog.keyLits (Try.prog.types.size + 1) 31 (kyv (a, b)).cells.toList = some [.int .u32 a, .int .u32 b] := by
    rw [hn]
    simp only [Program.keyLits, Try.underlying31, kyv, Value.cells]
    rw [if_pos ⟨by rw [cellsK]; rfl, by simp⟩]
    simp [cellsU, Try.underlying29, w1, w2]
  rw [hl]
  exact ⟨_, rfl⟩
end Go.Proofs.Ytfjlgdafakbdoaa.Ca
