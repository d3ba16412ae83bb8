/- Bytes as lists, strings of bytes, comparing them. -/
import Derived.Test.YthiephlfhbkcbaaDoorRamE
import Derived.Test.YthiephlfhbkcbaaDoorBook
import Derived.Laws.BytesString
namespace Go.Proofs.YthiephlfhbkcbaaDoor.By
open Go.RowKit
set_option linter.unusedVariables false
set_option maxHeartbeats 4000000

def str (ns : List Int) : ByteArray := ns.foldl (fun r n => r.push (UInt8.ofNat n.toNat)) ByteArray.empty
/-- string(bytes) -/
theorem run_str (w : World) (B : Nat) (A : Option Addr) (n c : Nat) (zs : List Int) (h : Reads w B 1 A n (zs.map (Value.int .u8))) : (convert 24 9 (.slice A n c)).run Tryd.prog w = .ok (.string (str zs)) w := by
  have hl : zs.length = n := by have := h.1; simpa using this
  rw [run_convert_bytes_string w 24 9 5 A n c Tryd.underlying24 Tryd.underlying5 Tryd.underlying9]
  rcases A with _ | a
  · have hn : n = 0 := by
      rcases Nat.eq_zero_or_pos n with h0 | h0
      · exact h0
      · obtain ⟨ad, e, _⟩ := h.2 h0
        cases e
    subst hn
    have : zs = [] := List.length_eq_zero_iff.1 hl
    subst this
    simp [Conv.bytesToString, str]
  · refine run_bytesToString w a n c zs ?_
    have := run_loadCells_list (P := Tryd.prog) w a (zs.map (Value.int .u8)) (by
      intro j u hu
      rcases Nat.eq_zero_or_pos n with h0 | h0
      · subst h0
        have : zs = [] := List.length_eq_zero_iff.1 hl
        subst this
        simp at hu
      · obtain ⟨ad, e, _, hc⟩ := h.2 h0
        injection e with e
        subst e
        exact hc j u hu)
    rw [List.length_map, hl] at this
    exact this
theorem str_of_ints {w : World} {B n c : Nat} {A : Option Addr} {zs : List Int} (h : IntsAt .u8 w B A n zs) : (convert 24 9 (.slice A n c)).run Tryd.prog w = .ok (.string (str zs)) w := run_str w B A n c zs (intsAt_reads h)
/-- the list of a row of bytes -/
def lst (z : Nat → Int) (N : Nat) : List Int := (List.range N).map z
theorem lst_len (z : Nat → Int) (N : Nat) : (lst z N).length = N := by simp [lst]
theorem lst_at (z : Nat → Int) {N k : Nat} (h : k < N) : (lst z N).getD k 0 = z k := by simp [lst, List.getD_eq_getElem?_getD, h]
theorem lst_congr {z z' : Nat → Int} {N : Nat} (h : ∀ k, k < N → z k = z' k) : lst z N = lst z' N := by
  apply List.ext_getElem?
  intro i
  unfold lst
  by_cases hi : i < N
  · simp [hi, h i hi]
  · simp [hi]
theorem lst_of (zs : List Int) (N : Nat) (h : zs.length = N) : lst (fun k => zs.getD k 0) N = zs := by
  subst h
  apply List.ext_getElem?
  intro i
  unfold lst
  by_cases hi : i < zs.length
  · simp [hi]
  · simp [hi]
theorem cells_ints {w : World} {g N : Nat} {z : Nat → Int} (h : Cells w g 5 N (fun k => .int .u8 (z k))) (hb : ∀ k, k < N → 0 ≤ z k ∧ z k < 256) : IntsAt .u8 w (g + 1) (some ⟨g, 0, none⟩) N (lst z N) := by
  refine ⟨lst_len z N, fun i hi => ?_, fun hn => ⟨g, 0, rfl, by omega, fun i hi => ?_⟩⟩
  · rw [lst_at z hi]
    have := hb i hi
    exact wf_u8_mk (by omega) (by omega)
  · rw [lst_at z hi, Nat.zero_add]
    exact h.cell i hi
theorem IntsAt.lt_ {k : IntKind} {w : World} {B n : Nat} {A : Option Addr} {zs : List Int} (h : IntsAt k w B A n zs) : ∀ b off, A = some ⟨b, off, none⟩ → 0 < n → b < B := fun b off e hn => by
  obtain ⟨b', off', e', hb, _⟩ := h.2.2 hn
  rw [e] at e'
  injection e' with e'
  injection e' with e1 e2
  omega
/-- innkeeperkeep.Cut -/
theorem cut_any (w : World) (A : Option Addr) (len cap : Nat) (n : Nat) (hm : len ≤ maxLen) (hc : len ≤ cap) (hn : n ≤ 1000000) :
    Calls Tryd.prog 12 #[.slice A len cap, .int .i64 (n : Int)] w fun e w' => e = .returned (.slice A (min len n) cap) ∧ w = w' := by
  unfold maxLen at hm
  by_cases h : n < len
  · have e : min len n = n := by omega
    rw [e]
    go_enter Tryd.func12, Tryd.ntmps12
    go_wp2
    go_ret
    exact ⟨rfl, rfl⟩
  · have e : min len n = len := by omega
    rw [e]
    go_enter Tryd.func12, Tryd.ntmps12
    go_wp2
    go_ret
    exact ⟨rfl, rfl⟩
end Go.Proofs.YthiephlfhbkcbaaDoor.By
