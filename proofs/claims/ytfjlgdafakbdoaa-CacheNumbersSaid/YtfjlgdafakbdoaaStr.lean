/- Strings of bytes. -/
import Derived.Test.YtfjlgdafakbdoaaAppend
import Derived.Test.YtfjlgdafakbdoaaChecked
import Derived.Laws.BytesString
namespace Go.Proofs.Ytfjlgdafakbdoaa.By
open Go.RowKit
set_option linter.unusedVariables false
set_option maxHeartbeats 4000000

def str (ns : List Int) : ByteArray := ns.foldl (fun r n => r.push (UInt8.ofNat n.toNat)) ByteArray.empty
/-- string(bytes) -/
theorem run_str (w : World) (B : Nat) (A : Option Addr) (n c : Nat) (zs : List Int) (h : Reads w B 1 A n (zs.map (Value.int .u8))) : (convert 22 9 (.slice A n c)).run Try.prog w = .ok (.string (str zs)) w := by
  have hl : zs.length = n := by have := h.1; simpa using this
  rw [run_convert_bytes_string w 22 9 5 A n c Try.underlying22 Try.underlying5 Try.underlying9]
  rcases A with _ | a
  · have hn : n = 0 := by
      rcases Nat.eq_zero_or_pos n with h0 | h0
      · exact h0
      · obtain ⟨ad, e, _⟩ := h.2 h0
        cases e
    subst hn
    have : zs = [] := List.length_eq_zero_iff.1 hl
    subst this
    simp [Conv.bytesToString, str]
  · refine run_bytesToString w a n c zs ?_
    have := run_loadCells_list (P := Try.prog) w a (zs.map (Value.int .u8)) (by
      intro j u hu
      rcases Nat.eq_zero_or_pos n with h0 | h0
      · subst h0
        have : zs = [] := List.length_eq_zero_iff.1 hl
        subst this
        simp at hu
      · obtain ⟨ad, e, _, hc⟩ := h.2 h0
        injection e with e
        subst e
        exact hc j u hu)
    rw [List.length_map, hl] at this
    exact this
theorem str_of_ints {w : World} {B n c : Nat} {A : Option Addr} {zs : List Int} (h : IntsAt .u8 w B A n zs) : (convert 22 9 (.slice A n c)).run Try.prog w = .ok (.string (str zs)) w := run_str w B A n c zs (intsAt_reads h)
end Go.Proofs.Ytfjlgdafakbdoaa.By
