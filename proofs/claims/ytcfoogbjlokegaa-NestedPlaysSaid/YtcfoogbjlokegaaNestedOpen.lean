/- The argument of the statements of layer 6 opened: lists of calls (Kind, Page). -/
import Derived.Test.YtcfoogbjlokegaaNestedLaws
import Derived.Test.YtcfoogbjlokegaaOpen
namespace Go.Proofs.Ytcfoogbjlokegaa.Nt
open Go.RowKit Go.ChangeShapes Go.WideShapes Go.Deep
set_option linter.unusedVariables false

def AskAt (w : World) (b o : Nat) (kd pg : Int) : Prop :=
  w.cell? ⟨b, o, none⟩ = some (.int .i64 kd) ∧ w.cell? ⟨b, o + 1, none⟩ = some (.int .i64 pg) ∧ (-9223372036854775808 ≤ pg ∧ pg ≤ 9223372036854775807)
def AsksAt (w : World) (B : Nat) (A : Option Addr) (n : Nat) : Prop :=
  0 < n → ∃ b off, A = some ⟨b, off, none⟩ ∧ b < B ∧ ∀ i, i < n → ∃ kd pg, AskAt w b (off + i * 2) kd pg
theorem AskAt.fr {w w' : World} {B b o : Nat} {kd pg : Int} {S : Nat → Prop} (h : AskAt w b o kd pg) (f : Fr S w w') (hb : b < B) (hB : B ≤ w.heap.size) (hs : ∀ i, i < B → ¬ S i) : AskAt w' b o kd pg := by
  obtain ⟨h0, h1, h2⟩ := h
  have hl := Nat.lt_of_lt_of_le hb hB
  exact ⟨f.cell h0 hl (hs b hb), f.cell h1 hl (hs b hb), h2⟩
theorem AsksAt.at_ {w : World} {B n i : Nat} {A : Option Addr} (h : AsksAt w B A n) (hi : i < n) : ∃ b off, A = some ⟨b, off, none⟩ ∧ b < B ∧ ∃ kd pg, AskAt w b (off + i * 2) kd pg := by
  obtain ⟨b, off, e, hb, hc⟩ := h (by omega)
  exact ⟨b, off, e, hb, hc i hi⟩

theorem openAsks {H : Type} {enc : TypeId × Value → H} {w : World} {a : Option Addr} {len cap : Nat} {d : DataW H} {p : List MemPlace}
    (h : DataW.Trod enc Try.prog w 0 (fun _ => true) true 22 (.slice a len cap) d p) : AsksAt w w.heap.size a len ∧ len ≤ maxLen := by
  obtain ⟨fuel, hf⟩ := h
  rcases open_slice_fields Try.underlying22 Try.underlying31 (by kernel_rfl) (by kernel_rfl) hf with ⟨hcs, _⟩ | ⟨x, l, c, m, D, Pl, hcs, _, hl, hm, hmm, hx, hi⟩
  · simp [Value.cells] at hcs
    obtain ⟨rfl, rfl, rfl⟩ := hcs
    exact ⟨fun h => absurd h (by omega), by simp [maxLen]⟩
  · simp [Value.cells] at hcs
    obtain ⟨rfl, rfl, rfl⟩ := hcs
    refine ⟨fun hn => ?_, Nat.le_trans hl hm⟩
    have hlm : len ≤ m := by simp at hmm; omega
    have key : ∀ i, i < len → ∃ (kd pg : Int), w.cell? (x.add (i * 2)) = some (.int .i64 kd) ∧ w.cell? (x.add (i * 2 + 1)) = some (.int .i64 pg) ∧ (-9223372036854775808 ≤ pg ∧ pg ≤ 9223372036854775807) := by
      intro i hil
      obtain ⟨ys, n, _, _, _, hf⟩ := hi i (by omega)
      obtain ⟨v0, y0, hc0, _, ht0⟩ := hf 0 _ rfl
      obtain ⟨v1, y1, hc1, _, ht1⟩ := hf 1 _ rfl
      obtain ⟨kd, rfl, _⟩ := cell_int Try.underlying3 ht0
      obtain ⟨pg, rfl, w1⟩ := cell_int Try.underlying3 ht1
      exact ⟨kd, pg, hc0, hc1, wf_i64 w1⟩
    obtain ⟨b, off, spot⟩ := x
    obtain ⟨_, _, hc0, _⟩ := key 0 hn
    have hspot : spot = none := by simpa [Addr.add] using World.cell?_spot hc0
    subst hspot
    have hadd : ∀ j, (⟨b, off, none⟩ : Addr).add j = ⟨b, off + j, none⟩ := by
      intro j
      unfold Addr.add
      split
      · rename_i h0; subst h0; rfl
      · rfl
    refine ⟨b, off, rfl, ?_, fun i hil => ?_⟩
    · rcases Nat.lt_or_ge b w.heap.size with h | h
      · exact h
      · exfalso
        have : w.heap[b]? = none := Array.getElem?_eq_none h
        rw [hadd] at hc0
        simp [World.cell?, this] at hc0
    · obtain ⟨kd, pg, q0, q1, r⟩ := key i hil
      simp only [hadd, ← Nat.add_assoc] at q0 q1
      exact ⟨kd, pg, q0, q1, r⟩
end Go.Proofs.Ytcfoogbjlokegaa.Nt
