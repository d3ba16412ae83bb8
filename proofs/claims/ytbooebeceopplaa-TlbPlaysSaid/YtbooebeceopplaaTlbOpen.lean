/- TlbKeeps, TlbFlushes: the opened argument (lists of calls). -/
import Derived.Test.YtbooebeceopplaaTlbLaws
import Derived.Test.YtbooebeceopplaaOpen
import Derived.Test.YtbooebeceopplaaBoxes
import Derived.Laws.BitsAllLaws
namespace Go.Proofs.Ytbooebeceopplaa.Tl
open Go.RowKit Go.ChangeShapes Go.WideShapes Go.Deep
set_option linter.unusedVariables false
set_option maxHeartbeats 4000000

def AskAt (w : World) (b o : Nat) (kd how va p bs : Int) (s : Bool) : Prop :=
  w.cell? ⟨b, o, none⟩ = some (.int .i64 kd) ∧ w.cell? ⟨b, o + 1, none⟩ = some (.int .i64 how) ∧ w.cell? ⟨b, o + 2, none⟩ = some (.int .u32 va) ∧ w.cell? ⟨b, o + 3, none⟩ = some (.int .u32 p) ∧ w.cell? ⟨b, o + 4, none⟩ = some (.int .u32 bs) ∧ w.cell? ⟨b, o + 5, none⟩ = some (.bool s) ∧ (0 ≤ va ∧ va ≤ 4294967295) ∧ (0 ≤ p ∧ p ≤ 4294967295) ∧ (0 ≤ bs ∧ bs ≤ 4294967295)
def AsksAt (w : World) (B : Nat) (A : Option Addr) (n : Nat) : Prop :=
  0 < n → ∃ b off, A = some ⟨b, off, none⟩ ∧ b < B ∧ ∀ i, i < n → ∃ kd how va p bs s, AskAt w b (off + i * 6) kd how va p bs s
theorem AskAt.fr {w w' : World} {B b o : Nat} {kd how va p bs : Int} {s : Bool} {S : Nat → Prop} (h : AskAt w b o kd how va p bs s) (f : Fr S w w') (hb : b < B) (hB : B ≤ w.heap.size) (hs : ∀ i, i < B → ¬ S i) : AskAt w' b o kd how va p bs s := by
  obtain ⟨h0, h1, h2, h3, h4, h5, h6⟩ := h
  have hl := Nat.lt_of_lt_of_le hb hB
  exact ⟨f.cell h0 hl (hs b hb), f.cell h1 hl (hs b hb), f.cell h2 hl (hs b hb), f.cell h3 hl (hs b hb), f.cell h4 hl (hs b hb), f.cell h5 hl (hs b hb), h6⟩
theorem AsksAt.at_ {w : World} {B n i : Nat} {A : Option Addr} (h : AsksAt w B A n) (hi : i < n) : ∃ b off, A = some ⟨b, off, none⟩ ∧ b < B ∧ ∃ kd how va p bs s, AskAt w b (off + i * 6) kd how va p bs s := by
  obtain ⟨b, off, e, hb, hc⟩ := h (by omega)
  exact ⟨b, off, e, hb, hc i hi⟩

theorem openAsks {H : Type} {enc : TypeId × Value → H} {w : World} {a : Option Addr} {len cap : Nat} {d : DataW H} {p : List MemPlace}
    (h : DataW.Trod enc Try.prog w 0 (fun _ => true) true 34 (.slice a len cap) d p) : AsksAt w w.heap.size a len ∧ len ≤ maxLen := by
  obtain ⟨fuel, hf⟩ := h
  rcases open_slice_fields Try.underlying34 Try.underlying36 (by kernel_rfl) (by kernel_rfl) hf with ⟨hcs, _⟩ | ⟨x, l, c, m, D, Pl, hcs, _, hl, hm, hmm, hx, hi⟩
  · simp [Value.cells] at hcs
    obtain ⟨rfl, rfl, rfl⟩ := hcs
    exact ⟨fun h => absurd h (by omega), by simp [maxLen]⟩
  · simp [Value.cells] at hcs
    obtain ⟨rfl, rfl, rfl⟩ := hcs
    refine ⟨fun hn => ?_, Nat.le_trans hl hm⟩
    have hlm : len ≤ m := by simp at hmm; omega
    have key : ∀ i, i < len → ∃ (kd how va p bs : Int) (s : Bool), w.cell? (x.add (i * 6)) = some (.int .i64 kd) ∧ w.cell? (x.add (i * 6 + 1)) = some (.int .i64 how) ∧ w.cell? (x.add (i * 6 + 2)) = some (.int .u32 va) ∧ w.cell? (x.add (i * 6 + 3)) = some (.int .u32 p) ∧ w.cell? (x.add (i * 6 + 4)) = some (.int .u32 bs) ∧ w.cell? (x.add (i * 6 + 5)) = some (.bool s) ∧ (0 ≤ va ∧ va ≤ 4294967295) ∧ (0 ≤ p ∧ p ≤ 4294967295) ∧ (0 ≤ bs ∧ bs ≤ 4294967295) := by
      intro i hil
      obtain ⟨ys, n, _, _, _, hf⟩ := hi i (by omega)
      obtain ⟨v0, y0, hc0, _, ht0⟩ := hf 0 _ rfl
      obtain ⟨v1, y1, hc1, _, ht1⟩ := hf 1 _ rfl
      obtain ⟨v2, y2, hc2, _, ht2⟩ := hf 2 _ rfl
      obtain ⟨v3, y3, hc3, _, ht3⟩ := hf 3 _ rfl
      obtain ⟨v4, y4, hc4, _, ht4⟩ := hf 4 _ rfl
      obtain ⟨v5, y5, hc5, _, ht5⟩ := hf 5 _ rfl
      obtain ⟨kd, rfl, _⟩ := cell_int Try.underlying3 ht0
      obtain ⟨how, rfl, _⟩ := cell_int Try.underlying3 ht1
      obtain ⟨va, rfl, w2⟩ := cell_int Try.underlying22 ht2
      obtain ⟨pp, rfl, w3⟩ := cell_int Try.underlying22 ht3
      obtain ⟨bs, rfl, w4⟩ := cell_int Try.underlying22 ht4
      obtain ⟨s, rfl⟩ := cell_bool Try.underlying4 ht5
      exact ⟨kd, how, va, pp, bs, s, hc0, hc1, hc2, hc3, hc4, hc5, wf_u32 w2, wf_u32 w3, wf_u32 w4⟩
    obtain ⟨b, off, spot⟩ := x
    obtain ⟨_, _, _, _, _, _, hc0, _⟩ := key 0 hn
    have hspot : spot = none := by simpa [Addr.add] using World.cell?_spot hc0
    subst hspot
    have hadd : ∀ j, (⟨b, off, none⟩ : Addr).add j = ⟨b, off + j, none⟩ := by
      intro j
      unfold Addr.add
      split
      · rename_i h0; subst h0; rfl
      · rfl
    refine ⟨b, off, rfl, ?_, fun i hil => ?_⟩
    · rcases Nat.lt_or_ge b w.heap.size with h | h
      · exact h
      · exfalso
        have : w.heap[b]? = none := Array.getElem?_eq_none h
        rw [hadd] at hc0
        simp [World.cell?, this] at hc0
    · obtain ⟨kd, how, va, pp, bs, s, q0, q1, q2, q3, q4, q5, r⟩ := key i hil
      simp only [hadd, ← Nat.add_assoc] at q0 q1 q2 q3 q4 q5
      exact ⟨kd, how, va, pp, bs, s, q0, q1, q2, q3, q4, q5, r⟩
end Go.Proofs.Ytbooebeceopplaa.Tl
