/- The arguments of law 10 opened: calls (Kind How N VA V Paging Super), entries of tables (Place Page Bits). -/
import Derived.Test.YthiephlfhbkcbaaMmuK
import Derived.Test.YthiephlfhbkcbaaOpen
namespace Go.Proofs.Ythiephlfhbkcbaa.Mu
open Go.RowKit Go.ChangeShapes Go.WideShapes Go.Deep
set_option linter.unusedVariables false

structure Ask10 where
  kind : Int
  how : Int
  n : Int
  va : Int
  v : Int
  pg : Bool
  su : Bool
def AskAt (w : World) (b o : Nat) (x : Ask10) : Prop :=
  (w.cell? ⟨b, o, none⟩ = some (.int .i64 x.kind) ∧ w.cell? ⟨b, o + 1, none⟩ = some (.int .i64 x.how) ∧ w.cell? ⟨b, o + 2, none⟩ = some (.int .i64 x.n) ∧ w.cell? ⟨b, o + 3, none⟩ = some (.int .u32 x.va) ∧ w.cell? ⟨b, o + 4, none⟩ = some (.int .u32 x.v) ∧ w.cell? ⟨b, o + 5, none⟩ = some (.bool x.pg) ∧ w.cell? ⟨b, o + 6, none⟩ = some (.bool x.su)) ∧
  (Lit.int .i64 x.kind).wf = true ∧ (Lit.int .i64 x.how).wf = true ∧ (Lit.int .i64 x.n).wf = true ∧ (Lit.int .u32 x.va).wf = true ∧ (Lit.int .u32 x.v).wf = true
def AsksAt (w : World) (B : Nat) (A : Option Addr) (n : Nat) : Prop :=
  0 < n → ∃ b off, A = some ⟨b, off, none⟩ ∧ b < B ∧ ∀ i, i < n → ∃ x, AskAt w b (off + i * 7) x
theorem AskAt.fr {w w' : World} {b o : Nat} {x : Ask10} {S : Nat → Prop} (h : AskAt w b o x) (f : Fr S w w') (hb : b < w.heap.size) (hs : ¬ S b) : AskAt w' b o x := by
  obtain ⟨⟨h0, h1, h2, h3, h4, h5, h6⟩, h7⟩ := h
  exact ⟨⟨f.cell h0 hb hs, f.cell h1 hb hs, f.cell h2 hb hs, f.cell h3 hb hs, f.cell h4 hb hs, f.cell h5 hb hs, f.cell h6 hb hs⟩, h7⟩
theorem AsksAt.at_ {w : World} {B n i : Nat} {A : Option Addr} (h : AsksAt w B A n) (hi : i < n) : ∃ b off, A = some ⟨b, off, none⟩ ∧ b < B ∧ ∃ x, AskAt w b (off + i * 7) x := by
  obtain ⟨b, off, e, hb, hc⟩ := h (by omega)
  exact ⟨b, off, e, hb, hc i hi⟩
theorem openAsks {H : Type} {enc : TypeId × Value → H} {w : World} {a : Option Addr} {len cap : Nat} {d : DataW H} {p : List MemPlace}
    (h : DataW.Trod enc Try.prog w 0 (fun _ => true) true 71 (.slice a len cap) d p) : AsksAt w w.heap.size a len ∧ len ≤ maxLen := by
  obtain ⟨fuel, hf⟩ := h
  rcases open_slice_fields Try.underlying71 Try.underlying73 (by kernel_rfl) (by kernel_rfl) hf with ⟨hcs, _⟩ | ⟨x, l, c, m, D, Pl, hcs, _, hl, hm, hmm, hx, hi⟩
  · simp [Value.cells] at hcs
    obtain ⟨rfl, rfl, rfl⟩ := hcs
    exact ⟨fun h => absurd h (by omega), by simp [maxLen]⟩
  · simp [Value.cells] at hcs
    obtain ⟨rfl, rfl, rfl⟩ := hcs
    refine ⟨fun hn => ?_, Nat.le_trans hl hm⟩
    have hlm : len ≤ m := by simp at hmm; omega
    have key : ∀ i, i < len → ∃ y : Ask10, (w.cell? (x.add (i * 7)) = some (.int .i64 y.kind) ∧ w.cell? (x.add (i * 7 + 1)) = some (.int .i64 y.how) ∧ w.cell? (x.add (i * 7 + 2)) = some (.int .i64 y.n) ∧ w.cell? (x.add (i * 7 + 3)) = some (.int .u32 y.va) ∧ w.cell? (x.add (i * 7 + 4)) = some (.int .u32 y.v) ∧ w.cell? (x.add (i * 7 + 5)) = some (.bool y.pg) ∧ w.cell? (x.add (i * 7 + 6)) = some (.bool y.su)) ∧
        (Lit.int .i64 y.kind).wf = true ∧ (Lit.int .i64 y.how).wf = true ∧ (Lit.int .i64 y.n).wf = true ∧ (Lit.int .u32 y.va).wf = true ∧ (Lit.int .u32 y.v).wf = true := by
      intro i hil
      obtain ⟨ys, n, _, _, _, hf⟩ := hi i (by omega)
      obtain ⟨v0, y0, hc0, _, ht0⟩ := hf 0 _ rfl
      obtain ⟨v1, y1, hc1, _, ht1⟩ := hf 1 _ rfl
      obtain ⟨v2, y2, hc2, _, ht2⟩ := hf 2 _ rfl
      obtain ⟨v3, y3, hc3, _, ht3⟩ := hf 3 _ rfl
      obtain ⟨v4, y4, hc4, _, ht4⟩ := hf 4 _ rfl
      obtain ⟨v5, y5, hc5, _, ht5⟩ := hf 5 _ rfl
      obtain ⟨v6, y6, hc6, _, ht6⟩ := hf 6 _ rfl
      obtain ⟨k0, rfl, w0⟩ := cell_int Try.underlying3 ht0
      obtain ⟨k1, rfl, w1⟩ := cell_int Try.underlying3 ht1
      obtain ⟨k2, rfl, w2⟩ := cell_int Try.underlying3 ht2
      obtain ⟨k3, rfl, w3⟩ := cell_int Try.underlying22 ht3
      obtain ⟨k4, rfl, w4⟩ := cell_int Try.underlying22 ht4
      obtain ⟨k5, rfl⟩ := cell_bool Try.underlying4 ht5
      obtain ⟨k6, rfl⟩ := cell_bool Try.underlying4 ht6
      exact ⟨⟨k0, k1, k2, k3, k4, k5, k6⟩, ⟨hc0, hc1, hc2, hc3, hc4, hc5, hc6⟩, w0, w1, w2, w3, w4⟩
    obtain ⟨b, off, spot⟩ := x
    obtain ⟨_, ⟨hc0, _⟩, _⟩ := key 0 hn
    have hspot : spot = none := by simpa [Addr.add] using World.cell?_spot hc0
    subst hspot
    have hadd : ∀ j, (⟨b, off, none⟩ : Addr).add j = ⟨b, off + j, none⟩ := by
      intro j
      unfold Addr.add
      split
      · rename_i h0; subst h0; rfl
      · rfl
    refine ⟨b, off, rfl, ?_, fun i hil => ?_⟩
    · rcases Nat.lt_or_ge b w.heap.size with h | h
      · exact h
      · exfalso
        have : w.heap[b]? = none := Array.getElem?_eq_none h
        rw [hadd] at hc0
        simp [World.cell?, this] at hc0
    · obtain ⟨y, q, r⟩ := key i hil
      simp only [hadd, ← Nat.add_assoc] at q
      exact ⟨y, q, r⟩
end Go.Proofs.Ythiephlfhbkcbaa.Mu
