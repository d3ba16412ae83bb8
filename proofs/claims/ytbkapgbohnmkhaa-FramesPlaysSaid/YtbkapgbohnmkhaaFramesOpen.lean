/- The argument of the statements of layer 5 opened: lists of calls (Kind, Owner, N, L, B). -/
import Derived.Test.YtbkapgbohnmkhaaFramesDrop
import Derived.Test.YtbkapgbohnmkhaaOpen
namespace Go.Proofs.Ytbkapgbohnmkhaa.Fm
open Go.RowKit Go.ChangeShapes Go.WideShapes Go.Deep
set_option linter.unusedVariables false

structure Ask5 where
  kd : Int
  ow : Int
  n : Int
  A : Option Addr
  len : Nat
  cap : Nat
  zs : List Int
  by_ : Int
def AskAt (w : World) (B b o : Nat) (x : Ask5) : Prop :=
  (w.cell? ⟨b, o, none⟩ = some (.int .i64 x.kd) ∧ w.cell? ⟨b, o + 1, none⟩ = some (.int .i64 x.ow) ∧ w.cell? ⟨b, o + 2, none⟩ = some (.int .i64 x.n) ∧ w.cell? ⟨b, o + 3, none⟩ = some (.slice x.A x.len x.cap) ∧ w.cell? ⟨b, o + 4, none⟩ = some (.int .u8 x.by_)) ∧
  (-9223372036854775808 ≤ x.ow ∧ x.ow ≤ 9223372036854775807) ∧ (-9223372036854775808 ≤ x.n ∧ x.n ≤ 9223372036854775807) ∧ IntsAt .i64 w B x.A x.len x.zs ∧ x.len ≤ maxLen ∧ x.len ≤ x.cap ∧ (Lit.int .u8 x.by_).wf = true
def AsksAt (w : World) (B : Nat) (A : Option Addr) (n : Nat) : Prop :=
  0 < n → ∃ b off, A = some ⟨b, off, none⟩ ∧ b < B ∧ ∀ i, i < n → ∃ x, AskAt w B b (off + i * 5) x
theorem AskAt.fr {w w' : World} {B b o : Nat} {x : Ask5} {S : Nat → Prop} (h : AskAt w B b o x) (f : Fr S w w') (hb : b < B) (hB : B ≤ w.heap.size) (hs : ∀ i, i < B → ¬ S i) : AskAt w' B b o x := by
  obtain ⟨⟨h0, h1, h2, h3, h4⟩, h5, h6, h7, h8⟩ := h
  have hl := Nat.lt_of_lt_of_le hb hB
  exact ⟨⟨f.cell h0 hl (hs b hb), f.cell h1 hl (hs b hb), f.cell h2 hl (hs b hb), f.cell h3 hl (hs b hb), f.cell h4 hl (hs b hb)⟩, h5, h6, h7.fr f hB hs, h8⟩
theorem AsksAt.at_ {w : World} {B n i : Nat} {A : Option Addr} (h : AsksAt w B A n) (hi : i < n) : ∃ b off, A = some ⟨b, off, none⟩ ∧ b < B ∧ ∃ x, AskAt w B b (off + i * 5) x := by
  obtain ⟨b, off, e, hb, hc⟩ := h (by omega)
  exact ⟨b, off, e, hb, hc i hi⟩

theorem openAsks {H : Type} {enc : TypeId × Value → H} {w : World} {a : Option Addr} {len cap : Nat} {d : DataW H} {p : List MemPlace}
    (h : DataW.Trod enc Try.prog w 0 (fun _ => true) true 71 (.slice a len cap) d p) : AsksAt w w.heap.size a len ∧ len ≤ maxLen := by
  obtain ⟨fuel, hf⟩ := h
  rcases open_slice_fields Try.underlying71 Try.underlying76 (by kernel_rfl) (by kernel_rfl) hf with ⟨hcs, _⟩ | ⟨x, l, c, m, D, Pl, hcs, _, hl, hm, hmm, hx, hi⟩
  · simp [Value.cells] at hcs
    obtain ⟨rfl, rfl, rfl⟩ := hcs
    exact ⟨fun h => absurd h (by omega), by simp [maxLen]⟩
  · simp [Value.cells] at hcs
    obtain ⟨rfl, rfl, rfl⟩ := hcs
    refine ⟨fun hn => ?_, Nat.le_trans hl hm⟩
    have hlm : len ≤ m := by simp at hmm; omega
    have key : ∀ i, i < len → ∃ y : Ask5, (w.cell? (x.add (i * 5)) = some (.int .i64 y.kd) ∧ w.cell? (x.add (i * 5 + 1)) = some (.int .i64 y.ow) ∧ w.cell? (x.add (i * 5 + 2)) = some (.int .i64 y.n) ∧ w.cell? (x.add (i * 5 + 3)) = some (.slice y.A y.len y.cap) ∧ w.cell? (x.add (i * 5 + 4)) = some (.int .u8 y.by_)) ∧
        (-9223372036854775808 ≤ y.ow ∧ y.ow ≤ 9223372036854775807) ∧ (-9223372036854775808 ≤ y.n ∧ y.n ≤ 9223372036854775807) ∧ IntsAt .i64 w w.heap.size y.A y.len y.zs ∧ y.len ≤ maxLen ∧ y.len ≤ y.cap ∧ (Lit.int .u8 y.by_).wf = true := by
      intro i hil
      obtain ⟨ys, n, _, _, _, hf⟩ := hi i (by omega)
      obtain ⟨v0, y0, hc0, _, ht0⟩ := hf 0 _ rfl
      obtain ⟨v1, y1, hc1, _, ht1⟩ := hf 1 _ rfl
      obtain ⟨v2, y2, hc2, _, ht2⟩ := hf 2 _ rfl
      obtain ⟨v3, y3, hc3, _, ht3⟩ := hf 3 _ rfl
      obtain ⟨v4, y4, hc4, _, ht4⟩ := hf 4 _ rfl
      obtain ⟨kd, rfl, _⟩ := cell_int Try.underlying3 ht0
      obtain ⟨ow, rfl, w1⟩ := cell_int Try.underlying3 ht1
      obtain ⟨nn, rfl, w2⟩ := cell_int Try.underlying3 ht2
      obtain ⟨A, ll, cc, zs, rfl, hI, hL, hC⟩ := cell_ints Try.underlying22 Try.underlying3 (by kernel_rfl) ht3
      obtain ⟨bb, rfl, w4⟩ := cell_int Try.underlying5 ht4
      exact ⟨⟨kd, ow, nn, A, ll, cc, zs, bb⟩, ⟨hc0, hc1, hc2, hc3, hc4⟩, wf_i64 w1, wf_i64 w2, hI, hL, hC, w4⟩
    obtain ⟨b, off, spot⟩ := x
    obtain ⟨_, ⟨hc0, _⟩, _⟩ := key 0 hn
    have hspot : spot = none := by simpa [Addr.add] using World.cell?_spot hc0
    subst hspot
    have hadd : ∀ j, (⟨b, off, none⟩ : Addr).add j = ⟨b, off + j, none⟩ := by
      intro j
      unfold Addr.add
      split
      · rename_i h0; subst h0; rfl
      · rfl
    refine ⟨b, off, rfl, ?_, fun i hil => ?_⟩
    · rcases Nat.lt_or_ge b w.heap.size with h | h
      · exact h
      · exfalso
        have : w.heap[b]? = none := Array.getElem?_eq_none h
        rw [hadd] at hc0
        simp [World.cell?, this] at hc0
    · obtain ⟨y, q, r⟩ := key i hil
      simp only [hadd, ← Nat.add_assoc] at q
      exact ⟨y, q, r⟩
end Go.Proofs.Ytbkapgbohnmkhaa.Fm
