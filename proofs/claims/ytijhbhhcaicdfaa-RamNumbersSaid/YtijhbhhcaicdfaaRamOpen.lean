/- The argument of the statements of layer 7 opened: lists of calls (Kind, At, V, B). -/
import Derived.Test.YtijhbhhcaicdfaaRamDoA
import Derived.Test.YtijhbhhcaicdfaaOpen
namespace Go.Proofs.Ytijhbhhcaicdfaa.Rm
open Go.RowKit Go.ChangeShapes Go.WideShapes Go.Deep
set_option linter.unusedVariables false

structure Ask7 where
  kd : Int
  at_ : Int
  v : Int
  A : Option Addr
  len : Nat
  cap : Nat
  zs : List Int
def AskAt (w : World) (B b o : Nat) (x : Ask7) : Prop :=
  (w.cell? ⟨b, o, none⟩ = some (.int .i64 x.kd) ∧ w.cell? ⟨b, o + 1, none⟩ = some (.int .u32 x.at_) ∧ w.cell? ⟨b, o + 2, none⟩ = some (.int .u32 x.v) ∧ w.cell? ⟨b, o + 3, none⟩ = some (.slice x.A x.len x.cap)) ∧
  (Lit.int .i64 x.kd).wf = true ∧ (Lit.int .u32 x.at_).wf = true ∧ (Lit.int .u32 x.v).wf = true ∧ IntsAt .u8 w B x.A x.len x.zs ∧ x.len ≤ maxLen ∧ x.len ≤ x.cap
def AsksAt (w : World) (B : Nat) (A : Option Addr) (n : Nat) : Prop :=
  0 < n → ∃ b off, A = some ⟨b, off, none⟩ ∧ b < B ∧ ∀ i, i < n → ∃ x, AskAt w B b (off + i * 4) x
theorem AskAt.fr {w w' : World} {B b o : Nat} {x : Ask7} {S : Nat → Prop} (h : AskAt w B b o x) (f : Fr S w w') (hb : b < B) (hB : B ≤ w.heap.size) (hs : ∀ i, i < B → ¬ S i) : AskAt w' B b o x := by
  obtain ⟨⟨h0, h1, h2, h3⟩, h4, h5, h6, h7, h8⟩ := h
  have hl := Nat.lt_of_lt_of_le hb hB
  exact ⟨⟨f.cell h0 hl (hs b hb), f.cell h1 hl (hs b hb), f.cell h2 hl (hs b hb), f.cell h3 hl (hs b hb)⟩, h4, h5, h6, h7.fr f hB hs, h8⟩
theorem AsksAt.at_ {w : World} {B n i : Nat} {A : Option Addr} (h : AsksAt w B A n) (hi : i < n) : ∃ b off, A = some ⟨b, off, none⟩ ∧ b < B ∧ ∃ x, AskAt w B b (off + i * 4) x := by
  obtain ⟨b, off, e, hb, hc⟩ := h (by omega)
  exact ⟨b, off, e, hb, hc i hi⟩

theorem openAsks {H : Type} {enc : TypeId × Value → H} {w : World} {a : Option Addr} {len cap : Nat} {d : DataW H} {p : List MemPlace}
    (h : DataW.Trod enc Try.prog w 0 (fun _ => true) true 34 (.slice a len cap) d p) : AsksAt w w.heap.size a len ∧ len ≤ maxLen := by
  obtain ⟨fuel, hf⟩ := h
  rcases open_slice_fields Try.underlying34 Try.underlying33 (by kernel_rfl) (by kernel_rfl) hf with ⟨hcs, _⟩ | ⟨x, l, c, m, D, Pl, hcs, _, hl, hm, hmm, hx, hi⟩
  · simp [Value.cells] at hcs
    obtain ⟨rfl, rfl, rfl⟩ := hcs
    exact ⟨fun h => absurd h (by omega), by simp [maxLen]⟩
  · simp [Value.cells] at hcs
    obtain ⟨rfl, rfl, rfl⟩ := hcs
    refine ⟨fun hn => ?_, Nat.le_trans hl hm⟩
    have hlm : len ≤ m := by simp at hmm; omega
    have key : ∀ i, i < len → ∃ y : Ask7, (w.cell? (x.add (i * 4)) = some (.int .i64 y.kd) ∧ w.cell? (x.add (i * 4 + 1)) = some (.int .u32 y.at_) ∧ w.cell? (x.add (i * 4 + 2)) = some (.int .u32 y.v) ∧ w.cell? (x.add (i * 4 + 3)) = some (.slice y.A y.len y.cap)) ∧
        (Lit.int .i64 y.kd).wf = true ∧ (Lit.int .u32 y.at_).wf = true ∧ (Lit.int .u32 y.v).wf = true ∧ IntsAt .u8 w w.heap.size y.A y.len y.zs ∧ y.len ≤ maxLen ∧ y.len ≤ y.cap := by
      intro i hil
      obtain ⟨ys, n, _, _, _, hf⟩ := hi i (by omega)
      obtain ⟨v0, y0, hc0, _, ht0⟩ := hf 0 _ rfl
      obtain ⟨v1, y1, hc1, _, ht1⟩ := hf 1 _ rfl
      obtain ⟨v2, y2, hc2, _, ht2⟩ := hf 2 _ rfl
      obtain ⟨v3, y3, hc3, _, ht3⟩ := hf 3 _ rfl
      obtain ⟨kd, rfl, w0⟩ := cell_int Try.underlying3 ht0
      obtain ⟨at_, rfl, w1⟩ := cell_int Try.underlying31 ht1
      obtain ⟨v, rfl, w2⟩ := cell_int Try.underlying31 ht2
      obtain ⟨A, ll, cc, zs, rfl, hI, hL, hC⟩ := cell_ints Try.underlying29 Try.underlying5 (by kernel_rfl) ht3
      exact ⟨⟨kd, at_, v, A, ll, cc, zs⟩, ⟨hc0, hc1, hc2, hc3⟩, w0, w1, w2, hI, hL, hC⟩
    obtain ⟨b, off, spot⟩ := x
    obtain ⟨_, ⟨hc0, _⟩, _⟩ := key 0 hn
    have hspot : spot = none := by simpa [Addr.add] using World.cell?_spot hc0
    subst hspot
    have hadd : ∀ j, (⟨b, off, none⟩ : Addr).add j = ⟨b, off + j, none⟩ := by
      intro j
      unfold Addr.add
      split
      · rename_i h0; subst h0; rfl
      · rfl
    refine ⟨b, off, rfl, ?_, fun i hil => ?_⟩
    · rcases Nat.lt_or_ge b w.heap.size with h | h
      · exact h
      · exfalso
        have : w.heap[b]? = none := Array.getElem?_eq_none h
        rw [hadd] at hc0
        simp [World.cell?, this] at hc0
    · obtain ⟨y, q, r⟩ := key i hil
      simp only [hadd, ← Nat.add_assoc] at q
      exact ⟨y, q, r⟩
end Go.Proofs.Ytijhbhhcaicdfaa.Rm
