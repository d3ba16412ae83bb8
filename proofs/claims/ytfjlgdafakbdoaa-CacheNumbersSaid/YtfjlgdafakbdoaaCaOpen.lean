/- The argument of the statements of layer 23 opened: lists of calls (Kind, Count, A, B, Code, Pages). -/
import Derived.Test.YtfjlgdafakbdoaaCaO
import Derived.Test.YtfjlgdafakbdoaaOpen
namespace Go.Proofs.Ytfjlgdafakbdoaa.Ca
open Go.RowKit Go.ChangeShapes Go.WideShapes Go.Deep
set_option linter.unusedVariables false

structure Ask23 where
  kd : Int
  ct : Int
  a0 : Int
  a1 : Int
  b0 : Int
  b1 : Int
  A : Option Addr
  len : Nat
  cap : Nat
  zs : List Int
  pA : Option Addr
  pl : Nat
  pc : Nat
  ps : List Int
/-- the eight cells of a call -/
def Cells23 (w : World) (b o : Nat) (x : Ask23) : Prop :=
  w.cell? ⟨b, o, none⟩ = some (.int .i64 x.kd) ∧ w.cell? ⟨b, o + 1, none⟩ = some (.int .i64 x.ct) ∧ w.cell? ⟨b, o + 2, none⟩ = some (.int .u32 x.a0) ∧ w.cell? ⟨b, o + 3, none⟩ = some (.int .u32 x.a1) ∧ w.cell? ⟨b, o + 4, none⟩ = some (.int .u32 x.b0) ∧ w.cell? ⟨b, o + 5, none⟩ = some (.int .u32 x.b1) ∧ w.cell? ⟨b, o + 6, none⟩ = some (.slice x.A x.len x.cap) ∧ w.cell? ⟨b, o + 7, none⟩ = some (.slice x.pA x.pl x.pc)
/-- what holds of a call's parts -/
structure Ask23.Ok (w : World) (B : Nat) (x : Ask23) : Prop where
  kd : (Lit.int .i64 x.kd).wf = true
  ct : (Lit.int .i64 x.ct).wf = true
  a0 : (Lit.int .u32 x.a0).wf = true
  a1 : (Lit.int .u32 x.a1).wf = true
  b0 : (Lit.int .u32 x.b0).wf = true
  b1 : (Lit.int .u32 x.b1).wf = true
  code : IntsAt .u8 w B x.A x.len x.zs ∧ x.len ≤ maxLen ∧ x.len ≤ x.cap
  pages : IntsAt .i64 w B x.pA x.pl x.ps ∧ x.pl ≤ maxLen ∧ x.pl ≤ x.pc
def AskAt (w : World) (B b o : Nat) (x : Ask23) : Prop := Cells23 w b o x ∧ x.Ok w B
def AsksAt (w : World) (B : Nat) (A : Option Addr) (n : Nat) : Prop :=
  0 < n → ∃ b off, A = some ⟨b, off, none⟩ ∧ b < B ∧ ∀ i, i < n → ∃ x, AskAt w B b (off + i * 8) x
theorem AskAt.fr {w w' : World} {B b o : Nat} {x : Ask23} {S : Nat → Prop} (h : AskAt w B b o x) (f : Fr S w w') (hb : b < B) (hB : B ≤ w.heap.size) (hs : ∀ i, i < B → ¬ S i) : AskAt w' B b o x := by
  obtain ⟨⟨h0, h1, h2, h3, h4, h5, h6, h7⟩, k⟩ := h
  have hl := Nat.lt_of_lt_of_le hb hB
  have hn := hs b hb
  exact ⟨⟨f.cell h0 hl hn, f.cell h1 hl hn, f.cell h2 hl hn, f.cell h3 hl hn, f.cell h4 hl hn, f.cell h5 hl hn, f.cell h6 hl hn, f.cell h7 hl hn⟩, ⟨k.kd, k.ct, k.a0, k.a1, k.b0, k.b1, ⟨k.code.1.fr f hB hs, k.code.2⟩, ⟨k.pages.1.fr f hB hs, k.pages.2⟩⟩⟩
theorem AsksAt.at_ {w : World} {B n i : Nat} {A : Option Addr} (h : AsksAt w B A n) (hi : i < n) : ∃ b off, A = some ⟨b, off, none⟩ ∧ b < B ∧ ∃ x, AskAt w B b (off + i * 8) x := by
  obtain ⟨b, off, e, hb, hc⟩ := h (by omega)
  exact ⟨b, off, e, hb, hc i hi⟩
theorem cI : Try.prog.cellsOf 3 = 1 := by kernel_rfl
theorem cU : Try.prog.cellsOf 29 = 1 := by kernel_rfl
theorem cP : Try.prog.cellsOf 44 = 2 := by kernel_rfl
theorem cB : Try.prog.cellsOf 22 = 1 := by kernel_rfl
theorem cG : Try.prog.cellsOf 45 = 1 := by kernel_rfl
theorem cA : Try.prog.cellsOf 47 = 8 := by kernel_rfl
section
variable {H : Type} {enc : TypeId × Value → H} {w : World} {base : Nat} {spare : Nat → Bool} {held : Bool}
theorem cell_pair {n : Nat} {u v : Value} {y : DataW H × List MemPlace} (h : DataW.trod enc Try.prog w base spare held n 44 [u, v] = some y) : ∃ a b : Int, u = .int .u32 a ∧ v = .int .u32 b ∧ (Lit.int .u32 a).wf = true ∧ (Lit.int .u32 b).wf = true := by
  obtain ⟨ys, m, _, _, _, hl, hf⟩ := DataW.trod_array Try.underlying44 h
  have e0 := hf 0 (by omega)
  have e1 := hf 1 (by omega)
  rw [cU, List.getElem?_eq_getElem (by omega)] at e0 e1
  obtain ⟨a, ha, w0⟩ := cell_int Try.underlying29 (v := u) e0
  obtain ⟨b, hb, w1⟩ := cell_int Try.underlying29 (v := v) e1
  exact ⟨a, b, ha, hb, w0, w1⟩
end
theorem openAsks {H : Type} {enc : TypeId × Value → H} {w : World} {a : Option Addr} {len cap : Nat} {d : DataW H} {p : List MemPlace}
    (h : DataW.Trod enc Try.prog w 0 (fun _ => true) true 42 (.slice a len cap) d p) : AsksAt w w.heap.size a len ∧ len ≤ maxLen := by
  obtain ⟨fuel, hf⟩ := h
  rcases open_slice Try.underlying42 hf with ⟨hcs, _⟩ | ⟨x, l, c, m, n, D, Pl, hcs, _, hl, hm, hmm, hx, hi⟩
  · simp [Value.cells] at hcs
    obtain ⟨rfl, rfl, rfl⟩ := hcs
    exact ⟨fun h => absurd h (by omega), by simp [maxLen]⟩
  · simp [Value.cells] at hcs
    obtain ⟨rfl, rfl, rfl⟩ := hcs
    refine ⟨fun hn => ?_, Nat.le_trans hl hm⟩
    have hlm : len ≤ m := by simp at hmm; omega
    have key : ∀ i, i < len → ∃ y : Ask23, (w.cell? (x.add (i * 8)) = some (.int .i64 y.kd) ∧ w.cell? (x.add (i * 8 + 1)) = some (.int .i64 y.ct) ∧ w.cell? (x.add (i * 8 + 2)) = some (.int .u32 y.a0) ∧ w.cell? (x.add (i * 8 + 3)) = some (.int .u32 y.a1) ∧ w.cell? (x.add (i * 8 + 4)) = some (.int .u32 y.b0) ∧ w.cell? (x.add (i * 8 + 5)) = some (.int .u32 y.b1) ∧ w.cell? (x.add (i * 8 + 6)) = some (.slice y.A y.len y.cap) ∧ w.cell? (x.add (i * 8 + 7)) = some (.slice y.pA y.pl y.pc)) ∧ y.Ok w w.heap.size := by
      intro i hil
      obtain ⟨cs', hc, ht'⟩ := hi i (by omega)
      rw [cA] at hc
      obtain ⟨ys, n', _, _, _, hyl, hf⟩ := DataW.trod_struct Try.underlying47 ht'
      obtain ⟨_, hcl, hat⟩ := World.cells?_some hc
      have hyl : ys.length = 6 := hyl
      have hat : ∀ j, j < 8 → w.cell? (x.add (i * 8 + j)) = cs'[j]? := fun j hj => by rw [← add_of_add]; exact hat j hj
      rcases cs' with _ | ⟨c0, _ | ⟨c1, _ | ⟨c2, _ | ⟨c3, _ | ⟨c4, _ | ⟨c5, _ | ⟨c6, _ | ⟨c7, _ | ⟨c8, cs⟩⟩⟩⟩⟩⟩⟩⟩⟩ <;> simp at hcl
      have e0 := hf 0 _ rfl
      have e1 := hf 1 _ rfl
      have e2 := hf 2 _ rfl
      have e3 := hf 3 _ rfl
      have e4 := hf 4 _ rfl
      have e5 := hf 5 _ rfl
      simp only [List.getElem_toArray, List.getElem_cons_zero, List.getElem_cons_succ, cI, cP, cB, cG] at e0 e1 e2 e3 e4 e5
      rw [List.getElem?_eq_getElem (by omega)] at e0 e1 e2 e3 e4 e5
      obtain ⟨kd, rfl, w0⟩ := cell_int Try.underlying3 (v := c0) e0
      obtain ⟨ct, rfl, w1⟩ := cell_int Try.underlying3 (v := c1) e1
      obtain ⟨a0, a1, rfl, rfl, w2, w3⟩ := cell_pair (u := c2) (v := c3) e2
      obtain ⟨b0, b1, rfl, rfl, w4, w5⟩ := cell_pair (u := c4) (v := c5) e3
      obtain ⟨A, ll, cc, zs, rfl, hI, hL, hC⟩ := cell_ints Try.underlying22 Try.underlying5 (by kernel_rfl) (v := c6) e4
      obtain ⟨pA, pl, pc, ps, rfl, gI, gL, gC⟩ := cell_ints Try.underlying45 Try.underlying3 (by kernel_rfl) (v := c7) e5
      exact ⟨⟨kd, ct, a0, a1, b0, b1, A, ll, cc, zs, pA, pl, pc, ps⟩, ⟨hat 0 (by omega), hat 1 (by omega), hat 2 (by omega), hat 3 (by omega), hat 4 (by omega), hat 5 (by omega), hat 6 (by omega), hat 7 (by omega)⟩, ⟨w0, w1, w2, w3, w4, w5, ⟨hI, hL, hC⟩, ⟨gI, gL, gC⟩⟩⟩
    obtain ⟨b, off, spot⟩ := x
    obtain ⟨_, ⟨hc0, _⟩, _⟩ := key 0 hn
    have hspot : spot = none := by simpa [Addr.add] using World.cell?_spot hc0
    subst hspot
    have hadd : ∀ j, (⟨b, off, none⟩ : Addr).add j = ⟨b, off + j, none⟩ := by
      intro j
      unfold Addr.add
      split
      · rename_i h0; subst h0; rfl
      · rfl
    refine ⟨b, off, rfl, ?_, fun i hil => ?_⟩
    · rcases Nat.lt_or_ge b w.heap.size with h | h
      · exact h
      · exfalso
        have : w.heap[b]? = none := Array.getElem?_eq_none h
        rw [hadd] at hc0
        simp [World.cell?, this] at hc0
    · obtain ⟨y, q, r⟩ := key i hil
      simp only [hadd, ← Nat.add_assoc] at q
      exact ⟨y, q, r⟩
end Go.Proofs.Ytfjlgdafakbdoaa.Ca
