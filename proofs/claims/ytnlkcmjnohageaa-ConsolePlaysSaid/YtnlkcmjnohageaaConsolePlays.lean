/- ConsolePlays: the walk, and the argument opened. -/
import Derived.Test.YtnlkcmjnohageaaBookBytes
import Derived.Test.YtnlkcmjnohageaaOpen
import Derived.Deep.RegionWith
import Derived.Deep.DeepCutAuto
import Derived.Deep.CutBlock
namespace Go.Proofs.Ytnlkcmjnohageaa.consolePlays
open Go.RowKit Co Go.ChangeShapes Go.WideShapes Go.Deep
set_option linter.unusedVariables false

def AskAt (w : World) (B b o : Nat) (kd : Int) (A2 : Option Addr) (l2 c2 : Nat) (zs : List Int) : Prop :=
  w.cell? ⟨b, o, none⟩ = some (.int .i64 kd) ∧ w.cell? ⟨b, o + 1, none⟩ = some (.slice A2 l2 c2) ∧ IntsAt .u8 w B A2 l2 zs ∧ l2 ≤ maxLen ∧ l2 ≤ c2
def AsksAt (w : World) (B : Nat) (A : Option Addr) (n : Nat) : Prop :=
  0 < n → ∃ b off, A = some ⟨b, off, none⟩ ∧ b < B ∧ ∀ i, i < n → ∃ kd A2 l2 c2 zs, AskAt w B b (off + i * 2) kd A2 l2 c2 zs
theorem AskAt.fr {w w' : World} {B b o : Nat} {kd : Int} {A2 : Option Addr} {l2 c2 : Nat} {zs : List Int} {S : Nat → Prop} (h : AskAt w B b o kd A2 l2 c2 zs) (f : Fr S w w') (hb : b < B) (hB : B ≤ w.heap.size) (hs : ∀ i, i < B → ¬ S i) : AskAt w' B b o kd A2 l2 c2 zs := by
  obtain ⟨h1, h2, h4, h5⟩ := h
  exact ⟨f.cell h1 (Nat.lt_of_lt_of_le hb hB) (hs b hb), f.cell h2 (Nat.lt_of_lt_of_le hb hB) (hs b hb), h4.fr f hB hs, h5⟩
theorem AsksAt.at_ {w : World} {B n i : Nat} {A : Option Addr} (h : AsksAt w B A n) (hi : i < n) : ∃ b off, A = some ⟨b, off, none⟩ ∧ b < B ∧ ∃ kd A2 l2 c2 zs, AskAt w B b (off + i * 2) kd A2 l2 c2 zs := by
  obtain ⟨b, off, e, hb, hc⟩ := h (by omega)
  exact ⟨b, off, e, hb, hc i hi⟩

theorem openAsks {H : Type} {enc : TypeId × Value → H} {w : World} {a : Option Addr} {len cap : Nat} {d : DataW H} {p : List MemPlace}
    (h : DataW.Trod enc Try.prog w 0 (fun _ => true) true 45 (.slice a len cap) d p) : AsksAt w w.heap.size a len ∧ len ≤ maxLen := by
  obtain ⟨fuel, hf⟩ := h
  rcases open_slice_fields Try.underlying45 Try.underlying47 (by kernel_rfl) (by kernel_rfl) hf with ⟨hcs, _⟩ | ⟨x, l, c, m, D, Pl, hcs, _, hl, hm, hmm, hx, hi⟩
  · simp [Value.cells] at hcs
    obtain ⟨rfl, rfl, rfl⟩ := hcs
    exact ⟨fun h => absurd h (by omega), by simp [maxLen]⟩
  · simp [Value.cells] at hcs
    obtain ⟨rfl, rfl, rfl⟩ := hcs
    refine ⟨fun hn => ?_, Nat.le_trans hl hm⟩
    have hlm : len ≤ m := by simp at hmm; omega
    have key : ∀ i, i < len → ∃ (kd : Int) (A2 : Option Addr) (l2 c2 : Nat) (zs : List Int), w.cell? (x.add (i * 2)) = some (.int .i64 kd) ∧ w.cell? (x.add (i * 2 + 1)) = some (.slice A2 l2 c2) ∧ IntsAt .u8 w w.heap.size A2 l2 zs ∧ l2 ≤ maxLen ∧ l2 ≤ c2 := by
      intro i hil
      obtain ⟨ys, n, _, _, _, hf⟩ := hi i (by omega)
      obtain ⟨v0, y0, hc0, _, ht0⟩ := hf 0 _ rfl
      obtain ⟨v1, y1, hc1, _, ht1⟩ := hf 1 _ rfl
      obtain ⟨kd, rfl, _⟩ := cell_int Try.underlying3 ht0
      obtain ⟨A2, l2, c2, zs, rfl, hin, hl2, hl3⟩ := cell_ints Try.underlying33 Try.underlying5 (by kernel_rfl) ht1
      exact ⟨kd, A2, l2, c2, zs, hc0, hc1, hin, hl2, hl3⟩
    obtain ⟨b, off, spot⟩ := x
    obtain ⟨kd, A2, l2, c2, zs, hc0, _⟩ := key 0 hn
    have hspot : spot = none := by simpa [Addr.add] using World.cell?_spot hc0
    subst hspot
    have hadd : ∀ j, (⟨b, off, none⟩ : Addr).add j = ⟨b, off + j, none⟩ := by
      intro j
      unfold Addr.add
      split
      · rename_i h0; subst h0; rfl
      · rfl
    refine ⟨b, off, rfl, ?_, fun i hil => ?_⟩
    · rcases Nat.lt_or_ge b w.heap.size with h | h
      · exact h
      · exfalso
        have : w.heap[b]? = none := Array.getElem?_eq_none h
        rw [hadd] at hc0
        simp [World.cell?, this] at hc0
    · obtain ⟨kd, A2, l2, c2, zs, hc0, hc1, r⟩ := key i hil
      rw [hadd] at hc0 hc1
      exact ⟨kd, A2, l2, c2, zs, hc0, by rw [Nat.add_assoc]; exact hc1, r⟩

/-- the statement's own list of what waits: a slice, maybe cut at its head -/
def InAt (w : World) (F : Nat → Prop) (vo : Value) (A : Option Addr) (ins : List Int) : Prop :=
  0 < ins.length → ∃ b off, A = some ⟨b, off, none⟩ ∧ b < w.heap.size ∧ ¬ F b ∧ vo.ownBlock ≠ some b ∧ ∀ i, i < ins.length → w.cell? ⟨b, off + i, none⟩ = some (.int .u8 (ins.getD i 0))
/-- what holds between two calls -/
def PI (w0 w : World) (g : Nat) (F : Nat → Prop) (vo : Value) (A : Option Addr) (c : Nat) (outs ins : List Int) : Prop :=
  Con w w0.heap.size g F outs ins ∧ Fr (fun _ => False) w0 w ∧ w.ownsRow w0.heap.size 5 1 vo outs.length (by8 outs) ∧ (∀ k, vo.ownBlock = some k → ¬ F k) ∧ InAt w F vo A ins ∧ ins.length ≤ c ∧ c ≤ maxLen
theorem PI.fr {w0 w w' : World} {g : Nat} {F S : Nat → Prop} {vo : Value} {A : Option Addr} {c : Nat} {outs ins : List Int} (h : PI w0 w g F vo A c outs ins) (f : Fr (fun _ => False) w w') : PI w0 w' g F vo A c outs ins := by
  obtain ⟨h1, h2, h3, h4, h5, h6⟩ := h
  refine ⟨h1.fr f (fun _ _ e => e), h2.tr f, own_fr h3 f (fun _ _ e => e), h4, fun hn => ?_, h6⟩
  obtain ⟨b, off, e, hb, hF, hv, hc⟩ := h5 hn
  exact ⟨b, off, e, Nat.lt_of_lt_of_le hb f.size, hF, hv, fun i hi => f.cell (hc i hi) hb (fun e => e)⟩
/-- a call on the console leaves the statement's own lists -/
theorem PI.keep {w0 w w' : World} {g : Nat} {F F' : Nat → Prop} {vo : Value} {A : Option Addr} {c : Nat} {outs ins outs' ins' : List Int} (h : PI w0 w g F vo A c outs ins) (h' : Con w' w0.heap.size g F' outs' ins') (f : Fr F w w') (hF : ∀ k, F' k → F k ∨ w.heap.size ≤ k) :
    Fr (fun _ => False) w0 w' ∧ w'.ownsRow w0.heap.size 5 1 vo outs.length (by8 outs) ∧ (∀ k, vo.ownBlock = some k → ¬ F' k) ∧ InAt w' F' vo A ins := by
  obtain ⟨h1, h2, h3, h4, h5, h6⟩ := h
  obtain ⟨_, _, _, _, _, _, _, _, _, h8⟩ := h1
  refine ⟨h2.trans f (fun i hi e => by have := h8 i e; omega), own_fr h3 f (fun k hk => h4 k hk), fun k hk hf => ?_, fun hn => ?_⟩
  · rcases hF k hf with h | h
    · exact h4 k hk h
    · have := own_lt h3 k hk; omega
  · obtain ⟨b, off, e, hb, hnF, hv, hc⟩ := h5 hn
    refine ⟨b, off, e, Nat.lt_of_lt_of_le hb f.size, fun hf => ?_, hv, fun i hi => f.cell (hc i hi) hb hnF⟩
    rcases hF b hf with h | h
    · exact hnF h
    · omega
theorem InAt.reads {w : World} {F : Nat → Prop} {vo : Value} {A : Option Addr} {ins : List Int} (h : InAt w F vo A ins) : Reads w w.heap.size 1 A ins.length (by8 ins) := by
  refine ⟨by rw [by8_len, Nat.mul_one], fun hn => ?_⟩
  obtain ⟨b, off, e, hb, _, _, hc⟩ := h hn
  refine ⟨_, e, hb, fun j u hu => ?_⟩
  have hj : j < ins.length := by
    rcases Nat.lt_or_ge j ins.length with h | h
    · exact h
    · rw [List.getElem?_eq_none (by rw [by8_len]; exact h)] at hu; cases hu
  have e1 : (⟨b, off, none⟩ : Addr).add j = ⟨b, off + j, none⟩ := by
    unfold Addr.add
    split
    · rename_i h0; subst h0; rfl
    · rfl
  rw [e1, hc j hj, ← hu]
  simp [by8, hj]
/-- the same, the console's lists and the statement's own apart -/
def PJ (w0 w : World) (g : Nat) (F : Nat → Prop) (vo : Value) (A : Option Addr) (oc ic outs ins : List Int) : Prop :=
  Con w w0.heap.size g F oc ic ∧ Fr (fun _ => False) w0 w ∧ w.ownsRow w0.heap.size 5 1 vo outs.length (by8 outs) ∧ (∀ k, vo.ownBlock = some k → ¬ F k) ∧ InAt w F vo A ins
theorem PI.pj {w0 w : World} {g : Nat} {F : Nat → Prop} {vo : Value} {A : Option Addr} {c : Nat} {outs ins : List Int} (h : PI w0 w g F vo A c outs ins) : PJ w0 w g F vo A outs ins outs ins := ⟨h.1, h.2.1, h.2.2.1, h.2.2.2.1, h.2.2.2.2.1⟩
theorem PJ.pi {w0 w : World} {g : Nat} {F : Nat → Prop} {vo : Value} {A : Option Addr} {c : Nat} {outs ins : List Int} (h : PJ w0 w g F vo A outs ins outs ins) (h1 : ins.length ≤ c) (h2 : c ≤ maxLen) : PI w0 w g F vo A c outs ins := ⟨h.1, h.2.1, h.2.2.1, h.2.2.2.1, h.2.2.2.2, h1, h2⟩
theorem PJ.turn {w0 w w' : World} {g : Nat} {F F' : Nat → Prop} {vo : Value} {A : Option Addr} {oc ic oc' ic' outs ins : List Int} (h : PJ w0 w g F vo A oc ic outs ins) (h' : Con w' w0.heap.size g F' oc' ic') (f : Fr F w w') (hF : ∀ k, F' k → F k ∨ w.heap.size ≤ k) : PJ w0 w' g F' vo A oc' ic' outs ins := by
  obtain ⟨h1, h2, h3, h4, h5⟩ := h
  obtain ⟨_, _, _, _, _, _, _, _, _, h8⟩ := h1
  refine ⟨h', h2.trans f (fun i hi e => by have := h8 i e; omega), own_fr h3 f (fun k hk => h4 k hk), fun k hk hf => ?_, fun hn => ?_⟩
  · rcases hF k hf with h | h
    · exact h4 k hk h
    · have := own_lt h3 k hk; omega
  · obtain ⟨b, off, e, hb, hnF, hv, hc⟩ := h5 hn
    refine ⟨b, off, e, Nat.lt_of_lt_of_le hb f.size, fun hf => ?_, hv, fun i hi => f.cell (hc i hi) hb hnF⟩
    rcases hF b hf with h | h
    · exact hnF h
    · omega
theorem PJ.fr {w0 w w' : World} {g : Nat} {F : Nat → Prop} {vo : Value} {A : Option Addr} {oc ic outs ins : List Int} (h : PJ w0 w g F vo A oc ic outs ins) (f : Fr (fun _ => False) w w') : PJ w0 w' g F vo A oc ic outs ins :=
  h.turn (h.1.fr f (fun _ _ e => e)) (f.mono (fun _ _ e => e.elim)) (fun _ e => .inl e)
/-- an append onto the statement's own list of what was written -/
theorem PJ.out {w0 w w' : World} {g : Nat} {F : Nat → Prop} {vo vo' : Value} {A : Option Addr} {oc ic outs outs' ins : List Int} (h : PJ w0 w g F vo A oc ic outs ins) (hg : w.grownBy w' vo.ownBlock) (hown : w'.ownsRow w0.heap.size 5 1 vo' outs'.length (by8 outs'))
    (hat : vo'.ownBlock = vo.ownBlock ∨ vo'.ownBlock = some w.heap.size) : PJ w0 w' g F vo' A oc ic outs' ins := by
  obtain ⟨h1, h2, h3, h4, h5⟩ := h
  have hF : ∀ k, F k → k < w.heap.size := by
    intro k hk
    obtain ⟨_, _, _, _, _, _, _, _, _, h8⟩ := h1
    exact (h8 k hk).2
  have f : Fr (fun k => vo.ownBlock = some k) w w' := ⟨hg.os, hg.tape, hg.output, hg.size, fun i hi hn => hg.block i hi (fun e => hn e.symm)⟩
  refine ⟨h1.fr f (fun k hk e => h4 k e hk), h2.trans f (fun i hi e => by have := own_base h3 i e; omega), hown, fun k hk hf => ?_, fun hn => ?_⟩
  · rcases hat with e | e
    · exact h4 k (by rw [← e]; exact hk) hf
    · rw [e] at hk; injection hk with hk; have := hF k hf; omega
  · obtain ⟨b, off, e, hb, hnF, hv, hc⟩ := h5 hn
    refine ⟨b, off, e, Nat.lt_of_lt_of_le hb f.size, hnF, fun hv' => ?_, fun i hi => f.cell (hc i hi) hb hv⟩
    rcases hat with e | e
    · exact hv (by rw [← e]; exact hv')
    · rw [e] at hv'; injection hv' with hv'; omega
theorem run_slice8l (A : Option Addr) (len cap lo : Nat) (h2 : lo ≤ len) (w : World) :
    (Instr.slice 33 (.slice A len cap) (some (.int .i64 (lo : Int))) none none).run Try.prog w = .ok (.slice (cutA A cap lo) (len - lo) (cap - lo)) w := by
  obtain ⟨i0, hi0, hz0, hz1, hz2⟩ := info_parts info8
  have he : Try.prog.elem 33 = 5 := by kernel_rfl
  rw [run_slice_l w 33 A len cap (by rw [he]; exact Try.underlying33) .i64 lo (by omega) (by omega)]
  simp [sizeOf, typeInfo, he, hi0, hz1, Result.andThen, sliced, cutA]
theorem InAt.tail {w : World} {F : Nat → Prop} {vo : Value} {A : Option Addr} {c : Nat} {x : Int} {rest : List Int} (h : InAt w F vo A (x :: rest)) (hc : rest.length + 1 ≤ c) : InAt w F vo (cutA A c 1) rest := by
  intro hn
  obtain ⟨b, off, e, hb, hF, hv, hcell⟩ := h (by simp)
  refine ⟨b, off + 1, ?_, hb, hF, hv, fun i hi => ?_⟩
  · rw [cutA, if_neg (by omega), e]
    rfl
  · have := hcell (i + 1) (by simp; omega)
    rw [show off + 1 + i = off + (i + 1) by omega, this]
    simp
theorem in_of_own {w0 w w' : World} {g : Nat} {F : Nat → Prop} {vo : Value} {A A7 : Option Addr} {oc ic outs ins L : List Int} {base n c7 : Nat} (h : PJ w0 w g F vo A oc ic outs ins) (f : Fr (fun _ => False) w w') (hown : w'.ownsRow base 5 1 (.slice A7 n c7) n (by8 L)) (hl : L.length = n)
    (hat : ∀ k, (Value.slice A7 n c7).ownBlock = some k → w.heap.size ≤ k) : PJ w0 w' g F vo A7 oc ic outs L ∧ n ≤ c7 ∧ c7 ≤ maxLen := by
  have h' := h.fr f
  obtain ⟨h1, h2, h3, h4, h5⟩ := h'
  have hF : ∀ k, F k → k < w.heap.size := by
    intro k hk
    obtain ⟨⟨_, _, _, _, _, _, _, _, _, h8⟩, _⟩ := h
    exact (h8 k hk).2
  have hvo : ∀ k, vo.ownBlock = some k → k < w.heap.size := fun k hk => own_lt h.2.2.1 k hk
  have hcc : n ≤ c7 ∧ c7 ≤ maxLen := by
    rcases own_val hown with ⟨e, h0, _⟩ | ⟨g7, cap, e, h1, h2⟩
    · injection e with e1 e2 e3
      subst e3
      exact ⟨by omega, by simp [maxLen]⟩
    · injection e with e1 e2 e3
      subst e3
      exact ⟨h1, h2⟩
  refine ⟨⟨h1, h2, h3, h4, fun hn => ?_⟩, hcc⟩
  obtain ⟨g7, cap, e⟩ := own_pos hown (by omega)
  have eA : A7 = some ⟨g7, 0, none⟩ := by injection e
  subst eA
  have hg7 := hat g7 rfl
  refine ⟨g7, 0, rfl, own_lt hown g7 rfl, fun hf => by have := hF _ hf; omega, fun hv => by have := hvo _ hv; omega, fun i hi => ?_⟩
  have := hown.cells (g := g7) rfl i (.int .u8 (L.getD i 0)) (by simp [by8, hi])
  have e : (⟨g7, 0, none⟩ : Addr).add i = ⟨g7, i, none⟩ := by
    unfold Addr.add
    split
    · rename_i h0; subst h0; rfl
    · simp
  rw [e] at this
  rw [Nat.zero_add]
  exact this

set_option maxRecDepth 100000 in
set_option maxHeartbeats 8000000 in
theorem walk (w : World) (A : Option Addr) (len cap : Nat) (hl : AsksAt w w.heap.size A len ∧ len ≤ maxLen) :
    Calls Try.prog 9 #[.slice A len cap] w fun e w' => e = .returned (.bool true) ∧ Fr (fun _ => False) w w' := by
  obtain ⟨hl, hm⟩ := hl
  unfold maxLen at hm
  go_enter Try.func9, Try.ntmps9
  go_wp2_with fail
  refine (new_L w).mono ?_
  rintro e w1 ⟨rfl, F1, d1, f1⟩
  have hP : PI w w1 w.heap.size F1 (.slice none 0 0) none 0 [] [] :=
    ⟨d1, f1, ⟨by simp [by8], .inl ⟨rfl, rfl⟩⟩, fun k hk => by simp [Value.ownBlock] at hk, fun h => absurd h (by simp), by simp, by simp [maxLen]⟩
  go_wp2_with fail
  go_loopw [4, 5, 6] (fun vi vo i wr => ∃ (k : Nat) (F : Nat → Prop) (A' : Option Addr) (c : Nat) (outs ins : List Int), k ≤ len ∧ k ≤ 60 ∧ i = .int .i64 k ∧ vi = .slice A' ins.length c ∧ PI w wr w.heap.size F vo A' c outs ins ∧ outs.length ≤ 80 * k ∧ ins.length ≤ 64) (fun _ _ i _ => len - (intOf i).toNat)
  case atStart => exact ⟨0, F1, none, 0, [], [], by omega, by omega, rfl, rfl, hP, by simp, by simp⟩
  case round =>
    clear hP
    obtain ⟨k, F, A', c, outs, ins, hk, hk60, rfl, rfl, hP, ho, hi⟩ := hrel
    obtain ⟨wo, rfl⟩ : ∃ wo : World, wo = wr := ⟨_, rfl⟩
    by_cases hlt : k < len ∧ k < 60
    · obtain ⟨h1, h2⟩ := hlt
      obtain ⟨b, off, rfl, hb, kd, A2, l2, c2, zs, ha⟩ := hl.at_ h1
      obtain ⟨q0, q1, hin, hl2, hl3⟩ := ha.fr hP.2.1 hb (Nat.le_refl _) (fun _ _ e => e)
      have hd1 : decide ((k : Int) < 60) = true := by simp; omega
      have hd2 : decide (k < len) = true := by simp; omega
      go_wp2_with fail
      refine (cut_any wo A2 l2 c2 80 hl2 hl3 (by omega)).mono ?_
      rintro e w1' ⟨rfl, rfl⟩
      have hB := ha.2.2.1.take (show min l2 80 ≤ l2 from Nat.min_le_left _ _)
      have hnb : min l2 80 ≤ 80 := Nat.min_le_right _ _
      have hnc : min l2 80 ≤ c2 := by omega
      clear hin hl2 hl3 ha
      generalize min l2 80 = nb at *
      generalize zs.take nb = bl at *
      obtain ⟨i0, hi0, hz0, hz1, hz2⟩ := info_parts info8
      go_upto_block 2 with (fail)
      go_cut [4, 5] (fun vi vo wx => ∃ (F' : Nat → Prop) (A'' : Option Addr) (c' : Nat) (outs' ins' : List Int), vi = .slice A'' ins'.length c' ∧ PI w wx w.heap.size F' vo A'' c' outs' ins' ∧ outs'.length ≤ 80 * (k + 1) ∧ ins'.length ≤ 64)
      case first =>
        by_cases hk1 : kd = 1
        · subst hk1
          have hJ := hP.pj
          have hcc := hP.2.2.2.2.2
          have hblen := Lib.hid hB.1
          clear hP q0 q1
          go_wp2_with fail
          go_loopw [8] (fun i wx => ∃ (j : Nat) (F' : Nat → Prop), j ≤ nb ∧ i = .int .i64 j ∧ PJ w wx w.heap.size F' u5 A' (outs ++ bl.take j) ins outs ins) (fun i _ => nb - (intOf i).toNat)
          case atStart => exact ⟨0, F, by omega, rfl, by rw [List.take_zero, List.append_nil]; exact hJ⟩
          case round =>
            clear hJ
            obtain ⟨j, F', hj, rfl, hJ⟩ := hrel
            by_cases hlt2 : j < nb
            · obtain ⟨bb, oo, rfl, hbb, hcc2⟩ := (hB.fr hJ.2.1 (Nat.le_refl _) (fun _ _ e => e)).at_ hlt2
              have htk := List.take_succ_eq_append_getElem (l := bl) (i := j) (by have := hblen.out; omega)
              have hge : bl[j]'(by have := hblen.out; omega) = bl.getD j 0 := by have := hblen.out; simp [show j < bl.length by omega]
              rw [hge] at htk
              have Htk := Lib.hid htk
              have hol : (outs ++ bl.take j).length ≤ 1099511627776 := by simp; omega
              clear htk hge
              generalize bl.getD j 0 = y at *
              go_wp2_with fail
              refine (write_any _ _ _ _ _ _ y hJ.1 hol hJ.2.1.size).mono ?_
              rintro e w3 ⟨rfl, F3, c3, f3, k3⟩
              have hJ3 := hJ.turn c3 f3 k3
              go_wp2_with fail
              go_roundw
              case rel => exact ⟨j + 1, F3, by omega, by go_num, by rw [Htk.out, ← List.append_assoc]; exact hJ3⟩
              case measure => simp [intOf]; omega
            · have hjn : j = nb := by omega
              have hbt : bl.take j = bl := List.take_of_length_le (by rw [hblen.out]; omega)
              rw [hbt] at hJ
              clear hbt
              have rb := intsAt_reads (hB.fr hJ.2.1 (Nat.le_refl _) (fun _ _ e => e))
              have hown := hJ.2.2.1
              have hbs := hJ.2.1.size
              go_wp2_with
                (at_builtin
                 refine wpList_append_any _ rfl (.tmp 62) (.tmp 63) _ rfl w.heap.size 5 i0 _ 1 1 Try.underlying33 hi0 hz0 hz1 hz2 rfl (by omega) u5 outs.length (by8 outs) rfl hown w.heap.size A2 nb c2 (by8 bl) rfl rb oneCell_ints (by simp only [maxLen]; omega) (by omega) hbs ?_
                 intro v5 w5 hown5 hg5 hat5)
              have e1 : (outs ++ bl).length = outs.length + nb := by rw [List.length_append, hblen.out]
              have hown6 : w5.ownsRow w.heap.size 5 1 v5 (outs ++ bl).length (by8 (outs ++ bl)) := by rw [e1]; simpa [by8] using hown5
              have hJ5 := hJ.out (outs' := outs ++ bl) hg5 hown6 hat5
              go_meet
              exact ⟨F', A', c, outs ++ bl, ins, rfl, hJ5.pi hcc.1 hcc.2, by rw [e1]; omega, hi⟩
        · have g1 : (kd == 1) = false := by simpa using hk1
          by_cases hk2 : kd = 2
          · subst hk2
            have hJ := hP.pj
            have hcc := hP.2.2.2.2.2
            have hBo := hB.fr hP.2.1 (Nat.le_refl _) (fun _ _ e => e)
            have hw64 : (Lit.int .u8 165).wf = true := by decide
            clear q0 q1
            go_upto_if 73 with (fail)
            go_cut [9] (fun cn wx => cn = .int .i64 ((min nb (64 - ins.length) : Nat) : Int) ∧ wo = wx)
            case first =>
              by_cases hq : nb ≤ 64 - ins.length
              · have hq2 : (nb : Int) ≤ 64 - (ins.length : Int) := by omega
                go_wp2_with fail
                all_goals
                  go_meet
                  exact ⟨by congr 1 <;> omega, rfl⟩
              · have hq2 : 64 - (ins.length : Int) < (nb : Int) := by omega
                go_wp2_with fail
                all_goals
                  go_meet
                  exact ⟨by congr 1 <;> omega, rfl⟩
            case rest =>
              obtain ⟨rfl, rfl⟩ := hcut
              have hmm : min nb (64 - ins.length) ≤ nb := Nat.min_le_left _ _
              have hm64 : min nb (64 - ins.length) + ins.length ≤ 64 := by omega
              go_wp2_with fail
              refine (Bk.roomy_any wo w.heap.size nb c2 A2 bl hBo hJ.2.1.size (by omega) 165).mono ?_
              rintro e w3 ⟨rfl, blf, f3⟩
              have hJ3 := hJ.fr f3
              have hgf : ¬ F wo.heap.size := fun hf => by
                obtain ⟨_, _, _, _, _, _, _, _, _, h8⟩ := hJ.1
                have := h8 _ hf; omega
              have hsl := run_slice8h (some ⟨wo.heap.size, 0, none⟩) (nb + 80) (nb + 80) nb (by omega)
              have hfull := Bk.roomy_ints (n := nb) hw64 blf hBo
              go_wp2_with fail
              refine (type_any w3 w.heap.size w.heap.size F outs ins hJ3.1 hi _ _ nb (nb + 80) bl hfull (by simp only [maxLen]; omega) (by omega) hJ3.2.1.size).mono ?_
              rintro e w4 ⟨rfl, F4, c4, f4, k4⟩
              have hJ4 := hJ3.turn c4 f4 k4
              have blf4 := blf.fr f4 hgf
              have hB4 := hB.fr hJ4.2.1 (Nat.le_refl _) (fun _ _ e => e)
              clear hfull hsl blf f4
              generalize hmd : min nb (64 - ins.length) = m at *
              clear hmd
              go_wp2_with fail
              refine (Bk.intact_any w4 wo.heap.size w.heap.size nb c2 A2 bl 165 hw64 blf4 hB4 hJ4.2.1.size (by omega)).mono ?_
              rintro e w5 ⟨rfl, f5⟩
              have hJ5 := hJ4.fr f5
              have hB5 := hB.fr hJ5.2.1 (Nat.le_refl _) (fun _ _ e => e)
              clear blf4 hB4 hJ4 hJ3
              go_wp2_with fail
              have hsl := run_slice8h A2 nb c2 m (by omega)
              have hbs := hJ5.2.1.size
              have ho6 : (w5.drew.alloc (.cells #[] 5)).ownsRow w.heap.size 5 1 (.slice (some ⟨w5.heap.size, 0, none⟩) 0 0) 0 [] := ⟨rfl, .inr ⟨w5.heap.size, 0, #[], rfl, hbs, Blk.new _ _ _, Nat.le_refl _, by simp [maxLen], rfl, rfl⟩⟩
              have r6 : Reads (w5.drew.alloc (.cells #[] 5)) w5.heap.size 1 A' ins.length (by8 ins) := (hJ5.2.2.2.2.reads.drew).alloc (Nat.le_refl _) _
              have r7 : Reads (w5.drew.alloc (.cells #[] 5)) w.heap.size 1 A2 m (by8 (bl.take m)) := ((intsAt_reads (hB5.take hmm)).drew).alloc hbs _
              have H1 := Lib.hid (oneCell_ints (k := .u8) (zs := ins))
              have H2 := Lib.hid (oneCell_ints (k := .u8) (zs := bl.take m))
              have Hb1 : Hid (0 + ins.length ≤ maxLen) := by show _ ≤ _; simp only [maxLen]; omega
              have Hb2 : Hid ((0 + ins.length) * 1 ≤ 140737488355328) := by show _ ≤ _; omega
              have Hb3 : Hid (w.heap.size ≤ (w5.drew.alloc (.cells #[] 5)).heap.size) := by show _ ≤ _; simp; omega
              have Hrow : Hid (∀ q, (Value.slice (some ⟨w5.heap.size, 0, none⟩) 0 0).ownBlock = some q → w.heap.size ≤ q) := by
                intro q hq
                have e : w5.heap.size = q := by simpa [Value.ownBlock] using hq
                omega
              have Hb4 : Hid (0 + ins.length + m ≤ maxLen) := by show _ ≤ _; simp only [maxLen]; omega
              have Hb5 : Hid ((0 + ins.length + m) * 1 ≤ 140737488355328) := by show _ ≤ _; omega
              go_region_law (first
                | (refine step_append_any _ rfl (.tmp 92) (.tmp 93) 33 rfl w.heap.size 5 i0 (.int .u8 0) 1 1 Try.underlying33 hi0 hz0 hz1 hz2 rfl (by omega) (.slice (some ⟨w5.heap.size, 0, none⟩) 0 0) 0 [] (by simp [Act.eval]) ho6 w5.heap.size A' ins.length c (by8 ins) (by simp [Act.eval]) r6 H1.out Hb1.out Hb2.out Hb3.out ?_
                   intro v6 w6 hown6 hg6 hat6
                   have r8 := r7.grown hg6 Hb3.out Hrow.out
                   have Hb6 := Lib.hid (Nat.le_trans Hb3.out hg6.size)
                   have HA6 : Hid (∀ q, v6.ownBlock = some q → w5.heap.size ≤ q) := by
                     intro q hq
                     rcases hat6 with e | e
                     · rw [e] at hq
                       have e : w5.heap.size = q := by simpa [Value.ownBlock] using hq
                       omega
                     · rw [e] at hq
                       have e : w5.heap.size + 1 = q := by simpa using hq
                       omega
                   obtain ⟨A6, c6, hv6⟩ := own_any hown6
                   subst hv6)
                | (refine step_append_any _ rfl (.tmp 94) (.tmp 97) 33 rfl w.heap.size 5 i0 (.int .u8 0) 1 1 Try.underlying33 hi0 hz0 hz1 hz2 rfl (by omega) (.slice A6 (0 + ins.length) c6) (0 + ins.length) ([] ++ by8 ins) (by simp [Act.eval]) hown6 w.heap.size A2 m c2 (by8 (bl.take m)) (by simp [Act.eval]) r8 H2.out Hb4.out Hb5.out Hb6.out ?_
                   intro v7 w7 hown7 hg7 hat7))
              all_goals
                go_wp2_with fail
                obtain ⟨A7, c7, hv7⟩ := own_any hown7
                subst hv7
                have e7 : 0 + ins.length + m = ins.length + m := by omega
                have hL7 : (ins ++ bl.take m).length = 0 + ins.length + m := by have := hB.1; simp; omega
                have f7 : Fr (fun _ => False) w5 w7 := by
                  refine ((((Fr.refl _ _).alloc _).drew).grown hg6 ?_).grown hg7 ?_
                  · intro q hq
                    have e : w5.heap.size = q := by simpa [Value.ownBlock] using hq
                    exact .inr (by omega)
                  · intro q hq
                    exact .inr (HA6.out q hq)
                have h7 := in_of_own (L := ins ++ bl.take m) hJ5 f7 (by simpa [by8] using hown7) hL7 (fun q hq => by
                  rcases hat7 with e | e
                  · exact HA6.out q (by rw [← e]; exact hq)
                  · rw [e] at hq
                    injection hq with hq
                    have := ((Fr.refl (fun _ => False) w5).alloc (.cells #[] 5)).drew.size
                    have := hg6.size
                    omega)
                go_meet
                exact ⟨F4, A7, c7, outs, ins ++ bl.take m, by rw [hL7], h7.1.pi (by rw [hL7]; exact h7.2.1) h7.2.2, by omega, by rw [hL7]; omega⟩
          · have g2 : (kd == 2) = false := by simpa using hk2
            have hJ := hP.pj
            have hcc := hP.2.2.2.2.2
            clear q0 q1
            match ins, hi, hP, hJ, hcc with
            | [], hi, hP, hJ, hcc =>
              go_wp2_with fail
              refine (read_nil _ _ _ _ _ hJ.1).mono ?_
              rintro e w3 ⟨rfl, rfl⟩
              go_wp2_with fail
              go_meet
              exact ⟨F, A', c, outs, [], rfl, hP, by omega, hi⟩
            | x :: rest, hi, hP, hJ, hcc =>
              obtain ⟨b2, off2, rfl, hb2, hF2, hv2, hcell⟩ := hJ.2.2.2.2 (by simp)
              have hc0 := hcell 0 (by simp)
              have hc0' : wo.cell? ⟨b2, off2, none⟩ = some (.int .u8 x) := by simpa using hc0
              have hlen : (x :: rest).length = rest.length + 1 := rfl
              have hsl : ∀ W, (Instr.slice 33 (.slice (some ⟨b2, off2, none⟩) (rest.length + 1) c) (some (.int .i64 1)) none none).run Try.prog W = .ok (.slice (cutA (some ⟨b2, off2, none⟩) c 1) rest.length (c - 1)) W := fun W => run_slice8l _ (rest.length + 1) c 1 (by omega) W
              have hin2 := hJ.2.2.2.2.tail (by simpa using hcc.1)
              have hrl : rest.length ≤ 64 := by simp at hi; omega
              rw [hlen]
              clear hcell hc0
              generalize hcu : cutA (some ⟨b2, off2, none⟩) c 1 = A3 at *
              clear hcu
              have hn0 : (0 : Int) < (rest.length : Int) + 1 := by omega
              go_wp2_with fail
              refine (read_cons _ _ _ _ _ x rest hJ.1 hrl hJ.2.1.size).mono ?_
              rintro e w3 ⟨rfl, F3, c3, f3, k3⟩
              have hJ3 : PJ w w3 w.heap.size F3 u5 A3 outs rest outs rest := PJ.turn ⟨hJ.1, hJ.2.1, hJ.2.2.1, hJ.2.2.2.1, hin2⟩ c3 f3 k3
              go_wp2_with fail
              go_meet
              exact ⟨F3, A3, c - 1, outs, rest, rfl, hJ3.pi (by have := hcc.1; simp at this; omega) (by have := hcc.2; omega), by omega, hrl⟩
      case rest =>
        obtain ⟨F', A'', c', outs', ins', rfl, hP', ho', hi'⟩ := hcut
        clear hP q0 q1
        have hPd := hP'.fr (S := fun _ => False) ((Fr.refl _ _).drew)
        obtain ⟨Ao, co, hvo⟩ := own_any hPd.2.2.1
        subst hvo
        have cvI : ∀ W, Fr (fun _ => False) wc.drew W → (convert 33 9 (.slice A'' ins'.length c')).run Try.prog W = .ok (.string (str ins')) W := fun W f => run_str W _ A'' _ _ ins' (hPd.fr (S := fun _ => False) f).2.2.2.2.1.reads
        have cvO : ∀ W, Fr (fun _ => False) wc.drew W → (convert 33 9 (.slice Ao outs'.length co)).run Try.prog W = .ok (.string (str outs')) W := fun W f => run_str W _ Ao _ _ outs' (Reads.of_own (hPd.fr (S := fun _ => False) f).2.2.1)
        have a0 := cvI _ (Fr.refl _ _)
        have b0 := cvO _ (Fr.refl _ _)
        have hwt := waits_any _ _ _ _ _ _ hPd.1
        have hin := input_any _ _ _ _ _ _ hPd.1 (by omega) w.heap.size hPd.2.1.size
        have CI := Lib.hid cvI
        have CO := Lib.hid cvO
        clear cvI cvO
        go_wp2_with fail
        go_region_with (first
          | (go_at_call 19; refine hwt.mono ?_; rintro e w4 ⟨rfl, rfl⟩)
          | (go_at_call 20; refine hin.mono ?_; rintro e w5 ⟨v5, rfl, ho5, f5, k5⟩; have a5 := CI.out _ f5; have b5 := CO.out _ f5; obtain ⟨A5, c5, hv5⟩ := own_any ho5; subst hv5; have i5 := run_str w5 _ A5 _ c5 ins' (Reads.of_own ho5))
          | (go_at_call 27; refine (output_any _ _ _ _ _ _ (hPd.fr (S := fun _ => False) f5).1 (by omega) w.heap.size (hPd.fr (S := fun _ => False) f5).2.1.size).mono ?_; rintro e w6 ⟨v6, rfl, ho6, f6, k6⟩; have a6 := CI.out _ (f5.tr f6); have b6 := CO.out _ (f5.tr f6); obtain ⟨A6, c6, hv6⟩ := own_any ho6; subst hv6; have i6 := run_str w6 _ A6 _ c6 outs' (Reads.of_own ho6)))
        all_goals
          go_wp2_with fail
          exact ⟨⟨k + 1, F', A'', c', outs', ins', by omega, by omega, by go_num, rfl, hPd.fr (S := fun _ => False) (f5.tr f6), ho', hi'⟩, by simp [intOf]; omega⟩
    · go_wp2_with fail
      all_goals
        refine (known_any _).mono ?_
        rintro e w6 ⟨rfl, f6⟩
        go_wp2_with fail
        go_ret
        exact ⟨rfl, hP.2.1.tr f6⟩
end Go.Proofs.Ytnlkcmjnohageaa.consolePlays
