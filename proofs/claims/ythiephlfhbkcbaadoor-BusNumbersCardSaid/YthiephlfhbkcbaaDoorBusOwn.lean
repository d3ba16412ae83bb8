/- A statement's bus: its calls, all in one form. -/
import Derived.Test.YthiephlfhbkcbaaDoorBusBoth
namespace Go.Proofs.YthiephlfhbkcbaaDoor.Bs
open Go.RowKit Fm Nt Rm By Dr Rf
set_option linter.unusedVariables false
set_option maxHeartbeats 8000000

/-- a bus that the statement itself made; blocks of K are not its -/
def BO (w0 w : World) (K : Nat → Prop) (a : Ab) (s : Sb) : Prop := ∃ F, Bus w F a s ∧ (∀ k, a.wr F k ∨ k = a.gd → w0.heap.size ≤ k ∧ ¬ K k) ∧ Fr (fun _ => False) w0 w ∧ (∀ k, K k → k < w.heap.size)
section
variable {w0 w w' : World} {K : Nat → Prop} {a : Ab} {s s' : Sb}
theorem BO.fr0 (h : BO w0 w K a s) (f : Fr (fun _ => False) w w') : BO w0 w' K a s := by
  obtain ⟨F, h1, h2, h3, h4⟩ := h
  exact ⟨F, h1.fr0 f, h2, h3.tr f, fun k hk => Nat.lt_of_lt_of_le (h4 k hk) f.size⟩
theorem BO.frame (h : BO w0 w K a s) : Fr (fun _ => False) w0 w := by
  obtain ⟨F, h1, h2, h3, h4⟩ := h
  exact h3
/-- what is written elsewhere, in K -/
theorem BO.elsewhere {S : Nat → Prop} (h : BO w0 w K a s) (f : Fr S w w') (hs : ∀ k, S k → K k ∧ w0.heap.size ≤ k) : BO w0 w' K a s := by
  obtain ⟨F, h1, h2, h3, h4⟩ := h
  exact ⟨F, h1.fr f (fun k hk e => (h2 k hk).2 (hs k e).1), h2, h3.trans f (fun i hi e => by have := (hs i e).2; omega), fun k hk => Nat.lt_of_lt_of_le (h4 k hk) f.size⟩
/-- blocks that were just made are not its -/
theorem BO.keep {K' : Nat → Prop} (h : BO w0 w K a s) (f : Fr (fun _ => False) w w') (hk : ∀ k, K' k → K k ∨ w.heap.size ≤ k ∧ k < w'.heap.size) : BO w0 w' K' a s := by
  obtain ⟨F, h1, h2, h3, h4⟩ := h
  have hl := h1.lt
  refine ⟨F, h1.fr0 f, fun k e => ⟨(h2 k e).1, fun e2 => ?_⟩, h3.tr f, fun k e => ?_⟩
  · rcases hk k e2 with e3 | e3
    · exact (h2 k e).2 e3
    · have := hl k e; omega
  · rcases hk k e with e3 | e3
    · exact Nat.lt_of_lt_of_le (h4 k e3) f.size
    · exact e3.2
theorem BO.cells (h : BO w0 w K a s) : w.cell? ⟨a.gB, 0, none⟩ = some (.pointer (some ⟨a.gc, 0, none⟩)) ∧ w.cell? ⟨a.gB, 1, none⟩ = some (.pointer (some ⟨a.gt, 0, none⟩)) ∧ w.cell? ⟨a.gB, 2, none⟩ = some (.pointer (some ⟨a.gk, 0, none⟩)) ∧ w.cell? ⟨a.gB, 3, none⟩ = some (.pointer (some ⟨a.gd, 0, none⟩)) ∧ w.cell? ⟨a.gB, 4, none⟩ = some (.pointer (some ⟨a.am.gm, 0, none⟩)) ∧ w.cell? ⟨a.gB, 5, none⟩ = some (.int .u32 s.sec) ∧ w.cell? ⟨a.gB, 6, none⟩ = some (.int .u32 s.pl) ∧ w.cell? ⟨a.gB, 7, none⟩ = some (.int .u32 s.st) := by
  obtain ⟨F, h1, _⟩ := h
  exact h1.cells
theorem BO.post {F : Nat → Prop} {v : Value} {e : Ending} (hb : ∀ k, a.wr F k ∨ k = a.gd → w0.heap.size ≤ k ∧ ¬ K k) (f0 : Fr (fun _ => False) w0 w) (hK : ∀ k, K k → k < w.heap.size) (h : BPost w F a s' v e w') : e = .returned v ∧ BO w0 w' K a s' ∧ Fr (fun k => ¬ K k) w w' := by
  obtain ⟨rfl, F', h1, h2, h3⟩ := h
  refine ⟨rfl, ⟨F', h1, fun k hk => ?_, f0.trans h3 (fun i hi e => by have := (hb i (.inl e)).1; omega), fun k hk => Nat.lt_of_lt_of_le (hK k hk) h3.size⟩, h3.mono (fun k _ e => (hb k (.inl e)).2)⟩
  rcases hk with (e | e | e | e | e | e) | e
  · exact hb k (.inl (.inl e))
  · exact hb k (.inl (.inr (.inl e)))
  · exact hb k (.inl (.inr (.inr (.inl e))))
  · exact hb k (.inl (.inr (.inr (.inr (.inl e)))))
  · exact hb k (.inl (.inr (.inr (.inr (.inr (.inl e))))))
  · rcases h2 k e with h | h
    · exact hb k (.inl (.inr (.inr (.inr (.inr (.inr h))))))
    · exact ⟨by have := f0.size; omega, fun e2 => by have := hK k e2; omega⟩
  · exact hb k (.inr e)
theorem BO.ok (h : BO w0 w K a s) : s.Ok := by
  obtain ⟨F, h1, _⟩ := h
  exact h1.ok
theorem load_o (h : BO w0 w K a s) (at_ cnt : Int) (a0 : 0 ≤ at_) (a1 : at_ ≤ 4294967295) (n0 : 0 ≤ cnt) (n1 : cnt ≤ 18446744073709551615) :
    Calls Tryd.prog 23 #[.pointer (some ⟨a.gB, 0, none⟩), .int .u32 at_, .int .u64 cnt] w fun e w' => e = .returned (.tuple #[.int .u32 (loadV s at_ cnt), .bool (loadB at_)]) ∧ BO w0 w' K a (s.read at_) ∧ Fr (fun k => ¬ K k) w w' := by
  obtain ⟨F, h1, h2, h3, h4⟩ := h
  exact (load_any w F a s h1 at_ cnt a0 a1 n0 n1).mono fun e w' hp => BO.post h2 h3 h4 hp
theorem store_o (h : BO w0 w K a s) (at_ v cnt : Int) (a0 : 0 ≤ at_) (a1 : at_ ≤ 4294967295) (v0 : 0 ≤ v) (v1 : v ≤ 4294967295) (hlo : s.outs.length ≤ 1000000) :
    Calls Tryd.prog 24 #[.pointer (some ⟨a.gB, 0, none⟩), .int .u32 at_, .int .u32 v, .int .u64 cnt] w fun e w' => e = .returned (.bool (loadB at_)) ∧ BO w0 w' K a (s.store at_ v) ∧ Fr (fun k => ¬ K k) w w' := by
  obtain ⟨F, h1, h2, h3, h4⟩ := h
  exact (store_any w F a s h1 at_ v cnt a0 a1 v0 v1 hlo).mono fun e w' hp => BO.post h2 h3 h4 hp
theorem tick_o (h : BO w0 w K a s) (cnt : Int) :
    Calls Tryd.prog 42 #[.pointer (some ⟨a.gB, 0, none⟩), .int .u64 cnt] w fun e w' => e = .returned (.tuple #[]) ∧ BO w0 w' K a (s.tick cnt) ∧ Fr (fun k => ¬ K k) w w' := by
  obtain ⟨F, h1, h2, h3, h4⟩ := h
  exact (tick_any w F a s h1 cnt).mono fun e w' hp => BO.post h2 h3 h4 hp
theorem input_o (h : BO w0 w K a s) (B : Nat) (A : Option Addr) (len cap : Nat) (zs : List Int) (hl : IntsAt .u8 w B A len zs) (hm : len ≤ maxLen) (hcap : len ≤ cap) :
    Calls Tryd.prog 33 #[.pointer (some ⟨a.gB, 0, none⟩), .slice A len cap] w fun e w' => e = .returned (.int .i64 (s.fit len : Nat)) ∧ BO w0 w' K a (s.input zs) ∧ Fr (fun k => ¬ K k) w w' := by
  obtain ⟨F, h1, h2, h3, h4⟩ := h
  exact (input_any w F a s h1 B A len cap zs hl hm hcap).mono fun e w' hp => BO.post h2 h3 h4 hp
theorem pending_o (h : BO w0 w K a s) : Calls Tryd.prog 15 #[.pointer (some ⟨a.gc, 0, none⟩)] w fun e w' => e = .returned (.int .u32 (s.p : Int)) ∧ w = w' := by
  obtain ⟨F, h1, _⟩ := h
  exact Iq.pending_any w a.gc s.p s.m h1.c
theorem at_o (h : BO w0 w K a s) : Calls Tryd.prog 17 #[.pointer (some ⟨a.gt, 0, none⟩)] w fun e w' => e = .returned (.int .u32 s.tm) ∧ w = w' := by
  obtain ⟨F, h1, _⟩ := h
  exact Tm.at_any w a.gt s.tm h1.t
/-- the statements' own bus -/
theorem bo_both {yl zl : List Int} {e : Ending} (h : Both15 w yl zl e w') : ∃ (a : Ab) (gR : Nat), e = .returned (.tuple #[.pointer (some ⟨a.gB, 0, none⟩), .pointer (some ⟨gR, 0, none⟩), .pointer (some ⟨a.am.gm, 0, none⟩)]) ∧ BO w w' (fun _ => False) a (Sb.new (Ms.init 4 yl) zl) := by
  obtain ⟨a, F, r, rfl, hB, _, hbl, _, _, f⟩ := h
  exact ⟨a, r.gR, rfl, F, hB, fun k hk => ⟨hbl k hk, fun e => e⟩, f, fun _ e => e.elim⟩
end
theorem read_outs (s : Sb) (P : Int) : (s.read P).outs = s.outs := by
  unfold Sb.read
  split <;> rfl
theorem off_dev {k : Nat} (h : k < 1000) : offO (32768 + (k : Int)) = k := by
  unfold offO
  omega
end Go.Proofs.YthiephlfhbkcbaaDoor.Bs
