/- A statement's bus, II: the parts' own calls. -/
import Derived.Test.YthiephlfhbkcbaaDoorBusOwn
namespace Go.Proofs.YthiephlfhbkcbaaDoor.Bs
open Go.RowKit Fm Nt Rm By Dr Rf
set_option linter.unusedVariables false
set_option maxHeartbeats 8000000

section
variable {w0 w w' : World} {K : Nat → Prop} {a : Ab} {s s' : Sb}
theorem BO.step {F : Nat → Prop} {v : Value} {e : Ending} (hb : ∀ k, a.wr F k ∨ k = a.gd → w0.heap.size ≤ k ∧ ¬ K k) (f0 : Fr (fun _ => False) w0 w) (hK : ∀ k, K k → k < w.heap.size) (h : BPost w F a s' v e w') : e = .returned v ∧ BO w0 w' K a s' ∧ Fr (fun k => ¬ K k) w w' := BO.post hb f0 hK h
/-- one line is raised: its list was just made -/
theorem raise_o (h : BO w0 w K a s) (z : Nat) (hz : z < 8) :
    Calls Tryd.prog 8 #[.pointer (some ⟨a.gc, 0, none⟩), .slice (some ⟨w.heap.size, 0, none⟩) 1 1] (w.alloc (.cells #[.int .i64 (z : Int)] 3)) fun e w' => e = .returned (.bool true) ∧ BO w0 w' K a { s with p := s.p ||| 2 ^ z } ∧ Fr (fun k => ¬ K k) w w' := by
  obtain ⟨F, h1, h2, h3, h4⟩ := h
  refine (raise1 h1 z hz).mono ?_
  rintro e w' ⟨rfl, hB, f⟩
  exact BO.post h2 h3 h4 ⟨rfl, F, hB, fun k hk => .inl hk, f.mono (fun k _ e => .inr (.inl e))⟩
theorem setMask_o (h : BO w0 w K a s) (b : Nat) (hb : b < 4294967296) :
    Calls Tryd.prog 10 #[.pointer (some ⟨a.gc, 0, none⟩), .int .u32 (b : Int)] w fun e w' => e = .returned (.tuple #[]) ∧ BO w0 w' K a { s with m := b % 256 } ∧ Fr (fun k => ¬ K k) w w' := by
  obtain ⟨F, h1, h2, h3, h4⟩ := h
  refine (Iq.setMask_any w a.gc s.p s.m b h1.c hb).mono ?_
  rintro e w' ⟨rfl, hc, f⟩
  exact BO.post h2 h3 h4 ⟨rfl, F, h1.setC hc f h1.ok.p (Nat.mod_lt _ (by omega)), fun k hk => .inl hk, f.mono (fun k _ e => .inr (.inl e))⟩
theorem set_o (h : BO w0 w K a s) (v : Int) (v0 : 0 ≤ v) (v1 : v ≤ 4294967295) :
    Calls Tryd.prog 11 #[.pointer (some ⟨a.gt, 0, none⟩), .int .u32 v] w fun e w' => e = .returned (.tuple #[]) ∧ BO w0 w' K a { s with tm := v } ∧ Fr (fun k => ¬ K k) w w' := by
  obtain ⟨F, h1, h2, h3, h4⟩ := h
  refine (Tm.set_any w a.gt s.tm v h1.t).mono ?_
  rintro e w' ⟨rfl, hc, f⟩
  exact BO.post h2 h3 h4 ⟨rfl, F, h1.setT hc f v0 v1, fun k hk => .inl hk, f.mono (fun k _ e => .inr (.inr (.inl e)))⟩
theorem write_o (h : BO w0 w K a s) (b : Int) (b0 : 0 ≤ b) (b1 : b < 256) (ho : s.outs.length ≤ 1000000) :
    Calls Tryd.prog 13 #[.pointer (some ⟨a.gk, 0, none⟩), .int .u8 b] w fun e w' => e = .returned (.tuple #[]) ∧ BO w0 w' K a { s with outs := s.outs ++ [b] } ∧ Fr (fun k => ¬ K k) w w' := by
  obtain ⟨F, h1, h2, h3, h4⟩ := h
  refine (Co.write_any w 0 a.gk F s.outs s.ins b h1.k (by omega) (Nat.zero_le _)).mono ?_
  rintro e w' ⟨rfl, F', hk', f', hF'⟩
  exact BO.post h2 h3 h4 ⟨rfl, F', h1.setK hk' f' hF' h1.ok.len h1.ok.ins (fun z hz => by
      rcases List.mem_append.1 hz with e | e
      · exact h1.ok.outs z e
      · have : z = b := by simpa using e
        omega), hF', f'.mono (fun k _ e => .inr (.inr (.inr (.inr (.inr e)))))⟩
theorem output_o (h : BO w0 w K a s) (hlo : s.outs.length ≤ 1000000) :
    Calls Tryd.prog 18 #[.pointer (some ⟨a.gk, 0, none⟩)] w fun e w' => ∃ A n c, e = .returned (.slice A n c) ∧ n = s.outs.length ∧ IntsAt .u8 w' w'.heap.size A n s.outs ∧ n ≤ c ∧ (∀ b off, A = some ⟨b, off, none⟩ → w.heap.size ≤ b) ∧ Fr (fun _ => False) w w' := by
  obtain ⟨F, h1, h2, h3, h4⟩ := h
  exact output_ints w F a s h1 hlo
theorem type_o (h : BO w0 w K a s) (B : Nat) (A : Option Addr) (len cap : Nat) (zs : List Int) (hl : IntsAt .u8 w B A len zs) (hm : len ≤ maxLen) (hcap : len ≤ cap) :
    Calls Tryd.prog 19 #[.pointer (some ⟨a.gk, 0, none⟩), .slice A len cap] w fun e w' => e = .returned (.int .i64 (s.fit len : Nat)) ∧ BO w0 w' K a { s with ins := s.ins ++ zs.take (s.fit len) } ∧ Fr (fun k => ¬ K k) w w' := by
  obtain ⟨F, h1, h2, h3, h4⟩ := h
  have hlz := hl.1
  have hzb : ∀ z ∈ zs, 0 ≤ z ∧ z < 256 := fun z hz => by
    obtain ⟨i, hi, rfl⟩ := List.getElem_of_mem hz
    have := wf_u8 (hl.2.1 i (by omega))
    have e : zs.getD i 0 = zs[i] := by simp [hi]
    rw [e] at this
    omega
  refine (Co.type_any w 0 a.gk F s.outs s.ins h1.k h1.ok.len B A len cap zs hl hm hcap (Nat.zero_le _)).mono ?_
  rintro e w' ⟨rfl, F', hk', f', hF'⟩
  have hll := h1.ok.len
  exact BO.post h2 h3 h4 ⟨rfl, F', h1.setK hk' f' hF' (by
      rw [List.length_append, List.length_take]
      have h5 := Nat.min_le_left (s.fit len) zs.length
      have h6 : s.fit len ≤ 64 - s.ins.length := Nat.min_le_right len (64 - s.ins.length)
      omega) (fun z hz => by
      rcases List.mem_append.1 hz with e | e
      · exact h1.ok.ins z e
      · exact hzb z (List.mem_of_mem_take e)) h1.ok.outs, hF', f'.mono (fun k _ e => .inr (.inr (.inr (.inr (.inr e)))))⟩
theorem waits_o (h : BO w0 w K a s) : Calls Tryd.prog 20 #[.pointer (some ⟨a.gk, 0, none⟩)] w fun e w' => e = .returned (.int .i64 s.ins.length) ∧ w = w' := by
  obtain ⟨F, h1, _⟩ := h
  exact Co.waits_any w 0 a.gk F s.outs s.ins h1.k
theorem mask_o (h : BO w0 w K a s) : Calls Tryd.prog 16 #[.pointer (some ⟨a.gc, 0, none⟩)] w fun e w' => e = .returned (.int .u32 (s.m : Int)) ∧ w = w' := by
  obtain ⟨F, h1, _⟩ := h
  exact Iq.mask_any w a.gc s.p s.m h1.c
theorem next_o (hT : Iq.Tab w) (h : BO w0 w K a s) : Calls Tryd.prog 14 #[.pointer (some ⟨a.gc, 0, none⟩)] w fun e w' => e = .returned (.tuple #[.int .i64 (Iq.nextN s.p s.m), .bool (Iq.nextB s.p s.m)]) ∧ Fr (fun _ => False) w w' := by
  obtain ⟨F, h1, _⟩ := h
  have hp := h1.ok.p
  refine (Iq.next_any w a.gc s.p s.m hT h1.c (by omega) h1.ok.m).mono ?_
  rintro e w' ⟨rfl, _, f⟩
  exact ⟨rfl, f⟩
theorem dall_o (h : BO w0 w K a s) : Calls Tryd.prog 21 #[.pointer (some ⟨a.gd, 0, none⟩)] w (GivesL w 1024 (lst s.d 1024)) := by
  obtain ⟨F, h1, _⟩ := h
  exact dall_any w a.gd a.ge s.d h1.d
theorem mall_o (h : BO w0 w K a s) : Calls Tryd.prog 39 #[.pointer (some ⟨a.am.gm, 0, none⟩)] w fun e w' => e = .returned (.slice (some ⟨w.heap.size, 0, none⟩) (s.ms.n * 64) (s.ms.n * 64)) ∧ Cells w' w.heap.size 5 (s.ms.n * 64) (fun k => .int .u8 (s.ms.mem k)) ∧ Fr (fun _ => False) w w' := by
  obtain ⟨F, h1, _⟩ := h
  exact all_any w a.am s.ms h1.M
end
end Go.Proofs.YthiephlfhbkcbaaDoor.Bs
