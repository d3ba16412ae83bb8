/- Translations that are kept (cache.Cache): what a cache is; New, place, Find, Len, Flushes. -/
import Derived.Test.YtfjlgdafakbdoaaCaKey
import Derived.Test.YtfjlgdafakbdoaaAppend
namespace Go.Proofs.Ytfjlgdafakbdoaa.Ca
open Go.RowKit Mz Go.Maps
set_option linter.unusedVariables false
set_option linter.unusedSimpArgs false
set_option maxHeartbeats 4000000

def Bk.k (b : Bk) : Ky := (b.pc, b.pl)
def dBk : Bk := ⟨0, 0, [], 0, none, 0⟩
def nthB (l : List Bk) (i : Nat) : Bk := l.getD i dBk
def nthK (l : List Ky) (i : Nat) : Ky := l.getD i (0, 0)
theorem nthB_at {l : List Bk} {i : Nat} (h : i < l.length) : nthB l i = l[i] := by simp [nthB, List.getD_eq_getElem?_getD, h]
theorem nthK_at {l : List Ky} {i : Nat} (h : i < l.length) : nthK l i = l[i] := by simp [nthK, List.getD_eq_getElem?_getD, h]
/-- links that lead from a block, and where they lie -/
structure Lr where
  ks : List Ky
  A : Option Addr
  c : Nat
/-- what a cache holds, and where it lies -/
structure Cs where
  room : Int
  bl : List Bk
  A : Option Addr
  c : Nat
  gm : Nat
  E : List (Ky × Lr)
  fl : Int
def ab (A : Option Addr) : Option Nat := A.map (·.block)
def ent (p : Ky × Lr) : Ky × Value := (p.1, .slice p.2.A p.2.ks.length p.2.c)
def BRow (w : World) (A : Option Addr) (c : Nat) (l : List Bk) : Prop := (l = [] ∧ A = none ∧ c = 0) ∨ ∃ gl, A = some ⟨gl, 0, none⟩ ∧ Row_b w gl c l.length (nthB l) ∧ c ≤ maxLen
def CodeOk (w : World) (b : Bk) : Prop := w.ownsRow 0 5 1 (.slice b.A b.code.length b.c) b.code.length (b.code.map (Value.int .u8))
def LrOk (w : World) (l : Lr) : Prop := (l.ks = [] ∧ l.A = none ∧ l.c = 0) ∨ ∃ gk, l.A = some ⟨gk, 0, none⟩ ∧ Row_k w gk l.c l.ks.length (nthK l.ks) ∧ l.c ≤ maxLen
/-- the blocks that calls may write -/
def Cs.wr (s : Cs) (g k : Nat) : Prop := k = g ∨ ab s.A = some k ∨ k = s.gm ∨ ∃ p ∈ s.E, ab p.2.A = some k
/-- all blocks that are a cache's -/
def Cs.own (s : Cs) (g k : Nat) : Prop := s.wr g k ∨ ∃ b ∈ s.bl, ab b.A = some k
def cells4 (s : Cs) : Array Value := #[.int .i64 s.room, .slice s.A s.bl.length s.c, .map (some s.gm), .int .i64 s.fl]
/-- what holds of a cache's numbers -/
structure Cs.Ok (s : Cs) : Prop where
  room : 1 ≤ s.room ∧ s.room ≤ 1024
  len : (s.bl.length : Int) ≤ s.room
  keys : ∀ b ∈ s.bl, b.k.Ok
  kd : (s.bl.map Bk.k).Nodup
  ct : ∀ b ∈ s.bl, 1 ≤ b.ct ∧ b.ct ≤ 9223372036854775807
  code : ∀ b ∈ s.bl, b.code ≠ [] ∧ b.code.length ≤ 1000000 ∧ ∀ z ∈ b.code, 0 ≤ z ∧ z < 256
  fl : 0 ≤ s.fl
  froms : ∀ p ∈ s.E, p.1 ∈ s.bl.map Bk.k
  tos : ∀ p ∈ s.E, p.2.ks.Nodup ∧ ∀ k ∈ p.2.ks, k ∈ s.bl.map Bk.k
/-- a cache -/
structure Cch (w : World) (g : Nat) (s : Cs) : Prop where
  b : Blk w g 60 (cells4 s)
  m : ∃ bs clock, MapL Try.prog 31 kyv w s.gm (s.E.map ent) bs clock
  r : BRow w s.A s.c s.bl
  code : ∀ b ∈ s.bl, CodeOk w b
  rows : ∀ p ∈ s.E, LrOk w p.2
  sep : s.E.Pairwise (fun p q => ∀ k, ab p.2.A = some k → ab q.2.A ≠ some k)
  ok : s.Ok
section
variable {w w' : World} {g : Nat} {s : Cs} {S : Nat → Prop}
theorem BRow.fr {A : Option Addr} {c : Nat} {l : List Bk} (h : BRow w A c l) (f : Fr S w w') (hs : ∀ k, ab A = some k → ¬ S k) : BRow w' A c l := by
  rcases h with h | ⟨gl, rfl, h1, h2⟩
  · exact .inl h
  · exact .inr ⟨gl, rfl, h1.fr f (hs gl rfl), h2⟩
theorem LrOk.fr {l : Lr} (h : LrOk w l) (f : Fr S w w') (hs : ∀ k, ab l.A = some k → ¬ S k) : LrOk w' l := by
  rcases h with h | ⟨gl, e, h1, h2⟩
  · exact .inl h
  · exact .inr ⟨gl, e, h1.fr f (hs gl (by rw [e]; rfl)), h2⟩
theorem CodeOk.fr {b : Bk} (h : CodeOk w b) (f : Fr S w w') (hs : ∀ k, ab b.A = some k → ¬ S k) : CodeOk w' b := by
  refine own_fr h f (fun k hk => hs k ?_)
  unfold CodeOk at h
  rcases h.2 with ⟨e, _⟩ | ⟨g', cap, cur, e, _⟩
  · rw [e] at hk
    simp [Value.ownBlock] at hk
  · rw [e] at hk
    injection e with e
    rw [e]
    simpa [Value.ownBlock, ab] using hk
theorem Cch.fr (h : Cch w g s) (f : Fr S w w') (hs : ∀ k, s.own g k → ¬ S k) : Cch w' g s := by
  obtain ⟨bs, clock, hm⟩ := h.m
  exact ⟨h.b.fr f (hs _ (.inl (.inl rfl))), ⟨bs, clock, hm.fr f (hs _ (.inl (.inr (.inr (.inl rfl)))))⟩, h.r.fr f (fun k hk => hs k (.inl (.inr (.inl hk)))), fun b hb => (h.code b hb).fr f (fun k hk => hs k (.inr ⟨b, hb, hk⟩)), fun p hp => (h.rows p hp).fr f (fun k hk => hs k (.inl (.inr (.inr (.inr ⟨p, hp, hk⟩))))), h.sep, h.ok⟩
theorem Cch.fr0 (h : Cch w g s) (f : Fr (fun _ => False) w w') : Cch w' g s := h.fr f (fun _ _ e => e)
theorem Cch.cells (h : Cch w g s) : w.cell? ⟨g, 0, none⟩ = some (.int .i64 s.room) ∧ w.cell? ⟨g, 1, none⟩ = some (.slice s.A s.bl.length s.c) ∧ w.cell? ⟨g, 2, none⟩ = some (.map (some s.gm)) ∧ w.cell? ⟨g, 3, none⟩ = some (.int .i64 s.fl) := ⟨h.b.cell 0, h.b.cell 1, h.b.cell 2, h.b.cell 3⟩
theorem BRow.at_ {A : Option Addr} {c : Nat} {l : List Bk} (h : BRow w A c l) : At_b w A l.length (nthB l) := by
  rcases h with ⟨rfl, _, _⟩ | ⟨gl, rfl, h1, _⟩
  · exact fun q hq => absurd hq (by simp)
  · exact h1.at_
end
/-- the place of a block; -1 of none -/
def idx (k : Ky) : List Bk → Int
  | [] => -1
  | b :: l => if b.k = k then 0 else if idx k l < 0 then -1 else idx k l + 1
theorem idx_cons (k : Ky) (b : Bk) (l : List Bk) : idx k (b :: l) = if b.k = k then 0 else if idx k l < 0 then -1 else idx k l + 1 := rfl
theorem idx_lo (k : Ky) : ∀ l : List Bk, -1 ≤ idx k l ∧ idx k l < l.length
  | [] => ⟨by simp [idx], by simp [idx]⟩
  | b :: l => by
    have ih := idx_lo k l
    rw [idx_cons]
    simp only [List.length_cons]
    split
    · omega
    · split <;> omega
/-- the first one that has the key -/
theorem idx_at (k : Ky) : ∀ (l : List Bk) (i : Nat) (hi : i < l.length), (∀ j, j < i → (nthB l j).k ≠ k) → (nthB l i).k = k → idx k l = i
  | b :: l, 0, _, _, h => by
    have h : b.k = k := h
    rw [idx_cons, if_pos h]; rfl
  | b :: l, i + 1, hi, hn, h => by
    have h0 : b.k ≠ k := hn 0 (by omega)
    have ih := idx_at k l i (by simpa using hi) (fun j hj => hn (j + 1) (by omega)) h
    rw [idx_cons, if_neg h0, ih, if_neg (by omega)]
    omega
theorem idx_no (k : Ky) : ∀ (l : List Bk), (∀ j, j < l.length → (nthB l j).k ≠ k) → idx k l = -1
  | [], _ => rfl
  | b :: l, hn => by
    have h0 : b.k ≠ k := hn 0 (by simp)
    have ih := idx_no k l (fun j hj => hn (j + 1) (by simpa using hj))
    rw [idx_cons, if_neg h0, ih, if_pos (by omega)]
theorem place1 (w : World) (gk : Nat) (k : Ky) (h0 : w.cell? ⟨gk, 0, none⟩ = some (.int .u32 k.1)) (h1 : w.cell? ⟨gk, 1, none⟩ = some (.int .u32 k.2)) (hl : gk < w.heap.size) (b : Bk) :
    Calls Try.prog 40 #[.agg #[.int .u32 b.pc, .int .u32 b.pl, .slice b.A b.code.length b.c, .int .i64 b.ct], .pointer (some ⟨gk, 0, none⟩)] w fun e w' => e = .returned (.bool (decide (b.k = k))) ∧ Fr (fun _ => False) w w' := by
  have hd : decide (b.k = k) = (b.pc == k.1 && b.pl == k.2) := by
    obtain ⟨a, c⟩ := k
    by_cases h1 : b.pc = a <;> by_cases h2 : b.pl = c <;> simp [Bk.k, h1, h2]
  rw [hd]
  go_enter Try.func40, Try.ntmps40
  go_wp2_with fail
  all_goals
    go_ret
    exact ⟨by simp [*], (Fr.refl _ w).alloc _⟩
theorem place_any (w : World) (g : Nat) (s : Cs) (h : Cch w g s) (k : Ky) :
    Calls Try.prog 26 #[.pointer (some ⟨g, 0, none⟩), .agg #[.int .u32 k.1, .int .u32 k.2]] w fun e w' => e = .returned (.int .i64 (idx k s.bl)) ∧ Fr (fun _ => False) w w' := by
  have f0 := (Fr.refl (fun _ => False) w).alloc (.cells #[.int .u32 k.1, .int .u32 k.2] 31)
  have bk : Blk (w.alloc (.cells #[.int .u32 k.1, .int .u32 k.2] 31)) w.heap.size 31 #[.int .u32 k.1, .int .u32 k.2] := Blk.new _ _ _
  obtain ⟨c0, c1, c2, c3⟩ := (h.fr0 f0).cells
  have hr := (h.fr0 f0).r
  have hlen := h.ok.len
  have hroom := h.ok.room
  have H0 := Lib.hid f0
  generalize hw1 : w.alloc (.cells #[.int .u32 k.1, .int .u32 k.2] 31) = w1 at *
  have Hi := Lib.hid (index_b w1 s.A s.bl.length s.c (by omega) (nthB s.bl) 40 #[.pointer (some ⟨w.heap.size, 0, none⟩)] (fun args W => by rfl) (fun q W => Fr (fun _ => False) w1 W) (fun q => decide ((nthB s.bl q).k = k)) (Fr.refl _ _) (fun q W f => (hr.fr f (fun _ _ e => e)).at_)
    (fun q W hq f => by
      have b2 := bk.fr f (fun e => e)
      exact (place1 W w.heap.size k (b2.cell 0) (b2.cell 1) b2.lt (nthB s.bl q)).mono fun e w' ⟨h1, h2⟩ => ⟨h1, f.tr h2⟩))
  clear f0 bk hr h c0 c2 c3
  subst hw1
  go_enter Try.func26, Try.ntmps26
  go_wp2_with fail
  refine (Hi.out).mono ?_
  rintro e w2 hF
  have HE : Hid (e = .returned (.int .i64 (idx k s.bl)) ∧ Fr (fun _ => False) w w2) := Lib.hid (by
    rcases hF with ⟨m, hm, rfl, h1, h2, f⟩ | ⟨rfl, h1, f⟩
    · refine ⟨?_, H0.out.tr f⟩
      rw [idx_at k s.bl m hm (fun j hj => of_decide_eq_false (h1 j hj)) (of_decide_eq_true h2)]
    · refine ⟨?_, H0.out.tr f⟩
      rw [idx_no k s.bl (fun j hj => of_decide_eq_false (h1 j hj))])
  obtain ⟨rfl, f⟩ := HE.out
  clear hF
  go_wp2_with fail
  go_ret
  exact ⟨rfl, f⟩
end Go.Proofs.Ytfjlgdafakbdoaa.Ca
