/- The document's cache (innkeeperref23): what it holds; New, At, Flush. -/
import Derived.Test.YtfjlgdafakbdoaaCaQ
import Derived.Test.YtfjlgdafakbdoaaStr
import Derived.Deep.RegionLaw
import Derived.Deep.RegionWith
import Derived.StillTailTactics
namespace Go.Proofs.Ytfjlgdafakbdoaa.Ca
open Go.RowKit Mz Go.Maps By
set_option linter.unusedVariables false
set_option linter.unusedSimpArgs false
set_option maxHeartbeats 4000000

structure Db where
  pc : Int
  pl : Int
  code : ByteArray
  ct : Int
  ks : List Ky
  A : Option Addr
  c : Nat
def Db.k (b : Db) : Ky := (b.pc, b.pl)
def dDb : Db := ⟨0, 0, ByteArray.empty, 0, [], none, 0⟩
def nthD (l : List Db) (i : Nat) : Db := l.getD i dDb
theorem nthD_at {l : List Db} {i : Nat} (h : i < l.length) : nthD l i = l[i] := by simp [nthD, List.getD_eq_getElem?_getD, h]
def dc (b : Db) (i : Nat) : Value := if i = 0 then .int .u32 b.pc else if i = 1 then .int .u32 b.pl else if i = 2 then .string b.code else if i = 3 then .int .i64 b.ct else .slice b.A b.ks.length b.c
structure Ds where
  room : Int
  bl : List Db
  A : Option Addr
  c : Nat
  fl : Int
def DRow (w : World) (A : Option Addr) (c : Nat) (l : List Db) : Prop := w.ownsRow 0 73 5 (.slice A l.length c) l.length (fcells 5 dc l)
def LnkOk (w : World) (b : Db) : Prop := w.ownsRow 0 44 2 (.slice b.A b.ks.length b.c) b.ks.length (kcells b.ks)
def cells3 (d : Ds) : Array Value := #[.slice d.A d.bl.length d.c, .int .i64 d.room, .int .i64 d.fl]
structure Ds.Ok (d : Ds) : Prop where
  room : 1 ≤ d.room ∧ d.room ≤ 1024
  len : (d.bl.length : Int) ≤ d.room
  keys : ∀ b ∈ d.bl, b.k.Ok
  ct : ∀ b ∈ d.bl, 1 ≤ b.ct ∧ b.ct ≤ 9223372036854775807
  lk : ∀ b ∈ d.bl, b.ks.length ≤ 1000000
  fl : 0 ≤ d.fl ∧ d.fl ≤ 1000000
def Ds.own (d : Ds) (g k : Nat) : Prop := k = g ∨ ab d.A = some k ∨ ∃ b ∈ d.bl, ab b.A = some k
structure Doc (w : World) (g : Nat) (d : Ds) : Prop where
  b : Blk w g 68 (cells3 d)
  r : DRow w d.A d.c d.bl
  rows : ∀ b ∈ d.bl, LnkOk w b
  sep : d.bl.Pairwise (fun p q => ∀ k, ab p.A = some k → ab q.A ≠ some k)
  ok : d.Ok
section
variable {w w' : World} {g : Nat} {d : Ds} {S : Nat → Prop}
theorem DRow.fr {A : Option Addr} {c : Nat} {l : List Db} (h : DRow w A c l) (f : Fr S w w') (hs : ∀ k, ab A = some k → ¬ S k) : DRow w' A c l := own_fr h f (fun q hq => hs q (ab_own hq))
theorem LnkOk.fr {b : Db} (h : LnkOk w b) (f : Fr S w w') (hs : ∀ k, ab b.A = some k → ¬ S k) : LnkOk w' b := own_fr h f (fun q hq => hs q (ab_own hq))
theorem Doc.fr (h : Doc w g d) (f : Fr S w w') (hs : ∀ k, d.own g k → ¬ S k) : Doc w' g d :=
  ⟨h.b.fr f (hs _ (.inl rfl)), h.r.fr f (fun k hk => hs k (.inr (.inl hk))), fun b hb => (h.rows b hb).fr f (fun k hk => hs k (.inr (.inr ⟨b, hb, hk⟩))), h.sep, h.ok⟩
theorem Doc.fr0 (h : Doc w g d) (f : Fr (fun _ => False) w w') : Doc w' g d := h.fr f (fun _ _ e => e)
theorem Doc.cells (h : Doc w g d) : w.cell? ⟨g, 0, none⟩ = some (.slice d.A d.bl.length d.c) ∧ w.cell? ⟨g, 1, none⟩ = some (.int .i64 d.room) ∧ w.cell? ⟨g, 2, none⟩ = some (.int .i64 d.fl) := ⟨h.b.cell 0, h.b.cell 1, h.b.cell 2⟩
/-- where a row's block lies, of what type -/
theorem own_blk {base : Nat} {e : TypeId} {sz n c : Nat} {A : Option Addr} {xs : List Value} (h : w.ownsRow base e sz (.slice A n c) n xs) : ∀ q, ab A = some q → q < w.heap.size ∧ base ≤ q ∧ ∃ cs, Blk w q e cs := fun q hq => by
  rcases h.2 with ⟨e1, _⟩ | ⟨g', cap, cur, e1, hb, hh, r⟩
  · have e2 : A = none := by injection e1
    rw [e2] at hq; cases hq
  · have e2 : A = some ⟨g', 0, none⟩ := by injection e1
    rw [e2] at hq
    have hq : g' = q := by simpa [ab] using hq
    subst hq
    have hh : Blk w g' e cur := hh
    exact ⟨hh.lt, hb, cur, hh⟩
theorem Doc.low (h : Doc w g d) : ∀ q, d.own g q → q < w.heap.size := fun q hq => by
  rcases hq with rfl | hq | ⟨b, hb, hq⟩
  · exact h.b.lt
  · exact (own_blk h.r q hq).1
  · exact (own_blk (h.rows b hb) q hq).1
theorem drow_cells {A : Option Addr} {c : Nat} {l : List Db} (h : DRow w A c l) {q : Nat} (hq : q < l.length) : ∃ gl, A = some ⟨gl, 0, none⟩ ∧ gl < w.heap.size ∧ ∀ j, j < 5 → w.cell? ⟨gl, q * 5 + j, none⟩ = some (dc (nthD l q) j) ∧ w.frozen? ⟨gl, q * 5 + j, none⟩ = false := by
  rcases own_to (fc := dc) rfl dDb (by omega) h with ⟨e, _, _⟩ | ⟨gl, e, ⟨F, h1, h2, h3⟩, h4, h5⟩
  · rw [e] at hq; simp at hq
  · refine ⟨gl, e, h1.lt, fun j hj => ⟨?_, h1.frozen _⟩⟩
    have hle : (q + 1) * 5 ≤ c * 5 := Nat.mul_le_mul_right _ (by omega)
    exact (h1.cell (q * 5 + j) (by omega)).trans (congrArg some (h3 q hq j hj))
theorem drow_le {A : Option Addr} {c : Nat} {l : List Db} (h : DRow w A c l) : l.length ≤ maxLen := by
  rcases h.2 with ⟨_, e⟩ | ⟨g', cap, cur, _, _, _, hnc, hm, _⟩
  · omega
  · omega
/-- a block of the row is another one now -/
theorem drow_set {gl c : Nat} {l : List Db} (h : DRow w (some ⟨gl, 0, none⟩) c l) {q : Nat} (hq : q < l.length) (b : Db) {F : Nat → Value} (hF : ∀ {cs : Nat} {F0 : Nat → Value}, Cells w gl 73 cs F0 → (∀ j, j < 5 → F0 (q * 5 + j) = dc (nthD l q) j) → ∃ F, Cells w' gl 73 cs F ∧ (∀ j, j < 5 → F (q * 5 + j) = dc b j) ∧ ∀ i, (i < q * 5 ∨ q * 5 + 5 ≤ i) → F i = F0 i) : DRow w' (some ⟨gl, 0, none⟩) c (l.set q b) := by
  rcases own_to (fc := dc) rfl dDb (by omega) h with ⟨e, _, _⟩ | ⟨gl', e, ⟨F0, h1, h2, h3⟩, h4, h5⟩
  · rw [e] at hq; simp at hq
  · injection e with e
    injection e with e
    subst e
    obtain ⟨F, k1, k2, k3⟩ := hF h1 (h3 q hq)
    have hl : (l.set q b).length = l.length := List.length_set ..
    unfold DRow
    rw [hl]
    refine own_from (fc := dc) hl dDb (by omega) k1 h2 h4 (fun p hp j hj => ?_)
    by_cases e : p = q
    · subst e
      rw [k2 j hj]
      simp [List.getD_eq_getElem?_getD, hq]
    · rw [k3 _ (by
        rcases Nat.lt_or_gt_of_ne e with h | h
        · left; omega
        · right; omega), h3 p hp j hj]
      simp [List.getD_eq_getElem?_getD, List.getElem?_set, Ne.symm e]
end
/-- the place of a key; -1 of none -/
def ixK (k : Ky) : List Ky → Int
  | [] => -1
  | x :: l => if x = k then 0 else if ixK k l < 0 then -1 else ixK k l + 1
theorem ixK_map (k : Ky) : ∀ l : List Bk, idx k l = ixK k (l.map Bk.k)
  | [] => rfl
  | b :: l => by
    show idx k (b :: l) = ixK k (b.k :: l.map Bk.k)
    rw [idx_cons, ixK, ixK_map k l]
theorem ixK_at (k : Ky) : ∀ (l : List Ky) (i : Nat) (hi : i < l.length), (∀ j, j < i → nthK l j ≠ k) → nthK l i = k → ixK k l = i
  | b :: l, 0, _, _, h => by
    have h : b = k := h
    rw [ixK, if_pos h]; rfl
  | b :: l, i + 1, hi, hn, h => by
    have h0 : b ≠ k := hn 0 (by omega)
    have ih := ixK_at k l i (by simpa using hi) (fun j hj => hn (j + 1) (by omega)) h
    rw [ixK, if_neg h0, ih, if_neg (by omega)]
    omega
theorem ixK_no (k : Ky) : ∀ (l : List Ky), (∀ j, j < l.length → nthK l j ≠ k) → ixK k l = -1
  | [], _ => rfl
  | b :: l, hn => by
    have h0 : b ≠ k := hn 0 (by simp)
    have ih := ixK_no k l (fun j hj => hn (j + 1) (by simpa using hj))
    rw [ixK, if_neg h0, ih, if_pos (by omega)]
theorem ixK_lo (k : Ky) : ∀ l : List Ky, -1 ≤ ixK k l ∧ ixK k l < l.length
  | [] => ⟨by simp [ixK], by simp [ixK]⟩
  | b :: l => by
    have ih := ixK_lo k l
    rw [ixK]
    simp only [List.length_cons]
    split
    · omega
    · split <;> omega
def dkeys (d : Ds) : List Ky := d.bl.map Db.k
theorem nthK_keys {l : List Db} {q : Nat} (h : q < l.length) : nthK (l.map Db.k) q = (nthD l q).k := by
  rw [nthK_at (by simpa using h), nthD_at h]; simp
def AtPost (w : World) (r : Int) (e : Ending) (w' : World) : Prop := e = .returned (.int .i64 r) ∧ w = w'
set_option maxRecDepth 100000 in
theorem rat_any (w : World) (g : Nat) (d : Ds) (h : Doc w g d) (k : Ky) :
    Calls Try.prog 36 #[.pointer (some ⟨g, 0, none⟩), .int .u32 k.1, .int .u32 k.2] w (AtPost w (ixK k (dkeys d))) := by
  obtain ⟨ka, kb⟩ := k
  obtain ⟨c0, _, _⟩ := h.cells
  have hlen := h.ok.len
  have hroom := h.ok.room
  obtain ⟨n, hn⟩ : ∃ n, d.bl.length = n := ⟨_, rfl⟩
  obtain ⟨dA, hdA⟩ : ∃ q, d.A = q := ⟨_, rfl⟩
  obtain ⟨dcap, hdc⟩ : ∃ q, d.c = q := ⟨_, rfl⟩
  rw [hn] at hlen
  rw [hn, hdA, hdc] at c0
  have HN := Lib.hid hn
  have HD := Lib.hid h
  have HA := Lib.hid hdA
  clear h hn hdA hdc
  show Calls _ _ #[_, .int .u32 ka, .int .u32 kb] _ _
  go_enter Try.func36, Try.ntmps36
  go_wp2_with fail
  go_loop [7] (fun i => ∃ q : Nat, q ≤ n ∧ i = .int .i64 q ∧ Hid (∀ j, j < q → nthK (dkeys d) j ≠ (ka, kb))) (fun i => n - (intOf i).toNat)
  case atStart => exact ⟨0, by omega, rfl, Lib.hid (fun j hj => absurd hj (by omega))⟩
  case round =>
    obtain ⟨q, hq, rfl, hno⟩ := hrel
    by_cases hlt : q < n
    · have hl : q < d.bl.length := by have := HN.out; omega
      obtain ⟨gl, e, hgl, hc⟩ := drow_cells HD.out.r hl
      have e : dA = some ⟨gl, 0, none⟩ := HA.out.symm.trans e
      subst e
      have u0 := (hc 0 (by omega)).1
      have u1 := (hc 1 (by omega)).1
      have hk := nthK_keys hl
      obtain ⟨y0, hy0⟩ : ∃ y, (nthD d.bl q).pc = y := ⟨_, rfl⟩
      obtain ⟨y1, hy1⟩ : ∃ y, (nthD d.bl q).pl = y := ⟨_, rfl⟩
      have v0 : w.cell? ⟨gl, q * 5, none⟩ = some (.int .u32 y0) := by rw [← hy0]; exact u0
      have v1 : w.cell? ⟨gl, q * 5 + 1, none⟩ = some (.int .u32 y1) := by rw [← hy1]; exact u1
      have hk : nthK (dkeys d) q = (y0, y1) := by rw [← hy0, ← hy1]; exact hk
      have HK := Lib.hid hk
      have hd : decide ((q : Int) < (n : Int)) = true := by simp; omega
      have q0 : (0 : Int) ≤ (q : Int) := by omega
      have q1 : (q : Int) < (n : Int) := by omega
      clear hc hk hy0 hy1 u0 u1
      by_cases e0 : y0 = ka
      · subst e0
        by_cases e1 : y1 = kb
        · subst e1
          have HI : Hid (ixK (y0, y1) (dkeys d) = (q : Int)) := Lib.hid (ixK_at _ _ q (by unfold dkeys; simpa using hl) hno.out HK.out)
          clear hno
          go_wp2
          go_ret
          exact ⟨by rw [HI.out]; rfl, rfl⟩
        · have HS : Hid (∀ j, j < q + 1 → nthK (dkeys d) j ≠ (y0, kb)) := Lib.hid (fun j hj => by
            rcases (by omega : j < q ∨ j = q) with h | rfl
            · exact hno.out j h
            · rw [HK.out]; exact fun e => e1 (congrArg Prod.snd e))
          have g1 : (y1 == kb) = false := by simpa using e1
          clear hno
          go_wp2
          go_round
          case rel => exact ⟨q + 1, by omega, by go_num, HS⟩
          case measure => simp [intOf]; omega
      · have HS : Hid (∀ j, j < q + 1 → nthK (dkeys d) j ≠ (ka, kb)) := Lib.hid (fun j hj => by
          rcases (by omega : j < q ∨ j = q) with h | rfl
          · exact hno.out j h
          · rw [HK.out]; exact fun e => e0 (congrArg Prod.fst e))
        have g1 : (y0 == ka) = false := by simpa using e0
        clear hno
        go_wp2
        go_round
        case rel => exact ⟨q + 1, by omega, by go_num, HS⟩
        case measure => simp [intOf]; omega
    · have hd : decide ((q : Int) < (n : Int)) = false := by simp; omega
      have hqn : q = n := by omega
      have HI : Hid (ixK (ka, kb) (dkeys d) = -1) := Lib.hid (ixK_no _ _ (fun j hj => hno.out j (by unfold dkeys at hj; simp at hj; have := HN.out; omega)))
      clear hno hqn
      go_wp2
      go_ret
      exact ⟨by rw [HI.out]; rfl, rfl⟩
theorem rnew_any (w : World) (n : Int) (hn : 1 ≤ n ∧ n ≤ 1024) : Calls Try.prog 20 #[.int .i64 n] w fun e w' => ∃ g, e = .returned (.pointer (some ⟨g, 0, none⟩)) ∧ g = w.heap.size ∧ Doc w' g ⟨n, [], none, 0, 0⟩ ∧ Fr (fun _ => False) w w' := by
  go_enter Try.func20, Try.ntmps20
  go_wp2
  go_ret
  exact ⟨_, rfl, rfl, ⟨Blk.new _ _ _, ⟨rfl, .inl ⟨rfl, rfl⟩⟩, by simp, List.Pairwise.nil, ⟨hn, by simp; omega, by simp, by simp, by simp, by simp⟩⟩, (Fr.refl _ _).alloc _⟩
def Ds.flush (d : Ds) : Ds := ⟨d.room, [], none, 0, d.fl + 1⟩
theorem rflush_any (w : World) (g : Nat) (d : Ds) (h : Doc w g d) (hf : d.fl < 1000000) : Calls Try.prog 34 #[.pointer (some ⟨g, 0, none⟩)] w fun e w' => e = .returned (.int .i64 (d.bl.length : Nat)) ∧ Doc w' g d.flush ∧ Fr (· = g) w w' := by
  obtain ⟨c0, c1, c2⟩ := h.cells
  have hb := h.b
  have hlen := h.ok.len
  have hroom := h.ok.room
  have hfl := h.ok.fl
  have z0 := hb.frozen 0
  have z1 := hb.frozen 1
  have z2 := hb.frozen 2
  obtain ⟨n, hn⟩ : ∃ n, d.bl.length = n := ⟨_, rfl⟩
  rw [hn] at hlen c0 ⊢
  have HB := Lib.hid hb
  clear hn hb
  obtain ⟨fl, hfl2⟩ : ∃ f, d.fl = f := ⟨_, rfl⟩
  rw [hfl2] at c2 hfl hf
  have HF := Lib.hid hfl2
  clear hfl2
  obtain ⟨f0, f1⟩ := hfl
  go_enter Try.func34, Try.ntmps34
  go_wp2
  go_ret
  have e : (((cells3 d).setIfInBounds 0 (.slice none 0 0)).setIfInBounds 2 (.int .i64 (fl + 1))) = cells3 d.flush := by
    unfold cells3 Ds.flush
    rw [HF.out]
    rfl
  refine ⟨rfl, ⟨?_, ⟨rfl, .inl ⟨rfl, rfl⟩⟩, by simp [Ds.flush], List.Pairwise.nil, ⟨hroom, by show ((0 : Nat) : Int) ≤ d.room; omega, by simp [Ds.flush], by simp [Ds.flush], by simp [Ds.flush], by show 0 ≤ d.fl + 1 ∧ d.fl + 1 ≤ 1000000; rw [HF.out]; omega⟩⟩, ?_⟩
  · rw [← e]
    exact (HB.out.set_ 0 _).set_ 2 _
  · exact ((Fr.refl (· = g) w).setCell (p := ⟨g, 0, none⟩) (.inl rfl) _).setCell (p := ⟨g, 2, none⟩) (.inl rfl) _
end Go.Proofs.Ytfjlgdafakbdoaa.Ca
