/- CacheLinks. -/
import Derived.Test.YtfjlgdafakbdoaaCaQ
import Derived.Test.YtfjlgdafakbdoaaBook
import Derived.Test.YtfjlgdafakbdoaaStr
import Derived.Deep.RegionHeld3
import Derived.Deep.RegionWith
import Derived.Deep.DeepCutAuto
import Derived.Deep.CutBlock
namespace Go.Proofs.Ytfjlgdafakbdoaa.cacheLinks
open Go.RowKit Ca Bk By
set_option linter.unusedVariables false
set_option linter.unusedSimpArgs false
set_option maxHeartbeats 4000000
set_option maxRecDepth 100000

theorem put_idx (s : Cs) (b : Bk) (A : Option Addr) (c gm : Nat) : (∃ j : Nat, idx b.k (s.put b A c gm).bl = j ∧ nthB (s.put b A c gm).bl j = b) ∧ (s.put b A c gm).fl ≤ s.fl + 1 := by
  unfold Cs.put
  by_cases hi : 0 ≤ idx b.k s.bl
  · rw [if_pos hi]
    obtain ⟨j, hj⟩ : ∃ j : Nat, idx b.k s.bl = j := ⟨(idx b.k s.bl).toNat, by omega⟩
    have e1 : (s.set b).bl = s.bl.set j b := by show s.bl.set (idx b.k s.bl).toNat b = _; rw [hj]; rfl
    rw [e1]
    exact ⟨⟨j, idx_set hj rfl⟩, by show s.fl ≤ s.fl + 1; omega⟩
  · rw [if_neg hi]
    by_cases hf : s.room ≤ s.bl.length
    · rw [if_pos hf]
      exact ⟨⟨0, by show idx b.k [b] = _; simp [idx], rfl⟩, by show s.fl + 1 ≤ s.fl + 1; omega⟩
    · rw [if_neg hf]
      exact ⟨⟨_, idx_snoc (by omega) rfl⟩, by show s.fl ≤ s.fl + 1; omega⟩
/-- where the loop stands -/
def LI (w : World) (g i : Nat) (wr : World) : Prop := ∃ s, Cch wr g s ∧ OwnK (fun q => q < w.heap.size) g s ∧ s.fl ≤ (i : Int) ∧ Fr (fun _ => False) w wr
/-- behind Put -/
def PutL (w : World) (g gx gb i : Nat) (k : Ky) (code : List Int) (W w5 : World) : Prop :=
  (∃ s', Cch w5 g s' ∧ OwnK (fun q => q < w.heap.size ∨ q = gx ∨ q = gb) g s' ∧ s'.fl ≤ ((i + 1 : Nat) : Int) ∧ ∃ j : Nat, idx k s'.bl = j ∧ (nthB s'.bl j).code = code) ∧ Fr (fun q => ¬ (q < w.heap.size ∨ q = gx ∨ q = gb)) W w5
theorem put_l (w : World) (g gx gb i : Nat) (W : World) (s : Cs) (h : Cch W g s) (ho : OwnK (fun q => q < w.heap.size ∨ q = gx ∨ q = gb) g s) (hsz : w.heap.size ≤ W.heap.size ∧ gx < W.heap.size ∧ gb < W.heap.size) (hfl : s.fl ≤ (i : Int)) (hi : i ≤ 60) (a b : Int) (ha : 0 ≤ a ∧ a < 5) (hb : 0 ≤ b ∧ b < 400) (code : List Int) (bn bc : Nat) (hcl : code.length = bn) (hrow : W.ownsRow w.heap.size 5 1 (.slice (some ⟨gb, 0, none⟩) bn bc) bn (code.map (Value.int .u8))) (hcode : code ≠ [] ∧ code.length ≤ 1000000 ∧ ∀ z ∈ code, 0 ≤ z ∧ z < 256) :
    Calls Try.prog 11 #[.pointer (some ⟨g, 0, none⟩), .agg #[.int .u32 a, .int .u32 b, .slice (some ⟨gb, 0, none⟩) bn bc, .int .i64 1]] W fun e w5 => e = .returned (.bool true) ∧ PutL w g gx gb i (a, b) code W w5 := by
  have hr := Reads.of_own hrow
  rw [← hcl] at hr
  have hp := put_k (fun q => q < w.heap.size ∨ q = gx ∨ q = gb) W g s h ho (fun q e => by omega) a b code 1 (some ⟨gb, 0, none⟩) bc _ hr (Nat.le_refl _) (by unfold Ky.Ok; exact ⟨by show 0 ≤ a ∧ _; omega, by show 0 ≤ b ∧ _; omega⟩) (by omega) hcode (by omega)
  rw [hcl] at hp
  refine hp.mono ?_
  rintro e w5 ⟨g1, A', c', A2, c2, gm2, g2, g3, g4⟩
  obtain ⟨⟨j, j1, j2⟩, j3⟩ := put_idx s ⟨a, b, code, 1, A', c'⟩ A2 c2 gm2
  exact ⟨g1, ⟨_, g2, g3, Int.le_trans j3 (by omega), j, j1, by rw [j2]⟩, g4⟩
theorem at_cells {w : World} {A : Option Addr} {n : Nat} {f : Nat → Ky} (h : At_k w A n f) {q : Nat} (hq : q < n) : ∃ g off, A = some ⟨g, off, none⟩ ∧ g < w.heap.size ∧ w.cell? ⟨g, off + q * 2, none⟩ = some (.int .u32 (f q).1) ∧ w.cell? ⟨g, off + q * 2 + 1, none⟩ = some (.int .u32 (f q).2) := by
  obtain ⟨g, off, e, c0, c1⟩ := h q hq
  refine ⟨g, off, e, ?_, c0, c1⟩
  rcases Nat.lt_or_ge g w.heap.size with h | h
  · exact h
  · rw [show w.cell? ⟨g, off + q * 2, none⟩ = none by simp [World.cell?, Array.getElem?_eq_none h]] at c0
    cases c0
theorem key_ok (a b : Int) (ha : (Lit.int .u32 a).wf = true) (hb : (Lit.int .u32 b).wf = true) : ∃ x y, 0 ≤ x ∧ x < 5 ∧ 0 ≤ y ∧ y < 400 ∧ ∀ W, Calls Try.prog 18 #[.agg #[.int .u32 a, .int .u32 b]] W fun e w' => e = .returned (.agg #[.int .u32 x, .int .u32 y]) ∧ Hid (Fr (fun _ => False) W w') := by
  obtain ⟨a0, a1⟩ := wf_u32 ha
  obtain ⟨b0, b1⟩ := wf_u32 hb
  exact ⟨a % 5, b % 400, by omega, by omega, by omega, by omega, fun W => (key_any W a b ha hb).mono fun e w' ⟨h1, h2⟩ => ⟨h1, Lib.hid h2⟩⟩
/-- the asked keys' cells -/
def SX (gx : Nat) (a0 a1 b0 b1 : Int) (W : World) : Prop := W.cell? ⟨gx, 2, none⟩ = some (.int .u32 a0) ∧ W.cell? ⟨gx, 3, none⟩ = some (.int .u32 a1) ∧ W.cell? ⟨gx, 4, none⟩ = some (.int .u32 b0) ∧ W.cell? ⟨gx, 5, none⟩ = some (.int .u32 b1) ∧ gx < W.heap.size
theorem SX.fr {W W' : World} {gx : Nat} {a0 a1 b0 b1 : Int} {S : Nat → Prop} (h : SX gx a0 a1 b0 b1 W) (f : Fr S W W') (hg : ¬ S gx) : SX gx a0 a1 b0 b1 W' := by
  obtain ⟨h0, h1, h2, h3, hl⟩ := h
  exact ⟨f.cell h0 hl hg, f.cell h1 hl hg, f.cell h2 hl hg, f.cell h3 hl hg, Nat.lt_of_lt_of_le hl f.size⟩
/-- what Find tells of a code that is not empty -/
def FindL (g : Nat) (code : List Int) (bn : Nat) (W : World) (e : Ending) (w' : World) : Prop :=
  ∃ gA cA p1 p2 ct, e = .returned (.tuple #[.agg #[.int .u32 p1, .int .u32 p2, .slice (some ⟨gA, 0, none⟩) bn cA, .int .i64 ct], .bool true]) ∧ W.heap.size ≤ gA ∧ gA < w'.heap.size ∧ Hid (w'.ownsRow W.heap.size 5 1 (.slice (some ⟨gA, 0, none⟩) bn cA) bn (code.map (Value.int .u8))) ∧ Hid (Fr (fun _ => False) W w')
theorem find_l (g : Nat) (s : Cs) (k : Ky) (j : Nat) (code : List Int) (bn : Nat) (hk : idx k s.bl = j) (hc : (nthB s.bl j).code = code) (hn : code.length = bn) (h1 : 1 ≤ bn) (W : World) (h : Cch W g s) :
    Calls Try.prog 14 #[.pointer (some ⟨g, 0, none⟩), .agg #[.int .u32 k.1, .int .u32 k.2]] W (FindL g code bn W) := by
  refine (find_yes W g s h k j hk).mono ?_
  rintro e w' ⟨A, c, g1, g2, g3⟩
  rw [hc, hn] at g1 g2
  obtain ⟨gA, cA, hv, hb, hlt⟩ := g2.form h1
  injection hv with e1 e2 e3
  subst e1
  exact ⟨gA, c, _, _, _, g1, hb, hlt, Lib.hid g2, Lib.hid g3⟩
theorem own_head {w : World} {base bn c gA : Nat} {z : Int} {code : List Int} (h : w.ownsRow base 5 1 (.slice (some ⟨gA, 0, none⟩) bn c) bn ((z :: code).map (Value.int .u8))) : w.cell? ⟨gA, 0, none⟩ = some (.int .u8 z) ∧ w.frozen? ⟨gA, 0, none⟩ = false := by
  have hl := h.1
  rcases h.2 with ⟨e, _⟩ | ⟨g', cap, cur, e, hb, hh, hnc, hm, hs, ht⟩
  · injection e with e; cases e
  · injection e with e
    injection e with e
    injection e with e
    subst e
    have B : Blk w gA 5 cur := hh
    refine ⟨?_, B.frozen 0⟩
    rw [B.cell 0, ← Array.getElem?_toList]
    have h0 : (cur.toList.take (bn * 1))[0]? = some (.int .u8 z) := by rw [ht]; rfl
    rw [List.getElem?_take] at h0
    split at h0
    · exact h0
    · cases h0
theorem own_le {w : World} {base : Nat} {e : TypeId} {sz n c : Nat} {A : Option Addr} {xs : List Value} (h : w.ownsRow base e sz (.slice A n c) n xs) : n ≤ maxLen := by
  rcases h.2 with ⟨_, e⟩ | ⟨g', cap, cur, _, _, _, hnc, hm, _⟩
  · omega
  · omega
theorem lnk_mem {s : Cs} (h : s.Ok) (k t : Ky) (ht : t ∈ lnk s.E k) : t ∈ s.bl.map Bk.k := by
  unfold lnk at ht
  cases hf : s.E.find? (fun p => decide (p.1 = k)) with
  | none => rw [hf] at ht; cases ht
  | some p =>
    rw [hf] at ht
    exact (h.tos p (List.mem_of_find?_eq_some hf)).2 t ht
theorem find_any (W : World) (g : Nat) (s : Cs) (h : Cch W g s) (k : Ky) (hk : k ∈ s.bl.map Bk.k) :
    Calls Try.prog 14 #[.pointer (some ⟨g, 0, none⟩), .agg #[.int .u32 k.1, .int .u32 k.2]] W fun e w' => ∃ p1 p2 A n c ct, e = .returned (.tuple #[.agg #[.int .u32 p1, .int .u32 p2, .slice A n c, .int .i64 ct], .bool true]) ∧ Hid (Fr (fun _ => False) W w') := by
  have hi : 0 ≤ idx k s.bl := by
    rcases Int.lt_or_le (idx k s.bl) 0 with e | e
    · exact absurd hk ((idx_neg _ _).1 e)
    · exact e
  obtain ⟨j, hj⟩ : ∃ j : Nat, idx k s.bl = j := ⟨(idx k s.bl).toNat, by omega⟩
  refine (find_yes W g s h k j hj).mono ?_
  rintro e w' ⟨A, c, g1, _, g3⟩
  exact ⟨_, _, _, _, _, _, g1, Lib.hid g3⟩
theorem link_l (w : World) (g i : Nat) (W : World) (s : Cs) (h : Cch W g s) (ho : OwnK (fun q => q < w.heap.size) g s) (hfl : s.fl ≤ (i : Int)) (f : Fr (fun _ => False) w W) (a b : Ky) (ha : a.Ok) (hb : b.Ok) :
    Calls Try.prog 23 #[.pointer (some ⟨g, 0, none⟩), .agg #[.int .u32 a.1, .int .u32 a.2], .agg #[.int .u32 b.1, .int .u32 b.2]] W fun e w' => ∃ t, e = .returned (.bool t) ∧ Hid (LI w g (i + 1) w') ∧ Hid (Fr (s.wr g) W w') := by
  refine (link_any W g s h a b ha hb).mono ?_
  rintro e w' hL
  unfold LinkPost at hL
  have ft : ∀ W', Fr (s.wr g) W W' → Fr (fun _ => False) w W' := fun W' f2 => f.trans f2 (fun q hq e => ho q (.inl e) hq)
  split at hL
  · obtain ⟨g1, g2, g3⟩ := hL
    split at g3
    · exact ⟨_, g1, Lib.hid ⟨s, g3, ho, by omega, ft _ g2⟩, Lib.hid g2⟩
    · obtain ⟨A, c, k1, k2⟩ := g3
      refine ⟨_, g1, Lib.hid ⟨_, k1, fun q hq e => ?_, by show s.fl ≤ _; omega, ft _ g2⟩, Lib.hid g2⟩
      have hs := f.size
      rcases k2 q hq with h1 | h1
      · exact ho q h1 e
      · omega
  · obtain ⟨g1, g2, g3⟩ := hL
    exact ⟨_, g1, Lib.hid ⟨s, g3, ho, by omega, ft _ g2⟩, Lib.hid g2⟩
theorem walk (w : World) (room : Int) (hroom : (Lit.int .i64 room).wf = true) (A0 : Option Addr) (len cap : Nat) (hlm : AsksAt w w.heap.size A0 len ∧ len ≤ maxLen) :
    Calls Try.prog 7 #[.int .i64 room, .slice A0 len cap] w fun e w' => e = .returned (.bool true) ∧ Fr (fun _ => False) w w' := by
  obtain ⟨hl, hm⟩ := hlm
  obtain ⟨r0, r1⟩ := wf_i64 hroom
  clear hroom
  obtain ⟨i0, hin, hz0, hz1, hz2⟩ := info_parts info8
  obtain ⟨k, hk⟩ : ∃ k : Nat, 1 + room % 20 = k := ⟨(1 + room % 20).toNat, by omega⟩
  have hk1 : 1 ≤ k := by omega
  have hk2 : k ≤ 20 := by omega
  have Hw : Hid (∀ W, Calls Try.prog 8 #[.int .i64 room, .int .i64 1, .int .i64 20] W fun e w' => e = .returned (.int .i64 (k : Int)) ∧ W = w') := Lib.hid (fun W => by
    have := within_any W room 1 20 r0 r1 (by omega) (by omega) (by omega)
    rw [show (20 : Int) - 1 + 1 = 20 by omega, hk] at this
    exact this)
  have Hn := Lib.hid (new_yes w k (by omega) (by omega))
  have HL := Lib.hid hl
  unfold maxLen at hm
  clear hl hk
  go_enter Try.func7, Try.ntmps7
  go_wp2_with fail
  refine (Hw.out _).mono ?_
  rintro e w' ⟨rfl, rfl⟩
  go_wp2_with fail
  refine (Hn.out).mono ?_
  rintro e w1 ⟨g, gm, rfl, h1, hg1, hgm1, hg2, hgm2, f1⟩
  have HLI0 : Hid (LI w g 0 w1) := Lib.hid ⟨Cs.new k gm, h1, own_new (by omega) (by omega), by show (0 : Int) ≤ ((0 : Nat) : Int); omega, f1⟩
  clear Hn h1 f1
  go_wp2_with fail
  go_loopw [7] (fun i wr => ∃ j : Nat, j ≤ len ∧ j ≤ 60 ∧ i = .int .i64 j ∧ Hid (LI w g j wr)) (fun i _ => len - (intOf i).toNat)
  case atStart => exact ⟨0, by omega, by omega, rfl, HLI0⟩
  case round =>
    obtain ⟨i, hi, hi60, rfl, HLI⟩ := hrel
    obtain ⟨wo, rfl⟩ : ∃ wo : World, wo = wr := ⟨_, rfl⟩
    clear HLI0
    by_cases hlt : i < len ∧ i < 60
    · obtain ⟨hl1, hl2⟩ := hlt
      obtain ⟨b, off, hA0, hb, x, hx⟩ := HL.out.at_ hl1
      subst hA0
      obtain ⟨s, hC, hO, hFL, hF⟩ := HLI.out
      have hx2 := hx.fr hF hb (Nat.le_refl _) (fun _ _ e => e)
      obtain ⟨⟨c0, c1, c2, c3, c4, c5, c6, c7⟩, hok⟩ := hx2
      obtain ⟨kd, ct, a0, a1, b0, b1, A, ln, cp, zs, pA, pl, pc, ps⟩ := x
      obtain ⟨_, _, ka, kb, kc', kd', ⟨hI, hL, hC2⟩, _, hpl, _⟩ := hok
      have KA := Lib.hid (key_ok a0 a1 ka kb)
      have KB := Lib.hid (key_ok b0 b1 kc' kd')
      have c0 : wo.cell? ⟨b, off + i * 8, none⟩ = some (.int .i64 kd) := c0
      have c1 : wo.cell? ⟨b, off + i * 8 + 1, none⟩ = some (.int .i64 ct) := c1
      have c2 : wo.cell? ⟨b, off + i * 8 + 2, none⟩ = some (.int .u32 a0) := c2
      have c3 : wo.cell? ⟨b, off + i * 8 + 3, none⟩ = some (.int .u32 a1) := c3
      have c4 : wo.cell? ⟨b, off + i * 8 + 4, none⟩ = some (.int .u32 b0) := c4
      have c5 : wo.cell? ⟨b, off + i * 8 + 5, none⟩ = some (.int .u32 b1) := c5
      have c6 : wo.cell? ⟨b, off + i * 8 + 6, none⟩ = some (.slice A ln cp) := c6
      have c7 : wo.cell? ⟨b, off + i * 8 + 7, none⟩ = some (.slice pA pl pc) := c7
      have hI : IntsAt .u8 wo w.heap.size A ln zs := hI
      have hL : ln ≤ maxLen := hL
      have hC2 : ln ≤ cp := hC2
      have hpl : pl ≤ maxLen := hpl
      have Hcut : Hid (∀ W, Calls Try.prog 10 #[.slice A ln cp, .int .i64 9] W fun e w' => e = .returned (.slice A (min ln 9) cp) ∧ W = w') := Lib.hid (fun W => cut_any W A ln cp 9 hL hC2 (by omega))
      have hd1 : decide ((i : Int) < (len : Int)) = true := by simp; omega
      have hd2 : decide ((i : Int) < 60) = true := by simp; omega
      have hi0 : (0 : Int) ≤ (i : Int) := by omega
      have hi1 : (i : Int) < (len : Int) := by omega
      have HI := Lib.hid hI
      have HC := Lib.hid hC
      have HO := Lib.hid hO
      have HFL := Lib.hid hFL
      have HF := Lib.hid hF
      have hws := hF.size
      unfold maxLen at hL hpl
      clear hx hI hC hO hFL hF ka kb kc' kd' HLI
      have sA : (wo.alloc (.cells #[.int .i64 kd, .int .i64 ct, .int .u32 a0, .int .u32 a1, .int .u32 b0, .int .u32 b1, .slice A ln cp, .slice pA pl pc] 47)).heap.size = wo.heap.size + 1 := by simp
      have f7 := ((Fr.refl (fun _ => False) wo).alloc (.cells #[.int .i64 kd, .int .i64 ct, .int .u32 a0, .int .u32 a1, .int .u32 b0, .int .u32 b1, .slice A ln cp, .slice pA pl pc] 47)).alloc (.cells #[.int .u8 7] 5)
      have bx := (Blk.new wo 47 #[.int .i64 kd, .int .i64 ct, .int .u32 a0, .int .u32 a1, .int .u32 b0, .int .u32 b1, .slice A ln cp, .slice pA pl pc]).alloc (.cells #[.int .u8 7] 5)
      have ho7 : ((wo.alloc (.cells #[.int .i64 kd, .int .i64 ct, .int .u32 a0, .int .u32 a1, .int .u32 b0, .int .u32 b1, .slice A ln cp, .slice pA pl pc] 47)).alloc (.cells #[.int .u8 7] 5)).ownsRow wo.heap.size 5 1 (.slice (some ⟨wo.heap.size + 1, 0, none⟩) 1 1) 1 [.int .u8 7] := ⟨rfl, .inr ⟨wo.heap.size + 1, 1, #[.int .u8 7], rfl, by omega, Blk.new' _ _ _ sA, Nat.le_refl _, by simp [maxLen], rfl, rfl⟩⟩
      have hrd : Reads ((wo.alloc (.cells #[.int .i64 kd, .int .i64 ct, .int .u32 a0, .int .u32 a1, .int .u32 b0, .int .u32 b1, .slice A ln cp, .slice pA pl pc] 47)).alloc (.cells #[.int .u8 7] 5)) w.heap.size 1 A (min ln 9) ((zs.take (min ln 9)).map (Value.int .u8)) := (intsAt_reads ((HI.out.fr f7 hws (fun _ _ e => e)).take (Nat.min_le_left _ _)))
      have F7 := Lib.hid f7
      have BX := Lib.hid bx
      clear f7 bx
      go_wp2_with fail
      refine (Hcut.out _).mono ?_
      rintro e w' ⟨rfl, rfl⟩
      go_upto_region 9 with
        (at_builtin
         refine wpList_append_any _ rfl (.tmp 47) (.tmp 50) _ rfl wo.heap.size 5 i0 _ 1 1 Try.underlying22 hin hz0 hz1 hz2 rfl (by omega) (.slice (some ⟨wo.heap.size + 1, 0, none⟩) 1 1) 1 _ rfl ho7 w.heap.size A (min ln 9) cp _ rfl hrd oneCell_ints (by simp only [maxLen]; omega) (by omega) (by simp; omega) ?_
         intro v1 w2 hown1 hg1 hat1
         obtain ⟨gb, bc, hv1, hgb1, hgb2⟩ := hown1.form (by omega)
         subst hv1)
      have BX2 := Lib.hid (BX.out.grown hg1 (by show some wo.heap.size ≠ some (wo.heap.size + 1); simp))
      have FG : Hid (Fr (fun _ => False) wo w2) := Lib.hid ((F7.out).trans ((Fr.refl (fun q => wo.heap.size ≤ q) _).grown hg1 (fun q hq => .inl (by have e : wo.heap.size + 1 = q := (by simpa [Value.ownBlock] using hq); omega))) (fun q hq e => by omega))
      have x0 := BX2.out.cell 0
      have x0 : w2.cell? ⟨wo.heap.size, 0, none⟩ = some (.int .i64 kd) := x0
      have hcode : ([Value.int .u8 7] ++ (zs.take (min ln 9)).map (Value.int .u8)) = ((7 :: zs.take (min ln 9)).map (Value.int .u8)) := rfl
      rw [hcode] at hown1
      obtain ⟨bn, hbn⟩ : ∃ q, 1 + min ln 9 = q := ⟨_, rfl⟩
      have hbn1 : 1 ≤ bn := by omega
      have hbn2 : bn ≤ 10 := by omega
      rw [hbn]
      rw [hbn] at hown1
      have ROW := Lib.hid (own_low hown1 hws)
      obtain ⟨ctl, hctl⟩ : ∃ q, zs.take (min ln 9) = q := ⟨_, rfl⟩
      have HCL : Hid ((7 :: ctl).length = bn ∧ ∀ z ∈ (7 :: ctl), 0 ≤ z ∧ z < 256) := Lib.hid (by
        rw [← hctl]
        refine ⟨by rw [List.length_cons, List.length_take]; have := HI.out.1; omega, fun z hz => ?_⟩
        rcases List.mem_cons.1 hz with rfl | hz
        · omega
        · obtain ⟨q, hq, rfl⟩ := List.getElem_of_mem (List.mem_of_mem_take hz)
          have h1 := wf_u8 (HI.out.2.1 q (by have := HI.out.1; omega))
          rw [List.getD_eq_getElem?_getD, List.getElem?_eq_getElem hq] at h1
          have h2 : (some zs[q]).getD 0 = zs[q] := rfl
          rw [h2] at h1
          omega)
      rw [hctl] at ROW
      have hgx : wo.heap.size < w2.heap.size := BX2.out.lt
      clear hown1 hg1 hat1 hcode ho7 hrd hctl hbn c0 c1 c2 c3 c4 c5 c6 c7 F7 BX HI Hcut
      have HO2 : Hid (OwnK (fun q => q < w.heap.size ∨ q = wo.heap.size ∨ q = gb) g s) := Lib.hid (fun q hq e => by
        have h1 := HC.out.low q hq
        have h2 := HO.out q hq
        omega)
      have HC2 := Lib.hid (HC.out.fr0 FG.out)
      have HF2 := Lib.hid (HF.out.tr FG.out)
      clear HC HO HF FG
      go_upto_block 2 with (fail)
      go_cut [] (fun wx => Hid (LI w g (i + 1) wx))
      case first =>
        by_cases hk2 : kd = 2
        · subst hk2
          have x5 : w2.cell? ⟨wo.heap.size, 7, none⟩ = some (.slice pA pl pc) := BX2.out.cell 7
          obtain ⟨p, hp⟩ : ∃ p : Int, 0 + (pl : Int) % 7 = p := ⟨_, rfl⟩
          have hp0 : 0 ≤ p := by omega
          have hp6 : p ≤ 6 := by omega
          have Hwp : Hid (∀ W, Calls Try.prog 8 #[.int .i64 (pl : Int), .int .i64 0, .int .i64 6] W fun e w' => e = .returned (.int .i64 p) ∧ W = w') := Lib.hid (fun W => by
            have := within_any W (pl : Int) 0 6 (by omega) (by omega) (by omega) (by omega) (by omega)
            rw [show (6 : Int) - 0 + 1 = 7 by omega, hp] at this
            exact this)
          clear hp
          go_wp2_with fail
          refine (Hwp.out _).mono ?_
          rintro e w' ⟨rfl, rfl⟩
          have HD : Hid (Calls Try.prog 19 #[.pointer (some ⟨g, 0, none⟩), .slice (some ⟨w2.heap.size, 0, none⟩) 1 1] (w2.alloc (.cells #[.int .i64 p] 3)) fun e w6 => ∃ r, e = .returned (.int .i64 r) ∧ Hid (∃ s6, Cch w6 g s6 ∧ OwnK (fun q => q < w.heap.size) g s6 ∧ s6.fl ≤ (i : Int) ∧ s6.bl.map Bk.k = leftK p (s.bl.map Bk.k)) ∧ Hid (Fr (fun _ => False) w w6)) := Lib.hid (by
            have fb := (Fr.refl (fun _ => False) w2).alloc (.cells #[.int .i64 p] 3)
            have bp := Blk.new w2 3 #[.int .i64 p]
            have sb : (w2.alloc (.cells #[.int .i64 p] 3)).heap.size = w2.heap.size + 1 := by simp
            have lc := HC2.out.low
            have o6 : OwnK (fun q => q < w.heap.size ∨ q = w2.heap.size) g s := fun q hq e => by
              have h0 := lc q hq
              rcases e with e | e
              · exact HO2.out q hq (.inl e)
              · omega
            have hps : ∀ W, Fr (fun q => ¬ (q < w.heap.size ∨ q = w2.heap.size)) (w2.alloc (.cells #[.int .i64 p] 3)) W → IntsAt .i64 W (w2.heap.size + 1) (some ⟨w2.heap.size, 0, none⟩) 1 [p] := fun W f => by
              have b := bp.fr f (fun e => e (.inr rfl))
              refine ⟨rfl, fun q hq => ?_, fun _ => ⟨w2.heap.size, 0, rfl, by omega, fun q hq => ?_⟩⟩
              · have : q = 0 := by omega
                subst this
                exact wf_i64_mk (n := p) (by show -9223372036854775808 ≤ p; omega) (by show p ≤ 9223372036854775807; omega)
              · have : q = 0 := by omega
                subst this; exact b.cell 0
            refine (drop_k _ _ g s (HC2.out.fr0 fb) o6 [p] (w2.heap.size + 1) 1 1 _ hps (by decide) (by omega)).mono ?_
            rintro e w6 ⟨g1, g2, g3, g4⟩
            exact ⟨_, g1, Lib.hid ⟨_, g2, fun q hq e => g3 q hq (.inl e), HFL.out, (drop_keys s p).1⟩, Lib.hid ((HF2.out.tr fb).trans g4 (fun q hq e => e (.inl hq)))⟩)
          clear x5 x0
          go_wp2_with fail
          refine (HD.out).mono ?_
          rintro e w6 ⟨r, rfl, S6, F6⟩
          obtain ⟨s6, c6, o6, l6, k6⟩ := S6.out
          have HK6 := Lib.hid (keys_any w6 g s6 c6)
          obtain ⟨n6, hn6⟩ : ∃ n, s6.bl.length = n := ⟨_, rfl⟩
          have hn7 : n6 ≤ 1024 := by
            have h1 := c6.ok.len
            have h2 := c6.ok.room
            omega
          rw [hn6] at HK6
          have HKO := Lib.hid c6.ok.keys
          have HN6 := Lib.hid hn6
          have K6 := Lib.hid k6
          clear HD c6 o6 l6 k6 hn6
          go_wp2_with fail
          refine (HK6.out).mono ?_
          rintro e w7 ⟨A7, c7, rfl, r7, f7⟩
          have R7 := Lib.hid (krow_at r7 (by rw [List.length_map]; exact HN6.out))
          have HLI7 : Hid (∀ W, Fr (fun _ => False) w7 W → LI w g (i + 1) W) := Lib.hid (fun W fW => by
            obtain ⟨s6, c6, o6, l6, _⟩ := S6.out
            exact ⟨s6, (c6.fr0 f7).fr0 fW, o6, by omega, (F6.out.tr f7).tr fW⟩)
          have HNP : Hid (∀ q, q < n6 → (nthK (s6.bl.map Bk.k) q).2 / 64 ≠ p ∧ (nthK (s6.bl.map Bk.k) q).Ok) := Lib.hid (fun q hq => by
            have hl : q < (s6.bl.map Bk.k).length := by rw [List.length_map, HN6.out]; exact hq
            have hm' : nthK (s6.bl.map Bk.k) q ∈ s6.bl.map Bk.k := by rw [nthK_at hl]; exact List.getElem_mem hl
            refine ⟨?_, ?_⟩
            · rw [K6.out] at hm' ⊢
              have := (List.mem_filter.1 hm').2
              simpa using this
            · obtain ⟨x, hx, e⟩ := List.mem_map.1 hm'
              rw [← e]
              exact HKO.out x hx)
          clear r7 f7 HK6
          go_wp2_with fail
          go_loopw [117] (fun iv wr => ∃ q : Nat, q ≤ n6 ∧ iv = .int .i64 q ∧ Hid (Fr (fun _ => False) w7 wr)) (fun iv _ => n6 - (intOf iv).toNat)
          case atStart => exact ⟨0, by omega, rfl, Lib.hid (Fr.refl _ _)⟩
          case round =>
            obtain ⟨q, hq, rfl, hfq⟩ := hrel
            by_cases hqn : q < n6
            · have hd3 : decide ((q : Int) < (n6 : Int)) = true := by simp; omega
              have hq0 : (0 : Int) ≤ (q : Int) := by omega
              have hq1 : (q : Int) < (n6 : Int) := by omega
              obtain ⟨ga, go, hA, hgl, e0, e1⟩ := at_cells R7.out hqn
              have e0 := hfq.out.cell e0 hgl (fun e => e)
              have e1 := hfq.out.cell e1 hgl (fun e => e)
              have hnp := HNP.out q hqn
              obtain ⟨y, hy⟩ : ∃ y, nthK (s6.bl.map Bk.k) q = y := ⟨_, rfl⟩
              rw [hy] at e0 e1 hnp
              subst hA
              obtain ⟨y0, y1⟩ := y
              obtain ⟨hnp, hyo⟩ := hnp
              unfold Ky.Ok at hyo
              obtain ⟨⟨u0, u1⟩, ⟨u2, u3⟩⟩ := hyo
              have u2 : 0 ≤ y1 := u2
              have u3 : y1 < 4294967296 := by first | exact u3 | (have : y1 ≤ 4294967295 := u3; omega)
              have hnp : y1 / 64 ≠ p := hnp
              have e0 : wr.cell? ⟨ga, go + q * 2, none⟩ = some (.int .u32 y0) := e0
              have e1 : wr.cell? ⟨ga, go + q * 2 + 1, none⟩ = some (.int .u32 y1) := e1
              have z0 : 0 ≤ y1 / 64 := by omega
              have z1 : y1 / 64 < 67108864 := by omega
              have hne : (y1 / 64 == p) = false := by simpa using hnp
              clear hy hnp u0 u1
              go_wp2_with fail
              exact ⟨⟨q + 1, by omega, by go_num, Lib.hid (hfq.out.alloc _)⟩, by simp [intOf]; omega⟩
            · have hd3 : decide ((q : Int) < (n6 : Int)) = false := by simp; omega
              have HE := Lib.hid (HLI7.out wr hfq.out)
              go_wp2_with fail
              go_meet
              exact HE
        · by_cases hk4 : kd = 4
          · subst hk4
            obtain ⟨ka, kb, ka0, ka1, kb0, kb1, hKA⟩ := KA.out
            obtain ⟨kc, ke, kc0, kc1, ke0, ke1, hKB⟩ := KB.out
            have HKA := Lib.hid hKA
            have HKB := Lib.hid hKB
            have hS1 : SX wo.heap.size a0 a1 b0 b1 w2 := ⟨BX2.out.cell 2, BX2.out.cell 3, BX2.out.cell 4, BX2.out.cell 5, hgx⟩
            have HLk : Hid (∀ W, Fr (fun _ => False) w2 W → Calls Try.prog 23 #[.pointer (some ⟨g, 0, none⟩), .agg #[.int .u32 ka, .int .u32 kb], .agg #[.int .u32 kc, .int .u32 ke]] W fun e w' => ∃ t, e = .returned (.bool t) ∧ Hid (LI w g (i + 1) w') ∧ Hid (Fr (s.wr g) W w')) := Lib.hid (fun W f => link_l w g i W s (HC2.out.fr0 f) (fun q hq e => HO2.out q hq (.inl e)) HFL.out (HF2.out.tr f) (ka, kb) (kc, ke) (by unfold Ky.Ok; exact ⟨by show 0 ≤ ka ∧ _; omega, by show 0 ≤ kb ∧ _; omega⟩) (by unfold Ky.Ok; exact ⟨by show 0 ≤ kc ∧ _; omega, by show 0 ≤ ke ∧ _; omega⟩))
            clear hKA hKB x0
            go_upto_region 29 with (fail)
            refine wp_region_held_drew (S := SX wo.heap.size a0 a1 b0 b1) (by kernel_rfl) (hS1) (fun hH => ?_)
            refine wpAnyH_take (i := 0) (v := ?_) rfl (by kernel_rfl) (by kernel_rfl) (by kernel_rfl) (fun _ _ _ h => h) (Or.inl ⟨by kernel_rfl, ?_⟩) hH ?_
            rotate_left
            · (intro W hSw; obtain ⟨k0, k1, k2, k3, k4⟩ := hSw; go_simp; try with_reducible rfl)
            refine wpAnyH_take (i := 1) (v := ?_) rfl (by kernel_rfl) (by kernel_rfl) (by kernel_rfl) (fun _ _ _ h => h) (Or.inl ⟨by kernel_rfl, ?_⟩) hH ?_
            rotate_left
            · (intro W hSw; obtain ⟨k0, k1, k2, k3, k4⟩ := hSw; go_simp; try with_reducible rfl)
            refine wpAnyH_take (i := 2) (v := ?_) rfl (by kernel_rfl) (by kernel_rfl) (by kernel_rfl) (fun _ _ _ h => h) (Or.inl ⟨by kernel_rfl, ?_⟩) hH ?_
            rotate_left
            · (intro W hSw; obtain ⟨k0, k1, k2, k3, k4⟩ := hSw; go_simp; try with_reducible rfl)
            try simp only [Act.put, List.getElem_toArray, List.getElem_cons_zero, List.getElem_cons_succ, List.setIfInBounds_toArray, List.set_cons_zero, List.set_cons_succ]
            refine wpAnyH_take (i := 4) (v := ?_) rfl (by kernel_rfl) (by kernel_rfl) (by kernel_rfl) (fun _ _ _ h => h) (Or.inl ⟨by kernel_rfl, ?_⟩) hH ?_
            rotate_left
            · (intro W hSw; obtain ⟨k0, k1, k2, k3, k4⟩ := hSw; go_simp; try with_reducible rfl)
            refine wpAnyH_take (i := 5) (v := ?_) rfl (by kernel_rfl) (by kernel_rfl) (by kernel_rfl) (fun _ _ _ h => h) (Or.inl ⟨by kernel_rfl, ?_⟩) hH ?_
            rotate_left
            · (intro W hSw; obtain ⟨k0, k1, k2, k3, k4⟩ := hSw; go_simp; try with_reducible rfl)
            try simp only [Act.put, List.getElem_toArray, List.getElem_cons_zero, List.getElem_cons_succ, List.setIfInBounds_toArray, List.set_cons_zero, List.set_cons_succ]
            refine wpAnyH_ready (rs := [3]) (by kernel_rfl) (by simp) ?_
            refine AllReadyH.cons rfl (fun K hK => ?_) ?_
            · go_simp
              go_wp2_with (refine (HKA.out _).mono ?_; rintro e w3 ⟨rfl, f3⟩)
              refine hK.out _ _ ?_ (fun hH => ?_)
              · exact hH.fr f3.out (fun e => e)
              clear hK K
              refine wpAnyH_ready (rs := [6]) (by kernel_rfl) (by simp) ?_
              refine AllReadyH.cons rfl (fun K hK => ?_) ?_
              · go_simp
                go_wp2_with (refine (HKB.out _).mono ?_; rintro e w4 ⟨rfl, f6⟩)
                refine hK.out _ _ ?_ (fun hH => ?_)
                · exact hH.fr f6.out (fun e => e)
                clear hK K
                refine wpAnyH_ready (rs := [7]) (by kernel_rfl) (by simp) ?_
                refine AllReadyH.cons rfl (fun K hK => ?_) ?_
                · go_simp
                  go_wp2_with (refine (HLk.out _ (by first | exact (((Fr.refl _ w2).drew).tr f3.out).tr f6.out | exact (((Fr.refl _ w2).drew).tr f6.out).tr f3.out)).mono ?_; rintro e w5 ⟨t, rfl, HE, HG⟩)
                  refine hK.out _ _ ?_ (fun hH => ?_)
                  · exact hH.fr HG.out (fun e => HO2.out _ (.inl e) (.inr (.inl rfl)))
                  clear hK K
                  refine wpAnyH_done (by kernel_rfl) ?_ _
                  go_wp2_with fail
                  go_meet
                  exact HE
                exact AllReadyH.nil
              exact AllReadyH.nil
            exact AllReadyH.nil
          · have g2 : (kd == 2) = false := by simpa using hk2
            have g4 : (kd == 4) = false := by simpa using hk4
            obtain ⟨ka, kb, ka0, ka1, kb0, kb1, hKA⟩ := KA.out
            have HKA := Lib.hid hKA
            have x2 : w2.cell? ⟨wo.heap.size, 2, none⟩ = some (.int .u32 a0) := BX2.out.cell 2
            have x3 : w2.cell? ⟨wo.heap.size, 3, none⟩ = some (.int .u32 a1) := BX2.out.cell 3
            clear hk2 hk4 hKA
            go_wp2_with fail
            refine (HKA.out _).mono ?_
            rintro e w3 ⟨rfl, f3⟩
            have hs2 := HF2.out.size
            have hs3 := f3.out.size
            have Hp := Lib.hid (put_l w g wo.heap.size gb i w3 s (HC2.out.fr0 f3.out) HO2.out ⟨by omega, by omega, by omega⟩ HFL.out hi60 ka kb ⟨ka0, ka1⟩ ⟨kb0, kb1⟩ (7 :: ctl) bn bc HCL.out.1 (own_fr ROW.out f3.out (fun _ _ e => e)) ⟨by simp, by have := HCL.out.1; omega, HCL.out.2⟩)
            clear x2 x3
            go_wp2_with fail
            refine (Hp.out).mono ?_
            rintro e w4 ⟨rfl, hP⟩
            obtain ⟨⟨s', c4, o4, l4, j, j1, j2⟩, f4⟩ := hP
            have BX4 := Lib.hid ((BX2.out.fr f3.out (fun e => e)).fr f4 (fun e => e (.inr (.inl rfl))))
            have x2 : w4.cell? ⟨wo.heap.size, 2, none⟩ = some (.int .u32 a0) := BX4.out.cell 2
            have x3 : w4.cell? ⟨wo.heap.size, 3, none⟩ = some (.int .u32 a1) := BX4.out.cell 3
            have ROW4 := Lib.hid (own_fr (own_fr ROW.out f3.out (fun _ _ e => e)) f4 (fun q e hS => hS (.inr (.inr (by have e : gb = q := (by simpa [Value.ownBlock] using e); omega)))))
            have HFi := Lib.hid (find_l g s' (ka, kb) j (7 :: ctl) bn j1 j2 HCL.out.1 hbn1)
            have C4 := Lib.hid c4
            have O4 := Lib.hid o4
            have L4 := Lib.hid l4
            have F4 := Lib.hid ((HF2.out.tr f3.out).trans f4 (fun q hq e => e (.inl hq)))
            have hs4 := f4.size
            clear Hp c4 o4 l4 j1 j2 f4 HC2 HO2 HF2 ROW
            go_wp2_with fail
            refine (HKA.out _).mono ?_
            rintro e w5 ⟨rfl, f5⟩
            have hs5 := f5.out.size
            have HF5 := Lib.hid (HFi.out w5 (C4.out.fr0 f5.out))
            clear x2 x3
            go_wp2_with fail
            refine (HF5.out).mono ?_
            rintro e w6 ⟨gA, cA, p1, p2, ct6, rfl, hgA, hgA2, R6, f6⟩
            have hs6 := f6.out.size
            have fb := (Fr.refl (fun _ => False) w6).alloc (.cells #[.int .u32 p1, .int .u32 p2, .slice (some ⟨gA, 0, none⟩) bn cA, .int .i64 ct6] 34)
            have hcv1 := run_str _ _ _ _ cA _ (Reads.of_own (own_fr R6.out fb (fun _ _ e => e)))
            have hcv2 := run_str _ _ _ _ bc _ (Reads.of_own (own_fr (own_fr (own_fr ROW4.out f5.out (fun _ _ e => e)) f6.out (fun _ _ e => e)) fb (fun _ _ e => e)))
            obtain ⟨sc, hsc⟩ : ∃ q, str (7 :: ctl) = q := ⟨_, rfl⟩
            rw [hsc] at hcv1 hcv2
            obtain ⟨hd1', hd2'⟩ := own_head R6.out
            have HSC := Lib.hid hsc
            have BX6 := Lib.hid ((BX4.out.fr f5.out (fun e => e)).fr f6.out (fun e => e))
            have x2 : w6.cell? ⟨wo.heap.size, 2, none⟩ = some (.int .u32 a0) := BX6.out.cell 2
            have x3 : w6.cell? ⟨wo.heap.size, 3, none⟩ = some (.int .u32 a1) := BX6.out.cell 3
            have hne6 : ¬ gA = wo.heap.size := by omega
            have hgx6 : wo.heap.size < w6.heap.size := by omega
            clear hsc HF5
            go_wp2_with fail
            refine (HKA.out _).mono ?_
            rintro e w7 ⟨rfl, f7⟩
            have hsB : (w6.setCell ⟨gA, 0, none⟩ (.int .u8 8)).heap.size = w6.heap.size := by simp [World.setCell]
            have fS := ((Fr.refl (fun q => q = gA) w6).setCell (p := ⟨gA, 0, none⟩) (.inl rfl) (.int .u8 8)).alloc (.cells #[.int .u32 p1, .int .u32 p2, .slice (some ⟨gA, 0, none⟩) bn cA, .int .i64 ct6] 34)
            have BB := (Blk.new' (w6.setCell ⟨gA, 0, none⟩ (.int .u8 8)) 34 #[.int .u32 p1, .int .u32 p2, .slice (some ⟨gA, 0, none⟩) bn cA, .int .i64 ct6] hsB).fr f7.out (fun e => e)
            have hs7 : w6.heap.size + 1 ≤ w7.heap.size := BB.lt
            have hlow4 := C4.out.low
            have C7 := Lib.hid ((((C4.out.fr0 f5.out).fr0 f6.out).fr fS (fun q hq e => by have := hlow4 q hq; omega)).fr0 f7.out)
            have HF7 := Lib.hid (HFi.out w7 C7.out)
            have ROW7 := Lib.hid (own_fr (own_fr (own_fr (own_fr ROW4.out f5.out (fun _ _ e => e)) f6.out (fun _ _ e => e)) fS (fun q e e2 => by have e : gb = q := (by simpa [Value.ownBlock] using e); omega)) f7.out (fun _ _ e => e))
            have F7 := Lib.hid (((((F4.out.tr f5.out).tr f6.out)).trans fS (fun q hq e => by have := F4.out.size; omega)).tr f7.out)
            have BB7 := Lib.hid BB
            clear BB fS hcv1 hcv2 hd1' hd2' x2 x3 hsB hlow4 fb
            go_wp2_with fail
            refine (HF7.out).mono ?_
            rintro e w8 ⟨gB, cB, p3, p4, ct8, rfl, hgB, hgB2, R8, f8⟩
            have BB8 := BB7.out.fr f8.out (fun e => e)
            have y0 := BB8.cell 0
            have y1 := BB8.cell 1
            have y2 := BB8.cell 2
            have y3 := BB8.cell 3
            have z0 := BB8.frozen 0
            have z1 := BB8.frozen 1
            have z2 := BB8.frozen 2
            have z3 := BB8.frozen 3
            go_upto_region 17 with (fail)
            obtain ⟨W9, hW9⟩ : ∃ q, (((w8.setCell ⟨w6.heap.size, 0, none⟩ (.int .u32 p3)).setCell ⟨w6.heap.size, 1, none⟩ (.int .u32 p4)).setCell ⟨w6.heap.size, 2, none⟩ (.slice (some ⟨gB, 0, none⟩) bn cB)).setCell ⟨w6.heap.size, 3, none⟩ (.int .i64 ct8) = q := ⟨_, rfl⟩
            rw [hW9]
            have f9 : Fr (fun q => q = w6.heap.size) w8 W9 := by
              rw [← hW9]
              have h0 := Fr.refl (fun q => q = w6.heap.size) w8
              have h1 := h0.setCell (p := ⟨w6.heap.size, 0, none⟩) (.inl rfl) (.int .u32 p3)
              have h2 := h1.setCell (p := ⟨w6.heap.size, 1, none⟩) (.inl rfl) (.int .u32 p4)
              have h3 := h2.setCell (p := ⟨w6.heap.size, 2, none⟩) (.inl rfl) (.slice (some ⟨gB, 0, none⟩) bn cB)
              exact h3.setCell (p := ⟨w6.heap.size, 3, none⟩) (.inl rfl) (.int .i64 ct8)
            have v2 : W9.cell? ⟨w6.heap.size, 2, none⟩ = some (.slice (some ⟨gB, 0, none⟩) bn cB) := by
              rw [← hW9]
              have := ((((BB8.set_ 0 (.int .u32 p3)).set_ 1 (.int .u32 p4)).set_ 2 (.slice (some ⟨gB, 0, none⟩) bn cB)).set_ 3 (.int .i64 ct8)).cell 2
              rw [this]
              rfl
            have hcv1 := run_str _ _ _ _ cB _ (Reads.of_own (own_fr R8.out f9 (fun q e e2 => by have e : gB = q := (by simpa [Value.ownBlock] using e); omega)))
            have hcv2 := run_str _ _ _ _ bc _ (Reads.of_own (own_fr (own_fr ROW7.out f8.out (fun _ _ e => e)) f9 (fun q e e2 => by have e : gb = q := (by simpa [Value.ownBlock] using e); omega)))
            rw [HSC.out] at hcv1 hcv2
            have hlow4 := C4.out.low
            have HLI9 : Hid (LI w g (i + 1) W9) := Lib.hid ⟨s', (C7.out.fr0 f8.out).fr f9 (fun q hq e => by have := hlow4 q hq; omega), fun q hq e => O4.out q hq (.inl e), L4.out, (F7.out.tr f8.out).trans f9 (fun q hq e => by have := F4.out.size; omega)⟩
            clear BB8 y0 y1 y2 y3 z0 z1 z2 z3 hW9 f9 hlow4
            go_wp2_with fail
            go_meet
            exact HLI9
      case rest =>
        obtain ⟨s9, c9, o9, l9, f9⟩ := hcut.out
        have HC9 := Lib.hid c9
        obtain ⟨n9, hn9⟩ : ∃ n, s9.bl.length = n := ⟨_, rfl⟩
        have hn10 : n9 ≤ 1024 := by
          have h1 := c9.ok.len
          have h2 := c9.ok.room
          omega
        have HKC := Lib.hid (keys_any wc g s9 c9)
        rw [hn9] at HKC
        have HOK := Lib.hid c9.ok
        have HN9 := Lib.hid hn9
        clear c9 o9 l9 f9 hn9 HC2 HO2 HF2 BX2 x0 ROW HCL KA KB HFL
        go_wp2_with fail
        refine (HKC.out).mono ?_
        rintro e w7 ⟨A7, c7, rfl, r7, f7⟩
        have R7 := Lib.hid (krow_at r7 (by rw [List.length_map]; exact HN9.out))
        have C7 := Lib.hid (HC9.out.fr0 f7)
        have HLI7 : Hid (∀ W, Fr (fun _ => False) w7 W → LI w g (i + 1) W) := Lib.hid (fun W fW => by
          obtain ⟨s9, c9, o9, l9, f9⟩ := hcut.out
          exact ⟨s9, (c9.fr0 f7).fr0 fW, o9, l9, (f9.tr f7).tr fW⟩)
        have HKY : Hid (∀ q, q < n9 → (nthK (s9.bl.map Bk.k) q).Ok) := Lib.hid (fun q hq => by
          have hl : q < (s9.bl.map Bk.k).length := by rw [List.length_map, HN9.out]; exact hq
          have hm' : nthK (s9.bl.map Bk.k) q ∈ s9.bl.map Bk.k := by rw [nthK_at hl]; exact List.getElem_mem hl
          obtain ⟨x, hx, e⟩ := List.mem_map.1 hm'
          rw [← e]
          exact HOK.out.keys x hx)
        clear r7 f7 HKC HC9
        go_wp2_with fail
        go_loopw [141] (fun iv wr => ∃ q : Nat, q ≤ n9 ∧ iv = .int .i64 q ∧ Hid (Fr (fun _ => False) w7 wr)) (fun iv _ => n9 - (intOf iv).toNat)
        case atStart => exact ⟨0, by omega, rfl, Lib.hid (Fr.refl _ _)⟩
        case round =>
          obtain ⟨q, hq, rfl, hfq⟩ := hrel
          obtain ⟨wp, rfl⟩ : ∃ wp : World, wp = wr := ⟨_, rfl⟩
          by_cases hqn : q < n9
          · have hd3 : decide ((q : Int) < (n9 : Int)) = true := by simp; omega
            have hq0 : (0 : Int) ≤ (q : Int) := by omega
            have hq1 : (q : Int) < (n9 : Int) := by omega
            obtain ⟨ga, go, hA, hgl, e0, e1⟩ := at_cells R7.out hqn
            have e0 := hfq.out.cell e0 hgl (fun e => e)
            have e1 := hfq.out.cell e1 hgl (fun e => e)
            have hyo := HKY.out q hqn
            obtain ⟨y, hy⟩ : ∃ y, nthK (s9.bl.map Bk.k) q = y := ⟨_, rfl⟩
            rw [hy] at e0 e1 hyo
            subst hA
            have fb := (hfq.out.alloc (.cells #[.int .u32 y.1, .int .u32 y.2] 31))
            have HLk := Lib.hid (linked_any _ g s9 (C7.out.fr0 fb) y hyo)
            have HM : Hid (∀ t ∈ lnk s9.E y, t ∈ s9.bl.map Bk.k) := Lib.hid (fun t ht => lnk_mem HOK.out y t ht)
            obtain ⟨ll, hll⟩ : ∃ q, lnk s9.E y = q := ⟨_, rfl⟩
            rw [hll] at HLk HM
            obtain ⟨y0, y1⟩ := y
            have e0 : wp.cell? ⟨ga, go + q * 2, none⟩ = some (.int .u32 y0) := e0
            have e1 : wp.cell? ⟨ga, go + q * 2 + 1, none⟩ = some (.int .u32 y1) := e1
            clear hy hyo hll fb
            go_wp2_with fail
            refine (HLk.out).mono ?_
            rintro e w8 ⟨A8, c8, rfl, r8, f8⟩
            obtain ⟨m8, hm8⟩ : ∃ m, ll.length = m := ⟨_, rfl⟩
            rw [hm8]
            rw [hm8] at r8
            have hm9 := own_le r8
            unfold maxLen at hm9
            have R8 := Lib.hid (krow_at r8 hm8)
            have F8 := Lib.hid ((hfq.out.alloc _).tr f8)
            have HM8 := Lib.hid hm8
            clear r8 f8 hm8 HLk
            go_wp2_with fail
            go_loopw [149] (fun iv wr => ∃ r : Nat, r ≤ m8 ∧ iv = .int .i64 r ∧ Hid (Fr (fun _ => False) w8 wr)) (fun iv _ => m8 - (intOf iv).toNat)
            case atStart => exact ⟨0, by omega, rfl, Lib.hid (Fr.refl _ _)⟩
            case round =>
              obtain ⟨r, hr, rfl, hfr⟩ := hrel
              by_cases hrm : r < m8
              · have hd4 : decide ((r : Int) < (m8 : Int)) = true := by simp; omega
                have hr0 : (0 : Int) ≤ (r : Int) := by omega
                have hr1 : (r : Int) < (m8 : Int) := by omega
                obtain ⟨gc, gp, hA, hgl, u0, u1⟩ := at_cells R8.out hrm
                have u0 := hfr.out.cell u0 hgl (fun e => e)
                have u1 := hfr.out.cell u1 hgl (fun e => e)
                have hmem : nthK ll r ∈ s9.bl.map Bk.k := HM.out _ (by rw [nthK_at (by rw [HM8.out]; exact hrm)]; exact List.getElem_mem _)
                obtain ⟨t, ht⟩ : ∃ t, nthK ll r = t := ⟨_, rfl⟩
                rw [ht] at u0 u1 hmem
                subst hA
                have HFd := Lib.hid (find_any _ g s9 ((C7.out.fr0 F8.out).fr0 (hfr.out.alloc (.cells #[.int .u32 t.1, .int .u32 t.2] 31))) t hmem)
                obtain ⟨t0, t1⟩ := t
                have u0 : wr.cell? ⟨gc, gp + r * 2, none⟩ = some (.int .u32 t0) := u0
                have u1 : wr.cell? ⟨gc, gp + r * 2 + 1, none⟩ = some (.int .u32 t1) := u1
                clear ht hmem
                go_wp2_with fail
                refine (HFd.out).mono ?_
                rintro e w9 ⟨p1, p2, A9, nn9, c9, ct9, rfl, f9⟩
                go_wp2_with fail
                exact ⟨⟨r + 1, by omega, by go_num, Lib.hid (((hfr.out.alloc _).tr f9.out).alloc _)⟩, by simp [intOf]; omega⟩
              · have hd4 : decide ((r : Int) < (m8 : Int)) = false := by simp; omega
                have HE := Lib.hid (F8.out.tr hfr.out)
                go_wp2_with fail
                exact ⟨⟨q + 1, by omega, by go_num, HE⟩, by simp [intOf]; omega⟩
          · have hd3 : decide ((q : Int) < (n9 : Int)) = false := by simp; omega
            have HE := Lib.hid (HLI7.out wp hfq.out)
            go_wp2_with fail
            exact ⟨⟨i + 1, by omega, by omega, by go_num, HE⟩, by simp [intOf]; omega⟩
    · have hcase : (decide ((i : Int) < (len : Int)) = false ∧ decide (i < len) = false) ∨ (decide ((i : Int) < (len : Int)) = true ∧ decide ((i : Int) < 60) = false ∧ decide (i < len) = true) := by
        by_cases h1 : i < len
        · right
          exact ⟨by simp; omega, by simp; omega, by simp; omega⟩
        · left
          exact ⟨by simp; omega, by simp; omega⟩
      clear hlt
      obtain ⟨s9, c9, o9, l9, f9⟩ := HLI.out
      have F9 := Lib.hid f9
      have Hkn := Lib.hid (known_any wo)
      clear c9 o9 l9 f9
      rcases hcase with ⟨hd1, hd2⟩ | ⟨hd1, hd2, hd4⟩
      all_goals
        go_wp2_with fail
        refine (Hkn.out).mono ?_
        rintro e w9 ⟨rfl, f9⟩
        have F10 := Lib.hid (F9.out.tr f9)
        clear f9
        go_wp2_with fail
        go_ret
        exact ⟨rfl, F10.out⟩
end Go.Proofs.Ytfjlgdafakbdoaa.cacheLinks
