/- Law 23: do: both caches. -/
import Derived.Test.YtfjlgdafakbdoaaCaY
import Derived.Test.YtfjlgdafakbdoaaBook
import Derived.Deep.RegionHeld
import Derived.Deep.DeepCutAuto
namespace Go.Proofs.Ytfjlgdafakbdoaa.Ca
open Go.RowKit Mz Go.Maps By
set_option linter.unusedVariables false
set_option linter.unusedSimpArgs false
set_option maxHeartbeats 4000000
set_option maxRecDepth 100000

/-- both caches, each with memory of its own, from a place on -/
structure Duo (KS : Nat → Prop) (w : World) (gc gd : Nat) (s : Cs) (d : Ds) : Prop where
  cc : Cch w gc s
  dd : Doc w gd d
  ap : ∀ q, s.own gc q → ¬ d.own gd q
  lc : ∀ q, s.own gc q → ¬ KS q
  ld : ∀ q, d.own gd q → ¬ KS q
  hK : ∀ q, KS q → q < w.heap.size
section
variable {KS : Nat → Prop} {gc gd : Nat} {w w' : World} {s s' : Cs} {d d' : Ds}
theorem Duo.fr0 (h : Duo KS w gc gd s d) (f : Fr (fun _ => False) w w') : Duo KS w' gc gd s d := ⟨h.cc.fr0 f, h.dd.fr0 f, h.ap, h.lc, h.ld, fun q hq => Nat.lt_of_lt_of_le (h.hK q hq) f.size⟩
theorem Duo.prog (h : Duo KS w gc gd s d) (hc : Cch w' gc s') (ho : ∀ q, s'.own gc q → s.own gc q ∨ w.heap.size ≤ q) (f : Fr (s.own gc) w w') : Duo KS w' gc gd s' d :=
  ⟨hc, h.dd.fr f (fun q hq e => h.ap q e hq), fun q hq e => by
    rcases ho q hq with h1 | h1
    · exact h.ap q h1 e
    · have := h.dd.low q e; omega, fun q hq => by
    rcases ho q hq with h1 | h1
    · exact h.lc q h1
    · exact fun e => by have := h.hK q e; omega, h.ld, fun q hq => Nat.lt_of_lt_of_le (h.hK q hq) f.size⟩
theorem Duo.doc (h : Duo KS w gc gd s d) (hd : Doc w' gd d') (ho : ∀ q, d'.own gd q → d.own gd q ∨ w.heap.size ≤ q) (f : Fr (d.own gd) w w') : Duo KS w' gc gd s d' :=
  ⟨h.cc.fr f (fun q hq e => h.ap q hq e), hd, fun q hq e => by
    rcases ho q e with h1 | h1
    · exact h.ap q hq h1
    · have := h.cc.low q hq; omega, h.lc, fun q hq => by
    rcases ho q hq with h1 | h1
    · exact h.ld q h1
    · exact fun e => by have := h.hK q e; omega, fun q hq => Nat.lt_of_lt_of_le (h.hK q hq) f.size⟩
theorem Duo.lo (h : Duo KS w gc gd s d) : ∀ q, (s.own gc q ∨ d.own gd q) → ¬ KS q := fun q hq => hq.elim (h.lc q) (h.ld q)
end
theorem str_size : ∀ (l : List Int) (b : ByteArray), (l.foldl (fun r n => r.push (UInt8.ofNat n.toNat)) b).size = b.size + l.length
  | [], b => by simp
  | z :: l, b => by
    rw [List.foldl_cons, str_size l]
    simp [ByteArray.size_push]
    omega
theorem str_ne {l : List Int} (h : l ≠ []) : (str l).toList.isEmpty = false := by
  have h1 := str_size l ByteArray.empty
  have h2 : 0 < l.length := List.length_pos_iff.2 h
  have h3 : (str l).size = l.length := by unfold str; rw [h1]; simp
  rw [ByteArray.toList_eq]
  cases hh : (str l).data.toList with
  | nil =>
    have : (str l).data.size = 0 := by rw [← Array.length_toList, hh]; rfl
    have : (str l).size = 0 := this
    omega
  | cons x y => rfl
theorem nodup_le {α : Type} [DecidableEq α] : ∀ (l m : List α), l.Nodup → (∀ x ∈ l, x ∈ m) → l.length ≤ m.length
  | [], m, _, _ => by simp
  | x :: l, m, hn, hs => by
    have hx := hs x (by simp)
    have ih := nodup_le l (m.erase x) (List.nodup_cons.1 hn).2 (fun y hy => by
      have hne : y ≠ x := fun e => (List.nodup_cons.1 hn).1 (e ▸ hy)
      exact (List.mem_erase_of_ne hne).2 (hs y (by simp [hy])))
    rw [List.length_erase_of_mem hx] at ih
    have := List.length_pos_of_mem hx
    rw [List.length_cons]
    omega
theorem lnk_len {s : Cs} (ok : s.Ok) (k : Ky) : (lnk s.E k).length ≤ 1024 := by
  unfold lnk
  cases hf : s.E.find? (fun p => decide (p.1 = k)) with
  | none => simp
  | some p =>
    have h1 := ok.tos p (List.mem_of_find?_eq_some hf)
    have h2 := nodup_le p.2.ks (s.bl.map Bk.k) h1.1 h1.2
    have := ok.len
    have := ok.room
    rw [List.length_map] at h2
    show p.2.ks.length ≤ 1024
    omega
theorem Same.lk {s : Cs} {d : Ds} (h : Same s d) (ok : s.Ok) : ∀ x ∈ d.bl, x.ks.length + 1 ≤ 1000000 := fun x hx => by
  have h1 : x.v ∈ views d := List.mem_map_of_mem hx
  rw [h.v] at h1
  obtain ⟨b, _, hb⟩ := List.mem_map.1 h1
  have h2 : x.ks = lnk s.E b.k := (congrArg Dv.ks hb).symm
  rw [h2]
  have := lnk_len ok b.k
  omega
theorem pair_any (w : World) (a b : Int) (ha : (Lit.int .u32 a).wf = true) (hb : (Lit.int .u32 b).wf = true) :
    Calls Try.prog 31 #[.agg #[.int .u32 a, .int .u32 b]] w fun e w' => e = .returned (.agg #[.int .u32 (a % 5), .int .u32 (b % 400)]) ∧ Fr (fun _ => False) w w' := by
  obtain ⟨a0, a1⟩ := wf_u32 ha
  obtain ⟨b0, b1⟩ := wf_u32 hb
  clear ha hb
  go_enter Try.func31, Try.ntmps31
  go_wp2
  exact bodyPost_ret (v := .agg #[.int .u32 (a % 5), .int .u32 (b % 400)]) (by simp [results, Try.results31, go_sem]) rfl ⟨rfl, by (repeat (first | exact Fr.refl _ _ | with_reducible assumption | refine Fr.drewN ?_ _ | refine Fr.drew ?_ | refine Fr.alloc ?_ _ | (refine Fr.setCell (p := ⟨_, _, _⟩) ?_ ?_ _; rotate_left; first | exact .inl rfl | (right; simp; done) | (right; simp; omega))))⟩
theorem rput_no' (w : World) (g : Nat) (pc pl : Int) (code : ByteArray) (ct : Int) (hct : ct ≤ 0 ∨ code = ByteArray.empty) (hlo : -9223372036854775808 ≤ ct ∧ ct ≤ 9223372036854775807) :
    Calls Try.prog 32 #[.pointer (some ⟨g, 0, none⟩), .agg #[.int .u32 pc, .int .u32 pl, .string code, .int .i64 ct, .slice none 0 0]] w fun e w' => e = .returned (.bool false) ∧ Fr (fun _ => False) w w' := by
  obtain ⟨l0, l1⟩ := hlo
  rcases hct with hc | rfl
  · have hd : decide (ct < 1) = true := by simp; omega
    go_enter Try.func32, Try.ntmps32
    go_wp2
    go_ret
    exact ⟨rfl, (Fr.refl _ _).alloc _⟩
  · by_cases hc : ct < 1
    · have hd : decide (ct < 1) = true := by simp; omega
      go_enter Try.func32, Try.ntmps32
      go_wp2
      go_ret
      exact ⟨rfl, (Fr.refl _ _).alloc _⟩
    · have hd : decide (ct < 1) = false := by simp; omega
      go_enter Try.func32, Try.ntmps32
      go_wp2
      go_ret
      exact ⟨rfl, (Fr.refl _ _).alloc _⟩
/-- what 'do' leaves -/
def DoP (KS : Nat → Prop) (w : World) (gc gd : Nat) (s : Cs) (d : Ds) (e : Ending) (w' : World) : Prop :=
  e = .returned (.bool true) ∧ ∃ s' d', Duo KS w' gc gd s' d' ∧ Same s' d' ∧ s'.room = s.room ∧ s'.fl ≤ s.fl + 1 ∧ Fr (fun q => s.own gc q ∨ d.own gd q) w w'
section
variable {KS : Nat → Prop} {gc gd : Nat} {w W : World} {s : Cs} {d : Ds}
/-- both Put -/
theorem put_both1 (h : Duo KS W gc gd s d) (pc pl : Int) (code : List Int) (ct : Int) (A : Option Addr) (n c : Nat) (hn : code.length = n) (hr : Reads W W.heap.size 1 A n (code.map (Value.int .u8))) (hk : Ky.Ok (pc, pl)) (hct : 1 ≤ ct ∧ ct ≤ 9223372036854775807) (hcode : code ≠ [] ∧ code.length ≤ 1000000 ∧ ∀ z ∈ code, 0 ≤ z ∧ z < 256) (hfl : s.fl ≤ 1000) :
    Calls Try.prog 11 #[.pointer (some ⟨gc, 0, none⟩), .agg #[.int .u32 pc, .int .u32 pl, .slice A n c, .int .i64 ct]] W fun e w' => e = .returned (.bool true) ∧ Hid (∃ b A2 c2 gm2, b.k = (pc, pl) ∧ b.code = code ∧ b.ct = ct ∧ Duo KS w' gc gd (s.put b A2 c2 gm2) d) ∧ Hid (Fr (s.own gc) W w') := by
  subst hn
  refine (put_any W gc s h.cc pc pl code ct A c _ hr (Nat.le_refl _) hk hct hcode (by omega)).mono ?_
  rintro e w' ⟨A', c', A2, c2, gm2, g1, g2, g3, g4⟩
  have f : Fr (s.own gc) W w' := g3.mono (fun q _ e => .inl e)
  exact ⟨g1, Lib.hid ⟨_, A2, c2, gm2, rfl, rfl, rfl, h.prog g2 g4 f⟩, Lib.hid f⟩
theorem put_fl (s : Cs) (b : Bk) (A : Option Addr) (c gm : Nat) : (s.put b A c gm).fl ≤ s.fl + 1 ∧ (s.put b A c gm).room = s.room := by
  unfold Cs.put
  split
  · exact ⟨by show s.fl ≤ s.fl + 1; omega, rfl⟩
  · split
    · exact ⟨by show s.fl + 1 ≤ s.fl + 1; omega, rfl⟩
    · exact ⟨by show s.fl ≤ s.fl + 1; omega, rfl⟩
theorem put_both2 {W0 : World} (hs : Same s d) (ok : s.Ok) {b : Bk} {A2 : Option Addr} {c2 gm2 : Nat} (h : Duo KS W gc gd (s.put b A2 c2 gm2) d) (hk : b.k.Ok) (hct : 1 ≤ b.ct ∧ b.ct ≤ 9223372036854775807) (hcode : b.code ≠ []) (hfl : d.fl ≤ 1000) (f0 : Fr (fun q => s.own gc q ∨ d.own gd q) W0 W) (pc pl ct : Int) (code : ByteArray) (e1 : b.k = (pc, pl)) (e2 : str b.code = code) (e3 : b.ct = ct) :
    Calls Try.prog 32 #[.pointer (some ⟨gd, 0, none⟩), .agg #[.int .u32 pc, .int .u32 pl, .string code, .int .i64 ct, .slice none 0 0]] W fun e w' => e = .returned (.bool true) ∧ Hid (DoP KS W0 gc gd s d (.returned (.bool true)) w') ∧ Hid (Fr (d.own gd) W w') := by
  rw [← e2, ← e3]
  have hk' : Ky.Ok (pc, pl) := e1 ▸ hk
  refine (rput_any W gd d h.dd pc pl (str b.code) b.ct hct (str_ne hcode) hk' (by omega)).mono ?_
  rintro e w' ⟨g1, d', g2, g3, g4, g5, g6⟩
  have hp := same_put hs ok b A2 c2 gm2
  rw [e1] at hp
  rw [hp] at g4
  have k1 := congrArg Prod.fst g4
  have k2 := congrArg Prod.snd g4
  refine ⟨g1, Lib.hid ⟨rfl, _, d', h.doc g2 g5 g6, ⟨by rw [g3, hs.room]; exact (put_fl s b A2 c2 gm2).2.symm, k2, k1⟩, (put_fl s b A2 c2 gm2).2, (put_fl s b A2 c2 gm2).1, f0.tr (g6.mono (fun q _ e => .inr e))⟩, Lib.hid g6⟩
end
/-- the asked call's cells, the boxes of the block and of the pair -/
def S3 (gx : Nat) (a0 a1 : Int) (A : Option Addr) (n c : Nat) (ct : Int) (W : World) : Prop := W.cell? ⟨gx, 1, none⟩ = some (.int .i64 ct) ∧ W.cell? ⟨gx, 2, none⟩ = some (.int .u32 a0) ∧ W.cell? ⟨gx, 3, none⟩ = some (.int .u32 a1) ∧ W.cell? ⟨gx, 6, none⟩ = some (.slice A n c) ∧ gx < W.heap.size
theorem S3.fr {W W' : World} {gx : Nat} {a0 a1 ct : Int} {A : Option Addr} {n c : Nat} {S : Nat → Prop} (h : S3 gx a0 a1 A n c ct W) (f : Fr S W W') (hg : ¬ S gx) : S3 gx a0 a1 A n c ct W' := by
  obtain ⟨h0, h1, h2, h3, hl⟩ := h
  exact ⟨f.cell h0 hl hg, f.cell h1 hl hg, f.cell h2 hl hg, f.cell h3 hl hg, Nat.lt_of_lt_of_le hl f.size⟩
/-- the cells that both Puts read -/
def S5 (KS : Nat → Prop) (w : World) (gx gb gp : Nat) (ka kb : Int) (A : Option Addr) (n c : Nat) (ct : Int) (W : World) : Prop :=
  W.cell? ⟨gx, 1, none⟩ = some (.int .i64 ct) ∧ (W.cell? ⟨gb, 0, none⟩ = some (.int .u32 ka) ∧ W.cell? ⟨gb, 1, none⟩ = some (.int .u32 kb) ∧ W.cell? ⟨gb, 2, none⟩ = some (.slice A n c) ∧ W.cell? ⟨gb, 3, none⟩ = some (.int .i64 ct)) ∧ (W.cell? ⟨gp, 0, none⟩ = some (.int .u32 ka) ∧ W.cell? ⟨gp, 1, none⟩ = some (.int .u32 kb)) ∧ Fr (fun q => ¬ KS q) w W ∧ gx < W.heap.size ∧ gb < W.heap.size ∧ gp < W.heap.size
theorem S5.fr {KS : Nat → Prop} {w W W' : World} {gx gb gp : Nat} {ka kb ct : Int} {A : Option Addr} {n c : Nat} {S : Nat → Prop} (h : S5 KS w gx gb gp ka kb A n c ct W) (f : Fr S W W') (h1 : ¬ S gx) (h2 : ¬ S gb) (h3 : ¬ S gp) (hB : ∀ q, q < w.heap.size → S q → ¬ KS q) : S5 KS w gx gb gp ka kb A n c ct W' := by
  obtain ⟨e0, ⟨e1, e2, e3, e4⟩, ⟨e5, e6⟩, e7, l1, l2, l3⟩ := h
  exact ⟨f.cell e0 l1 h1, ⟨f.cell e1 l2 h2, f.cell e2 l2 h2, f.cell e3 l2 h2, f.cell e4 l2 h2⟩, ⟨f.cell e5 l3 h3, f.cell e6 l3 h3⟩, e7.trans f hB, Nat.lt_of_lt_of_le l1 f.size, Nat.lt_of_lt_of_le l2 f.size, Nat.lt_of_lt_of_le l3 f.size⟩
/-- what holds of a call's parts, whatever is done beside KS -/
structure Ask23.OkK (w : World) (B : Nat) (KS : Nat → Prop) (x : Ask23) : Prop where
  kd : (Lit.int .i64 x.kd).wf = true
  ct : (Lit.int .i64 x.ct).wf = true
  a0 : (Lit.int .u32 x.a0).wf = true
  a1 : (Lit.int .u32 x.a1).wf = true
  b0 : (Lit.int .u32 x.b0).wf = true
  b1 : (Lit.int .u32 x.b1).wf = true
  code : (∀ W, Fr (fun q => ¬ KS q) w W → IntsAt .u8 W B x.A x.len x.zs) ∧ x.len ≤ maxLen ∧ x.len ≤ x.cap
  pages : (∀ W, Fr (fun q => ¬ KS q) w W → IntsAt .i64 W B x.pA x.pl x.ps) ∧ x.pl ≤ maxLen ∧ x.pl ≤ x.pc
  hB : B ≤ w.heap.size
theorem Ask23.Ok.k {w : World} {B : Nat} {x : Ask23} (h : x.Ok w B) (hB : B ≤ w.heap.size) : x.OkK w B (fun q => q < B) :=
  ⟨h.kd, h.ct, h.a0, h.a1, h.b0, h.b1, ⟨fun W f => h.code.1.fr f hB (fun q hq e => e hq), h.code.2⟩, ⟨fun W f => h.pages.1.fr f hB (fun q hq e => e hq), h.pages.2⟩, hB⟩
theorem do_put (KS : Nat → Prop) (B : Nat) (w : World) (gc gd : Nat) (s : Cs) (d : Ds) (h : Duo KS w gc gd s d) (hs : Same s d) (hfl : s.fl ≤ 900) (x : Ask23) (hx : x.OkK w B KS) (hk1 : x.kd = 1) :
    Calls Try.prog 21 #[.pointer (some ⟨gc, 0, none⟩), .pointer (some ⟨gd, 0, none⟩), .agg #[.int .i64 x.kd, .int .i64 x.ct, .int .u32 x.a0, .int .u32 x.a1, .int .u32 x.b0, .int .u32 x.b1, .slice x.A x.len x.cap, .slice x.pA x.pl x.pc]] w (DoP KS w gc gd s d) := by
  obtain ⟨kd, ct, a0, a1, b0, b1, A, ln, cp, zs, pA, pl, pc, ps⟩ := x
  obtain ⟨wk, wc, ka', kb', kc', kd', ⟨hI, hL, hC2⟩, ⟨hP, hpl, hpc⟩, hBw⟩ := hx
  have hk1 : kd = 1 := hk1
  subst hk1
  have hI : ∀ W, Fr (fun q => ¬ KS q) w W → IntsAt .u8 W B A ln zs := hI
  have hL : ln ≤ maxLen := hL
  have hC2 : ln ≤ cp := hC2
  obtain ⟨ct0, ct1⟩ := wf_i64 (show (Lit.int .i64 ct).wf = true from wc)
  obtain ⟨u0, u1⟩ := wf_u32 (show (Lit.int .u32 a0).wf = true from ka')
  obtain ⟨v0, v1⟩ := wf_u32 (show (Lit.int .u32 a1).wf = true from kb')
  obtain ⟨ka, hka⟩ : ∃ z, a0 % 5 = z := ⟨_, rfl⟩
  obtain ⟨kb, hkb⟩ : ∃ z, a1 % 400 = z := ⟨_, rfl⟩
  have ka2 : 0 ≤ ka ∧ ka < 5 := by omega
  have kb2 : 0 ≤ kb ∧ kb < 400 := by omega
  have KA : Hid (∀ W, Calls Try.prog 18 #[.agg #[.int .u32 a0, .int .u32 a1]] W fun e w' => e = .returned (.agg #[.int .u32 ka, .int .u32 kb]) ∧ Hid (Fr (fun _ => False) W w')) := Lib.hid (fun W => (key_any W a0 a1 ka' kb').mono (by rintro e w' ⟨g1, g2⟩; rw [hka, hkb] at g1; exact ⟨g1, Lib.hid g2⟩))
  have KP : Hid (∀ W, Calls Try.prog 31 #[.agg #[.int .u32 a0, .int .u32 a1]] W fun e w' => e = .returned (.agg #[.int .u32 ka, .int .u32 kb]) ∧ Hid (Fr (fun _ => False) W w')) := Lib.hid (fun W => (pair_any W a0 a1 ka' kb').mono (by rintro e w' ⟨g1, g2⟩; rw [hka, hkb] at g1; exact ⟨g1, Lib.hid g2⟩))
  have Hcut : Hid (∀ W, Calls Try.prog 10 #[.slice A ln cp, .int .i64 20] W fun e w' => e = .returned (.slice A (min ln 20) cp) ∧ W = w') := Lib.hid (fun W => cut_any W A ln cp 20 hL hC2 (by omega))
  have f1 := (Fr.refl (fun _ => False) w).alloc (.cells #[.int .i64 1, .int .i64 ct, .int .u32 a0, .int .u32 a1, .int .u32 b0, .int .u32 b1, .slice A ln cp, .slice pA pl pc] 47)
  have bx := Blk.new w 47 #[.int .i64 1, .int .i64 ct, .int .u32 a0, .int .u32 a1, .int .u32 b0, .int .u32 b1, .slice A ln cp, .slice pA pl pc]
  have s1 : (w.alloc (.cells #[.int .i64 1, .int .i64 ct, .int .u32 a0, .int .u32 a1, .int .u32 b0, .int .u32 b1, .slice A ln cp, .slice pA pl pc] 47)).heap.size = w.heap.size + 1 := by simp
  have hS3 : S3 w.heap.size a0 a1 A ln cp ct (w.alloc (.cells #[.int .i64 1, .int .i64 ct, .int .u32 a0, .int .u32 a1, .int .u32 b0, .int .u32 b1, .slice A ln cp, .slice pA pl pc] 47)) := ⟨bx.cell 1, bx.cell 2, bx.cell 3, bx.cell 6, bx.lt⟩
  have BZ := Lib.hid (Blk.new' (w.alloc (.cells #[.int .i64 1, .int .i64 ct, .int .u32 a0, .int .u32 a1, .int .u32 b0, .int .u32 b1, .slice A ln cp, .slice pA pl pc] 47)) 34 #[.int .u32 0, .int .u32 0, .slice none 0 0, .int .i64 0] s1)
  have F1 := Lib.hid f1
  have BX := Lib.hid bx
  have HS1 := Lib.hid s1
  have HI := Lib.hid hI
  have H := Lib.hid h
  have HS := Lib.hid hs
  unfold maxLen at hL
  clear h hs hI ka' kb' hka hkb f1 bx s1 u0 u1 v0 v1 wk wc kc' kd' hP hpl hpc
  go_enter Try.func21, Try.ntmps21
  go_upto_region 3 with (fail)
  go_cut [7] (fun v wx => ∃ gb, v = .pointer (some ⟨gb, 0, none⟩) ∧ w.heap.size < gb ∧ Hid (Blk wx gb 34 #[.int .u32 ka, .int .u32 kb, .slice A (min ln 20) cp, .int .i64 ct] ∧ Fr (fun _ => False) (w.alloc (.cells #[.int .i64 1, .int .i64 ct, .int .u32 a0, .int .u32 a1, .int .u32 b0, .int .u32 b1, .slice A ln cp, .slice pA pl pc] 47)) wx))
  case first =>
    refine wp_region_held_drew (S := S3 w.heap.size a0 a1 A ln cp ct) (by kernel_rfl) (hS3) (fun hH => ?_)
    refine wpAnyH_take (i := 0) (v := ?_) rfl (by kernel_rfl) (by kernel_rfl) (by kernel_rfl) (fun _ _ _ h => h) (Or.inl ⟨by kernel_rfl, ?_⟩) hH ?_
    rotate_left
    · (intro W hSw; obtain ⟨k1, k2, k3, k4, k5⟩ := hSw; go_simp; try with_reducible rfl)
    refine wpAnyH_take (i := 1) (v := ?_) rfl (by kernel_rfl) (by kernel_rfl) (by kernel_rfl) (fun _ _ _ h => h) (Or.inl ⟨by kernel_rfl, ?_⟩) hH ?_
    rotate_left
    · (intro W hSw; obtain ⟨k1, k2, k3, k4, k5⟩ := hSw; go_simp; try with_reducible rfl)
    refine wpAnyH_take (i := 3) (v := ?_) rfl (by kernel_rfl) (by kernel_rfl) (by kernel_rfl) (fun _ _ _ h => h) (Or.inl ⟨by kernel_rfl, ?_⟩) hH ?_
    rotate_left
    · (intro W hSw; obtain ⟨k1, k2, k3, k4, k5⟩ := hSw; go_simp; try with_reducible rfl)
    try simp only [Act.put, List.getElem_toArray, List.getElem_cons_zero, List.getElem_cons_succ, List.setIfInBounds_toArray, List.set_cons_zero, List.set_cons_succ]
    refine wpAnyH_take (i := 4) (v := ?_) rfl (by kernel_rfl) (by kernel_rfl) (by kernel_rfl) (fun _ _ _ h => h) (Or.inl ⟨by kernel_rfl, ?_⟩) hH ?_
    rotate_left
    · (intro W hSw; obtain ⟨k1, k2, k3, k4, k5⟩ := hSw; go_simp; try with_reducible rfl)
    refine wpAnyH_take (i := 6) (v := ?_) rfl (by kernel_rfl) (by kernel_rfl) (by kernel_rfl) (fun _ _ _ h => h) (Or.inl ⟨by kernel_rfl, ?_⟩) hH ?_
    rotate_left
    · (intro W hSw; obtain ⟨k1, k2, k3, k4, k5⟩ := hSw; go_simp; try with_reducible rfl)
    refine wpAnyH_take (i := 7) (v := ?_) rfl (by kernel_rfl) (by kernel_rfl) (by kernel_rfl) (fun _ _ _ h => h) (Or.inl ⟨by kernel_rfl, ?_⟩) hH ?_
    rotate_left
    · (intro W hSw; obtain ⟨k1, k2, k3, k4, k5⟩ := hSw; go_simp; try with_reducible rfl)
    try simp only [Act.put, List.getElem_toArray, List.getElem_cons_zero, List.getElem_cons_succ, List.setIfInBounds_toArray, List.set_cons_zero, List.set_cons_succ]
    refine wpAnyH_ready (rs := [2, 9]) (by kernel_rfl) (by simp) ?_
    refine AllReadyH.cons rfl (fun K hK => ?_) ?_
    · go_simp
      go_wp2_with (refine (KA.out _).mono ?_; rintro e w3 ⟨rfl, f3⟩)
      refine hK.out _ _ ?_ (fun hH => ?_)
      · exact hH.fr f3.out (fun e => e)
      clear hK K
      have hH3 := hH
      try (have bz := (BZ.out.drew).fr f3.out (fun e => e); have y0 := bz.cell 0; have y1 := bz.cell 1; have y2 := bz.cell 2; have y3 := bz.cell 3; have z0 := bz.frozen 0; have z1 := bz.frozen 1; have z2 := bz.frozen 2; have z3 := bz.frozen 3; have hlz := bz.lt)
      refine wpAnyH_ready (rs := [5, 9]) (by kernel_rfl) (by simp) ?_
      refine AllReadyH.cons rfl (fun K hK => ?_) ?_
      · go_simp
        go_wp2_with (refine (Hcut.out _).mono ?_; rintro e w' ⟨rfl, rfl⟩)
        refine hK.out _ _ ?_ (fun hH => ?_)
        · exact hH
        clear hK K
        refine wpAnyH_take (i := 8) (v := ?_) rfl (by kernel_rfl) (by kernel_rfl) (by kernel_rfl) (fun _ _ _ h => h) (Or.inl ⟨by kernel_rfl, ?_⟩) hH ?_
        rotate_left
        · (intro W hSw; obtain ⟨k1, k2, k3, k4, k5⟩ := hSw; go_simp; try with_reducible rfl)
        try simp only [Act.put, List.getElem_toArray, List.getElem_cons_zero, List.getElem_cons_succ, List.setIfInBounds_toArray, List.set_cons_zero, List.set_cons_succ]
        refine wpAnyH_ready (rs := [9]) (by kernel_rfl) (by simp) ?_
        refine AllReadyH.cons rfl (fun K hK => ?_) ?_
        · go_simp
          refine hK.out _ _ ?_ (fun hH => ?_)
          · exact hH.fr ((Fr.refl (fun _ => False) _).alloc _) (fun e => e)
          clear hK K
          refine wpAnyH_ready (rs := [10]) (by kernel_rfl) (by simp) ?_
          refine AllReadyH.cons rfl (fun K hK => ?_) ?_
          · go_simp
            refine hK.out _ _ ?_ (fun hH => ?_)
            · first | exact hH3.fr ((Fr.refl (fun _ => False) w3).alloc _) (fun e => e) | exact hH3.fr (S := fun q => q = w.heap.size + 1) (((((Fr.refl (fun q => q = w.heap.size + 1) w3).setCell (p := ⟨w.heap.size + 1, 0, none⟩) (.inl rfl) (.int .u32 ka)).setCell (p := ⟨w.heap.size + 1, 1, none⟩) (.inl rfl) (.int .u32 kb)).setCell (p := ⟨w.heap.size + 1, 2, none⟩) (.inl rfl) (.slice A (min ln 20) cp)).setCell (p := ⟨w.heap.size + 1, 3, none⟩) (.inl rfl) (.int .i64 ct)) (fun e => absurd e (by omega))
            clear hK K
            refine wpAnyH_done (by kernel_rfl) ?_ _
            go_wp2_with fail
            go_meet
            first
              | (have _ := bz; exact ⟨w.heap.size + 1, rfl, by omega, Lib.hid ⟨(((bz.set_ 0 (.int .u32 ka)).set_ 1 (.int .u32 kb)).set_ 2 (.slice A (min ln 20) cp)).set_ 3 (.int .i64 ct), ((((((((Fr.refl (fun _ => False) _).alloc _).drew).tr f3.out).setCell (p := ⟨w.heap.size + 1, 0, none⟩) (.inr (Nat.le_of_eq HS1.out)) _).setCell (p := ⟨w.heap.size + 1, 1, none⟩) (.inr (Nat.le_of_eq HS1.out)) _).setCell (p := ⟨w.heap.size + 1, 2, none⟩) (.inr (Nat.le_of_eq HS1.out)) _).setCell (p := ⟨w.heap.size + 1, 3, none⟩) (.inr (Nat.le_of_eq HS1.out)) _)⟩⟩)
              | exact ⟨w3.heap.size, rfl, by have := f3.out.size; have e := HS1.out; have : (w.alloc (.cells #[.int .i64 1, .int .i64 ct, .int .u32 a0, .int .u32 a1, .int .u32 b0, .int .u32 b1, .slice A ln cp, .slice pA pl pc] 47)).drew.heap.size = w.heap.size + 1 := e; omega, Lib.hid ⟨Blk.new w3 34 _, ((((Fr.refl (fun _ => False) _).drew).tr f3.out).alloc _)⟩⟩
          exact AllReadyH.nil
        exact AllReadyH.nil
      refine AllReadyH.cons rfl (fun K hK => ?_) ?_
      · go_simp
        refine hK.out _ _ ?_ (fun hH => ?_)
        · exact hH.fr ((Fr.refl (fun _ => False) _).alloc _) (fun e => e)
        clear hK K
        refine wpAnyH_ready (rs := [5]) (by kernel_rfl) (by simp) ?_
        refine AllReadyH.cons rfl (fun K hK => ?_) ?_
        · go_simp
          go_wp2_with (refine (Hcut.out _).mono ?_; rintro e w' ⟨rfl, rfl⟩)
          refine hK.out _ _ ?_ (fun hH => ?_)
          · exact hH
          clear hK K
          refine wpAnyH_take (i := 8) (v := ?_) rfl (by kernel_rfl) (by kernel_rfl) (by kernel_rfl) (fun _ _ _ h => h) (Or.inl ⟨by kernel_rfl, ?_⟩) hH ?_
          rotate_left
          · (intro W hSw; obtain ⟨k1, k2, k3, k4, k5⟩ := hSw; go_simp; try with_reducible rfl)
          try simp only [Act.put, List.getElem_toArray, List.getElem_cons_zero, List.getElem_cons_succ, List.setIfInBounds_toArray, List.set_cons_zero, List.set_cons_succ]
          refine wpAnyH_ready (rs := [10]) (by kernel_rfl) (by simp) ?_
          refine AllReadyH.cons rfl (fun K hK => ?_) ?_
          · go_simp
            refine hK.out _ _ ?_ (fun hH => ?_)
            · first | exact hH3.fr ((Fr.refl (fun _ => False) w3).alloc _) (fun e => e) | exact hH3.fr (S := fun q => q = w.heap.size + 1) (((((Fr.refl (fun q => q = w.heap.size + 1) w3).setCell (p := ⟨w.heap.size + 1, 0, none⟩) (.inl rfl) (.int .u32 ka)).setCell (p := ⟨w.heap.size + 1, 1, none⟩) (.inl rfl) (.int .u32 kb)).setCell (p := ⟨w.heap.size + 1, 2, none⟩) (.inl rfl) (.slice A (min ln 20) cp)).setCell (p := ⟨w.heap.size + 1, 3, none⟩) (.inl rfl) (.int .i64 ct)) (fun e => absurd e (by omega))
            clear hK K
            refine wpAnyH_done (by kernel_rfl) ?_ _
            go_wp2_with fail
            go_meet
            first
              | (have _ := bz; exact ⟨w.heap.size + 1, rfl, by omega, Lib.hid ⟨(((bz.set_ 0 (.int .u32 ka)).set_ 1 (.int .u32 kb)).set_ 2 (.slice A (min ln 20) cp)).set_ 3 (.int .i64 ct), ((((((((Fr.refl (fun _ => False) _).alloc _).drew).tr f3.out).setCell (p := ⟨w.heap.size + 1, 0, none⟩) (.inr (Nat.le_of_eq HS1.out)) _).setCell (p := ⟨w.heap.size + 1, 1, none⟩) (.inr (Nat.le_of_eq HS1.out)) _).setCell (p := ⟨w.heap.size + 1, 2, none⟩) (.inr (Nat.le_of_eq HS1.out)) _).setCell (p := ⟨w.heap.size + 1, 3, none⟩) (.inr (Nat.le_of_eq HS1.out)) _)⟩⟩)
              | exact ⟨w3.heap.size, rfl, by have := f3.out.size; have e := HS1.out; have : (w.alloc (.cells #[.int .i64 1, .int .i64 ct, .int .u32 a0, .int .u32 a1, .int .u32 b0, .int .u32 b1, .slice A ln cp, .slice pA pl pc] 47)).drew.heap.size = w.heap.size + 1 := e; omega, Lib.hid ⟨Blk.new w3 34 _, ((((Fr.refl (fun _ => False) _).drew).tr f3.out).alloc _)⟩⟩
          exact AllReadyH.nil
        exact AllReadyH.nil
      exact AllReadyH.nil
    refine AllReadyH.cons rfl (fun K hK => ?_) ?_
    · go_simp
      refine hK.out _ _ ?_ (fun hH => ?_)
      · exact hH.fr ((Fr.refl (fun _ => False) _).alloc _) (fun e => e)
      clear hK K
      refine wpAnyH_ready (rs := [2]) (by kernel_rfl) (by simp) ?_
      refine AllReadyH.cons rfl (fun K hK => ?_) ?_
      · go_simp
        go_wp2_with (refine (KA.out _).mono ?_; rintro e w3 ⟨rfl, f3⟩)
        refine hK.out _ _ ?_ (fun hH => ?_)
        · exact hH.fr f3.out (fun e => e)
        clear hK K
        have hH3 := hH
        try (have bz := (BZ.out.drew).fr f3.out (fun e => e); have y0 := bz.cell 0; have y1 := bz.cell 1; have y2 := bz.cell 2; have y3 := bz.cell 3; have z0 := bz.frozen 0; have z1 := bz.frozen 1; have z2 := bz.frozen 2; have z3 := bz.frozen 3; have hlz := bz.lt)
        refine wpAnyH_ready (rs := [5]) (by kernel_rfl) (by simp) ?_
        refine AllReadyH.cons rfl (fun K hK => ?_) ?_
        · go_simp
          go_wp2_with (refine (Hcut.out _).mono ?_; rintro e w' ⟨rfl, rfl⟩)
          refine hK.out _ _ ?_ (fun hH => ?_)
          · exact hH
          clear hK K
          refine wpAnyH_take (i := 8) (v := ?_) rfl (by kernel_rfl) (by kernel_rfl) (by kernel_rfl) (fun _ _ _ h => h) (Or.inl ⟨by kernel_rfl, ?_⟩) hH ?_
          rotate_left
          · (intro W hSw; obtain ⟨k1, k2, k3, k4, k5⟩ := hSw; go_simp; try with_reducible rfl)
          try simp only [Act.put, List.getElem_toArray, List.getElem_cons_zero, List.getElem_cons_succ, List.setIfInBounds_toArray, List.set_cons_zero, List.set_cons_succ]
          refine wpAnyH_ready (rs := [10]) (by kernel_rfl) (by simp) ?_
          refine AllReadyH.cons rfl (fun K hK => ?_) ?_
          · go_simp
            refine hK.out _ _ ?_ (fun hH => ?_)
            · first | exact hH3.fr ((Fr.refl (fun _ => False) w3).alloc _) (fun e => e) | exact hH3.fr (S := fun q => q = w.heap.size + 1) (((((Fr.refl (fun q => q = w.heap.size + 1) w3).setCell (p := ⟨w.heap.size + 1, 0, none⟩) (.inl rfl) (.int .u32 ka)).setCell (p := ⟨w.heap.size + 1, 1, none⟩) (.inl rfl) (.int .u32 kb)).setCell (p := ⟨w.heap.size + 1, 2, none⟩) (.inl rfl) (.slice A (min ln 20) cp)).setCell (p := ⟨w.heap.size + 1, 3, none⟩) (.inl rfl) (.int .i64 ct)) (fun e => absurd e (by omega))
            clear hK K
            refine wpAnyH_done (by kernel_rfl) ?_ _
            go_wp2_with fail
            go_meet
            first
              | (have _ := bz; exact ⟨w.heap.size + 1, rfl, by omega, Lib.hid ⟨(((bz.set_ 0 (.int .u32 ka)).set_ 1 (.int .u32 kb)).set_ 2 (.slice A (min ln 20) cp)).set_ 3 (.int .i64 ct), ((((((((Fr.refl (fun _ => False) _).alloc _).drew).tr f3.out).setCell (p := ⟨w.heap.size + 1, 0, none⟩) (.inr (Nat.le_of_eq HS1.out)) _).setCell (p := ⟨w.heap.size + 1, 1, none⟩) (.inr (Nat.le_of_eq HS1.out)) _).setCell (p := ⟨w.heap.size + 1, 2, none⟩) (.inr (Nat.le_of_eq HS1.out)) _).setCell (p := ⟨w.heap.size + 1, 3, none⟩) (.inr (Nat.le_of_eq HS1.out)) _)⟩⟩)
              | exact ⟨w3.heap.size, rfl, by have := f3.out.size; have e := HS1.out; have : (w.alloc (.cells #[.int .i64 1, .int .i64 ct, .int .u32 a0, .int .u32 a1, .int .u32 b0, .int .u32 b1, .slice A ln cp, .slice pA pl pc] 47)).drew.heap.size = w.heap.size + 1 := e; omega, Lib.hid ⟨Blk.new w3 34 _, ((((Fr.refl (fun _ => False) _).drew).tr f3.out).alloc _)⟩⟩
          exact AllReadyH.nil
        exact AllReadyH.nil
      exact AllReadyH.nil
    exact AllReadyH.nil
  case rest =>
    obtain ⟨gb, rfl, hgb, hX⟩ := hcut
    obtain ⟨bb, fb⟩ := hX.out
    have bx2 := BX.out.fr fb (fun e => e)
    have x2 : wc.cell? ⟨w.heap.size, 2, none⟩ = some (.int .u32 a0) := bx2.cell 2
    have x3 : wc.cell? ⟨w.heap.size, 3, none⟩ = some (.int .u32 a1) := bx2.cell 3
    go_wp2_with fail
    refine (KP.out _).mono ?_
    rintro e w4 ⟨rfl, f4⟩
    obtain ⟨m, hm⟩ : ∃ q, min ln 20 = q := ⟨_, rfl⟩
    have hm20 : m ≤ 20 := by omega
    have hml : m ≤ ln := by omega
    rw [hm] at bb
    obtain ⟨code, hcode⟩ : ∃ q, zs.take m = q := ⟨_, rfl⟩
    have FW5 : Hid (Fr (fun _ => False) w (w4.alloc (.cells #[.int .u32 ka, .int .u32 kb] 44))) := Lib.hid (((F1.out.tr fb).tr f4.out).alloc _)
    have hICode : Hid (∀ W, Fr (fun q => ¬ KS q) w W → IntsAt .u8 W B A m code) := Lib.hid (fun W fW => by
      rw [← hcode]
      exact (HI.out W fW).take hml)
    have HCL : Hid (code.length = m ∧ ∀ z ∈ code, 0 ≤ z ∧ z < 256) := Lib.hid (by
      rw [← hcode]
      have hI0 := HI.out w (Fr.refl _ _)
      refine ⟨by rw [List.length_take]; have := hI0.1; omega, fun z hz => ?_⟩
      obtain ⟨q, hq, rfl⟩ := List.getElem_of_mem (List.mem_of_mem_take hz)
      have h1 := wf_u8 (hI0.2.1 q (by have := hI0.1; omega))
      rw [List.getD_eq_getElem?_getD, List.getElem?_eq_getElem hq] at h1
      have h2 : (some zs[q]).getD 0 = zs[q] := rfl
      rw [h2] at h1
      omega)
    obtain ⟨sc, hsc⟩ : ∃ q, str code = q := ⟨_, rfl⟩
    have HSC := Lib.hid hsc
    have HCV : Hid (∀ W, Fr (fun q => ¬ KS q) w W → (convert 22 9 (.slice A m cp)).run Try.prog W = .ok (.string sc) W) := Lib.hid (fun W fW => by rw [← hsc]; exact str_of_ints (hICode.out W fW))
    have b4 := ((bb.fr f4.out (fun e => e)).alloc (.cells #[.int .u32 ka, .int .u32 kb] 44))
    have bx4 := ((bx2.fr f4.out (fun e => e)).alloc (.cells #[.int .u32 ka, .int .u32 kb] 44))
    have bp := Blk.new w4 44 #[.int .u32 ka, .int .u32 kb]
    have hS5 : S5 KS w w.heap.size gb w4.heap.size ka kb A m cp ct (w4.alloc (.cells #[.int .u32 ka, .int .u32 kb] 44)) := ⟨bx4.cell 1, ⟨b4.cell 0, b4.cell 1, b4.cell 2, b4.cell 3⟩, ⟨bp.cell 0, bp.cell 1⟩, FW5.out.mono (fun _ _ e => e.elim), bx4.lt, b4.lt, bp.lt⟩
    have hS6 : S5 KS w w.heap.size gb w4.heap.size ka kb A m cp ct (w4.alloc (.cells #[.int .u32 ka, .int .u32 kb] 44)).drew := hS5.fr ((Fr.refl (fun _ => False) _).drew) (fun e => e) (fun e => e) (fun e => e) (fun q _ e => e.elim)
    clear hS5
    have hg4 : w.heap.size < w4.heap.size := by
      have h1 := f4.out.size
      have h2 := fb.size
      have h3 := HS1.out
      omega
    have HLOW : Hid (∀ q, s.own gc q ∨ d.own gd q → q < w.heap.size) := Lib.hid (fun q hq => hq.elim (H.out.cc.low q) (H.out.dd.low q))
    have HLC : Hid (∀ q, s.own gc q ∨ d.own gd q → ¬ KS q) := Lib.hid H.out.lo
    have DW5 := Lib.hid (H.out.fr0 FW5.out)
    have hkok : Ky.Ok (ka, kb) := by unfold Ky.Ok; exact ⟨by show 0 ≤ ka ∧ _; omega, by show 0 ≤ kb ∧ _; omega⟩
    have HK := Lib.hid hkok
    clear x2 x3 bb bx2 b4 bx4 bp hcode hsc hX fb hkok
    by_cases hok : 1 ≤ ct ∧ code ≠ []
    · have HOKC := Lib.hid hok
      have HP1 : Hid (Calls Try.prog 11 #[.pointer (some ⟨gc, 0, none⟩), .agg #[.int .u32 ka, .int .u32 kb, .slice A m cp, .int .i64 ct]] (w4.alloc (.cells #[.int .u32 ka, .int .u32 kb] 44)).drew fun e w' => e = .returned (.bool true) ∧ Hid (∃ b A2 c2 gm2, b.k = (ka, kb) ∧ b.code = code ∧ b.ct = ct ∧ Duo KS w' gc gd (s.put b A2 c2 gm2) d) ∧ Hid (Fr (s.own gc) (w4.alloc (.cells #[.int .u32 ka, .int .u32 kb] 44)).drew w')) := Lib.hid (by
        have hD := DW5.out.fr0 ((Fr.refl _ _).drew)
        have hr := intsAt_reads (hICode.out (w4.alloc (.cells #[.int .u32 ka, .int .u32 kb] 44)).drew ((FW5.out.mono (S' := fun q => ¬ KS q) (fun _ _ e => e.elim)).drew))
        exact put_both1 hD ka kb code ct A m cp HCL.out.1 (hr.more (Nat.le_trans hBw FW5.out.size)) HK.out ⟨HOKC.out.1, ct1⟩ ⟨HOKC.out.2, by have := HCL.out.1; omega, HCL.out.2⟩ (by omega))
      have HPX : Hid (∀ w6, Hid (∃ b A2 c2 gm2, b.k = (ka, kb) ∧ b.code = code ∧ b.ct = ct ∧ Duo KS w6 gc gd (s.put b A2 c2 gm2) d) → Hid (Fr (s.own gc) (w4.alloc (.cells #[.int .u32 ka, .int .u32 kb] 44)).drew w6) → Calls Try.prog 32 #[.pointer (some ⟨gd, 0, none⟩), .agg #[.int .u32 ka, .int .u32 kb, .string sc, .int .i64 ct, .slice none 0 0]] w6 fun e w' => e = .returned (.bool true) ∧ Hid (DoP KS w gc gd s d (.returned (.bool true)) w') ∧ Hid (Fr (d.own gd) w6 w')) := Lib.hid (fun w6 hb6 f6 => by
        obtain ⟨b, A2, c2, gm2, e1, e2, e3, hD⟩ := hb6.out
        exact put_both2 (W0 := w) HS.out H.out.cc.ok hD (by rw [e1]; exact HK.out) (by rw [e3]; exact ⟨HOKC.out.1, ct1⟩) (by rw [e2]; exact HOKC.out.2) (by rw [HS.out.fl]; omega) ((FW5.out.drew.mono (fun _ _ e => e.elim)).tr (f6.out.mono (fun q _ e => .inl e))) ka kb ct sc e1 (by rw [e2]; exact HSC.out) e3)
      clear hok
      go_upto_region 5 with (fail)
      refine wp_region_held_drew (S := S5 KS w w.heap.size gb w4.heap.size ka kb A m cp ct) (by kernel_rfl) (hS6) (fun hH => ?_)
      refine wpAnyH_take (i := 0) (v := ?_) rfl (by kernel_rfl) (by kernel_rfl) (by kernel_rfl) (fun _ _ _ h => h) (Or.inl ⟨by kernel_rfl, ?_⟩) hH ?_
      rotate_left
      · (intro W hSw; obtain ⟨k1, ⟨k2, k3, k4, k5⟩, ⟨k6, k7⟩, k8, k9, k10, k11⟩ := hSw; have k12 := HCV.out W k8; clear k8; go_simp; try with_reducible rfl)
      refine wpAnyH_take (i := 1) (v := ?_) rfl (by kernel_rfl) (by kernel_rfl) (by kernel_rfl) (fun _ _ _ h => h) (Or.inl ⟨by kernel_rfl, ?_⟩) hH ?_
      rotate_left
      · (intro W hSw; obtain ⟨k1, ⟨k2, k3, k4, k5⟩, ⟨k6, k7⟩, k8, k9, k10, k11⟩ := hSw; have k12 := HCV.out W k8; clear k8; go_simp; try with_reducible rfl)
      refine wpAnyH_take (i := 3) (v := ?_) rfl (by kernel_rfl) (by kernel_rfl) (by kernel_rfl) (fun _ _ _ h => h) (Or.inl ⟨by kernel_rfl, ?_⟩) hH ?_
      rotate_left
      · (intro W hSw; obtain ⟨k1, ⟨k2, k3, k4, k5⟩, ⟨k6, k7⟩, k8, k9, k10, k11⟩ := hSw; have k12 := HCV.out W k8; clear k8; go_simp; try with_reducible rfl)
      try simp only [Act.put, List.getElem_toArray, List.getElem_cons_zero, List.getElem_cons_succ, List.setIfInBounds_toArray, List.set_cons_zero, List.set_cons_succ]
      refine wpAnyH_take (i := 4) (v := ?_) rfl (by kernel_rfl) (by kernel_rfl) (by kernel_rfl) (fun _ _ _ h => h) (Or.inl ⟨by kernel_rfl, ?_⟩) hH ?_
      rotate_left
      · (intro W hSw; obtain ⟨k1, ⟨k2, k3, k4, k5⟩, ⟨k6, k7⟩, k8, k9, k10, k11⟩ := hSw; have k12 := HCV.out W k8; clear k8; go_simp; try with_reducible rfl)
      refine wpAnyH_take (i := 5) (v := ?_) rfl (by kernel_rfl) (by kernel_rfl) (by kernel_rfl) (fun _ _ _ h => h) (Or.inl ⟨by kernel_rfl, ?_⟩) hH ?_
      rotate_left
      · (intro W hSw; obtain ⟨k1, ⟨k2, k3, k4, k5⟩, ⟨k6, k7⟩, k8, k9, k10, k11⟩ := hSw; have k12 := HCV.out W k8; clear k8; go_simp; try with_reducible rfl)
      refine wpAnyH_take (i := 6) (v := ?_) rfl (by kernel_rfl) (by kernel_rfl) (by kernel_rfl) (fun _ _ _ h => h) (Or.inl ⟨by kernel_rfl, ?_⟩) hH ?_
      rotate_left
      · (intro W hSw; obtain ⟨k1, ⟨k2, k3, k4, k5⟩, ⟨k6, k7⟩, k8, k9, k10, k11⟩ := hSw; have k12 := HCV.out W k8; clear k8; go_simp; try with_reducible rfl)
      try simp only [Act.put, List.getElem_toArray, List.getElem_cons_zero, List.getElem_cons_succ, List.setIfInBounds_toArray, List.set_cons_zero, List.set_cons_succ]
      refine wpAnyH_take (i := 7) (v := ?_) rfl (by kernel_rfl) (by kernel_rfl) (by kernel_rfl) (fun _ _ _ h => h) (Or.inl ⟨by kernel_rfl, ?_⟩) hH ?_
      rotate_left
      · (intro W hSw; obtain ⟨k1, ⟨k2, k3, k4, k5⟩, ⟨k6, k7⟩, k8, k9, k10, k11⟩ := hSw; have k12 := HCV.out W k8; clear k8; go_simp; try with_reducible rfl)
      refine wpAnyH_take (i := 8) (v := ?_) rfl (by kernel_rfl) (by kernel_rfl) (by kernel_rfl) (fun _ _ _ h => h) (Or.inl ⟨by kernel_rfl, ?_⟩) hH ?_
      rotate_left
      · (intro W hSw; obtain ⟨k1, ⟨k2, k3, k4, k5⟩, ⟨k6, k7⟩, k8, k9, k10, k11⟩ := hSw; have k12 := HCV.out W k8; clear k8; go_simp; try with_reducible rfl)
      refine wpAnyH_take (i := 9) (v := ?_) rfl (by kernel_rfl) (by kernel_rfl) (by kernel_rfl) (fun _ _ _ h => h) (Or.inl ⟨by kernel_rfl, ?_⟩) hH ?_
      rotate_left
      · (intro W hSw; obtain ⟨k1, ⟨k2, k3, k4, k5⟩, ⟨k6, k7⟩, k8, k9, k10, k11⟩ := hSw; have k12 := HCV.out W k8; clear k8; go_simp; try with_reducible rfl)
      try simp only [Act.put, List.getElem_toArray, List.getElem_cons_zero, List.getElem_cons_succ, List.setIfInBounds_toArray, List.set_cons_zero, List.set_cons_succ]
      refine wpAnyH_take (i := 10) (v := ?_) rfl (by kernel_rfl) (by kernel_rfl) (by kernel_rfl) (fun _ _ _ h => h) (Or.inl ⟨by kernel_rfl, ?_⟩) hH ?_
      rotate_left
      · (intro W hSw; obtain ⟨k1, ⟨k2, k3, k4, k5⟩, ⟨k6, k7⟩, k8, k9, k10, k11⟩ := hSw; have k12 := HCV.out W k8; clear k8; go_simp; try with_reducible rfl)
      refine wpAnyH_take (i := 11) (v := ?_) rfl (by kernel_rfl) (by kernel_rfl) (by kernel_rfl) (fun _ _ _ h => h) (Or.inl ⟨by kernel_rfl, ?_⟩) hH ?_
      rotate_left
      · (intro W hSw; obtain ⟨k1, ⟨k2, k3, k4, k5⟩, ⟨k6, k7⟩, k8, k9, k10, k11⟩ := hSw; have k12 := HCV.out W k8; clear k8; go_simp; try with_reducible rfl)
      refine wpAnyH_take (i := 12) (v := ?_) rfl (by kernel_rfl) (by kernel_rfl) (by kernel_rfl) (fun _ _ _ h => h) (Or.inl ⟨by kernel_rfl, ?_⟩) hH ?_
      rotate_left
      · (intro W hSw; obtain ⟨k1, ⟨k2, k3, k4, k5⟩, ⟨k6, k7⟩, k8, k9, k10, k11⟩ := hSw; have k12 := HCV.out W k8; clear k8; go_simp; try with_reducible rfl)
      try simp only [Act.put, List.getElem_toArray, List.getElem_cons_zero, List.getElem_cons_succ, List.setIfInBounds_toArray, List.set_cons_zero, List.set_cons_succ]
      refine wpAnyH_take (i := 13) (v := ?_) rfl (by kernel_rfl) (by kernel_rfl) (by kernel_rfl) (fun _ _ _ h => h) (Or.inl ⟨by kernel_rfl, ?_⟩) hH ?_
      rotate_left
      · (intro W hSw; obtain ⟨k1, ⟨k2, k3, k4, k5⟩, ⟨k6, k7⟩, k8, k9, k10, k11⟩ := hSw; have k12 := HCV.out W k8; clear k8; go_simp; try with_reducible rfl)
      try simp only [Act.put, List.getElem_toArray, List.getElem_cons_zero, List.getElem_cons_succ, List.setIfInBounds_toArray, List.set_cons_zero, List.set_cons_succ]
      refine wpAnyH_ready (rs := [2]) (by kernel_rfl) (by simp) ?_
      refine AllReadyH.cons rfl (fun K hK => ?_) ?_
      · go_simp
        go_wp2_with (refine (HP1.out).mono ?_; rintro e w6 ⟨rfl, hb6, f6⟩; have HP2 : Hid (Calls Try.prog 32 #[.pointer (some ⟨gd, 0, none⟩), .agg #[.int .u32 ka, .int .u32 kb, .string sc, .int .i64 ct, .slice none 0 0]] w6 fun e w' => e = .returned (.bool true) ∧ Hid (DoP KS w gc gd s d (.returned (.bool true)) w') ∧ Hid (Fr (d.own gd) w6 w')) := Lib.hid (HPX.out w6 hb6 f6))
        refine hK.out _ _ ?_ (fun hH => ?_)
        · exact hH.fr f6.out (fun e => by have := HLOW.out _ (.inl e); omega) (fun e => by have := HLOW.out _ (.inl e); omega) (fun e => by have := HLOW.out _ (.inl e); omega) (fun q _ e => HLC.out q (.inl e))
        clear hK K
        refine wpAnyH_ready (rs := [14]) (by kernel_rfl) (by simp) ?_
        refine AllReadyH.cons rfl (fun K hK => ?_) ?_
        · go_simp
          go_wp2_with (refine (HP2.out).mono ?_; rintro e w7 ⟨rfl, hE, f7⟩)
          refine hK.out _ _ ?_ (fun hH => ?_)
          · exact hH.fr f7.out (fun e => by have := HLOW.out _ (.inr e); omega) (fun e => by have := HLOW.out _ (.inr e); omega) (fun e => by have := HLOW.out _ (.inr e); omega) (fun q _ e => HLC.out q (.inr e))
          clear hK K
          refine wpAnyH_take (i := 15) (v := ?_) rfl (by kernel_rfl) (by kernel_rfl) (by kernel_rfl) (fun _ _ _ h => h) (Or.inl ⟨by kernel_rfl, ?_⟩) hH ?_
          rotate_left
          · (intro W hSw; obtain ⟨k1, ⟨k2, k3, k4, k5⟩, ⟨k6, k7⟩, k8, k9, k10, k11⟩ := hSw; have k12 := HCV.out W k8; clear k8; go_simp; try with_reducible rfl)
          refine wpAnyH_take (i := 16) (v := ?_) rfl (by kernel_rfl) (by kernel_rfl) (by kernel_rfl) (fun _ _ _ h => h) (Or.inl ⟨by kernel_rfl, ?_⟩) hH ?_
          rotate_left
          · (intro W hSw; obtain ⟨k1, ⟨k2, k3, k4, k5⟩, ⟨k6, k7⟩, k8, k9, k10, k11⟩ := hSw; have k12 := HCV.out W k8; clear k8; go_simp; try with_reducible rfl)
          refine wpAnyH_done (by kernel_rfl) ?_ _
          go_wp2_with fail
          go_ret
          exact hE.out
        exact AllReadyH.nil
      exact AllReadyH.nil
    · have HNOK := Lib.hid hok
      have HN1 : Hid (Calls Try.prog 11 #[.pointer (some ⟨gc, 0, none⟩), .agg #[.int .u32 ka, .int .u32 kb, .slice A m cp, .int .i64 ct]] (w4.alloc (.cells #[.int .u32 ka, .int .u32 kb] 44)).drew fun e w' => e = .returned (.bool false) ∧ Hid (Fr (fun _ => False) (w4.alloc (.cells #[.int .u32 ka, .int .u32 kb] 44)).drew w')) := Lib.hid ((put_no _ gc ka kb A m cp ct (by
        by_cases h1 : ct < 1
        · exact .inl h1
        · right
          have h2 : code = [] := Classical.byContradiction fun h3 => HNOK.out ⟨by omega, h3⟩
          have := HCL.out.1
          rw [h2] at this
          exact this.symm)).mono fun e w' ⟨g1, g2⟩ => ⟨g1, Lib.hid g2⟩)
      have HN2 : Hid (∀ W, Calls Try.prog 32 #[.pointer (some ⟨gd, 0, none⟩), .agg #[.int .u32 ka, .int .u32 kb, .string sc, .int .i64 ct, .slice none 0 0]] W fun e w' => e = .returned (.bool false) ∧ Hid (Fr (fun _ => False) W w')) := Lib.hid (fun W => by
        by_cases h1 : 1 ≤ ct
        · have h2 : code = [] := Classical.byContradiction fun h3 => HNOK.out ⟨h1, h3⟩
          have h3 : sc = ByteArray.empty := by rw [← HSC.out, h2]; rfl
          exact (rput_no' W gd ka kb sc ct (.inr h3) ⟨ct0, ct1⟩).mono fun e w' ⟨g1, g2⟩ => ⟨g1, Lib.hid g2⟩
        · exact (rput_no' W gd ka kb sc ct (.inl (by omega)) ⟨ct0, ct1⟩).mono fun e w' ⟨g1, g2⟩ => ⟨g1, Lib.hid g2⟩)
      have HEN : Hid (∀ W, Fr (fun _ => False) w W → DoP KS w gc gd s d (.returned (.bool true)) W) := Lib.hid (fun W fW => ⟨rfl, s, d, H.out.fr0 fW, HS.out, rfl, by omega, fW.mono (fun _ _ e => e.elim)⟩)
      clear hok
      go_upto_region 5 with (fail)
      refine wp_region_held_drew (S := S5 KS w w.heap.size gb w4.heap.size ka kb A m cp ct) (by kernel_rfl) (hS6) (fun hH => ?_)
      refine wpAnyH_take (i := 0) (v := ?_) rfl (by kernel_rfl) (by kernel_rfl) (by kernel_rfl) (fun _ _ _ h => h) (Or.inl ⟨by kernel_rfl, ?_⟩) hH ?_
      rotate_left
      · (intro W hSw; obtain ⟨k1, ⟨k2, k3, k4, k5⟩, ⟨k6, k7⟩, k8, k9, k10, k11⟩ := hSw; have k12 := HCV.out W k8; clear k8; go_simp; try with_reducible rfl)
      refine wpAnyH_take (i := 1) (v := ?_) rfl (by kernel_rfl) (by kernel_rfl) (by kernel_rfl) (fun _ _ _ h => h) (Or.inl ⟨by kernel_rfl, ?_⟩) hH ?_
      rotate_left
      · (intro W hSw; obtain ⟨k1, ⟨k2, k3, k4, k5⟩, ⟨k6, k7⟩, k8, k9, k10, k11⟩ := hSw; have k12 := HCV.out W k8; clear k8; go_simp; try with_reducible rfl)
      refine wpAnyH_take (i := 3) (v := ?_) rfl (by kernel_rfl) (by kernel_rfl) (by kernel_rfl) (fun _ _ _ h => h) (Or.inl ⟨by kernel_rfl, ?_⟩) hH ?_
      rotate_left
      · (intro W hSw; obtain ⟨k1, ⟨k2, k3, k4, k5⟩, ⟨k6, k7⟩, k8, k9, k10, k11⟩ := hSw; have k12 := HCV.out W k8; clear k8; go_simp; try with_reducible rfl)
      try simp only [Act.put, List.getElem_toArray, List.getElem_cons_zero, List.getElem_cons_succ, List.setIfInBounds_toArray, List.set_cons_zero, List.set_cons_succ]
      refine wpAnyH_take (i := 4) (v := ?_) rfl (by kernel_rfl) (by kernel_rfl) (by kernel_rfl) (fun _ _ _ h => h) (Or.inl ⟨by kernel_rfl, ?_⟩) hH ?_
      rotate_left
      · (intro W hSw; obtain ⟨k1, ⟨k2, k3, k4, k5⟩, ⟨k6, k7⟩, k8, k9, k10, k11⟩ := hSw; have k12 := HCV.out W k8; clear k8; go_simp; try with_reducible rfl)
      refine wpAnyH_take (i := 5) (v := ?_) rfl (by kernel_rfl) (by kernel_rfl) (by kernel_rfl) (fun _ _ _ h => h) (Or.inl ⟨by kernel_rfl, ?_⟩) hH ?_
      rotate_left
      · (intro W hSw; obtain ⟨k1, ⟨k2, k3, k4, k5⟩, ⟨k6, k7⟩, k8, k9, k10, k11⟩ := hSw; have k12 := HCV.out W k8; clear k8; go_simp; try with_reducible rfl)
      refine wpAnyH_take (i := 6) (v := ?_) rfl (by kernel_rfl) (by kernel_rfl) (by kernel_rfl) (fun _ _ _ h => h) (Or.inl ⟨by kernel_rfl, ?_⟩) hH ?_
      rotate_left
      · (intro W hSw; obtain ⟨k1, ⟨k2, k3, k4, k5⟩, ⟨k6, k7⟩, k8, k9, k10, k11⟩ := hSw; have k12 := HCV.out W k8; clear k8; go_simp; try with_reducible rfl)
      try simp only [Act.put, List.getElem_toArray, List.getElem_cons_zero, List.getElem_cons_succ, List.setIfInBounds_toArray, List.set_cons_zero, List.set_cons_succ]
      refine wpAnyH_take (i := 7) (v := ?_) rfl (by kernel_rfl) (by kernel_rfl) (by kernel_rfl) (fun _ _ _ h => h) (Or.inl ⟨by kernel_rfl, ?_⟩) hH ?_
      rotate_left
      · (intro W hSw; obtain ⟨k1, ⟨k2, k3, k4, k5⟩, ⟨k6, k7⟩, k8, k9, k10, k11⟩ := hSw; have k12 := HCV.out W k8; clear k8; go_simp; try with_reducible rfl)
      refine wpAnyH_take (i := 8) (v := ?_) rfl (by kernel_rfl) (by kernel_rfl) (by kernel_rfl) (fun _ _ _ h => h) (Or.inl ⟨by kernel_rfl, ?_⟩) hH ?_
      rotate_left
      · (intro W hSw; obtain ⟨k1, ⟨k2, k3, k4, k5⟩, ⟨k6, k7⟩, k8, k9, k10, k11⟩ := hSw; have k12 := HCV.out W k8; clear k8; go_simp; try with_reducible rfl)
      refine wpAnyH_take (i := 9) (v := ?_) rfl (by kernel_rfl) (by kernel_rfl) (by kernel_rfl) (fun _ _ _ h => h) (Or.inl ⟨by kernel_rfl, ?_⟩) hH ?_
      rotate_left
      · (intro W hSw; obtain ⟨k1, ⟨k2, k3, k4, k5⟩, ⟨k6, k7⟩, k8, k9, k10, k11⟩ := hSw; have k12 := HCV.out W k8; clear k8; go_simp; try with_reducible rfl)
      try simp only [Act.put, List.getElem_toArray, List.getElem_cons_zero, List.getElem_cons_succ, List.setIfInBounds_toArray, List.set_cons_zero, List.set_cons_succ]
      refine wpAnyH_take (i := 10) (v := ?_) rfl (by kernel_rfl) (by kernel_rfl) (by kernel_rfl) (fun _ _ _ h => h) (Or.inl ⟨by kernel_rfl, ?_⟩) hH ?_
      rotate_left
      · (intro W hSw; obtain ⟨k1, ⟨k2, k3, k4, k5⟩, ⟨k6, k7⟩, k8, k9, k10, k11⟩ := hSw; have k12 := HCV.out W k8; clear k8; go_simp; try with_reducible rfl)
      refine wpAnyH_take (i := 11) (v := ?_) rfl (by kernel_rfl) (by kernel_rfl) (by kernel_rfl) (fun _ _ _ h => h) (Or.inl ⟨by kernel_rfl, ?_⟩) hH ?_
      rotate_left
      · (intro W hSw; obtain ⟨k1, ⟨k2, k3, k4, k5⟩, ⟨k6, k7⟩, k8, k9, k10, k11⟩ := hSw; have k12 := HCV.out W k8; clear k8; go_simp; try with_reducible rfl)
      refine wpAnyH_take (i := 12) (v := ?_) rfl (by kernel_rfl) (by kernel_rfl) (by kernel_rfl) (fun _ _ _ h => h) (Or.inl ⟨by kernel_rfl, ?_⟩) hH ?_
      rotate_left
      · (intro W hSw; obtain ⟨k1, ⟨k2, k3, k4, k5⟩, ⟨k6, k7⟩, k8, k9, k10, k11⟩ := hSw; have k12 := HCV.out W k8; clear k8; go_simp; try with_reducible rfl)
      try simp only [Act.put, List.getElem_toArray, List.getElem_cons_zero, List.getElem_cons_succ, List.setIfInBounds_toArray, List.set_cons_zero, List.set_cons_succ]
      refine wpAnyH_take (i := 13) (v := ?_) rfl (by kernel_rfl) (by kernel_rfl) (by kernel_rfl) (fun _ _ _ h => h) (Or.inl ⟨by kernel_rfl, ?_⟩) hH ?_
      rotate_left
      · (intro W hSw; obtain ⟨k1, ⟨k2, k3, k4, k5⟩, ⟨k6, k7⟩, k8, k9, k10, k11⟩ := hSw; have k12 := HCV.out W k8; clear k8; go_simp; try with_reducible rfl)
      try simp only [Act.put, List.getElem_toArray, List.getElem_cons_zero, List.getElem_cons_succ, List.setIfInBounds_toArray, List.set_cons_zero, List.set_cons_succ]
      refine wpAnyH_ready (rs := [2]) (by kernel_rfl) (by simp) ?_
      refine AllReadyH.cons rfl (fun K hK => ?_) ?_
      · go_simp
        go_wp2_with (refine (HN1.out).mono ?_; rintro e w6 ⟨rfl, f6⟩)
        refine hK.out _ _ ?_ (fun hH => ?_)
        · exact hH.fr f6.out (fun e => e) (fun e => e) (fun e => e) (fun q _ e => e.elim)
        clear hK K
        refine wpAnyH_ready (rs := [14]) (by kernel_rfl) (by simp) ?_
        refine AllReadyH.cons rfl (fun K hK => ?_) ?_
        · go_simp
          go_wp2_with (refine (HN2.out _).mono ?_; rintro e w7 ⟨rfl, f7⟩)
          refine hK.out _ _ ?_ (fun hH => ?_)
          · exact hH.fr f7.out (fun e => e) (fun e => e) (fun e => e) (fun q _ e => e.elim)
          clear hK K
          refine wpAnyH_take (i := 15) (v := ?_) rfl (by kernel_rfl) (by kernel_rfl) (by kernel_rfl) (fun _ _ _ h => h) (Or.inl ⟨by kernel_rfl, ?_⟩) hH ?_
          rotate_left
          · (intro W hSw; obtain ⟨k1, ⟨k2, k3, k4, k5⟩, ⟨k6, k7⟩, k8, k9, k10, k11⟩ := hSw; have k12 := HCV.out W k8; clear k8; go_simp; try with_reducible rfl)
          refine wpAnyH_take (i := 16) (v := ?_) rfl (by kernel_rfl) (by kernel_rfl) (by kernel_rfl) (fun _ _ _ h => h) (Or.inl ⟨by kernel_rfl, ?_⟩) hH ?_
          rotate_left
          · (intro W hSw; obtain ⟨k1, ⟨k2, k3, k4, k5⟩, ⟨k6, k7⟩, k8, k9, k10, k11⟩ := hSw; have k12 := HCV.out W k8; clear k8; go_simp; try with_reducible rfl)
          refine wpAnyH_done (by kernel_rfl) ?_ _
          go_wp2_with fail
          go_ret
          exact HEN.out _ (((FW5.out.drew).tr f6.out).tr f7.out)
        exact AllReadyH.nil
      exact AllReadyH.nil
end Go.Proofs.Ytfjlgdafakbdoaa.Ca
