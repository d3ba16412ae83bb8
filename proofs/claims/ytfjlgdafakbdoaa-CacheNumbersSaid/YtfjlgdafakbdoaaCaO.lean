/- Law 23: known. -/
import Derived.Test.YtfjlgdafakbdoaaCaN
import Derived.Test.YtfjlgdafakbdoaaCaH
namespace Go.Proofs.Ytfjlgdafakbdoaa.Ca
open Go.RowKit Mz Go.Maps
set_option linter.unusedVariables false
set_option linter.unusedSimpArgs false
set_option maxHeartbeats 4000000

/-- none of these blocks is a cache's -/
def OwnK (K : Nat → Prop) (g : Nat) (s : Cs) : Prop := ∀ q, s.own g q → ¬ K q
theorem OwnK.wr {K : Nat → Prop} {g : Nat} {s : Cs} (h : OwnK K g s) : ∀ q, s.wr g q → ¬ K q := fun q e => h q (.inl e)
theorem Cch.low {w : World} {g : Nat} {s : Cs} (h : Cch w g s) : ∀ q, s.own g q → q < w.heap.size := fun q e => by
  have hk : ∀ t, Ca.srt w q = some t → q < w.heap.size := fun t e => by
    rcases Nat.lt_or_ge q w.heap.size with h | h
    · exact h
    · simp [Ca.srt, Array.getElem?_eq_none h] at e
  obtain ⟨t1, t2, t3, t4, t5⟩ := h.srt
  rcases e with (e | e | e | ⟨p, hp, e⟩) | ⟨x, hx, e⟩
  · exact hk _ (e ▸ t1)
  · exact hk _ (t3 q e)
  · exact hk _ (e ▸ t2)
  · exact hk _ (t5 p hp q e)
  · exact hk _ (t4 x hx q e)
theorem own_new {K : Nat → Prop} {g gm : Nat} {n : Int} (h1 : ¬ K g) (h2 : ¬ K gm) : OwnK K g (Cs.new n gm) := by
  rintro q ((e | e | e | ⟨p, hp, e⟩) | ⟨x, hx, e⟩)
  · rw [e]; exact h1
  · exact absurd e (by simp [Cs.new, ab])
  · have e : q = gm := e
    rw [e]; exact h2
  · exact absurd hp (by simp [Cs.new])
  · exact absurd hx (by simp [Cs.new])
/-- what Put leaves a statement's own cache -/
def PutK (K : Nat → Prop) (w : World) (g : Nat) (s : Cs) (mk : Option Addr → Nat → Bk) (e : Ending) (w' : World) : Prop :=
  e = .returned (.bool true) ∧ ∃ A' c' A2 c2 gm2, Cch w' g (s.put (mk A' c') A2 c2 gm2) ∧ OwnK K g (s.put (mk A' c') A2 c2 gm2) ∧ Fr (fun q => ¬ K q) w w'
theorem put_k (K : Nat → Prop) (w : World) (g : Nat) (s : Cs) (h : Cch w g s) (ho : OwnK K g s) (hb : ∀ q, K q → q < w.heap.size) (pc pl : Int) (code : List Int) (ct : Int) (A : Option Addr) (c B : Nat) (hr : Reads w B 1 A code.length (code.map (Value.int .u8))) (hB : B ≤ w.heap.size) (hk : Ky.Ok (pc, pl)) (hct : 1 ≤ ct ∧ ct ≤ 9223372036854775807) (hcode : code ≠ [] ∧ code.length ≤ 1000000 ∧ ∀ z ∈ code, 0 ≤ z ∧ z < 256) (hfl : s.fl ≤ 1000000) :
    Calls Try.prog 11 #[.pointer (some ⟨g, 0, none⟩), .agg #[.int .u32 pc, .int .u32 pl, .slice A code.length c, .int .i64 ct]] w (PutK K w g s fun A' c' => ⟨pc, pl, code, ct, A', c'⟩) :=
  (put_any w g s h pc pl code ct A c B hr hB hk hct hcode hfl).mono fun e w' ⟨A', c', A2, c2, gm2, h1, h2, h3, h4⟩ =>
    ⟨h1, A', c', A2, c2, gm2, h2, fun q hq => (h4 q hq).elim (ho q) (fun e hk => by have := hb q hk; omega), h3.mono fun q _ e => ho.wr q e⟩
theorem sx_own {s : Cs} {g q : Nat} (h : s.sx q) : s.own g q := .inl (sx_wr h)
/-- what Drop leaves a statement's own cache -/
def DropK (K : Nat → Prop) (w : World) (g : Nat) (s : Cs) (ps : List Int) (e : Ending) (w' : World) : Prop :=
  e = .returned (.int .i64 (cntG ps s.bl : Nat)) ∧ Cch w' g (s.drop ps) ∧ OwnK K g (s.drop ps) ∧ Fr (fun q => ¬ K q) w w'
theorem drop_k (K : Nat → Prop) (w : World) (g : Nat) (s : Cs) (h : Cch w g s) (ho : OwnK K g s) (ps : List Int) (B np pc : Nat) (pA : Option Addr) (hp : ∀ W, Fr (fun q => ¬ K q) w W → IntsAt .i64 W B pA np ps) (hm : np ≤ maxLen) (hB : B ≤ w.heap.size) :
    Calls Try.prog 19 #[.pointer (some ⟨g, 0, none⟩), .slice pA np pc] w (DropK K w g s ps) :=
  (drop_any w g s h ps B np pc pA (fun W f => hp W (f.mono (fun q _ e => ho q (sx_own e)))) hm hB).mono fun e w' ⟨h1, h2, h3, h4⟩ => ⟨h1, h2, fun q hq => ho q (h4 q hq), h3.mono fun q _ e => ho.wr q e⟩
theorem put_first {n : Int} {gm gm2 : Nat} (b : Bk) (A : Option Addr) (c : Nat) (hn : 1 ≤ n) : (Cs.new n gm).put b A c gm2 = (Cs.new n gm).snoc b A c := by
  unfold Cs.put
  rw [if_neg (by show ¬ (0 ≤ (-1 : Int)); omega), if_neg (by show ¬ (n ≤ ((0 : Nat) : Int)); omega)]
theorem known_any (w : World) : Calls Try.prog 17 #[] w fun e w' => e = .returned (.bool true) ∧ Fr (fun _ => False) w w' := by
  have Hn := Lib.hid (new_yes w 1 (by omega) (by omega))
  go_enter Try.func17, Try.ntmps17
  go_wp2_with fail
  refine (Hn.out).mono ?_
  rintro e w1 ⟨g, gm, rfl, h1, hg1, hgm1, hg2, hgm2, f1⟩
  have o1 : OwnK (fun q => q < w.heap.size ∨ q = w1.heap.size ∨ q = w1.heap.size + 1) g (Cs.new 1 gm) := own_new (by omega) (by omega)
  have fa := (((Fr.refl (fun _ => False) w1).alloc (.cells #[.int .u32 1, .int .u32 2] 31)).alloc (.cells #[.int .u32 3, .int .u32 4] 31)).alloc (.cells #[.int .u8 1] 5)
  have sa : (w1.alloc (.cells #[.int .u32 1, .int .u32 2] 31)).heap.size = w1.heap.size + 1 := by simp
  have sb : ((w1.alloc (.cells #[.int .u32 1, .int .u32 2] 31)).alloc (.cells #[.int .u32 3, .int .u32 4] 31)).heap.size = w1.heap.size + 1 + 1 := by simp
  have ba := ((Blk.new w1 31 #[.int .u32 1, .int .u32 2]).alloc (.cells #[.int .u32 3, .int .u32 4] 31)).alloc (.cells #[.int .u8 1] 5)
  have bb := (Blk.new' (w1.alloc (.cells #[.int .u32 1, .int .u32 2] 31)) 31 #[.int .u32 3, .int .u32 4] sa).alloc (.cells #[.int .u8 1] 5)
  have bd := Blk.new' ((w1.alloc (.cells #[.int .u32 1, .int .u32 2] 31)).alloc (.cells #[.int .u32 3, .int .u32 4] 31)) 5 #[.int .u8 1] sb
  have hs1 := f1.size
  have hsa := fa.size
  have hsz3 : (((w1.alloc (.cells #[.int .u32 1, .int .u32 2] 31)).alloc (.cells #[.int .u32 3, .int .u32 4] 31)).alloc (.cells #[.int .u8 1] 5)).heap.size = w1.heap.size + 1 + 1 + 1 := by simp
  have Hp := Lib.hid (put_k (fun q => q < w.heap.size ∨ q = w1.heap.size ∨ q = w1.heap.size + 1) _ g _ (h1.fr0 fa) o1 (fun q e => by rw [hsz3]; omega) 1 2 [1] 1 (some ⟨w1.heap.size + 1 + 1, 0, none⟩) 1 _ (reads_blk (size := 1) (n := 1) bd rfl) bd.lt (by unfold Ky.Ok; decide) (by decide) (by decide) (by show (0 : Int) ≤ 1000000; omega))
  have FA := Lib.hid (f1.tr fa)
  have BA := Lib.hid ba
  have BB := Lib.hid bb
  clear Hn h1 f1 fa ba bb bd o1 sa sb
  go_wp2_with fail
  refine (Hp.out).mono ?_
  rintro e w2 ⟨rfl, A', c', A2, c2, gm2, h2, o2, f2⟩
  have F2 : Hid (Fr (fun _ => False) w w2) := Lib.hid (FA.out.trans f2 (fun q hq e => e (.inl hq)))
  rw [put_first _ _ _ (by omega)] at h2 o2
  have BA2 := Lib.hid (BA.out.fr f2 (fun e => e (.inr (.inl rfl))))
  have BB2 := Lib.hid (BB.out.fr f2 (fun e => e (.inr (.inr rfl))))
  have hs2 := f2.size
  rw [hsz3] at hs2
  have fb := (Fr.refl (fun _ => False) w2).alloc (.cells #[.int .u8 2] 5)
  have bd := Blk.new w2 5 #[.int .u8 2]
  have Hq := Lib.hid (put_k (fun q => q < w.heap.size ∨ q = w1.heap.size ∨ q = w1.heap.size + 1) _ g _ (h2.fr0 fb) o2 (fun q e => by have := fb.size; omega) 3 4 [2] 1 (some ⟨w2.heap.size, 0, none⟩) 1 _ (reads_blk (size := 1) (n := 1) bd rfl) bd.lt (by unfold Ky.Ok; decide) (by decide) (by decide) (by show (0 : Int) ≤ 1000000; omega))
  have FB := Lib.hid (F2.out.tr fb)
  have BA3 := Lib.hid (BA2.out.fr fb (fun e => e))
  have BB3 := Lib.hid (BB2.out.fr fb (fun e => e))
  have v0 : w2.cell? ⟨w1.heap.size + 1, 0, none⟩ = some (.int .u32 3) := BB2.out.cell 0
  have v1 : w2.cell? ⟨w1.heap.size + 1, 1, none⟩ = some (.int .u32 4) := BB2.out.cell 1
  have hl2 : w1.heap.size + 1 < w2.heap.size := BB2.out.lt
  clear Hp h2 o2 f2 fb bd hsz3
  go_wp2_with fail
  refine (Hq.out).mono ?_
  rintro e w3 ⟨rfl, A3, c3, A4, c4, gm4, h3, o3, f3⟩
  have F3 : Hid (Fr (fun _ => False) w w3) := Lib.hid (FB.out.trans f3 (fun q hq e => e (.inl hq)))
  have BA4 := Lib.hid (BA3.out.fr f3 (fun e => e (.inr (.inl rfl))))
  have BB4 := Lib.hid (BB3.out.fr f3 (fun e => e (.inr (.inr rfl))))
  have hput : ((Cs.new 1 gm).snoc ⟨1, 2, [1], 1, A', c'⟩ A2 c2).put ⟨3, 4, [2], 1, A3, c3⟩ A4 c4 gm4 = ⟨1, [⟨3, 4, [2], 1, A3, c3⟩], A4, c4, gm4, [], 1⟩ := by
    unfold Cs.put
    rw [if_neg (by show ¬ (0 ≤ idx (3, 4) [⟨1, 2, [1], 1, A', c'⟩]); simp [idx, Bk.k]), if_pos (by show (1 : Int) ≤ ((1 : Nat) : Int); omega)]
    rfl
  rw [hput] at h3 o3
  generalize hs : (⟨1, [⟨3, 4, [2], 1, A3, c3⟩], A4, c4, gm4, [], 1⟩ : Cs) = s at *
  have hidx : idx (1, 2) s.bl < 0 := by rw [← hs]; simp [idx, Bk.k]
  have hbl : s.bl.length = 1 := by rw [← hs]; rfl
  have hfl : s.fl = 1 := by rw [← hs]
  have Hf : Hid (Calls Try.prog 14 #[.pointer (some ⟨g, 0, none⟩), .agg #[.int .u32 1, .int .u32 2]] w3 fun e w' => e = .returned (.tuple #[.agg noB, .bool false]) ∧ Fr (fun _ => False) w3 w') := Lib.hid (find_no w3 g s h3 (1, 2) hidx)
  unfold noB at Hf
  have H3 := Lib.hid h3
  have O3 := Lib.hid o3
  have u0 : w3.cell? ⟨w1.heap.size, 0, none⟩ = some (.int .u32 1) := BA4.out.cell 0
  have u1 : w3.cell? ⟨w1.heap.size, 1, none⟩ = some (.int .u32 2) := BA4.out.cell 1
  have hl3 := BA4.out.lt
  clear Hq h3 o3 f3 v0 v1 hput
  go_wp2_with fail
  refine (Hf.out).mono ?_
  rintro e w4 ⟨rfl, f4⟩
  have h4 := H3.out.fr0 f4
  have F4 := Lib.hid (F3.out.tr f4)
  have BA5 := Lib.hid (BA4.out.fr f4 (fun e => e))
  have BB5 := Lib.hid (BB4.out.fr f4 (fun e => e))
  have hs4 := f4.size
  have Hl : Hid (∀ W, Fr (fun _ => False) w4 W → Calls Try.prog 12 #[.pointer (some ⟨g, 0, none⟩)] W fun e w' => e = .returned (.int .i64 1) ∧ W = w') := Lib.hid (fun W f => by
    have := len_any W g s (h4.fr0 f)
    rw [hbl] at this
    exact this)
  have Hfl : Hid (∀ W, Fr (fun _ => False) w4 W → Calls Try.prog 13 #[.pointer (some ⟨g, 0, none⟩)] W fun e w' => e = .returned (.int .i64 1) ∧ W = w') := Lib.hid (fun W f => by
    have := flushes_any W g s (h4.fr0 f)
    rw [hfl] at this
    exact this)
  have H4 := Lib.hid h4
  clear h4 Hf f4 u0 u1
  go_wp2_with fail
  refine (Hl.out _ ((Fr.refl _ w4).alloc _)).mono ?_
  rintro e w' ⟨rfl, rfl⟩
  go_wp2_with fail
  refine (Hfl.out _ ((Fr.refl _ w4).alloc _)).mono ?_
  rintro e w' ⟨rfl, rfl⟩
  have fc := ((Fr.refl (fun _ => False) w4).alloc (.cells #[.int .u32 0, .int .u32 0, .slice none 0 0, .int .i64 0] 34)).alloc (.cells #[.int .i64 0] 3)
  have sc : (w4.alloc (.cells #[.int .u32 0, .int .u32 0, .slice none 0 0, .int .i64 0] 34)).heap.size = w4.heap.size + 1 := by simp
  have bp := Blk.new' (w4.alloc (.cells #[.int .u32 0, .int .u32 0, .slice none 0 0, .int .i64 0] 34)) 3 #[.int .i64 0] sc
  have hlow := H4.out.low
  have hsw := F4.out.size
  have hb5 := BB5.out.lt
  have O6 : OwnK (fun q => q < w.heap.size ∨ q = w1.heap.size ∨ q = w1.heap.size + 1 ∨ q = w4.heap.size + 1) g s := fun q hq e => by
    have h1 := hlow q hq
    have h2 := O3.out q hq
    omega
  have hps : ∀ W, Fr (fun q => ¬ (q < w.heap.size ∨ q = w1.heap.size ∨ q = w1.heap.size + 1 ∨ q = w4.heap.size + 1)) ((w4.alloc (.cells #[.int .u32 0, .int .u32 0, .slice none 0 0, .int .i64 0] 34)).alloc (.cells #[.int .i64 0] 3)) W → IntsAt .i64 W (w4.heap.size + 2) (some ⟨w4.heap.size + 1, 0, none⟩) 1 [0] := fun W f => by
    have b := bp.fr f (fun e => e (.inr (.inr (.inr rfl))))
    refine ⟨rfl, fun i hi => ?_, fun _ => ⟨w4.heap.size + 1, 0, rfl, by omega, fun i hi => ?_⟩⟩
    · have : i = 0 := by omega
      subst this; rfl
    · have : i = 0 := by omega
      subst this; exact b.cell 0
  have Hd : Hid (Calls Try.prog 19 #[.pointer (some ⟨g, 0, none⟩), .slice (some ⟨w4.heap.size + 1, 0, none⟩) 1 1] ((w4.alloc (.cells #[.int .u32 0, .int .u32 0, .slice none 0 0, .int .i64 0] 34)).alloc (.cells #[.int .i64 0] 3)) (fun e w' => e = .returned (.int .i64 1) ∧ Hid (Cch w' g (s.drop [0]) ∧ OwnK (fun q => q < w.heap.size ∨ q = w1.heap.size ∨ q = w1.heap.size + 1 ∨ q = w4.heap.size + 1) g (s.drop [0]) ∧ Fr (fun q => ¬ (q < w.heap.size ∨ q = w1.heap.size ∨ q = w1.heap.size + 1 ∨ q = w4.heap.size + 1)) ((w4.alloc (.cells #[.int .u32 0, .int .u32 0, .slice none 0 0, .int .i64 0] 34)).alloc (.cells #[.int .i64 0] 3)) w'))) := Lib.hid ((drop_k _ _ g s (H4.out.fr0 fc) O6 [0] (w4.heap.size + 2) 1 1 _ hps (by decide) (by have := bp.lt; omega)).mono (by
    rintro e w' ⟨g1, g2, g3, g4⟩
    have hc : cntG [0] s.bl = 1 := by rw [← hs]; rfl
    rw [hc] at g1
    exact ⟨g1, Lib.hid ⟨g2, g3, g4⟩⟩))
  have FC := Lib.hid (F4.out.tr fc)
  have BA6 := Lib.hid (BA5.out.fr fc (fun e => e))
  have BB6 := Lib.hid (BB5.out.fr fc (fun e => e))
  clear Hl Hfl hps O6 bp fc sc
  go_wp2_with fail
  refine (Hd.out).mono ?_
  rintro e w7 ⟨rfl, h7⟩
  obtain ⟨h7, o7, f7⟩ := h7.out
  have BA7 := Lib.hid (BA6.out.fr f7 (fun e => e (.inr (.inl rfl))))
  have BB7 := Lib.hid (BB6.out.fr f7 (fun e => e (.inr (.inr (.inl rfl)))))
  have F7 := Lib.hid (FC.out.trans f7 (fun q hq e => e (.inl hq)))
  have Hk : Hid (Calls Try.prog 23 #[.pointer (some ⟨g, 0, none⟩), .agg #[.int .u32 1, .int .u32 2], .agg #[.int .u32 3, .int .u32 4]] w7 fun e w' => e = .returned (.bool false) ∧ Fr (fun _ => False) w w') := Lib.hid ((link_any w7 g _ h7 (1, 2) (3, 4) (by unfold Ky.Ok; decide) (by unfold Ky.Ok; decide)).mono (by
    rintro e w' hL
    unfold LinkPost at hL
    rw [if_neg (by rw [← hs]; show ¬ (0 ≤ (-1 : Int) ∧ _); omega)] at hL
    exact ⟨hL.1, F7.out.trans hL.2.1 (fun q hq e => o7.wr q e (.inl hq))⟩))
  have u0 : w7.cell? ⟨w1.heap.size, 0, none⟩ = some (.int .u32 1) := BA7.out.cell 0
  have u1 : w7.cell? ⟨w1.heap.size, 1, none⟩ = some (.int .u32 2) := BA7.out.cell 1
  have v0 : w7.cell? ⟨w1.heap.size + 1, 0, none⟩ = some (.int .u32 3) := BB7.out.cell 0
  have v1 : w7.cell? ⟨w1.heap.size + 1, 1, none⟩ = some (.int .u32 4) := BB7.out.cell 1
  have hla := BA7.out.lt
  have hlb := BB7.out.lt
  clear Hd h7 o7 f7
  go_wp2_with fail
  refine (Hk.out).mono ?_
  rintro e w8 ⟨rfl, f8⟩
  have F8 := Lib.hid f8
  clear Hk f8 u0 u1 v0 v1
  go_wp2_with fail
  go_ret
  exact ⟨rfl, F8.out⟩
end Go.Proofs.Ytfjlgdafakbdoaa.Ca
