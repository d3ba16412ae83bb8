/- Some of chapter 10's runs (innkeeperlaw10.known). -/
import Derived.Test.YthiephlfhbkcbaaMmuQ
namespace Go.Proofs.Ythiephlfhbkcbaa.Mu
open Go.RowKit Fm Nt Rm By Wk Rf
set_option linter.unusedVariables false
set_option linter.unusedSimpArgs false
set_option maxHeartbeats 4000000

theorem span_dev (u : Us) (hn : u.m.n ≤ 64) : spanR u ⟨false, true, 0⟩ 32768 4 2 = ⟨[], 10, 32768, u⟩ := by
  have hp : placeR u ⟨false, true, 0⟩ 32768 2 = ⟨32768, 0, 0, u⟩ := place_dev rfl (.inl rfl) (by decide)
  have hq : secR u ⟨false, true, 0⟩ 32768 4 2 = ⟨0, 0, 0, u⟩ := by
    unfold secR
    rw [if_neg (by decide), hp]
  unfold spanR
  rw [if_neg (by omega), hp, if_neg (by simp), hq, if_neg (by simp), if_pos (show devB 32768 = true by decide)]
/-- a unit that the statement itself made -/
structure Ow (w0 w : World) (K : Nat → Prop) (A : Au) (u : Us) : Prop where
  U : Un w A u
  lo : ∀ k, k = A.gU ∨ A.wr k → w0.heap.size ≤ k ∧ ¬ K k
  f : Fr (fun _ => False) w0 w
  kl : ∀ k, K k → k < w.heap.size
theorem Ow.fr0 {w0 w w' : World} {K : Nat → Prop} {A : Au} {u : Us} (h : Ow w0 w K A u) (f : Fr (fun _ => False) w w') : Ow w0 w' K A u := ⟨h.U.fr0 f, h.lo, h.f.tr f, fun k hk => Nat.lt_of_lt_of_le (h.kl k hk) f.size⟩
theorem Ow.step {w0 w w' : World} {K : Nat → Prop} {A : Au} {u u' : Us} (h : Ow w0 w K A u) (hU : Un w' A u') (f : Fr A.wr w w') : Ow w0 w' K A u' := ⟨hU, h.lo, h.f.trans f (fun i hi e => by have := (h.lo i (.inr e)).1; omega), fun k hk => Nat.lt_of_lt_of_le (h.kl k hk) f.size⟩
/-- a box of the statement's own stands through a call -/
theorem Ow.box {w0 w w' : World} {K : Nat → Prop} {A : Au} {u : Us} {g : Nat} {t : TypeId} {cs : Array Value} (h : Ow w0 w K A u) (hb : Blk w g t cs) (hg : K g) (f : Fr A.wr w w') : Blk w' g t cs := hb.fr f (fun e => (h.lo g (.inr e)).2 hg)
/-- new boxes -/
theorem Ow.keep {w0 w w' : World} {K K' : Nat → Prop} {A : Au} {u : Us} (h : Ow w0 w K A u) (f : Fr (fun _ => False) w w') (hk : ∀ k, K' k → K k ∨ w.heap.size ≤ k ∧ k < w'.heap.size) : Ow w0 w' K' A u := by
  have hl := h.U.lt
  refine ⟨h.U.fr0 f, fun k e => ⟨(h.lo k e).1, fun e2 => ?_⟩, h.f.tr f, fun k e => ?_⟩
  · rcases hk k e2 with e3 | e3
    · exact (h.lo k e).2 e3
    · have := hl k e; omega
  · rcases hk k e with e3 | e3
    · exact Nat.lt_of_lt_of_le (h.kl k e3) f.size
    · exact e3.2
theorem ow_both {w w' : World} {n : Nat} {yl : List Int} {e : Ending} (h : Both10 w n yl e w') : ∃ (A : Au) (r : Dr), e = .returned (.tuple #[.pointer (some ⟨A.gU, 0, none⟩), .pointer (some ⟨r.gR, 0, none⟩)]) ∧ Ow w w' (fun k => r.its k) A ⟨Ms.init n yl, noL⟩ ∧ Dn w' r ⟨Ms.init n yl, noL⟩ := by
  obtain ⟨A, r, rfl, hU, hD, hs, hb, f⟩ := h
  exact ⟨A, r, rfl, ⟨hU, fun k hk => ⟨hb k (by rcases hk with h | h; exact .inl h; exact .inr (.inl h)), hs k hk⟩, f, hD.lt⟩, hD⟩
theorem init2 : (Ms.init 2 []).n = 2 := init_n 2 []
set_option maxRecDepth 100000 in
theorem known10 (w : World) : Calls Try.prog 29 #[] w fun e w' => e = .returned (.bool true) ∧ Fr (fun _ => False) w w' := by
  go_enter Try.func29, Try.ntmps29
  go_wp2_with fail
  refine (both10 w none 0 0 2 w.heap.size [] (intsAt_nil _ _ _ _) (Nat.le_refl _) (by omega) (by omega) (by omega)).mono ?_
  rintro e w1 hb
  obtain ⟨A, r, rfl, hO, hD⟩ := ow_both hb
  clear hb hD
  have hn : (⟨Ms.init 2 [], noL⟩ : Us).m.n = 2 := init2
  generalize (⟨Ms.init 2 [], noL⟩ : Us) = u0 at *
  -- the space
  have f2 : Fr (fun _ => False) w1 (w1.alloc (.cells #[.bool false, .bool true, .int .u32 0] 59)) := (Fr.refl _ _).alloc _
  have b2 := Blk.new w1 59 #[.bool false, .bool true, .int .u32 0]
  have hO2 := hO.keep (K' := fun k => k = w1.heap.size) f2 (fun k e => .inr (by subst e; simp))
  have hs3 : storeU u0 ⟨false, true, 0⟩ 62 67305985 4 = ⟨stor u0.m (rng 62 4) 67305985 4, u0.l⟩ := storeU_plain rfl 4 (by omega) (by omega) (by omega) (by rw [hn]; decide) (by omega)
  have hp3 : spanR u0 ⟨false, true, 0⟩ 62 4 3 = ⟨rng 62 4, 0, 0, u0⟩ := span_plain rfl (.inr rfl) 4 (by omega) (by omega) (by omega) (by rw [hn]; decide) (by omega)
  have hm64 : (stor u0.m (rng 62 4) 67305985 4).mem 64 = 3 := by rw [stor_rng u0.m 62 67305985 4 (by omega) (by rw [hn]; decide) 4 (Nat.le_refl _) 64, if_pos (by decide)]; decide
  have hm65 : (stor u0.m (rng 62 4) 67305985 4).mem 65 = 4 := by rw [stor_rng u0.m 62 67305985 4 (by omega) (by rw [hn]; decide) 4 (Nat.le_refl _) 65, if_pos (by decide)]; decide
  have hn3 : (stor u0.m (rng 62 4) 67305985 4).n = 2 := (stor_n _ _ _ _).trans hn
  clear hO
  go_upto_region 5 with (fail)
  generalize hw2 : w1.alloc (.cells #[.bool false, .bool true, .int .u32 0] 59) = w2 at *
  clear hw2
  have hst := store_any w2 A u0 hO2.U ⟨false, true, 0⟩ 62 67305985 4 (by show (0 : Int) ≤ 0; omega) (by show (0 : Int) ≤ 4294967295; omega) (by omega) (by omega) (by omega) (by omega)
  rw [hs3, hp3] at hst
  have Hst := Lib.hid hst
  have HO2 := Lib.hid hO2
  have HB2 := Lib.hid b2
  have s0 : w2.cell? ⟨w1.heap.size, 0, none⟩ = some (.bool false) := b2.cell 0
  have s1 : w2.cell? ⟨w1.heap.size, 1, none⟩ = some (.bool true) := b2.cell 1
  have s2 : w2.cell? ⟨w1.heap.size, 2, none⟩ = some (.int .u32 0) := b2.cell 2
  clear hst hs3 hp3 hO2 b2 f2
  have hu1n : (⟨stor u0.m (rng 62 4) 67305985 4, u0.l⟩ : Us).m.n = 2 := hn3
  have hj : join (⟨stor u0.m (rng 62 4) 67305985 4, u0.l⟩ : Us).m (rng 64 2) = 1027 := by
    show join (stor u0.m (rng 62 4) 67305985 4) [64 + ((0 : Nat) : Int), 64 + ((1 : Nat) : Int)] = 1027
    have e0 : memV (stor u0.m (rng 62 4) 67305985 4) 64 = 3 := by unfold memV inB; rw [hn3, if_pos (by decide)]; exact hm64
    have e1 : memV (stor u0.m (rng 62 4) 67305985 4) 65 = 4 := by unfold memV inB; rw [hn3, if_pos (by decide)]; exact hm65
    rw [join, join, join]
    show memV (stor u0.m (rng 62 4) 67305985 4) 64 + 256 * (memV (stor u0.m (rng 62 4) 67305985 4) 65 + 256 * 0) = 1027
    rw [e0, e1]; rfl
  have hl5 : loadV (⟨stor u0.m (rng 62 4) 67305985 4, u0.l⟩ : Us) ⟨false, true, 0⟩ 64 2 = 1027 := (loadV_plain rfl 2 (by omega) (by omega) (by omega) (by rw [hu1n]; decide) (by omega)).trans hj
  have hp5 : spanR (⟨stor u0.m (rng 62 4) 67305985 4, u0.l⟩ : Us) ⟨false, true, 0⟩ 64 2 2 = ⟨rng 64 2, 0, 0, _⟩ := span_plain rfl (.inl rfl) 2 (by omega) (by omega) (by omega) (by rw [hu1n]; decide) (by omega)
  have hp7 := span_dev (⟨stor u0.m (rng 62 4) 67305985 4, u0.l⟩ : Us) (by omega)
  have hl7 : loadV (⟨stor u0.m (rng 62 4) 67305985 4, u0.l⟩ : Us) ⟨false, true, 0⟩ 32768 4 = 0 := by unfold loadV; rw [hp7]; rfl
  have hp9 : placeR (⟨stor u0.m (rng 62 4) 67305985 4, u0.l⟩ : Us) ⟨false, true, 0⟩ 32768 2 = ⟨32768, 0, 0, _⟩ := place_dev rfl (.inl rfl) (by decide)
  clear hj hm64 hm65 hn3 hn
  generalize (⟨stor u0.m (rng 62 4) 67305985 4, u0.l⟩ : Us) = u1 at *
  go_wp2_with fail
  refine (Hst.out).mono ?_
  rintro e w3 ⟨rfl, hU3, f3⟩
  dsimp only at hU3 ⊢
  have hO3 := HO2.out.step hU3 f3
  have bS := HO2.out.box HB2.out rfl f3
  have fy : Fr (fun _ => False) w3 (w3.alloc (.cells #[.int .i64 0, .int .u32 0] 63)) := (Fr.refl _ _).alloc _
  have B4 := Lib.hid (Blk.new w3 63 #[.int .i64 0, .int .u32 0])
  have HO4 := Lib.hid (hO3.keep (K' := fun k => (k = w1.heap.size) ∨ k = w3.heap.size) fy (fun k e => by rcases e with e | e; exact .inl e; exact .inr (by subst e; simp)))
  go_upto_region 6 with (fail)
  generalize hw_w4 : w3.alloc (.cells #[.int .i64 0, .int .u32 0] 63) = w4 at *
  clear hw_w4
  have bS := bS.fr fy (fun e => e)
  have hld := load_any w4 A u1 HO4.out.U ⟨false, true, 0⟩ 64 2 (by show (0 : Int) ≤ 0; omega) (by show (0 : Int) ≤ 4294967295; omega) (by omega) (by omega)
  rw [hl5, hp5] at hld
  have Hld := Lib.hid hld
  have s0 : w4.cell? ⟨w1.heap.size, 0, none⟩ = some (.bool false) := bS.cell 0
  have s1 : w4.cell? ⟨w1.heap.size, 1, none⟩ = some (.bool true) := bS.cell 1
  have s2 : w4.cell? ⟨w1.heap.size, 2, none⟩ = some (.int .u32 0) := bS.cell 2
  clear hld fy hO3 hU3 f3
  go_wp2_with fail
  refine (Hld.out).mono ?_
  rintro e w5 ⟨rfl, hU5, f5⟩
  dsimp only at hU5 ⊢
  have hO5 := HO4.out.step hU5 f5
  have bS := HO4.out.box bS (.inl rfl) f5
  have b4 := HO4.out.box B4.out (.inr rfl) f5
  have fy : Fr (fun _ => False) w5 (w5.alloc (.cells #[.int .i64 0, .int .u32 0] 63)) := (Fr.refl _ _).alloc _
  have B6 := Lib.hid (Blk.new w5 63 #[.int .i64 0, .int .u32 0])
  have HO6 := Lib.hid (hO5.keep (K' := fun k => (k = w1.heap.size ∨ k = w3.heap.size) ∨ k = w5.heap.size) fy (fun k e => by rcases e with e | e; exact .inl e; exact .inr (by subst e; simp)))
  go_upto_region 7 with (fail)
  generalize hw_w6 : w5.alloc (.cells #[.int .i64 0, .int .u32 0] 63) = w6 at *
  clear hw_w6
  have bS := bS.fr fy (fun e => e)
  have b4 := b4.fr fy (fun e => e)
  have hld := load_any w6 A u1 HO6.out.U ⟨false, true, 0⟩ 32768 4 (by show (0 : Int) ≤ 0; omega) (by show (0 : Int) ≤ 4294967295; omega) (by omega) (by omega)
  rw [hl7, hp7] at hld
  have Hld := Lib.hid hld
  have s0 : w6.cell? ⟨w1.heap.size, 0, none⟩ = some (.bool false) := bS.cell 0
  have s1 : w6.cell? ⟨w1.heap.size, 1, none⟩ = some (.bool true) := bS.cell 1
  have s2 : w6.cell? ⟨w1.heap.size, 2, none⟩ = some (.int .u32 0) := bS.cell 2
  clear hld fy hO5 hU5 f5
  go_wp2_with fail
  refine (Hld.out).mono ?_
  rintro e w7 ⟨rfl, hU7, f7⟩
  dsimp only at hU7 ⊢
  have hO7 := HO6.out.step hU7 f7
  have bS := HO6.out.box bS (.inl (.inl rfl)) f7
  have b4 := HO6.out.box b4 (.inl (.inr rfl)) f7
  have b6 := HO6.out.box B6.out (.inr rfl) f7
  have fy : Fr (fun _ => False) w7 (w7.alloc (.cells #[.int .i64 10, .int .u32 32768] 63)) := (Fr.refl _ _).alloc _
  have B8 := Lib.hid (Blk.new w7 63 #[.int .i64 10, .int .u32 32768])
  have HO8 := Lib.hid (hO7.keep (K' := fun k => ((k = w1.heap.size ∨ k = w3.heap.size) ∨ k = w5.heap.size) ∨ k = w7.heap.size) fy (fun k e => by rcases e with e | e; exact .inl e; exact .inr (by subst e; simp)))
  go_upto_region 8 with (fail)
  generalize hw_w8 : w7.alloc (.cells #[.int .i64 10, .int .u32 32768] 63) = w8 at *
  clear hw_w8
  have bS := bS.fr fy (fun e => e)
  have b4 := b4.fr fy (fun e => e)
  have b6 := b6.fr fy (fun e => e)
  have hpl := place_any w8 A u1 HO8.out.U ⟨false, true, 0⟩ 32768 2 (by show (0 : Int) ≤ 0; omega) (by show (0 : Int) ≤ 4294967295; omega) (by omega) (by omega)
  rw [hp9] at hpl
  have Hpl := Lib.hid hpl
  have s0 : w8.cell? ⟨w1.heap.size, 0, none⟩ = some (.bool false) := bS.cell 0
  have s1 : w8.cell? ⟨w1.heap.size, 1, none⟩ = some (.bool true) := bS.cell 1
  have s2 : w8.cell? ⟨w1.heap.size, 2, none⟩ = some (.int .u32 0) := bS.cell 2
  clear hpl fy hO7 hU7 f7
  go_wp2_with fail
  refine (Hpl.out).mono ?_
  rintro e w9 ⟨rfl, hU9, f9⟩
  dsimp only at hU9 ⊢
  have hO9 := HO8.out.step hU9 f9
  have b4 := HO8.out.box b4 (.inl (.inl (.inr rfl))) f9
  have b6 := HO8.out.box b6 (.inl (.inr rfl)) f9
  have b8 := HO8.out.box B8.out (.inr rfl) f9
  have fy : Fr (fun _ => False) w9 (w9.alloc (.cells #[.int .i64 0, .int .u32 0] 63)) := (Fr.refl _ _).alloc _
  have B10 := Lib.hid (Blk.new w9 63 #[.int .i64 0, .int .u32 0])
  have HO10 := Lib.hid (hO9.keep (K' := fun k => (((k = w1.heap.size ∨ k = w3.heap.size) ∨ k = w5.heap.size) ∨ k = w7.heap.size) ∨ k = w9.heap.size) fy (fun k e => by rcases e with e | e; exact .inl e; exact .inr (by subst e; simp)))
  go_upto_region 9 with (fail)
  generalize hw_w10 : w9.alloc (.cells #[.int .i64 0, .int .u32 0] 63) = w10 at *
  clear hw_w10
  have b4 := b4.fr fy (fun e => e)
  have b6 := b6.fr fy (fun e => e)
  have b8 := b8.fr fy (fun e => e)
  have c0 := b4.cell 0
  have c1 := b4.cell 1
  have c2 := b6.cell 0
  have c3 := b6.cell 1
  have c4 := b8.cell 0
  have c5 := b8.cell 1
  have c6 := B10.out.cell 0
  have c7 := B10.out.cell 1
  simp only [List.getElem?_toArray, List.getElem?_cons_succ, List.getElem?_cons_zero] at c0 c1 c2 c3 c4 c5 c6 c7
  clear hO9 hU9 f9 fy b4 b6 b8
  go_wp2_with fail
  go_ret
  exact ⟨rfl, HO10.out.f⟩
end Go.Proofs.Ythiephlfhbkcbaa.Mu
