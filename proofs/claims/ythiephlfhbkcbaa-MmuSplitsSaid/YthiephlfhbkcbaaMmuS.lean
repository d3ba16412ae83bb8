/- A unit (mmu.Unit): span. -/
import Derived.Test.YthiephlfhbkcbaaMmuL
import Derived.Test.YthiephlfhbkcbaaSame64
namespace Go.Proofs.Ythiephlfhbkcbaa.Mu
open Go.RowKit Fm Nt Rm By Wk
set_option linter.unusedVariables false
set_option linter.unusedSimpArgs false
set_option maxHeartbeats 2000000

theorem infoU32 : (Try.prog.info? 22).map (fun i => (i.zero, i.size, i.bytes)) = some (some (.int .u32 0), 1, 4) := by kernel_rfl
def by32 (l : List Int) : List Value := l.map (Value.int .u32)
theorem spots_len (left p q : Int) (n : Nat) : (spots left p q n).length = n := by simp [spots]
theorem spots_succ (left p q : Int) (n : Nat) : spots left p q (n + 1) = spots left p q n ++ [spot left p q n] := by simp [spots, List.range_succ]
theorem spots_at (left p q : Int) {n j : Nat} (h : j < n) : (spots left p q n).getD j 0 = spot left p q j := by simp [spots, List.getD_eq_getElem?_getD, h]
/-- a place that is told, and no device's, lies in the memory -/
theorem place_in {w : World} {A : Au} {u : Us} (h : Un w A u) (s : Sp) (va k : Int) (r0 : 0 ≤ s.rt) (v0 : 0 ≤ va) (v1 : va ≤ 4294967295) (hc : (placeR u s va k).c = 0) : (placeR u s va k).a = 0 ∧ 0 ≤ (placeR u s va k).p ∧ (placeR u s va k).p ≤ 4294967295 ∧ (devB (placeR u s va k).p = false → (placeR u s va k).p < ((placeR u s va k).u.m.n : Int) * 64) := by
  have hb := turned_bd h s va k r0 v0 v1
  unfold placeR at hc ⊢
  split
  · rename_i hq
    rw [if_pos hq] at hc
    exact absurd hc (by show ¬ (10 : Int) = 0; omega)
  · rename_i hq
    rw [if_neg hq] at hc
    split
    · rename_i hq2
      rw [if_pos hq2] at hc
      exact absurd hc hq2
    · rename_i hq2
      rw [if_neg hq2] at hc
      split
      · rename_i hq3
        refine ⟨rfl, hb.1, hb.2, fun hd => ?_⟩
        have hd : devB (turnedR u s va k).p = false := hd
        unfold thereB at hq3
        simpa [hd] using hq3
      · rename_i hq3
        rw [if_neg hq3] at hc
        exact absurd hc (by show ¬ (10 : Int) = 0; omega)
theorem own_cap {w : World} {base n : Nat} {e : TypeId} {A : Option Addr} {c : Nat} {xs : List Value} (h : w.ownsRow base e 1 (.slice A n c) n xs) : n ≤ c ∧ (∀ b off, A = some ⟨b, off, none⟩ → (Value.slice A n c).ownBlock = some b) := by
  rcases h.2 with ⟨hv, he⟩ | ⟨g', cap, cur, hv, _, _, hnc, _⟩
  · injection hv with h1 h2 h3
    exact ⟨by omega, fun b off e => by rw [h1] at e; cases e⟩
  · injection hv with h1 h2 h3
    refine ⟨by omega, fun b off e => ?_⟩
    rw [h1] at e
    injection e with e
    injection e with e1
    rw [h1]
    simp [Value.ownBlock, e1]
/-- places or a trap: what is left -/
def LPost (w : World) (A : Au) (r : Lr) (e : Ending) (w' : World) : Prop :=
  ∃ Al n c, e = .returned (.tuple #[.slice Al n c, trv r.c r.a]) ∧ IntsAt .u32 w' w'.heap.size Al n r.l ∧ (0 < n → ∀ b off, Al = some ⟨b, off, none⟩ → w.heap.size ≤ b) ∧ n ≤ c ∧ Un w' A r.u ∧ Fr A.wr w w'
theorem lpost_nil {w w' : World} {A : Au} {u : Us} {c a : Int} (h : Un w' A u) (f : Fr A.wr w w') : LPost w A ⟨[], c, a, u⟩ (.returned (.tuple #[.slice none 0 0, trv c a])) w' := ⟨none, 0, 0, rfl, intsAt_nil _ _ _ _, fun h => absurd h (by omega), Nat.le_refl _, h, f⟩
set_option maxRecDepth 100000 in
theorem span_any (w : World) (A : Au) (u : Us) (h : Un w A u) (s : Sp) (va n k : Int) (r0 : 0 ≤ s.rt) (r1 : s.rt ≤ 4294967295) (v0 : 0 ≤ va) (v1 : va ≤ 4294967295) :
    Calls Try.prog 66 #[.pointer (some ⟨A.gU, 0, none⟩), spv s, .int .u32 va, .int .i64 n, .int .i64 k] w (LPost w A (spanR u s va n k)) := by
  have hl := h.lt
  obtain ⟨i0, hi0, hz0, hz1, hz2⟩ := info_parts infoU32
  obtain ⟨b1, b2, fx⟩ := boxed w #[.bool s.pg, .bool s.su, .int .u32 s.rt] #[.int .i64 0, .int .u32 0]
  generalize hw1 : ((w.alloc (.cells #[.bool s.pg, .bool s.su, .int .u32 s.rt] 59)).alloc (.cells #[.int .i64 0, .int .u32 0] 63)) = w1 at *
  have H1 := Lib.hid (h.fr0 fx)
  have B1 := Lib.hid b1
  have B2 := Lib.hid b2
  have FX := Lib.hid fx
  have hs1 : w1.heap.size = w.heap.size + 2 := by rw [← hw1]; simp
  have s0 : w1.cell? ⟨w.heap.size, 0, none⟩ = some (.bool s.pg) := b1.cell 0
  have s1 : w1.cell? ⟨w.heap.size, 1, none⟩ = some (.bool s.su) := b1.cell 1
  have s2 : w1.cell? ⟨w.heap.size, 2, none⟩ = some (.int .u32 s.rt) := b1.cell 2
  have e2 := b2.cell 0
  have e3 := b2.cell 1
  have e4 := b2.frozen 0
  have e5 := b2.frozen 1
  simp only [List.getElem?_toArray, List.getElem?_cons_succ, List.getElem?_cons_zero] at e2 e3
  obtain ⟨res, hres⟩ : ∃ res, spanR u s va n k = res := ⟨_, rfl⟩
  rw [hres]
  have HRES := Lib.hid hres
  have HL := Lib.hid h
  clear hres h b1 b2 fx
  by_cases hn : n < 1 ∨ 4 < n
  · obtain rfl : res = ⟨[], 10, va, u⟩ := by rw [← HRES.out, spanR, if_pos hn]
    have HE := Lib.hid (trap_in B2.out H1.out FX.out.none hl (Nat.le_succ _) (.int .i64 10) (.int .u32 va))
    clear HRES
    rcases hn with hn | hn
    · go_enter Try.func66, Try.ntmps66
      go_wp2_with fail
      try simp only [Exit.inBlock, Exit.then]
      exact bodyPost_ret (results_tc rfl _ _ (w.heap.size + 1) 63 _ _ _ rfl rfl HE.out.1 Try.underlying63 rfl szT) rfl (lpost_nil HE.out.2.1 HE.out.2.2)
    · have hn' : decide (n < 1) = false := by simp; omega
      go_enter Try.func66, Try.ntmps66
      go_wp2_with fail
      try simp only [Exit.inBlock, Exit.then]
      exact bodyPost_ret (results_tc rfl _ _ (w.heap.size + 1) 63 _ _ _ rfl rfl HE.out.1 Try.underlying63 rfl szT) rfl (lpost_nil HE.out.2.1 HE.out.2.2)
  · have hn1 : 1 ≤ n := by omega
    have hn4 : n ≤ 4 := by omega
    have hn1' : decide (n < 1) = false := by simp; omega
    have hn4' : decide (4 < n) = false := by simp; omega
    have Hp := Lib.hid (place_any w1 A u H1.out s va k r0 r1 v0 v1)
    have HIN := Lib.hid (place_in HL.out s va k r0 v0 v1)
    have HR1 : Hid (res = if (placeR u s va k).c ≠ 0 then ⟨[], (placeR u s va k).c, (placeR u s va k).a, (placeR u s va k).u⟩
      else if (secR u s va n k).c ≠ 0 then ⟨[], (secR u s va n k).c, (secR u s va n k).a, (secR u s va n k).u⟩
      else if devB (placeR u s va k).p then ⟨[], 10, va, (secR u s va n k).u⟩
      else if 64 - va % 64 < n ∧ devB (secR u s va n k).p = true then ⟨[], 10, nextP va, (secR u s va n k).u⟩
      else ⟨spots (64 - va % 64) (placeR u s va k).p (secR u s va n k).p n.toNat, 0, 0, (secR u s va n k).u⟩) := Lib.hid (by rw [← HRES.out, spanR, if_neg hn])
    have hsec : secR u s va n k = if 64 - va % 64 < n then placeR (placeR u s va k).u s (nextP va) k else ⟨0, 0, 0, (placeR u s va k).u⟩ := rfl
    rw [hsec] at HR1
    clear hn HRES hsec
    generalize placeR u s va k = pr at *
    obtain ⟨p, c, a, u1⟩ := pr
    dsimp only at HIN HR1
    go_enter Try.func66, Try.ntmps66
    go_wp2_with fail
    refine (Hp.out).mono ?_
    rintro e w2 ⟨rfl, hU2, f2⟩
    dsimp only at hU2 ⊢
    have f2x := FX.out.none.trans f2 (S := A.wr) (fun i hi e => e)
    have g1 := B1.out.fr f2 (fun e => by have := hl _ (.inr e); omega)
    have g2 := B2.out.fr f2 (fun e => by have := hl _ (.inr e); omega)
    have hs2 := f2.size
    have fy : Fr (fun _ => False) w2 (w2.alloc (.cells #[.int .i64 c, .int .u32 a] 63)) := (Fr.refl _ _).alloc _
    have g4 := Blk.new w2 63 #[.int .i64 c, .int .u32 a]
    have H3 := hU2.fr0 fy
    have g1 := g1.fr fy (fun e => e)
    have g2 := g2.fr fy (fun e => e)
    have F3 := f2x.tr fy.none
    generalize hw3 : w2.alloc (.cells #[.int .i64 c, .int .u32 a] 63) = w3 at *
    have hs3 : w3.heap.size = w2.heap.size + 1 := by rw [← hw3]; simp
    clear e2 e3 e4 e5 s0 s1 s2 f2 f2x fy hU2
    have s0 : w3.cell? ⟨w.heap.size, 0, none⟩ = some (.bool s.pg) := g1.cell 0
    have s1 : w3.cell? ⟨w.heap.size, 1, none⟩ = some (.bool s.su) := g1.cell 1
    have s2 : w3.cell? ⟨w.heap.size, 2, none⟩ = some (.int .u32 s.rt) := g1.cell 2
    have e2 := g2.cell 0
    have e3 := g2.cell 1
    have e4 := g2.frozen 0
    have e5 := g2.frozen 1
    have x0 := g4.cell 0
    have x1 := g4.cell 1
    have x2 := g4.frozen 0
    have x3 := g4.frozen 1
    simp only [List.getElem?_toArray, List.getElem?_cons_succ, List.getElem?_cons_zero] at e2 e3 x0 x1
    have HU3 := Lib.hid H3
    have G2 := Lib.hid g2
    have G4 := Lib.hid g4
    have F3h := Lib.hid F3
    clear g1 g2 g4 H3 F3
    go_upto_region 4 with (fail)
    by_cases hc : c = 0
    · obtain ⟨ha, hp0, hp1, hpd⟩ := HIN.out hc
      have HPD := Lib.hid hpd
      subst hc ha
      clear HIN hpd
      have HR2 : Hid (res = if (if 64 - va % 64 < n then placeR u1 s (nextP va) k else ⟨0, 0, 0, u1⟩).c ≠ 0 then ⟨[], (if 64 - va % 64 < n then placeR u1 s (nextP va) k else ⟨0, 0, 0, u1⟩).c, (if 64 - va % 64 < n then placeR u1 s (nextP va) k else ⟨0, 0, 0, u1⟩).a, (if 64 - va % 64 < n then placeR u1 s (nextP va) k else ⟨0, 0, 0, u1⟩).u⟩
        else if devB p then ⟨[], 10, va, (if 64 - va % 64 < n then placeR u1 s (nextP va) k else ⟨0, 0, 0, u1⟩).u⟩
        else if 64 - va % 64 < n ∧ devB (if 64 - va % 64 < n then placeR u1 s (nextP va) k else ⟨0, 0, 0, u1⟩).p = true then ⟨[], 10, nextP va, (if 64 - va % 64 < n then placeR u1 s (nextP va) k else ⟨0, 0, 0, u1⟩).u⟩
        else ⟨spots (64 - va % 64) p (if 64 - va % 64 < n then placeR u1 s (nextP va) k else ⟨0, 0, 0, u1⟩).p n.toNat, 0, 0, (if 64 - va % 64 < n then placeR u1 s (nextP va) k else ⟨0, 0, 0, u1⟩).u⟩) := Lib.hid (by rw [HR1.out, if_neg (by simp)])
      clear HR1
      have hd1 := Lib.hid (fun W => device_any W p hp0 hp1)
      have hnn1 := HU3.out.M.n0
      have hx2 : (va - va % 64 + 64) % 4294967296 = nextP va := by unfold nextP; congr 1; omega
      have hnb : 0 ≤ nextP va ∧ nextP va ≤ 4294967295 := by unfold nextP; omega
      obtain ⟨N, rfl⟩ : ∃ N : Nat, n = N := ⟨n.toNat, by omega⟩
      have hN : ((N : Int)).toNat = N := rfl
      rw [hN] at HR2
      have hlf0 : 0 ≤ va % 64 := by omega
      have hlf1 : va % 64 < 64 := by omega
      have hva0 : 0 ≤ va - va % 64 := by omega
      generalize nextP va = nx at *
      by_cases hcr : 64 - (va % 64) < (N : Int)
      · rw [if_pos hcr] at HR2
        have Hq := Lib.hid (place_any w3 A u1 HU3.out s nx k r0 r1 hnb.1 hnb.2)
        have HIN := Lib.hid (place_in HU3.out s nx k r0 hnb.1 hnb.2)
        generalize placeR u1 s nx k = pr at *
        obtain ⟨q, c, a, u2⟩ := pr
        dsimp only at HIN HR2
        go_wp2_with fail
        refine (Hq.out).mono ?_
        rintro e w4 ⟨rfl, hU4, f4⟩
        dsimp only at hU4 ⊢
        have F4 := F3h.out.trans f4 (S := A.wr) (fun i hi e => e)
        have g2 := G2.out.fr f4 (fun e => by have := hl _ (.inr e); omega)
        have g4 := G4.out.fr f4 (fun e => by have := hl _ (.inr e); omega)
        have hs4 := f4.size
        clear e2 e3 e4 e5 s0 s1 s2 x0 x1 x2 x3
        have x0 := g4.cell 0
        have x1 := g4.cell 1
        have x2 := g4.frozen 0
        have x3 := g4.frozen 1
        simp only [List.getElem?_toArray, List.getElem?_cons_succ, List.getElem?_cons_zero] at x0 x1
        obtain ⟨k4, HU5, F5⟩ := trap_in g4 hU4 F4 hl (show w.heap.size ≤ w2.heap.size by omega) (.int .i64 c) (.int .u32 a)
        have g2 := (g2.far (p := ⟨w2.heap.size, 0, none⟩) (show w.heap.size + 1 ≠ w2.heap.size by omega) (.int .i64 c)).far (p := ⟨w2.heap.size, 1, none⟩) (show w.heap.size + 1 ≠ w2.heap.size by omega) (.int .u32 a)
        have hs5 : ((w4.setCell ⟨w2.heap.size, 0, none⟩ (.int .i64 c)).setCell ⟨w2.heap.size, 1, none⟩ (.int .u32 a)).heap.size = w4.heap.size := by simp
        generalize hw5 : (w4.setCell ⟨w2.heap.size, 0, none⟩ (.int .i64 c)).setCell ⟨w2.heap.size, 1, none⟩ (.int .u32 a) = w5 at *
        have HU := Lib.hid HU5
        have B11 := Lib.hid g2
        have B13 := Lib.hid k4
        have FF := Lib.hid F5
        clear g4 hU4 F4 f4 HU5 k4 F5
        have e2 := g2.cell 0
        have e3 := g2.cell 1
        have e4 := g2.frozen 0
        have e5 := g2.frozen 1
        have y0 := B13.out.cell 0
        have y1 := B13.out.cell 1
        simp only [List.getElem?_toArray, List.getElem?_cons_succ, List.getElem?_cons_zero] at e2 e3 y0 y1
        clear g2
        go_upto_region 10 with (fail)
        try rw [hw5]
        clear x0 x1 x2 x3 hw5
        by_cases hc2 : c = 0
        · obtain ⟨ha, hq0, hq1, hqd⟩ := HIN.out hc2
          have HQD := Lib.hid hqd
          subst hc2 ha
          have hd2 := Lib.hid (fun W => device_any W q hq0 hq1)
          have HR3 : Hid (res = if devB p then ⟨[], 10, va, u2⟩ else if 64 - (va % 64) < (N : Int) ∧ devB q = true then ⟨[], 10, nx, u2⟩ else ⟨spots (64 - (va % 64)) p q N, 0, 0, u2⟩) := Lib.hid (by rw [HR2.out, if_neg (by simp)])
          have hnn := HU.out.M.n0
          clear HIN HR2 hqd
          cases hdp : devB p
          · rw [hdp] at hd1
            have hp2 := HPD.out hdp
            cases hdq : devB q
            · rw [hdq] at hd2
              have hq2 := HQD.out hdq
              obtain rfl : res = ⟨spots (64 - (va % 64)) p q N, 0, 0, u2⟩ := by rw [HR3.out, if_neg (by simp [hdp]), if_neg (by simp [hdq])]
              clear HR3 HPD HQD hdp hdq
              go_wp2_with fail
              refine (hd1.out _).mono ?_
              rintro e w' ⟨rfl, rfl⟩
              go_wp2_with fail
              refine (hd2.out _).mono ?_
              rintro e w' ⟨rfl, rfl⟩
              go_wp2_with fail

              clear e2 e3 e4 e5
              go_loopw [17, 79] (fun v i wr => ∃ j : Nat, j ≤ N ∧ i = .int .i64 j ∧ wr.ownsRow 0 22 1 v j (by32 (spots (64 - (va % 64)) p q j)) ∧ Fr (fun _ => False) w5 wr ∧ (∀ b, v.ownBlock = some b → w5.heap.size ≤ b)) (fun _ i _ => N - (intOf i).toNat)
              case atStart => exact ⟨0, by omega, rfl, ⟨rfl, .inl ⟨rfl, rfl⟩⟩, Fr.refl _ _, fun k hk => by simp [Value.ownBlock] at hk⟩
              case round =>
                obtain ⟨j, hj, rfl, hown, fr, hat⟩ := hrel
                by_cases hlt : j < N
                · have hlt' : (j : Int) < (N : Int) := by omega
                  by_cases hjl : (j : Int) < 64 - (va % 64)
                  · have w0 : IntKind.u32.wrap (p + (j : Int)) = p + (j : Int) := IntWalk.u32_in _ (by omega)
                    have hown' := own_alloc hown (.cells #[.int .u32 (p + (j : Int))] 22)
                    have HS := Lib.hid (spots_succ (64 - (va % 64)) p q j)
                    have HSP : Hid (spot (64 - (va % 64)) p q (j : Nat) = p + (j : Int)) := Lib.hid (by unfold spot; rw [if_pos hjl])
                    have hlen := spots_len (64 - (va % 64)) p q j
                    generalize spots (64 - (va % 64)) p q j = l at *
                    go_wp2_with
                      (at_builtin
                       refine wpList_append_any _ rfl (.tmp 85) (.tmp 90) _ rfl 0 22 i0 _ 1 4 Try.underlying34 hi0 hz0 hz1 hz2 rfl (by omega) u17 j (by32 l) rfl hown' (wr.heap.size + 1) (some ⟨wr.heap.size, 0, none⟩) 1 1 [.int .u32 (p + (j : Int))] rfl (reads_blk (Blk.new _ _ _) rfl) (by simp [Value.oneCell']) (by simp only [maxLen]; omega) (by omega) (Nat.zero_le _) ?_
                       intro v1 w6 hown1 hg1 hat1)
                    go_roundw
                    case rel =>
                      refine ⟨j + 1, by omega, by go_num, ?_, (fr.alloc _).grown hg1 (fun q hq => .inr (hat q hq)), fun q hq => ?_⟩
                      · rw [HS.out, HSP.out]; simpa [by32] using hown1
                      · rcases hat1 with e | e
                        · exact hat q (by rw [← e]; exact hq)
                        · rw [e] at hq
                          have h6 : wr.heap.size + 1 = q := by simpa using hq
                          have := fr.size
                          omega
                    case measure => simp [intOf]; omega
                  · have hjl' : decide ((j : Int) < 64 - (va % 64)) = false := by simpa using hjl
                    have w0 : IntKind.u32.wrap ((j : Int) - (64 - (va % 64))) = (j : Int) - (64 - (va % 64)) := IntWalk.u32_in _ (by omega)
                    have w2_ : IntKind.u32.wrap (q + ((j : Int) - (64 - (va % 64)))) = q + ((j : Int) - (64 - (va % 64))) := IntWalk.u32_in _ (by omega)
                    have hown' := own_alloc hown (.cells #[.int .u32 (q + ((j : Int) - (64 - (va % 64))))] 22)
                    have HS := Lib.hid (spots_succ (64 - (va % 64)) p q j)
                    have HSP : Hid (spot (64 - (va % 64)) p q (j : Nat) = q + ((j : Int) - (64 - (va % 64)))) := Lib.hid (by unfold spot; rw [if_neg hjl])
                    have hlen := spots_len (64 - (va % 64)) p q j
                    generalize spots (64 - (va % 64)) p q j = l at *
                    go_wp2_with
                      (at_builtin
                       refine wpList_append_any _ rfl (.tmp 92) (.tmp 99) _ rfl 0 22 i0 _ 1 4 Try.underlying34 hi0 hz0 hz1 hz2 rfl (by omega) u17 j (by32 l) rfl hown' (wr.heap.size + 1) (some ⟨wr.heap.size, 0, none⟩) 1 1 [.int .u32 (q + ((j : Int) - (64 - (va % 64))))] rfl (reads_blk (Blk.new _ _ _) rfl) (by simp [Value.oneCell']) (by simp only [maxLen]; omega) (by omega) (Nat.zero_le _) ?_
                       intro v1 w6 hown1 hg1 hat1)
                    go_roundw
                    case rel =>
                      refine ⟨j + 1, by omega, by go_num, ?_, (fr.alloc _).grown hg1 (fun q hq => .inr (hat q hq)), fun q hq => ?_⟩
                      · rw [HS.out, HSP.out]; simpa [by32] using hown1
                      · rcases hat1 with e | e
                        · exact hat q (by rw [← e]; exact hq)
                        · rw [e] at hq
                          have h6 : wr.heap.size + 1 = q := by simpa using hq
                          have := fr.size
                          omega
                    case measure => simp [intOf]; omega
                · have hje : j = N := by omega
                  have hlt' : decide ((j : Int) < (N : Int)) = false := by simp; omega
                  rw [hje] at hown
                  obtain ⟨Al, cp, rfl⟩ := ownI_any hown
                  have hoc := own_cap hown
                  have HUe := HU.out.fr0 fr
                  have be := B11.out.fr fr (fun e => e)
                  have bt := B13.out.fr fr (fun e => e)
                  have FFe := FF.out.tr fr.none
                  have e2 := be.cell 0
                  have e3 := be.cell 1
                  have e4 := be.frozen 0
                  have e5 := be.frozen 1
                  have y0 := bt.cell 0
                  have y1 := bt.cell 1
                  simp only [List.getElem?_toArray, List.getElem?_cons_succ, List.getElem?_cons_zero] at e2 e3 y0 y1
                  have II : IntsAt .u32 wr wr.heap.size Al N (spots (64 - (va % 64)) p q N) := Bk.own_ints hown (fun z hz => by
                    unfold spots spot at hz
                    obtain ⟨i, hi, rfl⟩ := List.mem_map.1 hz
                    have := List.mem_range.1 hi
                    split
                    · exact wf_u32_mk (by omega) (by omega)
                    · exact wf_u32_mk (by omega) (by omega))
                  have HF0 := Lib.hid (trap_in be HUe FFe hl (Nat.le_succ _) (.int .i64 0) (.int .u32 0))
                  have hbs : ∀ b off, Al = some ⟨b, off, none⟩ → w.heap.size ≤ b := fun b off e => Nat.le_trans (show w.heap.size ≤ w5.heap.size by omega) (hat b (hoc.2 b off e))
                  have fz : Fr (· = w.heap.size + 1) wr ((wr.setCell ⟨w.heap.size + 1, 0, none⟩ (.int .i64 0)).setCell ⟨w.heap.size + 1, 1, none⟩ (.int .u32 0)) := (Fr.set1 wr _ 0 _).setCell (p := ⟨w.heap.size + 1, 1, none⟩) (.inl rfl) _
                  have hnb_ : ∀ b off, Al = some ⟨b, off, none⟩ → b ≠ w.heap.size + 1 := fun b off e e2 => by
                    have hob := hoc.2 b off e
                    rw [e2] at hob
                    exact own_blk_ne hown be (by decide) hob
                  have IZ : IntsAt .u32 ((wr.setCell ⟨w.heap.size + 1, 0, none⟩ (.int .i64 0)).setCell ⟨w.heap.size + 1, 1, none⟩ (.int .u32 0)) ((wr.setCell ⟨w.heap.size + 1, 0, none⟩ (.int .i64 0)).setCell ⟨w.heap.size + 1, 1, none⟩ (.int .u32 0)).heap.size Al N (spots (64 - (va % 64)) p q N) := (ints_own II fz (Nat.le_refl _) (fun hn b off e => hnb_ b off e)).more fz.size
                  have HFI := Lib.hid (And.intro IZ (And.intro hbs hoc.1))
                  clear IZ II hown hbs hnb_ be bt fz HUe FFe hat hoc
                  generalize spots (64 - (va % 64)) p q N = lst_ at *
                  go_wp2_with fail
                  go_region
                  all_goals
                    go_wp2_with fail
                    try simp only [Exit.inBlock, Exit.then]
                    exact bodyPost_ret (results_tc rfl _ _ (w.heap.size + 1) 63 _ _ _ rfl rfl HF0.out.1.drew Try.underlying63 rfl szT) rfl ⟨Al, N, cp, rfl, HFI.out.1, fun _ => HFI.out.2.1, HFI.out.2.2, HF0.out.2.1.drew, HF0.out.2.2.drew⟩
            · rw [hdq] at hd2
              obtain rfl : res = ⟨[], 10, nx, u2⟩ := by rw [HR3.out, if_neg (by simp [hdp]), if_pos ⟨hcr, hdq⟩]
              clear HR3 HPD HQD hdp hdq
              go_wp2_with fail
              refine (hd1.out _).mono ?_
              rintro e w' ⟨rfl, rfl⟩
              go_wp2_with fail
              refine (hd2.out _).mono ?_
              rintro e w' ⟨rfl, rfl⟩
              go_wp2_with fail
              all_goals
                go_wp2_with fail
                try simp only [Exit.inBlock, Exit.then]
                first
                  | (have hf := trap_in B11.out HU.out FF.out hl (Nat.le_succ _) (.int .i64 10) (.int .u32 nx)
                     exact bodyPost_ret (results_tc rfl _ _ (w.heap.size + 1) 63 _ _ _ rfl rfl hf.1 Try.underlying63 rfl szT) rfl (lpost_nil hf.2.1 hf.2.2))
                  | (have hf := trap_in B11.out.drew HU.out.drew FF.out.drew hl (Nat.le_succ _) (.int .i64 10) (.int .u32 nx)
                     exact bodyPost_ret (results_tc rfl _ _ (w.heap.size + 1) 63 _ _ _ rfl rfl hf.1 Try.underlying63 rfl szT) rfl (lpost_nil hf.2.1 hf.2.2))
          · rw [hdp] at hd1
            obtain rfl : res = ⟨[], 10, va, u2⟩ := by rw [HR3.out, if_pos hdp]
            clear HR3 HPD HQD hdp
            go_wp2_with fail
            refine (hd1.out _).mono ?_
            rintro e w' ⟨rfl, rfl⟩
            go_wp2_with fail
            all_goals
              go_wp2_with fail
              try simp only [Exit.inBlock, Exit.then]
              first
                | (have hf := trap_in B11.out HU.out FF.out hl (Nat.le_succ _) (.int .i64 10) (.int .u32 va)
                   exact bodyPost_ret (results_tc rfl _ _ (w.heap.size + 1) 63 _ _ _ rfl rfl hf.1 Try.underlying63 rfl szT) rfl (lpost_nil hf.2.1 hf.2.2))
                | (have hf := trap_in B11.out.drew HU.out.drew FF.out.drew hl (Nat.le_succ _) (.int .i64 10) (.int .u32 va)
                   exact bodyPost_ret (results_tc rfl _ _ (w.heap.size + 1) 63 _ _ _ rfl rfl hf.1 Try.underlying63 rfl szT) rfl (lpost_nil hf.2.1 hf.2.2))
        · have hc' : (c != 0) = true := by simpa using hc2
          obtain rfl : res = ⟨[], c, a, u2⟩ := by rw [HR2.out, if_pos hc2]
          clear hc2 HIN HR2
          go_wp2_with fail
          go_region
          all_goals
            go_wp2_with fail
            try simp only [Exit.inBlock, Exit.then]
            first
              | (have hf := trap_in B11.out HU.out FF.out hl (Nat.le_succ _) (.int .i64 c) (.int .u32 a)
                 exact bodyPost_ret (results_tc rfl _ _ (w.heap.size + 1) 63 _ _ _ rfl rfl hf.1 Try.underlying63 rfl szT) rfl (lpost_nil hf.2.1 hf.2.2))
              | (have hf := trap_in B11.out.drew HU.out.drew FF.out.drew hl (Nat.le_succ _) (.int .i64 c) (.int .u32 a)
                 exact bodyPost_ret (results_tc rfl _ _ (w.heap.size + 1) 63 _ _ _ rfl rfl hf.1 Try.underlying63 rfl szT) rfl (lpost_nil hf.2.1 hf.2.2))
      · rw [if_neg hcr] at HR2
        have hcr' : decide (64 - (va % 64) < (N : Int)) = false := by simpa using hcr
        have HR3 : Hid (res = if devB p then ⟨[], 10, va, u1⟩ else ⟨spots (64 - (va % 64)) p 0 N, 0, 0, u1⟩) := Lib.hid (by
          rw [HR2.out, if_neg (by simp)]
          split
          · rfl
          · rw [if_neg (fun e => hcr e.1)])
        have HU := HU3
        have B11 := G2
        have B13 := G4
        have FF := F3h
        have hnn := HU.out.M.n0
        clear HR2
        cases hdp : devB p
        · rw [hdp] at hd1
          have HPN := Lib.hid (HPD.out hdp)
          obtain rfl : res = ⟨spots (64 - (va % 64)) p 0 N, 0, 0, u1⟩ := by rw [HR3.out, if_neg (by simp [hdp])]
          clear HR3 HPD hdp
          go_wp2_with fail
          refine (hd1.out _).mono ?_
          rintro e w' ⟨rfl, rfl⟩
          go_wp2_with fail
          have hpn := HPN.out
          clear e2 e3 e4 e5
          go_loopw [17, 79] (fun v i wr => ∃ j : Nat, j ≤ N ∧ i = .int .i64 j ∧ wr.ownsRow 0 22 1 v j (by32 (spots (64 - (va % 64)) p 0 j)) ∧ Fr (fun _ => False) w3 wr ∧ (∀ b, v.ownBlock = some b → w3.heap.size ≤ b)) (fun _ i _ => N - (intOf i).toNat)
          case atStart => exact ⟨0, by omega, rfl, ⟨rfl, .inl ⟨rfl, rfl⟩⟩, Fr.refl _ _, fun k hk => by simp [Value.ownBlock] at hk⟩
          case round =>
            obtain ⟨j, hj, rfl, hown, fr, hat⟩ := hrel
            by_cases hlt : j < N
            · have hlt' : (j : Int) < (N : Int) := by omega
              have hjl : (j : Int) < 64 - (va % 64) := by omega
              have w0 : IntKind.u32.wrap (p + (j : Int)) = p + (j : Int) := IntWalk.u32_in _ (by omega)
              have hown' := own_alloc hown (.cells #[.int .u32 (p + (j : Int))] 22)
              have HS := Lib.hid (spots_succ (64 - (va % 64)) p 0 j)
              have HSP : Hid (spot (64 - (va % 64)) p 0 (j : Nat) = p + (j : Int)) := Lib.hid (by unfold spot; rw [if_pos hjl])
              have hlen := spots_len (64 - (va % 64)) p 0 j
              generalize spots (64 - (va % 64)) p 0 j = l at *
              go_wp2_with
                (at_builtin
                 refine wpList_append_any _ rfl (.tmp 85) (.tmp 90) _ rfl 0 22 i0 _ 1 4 Try.underlying34 hi0 hz0 hz1 hz2 rfl (by omega) u17 j (by32 l) rfl hown' (wr.heap.size + 1) (some ⟨wr.heap.size, 0, none⟩) 1 1 [.int .u32 (p + (j : Int))] rfl (reads_blk (Blk.new _ _ _) rfl) (by simp [Value.oneCell']) (by simp only [maxLen]; omega) (by omega) (Nat.zero_le _) ?_
                 intro v1 w6 hown1 hg1 hat1)
              go_roundw
              case rel =>
                refine ⟨j + 1, by omega, by go_num, ?_, (fr.alloc _).grown hg1 (fun q hq => .inr (hat q hq)), fun q hq => ?_⟩
                · rw [HS.out, HSP.out]; simpa [by32] using hown1
                · rcases hat1 with e | e
                  · exact hat q (by rw [← e]; exact hq)
                  · rw [e] at hq
                    have h6 : wr.heap.size + 1 = q := by simpa using hq
                    have := fr.size
                    omega
              case measure => simp [intOf]; omega
            · have hje : j = N := by omega
              have hlt' : decide ((j : Int) < (N : Int)) = false := by simp; omega
              rw [hje] at hown
              obtain ⟨Al, cp, rfl⟩ := ownI_any hown
              have hoc := own_cap hown
              have HUe := HU.out.fr0 fr
              have be := B11.out.fr fr (fun e => e)
              have bt := B13.out.fr fr (fun e => e)
              have FFe := FF.out.tr fr.none
              have e2 := be.cell 0
              have e3 := be.cell 1
              have e4 := be.frozen 0
              have e5 := be.frozen 1
              have y0 := bt.cell 0
              have y1 := bt.cell 1
              simp only [List.getElem?_toArray, List.getElem?_cons_succ, List.getElem?_cons_zero] at e2 e3 y0 y1
              have II : IntsAt .u32 wr wr.heap.size Al N (spots (64 - (va % 64)) p 0 N) := Bk.own_ints hown (fun z hz => by
                unfold spots spot at hz
                obtain ⟨i, hi, rfl⟩ := List.mem_map.1 hz
                have := List.mem_range.1 hi
                split
                · exact wf_u32_mk (by omega) (by omega)
                · exact wf_u32_mk (by omega) (by omega))
              have HF0 := Lib.hid (trap_in be HUe FFe hl (Nat.le_succ _) (.int .i64 0) (.int .u32 0))
              have hbs : ∀ b off, Al = some ⟨b, off, none⟩ → w.heap.size ≤ b := fun b off e => Nat.le_trans (show w.heap.size ≤ w3.heap.size by omega) (hat b (hoc.2 b off e))
              have fz : Fr (· = w.heap.size + 1) wr ((wr.setCell ⟨w.heap.size + 1, 0, none⟩ (.int .i64 0)).setCell ⟨w.heap.size + 1, 1, none⟩ (.int .u32 0)) := (Fr.set1 wr _ 0 _).setCell (p := ⟨w.heap.size + 1, 1, none⟩) (.inl rfl) _
              have hnb_ : ∀ b off, Al = some ⟨b, off, none⟩ → b ≠ w.heap.size + 1 := fun b off e e2 => by
                have hob := hoc.2 b off e
                rw [e2] at hob
                exact own_blk_ne hown be (by decide) hob
              have IZ : IntsAt .u32 ((wr.setCell ⟨w.heap.size + 1, 0, none⟩ (.int .i64 0)).setCell ⟨w.heap.size + 1, 1, none⟩ (.int .u32 0)) ((wr.setCell ⟨w.heap.size + 1, 0, none⟩ (.int .i64 0)).setCell ⟨w.heap.size + 1, 1, none⟩ (.int .u32 0)).heap.size Al N (spots (64 - (va % 64)) p 0 N) := (ints_own II fz (Nat.le_refl _) (fun hn b off e => hnb_ b off e)).more fz.size
              have HFI := Lib.hid (And.intro IZ (And.intro hbs hoc.1))
              clear IZ II hown hbs hnb_ be bt fz HUe FFe hat hoc
              generalize spots (64 - (va % 64)) p 0 N = lst_ at *
              go_wp2_with fail
              go_region
              all_goals
                go_wp2_with fail
                try simp only [Exit.inBlock, Exit.then]
                exact bodyPost_ret (results_tc rfl _ _ (w.heap.size + 1) 63 _ _ _ rfl rfl HF0.out.1.drew Try.underlying63 rfl szT) rfl ⟨Al, N, cp, rfl, HFI.out.1, fun _ => HFI.out.2.1, HFI.out.2.2, HF0.out.2.1.drew, HF0.out.2.2.drew⟩
        · rw [hdp] at hd1
          obtain rfl : res = ⟨[], 10, va, u1⟩ := by rw [HR3.out, if_pos hdp]
          clear HR3 HPD hdp
          go_wp2_with fail
          refine (hd1.out _).mono ?_
          rintro e w' ⟨rfl, rfl⟩
          go_wp2_with fail
          all_goals
            go_wp2_with fail
            try simp only [Exit.inBlock, Exit.then]
            first
              | (have hf := trap_in B11.out HU.out FF.out hl (Nat.le_succ _) (.int .i64 10) (.int .u32 va)
                 exact bodyPost_ret (results_tc rfl _ _ (w.heap.size + 1) 63 _ _ _ rfl rfl hf.1 Try.underlying63 rfl szT) rfl (lpost_nil hf.2.1 hf.2.2))
              | (have hf := trap_in B11.out.drew HU.out.drew FF.out.drew hl (Nat.le_succ _) (.int .i64 10) (.int .u32 va)
                 exact bodyPost_ret (results_tc rfl _ _ (w.heap.size + 1) 63 _ _ _ rfl rfl hf.1 Try.underlying63 rfl szT) rfl (lpost_nil hf.2.1 hf.2.2))
    · have hc' : (c != 0) = true := by simpa using hc
      obtain rfl : res = ⟨[], c, a, u1⟩ := by rw [HR1.out, if_pos hc]
      clear hc HIN HR1
      have HU := HU3
      have B11 := G2
      have FF := F3h

      go_wp2_with fail
      go_region
      all_goals
        go_wp2_with fail
        try simp only [Exit.inBlock, Exit.then]
        first
          | (have hf := trap_in B11.out HU.out FF.out hl (Nat.le_succ _) (.int .i64 c) (.int .u32 a)
             exact bodyPost_ret (results_tc rfl _ _ (w.heap.size + 1) 63 _ _ _ rfl rfl hf.1 Try.underlying63 rfl szT) rfl (lpost_nil hf.2.1 hf.2.2))
          | (have hf := trap_in B11.out.drew HU.out.drew FF.out.drew hl (Nat.le_succ _) (.int .i64 c) (.int .u32 a)
             exact bodyPost_ret (results_tc rfl _ _ (w.heap.size + 1) 63 _ _ _ rfl rfl hf.1 Try.underlying63 rfl szT) rfl (lpost_nil hf.2.1 hf.2.2))
end Go.Proofs.Ythiephlfhbkcbaa.Mu
