/- CacheFull. -/
import Derived.Test.YtfjlgdafakbdoaaCaP
import Derived.Test.YtfjlgdafakbdoaaAppendK
import Derived.Test.YtfjlgdafakbdoaaBook
namespace Go.Proofs.Ytfjlgdafakbdoaa.cacheFull
open Go.RowKit Ca Bk
set_option linter.unusedVariables false
set_option linter.unusedSimpArgs false
set_option maxHeartbeats 1000000
set_option maxRecDepth 100000

/-- a key's box -/
def SB (b : Nat) (x : Int) (w : World) : Prop := w.cell? ⟨b, 0, none⟩ = some (.int .u32 x) ∧ w.cell? ⟨b, 1, none⟩ = some (.int .u32 x)
/-- where the loop stands -/
def CR (w : World) (g gb bn bc k : Nat) (code : List Int) (i : Nat) (wr : World) : Prop :=
  ∃ s, Cch wr g s ∧ OwnK (fun q => q < w.heap.size ∨ q = gb) g s ∧ FullAt k i s ∧ wr.ownsRow w.heap.size 5 1 (.slice (some ⟨gb, 0, none⟩) bn bc) bn (code.map (Value.int .u8)) ∧ Fr (fun _ => False) w wr
theorem walk (w : World) (room : Int) (hroom : (Lit.int .i64 room).wf = true) (n : Int) (hn : (Lit.int .i64 n).wf = true) (A : Option Addr) (len cap : Nat) (hc : len ≤ cap) (zs : List Int) (hl : IntsAt .u8 w w.heap.size A len zs) (hm : len ≤ maxLen) :
    Calls Try.prog 3 #[.int .i64 room, .int .i64 n, .slice A len cap] w fun e w' => e = .returned (.bool true) ∧ Fr (fun _ => False) w w' := by
  obtain ⟨r0, r1⟩ := wf_i64 hroom
  obtain ⟨n0, n1⟩ := wf_i64 hn
  clear hroom hn
  obtain ⟨i0, hin, hz0, hz1, hz2⟩ := info_parts info8
  obtain ⟨k, hk⟩ : ∃ k : Nat, 1 + room % 12 = k := ⟨(1 + room % 12).toNat, by omega⟩
  obtain ⟨m, hmm⟩ : ∃ m : Nat, 0 + n % 61 = m := ⟨(0 + n % 61).toNat, by omega⟩
  have hk1 : 1 ≤ k := by omega
  have hk2 : k ≤ 12 := by omega
  have hm2 : m ≤ 60 := by omega
  have Hw1 : Hid (∀ W, Calls Try.prog 8 #[.int .i64 room, .int .i64 1, .int .i64 12] W fun e w' => e = .returned (.int .i64 (k : Int)) ∧ W = w') := Lib.hid (fun W => by
    have := within_any W room 1 12 r0 r1 (by omega) (by omega) (by omega)
    rw [show (12 : Int) - 1 + 1 = 12 by omega, hk] at this
    exact this)
  have Hw2 : Hid (∀ W, Calls Try.prog 8 #[.int .i64 n, .int .i64 0, .int .i64 60] W fun e w' => e = .returned (.int .i64 (m : Int)) ∧ W = w') := Lib.hid (fun W => by
    have := within_any W n 0 60 n0 n1 (by omega) (by omega) (by omega)
    rw [show (60 : Int) - 0 + 1 = 61 by omega, hmm] at this
    exact this)
  have Hn := Lib.hid (new_yes w k (by omega) (by omega))
  have Hcut : Hid (∀ W, Calls Try.prog 10 #[.slice A len cap, .int .i64 9] W fun e w' => e = .returned (.slice A (min len 9) cap) ∧ W = w') := Lib.hid (fun W => cut_any W A len cap 9 hm hc (by omega))
  have HL := Lib.hid hl
  unfold maxLen at hm
  clear hk hmm hl
  go_enter Try.func3, Try.ntmps3
  go_wp2_with fail
  refine (Hw1.out _).mono ?_
  rintro e w' ⟨rfl, rfl⟩
  go_wp2_with fail
  refine (Hn.out).mono ?_
  rintro e w1 ⟨g, gm, rfl, h1, hg1, hgm1, hg2, hgm2, f1⟩
  have H1 := Lib.hid h1
  have F1 := Lib.hid f1
  clear Hn h1 f1
  go_wp2_with fail
  refine (Hcut.out _).mono ?_
  rintro e w' ⟨rfl, rfl⟩
  have hs1 := F1.out.size
  have ho : (w1.alloc (.cells #[.int .u8 1] 5)).ownsRow w1.heap.size 5 1 (.slice (some ⟨w1.heap.size, 0, none⟩) 1 1) 1 [.int .u8 1] := ⟨rfl, .inr ⟨w1.heap.size, 1, #[.int .u8 1], rfl, Nat.le_refl _, Blk.new _ _ _, Nat.le_refl _, by simp [maxLen], rfl, rfl⟩⟩
  have hrd : Reads (w1.alloc (.cells #[.int .u8 1] 5)) w.heap.size 1 A (min len 9) ((zs.take (min len 9)).map (Value.int .u8)) := (intsAt_reads ((HL.out.fr F1.out (Nat.le_refl _) (fun _ _ e => e)).take (Nat.min_le_left _ _))).alloc hs1 _
  go_wp2_with
    (at_builtin
     refine wpList_append_any _ rfl (.tmp 30) (.tmp 32) _ rfl w1.heap.size 5 i0 _ 1 1 Try.underlying22 hin hz0 hz1 hz2 rfl (by omega) (.slice (some ⟨w1.heap.size, 0, none⟩) 1 1) 1 _ rfl ho w.heap.size A (min len 9) cap _ rfl hrd oneCell_ints (by simp only [maxLen]; omega) (by omega) (by simp) ?_
     intro v1 w2 hown1 hg1 hat1
     obtain ⟨gb, bc, hv1, hgb1, hgb2⟩ := hown1.form (by omega)
     subst hv1)
  have HG := Lib.hid hg1
  have hcode : ([Value.int .u8 1] ++ (zs.take (min len 9)).map (Value.int .u8)) = ((1 :: zs.take (min len 9)).map (Value.int .u8)) := rfl
  rw [hcode] at hown1
  have HO := Lib.hid hown1
  clear hown1 hg1 hat1 ho hrd hcode
  obtain ⟨bn, hbn⟩ : ∃ q, 1 + min len 9 = q := ⟨_, rfl⟩
  have HBN := Lib.hid hbn
  have hbn1 : 1 ≤ bn := by omega
  have hbn2 : bn ≤ 10 := by omega
  rw [hbn] at HO
  try rw [hbn]
  clear hbn
  refine (Hw2.out _).mono ?_
  rintro e w' ⟨rfl, rfl⟩
  have hCR0 : CR w g gb bn bc k (1 :: zs.take (min len 9)) 0 w2 := by
    have fa := (Fr.refl (fun _ => False) w1).alloc (.cells #[.int .u8 1] 5)
    have f2 : Fr (fun q => w1.heap.size ≤ q) (w1.alloc (.cells #[.int .u8 1] 5)) w2 := (Fr.refl _ _).grown HG.out (fun q e => .inl (by have e : w1.heap.size = q := (by simpa [Value.ownBlock] using e); omega))
    have f3 : Fr (fun _ => False) w1 w2 := fa.trans f2 (fun q hq e => by omega)
    refine ⟨Cs.new (k : Int) gm, H1.out.fr0 f3, own_new (by omega) (by omega), full_new k gm, own_low HO.out hs1, F1.out.tr f3⟩
  have HCR := Lib.hid hCR0
  clear hCR0
  generalize hcd : (1 :: zs.take (min len 9)) = code at *
  have hcl : code.length = bn := by
    rw [← hcd, List.length_cons, List.length_take]
    have := HL.out.1
    have := HBN.out
    omega
  have HCL := Lib.hid hcl
  have HCO : Hid (code ≠ [] ∧ code.length ≤ 1000000 ∧ ∀ z ∈ code, 0 ≤ z ∧ z < 256) := Lib.hid (by
    rw [← hcd]
    refine ⟨by simp, by simp; omega, fun z hz => ?_⟩
    rcases List.mem_cons.1 hz with rfl | hz
    · omega
    · obtain ⟨q, hq, rfl⟩ := List.getElem_of_mem (List.mem_of_mem_take hz)
      have h1 := wf_u8 (HL.out.2.1 q (by have := HL.out.1; omega))
      rw [List.getD_eq_getElem?_getD, List.getElem?_eq_getElem hq] at h1
      have h2 : (some zs[q]).getD 0 = zs[q] := rfl
      rw [h2] at h1
      omega)
  clear hcl hcd Hcut
  go_wp2_with fail
  go_loopw [12] (fun i wr => ∃ j : Nat, j ≤ m ∧ i = .int .i64 j ∧ CR w g gb bn bc k code j wr) (fun i _ => m - (intOf i).toNat)
  case atStart => exact ⟨0, by omega, rfl, HCR.out⟩
  case round =>
    obtain ⟨j, hj, rfl, hcr⟩ := hrel
    have HR := Lib.hid hcr
    clear hcr HCR
    by_cases hlt : j < m
    · have hd : decide ((j : Int) < (m : Int)) = true := by simp; omega
      have hj0 : (0 : Int) ≤ (j : Int) := by omega
      have hj1 : (j : Int) < 60 := by omega
      obtain ⟨s, h, ho, hf, hrow, fr⟩ := HR.out
      have fa := ((Fr.refl (fun _ => False) wr).alloc (.cells #[.int .u32 (j : Int), .int .u32 (j : Int)] 31)).drew
      have bk : Blk (wr.alloc (.cells #[.int .u32 (j : Int), .int .u32 (j : Int)] 31)) wr.heap.size 31 #[.int .u32 (j : Int), .int .u32 (j : Int)] := Blk.new _ _ _
      have hlow := h.low
      have hgbl : gb < wr.heap.size := own_lt hrow gb rfl
      have hsw := fr.size
      have ho2 : OwnK (fun q => q < w.heap.size ∨ q = gb ∨ q = wr.heap.size) g s := fun q hq e => by
        have h1 := hlow q hq
        have h2 := ho q hq
        omega
      have hbk : Bk.k ⟨(j : Int), (j : Int), code, 1, none, 0⟩ = ((j : Int), (j : Int)) := rfl
      have hfl : s.fl ≤ 1000000 := by
        rw [hf.fl]
        have : (j - 1) / k ≤ j - 1 := Nat.div_le_self _ _
        split <;> omega
      have hrd := Reads.of_own ((hrow.alloc (.cells #[.int .u32 (j : Int), .int .u32 (j : Int)] 31)))
      rw [← HCL.out] at hrd
      have hsa : (wr.alloc (.cells #[.int .u32 (j : Int), .int .u32 (j : Int)] 31)).drew.heap.size = wr.heap.size + 1 := by show (wr.heap.push _).size = _; simp
      have Hp := put_k (fun q => q < w.heap.size ∨ q = gb ∨ q = wr.heap.size) _ g s (h.fr0 fa) ho2 (fun q e => by rw [hsa]; omega) (j : Int) (j : Int) code 1 (some ⟨gb, 0, none⟩) bc _ hrd (Nat.le_refl _) (by unfold Ky.Ok; omega) (by omega) (HCO.out) hfl
      rw [HCL.out] at Hp
      have Hp2 : Hid (Calls Try.prog 11 #[.pointer (some ⟨g, 0, none⟩), .agg #[.int .u32 (j : Int), .int .u32 (j : Int), .slice (some ⟨gb, 0, none⟩) bn bc, .int .i64 1]] (wr.alloc (.cells #[.int .u32 (j : Int), .int .u32 (j : Int)] 31)).drew fun e w5 => e = .returned (.bool true) ∧
          Hid (∃ s1, Cch w5 g s1 ∧ OwnK (fun q => q < w.heap.size ∨ q = gb ∨ q = wr.heap.size) g s1 ∧ FullAt k (j + 1) s1 ∧ s1.bl.length = j % k + 1 ∧ s1.fl = ((j / k : Nat) : Int) ∧ ∃ jx : Nat, idx ((j : Int), (j : Int)) s1.bl = jx) ∧ Hid (Fr (fun q => ¬ (q < w.heap.size ∨ q = gb ∨ q = wr.heap.size)) (wr.alloc (.cells #[.int .u32 (j : Int), .int .u32 (j : Int)] 31)).drew w5)) := Lib.hid (Hp.mono (by
        rintro e w5 ⟨g1, A', c', A2, c2, gm2, g2, g3, g4⟩
        obtain ⟨x1, x2, x3, x4⟩ := full_put hf (by omega) ⟨(j : Int), (j : Int), code, 1, A', c'⟩ rfl A2 c2 gm2
        exact ⟨g1, Lib.hid ⟨_, g2, g3, x1, x2, x3, x4⟩, Lib.hid g4⟩))
      have s1' : (wr.alloc (.cells #[.int .u32 (j : Int), .int .u32 (j : Int)] 31)).cell? ⟨wr.heap.size, 0, none⟩ = some (.int .u32 (j : Int)) := bk.cell 0
      have s2' : (wr.alloc (.cells #[.int .u32 (j : Int), .int .u32 (j : Int)] 31)).cell? ⟨wr.heap.size, 1, none⟩ = some (.int .u32 (j : Int)) := bk.cell 1
      have BK := Lib.hid bk
      have hrem : (j : Int).tmod (k : Int) = ((j % k : Nat) : Int) := by rw [Int.tmod_eq_emod_of_nonneg (by omega)]; rfl
      have hquo : (j : Int).tdiv (k : Int) = ((j / k : Nat) : Int) := by rw [Int.tdiv_eq_ediv_of_nonneg (by omega)]; rfl
      clear h ho hf fr fa bk hrd Hp hfl hlow ho2
      go_upto_region 11 with (fail)
      have hkz : ((k : Int) == 0) = false := by simp; omega
      have hkz2 : ¬ k = 0 := by omega
      obtain ⟨x, hx⟩ : ∃ x, j % k = x := ⟨_, rfl⟩
      obtain ⟨y, hy⟩ : ∃ y, j / k = y := ⟨_, rfl⟩
      have hx1 : x < 12 := by rw [← hx]; have := Nat.mod_lt j (show k > 0 by omega); omega
      have hy1 : y < 60 := by rw [← hy]; have := Nat.div_le_self j k; omega
      rw [hx] at hrem
      rw [hy] at hquo
      have hrem2 : (j : Int) % (k : Int) = (x : Int) := by rw [← hx]; rfl
      have hquo2 : (j : Int) / (k : Int) = (y : Int) := by rw [← hy]; rfl
      have hb : (wr.alloc (.cells #[.int .u32 (j : Int), .int .u32 (j : Int)] 31)).heap.size = wr.heap.size + 1 := by simp
      have hS1 : SB wr.heap.size (j : Int) (wr.alloc (.cells #[.int .u32 (j : Int), .int .u32 (j : Int)] 31)) := ⟨s1', s2'⟩
      have HX := Lib.hid hx
      have HY := Lib.hid hy
      clear hx hy
      refine wp_region_held_drew (S := SB wr.heap.size (j : Int)) (by kernel_rfl) (hS1) (fun hH => ?_)
      refine wpAnyH_take (i := 0) (v := ?_) rfl (by kernel_rfl) (by kernel_rfl) (by kernel_rfl) (fun _ _ _ h => h) (Or.inl ⟨by kernel_rfl, ?_⟩) hH ?_
      rotate_left
      · (intro W hSw; obtain ⟨k1, k2⟩ := hSw; go_simp; try with_reducible rfl)
      refine wpAnyH_take (i := 1) (v := ?_) rfl (by kernel_rfl) (by kernel_rfl) (by kernel_rfl) (fun _ _ _ h => h) (Or.inl ⟨by kernel_rfl, ?_⟩) hH ?_
      rotate_left
      · (intro W hSw; obtain ⟨k1, k2⟩ := hSw; go_simp; try with_reducible rfl)
      refine wpAnyH_take (i := 2) (v := ?_) rfl (by kernel_rfl) (by kernel_rfl) (by kernel_rfl) (fun _ _ _ h => h) (Or.inl ⟨by kernel_rfl, ?_⟩) hH ?_
      rotate_left
      · (intro W hSw; obtain ⟨k1, k2⟩ := hSw; go_simp; try with_reducible rfl)
      try simp only [Act.put, List.getElem_toArray, List.getElem_cons_zero, List.getElem_cons_succ, List.setIfInBounds_toArray, List.set_cons_zero, List.set_cons_succ]
      refine wpAnyH_take (i := 3) (v := ?_) rfl (by kernel_rfl) (by kernel_rfl) (by kernel_rfl) (fun _ _ _ h => h) (Or.inl ⟨by kernel_rfl, ?_⟩) hH ?_
      rotate_left
      · (intro W hSw; obtain ⟨k1, k2⟩ := hSw; go_simp; try with_reducible rfl)
      try simp only [Act.put, List.getElem_toArray, List.getElem_cons_zero, List.getElem_cons_succ, List.setIfInBounds_toArray, List.set_cons_zero, List.set_cons_succ]
      refine wpAnyH_ready (rs := [4]) (by kernel_rfl) (by simp) ?_
      refine AllReadyH.cons rfl (fun K hK => ?_) ?_
      · go_simp
        go_wp2_with (refine (Hp2.out).mono ?_; rintro e w5 ⟨rfl, hx5, hf5⟩; have HLen : Hid (Calls Try.prog 12 #[.pointer (some ⟨g, 0, none⟩)] w5 fun e w' => e = .returned (.int .i64 ((x : Int) + 1)) ∧ w5 = w') := Lib.hid (by obtain ⟨s1, c5, _, _, l5, _⟩ := hx5.out; have := len_any w5 g s1 c5; rw [l5, HX.out] at this; exact this); have HFl : Hid (Calls Try.prog 13 #[.pointer (some ⟨g, 0, none⟩)] w5 fun e w' => e = .returned (.int .i64 (y : Int)) ∧ w5 = w') := Lib.hid (by obtain ⟨s1, c5, _, _, _, l5, _⟩ := hx5.out; have := flushes_any w5 g s1 c5; rw [l5, HY.out] at this; exact this))
        refine hK.out _ _ ?_ (fun hH => ?_)
        · exact ⟨hf5.out.cell hH.1 (by show wr.heap.size < (wr.heap.push _).size; simp) (fun e => e (.inr (.inr rfl))), hf5.out.cell hH.2 (by show wr.heap.size < (wr.heap.push _).size; simp) (fun e => e (.inr (.inr rfl)))⟩
        clear hK K
        refine wpAnyH_take (i := 5) (v := ?_) rfl (by kernel_rfl) (by kernel_rfl) (by kernel_rfl) (fun _ _ _ h => h) (Or.inl ⟨by kernel_rfl, ?_⟩) hH ?_
        rotate_left
        · (intro W hSw; obtain ⟨k1, k2⟩ := hSw; go_simp; try with_reducible rfl)
        refine wpAnyH_take (i := 6) (v := ?_) rfl (by kernel_rfl) (by kernel_rfl) (by kernel_rfl) (fun _ _ _ h => h) (Or.inl ⟨by kernel_rfl, ?_⟩) hH ?_
        rotate_left
        · (intro W hSw; obtain ⟨k1, k2⟩ := hSw; go_simp; try with_reducible rfl)
        refine wpAnyH_take (i := 7) (v := ?_) rfl (by kernel_rfl) (by kernel_rfl) (by kernel_rfl) (fun _ _ _ h => h) (Or.inl ⟨by kernel_rfl, ?_⟩) hH ?_
        rotate_left
        · (intro W hSw; obtain ⟨k1, k2⟩ := hSw; go_simp; try with_reducible rfl)
        try simp only [Act.put, List.getElem_toArray, List.getElem_cons_zero, List.getElem_cons_succ, List.setIfInBounds_toArray, List.set_cons_zero, List.set_cons_succ]
        refine wpAnyH_take (i := 9) (v := ?_) rfl (by kernel_rfl) (by kernel_rfl) (by kernel_rfl) (fun _ _ _ h => h) (Or.inl ⟨by kernel_rfl, ?_⟩) hH ?_
        rotate_left
        · (intro W hSw; obtain ⟨k1, k2⟩ := hSw; go_simp; try with_reducible rfl)
        refine wpAnyH_take (i := 10) (v := ?_) rfl (by kernel_rfl) (by kernel_rfl) (by kernel_rfl) (fun _ _ _ h => h) (Or.inl ⟨by kernel_rfl, ?_⟩) hH ?_
        rotate_left
        · (intro W hSw; obtain ⟨k1, k2⟩ := hSw; go_simp; try with_reducible rfl)
        refine wpAnyH_take (i := 11) (v := ?_) rfl (by kernel_rfl) (by kernel_rfl) (by kernel_rfl) (fun _ _ _ h => h) (Or.inl ⟨by kernel_rfl, ?_⟩) hH ?_
        rotate_left
        · (intro W hSw; obtain ⟨k1, k2⟩ := hSw; go_simp; try with_reducible rfl)
        try simp only [Act.put, List.getElem_toArray, List.getElem_cons_zero, List.getElem_cons_succ, List.setIfInBounds_toArray, List.set_cons_zero, List.set_cons_succ]
        refine wpAnyH_take (i := 12) (v := ?_) rfl (by kernel_rfl) (by kernel_rfl) (by kernel_rfl) (fun _ _ _ h => h) (Or.inl ⟨by kernel_rfl, ?_⟩) hH ?_
        rotate_left
        · (intro W hSw; obtain ⟨k1, k2⟩ := hSw; go_simp; try with_reducible rfl)
        try simp only [Act.put, List.getElem_toArray, List.getElem_cons_zero, List.getElem_cons_succ, List.setIfInBounds_toArray, List.set_cons_zero, List.set_cons_succ]
        refine wpAnyH_ready (rs := [8]) (by kernel_rfl) (by simp) ?_
        refine AllReadyH.cons rfl (fun K hK => ?_) ?_
        · go_simp
          go_wp2_with (refine (HLen.out).mono ?_; rintro e w6 ⟨rfl, rfl⟩)
          refine hK.out _ _ ?_ (fun hH => ?_)
          · exact hH
          clear hK K
          refine wpAnyH_take (i := 13) (v := (.bool false)) rfl (by kernel_rfl) (by kernel_rfl) (by kernel_rfl) (fun _ _ _ h => h) (Or.inl ⟨by kernel_rfl, ?_⟩) hH ?_
          · (intro W hSw; obtain ⟨k1, k2⟩ := hSw; go_simp; exact (IntWalk.i64_in _ (by omega)).symm)
          refine wpAnyH_take (i := 14) (v := ?_) rfl (by kernel_rfl) (by kernel_rfl) (by kernel_rfl) (fun _ _ _ h => h) (Or.inl ⟨by kernel_rfl, ?_⟩) hH ?_
          rotate_left
          · (intro W hSw; obtain ⟨k1, k2⟩ := hSw; go_simp; try with_reducible rfl)
          refine wpAnyH_take (i := 15) (v := ?_) rfl (by kernel_rfl) (by kernel_rfl) (by kernel_rfl) (fun _ _ _ h => h) (Or.inl ⟨by kernel_rfl, ?_⟩) hH ?_
          rotate_left
          · (intro W hSw; obtain ⟨k1, k2⟩ := hSw; go_simp; try with_reducible rfl)
          try simp only [Act.put, List.getElem_toArray, List.getElem_cons_zero, List.getElem_cons_succ, List.setIfInBounds_toArray, List.set_cons_zero, List.set_cons_succ]
          refine wpAnyH_take (i := 16) (v := ?_) rfl (by kernel_rfl) (by kernel_rfl) (by kernel_rfl) (fun _ _ _ h => h) (Or.inl ⟨by kernel_rfl, ?_⟩) hH ?_
          rotate_left
          · (intro W hSw; obtain ⟨k1, k2⟩ := hSw; go_simp; try with_reducible rfl)
          refine wpAnyH_take (i := 18) (v := ?_) rfl (by kernel_rfl) (by kernel_rfl) (by kernel_rfl) (fun _ _ _ h => h) (Or.inl ⟨by kernel_rfl, ?_⟩) hH ?_
          rotate_left
          · (intro W hSw; obtain ⟨k1, k2⟩ := hSw; go_simp; try with_reducible rfl)
          refine wpAnyH_take (i := 19) (v := ?_) rfl (by kernel_rfl) (by kernel_rfl) (by kernel_rfl) (fun _ _ _ h => h) (Or.inl ⟨by kernel_rfl, ?_⟩) hH ?_
          rotate_left
          · (intro W hSw; obtain ⟨k1, k2⟩ := hSw; go_simp; try with_reducible rfl)
          try simp only [Act.put, List.getElem_toArray, List.getElem_cons_zero, List.getElem_cons_succ, List.setIfInBounds_toArray, List.set_cons_zero, List.set_cons_succ]
          refine wpAnyH_take (i := 20) (v := ?_) rfl (by kernel_rfl) (by kernel_rfl) (by kernel_rfl) (fun _ _ _ h => h) (Or.inl ⟨by kernel_rfl, ?_⟩) hH ?_
          rotate_left
          · (intro W hSw; obtain ⟨k1, k2⟩ := hSw; go_simp; try with_reducible rfl)
          try simp only [Act.put, List.getElem_toArray, List.getElem_cons_zero, List.getElem_cons_succ, List.setIfInBounds_toArray, List.set_cons_zero, List.set_cons_succ]
          refine wpAnyH_ready (rs := [17]) (by kernel_rfl) (by simp) ?_
          refine AllReadyH.cons rfl (fun K hK => ?_) ?_
          · go_simp
            go_wp2_with (refine (HFl.out).mono ?_; rintro e w6 ⟨rfl, rfl⟩)
            refine hK.out _ _ ?_ (fun hH => ?_)
            · exact hH
            clear hK K
            refine wpAnyH_take (i := 21) (v := (.bool false)) rfl (by kernel_rfl) (by kernel_rfl) (by kernel_rfl) (fun _ _ _ h => h) (Or.inl ⟨by kernel_rfl, ?_⟩) hH ?_
            · (intro W hSw; obtain ⟨k1, k2⟩ := hSw; go_simp; exact (IntWalk.i64_in _ (by omega)).symm)
            refine wpAnyH_take (i := 22) (v := ?_) rfl (by kernel_rfl) (by kernel_rfl) (by kernel_rfl) (fun _ _ _ h => h) (Or.inl ⟨by kernel_rfl, ?_⟩) hH ?_
            rotate_left
            · (intro W hSw; obtain ⟨k1, k2⟩ := hSw; go_simp; try with_reducible rfl)
            refine wpAnyH_done (by kernel_rfl) ?_ _
            have hlt5 : wr.heap.size < w5.heap.size := by have := hf5.out.size; rw [hsa] at this; omega
            have ROW5 : Hid (w5.ownsRow w.heap.size 5 1 (.slice (some ⟨gb, 0, none⟩) bn bc) bn (code.map (Value.int .u8))) := Lib.hid (own_fr (w := (wr.alloc (.cells #[.int .u32 (j : Int), .int .u32 (j : Int)] 31)).drew) (hrow.alloc _) hf5.out (fun q e hS => hS (.inr (.inl (by have e : gb = q := (by simpa [Value.ownBlock] using e); omega)))))
            have F5 : Hid (Fr (fun _ => False) w w5) := Lib.hid (by obtain ⟨_, _, _, _, _, fr⟩ := HR.out; exact ((fr.alloc _).drew).trans hf5.out (fun q hq e => e (.inl hq)))
            have ROW6 : Hid (((w5.alloc (.cells #[.int .u8 2] 5)).drew).ownsRow w.heap.size 5 1 (.slice (some ⟨gb, 0, none⟩) bn bc) bn (code.map (Value.int .u8))) := Lib.hid (World.ownsRow.alloc ROW5.out _)
            have HNW : Hid (∀ (q : Nat) (u : Value), [Value.int .u8 2][q]? = some u → (w5.alloc (.cells #[.int .u8 2] 5)).drew.cell? ((⟨w5.heap.size, 0, none⟩ : Addr).add q) = some u) := Lib.hid (by
              intro q u hu
              cases q with
              | zero =>
                have e : Value.int .u8 2 = u := by simpa using hu
                subst e
                exact (Blk.new w5 5 #[.int .u8 2]).cell 0
              | succ q => simp at hu)
            have hgb5 : gb < w5.heap.size := by omega
            clear hS1 s1' s2' hrow hf5 Hp2 HLen HFl BK hb
            go_wp2_with fail
            refine wp_region_held_drew (S := SB wr.heap.size (j : Int)) (by kernel_rfl) (hH) (fun hH => ?_)
            refine wpAnyH_take (i := 0) (v := ?_) rfl (by kernel_rfl) (by kernel_rfl) (by kernel_rfl) (fun _ _ _ h => h) (Or.inl ⟨by kernel_rfl, ?_⟩) hH ?_
            rotate_left
            · (intro W hSw; obtain ⟨k1, k2⟩ := hSw; go_simp; try with_reducible rfl)
            refine wpAnyH_take (i := 1) (v := ?_) rfl (by kernel_rfl) (by kernel_rfl) (by kernel_rfl) (fun _ _ _ h => h) (Or.inl ⟨by kernel_rfl, ?_⟩) hH ?_
            rotate_left
            · (intro W hSw; obtain ⟨k1, k2⟩ := hSw; go_simp; try with_reducible rfl)
            refine wpAnyH_take (i := 2) (v := ?_) rfl (by kernel_rfl) (by kernel_rfl) (by kernel_rfl) (fun _ _ _ h => h) (Or.inl ⟨by kernel_rfl, ?_⟩) hH ?_
            rotate_left
            · (intro W hSw; obtain ⟨k1, k2⟩ := hSw; go_simp; try with_reducible rfl)
            try simp only [Act.put, List.getElem_toArray, List.getElem_cons_zero, List.getElem_cons_succ, List.setIfInBounds_toArray, List.set_cons_zero, List.set_cons_succ]
            refine wpAnyH_ready (rs := [3]) (by kernel_rfl) (by simp) ?_
            refine AllReadyH.cons rfl (fun K hK => ?_) ?_
            · go_simp
              refine hK.out _ _ ?_ (fun hH => ?_)
              · exact ⟨((Fr.refl (fun _ => False) w5).alloc _).cell hH.1 hlt5 (fun e => e), ((Fr.refl (fun _ => False) w5).alloc _).cell hH.2 hlt5 (fun e => e)⟩
              clear hK K
              refine wpAnyH_ready (rs := [4]) (by kernel_rfl) (by simp) ?_
              refine AllReadyH.cons rfl (fun K hK => ?_) ?_
              · refine step_append_keeps rfl (.tmp 71) (.tmp 72) 22 rfl w.heap.size 5 i0 _ 1 1 Try.underlying22 hin hz0 hz1 hz2 rfl (by omega) gb bn bc _ (by simp [Act.eval, Act.put]) ROW6.out ⟨w5.heap.size, 0, none⟩ 1 1 [.int .u8 2] (by simp [Act.eval, Act.put]) rfl HNW.out (by simp [Value.oneCell']) (by simp only [maxLen]; omega) (by omega) ?_
                intro A7 c7 w7 hown7 hrow7 f7
                refine hK.out _ _ ?_ (fun hH => ?_)
                · (have hlt6 : wr.heap.size < (w5.alloc (.cells #[.int .u8 2] 5)).drew.heap.size := (by show wr.heap.size < (w5.heap.push _).size; simp; omega); have hne6 : ¬ wr.heap.size = gb := (by omega); exact ⟨f7.cell hH.1 hlt6 hne6, f7.cell hH.2 hlt6 hne6⟩)
                clear hK K
                rw [show (code.map (Value.int .u8) ++ [Value.int .u8 2]) = (code ++ [2]).map (Value.int .u8) from by simp] at hown7
                have HO7 := Lib.hid hown7
                have HR7 := Lib.hid hrow7
                have F7 := Lib.hid f7
                have hs7 := f7.size
                rw [show (w5.alloc (.cells #[.int .u8 2] 5)).drew.heap.size = w5.heap.size + 1 from by show (w5.heap.push _).size = _; simp] at hs7
                have HL2 : Hid ((code ++ [2]).length = bn + 1) := Lib.hid (by rw [List.length_append, HCL.out]; rfl)
                clear hown7 hrow7 f7
                have Hq : Hid (Calls Try.prog 11 #[.pointer (some ⟨g, 0, none⟩), .agg #[.int .u32 (j : Int), .int .u32 (j : Int), .slice A7 (bn + 1) c7, .int .i64 2]] w7 fun e w8 => e = .returned (.bool true) ∧
                    Hid (∃ s2, Cch w8 g s2 ∧ OwnK (fun q => q < w.heap.size ∨ q = gb ∨ q = wr.heap.size) g s2 ∧ FullAt k (j + 1) s2 ∧ s2.bl.length = x + 1 ∧ s2.fl = (y : Int) ∧ ∃ b : Bk, b.code.length = bn + 1 ∧ b.ct = 2 ∧ ∃ jx : Nat, idx ((j : Int), (j : Int)) s2.bl = jx ∧ nthB s2.bl jx = b) ∧ Hid (Fr (fun q => ¬ (q < w.heap.size ∨ q = gb ∨ q = wr.heap.size)) w7 w8)) := Lib.hid (by
                  obtain ⟨s1, c5, o5, a5, l5, fl5, jx, hjx⟩ := hx5.out
                  have c6 : Cch (w5.alloc (.cells #[.int .u8 2] 5)).drew g s1 := c5.fr0 (((Fr.refl _ w5).alloc _).drew)
                  have c7' : Cch w7 g s1 := c6.fr F7.out (fun q hq e => o5 q (by first | exact hq | exact .inl hq) (.inr (.inl e)))
                  have hr := Reads.of_own HO7.out
                  rw [← HL2.out] at hr
                  have hc := HCO.out
                  have hp := put_k (fun q => q < w.heap.size ∨ q = gb ∨ q = wr.heap.size) w7 g s1 c7' o5 (fun q e => by omega) (j : Int) (j : Int) (code ++ [2]) 2 A7 c7 w7.heap.size hr (Nat.le_refl _) (by unfold Ky.Ok; omega) (by omega) ⟨by simp, by rw [List.length_append]; have := hc.2.1; have := HCL.out; simp; omega, fun z hz => by
                    rcases List.mem_append.1 hz with hz | hz
                    · exact hc.2.2 z hz
                    · rw [List.mem_singleton.1 hz]; omega⟩ (by rw [fl5]; have := HY.out; omega)
                  rw [HL2.out] at hp
                  refine hp.mono ?_
                  rintro e w8 ⟨g1, A', c', A2, c2, gm2, g2, g3, g4⟩
                  obtain ⟨x1, x2, x3, x4, x5⟩ := full_again a5 ⟨(j : Int), (j : Int), code ++ [2], 2, A', c'⟩ rfl hjx A2 c2 gm2
                  exact ⟨g1, Lib.hid ⟨_, g2, g3, x1, by rw [x2, l5, HX.out], by rw [x3, fl5, HY.out], _, HL2.out, rfl, jx, x4, x5⟩, Lib.hid g4⟩)
                refine wpAnyH_take (i := 5) (v := ?_) rfl (by kernel_rfl) (by kernel_rfl) (by kernel_rfl) (fun _ _ _ h => h) (Or.inl ⟨by kernel_rfl, ?_⟩) hH ?_
                rotate_left
                · (intro W hSw; obtain ⟨k1, k2⟩ := hSw; go_simp; try with_reducible rfl)
                try simp only [Act.put, List.getElem_toArray, List.getElem_cons_zero, List.getElem_cons_succ, List.setIfInBounds_toArray, List.set_cons_zero, List.set_cons_succ]
                refine wpAnyH_ready (rs := [6]) (by kernel_rfl) (by simp) ?_
                refine AllReadyH.cons rfl (fun K hK => ?_) ?_
                · go_simp
                  go_wp2_with (refine (Hq.out).mono ?_; rintro e w8 ⟨rfl, hx8, hf8⟩; have HLen : Hid (Calls Try.prog 12 #[.pointer (some ⟨g, 0, none⟩)] w8 fun e w' => e = .returned (.int .i64 ((x : Int) + 1)) ∧ w8 = w') := Lib.hid (by obtain ⟨s1, c5, _, _, l5, _⟩ := hx8.out; have := len_any w8 g s1 c5; rw [l5] at this; exact this); have HFl : Hid (Calls Try.prog 13 #[.pointer (some ⟨g, 0, none⟩)] w8 fun e w' => e = .returned (.int .i64 (y : Int)) ∧ w8 = w') := Lib.hid (by obtain ⟨s1, c5, _, _, _, l5, _⟩ := hx8.out; have := flushes_any w8 g s1 c5; rw [l5] at this; exact this))
                  refine hK.out _ _ ?_ (fun hH => ?_)
                  · exact ⟨hf8.out.cell hH.1 (by show wr.heap.size < w7.heap.size; omega) (fun e => e (.inr (.inr rfl))), hf8.out.cell hH.2 (by show wr.heap.size < w7.heap.size; omega) (fun e => e (.inr (.inr rfl)))⟩
                  clear hK K
                  refine wpAnyH_take (i := 7) (v := ?_) rfl (by kernel_rfl) (by kernel_rfl) (by kernel_rfl) (fun _ _ _ h => h) (Or.inl ⟨by kernel_rfl, ?_⟩) hH ?_
                  rotate_left
                  · (intro W hSw; obtain ⟨k1, k2⟩ := hSw; go_simp; try with_reducible rfl)
                  refine wpAnyH_take (i := 8) (v := ?_) rfl (by kernel_rfl) (by kernel_rfl) (by kernel_rfl) (fun _ _ _ h => h) (Or.inl ⟨by kernel_rfl, ?_⟩) hH ?_
                  rotate_left
                  · (intro W hSw; obtain ⟨k1, k2⟩ := hSw; go_simp; try with_reducible rfl)
                  refine wpAnyH_take (i := 9) (v := ?_) rfl (by kernel_rfl) (by kernel_rfl) (by kernel_rfl) (fun _ _ _ h => h) (Or.inl ⟨by kernel_rfl, ?_⟩) hH ?_
                  rotate_left
                  · (intro W hSw; obtain ⟨k1, k2⟩ := hSw; go_simp; try with_reducible rfl)
                  try simp only [Act.put, List.getElem_toArray, List.getElem_cons_zero, List.getElem_cons_succ, List.setIfInBounds_toArray, List.set_cons_zero, List.set_cons_succ]
                  refine wpAnyH_take (i := 11) (v := ?_) rfl (by kernel_rfl) (by kernel_rfl) (by kernel_rfl) (fun _ _ _ h => h) (Or.inl ⟨by kernel_rfl, ?_⟩) hH ?_
                  rotate_left
                  · (intro W hSw; obtain ⟨k1, k2⟩ := hSw; go_simp; try with_reducible rfl)
                  refine wpAnyH_take (i := 12) (v := ?_) rfl (by kernel_rfl) (by kernel_rfl) (by kernel_rfl) (fun _ _ _ h => h) (Or.inl ⟨by kernel_rfl, ?_⟩) hH ?_
                  rotate_left
                  · (intro W hSw; obtain ⟨k1, k2⟩ := hSw; go_simp; try with_reducible rfl)
                  refine wpAnyH_take (i := 13) (v := ?_) rfl (by kernel_rfl) (by kernel_rfl) (by kernel_rfl) (fun _ _ _ h => h) (Or.inl ⟨by kernel_rfl, ?_⟩) hH ?_
                  rotate_left
                  · (intro W hSw; obtain ⟨k1, k2⟩ := hSw; go_simp; try with_reducible rfl)
                  try simp only [Act.put, List.getElem_toArray, List.getElem_cons_zero, List.getElem_cons_succ, List.setIfInBounds_toArray, List.set_cons_zero, List.set_cons_succ]
                  refine wpAnyH_take (i := 14) (v := ?_) rfl (by kernel_rfl) (by kernel_rfl) (by kernel_rfl) (fun _ _ _ h => h) (Or.inl ⟨by kernel_rfl, ?_⟩) hH ?_
                  rotate_left
                  · (intro W hSw; obtain ⟨k1, k2⟩ := hSw; go_simp; try with_reducible rfl)
                  try simp only [Act.put, List.getElem_toArray, List.getElem_cons_zero, List.getElem_cons_succ, List.setIfInBounds_toArray, List.set_cons_zero, List.set_cons_succ]
                  refine wpAnyH_ready (rs := [10]) (by kernel_rfl) (by simp) ?_
                  refine AllReadyH.cons rfl (fun K hK => ?_) ?_
                  · go_simp
                    go_wp2_with (refine (HLen.out).mono ?_; rintro e w6 ⟨rfl, rfl⟩)
                    refine hK.out _ _ ?_ (fun hH => ?_)
                    · exact hH
                    clear hK K
                    refine wpAnyH_take (i := 15) (v := (.bool false)) rfl (by kernel_rfl) (by kernel_rfl) (by kernel_rfl) (fun _ _ _ h => h) (Or.inl ⟨by kernel_rfl, ?_⟩) hH ?_
                    · (intro W hSw; obtain ⟨k1, k2⟩ := hSw; go_simp; exact (IntWalk.i64_in _ (by omega)).symm)
                    refine wpAnyH_take (i := 16) (v := ?_) rfl (by kernel_rfl) (by kernel_rfl) (by kernel_rfl) (fun _ _ _ h => h) (Or.inl ⟨by kernel_rfl, ?_⟩) hH ?_
                    rotate_left
                    · (intro W hSw; obtain ⟨k1, k2⟩ := hSw; go_simp; try with_reducible rfl)
                    refine wpAnyH_take (i := 17) (v := ?_) rfl (by kernel_rfl) (by kernel_rfl) (by kernel_rfl) (fun _ _ _ h => h) (Or.inl ⟨by kernel_rfl, ?_⟩) hH ?_
                    rotate_left
                    · (intro W hSw; obtain ⟨k1, k2⟩ := hSw; go_simp; try with_reducible rfl)
                    try simp only [Act.put, List.getElem_toArray, List.getElem_cons_zero, List.getElem_cons_succ, List.setIfInBounds_toArray, List.set_cons_zero, List.set_cons_succ]
                    refine wpAnyH_take (i := 18) (v := ?_) rfl (by kernel_rfl) (by kernel_rfl) (by kernel_rfl) (fun _ _ _ h => h) (Or.inl ⟨by kernel_rfl, ?_⟩) hH ?_
                    rotate_left
                    · (intro W hSw; obtain ⟨k1, k2⟩ := hSw; go_simp; try with_reducible rfl)
                    refine wpAnyH_take (i := 20) (v := ?_) rfl (by kernel_rfl) (by kernel_rfl) (by kernel_rfl) (fun _ _ _ h => h) (Or.inl ⟨by kernel_rfl, ?_⟩) hH ?_
                    rotate_left
                    · (intro W hSw; obtain ⟨k1, k2⟩ := hSw; go_simp; try with_reducible rfl)
                    refine wpAnyH_take (i := 21) (v := ?_) rfl (by kernel_rfl) (by kernel_rfl) (by kernel_rfl) (fun _ _ _ h => h) (Or.inl ⟨by kernel_rfl, ?_⟩) hH ?_
                    rotate_left
                    · (intro W hSw; obtain ⟨k1, k2⟩ := hSw; go_simp; try with_reducible rfl)
                    try simp only [Act.put, List.getElem_toArray, List.getElem_cons_zero, List.getElem_cons_succ, List.setIfInBounds_toArray, List.set_cons_zero, List.set_cons_succ]
                    refine wpAnyH_take (i := 22) (v := ?_) rfl (by kernel_rfl) (by kernel_rfl) (by kernel_rfl) (fun _ _ _ h => h) (Or.inl ⟨by kernel_rfl, ?_⟩) hH ?_
                    rotate_left
                    · (intro W hSw; obtain ⟨k1, k2⟩ := hSw; go_simp; try with_reducible rfl)
                    try simp only [Act.put, List.getElem_toArray, List.getElem_cons_zero, List.getElem_cons_succ, List.setIfInBounds_toArray, List.set_cons_zero, List.set_cons_succ]
                    refine wpAnyH_ready (rs := [19]) (by kernel_rfl) (by simp) ?_
                    refine AllReadyH.cons rfl (fun K hK => ?_) ?_
                    · go_simp
                      go_wp2_with (refine (HFl.out).mono ?_; rintro e w6 ⟨rfl, rfl⟩)
                      refine hK.out _ _ ?_ (fun hH => ?_)
                      · exact hH
                      clear hK K
                      refine wpAnyH_take (i := 23) (v := (.bool false)) rfl (by kernel_rfl) (by kernel_rfl) (by kernel_rfl) (fun _ _ _ h => h) (Or.inl ⟨by kernel_rfl, ?_⟩) hH ?_
                      · (intro W hSw; obtain ⟨k1, k2⟩ := hSw; go_simp; exact (IntWalk.i64_in _ (by omega)).symm)
                      refine wpAnyH_take (i := 24) (v := ?_) rfl (by kernel_rfl) (by kernel_rfl) (by kernel_rfl) (fun _ _ _ h => h) (Or.inl ⟨by kernel_rfl, ?_⟩) hH ?_
                      rotate_left
                      · (intro W hSw; obtain ⟨k1, k2⟩ := hSw; go_simp; try with_reducible rfl)
                      refine wpAnyH_done (by kernel_rfl) ?_ _
                      have hlt8 : wr.heap.size < w8.heap.size := by have := hf8.out.size; omega
                      have F8 : Hid (Fr (fun _ => False) w w8) := Lib.hid (((((F5.out.alloc _).drew).trans F7.out (fun q hq e => by have := hgb1; omega)).trans hf8.out (fun q hq e => e (.inl hq))))
                      have ROW8 : Hid (w8.ownsRow w.heap.size 5 1 (.slice (some ⟨gb, 0, none⟩) bn bc) bn (code.map (Value.int .u8))) := Lib.hid (own_fr HR7.out hf8.out (fun q e hS => hS (.inr (.inl (by have e : gb = q := (by simpa [Value.ownBlock] using e); omega)))))
                      have Hf : Hid (Calls Try.prog 14 #[.pointer (some ⟨g, 0, none⟩), .agg #[.int .u32 (j : Int), .int .u32 (j : Int)]] w8 fun e w9 => ∃ A c p1 p2, e = .returned (.tuple #[.agg #[.int .u32 p1, .int .u32 p2, .slice A (bn + 1) c, .int .i64 2], .bool true]) ∧ Hid (∀ o, CR w g gb bn bc k code (j + 1) (w9.alloc o))) := Lib.hid (by
                        obtain ⟨s2, c8, o8, a8, _, _, b, b1, b2, jx, b3, b4⟩ := hx8.out
                        refine (find_yes w8 g s2 c8 ((j : Int), (j : Int)) jx b3).mono ?_
                        rw [b4]
                        rintro e w9 ⟨A, c, g1, g2, g3⟩
                        rw [b1, b2] at g1
                        exact ⟨A, c, b.pc, b.pl, g1, Lib.hid (fun o => ⟨s2, c8.fr0 (g3.alloc o), fun q hq e => o8 q hq (by omega), a8, own_fr ROW8.out (g3.alloc o) (fun _ _ e => e), F8.out.tr (g3.alloc o)⟩)⟩)
                      have k1 := hH.1
                      have k2 := hH.2
                      clear hH HLen HFl Hq
                      go_wp2_with fail
                      refine (Hf.out).mono ?_
                      rintro e w9 ⟨A9, c9, p1, p2, rfl, HC9⟩
                      clear k1 k2 Hf
                      go_wp2_with fail
                      exact ⟨⟨j + 1, by omega, by go_num, HC9.out _⟩, by simp [intOf]; omega⟩
                    exact AllReadyH.nil
                  exact AllReadyH.nil
                exact AllReadyH.nil
              exact AllReadyH.nil
            exact AllReadyH.nil
          exact AllReadyH.nil
        exact AllReadyH.nil
      exact AllReadyH.nil
    · have hd : decide ((j : Int) < (m : Int)) = false := by simp; omega
      obtain ⟨s, h, ho, hf, hrow, fr⟩ := HR.out
      have hfl : s.fl ≤ 1000000 := by
        rw [hf.fl]
        have : (j - 1) / k ≤ j - 1 := Nat.div_le_self _ _
        split <;> omega
      have Hlen := Lib.hid (len_any wr g s h)
      have Hfu := Lib.hid (flush_any wr g s h hfl)
      obtain ⟨bl, hbl⟩ : ∃ q, s.bl.length = q := ⟨_, rfl⟩
      rw [hbl] at Hlen Hfu
      have HO2 := Lib.hid ho
      have HFR := Lib.hid fr
      clear hrow hf h ho fr hbl hfl
      go_wp2_with fail
      refine (Hlen.out).mono ?_
      rintro e w' ⟨rfl, rfl⟩
      go_wp2_with fail
      refine (Hfu.out).mono ?_
      rintro e w4 ⟨gm4, rfl, h4, _, _, f4⟩
      have Hl4 : Hid (Calls Try.prog 12 #[.pointer (some ⟨g, 0, none⟩)] w4 fun e w' => e = .returned (.int .i64 0) ∧ w4 = w') := Lib.hid (len_any w4 g _ h4)
      have Hk4 : Hid (Calls Try.prog 16 #[.pointer (some ⟨g, 0, none⟩)] w4 fun e w' => ∃ A c, e = .returned (.slice A 0 c) ∧ Fr (fun _ => False) w4 w') := Lib.hid ((keys_any w4 g _ h4).mono fun e w' ⟨A, c, g1, _, g3⟩ => ⟨A, c, g1, g3⟩)
      have F4 : Hid (Fr (fun _ => False) w w4) := Lib.hid (HFR.out.trans f4 (fun q hq e => HO2.out q (by rw [e]; exact .inl (.inl rfl)) (.inl hq)))
      clear Hlen Hfu h4 f4
      go_wp2_with fail
      refine (Hl4.out).mono ?_
      rintro e w' ⟨rfl, rfl⟩
      go_wp2_with fail
      refine (Hk4.out).mono ?_
      rintro e w5 ⟨A5, c5, rfl, f5⟩
      have Hkn := Lib.hid (known_any w5)
      have F5 := Lib.hid (F4.out.tr f5)
      clear f5 Hk4 Hl4
      go_wp2_with fail
      refine (Hkn.out).mono ?_
      rintro e w6 ⟨rfl, f6⟩
      have F6 := Lib.hid (F5.out.tr f6)
      clear f6 Hkn
      go_wp2_with fail
      go_ret
      exact ⟨rfl, F6.out⟩
end Go.Proofs.Ytfjlgdafakbdoaa.cacheFull
