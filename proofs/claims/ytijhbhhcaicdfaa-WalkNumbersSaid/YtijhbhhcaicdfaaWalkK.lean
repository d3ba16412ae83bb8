/- The statements of layer 8: known. -/
import Derived.Test.YtijhbhhcaicdfaaWalkB
import Derived.Test.YtijhbhhcaicdfaaWalkD
namespace Go.Proofs.Ytijhbhhcaicdfaa.Wk
open Go.RowKit Fm Nt Rm By
set_option linter.unusedVariables false
set_option maxHeartbeats 8000000

def L8 (k : Nat) : Pt := if k = 0 then ⟨0, 1, 257⟩ else ⟨16, 2, 259⟩
theorem wrd_wby (m : Ms) (i : Nat) (v : Int) (h0 : 0 ≤ v) (h1 : v ≤ 4294967295) : wrd (m.puts i (wby v) 4) i 4 = v := by
  show (((0 * 256 + (m.puts i (wby v) 4).mem (i + 3)) * 256 + (m.puts i (wby v) 4).mem (i + 2)) * 256 + (m.puts i (wby v) 4).mem (i + 1)) * 256 + (m.puts i (wby v) 4).mem (i + 0) = v
  rw [puts_mem, puts_mem, puts_mem, puts_mem, if_pos (by omega), if_pos (by omega), if_pos (by omega), if_pos (by omega)]
  rw [show i + 3 - i = 3 by omega, show i + 2 - i = 2 by omega, show i + 1 - i = 1 by omega, show i + 0 - i = 0 by omega]
  show (((0 * 256 + v / 16777216 % 256) * 256 + v / 65536 % 256) * 256 + v / 256 % 256) * 256 + v % 256 = v
  omega
theorem wrd_bytes (m : Ms) (i : Nat) : wrd m i 4 = ((m.mem (i + 3) * 256 + m.mem (i + 2)) * 256 + m.mem (i + 1)) * 256 + m.mem i := by
  show (((0 * 256 + m.mem (i + 3)) * 256 + m.mem (i + 2)) * 256 + m.mem (i + 1)) * 256 + m.mem (i + 0) = _
  simp
/-- the memory that the statements' own runs have -/
def m8 : Ms := Ms.init 8 (lst (tabZ L8 2) 512)
theorem m8_n : m8.n = 8 := init_n _ _
theorem mz_mem (z : Nat → Int) (N n : Nat) (hN : N ≤ n * 64) (i : Nat) (h : i < N) : (Ms.init n (lst z N)).mem i = z i := by
  rw [init_mem _ _ (by rw [lst_len]; exact hN), lst_len, if_pos h, lst_at _ h]
theorem m8_mem (i : Nat) (h : i < 512) : m8.mem i = tabZ L8 2 i := mz_mem _ 512 8 (by omega) i h
theorem m8_w (i : Nat) (h : i + 4 ≤ 512) : wrdV m8 (i : Int) = ((tabZ L8 2 (i + 3) * 256 + tabZ L8 2 (i + 2)) * 256 + tabZ L8 2 (i + 1)) * 256 + tabZ L8 2 i := by
  have hb : inB m8 (i : Int) 4 = true := by rw [inB, m8_n]; simp; omega
  rw [wrdV, hb, if_pos rfl, show (i : Int).toNat = i from rfl]
  rw [wrd_bytes, m8_mem _ (by omega), m8_mem _ (by omega), m8_mem _ (by omega), m8_mem _ (by omega)]
theorem m8_0 : wrdV m8 0 = 257 := by
  have := m8_w 0 (by omega)
  rw [show ((0 : Nat) : Int) = 0 from rfl] at this
  rw [this]
  decide
theorem m8_64 : wrdV m8 64 = 515 := by
  have := m8_w 64 (by omega)
  rw [show ((64 : Nat) : Int) = 64 from rfl] at this
  rw [this]
  decide
theorem k_A : lkA 0 5 = 0 := by decide
theorem k_B : lkB m8 0 5 = 64 := by rw [lkB, k_A, m8_0]; decide
theorem k_ok : lkOk m8 0 5 = true := by
  rw [lkOk, k_B, k_A, m8_0]
  simp [inB, m8_n]
theorem k_at : lkAt m8 0 5 = 64 := by rw [lkAt, k_ok, if_pos rfl, k_B]
theorem k_leaf : lkLeaf m8 0 5 = 515 := by rw [lkLeaf, k_ok, if_pos rfl, k_B, m8_64]
theorem k_now : now 2 515 = 547 := by decide
theorem k_do : doOk m8 0 5 2 true = true := by
  rw [doOk, k_ok, k_leaf]
  decide
theorem k_ms : doMs m8 0 5 2 = m8.putW 64 547 := by rw [doMs, k_leaf, k_at, k_now, if_neg (by decide)]
theorem k_w : wrdV (m8.putW 64 547) 64 = 547 ∧ inB (m8.putW 64 547) 64 4 = true := by
  have hb : inB m8 64 4 = true := by rw [inB, m8_n]; decide
  have e : m8.putW 64 547 = m8.puts 64 (wby 547) 4 := by rw [Ms.putW, hb, if_pos rfl]; rfl
  have hb2 : inB (m8.putW 64 547) 64 4 = true := by rw [e, inB, puts_n, m8_n]; decide
  refine ⟨?_, hb2⟩
  rw [wrdV, hb2, if_pos rfl, e]
  exact wrd_wby m8 64 547 (by omega) (by omega)
theorem k_no (m : Ms) : doOk m 0 16384 2 true = false := by
  rw [doOk, lkOk]
  simp
set_option maxRecDepth 100000 in
theorem known8 (w : World) : Calls Try.prog 20 #[] w fun e w' => e = .returned (.bool true) ∧ Fr (fun _ => False) w w' := by
  have fa := (Fr.refl (fun _ => False) w).alloc (.cells #[.int .i64 0, .int .i64 1, .int .u32 257, .int .i64 16, .int .i64 2, .int .u32 259] 48)
  have hb := Blk.new w 48 #[.int .i64 0, .int .i64 1, .int .u32 257, .int .i64 16, .int .i64 2, .int .u32 259]
  have hL : PtsAt (w.alloc (.cells #[.int .i64 0, .int .i64 1, .int .u32 257, .int .i64 16, .int .i64 2, .int .u32 259] 48)) (w.alloc (.cells #[.int .i64 0, .int .i64 1, .int .u32 257, .int .i64 16, .int .i64 2, .int .u32 259] 48)).heap.size (some ⟨w.heap.size, 0, none⟩) 2 L8 := fun i hi => by
    refine ⟨w.heap.size, 0, rfl, hb.lt, ?_⟩
    rcases (by omega : i = 0 ∨ i = 1) with rfl | rfl
    · exact ⟨⟨hb.cell 0, hb.cell 1, hb.cell 2⟩, by decide, by decide, by decide⟩
    · exact ⟨⟨hb.cell 3, hb.cell 4, hb.cell 5⟩, by decide, by decide, by decide⟩
  have Ht := Lib.hid (tables_any _ _ 2 2 L8 hL (by simp [maxLen]))
  have hs0 : w.heap.size + 1 ≤ (w.alloc (.cells #[.int .i64 0, .int .i64 1, .int .u32 257, .int .i64 16, .int .i64 2, .int .u32 259] 48)).heap.size := by simp
  have HFa := Lib.hid fa
  clear hL hb fa
  go_enter Try.func20, Try.ntmps20
  go_wp2_with fail
  generalize w.alloc (.cells #[.int .i64 0, .int .i64 1, .int .u32 257, .int .i64 16, .int .i64 2, .int .u32 259] 48) = w1 at *
  refine (Ht.out).mono ?_
  rintro e w2 ⟨rfl, hc2, f2⟩
  have hI2 := cells_ints hc2 (fun i hi => tabZ_bd _ _ _)
  have Hbo := Lib.hid (both8 w2 _ 512 512 8 _ _ hI2 hc2.lt (by omega) (by omega) (by omega))
  have fr2 := HFa.out.tr f2
  clear hc2 hI2
  go_wp2_with fail
  refine (Hbo.out).mono ?_
  rintro e w3 ⟨a, gM, gb, gt, rfl, hM, hR, hsp, hge, f3⟩
  have hM : Mem w3 a m8 := hM
  have fr3 := fr2.tr f3
  have Hge := Lib.hid (show ∀ k, a.own k → w.heap.size ≤ k from fun k hk => by have := hge k (.inr (.inr (.inr hk))); have := fr2.size; omega)
  have hd := do_ok w3 a m8 hM 0 5 2 true (by omega) (by omega) (by omega) (by omega) (.inr (.inl rfl)) k_do
  rw [k_leaf, k_now, k_ms] at hd
  have b94 : bits .and .u32 547 94 = 2 := by decide
  rw [b94] at hd
  unfold trap0 at hd
  have Hd := Lib.hid hd
  clear hd hge hsp hR hM
  go_wp2_with fail
  refine (Hd.out).mono ?_
  rintro e w4 ⟨rfl, hM4, f4⟩
  have fr4 := fr3.trans (S := fun _ => False) f4 (fun i hi e => by have := Hge.out i e; omega)
  have c3 := Blk.new w4 53 #[.bool true, .int .u32 0, .int .u32 2, .int .u32 2]
  have hs4 : (w4.alloc (.cells #[.bool true, .int .u32 0, .int .u32 2, .int .u32 2] 53)).heap.size = w4.heap.size + 1 := by simp
  have c4 := Blk.new (w4.alloc (.cells #[.bool true, .int .u32 0, .int .u32 2, .int .u32 2] 53)) 55 #[.int .i64 0, .int .u32 0]
  rw [hs4] at c4
  have c3 := c3.alloc (.cells #[.int .i64 0, .int .u32 0] 55)
  have fb : Fr (fun _ => False) w4 ((w4.alloc (.cells #[.bool true, .int .u32 0, .int .u32 2, .int .u32 2] 53)).alloc (.cells #[.int .i64 0, .int .u32 0] 55)) := ((Fr.refl _ w4).alloc _).alloc _
  have hM5 := hM4.fr0 fb
  have fr5 := fr4.tr fb
  go_wp2_with fail
  generalize (w4.alloc (.cells #[.bool true, .int .u32 0, .int .u32 2, .int .u32 2] 53)).alloc (.cells #[.int .i64 0, .int .u32 0] 55) = w5 at *
  generalize w4.heap.size = g4 at *
  have hw := word_any w5 a _ hM5 64 (by omega) (by omega)
  rw [k_w.1, k_w.2] at hw
  have Hw := Lib.hid hw
  have hd := do_fault w5 a _ hM5 0 16384 2 true (by omega) (by omega) (by omega) (by omega) (.inr (.inl rfl)) (k_no _)
  rw [show flt 2 = 8 by decide] at hd
  unfold entry0 at hd
  have Hd2 := Lib.hid hd
  clear hd hw hM4 hM5 fb
  refine (Hw.out).mono ?_
  rintro e w' ⟨rfl, rfl⟩
  go_wp2_with fail
  refine (Hd2.out).mono ?_
  rintro e w6 ⟨rfl, f6⟩
  have fr6 := fr5.tr f6
  have d3 := (c3.fr f6 (fun e => e)).alloc (.cells #[.bool false, .int .u32 0, .int .u32 0, .int .u32 0] 53)
  have d3 := d3.alloc (.cells #[.int .i64 8, .int .u32 16384] 55)
  have d4 := (c4.fr f6 (fun e => e)).alloc (.cells #[.bool false, .int .u32 0, .int .u32 0, .int .u32 0] 53)
  have d4 := d4.alloc (.cells #[.int .i64 8, .int .u32 16384] 55)
  have e32 := d3.cell 2
  have e40 := d4.cell 0
  have e41 := d4.cell 1
  simp only [List.getElem?_toArray, List.getElem?_cons_succ, List.getElem?_cons_zero] at e32 e40 e41
  have HF := Lib.hid ((fr6.alloc (.cells #[.bool false, .int .u32 0, .int .u32 0, .int .u32 0] 53)).alloc (.cells #[.int .i64 8, .int .u32 16384] 55))
  clear d3 d4 c3 c4 Ht Hbo
  go_wp2_with fail
  go_ret
  exact ⟨rfl, HF.out⟩
end Go.Proofs.Ytijhbhhcaicdfaa.Wk
