/- CacheOrders. -/
import Derived.Test.YtfjlgdafakbdoaaCaQ
import Derived.Test.YtfjlgdafakbdoaaBook
namespace Go.Proofs.Ytfjlgdafakbdoaa.cacheOrders
open Go.RowKit Ca Bk
set_option linter.unusedVariables false
set_option linter.unusedSimpArgs false
set_option maxHeartbeats 4000000
set_option maxRecDepth 100000

/-- where the first loop stands -/
def OR (w : World) (g : Nat) (v : Value) (i : Nat) (wr : World) : Prop :=
  ∃ s ks A c, s.bl.map Bk.k = ks ∧ v = .slice A ks.length c ∧ Cch wr g s ∧ OwnK (fun q => q < w.heap.size ∨ ab A = some q) g s ∧ KRow wr w.heap.size A c ks ∧ s.room = 64 ∧ s.fl = 0 ∧ ks.length ≤ i ∧ Fr (fun _ => False) w wr
/-- behind Put -/
def PutD (w : World) (g b : Nat) (A : Option Addr) (ks : List Ky) (k : Ky) (W2 w5 : World) : Prop :=
  (∃ s', Cch w5 g s' ∧ OwnK (fun q => q < w.heap.size ∨ ab A = some q ∨ q = b) g s' ∧ s'.bl.map Bk.k = (if k ∈ ks then ks else ks ++ [k]) ∧ s'.room = 64 ∧ s'.fl = 0) ∧ Fr (fun q => ¬ (q < w.heap.size ∨ ab A = some q ∨ q = b)) W2 w5
theorem put_d (w : World) (g i : Nat) (wr w1 : World) (A : Option Addr) (c : Nat) (s : Cs) (ks : List Ky) (hks : s.bl.map Bk.k = ks) (h : Cch wr g s) (ho : OwnK (fun q => q < w.heap.size ∨ ab A = some q) g s) (hrow : KRow wr w.heap.size A c ks) (hroom : s.room = 64) (hfl : s.fl = 0) (hn : ks.length ≤ i) (hi : i < 40) (fr : Fr (fun _ => False) w wr) (f1 : Fr (fun _ => False) wr w1) (a b : Int) (ha : 0 ≤ a ∧ a < 5) (hb : 0 ≤ b ∧ b < 400) :
    Calls Try.prog 11 #[.pointer (some ⟨g, 0, none⟩), .agg #[.int .u32 a, .int .u32 b, .slice (some ⟨w1.heap.size + 1, 0, none⟩) 1 1, .int .i64 1]] ((w1.alloc (.cells #[.int .u32 a, .int .u32 b] 31)).alloc (.cells #[.int .u8 (i : Int)] 5)) fun e w5 => e = .returned (.bool true) ∧ PutD w g w1.heap.size A ks (a, b) ((w1.alloc (.cells #[.int .u32 a, .int .u32 b] 31)).alloc (.cells #[.int .u8 (i : Int)] 5)) w5 := by
  have s0 := fr.size
  have s1 := f1.size
  have sa : (w1.alloc (.cells #[.int .u32 a, .int .u32 b] 31)).heap.size = w1.heap.size + 1 := by simp
  have sb : ((w1.alloc (.cells #[.int .u32 a, .int .u32 b] 31)).alloc (.cells #[.int .u8 (i : Int)] 5)).heap.size = w1.heap.size + 2 := by simp
  have bd := Blk.new' (w1.alloc (.cells #[.int .u32 a, .int .u32 b] 31)) 5 #[.int .u8 (i : Int)] sa
  have f2 := (f1.alloc (.cells #[.int .u32 a, .int .u32 b] 31)).alloc (.cells #[.int .u8 (i : Int)] 5)
  have hlow := h.low
  have hr := hrow.lt
  refine (put_k (fun q => q < w.heap.size ∨ ab A = some q ∨ q = w1.heap.size) _ g s (h.fr0 f2) (fun q hq e => ?_) (fun q e => ?_) a b [(i : Int)] 1 (some ⟨w1.heap.size + 1, 0, none⟩) 1 _ (reads_blk (size := 1) (n := 1) bd rfl) bd.lt (by unfold Ky.Ok; exact ⟨by show 0 ≤ a ∧ _; omega, by show 0 ≤ b ∧ _; omega⟩) (by omega) ⟨by simp, by simp, fun z hz => by rw [List.mem_singleton.1 hz]; omega⟩ (by omega)).mono ?_
  · have := hlow q hq
    rcases e with e | e | e
    · exact ho q hq (.inl e)
    · exact ho q hq (.inr e)
    · omega
  · rw [sb]
    rcases e with e | e | e
    · omega
    · have := (hr q e).1; omega
    · omega
  · rintro e w5 ⟨g1, A', c', A2, c2, gm2, g2, g3, g4⟩
    have hl : (s.bl.length : Int) < s.room := by
      have : ks.length = s.bl.length := by rw [← hks, List.length_map]
      omega
    obtain ⟨p1, p2, p3⟩ := put_keys (b := ⟨a, b, [(i : Int)], 1, A', c'⟩) hl A2 c2 gm2
    exact ⟨g1, ⟨_, g2, g3, by rw [p3, hks]; rfl, by rw [p1, hroom], by rw [p2, hfl]⟩, g4⟩
theorem at_cells {w : World} {A : Option Addr} {n : Nat} {f : Nat → Ky} (h : At_k w A n f) {q : Nat} (hq : q < n) : ∃ g off, A = some ⟨g, off, none⟩ ∧ g < w.heap.size ∧ w.cell? ⟨g, off + q * 2, none⟩ = some (.int .u32 (f q).1) ∧ w.cell? ⟨g, off + q * 2 + 1, none⟩ = some (.int .u32 (f q).2) := by
  obtain ⟨g, off, e, c0, c1⟩ := h q hq
  refine ⟨g, off, e, ?_, c0, c1⟩
  rcases Nat.lt_or_ge g w.heap.size with h | h
  · exact h
  · rw [show w.cell? ⟨g, off + q * 2, none⟩ = none by simp [World.cell?, Array.getElem?_eq_none h]] at c0
    cases c0
theorem walk (w : World) (A0 : Option Addr) (len cap : Nat) (hlm : AsksAt w w.heap.size A0 len ∧ len ≤ maxLen) (page : Int) (hpage : (Lit.int .i64 page).wf = true) :
    Calls Try.prog 4 #[.slice A0 len cap, .int .i64 page] w fun e w' => e = .returned (.bool true) ∧ Fr (fun _ => False) w w' := by
  obtain ⟨hl, hm⟩ := hlm
  obtain ⟨p0, p1⟩ := wf_i64 hpage
  clear hpage
  obtain ⟨i0, hinf, hz0, hz1, hz2⟩ := info_parts info2
  obtain ⟨p, hp⟩ : ∃ p : Int, 0 + page % 7 = p := ⟨_, rfl⟩
  have hp0 : 0 ≤ p := by omega
  have hp6 : p ≤ 6 := by omega
  have Hw : Hid (∀ W, Calls Try.prog 8 #[.int .i64 page, .int .i64 0, .int .i64 6] W fun e w' => e = .returned (.int .i64 p) ∧ W = w') := Lib.hid (fun W => by
    have := within_any W page 0 6 p0 p1 (by omega) (by omega) (by omega)
    rw [show (6 : Int) - 0 + 1 = 7 by omega, hp] at this
    exact this)
  have Hn := Lib.hid (new_yes w 64 (by omega) (by omega))
  have HL := Lib.hid hl
  unfold maxLen at hm
  clear hl hp
  go_enter Try.func4, Try.ntmps4
  go_wp2_with fail
  refine (Hn.out).mono ?_
  rintro e w1 ⟨g, gm, rfl, h1, hg1, hgm1, hg2, hgm2, f1⟩
  have HOR0 : Hid (OR w g (.slice none 0 0) 0 w1) := Lib.hid ⟨Cs.new 64 gm, [], none, 0, rfl, rfl, h1, own_new (by rintro (e | e) <;> first | omega | cases e) (by rintro (e | e) <;> first | omega | cases e), KRow.nil _ _, rfl, rfl, Nat.le_refl _, f1⟩
  clear Hn h1 f1
  go_wp2_with fail
  go_loopw [7, 8] (fun v i wr => ∃ j : Nat, j ≤ len ∧ i = .int .i64 j ∧ OR w g v j wr) (fun _ i _ => len - (intOf i).toNat)
  case atStart => exact ⟨0, by omega, rfl, HOR0.out⟩
  case round =>
    obtain ⟨i, hi, rfl, s, ks, wA, c, hks, rfl, h, ho, hrow, hroom, hfl, hn, fr⟩ := hrel
    obtain ⟨wo, rfl⟩ : ∃ wo : World, wo = wr := ⟨_, rfl⟩
    have HKS := Lib.hid hks
    have HC := Lib.hid h
    have HO := Lib.hid ho
    have HR := Lib.hid hrow
    have HRM := Lib.hid hroom
    have HFL := Lib.hid hfl
    have HF := Lib.hid fr
    clear HOR0 hks h ho hrow hroom hfl fr
    by_cases hlt : i < len ∧ i < 40
    · obtain ⟨hl1, hl2⟩ := hlt
      obtain ⟨b, off, hA0, hb, x, hx⟩ := HL.out.at_ hl1
      subst hA0
      have hx2 := hx.fr HF.out hb (Nat.le_refl _) (fun _ _ e => e)
      obtain ⟨⟨_, _, c2, c3, _⟩, hok⟩ := hx2
      have hk1 := hok.a0
      have hk2 := hok.a1
      obtain ⟨u0, u1⟩ := wf_u32 hk1
      obtain ⟨v0, v1⟩ := wf_u32 hk2
      obtain ⟨ka, hka⟩ : ∃ z, x.a0 % 5 = z := ⟨_, rfl⟩
      obtain ⟨kb, hkb⟩ : ∃ z, x.a1 % 400 = z := ⟨_, rfl⟩
      have hka2 : 0 ≤ ka ∧ ka < 5 := by omega
      have hkb2 : 0 ≤ kb ∧ kb < 400 := by omega
      have Hkey : Hid (∀ W, Calls Try.prog 18 #[.agg #[.int .u32 x.a0, .int .u32 x.a1]] W fun e w' => e = .returned (.agg #[.int .u32 ka, .int .u32 kb]) ∧ Hid (Fr (fun _ => False) W w')) := Lib.hid (fun W => (key_any W x.a0 x.a1 hk1 hk2).mono (by
        rintro e w' ⟨rfl, f⟩
        rw [hka, hkb]
        exact ⟨rfl, Lib.hid f⟩))
      generalize x.a0 = xa at *
      generalize x.a1 = xb at *
      have hd1 : decide ((i : Int) < (len : Int)) = true := by simp; omega
      have hd2 : decide ((i : Int) < 40) = true := by simp; omega
      have hi0 : (0 : Int) ≤ (i : Int) := by omega
      have hi1 : (i : Int) < (len : Int) := by omega
      have hw8 : IntKind.u8.wrap (i : Int) = (i : Int) := IntWalk.u8_in _ (by omega)
      clear hx hok hk1 hk2 hka hkb
      go_wp2_with fail
      refine (Hkey.out _).mono ?_
      rintro e w2 ⟨rfl, f2⟩
      obtain ⟨ka0, ka1⟩ := hka2
      obtain ⟨kb0, kb1⟩ := hkb2
      have Hp := Lib.hid (put_d w g i wo w2 wA c s ks HKS.out HC.out HO.out HR.out HRM.out HFL.out hn hl2 HF.out f2.out ka kb ⟨ka0, ka1⟩ ⟨kb0, kb1⟩)
      clear Hkey
      go_wp2_with fail
      refine (Hp.out).mono ?_
      rintro e w5 ⟨rfl, hP⟩
      obtain ⟨⟨s', c5, o5, k5, m5, l5⟩, f5⟩ := hP
      have s2 := f2.out.size
      have s0 := HF.out.size
      have s5 := f5.size
      have sb : ((w2.alloc (.cells #[.int .u32 ka, .int .u32 kb] 31)).alloc (.cells #[.int .u8 (i : Int)] 5)).heap.size = w2.heap.size + 2 := by simp
      rw [sb] at s5
      have bk := (((Blk.new w2 31 #[.int .u32 ka, .int .u32 kb]).alloc (.cells #[.int .u8 (i : Int)] 5)).fr f5 (fun e => e (.inr (.inr rfl))))
      have hB5 : w2.heap.size < w5.heap.size := bk.lt
      have F5 : Hid (Fr (fun _ => False) w w5) := Lib.hid (((((HF.out.tr f2.out).alloc _).alloc _)).trans f5 (fun q hq e => e (.inl hq)))
      have R5 : Hid (KRow w5 w.heap.size wA c ks) := Lib.hid ((HR.out.fr (((f2.out).alloc (.cells #[.int .u32 ka, .int .u32 kb] 31)).alloc (.cells #[.int .u8 (i : Int)] 5)) (fun _ _ e => e)).fr f5 (fun q e e2 => e2 (.inr (.inl e))))
      have C5 := Lib.hid c5
      have O5 := Lib.hid o5
      have K5 := Lib.hid k5
      have M5 := Lib.hid m5
      have L5 := Lib.hid l5
      have B5 := Lib.hid bk
      clear Hp c5 o5 k5 m5 l5 f5 bk sb c2 c3
      obtain ⟨n, hnn⟩ : ∃ n, ks.length = n := ⟨_, rfl⟩
      rw [hnn]
      rw [hnn] at hn
      have HNN := Lib.hid hnn
      clear hnn
      go_wp2_with fail
      go_loopw [10, 11] (fun hv iv wr => ∃ (j : Nat) (t : Bool), j ≤ n ∧ iv = .int .i64 j ∧ hv = .bool t ∧ Hid (hadB ks (ka, kb) j = t) ∧ Hid (Fr (fun _ => False) w5 wr)) (fun _ iv _ => n - (intOf iv).toNat)
      case atStart => exact ⟨0, false, by omega, rfl, rfl, Lib.hid rfl, Lib.hid (Fr.refl _ _)⟩
      case round =>
        obtain ⟨j, t, hj, rfl, rfl, ht, hfw⟩ := hrel
        have hb5 := (B5.out.fr hfw.out (fun e => e))
        have u0' := hb5.cell 0
        have u1' := hb5.cell 1
        have u0 : wr.cell? ⟨w2.heap.size, 0, none⟩ = some (.int .u32 ka) := u0'
        have u1 : wr.cell? ⟨w2.heap.size, 1, none⟩ = some (.int .u32 kb) := u1'
        clear u0' u1' hb5
        by_cases hjn : j < n
        · have hd3 : decide ((j : Int) < (n : Int)) = true := by simp; omega
          have hj0 : (0 : Int) ≤ (j : Int) := by omega
          have hj1 : (j : Int) < (n : Int) := by omega
          have hjk : j < ks.length := by have := HNN.out; omega
          obtain ⟨ga, go, hA, _, e0, e1⟩ := at_cells (R5.out.fr hfw.out (fun _ _ e => e)).at_ hjk
          subst hA
          cases t with
          | true =>
            have HT : Hid (hadB ks (ka, kb) (j + 1) = true) := Lib.hid (hadB_stays hjk ht.out)
            clear ht e0 e1
            go_upto_region 15 with (fail)
            go_quiet (fail)
            go_wp2_with fail
            exact ⟨⟨j + 1, true, by omega, by go_num, rfl, HT, Lib.hid (hfw.out.drewN _)⟩, by simp [intOf]; omega⟩
          | false =>
            obtain ⟨y, hy⟩ : ∃ y, nthK ks j = y := ⟨_, rfl⟩
            rw [hy] at e0 e1
            obtain ⟨y0, y1⟩ := y
            have e0 : wr.cell? ⟨ga, go + j * 2, none⟩ = some (.int .u32 y0) := e0
            have e1 : wr.cell? ⟨ga, go + j * 2 + 1, none⟩ = some (.int .u32 y1) := e1
            by_cases c0 : y0 = ka
            · subst c0
              by_cases c1 : y1 = kb
              · subst c1
                have HT : Hid (hadB ks (y0, y1) (j + 1) = true) := Lib.hid (hadB_yes hjk hy)
                clear hy ht
                go_upto_region 15 with (fail)
                go_quiet (fail)
                go_wp2_with fail
                exact ⟨⟨j + 1, true, by omega, by go_num, rfl, HT, Lib.hid (hfw.out.drewN _)⟩, by simp [intOf]; omega⟩
              · have HT : Hid (hadB ks (y0, kb) (j + 1) = false) := Lib.hid (hadB_no hjk ht.out (by rw [hy]; exact fun e => c1 (congrArg Prod.snd e)))
                clear hy ht
                go_upto_region 15 with (fail)
                go_quiet (fail)
                go_wp2_with fail
                exact ⟨⟨j + 1, false, by omega, by go_num, rfl, HT, Lib.hid (hfw.out.drewN _)⟩, by simp [intOf]; omega⟩
            · have HT : Hid (hadB ks (ka, kb) (j + 1) = false) := Lib.hid (hadB_no hjk ht.out (by rw [hy]; exact fun e => c0 (congrArg Prod.fst e)))
              clear hy ht
              go_upto_region 15 with (fail)
              go_quiet (fail)
              go_wp2_with fail
              exact ⟨⟨j + 1, false, by omega, by go_num, rfl, HT, Lib.hid (hfw.out.drewN _)⟩, by simp [intOf]; omega⟩
        · have hd3 : decide ((j : Int) < (n : Int)) = false := by simp; omega
          have hjn2 : j = n := by omega
          have HT : Hid (t = decide ((ka, kb) ∈ ks)) := Lib.hid (by rw [← ht.out, hjn2, ← HNN.out]; exact hadB_all _ _)
          clear ht hjn2
          have C6 := Lib.hid (C5.out.fr0 hfw.out)
          have F6 := Lib.hid (F5.out.tr hfw.out)
          have R6 := Lib.hid (R5.out.fr hfw.out (fun _ _ e => e))
          have hs6 := hfw.out.size
          cases t with
          | true =>
            have HOR : Hid (OR w g (.slice wA n c) (i + 1) wr) := Lib.hid ⟨s', ks, wA, c, by rw [K5.out, if_pos (by have := HT.out; simpa using this.symm)], by rw [HNN.out], C6.out, fun q hq e => O5.out q hq (e.elim .inl (fun e => .inr (.inl e))), R6.out, M5.out, L5.out, by rw [HNN.out]; omega, F6.out⟩
            clear u0 u1
            go_wp2_with fail
            exact ⟨⟨i + 1, by omega, by go_num, HOR.out⟩, by simp [intOf]; omega⟩
          | false =>
            have hns : (ka, kb) ∉ ks := by have := HT.out; simpa using this.symm
            have HK6 : Hid (s'.bl.map Bk.k = ks ++ [(ka, kb)]) := Lib.hid (by rw [K5.out, if_neg hns])
            clear hns HT
            have hrd : Reads (wr.alloc (.cells #[.int .u32 ka, .int .u32 kb] 31)) (wr.heap.size + 1) 2 (some ⟨wr.heap.size, 0, none⟩) 1 [.int .u32 ka, .int .u32 kb] := reads_blk (size := 2) (n := 1) (Blk.new wr 31 #[.int .u32 ka, .int .u32 kb]) rfl
            have hownA : (wr.alloc (.cells #[.int .u32 ka, .int .u32 kb] 31)).ownsRow w.heap.size 31 2 (.slice wA n c) n (kcells ks) := by
              have := R6.out
              unfold KRow at this
              rw [HNN.out] at this
              exact this.alloc _
            have hws := F6.out.size
            go_wp2_with
              (at_builtin
               refine wpList_append_any _ rfl (.tmp 70) (.tmp 72) _ rfl w.heap.size 31 i0 _ 2 8 Try.underlying38 hinf hz0 hz1 hz2 rfl (by omega) (.slice wA n c) n _ rfl hownA (wr.heap.size + 1) (some ⟨wr.heap.size, 0, none⟩) 1 1 [.int .u32 ka, .int .u32 kb] rfl hrd (by simp [Value.oneCell']) (by simp only [maxLen]; omega) (by omega) (by simp; omega) ?_
               intro v1 w7 hown1 hg1 hat1
               obtain ⟨A1, cc1, hv1⟩ := slice_form hown1
               subst hv1)
            have hl7 : (ks ++ [(ka, kb)]).length = n + 1 := by rw [List.length_append, HNN.out]; rfl
            have R7 : Hid (KRow w7 w.heap.size A1 cc1 (ks ++ [(ka, kb)])) := Lib.hid (by
              unfold KRow
              rw [hl7, kcells_snoc]
              exact hown1)
            have FA : Hid (Fr (fun q => ab wA = some q) (wr.alloc (.cells #[.int .u32 ka, .int .u32 kb] 31)) w7) := Lib.hid ((Fr.refl _ _).grown hg1 (fun q hq => .inl (ab_own hq)))
            have C7 : Hid (Cch w7 g s') := Lib.hid ((C6.out.fr0 ((Fr.refl _ wr).alloc (.cells #[.int .u32 ka, .int .u32 kb] 31))).fr FA.out (fun q hq e => O5.out q hq (.inr (.inl e))))
            have F7 : Hid (Fr (fun _ => False) w w7) := Lib.hid ((F6.out.alloc _).trans FA.out (fun q hq e => by have := (HR.out.lt q e).2; omega))
            have O7 : Hid (OwnK (fun q => q < w.heap.size ∨ ab A1 = some q) g s') := Lib.hid (fun q hq e => by
              rcases e with e | e
              · exact O5.out q hq (.inl e)
              · rcases hat1 with h2 | h2
                · have e3 : (Value.slice A1 (n + 1) cc1).ownBlock = some q := by
                    rcases hown1.2 with ⟨e4, _⟩ | ⟨g', cap, cur, e4, _⟩
                    · injection e4 with e4; rw [e4] at e; cases e
                    · injection e4 with e4
                      rw [e4] at e ⊢
                      simpa [Value.ownBlock, ab] using e
                  rw [h2] at e3
                  exact O5.out q hq (.inr (.inl (ab_own e3)))
                · have e3 := ab_own h2
                  rw [e3] at e
                  injection e with e
                  have := C6.out.low q hq
                  simp at e
                  omega)
            have HOR : Hid (OR w g (.slice A1 (n + 1) cc1) (i + 1) w7) := Lib.hid ⟨s', ks ++ [(ka, kb)], A1, cc1, HK6.out, by rw [hl7], C7.out, O7.out, R7.out, M5.out, L5.out, by rw [hl7]; omega, F7.out⟩
            clear hown1 hg1 hat1 hl7 hownA hrd u0 u1
            go_wp2_with fail
            exact ⟨⟨i + 1, by omega, by go_num, HOR.out⟩, by simp [intOf]; omega⟩
    · obtain ⟨n, hnn⟩ : ∃ n, ks.length = n := ⟨_, rfl⟩
      rw [hnn]
      rw [hnn] at hn
      have HNN := Lib.hid hnn
      clear hnn
      have hn40 : n ≤ 64 := by
        have h1 := HC.out.ok.len
        have h2 : s.bl.length = n := by rw [← HNN.out, ← HKS.out, List.length_map]
        have h3 := HRM.out
        omega
      have hws := HF.out.size
      have hcase : (decide ((i : Int) < (len : Int)) = false ∧ decide (i < len) = false) ∨ (decide ((i : Int) < (len : Int)) = true ∧ decide ((i : Int) < 40) = false ∧ decide (i < len) = true) := by
        by_cases h1 : i < len
        · right
          exact ⟨by simp; omega, by simp; omega, by simp; omega⟩
        · left
          exact ⟨by simp; omega, by simp; omega⟩
      clear hn hlt
      rcases hcase with ⟨hd1, hd2⟩ | ⟨hd1, hd2, hd4⟩
      all_goals
        go_wp2_with fail
        refine (Hw.out _).mono ?_
        rintro e w' ⟨rfl, rfl⟩
        go_wp2_with fail
        go_loopw [13, 14] (fun v iv wr => ∃ (j m : Nat) (A3 : Option Addr) (c3 : Nat), j ≤ n ∧ m ≤ j ∧ v = .slice A3 m c3 ∧ iv = .int .i64 j ∧ Hid (wr.ownsRow wo.heap.size 31 2 (.slice A3 m c3) m (kcells (leftK p (ks.take j)))) ∧ Hid ((leftK p (ks.take j)).length = m) ∧ Hid (Fr (fun _ => False) wo wr)) (fun _ iv _ => n - (intOf iv).toNat)
        case atStart => exact ⟨0, 0, none, 0, by omega, Nat.le_refl _, rfl, rfl, Lib.hid ⟨rfl, .inl ⟨rfl, rfl⟩⟩, Lib.hid rfl, Lib.hid (Fr.refl _ _)⟩
        case round =>
          obtain ⟨j, m, A3, c3, hj, hmj, rfl, rfl, hown, hlen, hfw⟩ := hrel
          by_cases hjn : j < n
          · have hd3 : decide ((j : Int) < (n : Int)) = true := by simp; omega
            have hj0 : (0 : Int) ≤ (j : Int) := by omega
            have hj1 : (j : Int) < (n : Int) := by omega
            have hjk : j < ks.length := by have := HNN.out; omega
            obtain ⟨ga, go, hA, _, e0, e1⟩ := at_cells (HR.out.fr hfw.out (fun _ _ e => e)).at_ hjk
            subst hA
            have hkok := HC.out.ok.keys
            obtain ⟨y, hy⟩ : ∃ y, nthK ks j = y := ⟨_, rfl⟩
            have hyok : y.Ok := by
              have hm' : y ∈ ks := by rw [← hy, nthK_at hjk]; exact List.getElem_mem hjk
              rw [← HKS.out] at hm'
              obtain ⟨x, hx, e⟩ := List.mem_map.1 hm'
              rw [← e]
              exact hkok x hx
            rw [hy] at e0 e1
            have hsnoc := leftK_snoc (p := p) hjk
            rw [hy] at hsnoc
            obtain ⟨y0, y1⟩ := y
            unfold Ky.Ok at hyok
            obtain ⟨⟨b0, b1⟩, ⟨b2, b3⟩⟩ := hyok
            have b0 : 0 ≤ y0 := b0
            have b1 : y0 < 4294967296 := by first | exact b1 | (have : y0 ≤ 4294967295 := b1; omega)
            have b2 : 0 ≤ y1 := b2
            have b3 : y1 < 4294967296 := by first | exact b3 | (have : y1 ≤ 4294967295 := b3; omega)
            have e0 : wr.cell? ⟨ga, go + j * 2, none⟩ = some (.int .u32 y0) := e0
            have e1 : wr.cell? ⟨ga, go + j * 2 + 1, none⟩ = some (.int .u32 y1) := e1
            obtain ⟨z, hz⟩ : ∃ z, y1 / 64 = z := ⟨_, rfl⟩
            have z0 : 0 ≤ z := by omega
            have z1 : z < 67108864 := by omega
            have hsnoc : leftK p (ks.take (j + 1)) = if y1 / 64 ≠ p then leftK p (ks.take j) ++ [(y0, y1)] else leftK p (ks.take j) := hsnoc
            rw [hz] at hsnoc
            by_cases hzp : z = p
            · rw [if_neg (by simpa using hzp)] at hsnoc
              have HS := Lib.hid hsnoc
              have hne : (z != p) = false := by simpa using hzp
              have hne2 : (y1 / 64 != p) = false := by rw [hz]; exact hne
              clear hsnoc hzp hy hkok
              go_wp2_with fail
              exact ⟨⟨j + 1, m, A3, c3, by omega, by omega, rfl, by go_num, Lib.hid (by rw [HS.out]; exact hown.out), Lib.hid (by rw [HS.out]; exact hlen.out), hfw⟩, by simp [intOf]; omega⟩
            · rw [if_pos (by simpa using hzp)] at hsnoc
              have HS := Lib.hid hsnoc
              have hne : (z != p) = true := by simpa using hzp
              have hne2 : (y1 / 64 != p) = true := by rw [hz]; exact hne
              clear hsnoc hzp hy hkok
              have hrd : Reads (wr.alloc (.cells #[.int .u32 y0, .int .u32 y1] 31)) (wr.heap.size + 1) 2 (some ⟨wr.heap.size, 0, none⟩) 1 [.int .u32 y0, .int .u32 y1] := reads_blk (size := 2) (n := 1) (Blk.new wr 31 #[.int .u32 y0, .int .u32 y1]) rfl
              have hownA : (wr.alloc (.cells #[.int .u32 y0, .int .u32 y1] 31)).ownsRow wo.heap.size 31 2 (.slice A3 m c3) m (kcells (leftK p (ks.take j))) := hown.out.alloc _
              have hws2 := hfw.out.size
              go_wp2_with
                (at_builtin
                 refine wpList_append_any _ rfl (.tmp 91) (.tmp 96) _ rfl wo.heap.size 31 i0 _ 2 8 Try.underlying38 hinf hz0 hz1 hz2 rfl (by omega) (.slice A3 m c3) m _ rfl hownA (wr.heap.size + 1) (some ⟨wr.heap.size, 0, none⟩) 1 1 [.int .u32 y0, .int .u32 y1] rfl hrd (by simp [Value.oneCell']) (by simp only [maxLen]; omega) (by omega) (by simp; omega) ?_
                 intro v1 w7 hown1 hg1 hat1
                 obtain ⟨A1, cc1, hv1⟩ := slice_form hown1
                 subst hv1)
              have HX1 : Hid (w7.ownsRow wo.heap.size 31 2 (.slice A1 (m + 1) cc1) (m + 1) (kcells (leftK p (ks.take (j + 1))))) := Lib.hid (by rw [HS.out, kcells_snoc]; exact hown1)
              have HX2 : Hid ((leftK p (ks.take (j + 1))).length = m + 1) := Lib.hid (by rw [HS.out, List.length_append, hlen.out]; rfl)
              have HX3 : Hid (Fr (fun _ => False) wo w7) := Lib.hid (((hfw.out).alloc _).grown hg1 (fun k hk => .inr (own_base hown.out k hk)))
              clear hown1 hg1 hat1 hownA hrd
              go_wp2_with fail
              exact ⟨⟨j + 1, m + 1, A1, cc1, by omega, by omega, rfl, by go_num, HX1, HX2, HX3⟩, by simp [intOf]; omega⟩
          · have hd3 : decide ((j : Int) < (n : Int)) = false := by simp; omega
            have hjn2 : j = n := by omega
            have htk : ks.take j = ks := by rw [hjn2, ← HNN.out, List.take_length]
            have LROW : Hid (KRow wr wo.heap.size A3 c3 (leftK p ks)) := Lib.hid (by
              have h1 := hown.out
              have h2 := hlen.out
              rw [htk] at h1 h2
              unfold KRow
              rw [h2]
              exact h1)
            have HLM : Hid ((leftK p ks).length = m) := Lib.hid (by have h2 := hlen.out; rw [htk] at h2; exact h2)
            have C2 := Lib.hid (HC.out.fr0 hfw.out)
            have R2 := Lib.hid (HR.out.fr hfw.out (fun _ _ e => e))
            have F2 := Lib.hid (HF.out.tr hfw.out)
            have hws2 := hfw.out.size
            have HK2 : Hid (Calls Try.prog 16 #[.pointer (some ⟨g, 0, none⟩)] wr fun e w' => ∃ A c, e = .returned (.slice A n c) ∧ Hid (KRow w' wr.heap.size A c ks) ∧ Hid (Fr (fun _ => False) wr w')) := Lib.hid ((keys_any wr g s C2.out).mono (by
              rintro e w' ⟨A, c, g1, g2, g3⟩
              have h2 : s.bl.length = n := by rw [← HNN.out, ← HKS.out, List.length_map]
              rw [HKS.out] at g2
              rw [h2] at g1 g2
              exact ⟨A, c, g1, Lib.hid (by unfold KRow; rw [HNN.out]; exact g2), Lib.hid g3⟩))
            clear hown hlen htk hjn2
            go_wp2_with fail
            refine (HK2.out).mono ?_
            rintro e w5 ⟨A5, c5, rfl, r5, f5⟩
            have hs5 := f5.out.size
            have HD : Hid (Calls Try.prog 19 #[.pointer (some ⟨g, 0, none⟩), .slice (some ⟨w5.heap.size, 0, none⟩) 1 1] (w5.alloc (.cells #[.int .i64 p] 3)) fun e w6 => e = .returned (.int .i64 ((n : Int) - (m : Int))) ∧ Hid (∃ s6, Cch w6 g s6 ∧ s6.bl.map Bk.k = leftK p ks) ∧ Hid (KRow w6 w.heap.size wA c ks) ∧ Hid (KRow w6 wo.heap.size A3 c3 (leftK p ks)) ∧ Hid (KRow w6 wr.heap.size A5 c5 ks) ∧ Hid (Fr (fun _ => False) w w6)) := Lib.hid (by
              have fb := (Fr.refl (fun _ => False) w5).alloc (.cells #[.int .i64 p] 3)
              have bp := Blk.new w5 3 #[.int .i64 p]
              have sb : (w5.alloc (.cells #[.int .i64 p] 3)).heap.size = w5.heap.size + 1 := by simp
              have c6 := (C2.out.fr0 f5.out).fr0 fb
              have lA := HR.out.lt
              have l3 := LROW.out.lt
              have l5 := r5.out.lt
              have lc := HC.out.low
              have o6 : OwnK (fun q => q < w.heap.size ∨ ab wA = some q ∨ ab A3 = some q ∨ ab A5 = some q ∨ q = w5.heap.size) g s := fun q hq e => by
                have h0 := lc q hq
                rcases e with e | e | e | e | e
                · exact HO.out q hq (.inl e)
                · exact HO.out q hq (.inr e)
                · have := (l3 q e).2; omega
                · have := (l5 q e).2; omega
                · omega
              have hps : ∀ W, Fr (fun q => ¬ (q < w.heap.size ∨ ab wA = some q ∨ ab A3 = some q ∨ ab A5 = some q ∨ q = w5.heap.size)) (w5.alloc (.cells #[.int .i64 p] 3)) W → IntsAt .i64 W (w5.heap.size + 1) (some ⟨w5.heap.size, 0, none⟩) 1 [p] := fun W f => by
                have b := bp.fr f (fun e => e (.inr (.inr (.inr (.inr rfl)))))
                refine ⟨rfl, fun q hq => ?_, fun _ => ⟨w5.heap.size, 0, rfl, by omega, fun q hq => ?_⟩⟩
                · have : q = 0 := by omega
                  subst this
                  exact wf_i64_mk (n := p) (by show -9223372036854775808 ≤ p; omega) (by show p ≤ 9223372036854775807; omega)
                · have : q = 0 := by omega
                  subst this; exact b.cell 0
              refine (drop_k _ _ g s c6 o6 [p] (w5.heap.size + 1) 1 1 _ hps (by decide) (by omega)).mono ?_
              rintro e w6 ⟨g1, g2, g3, g4⟩
              obtain ⟨k1, k2⟩ := drop_keys s p
              rw [HKS.out] at k1 k2
              have h2 : s.bl.length = n := by rw [← HNN.out, ← HKS.out, List.length_map]
              rw [k2, h2, HLM.out] at g1
              refine ⟨g1, Lib.hid ⟨_, g2, k1⟩, Lib.hid (((R2.out.fr f5.out (fun _ _ e => e)).fr fb (fun _ _ e => e)).fr g4 (fun q e e2 => e2 (.inr (.inl e)))), Lib.hid (((LROW.out.fr f5.out (fun _ _ e => e)).fr fb (fun _ _ e => e)).fr g4 (fun q e e2 => e2 (.inr (.inr (.inl e))))), Lib.hid ((r5.out.fr fb (fun _ _ e => e)).fr g4 (fun q e e2 => e2 (.inr (.inr (.inr (.inl e)))))), Lib.hid (((F2.out.tr f5.out).tr fb).trans g4 (fun q hq e => e (.inl hq)))⟩)
            go_wp2_with fail
            refine (HD.out).mono ?_
            rintro e w6 ⟨rfl, C6, RA, RL, RK, F6⟩
            have hmn : (0 : Int) ≤ (n : Int) - (m : Int) := by omega
            have hmn2 : (n : Int) - (m : Int) ≤ 64 := by omega
            clear HK2 HD C2 R2 F2 r5 f5 LROW
            have HK6 : Hid (∀ W, Fr (fun _ => False) w6 W → Calls Try.prog 16 #[.pointer (some ⟨g, 0, none⟩)] W fun e w' => ∃ A c, e = .returned (.slice A m c) ∧ Hid (KRow w' W.heap.size A c (leftK p ks)) ∧ Hid (Fr (fun _ => False) W w')) := Lib.hid (fun W fW => by
              obtain ⟨s6, g1, g2⟩ := C6.out
              refine (keys_any W g s6 (g1.fr0 fW)).mono ?_
              rintro e w' ⟨A, c, k1, k2, k3⟩
              have h2 : s6.bl.length = m := by rw [← HLM.out, ← g2, List.length_map]
              rw [g2] at k2
              rw [h2] at k1 k2
              exact ⟨A, c, k1, Lib.hid (by unfold KRow; rw [HLM.out]; exact k2), Lib.hid k3⟩)
            go_wp2_with fail
            go_loopw [16] (fun iv wr => ∃ q : Nat, q ≤ n ∧ iv = .int .i64 q ∧ Hid (Fr (fun _ => False) w6 wr)) (fun iv _ => n - (intOf iv).toNat)
            case atStart => exact ⟨0, by omega, rfl, Lib.hid (Fr.refl _ _)⟩
            case round =>
              obtain ⟨q, hq, rfl, hfq⟩ := hrel
              by_cases hqn : q < n
              · have hd3 : decide ((q : Int) < (n : Int)) = true := by simp; omega
                have hq0 : (0 : Int) ≤ (q : Int) := by omega
                have hq1 : (q : Int) < (n : Int) := by omega
                have hqk : q < ks.length := by have := HNN.out; omega
                obtain ⟨ga, go, hA, _, e0, e1⟩ := at_cells (RA.out.fr hfq.out (fun _ _ e => e)).at_ hqk
                obtain ⟨gb, gp, hB, _, e2, e3⟩ := at_cells (RK.out.fr hfq.out (fun _ _ e => e)).at_ hqk
                obtain ⟨y, hy⟩ : ∃ y, nthK ks q = y := ⟨_, rfl⟩
                rw [hy] at e0 e1 e2 e3
                subst hA
                subst hB
                obtain ⟨y0, y1⟩ := y
                have e0 : wr.cell? ⟨ga, go + q * 2, none⟩ = some (.int .u32 y0) := e0
                have e1 : wr.cell? ⟨ga, go + q * 2 + 1, none⟩ = some (.int .u32 y1) := e1
                have e2 : wr.cell? ⟨gb, gp + q * 2, none⟩ = some (.int .u32 y0) := e2
                have e3 : wr.cell? ⟨gb, gp + q * 2 + 1, none⟩ = some (.int .u32 y1) := e3
                clear hy
                go_upto_region 31 with (fail)
                go_still_tail 8, (by kernel_rfl)
                change wpList _ _ _ _ _ wr.drew
                go_wp2_with fail
                exact ⟨⟨q + 1, by omega, by go_num, Lib.hid hfq.out.drew⟩, by simp [intOf]; omega⟩
              · have hd3 : decide ((q : Int) < (n : Int)) = false := by simp; omega
                go_wp2_with fail
                refine (HK6.out _ hfq.out).mono ?_
                rintro e w8 ⟨A8, c8, rfl, R8, f8⟩
                have RL8 := Lib.hid ((RL.out.fr hfq.out (fun _ _ e => e)).fr f8.out (fun _ _ e => e))
                have F8 := Lib.hid ((F6.out.tr hfq.out).tr f8.out)
                go_wp2_with fail
                go_loopw [18] (fun iv wr => ∃ q : Nat, q ≤ m ∧ iv = .int .i64 q ∧ Hid (Fr (fun _ => False) w8 wr)) (fun iv _ => m - (intOf iv).toNat)
                case atStart => exact ⟨0, by omega, rfl, Lib.hid (Fr.refl _ _)⟩
                case round =>
                  obtain ⟨r, hr, rfl, hfr⟩ := hrel
                  by_cases hrm : r < m
                  · have hd5 : decide ((r : Int) < (m : Int)) = true := by simp; omega
                    have hr0 : (0 : Int) ≤ (r : Int) := by omega
                    have hr1 : (r : Int) < (m : Int) := by omega
                    have hrk : r < (leftK p ks).length := by have := HLM.out; omega
                    obtain ⟨ga, go, hA, _, e0, e1⟩ := at_cells (R8.out.fr hfr.out (fun _ _ e => e)).at_ hrk
                    obtain ⟨gb, gp, hB, _, e2, e3⟩ := at_cells (RL8.out.fr hfr.out (fun _ _ e => e)).at_ hrk
                    obtain ⟨y, hy⟩ : ∃ y, nthK (leftK p ks) r = y := ⟨_, rfl⟩
                    rw [hy] at e0 e1 e2 e3
                    subst hA
                    subst hB
                    obtain ⟨y0, y1⟩ := y
                    have e0 : wr.cell? ⟨ga, go + r * 2, none⟩ = some (.int .u32 y0) := e0
                    have e1 : wr.cell? ⟨ga, go + r * 2 + 1, none⟩ = some (.int .u32 y1) := e1
                    have e2 : wr.cell? ⟨gb, gp + r * 2, none⟩ = some (.int .u32 y0) := e2
                    have e3 : wr.cell? ⟨gb, gp + r * 2 + 1, none⟩ = some (.int .u32 y1) := e3
                    clear hy
                    go_upto_region 39 with (fail)
                    go_still_tail 8, (by kernel_rfl)
                    change wpList _ _ _ _ _ wr.drew
                    go_wp2_with fail
                    exact ⟨⟨r + 1, by omega, by go_num, Lib.hid hfr.out.drew⟩, by simp [intOf]; omega⟩
                  · have hd5 : decide ((r : Int) < (m : Int)) = false := by simp; omega
                    have Hkn := Lib.hid (known_any wr)
                    go_wp2_with fail
                    refine (Hkn.out).mono ?_
                    rintro e w9 ⟨rfl, f9⟩
                    have F9 := Lib.hid ((F8.out.tr hfr.out).tr f9)
                    clear f9
                    go_wp2_with fail
                    go_ret
                    exact ⟨rfl, F9.out⟩
end Go.Proofs.Ytfjlgdafakbdoaa.cacheOrders
