/- WalkBits: the walk. -/
import Derived.Test.YtlkagggkpaihaaaWalkL
import Derived.Test.YtlkagggkpaihaaaWalkOpen
namespace Go.Proofs.Ytlkagggkpaihaaa.walkBits
open Go.RowKit Fm Nt Rm By Wk
set_option linter.unusedVariables false
set_option maxHeartbeats 8000000

def AllD (W : World) (q : ByteArray) (e : Ending) (w' : World) : Prop := ∃ G, e = .returned (.slice (some ⟨G, 0, none⟩) 512 512) ∧ (convert 22 9 (.slice (some ⟨G, 0, none⟩) 512 512)).run Try.prog w' = .ok (.string q) w' ∧ Fr (fun _ => False) W w'
theorem all8 (W : World) (a : Am) (m : Ms) (h : Mem W a m) (hn : m.n = 8) : Calls Try.prog 21 #[.pointer (some ⟨a.gm, 0, none⟩)] W (AllD W (str (lst m.mem 512))) := by
  have hbd := h.bd
  rw [hn] at hbd
  have h1 := all_any W a m h
  rw [hn] at h1
  exact h1.mono fun e w' ⟨h2, h3, h4⟩ => ⟨W.heap.size, h2, str_of_ints (cells_ints h3 hbd), h4⟩
/-- two results laid in new memory -/
theorem two (w : World) (e t : Array Value) : Blk ((w.alloc (.cells e 64)).alloc (.cells t 66)) w.heap.size 64 e ∧ Blk ((w.alloc (.cells e 64)).alloc (.cells t 66)) (w.heap.size + 1) 66 t ∧ Fr (fun _ => False) w ((w.alloc (.cells e 64)).alloc (.cells t 66)) := by
  refine ⟨(Blk.new w 64 e).alloc _, ?_, ((Fr.refl _ w).alloc _).alloc _⟩
  have := Blk.new (w.alloc (.cells e 64)) 66 t
  rwa [show (w.alloc (.cells e 64)).heap.size = w.heap.size + 1 by simp] at this
set_option maxRecDepth 100000 in
theorem walk (w : World) (A : Option Addr) (len cap : Nat) (hl : (∃ L, PtsAt w w.heap.size A len L) ∧ len ≤ maxLen) (va : Int) (hva : (Lit.int .u32 va).wf = true) (kd : Int) (hkd : (Lit.int .i64 kd).wf = true) :
    Calls Try.prog 9 #[.slice A len cap, .int .u32 va, .int .i64 kd] w fun e w' => e = .returned (.bool true) ∧ Fr (fun _ => False) w w' := by
  obtain ⟨⟨L, hL⟩, hm⟩ := hl
  obtain ⟨va0, va1⟩ := wf_u32 hva
  have b1 := wf_i64 hkd
  have Ht := Lib.hid (tables_any w A len cap L hL hm)
  obtain ⟨V, hV⟩ : ∃ V, va % 4096 = V := ⟨_, rfl⟩
  have V0 : 0 ≤ V := by omega
  have V1 : V < 4096 := by omega
  obtain ⟨K, hK⟩ : ∃ K, (1 : Int) + kd % (3 - 1 + 1) = K := ⟨_, rfl⟩
  have hK3 : K = 1 ∨ K = 2 ∨ K = 3 := by
    have := Int.emod_nonneg kd (show (3 - 1 + 1 : Int) ≠ 0 by omega)
    have := Int.emod_lt_of_pos kd (show (0 : Int) < 3 - 1 + 1 by omega)
    omega
  have Hwi := Lib.hid (fun W => Bk.within_any W kd 1 3 b1.1 b1.2 (by omega) (by omega) (by omega))
  rw [hK] at Hwi
  have HV := Lib.hid hV
  clear hL hm hva hkd b1 hK
  go_enter Try.func9, Try.ntmps9
  go_wp2_with fail
  refine (Ht.out).mono ?_
  rintro e w2 ⟨rfl, hc2, f2⟩
  have hI2 := cells_ints hc2 (fun i hi => tabZ_bd _ _ _)
  have Hbo := Lib.hid (both8 w2 _ 512 512 8 _ _ hI2 hc2.lt (by omega) (by omega) (by omega))
  clear hc2 hI2
  go_wp2_with fail
  refine (Hbo.out).mono ?_
  rintro e w3 ⟨a, gM, gb, gt, rfl, hM, hR3, hsp, hge, f3⟩
  have fr3 := f2.tr f3
  have hn8 : (Ms.init 8 (lst (tabZ L (min len 40)) 512)).n = 8 := init_n _ _
  generalize Ms.init 8 (lst (tabZ L (min len 40)) 512) = m at *
  have Hge := Lib.hid (show ∀ k, a.own k → w.heap.size ≤ k from fun k hk => by have := hge k (.inr (.inr (.inr hk))); have := f2.size; omega)
  have hlf := lkLeaf_bd hM 0 V (by omega) V0
  have NL := nowLaws K _ hlf.1 hlf.2
  have Hn8 := Lib.hid hn8
  have Hal0 := Lib.hid (fun W (h : Mem W a m) => all8 W a m h hn8)
  generalize hq0 : str (lst m.mem 512) = q0 at *
  have hown := Lib.hid hM.lt
  clear hR3 hsp hge f2 f3 Ht Hbo hq0 hn8
  go_wp2_with fail
  refine (Hwi.out _).mono ?_
  rintro e w' ⟨rfl, rfl⟩
  rw [HV.out]
  go_wp2_with fail
  refine (Hal0.out _ hM).mono ?_
  rintro e w4 ⟨G4, rfl, q4, f4⟩
  have hM4 := hM.fr0 f4
  have fr4 := fr3.tr f4
  have hl4 := f4.size
  have kf : (flt K == 0) = false := by rcases hK3 with rfl | rfl | rfl <;> decide
  have kf2 : ¬ flt K = 0 := by simpa using kf
  cases hu : doOk m 0 V K false
  · have hd1 := do_fault w4 a m hM4 0 V K false (by omega) (by omega) V0 (by omega) hK3 hu
    unfold entry0 at hd1
    have Hd1 := Lib.hid hd1
    clear hd1
    cases hs : doOk m 0 V K true
    · have hd2 := fun W (h : Mem W a m) => do_fault W a m h 0 V K true (by omega) (by omega) V0 (by omega) hK3 hs
      unfold entry0 at hd2
      have Hd2 := Lib.hid hd2
      clear hd2 NL
      generalize flt K = fk at *
      go_wp2_with fail
      refine (Hd1.out).mono ?_
      rintro e w5 ⟨rfl, f5⟩
      have fr5 := fr4.tr f5
      have hl5 := f5.size
      obtain ⟨cE5, cT5, fx5⟩ := two w5 #[.bool false, .int .u32 0, .int .u32 0, .int .u32 0] #[.int .i64 fk, .int .u32 V]
      have hM6 := hM4.fr0 (f5.tr fx5)
      have fr6 := fr5.tr fx5
      have hl6 := fx5.size
      have y33 := cE5.cell 0
      have y34 := cE5.cell 1
      have y35 := cE5.cell 2
      have y36 := cE5.cell 3
      have y37 := cT5.cell 0
      have y38 := cT5.cell 1
      simp only [List.getElem?_toArray, List.getElem?_cons_succ, List.getElem?_cons_zero] at y33 y34 y35 y36 y37 y38
      have hg5 : w3.heap.size ≤ w5.heap.size := by omega
      go_wp2_with fail
      generalize (w5.alloc (.cells #[.bool false, .int .u32 0, .int .u32 0, .int .u32 0] 64)).alloc (.cells #[.int .i64 fk, .int .u32 V] 66) = w6 at *
      generalize w5.heap.size = g5 at *
      clear y33 y34 y35 y36 y37 y38
      refine (Hal0.out w6 hM6).mono ?_
      rintro e w7 ⟨G7, rfl, q7, f7⟩
      have hM7 := hM6.fr0 f7
      have fr7 := fr6.tr f7
      have hl7 := f7.size
      have dE5 := cE5.fr f7 (fun e => e)
      have dT5 := cT5.fr f7 (fun e => e)
      have y39 := dE5.cell 0
      have y40 := dE5.cell 1
      have y41 := dE5.cell 2
      have y42 := dE5.cell 3
      have y43 := dT5.cell 0
      have y44 := dT5.cell 1
      simp only [List.getElem?_toArray, List.getElem?_cons_succ, List.getElem?_cons_zero] at y39 y40 y41 y42 y43 y44
      go_wp2_with fail
      clear y39 y40 y41 y42 y43 y44
      refine (Hd2.out w7 hM7).mono ?_
      rintro e w8 ⟨rfl, f8⟩
      have fr8 := fr7.tr f8
      obtain ⟨cE8, cT8, fx8⟩ := two w8 #[.bool false, .int .u32 0, .int .u32 0, .int .u32 0] #[.int .i64 fk, .int .u32 V]
      have hM9 := hM7.fr0 (f8.tr fx8)
      have fr9 := fr8.tr fx8
      have eE5 := (dE5.fr f8 (fun e => e)).fr fx8 (fun e => e)
      have eT5 := (dT5.fr f8 (fun e => e)).fr fx8 (fun e => e)
      have y45 := eE5.cell 0
      have y46 := eE5.cell 1
      have y47 := eE5.cell 2
      have y48 := eE5.cell 3
      have y49 := eT5.cell 0
      have y50 := eT5.cell 1
      have y51 := cE8.cell 0
      have y52 := cE8.cell 1
      have y53 := cE8.cell 2
      have y54 := cE8.cell 3
      have y55 := cT8.cell 0
      have y56 := cT8.cell 1
      simp only [List.getElem?_toArray, List.getElem?_cons_succ, List.getElem?_cons_zero] at y45 y46 y47 y48 y49 y50 y51 y52 y53 y54 y55 y56
      go_wp2_with fail
      generalize (w8.alloc (.cells #[.bool false, .int .u32 0, .int .u32 0, .int .u32 0] 64)).alloc (.cells #[.int .i64 fk, .int .u32 V] 66) = w9 at *
      generalize w8.heap.size = g8 at *
      refine (Hal0.out w9 hM9).mono ?_
      rintro e w10 ⟨G10, rfl, q10, f10⟩
      have fr10 := fr9.tr f10
      go_wp2_with fail
      refine (known8 _).mono ?_
      rintro e w11 ⟨rfl, f11⟩
      go_wp2_with fail
      go_ret
      exact ⟨rfl, fr10.tr f11⟩
    · have hok : lkOk m 0 V = true := by
        cases hq : lkOk m 0 V
        · rw [doOk, hq] at hs; cases hs
        · rfl
      have us : bits .and .u32 (lkLeaf m 0 V) (Wk.ask K true) = Wk.ask K true := by rw [doOk, hok] at hs; simpa using hs
      have D := doneLaws hM4 0 V K (by omega) V0 hok
      have ag := again hM4 0 V K (by omega) V0 hok
      have ok1 : doOk (doMs m 0 V K) 0 V K true = true := by rw [doOk, D.ok, D.leaf]; simp [NL.and true us]
      have Hal1 := Lib.hid (fun W (h : Mem W a (doMs m 0 V K)) => all8 W a _ h (D.n.trans Hn8.out))
      generalize str (lst (doMs m 0 V K).mem 512) = q1 at *
      have hd3 := fun W (h : Mem W a (doMs m 0 V K)) => do_ok W a _ h 0 V K true (by omega) (by omega) V0 (by omega) hK3 ok1
      rw [D.leaf, NL.twice, ag] at hd3
      unfold trap0 at hd3
      have Hd3 := Lib.hid hd3
      have hlk := fun W (h : Mem W a (doMs m 0 V K)) => look_any W a _ h 0 V (by omega) (by omega) V0 (by omega)
      rw [D.leaf, D.at_, D.ok] at hlk
      have Hlk := Lib.hid hlk
      have a32 := NL.a32
      have a64 := NL.a64
      have x0 := NL.b0
      have x1 := NL.b1
      have hd2 := fun W (h : Mem W a m) => do_ok W a m h 0 V K true (by omega) (by omega) V0 (by omega) hK3 hs
      unfold trap0 at hd2
      have Hd2 := Lib.hid hd2
      clear hd2
      clear hd3 hlk D NL ag ok1
      generalize now K (lkLeaf m 0 V) = N at *
      generalize bits .and .u32 N 94 = N94 at *
      generalize doMs m 0 V K = m1 at *
      generalize flt K = fk at *
      go_wp2_with fail
      refine (Hd1.out).mono ?_
      rintro e w5 ⟨rfl, f5⟩
      have fr5 := fr4.tr f5
      have hl5 := f5.size
      obtain ⟨cE5, cT5, fx5⟩ := two w5 #[.bool false, .int .u32 0, .int .u32 0, .int .u32 0] #[.int .i64 fk, .int .u32 V]
      have hM6 := hM4.fr0 (f5.tr fx5)
      have fr6 := fr5.tr fx5
      have hl6 := fx5.size
      have y57 := cE5.cell 0
      have y58 := cE5.cell 1
      have y59 := cE5.cell 2
      have y60 := cE5.cell 3
      have y61 := cT5.cell 0
      have y62 := cT5.cell 1
      simp only [List.getElem?_toArray, List.getElem?_cons_succ, List.getElem?_cons_zero] at y57 y58 y59 y60 y61 y62
      have hg5 : w3.heap.size ≤ w5.heap.size := by omega
      go_wp2_with fail
      generalize (w5.alloc (.cells #[.bool false, .int .u32 0, .int .u32 0, .int .u32 0] 64)).alloc (.cells #[.int .i64 fk, .int .u32 V] 66) = w6 at *
      generalize w5.heap.size = g5 at *
      clear y57 y58 y59 y60 y61 y62
      refine (Hal0.out w6 hM6).mono ?_
      rintro e w7 ⟨G7, rfl, q7, f7⟩
      have hM7 := hM6.fr0 f7
      have fr7 := fr6.tr f7
      have hl7 := f7.size
      have dE5 := cE5.fr f7 (fun e => e)
      have dT5 := cT5.fr f7 (fun e => e)
      have y63 := dE5.cell 0
      have y64 := dE5.cell 1
      have y65 := dE5.cell 2
      have y66 := dE5.cell 3
      have y67 := dT5.cell 0
      have y68 := dT5.cell 1
      simp only [List.getElem?_toArray, List.getElem?_cons_succ, List.getElem?_cons_zero] at y63 y64 y65 y66 y67 y68
      go_wp2_with fail
      clear y63 y64 y65 y66 y67 y68
      refine (Hd2.out w7 hM7).mono ?_
      rintro e w8 ⟨rfl, hM8, f8⟩
      have fr8 := fr7.trans (S := fun _ => False) f8 (fun i hi e => by have := Hge.out i e; omega)
      have hl8 := f8.size
      obtain ⟨cE8, cT8, fx8⟩ := two w8 #[.bool true, .int .u32 (V / 64), .int .u32 (N / 256), .int .u32 N94] #[.int .i64 0, .int .u32 0]
      have hM9 := hM8.fr0 fx8
      have fr9 := fr8.tr fx8
      have hl9 := fx8.size
      have eE5 := (dE5.fr f8 (fun e => by have := hown.out _ e; omega)).fr fx8 (fun e => e)
      have eT5 := (dT5.fr f8 (fun e => by have := hown.out _ e; omega)).fr fx8 (fun e => e)
      have y69 := eE5.cell 0
      have y70 := eE5.cell 1
      have y71 := eE5.cell 2
      have y72 := eE5.cell 3
      have y73 := eT5.cell 0
      have y74 := eT5.cell 1
      have y75 := cE8.cell 0
      have y76 := cE8.cell 1
      have y77 := cE8.cell 2
      have y78 := cE8.cell 3
      have y79 := cT8.cell 0
      have y80 := cT8.cell 1
      simp only [List.getElem?_toArray, List.getElem?_cons_succ, List.getElem?_cons_zero] at y69 y70 y71 y72 y73 y74 y75 y76 y77 y78 y79 y80
      have hg8 : w3.heap.size ≤ w8.heap.size := by omega
      go_wp2_with fail
      generalize (w8.alloc (.cells #[.bool true, .int .u32 (V / 64), .int .u32 (N / 256), .int .u32 N94] 64)).alloc (.cells #[.int .i64 0, .int .u32 0] 66) = w9 at *
      generalize w8.heap.size = g8 at *
      clear y69 y70 y71 y72 y73 y74 y75 y76 y77 y78 y79 y80
      refine (Hal1.out w9 hM9).mono ?_
      rintro e v9 ⟨G9, rfl, q9, f9⟩
      have hN9 := hM9.fr0 f9
      have fq9 := fr9.tr f9
      have dE := cE8.fr f9 (fun e => e)
      have hz9 := f9.size
      go_wp2_with fail
      refine (Hd3.out v9 hN9).mono ?_
      rintro e v10 ⟨rfl, hN10, f10⟩
      have fq10 := fq9.trans (S := fun _ => False) f10 (fun i hi e => by have := Hge.out i e; omega)
      have eE := dE.fr f10 (fun e => by have := hown.out _ e; omega)
      have hz10 := f10.size
      obtain ⟨kE, kT, fx10⟩ := two v10 #[.bool true, .int .u32 (V / 64), .int .u32 (N / 256), .int .u32 N94] #[.int .i64 0, .int .u32 0]
      have eE2 := eE.fr fx10 (fun e => e)
      have hN11 := hN10.fr0 fx10
      have fq11 := fq10.tr fx10
      have y81 := eE2.cell 0
      have y82 := eE2.cell 1
      have y83 := eE2.cell 2
      have y84 := eE2.cell 3
      have y85 := kE.cell 0
      have y86 := kE.cell 1
      have y87 := kE.cell 2
      have y88 := kE.cell 3
      have y89 := kT.cell 0
      have y90 := kT.cell 1
      simp only [List.getElem?_toArray, List.getElem?_cons_succ, List.getElem?_cons_zero] at y81 y82 y83 y84 y85 y86 y87 y88 y89 y90
      go_wp2_with fail
      generalize (v10.alloc (.cells #[.bool true, .int .u32 (V / 64), .int .u32 (N / 256), .int .u32 N94] 64)).alloc (.cells #[.int .i64 0, .int .u32 0] 66) = v11 at *
      generalize v10.heap.size = g10 at *
      refine (Hlk.out v11 hN11).mono ?_
      rintro e w' ⟨rfl, rfl⟩
      go_wp2_with fail
      refine (Hal1.out v11 hN11).mono ?_
      rintro e v12 ⟨G12, rfl, q12, f12⟩
      have fq12 := fq11.tr f12
      have zE := eE2.fr f12 (fun e => e)
      clear y81 y82 y83 y84 y85 y86 y87 y88 y89 y90
      have y91 := zE.cell 0
      have y92 := zE.cell 1
      have y93 := zE.cell 2
      have y94 := zE.cell 3
      simp only [List.getElem?_toArray, List.getElem?_cons_succ, List.getElem?_cons_zero] at y91 y92 y93 y94
      by_cases hk3 : K = 3
      · have k3 : (K == 3) = true := by simpa using hk3
        have k4 : (K != 3) = false := by simpa using hk3
        have a64 := a64 hk3
        clear hk3
        go_wp2_with fail
        refine (known8 _).mono ?_
        rintro e v13 ⟨rfl, f13⟩
        go_wp2_with fail
        go_ret
        exact ⟨rfl, fq12.tr f13⟩
      · have k3 : (K == 3) = false := by simpa using hk3
        have k4 : (K != 3) = true := by simpa using hk3
        clear hk3 a64
        go_wp2_with fail
        refine (known8 _).mono ?_
        rintro e v13 ⟨rfl, f13⟩
        go_wp2_with fail
        go_ret
        exact ⟨rfl, fq12.tr f13⟩
  · have hok : lkOk m 0 V = true := by
      cases hq : lkOk m 0 V
      · rw [doOk, hq] at hu; cases hu
      · rfl
    have us : bits .and .u32 (lkLeaf m 0 V) (Wk.ask K true) = Wk.ask K true := user_system K _ hlf.1 hlf.2 (by rw [doOk, hok] at hu; simpa using hu)
    have D := doneLaws hM4 0 V K (by omega) V0 hok
    have ag := again hM4 0 V K (by omega) V0 hok
    have ok1 : doOk (doMs m 0 V K) 0 V K true = true := by rw [doOk, D.ok, D.leaf]; simp [NL.and true us]
    have Hal1 := Lib.hid (fun W (h : Mem W a (doMs m 0 V K)) => all8 W a _ h (D.n.trans Hn8.out))
    generalize str (lst (doMs m 0 V K).mem 512) = q1 at *
    have hd3 := fun W (h : Mem W a (doMs m 0 V K)) => do_ok W a _ h 0 V K true (by omega) (by omega) V0 (by omega) hK3 ok1
    rw [D.leaf, NL.twice, ag] at hd3
    unfold trap0 at hd3
    have Hd3 := Lib.hid hd3
    have hlk := fun W (h : Mem W a (doMs m 0 V K)) => look_any W a _ h 0 V (by omega) (by omega) V0 (by omega)
    rw [D.leaf, D.at_, D.ok] at hlk
    have Hlk := Lib.hid hlk
    have a32 := NL.a32
    have a64 := NL.a64
    have x0 := NL.b0
    have x1 := NL.b1
    have hd1 := do_ok w4 a m hM4 0 V K false (by omega) (by omega) V0 (by omega) hK3 hu
    unfold trap0 at hd1
    have Hd1 := Lib.hid hd1
    clear hd1
    clear hd3 hlk D NL ag ok1
    generalize now K (lkLeaf m 0 V) = N at *
    generalize bits .and .u32 N 94 = N94 at *
    generalize doMs m 0 V K = m1 at *
    generalize flt K = fk at *
    go_wp2_with fail
    refine (Hd1.out).mono ?_
    rintro e w5 ⟨rfl, hM5, f5⟩
    have fr5 := fr4.trans (S := fun _ => False) f5 (fun i hi e => by have := Hge.out i e; omega)
    have hl5 := f5.size
    obtain ⟨cE5, cT5, fx5⟩ := two w5 #[.bool true, .int .u32 (V / 64), .int .u32 (N / 256), .int .u32 N94] #[.int .i64 0, .int .u32 0]
    have hM6 := hM5.fr0 fx5
    have fr6 := fr5.tr fx5
    have hl6 := fx5.size
    have y1 := cE5.cell 0
    have y2 := cE5.cell 1
    have y3 := cE5.cell 2
    have y4 := cE5.cell 3
    have y5 := cT5.cell 0
    have y6 := cT5.cell 1
    simp only [List.getElem?_toArray, List.getElem?_cons_succ, List.getElem?_cons_zero] at y1 y2 y3 y4 y5 y6
    have hg5 : w3.heap.size ≤ w5.heap.size := by omega
    go_wp2_with fail
    generalize (w5.alloc (.cells #[.bool true, .int .u32 (V / 64), .int .u32 (N / 256), .int .u32 N94] 64)).alloc (.cells #[.int .i64 0, .int .u32 0] 66) = w6 at *
    generalize w5.heap.size = g5 at *
    refine (Hd3.out w6 hM6).mono ?_
    rintro e w7 ⟨rfl, hM7, f7⟩
    have fr7 := fr6.trans (S := fun _ => False) f7 (fun i hi e => by have := Hge.out i e; omega)
    have hl7 := f7.size
    have dE5 := cE5.fr f7 (fun e => by have := hown.out _ e; omega)
    have dT5 := cT5.fr f7 (fun e => by have := hown.out _ e; omega)
    obtain ⟨cE7, cT7, fx7⟩ := two w7 #[.bool true, .int .u32 (V / 64), .int .u32 (N / 256), .int .u32 N94] #[.int .i64 0, .int .u32 0]
    have hM8 := hM7.fr0 fx7
    have fr8 := fr7.tr fx7
    have hl8 := fx7.size
    have dE6 := dE5.fr fx7 (fun e => e)
    have dT6 := dT5.fr fx7 (fun e => e)
    clear y1 y2 y3 y4 y5 y6
    have y7 := dE6.cell 0
    have y8 := dE6.cell 1
    have y9 := dE6.cell 2
    have y10 := dE6.cell 3
    have y11 := dT6.cell 0
    have y12 := dT6.cell 1
    have y13 := cE7.cell 0
    have y14 := cE7.cell 1
    have y15 := cE7.cell 2
    have y16 := cE7.cell 3
    have y17 := cT7.cell 0
    have y18 := cT7.cell 1
    simp only [List.getElem?_toArray, List.getElem?_cons_succ, List.getElem?_cons_zero] at y7 y8 y9 y10 y11 y12 y13 y14 y15 y16 y17 y18
    have hg7 : w3.heap.size ≤ w7.heap.size := by omega
    go_wp2_with fail
    generalize (w7.alloc (.cells #[.bool true, .int .u32 (V / 64), .int .u32 (N / 256), .int .u32 N94] 64)).alloc (.cells #[.int .i64 0, .int .u32 0] 66) = w8 at *
    generalize w7.heap.size = g7 at *
    clear y7 y8 y9 y10 y11 y12 y13 y14 y15 y16 y17 y18
    refine (Hal1.out w8 hM8).mono ?_
    rintro e v9 ⟨G9, rfl, q9, f9⟩
    have hN9 := hM8.fr0 f9
    have fq9 := fr8.tr f9
    have dE := cE7.fr f9 (fun e => e)
    have hz9 := f9.size
    go_wp2_with fail
    refine (Hd3.out v9 hN9).mono ?_
    rintro e v10 ⟨rfl, hN10, f10⟩
    have fq10 := fq9.trans (S := fun _ => False) f10 (fun i hi e => by have := Hge.out i e; omega)
    have eE := dE.fr f10 (fun e => by have := hown.out _ e; omega)
    have hz10 := f10.size
    obtain ⟨kE, kT, fx10⟩ := two v10 #[.bool true, .int .u32 (V / 64), .int .u32 (N / 256), .int .u32 N94] #[.int .i64 0, .int .u32 0]
    have eE2 := eE.fr fx10 (fun e => e)
    have hN11 := hN10.fr0 fx10
    have fq11 := fq10.tr fx10
    have y19 := eE2.cell 0
    have y20 := eE2.cell 1
    have y21 := eE2.cell 2
    have y22 := eE2.cell 3
    have y23 := kE.cell 0
    have y24 := kE.cell 1
    have y25 := kE.cell 2
    have y26 := kE.cell 3
    have y27 := kT.cell 0
    have y28 := kT.cell 1
    simp only [List.getElem?_toArray, List.getElem?_cons_succ, List.getElem?_cons_zero] at y19 y20 y21 y22 y23 y24 y25 y26 y27 y28
    go_wp2_with fail
    generalize (v10.alloc (.cells #[.bool true, .int .u32 (V / 64), .int .u32 (N / 256), .int .u32 N94] 64)).alloc (.cells #[.int .i64 0, .int .u32 0] 66) = v11 at *
    generalize v10.heap.size = g10 at *
    refine (Hlk.out v11 hN11).mono ?_
    rintro e w' ⟨rfl, rfl⟩
    go_wp2_with fail
    refine (Hal1.out v11 hN11).mono ?_
    rintro e v12 ⟨G12, rfl, q12, f12⟩
    have fq12 := fq11.tr f12
    have zE := eE2.fr f12 (fun e => e)
    clear y19 y20 y21 y22 y23 y24 y25 y26 y27 y28
    have y29 := zE.cell 0
    have y30 := zE.cell 1
    have y31 := zE.cell 2
    have y32 := zE.cell 3
    simp only [List.getElem?_toArray, List.getElem?_cons_succ, List.getElem?_cons_zero] at y29 y30 y31 y32
    by_cases hk3 : K = 3
    · have k3 : (K == 3) = true := by simpa using hk3
      have k4 : (K != 3) = false := by simpa using hk3
      have a64 := a64 hk3
      clear hk3
      go_wp2_with fail
      refine (known8 _).mono ?_
      rintro e v13 ⟨rfl, f13⟩
      go_wp2_with fail
      go_ret
      exact ⟨rfl, fq12.tr f13⟩
    · have k3 : (K == 3) = false := by simpa using hk3
      have k4 : (K != 3) = true := by simpa using hk3
      clear hk3 a64
      go_wp2_with fail
      refine (known8 _).mono ?_
      rintro e v13 ⟨rfl, f13⟩
      go_wp2_with fail
      go_ret
      exact ⟨rfl, fq12.tr f13⟩
end Go.Proofs.Ytlkagggkpaihaaa.walkBits
