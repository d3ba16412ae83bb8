/- A guest's memory: its functions, each by a contract: Size, split, is, get, Byte, Put. -/
import Derived.Test.YthiephlfhbkcbaaDoorMem
namespace Go.Proofs.YthiephlfhbkcbaaDoor.Rm
open Go.RowKit Fm Nt
set_option linter.unusedVariables false
set_option maxHeartbeats 4000000

theorem size_any (w : World) (a : Am) (m : Ms) (h : Mem w a m) : Calls Tryd.prog 55 #[.pointer (some ⟨a.gm, 0, none⟩)] w fun e w' => e = .returned (.int .u32 ((m.n : Int) * 64)) ∧ w = w' := by
  have hn := h.n0
  obtain ⟨s, t, hC⟩ := h
  have c1 := hC.c1
  have hp := pages_any w a.a t hC.2.1
  rw [hC.2.2.2.n] at hp
  have Hp := Lib.hid hp
  clear hp
  go_enter Tryd.func55, Tryd.ntmps55
  go_wp2_with fail
  refine (Hp.out).mono ?_
  rintro e w' ⟨rfl, rfl⟩
  go_wp2_with fail
  go_ret
  exact ⟨rfl, rfl⟩
theorem split_any (w : World) (at_ : Int) (h0 : 0 ≤ at_) (h1 : at_ ≤ 4294967295) : Calls Tryd.prog 64 #[.int .u32 at_] w fun e w' => e = .returned (.tuple #[.int .i64 (at_ / 64), .int .i64 (at_ % 64)]) ∧ w = w' := by
  go_enter Tryd.func64, Tryd.ntmps64
  go_wp2_with fail
  go_ret2
  exact ⟨rfl, rfl⟩
/-- are so many bytes there? -/
def inB (m : Ms) (at_ k : Int) : Bool := decide (at_ + k ≤ (m.n : Int) * 64)
theorem is_any (w : World) (a : Am) (m : Ms) (h : Mem w a m) (at_ k : Int) (h0 : 0 ≤ at_) (h1 : at_ ≤ 4294967295) (hk0 : 0 ≤ k) (hk1 : k ≤ 1000) : Calls Tryd.prog 70 #[.pointer (some ⟨a.gm, 0, none⟩), .int .u32 at_, .int .i64 k] w fun e w' => e = .returned (.bool (inB m at_ k)) ∧ w = w' := by
  have hs := Lib.hid (size_any w a m h)
  have hn := h.n0
  have hI : Hid (inB m at_ k = decide (at_ + k ≤ (m.n : Int) * 64)) := rfl
  clear h
  generalize inB m at_ k = r at *
  generalize hq : (m.n : Int) * 64 = q at *
  have hq0 : 0 ≤ q := by omega
  have hq1 : q ≤ 4096 := by omega
  clear hq
  go_enter Tryd.func70, Tryd.ntmps70
  go_wp2_with fail
  refine (hs.out).mono ?_
  rintro e w' ⟨rfl, rfl⟩
  go_wp2_with fail
  go_ret
  exact ⟨by rw [hI.out]; rfl, rfl⟩
theorem get_any (w : World) (a : Am) (m : Ms) (h : Mem w a m) (at_ : Int) (h0 : 0 ≤ at_) (h1 : at_ < (m.n : Int) * 64) : Calls Tryd.prog 58 #[.pointer (some ⟨a.gm, 0, none⟩), .int .u32 at_] w fun e w' => e = .returned (.int .u8 (m.mem at_.toNat)) ∧ w = w' := by
  have hn := h.n0
  obtain ⟨s, t, hC⟩ := h
  obtain ⟨i, rfl⟩ : ∃ i : Nat, at_ = i := ⟨at_.toNat, by omega⟩
  rw [show (i : Int).toNat = i from rfl]
  have hi : i < m.n * 64 := by omega
  have c0 := hC.c0
  have c1 := hC.c1
  have hsp := Lib.hid (split_any w i h0 (by omega))
  have hme := hC.2.2.2.mem i hi
  have hf := frame_any w a.a t ((i / 64 : Nat) : Int) hC.2.1
  have e1 : ((i / 64 : Nat) : Int) = (i : Int) / 64 := by omega
  have hlt := hC.2.2.2.lt hi
  by_cases hx : t.fr (i / 64) = -1
  · have q1 : frB t ((i / 64 : Nat) : Int) = false := by simp only [frB_iff t hlt, hx]; rfl
    have q2 : frV t ((i / 64 : Nat) : Int) = 0 := by rw [frV, if_neg (by rw [q1]; exact Bool.false_ne_true)]
    rw [byteAt_none hx] at hme
    rw [q1, q2, e1] at hf
    have Hf := Lib.hid hf
    rw [hme]
    clear hme hf e1 q1 q2 hx hC
    go_enter Tryd.func58, Tryd.ntmps58
    go_wp2_with fail
    refine (hsp.out).mono ?_
    rintro e w' ⟨rfl, rfl⟩
    go_wp2_with fail
    refine (Hf.out).mono ?_
    rintro e w' ⟨rfl, rfl⟩
    go_wp2_with fail
    go_ret
    exact ⟨rfl, rfl⟩
  · have q1 : frB t ((i / 64 : Nat) : Int) = true := by rw [frB_iff t hlt]; simpa using hx
    obtain ⟨f, hff, f1, f2, f3⟩ := hC.2.2.2.frame (k := i / 64) (by omega) hx
    have q2 : frV t ((i / 64 : Nat) : Int) = f := by rw [frV_eq t q1, hff]
    have hh := here_of (s := s) (a := i % 64) f1 f2 f3 hC.2.2.2.inv.o0 (by omega)
    have hb := byte_any w a.a.gp s f ((i % 64 : Nat) : Int) hC.1
    have e2 : ((i % 64 : Nat) : Int) = (i : Int) % 64 := by omega
    have q3 : bytV s f ((i % 64 : Nat) : Int) = m.mem i := by
      rw [hme, byteAt_mapped hff, bytV, if_pos hh]; rfl
    rw [hh, q3, e2] at hb
    rw [q1, q2, e1] at hf
    have Hf := Lib.hid hf
    have Hb := Lib.hid hb
    clear hme hf hb e1 e2 q1 q2 q3 hx hC hh hff f3
    generalize m.mem i = b at *
    go_enter Tryd.func58, Tryd.ntmps58
    go_wp2_with fail
    refine (hsp.out).mono ?_
    rintro e w' ⟨rfl, rfl⟩
    go_wp2_with fail
    refine (Hf.out).mono ?_
    rintro e w' ⟨rfl, rfl⟩
    go_wp2_with fail
    refine (Hb.out).mono ?_
    rintro e w' ⟨rfl, rfl⟩
    go_wp2_with fail
    go_ret
    exact ⟨rfl, rfl⟩
/-- the byte at an address -/
def memV (m : Ms) (at_ : Int) : Int := if inB m at_ 1 then m.mem at_.toNat else 0
/-- a byte is asked to be written -/
def Ms.putI (m : Ms) (at_ b : Int) : Ms := if inB m at_ 1 then m.put at_.toNat b else m
set_option maxRecDepth 100000 in
theorem put_any (w : World) (a : Am) (m : Ms) (h : Mem w a m) (at_ b : Int) (h0 : 0 ≤ at_) (h1 : at_ ≤ 4294967295) (b0 : 0 ≤ b) (b1 : b < 256) : Calls Tryd.prog 62 #[.pointer (some ⟨a.gm, 0, none⟩), .int .u32 at_, .int .u8 b] w fun e w' => e = .returned (.bool (inB m at_ 1)) ∧ Mem w' a (m.putI at_ b) ∧ Fr a.own w w' := by
  have hn := h.n0
  have his := is_any w a m h at_ 1 h0 h1 (by omega) (by omega)
  cases hb : inB m at_ 1
  · have e1 : m.putI at_ b = m := by simp [Ms.putI, hb]
    rw [hb] at his
    rw [e1]
    have His := Lib.hid his
    clear his hb e1
    go_enter Tryd.func62, Tryd.ntmps62
    go_wp2_with fail
    refine (His.out).mono ?_
    rintro e w' ⟨rfl, rfl⟩
    go_wp2_with fail
    go_ret
    exact ⟨rfl, h, Fr.refl _ _⟩
  · have e1 : m.putI at_ b = m.put at_.toNat b := by simp [Ms.putI, hb]
    rw [hb] at his
    rw [e1]
    have His := Lib.hid his
    have hat : at_ < (m.n : Int) * 64 := by simp [inB] at hb; omega
    clear his hb e1
    obtain ⟨s, t, hC⟩ := h
    obtain ⟨i, rfl⟩ : ∃ i : Nat, at_ = i := ⟨at_.toNat, by omega⟩
    rw [show (i : Int).toNat = i from rfl]
    have hi : i < m.n * 64 := by omega
    have c0 := hC.c0
    have c1 := hC.c1
    have cC := hC.cC
    have cT := hC.cT (i / 64) (by omega)
    have zT := Cells.frozen hC.2.2.1 (2 + i / 64)
    have hsp := Lib.hid (split_any w i h0 (by omega))
    have hf := frame_any w a.a t ((i / 64 : Nat) : Int) hC.2.1
    have ed : ((i / 64 : Nat) : Int) = (i : Int) / 64 := by omega
    have em : ((i % 64 : Nat) : Int) = (i : Int) % 64 := by omega
    have hlt := hC.2.2.2.lt hi
    have hS := hC.2.2.2
    have i64 : i / 64 < 64 := by omega
    by_cases hx : t.fr (i / 64) = -1
    · have q1 : frB t ((i / 64 : Nat) : Int) = false := by simp only [frB_iff t hlt, hx]; rfl
      have q2 : frV t ((i / 64 : Nat) : Int) = 0 := by rw [frV, if_neg (by rw [q1]; exact Bool.false_ne_true)]
      rw [q1, q2, ed] at hf
      have Hf := Lib.hid hf
      by_cases hb0 : b = 0
      · subst hb0
        have hM : Mem (w.setCell ⟨a.gm, 2 + i / 64, none⟩ (.bool true)) a (m.put i 0) := ⟨s, t, (hC.setT _ i64 true).1, (hC.setT _ i64 true).2.1, (hC.setT _ i64 true).2.2.1, hS.put0 hi hx⟩
        have fr1 := (Fr.refl a.own w).setCell (p := ⟨a.gm, 2 + i / 64, none⟩) (.inl (.inl rfl)) (.bool true)
        have HM := Lib.hid hM
        have FR := Lib.hid fr1
        clear hM fr1 hf q1 q2 hx hS hC
        go_enter Tryd.func62, Tryd.ntmps62
        go_wp2_with fail
        refine (His.out).mono ?_
        rintro e w' ⟨rfl, rfl⟩
        go_wp2_with fail
        refine (hsp.out).mono ?_
        rintro e w' ⟨rfl, rfl⟩
        go_wp2_with fail
        refine (Hf.out).mono ?_
        rintro e w' ⟨rfl, rfl⟩
        go_wp2_with fail
        go_ret
        exact ⟨rfl, HM.out, FR.out⟩
      · obtain ⟨f, f1, f2, f3, _, g1, g2, g3, g4⟩ := hS.inv.mapNew hlt hx
        have hmp := map_any w a.a s t ((i / 64 : Nat) : Int) hC.1 hC.2.1 hS.inv.pi.ok
        rw [g1, g2, ed] at hmp
        have hS2 := hS.map (k := i / 64) (by omega) hx
        have hfr2 : (t.map s ((i / 64 : Nat) : Int)).fr (i / 64) = f := by rw [g4]; exact updI_same _ _ _
        obtain ⟨hh, hS3⟩ := hS2.putF (i := i) (f := f) hi hfr2 b b0 b1
        have hpt := fun W (h : Pool W a.a.gp (mapS s t ((i / 64 : Nat) : Int))) => Fm.put_any W a.a.gp _ f ((i % 64 : Nat) : Int) b h
        rw [hh] at hpt
        rw [ed, em] at hpt hS3
        rw [ed] at hS2
        have Hmp := Lib.hid hmp
        have Hpt := Lib.hid hpt
        have hbne : (b != 0) = true := by simpa using hb0
        have hbeq : (b == 0) = false := by simpa using hb0
        have HB0 := Lib.hid hb0
        have hC' := Lib.hid hC
        have hne := Lib.hid hC.neT
        clear hmp hpt hf q1 q2 hx hS hC hb0 g1 g2 g3 g4 hfr2 hh
        generalize mapS s t ((i : Int) / 64) = s2 at *
        generalize t.map s ((i : Int) / 64) = t2 at *
        go_enter Tryd.func62, Tryd.ntmps62
        go_wp2_with fail
        refine (His.out).mono ?_
        rintro e w' ⟨rfl, rfl⟩
        go_wp2_with fail
        refine (hsp.out).mono ?_
        rintro e w' ⟨rfl, rfl⟩
        go_wp2_with fail
        refine (Hf.out).mono ?_
        rintro e w' ⟨rfl, rfl⟩
        go_wp2_with fail
        refine (Hmp.out).mono ?_
        rintro e w2 ⟨rfl, hP2, hT2, f2⟩
        have hC2 : MemC w2 a { m with mp := updB m.mp (i / 64) true } s2 t2 := ⟨hP2, hT2, Cells.congr (hC'.out.2.2.1.fr f2 (fun e => by
          rcases e with e | e
          · exact hne.out _ (.inr rfl) e.symm
          · exact hne.out _ (.inl (.inr (.inl rfl))) e.symm)) (fun j hj => rfl), hS2⟩
        have fr2 : Fr a.own w w2 := f2.mono (fun k _ e => by
          rcases e with e | e
          · exact .inr (.inr e)
          · exact .inr (.inl (.inr (.inl e))))
        have c0' := hC2.c0
        have cT' := hC2.cT (i / 64) i64
        have zT' := Cells.frozen hC2.2.2.1 (2 + i / 64)
        have hC3 := hC2.setT (i / 64) i64 true
        have fr3 := fr2.setCell (p := ⟨a.gm, 2 + i / 64, none⟩) (.inl (.inl rfl)) (.bool true)
        have HP3 := Lib.hid (Hpt.out _ hC3.1)
        have HC3 := Lib.hid hC3
        have FR3 := Lib.hid fr3
        have c0'' := hC3.c0
        clear hC3 fr3 fr2 hC2
        go_wp2_with fail
        refine (HP3.out).mono ?_
        rintro e w4 ⟨rfl, hP4, f4⟩
        have fr4 := FR3.out.tr (f4.mono (fun k _ e => .inr (.inr e)))
        have hC3 := HC3.out
        have hM : Mem w4 a (m.put i b) := ⟨_, t2, hP4, hC3.2.1.fr f4 (fun k hk e => hC3.2.1.pool hC3.1 k hk e), Cells.congr (hC3.2.2.1.fr f4 (fun e => hne.out _ (.inr rfl) e.symm)) (fun j hj => rfl), hS3.congr rfl (fun k hk => by
          show (if b = 0 then m.mp else updB m.mp (i / 64) true) k = _
          rw [if_neg HB0.out]) (fun j hj => rfl)⟩
        clear c0'' cT' c0' hC3
        go_wp2_with fail
        go_ret
        exact ⟨rfl, hM, fr4⟩
    · have q1 : frB t ((i / 64 : Nat) : Int) = true := by rw [frB_iff t hlt]; simpa using hx
      obtain ⟨f, hff, f1, f2, f3⟩ := hS.frame (k := i / 64) (by omega) hx
      have q2 : frV t ((i / 64 : Nat) : Int) = f := by rw [frV_eq t q1, hff]
      obtain ⟨hh, hS3⟩ := hS.putF hi hff b b0 b1
      have hpt := fun W (h : Pool W a.a.gp s) => Fm.put_any W a.a.gp _ f ((i % 64 : Nat) : Int) b h
      rw [hh] at hpt
      rw [em] at hpt hS3
      rw [q1, q2, ed] at hf
      have Hf := Lib.hid hf
      have Hpt := Lib.hid hpt
      have hC3 := hC.setT (i / 64) i64 true
      have fr3 := (Fr.refl a.own w).setCell (p := ⟨a.gm, 2 + i / 64, none⟩) (.inl (.inl rfl)) (.bool true)
      have HP3 := Lib.hid (Hpt.out _ hC3.1)
      have HC3 := Lib.hid hC3
      have FR3 := Lib.hid fr3
      have hne := Lib.hid hC.neT
      have hmp := Lib.hid (show m.mp (i / 64) = true from by rw [hS.mp _ (by omega)]; simpa using hx)
      have c0'' := hC3.c0
      clear hf hpt q1 q2 hx hS hC hff hh hC3 fr3 f3
      go_enter Tryd.func62, Tryd.ntmps62
      go_wp2_with fail
      refine (His.out).mono ?_
      rintro e w' ⟨rfl, rfl⟩
      go_wp2_with fail
      refine (hsp.out).mono ?_
      rintro e w' ⟨rfl, rfl⟩
      go_wp2_with fail
      refine (Hf.out).mono ?_
      rintro e w' ⟨rfl, rfl⟩
      go_wp2_with fail
      refine (HP3.out).mono ?_
      rintro e w4 ⟨rfl, hP4, f4⟩
      have fr4 := FR3.out.tr (f4.mono (fun k _ e => .inr (.inr e)))
      have hC3 := HC3.out
      have hM : Mem w4 a (m.put i b) := ⟨_, t, hP4, hC3.2.1.fr f4 (fun k hk e => hC3.2.1.pool hC3.1 k hk e), Cells.congr (hC3.2.2.1.fr f4 (fun e => hne.out _ (.inr rfl) e.symm)) (fun j hj => rfl), hS3.congr rfl (fun k hk => by
        show (if b = 0 then m.mp else updB m.mp (i / 64) true) k = m.mp k
        split
        · rfl
        · unfold updB
          split
          · rename_i e; rw [e, hmp.out]
          · rfl) (fun j hj => rfl)⟩
      clear c0'' hC3
      go_wp2_with fail
      go_ret
      exact ⟨rfl, hM, fr4⟩
end Go.Proofs.YthiephlfhbkcbaaDoor.Rm
