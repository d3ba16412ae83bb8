/- NestedPlays: the walk. -/
import Derived.Test.YtcfoogbjlokegaaNestedTells
import Derived.Test.YtcfoogbjlokegaaNestedOpen
namespace Go.Proofs.Ytcfoogbjlokegaa.nestedPlays
open Go.RowKit Fm Nt
set_option linter.unusedVariables false
set_option maxHeartbeats 4000000

structure PS (w : World) (a : Ad) (ga gb n : Nat) (o : Int) (s : Pl) (t : Ts) : Prop where
  P : Pool w a.gp s
  A : Tab w a t
  I : TInv s t
  hn : t.n = n
  ho : t.o = o
  ca : Cells w ga 3 n (fun i => .int .i64 (t.fr i))
  cb : Cells w gb 4 n (fun i => .bool (t.gd i))
section
variable {w w' : World} {a : Ad} {ga gb n : Nat} {o : Int} {s s' : Pl} {t t' : Ts}
theorem PS.fr0 (h : PS w a ga gb n o s t) (f : Fr (fun _ => False) w w') : PS w' a ga gb n o s t :=
  ⟨h.P.fr f (fun e => e), h.A.fr f (fun _ _ e => e), h.I, h.hn, h.ho, h.ca.fr f (fun e => e), h.cb.fr f (fun e => e)⟩
theorem setA (h : Cells w ga 3 n (fun i => .int .i64 (t.fr i))) {j : Nat} {f : Int} (h1 : ∀ i, i < n → i ≠ j → t'.fr i = t.fr i) (h2 : t'.fr j = f) : Cells (w.setCell ⟨ga, j, none⟩ (.int .i64 f)) ga 3 n (fun i => .int .i64 (t'.fr i)) :=
  Cells.congr (Cells.set_ h j _) fun i hi => by
    unfold putV
    split
    · rename_i e; subst e; rw [h2]
    · rename_i e; rw [h1 i hi e]
theorem setB (h : Cells w gb 4 n (fun i => .bool (t.gd i))) {j : Nat} {f : Bool} (h1 : ∀ i, i < n → i ≠ j → t'.gd i = t.gd i) (h2 : t'.gd j = f) : Cells (w.setCell ⟨gb, j, none⟩ (.bool f)) gb 4 n (fun i => .bool (t'.gd i)) :=
  Cells.congr (Cells.set_ h j _) fun i hi => by
    unfold putV
    split
    · rename_i e; subst e; rw [h2]
    · rename_i e; rw [h1 i hi e]
theorem owner_of {s : Pl} {f : Nat} (h1 : 16 ≤ f) (h2 : f < 256) (h3 : 0 ≤ s.own f) : ownB s f = true ∧ ownV s f = s.own f := by
  have e : ownB s f = true := by
    have : ¬ s.own f = -1 := by omega
    simp [ownB, isF, this]
    omega
  exact ⟨e, by simp [ownV, e]⟩
theorem owner_none {s : Pl} {f : Nat} (h3 : s.own f = -1) : ownB s f = false ∧ ownV s f = 0 := by
  have e : ownB s f = false := by simp [ownB, h3]
  exact ⟨e, by simp [ownV, e]⟩
theorem map_other (h : TInv s t) {j : Nat} (hj : j < t.n) : ∀ i, i ≠ j → (t.map s j).fr i = t.fr i := by
  intro i hi
  by_cases hx : t.fr j = -1
  · obtain ⟨f, _, _, _, _, _, _, _, e⟩ := h.mapNew hj hx
    rw [e]; exact updI_other _ _ hi
  · obtain ⟨_, _, _, e⟩ := mapOld (s := s) hj hx
    rw [e]
end
set_option maxRecDepth 100000 in
theorem walk (w : World) (ow : Int) (how : (Lit.int .i64 ow).wf = true) (pgs : Int) (hpgs : (Lit.int .i64 pgs).wf = true) (A : Option Addr) (len cap : Nat) (hl : AsksAt w w.heap.size A len ∧ len ≤ maxLen) :
    Calls Try.prog 6 #[.int .i64 ow, .int .i64 pgs, .slice A len cap] w fun e w' => e = .returned (.bool true) ∧ Fr (fun _ => False) w w' := by
  obtain ⟨hl, hm⟩ := hl
  unfold maxLen at hm
  have b1 := wf_i64 how
  have b2 := wf_i64 hpgs
  have hw1 := Lib.hid (fun W => Bk.within_any W ow 0 3 b1.1 b1.2 (by omega) (by omega) (by omega))
  have hw2 := Lib.hid (fun W => Bk.within_any W pgs 1 64 b2.1 b2.2 (by omega) (by omega) (by omega))
  have g1 := Int.emod_nonneg ow (show (3 - 0 + 1 : Int) ≠ 0 by omega)
  have g2 := Int.emod_lt_of_pos ow (show (0 : Int) < 3 - 0 + 1 by omega)
  have g3 := Int.emod_nonneg pgs (show (64 - 1 + 1 : Int) ≠ 0 by omega)
  have g4 := Int.emod_lt_of_pos pgs (show (0 : Int) < 64 - 1 + 1 by omega)
  obtain ⟨o, ho⟩ : ∃ o : Int, (0 : Int) + ow % (3 - 0 + 1) = o := ⟨_, rfl⟩
  obtain ⟨n, hn⟩ : ∃ n : Nat, (1 : Int) + pgs % (64 - 1 + 1) = n := ⟨(1 + pgs % (64 - 1 + 1)).toNat, by omega⟩
  have o0 : 0 ≤ o := by omega
  have o1 : o < 4 := by omega
  have n0 : 1 ≤ n := by omega
  have n1 : n ≤ 64 := by omega
  have hO : isO o = true := by simp [isO, o0, o1]
  rw [ho] at hw1
  rw [hn] at hw2
  have hfr := Lib.hid (fun W => fresh_any W o n o0 o1 n0 n1)
  have hm1 := fun W => run_makeI n (by omega) W
  have hm2 := fun W => run_makeB n (by omega) W
  clear b1 b2 g1 g2 g3 g4 ho hn
  go_enter Try.func6, Try.ntmps6
  go_wp2_with fail
  refine (hw1.out _).mono ?_
  rintro e w' ⟨rfl, rfl⟩
  go_wp2_with fail
  refine (hw2.out _).mono ?_
  rintro e w' ⟨rfl, rfl⟩
  go_wp2_with fail
  refine (hfr.out _).mono ?_
  rintro e w1 ⟨a, rfl, hT, hP, hbl, f1⟩
  have hI : TInv (Pl.new.promise o n) (Ts.new n o) := TInv.new o0 o1 n0 n1 PInv.new rfl (promR_new o0 o1 n1)
  have hltT := hT.lt
  have hltP := hP.lt
  have hca := cellsI w1 n rfl
  have hcb := cellsB (w1.alloc (.cells (zI n) 3)) n (g := w1.heap.size + 1) (by simp)
  have hca := hca.alloc (.cells (zB n) 4)
  have f2 := (f1.alloc (.cells (zI n) 3)).alloc (.cells (zB n) 4)
  have hT2 := (hT.alloc (.cells (zI n) 3)).alloc (.cells (zB n) 4)
  have hP2 := (hP.alloc (.cells (zI n) 3)).alloc (.cells (zB n) 4)
  have hD : ∀ k, a.own k ∨ k = a.gp → w.heap.size ≤ k ∧ k ≠ w1.heap.size ∧ k ≠ w1.heap.size + 1 := fun k hk => by
    have := hbl k hk
    rcases hk with hk | rfl
    · have := hltT k hk; omega
    · omega
  have HD := Lib.hid hD
  have hgw := f1.size
  have HO := Lib.hid hO
  clear hbl hD hltT hltP hT hP hfr hw1 hw2
  go_wp2_with fail
  clear hm1 hm2
  generalize hga : w1.heap.size = ga at *
  clear hga
  generalize hgb : ga + 1 = gb at *
  have hgab : ga ≠ gb := by omega
  have hgwb : w.heap.size ≤ gb := by omega
  clear hgb
  generalize (w1.alloc (.cells (zI n) 3)).alloc (.cells (zB n) 4) = w2 at *
  go_loopw [13] (fun i wr => ∃ k : Nat, k ≤ n ∧ i = .int .i64 k ∧ Pool wr a.gp (Pl.new.promise o n) ∧ Tab wr a (Ts.new n o) ∧ Cells wr ga 3 n (fun i => .int .i64 ((newT n o k).fr i)) ∧ Cells wr gb 4 n (fun _ => .bool false) ∧ Fr (fun _ => False) w wr) (fun i _ => n - (intOf i).toNat)
  case atStart => exact ⟨0, by omega, rfl, hP2, hT2, Cells.congr hca (fun i hi => by simp [newT]), hcb, f2⟩
  case round =>
    clear hP2 hT2 hca hcb f2
    obtain ⟨k, hk, rfl, hP, hT, hca, hcb, fr⟩ := hrel
    by_cases hlt : k < n
    · have c := hca.cell k hlt
      have z := Cells.frozen hca k
      have D1 := HD.out
      have hP' := Lib.hid (hP.fr (Fr.set1 wr ga k (.int .i64 (-1))) (fun e => (D1 a.gp (.inr rfl)).2.1 e))
      have hT' := Lib.hid (hT.fr (Fr.set1 wr ga k (.int .i64 (-1))) (fun q hq e => (D1 q (.inl hq)).2.1 e))
      have hca' := setA (t' := newT n o (k + 1)) hca (j := k) (f := -1) (fun i _ hi => by
        show (if i < k + 1 then (-1 : Int) else 0) = if i < k then -1 else 0
        by_cases h1 : i < k
        · rw [if_pos h1, if_pos (by omega)]
        · rw [if_neg h1, if_neg (by omega)]) (by show (if k < k + 1 then (-1 : Int) else 0) = -1; rw [if_pos (by omega)])
      have hcb' := Lib.hid (hcb.fr (Fr.set1 wr ga k (.int .i64 (-1))) (fun e => hgab e.symm))
      have fr' := Lib.hid (fr.setCell (p := ⟨ga, k, none⟩) (.inr (by show w.heap.size ≤ ga; omega)) (.int .i64 (-1)))
      have Hca := Lib.hid hca'
      clear hca' D1
      go_wp2_with fail
      go_roundw
      case rel => exact ⟨k + 1, by omega, by go_num, hP'.out, hT'.out, Hca.out, hcb'.out, fr'.out⟩
      case measure => simp [intOf]; omega
    · have hkn : k = n := by omega
      subst hkn
      have hS : ∃ s t, PS wr a ga gb k o s t := ⟨_, _, hP, hT, hI, rfl, rfl, Cells.congr hca (fun i hi => by simp [newT, Ts.new, hi]), hcb⟩
      obtain ⟨n, rfl⟩ : ∃ n, n = k := ⟨_, rfl⟩
      clear hP hT hca hcb hI hlt hk
      go_wp2_with fail
      go_loopw [14] (fun i wr => ∃ k : Nat, k ≤ len ∧ i = .int .i64 k ∧ (∃ s t, PS wr a ga gb n o s t) ∧ Fr (fun _ => False) w wr) (fun i _ => len - (intOf i).toNat)
      case atStart => exact ⟨0, Nat.zero_le _, rfl, hS, fr⟩
      case round =>
        clear hS fr
        obtain ⟨k, hk, rfl, ⟨s, t, hS⟩, fr⟩ := hrel
        by_cases hlt : k < len ∧ k < 60
        · obtain ⟨h1, h2⟩ := hlt
          obtain ⟨b, off, rfl, hb, kd, p, ha⟩ := hl.at_ h1
          obtain ⟨c0, c1, hp0, hp1⟩ := ha.fr fr hb (Nat.le_refl _) (fun _ _ e => e)
          have hbw : b < wr.heap.size := Nat.lt_of_lt_of_le hb fr.size
          have h60 : decide ((k : Int) < 60) = true := by simp; omega
          have hgpn := HD.out a.gp (.inr rfl)
          have hgf := HD.out a.gf (.inl (.inr (.inl rfl)))
          by_cases hin : inP t p = true
          · obtain ⟨j, rfl, hj⟩ := inP_at hin
            rw [hS.hn] at hj
            have hwn := Lib.hid (fun W => Bk.within_any W j 0 (n - 1) (by omega) (by omega) (by omega) (by omega) (by omega))
            rw [show (0 : Int) + (j : Int) % ((n : Int) - 1 - 0 + 1) = j by rw [show (n : Int) - 1 - 0 + 1 = n by omega, Int.emod_eq_of_lt (by omega) (by omega)]; omega] at hwn
            have cA := hS.ca.cell j hj
            have hcond : decide ((j : Int) < (n : Int)) = true := by simp; omega
            have hm_any := hS.I.tok j (by rw [hS.hn]; exact hj)
            clear hin
            by_cases hx : t.fr j = -1
            · have hnn : (0 : Int) ≤ t.fr j → False := by omega
              have hS0 := hS
              have hjt : j < t.n := by rw [hS.hn]; exact hj
              have hfB : frB t j = false := by simp [frB_iff t hjt, hx]
              obtain ⟨f, e1, e2, f16, f256, e3, e4, e5, e6⟩ := hS.I.mapped hjt
              have hmp := map_any wr a s t j hS.P hS.A hS.I.pi.ok
              rw [e1, e2] at hmp
              have Hmp := Lib.hid hmp
              have hI2 := hS.I.map j
              have hot := Lib.hid (map_other hS.I hjt)
              obtain ⟨ow1, ow2⟩ := owner_of (s := mapS s t j) f16 f256 (by rw [e4, hS.ho]; exact o0)
              have hwo := fun W (h : Pool W a.gp (mapS s t j)) => owner_any W a.gp _ f h
              rw [ow1, ow2, e4, hS.ho] at hwo
              have Hwo := Lib.hid hwo
              have E3 := Lib.hid e3
              have E56 := Lib.hid (show (t.map s j).n = n ∧ (t.map s j).o = o from ⟨e5.trans hS.hn, e6.trans hS.ho⟩)
              have Hgm := Lib.hid (map_no s t j).2.2
              have hum := unmap_any wr a s t j hS.P hS.A hS.I.tok
              obtain ⟨u1, u2, u3⟩ := unmapOut (s := s) hfB
              rw [u1, u2, u3] at hum
              have Hum := Lib.hid hum
              clear u1 u2 u3
              have hgu := fun W (tt : Ts) (h : Tab W a tt) => Guard_any W a tt j h
              have Hgu := Lib.hid hgu
              clear hgu
              have hhu := fun W (tt : Ts) (h : Tab W a tt) => Unguard_any W a tt j h
              have Hhu := Lib.hid hhu
              clear hhu
              have HfB := Lib.hid hfB
              clear hmp e1 e2 e3 e4 e5 e6 ow1 ow2 hwo hum hfB
              rw [hx] at cA
              clear hx hnn
              go_wp2_with fail
              refine (hwn.out _).mono ?_
              rintro e w' ⟨rfl, rfl⟩
              go_upto_block 4 with (fail)
              go_cut [14] (fun i wx => i = .int .i64 k ∧ ∃ s t, PS wx a ga gb n o s t ∧ Fr (fun _ => False) w wx)
              case first => as_aux_lemma =>
                by_cases hk1 : kd = 1
                · subst hk1
                  go_wp2_with fail
                  refine (Hmp.out).mono ?_
                  rintro e w2 ⟨rfl, hP2, hT2, f2⟩
                  have n2 : ¬ (ga = a.gp ∨ ga = a.gf) := fun e => by omega
                  have n3 : ¬ (gb = a.gp ∨ gb = a.gf) := fun e => by omega
                  have fr2 := fr.trans (S := fun _ => False) f2 (fun i hi e => by omega)
                  have hca2 := hS.ca.fr f2 n2
                  have hcb2 := hS.cb.fr f2 n3
                  have cA2 := hca2.cell j hj
                  have zA2 := Cells.frozen hca2 j
                  have ff := Fr.set1 w2 ga j (.int .i64 (f : Int))
                  have hS3 : PS (w2.setCell ⟨ga, j, none⟩ (.int .i64 (f : Int))) a ga gb n o (mapS s t j) (t.map s j) := ⟨hP2.fr ff (fun e => hgpn.2.1 e), hT2.fr ff (fun q hq e => (HD.out q (.inl hq)).2.1 e), hI2, E56.out.1, E56.out.2, setA hca2 (fun i _ hi => hot.out i hi) E3.out, by rw [Hgm.out]; exact hcb2.fr ff (fun e => hgab e.symm)⟩
                  have fr3 := fr2.setCell (p := ⟨ga, j, none⟩) (.inr (by show w.heap.size ≤ ga; omega)) (.int .i64 (f : Int))
                  have HS3 := Lib.hid hS3
                  have FR3 := Lib.hid fr3
                  clear hS3 fr3 hS hS0 ff
                  go_wp2_with fail
                  refine (Hwo.out _ hP2).mono ?_
                  rintro e w' ⟨rfl, rfl⟩
                  go_wp2_with fail
                  go_meet
                  exact ⟨rfl, _, _, HS3.out, FR3.out⟩
                · have q1 : (kd == 1) = false := by simpa using hk1
                  by_cases hk2 : kd = 2
                  · subst hk2
                    go_wp2_with fail
                    refine (Hum.out).mono ?_
                    rintro e w2 ⟨rfl, hP2, hT2, f2⟩
                    have fr2 := fr.trans (S := fun _ => False) f2 (fun i hi e => by have := HD.out i e.symm; omega)
                    have hS2 : PS w2 a ga gb n o s t := ⟨hP2, hT2, hS.I, hS.hn, hS.ho, hS.ca.fr f2 (fun e => (HD.out ga e.symm).2.1 rfl), hS.cb.fr f2 (fun e => (HD.out gb e.symm).2.2 rfl)⟩
                    clear hS hS0
                    go_wp2_with fail
                    go_meet
                    exact ⟨rfl, s, t, hS2, fr2⟩
                  · have q2 : (kd == 2) = false := by simpa using hk2
                    by_cases hk3 : kd = 3 ∨ kd = 4
                    · have hgg := HD.out a.gg (.inl (.inr (.inr rfl)))
                      have hgu0 := Hgu.out wr t hS.A
                      rw [HfB.out] at hgu0
                      have HGu := Lib.hid hgu0
                      clear hgu0
                      have hI3 := hS.I.guard j true
                      have hI4 := hI3.guard j false
                      have hfB1 : frB (t.guard j true) j = frB t j := by unfold frB inP; rw [(guard_no t j true).1, (guard_no t j true).2.2]
                      have HfB1 := Lib.hid (hfB1.trans HfB.out)
                      have Hg3 := Lib.hid (guard_no t j true)
                      have Hg4 := Lib.hid (guard_no (t.guard j true) j false)
                      have Ht3 := Lib.hid (show t.guard j true = t from by rw [Ts.guard, if_neg (by rw [HfB.out]; exact Bool.false_ne_true)])
                      have Ht4 := Lib.hid (show t.guard j false = t from by rw [Ts.guard, if_neg (by rw [HfB.out]; exact Bool.false_ne_true)])
                      clear hfB1
                      rcases hk3 with rfl | rfl
                      · go_wp2_with fail
                        refine (HGu.out).mono ?_
                        rintro e w2 ⟨rfl, hT2, f2⟩
                        have fr2 := fr.trans (S := fun _ => False) f2 (fun i hi e => by omega)
                        obtain ⟨c0, c1, _, _⟩ := ha.fr fr2 hb (Nat.le_refl _) (fun _ _ e => e)
                        have hP2 := hS.P.fr f2 (fun e => hS.A.pool hS.P a.gg (.inr (.inr rfl)) e.symm)
                        have hca2 := hS.ca.fr f2 (fun e => hgg.2.1 e.symm)
                        have hcb2 := hS.cb.fr f2 (fun e => hgg.2.2 e.symm)
                        have hno : (t.guard j true).n = n ∧ (t.guard j true).o = o := ⟨Hg3.out.1.trans hS.hn, Hg3.out.2.1.trans hS.ho⟩
                        have hfrr : (t.guard j true).fr = t.fr := Hg3.out.2.2
                        have hSz : PS w2 a ga gb n o s t := ⟨hP2, by first | (have h9 := hT2; rw [Ht3.out] at h9; first | exact h9 | (rw [Ht4.out] at h9; exact h9)), hS.I, hS.hn, hS.ho, hca2, hcb2⟩
                        have frz := fr2
                        have HSz := Lib.hid hSz
                        have FRz := Lib.hid frz
                        clear hSz frz hS hS0 hno hfrr
                        go_wp2_with fail
                        go_meet
                        exact ⟨rfl, _, _, HSz.out, FRz.out⟩
                      · go_wp2_with fail
                        refine (HGu.out).mono ?_
                        rintro e w2 ⟨rfl, hT2, f2⟩
                        have fr2 := fr.trans (S := fun _ => False) f2 (fun i hi e => by omega)
                        obtain ⟨c0, c1, _, _⟩ := ha.fr fr2 hb (Nat.le_refl _) (fun _ _ e => e)
                        have hP2 := hS.P.fr f2 (fun e => hS.A.pool hS.P a.gg (.inr (.inr rfl)) e.symm)
                        have hca2 := hS.ca.fr f2 (fun e => hgg.2.1 e.symm)
                        have hcb2 := hS.cb.fr f2 (fun e => hgg.2.2 e.symm)
                        have hug0 := Hhu.out w2 _ hT2
                        rw [HfB1.out] at hug0
                        have HUg := Lib.hid hug0
                        clear hug0
                        have hne9 := hT2.pool hP2
                        go_wp2_with fail
                        refine (HUg.out).mono ?_
                        rintro e w3 ⟨rfl, hT3, f3⟩
                        have fr3 := fr2.trans (S := fun _ => False) f3 (fun i hi e => by omega)
                        obtain ⟨c0, c1, _, _⟩ := ha.fr fr3 hb (Nat.le_refl _) (fun _ _ e => e)
                        have hP3 := hP2.fr f3 (fun e => hne9 a.gg (.inr (.inr rfl)) e.symm)
                        have hca3 := hca2.fr f3 (fun e => hgg.2.1 e.symm)
                        have hcb3 := hcb2.fr f3 (fun e => hgg.2.2 e.symm)
                        have hno : ((t.guard j true).guard j false).n = n ∧ ((t.guard j true).guard j false).o = o := ⟨(Hg4.out.1.trans Hg3.out.1).trans hS.hn, (Hg4.out.2.1.trans Hg3.out.2.1).trans hS.ho⟩
                        have hfrr : ((t.guard j true).guard j false).fr = t.fr := (Hg4.out.2.2.trans Hg3.out.2.2)
                        have hSz : PS w3 a ga gb n o s t := ⟨hP3, by first | (have h9 := hT3; rw [Ht3.out] at h9; first | exact h9 | (rw [Ht4.out] at h9; exact h9)), hS.I, hS.hn, hS.ho, hca3, hcb3⟩
                        have frz := fr3
                        have HSz := Lib.hid hSz
                        have FRz := Lib.hid frz
                        clear hSz frz hS hS0 hno hfrr
                        go_wp2_with fail
                        go_meet
                        exact ⟨rfl, _, _, HSz.out, FRz.out⟩
                    · have q3 : (kd == 3) = false := by simp; omega
                      have q4 : (kd == 4) = false := by simp; omega
                      clear hS0
                      go_wp2_with fail
                      go_meet
                      exact ⟨rfl, s, t, hS, fr⟩
              case rest => as_aux_lemma =>
                obtain ⟨rfl, s3, t3, hS3, fr3⟩ := hcut
                clear hS fr
                have htl := Lib.hid (tells_any wc a t3 ga gb hS3.A hS3.I.tok hS3.I.gd (hS3.hn.symm ▸ hS3.ca) (hS3.hn.symm ▸ hS3.cb))
                rw [hS3.hn] at htl
                have hhl := held_len_eq (s := s3) hO
                have hcn := hS3.I.cn
                rw [hS3.ho] at hcn
                rw [hcn, ← mapN_len] at hhl
                have Hhl := Lib.hid hhl
                have hml := mapN_le t3 t3.n
                have hnn : t3.n ≤ 64 := hS3.I.n1
                clear hhl hcn
                go_wp2_with fail
                refine (htl.out).mono ?_
                rintro e w4 ⟨rfl, f4⟩
                have hS4 := hS3.fr0 f4
                have hhd := Lib.hid (held_any w4 a.gp s3 o hS4.P 0 (by omega))
                go_wp2_with fail
                refine (hhd.out).mono ?_
                rintro e w5 ⟨v5, rfl, ho5, f5, k5⟩
                have hS5 := hS4.fr0 f5
                obtain ⟨A5, cap5, rfl⟩ := ownI_any ho5
                rw [Hhl.out] at ho5
                rw [Hhl.out]
                have hmp := Lib.hid (mapped_any w5 a t3 hS5.A 0 (by omega))
                clear ho5 k5
                go_wp2_with fail
                refine (hmp.out).mono ?_
                rintro e w6 ⟨v6, rfl, ho6, f6, k6⟩
                have hS6 := hS5.fr0 f6
                obtain ⟨A6, cap6, rfl⟩ := ownI_any ho6
                have fr6 := ((fr3.tr f4).tr f5).tr f6
                clear ho6 k6
                generalize (mapN t3 t3.n).length = ml at *
                go_wp2_with fail
                go_roundw
                case rel => exact ⟨k + 1, by omega, by go_num, ⟨s3, t3, hS6⟩, fr6⟩
                case measure => simp [intOf]; omega
            · have hnn : (0 : Int) ≤ t.fr j := by omega
              have hS0 := hS
              have hjt : j < t.n := by rw [hS.hn]; exact hj
              have hfB : frB t j = true := by simp [frB_iff t hjt, hx]
              obtain ⟨f, e1, e2, f16, f256, e3, e4, e5, e6⟩ := hS.I.mapped hjt
              have hmp := map_any wr a s t j hS.P hS.A hS.I.pi.ok
              rw [e1, e2] at hmp
              have Hmp := Lib.hid hmp
              have hI2 := hS.I.map j
              have hot := Lib.hid (map_other hS.I hjt)
              obtain ⟨ow1, ow2⟩ := owner_of (s := mapS s t j) f16 f256 (by rw [e4, hS.ho]; exact o0)
              have hwo := fun W (h : Pool W a.gp (mapS s t j)) => owner_any W a.gp _ f h
              rw [ow1, ow2, e4, hS.ho] at hwo
              have Hwo := Lib.hid hwo
              have E3 := Lib.hid e3
              have E56 := Lib.hid (show (t.map s j).n = n ∧ (t.map s j).o = o from ⟨e5.trans hS.hn, e6.trans hS.ho⟩)
              have Hgm := Lib.hid (map_no s t j).2.2
              have Hef := Lib.hid (show t.fr j = f from by obtain ⟨_, q2, _, _⟩ := mapOld (s := s) hjt hx; rw [e2] at q2; exact q2.symm)
              have hum := unmap_any wr a s t j hS.P hS.A hS.I.tok
              obtain ⟨fu, v0, v1, v2, v3, v4, v5, v6⟩ := hS.I.unmapOld hjt hx
              have hwu := fun W (h : Pool W a.gp (unmapS s t j)) => owner_any W a.gp _ fu h
              obtain ⟨x1, x2⟩ := owner_none (s := unmapS s t j) (f := fu) (by rw [v5]; exact updI_same _ _ _)
              rw [x1, x2] at hwu
              have Hwu := Lib.hid hwu
              rw [v4] at hum
              have Hum := Lib.hid hum
              have hIu := hS.I.unmap j
              have Hun := Lib.hid (show (t.unmap j).n = n ∧ (t.unmap j).o = o from ⟨(unmap_no t j).1.trans hS.hn, (unmap_no t j).2.trans hS.ho⟩)
              have Huf := Lib.hid (show ∀ i, i ≠ j → (t.unmap j).fr i = t.fr i from fun i hi => by rw [v6]; exact updI_other _ _ hi)
              have Huj := Lib.hid (show (t.unmap j).fr j = -1 ∧ (t.unmap j).gd j = false from by rw [v6]; exact ⟨updI_same _ _ _, by show updB t.gd j false j = false; simp [updB]⟩)
              have Hug := Lib.hid (show ∀ i, i ≠ j → (t.unmap j).gd i = t.gd i from fun i hi => by rw [v6]; show updB t.gd j false i = t.gd i; simp [updB, hi])
              have Hv0 := Lib.hid v0
              clear v0 v1 v2 v3 v4 v5 v6 x1 x2 hwu
              have hgu := fun W (tt : Ts) (h : Tab W a tt) => Guard_any W a tt j h
              have Hgu := Lib.hid hgu
              clear hgu
              have hhu := fun W (tt : Ts) (h : Tab W a tt) => Unguard_any W a tt j h
              have Hhu := Lib.hid hhu
              clear hhu
              have HfB := Lib.hid hfB
              clear hmp e1 e2 e3 e4 e5 e6 ow1 ow2 hwo hum hfB
              have Hx := Lib.hid hx
              have hx9 : (t.fr j == -1) = false := by simpa using hx
              clear hx
              go_wp2_with fail
              refine (hwn.out _).mono ?_
              rintro e w' ⟨rfl, rfl⟩
              go_upto_block 4 with (fail)
              go_cut [14] (fun i wx => i = .int .i64 k ∧ ∃ s t, PS wx a ga gb n o s t ∧ Fr (fun _ => False) w wx)
              case first => as_aux_lemma =>
                by_cases hk1 : kd = 1
                · subst hk1
                  have hef : t.fr j = f := Hef.out
                  rw [hef] at cA
                  clear hnn hx9 hef
                  go_wp2_with fail
                  refine (Hmp.out).mono ?_
                  rintro e w2 ⟨rfl, hP2, hT2, f2⟩
                  have n2 : ¬ (ga = a.gp ∨ ga = a.gf) := fun e => by omega
                  have n3 : ¬ (gb = a.gp ∨ gb = a.gf) := fun e => by omega
                  have fr2 := fr.trans (S := fun _ => False) f2 (fun i hi e => by omega)
                  have hca2 := hS.ca.fr f2 n2
                  have hcb2 := hS.cb.fr f2 n3
                  have cA2 := hca2.cell j hj
                  rw [Hef.out] at cA2
                  have zA2 := Cells.frozen hca2 j
                  have ff := Fr.set1 w2 ga j (.int .i64 (f : Int))
                  have hS3 : PS (w2.setCell ⟨ga, j, none⟩ (.int .i64 (f : Int))) a ga gb n o (mapS s t j) (t.map s j) := ⟨hP2.fr ff (fun e => hgpn.2.1 e), hT2.fr ff (fun q hq e => (HD.out q (.inl hq)).2.1 e), hI2, E56.out.1, E56.out.2, setA hca2 (fun i _ hi => hot.out i hi) E3.out, by rw [Hgm.out]; exact hcb2.fr ff (fun e => hgab e.symm)⟩
                  have fr3 := fr2.setCell (p := ⟨ga, j, none⟩) (.inr (by show w.heap.size ≤ ga; omega)) (.int .i64 (f : Int))
                  have HS3 := Lib.hid hS3
                  have FR3 := Lib.hid fr3
                  clear hS3 fr3 hS hS0 ff
                  go_wp2_with fail
                  refine (Hwo.out _ hP2).mono ?_
                  rintro e w' ⟨rfl, rfl⟩
                  go_wp2_with fail
                  go_meet
                  exact ⟨rfl, _, _, HS3.out, FR3.out⟩
                · have q1 : (kd == 1) = false := by simpa using hk1
                  by_cases hk2 : kd = 2
                  · subst hk2
                    have hef : t.fr j = fu := Hv0.out
                    rw [hef] at cA
                    clear hnn hx9 hef
                    go_wp2_with fail
                    refine (Hum.out).mono ?_
                    rintro e w2 ⟨rfl, hP2, hT2, f2⟩
                    have fr2 := fr.trans (S := fun _ => False) f2 (fun i hi e => by have := HD.out i e.symm; omega)
                    have hca2 := hS.ca.fr f2 (fun e => (HD.out ga e.symm).2.1 rfl)
                    have hcb2 := hS.cb.fr f2 (fun e => (HD.out gb e.symm).2.2 rfl)
                    have cA2 := hca2.cell j hj
                    rw [Hv0.out] at cA2
                    have zA2 := Cells.frozen hca2 j
                    have cB2 := hcb2.cell j hj
                    have zB2 := Cells.frozen hcb2 j
                    have ff := Fr.set1 w2 ga j (.int .i64 (-1))
                    have ff2 := Fr.set1 (w2.setCell ⟨ga, j, none⟩ (.int .i64 (-1))) gb j (.bool false)
                    have hS3 : PS (((w2.setCell ⟨ga, j, none⟩ (.int .i64 (-1))).setCell ⟨gb, j, none⟩ (.bool false))) a ga gb n o (unmapS s t j) (t.unmap j) := ⟨((hP2.fr ff (fun e => hgpn.2.1 e)).fr ff2 (fun e => hgpn.2.2 e)), ((hT2.fr ff (fun q hq e => (HD.out q (.inl hq)).2.1 e)).fr ff2 (fun q hq e => (HD.out q (.inl hq)).2.2 e)), hIu, Hun.out.1, Hun.out.2, ((setA hca2 (fun i _ hi => Huf.out i hi) Huj.out.1).fr ff2 hgab), (setB (hcb2.fr ff (fun e => hgab e.symm)) (fun i _ hi => Hug.out i hi) Huj.out.2)⟩
                    have fr3 := ((fr2.setCell (p := ⟨ga, j, none⟩) (.inr (by show w.heap.size ≤ ga; omega)) (.int .i64 (-1))).setCell (p := ⟨gb, j, none⟩) (.inr (by show w.heap.size ≤ gb; omega)) (.bool false))
                    have HS3 := Lib.hid hS3
                    have FR3 := Lib.hid fr3
                    clear hS3 fr3 hS hS0 ff ff2
                    go_wp2_with fail
                    refine (Hwu.out _ hP2).mono ?_
                    rintro e w' ⟨rfl, rfl⟩
                    go_wp2_with fail
                    go_meet
                    exact ⟨rfl, _, _, HS3.out, FR3.out⟩
                  · have q2 : (kd == 2) = false := by simpa using hk2
                    by_cases hk3 : kd = 3 ∨ kd = 4
                    · have hgg := HD.out a.gg (.inl (.inr (.inr rfl)))
                      have hgu0 := Hgu.out wr t hS.A
                      rw [HfB.out] at hgu0
                      have HGu := Lib.hid hgu0
                      clear hgu0
                      have hI3 := hS.I.guard j true
                      have hI4 := hI3.guard j false
                      have hfB1 : frB (t.guard j true) j = frB t j := by unfold frB inP; rw [(guard_no t j true).1, (guard_no t j true).2.2]
                      have HfB1 := Lib.hid (hfB1.trans HfB.out)
                      have Hg3 := Lib.hid (guard_no t j true)
                      have Hg4 := Lib.hid (guard_no (t.guard j true) j false)
                      have Hgd3 := Lib.hid (show (∀ i, i ≠ j → (t.guard j true).gd i = t.gd i) ∧ (t.guard j true).gd j = true from by
                        rw [Ts.guard, if_pos HfB.out]
                        exact ⟨fun i hi => by show updB t.gd j true i = t.gd i; simp [updB, hi], by show updB t.gd j true j = true; simp [updB]⟩)
                      have Hgd4 := Lib.hid (show (∀ i, i ≠ j → ((t.guard j true).guard j false).gd i = t.gd i) ∧ ((t.guard j true).guard j false).gd j = false from by
                        rw [Ts.guard, if_pos HfB1.out]
                        exact ⟨fun i hi => by show updB (t.guard j true).gd j false i = t.gd i; rw [updB, if_neg hi]; exact Hgd3.out.1 i hi, by show updB _ j false j = false; simp [updB]⟩)
                      clear hnn
                      clear hfB1
                      rcases hk3 with rfl | rfl
                      · go_wp2_with fail
                        refine (HGu.out).mono ?_
                        rintro e w2 ⟨rfl, hT2, f2⟩
                        have fr2 := fr.trans (S := fun _ => False) f2 (fun i hi e => by omega)
                        obtain ⟨c0, c1, _, _⟩ := ha.fr fr2 hb (Nat.le_refl _) (fun _ _ e => e)
                        have hP2 := hS.P.fr f2 (fun e => hS.A.pool hS.P a.gg (.inr (.inr rfl)) e.symm)
                        have hca2 := hS.ca.fr f2 (fun e => hgg.2.1 e.symm)
                        have hcb2 := hS.cb.fr f2 (fun e => hgg.2.2 e.symm)
                        have hno : (t.guard j true).n = n ∧ (t.guard j true).o = o := ⟨Hg3.out.1.trans hS.hn, Hg3.out.2.1.trans hS.ho⟩
                        have hfrr : (t.guard j true).fr = t.fr := Hg3.out.2.2
                        have cBz := hcb2.cell j hj
                        have zBz := Cells.frozen hcb2 j
                        have ff := Fr.set1 w2 gb j (.bool true)
                        have hSz : PS ((w2.setCell ⟨gb, j, none⟩ (.bool true))) a ga gb n o s (t.guard j true) := ⟨hP2.fr ff (fun e => hgpn.2.2 e), hT2.fr ff (fun q hq e => (HD.out q (.inl hq)).2.2 e), hI3, hno.1, hno.2, by rw [hfrr]; exact hca2.fr ff hgab, setB hcb2 (fun i _ hi => Hgd3.out.1 i hi) Hgd3.out.2⟩
                        have frz := fr2.setCell (p := ⟨gb, j, none⟩) (.inr (by show w.heap.size ≤ gb; omega)) (.bool true)
                        have HSz := Lib.hid hSz
                        have FRz := Lib.hid frz
                        clear hSz frz hS hS0 hno hfrr
                        go_wp2_with fail
                        try go_region
                        try go_wp2_with fail
                        go_meet
                        exact ⟨rfl, _, _, HSz.out, FRz.out⟩
                      · go_wp2_with fail
                        refine (HGu.out).mono ?_
                        rintro e w2 ⟨rfl, hT2, f2⟩
                        have fr2 := fr.trans (S := fun _ => False) f2 (fun i hi e => by omega)
                        obtain ⟨c0, c1, _, _⟩ := ha.fr fr2 hb (Nat.le_refl _) (fun _ _ e => e)
                        have hP2 := hS.P.fr f2 (fun e => hS.A.pool hS.P a.gg (.inr (.inr rfl)) e.symm)
                        have hca2 := hS.ca.fr f2 (fun e => hgg.2.1 e.symm)
                        have hcb2 := hS.cb.fr f2 (fun e => hgg.2.2 e.symm)
                        have hug0 := Hhu.out w2 _ hT2
                        rw [HfB1.out] at hug0
                        have HUg := Lib.hid hug0
                        clear hug0
                        have hne9 := hT2.pool hP2
                        go_wp2_with fail
                        refine (HUg.out).mono ?_
                        rintro e w3 ⟨rfl, hT3, f3⟩
                        have fr3 := fr2.trans (S := fun _ => False) f3 (fun i hi e => by omega)
                        obtain ⟨c0, c1, _, _⟩ := ha.fr fr3 hb (Nat.le_refl _) (fun _ _ e => e)
                        have hP3 := hP2.fr f3 (fun e => hne9 a.gg (.inr (.inr rfl)) e.symm)
                        have hca3 := hca2.fr f3 (fun e => hgg.2.1 e.symm)
                        have hcb3 := hcb2.fr f3 (fun e => hgg.2.2 e.symm)
                        have hno : ((t.guard j true).guard j false).n = n ∧ ((t.guard j true).guard j false).o = o := ⟨(Hg4.out.1.trans Hg3.out.1).trans hS.hn, (Hg4.out.2.1.trans Hg3.out.2.1).trans hS.ho⟩
                        have hfrr : ((t.guard j true).guard j false).fr = t.fr := (Hg4.out.2.2.trans Hg3.out.2.2)
                        have cBz := hcb3.cell j hj
                        have zBz := Cells.frozen hcb3 j
                        have ff := Fr.set1 w3 gb j (.bool false)
                        have hSz : PS ((w3.setCell ⟨gb, j, none⟩ (.bool false))) a ga gb n o s ((t.guard j true).guard j false) := ⟨hP3.fr ff (fun e => hgpn.2.2 e), hT3.fr ff (fun q hq e => (HD.out q (.inl hq)).2.2 e), hI4, hno.1, hno.2, by rw [hfrr]; exact hca3.fr ff hgab, setB hcb3 (fun i _ hi => Hgd4.out.1 i hi) Hgd4.out.2⟩
                        have frz := fr3.setCell (p := ⟨gb, j, none⟩) (.inr (by show w.heap.size ≤ gb; omega)) (.bool false)
                        have HSz := Lib.hid hSz
                        have FRz := Lib.hid frz
                        clear hSz frz hS hS0 hno hfrr
                        go_wp2_with fail
                        try go_region
                        try go_wp2_with fail
                        go_meet
                        exact ⟨rfl, _, _, HSz.out, FRz.out⟩
                    · have q3 : (kd == 3) = false := by simp; omega
                      have q4 : (kd == 4) = false := by simp; omega
                      clear hS0
                      go_wp2_with fail
                      go_meet
                      exact ⟨rfl, s, t, hS, fr⟩
              case rest => as_aux_lemma =>
                obtain ⟨rfl, s3, t3, hS3, fr3⟩ := hcut
                clear hS fr
                have htl := Lib.hid (tells_any wc a t3 ga gb hS3.A hS3.I.tok hS3.I.gd (hS3.hn.symm ▸ hS3.ca) (hS3.hn.symm ▸ hS3.cb))
                rw [hS3.hn] at htl
                have hhl := held_len_eq (s := s3) hO
                have hcn := hS3.I.cn
                rw [hS3.ho] at hcn
                rw [hcn, ← mapN_len] at hhl
                have Hhl := Lib.hid hhl
                have hml := mapN_le t3 t3.n
                have hnn : t3.n ≤ 64 := hS3.I.n1
                clear hhl hcn
                go_wp2_with fail
                refine (htl.out).mono ?_
                rintro e w4 ⟨rfl, f4⟩
                have hS4 := hS3.fr0 f4
                have hhd := Lib.hid (held_any w4 a.gp s3 o hS4.P 0 (by omega))
                go_wp2_with fail
                refine (hhd.out).mono ?_
                rintro e w5 ⟨v5, rfl, ho5, f5, k5⟩
                have hS5 := hS4.fr0 f5
                obtain ⟨A5, cap5, rfl⟩ := ownI_any ho5
                rw [Hhl.out] at ho5
                rw [Hhl.out]
                have hmp := Lib.hid (mapped_any w5 a t3 hS5.A 0 (by omega))
                clear ho5 k5
                go_wp2_with fail
                refine (hmp.out).mono ?_
                rintro e w6 ⟨v6, rfl, ho6, f6, k6⟩
                have hS6 := hS5.fr0 f6
                obtain ⟨A6, cap6, rfl⟩ := ownI_any ho6
                have fr6 := ((fr3.tr f4).tr f5).tr f6
                clear ho6 k6
                generalize (mapN t3 t3.n).length = ml at *
                go_wp2_with fail
                go_roundw
                case rel => exact ⟨k + 1, by omega, by go_num, ⟨s3, t3, hS6⟩, fr6⟩
                case measure => simp [intOf]; omega
          · have hin : inP t p = false := by simpa using hin
            have hcond : ¬ (0 ≤ p ∧ p < n) := by
              rw [← hS.hn]
              simpa [inP] using hin
            have hS0 := hS
            have hmp := map_any wr a s t p hS.P hS.A hS.I.pi.ok
            obtain ⟨m1, m2, m3, m4⟩ := mapOut (s := s) hin
            rw [m1, m2, m3, m4] at hmp
            have Hmp := Lib.hid hmp
            have hfB : frB t p = false := by simp [frB, hin]
            have hum := unmap_any wr a s t p hS.P hS.A hS.I.tok
            obtain ⟨u1, u2, u3⟩ := unmapOut (s := s) hfB
            rw [u1, u2, u3] at hum
            have Hum := Lib.hid hum
            have hg1 : t.guard p true = t := by simp [Ts.guard, hfB]
            have hg2 : t.guard p false = t := by simp [Ts.guard, hfB]
            have hgu := Guard_any wr a t p hS.A
            rw [hg1, hfB] at hgu
            have Hgu := Lib.hid hgu
            have hug := fun W (h : Tab W a t) => Unguard_any W a t p h
            rw [hg2, hfB] at hug
            have Hug := Lib.hid hug
            clear hmp m1 m2 m3 m4 hum u1 u2 u3 hg1 hg2 hgu hug hfB hin
            rcases (by omega : p < 0 ∨ (0 ≤ p ∧ (n : Int) ≤ p)) with hneg | ⟨hpos, hbig⟩
            all_goals clear hcond
            all_goals
              go_upto_block 4 with (fail)
              go_cut [14] (fun i wx => i = .int .i64 k ∧ ∃ s t, PS wx a ga gb n o s t ∧ Fr (fun _ => False) w wx)
              case first => as_aux_lemma =>
                by_cases hk1 : kd = 1
                · subst hk1
                  go_wp2_with fail
                  refine (Hmp.out).mono ?_
                  rintro e w2 ⟨rfl, hP2, hT2, f2⟩
                  have fr2 := fr.trans (S := fun _ => False) f2 (fun i hi e => by omega)
                  have hS2 : PS w2 a ga gb n o s t := ⟨hP2, hT2, hS.I, hS.hn, hS.ho, hS.ca.fr f2 (fun e => by omega), hS.cb.fr f2 (fun e => by omega)⟩
                  clear hS
                  go_wp2_with fail
                  go_meet
                  exact ⟨rfl, s, t, hS2, fr2⟩
                · have q1 : (kd == 1) = false := by simpa using hk1
                  by_cases hk2 : kd = 2
                  · subst hk2
                    go_wp2_with fail
                    refine (Hum.out).mono ?_
                    rintro e w2 ⟨rfl, hP2, hT2, f2⟩
                    have fr2 := fr.trans (S := fun _ => False) f2 (fun i hi e => by have := HD.out i e.symm; omega)
                    have hS2 : PS w2 a ga gb n o s t := ⟨hP2, hT2, hS.I, hS.hn, hS.ho, hS.ca.fr f2 (fun e => (HD.out ga e.symm).2.1 rfl), hS.cb.fr f2 (fun e => (HD.out gb e.symm).2.2 rfl)⟩
                    clear hS
                    go_wp2_with fail
                    go_meet
                    exact ⟨rfl, s, t, hS2, fr2⟩
                  · have q2 : (kd == 2) = false := by simpa using hk2
                    by_cases hk3 : kd = 3 ∨ kd = 4
                    · have hgg := HD.out a.gg (.inl (.inr (.inr rfl)))
                      rcases hk3 with rfl | rfl
                      · go_wp2_with fail
                        refine (Hgu.out).mono ?_
                        rintro e w2 ⟨rfl, hT2, f2⟩
                        have fr2 := fr.trans (S := fun _ => False) f2 (fun i hi e => by omega)
                        have hS2 : PS w2 a ga gb n o s t := ⟨hS.P.fr f2 (fun e => hS.A.pool hS.P a.gg (.inr (.inr rfl)) e.symm), hT2, hS.I, hS.hn, hS.ho, hS.ca.fr f2 (fun e => hgg.2.1 e.symm), hS.cb.fr f2 (fun e => hgg.2.2 e.symm)⟩
                        obtain ⟨c0, c1, _, _⟩ := ha.fr fr2 hb (Nat.le_refl _) (fun _ _ e => e)
                        clear hS
                        go_wp2_with fail
                        go_meet
                        exact ⟨rfl, s, t, hS2, fr2⟩
                      · go_wp2_with fail
                        refine (Hgu.out).mono ?_
                        rintro e w2 ⟨rfl, hT2, f2⟩
                        have fr2 := fr.trans (S := fun _ => False) f2 (fun i hi e => by omega)
                        have hS2 : PS w2 a ga gb n o s t := ⟨hS.P.fr f2 (fun e => hS.A.pool hS.P a.gg (.inr (.inr rfl)) e.symm), hT2, hS.I, hS.hn, hS.ho, hS.ca.fr f2 (fun e => hgg.2.1 e.symm), hS.cb.fr f2 (fun e => hgg.2.2 e.symm)⟩
                        obtain ⟨c0, c1, _, _⟩ := ha.fr fr2 hb (Nat.le_refl _) (fun _ _ e => e)
                        clear hS
                        go_wp2_with fail
                        refine (Hug.out _ hT2).mono ?_
                        rintro e w3 ⟨rfl, hT3, f3⟩
                        have fr3 := fr2.trans (S := fun _ => False) f3 (fun i hi e => by omega)
                        have hS3 : PS w3 a ga gb n o s t := ⟨hS2.P.fr f3 (fun e => hS2.A.pool hS2.P a.gg (.inr (.inr rfl)) e.symm), hT3, hS2.I, hS2.hn, hS2.ho, hS2.ca.fr f3 (fun e => hgg.2.1 e.symm), hS2.cb.fr f3 (fun e => hgg.2.2 e.symm)⟩
                        clear hS2
                        go_wp2_with fail
                        go_meet
                        exact ⟨rfl, s, t, hS3, fr3⟩
                    · have q3 : (kd == 3) = false := by simp; omega
                      have q4 : (kd == 4) = false := by simp; omega
                      clear hS0
                      go_wp2_with fail
                      go_meet
                      exact ⟨rfl, s, t, hS, fr⟩
              case rest => as_aux_lemma =>
                obtain ⟨rfl, s3, t3, hS3, fr3⟩ := hcut
                clear hS fr
                have htl := Lib.hid (tells_any wc a t3 ga gb hS3.A hS3.I.tok hS3.I.gd (hS3.hn.symm ▸ hS3.ca) (hS3.hn.symm ▸ hS3.cb))
                rw [hS3.hn] at htl
                have hhl := held_len_eq (s := s3) hO
                have hcn := hS3.I.cn
                rw [hS3.ho] at hcn
                rw [hcn, ← mapN_len] at hhl
                have Hhl := Lib.hid hhl
                have hml := mapN_le t3 t3.n
                have hnn : t3.n ≤ 64 := hS3.I.n1
                clear hhl hcn
                go_wp2_with fail
                refine (htl.out).mono ?_
                rintro e w4 ⟨rfl, f4⟩
                have hS4 := hS3.fr0 f4
                have hhd := Lib.hid (held_any w4 a.gp s3 o hS4.P 0 (by omega))
                go_wp2_with fail
                refine (hhd.out).mono ?_
                rintro e w5 ⟨v5, rfl, ho5, f5, k5⟩
                have hS5 := hS4.fr0 f5
                obtain ⟨A5, cap5, rfl⟩ := ownI_any ho5
                rw [Hhl.out] at ho5
                rw [Hhl.out]
                have hmp := Lib.hid (mapped_any w5 a t3 hS5.A 0 (by omega))
                clear ho5 k5
                go_wp2_with fail
                refine (hmp.out).mono ?_
                rintro e w6 ⟨v6, rfl, ho6, f6, k6⟩
                have hS6 := hS5.fr0 f6
                obtain ⟨A6, cap6, rfl⟩ := ownI_any ho6
                have fr6 := ((fr3.tr f4).tr f5).tr f6
                clear ho6 k6
                generalize (mapN t3 t3.n).length = ml at *
                go_wp2_with fail
                go_roundw
                case rel => exact ⟨k + 1, by omega, by go_num, ⟨s3, t3, hS6⟩, fr6⟩
                case measure => simp [intOf]; omega
        · go_wp2_with fail
          all_goals
            refine (known_any _).mono ?_
            rintro e w6 ⟨rfl, f6⟩
            go_wp2_with fail
            go_ret
            exact ⟨rfl, fr.tr f6⟩
end Go.Proofs.Ytcfoogbjlokegaa.nestedPlays
