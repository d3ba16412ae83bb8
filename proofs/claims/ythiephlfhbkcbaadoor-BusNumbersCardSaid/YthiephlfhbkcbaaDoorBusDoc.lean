/- The document's bus (innkeeperref15.Bus): Load, Tick, over the same state. -/
import Derived.Test.YthiephlfhbkcbaaDoorBusOwnB
import Derived.Test.YthiephlfhbkcbaaDoorSlices
namespace Go.Proofs.YthiephlfhbkcbaaDoor.Bs
open Go.RowKit Fm Nt Rm By Dr Rf
set_option linter.unusedVariables false
set_option linter.unusedSimpArgs false
set_option maxHeartbeats 4000000

section
variable {w w' : World} {r : Rr} {s : Sb} {vo vi : Value} {zs : List Int}
theorem RowAt.its (h : RowAt w r vo zs) (f : Fr r.its w w') : RowAt w' r vo zs := by
  obtain ⟨A, n, c, e, h1, h2, h3, h4⟩ := h
  exact ⟨A, n, c, e, (ints_own h1 f (Nat.le_refl _) (fun hn b off e => h4 hn b off e)).more f.size, h2, h3, h4⟩
theorem Doc.nRb (h : Doc w r s) : r.gR ≠ r.gb ∧ r.gR ≠ r.gk ∧ r.gR ≠ r.gt ∧ r.gR ≠ r.gM := by
  obtain ⟨vo, vi, h1, _⟩ := h.b
  exact ⟨h.B.nBb, h.B.nBk, h.B.nBt, Blk.ne_ h1 h.B.r.b (by decide)⟩
/-- cells of its own block turn -/
theorem Doc.own (h : Doc w r s) (f : Fr (· = r.gR) w w') {s' : Sb} {vo' vi' : Value} (hb : Blk w' r.gR 83 (docCells r s' vo' vi')) (ho : RowAt w' r vo' s'.outs) (hi : RowAt w' r vi' s'.ins) (e1 : s'.ms = s.ms) (e2 : s'.d = s.d) : Doc w' r s' := by
  obtain ⟨n1, n2, n3, n4⟩ := h.nRb
  refine ⟨⟨?_, ⟨_, hb, rfl, rfl⟩, ?_, h.B.ne⟩, _, _, hb, ho, hi⟩
  · rw [e1]; exact h.B.r.fr f (fun e => n4 e.symm) (fun e => n1 e.symm) (fun e => n3 e.symm)
  · rw [e2]; exact h.B.c.fr f (fun e => n2 e.symm)
end
theorem Fr.its {r : Rr} {w w' : World} (f : Fr (· = r.gR) w w') : Fr r.its w w' := f.mono (fun k _ e => .inl e)
set_option maxRecDepth 100000 in
theorem rload_any (w : World) (r : Rr) (s : Sb) (h : Doc w r s) (hok : s.Ok) (at_ cnt : Int) (a0 : 0 ≤ at_) (a1 : at_ ≤ 4294967295) (n0 : 0 ≤ cnt) (n1 : cnt ≤ 18446744073709551615) :
    Calls Tryd.prog 40 #[.pointer (some ⟨r.gR, 0, none⟩), .int .u32 at_, .int .u64 cnt] w fun e w' => e = .returned (.tuple #[.int .u32 (loadV s at_ cnt), .bool (loadB at_)]) ∧ Doc w' r (s.read at_) ∧ Fr r.its w w' := by
  have hw : IntKind.u32.wrap (at_ - 32768) = offO at_ := IntKind.wrap_u32 _
  have H := Lib.hid h
  obtain ⟨vo, vi, hb, ho, hi⟩ := h.b
  have c1 : w.cell? ⟨r.gR, 1, none⟩ = some (.int .u32 (s.p : Int)) := hb.cell 1
  have c2 : w.cell? ⟨r.gR, 2, none⟩ = some (.int .u32 (s.m : Int)) := hb.cell 2
  have c3 : w.cell? ⟨r.gR, 3, none⟩ = some (.int .u32 s.tm) := hb.cell 3
  have c5 : w.cell? ⟨r.gR, 5, none⟩ = some vi := hb.cell 5
  have c7 : w.cell? ⟨r.gR, 7, none⟩ = some (.int .u32 s.sec) := hb.cell 7
  have c8 : w.cell? ⟨r.gR, 8, none⟩ = some (.int .u32 s.pl) := hb.cell 8
  have c9 : w.cell? ⟨r.gR, 9, none⟩ = some (.int .u32 s.st) := hb.cell 9
  have z5 := hb.frozen 5
  have HB := Lib.hid hb
  have HO := Lib.hid ho
  have Hok := Lib.hid hok
  obtain ⟨A, n, c, hv, hI, hnc, hn6, hA⟩ := hi
  subst hv
  have hlen : s.ins.length = n := hI.1
  have hl64 := hok.len
  have hcase := off_cases at_
  have e1 : loadV s at_ cnt = loadO s (offO at_) cnt := rfl
  have e2 : s.read at_ = if offO at_ = 20 then { s with ins := s.ins.tail } else s := rfl
  have e3 : loadB at_ = decide (offO at_ = 0 ∨ offO at_ = 4 ∨ offO at_ = 8 ∨ offO at_ = 12 ∨ offO at_ = 16 ∨ offO at_ = 20 ∨ offO at_ = 24 ∨ offO at_ = 32 ∨ offO at_ = 36 ∨ offO at_ = 40 ∨ offO at_ = 44) := rfl
  rw [e1, e2]
  rw [e3] at hcase ⊢
  clear e1 e2 e3 h hb ho
  generalize offO at_ = o at *
  rcases hcase with rfl | rfl | rfl | rfl | rfl | rfl | rfl | rfl | rfl | rfl | rfl | hno
  · go_enter Tryd.func40, Tryd.ntmps40
    go_wp2_with fail
    go_ret2
    exact ⟨rfl, H.out, Fr.refl _ _⟩
  · go_enter Tryd.func40, Tryd.ntmps40
    go_wp2_with fail
    go_ret2
    exact ⟨rfl, H.out, Fr.refl _ _⟩
  · go_enter Tryd.func40, Tryd.ntmps40
    go_wp2_with fail
    go_ret2
    exact ⟨rfl, H.out, Fr.refl _ _⟩
  · have hcw : IntKind.u32.wrap cnt = cnt % 4294967296 := IntKind.wrap_u32 _
    have el : loadO s 12 cnt = cnt % 4294967296 := rfl
    rw [el]
    generalize cnt % 4294967296 = cv at *
    go_enter Tryd.func40, Tryd.ntmps40
    go_wp2_with fail
    go_ret2
    exact ⟨rfl, H.out, Fr.refl _ _⟩
  · go_enter Tryd.func40, Tryd.ntmps40
    go_wp2_with fail
    go_ret2
    exact ⟨rfl, H.out, Fr.refl _ _⟩
  · rw [if_pos rfl]
    by_cases hn0 : n = 0
    · subst hn0
      have hnil : s.ins = [] := List.eq_nil_of_length_eq_zero hlen
      have es : ({ s with ins := s.ins.tail } : Sb) = s := by rw [hnil]; cases s; simp at hnil; simp [hnil]
      have el : loadO s 20 cnt = 0 := by simp [loadO, hnil]
      rw [es, el]
      clear es el hnil
      go_enter Tryd.func40, Tryd.ntmps40
      go_wp2_with fail
      go_ret2
      exact ⟨rfl, H.out, Fr.refl _ _⟩
    · obtain ⟨b, off, rfl, hbb, hcell⟩ := hI.at_ (show 0 < n by omega)
      have hwf := wf_u8 (hI.2.1 0 (by omega))
      have el : loadO s 20 cnt = s.ins.getD 0 0 := by cases hs : s.ins <;> simp [loadO, hs]
      rw [el]
      clear el
      have hnz : ((n : Int) == 0) = false := by simp; omega
      have h0n : (0 : Int) < (n : Int) := by omega
      have hgt : ∀ i, s.ins.tail.getD i 0 = s.ins.getD (i + 1) 0 := fun i => by
        cases hs : s.ins <;> simp
      have hd : ¬ r.its b := hA (by omega) b off rfl
      have hcells : ∀ i, i < n → w.cell? ⟨b, off + i, none⟩ = some (.int .u8 (s.ins.getD i 0)) := fun i hi => by
        obtain ⟨b', off', e', _, hc'⟩ := hI.at_ hi
        injection e' with e'
        injection e' with e1 e2
        subst e1 e2
        exact hc'
      have hD : ∀ A' c', (0 < n - 1 → A' = some (⟨b, off + 1, none⟩ : Addr)) → n - 1 ≤ c' → Doc (w.setCell ⟨r.gR, 5, none⟩ (.slice A' (n - 1) c')) r { s with ins := s.ins.tail } ∧ Fr r.its w (w.setCell ⟨r.gR, 5, none⟩ (.slice A' (n - 1) c')) := fun A' c' hA' hc' => by
        have f1 := Fr.set1 w r.gR 5 (.slice A' (n - 1) c')
        have hi' : RowAt (w.setCell ⟨r.gR, 5, none⟩ (.slice A' (n - 1) c')) r (.slice A' (n - 1) c') s.ins.tail := by
          refine ⟨_, _, _, rfl, ⟨by rw [List.length_tail, hlen], fun i hi => ?_, fun h => ⟨b, off + 1, hA' h, Nat.lt_of_lt_of_le hbb f1.size, fun i hi => ?_⟩⟩, hc', by omega, fun h b' off' e' => ?_⟩
          · rw [hgt]; exact hI.2.1 (i + 1) (by omega)
          · rw [hgt, show off + 1 + i = off + (i + 1) by omega]
            exact f1.cell (hcells (i + 1) (by omega)) hbb (fun e => hd (.inl e))
          · rw [hA' h] at e'
            injection e' with e'
            injection e' with e1 e2
            rw [← e1]; exact hd
        exact ⟨H.out.own f1 (HB.out.set_ 5 _) (RowAt.its HO.out (Fr.its f1)) hi' rfl rfl, Fr.its f1⟩
      have HD := Lib.hid hD
      have hwf1 := hwf.1
      have hwf2 := hwf.2
      clear hD hI hA hcells hgt hd
      rw [Nat.add_zero] at hcell
      generalize s.ins.getD 0 0 = z at *
      go_enter Tryd.func40, Tryd.ntmps40
      go_wp2_with fail
      all_goals
        go_ret2
        refine ⟨rfl, HD.out _ _ ?_ ?_⟩
        · intro h; first | rfl | (simp [Addr.add]; done) | omega
        · omega
  · have el : loadO s 24 cnt = s.ins.length := rfl
    rw [el, hlen]
    go_enter Tryd.func40, Tryd.ntmps40
    go_wp2_with fail
    go_ret2
    exact ⟨rfl, H.out, Fr.refl _ _⟩
  · go_enter Tryd.func40, Tryd.ntmps40
    go_wp2_with fail
    go_ret2
    exact ⟨rfl, H.out, Fr.refl _ _⟩
  · go_enter Tryd.func40, Tryd.ntmps40
    go_wp2_with fail
    go_ret2
    exact ⟨rfl, H.out, Fr.refl _ _⟩
  · go_enter Tryd.func40, Tryd.ntmps40
    go_wp2_with fail
    go_ret2
    exact ⟨rfl, H.out, Fr.refl _ _⟩
  · go_enter Tryd.func40, Tryd.ntmps40
    go_wp2_with fail
    go_ret2
    exact ⟨rfl, H.out, Fr.refl _ _⟩
  · rw [hno]
    have hn := of_decide_eq_false hno
    have n0 : (o == 0) = false := by simp; omega
    have n4 : (o == 4) = false := by simp; omega
    have n8 : (o == 8) = false := by simp; omega
    have n12 : (o == 12) = false := by simp; omega
    have n16 : (o == 16) = false := by simp; omega
    have n20 : (o == 20) = false := by simp; omega
    have n24 : (o == 24) = false := by simp; omega
    have n32 : (o == 32) = false := by simp; omega
    have n36 : (o == 36) = false := by simp; omega
    have n40 : (o == 40) = false := by simp; omega
    have n44 : (o == 44) = false := by simp; omega
    have el : loadO s o cnt = 0 := by
      unfold loadO
      rw [if_neg (by omega), if_neg (by omega), if_neg (by omega), if_neg (by omega), if_neg (by omega), if_neg (by omega), if_neg (by omega), if_neg (by omega), if_neg (by omega)]
    rw [el, if_neg (by omega)]
    clear hno hn el
    go_enter Tryd.func40, Tryd.ntmps40
    go_wp2_with fail
    go_ret2
    exact ⟨rfl, H.out, Fr.refl _ _⟩
theorem or_nat (p b : Nat) (hp : p < 256) (hb : b < 256) : bits .or .u32 (p : Int) (b : Int) = ((p ||| b : Nat) : Int) := u32_or_nat p b (by omega) (by omega)
set_option maxRecDepth 100000 in
theorem rtick_any (w : World) (r : Rr) (s : Sb) (h : Doc w r s) (hok : s.Ok) (cnt : Int) (n0 : 0 ≤ cnt) (n1 : cnt ≤ 18446744073709551615) :
    Calls Tryd.prog 43 #[.pointer (some ⟨r.gR, 0, none⟩), .int .u64 cnt] w fun e w' => e = .returned (.tuple #[]) ∧ Doc w' r (s.tick cnt) ∧ Fr r.its w w' := by
  have H := Lib.hid h
  obtain ⟨vo, vi, hb, ho, hi⟩ := h.b
  have c1 : w.cell? ⟨r.gR, 1, none⟩ = some (.int .u32 (s.p : Int)) := hb.cell 1
  have c3 : w.cell? ⟨r.gR, 3, none⟩ = some (.int .u32 s.tm) := hb.cell 3
  have z1 := hb.frozen 1
  have z3 := hb.frozen 3
  have hcw : IntKind.u32.wrap cnt = cnt % 4294967296 := IntKind.wrap_u32 _
  have hor : bits .or .u32 (s.p : Int) 1 = ((s.p ||| 1 : Nat) : Int) := or_nat s.p 1 hok.p (by omega)
  have ht0 := hok.tm.1
  have hD : Doc ((w.setCell ⟨r.gR, 3, none⟩ (.int .u32 0)).setCell ⟨r.gR, 1, none⟩ (.int .u32 ((s.p ||| 1 : Nat) : Int))) r { s with tm := 0, p := s.p ||| 1 } ∧ Fr r.its w ((w.setCell ⟨r.gR, 3, none⟩ (.int .u32 0)).setCell ⟨r.gR, 1, none⟩ (.int .u32 ((s.p ||| 1 : Nat) : Int))) := by
    have f1 := (Fr.set1 w r.gR 3 (.int .u32 0)).setCell (p := ⟨r.gR, 1, none⟩) (.inl rfl) (.int .u32 ((s.p ||| 1 : Nat) : Int))
    exact ⟨h.own f1 ((hb.set_ 3 _).set_ 1 _) (RowAt.its ho (Fr.its f1)) (RowAt.its hi (Fr.its f1)) rfl rfl, Fr.its f1⟩
  have HD := Lib.hid hD
  clear hD h hb ho hi
  have hti : s.tick cnt = if Tm.dueB s.tm cnt then { s with tm := 0, p := s.p ||| 1 } else s := rfl
  rw [hti]
  clear hti
  by_cases h0 : s.tm = 0
  · have e : Tm.dueB s.tm cnt = false := by unfold Tm.dueB; rw [h0]; rfl
    rw [e, if_neg Bool.false_ne_true]
    rw [h0] at c3
    clear e h0 HD
    go_enter Tryd.func43, Tryd.ntmps43
    go_wp2_with fail
    go_end0
    exact ⟨rfl, H.out, Fr.refl _ _⟩
  · have h0' : (s.tm != 0) = true := by simpa using h0
    by_cases hl : s.tm ≤ cnt % 4294967296
    · have e : Tm.dueB s.tm cnt = true := by unfold Tm.dueB; simp [h0, hl]
      rw [e, if_pos rfl]
      clear e h0
      generalize cnt % 4294967296 = q at *
      generalize ((s.p ||| 1 : Nat) : Int) = pv at *
      go_enter Tryd.func43, Tryd.ntmps43
      go_wp2_with fail
      go_end0
      exact ⟨rfl, HD.out⟩
    · have e : Tm.dueB s.tm cnt = false := by unfold Tm.dueB; simp [hl]
      have hl' : decide (s.tm ≤ cnt % 4294967296) = false := by simpa using hl
      rw [e, if_neg Bool.false_ne_true]
      clear e h0 hl HD
      generalize cnt % 4294967296 = q at *
      go_enter Tryd.func43, Tryd.ntmps43
      go_wp2_with fail
      go_end0
      exact ⟨rfl, H.out, Fr.refl _ _⟩
end Go.Proofs.YthiephlfhbkcbaaDoor.Bs
