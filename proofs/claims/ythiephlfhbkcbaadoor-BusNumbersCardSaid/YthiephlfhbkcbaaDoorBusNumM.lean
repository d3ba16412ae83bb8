/- BusDocB, BusDocC, BusDo, BusNumbers, in one text. -/
import Derived.Test.YthiephlfhbkcbaaDoorBusDoc
import Derived.Deep.RegionHeld3
import Derived.Test.YthiephlfhbkcbaaDoorBusAlike
import Derived.Lib.SlBytesConst
namespace Go.Proofs.YthiephlfhbkcbaaDoor.Bs
open Go.RowKit Fm Nt Rm By Dr Rf
set_option linter.unusedVariables false
set_option linter.unusedSimpArgs false
set_option maxHeartbeats 4000000

/-- a slice that lies in a block -/
def vb (v : Value) (k : Nat) : Prop := ∃ off n c, v = .slice (some ⟨k, off, none⟩) n c ∧ 0 < n
/-- the blocks of the document's rows -/
def rb (w : World) (r : Rr) (k : Nat) : Prop := ∃ v, (w.cell? ⟨r.gR, 4, none⟩ = some v ∨ w.cell? ⟨r.gR, 5, none⟩ = some v) ∧ vb v k
theorem rb_of {w w' : World} {r : Rr} {k : Nat} {vo vi vo' vi' : Value} {P : Prop} (c4 : w.cell? ⟨r.gR, 4, none⟩ = some vo) (c5 : w.cell? ⟨r.gR, 5, none⟩ = some vi) (d4 : w'.cell? ⟨r.gR, 4, none⟩ = some vo') (d5 : w'.cell? ⟨r.gR, 5, none⟩ = some vi')
    (ho : vb vo' k → vb vo k ∨ P) (hi : vb vi' k → vb vi k ∨ P) : rb w' r k → rb w r k ∨ P := by
  rintro ⟨v, e | e, hv⟩
  · rw [d4] at e
    injection e with e
    subst e
    rcases ho hv with h | h
    · exact .inl ⟨_, .inl c4, h⟩
    · exact .inr h
  · rw [d5] at e
    injection e with e
    subst e
    rcases hi hv with h | h
    · exact .inl ⟨_, .inr c5, h⟩
    · exact .inr h
/-- what a call on the document's bus leaves -/
def RPost (w : World) (r : Rr) (s' : Sb) (v : Value) (e : Ending) (w' : World) : Prop :=
  e = .returned v ∧ Doc w' r s' ∧ Fr r.its w w' ∧ (∀ k, rb w' r k → rb w r k ∨ w.heap.size ≤ k ∧ k < w'.heap.size)
theorem RPost.same {w : World} {r : Rr} {s : Sb} {v : Value} (h : Doc w r s) : RPost w r s v (.returned v) w := ⟨rfl, h, Fr.refl _ _, fun k hk => .inl hk⟩
set_option maxRecDepth 100000 in
theorem rload_k (w : World) (r : Rr) (s : Sb) (h : Doc w r s) (hok : s.Ok) (at_ cnt : Int) (a0 : 0 ≤ at_) (a1 : at_ ≤ 4294967295) (n0 : 0 ≤ cnt) (n1 : cnt ≤ 18446744073709551615) :
    Calls Tryd.prog 40 #[.pointer (some ⟨r.gR, 0, none⟩), .int .u32 at_, .int .u64 cnt] w (RPost w r (s.read at_) (.tuple #[.int .u32 (loadV s at_ cnt), .bool (loadB at_)])) := by
  have hw : IntKind.u32.wrap (at_ - 32768) = offO at_ := IntKind.wrap_u32 _
  have H := Lib.hid h
  obtain ⟨vo, vi, hb, ho, hi⟩ := h.b
  have c1 : w.cell? ⟨r.gR, 1, none⟩ = some (.int .u32 (s.p : Int)) := hb.cell 1
  have c2 : w.cell? ⟨r.gR, 2, none⟩ = some (.int .u32 (s.m : Int)) := hb.cell 2
  have c3 : w.cell? ⟨r.gR, 3, none⟩ = some (.int .u32 s.tm) := hb.cell 3
  have c5 : w.cell? ⟨r.gR, 5, none⟩ = some vi := hb.cell 5
  have c7 : w.cell? ⟨r.gR, 7, none⟩ = some (.int .u32 s.sec) := hb.cell 7
  have c8 : w.cell? ⟨r.gR, 8, none⟩ = some (.int .u32 s.pl) := hb.cell 8
  have c9 : w.cell? ⟨r.gR, 9, none⟩ = some (.int .u32 s.st) := hb.cell 9
  have z5 := hb.frozen 5
  have HB := Lib.hid hb
  have HO := Lib.hid ho
  have Hok := Lib.hid hok
  obtain ⟨A, n, c, hv, hI, hnc, hn6, hA⟩ := hi
  subst hv
  have hlen : s.ins.length = n := hI.1
  have hl64 := hok.len
  have hcase := off_cases at_
  have e1 : loadV s at_ cnt = loadO s (offO at_) cnt := rfl
  have e2 : s.read at_ = if offO at_ = 20 then { s with ins := s.ins.tail } else s := rfl
  have e3 : loadB at_ = decide (offO at_ = 0 ∨ offO at_ = 4 ∨ offO at_ = 8 ∨ offO at_ = 12 ∨ offO at_ = 16 ∨ offO at_ = 20 ∨ offO at_ = 24 ∨ offO at_ = 32 ∨ offO at_ = 36 ∨ offO at_ = 40 ∨ offO at_ = 44) := rfl
  rw [e1, e2]
  rw [e3] at hcase ⊢
  clear e1 e2 e3 h hb ho
  generalize offO at_ = o at *
  rcases hcase with rfl | rfl | rfl | rfl | rfl | rfl | rfl | rfl | rfl | rfl | rfl | hno
  · go_enter Tryd.func40, Tryd.ntmps40
    go_wp2_with fail
    go_ret2
    exact RPost.same H.out
  · go_enter Tryd.func40, Tryd.ntmps40
    go_wp2_with fail
    go_ret2
    exact RPost.same H.out
  · go_enter Tryd.func40, Tryd.ntmps40
    go_wp2_with fail
    go_ret2
    exact RPost.same H.out
  · have hcw : IntKind.u32.wrap cnt = cnt % 4294967296 := IntKind.wrap_u32 _
    have el : loadO s 12 cnt = cnt % 4294967296 := rfl
    rw [el]
    generalize cnt % 4294967296 = cv at *
    go_enter Tryd.func40, Tryd.ntmps40
    go_wp2_with fail
    go_ret2
    exact RPost.same H.out
  · go_enter Tryd.func40, Tryd.ntmps40
    go_wp2_with fail
    go_ret2
    exact RPost.same H.out
  · rw [if_pos rfl]
    by_cases hn0 : n = 0
    · subst hn0
      have hnil : s.ins = [] := List.eq_nil_of_length_eq_zero hlen
      have es : ({ s with ins := s.ins.tail } : Sb) = s := by rw [hnil]; cases s; simp at hnil; simp [hnil]
      have el : loadO s 20 cnt = 0 := by simp [loadO, hnil]
      rw [es, el]
      clear es el hnil
      go_enter Tryd.func40, Tryd.ntmps40
      go_wp2_with fail
      go_ret2
      exact RPost.same H.out
    · obtain ⟨b, off, rfl, hbb, hcell⟩ := hI.at_ (show 0 < n by omega)
      have hwf := wf_u8 (hI.2.1 0 (by omega))
      have el : loadO s 20 cnt = s.ins.getD 0 0 := by cases hs : s.ins <;> simp [loadO, hs]
      rw [el]
      clear el
      have hnz : ((n : Int) == 0) = false := by simp; omega
      have h0n : (0 : Int) < (n : Int) := by omega
      have hgt : ∀ i, s.ins.tail.getD i 0 = s.ins.getD (i + 1) 0 := fun i => by
        cases hs : s.ins <;> simp
      have hd : ¬ r.its b := hA (by omega) b off rfl
      have hcells : ∀ i, i < n → w.cell? ⟨b, off + i, none⟩ = some (.int .u8 (s.ins.getD i 0)) := fun i hi => by
        obtain ⟨b', off', e', _, hc'⟩ := hI.at_ hi
        injection e' with e'
        injection e' with e1 e2
        subst e1 e2
        exact hc'
      have hD : ∀ A' c', (0 < n - 1 → A' = some (⟨b, off + 1, none⟩ : Addr)) → n - 1 ≤ c' → (∀ q o', A' = some (⟨q, o', none⟩ : Addr) → q = b) → Doc (w.setCell ⟨r.gR, 5, none⟩ (.slice A' (n - 1) c')) r { s with ins := s.ins.tail } ∧ Fr r.its w (w.setCell ⟨r.gR, 5, none⟩ (.slice A' (n - 1) c')) ∧ (∀ k, rb (w.setCell ⟨r.gR, 5, none⟩ (.slice A' (n - 1) c')) r k → rb w r k ∨ w.heap.size ≤ k ∧ k < (w.setCell ⟨r.gR, 5, none⟩ (.slice A' (n - 1) c')).heap.size) := fun A' c' hA' hc' hq' => by
        have f1 := Fr.set1 w r.gR 5 (.slice A' (n - 1) c')
        have hi' : RowAt (w.setCell ⟨r.gR, 5, none⟩ (.slice A' (n - 1) c')) r (.slice A' (n - 1) c') s.ins.tail := by
          refine ⟨_, _, _, rfl, ⟨by rw [List.length_tail, hlen], fun i hi => ?_, fun h => ⟨b, off + 1, hA' h, Nat.lt_of_lt_of_le hbb f1.size, fun i hi => ?_⟩⟩, hc', by omega, fun h b' off' e' => ?_⟩
          · rw [hgt]; exact hI.2.1 (i + 1) (by omega)
          · rw [hgt, show off + 1 + i = off + (i + 1) by omega]
            exact f1.cell (hcells (i + 1) (by omega)) hbb (fun e => hd (.inl e))
          · rw [hA' h] at e'
            injection e' with e'
            injection e' with e1 e2
            rw [← e1]; exact hd
        exact ⟨H.out.own f1 (HB.out.set_ 5 _) (RowAt.its HO.out (Fr.its f1)) hi' rfl rfl, Fr.its f1, fun k => rb_of (vo := vo) (vi := .slice (some ⟨b, off, none⟩) n c) (vo' := vo) (vi' := .slice A' (n - 1) c') (HB.out.cell 4) (HB.out.cell 5) ((HB.out.set_ 5 _).cell 4) ((HB.out.set_ 5 _).cell 5) .inl (fun ⟨o', n', c'', e, _⟩ => .inl ⟨off, n, c, by
          injection e with e1
          rw [hq' _ _ e1], by omega⟩)⟩
      have HD := Lib.hid hD
      have hwf1 := hwf.1
      have hwf2 := hwf.2
      clear hD hI hA hcells hgt hd
      rw [Nat.add_zero] at hcell
      generalize s.ins.getD 0 0 = z at *
      go_enter Tryd.func40, Tryd.ntmps40
      go_wp2_with fail
      all_goals
        go_ret2
        refine ⟨rfl, HD.out _ _ ?_ ?_ ?_⟩
        · intro h; first | rfl | (simp [Addr.add]; done) | omega
        · omega
        · intro q o' e; first | (injection e with e; injection e with e1 e2; exact e1.symm) | (simp [Addr.add] at e; exact e.1.symm)
  · have el : loadO s 24 cnt = s.ins.length := rfl
    rw [el, hlen]
    go_enter Tryd.func40, Tryd.ntmps40
    go_wp2_with fail
    go_ret2
    exact RPost.same H.out
  · go_enter Tryd.func40, Tryd.ntmps40
    go_wp2_with fail
    go_ret2
    exact RPost.same H.out
  · go_enter Tryd.func40, Tryd.ntmps40
    go_wp2_with fail
    go_ret2
    exact RPost.same H.out
  · go_enter Tryd.func40, Tryd.ntmps40
    go_wp2_with fail
    go_ret2
    exact RPost.same H.out
  · go_enter Tryd.func40, Tryd.ntmps40
    go_wp2_with fail
    go_ret2
    exact RPost.same H.out
  · rw [hno]
    have hn := of_decide_eq_false hno
    have n0 : (o == 0) = false := by simp; omega
    have n4 : (o == 4) = false := by simp; omega
    have n8 : (o == 8) = false := by simp; omega
    have n12 : (o == 12) = false := by simp; omega
    have n16 : (o == 16) = false := by simp; omega
    have n20 : (o == 20) = false := by simp; omega
    have n24 : (o == 24) = false := by simp; omega
    have n32 : (o == 32) = false := by simp; omega
    have n36 : (o == 36) = false := by simp; omega
    have n40 : (o == 40) = false := by simp; omega
    have n44 : (o == 44) = false := by simp; omega
    have el : loadO s o cnt = 0 := by
      unfold loadO
      rw [if_neg (by omega), if_neg (by omega), if_neg (by omega), if_neg (by omega), if_neg (by omega), if_neg (by omega), if_neg (by omega), if_neg (by omega), if_neg (by omega)]
    rw [el, if_neg (by omega)]
    clear hno hn el
    go_enter Tryd.func40, Tryd.ntmps40
    go_wp2_with fail
    go_ret2
    exact RPost.same H.out
set_option maxRecDepth 100000 in
theorem rtick_k (w : World) (r : Rr) (s : Sb) (h : Doc w r s) (hok : s.Ok) (cnt : Int) (n0 : 0 ≤ cnt) (n1 : cnt ≤ 18446744073709551615) :
    Calls Tryd.prog 43 #[.pointer (some ⟨r.gR, 0, none⟩), .int .u64 cnt] w (RPost w r (s.tick cnt) (.tuple #[])) := by
  have H := Lib.hid h
  obtain ⟨vo, vi, hb, ho, hi⟩ := h.b
  have c1 : w.cell? ⟨r.gR, 1, none⟩ = some (.int .u32 (s.p : Int)) := hb.cell 1
  have c3 : w.cell? ⟨r.gR, 3, none⟩ = some (.int .u32 s.tm) := hb.cell 3
  have z1 := hb.frozen 1
  have z3 := hb.frozen 3
  have hcw : IntKind.u32.wrap cnt = cnt % 4294967296 := IntKind.wrap_u32 _
  have hor : bits .or .u32 (s.p : Int) 1 = ((s.p ||| 1 : Nat) : Int) := or_nat s.p 1 hok.p (by omega)
  have ht0 := hok.tm.1
  have hD : Doc ((w.setCell ⟨r.gR, 3, none⟩ (.int .u32 0)).setCell ⟨r.gR, 1, none⟩ (.int .u32 ((s.p ||| 1 : Nat) : Int))) r { s with tm := 0, p := s.p ||| 1 } ∧ Fr r.its w ((w.setCell ⟨r.gR, 3, none⟩ (.int .u32 0)).setCell ⟨r.gR, 1, none⟩ (.int .u32 ((s.p ||| 1 : Nat) : Int))) ∧ (∀ k, rb ((w.setCell ⟨r.gR, 3, none⟩ (.int .u32 0)).setCell ⟨r.gR, 1, none⟩ (.int .u32 ((s.p ||| 1 : Nat) : Int))) r k → rb w r k ∨ w.heap.size ≤ k ∧ k < ((w.setCell ⟨r.gR, 3, none⟩ (.int .u32 0)).setCell ⟨r.gR, 1, none⟩ (.int .u32 ((s.p ||| 1 : Nat) : Int))).heap.size) := by
    have f1 := (Fr.set1 w r.gR 3 (.int .u32 0)).setCell (p := ⟨r.gR, 1, none⟩) (.inl rfl) (.int .u32 ((s.p ||| 1 : Nat) : Int))
    exact ⟨h.own f1 ((hb.set_ 3 _).set_ 1 _) (RowAt.its ho (Fr.its f1)) (RowAt.its hi (Fr.its f1)) rfl rfl, Fr.its f1, fun k => rb_of (vo := vo) (vi := vi) (vo' := vo) (vi' := vi) (hb.cell 4) (hb.cell 5) (((hb.set_ 3 _).set_ 1 _).cell 4) (((hb.set_ 3 _).set_ 1 _).cell 5) .inl .inl⟩
  have HD := Lib.hid hD
  clear hD h hb ho hi
  have hti : s.tick cnt = if Tm.dueB s.tm cnt then { s with tm := 0, p := s.p ||| 1 } else s := rfl
  rw [hti]
  clear hti
  by_cases h0 : s.tm = 0
  · have e : Tm.dueB s.tm cnt = false := by unfold Tm.dueB; rw [h0]; rfl
    rw [e, if_neg Bool.false_ne_true]
    rw [h0] at c3
    clear e h0 HD
    go_enter Tryd.func43, Tryd.ntmps43
    go_wp2_with fail
    go_end0
    exact RPost.same H.out
  · have h0' : (s.tm != 0) = true := by simpa using h0
    by_cases hl : s.tm ≤ cnt % 4294967296
    · have e : Tm.dueB s.tm cnt = true := by unfold Tm.dueB; simp [h0, hl]
      rw [e, if_pos rfl]
      clear e h0
      generalize cnt % 4294967296 = q at *
      generalize ((s.p ||| 1 : Nat) : Int) = pv at *
      go_enter Tryd.func43, Tryd.ntmps43
      go_wp2_with fail
      go_end0
      exact ⟨rfl, HD.out⟩
    · have e : Tm.dueB s.tm cnt = false := by unfold Tm.dueB; simp [hl]
      have hl' : decide (s.tm ≤ cnt % 4294967296) = false := by simpa using hl
      rw [e, if_neg Bool.false_ne_true]
      clear e h0 hl HD
      generalize cnt % 4294967296 = q at *
      go_enter Tryd.func43, Tryd.ntmps43
      go_wp2_with fail
      go_end0
      exact RPost.same H.out

theorem app_own (w : World) : (w.alloc (.cells #[] 5)).ownsRow w.heap.size 5 1 (.slice (some ⟨w.heap.size, 0, none⟩) 0 0) 0 [] := ⟨rfl, .inr ⟨w.heap.size, 0, #[], rfl, Nat.le_refl _, Blk.new _ _ _, Nat.le_refl _, by simp [maxLen], rfl, rfl⟩⟩
theorem Doc.its_lt {w : World} {r : Rr} {s : Sb} (hD : Doc w r s) : ∀ k, r.its k → k < w.heap.size := by
  rintro k (rfl | rfl | rfl | rfl | rfl)
  · obtain ⟨vo, vi, h1, _⟩ := hD.b; exact h1.lt
  · exact hD.B.c.lt
  · exact hD.B.r.b.lt
  · exact hD.B.r.cb.lt
  · exact hD.B.r.ct.lt
theorem row_of_own {w : World} {r : Rr} {zs : List Int} {v : Value} {base n : Nat} (h : w.ownsRow base 5 1 v n (zs.map (Value.int .u8))) (hits : ∀ k, r.its k → k < base) (hz : ∀ z ∈ zs, 0 ≤ z ∧ z < 256) (hn : n ≤ 1000000) :
    RowAt w r v zs ∧ (∀ k, vb v k → base ≤ k ∧ k < w.heap.size) := by
  rcases Co.own_val h with ⟨rfl, rfl, h0⟩ | ⟨g, cap, rfl, hc, _⟩
  · have : zs = [] := by simpa using h0
    subst this
    exact ⟨⟨none, 0, 0, rfl, intsAt_nil _ _ _ _, Nat.le_refl _, by omega, fun h => absurd h (by omega)⟩, fun k ⟨_, _, _, e, _⟩ => by simp at e⟩
  · have hb := own_base h g rfl
    have hl := own_lt h g rfl
    refine ⟨⟨_, n, cap, rfl, Bk.own_ints h (fun z hz' => wf_u8_mk (n := z) (hz z hz').1 (by have := (hz z hz').2; omega)), hc, hn, fun _ b off e => ?_⟩, fun k ⟨_, _, _, e, _⟩ => ?_⟩
    · injection e with e
      injection e with e1 e2
      subst e1
      exact fun e => by have := hits _ e; omega
    · injection e with e
      injection e with e
      injection e with e1 e2
      subst e1
      exact ⟨hb, hl⟩
set_option maxRecDepth 100000 in
theorem rinput_k (w : World) (r : Rr) (s : Sb) (h : Doc w r s) (hok : s.Ok) (B : Nat) (A : Option Addr) (len cap : Nat) (zs : List Int) (hl : IntsAt .u8 w B A len zs) (hm : len ≤ maxLen) (hcap : len ≤ cap) (hB : B ≤ w.heap.size) :
    Calls Tryd.prog 44 #[.pointer (some ⟨r.gR, 0, none⟩), .slice A len cap] w (RPost w r (s.input zs) (.int .i64 (s.fit len : Nat))) := by
  obtain ⟨i0, hi0, hz0, hz1, hz2⟩ := info_parts Co.info8
  have H := Lib.hid h
  have Hits := Lib.hid h.its_lt
  obtain ⟨vo, vi, hb, ho, hi⟩ := h.b
  have c1 : w.cell? ⟨r.gR, 1, none⟩ = some (.int .u32 (s.p : Int)) := hb.cell 1
  have c5 : w.cell? ⟨r.gR, 5, none⟩ = some vi := hb.cell 5
  have hgl := hb.lt
  have HB := Lib.hid hb
  have HO := Lib.hid ho
  obtain ⟨Ai, ni, ci, hv, hI, hnc, hn6, hA⟩ := hi
  subst hv
  have hlen : s.ins.length = ni := hI.1
  have hl64 := hok.len
  have hlz : zs.length = len := hl.1
  unfold maxLen at hm
  obtain ⟨k, hk⟩ : ∃ k, min len (64 - ni) = k := ⟨_, rfl⟩
  have hkl : k ≤ len := by omega
  have hk6 : k ≤ 64 - ni := by omega
  have hkc : k ≤ cap := by omega
  have HrI : Hid (Reads (w.drew.alloc (.cells #[] 5)) w.heap.size 1 Ai ni (s.ins.map (Value.int .u8))) := Lib.hid ((intsAt_reads hI).drew.alloc (Nat.le_refl _) _)
  have HrZ : Hid (Reads (w.drew.alloc (.cells #[] 5)) B 1 A k ((zs.take k).map (Value.int .u8))) := Lib.hid ((intsAt_reads (hl.take hkl)).drew.alloc hB _)
  have OWN : Hid ((w.drew.alloc (.cells #[] 5)).ownsRow w.heap.size 5 1 (.slice (some ⟨w.heap.size, 0, none⟩) 0 0) 0 []) := Lib.hid (app_own w.drew)
  have O1 := Lib.hid (oneCell_ints (k := .u8) (zs := s.ins))
  have O2 := Lib.hid (oneCell_ints (k := .u8) (zs := zs.take k))
  have Hb1 : Hid (0 + ni ≤ maxLen) := by show _ ≤ _; simp only [maxLen]; omega
  have Hb2 : Hid ((0 + ni) * 1 ≤ 140737488355328) := by show _ ≤ _; omega
  have Hb3 : Hid (w.heap.size ≤ (w.drew.alloc (.cells #[] 5)).heap.size) := by show _ ≤ _; simp
  have Hb4 : Hid (ni + k ≤ maxLen) := by show _ ≤ _; simp only [maxLen]; omega
  have Hb5 : Hid ((ni + k) * 1 ≤ 140737488355328) := by show _ ≤ _; omega
  have Hes : Hid (∀ q : Nat, min zs.length (64 - s.ins.length) = q → s.input zs = { s with ins := s.ins ++ zs.take q, p := if 0 < q then s.p ||| 2 else s.p }) := Lib.hid (fun q e => by subst e; rfl)
  have Hfit : Hid (s.fit len = k) := by show s.fit len = k; unfold Sb.fit; rw [hlen]; exact hk
  have Hk := Lib.hid hk
  have hor : bits .or .u32 (s.p : Int) 2 = ((s.p ||| 2 : Nat) : Int) := or_nat s.p 2 hok.p (by omega)
  have hwz := Lib.hid hl.2.1
  have Hok := Lib.hid hok
  have Hn1 : Hid (∀ v : Option Nat, v = some w.heap.size ∨ v = some (w.heap.size + 1) → some r.gR ≠ v) := Lib.hid (fun v hv e => by subst e; rcases hv with e | e <;> · injection e with e; omega)
  clear hb ho h hk hI hok
  go_enter Tryd.func44, Tryd.ntmps44
  go_wp2_with fail
  all_goals
    first
      | rw [show ((64 : Int) - (ni : Int)) = (k : Int) by have := Hk.out; omega]
      | rw [show (len : Int) = (k : Int) by have := Hk.out; omega]
    go_region_law (first
      | (refine step_append_any _ rfl (.tmp 19) (.tmp 23) 24 rfl w.heap.size 5 i0 (.int .u8 0) 1 1 Tryd.underlying24 hi0 hz0 hz1 hz2 rfl (by omega) (.slice (some ⟨w.heap.size, 0, none⟩) 0 0) 0 [] (by simp [Act.eval]) OWN.out w.heap.size Ai ni ci _ (by simp [Act.eval]) HrI.out O1.out Hb1.out Hb2.out Hb3.out ?_
         intro v1 w1 hown1 hg1 hat1
         rw [Nat.zero_add, List.nil_append] at hown1
         obtain ⟨A1, cap1, hv1⟩ := Co.own_any hown1
         subst hv1
         have hq1 : (Value.slice A1 ni cap1).ownBlock = some w.heap.size ∨ (Value.slice A1 ni cap1).ownBlock = some (w.heap.size + 1) := hat1.imp (fun e => e) (fun e => by rw [e]; simp))
      | (refine step_append_any _ rfl (.tmp 24) (.tmp 27) 24 rfl w.heap.size 5 i0 (.int .u8 0) 1 1 Tryd.underlying24 hi0 hz0 hz1 hz2 rfl (by omega) (.slice A1 ni cap1) ni _ (by simp [Act.eval]) hown1 B A k cap _ (by simp [Act.eval]) (HrZ.out.grown hg1 (by simp; omega) (fun g e => by simp [Value.ownBlock] at e; omega)) O2.out Hb4.out Hb5.out (Nat.le_trans Hb3.out hg1.size) ?_
         intro v2 w2 hown2 hg2 hat2
         obtain ⟨A2, cap2, hv2⟩ := Co.own_any hown2
         subst hv2
         have kb := ((HB.out.drew.alloc (.cells #[] 5)).grown hg1 (Hn1.out _ (Or.inl rfl))).grown hg2 (Hn1.out _ hq1)
         have k1 : w2.cell? ⟨r.gR, 1, none⟩ = some (.int .u32 (s.p : Int)) := kb.cell 1
         have f1 := kb.frozen 1
         have f5 := kb.frozen 5
         have k5 : w2.cell? ⟨r.gR, 5, none⟩ = some (.slice Ai ni ci) := kb.cell 5))
    all_goals
      have fr2 : Hid (Fr (fun _ => False) w w2) := Lib.hid ((((Fr.refl (fun _ => False) w).drew.alloc _).grown hg1 (fun k e => .inr (by have e : w.heap.size = k := (by simpa [Value.ownBlock] using e); omega))).grown hg2 (fun k e => .inr (by rcases hq1 with h | h <;> · rw [h] at e; injection e with e; omega)))
      have KB := Lib.hid kb
      have HV := Lib.hid hown2
      obtain ⟨hrow, hvb⟩ := row_of_own (r := r) (zs := s.ins ++ zs.take k) (by simpa using hown2) Hits.out (fun z hz => by
        rcases List.mem_append.1 hz with e | e
        · exact Hok.out.ins z e
        · obtain ⟨i, hi, rfl⟩ := List.getElem_of_mem (List.mem_of_mem_take e)
          have := wf_u8 (hwz.out i (by omega))
          rw [List.getD_eq_getElem?_getD, List.getElem?_eq_getElem hi] at this
          have h2 : (some zs[i]).getD 0 = zs[i] := rfl
          rw [h2] at this
          omega) (by omega)
      have D2 := Lib.hid (H.out.fr0 fr2.out)
      have RO := Lib.hid hrow
      have VB := Lib.hid hvb
      have es := Hes.out k (by rw [hlz, hlen]; exact Hk.out)
      have DD : Hid (∀ W p', p' < 256 → Fr (· = r.gR) w2 W → Blk W r.gR 83 (docCells r { s with ins := s.ins ++ zs.take k, p := p' } vo (.slice A2 (ni + k) cap2)) → RPost w r { s with ins := s.ins ++ zs.take k, p := p' } (.int .i64 (k : Nat)) (.returned (.int .i64 (k : Nat))) W) := Lib.hid (fun W p' hp' f hbW => by
        have fW : Fr r.its w2 W := f.mono (fun i _ e => .inl e)
        refine ⟨rfl, D2.out.own f hbW (RowAt.its HO.out ((fr2.out.mono (fun _ _ e => e.elim)).tr fW)) (RowAt.its RO.out fW) rfl rfl, (fr2.out.mono (fun _ _ e => e.elim)).tr fW, fun q => rb_of (vo := vo) (vi := .slice Ai ni ci) (vo' := vo) (vi' := .slice A2 (ni + k) cap2) (HB.out.cell 4) (HB.out.cell 5) (hbW.cell 4) (hbW.cell 5) .inl (fun h => .inr ?_)⟩
        have := VB.out q h
        exact ⟨this.1, Nat.lt_of_lt_of_le this.2 f.size⟩)
      clear kb hown2 hown1 hg1 hg2 hat1 hat2 hrow hvb hq1
      by_cases hk0 : 0 < k
      · have hkt : decide ((0 : Int) < (k : Int)) = true := by simpa using hk0
        go_wp2_with fail
        go_ret
        rw [es, Hfit.out, if_pos hk0]
        exact DD.out _ (s.p ||| 2) (by have := or_256 Hok.out.p (z := 1) (by omega); simpa using this) ((Fr.set1 w2 r.gR 5 _).setCell (p := ⟨r.gR, 1, none⟩) (.inl rfl) _) ((KB.out.set_ 5 _).set_ 1 _)
      · have hkt : decide ((0 : Int) < (k : Int)) = false := by simpa using hk0
        go_wp2_with fail
        go_ret
        rw [es, Hfit.out, if_neg hk0]
        exact DD.out _ s.p Hok.out.p (Fr.set1 w2 r.gR 5 _) (KB.out.set_ 5 _)
end Go.Proofs.YthiephlfhbkcbaaDoor.Bs
namespace Go.Proofs.YthiephlfhbkcbaaDoor.Bs
open Go.RowKit Fm Nt Rm By Dr Rf
set_option linter.unusedVariables false
set_option linter.unusedSimpArgs false
set_option maxHeartbeats 4000000

/-- one cell of its own block turns, no row -/
theorem Doc.set1 {w : World} {r : Rr} {s s' : Sb} (h : Doc w r s) (j : Nat) (v rv : Value) (hb : ∀ vo vi, (docCells r s vo vi).setIfInBounds j v = docCells r s' vo vi) (e1 : s'.outs = s.outs) (e2 : s'.ins = s.ins) (e3 : s'.ms = s.ms) (e4 : s'.d = s.d) :
    RPost w r s' rv (.returned rv) (w.setCell ⟨r.gR, j, none⟩ v) := by
  obtain ⟨vo, vi, hB, ho, hi⟩ := h.b
  have f1 := Fr.set1 w r.gR j v
  have hB' := hB.set_ j v
  rw [hb vo vi] at hB'
  refine ⟨rfl, h.own f1 hB' ?_ ?_ e3 e4, Fr.its f1, fun k => rb_of (vo := vo) (vi := vi) (vo' := vo) (vi' := vi) (hB.cell 4) (hB.cell 5) (hB'.cell 4) (hB'.cell 5) .inl .inl⟩
  · rw [e1]; exact RowAt.its ho (Fr.its f1)
  · rw [e2]; exact RowAt.its hi (Fr.its f1)
section
variable (w : World) (r : Rr) (s : Sb) (at_ : Int)
set_option maxRecDepth 100000 in
theorem rstore_16 (h : Doc w r s) (hok : s.Ok) (hlo : s.outs.length ≤ 900000) (vn : Nat) (v1 : (vn : Int) ≤ 4294967295) (hw : IntKind.u32.wrap (at_ - 32768) = 16) :
    Calls Tryd.prog 41 #[.pointer (some ⟨r.gR, 0, none⟩), .int .u32 at_, .int .u32 (vn : Int)] w (RPost w r { s with outs := s.outs ++ [(vn : Int) % 256] } (.bool true)) := by
  obtain ⟨i0, hi0, hz0, hz1, hz2⟩ := info_parts Co.info8
  have H := Lib.hid h
  have Hits := Lib.hid h.its_lt
  obtain ⟨vo, vi, hb, ho, hi⟩ := h.b
  have hgl := hb.lt
  have HB := Lib.hid hb
  have HI := Lib.hid hi
  have Hout := Lib.hid ho
  obtain ⟨Ai, ni, ci, hv, hI, hnc, hn6, hA⟩ := ho
  subst hv
  have c4 : w.cell? ⟨r.gR, 4, none⟩ = some (.slice Ai ni ci) := hb.cell 4
  have hlen : s.outs.length = ni := hI.1
  have hb8 : IntKind.u8.wrap (vn : Int) = (vn : Int) % 256 := IntKind.wrap_u8 _
  have HrI : Hid (Reads (w.alloc (.cells #[] 5)) w.heap.size 1 Ai ni (s.outs.map (Value.int .u8))) := Lib.hid ((intsAt_reads hI).alloc (Nat.le_refl _) _)
  have OWN := Lib.hid (app_own w)
  have O1 := Lib.hid (oneCell_ints (k := .u8) (zs := s.outs))
  have Hb1 : Hid (0 + ni ≤ maxLen) := by show _ ≤ _; simp only [maxLen]; omega
  have Hb2 : Hid ((0 + ni) * 1 ≤ 140737488355328) := by show _ ≤ _; omega
  have Hb3 : Hid (w.heap.size ≤ (w.alloc (.cells #[] 5)).heap.size) := by show _ ≤ _; simp
  have Hb4 : Hid (ni + 1 ≤ maxLen) := by show _ ≤ _; simp only [maxLen]; omega
  have Hb5 : Hid ((ni + 1) * 1 ≤ 140737488355328) := by show _ ≤ _; omega
  have Hok := Lib.hid hok
  have hbv0 : 0 ≤ (vn : Int) % 256 := by omega
  have hbv1 : (vn : Int) % 256 < 256 := by omega
  generalize (vn : Int) % 256 = bv at *
  have Hn1 : Hid (∀ v : Option Nat, v = some w.heap.size ∨ v = some (w.heap.size + 1) → some r.gR ≠ v) := Lib.hid (fun v hv e => by subst e; rcases hv with e | e <;> · injection e with e; omega)
  clear hb hi h hI hok
  go_enter Tryd.func41, Tryd.ntmps41
  go_wp2_with
    (at_builtin
     first
     | (refine wpList_append_any _ rfl (.tmp 36) (.tmp 40) _ rfl w.heap.size 5 i0 _ 1 1 Tryd.underlying24 hi0 hz0 hz1 hz2 rfl (by omega) (.slice (some ⟨w.heap.size, 0, none⟩) 0 0) 0 [] rfl OWN.out w.heap.size Ai ni ci _ rfl HrI.out O1.out Hb1.out Hb2.out Hb3.out ?_
        intro v1 w1 hown1 hg1 hat1
        rw [Nat.zero_add, List.nil_append] at hown1
        obtain ⟨A1, cap1, hv1⟩ := Co.own_any hown1
        subst hv1
        have hq1 : (Value.slice A1 ni cap1).ownBlock = some w.heap.size ∨ (Value.slice A1 ni cap1).ownBlock = some (w.heap.size + 1) := hat1.imp (fun e => e) (fun e => by rw [e]; simp))
     | (have hownA := hown1.alloc (.cells #[.int .u8 bv] 5)
        refine wpList_append_any _ rfl (.tmp 41) (.tmp 44) _ rfl w.heap.size 5 i0 _ 1 1 Tryd.underlying24 hi0 hz0 hz1 hz2 rfl (by omega) (.slice A1 ni cap1) ni _ rfl hownA (w1.heap.size + 1) (some ⟨w1.heap.size, 0, none⟩) 1 1 [.int .u8 bv] rfl (reads_blk (Blk.new _ _ _) rfl) (by simp [Value.oneCell']) Hb4.out Hb5.out (Nat.le_trans (Nat.le_trans Hb3.out hg1.size) (by simp)) ?_
        intro v2 w2 hown2 hg2 hat2
        obtain ⟨A2, cap2, hv2⟩ := Co.own_any hown2
        subst hv2
        have kb := (((HB.out.alloc (.cells #[] 5)).grown hg1 (Hn1.out _ (Or.inl rfl))).alloc (.cells #[.int .u8 bv] 5)).grown hg2 (Hn1.out _ hq1)
        have f4 := kb.frozen 4
        have k4 : w2.cell? ⟨r.gR, 4, none⟩ = some (.slice Ai ni ci) := kb.cell 4))
  go_ret
  have fr2 : Hid (Fr (fun _ => False) w w2) := Lib.hid ((((((Fr.refl (fun _ => False) w).alloc _).grown hg1 (fun k e => .inr (by have e : w.heap.size = k := (by simpa [Value.ownBlock] using e); omega))).alloc _).grown hg2 (fun k e => .inr (by rcases hq1 with h | h <;> · rw [h] at e; injection e with e; omega))))
  obtain ⟨hrow, hvb⟩ := row_of_own (r := r) (zs := s.outs ++ [bv]) (by simpa using hown2) Hits.out (fun z hz => by
    rcases List.mem_append.1 hz with e | e
    · exact Hok.out.outs z e
    · have e : z = bv := by simpa using e
      omega) (by omega)
  have D2 := H.out.fr0 fr2.out
  have f := Fr.set1 w2 r.gR 4 (.slice A2 (ni + 1) cap2)
  have fW : Fr r.its w2 _ := Fr.its f
  have hbW := kb.set_ 4 (.slice A2 (ni + 1) cap2)
  refine ⟨rfl, D2.own f (s' := { s with outs := s.outs ++ [bv] }) (vo' := .slice A2 (ni + 1) cap2) (vi' := vi) hbW (RowAt.its hrow fW) (RowAt.its HI.out ((fr2.out.mono (fun _ _ e => e.elim)).tr fW)) rfl rfl, (fr2.out.mono (fun _ _ e => e.elim)).tr fW, fun q => rb_of (vo := .slice Ai ni ci) (vi := vi) (vo' := .slice A2 (ni + 1) cap2) (vi' := vi) (HB.out.cell 4) (HB.out.cell 5) (hbW.cell 4) (hbW.cell 5) (fun h => .inr ?_) .inl⟩
  have := hvb q h
  exact ⟨this.1, Nat.lt_of_lt_of_le this.2 f.size⟩
theorem RPost.andThen {w w1 w2 : World} {r : Rr} {s1 s2 : Sb} {v1 v : Value} {e1 e : Ending} (h1 : RPost w r s1 v1 e1 w1) (h2 : RPost w1 r s2 v e w2) : RPost w r s2 v e w2 := by
  obtain ⟨_, _, f1, k1⟩ := h1
  obtain ⟨q1, q2, f2, k2⟩ := h2
  refine ⟨q1, q2, f1.tr f2, fun k hk => ?_⟩
  rcases k2 k hk with h | h
  · rcases k1 k h with h | h
    · exact .inl h
    · exact .inr ⟨h.1, Nat.lt_of_lt_of_le h.2 f2.size⟩
  · exact .inr ⟨Nat.le_trans f1.size h.1, h.2⟩
theorem RPost.drew {w : World} {r : Rr} {s : Sb} {v : Value} (h : Doc w r s) : RPost w r s v (.returned v) w.drew := ⟨rfl, h.fr0 ((Fr.refl _ _).drew), (Fr.refl _ _).drew, fun k hk => .inl hk⟩
/-- the drive was told -/
theorem Doc.driven {w w' : World} {r : Rr} {s : Sb} {v : Value} (h : Doc w r s) {d' : Nat → Int} {ms' : Ms} (hn : ms'.n = s.ms.n) (hB : BS w' r.gR r.gk r.gM r.gb r.gt s.ms.n ms'.mem ms'.tu d') (f : Fr (fun k => k = r.gb ∨ k = r.gt ∨ k = r.gk) w w') : RPost w r { s with d := d', ms := ms' } v (.returned v) w' := by
  obtain ⟨n1, n2, n3, n4⟩ := h.nRb
  obtain ⟨vo, vi, hb, ho, hi⟩ := h.b
  have fi : Fr r.its w w' := f.mono (fun k _ e => by rcases e with e | e | e; exact .inr (.inr (.inr (.inl e))); exact .inr (.inr (.inr (.inr e))); exact .inr (.inl e))
  have hb' : Blk w' r.gR 83 (docCells r s vo vi) := hb.fr f (fun e => by rcases e with e | e | e; exact n1 e; exact n3 e; exact n2 e)
  refine ⟨rfl, ⟨?_, vo, vi, hb', RowAt.its ho fi, RowAt.its hi fi⟩, fi, fun k => rb_of (vo := vo) (vi := vi) (vo' := vo) (vi' := vi) (hb.cell 4) (hb.cell 5) (hb'.cell 4) (hb'.cell 5) .inl .inl⟩
  show BS w' r.gR r.gk r.gM r.gb r.gt ms'.n ms'.mem ms'.tu d'
  rw [hn]
  exact hB
set_option maxRecDepth 100000 in
theorem rstore_40 (h : Doc w r s) (hok : s.Ok) (vn : Nat) (v1 : (vn : Int) ≤ 4294967295) (hn64 : s.ms.n ≤ 64) (hw : IntKind.u32.wrap (at_ - 32768) = 40) :
    Calls Tryd.prog 41 #[.pointer (some ⟨r.gR, 0, none⟩), .int .u32 at_, .int .u32 (vn : Int)] w (RPost w r { s with d := doD s.d s.ms s.sec s.pl vn, ms := doM s.d s.ms s.sec s.pl vn, st := if doB s.ms s.sec s.pl vn then 0 else 1, p := s.p ||| 4 } (.bool true)) := by
  have v0 : (0 : Int) ≤ (vn : Int) := by omega
  have P1 := Lib.hid (h.set1 (s' := { s with st := 1 }) 9 (.int .u32 1) (.bool true) (fun _ _ => rfl) rfl rfl rfl rfl)
  have P2 := Lib.hid (P1.out.andThen (RPost.drew (v := .bool true) P1.out.2.1))
  have hor : bits .or .u32 (s.p : Int) 4 = ((s.p ||| 4 : Nat) : Int) := or_nat s.p 4 hok.p (by omega)
  obtain ⟨vo, vi, hb, ho, hi⟩ := P2.out.2.1.b
  obtain ⟨vo0, vi0, hb0, _, _⟩ := h.b
  have z9 := hb0.frozen 9
  have y9 : w.cell? ⟨r.gR, 9, none⟩ = some (.int .u32 s.st) := hb0.cell 9
  have c7 : (w.setCell ⟨r.gR, 9, none⟩ (.int .u32 1)).drew.cell? ⟨r.gR, 7, none⟩ = some (.int .u32 s.sec) := hb.cell 7
  have c8 : (w.setCell ⟨r.gR, 9, none⟩ (.int .u32 1)).drew.cell? ⟨r.gR, 8, none⟩ = some (.int .u32 s.pl) := hb.cell 8
  have Hdr := Lib.hid (drive_any _ _ _ _ _ _ s.ms s.d P2.out.2.1.B hn64 s.sec s.pl vn hok.sec.1 hok.sec.2 hok.pl.1 hok.pl.2 v0 v1)
  have s0 := hok.sec.1
  have s1 := hok.sec.2
  have l0 := hok.pl.1
  have l1 := hok.pl.2
  clear hb ho hi hb0
  obtain ⟨bb, hbb⟩ : ∃ q, doB s.ms s.sec s.pl vn = q := ⟨_, rfl⟩
  rw [hbb] at Hdr
  rw [hbb]
  clear hbb
  obtain ⟨sq, hsq⟩ : ∃ q : Int, (if bb = true then 0 else 1) = q := ⟨_, rfl⟩
  rw [hsq]
  have HSQ := Lib.hid hsq
  have hor := Lib.hid hor
  clear hsq
  go_enter Tryd.func41, Tryd.ntmps41
  go_upto_region 17 with (fail)
  go_region_with (refine (Hdr.out).mono ?_; rintro e w2 ⟨rfl, hB2, f2⟩)
  all_goals
    have P3 := Lib.hid (P2.out.andThen (P2.out.2.1.driven (v := .bool true) (doM_n s.d s.ms s.sec s.pl vn) hB2 f2))
    obtain ⟨vo, vi, hb, ho, hi⟩ := P3.out.2.1.b
    have z9 := hb.frozen 9
    have z1 := hb.frozen 1
    have y9 : w2.cell? ⟨r.gR, 9, none⟩ = some (.int .u32 1) := hb.cell 9
    have y1 : w2.cell? ⟨r.gR, 1, none⟩ = some (.int .u32 (s.p : Int)) := hb.cell 1
    have hor := hor.out
    generalize doD s.d s.ms s.sec s.pl vn = d' at *
    generalize doM s.d s.ms s.sec s.pl vn = m' at *
    clear hb ho hi f2 hB2 c7 c8
    cases bb
    · have P4 := Lib.hid (P3.out.andThen (P3.out.2.1.set1 (s' := { s with d := d', ms := m', st := 1, p := s.p ||| 4 }) 1 (.int .u32 ((s.p ||| 4 : Nat) : Int)) (.bool true) (fun _ _ => rfl) rfl rfl rfl rfl))
      go_wp2_with fail
      go_ret
      rw [← HSQ.out]
      exact P4.out
    · have P4 := P3.out.2.1.set1 (s' := { s with d := d', ms := m', st := 0 }) 9 (.int .u32 0) (.bool true) (fun _ _ => rfl) rfl rfl rfl rfl
      have P5 := Lib.hid (P3.out.andThen (P4.andThen (P4.2.1.set1 (s' := { s with d := d', ms := m', st := 0, p := s.p ||| 4 }) 1 (.int .u32 ((s.p ||| 4 : Nat) : Int)) (.bool true) (fun _ _ => rfl) rfl rfl rfl rfl)))
      clear P4
      go_wp2_with fail
      go_ret
      rw [← HSQ.out]
      exact P5.out
set_option maxRecDepth 100000 in
theorem rstore_k (h : Doc w r s) (hok : s.Ok) (v : Int) (a0 : 0 ≤ at_) (a1 : at_ ≤ 4294967295) (v0 : 0 ≤ v) (v1 : v ≤ 4294967295) (hlo : s.outs.length ≤ 900000) (hn64 : s.ms.n ≤ 64) :
    Calls Tryd.prog 41 #[.pointer (some ⟨r.gR, 0, none⟩), .int .u32 at_, .int .u32 v] w (RPost w r (s.store at_ v) (.bool (loadB at_))) := by
  have hw : IntKind.u32.wrap (at_ - 32768) = offO at_ := IntKind.wrap_u32 _
  have H := Lib.hid h
  have Hok := Lib.hid hok
  obtain ⟨vn, rfl⟩ : ∃ k : Nat, v = k := ⟨v.toNat, by omega⟩
  obtain ⟨vo, vi, hb, ho, hi⟩ := h.b
  have c1 : w.cell? ⟨r.gR, 1, none⟩ = some (.int .u32 (s.p : Int)) := hb.cell 1
  have c2 : w.cell? ⟨r.gR, 2, none⟩ = some (.int .u32 (s.m : Int)) := hb.cell 2
  have c3 : w.cell? ⟨r.gR, 3, none⟩ = some (.int .u32 s.tm) := hb.cell 3
  have c7 : w.cell? ⟨r.gR, 7, none⟩ = some (.int .u32 s.sec) := hb.cell 7
  have c8 : w.cell? ⟨r.gR, 8, none⟩ = some (.int .u32 s.pl) := hb.cell 8
  have z1 := hb.frozen 1
  have z2 := hb.frozen 2
  have z3 := hb.frozen 3
  have z7 := hb.frozen 7
  have z8 := hb.frozen 8
  have hcase := off_cases at_
  have e1 : s.store at_ (vn : Int) = s.storeO (offO at_) (vn : Int) := rfl
  have e3 : loadB at_ = decide (offO at_ = 0 ∨ offO at_ = 4 ∨ offO at_ = 8 ∨ offO at_ = 12 ∨ offO at_ = 16 ∨ offO at_ = 20 ∨ offO at_ = 24 ∨ offO at_ = 32 ∨ offO at_ = 36 ∨ offO at_ = 40 ∨ offO at_ = 44) := rfl
  rw [e1]
  rw [e3] at hcase ⊢
  clear e1 e3 h hb ho hi hok
  generalize offO at_ = o at *
  rcases hcase with rfl | rfl | rfl | rfl | rfl | rfl | rfl | rfl | rfl | rfl | rfl | hno
  · have hm : bits .andNot .u32 (s.p : Int) (vn : Int) = ((s.p &&& (4294967295 - vn) : Nat) : Int) := u32_andNot_nat s.p vn (by have := Hok.out.p; omega) (by omega)
    have PP := Lib.hid (H.out.set1 (s' := s.storeO 0 (vn : Int)) 1 (.int .u32 ((s.p &&& (4294967295 - vn) : Nat) : Int)) (.bool true) (fun _ _ => rfl) rfl rfl rfl rfl)
    generalize s.storeO 0 (vn : Int) = s' at *
    generalize ((s.p &&& (4294967295 - vn) : Nat) : Int) = q at *
    go_enter Tryd.func41, Tryd.ntmps41
    go_wp2_with fail
    go_ret
    exact PP.out
  · have PP := Lib.hid (H.out.set1 (s' := s.storeO 4 (vn : Int)) 2 (.int .u32 ((vn % 256 : Nat) : Int)) (.bool true) (fun _ _ => rfl) rfl rfl rfl rfl)
    have hm : (vn : Int) % 256 = ((vn % 256 : Nat) : Int) := by omega
    have hm2 : (vn : Int).tmod 256 = (vn : Int) % 256 := Int.tmod_eq_emod_of_nonneg (by omega)
    rw [← hm] at PP
    clear hm
    generalize s.storeO 4 (vn : Int) = s' at *
    generalize (vn : Int) % 256 = q at *
    go_enter Tryd.func41, Tryd.ntmps41
    go_wp2_with fail
    go_ret
    exact PP.out
  · have PP := Lib.hid (H.out.set1 (s' := s.storeO 8 (vn : Int)) 3 (.int .u32 (vn : Int)) (.bool true) (fun _ _ => rfl) rfl rfl rfl rfl)
    generalize s.storeO 8 (vn : Int) = s' at *
    go_enter Tryd.func41, Tryd.ntmps41
    go_wp2_with fail
    go_ret
    exact PP.out
  · go_enter Tryd.func41, Tryd.ntmps41
    go_wp2_with fail
    go_ret
    exact RPost.same H.out
  · exact rstore_16 w r s at_ H.out Hok.out hlo vn v1 hw
  · go_enter Tryd.func41, Tryd.ntmps41
    go_wp2_with fail
    go_ret
    exact RPost.same H.out
  · go_enter Tryd.func41, Tryd.ntmps41
    go_wp2_with fail
    go_ret
    exact RPost.same H.out
  · have PP := Lib.hid (H.out.set1 (s' := s.storeO 32 (vn : Int)) 7 (.int .u32 (vn : Int)) (.bool true) (fun _ _ => rfl) rfl rfl rfl rfl)
    generalize s.storeO 32 (vn : Int) = s' at *
    go_enter Tryd.func41, Tryd.ntmps41
    go_wp2_with fail
    go_ret
    exact PP.out
  · have PP := Lib.hid (H.out.set1 (s' := s.storeO 36 (vn : Int)) 8 (.int .u32 (vn : Int)) (.bool true) (fun _ _ => rfl) rfl rfl rfl rfl)
    generalize s.storeO 36 (vn : Int) = s' at *
    go_enter Tryd.func41, Tryd.ntmps41
    go_wp2_with fail
    go_ret
    exact PP.out
  · exact rstore_40 w r s at_ H.out Hok.out vn v1 hn64 hw
  · go_enter Tryd.func41, Tryd.ntmps41
    go_wp2_with fail
    go_ret
    exact RPost.same H.out
  · rw [hno]
    have hn := of_decide_eq_false hno
    have n0 : (o == 0) = false := by simp; omega
    have n4 : (o == 4) = false := by simp; omega
    have n8 : (o == 8) = false := by simp; omega
    have n12 : (o == 12) = false := by simp; omega
    have n16 : (o == 16) = false := by simp; omega
    have n20 : (o == 20) = false := by simp; omega
    have n24 : (o == 24) = false := by simp; omega
    have n32 : (o == 32) = false := by simp; omega
    have n36 : (o == 36) = false := by simp; omega
    have n40 : (o == 40) = false := by simp; omega
    have n44 : (o == 44) = false := by simp; omega
    have el : s.storeO o (vn : Int) = s := by
      unfold Sb.storeO
      rw [if_neg (by omega), if_neg (by omega), if_neg (by omega), if_neg (by omega), if_neg (by omega), if_neg (by omega), if_neg (by omega)]
    rw [el]
    clear hno hn el
    go_enter Tryd.func41, Tryd.ntmps41
    go_wp2_with fail
    go_ret
    exact RPost.same H.out
end
end Go.Proofs.YthiephlfhbkcbaaDoor.Bs
namespace Go.Proofs.YthiephlfhbkcbaaDoor.Bs
open Go.RowKit Fm Nt Rm By Dr Rf
set_option linter.unusedVariables false
set_option linter.unusedSimpArgs false
set_option maxHeartbeats 4000000

theorem BO.step2 {w0 w w' : World} {K K' S : Nat → Prop} {a : Ab} {s : Sb} (h : BO w0 w K a s) (f : Fr S w w') (hs : ∀ k, S k → K k ∧ w0.heap.size ≤ k) (hk : ∀ k, K' k → K k ∨ w.heap.size ≤ k ∧ k < w'.heap.size) : BO w0 w' K' a s := by
  obtain ⟨F, h1, h2, h3, h4⟩ := h
  have hl := h1.lt
  refine ⟨F, h1.fr f (fun k hk e => (h2 k hk).2 (hs k e).1), fun k e => ⟨(h2 k e).1, fun e2 => ?_⟩, h3.trans f (fun i hi e => by have := (hs i e).2; omega), fun k e => ?_⟩
  · rcases hk k e2 with e3 | e3
    · exact (h2 k e).2 e3
    · have := hl k e; omega
  · rcases hk k e with e3 | e3
    · exact Nat.lt_of_lt_of_le (h4 k e3) f.size
    · exact e3.2
/-- a statement's bus and the document's; blocks of K are not the bus's -/
def Duo (w0 w : World) (K : Nat → Prop) (a : Ab) (r : Rr) (s t : Sb) : Prop := BO w0 w K a s ∧ Doc w r t ∧ (∀ k, r.its k → K k ∧ w0.heap.size ≤ k) ∧ (∀ k, rb w r k → K k)
section
variable {w0 w w' : World} {K : Nat → Prop} {a : Ab} {r : Rr} {s s' t t' : Sb} {v : Value} {e : Ending}
theorem RowAt.far {S : Nat → Prop} {zs : List Int} (h : RowAt w r v zs) (f : Fr S w w') (hb : ∀ k, vb v k → ¬ S k) : RowAt w' r v zs := by
  obtain ⟨A, n, c, rfl, h1, h2, h3, h4⟩ := h
  exact ⟨A, n, c, rfl, (ints_own h1 f (Nat.le_refl _) (fun hn b off e => hb b ⟨off, n, c, by rw [e], hn⟩)).more f.size, h2, h3, h4⟩
theorem Doc.far {S : Nat → Prop} (h : Doc w r t) (f : Fr S w w') (hi : ∀ k, r.its k → ¬ S k) (hb : ∀ k, rb w r k → ¬ S k) : Doc w' r t ∧ (∀ k, rb w' r k → rb w r k) := by
  obtain ⟨vo, vi, h1, h2, h3⟩ := h.b
  have g1 : Blk w' r.gR 83 (docCells r t vo vi) := h1.fr f (hi _ (.inl rfl))
  refine ⟨⟨h.B.fr f (fun k hk e => ⟨fun q => hi k (.inl q) e, fun q => hi k (.inr (.inl q)) e, fun q => hi k (.inr (.inr (.inl q))) e, fun q => hi k (.inr (.inr (.inr (.inl q)))) e, fun q => hi k (.inr (.inr (.inr (.inr q)))) e⟩), vo, vi, g1, h2.far f (fun k q => hb k ⟨vo, .inl (h1.cell 4), q⟩), h3.far f (fun k q => hb k ⟨vi, .inr (h1.cell 5), q⟩)⟩, fun k hk => ?_⟩
  exact (rb_of (P := False) (vo := vo) (vi := vi) (vo' := vo) (vi' := vi) (h1.cell 4) (h1.cell 5) (g1.cell 4) (g1.cell 5) .inl .inl hk).elim id False.elim
theorem Duo.prog (h : Duo w0 w K a r s t) (hB : BO w0 w' K a s') (f : Fr (fun k => ¬ K k) w w') : Duo w0 w' K a r s' t := by
  obtain ⟨h1, h2, h3, h4⟩ := h
  obtain ⟨d1, d2⟩ := h2.far f (fun k hk e => e (h3 k hk).1) (fun k hk e => e (h4 k hk))
  exact ⟨hB, d1, h3, fun k hk => h4 k (d2 k hk)⟩
theorem Duo.doc (h : Duo w0 w K a r s t) (hP : RPost w r t' v e w') : ∃ K', Duo w0 w' K' a r s t' ∧ (∀ k, K k → K' k) := by
  obtain ⟨h1, h2, h3, h4⟩ := h
  obtain ⟨_, d1, f, d2⟩ := hP
  refine ⟨fun k => K k ∨ rb w' r k, ⟨h1.step2 f h3 (fun k hk => ?_), d1, fun k hk => ⟨.inl (h3 k hk).1, (h3 k hk).2⟩, fun k hk => .inr hk⟩, fun k hk => .inl hk⟩
  rcases hk with hk | hk
  · exact .inl hk
  · exact (d2 k hk).imp (h4 k) id
theorem Duo.fr0 (h : Duo w0 w K a r s t) (f : Fr (fun _ => False) w w') : Duo w0 w' K a r s t := by
  obtain ⟨h1, h2, h3, h4⟩ := h
  obtain ⟨d1, d2⟩ := h2.far f (fun k hk e => e) (fun k hk e => e)
  exact ⟨h1.fr0 f, d1, h3, fun k hk => h4 k (d2 k hk)⟩
/-- a block more that is not the bus's -/
theorem Duo.new (h : Duo w0 w K a r s t) (f : Fr (fun _ => False) w w') {g : Nat} (g0 : w.heap.size ≤ g) (g1 : g < w'.heap.size) : Duo w0 w' (fun k => K k ∨ k = g) a r s t := by
  obtain ⟨h1, h2, h3, h4⟩ := h
  obtain ⟨d1, d2⟩ := h2.far f (fun k hk e => e) (fun k hk e => e)
  exact ⟨h1.keep f (fun k hk => hk.imp id (fun e => by subst e; exact ⟨g0, g1⟩)), d1, fun k hk => ⟨.inl (h3 k hk).1, (h3 k hk).2⟩, fun k hk => .inl (h4 k (d2 k hk))⟩
theorem Duo.n64 (h : Duo w0 w K a r s t) : s.ms.n ≤ 64 := by
  obtain ⟨⟨F, h1, _⟩, _⟩ := h
  exact h1.M.n0.2
theorem Duo.lt (h : Duo w0 w K a r s t) : ∀ k, r.its k → k < w.heap.size := h.2.1.its_lt
end
/-- what one call leaves -/
def DoPost (w0 w : World) (K : Nat → Prop) (a : Ab) (r : Rr) (s' : Sb) (e : Ending) (w' : World) : Prop :=
  e = .returned (.bool true) ∧ ∃ K', Duo w0 w' K' a r s' s' ∧ (∀ k, K k → K' k) ∧ Fr (fun k => ¬ K k ∨ r.its k) w w'
def askA (kd ln at_ v cnt : Int) (A : Option Addr) (n c : Nat) : Array Value := #[.int .i64 kd, .int .i64 ln, .int .u32 at_, .int .u32 v, .int .u64 cnt, .slice A n c]
def okL (ln : Int) : Bool := decide (0 ≤ ln) && decide (ln < 8)
def Sb.raiseL (s : Sb) (ln : Int) : Sb := if okL ln then { s with p := s.p ||| 2 ^ ln.toNat } else s
/-- one line is raised: its list was just made -/
theorem raiseL_o {w0 w : World} {K : Nat → Prop} {a : Ab} {s : Sb} (h : BO w0 w K a s) (ln : Int) (hw : (Lit.int .i64 ln).wf = true) :
    Calls Tryd.prog 8 #[.pointer (some ⟨a.gc, 0, none⟩), .slice (some ⟨w.heap.size, 0, none⟩) 1 1] (w.alloc (.cells #[.int .i64 ln] 3)) fun e w' => e = .returned (.bool (okL ln)) ∧ BO w0 w' K a (s.raiseL ln) ∧ Fr (fun k => ¬ K k) w w' := by
  cases hq : okL ln
  · obtain ⟨F, h1, h2, h3, h4⟩ := h
    have f0 := (Fr.refl (· = a.gc) w).alloc (.cells #[.int .i64 ln] 3)
    have h0 := h1.fr0 ((Fr.refl (fun _ => False) w).alloc (.cells #[.int .i64 ln] 3))
    refine (Iq.raise_any _ a.gc s.p s.m h0.c h0.ok.p (w.heap.size + 1) (some ⟨w.heap.size, 0, none⟩) 1 1 [ln] (intsAt_lit [ln] (Blk.new _ _ _) (fun i hi => by
      have : i = 0 := by simpa using hi
      subst this
      exact hw)) (by simp [maxLen])).mono ?_
    rintro e w' ⟨rfl, hc, f⟩
    have e1 : Iq.okAll [ln] = false := by simpa [Iq.okAll, okL] using hq
    have e2 : Iq.raised [ln] s.p = s.p := by rw [Iq.raised, if_neg (by simp [e1])]
    have e3 : s.raiseL ln = { s with p := s.p, m := s.m } := by rw [Sb.raiseL, hq, if_neg (by simp)]
    rw [e2] at hc
    have hB := h0.setC hc f h1.ok.p h1.ok.m
    rw [e1, e3]
    exact BO.post h2 h3 h4 ⟨rfl, F, hB, fun k hk => .inl hk, (f0.tr f).mono (fun k _ e => .inr (.inl e))⟩
  · have hz : 0 ≤ ln ∧ ln < 8 := by simpa [okL] using hq
    obtain ⟨z, rfl⟩ : ∃ z : Nat, ln = z := ⟨ln.toNat, by omega⟩
    have e3 : s.raiseL (z : Int) = { s with p := s.p ||| 2 ^ z } := by rw [Sb.raiseL, hq, if_pos rfl]; rfl
    rw [e3]
    exact raise_o h z (by omega)
theorem Duo.fin {w0 w w1 w2 w3 : World} {K K3 : Nat → Prop} {a : Ab} {r : Rr} {s' : Sb} {g : Nat} (f0 : Fr (fun _ => False) w w1) (f1 : Fr (fun k => ¬ (K k ∨ k = g)) w1 w2) (f2 : Fr r.its w2 w3) (D3 : Duo w0 w3 K3 a r s' s') (hK : ∀ k, (K k ∨ k = g) → K3 k) :
    DoPost w0 w K a r s' (.returned (.bool true)) w3 :=
  ⟨rfl, K3, D3, fun k hk => hK k (.inl hk), ((f0.mono (S' := fun k => ¬ K k ∨ r.its k) (fun _ _ e => e.elim)).trans f1 (fun i hi e => .inl (fun q => e (.inl q)))).trans f2 (fun i hi e => .inr e)⟩
/-- the call's own copy of the asked -/
structure Box (w : World) (g : Nat) (kd ln at_ v cnt : Int) (A : Option Addr) (n c : Nat) : Prop where
  b : Blk w g 57 (askA kd ln at_ v cnt A n c)
section
variable {w w' : World} {g n c : Nat} {kd ln at_ v cnt : Int} {A : Option Addr}
theorem Box.fr {S : Nat → Prop} (h : Box w g kd ln at_ v cnt A n c) (f : Fr S w w') (hn : ¬ S g) : Box w' g kd ln at_ v cnt A n c := ⟨h.b.fr f hn⟩
theorem Box.c0 (h : Box w g kd ln at_ v cnt A n c) : w.cell? ⟨g, 0, none⟩ = some (.int .i64 kd) := h.b.cell 0
theorem Box.c1 (h : Box w g kd ln at_ v cnt A n c) : w.cell? ⟨g, 1, none⟩ = some (.int .i64 ln) := h.b.cell 1
theorem Box.c2 (h : Box w g kd ln at_ v cnt A n c) : w.cell? ⟨g, 2, none⟩ = some (.int .u32 at_) := h.b.cell 2
theorem Box.c3 (h : Box w g kd ln at_ v cnt A n c) : w.cell? ⟨g, 3, none⟩ = some (.int .u32 v) := h.b.cell 3
theorem Box.c4 (h : Box w g kd ln at_ v cnt A n c) : w.cell? ⟨g, 4, none⟩ = some (.int .u64 cnt) := h.b.cell 4
theorem Box.c5 (h : Box w g kd ln at_ v cnt A n c) : w.cell? ⟨g, 5, none⟩ = some (.slice A n c) := h.b.cell 5
end
def S17 (g gB gc : Nat) (ln : Int) (W : World) : Prop := W.cell? ⟨g, 1, none⟩ = some (.int .i64 ln) ∧ W.cell? ⟨gB, 0, none⟩ = some (.pointer (some ⟨gc, 0, none⟩))
def S15 (g : Nat) (at_ v : Int) (W : World) : Prop := W.cell? ⟨g, 2, none⟩ = some (.int .u32 at_) ∧ W.cell? ⟨g, 3, none⟩ = some (.int .u32 v)
set_option maxRecDepth 100000 in
theorem do15_0 (w0 w : World) (K : Nat → Prop) (a : Ab) (r : Rr) (s : Sb) (h : Duo w0 w K a r s s) (hlo : s.outs.length ≤ 900000) (kd ln at_ v cnt : Int) (hk : kd ≠ 1 ∧ kd ≠ 2 ∧ kd ≠ 3 ∧ kd ≠ 4 ∧ kd ≠ 5) (hln : (Lit.int .i64 ln).wf = true) (a0 : 0 ≤ at_) (a1 : at_ ≤ 4294967295) (v0 : 0 ≤ v) (v1 : v ≤ 4294967295) (n0 : 0 ≤ cnt) (n1 : cnt ≤ 18446744073709551615) (A : Option Addr) (n c : Nat) (zs : List Int) (hz : IntsAt .u8 w0 w0.heap.size A n zs) (hm : n ≤ maxLen) (hc : n ≤ c) :
    Calls Tryd.prog 26 #[.pointer (some ⟨a.gB, 0, none⟩), .pointer (some ⟨r.gR, 0, none⟩), .agg #[.int .i64 kd, .int .i64 ln, .int .u32 at_, .int .u32 v, .int .u64 cnt, .slice A n c]] w (DoPost w0 w K a r s) := by
  have f0 := (Fr.refl (fun _ => False) w).alloc (.cells #[.int .i64 kd, .int .i64 ln, .int .u32 at_, .int .u32 v, .int .u64 cnt, .slice A n c] 57)
  have hx : Box (w.alloc (.cells #[.int .i64 kd, .int .i64 ln, .int .u32 at_, .int .u32 v, .int .u64 cnt, .slice A n c] 57)) w.heap.size kd ln at_ v cnt A n c := ⟨Blk.new _ _ _⟩
  have D1 := h.new f0 (Nat.le_refl _) hx.b.lt
  have Hlt := Lib.hid h.lt
  have hokS := h.1.ok
  have hn64 := h.n64
  have hcm : cnt.tmod 1099511627776 = cnt % 1099511627776 := Int.tmod_eq_emod_of_nonneg n0
  obtain ⟨q, hq⟩ : ∃ q, cnt % 1099511627776 = q := ⟨_, rfl⟩
  have q0 : 0 ≤ q := by omega
  have q1 : q ≤ 18446744073709551615 := by omega
  have zw := wf_i64 hln
  rw [hq] at hcm
  clear hq
  clear h
  go_enter Tryd.func26, Tryd.ntmps26
  go_upto_region 1 with (fail)
  generalize w.alloc (.cells #[.int .i64 kd, .int .i64 ln, .int .u32 at_, .int .u32 v, .int .u64 cnt, .slice A n c] 57) = w1 at *
  generalize hg : w.heap.size = g at *
  have hgl := hx.b.lt
  have c0 := hx.c0
  have c1 := hx.c1
  have c2 := hx.c2
  have c3 := hx.c3
  have c4 := hx.c4
  have c5 := hx.c5
  have HD1 := Lib.hid D1
  have HX := Lib.hid hx
  have HF0 := Lib.hid f0
  have Hok := Lib.hid hokS
  have HZ := Lib.hid hz
  have Hg : Hid (¬ r.its g) := Lib.hid (fun e => by have := Hlt.out _ e; omega)
  clear D1 hx f0 hokS hz
  obtain ⟨k1, k2, k3, k4, k5⟩ := hk
  have e1 : (kd == 1) = false := by simp; omega
  have e2 : (kd == 2) = false := by simp; omega
  have e3 : (kd == 3) = false := by simp; omega
  have e4 : (kd == 4) = false := by simp; omega
  have e5 : (kd == 5) = false := by simp; omega
  go_wp2_with fail
  go_ret
  exact Duo.fin HF0.out (Fr.refl _ _) (Fr.refl _ _) HD1.out (fun _ e => e)
set_option maxRecDepth 100000 in
theorem do15_1 (w0 w : World) (K : Nat → Prop) (a : Ab) (r : Rr) (s : Sb) (h : Duo w0 w K a r s s) (hlo : s.outs.length ≤ 900000) (kd ln at_ v cnt : Int) (hk : kd = 1) (hln : (Lit.int .i64 ln).wf = true) (a0 : 0 ≤ at_) (a1 : at_ ≤ 4294967295) (v0 : 0 ≤ v) (v1 : v ≤ 4294967295) (n0 : 0 ≤ cnt) (n1 : cnt ≤ 18446744073709551615) (A : Option Addr) (n c : Nat) (zs : List Int) (hz : IntsAt .u8 w0 w0.heap.size A n zs) (hm : n ≤ maxLen) (hc : n ≤ c) :
    Calls Tryd.prog 26 #[.pointer (some ⟨a.gB, 0, none⟩), .pointer (some ⟨r.gR, 0, none⟩), .agg #[.int .i64 kd, .int .i64 ln, .int .u32 at_, .int .u32 v, .int .u64 cnt, .slice A n c]] w (DoPost w0 w K a r (s.read at_)) := by
  subst hk
  have f0 := (Fr.refl (fun _ => False) w).alloc (.cells #[.int .i64 1, .int .i64 ln, .int .u32 at_, .int .u32 v, .int .u64 cnt, .slice A n c] 57)
  have hx : Box (w.alloc (.cells #[.int .i64 1, .int .i64 ln, .int .u32 at_, .int .u32 v, .int .u64 cnt, .slice A n c] 57)) w.heap.size 1 ln at_ v cnt A n c := ⟨Blk.new _ _ _⟩
  have D1 := h.new f0 (Nat.le_refl _) hx.b.lt
  have Hlt := Lib.hid h.lt
  have hokS := h.1.ok
  have hn64 := h.n64
  have hcm : cnt.tmod 1099511627776 = cnt % 1099511627776 := Int.tmod_eq_emod_of_nonneg n0
  obtain ⟨q, hq⟩ : ∃ q, cnt % 1099511627776 = q := ⟨_, rfl⟩
  have q0 : 0 ≤ q := by omega
  have q1 : q ≤ 18446744073709551615 := by omega
  have zw := wf_i64 hln
  rw [hq] at hcm
  clear hq
  clear h
  go_enter Tryd.func26, Tryd.ntmps26
  go_upto_region 1 with (fail)
  generalize w.alloc (.cells #[.int .i64 1, .int .i64 ln, .int .u32 at_, .int .u32 v, .int .u64 cnt, .slice A n c] 57) = w1 at *
  generalize hg : w.heap.size = g at *
  have hgl := hx.b.lt
  have c0 := hx.c0
  have c1 := hx.c1
  have c2 := hx.c2
  have c3 := hx.c3
  have c4 := hx.c4
  have c5 := hx.c5
  have HD1 := Lib.hid D1
  have HX := Lib.hid hx
  have HF0 := Lib.hid f0
  have Hok := Lib.hid hokS
  have HZ := Lib.hid hz
  have Hg : Hid (¬ r.its g) := Lib.hid (fun e => by have := Hlt.out _ e; omega)
  clear D1 hx f0 hokS hz
  have HL := Lib.hid (load_o HD1.out.1 at_ q a0 a1 q0 q1)
  go_wp2_with fail
  refine (HL.out).mono ?_
  rintro e w2 ⟨rfl, hB2, f2⟩
  have D2 := Lib.hid (HD1.out.prog hB2 f2)
  have c2 := f2.cell c2 hgl (fun e => e (.inr rfl))
  have HR := Lib.hid (rload_k w2 r s D2.out.2.1 Hok.out at_ q a0 a1 q0 q1)
  have F2 := Lib.hid f2
  clear HL hB2 c0 c1 c3 c4 c5 f2
  generalize loadV s at_ q = lv at *
  generalize loadB at_ = lb at *
  go_wp2_with fail
  refine (HR.out).mono ?_
  rintro e w3 hP
  obtain ⟨K3, D3, hK3⟩ := D2.out.doc hP
  obtain ⟨rfl, _, f3, _⟩ := hP
  have HE := Lib.hid (Duo.fin HF0.out F2.out f3 D3 hK3)
  clear D3 f3 hK3 c2
  go_wp2_with fail
  go_ret
  exact HE.out
set_option maxRecDepth 100000 in
theorem do15_2 (w0 w : World) (K : Nat → Prop) (a : Ab) (r : Rr) (s : Sb) (h : Duo w0 w K a r s s) (hlo : s.outs.length ≤ 900000) (kd ln at_ v cnt : Int) (hk : kd = 2) (hln : (Lit.int .i64 ln).wf = true) (a0 : 0 ≤ at_) (a1 : at_ ≤ 4294967295) (v0 : 0 ≤ v) (v1 : v ≤ 4294967295) (n0 : 0 ≤ cnt) (n1 : cnt ≤ 18446744073709551615) (A : Option Addr) (n c : Nat) (zs : List Int) (hz : IntsAt .u8 w0 w0.heap.size A n zs) (hm : n ≤ maxLen) (hc : n ≤ c) :
    Calls Tryd.prog 26 #[.pointer (some ⟨a.gB, 0, none⟩), .pointer (some ⟨r.gR, 0, none⟩), .agg #[.int .i64 kd, .int .i64 ln, .int .u32 at_, .int .u32 v, .int .u64 cnt, .slice A n c]] w (DoPost w0 w K a r (s.store at_ v)) := by
  subst hk
  have f0 := (Fr.refl (fun _ => False) w).alloc (.cells #[.int .i64 2, .int .i64 ln, .int .u32 at_, .int .u32 v, .int .u64 cnt, .slice A n c] 57)
  have hx : Box (w.alloc (.cells #[.int .i64 2, .int .i64 ln, .int .u32 at_, .int .u32 v, .int .u64 cnt, .slice A n c] 57)) w.heap.size 2 ln at_ v cnt A n c := ⟨Blk.new _ _ _⟩
  have D1 := h.new f0 (Nat.le_refl _) hx.b.lt
  have Hlt := Lib.hid h.lt
  have hokS := h.1.ok
  have hn64 := h.n64
  have hcm : cnt.tmod 1099511627776 = cnt % 1099511627776 := Int.tmod_eq_emod_of_nonneg n0
  obtain ⟨q, hq⟩ : ∃ q, cnt % 1099511627776 = q := ⟨_, rfl⟩
  have q0 : 0 ≤ q := by omega
  have q1 : q ≤ 18446744073709551615 := by omega
  have zw := wf_i64 hln
  rw [hq] at hcm
  clear hq
  clear h
  go_enter Tryd.func26, Tryd.ntmps26
  go_upto_region 1 with (fail)
  generalize w.alloc (.cells #[.int .i64 2, .int .i64 ln, .int .u32 at_, .int .u32 v, .int .u64 cnt, .slice A n c] 57) = w1 at *
  generalize hg : w.heap.size = g at *
  have hgl := hx.b.lt
  have c0 := hx.c0
  have c1 := hx.c1
  have c2 := hx.c2
  have c3 := hx.c3
  have c4 := hx.c4
  have c5 := hx.c5
  have HD1 := Lib.hid D1
  have HX := Lib.hid hx
  have HF0 := Lib.hid f0
  have Hok := Lib.hid hokS
  have HZ := Lib.hid hz
  have Hg : Hid (¬ r.its g) := Lib.hid (fun e => by have := Hlt.out _ e; omega)
  clear D1 hx f0 hokS hz
  have HL := Lib.hid (store_o (HD1.out.fr0 ((Fr.refl _ _).drew)).1 at_ v q a0 a1 v0 v1 (by omega))
  have hS1 : S15 g at_ v w1.drew := ⟨c2, c3⟩
  go_upto_region 8 with (fail)
  clear c0 c1 c2 c3 c4 c5
  refine wp_region_held_drew (S := S15 g at_ v) (by kernel_rfl) (hS1) (fun hH => ?_)
  refine wpAnyH_take (i := 0) (v := ?_) rfl (by kernel_rfl) (by kernel_rfl) (by kernel_rfl) (fun _ _ _ h => h) (Or.inl ⟨by kernel_rfl, ?_⟩) hH ?_
  rotate_left
  · (intro W hSw; obtain ⟨k2, k3⟩ := hSw; go_simp; try with_reducible rfl)
  refine wpAnyH_take (i := 1) (v := ?_) rfl (by kernel_rfl) (by kernel_rfl) (by kernel_rfl) (fun _ _ _ h => h) (Or.inl ⟨by kernel_rfl, ?_⟩) hH ?_
  rotate_left
  · (intro W hSw; obtain ⟨k2, k3⟩ := hSw; go_simp; try with_reducible rfl)
  refine wpAnyH_take (i := 2) (v := ?_) rfl (by kernel_rfl) (by kernel_rfl) (by kernel_rfl) (fun _ _ _ h => h) (Or.inl ⟨by kernel_rfl, ?_⟩) hH ?_
  rotate_left
  · (intro W hSw; obtain ⟨k2, k3⟩ := hSw; go_simp; try with_reducible rfl)
  try simp only [Act.put, List.getElem_toArray, List.getElem_cons_zero, List.getElem_cons_succ, List.setIfInBounds_toArray, List.set_cons_zero, List.set_cons_succ]
  refine wpAnyH_take (i := 3) (v := ?_) rfl (by kernel_rfl) (by kernel_rfl) (by kernel_rfl) (fun _ _ _ h => h) (Or.inl ⟨by kernel_rfl, ?_⟩) hH ?_
  rotate_left
  · (intro W hSw; obtain ⟨k2, k3⟩ := hSw; go_simp; try with_reducible rfl)
  refine wpAnyH_take (i := 4) (v := ?_) rfl (by kernel_rfl) (by kernel_rfl) (by kernel_rfl) (fun _ _ _ h => h) (Or.inl ⟨by kernel_rfl, ?_⟩) hH ?_
  rotate_left
  · (intro W hSw; obtain ⟨k2, k3⟩ := hSw; go_simp; try with_reducible rfl)
  refine wpAnyH_take (i := 5) (v := ?_) rfl (by kernel_rfl) (by kernel_rfl) (by kernel_rfl) (fun _ _ _ h => h) (Or.inl ⟨by kernel_rfl, ?_⟩) hH ?_
  rotate_left
  · (intro W hSw; obtain ⟨k2, k3⟩ := hSw; go_simp; try with_reducible rfl)
  try simp only [Act.put, List.getElem_toArray, List.getElem_cons_zero, List.getElem_cons_succ, List.setIfInBounds_toArray, List.set_cons_zero, List.set_cons_succ]
  refine wpAnyH_take (i := 7) (v := ?_) rfl (by kernel_rfl) (by kernel_rfl) (by kernel_rfl) (fun _ _ _ h => h) (Or.inl ⟨by kernel_rfl, ?_⟩) hH ?_
  rotate_left
  · (intro W hSw; obtain ⟨k2, k3⟩ := hSw; go_simp; try with_reducible rfl)
  refine wpAnyH_take (i := 8) (v := ?_) rfl (by kernel_rfl) (by kernel_rfl) (by kernel_rfl) (fun _ _ _ h => h) (Or.inl ⟨by kernel_rfl, ?_⟩) hH ?_
  rotate_left
  · (intro W hSw; obtain ⟨k2, k3⟩ := hSw; go_simp; try with_reducible rfl)
  refine wpAnyH_take (i := 9) (v := ?_) rfl (by kernel_rfl) (by kernel_rfl) (by kernel_rfl) (fun _ _ _ h => h) (Or.inl ⟨by kernel_rfl, ?_⟩) hH ?_
  rotate_left
  · (intro W hSw; obtain ⟨k2, k3⟩ := hSw; go_simp; try with_reducible rfl)
  try simp only [Act.put, List.getElem_toArray, List.getElem_cons_zero, List.getElem_cons_succ, List.setIfInBounds_toArray, List.set_cons_zero, List.set_cons_succ]
  refine wpAnyH_take (i := 10) (v := ?_) rfl (by kernel_rfl) (by kernel_rfl) (by kernel_rfl) (fun _ _ _ h => h) (Or.inl ⟨by kernel_rfl, ?_⟩) hH ?_
  rotate_left
  · (intro W hSw; obtain ⟨k2, k3⟩ := hSw; go_simp; try with_reducible rfl)
  refine wpAnyH_take (i := 11) (v := ?_) rfl (by kernel_rfl) (by kernel_rfl) (by kernel_rfl) (fun _ _ _ h => h) (Or.inl ⟨by kernel_rfl, ?_⟩) hH ?_
  rotate_left
  · (intro W hSw; obtain ⟨k2, k3⟩ := hSw; go_simp; try with_reducible rfl)
  try simp only [Act.put, List.getElem_toArray, List.getElem_cons_zero, List.getElem_cons_succ, List.setIfInBounds_toArray, List.set_cons_zero, List.set_cons_succ]
  refine wpAnyH_ready (rs := [6]) (by kernel_rfl) (by simp) ?_
  refine AllReadyH.cons rfl (fun K hK => ?_) ?_
  · go_simp
    go_wp2_with (refine (HL.out).mono ?_; rintro e w2 ⟨rfl, hB2, f2⟩; have D2 := Lib.hid ((HD1.out.fr0 ((Fr.refl _ _).drew)).prog hB2 f2); have HR := Lib.hid (rstore_k w2 r s at_ D2.out.2.1 Hok.out v a0 a1 v0 v1 hlo hn64); have F2 := Lib.hid f2; clear hB2 f2)
    refine hK.out _ _ ?_ (fun hH => ?_)
    · exact ⟨F2.out.cell hH.1 hgl (fun e => e (.inr rfl)), F2.out.cell hH.2 hgl (fun e => e (.inr rfl))⟩
    clear hK K
    refine wpAnyH_ready (rs := [12]) (by kernel_rfl) (by simp) ?_
    refine AllReadyH.cons rfl (fun K hK => ?_) ?_
    · go_simp
      go_wp2_with (refine (HR.out).mono ?_; rintro e w3 hP; obtain ⟨K3, D3, hK3⟩ := D2.out.doc hP; obtain ⟨rfl, _, f3, _⟩ := hP; have HE := Lib.hid (Duo.fin (HF0.out.drew) F2.out f3 D3 hK3); have F3 := Lib.hid f3; clear D3 f3 hK3)
      refine hK.out _ _ ?_ (fun hH => ?_)
      · exact ⟨F3.out.cell hH.1 (Nat.lt_of_lt_of_le hgl F2.out.size) Hg.out, F3.out.cell hH.2 (Nat.lt_of_lt_of_le hgl F2.out.size) Hg.out⟩
      clear hK K
      refine wpAnyH_take (i := 13) (v := ?_) rfl (by kernel_rfl) (by kernel_rfl) (by kernel_rfl) (fun _ _ _ h => h) (Or.inl ⟨by kernel_rfl, ?_⟩) hH ?_
      rotate_left
      · (intro W hSw; obtain ⟨k2, k3⟩ := hSw; go_simp; try with_reducible rfl)
      refine wpAnyH_take (i := 14) (v := ?_) rfl (by kernel_rfl) (by kernel_rfl) (by kernel_rfl) (fun _ _ _ h => h) (Or.inl ⟨by kernel_rfl, ?_⟩) hH ?_
      rotate_left
      · (intro W hSw; obtain ⟨k2, k3⟩ := hSw; go_simp; try with_reducible rfl)
      refine wpAnyH_done (by kernel_rfl) ?_ _
      go_wp2_with fail
      go_ret
      exact HE.out
    exact AllReadyH.nil
  exact AllReadyH.nil
set_option maxRecDepth 100000 in
theorem do15_3 (w0 w : World) (K : Nat → Prop) (a : Ab) (r : Rr) (s : Sb) (h : Duo w0 w K a r s s) (hlo : s.outs.length ≤ 900000) (kd ln at_ v cnt : Int) (hk : kd = 3) (hln : (Lit.int .i64 ln).wf = true) (a0 : 0 ≤ at_) (a1 : at_ ≤ 4294967295) (v0 : 0 ≤ v) (v1 : v ≤ 4294967295) (n0 : 0 ≤ cnt) (n1 : cnt ≤ 18446744073709551615) (A : Option Addr) (n c : Nat) (zs : List Int) (hz : IntsAt .u8 w0 w0.heap.size A n zs) (hm : n ≤ maxLen) (hc : n ≤ c) :
    Calls Tryd.prog 26 #[.pointer (some ⟨a.gB, 0, none⟩), .pointer (some ⟨r.gR, 0, none⟩), .agg #[.int .i64 kd, .int .i64 ln, .int .u32 at_, .int .u32 v, .int .u64 cnt, .slice A n c]] w (DoPost w0 w K a r (s.tick (cnt % 1099511627776))) := by
  subst hk
  have f0 := (Fr.refl (fun _ => False) w).alloc (.cells #[.int .i64 3, .int .i64 ln, .int .u32 at_, .int .u32 v, .int .u64 cnt, .slice A n c] 57)
  have hx : Box (w.alloc (.cells #[.int .i64 3, .int .i64 ln, .int .u32 at_, .int .u32 v, .int .u64 cnt, .slice A n c] 57)) w.heap.size 3 ln at_ v cnt A n c := ⟨Blk.new _ _ _⟩
  have D1 := h.new f0 (Nat.le_refl _) hx.b.lt
  have Hlt := Lib.hid h.lt
  have hokS := h.1.ok
  have hn64 := h.n64
  have hcm : cnt.tmod 1099511627776 = cnt % 1099511627776 := Int.tmod_eq_emod_of_nonneg n0
  obtain ⟨q, hq⟩ : ∃ q, cnt % 1099511627776 = q := ⟨_, rfl⟩
  have q0 : 0 ≤ q := by omega
  have q1 : q ≤ 18446744073709551615 := by omega
  have zw := wf_i64 hln
  rw [hq] at hcm
  rw [hq]
  clear hq
  clear h
  go_enter Tryd.func26, Tryd.ntmps26
  go_upto_region 1 with (fail)
  generalize w.alloc (.cells #[.int .i64 3, .int .i64 ln, .int .u32 at_, .int .u32 v, .int .u64 cnt, .slice A n c] 57) = w1 at *
  generalize hg : w.heap.size = g at *
  have hgl := hx.b.lt
  have c0 := hx.c0
  have c1 := hx.c1
  have c2 := hx.c2
  have c3 := hx.c3
  have c4 := hx.c4
  have c5 := hx.c5
  have HD1 := Lib.hid D1
  have HX := Lib.hid hx
  have HF0 := Lib.hid f0
  have Hok := Lib.hid hokS
  have HZ := Lib.hid hz
  have Hg : Hid (¬ r.its g) := Lib.hid (fun e => by have := Hlt.out _ e; omega)
  clear D1 hx f0 hokS hz
  have HL := Lib.hid (tick_o HD1.out.1 q)
  go_wp2_with fail
  refine (HL.out).mono ?_
  rintro e w2 ⟨rfl, hB2, f2⟩
  have D2 := Lib.hid (HD1.out.prog hB2 f2)
  have HR := Lib.hid (rtick_k w2 r s D2.out.2.1 Hok.out q q0 q1)
  have F2 := Lib.hid f2
  clear HL hB2 c0 c1 c2 c3 c4 c5 f2
  go_wp2_with fail
  refine (HR.out).mono ?_
  rintro e w3 hP
  obtain ⟨K3, D3, hK3⟩ := D2.out.doc hP
  obtain ⟨rfl, _, f3, _⟩ := hP
  have HE := Lib.hid (Duo.fin HF0.out F2.out f3 D3 hK3)
  clear D3 f3 hK3
  go_wp2_with fail
  go_ret
  exact HE.out
set_option maxRecDepth 100000 in
theorem do15_4 (w0 w : World) (K : Nat → Prop) (a : Ab) (r : Rr) (s : Sb) (h : Duo w0 w K a r s s) (hlo : s.outs.length ≤ 900000) (kd ln at_ v cnt : Int) (hk : kd = 4) (hln : (Lit.int .i64 ln).wf = true) (a0 : 0 ≤ at_) (a1 : at_ ≤ 4294967295) (v0 : 0 ≤ v) (v1 : v ≤ 4294967295) (n0 : 0 ≤ cnt) (n1 : cnt ≤ 18446744073709551615) (A : Option Addr) (n c : Nat) (zs : List Int) (hz : IntsAt .u8 w0 w0.heap.size A n zs) (hm : n ≤ maxLen) (hc : n ≤ c) :
    Calls Tryd.prog 26 #[.pointer (some ⟨a.gB, 0, none⟩), .pointer (some ⟨r.gR, 0, none⟩), .agg #[.int .i64 kd, .int .i64 ln, .int .u32 at_, .int .u32 v, .int .u64 cnt, .slice A n c]] w (DoPost w0 w K a r (s.input (zs.take (min n 80)))) := by
  subst hk
  have f0 := (Fr.refl (fun _ => False) w).alloc (.cells #[.int .i64 4, .int .i64 ln, .int .u32 at_, .int .u32 v, .int .u64 cnt, .slice A n c] 57)
  have hx : Box (w.alloc (.cells #[.int .i64 4, .int .i64 ln, .int .u32 at_, .int .u32 v, .int .u64 cnt, .slice A n c] 57)) w.heap.size 4 ln at_ v cnt A n c := ⟨Blk.new _ _ _⟩
  have D1 := h.new f0 (Nat.le_refl _) hx.b.lt
  have Hlt := Lib.hid h.lt
  have hokS := h.1.ok
  have hn64 := h.n64
  have hcm : cnt.tmod 1099511627776 = cnt % 1099511627776 := Int.tmod_eq_emod_of_nonneg n0
  obtain ⟨q, hq⟩ : ∃ q, cnt % 1099511627776 = q := ⟨_, rfl⟩
  have q0 : 0 ≤ q := by omega
  have q1 : q ≤ 18446744073709551615 := by omega
  have zw := wf_i64 hln
  rw [hq] at hcm
  clear hq
  clear h
  go_enter Tryd.func26, Tryd.ntmps26
  go_upto_region 1 with (fail)
  generalize w.alloc (.cells #[.int .i64 4, .int .i64 ln, .int .u32 at_, .int .u32 v, .int .u64 cnt, .slice A n c] 57) = w1 at *
  generalize hg : w.heap.size = g at *
  have hgl := hx.b.lt
  have c0 := hx.c0
  have c1 := hx.c1
  have c2 := hx.c2
  have c3 := hx.c3
  have c4 := hx.c4
  have c5 := hx.c5
  have HD1 := Lib.hid D1
  have HX := Lib.hid hx
  have HF0 := Lib.hid f0
  have Hok := Lib.hid hokS
  have HZ := Lib.hid hz
  have Hg : Hid (¬ r.its g) := Lib.hid (fun e => by have := Hlt.out _ e; omega)
  clear D1 hx f0 hokS hz
  have Hcut : Hid (∀ W, Calls Tryd.prog 12 #[.slice A n c, .int .i64 80] W fun e w' => e = .returned (.slice A (min n 80) c) ∧ W = w') := fun W => cut_any W A n c 80 hm hc (by omega)
  have hz1 := (HZ.out.fr HD1.out.1.frame (Nat.le_refl _) (fun _ _ e => e)).take (show min n 80 ≤ n by omega)
  have hb0 : w0.heap.size ≤ w1.heap.size := HD1.out.1.frame.size
  have hk80 : min n 80 ≤ 80 := Nat.min_le_right _ _
  have hkc : min n 80 ≤ c := by omega
  have hmn : min n 80 ≤ n := Nat.min_le_left _ _
  generalize min n 80 = m at *
  have HL := Lib.hid (input_o HD1.out.1 w0.heap.size A m c (zs.take m) hz1 (by simp only [maxLen]; omega) hkc)
  have HZ1 := Lib.hid hz1
  have hf := Lib.hid (show s.fit m ≤ 64 from by unfold Sb.fit; omega)
  clear hz1
  go_wp2_with fail
  refine (Hcut.out _).mono ?_
  rintro e w' ⟨rfl, rfl⟩
  go_wp2_with fail
  refine (HL.out).mono ?_
  rintro e w2 ⟨rfl, hB2, f2⟩
  have D2 := Lib.hid (HD1.out.prog hB2 f2)
  have HR := Lib.hid (rinput_k w2 r s D2.out.2.1 Hok.out w0.heap.size A m c (zs.take m) ((HZ.out.fr D2.out.1.frame (Nat.le_refl _) (fun _ _ e => e)).take hmn) (by simp only [maxLen]; omega) hkc (Nat.le_trans hb0 f2.size))
  have F2 := Lib.hid f2
  clear HL hB2 c0 c1 c2 c3 c4 c5 f2
  go_wp2_with fail
  refine (HR.out).mono ?_
  rintro e w3 hP
  obtain ⟨K3, D3, hK3⟩ := D2.out.doc hP
  obtain ⟨rfl, _, f3, _⟩ := hP
  have HE := Lib.hid (Duo.fin HF0.out F2.out f3 D3 hK3)
  clear D3 f3 hK3
  go_wp2_with fail
  go_ret
  exact HE.out
set_option maxRecDepth 100000 in
theorem do15_5 (w0 w : World) (K : Nat → Prop) (a : Ab) (r : Rr) (s : Sb) (h : Duo w0 w K a r s s) (hlo : s.outs.length ≤ 900000) (kd ln at_ v cnt : Int) (hk : kd = 5) (hln : (Lit.int .i64 ln).wf = true) (a0 : 0 ≤ at_) (a1 : at_ ≤ 4294967295) (v0 : 0 ≤ v) (v1 : v ≤ 4294967295) (n0 : 0 ≤ cnt) (n1 : cnt ≤ 18446744073709551615) (A : Option Addr) (n c : Nat) (zs : List Int) (hz : IntsAt .u8 w0 w0.heap.size A n zs) (hm : n ≤ maxLen) (hc : n ≤ c) :
    Calls Tryd.prog 26 #[.pointer (some ⟨a.gB, 0, none⟩), .pointer (some ⟨r.gR, 0, none⟩), .agg #[.int .i64 kd, .int .i64 ln, .int .u32 at_, .int .u32 v, .int .u64 cnt, .slice A n c]] w (DoPost w0 w K a r (s.raiseL ln)) := by
  subst hk
  have f0 := (Fr.refl (fun _ => False) w).alloc (.cells #[.int .i64 5, .int .i64 ln, .int .u32 at_, .int .u32 v, .int .u64 cnt, .slice A n c] 57)
  have hx : Box (w.alloc (.cells #[.int .i64 5, .int .i64 ln, .int .u32 at_, .int .u32 v, .int .u64 cnt, .slice A n c] 57)) w.heap.size 5 ln at_ v cnt A n c := ⟨Blk.new _ _ _⟩
  have D1 := h.new f0 (Nat.le_refl _) hx.b.lt
  have Hlt := Lib.hid h.lt
  have hokS := h.1.ok
  have hn64 := h.n64
  have hcm : cnt.tmod 1099511627776 = cnt % 1099511627776 := Int.tmod_eq_emod_of_nonneg n0
  obtain ⟨q, hq⟩ : ∃ q, cnt % 1099511627776 = q := ⟨_, rfl⟩
  have q0 : 0 ≤ q := by omega
  have q1 : q ≤ 18446744073709551615 := by omega
  have zw := wf_i64 hln
  rw [hq] at hcm
  clear hq
  clear h
  go_enter Tryd.func26, Tryd.ntmps26
  go_upto_region 1 with (fail)
  generalize w.alloc (.cells #[.int .i64 5, .int .i64 ln, .int .u32 at_, .int .u32 v, .int .u64 cnt, .slice A n c] 57) = w1 at *
  generalize hg : w.heap.size = g at *
  have hgl := hx.b.lt
  have c0 := hx.c0
  have c1 := hx.c1
  have c2 := hx.c2
  have c3 := hx.c3
  have c4 := hx.c4
  have c5 := hx.c5
  have HD1 := Lib.hid D1
  have HX := Lib.hid hx
  have HF0 := Lib.hid f0
  have Hok := Lib.hid hokS
  have HZ := Lib.hid hz
  have Hg : Hid (¬ r.its g) := Lib.hid (fun e => by have := Hlt.out _ e; omega)
  clear D1 hx f0 hokS hz
  obtain ⟨b0, _⟩ := HD1.out.1.cells
  have HL := Lib.hid (raiseL_o (HD1.out.fr0 ((Fr.refl _ _).drew)).1 ln hln)
  have hS1 : S17 g a.gB a.gc ln w1.drew := ⟨c1, b0⟩
  have HBl : Hid (a.gB < w1.heap.size) := Lib.hid (by obtain ⟨F, h1, _⟩ := HD1.out.1; exact h1.b.lt)
  rcases (show ln < 0 ∨ (0 ≤ ln ∧ ln < 8) ∨ 8 ≤ ln by omega) with hl | ⟨l0, l1⟩ | hl
  · have e1 : okL ln = false := by simp [okL]; omega
    have e2 : s.raiseL ln = s := by rw [Sb.raiseL, e1, if_neg (by simp)]
    rw [e1] at HL
    rw [e2] at HL
    have E2 := Lib.hid e2
    have e3 : decide (0 ≤ ln) = false := by simpa using hl
    clear e1 e2
    go_upto_region 17 with (fail)
    clear c0 c1 c2 c3 c4 c5 b0
    refine wp_region_held_drew (S := S17 g a.gB a.gc ln) (by kernel_rfl) (hS1) (fun hH => ?_)
    refine wpAnyH_take (i := 0) (v := ?_) rfl (by kernel_rfl) (by kernel_rfl) (by kernel_rfl) (fun _ _ _ h => h) (Or.inl ⟨by kernel_rfl, ?_⟩) hH ?_
    rotate_left
    · (intro W hSw; obtain ⟨k1, k0⟩ := hSw; go_simp; try with_reducible rfl)
    refine wpAnyH_take (i := 1) (v := ?_) rfl (by kernel_rfl) (by kernel_rfl) (by kernel_rfl) (fun _ _ _ h => h) (Or.inl ⟨by kernel_rfl, ?_⟩) hH ?_
    rotate_left
    · (intro W hSw; obtain ⟨k1, k0⟩ := hSw; go_simp; try with_reducible rfl)
    refine wpAnyH_take (i := 2) (v := ?_) rfl (by kernel_rfl) (by kernel_rfl) (by kernel_rfl) (fun _ _ _ h => h) (Or.inl ⟨by kernel_rfl, ?_⟩) hH ?_
    rotate_left
    · (intro W hSw; obtain ⟨k1, k0⟩ := hSw; go_simp; try with_reducible rfl)
    try simp only [Act.put, List.getElem_toArray, List.getElem_cons_zero, List.getElem_cons_succ, List.setIfInBounds_toArray, List.set_cons_zero, List.set_cons_succ]
    refine wpAnyH_take (i := 3) (v := ?_) rfl (by kernel_rfl) (by kernel_rfl) (by kernel_rfl) (fun _ _ _ h => h) (Or.inl ⟨by kernel_rfl, ?_⟩) hH ?_
    rotate_left
    · (intro W hSw; obtain ⟨k1, k0⟩ := hSw; go_simp; try with_reducible rfl)
    refine wpAnyH_take (i := 4) (v := ?_) rfl (by kernel_rfl) (by kernel_rfl) (by kernel_rfl) (fun _ _ _ h => h) (Or.inl ⟨by kernel_rfl, ?_⟩) hH ?_
    rotate_left
    · (intro W hSw; obtain ⟨k1, k0⟩ := hSw; go_simp; try with_reducible rfl)
    refine wpAnyH_take (i := 5) (v := ?_) rfl (by kernel_rfl) (by kernel_rfl) (by kernel_rfl) (fun _ _ _ h => h) (Or.inl ⟨by kernel_rfl, ?_⟩) hH ?_
    rotate_left
    · (intro W hSw; obtain ⟨k1, k0⟩ := hSw; go_simp; try with_reducible rfl)
    try simp only [Act.put, List.getElem_toArray, List.getElem_cons_zero, List.getElem_cons_succ, List.setIfInBounds_toArray, List.set_cons_zero, List.set_cons_succ]
    refine wpAnyH_take (i := 8) (v := ?_) rfl (by kernel_rfl) (by kernel_rfl) (by kernel_rfl) (fun _ _ _ h => h) (Or.inl ⟨by kernel_rfl, ?_⟩) hH ?_
    rotate_left
    · (intro W hSw; obtain ⟨k1, k0⟩ := hSw; go_simp; try with_reducible rfl)
    try simp only [Act.put, List.getElem_toArray, List.getElem_cons_zero, List.getElem_cons_succ, List.setIfInBounds_toArray, List.set_cons_zero, List.set_cons_succ]
    refine wpAnyH_ready (rs := [6]) (by kernel_rfl) (by simp) ?_
    refine AllReadyH.cons rfl (fun K hK => ?_) ?_
    · go_simp
      refine hK.out _ _ ?_ (fun hH => ?_)
      · exact ⟨((Fr.refl (fun _ => False) _).alloc _).cell hH.1 hgl (fun e => e), ((Fr.refl (fun _ => False) _).alloc _).cell hH.2 HBl.out (fun e => e)⟩
      clear hK K
      refine wpAnyH_ready (rs := [7]) (by kernel_rfl) (by simp) ?_
      refine AllReadyH.cons rfl (fun K hK => ?_) ?_
      · go_simp
        go_wp2_with (refine (HL.out).mono ?_; rintro e w2 ⟨rfl, hB2, f2⟩; have D2 := Lib.hid ((HD1.out.fr0 ((Fr.refl _ _).drew)).prog hB2 f2); have F2 := Lib.hid f2; clear hB2 f2)
        refine hK.out _ _ ?_ (fun hH => ?_)
        · exact ⟨F2.out.cell hS1.1 hgl (fun e => e (.inr rfl)), D2.out.1.cells.1⟩
        clear hK K
        refine wpAnyH_take (i := 9) (v := ?_) rfl (by kernel_rfl) (by kernel_rfl) (by kernel_rfl) (fun _ _ _ h => h) (Or.inl ⟨by kernel_rfl, ?_⟩) hH ?_
        rotate_left
        · (intro W hSw; obtain ⟨k1, k0⟩ := hSw; go_simp; try with_reducible rfl)
        refine wpAnyH_done (by kernel_rfl) ?_ _
        go_wp2_with fail
        go_ret
        rw [E2.out]
        exact Duo.fin (HF0.out.drew) F2.out (Fr.refl _ _) D2.out (fun _ e => e)
      exact AllReadyH.nil
    exact AllReadyH.nil
  · have e1 : okL ln = true := by simp [okL]; omega
    rw [e1] at HL
    have e3 : decide (0 ≤ ln) = true := by simpa using l0
    have e4 : decide (ln < 8) = true := by simpa using l1
    have hpw : (2 : Int) ^ ln.toNat % 4294967296 = ((2 ^ ln.toNat : Nat) : Int) := by
      have : ln.toNat < 8 := by omega
      generalize ln.toNat = q at *
      match q, this with
      | 0, _ | 1, _ | 2, _ | 3, _ | 4, _ | 5, _ | 6, _ | 7, _ => rfl
    have hpl : 2 ^ ln.toNat < 4294967296 := Nat.lt_trans (Nat.pow_lt_pow_right (a := 2) (by omega) (show ln.toNat < 8 by omega)) (by omega)
    have hbo : bits .or .u32 (s.p : Int) ((2 : Int) ^ ln.toNat % 4294967296) = ((s.p ||| 2 ^ ln.toNat : Nat) : Int) := by
      rw [hpw]
      exact u32_or_nat _ _ (by have := Hok.out.p; omega) hpl
    have E2 : Hid (s.raiseL ln = { s with p := s.p ||| 2 ^ ln.toNat }) := Lib.hid (by rw [Sb.raiseL, e1, if_pos rfl])
    have hmin : min ln.toNat 32 = ln.toNat := by omega
    clear e1 hpw hpl
    generalize s.p ||| 2 ^ ln.toNat = np at *
    go_upto_region 17 with (fail)
    clear c0 c2 c3 c4 c5 b0
    refine wp_region_held_drew (S := S17 g a.gB a.gc ln) (by kernel_rfl) (hS1) (fun hH => ?_)
    refine wpAnyH_take (i := 0) (v := ?_) rfl (by kernel_rfl) (by kernel_rfl) (by kernel_rfl) (fun _ _ _ h => h) (Or.inl ⟨by kernel_rfl, ?_⟩) hH ?_
    rotate_left
    · (intro W hSw; obtain ⟨k1, k0⟩ := hSw; go_simp; try with_reducible rfl)
    refine wpAnyH_take (i := 1) (v := ?_) rfl (by kernel_rfl) (by kernel_rfl) (by kernel_rfl) (fun _ _ _ h => h) (Or.inl ⟨by kernel_rfl, ?_⟩) hH ?_
    rotate_left
    · (intro W hSw; obtain ⟨k1, k0⟩ := hSw; go_simp; try with_reducible rfl)
    refine wpAnyH_take (i := 2) (v := ?_) rfl (by kernel_rfl) (by kernel_rfl) (by kernel_rfl) (fun _ _ _ h => h) (Or.inl ⟨by kernel_rfl, ?_⟩) hH ?_
    rotate_left
    · (intro W hSw; obtain ⟨k1, k0⟩ := hSw; go_simp; try with_reducible rfl)
    try simp only [Act.put, List.getElem_toArray, List.getElem_cons_zero, List.getElem_cons_succ, List.setIfInBounds_toArray, List.set_cons_zero, List.set_cons_succ]
    refine wpAnyH_take (i := 3) (v := ?_) rfl (by kernel_rfl) (by kernel_rfl) (by kernel_rfl) (fun _ _ _ h => h) (Or.inl ⟨by kernel_rfl, ?_⟩) hH ?_
    rotate_left
    · (intro W hSw; obtain ⟨k1, k0⟩ := hSw; go_simp; try with_reducible rfl)
    refine wpAnyH_take (i := 4) (v := ?_) rfl (by kernel_rfl) (by kernel_rfl) (by kernel_rfl) (fun _ _ _ h => h) (Or.inl ⟨by kernel_rfl, ?_⟩) hH ?_
    rotate_left
    · (intro W hSw; obtain ⟨k1, k0⟩ := hSw; go_simp; try with_reducible rfl)
    refine wpAnyH_take (i := 5) (v := ?_) rfl (by kernel_rfl) (by kernel_rfl) (by kernel_rfl) (fun _ _ _ h => h) (Or.inl ⟨by kernel_rfl, ?_⟩) hH ?_
    rotate_left
    · (intro W hSw; obtain ⟨k1, k0⟩ := hSw; go_simp; try with_reducible rfl)
    try simp only [Act.put, List.getElem_toArray, List.getElem_cons_zero, List.getElem_cons_succ, List.setIfInBounds_toArray, List.set_cons_zero, List.set_cons_succ]
    refine wpAnyH_take (i := 8) (v := ?_) rfl (by kernel_rfl) (by kernel_rfl) (by kernel_rfl) (fun _ _ _ h => h) (Or.inl ⟨by kernel_rfl, ?_⟩) hH ?_
    rotate_left
    · (intro W hSw; obtain ⟨k1, k0⟩ := hSw; go_simp; try with_reducible rfl)
    try simp only [Act.put, List.getElem_toArray, List.getElem_cons_zero, List.getElem_cons_succ, List.setIfInBounds_toArray, List.set_cons_zero, List.set_cons_succ]
    refine wpAnyH_ready (rs := [6]) (by kernel_rfl) (by simp) ?_
    refine AllReadyH.cons rfl (fun K hK => ?_) ?_
    · go_simp
      refine hK.out _ _ ?_ (fun hH => ?_)
      · exact ⟨((Fr.refl (fun _ => False) _).alloc _).cell hH.1 hgl (fun e => e), ((Fr.refl (fun _ => False) _).alloc _).cell hH.2 HBl.out (fun e => e)⟩
      clear hK K
      refine wpAnyH_ready (rs := [7]) (by kernel_rfl) (by simp) ?_
      refine AllReadyH.cons rfl (fun K hK => ?_) ?_
      · go_simp
        go_wp2_with (refine (HL.out).mono ?_; rintro e w2 ⟨rfl, hB2, f2⟩; have D2 := Lib.hid ((HD1.out.fr0 ((Fr.refl _ _).drew)).prog hB2 f2); have F2 := Lib.hid f2; clear hB2 f2)
        refine hK.out _ _ ?_ (fun hH => ?_)
        · exact ⟨F2.out.cell hS1.1 hgl (fun e => e (.inr rfl)), D2.out.1.cells.1⟩
        clear hK K
        refine wpAnyH_take (i := 9) (v := ?_) rfl (by kernel_rfl) (by kernel_rfl) (by kernel_rfl) (fun _ _ _ h => h) (Or.inl ⟨by kernel_rfl, ?_⟩) hH ?_
        rotate_left
        · (intro W hSw; obtain ⟨k1, k0⟩ := hSw; go_simp; try with_reducible rfl)
        refine wpAnyH_done (by kernel_rfl) ?_ _
        obtain ⟨vo, vi, hb, _, _⟩ := D2.out.2.1.b
        have z1 := hb.frozen 1
        have y1 : w2.cell? ⟨r.gR, 1, none⟩ = some (.int .u32 (s.p : Int)) := hb.cell 1
        have x1 := hH.1
        have HP := Lib.hid ((RPost.drew (v := .bool true) D2.out.2.1).andThen ((RPost.drew (v := .bool true) D2.out.2.1).2.1.set1 (s' := { s with p := np }) 1 (.int .u32 (np : Int)) (.bool true) (fun _ _ => rfl) rfl rfl rfl rfl))
        clear hb hH c1
        go_upto_region 20 with (fail)
        go_still_tail 12, (by kernel_rfl)
        change wpList _ _ _ _ _ w2.drew
        go_wp2_with fail
        go_ret
        rw [hmin, hbo]
        have D2 := D2.out
        rw [E2.out] at D2 ⊢
        obtain ⟨K3, D3, hK3⟩ := D2.doc HP.out
        exact Duo.fin (HF0.out.drew) F2.out HP.out.2.2.1 D3 hK3
      exact AllReadyH.nil
    exact AllReadyH.nil
  · have e1 : okL ln = false := by simp [okL]; omega
    have e2 : s.raiseL ln = s := by rw [Sb.raiseL, e1, if_neg (by simp)]
    rw [e1] at HL
    rw [e2] at HL
    have E2 := Lib.hid e2
    have e3 : decide (0 ≤ ln) = true := by simp; omega
    have e4 : decide (ln < 8) = false := by simpa using hl
    clear e1 e2
    go_upto_region 17 with (fail)
    clear c0 c1 c2 c3 c4 c5 b0
    refine wp_region_held_drew (S := S17 g a.gB a.gc ln) (by kernel_rfl) (hS1) (fun hH => ?_)
    refine wpAnyH_take (i := 0) (v := ?_) rfl (by kernel_rfl) (by kernel_rfl) (by kernel_rfl) (fun _ _ _ h => h) (Or.inl ⟨by kernel_rfl, ?_⟩) hH ?_
    rotate_left
    · (intro W hSw; obtain ⟨k1, k0⟩ := hSw; go_simp; try with_reducible rfl)
    refine wpAnyH_take (i := 1) (v := ?_) rfl (by kernel_rfl) (by kernel_rfl) (by kernel_rfl) (fun _ _ _ h => h) (Or.inl ⟨by kernel_rfl, ?_⟩) hH ?_
    rotate_left
    · (intro W hSw; obtain ⟨k1, k0⟩ := hSw; go_simp; try with_reducible rfl)
    refine wpAnyH_take (i := 2) (v := ?_) rfl (by kernel_rfl) (by kernel_rfl) (by kernel_rfl) (fun _ _ _ h => h) (Or.inl ⟨by kernel_rfl, ?_⟩) hH ?_
    rotate_left
    · (intro W hSw; obtain ⟨k1, k0⟩ := hSw; go_simp; try with_reducible rfl)
    try simp only [Act.put, List.getElem_toArray, List.getElem_cons_zero, List.getElem_cons_succ, List.setIfInBounds_toArray, List.set_cons_zero, List.set_cons_succ]
    refine wpAnyH_take (i := 3) (v := ?_) rfl (by kernel_rfl) (by kernel_rfl) (by kernel_rfl) (fun _ _ _ h => h) (Or.inl ⟨by kernel_rfl, ?_⟩) hH ?_
    rotate_left
    · (intro W hSw; obtain ⟨k1, k0⟩ := hSw; go_simp; try with_reducible rfl)
    refine wpAnyH_take (i := 4) (v := ?_) rfl (by kernel_rfl) (by kernel_rfl) (by kernel_rfl) (fun _ _ _ h => h) (Or.inl ⟨by kernel_rfl, ?_⟩) hH ?_
    rotate_left
    · (intro W hSw; obtain ⟨k1, k0⟩ := hSw; go_simp; try with_reducible rfl)
    refine wpAnyH_take (i := 5) (v := ?_) rfl (by kernel_rfl) (by kernel_rfl) (by kernel_rfl) (fun _ _ _ h => h) (Or.inl ⟨by kernel_rfl, ?_⟩) hH ?_
    rotate_left
    · (intro W hSw; obtain ⟨k1, k0⟩ := hSw; go_simp; try with_reducible rfl)
    try simp only [Act.put, List.getElem_toArray, List.getElem_cons_zero, List.getElem_cons_succ, List.setIfInBounds_toArray, List.set_cons_zero, List.set_cons_succ]
    refine wpAnyH_take (i := 8) (v := ?_) rfl (by kernel_rfl) (by kernel_rfl) (by kernel_rfl) (fun _ _ _ h => h) (Or.inl ⟨by kernel_rfl, ?_⟩) hH ?_
    rotate_left
    · (intro W hSw; obtain ⟨k1, k0⟩ := hSw; go_simp; try with_reducible rfl)
    try simp only [Act.put, List.getElem_toArray, List.getElem_cons_zero, List.getElem_cons_succ, List.setIfInBounds_toArray, List.set_cons_zero, List.set_cons_succ]
    refine wpAnyH_ready (rs := [6]) (by kernel_rfl) (by simp) ?_
    refine AllReadyH.cons rfl (fun K hK => ?_) ?_
    · go_simp
      refine hK.out _ _ ?_ (fun hH => ?_)
      · exact ⟨((Fr.refl (fun _ => False) _).alloc _).cell hH.1 hgl (fun e => e), ((Fr.refl (fun _ => False) _).alloc _).cell hH.2 HBl.out (fun e => e)⟩
      clear hK K
      refine wpAnyH_ready (rs := [7]) (by kernel_rfl) (by simp) ?_
      refine AllReadyH.cons rfl (fun K hK => ?_) ?_
      · go_simp
        go_wp2_with (refine (HL.out).mono ?_; rintro e w2 ⟨rfl, hB2, f2⟩; have D2 := Lib.hid ((HD1.out.fr0 ((Fr.refl _ _).drew)).prog hB2 f2); have F2 := Lib.hid f2; clear hB2 f2)
        refine hK.out _ _ ?_ (fun hH => ?_)
        · exact ⟨F2.out.cell hS1.1 hgl (fun e => e (.inr rfl)), D2.out.1.cells.1⟩
        clear hK K
        refine wpAnyH_take (i := 9) (v := ?_) rfl (by kernel_rfl) (by kernel_rfl) (by kernel_rfl) (fun _ _ _ h => h) (Or.inl ⟨by kernel_rfl, ?_⟩) hH ?_
        rotate_left
        · (intro W hSw; obtain ⟨k1, k0⟩ := hSw; go_simp; try with_reducible rfl)
        refine wpAnyH_done (by kernel_rfl) ?_ _
        go_wp2_with fail
        go_ret
        rw [E2.out]
        exact Duo.fin (HF0.out.drew) F2.out (Fr.refl _ _) D2.out (fun _ e => e)
      exact AllReadyH.nil
    exact AllReadyH.nil
end Go.Proofs.YthiephlfhbkcbaaDoor.Bs
namespace Go.Proofs.YthiephlfhbkcbaaDoor.busNumbers
open Go.RowKit Fm Nt Rm By Dr Rf Bs
set_option linter.unusedVariables false
set_option linter.unusedSimpArgs false
set_option maxHeartbeats 4000000

set_option maxRecDepth 100000 in
theorem do15_4k (w0 w : World) (K : Nat → Prop) (a : Ab) (r : Rr) (s : Sb) (h : Duo w0 w K a r s s) (hlo : s.outs.length ≤ 900000) (kd ln at_ v cnt : Int) (hk : kd = 4) (hln : (Lit.int .i64 ln).wf = true) (a0 : 0 ≤ at_) (a1 : at_ ≤ 4294967295) (v0 : 0 ≤ v) (v1 : v ≤ 4294967295) (n0 : 0 ≤ cnt) (n1 : cnt ≤ 18446744073709551615) (A : Option Addr) (n c : Nat) (zs : List Int) (hz : IntsAt .u8 w w.heap.size A n zs) (hAK : 0 < n → ∀ b off, A = some ⟨b, off, none⟩ → K b) (hm : n ≤ maxLen) (hc : n ≤ c) :
    Calls Tryd.prog 26 #[.pointer (some ⟨a.gB, 0, none⟩), .pointer (some ⟨r.gR, 0, none⟩), .agg #[.int .i64 kd, .int .i64 ln, .int .u32 at_, .int .u32 v, .int .u64 cnt, .slice A n c]] w (DoPost w0 w K a r (s.input (zs.take (min n 80)))) := by
  subst hk
  have f0 := (Fr.refl (fun _ => False) w).alloc (.cells #[.int .i64 4, .int .i64 ln, .int .u32 at_, .int .u32 v, .int .u64 cnt, .slice A n c] 57)
  have hx : Box (w.alloc (.cells #[.int .i64 4, .int .i64 ln, .int .u32 at_, .int .u32 v, .int .u64 cnt, .slice A n c] 57)) w.heap.size 4 ln at_ v cnt A n c := ⟨Blk.new _ _ _⟩
  have D1 := h.new f0 (Nat.le_refl _) hx.b.lt
  have Hlt := Lib.hid h.lt
  have hokS := h.1.ok
  have hn64 := h.n64
  have hcm : cnt.tmod 1099511627776 = cnt % 1099511627776 := Int.tmod_eq_emod_of_nonneg n0
  obtain ⟨q, hq⟩ : ∃ q, cnt % 1099511627776 = q := ⟨_, rfl⟩
  have q0 : 0 ≤ q := by omega
  have q1 : q ≤ 18446744073709551615 := by omega
  have zw := wf_i64 hln
  rw [hq] at hcm
  clear hq
  clear h
  go_enter Tryd.func26, Tryd.ntmps26
  go_upto_region 1 with (fail)
  generalize w.alloc (.cells #[.int .i64 4, .int .i64 ln, .int .u32 at_, .int .u32 v, .int .u64 cnt, .slice A n c] 57) = w1 at *
  generalize hg : w.heap.size = g at *
  have hgl := hx.b.lt
  have c0 := hx.c0
  have c1 := hx.c1
  have c2 := hx.c2
  have c3 := hx.c3
  have c4 := hx.c4
  have c5 := hx.c5
  have HD1 := Lib.hid D1
  have HX := Lib.hid hx
  have HF0 := Lib.hid f0
  have Hok := Lib.hid hokS
  have HZ := Lib.hid hz
  have HAK := Lib.hid hAK
  have Hg : Hid (¬ r.its g) := Lib.hid (fun e => by have := Hlt.out _ e; omega)
  clear D1 hx f0 hokS hz hAK
  have Hcut : Hid (∀ W, Calls Tryd.prog 12 #[.slice A n c, .int .i64 80] W fun e w' => e = .returned (.slice A (min n 80) c) ∧ W = w') := fun W => cut_any W A n c 80 hm hc (by omega)
  have hz1 := (HZ.out.fr HF0.out (Nat.le_of_eq hg.symm) (fun _ _ e => e)).take (show min n 80 ≤ n by omega)
  have hb0 : g ≤ w1.heap.size := by omega
  have hk80 : min n 80 ≤ 80 := Nat.min_le_right _ _
  have hkc : min n 80 ≤ c := by omega
  have hmn : min n 80 ≤ n := Nat.min_le_left _ _
  generalize min n 80 = m at *
  have HL := Lib.hid (input_o HD1.out.1 g A m c (zs.take m) hz1 (by simp only [maxLen]; omega) hkc)
  have HZ1 := Lib.hid hz1
  have hf := Lib.hid (show s.fit m ≤ 64 from by unfold Sb.fit; omega)
  clear hz1
  go_wp2_with fail
  refine (Hcut.out _).mono ?_
  rintro e w' ⟨rfl, rfl⟩
  go_wp2_with fail
  refine (HL.out).mono ?_
  rintro e w2 ⟨rfl, hB2, f2⟩
  have D2 := Lib.hid (HD1.out.prog hB2 f2)
  have HR := Lib.hid (rinput_k w2 r s D2.out.2.1 Hok.out g A m c (zs.take m) (ints_own HZ1.out f2 hb0 (fun hn b off e e2 => e2 (.inl (HAK.out (by omega) b off e)))) (by simp only [maxLen]; omega) hkc (Nat.le_trans hb0 f2.size))
  have F2 := Lib.hid f2
  clear HL hB2 c0 c1 c2 c3 c4 c5 f2
  go_wp2_with fail
  refine (HR.out).mono ?_
  rintro e w3 hP
  obtain ⟨K3, D3, hK3⟩ := D2.out.doc hP
  obtain ⟨rfl, _, f3, _⟩ := hP
  have HE := Lib.hid (Duo.fin HF0.out F2.out f3 D3 hK3)
  clear D3 f3 hK3
  go_wp2_with fail
  go_ret
  exact HE.out
/-- what one call leaves, of any kind -/
def DoR (w0 w : World) (K : Nat → Prop) (a : Ab) (r : Rr) (s : Sb) (e : Ending) (w' : World) : Prop :=
  e = .returned (.bool true) ∧ ∃ s' K', Duo w0 w' K' a r s' s' ∧ (∀ k, K k → K' k) ∧ Fr (fun k => ¬ K k ∨ r.its k) w w' ∧ s'.outs.length ≤ s.outs.length + 1
theorem tick_outs (s : Sb) (n : Int) : (s.tick n).outs = s.outs := by
  unfold Sb.tick
  split <;> rfl
theorem raiseL_outs (s : Sb) (n : Int) : (s.raiseL n).outs = s.outs := by
  unfold Sb.raiseL
  split <;> rfl
theorem doPost_r {w0 w w' : World} {K : Nat → Prop} {a : Ab} {r : Rr} {s s' : Sb} {e : Ending} (h : DoPost w0 w K a r s' e w') (hl : s'.outs.length ≤ s.outs.length + 1) : DoR w0 w K a r s e w' := by
  obtain ⟨rfl, K', h1, h2, h3⟩ := h
  exact ⟨rfl, s', K', h1, h2, h3, hl⟩
theorem do15_any (w0 w : World) (K : Nat → Prop) (a : Ab) (r : Rr) (s : Sb) (h : Duo w0 w K a r s s) (hlo : s.outs.length ≤ 900000) (kd ln at_ v cnt : Int) (hln : (Lit.int .i64 ln).wf = true) (a0 : 0 ≤ at_) (a1 : at_ ≤ 4294967295) (v0 : 0 ≤ v) (v1 : v ≤ 4294967295) (n0 : 0 ≤ cnt) (n1 : cnt ≤ 18446744073709551615) (A : Option Addr) (n c : Nat) (zs : List Int) (hz : IntsAt .u8 w0 w0.heap.size A n zs) (hm : n ≤ maxLen) (hc : n ≤ c) :
    Calls Tryd.prog 26 #[.pointer (some ⟨a.gB, 0, none⟩), .pointer (some ⟨r.gR, 0, none⟩), .agg #[.int .i64 kd, .int .i64 ln, .int .u32 at_, .int .u32 v, .int .u64 cnt, .slice A n c]] w (DoR w0 w K a r s) := by
  by_cases h1 : kd = 1
  · exact (do15_1 w0 w K a r s h hlo kd ln at_ v cnt h1 hln a0 a1 v0 v1 n0 n1 A n c zs hz hm hc).mono fun e w' hp => doPost_r hp (by rw [read_outs]; omega)
  by_cases h2 : kd = 2
  · exact (do15_2 w0 w K a r s h hlo kd ln at_ v cnt h2 hln a0 a1 v0 v1 n0 n1 A n c zs hz hm hc).mono fun e w' hp => doPost_r hp (store_outs s at_ v)
  by_cases h3 : kd = 3
  · exact (do15_3 w0 w K a r s h hlo kd ln at_ v cnt h3 hln a0 a1 v0 v1 n0 n1 A n c zs hz hm hc).mono fun e w' hp => doPost_r hp (by rw [tick_outs]; omega)
  by_cases h4 : kd = 4
  · exact (do15_4 w0 w K a r s h hlo kd ln at_ v cnt h4 hln a0 a1 v0 v1 n0 n1 A n c zs hz hm hc).mono fun e w' hp => doPost_r hp (by show s.outs.length ≤ _; omega)
  by_cases h5 : kd = 5
  · exact (do15_5 w0 w K a r s h hlo kd ln at_ v cnt h5 hln a0 a1 v0 v1 n0 n1 A n c zs hz hm hc).mono fun e w' hp => doPost_r hp (by rw [raiseL_outs]; omega)
  exact (do15_0 w0 w K a r s h hlo kd ln at_ v cnt ⟨h1, h2, h3, h4, h5⟩ hln a0 a1 v0 v1 n0 n1 A n c zs hz hm hc).mono fun e w' hp => doPost_r hp (by omega)
theorem bo_duo {w w' : World} {yl zl : List Int} {e : Ending} (h : Both15 w yl zl e w') : ∃ (a : Ab) (r : Rr) (K : Nat → Prop) (s : Sb), e = .returned (.tuple #[.pointer (some ⟨a.gB, 0, none⟩), .pointer (some ⟨r.gR, 0, none⟩), .pointer (some ⟨a.am.gm, 0, none⟩)]) ∧ Duo w w' K a r s s ∧ s.outs = [] := by
  obtain ⟨a, F, r, rfl, hB, hD, hbl, hri, hsep, f⟩ := h
  have hl := hD.its_lt
  have hBO : BO w w' (fun k => r.its k) a (Sb.new (Ms.init 4 yl) zl) := ⟨F, hB, fun k hk => ⟨hbl k hk, hsep k hk⟩, f, hl⟩
  refine ⟨a, r, fun k => r.its k, Sb.new (Ms.init 4 yl) zl, rfl, ⟨hBO, hD, fun k hk => ⟨hk, hri k hk⟩, fun k hk => ?_⟩, rfl⟩
  obtain ⟨vo, vi, hb, ho, hi⟩ := hD.b
  exfalso
  obtain ⟨v, hv, off, n, c, e, hn⟩ := hk
  have hz : ∀ v2, RowAt w' r v2 [] → v = v2 → False := fun v2 h2 e2 => by
    obtain ⟨A, n2, c2, e3, h3, _⟩ := h2
    rw [← e2, e] at e3
    injection e3 with _ e4 _
    have := h3.1
    simp at this
    omega
  rcases hv with hv | hv
  · have h4 : w'.cell? ⟨r.gR, 4, none⟩ = some vo := hb.cell 4
    rw [h4] at hv
    injection hv with hv
    exact hz vo ho hv.symm
  · have h5 : w'.cell? ⟨r.gR, 5, none⟩ = some vi := hb.cell 5
    rw [h5] at hv
    injection hv with hv
    exact hz vi hi hv.symm

theorem lit_fz {k : IntKind} {w : World} {t : TypeId} {zs : List Int} {N : Nat} {cs : Array Value} (fz : Nat × Nat) (hc : cs = (zs.map (Value.int k)).toArray) (hl : zs.length = N) (hw : ∀ z ∈ zs, (Lit.int k z).wf = true) : IntsAt k (w.alloc (.cells cs t fz)) (w.heap.size + 1) (some ⟨w.heap.size, 0, none⟩) N zs := by
  subst hl hc
  refine ⟨rfl, fun i hi => ?_, fun _ => ⟨w.heap.size, 0, rfl, by omega, fun i hi => ?_⟩⟩
  · rw [List.getD_eq_getElem?_getD, List.getElem?_eq_getElem hi]
    exact hw _ (List.getElem_mem hi)
  · have : (w.alloc (.cells (zs.map (Value.int k)).toArray t fz)).heap[w.heap.size]? = some (.cells (zs.map (Value.int k)).toArray t fz) := by
      show (w.heap.push _)[w.heap.size]? = _
      simp
    unfold World.cell?
    dsimp only
    rw [this]
    simp [hi, List.getD_eq_getElem?_getD]
def LD : List Int := [100, 105, 115, 107]
def cD : Array Value := #[.int .u8 100, .int .u8 105, .int .u8 115, .int .u8 107]
def LR : List Int := [114, 97, 109]
def cR : Array Value := #[.int .u8 114, .int .u8 97, .int .u8 109]

theorem new_nil (w : World) : Calls Tryd.prog 27 #[.pointer none, .slice none 0 0] w fun e w' => e = .returned (.tuple #[.pointer none, .int .i64 1]) ∧ w = w' := by
  go_enter Tryd.func27, Tryd.ntmps27
  go_wp2_with fail
  go_ret2
  exact ⟨rfl, rfl⟩
theorem drive_long (w : World) (A : Option Addr) (cap : Nat) : Calls Tryd.prog 45 #[.slice A 1025 cap] w fun e w' => e = .returned (.tuple #[.pointer none, .int .i64 3]) ∧ w = w' := by
  go_enter Tryd.func45, Tryd.ntmps45
  go_wp2_with fail
  go_ret2
  exact ⟨rfl, rfl⟩
theorem new_long (w : World) (g : Nat) (A : Option Addr) (cap : Nat) : Calls Tryd.prog 27 #[.pointer (some ⟨g, 0, none⟩), .slice A 1025 cap] w fun e w' => e = .returned (.tuple #[.pointer none, .int .i64 3]) ∧ w = w' := by
  go_enter Tryd.func27, Tryd.ntmps27
  go_wp2_with fail
  refine (drive_long w A cap).mono ?_
  rintro e w' ⟨rfl, rfl⟩
  go_wp2_with fail
  go_ret2
  exact ⟨rfl, rfl⟩
theorem one_ints (w : World) (z : Int) (h0 : 0 ≤ z) (h1 : z < 256) : IntsAt .u8 (w.alloc (.cells #[.int .u8 z] 5)) (w.alloc (.cells #[.int .u8 z] 5)).heap.size (some ⟨w.heap.size, 0, none⟩) 1 [z] :=
  (intsAt_lit [z] (Blk.new w 5 #[.int .u8 z]) (fun i hi => by
    have : i = 0 := by simpa using hi
    subst this
    exact wf_u8_mk (n := z) h0 (by omega))).more (by simp)
set_option maxRecDepth 100000 in
theorem walk (w : World) (hT : Iq.Tab w) : Calls Tryd.prog 5 #[] w fun e w' => e = .returned (.bool true) ∧ Fr (fun _ => False) w w' := by
  have fa : Fr (fun _ => False) w (w.alloc (.cells cD 5 (4, 5))) := (Fr.refl _ w).alloc _
  have I1 := lit_fz (k := .u8) (zs := LD) (N := 4) (w := w) (t := 5) (cs := cD) (4, 5) rfl rfl (by decide)
  have hsa : (w.alloc (.cells cD 5 (4, 5))).heap.size = w.heap.size + 1 := by simp
  have hcv : (convert 24 24 (.slice (some ⟨w.heap.size, 0, none⟩) 4 4)).run Tryd.prog (w.alloc (.cells cD 5)) = .ok (.slice (some ⟨w.heap.size, 0, none⟩) 4 4) (w.alloc (.cells cD 5 (4, 5))) := Go.Lib.run_convert_bytes_const w 24 5 cD 4 4 Tryd.underlying24 Tryd.underlying5
  have I2 := lit_fz (k := .u8) (zs := LR) (N := 3) (w := w.alloc (.cells cD 5 (4, 5))) (t := 5) (cs := cR) (3, 4) rfl rfl (by decide)
  have hcv2 : (convert 24 24 (.slice (some ⟨(w.alloc (.cells cD 5 (4, 5))).heap.size, 0, none⟩) 3 3)).run Tryd.prog ((w.alloc (.cells cD 5 (4, 5))).alloc (.cells cR 5)) = .ok (.slice (some ⟨(w.alloc (.cells cD 5 (4, 5))).heap.size, 0, none⟩) 3 3) ((w.alloc (.cells cD 5 (4, 5))).alloc (.cells cR 5 (3, 4))) := Go.Lib.run_convert_bytes_const _ 24 5 cR 3 3 Tryd.underlying24 Tryd.underlying5
  have fb : Fr (fun _ => False) (w.alloc (.cells cD 5 (4, 5))) ((w.alloc (.cells cD 5 (4, 5))).alloc (.cells cR 5 (3, 4))) := (Fr.refl _ _).alloc _
  have hsb : ((w.alloc (.cells cD 5 (4, 5))).alloc (.cells cR 5 (3, 4))).heap.size = w.heap.size + 2 := by simp
  rw [hsa] at I2 hcv2
  have Hbo := Lib.hid (both15 _ (some ⟨w.heap.size, 0, none⟩) 4 4 LD (((I1.fr fb (by rw [hsa]; omega) (fun _ _ e => e))).more (by rw [hsb]; omega)) (by omega) (some ⟨w.heap.size + 1, 0, none⟩) 3 3 LR (I2.more (by rw [hsb]; omega)) (by omega))
  have Hfa := Lib.hid (fa.tr fb)
  unfold cD cR at *
  clear I1 I2 fa fb
  have HT := Lib.hid hT
  clear hT
  go_enter Tryd.func5, Tryd.ntmps5
  go_wp2_with fail
  refine (Hbo.out).mono ?_
  rintro e w1 hb
  obtain ⟨a, r, K, s, rfl, hD, hs0⟩ := bo_duo hb
  clear hb hcv hcv2 Hbo hsa hsb
  obtain ⟨w0, hD, Hfa⟩ : ∃ w0, Duo w0 w1 K a r s s ∧ Hid (Fr (fun _ => False) w w0) := ⟨_, hD, Hfa⟩
  have Hlt := Lib.hid hD.lt
  have Hdo : Hid (∀ W s K kd at2 v2 cnt, Duo w0 W K a r s s → s.outs.length ≤ 800000 → (0 ≤ at2 ∧ at2 ≤ 4294967295) → (0 ≤ v2 ∧ v2 ≤ 4294967295) → (0 ≤ cnt ∧ cnt ≤ 18446744073709551615) → Calls Tryd.prog 26 #[.pointer (some ⟨a.gB, 0, none⟩), .pointer (some ⟨r.gR, 0, none⟩), .agg #[.int .i64 kd, .int .i64 0, .int .u32 at2, .int .u32 v2, .int .u64 cnt, .slice none 0 0]] W (DoR w0 W K a r s)) :=
    Lib.hid (fun W s K kd at2 v2 cnt h hs ha hv hc => do15_any w0 W K a r s h (by omega) kd 0 at2 v2 cnt (by decide) ha.1 ha.2 hv.1 hv.2 hc.1 hc.2 none 0 0 [] (intsAt_nil _ _ _ _) (by simp [maxLen]) (Nat.le_refl _))
  have Hd4 : Hid (∀ W s K z, Duo w0 W K a r s s → s.outs.length ≤ 800000 → 0 ≤ z → z < 256 → Calls Tryd.prog 26 #[.pointer (some ⟨a.gB, 0, none⟩), .pointer (some ⟨r.gR, 0, none⟩), .agg #[.int .i64 4, .int .i64 0, .int .u32 0, .int .u32 0, .int .u64 0, .slice (some ⟨W.heap.size, 0, none⟩) 1 1]] (W.alloc (.cells #[.int .u8 z] 5)) (DoR w0 W K a r s)) :=
    Lib.hid (fun W s K z h hs z0 z1 => (do15_4k w0 _ _ a r s (h.new ((Fr.refl (fun _ => False) W).alloc (.cells #[.int .u8 z] 5)) (Nat.le_refl _) (by simp)) (by omega) 4 0 0 0 0 rfl (by decide) (by omega) (by omega) (by omega) (by omega) (by omega) (by omega) (some ⟨W.heap.size, 0, none⟩) 1 1 [z] (one_ints W z z0 z1) (fun _ b off e => by injection e with e; injection e with e1 e2; exact .inr e1.symm) (by simp [maxLen]) (Nat.le_refl _)).mono (by
      rintro e w' hp
      obtain ⟨rfl, s', K', h1, h2, h3, h4⟩ := doPost_r (s := s) hp (by show s.outs.length ≤ _; omega)
      exact ⟨rfl, s', K', h1, fun k hk => h2 k (.inl hk), (((Fr.refl (fun k => ¬ K k ∨ r.its k) W).alloc _).trans h3 (fun i hi e => by
        rcases e with e | e
        · exact .inl (fun q => e (.inl q))
        · exact .inr e)), h4⟩))
  have Hal : Hid (∀ W s K, Duo w0 W K a r s s → s.outs.length ≤ 800000 → Calls Tryd.prog 25 #[.pointer (some ⟨a.gB, 0, none⟩), .pointer (some ⟨r.gR, 0, none⟩), .pointer (some ⟨a.am.gm, 0, none⟩)] W fun e w' => e = .returned (.bool true) ∧ Fr (fun _ => False) W w') :=
    Lib.hid (fun W s' K' h hs => alike15 w0 W K' a s' r (HT.out.fr (Hfa.out.tr h.1.frame) (fun e => e)) h.1 h.2.1 (by omega))
  have HD0 : Hid (∃ s K, Duo w0 w1 K a r s s ∧ s.outs.length ≤ 0 ∧ Fr (fun _ => False) w1 w1) := Lib.hid ⟨s, K, hD, by rw [hs0]; exact Nat.le_refl _, Fr.refl _ _⟩
  have Hs1 := Lib.hid hD.1.frame
  clear hD hs0
  go_wp2_with fail
  go_loopw [4] (fun i wr => ∃ k : Nat, k ≤ 3 ∧ i = .int .u32 k ∧ w1.heap.size ≤ wr.heap.size ∧ ∃ s K, Duo w0 wr K a r s s ∧ s.outs.length ≤ k * 1024) (fun i _ => 3 - (intOf i).toNat)
  case atStart => exact ⟨0, by omega, rfl, Nat.le_refl _, by obtain ⟨s, K, h1, h2, _⟩ := HD0.out; exact ⟨s, K, h1, h2⟩⟩
  case round =>
    clear HD0
    obtain ⟨k, hk, rfl, hsz, s, K, hD, hso⟩ := hrel
    obtain ⟨wo, rfl⟩ : ∃ wo : World, wo = wr := ⟨_, rfl⟩
    have HDO : Hid (∃ s K, Duo w0 wo K a r s s ∧ s.outs.length ≤ k * 1024 + 0 * 16) := Lib.hid ⟨s, K, hD, by omega⟩
    clear hD hso
    by_cases hlt : k < 3
    · have hk3 : decide ((k : Int) < 3) = true := by simp; omega
      have ki0 : (0 : Int) ≤ (k : Int) := by omega
      have ki1 : (k : Int) ≤ 3 := by omega
      go_wp2_with fail
      go_loopw [5] (fun i wr => ∃ j : Nat, j ≤ 64 ∧ i = .int .u32 j ∧ w1.heap.size ≤ wr.heap.size ∧ ∃ s K, Duo w0 wr K a r s s ∧ s.outs.length ≤ k * 1024 + j * 16) (fun i _ => 64 - (intOf i).toNat)
      case atStart => exact ⟨0, by omega, rfl, hsz, HDO.out⟩
      case round =>
        clear HDO hsz
        obtain ⟨j, hj, rfl, hsz, s, K, hD, hso⟩ := hrel
        obtain ⟨wp, rfl⟩ : ∃ wp : World, wp = wr := ⟨_, rfl⟩
        by_cases hjt : j < 64
        · have hj3 : decide ((j : Int) < 64) = true := by simp; omega
          have ji0 : (0 : Int) ≤ (j : Int) := by omega
          have ji1 : (j : Int) < 64 := by omega
          have fL : Fr (fun _ => False) wp (wp.alloc (.cells #[.int .u32 (k : Int), .int .u32 64, .int .u32 255, .int .u32 4294967295] 23)) := (Fr.refl _ wp).alloc _
          have bL : Blk (wp.alloc (.cells #[.int .u32 (k : Int), .int .u32 64, .int .u32 255, .int .u32 4294967295] 23)) wp.heap.size 23 #[.int .u32 (k : Int), .int .u32 64, .int .u32 255, .int .u32 4294967295] := Blk.new _ _ _
          have hDL := hD.new fL (Nat.le_refl _) bL.lt
          have hgL : Hid (¬ r.its wp.heap.size) := Lib.hid (fun e => by have := Hlt.out _ e; omega)
          have hszL : w1.heap.size ≤ (wp.alloc (.cells #[.int .u32 (k : Int), .int .u32 64, .int .u32 255, .int .u32 4294967295] 23)).heap.size := by simp; omega
          clear hD
          have HL0 : Hid (∃ s' K', Duo w0 (wp.alloc (.cells #[.int .u32 (k : Int), .int .u32 64, .int .u32 255, .int .u32 4294967295] 23)) K' a r s' s' ∧ s'.outs.length ≤ k * 1024 + j * 16 + 0 * 4 ∧ K' wp.heap.size) := Lib.hid ⟨s, _, hDL, by omega, .inr rfl⟩
          go_upto_block 2 with (fail)
          generalize wp.alloc (.cells #[.int .u32 (k : Int), .int .u32 64, .int .u32 255, .int .u32 4294967295] 23) = wl at *
          generalize wp.heap.size = gl at *
          clear hDL fL
          go_loopw [34] (fun i wr => ∃ q : Nat, q ≤ 4 ∧ i = .int .i64 q ∧ w1.heap.size ≤ wr.heap.size ∧ Blk wr gl 23 #[.int .u32 (k : Int), .int .u32 64, .int .u32 255, .int .u32 4294967295] ∧ ∃ s K, Duo w0 wr K a r s s ∧ s.outs.length ≤ k * 1024 + j * 16 + q * 4 ∧ K gl) (fun i _ => 4 - (intOf i).toNat)
          case atStart => exact ⟨0, by omega, rfl, hszL, bL, HL0.out⟩
          case round =>
            clear HL0 hszL bL
            obtain ⟨q, hq, rfl, hsz, bL, s, K, hD, hso, hK⟩ := hrel
            by_cases hqt : q < 4
            · have hq3 : decide ((q : Int) < 4) = true := by simp; omega
              have qi0 : (0 : Int) ≤ (q : Int) := by omega
              have qi1 : (q : Int) < 4 := by omega
              obtain ⟨v, hv, v0, v1⟩ : ∃ v : Int, wr.cell? ⟨gl, q, none⟩ = some (.int .u32 v) ∧ 0 ≤ v ∧ v ≤ 4294967295 := by
                rcases (by omega : q = 0 ∨ q = 1 ∨ q = 2 ∨ q = 3) with rfl | rfl | rfl | rfl
                · exact ⟨_, bL.cell 0, ki0, by omega⟩
                · exact ⟨_, bL.cell 1, by decide, by decide⟩
                · exact ⟨_, bL.cell 2, by decide, by decide⟩
                · exact ⟨_, bL.cell 3, by decide, by decide⟩
              have hv8 : IntKind.u8.wrap v = v % 256 := IntKind.wrap_u8 _
              have vb0 : 0 ≤ v % 256 := by omega
              have vb1 : v % 256 < 256 := by omega
              have HS := Lib.hid hso
              have HD := Lib.hid hD
              have HB := Lib.hid bL
              have HSZ := Lib.hid hsz
              have HK := Lib.hid hK
              clear hD bL hso hsz hK
              generalize v % 256 = z at *
              go_wp2_with fail
              refine (Hdo.out _ s K 2 (32768 + (j : Int)) v 9 HD.out (by have := HS.out; omega) (by omega) (by omega) (by omega)).mono ?_
              rintro e w2 ⟨rfl, s2, K2, hD2, hK2, f2, hs2⟩
              have HB2 := Lib.hid (HB.out.fr f2 (fun e => e.elim (fun h => h HK.out) hgL.out))
              have HD2 := Lib.hid hD2
              have HS2 := Lib.hid (show s2.outs.length ≤ k * 1024 + j * 16 + q * 4 + 1 by have := HS.out; omega)
              have HK2 := Lib.hid (hK2 _ HK.out)
              have HZ2 := Lib.hid (Nat.le_trans HSZ.out f2.size)
              clear hD2 hK2 f2 hs2 hv
              go_wp2_with fail
              refine (Hdo.out _ s2 K2 1 (32768 + (j : Int)) 0 77 HD2.out (by have := HS2.out; omega) (by omega) (by omega) (by omega)).mono ?_
              rintro e w3 ⟨rfl, s3, K3, hD3, hK3, f3, hs3⟩
              have HB3 := Lib.hid (HB2.out.fr f3 (fun e => e.elim (fun h => h HK2.out) hgL.out))
              have HD3 := Lib.hid hD3
              have HS3 := Lib.hid (show s3.outs.length ≤ k * 1024 + j * 16 + q * 4 + 2 by have := HS2.out; omega)
              have HK3 := Lib.hid (hK3 _ HK2.out)
              have HZ3 := Lib.hid (Nat.le_trans HZ2.out f3.size)
              clear hD3 hK3 f3 hs3
              go_wp2_with fail
              refine (Hdo.out _ s3 K3 3 0 0 v HD3.out (by have := HS3.out; omega) (by omega) (by omega) (by omega)).mono ?_
              rintro e w4 ⟨rfl, s4, K4, hD4, hK4, f4, hs4⟩
              have HB4 := Lib.hid (HB3.out.fr f4 (fun e => e.elim (fun h => h HK3.out) hgL.out))
              have HD4 := Lib.hid hD4
              have HS4 := Lib.hid (show s4.outs.length ≤ k * 1024 + j * 16 + q * 4 + 3 by have := HS3.out; omega)
              have HK4 := Lib.hid (hK4 _ HK3.out)
              have HZ4 := Lib.hid (Nat.le_trans HZ3.out f4.size)
              clear hD4 hK4 f4 hs4
              go_wp2_with fail
              refine (Hd4.out w4 s4 K4 z HD4.out (by have := HS4.out; omega) vb0 vb1).mono ?_
              rintro e w5 ⟨rfl, s5, K5, hD5, hK5, f5, hs5⟩
              have HB5 := Lib.hid (HB4.out.fr f5 (fun e => e.elim (fun h => h HK4.out) hgL.out))
              have HD5 := Lib.hid hD5
              have HS5 := Lib.hid (show s5.outs.length ≤ k * 1024 + j * 16 + (q + 1) * 4 by have := HS4.out; omega)
              have HK5 := Lib.hid (hK5 _ HK4.out)
              have HZ5 := Lib.hid (Nat.le_trans HZ4.out f5.size)
              clear hD5 hK5 f5 hs5
              go_wp2_with fail
              refine (Hal.out w5 s5 K5 HD5.out (by have := HS5.out; omega)).mono ?_
              rintro e w6 ⟨rfl, f6⟩
              have HB6 := Lib.hid (HB5.out.fr f6 (fun e => e))
              have HD6 := Lib.hid (HD5.out.fr0 f6)
              have HZ6 := Lib.hid (Nat.le_trans HZ5.out f6.size)
              clear f6
              go_wp2_with fail
              go_roundw
              case rel => exact ⟨q + 1, by omega, by go_num, HZ6.out, HB6.out, s5, K5, HD6.out, HS5.out, HK5.out⟩
              case measure => simp [intOf]; omega
            · have hq3 : decide ((q : Int) < 4) = false := by simp; omega
              have hq4 : q = 4 := by omega
              have HE : Hid (∃ s K, Duo w0 wr K a r s s ∧ s.outs.length ≤ k * 1024 + (j + 1) * 16) := Lib.hid ⟨s, K, hD, by omega⟩
              have HSZ := Lib.hid hsz
              clear hD bL hso hsz hK hq4
              go_wp2_with fail
              go_roundw
              case rel => exact ⟨j + 1, by omega, by go_num, HSZ.out, HE.out⟩
              case measure => simp [intOf]; omega
        · have hj3 : decide ((j : Int) < 64) = false := by simp; omega
          have HE : Hid (∃ s K, Duo w0 wp K a r s s ∧ s.outs.length ≤ (k + 1) * 1024) := Lib.hid ⟨s, K, hD, by omega⟩
          have HSZ := Lib.hid hsz
          clear hD hso hsz
          go_wp2_with fail
          go_roundw
          case rel => exact ⟨k + 1, by omega, by go_num, HSZ.out, HE.out⟩
          case measure => simp [intOf]; omega
    · have hk3 : decide ((k : Int) < 3) = false := by simp; omega
      obtain ⟨s, K, hD, hso⟩ := HDO.out
      have HD := Lib.hid hD
      have hso4 : s.outs.length ≤ 4000 := by omega
      have hnl := new_nil
      have hmk : ∀ W, (Instr.makeSlice 24 (.int .i64 1025) (.int .i64 1025)).run Tryd.prog W = .ok (.slice (some ⟨W.heap.size, 0, none⟩) 1025 1025) (W.alloc (.cells (zU 1025) 5)) := fun W => run_makeU .i64 1025 (by omega) W
      clear hD hso HDO
      go_wp2_with fail
      refine (new_nil _).mono ?_
      rintro e w' ⟨rfl, rfl⟩
      go_wp2_with fail
      refine (new_long _ a.am.gm _ _).mono ?_
      rintro e w' ⟨rfl, rfl⟩
      have HDa := Lib.hid (HD.out.fr0 ((Fr.refl _ wo).alloc (.cells (zU 1025) 5)))
      go_wp2_with fail
      refine (Hdo.out _ s K 1 0 0 0 HDa.out (by omega) (by omega) (by omega) (by omega)).mono ?_
      rintro e w2 ⟨rfl, s2, K2, hD2, hK2, f2, hs2⟩
      have HD2 := Lib.hid hD2
      clear hD2 hK2 f2
      go_wp2_with fail
      refine (Hdo.out _ s2 K2 2 16 1 0 HD2.out (by omega) (by omega) (by omega) (by omega)).mono ?_
      rintro e w3 ⟨rfl, s3, K3, hD3, hK3, f3, hs3⟩
      have F3 := Lib.hid (Hfa.out.tr hD3.1.frame)
      clear hD3 hK3 f3
      go_wp2_with fail
      refine (known15 _).mono ?_
      rintro e w5 ⟨rfl, f5⟩
      go_wp2_with fail
      go_ret
      exact ⟨rfl, F3.out.tr f5⟩
end Go.Proofs.YthiephlfhbkcbaaDoor.busNumbers
