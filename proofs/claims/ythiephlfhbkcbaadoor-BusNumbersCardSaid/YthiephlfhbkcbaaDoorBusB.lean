/- The guest's devices on one bus, II: Store, Tick, Input, New. -/
import Derived.Test.YthiephlfhbkcbaaDoorBus
namespace Go.Proofs.YthiephlfhbkcbaaDoor.Bs
open Go.RowKit Fm Nt Rm By Dr
set_option linter.unusedVariables false
set_option maxHeartbeats 4000000

theorem or_256 {p z : Nat} (hp : p < 256) (hz : z < 8) : p ||| 2 ^ z < 256 := by
  have h1 : 2 ^ z < 2 ^ 8 := Nat.pow_lt_pow_right (by omega) hz
  exact Nat.or_lt_two_pow (n := 8) (by omega) h1
/-- one line is raised: its list was just made -/
theorem raise1 {w : World} {F : Nat → Prop} {a : Ab} {s : Sb} (h : Bus w F a s) (z : Nat) (hz : z < 8) :
    Calls Tryd.prog 8 #[.pointer (some ⟨a.gc, 0, none⟩), .slice (some ⟨w.heap.size, 0, none⟩) 1 1] (w.alloc (.cells #[.int .i64 (z : Int)] 3)) fun e w' => e = .returned (.bool true) ∧ Bus w' F a { s with p := s.p ||| 2 ^ z } ∧ Fr (· = a.gc) w w' := by
  have f0 := (Fr.refl (· = a.gc) w).alloc (.cells #[.int .i64 (z : Int)] 3)
  have h0 := h.fr0 ((Fr.refl (fun _ => False) w).alloc (.cells #[.int .i64 (z : Int)] 3))
  refine (Iq.raise_any _ a.gc s.p s.m h0.c h0.ok.p (w.heap.size + 1) (some ⟨w.heap.size, 0, none⟩) 1 1 [(z : Int)] (intsAt_lit [(z : Int)] (Blk.new _ _ _) (fun i hi => by
    have : i = 0 := by simpa using hi
    subst this
    exact wf_i64_mk (n := (z : Int)) (by omega) (by omega))) (by simp [maxLen])).mono ?_
  rintro e w' ⟨rfl, hc, f⟩
  have e1 : Iq.okAll [(z : Int)] = true := by simp [Iq.okAll]; omega
  have e2 : Iq.raised [(z : Int)] s.p = s.p ||| 2 ^ z := by
    rw [Iq.raised, if_pos e1]
    simp [Iq.orAll]
  rw [e2] at hc
  exact ⟨by rw [e1], h0.setC hc f (or_256 h.ok.p hz) h.ok.m, f0.tr f⟩

def Sb.storeO (s : Sb) (o v : Int) : Sb :=
  if o = 0 then { s with p := s.p &&& (4294967295 - v.toNat) } else if o = 4 then { s with m := v.toNat % 256 } else if o = 8 then { s with tm := v } else if o = 16 then { s with outs := s.outs ++ [v % 256] }
  else if o = 32 then { s with sec := v } else if o = 36 then { s with pl := v }
  else if o = 40 then { s with d := doD s.d s.ms s.sec s.pl v, ms := doM s.d s.ms s.sec s.pl v, st := if doB s.ms s.sec s.pl v then 0 else 1, p := s.p ||| 4 } else s
def Sb.store (s : Sb) (at_ v : Int) : Sb := s.storeO (offO at_) v
theorem doM_n (d : Nat → Int) (m : Ms) (s at_ c : Int) : (doM d m s at_ c).n = m.n := by
  unfold doM
  split
  · exact puts_n _ _ _ _
  · rfl
theorem doM_tu (d : Nat → Int) (m : Ms) (s at_ c : Int) (a0 : 0 ≤ at_) (ht : ∀ k, m.n ≤ k → k < 64 → m.tu k = false) : ∀ k, (doM d m s at_ c).n ≤ k → k < 64 → (doM d m s at_ c).tu k = false := by
  intro k h1 h2
  rw [doM_n] at h1
  unfold doM
  split
  · rename_i h
    have hb := h.1
    simp only [doB, decide_eq_true_eq] at hb
    rw [puts_tu, ht k h1 h2, Bool.false_or]
    unfold hits
    exact decide_eq_false (by rintro ⟨j, h3, h4⟩; omega)
  · exact ht k h1 h2
theorem store_n (s : Sb) (at_ v : Int) : (s.store at_ v).ms.n = s.ms.n := by
  unfold Sb.store Sb.storeO
  split
  · rfl
  split
  · rfl
  split
  · rfl
  split
  · rfl
  split
  · rfl
  split
  · rfl
  split
  · exact doM_n _ _ _ _ _
  · rfl
theorem store_outs (s : Sb) (at_ v : Int) : (s.store at_ v).outs.length ≤ s.outs.length + 1 := by
  unfold Sb.store Sb.storeO
  split
  · simp
  split
  · simp
  split
  · simp
  split
  · simp
  split
  · simp
  split
  · simp
  split
  · simp
  · simp
set_option maxRecDepth 100000 in
theorem store_cmd (w : World) (F : Nat → Prop) (a : Ab) (s : Sb) (h : Bus w F a s) (at_ : Int) (vn : Nat) (cnt : Int) (hw : IntKind.u32.wrap (at_ - 32768) = 40) (v0 : (0 : Int) ≤ vn) (v1 : (vn : Int) ≤ 4294967295) :
    Calls Tryd.prog 24 #[.pointer (some ⟨a.gB, 0, none⟩), .int .u32 at_, .int .u32 (vn : Int), .int .u64 cnt] w (BPost w F a (s.storeO 40 (vn : Int)) (.bool true)) := by
  obtain ⟨c0, c1, c2, c3, c4, c5, c6, c7⟩ := h.cells
  have z5 := h.b.frozen 5
  have z6 := h.b.frozen 6
  have z7 := h.b.frozen 7
  have H := Lib.hid h
  clear h
  have hB1 := H.out.setB (sec := s.sec) (pl := s.pl) (st := 1) (H.out.b.set_ 7 (.int .u32 1)) (Fr.set1 w a.gB 7 (.int .u32 1)) H.out.ok.sec H.out.ok.pl (.inr rfl)
  have f1 := (Fr.set1 w a.gB 7 (.int .u32 1)).mono (S' := a.wr F) (fun k _ e => .inl e)
  have hsz : w.heap.size = (w.setCell ⟨a.gB, 7, none⟩ (.int .u32 1)).heap.size := by simp [World.setCell]
  have es : s.storeO 40 (vn : Int) = { s with d := doD s.d s.ms s.sec s.pl vn, ms := doM s.d s.ms s.sec s.pl vn, st := if doB s.ms s.sec s.pl vn then 0 else 1, p := s.p ||| 4 } := rfl
  rw [es]
  go_enter Tryd.func24, Tryd.ntmps24
  go_upto_region 17 with (fail)
  generalize w.setCell ⟨a.gB, 7, none⟩ (.int .u32 1) = w1 at *
  obtain ⟨b0, b1, b2, b3, b4, b5, b6, b7⟩ := hB1.cells
  have k3 : w1.drew.cell? ⟨a.gB, 3, none⟩ = some (.pointer (some ⟨a.gd, 0, none⟩)) := b3
  have k4 : w1.drew.cell? ⟨a.gB, 4, none⟩ = some (.pointer (some ⟨a.am.gm, 0, none⟩)) := b4
  have k5 : w1.drew.cell? ⟨a.gB, 5, none⟩ = some (.int .u32 s.sec) := b5
  have k6 : w1.drew.cell? ⟨a.gB, 6, none⟩ = some (.int .u32 s.pl) := b6
  have Hd := Lib.hid (do_any w1.drew a.gd a.ge s.d a.am s.ms (hB1.d.fr ((Fr.refl (fun _ => False) w1).drew) (fun e => e) (fun e => e)) (hB1.M.fr0 ((Fr.refl (fun _ => False) w1).drew)) (fun k hk => ⟨(hB1.sepM k hk).2.2.2.1, (hB1.sepM k hk).2.2.2.2⟩) s.sec s.pl (vn : Int) H.out.ok.sec.1 H.out.ok.sec.2 H.out.ok.pl.1 H.out.ok.pl.2 v0 v1)
  have Htu := Lib.hid (doM_tu s.d s.ms s.sec s.pl vn H.out.ok.pl.1 H.out.ok.tu)
  have HB1 := Lib.hid (hB1.fr0 ((Fr.refl (fun _ => False) w1).drew))
  have F1 := Lib.hid f1.drew
  clear hB1 f1 es c0 c1 c2 c3 c4 c5 c6 c7 z5 z6 z7 b0 b1 b2 b3 b4 b5 b6 b7
  generalize doB s.ms s.sec s.pl vn = bb at *
  generalize doD s.d s.ms s.sec s.pl vn = d' at *
  generalize doM s.d s.ms s.sec s.pl vn = m' at *
  go_region_held3 (fun W => W.cell? ⟨a.gB, 3, none⟩ = some (.pointer (some ⟨a.gd, 0, none⟩)) ∧ W.cell? ⟨a.gB, 4, none⟩ = some (.pointer (some ⟨a.am.gm, 0, none⟩)) ∧ W.cell? ⟨a.gB, 5, none⟩ = some (.int .u32 s.sec) ∧ W.cell? ⟨a.gB, 6, none⟩ = some (.int .u32 s.pl)) (first | exact ⟨k3, k4, k5, k6⟩ | exact ⟨l3, l4, l5, l6⟩)
    (first
    | (go_at_call 36; refine (Hd.out).mono ?_; rintro e w2 ⟨rfl, hD2, hM2, f2⟩; have hB2 := HB1.out.setD hD2 hM2 f2 Htu.out; obtain ⟨l0, l1, l2, l3, l4, l5, l6, l7⟩ := hB2.cells))
  all_goals
    have F2 := F1.out.trans f2 (fun k hk e => by rcases e with e | e; exact .inr (.inr (.inr (.inl e))); exact .inr (.inr (.inr (.inr (.inl e)))))
    have z7 := hB2.b.frozen 7
    cases bb
    · have Hr := Lib.hid (raise1 hB2 2 (by omega))
      clear f2 hD2 hM2
      go_wp2_with fail
      refine (Hr.out).mono ?_
      rintro e w3 ⟨rfl, hB3, f3⟩
      go_wp2_with fail
      go_ret
      exact ⟨rfl, F, hB3, fun k hk => .inl hk, F2.trans f3 (fun k hk e => .inr (.inl e))⟩
    · have hB2' := hB2.setB (sec := s.sec) (pl := s.pl) (st := 0) (hB2.b.set_ 7 (.int .u32 0)) (Fr.set1 w2 a.gB 7 (.int .u32 0)) H.out.ok.sec H.out.ok.pl (.inl rfl)
      have F3 := F2.trans (Fr.set1 w2 a.gB 7 (.int .u32 0)) (fun k hk e => .inl e)
      clear f2 hD2 hM2
      go_upto_region 19 with (fail)
      generalize w2.setCell ⟨a.gB, 7, none⟩ (.int .u32 0) = w4 at *
      obtain ⟨m0, m1, m2, m3, m4, m5, m6, m7⟩ := hB2'.cells
      have Hr := Lib.hid (raise1 hB2' 2 (by omega))
      go_wp2_with fail
      refine (Hr.out).mono ?_
      rintro e w3 ⟨rfl, hB3, f3⟩
      go_wp2_with fail
      go_ret
      exact ⟨rfl, F, hB3, fun k hk => .inl hk, F3.trans f3 (fun k hk e => .inr (.inl e))⟩
set_option maxRecDepth 100000 in
theorem store_any (w : World) (F : Nat → Prop) (a : Ab) (s : Sb) (h : Bus w F a s) (at_ v cnt : Int) (a0 : 0 ≤ at_) (a1 : at_ ≤ 4294967295) (v0 : 0 ≤ v) (v1 : v ≤ 4294967295) (hlo : s.outs.length ≤ 1000000) :
    Calls Tryd.prog 24 #[.pointer (some ⟨a.gB, 0, none⟩), .int .u32 at_, .int .u32 v, .int .u64 cnt] w (BPost w F a (s.store at_ v) (.bool (loadB at_))) := by
  have hw : IntKind.u32.wrap (at_ - 32768) = offO at_ := IntKind.wrap_u32 _
  obtain ⟨c0, c1, c2, c3, c4, c5, c6, c7⟩ := h.cells
  have z5 := h.b.frozen 5
  have z6 := h.b.frozen 6
  have z7 := h.b.frozen 7
  have H := Lib.hid h
  have hcase := off_cases at_
  have e1 : s.store at_ v = s.storeO (offO at_) v := rfl
  have e3 : loadB at_ = decide (offO at_ = 0 ∨ offO at_ = 4 ∨ offO at_ = 8 ∨ offO at_ = 12 ∨ offO at_ = 16 ∨ offO at_ = 20 ∨ offO at_ = 24 ∨ offO at_ = 32 ∨ offO at_ = 36 ∨ offO at_ = 40 ∨ offO at_ = 44) := rfl
  rw [e1]
  rw [e3] at hcase ⊢
  clear e1 e3 h
  generalize offO at_ = o at *
  obtain ⟨vn, rfl⟩ : ∃ k : Nat, v = k := ⟨v.toNat, by omega⟩
  rcases hcase with rfl | rfl | rfl | rfl | rfl | rfl | rfl | rfl | rfl | rfl | rfl | hno
  · have Hp := Lib.hid (Iq.clear_any w a.gc s.p s.m vn H.out.c (by have := H.out.ok.p; omega) (by omega))
    go_enter Tryd.func24, Tryd.ntmps24
    go_wp2_with fail
    refine (Hp.out).mono ?_
    rintro e w' ⟨rfl, hc, f⟩
    go_wp2_with fail
    go_ret
    exact ⟨rfl, F, H.out.setC hc f (Nat.lt_of_le_of_lt Nat.and_le_left H.out.ok.p) H.out.ok.m, fun k hk => .inl hk, f.mono (fun k _ e => .inr (.inl e))⟩
  · have Hp := Lib.hid (Iq.setMask_any w a.gc s.p s.m vn H.out.c (by omega))
    go_enter Tryd.func24, Tryd.ntmps24
    go_wp2_with fail
    refine (Hp.out).mono ?_
    rintro e w' ⟨rfl, hc, f⟩
    go_wp2_with fail
    go_ret
    exact ⟨rfl, F, H.out.setC hc f H.out.ok.p (Nat.mod_lt _ (by omega)), fun k hk => .inl hk, f.mono (fun k _ e => .inr (.inl e))⟩
  · have Hp := Lib.hid (Tm.set_any w a.gt s.tm (vn : Int) H.out.t)
    go_enter Tryd.func24, Tryd.ntmps24
    go_wp2_with fail
    refine (Hp.out).mono ?_
    rintro e w' ⟨rfl, hc, f⟩
    go_wp2_with fail
    go_ret
    exact ⟨rfl, F, H.out.setT hc f v0 v1, fun k hk => .inl hk, f.mono (fun k _ e => .inr (.inr (.inl e)))⟩
  · go_enter Tryd.func24, Tryd.ntmps24
    go_wp2_with fail
    go_ret
    exact BPost.same H.out (Fr.refl _ _)
  · have hb8 : IntKind.u8.wrap (vn : Int) = (vn : Int) % 256 := IntKind.wrap_u8 _
    have Hp := Lib.hid (Co.write_any w 0 a.gk F s.outs s.ins ((vn : Int) % 256) H.out.k (by omega) (Nat.zero_le _))
    have es : s.storeO 16 (vn : Int) = { s with outs := s.outs ++ [(vn : Int) % 256] } := rfl
    have HB := Lib.hid (fun w' F' (hk' : Co.Con w' 0 a.gk F' (s.outs ++ [(vn : Int) % 256]) s.ins) (f : Fr F w w') (hF : ∀ k, F' k → F k ∨ w.heap.size ≤ k) => H.out.setK hk' f hF H.out.ok.len H.out.ok.ins (fun z hz => by
      rcases List.mem_append.1 hz with e | e
      · exact H.out.ok.outs z e
      · have : z = (vn : Int) % 256 := by simpa using e
        omega))
    rw [es]
    clear es
    generalize (vn : Int) % 256 = bv at *
    go_enter Tryd.func24, Tryd.ntmps24
    go_wp2_with fail
    refine (Hp.out).mono ?_
    rintro e w' ⟨rfl, F', hk', f', hF'⟩
    have hB' := HB.out w' F' hk' f' hF'
    go_wp2_with fail
    go_ret
    exact ⟨rfl, F', hB', hF', f'.mono (fun k _ e => .inr (.inr (.inr (.inr (.inr e)))))⟩
  · go_enter Tryd.func24, Tryd.ntmps24
    go_wp2_with fail
    go_ret
    exact BPost.same H.out (Fr.refl _ _)
  · go_enter Tryd.func24, Tryd.ntmps24
    go_wp2_with fail
    go_ret
    exact BPost.same H.out (Fr.refl _ _)
  · have HB := Lib.hid (H.out.setB (sec := (vn : Int)) (pl := s.pl) (st := s.st) (H.out.b.set_ 5 (.int .u32 (vn : Int))) (Fr.set1 w a.gB 5 (.int .u32 (vn : Int))) ⟨v0, v1⟩ H.out.ok.pl H.out.ok.st)
    go_enter Tryd.func24, Tryd.ntmps24
    go_wp2_with fail
    go_ret
    exact ⟨rfl, F, HB.out, fun k hk => .inl hk, (Fr.set1 w a.gB 5 (.int .u32 (vn : Int))).mono (fun k _ e => .inl e)⟩
  · have HB := Lib.hid (H.out.setB (sec := s.sec) (pl := (vn : Int)) (st := s.st) (H.out.b.set_ 6 (.int .u32 (vn : Int))) (Fr.set1 w a.gB 6 (.int .u32 (vn : Int))) H.out.ok.sec ⟨v0, v1⟩ H.out.ok.st)
    go_enter Tryd.func24, Tryd.ntmps24
    go_wp2_with fail
    go_ret
    exact ⟨rfl, F, HB.out, fun k hk => .inl hk, (Fr.set1 w a.gB 6 (.int .u32 (vn : Int))).mono (fun k _ e => .inl e)⟩
  · exact store_cmd w F a s H.out at_ vn cnt hw v0 v1
  · go_enter Tryd.func24, Tryd.ntmps24
    go_wp2_with fail
    go_ret
    exact BPost.same H.out (Fr.refl _ _)
  · rw [hno]
    have hn := of_decide_eq_false hno
    have n0 : (o == 0) = false := by simp; omega
    have n4 : (o == 4) = false := by simp; omega
    have n8 : (o == 8) = false := by simp; omega
    have n12 : (o == 12) = false := by simp; omega
    have n16 : (o == 16) = false := by simp; omega
    have n20 : (o == 20) = false := by simp; omega
    have n24 : (o == 24) = false := by simp; omega
    have n32 : (o == 32) = false := by simp; omega
    have n36 : (o == 36) = false := by simp; omega
    have n40 : (o == 40) = false := by simp; omega
    have n44 : (o == 44) = false := by simp; omega
    have el : s.storeO o (vn : Int) = s := by
      unfold Sb.storeO
      rw [if_neg (by omega), if_neg (by omega), if_neg (by omega), if_neg (by omega), if_neg (by omega), if_neg (by omega), if_neg (by omega)]
    rw [el]
    clear hno hn el
    go_enter Tryd.func24, Tryd.ntmps24
    go_wp2_with fail
    go_ret
    exact BPost.same H.out (Fr.refl _ _)
def Sb.tick (s : Sb) (n : Int) : Sb := if Tm.dueB s.tm n then { s with tm := 0, p := s.p ||| 1 } else s
set_option maxRecDepth 100000 in
theorem tick_any (w : World) (F : Nat → Prop) (a : Ab) (s : Sb) (h : Bus w F a s) (cnt : Int) :
    Calls Tryd.prog 42 #[.pointer (some ⟨a.gB, 0, none⟩), .int .u64 cnt] w (BPost w F a (s.tick cnt) (.tuple #[])) := by
  obtain ⟨c0, c1, c2, c3, c4, c5, c6, c7⟩ := h.cells
  have Hd := Lib.hid (Tm.due_any w a.gt s.tm cnt h.t)
  have H := Lib.hid h
  have hda : Tm.dueAt s.tm cnt = if Tm.dueB s.tm cnt then 0 else s.tm := rfl
  have hti : s.tick cnt = if Tm.dueB s.tm cnt then { s with tm := 0, p := s.p ||| 1 } else s := rfl
  rw [hda] at Hd
  rw [hti]
  clear h hda hti
  generalize Tm.dueB s.tm cnt = bb at *
  cases bb
  · rw [if_neg Bool.false_ne_true] at Hd ⊢
    go_enter Tryd.func42, Tryd.ntmps42
    go_wp2_with fail
    refine (Hd.out).mono ?_
    rintro e w1 ⟨rfl, ht, f1⟩
    have h1 := H.out.setT ht f1 H.out.ok.tm.1 H.out.ok.tm.2
    go_wp2_with fail
    go_end0
    exact ⟨rfl, F, h1, fun k hk => .inl hk, f1.mono (fun k _ e => .inr (.inr (.inl e)))⟩
  · rw [if_pos rfl] at Hd ⊢
    go_enter Tryd.func42, Tryd.ntmps42
    go_wp2_with fail
    refine (Hd.out).mono ?_
    rintro e w1 ⟨rfl, ht, f1⟩
    have h1 := H.out.setT ht f1 (Int.le_refl _) (by omega)
    obtain ⟨m0, m1, m2, m3, m4, m5, m6, m7⟩ := h1.cells
    have Hr := Lib.hid (raise1 h1 0 (by omega))
    go_wp2_with fail
    refine (Hr.out).mono ?_
    rintro e w3 ⟨rfl, hB3, f3⟩
    go_wp2_with fail
    go_end0
    exact ⟨rfl, F, hB3, fun k hk => .inl hk, (f1.mono (S' := a.wr F) (fun k _ e => .inr (.inr (.inl e)))).trans f3 (fun k hk e => .inr (.inl e))⟩
/-- how many of so many fit -/
def Sb.fit (s : Sb) (len : Nat) : Nat := min len (64 - s.ins.length)
def Sb.input (s : Sb) (zs : List Int) : Sb := { s with ins := s.ins ++ zs.take (s.fit zs.length), p := if 0 < s.fit zs.length then s.p ||| 2 else s.p }
set_option maxRecDepth 100000 in
theorem input_any (w : World) (F : Nat → Prop) (a : Ab) (s : Sb) (h : Bus w F a s) (B : Nat) (A : Option Addr) (len cap : Nat) (zs : List Int) (hl : IntsAt .u8 w B A len zs) (hm : len ≤ maxLen) (hcap : len ≤ cap) :
    Calls Tryd.prog 33 #[.pointer (some ⟨a.gB, 0, none⟩), .slice A len cap] w (BPost w F a (s.input zs) (.int .i64 (s.fit len : Nat))) := by
  obtain ⟨c0, c1, c2, c3, c4, c5, c6, c7⟩ := h.cells
  have Ht := Lib.hid (Co.type_any w 0 a.gk F s.outs s.ins h.k h.ok.len B A len cap zs hl hm hcap (Nat.zero_le _))
  have hlz := hl.1
  have hzb : ∀ z ∈ zs, 0 ≤ z ∧ z < 256 := fun z hz => by
    obtain ⟨i, hi, rfl⟩ := List.getElem_of_mem hz
    have := wf_u8 (hl.2.1 i (by omega))
    have e : zs.getD i 0 = zs[i] := by simp [hi]
    rw [e] at this
    omega
  have H := Lib.hid h
  have hsi : s.input zs = { s with ins := s.ins ++ zs.take (s.fit len), p := if 0 < s.fit len then s.p ||| 2 else s.p } := by rw [Sb.input, hlz]
  have hft : s.fit len = min len (64 - s.ins.length) := rfl
  have hll := h.ok.len
  rw [hsi]
  rw [← hft] at Ht
  have hfl : s.fit len ≤ 64 - s.ins.length := by rw [hft]; exact Nat.min_le_right _ _
  have HB := Lib.hid (fun w' F' (hk' : Co.Con w' 0 a.gk F' s.outs (s.ins ++ zs.take (s.fit len))) (f : Fr F w w') (hF : ∀ k, F' k → F k ∨ w.heap.size ≤ k) => H.out.setK hk' f hF (by
      rw [List.length_append, List.length_take]
      have := Nat.min_le_left (s.fit len) zs.length
      omega) (fun z hz => by
      rcases List.mem_append.1 hz with e | e
      · exact H.out.ok.ins z e
      · exact hzb z (List.mem_of_mem_take e)) H.out.ok.outs)
  clear hsi hft hzb h hl
  generalize s.fit len = ft at *
  have hf64 : ft ≤ 64 := by omega
  by_cases hp : 0 < ft
  · have hpi : (0 : Int) < (ft : Int) := by omega
    rw [if_pos hp]
    go_enter Tryd.func33, Tryd.ntmps33
    go_wp2_with fail
    refine (Ht.out).mono ?_
    rintro e w1 ⟨rfl, F', hk', f', hF'⟩
    have hB' := HB.out w1 F' hk' f' hF'
    obtain ⟨m0, m1, m2, m3, m4, m5, m6, m7⟩ := hB'.cells
    have Hr := Lib.hid (raise1 hB' 1 (by omega))
    go_wp2_with fail
    refine (Hr.out).mono ?_
    rintro e w3 ⟨rfl, hB3, f3⟩
    go_wp2_with fail
    go_ret
    exact ⟨rfl, F', hB3, hF', (f'.mono (S' := a.wr F) (fun k _ e => .inr (.inr (.inr (.inr (.inr e)))))).trans f3 (fun k hk e => .inr (.inl e))⟩
  · have h0 : ft = 0 := by omega
    subst h0
    rw [if_neg (by omega)]
    go_enter Tryd.func33, Tryd.ntmps33
    go_wp2_with fail
    refine (Ht.out).mono ?_
    rintro e w1 ⟨rfl, F', hk', f', hF'⟩
    have hB' := HB.out w1 F' hk' f' hF'
    go_wp2_with fail
    go_ret
    exact ⟨rfl, F', hB', hF', f'.mono (S' := a.wr F) (fun k _ e => .inr (.inr (.inr (.inr (.inr e)))))⟩
/-- a bus to which nothing has happened -/
def Sb.new (ms : Ms) (zs : List Int) : Sb := ⟨0, 0, 0, [], [], dinit zs, ms, 0, 0, 0⟩
def NewB (w : World) (am : Am) (ms : Ms) (zs : List Int) (e : Ending) (w' : World) : Prop :=
  ∃ (a : Ab) (F : Nat → Prop), e = .returned (.tuple #[.pointer (some ⟨a.gB, 0, none⟩), .int .i64 0]) ∧ a.am = am ∧ Bus w' F a (Sb.new ms zs) ∧ (∀ k, a.wr F k ∨ k = a.gd → w.heap.size ≤ k ∨ am.own k) ∧ Fr (fun _ => False) w w'
set_option maxRecDepth 100000 in
theorem new_any (w : World) (am : Am) (ms : Ms) (hM : Mem w am ms) (htu : ∀ k, ms.n ≤ k → k < 64 → ms.tu k = false) (A : Option Addr) (len cap : Nat) (zs : List Int) (hz : IntsAt .u8 w w.heap.size A len zs) (hl : len ≤ 1024) :
    Calls Tryd.prog 27 #[.pointer (some ⟨am.gm, 0, none⟩), .slice A len cap] w (NewB w am ms zs) := by
  have HM := Lib.hid hM
  have Hown := Lib.hid hM.lt
  have Htu := Lib.hid htu
  clear hM htu
  have Hn := Lib.hid (Dr.new_any w A len cap zs hz hl)
  clear hz
  go_enter Tryd.func27, Tryd.ntmps27
  go_wp2_with fail
  refine (Hn.out).mono ?_
  rintro e w1 ⟨gd, ge, rfl, hD, hgd, hge, f1⟩
  go_wp2_with fail
  refine (Iq.new_any w1).mono ?_
  rintro e w2 ⟨rfl, hc, f2⟩
  go_wp2_with fail
  refine (Tm.new_any w2).mono ?_
  rintro e w3 ⟨rfl, ht, f3⟩
  go_wp2_with fail
  refine (Co.new_any w3 0 (Nat.zero_le _)).mono ?_
  rintro e w4 ⟨rfl, hk, f4⟩
  have s1 := f1.size
  have s2 := f2.size
  have s3 := f3.size
  have s4 := f4.size
  have l1 := hD.lt
  have l2 := Iq.Ctl.lt hc
  have l3 := Tm.Tmr.lt ht
  have l4 := con_lt hk _ rfl
  have hfin : NewB w am ms zs (.returned (.tuple #[.pointer (some ⟨w4.heap.size, 0, none⟩), .int .i64 0])) (w4.alloc (.cells #[.pointer (some ⟨w1.heap.size, 0, none⟩), .pointer (some ⟨w2.heap.size, 0, none⟩), .pointer (some ⟨w3.heap.size, 0, none⟩), .pointer (some ⟨gd, 0, none⟩), .pointer (some ⟨am.gm, 0, none⟩), .int .u32 0, .int .u32 0, .int .u32 0] 35)) := by
    have g4 := f4.alloc (.cells #[.pointer (some ⟨w1.heap.size, 0, none⟩), .pointer (some ⟨w2.heap.size, 0, none⟩), .pointer (some ⟨w3.heap.size, 0, none⟩), .pointer (some ⟨gd, 0, none⟩), .pointer (some ⟨am.gm, 0, none⟩), .int .u32 0, .int .u32 0, .int .u32 0] 35)
    have g5 := (Fr.refl (fun _ => False) w4).alloc (.cells #[.pointer (some ⟨w1.heap.size, 0, none⟩), .pointer (some ⟨w2.heap.size, 0, none⟩), .pointer (some ⟨w3.heap.size, 0, none⟩), .pointer (some ⟨gd, 0, none⟩), .pointer (some ⟨am.gm, 0, none⟩), .int .u32 0, .int .u32 0, .int .u32 0] 35)
    have gg := f2.tr (f3.tr g4)
    refine ⟨⟨w4.heap.size, w1.heap.size, w2.heap.size, w3.heap.size, gd, ge, am⟩, (· = w3.heap.size), rfl, rfl,
      ⟨Blk.new _ _ _, hc.fr (f3.tr g4) (fun e => e), ht.fr g4 (fun e => e), hk.fr g5 (fun _ _ e => e), hD.fr gg (fun e => e) (fun e => e), HM.out.fr0 (f1.tr gg), ?_, ?_, ⟨by show 0 < 256; omega, by show 0 < 256; omega, ⟨Int.le_refl _, by show (0 : Int) ≤ 4294967295; omega⟩, by show 0 ≤ 64; omega, (fun z hz => by cases hz), (fun z hz => by cases hz), ⟨Int.le_refl _, by show (0 : Int) ≤ 4294967295; omega⟩, ⟨Int.le_refl _, by show (0 : Int) ≤ 4294967295; omega⟩, .inl rfl, Htu.out⟩⟩, ?_, f1.tr gg⟩
    · rintro k rfl
      refine ⟨by show w3.heap.size ≠ w4.heap.size; omega, by show w3.heap.size ≠ w1.heap.size; omega, by show w3.heap.size ≠ w2.heap.size; omega, by show w3.heap.size ≠ gd; omega, by show w3.heap.size ≠ ge; omega, fun e => ?_⟩
      have := Hown.out _ e
      omega
    · intro k hk'
      have := Hown.out k hk'
      exact ⟨by show k ≠ w4.heap.size; omega, by show k ≠ w1.heap.size; omega, by show k ≠ w2.heap.size; omega, by show k ≠ gd; omega, by show k ≠ ge; omega⟩
    · intro k hk'
      rcases hk' with (e | e | e | e | e | e) | e
      · left; have e : k = w4.heap.size := e; omega
      · left; have e : k = w1.heap.size := e; omega
      · left; have e : k = w2.heap.size := e; omega
      · left; have e : k = ge := e; omega
      · exact .inr e
      · left; omega
      · left; have e : k = gd := e; omega
  have HF := Lib.hid hfin
  clear hfin hk ht hc hD
  go_wp2_with fail
  go_ret2
  exact HF.out
end Go.Proofs.YthiephlfhbkcbaaDoor.Bs
