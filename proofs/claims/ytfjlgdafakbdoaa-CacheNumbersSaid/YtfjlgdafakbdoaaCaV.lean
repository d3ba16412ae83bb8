/- The document's cache: Put. -/
import Derived.Test.YtfjlgdafakbdoaaCaU
namespace Go.Proofs.Ytfjlgdafakbdoaa.Ca
open Go.RowKit Mz Go.Maps By
set_option linter.unusedVariables false
set_option linter.unusedSimpArgs false
set_option maxHeartbeats 4000000

def vkeys (L : List Dv) : List Ky := L.map Dv.k
def views (d : Ds) : List Dv := d.bl.map Db.v
theorem vkeys_views (d : Ds) : vkeys (views d) = dkeys d := by unfold vkeys views dkeys; rw [List.map_map]; rfl
/-- behind Put: what is seen, and the flushes -/
def vput (room : Int) (L : List Dv) (fl : Int) (v : Dv) : List Dv × Int :=
  if 0 ≤ ixK v.k (vkeys L) then ((L.map (unlV v.k)).set (ixK v.k (vkeys L)).toNat v, fl) else if room ≤ L.length then ([v], fl + 1) else (L ++ [v], fl)
section
variable {w w' w6 : World} {g : Nat} {d : Ds}
theorem Doc.ok_len (h : Doc w g d) : d.bl.length ≤ 1024 := by have := h.ok.len; have := h.ok.room; omega
theorem Doc.snoc (h : Doc w g d) {A : Option Addr} {c : Nat} {b : Db} (f : Fr (fun x => ab d.A = some x) w w6) (ho : w6.ownsRow 0 73 5 (.slice A (d.bl.length + 1) c) (d.bl.length + 1) (fcells 5 dc (d.bl ++ [b]))) (hb : b.ks = [] ∧ b.A = none ∧ b.c = 0) (hok : ({ d with bl := d.bl ++ [b], A := A, c := c } : Ds).Ok) :
    Doc (w6.setCell ⟨g, 0, none⟩ (.slice A (d.bl.length + 1) c)) g { d with bl := d.bl ++ [b], A := A, c := c } := by
  have hn := fun x hx => h.ne_gl (x := x) hx
  have hl : (d.bl ++ [b]).length = d.bl.length + 1 := by simp
  have hg6 := h.b.fr f (fun e => (hn g e).1 rfl)
  have fs : Fr (fun q => q = g) w6 (w6.setCell ⟨g, 0, none⟩ (.slice A (d.bl.length + 1) c)) := (Fr.refl (fun q => q = g) w6).setCell (p := ⟨g, 0, none⟩) (.inl rfl) _
  have hne : ∀ q, ab A = some q → ¬ q = g := fun q hq e => by
    obtain ⟨_, _, cs, hb2⟩ := own_blk ho q hq
    subst e
    exact Blk.ne_ hb2 hg6 (by decide) rfl
  refine ⟨?_, ?_, fun b' hb' => ?_, ?_, hok⟩
  · have := hg6.set_ 0 (.slice A (d.bl.length + 1) c)
    unfold cells3 at this ⊢
    rw [show ({ d with bl := d.bl ++ [b], A := A, c := c } : Ds).bl.length = d.bl.length + 1 from hl]
    exact this
  · unfold DRow
    rw [show ({ d with bl := d.bl ++ [b], A := A, c := c } : Ds).bl.length = d.bl.length + 1 from hl]
    exact own_fr ho fs (fun q hq => hne q (ab_own hq))
  · rcases List.mem_append.1 hb' with h1 | h1
    · refine ((h.rows b' h1).fr f (fun k hk e => (hn k e).2 b' h1 hk)).fr fs (fun k hk e => ?_)
      obtain ⟨_, _, cs, hb2⟩ := own_blk ((h.rows b' h1).fr f (fun k hk e => (hn k e).2 b' h1 hk)) k hk
      subst e
      exact Blk.ne_ hb2 hg6 (by decide) rfl
    · rw [List.mem_singleton.1 h1]
      unfold LnkOk
      rw [hb.1, hb.2.1, hb.2.2]
      exact ⟨rfl, .inl ⟨rfl, rfl⟩⟩
  · show (d.bl ++ [b]).Pairwise _
    rw [List.pairwise_append]
    refine ⟨h.sep, List.pairwise_singleton _ _, fun p hp q hq k hk => ?_⟩
    rw [List.mem_singleton.1 hq, hb.2.1]
    simp [ab]
theorem infoB : (Try.prog.info? 73).map (fun i => (i.zero, i.size, i.bytes)) = some (some (.agg #[.int .u32 0, .int .u32 0, .string ByteArray.empty, .int .i64 0, .slice none 0 0]), 5, 56) := by kernel_rfl
theorem fcells_snoc (l : List Db) (b : Db) : fcells 5 dc (l ++ [b]) = fcells 5 dc l ++ [.int .u32 b.pc, .int .u32 b.pl, .string b.code, .int .i64 b.ct, .slice b.A b.ks.length b.c] := by
  unfold fcells
  rw [List.flatMap_append]
  rfl
end
/-- what Put leaves -/
def RPut (w : World) (g : Nat) (d : Ds) (v : Dv) (e : Ending) (w' : World) : Prop :=
  e = .returned (.bool true) ∧ ∃ d' : Ds, Doc w' g d' ∧ d'.room = d.room ∧ (views d', d'.fl) = vput d.room (views d) d.fl v ∧ (∀ q, d'.own g q → d.own g q ∨ w.heap.size ≤ q) ∧ Fr (d.own g) w w'
theorem rput_no (w : World) (g : Nat) (d : Ds) (h : Doc w g d) (pc pl : Int) (code : ByteArray) (ct : Int) (hct : ct ≤ 0 ∨ code = ByteArray.empty) (hlo : -9223372036854775808 ≤ ct ∧ ct ≤ 9223372036854775807) :
    Calls Try.prog 32 #[.pointer (some ⟨g, 0, none⟩), .agg #[.int .u32 pc, .int .u32 pl, .string code, .int .i64 ct, .slice none 0 0]] w fun e w' => e = .returned (.bool false) ∧ Fr (fun _ => False) w w' := by
  obtain ⟨l0, l1⟩ := hlo
  rcases hct with hc | rfl
  · have hd : decide (ct < 1) = true := by simp; omega
    go_enter Try.func32, Try.ntmps32
    go_wp2
    go_ret
    exact ⟨rfl, (Fr.refl _ _).alloc _⟩
  · by_cases hc : ct < 1
    · have hd : decide (ct < 1) = true := by simp; omega
      go_enter Try.func32, Try.ntmps32
      go_wp2
      go_ret
      exact ⟨rfl, (Fr.refl _ _).alloc _⟩
    · have hd : decide (ct < 1) = false := by simp; omega
      go_enter Try.func32, Try.ntmps32
      go_wp2
      go_ret
      exact ⟨rfl, (Fr.refl _ _).alloc _⟩
theorem rput_app {w W5 w6 : World} {g : Nat} {d d5 : Ds} {pc pl : Int} {code : ByteArray} {ct : Int} {A : Option Addr} {c : Nat} {o : Obj} (h5 : Doc W5 g d5) (hrm : d5.room = d.room) (how : ∀ q, d5.own g q → d.own g q ∨ w.heap.size ≤ q) (f5 : Fr (d.own g) w W5) (hlen : (d5.bl.length : Int) < d5.room) (hct : 1 ≤ ct ∧ ct ≤ 9223372036854775807) (hk : Ky.Ok (pc, pl))
    (ho : w6.ownsRow 0 73 5 (.slice A (d5.bl.length + 1) c) (d5.bl.length + 1) (fcells 5 dc d5.bl ++ [.int .u32 pc, .int .u32 pl, .string code, .int .i64 ct, .slice none 0 0]))
    (hg : (W5.alloc o).drew.grownBy w6 (Value.slice d5.A d5.bl.length d5.c).ownBlock) (hat : (Value.slice A (d5.bl.length + 1) c).ownBlock = (Value.slice d5.A d5.bl.length d5.c).ownBlock ∨ (Value.slice A (d5.bl.length + 1) c).ownBlock = some (W5.alloc o).drew.heap.size)
    (hput : vput d.room (views d) d.fl ⟨(pc, pl), code, ct, []⟩ = (views d5 ++ [⟨(pc, pl), code, ct, []⟩], d5.fl)) :
    RPut w g d ⟨(pc, pl), code, ct, []⟩ (.returned (.bool true)) (w6.setCell ⟨g, 0, none⟩ (.slice A (d5.bl.length + 1) c)) := by
  have fc : Fr (fun x => ab d5.A = some x) W5 w6 := (((Fr.refl _ W5).alloc o).drew).grown hg (fun q hq => .inl (ab_own hq))
  have ho2 : w6.ownsRow 0 73 5 (.slice A (d5.bl.length + 1) c) (d5.bl.length + 1) (fcells 5 dc (d5.bl ++ [⟨pc, pl, code, ct, [], none, 0⟩])) := by rw [fcells_snoc]; exact ho
  have ok := h5.ok
  have hok : ({ d5 with bl := d5.bl ++ [⟨pc, pl, code, ct, [], none, 0⟩], A := A, c := c } : Ds).Ok := by
    refine ⟨ok.room, by show (((d5.bl ++ [_]).length : Nat) : Int) ≤ _; rw [List.length_append]; simp; omega, ?_, ?_, ?_, ok.fl⟩
    all_goals
      intro b' hb'
      rcases List.mem_append.1 hb' with h1 | h1
    · exact ok.keys b' h1
    · rw [List.mem_singleton.1 h1]; exact hk
    · exact ok.ct b' h1
    · rw [List.mem_singleton.1 h1]; exact hct
    · exact ok.lk b' h1
    · rw [List.mem_singleton.1 h1]; show 0 ≤ 1000000; omega
  have hdoc := h5.snoc (b := ⟨pc, pl, code, ct, [], none, 0⟩) fc ho2 ⟨rfl, rfl, rfl⟩ hok
  have hs5 := f5.size
  refine ⟨rfl, _, hdoc, hrm, ?_, fun q hq => ?_, ?_⟩
  · rw [hput]
    refine Prod.ext ?_ rfl
    show (d5.bl ++ [_]).map Db.v = _
    rw [List.map_append]
    rfl
  · rcases hq with h3 | h3 | ⟨b', hb', h3⟩
    · exact how q (.inl h3)
    · have h4 : (Value.slice A (d5.bl.length + 1) c).ownBlock = some q := by
        rcases ho.2 with ⟨e1, _⟩ | ⟨g', cap, cur, e1, _⟩
        · have e2 : A = none := by injection e1
          rw [e2] at h3; cases h3
        · have e2 : A = some ⟨g', 0, none⟩ := by injection e1
          rw [e2] at h3 ⊢
          simpa [Value.ownBlock, ab] using h3
      rcases hat with h6 | h6
      · rw [h4] at h6
        exact how q (.inr (.inl (ab_own h6.symm)))
      · rw [h4] at h6
        injection h6 with h6
        right
        have h7 : (W5.alloc o).drew.heap.size = W5.heap.size + 1 := by show (W5.heap.push _).size = _; simp
        omega
    · rcases List.mem_append.1 hb' with h4 | h4
      · exact how q (.inr (.inr ⟨b', h4, h3⟩))
      · rw [List.mem_singleton.1 h4] at h3; cases h3
  · have f6 : Fr (d5.own g) W5 w6 := fc.mono (fun q _ e => .inr (.inl e))
    have f7 := f6.setCell (p := ⟨g, 0, none⟩) (.inl (.inl rfl)) (.slice A (d5.bl.length + 1) c)
    refine f5.trans f7 (fun q hq e => ?_)
    rcases how q e with h | h
    · exact h
    · omega
set_option maxRecDepth 100000 in
theorem rput_any (w : World) (g : Nat) (d : Ds) (h : Doc w g d) (pc pl : Int) (code : ByteArray) (ct : Int) (hct : 1 ≤ ct ∧ ct ≤ 9223372036854775807) (hcode : code.toList.isEmpty = false) (hk : Ky.Ok (pc, pl)) (hf : d.fl < 1000000) :
    Calls Try.prog 32 #[.pointer (some ⟨g, 0, none⟩), .agg #[.int .u32 pc, .int .u32 pl, .string code, .int .i64 ct, .slice none 0 0]] w (RPut w g d ⟨(pc, pl), code, ct, []⟩) := by
  obtain ⟨i0, hin, hz0, hz1, hz2⟩ := info_parts infoB
  obtain ⟨t0, t1⟩ := hct
  have hd1 : decide (ct < 1) = false := by simp; omega
  have hcl : (code.toList = []) = False := by simp at hcode; simp [hcode]
  have f1 := (Fr.refl (fun _ => False) w).alloc (.cells #[.int .u32 pc, .int .u32 pl, .string code, .int .i64 ct, .slice none 0 0] 73)
  have b1 := Blk.new w 73 #[.int .u32 pc, .int .u32 pl, .string code, .int .i64 ct, .slice none 0 0]
  have Hat := Lib.hid (rat_any _ g d (h.fr0 f1) (pc, pl))
  obtain ⟨ix, hix⟩ : ∃ q, ixK (pc, pl) (dkeys d) = q := ⟨_, rfl⟩
  rw [hix] at Hat
  have hlo := ixK_lo (pc, pl) (dkeys d)
  rw [hix] at hlo
  have hlo2 : ix < (d.bl.length : Int) := by have := hlo.2; unfold dkeys at this; simpa using this
  have hlo1 := hlo.1
  have hl24 := h.ok_len
  have HIX := Lib.hid hix
  have H := Lib.hid h
  have F1 := Lib.hid f1
  have B1 := Lib.hid b1
  clear h f1 b1 hix hlo
  go_enter Try.func32, Try.ntmps32
  go_wp2_with fail
  refine (Hat.out).mono ?_
  rintro e w' ⟨rfl, rfl⟩
  by_cases hge : 0 ≤ ix
  · have hd2 : decide (0 ≤ ix) = true := by simpa using hge
    have Hul := Lib.hid (runlink_any _ g d (H.out.fr0 F1.out) (pc, pl))
    go_wp2_with fail
    refine (Hul.out).mono ?_
    rintro e w2 ⟨rfl, d1, h1, e1, e2, e3, e4, e5, e6, e7, e8⟩
    obtain ⟨i, rfl⟩ : ∃ i : Nat, ix = i := ⟨ix.toNat, by omega⟩
    have hi : i < d1.bl.length := by omega
    obtain ⟨gl, hgl, hgll, hc⟩ := drow_cells h1.r hi
    obtain ⟨c0, _, _⟩ := h1.cells
    obtain ⟨n, hn⟩ : ∃ n, d1.bl.length = n := ⟨_, rfl⟩
    rw [hn, hgl] at c0
    generalize d1.c = dcap at c0
    have hin' : (i : Int) < (n : Int) := by omega
    have hn24 : n ≤ 1024 := by omega
    have z0 : w2.frozen? ⟨gl, i * 5, none⟩ = false := (hc 0 (by omega)).2
    have z1 := (hc 1 (by omega)).2
    have z2 := (hc 2 (by omega)).2
    have z3 := (hc 3 (by omega)).2
    have z4 := (hc 4 (by omega)).2
    have y0 : w2.cell? ⟨gl, i * 5, none⟩ = some (dc (nthD d1.bl i) 0) := (hc 0 (by omega)).1
    have y1 := (hc 1 (by omega)).1
    have y2 := (hc 2 (by omega)).1
    have y3 := (hc 3 (by omega)).1
    have y4 := (hc 4 (by omega)).1
    have hs2 := e8.size
    have hs1 : (w.alloc (.cells #[.int .u32 pc, .int .u32 pl, .string code, .int .i64 ct, .slice none 0 0] 73)).heap.size = w.heap.size + 1 := by simp
    rw [hs1] at hs2
    have hAl := (own_blk H.out.r gl (by rw [← e1, hgl]; rfl)).1
    have B2 := B1.out.fr e8 (fun e => by rw [← e1, hgl] at e; have e : gl = w.heap.size := (by simpa [ab] using e); omega)
    have x0 := B2.cell 0
    have x1 := B2.cell 1
    have x2 := B2.cell 2
    have x3 := B2.cell 3
    have x4 := B2.cell 4
    have hp0 := nthD_at hi
    generalize hy : dc (nthD d1.bl i) 0 = yy0 at y0
    generalize hy1 : dc (nthD d1.bl i) 1 = yy1 at y1
    generalize hy2 : dc (nthD d1.bl i) 2 = yy2 at y2
    generalize hy3 : dc (nthD d1.bl i) 3 = yy3 at y3
    generalize hy4 : dc (nthD d1.bl i) 4 = yy4 at y4
    have hlen1 : d1.bl.length = d.bl.length := e5
    have hdk : dkeys d1 = dkeys d := by
      unfold dkeys
      apply List.ext_getElem
      · simp [e5]
      · intro q h2 h3
        have hq : q < d.bl.length := by simpa using h3
        have := e6 q hq
        rw [if_pos hq] at this
        have := congrArg Dv.k this
        rw [List.getElem_map, List.getElem_map, ← nthD_at (by omega), ← nthD_at hq]
        exact this
    have HP : Hid (RPut w g d ⟨(pc, pl), code, ct, []⟩ (.returned (.bool true)) (((((w2.setCell ⟨gl, i * 5, none⟩ (.int .u32 pc)).setCell ⟨gl, i * 5 + 1, none⟩ (.int .u32 pl)).setCell ⟨gl, i * 5 + 2, none⟩ (.string code)).setCell ⟨gl, i * 5 + 3, none⟩ (.int .i64 ct)).setCell ⟨gl, i * 5 + 4, none⟩ (.slice none 0 0)).drew) := Lib.hid (by
      obtain ⟨b, hb⟩ : ∃ b : Db, b = ⟨pc, pl, code, ct, [], none, 0⟩ := ⟨_, rfl⟩
      have h2 := h1
      have fA : ab d1.A = some gl := by rw [hgl]; rfl
      have f0 := Fr.refl (fun x => ab d1.A = some x) w2
      have f1 := f0.setCell (p := ⟨gl, i * 5, none⟩) (.inl fA) (.int .u32 pc)
      have f2 := f1.setCell (p := ⟨gl, i * 5 + 1, none⟩) (.inl fA) (.int .u32 pl)
      have f3 := f2.setCell (p := ⟨gl, i * 5 + 2, none⟩) (.inl fA) (.string code)
      have f4 := f3.setCell (p := ⟨gl, i * 5 + 3, none⟩) (.inl fA) (.int .i64 ct)
      have f5 := (f4.setCell (p := ⟨gl, i * 5 + 4, none⟩) (.inl fA) (.slice none 0 0)).drew
      have hrow : DRow (((((w2.setCell ⟨gl, i * 5, none⟩ (.int .u32 pc)).setCell ⟨gl, i * 5 + 1, none⟩ (.int .u32 pl)).setCell ⟨gl, i * 5 + 2, none⟩ (.string code)).setCell ⟨gl, i * 5 + 3, none⟩ (.int .i64 ct)).setCell ⟨gl, i * 5 + 4, none⟩ (.slice none 0 0)).drew d1.A d1.c (d1.bl.set i b) := by
        have hr := h1.r
        rw [hgl] at hr ⊢
        refine drow_set (F := fun _ => undef) hr hi b (fun {cs F0} hc hF => ⟨_, ((((hc.set_ (i * 5) (.int .u32 pc)).set_ (i * 5 + 1) (.int .u32 pl)).set_ (i * 5 + 2) (.string code)).set_ (i * 5 + 3) (.int .i64 ct)).set_ (i * 5 + 4) (.slice none 0 0), fun j hj => ?_, fun p hp => ?_⟩)
        · unfold putV
          rw [hb]
          rcases (by omega : j = 0 ∨ j = 1 ∨ j = 2 ∨ j = 3 ∨ j = 4) with rfl | rfl | rfl | rfl | rfl
          · rw [if_neg (by omega), if_neg (by omega), if_neg (by omega), if_neg (by omega), if_pos (by omega)]; rfl
          · rw [if_neg (by omega), if_neg (by omega), if_neg (by omega), if_pos rfl]; rfl
          · rw [if_neg (by omega), if_neg (by omega), if_pos rfl]; rfl
          · rw [if_neg (by omega), if_pos rfl]; rfl
          · rw [if_pos rfl]; rfl
        · unfold putV
          rw [if_neg (by omega), if_neg (by omega), if_neg (by omega), if_neg (by omega), if_neg (by omega)]
      have ok1 := h1.ok
      have hok : ({ d1 with bl := d1.bl.set i b } : Ds).Ok := by
        refine ⟨ok1.room, by show ((d1.bl.set i b).length : Int) ≤ _; rw [List.length_set]; exact ok1.len, ?_, ?_, ?_, ok1.fl⟩
        all_goals
          intro b' hb'
          rcases List.mem_or_eq_of_mem_set hb' with h1 | h1
        · exact ok1.keys b' h1
        · rw [h1, hb]; exact hk
        · exact ok1.ct b' h1
        · rw [h1, hb]; exact ⟨t0, t1⟩
        · exact ok1.lk b' h1
        · rw [h1, hb]; show 0 ≤ 1000000; omega
      have hlk : LnkOk (((((w2.setCell ⟨gl, i * 5, none⟩ (.int .u32 pc)).setCell ⟨gl, i * 5 + 1, none⟩ (.int .u32 pl)).setCell ⟨gl, i * 5 + 2, none⟩ (.string code)).setCell ⟨gl, i * 5 + 3, none⟩ (.int .i64 ct)).setCell ⟨gl, i * 5 + 4, none⟩ (.slice none 0 0)).drew b := by
        rw [hb]; exact ⟨rfl, .inl ⟨rfl, rfl⟩⟩
      have hdoc := h1.setB f5 hi hrow hlk (fun p hp hne k hk => by rw [hb] at hk; cases hk) hok
      refine ⟨rfl, _, hdoc, e3, ?_, fun q hq => ?_, ?_⟩
      · have hpos : 0 ≤ ixK (pc, pl) (vkeys (views d)) := by rw [vkeys_views, HIX.out]; omega
        unfold vput
        rw [if_pos hpos]
        have hfl : d1.fl = d.fl := e4
        have hvv : views { d1 with bl := d1.bl.set i b } = ((views d).map (unlV (pc, pl))).set (ixK (pc, pl) (vkeys (views d))).toNat ⟨(pc, pl), code, ct, []⟩ := by
          rw [vkeys_views, HIX.out]
          unfold views
          show (d1.bl.set i b).map Db.v = _
          apply List.ext_getElem
          · simp [hlen1]
          · intro q q1 q2
            have hq : q < d.bl.length := by simp at q1; omega
            have h6 := e6 q hq
            rw [if_pos hq, nthD_at (by omega), nthD_at hq] at h6
            simp only [List.getElem_map, List.getElem_set, Int.toNat_natCast]
            by_cases e : i = q
            · rw [if_pos e, if_pos e, hb]; rfl
            · rw [if_neg e, if_neg e]; exact h6
        rw [hvv]
        exact Prod.ext rfl hfl
      · have hq' : d1.own g q := by
          rcases hq with h3 | h3 | ⟨b', hb', h3⟩
          · exact .inl h3
          · exact .inr (.inl h3)
          · rcases List.mem_or_eq_of_mem_set hb' with h4 | h4
            · exact .inr (.inr ⟨b', h4, h3⟩)
            · rw [h4, hb] at h3; cases h3
        rcases e7 q hq' with h3 | h3
        · exact .inl h3
        · right; have := F1.out.size; omega
      · refine ((F1.out.mono (S' := d.own g) (fun _ _ e => e.elim)).tr (e8.mono (fun q _ e => .inr (.inl e)))).tr (f5.mono (fun q _ e => ?_))
        rw [e1] at e
        exact .inr (.inl e))
    clear hy hy1 hy2 hy3 hy4 hp0 B2 e1 e2 e3 e4 e5 e6 e7 e8 hc hgl hn h1 hgll hs1 hAl
    go_upto_region 7 with (fail)
    go_still_tail 7, (by kernel_rfl)
    change wpList _ _ _ _ _ w2.drew
    go_wp2_with fail
    go_ret
    exact HP.out
  · have hd2 : decide (0 ≤ ix) = false := by simpa using hge
    have hix0 : ix < 0 := by omega
    have h1 := H.out.fr0 F1.out
    obtain ⟨c0, c1, c2⟩ := h1.cells
    obtain ⟨n, hn⟩ : ∃ n, d.bl.length = n := ⟨_, rfl⟩
    obtain ⟨dA, hdA⟩ : ∃ q, d.A = q := ⟨_, rfl⟩
    obtain ⟨dcap, hdc⟩ : ∃ q, d.c = q := ⟨_, rfl⟩
    obtain ⟨room, hrm⟩ : ∃ q, d.room = q := ⟨_, rfl⟩
    rw [hn, hdA, hdc] at c0
    rw [hrm] at c1
    have hroom := H.out.ok.room
    have hlen := H.out.ok.len
    rw [hrm] at hroom
    rw [hn, hrm] at hlen
    obtain ⟨rm0, rm1⟩ := hroom
    have hn24 : n ≤ 1024 := by omega
    have HN := Lib.hid hn
    have HA := Lib.hid hdA
    have HDC := Lib.hid hdc
    have HRM := Lib.hid hrm
    have hlt0 : w.heap.size < (w.alloc (.cells #[.int .u32 pc, .int .u32 pl, .string code, .int .i64 ct, .slice none 0 0] 73)).heap.size := by simp
    clear hn hdA hdc hrm hge h1 c2
    go_upto_region 9 with (fail)
    go_quiet (fail)
    generalize hwq : (w.alloc (.cells #[.int .u32 pc, .int .u32 pl, .string code, .int .i64 ct, .slice none 0 0] 73)).drewN _ = wq
    have fq : Fr (fun _ => False) (w.alloc (.cells #[.int .u32 pc, .int .u32 pl, .string code, .int .i64 ct, .slice none 0 0] 73)) wq := by rw [← hwq]; exact (Fr.refl _ _).drewN _
    have HQ := Lib.hid ((H.out.fr0 F1.out).fr0 fq)
    have FQ := Lib.hid (F1.out.tr fq)
    have BQ := Lib.hid (B1.out.fr fq (fun e => e))
    clear hwq fq c0 c1 hlt0
    by_cases hfull : room ≤ (n : Int)
    · have hd3 : decide (room ≤ (n : Int)) = true := by simpa using hfull
      have Hfl := Lib.hid (rflush_any wq g d HQ.out hf)
      go_wp2_with fail
      refine (Hfl.out).mono ?_
      rintro e w5 ⟨rfl, h5, f5⟩
      have hlow := HQ.out.b.lt
      have B5 := BQ.out.fr f5 (fun e => by have := H.out.b.lt; omega)
      have F5 : Hid (Fr (d.own g) w w5) := Lib.hid ((FQ.out.mono (S' := d.own g) (fun _ _ e => e.elim)).tr (f5.mono (fun q _ e => .inl e)))
      have hput : vput d.room (views d) d.fl ⟨(pc, pl), code, ct, []⟩ = (views d.flush ++ [⟨(pc, pl), code, ct, []⟩], d.flush.fl) := by
        unfold vput
        rw [if_neg (by rw [vkeys_views, HIX.out]; omega), if_pos (by rw [HRM.out]; unfold views; rw [List.length_map, HN.out]; exact hfull)]
        rfl
      have HPUT := Lib.hid hput
      have H5 := Lib.hid h5
      have HOW : Hid (∀ q, d.flush.own g q → d.own g q ∨ w.heap.size ≤ q) := Lib.hid (fun q hq => by
        rcases hq with h3 | h3 | ⟨b', hb', h3⟩
        · exact .inl (.inl h3)
        · cases h3
        · cases hb')
      have c0 : w5.cell? ⟨g, 0, none⟩ = some (.slice none 0 0) := h5.cells.1
      have hgl := h5.b.lt
      have kb0 := Lib.hid (((h5.b).alloc (.cells #[.int .u32 pc, .int .u32 pl, .string code, .int .i64 ct, .slice none 0 0] 73)).drew)
      have OWN : Hid ((w5.alloc (.cells #[.int .u32 pc, .int .u32 pl, .string code, .int .i64 ct, .slice none 0 0] 73)).drew.ownsRow 0 73 5 (.slice none 0 0) 0 (fcells 5 dc [])) := Lib.hid ⟨rfl, .inl ⟨rfl, rfl⟩⟩
      have HRD : Hid (Reads (w5.alloc (.cells #[.int .u32 pc, .int .u32 pl, .string code, .int .i64 ct, .slice none 0 0] 73)).drew (w5.heap.size + 1) 5 (some ⟨w5.heap.size, 0, none⟩) 1 [.int .u32 pc, .int .u32 pl, .string code, .int .i64 ct, .slice none 0 0]) := Lib.hid (by
        have := reads_blk (size := 5) (n := 1) (Blk.new w5 73 #[.int .u32 pc, .int .u32 pl, .string code, .int .i64 ct, .slice none 0 0]) rfl
        exact this)
      have d0 := B5.cell 0
      have d1 := B5.cell 1
      have d2 := B5.cell 2
      have d3 := B5.cell 3
      have d4 := B5.cell 4
      clear h5 f5 hput B5 Hfl hlow
      go_upto_region 11 with (fail)
      go_region_law (
        refine step_append_any _ rfl (.tmp 52) (.tmp 54) 66 rfl 0 73 i0 _ 5 56 Try.underlying66 hin hz0 hz1 hz2 rfl (by omega) (.slice none 0 0) 0 _ (by simp [Act.eval, Act.put]) OWN.out (w5.heap.size + 1) (some ⟨w5.heap.size, 0, none⟩) 1 1 [.int .u32 pc, .int .u32 pl, .string code, .int .i64 ct, .slice none 0 0] (by simp [Act.eval, Act.put]) HRD.out (by simp [Value.oneCell']) (by simp only [maxLen]; omega) (by omega) (Nat.zero_le _) ?_
        intro v1 w6 hown1 hg1 hat1
        obtain ⟨A2, c2, hv1⟩ := slice_form hown1
        subst hv1
        have kb := kb0.out.grown hg1 (by simp [Value.ownBlock])
        have k0 : w6.cell? ⟨g, 0, none⟩ = some (.slice none 0 0) := kb.cell 0
        have y0 := kb.frozen 0)
      all_goals
        have HO := Lib.hid hown1
        have HG := Lib.hid hg1
        have HAT := Lib.hid hat1
        clear hown1 hg1 hat1
        go_wp2_with fail
        go_ret
        exact rput_app H5.out rfl HOW.out F5.out (by show ((0 : Nat) : Int) < d.room; rw [HRM.out]; omega) ⟨t0, t1⟩ hk HO.out HG.out HAT.out HPUT.out
    · have hd3 : decide (room ≤ (n : Int)) = false := by simpa using hfull
      have hput : vput d.room (views d) d.fl ⟨(pc, pl), code, ct, []⟩ = (views d ++ [⟨(pc, pl), code, ct, []⟩], d.fl) := by
        unfold vput
        rw [if_neg (by rw [vkeys_views, HIX.out]; omega), if_neg (by rw [HRM.out]; unfold views; rw [List.length_map, HN.out]; exact hfull)]
      have HPUT := Lib.hid hput
      have h5 := HQ.out
      obtain ⟨c0, _, _⟩ := h5.cells
      rw [HN.out, HA.out, HDC.out] at c0
      have hgl := h5.b.lt
      have hr := h5.r
      unfold DRow at hr
      rw [HN.out, HA.out, HDC.out] at hr
      have hne := (fun x hx => (h5.ne_gl (x := x) hx).1)
      rw [HA.out] at hne
      have HNE : Hid ((Value.slice dA n dcap).ownBlock ≠ some g) := Lib.hid (fun e => hne g (ab_own e) rfl)
      have kb0 := Lib.hid (((h5.b).alloc (.cells #[.int .u32 pc, .int .u32 pl, .string code, .int .i64 ct, .slice none 0 0] 73)).drew)
      have OWN : Hid ((wq.alloc (.cells #[.int .u32 pc, .int .u32 pl, .string code, .int .i64 ct, .slice none 0 0] 73)).drew.ownsRow 0 73 5 (.slice dA n dcap) n (fcells 5 dc d.bl)) := Lib.hid (hr.alloc _)
      have HRD : Hid (Reads (wq.alloc (.cells #[.int .u32 pc, .int .u32 pl, .string code, .int .i64 ct, .slice none 0 0] 73)).drew (wq.heap.size + 1) 5 (some ⟨wq.heap.size, 0, none⟩) 1 [.int .u32 pc, .int .u32 pl, .string code, .int .i64 ct, .slice none 0 0]) := Lib.hid (by
        have := reads_blk (size := 5) (n := 1) (Blk.new wq 73 #[.int .u32 pc, .int .u32 pl, .string code, .int .i64 ct, .slice none 0 0]) rfl
        exact this)
      have d0 := BQ.out.cell 0
      have d1 := BQ.out.cell 1
      have d2 := BQ.out.cell 2
      have d3 := BQ.out.cell 3
      have d4 := BQ.out.cell 4
      clear h5 hput hr hne
      go_upto_region 11 with (fail)
      go_region_law (
        refine step_append_any _ rfl (.tmp 52) (.tmp 54) 66 rfl 0 73 i0 _ 5 56 Try.underlying66 hin hz0 hz1 hz2 rfl (by omega) (.slice dA n dcap) n _ (by simp [Act.eval, Act.put]) OWN.out (wq.heap.size + 1) (some ⟨wq.heap.size, 0, none⟩) 1 1 [.int .u32 pc, .int .u32 pl, .string code, .int .i64 ct, .slice none 0 0] (by simp [Act.eval, Act.put]) HRD.out (by simp [Value.oneCell']) (by simp only [maxLen]; omega) (by omega) (Nat.zero_le _) ?_
        intro v1 w6 hown1 hg1 hat1
        obtain ⟨A2, c2, hv1⟩ := slice_form hown1
        subst hv1
        have kb := kb0.out.grown hg1 (Ne.symm HNE.out)
        have k0 : w6.cell? ⟨g, 0, none⟩ = some (.slice d.A d.bl.length d.c) := kb.cell 0
        have y0 := kb.frozen 0)
      all_goals
        have HO := Lib.hid hown1
        have HG := Lib.hid hg1
        have HAT := Lib.hid hat1
        clear hown1 hg1 hat1
        go_wp2_with fail
        go_ret
        have ho := HO.out
        have hg := HG.out
        have ha := HAT.out
        rw [← HN.out] at ho ha ⊢
        rw [← HN.out, ← HA.out, ← HDC.out] at hg
        rw [← HA.out, ← HDC.out] at ha
        exact rput_app HQ.out rfl (fun q hq => .inl hq) (FQ.out.mono (fun _ _ e => e.elim)) (by rw [HN.out, HRM.out]; omega) ⟨t0, t1⟩ hk ho hg ha HPUT.out
end Go.Proofs.Ytfjlgdafakbdoaa.Ca
