/- The document's cache: unlink. -/
import Derived.Test.YtfjlgdafakbdoaaCaT
namespace Go.Proofs.Ytfjlgdafakbdoaa.Ca
open Go.RowKit Mz Go.Maps By
set_option linter.unusedVariables false
set_option linter.unusedSimpArgs false
set_option maxHeartbeats 4000000

/-- what is seen of a block -/
structure Dv where
  k : Ky
  code : ByteArray
  ct : Int
  ks : List Ky
def Db.v (b : Db) : Dv := ⟨b.k, b.code, b.ct, b.ks⟩
def strK (k : Ky) (l : List Ky) : List Ky := l.filter (fun x => !decide (x = k))
def unlV (k : Ky) (v : Dv) : Dv := { v with ks := strK k v.ks }
theorem strK_snoc {k : Ky} {l : List Ky} {j : Nat} (h : j < l.length) : strK k (l.take (j + 1)) = if nthK l j = k then strK k (l.take j) else strK k (l.take j) ++ [nthK l j] := by
  unfold strK
  rw [List.take_add_one, List.getElem?_eq_getElem h, List.filter_append, nthK_at h]
  split <;> rename_i e <;> simp [e]
theorem strK_le (k : Ky) (l : List Ky) : (strK k l).length ≤ l.length := List.length_filter_le _ _
section
variable {w w' : World} {g : Nat} {d : Ds}
theorem Doc.ne_gl (h : Doc w g d) {x : Nat} (hx : ab d.A = some x) : x ≠ g ∧ ∀ b ∈ d.bl, ab b.A ≠ some x := by
  obtain ⟨_, _, cs, hb⟩ := own_blk h.r x hx
  refine ⟨fun e => ?_, fun b hbm e => ?_⟩
  · subst e
    exact Blk.ne_ hb h.b (by decide) rfl
  · obtain ⟨_, _, cs2, hb2⟩ := own_blk (h.rows b hbm) x e
    exact Blk.ne_ hb hb2 (by decide) rfl
theorem Doc.setB (h : Doc w g d) (f : Fr (fun x => ab d.A = some x) w w') {q : Nat} {b : Db} (hq : q < d.bl.length) (hrow : DRow w' d.A d.c (d.bl.set q b)) (hl : LnkOk w' b) (hsep : ∀ p, p < d.bl.length → p ≠ q → ∀ k, ab b.A = some k → ab (nthD d.bl p).A ≠ some k) (hok : ({ d with bl := d.bl.set q b } : Ds).Ok) :
    Doc w' g { d with bl := d.bl.set q b } := by
  have hn := fun x hx => h.ne_gl (x := x) hx
  have hlen : (d.bl.set q b).length = d.bl.length := List.length_set ..
  refine ⟨?_, hrow, fun b' hb' => ?_, ?_, hok⟩
  · have := h.b.fr f (fun e => (hn g e).1 rfl)
    unfold cells3 at this ⊢
    rw [show ({ d with bl := d.bl.set q b } : Ds).bl.length = d.bl.length from hlen]
    exact this
  · rcases List.mem_or_eq_of_mem_set hb' with h1 | h1
    · exact (h.rows b' h1).fr f (fun k hk e => (hn k e).2 b' h1 hk)
    · rw [h1]; exact hl
  · show (d.bl.set q b).Pairwise _
    rw [List.pairwise_iff_getElem]
    intro i j hi hj hij k hk
    rw [hlen] at hi hj
    rw [List.getElem_set] at hk ⊢
    by_cases e1 : q = i
    · rw [if_pos e1] at hk
      rw [if_neg (by omega)]
      have := hsep j hj (by omega) k hk
      rwa [nthD_at hj] at this
    · rw [if_neg e1] at hk
      by_cases e2 : q = j
      · rw [if_pos e2]
        intro e3
        have := hsep i hi (by omega) k e3
        rw [nthD_at hi] at this
        exact this hk
      · rw [if_neg e2]
        exact (List.pairwise_iff_getElem.1 h.sep) i j hi hj hij k hk
theorem nthD_set (l : List Db) (q : Nat) (b : Db) (p : Nat) (hp : p < l.length) : nthD (l.set q b) p = if p = q then b else nthD l p := by
  rw [nthD_at (by simpa using hp), List.getElem_set, nthD_at hp]
  by_cases e : p = q
  · rw [if_pos e, if_pos e.symm]
  · rw [if_neg e, if_neg (fun h => e h.symm)]
theorem mem_nthD {l : List Db} {q : Nat} (h : q < l.length) : nthD l q ∈ l := by rw [nthD_at h]; exact List.getElem_mem h
end
/-- where unlink stands -/
def UD (w : World) (g : Nat) (d : Ds) (k : Ky) (i : Nat) (wr : World) : Prop :=
  ∃ d' : Ds, Doc wr g d' ∧ d'.A = d.A ∧ d'.c = d.c ∧ d'.room = d.room ∧ d'.fl = d.fl ∧ d'.bl.length = d.bl.length ∧ (∀ q, q < d.bl.length → (nthD d'.bl q).v = if q < i then unlV k (nthD d.bl q).v else (nthD d.bl q).v) ∧ (∀ q, d'.own g q → d.own g q ∨ w.heap.size ≤ q) ∧ Fr (fun x => ab d.A = some x) w wr
theorem ud_zero {w : World} {g : Nat} {d : Ds} (h : Doc w g d) (k : Ky) : UD w g d k 0 w := ⟨d, h, rfl, rfl, rfl, rfl, rfl, fun q hq => by rw [if_neg (by omega)], fun q hq => .inl hq, Fr.refl _ _⟩
theorem ud_next {w wo w2 w3 : World} {g i : Nat} {d d' : Ds} {k : Ky} (h : Doc wo g d') (e1 : d'.A = d.A) (e2 : d'.c = d.c) (e3 : d'.room = d.room) (e4 : d'.fl = d.fl) (e5 : d'.bl.length = d.bl.length) (e6 : ∀ q, q < d.bl.length → (nthD d'.bl q).v = if q < i then unlV k (nthD d.bl q).v else (nthD d.bl q).v) (e7 : ∀ q, d'.own g q → d.own g q ∨ w.heap.size ≤ q) (e8 : Fr (fun x => ab d.A = some x) w wo) (hi : i < d.bl.length)
    (f : Fr (fun _ => False) wo w2) {A : Option Addr} {n c gl : Nat} (hgl : d'.A = some ⟨gl, 0, none⟩) (ho : w2.ownsRow wo.heap.size 44 2 (.slice A n c) n (kcells (strK k (nthD d'.bl i).ks))) (hn : (strK k (nthD d'.bl i).ks).length = n) (hw3 : w3 = w2.setCell ⟨gl, i * 5 + 4, none⟩ (.slice A n c)) : UD w g d k (i + 1) w3 := by
  subst hw3
  have h2 := h.fr0 f
  have hi' : i < d'.bl.length := by omega
  have f3 : Fr (fun x => ab d'.A = some x) w2 (w2.setCell ⟨gl, i * 5 + 4, none⟩ (.slice A n c)) := (Fr.refl _ _).setCell (p := ⟨gl, i * 5 + 4, none⟩) (.inl (by rw [hgl]; rfl)) _
  obtain ⟨b, hb⟩ : ∃ b : Db, b = { nthD d'.bl i with ks := strK k (nthD d'.bl i).ks, A := A, c := c } := ⟨_, rfl⟩
  have hrow : DRow (w2.setCell ⟨gl, i * 5 + 4, none⟩ (.slice A n c)) d'.A d'.c (d'.bl.set i b) := by
    have hr := h2.r
    rw [hgl] at hr ⊢
    refine drow_set (F := fun _ => undef) hr hi' b (fun {cs F0} hc hF => ⟨_, hc.set_ (i * 5 + 4) (.slice A n c), fun j hj => ?_, fun p hp => ?_⟩)
    · unfold putV
      by_cases e : j = 4
      · subst e
        rw [if_pos rfl, hb]
        show _ = Value.slice A (strK k (nthD d'.bl i).ks).length c
        rw [hn]
      · rw [if_neg (by omega), hF j hj, hb]
        unfold dc
        simp only []
        repeat (first | omega | (split <;> first | rfl | skip))
    · unfold putV
      rw [if_neg (by omega)]
  have hA : ab A = none ∨ ∃ x, ab A = some x ∧ wo.heap.size ≤ x := by
    cases e : ab A with
    | none => exact .inl rfl
    | some x => exact .inr ⟨x, rfl, (own_blk ho x e).2.1⟩
  have hlow := h.low
  have hlk : LnkOk (w2.setCell ⟨gl, i * 5 + 4, none⟩ (.slice A n c)) b := by
    unfold LnkOk
    have e9 : b.ks.length = n := by rw [hb]; exact hn
    rw [e9, hb]
    refine own_low (own_fr ho f3 (fun q hq e => ?_)) (Nat.zero_le _)
    have h3 := (own_blk ho q (ab_own hq)).2.1
    have h4 := hlow q (.inr (.inl e))
    omega
  have hok : ({ d' with bl := d'.bl.set i b } : Ds).Ok := by
    have ok := h.ok
    refine ⟨ok.room, by show ((d'.bl.set i b).length : Int) ≤ _; rw [List.length_set]; exact ok.len, ?_, ?_, ?_, ok.fl⟩
    all_goals
      intro b' hb'
      rcases List.mem_or_eq_of_mem_set hb' with h1 | h1
    · exact ok.keys b' h1
    · rw [h1, hb]; show (nthD d'.bl i).k.Ok; exact ok.keys _ (mem_nthD hi')
    · exact ok.ct b' h1
    · rw [h1, hb]; show 1 ≤ (nthD d'.bl i).ct ∧ (nthD d'.bl i).ct ≤ _; exact ok.ct _ (mem_nthD hi')
    · exact ok.lk b' h1
    · rw [h1, hb]; exact Nat.le_trans (strK_le _ _) (ok.lk _ (mem_nthD hi'))
  refine ⟨{ d' with bl := d'.bl.set i b }, h2.setB f3 hi' hrow hlk (fun p hp hne x hx e => ?_) hok, e1, e2, e3, e4, by show (d'.bl.set i b).length = _; rw [List.length_set, e5], fun q hq => ?_, fun q hq => ?_, ?_⟩
  · have hx' : ab A = some x := by rw [hb] at hx; exact hx
    rcases hA with h3 | ⟨y, h3, h4⟩
    · rw [h3] at hx'; cases hx'
    · rw [h3] at hx'; injection hx' with hx'
      have := hlow x (.inr (.inr ⟨_, mem_nthD hp, e⟩))
      omega
  · show (nthD (d'.bl.set i b) q).v = _
    rw [nthD_set _ _ _ _ (by omega)]
    by_cases e : q = i
    · subst e
      have h6 := e6 q hq
      rw [if_neg (by omega)] at h6
      rw [if_pos rfl, if_pos (by omega), ← h6, hb]
      rfl
    · rw [if_neg e, e6 q hq]
      by_cases h7 : q < i
      · rw [if_pos h7, if_pos (by omega)]
      · rw [if_neg h7, if_neg (by omega)]
  · rcases hq with h3 | h3 | ⟨b', hb', h3⟩
    · exact e7 q (.inl h3)
    · exact e7 q (.inr (.inl h3))
    · rcases List.mem_or_eq_of_mem_set hb' with h1 | h1
      · exact e7 q (.inr (.inr ⟨b', h1, h3⟩))
      · have h3' : ab A = some q := by rw [h1, hb] at h3; exact h3
        rcases hA with h4 | ⟨y, h4, h5⟩
        · rw [h4] at h3'; cases h3'
        · rw [h4] at h3'; injection h3' with h3'
          have := e8.size
          right; omega
  · rw [e1] at f3
    exact (e8.trans f (fun q hq e => e.elim)).tr f3
theorem krow_at_ {w : World} {e : TypeId} {B n c : Nat} {A : Option Addr} {l : List Ky} (h : w.ownsRow B e 2 (.slice A n c) n (kcells l)) (hl : l.length = n) : At_k w A n (nthK l) := by
  rw [kcells_f] at h
  rcases own_to (fc := kc) hl (0, 0) (by omega) h with ⟨e, _, _⟩ | ⟨gl, e, ⟨F, h1, h2, h3⟩, h4, h5⟩
  · intro q hq
    rw [e] at hl
    simp at hl
    omega
  · intro q hq
    refine ⟨gl, 0, e, ?_, ?_⟩
    · rw [Nat.zero_add]
      exact (h1.cell (q * 2 + 0) (by omega)).trans (congrArg some (h3 q hq 0 (by omega)))
    · rw [Nat.zero_add]
      exact (h1.cell (q * 2 + 1) (by omega)).trans (congrArg some (h3 q hq 1 (by omega)))
theorem at_cells {w : World} {A : Option Addr} {n : Nat} {f : Nat → Ky} (h : At_k w A n f) {q : Nat} (hq : q < n) : ∃ g off, A = some ⟨g, off, none⟩ ∧ g < w.heap.size ∧ w.cell? ⟨g, off + q * 2, none⟩ = some (.int .u32 (f q).1) ∧ w.cell? ⟨g, off + q * 2 + 1, none⟩ = some (.int .u32 (f q).2) := by
  obtain ⟨g, off, e, c0, c1⟩ := h q hq
  refine ⟨g, off, e, ?_, c0, c1⟩
  rcases Nat.lt_or_ge g w.heap.size with h | h
  · exact h
  · rw [show w.cell? ⟨g, off + q * 2, none⟩ = none by simp [World.cell?, Array.getElem?_eq_none h]] at c0
    cases c0
/-- what '==' says of two pairs -/
@[go_sem] theorem eqPair (a b c d : Int) (w : World) : (Op.equalIn 10000 44 (.agg #[.int .u32 a, .int .u32 b]) (.agg #[.int .u32 c, .int .u32 d])).run Try.prog w = .ok (a == c && b == d) w := by
  have u3 := Try.underlying29
  have a3 := Try.isAgg29
  have z3 := Try.sizeOf29
  rw [show (10000 : Nat) = 9999 + 1 from rfl, Op.equalIn]
  simp only [Sem.run_bind, run_underlying Try.underlying44, Result.andThen_ok]
  simp only [Std.Legacy.Range.forIn_eq_forIn_range', Std.Legacy.Range.size, Nat.sub_zero, Nat.add_sub_cancel, Nat.div_one, List.range'_succ, List.range'_zero, List.forIn_cons, List.forIn_nil]
  go_simp
  by_cases h1 : a = c <;> by_cases h2 : b = d <;> simp [h1, h2]
theorem infoP : (Try.prog.info? 44).map (fun i => (i.zero, i.size, i.bytes)) = some (some (.agg #[.int .u32 0, .int .u32 0]), 2, 8) := by kernel_rfl
set_option maxRecDepth 100000 in
theorem runlink_any (w : World) (g : Nat) (d : Ds) (h : Doc w g d) (k : Ky) :
    Calls Try.prog 44 #[.pointer (some ⟨g, 0, none⟩), .int .u32 k.1, .int .u32 k.2] w fun e w' => e = .returned (.tuple #[]) ∧ UD w g d k d.bl.length w' := by
  obtain ⟨i0, hin, hz0, hz1, hz2⟩ := info_parts infoP
  obtain ⟨ka, kb⟩ := k
  obtain ⟨n, hn⟩ : ∃ n, d.bl.length = n := ⟨_, rfl⟩
  have hlen := h.ok.len
  have hroom := h.ok.room
  rw [hn] at hlen ⊢
  have HN := Lib.hid hn
  have H0 := Lib.hid (ud_zero h (ka, kb))
  clear h hn
  show Calls _ _ #[_, .int .u32 ka, .int .u32 kb] _ _
  go_enter Try.func44, Try.ntmps44
  go_wp2_with fail
  go_loopw [6] (fun i wr => ∃ q : Nat, q ≤ n ∧ i = .int .i64 q ∧ Hid (UD w g d (ka, kb) q wr)) (fun i _ => n - (intOf i).toNat)
  case atStart => exact ⟨0, by omega, rfl, H0⟩
  case round =>
    obtain ⟨i, hi, rfl, hU⟩ := hrel
    obtain ⟨wo, rfl⟩ : ∃ wo : World, wo = wr := ⟨_, rfl⟩
    obtain ⟨d', h, e1, e2, e3, e4, e5, e6, e7, e8⟩ := hU.out
    obtain ⟨c0, _, _⟩ := h.cells
    rw [e5, HN.out] at c0
    obtain ⟨dA, hdA⟩ : ∃ q, d'.A = q := ⟨_, rfl⟩
    rw [hdA] at c0
    generalize d'.c = dcap at c0
    have HD := Lib.hid h
    have HA := Lib.hid hdA
    have HE5 := Lib.hid e5
    have HNX : Hid (∀ (w2 : World), i < d.bl.length → Fr (fun _ => False) wo w2 → ∀ (A : Option Addr) (n c gl : Nat), d'.A = some ⟨gl, 0, none⟩ → w2.ownsRow wo.heap.size 44 2 (.slice A n c) n (kcells (strK (ka, kb) (nthD d'.bl i).ks)) → (strK (ka, kb) (nthD d'.bl i).ks).length = n → UD w g d (ka, kb) (i + 1) (w2.setCell ⟨gl, i * 5 + 4, none⟩ (.slice A n c))) := Lib.hid (fun w2 hi f A n c gl hgl ho hn => ud_next h e1 e2 e3 e4 e5 e6 e7 e8 hi f hgl ho hn rfl)
    have z0 := h.b.frozen 0
    clear h e1 e2 e3 e4 e5 e6 e7 e8 hdA H0
    by_cases hlt : i < n
    · have hd : decide ((i : Int) < (n : Int)) = true := by simp; omega
      have q0 : (0 : Int) ≤ (i : Int) := by omega
      have q1 : (i : Int) < (n : Int) := by omega
      have hl : i < d'.bl.length := by have := HN.out; have := HE5.out; omega
      obtain ⟨gl, e, hgl, hc⟩ := drow_cells HD.out.r hl
      have e : dA = some ⟨gl, 0, none⟩ := HA.out.symm.trans e
      subst e
      have v4 := (hc 4 (by omega)).1
      have y4 := (hc 4 (by omega)).2
      have hlk := HD.out.rows _ (mem_nthD hl)
      have hlkl := HD.out.ok.lk _ (mem_nthD hl)
      unfold LnkOk at hlk
      obtain ⟨bA, hbA⟩ : ∃ q, (nthD d'.bl i).A = q := ⟨_, rfl⟩
      obtain ⟨bc, hbc⟩ : ∃ q, (nthD d'.bl i).c = q := ⟨_, rfl⟩
      obtain ⟨ks, hks⟩ : ∃ q, (nthD d'.bl i).ks = q := ⟨_, rfl⟩
      obtain ⟨m, hm⟩ : ∃ q, ks.length = q := ⟨_, rfl⟩
      have v4 : wo.cell? ⟨gl, i * 5 + 4, none⟩ = some (.slice bA m bc) := by rw [← hm, ← hks, ← hbA, ← hbc]; exact v4
      rw [hks, hbA, hbc, hm] at hlk
      rw [hks, hm] at hlkl
      have hR := krow_at_ hlk hm
      have HR := Lib.hid hR
      have HM := Lib.hid hm
      have HKS := Lib.hid hks
      clear hR hc hlk hks hbA hbc hm
      have c0' := c0
      go_wp2_with fail
      go_loopw [7, 8] (fun v jv wr => ∃ (j m2 : Nat) (A : Option Addr) (c : Nat), j ≤ m ∧ m2 ≤ j ∧ v = .slice A m2 c ∧ jv = .int .i64 j ∧ Hid (wr.ownsRow wo.heap.size 44 2 (.slice A m2 c) m2 (kcells (strK (ka, kb) (ks.take j)))) ∧ Hid ((strK (ka, kb) (ks.take j)).length = m2) ∧ Hid (Fr (fun _ => False) wo wr)) (fun _ jv _ => m - (intOf jv).toNat)
      case atStart => exact ⟨0, 0, none, 0, by omega, by omega, rfl, rfl, Lib.hid ⟨rfl, .inl ⟨rfl, rfl⟩⟩, Lib.hid rfl, Lib.hid (Fr.refl _ _)⟩
      case round =>
        obtain ⟨j, m2, A, c, hj, hmj, rfl, rfl, hown, hln, hfw⟩ := hrel
        have c1 := hfw.out.cell c0 (by have := HD.out.b.lt; exact this) (fun e => e)
        have v5 := hfw.out.cell v4 hgl (fun e => e)
        have y5 : wr.frozen? ⟨gl, i * 5 + 4, none⟩ = false := by
          obtain ⟨cs, hb⟩ := (own_blk HD.out.r gl (by rw [HA.out]; rfl)).2.2
          exact (hb.fr hfw.out (fun e => e)).frozen _
        by_cases hjm : j < m
        · have hd2 : decide ((j : Int) < (m : Int)) = true := by simp; omega
          have j0 : (0 : Int) ≤ (j : Int) := by omega
          have j1 : (j : Int) < (m : Int) := by omega
          have hjk : j < ks.length := by have := HM.out; omega
          obtain ⟨ga, go, hA2, hal, x0, x1⟩ := at_cells HR.out hjm
          have x0 := hfw.out.cell x0 hal (fun e => e)
          have x1 := hfw.out.cell x1 hal (fun e => e)
          have hsn := strK_snoc (k := (ka, kb)) hjk
          obtain ⟨y, hy⟩ : ∃ y, nthK ks j = y := ⟨_, rfl⟩
          rw [hy] at x0 x1 hsn
          subst hA2
          obtain ⟨k0, k1⟩ := y
          have x2 : wr.cell? ⟨ga, go + j * 2, none⟩ = some (.int .u32 k0) := x0
          have x3 : wr.cell? ⟨ga, go + j * 2 + 1, none⟩ = some (.int .u32 k1) := x1
          by_cases hkk : (k0, k1) = (ka, kb)
          · rw [if_pos hkk] at hsn
            have HS := Lib.hid hsn
            injection hkk with h8 h9
            subst h8
            subst h9
            clear hsn hy x0 x1
            go_wp2_with fail
            exact ⟨⟨j + 1, m2, A, c, by omega, by omega, rfl, by go_num, Lib.hid (by rw [HS.out]; exact hown.out), Lib.hid (by rw [HS.out]; exact hln.out), hfw⟩, by simp [intOf]; omega⟩
          · rw [if_neg hkk] at hsn
            have HS := Lib.hid hsn
            have hne : (k0 == ka && k1 == kb) = false := by
              rw [Bool.eq_false_iff]
              intro e
              simp at e
              exact hkk (by rw [e.1, e.2])
            have hrd : Reads (wr.alloc (.cells #[.int .u32 k0, .int .u32 k1] 44)) (wr.heap.size + 1) 2 (some ⟨wr.heap.size, 0, none⟩) 1 [.int .u32 k0, .int .u32 k1] := reads_blk (size := 2) (n := 1) (Blk.new wr 44 #[.int .u32 k0, .int .u32 k1]) rfl
            have hownA : (wr.alloc (.cells #[.int .u32 k0, .int .u32 k1] 44)).ownsRow wo.heap.size 44 2 (.slice A m2 c) m2 (kcells (strK (ka, kb) (ks.take j))) := hown.out.alloc _
            have hws := hfw.out.size
            have hgx : g < wr.heap.size := Nat.lt_of_lt_of_le HD.out.b.lt hws
            clear hsn hy x0 x1 hkk
            go_wp2_with
              (at_builtin
               refine wpList_append_any _ rfl (.tmp 46) (.tmp 58) _ rfl wo.heap.size 44 i0 _ 2 8 Try.underlying71 hin hz0 hz1 hz2 rfl (by omega) (.slice A m2 c) m2 _ rfl hownA (wr.heap.size + 1) (some ⟨wr.heap.size, 0, none⟩) 1 1 [.int .u32 k0, .int .u32 k1] rfl hrd (by simp [Value.oneCell']) (by simp only [maxLen]; omega) (by omega) (by simp; omega) ?_
               intro v1 w7 hown1 hg1 hat1
               obtain ⟨A1, cc1, hv1⟩ := slice_form hown1
               subst hv1)
            have HX1 : Hid (w7.ownsRow wo.heap.size 44 2 (.slice A1 (m2 + 1) cc1) (m2 + 1) (kcells (strK (ka, kb) (ks.take (j + 1))))) := Lib.hid (by rw [HS.out, kcells_snoc]; exact hown1)
            have HX2 : Hid ((strK (ka, kb) (ks.take (j + 1))).length = m2 + 1) := Lib.hid (by rw [HS.out, List.length_append, hln.out]; rfl)
            have HX3 : Hid (Fr (fun _ => False) wo w7) := Lib.hid (((hfw.out).alloc _).grown hg1 (fun k hk => .inr (own_base hown.out k hk)))
            clear hown1 hg1 hat1 hownA hrd
            go_wp2_with fail
            exact ⟨⟨j + 1, m2 + 1, A1, cc1, by omega, by omega, rfl, by go_num, HX1, HX2, HX3⟩, by simp [intOf]; omega⟩
        · have hd2 : decide ((j : Int) < (m : Int)) = false := by simp; omega
          have hjm2 : j = m := by omega
          have htk : ks.take j = ks := by rw [hjm2, ← HM.out, List.take_length]
          have HU : Hid (UD w g d (ka, kb) (i + 1) (wr.setCell ⟨gl, i * 5 + 4, none⟩ (.slice A m2 c))) := Lib.hid (by
            have h1 := hown.out
            have h2 := hln.out
            rw [htk, ← HKS.out] at h1 h2
            exact HNX.out _ (by have := HN.out; omega) hfw.out _ _ _ _ HA.out h1 h2)
          have hgx : g < wr.heap.size := Nat.lt_of_lt_of_le HD.out.b.lt hfw.out.size
          clear hjm2 htk
          go_wp2_with fail
          exact ⟨⟨i + 1, by omega, by go_num, HU⟩, by simp [intOf]; omega⟩
    · have hd : decide ((i : Int) < (n : Int)) = false := by simp; omega
      have hin : i = n := by omega
      have HU : Hid (UD w g d (ka, kb) n wo) := by rw [← hin]; exact hU
      clear hin
      go_wp2
      go_end0
      exact ⟨rfl, HU.out⟩
end Go.Proofs.Ytfjlgdafakbdoaa.Ca
