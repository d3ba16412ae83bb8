/- Translations that are kept: slices.Contains of numbers; Drop. -/
import Derived.Test.YtfjlgdafakbdoaaCaK
import Derived.Deep.RegionHeld3
namespace Go.Proofs.Ytfjlgdafakbdoaa.Ca
open Go.RowKit Mz Go.Maps
set_option linter.unusedVariables false
set_option linter.unusedSimpArgs false
set_option maxHeartbeats 4000000

/-- where a number stands first; -1: nowhere -/
def ixOf (l : List Int) (x : Int) (n : Nat) : Int := match l.findIdx? (· == x) with
  | some k => (k : Int)
  | none => -1
theorem index_any (w : World) (B n c : Nat) (A : Option Addr) (zs : List Int) (x : Int) (h : IntsAt .i64 w B A n zs) (hm : n ≤ maxLen) :
    Calls Try.prog 43 #[.slice A n c, .int .i64 x] w fun e w' => e = .returned (.int .i64 (ixOf zs x n)) ∧ w = w' := by
  unfold maxLen at hm
  have hlen := Lib.hid h.1
  go_enter Try.func43, Try.ntmps43
  go_wp2_with fail
  go_loop [8] (fun i => ∃ k : Nat, k ≤ n ∧ i = .int .i64 k ∧ (Hid (∀ j, j < k → zs.getD j 0 ≠ x))) (fun i => n - (intOf i).toNat)
  case atStart => exact ⟨0, by omega, rfl, fun j hj => by omega⟩
  case round =>
    obtain ⟨k, hk, rfl, hno⟩ := hrel
    by_cases hlt : k < n
    · obtain ⟨b, off, rfl, hb, hc⟩ := h.at_ hlt
      by_cases hx : zs.getD k 0 = x
      · have e1 : ixOf zs x n = k := by
          have hl := hlen.out
          have : zs.findIdx? (· == x) = some k := by
            rw [List.findIdx?_eq_some_iff_getElem]
            refine ⟨by omega, by simpa [show k < zs.length by omega] using hx, fun j hj => ?_⟩
            have := hno.out j hj
            simpa [show j < zs.length by omega] using this
          simp [ixOf, this]
        have E1 := Lib.hid e1
        rw [hx] at hc
        clear e1 hx
        go_wp2_with fail
        go_ret
        exact ⟨by rw [E1.out]; rfl, rfl⟩
      · have hx' : (x == zs.getD k 0) = false := by
          simp only [beq_eq_false_iff_ne]
          exact fun e => hx e.symm
        have hno2 : Hid (∀ j, j < k + 1 → zs.getD j 0 ≠ x) := fun j hj => by
          by_cases e : j = k
          · rw [e]; exact hx
          · exact hno.out j (by omega)
        clear hx
        generalize zs.getD k 0 = z at *
        go_wp2_with fail
        go_round
        case rel => exact ⟨k + 1, by omega, by go_num, hno2⟩
        case measure => simp [intOf]; omega
    · have e : k = n := by omega
      subst e
      have e1 : ixOf zs x k = -1 := by
        have : zs.findIdx? (· == x) = none := by
          rw [List.findIdx?_eq_none_iff]
          intro y hy
          obtain ⟨j, hj, rfl⟩ := List.getElem_of_mem hy
          have hl := hlen.out
          have := hno.out j (by omega)
          simpa [hj] using this
        simp [ixOf, this]
      have E1 := Lib.hid e1
      clear e1
      go_wp2_with fail
      go_ret
      exact ⟨by rw [E1.out]; rfl, rfl⟩
def hasI (l : List Int) (x : Int) : Bool := l.any (· == x)
theorem has_ix (l : List Int) (x : Int) (n : Nat) : decide (0 ≤ ixOf l x n) = hasI l x := by
  unfold ixOf hasI
  cases h : l.findIdx? (· == x) with
  | none =>
    rw [List.findIdx?_eq_none_iff] at h
    have : l.any (· == x) = false := by
      rw [List.any_eq_false]
      intro y hy
      simpa using h y hy
    rw [this]; rfl
  | some k =>
    have hk := List.findIdx?_eq_some_iff_getElem.1 h
    obtain ⟨hl, hp, _⟩ := hk
    have : l.any (· == x) = true := List.any_eq_true.2 ⟨_, List.getElem_mem hl, hp⟩
    rw [this]; simp
theorem contains_any (w : World) (B n c : Nat) (A : Option Addr) (zs : List Int) (x : Int) (h : IntsAt .i64 w B A n zs) (hm : n ≤ maxLen) :
    Calls Try.prog 30 #[.slice A n c, .int .i64 x] w fun e w' => e = .returned (.bool (hasI zs x)) ∧ w = w' := by
  have hi := Lib.hid (index_any w B n c A zs x h hm)
  have hh := has_ix zs x n
  generalize ixOf zs x n = q at *
  rw [← hh]
  clear hh h
  go_enter Try.func30, Try.ntmps30
  go_wp2_with fail
  refine (hi.out).mono ?_
  rintro e w' ⟨rfl, rfl⟩
  go_wp2_with fail
  go_ret
  exact ⟨rfl, rfl⟩
theorem upd (x : Int) (h : 0 ≤ x ∧ x < 4294967296) : x.tdiv 64 % 4294967296 = x / 64 := by
  rw [Int.tdiv_eq_ediv_of_nonneg h.1]
  omega
/-- is its page among those that are dropped? -/
def gone (ps : List Int) (b : Bk) : Bool := hasI ps (b.pl / 64)
def Cs.drop1 (s : Cs) (ps : List Int) (b : Bk) : Cs := if gone ps b then s.unlink b.k else s
def cnt1 (n : Nat) (ps : List Int) (b : Bk) : Nat := if gone ps b then n + 1 else n
/-- what the closure leaves, its answer told -/
def D1P (W : World) (g gn : Nat) (s : Cs) (k : Ky) (cnt : Nat) (t : Bool) (e : Ending) (w' : World) : Prop :=
  e = .returned (.bool t) ∧ LK w' g (if t then s.unlink k else s) ∧ Blk w' gn 3 #[.int .i64 ((if t then cnt + 1 else cnt : Nat) : Int)] ∧ Fr (fun q => q = gn ∨ q = s.gm ∨ ∃ p ∈ s.E, ab p.2.A = some q) W w'
/-- what the closure leaves -/
def D1Post (W : World) (g gn : Nat) (s : Cs) (b : Bk) (ps : List Int) (cnt : Nat) (e : Ending) (w' : World) : Prop :=
  e = .returned (.bool (gone ps b)) ∧ LK w' g (s.drop1 ps b) ∧ Blk w' gn 3 #[.int .i64 (cnt1 cnt ps b : Nat)] ∧ Fr (fun q => q = gn ∨ q = s.gm ∨ ∃ p ∈ s.E, ab p.2.A = some q) W w'
set_option maxRecDepth 100000 in
theorem drop1_any (W : World) (g gp gc gn base : Nat) (s : Cs) (h : LK W g s) (b : Bk) (hb : b.k.Ok) (hpl : 0 ≤ b.pl ∧ b.pl < 4294967296) (ps : List Int) (B np pc : Nat) (pA : Option Addr) (hp : IntsAt .i64 W B pA np ps) (hm : np ≤ maxLen) (hB : B ≤ W.heap.size) (cnt : Nat) (hc : cnt ≤ 1000000)
    (bp : Blk W gp 45 #[.slice pA np pc]) (bc : Blk W gc 24 #[.pointer (some ⟨g, 0, none⟩)]) (bn : Blk W gn 3 #[.int .i64 cnt])
    (hg : g < base) (hgm : s.gm < base) (hrl : ∀ p ∈ s.E, ∀ q, ab p.2.A = some q → q < base) (hgn : base ≤ gn) (hgc : base ≤ gc) (hcn : gc ≠ gn) :
    Calls Try.prog 29 #[.agg #[.int .u32 b.pc, .int .u32 b.pl, .slice b.A b.code.length b.c, .int .i64 b.ct], .pointer (some ⟨gp, 0, none⟩), .pointer (some ⟨gc, 0, none⟩), .pointer (some ⟨gn, 0, none⟩)] W (D1Post W g gn s b ps cnt) := by
  have p0 := bp.cell 0
  have q0 := bp.lt
  have fa := (Fr.refl (fun _ => False) W).alloc (.cells #[.int .u32 b.pc, .int .u32 b.pl, .slice b.A b.code.length b.c, .int .i64 b.ct] 34)
  have h1 := h.fr fa (fun e => e) (fun e => e) (fun _ _ _ _ e => e)
  have bc1 := bc.fr fa (fun e => e)
  have bn1 := bn.fr fa (fun e => e)
  have Hc : Hid (Calls Try.prog 30 #[.slice pA np pc, .int .i64 (b.pl / 64)] (W.alloc (.cells #[.int .u32 b.pc, .int .u32 b.pl, .slice b.A b.code.length b.c, .int .i64 b.ct] 34)) fun e w' => e = .returned (.bool (gone ps b)) ∧ (W.alloc (.cells #[.int .u32 b.pc, .int .u32 b.pl, .slice b.A b.code.length b.c, .int .i64 b.ct] 34)) = w') := Lib.hid (by
    exact contains_any _ B np pc pA ps (b.pl / 64) (hp.fr fa hB (fun _ _ e => e)) hm)
  have Hu : Hid (Calls Try.prog 27 #[.pointer (some ⟨g, 0, none⟩), .agg #[.int .u32 b.pc, .int .u32 b.pl]] (W.alloc (.cells #[.int .u32 b.pc, .int .u32 b.pl, .slice b.A b.code.length b.c, .int .i64 b.ct] 34)) fun e w' => e = .returned (.tuple #[]) ∧ LK w' g (s.unlink b.k) ∧ Fr (fun q => q = s.gm ∨ ∃ p ∈ s.E, ab p.2.A = some q) (W.alloc (.cells #[.int .u32 b.pc, .int .u32 b.pl, .slice b.A b.code.length b.c, .int .i64 b.ct] 34)) w') := Lib.hid (unlink_lk _ g s h1 b.k hb)
  have c0 := bc1.cell 0
  have FA := Lib.hid fa
  have H1 := Lib.hid h1
  have BN1 := Lib.hid bn1
  have hgcl := bc.lt
  have hgnl := bn.lt
  obtain ⟨t, ht⟩ : ∃ t, gone ps b = t := ⟨_, rfl⟩
  rw [ht] at Hc
  have HT := Lib.hid ht
  have hdr : D1Post W g gn s b ps cnt = D1P W g gn s b.k cnt t := by
    unfold D1Post D1P Cs.drop1 cnt1
    rw [ht]
  rw [hdr]
  clear h h1 bc bn bp hp fa bc1 bn1 ht hdr hb
  obtain ⟨bk, hbk⟩ : ∃ k, b.k = k := ⟨_, rfl⟩
  rw [hbk] at Hu
  rw [hbk]
  clear hbk
  generalize b.pc = x0 at *
  generalize b.pl = x1 at *
  generalize b.A = x2 at *
  generalize b.code.length = x3 at *
  generalize b.c = x4 at *
  generalize b.ct = x5 at *
  go_enter Try.func29, Try.ntmps29
  go_wp2_with fail
  refine (Hc.out).mono ?_
  rintro e w2 ⟨rfl, rfl⟩
  cases t
  · go_wp2_with fail
    go_ret
    exact ⟨rfl, H1.out, BN1.out, FA.out.mono (fun _ _ e => e.elim)⟩
  · go_wp2_with fail
    refine (Hu.out).mono ?_
    rintro e w3 ⟨rfl, h3, f3⟩
    have hno : ∀ q, base ≤ q → ¬ (q = s.gm ∨ ∃ p ∈ s.E, ab p.2.A = some q) := fun q hq e => by
      rcases e with e | ⟨p, hp, e⟩
      · omega
      · have := hrl p hp q e; omega
    have bn3 := BN1.out.fr f3 (hno gn hgn)
    have n0 := bn3.cell 0
    have z0 := bn3.frozen 0
    have hl3 := bn3.lt
    have BN3 := Lib.hid bn3
    have H3 := Lib.hid h3
    have F3 := Lib.hid f3
    have HRL := Lib.hid hrl
    clear h3 f3 bn3 hno hrl Hu Hc
    go_wp2_with fail
    go_ret
    have f4 : Fr (· = gn) w3 (w3.setCell ⟨gn, 0, none⟩ (.int .i64 ((cnt : Int) + 1))) := Fr.set1 _ _ _ _
    refine ⟨rfl, H3.out.fr f4 (fun e => by have e : g = gn := e; omega) (fun e => by have e : s.gm = gn := e; omega) (fun p hp q hq e => ?_), ?_, ?_⟩
    · have e : q = gn := e
      obtain ⟨p', hp', rfl⟩ := List.mem_map.1 hp
      have := HRL.out p' (List.mem_filter.1 hp').1 q hq
      omega
    · have := BN3.out.set_ 0 (.int .i64 ((cnt : Int) + 1))
      exact this
    · exact ((FA.out.mono (fun _ _ e => e.elim)).tr (F3.out.mono (fun q _ e => .inr e))).tr (f4.mono (fun q _ e => .inl e))
end Go.Proofs.Ytfjlgdafakbdoaa.Ca
