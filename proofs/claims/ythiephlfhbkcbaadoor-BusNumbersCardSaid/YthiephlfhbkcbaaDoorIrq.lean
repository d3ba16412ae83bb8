/- The interrupt controller's functions, each by a contract. -/
import Derived.Test.YthiephlfhbkcbaaDoorChecked
import Derived.Test.YthiephlfhbkcbaaDoorWords
import Derived.WalkKit
import Derived.Outline
import Derived.WalkSpells
import Derived.Handy
import Derived.LoopTactic
import Derived.Deep.LoopGhost
import Derived.Deep.QuietTactic
import Derived.BigQuiet
namespace Go.Proofs.YthiephlfhbkcbaaDoor.Iq
open Go.RowKit
set_option linter.unusedVariables false

def tab : List Int := [0, 1, 28, 2, 29, 14, 24, 3, 30, 22, 20, 15, 25, 17, 4, 8, 31, 27, 13, 23, 21, 19, 16, 7, 26, 12, 18, 6, 11, 5, 10, 9]
/-- the table of math/bits lies in block 0 -/
def Tab (w : World) : Prop := 0 < w.heap.size ∧ ∀ i, i < 32 → w.cell? ⟨0, i, none⟩ = some (.int .u8 (tab.getD i 0))
theorem Tab.fr {w w' : World} {S : Nat → Prop} (h : Tab w) (f : Fr S w w') (hn : ¬ S 0) : Tab w' := ⟨Nat.lt_of_lt_of_le h.1 f.size, fun i hi => f.cell (h.2 i hi) h.1 hn⟩


/-- the lowest of eight bits -/
def low (n : Nat) : Nat := ((List.range 8).find? (fun i => n.testBit i)).getD 0
theorem low_tab : ∀ x, x < 256 → 0 < x → tab.getD ((x &&& (4294967296 - x)) * 125613361 % 4294967296 / 134217728) 0 = (low x : Int) := by decide +kernel

theorem tz_any (w : World) (x : Nat) (hT : Tab w) (h0 : 0 < x) (h1 : x < 256) : Calls Tryd.prog 31 #[.int .u32 x] w fun e w' => e = .returned (.int .i64 (low x)) ∧ w = w' := by
  have hx0 : ((x : Int) == 0) = false := by simp; omega
  obtain ⟨L, hL, hc⟩ : ∃ L : Nat, bits .and .u32 (x : Int) (-(x : Int) % 4294967296) = (L : Int) ∧ w.cell? ⟨0, L * 125613361 % 4294967296 / 134217728, none⟩ = some (.int .u8 (low x)) := by
    have e : (-(x : Int) % 4294967296) = ((4294967296 - x : Nat) : Int) := by omega
    refine ⟨x &&& (4294967296 - x), ?_, ?_⟩
    · rw [e]
      exact u32_and_nat _ _ (by omega) (by omega)
    · rw [hT.2 _ (by omega), low_tab x h1 h0]
  have hlo : (low x : Int) ≤ 8 := by
    have : ∀ x, x < 256 → low x ≤ 8 := by decide +kernel
    have := this x h1
    omega
  clear hT
  generalize low x = lx at *
  go_enter Tryd.func31, Tryd.ntmps31
  go_wp2
  go_ret
  exact ⟨rfl, rfl⟩
/-- a controller at block g -/
def Ctl (w : World) (g p m : Nat) : Prop := Blk w g 71 #[.int .u32 (p : Int), .int .u32 (m : Int)]
theorem Ctl.fr {w w' : World} {g p m : Nat} {S : Nat → Prop} (h : Ctl w g p m) (f : Fr S w w') (hn : ¬ S g) : Ctl w' g p m := Blk.fr h f hn
theorem Ctl.lt {w : World} {g p m : Nat} (h : Ctl w g p m) : g < w.heap.size := Blk.lt h

theorem new_any (w : World) : Calls Tryd.prog 46 #[] w fun e w' => e = .returned (.pointer (some ⟨w.heap.size, 0, none⟩)) ∧ Ctl w' w.heap.size 0 0 ∧ Fr (fun _ => False) w w' := by
  go_enter Tryd.func46, Tryd.ntmps46
  go_wp2
  go_ret
  exact ⟨rfl, Blk.new _ _ _, (Fr.refl _ _).alloc _⟩

theorem pending_any (w : World) (g p m : Nat) (h : Ctl w g p m) : Calls Tryd.prog 15 #[.pointer (some ⟨g, 0, none⟩)] w fun e w' => e = .returned (.int .u32 p) ∧ w = w' := by
  have c := Blk.cell h 0
  go_enter Tryd.func15, Tryd.ntmps15
  go_wp2
  go_ret
  exact ⟨rfl, rfl⟩

theorem mask_any (w : World) (g p m : Nat) (h : Ctl w g p m) : Calls Tryd.prog 16 #[.pointer (some ⟨g, 0, none⟩)] w fun e w' => e = .returned (.int .u32 m) ∧ w = w' := by
  have c := Blk.cell h 1
  go_enter Tryd.func16, Tryd.ntmps16
  go_wp2
  go_ret
  exact ⟨rfl, rfl⟩

theorem setMask_any (w : World) (g p m b : Nat) (h : Ctl w g p m) (hb : b < 4294967296) : Calls Tryd.prog 10 #[.pointer (some ⟨g, 0, none⟩), .int .u32 (b : Int)] w fun e w' => e = .returned (.tuple #[]) ∧ Ctl w' g p (b % 256) ∧ Fr (· = g) w w' := by
  have c := Blk.cell h 1
  have f := Blk.frozen h 1
  have hm : bits .and .u32 (b : Int) 255 = ((b % 256 : Nat) : Int) := by rw [← nat_mask8]; exact u32_and_nat b 255 hb (by omega)
  go_enter Tryd.func10, Tryd.ntmps10
  go_wp2
  go_end0
  exact ⟨rfl, Blk.set_ h 1 _, Fr.set1 _ _ _ _⟩

theorem clear_any (w : World) (g p m b : Nat) (h : Ctl w g p m) (hp : p < 4294967296) (hb : b < 4294967296) : Calls Tryd.prog 35 #[.pointer (some ⟨g, 0, none⟩), .int .u32 (b : Int)] w fun e w' => e = .returned (.tuple #[]) ∧ Ctl w' g (p &&& (4294967295 - b)) m ∧ Fr (· = g) w w' := by
  have c := Blk.cell h 0
  have f := Blk.frozen h 0
  have hm : bits .andNot .u32 (p : Int) (b : Int) = ((p &&& (4294967295 - b) : Nat) : Int) := u32_andNot_nat p b hp hb
  go_enter Tryd.func35, Tryd.ntmps35
  go_wp2
  go_end0
  exact ⟨rfl, Blk.set_ h 0 _, Fr.set1 _ _ _ _⟩

/-- what Next tells -/
def nextN (p m : Nat) : Nat := low (p &&& m)
def nextB (p m : Nat) : Bool := p &&& m != 0
theorem next_any (w : World) (g p m : Nat) (hT : Tab w) (h : Ctl w g p m) (hp : p < 4294967296) (hm : m < 256) :
    Calls Tryd.prog 14 #[.pointer (some ⟨g, 0, none⟩)] w fun e w' => e = .returned (.tuple #[.int .i64 (nextN p m), .bool (nextB p m)]) ∧ Ctl w' g p m ∧ Fr (fun _ => False) w w' := by
  have c0 := Blk.cell h 0
  have c1 := Blk.cell h 1
  have hl : p &&& m < 256 := Nat.lt_of_le_of_lt Nat.and_le_right hm
  have ha : bits .and .u32 (p : Int) (m : Int) = ((p &&& m : Nat) : Int) := u32_and_nat p m hp (by omega)
  have h1 : nextN p m = low (p &&& m) := rfl
  have h2 : nextB p m = (p &&& m != 0) := rfl
  rw [h1, h2]
  clear h1 h2
  generalize p &&& m = x at *
  by_cases hx : x = 0
  · subst hx
    go_enter Tryd.func14, Tryd.ntmps14
    go_wp2_with fail
    go_quiet (fail)
    go_wp2_with fail
    go_ret2
    exact ⟨rfl, h.drewN _, (Fr.refl _ _).drewN _⟩
  · have hx' : ((x : Int) == 0) = false := by simp; omega
    have hx2 : (x != 0) = true := by simp; omega
    rw [hx2]
    go_enter Tryd.func14, Tryd.ntmps14
    go_wp2_with fail
    go_quiet (fail)
    go_wp2_with fail
    refine (tz_any _ x (hT.fr ((Fr.refl (fun _ => False) _).drewN _) (fun e => e)) (by omega) hl).mono ?_
    rintro e w1 ⟨rfl, rfl⟩
    go_wp2_with fail
    go_ret2
    exact ⟨rfl, h.drewN _, (Fr.refl _ _).drewN _⟩
def okAll (zs : List Int) : Bool := zs.all fun z => decide (0 ≤ z) && decide (z < 8)
def orAll (zs : List Int) : Nat := zs.foldl (fun a z => a ||| 2 ^ z.toNat) 0
theorem orAll_snoc (zs : List Int) (z : Int) : orAll (zs ++ [z]) = orAll zs ||| 2 ^ z.toNat := by simp [orAll]
theorem okAll_snoc (zs : List Int) (z : Int) : okAll (zs ++ [z]) = (okAll zs && (decide (0 ≤ z) && decide (z < 8))) := by simp [okAll]
theorem orAll_lt (zs : List Int) (h : okAll zs = true) : orAll zs < 256 := by
  have : ∀ (l : List Int) (a : Nat), a < 256 → (∀ z ∈ l, 0 ≤ z ∧ z < 8) → l.foldl (fun a z => a ||| 2 ^ z.toNat) a < 256 := by
    intro l
    induction l with
    | nil => intro a ha _; simpa using ha
    | cons z r ih =>
      intro a ha hz
      have h1 := hz z (by simp)
      refine ih _ ?_ (fun y hy => hz y (by simp [hy]))
      have h2 : 2 ^ z.toNat < 2 ^ 8 := Nat.pow_lt_pow_right (by omega) (by omega)
      exact Nat.or_lt_two_pow (n := 8) ha h2
  refine this zs 0 (by omega) ?_
  simpa [okAll] using h
theorem take_snoc {zs : List Int} {k : Nat} (h : k < zs.length) : zs.take (k + 1) = zs.take k ++ [zs.getD k 0] := by
  rw [List.take_succ_eq_append_getElem h]
  simp [h]

def raised (zs : List Int) (p : Nat) : Nat := if okAll zs then p ||| orAll zs else p
theorem raise_any (w : World) (g p m : Nat) (h : Ctl w g p m) (hp : p < 256) (B : Nat) (A : Option Addr) (len cap : Nat) (zs : List Int) (hl : IntsAt .i64 w B A len zs) (hm : len ≤ maxLen) :
    Calls Tryd.prog 8 #[.pointer (some ⟨g, 0, none⟩), .slice A len cap] w fun e w' => e = .returned (.bool (okAll zs)) ∧ Ctl w' g (raised zs p) m ∧ Fr (· = g) w w' := by
  have c := Blk.cell h 0
  have f := Blk.frozen h 0
  unfold maxLen at hm
  have hlen := hl.1
  have Hlen := Lib.hid hlen
  clear hlen
  go_enter Tryd.func8, Tryd.ntmps8
  go_wp2_with fail
  go_loop [5, 10] (fun more i => ∃ k : Nat, k ≤ len ∧ i = .int .i64 k ∧ okAll (zs.take k) = true ∧ more = .int .u32 (orAll (zs.take k) : Int)) (fun _ i => len - (intOf i).toNat)
  case atStart => exact ⟨0, Nat.zero_le _, rfl, rfl, rfl⟩
  case round =>
    obtain ⟨k, hk, rfl, hok, rfl⟩ := hrel
    have Hok := Lib.hid hok
    have hor := orAll_lt _ hok
    clear hok
    by_cases hlt : k < len
    · obtain ⟨b, off, rfl, hb, hc⟩ := hl.at_ hlt
      have hs := okAll_snoc (zs.take k) (zs.getD k 0)
      have hs2 := orAll_snoc (zs.take k) (zs.getD k 0)
      rw [← take_snoc (by rw [Hlen.out]; exact hlt)] at hs hs2
      have Hs := Lib.hid hs
      have Hs2 := Lib.hid hs2
      clear hs hs2
      generalize zs.getD k 0 = z at *
      by_cases hz : 0 ≤ z ∧ z < 8
      · obtain ⟨hz0, hz1⟩ := hz
        have hpw : (2 : Int) ^ z.toNat % 4294967296 = ((2 ^ z.toNat : Nat) : Int) := by
          have : z.toNat < 8 := by omega
          generalize z.toNat = q at *
          match q, this with
          | 0, _ | 1, _ | 2, _ | 3, _ | 4, _ | 5, _ | 6, _ | 7, _ => rfl
        have hpl : 2 ^ z.toNat < 4294967296 := Nat.lt_trans (Nat.pow_lt_pow_right (a := 2) (by omega) (show z.toNat < 8 by omega)) (by omega)
        have hbo : bits .or .u32 (orAll (zs.take k) : Int) ((2 : Int) ^ z.toNat % 4294967296) = ((orAll (zs.take (k + 1)) : Nat) : Int) := by
          rw [hpw, Hs2.out]
          exact u32_or_nat _ _ (by omega) hpl
        have Hbo := Lib.hid hbo
        clear hbo hpw hpl
        go_wp2_with fail
        exact ⟨⟨k + 1, by omega, by go_num, by rw [Hs.out, Hok.out]; simp; omega, by rw [Hbo.out]⟩, by simp [intOf]; omega⟩
      · have hbad : okAll zs = false := by
          rw [← List.take_append_drop (k + 1) zs]
          have e : okAll (zs.take (k + 1)) = false := by rw [Hs.out, Hok.out]; simp; omega
          unfold okAll at e ⊢
          rw [List.all_append, e]
          rfl
        have Hbad := Lib.hid hbad
        clear hbad
        by_cases hz0 : z < 0
        · go_wp2_with fail
          go_ret
          rw [show raised zs p = p by unfold raised; rw [Hbad.out]; rfl, Hbad.out]
          exact ⟨rfl, h, Fr.refl _ _⟩
        · have hz8 : 8 ≤ z := by omega
          go_wp2_with fail
          go_ret
          rw [show raised zs p = p by unfold raised; rw [Hbad.out]; rfl, Hbad.out]
          exact ⟨rfl, h, Fr.refl _ _⟩
    · have hk2 : k = len := by omega
      subst hk2
      have hzs : zs.take k = zs := List.take_of_length_le (by rw [Hlen.out]; omega)
      have hbo : bits .or .u32 (p : Int) (orAll (zs.take k) : Int) = ((p ||| orAll (zs.take k) : Nat) : Int) := u32_or_nat _ _ (by omega) (by omega)
      have Hzs := Lib.hid hzs
      clear hzs
      go_wp2_with fail
      go_ret
      rw [Hzs.out] at Hok ⊢
      rw [show raised zs p = p ||| orAll zs by unfold raised; rw [Hok.out]; rfl, Hok.out]
      exact ⟨rfl, Blk.set_ h 0 _, Fr.set1 _ _ _ _⟩
end Go.Proofs.YthiephlfhbkcbaaDoor.Iq
