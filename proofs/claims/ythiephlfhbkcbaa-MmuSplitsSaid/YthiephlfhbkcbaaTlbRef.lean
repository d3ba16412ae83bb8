/- The document's buffer (innkeeperref10.Unit without a memory), each function by a contract. -/
import Derived.Test.YthiephlfhbkcbaaTlbMore
import Derived.Test.YthiephlfhbkcbaaTlbFind
namespace Go.Proofs.Ythiephlfhbkcbaa.Tl
open Go.RowKit
set_option linter.unusedVariables false
set_option maxHeartbeats 4000000

/-- a unit at block g, its memory's pointer -/
def uf (mp : Option Addr) (l : Nat → Ent) (i : Nat) : Value := if i = 0 then .pointer mp else tf l (i - 1)
def Uni (w : World) (g : Nat) (mp : Option Addr) (l : Nat → Ent) : Prop := Cells w g 139 65 (uf mp l)
theorem Uni.fr {w w' : World} {g : Nat} {mp : Option Addr} {l : Nat → Ent} {S : Nat → Prop} (h : Uni w g mp l) (f : Fr S w w') (hn : ¬ S g) : Uni w' g mp l := Cells.fr h f hn
theorem Uni.lt {w : World} {g : Nat} {mp : Option Addr} {l : Nat → Ent} (h : Uni w g mp l) : g < w.heap.size := Cells.lt h
theorem Uni.ent {w : World} {g : Nat} {mp : Option Addr} {l : Nat → Ent} (h : Uni w g mp l) (k : Nat) (hk : k < 16) :
    w.cell? ⟨g, 1 + k * 4, none⟩ = some (.bool (l k).v) ∧ w.cell? ⟨g, 1 + k * 4 + 1, none⟩ = some (.int .u32 (l k).n) ∧ w.cell? ⟨g, 1 + k * 4 + 2, none⟩ = some (.int .u32 (l k).p) ∧ w.cell? ⟨g, 1 + k * 4 + 3, none⟩ = some (.int .u32 (l k).b) := by
  have e0 : uf mp l (1 + k * 4) = .bool (l k).v := by rw [uf, if_neg (by omega)]; simp [tf, ecell, show 1 + k * 4 - 1 = k * 4 by omega, show k * 4 / 4 = k by omega, show k * 4 % 4 = 0 by omega]
  have e1 : uf mp l (1 + k * 4 + 1) = .int .u32 (l k).n := by rw [uf, if_neg (by omega)]; simp [tf, ecell, show (1 + k * 4) / 4 = k by omega, show (1 + k * 4) % 4 = 1 by omega]
  have e2 : uf mp l (1 + k * 4 + 2) = .int .u32 (l k).p := by rw [uf, if_neg (by omega)]; simp [tf, ecell, show 1 + k * 4 + 2 - 1 = k * 4 + 2 by omega, show (k * 4 + 2) / 4 = k by omega, show (k * 4 + 2) % 4 = 2 by omega]
  have e3 : uf mp l (1 + k * 4 + 3) = .int .u32 (l k).b := by rw [uf, if_neg (by omega)]; simp [tf, ecell, show 1 + k * 4 + 3 - 1 = k * 4 + 3 by omega, show (k * 4 + 3) / 4 = k by omega, show (k * 4 + 3) % 4 = 3 by omega]
  exact ⟨by rw [Cells.cell h _ (by omega), e0], by rw [Cells.cell h _ (by omega), e1], by rw [Cells.cell h _ (by omega), e2], by rw [Cells.cell h _ (by omega), e3]⟩
theorem Uni.put {w : World} {g : Nat} {mp : Option Addr} {l : Nat → Ent} (h : Uni w g mp l) (k : Nat) (hk : k < 16) (v : Bool) (n p b : Int) :
    Uni ((((w.setCell ⟨g, 1 + k * 4, none⟩ (.bool v)).setCell ⟨g, 1 + k * 4 + 1, none⟩ (.int .u32 n)).setCell ⟨g, 1 + k * 4 + 2, none⟩ (.int .u32 p)).setCell ⟨g, 1 + k * 4 + 3, none⟩ (.int .u32 b)) g mp (upd l k ⟨v, n, p, b⟩) := by
  refine Cells.congr ((((Cells.set_ h _ _).set_ _ _).set_ _ _).set_ _ _) (fun i hi => ?_)
  unfold putV uf tf upd
  by_cases e0 : i = 0
  · rw [if_neg (by omega), if_neg (by omega), if_neg (by omega), if_neg (by omega), if_pos e0, if_pos e0]
  rw [if_neg e0]
  by_cases e : (i - 1) / 4 = k
  · rw [if_pos e]
    have hm : (i - 1) % 4 = 0 ∨ (i - 1) % 4 = 1 ∨ (i - 1) % 4 = 2 ∨ (i - 1) % 4 = 3 := by omega
    rcases hm with hm | hm | hm | hm
    · rw [if_neg (by omega), if_neg (by omega), if_neg (by omega), if_pos (by omega), hm, if_neg e0]; rfl
    · rw [if_neg (by omega), if_neg (by omega), if_pos (by omega), hm, if_neg e0]; rfl
    · rw [if_neg (by omega), if_pos (by omega), hm, if_neg e0]; rfl
    · rw [if_pos (by omega), hm, if_neg e0]; rfl
  · rw [if_neg e, if_neg (by omega), if_neg (by omega), if_neg (by omega), if_neg (by omega), if_neg e0]

def uZero : Array Value := (.pointer none :: all_ fun _ => noE).toArray
def uCells (mp : Option Addr) : Array Value := (.pointer mp :: all_ fun _ => noE).toArray
theorem uNew_any (w : World) (mp : Option Addr) : Calls Try.prog 64 #[.pointer mp] w fun e w' => e = .returned (.pointer (some ⟨w.heap.size, 0, none⟩)) ∧ Uni w' w.heap.size mp (fun _ => noE) ∧ Fr (fun _ => False) w w' := by
  have hz : ∀ W, (zeroValue 139).run Try.prog W = .ok (.agg uZero) W := fun W => by kernel_rfl
  have hne : (uZero = #[]) = False := eq_false (fun h => by have := congrArg Array.size h; simp [uZero] at this)
  have hset : uZero.setIfInBounds 0 (.pointer mp) = uCells mp := by simp [uZero, uCells]
  have hfin : Uni (w.alloc (.cells (uCells mp) 139)) w.heap.size mp (fun _ => noE) := Cells.new' _ _ _ _ _ (by kernel_rfl)
  go_enter Try.func64, Try.ntmps64
  go_wp2
  go_ret
  exact ⟨rfl, hfin, (Fr.refl _ _).alloc _⟩

/-- the document's bits, less Valid -/
def b8 (kind : Int) (super : Bool) : Int := (if kind = 1 then 8 else if kind = 2 then 2 else if kind = 3 then 4 else 0) + (if super then 0 else 16)
theorem b8_le (kind : Int) (super : Bool) : 0 ≤ b8 kind super ∧ b8 kind super ≤ 24 := by
  unfold b8
  by_cases h1 : kind = 1
  · subst h1; cases super <;> simp
  · by_cases h2 : kind = 2
    · subst h2; cases super <;> simp
    · by_cases h3 : kind = 3
      · subst h3; cases super <;> simp
      · simp [h1, h2, h3]; cases super <;> simp
theorem bits_any (w : World) (kind : Int) (super : Bool) : Calls Try.prog 114 #[.int .i64 kind, .bool super] w fun e w' => e = .returned (.int .u32 (b8 kind super + 1)) ∧ w = w' := by
  by_cases h1 : kind = 1
  · subst h1
    cases super <;>
    · go_enter Try.func114, Try.ntmps114
      go_wp2
      go_ret
      exact ⟨rfl, rfl⟩
  · by_cases h2 : kind = 2
    · subst h2
      cases super <;>
      · go_enter Try.func114, Try.ntmps114
        go_wp2
        go_ret
        exact ⟨rfl, rfl⟩
    · by_cases h3 : kind = 3
      · subst h3
        cases super <;>
        · go_enter Try.func114, Try.ntmps114
          go_wp2
          go_ret
          exact ⟨rfl, rfl⟩
      · have e1 : (kind == 1) = false := by simpa using h1
        have e2 : (kind == 2) = false := by simpa using h2
        have e3 : (kind == 3) = false := by simpa using h3
        have hb : b8 kind super = if super then 0 else 16 := by unfold b8; rw [if_neg h1, if_neg h2, if_neg h3]; simp
        rw [hb]
        clear h1 h2 h3 hb
        cases super <;>
        · go_enter Try.func114, Try.ntmps114
          go_wp2
          go_ret
          exact ⟨rfl, rfl⟩

theorem uFlush_any (w : World) (g : Nat) (mp : Option Addr) (l : Nat → Ent) (h : Uni w g mp l) :
    Calls Try.prog 78 #[.pointer (some ⟨g, 0, none⟩)] w fun e w' => e = .returned (.tuple #[]) ∧ Uni w' g mp (fun _ => noE) ∧ Fr (· = g) w w' := by
  have hsz : noCells.size = 64 := by simp [noCells, all_len]
  have hth := Cells.there h 1 noCells.size (by omega)
  have hinf : (Try.prog.info? 133).map (·.size) = some noCells.size := by rw [hsz]; kernel_rfl
  have hone : noCells.all (·.oneCell') = true := all_oneCell_toArray (all_one _)
  have hfin : Uni (w.setCells g 1 noCells.toList) g mp (fun _ => noE) := Cells.congr (Cells.setCells _ 1 h) (fun i hi => by
    unfold putR uf
    rw [show noCells.toList = all_ fun _ => noE from rfl, all_len]
    by_cases e0 : i = 0
    · rw [if_neg (by omega), if_pos e0, if_pos e0]
    · have := all_at (fun _ => noE) (i - 1) (by omega)
      rw [if_pos ⟨by omega, by omega⟩, if_neg e0, List.getD_eq_getElem?_getD, this]; rfl)
  have hfr : Fr (· = g) w (w.setCells g 1 noCells.toList) := Fr.setRow _ _ (Fr.refl _ _) (.inl rfl)
  clear hsz
  go_enter Try.func78, Try.ntmps78
  go_wp2_with (refine wpList_store_mid rfl 133 (.tmp 5) (.tmp 3) rfl g 1 noCells rfl rfl hth hinf hone ?_)
  go_end0
  exact ⟨rfl, hfin, hfr⟩

theorem uDrop_any (w : World) (g : Nat) (mp : Option Addr) (l : Nat → Ent) (va : Int) (hv : 0 ≤ va) (hv1 : va ≤ 4294967295) (k : Nat) (hk : va / 64 % 16 = k) (h : Uni w g mp l) :
    Calls Try.prog 77 #[.pointer (some ⟨g, 0, none⟩), .int .u32 va] w fun e w' => e = .returned (.tuple #[]) ∧ Uni w' g mp (if (l k).n = va / 64 then upd l k noE else l) ∧ Fr (· = g) w w' := by
  have hk16 : k < 16 := by omega
  obtain ⟨c0, c1, c2, c3⟩ := h.ent k hk16
  have hlt := h.lt
  have f0 := Cells.frozen h (1 + k * 4)
  have f1 := Cells.frozen h (1 + k * 4 + 1)
  have f2 := Cells.frozen h (1 + k * 4 + 2)
  have f3 := Cells.frozen h (1 + k * 4 + 3)
  have hq : 0 ≤ va / 64 := by omega
  by_cases hn : (l k).n = va / 64
  · rw [if_pos hn]
    have hn' : ((l k).n == va / 64) = true := by simp [hn]
    clear hn
    go_enter Try.func77, Try.ntmps77
    go_wp2
    go_end0
    refine ⟨rfl, ?_, ?_⟩
    · exact h.put k hk16 false 0 0 0
    · (repeat (first | exact Fr.refl _ _ | with_reducible assumption | refine Fr.drewN ?_ _ | refine Fr.drew ?_ | refine Fr.alloc ?_ _ | (refine Fr.setCell (p := ⟨_, _, _⟩) ?_ ?_ _; rotate_left; first | exact .inl rfl | (right; simp; done) | (right; simp; omega))))
  · rw [if_neg hn]
    have hn' : ((l k).n == va / 64) = false := by simp [hn]
    clear hn
    go_enter Try.func77, Try.ntmps77
    go_wp2
    go_end0
    refine ⟨rfl, h, ?_⟩
    (repeat (first | exact Fr.refl _ _ | with_reducible assumption | refine Fr.drewN ?_ _ | refine Fr.drew ?_ | refine Fr.alloc ?_ _ | (refine Fr.setCell (p := ⟨_, _, _⟩) ?_ ?_ _; rotate_left; first | exact .inl rfl | (right; simp; done) | (right; simp; omega))))

theorem uFind_any (w : World) (g : Nat) (mp : Option Addr) (l : Nat → Ent) (va kind : Int) (super : Bool) (hv : 0 ≤ va) (hv1 : va ≤ 4294967295) (k : Nat) (hk : va / 64 % 16 = k) (h : Uni w g mp l) :
    Calls Try.prog 99 #[.pointer (some ⟨g, 0, none⟩), .int .u32 va, .int .i64 kind, .bool super] w fun e w' => e = .returned (.tuple #[.int .u32 (found (l k) va kind super), .bool (hit (l k) va kind super)]) ∧ Fr (fun _ => False) w w' := by
  have hk16 : k < 16 := by omega
  obtain ⟨c0, c1, c2, c3⟩ := h.ent k hk16
  have hlt := h.lt
  have hq : 0 ≤ va / 64 := by omega
  obtain ⟨hb0, hb1⟩ := b8_le kind super
  have hbits := fun w => bits_any w kind super
  generalize l k = en at *
  obtain ⟨v, n, p, b⟩ := en
  dsimp only at c0 c1 c2 c3
  by_cases h3 : kind = 3
  · subst h3
    have hor : bits .or .u32 (b8 3 super) 64 = asks 3 super := by cases super <;> rfl
    cases v
    · have hd : hit ⟨false, n, p, b⟩ va 3 super = false := by simp [hit]
      have hf : found ⟨false, n, p, b⟩ va 3 super = 0 := by simp [found, hd]
      rw [hd, hf]
      clear hd hf
      go_enter Try.func99, Try.ntmps99
      go_wp2_with fail
      refine (hbits _).mono ?_
      rintro e w' ⟨rfl, rfl⟩
      go_wp2_with fail
      go_ret2
      refine ⟨rfl, ?_⟩
      (repeat (first | exact Fr.refl _ _ | with_reducible assumption | refine Fr.drewN ?_ _ | refine Fr.drew ?_ | refine Fr.alloc ?_ _ | (refine Fr.setCell (p := ⟨_, _, _⟩) ?_ ?_ _; rotate_left; first | exact .inl rfl | (right; simp; done) | (right; simp; omega))))
    · by_cases hn : n = va / 64
      · by_cases hb : bits .and .u32 b (asks 3 super) = asks 3 super
        · have hd : hit ⟨true, n, p, b⟩ va 3 super = true := by simp [hit, hn, hb]
          have hf : found ⟨true, n, p, b⟩ va 3 super = p * 64 % 4294967296 + va % 64 := by rw [found, if_pos hd]
          rw [hd, hf]
          clear hd hf
          have hn' : (n != va / 64) = false := by simp [hn]
          have hb' : (bits .and .u32 b (asks 3 super) != asks 3 super) = false := by simp [hb]
          clear hn hb
          go_enter Try.func99, Try.ntmps99
          go_wp2_with fail
          refine (hbits _).mono ?_
          rintro e w' ⟨rfl, rfl⟩
          go_wp2_with fail
          go_ret2
          refine ⟨rfl, ?_⟩
          (repeat (first | exact Fr.refl _ _ | with_reducible assumption | refine Fr.drewN ?_ _ | refine Fr.drew ?_ | refine Fr.alloc ?_ _ | (refine Fr.setCell (p := ⟨_, _, _⟩) ?_ ?_ _; rotate_left; first | exact .inl rfl | (right; simp; done) | (right; simp; omega))))
        · have hd : hit ⟨true, n, p, b⟩ va 3 super = false := by simp [hit, hb]
          have hf : found ⟨true, n, p, b⟩ va 3 super = 0 := by simp [found, hd]
          rw [hd, hf]
          clear hd hf
          have hn' : (n != va / 64) = false := by simp [hn]
          have hb' : (bits .and .u32 b (asks 3 super) != asks 3 super) = true := by simp [hb]
          clear hn hb
          go_enter Try.func99, Try.ntmps99
          go_wp2_with fail
          refine (hbits _).mono ?_
          rintro e w' ⟨rfl, rfl⟩
          go_wp2_with fail
          go_ret2
          refine ⟨rfl, ?_⟩
          (repeat (first | exact Fr.refl _ _ | with_reducible assumption | refine Fr.drewN ?_ _ | refine Fr.drew ?_ | refine Fr.alloc ?_ _ | (refine Fr.setCell (p := ⟨_, _, _⟩) ?_ ?_ _; rotate_left; first | exact .inl rfl | (right; simp; done) | (right; simp; omega))))
      · have hd : hit ⟨true, n, p, b⟩ va 3 super = false := by simp [hit, hn]
        have hf : found ⟨true, n, p, b⟩ va 3 super = 0 := by simp [found, hd]
        rw [hd, hf]
        clear hd hf
        have hn' : (n != va / 64) = true := by simp [hn]
        clear hn
        go_enter Try.func99, Try.ntmps99
        go_wp2_with fail
        refine (hbits _).mono ?_
        rintro e w' ⟨rfl, rfl⟩
        go_wp2_with fail
        go_ret2
        refine ⟨rfl, ?_⟩
        (repeat (first | exact Fr.refl _ _ | with_reducible assumption | refine Fr.drewN ?_ _ | refine Fr.drew ?_ | refine Fr.alloc ?_ _ | (refine Fr.setCell (p := ⟨_, _, _⟩) ?_ ?_ _; rotate_left; first | exact .inl rfl | (right; simp; done) | (right; simp; omega))))
  · have e3 : (kind == 3) = false := by simpa using h3
    by_cases h12 : 1 ≤ kind ∧ kind ≤ 2
    · have hba : b8 kind super = asks kind super := by
        have : kind = 1 ∨ kind = 2 := by omega
        rcases this with rfl | rfl <;> rfl
      have hkk : 1 ≤ kind ∧ kind ≤ 3 := by omega
      rw [hba] at hb0 hb1
      simp only [hba] at hbits
      clear hba h3
      obtain ⟨h10, h11⟩ := h12
      cases v
      · have hd : hit ⟨false, n, p, b⟩ va kind super = false := by simp [hit]
        have hf : found ⟨false, n, p, b⟩ va kind super = 0 := by simp [found, hd]
        rw [hd, hf]
        clear hd hf
        go_enter Try.func99, Try.ntmps99
        go_wp2_with fail
        refine (hbits _).mono ?_
        rintro e w' ⟨rfl, rfl⟩
        go_wp2_with fail
        go_ret2
        refine ⟨rfl, ?_⟩
        (repeat (first | exact Fr.refl _ _ | with_reducible assumption | refine Fr.drewN ?_ _ | refine Fr.drew ?_ | refine Fr.alloc ?_ _ | (refine Fr.setCell (p := ⟨_, _, _⟩) ?_ ?_ _; rotate_left; first | exact .inl rfl | (right; simp; done) | (right; simp; omega))))
      · by_cases hn : n = va / 64
        · by_cases hb : bits .and .u32 b (asks kind super) = asks kind super
          · have hd : hit ⟨true, n, p, b⟩ va kind super = true := by simp [hit, hn, hb, hkk.1, hkk.2]
            have hf : found ⟨true, n, p, b⟩ va kind super = p * 64 % 4294967296 + va % 64 := by rw [found, if_pos hd]
            rw [hd, hf]
            clear hd hf
            have hn' : (n != va / 64) = false := by simp [hn]
            have hb' : (bits .and .u32 b (asks kind super) != asks kind super) = false := by simp [hb]
            clear hn hb
            go_enter Try.func99, Try.ntmps99
            go_wp2_with fail
            refine (hbits _).mono ?_
            rintro e w' ⟨rfl, rfl⟩
            go_wp2_with fail
            go_ret2
            refine ⟨rfl, ?_⟩
            (repeat (first | exact Fr.refl _ _ | with_reducible assumption | refine Fr.drewN ?_ _ | refine Fr.drew ?_ | refine Fr.alloc ?_ _ | (refine Fr.setCell (p := ⟨_, _, _⟩) ?_ ?_ _; rotate_left; first | exact .inl rfl | (right; simp; done) | (right; simp; omega))))
          · have hd : hit ⟨true, n, p, b⟩ va kind super = false := by simp [hit, hb]
            have hf : found ⟨true, n, p, b⟩ va kind super = 0 := by simp [found, hd]
            rw [hd, hf]
            clear hd hf
            have hn' : (n != va / 64) = false := by simp [hn]
            have hb' : (bits .and .u32 b (asks kind super) != asks kind super) = true := by simp [hb]
            clear hn hb
            go_enter Try.func99, Try.ntmps99
            go_wp2_with fail
            refine (hbits _).mono ?_
            rintro e w' ⟨rfl, rfl⟩
            go_wp2_with fail
            go_ret2
            refine ⟨rfl, ?_⟩
            (repeat (first | exact Fr.refl _ _ | with_reducible assumption | refine Fr.drewN ?_ _ | refine Fr.drew ?_ | refine Fr.alloc ?_ _ | (refine Fr.setCell (p := ⟨_, _, _⟩) ?_ ?_ _; rotate_left; first | exact .inl rfl | (right; simp; done) | (right; simp; omega))))
        · have hd : hit ⟨true, n, p, b⟩ va kind super = false := by simp [hit, hn]
          have hf : found ⟨true, n, p, b⟩ va kind super = 0 := by simp [found, hd]
          rw [hd, hf]
          clear hd hf
          have hn' : (n != va / 64) = true := by simp [hn]
          clear hn
          go_enter Try.func99, Try.ntmps99
          go_wp2_with fail
          refine (hbits _).mono ?_
          rintro e w' ⟨rfl, rfl⟩
          go_wp2_with fail
          go_ret2
          refine ⟨rfl, ?_⟩
          (repeat (first | exact Fr.refl _ _ | with_reducible assumption | refine Fr.drewN ?_ _ | refine Fr.drew ?_ | refine Fr.alloc ?_ _ | (refine Fr.setCell (p := ⟨_, _, _⟩) ?_ ?_ _; rotate_left; first | exact .inl rfl | (right; simp; done) | (right; simp; omega))))
    · have hkk : ¬ (1 ≤ kind ∧ kind ≤ 3) := by omega
      have hd : hit ⟨v, n, p, b⟩ va kind super = false := by simp [hit, hkk]
      have hf : found ⟨v, n, p, b⟩ va kind super = 0 := by simp [found, hd]
      rw [hd, hf]
      clear hd hf h3
      generalize b8 kind super = bb at *
      cases v
      · go_enter Try.func99, Try.ntmps99
        go_wp2_with fail
        refine (hbits _).mono ?_
        rintro e w' ⟨rfl, rfl⟩
        go_wp2_with fail
        go_ret2
        refine ⟨rfl, ?_⟩
        (repeat (first | exact Fr.refl _ _ | with_reducible assumption | refine Fr.drewN ?_ _ | refine Fr.drew ?_ | refine Fr.alloc ?_ _ | (refine Fr.setCell (p := ⟨_, _, _⟩) ?_ ?_ _; rotate_left; first | exact .inl rfl | (right; simp; done) | (right; simp; omega))))
      · by_cases hn : n = va / 64
        · have hn' : (n != va / 64) = false := by simp [hn]
          clear hn
          by_cases hl : kind < 1
          · go_enter Try.func99, Try.ntmps99
            go_wp2_with fail
            refine (hbits _).mono ?_
            rintro e w' ⟨rfl, rfl⟩
            go_wp2_with fail
            go_ret2
            refine ⟨rfl, ?_⟩
            (repeat (first | exact Fr.refl _ _ | with_reducible assumption | refine Fr.drewN ?_ _ | refine Fr.drew ?_ | refine Fr.alloc ?_ _ | (refine Fr.setCell (p := ⟨_, _, _⟩) ?_ ?_ _; rotate_left; first | exact .inl rfl | (right; simp; done) | (right; simp; omega))))
          · have hl' : decide (kind < 1) = false := by simpa using hl
            have hg : 3 < kind := by omega
            go_enter Try.func99, Try.ntmps99
            go_wp2_with fail
            refine (hbits _).mono ?_
            rintro e w' ⟨rfl, rfl⟩
            go_wp2_with fail
            go_ret2
            refine ⟨rfl, ?_⟩
            (repeat (first | exact Fr.refl _ _ | with_reducible assumption | refine Fr.drewN ?_ _ | refine Fr.drew ?_ | refine Fr.alloc ?_ _ | (refine Fr.setCell (p := ⟨_, _, _⟩) ?_ ?_ _; rotate_left; first | exact .inl rfl | (right; simp; done) | (right; simp; omega))))
        · have hn' : (n != va / 64) = true := by simp [hn]
          clear hn
          go_enter Try.func99, Try.ntmps99
          go_wp2_with fail
          refine (hbits _).mono ?_
          rintro e w' ⟨rfl, rfl⟩
          go_wp2_with fail
          go_ret2
          refine ⟨rfl, ?_⟩
          (repeat (first | exact Fr.refl _ _ | with_reducible assumption | refine Fr.drewN ?_ _ | refine Fr.drew ?_ | refine Fr.alloc ?_ _ | (refine Fr.setCell (p := ⟨_, _, _⟩) ?_ ?_ _; rotate_left; first | exact .inl rfl | (right; simp; done) | (right; simp; omega))))
end Go.Proofs.Ythiephlfhbkcbaa.Tl
