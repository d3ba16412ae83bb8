/- CacheNumbers. -/
import Derived.Test.YtfjlgdafakbdoaaCaAl
namespace Go.Proofs.Ytfjlgdafakbdoaa.cacheNumbers
open Go.RowKit Ca Bk
set_option linter.unusedVariables false
set_option linter.unusedSimpArgs false
set_option maxHeartbeats 4000000
set_option maxRecDepth 100000

def askCells (g : Nat) : Array Value := #[.int .i64 1, .int .i64 0, .int .u32 0, .int .u32 0, .int .u32 0, .int .u32 0, .slice (some ⟨g, 0, none⟩) 1 1, .slice none 0 0, .int .i64 1, .int .i64 1, .int .u32 0, .int .u32 0, .int .u32 0, .int .u32 0, .slice none 0 0, .slice none 0 0, .int .i64 1, .int .i64 1, .int .u32 1, .int .u32 5, .int .u32 0, .int .u32 0, .slice (some ⟨g + 1, 0, none⟩) 1 1, .slice none 0 0, .int .i64 1, .int .i64 2, .int .u32 1, .int .u32 70, .int .u32 0, .int .u32 0, .slice (some ⟨g + 1 + 1, 0, none⟩) 1 1, .slice none 0 0, .int .i64 4, .int .i64 0, .int .u32 1, .int .u32 5, .int .u32 1, .int .u32 70, .slice none 0 0, .slice none 0 0, .int .i64 4, .int .i64 0, .int .u32 1, .int .u32 5, .int .u32 1, .int .u32 5, .slice none 0 0, .slice none 0 0, .int .i64 4, .int .i64 0, .int .u32 1, .int .u32 5, .int .u32 1, .int .u32 70, .slice none 0 0, .slice none 0 0, .int .i64 4, .int .i64 0, .int .u32 1, .int .u32 70, .int .u32 1, .int .u32 5, .slice none 0 0, .slice none 0 0, .int .i64 4, .int .i64 0, .int .u32 1, .int .u32 5, .int .u32 1, .int .u32 6, .slice none 0 0, .slice none 0 0, .int .i64 1, .int .i64 3, .int .u32 1, .int .u32 5, .int .u32 0, .int .u32 0, .slice (some ⟨g + 1 + 1 + 1, 0, none⟩) 1 1, .slice none 0 0, .int .i64 4, .int .i64 0, .int .u32 1, .int .u32 70, .int .u32 1, .int .u32 5, .slice none 0 0, .slice none 0 0, .int .i64 2, .int .i64 0, .int .u32 0, .int .u32 0, .int .u32 0, .int .u32 0, .slice none 0 0, .slice (some ⟨g + 1 + 1 + 1 + 1, 0, none⟩) 2 2, .int .i64 2, .int .i64 0, .int .u32 0, .int .u32 0, .int .u32 0, .int .u32 0, .slice none 0 0, .slice none 0 0, .int .i64 3, .int .i64 0, .int .u32 0, .int .u32 0, .int .u32 0, .int .u32 0, .slice none 0 0, .slice none 0 0, .int .i64 3, .int .i64 0, .int .u32 0, .int .u32 0, .int .u32 0, .int .u32 0, .slice none 0 0, .slice none 0 0]
def asks (g : Nat) : List Ask23 := [⟨1, 0, 0, 0, 0, 0, some ⟨g, 0, none⟩, 1, 1, [1], none, 0, 0, []⟩, ⟨1, 1, 0, 0, 0, 0, none, 0, 0, [], none, 0, 0, []⟩, ⟨1, 1, 1, 5, 0, 0, some ⟨g + 1, 0, none⟩, 1, 1, [1], none, 0, 0, []⟩, ⟨1, 2, 1, 70, 0, 0, some ⟨g + 1 + 1, 0, none⟩, 1, 1, [2], none, 0, 0, []⟩, ⟨4, 0, 1, 5, 1, 70, none, 0, 0, [], none, 0, 0, []⟩, ⟨4, 0, 1, 5, 1, 5, none, 0, 0, [], none, 0, 0, []⟩, ⟨4, 0, 1, 5, 1, 70, none, 0, 0, [], none, 0, 0, []⟩, ⟨4, 0, 1, 70, 1, 5, none, 0, 0, [], none, 0, 0, []⟩, ⟨4, 0, 1, 5, 1, 6, none, 0, 0, [], none, 0, 0, []⟩, ⟨1, 3, 1, 5, 0, 0, some ⟨g + 1 + 1 + 1, 0, none⟩, 1, 1, [3], none, 0, 0, []⟩, ⟨4, 0, 1, 70, 1, 5, none, 0, 0, [], none, 0, 0, []⟩, ⟨2, 0, 0, 0, 0, 0, none, 0, 0, [], some ⟨g + 1 + 1 + 1 + 1, 0, none⟩, 2, 2, [1, 1]⟩, ⟨2, 0, 0, 0, 0, 0, none, 0, 0, [], none, 0, 0, []⟩, ⟨3, 0, 0, 0, 0, 0, none, 0, 0, [], none, 0, 0, []⟩, ⟨3, 0, 0, 0, 0, 0, none, 0, 0, [], none, 0, 0, []⟩]
def KN (w : World) (g q : Nat) : Prop := q < w.heap.size ∨ (g ≤ q ∧ q < g + 6)
theorem ints_blk {k : IntKind} {W : World} {g B : Nat} {t : TypeId} {cs : Array Value} {zs : List Int} (h : Blk W g t cs) (hcs : ∀ i, i < zs.length → cs[i]? = some (.int k (zs.getD i 0))) (hwf : ∀ i, i < zs.length → (Lit.int k (zs.getD i 0)).wf = true) (hB : g < B) : IntsAt k W B (some ⟨g, 0, none⟩) zs.length zs :=
  ⟨rfl, hwf, fun _ => ⟨g, 0, rfl, hB, fun i hi => by rw [Nat.zero_add, h.cell i]; exact hcs i hi⟩⟩
/-- the six rows -/
structure Rows6 (g : Nat) (W : World) : Prop where
  r0 : Blk W g 5 #[.int .u8 1]
  r1 : Blk W (g + 1) 5 #[.int .u8 1]
  r2 : Blk W (g + 1 + 1) 5 #[.int .u8 2]
  r3 : Blk W (g + 1 + 1 + 1) 5 #[.int .u8 3]
  r4 : Blk W (g + 1 + 1 + 1 + 1) 3 #[.int .i64 1, .int .i64 1]
  r5 : Blk W (g + 1 + 1 + 1 + 1 + 1) 47 (askCells g)
theorem Rows6.fr {w W W' : World} {g : Nat} (h : Rows6 g W) (f : Fr (fun q => ¬ KN w g q) W W') : Rows6 g W' :=
  ⟨h.r0.fr f (fun e => e (.inr ⟨by omega, by omega⟩)), h.r1.fr f (fun e => e (.inr ⟨by omega, by omega⟩)), h.r2.fr f (fun e => e (.inr ⟨by omega, by omega⟩)), h.r3.fr f (fun e => e (.inr ⟨by omega, by omega⟩)), h.r4.fr f (fun e => e (.inr ⟨by omega, by omega⟩)), h.r5.fr f (fun e => e (.inr ⟨by omega, by omega⟩))⟩
theorem rows_ok {w W : World} {g i : Nat} (h : Rows6 g W) (hi : i < 15) : ∃ x : Ask23, Cells23 W (g + 1 + 1 + 1 + 1 + 1) (i * 8) x ∧ x.OkK W (g + 6) (KN w g) := by
  have hB : g + 6 ≤ W.heap.size := by have := h.r5.lt; omega
  have c := fun j => h.r5.cell j
  have nn : ∀ (k : IntKind) (W' : World), IntsAt k W' (g + 6) none 0 [] := fun k W' => intsAt_nil _ _ _ _
  have i0 : ∀ W', Fr (fun q => ¬ KN w g q) W W' → IntsAt .u8 W' (g + 6) (some ⟨g, 0, none⟩) 1 [1] := fun W' f => ints_blk (zs := [1]) (h.fr f).r0 (fun i hi => by have : i = 0 := (by simp at hi; omega); subst this; rfl) (fun i hi => by have : i = 0 := (by simp at hi; omega); subst this; rfl) (by omega)
  have i1 : ∀ W', Fr (fun q => ¬ KN w g q) W W' → IntsAt .u8 W' (g + 6) (some ⟨g + 1, 0, none⟩) 1 [1] := fun W' f => ints_blk (zs := [1]) (h.fr f).r1 (fun i hi => by have : i = 0 := (by simp at hi; omega); subst this; rfl) (fun i hi => by have : i = 0 := (by simp at hi; omega); subst this; rfl) (by omega)
  have i2 : ∀ W', Fr (fun q => ¬ KN w g q) W W' → IntsAt .u8 W' (g + 6) (some ⟨g + 1 + 1, 0, none⟩) 1 [2] := fun W' f => ints_blk (zs := [2]) (h.fr f).r2 (fun i hi => by have : i = 0 := (by simp at hi; omega); subst this; rfl) (fun i hi => by have : i = 0 := (by simp at hi; omega); subst this; rfl) (by omega)
  have i3 : ∀ W', Fr (fun q => ¬ KN w g q) W W' → IntsAt .u8 W' (g + 6) (some ⟨g + 1 + 1 + 1, 0, none⟩) 1 [3] := fun W' f => ints_blk (zs := [3]) (h.fr f).r3 (fun i hi => by have : i = 0 := (by simp at hi; omega); subst this; rfl) (fun i hi => by have : i = 0 := (by simp at hi; omega); subst this; rfl) (by omega)
  have i4 : ∀ W', Fr (fun q => ¬ KN w g q) W W' → IntsAt .i64 W' (g + 6) (some ⟨g + 1 + 1 + 1 + 1, 0, none⟩) 2 [1, 1] := fun W' f => ints_blk (zs := [1, 1]) (h.fr f).r4 (fun i hi => by rcases (by simp at hi; omega : i = 0 ∨ i = 1) with rfl | rfl <;> rfl) (fun i hi => by rcases (by simp at hi; omega : i = 0 ∨ i = 1) with rfl | rfl <;> rfl) (by omega)
  rcases (by omega : i = 0 ∨ i = 1 ∨ i = 2 ∨ i = 3 ∨ i = 4 ∨ i = 5 ∨ i = 6 ∨ i = 7 ∨ i = 8 ∨ i = 9 ∨ i = 10 ∨ i = 11 ∨ i = 12 ∨ i = 13 ∨ i = 14) with rfl | rfl | rfl | rfl | rfl | rfl | rfl | rfl | rfl | rfl | rfl | rfl | rfl | rfl | rfl
  · exact ⟨⟨1, 0, 0, 0, 0, 0, some ⟨g, 0, none⟩, 1, 1, [1], none, 0, 0, []⟩, ⟨c 0, c 1, c 2, c 3, c 4, c 5, c 6, c 7⟩, ⟨rfl, rfl, rfl, rfl, rfl, rfl, ⟨i0, show (1 : Nat) ≤ maxLen from by decide, Nat.le_refl _⟩, ⟨fun W' _ => nn _ _, show (0 : Nat) ≤ maxLen from by decide, Nat.le_refl _⟩, hB⟩⟩
  · exact ⟨⟨1, 1, 0, 0, 0, 0, none, 0, 0, [], none, 0, 0, []⟩, ⟨c 8, c 9, c 10, c 11, c 12, c 13, c 14, c 15⟩, ⟨rfl, rfl, rfl, rfl, rfl, rfl, ⟨fun W' _ => nn _ _, show (0 : Nat) ≤ maxLen from by decide, Nat.le_refl _⟩, ⟨fun W' _ => nn _ _, show (0 : Nat) ≤ maxLen from by decide, Nat.le_refl _⟩, hB⟩⟩
  · exact ⟨⟨1, 1, 1, 5, 0, 0, some ⟨g + 1, 0, none⟩, 1, 1, [1], none, 0, 0, []⟩, ⟨c 16, c 17, c 18, c 19, c 20, c 21, c 22, c 23⟩, ⟨rfl, rfl, rfl, rfl, rfl, rfl, ⟨i1, show (1 : Nat) ≤ maxLen from by decide, Nat.le_refl _⟩, ⟨fun W' _ => nn _ _, show (0 : Nat) ≤ maxLen from by decide, Nat.le_refl _⟩, hB⟩⟩
  · exact ⟨⟨1, 2, 1, 70, 0, 0, some ⟨g + 1 + 1, 0, none⟩, 1, 1, [2], none, 0, 0, []⟩, ⟨c 24, c 25, c 26, c 27, c 28, c 29, c 30, c 31⟩, ⟨rfl, rfl, rfl, rfl, rfl, rfl, ⟨i2, show (1 : Nat) ≤ maxLen from by decide, Nat.le_refl _⟩, ⟨fun W' _ => nn _ _, show (0 : Nat) ≤ maxLen from by decide, Nat.le_refl _⟩, hB⟩⟩
  · exact ⟨⟨4, 0, 1, 5, 1, 70, none, 0, 0, [], none, 0, 0, []⟩, ⟨c 32, c 33, c 34, c 35, c 36, c 37, c 38, c 39⟩, ⟨rfl, rfl, rfl, rfl, rfl, rfl, ⟨fun W' _ => nn _ _, show (0 : Nat) ≤ maxLen from by decide, Nat.le_refl _⟩, ⟨fun W' _ => nn _ _, show (0 : Nat) ≤ maxLen from by decide, Nat.le_refl _⟩, hB⟩⟩
  · exact ⟨⟨4, 0, 1, 5, 1, 5, none, 0, 0, [], none, 0, 0, []⟩, ⟨c 40, c 41, c 42, c 43, c 44, c 45, c 46, c 47⟩, ⟨rfl, rfl, rfl, rfl, rfl, rfl, ⟨fun W' _ => nn _ _, show (0 : Nat) ≤ maxLen from by decide, Nat.le_refl _⟩, ⟨fun W' _ => nn _ _, show (0 : Nat) ≤ maxLen from by decide, Nat.le_refl _⟩, hB⟩⟩
  · exact ⟨⟨4, 0, 1, 5, 1, 70, none, 0, 0, [], none, 0, 0, []⟩, ⟨c 48, c 49, c 50, c 51, c 52, c 53, c 54, c 55⟩, ⟨rfl, rfl, rfl, rfl, rfl, rfl, ⟨fun W' _ => nn _ _, show (0 : Nat) ≤ maxLen from by decide, Nat.le_refl _⟩, ⟨fun W' _ => nn _ _, show (0 : Nat) ≤ maxLen from by decide, Nat.le_refl _⟩, hB⟩⟩
  · exact ⟨⟨4, 0, 1, 70, 1, 5, none, 0, 0, [], none, 0, 0, []⟩, ⟨c 56, c 57, c 58, c 59, c 60, c 61, c 62, c 63⟩, ⟨rfl, rfl, rfl, rfl, rfl, rfl, ⟨fun W' _ => nn _ _, show (0 : Nat) ≤ maxLen from by decide, Nat.le_refl _⟩, ⟨fun W' _ => nn _ _, show (0 : Nat) ≤ maxLen from by decide, Nat.le_refl _⟩, hB⟩⟩
  · exact ⟨⟨4, 0, 1, 5, 1, 6, none, 0, 0, [], none, 0, 0, []⟩, ⟨c 64, c 65, c 66, c 67, c 68, c 69, c 70, c 71⟩, ⟨rfl, rfl, rfl, rfl, rfl, rfl, ⟨fun W' _ => nn _ _, show (0 : Nat) ≤ maxLen from by decide, Nat.le_refl _⟩, ⟨fun W' _ => nn _ _, show (0 : Nat) ≤ maxLen from by decide, Nat.le_refl _⟩, hB⟩⟩
  · exact ⟨⟨1, 3, 1, 5, 0, 0, some ⟨g + 1 + 1 + 1, 0, none⟩, 1, 1, [3], none, 0, 0, []⟩, ⟨c 72, c 73, c 74, c 75, c 76, c 77, c 78, c 79⟩, ⟨rfl, rfl, rfl, rfl, rfl, rfl, ⟨i3, show (1 : Nat) ≤ maxLen from by decide, Nat.le_refl _⟩, ⟨fun W' _ => nn _ _, show (0 : Nat) ≤ maxLen from by decide, Nat.le_refl _⟩, hB⟩⟩
  · exact ⟨⟨4, 0, 1, 70, 1, 5, none, 0, 0, [], none, 0, 0, []⟩, ⟨c 80, c 81, c 82, c 83, c 84, c 85, c 86, c 87⟩, ⟨rfl, rfl, rfl, rfl, rfl, rfl, ⟨fun W' _ => nn _ _, show (0 : Nat) ≤ maxLen from by decide, Nat.le_refl _⟩, ⟨fun W' _ => nn _ _, show (0 : Nat) ≤ maxLen from by decide, Nat.le_refl _⟩, hB⟩⟩
  · exact ⟨⟨2, 0, 0, 0, 0, 0, none, 0, 0, [], some ⟨g + 1 + 1 + 1 + 1, 0, none⟩, 2, 2, [1, 1]⟩, ⟨c 88, c 89, c 90, c 91, c 92, c 93, c 94, c 95⟩, ⟨rfl, rfl, rfl, rfl, rfl, rfl, ⟨fun W' _ => nn _ _, show (0 : Nat) ≤ maxLen from by decide, Nat.le_refl _⟩, ⟨i4, show (2 : Nat) ≤ maxLen from by decide, Nat.le_refl _⟩, hB⟩⟩
  · exact ⟨⟨2, 0, 0, 0, 0, 0, none, 0, 0, [], none, 0, 0, []⟩, ⟨c 96, c 97, c 98, c 99, c 100, c 101, c 102, c 103⟩, ⟨rfl, rfl, rfl, rfl, rfl, rfl, ⟨fun W' _ => nn _ _, show (0 : Nat) ≤ maxLen from by decide, Nat.le_refl _⟩, ⟨fun W' _ => nn _ _, show (0 : Nat) ≤ maxLen from by decide, Nat.le_refl _⟩, hB⟩⟩
  · exact ⟨⟨3, 0, 0, 0, 0, 0, none, 0, 0, [], none, 0, 0, []⟩, ⟨c 104, c 105, c 106, c 107, c 108, c 109, c 110, c 111⟩, ⟨rfl, rfl, rfl, rfl, rfl, rfl, ⟨fun W' _ => nn _ _, show (0 : Nat) ≤ maxLen from by decide, Nat.le_refl _⟩, ⟨fun W' _ => nn _ _, show (0 : Nat) ≤ maxLen from by decide, Nat.le_refl _⟩, hB⟩⟩
  · exact ⟨⟨3, 0, 0, 0, 0, 0, none, 0, 0, [], none, 0, 0, []⟩, ⟨c 112, c 113, c 114, c 115, c 116, c 117, c 118, c 119⟩, ⟨rfl, rfl, rfl, rfl, rfl, rfl, ⟨fun W' _ => nn _ _, show (0 : Nat) ≤ maxLen from by decide, Nat.le_refl _⟩, ⟨fun W' _ => nn _ _, show (0 : Nat) ≤ maxLen from by decide, Nat.le_refl _⟩, hB⟩⟩
theorem walk (w : World) : Calls Try.prog 5 #[] w fun e w' => e = .returned (.bool true) ∧ Fr (fun _ => False) w w' := by
  have hsz : (w.alloc (.cells #[.int .i64 (-1), .int .i64 0, .int .i64 1, .int .i64 2, .int .i64 1024, .int .i64 1025] 3)).heap.size = w.heap.size + 1 := by simp
  have BL := Lib.hid (Blk.new w 3 #[.int .i64 (-1), .int .i64 0, .int .i64 1, .int .i64 2, .int .i64 1024, .int .i64 1025])
  have HSZ := Lib.hid hsz
  clear hsz
  go_enter Try.func5, Try.ntmps5
  go_wp2_with fail
  go_loopw [13] (fun iv wr => ∃ q : Nat, q ≤ 6 ∧ iv = .int .i64 q ∧ Hid (Fr (fun _ => False) (w.alloc (.cells #[.int .i64 (-1), .int .i64 0, .int .i64 1, .int .i64 2, .int .i64 1024, .int .i64 1025] 3)) wr)) (fun iv _ => 6 - (intOf iv).toNat)
  case atStart => exact ⟨0, by omega, rfl, Lib.hid (Fr.refl _ _)⟩
  case round =>
    obtain ⟨q, hq, rfl, hf⟩ := hrel
    obtain ⟨wo, rfl⟩ : ∃ wo : World, wo = wr := ⟨_, rfl⟩
    by_cases hq6 : q < 6
    · have hd : decide ((q : Int) < 6) = true := by simp; omega
      have q0 : (0 : Int) ≤ (q : Int) := by omega
      have q1 : (q : Int) < 6 := by omega
      have bl := BL.out.fr hf.out (fun e => e)
      have NX : Hid (∀ W, Fr (fun _ => False) wo W → ∃ j : Nat, j ≤ 6 ∧ Value.int IntKind.i64 ((q : Int) + 1) = .int .i64 j ∧ Hid (Fr (fun _ => False) (w.alloc (.cells #[.int .i64 (-1), .int .i64 0, .int .i64 1, .int .i64 2, .int .i64 1024, .int .i64 1025] 3)) W)) := Lib.hid (fun W fW => ⟨q + 1, by omega, by go_num, Lib.hid (hf.out.tr fW)⟩)
      have ME : Hid (6 - (intOf (Value.int IntKind.i64 ((q : Int) + 1))).toNat < 6 - (intOf (Value.int IntKind.i64 (q : Int))).toNat) := Lib.hid (by simp [intOf]; omega)
      by_cases hyes : q = 2 ∨ q = 3 ∨ q = 4
      · obtain ⟨n, hn, hn1, hn2⟩ : ∃ n : Int, wo.cell? ⟨w.heap.size, q, none⟩ = some (.int .i64 n) ∧ 1 ≤ n ∧ n ≤ 1024 := by
          rcases hyes with rfl | rfl | rfl
          · exact ⟨1, bl.cell 2, by omega, by omega⟩
          · exact ⟨2, bl.cell 3, by omega, by omega⟩
          · exact ⟨1024, bl.cell 4, by omega, by omega⟩
        have Hn := Lib.hid (new_yes wo n hn1 hn2)
        have hle : decide (1 ≤ n) = true := by simpa using hn1
        have hle2 : decide (n ≤ 1024) = true := by simpa using hn2
        clear hyes bl
        go_wp2_with fail
        refine (Hn.out).mono ?_
        rintro e w1 ⟨gc, gm, rfl, h1, hg1, hgm1, hg2, hgm2, f1⟩
        have F1 := Lib.hid f1
        clear h1 f1
        go_wp2_with fail
        exact ⟨NX.out _ F1.out, ME.out⟩
      · obtain ⟨n, hn, hn1⟩ : ∃ n : Int, wo.cell? ⟨w.heap.size, q, none⟩ = some (.int .i64 n) ∧ (n < 1 ∨ 1024 < n) := by
          rcases (by omega : q = 0 ∨ q = 1 ∨ q = 5) with rfl | rfl | rfl
          · exact ⟨-1, bl.cell 0, by omega⟩
          · exact ⟨0, bl.cell 1, by omega⟩
          · exact ⟨1025, bl.cell 5, by omega⟩
        have Hn := Lib.hid (new_no wo n (by omega))
        have hle : (decide (1 ≤ n) && decide (n ≤ 1024)) = false := by
          rcases hn1 with h | h
          · simp; omega
          · simp; omega
        have hca : decide (1 ≤ n) = false ∨ (decide (1 ≤ n) = true ∧ decide (n ≤ 1024) = false) := by
          rcases hn1 with h | h
          · left; simp; omega
          · right; exact ⟨by simp; omega, by simp; omega⟩
        clear hyes bl hn1 hle
        rcases hca with hle | ⟨hle, hle2⟩
        all_goals
          go_wp2_with fail
          refine (Hn.out).mono ?_
          rintro e w1 ⟨rfl, rfl⟩
          go_wp2_with fail
          exact ⟨NX.out _ (Fr.refl _ _), ME.out⟩
    · have hd : decide ((q : Int) < 6) = false := by simp; omega
      have F0 := Lib.hid (((Fr.refl (fun _ => False) w).alloc (.cells #[.int .i64 (-1), .int .i64 0, .int .i64 1, .int .i64 2, .int .i64 1024, .int .i64 1025] 3)).tr hf.out)
      have Hn := Lib.hid (new_yes wo 3 (by omega) (by omega))
      go_wp2_with fail
      refine (Hn.out).mono ?_
      rintro e w1 ⟨gc, gm, rfl, h1, hg1, hgm1, hg2, hgm2, f1⟩
      have Hr := Lib.hid (rnew_any w1 3 ⟨by omega, by omega⟩)
      have H1 := Lib.hid h1
      have F1 := Lib.hid f1
      have FX := Lib.hid f1
      clear Hn h1 f1
      go_wp2_with fail
      refine (Hr.out).mono ?_
      rintro e w2 ⟨gd, rfl, hgd, h2, f2⟩
      have H2 := Lib.hid h2
      have F2 := Lib.hid f2
      have HGD := Lib.hid hgd
      clear h2 f2 Hr hgd
      go_wp2_with fail
      have F6 : Hid (Fr (fun _ => False) w2 ((((((w2.alloc (.cells #[.int .u8 1] 5)).alloc (.cells #[.int .u8 1] 5)).alloc (.cells #[.int .u8 2] 5)).alloc (.cells #[.int .u8 3] 5)).alloc (.cells #[.int .i64 1, .int .i64 1] 3)).alloc (.cells (askCells w2.heap.size) 47))) := Lib.hid ((((((((Fr.refl _ w2).alloc _).alloc _).alloc _).alloc _).alloc _).alloc _))
      have hs1 : (w2.alloc (.cells #[.int .u8 1] 5)).heap.size = w2.heap.size + 1 := by simp
      have hs2 : ((w2.alloc (.cells #[.int .u8 1] 5)).alloc (.cells #[.int .u8 1] 5)).heap.size = w2.heap.size + 1 + 1 := by simp
      have hs3 : (((w2.alloc (.cells #[.int .u8 1] 5)).alloc (.cells #[.int .u8 1] 5)).alloc (.cells #[.int .u8 2] 5)).heap.size = w2.heap.size + 1 + 1 + 1 := by simp
      have hs4 : ((((w2.alloc (.cells #[.int .u8 1] 5)).alloc (.cells #[.int .u8 1] 5)).alloc (.cells #[.int .u8 2] 5)).alloc (.cells #[.int .u8 3] 5)).heap.size = w2.heap.size + 1 + 1 + 1 + 1 := by simp
      have hs5 : (((((w2.alloc (.cells #[.int .u8 1] 5)).alloc (.cells #[.int .u8 1] 5)).alloc (.cells #[.int .u8 2] 5)).alloc (.cells #[.int .u8 3] 5)).alloc (.cells #[.int .i64 1, .int .i64 1] 3)).heap.size = w2.heap.size + 1 + 1 + 1 + 1 + 1 := by simp
      have R6 : Hid (Rows6 w2.heap.size ((((((w2.alloc (.cells #[.int .u8 1] 5)).alloc (.cells #[.int .u8 1] 5)).alloc (.cells #[.int .u8 2] 5)).alloc (.cells #[.int .u8 3] 5)).alloc (.cells #[.int .i64 1, .int .i64 1] 3)).alloc (.cells (askCells w2.heap.size) 47))) := Lib.hid ⟨(((((Blk.new w2 _ _).alloc _).alloc _).alloc _).alloc _).alloc _, ((((Blk.new' _ _ _ hs1).alloc _).alloc _).alloc _).alloc _, (((Blk.new' _ _ _ hs2).alloc _).alloc _).alloc _, ((Blk.new' _ _ _ hs3).alloc _).alloc _, (Blk.new' _ _ _ hs4).alloc _, Blk.new' _ _ _ hs5⟩
      generalize hW6 : ((((((w2.alloc (.cells #[.int .u8 1] 5)).alloc (.cells #[.int .u8 1] 5)).alloc (.cells #[.int .u8 2] 5)).alloc (.cells #[.int .u8 3] 5)).alloc (.cells #[.int .i64 1, .int .i64 1] 3)).alloc (.cells (askCells w2.heap.size) 47)) = W6 at F6 R6
      unfold askCells at hW6
      rw [hW6]
      clear hW6 hs1 hs2 hs3 hs4 hs5
      have D6 : Hid (∃ s d, Duo (KN w w2.heap.size) W6 gc gd s d ∧ Same s d ∧ s.fl ≤ ((0 : Nat) : Int)) := Lib.hid (by
        have hc2 := H1.out.fr0 F2.out
        have lc := hc2.low
        have ld := H2.out.low
        have hs1 := F1.out.size
        have hs2 := F2.out.size
        have hs0 := F0.out.size
        have hgd := HGD.out
        have hs6 : w2.heap.size + 6 ≤ W6.heap.size := by have := R6.out.r5.lt; omega
        refine ⟨Cs.new 3 gm, ⟨3, [], none, 0, 0⟩, ⟨hc2.fr0 F6.out, H2.out.fr0 F6.out, fun q hq e2 => ?_, fun q hq e => ?_, fun q hq e => ?_, fun q hq => ?_⟩, ⟨rfl, rfl, rfl⟩, by show (0 : Int) ≤ ((0 : Nat) : Int); omega⟩
        · have := H1.out.low q hq
          rcases e2 with e2 | e2 | ⟨b, hb, _⟩
          · omega
          · cases e2
          · cases hb
        · have h1 := lc q hq
          rcases e with e | e
          · exact (own_new (K := fun q => q < w.heap.size) (n := 3) (by omega) (by omega) : OwnK _ gc (Cs.new 3 gm)) q hq e
          · omega
        · have h1 := ld q hq
          rcases e with e | e
          · rcases hq with e2 | e2 | ⟨b, hb, _⟩
            · omega
            · cases e2
            · cases hb
          · omega
        · rcases hq with e | e
          · omega
          · omega)
      clear H1 H2 F1
      go_loopw [95] (fun iv wr => ∃ i : Nat, i ≤ 15 ∧ iv = .int .i64 i ∧ Hid ((∃ s d, Duo (KN w w2.heap.size) wr gc gd s d ∧ Same s d ∧ s.fl ≤ (i : Int)) ∧ Fr (fun q => ¬ KN w w2.heap.size q) W6 wr)) (fun iv _ => 15 - (intOf iv).toNat)
      case atStart => exact ⟨0, by omega, rfl, Lib.hid ⟨D6.out, Fr.refl _ _⟩⟩
      case round =>
        obtain ⟨i, hi, rfl, hP⟩ := hrel
        obtain ⟨wp, rfl⟩ : ∃ wp : World, wp = wr := ⟨_, rfl⟩
        clear D6
        by_cases hi15 : i < 15
        · have hd2 : decide ((i : Int) < 15) = true := by simp; omega
          have i0 : (0 : Int) ≤ (i : Int) := by omega
          have i1 : (i : Int) < 15 := by omega
          obtain ⟨x, hx, hok⟩ := rows_ok (w := w) (R6.out.fr hP.out.2) hi15
          have HOK := Lib.hid hok
          obtain ⟨kd, ct, a0, a1, b0, b1, A, ln, cp, zs, pA, pl, pc, ps⟩ := x
          obtain ⟨c0, c1, c2, c3, c4, c5, c6, c7⟩ := hx
          have d0 : wp.cell? ⟨w2.heap.size + 1 + 1 + 1 + 1 + 1, i * 8, none⟩ = some (.int .i64 kd) := c0
          have d1 : wp.cell? ⟨w2.heap.size + 1 + 1 + 1 + 1 + 1, i * 8 + 1, none⟩ = some (.int .i64 ct) := c1
          have d2 : wp.cell? ⟨w2.heap.size + 1 + 1 + 1 + 1 + 1, i * 8 + 2, none⟩ = some (.int .u32 a0) := c2
          have d3 : wp.cell? ⟨w2.heap.size + 1 + 1 + 1 + 1 + 1, i * 8 + 3, none⟩ = some (.int .u32 a1) := c3
          have d4 : wp.cell? ⟨w2.heap.size + 1 + 1 + 1 + 1 + 1, i * 8 + 4, none⟩ = some (.int .u32 b0) := c4
          have d5 : wp.cell? ⟨w2.heap.size + 1 + 1 + 1 + 1 + 1, i * 8 + 5, none⟩ = some (.int .u32 b1) := c5
          have d6 : wp.cell? ⟨w2.heap.size + 1 + 1 + 1 + 1 + 1, i * 8 + 6, none⟩ = some (.slice A ln cp) := c6
          have d7 : wp.cell? ⟨w2.heap.size + 1 + 1 + 1 + 1 + 1, i * 8 + 7, none⟩ = some (.slice pA pl pc) := c7
          have fb := (Fr.refl (fun _ => False) wp).alloc (.cells #[.int .i64 kd, .int .i64 ct, .int .u32 a0, .int .u32 a1, .int .u32 b0, .int .u32 b1, .slice A ln cp, .slice pA pl pc] 47)
          have bx := Blk.new wp 47 #[.int .i64 kd, .int .i64 ct, .int .u32 a0, .int .u32 a1, .int .u32 b0, .int .u32 b1, .slice A ln cp, .slice pA pl pc]
          have Hdo : Hid (Calls Try.prog 21 #[.pointer (some ⟨gc, 0, none⟩), .pointer (some ⟨gd, 0, none⟩), .agg #[.int .i64 kd, .int .i64 ct, .int .u32 a0, .int .u32 a1, .int .u32 b0, .int .u32 b1, .slice A ln cp, .slice pA pl pc]] (wp.alloc (.cells #[.int .i64 kd, .int .i64 ct, .int .u32 a0, .int .u32 a1, .int .u32 b0, .int .u32 b1, .slice A ln cp, .slice pA pl pc] 47)) fun e w4 => e = .returned (.bool true) ∧ Hid ((∃ s d, Duo (KN w w2.heap.size) w4 gc gd s d ∧ Same s d ∧ s.fl ≤ ((i + 1 : Nat) : Int)) ∧ Fr (fun q => ¬ KN w w2.heap.size q) W6 w4 ∧ w4.cell? ⟨wp.heap.size, 2, none⟩ = some (.int .u32 a0) ∧ w4.cell? ⟨wp.heap.size, 3, none⟩ = some (.int .u32 a1))) := Lib.hid (by
            obtain ⟨⟨s, d, hD, hS, hfl⟩, hF⟩ := hP.out
            have hok2 : (⟨kd, ct, a0, a1, b0, b1, A, ln, cp, zs, pA, pl, pc, ps⟩ : Ask23).OkK (wp.alloc (.cells #[.int .i64 kd, .int .i64 ct, .int .u32 a0, .int .u32 a1, .int .u32 b0, .int .u32 b1, .slice A ln cp, .slice pA pl pc] 47)) (w2.heap.size + 6) (KN w w2.heap.size) := by
              have k := HOK.out
              exact ⟨k.kd, k.ct, k.a0, k.a1, k.b0, k.b1, ⟨fun W f => k.code.1 W ((fb.mono (fun _ _ e => e.elim)).tr f), k.code.2⟩, ⟨fun W f => k.pages.1 W ((fb.mono (fun _ _ e => e.elim)).tr f), k.pages.2⟩, Nat.le_trans k.hB fb.size⟩
            have hD2 := hD.fr0 fb
            refine (do_any _ (w2.heap.size + 6) _ gc gd s d hD2 hS (by omega) ⟨kd, ct, a0, a1, b0, b1, A, ln, cp, zs, pA, pl, pc, ps⟩ hok2).mono ?_
            rintro e w4 ⟨g1, s', d', g2, g3, _, g4, g5⟩
            have hno : ¬ (s.own gc wp.heap.size ∨ d.own gd wp.heap.size) := fun e => by
              rcases e with e | e
              · have := hD.cc.low _ e; omega
              · have := hD.dd.low _ e; omega
            have b4 := bx.fr g5 hno
            exact ⟨g1, Lib.hid ⟨⟨s', d', g2, g3, by omega⟩, (hF.tr (fb.mono (fun _ _ e => e.elim))).tr (g5.mono (fun q _ e => hD.lo q e)), b4.cell 2, b4.cell 3⟩⟩)
          clear c0 c1 c2 c3 c4 c5 c6 c7 hok fb bx
          go_wp2_with fail
          refine (Hdo.out).mono ?_
          rintro e w4 ⟨rfl, HP4⟩
          obtain ⟨hq4, hf4, u2, u3⟩ := HP4.out
          have Ha : Hid (Calls Try.prog 22 #[.pointer (some ⟨gc, 0, none⟩), .pointer (some ⟨gd, 0, none⟩), .agg #[.int .u32 a0, .int .u32 a1]] w4 fun e w5 => e = .returned (.bool true) ∧ Hid ((∃ s d, Duo (KN w w2.heap.size) w5 gc gd s d ∧ Same s d ∧ s.fl ≤ ((i + 1 : Nat) : Int)) ∧ Fr (fun q => ¬ KN w w2.heap.size q) W6 w5)) := Lib.hid (by
            obtain ⟨s, d, hD, hS, hfl⟩ := hq4
            refine (alike_any _ w4 gc gd s d hD hS a0 a1 HOK.out.a0 HOK.out.a1).mono ?_
            rintro e w5 ⟨g1, g2⟩
            exact ⟨g1, Lib.hid ⟨⟨s, d, hD.fr0 g2, hS, hfl⟩, hf4.tr (g2.mono (fun _ _ e => e.elim))⟩⟩)
          clear hq4 hf4 d0 d1 d2 d3 d4 d5 d6 d7
          go_wp2_with fail
          refine (Ha.out).mono ?_
          rintro e w5 ⟨rfl, HP5⟩
          clear u2 u3
          go_wp2_with fail
          exact ⟨⟨i + 1, by omega, by go_num, HP5⟩, by simp [intOf]; omega⟩
        · have hd2 : decide ((i : Int) < 15) = false := by simp; omega
          have F9 : Hid (Fr (fun _ => False) w wp) := Lib.hid ((((F0.out.tr (FX.out)).tr F2.out).tr F6.out).trans hP.out.2 (fun q hq e => e (.inl hq)))
          have Hkn := Lib.hid (known_any wp)
          go_wp2_with fail
          refine (Hkn.out).mono ?_
          rintro e w9 ⟨rfl, f9⟩
          have F10 := Lib.hid (F9.out.tr f9)
          clear f9
          go_wp2_with fail
          go_ret
          exact ⟨rfl, F10.out⟩
end Go.Proofs.Ytfjlgdafakbdoaa.cacheNumbers
