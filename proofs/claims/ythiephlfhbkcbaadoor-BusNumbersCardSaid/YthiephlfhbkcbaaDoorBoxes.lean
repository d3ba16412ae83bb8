/- Words of memory, III: what a call leaves of a block that is known whole. -/
import Derived.Test.YthiephlfhbkcbaaDoorCells
namespace Go.Proofs.YthiephlfhbkcbaaDoor
open Go.RowKit
section
variable {S : Nat → Prop} {w w' : World} {t : TypeId} {g : Nat} {a b c d x y : Value}
theorem Fr.blkAt {cs : Array Value} (hb : Blk w g t cs) (f : Fr S w w') (hs : ¬ S g) (i : Nat) : w'.cell? ⟨g, i, none⟩ = cs[i]? := f.cell (hb.cell i) hb.lt hs
theorem Fr.blk4 (hb : Blk w g t #[a, b, c, d]) (f : Fr S w w') (hs : ¬ S g) :
    w'.cell? ⟨g, 0, none⟩ = some a ∧ w'.cell? ⟨g, 1, none⟩ = some b ∧ w'.cell? ⟨g, 2, none⟩ = some c ∧ w'.cell? ⟨g, 3, none⟩ = some d :=
  ⟨f.blkAt hb hs 0, f.blkAt hb hs 1, f.blkAt hb hs 2, f.blkAt hb hs 3⟩
theorem Fr.blk6 (hb : Blk w g t #[a, b, c, d, x, y]) (f : Fr S w w') (hs : ¬ S g) :
    w'.cell? ⟨g, 0, none⟩ = some a ∧ w'.cell? ⟨g, 1, none⟩ = some b ∧ w'.cell? ⟨g, 2, none⟩ = some c ∧ w'.cell? ⟨g, 3, none⟩ = some d ∧ w'.cell? ⟨g, 4, none⟩ = some x ∧ w'.cell? ⟨g, 5, none⟩ = some y :=
  ⟨f.blkAt hb hs 0, f.blkAt hb hs 1, f.blkAt hb hs 2, f.blkAt hb hs 3, f.blkAt hb hs 4, f.blkAt hb hs 5⟩
end
/-- a frame over two places, by their one -/
theorem Fr.inl2 {a b : Nat} {w w' : World} (f : Fr (· = a) w w') : Fr (fun k => k = a ∨ k = b) w w' := f.mono fun _ _ e => .inl e
theorem Fr.inr2 {a b : Nat} {w w' : World} (f : Fr (· = b) w w') : Fr (fun k => k = a ∨ k = b) w w' := f.mono fun _ _ e => .inr e
theorem Fr.none {S : Nat → Prop} {w w' : World} (f : Fr (fun _ => False) w w') : Fr S w w' := f.mono fun _ _ e => e.elim
end Go.Proofs.YthiephlfhbkcbaaDoor
