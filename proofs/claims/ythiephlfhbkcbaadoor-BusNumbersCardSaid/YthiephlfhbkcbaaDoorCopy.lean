/- copy onto a row of a block that is known cell by cell. -/
import Derived.Test.YthiephlfhbkcbaaDoorCells
import Derived.Test.YthiephlfhbkcbaaDoorAppend
import Derived.Laws.CopyOwn
namespace Go.Proofs.YthiephlfhbkcbaaDoor
open Go.RowKit
set_option linter.unusedVariables false

theorem goInt_nat (n : Nat) : goInt n = .int .i64 (n : Int) := rfl
theorem wpList_copy_cells {P : Program} {w : World} {ops : Array Oper} {rest : List Oper} {o : Oper} {a : Act} {Q : Exit → Act → World → Prop} (hgd : o.guard = none) (d s : Operand) (dT sT : TypeId)
    (ho : o.op = .call { callee := .builtin .copy, args := #[d, s], argTypes := #[dT, sT] }) (elem : TypeId) (hu : P.underlying dT = some (.slice elem)) (hsz : (P.info? elem).map (·.size) = some 1)
    (g off dLen dCap : Nat) (A : Option Addr) (sLen sCap : Nat) (hd : a.eval d = .slice (some ⟨g, off, none⟩) dLen dCap) (hs : a.eval s = .slice A sLen sCap)
    (t : TypeId) (N : Nat) (f : Nat → Value) (hC : Cells w g t N f) (k : IntKind) (B n : Nat) (zs : List Int) (hn : n = min sLen dLen) (hz : IntsAt k w B A n zs) (hfit : off + n ≤ N)
    (h : ∀ w', Cells w' g t N (putR f off (zs.map (Value.int k))) → Fr (· = g) w w' → wpList P ops Q rest (a.put o.dst (goInt n)) w') :
    wpList P ops Q (o :: rest) a w := by
  have hr := intsAt_reads hz
  have hlz : zs.length = n := hz.1
  by_cases h0 : n = 0
  · refine wpList_copy_nothing hgd d s dT sT ho elem hu hsz _ _ dLen dCap sLen sCap hd hs (by show min sLen dLen = 0; omega) ?_
    subst h0
    have : zs = [] := List.eq_nil_of_length_eq_zero hlz
    subst this
    exact h w (hC.congr (fun i _ => by unfold putR; rw [if_neg (by rintro ⟨h1, h2⟩; simp at h2; omega)])) (Fr.refl _ _)
  · obtain ⟨ad, rfl, _, hsrc⟩ := hr.2 (by omega)
    obtain ⟨cs, hb, hsize, hat⟩ := hC
    have hl : (zs.map (Value.int k)).length = n := by simpa using hlz
    refine wpList_copy_own hgd d s dT sT ho elem hu hsz g off dLen dCap ad sLen sCap hd hs cs t hb (zs.map (Value.int k)) (by rw [hl]; exact hn) hsrc (by rw [hl]; omega) oneCell_ints ?_
    rw [hl]
    refine h _ ⟨_, setRow_heap w g cs _ t (0, 0) hb, by simp; omega, fun i hi => ?_⟩ ⟨rfl, rfl, rfl, by simp [World.setRow], fun j _ hj => setRow_other w g j _ hj⟩
    have hti : i < cs.toList.length := by simpa using (by omega : i < cs.size)
    have hcs : cs.toList[i]? = some (f i) := by rw [Array.getElem?_toList]; exact hat i hi
    rw [List.getElem?_toArray]
    unfold putR
    rw [hl]
    by_cases h1 : i < off
    · rw [if_neg (by omega), List.getElem?_append_left (by simp; omega), List.getElem?_take_of_lt h1]
      exact hcs
    · rw [List.getElem?_append_right (by simp; omega)]
      have hto : (cs.toList.take off).length = off := by simp; omega
      rw [hto]
      by_cases h2 : i < off + n
      · rw [if_pos ⟨by omega, h2⟩, List.getElem?_append_left (by rw [hl]; omega), List.getD_eq_getElem?_getD]
        have : i - off < (zs.map (Value.int k)).length := by rw [hl]; omega
        rw [List.getElem?_eq_getElem this]; rfl
      · rw [if_neg (by omega), List.getElem?_append_right (by rw [hl]; omega), hl, List.getElem?_drop, show off + n + (i - off - n) = i by omega]
        exact hcs
/-- the same as one step of a region that draws its order -/
theorem step_copy_cells {P : Program} {w : World} {ops : Array Oper} {o : Oper} {a : Act} {K : Act → World → Prop} {Q : Exit → Act → World → Prop} {E : Prop} (hgd : o.guard = none) (d s : Operand) (dT sT : TypeId)
    (ho : o.op = .call { callee := .builtin .copy, args := #[d, s], argTypes := #[dT, sT] }) (elem : TypeId) (hu : P.underlying dT = some (.slice elem)) (hsz : (P.info? elem).map (·.size) = some 1)
    (g off dLen dCap : Nat) (A : Option Addr) (sLen sCap : Nat) (hd : a.eval d = .slice (some ⟨g, off, none⟩) dLen dCap) (hs : a.eval s = .slice A sLen sCap)
    (t : TypeId) (N : Nat) (f : Nat → Value) (hC : Cells w g t N f) (k : IntKind) (B n : Nat) (zs : List Int) (hn : n = min sLen dLen) (hz : IntsAt k w B A n zs) (hfit : off + n ≤ N)
    (h : ∀ w', Cells w' g t N (putR f off (zs.map (Value.int k))) → Fr (· = g) w w' → K (a.put o.dst (goInt n)) w') :
    if Region.wanted o (yielded ops a.tmps) = true then Oper.wp P o a w K Q else E := by
  have hw : Region.wanted o (yielded ops a.tmps) = true := by simp [Region.wanted, hgd]
  rw [if_pos hw]
  have hr := intsAt_reads hz
  have hlz : zs.length = n := hz.1
  by_cases h0 : n = 0
  · have hrun := run_copy_none (P := P) w dT sT o.type elem (some ⟨g, off, none⟩) A dLen dCap sLen sCap hu hsz (by show min sLen dLen = 0; omega)
    unfold Oper.wp
    simp [execOp, ho, resolve, invoke, builtin, hd, hs, hrun, Result.andThen]
    subst h0
    have : zs = [] := List.eq_nil_of_length_eq_zero hlz
    subst this
    exact h w (hC.congr (fun i _ => by unfold putR; rw [if_neg (by rintro ⟨h1, h2⟩; simp at h2; omega)])) (Fr.refl _ _)
  · obtain ⟨ad, rfl, _, hsrc⟩ := hr.2 (by omega)
    obtain ⟨cs, hb, hsize, hat⟩ := hC
    have hl : (zs.map (Value.int k)).length = n := by simpa using hlz
    have hrun := run_copy_row (P := P) w dT sT o.type elem g off dLen dCap ad sLen sCap cs t (zs.map (Value.int k)) hu hsz hb (by rw [hl]; exact hn) hsrc (by rw [hl]; omega) oneCell_ints
    unfold Oper.wp
    simp only [execOp, ho, resolve, invoke, builtin, Sem.run_bind, Sem.run_pure, Result.andThen_ok, List.map_toArray, List.map_cons, List.map_nil, hd, hs, hrun]
    rw [hl]
    refine h _ ⟨_, setRow_heap w g cs _ t (0, 0) hb, by simp; omega, fun i hi => ?_⟩ ⟨rfl, rfl, rfl, by simp [World.setRow], fun j _ hj => setRow_other w g j _ hj⟩
    have hti : i < cs.toList.length := by simpa using (by omega : i < cs.size)
    have hcs : cs.toList[i]? = some (f i) := by rw [Array.getElem?_toList]; exact hat i hi
    rw [List.getElem?_toArray, List.append_assoc]
    unfold putR
    rw [hl]
    by_cases h1 : i < off
    · rw [if_neg (by omega), List.getElem?_append_left (by simp; omega), List.getElem?_take_of_lt h1]
      exact hcs
    · rw [List.getElem?_append_right (by simp; omega)]
      have hto : (cs.toList.take off).length = off := by simp; omega
      rw [hto]
      by_cases h2 : i < off + n
      · rw [if_pos ⟨by omega, h2⟩, List.getElem?_append_left (by rw [hl]; omega), List.getD_eq_getElem?_getD]
        have : i - off < (zs.map (Value.int k)).length := by rw [hl]; omega
        rw [List.getElem?_eq_getElem this]; rfl
      · rw [if_neg (by omega), List.getElem?_append_right (by rw [hl]; omega), hl, List.getElem?_drop, show off + n + (i - off - n) = i by omega]
        exact hcs
end Go.Proofs.YthiephlfhbkcbaaDoor
