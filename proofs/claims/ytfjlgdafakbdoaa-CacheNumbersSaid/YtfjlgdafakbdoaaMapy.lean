/- Maps as lists of entries: m[k] = append(m[k], ..): the entry, and the store into it. -/
import Derived.Test.YtfjlgdafakbdoaaMapz
import Derived.WideKeyEntry
namespace Go.Proofs.Ytfjlgdafakbdoaa.Mz
open Go.RowKit Go.Maps
open Go.ChangeMaps (setBlock)
open Go.WideElems (findIdx_born)
set_option linter.unusedVariables false
set_option linter.unusedSimpArgs false
set_option maxHeartbeats 4000000
variable {κ : Type} [DecidableEq κ] {P : Program} {k : TypeId} {mk : κ → Value}
variable {w w' : World} {g : Nat} {L : List (κ × Value)} {bs : List Nat} {clock : Nat}
theorem MapL.entry_old (h : MapL P k mk w g L bs clock) (K : Keyed P k) (inj : ∀ a b, mk a = mk b → a = b) {t e : TypeId} (ht : P.underlying t = some (.map k e)) {x : κ} {l : Lit} (hx : keyOf P k (mk x) = some l) (hin : Mz.has L x = true) :
    ∃ w' j, ∃ hj : j < L.length, ∃ hb : j < bs.length, L[j].1 = x ∧ (Instr.mapEntry t (.map (some g)) (mk x)).run P w = .ok (.tuple #[L[j].2, goInt bs[j]]) w' ∧ MapL P k mk w' g L bs clock ∧ Fr (· = g) w w' := by
  rcases h.find K inj w hx with ⟨h1, h2⟩ | ⟨j, hj, h1, h3, h2⟩
  · rw [hin] at h1; simp at h1
  · have hb : j < bs.length := by rw [h.len]; exact hj
    have hat := ents_at (mk := mk) L bs h.len j hj hb
    obtain ⟨s1, s2⟩ := set_heap ⟨_, _, h.b⟩ (.map (ents mk L bs).toArray clock)
    have hst := K.stays w hx
    refine ⟨setBlock w g (.map (ents mk L bs).toArray clock), j, hj, hb, h1, ?_, ⟨s1, h.len, h.nd, h.lt, h.keys, h.kd⟩, s2⟩
    have hkey : (((ents mk L bs).toArray[j]?).map (·.key)).getD (mk x) = mk x := by
      rw [List.getElem?_toArray, hat]
      show mk L[j].1 = mk x
      rw [h1]
    have hborn : (((ents mk L bs).toArray[j]?).map (fun x => ((x.born : Nat) : Int))).getD 0 = ((bs[j] : Nat) : Int) := by
      rw [List.getElem?_toArray, hat]
      rfl
    have hmod : (ents mk L bs).toArray.modify j (fun e => { e with key := mk x }) = (ents mk L bs).toArray := by
      apply Array.toList_inj.1
      rw [Array.toList_modify]
      have e2 := modify_same (ents mk L bs) j (fun e => { e with key := mk x }) (fun e => e) _ hat (by show (⟨mk x, _, _⟩ : MapEntry) = ⟨mk L[j].1, _, _⟩; rw [h1])
      refine e2.trans ?_
      exact List.modify_id _ _
    simp only [Instr.mapEntry, run_underlying ht, MapKept.run_getObj_map h.b, K.check w _ hx, h2, Sem.run_bind, Result.andThen_ok]
    rw [hkey, hst]
    simp only [Result.andThen_ok, hmod, hborn]
    rw [MapKept.run_setObj_map _ h.b]
    rfl
theorem MapL.entry_new (h : MapL P k mk w g L bs clock) (K : Keyed P k) (inj : ∀ a b, mk a = mk b → a = b) {t e : TypeId} (ht : P.underlying t = some (.map k e)) {x : κ} {l : Lit} (hx : keyOf P k (mk x) = some l) (hin : Mz.has L x = false) {z : Value} (hz : (zeroValue e).run P w = .ok z w) :
    ∃ w', (Instr.mapEntry t (.map (some g)) (mk x)).run P w = .ok (.tuple #[z, goInt clock]) w' ∧ MapL P k mk w' g (L ++ [(x, z)]) (bs ++ [clock]) (clock + 1) ∧ Fr (· = g) w w' := by
  obtain ⟨w', h1, h2, h3⟩ := h.store_new K inj ht hx hin z
  rcases h.find K inj w hx with ⟨g1, g2⟩ | ⟨j, hj, g1, g3, g2⟩
  · refine ⟨w', ?_, h2, h3⟩
    have h1' := h1
    simp [Instr.mapUpdate, run_underlying ht, MapKept.run_getObj_map h.b, K.check w _ hx, g2, MapKept.run_setObj_map _ h.b, Result.andThen] at h1'
    simp [Instr.mapEntry, run_underlying ht, MapKept.run_getObj_map h.b, K.check w _ hx, g2, hz, MapKept.run_setObj_map _ h.b, Result.andThen]
    exact h1'
  · rw [hin] at g3; simp at g3
theorem MapL.stamp (h : MapL P k mk w g L bs clock) (t : TypeId) {j : Nat} (hj : j < L.length) (hb : j < bs.length) (v : Value) :
    ∃ w', (Instr.entryStore t (.map (some g)) (goInt bs[j]) v).run P w = .ok () w' ∧ MapL P k mk w' g (rep L L[j].1 v) bs clock ∧ Fr (· = g) w w' := by
  obtain ⟨s1, s2⟩ := set_heap ⟨_, _, h.b⟩ (.map (ents mk (rep L L[j].1 v) bs).toArray clock)
  have hat := ents_at (mk := mk) L bs h.len j hj hb
  have hen := ents_rep (mk := mk) L h.kd bs h.len j hj v
  refine ⟨setBlock w g (.map (ents mk (rep L L[j].1 v) bs).toArray clock), ?_, ⟨s1, by rw [rep_len]; exact h.len, h.nd, h.lt, fun p hp => ?_, by rw [rep_keys]; exact h.kd⟩, s2⟩
  · have hidx : (ents mk L bs).toArray.findIdx? (fun e => ((e.born : Nat) : Int) == ((bs[j] : Nat) : Int)) = some j := by
      rw [Go.WideElems.findIdx_arr]
      exact findIdx_born (l := (ents mk L bs)) (j := j) (by rw [ents_born L bs h.len]; exact h.nd) hat
    have hmod : (ents mk L bs).toArray.modify j (fun e => { e with val := v }) = (ents mk (rep L L[j].1 v) bs).toArray := by
      rw [hen]
      apply Array.toList_inj.1
      rw [Array.toList_modify]
    simp [Instr.entryStore, MapKept.run_getObj_map h.b, asInt, asIntOf, goInt, hidx, hmod, MapKept.run_setObj_map _ h.b, Result.andThen, setBlock]
  · unfold rep at hp
    obtain ⟨q, hq, rfl⟩ := List.mem_map.1 hp
    split
    · exact h.keys q hq
    · exact h.keys q hq
end Go.Proofs.Ytfjlgdafakbdoaa.Mz
