/- slices.IndexFunc and slices.DeleteFunc of blocks and of keys, whatever the closure is. -/
import Derived.Test.YtfjlgdafakbdoaaCells
import Derived.Test.YtfjlgdafakbdoaaAppend
import Derived.Test.YtfjlgdafakbdoaaChecked
import Derived.WalkKit
import Derived.Outline
import Derived.WalkSpells
import Derived.Handy
import Derived.LoopTactic
import Derived.Deep.LoopGhost
import Derived.Deep.QuietTactic
import Derived.BigQuiet
import Derived.Lib.SliceRun
namespace Go.Proofs.Ytfjlgdafakbdoaa.Ca
open Go.RowKit
set_option linter.unusedVariables false
set_option linter.unusedSimpArgs false
set_option maxHeartbeats 4000000

/-- where a translation begins -/
abbrev Ky := Int × Int
/-- a translation, and where its code lies -/
structure Bk where
  pc : Int
  pl : Int
  code : List Int
  ct : Int
  A : Option Addr
  c : Nat
def kc (k : Ky) (c : Nat) : Value := if c = 0 then .int .u32 k.1 else .int .u32 k.2
def bc (b : Bk) (c : Nat) : Value := if c = 0 then .int .u32 b.pc else if c = 1 then .int .u32 b.pl else if c = 2 then .slice b.A b.code.length b.c else .int .i64 b.ct
/-- what slices.IndexFunc answers -/
def Found (n : Nat) (p : Nat → Bool) (I : Nat → World → Prop) (e : Ending) (w' : World) : Prop :=
  (∃ m : Nat, m < n ∧ e = .returned (.int .i64 m) ∧ (∀ j, j < m → p j = false) ∧ p m = true ∧ I (m + 1) w') ∨ (e = .returned (.int .i64 (-1)) ∧ (∀ j, j < n → p j = false) ∧ I n w')
/-- the numbers that are not gone -/
def kept (p : Nat → Bool) (n : Nat) : List Nat := (List.range n).filter (fun t => !p t)
theorem kept_no {p : Nat → Bool} {b : Nat} (h : p b = true) : kept p (b + 1) = kept p b := by
  unfold kept
  rw [List.range_succ, List.filter_append]
  simp [h]
theorem kept_yes {p : Nat → Bool} {b : Nat} (h : p b = false) : kept p (b + 1) = kept p b ++ [b] := by
  unfold kept
  rw [List.range_succ, List.filter_append]
  simp [h]
theorem kept_all {p : Nat → Bool} {n : Nat} (h : ∀ j, j < n → p j = false) : kept p n = List.range n := by
  unfold kept
  rw [List.filter_eq_self]
  intro a ha
  simp [h a (by simpa using ha)]
theorem kept_pre {p : Nat → Bool} {m : Nat} (h : ∀ j, j < m → p j = false) (h1 : p m = true) : (kept p (m + 1)).length = m ∧ ∀ t, t < (kept p (m + 1)).length → (kept p (m + 1)).getD t 0 = t := by
  have e : kept p (m + 1) = List.range m := by rw [kept_no h1, kept_all h]
  refine ⟨by rw [e]; simp, fun t ht => ?_⟩
  rw [e] at ht ⊢
  simp [List.getD_eq_getElem?_getD] at ht ⊢
  rw [List.getElem?_range ht]
  rfl
/-- clear(s) -/
theorem run_clear {P : Program} (w : World) (n : Nat) (t e ty : TypeId) (z : Value) (ht : P.underlying t = some (.slice e)) (hv : ∀ w, (zeroValue e).run P w = .ok z w) (h1 : ∀ v ∈ (Builtin.zeroCells z.cells n).toList, v.oneCell' = true) (b o c : Nat)
    (hn : 0 < n) (hc : ∀ j, j < (Builtin.zeroCells z.cells n).toList.length → (w.cell? ⟨b, o + j, none⟩).isSome = true) (hf : ∀ j, j < (Builtin.zeroCells z.cells n).toList.length → w.frozen? ⟨b, o + j, none⟩ = false) :
    (Builtin.clear_ #[t] ty #[.slice (some ⟨b, o, none⟩) n c]).run P w = .ok (.tuple #[]) (w.setCells b o (Builtin.zeroCells z.cells n).toList) := by
  have hst := run_storeCells_cells (P := P) b o (Builtin.zeroCells z.cells n).toList 0 w (by simpa using hc) (by simpa using hf) h1
  simp only [Nat.add_zero] at hst
  obtain ⟨m, rfl⟩ : ∃ m, n = m + 1 := ⟨n - 1, by omega⟩
  simp [Builtin.clear_, run_underlying ht, hv, hst]

def z_k : Value := .agg #[.int .u32 0, .int .u32 0]
theorem zrun_k (w : World) : (zeroValue 31).run Try.prog w = .ok z_k w := by kernel_rfl
theorem zlen_k (n : Nat) : (Builtin.zeroCells z_k.cells n).toList.length = n * 2 := by
  simp [Builtin.zeroCells, z_k, Value.cells]
theorem zone_k (n : Nat) : ∀ v ∈ (Builtin.zeroCells z_k.cells n).toList, v.oneCell' = true := by
  intro v hv
  simp only [Builtin.zeroCells, Array.toList_map, List.mem_map] at hv
  obtain ⟨i, _, rfl⟩ := hv
  have : i % z_k.cells.size < 2 := Nat.mod_lt _ (by decide)
  generalize i % z_k.cells.size = q at *
  rcases (by omega : q = 0 ∨ q = 1) with rfl | rfl <;> decide

/-- how a row of elements reads -/
def At_k (w : World) (A : Option Addr) (n : Nat) (f : Nat → Ky) : Prop :=
  ∀ q, q < n → ∃ g off, A = some ⟨g, off, none⟩ ∧ w.cell? ⟨g, off + q * 2, none⟩ = some (.int .u32 (f q).1) ∧ w.cell? ⟨g, off + q * 2 + 1, none⟩ = some (.int .u32 (f q).2)
/-- slices.IndexFunc, whatever is asked -/
theorem index_k (w : World) (A : Option Addr) (n cap : Nat) (hm : n ≤ 1099511627776) (f : Nat → Ky)
    (fid : Nat) (cp : Array Value) (hf : ∀ args W, (callFunc fid args).run Try.prog W = .ok (.enter fid args) W) (I : Nat → World → Prop) (p : Nat → Bool) (hI : I 0 w) (hrow : ∀ q W, I q W → At_k W A n f)
    (hstep : ∀ q W, q < n → I q W → Calls Try.prog fid (#[.agg #[.int .u32 (f q).1, .int .u32 (f q).2]] ++ cp) W fun e w' => e = .returned (.bool (p q)) ∧ I (q + 1) w') :
    Calls Try.prog 46 #[.slice A n cap, .func (.func fid) #[] cp] w (Found n p I) := by
  have HI := Lib.hid hI
  have HR := Lib.hid hrow
  have HS := Lib.hid hstep
  clear hI hrow hstep
  go_enter Try.func46, Try.ntmps46
  go_wp2_with fail
  go_loopw [8] (fun i wr => ∃ q : Nat, q ≤ n ∧ i = .int .i64 q ∧ (∀ j, j < q → p j = false) ∧ I q wr) (fun i _ => n - (intOf i).toNat)
  case atStart => exact ⟨0, by omega, rfl, fun j h => absurd h (by omega), HI.out⟩
  case round =>
    obtain ⟨q, hq, rfl, hno, hI⟩ := hrel
    have HNO := Lib.hid hno
    have HW := Lib.hid hI
    clear hno
    by_cases hlt : q < n
    · obtain ⟨g, off, rfl, c0, c1⟩ := HR.out q wr hI q hlt
      have hd : decide ((q : Int) < (n : Int)) = true := by simp; omega
      have q0 : (0 : Int) ≤ (q : Int) := by omega
      have q1 : (q : Int) < (n : Int) := by omega
      have Hp := Lib.hid (HS.out q wr hlt hI)
      clear hI
      generalize (f q).1 = y0 at *
      generalize (f q).2 = y1 at *
      obtain ⟨t, ht⟩ : ∃ t, p q = t := ⟨_, rfl⟩
      rw [ht] at Hp
      have HT := Lib.hid ht
      clear ht
      go_wp2_with fail
      refine (Hp.out).mono ?_
      rintro e w1 ⟨rfl, hI1⟩
      have HI1 := Lib.hid hI1
      clear hI1
      cases t
      · go_wp2_with fail
        go_roundw
        case rel => exact ⟨q + 1, by omega, by go_num, fun j hj => by
          rcases (by omega : j < q ∨ j = q) with h | rfl
          · exact HNO.out j h
          · exact HT.out, HI1.out⟩
        case measure => simp [intOf]; omega
      · go_wp2_with fail
        go_ret
        exact .inl ⟨q, hlt, rfl, HNO.out, HT.out, HI1.out⟩
    · have hd : decide ((q : Int) < (n : Int)) = false := by simp; omega
      have e : q = n := by omega
      have HE := Lib.hid e
      clear e hI
      go_wp2_with fail
      go_ret
      have e := HE.out
      subst e
      exact .inr ⟨rfl, HNO.out, HW.out⟩
/-- a row's block: so many elements' cells; the first n of it read as f -/
def Row_k (w : World) (g cap n : Nat) (f : Nat → Ky) : Prop := ∃ F, Cells w g 31 (cap * 2) F ∧ n ≤ cap ∧ ∀ q, q < n → ∀ c, c < 2 → F (q * 2 + c) = kc (f q) c
theorem Row_k.cell {w : World} {g cap n : Nat} {f : Nat → Ky} (h : Row_k w g cap n f) (q c : Nat) (hq : q < n) (hc : c < 2) : w.cell? ⟨g, q * 2 + c, none⟩ = some (kc (f q) c) := by
  obtain ⟨F, h1, h2, h3⟩ := h
  rw [h1.cell _ (by omega), h3 q hq c hc]
theorem Row_k.at_ {w : World} {g cap n : Nat} {f : Nat → Ky} (h : Row_k w g cap n f) : At_k w (some ⟨g, 0, none⟩) n f := fun q hq => ⟨g, 0, rfl, by rw [Nat.zero_add]; exact h.cell q 0 hq (by omega), by rw [Nat.zero_add]; exact h.cell q 1 hq (by omega)⟩
theorem Row_k.fr {w w' : World} {g cap n : Nat} {f : Nat → Ky} {S : Nat → Prop} (h : Row_k w g cap n f) (fr : Fr S w w') (hn : ¬ S g) : Row_k w' g cap n f := by
  obtain ⟨F, h1, h2⟩ := h
  exact ⟨F, h1.fr fr hn, h2⟩
/-- what slices.DeleteFunc leaves: the ones that are not gone, one behind the other -/
def Kept_k (g n cap : Nat) (f : Nat → Ky) (p : Nat → Bool) (I : Nat → World → Prop) (e : Ending) (w' : World) : Prop :=
  e = .returned (.slice (some ⟨g, 0, none⟩) (kept p n).length cap) ∧ I n w' ∧ Row_k w' g cap (kept p n).length (fun t => f ((kept p n).getD t 0))
set_option maxRecDepth 100000 in
theorem delete_k (w : World) (g n cap : Nat) (f : Nat → Ky) (hrow : Row_k w g cap n f) (hn : n ≤ 1099511627776) (hm : cap ≤ maxLen)
    (fid : Nat) (cp : Array Value) (hf : ∀ args W, (callFunc fid args).run Try.prog W = .ok (.enter fid args) W) (S : Nat → Prop) (hS : ¬ S g ∧ ∀ k, S k → k < w.heap.size) (I : Nat → World → Prop) (p : Nat → Bool) (hI : I 0 w)
    (hst : ∀ q W W', I q W → Fr (· = g) W W' → I q W')
    (hstep : ∀ q W, q < n → I q W → Calls Try.prog fid (#[.agg #[.int .u32 (f q).1, .int .u32 (f q).2]] ++ cp) W fun e w' => e = .returned (.bool (p q)) ∧ I (q + 1) w' ∧ Fr S W w') :
    Calls Try.prog 41 #[.slice (some ⟨g, 0, none⟩) n cap, .func (.func fid) #[] cp] w (Kept_k g n cap f p I) := by
  unfold maxLen at hm
  have HST := Lib.hid hst
  have HS := Lib.hid hstep
  have HSS := Lib.hid hS
  have hcap : n ≤ cap := by obtain ⟨F, h1, h2, h3⟩ := hrow; exact h2
  have Hix := Lib.hid (index_k w (some ⟨g, 0, none⟩) n cap (by omega) f fid cp hf (fun q W => I q W ∧ Row_k W g cap n f ∧ w.heap.size ≤ W.heap.size) p ⟨hI, hrow, Nat.le_refl _⟩ (fun q W h => h.2.1.at_) (fun q W hq h => (hstep q W hq h.1).mono (by
    rintro e w' ⟨rfl, h2, h3⟩
    exact ⟨rfl, h2, h.2.1.fr h3 hS.1, Nat.le_trans h.2.2 h3.size⟩)))
  clear hst hstep hS hI hrow
  go_enter Try.func41, Try.ntmps41
  go_wp2_with fail
  refine (Hix.out).mono ?_
  rintro e w1 hF
  rcases hF with ⟨m0, hm0, rfl, hp0, hp1, hI1, hR1, hs1⟩ | ⟨rfl, hp0, hI1, hR1, hs1⟩
  · have HI1 := Lib.hid hI1
    have HR1 := Lib.hid hR1
    have HP := Lib.hid (kept_pre hp0 hp1)
    have hne : ((m0 : Int) == -1) = false := by simp
    clear hI1 hR1 hp0 hp1 Hix
    go_wp2_with fail
    go_loopw [5, 6] (fun i j wr => ∃ (a b : Nat) (F : Nat → Value), i = .int .i64 a ∧ j = .int .i64 b ∧ m0 < b ∧ b ≤ n ∧ a = (kept p b).length ∧ a < b ∧ I b wr ∧ w.heap.size ≤ wr.heap.size ∧ Cells wr g 31 (cap * 2) F ∧ (∀ t, t < (kept p b).length → ∀ c, c < 2 → F (t * 2 + c) = kc (f ((kept p b).getD t 0)) c) ∧ (∀ q, b ≤ q → q < n → ∀ c, c < 2 → F (q * 2 + c) = kc (f q) c)) (fun _ j _ => n - (intOf j).toNat)
    case atStart =>
      obtain ⟨F, g1, g2, g3⟩ := HR1.out
      exact ⟨m0, m0 + 1, F, rfl, by go_num, by omega, by omega, HP.out.1.symm, by omega, HI1.out, hs1, g1, fun t ht c hc => by rw [HP.out.2 t ht]; exact g3 t (by have := HP.out.1; omega) c hc, fun q _ hq c hc => g3 q hq c hc⟩
    case round =>
      clear hs1 HI1 HR1
      obtain ⟨a, b, F, rfl, rfl, hb0, hb1, ha, hab, hI, hsz, hC, hk, hr⟩ := hrel
      have HI := Lib.hid hI
      have HK := Lib.hid hk
      have HR := Lib.hid hr
      have HA := Lib.hid ha
      clear hI hk hr ha
      by_cases hlt : b < n
      · have hd : decide ((b : Int) < (n : Int)) = true := by simp; omega
        have b0 : (0 : Int) ≤ (b : Int) := by omega
        have b1 : (b : Int) < (n : Int) := by omega
        have a0 : (0 : Int) ≤ (a : Int) := by omega
        have a1 : (a : Int) < (n : Int) := by omega
        have c0 : wr.cell? ⟨g, b * 2, none⟩ = some (.int .u32 (f b).1) := (hC.cell (b * 2) (by omega)).trans (congrArg some (HR.out b (Nat.le_refl _) hlt 0 (by omega)))
        have c1 : wr.cell? ⟨g, b * 2 + 1, none⟩ = some (.int .u32 (f b).2) := (hC.cell (b * 2 + 1) (by omega)).trans (congrArg some (HR.out b (Nat.le_refl _) hlt 1 (by omega)))
        have HC := Lib.hid hC
        have fB := (Fr.refl (fun _ => False) wr).alloc (.cells #[.int .u32 (f b).1, .int .u32 (f b).2] 31)
        have bB : Blk (wr.alloc (.cells #[.int .u32 (f b).1, .int .u32 (f b).2] 31)) wr.heap.size 31 #[.int .u32 (f b).1, .int .u32 (f b).2] := Blk.new _ _ _
        have Hp := Lib.hid (HS.out b _ hlt (HST.out b wr _ HI.out (fB.mono (fun _ _ e => e.elim))))
        have hgl := hC.lt
        have HV : Hid (∀ c, c < 2 → kc (f b) c = ([.int .u32 (f b).1, .int .u32 (f b).2] : List Value).getD c undef) := Lib.hid (fun c hc => by
          rcases (by omega : c = 0 ∨ c = 1) with rfl | rfl <;> rfl)
        clear hC
        generalize (f b).1 = y0 at *
        generalize (f b).2 = y1 at *
        obtain ⟨t, ht⟩ : ∃ t, p b = t := ⟨_, rfl⟩
        rw [ht] at Hp
        have HT := Lib.hid ht
        have FB := Lib.hid fB
        clear ht fB
        go_wp2_with fail
        refine (Hp.out).mono ?_
        rintro e w2 ⟨rfl, hI2, f2⟩
        have HI2 := Lib.hid hI2
        have F2 := Lib.hid f2
        have hCs := (HC.out.fr FB.out (fun e => e)).fr f2 HSS.out.1
        have bB2 := bB.fr f2 (fun e => by have := HSS.out.2 _ e; omega)
        have hbl := bB2.lt
        have hsz2 := f2.size
        clear hI2 f2
        cases t
        · have e1 := kept_yes HT.out
          have z0 := hCs.cell (a * 2) (by omega)
          have v0 := hCs.frozen (a * 2)
          have d0 := bB2.cell 0
          have z1 := hCs.cell (a * 2 + 1) (by omega)
          have v1 := hCs.frozen (a * 2 + 1)
          have d1 := bB2.cell 1
          have hgl2 := hCs.lt
          have HCs := Lib.hid hCs
          clear hCs
          have HA2 : Hid (a + 1 = (kept p (b + 1)).length) := Lib.hid (by rw [e1, List.length_append, HA.out]; rfl)
          have HG1 : Hid (∀ t, t < a → (kept p (b + 1)).getD t 0 = (kept p b).getD t 0) := Lib.hid (fun t ht => by
            rw [e1, List.getD_eq_getElem?_getD, List.getElem?_append_left (by have := HA.out; omega), ← List.getD_eq_getElem?_getD])
          have HG2 : Hid ((kept p (b + 1)).getD a 0 = b) := Lib.hid (by
            rw [e1, List.getD_eq_getElem?_getD, List.getElem?_append_right (by have := HA.out; omega), HA.out, Nat.sub_self]; rfl)
          have fS : ∀ W, Fr (· = g) w2 W → I (b + 1) W := fun W f => HST.out _ _ _ HI2.out f
          have FS := Lib.hid fS
          clear fS e1
          go_wp2_with fail
          go_roundw
          case rel =>
            refine ⟨a + 1, b + 1, _, by go_num, by go_num, by omega, by omega, HA2.out, by omega, FS.out _ ((Fr.set1 w2 g (a * 2) (.int .u32 y0)).setCell (p := ⟨g, a * 2 + 1, none⟩) (.inl rfl) (.int .u32 y1)), by have := FB.out.size; simp [World.setCell]; omega, (HCs.out.set_ (a * 2) (.int .u32 y0)).set_ (a * 2 + 1) (.int .u32 y1), fun t ht c hc => ?_, fun q h1 h2 c hc => ?_⟩
            · by_cases hta : t < a
              · rw [HG1.out t hta, ← HK.out t (by have := HA.out; omega) c hc]
                unfold putV
                rw [if_neg (by omega), if_neg (by omega)]
              · have hta : t = a := by have := HA2.out; omega
                subst hta
                rw [HG2.out, HV.out c hc]
                rcases (by omega : c = 0 ∨ c = 1) with rfl | rfl
                all_goals
                  unfold putV
                  simp
            · rw [← HR.out q (by omega) h2 c hc]
              unfold putV
              rw [if_neg (by omega), if_neg (by omega)]
          case measure => simp [intOf]; omega
        · have e1 := kept_no HT.out
          have HX : Hid (∃ F, Cells w2 g 31 (cap * 2) F ∧ (∀ t, t < (kept p (b + 1)).length → ∀ c, c < 2 → F (t * 2 + c) = kc (f ((kept p (b + 1)).getD t 0)) c) ∧ (∀ q, b + 1 ≤ q → q < n → ∀ c, c < 2 → F (q * 2 + c) = kc (f q) c)) := Lib.hid ⟨F, hCs, by rw [e1]; exact HK.out, fun q h1 h2 => HR.out q (by omega) h2⟩
          have HA2 : Hid (a = (kept p (b + 1)).length) := Lib.hid (by rw [e1]; exact HA.out)
          clear hCs bB2 bB e1
          go_wp2_with fail
          go_roundw
          case rel =>
            obtain ⟨F2, g1, g2, g3⟩ := HX.out
            exact ⟨a, b + 1, F2, rfl, by go_num, by omega, by omega, HA2.out, by omega, HI2.out, by have := FB.out.size; omega, g1, g2, g3⟩
          case measure => simp [intOf]; omega
      · have hd : decide ((b : Int) < (n : Int)) = false := by simp; omega
        have e : b = n := by omega
        have HE := Lib.hid e
        have hba : b = n := e
        subst hba
        clear e
        have hcap2 : b ≤ cap := hcap
        have hlen := zlen_k (b - a)
        have hcl := fun ty => run_clear (P := Try.prog) wr (b - a) 38 31 ty z_k Try.underlying38 zrun_k (zone_k (b - a)) g (a * 2) (cap - a) (by omega) (fun j hj => by rw [hlen] at hj; rw [hC.cell (a * 2 + j) (by omega)]; rfl) (fun j hj => hC.frozen _)
        have hC2 := Lib.hid (hC.setCells (Builtin.zeroCells z_k.cells (b - a)).toList (a * 2))
        have fR : Fr (· = g) wr (wr.setCells g (a * 2) (Builtin.zeroCells z_k.cells (b - a)).toList) := Fr.setRow _ _ (Fr.refl _ _) (.inl rfl)
        have HI3 := Lib.hid (HST.out _ _ _ HI.out fR)
        have HL := Lib.hid hlen
        clear fR hC hlen
        generalize (Builtin.zeroCells z_k.cells (b - a)).toList = Z at *
        go_wp2_with fail
        go_ret
        refine ⟨by rw [← HA.out]; rfl, HI3.out, ?_⟩
        rw [← HA.out]
        refine ⟨_, hC2.out, by omega, fun t ht c hc => ?_⟩
        rw [← HK.out t (by have := HA.out; omega) c hc]
        unfold putR
        rw [if_neg (by omega)]
  · have e := kept_all hp0
    have HE := Lib.hid e
    have HI1 := Lib.hid hI1
    have HR1 := Lib.hid hR1
    clear hp0 hI1 hR1 e Hix
    go_wp2_with fail
    go_ret
    refine ⟨by rw [HE.out]; simp, HI1.out, ?_⟩
    rw [HE.out, List.length_range]
    obtain ⟨F, g1, g2, g3⟩ := HR1.out
    refine ⟨F, g1, g2, fun q hq c hc => ?_⟩
    have : (List.range n).getD q 0 = q := by simp [List.getD_eq_getElem?_getD, List.getElem?_range hq]
    show F (q * 2 + c) = kc (f ((List.range n).getD q 0)) c
    rw [this]
    exact g3 q hq c hc

def z_b : Value := .agg #[.int .u32 0, .int .u32 0, .slice none 0 0, .int .i64 0]
theorem zrun_b (w : World) : (zeroValue 34).run Try.prog w = .ok z_b w := by kernel_rfl
theorem zlen_b (n : Nat) : (Builtin.zeroCells z_b.cells n).toList.length = n * 4 := by
  simp [Builtin.zeroCells, z_b, Value.cells]
theorem zone_b (n : Nat) : ∀ v ∈ (Builtin.zeroCells z_b.cells n).toList, v.oneCell' = true := by
  intro v hv
  simp only [Builtin.zeroCells, Array.toList_map, List.mem_map] at hv
  obtain ⟨i, _, rfl⟩ := hv
  have : i % z_b.cells.size < 4 := Nat.mod_lt _ (by decide)
  generalize i % z_b.cells.size = q at *
  rcases (by omega : q = 0 ∨ q = 1 ∨ q = 2 ∨ q = 3) with rfl | rfl | rfl | rfl <;> decide

/-- how a row of elements reads -/
def At_b (w : World) (A : Option Addr) (n : Nat) (f : Nat → Bk) : Prop :=
  ∀ q, q < n → ∃ g off, A = some ⟨g, off, none⟩ ∧ w.cell? ⟨g, off + q * 4, none⟩ = some (.int .u32 (f q).pc) ∧ w.cell? ⟨g, off + q * 4 + 1, none⟩ = some (.int .u32 (f q).pl) ∧ w.cell? ⟨g, off + q * 4 + 2, none⟩ = some (.slice (f q).A (f q).code.length (f q).c) ∧ w.cell? ⟨g, off + q * 4 + 3, none⟩ = some (.int .i64 (f q).ct)
/-- slices.IndexFunc, whatever is asked -/
theorem index_b (w : World) (A : Option Addr) (n cap : Nat) (hm : n ≤ 1099511627776) (f : Nat → Bk)
    (fid : Nat) (cp : Array Value) (hf : ∀ args W, (callFunc fid args).run Try.prog W = .ok (.enter fid args) W) (I : Nat → World → Prop) (p : Nat → Bool) (hI : I 0 w) (hrow : ∀ q W, I q W → At_b W A n f)
    (hstep : ∀ q W, q < n → I q W → Calls Try.prog fid (#[.agg #[.int .u32 (f q).pc, .int .u32 (f q).pl, .slice (f q).A (f q).code.length (f q).c, .int .i64 (f q).ct]] ++ cp) W fun e w' => e = .returned (.bool (p q)) ∧ I (q + 1) w') :
    Calls Try.prog 39 #[.slice A n cap, .func (.func fid) #[] cp] w (Found n p I) := by
  have HI := Lib.hid hI
  have HR := Lib.hid hrow
  have HS := Lib.hid hstep
  clear hI hrow hstep
  go_enter Try.func39, Try.ntmps39
  go_wp2_with fail
  go_loopw [8] (fun i wr => ∃ q : Nat, q ≤ n ∧ i = .int .i64 q ∧ (∀ j, j < q → p j = false) ∧ I q wr) (fun i _ => n - (intOf i).toNat)
  case atStart => exact ⟨0, by omega, rfl, fun j h => absurd h (by omega), HI.out⟩
  case round =>
    obtain ⟨q, hq, rfl, hno, hI⟩ := hrel
    have HNO := Lib.hid hno
    have HW := Lib.hid hI
    clear hno
    by_cases hlt : q < n
    · obtain ⟨g, off, rfl, c0, c1, c2, c3⟩ := HR.out q wr hI q hlt
      have hd : decide ((q : Int) < (n : Int)) = true := by simp; omega
      have q0 : (0 : Int) ≤ (q : Int) := by omega
      have q1 : (q : Int) < (n : Int) := by omega
      have Hp := Lib.hid (HS.out q wr hlt hI)
      clear hI
      generalize (f q).pc = y0 at *
      generalize (f q).pl = y1 at *
      generalize (f q).A = y2 at *
      generalize (f q).code.length = y3 at *
      generalize (f q).c = y4 at *
      generalize (f q).ct = y5 at *
      obtain ⟨t, ht⟩ : ∃ t, p q = t := ⟨_, rfl⟩
      rw [ht] at Hp
      have HT := Lib.hid ht
      clear ht
      go_wp2_with fail
      refine (Hp.out).mono ?_
      rintro e w1 ⟨rfl, hI1⟩
      have HI1 := Lib.hid hI1
      clear hI1
      cases t
      · go_wp2_with fail
        go_roundw
        case rel => exact ⟨q + 1, by omega, by go_num, fun j hj => by
          rcases (by omega : j < q ∨ j = q) with h | rfl
          · exact HNO.out j h
          · exact HT.out, HI1.out⟩
        case measure => simp [intOf]; omega
      · go_wp2_with fail
        go_ret
        exact .inl ⟨q, hlt, rfl, HNO.out, HT.out, HI1.out⟩
    · have hd : decide ((q : Int) < (n : Int)) = false := by simp; omega
      have e : q = n := by omega
      have HE := Lib.hid e
      clear e hI
      go_wp2_with fail
      go_ret
      have e := HE.out
      subst e
      exact .inr ⟨rfl, HNO.out, HW.out⟩
/-- a row's block: so many elements' cells; the first n of it read as f -/
def Row_b (w : World) (g cap n : Nat) (f : Nat → Bk) : Prop := ∃ F, Cells w g 34 (cap * 4) F ∧ n ≤ cap ∧ ∀ q, q < n → ∀ c, c < 4 → F (q * 4 + c) = bc (f q) c
theorem Row_b.cell {w : World} {g cap n : Nat} {f : Nat → Bk} (h : Row_b w g cap n f) (q c : Nat) (hq : q < n) (hc : c < 4) : w.cell? ⟨g, q * 4 + c, none⟩ = some (bc (f q) c) := by
  obtain ⟨F, h1, h2, h3⟩ := h
  rw [h1.cell _ (by omega), h3 q hq c hc]
theorem Row_b.at_ {w : World} {g cap n : Nat} {f : Nat → Bk} (h : Row_b w g cap n f) : At_b w (some ⟨g, 0, none⟩) n f := fun q hq => ⟨g, 0, rfl, by rw [Nat.zero_add]; exact h.cell q 0 hq (by omega), by rw [Nat.zero_add]; exact h.cell q 1 hq (by omega), by rw [Nat.zero_add]; exact h.cell q 2 hq (by omega), by rw [Nat.zero_add]; exact h.cell q 3 hq (by omega)⟩
theorem Row_b.fr {w w' : World} {g cap n : Nat} {f : Nat → Bk} {S : Nat → Prop} (h : Row_b w g cap n f) (fr : Fr S w w') (hn : ¬ S g) : Row_b w' g cap n f := by
  obtain ⟨F, h1, h2⟩ := h
  exact ⟨F, h1.fr fr hn, h2⟩
/-- what slices.DeleteFunc leaves: the ones that are not gone, one behind the other -/
def Kept_b (g n cap : Nat) (f : Nat → Bk) (p : Nat → Bool) (I : Nat → World → Prop) (e : Ending) (w' : World) : Prop :=
  e = .returned (.slice (some ⟨g, 0, none⟩) (kept p n).length cap) ∧ I n w' ∧ Row_b w' g cap (kept p n).length (fun t => f ((kept p n).getD t 0))
set_option maxRecDepth 100000 in
theorem delete_b (w : World) (g n cap : Nat) (f : Nat → Bk) (hrow : Row_b w g cap n f) (hn : n ≤ 1099511627776) (hm : cap ≤ maxLen)
    (fid : Nat) (cp : Array Value) (hf : ∀ args W, (callFunc fid args).run Try.prog W = .ok (.enter fid args) W) (S : Nat → Prop) (hS : ¬ S g ∧ ∀ k, S k → k < w.heap.size) (I : Nat → World → Prop) (p : Nat → Bool) (hI : I 0 w)
    (hst : ∀ q W W', I q W → Fr (· = g) W W' → I q W')
    (hstep : ∀ q W, q < n → I q W → Calls Try.prog fid (#[.agg #[.int .u32 (f q).pc, .int .u32 (f q).pl, .slice (f q).A (f q).code.length (f q).c, .int .i64 (f q).ct]] ++ cp) W fun e w' => e = .returned (.bool (p q)) ∧ I (q + 1) w' ∧ Fr S W w') :
    Calls Try.prog 28 #[.slice (some ⟨g, 0, none⟩) n cap, .func (.func fid) #[] cp] w (Kept_b g n cap f p I) := by
  unfold maxLen at hm
  have HST := Lib.hid hst
  have HS := Lib.hid hstep
  have HSS := Lib.hid hS
  have hcap : n ≤ cap := by obtain ⟨F, h1, h2, h3⟩ := hrow; exact h2
  have Hix := Lib.hid (index_b w (some ⟨g, 0, none⟩) n cap (by omega) f fid cp hf (fun q W => I q W ∧ Row_b W g cap n f ∧ w.heap.size ≤ W.heap.size) p ⟨hI, hrow, Nat.le_refl _⟩ (fun q W h => h.2.1.at_) (fun q W hq h => (hstep q W hq h.1).mono (by
    rintro e w' ⟨rfl, h2, h3⟩
    exact ⟨rfl, h2, h.2.1.fr h3 hS.1, Nat.le_trans h.2.2 h3.size⟩)))
  clear hst hstep hS hI hrow
  go_enter Try.func28, Try.ntmps28
  go_wp2_with fail
  refine (Hix.out).mono ?_
  rintro e w1 hF
  rcases hF with ⟨m0, hm0, rfl, hp0, hp1, hI1, hR1, hs1⟩ | ⟨rfl, hp0, hI1, hR1, hs1⟩
  · have HI1 := Lib.hid hI1
    have HR1 := Lib.hid hR1
    have HP := Lib.hid (kept_pre hp0 hp1)
    have hne : ((m0 : Int) == -1) = false := by simp
    clear hI1 hR1 hp0 hp1 Hix
    go_wp2_with fail
    go_loopw [5, 6] (fun i j wr => ∃ (a b : Nat) (F : Nat → Value), i = .int .i64 a ∧ j = .int .i64 b ∧ m0 < b ∧ b ≤ n ∧ a = (kept p b).length ∧ a < b ∧ I b wr ∧ w.heap.size ≤ wr.heap.size ∧ Cells wr g 34 (cap * 4) F ∧ (∀ t, t < (kept p b).length → ∀ c, c < 4 → F (t * 4 + c) = bc (f ((kept p b).getD t 0)) c) ∧ (∀ q, b ≤ q → q < n → ∀ c, c < 4 → F (q * 4 + c) = bc (f q) c)) (fun _ j _ => n - (intOf j).toNat)
    case atStart =>
      obtain ⟨F, g1, g2, g3⟩ := HR1.out
      exact ⟨m0, m0 + 1, F, rfl, by go_num, by omega, by omega, HP.out.1.symm, by omega, HI1.out, hs1, g1, fun t ht c hc => by rw [HP.out.2 t ht]; exact g3 t (by have := HP.out.1; omega) c hc, fun q _ hq c hc => g3 q hq c hc⟩
    case round =>
      clear hs1 HI1 HR1
      obtain ⟨a, b, F, rfl, rfl, hb0, hb1, ha, hab, hI, hsz, hC, hk, hr⟩ := hrel
      have HI := Lib.hid hI
      have HK := Lib.hid hk
      have HR := Lib.hid hr
      have HA := Lib.hid ha
      clear hI hk hr ha
      by_cases hlt : b < n
      · have hd : decide ((b : Int) < (n : Int)) = true := by simp; omega
        have b0 : (0 : Int) ≤ (b : Int) := by omega
        have b1 : (b : Int) < (n : Int) := by omega
        have a0 : (0 : Int) ≤ (a : Int) := by omega
        have a1 : (a : Int) < (n : Int) := by omega
        have c0 : wr.cell? ⟨g, b * 4, none⟩ = some (.int .u32 (f b).pc) := (hC.cell (b * 4) (by omega)).trans (congrArg some (HR.out b (Nat.le_refl _) hlt 0 (by omega)))
        have c1 : wr.cell? ⟨g, b * 4 + 1, none⟩ = some (.int .u32 (f b).pl) := (hC.cell (b * 4 + 1) (by omega)).trans (congrArg some (HR.out b (Nat.le_refl _) hlt 1 (by omega)))
        have c2 : wr.cell? ⟨g, b * 4 + 2, none⟩ = some (.slice (f b).A (f b).code.length (f b).c) := (hC.cell (b * 4 + 2) (by omega)).trans (congrArg some (HR.out b (Nat.le_refl _) hlt 2 (by omega)))
        have c3 : wr.cell? ⟨g, b * 4 + 3, none⟩ = some (.int .i64 (f b).ct) := (hC.cell (b * 4 + 3) (by omega)).trans (congrArg some (HR.out b (Nat.le_refl _) hlt 3 (by omega)))
        have HC := Lib.hid hC
        have fB := (Fr.refl (fun _ => False) wr).alloc (.cells #[.int .u32 (f b).pc, .int .u32 (f b).pl, .slice (f b).A (f b).code.length (f b).c, .int .i64 (f b).ct] 34)
        have bB : Blk (wr.alloc (.cells #[.int .u32 (f b).pc, .int .u32 (f b).pl, .slice (f b).A (f b).code.length (f b).c, .int .i64 (f b).ct] 34)) wr.heap.size 34 #[.int .u32 (f b).pc, .int .u32 (f b).pl, .slice (f b).A (f b).code.length (f b).c, .int .i64 (f b).ct] := Blk.new _ _ _
        have Hp := Lib.hid (HS.out b _ hlt (HST.out b wr _ HI.out (fB.mono (fun _ _ e => e.elim))))
        have hgl := hC.lt
        have HV : Hid (∀ c, c < 4 → bc (f b) c = ([.int .u32 (f b).pc, .int .u32 (f b).pl, .slice (f b).A (f b).code.length (f b).c, .int .i64 (f b).ct] : List Value).getD c undef) := Lib.hid (fun c hc => by
          rcases (by omega : c = 0 ∨ c = 1 ∨ c = 2 ∨ c = 3) with rfl | rfl | rfl | rfl <;> rfl)
        clear hC
        generalize (f b).pc = y0 at *
        generalize (f b).pl = y1 at *
        generalize (f b).A = y2 at *
        generalize (f b).code.length = y3 at *
        generalize (f b).c = y4 at *
        generalize (f b).ct = y5 at *
        obtain ⟨t, ht⟩ : ∃ t, p b = t := ⟨_, rfl⟩
        rw [ht] at Hp
        have HT := Lib.hid ht
        have FB := Lib.hid fB
        clear ht fB
        go_wp2_with fail
        refine (Hp.out).mono ?_
        rintro e w2 ⟨rfl, hI2, f2⟩
        have HI2 := Lib.hid hI2
        have F2 := Lib.hid f2
        have hCs := (HC.out.fr FB.out (fun e => e)).fr f2 HSS.out.1
        have bB2 := bB.fr f2 (fun e => by have := HSS.out.2 _ e; omega)
        have hbl := bB2.lt
        have hsz2 := f2.size
        clear hI2 f2
        cases t
        · have e1 := kept_yes HT.out
          have z0 := hCs.cell (a * 4) (by omega)
          have v0 := hCs.frozen (a * 4)
          have d0 := bB2.cell 0
          have z1 := hCs.cell (a * 4 + 1) (by omega)
          have v1 := hCs.frozen (a * 4 + 1)
          have d1 := bB2.cell 1
          have z2 := hCs.cell (a * 4 + 2) (by omega)
          have v2 := hCs.frozen (a * 4 + 2)
          have d2 := bB2.cell 2
          have z3 := hCs.cell (a * 4 + 3) (by omega)
          have v3 := hCs.frozen (a * 4 + 3)
          have d3 := bB2.cell 3
          have hgl2 := hCs.lt
          have HCs := Lib.hid hCs
          clear hCs
          have HA2 : Hid (a + 1 = (kept p (b + 1)).length) := Lib.hid (by rw [e1, List.length_append, HA.out]; rfl)
          have HG1 : Hid (∀ t, t < a → (kept p (b + 1)).getD t 0 = (kept p b).getD t 0) := Lib.hid (fun t ht => by
            rw [e1, List.getD_eq_getElem?_getD, List.getElem?_append_left (by have := HA.out; omega), ← List.getD_eq_getElem?_getD])
          have HG2 : Hid ((kept p (b + 1)).getD a 0 = b) := Lib.hid (by
            rw [e1, List.getD_eq_getElem?_getD, List.getElem?_append_right (by have := HA.out; omega), HA.out, Nat.sub_self]; rfl)
          have fS : ∀ W, Fr (· = g) w2 W → I (b + 1) W := fun W f => HST.out _ _ _ HI2.out f
          have FS := Lib.hid fS
          clear fS e1
          go_wp2_with fail
          go_roundw
          case rel =>
            refine ⟨a + 1, b + 1, _, by go_num, by go_num, by omega, by omega, HA2.out, by omega, FS.out _ ((((Fr.set1 w2 g (a * 4) (.int .u32 y0)).setCell (p := ⟨g, a * 4 + 1, none⟩) (.inl rfl) (.int .u32 y1)).setCell (p := ⟨g, a * 4 + 2, none⟩) (.inl rfl) (.slice y2 y3 y4)).setCell (p := ⟨g, a * 4 + 3, none⟩) (.inl rfl) (.int .i64 y5)), by have := FB.out.size; simp [World.setCell]; omega, (((HCs.out.set_ (a * 4) (.int .u32 y0)).set_ (a * 4 + 1) (.int .u32 y1)).set_ (a * 4 + 2) (.slice y2 y3 y4)).set_ (a * 4 + 3) (.int .i64 y5), fun t ht c hc => ?_, fun q h1 h2 c hc => ?_⟩
            · by_cases hta : t < a
              · rw [HG1.out t hta, ← HK.out t (by have := HA.out; omega) c hc]
                unfold putV
                rw [if_neg (by omega), if_neg (by omega), if_neg (by omega), if_neg (by omega)]
              · have hta : t = a := by have := HA2.out; omega
                subst hta
                rw [HG2.out, HV.out c hc]
                rcases (by omega : c = 0 ∨ c = 1 ∨ c = 2 ∨ c = 3) with rfl | rfl | rfl | rfl
                all_goals
                  unfold putV
                  simp
            · rw [← HR.out q (by omega) h2 c hc]
              unfold putV
              rw [if_neg (by omega), if_neg (by omega), if_neg (by omega), if_neg (by omega)]
          case measure => simp [intOf]; omega
        · have e1 := kept_no HT.out
          have HX : Hid (∃ F, Cells w2 g 34 (cap * 4) F ∧ (∀ t, t < (kept p (b + 1)).length → ∀ c, c < 4 → F (t * 4 + c) = bc (f ((kept p (b + 1)).getD t 0)) c) ∧ (∀ q, b + 1 ≤ q → q < n → ∀ c, c < 4 → F (q * 4 + c) = bc (f q) c)) := Lib.hid ⟨F, hCs, by rw [e1]; exact HK.out, fun q h1 h2 => HR.out q (by omega) h2⟩
          have HA2 : Hid (a = (kept p (b + 1)).length) := Lib.hid (by rw [e1]; exact HA.out)
          clear hCs bB2 bB e1
          go_wp2_with fail
          go_roundw
          case rel =>
            obtain ⟨F2, g1, g2, g3⟩ := HX.out
            exact ⟨a, b + 1, F2, rfl, by go_num, by omega, by omega, HA2.out, by omega, HI2.out, by have := FB.out.size; omega, g1, g2, g3⟩
          case measure => simp [intOf]; omega
      · have hd : decide ((b : Int) < (n : Int)) = false := by simp; omega
        have e : b = n := by omega
        have HE := Lib.hid e
        have hba : b = n := e
        subst hba
        clear e
        have hcap2 : b ≤ cap := hcap
        have hlen := zlen_b (b - a)
        have hcl := fun ty => run_clear (P := Try.prog) wr (b - a) 58 34 ty z_b Try.underlying58 zrun_b (zone_b (b - a)) g (a * 4) (cap - a) (by omega) (fun j hj => by rw [hlen] at hj; rw [hC.cell (a * 4 + j) (by omega)]; rfl) (fun j hj => hC.frozen _)
        have hC2 := Lib.hid (hC.setCells (Builtin.zeroCells z_b.cells (b - a)).toList (a * 4))
        have fR : Fr (· = g) wr (wr.setCells g (a * 4) (Builtin.zeroCells z_b.cells (b - a)).toList) := Fr.setRow _ _ (Fr.refl _ _) (.inl rfl)
        have HI3 := Lib.hid (HST.out _ _ _ HI.out fR)
        have HL := Lib.hid hlen
        clear fR hC hlen
        generalize (Builtin.zeroCells z_b.cells (b - a)).toList = Z at *
        go_wp2_with fail
        go_ret
        refine ⟨by rw [← HA.out]; rfl, HI3.out, ?_⟩
        rw [← HA.out]
        refine ⟨_, hC2.out, by omega, fun t ht c hc => ?_⟩
        rw [← HK.out t (by have := HA.out; omega) c hc]
        unfold putR
        rw [if_neg (by omega)]
  · have e := kept_all hp0
    have HE := Lib.hid e
    have HI1 := Lib.hid hI1
    have HR1 := Lib.hid hR1
    clear hp0 hI1 hR1 e Hix
    go_wp2_with fail
    go_ret
    refine ⟨by rw [HE.out]; simp, HI1.out, ?_⟩
    rw [HE.out, List.length_range]
    obtain ⟨F, g1, g2, g3⟩ := HR1.out
    refine ⟨F, g1, g2, fun q hq c hc => ?_⟩
    have : (List.range n).getD q 0 = q := by simp [List.getD_eq_getElem?_getD, List.getElem?_range hq]
    show F (q * 4 + c) = bc (f ((List.range n).getD q 0)) c
    rw [this]
    exact g3 q hq c hc
end Go.Proofs.Ytfjlgdafakbdoaa.Ca
