/- Translations that are kept: New, Flush, Linked. -/
import Derived.Test.YtfjlgdafakbdoaaCaB
import Derived.Deep.RegionHeld3
import Derived.Deep.RegionWith
import Derived.Deep.Cut
namespace Go.Proofs.Ytfjlgdafakbdoaa.Ca
open Go.RowKit Mz Go.Maps
set_option linter.unusedVariables false
set_option linter.unusedSimpArgs false
set_option maxHeartbeats 4000000

/-- a new cache -/
def Cs.new (room : Int) (gm : Nat) : Cs := ⟨room, [], none, 0, gm, [], 0⟩
theorem Cs.new_ok (room : Int) (gm : Nat) (h0 : 1 ≤ room) (h1 : room ≤ 1024) : (Cs.new room gm).Ok :=
  ⟨⟨h0, h1⟩, by show ((0 : Nat) : Int) ≤ room; omega, by simp [Cs.new], by simp [Cs.new], by simp [Cs.new], by simp [Cs.new], by simp [Cs.new], by simp [Cs.new], by simp [Cs.new]⟩
theorem new_no (w : World) (n : Int) (h : n < 1 ∨ 1024 < n) : Calls Try.prog 9 #[.int .i64 n] w fun e w' => e = .returned (.tuple #[.pointer none, .int .i64 1]) ∧ w = w' := by
  rcases h with h | h
  · have h0 : decide (n < 1) = true := by simpa using h
    go_enter Try.func9, Try.ntmps9
    go_wp2_with fail
    go_ret2
    exact ⟨rfl, rfl⟩
  · have h0 : decide (n < 1) = false := by simp; omega
    have h1 : decide (1024 < n) = true := by simpa using h
    go_enter Try.func9, Try.ntmps9
    go_wp2_with fail
    go_ret2
    exact ⟨rfl, rfl⟩
theorem new_yes (w : World) (n : Int) (h0 : 1 ≤ n) (h1 : n ≤ 1024) : Calls Try.prog 9 #[.int .i64 n] w fun e w' => ∃ g gm, e = .returned (.tuple #[.pointer (some ⟨g, 0, none⟩), .int .i64 0]) ∧ Cch w' g (Cs.new n gm) ∧ w.heap.size ≤ g ∧ w.heap.size ≤ gm ∧ g < w'.heap.size ∧ gm < w'.heap.size ∧ Fr (fun _ => False) w w' := by
  have hmm := @run_makeMap Try.prog
  have d0 : decide (n < 1) = false := by simp; omega
  have d1 : decide (1024 < n) = false := by simp; omega
  go_enter Try.func9, Try.ntmps9
  go_wp2_with fail
  go_ret2
  have hm := MapL.made (P := Try.prog) (k := 31) (mk := kyv) w
  have f1 := (Fr.refl (fun _ => False) w).alloc (.map #[] 0)
  have hsz : (w.alloc (.map #[] 0)).heap.size = w.heap.size + 1 := by simp
  have bb := Blk.new (w.alloc (.map #[] 0)) 60 #[.int .i64 n, .slice none 0 0, .map (some w.heap.size), .int .i64 0]
  rw [hsz] at bb
  refine ⟨w.heap.size + 1, w.heap.size, by simp, ⟨bb, ⟨[], 0, hm.fr ((Fr.refl (fun _ => False) _).alloc _) (fun e => e)⟩, .inl ⟨rfl, rfl, rfl⟩, by simp [Cs.new], by simp [Cs.new], List.Pairwise.nil, Cs.new_ok _ _ h0 h1⟩, by omega, by omega, bb.lt, by have := bb.lt; omega, f1.alloc _⟩
/-- all are thrown away -/
def Cs.flush (s : Cs) (gm : Nat) : Cs := ⟨s.room, [], none, 0, gm, [], s.fl + 1⟩
theorem flush_any (w : World) (g : Nat) (s : Cs) (h : Cch w g s) (hf : s.fl ≤ 1000000) :
    Calls Try.prog 15 #[.pointer (some ⟨g, 0, none⟩)] w fun e w' => ∃ gm, e = .returned (.int .i64 s.bl.length) ∧ Cch w' g (s.flush gm) ∧ w.heap.size ≤ gm ∧ gm < w'.heap.size ∧ Fr (· = g) w w' := by
  have hmm := @run_makeMap Try.prog
  obtain ⟨c0, c1, c2, c3⟩ := h.cells
  have hb := h.b
  have z1 := hb.frozen 1
  have z2 := hb.frozen 2
  have z3 := hb.frozen 3
  have hl := hb.lt
  have hfl := h.ok.fl
  have hroom := h.ok.room
  have HB := Lib.hid hb
  clear h hb
  go_enter Try.func15, Try.ntmps15
  go_wp2_with fail
  go_ret
  have b3 := ((HB.out.set_ 1 (.slice none 0 0)).set_ 2 (.map (some w.heap.size))).set_ 3 (.int .i64 (s.fl + 1))
  have f3 : Fr (· = g) w _ := ((Fr.set1 w g 1 (.slice none 0 0)).setCell (p := ⟨g, 2, none⟩) (.inl rfl) (.map (some w.heap.size))).setCell (p := ⟨g, 3, none⟩) (.inl rfl) (.int .i64 (s.fl + 1))
  have hs3 : (((w.setCell ⟨g, 1, none⟩ (.slice none 0 0)).setCell ⟨g, 2, none⟩ (.map (some w.heap.size))).setCell ⟨g, 3, none⟩ (.int .i64 (s.fl + 1))).heap.size = w.heap.size := by simp [World.setCell]
  have hm := MapL.made (P := Try.prog) (k := 31) (mk := kyv) (((w.setCell ⟨g, 1, none⟩ (.slice none 0 0)).setCell ⟨g, 2, none⟩ (.map (some w.heap.size))).setCell ⟨g, 3, none⟩ (.int .i64 (s.fl + 1)))
  rw [hs3] at hm
  refine ⟨w.heap.size, rfl, ⟨b3.alloc _, ⟨[], 0, hm⟩, .inl ⟨rfl, rfl, rfl⟩, by simp [Cs.flush], by simp [Cs.flush], List.Pairwise.nil, ⟨hroom, by show ((0 : Nat) : Int) ≤ s.room; omega, by simp [Cs.flush], by simp [Cs.flush], by simp [Cs.flush], by simp [Cs.flush], by show 0 ≤ s.fl + 1; omega, by simp [Cs.flush], by simp [Cs.flush]⟩⟩, Nat.le_refl _, by simp [hs3], f3.alloc _⟩
/-- slices.Clone of keys -/
def GivesK (w : World) (l : List Ky) (e : Ending) (w' : World) : Prop :=
  ∃ A c, e = .returned (.slice A l.length c) ∧ w'.ownsRow w.heap.size 31 2 (.slice A l.length c) l.length (kcells l) ∧ Fr (fun _ => False) w w'
theorem clone_k (w : World) (l : List Ky) (A : Option Addr) (c B : Nat) (hr : Reads w B 2 A l.length (kcells l)) (hB : B ≤ w.heap.size) (hn : l.length ≤ 1000000) (hne : A = none → l = [] ∧ c = 0) :
    Calls Try.prog 38 #[.slice A l.length c] w (GivesK w l) := by
  obtain ⟨i0, hi0, hz0, hz1, hz2⟩ := info_parts info2
  cases A with
  | none =>
    obtain ⟨rfl, rfl⟩ := hne rfl
    have hq := fun w => Lib.run_eql_slice_nil (P := Try.prog) w 38 31 none 0 0 0 0 Try.underlying38
    go_enter Try.func38, Try.ntmps38
    go_wp2_with fail
    go_ret
    exact ⟨none, 0, rfl, ⟨by simp [kcells], .inl ⟨rfl, rfl⟩⟩, Fr.refl _ _⟩
  | some ad =>
    have hq := fun w => Lib.run_eql_slice_nil (P := Try.prog) w 38 31 (some ad) l.length c 0 0 Try.underlying38
    have ho : (w.alloc (.cells #[] 31)).ownsRow w.heap.size 31 2 (.slice (some ⟨w.heap.size, 0, none⟩) 0 0) 0 [] := ⟨rfl, .inr ⟨w.heap.size, 0, #[], rfl, Nat.le_refl _, Blk.new _ _ _, Nat.le_refl _, by simp [maxLen], rfl, rfl⟩⟩
    have hr1 := hr.alloc hB (.cells #[] 31)
    have h1 : ∀ u ∈ kcells l, u.oneCell' = true := by
      intro u hu
      simp only [kcells, List.mem_flatMap] at hu
      obtain ⟨a, _, hu⟩ := hu
      simp at hu
      rcases hu with rfl | rfl <;> rfl
    obtain ⟨n, hn2⟩ : ∃ n, l.length = n := ⟨_, rfl⟩
    have HN := Lib.hid hn2
    rw [hn2] at hr1 hq hn
    rw [hn2]
    clear hr hn2
    go_enter Try.func38, Try.ntmps38
    go_wp2_with
      (at_builtin
       refine wpList_append_any _ rfl (.tmp 5) (.tmp 6) _ rfl w.heap.size 31 i0 _ 2 8 Try.underlying38 hi0 hz0 hz1 hz2 rfl (by omega) (.slice (some ⟨w.heap.size, 0, none⟩) 0 0) 0 [] rfl ho B (some ad) n c (kcells l) rfl hr1 h1 (by simp only [maxLen]; omega) (by omega) (by simp) ?_
       intro v1 w1 hown1 hg1 hat1)
    go_ret
    rw [Nat.zero_add, List.nil_append] at hown1
    obtain ⟨A1, c1, rfl⟩ := slice_form hown1
    refine ⟨A1, c1, by rw [HN.out]; rfl, by rw [HN.out]; exact hown1, ((Fr.refl _ _).alloc _).grown hg1 (fun k hk => ?_)⟩
    have e : w.heap.size = k := by simpa [Value.ownBlock] using hk
    exact .inr (by omega)
/-- the links that lead from a key -/
def lnk (E : List (Ky × Lr)) (k : Ky) : List Ky := ((E.find? (fun p => decide (p.1 = k))).map (·.2.ks)).getD []
def lrOf (E : List (Ky × Lr)) (k : Ky) : Lr := ((E.find? (fun p => decide (p.1 = k))).map (·.2)).getD ⟨[], none, 0⟩
theorem lnk_lr (E : List (Ky × Lr)) (k : Ky) : lnk E k = (lrOf E k).ks := by
  unfold lnk lrOf
  cases E.find? (fun p => decide (p.1 = k)) <;> rfl
theorem lk_ent (E : List (Ky × Lr)) (k : Ky) : (lk (E.map ent) k).getD (.slice none 0 0) = .slice (lrOf E k).A (lrOf E k).ks.length (lrOf E k).c := by
  unfold lk lrOf
  induction E with
  | nil => rfl
  | cons p E ih =>
    simp only [List.map_cons, List.find?_cons]
    by_cases h : p.1 = k
    · have : (ent p).1 = k := h
      simp [h, this, ent]
    · have : ¬ (ent p).1 = k := h
      simp only [h, this, decide_false]
      exact ih
theorem lrOf_ok {w : World} {E : List (Ky × Lr)} (h : ∀ p ∈ E, LrOk w p.2) (k : Ky) : LrOk w (lrOf E k) := by
  unfold lrOf
  cases hf : E.find? (fun p => decide (p.1 = k)) with
  | none => exact .inl ⟨rfl, rfl, rfl⟩
  | some p => exact h p (List.mem_of_find?_eq_some hf)
theorem kcells_at (l : List Ky) : ∀ i, i < l.length → ∀ c, c < 2 → (kcells l)[i * 2 + c]? = some (kc (nthK l i) c) := by
  induction l with
  | nil => intro i hi; simp at hi
  | cons p l ih =>
    intro i hi c hc
    show ([Value.int .u32 p.1, .int .u32 p.2] ++ kcells l)[i * 2 + c]? = _
    cases i with
    | zero =>
      rcases (by omega : c = 0 ∨ c = 1) with rfl | rfl <;> rfl
    | succ i =>
      rw [List.getElem?_append_right (by show 2 ≤ _; omega)]
      have : (i + 1) * 2 + c - [Value.int .u32 p.1, .int .u32 p.2].length = i * 2 + c := by show (i + 1) * 2 + c - 2 = _; omega
      rw [this, ih i (by simpa using hi) c hc]
      rfl
theorem lr_reads {w : World} {l : Lr} (h : LrOk w l) : Reads w w.heap.size 2 l.A l.ks.length (kcells l.ks) ∧ (l.A = none → l.ks = [] ∧ l.c = 0) := by
  rcases h with ⟨h1, h2, h3⟩ | ⟨gk, e, h1, h2⟩
  · rw [h1, h2]
    exact ⟨⟨rfl, fun h => absurd h (by simp)⟩, fun _ => ⟨rfl, h3⟩⟩
  · refine ⟨⟨kcells_len _, fun hn => ⟨_, e, ?_, fun j u hu => ?_⟩⟩, fun e2 => by rw [e] at e2; cases e2⟩
    · obtain ⟨F, g1, _⟩ := h1
      exact g1.lt
    · have hj : j < l.ks.length * 2 := by
        have := (List.getElem?_eq_some_iff.1 hu).1
        rwa [kcells_len] at this
      have hc := h1.cell (j / 2) (j % 2) (by omega) (Nat.mod_lt _ (by omega))
      have e3 : (⟨gk, 0, none⟩ : Addr).add j = ⟨gk, j / 2 * 2 + j % 2, none⟩ := by
        have : j / 2 * 2 + j % 2 = j := by omega
        rw [this]
        unfold Addr.add
        split
        · rename_i h0; subst h0; rfl
        · rw [Nat.zero_add]
      have h3 := kcells_at l.ks (j / 2) (by omega) (j % 2) (Nat.mod_lt _ (by omega))
      rw [show j / 2 * 2 + j % 2 = j by omega, hu] at h3
      rw [e3, hc, h3]
theorem nodup_len {α : Type} [DecidableEq α] : ∀ (l m : List α), l.Nodup → (∀ x ∈ l, x ∈ m) → l.length ≤ m.length
  | [], m, _, _ => Nat.zero_le _
  | x :: l, m, hn, hs => by
    have hn' := List.nodup_cons.1 hn
    have hx := hs x (by simp)
    have ih := nodup_len l (m.erase x) hn'.2 (fun y hy => (List.mem_erase_of_ne (fun e => hn'.1 (by rw [← e]; exact hy))).2 (hs y (by simp [hy])))
    rw [List.length_erase_of_mem hx] at ih
    have := List.length_pos_of_mem hx
    simp only [List.length_cons]
    omega
theorem Cs.Ok.ksl {s : Cs} (h : s.Ok) : ∀ p ∈ s.E, p.2.ks.length ≤ s.bl.length := fun p hp => by
  have := nodup_len p.2.ks (s.bl.map Bk.k) (h.tos p hp).1 (h.tos p hp).2
  simpa using this
theorem Cs.Ok.lrl {s : Cs} (h : s.Ok) (k : Ky) : (lrOf s.E k).ks.length ≤ s.bl.length := by
  unfold lrOf
  cases hf : s.E.find? (fun p => decide (p.1 = k)) with
  | none => exact Nat.zero_le _
  | some p => exact h.ksl p (List.mem_of_find?_eq_some hf)
theorem zK (w : World) : (zeroValue 38).run Try.prog w = .ok (.slice none 0 0) w := by kernel_rfl
theorem linked_any (w : World) (g : Nat) (s : Cs) (h : Cch w g s) (k : Ky) (hk : k.Ok) :
    Calls Try.prog 24 #[.pointer (some ⟨g, 0, none⟩), .agg #[.int .u32 k.1, .int .u32 k.2]] w (GivesK w (lnk s.E k)) := by
  obtain ⟨l, hl⟩ := keyOf_ky k hk
  have f1 := (Fr.refl (fun _ => False) w).alloc (.cells #[.int .u32 k.1, .int .u32 k.2] 31)
  have h1 := h.fr0 f1
  obtain ⟨c0, c1, c2, c3⟩ := h1.cells
  obtain ⟨bs, clock, hm⟩ := h1.m
  have hlk : (Instr.lookup 57 (.map (some s.gm)) (.agg #[.int .u32 k.1, .int .u32 k.2]) false).run Try.prog (w.alloc (.cells #[.int .u32 k.1, .int .u32 k.2] 31)).drew = .ok (.slice (lrOf s.E k).A (lrOf s.E k).ks.length (lrOf s.E k).c) (w.alloc (.cells #[.int .u32 k.1, .int .u32 k.2] 31)).drew := by
    have := (hm.fr ((Fr.refl (fun _ => False) _).drew) (fun e => e)).look keyLaw kyv_inj Try.underlying57 (zK _) hl false
    rw [lk_ent] at this
    exact this
  obtain ⟨hrd, hnn⟩ := lr_reads (lrOf_ok (h1.fr0 ((Fr.refl _ _).drew)).rows k)
  have hle : (lrOf s.E k).ks.length ≤ 1000000 := by have := h.ok.lrl k; have := h.ok.len; have := h.ok.room; omega
  have Hc := Lib.hid (clone_k _ (lrOf s.E k).ks (lrOf s.E k).A (lrOf s.E k).c _ hrd (Nat.le_refl _) hle hnn)
  have F1 := Lib.hid f1
  rw [lnk_lr]
  clear h h1 c0 c1 c3 hm hrd hnn f1 hl hk
  go_enter Try.func24, Try.ntmps24
  go_upto_region 1 with (fail)
  go_region_with (refine (Hc.out).mono ?_; rintro e w2 ⟨A, c, rfl, hown, f2⟩)
  all_goals
    have HO := Lib.hid (own_low hown (b2 := w.heap.size) (by show w.heap.size ≤ (w.alloc _).heap.size; simp))
    have F2 := Lib.hid ((F1.out.drew).tr f2)
    clear hown f2
    go_wp2_with fail
    go_ret
    exact ⟨A, c, rfl, HO.out, F2.out⟩
end Go.Proofs.Ytfjlgdafakbdoaa.Ca
