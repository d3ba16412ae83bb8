/- The host's memory: Drop; the list of what is held. -/
import Derived.Test.YtbkapgbohnmkhaaFramesLaws
namespace Go.Proofs.Ytbkapgbohnmkhaa.Fm
open Go.RowKit
set_option linter.unusedVariables false
set_option maxHeartbeats 4000000

theorem heldN_mem {s : Pl} {o : Int} {k : Nat} {x : Int} : x ∈ heldN s o k ↔ ∃ f : Nat, x = f ∧ f < k ∧ s.own f = o := by
  unfold heldN
  simp only [List.mem_map, List.mem_filter, List.mem_range, beq_iff_eq]
  constructor
  · rintro ⟨f, ⟨h1, h2⟩, rfl⟩; exact ⟨f, rfl, h1, h2⟩
  · rintro ⟨f, rfl, h1, h2⟩; exact ⟨f, ⟨h1, h2⟩, rfl⟩
theorem heldN_up (s : Pl) (o : Int) (k : Nat) : (heldN s o k).Pairwise (· < ·) := by
  unfold heldN
  rw [List.pairwise_map]
  refine (List.Pairwise.filter _ (List.pairwise_lt_range (n := k))).imp ?_
  intro a b h
  show (a : Int) < (b : Int)
  omega
theorem hasI_held {s : Pl} {o : Int} (f : Nat) (hf : f < 256) : hasI (heldN s o 256) f = (s.own f == o) := by
  rw [Bool.eq_iff_iff]
  simp only [hasI, List.any_eq_true, beq_iff_eq]
  constructor
  · rintro ⟨x, hx, rfl⟩
    obtain ⟨g, e, _, h⟩ := heldN_mem.1 hx
    have : f = g := by omega
    rw [this]; exact h
  · intro h
    exact ⟨f, heldN_mem.2 ⟨f, rfl, hf, h⟩, rfl⟩
theorem getD_mem {l : List Int} {i : Nat} (hi : i < l.length) : l.getD i 0 ∈ l := by
  have e : l.getD i 0 = l[i] := by simp [hi]
  rw [e]; exact List.getElem_mem hi
theorem not_before {l : List Int} (h : l.Pairwise (· < ·)) {i : Nat} (hi : i < l.length) : hasI (l.take i) (l.getD i 0) = false := by
  cases hh : hasI (l.take i) (l.getD i 0)
  · rfl
  · exfalso
    simp only [hasI, List.any_eq_true, beq_iff_eq] at hh
    obtain ⟨x, hx, e⟩ := hh
    obtain ⟨j, hj, rfl⟩ := List.getElem_of_mem hx
    have hj2 : j < i := by simp at hj; omega
    have := List.pairwise_iff_getElem.1 h j i (by omega) hi hj2
    rw [List.getElem_take] at e
    have e2 : l.getD i 0 = l[i] := by simp [hi]
    omega
theorem allOk_held {s : Pl} {o : Int} (h0 : 0 ≤ o) (hl : ∀ f, f < 16 → s.own f = -1) : ∀ k, k ≤ (heldN s o 256).length → allOk s o (heldN s o 256) k = true := by
  intro k
  induction k with
  | zero => intro _; rfl
  | succ k ih =>
    intro hk
    rw [allOk, ih (by omega), Bool.true_and, okAt, not_before (heldN_up s o 256) (by omega)]
    obtain ⟨f, e, hf, ho⟩ := heldN_mem.1 (getD_mem (l := heldN s o 256) (i := k) (by omega))
    rw [e]
    have h16 : 16 ≤ f := by
      rcases Nat.lt_or_ge f 16 with h | h
      · have := hl f h; omega
      · exact h
    simp [isF, ho]
    omega
theorem give_held {s : Pl} (h : PInv s) {o : Int} (ho : isO o = true) : giveR s o (held s o) = 0 := by
  have h0 : 0 ≤ o := by simp [isO] at ho; omega
  have e : held s o = heldN s o 256 := by rw [held, if_pos ho]
  rw [e, giveR, ho, allOk_held h0 h.low _ (Nat.le_refl _)]
  rfl
/-- all of an owner's is given back, and its promise -/
def Pl.dropO (s : Pl) (o : Int) : Pl := if isO o then (s.give o (held s o)).setProm o.toNat (-1) else s
theorem PInv.dropO {s : Pl} (h : PInv s) (o : Int) : PInv (s.dropO o) := by
  unfold Pl.dropO
  split
  · rename_i ho
    have hg := h.give o (Fm.held s o)
    obtain ⟨h0, h1⟩ : 0 ≤ o ∧ o < 4 := by simpa [isO] using ho
    obtain ⟨m, rfl⟩ : ∃ k : Nat, o = k := ⟨o.toNat, by omega⟩
    have hm : m < 4 := by omega
    have hr := give_held h ho
    have hz : hN (s.give m (Fm.held s m)) m 256 = 0 := by
      rcases Nat.eq_zero_or_pos (hN (s.give m (Fm.held s m)) m 256) with e | e
      · exact e
      · obtain ⟨f, hf, hp⟩ := cnt_pos e
        rw [Pl.give, if_pos hr] at hp
        have e2 : Fm.held s m = heldN s m 256 := by rw [Fm.held, if_pos ho]
        have hp : (if hasI ((Fm.held s m).take (Fm.held s m).length) (f : Int) then (-1 : Int) else s.own f) = m := by simpa [Pl.giveTo] using hp
        rw [List.take_length, e2, hasI_held f hf] at hp
        split at hp
        · omega
        · rename_i hne; exact absurd (by simpa using hp) (by simpa using hne)
    refine ⟨⟨hg.ok.own, fun q hq => ?_⟩, hg.low, fun q hq => ?_, ?_⟩
    · show -1 ≤ updI _ m (-1) q ∧ updI _ m (-1) q ≤ 64
      unfold updI
      split
      · omega
      · exact hg.ok.prom q hq
    · show (hN (s.give m (Fm.held s m)) q 256 : Int) ≤ max (updI _ m (-1) q) 0
      unfold updI
      split
      · rename_i e; subst e; rw [hz]; omega
      · exact hg.held q hq
    · have := hg.sum
      rw [sumP4] at *
      show max (updI _ m (-1) 0) 0 + max (updI _ m (-1) 1) 0 + max (updI _ m (-1) 2) 0 + max (updI _ m (-1) 3) 0 ≤ 240
      unfold updI
      generalize (s.give m (Fm.held s m)).prom = pr at *
      have a0 : max (if 0 = m then (-1 : Int) else pr 0) 0 ≤ max (pr 0) 0 := by split <;> omega
      have a1 : max (if 1 = m then (-1 : Int) else pr 1) 0 ≤ max (pr 1) 0 := by split <;> omega
      have a2 : max (if 2 = m then (-1 : Int) else pr 2) 0 ≤ max (pr 2) 0 := by split <;> omega
      have a3 : max (if 3 = m then (-1 : Int) else pr 3) 0 ≤ max (pr 3) 0 := by split <;> omega
      omega
  · exact h
set_option maxRecDepth 100000 in
theorem drop_any (w : World) (g : Nat) (s : Pl) (o : Int) (h : Pool w g s) (hI : PInv s) : Calls Try.prog 42 #[.pointer (some ⟨g, 0, none⟩), .int .i64 o] w fun e w' => e = .returned (.int .i64 ((held s o).length : Int)) ∧ Pool w' g (s.dropO o) ∧ Fr (· = g) w w' := by
  have hf := fun w => is_any w o
  have Hf := Lib.hid hf
  clear hf
  cases hb : isO o
  · have e1 : held s o = [] := by simp [held, hb]
    have e2 : s.dropO o = s := by simp [Pl.dropO, hb]
    rw [e1, e2]
    rw [hb] at Hf
    clear hb e1 e2
    go_enter Try.func42, Try.ntmps42
    go_wp2_with fail
    refine (Hf.out _).mono ?_
    rintro e w' ⟨rfl, rfl⟩
    go_wp2_with fail
    go_ret
    exact ⟨rfl, h, Fr.refl _ _⟩
  · have e2 : s.dropO o = (s.give o (held s o)).setProm o.toNat (-1) := by simp [Pl.dropO, hb]
    obtain ⟨h0, h1⟩ : 0 ≤ o ∧ o < 4 := by simpa [isO] using hb
    obtain ⟨m, rfl⟩ : ∃ k : Nat, o = k := ⟨o.toNat, by omega⟩
    have hm : m < 4 := by omega
    rw [e2, show (m : Int).toNat = m from rfl]
    rw [hb] at Hf
    have hh := Lib.hid (held_any w g s m h 0 (by omega))
    have hlt := h.lt
    have hle := held_len s m
    have hwf : ∀ z ∈ held s m, (Lit.int .i64 z).wf = true := by
      intro z hz
      rw [held, if_pos hb] at hz
      obtain ⟨f, rfl, hf, _⟩ := heldN_mem.1 hz
      exact wf_i64_mk (n := (f : Int)) (by omega) (by omega)
    have Hwf := Lib.hid hwf
    clear hb e2 hwf
    generalize hL : held s m = L at *
    clear hL
    go_enter Try.func42, Try.ntmps42
    go_wp2_with fail
    refine (Hf.out _).mono ?_
    rintro e w' ⟨rfl, rfl⟩
    go_wp2_with fail
    refine (hh.out).mono ?_
    rintro e w2 ⟨v, rfl, ho2, f2, k2⟩
    obtain ⟨A2, c2, rfl⟩ := ownI_any ho2
    have hP2 := h.fr f2 (fun e => e)
    have hI2 : IntsAt .i64 w2 w2.heap.size A2 L.length L := by
      have hr := Reads.of_own ho2
      refine ⟨rfl, fun i hi => Hwf.out _ (getD_mem hi), fun hn => ?_⟩
      obtain ⟨ad, e, hb, hc⟩ := hr.2 hn
      have h0 := hc 0 (.int .i64 (L.getD 0 0)) (by simp [by64, hn])
      obtain ⟨b, off, spot⟩ := ad
      have hspot : spot = none := by simpa [Addr.add] using World.cell?_spot h0
      subst hspot
      refine ⟨b, off, e, hb, fun i hi => ?_⟩
      have := hc i (.int .i64 (L.getD i 0)) (by simp [by64, hi])
      rw [← this]
      unfold Addr.add
      split
      · rename_i h0; subst h0; rfl
      · rfl
    have hcap : L.length ≤ c2 := by
      rcases ho2.2 with ⟨hv, he⟩ | ⟨g', cap, cur, hv, _, _, hnc, _⟩
      · injection hv with h1 h2 h3; omega
      · injection hv with h1 h2 h3; omega
    have hA2 : ∀ b off, A2 = some ⟨b, off, none⟩ → ¬ b = g := by
      intro b off e
      rcases ho2.2 with ⟨hv, _⟩ | ⟨g', cap, cur, hv, _⟩
      · injection hv with h1; rw [h1] at e; cases e
      · have := k2 g' (by rw [hv]; rfl)
        injection hv with h1
        rw [h1] at e
        injection e with e
        injection e with e1
        omega
    have hgv := give_any w2 g s m w2.heap.size L.length c2 A2 L hP2 hI2 (Nat.le_refl _) (fun _ => hA2) (by simp only [maxLen]; omega) hcap
    have Hgv := Lib.hid hgv
    clear hgv hI2 hcap hA2 ho2 k2
    go_wp2_with fail
    refine (Hgv.out).mono ?_
    rintro e w3 ⟨rfl, hP3, f3⟩
    have c := hP3.cProm m hm
    have z := Cells.frozen hP3 (16640 + m)
    have hp4 := Lib.hid (hP3.setProm m hm (-1))
    have fr4 := ((Fr.none (S := (· = g)) f2).tr f3).setCell (p := ⟨g, 16640 + m, none⟩) (.inl rfl) (.int .i64 (-1))
    have FR4 := Lib.hid fr4
    clear fr4
    go_wp2_with fail
    go_ret
    exact ⟨rfl, hp4.out, FR4.out⟩
end Go.Proofs.Ytbkapgbohnmkhaa.Fm
