/- The host's memory, III: New, Held; slices.Contains at ints. -/
import Derived.Test.YthiephlfhbkcbaaDoorFramesB
namespace Go.Proofs.YthiephlfhbkcbaaDoor.Fm
open Go.RowKit
set_option linter.unusedVariables false
set_option maxHeartbeats 4000000

/-- the cells of a pool that was just made -/
def pz : List Value := List.replicate 16384 (Value.int .u8 0) ++ List.replicate 260 (Value.int .i64 0)
def pza : Array Value := pz.toArray
set_option maxRecDepth 1000000 in
theorem zeroPool : (Tryd.prog.info? 114).bind (·.zero) = some (.agg pza) := by kernel_rfl
theorem zeroPool_run (W : World) : (zeroValue 114).run Tryd.prog W = .ok (.agg pza) W := by
  have h := zeroPool
  cases hi : Tryd.prog.info? 114 with
  | none => rw [hi] at h; cases h
  | some i =>
    rw [hi] at h
    have h' : i.zero = some (.agg pza) := h
    simp [zeroValue, typeInfo, hi, h']
def new1 (k : Nat) : Pl := ⟨fun j => if j < k then -1 else 0, fun _ => 0, fun _ => 0⟩
def new2 (k : Nat) : Pl := ⟨fun _ => -1, fun j => if j < k then -1 else 0, fun _ => 0⟩
theorem pool0 (w : World) : Pool (w.alloc (.cells pza 114)) w.heap.size (new1 0) := by
  refine ⟨pza, Blk.new _ _ _, by unfold pza pz; rw [List.size_toArray, List.length_append, List.length_replicate, List.length_replicate], fun i hi => ?_⟩
  unfold pza pz pcell new1
  rw [List.getElem?_toArray]
  by_cases h1 : i < 16384
  · rw [if_pos h1, List.getElem?_append_left (by rw [List.length_replicate]; exact h1), List.getElem?_replicate, if_pos h1]
  · rw [if_neg h1, List.getElem?_append_right (by rw [List.length_replicate]; omega), List.length_replicate, List.getElem?_replicate, if_pos (by omega)]
    have e0 : ∀ j : Nat, (if j < 0 then (-1 : Int) else 0) = 0 := fun j => by rw [if_neg (Nat.not_lt_zero j)]
    simp only [e0]
    by_cases h2 : i < 16640
    · rw [if_pos h2]
    · rw [if_neg h2]
theorem new1_succ (k : Nat) : (new1 k).setOwn k (-1) = new1 (k + 1) := by
  unfold new1 Pl.setOwn updI
  congr 1
  funext j
  dsimp only
  by_cases e : j = k
  · subst e; simp
  · rw [if_neg e]
    by_cases h : j < k
    · rw [if_pos h, if_pos (by omega)]
    · rw [if_neg h, if_neg (by omega)]
theorem new2_succ (k : Nat) : (new2 k).setProm k (-1) = new2 (k + 1) := by
  unfold new2 Pl.setProm updI
  congr 1
  funext j
  dsimp only
  by_cases e : j = k
  · subst e; simp
  · rw [if_neg e]
    by_cases h : j < k
    · rw [if_pos h, if_pos (by omega)]
    · rw [if_neg h, if_neg (by omega)]
theorem Pool.congr {w : World} {g : Nat} {s s' : Pl} (h : Pool w g s) (h1 : ∀ f, f < 256 → s.own f = s'.own f) (h2 : ∀ o, o < 4 → s.prom o = s'.prom o) (h3 : ∀ i, i < 16384 → s.byt i = s'.byt i) : Pool w g s' := by
  refine Cells.congr h (fun i hi => ?_)
  unfold pcell
  by_cases e1 : i < 16384
  · rw [if_pos e1, if_pos e1, h3 i e1]
  · by_cases e2 : i < 16640
    · rw [if_neg e1, if_pos e2, if_neg e1, if_pos e2, h1 _ (by omega)]
    · rw [if_neg e1, if_neg e2, if_neg e1, if_neg e2, h2 _ (by omega)]

set_option maxRecDepth 100000 in
theorem new_any (w : World) : Calls Tryd.prog 49 #[] w fun e w' => e = .returned (.pointer (some ⟨w.heap.size, 0, none⟩)) ∧ Pool w' w.heap.size Pl.new ∧ Fr (fun _ => False) w w' := by
  have hz := zeroPool_run
  go_enter Tryd.func49, Tryd.ntmps49
  go_wp2_with fail
  clear hz
  go_loopw [2, 6] (fun _ i wr => ∃ k : Nat, k ≤ 256 ∧ i = .int .i64 k ∧ Pool wr w.heap.size (new1 k) ∧ Fr (fun _ => False) w wr) (fun _ i _ => 256 - (intOf i).toNat)
  case atStart => exact ⟨0, by omega, rfl, pool0 w, (Fr.refl _ _).alloc _⟩
  case round =>
    obtain ⟨k, hk, rfl, hP, fr⟩ := hrel
    by_cases hlt : k < 256
    · have c := hP.cOwn k hlt
      have z := Cells.frozen hP (16384 + k)
      have hp := hP.setOwn k hlt (-1)
      rw [new1_succ] at hp
      have fr2 := fr.setCell (p := ⟨w.heap.size, 16384 + k, none⟩) (.inr (Nat.le_refl _)) (.int .i64 (-1))
      have Hp := Lib.hid hp
      have Hf := Lib.hid fr2
      clear hp fr2
      go_wp2_with fail
      go_roundw
      case rel => exact ⟨k + 1, by omega, by go_num, Hp.out, Hf.out⟩
      case measure => simp [intOf]; omega
    · have e : k = 256 := by omega
      subst e
      have hP : Pool wr w.heap.size (new2 0) := hP.congr (fun f hf => by simp [new1, new2, hf]) (fun o ho => by simp [new1, new2]) (fun i hi => rfl)
      go_wp2_with fail
      go_loopw [3, 15] (fun _ i wr => ∃ k : Nat, k ≤ 4 ∧ i = .int .i64 k ∧ Pool wr w.heap.size (new2 k) ∧ Fr (fun _ => False) w wr) (fun _ i _ => 4 - (intOf i).toNat)
      case atStart => exact ⟨0, by omega, rfl, hP, fr⟩
      case round =>
        clear hP fr
        obtain ⟨k, hk, rfl, hP, fr⟩ := hrel
        by_cases hlt : k < 4
        · have c := hP.cProm k hlt
          have z := Cells.frozen hP (16640 + k)
          have hp := hP.setProm k hlt (-1)
          rw [new2_succ] at hp
          have fr2 := fr.setCell (p := ⟨w.heap.size, 16640 + k, none⟩) (.inr (Nat.le_refl _)) (.int .i64 (-1))
          have Hp := Lib.hid hp
          have Hf := Lib.hid fr2
          clear hp fr2
          go_wp2_with fail
          go_roundw
          case rel => exact ⟨k + 1, by omega, by go_num, Hp.out, Hf.out⟩
          case measure => simp [intOf]; omega
        · have e : k = 4 := by omega
          subst e
          go_wp2_with fail
          go_ret
          exact ⟨rfl, hP.congr (fun f hf => rfl) (fun o ho => by simp [new2, Pl.new, ho]) (fun i hi => rfl), fr⟩

theorem new_ok : Pl.new.Ok := ⟨fun f hf => by simp [Pl.new], fun o ho => by simp [Pl.new]⟩

/-- the frames that an owner holds, below k -/
def heldN (s : Pl) (o : Int) (k : Nat) : List Int := ((List.range k).filter fun f => s.own f == o).map Int.ofNat
theorem heldN_le (s : Pl) (o : Int) (k : Nat) : (heldN s o k).length ≤ k := by
  unfold heldN
  rw [List.length_map]
  exact Nat.le_trans (List.length_filter_le _ _) (by simp)
theorem heldN_yes (s : Pl) (o : Int) (k : Nat) (h : s.own k = o) : heldN s o (k + 1) = heldN s o k ++ [(k : Int)] := by
  unfold heldN
  rw [List.range_succ, List.filter_append]
  simp [h]
theorem heldN_no (s : Pl) (o : Int) (k : Nat) (h : ¬ s.own k = o) : heldN s o (k + 1) = heldN s o k := by
  unfold heldN
  rw [List.range_succ, List.filter_append]
  simp [h]
def held (s : Pl) (o : Int) : List Int := if isO o then heldN s o 256 else []
def by64 (l : List Int) : List Value := l.map (Value.int .i64)
theorem by64_len (l : List Int) : (by64 l).length = l.length := by simp [by64]
theorem info64 : (Tryd.prog.info? 3).map (fun i => (i.zero, i.size, i.bytes)) = some (some (.int .i64 0), 1, 8) := by kernel_rfl
/-- new memory is handed back that holds these numbers -/
def GivesI (w : World) (base : Nat) (l : List Int) (e : Ending) (w' : World) : Prop :=
  ∃ v, e = .returned v ∧ w'.ownsRow base 3 1 v l.length (by64 l) ∧ Fr (fun _ => False) w w' ∧ (∀ k, v.ownBlock = some k → w.heap.size ≤ k)

set_option maxRecDepth 100000 in
theorem held_any (w : World) (g : Nat) (s : Pl) (o : Int) (h : Pool w g s) (base : Nat) (hb : base ≤ w.heap.size) :
    Calls Tryd.prog 77 #[.pointer (some ⟨g, 0, none⟩), .int .i64 o] w (GivesI w base (held s o)) := by
  obtain ⟨i0, hi0, hz0, hz1, hz2⟩ := info_parts info64
  have hf := fun w => is_any w o
  have Hf := Lib.hid hf
  clear hf
  cases hb : isO o
  · have hG : GivesI w base (held s o) (.returned (.slice none 0 0)) w := by
      have e : held s o = [] := by simp [held, hb]
      rw [e]
      exact ⟨_, rfl, ⟨rfl, .inl ⟨rfl, rfl⟩⟩, Fr.refl _ _, fun k hk => by simp [Value.ownBlock] at hk⟩
    rw [hb] at Hf
    have HG := Lib.hid hG
    clear hb hG
    go_enter Tryd.func77, Tryd.ntmps77
    go_wp2_with fail
    refine (Hf.out _).mono ?_
    rintro e w' ⟨rfl, rfl⟩
    go_wp2_with fail
    go_ret
    exact HG.out
  · have he : held s o = heldN s o 256 := by simp [held, hb]
    rw [he]
    rw [hb] at Hf
    clear hb he
    go_enter Tryd.func77, Tryd.ntmps77
    go_wp2_with fail
    refine (Hf.out _).mono ?_
    rintro e w' ⟨rfl, rfl⟩
    go_wp2_with fail
    go_loopw [5, 11] (fun v i wr => ∃ k : Nat, k ≤ 256 ∧ i = .int .i64 k ∧ wr.ownsRow base 3 1 v (heldN s o k).length (by64 (heldN s o k)) ∧ Fr (fun _ => False) w wr ∧ (∀ b, v.ownBlock = some b → w.heap.size ≤ b)) (fun _ i _ => 256 - (intOf i).toNat)
    case atStart => exact ⟨0, by omega, rfl, ⟨rfl, .inl ⟨rfl, rfl⟩⟩, Fr.refl _ _, fun k hk => by simp [Value.ownBlock] at hk⟩
    case round =>
      obtain ⟨k, hk, rfl, hown, fr, hat⟩ := hrel
      by_cases hlt : k < 256
      · have c := (h.fr fr (fun e => e)).cOwn k hlt
        have hle := heldN_le s o k
        have hbs := Nat.le_trans hb fr.size
        by_cases ho : s.own k = o
        · have Hs := Lib.hid (heldN_yes s o k ho)
          rw [ho] at c
          have hown' := own_alloc hown (.cells #[.int .i64 (k : Int)] 3)
          clear ho
          generalize heldN s o k = l at *
          go_wp2_with
            (at_builtin
             refine wpList_append_any _ rfl (.tmp 22) (.tmp 24) _ rfl base 3 i0 _ 1 8 Tryd.underlying22 hi0 hz0 hz1 hz2 rfl (by omega) u5 l.length (by64 l) rfl hown' (wr.heap.size + 1) (some ⟨wr.heap.size, 0, none⟩) 1 1 [.int .i64 (k : Int)] rfl (reads_blk (Blk.new _ _ _) rfl) (by simp [Value.oneCell']) (by simp only [maxLen]; omega) (by omega) (by simp; omega) ?_
             intro v1 w1 hown1 hg1 hat1)
          go_roundw
          case rel =>
            refine ⟨k + 1, by omega, by go_num, ?_, (fr.alloc _).grown hg1 (fun q hq => .inr (hat q hq)), fun q hq => ?_⟩
            · rw [Hs.out]; simpa [by64] using hown1
            · rcases hat1 with e | e
              · exact hat q (by rw [← e]; exact hq)
              · rw [e] at hq
                have : wr.heap.size + 1 = q := by simpa using hq
                have := fr.size
                omega
          case measure => simp [intOf]; omega
        · have Hs := Lib.hid (heldN_no s o k ho)
          have ho' : (s.own k == o) = false := by simpa using ho
          clear ho
          generalize heldN s o k = l at *
          go_wp2_with fail
          go_roundw
          case rel => exact ⟨k + 1, by omega, by go_num, by rw [Hs.out]; exact hown, fr, hat⟩
          case measure => simp [intOf]; omega
      · have e : k = 256 := by omega
        subst e
        have hG : GivesI w base (heldN s o 256) (.returned u5) wr := ⟨_, rfl, hown, fr, hat⟩
        have HG := Lib.hid hG
        clear hG
        go_wp2_with fail
        go_ret
        exact HG.out
end Go.Proofs.YthiephlfhbkcbaaDoor.Fm
