/- The document's pool (innkeeperref5.Pool): it has the same state as the program's, in other cells. -/
import Derived.Test.YtbkapgbohnmkhaaFramesLaws
import Derived.Test.YtbkapgbohnmkhaaFramesDrop
import Derived.Test.YtbkapgbohnmkhaaSame64
namespace Go.Proofs.Ytbkapgbohnmkhaa.Fm
open Go.RowKit
set_option linter.unusedVariables false
set_option maxHeartbeats 4000000

def rcell (s : Pl) (i : Nat) : Value := if i < 256 then .int .i64 (s.own i) else if i < 260 then .int .i64 (s.prom (i - 256)) else .int .u8 (s.byt (i - 260))
def RPool (w : World) (g : Nat) (s : Pl) : Prop := Cells w g 112 16644 (rcell s)
section
variable {w w' : World} {g : Nat} {s : Pl} {S : Nat → Prop}
theorem RPool.fr (h : RPool w g s) (f : Fr S w w') (hn : ¬ S g) : RPool w' g s := Cells.fr h f hn
theorem RPool.lt (h : RPool w g s) : g < w.heap.size := Cells.lt h
theorem RPool.drew (h : RPool w g s) : RPool w.drew g s := h
theorem RPool.drewN (h : RPool w g s) (n : Nat) : RPool (w.drewN n) g s := h
theorem RPool.alloc (h : RPool w g s) (o : Obj) : RPool (w.alloc o) g s := Cells.alloc h o
theorem RPool.cOwn (h : RPool w g s) (f : Nat) (hf : f < 256) : w.cell? ⟨g, f, none⟩ = some (.int .i64 (s.own f)) := by
  rw [Cells.cell h _ (by omega), rcell, if_pos hf]
theorem RPool.cProm (h : RPool w g s) (o : Nat) (ho : o < 4) : w.cell? ⟨g, 256 + o, none⟩ = some (.int .i64 (s.prom o)) := by
  rw [Cells.cell h _ (by omega), rcell, if_neg (by omega), if_pos (by omega), show 256 + o - 256 = o by omega]
theorem RPool.cByt (h : RPool w g s) (i : Nat) (hi : i < 16384) : w.cell? ⟨g, 260 + i, none⟩ = some (.int .u8 (s.byt i)) := by
  rw [Cells.cell h _ (by omega), rcell, if_neg (by omega), if_neg (by omega), show 260 + i - 260 = i by omega]
theorem RPool.congr (h : RPool w g s) {s' : Pl} (h1 : ∀ f, f < 256 → s.own f = s'.own f) (h2 : ∀ o, o < 4 → s.prom o = s'.prom o) (h3 : ∀ i, i < 16384 → s.byt i = s'.byt i) : RPool w g s' := by
  refine Cells.congr h (fun i hi => ?_)
  unfold rcell
  by_cases e1 : i < 256
  · rw [if_pos e1, if_pos e1, h1 i e1]
  · by_cases e2 : i < 260
    · rw [if_neg e1, if_pos e2, if_neg e1, if_pos e2, h2 _ (by omega)]
    · rw [if_neg e1, if_neg e2, if_neg e1, if_neg e2, h3 _ (by omega)]
theorem RPool.setOwn (h : RPool w g s) (f : Nat) (hf : f < 256) (o : Int) : RPool (w.setCell ⟨g, f, none⟩ (.int .i64 o)) g (s.setOwn f o) := by
  refine Cells.congr (Cells.set_ h _ _) (fun i hi => ?_)
  unfold putV rcell Pl.setOwn updI
  by_cases e : i = f
  · rw [if_pos e, if_pos (by omega)]
    dsimp only
    rw [if_pos e]
  · rw [if_neg e]
    by_cases h1 : i < 256
    · rw [if_pos h1, if_pos h1]
      dsimp only
      rw [if_neg e]
    · rw [if_neg h1, if_neg h1]
theorem RPool.setProm (h : RPool w g s) (o : Nat) (ho : o < 4) (n : Int) : RPool (w.setCell ⟨g, 256 + o, none⟩ (.int .i64 n)) g (s.setProm o n) := by
  refine Cells.congr (Cells.set_ h _ _) (fun i hi => ?_)
  unfold putV rcell Pl.setProm updI
  by_cases e : i = 256 + o
  · rw [if_pos e, if_neg (by omega), if_pos (by omega)]
    dsimp only
    rw [if_pos (by omega)]
  · rw [if_neg e]
    by_cases h1 : i < 256
    · rw [if_pos h1, if_pos h1]
    · by_cases h2 : i < 260
      · rw [if_neg h1, if_pos h2, if_neg h1, if_pos h2]
        dsimp only
        rw [if_neg (by omega)]
      · rw [if_neg h1, if_neg h2, if_neg h1, if_neg h2]
theorem RPool.setByt (h : RPool w g s) (j : Nat) (hj : j < 16384) (b : Int) : RPool (w.setCell ⟨g, 260 + j, none⟩ (.int .u8 b)) g (s.setByt j b) := by
  refine Cells.congr (Cells.set_ h _ _) (fun i hi => ?_)
  unfold putV rcell Pl.setByt updI
  by_cases e : i = 260 + j
  · rw [if_pos e, if_neg (by omega), if_neg (by omega)]
    dsimp only
    rw [if_pos (by omega)]
  · rw [if_neg e]
    by_cases h1 : i < 256
    · rw [if_pos h1, if_pos h1]
    · by_cases h2 : i < 260
      · rw [if_neg h1, if_pos h2, if_neg h1, if_pos h2]
      · rw [if_neg h1, if_neg h2, if_neg h1, if_neg h2]
        dsimp only
        rw [if_neg (by omega)]
theorem RPool.wipe (h : RPool w g s) (f : Nat) (hf : f < 256) : RPool (w.setCells g (260 + f * 64) (List.replicate 64 (.int .u8 0))) g (s.wipe f) := by
  refine Cells.congr (Cells.setCells _ _ h) (fun i hi => ?_)
  unfold putR rcell Pl.wipe
  rw [List.length_replicate]
  by_cases e : 260 + f * 64 ≤ i ∧ i < 260 + f * 64 + 64
  · rw [if_pos e, if_neg (by omega), if_neg (by omega)]
    dsimp only
    rw [if_pos (by omega), List.getD_eq_getElem?_getD, List.getElem?_replicate, if_pos (by omega)]
    rfl
  · rw [if_neg e]
    by_cases h1 : i < 256
    · rw [if_pos h1, if_pos h1]
    · by_cases h2 : i < 260
      · rw [if_neg h1, if_pos h2, if_neg h1, if_pos h2]
      · rw [if_neg h1, if_neg h2, if_neg h1, if_neg h2]
        dsimp only
        rw [if_neg (by omega)]
end

theorem rowner_any (w : World) (o : Int) : Calls Try.prog 75 #[.int .i64 o] w fun e w' => e = .returned (.bool (isO o)) ∧ w = w' := by
  by_cases h0 : 0 ≤ o
  · by_cases h1 : o < 4
    · have hb : isO o = true := by simp [isO, h0, h1]
      rw [hb]
      go_enter Try.func75, Try.ntmps75
      go_wp2
      go_ret
      exact ⟨rfl, rfl⟩
    · have hb : isO o = false := by simp [isO, h1]
      have h1' : decide (o < 4) = false := by simpa using h1
      rw [hb]
      go_enter Try.func75, Try.ntmps75
      go_wp2
      go_ret
      exact ⟨rfl, rfl⟩
  · have hb : isO o = false := by simp [isO, h0]
    have h0' : decide (0 ≤ o) = false := by simpa using h0
    rw [hb]
    go_enter Try.func75, Try.ntmps75
    go_wp2
    go_ret
    exact ⟨rfl, rfl⟩

/-- the cells of a pool that was just made -/
def rz : List Value := List.replicate 260 (Value.int .i64 0) ++ List.replicate 16384 (Value.int .u8 0)
def rza : Array Value := rz.toArray
set_option maxRecDepth 1000000 in
theorem zeroRPool : (Try.prog.info? 112).bind (·.zero) = some (.agg rza) := by kernel_rfl
theorem zeroRPool_run (W : World) : (zeroValue 112).run Try.prog W = .ok (.agg rza) W := by
  have h := zeroRPool
  cases hi : Try.prog.info? 112 with
  | none => rw [hi] at h; cases h
  | some i =>
    rw [hi] at h
    have h' : i.zero = some (.agg rza) := h
    simp [zeroValue, typeInfo, hi, h']
theorem rpool0 (w : World) : RPool (w.alloc (.cells rza 112)) w.heap.size (new1 0) := by
  refine ⟨rza, Blk.new _ _ _, by unfold rza rz; rw [List.size_toArray, List.length_append, List.length_replicate, List.length_replicate], fun i hi => ?_⟩
  unfold rza rz rcell new1
  rw [List.getElem?_toArray]
  have e0 : ∀ j : Nat, (if j < 0 then (-1 : Int) else 0) = 0 := fun j => by rw [if_neg (Nat.not_lt_zero j)]
  simp only [e0]
  by_cases h1 : i < 260
  · rw [List.getElem?_append_left (by rw [List.length_replicate]; exact h1), List.getElem?_replicate, if_pos h1]
    by_cases h2 : i < 256
    · rw [if_pos h2]
    · rw [if_neg h2, if_pos h1]
  · rw [if_neg (by omega), if_neg h1, List.getElem?_append_right (by rw [List.length_replicate]; omega), List.length_replicate, List.getElem?_replicate, if_pos (by omega)]

set_option maxRecDepth 100000 in
theorem rnew_any (w : World) : Calls Try.prog 38 #[] w fun e w' => e = .returned (.pointer (some ⟨w.heap.size, 0, none⟩)) ∧ RPool w' w.heap.size Pl.new ∧ Fr (fun _ => False) w w' := by
  have hz := zeroRPool_run
  go_enter Try.func38, Try.ntmps38
  go_wp2_with fail
  clear hz
  go_loopw [2] (fun i wr => ∃ k : Nat, k ≤ 256 ∧ i = .int .i64 k ∧ RPool wr w.heap.size (new1 k) ∧ Fr (fun _ => False) w wr) (fun i _ => 256 - (intOf i).toNat)
  case atStart => exact ⟨0, by omega, rfl, rpool0 w, (Fr.refl _ _).alloc _⟩
  case round =>
    obtain ⟨k, hk, rfl, hP, fr⟩ := hrel
    by_cases hlt : k < 256
    · have c := hP.cOwn k hlt
      have z := Cells.frozen hP k
      have hp := hP.setOwn k hlt (-1)
      rw [new1_succ] at hp
      have fr2 := fr.setCell (p := ⟨w.heap.size, k, none⟩) (.inr (Nat.le_refl _)) (.int .i64 (-1))
      have Hp := Lib.hid hp
      have Hf := Lib.hid fr2
      clear hp fr2
      go_wp2_with fail
      go_roundw
      case rel => exact ⟨k + 1, by omega, by go_num, Hp.out, Hf.out⟩
      case measure => simp [intOf]; omega
    · have e : k = 256 := by omega
      subst e
      have hP : RPool wr w.heap.size (new2 0) := hP.congr (fun f hf => by simp [new1, new2, hf]) (fun o ho => by simp [new1, new2]) (fun i hi => rfl)
      go_wp2_with fail
      go_loopw [3] (fun i wr => ∃ k : Nat, k ≤ 4 ∧ i = .int .i64 k ∧ RPool wr w.heap.size (new2 k) ∧ Fr (fun _ => False) w wr) (fun i _ => 4 - (intOf i).toNat)
      case atStart => exact ⟨0, by omega, rfl, hP, fr⟩
      case round =>
        clear hP fr
        obtain ⟨k, hk, rfl, hP, fr⟩ := hrel
        by_cases hlt : k < 4
        · have c := hP.cProm k hlt
          have z := Cells.frozen hP (256 + k)
          have hp := hP.setProm k hlt (-1)
          rw [new2_succ] at hp
          have fr2 := fr.setCell (p := ⟨w.heap.size, 256 + k, none⟩) (.inr (Nat.le_refl _)) (.int .i64 (-1))
          have Hp := Lib.hid hp
          have Hf := Lib.hid fr2
          clear hp fr2
          go_wp2_with fail
          go_roundw
          case rel => exact ⟨k + 1, by omega, by go_num, Hp.out, Hf.out⟩
          case measure => simp [intOf]; omega
        · have e : k = 4 := by omega
          subst e
          go_wp2_with fail
          go_ret
          exact ⟨rfl, hP.congr (fun f hf => rfl) (fun o ho => by simp [new2, Pl.new, ho]) (fun i hi => rfl), fr⟩

/-- the frames that a number's owner holds, as the document tells them -/
theorem rheld_eq {s : Pl} (hok : s.Ok) (o : Int) : (if 0 ≤ o then heldN s o 256 else []) = held s o := by
  unfold held isO
  by_cases h0 : 0 ≤ o
  · by_cases h1 : o < 4
    · rw [if_pos h0, if_pos (by simp [h0, h1])]
    · rw [if_pos h0, if_neg (by simp; omega)]
      unfold heldN
      rw [List.map_eq_nil_iff, List.filter_eq_nil_iff]
      intro f hf
      have := (hok.own f (by simpa using hf)).2
      simp
      omega
  · rw [if_neg h0, if_neg (by simp; omega)]
set_option maxRecDepth 100000 in
theorem rheld_any (w : World) (g : Nat) (s : Pl) (o : Int) (h : RPool w g s) (hok : s.Ok) (base : Nat) (hb : base ≤ w.heap.size) :
    Calls Try.prog 66 #[.pointer (some ⟨g, 0, none⟩), .int .i64 o] w (GivesI w base (held s o)) := by
  obtain ⟨i0, hi0, hz0, hz1, hz2⟩ := info_parts info64
  rw [← rheld_eq hok o]
  by_cases h0 : 0 ≤ o
  · rw [if_pos h0]
    have h0' : decide (0 ≤ o) = true := by simpa using h0
    go_enter Try.func66, Try.ntmps66
    go_wp2_with fail
    go_loopw [5, 6] (fun v i wr => ∃ k : Nat, k ≤ 256 ∧ i = .int .i64 k ∧ wr.ownsRow base 3 1 v (heldN s o k).length (by64 (heldN s o k)) ∧ Fr (fun _ => False) w wr ∧ (∀ b, v.ownBlock = some b → w.heap.size ≤ b)) (fun _ i _ => 256 - (intOf i).toNat)
    case atStart => exact ⟨0, by omega, rfl, ⟨rfl, .inl ⟨rfl, rfl⟩⟩, Fr.refl _ _, fun k hk => by simp [Value.ownBlock] at hk⟩
    case round =>
      obtain ⟨k, hk, rfl, hown, fr, hat⟩ := hrel
      by_cases hlt : k < 256
      · have c := (h.fr fr (fun e => e)).cOwn k hlt
        have hle := heldN_le s o k
        have hbs := Nat.le_trans hb fr.size
        by_cases ho : s.own k = o
        · have Hs := Lib.hid (heldN_yes s o k ho)
          rw [ho] at c
          have hown' := own_alloc hown (.cells #[.int .i64 (k : Int)] 3)
          clear ho
          generalize heldN s o k = l at *
          go_wp2_with
            (at_builtin
             refine wpList_append_any _ rfl (.tmp 23) (.tmp 25) _ rfl base 3 i0 _ 1 8 Try.underlying22 hi0 hz0 hz1 hz2 rfl (by omega) u5 l.length (by64 l) rfl hown' (wr.heap.size + 1) (some ⟨wr.heap.size, 0, none⟩) 1 1 [.int .i64 (k : Int)] rfl (reads_blk (Blk.new _ _ _) rfl) (by simp [Value.oneCell']) (by simp only [maxLen]; omega) (by omega) (by simp; omega) ?_
             intro v1 w1 hown1 hg1 hat1)
          go_roundw
          case rel =>
            refine ⟨k + 1, by omega, by go_num, ?_, (fr.alloc _).grown hg1 (fun q hq => .inr (hat q hq)), fun q hq => ?_⟩
            · rw [Hs.out]; simpa [by64] using hown1
            · rcases hat1 with e | e
              · exact hat q (by rw [← e]; exact hq)
              · rw [e] at hq
                have : wr.heap.size + 1 = q := by simpa using hq
                have := fr.size
                omega
          case measure => simp [intOf]; omega
        · have Hs := Lib.hid (heldN_no s o k ho)
          have ho' : (s.own k == o) = false := by simpa using ho
          clear ho
          generalize heldN s o k = l at *
          go_wp2_with fail
          go_roundw
          case rel => exact ⟨k + 1, by omega, by go_num, by rw [Hs.out]; exact hown, fr, hat⟩
          case measure => simp [intOf]; omega
      · have e : k = 256 := by omega
        subst e
        have hG : GivesI w base (heldN s o 256) (.returned u5) wr := ⟨_, rfl, hown, fr, hat⟩
        have HG := Lib.hid hG
        clear hG
        go_wp2_with fail
        go_ret
        exact HG.out
  · rw [if_neg h0]
    have h0' : decide (0 ≤ o) = false := by simpa using h0
    have hG : ∀ wr, Fr (fun _ => False) w wr → GivesI w base [] (.returned (.slice none 0 0)) wr := fun wr f =>
      ⟨_, rfl, ⟨rfl, .inl ⟨rfl, rfl⟩⟩, f, fun k hk => by simp [Value.ownBlock] at hk⟩
    have HG := Lib.hid hG
    clear hG h0
    go_enter Try.func66, Try.ntmps66
    go_wp2_with fail
    go_loop [5, 6] (fun v i => ∃ k : Nat, k ≤ 256 ∧ i = .int .i64 k ∧ v = .slice none 0 0) (fun _ i => 256 - (intOf i).toNat)
    case atStart => exact ⟨0, by omega, rfl, rfl⟩
    case round =>
      obtain ⟨k, hk, rfl, rfl⟩ := hrel
      by_cases hlt : k < 256
      · have c := h.cOwn k hlt
        by_cases ho : s.own k = o
        · rw [ho] at c
          clear ho
          go_wp2_with fail
          go_round
          case rel => exact ⟨k + 1, by omega, by go_num, rfl⟩
          case measure => simp [intOf]; omega
        · have ho' : (s.own k == o) = false := by simpa using ho
          clear ho
          go_wp2_with fail
          go_round
          case rel => exact ⟨k + 1, by omega, by go_num, rfl⟩
          case measure => simp [intOf]; omega
      · have e : k = 256 := by omega
        subst e
        go_wp2_with fail
        go_ret
        exact HG.out _ (Fr.refl _ _)
set_option maxRecDepth 100000 in
theorem rfree_any (w : World) (g : Nat) (s : Pl) (h : RPool w g s) (hok : s.Ok) : Calls Try.prog 67 #[.pointer (some ⟨g, 0, none⟩)] w fun e w' => e = .returned (.int .i64 (freeN s 256)) ∧ w = w' := by
  go_enter Try.func67, Try.ntmps67
  go_wp2_with fail
  go_loop [3, 4] (fun n i => ∃ k : Nat, 16 ≤ k ∧ k ≤ 256 ∧ i = .int .i64 k ∧ n = .int .i64 (freeN s k)) (fun _ i => 256 - (intOf i).toNat)
  case atStart => exact ⟨16, by omega, by omega, rfl, by rw [freeN16 s 16 (by omega)]; rfl⟩
  case round =>
    obtain ⟨k, h16, hk, rfl, rfl⟩ := hrel
    by_cases hlt : k < 256
    · have c := h.cOwn k hlt
      have hle := freeN_le s k
      have hb := (hok.own k hlt).1
      by_cases ho : s.own k = -1
      · have Hs := Lib.hid (show freeN s (k + 1) = freeN s k + 1 by rw [freeN, if_pos ⟨h16, ho⟩])
        rw [ho] at c
        clear ho hb
        generalize freeN s k = n at *
        go_wp2_with fail
        go_round
        case rel => exact ⟨k + 1, by omega, by omega, by go_num, by rw [Hs.out]; go_num⟩
        case measure => simp [intOf]; omega
      · have Hs := Lib.hid (show freeN s (k + 1) = freeN s k by rw [freeN, if_neg (fun e => ho e.2)]; rfl)
        have ho' : decide (s.own k < 0) = false := by simp; omega
        clear ho
        generalize freeN s k = n at *
        generalize s.own k = q at *
        go_wp2_with fail
        go_round
        case rel => exact ⟨k + 1, by omega, by omega, by go_num, by rw [Hs.out]⟩
        case measure => simp [intOf]; omega
    · have : k = 256 := by omega
      subst this
      go_wp2_with fail
      go_ret
      exact ⟨rfl, rfl⟩
end Go.Proofs.Ytbkapgbohnmkhaa.Fm
