/- The second stage of paging, II: Guarded, guard, Mapped. -/
import Derived.Test.YtcfoogbjlokegaaNested
namespace Go.Proofs.Ytcfoogbjlokegaa.Nt
open Go.RowKit Fm
set_option linter.unusedVariables false
set_option maxHeartbeats 4000000

def updB (f : Nat → Bool) (k : Nat) (v : Bool) : Nat → Bool := fun j => if j = k then v else f j
def Ts.setFr (t : Ts) (k : Nat) (f : Int) : Ts := { t with fr := updI t.fr k f }
def Ts.setGd (t : Ts) (k : Nat) (b : Bool) : Ts := { t with gd := updB t.gd k b }
theorem Tab.setFr {w : World} {a : Ad} {t : Ts} (h : Tab w a t) (k : Nat) (v : Int) : Tab (w.setCell ⟨a.gf, k, none⟩ (.int .i64 v)) a (t.setFr k v) := by
  refine ⟨h.1.far (p := ⟨a.gf, k, none⟩) h.ne1 _, Cells.congr (Cells.set_ h.2.1 k _) (fun i hi => ?_), Cells.far h.2.2.1 (p := ⟨a.gf, k, none⟩) (fun e => h.ne3 e.symm) _, h.2.2.2⟩
  unfold putV Ts.setFr updI
  dsimp only
  split <;> rfl
theorem Tab.setGd {w : World} {a : Ad} {t : Ts} (h : Tab w a t) (k : Nat) (v : Bool) : Tab (w.setCell ⟨a.gg, k, none⟩ (.bool v)) a (t.setGd k v) := by
  refine ⟨h.1.far (p := ⟨a.gg, k, none⟩) h.ne2 _, Cells.far h.2.1 (p := ⟨a.gg, k, none⟩) h.ne3 _, Cells.congr (Cells.set_ h.2.2.1 k _) (fun i hi => ?_), h.2.2.2⟩
  unfold putV Ts.setGd updB
  dsimp only
  split <;> rfl

def gdB (t : Ts) (p : Int) : Bool := inP t p && t.gd p.toNat
theorem guarded_any (w : World) (a : Ad) (t : Ts) (p : Int) (h : Tab w a t) : Calls Try.prog 23 #[.pointer (some ⟨a.gt, 0, none⟩), .int .i64 p] w fun e w' => e = .returned (.bool (gdB t p)) ∧ w = w' := by
  have hi := Lib.hid (is_any w a t p h)
  obtain ⟨hb, hf, hg, hn0, hn1⟩ := h
  have c3 := hb.cell 3
  cases hp : inP t p
  · have hv := hi.out
    rw [hp] at hv
    have Hv := Lib.hid hv
    have e1 : gdB t p = false := by simp [gdB, hp]
    rw [e1]
    clear hv hp e1 hi
    go_enter Try.func23, Try.ntmps23
    go_wp2_with fail
    refine (Hv.out).mono ?_
    rintro e w' ⟨rfl, rfl⟩
    go_wp2_with fail
    go_ret
    exact ⟨rfl, rfl⟩
  · have hv := hi.out
    rw [hp] at hv
    have Hv := Lib.hid hv
    obtain ⟨k, rfl, hk⟩ := inP_at hp
    have c := hg.cell k hk
    have e1 : gdB t k = t.gd k := by simp [gdB, hp]
    rw [e1]
    clear hv hp e1 hi
    go_enter Try.func23, Try.ntmps23
    go_wp2_with fail
    refine (Hv.out).mono ?_
    rintro e w' ⟨rfl, rfl⟩
    go_wp2_with fail
    go_ret
    exact ⟨rfl, rfl⟩

def Ts.guard (t : Ts) (p : Int) (b : Bool) : Ts := if frB t p then t.setGd p.toNat b else t
theorem guard_any (w : World) (a : Ad) (t : Ts) (p : Int) (b : Bool) (h : Tab w a t) : Calls Try.prog 54 #[.pointer (some ⟨a.gt, 0, none⟩), .int .i64 p, .bool b] w fun e w' => e = .returned (.bool (frB t p)) ∧ Tab w' a (t.guard p b) ∧ Fr (· = a.gg) w w' := by
  have hi := Lib.hid (frame_any w a t p h)
  have h' := h
  obtain ⟨hb, hf, hg, hn0, hn1⟩ := h'
  have c3 := hb.cell 3
  cases hp : frB t p
  · have hv := hi.out
    rw [hp] at hv
    have Hv := Lib.hid hv
    have e1 : t.guard p b = t := by simp [Ts.guard, hp]
    rw [e1]
    clear hv hp e1 hi
    go_enter Try.func54, Try.ntmps54
    go_wp2_with fail
    refine (Hv.out).mono ?_
    rintro e w' ⟨rfl, rfl⟩
    go_wp2_with fail
    go_ret
    exact ⟨rfl, h, Fr.refl _ _⟩
  · have hv := hi.out
    rw [hp] at hv
    have Hv := Lib.hid hv
    have hin : inP t p = true := by simp [frB] at hp; exact hp.1
    have e1 : t.guard p b = t.setGd p.toNat b := by simp [Ts.guard, hp]
    rw [e1]
    obtain ⟨k, rfl, hk⟩ := inP_at hin
    have c := hg.cell k hk
    have z := Cells.frozen hg k
    have hs := Lib.hid (h.setGd k b)
    clear hv hp e1 hi hin
    go_enter Try.func54, Try.ntmps54
    go_wp2_with fail
    refine (Hv.out).mono ?_
    rintro e w' ⟨rfl, rfl⟩
    go_wp2_with fail
    go_ret
    exact ⟨rfl, hs.out, Fr.set1 _ _ _ _⟩
theorem Guard_any (w : World) (a : Ad) (t : Ts) (p : Int) (h : Tab w a t) : Calls Try.prog 24 #[.pointer (some ⟨a.gt, 0, none⟩), .int .i64 p] w fun e w' => e = .returned (.bool (frB t p)) ∧ Tab w' a (t.guard p true) ∧ Fr (· = a.gg) w w' := by
  have hi := Lib.hid (guard_any w a t p true h)
  go_enter Try.func24, Try.ntmps24
  go_wp2_with fail
  refine (hi.out).mono ?_
  rintro e w1 ⟨rfl, h1, f1⟩
  go_wp2_with fail
  go_ret
  exact ⟨rfl, h1, f1⟩
theorem Unguard_any (w : World) (a : Ad) (t : Ts) (p : Int) (h : Tab w a t) : Calls Try.prog 25 #[.pointer (some ⟨a.gt, 0, none⟩), .int .i64 p] w fun e w' => e = .returned (.bool (frB t p)) ∧ Tab w' a (t.guard p false) ∧ Fr (· = a.gg) w w' := by
  have hi := Lib.hid (guard_any w a t p false h)
  go_enter Try.func25, Try.ntmps25
  go_wp2_with fail
  refine (hi.out).mono ?_
  rintro e w1 ⟨rfl, h1, f1⟩
  go_wp2_with fail
  go_ret
  exact ⟨rfl, h1, f1⟩

/-- the pages that are mapped, below k -/
def mapN (t : Ts) (k : Nat) : List Int := ((List.range k).filter fun p => t.fr p != -1).map Int.ofNat
theorem mapN_le (t : Ts) (k : Nat) : (mapN t k).length ≤ k := by
  unfold mapN
  rw [List.length_map]
  exact Nat.le_trans (List.length_filter_le _ _) (by simp)
theorem mapN_yes (t : Ts) (k : Nat) (h : ¬ t.fr k = -1) : mapN t (k + 1) = mapN t k ++ [(k : Int)] := by
  unfold mapN
  rw [List.range_succ, List.filter_append]
  simp [h]
theorem mapN_no (t : Ts) (k : Nat) (h : t.fr k = -1) : mapN t (k + 1) = mapN t k := by
  unfold mapN
  rw [List.range_succ, List.filter_append]
  simp [h]
set_option maxRecDepth 100000 in
theorem mapped_any (w : World) (a : Ad) (t : Ts) (h : Tab w a t) (base : Nat) (hb : base ≤ w.heap.size) :
    Calls Try.prog 19 #[.pointer (some ⟨a.gt, 0, none⟩)] w (GivesI w base (mapN t t.n)) := by
  obtain ⟨i0, hi0, hz0, hz1, hz2⟩ := info_parts info64
  have c2 := h.1.cell 2
  obtain ⟨hn0, hn1⟩ := h.2.2.2
  go_enter Try.func19, Try.ntmps19
  go_wp2_with fail
  go_loopw [3, 11] (fun v i wr => ∃ k : Nat, k ≤ t.n ∧ i = .int .i64 k ∧ wr.ownsRow base 3 1 v (mapN t k).length (by64 (mapN t k)) ∧ Fr (fun _ => False) w wr ∧ (∀ b, v.ownBlock = some b → w.heap.size ≤ b)) (fun _ i _ => t.n - (intOf i).toNat)
  case atStart => exact ⟨0, by omega, rfl, ⟨rfl, .inl ⟨rfl, rfl⟩⟩, Fr.refl _ _, fun k hk => by simp [Value.ownBlock] at hk⟩
  case round =>
    obtain ⟨k, hk, rfl, hown, fr, hat⟩ := hrel
    by_cases hlt : k < t.n
    · have c := (h.fr fr (fun _ _ e => e)).2.1.cell k hlt
      have hle := mapN_le t k
      have hbs := Nat.le_trans hb fr.size
      by_cases ho : t.fr k = -1
      · have Hs := Lib.hid (mapN_no t k ho)
        rw [ho] at c
        clear ho
        generalize mapN t k = l at *
        go_wp2_with fail
        go_roundw
        case rel => exact ⟨k + 1, by omega, by go_num, by rw [Hs.out]; exact hown, fr, hat⟩
        case measure => simp [intOf]; omega
      · have Hs := Lib.hid (mapN_yes t k ho)
        have ho' : (t.fr k != -1) = true := by simpa using ho
        have hown' := own_alloc hown (.cells #[.int .i64 (k : Int)] 3)
        clear ho
        generalize mapN t k = l at *
        go_wp2_with
          (at_builtin
           refine wpList_append_any _ rfl (.tmp 18) (.tmp 20) _ rfl base 3 i0 _ 1 8 Try.underlying36 hi0 hz0 hz1 hz2 rfl (by omega) u3 l.length (by64 l) rfl hown' (wr.heap.size + 1) (some ⟨wr.heap.size, 0, none⟩) 1 1 [.int .i64 (k : Int)] rfl (reads_blk (Blk.new _ _ _) rfl) (by simp [Value.oneCell']) (by simp only [maxLen]; omega) (by omega) (by simp; omega) ?_
           intro v1 w1 hown1 hg1 hat1)
        go_roundw
        case rel =>
          refine ⟨k + 1, by omega, by go_num, ?_, (fr.alloc _).grown hg1 (fun q hq => .inr (hat q hq)), fun q hq => ?_⟩
          · rw [Hs.out]; simpa [by64] using hown1
          · rcases hat1 with e | e
            · exact hat q (by rw [← e]; exact hq)
            · rw [e] at hq
              have : wr.heap.size + 1 = q := by simpa using hq
              have := fr.size
              omega
        case measure => simp [intOf]; omega
    · have e : k = t.n := by omega
      subst e
      have hG : GivesI w base (mapN t t.n) (.returned u3) wr := ⟨_, rfl, hown, fr, hat⟩
      have HG := Lib.hid hG
      clear hG
      go_wp2_with fail
      go_ret
      exact HG.out
end Go.Proofs.Ytcfoogbjlokegaa.Nt
