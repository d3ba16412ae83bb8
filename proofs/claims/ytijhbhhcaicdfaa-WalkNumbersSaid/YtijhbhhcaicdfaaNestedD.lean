/- The second stage of paging, IV: Unmap. -/
import Derived.Test.YtijhbhhcaicdfaaNestedC
namespace Go.Proofs.Ytijhbhhcaicdfaa.Nt
open Go.RowKit Fm
set_option linter.unusedVariables false
set_option maxHeartbeats 4000000

/-- what holds of any table -/
def Ts.Ok (t : Ts) : Prop := ∀ k, k < t.n → -1 ≤ t.fr k ∧ t.fr k < 256
theorem frV_bd {t : Ts} (h : t.Ok) (p : Int) : -1 ≤ frV t p ∧ frV t p < 256 := by
  unfold frV
  split
  · rename_i hq
    have hin : inP t p = true := by simp [frB] at hq; exact hq.1
    obtain ⟨k, rfl, hk⟩ := inP_at hin
    exact h k hk
  · omega
def unmapE (t : Ts) (p : Int) : Int := if frB t p then 0 else 22
def unmapS (s : Pl) (t : Ts) (p : Int) : Pl := if frB t p then s.give t.o [frV t p] else s
def Ts.unmap (t : Ts) (p : Int) : Ts := if frB t p then (t.setFr p.toNat (-1)).setGd p.toNat false else t
set_option maxRecDepth 100000 in
theorem unmap_any (w : World) (a : Ad) (s : Pl) (t : Ts) (p : Int) (hP : Pool w a.gp s) (h : Tab w a t) (hok : t.Ok) :
    Calls Try.prog 27 #[.pointer (some ⟨a.gt, 0, none⟩), .int .i64 p] w fun e w' => e = .returned (.int .i64 (unmapE t p)) ∧ Pool w' a.gp (unmapS s t p) ∧ Tab w' a (t.unmap p) ∧ Fr (fun k => k = a.gp ∨ a.own k) w w' := by
  have hfr := Lib.hid (frame_any w a t p h)
  have hne := h.pool hP
  cases hq : frB t p
  · have hx := hfr.out
    rw [hq] at hx
    have Hx := Lib.hid hx
    have e1 : unmapE t p = 22 := by simp [unmapE, hq]
    have e2 : unmapS s t p = s := by simp [unmapS, hq]
    have e3 : t.unmap p = t := by simp [Ts.unmap, hq]
    rw [e1, e2, e3]
    clear hx hq e1 e2 e3 hfr
    go_enter Try.func27, Try.ntmps27
    go_wp2_with fail
    refine (Hx.out).mono ?_
    rintro e w' ⟨rfl, rfl⟩
    go_wp2_with fail
    go_ret
    exact ⟨rfl, hP, h, Fr.refl _ _⟩
  · have hx := hfr.out
    rw [hq] at hx
    have Hx := Lib.hid hx
    have hin : inP t p = true := by simp [frB] at hq; exact hq.1
    have e1 : unmapE t p = 0 := by simp [unmapE, hq]
    have e2 : unmapS s t p = s.give t.o [frV t p] := by simp [unmapS, hq]
    have e3 : t.unmap p = (t.setFr p.toNat (-1)).setGd p.toNat false := by simp [Ts.unmap, hq]
    rw [e1, e2, e3]
    obtain ⟨hv0, hv1⟩ := frV_bd hok p
    obtain ⟨k, rfl, hk⟩ := inP_at hin
    have h' := h
    obtain ⟨hb, hf, hg, hn0, hn1⟩ := h'
    have c2 := hb.cell 2
    have c3 := hb.cell 3
    have cf := hf.cell k hk
    have cg := hg.cell k hk
    have zf := Cells.frozen hf k
    have zg := Cells.frozen hg k
    have n1 := h.ne1
    have n2 := h.ne2
    have n3 := h.ne3
    have hs := Lib.hid ((h.setFr k (-1)).setGd k false)
    clear hx hq e1 e2 e3 hfr hin
    generalize frV t k = fv at *
    go_enter Try.func27, Try.ntmps27
    go_wp2_with fail
    refine (Hx.out).mono ?_
    rintro e w' ⟨rfl, rfl⟩
    go_wp2_with fail
    go_region
    go_wp2_with fail
    have hT2 := Tab.drew hs.out
    have hP2 : Pool (((w.setCell ⟨a.gf, k, none⟩ (.int .i64 (-1))).setCell ⟨a.gg, k, none⟩ (.bool false)).drew) a.gp s := Cells.far (Cells.far hP (p := ⟨a.gf, k, none⟩) (fun e => hne a.gf (.inr (.inl rfl)) e.symm) _) (p := ⟨a.gg, k, none⟩) (fun e => hne a.gg (.inr (.inr rfl)) e.symm) _
    have fr2 : Fr (fun k => k = a.gp ∨ a.own k) w (((w.setCell ⟨a.gf, k, none⟩ (.int .i64 (-1))).setCell ⟨a.gg, k, none⟩ (.bool false)).drew) := (((Fr.refl _ w).setCell (p := ⟨a.gf, k, none⟩) (.inl (.inr (.inr (.inl rfl)))) _).setCell (p := ⟨a.gg, k, none⟩) (.inl (.inr (.inr (.inr rfl)))) _).drew
    clear c2 c3 cf cg zf zg hs
    generalize ((w.setCell ⟨a.gf, k, none⟩ (.int .i64 (-1))).setCell ⟨a.gg, k, none⟩ (.bool false)).drew = w2 at *
    have c0 := hT2.1.cell 0
    have c1 := hT2.1.cell 1
    have hltp := hP2.lt
    have hltt := hT2.1.lt
    have hG := give_any (w2.alloc (.cells #[.int .i64 fv] 3)).drew a.gp s t.o (w2.heap.size + 1) 1 1 (some ⟨w2.heap.size, 0, none⟩) [fv] (Pool.drew (hP2.alloc _)) (intsAt_lit [fv] (Blk.drew (Blk.new _ _ _)) (fun i hi => by
      have : i = 0 := by simpa using hi
      subst this
      exact wf_i64_mk (n := fv) (by omega) (by omega))) (by simp) (fun _ b off e => by
      have : w2.heap.size = b := by simpa using congrArg (fun x => x.map Addr.block) e
      omega) (by simp [maxLen]) (by omega)
    have HG := Lib.hid hG
    clear hG
    go_region_with ((go_at_call 48; refine (HG.out).mono ?_; rintro e w3 ⟨rfl, hP3, f3⟩))
    all_goals
      have hT3 := Tab.fr (Tab.drew (hT2.alloc _)) f3 (fun k hk => hT2.pool hP2 k hk)
      have fr3 := ((Fr.alloc fr2 _).drew).tr (f3.mono (fun _ _ e => .inl e))
      go_wp2_with fail
      go_ret
      exact ⟨rfl, hP3, hT3, fr3⟩
end Go.Proofs.Ytijhbhhcaicdfaa.Nt
