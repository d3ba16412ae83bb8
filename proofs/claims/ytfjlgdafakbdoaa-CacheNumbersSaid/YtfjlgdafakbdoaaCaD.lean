/- Translations that are kept: no link leads from or to a block (unlink). -/
import Derived.Test.YtfjlgdafakbdoaaCaC
import Derived.Deep.RegionLaw
namespace Go.Proofs.Ytfjlgdafakbdoaa.Ca
open Go.RowKit Mz Go.Maps
set_option linter.unusedVariables false
set_option linter.unusedSimpArgs false
set_option maxHeartbeats 4000000

def strip (k : Ky) (l : Lr) : Lr := ⟨l.ks.filter (fun x => !decide (x = k)), l.A, l.c⟩
theorem kept_map (l : List Ky) (q : Ky → Bool) : (kept (fun t => !q (nthK l t)) l.length).map (nthK l) = l.filter q := by
  have e : (List.range l.length).map (nthK l) = l := by
    apply List.ext_getElem
    · simp
    · intro i h1 h2
      simp [nthK_at h2]
  unfold kept
  have : (fun t => !!q (nthK l t)) = q ∘ nthK l := by funext t; simp
  rw [this, ← List.filter_map, e]
theorem unlink1 (w : World) (gk : Nat) (k : Ky) (h0 : w.cell? ⟨gk, 0, none⟩ = some (.int .u32 k.1)) (h1 : w.cell? ⟨gk, 1, none⟩ = some (.int .u32 k.2)) (hl : gk < w.heap.size) (b : Ky) :
    Calls Try.prog 42 #[.agg #[.int .u32 b.1, .int .u32 b.2], .pointer (some ⟨gk, 0, none⟩)] w fun e w' => e = .returned (.bool (decide (b = k))) ∧ Fr (fun _ => False) w w' := by
  have hd : decide (b = k) = (b.1 == k.1 && b.2 == k.2) := by
    obtain ⟨a, c⟩ := k
    obtain ⟨a', c'⟩ := b
    by_cases h1 : a' = a <;> by_cases h2 : c' = c <;> simp [h1, h2]
  rw [hd]
  go_enter Try.func42, Try.ntmps42
  go_wp2_with fail
  all_goals
    go_ret
    exact ⟨by simp [*], (Fr.refl _ w).alloc _⟩
/-- slices.DeleteFunc of links, of those that lead to a key -/
theorem strip_any (w : World) (l : Lr) (hl : LrOk w l) (hn : l.ks.length ≤ 1000000) (gb : Nat) (k : Ky) (hb : Blk w gb 31 #[.int .u32 k.1, .int .u32 k.2]) (hne : ab l.A ≠ some gb) :
    Calls Try.prog 41 #[.slice l.A l.ks.length l.c, .func (.func 42) #[] #[.pointer (some ⟨gb, 0, none⟩)]] w fun e w' => e = .returned (.slice l.A (strip k l).ks.length l.c) ∧ LrOk w' (strip k l) ∧ Fr (fun q => ab l.A = some q) w w' := by
  rcases hl with ⟨h1, h2, h3⟩ | ⟨gk, e, h1, h2⟩
  · have hs : strip k l = l := by
      obtain ⟨ks, A, c⟩ := l
      simp only at h1
      subst h1
      rfl
    rw [hs, h1, h2, h3]
    have Hi := Lib.hid (index_k w none 0 0 (by omega) (fun _ => (0, 0)) 42 #[.pointer (some ⟨gb, 0, none⟩)] (fun args W => by rfl) (fun q W => w = W) (fun _ => false) rfl (fun q W _ q' hq => absurd hq (by omega)) (fun q W hq => absurd hq (by omega)))
    go_enter Try.func41, Try.ntmps41
    go_wp2_with fail
    refine (Hi.out).mono ?_
    rintro e w' (⟨m, hm, _⟩ | ⟨rfl, _, rfl⟩)
    · omega
    · go_wp2_with fail
      go_ret
      exact ⟨rfl, .inl ⟨h1, h2, h3⟩, Fr.refl _ _⟩
  · have hgb : gk ≠ gb := fun e2 => hne (by rw [e, e2]; rfl)
    have Hd := delete_k w gk l.ks.length l.c (nthK l.ks) h1 (by omega) h2 42 #[.pointer (some ⟨gb, 0, none⟩)] (fun args W => by rfl) (fun _ => False) ⟨fun e => e, fun _ e => e.elim⟩ (fun q W => Fr (· = gk) w W) (fun q => decide (nthK l.ks q = k)) (Fr.refl _ _) (fun q W W' h f => h.tr f)
      (fun q W hq h => by
        have b2 := hb.fr h (fun e => hgb e.symm)
        exact (unlink1 W gb k (b2.cell 0) (b2.cell 1) b2.lt (nthK l.ks q)).mono fun e w' ⟨g1, g2⟩ => ⟨g1, h.tr (g2.mono (fun _ _ e => e.elim)), g2⟩)
    rw [e]
    refine Hd.mono ?_
    rintro e2 w' ⟨g1, g2, g3⟩
    have hk := kept_map l.ks (fun x => !decide (x = k))
    simp only [Bool.not_not] at hk
    have hlen : (kept (fun q => decide (nthK l.ks q = k)) l.ks.length).length = (strip k l).ks.length := by
      show _ = (l.ks.filter _).length
      rw [← hk, List.length_map]
    refine ⟨by rw [g1, hlen], .inr ⟨gk, e, ?_, h2⟩, g2.mono (fun q _ e => by rw [e]; rfl)⟩
    rw [hlen] at g3
    obtain ⟨F, q1, q2, q3⟩ := g3
    refine ⟨F, q1, q2, fun q hq c hc => ?_⟩
    rw [q3 q hq c hc]
    congr 1
    show nthK l.ks _ = nthK (l.ks.filter _) q
    rw [← hk]
    unfold nthK
    rw [List.getD_eq_getElem?_getD (l := List.map _ _), List.getElem?_map]
    have hq2 : q < (kept (fun q => decide (nthK l.ks q = k)) l.ks.length).length := by rw [hlen]; exact hq
    unfold nthK at hq2
    rw [List.getD_eq_getElem?_getD (l := kept _ _), List.getElem?_eq_getElem hq2]
    rfl
end Go.Proofs.Ytfjlgdafakbdoaa.Ca
