/- The statements' own helpers on tables: tells. -/
import Derived.Test.YtcfoogbjlokegaaSame64
import Derived.Test.YtcfoogbjlokegaaTabInv
import Derived.Test.YtcfoogbjlokegaaNestedLaws
namespace Go.Proofs.Ytcfoogbjlokegaa.Nt
open Go.RowKit Fm
set_option linter.unusedVariables false
set_option maxHeartbeats 4000000

theorem mapN_wf (t : Ts) (k : Nat) (hk : k ≤ 64) : ∀ z ∈ mapN t k, (Lit.int .i64 z).wf = true := by
  intro z hz
  simp only [mapN, List.mem_map, List.mem_filter, List.mem_range] at hz
  obtain ⟨a, ⟨h1, _⟩, rfl⟩ := hz
  exact wf_i64_mk (n := Int.ofNat a) (by show -9223372036854775808 ≤ (a : Int); omega) (by show (a : Int) ≤ 9223372036854775807; omega)
/-- the pages before a place -/
def mapB (t : Ts) (p : Int) : List Int := mapN t (min p.toNat t.n)
theorem mapB_out {t : Ts} {p : Int} (h : p = -1 ∨ p = t.n) : mapB t (p + 1) = mapB t p := by
  unfold mapB
  rcases h with rfl | rfl
  · rfl
  · congr 1; omega
theorem mapB_no {t : Ts} {j : Nat} (hj : j < t.n) (h : t.fr j = -1) : mapB t ((j : Int) + 1) = mapB t j := by
  unfold mapB
  rw [show min ((j : Int) + 1).toNat t.n = j + 1 by omega, show min ((j : Int)).toNat t.n = j by omega, mapN_no t j h]
theorem mapB_yes {t : Ts} {j : Nat} (hj : j < t.n) (h : ¬ t.fr j = -1) : mapB t ((j : Int) + 1) = mapB t j ++ [(j : Int)] := by
  unfold mapB
  rw [show min ((j : Int) + 1).toNat t.n = j + 1 by omega, show min ((j : Int)).toNat t.n = j by omega, mapN_yes t j h]
theorem mapB_end {t : Ts} {p : Int} (h : p = (t.n : Int) + 1) : mapB t p = mapN t t.n := by
  unfold mapB
  congr 1; omega
theorem mapB_le (t : Ts) (p : Int) : (mapB t p).length ≤ t.n := Nat.le_trans (mapN_le t _) (by omega)
set_option maxRecDepth 100000 in
theorem tells_any (w : World) (a : Ad) (t : Ts) (ga gb : Nat) (h : Tab w a t) (hok : t.Ok) (hgd : ∀ k, k < t.n → t.gd k = true → ¬ t.fr k = -1)
    (hA : Cells w ga 3 t.n (fun i => .int .i64 (t.fr i))) (hB : Cells w gb 4 t.n (fun i => .bool (t.gd i))) :
    Calls Try.prog 29 #[.pointer (some ⟨a.gt, 0, none⟩), .slice (some ⟨ga, 0, none⟩) t.n t.n, .slice (some ⟨gb, 0, none⟩) t.n t.n] w fun e w' => e = .returned (.bool true) ∧ Fr (fun _ => False) w w' := by
  obtain ⟨i0, hi0, hz0, hz1, hz2⟩ := info_parts info64
  obtain ⟨hn0, hn1⟩ := h.2.2.2
  go_enter Try.func29, Try.ntmps29
  go_wp2_with fail
  go_loopw [7, 8, 9, 10, 11] (fun v i _ _ _ wr => ∃ p : Int, -1 ≤ p ∧ p ≤ t.n + 1 ∧ i = .int .i64 p ∧ wr.ownsRow 0 3 1 v (mapB t p).length (by64 (mapB t p)) ∧ Fr (fun _ => False) w wr ∧ (∀ b, v.ownBlock = some b → w.heap.size ≤ b)) (fun _ i _ _ _ _ => t.n + 2 - (intOf i + 1).toNat)
  case atStart => exact ⟨-1, by omega, by omega, rfl, ⟨rfl, .inl ⟨rfl, rfl⟩⟩, Fr.refl _ _, fun k hk => by simp [Value.ownBlock] at hk⟩
  case round =>
    obtain ⟨p, hp0, hp1, rfl, hown, fr, hat⟩ := hrel
    have hT := h.fr fr (fun _ _ e => e)
    have hle := mapB_le t p
    by_cases hx : p = t.n + 1
    · have hend := mapB_end hx
      rw [hend] at hown
      have hwf := mapN_wf t t.n hn1
      have hml := mapN_le t t.n
      have hmp := Lib.hid (mapped_any wr a t hT 0 (by omega))
      obtain ⟨A5, cap5, rfl⟩ := ownI_any hown
      have hI := Bk.own_ints hown hwf
      have HI := Lib.hid hI
      have HX := Lib.hid hx
      have hx2 : ¬ p ≤ (t.n : Int) := by omega
      clear hI hend hx hown
      go_wp2_with fail
      refine (hmp.out).mono ?_
      rintro e w2 ⟨v, rfl, ho2, f2, k2⟩
      obtain ⟨A6, cap6, rfl⟩ := ownI_any ho2
      have hI2 := Bk.own_ints ho2 hwf
      have hI1 := HI.out.fr f2 (Nat.le_refl _) (fun _ _ e => e)
      have hsm := Lib.hid (Bk.same64_eq w2 w2.heap.size wr.heap.size (mapN t t.n).length cap6 cap5 A6 A5 (mapN t t.n) hI2 (Nat.le_refl _) hI1 f2.size (by omega))
      clear hI1 hI2 ho2 k2
      go_wp2_with fail
      refine (hsm.out).mono ?_
      rintro e w3 ⟨rfl, f3⟩
      go_wp2_with fail
      go_ret
      exact ⟨rfl, (fr.tr f2).tr f3⟩
    · have hlt : p ≤ (t.n : Int) := by omega
      by_cases hin : inP t p = true
      · obtain ⟨j, rfl, hj⟩ := inP_at hin
        have cA := fr.cell (hA.cell j hj) hA.lt (fun e => e)
        have cB := fr.cell (hB.cell j hj) hB.lt (fun e => e)
        have hf := frame_any wr a t j hT
        have hg := guarded_any wr a t j hT
        have eg : gdB t j = t.gd j := by simp [gdB, hin]
        rw [eg] at hg
        by_cases hm : t.fr j = -1
        · have e1 : frB t j = false := by simp [frB_iff t hj, hm]
          have e2 : frV t j = 0 := by simp [frV, e1]
          have e3 : t.gd j = false := by
            cases hq : t.gd j
            · rfl
            · exact absurd hm (hgd j hj hq)
          rw [e1, e2] at hf
          rw [e3] at hg
          rw [hm] at cA
          have Hs := Lib.hid (mapB_no hj hm)
          have Hf := Lib.hid hf
          have Hg := Lib.hid hg
          clear hf hg e1 e2 e3 eg hm hin hx cB
          go_wp2_with fail
          refine (Hf.out).mono ?_
          rintro e w' ⟨rfl, rfl⟩
          go_wp2_with fail
          refine (Hg.out).mono ?_
          rintro e w' ⟨rfl, rfl⟩
          go_wp2_with fail
          go_roundw
          case rel => exact ⟨(j : Int) + 1, by omega, by omega, rfl, by rw [Hs.out]; exact hown, fr, hat⟩
          case measure => simp [intOf]; omega
        · have e1 : frB t j = true := by simp [frB_iff t hj, hm]
          have e2 : frV t j = t.fr j := frV_eq t e1
          rw [e1, e2] at hf
          have hpos : 0 ≤ t.fr j := by have := hok j hj; omega
          have Hs := Lib.hid (mapB_yes hj hm)
          have Hf := Lib.hid hf
          have Hg := Lib.hid hg
          clear hf hg e1 e2 eg hm hin hx
          have hown' := own_alloc hown (.cells #[.int .i64 (j : Int)] 3)
          have hbs : 0 ≤ wr.heap.size := by omega
          generalize t.fr j = fj at *
          generalize t.gd j = gj at *
          generalize mapB t j = l at *
          go_wp2_with fail
          refine (Hf.out).mono ?_
          rintro e w' ⟨rfl, rfl⟩
          go_wp2_with fail
          refine (Hg.out).mono ?_
          rintro e w' ⟨rfl, rfl⟩
          go_wp2_with
            (at_builtin
             refine wpList_append_any _ rfl (.tmp 75) (.tmp 77) _ rfl 0 3 i0 _ 1 8 Try.underlying36 hi0 hz0 hz1 hz2 rfl (by omega) u7 l.length (by64 l) rfl hown' (wr.heap.size + 1) (some ⟨wr.heap.size, 0, none⟩) 1 1 [.int .i64 (j : Int)] rfl (reads_blk (Blk.new _ _ _) rfl) (by simp [Value.oneCell']) (by simp only [maxLen]; omega) (by omega) (by simp) ?_
             intro v1 w1 hown1 hg1 hat1)
          go_roundw
          case rel =>
            refine ⟨(j : Int) + 1, by omega, by omega, rfl, ?_, (fr.alloc _).grown hg1 (fun q hq => .inr (hat q hq)), fun q hq => ?_⟩
            · rw [Hs.out]; simpa [by64] using hown1
            · rcases hat1 with e | e
              · exact hat q (by rw [← e]; exact hq)
              · rw [e] at hq
                have : wr.heap.size + 1 = q := by simpa using hq
                have := fr.size
                omega
          case measure => simp [intOf]; omega
      · have hin : inP t p = false := by simpa using hin
        have hout : p = -1 ∨ p = t.n := by
          have : ¬ (0 ≤ p ∧ p < t.n) := by simpa [inP] using hin
          omega
        have hf := frame_any wr a t p hT
        have hg := guarded_any wr a t p hT
        have e1 : frB t p = false := by simp [frB, hin]
        have e2 : frV t p = 0 := by simp [frV, e1]
        have e3 : gdB t p = false := by simp [gdB, hin]
        rw [e1, e2] at hf
        rw [e3] at hg
        have Hs := Lib.hid (mapB_out hout)
        have Hf := Lib.hid hf
        have Hg := Lib.hid hg
        clear hf hg e1 e2 e3 hin hx
        rcases hout with rfl | rfl
        all_goals
          go_wp2_with fail
          refine (Hf.out).mono ?_
          rintro e w' ⟨rfl, rfl⟩
          go_wp2_with fail
          refine (Hg.out).mono ?_
          rintro e w' ⟨rfl, rfl⟩
          go_wp2_with fail
          go_roundw
          case rel => exact ⟨_, by omega, by omega, rfl, by first | exact (congrArg (fun l : List Int => World.ownsRow wr 0 3 1 u7 l.length (by64 l)) Hs.out).mpr hown | (rw [Hs.out]; exact hown), fr, hat⟩
          case measure => first | (simp [intOf]; done) | (simp [intOf]; omega)
end Go.Proofs.Ytcfoogbjlokegaa.Nt
