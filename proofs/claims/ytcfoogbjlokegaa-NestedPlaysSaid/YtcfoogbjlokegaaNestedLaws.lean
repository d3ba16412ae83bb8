/- The statements' own helpers on tables (innkeeperlaw6): fresh, known. -/
import Derived.Test.YtcfoogbjlokegaaNestedF
namespace Go.Proofs.Ytcfoogbjlokegaa.Nt
open Go.RowKit Fm
set_option linter.unusedVariables false
set_option maxHeartbeats 4000000

theorem sum_new : sumP Pl.new 4 = 0 := by decide
theorem promR_new {o : Int} {n : Nat} (h0 : 0 ≤ o) (h1 : o < 4) (hn : n ≤ 64) : promR Pl.new o n = 0 := by
  unfold promR
  rw [sum_new]
  have hb : isO o = true := by simp [isO, h0, h1]
  rw [if_neg (by rw [hb]; simp; omega), if_neg (by simp [Pl.new]), if_neg (by omega)]
def FreshP (w : World) (o : Int) (n : Nat) (e : Ending) (w' : World) : Prop :=
  ∃ a : Ad, e = .returned (.tuple #[.pointer (some ⟨a.gp, 0, none⟩), .pointer (some ⟨a.gt, 0, none⟩)]) ∧ Tab w' a (Ts.new n o) ∧ Pool w' a.gp (Pl.new.promise o n) ∧ (∀ k, a.own k ∨ k = a.gp → w.heap.size ≤ k) ∧ Fr (fun _ => False) w w'
set_option maxRecDepth 100000 in
theorem fresh_any (w : World) (o : Int) (n : Nat) (h0 : 0 ≤ o) (h1 : o < 4) (hn0 : 1 ≤ n) (hn1 : n ≤ 64) :
    Calls Try.prog 22 #[.int .i64 o, .int .i64 n] w (FreshP w o n) := by
  go_enter Try.func22, Try.ntmps22
  go_wp2_with fail
  refine (Fm.new_any w).mono ?_
  rintro e w1 ⟨rfl, hP, f1⟩
  go_wp2_with fail
  refine (new_yes w1 w.heap.size Pl.new o n hP new_ok h0 h1 hn0 hn1 (promR_new h0 h1 hn1)).mono ?_
  rintro e w2 ⟨a, rfl, ha, hT, hP2, hbl, f2⟩
  have hF : FreshP w o n (.returned (.tuple #[.pointer (some ⟨w.heap.size, 0, none⟩), .pointer (some ⟨a.gt, 0, none⟩)])) w2 := by
    refine ⟨a, by rw [ha], hT, by rw [ha]; exact hP2, fun k hk => ?_, f1.trans f2 (fun i hi e => by omega)⟩
    rcases hk with hk | hk
    · exact Nat.le_trans f1.size (hbl k hk)
    · omega
  have HF := Lib.hid hF
  clear hF ha
  go_wp2_with fail
  go_ret2
  exact HF.out

def sK : Pl := Pl.new.promise 0 8
def tK : Ts := Ts.new 8 0
def sK2 : Pl := mapS sK tK 3
def tK2 : Ts := tK.map sK 3
theorem kV : mapV sK tK 3 = 16 := by decide +kernel
theorem kE : mapE sK tK 3 = 0 := by decide +kernel
theorem kF : frV tK2 3 = 16 := by decide +kernel
theorem kB : frB tK2 3 = true := by decide +kernel
theorem kE2 : mapE sK2 tK2 64 = 22 := by decide +kernel
set_option maxRecDepth 100000 in
theorem known_any (w : World) : Calls Try.prog 21 #[] w fun e w' => e = .returned (.bool true) ∧ Fr (fun _ => False) w w' := by
  have hfr := Lib.hid (fresh_any w 0 8 (by omega) (by omega) (by omega) (by omega))
  have hok : sK.Ok := promise_ok new_ok 0 8
  have hok2 : sK2.Ok := by
    unfold sK2 mapS
    split
    · exact take_ok hok _
    · exact hok
  go_enter Try.func21, Try.ntmps21
  go_wp2_with fail
  refine (hfr.out).mono ?_
  rintro e w1 ⟨a, rfl, hT, hP, hbl, f1⟩
  have hm := map_any w1 a sK tK 3 hP hT hok
  rw [kV, kE] at hm
  have Hm := Lib.hid hm
  clear hm
  have b1 := hbl a.gp (.inr rfl)
  have b2 := hbl a.gf (.inl (.inr (.inl rfl)))
  go_wp2_with fail
  refine (Hm.out).mono ?_
  rintro e w2 ⟨rfl, hP2, hT2, f2⟩
  have hf := frame_any w2 a tK2 3 hT2
  rw [kF, kB] at hf
  have Hf := Lib.hid hf
  have hm := map_any w2 a sK2 tK2 64 hP2 hT2 hok2
  rw [kE2] at hm
  have Hm2 := Lib.hid hm
  clear hm hf
  have fr2 := f1.trans (S := fun _ => False) f2 (fun i hi e => by omega)
  go_wp2_with fail
  refine (Hf.out).mono ?_
  rintro e w' ⟨rfl, rfl⟩
  go_wp2_with fail
  refine (Hm2.out).mono ?_
  rintro e w3 ⟨rfl, hP3, hT3, f3⟩
  have fr3 := fr2.trans (S := fun _ => False) f3 (fun i hi e => by omega)
  have hn : ((tK2.map sK2 64).n : Int) = 8 := by decide +kernel
  have hpg := pages_any w3 a _ hT3
  rw [hn] at hpg
  have Hpg := Lib.hid hpg
  clear hpg hn
  go_wp2_with fail
  refine (Hpg.out).mono ?_
  rintro e w' ⟨rfl, rfl⟩
  go_wp2_with fail
  go_ret
  exact ⟨rfl, fr3⟩
end Go.Proofs.Ytcfoogbjlokegaa.Nt
