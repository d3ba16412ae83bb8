/- NestedBack: the walk. -/
import Derived.Test.YtcfoogbjlokegaaTabInv
import Derived.Test.YtcfoogbjlokegaaNestedLaws
import Derived.Test.YtcfoogbjlokegaaBook
namespace Go.Proofs.Ytcfoogbjlokegaa.nestedBack
open Go.RowKit Fm Nt
set_option linter.unusedVariables false
set_option maxHeartbeats 4000000

theorem here_of {s : Pl} {o : Int} {f : Nat} {a : Int} (h1 : 16 ≤ f) (h2 : f < 256) (h3 : s.own f = o) (h4 : 0 ≤ o) (ha : 0 ≤ a) (ha2 : a < 64) : hereB s f a = true := by
  have e1 : ownB s f = true := by
    have : ¬ s.own f = -1 := by omega
    simp [ownB, isF, this]
    omega
  simp [hereB, e1]
  omega
/-- what a round comes to -/
def Facts (s : Pl) (t : Ts) (j k : Nat) (v : Int) (f f2 : Nat) (s2 s3 s4 s5 : Pl) (t2 t4 t5 : Ts) : Prop :=
  mapS s t j = s2 ∧ t.map s j = t2 ∧ s2.putB f k v = s3 ∧ unmapS s3 t2 j = s4 ∧ t2.unmap j = t4 ∧ mapS s4 t4 j = s5 ∧ t4.map s4 j = t5 ∧
  mapE s t j = 0 ∧ mapV s t j = f ∧ hereB s2 f k = true ∧ unmapE t2 j = 0 ∧ fN s4 256 = fN s3 256 + 1 ∧ mapE s4 t4 j = 0 ∧ mapV s4 t4 j = f2 ∧ hereB s5 f2 k = true ∧ bytV s5 f2 k = 0 ∧ fN s5 256 = fN s3 256 ∧
  TInv s2 t2 ∧ TInv s3 t2 ∧ TInv s4 t4 ∧ TInv s5 t5 ∧ t5.n = 20 ∧ t5.o = 3
theorem facts {s : Pl} {t : Ts} (h : TInv s t) (hn : t.n = 20) (ho : t.o = 3) {j k : Nat} (hj : j < 20) (hk : k < 30) (v : Int) : ∃ f f2 s2 s3 s4 s5 t2 t4 t5, Facts s t j k v f f2 s2 s3 s4 s5 t2 t4 t5 := by
  obtain ⟨f, e1, e2, f1, f2, e3, e4, e5, e6⟩ := h.mapped (k := j) (by omega)
  have i2 := h.map j
  have i3 := i2.putB f k v
  obtain ⟨f', g1, g2, g3, g4, g5, g6, g7⟩ := i3.unmapOld (k := j) (by rw [e5]; omega) (by rw [e3]; omega)
  have i4 := i3.unmap j
  have e9 : ((t.map s j).unmap j).fr j = -1 := by rw [g7]; show updI _ j (-1) j = -1; rw [updI_same]
  obtain ⟨un, uo⟩ := unmap_no (t.map s j) j
  have hlt4 : j < ((t.map s j).unmap j).n := by rw [un, e5]; omega
  obtain ⟨h2, a1, a2, a3, _, a4, a5, a6, a7⟩ := i4.mapNew hlt4 e9
  have i5 := i4.map j
  obtain ⟨mn, mo, _⟩ := map_no (unmapS ((mapS s t j).putB f k v) (t.map s j) j) ((t.map s j).unmap j) j
  have h5 : hereB (mapS (unmapS ((mapS s t j).putB f k v) (t.map s j) j) ((t.map s j).unmap j) j) h2 k = true := by
    rw [a6]
    refine here_of a1 a2 (o := ((t.map s j).unmap j).o) ?_ (by rw [uo, e6]; omega) (by omega) (by omega)
    show updI _ h2 _ h2 = _
    rw [updI_same]
  have n4 : fN (unmapS ((mapS s t j).putB f k v) (t.map s j) j) 256 = fN ((mapS s t j).putB f k v) 256 + 1 := by
    rw [g6]
    refine fN_back g2 g3 ?_
    rw [g4, e6]; omega
  have n5 := fN_take a1 a2 a3 (o := ((t.map s j).unmap j).o) (by rw [uo, e6]; omega)
  rw [← a6] at n5
  refine ⟨f, h2, _, _, _, _, _, _, _, rfl, rfl, rfl, rfl, rfl, rfl, rfl, e1, e2, ?_, g5, n4, a4, a5, h5, ?_, by omega, i2, i3, i4, i5, ?_, ?_⟩
  · exact here_of f1 f2 e4 (by rw [ho]; omega) (by omega) (by omega)
  · rw [bytV, if_pos h5, a6]
    show (if h2 * 64 ≤ (h2 : Int).toNat * 64 + (k : Int).toNat ∧ (h2 : Int).toNat * 64 + (k : Int).toNat < h2 * 64 + 64 then 0 else _) = (0 : Int)
    rw [if_pos (by omega)]
  · rw [mn, un, e5, hn]
  · rw [mo, uo, e6, ho]
def St (w : World) (a : Ad) (s : Pl) (t : Ts) : Prop := Pool w a.gp s ∧ Tab w a t ∧ TInv s t ∧ t.n = 20 ∧ t.o = 3
set_option maxRecDepth 100000 in
theorem walk (w : World) (A : Option Addr) (len cap : Nat) (zs : List Int) (hz : IntsAt .i64 w w.heap.size A len zs) (hm : len ≤ maxLen) (v : Int) (hv : (Lit.int .u8 v).wf = true) :
    Calls Try.prog 7 #[.slice A len cap, .int .u8 v] w fun e w' => e = .returned (.bool true) ∧ Fr (fun _ => False) w w' := by
  unfold maxLen at hm
  have hfr := Lib.hid (fresh_any w 3 20 (by omega) (by omega) (by omega) (by omega))
  go_enter Try.func7, Try.ntmps7
  go_wp2_with fail
  refine (hfr.out).mono ?_
  rintro e w1 ⟨a, rfl, hT, hP, hbl, f1⟩
  have hS : ∃ s t, St w1 a s t := ⟨_, _, hP, hT, TInv.new (by omega) (by omega) (by omega) (by omega) PInv.new rfl (promR_new (by omega) (by omega) (by omega)), rfl, rfl⟩
  have Hbl := Lib.hid hbl
  clear hT hP hbl hfr
  go_wp2_with fail
  go_loopw [7] (fun i wr => ∃ k : Nat, k ≤ len ∧ i = .int .i64 k ∧ (∃ s t, St wr a s t) ∧ Fr (fun _ => False) w wr) (fun i _ => len - (intOf i).toNat)
  case atStart => exact ⟨0, Nat.zero_le _, rfl, hS, f1⟩
  case round =>
    clear hS f1
    obtain ⟨k, hk, rfl, ⟨s, t, hP, hT, hI, hn, ho⟩, fr⟩ := hrel
    by_cases hlt : k < len ∧ k < 30
    · obtain ⟨h1, h2⟩ := hlt
      obtain ⟨b, off, rfl, hb, hc⟩ := (hz.fr fr (Nat.le_refl _) (fun _ _ e => e)).at_ h1
      have hbd := wf_i64 (hz.2.1 k h1)
      generalize zs.getD k 0 = x at *
      have hw := Lib.hid (Bk.within_any wr x 0 19 hbd.1 hbd.2 (by omega) (by omega) (by omega))
      have hq0 := Int.emod_nonneg x (show (19 - 0 + 1 : Int) ≠ 0 by omega)
      have hq1 := Int.emod_lt_of_pos x (show (0 : Int) < 19 - 0 + 1 by omega)
      obtain ⟨j, hj⟩ : ∃ j : Nat, (0 : Int) + x % (19 - 0 + 1) = j := ⟨(x % (19 - 0 + 1)).toNat, by omega⟩
      have hj20 : j < 20 := by omega
      rw [hj] at hw
      obtain ⟨f, g, s2, s3, s4, s5, t2, t4, t5, c1, c2, c3, c4, c5, c6, c7, d1, d2, d3, d4, d5, d6, d7, d8, d9, d10, i2, i3, i4, i5, n5, o5⟩ := facts hI hn ho hj20 h2 v
      have g1 := Hbl.out a.gp (.inr rfl)
      have g2 := fun k hk => Hbl.out k (.inl hk)
      have G2 := Lib.hid g2
      have hmap := map_any wr a s t j hP hT hI.pi.ok
      rw [d1, d2, c1, c2] at hmap
      have Hmap := Lib.hid hmap
      have hput := fun W (h : Pool W a.gp s2) => put_any W a.gp s2 f k v h
      rw [d3, c3] at hput
      have Hput := Lib.hid hput
      have hfree := fun W s (h : Pool W a.gp s) => free_any W a.gp s h
      simp only [freeN_eq] at hfree
      have Hfree := Lib.hid hfree
      have hun := fun W (h1 : Pool W a.gp s3) (h2 : Tab W a t2) => unmap_any W a s3 t2 j h1 h2 i3.tok
      rw [d4, c4, c5] at hun
      have Hun := Lib.hid hun
      have hmap2 := fun W (h1 : Pool W a.gp s4) (h2 : Tab W a t4) => map_any W a s4 t4 j h1 h2 i4.pi.ok
      rw [d6, d7, c6, c7] at hmap2
      have Hmap2 := Lib.hid hmap2
      have hbyt := fun W (h : Pool W a.gp s5) => byte_any W a.gp s5 g k h
      rw [d8, d9] at hbyt
      have Hbyt := Lib.hid hbyt
      have D5 := Lib.hid d5
      have D10 := Lib.hid d10
      have hle := cnt_le (fun f => decide (16 ≤ f) && s3.own f == -1) 256
      have hle : fN s3 256 ≤ 256 := hle
      have I5 := Lib.hid (show t5.n = 20 ∧ t5.o = 3 from ⟨n5, o5⟩)
      clear d1 d2 d3 d4 d5 d6 d7 d8 d9 d10 c1 c2 c3 c4 c5 c6 c7 hmap hput hfree hun hmap2 hbyt n5 o5 g2 hj hq0 hq1 hn ho
      go_wp2_with fail
      refine (hw.out).mono ?_
      rintro e w' ⟨rfl, rfl⟩
      go_wp2_with fail
      refine (Hmap.out).mono ?_
      rintro e w2 ⟨rfl, hP2, hT2, f2⟩
      have fr2 := fr.trans (S := fun _ => False) f2 (fun i hi e => by
          rcases e with e | e
          · omega
          · have := G2.out a.gf (.inr (.inl rfl)); omega)
      go_wp2_with fail
      refine (Hput.out _ hP2).mono ?_
      rintro e w3 ⟨rfl, hP3, f3⟩
      have hT3 := hT2.fr f3 (fun k hk e => hT2.pool hP2 k hk e)
      have fr3 := fr2.trans (S := fun _ => False) f3 (fun i hi e => by omega)
      go_wp2_with fail
      refine (Hfree.out _ _ hP3).mono ?_
      rintro e w' ⟨rfl, rfl⟩
      go_wp2_with fail
      refine (Hun.out _ hP3 hT3).mono ?_
      rintro e w4 ⟨rfl, hP4, hT4, f4⟩
      have fr4 := fr3.trans (S := fun _ => False) f4 (fun i hi e => by
          rcases e with e | e
          · omega
          · have := G2.out i e; omega)
      have hF4 := Hfree.out _ _ hP4
      rw [D5.out] at hF4
      have HF4 := Lib.hid hF4
      clear hF4
      go_wp2_with fail
      refine (HF4.out).mono ?_
      rintro e w' ⟨rfl, rfl⟩
      go_wp2_with fail
      refine (Hmap2.out _ hP4 hT4).mono ?_
      rintro e w5 ⟨rfl, hP5, hT5, f5⟩
      have fr5 := fr4.trans (S := fun _ => False) f5 (fun i hi e => by
          rcases e with e | e
          · omega
          · have := G2.out a.gf (.inr (.inl rfl)); omega)
      have hF5 := Hfree.out _ _ hP5
      rw [D10.out] at hF5
      have HF5 := Lib.hid hF5
      clear hF5
      go_wp2_with fail
      refine (Hbyt.out _ hP5).mono ?_
      rintro e w' ⟨rfl, rfl⟩
      go_wp2_with fail
      refine (HF5.out).mono ?_
      rintro e w' ⟨rfl, rfl⟩
      go_wp2_with fail
      go_roundw
      case rel => exact ⟨k + 1, by omega, by go_num, ⟨s5, t5, hP5, hT5, i5, I5.out⟩, fr5⟩
      case measure => simp [intOf]; omega
    · have hh := held_len_eq (s := s) (o := 3) rfl
      have hc := hI.cn
      rw [ho] at hc
      rw [hc, ← mapN_len] at hh
      have Hh := Lib.hid hh
      have hhd := Lib.hid (held_any wr a.gp s 3 hP 0 (by omega))
      have hml := mapN_le t t.n
      clear hh hc ho hn
      go_wp2_with fail
      all_goals
        refine (hhd.out).mono ?_
        rintro e w2 ⟨v2, rfl, ho2, f2, k2⟩
        have hmp := Lib.hid (mapped_any w2 a t (hT.fr f2 (fun _ _ e => e)) 0 (by omega))
        obtain ⟨A2, cap2, rfl⟩ := ownI_any ho2
        rw [Hh.out] at ho2
        rw [Hh.out]
        clear ho2 k2
        go_wp2_with fail
        refine (hmp.out).mono ?_
        rintro e w3 ⟨v3, rfl, ho3, f3, k3⟩
        obtain ⟨A3, cap3, rfl⟩ := ownI_any ho3
        clear ho3 k3
        generalize (mapN t t.n).length = ml at *
        go_wp2_with fail
        refine (known_any _).mono ?_
        rintro e w6 ⟨rfl, f6⟩
        go_wp2_with fail
        go_ret
        exact ⟨rfl, ((fr.tr f2).tr f3).tr f6⟩
end Go.Proofs.Ytcfoogbjlokegaa.nestedBack
