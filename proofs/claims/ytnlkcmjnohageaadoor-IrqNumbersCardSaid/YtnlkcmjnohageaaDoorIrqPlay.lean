/- irq: play, the statements' own driver. -/
import Derived.Test.YtnlkcmjnohageaaDoorIrqSame
import Derived.Deep.DeepCutAuto
namespace Go.Proofs.YtnlkcmjnohageaaDoor.Iq
open Go.RowKit
set_option linter.unusedVariables false

def AskAt (w : World) (B b o : Nat) (kd bt : Int) (A2 : Option Addr) (l2 c2 : Nat) (zs : List Int) : Prop :=
  w.cell? ⟨b, o, none⟩ = some (.int .i64 kd) ∧ w.cell? ⟨b, o + 1, none⟩ = some (.slice A2 l2 c2) ∧ w.cell? ⟨b, o + 2, none⟩ = some (.int .u32 bt) ∧ IntsAt .i64 w B A2 l2 zs ∧ l2 ≤ maxLen ∧ l2 ≤ c2 ∧ 0 ≤ bt ∧ bt ≤ 4294967295
def AsksAt (w : World) (B : Nat) (A : Option Addr) (n : Nat) : Prop :=
  0 < n → ∃ b off, A = some ⟨b, off, none⟩ ∧ b < B ∧ ∀ i, i < n → ∃ kd bt A2 l2 c2 zs, AskAt w B b (off + i * 3) kd bt A2 l2 c2 zs
theorem AskAt.fr {w w' : World} {B b o : Nat} {kd bt : Int} {A2 : Option Addr} {l2 c2 : Nat} {zs : List Int} {S : Nat → Prop} (h : AskAt w B b o kd bt A2 l2 c2 zs) (f : Fr S w w') (hb : b < B) (hB : B ≤ w.heap.size) (hs : ∀ i, i < B → ¬ S i) : AskAt w' B b o kd bt A2 l2 c2 zs := by
  obtain ⟨h1, h2, h3, h4, h5⟩ := h
  exact ⟨f.cell h1 (Nat.lt_of_lt_of_le hb hB) (hs b hb), f.cell h2 (Nat.lt_of_lt_of_le hb hB) (hs b hb), f.cell h3 (Nat.lt_of_lt_of_le hb hB) (hs b hb), h4.fr f hB hs, h5⟩
theorem AsksAt.fr {w w' : World} {B n : Nat} {A : Option Addr} {S : Nat → Prop} (h : AsksAt w B A n) (f : Fr S w w') (hB : B ≤ w.heap.size) (hs : ∀ i, i < B → ¬ S i) : AsksAt w' B A n := fun hn => by
  obtain ⟨b, off, e, hb, hc⟩ := h hn
  refine ⟨b, off, e, hb, fun i hi => ?_⟩
  obtain ⟨kd, bt, A2, l2, c2, zs, ha⟩ := hc i hi
  exact ⟨kd, bt, A2, l2, c2, zs, ha.fr f hb hB hs⟩
theorem AsksAt.at_ {w : World} {B n i : Nat} {A : Option Addr} (h : AsksAt w B A n) (hi : i < n) : ∃ b off, A = some ⟨b, off, none⟩ ∧ b < B ∧ ∃ kd bt A2 l2 c2 zs, AskAt w B b (off + i * 3) kd bt A2 l2 c2 zs := by
  obtain ⟨b, off, e, hb, hc⟩ := h (by omega)
  exact ⟨b, off, e, hb, hc i hi⟩

/-- what play reckons of a list of lines -/
def orIn (zs : List Int) : Nat := zs.foldl (fun a z => if 0 ≤ z ∧ z < 8 then a ||| 2 ^ z.toNat else a) 0
theorem orIn_snoc_in (zs : List Int) (z : Int) (h : 0 ≤ z ∧ z < 8) : orIn (zs ++ [z]) = orIn zs ||| 2 ^ z.toNat := by simp [orIn, h]
theorem orIn_snoc_out (zs : List Int) (z : Int) (h : ¬ (0 ≤ z ∧ z < 8)) : orIn (zs ++ [z]) = orIn zs := by
  unfold orIn
  rw [List.foldl_append]
  simp only [List.foldl_cons, List.foldl_nil]
  rw [if_neg h]
theorem orIn_lt (zs : List Int) : orIn zs < 256 := by
  have : ∀ (l : List Int) (a : Nat), a < 256 → l.foldl (fun a z => if 0 ≤ z ∧ z < 8 then a ||| 2 ^ z.toNat else a) a < 256 := by
    intro l
    induction l with
    | nil => intro a ha; simpa using ha
    | cons z r ih =>
      intro a ha
      refine ih _ ?_
      show (if 0 ≤ z ∧ z < 8 then a ||| 2 ^ z.toNat else a) < 256
      split
      · rename_i h1
        have h2 : 2 ^ z.toNat < 2 ^ 8 := Nat.pow_lt_pow_right (by omega) (by omega)
        exact Nat.or_lt_two_pow (n := 8) ha h2
      · exact ha
  exact this zs 0 (by omega)
theorem orIn_eq (zs : List Int) (h : okAll zs = true) : orIn zs = orAll zs := by
  have : ∀ (l : List Int) (a : Nat), (∀ z ∈ l, 0 ≤ z ∧ z < 8) → l.foldl (fun a z => if 0 ≤ z ∧ z < 8 then a ||| 2 ^ z.toNat else a) a = l.foldl (fun a z => a ||| 2 ^ z.toNat) a := by
    intro l
    induction l with
    | nil => intro a _; rfl
    | cons z r ih =>
      intro a hz
      simp only [List.foldl_cons]
      rw [if_pos (hz z (by simp))]
      exact ih _ (fun y hy => hz y (by simp [hy]))
  refine this zs 0 ?_
  simpa [okAll] using h

set_option maxRecDepth 100000 in
set_option maxHeartbeats 4000000 in
theorem play_any (w : World) (hT : Tab w) (A : Option Addr) (len cap : Nat) (hl : AsksAt w w.heap.size A len) (hm : len ≤ maxLen) :
    Calls Tryd.prog 15 #[.slice A len cap] w fun e w' => e = .returned (.bool true) ∧ Fr (fun _ => False) w w' := by
  unfold maxLen at hm
  have hz := hT.1
  go_enter Tryd.func15, Tryd.ntmps15
  go_wp2_with fail
  refine (new_any _).mono ?_
  rintro e w1 ⟨rfl, b1, f1⟩
  go_wp2_with fail
  go_loopw [4, 5, 6] (fun pe ma i wr => ∃ k p m : Nat, k ≤ len ∧ i = .int .i64 k ∧ pe = .int .u32 (p : Int) ∧ ma = .int .u32 (m : Int) ∧ p < 256 ∧ m < 256 ∧ Ctl wr w.heap.size p m ∧ Fr (fun _ => False) w wr) (fun _ _ i _ => len - (intOf i).toNat)
  case atStart => exact ⟨0, 0, 0, Nat.zero_le _, rfl, rfl, rfl, by omega, by omega, b1, f1⟩
  case round =>
    obtain ⟨k, p, m, hk, rfl, rfl, rfl, hp, hm8, br, fr⟩ := hrel
    obtain ⟨wo, rfl⟩ : ∃ wo : World, wo = wr := ⟨_, rfl⟩
    by_cases hlt : k < len ∧ k < 60
    · obtain ⟨h1, h2⟩ := hlt
      obtain ⟨b, off, rfl, hb, kd, bt, A2, l2, c2, zs, ha⟩ := (hl.fr fr (Nat.le_refl _) (fun _ _ e => e)).at_ h1
      obtain ⟨c0, c1, c2', hin, hl2, hl3, hbt0, hbt1⟩ := ha
      have hd1 : decide ((k : Int) < 60) = true := by simp; omega
      have hd2 : decide (k < len) = true := by simp; omega
      by_cases hk1 : kd = 1
      · subst hk1
        go_upto_if 37 with (fail)
        go_cut [8] (fun c8 wx => ∃ n, c8 = .slice A2 n c2 ∧ n ≤ 12 ∧ n ≤ l2 ∧ wx = wo.alloc (Obj.cells #[Value.int IntKind.i64 1, Value.slice A2 l2 c2, Value.int IntKind.u32 bt] 38))
        case first =>
          go_wp2_with fail
          all_goals
            go_meet
            first
            | exact ⟨12, rfl, by omega, by omega, rfl⟩
            | exact ⟨l2, rfl, by omega, by omega, rfl⟩
        case rest =>
          obtain ⟨n, rfl, hn12, hnl, rfl⟩ := hcut
          have f1 := (Fr.refl (fun _ => False) wo).alloc (Obj.cells #[Value.int IntKind.i64 1, Value.slice A2 l2 c2, Value.int IntKind.u32 bt] 38)
          have hin1 := hin.fr f1 (fr.size) (fun _ _ e => e)
          have Hlen := Lib.hid hin.1
          go_wp2_with fail
          go_loop [9, 10, 11] (fun ok bi i => ∃ j : Nat, j ≤ n ∧ i = .int .i64 j ∧ ok = .bool (okAll (zs.take j)) ∧ bi = .int .u32 (orIn (zs.take j) : Int)) (fun _ _ i => n - (intOf i).toNat)
          case atStart => exact ⟨0, by omega, rfl, rfl, rfl⟩
          case round =>
            obtain ⟨j, hj, rfl, rfl, rfl⟩ := hrel
            have hor := orIn_lt (zs.take j)
            by_cases hlt : j < n
            · obtain ⟨bb, oo, rfl, hbb, hcc⟩ := hin1.at_ (show j < l2 by omega)
              obtain ⟨hz0, hz1⟩ := wf_i64 (hin1.2.1 j (by omega))
              have htk := take_snoc (zs := zs) (k := j) (by rw [Hlen.out]; omega)
              have hs := okAll_snoc (zs.take j) (zs.getD j 0)
              rw [← htk] at hs
              have Hs := Lib.hid hs
              have Htk := Lib.hid htk
              clear hs htk
              generalize zs.getD j 0 = z at *
              by_cases hzz : 0 ≤ z ∧ z < 8
              · have hbo : bits .or .u32 (orIn (zs.take j) : Int) ((2 : Int) ^ z.toNat % 4294967296) = (orIn (zs.take (j + 1)) : Int) := by
                  rw [pw_of _ (show z.toNat < 8 by omega), Htk.out, orIn_snoc_in _ _ hzz]
                  exact u32_or_nat _ _ (by omega) (Nat.lt_trans (Nat.pow_lt_pow_right (a := 2) (by omega) (show z.toNat < 8 by omega)) (by omega))
                have ht : okAll (zs.take (j + 1)) = okAll (zs.take j) := by rw [Hs.out]; simp; intro _; omega
                have Hbo := Lib.hid hbo
                have Ht := Lib.hid ht
                obtain ⟨z0, z8⟩ := hzz
                clear hbo ht
                go_wp2_with fail
                exact ⟨⟨j + 1, by omega, by go_num, by rw [Ht.out], by rw [Hbo.out]⟩, by simp [intOf]; omega⟩
              · have ht : okAll (zs.take (j + 1)) = false := by rw [Hs.out]; simp; intro _; omega
                have hq : orIn (zs.take (j + 1)) = orIn (zs.take j) := by rw [Htk.out]; exact orIn_snoc_out _ _ hzz
                have Ht := Lib.hid ht
                have Hq := Lib.hid hq
                clear ht hq
                by_cases hz0 : z < 0
                · go_wp2_with fail
                  exact ⟨⟨j + 1, by omega, by go_num, by rw [Ht.out], by rw [Hq.out]⟩, by simp [intOf]; omega⟩
                · have hz8 : 8 ≤ z := by omega
                  go_wp2_with fail
                  exact ⟨⟨j + 1, by omega, by go_num, by rw [Ht.out], by rw [Hq.out]⟩, by simp [intOf]; omega⟩
            · have hjn : j = n := by omega
              subst hjn
              have hpre : IntsAt .i64 (wo.alloc (Obj.cells #[Value.int IntKind.i64 1, Value.slice A2 l2 c2, Value.int IntKind.u32 bt] 38)) w.heap.size A2 j (zs.take j) := hin1.take (by omega)
              have bo := br.fr f1 (fun e => e)
              go_wp2_with fail
              refine (raise_any _ _ _ _ bo (by omega) _ _ _ _ _ hpre (by unfold maxLen; omega)).mono ?_
              have hR : okAll (zs.take j) = true ∧ Iq.raised (zs.take j) p = p ||| orIn (zs.take j) ∨ okAll (zs.take j) = false ∧ Iq.raised (zs.take j) p = p := by
                cases hok : okAll (zs.take j)
                · right; refine ⟨rfl, ?_⟩; unfold Iq.raised; rw [hok]; rfl
                · left; refine ⟨rfl, ?_⟩; unfold Iq.raised; rw [hok, orIn_eq _ hok]; rfl
              have hpr : p ||| orIn (zs.take j) < 256 := Nat.or_lt_two_pow (n := 8) hp hor
              have hbo : bits .or .u32 (p : Int) (orIn (zs.take j) : Int) = ((p ||| orIn (zs.take j) : Nat) : Int) := u32_or_nat _ _ (by omega) (by omega)
              rintro e w2 ⟨rfl, b2, f2⟩
              have fr := (fr.tr f1).trans f2 (by intro i hi e; omega)
              have T2 := hT.fr fr (fun e => e)
              clear f1 f2 hpre bo hin1 hin
              rcases hR with ⟨r1, r2⟩ | ⟨r1, r2⟩
              · rw [r2] at b2
                clear r2
                go_wp2_with fail
                refine (same_any _ _ _ _ T2 b2 hpr hm8).mono ?_
                rintro e w3 ⟨rfl, b3, f3⟩
                go_wp2_with fail
                exact ⟨⟨k + 1, _, m, by omega, by go_num, rfl, rfl, hpr, hm8, b3, fr.tr f3⟩, by simp [intOf]; omega⟩
              · rw [r2] at b2
                clear r2
                go_wp2_with fail
                refine (same_any _ _ _ _ T2 b2 hp hm8).mono ?_
                rintro e w3 ⟨rfl, b3, f3⟩
                go_wp2_with fail
                exact ⟨⟨k + 1, p, m, by omega, by go_num, rfl, rfl, hp, hm8, b3, fr.tr f3⟩, by simp [intOf]; omega⟩
      · obtain ⟨t, rfl⟩ := Int.eq_ofNat_of_zero_le hbt0
        have f1 := (Fr.refl (fun _ => False) wo).alloc (Obj.cells #[Value.int IntKind.i64 kd, Value.slice A2 l2 c2, Value.int IntKind.u32 t] 38)
        have bo := br.fr f1 (fun e => e)
        have g1 : (kd == 1) = false := by simpa using hk1
        have hcl : bits .andNot .u32 (p : Int) (t : Int) = ((p &&& (4294967295 - t) : Nat) : Int) := u32_andNot_nat _ _ (by omega) (by omega)
        have hcl2 : p &&& (4294967295 - t) < 256 := Nat.lt_of_le_of_lt Nat.and_le_left hp
        by_cases hk2 : kd = 2
        · subst hk2
          go_wp2_with fail
          refine (clear_any _ _ _ _ _ bo (by omega) (by omega)).mono ?_
          rintro e w2 ⟨rfl, b2, f2⟩
          have fr := (fr.tr f1).trans f2 (by intro i hi e; omega)
          have T2 := hT.fr fr (fun e => e)
          have hbx := ((Blk.new wo 38 #[Value.int IntKind.i64 2, Value.slice A2 l2 c2, Value.int IntKind.u32 t]).fr f2 (by have := br.lt; omega)).cell 2
          clear f1 f2
          go_wp2_with fail
          refine (same_any _ _ _ _ T2 b2 hcl2 hm8).mono ?_
          rintro e w3 ⟨rfl, b3, f3⟩
          go_wp2_with fail
          exact ⟨⟨k + 1, _, m, by omega, by go_num, rfl, rfl, hcl2, hm8, b3, fr.tr f3⟩, by simp [intOf]; omega⟩
        · have g2 : (kd == 2) = false := by simpa using hk2
          by_cases hk3 : kd = 3
          · subst hk3
            go_wp2_with fail
            refine (setMask_any _ _ _ _ _ bo (by omega)).mono ?_
            rintro e w2 ⟨rfl, b2, f2⟩
            have fr := (fr.tr f1).trans f2 (by intro i hi e; omega)
            have T2 := hT.fr fr (fun e => e)
            have hbx := ((Blk.new wo 38 #[Value.int IntKind.i64 3, Value.slice A2 l2 c2, Value.int IntKind.u32 t]).fr f2 (by have := br.lt; omega)).cell 2
            have hm9 : t % 256 < 256 := Nat.mod_lt _ (by omega)
            clear hcl hcl2 hk1 hk2
            go_wp2_with fail
            refine (same_any _ _ _ (t % 256) T2 b2 hp hm9).mono ?_
            rintro e w3 ⟨rfl, b3, f3⟩
            go_wp2_with fail
            exact ⟨⟨k + 1, p, t % 256, by omega, by go_num, rfl, rfl, hp, hm9, b3, fr.tr f3⟩, by simp [intOf]; omega⟩
          · have g3 : (kd == 3) = false := by simpa using hk3
            have fr := fr.tr f1
            have T2 := hT.fr fr (fun e => e)
            clear f1 hcl hcl2
            go_wp2_with fail
            refine (same_any _ _ _ _ T2 bo hp hm8).mono ?_
            rintro e w3 ⟨rfl, b3, f3⟩
            go_wp2_with fail
            exact ⟨⟨k + 1, _, m, by omega, by go_num, rfl, rfl, hp, hm8, b3, fr.tr f3⟩, by simp [intOf]; omega⟩
    · go_wp2_with fail
      all_goals
        go_ret
        exact ⟨rfl, fr⟩
end Go.Proofs.YtnlkcmjnohageaaDoor.Iq
