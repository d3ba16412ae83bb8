/- TlbFlushes: the walk. -/
import Derived.Test.YtbooebeceopplaaTlbLaws
import Derived.Test.YtbooebeceopplaaTlbBits
import Derived.Test.YtbooebeceopplaaTlbOpen
import Derived.StillTailTactics
import Derived.Deep.QuietTactic
import Derived.BigQuiet
namespace Go.Proofs.Ytbooebeceopplaa.tlbFlushes
open Go.RowKit Tl
set_option linter.unusedVariables false
set_option maxHeartbeats 4000000

/-- an entry that is kept stands at its place; no other bits stand -/
def Inv (l : Nat → Ent) : Prop := ∀ j, j < 16 → ((l j).v = true ∧ (l j).n % 16 = j) ∨ l j = noE
theorem Inv.no : Inv (fun _ => noE) := fun _ _ => .inr rfl
theorem Inv.put {l : Nat → Ent} (h : Inv l) (k : Nat) (e : Ent) (he : e.v = true) (hk : e.n % 16 = k) : Inv (upd l k e) := by
  intro j hj
  by_cases e1 : j = k
  · subst e1; rw [upd_same]; exact .inl ⟨he, hk⟩
  · rw [upd_other l e e1]; exact h j hj
/-- what a Drop leaves -/
def dropped (l : Nat → Ent) (kd : Nat) (vpn : Int) : Nat → Ent := if (l kd).n = vpn then upd l kd noE else l
def goneAt (l : Nat → Ent) (vpn : Int) (j : Nat) : Bool := (l j).v && ((l j).n == vpn)
theorem gone_yes {l : Nat → Ent} {kd : Nat} {vpn : Int} (h : Inv l) (hk : vpn % 16 = kd) {j : Nat} (hj : j < 16) (hg : goneAt l vpn j = true) : j = kd ∧ dropped l kd vpn j = noE := by
  simp [goneAt] at hg
  rcases h j hj with ⟨_, h2⟩ | h2
  · rw [hg.2] at h2
    have : j = kd := by omega
    subst this
    exact ⟨rfl, by rw [dropped, if_pos hg.2, upd_same]⟩
  · rw [h2] at hg; simp [noE] at hg
theorem gone_no {l : Nat → Ent} {kd : Nat} {vpn : Int} (h : Inv l) {j : Nat} (hj : j < 16) (hg : goneAt l vpn j = false) : dropped l kd vpn j = l j := by
  unfold dropped
  split
  · rename_i hn
    by_cases e : j = kd
    · subst e
      rw [upd_same]
      rcases h j hj with ⟨h1, _⟩ | h2
      · simp [goneAt, h1, hn] at hg
      · exact h2.symm
    · rw [upd_other _ _ e]
  · rfl
def gones (l : Nat → Ent) (vpn : Int) : Nat → Nat
  | 0 => 0
  | k + 1 => gones l vpn k + if goneAt l vpn k then 1 else 0
theorem gones_le {l : Nat → Ent} {kd : Nat} {vpn : Int} (h : Inv l) (hk : vpn % 16 = kd) : ∀ k, k ≤ 16 → gones l vpn k = if kd < k ∧ goneAt l vpn kd = true then 1 else 0 := by
  intro k
  induction k with
  | zero => intro _; simp [gones]
  | succ k ih =>
    intro hk16
    rw [gones, ih (by omega)]
    by_cases hg : goneAt l vpn k = true
    · have := (gone_yes h hk (by omega) hg).1
      subst this
      simp [hg]
    · have hg' : goneAt l vpn k = false := by simpa using hg
      rw [hg']
      by_cases e : kd = k
      · subst e; simp [hg']
      · by_cases h1 : kd < k
        · simp [h1, show kd < k + 1 by omega]
        · simp [h1, show ¬ kd < k + 1 by omega]
theorem len_dropped {l : Nat → Ent} {kd : Nat} {vpn : Int} (h : Inv l) (hk : vpn % 16 = kd) (hk16 : kd < 16) : cnt (dropped l kd vpn) 16 + gones l vpn 16 = cnt l 16 ∧ gones l vpn 16 ≤ 1 := by
  rw [gones_le h hk 16 (Nat.le_refl _)]
  have hc := cnt_upd l kd noE 16 hk16
  have hz : noE.v = false := rfl
  rw [hz] at hc
  unfold dropped goneAt
  by_cases hn : (l kd).n = vpn
  · rw [if_pos hn]
    cases hv : (l kd).v
    · rw [hv] at hc
      simp at hc ⊢; omega
    · rw [hv] at hc
      simp [hn, hk16] at hc ⊢; omega
  · rw [if_neg hn]; simp [hn]

/-- the statement's own array of what was -/
def Was (w : World) (g : Nat) (l : Nat → Ent) : Prop := Cells w g 43 64 (tf l)
theorem Was.ent {w : World} {g : Nat} {l : Nat → Ent} (h : Was w g l) (k : Nat) (hk : k < 16) :
    w.cell? ⟨g, k * 4, none⟩ = some (.bool (l k).v) ∧ w.cell? ⟨g, k * 4 + 1, none⟩ = some (.int .u32 (l k).n) ∧ w.cell? ⟨g, k * 4 + 2, none⟩ = some (.int .u32 (l k).p) ∧ w.cell? ⟨g, k * 4 + 3, none⟩ = some (.int .u32 (l k).b) := by
  have e0 : tf l (k * 4) = .bool (l k).v := by simp [tf, ecell, show k * 4 / 4 = k by omega, show k * 4 % 4 = 0 by omega]
  have e1 : tf l (k * 4 + 1) = .int .u32 (l k).n := by simp [tf, ecell, show (k * 4 + 1) / 4 = k by omega, show (k * 4 + 1) % 4 = 1 by omega]
  have e2 : tf l (k * 4 + 2) = .int .u32 (l k).p := by simp [tf, ecell, show (k * 4 + 2) / 4 = k by omega, show (k * 4 + 2) % 4 = 2 by omega]
  have e3 : tf l (k * 4 + 3) = .int .u32 (l k).b := by simp [tf, ecell, show (k * 4 + 3) / 4 = k by omega, show (k * 4 + 3) % 4 = 3 by omega]
  exact ⟨by rw [Cells.cell h _ (by omega), e0], by rw [Cells.cell h _ (by omega), e1], by rw [Cells.cell h _ (by omega), e2], by rw [Cells.cell h _ (by omega), e3]⟩
theorem Was.put {w : World} {g : Nat} {l : Nat → Ent} (h : Was w g l) (k : Nat) (hk : k < 16) (v : Bool) (n p b : Int) :
    Was ((((w.setCell ⟨g, k * 4, none⟩ (.bool v)).setCell ⟨g, k * 4 + 1, none⟩ (.int .u32 n)).setCell ⟨g, k * 4 + 2, none⟩ (.int .u32 p)).setCell ⟨g, k * 4 + 3, none⟩ (.int .u32 b)) g (upd l k ⟨v, n, p, b⟩) := by
  refine Cells.congr ((((Cells.set_ h _ _).set_ _ _).set_ _ _).set_ _ _) (fun i hi => ?_)
  unfold putV tf upd
  by_cases e : i / 4 = k
  · rw [if_pos e]
    have hm : i % 4 = 0 ∨ i % 4 = 1 ∨ i % 4 = 2 ∨ i % 4 = 3 := by omega
    rcases hm with hm | hm | hm | hm
    · rw [if_neg (by omega), if_neg (by omega), if_neg (by omega), if_pos (by omega), hm]; rfl
    · rw [if_neg (by omega), if_neg (by omega), if_pos (by omega), hm]; rfl
    · rw [if_neg (by omega), if_pos (by omega), hm]; rfl
    · rw [if_pos (by omega), hm]; rfl
  · rw [if_neg e, if_neg (by omega), if_neg (by omega), if_neg (by omega), if_neg (by omega)]
def copied (l : Nat → Ent) (k : Nat) : Nat → Ent := fun j => if j < k then l j else noE
theorem copied_succ (l : Nat → Ent) (k : Nat) : upd (copied l k) k (l k) = copied l (k + 1) := by
  funext j
  unfold upd copied
  by_cases e : j = k
  · subst e; simp
  · rw [if_neg e]
    by_cases h : j < k
    · rw [if_pos h, if_pos (by omega)]
    · rw [if_neg h, if_neg (by omega)]

set_option maxRecDepth 100000 in
theorem walk (w : World) (A : Option Addr) (len cap : Nat) (hl : AsksAt w w.heap.size A len ∧ len ≤ maxLen) (drop : Int) (wd : (Lit.int .u32 drop).wf = true) :
    Calls Try.prog 7 #[.slice A len cap, .int .u32 drop] w fun e w' => e = .returned (.bool true) ∧ Fr (fun _ => False) w w' := by
  obtain ⟨hl, hm⟩ := hl
  unfold maxLen at hm
  obtain ⟨hd0, hd1⟩ := wf_u32 wd
  clear wd
  obtain ⟨kd, hkd⟩ : ∃ k : Nat, drop / 64 % 16 = k := ⟨(drop / 64 % 16).toNat, by omega⟩
  have hkd16 : kd < 16 := by omega
  have Hkd := Lib.hid hkd
  clear hkd
  go_enter Try.func7, Try.ntmps7
  go_wp2_with fail
  refine (new_any w).mono ?_
  rintro e w1 ⟨rfl, b1, f1⟩
  have hB : ∃ l, Buf w1 w.heap.size l ∧ Inv l := ⟨_, b1, Inv.no⟩
  clear b1
  go_wp2_with fail
  go_loopw [6] (fun i wr => ∃ k : Nat, k ≤ len ∧ i = .int .i64 k ∧ (∃ l, Buf wr w.heap.size l ∧ Inv l) ∧ Fr (fun _ => False) w wr) (fun i _ => len - (intOf i).toNat)
  case atStart => exact ⟨0, Nat.zero_le _, rfl, hB, f1⟩
  case round =>
    clear hB f1
    obtain ⟨k, hk, rfl, ⟨l, hB, hI⟩, fr⟩ := hrel
    by_cases hlt : k < len ∧ k < 40
    · obtain ⟨h1, h2⟩ := hlt
      obtain ⟨b, off, rfl, hb, kd', how, va, p, bs, s, ha⟩ := hl.at_ h1
      obtain ⟨c0, c1, c2, c3, c4, c5, hva, hp, hbs⟩ := ha.fr fr hb (Nat.le_refl _) (fun _ _ e => e)
      obtain ⟨hv0, hv1⟩ := hva
      obtain ⟨j, hj⟩ : ∃ j : Nat, va / 64 % 16 = j := ⟨(va / 64 % 16).toNat, by omega⟩
      have Hj := Lib.hid hj
      clear hj
      have hq : 0 ≤ va / 64 := by omega
      have hfill := fill_yes wr.drew w.heap.size l ⟨true, va / 64, p, bs⟩ (Cells.drew hB) rfl hq
      dsimp only at hfill
      have hk0 : (0 : Int) ≤ (k : Int) := by omega
      have hk1 : (k : Int) < (len : Int) := by omega
      go_wp2_with fail
      go_still_tail 18, (by kernel_rfl)
      go_wp2_with fail
      refine hfill.mono ?_
      rintro e w1 ⟨rfl, b1, f1⟩
      rw [Hj.out] at b1
      have b1 : Buf w1 w.heap.size (upd l j ⟨true, va / 64, p, bs⟩) := b1
      have fr1 := (Fr.drew fr).trans (S := fun _ => False) f1 (fun i hi e => by omega)
      have hI1 := hI.put j ⟨true, va / 64, p, bs⟩ rfl Hj.out
      go_wp2_with fail
      go_roundw
      case rel => exact ⟨k + 1, by omega, by go_num, ⟨_, b1, hI1⟩, fr1⟩
      case measure => simp [intOf]; omega
    · go_wp2_with fail
      all_goals
        refine (len_any _ _ _ (hB.alloc _)).mono ?_
        rintro e w2 ⟨rfl, f2⟩
        have hW : Was w2 wr.heap.size (copied l 0) := Cells.fr (Cells.new' wr _ _ 64 (tf (copied l 0)) (by kernel_rfl)) f2 (fun e => e)
        have b2 : Buf w2 w.heap.size l := (hB.alloc _).fr f2 (fun e => e)
        have fr2 := (fr.alloc _).tr f2
        have hgw : w.heap.size < wr.heap.size := hB.lt
        generalize wr.heap.size = gw at *
        have hld := len_dropped (vpn := drop / 64) hI Hkd.out hkd16
        have hcl := cnt_le l 16
        generalize hn : cnt l 16 = n16 at *
        clear f2 hB fr hn hlt hk hl
        go_wp2_with fail
        go_loopw [9] (fun i wr => ∃ k : Nat, k ≤ 16 ∧ i = .int .i64 k ∧ Buf wr w.heap.size l ∧ Was wr gw (copied l k) ∧ Fr (fun _ => False) w wr) (fun i _ => 16 - (intOf i).toNat)
        case atStart => exact ⟨0, by omega, rfl, b2, hW, fr2⟩
        case round =>
          clear b2 hW fr2
          obtain ⟨k, hk, rfl, b2, hW, fr2⟩ := hrel
          by_cases hlt : k < 16
          · obtain ⟨c0, c1, c2, c3⟩ := hW.ent k hlt
            have hat := at_any _ _ _ k hlt b2
            have hput := fun W (h : Was W gw (copied l k)) => h.put k hlt (l k).v (l k).n (l k).p (l k).b
            have ec : upd (copied l k) k ⟨(l k).v, (l k).n, (l k).p, (l k).b⟩ = copied l (k + 1) := copied_succ l k
            simp only [ec] at hput
            have Hput := Lib.hid hput
            clear ec hput
            go_wp2_with fail
            refine hat.mono ?_
            rintro e w3 ⟨rfl, f3⟩
            have hW3 : Was w3 gw (copied l k) := Cells.fr hW f3 (fun e => e)
            have b3 := b2.fr f3 (fun e => e)
            have fr3 := fr2.tr f3
            obtain ⟨d0, d1, d2, d3⟩ := hW3.ent k hlt
            have z0 := Cells.frozen hW3 (k * 4)
            have z1 := Cells.frozen hW3 (k * 4 + 1)
            have z2 := Cells.frozen hW3 (k * 4 + 2)
            have z3 := Cells.frozen hW3 (k * 4 + 3)
            have hne : ¬ w.heap.size = gw := by omega
            go_wp2_with fail
            go_roundw
            case rel =>
              refine ⟨k + 1, by omega, by go_num, ?_, Hput.out _ hW3, ?_⟩
              · exact Cells.far (Cells.far (Cells.far (Cells.far b3 (p := ⟨gw, _, none⟩) hne _) (p := ⟨gw, _, none⟩) hne _) (p := ⟨gw, _, none⟩) hne _) (p := ⟨gw, _, none⟩) hne _
              · exact fr3.trans (Fr.put4 (S := fun k => k = gw) (Fr.refl _ w3) rfl _ _ _ _ _ _ _ _) (fun i hi e => by omega)
            case measure => simp [intOf]; omega
          · have e16 : k = 16 := by omega
            subst e16
            have hW : Was wr gw l := Cells.congr hW (fun i hi => by unfold tf copied; rw [if_pos (by omega)])
            go_wp2_with fail
            refine (drop_any _ _ _ drop hd0 hd1 kd Hkd.out b2).mono ?_
            rintro e w4 ⟨rfl, b4, f4⟩
            have b4 : Buf w4 w.heap.size (dropped l kd (drop / 64)) := b4
            have hW4 : Was w4 gw l := Cells.fr hW f4 (fun e => by omega)
            have fr4 := fr2.trans (S := fun _ => False) f4 (fun i hi e => by omega)
            clear hW b2 fr2 f4
            go_wp2_with fail
            go_loopw [10, 11] (fun gn i wr => ∃ k : Nat, k ≤ 16 ∧ i = .int .i64 k ∧ gn = .int .i64 (gones l (drop / 64) k) ∧ Buf wr w.heap.size (dropped l kd (drop / 64)) ∧ Was wr gw l ∧ Fr (fun _ => False) w wr) (fun _ i _ => 16 - (intOf i).toNat)
            case atStart => exact ⟨0, by omega, rfl, rfl, b4, hW4, fr4⟩
            case round =>
              clear b4 hW4 fr4
              obtain ⟨k, hk, rfl, rfl, b4, hW, fr4⟩ := hrel
              by_cases hlt : k < 16
              · obtain ⟨c0, c1, c2, c3⟩ := hW.ent k hlt
                have hlw := hW.lt
                have hat := at_any _ _ _ k hlt b4
                by_cases hg : goneAt l (drop / 64) k = true
                · have hno := (gone_yes hI Hkd.out hlt hg).2
                  have hgs : gones l (drop / 64) (k + 1) = gones l (drop / 64) k + 1 := by rw [gones, if_pos hg]
                  have hgl := gones_le hI Hkd.out (k + 1) (by omega)
                  have hgk : gones l (drop / 64) k ≤ 1 := by
                    have : gones l (drop / 64) (k + 1) ≤ 1 := by rw [hgl]; split <;> omega
                    omega
                  rw [hno] at hat
                  have hg' : (l k).v = true ∧ (l k).n = drop / 64 := by simpa [goneAt] using hg
                  obtain ⟨hgv, hgn⟩ := hg'
                  have hgn' : ((l k).n == drop / 64) = true := by simp [hgn]
                  rw [hgv] at c0
                  have Hgs := Lib.hid hgs
                  have Hat := Lib.hid hat
                  clear hno hgs hgl hg hgv hgn hat
                  generalize gones l (drop / 64) k = gk at *
                  go_wp2_with fail
                  refine (Hat.out).mono ?_
                  rintro e w5 ⟨rfl, f5⟩
                  have d0 := f5.cell c0 hlw (fun e => e)
                  have d1 := f5.cell c1 hlw (fun e => e)
                  have hlw5 := Nat.lt_of_lt_of_le hlw f5.size
                  go_wp2_with fail
                  go_roundw
                  case rel => exact ⟨k + 1, by omega, by go_num, by rw [Hgs.out]; go_num, (b4.fr f5 (fun e => e)).alloc _, Cells.alloc (Cells.fr hW f5 (fun e => e)) _, (fr4.tr f5).alloc _⟩
                  case measure => simp [intOf]; omega
                · have hg : goneAt l (drop / 64) k = false := by simpa using hg
                  have hno := gone_no (kd := kd) hI hlt hg
                  have hgs : gones l (drop / 64) (k + 1) = gones l (drop / 64) k := by rw [gones, hg]; simp
                  rw [hno] at hat
                  have Hgs := Lib.hid hgs
                  have Hat := Lib.hid hat
                  have hgg : (l k).v = false ∨ ((l k).v = true ∧ ((l k).n == drop / 64) = false) := by
                    unfold goneAt at hg
                    cases hv : (l k).v
                    · exact .inl rfl
                    · rw [hv] at hg; exact .inr ⟨rfl, by simpa using hg⟩
                  clear hno hgs hg hat
                  generalize gones l (drop / 64) k = gk at *
                  rcases hgg with hgv | ⟨hgv, hgn⟩
                  · rw [hgv] at c0
                    have Hv := Lib.hid hgv
                    clear hgv
                    have hat := Hat.out
                    rw [show eval_ (l k) = .agg #[.bool (l k).v, .int .u32 (l k).n, .int .u32 (l k).p, .int .u32 (l k).b] from rfl, Hv.out] at hat
                    have Hat2 := Lib.hid hat
                    clear hat
                    go_wp2_with fail
                    refine (Hat2.out).mono ?_
                    rintro e w5 ⟨rfl, f5⟩
                    have d0 := f5.cell c0 hlw (fun e => e)
                    have d1 := f5.cell c1 hlw (fun e => e)
                    have d2 := f5.cell c2 hlw (fun e => e)
                    have d3 := f5.cell c3 hlw (fun e => e)
                    have hlw5 := Nat.lt_of_lt_of_le hlw f5.size
                    have hk0 : (0 : Int) ≤ (k : Int) := by omega
                    have hk1 : (k : Int) < 16 := by omega
                    go_wp2_with fail
                    go_quiet (fail)
                    go_wp2_with fail
                    go_roundw
                    case rel => exact ⟨k + 1, by omega, by go_num, by rw [Hgs.out], (b4.fr f5 (fun e => e)).alloc _, Cells.alloc (Cells.fr hW f5 (fun e => e)) _, ((fr4.tr f5).alloc _).drewN _⟩
                    case measure => simp [intOf]; omega
                  · rw [hgv] at c0
                    have Hv := Lib.hid hgv
                    clear hgv
                    have hat := Hat.out
                    rw [show eval_ (l k) = .agg #[.bool (l k).v, .int .u32 (l k).n, .int .u32 (l k).p, .int .u32 (l k).b] from rfl, Hv.out] at hat
                    have Hat2 := Lib.hid hat
                    clear hat
                    go_wp2_with fail
                    refine (Hat2.out).mono ?_
                    rintro e w5 ⟨rfl, f5⟩
                    have d0 := f5.cell c0 hlw (fun e => e)
                    have d1 := f5.cell c1 hlw (fun e => e)
                    have d2 := f5.cell c2 hlw (fun e => e)
                    have d3 := f5.cell c3 hlw (fun e => e)
                    have hlw5 := Nat.lt_of_lt_of_le hlw f5.size
                    have hk0 : (0 : Int) ≤ (k : Int) := by omega
                    have hk1 : (k : Int) < 16 := by omega
                    go_wp2_with fail
                    go_quiet (fail)
                    go_wp2_with fail
                    go_roundw
                    case rel => exact ⟨k + 1, by omega, by go_num, by rw [Hgs.out], (b4.fr f5 (fun e => e)).alloc _, Cells.alloc (Cells.fr hW f5 (fun e => e)) _, ((fr4.tr f5).alloc _).drewN _⟩
                    case measure => simp [intOf]; omega
              · have e16 : k = 16 := by omega
                subst e16
                generalize gones l (drop / 64) 16 = g16 at *
                obtain ⟨hld1, hld2⟩ := hld
                have hsub : (n16 : Int) - (g16 : Int) = (cnt (dropped l kd (drop / 64)) 16 : Nat) := by omega
                have Hsub := Lib.hid hsub
                clear hsub hld1
                go_wp2_with fail
                refine (len_any _ _ _ b4).mono ?_
                rw [← Hsub.out]
                rintro e w5 ⟨rfl, f5⟩
                have b5 := b4.fr f5 (fun e => e)
                have fr5 := fr4.tr f5
                go_wp2_with fail
                refine (flush_any _ _ _ b5).mono ?_
                rintro e w6 ⟨rfl, b6, f6⟩
                have fr6 := fr5.trans (S := fun _ => False) f6 (fun i hi e => by omega)
                clear hW b4 fr4 b5 fr5 f6 f5
                go_wp2_with fail
                go_loopw [13] (fun i wr => ∃ k : Nat, k ≤ 16 ∧ i = .int .i64 k ∧ Buf wr w.heap.size (fun _ => noE) ∧ Fr (fun _ => False) w wr) (fun i _ => 16 - (intOf i).toNat)
                case atStart => exact ⟨0, by omega, rfl, b6, fr6⟩
                case round =>
                  clear b6 fr6
                  obtain ⟨k, hk, rfl, b6, fr6⟩ := hrel
                  by_cases hlt : k < 16
                  · go_wp2_with fail
                    refine (at_any _ _ _ k hlt b6).mono ?_
                    rintro e w7 ⟨rfl, f7⟩
                    go_wp2_with fail
                    go_roundw
                    case rel => exact ⟨k + 1, by omega, by go_num, b6.fr f7 (fun e => e), fr6.tr f7⟩
                    case measure => simp [intOf]; omega
                  · have hno : hit noE drop 2 true = false := by simp [hit, noE]
                    have hno2 : found noE drop 2 true = 0 := by rw [found, hno]; rfl
                    go_wp2_with fail
                    refine (find_any _ _ _ drop 2 true hd0 hd1 kd Hkd.out b6).mono ?_
                    rw [hno, hno2]
                    rintro e w7 ⟨rfl, f7⟩
                    have b7 := b6.fr f7 (fun e => e)
                    go_wp2_with fail
                    refine (len_any _ _ _ b7).mono ?_
                    rw [cnt_zero]
                    rintro e w8 ⟨rfl, f8⟩
                    go_wp2_with fail
                    refine (known_any _).mono ?_
                    rintro e w9 ⟨rfl, f9⟩
                    go_wp2_with fail
                    go_ret
                    exact ⟨rfl, ((fr6.tr f7).tr f8).tr f9⟩
end Go.Proofs.Ytbooebeceopplaa.tlbFlushes
