/- A guest's memory, III: PutWord, PutPage, Load. -/
import Derived.Test.YthiephlfhbkcbaaDoorRamB
namespace Go.Proofs.YthiephlfhbkcbaaDoor.Rm
open Go.RowKit Fm Nt
set_option linter.unusedVariables false
set_option maxHeartbeats 4000000

theorem put_in (w : World) (a : Am) (m : Ms) (h : Mem w a m) (at_ b : Int) (h0 : 0 ≤ at_) (h1 : at_ < (m.n : Int) * 64) (b0 : 0 ≤ b) (b1 : b < 256) : Calls Tryd.prog 62 #[.pointer (some ⟨a.gm, 0, none⟩), .int .u32 at_, .int .u8 b] w fun e w' => e = .returned (.bool true) ∧ Mem w' a (m.put at_.toNat b) ∧ Fr a.own w w' := by
  have hn := h.n0
  have hp := put_any w a m h at_ b h0 (by omega) b0 b1
  have e : inB m at_ 1 = true := by simp [inB]; omega
  rw [e, Ms.putI, if_pos e] at hp
  exact hp
def wby (v : Int) : List Int := [v % 256, v / 256 % 256, v / 65536 % 256, v / 16777216 % 256]
/-- a word is asked to be written -/
def Ms.putW (m : Ms) (at_ v : Int) : Ms := if inB m at_ 4 then m.puts at_.toNat (wby v) 4 else m
/-- a page is asked to be written -/
def pgB (m : Ms) (n : Int) (len : Nat) : Bool := decide (0 ≤ n ∧ n < m.n ∧ len = 64)
def Ms.putP (m : Ms) (n : Int) (zs : List Int) : Ms := if pgB m n zs.length then m.puts (n.toNat * 64) zs 64 else m
theorem byte_of {w : World} {B n : Nat} {A : Option Addr} {zs : List Int} (h : IntsAt .u8 w B A n zs) {k : Nat} (hk : k < n) : 0 ≤ zs.getD k 0 ∧ zs.getD k 0 < 256 := by
  have := wf_u8 (h.2.1 k hk)
  omega
theorem ints_own {k : IntKind} {w w' : World} {B n : Nat} {A : Option Addr} {zs : List Int} {S : Nat → Prop} (h : IntsAt k w B A n zs) (f : Fr S w w') (hB : B ≤ w.heap.size) (hA : 0 < n → ∀ b off, A = some ⟨b, off, none⟩ → ¬ S b) : IntsAt k w' B A n zs :=
  ⟨h.1, h.2.1, fun hn => by
    obtain ⟨b, off, e, hb, hc⟩ := h.2.2 hn
    exact ⟨b, off, e, hb, fun i hi => (World.cell?_of_block (w := w) (a := ⟨b, off + i, none⟩) (f.block b (by omega) (hA hn b off e))).trans (hc i hi)⟩⟩
set_option maxRecDepth 100000 in
theorem putPage_any (w : World) (a : Am) (m : Ms) (h : Mem w a m) (n : Int) (A : Option Addr) (len cap B : Nat) (zs : List Int) (hz : IntsAt .u8 w B A len zs) (hB : B ≤ w.heap.size) (hA : 0 < len → ∀ b off, A = some ⟨b, off, none⟩ → ¬ a.own b) (hm : len ≤ maxLen) :
    Calls Tryd.prog 56 #[.pointer (some ⟨a.gm, 0, none⟩), .int .i64 n, .slice A len cap] w fun e w' => e = .returned (.bool (pgB m n len)) ∧ Mem w' a (m.putP n zs) ∧ Fr a.own w w' := by
  unfold maxLen at hm
  have hn := h.n0
  have hlz := Lib.hid hz.1
  have hpg : Calls Tryd.prog 63 #[.pointer (some ⟨a.a.gt, 0, none⟩)] w fun e w' => e = .returned (.int .i64 m.n) ∧ w = w' := by
    obtain ⟨s, t, hC⟩ := h
    have := pages_any w a.a t hC.2.1
    rw [hC.2.2.2.n] at this
    exact this
  have Hpg := Lib.hid hpg
  have c1 : w.cell? ⟨a.gm, 1, none⟩ = some (.pointer (some ⟨a.a.gt, 0, none⟩)) := by
    obtain ⟨s, t, hC⟩ := h
    exact hC.c1
  clear hpg
  by_cases hb : pgB m n len = true
  · have e1 : m.putP n zs = m.puts (n.toNat * 64) zs 64 := by rw [Ms.putP, hlz.out, if_pos hb]
    rw [hb, e1]
    obtain ⟨n0, n1, hl64⟩ : 0 ≤ n ∧ n < m.n ∧ len = 64 := by simpa [pgB] using hb
    have hl2 : ((len : Int) != 64) = false := by simp; omega
    have l0 : 64 ≤ len := by omega
    have l1 : len ≤ 64 := by omega
    clear hl64
    obtain ⟨p, rfl⟩ : ∃ i : Nat, n = i := ⟨n.toNat, by omega⟩
    rw [show (p : Int).toNat = p from rfl]
    have hM0 : Mem w a (m.puts (p * 64) zs 0) := h
    have d1 : decide (m.n ≤ p) = false := by simp; omega
    have d2 : decide ((p : Int) < 0) = false := by simp
    clear hb e1
    go_enter Tryd.func56, Tryd.ntmps56
    go_wp2_with fail
    refine (Hpg.out).mono ?_
    rintro e w' ⟨rfl, rfl⟩
    go_wp2_with fail
    go_loopw [7, 28] (fun ok k wr => ∃ r : Nat, r ≤ len ∧ k = .int .i64 r ∧ ok = .bool true ∧ Mem wr a (m.puts (p * 64) zs r) ∧ Fr a.own w wr) (fun _ k _ => len - (intOf k).toNat)
    case atStart => exact ⟨0, by omega, rfl, rfl, hM0, Fr.refl _ _⟩
    case round =>
      clear hM0
      obtain ⟨r, hr, rfl, rfl, hM, fr⟩ := hrel
      by_cases hlt : r < len
      · obtain ⟨b, off, rfl, hbb, hc⟩ := (ints_own hz fr hB hA).at_ hlt
        obtain ⟨b0, b1⟩ := byte_of hz hlt
        have hp := put_in wr a _ hM ((p : Int) * 64 + r) (zs.getD r 0) (by omega) (by rw [puts_n]; omega) b0 b1
        rw [show ((p : Int) * 64 + r).toNat = p * 64 + r by omega] at hp
        have Hp : Hid (Calls Tryd.prog 62 #[.pointer (some ⟨a.gm, 0, none⟩), .int .u32 ((p : Int) * 64 + r), .int .u8 (zs.getD r 0)] wr fun e w' => e = .returned (.bool true) ∧ Mem w' a (m.puts (p * 64) zs (r + 1)) ∧ Fr a.own wr w') := hp
        clear hp
        generalize zs.getD r 0 = z at *
        go_wp2_with fail
        refine (Hp.out).mono ?_
        rintro e w2 ⟨rfl, hM2, f2⟩
        have fr2 := fr.tr f2
        go_wp2_with fail
        go_roundw
        case rel => exact ⟨r + 1, by omega, by go_num, rfl, hM2, fr2⟩
        case measure => simp [intOf]; omega
      · have e : r = 64 := by omega
        rw [e] at hM
        clear e
        go_wp2_with fail
        go_ret
        exact ⟨rfl, hM, fr⟩
  · have hb : pgB m n len = false := by simpa using hb
    have e1 : m.putP n zs = m := by rw [Ms.putP, hlz.out, if_neg (by rw [hb]; exact Bool.false_ne_true)]
    rw [hb, e1]
    have hno : ¬ (0 ≤ n ∧ n < m.n ∧ len = 64) := by simpa [pgB] using hb
    clear hb e1
    by_cases n0 : 0 ≤ n
    · by_cases n1 : n < m.n
      · have hl : ((len : Int) != 64) = true := by simp; omega
        clear hno
        go_enter Tryd.func56, Tryd.ntmps56
        go_wp2_with fail
        refine (Hpg.out).mono ?_
        rintro e w' ⟨rfl, rfl⟩
        go_wp2_with fail
        go_ret
        exact ⟨rfl, h, Fr.refl _ _⟩
      · clear hno
        go_enter Tryd.func56, Tryd.ntmps56
        go_wp2_with fail
        refine (Hpg.out).mono ?_
        rintro e w' ⟨rfl, rfl⟩
        go_wp2_with fail
        go_ret
        exact ⟨rfl, h, Fr.refl _ _⟩
    · clear hno
      go_enter Tryd.func56, Tryd.ntmps56
      go_wp2_with fail
      go_ret
      exact ⟨rfl, h, Fr.refl _ _⟩
/-- bytes are asked to be loaded -/
def Ms.load (m : Ms) (zs : List Int) : Ms := if zs.length ≤ m.n * 64 then m.puts 0 zs zs.length else m
def loadE (m : Ms) (len : Nat) : Int := if len ≤ m.n * 64 then 0 else 3
set_option maxRecDepth 100000 in
theorem load_any (w : World) (a : Am) (m : Ms) (h : Mem w a m) (A : Option Addr) (len cap B : Nat) (zs : List Int) (hz : IntsAt .u8 w B A len zs) (hB : B ≤ w.heap.size) (hA : 0 < len → ∀ b off, A = some ⟨b, off, none⟩ → ¬ a.own b) (hm : len ≤ maxLen) :
    Calls Tryd.prog 52 #[.pointer (some ⟨a.gm, 0, none⟩), .slice A len cap] w fun e w' => e = .returned (.int .i64 (loadE m len)) ∧ Mem w' a (m.load zs) ∧ Fr a.own w w' := by
  unfold maxLen at hm
  have hn := h.n0
  have hlz := Lib.hid hz.1
  have hsz := Lib.hid (size_any w a m h)
  by_cases hb : len ≤ m.n * 64
  · have e1 : m.load zs = m.puts 0 zs len := by rw [Ms.load, hlz.out, if_pos hb]
    have e2 : loadE m len = 0 := by rw [loadE, if_pos hb]
    rw [e1, e2]
    have hM0 : Mem w a (m.puts 0 zs 0) := h
    have hbi : ¬ ((m.n : Int) * 64 < (len : Int)) := by omega
    clear e1 e2
    go_enter Tryd.func52, Tryd.ntmps52
    go_wp2_with fail
    refine (hsz.out).mono ?_
    rintro e w' ⟨rfl, rfl⟩
    go_wp2_with fail
    go_loopw [15] (fun k wr => ∃ r : Nat, r ≤ len ∧ k = .int .i64 r ∧ Mem wr a (m.puts 0 zs r) ∧ Fr a.own w wr) (fun k _ => len - (intOf k).toNat)
    case atStart => exact ⟨0, by omega, rfl, hM0, Fr.refl _ _⟩
    case round =>
      clear hM0
      obtain ⟨r, hr, rfl, hM, fr⟩ := hrel
      by_cases hlt : r < len
      · obtain ⟨b, off, rfl, hbb, hc⟩ := (ints_own hz fr hB hA).at_ hlt
        obtain ⟨b0, b1⟩ := byte_of hz hlt
        have hp := put_in wr a _ hM (r : Int) (zs.getD r 0) (by omega) (by rw [puts_n]; omega) b0 b1
        have ep : m.puts 0 zs (r + 1) = (m.puts 0 zs r).put r (zs.getD r 0) := by rw [Ms.puts, Nat.zero_add]
        rw [show ((r : Int)).toNat = r from rfl, ← ep] at hp
        have Hp := Lib.hid hp
        clear hp ep
        generalize zs.getD r 0 = z at *
        go_wp2_with fail
        refine (Hp.out).mono ?_
        rintro e w2 ⟨rfl, hM2, f2⟩
        have fr2 := fr.tr f2
        go_wp2_with fail
        go_roundw
        case rel => exact ⟨r + 1, by omega, by go_num, hM2, fr2⟩
        case measure => simp [intOf]; omega
      · have e : r = len := by omega
        subst e
        go_wp2_with fail
        go_ret
        exact ⟨rfl, hM, fr⟩
  · have e1 : m.load zs = m := by rw [Ms.load, hlz.out, if_neg hb]
    have e2 : loadE m len = 3 := by rw [loadE, if_neg hb]
    rw [e1, e2]
    have hbi : (m.n : Int) * 64 < (len : Int) := by omega
    clear e1 e2
    go_enter Tryd.func52, Tryd.ntmps52
    go_wp2_with fail
    refine (hsz.out).mono ?_
    rintro e w' ⟨rfl, rfl⟩
    go_wp2_with fail
    go_ret
    exact ⟨rfl, h, Fr.refl _ _⟩
end Go.Proofs.YthiephlfhbkcbaaDoor.Rm
