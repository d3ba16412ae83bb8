/- The document's bus (innkeeperref15.Bus), as far as its drive: New, Drive. -/
import Derived.Test.YthiephlfhbkcbaaDoorRef8
import Derived.Test.YthiephlfhbkcbaaDoorDriveB
import Derived.StillTailTactics
namespace Go.Proofs.YthiephlfhbkcbaaDoor.Rf
open Go.RowKit Fm Nt Rm By Dr
set_option linter.unusedVariables false
set_option maxHeartbeats 8000000

def busRow (gM gk : Nat) : Array Value := #[.pointer (some ⟨gM, 0, none⟩), .int .u32 0, .int .u32 0, .int .u32 0, .slice none 0 0, .slice none 0 0, .slice (some ⟨gk, 0, none⟩) 1024 1024, .int .u32 0, .int .u32 0, .int .u32 0]
/-- the document's bus, as far as its memory and its disk -/
def BRow (w : World) (gB gM gk : Nat) : Prop := ∃ cs, Blk w gB 83 cs ∧ cs[0]? = some (.pointer (some ⟨gM, 0, none⟩)) ∧ cs[6]? = some (.slice (some ⟨gk, 0, none⟩) 1024 1024)
theorem BRow.fr {w w' : World} {gB gM gk : Nat} {S : Nat → Prop} (h : BRow w gB gM gk) (f : Fr S w w') (hn : ¬ S gB) : BRow w' gB gM gk := by
  obtain ⟨cs, h1, h2⟩ := h
  exact ⟨cs, h1.fr f hn, h2⟩
theorem BRow.lt {w : World} {gB gM gk : Nat} (h : BRow w gB gM gk) : gB < w.heap.size := by
  obtain ⟨cs, h1, h2⟩ := h
  exact h1.lt
/-- a bus: its memory, its disk -/
structure BS (w : World) (gB gk gM gb gt n : Nat) (mem : Nat → Int) (tu : Nat → Bool) (d : Nat → Int) : Prop where
  r : RM w gM gb gt n mem tu
  b : BRow w gB gM gk
  c : Cells w gk 5 1024 (fun i => .int .u8 (d i))
  ne : gk ≠ gb
section
variable {w w' : World} {gB gk gM gb gt n : Nat} {mem : Nat → Int} {tu : Nat → Bool} {d : Nat → Int} {S : Nat → Prop}
theorem BS.fr0 (h : BS w gB gk gM gb gt n mem tu d) (f : Fr (fun _ => False) w w') : BS w' gB gk gM gb gt n mem tu d := ⟨h.r.fr0 f, h.b.fr f (fun e => e), h.c.fr f (fun e => e), h.ne⟩
theorem BS.fr (h : BS w gB gk gM gb gt n mem tu d) (f : Fr S w w') (h1 : ∀ k, k < w.heap.size → S k → k ≠ gB ∧ k ≠ gk ∧ k ≠ gM ∧ k ≠ gb ∧ k ≠ gt) : BS w' gB gk gM gb gt n mem tu d :=
  ⟨h.r.fr f (fun e => (h1 _ h.r.lt.1 e).2.2.1 rfl) (fun e => (h1 _ h.r.lt.2.1 e).2.2.2.1 rfl) (fun e => (h1 _ h.r.lt.2.2 e).2.2.2.2 rfl), h.b.fr f (fun e => (h1 _ h.b.lt e).1 rfl), h.c.fr f (fun e => (h1 _ h.c.lt e).2.1 rfl), h.ne⟩
theorem BS.c0 (h : BS w gB gk gM gb gt n mem tu d) : w.cell? ⟨gB, 0, none⟩ = some (.pointer (some ⟨gM, 0, none⟩)) := by
  obtain ⟨cs, h1, h2, _⟩ := h.b
  exact (h1.cell 0).trans h2
theorem BS.c6 (h : BS w gB gk gM gb gt n mem tu d) : w.cell? ⟨gB, 6, none⟩ = some (.slice (some ⟨gk, 0, none⟩) 1024 1024) := by
  obtain ⟨cs, h1, _, h3⟩ := h.b
  exact (h1.cell 6).trans h3
theorem BS.nBb (h : BS w gB gk gM gb gt n mem tu d) : gB ≠ gb := by
  obtain ⟨cs, hcs, _⟩ := h.r.cb
  obtain ⟨cr, hr, _⟩ := h.b
  exact Blk.ne_ hr hcs (by decide)
theorem BS.nBk (h : BS w gB gk gM gb gt n mem tu d) : gB ≠ gk := by
  obtain ⟨cs, hcs, _⟩ := h.c
  obtain ⟨cr, hr, _⟩ := h.b
  exact Blk.ne_ hr hcs (by decide)
theorem BS.nBt (h : BS w gB gk gM gb gt n mem tu d) : gB ≠ gt := by
  obtain ⟨cs, hcs, _⟩ := h.r.ct
  obtain ⟨cr, hr, _⟩ := h.b
  exact Blk.ne_ hr hcs (by decide)
theorem BS.nMk (h : BS w gB gk gM gb gt n mem tu d) : gM ≠ gk := by
  obtain ⟨cs, hcs, _⟩ := h.c
  exact Blk.ne_ h.r.b hcs (by decide)
theorem BS.ntk (h : BS w gB gk gM gb gt n mem tu d) : gt ≠ gk := Cells.ne h.r.ct h.c (by decide)
/-- a byte of the memory is written -/
theorem BS.put {mem' : Nat → Int} {tu' : Nat → Bool} (h : BS w gB gk gM gb gt n mem tu d) (f : Fr (fun k => k = gb ∨ k = gt) w w') (hr : RM w' gM gb gt n mem' tu') : BS w' gB gk gM gb gt n mem' tu' d :=
  ⟨hr, h.b.fr f (fun e => by rcases e with e | e; exact h.nBb e; exact h.nBt e), h.c.fr f (fun e => by rcases e with e | e; exact h.ne e; exact h.ntk e.symm), h.ne⟩
/-- a byte of the disk is written -/
theorem BS.setD (h : BS w gB gk gM gb gt n mem tu d) (j : Nat) (b : Int) : BS (w.setCell ⟨gk, j, none⟩ (.int .u8 b)) gB gk gM gb gt n mem tu (updI d j b) := by
  have f := Fr.set1 w gk j (.int .u8 b)
  exact ⟨h.r.fr f (fun e => h.nMk e) (fun e => h.ne e.symm) (fun e => h.ntk e), h.b.fr f (fun e => h.nBk e), Cells.congr (Cells.set_ h.c j _) (fun i hi => by unfold putV updI; split <;> rfl), h.ne⟩
theorem BS.congr {mem' : Nat → Int} {tu' : Nat → Bool} {d' : Nat → Int} (h : BS w gB gk gM gb gt n mem tu d) (h1 : ∀ i, mem i = mem' i) (h2 : ∀ i, tu i = tu' i) (h3 : ∀ i, d i = d' i) : BS w gB gk gM gb gt n mem' tu' d' := by
  obtain rfl : mem = mem' := funext h1
  obtain rfl : tu = tu' := funext h2
  obtain rfl : d = d' := funext h3
  exact h
end
/-- the disk of the document's bus with r bytes of a sector laid -/
def dpart (d mem : Nat → Int) (s A r : Nat) : Nat → Int := fun i => if s * 64 ≤ i ∧ i < s * 64 + r then mem (A + (i - s * 64)) else d i
theorem dpart_succ (d mem : Nat → Int) (s A r : Nat) : updI (dpart d mem s A r) (s * 64 + r) (mem (A + r)) = dpart d mem s A (r + 1) := by
  funext i
  unfold updI dpart
  by_cases e : i = s * 64 + r
  · rw [if_pos e, if_pos (by omega), show A + (i - s * 64) = A + r by omega]
  · rw [if_neg e]
    by_cases h : s * 64 ≤ i ∧ i < s * 64 + r
    · rw [if_pos h, if_pos (by omega)]
    · rw [if_neg h, if_neg (by omega)]
set_option maxRecDepth 100000 in
theorem drive_any (w : World) (gB gk gM gb gt : Nat) (m : Ms) (d : Nat → Int) (h : BS w gB gk gM gb gt m.n m.mem m.tu d) (hn : m.n ≤ 64) (s at_ c : Int) (s0 : 0 ≤ s) (s1 : s ≤ 4294967295) (a0 : 0 ≤ at_) (a1 : at_ ≤ 4294967295) (q0 : 0 ≤ c) (q1 : c ≤ 4294967295) :
    Calls Tryd.prog 59 #[.pointer (some ⟨gB, 0, none⟩), .int .u32 s, .int .u32 at_, .int .u32 c] w fun e w' => e = .returned (.bool (doB m s at_ c)) ∧ BS w' gB gk gM gb gt m.n (doM d m s at_ c).mem (doM d m s at_ c).tu (doD d m s at_ c) ∧ Fr (fun k => k = gb ∨ k = gt ∨ k = gk) w w' := by
  have Hhas := Lib.hid (has_any w gM gb gt m.n m.mem m.tu h.r hn at_ a0 a1)
  have c0 := h.c0
  by_cases hs : s < 16
  · by_cases ha : at_ % 64 = 0
    · by_cases hr : at_ < (m.n : Int) * 64
      · have e3 : decide (at_ < (m.n : Int) * 64) = true := by simp [hr]
        rw [e3] at Hhas
        obtain ⟨k, rfl⟩ : ∃ k : Nat, s = k := ⟨s.toNat, by omega⟩
        obtain ⟨A, rfl⟩ : ∃ A : Nat, at_ = A := ⟨at_.toNat, by omega⟩
        by_cases hc1 : c = 1
        · subst hc1
          have hb : doB m k A 1 = true := by simp [doB, hs, ha, hr]
          have eD : doD d m k A 1 = d := by rw [doD, if_neg (by omega)]
          have eM : doM d m k A 1 = m.puts A (sect d k) 64 := by rw [doM, if_pos ⟨hb, rfl⟩]; rfl
          rw [hb, eD, eM]
          clear hb eD eM e3
          go_enter Tryd.func59, Tryd.ntmps59
          go_wp2_with fail
          refine (Hhas.out).mono ?_
          rintro e w' ⟨rfl, rfl⟩
          go_wp2_with fail
          go_loopw [9] (fun i wr => ∃ r : Nat, r ≤ 64 ∧ i = .int .u32 r ∧ BS wr gB gk gM gb gt m.n (m.puts A (sect d k) r).mem (m.puts A (sect d k) r).tu d ∧ Fr (fun k => k = gb ∨ k = gt ∨ k = gk) w wr) (fun i _ => 64 - (intOf i).toNat)
          case atStart => exact ⟨0, by omega, rfl, h, Fr.refl _ _⟩
          case round =>
            clear c0 h
            obtain ⟨r, hrr, rfl, h, fr⟩ := hrel
            by_cases hlt : r < 64
            · obtain ⟨jk, hjk⟩ : ∃ q : Nat, q = k * 64 + r := ⟨_, rfl⟩
              obtain ⟨ja, hja⟩ : ∃ q : Nat, q = A + r := ⟨_, rfl⟩
              have w1 : IntKind.u32.wrap ((k : Int) * 64) = (k : Int) * 64 := IntWalk.u32_in _ (by omega)
              have w2 : IntKind.u32.wrap ((k : Int) * 64 + r) = (jk : Int) := by rw [IntWalk.u32_in _ (by omega)]; omega
              have w3 : IntKind.u32.wrap ((A : Int) + r) = (ja : Int) := by rw [IntWalk.u32_in _ (by omega)]; omega
              have hp := put_any wr.drew gM gb gt m.n _ _ ⟨h.r.b, h.r.cb, h.r.ct⟩ hn ja (by omega) (d jk)
              have d0 : wr.drew.cell? ⟨gB, 0, none⟩ = some (.pointer (some ⟨gM, 0, none⟩)) := h.c0
              have d6 : wr.drew.cell? ⟨gB, 6, none⟩ = some (.slice (some ⟨gk, 0, none⟩) 1024 1024) := h.c6
              have cd : wr.drew.cell? ⟨gk, jk, none⟩ = some (.int .u8 (d jk)) := h.c.cell jk (by omega)
              have y0 : (0 : Int) ≤ (jk : Int) := by omega
              have y1 : (jk : Int) < 1024 := by omega
              have em : updI (m.puts A (sect d k) r).mem ja (d jk) = (m.puts A (sect d k) (r + 1)).mem := by
                show _ = updI (m.puts A (sect d k) r).mem (A + r) ((sect d k).getD r 0)
                rw [hja, hjk, sect, lst_at _ hlt]
              have et : updB (m.puts A (sect d k) r).tu (ja / 64) true = (m.puts A (sect d k) (r + 1)).tu := by
                show _ = updB (m.puts A (sect d k) r).tu ((A + r) / 64) true
                rw [hja]
              rw [em, et] at hp
              have Hp := Lib.hid hp
              have HB := Lib.hid h
              clear hp em et h hja hjk
              go_wp2_with fail
              go_still_tail 17, (by kernel_rfl)
              change wpList _ _ _ _ _ wr.drew
              go_wp2_with fail
              refine (Hp.out).mono ?_
              rintro e w5 ⟨rfl, hR5, f5⟩
              have hB5 : BS w5 gB gk gM gb gt m.n (m.puts A (sect d k) (r + 1)).mem (m.puts A (sect d k) (r + 1)).tu d := BS.put (w := wr.drew) ⟨⟨HB.out.r.b, HB.out.r.cb, HB.out.r.ct⟩, HB.out.b, HB.out.c, HB.out.ne⟩ f5 hR5
              have fr5 := fr.drew.trans f5 (S := fun k => k = gb ∨ k = gt ∨ k = gk) (fun i hi e => by rcases e with e | e; exact .inl e; exact .inr (.inl e))
              go_wp2_with fail
              go_roundw
              case rel => exact ⟨r + 1, by omega, by go_num, hB5, fr5⟩
              case measure => simp [intOf]; omega
            · have e : r = 64 := by omega
              rw [e] at h
              clear e
              go_wp2_with fail
              go_ret
              exact ⟨rfl, h, fr⟩
        · by_cases hc2 : c = 2
          · subst hc2
            have hb : doB m k A 2 = true := by simp [doB, hs, ha, hr]
            have eD : doD d m k A 2 = dpart d m.mem k A 64 := by rw [doD, if_pos ⟨hb, rfl⟩]; rfl
            have eM : doM d m k A 2 = m := by rw [doM, if_neg (by omega)]
            rw [hb, eD, eM]
            have h0 : BS w gB gk gM gb gt m.n m.mem m.tu (dpart d m.mem k A 0) := h.congr (fun _ => rfl) (fun _ => rfl) (fun i => by unfold dpart; rw [if_neg (by omega)])
            clear hb eD eM e3 hc1
            go_enter Tryd.func59, Tryd.ntmps59
            go_wp2_with fail
            refine (Hhas.out).mono ?_
            rintro e w' ⟨rfl, rfl⟩
            go_wp2_with fail
            go_loopw [9] (fun i wr => ∃ r : Nat, r ≤ 64 ∧ i = .int .u32 r ∧ BS wr gB gk gM gb gt m.n m.mem m.tu (dpart d m.mem k A r) ∧ Fr (fun k => k = gb ∨ k = gt ∨ k = gk) w wr) (fun i _ => 64 - (intOf i).toNat)
            case atStart => exact ⟨0, by omega, rfl, h0, Fr.refl _ _⟩
            case round =>
              clear c0 h h0
              obtain ⟨r, hrr, rfl, h, fr⟩ := hrel
              by_cases hlt : r < 64
              · obtain ⟨jk, hjk⟩ : ∃ q : Nat, q = k * 64 + r := ⟨_, rfl⟩
                obtain ⟨ja, hja⟩ : ∃ q : Nat, q = A + r := ⟨_, rfl⟩
                obtain ⟨NN, hNN⟩ : ∃ q : Nat, q = m.n * 64 := ⟨_, rfl⟩
                have w1 : IntKind.u32.wrap ((k : Int) * 64) = (k : Int) * 64 := IntWalk.u32_in _ (by omega)
                have w2 : IntKind.u32.wrap ((k : Int) * 64 + r) = (jk : Int) := by rw [IntWalk.u32_in _ (by omega)]; omega
                have w3 : IntKind.u32.wrap ((A : Int) + r) = (ja : Int) := by rw [IntWalk.u32_in _ (by omega)]; omega
                have d0 : wr.drew.cell? ⟨gB, 0, none⟩ = some (.pointer (some ⟨gM, 0, none⟩)) := h.c0
                have d6 : wr.drew.cell? ⟨gB, 6, none⟩ = some (.slice (some ⟨gk, 0, none⟩) 1024 1024) := h.c6
                have dM : wr.drew.cell? ⟨gM, 0, none⟩ = some (.slice (some ⟨gb, 0, none⟩) NN NN) := by rw [hNN]; exact h.r.b.cell 0
                have cd : wr.drew.cell? ⟨gb, ja, none⟩ = some (.int .u8 (m.mem ja)) := h.r.cb.cell ja (by omega)
                have ck : wr.drew.cell? ⟨gk, jk, none⟩ = some (.int .u8 (dpart d m.mem k A r jk)) := h.c.cell jk (by omega)
                have zk : wr.drew.frozen? ⟨gk, jk, none⟩ = false := Cells.frozen h.c jk
                have y0 : (0 : Int) ≤ (jk : Int) := by omega
                have y1 : (jk : Int) < 1024 := by omega
                have y2 : (0 : Int) ≤ (ja : Int) := by omega
                have y3 : (ja : Int) < (NN : Int) := by omega
                have HB : Hid (BS (wr.drew.setCell ⟨gk, jk, none⟩ (.int .u8 (m.mem ja))) gB gk gM gb gt m.n m.mem m.tu (dpart d m.mem k A (r + 1))) := Lib.hid (by
                  have := BS.setD (w := wr.drew) ⟨⟨h.r.b, h.r.cb, h.r.ct⟩, h.b, h.c, h.ne⟩ jk (m.mem ja)
                  rw [hja, hjk, dpart_succ] at this
                  rw [hja, hjk]
                  exact this)
                have HF := Lib.hid (fr.drew.setCell (p := ⟨gk, jk, none⟩) (.inl (.inr (.inr rfl))) (.int .u8 (m.mem ja)))
                clear h hja hjk hNN
                go_wp2_with fail
                go_still_tail 21, (by kernel_rfl)
                change wpList _ _ _ _ _ wr.drew
                go_wp2_with fail
                go_roundw
                case rel => exact ⟨r + 1, by omega, by go_num, HB.out, HF.out⟩
                case measure => simp [intOf]; omega
              · have e : r = 64 := by omega
                rw [e] at h
                clear e
                go_wp2_with fail
                go_ret
                exact ⟨rfl, h, fr⟩
          · have hb : doB m k A c = false := by simp [doB, hc1, hc2]
            have eD : doD d m k A c = d := by rw [doD, if_neg (by rw [hb]; simp)]
            have eM : doM d m k A c = m := by rw [doM, if_neg (by rw [hb]; simp)]
            rw [hb, eD, eM]
            have q1 : (c == 1) = false := by simpa using hc1
            have q2 : (c == 2) = false := by simpa using hc2
            have q3 : (c != 1) = true := by simpa using hc1
            have q4 : (c != 2) = true := by simpa using hc2
            clear hc1 hc2
            clear hb eD eM
            go_enter Tryd.func59, Tryd.ntmps59
            go_wp2_with fail
            refine (Hhas.out).mono ?_
            rintro e w' ⟨rfl, rfl⟩
            go_wp2_with fail
            go_ret
            exact ⟨rfl, h, Fr.refl _ _⟩
      · have hb : doB m s at_ c = false := by simp [doB, hr]
        have eD : doD d m s at_ c = d := by rw [doD, if_neg (by rw [hb]; simp)]
        have eM : doM d m s at_ c = m := by rw [doM, if_neg (by rw [hb]; simp)]
        rw [hb, eD, eM]
        have e3 : decide (at_ < (m.n : Int) * 64) = false := by simp; omega
        rw [e3] at Hhas
        clear hr e3
        clear hb eD eM
        go_enter Tryd.func59, Tryd.ntmps59
        go_wp2_with fail
        refine (Hhas.out).mono ?_
        rintro e w' ⟨rfl, rfl⟩
        go_wp2_with fail
        go_ret
        exact ⟨rfl, h, Fr.refl _ _⟩
    · have hb : doB m s at_ c = false := by simp [doB, ha]
      have eD : doD d m s at_ c = d := by rw [doD, if_neg (by rw [hb]; simp)]
      have eM : doM d m s at_ c = m := by rw [doM, if_neg (by rw [hb]; simp)]
      rw [hb, eD, eM]
      have q3 : (at_ % 64 == 0) = false := by simpa using ha
      have q4 : (at_ % 64 != 0) = true := by simpa using ha
      clear ha
      clear hb eD eM
      go_enter Tryd.func59, Tryd.ntmps59
      go_wp2_with fail
      go_ret
      exact ⟨rfl, h, Fr.refl _ _⟩
  · have hb : doB m s at_ c = false := by simp [doB, hs]
    have eD : doD d m s at_ c = d := by rw [doD, if_neg (by rw [hb]; simp)]
    have eM : doM d m s at_ c = m := by rw [doM, if_neg (by rw [hb]; simp)]
    rw [hb, eD, eM]
    have hs1 : 16 ≤ s := by omega
    clear hs
    clear hb eD eM
    go_enter Tryd.func59, Tryd.ntmps59
    go_wp2_with fail
    go_ret
    exact ⟨rfl, h, Fr.refl _ _⟩
/-- a bus over a memory, with a new disk -/
def NewB (w : World) (gM : Nat) (zs : List Int) (e : Ending) (w' : World) : Prop := ∃ gB gk, e = .returned (.pointer (some ⟨gB, 0, none⟩)) ∧ Blk w' gB 83 (busRow gM gk) ∧ Cells w' gk 5 1024 (fun i => .int .u8 (dinit zs i)) ∧ w.heap.size ≤ gk ∧ w.heap.size ≤ gB ∧ Fr (fun _ => False) w w'
set_option maxRecDepth 100000 in
theorem bus_new (w : World) (gM : Nat) (A : Option Addr) (len cap : Nat) (zs : List Int) (hz : IntsAt .u8 w w.heap.size A len zs) (hl : len ≤ 1024) :
    Calls Tryd.prog 30 #[.pointer (some ⟨gM, 0, none⟩), .slice A len cap] w (NewB w gM zs) := by
  have hmk : ∀ W, (Instr.makeSlice 24 (.int .i64 1024) (.int .i64 1024)).run Tryd.prog W = .ok (.slice (some ⟨W.heap.size, 0, none⟩) 1024 1024) (W.alloc (.cells (zU 1024) 5)) := fun W => run_makeU .i64 1024 (by omega) W
  have HC0 := Lib.hid (cellsU w 1024 rfl)
  have f0 := (Fr.refl (fun _ => False) w).alloc (.cells (zU 1024) 5)
  have HZ0 := Lib.hid (hz.fr f0 (Nat.le_refl _) (fun _ _ e => e))
  have hlz := Lib.hid hz.1
  have HF0 := Lib.hid f0
  have hs1 : (w.alloc (.cells (zU 1024) 5)).heap.size = w.heap.size + 1 := by simp
  have hsz := szU
  clear f0
  go_enter Tryd.func30, Tryd.ntmps30
  go_wp2_with
    (refine wpList_copy_cells rfl (.tmp 7) (.tmp 8) 24 24 rfl 5 Tryd.underlying24 hsz w.heap.size 0 1024 1024 A len cap rfl rfl 5 1024 _ HC0.out .u8 w.heap.size len zs (by omega) HZ0.out (by omega) ?_
     intro w2 hc2 f2
     have hc3 : Cells w2 w.heap.size 5 1024 (fun i => .int .u8 (dinit zs i)) := Cells.congr hc2 (fun i hi => by
       unfold putR dinit
       rw [List.length_map, hlz.out]
       by_cases h : i < len
       · rw [if_pos (by omega), if_pos h, Nat.sub_zero]
         have := hlz.out
         simp [List.getD_eq_getElem?_getD, show i < zs.length by omega]
       · rw [if_neg (by omega), if_neg h])
     have hfin : NewB w gM zs (.returned (.pointer (some ⟨w2.heap.size, 0, none⟩))) (w2.alloc (.cells (busRow gM w.heap.size) 83)) := ⟨w2.heap.size, w.heap.size, rfl, Blk.new _ _ _, hc3.alloc _, Nat.le_refl _, by have := f2.size; omega, (HF0.out.trans (S := fun _ => False) f2 (fun i hi e => by omega)).alloc _⟩
     have HFN := Lib.hid hfin
     clear hfin hc2 hc3)
  go_ret
  exact HFN.out
end Go.Proofs.YthiephlfhbkcbaaDoor.Rf
