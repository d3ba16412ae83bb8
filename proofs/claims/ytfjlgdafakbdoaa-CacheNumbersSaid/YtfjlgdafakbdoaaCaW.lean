/- The document's cache: Drop. -/
import Derived.Test.YtfjlgdafakbdoaaCaV
import Derived.Deep.QuietTactic
import Derived.BigQuiet
namespace Go.Proofs.Ytfjlgdafakbdoaa.Ca
open Go.RowKit Mz Go.Maps By
set_option linter.unusedVariables false
set_option linter.unusedSimpArgs false
set_option maxHeartbeats 4000000

theorem runlink_v (w : World) (g : Nat) (d : Ds) (h : Doc w g d) (k : Ky) :
    Calls Try.prog 44 #[.pointer (some ⟨g, 0, none⟩), .int .u32 k.1, .int .u32 k.2] w fun e w' => e = .returned (.tuple #[]) ∧ ∃ d' : Ds, Doc w' g d' ∧ d'.A = d.A ∧ d'.room = d.room ∧ d'.fl = d.fl ∧ views d' = (views d).map (unlV k) ∧ (∀ q, d'.own g q → d.own g q ∨ w.heap.size ≤ q) ∧ Fr (fun x => ab d.A = some x) w w' := by
  refine (runlink_any w g d h k).mono ?_
  rintro e w' ⟨rfl, d', h', e1, e2, e3, e4, e5, e6, e7, e8⟩
  refine ⟨rfl, d', h', e1, e3, e4, ?_, e7, e8⟩
  unfold views
  apply List.ext_getElem
  · simp [e5]
  · intro q q1 q2
    have hq : q < d.bl.length := by simp at q1; omega
    have h6 := e6 q hq
    rw [if_pos hq, nthD_at (by omega), nthD_at hq] at h6
    simp only [List.getElem_map]
    exact h6
def goneD (ps : List Int) (b : Db) : Bool := hasI ps (b.pl / 64)
def goneV (ps : List Int) (v : Dv) : Bool := hasI ps (v.k.2 / 64)
def unls (L : List Dv) (ks : List Ky) : List Dv := ks.foldl (fun L k => L.map (unlV k)) L
def vdrop (ps : List Int) (L : List Dv) : List Dv := unls (L.filter (fun v => !goneV ps v)) ((L.filter (goneV ps)).map Dv.k)
def keepD (ps : List Int) (l : List Db) : List Db := l.filter (fun b => !goneD ps b)
def gonesD (ps : List Int) (l : List Db) : List Db := l.filter (goneD ps)
theorem keep_snoc {ps : List Int} {l : List Db} {i : Nat} (h : i < l.length) : keepD ps (l.take (i + 1)) = (if goneD ps (nthD l i) then keepD ps (l.take i) else keepD ps (l.take i) ++ [nthD l i]) ∧ gonesD ps (l.take (i + 1)) = (if goneD ps (nthD l i) then gonesD ps (l.take i) ++ [nthD l i] else gonesD ps (l.take i)) := by
  unfold keepD gonesD
  rw [List.take_add_one, List.getElem?_eq_getElem h, List.filter_append, List.filter_append, nthD_at h]
  by_cases e : goneD ps l[i] = true
  · simp [e]
  · simp [e]
def hasU (ps : List Int) (x : Int) (k : Nat) : Bool := hasI (ps.take k) x
theorem hasU_succ {ps : List Int} {x : Int} {k : Nat} (h : k < ps.length) : hasU ps x (k + 1) = (hasU ps x k || (ps.getD k 0 == x)) := by
  unfold hasU hasI
  rw [List.take_add_one, List.getElem?_eq_getElem h, List.any_append, List.getD_eq_getElem?_getD, List.getElem?_eq_getElem h]
  simp
theorem hasU_all (ps : List Int) (x : Int) (k : Nat) (h : ps.length ≤ k) : hasU ps x k = hasI ps x := by unfold hasU; rw [List.take_of_length_le h]
/-- the rows in the making: what is kept, what is gone -/
structure DR (w : World) (d : Ds) (ps : List Int) (i : Nat) (A1 : Option Addr) (n1 c1 : Nat) (A2 : Option Addr) (n2 c2 : Nat) (wr : World) : Prop where
  r1 : wr.ownsRow w.heap.size 73 5 (.slice A1 n1 c1) n1 (fcells 5 dc (keepD ps (d.bl.take i)))
  l1 : (keepD ps (d.bl.take i)).length = n1
  r2 : wr.ownsRow w.heap.size 73 5 (.slice A2 n2 c2) n2 (fcells 5 dc (gonesD ps (d.bl.take i)))
  l2 : (gonesD ps (d.bl.take i)).length = n2
  ne : ∀ q, ab A1 = some q → ab A2 ≠ some q
  fr : Fr (fun _ => False) w wr
theorem DR.le {w wr : World} {d : Ds} {ps : List Int} {i : Nat} {A1 A2 : Option Addr} {n1 c1 n2 c2 : Nat} (h : DR w d ps i A1 n1 c1 A2 n2 c2 wr) : n1 ≤ i ∧ n2 ≤ i := by
  have h1 := h.l1
  have h2 := h.l2
  have h3 := List.length_filter_le (fun b => !goneD ps b) (d.bl.take i)
  have h4 := List.length_filter_le (goneD ps) (d.bl.take i)
  have h5 := List.length_take_le i d.bl
  unfold keepD at h1
  unfold gonesD at h2
  omega
theorem DR.f {w wr w' : World} {d : Ds} {ps : List Int} {i : Nat} {A1 A2 : Option Addr} {n1 c1 n2 c2 : Nat} (h : DR w d ps i A1 n1 c1 A2 n2 c2 wr) (f : Fr (fun _ => False) wr w') : DR w d ps i A1 n1 c1 A2 n2 c2 w' :=
  ⟨own_fr h.r1 f (fun _ _ e => e), h.l1, own_fr h.r2 f (fun _ _ e => e), h.l2, h.ne, h.fr.tr f⟩
theorem own_ab {w : World} {base : Nat} {e : TypeId} {sz n c q : Nat} {A : Option Addr} {xs : List Value} (h : w.ownsRow base e sz (.slice A n c) n xs) (hq : ab A = some q) : (Value.slice A n c).ownBlock = some q := by
  rcases h.2 with ⟨e1, _⟩ | ⟨g', cap, cur, e1, _⟩
  · have e2 : A = none := by injection e1
    rw [e2] at hq; cases hq
  · have e2 : A = some ⟨g', 0, none⟩ := by injection e1
    rw [e2] at hq ⊢
    simpa [Value.ownBlock, ab] using hq
theorem DR.out1 {w wr w7 : World} {d : Ds} {ps : List Int} {i : Nat} {A1 A2 A : Option Addr} {n1 c1 n2 c2 c : Nat} {o : Obj} (h : DR w d ps i A1 n1 c1 A2 n2 c2 wr) (hi : i < d.bl.length) (hg : goneD ps (nthD d.bl i) = false)
    (ho : w7.ownsRow w.heap.size 73 5 (.slice A (n1 + 1) c) (n1 + 1) (fcells 5 dc (keepD ps (d.bl.take i)) ++ [.int .u32 (nthD d.bl i).pc, .int .u32 (nthD d.bl i).pl, .string (nthD d.bl i).code, .int .i64 (nthD d.bl i).ct, .slice (nthD d.bl i).A (nthD d.bl i).ks.length (nthD d.bl i).c]))
    (hgr : (wr.alloc o).grownBy w7 (Value.slice A1 n1 c1).ownBlock) (hat : (Value.slice A (n1 + 1) c).ownBlock = (Value.slice A1 n1 c1).ownBlock ∨ (Value.slice A (n1 + 1) c).ownBlock = some (wr.alloc o).heap.size) :
    DR w d ps (i + 1) A (n1 + 1) c A2 n2 c2 w7 := by
  obtain ⟨k1, k2⟩ := keep_snoc (ps := ps) hi
  rw [hg] at k1 k2
  have k1 : keepD ps (d.bl.take (i + 1)) = keepD ps (d.bl.take i) ++ [nthD d.bl i] := k1
  have k2 : gonesD ps (d.bl.take (i + 1)) = gonesD ps (d.bl.take i) := k2
  have fa : Fr (fun _ => False) wr (wr.alloc o) := (Fr.refl _ wr).alloc o
  have fg : Fr (fun q => ab A1 = some q) (wr.alloc o) w7 := (Fr.refl _ _).grown hgr (fun q hq => .inl (ab_own hq))
  refine ⟨by rw [k1, fcells_snoc]; exact ho, by rw [k1, List.length_append, h.l1]; rfl, by rw [k2]; exact own_fr (own_fr h.r2 fa (fun _ _ e => e)) fg (fun q hq e => h.ne q e (ab_own hq)), by rw [k2]; exact h.l2, fun q hq e => ?_, (h.fr.tr fa).trans fg (fun q hq e => by have := (own_blk h.r1 q e).2.1; omega)⟩
  rcases hat with h6 | h6
  · rw [own_ab ho hq] at h6
    exact h.ne q (ab_own h6.symm) e
  · rw [own_ab ho hq] at h6
    injection h6 with h6
    have h7 := (own_blk h.r2 q e).1
    simp at h6
    omega
theorem DR.out2 {w wr w7 : World} {d : Ds} {ps : List Int} {i : Nat} {A1 A2 A : Option Addr} {n1 c1 n2 c2 c : Nat} {o : Obj} (h : DR w d ps i A1 n1 c1 A2 n2 c2 wr) (hi : i < d.bl.length) (hg : goneD ps (nthD d.bl i) = true)
    (ho : w7.ownsRow w.heap.size 73 5 (.slice A (n2 + 1) c) (n2 + 1) (fcells 5 dc (gonesD ps (d.bl.take i)) ++ [.int .u32 (nthD d.bl i).pc, .int .u32 (nthD d.bl i).pl, .string (nthD d.bl i).code, .int .i64 (nthD d.bl i).ct, .slice (nthD d.bl i).A (nthD d.bl i).ks.length (nthD d.bl i).c]))
    (hgr : (wr.alloc o).grownBy w7 (Value.slice A2 n2 c2).ownBlock) (hat : (Value.slice A (n2 + 1) c).ownBlock = (Value.slice A2 n2 c2).ownBlock ∨ (Value.slice A (n2 + 1) c).ownBlock = some (wr.alloc o).heap.size) :
    DR w d ps (i + 1) A1 n1 c1 A (n2 + 1) c w7 := by
  obtain ⟨k1, k2⟩ := keep_snoc (ps := ps) hi
  rw [hg] at k1 k2
  have k1 : keepD ps (d.bl.take (i + 1)) = keepD ps (d.bl.take i) := k1
  have k2 : gonesD ps (d.bl.take (i + 1)) = gonesD ps (d.bl.take i) ++ [nthD d.bl i] := k2
  have fa : Fr (fun _ => False) wr (wr.alloc o) := (Fr.refl _ wr).alloc o
  have fg : Fr (fun q => ab A2 = some q) (wr.alloc o) w7 := (Fr.refl _ _).grown hgr (fun q hq => .inl (ab_own hq))
  refine ⟨by rw [k1]; exact own_fr (own_fr h.r1 fa (fun _ _ e => e)) fg (fun q hq e => h.ne q (ab_own hq) e), by rw [k1]; exact h.l1, by rw [k2, fcells_snoc]; exact ho, by rw [k2, List.length_append, h.l2]; rfl, fun q hq e => ?_, (h.fr.tr fa).trans fg (fun q hq e => by have := (own_blk h.r2 q e).2.1; omega)⟩
  rcases hat with h6 | h6
  · rw [own_ab ho e] at h6
    exact h.ne q hq (ab_own h6.symm)
  · rw [own_ab ho e] at h6
    injection h6 with h6
    have h7 := (own_blk h.r1 q hq).1
    simp at h6
    omega
theorem gone_view (ps : List Int) (b : Db) : goneV ps b.v = goneD ps b := rfl
theorem keep_views (ps : List Int) (l : List Db) : (keepD ps l).map Db.v = (l.map Db.v).filter (fun v => !goneV ps v) ∧ (gonesD ps l).map Db.k = ((l.map Db.v).filter (goneV ps)).map Dv.k := by
  unfold keepD gonesD
  constructor
  · rw [List.filter_map]; rfl
  · rw [List.filter_map, List.map_map]; rfl
theorem unls_snoc (L : List Dv) (ks : List Ky) (k : Ky) : unls L (ks ++ [k]) = (unls L ks).map (unlV k) := by
  unfold unls
  rw [List.foldl_append]
  rfl
/-- the kept ones are laid in the cache -/
theorem Doc.kept {w wo : World} {g : Nat} {d : Ds} {ps : List Int} {A1 A2 : Option Addr} {n1 c1 n2 c2 : Nat} (h : Doc w g d) (hD : DR w d ps d.bl.length A1 n1 c1 A2 n2 c2 wo) :
    Doc (wo.setCell ⟨g, 0, none⟩ (.slice A1 n1 c1)) g { d with bl := keepD ps d.bl, A := A1, c := c1 } := by
  have h1 := h.fr0 hD.fr
  have fs : Fr (fun q => q = g) wo (wo.setCell ⟨g, 0, none⟩ (.slice A1 n1 c1)) := (Fr.refl (fun q => q = g) wo).setCell (p := ⟨g, 0, none⟩) (.inl rfl) _
  have r1 := hD.r1
  have l1 := hD.l1
  rw [List.take_length] at r1 l1
  have hg := h.b.lt
  have hsub : (keepD ps d.bl).Sublist d.bl := List.filter_sublist
  have ok := h.ok
  refine ⟨?_, ?_, fun b hb => ?_, h.sep.sublist hsub, ⟨ok.room, ?_, fun b hb => ok.keys b (hsub.subset hb), fun b hb => ok.ct b (hsub.subset hb), fun b hb => ok.lk b (hsub.subset hb), ok.fl⟩⟩
  · have := h1.b.set_ 0 (.slice A1 n1 c1)
    unfold cells3 at this ⊢
    rw [show ({ d with bl := keepD ps d.bl, A := A1, c := c1 } : Ds).bl.length = n1 from l1]
    exact this
  · unfold DRow
    rw [show ({ d with bl := keepD ps d.bl, A := A1, c := c1 } : Ds).bl.length = n1 from l1]
    exact own_low (own_fr r1 fs (fun q hq e => by have := (own_blk r1 q (ab_own hq)).2.1; omega)) (Nat.zero_le _)
  · refine (h1.rows b (hsub.subset hb)).fr fs (fun q hq e => ?_)
    obtain ⟨_, _, cs, hb2⟩ := own_blk (h1.rows b (hsub.subset hb)) q hq
    subst e
    exact Blk.ne_ hb2 h1.b (by decide) rfl
  · show ((keepD ps d.bl).length : Int) ≤ d.room
    have := List.length_filter_le (fun b => !goneD ps b) d.bl
    have := ok.len
    unfold keepD
    omega
/-- where the last loop stands -/
def DG (w : World) (g : Nat) (d : Ds) (ps : List Int) (A1 A2 : Option Addr) (n2 c2 j : Nat) (wr : World) : Prop :=
  (∃ d' : Ds, Doc wr g d' ∧ d'.A = A1 ∧ d'.room = d.room ∧ d'.fl = d.fl ∧ views d' = unls ((views d).filter (fun v => !goneV ps v)) (((gonesD ps d.bl).map Db.k).take j) ∧ ∀ q, d'.own g q → d.own g q ∨ w.heap.size ≤ q) ∧ wr.ownsRow w.heap.size 73 5 (.slice A2 n2 c2) n2 (fcells 5 dc (gonesD ps d.bl)) ∧ Fr (d.own g) w wr
theorem dg_zero {w wo : World} {g : Nat} {d : Ds} {ps : List Int} {A1 A2 : Option Addr} {n1 c1 n2 c2 : Nat} (h : Doc w g d) (hD : DR w d ps d.bl.length A1 n1 c1 A2 n2 c2 wo) : DG w g d ps A1 A2 n2 c2 0 (wo.setCell ⟨g, 0, none⟩ (.slice A1 n1 c1)) := by
  have r2 := hD.r2
  rw [List.take_length] at r2
  have fs : Fr (fun q => q = g) wo (wo.setCell ⟨g, 0, none⟩ (.slice A1 n1 c1)) := (Fr.refl (fun q => q = g) wo).setCell (p := ⟨g, 0, none⟩) (.inl rfl) _
  have hg := h.b.lt
  refine ⟨⟨_, h.kept hD, rfl, rfl, rfl, ?_, fun q hq => ?_⟩, own_fr r2 fs (fun q hq e => by have := (own_blk r2 q (ab_own hq)).2.1; omega), (hD.fr.mono (S' := d.own g) (fun _ _ e => e.elim)).tr (fs.mono (fun q _ e => .inl e))⟩
  · show (keepD ps d.bl).map Db.v = _
    rw [(keep_views ps d.bl).1]
    rfl
  · rcases hq with h3 | h3 | ⟨b, hb, h3⟩
    · exact .inl (.inl h3)
    · right; exact (own_blk hD.r1 q h3).2.1
    · exact .inl (.inr (.inr ⟨b, (List.filter_sublist).subset hb, h3⟩))
def RDrop (w : World) (g : Nat) (d : Ds) (ps : List Int) (e : Ending) (w' : World) : Prop :=
  e = .returned (.int .i64 ((gonesD ps d.bl).length : Nat)) ∧ ∃ d' : Ds, Doc w' g d' ∧ d'.room = d.room ∧ d'.fl = d.fl ∧ views d' = vdrop ps (views d) ∧ (∀ q, d'.own g q → d.own g q ∨ w.heap.size ≤ q) ∧ Fr (d.own g) w w'
set_option maxRecDepth 100000 in
theorem rdrop_any (w : World) (g : Nat) (d : Ds) (h : Doc w g d) (ps : List Int) (B np pc : Nat) (pA : Option Addr) (hp : IntsAt .i64 w B pA np ps) (hm : np ≤ maxLen) (hB : B ≤ w.heap.size) :
    Calls Try.prog 33 #[.pointer (some ⟨g, 0, none⟩), .slice pA np pc] w (RDrop w g d ps) := by
  obtain ⟨i0, hin, hz0, hz1, hz2⟩ := info_parts infoB
  have hl24 := h.ok_len
  obtain ⟨n, hn⟩ : ∃ n, d.bl.length = n := ⟨_, rfl⟩
  rw [hn] at hl24
  have HN := Lib.hid hn
  have H := Lib.hid h
  have HPS := Lib.hid hp
  have hlt := h.b.lt
  unfold maxLen at hm
  have H0 : Hid (DR w d ps 0 none 0 0 none 0 0 w) := Lib.hid ⟨⟨rfl, .inl ⟨rfl, rfl⟩⟩, rfl, ⟨rfl, .inl ⟨rfl, rfl⟩⟩, rfl, fun q hq => (by cases hq), Fr.refl _ _⟩
  obtain ⟨dA, hdA⟩ : ∃ q, d.A = q := ⟨_, rfl⟩
  obtain ⟨dcap, hdc⟩ : ∃ q, d.c = q := ⟨_, rfl⟩
  have C0 : Hid (w.cell? ⟨g, 0, none⟩ = some (.slice dA n dcap)) := Lib.hid (by have := h.cells.1; rw [hn, hdA, hdc] at this; exact this)
  have HA := Lib.hid hdA
  clear h hn hp hdA hdc
  go_enter Try.func33, Try.ntmps33
  go_wp2_with fail
  go_loopw [5, 6, 7] (fun v1 v2 iv wr => ∃ (i : Nat) (A1 : Option Addr) (n1 c1 : Nat) (A2 : Option Addr) (n2 c2 : Nat), i ≤ n ∧ iv = .int .i64 i ∧ v1 = .slice A1 n1 c1 ∧ v2 = .slice A2 n2 c2 ∧ Hid (DR w d ps i A1 n1 c1 A2 n2 c2 wr)) (fun _ _ iv _ => n - (intOf iv).toNat)
  case atStart => exact ⟨0, none, 0, 0, none, 0, 0, by omega, rfl, rfl, rfl, H0⟩
  case round =>
    obtain ⟨i, A1, n1, c1, A2, n2, c2, hi, rfl, rfl, rfl, hD⟩ := hrel
    obtain ⟨wo, rfl⟩ : ∃ wo : World, wo = wr := ⟨_, rfl⟩
    have c0 := hD.out.fr.cell C0.out hlt (fun e => e)
    obtain ⟨hle1, hle2⟩ := hD.out.le
    have hws := hD.out.fr.size
    clear H0
    by_cases hin' : i < n
    · have hd : decide ((i : Int) < (n : Int)) = true := by simp; omega
      have q0 : (0 : Int) ≤ (i : Int) := by omega
      have q1 : (i : Int) < (n : Int) := by omega
      have hl : i < d.bl.length := by have := HN.out; omega
      obtain ⟨gl, hgl, hgll, hc⟩ := drow_cells H.out.r hl
      have hgl : dA = some ⟨gl, 0, none⟩ := HA.out.symm.trans hgl
      subst hgl
      have hbk := H.out.ok.keys _ (mem_nthD hl)
      obtain ⟨b, hb⟩ : ∃ b, nthD d.bl i = b := ⟨_, rfl⟩
      rw [hb] at hc hbk
      have HBB := Lib.hid hb
      have v0 : w.cell? ⟨gl, i * 5, none⟩ = some (.int .u32 b.pc) := (hc 0 (by omega)).1
      have v1 : w.cell? ⟨gl, i * 5 + 1, none⟩ = some (.int .u32 b.pl) := (hc 1 (by omega)).1
      have v2 : w.cell? ⟨gl, i * 5 + 2, none⟩ = some (.string b.code) := (hc 2 (by omega)).1
      have v3 : w.cell? ⟨gl, i * 5 + 3, none⟩ = some (.int .i64 b.ct) := (hc 3 (by omega)).1
      have v4 : w.cell? ⟨gl, i * 5 + 4, none⟩ = some (.slice b.A b.ks.length b.c) := (hc 4 (by omega)).1
      unfold Ky.Ok Db.k at hbk
      obtain ⟨_, ⟨k2, k3⟩⟩ := hbk
      have k2 : 0 ≤ b.pl := k2
      have k3 : b.pl < 4294967296 := by first | exact k3 | (have : b.pl ≤ 4294967295 := k3; omega)
      have V : Hid (w.cell? ⟨gl, i * 5, none⟩ = some (.int .u32 b.pc) ∧ w.cell? ⟨gl, i * 5 + 1, none⟩ = some (.int .u32 b.pl) ∧ w.cell? ⟨gl, i * 5 + 2, none⟩ = some (.string b.code) ∧ w.cell? ⟨gl, i * 5 + 3, none⟩ = some (.int .i64 b.ct) ∧ w.cell? ⟨gl, i * 5 + 4, none⟩ = some (.slice b.A b.ks.length b.c)) := Lib.hid ⟨v0, v1, v2, v3, v4⟩
      obtain ⟨z, hz⟩ : ∃ z, b.pl / 64 = z := ⟨_, rfl⟩
      have z0 : 0 ≤ z := by omega
      have z1 : z < 67108864 := by omega
      have HZ := Lib.hid hz
      clear hc hb v0 v1 v2 v3 v4 hz
      go_wp2_with fail
      go_loopw [8, 9] (fun hv kv wr => ∃ (k : Nat) (t : Bool), k ≤ np ∧ kv = .int .i64 k ∧ hv = .bool t ∧ Hid (hasU ps z k = t) ∧ Hid (Fr (fun _ => False) wo wr)) (fun _ kv _ => np - (intOf kv).toNat)
      case atStart => exact ⟨0, false, by omega, rfl, rfl, Lib.hid rfl, Lib.hid (Fr.refl _ _)⟩
      case round =>
        obtain ⟨k, t, hk, rfl, rfl, ht, hfw⟩ := hrel
        have cc := hfw.out.cell c0 (by show g < wo.heap.size; omega) (fun e => e)
        have FW := (hD.out.fr.tr hfw.out)
        have hlen : ps.length = np := HPS.out.1
        have hplz := HZ.out
        by_cases hkn : k < np
        · have hd2 : decide ((k : Int) < (np : Int)) = true := by simp; omega
          have k0 : (0 : Int) ≤ (k : Int) := by omega
          have k1 : (k : Int) < (np : Int) := by omega
          have u1 := FW.cell V.out.2.1 hgll (fun e => e)
          obtain ⟨pb, po, hpA, hpb, hpc⟩ := (HPS.out.fr FW hB (fun _ _ e => e)).at_ hkn
          subst hpA
          have hsu := hasU_succ (x := z) (show k < ps.length by omega)
          obtain ⟨y, hy⟩ : ∃ y, ps.getD k 0 = y := ⟨_, rfl⟩
          rw [hy] at hpc hsu
          have HSU := Lib.hid hsu
          have FWh := Lib.hid FW
          have i64z : IntKind.i64.wrap (b.pl / 64) = b.pl / 64 := IntWalk.i64_in _ (by omega)
          have z5 : 0 ≤ b.pl / 64 := by omega
          have z6 : b.pl / 64 < 67108864 := by omega
          cases t with
          | true =>
            have HT : Hid (hasU ps z (k + 1) = true) := Lib.hid (by rw [HSU.out, ht.out]; rfl)
            clear ht hsu hy hlen FW hplz
            go_upto_region 9 with (fail)
            go_quiet (fail)
            go_wp2_with fail
            exact ⟨⟨k + 1, true, by omega, by go_num, rfl, HT, Lib.hid (hfw.out.drewN _)⟩, by simp [intOf]; omega⟩
          | false =>
            by_cases e : y = b.pl / 64
            · have HT : Hid (hasU ps z (k + 1) = true) := Lib.hid (by rw [HSU.out, ht.out, e, hplz]; simp)
              have g1 : (y == b.pl / 64) = true := by simpa using e
              clear ht hsu hy hlen FW hplz e
              go_upto_region 9 with (fail)
              go_quiet (fail)
              go_wp2_with fail
              exact ⟨⟨k + 1, true, by omega, by go_num, rfl, HT, Lib.hid (hfw.out.drewN _)⟩, by simp [intOf]; omega⟩
            · have g1 : (y == b.pl / 64) = false := by simpa using e
              have HT : Hid (hasU ps z (k + 1) = false) := Lib.hid (by rw [HSU.out, ht.out, ← hplz, g1]; rfl)
              clear ht hsu hy hlen FW hplz e
              go_upto_region 9 with (fail)
              go_quiet (fail)
              go_wp2_with fail
              exact ⟨⟨k + 1, false, by omega, by go_num, rfl, HT, Lib.hid (hfw.out.drewN _)⟩, by simp [intOf]; omega⟩
        · have hd2 : decide ((k : Int) < (np : Int)) = false := by simp; omega
          have hT : hasI ps z = t := by rw [← ht.out]; exact (hasU_all ps z k (by omega)).symm
          have hgo : goneD ps b = t := by unfold goneD; rw [hplz]; exact hT
          have D6 := Lib.hid (hD.out.f hfw.out)
          obtain ⟨u0, u1, u2, u3, u4⟩ := V.out
          have u0 := FW.cell u0 hgll (fun e => e)
          have u1 := FW.cell u1 hgll (fun e => e)
          have u2 := FW.cell u2 hgll (fun e => e)
          have u3 := FW.cell u3 hgll (fun e => e)
          have u4 := FW.cell u4 hgll (fun e => e)
          have hgo2 : goneD ps (nthD d.bl i) = t := by rw [HBB.out]; exact hgo
          have HGO := Lib.hid hgo2
          have hrd := reads_blk (size := 5) (n := 1) (Blk.new wr 73 #[.int .u32 b.pc, .int .u32 b.pl, .string b.code, .int .i64 b.ct, .slice b.A b.ks.length b.c]) rfl
          have hws2 := FW.size
          cases t with
          | true =>
            have hownA := D6.out.r2.alloc (.cells #[.int .u32 b.pc, .int .u32 b.pl, .string b.code, .int .i64 b.ct, .slice b.A b.ks.length b.c] 73)
            have HNX : Hid (∀ (A : Option Addr) (c : Nat) (w7 : World), w7.ownsRow w.heap.size 73 5 (.slice A (n2 + 1) c) (n2 + 1) (fcells 5 dc (gonesD ps (d.bl.take i)) ++ [.int .u32 b.pc, .int .u32 b.pl, .string b.code, .int .i64 b.ct, .slice b.A b.ks.length b.c]) → (wr.alloc (.cells #[.int .u32 b.pc, .int .u32 b.pl, .string b.code, .int .i64 b.ct, .slice b.A b.ks.length b.c] 73)).grownBy w7 (Value.slice A2 n2 c2).ownBlock → ((Value.slice A (n2 + 1) c).ownBlock = (Value.slice A2 n2 c2).ownBlock ∨ (Value.slice A (n2 + 1) c).ownBlock = some (wr.alloc (.cells #[.int .u32 b.pc, .int .u32 b.pl, .string b.code, .int .i64 b.ct, .slice b.A b.ks.length b.c] 73)).heap.size) → Hid (DR w d ps (i + 1) A1 n1 c1 A (n2 + 1) c w7)) := Lib.hid (fun A c w7 h1 h2 h3 => Lib.hid (D6.out.out2 hl HGO.out (by rw [HBB.out]; exact h1) h2 h3))
            clear ht hT hgo hgo2 hlen FW hplz
            go_wp2_with
              (at_builtin
               refine wpList_append_any _ rfl (.tmp 45) (.tmp 53) _ rfl w.heap.size 73 i0 _ 5 56 Try.underlying66 hin hz0 hz1 hz2 rfl (by omega) (.slice A2 n2 c2) n2 _ rfl hownA (wr.heap.size + 1) (some ⟨wr.heap.size, 0, none⟩) 1 1 [.int .u32 b.pc, .int .u32 b.pl, .string b.code, .int .i64 b.ct, .slice b.A b.ks.length b.c] rfl hrd (by simp [Value.oneCell']) (by simp only [maxLen]; omega) (by omega) (by simp; omega) ?_
               intro v1 w7 hown1 hg1 hat1
               obtain ⟨A, c, hv1⟩ := slice_form hown1
               subst hv1)
            have HE := HNX.out A c w7 hown1 hg1 hat1
            clear hown1 hg1 hat1 hownA hrd HNX u0 u1 u2 u3 u4
            go_wp2_with fail
            exact ⟨⟨i + 1, A1, n1, c1, A, n2 + 1, c, by omega, by go_num, rfl, rfl, HE⟩, by simp [intOf]; omega⟩
          | false =>
            have hownA := D6.out.r1.alloc (.cells #[.int .u32 b.pc, .int .u32 b.pl, .string b.code, .int .i64 b.ct, .slice b.A b.ks.length b.c] 73)
            have HNX : Hid (∀ (A : Option Addr) (c : Nat) (w7 : World), w7.ownsRow w.heap.size 73 5 (.slice A (n1 + 1) c) (n1 + 1) (fcells 5 dc (keepD ps (d.bl.take i)) ++ [.int .u32 b.pc, .int .u32 b.pl, .string b.code, .int .i64 b.ct, .slice b.A b.ks.length b.c]) → (wr.alloc (.cells #[.int .u32 b.pc, .int .u32 b.pl, .string b.code, .int .i64 b.ct, .slice b.A b.ks.length b.c] 73)).grownBy w7 (Value.slice A1 n1 c1).ownBlock → ((Value.slice A (n1 + 1) c).ownBlock = (Value.slice A1 n1 c1).ownBlock ∨ (Value.slice A (n1 + 1) c).ownBlock = some (wr.alloc (.cells #[.int .u32 b.pc, .int .u32 b.pl, .string b.code, .int .i64 b.ct, .slice b.A b.ks.length b.c] 73)).heap.size) → Hid (DR w d ps (i + 1) A (n1 + 1) c A2 n2 c2 w7)) := Lib.hid (fun A c w7 h1 h2 h3 => Lib.hid (D6.out.out1 hl HGO.out (by rw [HBB.out]; exact h1) h2 h3))
            clear ht hT hgo hgo2 hlen FW hplz
            go_wp2_with
              (at_builtin
               refine wpList_append_any _ rfl (.tmp 55) (.tmp 63) _ rfl w.heap.size 73 i0 _ 5 56 Try.underlying66 hin hz0 hz1 hz2 rfl (by omega) (.slice A1 n1 c1) n1 _ rfl hownA (wr.heap.size + 1) (some ⟨wr.heap.size, 0, none⟩) 1 1 [.int .u32 b.pc, .int .u32 b.pl, .string b.code, .int .i64 b.ct, .slice b.A b.ks.length b.c] rfl hrd (by simp [Value.oneCell']) (by simp only [maxLen]; omega) (by omega) (by simp; omega) ?_
               intro v1 w7 hown1 hg1 hat1
               obtain ⟨A, c, hv1⟩ := slice_form hown1
               subst hv1)
            have HE := HNX.out A c w7 hown1 hg1 hat1
            clear hown1 hg1 hat1 hownA hrd HNX u0 u1 u2 u3 u4
            go_wp2_with fail
            exact ⟨⟨i + 1, A, n1 + 1, c, A2, n2, c2, by omega, by go_num, rfl, rfl, HE⟩, by simp [intOf]; omega⟩
    · have hd : decide ((i : Int) < (n : Int)) = false := by simp; omega
      have hin2 : i = n := by omega
      have htk : d.bl.take i = d.bl := by rw [hin2, ← HN.out, List.take_length]
      have hD2 : DR w d ps d.bl.length A1 n1 c1 A2 n2 c2 wo := by rw [HN.out, ← hin2]; exact hD.out
      have DG0 := Lib.hid (dg_zero H.out hD2)
      have hne := hD2.ne
      have hl2 := hD2.l2
      rw [List.take_length] at hl2
      have hb1 : ∀ q, ab A1 = some q → w.heap.size ≤ q := fun q hq => (own_blk hD2.r1 q hq).2.1
      have HNE := Lib.hid hne
      have HL2 := Lib.hid hl2
      have HB1 := Lib.hid hb1
      have z0 := (H.out.fr0 hD.out.fr).b.frozen 0
      have hg2 : g < wo.heap.size := by omega
      clear hD2 hne hl2 hb1 htk hin2
      go_wp2_with fail
      go_loopw [10] (fun jv wr => ∃ j : Nat, j ≤ n2 ∧ jv = .int .i64 j ∧ Hid (DG w g d ps A1 A2 n2 c2 j wr)) (fun jv _ => n2 - (intOf jv).toNat)
      case atStart => exact ⟨0, by omega, rfl, DG0⟩
      case round =>
        obtain ⟨j, hj, rfl, hG⟩ := hrel
        by_cases hjn : j < n2
        · have hd2 : decide ((j : Int) < (n2 : Int)) = true := by simp; omega
          have j0 : (0 : Int) ≤ (j : Int) := by omega
          have j1 : (j : Int) < (n2 : Int) := by omega
          obtain ⟨⟨d', h', e1, e3, e4, e5, e6⟩, r2, fr⟩ := hG.out
          have hjl : j < (gonesD ps d.bl).length := by rw [HL2.out]; exact hjn
          have hrow : DRow wr A2 c2 (gonesD ps d.bl) := by unfold DRow; rw [HL2.out]; exact own_low r2 (Nat.zero_le _)
          obtain ⟨gl, hgl, hgll, hc⟩ := drow_cells hrow hjl
          subst hgl
          obtain ⟨b, hb⟩ : ∃ b, nthD (gonesD ps d.bl) j = b := ⟨_, rfl⟩
          rw [hb] at hc
          have v0 : wr.cell? ⟨gl, j * 5, none⟩ = some (.int .u32 b.pc) := (hc 0 (by omega)).1
          have v1 : wr.cell? ⟨gl, j * 5 + 1, none⟩ = some (.int .u32 b.pl) := (hc 1 (by omega)).1
          have HUL : Hid (∀ W, Fr (fun _ => False) wr W → Calls Try.prog 44 #[.pointer (some ⟨g, 0, none⟩), .int .u32 b.pc, .int .u32 b.pl] W fun e w' => e = .returned (.tuple #[]) ∧ Hid (DG w g d ps A1 (some ⟨gl, 0, none⟩) n2 c2 (j + 1) w')) := Lib.hid (fun W fW => by
            refine (runlink_v W g d' (h'.fr0 fW) (b.pc, b.pl)).mono ?_
            rintro e w' ⟨g1, d2, g2, g3, g4, g5, g6, g7, g8⟩
            have hbk : b.k = (b.pc, b.pl) := rfl
            refine ⟨g1, Lib.hid ⟨⟨d2, g2, g3.trans e1, g4.trans e3, g5.trans e4, ?_, fun q hq => ?_⟩, own_fr (own_fr r2 fW (fun _ _ e => e)) g8 (fun q hq e => ?_), (fr.tr (fW.mono (fun _ _ e => e.elim))).trans g8 (fun q hq e => ?_)⟩⟩
            · rw [g6, e5, List.take_add_one, List.getElem?_eq_getElem (by simpa using hjl), List.getElem_map, ← nthD_at hjl, hb, hbk]
              exact (unls_snoc _ _ _).symm
            · rcases g7 q hq with h3 | h3
              · exact e6 q h3
              · right; have := fr.size; have := fW.size; omega
            · rw [e1] at e
              exact HNE.out q e (ab_own hq)
            · rw [e1] at e
              have := HB1.out q e
              omega)
          clear hc hb hrow r2 fr h' e1 e3 e4 e5 e6
          go_upto_region 17 with (fail)
          go_still_tail 11, (by kernel_rfl)
          change wpList _ _ _ _ _ wr.drew
          go_wp2_with fail
          refine (HUL.out _ ((Fr.refl _ wr).drew)).mono ?_
          rintro e w5 ⟨rfl, HE⟩
          go_wp2_with fail
          exact ⟨⟨j + 1, by omega, by go_num, HE⟩, by simp [intOf]; omega⟩
        · have hd2 : decide ((j : Int) < (n2 : Int)) = false := by simp; omega
          have hjn2 : j = n2 := by omega
          have HE : Hid (RDrop w g d ps (.returned (.int .i64 (n2 : Int))) wr) := Lib.hid (by
            obtain ⟨⟨d', h', e1, e3, e4, e5, e6⟩, r2, fr⟩ := hG.out
            refine ⟨by rw [HL2.out], d', h', e3, e4, ?_, e6, fr⟩
            rw [e5, hjn2, ← HL2.out, List.take_of_length_le (by simp)]
            unfold vdrop
            rw [(keep_views ps d.bl).2]
            rfl)
          clear hjn2
          go_wp2_with fail
          go_ret
          exact HE.out
end Go.Proofs.Ytfjlgdafakbdoaa.Ca
