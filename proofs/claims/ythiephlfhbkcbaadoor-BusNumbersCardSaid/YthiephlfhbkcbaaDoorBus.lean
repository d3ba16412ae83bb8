/- The guest's devices on one bus (bus.Bus): what a bus is; New, Load, Store, Tick, Input. -/
import Derived.Test.YthiephlfhbkcbaaDoorDriveB
import Derived.Test.YthiephlfhbkcbaaDoorTimer
import Derived.Test.YthiephlfhbkcbaaDoorIrq
import Derived.Test.YthiephlfhbkcbaaDoorConsole
import Derived.Deep.RegionHeld3
namespace Go.Proofs.YthiephlfhbkcbaaDoor.Bs
open Go.RowKit Fm Nt Rm By Dr
set_option linter.unusedVariables false
set_option maxHeartbeats 4000000

/-- what a bus holds -/
structure Sb where
  p : Nat
  m : Nat
  tm : Int
  outs : List Int
  ins : List Int
  d : Nat → Int
  ms : Ms
  sec : Int
  pl : Int
  st : Int
/-- where its parts lie -/
structure Ab where
  gB : Nat
  gc : Nat
  gt : Nat
  gk : Nat
  gd : Nat
  ge : Nat
  am : Am
/-- bounds of what a bus holds -/
structure Sb.Ok (s : Sb) : Prop where
  p : s.p < 256
  m : s.m < 256
  tm : 0 ≤ s.tm ∧ s.tm ≤ 4294967295
  len : s.ins.length ≤ 64
  ins : ∀ z ∈ s.ins, 0 ≤ z ∧ z < 256
  outs : ∀ z ∈ s.outs, 0 ≤ z ∧ z < 256
  sec : 0 ≤ s.sec ∧ s.sec ≤ 4294967295
  pl : 0 ≤ s.pl ∧ s.pl ≤ 4294967295
  st : s.st = 0 ∨ s.st = 1
  tu : ∀ k, s.ms.n ≤ k → k < 64 → s.ms.tu k = false
def busCells (a : Ab) (s : Sb) : Array Value := #[.pointer (some ⟨a.gc, 0, none⟩), .pointer (some ⟨a.gt, 0, none⟩), .pointer (some ⟨a.gk, 0, none⟩), .pointer (some ⟨a.gd, 0, none⟩), .pointer (some ⟨a.am.gm, 0, none⟩), .int .u32 s.sec, .int .u32 s.pl, .int .u32 s.st]
structure Bus (w : World) (F : Nat → Prop) (a : Ab) (s : Sb) : Prop where
  b : Blk w a.gB 35 (busCells a s)
  c : Iq.Ctl w a.gc s.p s.m
  t : Tm.Tmr w a.gt s.tm
  k : Co.Con w 0 a.gk F s.outs s.ins
  d : Drv w a.gd a.ge s.d
  M : Mem w a.am s.ms
  sepF : ∀ k, F k → k ≠ a.gB ∧ k ≠ a.gc ∧ k ≠ a.gt ∧ k ≠ a.gd ∧ k ≠ a.ge ∧ ¬ a.am.own k
  sepM : ∀ k, a.am.own k → k ≠ a.gB ∧ k ≠ a.gc ∧ k ≠ a.gt ∧ k ≠ a.gd ∧ k ≠ a.ge
  ok : s.Ok
/-- the blocks that calls may write -/
def Ab.wr (a : Ab) (F : Nat → Prop) (k : Nat) : Prop := k = a.gB ∨ k = a.gc ∨ k = a.gt ∨ k = a.ge ∨ a.am.own k ∨ F k
theorem con_lt {w : World} {g : Nat} {F : Nat → Prop} {o i : List Int} (h : Co.Con w 0 g F o i) : ∀ k, F k → k < w.heap.size := by
  obtain ⟨_, _, _, _, _, _, _, _, _, h8⟩ := h
  exact fun k hk => (h8 k hk).2
theorem con_own {w : World} {g : Nat} {F : Nat → Prop} {o i : List Int} (h : Co.Con w 0 g F o i) : F g := by
  obtain ⟨_, _, _, _, _, _, h5, _⟩ := h
  exact h5
section
variable {w w' : World} {F F' : Nat → Prop} {a : Ab} {s : Sb} {S : Nat → Prop}
theorem Bus.nBc (h : Bus w F a s) : a.gB ≠ a.gc := Blk.ne_ h.b h.c (by decide)
theorem Bus.nBt (h : Bus w F a s) : a.gB ≠ a.gt := Blk.ne_ h.b h.t (by decide)
theorem Bus.nBd (h : Bus w F a s) : a.gB ≠ a.gd := Blk.ne_ h.b h.d.b (by decide)
theorem Bus.nct (h : Bus w F a s) : a.gc ≠ a.gt := Blk.ne_ h.c h.t (by decide)
theorem Bus.ncd (h : Bus w F a s) : a.gc ≠ a.gd := Blk.ne_ h.c h.d.b (by decide)
theorem Bus.ntd (h : Bus w F a s) : a.gt ≠ a.gd := Blk.ne_ h.t h.d.b (by decide)
theorem Bus.nBe (h : Bus w F a s) : a.gB ≠ a.ge := by
  obtain ⟨cs, hcs, _⟩ := h.d.c
  exact Blk.ne_ h.b hcs (by decide)
theorem Bus.nce (h : Bus w F a s) : a.gc ≠ a.ge := by
  obtain ⟨cs, hcs, _⟩ := h.d.c
  exact Blk.ne_ h.c hcs (by decide)
theorem Bus.nte (h : Bus w F a s) : a.gt ≠ a.ge := by
  obtain ⟨cs, hcs, _⟩ := h.d.c
  exact Blk.ne_ h.t hcs (by decide)
theorem Bus.lt (h : Bus w F a s) : ∀ k, a.wr F k ∨ k = a.gd → k < w.heap.size := by
  intro k hk
  rcases hk with (e | e | e | e | e | e) | e
  · rw [e]; exact h.b.lt
  · rw [e]; exact h.c.lt
  · rw [e]; exact h.t.lt
  · rw [e]; exact h.d.c.lt
  · exact h.M.lt k e
  · exact con_lt h.k k e
  · rw [e]; exact h.d.b.lt
theorem Bus.fr0 (h : Bus w F a s) (f : Fr (fun _ => False) w w') : Bus w' F a s :=
  ⟨h.b.fr f (fun e => e), h.c.fr f (fun e => e), h.t.fr f (fun e => e), h.k.fr f (fun _ _ e => e), h.d.fr f (fun e => e) (fun e => e), h.M.fr0 f, h.sepF, h.sepM, h.ok⟩
theorem Bus.fr (h : Bus w F a s) (f : Fr S w w') (hs : ∀ k, a.wr F k ∨ k = a.gd → ¬ S k) : Bus w' F a s :=
  ⟨h.b.fr f (hs _ (.inl (.inl rfl))), h.c.fr f (hs _ (.inl (.inr (.inl rfl)))), h.t.fr f (hs _ (.inl (.inr (.inr (.inl rfl))))), h.k.fr f (fun k hk => hs k (.inl (.inr (.inr (.inr (.inr (.inr hk))))))), h.d.fr f (hs _ (.inr rfl)) (hs _ (.inl (.inr (.inr (.inr (.inl rfl)))))), h.M.fr f (fun k hk => hs k (.inl (.inr (.inr (.inr (.inr (.inl hk))))))), h.sepF, h.sepM, h.ok⟩
theorem Bus.cells (h : Bus w F a s) : w.cell? ⟨a.gB, 0, none⟩ = some (.pointer (some ⟨a.gc, 0, none⟩)) ∧ w.cell? ⟨a.gB, 1, none⟩ = some (.pointer (some ⟨a.gt, 0, none⟩)) ∧ w.cell? ⟨a.gB, 2, none⟩ = some (.pointer (some ⟨a.gk, 0, none⟩)) ∧ w.cell? ⟨a.gB, 3, none⟩ = some (.pointer (some ⟨a.gd, 0, none⟩)) ∧ w.cell? ⟨a.gB, 4, none⟩ = some (.pointer (some ⟨a.am.gm, 0, none⟩)) ∧ w.cell? ⟨a.gB, 5, none⟩ = some (.int .u32 s.sec) ∧ w.cell? ⟨a.gB, 6, none⟩ = some (.int .u32 s.pl) ∧ w.cell? ⟨a.gB, 7, none⟩ = some (.int .u32 s.st) :=
  ⟨h.b.cell 0, h.b.cell 1, h.b.cell 2, h.b.cell 3, h.b.cell 4, h.b.cell 5, h.b.cell 6, h.b.cell 7⟩
/-- the controller turns -/
theorem Bus.setC (h : Bus w F a s) {p m : Nat} (hc : Iq.Ctl w' a.gc p m) (f : Fr (· = a.gc) w w') (hp : p < 256) (hm : m < 256) : Bus w' F a { s with p := p, m := m } :=
  ⟨h.b.fr f h.nBc, hc, h.t.fr f (fun e => h.nct e.symm), h.k.fr f (fun k hk e => (h.sepF k hk).2.1 e), h.d.fr f (fun e => h.ncd e.symm) (fun e => h.nce e.symm), h.M.fr f (fun k hk e => (h.sepM k hk).2.1 e), h.sepF, h.sepM, ⟨hp, hm, h.ok.tm, h.ok.len, h.ok.ins, h.ok.outs, h.ok.sec, h.ok.pl, h.ok.st, h.ok.tu⟩⟩
/-- the timer turns -/
theorem Bus.setT (h : Bus w F a s) {tm : Int} (ht : Tm.Tmr w' a.gt tm) (f : Fr (· = a.gt) w w') (h0 : 0 ≤ tm) (h1 : tm ≤ 4294967295) : Bus w' F a { s with tm := tm } :=
  ⟨h.b.fr f h.nBt, h.c.fr f h.nct, ht, h.k.fr f (fun k hk e => (h.sepF k hk).2.2.1 e), h.d.fr f (fun e => h.ntd e.symm) (fun e => h.nte e.symm), h.M.fr f (fun k hk e => (h.sepM k hk).2.2.1 e), h.sepF, h.sepM, ⟨h.ok.p, h.ok.m, ⟨h0, h1⟩, h.ok.len, h.ok.ins, h.ok.outs, h.ok.sec, h.ok.pl, h.ok.st, h.ok.tu⟩⟩
/-- the console turns -/
theorem Bus.setK (h : Bus w F a s) {outs ins : List Int} (hk : Co.Con w' 0 a.gk F' outs ins) (f : Fr F w w') (hF : ∀ k, F' k → F k ∨ w.heap.size ≤ k) (hl : ins.length ≤ 64) (hi : ∀ z ∈ ins, 0 ≤ z ∧ z < 256) (ho : ∀ z ∈ outs, 0 ≤ z ∧ z < 256) : Bus w' F' a { s with outs := outs, ins := ins } :=
  ⟨h.b.fr f (fun e => (h.sepF _ e).1 rfl), h.c.fr f (fun e => (h.sepF _ e).2.1 rfl), h.t.fr f (fun e => (h.sepF _ e).2.2.1 rfl), hk, h.d.fr f (fun e => (h.sepF _ e).2.2.2.1 rfl) (fun e => (h.sepF _ e).2.2.2.2.1 rfl), h.M.fr f (fun k hk e => (h.sepF k e).2.2.2.2.2 hk),
    fun k hk' => by
      rcases hF k hk' with e | e
      · exact h.sepF k e
      · have hlt := h.lt
        refine ⟨fun e2 => ?_, fun e2 => ?_, fun e2 => ?_, fun e2 => ?_, fun e2 => ?_, fun e2 => ?_⟩
        · have := hlt k (.inl (.inl e2)); omega
        · have := hlt k (.inl (.inr (.inl e2))); omega
        · have := hlt k (.inl (.inr (.inr (.inl e2)))); omega
        · have := hlt k (.inr e2); omega
        · have := hlt k (.inl (.inr (.inr (.inr (.inl e2))))); omega
        · have := hlt k (.inl (.inr (.inr (.inr (.inr (.inl e2)))))); omega,
    h.sepM, ⟨h.ok.p, h.ok.m, h.ok.tm, hl, hi, ho, h.ok.sec, h.ok.pl, h.ok.st, h.ok.tu⟩⟩
/-- the drive and the memory turn -/
theorem Bus.setD (h : Bus w F a s) {d : Nat → Int} {ms : Ms} (hd : Drv w' a.gd a.ge d) (hM : Mem w' a.am ms) (f : Fr (fun k => k = a.ge ∨ a.am.own k) w w') (htu : ∀ k, ms.n ≤ k → k < 64 → ms.tu k = false) : Bus w' F a { s with d := d, ms := ms } :=
  ⟨h.b.fr f (fun e => by rcases e with e | e; exact h.nBe e; exact (h.sepM _ e).1 rfl), h.c.fr f (fun e => by rcases e with e | e; exact h.nce e; exact (h.sepM _ e).2.1 rfl), h.t.fr f (fun e => by rcases e with e | e; exact h.nte e; exact (h.sepM _ e).2.2.1 rfl),
    h.k.fr f (fun k hk e => by rcases e with e | e; exact (h.sepF k hk).2.2.2.2.1 e; exact (h.sepF k hk).2.2.2.2.2 e), hd, hM, h.sepF, h.sepM, ⟨h.ok.p, h.ok.m, h.ok.tm, h.ok.len, h.ok.ins, h.ok.outs, h.ok.sec, h.ok.pl, h.ok.st, htu⟩⟩
/-- its own cells turn -/
theorem Bus.setB (h : Bus w F a s) {sec pl st : Int} (hb : Blk w' a.gB 35 (busCells a { s with sec := sec, pl := pl, st := st })) (f : Fr (· = a.gB) w w') (h1 : 0 ≤ sec ∧ sec ≤ 4294967295) (h2 : 0 ≤ pl ∧ pl ≤ 4294967295) (h3 : st = 0 ∨ st = 1) : Bus w' F a { s with sec := sec, pl := pl, st := st } :=
  ⟨hb, h.c.fr f (fun e => h.nBc e.symm), h.t.fr f (fun e => h.nBt e.symm), h.k.fr f (fun k hk e => (h.sepF k hk).1 e), h.d.fr f (fun e => h.nBd e.symm) (fun e => h.nBe e.symm), h.M.fr f (fun k hk e => (h.sepM k hk).1 e), h.sepF, h.sepM, ⟨h.ok.p, h.ok.m, h.ok.tm, h.ok.len, h.ok.ins, h.ok.outs, h1, h2, h3, h.ok.tu⟩⟩
end
/-- what a call on a bus leaves -/
def BPost (w : World) (F : Nat → Prop) (a : Ab) (s' : Sb) (v : Value) (e : Ending) (w' : World) : Prop :=
  e = .returned v ∧ ∃ F', Bus w' F' a s' ∧ (∀ k, F' k → F k ∨ w.heap.size ≤ k) ∧ Fr (a.wr F) w w'
theorem BPost.same {w w' : World} {F : Nat → Prop} {a : Ab} {s : Sb} {v : Value} (h : Bus w' F a s) (f : Fr (a.wr F) w w') : BPost w F a s v (.returned v) w' := ⟨rfl, F, h, fun k hk => .inl hk, f⟩
/-- the place of a word, from the devices on -/
def offO (at_ : Int) : Int := (at_ - 32768) % 4294967296
def loadB (at_ : Int) : Bool := decide (offO at_ = 0 ∨ offO at_ = 4 ∨ offO at_ = 8 ∨ offO at_ = 12 ∨ offO at_ = 16 ∨ offO at_ = 20 ∨ offO at_ = 24 ∨ offO at_ = 32 ∨ offO at_ = 36 ∨ offO at_ = 40 ∨ offO at_ = 44)
def loadO (s : Sb) (o cnt : Int) : Int :=
  if o = 0 then s.p else if o = 4 then s.m else if o = 8 then s.tm else if o = 12 then cnt % 4294967296 else if o = 20 then s.ins.headD 0 else if o = 24 then s.ins.length else if o = 32 then s.sec else if o = 36 then s.pl else if o = 44 then s.st else 0
def loadV (s : Sb) (at_ cnt : Int) : Int := loadO s (offO at_) cnt
def Sb.read (s : Sb) (at_ : Int) : Sb := if offO at_ = 20 then { s with ins := s.ins.tail } else s
theorem off_cases (at_ : Int) : offO at_ = 0 ∨ offO at_ = 4 ∨ offO at_ = 8 ∨ offO at_ = 12 ∨ offO at_ = 16 ∨ offO at_ = 20 ∨ offO at_ = 24 ∨ offO at_ = 32 ∨ offO at_ = 36 ∨ offO at_ = 40 ∨ offO at_ = 44 ∨ loadB at_ = false := by
  cases h : loadB at_
  · simp
  · rw [loadB] at h
    have := of_decide_eq_true h
    omega
set_option maxRecDepth 100000 in
theorem load_any (w : World) (F : Nat → Prop) (a : Ab) (s : Sb) (h : Bus w F a s) (at_ cnt : Int) (a0 : 0 ≤ at_) (a1 : at_ ≤ 4294967295) (n0 : 0 ≤ cnt) (n1 : cnt ≤ 18446744073709551615) :
    Calls Tryd.prog 23 #[.pointer (some ⟨a.gB, 0, none⟩), .int .u32 at_, .int .u64 cnt] w (BPost w F a (s.read at_) (.tuple #[.int .u32 (loadV s at_ cnt), .bool (loadB at_)])) := by
  have hw : IntKind.u32.wrap (at_ - 32768) = offO at_ := IntKind.wrap_u32 _
  obtain ⟨c0, c1, c2, c3, c4, c5, c6, c7⟩ := h.cells
  have H := Lib.hid h
  have hcase := off_cases at_
  have e1 : loadV s at_ cnt = loadO s (offO at_) cnt := rfl
  have e2 : s.read at_ = if offO at_ = 20 then { s with ins := s.ins.tail } else s := rfl
  have e3 : loadB at_ = decide (offO at_ = 0 ∨ offO at_ = 4 ∨ offO at_ = 8 ∨ offO at_ = 12 ∨ offO at_ = 16 ∨ offO at_ = 20 ∨ offO at_ = 24 ∨ offO at_ = 32 ∨ offO at_ = 36 ∨ offO at_ = 40 ∨ offO at_ = 44) := rfl
  rw [e1, e2]
  rw [e3] at hcase ⊢
  clear e1 e2 e3 h
  generalize offO at_ = o at *
  rcases hcase with rfl | rfl | rfl | rfl | rfl | rfl | rfl | rfl | rfl | rfl | rfl | hno
  · have Hp := Lib.hid (Iq.pending_any w a.gc s.p s.m H.out.c)
    go_enter Tryd.func23, Tryd.ntmps23
    go_wp2_with fail
    refine (Hp.out).mono ?_
    rintro e w' ⟨rfl, rfl⟩
    go_wp2_with fail
    go_ret2
    exact BPost.same H.out (Fr.refl _ _)
  · have Hp := Lib.hid (Iq.mask_any w a.gc s.p s.m H.out.c)
    go_enter Tryd.func23, Tryd.ntmps23
    go_wp2_with fail
    refine (Hp.out).mono ?_
    rintro e w' ⟨rfl, rfl⟩
    go_wp2_with fail
    go_ret2
    exact BPost.same H.out (Fr.refl _ _)
  · have Hp := Lib.hid (Tm.at_any w a.gt s.tm H.out.t)
    go_enter Tryd.func23, Tryd.ntmps23
    go_wp2_with fail
    refine (Hp.out).mono ?_
    rintro e w' ⟨rfl, rfl⟩
    go_wp2_with fail
    go_ret2
    exact BPost.same H.out (Fr.refl _ _)
  · have hcw : IntKind.u32.wrap cnt = cnt % 4294967296 := IntKind.wrap_u32 _
    have el : loadO s 12 cnt = cnt % 4294967296 := rfl
    rw [el]
    generalize cnt % 4294967296 = cv at *
    go_enter Tryd.func23, Tryd.ntmps23
    go_wp2_with fail
    go_ret2
    exact BPost.same H.out (Fr.refl _ _)
  · go_enter Tryd.func23, Tryd.ntmps23
    go_wp2_with fail
    go_ret2
    exact BPost.same H.out (Fr.refl _ _)
  · rw [if_pos rfl]
    cases hi : s.ins with
    | nil =>
      have hk := H.out.k
      rw [hi] at hk
      have Hp := Lib.hid (Co.read_nil w 0 a.gk F s.outs hk)
      have es : ({ s with ins := ([] : List Int).tail } : Sb) = s := by cases s; simp at hi; simp [hi]
      have el : loadO s 20 cnt = 0 := by simp [loadO, hi]
      rw [es, el]
      clear hk es el hi
      go_enter Tryd.func23, Tryd.ntmps23
      go_wp2_with fail
      refine (Hp.out).mono ?_
      rintro e w' ⟨rfl, rfl⟩
      go_wp2_with fail
      go_ret2
      exact BPost.same H.out (Fr.refl _ _)
    | cons x rest =>
      have hk := H.out.k
      rw [hi] at hk
      have hlen := H.out.ok.len
      have hib := H.out.ok.ins
      rw [hi] at hlen hib
      have hx := hib x (List.mem_cons_self ..)
      have Hp := Lib.hid (Co.read_cons w 0 a.gk F s.outs x rest hk (by simp at hlen; omega) (Nat.zero_le _))
      have el : loadO s 20 cnt = x := by simp [loadO, hi]
      rw [el]
      have HB := Lib.hid (fun w' F' (hk' : Co.Con w' 0 a.gk F' s.outs rest) (f : Fr F w w') (hF : ∀ k, F' k → F k ∨ w.heap.size ≤ k) => H.out.setK hk' f hF (by simp at hlen; omega) (fun z hz => hib z (List.mem_cons_of_mem _ hz)) H.out.ok.outs)
      have hx0 := hx.1
      have hx1 := hx.2
      clear hk el hi hlen hib hx
      go_enter Tryd.func23, Tryd.ntmps23
      go_wp2_with fail
      refine (Hp.out).mono ?_
      rintro e w' ⟨rfl, F', hk', f', hF'⟩
      have hB' := HB.out w' F' hk' f' hF'
      go_wp2_with fail
      go_ret2
      exact ⟨rfl, F', hB', hF', f'.mono (fun k _ e => .inr (.inr (.inr (.inr (.inr e)))))⟩
  · have Hp := Lib.hid (Co.waits_any w 0 a.gk F s.outs s.ins H.out.k)
    have el : loadO s 24 cnt = s.ins.length := rfl
    have hlen := H.out.ok.len
    rw [el]
    generalize s.ins.length = q at *
    go_enter Tryd.func23, Tryd.ntmps23
    go_wp2_with fail
    refine (Hp.out).mono ?_
    rintro e w' ⟨rfl, rfl⟩
    go_wp2_with fail
    go_ret2
    exact BPost.same H.out (Fr.refl _ _)
  · go_enter Tryd.func23, Tryd.ntmps23
    go_wp2_with fail
    go_ret2
    exact BPost.same H.out (Fr.refl _ _)
  · go_enter Tryd.func23, Tryd.ntmps23
    go_wp2_with fail
    go_ret2
    exact BPost.same H.out (Fr.refl _ _)
  · go_enter Tryd.func23, Tryd.ntmps23
    go_wp2_with fail
    go_ret2
    exact BPost.same H.out (Fr.refl _ _)
  · go_enter Tryd.func23, Tryd.ntmps23
    go_wp2_with fail
    go_ret2
    exact BPost.same H.out (Fr.refl _ _)
  · rw [hno]
    have hn := of_decide_eq_false hno
    have n0 : (o == 0) = false := by simp; omega
    have n4 : (o == 4) = false := by simp; omega
    have n8 : (o == 8) = false := by simp; omega
    have n12 : (o == 12) = false := by simp; omega
    have n16 : (o == 16) = false := by simp; omega
    have n20 : (o == 20) = false := by simp; omega
    have n24 : (o == 24) = false := by simp; omega
    have n32 : (o == 32) = false := by simp; omega
    have n36 : (o == 36) = false := by simp; omega
    have n40 : (o == 40) = false := by simp; omega
    have n44 : (o == 44) = false := by simp; omega
    have el : loadO s o cnt = 0 := by
      unfold loadO
      rw [if_neg (by omega), if_neg (by omega), if_neg (by omega), if_neg (by omega), if_neg (by omega), if_neg (by omega), if_neg (by omega), if_neg (by omega), if_neg (by omega)]
    rw [el, if_neg (by omega)]
    clear hno hn el
    go_enter Tryd.func23, Tryd.ntmps23
    go_wp2_with fail
    go_ret2
    exact BPost.same H.out (Fr.refl _ _)
end Go.Proofs.YthiephlfhbkcbaaDoor.Bs
