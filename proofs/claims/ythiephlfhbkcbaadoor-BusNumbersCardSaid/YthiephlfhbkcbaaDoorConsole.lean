/- The console's functions, each by a contract. -/
import Derived.Test.YthiephlfhbkcbaaDoorChecked
import Derived.Test.YthiephlfhbkcbaaDoorAppend
import Derived.WalkKit
import Derived.Outline
import Derived.WalkSpells
import Derived.Handy
import Derived.LoopTactic
import Derived.Deep.LoopGhost
import Derived.Deep.QuietTactic
import Derived.BigQuiet
namespace Go.Proofs.YthiephlfhbkcbaaDoor.Co
open Go.RowKit
set_option linter.unusedVariables false

theorem info8 : (Tryd.prog.info? 5).map (fun i => (i.zero, i.size, i.bytes)) = some (some (.int .u8 0), 1, 1) := by kernel_rfl
theorem zero8 (w : World) : (zeroValue 5).run Tryd.prog w = .ok (.int .u8 0) w := by kernel_rfl

/-- slices.Clone of bytes: nil stays nil -/
theorem clone_nil (w : World) : Calls Tryd.prog 32 #[.slice none 0 0] w fun e w' => e = .returned (.slice none 0 0) ∧ w = w' := by
  have hq := fun w => Lib.run_eql_slice_nil (P := Tryd.prog) w 24 5 none 0 0 0 0 Tryd.underlying24
  go_enter Tryd.func32, Tryd.ntmps32
  go_wp2_with fail
  go_ret
  exact ⟨rfl, rfl⟩

/-- new memory is handed back that holds these cells -/
def Gives (w : World) (base : Nat) (n : Nat) (news : List Value) (e : Ending) (w' : World) : Prop :=
  ∃ v, e = .returned v ∧ w'.ownsRow base 5 1 v n news ∧ Fr (fun _ => False) w w' ∧ (∀ k, v.ownBlock = some k → w.heap.size ≤ k)

theorem clone_some (w : World) (base : Nat) (ad : Addr) (n c B : Nat) (news : List Value) (hr : Reads w B 1 (some ad) n news) (hB : B ≤ w.heap.size) (h1 : ∀ u ∈ news, u.oneCell' = true) (hn : n ≤ 1099511627776) (hb : base ≤ w.heap.size) :
    Calls Tryd.prog 32 #[.slice (some ad) n c] w (Gives w base n news) := by
  obtain ⟨i0, hi0, hz0, hz1, hz2⟩ := info_parts info8
  have hq := fun w => Lib.run_eql_slice_nil (P := Tryd.prog) w 24 5 (some ad) n c 0 0 Tryd.underlying24
  have ho : (w.alloc (.cells #[] 5)).ownsRow base 5 1 (.slice (some ⟨w.heap.size, 0, none⟩) 0 0) 0 [] := ⟨rfl, .inr ⟨w.heap.size, 0, #[], rfl, hb, Blk.new _ _ _, Nat.le_refl _, by simp [maxLen], rfl, rfl⟩⟩
  have hr1 := hr.alloc hB (.cells #[] 5)
  clear hr
  go_enter Tryd.func32, Tryd.ntmps32
  go_wp2_with
    (at_builtin
     refine wpList_append_any _ rfl (.tmp 5) (.tmp 6) _ rfl base 5 i0 _ 1 1 Tryd.underlying24 hi0 hz0 hz1 hz2 rfl (by omega) (.slice (some ⟨w.heap.size, 0, none⟩) 0 0) 0 [] rfl ho B (some ad) n c news rfl hr1 h1 (by simp only [maxLen]; omega) (by omega) (by simp; omega) ?_
     intro v1 w1 hown1 hg1 hat1)
  go_ret
  rw [Nat.zero_add, List.nil_append] at hown1
  refine ⟨v1, rfl, hown1, ((Fr.refl _ _).alloc _).grown hg1 (fun k hk => ?_), fun k hk => ?_⟩
  · have e : w.heap.size = k := by simpa [Value.ownBlock] using hk
    exact .inr (by omega)
  · rcases hat1 with e | e
    · rw [e] at hk
      have e : w.heap.size = k := by simpa [Value.ownBlock] using hk
      omega
    · rw [e] at hk
      have e : w.heap.size + 1 = k := by simpa using hk
      omega

/-- slices.Delete of the first byte of an owned row -/
def Shifts (w : World) (g n cap : Nat) (xs : List Value) (e : Ending) (w' : World) : Prop :=
  e = .returned (.slice (some ⟨g, 0, none⟩) n cap) ∧ (∃ cur, Blk w' g 5 cur ∧ cur.size = cap ∧ cur.toList.take n = xs) ∧ Fr (· = g) w w'
theorem delete_first (w : World) (g n cap : Nat) (cur : Array Value) (x : Value) (xs : List Value) (hb : Blk w g 5 cur) (hs : cur.size = cap) (hx : xs.length = n) (ht : cur.toList.take (n + 1) = x :: xs) (hc : n + 1 ≤ cap) (hm : cap ≤ maxLen) (h1 : ∀ u ∈ xs, u.oneCell' = true) :
    Calls Tryd.prog 54 #[.slice (some ⟨g, 0, none⟩) (n + 1) cap, .int .i64 0, .int .i64 1] w (Shifts w g n cap xs) := by
  obtain ⟨i0, hi0, hz0, hz1, hz2⟩ := info_parts info8
  unfold maxLen at hm
  have hcell : ∀ i, w.drew.cell? ⟨g, i, none⟩ = cur[i]? := hb.drew.cell
  have hfz : ∀ i, w.drew.frozen? ⟨g, i, none⟩ = false := hb.drew.frozen
  have hxs : ∀ j u, xs[j]? = some u → cur[j + 1]? = some u := by
    intro j u hu
    have hj : j < n := by
      rcases Nat.lt_or_ge j n with h | h
      · exact h
      · rw [List.getElem?_eq_none (by omega)] at hu; cases hu
    have := congrArg (fun l => l[j + 1]?) ht
    simp only [List.getElem?_cons_succ] at this
    rw [List.getElem?_take_of_lt (by omega), Array.getElem?_toList] at this
    rw [this, hu]
  have b1 := hb.drew.setCells xs 0
  have fr1 : Fr (· = g) w (w.drew.setCells g 0 xs) := (Fr.refl _ _).drew.setCells xs 0 (.inl rfl)
  have s1 : (setRange cur 0 xs).size = cap := by rw [setRange_size]; exact hs
  have t1 : (setRange cur 0 xs).toList.take n = xs := setRange_take xs cur n hx (by omega)
  have hcl : ∀ ty, (Builtin.clear_ #[24] ty #[.slice (some ⟨g, n, none⟩) 1 (cap - n)]).run Tryd.prog (w.drew.setCells g 0 xs) = .ok (.tuple #[]) ((w.drew.setCells g 0 xs).setCells g n (List.replicate 1 (.int .u8 0))) :=
    fun ty => Lib.run_clear_slice _ 24 5 ty (.int .u8 0) Tryd.underlying24 zero8 rfl rfl g n 1 (cap - n) (by omega) (fun j hj => by
      have : j = 0 := by omega
      subst this
      have := b1.cell n
      rw [Nat.add_zero, this]
      simp; omega) (fun j hj => b1.frozen _)
  have hfin : Shifts w g n cap xs (.returned (.slice (some ⟨g, 0, none⟩) n cap)) ((w.drew.setCells g 0 xs).setCells g n (List.replicate 1 (.int .u8 0))) := by
    refine ⟨rfl, ⟨_, b1.setCells _ n, by rw [setRange_size]; exact s1, ?_⟩, fr1.setCells _ n (.inl rfl)⟩
    refine Eq.trans ?_ t1
    apply List.ext_getElem?
    intro i
    by_cases hi : i < n
    · rw [List.getElem?_take_of_lt hi, List.getElem?_take_of_lt hi, Array.getElem?_toList, Array.getElem?_toList, setRange_out _ _ _ _ (.inl hi)]
    · rw [List.getElem?_eq_none (by simp; omega), List.getElem?_eq_none (by simp; omega)]
  have Hfin := Lib.hid hfin
  clear hfin t1 s1 fr1 b1
  obtain ⟨A, hA, hnews⟩ : ∃ A : Addr, (if cap = 1 then some (⟨g, 0, none⟩ : Addr) else some ⟨g, 1, none⟩) = some A ∧ Hid (∀ j u, xs[j]? = some u → w.drew.cell? (A.add j) = some u) := by
    by_cases h : cap = 1
    · refine ⟨⟨g, 0, none⟩, by simp [h], fun j u hu => ?_⟩
      have : xs = [] := List.length_eq_zero_iff.1 (by omega)
      rw [this] at hu
      simp at hu
    · refine ⟨⟨g, 1, none⟩, by simp [h], fun j u hu => ?_⟩
      rw [Addr.add_lit, Nat.add_comm 1 j, hcell]
      exact hxs j u hu
  have Hroom : Hid (∀ j, j < xs.length → (w.drew.cell? ⟨g, 0 + 0 * 1 + j, none⟩).isSome = true ∧ w.drew.frozen? ⟨g, 0 + 0 * 1 + j, none⟩ = false) := by
    intro j hj
    refine ⟨?_, hfz _⟩
    rw [hcell]
    simp; omega
  have Hlen : Hid (xs.length = n * 1) := by rw [Nat.mul_one]; exact hx
  have H1 := Lib.hid h1
  clear hcell hfz hxs h1 hx
  have hn1 : (1 : Int) ≤ (n : Int) + 1 := by omega
  have hn2 : (0 : Int) ≤ (n : Int) + 1 := by omega
  have hn3 : (n : Int) ≤ (n : Int) + 1 := by omega
  go_enter Tryd.func54, Tryd.ntmps54
  go_wp2_with fail
  go_region_law (refine step_append_room rfl (.tmp 22) (.tmp 25) 24 rfl 5 i0 1 Tryd.underlying24 hi0 hz1 g 0 0 cap (by simp [Act.eval, Act.put]) A n (cap - 1) xs (by simp [Act.eval, Act.put]) Hlen.out hnews.out H1.out (by omega) Hroom.out ?_)
  go_wp2_with (simp only [hcl])
  go_ret
  exact Hfin.out

def by8 (l : List Int) : List Value := l.map (Value.int .u8)
theorem by8_len (l : List Int) : (by8 l).length = l.length := by simp [by8]
/-- a console at block g; its memory lies in F -/
def Con (w : World) (base g : Nat) (F : Nat → Prop) (outs ins : List Int) : Prop :=
  ∃ vo vi, Blk w g 75 #[vo, vi] ∧ w.ownsRow base 5 1 vo outs.length (by8 outs) ∧ w.ownsRow base 5 1 vi ins.length (by8 ins) ∧
    (∀ k, vo.ownBlock = some k → vi.ownBlock ≠ some k) ∧ F g ∧ (∀ k, vo.ownBlock = some k → F k) ∧ (∀ k, vi.ownBlock = some k → F k) ∧ (∀ k, F k → base ≤ k ∧ k < w.heap.size)
theorem Con.fr {w w' : World} {base g : Nat} {F S : Nat → Prop} {outs ins : List Int} (h : Con w base g F outs ins) (f : Fr S w w') (hs : ∀ k, F k → ¬ S k) : Con w' base g F outs ins := by
  obtain ⟨vo, vi, h1, h2, h3, h4, h5, h6, h7, h8⟩ := h
  exact ⟨vo, vi, h1.fr f (hs g h5), own_fr h2 f (fun k hk => hs k (h6 k hk)), own_fr h3 f (fun k hk => hs k (h7 k hk)), h4, h5, h6, h7, fun k hk => ⟨(h8 k hk).1, Nat.lt_of_lt_of_le (h8 k hk).2 f.size⟩⟩
/-- what a call on a console leaves: more blocks may be its -/
def Turns (w : World) (base g : Nat) (F : Nat → Prop) (outs ins : List Int) (v : Value) (e : Ending) (w' : World) : Prop :=
  e = .returned v ∧ ∃ F' : Nat → Prop, Con w' base g F' outs ins ∧ Fr F w w' ∧ (∀ k, F' k → F k ∨ w.heap.size ≤ k)

theorem new_any (w : World) (base : Nat) (hb : base ≤ w.heap.size) : Calls Tryd.prog 48 #[] w fun e w' => e = .returned (.pointer (some ⟨w.heap.size, 0, none⟩)) ∧ Con w' base w.heap.size (· = w.heap.size) [] [] ∧ Fr (fun _ => False) w w' := by
  go_enter Tryd.func48, Tryd.ntmps48
  go_wp2
  go_ret
  exact ⟨rfl, ⟨.slice none 0 0, .slice none 0 0, Blk.new _ _ _, ⟨rfl, .inl ⟨rfl, rfl⟩⟩, ⟨rfl, .inl ⟨rfl, rfl⟩⟩, fun k hk => by simp [Value.ownBlock] at hk, rfl, fun k hk => by simp [Value.ownBlock] at hk, fun k hk => by simp [Value.ownBlock] at hk, fun k hk => by subst hk; simp; exact hb⟩, (Fr.refl _ _).alloc _⟩

theorem own_val {w : World} {base n : Nat} {e : TypeId} {v : Value} {xs : List Value} (h : w.ownsRow base e 1 v n xs) : (v = .slice none 0 0 ∧ n = 0 ∧ xs = []) ∨ ∃ g cap, v = .slice (some ⟨g, 0, none⟩) n cap ∧ n ≤ cap ∧ cap ≤ maxLen := by
  rcases h.2 with ⟨rfl, rfl⟩ | ⟨g, cap, cur, rfl, _, _, h1, h2, _⟩
  · exact .inl ⟨rfl, rfl, List.length_eq_zero_iff.1 (by simpa using h.1)⟩
  · exact .inr ⟨g, cap, rfl, h1, h2⟩

theorem own_pos {w : World} {base n : Nat} {e : TypeId} {v : Value} {xs : List Value} (h : w.ownsRow base e 1 v n xs) (hn : 0 < n) : ∃ g cap, v = .slice (some ⟨g, 0, none⟩) n cap := by
  rcases own_val h with ⟨_, h0, _⟩ | ⟨g, cap, e, _⟩
  · omega
  · exact ⟨g, cap, e⟩
theorem waits_any (w : World) (base g : Nat) (F : Nat → Prop) (outs ins : List Int) (h : Con w base g F outs ins) : Calls Tryd.prog 20 #[.pointer (some ⟨g, 0, none⟩)] w fun e w' => e = .returned (.int .i64 ins.length) ∧ w = w' := by
  obtain ⟨vo, vi, h1, h2, h3, h4, h5, h6, h7, h8⟩ := h
  have c1 := h1.cell 1
  rcases own_val h3 with ⟨rfl, h0, _⟩ | ⟨gi, cap, rfl, _⟩
  · rw [h0]
    clear h0
    go_enter Tryd.func20, Tryd.ntmps20
    go_wp2
    go_ret
    exact ⟨rfl, rfl⟩
  · go_enter Tryd.func20, Tryd.ntmps20
    go_wp2
    go_ret
    exact ⟨rfl, rfl⟩

theorem write_any (w : World) (base g : Nat) (F : Nat → Prop) (outs ins : List Int) (b : Int) (h : Con w base g F outs ins) (ho : outs.length ≤ 1099511627776) (hbase : base ≤ w.heap.size) :
    Calls Tryd.prog 13 #[.pointer (some ⟨g, 0, none⟩), .int .u8 b] w (Turns w base g F (outs ++ [b]) ins (.tuple #[])) := by
  obtain ⟨vo, vi, h1, h2, h3, h4, h5, h6, h7, h8⟩ := h
  obtain ⟨i0, hi0, hz0, hz1, hz2⟩ := info_parts info8
  have c0 := h1.cell 0
  have a2 := h2.alloc (.cells #[.int .u8 b] 5)
  go_enter Tryd.func13, Tryd.ntmps13
  go_wp2_with
    (at_builtin
     refine wpList_append_any _ rfl (.tmp 8) (.tmp 10) _ rfl base 5 i0 _ 1 1 Tryd.underlying24 hi0 hz0 hz1 hz2 rfl (by omega) vo outs.length (by8 outs) rfl a2 (w.heap.size + 1) (some ⟨w.heap.size, 0, none⟩) 1 1 [.int .u8 b] rfl (reads_blk (Blk.new _ _ _) rfl) (by simp [Value.oneCell']) (by simp only [maxLen]; omega) (by omega) (by simp; omega) ?_
     intro v1 w1 hown1 hg1 hat1
     have hgne : some g ≠ vo.ownBlock := fun e => own_blk_ne h2 h1 (by decide) e.symm
     have k1 := (h1.alloc (.cells #[.int .u8 b] 5)).grown hg1 hgne
     have k2 := k1.cell 0
     have k3 := k1.frozen 0
     obtain ⟨g1, cap1, hv⟩ := own_pos hown1 (by omega)
     subst hv)
  go_end0
  have hs := k1.set_ 0 (.slice (some ⟨g1, 0, none⟩) (outs.length + 1) cap1)
  have f2 : Fr F w w1 := ((Fr.refl _ _).alloc _).grown hg1 (fun k hk => .inl (h6 k hk))
  have hgl := h1.lt
  have hg1w : g1 < w1.heap.size := own_lt hown1 g1 rfl
  have hg1b : base ≤ g1 := own_base hown1 g1 rfl
  have hne1 : g1 ≠ g := by rintro rfl; exact own_blk_ne hown1 k1 (by decide) rfl
  refine ⟨rfl, fun k => F k ∨ k = g1, ⟨_, vi, hs, ?_, ?_, ?_, .inl h5, ?_, ?_, ?_⟩, f2.setCell (p := ⟨g, 0, none⟩) (.inl h5) _, ?_⟩
  · have := own_fr hown1 (Fr.set1 w1 g 0 (.slice (some ⟨g1, 0, none⟩) (outs.length + 1) cap1)) (fun k hk => by
      have e : g1 = k := by simpa [Value.ownBlock] using hk
      omega)
    simpa [by8] using this
  · refine own_fr (own_fr (h3.alloc _) (S := fun k => some k = vo.ownBlock) ⟨hg1.os, hg1.tape, hg1.output, hg1.size, hg1.block⟩ (fun k hk e => h4 k e.symm hk)) (Fr.set1 w1 g 0 _) (fun k hk => ?_)
    rintro rfl
    exact own_blk_ne h3 h1 (by decide) hk
  · intro k hk
    have e : g1 = k := by simpa [Value.ownBlock] using hk
    subst e
    rcases hat1 with e | e
    · exact h4 _ e.symm
    · intro hk'
      have := own_lt h3 _ hk'
      simp [Value.ownBlock] at e
      omega
  · intro k hk
    have e : g1 = k := by simpa [Value.ownBlock] using hk
    exact .inr e.symm
  · intro k hk; exact .inl (h7 k hk)
  · intro k hk
    have hsz : (w1.setCell ⟨g, 0, none⟩ (.slice (some ⟨g1, 0, none⟩) (outs.length + 1) cap1)).heap.size = w1.heap.size := by simp [World.setCell]
    have hsz2 : w.heap.size ≤ w1.heap.size := f2.size
    rw [hsz]
    rcases hk with hk | rfl
    · have := h8 k hk; omega
    · omega
  · intro k hk
    rcases hk with hk | rfl
    · exact .inl hk
    · rcases hat1 with e | e
      · exact .inl (h6 _ e.symm)
      · simp [Value.ownBlock] at e; omega

theorem own_any {w : World} {base n : Nat} {e : TypeId} {v : Value} {xs : List Value} (h : w.ownsRow base e 1 v n xs) : ∃ A cap, v = .slice A n cap := by
  rcases own_val h with ⟨e, h0, _⟩ | ⟨g, cap, e, _⟩
  · exact ⟨none, 0, by rw [e, h0]⟩
  · exact ⟨_, cap, e⟩

theorem con_in {w wd w1 : World} {base g : Nat} {F : Nat → Prop} {outs ins ins' : List Int} {vo vi v1 : Value} (h1 : Blk w g 75 #[vo, vi]) (h2 : w.ownsRow base 5 1 vo outs.length (by8 outs)) (h3 : w.ownsRow base 5 1 vi ins.length (by8 ins))
    (h4 : ∀ k, vo.ownBlock = some k → vi.ownBlock ≠ some k) (h5 : F g) (h6 : ∀ k, vo.ownBlock = some k → F k) (h7 : ∀ k, vi.ownBlock = some k → F k) (h8 : ∀ k, F k → base ≤ k ∧ k < w.heap.size)
    (fd : Fr (fun _ => False) w wd) (hown1 : w1.ownsRow base 5 1 v1 ins'.length (by8 ins')) (hg1 : Fr (fun k => vi.ownBlock = some k) wd w1) (hat1 : v1.ownBlock = vi.ownBlock ∨ ∃ k, v1.ownBlock = some k ∧ w.heap.size ≤ k) (hbase : base ≤ w.heap.size) :
    ∃ F' : Nat → Prop, Con (w1.setCell ⟨g, 1, none⟩ v1) base g F' outs ins' ∧ Fr F w (w1.setCell ⟨g, 1, none⟩ v1) ∧ (∀ k, F' k → F k ∨ w.heap.size ≤ k) := by
  have hgv : ¬ vi.ownBlock = some g := own_blk_ne h3 h1 (by decide)
  have k1 := (h1.fr fd (fun e => e)).fr hg1 hgv
  have hs := k1.set_ 1 v1
  have f2 : Fr F w w1 := (fd.mono (fun _ _ e => e.elim)).trans hg1 (fun k hk e => h7 k e)
  have hgl := h1.lt
  have hn1 : ¬ v1.ownBlock = some g := own_blk_ne hown1 k1 (by decide)
  refine ⟨fun k => F k ∨ v1.ownBlock = some k, ⟨vo, v1, hs, ?_, ?_, ?_, .inl h5, ?_, ?_, ?_⟩, f2.setCell (p := ⟨g, 1, none⟩) (.inl h5) _, ?_⟩
  · refine own_fr (own_fr (own_fr h2 fd (fun _ _ e => e)) hg1 (fun k hk e => h4 k hk e)) (Fr.set1 w1 g 1 _) (fun k hk => ?_)
    rintro rfl
    exact own_blk_ne h2 h1 (by decide) hk
  · refine own_fr hown1 (Fr.set1 w1 g 1 v1) (fun k hk => ?_)
    rintro rfl
    exact hn1 hk
  · intro k hk hk1
    rcases hat1 with e | ⟨j, e, hj⟩
    · exact h4 k hk (by rw [← e]; exact hk1)
    · have := own_lt h2 k hk
      rw [e] at hk1
      injection hk1 with hk1
      omega
  · intro k hk; exact .inl (h6 k hk)
  · intro k hk; exact .inr hk
  · intro k hk
    have hsz : (w1.setCell ⟨g, 1, none⟩ v1).heap.size = w1.heap.size := by simp [World.setCell]
    have hsz2 : w.heap.size ≤ w1.heap.size := f2.size
    rw [hsz]
    rcases hk with hk | hk
    · have := h8 k hk; omega
    · exact ⟨own_base hown1 k hk, own_lt hown1 k hk⟩
  · intro k hk
    rcases hk with hk | hk
    · exact .inl hk
    · rcases hat1 with e | ⟨j, e, hj⟩
      · exact .inl (h7 k (by rw [← e]; exact hk))
      · rw [e] at hk; injection hk with hk; exact .inr (by omega)

set_option maxRecDepth 100000 in
theorem type_any (w : World) (base g : Nat) (F : Nat → Prop) (outs ins : List Int) (h : Con w base g F outs ins) (hi : ins.length ≤ 64) (B : Nat) (A : Option Addr) (len cap : Nat) (zs : List Int) (hl : IntsAt .u8 w B A len zs) (hm : len ≤ maxLen) (hcap : len ≤ cap) (hbase : base ≤ w.heap.size) :
    Calls Tryd.prog 19 #[.pointer (some ⟨g, 0, none⟩), .slice A len cap] w (Turns w base g F outs (ins ++ zs.take (min len (64 - ins.length))) (.int .i64 (min len (64 - ins.length) : Nat))) := by
  obtain ⟨vo, vi, h1, h2, h3, h4, h5, h6, h7, h8⟩ := h
  obtain ⟨i0, hi0, hz0, hz1, hz2⟩ := info_parts info8
  unfold maxLen at hm
  have c1 := h1.cell 1
  have hk : min len (64 - ins.length) ≤ len := Nat.min_le_left _ _
  have hk2 : min len (64 - ins.length) ≤ 64 - ins.length := Nat.min_le_right _ _
  have hkI : (min (len : Int) (64 - (ins.length : Int))) = ((min len (64 - ins.length) : Nat) : Int) := by omega
  obtain ⟨Ai, ci, hvi⟩ := own_any h3
  subst hvi
  have hr := intsAt_reads (hl.take hk)
  generalize hkd : min len (64 - ins.length) = k at *
  have Hkd := Lib.hid hkd
  clear hkd hkI
  have hgne : some g ≠ (Value.slice Ai ins.length ci).ownBlock := fun e => own_blk_ne h3 h1 (by decide) e.symm
  have H1 := Lib.hid (oneCell_ints (k := .u8) (zs := zs.take k))
  have hkc : k ≤ cap := by omega
  have h3d := own_fr h3 ((Fr.refl (fun _ => False) w).drew) (fun _ _ e => e)
  have h1d := h1.drew
  have hrd := hr.drew
  have Hgne := Lib.hid hgne
  have Hb1 : Hid (ins.length + k ≤ maxLen) := by show _ ≤ _; simp only [maxLen]; omega
  have Hb2 : Hid ((ins.length + k) * 1 ≤ 140737488355328) := by show _ ≤ _; omega
  have Hb3 : Hid (base ≤ w.drew.heap.size) := hbase
  clear hgne
  go_enter Tryd.func19, Tryd.ntmps19
  go_wp2_with fail
  all_goals
    first
      | rw [show ((64 : Int) - (ins.length : Int)) = (k : Int) by have := Hkd.out; omega]
      | rw [show (len : Int) = (k : Int) by have := Hkd.out; omega]
    go_region_law (first
      | (refine step_append_any _ rfl (.tmp 19) (.tmp 22) 24 rfl base 5 i0 (.int .u8 0) 1 1 Tryd.underlying24 hi0 hz0 hz1 hz2 rfl (by omega) (.slice Ai ins.length ci) ins.length (by8 ins) (by simp [Act.eval]) h3d B A k cap _ (by simp [Act.eval]) hrd H1.out Hb1.out Hb2.out Hb3.out ?_
         intro v1 w1 hown1 hg1 hat1
         have k1 := h1d.grown hg1 Hgne.out
         have k2 := k1.cell 1
         have k3 := k1.frozen 1
         obtain ⟨A1, cap1, hv⟩ := own_any hown1
         subst hv))
    go_wp2_with fail
    go_ret
    refine ⟨rfl, ?_⟩
    refine con_in (ins' := ins ++ zs.take k) h1 h2 h3 h4 h5 h6 h7 h8 ((Fr.refl _ _).drew) ?_ ⟨hg1.os, hg1.tape, hg1.output, hg1.size, fun i hi hn => hg1.block i hi (fun e => hn e.symm)⟩ ?_ hbase
    · have e1 : (zs.take k).length = k := by have := hl.1; simp; omega
      simpa [by8, e1] using hown1
    · rcases hat1 with e | e
      · exact .inl e
      · exact .inr ⟨_, e, Nat.le_refl _⟩

theorem read_nil (w : World) (base g : Nat) (F : Nat → Prop) (outs : List Int) (h : Con w base g F outs []) : Calls Tryd.prog 34 #[.pointer (some ⟨g, 0, none⟩)] w fun e w' => e = .returned (.int .u8 0) ∧ w = w' := by
  obtain ⟨vo, vi, h1, h2, h3, h4, h5, h6, h7, h8⟩ := h
  have c1 := h1.cell 1
  obtain ⟨Ai, ci, hv⟩ := own_any h3
  subst hv
  go_enter Tryd.func34, Tryd.ntmps34
  go_wp2
  go_ret
  exact ⟨rfl, rfl⟩

theorem read_cons (w : World) (base g : Nat) (F : Nat → Prop) (outs : List Int) (x : Int) (rest : List Int) (h : Con w base g F outs (x :: rest)) (hl : rest.length ≤ 64) (hbase : base ≤ w.heap.size) :
    Calls Tryd.prog 34 #[.pointer (some ⟨g, 0, none⟩)] w (Turns w base g F outs rest (.int .u8 x)) := by
  obtain ⟨vo, vi, h1, h2, h3, h4, h5, h6, h7, h8⟩ := h
  have c1 := h1.cell 1
  obtain ⟨gi, cap, cur, rfl, hgb, hbl, hnc, hcm, hcs, hct⟩ := own_blk h3 (by simp)
  have hx0 := hbl.cell 0
  have hx1 : cur[0]? = some (.int .u8 x) := by
    have := congrArg (fun l => l[0]?) hct
    simp [by8] at this
    simpa using this
  rw [hx1] at hx0
  have hlen : (x :: rest).length = rest.length + 1 := rfl
  have hct2 : cur.toList.take (rest.length + 1) = .int .u8 x :: by8 rest := by simpa [by8] using hct
  have hcs2 : cur.size = cap := by simpa using hcs
  have hnc2 : rest.length + 1 ≤ cap := by simpa using hnc
  have Hct := Lib.hid hct2
  have Hcs := Lib.hid hcs2
  rw [hlen] at c1 h1
  clear hct hct2 hcs hcs2 hx1 hlen hnc
  generalize hn : rest.length = n at *
  have Hn := Lib.hid hn
  clear hn
  go_enter Tryd.func34, Tryd.ntmps34
  go_wp2_with fail
  refine (delete_first w gi n cap cur (.int .u8 x) (by8 rest) hbl Hcs.out (by rw [by8_len, Hn.out]) Hct.out hnc2 hcm oneCell_ints).mono ?_
  rintro e w1 ⟨rfl, ⟨cur1, k1, k2, k3⟩, f1⟩
  have hgg : ¬ g = gi := by rintro rfl; exact own_blk_ne h3 h1 (by decide) rfl
  have hb1 := h1.fr f1 hgg
  have d1 := hb1.cell 1
  have d2 := hb1.frozen 1
  have K2 := Lib.hid k2
  have K3 := Lib.hid k3
  clear k2 k3
  go_wp2_with fail
  go_ret
  refine ⟨rfl, ?_⟩
  have hown : w1.ownsRow base 5 1 (.slice (some ⟨gi, 0, none⟩) n cap) rest.length (by8 rest) :=
    ⟨by rw [by8_len, Nat.mul_one], .inr ⟨gi, cap, cur1, by rw [Hn.out], hgb, k1, by rw [Hn.out]; omega, hcm, by rw [K2.out, Nat.mul_one], by rw [Nat.mul_one, Hn.out]; exact K3.out⟩⟩
  exact con_in (ins' := rest) (ins := x :: rest) (by rw [show (x :: rest).length = n + 1 by rw [List.length_cons, Hn.out]] at *; exact h1) h2 (by rw [show (x :: rest).length = n + 1 by rw [List.length_cons, Hn.out]] at *; exact h3) h4 h5 h6 h7 h8 (Fr.refl _ _) hown (f1.mono (fun k hk e => by rw [e]; rfl)) (.inl rfl) hbase

/-- what is told: a row of new memory (or nil) -/
theorem output_any (w : World) (base g : Nat) (F : Nat → Prop) (outs ins : List Int) (h : Con w base g F outs ins) (ho : outs.length ≤ 1099511627776) (b2 : Nat) (hb2 : b2 ≤ w.heap.size) :
    Calls Tryd.prog 18 #[.pointer (some ⟨g, 0, none⟩)] w (Gives w b2 outs.length (by8 outs)) := by
  obtain ⟨vo, vi, h1, h2, h3, h4, h5, h6, h7, h8⟩ := h
  have c0 := h1.cell 0
  rcases own_val h2 with ⟨rfl, h0, hz⟩ | ⟨go, cap, rfl, hnc, hcm⟩
  · have hG : Gives w b2 outs.length (by8 outs) (.returned (.slice none 0 0)) w := ⟨_, rfl, ⟨by rw [by8_len, Nat.mul_one], .inl ⟨rfl, h0⟩⟩, Fr.refl _ _, fun k hk => by simp [Value.ownBlock] at hk⟩
    have HG := Lib.hid hG
    clear hG h0 hz
    go_enter Tryd.func18, Tryd.ntmps18
    go_wp2_with fail
    refine (clone_nil w).mono ?_
    rintro e w1 ⟨rfl, rfl⟩
    go_wp2_with fail
    go_ret
    exact HG.out
  · have hr := Reads.of_own h2
    go_enter Tryd.func18, Tryd.ntmps18
    go_wp2_with fail
    refine (clone_some w b2 _ _ _ _ _ hr (Nat.le_refl _) oneCell_ints ho hb2).mono ?_
    rintro e w1 ⟨v, rfl, ho1, f1, hk1⟩
    go_wp2_with fail
    go_ret
    exact ⟨v, rfl, ho1, f1, hk1⟩

theorem input_any (w : World) (base g : Nat) (F : Nat → Prop) (outs ins : List Int) (h : Con w base g F outs ins) (ho : ins.length ≤ 1099511627776) (b2 : Nat) (hb2 : b2 ≤ w.heap.size) :
    Calls Tryd.prog 38 #[.pointer (some ⟨g, 0, none⟩)] w (Gives w b2 ins.length (by8 ins)) := by
  obtain ⟨vo, vi, h1, h2, h3, h4, h5, h6, h7, h8⟩ := h
  have c0 := h1.cell 1
  rcases own_val h3 with ⟨rfl, h0, hz⟩ | ⟨go, cap, rfl, hnc, hcm⟩
  · have hG : Gives w b2 ins.length (by8 ins) (.returned (.slice none 0 0)) w := ⟨_, rfl, ⟨by rw [by8_len, Nat.mul_one], .inl ⟨rfl, h0⟩⟩, Fr.refl _ _, fun k hk => by simp [Value.ownBlock] at hk⟩
    have HG := Lib.hid hG
    clear hG h0 hz
    go_enter Tryd.func38, Tryd.ntmps38
    go_wp2_with fail
    refine (clone_nil w).mono ?_
    rintro e w1 ⟨rfl, rfl⟩
    go_wp2_with fail
    go_ret
    exact HG.out
  · have hr := Reads.of_own h3
    go_enter Tryd.func38, Tryd.ntmps38
    go_wp2_with fail
    refine (clone_some w b2 _ _ _ _ _ hr (Nat.le_refl _) oneCell_ints ho hb2).mono ?_
    rintro e w1 ⟨v, rfl, ho1, f1, hk1⟩
    go_wp2_with fail
    go_ret
    exact ⟨v, rfl, ho1, f1, hk1⟩
end Go.Proofs.YthiephlfhbkcbaaDoor.Co
