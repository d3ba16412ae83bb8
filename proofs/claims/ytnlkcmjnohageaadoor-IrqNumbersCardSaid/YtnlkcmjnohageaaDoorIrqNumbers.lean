/- IrqNumbers: the walk. -/
import Derived.Test.YtnlkcmjnohageaaDoorIrqPlay
import Derived.Test.YtnlkcmjnohageaaDoorAppend
namespace Go.Proofs.YtnlkcmjnohageaaDoor.irqNumbers
open Go.RowKit Iq
set_option linter.unusedVariables false

abbrev V3 := Value × Value × Value
def flat (l : List V3) : List Value := l.flatMap fun x => [x.1, x.2.1, x.2.2]
theorem flat_length (l : List V3) : (flat l).length = l.length * 3 := by
  induction l with
  | nil => rfl
  | cons x r ih => simp only [flat, List.flatMap_cons, List.length_append, List.length_cons, List.length_nil] at ih ⊢; omega
theorem flat_append (a b : List V3) : flat (a ++ b) = flat a ++ flat b := by simp [flat]
theorem flat_at (l : List V3) : ∀ i (h : i < l.length), (flat l)[i * 3]? = some l[i].1 ∧ (flat l)[i * 3 + 1]? = some l[i].2.1 ∧ (flat l)[i * 3 + 2]? = some l[i].2.2 := by
  induction l with
  | nil => intro i h; simp at h
  | cons x r ih =>
    intro i h
    cases i with
    | zero => simp [flat]
    | succ i =>
      have := ih i (by simpa using h)
      have e : flat (x :: r) = [x.1, x.2.1, x.2.2] ++ flat r := by simp [flat]
      rw [e]
      have e1 : (i + 1) * 3 = 3 + i * 3 := by omega
      rw [e1]
      refine ⟨?_, ?_, ?_⟩
      · rw [List.getElem?_append_right (by simp)]; simpa using this.1
      · rw [List.getElem?_append_right (by simp; omega)]; rw [show 3 + i * 3 + 1 - [x.1, x.2.1, x.2.2].length = i * 3 + 1 by simp; omega]; simpa using this.2.1
      · rw [List.getElem?_append_right (by simp; omega)]; rw [show 3 + i * 3 + 2 - [x.1, x.2.1, x.2.2].length = i * 3 + 2 by simp; omega]; simpa using this.2.2

/-- one call, as the list holds it -/
def AskN (w : World) (x : V3) : Prop := ∃ kd bt : Int, x.1 = .int .i64 kd ∧ x.2.2 = .int .u32 bt ∧ 0 ≤ bt ∧ bt ≤ 4294967295 ∧
  (x.2.1 = .slice none 0 0 ∨ ∃ (b : Nat) (zs : List Int), x.2.1 = .slice (some ⟨b, 0, none⟩) zs.length zs.length ∧ Blk w b 3 (zs.map (Value.int .i64)).toArray ∧ (∀ z ∈ zs, (Lit.int .i64 z).wf = true) ∧ zs.length ≤ 100)
theorem AskN.nil (w : World) (kd bt : Int) (h0 : 0 ≤ bt) (h1 : bt ≤ 4294967295) : AskN w (.int .i64 kd, .slice none 0 0, .int .u32 bt) := ⟨kd, bt, rfl, rfl, h0, h1, .inl rfl⟩
theorem AskN.mk {w : World} (kd : Int) {b : Nat} (zs : List Int) (hb : Blk w b 3 (zs.map (Value.int .i64)).toArray) (hz : ∀ z ∈ zs, (Lit.int .i64 z).wf = true) (hl : zs.length ≤ 100) : AskN w (.int .i64 kd, .slice (some ⟨b, 0, none⟩) zs.length zs.length, .int .u32 0) :=
  ⟨kd, 0, rfl, rfl, by omega, by omega, .inr ⟨b, zs, rfl, hb, hz, hl⟩⟩
theorem AskN.keep {w w' : World} {x : V3} (h : AskN w x) (hk : ∀ b (cs : Array Value), Blk w b 3 cs → Blk w' b 3 cs) : AskN w' x := by
  obtain ⟨kd, bt, h1, h2, h3, h4, h5⟩ := h
  refine ⟨kd, bt, h1, h2, h3, h4, ?_⟩
  rcases h5 with h5 | ⟨b, zs, e, hb, r⟩
  · exact .inl h5
  · exact .inr ⟨b, zs, e, hk _ _ hb, r⟩

/-- a list of calls that the text itself has made -/
def OwnAsks (w : World) (base : Nat) (v : Value) (l : List V3) : Prop := w.ownsRow base 38 3 v l.length (flat l) ∧ ∀ x ∈ l, AskN w x
theorem OwnAsks.drop_slot {w : World} {base : Nat} {v : Value} {l : List V3} (h : OwnAsks w base v l) (hl : l.length ≤ maxLen) (h0 : 0 < l.length) : ∃ g cap, v = .slice (some ⟨g, 0, none⟩) l.length cap ∧ AsksAt w w.heap.size (some ⟨g, 0, none⟩) l.length := by
  obtain ⟨ho, hx⟩ := h
  obtain ⟨g, cap, hv, hbase, hlt⟩ := ho.form h0
  refine ⟨g, cap, hv, fun _ => ⟨g, 0, rfl, hlt, fun i hi => ?_⟩⟩
  have hc := ho.cells (g := g) (by rw [hv]; rfl)
  obtain ⟨f0, f1, f2⟩ := flat_at l i hi
  have hadd : ∀ j, (⟨g, 0, none⟩ : Addr).add j = ⟨g, j, none⟩ := by
    intro j
    unfold Addr.add
    split
    · rename_i h0; subst h0; rfl
    · simp
  have c0 := hc _ _ f0
  have c1 := hc _ _ f1
  have c2 := hc _ _ f2
  rw [hadd] at c0 c1 c2
  obtain ⟨kd, bt, h1, h2, h3, h4, h5⟩ := hx l[i] (List.getElem_mem hi)
  rw [h1] at c0
  rw [h2] at c2
  rcases h5 with h5 | ⟨b, zs, e, hb, hz, hl'⟩
  · rw [h5] at c1
    exact ⟨kd, bt, none, 0, 0, [], by rw [Nat.zero_add]; exact c0, by rw [Nat.zero_add]; exact c1, by rw [Nat.zero_add]; exact c2, intsAt_nil _ _ _ _, by simp [maxLen], Nat.le_refl _, h3, h4⟩
  · rw [e] at c1
    have hi1 := intsAt_lit zs hb (wf_list hz)
    exact ⟨kd, bt, _, _, _, zs, by rw [Nat.zero_add]; exact c0, by rw [Nat.zero_add]; exact c1, by rw [Nat.zero_add]; exact c2, hi1.more hb.lt, by simp [maxLen]; omega, Nat.le_refl _, h3, h4⟩

theorem info : (Tryd.prog.info? 38).map (fun i => (i.zero, i.size, i.bytes)) = some (some (.agg #[.int .i64 0, .slice none 0 0, .int .u32 0]), 3, 40) := by kernel_rfl

/-- what an append leaves -/
theorem OwnAsks.app {w w' : World} {base : Nat} {v v' : Value} {l news : List V3} (h : OwnAsks w base v l) (hn : ∀ x ∈ news, AskN w x)
    (hown : w'.ownsRow base 38 3 v' (l.length + news.length) (flat l ++ flat news)) (hg : w.grownBy w' v.ownBlock) : OwnAsks w' base v' (l ++ news) := by
  refine ⟨?_, ?_⟩
  · rw [List.length_append, flat_append]
    exact hown
  · intro x hx
    have hk : ∀ b (cs : Array Value), Blk w b 3 cs → Blk w' b 3 cs := fun b cs hb => hb.grown hg (fun e => own_blk_ne h.1 hb (by decide) e.symm)
    rcases List.mem_append.1 hx with hx | hx
    · exact (h.2 x hx).keep hk
    · exact (hn x hx).keep hk

set_option maxRecDepth 100000 in
set_option maxHeartbeats 4000000 in
theorem walk (w : World) (hT : Tab w) :
    Calls Tryd.prog 5 #[] w fun e w' => e = .returned (.bool true) ∧ Fr (fun _ => False) w w' := by
  obtain ⟨i0, hi0, hz0, hz1, hz2⟩ := info_parts info
  go_enter Tryd.func5, Tryd.ntmps5
  go_wp2_with fail
  go_loopw [1] (fun m wr => ∃ k : Nat, k ≤ 52 ∧ m = .int .u32 ((k : Int) * 5) ∧ Fr (fun _ => False) w wr) (fun m _ => 260 - (intOf m).toNat)
  case atStart => exact ⟨0, by omega, rfl, Fr.refl _ _⟩
  case round =>
    obtain ⟨k, hk, rfl, fr⟩ := hrel
    obtain ⟨wo, rfl⟩ : ∃ wo : World, wo = wr := ⟨_, rfl⟩
    have hTo := hT.fr fr (fun e => e)
    by_cases hlt : k < 52
    · have hd : decide ((k : Int) * 5 < 260) = true := by simp; omega
      go_wp2_with (first
        | (at_builtin
           refine wpList_append_any _ rfl (.tmp 8) (.tmp 11) _ rfl wo.heap.size 38 i0 _ 3 40 Tryd.underlying36 hi0 hz0 hz1 hz2 rfl (by omega) (.slice none 0 0) 0 [] rfl ⟨by simp, .inl ⟨rfl, rfl⟩⟩ (wo.heap.size + 1) (some ⟨wo.heap.size, 0, none⟩) 1 1 [.int .i64 3, .slice none 0 0, .int .u32 ((k : Int) * 5)] rfl (reads_blk (Blk.new _ _ _) rfl) ?_ (by simp [maxLen]) (by omega) (by simp) ?_
           · simp [Value.oneCell']
           intro v1 w1 hown1 hg1 hat1))
      have o1 : OwnAsks w1 wo.heap.size v1 [(.int .i64 3, .slice none 0 0, .int .u32 ((k : Int) * 5))] := OwnAsks.app (l := []) ⟨⟨by simp [flat], .inl ⟨rfl, rfl⟩⟩, fun x hx => by cases hx⟩ (fun x hx => by simp at hx; subst hx; exact AskN.nil _ _ _ (by omega) (by omega)) hown1 hg1
      have fo : Fr (fun _ => False) wo w1 := ((Fr.refl _ _).alloc _).grown hg1 (by intro k hk; simp [Value.ownBlock] at hk)
      clear hown1 hg1 hat1
      go_loopw [2, 3] (fun v i wr => ∃ j : Nat, ∃ L : List V3, j ≤ 10 ∧ i = .int .i64 ((j : Int) - 1) ∧ OwnAsks wr wo.heap.size v L ∧ L.length = j + 1 ∧ Fr (fun _ => False) wo wr) (fun _ i _ => (9 - intOf i).toNat)
      case atStart => exact ⟨0, _, by omega, rfl, o1, rfl, fo⟩
      case round =>
        clear o1 fo
        obtain ⟨j, L, hj, rfl, ol, hL, fo⟩ := hrel
        obtain ⟨wi, rfl⟩ : ∃ wi : World, wi = wr := ⟨_, rfl⟩
        have HL := Lib.hid hL
        clear hL
        by_cases hlt2 : j < 10
        · have hlL : L.length ≤ 20 := by have := HL.out; omega
          have c1 : Blk (wi.alloc (Obj.cells #[Value.int .i64 ((j : Int) - 1)] 3)) wi.heap.size 3 #[Value.int .i64 ((j : Int) - 1)] := Blk.new _ _ _
          have c2 := c1.alloc (.cells #[Value.int .i64 1, .slice (some ⟨wi.heap.size, 0, none⟩) 1 1, Value.int .u32 0] 38)
          have f2 : Fr (fun _ => False) wi ((wi.alloc (Obj.cells #[Value.int .i64 ((j : Int) - 1)] 3)).alloc (.cells #[Value.int .i64 1, .slice (some ⟨wi.heap.size, 0, none⟩) 1 1, Value.int .u32 0] 38)) := ((Fr.refl _ _).alloc _).alloc _
          have hOwn := own_fr ol.1 f2 (fun _ _ e => e)
          go_wp2_with (first
            | (at_builtin
               refine wpList_append_any _ rfl (.tmp 17) (.tmp 21) _ rfl wo.heap.size 38 i0 _ 3 40 Tryd.underlying36 hi0 hz0 hz1 hz2 rfl (by omega) _ L.length (flat L) rfl hOwn (wi.heap.size + 1 + 1) (some ⟨wi.heap.size + 1, 0, none⟩) 1 1 [.int .i64 1, .slice (some ⟨wi.heap.size, 0, none⟩) 1 1, .int .u32 0] rfl (reads_blk (Blk.new' _ _ _ (by simp)) rfl) ?_ (by simp only [maxLen]; omega) (by omega) (by have := fo.size; simp; omega) ?_
               · simp [Value.oneCell']
               intro v2 w2 hown2 hg2 hat2))
          have o2 : OwnAsks w2 wo.heap.size v2 (L ++ [(.int .i64 1, .slice (some ⟨wi.heap.size, 0, none⟩) 1 1, .int .u32 0)]) :=
            OwnAsks.app (l := L) ⟨hOwn, fun x hx => (ol.2 x hx).keep (fun b cs hb => hb.fr f2 (fun e => e))⟩
              (fun x hx => by simp at hx; subst hx; exact AskN.mk 1 [(j : Int) - 1] c2 (by intro z hz; simp at hz; subst hz; exact wf_i64_mk (by omega) (by omega)) (by simp)) hown2 hg2
          have fo2 : Fr (fun _ => False) wo w2 := (fo.tr f2).grown hg2 (fun k hk => .inr (own_base ol.1 k hk))
          clear hown2 hg2 hat2 c1 c2 f2 hOwn ol fo
          exact ⟨⟨j + 1, _, by omega, by congr 1; omega, o2, by simp; have := HL.out; omega, fo2⟩, by simp [intOf]; omega⟩
        · have hj10 : j = 10 := by omega
          subst hj10
          rw [show ((10 : Nat) : Int) - 1 = 9 from rfl]
          have hlL : L.length ≤ 20 := by have := HL.out; omega
          have d1 : Blk (wi.alloc (Obj.cells #[Value.int .i64 3, Value.int .i64 8] 3)) wi.heap.size 3 #[Value.int .i64 3, Value.int .i64 8] := Blk.new _ _ _
          have d1' := d1.alloc (.cells #[Value.int .i64 7, Value.int .i64 0, Value.int .i64 7] 3)
          have d2 : Blk ((wi.alloc (Obj.cells #[Value.int .i64 3, Value.int .i64 8] 3)).alloc (.cells #[Value.int .i64 7, Value.int .i64 0, Value.int .i64 7] 3)) (wi.heap.size + 1) 3 #[Value.int .i64 7, Value.int .i64 0, Value.int .i64 7] := Blk.new' _ _ _ (by simp)
          have c1 := d1'.alloc (.cells #[.int .i64 1, .slice none 0 0, .int .u32 0, .int .i64 1, .slice (some ⟨wi.heap.size, 0, none⟩) 2 2, .int .u32 0, .int .i64 2, .slice none 0 0, .int .u32 5, .int .i64 2, .slice none 0 0, .int .u32 4294967295, .int .i64 1, .slice (some ⟨wi.heap.size + 1, 0, none⟩) 3 3, .int .u32 0] 38)
          have c2 := d2.alloc (.cells #[.int .i64 1, .slice none 0 0, .int .u32 0, .int .i64 1, .slice (some ⟨wi.heap.size, 0, none⟩) 2 2, .int .u32 0, .int .i64 2, .slice none 0 0, .int .u32 5, .int .i64 2, .slice none 0 0, .int .u32 4294967295, .int .i64 1, .slice (some ⟨wi.heap.size + 1, 0, none⟩) 3 3, .int .u32 0] 38)
          clear d1 d1' d2
          have f2 : Fr (fun _ => False) wi (((wi.alloc (Obj.cells #[Value.int .i64 3, Value.int .i64 8] 3)).alloc (.cells #[Value.int .i64 7, Value.int .i64 0, Value.int .i64 7] 3)).alloc (.cells #[.int .i64 1, .slice none 0 0, .int .u32 0, .int .i64 1, .slice (some ⟨wi.heap.size, 0, none⟩) 2 2, .int .u32 0, .int .i64 2, .slice none 0 0, .int .u32 5, .int .i64 2, .slice none 0 0, .int .u32 4294967295, .int .i64 1, .slice (some ⟨wi.heap.size + 1, 0, none⟩) 3 3, .int .u32 0] 38)) := (((Fr.refl _ _).alloc _).alloc _).alloc _
          have hOwn := own_fr ol.1 f2 (fun _ _ e => e)
          go_wp2_with (first
            | (at_builtin
               refine wpList_append_any _ rfl (.tmp 23) (.tmp 31) _ rfl wo.heap.size 38 i0 _ 3 40 Tryd.underlying36 hi0 hz0 hz1 hz2 rfl (by omega) _ L.length (flat L) rfl hOwn (wi.heap.size + 2 + 1) (some ⟨wi.heap.size + 2, 0, none⟩) 5 5 [.int .i64 1, .slice none 0 0, .int .u32 0, .int .i64 1, .slice (some ⟨wi.heap.size, 0, none⟩) 2 2, .int .u32 0, .int .i64 2, .slice none 0 0, .int .u32 5, .int .i64 2, .slice none 0 0, .int .u32 4294967295, .int .i64 1, .slice (some ⟨wi.heap.size + 1, 0, none⟩) 3 3, .int .u32 0] rfl (reads_blk (Blk.new' _ _ _ (by simp)) rfl) ?_ (by simp only [maxLen]; omega) (by omega) (by have := fo.size; simp; omega) ?_
               · simp [Value.oneCell']
               intro v2 w2 hown2 hg2 hat2))
          have o2 : OwnAsks w2 wo.heap.size v2 (L ++ [(.int .i64 1, .slice none 0 0, .int .u32 0), (.int .i64 1, .slice (some ⟨wi.heap.size, 0, none⟩) 2 2, .int .u32 0), (.int .i64 2, .slice none 0 0, .int .u32 5), (.int .i64 2, .slice none 0 0, .int .u32 4294967295), (.int .i64 1, .slice (some ⟨wi.heap.size + 1, 0, none⟩) 3 3, .int .u32 0)]) := by
            refine OwnAsks.app (l := L) ⟨hOwn, fun x hx => (ol.2 x hx).keep (fun b cs hb => hb.fr f2 (fun e => e))⟩ (fun x hx => ?_) hown2 hg2
            simp only [List.mem_cons, List.not_mem_nil, or_false] at hx
            rcases hx with rfl | rfl | rfl | rfl | rfl
            · exact AskN.nil _ _ _ (by omega) (by omega)
            · exact AskN.mk 1 [3, 8] c1 (by intro z hz; simp at hz; exact wf_i64_mk (by omega) (by omega)) (by simp)
            · exact AskN.nil _ _ _ (by omega) (by omega)
            · exact AskN.nil _ _ _ (by omega) (by omega)
            · exact AskN.mk 1 [7, 0, 7] c2 (by intro z hz; simp at hz; exact wf_i64_mk (by omega) (by omega)) (by simp)
          have fo2 : Fr (fun _ => False) wo w2 := (fo.tr f2).grown hg2 (fun k hk => .inr (own_base ol.1 k hk))
          clear hown2 hg2 hat2 c1 c2 f2 hOwn ol fo
          have hlen : (L ++ [(.int .i64 1, .slice none 0 0, .int .u32 0), (.int .i64 1, .slice (some ⟨wi.heap.size, 0, none⟩) 2 2, .int .u32 0), (.int .i64 2, .slice none 0 0, .int .u32 5), (.int .i64 2, .slice none 0 0, .int .u32 4294967295), (.int .i64 1, .slice (some ⟨wi.heap.size + 1, 0, none⟩) 3 3, .int .u32 0)] : List V3).length = 16 := by simp; have := HL.out; omega
          generalize hM : (L ++ [(.int .i64 1, .slice none 0 0, .int .u32 0), (.int .i64 1, .slice (some ⟨wi.heap.size, 0, none⟩) 2 2, .int .u32 0), (.int .i64 2, .slice none 0 0, .int .u32 5), (.int .i64 2, .slice none 0 0, .int .u32 4294967295), (.int .i64 1, .slice (some ⟨wi.heap.size + 1, 0, none⟩) 3 3, .int .u32 0)] : List V3) = M at *
          clear hM
          obtain ⟨g, cap, rfl, ha⟩ := o2.drop_slot (by rw [hlen]; simp [maxLen]) (by rw [hlen]; omega)
          rw [hlen] at ha ⊢
          clear hlen o2
          have fr2 := fr.tr fo2
          go_wp2_with fail
          refine (play_any w2 (hT.fr fr2 (fun e => e)) _ _ _ ha (by simp [maxLen])).mono ?_
          rintro e w3 ⟨rfl, f3⟩
          go_wp2_with fail
          exact ⟨⟨k + 1, by omega, by congr 1; omega, fr2.tr f3⟩, by simp [intOf]; omega⟩
    · have hk52 : k = 52 := by omega
      subst hk52
      rw [show ((52 : Nat) : Int) * 5 = 260 from rfl]
      go_wp2_with fail
      refine (known_any _ hTo).mono ?_
      rintro e w2 ⟨rfl, f2⟩
      go_wp2_with fail
      go_ret
      exact ⟨rfl, fr.tr f2⟩
end Go.Proofs.YtnlkcmjnohageaaDoor.irqNumbers
