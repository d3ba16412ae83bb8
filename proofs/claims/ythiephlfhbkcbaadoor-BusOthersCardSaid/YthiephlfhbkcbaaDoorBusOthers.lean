/- BusOthers: the walk. -/
import Derived.Test.YthiephlfhbkcbaaDoorBusAlike
import Derived.Lib.SlBytesConst
namespace Go.Proofs.YthiephlfhbkcbaaDoor.busOthers
open Go.RowKit Fm Nt Rm By Dr Rf Bs
set_option linter.unusedVariables false
set_option linter.unusedSimpArgs false
set_option maxHeartbeats 4000000

theorem lit_fz {k : IntKind} {w : World} {t : TypeId} {zs : List Int} {N : Nat} {cs : Array Value} (fz : Nat × Nat) (hc : cs = (zs.map (Value.int k)).toArray) (hl : zs.length = N) (hw : ∀ z ∈ zs, (Lit.int k z).wf = true) : IntsAt k (w.alloc (.cells cs t fz)) (w.heap.size + 1) (some ⟨w.heap.size, 0, none⟩) N zs := by
  subst hl hc
  refine ⟨rfl, fun i hi => ?_, fun _ => ⟨w.heap.size, 0, rfl, by omega, fun i hi => ?_⟩⟩
  · rw [List.getD_eq_getElem?_getD, List.getElem?_eq_getElem hi]
    exact hw _ (List.getElem_mem hi)
  · have : (w.alloc (.cells (zs.map (Value.int k)).toArray t fz)).heap[w.heap.size]? = some (.cells (zs.map (Value.int k)).toArray t fz) := by
      show (w.heap.push _)[w.heap.size]? = _
      simp
    unfold World.cell?
    dsimp only
    rw [this]
    simp [hi, List.getD_eq_getElem?_getD]
/-- both parts of two that a statement made -/
theorem bo_doc {w w' : World} {yl zl : List Int} {e : Ending} (h : Both15 w yl zl e w') : ∃ (a : Ab) (r : Rr), e = .returned (.tuple #[.pointer (some ⟨a.gB, 0, none⟩), .pointer (some ⟨r.gR, 0, none⟩), .pointer (some ⟨a.am.gm, 0, none⟩)]) ∧ BO w w' (fun k => r.its k) a (Sb.new (Ms.init 4 yl) zl) ∧ Doc w' r (Sb.new (Ms.init 4 yl) zl) ∧ (∀ k, r.its k → w.heap.size ≤ k) := by
  obtain ⟨a, F, r, rfl, hB, hD, hbl, hri, hsep, f⟩ := h
  refine ⟨a, r, rfl, ⟨F, hB, fun k hk => ⟨hbl k hk, hsep k hk⟩, f, fun k hk => ?_⟩, hD, hri⟩
  rcases hk with rfl | rfl | rfl | rfl | rfl
  · obtain ⟨vo, vi, h1, _⟩ := hD.b; exact h1.lt
  · exact hD.B.c.lt
  · exact hD.B.r.b.lt
  · exact hD.B.r.cb.lt
  · exact hD.B.r.ct.lt
/-- no device lies there: the bus stays -/
theorem read_no (s : Sb) (P : Int) (h : loadB P = false) : s.read P = s := by
  unfold Sb.read
  rw [if_neg]
  intro e
  rw [loadB] at h
  have := of_decide_eq_false h
  omega
theorem load_no (s : Sb) (P c : Int) (h : loadB P = false) : loadV s P c = 0 := by
  rw [loadB] at h
  have hn := of_decide_eq_false h
  unfold loadV loadO
  rw [if_neg (by omega), if_neg (by omega), if_neg (by omega), if_neg (by omega), if_neg (by omega), if_neg (by omega), if_neg (by omega), if_neg (by omega), if_neg (by omega)]
theorem store_no (s : Sb) (P v : Int) (h : loadB P = false) : s.store P v = s := by
  rw [loadB] at h
  have hn := of_decide_eq_false h
  unfold Sb.store Sb.storeO
  rw [if_neg (by omega), if_neg (by omega), if_neg (by omega), if_neg (by omega), if_neg (by omega), if_neg (by omega), if_neg (by omega)]
def LD : List Int := [100, 105, 115, 107]
def cD : Array Value := #[.int .u8 100, .int .u8 105, .int .u8 115, .int .u8 107]
def LR : List Int := [114, 97, 109]
def cR : Array Value := #[.int .u8 114, .int .u8 97, .int .u8 109]
theorem rowAt_nil {w : World} {r : Rr} {v : Value} (h : RowAt w r v []) (w' : World) : RowAt w' r v [] := by
  obtain ⟨A, n, c, rfl, h1, h2, h3, h4⟩ := h
  have hn : n = 0 := h1.1.symm
  subst hn
  exact ⟨A, 0, c, rfl, intsAt_nil _ _ _ _, h2, h3, fun h => absurd h (by omega)⟩
/-- nothing was typed or told: what is written elsewhere does not turn it -/
theorem doc_nil {w w' : World} {r : Rr} {s : Sb} {S : Nat → Prop} (h : Doc w r s) (h1 : s.outs = []) (h2 : s.ins = []) (f : Fr S w w') (hs : ∀ k, r.its k → ¬ S k) : Doc w' r s := by
  obtain ⟨vo, vi, hb, ho, hi⟩ := h.b
  rw [h1] at ho
  rw [h2] at hi
  refine ⟨h.B.fr f (fun k _ e => ⟨fun q => hs k (.inl q) e, fun q => hs k (.inr (.inl q)) e, fun q => hs k (.inr (.inr (.inl q))) e, fun q => hs k (.inr (.inr (.inr (.inl q)))) e, fun q => hs k (.inr (.inr (.inr (.inr q)))) e⟩), vo, vi, hb.fr f (hs _ (.inl rfl)), ?_, ?_⟩
  · rw [h1]; exact rowAt_nil ho w'
  · rw [h2]; exact rowAt_nil hi w'
theorem there_yes (o : Int) (h : o = 0 ∨ o = 4 ∨ o = 8 ∨ o = 12 ∨ o = 16 ∨ o = 20 ∨ o = 24 ∨ o = 32 ∨ o = 36 ∨ o = 40 ∨ o = 44) : o < 48 ∧ o % 4 = 0 ∧ o ≠ 28 := by omega
theorem there_no (o : Int) (h0 : 0 ≤ o) (h : ¬ (o = 0 ∨ o = 4 ∨ o = 8 ∨ o = 12 ∨ o = 16 ∨ o = 20 ∨ o = 24 ∨ o = 32 ∨ o = 36 ∨ o = 40 ∨ o = 44)) : ¬ o < 48 ∨ o < 48 ∧ o % 4 ≠ 0 ∨ o < 48 ∧ o % 4 = 0 ∧ o = 28 := by omega
set_option maxRecDepth 100000 in
theorem walk (w : World) (hT : Iq.Tab w) (at_ : Int) (hat : (Lit.int .u32 at_).wf = true) (v : Int) (hv : (Lit.int .u32 v).wf = true) (n : Int) (hn : (Lit.int .u64 n).wf = true) :
    Calls Tryd.prog 4 #[.int .u32 at_, .int .u32 v, .int .u64 n] w fun e w' => e = .returned (.bool true) ∧ Fr (fun _ => False) w w' := by
  obtain ⟨a0, a1⟩ := wf_u32 hat
  obtain ⟨v0, v1⟩ := wf_u32 hv
  obtain ⟨n0, n1⟩ := wf_u64 hn
  clear hat hv hn
  have fa : Fr (fun _ => False) w (w.alloc (.cells cD 5 (4, 5))) := (Fr.refl _ w).alloc _
  have I1 := lit_fz (k := .u8) (zs := LD) (N := 4) (w := w) (t := 5) (cs := cD) (4, 5) rfl rfl (by decide)
  have hsa : (w.alloc (.cells cD 5 (4, 5))).heap.size = w.heap.size + 1 := by simp
  have hcv : (convert 24 24 (.slice (some ⟨w.heap.size, 0, none⟩) 4 4)).run Tryd.prog (w.alloc (.cells cD 5)) = .ok (.slice (some ⟨w.heap.size, 0, none⟩) 4 4) (w.alloc (.cells cD 5 (4, 5))) := Go.Lib.run_convert_bytes_const w 24 5 cD 4 4 Tryd.underlying24 Tryd.underlying5
  have I2 := lit_fz (k := .u8) (zs := LR) (N := 3) (w := w.alloc (.cells cD 5 (4, 5))) (t := 5) (cs := cR) (3, 4) rfl rfl (by decide)
  have hcv2 : (convert 24 24 (.slice (some ⟨(w.alloc (.cells cD 5 (4, 5))).heap.size, 0, none⟩) 3 3)).run Tryd.prog ((w.alloc (.cells cD 5 (4, 5))).alloc (.cells cR 5)) = .ok (.slice (some ⟨(w.alloc (.cells cD 5 (4, 5))).heap.size, 0, none⟩) 3 3) ((w.alloc (.cells cD 5 (4, 5))).alloc (.cells cR 5 (3, 4))) := Go.Lib.run_convert_bytes_const _ 24 5 cR 3 3 Tryd.underlying24 Tryd.underlying5
  have fb : Fr (fun _ => False) (w.alloc (.cells cD 5 (4, 5))) ((w.alloc (.cells cD 5 (4, 5))).alloc (.cells cR 5 (3, 4))) := (Fr.refl _ _).alloc _
  have hsb : ((w.alloc (.cells cD 5 (4, 5))).alloc (.cells cR 5 (3, 4))).heap.size = w.heap.size + 2 := by simp
  rw [hsa] at I2 hcv2
  have Hbo := Lib.hid (both15 _ (some ⟨w.heap.size, 0, none⟩) 4 4 LD (((I1.fr fb (by rw [hsa]; omega) (fun _ _ e => e))).more (by rw [hsb]; omega)) (by omega) (some ⟨w.heap.size + 1, 0, none⟩) 3 3 LR (I2.more (by rw [hsb]; omega)) (by omega))
  have Hfa := Lib.hid (fa.tr fb)
  unfold cD cR at *
  clear I1 I2 fa fb
  have hw : IntKind.u32.wrap (at_ - 32768) = offO at_ := IntKind.wrap_u32 _
  obtain ⟨cn, hcn⟩ : ∃ c : Int, n % 1099511627776 = c := ⟨_, rfl⟩
  have cn0 : 0 ≤ cn := by omega
  have cn1 : cn ≤ 18446744073709551615 := by omega
  go_enter Tryd.func4, Tryd.ntmps4
  go_wp2_with fail
  refine (Hbo.out).mono ?_
  rintro e w1 hb
  obtain ⟨a, r, rfl, hB, hD, hri⟩ := bo_doc hb
  have h0o : (Sb.new (Ms.init 4 LR) LD).outs = [] := rfl
  have h0i : (Sb.new (Ms.init 4 LR) LD).ins = [] := rfl
  clear hb hcv hcv2 Hbo
  generalize Sb.new (Ms.init 4 LR) LD = s at *
  obtain ⟨w0, hB, Hfa⟩ : ∃ w0, BO w0 w1 (fun k => r.its k) a s ∧ Hid (Fr (fun _ => False) w w0) := ⟨_, hB, Hfa⟩
  have Hl := load_o hB at_ cn a0 a1 cn0 cn1
  have o0 : 0 ≤ offO at_ := by unfold offO; omega
  have HB := Lib.hid hB
  have HD := Lib.hid hD
  have HT := Lib.hid hT
  have HR := Lib.hid hri
  have F1 := Lib.hid (Hfa.out.tr hB.frame)
  have hR0 := Lib.hid (read_no s at_)
  have hS0 := Lib.hid (store_no s at_ v)
  have hV0 := Lib.hid (load_no s at_ cn)
  have Hso := Lib.hid (fun W (h : BO w0 W (fun k => r.its k) a s) => store_o h at_ v cn a0 a1 v0 v1 (by rw [h0o]; show 0 ≤ 1000000; omega))
  have hlo : s.outs.length ≤ 1000000 := by rw [h0o]; show 0 ≤ 1000000; omega
  clear hB hD hT hri
  cases hlb : loadB at_
  · have hno : ¬ (offO at_ = 0 ∨ offO at_ = 4 ∨ offO at_ = 8 ∨ offO at_ = 12 ∨ offO at_ = 16 ∨ offO at_ = 20 ∨ offO at_ = 24 ∨ offO at_ = 32 ∨ offO at_ = 36 ∨ offO at_ = 40 ∨ offO at_ = 44) := by rw [loadB] at hlb; exact of_decide_eq_false hlb
    have hc := there_no _ o0 hno
    rw [hlb, hR0.out hlb, hV0.out hlb] at Hl
    have Hs2 := Lib.hid (fun W (h : BO w0 W (fun k => r.its k) a s) => by have := Hso.out W h; rw [hlb, hS0.out hlb] at this; exact this)
    have Hl := Lib.hid Hl
    clear hno hlb hR0 hV0 hS0 Hso
    generalize offO at_ = o at *
    rcases hc with h48 | ⟨h48, h4⟩ | ⟨h48, h4, h28⟩
    · have g1 : decide (o < 48) = false := by simpa using h48
      clear h48
      go_wp2_with fail
      refine (Hl.out).mono ?_
      rintro e w2 ⟨rfl, hB2, f2⟩
      have D2 := Lib.hid (doc_nil HD.out h0o h0i f2 (fun k hk e => e hk))
      have B2 := Lib.hid hB2
      have Hst := Lib.hid (Hs2.out w2 hB2)
      clear f2 hB2
      go_wp2_with fail
      refine (Hst.out).mono ?_
      rintro e w3 ⟨rfl, hB3, f3⟩
      have D3 := doc_nil D2.out h0o h0i f3 (fun k hk e => e hk)
      have fr3 := Hfa.out.tr hB3.frame
      have Ha := Lib.hid (alike15 _ w3 _ a s r (HT.out.fr fr3 (fun e => e)) hB3 D3 hlo)
      have F3 := Lib.hid fr3
      clear fr3 hB3 f3 D3
      go_wp2_with fail
      refine (Ha.out).mono ?_
      rintro e w4 ⟨rfl, f4⟩
      go_wp2_with fail
      refine (known15 w4).mono ?_
      rintro e w5 ⟨rfl, f5⟩
      go_wp2_with fail
      go_ret
      exact ⟨rfl, (F3.out.tr f4).tr f5⟩
    · have g1 : (o % 4 == 0) = false := by simpa using h4
      clear h4
      go_wp2_with fail
      refine (Hl.out).mono ?_
      rintro e w2 ⟨rfl, hB2, f2⟩
      have D2 := Lib.hid (doc_nil HD.out h0o h0i f2 (fun k hk e => e hk))
      have B2 := Lib.hid hB2
      have Hst := Lib.hid (Hs2.out w2 hB2)
      clear f2 hB2
      go_wp2_with fail
      refine (Hst.out).mono ?_
      rintro e w3 ⟨rfl, hB3, f3⟩
      have D3 := doc_nil D2.out h0o h0i f3 (fun k hk e => e hk)
      have fr3 := Hfa.out.tr hB3.frame
      have Ha := Lib.hid (alike15 _ w3 _ a s r (HT.out.fr fr3 (fun e => e)) hB3 D3 hlo)
      have F3 := Lib.hid fr3
      clear fr3 hB3 f3 D3
      go_wp2_with fail
      refine (Ha.out).mono ?_
      rintro e w4 ⟨rfl, f4⟩
      go_wp2_with fail
      refine (known15 w4).mono ?_
      rintro e w5 ⟨rfl, f5⟩
      go_wp2_with fail
      go_ret
      exact ⟨rfl, (F3.out.tr f4).tr f5⟩
    · subst h28
      clear h4 h48
      go_wp2_with fail
      refine (Hl.out).mono ?_
      rintro e w2 ⟨rfl, hB2, f2⟩
      have D2 := Lib.hid (doc_nil HD.out h0o h0i f2 (fun k hk e => e hk))
      have B2 := Lib.hid hB2
      have Hst := Lib.hid (Hs2.out w2 hB2)
      clear f2 hB2
      go_wp2_with fail
      refine (Hst.out).mono ?_
      rintro e w3 ⟨rfl, hB3, f3⟩
      have D3 := doc_nil D2.out h0o h0i f3 (fun k hk e => e hk)
      have fr3 := Hfa.out.tr hB3.frame
      have Ha := Lib.hid (alike15 _ w3 _ a s r (HT.out.fr fr3 (fun e => e)) hB3 D3 hlo)
      have F3 := Lib.hid fr3
      clear fr3 hB3 f3 D3
      go_wp2_with fail
      refine (Ha.out).mono ?_
      rintro e w4 ⟨rfl, f4⟩
      go_wp2_with fail
      refine (known15 w4).mono ?_
      rintro e w5 ⟨rfl, f5⟩
      go_wp2_with fail
      go_ret
      exact ⟨rfl, (F3.out.tr f4).tr f5⟩
  · have hyes : offO at_ = 0 ∨ offO at_ = 4 ∨ offO at_ = 8 ∨ offO at_ = 12 ∨ offO at_ = 16 ∨ offO at_ = 20 ∨ offO at_ = 24 ∨ offO at_ = 32 ∨ offO at_ = 36 ∨ offO at_ = 40 ∨ offO at_ = 44 := by rw [loadB] at hlb; exact of_decide_eq_true hlb
    obtain ⟨h48, h4, h28⟩ := there_yes _ hyes
    rw [hlb] at Hl
    have Hl := Lib.hid Hl
    clear hyes hlb hR0 hV0 hS0 Hso
    generalize loadV s at_ cn = lv at *
    generalize offO at_ = o at *
    have g1 : (o % 4 == 0) = true := by simpa using h4
    have g2 : (o != 28) = true := by simpa using h28
    clear h4 h28
    go_wp2_with fail
    refine (Hl.out).mono ?_
    rintro e w2 ⟨rfl, hB2, f2⟩
    go_wp2_with fail
    refine (known15 w2).mono ?_
    rintro e w3 ⟨rfl, f3⟩
    go_wp2_with fail
    go_ret
    exact ⟨rfl, (Hfa.out.tr hB2.frame).tr f3⟩
end Go.Proofs.YthiephlfhbkcbaaDoor.busOthers
