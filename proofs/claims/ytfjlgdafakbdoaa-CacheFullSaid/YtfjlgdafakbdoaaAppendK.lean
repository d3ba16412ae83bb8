/- append, where the old row is looked at again: it still holds what it held. -/
import Derived.Test.YtfjlgdafakbdoaaAppend
namespace Go.Proofs.Ytfjlgdafakbdoaa
open Go.RowKit
set_option linter.unusedVariables false
set_option linter.unusedSimpArgs false

theorem run_append_keeps {P : Program} (w : World) (base : Nat) (t ty e : TypeId) (i : TypeInfo) (z : Value) (size bytes : Nat) (ht : P.underlying t = some (.slice e)) (hi : P.info? e = some i) (hz : i.zero = some z)
    (hsize : i.size = size) (hby : i.bytes = bytes) (hzs : z.cells.size = size) (hsz : 0 < size)
    (g n cap : Nat) (xs : List Value) (hown : w.ownsRow base e size (.slice (some ⟨g, 0, none⟩) n cap) n xs)
    (ad : Addr) (m c : Nat) (news : List Value) (hl : news.length = m * size) (hnews : ∀ j u, news[j]? = some u → w.cell? (ad.add j) = some u) (h1 : ∀ u ∈ news, u.oneCell' = true)
    (h63 : n + m ≤ maxLen) (hbytes : (n + m) * bytes ≤ 140737488355328) :
    ∃ A' c' w', (Builtin.append_ #[t, t] ty #[.slice (some ⟨g, 0, none⟩) n cap, .slice (some ad) m c]).run P w = .ok (.slice A' (n + m) c') w' ∧ w'.ownsRow 0 e size (.slice A' (n + m) c') (n + m) (xs ++ news) ∧
      w'.ownsRow base e size (.slice (some ⟨g, 0, none⟩) n cap) n xs ∧ Fr (· = g) w w' := by
  obtain ⟨hxl, hx⟩ := hown
  rcases hx with ⟨e1, _⟩ | ⟨g', cap', cur, e1, hbg, hb, hnc, hcm, hcs, htk⟩
  · injection e1 with e1; cases e1
  · injection e1 with e1 _ e3
    injection e1 with e1
    injection e1 with e1
    subst e1
    subst e3
    have hB : Blk w g e cur := hb
    have hle : n * size ≤ cap * size := Nat.mul_le_mul_right _ hnc
    have hcell : ∀ j u, xs[j]? = some u → w.cell? ((⟨g, 0, none⟩ : Addr).add j) = some u := fun j u hu => by
      have hj : j < n * size := by
        have := (List.getElem?_eq_some_iff.1 hu).1
        omega
      have e3 : (⟨g, 0, none⟩ : Addr).add j = ⟨g, j, none⟩ := by
        unfold Addr.add
        split
        · rename_i h0; subst h0; rfl
        · rw [Nat.zero_add]
      rw [e3, hB.cell j, ← hu, ← htk, List.getElem?_take_of_lt hj, Array.getElem?_toList]
    by_cases hroom : n + m ≤ cap
    · subst hsize
      have hsp : (n + m) * i.size ≤ cap * i.size := Nat.mul_le_mul_right _ hroom
      have hadd : (n + m) * i.size = n * i.size + m * i.size := Nat.add_mul _ _ _
      have hr := run_append_room_cells (P := P) w t ty e i ht hi g 0 n cap ad m c news hl hnews h1 hroom (fun j hj => by
        rw [hB.cell]
        have : n * i.size + j < cur.size := by omega
        simp [this]) (fun j hj => hB.frozen _)
      rw [Nat.zero_add] at hr
      have hB2 := hB.setCells news (n * i.size)
      have hs2 : (setRange cur (n * i.size) news).size = cap * i.size := by rw [← hcs]; exact setRange_size _ _ _
      have hout : ∀ q, q < n * i.size → (setRange cur (n * i.size) news)[q]? = cur[q]? := fun q hq => setRange_out news cur (n * i.size) q (by omega)
      have hin : ∀ q, q < news.length → (setRange cur (n * i.size) news)[n * i.size + q]? = news[q]? := fun q hq => setRange_in news cur (n * i.size) q (by omega) hq
      refine ⟨_, _, _, hr, ⟨by rw [List.length_append, hxl, hl, hadd], .inr ⟨g, cap, _, rfl, Nat.zero_le _, hB2, hroom, hcm, hs2, ?_⟩⟩, ⟨hxl, .inr ⟨g, cap, _, rfl, hbg, hB2, hnc, hcm, hs2, ?_⟩⟩, Fr.setCells _ _ (Fr.refl _ _) (.inl rfl)⟩
      · apply List.ext_getElem?
        intro q
        by_cases h2 : q < n * i.size
        · rw [List.getElem?_take_of_lt (by omega), Array.getElem?_toList, hout q h2, List.getElem?_append_left (by omega), ← htk, List.getElem?_take_of_lt h2, Array.getElem?_toList]
        · by_cases h3 : q < (n + m) * i.size
          · obtain ⟨r, rfl⟩ : ∃ r, q = n * i.size + r := ⟨q - n * i.size, by omega⟩
            rw [List.getElem?_take_of_lt h3, Array.getElem?_toList, hin r (by omega), List.getElem?_append_right (by omega)]
            congr 1
            omega
          · rw [List.getElem?_eq_none (by rw [List.length_take]; omega), List.getElem?_eq_none (by rw [List.length_append]; omega)]
      · apply List.ext_getElem?
        intro q
        by_cases h2 : q < n * i.size
        · rw [List.getElem?_take_of_lt h2, Array.getElem?_toList, hout q h2, ← htk, List.getElem?_take_of_lt h2, Array.getElem?_toList]
        · rw [List.getElem?_eq_none (by rw [List.length_take]; omega), List.getElem?_eq_none (by omega)]
    · obtain ⟨v', w', hr, ho, hg⟩ := run_append_arg_grows (P := P) w t ty e i z size bytes ht hi hz hsize hby hzs hsz ⟨g, 0, none⟩ n cap xs hxl hcell ad m c news hl hnews (by omega) h63 hbytes
      have hv : ∃ A' c', v' = .slice A' (n + m) c' := by
        rcases ho.2 with ⟨rfl, h0⟩ | ⟨g', cap', cur', rfl, _⟩
        · rw [h0]; exact ⟨_, _, rfl⟩
        · exact ⟨_, _, rfl⟩
      obtain ⟨A', c', rfl⟩ := hv
      have f : Fr (fun _ => False) w w' := (Fr.refl _ w).grown hg (fun k e => by cases e)
      refine ⟨A', c', w', hr, ?_, ⟨hxl, .inr ⟨g, cap, cur, rfl, hbg, hB.fr f (fun e => e), hnc, hcm, hcs, htk⟩⟩, f.mono (fun _ _ e => e.elim)⟩
      obtain ⟨k1, k2⟩ := ho
      refine ⟨k1, k2.imp id ?_⟩
      rintro ⟨g', cap', cur', h2, h3, r⟩
      exact ⟨g', cap', cur', h2, Nat.zero_le _, r⟩
/-- at a step of a region that draws -/
theorem step_append_keeps {P : Program} {ops : Array Oper} {o : Oper} {a : Act} {w : World} {K : Act → World → Prop} {Q : Exit → Act → World → Prop} {E : Prop} (hgd : o.guard = none) (s x : Operand) (t : TypeId)
    (ho : o.op = .call { callee := .builtin .append, args := #[s, x], argTypes := #[t, t] })
    (base : Nat) (e : TypeId) (i : TypeInfo) (z : Value) (size bytes : Nat) (ht : P.underlying t = some (.slice e)) (hi : P.info? e = some i) (hz : i.zero = some z)
    (hsize : i.size = size) (hby : i.bytes = bytes) (hzs : z.cells.size = size) (hsz : 0 < size)
    (g n cap : Nat) (xs : List Value) (hs : a.eval s = .slice (some ⟨g, 0, none⟩) n cap) (hown : w.ownsRow base e size (.slice (some ⟨g, 0, none⟩) n cap) n xs)
    (ad : Addr) (m c : Nat) (news : List Value) (hx : a.eval x = .slice (some ad) m c) (hl : news.length = m * size) (hnews : ∀ j u, news[j]? = some u → w.cell? (ad.add j) = some u) (h1 : ∀ u ∈ news, u.oneCell' = true)
    (h63 : n + m ≤ maxLen) (hbytes : (n + m) * bytes ≤ 140737488355328)
    (h : ∀ A' c' w', w'.ownsRow 0 e size (.slice A' (n + m) c') (n + m) (xs ++ news) → w'.ownsRow base e size (.slice (some ⟨g, 0, none⟩) n cap) n xs → Fr (· = g) w w' → K (a.put o.dst (.slice A' (n + m) c')) w') :
    if Region.wanted o (yielded ops a.tmps) = true then Oper.wp P o a w K Q else E := by
  have hw : Region.wanted o (yielded ops a.tmps) = true := by simp [Region.wanted, hgd]
  rw [if_pos hw]
  obtain ⟨A', c', w', hrun, h2, h3, h4⟩ := run_append_keeps (P := P) w base t o.type e i z size bytes ht hi hz hsize hby hzs hsz g n cap xs hown ad m c news hl hnews h1 h63 hbytes
  unfold Oper.wp execOp
  simp only [ho, resolve, invoke, builtin, Sem.run_bind, Sem.run_pure, Result.andThen_ok, List.map_toArray, List.map_cons, List.map_nil, hs, hx, hrun]
  exact h A' c' w' h2 h3 h4
end Go.Proofs.Ytfjlgdafakbdoaa
