/- The console statements: strings of bytes, Cut, made slices, known. -/
import Derived.Test.YtnlkcmjnohageaaConsole
import Derived.Test.YtnlkcmjnohageaaBook
import Derived.Laws.BytesString
namespace Go.Proofs.Ytnlkcmjnohageaa.Co
open Go.RowKit
set_option linter.unusedVariables false

def str (ns : List Int) : ByteArray := ns.foldl (fun r n => r.push (UInt8.ofNat n.toNat)) ByteArray.empty
theorem str_data (ns : List Int) : (str ns).data = (ns.map fun n => UInt8.ofNat n.toNat).toArray := by
  have h : ∀ (l : List Int) (r : ByteArray), (l.foldl (fun r n => r.push (UInt8.ofNat n.toNat)) r).data = r.data ++ (l.map fun n => UInt8.ofNat n.toNat).toArray := by
    intro l
    induction l with
    | nil => intro r; simp
    | cons x l ih => intro r; rw [List.foldl_cons, ih]; simp [ByteArray.push]
  rw [str, h]
  show (#[] : Array UInt8) ++ _ = _
  simp
theorem str_append (a b : List Int) : str (a ++ b) = str a ++ str b := by
  apply ByteArray.ext
  rw [str_data, ByteArray.data_append, str_data, str_data]
  simp
theorem str_nil : str [] = ByteArray.empty := rfl

/-- string(bytes) -/
theorem run_str (w : World) (B : Nat) (A : Option Addr) (n c : Nat) (zs : List Int) (h : Reads w B 1 A n (by8 zs)) : (convert 33 9 (.slice A n c)).run Try.prog w = .ok (.string (str zs)) w := by
  have hl : zs.length = n := by have := h.1; simpa [by8] using this
  rw [run_convert_bytes_string w 33 9 5 A n c Try.underlying33 Try.underlying5 Try.underlying9]
  rcases A with _ | a
  · have hn : n = 0 := by
      rcases Nat.eq_zero_or_pos n with h0 | h0
      · exact h0
      · obtain ⟨ad, e, _⟩ := h.2 h0
        cases e
    subst hn
    have : zs = [] := List.length_eq_zero_iff.1 hl
    subst this
    simp [Conv.bytesToString, str]
  · refine run_bytesToString w a n c zs ?_
    have := run_loadCells_list (P := Try.prog) w a (by8 zs) (by
      intro j u hu
      rcases Nat.eq_zero_or_pos n with h0 | h0
      · subst h0
        have : zs = [] := List.length_eq_zero_iff.1 hl
        subst this
        simp [by8] at hu
      · obtain ⟨ad, e, _, hc⟩ := h.2 h0
        injection e with e
        subst e
        exact hc j u hu)
    rw [by8_len, hl] at this
    exact this

/-- where s[lo:] begins -/
def cutA (A : Option Addr) (cap lo : Nat) : Option Addr := if cap = lo then A else A.map (·.add (lo * 1))
theorem run_slice8 (A : Option Addr) (len cap lo hi : Nat) (h1 : lo ≤ hi) (h2 : hi ≤ cap) (w : World) :
    (Instr.slice 33 (.slice A len cap) (some (.int .i64 (lo : Int))) (some (.int .i64 (hi : Int))) none).run Try.prog w = .ok (.slice (cutA A cap lo) (hi - lo) (cap - lo)) w := by
  obtain ⟨i0, hi0, hz0, hz1, hz2⟩ := info_parts info8
  have he : Try.prog.elem 33 = 5 := by kernel_rfl
  rw [run_slice_lh w 33 A len cap (by rw [he]; exact Try.underlying33) .i64 .i64 lo hi (by omega) (by omega) (by omega)]
  simp [sizeOf, typeInfo, he, hi0, hz1, Result.andThen, sliced, cutA]
theorem run_slice8h (A : Option Addr) (len cap hi : Nat) (h2 : hi ≤ cap) (w : World) :
    (Instr.slice 33 (.slice A len cap) none (some (.int .i64 (hi : Int))) none).run Try.prog w = .ok (.slice A hi cap) w := by
  obtain ⟨i0, hi0, hz0, hz1, hz2⟩ := info_parts info8
  have he : Try.prog.elem 33 = 5 := by kernel_rfl
  rw [run_slice_h w 33 A len cap (by rw [he]; exact Try.underlying33) .i64 hi (by omega) (by omega)]
  simp [sizeOf, typeInfo, he, hi0, hz1, Result.andThen, sliced]
  cases A <;> simp [Addr.add]
theorem cutA_reads {w : World} {B n cap lo hi : Nat} {A : Option Addr} {xs : List Value} (h : Reads w B 1 A n xs) (h1 : lo ≤ hi) (h2 : hi ≤ n) (hc : n ≤ cap) : Reads w B 1 (cutA A cap lo) (hi - lo) ((xs.take hi).drop lo) := by
  have hx := h.1
  refine ⟨by simp; omega, fun hn => ?_⟩
  obtain ⟨ad, e, hb, hcell⟩ := h.2 (by omega)
  refine ⟨ad.add (lo * 1), by rw [cutA, if_neg (by omega), e]; rfl, by rw [block_of_add]; exact hb, fun j u hu => ?_⟩
  rw [add_of_add]
  refine hcell _ u ?_
  rw [List.getElem?_drop] at hu
  have hj : lo + j < hi := by
    rcases Nat.lt_or_ge (lo + j) hi with h | h
    · exact h
    · rw [List.getElem?_eq_none (by simp; omega)] at hu; cases hu
  rw [List.getElem?_take_of_lt hj] at hu
  rw [Nat.mul_one]
  exact hu

theorem cutA_ints {w : World} {k : IntKind} {B n cap lo hi : Nat} {A : Option Addr} {zs : List Int} (h : IntsAt k w B A n zs) (h1 : lo ≤ hi) (h2 : hi ≤ n) (hc : n ≤ cap) : IntsAt k w B (cutA A cap lo) (hi - lo) ((zs.take hi).drop lo) := by
  have hx := h.1
  have hg : ∀ i, i < hi - lo → ((zs.take hi).drop lo).getD i 0 = zs.getD (lo + i) 0 := by
    intro i hi'
    simp only [List.getD_eq_getElem?_getD]
    rw [List.getElem?_drop, List.getElem?_take_of_lt (by omega)]
  refine ⟨by simp; omega, fun i hi' => by rw [hg i hi']; exact h.2.1 _ (by omega), fun hn => ?_⟩
  obtain ⟨b, off, e, hb, hcell⟩ := h.2.2 (by omega)
  refine ⟨b, off + lo, ?_, hb, fun i hi' => ?_⟩
  · rw [cutA, if_neg (by omega), e, Nat.mul_one]
    show some (Addr.add _ _) = _
    unfold Addr.add
    split
    · rename_i h0; subst h0; rfl
    · rfl
  · rw [hg i hi', Nat.add_assoc]
    exact hcell _ (by omega)

/-- innkeeperkeep.Cut -/
theorem cut_any (w : World) (A : Option Addr) (len cap : Nat) (n : Nat) (hm : len ≤ maxLen) (hc : len ≤ cap) (hn : n ≤ 1000000) :
    Calls Try.prog 22 #[.slice A len cap, .int .i64 n] w fun e w' => e = .returned (.slice A (min len n) cap) ∧ w = w' := by
  unfold maxLen at hm
  by_cases h : n < len
  · have e : min len n = n := by omega
    rw [e]
    go_enter Try.func22, Try.ntmps22
    go_wp2
    go_ret
    exact ⟨rfl, rfl⟩
  · have e : min len n = len := by omega
    rw [e]
    go_enter Try.func22, Try.ntmps22
    go_wp2
    go_ret
    exact ⟨rfl, rfl⟩

/-- make([]byte, n) -/
def zeros (n : Nat) : List Int := List.replicate n 0
theorem zeros_wf (n : Nat) : ∀ z ∈ zeros n, (Lit.int .u8 z).wf = true := by
  intro z hz
  have : z = 0 := List.eq_of_mem_replicate hz
  subst this
  rfl
theorem zeros_len (n : Nat) : (zeros n).length = n := by simp [zeros]
def zcells (n : Nat) : Array Value := madeCells #[.int .u8 0] n
theorem run_make8 (n : Nat) (hn : n ≤ 1000000) (w : World) : (Instr.makeSlice 33 (.int .i64 (n : Int)) (.int .i64 (n : Int))).run Try.prog w = .ok (.slice (some ⟨w.heap.size, 0, none⟩) n n) (w.alloc (.cells (zcells n) 5)) := by
  obtain ⟨i0, hi0, hz0, hz1, hz2⟩ := info_parts info8
  have hr := run_make (P := Try.prog) w 33 5 i0 (.int .u8 0) Try.underlying33 hi0 hz0 .i64 .i64 n n (by omega) (by omega) (by rw [hz2]; omega) (by omega)
  simp only [Int.toNat_natCast, hz1, Nat.mul_one] at hr
  exact hr
theorem made8 (w : World) (n : Nat) : IntsAt .u8 (w.alloc (.cells (zcells n) 5)) (w.heap.size + 1) (some ⟨w.heap.size, 0, none⟩) n (zeros n) := by
  have h := intsAt_lit (k := .u8) (w := w.alloc (.cells (zcells n) 5)) (g := w.heap.size) (t := 5) (zeros n) (by
    have := Blk.new w 5 (zcells n)
    have e : zcells n = ((zeros n).map (Value.int .u8)).toArray := by
      apply Array.ext'
      rw [zcells, toList_madeCells_one]
      simp [zeros]
    rw [e] at this ⊢
    exact this) (wf_list (zeros_wf n))
  rw [zeros_len] at h
  exact h

/-- a statement's console: its memory is all the statement's own -/
def ConL (w0 w : World) (g : Nat) (outs ins : List Int) : Prop := ∃ F, Con w w0.heap.size g F outs ins ∧ Fr (fun _ => False) w0 w
theorem ConL.fr0 {w0 w : World} {g : Nat} {outs ins : List Int} (h : ConL w0 w g outs ins) : Fr (fun _ => False) w0 w := by
  obtain ⟨F, _, h⟩ := h
  exact h
theorem ConL.fr {w0 w w' : World} {g : Nat} {outs ins : List Int} (h : ConL w0 w g outs ins) (f : Fr (fun _ => False) w w') : ConL w0 w' g outs ins := by
  obtain ⟨F, h1, h2⟩ := h
  exact ⟨F, h1.fr f (fun _ _ e => e), h2.tr f⟩
theorem ConL.turn {w0 w w' : World} {g : Nat} {outs ins outs' ins' : List Int} {F F' : Nat → Prop} (h1 : Con w w0.heap.size g F outs ins) (h2 : Fr (fun _ => False) w0 w) (c : Con w' w0.heap.size g F' outs' ins') (f : Fr F w w') : ConL w0 w' g outs' ins' := by
  obtain ⟨_, _, _, _, _, _, _, _, _, h8⟩ := h1
  exact ⟨F', c, h2.trans f (fun i hi e => by have := h8 i e; omega)⟩
theorem new_L (w : World) : Calls Try.prog 16 #[] w fun e w' => e = .returned (.pointer (some ⟨w.heap.size, 0, none⟩)) ∧ ConL w w' w.heap.size [] [] :=
  (new_any w w.heap.size (Nat.le_refl _)).mono fun e w' ⟨h1, h2, h3⟩ => ⟨h1, _, h2, h3⟩
theorem type_L (w0 w : World) (g : Nat) (outs ins : List Int) (h : ConL w0 w g outs ins) (hi : ins.length ≤ 64) (B : Nat) (A : Option Addr) (len cap : Nat) (zs : List Int) (hl : IntsAt .u8 w B A len zs) (hm : len ≤ maxLen) (hcap : len ≤ cap) :
    Calls Try.prog 18 #[.pointer (some ⟨g, 0, none⟩), .slice A len cap] w fun e w' => e = .returned (.int .i64 (min len (64 - ins.length) : Nat)) ∧ ConL w0 w' g outs (ins ++ zs.take (min len (64 - ins.length))) := by
  obtain ⟨F, h1, h2⟩ := h
  exact (type_any w w0.heap.size g F outs ins h1 hi B A len cap zs hl hm hcap h2.size).mono fun e w' ⟨e1, F', c, f, _⟩ => ⟨e1, ConL.turn h1 h2 c f⟩
theorem read_L (w0 w : World) (g : Nat) (outs : List Int) (x : Int) (rest : List Int) (h : ConL w0 w g outs (x :: rest)) (hl : rest.length ≤ 64) :
    Calls Try.prog 17 #[.pointer (some ⟨g, 0, none⟩)] w fun e w' => e = .returned (.int .u8 x) ∧ ConL w0 w' g outs rest := by
  obtain ⟨F, h1, h2⟩ := h
  exact (read_cons w w0.heap.size g F outs x rest h1 hl h2.size).mono fun e w' ⟨e1, F', c, f, _⟩ => ⟨e1, ConL.turn h1 h2 c f⟩
theorem read_L_nil (w0 w : World) (g : Nat) (outs : List Int) (h : ConL w0 w g outs []) : Calls Try.prog 17 #[.pointer (some ⟨g, 0, none⟩)] w fun e w' => e = .returned (.int .u8 0) ∧ w = w' := by
  obtain ⟨F, h1, h2⟩ := h
  exact read_nil w w0.heap.size g F outs h1
theorem write_L (w0 w : World) (g : Nat) (outs ins : List Int) (b : Int) (h : ConL w0 w g outs ins) (ho : outs.length ≤ 1099511627776) :
    Calls Try.prog 24 #[.pointer (some ⟨g, 0, none⟩), .int .u8 b] w fun e w' => e = .returned (.tuple #[]) ∧ ConL w0 w' g (outs ++ [b]) ins := by
  obtain ⟨F, h1, h2⟩ := h
  exact (write_any w w0.heap.size g F outs ins b h1 ho h2.size).mono fun e w' ⟨e1, F', c, f, _⟩ => ⟨e1, ConL.turn h1 h2 c f⟩
theorem waits_L (w0 w : World) (g : Nat) (outs ins : List Int) (h : ConL w0 w g outs ins) : Calls Try.prog 19 #[.pointer (some ⟨g, 0, none⟩)] w fun e w' => e = .returned (.int .i64 ins.length) ∧ w = w' := by
  obtain ⟨F, h1, h2⟩ := h
  exact waits_any w _ g F outs ins h1

theorem known_any (w : World) : Calls Try.prog 21 #[] w fun e w' => e = .returned (.bool true) ∧ Fr (fun _ => False) w w' := by
  have hmk : ∀ w, (Instr.makeSlice 33 (.int .i64 70) (.int .i64 70)).run Try.prog w = .ok (.slice (some ⟨w.heap.size, 0, none⟩) 70 70) (w.alloc (.cells (zcells 70) 5)) := fun w => run_make8 70 (by omega) w
  go_enter Try.func21, Try.ntmps21
  go_wp2_with fail
  refine (new_L w).mono ?_
  rintro e w1 ⟨rfl, c1⟩
  go_wp2_with fail
  refine (type_L w _ _ _ _ (c1.fr ((Fr.refl _ _).alloc _)) (by simp) _ _ 2 2 [1, 2] (intsAt_lit [1, 2] (Blk.new _ _ _) (by decide)) (by simp [maxLen]) (by omega)).mono ?_
  rintro e w2 ⟨rfl, c2⟩
  go_wp2_with fail
  refine (read_L _ _ _ _ 1 [2] c2 (by simp)).mono ?_
  rintro e w3 ⟨rfl, c3⟩
  go_wp2_with fail
  refine (waits_L _ _ _ _ _ c3).mono ?_
  rintro e w4 ⟨rfl, rfl⟩
  go_wp2_with fail
  refine (type_L w _ _ _ _ (c3.fr ((Fr.refl _ _).alloc _)) (by simp) _ _ 70 70 (zeros 70) (made8 _ 70) (by simp [maxLen]) (by omega)).mono ?_
  rintro e w4 ⟨rfl, c4⟩
  go_wp2_with fail
  go_ret
  exact ⟨rfl, c4.fr0⟩
end Go.Proofs.Ytnlkcmjnohageaa.Co
