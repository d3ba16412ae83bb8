import Derived.BigQuiet
import Derived.Deep.AppendLies
import Derived.Deep.CutBlock
import Derived.Deep.DeepCutAuto
import Derived.Deep.DeepHandedRow
import Derived.Deep.Fields
import Derived.Deep.RegionHeld3
import Derived.Deep.RegionHeldLaw
import Derived.DeepKeys5
import Derived.Handy
import Derived.Laws.CopyOwn
import Derived.Lib.EndianBits
import Derived.Lib.Hide
import Derived.Lib.LaidTab
import Derived.ShutString
import Derived.StillTailTactics
import Derived.Test.YtpmlgdopfafcgaaGreatDoorProg
import Derived.WalkSpells
import Derived.WideKeyEntry
namespace Go.Proofs.YtpmlgdopfafcgaaGreatDoor
open Go.RowKit
set_option linter.unusedVariables false
universe u
section
variable {P : Program} {md : Region.Mode} {ops : Array Oper} {Q : Exit → Act → World → Prop} {S : World → Prop} {fuel : Nat} {listed : Array Bool} {a : Act} {w : World} {o : Oper}
theorem Av (i : Nat) {v : Value} (hi : ops[i]? = some o) (hS : S w) (hy : ∀ w, S w → (execOp a.eval o).run P w = .ok (.value v) w) (h : wpAnyH P md ops Q S fuel (listed.setIfInBounds i true) (a.put o.dst v) w)
    (hs : Region.noSelect ops = true := by kernel_rfl) (hf : Region.free md ops listed i = true := by kernel_rfl) (hr : (Region.ready md ops listed).contains i = true := by kernel_rfl) (hw : Region.wanted o (yielded ops a.tmps) = true := by kernel_rfl) (hQ : ∀ c a' w', Q (.panic c) (a'.put o.dst v) w' → Q (.panic c) a' w' := by exact fun _ _ _ h => h) :
    wpAnyH P md ops Q S (fuel + 1) listed a w := wpAnyH_take hi hs hf hr hQ (.inl ⟨hw, hy⟩) hS h
theorem Cj (i : Nat) (v : Value) (hi : ops[i]? = some o) (hS : S w) (hy : ∀ w, S w → (execOp a.eval o).run P w = .ok (.value v) w) (h : wpAnyH P md ops Q S fuel (listed.setIfInBounds i true) (a.put o.dst v) w)
    (hs : Region.noSelect ops = true := by kernel_rfl) (hf : Region.free md ops listed i = true := by kernel_rfl) (hr : (Region.ready md ops listed).contains i = true := by kernel_rfl) (hw : Region.wanted o (yielded ops a.tmps) = true := by kernel_rfl) (hQ : ∀ c a' w', Q (.panic c) (a'.put o.dst v) w' → Q (.panic c) a' w' := by exact fun _ _ _ h => h) :
    wpAnyH P md ops Q S (fuel + 1) listed a w := wpAnyH_take hi hs hf hr hQ (.inl ⟨hw, hy⟩) hS h
theorem AY (i : Nat) (hi : ops[i]? = some o) (hS : S w) (h : wpAnyH P md ops Q S fuel (listed.setIfInBounds i true) (a.put o.dst undef) w)
    (hs : Region.noSelect ops = true := by kernel_rfl) (hf : Region.free md ops listed i = true := by kernel_rfl) (hr : (Region.ready md ops listed).contains i = true := by kernel_rfl) (hw : Region.wanted o (yielded ops a.tmps) = false := by kernel_rfl) (hQ : ∀ c a' w', Q (.panic c) (a'.put o.dst undef) w' → Q (.panic c) a' w' := by exact fun _ _ _ h => h) :
    wpAnyH P md ops Q S (fuel + 1) listed a w := wpAnyH_take hi hs hf hr hQ (.inr ⟨hw, rfl⟩) hS h
theorem Ch (i : Nat) {v : Value} (hi : ops[i]? = some o) (hy : ∀ w, (execOp a.eval o).run P w = .ok (.value v) w) (h : wpAny P md ops Q fuel (listed.setIfInBounds i true) (a.put o.dst v) w)
    (hs : Region.noSelect ops = true := by kernel_rfl) (hf : Region.free md ops listed i = true := by kernel_rfl) (hr : (Region.ready md ops listed).contains i = true := by kernel_rfl) (hw : Region.wanted o (yielded ops a.tmps) = true := by kernel_rfl) (hQ : ∀ c a' w', Q (.panic c) (a'.put o.dst v) w' → Q (.panic c) a' w' := by exact fun _ _ _ h => h) :
    wpAny P md ops Q (fuel + 1) listed a w := wpAny_take hi hs hf hr hQ (.inl ⟨hw, hy⟩) h
theorem WB (i : Nat) (v : Value) (hi : ops[i]? = some o) (hy : ∀ w, (execOp a.eval o).run P w = .ok (.value v) w) (h : wpAny P md ops Q fuel (listed.setIfInBounds i true) (a.put o.dst v) w)
    (hs : Region.noSelect ops = true := by kernel_rfl) (hf : Region.free md ops listed i = true := by kernel_rfl) (hr : (Region.ready md ops listed).contains i = true := by kernel_rfl) (hw : Region.wanted o (yielded ops a.tmps) = true := by kernel_rfl) (hQ : ∀ c a' w', Q (.panic c) (a'.put o.dst v) w' → Q (.panic c) a' w' := by exact fun _ _ _ h => h) :
    wpAny P md ops Q (fuel + 1) listed a w := wpAny_take hi hs hf hr hQ (.inl ⟨hw, hy⟩) h
theorem WC (i : Nat) (hi : ops[i]? = some o) (h : wpAny P md ops Q fuel (listed.setIfInBounds i true) (a.put o.dst undef) w)
    (hs : Region.noSelect ops = true := by kernel_rfl) (hf : Region.free md ops listed i = true := by kernel_rfl) (hr : (Region.ready md ops listed).contains i = true := by kernel_rfl) (hw : Region.wanted o (yielded ops a.tmps) = false := by kernel_rfl) (hQ : ∀ c a' w', Q (.panic c) (a'.put o.dst undef) w' → Q (.panic c) a' w' := by exact fun _ _ _ h => h) :
    wpAny P md ops Q (fuel + 1) listed a w := wpAny_take hi hs hf hr hQ (.inr ⟨hw, rfl⟩) h
theorem AQ (rs : List Nat) (h : AllReadyH P md ops Q S fuel listed a w rs) (hr : Region.ready md ops listed = rs := by kernel_rfl) (hne : rs ≠ [] := by simp) : wpAnyH P md ops Q S (fuel + 1) listed a w := wpAnyH_ready hr hne h
theorem Cu (rs : List Nat) (h : AllReady P md ops Q fuel listed a w rs) (hr : Region.ready md ops listed = rs := by kernel_rfl) (hne : rs ≠ [] := by simp) : wpAny P md ops Q (fuel + 1) listed a w := wpAny_ready hr hne h
theorem AO {i : Nat} {rs : List Nat} (h : ∀ K' : Act → World → Prop, Shut (∀ a w, S w → (S w → wpAnyH P md ops Q S fuel (listed.setIfInBounds i true) a w) → K' a w) → if Region.wanted o (yielded ops a.tmps) = true then Oper.wp P o a w K' Q else K' (a.put o.dst undef) w)
    (hs : AllReadyH P md ops Q S fuel listed a w rs) (ho : ops[i]? = some o := by rfl) : AllReadyH P md ops Q S fuel listed a w (i :: rs) := AllReadyH.cons ho h hs
theorem BQ {i : Nat} {rs : List Nat} (h : ∀ K' : Act → World → Prop, (∀ a w, wpAny P md ops Q fuel (listed.setIfInBounds i true) a w → K' a w) → if Region.wanted o (yielded ops a.tmps) = true then Oper.wp P o a w K' Q else K' (a.put o.dst undef) w)
    (hs : AllReady P md ops Q fuel listed a w rs) (ho : ops[i]? = some o := by rfl) : AllReady P md ops Q fuel listed a w (i :: rs) := AllReady.cons ho h hs
theorem AR : AllReadyH P md ops Q S fuel listed a w [] := AllReadyH.nil
theorem C0 : AllReady P md ops Q fuel listed a w [] := AllReady.nil
theorem Cg (h : Q .normal a w) (hr : Region.ready md ops listed = [] := by kernel_rfl) : wpAnyH P md ops Q S fuel listed a w := wpAnyH_done hr h fuel
theorem Le (h : Q .normal a w) (hr : Region.ready md ops listed = [] := by kernel_rfl) : wpAny P md ops Q fuel listed a w := wpAny_done hr h fuel
theorem AF : (∀ (l : List Oper) (i : Nat) (h : i < l.toArray.size), l.toArray[i] = l[i]'(by simpa using h)) ∧ (∀ (l : List Value) (i : Nat) (h : i < l.toArray.size), l.toArray[i] = l[i]'(by simpa using h)) ∧ (∀ (x : Oper) (l : List Oper) (h : 0 < (x :: l).length), (x :: l)[0]'h = x) ∧ (∀ (x : Oper) (l : List Oper) (i : Nat) (h : i + 1 < (x :: l).length), (x :: l)[i + 1]'h = l[i]'(Nat.lt_of_succ_lt_succ h)) ∧
    (∀ (l : List Value) (i : Nat) (v : Value), l.toArray.setIfInBounds i v = (l.set i v).toArray) ∧ (∀ (x v : Value) (l : List Value), (x :: l).set 0 v = v :: l) ∧ (∀ (x v : Value) (l : List Value) (i : Nat), (x :: l).set (i + 1) v = x :: l.set i v) ∧ (∀ (a : Act) (t : Tmp) (v : Value), a.put (some t) v = { a with tmps := a.tmps.setIfInBounds t v }) ∧ (∀ (a : Act) (v : Value), a.put none v = a) :=
  ⟨fun _ _ _ => rfl, fun _ _ _ => rfl, fun _ _ _ => rfl, fun _ _ _ _ => rfl, fun _ _ _ => by simp, fun _ _ _ => rfl, fun _ _ _ _ => rfl, fun _ _ _ => rfl, fun _ _ => rfl⟩
theorem Ae {c : Prop} {h : Decidable c} (n : ¬c) {α : Sort u} {t e : α} : (ite c t e) = e := if_neg n
theorem An {c : Prop} {h : Decidable c} (n : c) {α : Sort u} {t e : α} : (ite c t e) = t := if_pos n
theorem Ay {P : Program} {f : FuncId} {args : Array Value} {w : World} {R R' : Ending → World → Prop} (h : Hid (Calls P f args w R)) (hr : ∀ e w', R e w' → R' e w') : Calls P f args w R' := h.out.mono hr
theorem Az {α : Sort u} (x : α) : ∃ y, x = y := ⟨x, rfl⟩
theorem T {p : Prop} (h : p) : Hid p := h
instance : Coe World Nat := ⟨fun w => w.heap.size⟩
abbrev Aj : Nat → Prop := fun _ => False
abbrev Aw := Option Addr
abbrev AL := Array Value
abbrev AG := Nat → Prop
instance : Coe Nat Value := ⟨fun g => .pointer (some ⟨g, 0, none⟩)⟩
end
end Go.Proofs.YtpmlgdopfafcgaaGreatDoor
open Go.Value renaming int→J,slice→U,bool→Ap,tuple→AD,ownBlock→Bp,agg→AA,pointer→Bi
open Option renaming some→I,none→G
open Go.IntKind renaming i64→Z,u32→V,u64→AM,u8→AC,wrap_u64→Dk,wrap_u32→DH
open Bool renaming false→Aa,true→Af,false_ne_true→Da,false_and→D7
open Go renaming World→Ac,Value→As,Calls→At,bodyPost_ret→Bf,TypeId→AK,wp_region_held_drew→BY,info_parts→BH,Ending→AT,madeCells→Cb,maxLen→Br,Program→BW,undef→Bt,wpList→BL,bits→Bb,run_underlying→CX
open List renaming getD_eq_getElem?_getD→AN,getElem?_eq_getElem→Bj,length_append→BJ,append_assoc→BM,mem_map→Bo,getElem?_take_of_lt→Cw,replicate→BK,range→Bm,getElem?_append_right→CB,getElem_mem→BU,mem_append→BZ,getElem?_append_left→CO,getElem?_map→C7,cons_append→CC,mem_filter→C8,length_pos_iff→CP,length_cons→CK,mem_cons→Cy,getLastD_eq_getLast?→Dg,nil_append→CI,getElem?_eq_none→De,dropLast_concat→Do,mem_singleton→Dv,map_append→Df,length_map→Di,getElem_of_mem→DD,length_nil→Dp,concat_eq_append→DI,getElem?_range→DL,range_succ→DB,getElem?_replicate→DW,singleton_append→DV,map_cons→D6,map_map→D8,setIfInBounds_toArray→Eb
open Go.Ending renaming returned→Ax
open And renaming intro→A9
open Nat renaming le_refl→AE,lt_of_lt_of_le→AW,le_trans→AS,zero_le→AU,zero_add→Bn,eq_zero_or_pos→Dm,reduceEqDiff→Dq
open Or renaming inl→Ag,inr→Ah
open Go.Proofs.Tryz renaming underlying41→AP,underlying31→CF,underlying22→CV,underlying215→Dl,underlying26→DN
open Go.RowKit renaming intOf→AJ
open Int renaming eq_ofNat_of_zero_le→CM,toNat_natCast→C4,emod_eq_of_lt→CZ
open Go.Builtin renaming zeroCells→CG,delete_→Eh
open Array renaming getElem?_toList→CN,getElem?_eq_some_iff→DX
open Go.Region renaming wanted→CA
open Go.Result renaming andThen→CT
open Option.some renaming inj→Ds
open Go.MapKept renaming run_getObj_map→DJ,run_setObj_map→Ef
open Go.Instr renaming makeSlice→Dj,mapUpdate→DK
open Go.IntWalk renaming i64_in→Du
open Go.Lit renaming int→C9
open Go.Sem renaming run_bind→D5
namespace Go.Proofs.YtpmlgdopfafcgaaGreatDoor
open Go Go.RowKit

variable{P:Prop}
theorem QX(h:P:=by
 clear ho3;go_upto_region 20 with(fail);refine BY (S:=Fr (λq=>q=gx) W7) AI ((Ao (λq=>q=gx) W7).drew) (λhH=>?_);refine Av 0 rfl hH Dd ?_;refine Av 1 rfl hH Dd ?_;refine Av 5 rfl hH Dd ?_
 try simp only[AF]
 refine Av 6 rfl hH Dd ?_
 try simp only[AF]
 refine AQ [2,7] ?_;refine AO (λK hK=>?_) ?_
 ·go_simp;refine hK.out _ _ hH λhH=>?_;clear hK K;refine Av 3 rfl hH Dd ?_;refine Av 4 rfl hH Dd ?_
  try simp only[AF]
  refine AQ [7] ?_;refine AO (λK hK=>?_) ?_;·go_simp;refine hK.out _ _ hH λhH=>?_;clear hK K;refine Av 8 rfl hH Dd ?_;refine Av 9 rfl hH Dd ?_;exact T7
  exact AR
 refine AO (λK hK=>?_) ?_
 ·go_simp;refine hK.out _ _ hH λhH=>?_;clear hK K;refine Av 8 rfl hH Dd ?_;refine Av 9 rfl hH Dd ?_
  try simp only[AF]
  refine AQ [2] ?_;refine AO (λK hK=>?_) ?_;·go_simp;refine hK.out _ _ hH λhH=>?_;clear hK K;refine Av 3 rfl hH Dd ?_;refine Av 4 rfl hH Dd ?_;exact T7
  exact AR
 exact AR):P:=h
theorem T7(h:P:=by
 refine Av 10 rfl hH Dd ?_
 try simp only[AF]
 refine AQ [11] ?_;refine AO (λK hK=>?_) ?_
 ·go_simp;refine hK.out _ _ (hH.setCell (Ag rfl) _) λhH=>?_;clear hK K;refine Av 12 rfl hH Dd ?_
  try simp only[AF]
  refine AQ [13] ?_;refine AO (λK hK=>?_) ?_
  ·go_simp;refine hK.out _ _ (hH.setCell (Ag rfl) _) λhH=>?_;clear hK K;refine Cg ?_
   try simp only[AF]
   go_upto_region 22 with(fail);have bx8:Blk (((W7.setCell ⟨gx,2,G⟩ (J Z (upN s.pl k m xa:Nat))).setCell ⟨gx,3,G⟩ (J Z (upN s.pl k m xb:Nat))).setCell ⟨gx,1,G⟩ (J Z (m:Nat))).drew gx 265 #[J Z op,J Z m,J Z ((upN s.pl k m xa):Nat),J Z ((upN s.pl k m xb):Nat),J V imm]:=(((BX7.out.set_ 2 _).set_ 3 _).set_ 1 _).drew;have f8:Fr (· =gx) W7 (((W7.setCell ⟨gx,2,G⟩ (J Z (upN s.pl k m xa:Nat))).setCell ⟨gx,3,G⟩ (J Z (upN s.pl k m xb:Nat))).setCell ⟨gx,1,G⟩ (J Z (m:Nat))).drew:=((((Ao (λq=>q=gx) W7).setCell (p:=⟨gx,2,G⟩) (Ag rfl) _).setCell (p:=⟨gx,3,G⟩) (Ag rfl) _).setCell (p:=⟨gx,1,G⟩) (Ag rfl) _).drew;have own8:=own_fr OW7.out f8 (λq hq e=>by have:=HLX.out q hq;omega);have cp8:=CP7.out.fr f8 (by show ¬gp=gx;omega);have F8:Hid (Fr (λq=>q=gp) W6 (((W7.setCell ⟨gx,2,G⟩ (J Z (upN s.pl k m xa:Nat))).setCell ⟨gx,3,G⟩ (J Z (upN s.pl k m xb:Nat))).setCell ⟨gx,1,G⟩ (J Z (m:Nat))).drew):=T (F7.out.trans f8 (λq hq e=>O));clear f8;generalize(((W7.setCell ⟨gx,2,G⟩ (J Z (upN s.pl k m xa:Nat))).setCell ⟨gx,3,G⟩ (J Z (upN s.pl k m xb:Nat))).setCell ⟨gx,1,G⟩ (J Z (m:Nat))).drew=W8 at*;have x0:=bx8.cell 0;have x1:=bx8.cell 1;have x2:=bx8.cell 2;have x3:=bx8.cell 3;have x4:=bx8.cell 4;have hx8:=bx8.lt;have hsz8:W6.heap.size≤W8.heap.size:=F8.out.size;have HO8:=T (CH own8 (.cells #[J Z op,J Z m,J Z ((upN s.pl k m xa):Nat),J Z ((upN s.pl k m xb):Nat),J V imm] 265));have hrd:Hid (Reads (W8.alloc (.cells #[J Z op,J Z m,J Z ((upN s.pl k m xa):Nat),J Z ((upN s.pl k m xb):Nat),J V imm] 265)) (↑W8+1) 5 (I ⟨↑W8,0,G⟩) 1 (iis [⟨op,m,(upN s.pl k m xa),(upN s.pl k m xb),imm⟩])):=T (by
    have:=Cn (size:=5) (n:=1) (AH W8 265 #[J Z op,J Z m,J Z ((upN s.pl k m xa):Nat),J Z ((upN s.pl k m xb):Nat),J V imm]) AB;simpa[iis] using this)
   have CP8:=T cp8;clear own8 cp8 bx8;go_wp2_with
    (at_builtin
     refine Ce _ rfl (.tmp 108) (.tmp 110) _ rfl W6.heap.size 265 i5 _ 5 40 Tryz.underlying213 hi5 hz5 hs5 hy5 rfl O (U A' m c') m (iis s.out) rfl HO8.out (W8.heap.size+1) (I ⟨W8.heap.size,0,G⟩) 1 1 (iis [⟨op,m,(upN s.pl k m xa),(upN s.pl k m xb),imm⟩]) rfl hrd.out (iis_one _) Bu O A8 ?_
     intro v1 w3 hown1 hg1 hat1
     obtain⟨A3,c3,rfl⟩:=own_form hown1
     have HX:=T (A9 hown1 hg1)
     clear hown1 hg1 hat1)
   go_roundw;case rel=>
    have hbo:=QV;have hm2:moveX (upN s.pl k m) m ⟨op,dst,xa,xb,imm⟩=⟨op,m,(upN s.pl k m xa),(upN s.pl k m xb),imm⟩:=(by unfold moveX;rw[An (by show 3≤op;omega)]);exact QW
   case measure=>simp[AJ];omega
  exact AR
 exact AR):P:=h
theorem Te(h:P:=by
 clear f0 hH';obtain⟨wc,rfl⟩: ∃wz,wz=wd:=⟨_,rfl⟩;refine AQ [6] ?_;refine AO (λK hK=>?_) ?_
 ·go_simp;go_wp2_with ((with_reducible refine(HFd.out _ HF.out).mono ?_);rintro e3 w3 ⟨pc,pl,C,nC,cC,ct,A2,n2,c2,en,ok,e2,rfl,hel,hhit⟩;have HE:=T (Elk.from0 HF.out HL2.out.en hel);have HHIT:=T hhit;have hS3:=hH.tr hel.f;(try(have N14:=T (Ej hel (HN2.out _ L14.out) B14.out.lt);replace B14:=T (B14.out.fr hel.f (HN2.out _ L14.out))));(try(have N15:=T (Ej hel (HN2.out _ L15.out) B15.out.lt);replace B15:=T (B15.out.fr hel.f (HN2.out _ L15.out))));clear hel hhit HF);refine hK.out _ _ (hS3) λhH=>?_;clear hK K;clear hS3;obtain⟨wc,rfl⟩: ∃wz,wz=w3:=⟨_,rfl⟩;refine Av 7 rfl hH Cq ?_;refine Av 8 rfl hH Cq ?_;refine Av 9 rfl hH Cq ?_
  try simp only[AF]
  refine Av 10 rfl hH Cq ?_
  try simp only[AF]
  refine AQ [13] ?_;refine AO (λK hK=>?_) ?_;·exact T8
  exact AR
 exact AR):P:=h
theorem NC(h:P:=by
 have q66:(op==66)=Aa:=by simp[h66]
 have q67:(op==67)=Aa:=by simp[h67]
 clear h66 h67 hS;have X0:=T B1.out;have Y0:=T B2.out;go_in;go_wp2_with fail;refine Ay Hr ?_;rintro e w2 ⟨rfl,f1⟩;have F1:=T (F0.out.tr f1);have X1:=T (X0.out.fr f1 id);have Y1:=T (Y0.out.fr f1 id);have b11:=X1.out;have u0:=Y1.out.cell 0;have u1:=Y1.out.cell 1;have v1:=X1.out.cell 1;have v2:=X1.out.cell 2;have v4:=X1.out.cell 4;clear f1;go_wp2_with fail;refine(Hs.out _).mono ?_;rintro e w' ⟨rfl,rfl⟩;go_wp2_with ((with_reducible refine wpL_lq b11 AP sz16 ?_));refine(Hg.out _).mono ?_;rintro e w3 ⟨rfl,f2⟩;have F2:=T (F1.out.tr f2);clear u0 u1 v1 v2 v4;have X2:=T (X1.out.fr f2 id);have Y2:=T (Y1.out.fr f2 id);have b12:=X2.out;have u0:=Y2.out.cell 0;have u1:=Y2.out.cell 1;have v1:=X2.out.cell 1;have v2:=X2.out.cell 2;have v4:=X2.out.cell 4;clear f2 b11;go_wp2_with ((with_reducible refine wpL_lq b12 AP sz16 ?_));refine(Ht.out _ F2.out).mono ?_;rintro e w4 ⟨A4,c4,B4,d4,rfl,_,_,f3⟩;have F3:=T (F2.out.tr f3);clear u0 u1 v1 v2 v4;have X3:=T (X2.out.fr f3 id);have Y3:=T (Y2.out.fr f3 id);have b13:=X3.out;have u0:=Y3.out.cell 0;have u1:=Y3.out.cell 1;have v1:=X3.out.cell 1;have v2:=X3.out.cell 2;have v4:=X3.out.cell 4;have hg4:=X3.out.lt;have hg5:=Y3.out.lt;clear f3 b12;have HX3:=X3;by_cases q1:s.d.length<Gs.takeD op;·have e1:decide (s.d.length<Gs.takeD op)=Af:=A8;have hfv:Hid (fitV s op=3):=T J0;exact CW
 ·by_cases q2:s.r.length<Gs.takeR op;·have e1:=I8;have e2:decide (s.r.length<Gs.takeR op)=Af:=A8;have hfv:Hid (fitV s op=3):=T J1;exact CW
  ·by_cases q3:16<s.d.length -Gs.takeD op+Gs.putD op;·have e1:=I8;have e2:=KY;have e3:decide ((16:Int)<(s.d.length:Int) -(Gs.takeD op:Int)+(Gs.putD op:Int))=Af:=A8;have hfv:Hid (fitV s op=4):=T J3;exact CW
   ·by_cases q4:16<s.r.length -Gs.takeR op+Gs.putR op;·have e1:=I8;have e2:=KY;have e3:=T9;have e4:decide ((16:Int)<(s.r.length:Int) -(Gs.takeR op:Int)+(Gs.putR op:Int))=Af:=A8;have hfv:Hid (fitV s op=4):=T J4;exact CW
    ·have e1:=I8;have e2:=KY;have e3:=T9;have e4:decide ((16:Int)<(s.r.length:Int) -(Gs.takeR op:Int)+(Gs.putR op:Int))=Aa:=A8;have hfv:Hid (fitV s op=0):=T J5;exact CW):P:=h
theorem Tb(h:P:=by
 refine AQ [12] ?_;refine AO (λK hK=>?_) ?_
 ·have hH':=hH;go_simp;refine hK.out _ _ (hH'.alloc _) λhH=>?_;clear hK K;have f0:=I6;have B15:=T (AH wc 145 zR);have L15:=T (fr_size hH')
  try have N15:=T (Ek HE.out)
  try replace B14:=T (B14.out.fr f0 id)
  try replace HF:=T (HF.out.tr f0)
  try(replace HE:=T (HE.out.then0 f0);replace HHIT:=T (λq=>(HHIT.out q).fr f0 (λ_ e=>e.elim)))
  obtain⟨g15,hg⟩:=Az wc.heap.size;rw[hg] at B15 L15⊢
  try rw[hg] at N15
  clear hg;generalize wc.alloc (.cells zR 145)=wd at*;exact TA
 exact AR):P:=h
theorem Tc(h:P:=by
 refine AQ [11] ?_;refine AO (λK hK=>?_) ?_
 ·have hH':=hH;go_simp;refine hK.out _ _ (hH'.alloc _) λhH=>?_;clear hK K;have f0:=I3;have B14:=T (AH wc 136 zB);have L14:=T (fr_size hH')
  try have N14:=T (Ek HE.out)
  try replace B15:=T (B15.out.fr f0 id)
  try replace HF:=T (HF.out.tr f0)
  try(replace HE:=T (HE.out.then0 f0);replace HHIT:=T (λq=>(HHIT.out q).fr f0 (λ_ e=>e.elim)))
  obtain⟨g14,hg⟩:=Az wc.heap.size;rw[hg] at B14 L14⊢
  try rw[hg] at N14
  clear hg;generalize wc.alloc (.cells zB 136)=wd at*;exact TA
 exact AR):P:=h
theorem QZ(h:P:=by
 refine AO (λK hK=>?_) ?_
 ·go_simp;refine hK.out _ _ hH λhH=>?_;clear hK K;refine Av 11 rfl hH Ck ?_
  try simp only[AF]
  refine AQ [6] ?_;refine AO (λK hK=>?_) ?_;·go_simp;go_wp2_with ((with_reducible refine(Hm1.out _ hH).mono ?_);rintro e wA ⟨DA,dA,rfl,hDA,fA⟩;have hbA:w.heap.size<wA.heap.size:=AW hbx (AS hH.size fA.size);have bA:=B9.out.fr ((Ao Aj wr).drew.tr fA) id;have i6A:=bA.cell 6);refine hK.out _ _ (hH.tr (fA.mono (λ_ _ e=>e.elim))) λhH=>?_;clear hK K;exact QY
  exact AR
 exact AR):P:=h
theorem TA(h:P:=by
 clear f0 hH';obtain⟨wc,rfl⟩: ∃wz,wz=wd:=⟨_,rfl⟩;refine AQ [13] ?_;refine AO (λK hK=>?_) ?_;·exact T8
 exact AR):P:=h
theorem QY(h:P:=by
 refine AQ [10] ?_;refine AO (λK hK=>?_) ?_
 ·go_simp;go_wp2_with ((with_reducible refine(Hm2.out _ hH).mono ?_);rintro e wB ⟨RA,rA,rfl,hRA,fB⟩;have bB:=B9.out.fr ((Ao Aj wr).drew.tr (fA.tr fB)) id;have i0:=bB.cell 0;have i13:=bB.cell 13;have i5':=bB.cell 5;have i6:=bB.cell 6;have j0:=bB.frozen 0;have j13:=bB.frozen 13;have j5:=bB.frozen 5;have j6:=bB.frozen 6;have il:=bB.lt);refine hK.out _ _ (hH.tr (fB.mono (λ_ _ e=>e.elim))) λhH=>?_;clear hK K;refine AQ [12] ?_;refine AO (λK hK=>?_) ?_
  ·go_simp;refine hK.out _ _ (hH.setCell (Ag rfl) _) λhH=>?_;clear hK K;refine Av 13 rfl hH Ck ?_
   try simp only[AF]
   refine AQ [14] ?_;refine AO (λK hK=>?_) ?_
   ·go_simp;refine hK.out _ _ (hH.setCell (Ag rfl) _) λhH=>?_;clear hK K;refine Av 15 rfl hH Ck ?_
    try simp only[AF]
    refine AQ [16] ?_;refine AO (λK hK=>?_) ?_
    ·go_simp;refine hK.out _ _ (hH.setCell (Ag rfl) _) λhH=>?_;clear hK K;refine Av 17 rfl hH Ck ?_
     try simp only[AF]
     refine AQ [18] ?_;refine AO (λK hK=>?_) ?_
     ·go_simp;refine hK.out _ _ (hH.setCell (Ag rfl) _) λhH=>?_;clear hK K;refine Cg ?_
      try simp only[AF]
      go_wp2
      go_meet;have b4:=(((bB.set_ 0 (U A' m c')).set_ 13 (J Z (m:Nat))).set_ 5 (U DA p.od.length dA)).set_ 6 (U RA p.or.length rA);have f4:Fr (λq=>q=w.heap.size) wB _:=((((Ao (λq=>q=w.heap.size) wB).setCell (p:=⟨↑w,0,G⟩) (.inl rfl) (U A' m c')).setCell (p:=⟨↑w,13,G⟩) (.inl rfl) (J Z (m:Nat))).setCell (p:=⟨↑w,5,G⟩) (.inl rfl) (U DA p.od.length dA)).setCell (p:=⟨↑w,6,G⟩) (.inl rfl) (U RA p.or.length rA);rw[Di] at hDA hRA;have hDB:=own_low (own_fr (own_fr hDA fB (λ_ _ e=>e)) f4 (λq hq e=>by have h2:wr.heap.size≤q:=own_base hDA q hq;have e2:q=w.heap.size:=e;omega)) (show wr.heap.size≤_ by first|exact AE _|simp[World.drew]);have hRB:=own_low (own_fr hRA f4 (λq hq e=>by have:=own_base hRA q hq;have h2:=fA.size;have h3:wr.heap.size≤wA.heap.size:=h2;have e2:q=w.heap.size:=e;omega)) (show wr.heap.size≤wA.heap.size from fA.size);rw[sw_cells] at b4;exact⟨DA,dA,RA,rA,T ⟨b4,hDB,hRB,((Ao (λq=>q=w.heap.size) wr).drew.tr ((fA.tr fB).mono (λ_ _ e=>e.elim))).tr f4⟩⟩
     exact AR
    exact AR
   exact AR
  exact AR
 exact AR):P:=h
theorem T8(h:P:=by
 have x0:=B14.out.cell 0;have y0:=B14.out.frozen 0;have x1:=B14.out.cell 1;have y1:=B14.out.frozen 1;have x2:=B14.out.cell 2;have y2:=B14.out.frozen 2;have x3:=B14.out.cell 3;have y3:=B14.out.frozen 3;have xl:=B14.out.lt;have hH':=hH;go_simp;refine hK.out _ _ (fr4 hH' (Ah L14.out)) λhH=>?_;clear hK K;have f0:Fr (λq=>q=g14) wc ((((wc.setCell ⟨g14,0,G⟩ (J .u32 pc)).setCell ⟨g14,1,G⟩ (J .u32 pl)).setCell ⟨g14,2,G⟩ (U C nC cC)).setCell ⟨g14,3,G⟩ (J .i64 ct)):=fr4 (Ao _ _) (.inl rfl);have bb:=((((B14.out.set_ 0 (J .u32 pc)).set_ 1 (J .u32 pl)).set_ 2 (U C nC cC)).set_ 3 (J .i64 ct));replace HE:=T (HE.out.loc f0 (λq hq=>by rw[show q=g14 from hq];exact⟨L14.out,N14.out⟩));replace HHIT:=T (λq=>(HHIT.out q).fr f0 (λq hq=>by rw[show q=g14 from hq];exact srt_ne B14.out (by decide)))
 try replace B15:=T (B15.out.fr f0 (λq=>B15.out.ne_ B14.out Ak q))
 replace B14:=T bb;clear bb x0 x1 x2 x3 y0 y1 y2 y3 xl;generalize((((wc.setCell ⟨g14,0,G⟩ (J .u32 pc)).setCell ⟨g14,1,G⟩ (J .u32 pl)).setCell ⟨g14,2,G⟩ (U C nC cC)).setCell ⟨g14,3,G⟩ (J .i64 ct))=wd at*;clear f0 hH';obtain⟨wc,rfl⟩: ∃wz,wz=wd:=⟨_,rfl⟩;refine AQ [14] ?_;refine AO (λK hK=>?_) ?_
 ·have x0:=B15.out.cell 0;have y0:=B15.out.frozen 0;have x1:=B15.out.cell 1;have y1:=B15.out.frozen 1;have xl:=B15.out.lt;have hH':=hH;go_simp;refine hK.out _ _ (fr2 hH' (Ah L15.out)) λhH=>?_;clear hK K;have f0:Fr (λq=>q=g15) wc ((wc.setCell ⟨g15,0,G⟩ (U A2 n2 c2)).setCell ⟨g15,1,G⟩ (.bool en)):=fr2 (Ao _ _) (.inl rfl);have bb:=((B15.out.set_ 0 (U A2 n2 c2)).set_ 1 (.bool en));replace HE:=T (HE.out.loc f0 (λq hq=>by rw[show q=g15 from hq];exact⟨L15.out,N15.out⟩));replace HHIT:=T (λq=>(HHIT.out q).fr f0 (λq hq=>by rw[show q=g15 from hq];exact srt_ne B15.out (by decide)))
  try replace B14:=T (B14.out.fr f0 (λq=>B14.out.ne_ B15.out Ak q))
  replace B15:=T bb;clear bb x0 x1 y0 y1 xl;generalize((wc.setCell ⟨g15,0,G⟩ (U A2 n2 c2)).setCell ⟨g15,1,G⟩ (.bool en))=wd at*;clear f0 hH';obtain⟨wc,rfl⟩: ∃wz,wz=wd:=⟨_,rfl⟩;refine Av 15 rfl hH Cq ?_;refine Cg ?_
  go_wp2
  go_meet;exact⟨g14,g15,pc,pl,C,nC,cC,ct,A2,n2,c2,en,ok,e2,rfl,rfl,rfl,B14,B15,T ⟨L14.out,L15.out,N14.out,N15.out⟩,HE,HHIT⟩
 exact AR):P:=h
theorem NR(h:P:=by
 refine hK _ _ ?_;clear hK K;refine Cu [7] ?_;refine BQ (λK hK=>?_) ?_;·go_simp;exact NS
 exact C0):P:=h
theorem QP(h:P:=by
 refine AQ [3] ?_;refine AO (λK hK=>?_) ?_;·have z0:=hH.size;go_simp;go_wp2_with ((with_reducible refine(Ko _ _ N QN nN).mono ?_);rintro e wA ⟨gR,rfl,hgR,hR,fR⟩);refine hK.out _ _ (hH.tr fR) λhH=>?_;clear hK K;exact QO
 exact AR):P:=h
theorem Q7(h:P:=by
 have hl:(x.add 0 0 0 n).ld=x.ld:=rfl;generalize x.add 0 0 0 n=X' at Hca hX hl;generalize x.code.length=v at Hca hX;obtain⟨m,hm⟩:=Az X'.ld.length;have HM:=T hm;have hmk:=TB;have c14:=TC;have hgl:g<↑W0:=HP.out.1.b.lt;have hbs:=Fk;clear hm hl;go_region_law (first
  |(refine DP _ rfl _ _ 22 rfl base 3 i0 _ 1 8 CV hi0 hz0 hz1 hz2 rfl O (U D m cd) m (fxV X'.ld) Bh HO.out (W1.heap.size+1) (I ⟨W1.heap.size,0,G⟩) 1 1 (fxV [v]) Bh (reads_fx W1 [v] 1 rfl) (fxV_one _) Bu O A8 ?_;intro v1 w1 hown hg hat;obtain⟨A1,c1,rfl⟩:=own_form hown;obtain⟨⟨k14,y14,hgl1⟩,hL,hK2⟩:=Gh H1.out ((Ao _ W1).alloc _) [v] HM.out rfl hown hg hat KZ;have HQ:=T (A9 hL (L1.out.tr hK2));clear hown hg hat hL hK2)
  |(go_simp;(with_reducible refine Ay Hca ?_);rintro e W1 ⟨rfl,⟨g1,C1,cc1,D1,cd1,R1,cr1⟩,l1,h1,kd,kr⟩;obtain rfl:g=g1:=l1.g.symm;obtain⟨q1,q2⟩:=kd rfl;dsimp only at q1 q2;obtain rfl:D=D1:=q1.symm;obtain rfl:cd=cd1:=q2.symm;have L1:=T ((HP.out.2.fr0 (Ao _ _).drew).tr l1);have H1:=T h1;have k14:W1.cell? ⟨g,14,G⟩=I (U D m cd):=(H1.out.b.cell 14 O).trans Ld;have hgl1:g<↑W1:=H1.out.b.lt;have hbs1:base≤↑W1:=H1.out.hb;have HO:Hid ((W1.alloc (.cells (fxV [v]).toArray 3)).ownsRow base 3 1 (U D m cd) m (fxV X'.ld)):=T TE;clear l1 h1 kd kr))
 all_goals
  generalize w1.setCell ⟨g,14,G⟩ (U A1 (m+1) c1)=W9 at*
  try simp only[AF]
  go_wp2
  go_meet;exact⟨_,hX.out▸HQ.out.1.le O,HQ.out.2⟩):P:=h
theorem NS(h:P:=by
 refine hK _ _ ?_;clear hK K;refine Cu [9] ?_;refine BQ (λK hK=>?_) ?_
 ·go_simp;go_wp2_with ((refine Ay Hset ?_);rintro e w2 ⟨A2,c2,B2,d2,rfl,hS,hne,f1⟩;have b2:=b0.fr f1 id;have o1:=one16 t (U A2 t.d.length c2) (U B2 t.r.length d2) rfl rfl;have HX:=T (A9 hS (A9 hne f1));clear hS hne f1);refine Ch 10 rfl Ci ?_;refine Ch 11 rfl Ci ?_;refine Ch 12 rfl Ci ?_;refine Ch 13 rfl Ci ?_;simp only[AF];refine Ch 14 rfl Ci ?_;simp only[AF];refine Cu [15] ?_;refine BQ (λK hK=>?_) ?_
  ·refine step_stm (cs':=stc t (U A2 t.d.length c2) (U B2 t.r.length d2)) b2 sz16 (show(16:Nat)≤22 by omega) rfl o1 rfl rfl Bh Bh ?_;intro W3 b3 f3;have HB:=T b3;have HF:=T f3;clear b3 f3 b2 o1;refine hK _ _ ?_;clear hK K;refine Le ?_;have hgp:gb≠p.g:=by have:=HLT.out p.g (.inl rfl);omega
   have hbx3:=(HBX.out.drew.fr HX.out.2.2 id).fr HF.out (λe=>hgp e);have hb:=HB.out;rw[rc_set] at hb;have hrp:=(D1.out.fr0 (Ao Aj w1).drew).rn.renew (Ao _ w1.drew) HX.out.2.2 HX.out.1 HX.out.2.1 (by have:=HDL.out;have:=HL2.out;omega) hb HF.out (AD #[]);obtain⟨_,⟨g3,A3,ca3,B3,cb3⟩,P3,L3,D3⟩:=(D1.out.fr0 (Ao Aj w1).drew).ofR hrp;obtain rfl:g3=p.g:=L3.g;have L3:=T ((L1.out.tr (Lk.fr0 (Ao Aj w1).drew)).tr L3);have D3:=T D3;have u1:=hbx3.cell 1;have c17:=D3.out.rn.b.cell 17;have hr:=T (A9 HR.out.c (A9 HR.out.a HR.out.dv));clear hrp hb hbx3 HB HF y1 hgp
   go_wp2
   go_end0;refine⟨rfl,_,_,L3.out, ?_⟩;have hx:=D3.out;simpa only[HT.out,toRs,hr.out.1,hr.out.2.1,hr.out.2.2] using hx
  exact C0
 exact C0):P:=h
theorem Q9(h:P:=by
 obtain⟨m,hm⟩:=Az X'.lr.length;have HM:=T hm;have hmk:m≤2000:=by rw[←hm,hl];exact AS HP.out.1.k.lr (by omega)
 have c18:W0.cell? ⟨g,18,G⟩=I (U R m cr):=(HP.out.1.b.cell 18 O).trans (by rw[←hm,hl];rfl);have hgl:g<↑W0:=HP.out.1.b.lt;have hbs:=Fk;clear hm hl;go_region_law (first
  |(refine DP _ rfl _ _ 22 rfl base 3 i0 _ 1 8 CV hi0 hz0 hz1 hz2 rfl O (U R m cr) m (fxV X'.lr) Bh HO.out (W1.heap.size+1) (I ⟨W1.heap.size,0,G⟩) 1 1 (fxV [v]) Bh (reads_fx W1 [v] 1 rfl) (fxV_one _) Bu O A8 ?_;intro v1 w1 hown hg hat;obtain⟨A1,c1,rfl⟩:=own_form hown;obtain⟨⟨k18,y18,hgl1⟩,hL,hK2⟩:=Vr H1.out ((Ao _ W1).alloc _) [v] HM.out rfl hown hg hat KZ;have HQ:=T (A9 hL (L1.out.tr hK2));clear hown hg hat hL hK2)
  |(go_simp;(with_reducible refine Ay Hca ?_);rintro e W1 ⟨rfl,⟨g1,C1,cc1,D1,cd1,R1,cr1⟩,l1,h1,kd,kr⟩;obtain rfl:g=g1:=l1.g.symm;obtain⟨q1,q2⟩:=kr rfl;dsimp only at q1 q2;obtain rfl:R=R1:=q1.symm;obtain rfl:cr=cr1:=q2.symm;have L1:=T ((HP.out.2.fr0 (Ao _ _).drew).tr l1);have H1:=T h1;have k18:W1.cell? ⟨g,18,G⟩=I (U R m cr):=(H1.out.b.cell 18 O).trans Ld;have hgl1:g<↑W1:=H1.out.b.lt;have hbs1:base≤↑W1:=H1.out.hb;have HO:Hid ((W1.alloc (.cells (fxV [v]).toArray 3)).ownsRow base 3 1 (U R m cr) m (fxV X'.lr)):=T (by have:=CH H1.out.r (.cells (fxV [v]).toArray 3);dsimp only at this;rwa[HM.out] at this);clear l1 h1 kd kr))
 all_goals
  generalize w1.setCell ⟨g,18,G⟩ (U A1 (m+1) c1)=W9 at*
  try simp only[AF]
  go_wp2
  go_meet;exact⟨_,hX.out▸HQ.out.1.le O,HQ.out.2⟩):P:=h
theorem Q8(h:P:=by
 obtain⟨m,hm⟩:=Az X'.ld.length;have HM:=T hm;have hmk:=TB;have c14:=TC;have hgl:g<↑W0:=HP.out.1.b.lt;have hbs:=Fk;clear hm hl;go_region_law (first
  |(refine DP _ rfl _ _ 22 rfl base 3 i0 _ 1 8 CV hi0 hz0 hz1 hz2 rfl O (U D m cd) m (fxV X'.ld) Bh HO.out (W1.heap.size+1) (I ⟨W1.heap.size,0,G⟩) 1 1 (fxV [v]) Bh (reads_fx W1 [v] 1 rfl) (fxV_one _) Bu O A8 ?_;intro v1 w1 hown hg hat;obtain⟨A1,c1,rfl⟩:=own_form hown;obtain⟨⟨k14,y14,hgl1⟩,hL,hK2⟩:=Gh H1.out ((Ao _ W1).alloc _) [v] HM.out rfl hown hg hat KZ;have HQ:=T (A9 hL (L1.out.tr hK2));clear hown hg hat hL hK2)
  |(go_simp;(with_reducible refine Ay Hca ?_);rintro e W1 ⟨rfl,⟨g1,C1,cc1,D1,cd1,R1,cr1⟩,l1,h1,kd,kr⟩;obtain rfl:g=g1:=l1.g.symm;obtain⟨q1,q2⟩:=kd rfl;dsimp only at q1 q2;obtain rfl:D=D1:=q1.symm;obtain rfl:cd=cd1:=q2.symm;have L1:=T ((HP.out.2.fr0 (Ao _ _).drew).tr l1);have H1:=T h1;have k14:W1.cell? ⟨g,14,G⟩=I (U D m cd):=(H1.out.b.cell 14 O).trans Ld;have hgl1:g<↑W1:=H1.out.b.lt;have hbs1:base≤↑W1:=H1.out.hb;have HO:Hid ((W1.alloc (.cells (fxV [v]).toArray 3)).ownsRow base 3 1 (U D m cd) m (fxV X'.ld)):=T TE;clear l1 h1 kd kr))
 all_goals
  generalize w1.setCell ⟨g,14,G⟩ (U A1 (m+1) c1)=W9 at*
  try simp only[AF]
  go_wp2
  go_meet;exact⟨_,hX.out▸HQ.out.1.le O,HQ.out.2⟩):P:=h
theorem QO(h:P:=by
 refine AQ [7] ?_;refine AO (λK hK=>?_) ?_
 ·go_simp;go_wp2_with ((with_reducible refine(Ko _ _ N (by first|exact q4|exact q4.fr fR id|exact(q4.alloc _).fr fR id|exact(addBd q4 _).fr fR id) nN).mono ?_);rintro e wB ⟨gS,rfl,hgS,hS,fS⟩);refine hK.out _ _ (hH.tr fS) λhH=>?_;clear hK K;refine Av 8 rfl hH EL ?_
  try simp only[AF]
  refine AQ [10] ?_;refine AO (λK hK=>?_) ?_
  ·go_simp;go_wp2_with ((with_reducible refine(Hof.out _ hH).mono ?_);rintro e wC ⟨A,cI,tt,rfl,hLV,hIv,fC⟩);refine hK.out _ _ (hH.tr fC) λhH=>?_;clear hK K;refine Av 11 rfl hH EL ?_
   try simp only[AF]
   refine AQ [12] ?_;refine AO (λK hK=>?_) ?_
   ·go_simp;refine hK.out _ _ (hH.alloc _) λhH=>?_;clear hK K;refine Av 13 rfl hH EL ?_;refine Cg ?_;simp only[AF]
    go_wp2
    go_meet;exact⟨_,_,_,_,_,_,rfl,T (made_end z0 hgR hR (by first|exact Ao _ _|exact(Ao _ _).alloc _) hgS hS fS hIv fC hLV hH)⟩
   exact AR
  exact AR
 exact AR):P:=h
theorem PS(h:P:=by
 intro w1 L1 lc1 X1 xc1 K1 E1;go_wp2_with fail;refine ego (op_any _ base _ _ Q _ E1.out O 13 10 9 15) ?_;intro w2 L2 lc2 X2 xc2 K2 E2;replace K2:=T (K1.out.tr K2.out);go_wp2_with fail;refine ego (Gf _ base _ _ _ Q _ E2.out O 11 9) ?_;intro w3 L3 lc3 X3 xc3 K3 E3;replace K3:=T (K2.out.tr K3.out);go_wp2_with fail;refine ego (bit_any _ base _ _ _ Q _ E3.out O 11 1) ?_;intro w4 L4 lc4 X4 xc4 K4 E4;replace K4:=T (K3.out.tr K4.out);go_wp2_with fail;refine ego (op_any _ base _ _ Q _ E4.out O 12 11 a b) ?_;intro w5 L5 lc5 X5 xc5 K5 E5;replace K5:=T (K4.out.tr K5.out);go_wp2_with fail;refine ego (bit_any _ base _ _ _ Q _ E5.out O 11 2) ?_;intro w6 L6 lc6 X6 xc6 K6 E6;replace K6:=T (K5.out.tr K6.out);go_wp2_with fail;refine ego (op_any _ base _ _ Q _ E6.out O 7 11 a b) ?_;intro w7 L7 lc7 X7 xc7 K7 E7;replace K7:=T (K6.out.tr K7.out);go_wp2_with fail;refine ego (op_any _ base _ _ Q _ E7.out O 7 12 a 9) ?_;intro w8 L8 lc8 X8 xc8 K8 E8;replace K8:=T (K7.out.tr K8.out);go_wp2_with fail;refine ego (op_any _ base _ _ Q _ E8.out O 5 11 11 12) ?_;intro w9 L9 lc9 X9 xc9 K9 E9;replace K9:=T (K8.out.tr K9.out);go_wp2_with fail;refine ego (Gf _ base _ _ _ Q _ E9.out O 11 11) ?_;intro w10 L10 lc10 X10 xc10 K10 E10;replace K10:=T (K9.out.tr K10.out);go_wp2_with fail;refine ego (bit_any _ base _ _ _ Q _ E10.out O 11 3) ?_;intro w11 L11 lc11 X11 xc11 K11 E11;replace K11:=T (K10.out.tr K11.out)
 go_wp2
 go_end0;exact epost_le (EPost.of K11.out E11.out) PR O):P:=h
theorem ST(h:P:=by
 refine AQ [10] ?_;refine AO (λK hK=>?_) ?_
 ·go_simp;refine hK.out _ _ ?_ (λhH=>?_);·first|exact((((hH.setCell (p:=⟨↑W0,0,G⟩) (Ah (AE _)) _).setCell (p:=⟨↑W0,1,G⟩) (Ah (AE _)) _).setCell (p:=⟨↑W0,2,G⟩) (Ah (AE _)) _).setCell (p:=⟨↑W0,3,G⟩) (Ah (AE _)) _)|(repeat(first|exact Ao _ _|with_reducible assumption|refine Fr.drewN ?_ _|refine Fr.drew ?_|refine Fr.alloc ?_ _|(refine Fr.setCell (p:=⟨_,_,_⟩) ?_ ?_ _;rotate_left;first|exact Ag rfl|(right;simp;done)|(right;simp;omega))))
  clear hK K;refine Av 11 rfl hH Dz ?_;refine Cg ?_
  try simp only[AF]
  go_wp2
  go_meet;refine⟨_,pc,pl,A,n,c,ct,rfl,rfl, ?_, ?_,T hH⟩
  ·refine T ⟨HB4.out.fr hH id,HB6.out.fr hH id,HB7.out.fr hH id, ?_,(by have:=HZ0.out;have:=F2.out.size;omega),F0.out.tr hH⟩
   first
    |(have hq:=HBZ.out;exact(((hq.set_ 0 _).set_ 1 _).set_ 2 _).set_ 3 _)
    |exact AH _ _ _
  ·refine T (λhkb=>?_)
   first
    |(have hq:=HBZ.out;exact VU (HFO.out hkb) hq)
    |exact found_fr (HFO.out hkb) ((Ao Aj w2).alloc _)
 exact AR):P:=h
theorem PU(h:P:=by
 have HE:=T em;clear em hm;go_in;go_wp2_with fail;refine ego (ld_any _ base p _ Q _ H.out O bs 15 word) ?_;intro w1 L1 lc1 X1 xc1 K1 E1;go_wp2_with fail;refine ego (li_any _ base _ _ Q _ E1.out O 11 _) ?_;intro w2 L2 lc2 X2 xc2 K2 E2;replace K2:=T (K1.out.tr K2.out);go_wp2_with fail;refine ego (op_any _ base _ _ Q _ E2.out O 12 12 bs 11) ?_;intro w3 L3 lc3 X3 xc3 K3 E3;replace K3:=T (K2.out.tr K3.out);go_wp2_with fail;refine ego (PG _ base _ _ _ Q _ E3.out O 12) ?_;intro w4 L4 lc4 X4 xc4 K4 E4;replace K4:=T (K3.out.tr K4.out);go_wp2_with fail;refine ego (li_any _ base _ _ Q _ E4.out O 12 _) ?_;intro w5 L5 lc5 X5 xc5 K5 E5;replace K5:=T (K4.out.tr K5.out);go_wp2_with fail;refine ego (op_any _ base _ _ Q _ E5.out O 12 12 12 bs) ?_;intro w6 L6 lc6 X6 xc6 K6 E6;replace K6:=T (K5.out.tr K6.out);go_wp2_with fail;refine ego (PG _ base _ _ _ Q _ E6.out O 12) ?_;intro w7 L7 lc7 X7 xc7 K7 E7;replace K7:=T (K6.out.tr K7.out);go_wp2_with fail;refine ego (op_any _ base _ _ Q _ E7.out O 4 bs bs 11) ?_;intro w8 L8 lc8 X8 xc8 K8 E8;replace K8:=T (K7.out.tr K8.out)
 go_wp2
 go_ret;exact Vn (EPost.of K8.out E8.out) H7 AB O):P:=h
theorem QG(h:P:=by
 have gW:=hB.out.fr (hO.out.tr (fW.mono (λ_ _ e=>e.elim))) Kl;have hgr:=HIC.out.lt;have e0:=bW.cell 0;have e2:=bW.cell 2;have hbl1:=bW.lt;go_wp2_with fail;refine(use_pos W1 gv g c N tt (HIC.out.fr fW id) (gW.cell 0) gW.lt hgne xa j O O).mono ?_;rintro e W2 ⟨rfl,hI2,f2⟩;have gW2:=gW.fr f2 hgne;have bW2:=bW.fr f2 (by show ¬↑wr=g;omega);have b3:=bW2.cell 3;have hbl:=bW2.lt;obtain⟨t1,ht1⟩:=Az (upT tt xa (max (tt xa) j));rw[ht1] at hI2;have HUN:=HU2.out xa xb rfl rfl;rw[ht1] at HUN;have HUN:=T HUN;have HI2:=T hI2;have HF3:=T f2;clear hW1 bW f2 hI2 e0 e2 hbl1 c0 c1 c2 c3 c4 hv bW2 hI;go_wp2_with fail;refine(use_pos W2 gv g c N t1 HI2.out (gW2.cell 0) gW2.lt hgne xb j O O).mono ?_;rintro e W3 ⟨rfl,hI3,f3⟩;have HX:=T (A9 hI3 ((HF3.out.tr f3)));clear hI3 f3
 go_wp2
 go_roundw;case rel=>
  have fa:Fr (λq=>q=g) wr W3:=(fW.mono (λ_ _ e=>e.elim)).tr HX.out.2;exact⟨j+1,_,O,AX,HUN,T (IvX.of hgb HX.out.1),T (hO.out.tr (fa.mono (λq _ e=>by show w1.heap.size<q;have:=HGV.out;have:=e;omega))),T (hF.out.trans fa (λq hq e=>by have:=e;have:=F1.out.size;omega))⟩
 case measure=>simp[AJ];omega):P:=h
theorem QJ(h:P:=by
 go_wp2_with fail;refine BY (S:=Fr Aj wr) AI ((Ao Aj wr).drew) (λhH=>?_);refine Av 0 rfl hH Ck ?_;refine Av 1 rfl hH Ck ?_;refine AY 2 rfl hH ?_
 try simp only[AF]
 refine AY 3 rfl hH ?_;refine AY 4 rfl hH ?_;refine AY 5 rfl hH ?_
 try simp only[AF]
 refine AY 6 rfl hH ?_;refine AY 7 rfl hH ?_;refine AY 8 rfl hH ?_
 try simp only[AF]
 refine AY 9 rfl hH ?_;refine AY 10 rfl hH ?_;refine AY 11 rfl hH ?_
 try simp only[AF]
 refine AY 12 rfl hH ?_;refine AY 13 rfl hH ?_;refine AY 14 rfl hH ?_
 try simp only[AF]
 refine AY 15 rfl hH ?_;refine AY 16 rfl hH ?_;refine AY 17 rfl hH ?_
 try simp only[AF]
 refine AY 18 rfl hH ?_;refine AY 19 rfl hH ?_;refine AY 20 rfl hH ?_
 try simp only[AF]
 refine AY 21 rfl hH ?_;refine Av 22 rfl hH Ck ?_;refine Av 23 rfl hH Ck ?_
 try simp only[AF]
 refine Cg ?_
 go_wp2
 go_roundw
 case rel=>exact⟨j+1,O,AX,by rw[HX0.out];try simp,T (hF2.out.tr hH)⟩
 case measure=>simp[AJ];omega):P:=h
theorem Rg(h:P:=by
 clear hd3 hends;go_upto_region 9 with(first
  |((with_reducible refine(Hr.out _).mono ?_);rintro e wq ⟨rfl,fq⟩;have bq:=BX.out.fr fq id;have c0:=bq.cell 0;have c1:=bq.cell 1;have cl:=bq.lt;have FQ:=T (FX.out.trans fq (λ_ _ e=>e));clear fq bq)
  |((with_reducible refine(Hp.out _).mono ?_);rintro e wp ⟨rfl,rfl⟩)
  |((with_reducible refine(He.out _).mono ?_);rintro e we ⟨rfl,rfl⟩))
 go_upto_region 10 with((with_reducible refine(Hs.out _).mono ?_);rintro e we ⟨rfl,rfl⟩);have Ho:=T (one_any wq g g C cc D cd R cr (Lw.new.all pc (l.take k)) N (12*k) (hL.out.fr0 FQ.out) O op n ((z+sz)%4294967296) HP.out);go_wp2_with ((with_reducible refine Ay Ho ?_);rintro e wo ⟨rfl,⟨g2,C2,cc2,D2,cd2,R2,cr2⟩,lk,h2,-,-⟩;obtain rfl:g=g2:=lk.g.symm;have HX:=T (A9 lk h2);clear lk h2 Ho);go_roundw;case rel=>
  refine⟨k+1,C2,cc2,D2,cd2,R2,cr2,O,AX,by rw[hp1.out],T ?_,T ?_⟩;·rw[hp2.out];exact HX.out.2.le O
  ·exact(hF.out.trans FQ.out (λ_ _ e=>e.elim)).trans HX.out.1.f (λq hq e=>hL.out.ge q e)
 case measure=>simp[AJ];omega):P:=h
theorem Tk(h:P:=by
 refine BQ (λK hK=>?_) ?_
 ·go_simp;refine hK _ _ ?_;clear hK K;refine Cu [3] ?_;refine BQ (λK hK=>?_) ?_;·refine step_ldm (stc R.s (U Aq R.s.d.length caq) (U Bq R.s.r.length cbq)) I7 AP sz16 rfl rfl (rc_head (toRs R s.ct) _ _ _ _) rfl rfl Bh ?_;exact TF
  exact C0
 exact C0):P:=h
theorem RS(h:P:=by
 refine AQ [10] ?_;refine AO (λK hK=>?_) ?_
 ·go_simp;refine hK.out _ _ ?_ (λhH=>?_);·first|exact((((hH.setCell (p:=⟨↑W1,0,G⟩) (Ah (AE _)) _).setCell (p:=⟨↑W1,1,G⟩) (Ah (AE _)) _).setCell (p:=⟨↑W1,2,G⟩) (Ah (AE _)) _).setCell (p:=⟨↑W1,3,G⟩) (Ah (AE _)) _)|(repeat(first|exact Ao _ _|with_reducible assumption|refine Fr.drewN ?_ _|refine Fr.drew ?_|refine Fr.alloc ?_ _|(refine Fr.setCell (p:=⟨_,_,_⟩) ?_ ?_ _;rotate_left;first|exact Ag rfl|(right;simp;done)|(right;simp;omega))))
  clear hK K;refine Av 11 rfl hH Dx ?_;refine Cg ?_
  try simp only[AF]
  go_wp2
  go_ret;exact⟨rfl,F0.out.tr hH⟩
 exact AR):P:=h
theorem SZ(h:P:=by
 have x0:=m9.cell 0;have x1:=m9.cell 1;have x2:=m9.cell 2;have x3:=m9.cell 3;have xl:=m9.lt;have v0:=m13.cell 0;have v1:=m13.cell 1;have vl:=m13.lt;have r1:g13≠↑w+1:=m13.ne_ m6 Ak;have r2:g9≠↑w+1:=by have:=HQ.out.bx.n9;omega
 have r3:g9≠↑w+1+1:=by have:=HQ.out.bx.n9;omega
 have r4:g13≠↑w+1+1:=by have:=HQ.out.bx.n13;omega
 clear m6 m7 m9 m13
 go_region
 rename ∀(a:Act) (w1:Ac),Code.wp _ Code.ret _ a w1→_=>hK
 refine hK _ _ ?_;clear hK;refine wp_ret ?_;obtain⟨k6,k7⟩:=two_blks (x0:=J V k.1) (x1:=J V k.2) (x2:=U C nC cC) (x3:=J .i64 N) (y0:=U A3 n3 c3) (y1:=.bool ends) HQ.out.bx.b6 HQ.out.bx.b7 O;refine Bf (Fp rfl _ _ (w.heap.size+1) (w.heap.size+2) 136 145 _ _ _ _ (.bool Af) rfl rfl k6 Tryz.underlying136 rfl szBk rfl k7 Tryz.underlying145 rfl szRun) rfl ?_;exact find_end HQ.out.el HQ.out.bx.b6 HQ.out.bx.b7 ⟨O,HQ.out.o6⟩ ⟨O,HQ.out.o7⟩ (λ_=>HQ.out.hit) rfl):P:=h
theorem S7(h:P:=by
 refine hK.out _ _ hH λhH=>?_;clear hK K;refine Cj 7 (Ap Aa) rfl hH (by intro X hSw;obtain⟨r0,r1,r2,q0⟩:=hSw;go_simp;first|omega|(split<;>omega)) ?_
 refine Av 8 rfl hH Dy ?_;refine Av 9 rfl hH Dy ?_
 try simp only[AF]
 refine Av 10 rfl hH Dy ?_;refine Av 11 rfl hH Dy ?_;refine Av 12 rfl hH Dy ?_
 try simp only[AF]
 refine Av 13 rfl hH Dy ?_;refine Av 14 rfl hH Dy ?_;refine Cg ?_
 go_wp2
 go_meet;exact⟨rfl,HF⟩):P:=h
theorem Th(h:P:=by
 refine hK _ _ ?_;clear hK K;refine Cu [1] ?_;refine BQ (λK hK=>?_) ?_;·go_simp;go_wp2_with ((refine Ay Hcp ?_);rintro e w7 ⟨A7,c7,B7,d7,rfl,h7,ne7,f7⟩;have k14:=(HB.out.1.drew.fr f7 id).cell 14;have hgl:=(HB.out.1.drew.fr f7 id).lt;have HY:=T (A9 h7 (A9 ne7 f7));clear h7 ne7 f7);exact Tg
 exact C0):P:=h
theorem Mo(h:P:=by have b4:=HQ.out.1;have b5:=B23.out.fr HQ.out.2 (λe=>O);have o3:=one16 (setS s reg v) (U A1 s.d.length c1') (U B1' s.r.length d1') rfl rfl;go_wp2_with ((with_reducible refine wpL_lq b4 AP sz16 ?_);(with_reducible refine wpL_sq (cs':=stc (setS s reg v) (U A1 s.d.length c1') (U B1' s.r.length d1')) b5 sz16 o3 ?_);intro W5 b6 f5;have B5:=T b6;have F5:=T f5;clear b6 f5 b4 b5);refine Bf (IR rfl _ _ (w.heap.size+1) 41 _ _ _ rfl rfl B5.out AP rfl sz16) rfl ?_;rw[hb];exact ended2 (g1:=w.heap.size) (g2:=w.heap.size+1) _ F0.out (AE _) A8 O AB F1.out HS.out HN.out (F3.out.tr HQ.out.2) F5.out HT.out.1 HT.out.2.1 HT.out.2.2):P:=h
theorem Tj(h:P:=by
 refine hK _ _ ?_;clear hK K;refine Cu [7] ?_;refine BQ (λK hK=>?_) ?_;·go_simp;exact TF
 exact C0):P:=h
theorem Ti(h:P:=by
 refine hK _ _ ?_;clear hK K;refine Ch 8 rfl Ci ?_;simp only[AF];refine Cu [9] ?_;refine BQ (λK hK=>?_) ?_
 ·go_simp;refine hK _ _ ?_;clear hK K;refine Cu [10] ?_;refine BQ (λK hK=>?_) ?_;·exact TG
  exact C0
 exact C0):P:=h
theorem Fj(h:P:=by obtain⟨⟨g1,C1,cc1,D1,cd1,R1,cr1⟩,h1,l1⟩:=hcut;obtain rfl:g=g1:=l1.g.symm;replace HP:=T (A9 h1 l1);clear h1 l1;go_upto_region 37 with((with_reducible refine(topD_any _ _ _ _ _ _ HP.out.1 O).mono ?_);rintro e Wt ⟨rfl,⟨gt,Ct,cct,Dt,cdt,Rt,crt⟩,lt,ht,-,-⟩;obtain rfl:g=gt:=lt.g.symm;replace HP:=T (A9 ht (HP.out.2.tr lt));clear lt ht);go_wp2_with ((with_reducible refine(topR_any _ _ _ _ _ _ HP.out.1 O).mono ?_);rintro e Wu ⟨rfl,pu,lu,hu,-,-⟩;have HU:=T (A9 (HP.out.2.tr lu) hu);clear lu hu);go_end0;exact⟨rfl,pu,HU.out.1,HU.out.2,λe=>EW,λe=>EW⟩):P:=h
theorem Nl(h:P:=by
 unfold putR;rw[hl];by_cases h1:i<off;·rw[Ae O,CO A8,Cw h1];exact hcs
 ·rw[CB A8];have hto:(cs.toList.take off).length=off:=A8;rw[hto];by_cases h2:i<off+n;·rw[An ⟨O,h2⟩,CO FC,AN];have:i -off<(zs.map (J k)).length:=FC;rw[Bj this];rfl
  ·rw[Ae O,CB FC,hl,List.getElem?_drop,show off+n+(i -off -n)=i by omega];exact hcs):P:=h
theorem TF(h:P:=by
 refine hK _ _ ?_;clear hK K;refine Ch 8 rfl Ci ?_;simp only[AF];refine Cu [10] ?_;refine BQ (λK hK=>?_) ?_;·exact TG
 exact C0):P:=h
theorem SW(h:P:=by
 clear hK K;refine AQ [7] ?_;refine AO (λK hK=>?_) ?_
 ·go_simp;refine hK.out _ _ ?_ (λhH=>?_);·first|exact((hH.setCell (p:=⟨↑w1,0,G⟩) (Ah (AE _)) _).setCell (p:=⟨↑w1,1,G⟩) (Ah (AE _)) _)|(repeat(first|exact Ao _ _|with_reducible assumption|refine Fr.drewN ?_ _|refine Fr.drew ?_|refine Fr.alloc ?_ _|(refine Fr.setCell (p:=⟨_,_,_⟩) ?_ ?_ _;rotate_left;first|exact Ag rfl|(right;simp;done)|(right;simp;omega))))
  clear hK K;refine Cg ?_
  try simp only[AF]
  go_wp2
  go_meet;refine⟨_,rfl,T ?_,T hH⟩;exact AH _ _ _
 exact AR):P:=h
theorem Tg(h:P:=by
 refine Ch 6 rfl Ci ?_;simp only[AF];refine Cu [7] ?_;refine BQ (λK hK=>?_) ?_
 ·go_simp;refine hK _ _ ?_;clear hK K;refine Ch 8 rfl Ci ?_;refine Le ?_;simp only[AF]
  go_wp2
  go_meet;exact⟨_,_,rfl,T (begun (x:=⟨St.up s,s.ct,0,0,Aa⟩) M6'.out HY.out.1 HY.out.2.1 ((Ao Aj w6).drew.tr HY.out.2.2) (by show s.d.length≤1000∧s.r.length≤1000;have:=HL.out;omega))⟩
 exact C0):P:=h
theorem JS(h:P:=by go_wp2_with ((with_reducible refine wpL_lq b22 AP sz16 ?_);(with_reducible refine wpL_sq (cs':=stc S (U A1 S.d.length c1) (U B1 S.r.length d1)) b2d sz16 o7 ?_);intro W8 b8 f8;have B8:=T b8;have F8:=T f8;clear b8 f8 b2d b22 o7);refine Bf (Ca.results_ct rfl _ _ (w.heap.size+1) 41 _ _ (.bool Aa) rfl rfl B8.out AP rfl sz16) rfl ?_;exact got_end F0.out AB HX1.out.1 HX1.out.2.1 HX1.out.2.2 F2.out F8.out):P:=h
theorem QW(h:P:=by
 refine⟨k+1,⟨upN s.pl k m,s.out++[moveX (upN s.pl k m) m ⟨op,dst,xa,xb,imm⟩]⟩,A3,c3,m+1,O,AX,rfl,O,T (by rw[BJ,hsm.out];rfl),T (S1.out AB),T ?_,T ?_,T ((F8.out.alloc _).grown HX.out.2 (λq hq=> Ah (hbo q hq)))⟩;·rw[hm2,iis_app];exact HX.out.1
 ·exact Cells.fr (Fv CP8.out _) ((Ao (λq=>W6.heap.size≤q) _).grown HX.out.2 (λq hq=> Ag (hbo q hq))) (by show ¬↑W6≤gp;omega)):P:=h
theorem Rf(h:P:=by
 have FQ:=T fq;clear fq bq;go_wp2_with ((with_reducible refine Ay Hu ?_);rintro e W7 ⟨rfl,hX⟩);go_roundw
 case rel=>exact⟨k,(k:Int) -1,useZ u [(xa:Int),(xb:Int)],O,AX,T rfl,T (HUS.out _ (S1.out xa xb AB O AB AB)),T hX.out.1,T (hF.out.trans (FQ.out.mono (S':=λq=>q=gu) (λ_ _ e=>e.elim)|>.tr hX.out.2) (λ_ _ e=>e))⟩
 case measure=>first|(simp[AJ];done)|(simp[AJ];omega)):P:=h
theorem TG(h:P:=by
 refine step_stm (cs':=resc R.s (U Aq R.s.d.length caq) (U Bq R.s.r.length cbq) Aa R.dv (U G 0 0)) bt szR (show(19:Nat)≤19 by omega) rfl oR rfl rfl Bh Bh ?_;intro W9 b9 f9;refine hK _ _ ?_;clear hK K;refine Le ?_
 go_wp2
 go_meet;rw[res_set _ rfl] at b9;exact⟨_,rfl,T ⟨b9,AE _,(((Ao Aj wr).drew).alloc _).trans f9 (λk hk e=>O)⟩⟩):P:=h
theorem Rv(h:P:=by
 have hb2:bs[j]≠bs[i]' O:=λe2=>e ((List.getElem_inj hn).1 e2);have hiff:(bs.getD j 0∈seen.push (bs[i]' O))↔bs.getD j 0∈seen:=by
  rw[Array.mem_push];have:bs.getD j 0=bs[j]:=by simp[AN,hjb]
  rw[this];exact⟨λh=>h.elim id (λh=>absurd h hb2),Ag⟩
 unfold one;by_cases hs:bs.getD j 0∈seen;·rw[An hs,An (hiff.2 hs)]
 ·rw[Ae hs,Ae (λh=>hs (hiff.1 h))]):P:=h
theorem Oh(h:P:=by
 obtain⟨t,ht⟩:=Az (p q);rw[ht] at Hp;have HT:=T ht;clear ht;go_wp2_with fail;refine Ay Hp ?_;rintro e w1 ⟨rfl,hI1⟩;have HI1:=T hI1;clear hI1
 cases t
 ·go_wp2
  go_roundw;case rel=>exact⟨q+1,O,AX,λj hj=>by
   rcases(by omega:j<q∨j=q) with h|rfl;·exact HNO.out j h
   ·exact HT.out,HI1.out⟩
  case measure=>simp[AJ];omega
 ·go_wp2
  go_ret;exact Ag ⟨q,hlt,rfl,HNO.out,HT.out,HI1.out⟩):P:=h
theorem QI(h:P:=by
 rw[hx] at hcell HD1 hmem;clear hx e2 hP2 bpw;go_wp2_with fail;refine(use_x wr ↑w1 gv c N A t2 x N hmem O HNE.out hI2.out gvw).mono ?_;rintro e w' ⟨rfl,h3,f3⟩;have HX:=T (A9 h3 f3);clear h3 f3
 go_wp2
 go_roundw;case rel=>
  refine⟨_,_,_,_,_,_,_,_,_,_,_,_,⟨j+1,_,O, ?e1,T (HD1.out x rfl),T HX.out.1,T (hF2.out.tr HX.out.2)⟩,rfl⟩
  case e1=>go_num
 case measure=>simp[AJ];omega):P:=h
theorem Qb(h:P:=by
 have g0:decide (imm≥16)=Af:=by simpa using q0
 have g1:decide (imm≤23)=Af:=by simpa using q1
 clear hlow harg hret hab halu hflg hop hv0 ha hb2;go_in;go_wp2_with (first
  |((with_reducible refine(hva.out _).mono ?_);rintro e w' ⟨rfl,rfl⟩)
  |((with_reducible refine(hvb.out _).mono ?_);rintro e w' ⟨rfl,rfl⟩))
 all_goals
  go_ret;exact⟨rfl,((Ao _ w).alloc _).alloc _⟩):P:=h
theorem PF(h:P:=by
 go_wp2_with fail;refine ego (op_any _ base p _ Q _ H.out O 4 rd a b) ?_;intro w1 L1 lc1 X1 xc1 K1 E1;go_wp2_with fail;refine ego (low_any _ base _ _ _ Q _ E1.out O rd) ?_;intro w2 L2 lc2 X2 xc2 K2 E2;replace K2:=T (K1.out.tr K2.out)
 go_wp2
 go_end0;exact epost_le (EPost.of K2.out E2.out) Ge O):P:=h
theorem Qs(h:P:=by
 rw[ec,hW1] at k1 k3 Ha L1 hgl1;go_in;go_wp2_with fail;go_region_law (first|(go_simp;(with_reducible refine(Ha.out _ ((Ao _ _).drew)).mono ?_);intro e w' hq;have he:=hq.1;subst he;have HQ:=T hq;clear hq))
 all_goals
  simp only[AF]
  go_wp2
  go_ret;exact((LPost.then (L1.out.fr0 (Ao _ _).drew) ⟨rfl,rfl⟩ ⟨rfl,rfl⟩ HQ.out).le O).weak):P:=h
theorem Qa(h:P:=by
 clear hlow harg hret hab halu hflg hop hlt
 cases bb
 ·exact Ij
 ·exact Ij):P:=h
theorem MB(h:P:=by
 go_roundw;case rel=>
  refine⟨k+1,O,AX, ?_,(fr.alloc _).grown hg1 (λq hq=> Ah (hat q hq)),λq hq=>?_⟩;·rw[Hs.out];simpa[by64] using hown1
  ·rcases hat1 with e|e;·exact hat q (by rw[←e];exact hq)
   ·rw[e] at hq;have:↑wr+1=q:=Fc;have:=fr.size;omega
 case measure=>simp[AJ];omega):P:=h
theorem DE(h:P:=by
 obtain rfl:=z3 ⟨O,O⟩;clear z1 z2 z3 z4 z5 z6 z7;go_in;go_wp2_with fail
 go_region
 all_goals
  go_wp2_with fail;exact Bf (Ca.results_ct rfl _ _ (w.heap.size+1) 269 (hA _) _ (Ap Af) rfl rfl ((blk2of3 w _ _ _ _).drew) Tryz.underlying269 rfl szH) rfl ⟨rfl,((((Ao _ w).alloc _).alloc _).alloc _).drew⟩):P:=h
theorem Re(h:P:=by
 clear hb11 fs hbz
 go_wp2
 go_meet;refine⟨_,T HX.out.1,T ⟨HX.out.2.1,own_fr HR3.out.1 HX.out.2.2 (λk hk e=>?_),own_fr HR3.out.2.1 HX.out.2.2 (λk hk e=>?_),HR3.out.2.2.tr HX.out.2.2⟩⟩;·have:=own_base HR3.out.1 k hk;have e2:k=↑w:=e;omega
 ·have:=own_base HR3.out.2.1 k hk;have e2:k=↑w:=e;omega):P:=h
theorem Rh(h:P:=by clear hb2;go_wp2_with ((with_reducible refine(Hsg.out _).mono ?_);rintro e wq ⟨rfl,rfl⟩);go_meet;exact⟨(z+signI n)%4294967296,0,T (by rw[HNT.out.1,HNT.out.2,An HJ.out,An HJ.out];exact⟨rfl,rfl⟩),T (BP6.out.set_ 8 _),T ((Ao (λq=>q=gp) W6).setCell (p:=⟨gp,8,G⟩) (Ag rfl) _)⟩):P:=h
theorem Fb(h:P:=by
 clear z1 z2 z3 z4 z5 z6 z7;go_in;go_wp2_with fail
 go_region
 all_goals
  go_wp2_with fail;exact Bf (Ca.results_ct rfl _ _ (w.heap.size+1) 269 (hA _) _ (Ap Af) rfl rfl ((blk2of3 w _ _ _ _).drew) Tryz.underlying269 rfl szH) rfl ⟨rfl,((((Ao _ w).alloc _).alloc _).alloc _).drew⟩):P:=h
theorem Ox(h:P:=by
 have HA2:Hid (a=(kept p (b+1)).length):=T (by rw[e1];exact HA.out);clear hCs bB2 bB e1
 go_wp2
 go_roundw;case rel=>
  obtain⟨F2,g1,g2,g3⟩:=HX.out;exact⟨a,b+1,F2,rfl,AX,O,O,HA2.out,O,HI2.out,by have:=FB.out.size;omega,g1,g2,g3⟩
 case measure=>simp[AJ];omega):P:=h
theorem Nf(h:P:=by
 rintro e w' ⟨rfl,rfl⟩;go_wp2_with fail
 go_region
 all_goals
  go_wp2_with fail
  try simp only[Exit.inBlock,Exit.then]
  have hf:=HEnd.out (J Z 10) (J V va);exact Bf (results_tc rfl _ _ (w.heap.size+1) 185 _ _ _ rfl rfl hf.1 Tryz.underlying185 rfl szT) rfl ⟨rfl,hf.2⟩):P:=h
theorem Nc(h:P:=by
 rintro e w' ⟨rfl,rfl⟩;go_wp2_with fail
 go_region
 all_goals
  go_wp2_with fail
  try simp only[Exit.inBlock,Exit.then]
  have hf:=HEnd.out (J Z 0) (J V 0);exact Bf (results_tc rfl _ _ (w.heap.size+1) 185 _ _ _ rfl rfl hf.1 Tryz.underlying185 rfl szT) rfl ⟨rfl,hf.2⟩):P:=h
theorem JV(h:P:=by
 intro w1 L1 lc1 X1 xc1 K1 E1;go_wp2_with fail;refine ego (low_any _ base _ _ _ Q _ E1.out O rd) ?_;intro w2 L2 lc2 X2 xc2 K2 E2;replace K2:=T (K1.out.tr K2.out)
 go_wp2
 go_end0;exact epost_le (EPost.of K2.out E2.out) Ge O):P:=h
theorem Ps(h:P:=by
 go_wp2_with fail;refine Ay Hs ?_;rintro e w1 ⟨rfl,hM1,f1⟩;have HX:=T (A9 hM1 (hF.out.tr f1));clear hM1 f1
 go_wp2
 go_roundw
 case rel=>exact⟨k+1,O,AX,T (by rw[←hls.out];exact HX.out.1),T HX.out.2⟩
 case measure=>simp[AJ];omega):P:=h
theorem QM(h:P:=by
 exact Cells.new' w _ _ n _ (by
  rw[e];apply List.ext_getElem?;intro i;rw[DW,C7];by_cases hi:i<n;·rw[An hi,DL hi];rfl
  ·rw[Ae hi,De (by rw[List.length_range];omega)];rfl)):P:=h
theorem Pb(h:P:=by
 refine⟨g,0,rfl,hb.lt, ?_, ?_, ?_, ?_, ?_⟩;·rw[Bn];exact key 0 O
 ·rw[Bn];exact key 1 O
 ·rw[Bn];exact key 2 O
 ·rw[Bn];exact key 3 O
 ·rw[Bn];exact key 4 O):P:=h
theorem Oq(h:P:=by obtain⟨F,g1,g2,g3⟩:=HR1.out;exact⟨m0,m0+1,F,rfl,AX,O,O,HP.out.1.symm,O,HI1.out,hs1,g1,λt ht c hc=>by rw[HP.out.2 t ht];exact g3 t (by have:=HP.out.1;omega) c hc,λq _ hq c hc=>g3 q hq c hc⟩):P:=h
theorem NN(h:P:=by intro j hj;have hj:j<16:=hj;have hc:j=0∨j=1∨j=2∨j=3∨j=4∨j=5∨j=6∨j=7∨j=8∨j=9∨j=10∨j=11∨j=12∨j=13∨j=14∨j=15:=O;rcases hc with rfl|rfl|rfl|rfl|rfl|rfl|rfl|rfl|rfl|rfl|rfl|rfl|rfl|rfl|rfl|rfl<;>rfl):P:=h
theorem LF(h:P:=by exact⟨⟨h.D,h.R,h.fl,h.same⟩,by show takeD op≤_;omega,by show takeR op≤_;omega,by show c.d.length=_ -takeD op+putD op;omega,by show c.r.length=_ -takeR op+putR op;omega,⟨[],AB⟩,rfl,AE _,AE _⟩):P:=h
theorem Km(h:P:=by
 clear hab
 go_wp2
 go_roundw
 case rel=>exact⟨j+1,tt,O,AX,T (HU1.out O),T (IvX.of hgb (HIC.out.fr ((Ao Aj wr).alloc _) id)),T (hO.out.alloc _),T (hF.out.alloc _)⟩
 case measure=>simp[AJ];omega):P:=h
theorem MV(h:P:=by
 have e:k=n:=O;subst e;have hG:NewP w gp s o k (Ax (AD #[Bi (I ⟨↑w1+1+1,0,G⟩),J Z 0])) wr:=⟨_,rfl,rfl,newT_end hT,hPz,Hbl.out,frz⟩;have HG:=T hG;clear hG
 go_wp2
 go_ret2;exact HG.out):P:=h
theorem Ks(h:P:=by
 go_wp2
 go_roundw
 case rel=>exact⟨k,(k:Int) -1,u,O,AX,T rfl,T (HUS.out _ (S0.out (Ah O))),T (hC.out.alloc _),T (hF.out.alloc _)⟩
 case measure=>first|(simp[AJ];done)|(simp[AJ];omega)):P:=h
theorem GE(h:P:=by have hp':tmps[p]?.getD Bt=v:=Fy;have hq':=GB;simp[results,h,hp',hq',asAddr,run_loadVar_row w g' t' ty' cs' (0,0) d' hg' hu' hd' hi',D5,CT]):P:=h
theorem MR(h:P:=by have hr:=run_make (P:=Tryz.prog) w 118 4 i0 (Ap Aa) Tryz.underlying118 hi0 hz0 Z Z n n O O GK O;simp only[C4,hz1,Nat.mul_one] at hr;exact hr):P:=h
theorem MQ(h:P:=by have hr:=run_make (P:=Tryz.prog) w 22 3 i0 (J Z 0) CV hi0 hz0 Z Z n n O O GK O;simp only[C4,hz1,Nat.mul_one] at hr;exact hr):P:=h
theorem OY(h:P:=by
 have hs:=h.f.size;refine⟨k.g.trans h.g,λi hi=>?_,h.f.trans k.f (λi hi e=>?_)⟩;·exact N4
 ·rcases h.it i e with e|e;·exact e
  ·omega):P:=h
theorem Qd(h:P:=by
 rw[hx] at hcell Hv;clear hx hmem e2;go_wp2_with fail;refine(Hv.out _).mono ?_;rintro e w' ⟨rfl,rfl⟩;go_wp2_with fail
 go_round
 case rel=>exact⟨j+1,O,AX⟩
 case measure=>simp[AJ];omega):P:=h
theorem RL(h:P:=by
 clear HN HY;go_upto_region 4 with(fail);go_still_tail 5,AI;change BL _ _ _ _ _ wr.drew
 go_wp2
 go_roundw
 case rel=>exact⟨q+1,O,AX,HP.out⟩
 case measure=>simp[AJ];omega):P:=h
theorem Oy(h:P:=by
 go_wp2
 go_ret;refine⟨by rw[←HA.out];rfl,HI3.out, ?_⟩;rw[←HA.out];refine⟨_,hC2.out,O,λt ht c hc=>?_⟩;rw[←HK.out t EC c hc];unfold putR;rw[Ae O]):P:=h
theorem R8(h:P:=by
 rcases h.2 with⟨e2,_⟩|⟨g',cap,cur,e2,_,hb,_⟩
 ·injection e2 with e2;rw[e2] at e
  cases e
 ·injection e2 with e2;rw[e2] at e;have:g'=q:=Gp;exact KE):P:=h
theorem Pd(h:P:=by obtain⟨b,off,e,hb,c0,c1,c2,c3,c4⟩:=h k hk;have hn:=hs b hb;have hl:b<↑w:=O;exact⟨b,off,e,hb,f.cell c0 hl hn,f.cell c1 hl hn,f.cell c2 hl hn,f.cell c3 hl hn,f.cell c4 hl hn⟩):P:=h
theorem I0(h:P:=by go_in;go_upto_region 1 with(fail);rw[HW.out];go_wp2_with ((with_reducible refine(He.out _).mono ?_);rintro e w1 ⟨rfl,rfl⟩);go_ret;exact⟨Sk,F0.out⟩):P:=h
theorem Ph(h:P:=by
 generalize s.at_=a at*;generalize s.l.length=n at*;clear ha;go_in;go_wp2_with fail;go_quiet (fail)
 go_wp2
 go_ret;exact⟨rfl,H.out.fr0 ((Ao _ w).drewN _),(Ao _ w).drewN _⟩):P:=h
theorem PD(h:P:=by
 intro w2 L2 lc2 X2 xc2 K2 E2;replace K2:=T (K1.out.tr K2.out)
 go_wp2
 go_end0;exact epost_le (EPost.of K2.out E2.out) Ge O):P:=h
theorem Nh(h:P:=by subst h0;have:zs=[]:=List.eq_nil_of_length_eq_zero hlz;subst this;exact h w (hC.congr (λi _=>Mr)) (Ao _ _)):P:=h
theorem R7(h:P:=by
 rcases h with⟨_,h2,_⟩|⟨gl,e2,⟨F,h1,_⟩,_⟩;·rw[h2] at e;cases e
 ·rw[e2] at e;have:gl=q:=Gp;subst this;obtain⟨cs,hc,_⟩:=h1;exact srt_blk hc):P:=h
theorem Oi(h:P:=by
 have hd:decide ((q:Int)<(n:Int))=Aa:=A8;have e:q=n:=O;have HE:=T e;clear e hI
 go_wp2
 go_ret;have e:=HE.out;subst e;exact Ah ⟨rfl,HNO.out,HW.out⟩):P:=h
theorem NT(h:P:=by
 induction L with
 |nil=>intro bs h;cases bs<;>simp[ents] at h⊢
 |cons p L ih=>
  intro bs h
  cases bs with
  |nil=>simp at h
  |cons b bs=>simp[ents,ih bs C3]):P:=h
theorem LD(h:P:=by
 rw[e];simp only[Do];refine⟨⟨[],AB⟩,p1,p2, ?_, ?_⟩;·simpa[Dg] using p3
 ·simpa[Dg] using p4):P:=h
theorem Ob(h:P:=by rw[UJ L bs h.len j];simp[Eh,CX ht,DJ h.b,K.check w _ hx,h2,Ef _ h.b,CT,setBlock]):P:=h
theorem Mg(h:P:=by exact⟨e1.pushD _ (by simp[e2];omega),(E1.pushD _).more O O O Mf O⟩):P:=h
theorem Pf(h:P:=by
 rw[hq];have HT:=T (Vc w q)
 cases q
 all_goals
  go_in;go_wp2_with fail;refine Ay HT ?_;rintro e w' ⟨rfl,rfl⟩
  go_wp2
  go_ret;exact⟨rfl,rfl⟩):P:=h
theorem IY(h:P:=by
 congr 1;funext j;dsimp only;by_cases e:j=k;·subst e;simp
 ·rw[Ae e];by_cases h:j<k;·rw[An h,An O]
  ·rw[Ae h,Ae O]):P:=h
theorem Mi(h:P:=by show 0≤(x -y)%18446744073709551616∧(x -y)%18446744073709551616<18446744073709551616∧(x -y)%18446744073709551616%4294967296=(x -y)%4294967296;omega):P:=h
theorem Tp(h:P:=by
 cases q2
 ·exact KS
 ·exact KS):P:=h
theorem Mx(h:P:=by
 have Hp:=T hp;have Hf:=T fr2;clear hp fr2
 go_wp2
 go_roundw
 case rel=>exact⟨k+1,O,AX,Hp.out,Hf.out⟩
 case measure=>simp[AJ];omega):P:=h
theorem G8(h:P:=by
 obtain⟨h1,h2⟩:=h;refine⟨h1, ?_⟩;rcases h2 with h2|⟨g,cap,cur,hv,hg,r⟩;·exact Ag h2
 ·exact Ah ⟨g,cap,cur,hv,AS hb hg,r⟩):P:=h
theorem Wo(h:P:=by
 rcases hk with e|e;·exact⟨hn.d.ge k (ab_own hn.d e),hn.d.lt k (ab_own hn.d e)⟩
 ·exact⟨hn.r.ge k (ab_own hn.r e),hn.r.lt k (ab_own hn.r e)⟩):P:=h
theorem O3(h:P:=by refine⟨A1,c1,rfl,hown1,((Ao _ _).alloc _).grown hg1 (λk hk=>?_)⟩;have e:=Jk;exact Ah O):P:=h
theorem Q3(h:P:=by
 have e:=ab_own hown hk;rcases hat with e2|e2;·exact HH
 ·rw[e2] at e;exact Ah (by have:↑W=k:=(by simpa using e);omega)):P:=h
theorem Ii(h:P:=by
 intro w1 L1 lc1 X1 xc1 K1 E1
 go_wp2
 go_end0;exact epost_le (EPost.of K1.out E1.out) Ge O):P:=h
theorem Ij(h:P:=by go_in;go_wp2_with ((with_reducible refine(hv0.out _).mono ?_);rintro e w' ⟨rfl,rfl⟩);go_ret;exact⟨rfl,((Ao _ w).alloc _).alloc _⟩):P:=h
theorem Pj(h:P:=by
 have g5:decide (pl≥256)=Af:=Fc
 go_wp2
 go_ret;rw[HR.out,An hq];exact⟨rfl,done1 F2.out ⟨H2.out,Ao _ _⟩⟩):P:=h
theorem O9(h:P:=by unfold putW;rw[Ae O,Ae O,Ae O,Ae O,Ae O,An O];congr 1;omega):P:=h
theorem NZ(h:P:=by simp[Eh,CX ht,DJ h.b,K.check w _ hx,h2,Ef _ h.b,CT,setBlock]):P:=h
theorem NL(h:P:=by unfold reckS;dsimp only;rw[Ae O,Ae O,Ae O,Ae O,Ae O,hh,Ae AB]):P:=h
theorem Qm(h:P:=by
 clear em ht;go_in;go_wp2_with fail
 go_region
 all_goals
  go_wp2
  go_end0;exact⟨rfl,HX.out.1.fr (Ao Aj _).drew id,HX.out.2.drew⟩):P:=h
theorem QR(h:P:=by
 refine Cg ?_
 go_wp2
 go_roundw
 case rel=>exact⟨j+1,q,O,AX,rfl,hQ,hqk,T (hW.out _ hH)⟩
 case measure=>simp[AJ];omega):P:=h
theorem ME(h:P:=by
 clear hb e1 e2;go_in;go_wp2_with fail;refine(Hf.out _).mono ?_;rintro e w' ⟨rfl,rfl⟩
 go_wp2
 go_ret;exact⟨rfl,h,Ao _ _⟩):P:=h
theorem NM(h:P:=by
 have hj:j<ds.size:=by
  have:=(List.getElem?_eq_some_iff.1 hv).1;simpa using this
 rw[Bn,h.cell j,hds j hj];simpa using hv):P:=h
theorem O7(h:P:=by
 rw[e] at h;by_cases q:256≤(s.g ra+x)%18446744073709551616;·rw[An q] at h;cases h
 ·rw[Ae q] at h;exact⟨O,h⟩):P:=h
theorem CW(h:P:=by
 go_wp2_with fail;refine(Hn.out _).mono ?_;rintro e w' ⟨rfl,rfl⟩
 go_wp2
 go_ret;exact⟨by rw[hfv.out];rfl,F3.out.alloc _⟩):P:=h
theorem MU(h:P:=by
 clear hT2
 go_wp2
 go_roundw
 case rel=>exact⟨k+1,O,AX,HT2.out,HP2.out,FR2.out⟩
 case measure=>simp[AJ];omega):P:=h
theorem Qj(h:P:=by
 rw[g1,g2] at hr;simp at hr;subst hr;go_in;go_wp2_with fail
 all_goals
  go_ret;exact⟨rfl,((Ao _ w).alloc _).alloc _⟩):P:=h
theorem MC(h:P:=by
 go_wp2
 go_roundw
 case rel=>exact⟨k+1,O,AX,by rw[Hs.out];exact hown,fr,hat⟩
 case measure=>simp[AJ];omega):P:=h
theorem MN(h:P:=by
 clear hv hp e1 e2 hi hx;go_in;go_wp2_with fail;refine Ay Hv ?_;rintro e w' ⟨rfl,rfl⟩
 go_wp2
 go_ret2;exact⟨rfl,rfl⟩):P:=h
theorem N9(h:P:=by
 subst e;obtain⟨h1,h2⟩:=h;have d1:=GR;clear hq;go_in
 go_wp2
 go_ret;exact⟨rfl,rfl⟩):P:=h
theorem Ql(h:P:=by
 simp[h3] at hr;subst hr;clear h3;go_in;go_wp2_with fail
 all_goals
  go_ret;exact⟨rfl,((Ao _ w).alloc _).alloc _⟩):P:=h
theorem O8(h:P:=by unfold putW;rw[Ae O,Ae O,Ae O,Ae O,An O];congr 1;omega):P:=h
theorem Ls(h:P:=by
 rcases h.2 with⟨e2,h0⟩|⟨g',cap,cur,e2,_⟩;·injection e2 with _ h1 h2;exact⟨h1,h2⟩
 ·rw[e] at e2;simp at e2):P:=h
theorem Na(h:P:=by
 clear hno;go_in;go_wp2_with fail;refine Ay Hpg ?_;rintro e w' ⟨rfl,rfl⟩
 go_wp2
 go_ret;exact⟨rfl,h,Ao _ _⟩):P:=h
theorem Kw(h:P:=by go_meet;exact⟨l,A,c2,size,Aa,h8,rfl,rfl,T (hP.out.fr0 (F1.out.trans ((Ao Aj _).alloc _) (λ_ _ e=>e)))⟩):P:=h
theorem Mw(h:P:=by
 clear hv hb e1 hh;go_in;go_wp2_with fail;refine Ay Hv ?_;rintro e w' ⟨rfl,rfl⟩
 go_wp2
 go_ret2;exact⟨rfl,rfl⟩):P:=h
theorem MF(h:P:=by
 go_in;go_wp2_with fail;refine(Hf.out _).mono ?_;rintro e w' ⟨rfl,rfl⟩
 go_wp2
 go_ret;exact⟨rfl,h,Ao _ _⟩):P:=h
theorem IU(h:P:=by
 rw[e1];clear e1 hb;go_in;go_wp2_with fail;refine Ay Hv ?_;rintro e w' ⟨rfl,rfl⟩
 go_wp2
 go_ret;exact⟨rfl,rfl⟩):P:=h
theorem Jp(h:P:=by exact(HD.out.2.mono (S':=λk=>p.its k∨ ¬P k) (λk _ e=> Ah e)).trans (hL.2.drewN _) (λi hi e=> Ag e)):P:=h
theorem LO(h:P:=by
 rcases l.eq_nil_or_concat with e|⟨m,i,e⟩;·exact absurd e hl
 ·exact⟨m,i,by rw[e,DI]⟩):P:=h
theorem Nn(h:P:=by
 go_in;go_wp2_with fail;refine Ay hsz ?_;rintro e w' ⟨rfl,rfl⟩
 go_wp2
 go_ret;exact⟨rfl,hD,hM,Ao _ _⟩):P:=h
theorem Mv(h:P:=by
 rw[Ae e];by_cases h1:i<16384;·rw[An h1,An h1];dsimp only;rw[Ae e]
 ·rw[Ae h1,Ae h1]):P:=h
theorem GS(h:P:=by
 go_in;go_wp2_with fail;refine(Hs.out _).mono ?_;rintro e w' ⟨rfl,rfl⟩
 go_wp2
 go_ret;exact⟨rfl,F1.out⟩):P:=h
theorem Nw(h:P:=by
 go_wp2
 go_ret;rw[show raised zs p=p by unfold raised;rw[Hbad.out];rfl,Hbad.out];exact⟨rfl,h,Ao _ _⟩):P:=h
theorem IT(h:P:=by
 go_in;go_wp2_with fail;refine(Hf.out _).mono ?_;rintro e w' ⟨rfl,rfl⟩
 go_wp2
 go_ret2;exact⟨rfl,rfl⟩):P:=h
theorem NJ(h:P:=by unfold holdsB;rw[Ae O,Ae O,Ae O,Ae O,Ae O]):P:=h
theorem Wp(h:P:=by show blockR (blkN 1 St.new (mc0 1 awakeL [])).s (blkN 1 St.new (mc0 1 awakeL [])).g=_;rw[b1];exact e2.1):P:=h
theorem NY(h:P:=by
 unfold rep at hp;obtain⟨q,hq,rfl⟩:=Bo.1 hp;split;·exact h.keys q hq
 ·exact h.keys q hq):P:=h
theorem LC(h:P:=by refine⟨⟨_,rfl⟩,p1,⟨hn',AB,by simp[p2]⟩,AB, ?_⟩;rw[val,evs_last,p3];simp[make]):P:=h
theorem Lq(h:P:=by
 rcases h.2 with⟨rfl,h0⟩|⟨g,cap,cur,rfl,_⟩;·rw[h0];exact⟨_,_,rfl⟩
 ·exact⟨_,_,rfl⟩):P:=h
theorem JK(h:P:=by rw[List.take_succ_eq_append_getElem h,AN,Bj h];rfl):P:=h
theorem NQ(h:P:=by rw[Bn];refine⟨?_,h.frozen j⟩;rw[h.cell j,Array.getElem?_eq_getElem O];rfl):P:=h
theorem Lx(h:P:=by
 cases b
 ·exact Cr
 ·exact Cr):P:=h
theorem OG(h:P:=by exact Str.app (Str.nil.cons (str_hop Ak)) (Str.app (str_bitC _ _) (UP _ _ _ _))):P:=h
theorem Qe(h:P:=by
 exfalso;have h1:p.tg= -1:=by simpa using g4
 have h2:p.tg≠ -1:=by simpa using hbt
 exact h2 h1):P:=h
theorem Ie(h:P:=by
 have HE:=T e;clear e hz
 go_wp2
 go_ret;rw[HE.out];exact⟨rfl,done1 F2.out (H2.out.place _)⟩):P:=h
theorem Wr(h:P:=by
 rcases hq with h|h|h;·have:=HLT.out.1;omega
 ·have:=HLT.out.2;omega
 ·have:=HC.out q h;omega):P:=h
theorem N7(h:P:=by
 have d2:decide (op≤69)=Aa:=A8;clear hq;go_in
 go_wp2
 go_ret;exact⟨rfl,rfl⟩):P:=h
theorem O0(h:P:=by
 rw[hd];go_in;go_wp2_with fail
 all_goals
  go_ret;exact⟨by simp[*],(Ao _ w).alloc _⟩):P:=h
theorem Rb(h:P:=by simpa only[swC,Eb,List.set_cons_zero,List.set_cons_succ] using this):P:=h
theorem JZ(h:P:=by
 subst eb;rw[upZ_same,Cf _ _ hab];intro e;have:=hf.2 a e;rw[hm] at this
 cases this):P:=h
theorem GN(h:P:=by simpa only[rc,Eb,List.set_cons_zero,List.set_cons_succ] using h1):P:=h
theorem JD(h:P:=by unfold putV;rw[Ae O,Ae O,Ae O,Ae O]):P:=h
theorem Ws(h:P:=by obtain⟨s,t,hC⟩:=h;have:=pages_any w a.a t hC.2.1;rw[hC.2.2.2.n] at this;exact this):P:=h
theorem Ka(h:P:=by
 subst ea;rw[upZ_same];intro e;have:=hf.2 b e.symm;rw[Qf,hm] at this
 cases this):P:=h
theorem N2(h:P:=by rw[Dg,List.getLast?_eq_getElem?,AN]):P:=h
theorem Sa(h:P:=by
 rcases h.own q hq with r|r;·exact(h.z.2.2.1 q r).2
 ·have:=h.z.2.1 0 h.z.1;omega):P:=h
theorem N3(h:P:=by
 rcases hp k hk with e|e;·exact AW (h.pl k e) f.size
 ·exact e.2):P:=h
theorem Lg(h:P:=by intro i hi;simp only[AN];rw[Cw hi]):P:=h
theorem LZ(h:P:=by unfold moveX;rw[An h3];unfold upN;rw[Ae O,Ae O]):P:=h
theorem Od(h:P:=by rw[Go.ChangeMaps.map_eraseIdx];exact h.kd.sublist (List.eraseIdx_sublist _ _)):P:=h
theorem Wv(h:P:=by rw[h3,blkN_add,eM];exact wait_run hG iG hi hc k (8+pad) O O):P:=h
theorem My(h:P:=by rw[Di];exact AS (List.length_filter_le _ _) AB):P:=h
theorem Ju(h:P:=by
 subst e;obtain⟨h1,h2⟩:=h;clear hq;go_in
 go_wp2
 go_ret;exact⟨rfl,rfl⟩):P:=h
theorem Jn(h:P:=by
 rcases hp _ e with e|e;·exact h.uP.2 e
 ·have:=hl _ (Ah (Ag rfl));omega):P:=h
theorem Ra(h:P:=by
 clear hbz
 go_wp2
 go_meet;exact⟨_,T HX.out.1,T ⟨HX.out.2,HR3.out⟩⟩):P:=h
theorem T4(h:P:=by
 clear hlt
 go_wp2
 go_meet;exact⟨ct,e',T O,T O,hG,hF⟩):P:=h
theorem OL(h:P:=by obtain⟨m,hm⟩:=key n h;exact⟨m,by rw[Ae (by simp[q])];exact hm⟩):P:=h
theorem Ma(h:P:=by refine⟨⟨this.code,this.ld,this.lr,this.fl⟩, ?_, ?_⟩<;>simp[Lw.add]):P:=h
theorem PJ(h:P:=by
 generalize pl.reg n=x at*;clear e1;go_in
 go_wp2
 go_ret;exact⟨rfl,rfl⟩):P:=h
theorem FJ(h:P:=by exact⟨⟨o.pc,o.fl,o.rt,o.ve,o.ep,o.ca,o.ad,o.ct,o.d,o.r⟩,h1,h2,h3⟩):P:=h
theorem Lv(h:P:=by rwa[show(w.alloc (.cells cs t)).heap.size=w.heap.size+1 by simp] at this):P:=h
theorem MO(h:P:=by
 rintro e w' ⟨rfl,rfl⟩
 go_wp2
 go_ret2;exact⟨rfl,hP,h,Ao _ _⟩):P:=h
theorem SN(h:P:=by rw[V8,HSN.out];have:=HO.out;rw[←HCL.out] at this;exact this):P:=h
theorem NH(h:P:=by
 have D1:=T D1;clear hq
 go_wp2
 go_ret;exact⟨rfl,_,_,L1.out,D1.out⟩):P:=h
theorem Lt(h:P:=by have e:=Jk;exact Ah O):P:=h
theorem Ww(h:P:=by
 cases A2 with
 |none=>cases e
 |some a=>simpa[Bp,ab] using e):P:=h
theorem Sh(h:P:=by
 rcases last_mem h.ne i hi with q|q;·exact h.ends i q
 ·rw[q];exact e1):P:=h
theorem N1(h:P:=by
 cases A
 ·simp[Bp] at h
 ·simpa[Bp,ab] using h):P:=h
theorem Nq(h:P:=by
 go_in
 go_wp2
 go_ret;exact⟨rfl,AH _ _ _,(Ao _ _).alloc _⟩):P:=h
theorem RN(h:P:=by rw[Ix (by simpa using hh)] at e;exact absurd e (by simp[eL,ab])):P:=h
theorem Jm(h:P:=by
 rcases hp _ e with e|e;·exact h.uP.1 e
 ·have:=hl _ (Ag rfl);omega):P:=h
theorem Qg(h:P:=by rw[Cf _ _ ea];exact h.reg a b hab O O hm hp):P:=h
theorem IW(h:P:=by
 rintro e w' ⟨rfl,rfl⟩
 go_wp2
 go_ret;exact⟨rfl,h,Ao _ _⟩):P:=h
theorem GJ(h:P:=by exact Cells.new' w _ _ n _ (by rw[e];apply List.ext_getElem<;>simp)):P:=h
theorem PM(h:P:=by exact epost_le (EPost.of (Elk.refl w p) H.out) AB O):P:=h
theorem Su(h:P:=by show(⟨_,Aa,Aa,turnN g.calm.b.ms 64,g.calm⟩:Rz)=_;congr 1):P:=h
theorem N4(h:P:=by
 rcases k.it i hi with e|e;·exact h.it i e
 ·exact CQ):P:=h
theorem Nr(h:P:=by
 go_in
 go_wp2
 go_end0;exact⟨rfl,Blk.set_ h 0 _,Bc _ _ _ _⟩):P:=h
theorem Q4(h:P:=by rw[ex];exact own_fr hown f2 (λk hk e=>hgA BO)):P:=h
theorem KS(h:P:=by
 go_wp2
 go_meet;refine⟨_,rfl,T ?_,rfl⟩;rw[hq1,HQ3.out];try rfl):P:=h
theorem Nx(h:P:=by
 rcases hp k e with e|e;·exact(h2 k hk).1 e
 ·have:=h3 k hk;omega):P:=h
theorem OT(h:P:=by exact HAll.nil.cons (ok_hld hr O O O)):P:=h
theorem Qu(h:P:=by show lwF _ _ _ _ _ _=lwF _ _ _ _ _ _;dsimp only;rw[hl,v1,v2];rfl):P:=h
theorem Q5(h:P:=by go_meet;exact⟨_,HX.out.1.le O,HP.out.2.tr HX.out.2⟩):P:=h
theorem Oj(h:P:=by obtain⟨F,h1,h2,h3⟩:=h;rw[h1.cell _ O,h3 q hq c hc]):P:=h
theorem Jq(h:P:=by refine Dn.fr0 ?_ ((Ao Aj _).drewN _);have:=hL.1;exact this):P:=h
theorem RY(h:P:=by
 rcases q2 k hk with r|r;·exact p2 k r
 ·exact CQ):P:=h
theorem RZ(h:P:=by
 rcases q4 k hk with r|r;·exact p2 k r
 ·exact CQ):P:=h
theorem OX(h:P:=by obtain⟨he,p',h1,h2,h3⟩:=h;exact⟨he,p',h1,h2.le hb,h3⟩):P:=h
theorem Tu(h:P:=by
 rw[hv] at e;have:g'=q:=by simpa[Bp] using e
 omega):P:=h
theorem Nv(h:P:=by
 go_wp2
 go_ret2;exact⟨rfl,h.drewN _,(Ao _ _).drewN _⟩):P:=h
theorem Ns(h:P:=by
 clear hd hs;go_in
 go_wp2
 go_ret;exact⟨rfl,h,Ao _ _⟩):P:=h
theorem Pt(h:P:=by intro z hz;obtain⟨j,_,rfl⟩:=Bo.1 hz;exact hm _):P:=h
theorem SR(h:P:=by have:=hlook W f;unfold lk at this;rw[hf] at this;exact this):P:=h
theorem MA(h:P:=by unfold heldN;rw[DB,List.filter_append];simp[h]):P:=h
theorem Nb(h:P:=by unfold turnN;rw[DB,List.filter_append];simp[h]):P:=h
theorem MM(h:P:=by
 rintro e w' ⟨rfl,rfl⟩
 go_wp2
 go_ret2;exact⟨rfl,rfl⟩):P:=h
theorem Fx(h:P:=by
 rintro e w' ⟨rfl,rfl⟩
 go_wp2
 go_ret;exact⟨rfl,rfl⟩):P:=h
theorem Qi(h:P:=by subst e;rw[upZ_same,upZ_same];exact Ah ⟨rfl,hf.1,hr⟩):P:=h
theorem S6(h:P:=by
 rcases q with q|q|q;·omega
 ·have:=hown _ q;omega
 ·omega):P:=h
theorem Of(h:P:=by unfold kept;rw[DB,List.filter_append];simp[h]):P:=h
theorem Tq(h:P:=by
 go_wp2
 go_meet;refine⟨_,rfl,T ?_,rfl⟩;rw[G1.out];rfl):P:=h
theorem Sn(h:P:=by
 rcases hk with e|e;·exact p2 k e
 ·exact CQ):P:=h
theorem Wx(h:P:=by rw[List.getElem?_toArray,hat];show mk L[j].1=mk x;rw[h1]):P:=h
theorem Lz(h:P:=by
 clear h1 h2 h3;go_in
 go_wp2
 go_ret;exact⟨rfl,F1.out⟩):P:=h
theorem Tf(h:P:=by
 go_in
 go_wp2
 go_ret;exact⟨rfl,(Ao _ w).alloc _⟩):P:=h
theorem FG(h:P:=by
 go_in
 go_wp2
 go_ret;exact BPost.same H.out (Ao _ _)):P:=h
theorem SP(h:P:=by right;rw[Dv.1 hx] at e;exact HNA.out q e):P:=h
theorem GO(h:P:=by
 subst e;clear hq;go_in
 go_wp2
 go_ret;exact⟨rfl,rfl⟩):P:=h
theorem Oe(h:P:=by show(w1.heap.setIfInBounds r _)[r]?=_;rw[hr1];simp[hrl]):P:=h
theorem I9(h:P:=by
 unfold Addr.add;split;·rename_i h0;subst h0;rfl
 ·rfl):P:=h
theorem Ib(h:P:=by
 clear wa ws wm;go_in
 go_wp2
 go_ret;exact⟨rfl,rfl⟩):P:=h
theorem LG(h:P:=by rw[hx];simp[plainS,stackB,reckS,St.next,sizeI,shortB]):P:=h
theorem Np(h:P:=by
 go_in
 go_wp2
 go_ret;exact⟨rfl,hD,hM,Ao _ _⟩):P:=h
theorem Lu(h:P:=by rw[List.take_of_length_le O] at h2;exact h2):P:=h
theorem NF(h:P:=by
 go_in
 go_wp2
 go_ret;exact⟨rfl,_,_,L0.out,D0.out⟩):P:=h
theorem Kh(h:P:=by go_meet;exact⟨_,HQ.out.1.le O,HQ.out.2⟩):P:=h
theorem Ih(h:P:=by
 rintro e w' ⟨rfl,HQ⟩
 go_wp2
 go_end0;exact HQ.out):P:=h
theorem GI(h:P:=by
 rw[e];clear e;go_in
 go_wp2
 go_ret;exact⟨rfl,rfl⟩):P:=h
theorem Ow(h:P:=by unfold putV;rw[Ae O,Ae O]):P:=h
theorem MK(h:P:=by unfold mayTake;rw[Uj hO,hO];simpa using hr):P:=h
theorem Oc(h:P:=by rw[List.length_eraseIdx,List.length_eraseIdx,h.len]):P:=h
theorem MD(h:P:=by
 have HG:=T hG;clear hG
 go_wp2
 go_ret;exact HG.out):P:=h
theorem On(h:P:=by obtain⟨F,h1,h2⟩:=h;exact⟨F,h1.fr fr hn,h2⟩):P:=h
theorem Po(h:P:=by rw[Ae h16,Ae h17,Ae h18,Ae h19,hs]):P:=h
theorem PX(h:P:=by
 clear em hm;go_in
 go_wp2
 go_ret;exact⟨rfl,rfl⟩):P:=h
theorem Md(h:P:=by rw[e];simpa[Dg] using this):P:=h
theorem Kb(h:P:=by exact h.slot a b hab O O hm hp):P:=h
theorem Gb(h:P:=by
 clear hb;go_in
 go_wp2
 go_ret;exact⟨rfl,rfl⟩):P:=h
theorem NV(h:P:=by rw[List.find?_eq_none.2 (λp hp=>h p hp)];rfl):P:=h
theorem FL(h:P:=by
 clear hq;go_in
 go_wp2
 go_ret;exact⟨rfl,rfl⟩):P:=h
theorem OK(h:P:=by exact⟨n,by rw[An (by simp[q])];exact h⟩):P:=h
theorem RQ(h:P:=by
 go_wp2
 go_ret;exact⟨by rw[E1.out];rfl,rfl⟩):P:=h
theorem N6(h:P:=by
 clear h;go_in
 go_wp2
 go_ret;exact⟨rfl,rfl⟩):P:=h
theorem IH(h:P:=by show c.d.dropLast.length=c.d.length -1+0;simp):P:=h
theorem LE(h:P:=by show c.r.dropLast.length=c.r.length -1+0;simp):P:=h
theorem Nu(h:P:=by exact⟨rfl,Blk.set_ h 0 _,Bc _ _ _ _⟩):P:=h
theorem EV(h:P:=by
 rw[hb];go_in
 go_wp2
 go_ret;exact⟨rfl,rfl⟩):P:=h
theorem Pa(h:P:=by rw[Cw O];simp):P:=h
theorem OQ(h:P:=by rw[An O,Ae c];congr 2;omega):P:=h
theorem KR(h:P:=by
 clear hq
 go_wp2
 go_meet;exact⟨_,rfl,HQ⟩):P:=h
theorem IL(h:P:=by
 unfold stackS
 repeat' split
 all_goals rfl):P:=h
theorem GM(h:P:=by exact Ag (Ag (Ah (Ah (Ag e))))):P:=h
theorem Jc(h:P:=by
 go_in
 go_wp2
 go_ret2;exact⟨rfl,rfl⟩):P:=h
theorem Cr(h:P:=by
 go_in
 go_wp2
 go_ret;exact⟨rfl,rfl⟩):P:=h
theorem KU(h:P:=by exact⟨rfl,(Ao _ w).alloc _⟩):P:=h
theorem IF(h:P:=by
 go_wp2
 go_ret;exact⟨rfl,F1.out⟩):P:=h
theorem Kp(h:P:=by simp[AN,hi]):P:=h
theorem JG(h:P:=by exact Str.nil.cons (str_hld _ _ _)):P:=h
theorem Io(h:P:=by exact Ag (Ah (Ah (Ag e)))):P:=h
theorem KD(h:P:=by exact Ag (Ah (Ah (Ag q)))):P:=h
theorem Wy(h:P:=by obtain⟨s,t,hC⟩:=h;exact hC.c1):P:=h
theorem Jo(h:P:=by exact Ag (Ag (Ah (Ag e)))):P:=h
theorem HH(h:P:=by rw[e2] at e;exact Ag (own_ab e)):P:=h
theorem Kc(h:P:=by exact Ag (Ah (Ah (Ah e)))):P:=h
theorem Iz(h:P:=by exact wf_u8_mk this.1 O):P:=h
theorem KA(h:P:=by exact Ag (Ah ⟨x,hx,e⟩)):P:=h
theorem IX(h:P:=by simp[zeroValue,typeInfo,hi,h']):P:=h
theorem JY(h:P:=by exact Ag EY):P:=h
theorem Jz(h:P:=by go_ret;exact⟨rfl,F2.out⟩):P:=h
theorem DC(h:P:=by exact⟨O,O⟩):P:=h
theorem Jd(h:P:=by exact⟨rfl,HM.out,FR.out⟩):P:=h
theorem KE(h:P:=by subst this;exact srt_blk hb):P:=h
theorem FI(h:P:=by exact Ag (Ag (Ag e))):P:=h
theorem EA(h:P:=by exact Ag (Ah (Ag e))):P:=h
theorem CQ(h:P:=by exact Ah O):P:=h
theorem GF(h:P:=by rw[Ae O]):P:=h
theorem Fs(h:P:=by split<;>split<;>omega):P:=h
theorem Ee(h:P:=by exact Ag (Ag e)):P:=h
theorem O4(h:P:=by exact show Blk ((w.alloc (.cells #[J V k.1,J V k.2] 103)).alloc (.cells #[J V 0,J V 0,U G 0 0,J Z 0] 136)) (w.alloc (.cells #[J V k.1,J V k.2] 103)).heap.size 136 #[J V 0,J V 0,U G 0 0,J Z 0] from AH _ _ _):P:=h
theorem SG(h:P:=by exact show Hid (brC pg ((l.length+(flsC pg pl).length+6:Nat):Int)=[hld 11 15 1,li 12 (jumpV pg.br),hop 5 11 11 12,⟨if pg.br=34 then 17 else 16,0,11,0,((l.length+(flsC pg pl).length+6:Nat):Int)⟩,li 9 pg.tk]) from T (by unfold brC;rw[Ae (by omega)])):P:=h
theorem O2(h:P:=by exact show (w.alloc (.cells #[] 5)).ownsRow ↑w 5 1 (U (I ⟨↑w,0,G⟩) 0 0) 0 [] from ⟨rfl,Ah ⟨↑w,0,#[],rfl,AE _,AH _ _ _,AE _,DT,rfl,rfl⟩⟩):P:=h
theorem Q6(h:P:=by exact show W0.cell? ⟨g,14,G⟩=I (U D m cd) from (HP.out.1.b.cell 14 O).trans (by show I (U D (x.popD.popD).ld.length cd)=_;rw[hm])):P:=h
theorem Ri(h:P:=by exact show (w.alloc (.cells #[J Z 0,J V 0] 26)).cell? ⟨b,off,G⟩=I (J AC o) from (World.cell?_alloc_lt w _ ⟨b,off,G⟩ hb).trans hc):P:=h
theorem Ta(h:P:=by exact show ((w.alloc (.cells (stc s (U A0 s.d.length c0) (U B0 s.r.length d0)) 41)).alloc (.cells z16 41)).heap.size=w.heap.size+2 by simp):P:=h
theorem Px(h:P:=by exact show ((w.alloc (.cells (stc S (U A S.d.length c) (U B S.r.length d)) 41)).alloc (.cells z16 41)).heap.size=w.heap.size+2 by simp):P:=h
theorem OC(h:P:=by exact show Holds pl s1 (at_ p.code k).b (val s p.code (at_ p.code k).b) from (E.v _ hb ub).keep fb (λj hj=>k1 j O) (λj _=>by rw[m1])):P:=h
theorem Kk(h:P:=by exact show ∀(fn:Fn) (first cp:AL) (W:Ac),(Instr.makeFunc fn first cp).run Tryz.prog W=.ok (.func fn first cp) W from λ_ _ _ _=>rfl):P:=h
theorem SX(h:P:=by exact show IntsAt AC w2 ↑w2 (I ⟨bb,off,G⟩) n0 b from (HBI.out.fr HF2.out hB (λ_ _ e=>e)).more (AS hB HF2.out.size)):P:=h
theorem Kn(h:P:=by exact show wr.cell? ⟨↑w,0,G⟩=I (U C N cc) from (bpw.cell 0).trans TH):P:=h
theorem QC(h:P:=by exact show wr.cell? ⟨↑w,0,G⟩=I (U C N cc) from (bp.cell 0).trans TH):P:=h
theorem JE(h:P:=by exact show Blk (w.alloc (.cells #[J V k.1,J V k.2] 103)) ↑w 103 #[J V k.1,J V k.2] from AH _ _ _):P:=h
theorem Pi(h:P:=by exact show (w2.setCell ⟨p.gm,rd,G⟩ (J AM v)).drew.cell? ⟨gt,1,G⟩=I (J Z (rd:Int)) from cell_far x1 hne):P:=h
theorem Fd(h:P:=by exact show Blk (w.alloc (.cells #[J Z op,J V n] 26)).drew ↑w 26 #[J Z op,J V n] from AH _ _ _):P:=h
theorem SJ(h:P:=by exact show w10.cell? ⟨p.g,11,G⟩=I (J V pg.tk) by rw[←HQ.out.tk];exact E10.out.b.cell 11 (by omega)):P:=h
theorem TC(h:P:=by exact show W0.cell? ⟨g,14,G⟩=I (U D m cd) from (HP.out.1.b.cell 14 O).trans (by rw[←hm,hl];rfl)):P:=h
theorem Qq(h:P:=by exact show (x.add op a b imm).code.length=m+1 by show(x.code++[_]).length=_;rw[BJ,HM.out];rfl):P:=h
theorem SE(h:P:=by exact show w9.cell? ⟨p.g,17,G⟩=I (U L9 len9 lc9) by rw[←hlen9];exact E9.out.b.cell 17 (by omega)):P:=h
theorem OD(h:P:=by exact show s2.g (getR pl (at_ p.code k).a 7)=val s p.code (at_ p.code k).a by rw[k2 _ (by omega)];exact g1):P:=h
theorem Ml(h:P:=by exact show ∀k,k≠10→k≠11→k≠12→s3.g k=s2.g k from λk c1 c2 c3=>by rw[k3 k c1 c2 c3];simp only[upZ,Ae c2]):P:=h
theorem Fe(h:P:=by exact show Fr Aj w (w.alloc (.cells #[J Z op,J V n] 26)).drew from ((Ao _ w).alloc _).drew):P:=h
theorem SH(h:P:=by exact show Hid (((l.length+(flsC pg pl).length+6:Nat):Int)=(len9:Int)+2) from T (by rw[←hlen9];simp;omega)):P:=h
theorem NA(h:P:=by exact show decide ((16:Int)<(s.d.length:Int) -(Gs.takeD 66:Int)+(Gs.putD 66:Int))=Aa by simp;omega):P:=h
theorem NB(h:P:=by exact show decide ((16:Int)<(s.d.length:Int) -(Gs.takeD 67:Int)+(Gs.putD 67:Int))=Aa by simp;omega):P:=h
theorem T9(h:P:=by exact show decide ((16:Int)<(s.d.length:Int) -(Gs.takeD op:Int)+(Gs.putD op:Int))=Aa by simp;omega):P:=h
theorem Pu(h:P:=by exact show Hid (∀k,Em.ab p.A=I k→k<w.heap.size) from T (λk e=>own_lt h.code k (ab_own h.code e))):P:=h
theorem RU(h:P:=by exact show Fr (λq=>q=e.gm) w4 w6 from (F5.out.trans F6.out (λ_ _ e=>e)).mono (λ_ _ e=>e.elim)):P:=h
theorem O5(h:P:=by exact show (w.alloc (.cells #[J V k.1,J V k.2] 103)).heap.size=w.heap.size+1 by simp):P:=h
theorem Oz(h:P:=by exact show (Bm n).getD q 0=q by simp[AN,DL hq]):P:=h
theorem Je(h:P:=by exact show At Tryz.prog 70 #[↑a.a.gt] w λe w'=>e=Ax (J Z m.n)∧w=w' from Ws):P:=h
theorem OO(h:P:=by exact show (left p s (evs s p.code)).d.length=s.d.length -p.nd+p.od.length by unfold left;simp):P:=h
theorem OP(h:P:=by exact show (left p s (evs s p.code)).r.length=s.r.length -p.nr+p.or.length by unfold left;simp):P:=h
theorem Sq(h:P:=by exact show (Ms.new n).load zs=(Ms.new n).puts 0 zs zs.length by unfold Ms.load;exact An h):P:=h
theorem Sz(h:P:=by exact show blkN 2 St.new (mc0 1 awakeL [])=⟨{St.new with pc:=12,ct:=4,ha:=Af},g2⟩ from Wp):P:=h
theorem Tz(h:P:=by exact show ∀k,k≤1000→blkN (3+(M+k)) St.new g=⟨atS (22+pad) (8+pad+k),Bv⟩ from λk hk=>Wv):P:=h
theorem MY(h:P:=by exact show frV t ((i/64:Nat):Int)=0 by rw[frV,Ae (by rw[q1];exact Da)]):P:=h
theorem Qc(h:P:=by exact show Fr Aj w (w.alloc (.cells (pgA p ⟨C,cc,D,cd,R,cr⟩) 215)) from (Ao _ w).alloc _):P:=h
theorem Sl(h:P:=by exact show ∀k,ab X'=I k∨ab Y'=I k→w.heap.size≤k∧k<w'.heap.size from λk hk=>Wo):P:=h
theorem Ot(h:P:=by exact show Hid (a+1=(kept p (b+1)).length) from T (by rw[e1,BJ,HA.out];rfl)):P:=h
theorem Pw(h:P:=by exact show ∀q,(q=p.gm∨q=p.gw∨Em.ab p.A=I q)→ ¬(q=w.heap.size) from λq hq e=>Wr):P:=h
theorem IJ(h:P:=by exact show w.one0 ⟨38,n⟩ next=(w.add 0 0 0 next).pushR w.code.length by simp[Lw.one0]):P:=h
theorem P9(h:P:=by
 exact show fetchR g.b.ms p=I (i,b.length) by
  unfold fetchR;rw[An p1];exact hdec):P:=h
theorem QQ(h:P:=by exact show wo.cell? ⟨gs,0,G⟩=I (U (I ⟨gR,0,G⟩) N N) from hSc.out.b.cell 0):P:=h
theorem SI(h:P:=by exact show IntKind.u32.wrap ((len9:Int)+2)=(len9:Int)+2 by rw[DH];omega):P:=h
theorem SY(h:P:=by exact show ∀q,w.heap.size≤q→ ¬e.own ge q from λq hq r=>by have:=H.out.own_lt q r;omega):P:=h
theorem Pz(h:P:=by exact show Fr Aj w5 W6 from ((Ao Aj w5).alloc _).trans F6.out (λk hk e=>O)):P:=h
theorem QV(h:P:=by exact show ∀q,(U A' m c').ownBlock=I q→W6.heap.size≤q from own_base hO.out):P:=h
theorem Si(h:P:=by
 exact show bs.length≤64 -(p%64).toNat by
  have:=hpre.length_le;rwa[Ig] at this):P:=h
theorem RG(h:P:=by exact show s.set b={s.unlink b.k with bl:=s.bl.set i b} by unfold Cs.set;rw[hto]):P:=h
theorem SF(h:P:=by exact show len9≤70000 by rw[←hlen9];have:=E9.out.len.1;dsimp only at this⊢;omega):P:=h
theorem Ty(h:P:=by exact show ∀k,blkN (3+k) St.new g=blkN k (atS 22 7) Bv from λk=>by rw[blkN_add,b3]):P:=h
theorem Ll(h:P:=by exact show CA o (yielded ops a.tmps)=Af by simp[CA,hgd]):P:=h
theorem Nk(h:P:=by exact show cs.toList[i]?=I (f i) by rw[CN];exact hat i hi):P:=h
theorem NX(h:P:=by exact show (((ents mk L bs).toArray[j]?).map (·.key)).getD (mk x)=mk x from Wx):P:=h
theorem Sy(h:P:=by exact show blkN 1 St.new (mc0 1 awakeL [])=⟨{St.new with pc:=11,ct:=3},g1⟩ from e1.1):P:=h
theorem Tt(h:P:=by exact show CA o (yielded ops ac.tmps)=Af by simp[CA,hg]):P:=h
theorem GW(h:P:=by exact show CA o (yielded ops a.tmps)=Af by simp[CA,hg]):P:=h
theorem Ru(h:P:=by exact show bs.getD j 0∈seen.push bs[j] by simp[AN,hjb]):P:=h
theorem Qr(h:P:=by exact show w.cell? ⟨p.g,15,G⟩=I (J Z x.nd) from h.b.cell 15 O):P:=h
theorem Q0(h:P:=by exact show w.cell? ⟨p.g,19,G⟩=I (J Z x.nr) from h.b.cell 19 O):P:=h
theorem TB(h:P:=by exact show m≤2000 by rw[←hm,hl];exact AS HP.out.1.k.ld (by omega)):P:=h
theorem MX(h:P:=by exact show frB t ((i/64:Nat):Int)=Aa by simp only[frB_iff t hlt,hx];rfl):P:=h
theorem MZ(h:P:=by exact show frB t ((i/64:Nat):Int)=Af by rw[frB_iff t hlt];simpa using hx):P:=h
theorem PE(h:P:=by exact show op=16∨op=17∨op=18∨op=19∨op=20∨op=21∨op=22∨op=23∨op=25 by omega):P:=h
theorem SC(h:P:=by exact show IntKind.u32.wrap (k:Int)=(k:Int) by rw[DH];omega):P:=h
theorem Ou(h:P:=by exact show ∀W,Fr (· =g) w2 W→BC (b+1) W from λW f=>HST.out _ _ _ HI2.out f):P:=h
theorem PP(h:P:=by exact show IntKind.u32.wrap (64+pl.slot n)=slotA pl n from DH _):P:=h
theorem Kf(h:P:=by exact show m≤2000 by rw[←hm];exact AS HP.out.1.k.ld (by omega)):P:=h
theorem LH(h:P:=by exact show w.one0 ⟨39,n⟩ next={w.popR with tg:=w.topR} by simp[Lw.one0]):P:=h
theorem LL(h:P:=by exact show w.one0 ⟨40,n⟩ next={w.popD with tg:=w.topD} by simp[Lw.one0]):P:=h
theorem PT(h:P:=by exact show mostV high need out=16+(need:Int) -out by unfold mostV;omega):P:=h
theorem IC(h:P:=by exact show news=[] from List.eq_nil_of_length_eq_zero (by simpa using hr.1)):P:=h
theorem Rj(h:P:=by exact show size≤n by have:=hP.out.pn.le;rw[H.out.1] at this;exact this):P:=h
theorem I3(h:P:=by exact show Fr Aj wc (wc.alloc (.cells zB 136)) from (Ao _ wc).alloc _):P:=h
theorem I6(h:P:=by exact show Fr Aj wc (wc.alloc (.cells zR 145)) from (Ao _ wc).alloc _):P:=h
theorem Tl(h:P:=by exact show IntKind.u32.wrap (sz:Int)=sz by rw[DH];omega):P:=h
theorem MH(h:P:=by exact show Fr (λk=>k=g) w w1 from ((Ao _ w).drew).tr (Fr.none f5)):P:=h
theorem PN(h:P:=by exact show 0≤pl.slot n∧pl.slot n≤64 by rcases hform with e|e<;>omega):P:=h
theorem JX(h:P:=by exact show w.cell? ⟨p.g,14,G⟩=I (Q 14) from h.b.cell 14 O):P:=h
theorem PK(h:P:=by exact show w.cell? ⟨p.g,15,G⟩=I (Q 15) from h.b.cell 15 O):P:=h
theorem PV(h:P:=by exact show mostV high need out=16 -(high:Int) by unfold mostV;omega):P:=h
theorem QL(h:P:=by exact show IntKind.u64.wrap (y:Int)=y by rw[Dk];omega):P:=h
theorem Py(h:P:=by exact show Blk (w5.alloc (.cells z16 41)) ↑w5 41 z16 from AH _ _ _):P:=h
theorem Rx(h:P:=by exact show E.getD j dE=E[j] by simp[AN,hj]):P:=h
theorem Sj(h:P:=by exact show 0<bs.length from CP.2 (h.enc.nonempty h.ne)):P:=h
theorem MP(h:P:=by exact show Tab w1 a t from Tab.fr (Tab.drew h) f1 (λk hk=>hne k hk)):P:=h
theorem Oa(h:P:=by exact show del L x=L.eraseIdx j by rw[←h1];exact del_at h.kd j hj):P:=h
theorem JO(h:P:=by exact show w2.drew.cell? ⟨gt,1,G⟩=I (J Z (rd:Int)) from x1):P:=h
theorem PZ(h:P:=by exact show IntKind.u64.wrap imm=imm by rw[Dk];omega):P:=h
theorem Nj(h:P:=by exact show i<cs.toList.length by simpa using(by omega:i<cs.size)):P:=h
theorem NO(h:P:=by exact show x.s.d.length≤16∧x.s.r.length≤16 from ⟨hr.k.2.1,hr.k.2.2.1⟩):P:=h
theorem JW(h:P:=by exact show base≤↑w from Nat.le_of_lt (Nat.lt_of_le_of_lt h.g0 h.b.lt)):P:=h
theorem Ji(h:P:=by exact show doD d m s at_ c=d by rw[doD,Ae (by rw[hb];simp)]):P:=h
theorem Jj(h:P:=by exact show doM d m s at_ c=m by rw[doM,Ae (by rw[hb];simp)]):P:=h
theorem PY(h:P:=by exact show IntKind.i64.wrap imm=imm from Du _ O):P:=h
theorem GT(h:P:=by exact show decide (s.d.length<Gs.takeD 66)=Aa by simp;omega):P:=h
theorem J2(h:P:=by exact show decide (s.r.length<Gs.takeR 66)=Aa by simp;omega):P:=h
theorem GU(h:P:=by exact show decide (s.d.length<Gs.takeD 67)=Aa by simp;omega):P:=h
theorem J6(h:P:=by exact show decide (s.r.length<Gs.takeR 67)=Aa by simp;omega):P:=h
theorem Fh(h:P:=by exact show W0.cell? ⟨↑w,0,G⟩=I (J Z op) from hbx.cell 0):P:=h
theorem QE(h:P:=by exact show Fr Aj wr W1 by rw[←hW1];exact(Ao _ wr).alloc _):P:=h
theorem SM(h:P:=by exact show Fr Aj w4 wq by rw[←hwq];exact(Ao _ w4).drewN _):P:=h
theorem I1(h:P:=by exact show (U A2 (sn+1) c2).ownBlock=I q from Ww):P:=h
theorem I8(h:P:=by exact show decide (s.d.length<Gs.takeD op)=Aa by simp;omega):P:=h
theorem KY(h:P:=by exact show decide (s.r.length<Gs.takeR op)=Aa by simp;omega):P:=h
theorem Nd(h:P:=by exact show decide (va<(u.m.n:Int)*64)=Aa by simpa using hp):P:=h
theorem Ni(h:P:=by exact show (zs.map (J k)).length=n by simpa using hlz):P:=h
theorem PA(h:P:=by exact show (plainS s i).pc=s.pc+b.length by rw[hpi,←n3];omega):P:=h
theorem Fi(h:P:=by exact show W0.cell? ⟨↑w,1,G⟩=I (J V n) from hbx.cell 1):P:=h
theorem JU(h:P:=by exact show (p+(b.length:Int))%4294967296=p+b.length by omega):P:=h
theorem Jy(h:P:=by exact show IntKind.i64.wrap n=n from Du _ O):P:=h
theorem IE(h:P:=by exact show decide ((s.d.length:Int)≤16)=Af by simp;omega):P:=h
theorem Ly(h:P:=by exact show decide ((s.r.length:Int)≤16)=Af by simp;omega):P:=h
theorem Jf(h:P:=by exact show w.cell? ⟨a.gm,1,G⟩=I ↑a.a.gt from Wy):P:=h
theorem JB(h:P:=by exact show decide ((q:Int)<(n:Int))=Af by simp;omega):P:=h
theorem GB(h:P:=by exact show tmps[q]?.getD Bt=↑g' by simpa using hq):P:=h
theorem IZ(h:P:=by exact show s.promise o n=s by simp[Pl.promise,e1]):P:=h
theorem Jk(h:P:=by exact show ↑w=k by simpa[Bp] using hk):P:=h
theorem Jl(h:P:=by exact show g1=k by simpa[Bp] using hk):P:=h
theorem GQ(h:P:=by exact show q=Aa by rw[←hq];simp[plainB];omega):P:=h
theorem Ff(h:P:=by exact show w.heap.size≤w.heap.size from AE _):P:=h
theorem Ja(h:P:=by exact show decide (n<0)=Aa by simpa using hn):P:=h
theorem Jt(h:P:=by exact show q=Aa by rw[←hq];simp[endsB];omega):P:=h
theorem Jw(h:P:=by exact show q=Af by rw[←hq];simp[plainB];omega):P:=h
theorem JJ(h:P:=by exact show decide (n≥0)=Af by simpa using h0):P:=h
theorem GP(h:P:=by exact show decide (op≤40)=Aa by simp;omega):P:=h
theorem Jx(h:P:=by exact show decide (op≤25)=Aa by simp;omega):P:=h
theorem Kj(h:P:=by exact show decide ((q:Int)= -1)=Aa by simp):P:=h
theorem GR(h:P:=by exact show decide (op≤8)=Aa by simp;omega):P:=h
theorem Kv(h:P:=by exact show ((n:Int)==0)=Aa by simp;omega):P:=h
theorem JP(h:P:=by exact show 4096 -k=(4096 -k -1)+1 by omega):P:=h
theorem Fg(h:P:=by exact show w.heap.size<W0.heap.size from hbx.lt):P:=h
theorem Kz(h:P:=by exact show (idx b.k s.bl).toNat=i by omega):P:=h
theorem IK(h:P:=by exact show s=c by simpa[plainAll] using h):P:=h
theorem J7(h:P:=by exact show j<L.length by simpa using hj):P:=h
theorem Ki(h:P:=by exact show ((q:Int)== -1)=Aa by simp):P:=h
theorem JC(h:P:=by exact show (0:Int)≤(q:Int) by omega):P:=h
theorem Fk(h:P:=by exact show base≤↑W0 from HP.out.1.hb):P:=h
theorem O(h:P:=by omega):P:=h
theorem BI(h:P:=by intro W hSw;have k0:=hSw.cell s0 lgs id;have k1:=hSw.cell s3 lgs id;have k2:=hSw.cell rj lgR id;have k3:=hSw.cell mq lgi id;have k4:=hSw.cell e0 lo id;have k5:=hSw.cell e1 lo id;have k6:=hSw.cell e2 lo id;have k7:=hSw.cell d0 l12 id;have k8:=hSw.cell d1 l12 id;have k9:=hSw.cell d2 l12 id;go_simp;try with_reducible rfl):P:=h
theorem Cv(h:P:=by intro W hSw;have k0:=hSw.cell s0 hsl2 id;have k1:=hSw.cell j0 hil id;have k2:=hSw.cell j1 hil id;have k3:=hSw.cell j2 hil id;have k4:=hSw.cell n0 hil id;have k5:=hSw.cell n1 hil id;have k6:=hSw.cell n2 hil id;go_simp;try with_reducible rfl):P:=h
theorem Cl(h:P:=by intro W hSw;have k15:=hSw.cell c15w cgl hne3;have k16:=hSw.cell c16w cgl hne3;have k19:=hSw.cell c19w cgl hne3;have k20:=hSw.cell c20w cgl hne3;have kl:=AW cgl hSw.size;go_simp;try with_reducible rfl):P:=h
theorem CS(h:P:=by intro W hSw;have k0:=hSw.cell s0 lgs id;have k1:=hSw.cell s3 lgs id;have k2:=hSw.cell rj lgR id;have k3:=hSw.cell mq lgi id;have k4:=hSw.cell e0 lo id;have k5:=hSw.cell e1 lo id;have k6:=hSw.cell e2 lo id;have k7:=hSw.cell d0 l12 id;have k8:=hSw.cell d1 l12 id;have k9:=hSw.cell d2 l12 id;go_simp):P:=h
theorem Ak(h:P:=by decide):P:=h
theorem Dx(h:P:=by intro W hSw;have p0:=hSw.cell s0 k0 id;have p1:=hSw.cell s1 k1 id;have p2:=hSw.cell s2 k2 id;have p3:=hSw.cell s3 k2 id;have q0:=AW k0 hSw.size;have q1:=AW k1 hSw.size;have q2:=AW k2 hSw.size;go_simp;try with_reducible rfl):P:=h
theorem Cq(h:P:=by intro W hSw;have r0:=hSw.cell k0 kl nk;have r1:=hSw.cell k1 kl nk;have q0:=AW kl hSw.size;go_simp;try with_reducible rfl):P:=h
theorem Dd(h:P:=by intro W hSw;have k0:=hSw.cell t7 htl7 (λe=>hgbx e);have k1:=hSw.cell pa hpl7 (λe=>hgpx e);have k2:=hSw.cell pb hpl7 (λe=>hgpx e);have kl:=AW zl hSw.size;go_simp;try with_reducible rfl):P:=h
theorem A8(h:P:=by simp;omega):P:=h
theorem Dz(h:P:=by intro W hSw;have p0:=hSw.cell s0 sl id;have p2:=hSw.cell k0 kl id;have p3:=hSw.cell k1 kl id;have q0:=AW sl hSw.size;have q1:=AW kl hSw.size;go_simp;try with_reducible rfl):P:=h
theorem Fq(h:P:=by intro W hSw;have p0:=hSw.cell s1 sl n0;have p2:=hSw.cell u0 ul n4;have p3:=hSw.cell u1 ul n4;have p4:=hSw.cell v0 vl n13;have p5:=hSw.cell v1 vl n13;have q0:=AW sl hSw.size;have q1:=AW ul hSw.size;have q2:=AW vl hSw.size;go_simp;try with_reducible rfl):P:=h
theorem Dw(h:P:=by intro W hSw;have k14:=hSw.cell d14 dgl hne3;have k18:=hSw.cell d18 dgl hne3;have kl:=AW dgl hSw.size;go_simp;try with_reducible rfl):P:=h
theorem DG(h:P:=by intro W hSw;have r16:=hSw.2.1.cell 16;have q16:=hSw.2.1.lt;have r0:=hSw.2.2.cell 0;have r1:=hSw.2.2.cell 1;have q0:=hSw.2.2.lt;go_simp;try with_reducible rfl):P:=h
theorem EL(h:P:=by intro W hSw;have k13:W.cell? ⟨↑w,13,G⟩=I (J Z N):=((B1.out.fr hSw id).cell 13).trans Kq;have kl:=(B1.out.fr hSw id).lt;go_simp;try with_reducible rfl):P:=h
theorem DO(h:P:=by intro W hSw;have p0:=hSw.cell s0 sl id;have p1:=hSw.cell s1 sl id;have hl:=HLm.out W hSw;have q0:=AW sl hSw.size;go_simp;try with_reducible rfl):P:=h
theorem AI(h:P:=by kernel_rfl):P:=h
theorem Dc(h:P:=by intro W hSw;have k0:=hSw.cell c0 hl0 hn3;have k1:=hSw.cell c1 hl0 hn3;go_simp;try with_reducible rfl):P:=h
theorem Gw(h:P:=by intro W hSw;have p0:=hSw.cell s0 sl n0;have p2:=hSw.cell x0 xl n9;have p3:=hSw.cell x1 xl n9;have p4:=hSw.cell x2 xl n9;have p5:=hSw.cell x3 xl n9;have q0:=AW sl hSw.size;have q1:=AW xl hSw.size;go_simp;try with_reducible rfl):P:=h
theorem AB(h:P:=by simp):P:=h
theorem Bh(h:P:=by simp[Act.eval,Act.put]):P:=h
theorem El(h:P:=by intro W hSw;have r0:=hSw.r.cell 0;have r1:=hSw.r.cell 1;have r2:=hSw.x.cell 3;have q0:=hSw.r.lt;have q1:=hSw.x.lt;go_simp;try with_reducible rfl):P:=h
theorem Ck(h:P:=by intro W hSw;go_simp;try with_reducible rfl):P:=h
theorem Gu(h:P:=by intro W hSw;have p0:=hSw.cell t0 tl id;have p2:=hSw.cell u0 ul id;have p3:=hSw.cell u1 ul id;have q0:=AW tl hSw.size;have q1:=AW ul hSw.size;go_simp;try with_reducible rfl):P:=h
theorem Bu(h:P:=by simp only[Br];omega):P:=h
theorem Ci(h:P:=by intro w;go_simp;try with_reducible rfl):P:=h
theorem Dy(h:P:=by intro X hSw;obtain⟨r0,r1,r2,q0⟩:=hSw;go_simp;try with_reducible rfl):P:=h
theorem Ea(h:P:=by intro W hSw;obtain⟨⟨r0,r2,r3,rl⟩,p0,p1,pl⟩:=hSw;go_simp;try with_reducible rfl):P:=h
theorem Fl(h:P:=by rw[AN,Bj hkl];exact BU hkl):P:=h
theorem BO(h:P:=by rw[own_ab hk,e]):P:=h
theorem AX(h:P:=by go_num):P:=h
theorem CU(h:P:=by rw[DH];omega):P:=h
theorem DY(h:P:=by rintro⟨h0,h1⟩;have:=HA.out _ h0 h1;omega):P:=h
theorem CL(h:P:=by simp[Value.oneCell']):P:=h
theorem Cp(h:P:=by simpa using h1):P:=h
theorem Ik(h:P:=by rw[AN,Bj hjl];exact BU hjl):P:=h
theorem C3(h:P:=by simpa using h):P:=h
theorem CE(h:P:=by simp only;omega):P:=h
theorem It(h:P:=by obtain⟨a1,a2,a3,a4,a5,a6,a7⟩:=HP.out.1.k;exact⟨a1,a2,a3,a4,a5,a6,a7⟩):P:=h
theorem Ir(h:P:=by obtain⟨a1,a2,a3,a4,a5,a6,a7⟩:=hk;constructor<;>(try dsimp only)<;>omega):P:=h
theorem KQ(h:P:=by intro W hSw;exact Al.take_ld (ldB hSw.s AP rfl sz16) rfl Bh):P:=h
theorem RK(h:P:=by rcases Nat.lt_or_ge g ↑w with h|h;exact h;rw[show w.cell? ⟨g,off+q*2+1,G⟩=G by simp[World.cell?,Array.getElem?_eq_none h]] at c1;cases c1):P:=h
theorem RJ(h:P:=by rcases Nat.lt_or_ge g ↑w with h|h;exact h;rw[show w.cell? ⟨g,off+q*2,G⟩=G by simp[World.cell?,Array.getElem?_eq_none h]] at c0;cases c0):P:=h
theorem EM(h:P:=by show ¬w.heap.size+1=w.heap.size;omega):P:=h
theorem IB(h:P:=by simpa[Lit.wf,IntKind.min,IntKind.max,IntKind.signed,IntKind.bits] using⟨h0,h1⟩):P:=h
theorem RO(h:P:=by rw[e] at hq;rw[HlA.out] at hq;have:=H5.out.srt.2.1;have h2:=hlr5.srt (by rw[HlA.out];exact hq);rw[this] at h2;simp at h2):P:=h
theorem Cz(h:P:=by simp at q):P:=h
theorem Ge(h:P:=by simp[lowC,bitC,signC,aluC,flagC,overC,hostO]):P:=h
theorem ES(h:P:=by simp[plainS,stackB,stackS,St.next]):P:=h
theorem Ny(h:P:=by show 0≤(s.ct+1)%18446744073709551616∧(s.ct+1)%18446744073709551616≤18446744073709551615;omega):P:=h
theorem Ew(h:P:=by simp[Bp] at hk):P:=h
theorem Gj(h:P:=by first|exact lastB hH|exact lastBd hH):P:=h
theorem EG(h:P:=by rcases e with e|e<;>omega):P:=h
theorem TE(h:P:=by have:=CH H1.out.d (.cells (fxV [v]).toArray 3);dsimp only at this;rwa[HM.out] at this):P:=h
theorem Gk(h:P:=by have:=HGU.out;show ¬↑w=gu;omega):P:=h
theorem DM(h:P:=by show 0<16;omega):P:=h
theorem Wz(h:P:=by with_unfolding_all rfl):P:=h
theorem CY(h:P:=by rw[e];simp):P:=h
theorem J8(h:P:=by rw[e];exact List.mem_map_of_mem (BU hj')):P:=h
theorem IP(h:P:=by rw[k3' a O O O];exact hx2):P:=h
theorem IQ(h:P:=by rw[k3' 9 O O O];exact v9'):P:=h
theorem FH(h:P:=by show(0:Int)≤4294967295;omega):P:=h
theorem J5(h:P:=by unfold fitV;rw[Ae O,Ae O]):P:=h
theorem J3(h:P:=by unfold fitV;rw[Ae O,An (Ag q3)]):P:=h
theorem J4(h:P:=by unfold fitV;rw[Ae O,An (Ah q4)]):P:=h
theorem Gn(h:P:=by have e:q=w.heap.size:=e;omega):P:=h
theorem Me(h:P:=by simp only[Lw.add,BJ,CK,Dp];omega):P:=h
theorem Li(h:P:=by simpa[Lit.wf,IntKind.min,IntKind.max,IntKind.signed,IntKind.bits] using h):P:=h
theorem Qx(h:P:=by unfold fxV;rw[List.dropLast_eq_take,List.map_take,hn,Nat.add_sub_cancel]):P:=h
theorem EC(h:P:=by have:=HA.out;omega):P:=h
theorem FY(h:P:=by rw[Dk];omega):P:=h
theorem I7(h:P:=by first|exact bqd|exact bqd.alloc _):P:=h
theorem EZ(h:P:=by show(0:Int)≤0;omega):P:=h
theorem RF(h:P:=by simp only[Di,List.length_range];rw[Nat.succ_mul];omega):P:=h
theorem Fo(h:P:=by have e:q=gp:=e;omega):P:=h
theorem Dh(h:P:=by simp[hj]):P:=h
theorem Gg(h:P:=by simp[oneC,makeC,HRD.out]):P:=h
theorem Mr(h:P:=by unfold putR;rw[Ae (by rintro⟨h1,h2⟩;simp at h2;omega)]):P:=h
theorem Rd(h:P:=by rw[HZ.out];unfold movI;rw[Ae O,C4]):P:=h
theorem Ei(h:P:=by simp[Cs.flush]):P:=h
theorem DT(h:P:=by simp[Br]):P:=h
theorem DU(h:P:=by simp[Lw.new]):P:=h
theorem EX(h:P:=by simp[World.setCell]):P:=h
theorem Pk(h:P:=by unfold hoV;rw[Ae h16,Ae h17,Ae h18,Ae h19,hs]):P:=h
theorem DZ(h:P:=by simp[Cs.new]):P:=h
theorem GX(h:P:=by rcases hw1 with rfl|rfl<;>rfl):P:=h
theorem Qo(h:P:=by show I (U p.C x.code.length p.cc)=_;rw[HM.out]):P:=h
theorem Kq(h:P:=by show I (J Z (p.code.length:Int))=_;rw[HN.out]):P:=h
theorem Ec(h:P:=by simp[Lw.one0]):P:=h
theorem N5(h:P:=by first|(show p.g≠↑w;omega)|(show p.g≠↑w2;exact hs3)):P:=h
theorem Kg(h:P:=by rw[←hm];exact CH HP.out.1.d _):P:=h
theorem EH(h:P:=by rw[own_ab hq,e]):P:=h
theorem Mn(h:P:=by rw[k4 k c2 c3 c4,k3' k c2 c3 c4];exact kk k c1 c2 c3 c4):P:=h
theorem QB(h:P:=by show I (J Z (p.code.length:Int))=_;rw[hN]):P:=h
theorem QU(h:P:=by show I (U C p.code.length cc)=_;rw[HN.out]):P:=h
theorem Ev(h:P:=by simpa using h0):P:=h
theorem Ez(h:P:=by simpa using hi):P:=h
theorem EB(h:P:=by simpa using hc):P:=h
theorem EK(h:P:=by simpa using hr):P:=h
theorem Is(h:P:=by rw[IntKind.wrap_i64];omega):P:=h
theorem EP(h:P:=by rw[h.n];decide):P:=h
theorem Kl(h:P:=by have:=HGV.out;show ¬↑w1<gv;omega):P:=h
theorem Gi(h:P:=by rw[HN.out];exact hlt):P:=h
theorem Mm(h:P:=by rw[k3' b O O O];exact hy2):P:=h
theorem TH(h:P:=by show I (U C p.code.length cc)=_;rw[hN]):P:=h
theorem JF(h:P:=by simp only[CK];omega):P:=h
theorem Mj(h:P:=by simp only[upZ,Dq,if_false];exact v2'):P:=h
theorem QH(h:P:=by rintro k hk ⟨h0,h1⟩;have:=HA.out _ h0 h1;omega):P:=h
theorem Mf(h:P:=by simp only[CK,Dp];omega):P:=h
theorem J0(h:P:=by unfold fitV;rw[An (Ag q1)]):P:=h
theorem J1(h:P:=by unfold fitV;rw[An (Ah q2)]):P:=h
theorem Ku(h:P:=by have:=hz.1;simpa using this.symm):P:=h
theorem WA(h:P:=by first|decide|(dsimp only;decide)):P:=h
theorem QN(h:P:=by first|exact q0|exact q0.alloc _|exact addBd q0 _):P:=h
theorem Gl(h:P:=by show ¬gb=gp;omega):P:=h
theorem Et(h:P:=by simp[Lw.add]):P:=h
theorem Ol(h:P:=by rw[Bn];exact h.cell q 0 hq O):P:=h
theorem Om(h:P:=by rw[Bn];exact h.cell q 1 hq O):P:=h
theorem Se(h:P:=by rw[h.cell];exact gtc_mid gp a A ge s X Y j v hv):P:=h
theorem EO(h:P:=by simp[Eo.new]):P:=h
theorem GD(h:P:=by show _≤max _ _;omega):P:=h
theorem Fc(h:P:=by simpa using hq):P:=h
theorem RI(h:P:=by have:=hcx.srt hq;rw[e,tg] at this;simp at this):P:=h
theorem Gp(h:P:=by simpa[ab] using e):P:=h
theorem Gq(h:P:=by rw[←e2];exact e):P:=h
theorem RH(h:P:=by have:=hr.srt hq;rw[e,tg] at this;simp at this):P:=h
theorem EY(h:P:=by simpa using e):P:=h
theorem Jv(h:P:=by rw[←hq];simp[superB];omega):P:=h
theorem Ov(h:P:=by have:=FB.out.size;simp[World.setCell];omega):P:=h
theorem O6(h:P:=by rw[nthB_at hil];exact BU hil):P:=h
theorem Iu(h:P:=by show ¬gb=↑w;omega):P:=h
theorem OE(h:P:=by rw[k1 15 O O];exact E.z):P:=h
theorem Db(h:P:=by rfl):P:=h
theorem EU(h:P:=by split<;>simp):P:=h
theorem I2(h:P:=by have:=HN9.out;omega):P:=h
theorem T2(h:P:=by intro W _;go_simp;try with_reducible rfl):P:=h
theorem KW(h:P:=by show ct≤1000000000;omega):P:=h
theorem Kx(h:P:=by have:=hlow _ hE _ e;omega):P:=h
theorem Fy(h:P:=by simpa using hp):P:=h
theorem Fz(h:P:=by simpa using hb):P:=h
theorem FU(h:P:=by simpa using hm):P:=h
theorem Gd(h:P:=by simpa using h2):P:=h
theorem Iv(h:P:=by have:=HG.out;omega):P:=h
theorem Rl(h:P:=by show ¬w.heap.size=w.heap.size+1;omega):P:=h
theorem ET(h:P:=by rw[e];omega):P:=h
theorem NW(h:P:=by rw[←e];exact List.mem_map_of_mem hq):P:=h
theorem Oo(h:P:=by obtain⟨F,h1,h2,h3⟩:=hrow;exact h2):P:=h
theorem JN(h:P:=by rw[toList_madeCells_one]):P:=h
theorem JR(h:P:=by rw[Dk];rfl):P:=h
theorem JT(h:P:=by simp[stc,Value.oneCell']):P:=h
theorem QD(h:P:=by show ¬w1.heap.size<w.heap.size;omega):P:=h
theorem RW(h:P:=by have:=h.fl;have:=k.fl;push_cast;omega):P:=h
theorem EE(h:P:=by rw[e];rfl):P:=h
theorem GA(h:P:=by rw[hi,←hn];simp):P:=h
theorem GZ(h:P:=by have:=hw.tg;omega):P:=h
theorem QT(h:P:=by have:=HGU.out;show ¬↑w+1=gu;omega):P:=h
theorem Sm(h:P:=by have:=h.g0;have:=h.z.2 0 h.z.1;omega):P:=h
theorem Sr(h:P:=by simp[top1,Dg]):P:=h
theorem T3(h:P:=by rw[HX.out.2.2.2];exact AU _):P:=h
theorem JL(h:P:=by have:=hF.out.size;omega):P:=h
theorem MI(h:P:=by rw[List.eq_of_mem_replicate hv];rfl):P:=h
theorem PR(h:P:=by simp[flagC,overC,BM]):P:=h
theorem RT(h:P:=by rw[←show k=e.gm from e2];exact hk):P:=h
theorem Mb(h:P:=by rw[e] at hm⊢;simp at hm;simp[hm]):P:=h
theorem GH(h:P:=by simp[Pl.take,e0]):P:=h
theorem ND(h:P:=by intro e;subst e;simp[superB] at hS):P:=h
theorem JI(h:P:=by unfold mostV at*;omega):P:=h
theorem LJ(h:P:=by simp[plainS,stackB,reckS,St.next]):P:=h
theorem FC(h:P:=by rw[hl];omega):P:=h
theorem Qw(h:P:=by rw[v1];have:=own_ab hk;rw[this,e]):P:=h
theorem Gr(h:P:=by simp[St.new]):P:=h
theorem KZ(h:P:=by show(1:Nat)≤3;omega):P:=h
theorem Qy(h:P:=by (have:=this.lr;dsimp only;omega)):P:=h
theorem Q1(h:P:=by (have:=this.ld;dsimp only;omega)):P:=h
theorem Iw(h:P:=by simpa using hb3):P:=h
theorem R0(h:P:=by show g<↑w6;have:=f6.size;omega):P:=h
theorem Sd(h:P:=by rw[Rn.own_ab hk,show k=q from r]):P:=h
theorem Sk(h:P:=by rw[HN.out,key _ _ _ _ _ rfl];rfl):P:=h
theorem PH(h:P:=by unfold getR;rw[An hr];omega):P:=h
theorem Kr(h:P:=by show ¬gp=↑w;omega):P:=h
theorem Ro(h:P:=by have e:q=w.heap.size+1:=e;omega):P:=h
theorem KJ(h:P:=by have:=hk.2.2.1;omega):P:=h
theorem GG(h:P:=by simp[takeV,e0]):P:=h
theorem Ng(h:P:=by simp[show i<l.length by omega]):P:=h
theorem Ia(h:P:=by simp[hc];omega):P:=h
theorem Pe(h:P:=by rw[HM.out];exact AE _):P:=h
theorem Ic(h:P:=by simpa using hz):P:=h
theorem Il(h:P:=by simpa using e2):P:=h
theorem Qt(h:P:=by rw[List.length_dropLast];omega):P:=h
theorem QF(h:P:=by rw[←hW1];exact AH _ _ _):P:=h
theorem RX(h:P:=by simpa[Bp] using hk):P:=h
theorem SO(h:P:=by show ab G≠I q;simp[ab]):P:=h
theorem SS(h:P:=by simpa[Bp] using hq):P:=h
theorem KF(h:P:=by have:=hx k hk;omega):P:=h
theorem KL(h:P:=by simp[Eo.new,Cs.new]):P:=h
theorem KN(h:P:=by have:=HGM.out;omega):P:=h
theorem II(h:P:=by simp[stackB];omega):P:=h
theorem IN(h:P:=by simp[upZ,h1,h2,h3]):P:=h
theorem GK(h:P:=by rw[hz2];omega):P:=h
theorem JH(h:P:=by unfold slotA;omega):P:=h
theorem KI(h:P:=by have:=hk.2.1;omega):P:=h
theorem Ld(h:P:=by rw[←HM.out];rfl):P:=h
theorem FV(h:P:=by simp[upZ]):P:=h
theorem EW(h:P:=by cases e):P:=h
theorem KB(h:P:=by rw[HI.out];omega):P:=h
theorem KC(h:P:=by rw[HJ.out];omega):P:=h
theorem GY(h:P:=by rw[e1];simp):P:=h
theorem H7(h:P:=by simp[roomC]):P:=h
theorem Jb(h:P:=by simp[Ts.map,e0]):P:=h
theorem JA(h:P:=by simpa using hne):P:=h
theorem JQ(h:P:=by simpa using hkn):P:=h
theorem Kt(h:P:=by simpa using hb1):P:=h
end Go.Proofs.YtpmlgdopfafcgaaGreatDoor
