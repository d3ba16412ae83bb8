import Derived.BigQuiet
import Derived.Deep.AppendLies
import Derived.Deep.CutBlock
import Derived.Deep.DeepCutAuto
import Derived.Deep.DeepHandedRow
import Derived.Deep.Fields
import Derived.Deep.RegionHeld3
import Derived.Deep.RegionHeldLaw
import Derived.DeepKeys5
import Derived.Handy
import Derived.Laws.CopyOwn
import Derived.Lib.EndianBits
import Derived.Lib.Hide
import Derived.Lib.LaidTab
import Derived.ShutString
import Derived.StillTailTactics
import Derived.Test.YtdfegdoeebaagaaGreatDoorProg
import Derived.WalkSpells
import Derived.WideKeyEntry
namespace Go.Proofs.YtdfegdoeebaagaaGreatDoor
open Go.RowKit
set_option linter.unusedVariables false
universe u
section
variable {P : Program} {md : Region.Mode} {ops : Array Oper} {Q : Exit → Act → World → Prop} {S : World → Prop} {fuel : Nat} {listed : Array Bool} {a : Act} {w : World} {o : Oper}
theorem Av (i : Nat) {v : Value} (hi : ops[i]? = some o) (hS : S w) (hy : ∀ w, S w → (execOp a.eval o).run P w = .ok (.value v) w) (h : wpAnyH P md ops Q S fuel (listed.setIfInBounds i true) (a.put o.dst v) w)
    (hs : Region.noSelect ops = true := by kernel_rfl) (hf : Region.free md ops listed i = true := by kernel_rfl) (hr : (Region.ready md ops listed).contains i = true := by kernel_rfl) (hw : Region.wanted o (yielded ops a.tmps) = true := by kernel_rfl) (hQ : ∀ c a' w', Q (.panic c) (a'.put o.dst v) w' → Q (.panic c) a' w' := by exact fun _ _ _ h => h) :
    wpAnyH P md ops Q S (fuel + 1) listed a w := wpAnyH_take hi hs hf hr hQ (.inl ⟨hw, hy⟩) hS h
theorem CJ (i : Nat) (v : Value) (hi : ops[i]? = some o) (hS : S w) (hy : ∀ w, S w → (execOp a.eval o).run P w = .ok (.value v) w) (h : wpAnyH P md ops Q S fuel (listed.setIfInBounds i true) (a.put o.dst v) w)
    (hs : Region.noSelect ops = true := by kernel_rfl) (hf : Region.free md ops listed i = true := by kernel_rfl) (hr : (Region.ready md ops listed).contains i = true := by kernel_rfl) (hw : Region.wanted o (yielded ops a.tmps) = true := by kernel_rfl) (hQ : ∀ c a' w', Q (.panic c) (a'.put o.dst v) w' → Q (.panic c) a' w' := by exact fun _ _ _ h => h) :
    wpAnyH P md ops Q S (fuel + 1) listed a w := wpAnyH_take hi hs hf hr hQ (.inl ⟨hw, hy⟩) hS h
theorem Bo (i : Nat) (hi : ops[i]? = some o) (hS : S w) (h : wpAnyH P md ops Q S fuel (listed.setIfInBounds i true) (a.put o.dst undef) w)
    (hs : Region.noSelect ops = true := by kernel_rfl) (hf : Region.free md ops listed i = true := by kernel_rfl) (hr : (Region.ready md ops listed).contains i = true := by kernel_rfl) (hw : Region.wanted o (yielded ops a.tmps) = false := by kernel_rfl) (hQ : ∀ c a' w', Q (.panic c) (a'.put o.dst undef) w' → Q (.panic c) a' w' := by exact fun _ _ _ h => h) :
    wpAnyH P md ops Q S (fuel + 1) listed a w := wpAnyH_take hi hs hf hr hQ (.inr ⟨hw, rfl⟩) hS h
theorem Gj (i : Nat) {v : Value} (hi : ops[i]? = some o) (hy : ∀ w, (execOp a.eval o).run P w = .ok (.value v) w) (h : wpAny P md ops Q fuel (listed.setIfInBounds i true) (a.put o.dst v) w)
    (hs : Region.noSelect ops = true := by kernel_rfl) (hf : Region.free md ops listed i = true := by kernel_rfl) (hr : (Region.ready md ops listed).contains i = true := by kernel_rfl) (hw : Region.wanted o (yielded ops a.tmps) = true := by kernel_rfl) (hQ : ∀ c a' w', Q (.panic c) (a'.put o.dst v) w' → Q (.panic c) a' w' := by exact fun _ _ _ h => h) :
    wpAny P md ops Q (fuel + 1) listed a w := wpAny_take hi hs hf hr hQ (.inl ⟨hw, hy⟩) h
theorem qX (i : Nat) (v : Value) (hi : ops[i]? = some o) (hy : ∀ w, (execOp a.eval o).run P w = .ok (.value v) w) (h : wpAny P md ops Q fuel (listed.setIfInBounds i true) (a.put o.dst v) w)
    (hs : Region.noSelect ops = true := by kernel_rfl) (hf : Region.free md ops listed i = true := by kernel_rfl) (hr : (Region.ready md ops listed).contains i = true := by kernel_rfl) (hw : Region.wanted o (yielded ops a.tmps) = true := by kernel_rfl) (hQ : ∀ c a' w', Q (.panic c) (a'.put o.dst v) w' → Q (.panic c) a' w' := by exact fun _ _ _ h => h) :
    wpAny P md ops Q (fuel + 1) listed a w := wpAny_take hi hs hf hr hQ (.inl ⟨hw, hy⟩) h
theorem qY (i : Nat) (hi : ops[i]? = some o) (h : wpAny P md ops Q fuel (listed.setIfInBounds i true) (a.put o.dst undef) w)
    (hs : Region.noSelect ops = true := by kernel_rfl) (hf : Region.free md ops listed i = true := by kernel_rfl) (hr : (Region.ready md ops listed).contains i = true := by kernel_rfl) (hw : Region.wanted o (yielded ops a.tmps) = false := by kernel_rfl) (hQ : ∀ c a' w', Q (.panic c) (a'.put o.dst undef) w' → Q (.panic c) a' w' := by exact fun _ _ _ h => h) :
    wpAny P md ops Q (fuel + 1) listed a w := wpAny_take hi hs hf hr hQ (.inr ⟨hw, rfl⟩) h
theorem Bb (rs : List Nat) (h : AllReadyH P md ops Q S fuel listed a w rs) (hr : Region.ready md ops listed = rs := by kernel_rfl) (hne : rs ≠ [] := by simp) : wpAnyH P md ops Q S (fuel + 1) listed a w := wpAnyH_ready hr hne h
theorem EY (rs : List Nat) (h : AllReady P md ops Q fuel listed a w rs) (hr : Region.ready md ops listed = rs := by kernel_rfl) (hne : rs ≠ [] := by simp) : wpAny P md ops Q (fuel + 1) listed a w := wpAny_ready hr hne h
theorem AT {i : Nat} {rs : List Nat} (h : ∀ K' : Act → World → Prop, Shut (∀ a w, S w → (S w → wpAnyH P md ops Q S fuel (listed.setIfInBounds i true) a w) → K' a w) → if Region.wanted o (yielded ops a.tmps) = true then Oper.wp P o a w K' Q else K' (a.put o.dst undef) w)
    (hs : AllReadyH P md ops Q S fuel listed a w rs) (ho : ops[i]? = some o := by rfl) : AllReadyH P md ops Q S fuel listed a w (i :: rs) := AllReadyH.cons ho h hs
theorem D5 {i : Nat} {rs : List Nat} (h : ∀ K' : Act → World → Prop, (∀ a w, wpAny P md ops Q fuel (listed.setIfInBounds i true) a w → K' a w) → if Region.wanted o (yielded ops a.tmps) = true then Oper.wp P o a w K' Q else K' (a.put o.dst undef) w)
    (hs : AllReady P md ops Q fuel listed a w rs) (ho : ops[i]? = some o := by rfl) : AllReady P md ops Q fuel listed a w (i :: rs) := AllReady.cons ho h hs
theorem Bc : AllReadyH P md ops Q S fuel listed a w [] := AllReadyH.nil
theorem Fx : AllReady P md ops Q fuel listed a w [] := AllReady.nil
theorem CT (h : Q .normal a w) (hr : Region.ready md ops listed = [] := by kernel_rfl) : wpAnyH P md ops Q S fuel listed a w := wpAnyH_done hr h fuel
theorem kG (h : Q .normal a w) (hr : Region.ready md ops listed = [] := by kernel_rfl) : wpAny P md ops Q fuel listed a w := wpAny_done hr h fuel
theorem AG : (∀ (l : List Oper) (i : Nat) (h : i < l.toArray.size), l.toArray[i] = l[i]'(by simpa using h)) ∧ (∀ (l : List Value) (i : Nat) (h : i < l.toArray.size), l.toArray[i] = l[i]'(by simpa using h)) ∧ (∀ (x : Oper) (l : List Oper) (h : 0 < (x :: l).length), (x :: l)[0]'h = x) ∧ (∀ (x : Oper) (l : List Oper) (i : Nat) (h : i + 1 < (x :: l).length), (x :: l)[i + 1]'h = l[i]'(Nat.lt_of_succ_lt_succ h)) ∧
    (∀ (l : List Value) (i : Nat) (v : Value), l.toArray.setIfInBounds i v = (l.set i v).toArray) ∧ (∀ (x v : Value) (l : List Value), (x :: l).set 0 v = v :: l) ∧ (∀ (x v : Value) (l : List Value) (i : Nat), (x :: l).set (i + 1) v = x :: l.set i v) ∧ (∀ (a : Act) (t : Tmp) (v : Value), a.put (some t) v = { a with tmps := a.tmps.setIfInBounds t v }) ∧ (∀ (a : Act) (v : Value), a.put none v = a) :=
  ⟨fun _ _ _ => rfl, fun _ _ _ => rfl, fun _ _ _ => rfl, fun _ _ _ _ => rfl, fun _ _ _ => by simp, fun _ _ _ => rfl, fun _ _ _ _ => rfl, fun _ _ _ => rfl, fun _ _ => rfl⟩
theorem Ae {c : Prop} {h : Decidable c} (n : ¬c) {α : Sort u} {t e : α} : (ite c t e) = e := if_neg n
theorem An {c : Prop} {h : Decidable c} (n : c) {α : Sort u} {t e : α} : (ite c t e) = t := if_pos n
theorem Az {P : Program} {f : FuncId} {args : Array Value} {w : World} {R R' : Ending → World → Prop} (h : Hid (Calls P f args w R)) (hr : ∀ e w', R e w' → R' e w') : Calls P f args w R' := h.out.mono hr
theorem A8 {α : Sort u} (x : α) : ∃ y, x = y := ⟨x, rfl⟩
theorem T {p : Prop} (h : p) : Hid p := h
instance : Coe World Nat := ⟨fun w => w.heap.size⟩
abbrev Aj : Nat → Prop := fun _ => False
abbrev Aw := Option Addr
abbrev AO := Array Value
abbrev AE := Nat → Prop
instance : Coe Nat Value := ⟨fun g => .pointer (some ⟨g, 0, none⟩)⟩
end
end Go.Proofs.YtdfegdoeebaagaaGreatDoor
open Go.Value renaming slice→Z,int→J,bool→Ap,tuple→AF,ownBlock→Cb,agg→A9,pointer→Bm,oneCell'→Ir
open Option renaming some→I,none→G
open Go.IntKind renaming i64→U,u32→V,u8→AB,u64→AP,wrap_u64→Gg,wrap_u32→Gu
open Go renaming World→Aa,Value→As,Calls→At,bodyPost_ret→Bt,TypeId→AN,wp_region_held_drew→C7,Ending→AY,info_parts→Cj,maxLen→BQ,madeCells→CH,wpList→Cy,Program→CF,undef→BY,bits→Bv,run_underlying→Fe,Oper→BM,Operand→De
open Bool renaming false→Ac,true→Ag,false_ne_true→Fq,false_and→GX
open List renaming getD_eq_getElem?_getD→AS,getElem?_eq_getElem→BK,length_append→Cq,mem_map→BS,append_assoc→C9,getElem?_take_of_lt→Dq,getElem_mem→CE,range→Cl,getElem?_append_right→Ex,mem_append→Da,length_cons→D8,getElem?_map→DP,getElem?_eq_none→Ew,length_pos_iff→Ef,getElem?_append_left→Ff,cons_append→DI,mem_filter→DF,nil_append→DH,mem_cons→Dv,getLastD_eq_getLast?→FI,replicate→DL,dropLast_concat→Gw,length_map→Fo,getElem_of_mem→GC,map_append→FH,mem_singleton→Ii,length_nil→Gx,concat_eq_append→Is,range_succ→Ic,singleton_append→IF,length_take→Iv,map_cons→GU,getElem?_range→IL,map_map→GZ,setIfInBounds_toArray→Jd
open Go.Ending renaming returned→Ax
open And renaming intro→Ay
open Nat renaming le_refl→AD,lt_of_lt_of_le→Bg,le_trans→Bf,zero_le→Bj,zero_add→BW,lt_or_ge→DG,eq_zero_or_pos→Gq,reduceEqDiff→GA
open Or renaming inl→Af,inr→Ah
open Go.Proofs.Tryz renaming underlying39→AQ,underlying23→CI,underlying218→Gi,underlying85→FV,underlying27→I3
open Go.RowKit renaming intOf→AM
open Go.AllReadyH renaming nil→CB
open Array renaming getElem?_toList→DV,getElem?_eq_some_iff→IK
open Int renaming eq_ofNat_of_zero_le→Eh,toNat_natCast→Du
open Go.Builtin renaming zeroCells→DO,delete_→Jq
open Go.Region renaming wanted→Dm
open Go.Result renaming andThen→ES
open Option.some renaming inj→GG
open Go.Instr renaming makeSlice→Fp,mapUpdate→Ix
open Go.MapKept renaming run_getObj_map→Iw,run_setObj_map→Jp
open Go.IntWalk renaming i64_in→GF
open Go.Lit renaming int→DT
open Go.Oper renaming wp→EP
open Go.Sem renaming run_bind→GT
namespace Go.Proofs.YtdfegdoeebaagaaGreatDoor
open Go Go.RowKit

variable{P:Prop}
theorem ZO(h:P:=by
 clear ho3;go_upto_region 20 with(fail);refine C7 (S:=Fr (λq=>q=gx) W7) AL ((Ao (λq=>q=gx) W7).drew) (λhH=>?_);refine Av 0 rfl hH FC ?_;refine Av 1 rfl hH FC ?_;refine Av 5 rfl hH FC ?_
 try simp only[AG]
 refine Av 6 rfl hH FC ?_
 try simp only[AG]
 refine Bb [2,7] ?_;refine AT (λK hK=>?_) ?_
 ·go_simp;refine hK.out _ _ hH λhH=>?_;clear hK K;refine Av 3 rfl hH FC ?_;refine Av 4 rfl hH FC ?_
  try simp only[AG]
  refine Bb [7] ?_;refine AT (λK hK=>?_) ?_;·go_simp;refine hK.out _ _ hH λhH=>?_;clear hK K;refine Av 8 rfl hH FC ?_;refine Av 9 rfl hH FC ?_;exact jV
  exact Bc
 refine AT (λK hK=>?_) ?_
 ·go_simp;refine hK.out _ _ hH λhH=>?_;clear hK K;refine Av 8 rfl hH FC ?_;refine Av 9 rfl hH FC ?_
  try simp only[AG]
  refine Bb [2] ?_;refine AT (λK hK=>?_) ?_;·go_simp;refine hK.out _ _ hH λhH=>?_;clear hK K;refine Av 3 rfl hH FC ?_;refine Av 4 rfl hH FC ?_;exact jV
  exact Bc
 exact Bc):P:=h
theorem jV(h:P:=by
 refine Av 10 rfl hH FC ?_
 try simp only[AG]
 refine Bb [11] ?_;refine AT (λK hK=>?_) ?_
 ·go_simp;refine hK.out _ _ (hH.setCell (Af rfl) _) λhH=>?_;clear hK K;refine Av 12 rfl hH FC ?_
  try simp only[AG]
  refine Bb [13] ?_;refine AT (λK hK=>?_) ?_
  ·go_simp;refine hK.out _ _ (hH.setCell (Af rfl) _) λhH=>?_;clear hK K;refine CT ?_
   try simp only[AG]
   go_upto_region 22 with(fail);have bx8:Blk (((W7.setCell ⟨gx,2,G⟩ (J U (upN s.pl k m xa:Nat))).setCell ⟨gx,3,G⟩ (J U (upN s.pl k m xb:Nat))).setCell ⟨gx,1,G⟩ (J U (m:Nat))).drew gx 266 #[J U op,J U m,J U ((upN s.pl k m xa):Nat),J U ((upN s.pl k m xb):Nat),J V imm]:=(((BX7.out.set_ 2 _).set_ 3 _).set_ 1 _).drew;have f8:Fr (· =gx) W7 (((W7.setCell ⟨gx,2,G⟩ (J U (upN s.pl k m xa:Nat))).setCell ⟨gx,3,G⟩ (J U (upN s.pl k m xb:Nat))).setCell ⟨gx,1,G⟩ (J U (m:Nat))).drew:=((((Ao (λq=>q=gx) W7).setCell (p:=⟨gx,2,G⟩) (Af rfl) _).setCell (p:=⟨gx,3,G⟩) (Af rfl) _).setCell (p:=⟨gx,1,G⟩) (Af rfl) _).drew;have own8:=AR OW7.out f8 (λq hq e=>by have:=HLX.out q hq;omega);have cp8:=CP7.out.fr f8 (by show ¬gp=gx;omega);have F8:Hid (Fr (λq=>q=gp) W6 (((W7.setCell ⟨gx,2,G⟩ (J U (upN s.pl k m xa:Nat))).setCell ⟨gx,3,G⟩ (J U (upN s.pl k m xb:Nat))).setCell ⟨gx,1,G⟩ (J U (m:Nat))).drew):=T (F7.out.trans f8 (λq hq e=>O));clear f8;generalize(((W7.setCell ⟨gx,2,G⟩ (J U (upN s.pl k m xa:Nat))).setCell ⟨gx,3,G⟩ (J U (upN s.pl k m xb:Nat))).setCell ⟨gx,1,G⟩ (J U (m:Nat))).drew=W8 at*;have x0:=bx8.cell 0;have x1:=bx8.cell 1;have x2:=bx8.cell 2;have x3:=bx8.cell 3;have x4:=bx8.cell 4;have hx8:=bx8.lt;have hsz8:W6.heap.size≤W8.heap.size:=F8.out.size;have HO8:=T (DU own8 (.cells #[J U op,J U m,J U ((upN s.pl k m xa):Nat),J U ((upN s.pl k m xb):Nat),J V imm] 266));have hrd:Hid (Reads (W8.alloc (.cells #[J U op,J U m,J U ((upN s.pl k m xa):Nat),J U ((upN s.pl k m xb):Nat),J V imm] 266)) (↑W8+1) 5 (I ⟨↑W8,0,G⟩) 1 (iis [⟨op,m,(upN s.pl k m xa),(upN s.pl k m xb),imm⟩])):=T (by
    have:=Do (size:=5) (n:=1) (AI W8 266 #[J U op,J U m,J U ((upN s.pl k m xa):Nat),J U ((upN s.pl k m xb):Nat),J V imm]) AC;simpa[iis] using this)
   have CP8:=T cp8;clear own8 cp8 bx8;go_wp2_with
    (at_builtin
     refine CU _ rfl (.tmp 108) (.tmp 110) _ rfl W6.heap.size 266 i5 _ 5 40 Tryz.underlying216 hi5 hz5 hs5 hy5 rfl O (Z A' m c') m (iis s.out) rfl HO8.out (W8.heap.size+1) (I ⟨W8.heap.size,0,G⟩) 1 1 (iis [⟨op,m,(upN s.pl k m xa),(upN s.pl k m xb),imm⟩]) rfl hrd.out (R7 _) Cc O AA ?_
     intro v1 w3 hown1 hg1 hat1
     obtain⟨A3,c3,rfl⟩:=Et hown1
     have HX:=T (Ay hown1 hg1)
     clear hown1 hg1 hat1)
   go_roundw;case rel=>
    have hbo:=ZM;have hm2:Ey (upN s.pl k m) m ⟨op,dst,xa,xb,imm⟩=⟨op,m,(upN s.pl k m xa),(upN s.pl k m xb),imm⟩:=(by unfold Ey;rw[An (by show 3≤op;omega)]);exact ZN
   case measure=>simp[AM];omega
  exact Bc
 exact Bc):P:=h
theorem gI(h:P:=by
 clear f0 hH';obtain⟨wc,rfl⟩: ∃wz,wz=wd:=⟨_,rfl⟩;refine Bb [6] ?_;refine AT (λK hK=>?_) ?_
 ·go_simp;go_wp2_with ((with_reducible refine(HFd.out _ HF.out).mono ?_);rintro e3 w3 ⟨pc,pl,C,nC,cC,ct,A2,n2,c2,en,ok,e2,rfl,hel,hhit⟩;have HE:=T (Elk.from0 HF.out HL2.out.en hel);have HHIT:=T hhit;have hS3:=hH.tr hel.f;(try(have N14:=T (J1 hel (HN2.out _ L14.out) B14.out.lt);replace B14:=T (B14.out.fr hel.f (HN2.out _ L14.out))));(try(have N15:=T (J1 hel (HN2.out _ L15.out) B15.out.lt);replace B15:=T (B15.out.fr hel.f (HN2.out _ L15.out))));clear hel hhit HF);refine hK.out _ _ (hS3) λhH=>?_;clear hK K;clear hS3;obtain⟨wc,rfl⟩: ∃wz,wz=w3:=⟨_,rfl⟩;refine Av 7 rfl hH Dc ?_;refine Av 8 rfl hH Dc ?_;refine Av 9 rfl hH Dc ?_
  try simp only[AG]
  refine Av 10 rfl hH Dc ?_
  try simp only[AG]
  refine Bb [13] ?_;refine AT (λK hK=>?_) ?_;·exact jW
  exact Bc
 exact Bc):P:=h
theorem VZ(h:P:=by
 have q66:(op==66)=Ac:=by simp[h66]
 have q67:(op==67)=Ac:=by simp[h67]
 clear h66 h67 hS;have X0:=T B1.out;have Y0:=T B2.out;go_in;go_wp2_with fail;refine Az Hr ?_;rintro e w2 ⟨rfl,f1⟩;have F1:=T (F0.out.tr f1);have X1:=T (X0.out.fr f1 id);have Y1:=T (Y0.out.fr f1 id);have b11:=X1.out;have u0:=Y1.out.cell 0;have u1:=Y1.out.cell 1;have v1:=X1.out.cell 1;have v2:=X1.out.cell 2;have v4:=X1.out.cell 4;clear f1;go_wp2_with fail;refine(Hs.out _).mono ?_;rintro e w' ⟨rfl,rfl⟩;go_wp2_with ((with_reducible refine wpL_lq b11 AQ AJ ?_));refine(Hg.out _).mono ?_;rintro e w3 ⟨rfl,f2⟩;have F2:=T (F1.out.tr f2);clear u0 u1 v1 v2 v4;have X2:=T (X1.out.fr f2 id);have Y2:=T (Y1.out.fr f2 id);have b12:=X2.out;have u0:=Y2.out.cell 0;have u1:=Y2.out.cell 1;have v1:=X2.out.cell 1;have v2:=X2.out.cell 2;have v4:=X2.out.cell 4;clear f2 b11;go_wp2_with ((with_reducible refine wpL_lq b12 AQ AJ ?_));refine(Ht.out _ F2.out).mono ?_;rintro e w4 ⟨A4,c4,B4,d4,rfl,_,_,f3⟩;have F3:=T (F2.out.tr f3);clear u0 u1 v1 v2 v4;have X3:=T (X2.out.fr f3 id);have Y3:=T (Y2.out.fr f3 id);have b13:=X3.out;have u0:=Y3.out.cell 0;have u1:=Y3.out.cell 1;have v1:=X3.out.cell 1;have v2:=X3.out.cell 2;have v4:=X3.out.cell 4;have hg4:=X3.out.lt;have hg5:=Y3.out.lt;clear f3 b12;have HX3:=X3;by_cases q1:s.d.length<Gs.takeD op;·have e1:decide (s.d.length<Gs.takeD op)=Ag:=AA;have hfv:Hid (Di s op=3):=T Qt;exact EW
 ·by_cases q2:s.r.length<Gs.takeR op;·have e1:=OR;have e2:decide (s.r.length<Gs.takeR op)=Ag:=AA;have hfv:Hid (Di s op=3):=T Qu;exact EW
  ·by_cases q3:16<s.d.length -Gs.takeD op+Gs.putD op;·have e1:=OR;have e2:=Ti;have e3:decide ((16:Int)<(s.d.length:Int) -(Gs.takeD op:Int)+(Gs.putD op:Int))=Ag:=AA;have hfv:Hid (Di s op=4):=T Qx;exact EW
   ·by_cases q4:16<s.r.length -Gs.takeR op+Gs.putR op;·have e1:=OR;have e2:=Ti;have e3:=jX;have e4:decide ((16:Int)<(s.r.length:Int) -(Gs.takeR op:Int)+(Gs.putR op:Int))=Ag:=AA;have hfv:Hid (Di s op=4):=T Qy;exact EW
    ·have e1:=OR;have e2:=Ti;have e3:=jX;have e4:decide ((16:Int)<(s.r.length:Int) -(Gs.takeR op:Int)+(Gs.putR op:Int))=Ac:=AA;have hfv:Hid (Di s op=0):=T Q0;exact EW):P:=h
theorem gG(h:P:=by
 refine Bb [12] ?_;refine AT (λK hK=>?_) ?_
 ·have hH':=hH;go_simp;refine hK.out _ _ (hH'.alloc _) λhH=>?_;clear hK K;have f0:=OL;have B15:=T (AI wc 158 zR);have L15:=T (J3 hH')
  try have N15:=T (J2 HE.out)
  try replace B14:=T (B14.out.fr f0 id)
  try replace HF:=T (HF.out.tr f0)
  try(replace HE:=T (HE.out.then0 f0);replace HHIT:=T (λq=>(HHIT.out q).fr f0 (λ_ e=>e.elim)))
  obtain⟨g15,hg⟩:=A8 wc.heap.size;rw[hg] at B15 L15⊢
  try rw[hg] at N15
  clear hg;generalize wc.alloc (.cells zR 158)=wd at*;exact jY
 exact Bc):P:=h
theorem gH(h:P:=by
 refine Bb [11] ?_;refine AT (λK hK=>?_) ?_
 ·have hH':=hH;go_simp;refine hK.out _ _ (hH'.alloc _) λhH=>?_;clear hK K;have f0:=OK;have B14:=T (AI wc 149 zB);have L14:=T (J3 hH')
  try have N14:=T (J2 HE.out)
  try replace B15:=T (B15.out.fr f0 id)
  try replace HF:=T (HF.out.tr f0)
  try(replace HE:=T (HE.out.then0 f0);replace HHIT:=T (λq=>(HHIT.out q).fr f0 (λ_ e=>e.elim)))
  obtain⟨g14,hg⟩:=A8 wc.heap.size;rw[hg] at B14 L14⊢
  try rw[hg] at N14
  clear hg;generalize wc.alloc (.cells zB 149)=wd at*;exact jY
 exact Bc):P:=h
theorem dR(h:P:=by
 refine C7 (S:=λX=>X.cell? ⟨↑W,0,G⟩=I (Z A1 n1 c1)∧X.cell? ⟨↑W,1,G⟩=I (Z A2 n2 c2)∧X.cell? ⟨↑W,2,G⟩=I (J .i64 n)∧W.heap.size<X.heap.size) AL (⟨k0,k1,k2,kl⟩) (λhH=>?_);have HF:=T ((Ao Aj W0).drew);generalize W0.drew=wv at hH HF⊢;refine Av 0 rfl hH GR ?_;refine Av 1 rfl hH GR ?_;refine Av 2 rfl hH GR ?_
 try simp only[AG]
 refine Av 4 rfl hH GR ?_;refine Av 5 rfl hH GR ?_
 try simp only[AG]
 refine Bb [3,6] ?_;refine AT (λK hK=>?_) ?_
 ·go_simp;go_wp2_with ((with_reducible refine(Hpg.out _).mono ?_);rintro e w1 ⟨rfl,rfl⟩);refine hK.out _ _ hH λhH=>?_;clear hK K;refine Bb [6] ?_;refine AT (λK hK=>?_) ?_;·go_simp;exact jZ
  exact Bc
 refine AT (λK hK=>?_) ?_
 ·go_simp;refine hK.out _ _ hH λhH=>?_;clear hK K;refine Bb [3] ?_;refine AT (λK hK=>?_) ?_;·go_simp;go_wp2_with ((with_reducible refine(Hpg.out _).mono ?_);rintro e w1 ⟨rfl,rfl⟩);exact jZ
  exact Bc
 exact Bc):P:=h
theorem ZQ(h:P:=by
 refine AT (λK hK=>?_) ?_
 ·go_simp;refine hK.out _ _ hH λhH=>?_;clear hK K;refine Av 11 rfl hH CX ?_
  try simp only[AG]
  refine Bb [6] ?_;refine AT (λK hK=>?_) ?_;·go_simp;go_wp2_with ((with_reducible refine(Hm1.out _ hH).mono ?_);rintro e wA ⟨DA,dA,rfl,hDA,fA⟩;have hbA:w.heap.size<wA.heap.size:=Bg hbx (Bf hH.size fA.size);have bA:=B9.out.fr ((Ao Aj wr).drew.tr fA) id;have i6A:=bA.cell 6);refine hK.out _ _ (hH.tr (fA.mono (λ_ _ e=>e.elim))) λhH=>?_;clear hK K;exact ZP
  exact Bc
 exact Bc):P:=h
theorem jY(h:P:=by
 clear f0 hH';obtain⟨wc,rfl⟩: ∃wz,wz=wd:=⟨_,rfl⟩;refine Bb [13] ?_;refine AT (λK hK=>?_) ?_;·exact jW
 exact Bc):P:=h
theorem ZP(h:P:=by
 refine Bb [10] ?_;refine AT (λK hK=>?_) ?_
 ·go_simp;go_wp2_with ((with_reducible refine(Hm2.out _ hH).mono ?_);rintro e wB ⟨RA,rA,rfl,hRA,fB⟩;have bB:=B9.out.fr ((Ao Aj wr).drew.tr (fA.tr fB)) id;have i0:=bB.cell 0;have i13:=bB.cell 13;have i5':=bB.cell 5;have i6:=bB.cell 6;have j0:=bB.frozen 0;have j13:=bB.frozen 13;have j5:=bB.frozen 5;have j6:=bB.frozen 6;have il:=bB.lt);refine hK.out _ _ (hH.tr (fB.mono (λ_ _ e=>e.elim))) λhH=>?_;clear hK K;refine Bb [12] ?_;refine AT (λK hK=>?_) ?_
  ·go_simp;refine hK.out _ _ (hH.setCell (Af rfl) _) λhH=>?_;clear hK K;refine Av 13 rfl hH CX ?_
   try simp only[AG]
   refine Bb [14] ?_;refine AT (λK hK=>?_) ?_
   ·go_simp;refine hK.out _ _ (hH.setCell (Af rfl) _) λhH=>?_;clear hK K;refine Av 15 rfl hH CX ?_
    try simp only[AG]
    refine Bb [16] ?_;refine AT (λK hK=>?_) ?_
    ·go_simp;refine hK.out _ _ (hH.setCell (Af rfl) _) λhH=>?_;clear hK K;refine Av 17 rfl hH CX ?_
     try simp only[AG]
     refine Bb [18] ?_;refine AT (λK hK=>?_) ?_
     ·go_simp;refine hK.out _ _ (hH.setCell (Af rfl) _) λhH=>?_;clear hK K;refine CT ?_
      try simp only[AG]
      go_wp2
      go_meet;have b4:=(((bB.set_ 0 (Z A' m c')).set_ 13 (J U (m:Nat))).set_ 5 (Z DA p.od.length dA)).set_ 6 (Z RA p.or.length rA);have f4:Fr (λq=>q=w.heap.size) wB _:=((((Ao (λq=>q=w.heap.size) wB).setCell (p:=⟨↑w,0,G⟩) (.inl rfl) (Z A' m c')).setCell (p:=⟨↑w,13,G⟩) (.inl rfl) (J U (m:Nat))).setCell (p:=⟨↑w,5,G⟩) (.inl rfl) (Z DA p.od.length dA)).setCell (p:=⟨↑w,6,G⟩) (.inl rfl) (Z RA p.or.length rA);rw[Fo] at hDA hRA;have hDB:=own_low (AR (AR hDA fB (λ_ _ e=>e)) f4 (λq hq e=>by have h2:wr.heap.size≤q:=Cn hDA q hq;have e2:q=w.heap.size:=e;omega)) (show wr.heap.size≤_ by first|exact AD _|simp[World.drew]);have hRB:=own_low (AR hRA f4 (λq hq e=>by have:=Cn hRA q hq;have h2:=fA.size;have h3:wr.heap.size≤wA.heap.size:=h2;have e2:q=w.heap.size:=e;omega)) (show wr.heap.size≤wA.heap.size from fA.size);rw[sw_cells] at b4;exact⟨DA,dA,RA,rA,T ⟨b4,hDB,hRB,((Ao (λq=>q=w.heap.size) wr).drew.tr ((fA.tr fB).mono (λ_ _ e=>e.elim))).tr f4⟩⟩
     exact Bc
    exact Bc
   exact Bc
  exact Bc
 exact Bc):P:=h
theorem jW(h:P:=by
 have x0:=B14.out.cell 0;have y0:=B14.out.frozen 0;have x1:=B14.out.cell 1;have y1:=B14.out.frozen 1;have x2:=B14.out.cell 2;have y2:=B14.out.frozen 2;have x3:=B14.out.cell 3;have y3:=B14.out.frozen 3;have xl:=B14.out.lt;have hH':=hH;go_simp;refine hK.out _ _ (fr4 hH' (Ah L14.out)) λhH=>?_;clear hK K;have f0:Fr (λq=>q=g14) wc ((((wc.setCell ⟨g14,0,G⟩ (J .u32 pc)).setCell ⟨g14,1,G⟩ (J .u32 pl)).setCell ⟨g14,2,G⟩ (Z C nC cC)).setCell ⟨g14,3,G⟩ (J .i64 ct)):=fr4 (Ao _ _) (.inl rfl);have bb:=((((B14.out.set_ 0 (J .u32 pc)).set_ 1 (J .u32 pl)).set_ 2 (Z C nC cC)).set_ 3 (J .i64 ct));replace HE:=T (HE.out.loc f0 (λq hq=>by rw[show q=g14 from hq];exact⟨L14.out,N14.out⟩));replace HHIT:=T (λq=>(HHIT.out q).fr f0 (λq hq=>by rw[show q=g14 from hq];exact srt_ne B14.out (by decide)))
 try replace B15:=T (B15.out.fr f0 (λq=>B15.out.ne_ B14.out Ak q))
 replace B14:=T bb;clear bb x0 x1 x2 x3 y0 y1 y2 y3 xl;generalize((((wc.setCell ⟨g14,0,G⟩ (J .u32 pc)).setCell ⟨g14,1,G⟩ (J .u32 pl)).setCell ⟨g14,2,G⟩ (Z C nC cC)).setCell ⟨g14,3,G⟩ (J .i64 ct))=wd at*;clear f0 hH';obtain⟨wc,rfl⟩: ∃wz,wz=wd:=⟨_,rfl⟩;refine Bb [14] ?_;refine AT (λK hK=>?_) ?_
 ·have x0:=B15.out.cell 0;have y0:=B15.out.frozen 0;have x1:=B15.out.cell 1;have y1:=B15.out.frozen 1;have xl:=B15.out.lt;have hH':=hH;go_simp;refine hK.out _ _ (fr2 hH' (Ah L15.out)) λhH=>?_;clear hK K;have f0:Fr (λq=>q=g15) wc ((wc.setCell ⟨g15,0,G⟩ (Z A2 n2 c2)).setCell ⟨g15,1,G⟩ (.bool en)):=fr2 (Ao _ _) (.inl rfl);have bb:=((B15.out.set_ 0 (Z A2 n2 c2)).set_ 1 (.bool en));replace HE:=T (HE.out.loc f0 (λq hq=>by rw[show q=g15 from hq];exact⟨L15.out,N15.out⟩));replace HHIT:=T (λq=>(HHIT.out q).fr f0 (λq hq=>by rw[show q=g15 from hq];exact srt_ne B15.out (by decide)))
  try replace B14:=T (B14.out.fr f0 (λq=>B14.out.ne_ B15.out Ak q))
  replace B15:=T bb;clear bb x0 x1 y0 y1 xl;generalize((wc.setCell ⟨g15,0,G⟩ (Z A2 n2 c2)).setCell ⟨g15,1,G⟩ (.bool en))=wd at*;clear f0 hH';obtain⟨wc,rfl⟩: ∃wz,wz=wd:=⟨_,rfl⟩;refine Av 15 rfl hH Dc ?_;refine CT ?_
  go_wp2
  go_meet;exact⟨g14,g15,pc,pl,C,nC,cC,ct,A2,n2,c2,en,ok,e2,rfl,rfl,rfl,B14,B15,T ⟨L14.out,L15.out,N14.out,N15.out⟩,HE,HHIT⟩
 exact Bc):P:=h
theorem ZG(h:P:=by
 refine Bb [3] ?_;refine AT (λK hK=>?_) ?_;·have z0:=hH.size;go_simp;go_wp2_with ((with_reducible refine(RN _ _ N ZE nN).mono ?_);rintro e wA ⟨gR,rfl,hgR,hR,fR⟩);refine hK.out _ _ (hH.tr fR) λhH=>?_;clear hK K;exact ZF
 exact Bc):P:=h
theorem Zs(h:P:=by
 have hl:(x.add 0 0 0 n).ld=x.ld:=rfl;generalize x.add 0 0 0 n=X' at Hca hX hl;generalize x.code.length=v at Hca hX;obtain⟨m,hm⟩:=A8 X'.ld.length;have HM:=T hm;have hmk:=kA;have c14:=kC;have hgl:g<↑W0:=HP.out.1.b.lt;have hbs:=Li;clear hm hl;go_region_law (first
  |(refine IC _ rfl _ _ 85 rfl base 3 i0 _ 1 8 FV hi0 hz0 hz1 hz2 rfl O (Z D m cd) m (fxV X'.ld) BC HO.out (W1.heap.size+1) (I ⟨W1.heap.size,0,G⟩) 1 1 (fxV [v]) BC (KV W1 [v] 1 rfl) (KU _) Cc O AA ?_;intro v1 w1 hown hg hat;obtain⟨A1,c1,rfl⟩:=Et hown;obtain⟨⟨k14,y14,hgl1⟩,hL,hK2⟩:=MC H1.out ((Ao _ W1).alloc _) [v] HM.out rfl hown hg hat Tj;have HQ:=T (Ay hL (L1.out.tr hK2));clear hown hg hat hL hK2)
  |(go_simp;(with_reducible refine Az Hca ?_);rintro e W1 ⟨rfl,⟨g1,C1,cc1,D1,cd1,R1,cr1⟩,l1,h1,kd,kr⟩;obtain rfl:g=g1:=l1.g.symm;obtain⟨q1,q2⟩:=kd rfl;dsimp only at q1 q2;obtain rfl:D=D1:=q1.symm;obtain rfl:cd=cd1:=q2.symm;have L1:=T ((HP.out.2.fr0 (Ao _ _).drew).tr l1);have H1:=T h1;have k14:W1.cell? ⟨g,14,G⟩=I (Z D m cd):=(H1.out.b.cell 14 O).trans Tk;have hgl1:g<↑W1:=H1.out.b.lt;have hbs1:base≤↑W1:=H1.out.hb;have HO:Hid ((W1.alloc (.cells (fxV [v]).toArray 3)).ownsRow base 3 1 (Z D m cd) m (fxV X'.ld)):=T kD;clear l1 h1 kd kr))
 all_goals
  generalize w1.setCell ⟨g,14,G⟩ (Z A1 (m+1) c1)=W9 at*
  try simp only[AG]
  go_wp2
  go_meet;exact⟨_,hX.out▸HQ.out.1.le O,HQ.out.2⟩):P:=h
theorem Zt(h:P:=by
 obtain⟨m,hm⟩:=A8 X'.ld.length;have HM:=T hm;have hmk:=kA;have c14:=kC;have hgl:g<↑W0:=HP.out.1.b.lt;have hbs:=Li;clear hm hl;go_region_law (first
  |(refine IC _ rfl _ _ 85 rfl base 3 i0 _ 1 8 FV hi0 hz0 hz1 hz2 rfl O (Z D m cd) m (fxV X'.ld) BC HO.out (W1.heap.size+1) (I ⟨W1.heap.size,0,G⟩) 1 1 (fxV [v]) BC (KV W1 [v] 1 rfl) (KU _) Cc O AA ?_;intro v1 w1 hown hg hat;obtain⟨A1,c1,rfl⟩:=Et hown;obtain⟨⟨k14,y14,hgl1⟩,hL,hK2⟩:=MC H1.out ((Ao _ W1).alloc _) [v] HM.out rfl hown hg hat Tj;have HQ:=T (Ay hL (L1.out.tr hK2));clear hown hg hat hL hK2)
  |(go_simp;(with_reducible refine Az Hca ?_);rintro e W1 ⟨rfl,⟨g1,C1,cc1,D1,cd1,R1,cr1⟩,l1,h1,kd,kr⟩;obtain rfl:g=g1:=l1.g.symm;obtain⟨q1,q2⟩:=kd rfl;dsimp only at q1 q2;obtain rfl:D=D1:=q1.symm;obtain rfl:cd=cd1:=q2.symm;have L1:=T ((HP.out.2.fr0 (Ao _ _).drew).tr l1);have H1:=T h1;have k14:W1.cell? ⟨g,14,G⟩=I (Z D m cd):=(H1.out.b.cell 14 O).trans Tk;have hgl1:g<↑W1:=H1.out.b.lt;have hbs1:base≤↑W1:=H1.out.hb;have HO:Hid ((W1.alloc (.cells (fxV [v]).toArray 3)).ownsRow base 3 1 (Z D m cd) m (fxV X'.ld)):=T kD;clear l1 h1 kd kr))
 all_goals
  generalize w1.setCell ⟨g,14,G⟩ (Z A1 (m+1) c1)=W9 at*
  try simp only[AG]
  go_wp2
  go_meet;exact⟨_,hX.out▸HQ.out.1.le O,HQ.out.2⟩):P:=h
theorem Zu(h:P:=by
 obtain⟨m,hm⟩:=A8 X'.lr.length;have HM:=T hm;have hmk:m≤2000:=by rw[←hm,hl];exact Bf HP.out.1.k.lr (by omega)
 have c18:W0.cell? ⟨g,18,G⟩=I (Z R m cr):=(HP.out.1.b.cell 18 O).trans (by rw[←hm,hl];rfl);have hgl:g<↑W0:=HP.out.1.b.lt;have hbs:=Li;clear hm hl;go_region_law (first
  |(refine IC _ rfl _ _ 85 rfl base 3 i0 _ 1 8 FV hi0 hz0 hz1 hz2 rfl O (Z R m cr) m (fxV X'.lr) BC HO.out (W1.heap.size+1) (I ⟨W1.heap.size,0,G⟩) 1 1 (fxV [v]) BC (KV W1 [v] 1 rfl) (KU _) Cc O AA ?_;intro v1 w1 hown hg hat;obtain⟨A1,c1,rfl⟩:=Et hown;obtain⟨⟨k18,y18,hgl1⟩,hL,hK2⟩:=nZ H1.out ((Ao _ W1).alloc _) [v] HM.out rfl hown hg hat Tj;have HQ:=T (Ay hL (L1.out.tr hK2));clear hown hg hat hL hK2)
  |(go_simp;(with_reducible refine Az Hca ?_);rintro e W1 ⟨rfl,⟨g1,C1,cc1,D1,cd1,R1,cr1⟩,l1,h1,kd,kr⟩;obtain rfl:g=g1:=l1.g.symm;obtain⟨q1,q2⟩:=kr rfl;dsimp only at q1 q2;obtain rfl:R=R1:=q1.symm;obtain rfl:cr=cr1:=q2.symm;have L1:=T ((HP.out.2.fr0 (Ao _ _).drew).tr l1);have H1:=T h1;have k18:W1.cell? ⟨g,18,G⟩=I (Z R m cr):=(H1.out.b.cell 18 O).trans Tk;have hgl1:g<↑W1:=H1.out.b.lt;have hbs1:base≤↑W1:=H1.out.hb;have HO:Hid ((W1.alloc (.cells (fxV [v]).toArray 3)).ownsRow base 3 1 (Z R m cr) m (fxV X'.lr)):=T (by have:=DU H1.out.r (.cells (fxV [v]).toArray 3);dsimp only at this;rwa[HM.out] at this);clear l1 h1 kd kr))
 all_goals
  generalize w1.setCell ⟨g,18,G⟩ (Z A1 (m+1) c1)=W9 at*
  try simp only[AG]
  go_wp2
  go_meet;exact⟨_,hX.out▸HQ.out.1.le O,HQ.out.2⟩):P:=h
theorem ZF(h:P:=by
 refine Bb [7] ?_;refine AT (λK hK=>?_) ?_
 ·go_simp;go_wp2_with ((with_reducible refine(RN _ _ N (by first|exact q4|exact q4.fr fR id|exact(q4.alloc _).fr fR id|exact(addBd q4 _).fr fR id) nN).mono ?_);rintro e wB ⟨gS,rfl,hgS,hS,fS⟩);refine hK.out _ _ (hH.tr fS) λhH=>?_;clear hK K;refine Av 8 rfl hH Ki ?_
  try simp only[AG]
  refine Bb [10] ?_;refine AT (λK hK=>?_) ?_
  ·go_simp;go_wp2_with ((with_reducible refine(Hof.out _ hH).mono ?_);rintro e wC ⟨A,cI,tt,rfl,hLV,hIv,fC⟩);refine hK.out _ _ (hH.tr fC) λhH=>?_;clear hK K;refine Av 11 rfl hH Ki ?_
   try simp only[AG]
   refine Bb [12] ?_;refine AT (λK hK=>?_) ?_
   ·go_simp;refine hK.out _ _ (hH.alloc _) λhH=>?_;clear hK K;refine Av 13 rfl hH Ki ?_;refine CT ?_;simp only[AG]
    go_wp2
    go_meet;exact⟨_,_,_,_,_,_,rfl,T (made_end z0 hgR hR (by first|exact Ao _ _|exact(Ao _ _).alloc _) hgS hS fS hIv fC hLV hH)⟩
   exact Bc
  exact Bc
 exact Bc):P:=h
theorem YE(h:P:=by
 intro w1 L1 lc1 X1 xc1 K1 E1;go_wp2_with fail;refine ego (CA _ base _ _ Q _ E1.out O 13 10 9 15) ?_;intro w2 L2 lc2 X2 xc2 K2 E2;replace K2:=T (K1.out.tr K2.out);go_wp2_with fail;refine ego (My _ base _ _ _ Q _ E2.out O 11 9) ?_;intro w3 L3 lc3 X3 xc3 K3 E3;replace K3:=T (K2.out.tr K3.out);go_wp2_with fail;refine ego (Ke _ base _ _ _ Q _ E3.out O 11 1) ?_;intro w4 L4 lc4 X4 xc4 K4 E4;replace K4:=T (K3.out.tr K4.out);go_wp2_with fail;refine ego (CA _ base _ _ Q _ E4.out O 12 11 a b) ?_;intro w5 L5 lc5 X5 xc5 K5 E5;replace K5:=T (K4.out.tr K5.out);go_wp2_with fail;refine ego (Ke _ base _ _ _ Q _ E5.out O 11 2) ?_;intro w6 L6 lc6 X6 xc6 K6 E6;replace K6:=T (K5.out.tr K6.out);go_wp2_with fail;refine ego (CA _ base _ _ Q _ E6.out O 7 11 a b) ?_;intro w7 L7 lc7 X7 xc7 K7 E7;replace K7:=T (K6.out.tr K7.out);go_wp2_with fail;refine ego (CA _ base _ _ Q _ E7.out O 7 12 a 9) ?_;intro w8 L8 lc8 X8 xc8 K8 E8;replace K8:=T (K7.out.tr K8.out);go_wp2_with fail;refine ego (CA _ base _ _ Q _ E8.out O 5 11 11 12) ?_;intro w9 L9 lc9 X9 xc9 K9 E9;replace K9:=T (K8.out.tr K9.out);go_wp2_with fail;refine ego (My _ base _ _ _ Q _ E9.out O 11 11) ?_;intro w10 L10 lc10 X10 xc10 K10 E10;replace K10:=T (K9.out.tr K10.out);go_wp2_with fail;refine ego (Ke _ base _ _ _ Q _ E10.out O 11 3) ?_;intro w11 L11 lc11 X11 xc11 K11 E11;replace K11:=T (K10.out.tr K11.out)
 go_wp2
 go_end0;exact EL (EPost.of K11.out E11.out) YD O):P:=h
theorem fV(h:P:=by
 refine Bb [10] ?_;refine AT (λK hK=>?_) ?_
 ·go_simp;refine hK.out _ _ ?_ (λhH=>?_);·first|exact((((hH.setCell (p:=⟨↑W0,0,G⟩) (Ah (AD _)) _).setCell (p:=⟨↑W0,1,G⟩) (Ah (AD _)) _).setCell (p:=⟨↑W0,2,G⟩) (Ah (AD _)) _).setCell (p:=⟨↑W0,3,G⟩) (Ah (AD _)) _)|(repeat(first|exact Ao _ _|with_reducible assumption|refine Fr.drewN ?_ _|refine Fr.drew ?_|refine Fr.alloc ?_ _|(refine Fr.setCell (p:=⟨_,_,_⟩) ?_ ?_ _;rotate_left;first|exact Af rfl|(right;simp;done)|(right;simp;omega))))
  clear hK K;refine Av 11 rfl hH GO ?_;refine CT ?_
  try simp only[AG]
  go_wp2
  go_meet;refine⟨_,pc,pl,A,n,c,ct,rfl,rfl, ?_, ?_,T hH⟩
  ·refine T ⟨HB4.out.fr hH id,HB6.out.fr hH id,HB7.out.fr hH id, ?_,(by have:=HZ0.out;have:=F2.out.size;omega),F0.out.tr hH⟩
   first
    |(have hq:=HBZ.out;exact(((hq.set_ 0 _).set_ 1 _).set_ 2 _).set_ 3 _)
    |exact AI _ _ _
  ·refine T (λhkb=>?_)
   first
    |(have hq:=HBZ.out;exact pO (HFO.out hkb) hq)
    |exact fU (HFO.out hkb) ((Ao Aj w2).alloc _)
 exact Bc):P:=h
theorem YH(h:P:=by
 have HE:=T em;clear em hm;go_in;go_wp2_with fail;refine ego (KS _ base p _ Q _ H.out O bs 15 word) ?_;intro w1 L1 lc1 X1 xc1 K1 E1;go_wp2_with fail;refine ego (EX _ base _ _ Q _ E1.out O 11 _) ?_;intro w2 L2 lc2 X2 xc2 K2 E2;replace K2:=T (K1.out.tr K2.out);go_wp2_with fail;refine ego (CA _ base _ _ Q _ E2.out O 12 12 bs 11) ?_;intro w3 L3 lc3 X3 xc3 K3 E3;replace K3:=T (K2.out.tr K3.out);go_wp2_with fail;refine ego (Y5 _ base _ _ _ Q _ E3.out O 12) ?_;intro w4 L4 lc4 X4 xc4 K4 E4;replace K4:=T (K3.out.tr K4.out);go_wp2_with fail;refine ego (EX _ base _ _ Q _ E4.out O 12 _) ?_;intro w5 L5 lc5 X5 xc5 K5 E5;replace K5:=T (K4.out.tr K5.out);go_wp2_with fail;refine ego (CA _ base _ _ Q _ E5.out O 12 12 12 bs) ?_;intro w6 L6 lc6 X6 xc6 K6 E6;replace K6:=T (K5.out.tr K6.out);go_wp2_with fail;refine ego (Y5 _ base _ _ _ Q _ E6.out O 12) ?_;intro w7 L7 lc7 X7 xc7 K7 E7;replace K7:=T (K6.out.tr K7.out);go_wp2_with fail;refine ego (CA _ base _ _ Q _ E7.out O 4 bs bs 11) ?_;intro w8 L8 lc8 X8 xc8 K8 E8;replace K8:=T (K7.out.tr K8.out)
 go_wp2
 go_ret;exact nU (EPost.of K8.out E8.out) NW AC O):P:=h
theorem Z2(h:P:=by
 have gW:=hB.out.fr (hO.out.tr (fW.mono (λ_ _ e=>e.elim))) RJ;have hgr:=HIC.out.lt;have e0:=bW.cell 0;have e2:=bW.cell 2;have hbl1:=bW.lt;go_wp2_with fail;refine(R0 W1 gv g c N tt (HIC.out.fr fW id) (gW.cell 0) gW.lt hgne xa j O O).mono ?_;rintro e W2 ⟨rfl,hI2,f2⟩;have gW2:=gW.fr f2 hgne;have bW2:=bW.fr f2 (by show ¬↑wr=g;omega);have b3:=bW2.cell 3;have hbl:=bW2.lt;obtain⟨t1,ht1⟩:=A8 (upT tt xa (max (tt xa) j));rw[ht1] at hI2;have HUN:=HU2.out xa xb rfl rfl;rw[ht1] at HUN;have HUN:=T HUN;have HI2:=T hI2;have HF3:=T f2;clear hW1 bW f2 hI2 e0 e2 hbl1 c0 c1 c2 c3 c4 hv bW2 hI;go_wp2_with fail;refine(R0 W2 gv g c N t1 HI2.out (gW2.cell 0) gW2.lt hgne xb j O O).mono ?_;rintro e W3 ⟨rfl,hI3,f3⟩;have HX:=T (Ay hI3 ((HF3.out.tr f3)));clear hI3 f3
 go_wp2
 go_roundw;case rel=>
  have fa:Fr (λq=>q=g) wr W3:=(fW.mono (λ_ _ e=>e.elim)).tr HX.out.2;exact⟨j+1,_,O,Bn,HUN,T (IvX.of hgb HX.out.1),T (hO.out.tr (fa.mono (λq _ e=>by show w1.heap.size<q;have:=HGV.out;have:=e;omega))),T (hF.out.trans fa (λq hq e=>by have:=e;have:=F1.out.size;omega))⟩
 case measure=>simp[AM];omega):P:=h
theorem Z9(h:P:=by
 go_wp2_with fail;refine C7 (S:=Fr Aj wr) AL ((Ao Aj wr).drew) (λhH=>?_);refine Av 0 rfl hH CX ?_;refine Av 1 rfl hH CX ?_;refine Bo 2 rfl hH ?_
 try simp only[AG]
 refine Bo 3 rfl hH ?_;refine Bo 4 rfl hH ?_;refine Bo 5 rfl hH ?_
 try simp only[AG]
 refine Bo 6 rfl hH ?_;refine Bo 7 rfl hH ?_;refine Bo 8 rfl hH ?_
 try simp only[AG]
 refine Bo 9 rfl hH ?_;refine Bo 10 rfl hH ?_;refine Bo 11 rfl hH ?_
 try simp only[AG]
 refine Bo 12 rfl hH ?_;refine Bo 13 rfl hH ?_;refine Bo 14 rfl hH ?_
 try simp only[AG]
 refine Bo 15 rfl hH ?_;refine Bo 16 rfl hH ?_;refine Bo 17 rfl hH ?_
 try simp only[AG]
 refine Bo 18 rfl hH ?_;refine Bo 19 rfl hH ?_;refine Bo 20 rfl hH ?_
 try simp only[AG]
 refine Bo 21 rfl hH ?_;refine Av 22 rfl hH CX ?_;refine Av 23 rfl hH CX ?_
 try simp only[AG]
 refine CT ?_
 go_wp2
 go_roundw
 case rel=>exact⟨j+1,O,Bn,by rw[HX0.out];try simp,T (hF2.out.tr hH)⟩
 case measure=>simp[AM];omega):P:=h
theorem ZX(h:P:=by
 clear hd3 hends;go_upto_region 9 with(first
  |((with_reducible refine(Hr.out _).mono ?_);rintro e wq ⟨rfl,fq⟩;have bq:=BX.out.fr fq id;have c0:=bq.cell 0;have c1:=bq.cell 1;have cl:=bq.lt;have FQ:=T (FX.out.trans fq (λ_ _ e=>e));clear fq bq)
  |((with_reducible refine(Hp.out _).mono ?_);rintro e wp ⟨rfl,rfl⟩)
  |((with_reducible refine(He.out _).mono ?_);rintro e we ⟨rfl,rfl⟩))
 go_upto_region 10 with((with_reducible refine(Hs.out _).mono ?_);rintro e we ⟨rfl,rfl⟩);have Ho:=T (one_any wq g g C cc D cd R cr (Lw.new.all pc (l.take k)) N (12*k) (hL.out.fr0 FQ.out) O op n ((z+sz)%4294967296) HP.out);go_wp2_with ((with_reducible refine Az Ho ?_);rintro e wo ⟨rfl,⟨g2,C2,cc2,D2,cd2,R2,cr2⟩,lk,h2,-,-⟩;obtain rfl:g=g2:=lk.g.symm;have HX:=T (Ay lk h2);clear lk h2 Ho);go_roundw;case rel=>
  refine⟨k+1,C2,cc2,D2,cd2,R2,cr2,O,Bn,by rw[hp1.out],T ?_,T ?_⟩;·rw[hp2.out];exact HX.out.2.le O
  ·exact(hF.out.trans FQ.out (λ_ _ e=>e.elim)).trans HX.out.1.f (λq hq e=>hL.out.ge q e)
 case measure=>simp[AM];omega):P:=h
theorem gP(h:P:=by
 refine D5 (λK hK=>?_) ?_
 ·go_simp;refine hK _ _ ?_;clear hK K;refine EY [3] ?_;refine D5 (λK hK=>?_) ?_;·refine KE (stc R.s (Z Aq R.s.d.length caq) (Z Bq R.s.r.length cbq)) OM AQ AJ rfl rfl (NQ (Ea R s.ct) _ _ _ _) rfl rfl BC ?_;exact kE
  exact Fx
 exact Fx):P:=h
theorem bQ(h:P:=by
 refine Bb [10] ?_;refine AT (λK hK=>?_) ?_
 ·go_simp;refine hK.out _ _ ?_ (λhH=>?_);·first|exact((((hH.setCell (p:=⟨↑W1,0,G⟩) (Ah (AD _)) _).setCell (p:=⟨↑W1,1,G⟩) (Ah (AD _)) _).setCell (p:=⟨↑W1,2,G⟩) (Ah (AD _)) _).setCell (p:=⟨↑W1,3,G⟩) (Ah (AD _)) _)|(repeat(first|exact Ao _ _|with_reducible assumption|refine Fr.drewN ?_ _|refine Fr.drew ?_|refine Fr.alloc ?_ _|(refine Fr.setCell (p:=⟨_,_,_⟩) ?_ ?_ _;rotate_left;first|exact Af rfl|(right;simp;done)|(right;simp;omega))))
  clear hK K;refine Av 11 rfl hH GM ?_;refine CT ?_
  try simp only[AG]
  go_wp2
  go_ret;exact⟨rfl,F0.out.tr hH⟩
 exact Bc):P:=h
theorem gF(h:P:=by
 have x0:=m9.cell 0;have x1:=m9.cell 1;have x2:=m9.cell 2;have x3:=m9.cell 3;have xl:=m9.lt;have v0:=m13.cell 0;have v1:=m13.cell 1;have vl:=m13.lt;have r1:g13≠↑w+1:=m13.ne_ m6 Ak;have r2:g9≠↑w+1:=by have:=HQ.out.bx.n9;omega
 have r3:g9≠↑w+1+1:=by have:=HQ.out.bx.n9;omega
 have r4:g13≠↑w+1+1:=by have:=HQ.out.bx.n13;omega
 clear m6 m7 m9 m13
 go_region
 rename ∀(a:Act) (w1:Aa),Code.wp _ Code.ret _ a w1→_=>hK
 refine hK _ _ ?_;clear hK;refine wp_ret ?_;obtain⟨k6,k7⟩:=SO (x0:=J V k.1) (x1:=J V k.2) (x2:=Z C nC cC) (x3:=J .i64 N) (y0:=Z A3 n3 c3) (y1:=.bool ends) HQ.out.bx.b6 HQ.out.bx.b7 O;refine Bt (Lt rfl _ _ (w.heap.size+1) (w.heap.size+2) 149 158 _ _ _ _ (.bool Ag) rfl rfl k6 Tryz.underlying149 rfl szBk rfl k7 Tryz.underlying158 rfl Il) rfl ?_;exact SN HQ.out.el HQ.out.bx.b6 HQ.out.bx.b7 ⟨O,HQ.out.o6⟩ ⟨O,HQ.out.o7⟩ (λ_=>HQ.out.hit) rfl):P:=h
theorem jZ(h:P:=by
 refine hK.out _ _ hH λhH=>?_;clear hK K;refine CJ 7 (Ap Ac) rfl hH (by intro X hSw;obtain⟨r0,r1,r2,q0⟩:=hSw;go_simp;first|omega|(split<;>omega)) ?_
 refine Av 8 rfl hH GR ?_;refine Av 9 rfl hH GR ?_
 try simp only[AG]
 refine Av 10 rfl hH GR ?_;refine Av 11 rfl hH GR ?_;refine Av 12 rfl hH GR ?_
 try simp only[AG]
 refine Av 13 rfl hH GR ?_;refine Av 14 rfl hH GR ?_;refine CT ?_
 go_wp2
 go_meet;exact⟨rfl,HF⟩):P:=h
theorem cG(h:P:=by
 refine Az Hc ?_;rintro e2 w2 ⟨A2,c2,B2,d2,rfl,h2,ne2,f2⟩;have b3:=HB2.out.fr f2 id;have o2:=Ce s (Z A2 s.d.length c2) (Z B2 s.r.length d2) rfl rfl;have HG:=T (Ay h2 (Ay ne2 f2));clear h2 ne2 f2 b1 Hc;go_wp2_with (((with_reducible refine BL (cs':=stc s (Z A2 s.d.length c2) (Z B2 s.r.length d2)) b3 AJ o2 ?_);intro W7 b7 f7;have HB7:=T b7;have HF7:=T f7;clear b7 f7 b3 o2));refine Bt (CV rfl _ _ w.heap.size 39 _ _ rfl HB7.out AQ rfl AJ) rfl ?_;obtain⟨h2,ne2,f2⟩:=HG.out;have e1: ∀k,w.heap.size+1≤k→ ¬k=w.heap.size:=λk hk=>O;refine⟨A2,c2,B2,d2,rfl, ?_,ne2,((HF1.out.tr f2).trans HF7.out (λk hk q=>O))⟩;refine(h2.fr HF7.out (λk hk q=>e1 k ?_ q) (λk hk q=>e1 k ?_ q)).low (by rw[HZ1.out];omega);·have:=h2.d.ge k hk;rw[HZ1.out] at this;exact this
 ·have:=h2.r.ge k hk;rw[HZ1.out] at this;exact this):P:=h
theorem gM(h:P:=by
 refine hK _ _ ?_;clear hK K;refine EY [1] ?_;refine D5 (λK hK=>?_) ?_;·go_simp;go_wp2_with ((refine Az Hcp ?_);rintro e w7 ⟨A7,c7,B7,d7,rfl,h7,ne7,f7⟩;have k14:=(HB.out.1.drew.fr f7 id).cell 14;have hgl:=(HB.out.1.drew.fr f7 id).lt;have HY:=T (Ay h7 (Ay ne7 f7));clear h7 ne7 f7);exact gK
 exact Fx):P:=h
theorem Uv(h:P:=by have b4:=HQ.out.1;have b5:=B23.out.fr HQ.out.2 (λe=>O);have o3:=Ce (setS s reg v) (Z A1 s.d.length c1') (Z B1' s.r.length d1') rfl rfl;go_wp2_with ((with_reducible refine wpL_lq b4 AQ AJ ?_);(with_reducible refine BL (cs':=stc (setS s reg v) (Z A1 s.d.length c1') (Z B1' s.r.length d1')) b5 AJ o3 ?_);intro W5 b6 f5;have B5:=T b6;have F5:=T f5;clear b6 f5 b4 b5);refine Bt (P9 rfl _ _ (w.heap.size+1) 39 _ _ _ rfl rfl B5.out AQ rfl AJ) rfl ?_;rw[hb];exact ended2 (g1:=w.heap.size) (g2:=w.heap.size+1) _ F0.out (AD _) AA O AC F1.out HS.out HN.out (F3.out.tr HQ.out.2) F5.out HT.out.1 HT.out.2.1 HT.out.2.2):P:=h
theorem gO(h:P:=by
 refine hK _ _ ?_;clear hK K;refine EY [7] ?_;refine D5 (λK hK=>?_) ?_;·go_simp;exact kE
 exact Fx):P:=h
theorem gN(h:P:=by
 refine hK _ _ ?_;clear hK K;refine Gj 8 rfl Gk ?_;simp only[AG];refine EY [9] ?_;refine D5 (λK hK=>?_) ?_
 ·go_simp;refine hK _ _ ?_;clear hK K;refine EY [10] ?_;refine D5 (λK hK=>?_) ?_;·exact kF
  exact Fx
 exact Fx):P:=h
theorem Lh(h:P:=by obtain⟨⟨g1,C1,cc1,D1,cd1,R1,cr1⟩,h1,l1⟩:=hcut;obtain rfl:g=g1:=l1.g.symm;replace HP:=T (Ay h1 l1);clear h1 l1;go_upto_region 37 with((with_reducible refine(topD_any _ _ _ _ _ _ HP.out.1 O).mono ?_);rintro e Wt ⟨rfl,⟨gt,Ct,cct,Dt,cdt,Rt,crt⟩,lt,ht,-,-⟩;obtain rfl:g=gt:=lt.g.symm;replace HP:=T (Ay ht (HP.out.2.tr lt));clear lt ht);go_wp2_with ((with_reducible refine(topR_any _ _ _ _ _ _ HP.out.1 O).mono ?_);rintro e Wu ⟨rfl,pu,lu,hu,-,-⟩;have HU:=T (Ay (HP.out.2.tr lu) hu);clear lu hu);go_end0;exact⟨rfl,pu,HU.out.1,HU.out.2,λe=>KB,λe=>KB⟩):P:=h
theorem Vt(h:P:=by
 unfold putR;rw[hl];by_cases h1:i<off;·rw[Ae O,Ff AA,Dq h1];exact hcs
 ·rw[Ex AA];have hto:(cs.toList.take off).length=off:=AA;rw[hto];by_cases h2:i<off+n;·rw[An ⟨O,h2⟩,Ff LZ,AS];have:i -off<(zs.map (J k)).length:=LZ;rw[BK this];rfl
  ·rw[Ae O,Ex LZ,hl,List.getElem?_drop,show off+n+(i -off -n)=i by omega];exact hcs):P:=h
theorem kE(h:P:=by
 refine hK _ _ ?_;clear hK K;refine Gj 8 rfl Gk ?_;simp only[AG];refine EY [10] ?_;refine D5 (λK hK=>?_) ?_;·exact kF
 exact Fx):P:=h
theorem fY(h:P:=by
 clear hK K;refine Bb [7] ?_;refine AT (λK hK=>?_) ?_
 ·go_simp;refine hK.out _ _ ?_ (λhH=>?_);·first|exact((hH.setCell (p:=⟨↑w1,0,G⟩) (Ah (AD _)) _).setCell (p:=⟨↑w1,1,G⟩) (Ah (AD _)) _)|(repeat(first|exact Ao _ _|with_reducible assumption|refine Fr.drewN ?_ _|refine Fr.drew ?_|refine Fr.alloc ?_ _|(refine Fr.setCell (p:=⟨_,_,_⟩) ?_ ?_ _;rotate_left;first|exact Af rfl|(right;simp;done)|(right;simp;omega))))
  clear hK K;refine CT ?_
  try simp only[AG]
  go_wp2
  go_meet;refine⟨_,rfl,T ?_,T hH⟩;exact AI _ _ _
 exact Bc):P:=h
theorem gK(h:P:=by
 refine Gj 6 rfl Gk ?_;simp only[AG];refine EY [7] ?_;refine D5 (λK hK=>?_) ?_
 ·go_simp;refine hK _ _ ?_;clear hK K;refine Gj 8 rfl Gk ?_;refine kG ?_;simp only[AG]
  go_wp2
  go_meet;exact⟨_,_,rfl,T (begun (x:=⟨St.up s,s.ct,0,0,Ac⟩) M6'.out HY.out.1 HY.out.2.1 ((Ao Aj w6).drew.tr HY.out.2.2) (by show s.d.length≤1000∧s.r.length≤1000;have:=HL.out;omega))⟩
 exact Fx):P:=h
theorem Rf(h:P:=by go_wp2_with ((with_reducible refine wpL_lq b22 AQ AJ ?_);(with_reducible refine BL (cs':=stc S (Z A1 S.d.length c1) (Z B1 S.r.length d1)) b2d AJ o7 ?_);intro W8 b8 f8;have B8:=T b8;have F8:=T f8;clear b8 f8 b2d b22 o7);refine Bt (Ca.results_ct rfl _ _ (w.heap.size+1) 39 _ _ (.bool Ac) rfl rfl B8.out AQ rfl AJ) rfl ?_;exact got_end F0.out AC HX1.out.1 HX1.out.2.1 HX1.out.2.2 F2.out F8.out):P:=h
theorem ZN(h:P:=by
 refine⟨k+1,⟨upN s.pl k m,s.out++[Ey (upN s.pl k m) m ⟨op,dst,xa,xb,imm⟩]⟩,A3,c3,m+1,O,Bn,rfl,O,T (by rw[Cq,hsm.out];rfl),T (S1.out AC),T ?_,T ?_,T ((F8.out.alloc _).grown HX.out.2 (λq hq=> Ah (hbo q hq)))⟩;·rw[hm2,Za];exact HX.out.1
 ·exact Cells.fr (LG CP8.out _) ((Ao (λq=>W6.heap.size≤q) _).grown HX.out.2 (λq hq=> Af (hbo q hq))) (by show ¬↑W6≤gp;omega)):P:=h
theorem iT(h:P:=by
 by_cases h1:0<n
 ·have g1:decide (n>0)=Ag:=Dh;have g2:=hwb h1;obtain⟨b3,g3⟩:=A8 (decide (D<n));have G1:=T g1;have G3:=T g3;clear hwb h1
  cases ha
  ·go_wp2
   go_meet;refine⟨_,rfl,T ?_,rfl⟩;rw[G1.out,G3.out];rfl
  ·exact kH
 ·have g1:decide (n>0)=Ac:=Dh;have G1:=T g1;clear hwb h1;exact kH):P:=h
theorem ZV(h:P:=by
 have FQ:=T fq;clear fq bq;go_wp2_with ((with_reducible refine Az Hu ?_);rintro e W7 ⟨rfl,hX⟩);go_roundw
 case rel=>exact⟨k,(k:Int) -1,EM u [(xa:Int),(xb:Int)],O,Bn,T rfl,T (HUS.out _ (S1.out xa xb AC O AC AC)),T hX.out.1,T (hF.out.trans (FQ.out.mono (S':=λq=>q=gu) (λ_ _ e=>e.elim)|>.tr hX.out.2) (λ_ _ e=>e))⟩
 case measure=>first|(simp[AM];done)|(simp[AM];omega)):P:=h
theorem kF(h:P:=by
 refine step_stm (cs':=EK R.s (Z Aq R.s.d.length caq) (Z Bq R.s.r.length cbq) Ac R.dv (Z G 0 0)) bt szR (show(19:Nat)≤19 by omega) rfl oR rfl rfl BC BC ?_;intro W9 b9 f9;refine hK _ _ ?_;clear hK K;refine kG ?_
 go_wp2
 go_meet;rw[res_set _ rfl] at b9;exact⟨_,rfl,T ⟨b9,AD _,(((Ao Aj wr).drew).alloc _).trans f9 (λk hk e=>O)⟩⟩):P:=h
theorem aF(h:P:=by
 have hb2:bs[j]≠bs[i]' O:=λe2=>e ((List.getElem_inj hn).1 e2);have hiff:(bs.getD j 0∈seen.push (bs[i]' O))↔bs.getD j 0∈seen:=by
  rw[Array.mem_push];have:bs.getD j 0=bs[j]:=by simp[AS,hjb]
  rw[this];exact⟨λh=>h.elim id (λh=>absurd h hb2),Af⟩
 unfold one;by_cases hs:bs.getD j 0∈seen;·rw[An hs,An (hiff.2 hs)]
 ·rw[Ae hs,Ae (λh=>hs (hiff.1 h))]):P:=h
theorem WN(h:P:=by
 obtain⟨t,ht⟩:=A8 (p q);rw[ht] at Hp;have HT:=T ht;clear ht;go_wp2_with fail;refine Az Hp ?_;rintro e w1 ⟨rfl,hI1⟩;have HI1:=T hI1;clear hI1
 cases t
 ·go_wp2
  go_roundw;case rel=>exact⟨q+1,O,Bn,λj hj=>by
   rcases(by omega:j<q∨j=q) with h|rfl;·exact HNO.out j h
   ·exact HT.out,HI1.out⟩
  case measure=>simp[AM];omega
 ·go_wp2
  go_ret;exact Af ⟨q,hlt,rfl,HNO.out,HT.out,HI1.out⟩):P:=h
theorem Z7(h:P:=by
 rw[hx] at hcell HD1 hmem;clear hx e2 hP2 bpw;go_wp2_with fail;refine(use_x wr ↑w1 gv c N A t2 x N hmem O HNE.out hI2.out gvw).mono ?_;rintro e w' ⟨rfl,h3,f3⟩;have HX:=T (Ay h3 f3);clear h3 f3
 go_wp2
 go_roundw;case rel=>
  refine⟨_,_,_,_,_,_,_,_,_,_,_,_,⟨j+1,_,O, ?e1,T (HD1.out x rfl),T HX.out.1,T (hF2.out.tr HX.out.2)⟩,rfl⟩
  case e1=>go_num
 case measure=>simp[AM];omega):P:=h
theorem YO(h:P:=by
 have g0:decide (imm≥16)=Ag:=by simpa using q0
 have g1:decide (imm≤23)=Ag:=by simpa using q1
 clear hlow harg hret hab halu hflg hop hv0 ha hb2;go_in;go_wp2_with (first
  |((with_reducible refine(hva.out _).mono ?_);rintro e w' ⟨rfl,rfl⟩)
  |((with_reducible refine(hvb.out _).mono ?_);rintro e w' ⟨rfl,rfl⟩))
 all_goals
  go_ret;exact⟨rfl,((Ao _ w).alloc _).alloc _⟩):P:=h
theorem Y4(h:P:=by
 go_wp2_with fail;refine ego (CA _ base p _ Q _ H.out O 4 rd a b) ?_;intro w1 L1 lc1 X1 xc1 K1 E1;go_wp2_with fail;refine ego (Yx _ base _ _ _ Q _ E1.out O rd) ?_;intro w2 L2 lc2 X2 xc2 K2 E2;replace K2:=T (K1.out.tr K2.out)
 go_wp2
 go_end0;exact EL (EPost.of K2.out E2.out) Mx O):P:=h
theorem Zf(h:P:=by
 rw[ec,hW1] at k1 k3 Ha L1 hgl1;go_in;go_wp2_with fail;go_region_law (first|(go_simp;(with_reducible refine(Ha.out _ ((Ao _ _).drew)).mono ?_);intro e w' hq;have he:=hq.1;subst he;have HQ:=T hq;clear hq))
 all_goals
  simp only[AG]
  go_wp2
  go_ret;exact((LPost.then (L1.out.fr0 (Ao _ _).drew) ⟨rfl,rfl⟩ ⟨rfl,rfl⟩ HQ.out).le O).weak):P:=h
theorem YN(h:P:=by
 clear hlow harg hret hab halu hflg hop hlt
 cases bb
 ·exact Oo
 ·exact Oo):P:=h
theorem U8(h:P:=by
 go_roundw;case rel=>
  refine⟨k+1,O,Bn, ?_,(fr.alloc _).grown hg1 (λq hq=> Ah (hat q hq)),λq hq=>?_⟩;·rw[Hs.out];simpa[JH] using hown1
  ·rcases hat1 with e|e;·exact hat q (by rw[←e];exact hq)
   ·rw[e] at hq;have:↑wr+1=q:=KQ;have:=fr.size;omega
 case measure=>simp[AM];omega):P:=h
theorem Ih(h:P:=by
 obtain rfl:=z3 ⟨O,O⟩;clear z1 z2 z3 z4 z5 z6 z7;go_in;go_wp2_with fail
 go_region
 all_goals
  go_wp2_with fail;exact Bt (Ca.results_ct rfl _ _ (w.heap.size+1) 270 (hA _) _ (Ap Ag) rfl rfl ((QT w _ _ _ _).drew) Tryz.underlying270 rfl szH) rfl ⟨rfl,((((Ao _ w).alloc _).alloc _).alloc _).drew⟩):P:=h
theorem ZU(h:P:=by
 clear hb11 fs hbz
 go_wp2
 go_meet;refine⟨_,T HX.out.1,T ⟨HX.out.2.1,AR HR3.out.1 HX.out.2.2 (λk hk e=>?_),AR HR3.out.2.1 HX.out.2.2 (λk hk e=>?_),HR3.out.2.2.tr HX.out.2.2⟩⟩;·have:=Cn HR3.out.1 k hk;have e2:k=↑w:=e;omega
 ·have:=Cn HR3.out.2.1 k hk;have e2:k=↑w:=e;omega):P:=h
theorem ZY(h:P:=by clear hb2;go_wp2_with ((with_reducible refine(Hsg.out _).mono ?_);rintro e wq ⟨rfl,rfl⟩);go_meet;exact⟨(z+CM n)%4294967296,0,T (by rw[HNT.out.1,HNT.out.2,An HJ.out,An HJ.out];exact⟨rfl,rfl⟩),T (BP6.out.set_ 8 _),T ((Ao (λq=>q=gp) W6).setCell (p:=⟨gp,8,G⟩) (Af rfl) _)⟩):P:=h
theorem KO(h:P:=by
 clear z1 z2 z3 z4 z5 z6 z7;go_in;go_wp2_with fail
 go_region
 all_goals
  go_wp2_with fail;exact Bt (Ca.results_ct rfl _ _ (w.heap.size+1) 270 (hA _) _ (Ap Ag) rfl rfl ((QT w _ _ _ _).drew) Tryz.underlying270 rfl szH) rfl ⟨rfl,((((Ao _ w).alloc _).alloc _).alloc _).drew⟩):P:=h
theorem Xa(h:P:=by
 have HA2:Hid (a=(kept p (b+1)).length):=T (by rw[e1];exact HA.out);clear hCs bB2 bB e1
 go_wp2
 go_roundw;case rel=>
  obtain⟨F2,g1,g2,g3⟩:=HX.out;exact⟨a,b+1,F2,rfl,Bn,O,O,HA2.out,O,HI2.out,by have:=FB.out.size;omega,g1,g2,g3⟩
 case measure=>simp[AM];omega):P:=h
theorem Vl(h:P:=by
 rintro e w' ⟨rfl,rfl⟩;go_wp2_with fail
 go_region
 all_goals
  go_wp2_with fail
  try simp only[Exit.inBlock,Exit.then]
  have hf:=HEnd.out (J U 10) (J V va);exact Bt (results_tc rfl _ _ (w.heap.size+1) 190 _ _ _ rfl rfl hf.1 Tryz.underlying190 rfl szT) rfl ⟨rfl,hf.2⟩):P:=h
theorem Vj(h:P:=by
 rintro e w' ⟨rfl,rfl⟩;go_wp2_with fail
 go_region
 all_goals
  go_wp2_with fail
  try simp only[Exit.inBlock,Exit.then]
  have hf:=HEnd.out (J U 0) (J V 0);exact Bt (results_tc rfl _ _ (w.heap.size+1) 190 _ _ _ rfl rfl hf.1 Tryz.underlying190 rfl szT) rfl ⟨rfl,hf.2⟩):P:=h
theorem Rj(h:P:=by
 intro w1 L1 lc1 X1 xc1 K1 E1;go_wp2_with fail;refine ego (Yx _ base _ _ _ Q _ E1.out O rd) ?_;intro w2 L2 lc2 X2 xc2 K2 E2;replace K2:=T (K1.out.tr K2.out)
 go_wp2
 go_end0;exact EL (EPost.of K2.out E2.out) Mx O):P:=h
theorem Yh(h:P:=by
 go_wp2_with fail;refine Az Hs ?_;rintro e w1 ⟨rfl,hM1,f1⟩;have HX:=T (Ay hM1 (hF.out.tr f1));clear hM1 f1
 go_wp2
 go_roundw
 case rel=>exact⟨k+1,O,Bn,T (by rw[←hls.out];exact HX.out.1),T HX.out.2⟩
 case measure=>simp[AM];omega):P:=h
theorem ZC(h:P:=by
 exact Cells.new' w _ _ n _ (by
  rw[e];apply List.ext_getElem?;intro i;rw[List.getElem?_replicate,DP];by_cases hi:i<n;·rw[An hi,IL hi];rfl
  ·rw[Ae hi,Ew (by rw[List.length_range];omega)];rfl)):P:=h
theorem XV(h:P:=by
 refine⟨g,0,rfl,hb.lt, ?_, ?_, ?_, ?_, ?_⟩;·rw[BW];exact key 0 O
 ·rw[BW];exact key 1 O
 ·rw[BW];exact key 2 O
 ·rw[BW];exact key 3 O
 ·rw[BW];exact key 4 O):P:=h
theorem iD(h:P:=by
 have hj:j<16:=hj
 match j,hj with
 |0,_=>rfl
 |1,_=>rfl
 |2,_=>rfl
 |3,_=>rfl
 |4,_=>rfl
 |5,_=>rfl
 |6,_=>rfl
 |7,_=>rfl
 |8,_=>rfl
 |9,_=>rfl
 |10,_=>rfl
 |11,_=>rfl
 |12,_=>rfl
 |13,_=>rfl
 |14,_=>rfl
 |15,_=>rfl
 |j+16,hj=>exact absurd hj O):P:=h
theorem WV(h:P:=by obtain⟨F,g1,g2,g3⟩:=HR1.out;exact⟨m0,m0+1,F,rfl,Bn,O,O,HP.out.1.symm,O,HI1.out,hs1,g1,λt ht c hc=>by rw[HP.out.2 t ht];exact g3 t (by have:=HP.out.1;omega) c hc,λq _ hq c hc=>g3 q hq c hc⟩):P:=h
theorem Wl(h:P:=by intro j hj;have hj:j<16:=hj;have hc:j=0∨j=1∨j=2∨j=3∨j=4∨j=5∨j=6∨j=7∨j=8∨j=9∨j=10∨j=11∨j=12∨j=13∨j=14∨j=15:=O;rcases hc with rfl|rfl|rfl|rfl|rfl|rfl|rfl|rfl|rfl|rfl|rfl|rfl|rfl|rfl|rfl|rfl<;>rfl):P:=h
theorem TC(h:P:=by exact⟨⟨h.D,h.R,h.fl,h.same⟩,by show takeD op≤_;omega,by show takeR op≤_;omega,by show c.d.length=_ -takeD op+putD op;omega,by show c.r.length=_ -takeR op+putR op;omega,⟨[],AC⟩,rfl,AD _,AD _⟩):P:=h
theorem RK(h:P:=by
 clear hab
 go_wp2
 go_roundw
 case rel=>exact⟨j+1,tt,O,Bn,T (HU1.out O),T (IvX.of hgb (HIC.out.fr ((Ao Aj wr).alloc _) id)),T (hO.out.alloc _),T (hF.out.alloc _)⟩
 case measure=>simp[AM];omega):P:=h
theorem UW(h:P:=by
 have e:k=n:=O;subst e;have hG:NewP w gp s o k (Ax (AF #[Bm (I ⟨↑w1+1+1,0,G⟩),J U 0])) wr:=⟨_,rfl,rfl,newT_end hT,hPz,Hbl.out,frz⟩;have HG:=T hG;clear hG
 go_wp2
 go_ret2;exact HG.out):P:=h
theorem RU(h:P:=by
 go_wp2
 go_roundw
 case rel=>exact⟨k,(k:Int) -1,u,O,Bn,T rfl,T (HUS.out _ (S0.out (Ah O))),T (hC.out.alloc _),T (hF.out.alloc _)⟩
 case measure=>first|(simp[AM];done)|(simp[AM];omega)):P:=h
theorem Ns(h:P:=by have hp':tmps[p]?.getD BY=v:=LM;have hq':=Ni;simp[results,h,hp',hq',asAddr,run_loadVar_row w g' t' ty' cs' (0,0) d' hg' hu' hd' hi',GT,ES]):P:=h
theorem US(h:P:=by have hr:=run_make (P:=Tryz.prog) w 128 4 i0 (Ap Ac) Tryz.underlying128 hi0 hz0 U U n n O O N3 O;simp only[Du,hz1,Nat.mul_one] at hr;exact hr):P:=h
theorem UQ(h:P:=by have hr:=run_make (P:=Tryz.prog) w 85 3 i0 (J U 0) FV hi0 hz0 U U n n O O N3 O;simp only[Du,hz1,Nat.mul_one] at hr;exact hr):P:=h
theorem XR(h:P:=by
 have hs:=h.f.size;refine⟨k.g.trans h.g,λi hi=>?_,h.f.trans k.f (λi hi e=>?_)⟩;·exact VQ
 ·rcases h.it i e with e|e;·exact e
  ·omega):P:=h
theorem YQ(h:P:=by
 rw[hx] at hcell Hv;clear hx hmem e2;go_wp2_with fail;refine(Hv.out _).mono ?_;rintro e w' ⟨rfl,rfl⟩;go_wp2_with fail
 go_round
 case rel=>exact⟨j+1,O,Bn⟩
 case measure=>simp[AM];omega):P:=h
theorem bC(h:P:=by
 clear HN HY;go_upto_region 4 with(fail);go_still_tail 5,AL;change Cy _ _ _ _ _ wr.drew
 go_wp2
 go_roundw
 case rel=>exact⟨q+1,O,Bn,HP.out⟩
 case measure=>simp[AM];omega):P:=h
theorem Xb(h:P:=by
 go_wp2
 go_ret;refine⟨by rw[←HA.out];rfl,HI3.out, ?_⟩;rw[←HA.out];refine⟨_,hC2.out,O,λt ht c hc=>?_⟩;rw[←HK.out t JS c hc];unfold putR;rw[Ae O]):P:=h
theorem aN(h:P:=by
 rcases h.2 with⟨e2,_⟩|⟨g',cap,cur,e2,_,hb,_⟩
 ·injection e2 with e2;rw[e2] at e
  cases e
 ·injection e2 with e2;rw[e2] at e;have:g'=q:=MN;exact Ss):P:=h
theorem Vh(h:P:=by
 simp only[part] at cz;go_wp2_with fail;refine Az Hg ?_;rintro e w' ⟨rfl,rfl⟩
 go_wp2
 go_roundw
 case rel=>exact⟨r+1,O,Bn,HM.out,HC.out,HF.out⟩
 case measure=>simp[AM];omega):P:=h
theorem XW(h:P:=by obtain⟨b,off,e,hb,c0,c1,c2,c3,c4⟩:=h k hk;have hn:=hs b hb;have hl:b<↑w:=O;exact⟨b,off,e,hb,f.cell c0 hl hn,f.cell c1 hl hn,f.cell c2 hl hn,f.cell c3 hl hn,f.cell c4 hl hn⟩):P:=h
theorem OF(h:P:=by go_in;go_upto_region 1 with(fail);rw[HW.out];go_wp2_with ((with_reducible refine(He.out _).mono ?_);rintro e w1 ⟨rfl,rfl⟩);go_ret;exact⟨cO,F0.out⟩):P:=h
theorem XZ(h:P:=by
 generalize s.at_=a at*;generalize s.l.length=n at*;clear ha;go_in;go_wp2_with fail;go_quiet (fail)
 go_wp2
 go_ret;exact⟨rfl,H.out.fr0 ((Ao _ w).drewN _),(Ao _ w).drewN _⟩):P:=h
theorem VC(h:P:=by
 go_in;go_wp2_with fail;refine(lX w b2 _ _ _ _ _ hr (AD _) GW ho hb2).mono ?_;rintro e w1 ⟨v,rfl,ho1,f1,hk1⟩
 go_wp2
 go_ret;exact⟨v,rfl,ho1,f1,hk1⟩):P:=h
theorem Yy(h:P:=by
 intro w2 L2 lc2 X2 xc2 K2 E2;replace K2:=T (K1.out.tr K2.out)
 go_wp2
 go_end0;exact EL (EPost.of K2.out E2.out) Mx O):P:=h
theorem Vp(h:P:=by subst h0;have:zs=[]:=List.eq_nil_of_length_eq_zero hlz;subst this;exact h w (hC.congr (λi _=>Uy)) (Ao _ _)):P:=h
theorem aM(h:P:=by
 rcases h with⟨_,h2,_⟩|⟨gl,e2,⟨F,h1,_⟩,_⟩;·rw[h2] at e;cases e
 ·rw[e2] at e;have:gl=q:=MN;subst this;obtain⟨cs,hc,_⟩:=h1;exact srt_blk hc):P:=h
theorem WO(h:P:=by
 have hd:decide ((q:Int)<(n:Int))=Ac:=AA;have e:q=n:=O;have HE:=T e;clear e hI
 go_wp2
 go_ret;have e:=HE.out;subst e;exact Ah ⟨rfl,HNO.out,HW.out⟩):P:=h
theorem Wo(h:P:=by
 induction L with
 |nil=>intro bs h;cases bs<;>simp[Bi] at h⊢
 |cons p L ih=>
  intro bs h
  cases bs with
  |nil=>simp at h
  |cons b bs=>simp[Bi,ih bs D7]):P:=h
theorem TA(h:P:=by
 rw[e];simp only[Gw];refine⟨⟨[],AC⟩,p1,p2, ?_, ?_⟩;·simpa[FI] using p3
 ·simpa[FI] using p4):P:=h
theorem WC(h:P:=by rw[mP L bs h.len j];simp[Jq,Fe ht,Iw h.b,K.check w _ hx,h2,Jp _ h.b,ES,setBlock]):P:=h
theorem j7(h:P:=by
 have e0:0=gg:=e0;have t0:=hM0.tab.2 0 Ak;have t1:w.cell? ⟨gg,0,G⟩=I ↑a.gB:=hb0.cell 0;rw[←e0] at t1;rw[t1] at t0;injection t0 with t0
 cases t0):P:=h
theorem Uh(h:P:=by exact⟨e1.pushD _ (by simp[e2];omega),(E1.pushD _).more O O O Ug O⟩):P:=h
theorem XY(h:P:=by
 rw[hq];have HT:=T (nI w q)
 cases q
 all_goals
  go_in;go_wp2_with fail;refine Az HT ?_;rintro e w' ⟨rfl,rfl⟩
  go_wp2
  go_ret;exact⟨rfl,rfl⟩):P:=h
theorem PF(h:P:=by
 congr 1;funext j;dsimp only;by_cases e:j=k;·subst e;simp
 ·rw[Ae e];by_cases h:j<k;·rw[An h,An O]
  ·rw[Ae h,Ae O]):P:=h
theorem Um(h:P:=by show 0≤(x -y)%18446744073709551616∧(x -y)%18446744073709551616<18446744073709551616∧(x -y)%18446744073709551616%4294967296=(x -y)%4294967296;omega):P:=h
theorem iK(h:P:=by
 cases q2
 ·exact SX
 ·exact SX):P:=h
theorem U4(h:P:=by
 have Hp:=T hp;have Hf:=T fr2;clear hp fr2
 go_wp2
 go_roundw
 case rel=>exact⟨k+1,O,Bn,Hp.out,Hf.out⟩
 case measure=>simp[AM];omega):P:=h
theorem Nf(h:P:=by
 obtain⟨h1,h2⟩:=h;refine⟨h1, ?_⟩;rcases h2 with h2|⟨g,cap,cur,hv,hg,r⟩;·exact Af h2
 ·exact Ah ⟨g,cap,cur,hv,Bf hb hg,r⟩):P:=h
theorem qM(h:P:=by
 rcases hk with e|e;·exact⟨hn.d.ge k (ab_own hn.d e),hn.d.lt k (ab_own hn.d e)⟩
 ·exact⟨hn.r.ge k (ab_own hn.r e),hn.r.lt k (ab_own hn.r e)⟩):P:=h
theorem Xf(h:P:=by refine⟨A1,c1,rfl,hown1,((Ao _ _).alloc _).grown hg1 (λk hk=>?_)⟩;have e:=Qa;exact Ah O):P:=h
theorem Zo(h:P:=by
 have e:=ab_own hown hk;rcases hat with e2|e2;·exact Od
 ·rw[e2] at e;exact Ah (by have:↑W=k:=(by simpa using e);omega)):P:=h
theorem qN(h:P:=by
 have h1:=f2.size;rcases r with r|r|r;·have r:W.heap.size=w2.heap.size:=r;omega
 ·have:=hbl _ r;omega
 ·have r:↑W=ad.gp:=r;have:=HWl.out.2;omega):P:=h
theorem On(h:P:=by
 intro w1 L1 lc1 X1 xc1 K1 E1
 go_wp2
 go_end0;exact EL (EPost.of K1.out E1.out) Mx O):P:=h
theorem gV(h:P:=by
 exact absurd hR.out.2 (by
  obtain⟨j,hj⟩: ∃j,m -k=j+1:=⟨m -k -1,O⟩;rw[hj];rintro⟨i,n',h2,_⟩;rw[HOF.out] at h2
  cases h2)):P:=h
theorem Wi(h:P:=by
 go_wp2_with fail;refine Az H0 ?_;intro e w1 hq;have he:=hq.1;subst he;have HQ0:=T hq;clear hq
 go_wp2
 go_end0;exact DPost.from0 F0.out HQ0.out):P:=h
theorem Oo(h:P:=by go_in;go_wp2_with ((with_reducible refine(hv0.out _).mono ?_);rintro e w' ⟨rfl,rfl⟩);go_ret;exact⟨rfl,((Ao _ w).alloc _).alloc _⟩):P:=h
theorem Yb(h:P:=by
 have g5:decide (pl≥256)=Ag:=KQ
 go_wp2
 go_ret;rw[HR.out,An hq];exact⟨rfl,Kc F2.out ⟨H2.out,Ao _ _⟩⟩):P:=h
theorem Xo(h:P:=by unfold GH;rw[Ae O,Ae O,Ae O,Ae O,Ae O,An O];congr 1;omega):P:=h
theorem WA(h:P:=by simp[Jq,Fe ht,Iw h.b,K.check w _ hx,h2,Jp _ h.b,ES,setBlock]):P:=h
theorem Wh(h:P:=by unfold reckS;dsimp only;rw[Ae O,Ae O,Ae O,Ae O,Ae O,hh,Ae AC]):P:=h
theorem YZ(h:P:=by
 clear em ht;go_in;go_wp2_with fail
 go_region
 all_goals
  go_wp2
  go_end0;exact⟨rfl,HX.out.1.fr (Ao Aj _).drew id,HX.out.2.drew⟩):P:=h
theorem ZI(h:P:=by
 refine CT ?_
 go_wp2
 go_roundw
 case rel=>exact⟨j+1,q,O,Bn,rfl,hQ,hqk,T (hW.out _ hH)⟩
 case measure=>simp[AM];omega):P:=h
theorem VB(h:P:=by
 have HG:=T hG;clear hG h0 hz;go_in;go_wp2_with fail;refine(lW w).mono ?_;rintro e w1 ⟨rfl,rfl⟩
 go_wp2
 go_ret;exact HG.out):P:=h
theorem UC(h:P:=by
 clear hb e1 e2;go_in;go_wp2_with fail;refine(Hf.out _).mono ?_;rintro e w' ⟨rfl,rfl⟩
 go_wp2
 go_ret;exact⟨rfl,h,Ao _ _⟩):P:=h
theorem Wj(h:P:=by
 have hj:j<ds.size:=by
  have:=(List.getElem?_eq_some_iff.1 hv).1;simpa using this
 rw[BW,h.cell j,hds j hj];simpa using hv):P:=h
theorem Xm(h:P:=by
 rw[e] at h;by_cases q:256≤(s.g ra+x)%18446744073709551616;·rw[An q] at h;cases h
 ·rw[Ae q] at h;exact⟨O,h⟩):P:=h
theorem EW(h:P:=by
 go_wp2_with fail;refine(Hn.out _).mono ?_;rintro e w' ⟨rfl,rfl⟩
 go_wp2
 go_ret;exact⟨by rw[hfv.out];rfl,F3.out.alloc _⟩):P:=h
theorem UV(h:P:=by
 clear hT2
 go_wp2
 go_roundw
 case rel=>exact⟨k+1,O,Bn,HT2.out,HP2.out,FR2.out⟩
 case measure=>simp[AM];omega):P:=h
theorem YW(h:P:=by
 rw[g1,g2] at hr;simp at hr;subst hr;go_in;go_wp2_with fail
 all_goals
  go_ret;exact⟨rfl,((Ao _ w).alloc _).alloc _⟩):P:=h
theorem U9(h:P:=by
 go_wp2
 go_roundw
 case rel=>exact⟨k+1,O,Bn,by rw[Hs.out];exact hown,fr,hat⟩
 case measure=>simp[AM];omega):P:=h
theorem UM(h:P:=by
 clear hv hp e1 e2 hi hx;go_in;go_wp2_with fail;refine Az Hv ?_;rintro e w' ⟨rfl,rfl⟩
 go_wp2
 go_ret2;exact⟨rfl,rfl⟩):P:=h
theorem VW(h:P:=by
 subst e;obtain⟨h1,h2⟩:=h;have d1:=NJ;clear hq;go_in
 go_wp2
 go_ret;exact⟨rfl,rfl⟩):P:=h
theorem YX(h:P:=by
 simp[h3] at hr;subst hr;clear h3;go_in;go_wp2_with fail
 all_goals
  go_ret;exact⟨rfl,((Ao _ w).alloc _).alloc _⟩):P:=h
theorem Xn(h:P:=by unfold GH;rw[Ae O,Ae O,Ae O,Ae O,An O];congr 1;omega):P:=h
theorem Tw(h:P:=by
 rcases h.2 with⟨e2,h0⟩|⟨g',cap,cur,e2,_⟩;·injection e2 with _ h1 h2;exact⟨h1,h2⟩
 ·rw[e] at e2;simp at e2):P:=h
theorem Vf(h:P:=by
 clear hno;go_in;go_wp2_with fail;refine Az Hpg ?_;rintro e w' ⟨rfl,rfl⟩
 go_wp2
 go_ret;exact⟨rfl,h,Ao _ _⟩):P:=h
theorem Sa(h:P:=by go_meet;exact⟨l,A,c2,size,Ac,h8,rfl,rfl,T (hP.out.fr0 (F1.out.trans ((Ao Aj _).alloc _) (λ_ _ e=>e)))⟩):P:=h
theorem U3(h:P:=by
 clear hv hb e1 hh;go_in;go_wp2_with fail;refine Az Hv ?_;rintro e w' ⟨rfl,rfl⟩
 go_wp2
 go_ret2;exact⟨rfl,rfl⟩):P:=h
theorem UD(h:P:=by
 go_in;go_wp2_with fail;refine(Hf.out _).mono ?_;rintro e w' ⟨rfl,rfl⟩
 go_wp2
 go_ret;exact⟨rfl,h,Ao _ _⟩):P:=h
theorem iY(h:P:=by have hj:j<16:=hj;refine⟨?_,h.frozen (6+j)⟩;rw[h.cell (6+j),Array.getElem?_eq_getElem (by show 6+j<23;omega)];rfl):P:=h
theorem Mb(h:P:=by
 go_in;go_wp2_with fail;refine Az Hp ?_;rintro e w' ⟨rfl,rfl⟩
 go_wp2
 go_ret2;exact BPost.same H.out (Ao _ _)):P:=h
theorem PC(h:P:=by
 rw[e1];clear e1 hb;go_in;go_wp2_with fail;refine Az Hv ?_;rintro e w' ⟨rfl,rfl⟩
 go_wp2
 go_ret;exact⟨rfl,rfl⟩):P:=h
theorem Qg(h:P:=by exact(HD.out.2.mono (S':=λk=>p.its k∨ ¬P k) (λk _ e=> Ah e)).trans (hL.2.drewN _) (λi hi e=> Af e)):P:=h
theorem TP(h:P:=by
 rcases l.eq_nil_or_concat with e|⟨m,i,e⟩;·exact absurd e hl
 ·exact⟨m,i,by rw[e,Is]⟩):P:=h
theorem Vx(h:P:=by
 go_in;go_wp2_with fail;refine Az hsz ?_;rintro e w' ⟨rfl,rfl⟩
 go_wp2
 go_ret;exact⟨rfl,hD,hM,Ao _ _⟩):P:=h
theorem U0(h:P:=by
 rw[Ae e];by_cases h1:i<16384;·rw[An h1,An h1];dsimp only;rw[Ae e]
 ·rw[Ae h1,Ae h1]):P:=h
theorem NL(h:P:=by
 go_in;go_wp2_with fail;refine(Hs.out _).mono ?_;rintro e w' ⟨rfl,rfl⟩
 go_wp2
 go_ret;exact⟨rfl,F1.out⟩):P:=h
theorem V9(h:P:=by
 go_wp2
 go_ret;rw[show raised zs p=p by unfold raised;rw[Hbad.out];rfl,Hbad.out];exact⟨rfl,h,Ao _ _⟩):P:=h
theorem PB(h:P:=by
 go_in;go_wp2_with fail;refine(Hf.out _).mono ?_;rintro e w' ⟨rfl,rfl⟩
 go_wp2
 go_ret2;exact⟨rfl,rfl⟩):P:=h
theorem Wg(h:P:=by unfold Gp;rw[Ae O,Ae O,Ae O,Ae O,Ae O]):P:=h
theorem qO(h:P:=by show Cx (AH 1 St.new (mc0 1 awakeL [])).s (AH 1 St.new (mc0 1 awakeL [])).g=_;rw[b1];exact e2.1):P:=h
theorem Wz(h:P:=by
 unfold rep at hp;obtain⟨q,hq,rfl⟩:=BS.1 hp;split;·exact h.keys q hq
 ·exact h.keys q hq):P:=h
theorem qP(h:P:=by rw[Gg];rw[Int.emod_eq_of_lt O O];exact IntWalk.wrap64_in _ O):P:=h
theorem T9(h:P:=by refine⟨⟨_,rfl⟩,p1,⟨hn',AC,by simp[p2]⟩,AC, ?_⟩;rw[val,J9,p3];simp[DW]):P:=h
theorem Tv(h:P:=by
 rcases h.2 with⟨rfl,h0⟩|⟨g,cap,cur,rfl,_⟩;·rw[h0];exact⟨_,_,rfl⟩
 ·exact⟨_,_,rfl⟩):P:=h
theorem QU(h:P:=by rw[List.take_succ_eq_append_getElem h,AS,BK h];rfl):P:=h
theorem Wm(h:P:=by rw[BW];refine⟨?_,h.frozen j⟩;rw[h.cell j,Array.getElem?_eq_getElem O];rfl):P:=h
theorem T2(h:P:=by
 cases b
 ·exact CP
 ·exact CP):P:=h
theorem Xw(h:P:=by exact Str.app (Str.nil.cons (Eb Ak)) (Str.app (QM _ _) (mV _ _ _ _))):P:=h
theorem iW(h:P:=by
 by_cases q:i≤j;·exact hrk.out i q
 ·obtain rfl:i=j+1:=O;rw[HN.out];exact HK2.out):P:=h
theorem YR(h:P:=by
 exfalso;have h1:p.tg= -1:=by simpa using g4
 have h2:p.tg≠ -1:=by simpa using hbt
 exact h2 h1):P:=h
theorem Oi(h:P:=by
 have HE:=T e;clear e hz
 go_wp2
 go_ret;rw[HE.out];exact⟨rfl,Kc F2.out (H2.out.place _)⟩):P:=h
theorem qQ(h:P:=by
 rcases hq with h|h|h;·have:=HLT.out.1;omega
 ·have:=HLT.out.2;omega
 ·have:=HC.out q h;omega):P:=h
theorem VV(h:P:=by
 have d2:decide (op≤69)=Ac:=AA;clear hq;go_in
 go_wp2
 go_ret;exact⟨rfl,rfl⟩):P:=h
theorem Xd(h:P:=by
 rw[hd];go_in;go_wp2_with fail
 all_goals
  go_ret;exact⟨by simp[*],(Ao _ w).alloc _⟩):P:=h
theorem ZS(h:P:=by simpa only[swC,Jd,List.set_cons_zero,List.set_cons_succ] using this):P:=h
theorem cZ(h:P:=by simp[check,DR,AK,Kt,Dd,Gn,Gs.takeD,Gs.takeR,Gs.putD,Gs.putR,hlen];omega):P:=h
theorem iV(h:P:=by
 by_cases q:i<j;·exact hgo.out i q
 ·obtain rfl:i=j:=O;rw[HQ.out];exact HG.out):P:=h
theorem Rv(h:P:=by
 subst eb;rw[GJ,CS _ _ hab];intro e;have:=hf.2 a e;rw[hm] at this
 cases this):P:=h
theorem ND(h:P:=by simpa only[rc,Jd,List.set_cons_zero,List.set_cons_succ] using h1):P:=h
theorem QF(h:P:=by unfold Bz;rw[Ae O,Ae O,Ae O,Ae O]):P:=h
theorem qR(h:P:=by obtain⟨s,t,hC⟩:=h;have:=pages_any w a.a t hC.2.1;rw[hC.2.2.2.n] at this;exact this):P:=h
theorem Rx(h:P:=by
 subst ea;rw[GJ];intro e;have:=hf.2 b e.symm;rw[YS,hm] at this
 cases this):P:=h
theorem VM(h:P:=by rw[FI,List.getLast?_eq_getElem?,AS]):P:=h
theorem VH(h:P:=by exact⟨rfl,F',hB',hF',f'.mono (λk _ e=> Ah (Ah (Ah (Ah (Ah e)))))⟩):P:=h
theorem bZ(h:P:=by
 rcases h.own q hq with r|r;·exact(h.z.2.2.1 q r).2
 ·have:=h.z.2.1 0 h.z.1;omega):P:=h
theorem VO(h:P:=by
 rcases hp k hk with e|e;·exact Bg (h.pl k e) f.size
 ·exact e.2):P:=h
theorem Tl(h:P:=by intro i hi;simp only[AS];rw[Dq hi]):P:=h
theorem TY(h:P:=by unfold Ey;rw[An h3];unfold upN;rw[Ae O,Ae O]):P:=h
theorem WG(h:P:=by rw[Go.ChangeMaps.map_eraseIdx];exact h.kd.sublist (List.eraseIdx_sublist _ _)):P:=h
theorem U6(h:P:=by rw[Fo];exact Bf (List.length_filter_le _ _) AC):P:=h
theorem Qo(h:P:=by
 subst e;obtain⟨h1,h2⟩:=h;clear hq;go_in
 go_wp2
 go_ret;exact⟨rfl,rfl⟩):P:=h
theorem N9(h:P:=by
 rcases hp _ e with e|e;·exact h.uP.2 e
 ·have:=hl _ (Ah (Af rfl));omega):P:=h
theorem jP(h:P:=by rw[AS,DP,IL hi];rfl):P:=h
theorem ZR(h:P:=by
 clear hbz
 go_wp2
 go_meet;exact⟨_,T HX.out.1,T ⟨HX.out.2,HR3.out⟩⟩):P:=h
theorem XB(h:P:=by obtain⟨m,hm⟩:=key n h;exact⟨m,by rw[Ae (by simp[q])];exact hm⟩):P:=h
theorem Uc(h:P:=by refine⟨⟨this.code,this.ld,this.lr,this.fl⟩, ?_, ?_⟩<;>simp[Lw.add]):P:=h
theorem Y7(h:P:=by
 generalize pl.reg n=x at*;clear e1;go_in
 go_wp2
 go_ret;exact⟨rfl,rfl⟩):P:=h
theorem jB(h:P:=by
 by_cases q:0<n;·have:=he.2.2.2.1 q;omega
 ·have:=he.2.1 O;omega):P:=h
theorem iX(h:P:=by exact T (HBT.out.fr HF8.out IT)):P:=h
theorem T1(h:P:=by rwa[show(w.alloc (.cells cs t)).heap.size=w.heap.size+1 by simp] at this):P:=h
theorem UN(h:P:=by
 rintro e w' ⟨rfl,rfl⟩
 go_wp2
 go_ret2;exact⟨rfl,hP,h,Ao _ _⟩):P:=h
theorem fL(h:P:=by rw[oO,HSN.out];have:=HO.out;rw[←HCL.out] at this;exact this):P:=h
theorem Wb(h:P:=by
 have D1:=T D1;clear hq
 go_wp2
 go_ret;exact⟨rfl,_,_,L1.out,D1.out⟩):P:=h
theorem Ty(h:P:=by have e:=Qa;exact Ah O):P:=h
theorem qS(h:P:=by
 cases A2 with
 |none=>cases e
 |some a=>simpa[Cb,ab] using e):P:=h
theorem cK(h:P:=by
 rcases last_mem h.ne i hi with q|q;·exact h.ends i q
 ·rw[q];exact e1):P:=h
theorem VL(h:P:=by
 cases A
 ·simp[Cb] at h
 ·simpa[Cb,ab] using h):P:=h
theorem Vz(h:P:=by
 go_in
 go_wp2
 go_ret;exact⟨rfl,AI _ _ _,(Ao _ _).alloc _⟩):P:=h
theorem bL(h:P:=by rw[OC (by simpa using hh)] at e;exact absurd e (by simp[eL,ab])):P:=h
theorem N7(h:P:=by
 rcases hp _ e with e|e;·exact h.uP.1 e
 ·have:=hl _ (Af rfl);omega):P:=h
theorem jQ(h:P:=by have:g.calm.calm.calm.b.ms.n=5:=h.sc.n;unfold doB;rw[this];simp;omega):P:=h
theorem YT(h:P:=by rw[CS _ _ ea];exact h.reg a b hab O O hm hp):P:=h
theorem PD(h:P:=by
 rintro e w' ⟨rfl,rfl⟩
 go_wp2
 go_ret;exact⟨rfl,h,Ao _ _⟩):P:=h
theorem Vv(h:P:=by obtain⟨i0,hi0,hz0,hz1,hz2⟩:=Cj N2;rw[hi0];simp[hz1]):P:=h
theorem Ny(h:P:=by exact Cells.new' w _ _ n _ (by rw[e];apply List.ext_getElem<;>simp)):P:=h
theorem Y9(h:P:=by exact EL (EPost.of (Elk.refl w p) H.out) AC O):P:=h
theorem VQ(h:P:=by
 rcases k.it i hi with e|e;·exact h.it i e
 ·exact EJ):P:=h
theorem V1(h:P:=by
 go_in
 go_wp2
 go_end0;exact⟨rfl,Blk.set_ h 0 _,Br _ _ _ _⟩):P:=h
theorem Zp(h:P:=by rw[ex];exact AR hown f2 (λk hk e=>hgA C0)):P:=h
theorem SX(h:P:=by
 go_wp2
 go_meet;refine⟨_,rfl,T ?_,rfl⟩;rw[hq1,HQ3.out];try rfl):P:=h
theorem VN(h:P:=by
 rcases hp k e with e|e;·exact(b2 k hk).1 e
 ·have:=b3 k hk;omega):P:=h
theorem VI(h:P:=by
 rcases hp k e with e|e;·exact(h2 k hk).1 e
 ·have:=h3 k hk;omega):P:=h
theorem XL(h:P:=by exact HAll.nil.cons (NX hr O O O)):P:=h
theorem Zh(h:P:=by show lwF _ _ _ _ _ _=lwF _ _ _ _ _ _;dsimp only;rw[hl,v1,v2];rfl):P:=h
theorem Zq(h:P:=by go_meet;exact⟨_,HX.out.1.le O,HP.out.2.tr HX.out.2⟩):P:=h
theorem WP(h:P:=by obtain⟨F,h1,h2,h3⟩:=h;rw[h1.cell _ O,h3 q hq c hc]):P:=h
theorem Qi(h:P:=by refine Dn.fr0 ?_ ((Ao Aj _).drewN _);have:=hL.1;exact this):P:=h
theorem bX(h:P:=by
 rcases q2 k hk with r|r;·exact p2 k r
 ·exact EJ):P:=h
theorem bY(h:P:=by
 rcases q4 k hk with r|r;·exact p2 k r
 ·exact EJ):P:=h
theorem XQ(h:P:=by obtain⟨he,p',h1,h2,h3⟩:=h;exact⟨he,p',h1,h2.le hb,h3⟩):P:=h
theorem jH(h:P:=by
 rw[hv] at e;have:g'=q:=by simpa[Cb] using e
 omega):P:=h
theorem V8(h:P:=by
 go_wp2
 go_ret2;exact⟨rfl,h.drewN _,(Ao _ _).drewN _⟩):P:=h
theorem V2(h:P:=by
 clear hd hs;go_in
 go_wp2
 go_ret;exact⟨rfl,h,Ao _ _⟩):P:=h
theorem Yj(h:P:=by intro z hz;obtain⟨j,_,rfl⟩:=BS.1 hz;exact hm _):P:=h
theorem fQ(h:P:=by have:=hlook W f;unfold lk at this;rw[hf] at this;exact this):P:=h
theorem V0(h:P:=by
 have c:=Blk.cell h 0;go_in
 go_wp2
 go_ret;exact⟨rfl,rfl⟩):P:=h
theorem U7(h:P:=by unfold EB;rw[Ic,List.filter_append];simp[h]):P:=h
theorem Vi(h:P:=by unfold turnN;rw[Ic,List.filter_append];simp[h]):P:=h
theorem UL(h:P:=by
 rintro e w' ⟨rfl,rfl⟩
 go_wp2
 go_ret2;exact⟨rfl,rfl⟩):P:=h
theorem LJ(h:P:=by
 rintro e w' ⟨rfl,rfl⟩
 go_wp2
 go_ret;exact⟨rfl,rfl⟩):P:=h
theorem YU(h:P:=by subst e;rw[GJ,GJ];exact Ah ⟨rfl,hf.1,hr⟩):P:=h
theorem dI(h:P:=by
 rcases q with q|q|q;·omega
 ·have:=hown _ q;omega
 ·omega):P:=h
theorem WI(h:P:=by unfold kept;rw[Ic,List.filter_append];simp[h]):P:=h
theorem JN(h:P:=by
 go_in
 go_wp2
 go_ret2;exact BPost.same H.out (Ao _ _)):P:=h
theorem kH(h:P:=by
 go_wp2
 go_meet;refine⟨_,rfl,T ?_,rfl⟩;rw[G1.out];rfl):P:=h
theorem SA(h:P:=by
 rcases hk with e|e;·exact p2 k e
 ·exact EJ):P:=h
theorem qT(h:P:=by rw[List.getElem?_toArray,hat];show mk L[j].1=mk x;rw[h1]):P:=h
theorem T4(h:P:=by
 clear h1 h2 h3;go_in
 go_wp2
 go_ret;exact⟨rfl,F1.out⟩):P:=h
theorem gJ(h:P:=by
 go_in
 go_wp2
 go_ret;exact⟨rfl,(Ao _ w).alloc _⟩):P:=h
theorem Me(h:P:=by
 go_in
 go_wp2
 go_ret;exact BPost.same H.out (Ao _ _)):P:=h
theorem fO(h:P:=by right;rw[Ii.1 hx] at e;exact HNA.out q e):P:=h
theorem NF(h:P:=by
 subst e;clear hq;go_in
 go_wp2
 go_ret;exact⟨rfl,rfl⟩):P:=h
theorem WH(h:P:=by show(w1.heap.setIfInBounds r _)[r]?=_;rw[hr1];simp[hrl]):P:=h
theorem OS(h:P:=by
 unfold Addr.add;split;·rename_i h0;subst h0;rfl
 ·rfl):P:=h
theorem Of(h:P:=by
 clear wa ws wm;go_in
 go_wp2
 go_ret;exact⟨rfl,rfl⟩):P:=h
theorem TE(h:P:=by rw[hx];simp[AX,C8,reckS,St.next,AK,Kt]):P:=h
theorem Vy(h:P:=by
 go_in
 go_wp2
 go_ret;exact⟨rfl,hD,hM,Ao _ _⟩):P:=h
theorem T0(h:P:=by rw[List.take_of_length_le O] at h2;exact h2):P:=h
theorem RF(h:P:=by go_meet;exact⟨_,HQ.out.1.le O,HQ.out.2⟩):P:=h
theorem Om(h:P:=by
 rintro e w' ⟨rfl,HQ⟩
 go_wp2
 go_end0;exact HQ.out):P:=h
theorem Nx(h:P:=by
 rw[e];clear e;go_in
 go_wp2
 go_ret;exact⟨rfl,rfl⟩):P:=h
theorem jK(h:P:=by
 go_wp2
 go_ret;exact⟨rfl,⟨m,HG2.out⟩,HF2.out⟩):P:=h
theorem WZ(h:P:=by unfold Bz;rw[Ae O,Ae O]):P:=h
theorem UJ(h:P:=by unfold GB;rw[lJ hO,hO];simpa using hr):P:=h
theorem WE(h:P:=by rw[List.length_eraseIdx,List.length_eraseIdx,h.len]):P:=h
theorem UA(h:P:=by
 have HG:=T hG;clear hG
 go_wp2
 go_ret;exact HG.out):P:=h
theorem dH(h:P:=by
 rcases hwr k hk with q|q;·omega
 ·exact hown4 k q):P:=h
theorem WT(h:P:=by obtain⟨F,h1,h2⟩:=h;exact⟨F,h1.fr fr hn,h2⟩):P:=h
theorem Yd(h:P:=by rw[Ae h16,Ae h17,Ae h18,Ae h19,hs]):P:=h
theorem YK(h:P:=by
 clear em hm;go_in
 go_wp2
 go_ret;exact⟨rfl,rfl⟩):P:=h
theorem iZ(h:P:=by exact AZ hv hb7 Ak (by rw[hk,e])):P:=h
theorem dJ(h:P:=by
 rcases e with e|e;·simp[ab] at e
 ·simp[ab] at e):P:=h
theorem Ue(h:P:=by rw[e];simpa[FI] using this):P:=h
theorem Ry(h:P:=by exact h.slot a b hab O O hm hp):P:=h
theorem Mr(h:P:=by
 clear hb;go_in
 go_wp2
 go_ret;exact⟨rfl,rfl⟩):P:=h
theorem Wr(h:P:=by rw[List.find?_eq_none.2 (λp hp=>h p hp)];rfl):P:=h
theorem Mi(h:P:=by
 clear hq;go_in
 go_wp2
 go_ret;exact⟨rfl,rfl⟩):P:=h
theorem XA(h:P:=by exact⟨n,by rw[An (by simp[q])];exact h⟩):P:=h
theorem Wc(h:P:=by
 go_wp2
 go_ret;exact⟨rfl,_,_,L0.out,D0.out⟩):P:=h
theorem bP(h:P:=by
 go_wp2
 go_ret;exact⟨by rw[E1.out];rfl,rfl⟩):P:=h
theorem VU(h:P:=by
 clear h;go_in
 go_wp2
 go_ret;exact⟨rfl,rfl⟩):P:=h
theorem iP(h:P:=by
 by_cases q:0<j;·have:=hc1.2.2 q;omega
 ·omega):P:=h
theorem Pd(h:P:=by show c.d.dropLast.length=c.d.length -1+0;simp):P:=h
theorem TB(h:P:=by show c.r.dropLast.length=c.r.length -1+0;simp):P:=h
theorem V7(h:P:=by exact⟨rfl,Blk.set_ h 0 _,Br _ _ _ _⟩):P:=h
theorem Kz(h:P:=by
 rw[hb];go_in
 go_wp2
 go_ret;exact⟨rfl,rfl⟩):P:=h
theorem XU(h:P:=by rw[Dq O];simp):P:=h
theorem XG(h:P:=by rw[An O,Ae c];congr 2;omega):P:=h
theorem SS(h:P:=by
 clear hq
 go_wp2
 go_meet;exact⟨_,rfl,HQ⟩):P:=h
theorem Tc(h:P:=by unfold Bs.Sb.store Bs.Sb.storeO;rw[e];rfl):P:=h
theorem Pj(h:P:=by
 unfold stackS
 repeat' split
 all_goals rfl):P:=h
theorem NA(h:P:=by exact Af (Af (Ah (Ah (Af e))))):P:=h
theorem So(h:P:=by rw[e2] at hk;simp[Cb] at hk):P:=h
theorem PP(h:P:=by
 go_in
 go_wp2
 go_ret2;exact⟨rfl,rfl⟩):P:=h
theorem CP(h:P:=by
 go_in
 go_wp2
 go_ret;exact⟨rfl,rfl⟩):P:=h
theorem SY(h:P:=by exact⟨rfl,(Ao _ w).alloc _⟩):P:=h
theorem Lz(h:P:=by
 go_wp2
 go_ret;exact⟨rfl,F1.out⟩):P:=h
theorem RO(h:P:=by simp[AS,hi]):P:=h
theorem QL(h:P:=by exact Str.nil.cons (QK _ _ _)):P:=h
theorem Ov(h:P:=by exact Af (Ah (Ah (Af e)))):P:=h
theorem SJ(h:P:=by
 rcases q with q|q;·omega
 ·omega):P:=h
theorem Sn(h:P:=by exact Af (Ah (Ah (Af q)))):P:=h
theorem qU(h:P:=by obtain⟨s,t,hC⟩:=h;exact hC.c1):P:=h
theorem Qe(h:P:=by exact Af (Af (Ah (Af e)))):P:=h
theorem Od(h:P:=by rw[e2] at e;exact Af (own_ab e)):P:=h
theorem R8(h:P:=by exact Af (Ah (Ah (Ah e)))):P:=h
theorem OE(h:P:=by exact J7 this.1 O):P:=h
theorem Sf(h:P:=by exact Af (Ah ⟨x,hx,e⟩)):P:=h
theorem PE(h:P:=by simp[zeroValue,typeInfo,hi,h']):P:=h
theorem Ru(h:P:=by exact Af KD):P:=h
theorem NM(h:P:=by go_ret;exact⟨rfl,F2.out⟩):P:=h
theorem Gh(h:P:=by exact⟨O,O⟩):P:=h
theorem PR(h:P:=by exact⟨rfl,HM.out,FR.out⟩):P:=h
theorem Ss(h:P:=by subst this;exact srt_blk hb):P:=h
theorem Mg(h:P:=by exact Af (Af (Af e))):P:=h
theorem JP(h:P:=by exact Af (Ah (Af e))):P:=h
theorem EJ(h:P:=by exact Ah O):P:=h
theorem Nu(h:P:=by rw[Ae O]):P:=h
theorem Lv(h:P:=by split<;>split<;>omega):P:=h
theorem JO(h:P:=by exact Af (Af e)):P:=h
theorem Xh(h:P:=by exact show Blk ((w.alloc (.cells #[J V k.1,J V k.2] 122)).alloc (.cells #[J V 0,J V 0,Z G 0 0,J U 0] 149)) (w.alloc (.cells #[J V k.1,J V k.2] 122)).heap.size 149 #[J V 0,J V 0,Z G 0 0,J U 0] from AI _ _ _):P:=h
theorem eV(h:P:=by exact show Hid (brC pg ((l.length+(Cr pg pl).length+6:Nat):Int)=[hld 11 15 1,li 12 (EA pg.br),hop 5 11 11 12,⟨if pg.br=34 then 17 else 16,0,11,0,((l.length+(Cr pg pl).length+6:Nat):Int)⟩,li 9 pg.tk]) from T (by unfold brC;rw[Ae (by omega)])):P:=h
theorem Xe(h:P:=by exact show (w.alloc (.cells #[] 5)).ownsRow ↑w 5 1 (Z (I ⟨↑w,0,G⟩) 0 0) 0 [] from ⟨rfl,Ah ⟨↑w,0,#[],rfl,AD _,AI _ _ _,AD _,Jc,rfl,rfl⟩⟩):P:=h
theorem iE(h:P:=by exact show Hid (Cx s g=if(BH s g).on then Cg (BH s g).s (BH s g).p ((BH s g).p/64) (BH s g).g 8 else⟨(BH s g).s,(BH s g).g⟩) from T rfl):P:=h
theorem VG(h:P:=by exact show loadB at_=decide (offO at_=0∨offO at_=4∨offO at_=8∨offO at_=12∨offO at_=16∨offO at_=20∨offO at_=24∨offO at_=32∨offO at_=36∨offO at_=40∨offO at_=44) from rfl):P:=h
theorem Zr(h:P:=by exact show W0.cell? ⟨g,14,G⟩=I (Z D m cd) from (HP.out.1.b.cell 14 O).trans (by show I (Z D (x.popD.popD).ld.length cd)=_;rw[hm])):P:=h
theorem i7(h:P:=by exact show (EK r.s (Z X2 r.s.d.length c2) (Z Y2 r.s.r.length d2) r.tr r.dv (Z Bh nz mz)).all (·.oneCell')=Ag by simp[Ir]):P:=h
theorem ZZ(h:P:=by exact show (w.alloc (.cells #[J U 0,J V 0] 27)).cell? ⟨b,off,G⟩=I (J AB o) from (World.cell?_alloc_lt w _ ⟨b,off,G⟩ hb).trans hc):P:=h
theorem OJ(h:P:=by exact show ((w.alloc (.cells (stc s (Z A0 s.d.length c0) (Z B0 s.r.length d0)) 39)).alloc (.cells z16 39)).heap.size=w.heap.size+2 by simp):P:=h
theorem Yn(h:P:=by exact show ((w.alloc (.cells (stc S (Z A S.d.length c) (Z B S.r.length d)) 39)).alloc (.cells z16 39)).heap.size=w.heap.size+2 by simp):P:=h
theorem Xp(h:P:=by exact show Holds pl s1 (at_ p.code k).b (val s p.code (at_ p.code k).b) from (E.v _ hb ub).keep fb (λj hj=>k1 j O) (λj _=>by rw[m1])):P:=h
theorem dY(h:P:=by exact show Fr Aj w7 (w7.alloc (.cells (Ee ↑w a A (.pointer G) St.new (Z G 0 0) (Z G 0 0)) 54)) from (Ao _ _).alloc _):P:=h
theorem RI(h:P:=by exact show ∀(fn:Fn) (first cp:AO) (W:Aa),(Instr.makeFunc fn first cp).run Tryz.prog W=.ok (.func fn first cp) W from λ_ _ _ _=>rfl):P:=h
theorem fZ(h:P:=by exact show IntsAt AB w2 ↑w2 (I ⟨bb,off,G⟩) n0 b from (HBI.out.fr HF2.out hB (λ_ _ e=>e)).more (Bf hB HF2.out.size)):P:=h
theorem RL(h:P:=by exact show wr.cell? ⟨↑w,0,G⟩=I (Z C N cc) from (bpw.cell 0).trans kI):P:=h
theorem Zy(h:P:=by exact show wr.cell? ⟨↑w,0,G⟩=I (Z C N cc) from (bp.cell 0).trans kI):P:=h
theorem iR(h:P:=by exact show Hid (goB s.ct n s'=(decide (n>0)&& !s'.ha&&decide (D<n))) from T (by unfold goB;rw[hD,Int.emod_eq_of_lt hD0 (by omega)])):P:=h
theorem QH(h:P:=by exact show Blk (w.alloc (.cells #[J V k.1,J V k.2] 122)) ↑w 122 #[J V k.1,J V k.2] from AI _ _ _):P:=h
theorem dX(h:P:=by exact show ∀k,((Ms.new n).load bs).n≤k→k<64→((Ms.new n).load bs).tu k=Ac from load_tu n bs (by rw[HI.out.1.1];exact l1)):P:=h
theorem Ya(h:P:=by exact show (w2.setCell ⟨p.gm,rd,G⟩ (J AP v)).drew.cell? ⟨gt,1,G⟩=I (J U (rd:Int)) from cell_far x1 hne):P:=h
theorem KX(h:P:=by exact show Blk (w.alloc (.cells #[J U op,J V n] 27)).drew ↑w 27 #[J U op,J V n] from AI _ _ _):P:=h
theorem dM(h:P:=by exact show Hid (Pool (W.alloc (.cells #[Z A1 n1 c1,Z A2 n2 c2,J U n] 35)) ↑w Pl.new) from T (hP.fr f0 id)):P:=h
theorem eE(h:P:=by exact show (w.alloc (.cells #[Z A1 n1 c1,Z A2 n2 c2,J U n] 35)).heap.size=w.heap.size+1 by simp):P:=h
theorem eY(h:P:=by exact show w10.cell? ⟨p.g,11,G⟩=I (J V pg.tk) by rw[←HQ.out.tk];exact E10.out.b.cell 11 (by omega)):P:=h
theorem kC(h:P:=by exact show W0.cell? ⟨g,14,G⟩=I (Z D m cd) from (HP.out.1.b.cell 14 O).trans (by rw[←hm,hl];rfl)):P:=h
theorem Zd(h:P:=by exact show (x.add op a b imm).code.length=m+1 by show(x.code++[_]).length=_;rw[Cq,HM.out];rfl):P:=h
theorem dL(h:P:=by exact show Fr Aj W (W.alloc (.cells #[Z A1 n1 c1,Z A2 n2 c2,J U n] 35)) from (Ao _ _).alloc _):P:=h
theorem eA(h:P:=by exact show Fr Aj w (w.alloc (.cells #[Z A1 n1 c1,Z A2 n2 c2,J U n] 35)) from (Ao _ _).alloc _):P:=h
theorem eO(h:P:=by exact show w9.cell? ⟨p.g,17,G⟩=I (Z L9 len9 lc9) by rw[←hlen9];exact E9.out.b.cell 17 (by omega)):P:=h
theorem Xq(h:P:=by exact show s2.g (BI pl (at_ p.code k).a 7)=val s p.code (at_ p.code k).a by rw[k2 _ (by omega)];exact g1):P:=h
theorem Uq(h:P:=by exact show ∀k,k≠10→k≠11→k≠12→s3.g k=s2.g k from λk c1 c2 c3=>by rw[k3 k c1 c2 c3];simp only[upZ,Ae c2]):P:=h
theorem KY(h:P:=by exact show Fr Aj w (w.alloc (.cells #[J U op,J V n] 27)).drew from ((Ao _ w).alloc _).drew):P:=h
theorem eW(h:P:=by exact show Hid (((l.length+(Cr pg pl).length+6:Nat):Int)=(len9:Int)+2) from T (by rw[←hlen9];simp;omega)):P:=h
theorem VX(h:P:=by exact show decide ((16:Int)<(s.d.length:Int) -(Gs.takeD 66:Int)+(Gs.putD 66:Int))=Ac by simp;omega):P:=h
theorem VY(h:P:=by exact show decide ((16:Int)<(s.d.length:Int) -(Gs.takeD 67:Int)+(Gs.putD 67:Int))=Ac by simp;omega):P:=h
theorem jX(h:P:=by exact show decide ((16:Int)<(s.d.length:Int) -(Gs.takeD op:Int)+(Gs.putD op:Int))=Ac by simp;omega):P:=h
theorem Yl(h:P:=by exact show Hid (∀k,Em.ab p.A=I k→k<w.heap.size) from T (λk e=>own_lt h.code k (ab_own h.code e))):P:=h
theorem bS(h:P:=by exact show Fr (λq=>q=e.gm) w4 w6 from (F5.out.trans F6.out (λ_ _ e=>e)).mono (λ_ _ e=>e.elim)):P:=h
theorem Xi(h:P:=by exact show (w.alloc (.cells #[J V k.1,J V k.2] 122)).heap.size=w.heap.size+1 by simp):P:=h
theorem Xc(h:P:=by exact show (Cl n).getD q 0=q by simp[AS,IL hq]):P:=h
theorem dN(h:P:=by exact show Hid (w.heap.size≤W.heap.size∧w.heap.size≠W.heap.size) from T ⟨hf1s,by have:=hP.lt;omega⟩):P:=h
theorem PT(h:P:=by exact show At Tryz.prog 49 #[↑a.a.gt] w λe w'=>e=Ax (J U m.n)∧w=w' from qR):P:=h
theorem XE(h:P:=by exact show (left p s (evs s p.code)).d.length=s.d.length -p.nd+p.od.length by unfold left;simp):P:=h
theorem XF(h:P:=by exact show (left p s (evs s p.code)).r.length=s.r.length -p.nr+p.or.length by unfold left;simp):P:=h
theorem cS(h:P:=by exact show (Ms.new n).load zs=(Ms.new n).puts 0 zs zs.length by unfold Ms.load;exact An h):P:=h
theorem dG(h:P:=by exact show AH 2 St.new (mc0 1 awakeL [])=⟨{St.new with pc:=12,ct:=4,ha:=Ag},g2⟩ from qO):P:=h
theorem Vc(h:P:=by exact show frV t ((i/64:Nat):Int)=0 by rw[frV,Ae (by rw[q1];exact Fq)]):P:=h
theorem YP(h:P:=by exact show Fr Aj w (w.alloc (.cells (pgA p ⟨C,cc,D,cd,R,cr⟩) 218)) from (Ao _ w).alloc _):P:=h
theorem cP(h:P:=by exact show ∀k,ab X'=I k∨ab Y'=I k→w.heap.size≤k∧k<w'.heap.size from λk hk=>qM):P:=h
theorem WW(h:P:=by exact show Hid (a+1=(kept p (b+1)).length) from T (by rw[e1,Cq,HA.out];rfl)):P:=h
theorem Ym(h:P:=by exact show ∀q,(q=p.gm∨q=p.gw∨Em.ab p.A=I q)→ ¬(q=w.heap.size) from λq hq e=>qQ):P:=h
theorem Pf(h:P:=by exact show w.one0 ⟨38,n⟩ next=(w.add 0 0 0 next).pushR w.code.length by simp[Lw.one0]):P:=h
theorem Ys(h:P:=by
 exact show Cf g.b.ms p=I (i,b.length) by
  unfold Cf;rw[An p1];exact hdec):P:=h
theorem ZH(h:P:=by exact show wo.cell? ⟨gs,0,G⟩=I (Z (I ⟨gR,0,G⟩) N N) from hSc.out.b.cell 0):P:=h
theorem eX(h:P:=by exact show IntKind.u32.wrap ((len9:Int)+2)=(len9:Int)+2 by rw[Gu];omega):P:=h
theorem gE(h:P:=by exact show ∀q,w.heap.size≤q→ ¬e.own ge q from λq hq r=>by have:=H.out.own_lt q r;omega):P:=h
theorem gY(h:P:=by exact show Rk (doR s' ⟨op,n⟩ g').s from do_rk hk' M2.bok M2.ok ⟨op,n⟩ ⟨n0,n1⟩ HUX.out.1.ch):P:=h
theorem Yp(h:P:=by exact show Fr Aj w5 W6 from ((Ao Aj w5).alloc _).trans F6.out (λk hk e=>O)):P:=h
theorem ZM(h:P:=by exact show ∀q,(Z A' m c').ownBlock=I q→W6.heap.size≤q from Cn hO.out):P:=h
theorem cL(h:P:=by
 exact show bs.length≤64 -(p%64).toNat by
  have:=hpre.length_le;rwa[Oj] at this):P:=h
theorem iB(h:P:=by exact show Hid (Cg s p (p/64) g k=⟨s',g'⟩) from T (by rw[hR.out.1,Nat.sub_self];rfl)):P:=h
theorem iF(h:P:=by exact show Hid (r.on=Ag→okR r.s r.p (r.p/64) r.g 8) from T (by rw[←hr];exact hok.2)):P:=h
theorem aV(h:P:=by exact show s.set b={s.unlink b.k with bl:=s.bl.set i b} by unfold Cs.set;rw[hto]):P:=h
theorem eU(h:P:=by exact show len9≤70000 by rw[←hlen9];have:=E9.out.len.1;dsimp only at this⊢;omega):P:=h
theorem Tt(h:P:=by exact show Dm o (yielded ops a.tmps)=Ag by simp[Dm,hgd]):P:=h
theorem Vs(h:P:=by exact show cs.toList[i]?=I (f i) by rw[DV];exact hat i hi):P:=h
theorem Wy(h:P:=by exact show (((Bi mk L bs).toArray[j]?).map (·.key)).getD (mk x)=mk x from qT):P:=h
theorem dF(h:P:=by exact show AH 1 St.new (mc0 1 awakeL [])=⟨{St.new with pc:=11,ct:=3},g1⟩ from e1.1):P:=h
theorem ON(h:P:=by exact show Dm o (yielded ops ac.tmps)=Ag by simp[Dm,hg]):P:=h
theorem NR(h:P:=by exact show Dm o (yielded ops a.tmps)=Ag by simp[Dm,hg]):P:=h
theorem aE(h:P:=by exact show bs.getD j 0∈seen.push bs[j] by simp[AS,hjb]):P:=h
theorem Ze(h:P:=by exact show w.cell? ⟨p.g,15,G⟩=I (J U x.nd) from h.b.cell 15 O):P:=h
theorem Zm(h:P:=by exact show w.cell? ⟨p.g,19,G⟩=I (J U x.nr) from h.b.cell 19 O):P:=h
theorem dS(h:P:=by exact show Hid (w.heap.size≤W.heap.size∧w.heap.size≠W.heap.size) from T HWl0.out):P:=h
theorem iQ(h:P:=by exact show IntKind.u64.wrap (s'.ct -s.ct)=D by rw[hD,Gg];omega):P:=h
theorem kA(h:P:=by exact show m≤2000 by rw[←hm,hl];exact Bf HP.out.1.k.ld (by omega)):P:=h
theorem Vb(h:P:=by exact show frB t ((i/64:Nat):Int)=Ac by simp only[Nz t hlt,hx];rfl):P:=h
theorem Vd(h:P:=by exact show frB t ((i/64:Nat):Int)=Ag by rw[Nz t hlt];simpa using hx):P:=h
theorem Yz(h:P:=by exact show op=16∨op=17∨op=18∨op=19∨op=20∨op=21∨op=22∨op=23∨op=25 by omega):P:=h
theorem eJ(h:P:=by exact show IntKind.u32.wrap (k:Int)=(k:Int) by rw[Gu];omega):P:=h
theorem i9(h:P:=by exact show Hid (Fr Aj w3 W4) from T (fw.trans HF4.out (λk hk e=>O))):P:=h
theorem iH(h:P:=by exact show Hid (Fr Aj w1 W2) from T (f9.trans HF2.out (λk hk e=>O))):P:=h
theorem WX(h:P:=by exact show ∀W,Fr (· =g) w2 W→Bw (b+1) W from λW f=>HST.out _ _ _ HI2.out f):P:=h
theorem YB(h:P:=by exact show IntKind.u32.wrap (64+pl.slot n)=Ez pl n from Gu _):P:=h
theorem RC(h:P:=by exact show m≤2000 by rw[←hm];exact Bf HP.out.1.k.ld (by omega)):P:=h
theorem iS(h:P:=by exact show 0<n→IntKind.u64.wrap n=n from λh=>Mq):P:=h
theorem TG(h:P:=by exact show w.one0 ⟨39,n⟩ next={w.popR with tg:=w.topR} by simp[Lw.one0]):P:=h
theorem TJ(h:P:=by exact show w.one0 ⟨40,n⟩ next={w.popD with tg:=w.topD} by simp[Lw.one0]):P:=h
theorem YG(h:P:=by exact show Cu high need out=16+(need:Int) -out by unfold Cu;omega):P:=h
theorem jC(h:P:=by exact show wrap64 (IntKind.u64.wrap (s2.ct -s.ct))=s2.ct -s.ct from qP):P:=h
theorem OV(h:P:=by exact show news=[] from List.eq_nil_of_length_eq_zero (by simpa using hr.1)):P:=h
theorem aA(h:P:=by exact show size≤n by have:=hP.out.pn.le;rw[H.out.1] at this;exact this):P:=h
theorem iL(h:P:=by exact show w3.cell? ⟨↑w,14,G⟩=I (J AP s.ct) from B63.out.cell 14):P:=h
theorem iN(h:P:=by exact show wr.cell? ⟨↑w,14,G⟩=I (J AP s'.ct) from hB.out.cell 14):P:=h
theorem OK(h:P:=by exact show Fr Aj wc (wc.alloc (.cells zB 149)) from (Ao _ wc).alloc _):P:=h
theorem OL(h:P:=by exact show Fr Aj wc (wc.alloc (.cells zR 158)) from (Ao _ wc).alloc _):P:=h
theorem hZ(h:P:=by exact show Fr Aj w3 (w3.alloc (.cells z19 206)) from (Ao _ _).alloc _):P:=h
theorem SW(h:P:=by exact show IntKind.u32.wrap (sz:Int)=sz by rw[Gu];omega):P:=h
theorem iG(h:P:=by exact show Fr Aj w1 (w1.alloc (.cells z18 163)) from (Ao _ _).alloc _):P:=h
theorem iJ(h:P:=by exact show W2.cell? ⟨gB,16,G⟩=I (J V r.p) from HB9.out.cell 16):P:=h
theorem UF(h:P:=by exact show Fr (λk=>k=g) w w1 from ((Ao _ w).drew).tr (Fr.none f5)):P:=h
theorem VF(h:P:=by exact show IntKind.u32.wrap (at_ -32768)=offO at_ from Gu _):P:=h
theorem YA(h:P:=by exact show 0≤pl.slot n∧pl.slot n≤64 by rcases hform with e|e<;>omega):P:=h
theorem cF(h:P:=by exact show (w.alloc (.cells z16 39)).heap.size=w.heap.size+1 by simp):P:=h
theorem Rq(h:P:=by exact show w.cell? ⟨p.g,14,G⟩=I (Q 14) from h.b.cell 14 O):P:=h
theorem Y8(h:P:=by exact show w.cell? ⟨p.g,15,G⟩=I (Q 15) from h.b.cell 15 O):P:=h
theorem YI(h:P:=by exact show Cu high need out=16 -(high:Int) by unfold Cu;omega):P:=h
theorem ZB(h:P:=by exact show IntKind.u64.wrap (y:Int)=y by rw[Gg];omega):P:=h
theorem Yo(h:P:=by exact show Blk (w5.alloc (.cells z16 39)) ↑w5 39 z16 from AI _ _ _):P:=h
theorem aJ(h:P:=by exact show E.getD j dE=E[j] by simp[AS,hj]):P:=h
theorem cM(h:P:=by exact show 0<bs.length from Ef.2 (h.enc.nonempty h.ne)):P:=h
theorem iI(h:P:=by exact show W2.cell? ⟨gB,17,G⟩=I (Ap r.on) from HB9.out.cell 17):P:=h
theorem iO(h:P:=by exact show wr.cell? ⟨↑w,15,G⟩=I (Ap s'.ha) from hB.out.cell 15):P:=h
theorem UO(h:P:=by exact show Tab w1 a t from Tab.fr (Tab.drew h) f1 (λk hk=>hne k hk)):P:=h
theorem WB(h:P:=by exact show del L x=L.eraseIdx j by rw[←h1];exact del_at h.kd j hj):P:=h
theorem QZ(h:P:=by exact show w2.drew.cell? ⟨gt,1,G⟩=I (J U (rd:Int)) from x1):P:=h
theorem YM(h:P:=by exact show IntKind.u64.wrap imm=imm by rw[Gg];omega):P:=h
theorem dU(h:P:=by exact show ¬Am.own ⟨ad,w2.heap.size⟩ W.heap.size from λr=>qN):P:=h
theorem Vr(h:P:=by exact show i<cs.toList.length by simpa using(by omega:i<cs.size)):P:=h
theorem Ro(h:P:=by exact show base≤↑w from Nat.le_of_lt (Nat.lt_of_le_of_lt h.g0 h.b.lt)):P:=h
theorem dK(h:P:=by exact show decide (((n1+63)/64:Nat)>(n:Int))=Ac by simp;omega):P:=h
theorem dO(h:P:=by exact show W0.cell? ⟨↑W,0,G⟩=I (Z A1 n1 c1) from b6.cell 0):P:=h
theorem dP(h:P:=by exact show W0.cell? ⟨↑W,1,G⟩=I (Z A2 n2 c2) from b6.cell 1):P:=h
theorem jA(h:P:=by exact show w.cell? ⟨gg,20,G⟩=I (J AP s.ct) from hb.cell 20):P:=h
theorem PY(h:P:=by exact show doD d m s at_ c=d by rw[doD,Ae (by rw[hb];simp)]):P:=h
theorem PZ(h:P:=by exact show doM d m s at_ c=m by rw[doM,Ae (by rw[hb];simp)]):P:=h
theorem YL(h:P:=by exact show IntKind.i64.wrap imm=imm from GF _ O):P:=h
theorem NN(h:P:=by exact show decide (s.d.length<Gs.takeD 66)=Ac by simp;omega):P:=h
theorem Qw(h:P:=by exact show decide (s.r.length<Gs.takeR 66)=Ac by simp;omega):P:=h
theorem NO(h:P:=by exact show decide (s.d.length<Gs.takeD 67)=Ac by simp;omega):P:=h
theorem Q1(h:P:=by exact show decide (s.r.length<Gs.takeR 67)=Ac by simp;omega):P:=h
theorem Le(h:P:=by exact show W0.cell? ⟨↑w,0,G⟩=I (J U op) from hbx.cell 0):P:=h
theorem Z0(h:P:=by exact show Fr Aj wr W1 by rw[←hW1];exact(Ao _ wr).alloc _):P:=h
theorem fK(h:P:=by exact show Fr Aj w4 wq by rw[←hwq];exact(Ao _ w4).drewN _):P:=h
theorem OH(h:P:=by exact show (Z A2 (sn+1) c2).ownBlock=I q from qS):P:=h
theorem OR(h:P:=by exact show decide (s.d.length<Gs.takeD op)=Ac by simp;omega):P:=h
theorem Ti(h:P:=by exact show decide (s.r.length<Gs.takeR op)=Ac by simp;omega):P:=h
theorem Vk(h:P:=by exact show decide (va<(u.m.n:Int)*64)=Ac by simpa using hp):P:=h
theorem Vq(h:P:=by exact show (zs.map (J k)).length=n by simpa using hlz):P:=h
theorem Yt(h:P:=by exact show (AX s i).pc=s.pc+b.length by rw[hpi,←n3];omega):P:=h
theorem Lg(h:P:=by exact show W0.cell? ⟨↑w,1,G⟩=I (J V n) from hbx.cell 1):P:=h
theorem iU(h:P:=by exact show Hid (goB s.ct n s'=bb) from T (by rw[HGB.out,hbb.out])):P:=h
theorem Ri(h:P:=by exact show (p+(b.length:Int))%4294967296=p+b.length by omega):P:=h
theorem dQ(h:P:=by exact show W0.cell? ⟨↑W,2,G⟩=I (J U n) from b6.cell 2):P:=h
theorem OZ(h:P:=by exact show decide ((s.d.length:Int)≤16)=Ag by simp;omega):P:=h
theorem T3(h:P:=by exact show decide ((s.r.length:Int)≤16)=Ag by simp;omega):P:=h
theorem PU(h:P:=by exact show w.cell? ⟨a.gm,1,G⟩=I ↑a.a.gt from qU):P:=h
theorem QC(h:P:=by exact show decide ((q:Int)<(n:Int))=Ag by simp;omega):P:=h
theorem Ni(h:P:=by exact show tmps[q]?.getD BY=↑g' by simpa using hq):P:=h
theorem PH(h:P:=by exact show s.promise o n=s by simp[Pl.promise,e1]):P:=h
theorem Qa(h:P:=by exact show ↑w=k by simpa[Cb] using hk):P:=h
theorem Qb(h:P:=by exact show g1=k by simpa[Cb] using hk):P:=h
theorem Sr(h:P:=by exact show g'=k by simpa[Cb] using hk):P:=h
theorem NI(h:P:=by exact show q=Ac by rw[←hq];simp[BZ];omega):P:=h
theorem KZ(h:P:=by exact show w.heap.size≤w.heap.size from AD _):P:=h
theorem PJ(h:P:=by exact show decide (n<0)=Ac by simpa using hn):P:=h
theorem Qm(h:P:=by exact show q=Ac by rw[←hq];simp[endsB];omega):P:=h
theorem Qr(h:P:=by exact show q=Ag by rw[←hq];simp[BZ];omega):P:=h
theorem QS(h:P:=by exact show decide (n≥0)=Ag by simpa using h0):P:=h
theorem NH(h:P:=by exact show decide (op≤40)=Ac by simp;omega):P:=h
theorem Qs(h:P:=by exact show decide (op≤25)=Ac by simp;omega):P:=h
theorem RH(h:P:=by exact show decide ((q:Int)= -1)=Ac by simp):P:=h
theorem NJ(h:P:=by exact show decide (op≤8)=Ac by simp;omega):P:=h
theorem RY(h:P:=by exact show ((n:Int)==0)=Ac by simp;omega):P:=h
theorem Ra(h:P:=by exact show 4096 -k=(4096 -k -1)+1 by omega):P:=h
theorem Ld(h:P:=by exact show w.heap.size<W0.heap.size from hbx.lt):P:=h
theorem Se(h:P:=by exact show (idx b.k s.bl).toNat=i by omega):P:=h
theorem Pi(h:P:=by exact show s=c by simpa[CG] using h):P:=h
theorem Q6(h:P:=by exact show j<L.length by simpa using hj):P:=h
theorem RG(h:P:=by exact show ((q:Int)== -1)=Ac by simp):P:=h
theorem QD(h:P:=by exact show (0:Int)≤(q:Int) by omega):P:=h
theorem Li(h:P:=by exact show base≤↑W0 from HP.out.1.hb):P:=h
theorem O(h:P:=by omega):P:=h
theorem Cp(h:P:=by intro W hSw;have k0:=hSw.cell s0 lgs id;have k1:=hSw.cell s3 lgs id;have k2:=hSw.cell rj lgR id;have k3:=hSw.cell mq lgi id;have k4:=hSw.cell e0 lo id;have k5:=hSw.cell e1 lo id;have k6:=hSw.cell e2 lo id;have k7:=hSw.cell d0 l12 id;have k8:=hSw.cell d1 l12 id;have k9:=hSw.cell d2 l12 id;go_simp;try with_reducible rfl):P:=h
theorem Dk(h:P:=by intro W hSw;have k0:=hSw.cell s0 hsl2 id;have k1:=hSw.cell j0 hil id;have k2:=hSw.cell j1 hil id;have k3:=hSw.cell j2 hil id;have k4:=hSw.cell n0 hil id;have k5:=hSw.cell n1 hil id;have k6:=hSw.cell n2 hil id;go_simp;try with_reducible rfl):P:=h
theorem CY(h:P:=by intro W hSw;have k15:=hSw.cell c15w cgl hne3;have k16:=hSw.cell c16w cgl hne3;have k19:=hSw.cell c19w cgl hne3;have k20:=hSw.cell c20w cgl hne3;have kl:=Bg cgl hSw.size;go_simp;try with_reducible rfl):P:=h
theorem BJ(h:P:=by intro X hSw;obtain⟨r0,r1,r2,r3,q0,q1,v1,v2,v3⟩:=HSx.out X hSw;go_simp;try with_reducible rfl):P:=h
theorem EN(h:P:=by intro W hSw;have k0:=hSw.cell s0 lgs id;have k1:=hSw.cell s3 lgs id;have k2:=hSw.cell rj lgR id;have k3:=hSw.cell mq lgi id;have k4:=hSw.cell e0 lo id;have k5:=hSw.cell e1 lo id;have k6:=hSw.cell e2 lo id;have k7:=hSw.cell d0 l12 id;have k8:=hSw.cell d1 l12 id;have k9:=hSw.cell d2 l12 id;go_simp):P:=h
theorem Ak(h:P:=by decide):P:=h
theorem GM(h:P:=by intro W hSw;have p0:=hSw.cell s0 k0 id;have p1:=hSw.cell s1 k1 id;have p2:=hSw.cell s2 k2 id;have p3:=hSw.cell s3 k2 id;have q0:=Bg k0 hSw.size;have q1:=Bg k1 hSw.size;have q2:=Bg k2 hSw.size;go_simp;try with_reducible rfl):P:=h
theorem Dc(h:P:=by intro W hSw;have r0:=hSw.cell k0 kl nk;have r1:=hSw.cell k1 kl nk;have q0:=Bg kl hSw.size;go_simp;try with_reducible rfl):P:=h
theorem FC(h:P:=by intro W hSw;have k0:=hSw.cell t7 htl7 (λe=>hgbx e);have k1:=hSw.cell pa hpl7 (λe=>hgpx e);have k2:=hSw.cell pb hpl7 (λe=>hgpx e);have kl:=Bg zl hSw.size;go_simp;try with_reducible rfl):P:=h
theorem AA(h:P:=by simp;omega):P:=h
theorem GO(h:P:=by intro W hSw;have p0:=hSw.cell s0 sl id;have p2:=hSw.cell k0 kl id;have p3:=hSw.cell k1 kl id;have q0:=Bg sl hSw.size;have q1:=Bg kl hSw.size;go_simp;try with_reducible rfl):P:=h
theorem Lu(h:P:=by intro W hSw;have p0:=hSw.cell s1 sl n0;have p2:=hSw.cell u0 ul n4;have p3:=hSw.cell u1 ul n4;have p4:=hSw.cell v0 vl n13;have p5:=hSw.cell v1 vl n13;have q0:=Bg sl hSw.size;have q1:=Bg ul hSw.size;have q2:=Bg vl hSw.size;go_simp;try with_reducible rfl):P:=h
theorem GK(h:P:=by intro W hSw;have k14:=hSw.cell d14 dgl hne3;have k18:=hSw.cell d18 dgl hne3;have kl:=Bg dgl hSw.size;go_simp;try with_reducible rfl):P:=h
theorem Io(h:P:=by intro W hSw;have r16:=hSw.2.1.cell 16;have q16:=hSw.2.1.lt;have r0:=hSw.2.2.cell 0;have r1:=hSw.2.2.cell 1;have q0:=hSw.2.2.lt;go_simp;try with_reducible rfl):P:=h
theorem AL(h:P:=by kernel_rfl):P:=h
theorem Ki(h:P:=by intro W hSw;have k13:W.cell? ⟨↑w,13,G⟩=I (J U N):=((B1.out.fr hSw id).cell 13).trans RQ;have kl:=(B1.out.fr hSw id).lt;go_simp;try with_reducible rfl):P:=h
theorem I9(h:P:=by intro W hSw;have p0:=hSw.cell s0 sl id;have p1:=hSw.cell s1 sl id;have hl:=HLm.out W hSw;have q0:=Bg sl hSw.size;go_simp;try with_reducible rfl):P:=h
theorem Fw(h:P:=by intro W hSw;have k0:=hSw.cell c0 hl0 hn3;have k1:=hSw.cell c1 hl0 hn3;go_simp;try with_reducible rfl):P:=h
theorem MU(h:P:=by intro W hSw;have p0:=hSw.cell s0 sl n0;have p2:=hSw.cell x0 xl n9;have p3:=hSw.cell x1 xl n9;have p4:=hSw.cell x2 xl n9;have p5:=hSw.cell x3 xl n9;have q0:=Bg sl hSw.size;have q1:=Bg xl hSw.size;go_simp;try with_reducible rfl):P:=h
theorem AC(h:P:=by simp):P:=h
theorem BC(h:P:=by simp[Act.eval,Act.put]):P:=h
theorem J5(h:P:=by intro W hSw;have r0:=hSw.r.cell 0;have r1:=hSw.r.cell 1;have r2:=hSw.x.cell 3;have q0:=hSw.r.lt;have q1:=hSw.x.lt;go_simp;try with_reducible rfl):P:=h
theorem CX(h:P:=by intro W hSw;go_simp;try with_reducible rfl):P:=h
theorem MT(h:P:=by intro W hSw;have p0:=hSw.cell t0 tl id;have p2:=hSw.cell u0 ul id;have p3:=hSw.cell u1 ul id;have q0:=Bg tl hSw.size;have q1:=Bg ul hSw.size;go_simp;try with_reducible rfl):P:=h
theorem Cc(h:P:=by simp only[BQ];omega):P:=h
theorem GR(h:P:=by intro X hSw;obtain⟨r0,r1,r2,q0⟩:=hSw;go_simp;try with_reducible rfl):P:=h
theorem IY(h:P:=by intro W hSw;obtain⟨⟨r0,r2,r3,rl⟩,p0,p1,pl⟩:=hSw;go_simp;try with_reducible rfl):P:=h
theorem C0(h:P:=by rw[own_ab hk,e]):P:=h
theorem Lj(h:P:=by rw[AS,BK hkl];exact CE hkl):P:=h
theorem Gk(h:P:=by intro w;go_simp;try with_reducible rfl):P:=h
theorem Bn(h:P:=by go_num):P:=h
theorem qV(h:P:=by first|decide|(dsimp only;decide)):P:=h
theorem ET(h:P:=by rw[Gu];omega):P:=h
theorem IS(h:P:=by rintro⟨h0,h1⟩;have:=HA.out _ h0 h1;omega):P:=h
theorem Ei(h:P:=by simp[Ir]):P:=h
theorem Tg(h:P:=by intro X hSw;obtain⟨r0,r1,r2,r3,q0,q1,v1,v2,v3⟩:=HSx.out X hSw;go_simp;try(have:=HLH.out;rw[Gu];omega)):P:=h
theorem IT(h:P:=by show ¬w.heap.size+1=w.heap.size;omega):P:=h
theorem Dh(h:P:=by simpa using h1):P:=h
theorem Oq(h:P:=by rw[AS,BK hjl];exact CE hjl):P:=h
theorem D7(h:P:=by simpa using h):P:=h
theorem DJ(h:P:=by simp only;omega):P:=h
theorem Oy(h:P:=by obtain⟨a1,a2,a3,a4,a5,a6,a7⟩:=HP.out.1.k;exact⟨a1,a2,a3,a4,a5,a6,a7⟩):P:=h
theorem Ow(h:P:=by obtain⟨a1,a2,a3,a4,a5,a6,a7⟩:=hk;constructor<;>(try dsimp only)<;>omega):P:=h
theorem SR(h:P:=by intro W hSw;exact Al.take_ld (ldB hSw.s AQ rfl AJ) rfl BC):P:=h
theorem aZ(h:P:=by rcases DG g ↑w with h|h;exact h;rw[show w.cell? ⟨g,off+q*2+1,G⟩=G by simp[World.cell?,Array.getElem?_eq_none h]] at c1;cases c1):P:=h
theorem aY(h:P:=by rcases DG g ↑w with h|h;exact h;rw[show w.cell? ⟨g,off+q*2,G⟩=G by simp[World.cell?,Array.getElem?_eq_none h]] at c0;cases c0):P:=h
theorem OT(h:P:=by simpa[Lit.wf,IntKind.min,IntKind.max,IntKind.signed,IntKind.bits] using⟨h0,h1⟩):P:=h
theorem bO(h:P:=by rw[e] at hq;rw[HlA.out] at hq;have:=H5.out.srt.2.1;have h2:=hlr5.srt (by rw[HlA.out];exact hq);rw[this] at h2;simp at h2):P:=h
theorem Dw(h:P:=by simp at q):P:=h
theorem Mx(h:P:=by simp[lowC,Fj,IH,It,Ia,Jg,Fi]):P:=h
theorem Jl(h:P:=by simp[Cb] at hk):P:=h
theorem Kv(h:P:=by simp[AX,C8,stackS,St.next]):P:=h
theorem VJ(h:P:=by show 0≤(s.ct+1)%18446744073709551616∧(s.ct+1)%18446744073709551616≤18446744073709551615;omega):P:=h
theorem MF(h:P:=by first|exact lastB hH|exact lastBd hH):P:=h
theorem JU(h:P:=by rcases e with e|e<;>omega):P:=h
theorem kD(h:P:=by have:=DU H1.out.d (.cells (fxV [v]).toArray 3);dsimp only at this;rwa[HM.out] at this):P:=h
theorem EV(h:P:=by rw[e];simp):P:=h
theorem MH(h:P:=by have:=HGU.out;show ¬↑w=gu;omega):P:=h
theorem Iy(h:P:=by show 0<16;omega):P:=h
theorem qW(h:P:=by with_unfolding_all rfl):P:=h
theorem Q7(h:P:=by rw[e];exact List.mem_map_of_mem (CE hj')):P:=h
theorem Py(h:P:=by rw[k3' a O O O];exact hx2):P:=h
theorem Pz(h:P:=by rw[k3' 9 O O O];exact v9'):P:=h
theorem Mf(h:P:=by show(0:Int)≤4294967295;omega):P:=h
theorem Q0(h:P:=by unfold Di;rw[Ae O,Ae O]):P:=h
theorem Qx(h:P:=by unfold Di;rw[Ae O,An (Af q3)]):P:=h
theorem Qy(h:P:=by unfold Di;rw[Ae O,An (Ah q4)]):P:=h
theorem MJ(h:P:=by have e:q=w.heap.size:=e;omega):P:=h
theorem Uf(h:P:=by simp only[Lw.add,Cq,D8,Gx];omega):P:=h
theorem Tp(h:P:=by simpa[Lit.wf,IntKind.min,IntKind.max,IntKind.signed,IntKind.bits] using h):P:=h
theorem Zj(h:P:=by unfold fxV;rw[List.dropLast_eq_take,List.map_take,hn,Nat.add_sub_cancel]):P:=h
theorem JM(h:P:=by simp[World.setCell]):P:=h
theorem JS(h:P:=by have:=HA.out;omega):P:=h
theorem Fu(h:P:=by rfl):P:=h
theorem Mq(h:P:=by rw[Gg];omega):P:=h
theorem OM(h:P:=by first|exact bqd|exact bqd.alloc _):P:=h
theorem KM(h:P:=by show(0:Int)≤0;omega):P:=h
theorem aR(h:P:=by simp only[Fo,List.length_range];rw[Nat.succ_mul];omega):P:=h
theorem dV(h:P:=by have:=By.IntsAt.lt_ HI.out.1 b' off e hn;have:=hF.2.1 b' ho;omega):P:=h
theorem Lm(h:P:=by have e:q=gp:=e;omega):P:=h
theorem Ls(h:P:=by have:=hk.2.2.1;omega):P:=h
theorem FJ(h:P:=by simp[hj]):P:=h
theorem MB(h:P:=by simp[G8,Kw,HRD.out]):P:=h
theorem Uy(h:P:=by unfold putR;rw[Ae (by rintro⟨h1,h2⟩;simp at h2;omega)]):P:=h
theorem ZT(h:P:=by rw[HZ.out];unfold CN;rw[Ae O,Du]):P:=h
theorem Jw(h:P:=by simp[Cs.flush]):P:=h
theorem IE(h:P:=by simp[Lw.new]):P:=h
theorem Yc(h:P:=by unfold hoV;rw[Ae h16,Ae h17,Ae h18,Ae h19,hs]):P:=h
theorem IU(h:P:=by simp[Cs.new]):P:=h
theorem NS(h:P:=by rcases hw1 with rfl|rfl<;>rfl):P:=h
theorem Zc(h:P:=by show I (Z p.C x.code.length p.cc)=_;rw[HM.out]):P:=h
theorem RQ(h:P:=by show I (J U (p.code.length:Int))=_;rw[HN.out]):P:=h
theorem Je(h:P:=by simp[Lw.one0]):P:=h
theorem VS(h:P:=by first|(show p.g≠↑w;omega)|(show p.g≠↑w2;exact hs3)):P:=h
theorem RE(h:P:=by rw[←hm];exact DU HP.out.1.d _):P:=h
theorem Lq(h:P:=by have:=hk.2.1;omega):P:=h
theorem JY(h:P:=by rw[own_ab hq,e]):P:=h
theorem Tf(h:P:=by have e:↑w=gm:=e;have:=HGM.out;omega):P:=h
theorem Ut(h:P:=by rw[k4 k c2 c3 c4,k3' k c2 c3 c4];exact kk k c1 c2 c3 c4):P:=h
theorem Zx(h:P:=by show I (J U (p.code.length:Int))=_;rw[hN]):P:=h
theorem ZL(h:P:=by show I (Z C p.code.length cc)=_;rw[HN.out]):P:=h
theorem SB(h:P:=by have:=h.g0;have:=h.z.2 0 h.z.1;omega):P:=h
theorem Jc(h:P:=by simp[BQ]):P:=h
theorem JE(h:P:=by simpa using h0):P:=h
theorem JR(h:P:=by simpa using hc):P:=h
theorem Kf(h:P:=by simpa using hr):P:=h
theorem Ox(h:P:=by rw[IntKind.wrap_i64];omega):P:=h
theorem RJ(h:P:=by have:=HGV.out;show ¬↑w1<gv;omega):P:=h
theorem ME(h:P:=by rw[HN.out];exact hlt):P:=h
theorem Ur(h:P:=by rw[k3' b O O O];exact hy2):P:=h
theorem Te(h:P:=by have e:k=gm:=e;have:=HGM.out;omega):P:=h
theorem gZ(h:P:=by have:=HUX.out.2 (by rw[hr];exact h);rwa[hr] at this):P:=h
theorem kI(h:P:=by show I (Z C p.code.length cc)=_;rw[hN]):P:=h
theorem QJ(h:P:=by simp only[D8];omega):P:=h
theorem Up(h:P:=by simp only[upZ,GA,if_false];exact v2'):P:=h
theorem Z6(h:P:=by rintro k hk ⟨h0,h1⟩;have:=HA.out _ h0 h1;omega):P:=h
theorem Ug(h:P:=by simp only[D8,Gx];omega):P:=h
theorem Qt(h:P:=by unfold Di;rw[An (Af q1)]):P:=h
theorem Qu(h:P:=by unfold Di;rw[An (Ah q2)]):P:=h
theorem RX(h:P:=by have:=hz.1;simpa using this.symm):P:=h
theorem ZE(h:P:=by first|exact q0|exact q0.alloc _|exact addBd q0 _):P:=h
theorem MI(h:P:=by show ¬gb=gp;omega):P:=h
theorem JB(h:P:=by simp[Lw.add]):P:=h
theorem WQ(h:P:=by rw[BW];exact h.cell q 0 hq O):P:=h
theorem WS(h:P:=by rw[BW];exact h.cell q 1 hq O):P:=h
theorem cE(h:P:=by rw[h.cell];exact gtc_mid gp a A ge s X Y j v hv):P:=h
theorem Kn(h:P:=by simp[Eo.new]):P:=h
theorem Nn(h:P:=by show _≤max _ _;omega):P:=h
theorem KQ(h:P:=by simpa using hq):P:=h
theorem aX(h:P:=by have:=hcx.srt hq;rw[e,tg] at this;simp at this):P:=h
theorem MN(h:P:=by simpa[ab] using e):P:=h
theorem MP(h:P:=by rw[←e2];exact e):P:=h
theorem aW(h:P:=by have:=hr.srt hq;rw[e,tg] at this;simp at this):P:=h
theorem iM(h:P:=by show((2000:Nat):Int)=2000 -(s.ct -s.ct);omega):P:=h
theorem jE(h:P:=by rw[h.cell];exact gtc0_mid gp a A s X Y j v hv):P:=h
theorem KD(h:P:=by simpa using e):P:=h
theorem Qq(h:P:=by rw[←hq];simp[Gn];omega):P:=h
theorem WY(h:P:=by have:=FB.out.size;simp[World.setCell];omega):P:=h
theorem Jm(h:P:=by rw[e];rfl):P:=h
theorem Xk(h:P:=by rw[Jr hil];exact CE hil):P:=h
theorem O4(h:P:=by show ¬gb=↑w;omega):P:=h
theorem OP(h:P:=by have e:k=gb:=e;omega):P:=h
theorem Xr(h:P:=by rw[k1 15 O O];exact E.z):P:=h
theorem Kx(h:P:=by split<;>simp):P:=h
theorem Ln(h:P:=by rw[AJ];rfl):P:=h
theorem OI(h:P:=by have:=HN9.out;omega):P:=h
theorem Sd(h:P:=by have:=hlow _ hE _ e;omega):P:=h
theorem LM(h:P:=by simpa using hp):P:=h
theorem LS(h:P:=by simpa using hb):P:=h
theorem Md(h:P:=by simpa using hi):P:=h
theorem Mj(h:P:=by simpa using hm):P:=h
theorem Mv(h:P:=by simpa using h2):P:=h
theorem O6(h:P:=by have:=HG.out;omega):P:=h
theorem aB(h:P:=by show ¬w.heap.size=w.heap.size+1;omega):P:=h
theorem Wx(h:P:=by rw[←e];exact List.mem_map_of_mem hq):P:=h
theorem WU(h:P:=by obtain⟨F,h1,h2,h3⟩:=hrow;exact h2):P:=h
theorem QX(h:P:=by rw[toList_madeCells_one]):P:=h
theorem Re(h:P:=by rw[Gg];rfl):P:=h
theorem Rg(h:P:=by simp[stc,Ir]):P:=h
theorem Zz(h:P:=by show ¬w1.heap.size<w.heap.size;omega):P:=h
theorem bU(h:P:=by have:=h.fl;have:=k.fl;push_cast;omega):P:=h
theorem Nh(h:P:=by rw[hi,←hn];simp):P:=h
theorem N6(h:P:=by simp[AM];omega):P:=h
theorem NV(h:P:=by have:=hw.tg;omega):P:=h
theorem ZK(h:P:=by have:=HGU.out;show ¬↑w+1=gu;omega):P:=h
theorem cV(h:P:=by simp[AW,FI]):P:=h
theorem Qc(h:P:=by rw[VA,Nat.mul_one]):P:=h
theorem QV(h:P:=by have:=hF.out.size;omega):P:=h
theorem UG(h:P:=by rw[List.eq_of_mem_replicate hv];rfl):P:=h
theorem YD(h:P:=by simp[Ia,Jg,C9]):P:=h
theorem bR(h:P:=by rw[←show k=e.gm from e2];exact hk):P:=h
theorem j4(h:P:=by rw[show k=gg from hk];exact q1 _ p3):P:=h
theorem Ud(h:P:=by rw[e] at hm⊢;simp at hm;simp[hm]):P:=h
theorem Nw(h:P:=by simp[Pl.take,e0]):P:=h
theorem Wa(h:P:=by intro e;subst e;simp[Gn] at hS):P:=h
theorem QP(h:P:=by unfold Cu at*;omega):P:=h
theorem OG(h:P:=by rw[HZ.out];omega):P:=h
theorem iA(h:P:=by rw[HRR.out.1];exact An trivial):P:=h
theorem TH(h:P:=by simp[AX,C8,reckS,St.next]):P:=h
theorem LZ(h:P:=by rw[hl];omega):P:=h
theorem Zi(h:P:=by rw[v1];have:=own_ab hk;rw[this,e]):P:=h
theorem Tj(h:P:=by show(1:Nat)≤3;omega):P:=h
theorem Zk(h:P:=by (have:=this.lr;dsimp only;omega)):P:=h
theorem Zn(h:P:=by (have:=this.ld;dsimp only;omega)):P:=h
theorem O7(h:P:=by simpa using hb3):P:=h
theorem aL(h:P:=by show g<↑w6;have:=f6.size;omega):P:=h
theorem cA(h:P:=by rw[Rn.own_ab hk,show k=q from r]):P:=h
theorem cO(h:P:=by rw[HN.out,key _ _ _ _ _ rfl];rfl):P:=h
theorem Y6(h:P:=by unfold BI;rw[An hr];omega):P:=h
theorem RS(h:P:=by show ¬gp=↑w;omega):P:=h
theorem aC(h:P:=by have e:q=w.heap.size+1:=e;omega):P:=h
theorem LF(h:P:=by rw[e];omega):P:=h
theorem Nv(h:P:=by simp[EC,e0]):P:=h
theorem Vn(h:P:=by simp[show i<l.length by omega]):P:=h
theorem Oe(h:P:=by simp[hc];omega):P:=h
theorem XX(h:P:=by rw[HM.out];exact AD _):P:=h
theorem Oh(h:P:=by simpa using hz):P:=h
theorem Ot(h:P:=by simpa using e2):P:=h
theorem Zg(h:P:=by rw[List.length_dropLast];omega):P:=h
theorem Z1(h:P:=by rw[←hW1];exact AI _ _ _):P:=h
theorem fM(h:P:=by show ab G≠I q;simp[ab]):P:=h
theorem Su(h:P:=by have:=hx k hk;omega):P:=h
theorem Sz(h:P:=by simp[Eo.new,Cs.new]):P:=h
theorem Pe(h:P:=by simp[C8];omega):P:=h
theorem Px(h:P:=by simp[upZ,h1,h2,h3]):P:=h
theorem N1(h:P:=by rw[h.n];omega):P:=h
theorem N3(h:P:=by rw[hz2];omega):P:=h
theorem QO(h:P:=by unfold Ez;omega):P:=h
theorem Rl(h:P:=by show b<↑w;omega):P:=h
theorem Tk(h:P:=by rw[←HM.out];rfl):P:=h
theorem Mm(h:P:=by simp[upZ]):P:=h
theorem KB(h:P:=by cases e):P:=h
theorem Sh(h:P:=by rw[HI.out];omega):P:=h
theorem Si(h:P:=by rw[HJ.out];omega):P:=h
theorem NU(h:P:=by rw[e1];simp):P:=h
theorem NW(h:P:=by simp[Dg]):P:=h
theorem PN(h:P:=by simp[Ts.map,e0]):P:=h
theorem Q9(h:P:=by simpa using hne):P:=h
theorem Rb(h:P:=by simpa using hkn):P:=h
theorem RW(h:P:=by simpa using hb1):P:=h
end Go.Proofs.YtdfegdoeebaagaaGreatDoor
