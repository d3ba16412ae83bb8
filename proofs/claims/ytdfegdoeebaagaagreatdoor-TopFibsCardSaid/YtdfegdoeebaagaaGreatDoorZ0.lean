import Derived.BigQuiet
import Derived.Deep.AppendLies
import Derived.Deep.CutBlock
import Derived.Deep.DeepCutAuto
import Derived.Deep.DeepHandedRow
import Derived.Deep.Fields
import Derived.Deep.RegionHeld3
import Derived.Deep.RegionHeldLaw
import Derived.DeepKeys5
import Derived.Handy
import Derived.Laws.CopyOwn
import Derived.Lib.EndianBits
import Derived.Lib.Hide
import Derived.Lib.LaidTab
import Derived.ShutString
import Derived.StillTailTactics
import Derived.Test.YtdfegdoeebaagaaGreatDoorProg
import Derived.WalkSpells
import Derived.WideKeyEntry
namespace Go.Proofs.YtdfegdoeebaagaaGreatDoor
open Go.RowKit
set_option linter.unusedVariables false
universe u
section
variable {P : Program} {md : Region.Mode} {ops : Array Oper} {Q : Exit → Act → World → Prop} {S : World → Prop} {fuel : Nat} {listed : Array Bool} {a : Act} {w : World} {o : Oper}
theorem Ay (i : Nat) {v : Value} (hi : ops[i]? = some o) (hS : S w) (hy : ∀ w, S w → (execOp a.eval o).run P w = .ok (.value v) w) (h : wpAnyH P md ops Q S fuel (listed.setIfInBounds i true) (a.put o.dst v) w)
    (hs : Region.noSelect ops = true := by kernel_rfl) (hf : Region.free md ops listed i = true := by kernel_rfl) (hr : (Region.ready md ops listed).contains i = true := by kernel_rfl) (hw : Region.wanted o (yielded ops a.tmps) = true := by kernel_rfl) (hQ : ∀ c a' w', Q (.panic c) (a'.put o.dst v) w' → Q (.panic c) a' w' := by exact fun _ _ _ h => h) :
    wpAnyH P md ops Q S (fuel + 1) listed a w := wpAnyH_take hi hs hf hr hQ (.inl ⟨hw, hy⟩) hS h
theorem CW (i : Nat) (v : Value) (hi : ops[i]? = some o) (hS : S w) (hy : ∀ w, S w → (execOp a.eval o).run P w = .ok (.value v) w) (h : wpAnyH P md ops Q S fuel (listed.setIfInBounds i true) (a.put o.dst v) w)
    (hs : Region.noSelect ops = true := by kernel_rfl) (hf : Region.free md ops listed i = true := by kernel_rfl) (hr : (Region.ready md ops listed).contains i = true := by kernel_rfl) (hw : Region.wanted o (yielded ops a.tmps) = true := by kernel_rfl) (hQ : ∀ c a' w', Q (.panic c) (a'.put o.dst v) w' → Q (.panic c) a' w' := by exact fun _ _ _ h => h) :
    wpAnyH P md ops Q S (fuel + 1) listed a w := wpAnyH_take hi hs hf hr hQ (.inl ⟨hw, hy⟩) hS h
theorem Bp (i : Nat) (hi : ops[i]? = some o) (hS : S w) (h : wpAnyH P md ops Q S fuel (listed.setIfInBounds i true) (a.put o.dst undef) w)
    (hs : Region.noSelect ops = true := by kernel_rfl) (hf : Region.free md ops listed i = true := by kernel_rfl) (hr : (Region.ready md ops listed).contains i = true := by kernel_rfl) (hw : Region.wanted o (yielded ops a.tmps) = false := by kernel_rfl) (hQ : ∀ c a' w', Q (.panic c) (a'.put o.dst undef) w' → Q (.panic c) a' w' := by exact fun _ _ _ h => h) :
    wpAnyH P md ops Q S (fuel + 1) listed a w := wpAnyH_take hi hs hf hr hQ (.inr ⟨hw, rfl⟩) hS h
theorem Dm (i : Nat) {v : Value} (hi : ops[i]? = some o) (hy : ∀ w, (execOp a.eval o).run P w = .ok (.value v) w) (h : wpAny P md ops Q fuel (listed.setIfInBounds i true) (a.put o.dst v) w)
    (hs : Region.noSelect ops = true := by kernel_rfl) (hf : Region.free md ops listed i = true := by kernel_rfl) (hr : (Region.ready md ops listed).contains i = true := by kernel_rfl) (hw : Region.wanted o (yielded ops a.tmps) = true := by kernel_rfl) (hQ : ∀ c a' w', Q (.panic c) (a'.put o.dst v) w' → Q (.panic c) a' w' := by exact fun _ _ _ h => h) :
    wpAny P md ops Q (fuel + 1) listed a w := wpAny_take hi hs hf hr hQ (.inl ⟨hw, hy⟩) h
theorem rH (i : Nat) (v : Value) (hi : ops[i]? = some o) (hy : ∀ w, (execOp a.eval o).run P w = .ok (.value v) w) (h : wpAny P md ops Q fuel (listed.setIfInBounds i true) (a.put o.dst v) w)
    (hs : Region.noSelect ops = true := by kernel_rfl) (hf : Region.free md ops listed i = true := by kernel_rfl) (hr : (Region.ready md ops listed).contains i = true := by kernel_rfl) (hw : Region.wanted o (yielded ops a.tmps) = true := by kernel_rfl) (hQ : ∀ c a' w', Q (.panic c) (a'.put o.dst v) w' → Q (.panic c) a' w' := by exact fun _ _ _ h => h) :
    wpAny P md ops Q (fuel + 1) listed a w := wpAny_take hi hs hf hr hQ (.inl ⟨hw, hy⟩) h
theorem rI (i : Nat) (hi : ops[i]? = some o) (h : wpAny P md ops Q fuel (listed.setIfInBounds i true) (a.put o.dst undef) w)
    (hs : Region.noSelect ops = true := by kernel_rfl) (hf : Region.free md ops listed i = true := by kernel_rfl) (hr : (Region.ready md ops listed).contains i = true := by kernel_rfl) (hw : Region.wanted o (yielded ops a.tmps) = false := by kernel_rfl) (hQ : ∀ c a' w', Q (.panic c) (a'.put o.dst undef) w' → Q (.panic c) a' w' := by exact fun _ _ _ h => h) :
    wpAny P md ops Q (fuel + 1) listed a w := wpAny_take hi hs hf hr hQ (.inr ⟨hw, rfl⟩) h
theorem Bb (rs : List Nat) (h : AllReadyH P md ops Q S fuel listed a w rs) (hr : Region.ready md ops listed = rs := by kernel_rfl) (hne : rs ≠ [] := by simp) : wpAnyH P md ops Q S (fuel + 1) listed a w := wpAnyH_ready hr hne h
theorem Dp (rs : List Nat) (h : AllReady P md ops Q fuel listed a w rs) (hr : Region.ready md ops listed = rs := by kernel_rfl) (hne : rs ≠ [] := by simp) : wpAny P md ops Q (fuel + 1) listed a w := wpAny_ready hr hne h
theorem AT {i : Nat} {rs : List Nat} (h : ∀ K' : Act → World → Prop, Shut (∀ a w, S w → (S w → wpAnyH P md ops Q S fuel (listed.setIfInBounds i true) a w) → K' a w) → if Region.wanted o (yielded ops a.tmps) = true then Oper.wp P o a w K' Q else K' (a.put o.dst undef) w)
    (hs : AllReadyH P md ops Q S fuel listed a w rs) (ho : ops[i]? = some o := by rfl) : AllReadyH P md ops Q S fuel listed a w (i :: rs) := AllReadyH.cons ho h hs
theorem C9 {i : Nat} {rs : List Nat} (h : ∀ K' : Act → World → Prop, (∀ a w, wpAny P md ops Q fuel (listed.setIfInBounds i true) a w → K' a w) → if Region.wanted o (yielded ops a.tmps) = true then Oper.wp P o a w K' Q else K' (a.put o.dst undef) w)
    (hs : AllReady P md ops Q fuel listed a w rs) (ho : ops[i]? = some o := by rfl) : AllReady P md ops Q fuel listed a w (i :: rs) := AllReady.cons ho h hs
theorem Bf : AllReadyH P md ops Q S fuel listed a w [] := AllReadyH.nil
theorem D6 : AllReady P md ops Q fuel listed a w [] := AllReady.nil
theorem CX (h : Q .normal a w) (hr : Region.ready md ops listed = [] := by kernel_rfl) : wpAnyH P md ops Q S fuel listed a w := wpAnyH_done hr h fuel
theorem Tl (h : Q .normal a w) (hr : Region.ready md ops listed = [] := by kernel_rfl) : wpAny P md ops Q fuel listed a w := wpAny_done hr h fuel
theorem AH : (∀ (l : List Oper) (i : Nat) (h : i < l.toArray.size), l.toArray[i] = l[i]'(by simpa using h)) ∧ (∀ (l : List Value) (i : Nat) (h : i < l.toArray.size), l.toArray[i] = l[i]'(by simpa using h)) ∧ (∀ (x : Oper) (l : List Oper) (h : 0 < (x :: l).length), (x :: l)[0]'h = x) ∧ (∀ (x : Oper) (l : List Oper) (i : Nat) (h : i + 1 < (x :: l).length), (x :: l)[i + 1]'h = l[i]'(Nat.lt_of_succ_lt_succ h)) ∧
    (∀ (l : List Value) (i : Nat) (v : Value), l.toArray.setIfInBounds i v = (l.set i v).toArray) ∧ (∀ (x v : Value) (l : List Value), (x :: l).set 0 v = v :: l) ∧ (∀ (x v : Value) (l : List Value) (i : Nat), (x :: l).set (i + 1) v = x :: l.set i v) ∧ (∀ (a : Act) (t : Tmp) (v : Value), a.put (some t) v = { a with tmps := a.tmps.setIfInBounds t v }) ∧ (∀ (a : Act) (v : Value), a.put none v = a) :=
  ⟨fun _ _ _ => rfl, fun _ _ _ => rfl, fun _ _ _ => rfl, fun _ _ _ _ => rfl, fun _ _ _ => by simp, fun _ _ _ => rfl, fun _ _ _ _ => rfl, fun _ _ _ => rfl, fun _ _ => rfl⟩
theorem Ae {c : Prop} {h : Decidable c} (n : ¬c) {α : Sort u} {t e : α} : (ite c t e) = e := if_neg n
theorem An {c : Prop} {h : Decidable c} (n : c) {α : Sort u} {t e : α} : (ite c t e) = t := if_pos n
theorem Ax {P : Program} {f : FuncId} {args : Array Value} {w : World} {R R' : Ending → World → Prop} (h : Hid (Calls P f args w R)) (hr : ∀ e w', R e w' → R' e w') : Calls P f args w R' := h.out.mono hr
theorem A9 {α : Sort u} (x : α) : ∃ y, x = y := ⟨x, rfl⟩
theorem T {p : Prop} (h : p) : Hid p := h
instance : Coe World Nat := ⟨fun w => w.heap.size⟩
abbrev Aj : Nat → Prop := fun _ => False
abbrev Aw := Option Addr
abbrev AP := Array Value
abbrev AE := Nat → Prop
instance : Coe Nat Value := ⟨fun g => .pointer (some ⟨g, 0, none⟩)⟩
end
end Go.Proofs.YtdfegdoeebaagaaGreatDoor
open Go.Value renaming slice→Z,int→J,bool→Ao,tuple→AF,agg→A8,ownBlock→BZ,pointer→Bm,oneCell'→Io
open Option renaming some→I,none→G
open Go.IntKind renaming i64→U,u32→V,u64→AQ,wrap_u32→EH,u8→AD,wrap_u64→Gj
open Go renaming World→Aa,Calls→As,Value→At,bodyPost_ret→Bu,TypeId→AN,wp_region_held_drew→CB,Ending→AZ,info_parts→Cj,madeCells→CJ,bits→AX,maxLen→Ce,wpList→Cz,Program→CG,undef→BY,run_underlying→Fk,Oper→BN,Operand→Dh
open Bool renaming false→Ac,true→Ag,false_ne_true→Fz,false_and→GR
open Go.Ending renaming returned→Av
open List renaming getD_eq_getElem?_getD→AU,getElem?_eq_getElem→BM,length_append→Ck,mem_map→BW,append_assoc→C8,getElem_mem→CI,getElem?_take_of_lt→Ea,getElem?_append_right→EK,range→Cw,mem_append→Dc,length_cons→DD,getElem?_append_left→Fo,cons_append→DO,mem_filter→DJ,length_pos_iff→EL,nil_append→DN,mem_cons→Dx,getElem?_map→EA,getLastD_eq_getLast?→FU,getElem?_eq_none→FL,replicate→Ex,map_append→Fp,length_nil→Fs,getElem_of_mem→GC,dropLast_concat→GS,mem_singleton→Ie,length_map→GA,concat_eq_append→Ir,setIfInBounds_toArray→IA,range_succ→GZ,singleton_append→IF,map_cons→GQ,map_map→GU,set_cons_zero→IB,set_cons_succ→IC
open Nat renaming le_refl→AC,lt_of_lt_of_le→Bh,le_trans→Bg,zero_le→Bn,zero_add→BS,lt_or_ge→DL,eq_zero_or_pos→Gr,reduceEqDiff→Gz
open And renaming intro→Az
open Or renaming inl→Af,inr→Ah
open Go.Proofs.Tryz renaming underlying39→AR,underlying23→DW,underlying218→Gk,underlying85→Gd,underlying27→I3
open Go.RowKit renaming intOf→AM
open Int renaming eq_ofNat_of_zero_le→DT,toNat_natCast→DE
open Go.Builtin renaming zeroCells→DY,delete_→Js
open Go.Region renaming wanted→Dv
open Array renaming getElem?_toList→Fc,getElem?_eq_some_iff→IM
open Go.AllReadyH renaming nil→Et
open Go.Result renaming andThen→Fe
open Option.some renaming inj→GE
open Go.MapKept renaming run_getObj_map→Ix,run_setObj_map→Jr
open Go.IntWalk renaming i64_in→GD
open Go.Instr renaming makeSlice→GB,mapUpdate→Iy
open Go.Lit renaming int→Ew
open Go.Oper renaming wp→EZ
open Go.Sem renaming run_bind→GP
namespace Go.Proofs.YtdfegdoeebaagaaGreatDoor
open Go Go.RowKit

variable{P:Prop}
theorem ZZ(h:P:=by
 clear ho3;go_upto_region 20 with(fail);refine CB (S:=Fr (λq=>q=gx) W7) AL ((Ak (λq=>q=gx) W7).drew) (λhH=>?_);refine Ay 0 rfl hH FK ?_;refine Ay 1 rfl hH FK ?_;refine Ay 5 rfl hH FK ?_
 try simp only[AH]
 refine Ay 6 rfl hH FK ?_
 try simp only[AH]
 refine Bb [2,7] ?_;refine AT (λK hK=>?_) ?_
 ·go_simp;refine hK.out _ _ hH λhH=>?_;clear hK K;refine Ay 3 rfl hH FK ?_;refine Ay 4 rfl hH FK ?_
  try simp only[AH]
  refine Bb [7] ?_;refine AT (λK hK=>?_) ?_;·go_simp;refine hK.out _ _ hH λhH=>?_;clear hK K;refine Ay 8 rfl hH FK ?_;refine Ay 9 rfl hH FK ?_;exact kF
  exact Bf
 refine AT (λK hK=>?_) ?_
 ·go_simp;refine hK.out _ _ hH λhH=>?_;clear hK K;refine Ay 8 rfl hH FK ?_;refine Ay 9 rfl hH FK ?_
  try simp only[AH]
  refine Bb [2] ?_;refine AT (λK hK=>?_) ?_;·go_simp;refine hK.out _ _ hH λhH=>?_;clear hK K;refine Ay 3 rfl hH FK ?_;refine Ay 4 rfl hH FK ?_;exact kF
  exact Bf
 exact Bf):P:=h
theorem kF(h:P:=by
 refine Ay 10 rfl hH FK ?_
 try simp only[AH]
 refine Bb [11] ?_;refine AT (λK hK=>?_) ?_
 ·go_simp;refine hK.out _ _ (hH.setCell (Af rfl) _) λhH=>?_;clear hK K;refine Ay 12 rfl hH FK ?_
  try simp only[AH]
  refine Bb [13] ?_;refine AT (λK hK=>?_) ?_
  ·go_simp;refine hK.out _ _ (hH.setCell (Af rfl) _) λhH=>?_;clear hK K;refine CX ?_
   try simp only[AH]
   go_upto_region 22 with(fail);have bx8:Blk (((W7.setCell ⟨gx,2,G⟩ (J U (upN s.pl k m xa:Nat))).setCell ⟨gx,3,G⟩ (J U (upN s.pl k m xb:Nat))).setCell ⟨gx,1,G⟩ (J U (m:Nat))).drew gx 266 #[J U op,J U m,J U ((upN s.pl k m xa):Nat),J U ((upN s.pl k m xb):Nat),J V imm]:=(((BX7.out.set_ 2 _).set_ 3 _).set_ 1 _).drew;have f8:Fr (· =gx) W7 (((W7.setCell ⟨gx,2,G⟩ (J U (upN s.pl k m xa:Nat))).setCell ⟨gx,3,G⟩ (J U (upN s.pl k m xb:Nat))).setCell ⟨gx,1,G⟩ (J U (m:Nat))).drew:=((((Ak (λq=>q=gx) W7).setCell (p:=⟨gx,2,G⟩) (Af rfl) _).setCell (p:=⟨gx,3,G⟩) (Af rfl) _).setCell (p:=⟨gx,1,G⟩) (Af rfl) _).drew;have own8:=AS OW7.out f8 (λq hq e=>by have:=HLX.out q hq;omega);have cp8:=CP7.out.fr f8 (by show ¬gp=gx;omega);have F8:Hid (Fr (λq=>q=gp) W6 (((W7.setCell ⟨gx,2,G⟩ (J U (upN s.pl k m xa:Nat))).setCell ⟨gx,3,G⟩ (J U (upN s.pl k m xb:Nat))).setCell ⟨gx,1,G⟩ (J U (m:Nat))).drew):=T (F7.out.trans f8 (λq hq e=>O));clear f8;generalize(((W7.setCell ⟨gx,2,G⟩ (J U (upN s.pl k m xa:Nat))).setCell ⟨gx,3,G⟩ (J U (upN s.pl k m xb:Nat))).setCell ⟨gx,1,G⟩ (J U (m:Nat))).drew=W8 at*;have x0:=bx8.cell 0;have x1:=bx8.cell 1;have x2:=bx8.cell 2;have x3:=bx8.cell 3;have x4:=bx8.cell 4;have hx8:=bx8.lt;have hsz8:W6.heap.size≤W8.heap.size:=F8.out.size;have HO8:=T (Eb own8 (.cells #[J U op,J U m,J U ((upN s.pl k m xa):Nat),J U ((upN s.pl k m xb):Nat),J V imm] 266));have hrd:Hid (Reads (W8.alloc (.cells #[J U op,J U m,J U ((upN s.pl k m xa):Nat),J U ((upN s.pl k m xb):Nat),J V imm] 266)) (↑W8+1) 5 (I ⟨↑W8,0,G⟩) 1 (iis [⟨op,m,(upN s.pl k m xa),(upN s.pl k m xb),imm⟩])):=T (by
    have:=CT (size:=5) (n:=1) (AI W8 266 #[J U op,J U m,J U ((upN s.pl k m xa):Nat),J U ((upN s.pl k m xb):Nat),J V imm]) AB;simpa[iis] using this)
   have CP8:=T cp8;clear own8 cp8 bx8;go_wp2_with
    (at_builtin
     refine CS _ rfl (.tmp 108) (.tmp 110) _ rfl W6.heap.size 266 i5 _ 5 40 Tryz.underlying216 hi5 hz5 hs5 hy5 rfl O (Z A' m c') m (iis s.out) rfl HO8.out (W8.heap.size+1) (I ⟨W8.heap.size,0,G⟩) 1 1 (iis [⟨op,m,(upN s.pl k m xa),(upN s.pl k m xb),imm⟩]) rfl hrd.out (RC _) Cb O AA ?_
     intro v1 w3 hown1 hg1 hat1
     obtain⟨A3,c3,rfl⟩:=EE hown1
     have HX:=T (Az hown1 hg1)
     clear hown1 hg1 hat1)
   go_roundw;case rel=>
    have hbo:=ZX;have hm2:EM (upN s.pl k m) m ⟨op,dst,xa,xb,imm⟩=⟨op,m,(upN s.pl k m xa),(upN s.pl k m xb),imm⟩:=(by unfold EM;rw[An (by show 3≤op;omega)]);exact ZY
   case measure=>simp[AM];omega
  exact Bf
 exact Bf):P:=h
theorem gV(h:P:=by
 clear f0 hH';obtain⟨wc,rfl⟩: ∃wz,wz=wd:=⟨_,rfl⟩;refine Bb [6] ?_;refine AT (λK hK=>?_) ?_
 ·go_simp;go_wp2_with ((with_reducible refine(HFd.out _ HF.out).mono ?_);rintro e3 w3 ⟨pc,pl,C,nC,cC,ct,A2,n2,c2,en,ok,e2,rfl,hel,hhit⟩;have HE:=T (Elk.from0 HF.out HL2.out.en hel);have HHIT:=T hhit;have hS3:=hH.tr hel.f;(try(have N14:=T (J3 hel (HN2.out _ L14.out) B14.out.lt);replace B14:=T (B14.out.fr hel.f (HN2.out _ L14.out))));(try(have N15:=T (J3 hel (HN2.out _ L15.out) B15.out.lt);replace B15:=T (B15.out.fr hel.f (HN2.out _ L15.out))));clear hel hhit HF);refine hK.out _ _ (hS3) λhH=>?_;clear hK K;clear hS3;obtain⟨wc,rfl⟩: ∃wz,wz=w3:=⟨_,rfl⟩;refine Ay 7 rfl hH De ?_;refine Ay 8 rfl hH De ?_;refine Ay 9 rfl hH De ?_
  try simp only[AH]
  refine Ay 10 rfl hH De ?_
  try simp only[AH]
  refine Bb [13] ?_;refine AT (λK hK=>?_) ?_;·exact kG
  exact Bf
 exact Bf):P:=h
theorem VY(h:P:=by
 have q66:(op==66)=Ac:=by simp[h66]
 have q67:(op==67)=Ac:=by simp[h67]
 clear h66 h67 hS;have X0:=T B1.out;have Y0:=T B2.out;go_in;go_wp2_with fail;refine Ax Hr ?_;rintro e w2 ⟨rfl,f1⟩;have F1:=T (F0.out.tr f1);have X1:=T (X0.out.fr f1 id);have Y1:=T (Y0.out.fr f1 id);have b11:=X1.out;have u0:=Y1.out.cell 0;have u1:=Y1.out.cell 1;have v1:=X1.out.cell 1;have v2:=X1.out.cell 2;have v4:=X1.out.cell 4;clear f1;go_wp2_with fail;refine(Hs.out _).mono ?_;rintro e w' ⟨rfl,rfl⟩;go_wp2_with ((with_reducible refine wpL_lq b11 AR AJ ?_));refine(Hg.out _).mono ?_;rintro e w3 ⟨rfl,f2⟩;have F2:=T (F1.out.tr f2);clear u0 u1 v1 v2 v4;have X2:=T (X1.out.fr f2 id);have Y2:=T (Y1.out.fr f2 id);have b12:=X2.out;have u0:=Y2.out.cell 0;have u1:=Y2.out.cell 1;have v1:=X2.out.cell 1;have v2:=X2.out.cell 2;have v4:=X2.out.cell 4;clear f2 b11;go_wp2_with ((with_reducible refine wpL_lq b12 AR AJ ?_));refine(Ht.out _ F2.out).mono ?_;rintro e w4 ⟨A4,c4,B4,d4,rfl,_,_,f3⟩;have F3:=T (F2.out.tr f3);clear u0 u1 v1 v2 v4;have X3:=T (X2.out.fr f3 id);have Y3:=T (Y2.out.fr f3 id);have b13:=X3.out;have u0:=Y3.out.cell 0;have u1:=Y3.out.cell 1;have v1:=X3.out.cell 1;have v2:=X3.out.cell 2;have v4:=X3.out.cell 4;have hg4:=X3.out.lt;have hg5:=Y3.out.lt;clear f3 b12;have HX3:=X3;by_cases q1:s.d.length<Gs.takeD op;·have e1:decide (s.d.length<Gs.takeD op)=Ag:=AA;have hfv:Hid (Dl s op=3):=T Qs;exact Fh
 ·by_cases q2:s.r.length<Gs.takeR op;·have e1:=OS;have e2:decide (s.r.length<Gs.takeR op)=Ag:=AA;have hfv:Hid (Dl s op=3):=T Qt;exact Fh
  ·by_cases q3:16<s.d.length -Gs.takeD op+Gs.putD op;·have e1:=OS;have e2:=Ti;have e3:decide ((16:Int)<(s.d.length:Int) -(Gs.takeD op:Int)+(Gs.putD op:Int))=Ag:=AA;have hfv:Hid (Dl s op=4):=T Qw;exact Fh
   ·by_cases q4:16<s.r.length -Gs.takeR op+Gs.putR op;·have e1:=OS;have e2:=Ti;have e3:=kH;have e4:decide ((16:Int)<(s.r.length:Int) -(Gs.takeR op:Int)+(Gs.putR op:Int))=Ag:=AA;have hfv:Hid (Dl s op=4):=T Qx;exact Fh
    ·have e1:=OS;have e2:=Ti;have e3:=kH;have e4:decide ((16:Int)<(s.r.length:Int) -(Gs.takeR op:Int)+(Gs.putR op:Int))=Ac:=AA;have hfv:Hid (Dl s op=0):=T Qy;exact Fh):P:=h
theorem gQ(h:P:=by
 refine Bb [12] ?_;refine AT (λK hK=>?_) ?_
 ·have hH':=hH;go_simp;refine hK.out _ _ (hH'.alloc _) λhH=>?_;clear hK K;have f0:=OM;have B15:=T (AI wc 158 zR);have L15:=T (J5 hH')
  try have N15:=T (J4 HE.out)
  try replace B14:=T (B14.out.fr f0 id)
  try replace HF:=T (HF.out.tr f0)
  try(replace HE:=T (HE.out.then0 f0);replace HHIT:=T (λq=>(HHIT.out q).fr f0 (λ_ e=>e.elim)))
  obtain⟨g15,hg⟩:=A9 wc.heap.size;rw[hg] at B15 L15⊢
  try rw[hg] at N15
  clear hg;generalize wc.alloc (.cells zR 158)=wd at*;exact kI
 exact Bf):P:=h
theorem gT(h:P:=by
 refine Bb [11] ?_;refine AT (λK hK=>?_) ?_
 ·have hH':=hH;go_simp;refine hK.out _ _ (hH'.alloc _) λhH=>?_;clear hK K;have f0:=OL;have B14:=T (AI wc 149 zB);have L14:=T (J5 hH')
  try have N14:=T (J4 HE.out)
  try replace B15:=T (B15.out.fr f0 id)
  try replace HF:=T (HF.out.tr f0)
  try(replace HE:=T (HE.out.then0 f0);replace HHIT:=T (λq=>(HHIT.out q).fr f0 (λ_ e=>e.elim)))
  obtain⟨g14,hg⟩:=A9 wc.heap.size;rw[hg] at B14 L14⊢
  try rw[hg] at N14
  clear hg;generalize wc.alloc (.cells zB 149)=wd at*;exact kI
 exact Bf):P:=h
theorem dZ(h:P:=by
 refine CB (S:=λX=>X.cell? ⟨↑W,0,G⟩=I (Z A1 n1 c1)∧X.cell? ⟨↑W,1,G⟩=I (Z A2 n2 c2)∧X.cell? ⟨↑W,2,G⟩=I (J .i64 n)∧W.heap.size<X.heap.size) AL (⟨k0,k1,k2,kl⟩) (λhH=>?_);have HF:=T ((Ak Aj W0).drew);generalize W0.drew=wv at hH HF⊢;refine Ay 0 rfl hH GN ?_;refine Ay 1 rfl hH GN ?_;refine Ay 2 rfl hH GN ?_
 try simp only[AH]
 refine Ay 4 rfl hH GN ?_;refine Ay 5 rfl hH GN ?_
 try simp only[AH]
 refine Bb [3,6] ?_;refine AT (λK hK=>?_) ?_
 ·go_simp;go_wp2_with ((with_reducible refine(Hpg.out _).mono ?_);rintro e w1 ⟨rfl,rfl⟩);refine hK.out _ _ hH λhH=>?_;clear hK K;refine Bb [6] ?_;refine AT (λK hK=>?_) ?_;·go_simp;exact kJ
  exact Bf
 refine AT (λK hK=>?_) ?_
 ·go_simp;refine hK.out _ _ hH λhH=>?_;clear hK K;refine Bb [3] ?_;refine AT (λK hK=>?_) ?_;·go_simp;go_wp2_with ((with_reducible refine(Hpg.out _).mono ?_);rintro e w1 ⟨rfl,rfl⟩);exact kJ
  exact Bf
 exact Bf):P:=h
theorem aB(h:P:=by
 refine AT (λK hK=>?_) ?_
 ·go_simp;refine hK.out _ _ hH λhH=>?_;clear hK K;refine Ay 11 rfl hH CY ?_
  try simp only[AH]
  refine Bb [6] ?_;refine AT (λK hK=>?_) ?_;·go_simp;go_wp2_with ((with_reducible refine(Hm1.out _ hH).mono ?_);rintro e wA ⟨DA,dA,rfl,hDA,fA⟩;have hbA:w.heap.size<wA.heap.size:=Bh hbx (Bg hH.size fA.size);have bA:=B9.out.fr ((Ak Aj wr).drew.tr fA) id;have i6A:=bA.cell 6);refine hK.out _ _ (hH.tr (fA.mono (λ_ _ e=>e.elim))) λhH=>?_;clear hK K;exact aA
  exact Bf
 exact Bf):P:=h
theorem kI(h:P:=by
 clear f0 hH';obtain⟨wc,rfl⟩: ∃wz,wz=wd:=⟨_,rfl⟩;refine Bb [13] ?_;refine AT (λK hK=>?_) ?_;·exact kG
 exact Bf):P:=h
theorem aA(h:P:=by
 refine Bb [10] ?_;refine AT (λK hK=>?_) ?_
 ·go_simp;go_wp2_with ((with_reducible refine(Hm2.out _ hH).mono ?_);rintro e wB ⟨RA,rA,rfl,hRA,fB⟩;have bB:=B9.out.fr ((Ak Aj wr).drew.tr (fA.tr fB)) id;have i0:=bB.cell 0;have i13:=bB.cell 13;have i5':=bB.cell 5;have i6:=bB.cell 6;have j0:=bB.frozen 0;have j13:=bB.frozen 13;have j5:=bB.frozen 5;have j6:=bB.frozen 6;have il:=bB.lt);refine hK.out _ _ (hH.tr (fB.mono (λ_ _ e=>e.elim))) λhH=>?_;clear hK K;refine Bb [12] ?_;refine AT (λK hK=>?_) ?_
  ·go_simp;refine hK.out _ _ (hH.setCell (Af rfl) _) λhH=>?_;clear hK K;refine Ay 13 rfl hH CY ?_
   try simp only[AH]
   refine Bb [14] ?_;refine AT (λK hK=>?_) ?_
   ·go_simp;refine hK.out _ _ (hH.setCell (Af rfl) _) λhH=>?_;clear hK K;refine Ay 15 rfl hH CY ?_
    try simp only[AH]
    refine Bb [16] ?_;refine AT (λK hK=>?_) ?_
    ·go_simp;refine hK.out _ _ (hH.setCell (Af rfl) _) λhH=>?_;clear hK K;refine Ay 17 rfl hH CY ?_
     try simp only[AH]
     refine Bb [18] ?_;refine AT (λK hK=>?_) ?_
     ·go_simp;refine hK.out _ _ (hH.setCell (Af rfl) _) λhH=>?_;clear hK K;refine CX ?_
      try simp only[AH]
      go_wp2
      go_meet;have b4:=(((bB.set_ 0 (Z A' m c')).set_ 13 (J U (m:Nat))).set_ 5 (Z DA p.od.length dA)).set_ 6 (Z RA p.or.length rA);have f4:Fr (λq=>q=w.heap.size) wB _:=((((Ak (λq=>q=w.heap.size) wB).setCell (p:=⟨↑w,0,G⟩) (.inl rfl) (Z A' m c')).setCell (p:=⟨↑w,13,G⟩) (.inl rfl) (J U (m:Nat))).setCell (p:=⟨↑w,5,G⟩) (.inl rfl) (Z DA p.od.length dA)).setCell (p:=⟨↑w,6,G⟩) (.inl rfl) (Z RA p.or.length rA);rw[GA] at hDA hRA;have hDB:=own_low (AS (AS hDA fB (λ_ _ e=>e)) f4 (λq hq e=>by have h2:wr.heap.size≤q:=Cr hDA q hq;have e2:q=w.heap.size:=e;omega)) (show wr.heap.size≤_ by first|exact AC _|simp[World.drew]);have hRB:=own_low (AS hRA f4 (λq hq e=>by have:=Cr hRA q hq;have h2:=fA.size;have h3:wr.heap.size≤wA.heap.size:=h2;have e2:q=w.heap.size:=e;omega)) (show wr.heap.size≤wA.heap.size from fA.size);rw[sw_cells] at b4;exact⟨DA,dA,RA,rA,T ⟨b4,hDB,hRB,((Ak (λq=>q=w.heap.size) wr).drew.tr ((fA.tr fB).mono (λ_ _ e=>e.elim))).tr f4⟩⟩
     exact Bf
    exact Bf
   exact Bf
  exact Bf
 exact Bf):P:=h
theorem kG(h:P:=by
 have x0:=B14.out.cell 0;have y0:=B14.out.frozen 0;have x1:=B14.out.cell 1;have y1:=B14.out.frozen 1;have x2:=B14.out.cell 2;have y2:=B14.out.frozen 2;have x3:=B14.out.cell 3;have y3:=B14.out.frozen 3;have xl:=B14.out.lt;have hH':=hH;go_simp;refine hK.out _ _ (fr4 hH' (Ah L14.out)) λhH=>?_;clear hK K;have f0:Fr (λq=>q=g14) wc ((((wc.setCell ⟨g14,0,G⟩ (J .u32 pc)).setCell ⟨g14,1,G⟩ (J .u32 pl)).setCell ⟨g14,2,G⟩ (Z C nC cC)).setCell ⟨g14,3,G⟩ (J .i64 ct)):=fr4 (Ak _ _) (.inl rfl);have bb:=((((B14.out.set_ 0 (J .u32 pc)).set_ 1 (J .u32 pl)).set_ 2 (Z C nC cC)).set_ 3 (J .i64 ct));replace HE:=T (HE.out.loc f0 (λq hq=>by rw[show q=g14 from hq];exact⟨L14.out,N14.out⟩));replace HHIT:=T (λq=>(HHIT.out q).fr f0 (λq hq=>by rw[show q=g14 from hq];exact srt_ne B14.out (by decide)))
 try replace B15:=T (B15.out.fr f0 (λq=>B15.out.ne_ B14.out Ap q))
 replace B14:=T bb;clear bb x0 x1 x2 x3 y0 y1 y2 y3 xl;generalize((((wc.setCell ⟨g14,0,G⟩ (J .u32 pc)).setCell ⟨g14,1,G⟩ (J .u32 pl)).setCell ⟨g14,2,G⟩ (Z C nC cC)).setCell ⟨g14,3,G⟩ (J .i64 ct))=wd at*;clear f0 hH';obtain⟨wc,rfl⟩: ∃wz,wz=wd:=⟨_,rfl⟩;refine Bb [14] ?_;refine AT (λK hK=>?_) ?_
 ·have x0:=B15.out.cell 0;have y0:=B15.out.frozen 0;have x1:=B15.out.cell 1;have y1:=B15.out.frozen 1;have xl:=B15.out.lt;have hH':=hH;go_simp;refine hK.out _ _ (fr2 hH' (Ah L15.out)) λhH=>?_;clear hK K;have f0:Fr (λq=>q=g15) wc ((wc.setCell ⟨g15,0,G⟩ (Z A2 n2 c2)).setCell ⟨g15,1,G⟩ (.bool en)):=fr2 (Ak _ _) (.inl rfl);have bb:=((B15.out.set_ 0 (Z A2 n2 c2)).set_ 1 (.bool en));replace HE:=T (HE.out.loc f0 (λq hq=>by rw[show q=g15 from hq];exact⟨L15.out,N15.out⟩));replace HHIT:=T (λq=>(HHIT.out q).fr f0 (λq hq=>by rw[show q=g15 from hq];exact srt_ne B15.out (by decide)))
  try replace B14:=T (B14.out.fr f0 (λq=>B14.out.ne_ B15.out Ap q))
  replace B15:=T bb;clear bb x0 x1 y0 y1 xl;generalize((wc.setCell ⟨g15,0,G⟩ (Z A2 n2 c2)).setCell ⟨g15,1,G⟩ (.bool en))=wd at*;clear f0 hH';obtain⟨wc,rfl⟩: ∃wz,wz=wd:=⟨_,rfl⟩;refine Ay 15 rfl hH De ?_;refine CX ?_
  go_wp2
  go_meet;exact⟨g14,g15,pc,pl,C,nC,cC,ct,A2,n2,c2,en,ok,e2,rfl,rfl,rfl,B14,B15,T ⟨L14.out,L15.out,N14.out,N15.out⟩,HE,HHIT⟩
 exact Bf):P:=h
theorem ZR(h:P:=by
 refine Bb [3] ?_;refine AT (λK hK=>?_) ?_;·have z0:=hH.size;go_simp;go_wp2_with ((with_reducible refine(RS _ _ N ZP nN).mono ?_);rintro e wA ⟨gR,rfl,hgR,hR,fR⟩);refine hK.out _ _ (hH.tr fR) λhH=>?_;clear hK K;exact ZQ
 exact Bf):P:=h
theorem Z6(h:P:=by
 have hl:(x.add 0 0 0 n).ld=x.ld:=rfl;generalize x.add 0 0 0 n=X' at Hca hX hl;generalize x.code.length=v at Hca hX;obtain⟨m,hm⟩:=A9 X'.ld.length;have HM:=T hm;have hmk:=kK;have c14:=kL;have hgl:g<↑W0:=HP.out.1.b.lt;have hbs:=Lq;clear hm hl;go_region_law (first
  |(refine Il _ rfl _ _ 85 rfl base 3 i0 _ 1 8 Gd hi0 hz0 hz1 hz2 rfl O (Z D m cd) m (fxV X'.ld) BI HO.out (W1.heap.size+1) (I ⟨W1.heap.size,0,G⟩) 1 1 (fxV [v]) BI (Ld W1 [v] 1 rfl) (KZ _) Cb O AA ?_;intro v1 w1 hown hg hat;obtain⟨A1,c1,rfl⟩:=EE hown;obtain⟨⟨k14,y14,hgl1⟩,hL,hK2⟩:=MD H1.out ((Ak _ W1).alloc _) [v] HM.out rfl hown hg hat Tj;have HQ:=T (Az hL (L1.out.tr hK2));clear hown hg hat hL hK2)
  |(go_simp;(with_reducible refine Ax Hca ?_);rintro e W1 ⟨rfl,⟨g1,C1,cc1,D1,cd1,R1,cr1⟩,l1,h1,kd,kr⟩;obtain rfl:g=g1:=l1.g.symm;obtain⟨q1,q2⟩:=kd rfl;dsimp only at q1 q2;obtain rfl:D=D1:=q1.symm;obtain rfl:cd=cd1:=q2.symm;have L1:=T ((HP.out.2.fr0 (Ak _ _).drew).tr l1);have H1:=T h1;have k14:W1.cell? ⟨g,14,G⟩=I (Z D m cd):=(H1.out.b.cell 14 O).trans Tk;have hgl1:g<↑W1:=H1.out.b.lt;have hbs1:base≤↑W1:=H1.out.hb;have HO:Hid ((W1.alloc (.cells (fxV [v]).toArray 3)).ownsRow base 3 1 (Z D m cd) m (fxV X'.ld)):=T kM;clear l1 h1 kd kr))
 all_goals
  generalize w1.setCell ⟨g,14,G⟩ (Z A1 (m+1) c1)=W9 at*
  try simp only[AH]
  go_wp2
  go_meet;exact⟨_,hX.out▸HQ.out.1.le O,HQ.out.2⟩):P:=h
theorem Z7(h:P:=by
 obtain⟨m,hm⟩:=A9 X'.ld.length;have HM:=T hm;have hmk:=kK;have c14:=kL;have hgl:g<↑W0:=HP.out.1.b.lt;have hbs:=Lq;clear hm hl;go_region_law (first
  |(refine Il _ rfl _ _ 85 rfl base 3 i0 _ 1 8 Gd hi0 hz0 hz1 hz2 rfl O (Z D m cd) m (fxV X'.ld) BI HO.out (W1.heap.size+1) (I ⟨W1.heap.size,0,G⟩) 1 1 (fxV [v]) BI (Ld W1 [v] 1 rfl) (KZ _) Cb O AA ?_;intro v1 w1 hown hg hat;obtain⟨A1,c1,rfl⟩:=EE hown;obtain⟨⟨k14,y14,hgl1⟩,hL,hK2⟩:=MD H1.out ((Ak _ W1).alloc _) [v] HM.out rfl hown hg hat Tj;have HQ:=T (Az hL (L1.out.tr hK2));clear hown hg hat hL hK2)
  |(go_simp;(with_reducible refine Ax Hca ?_);rintro e W1 ⟨rfl,⟨g1,C1,cc1,D1,cd1,R1,cr1⟩,l1,h1,kd,kr⟩;obtain rfl:g=g1:=l1.g.symm;obtain⟨q1,q2⟩:=kd rfl;dsimp only at q1 q2;obtain rfl:D=D1:=q1.symm;obtain rfl:cd=cd1:=q2.symm;have L1:=T ((HP.out.2.fr0 (Ak _ _).drew).tr l1);have H1:=T h1;have k14:W1.cell? ⟨g,14,G⟩=I (Z D m cd):=(H1.out.b.cell 14 O).trans Tk;have hgl1:g<↑W1:=H1.out.b.lt;have hbs1:base≤↑W1:=H1.out.hb;have HO:Hid ((W1.alloc (.cells (fxV [v]).toArray 3)).ownsRow base 3 1 (Z D m cd) m (fxV X'.ld)):=T kM;clear l1 h1 kd kr))
 all_goals
  generalize w1.setCell ⟨g,14,G⟩ (Z A1 (m+1) c1)=W9 at*
  try simp only[AH]
  go_wp2
  go_meet;exact⟨_,hX.out▸HQ.out.1.le O,HQ.out.2⟩):P:=h
theorem Z8(h:P:=by
 obtain⟨m,hm⟩:=A9 X'.lr.length;have HM:=T hm;have hmk:m≤2000:=by rw[←hm,hl];exact Bg HP.out.1.k.lr (by omega)
 have c18:W0.cell? ⟨g,18,G⟩=I (Z R m cr):=(HP.out.1.b.cell 18 O).trans (by rw[←hm,hl];rfl);have hgl:g<↑W0:=HP.out.1.b.lt;have hbs:=Lq;clear hm hl;go_region_law (first
  |(refine Il _ rfl _ _ 85 rfl base 3 i0 _ 1 8 Gd hi0 hz0 hz1 hz2 rfl O (Z R m cr) m (fxV X'.lr) BI HO.out (W1.heap.size+1) (I ⟨W1.heap.size,0,G⟩) 1 1 (fxV [v]) BI (Ld W1 [v] 1 rfl) (KZ _) Cb O AA ?_;intro v1 w1 hown hg hat;obtain⟨A1,c1,rfl⟩:=EE hown;obtain⟨⟨k18,y18,hgl1⟩,hL,hK2⟩:=oT H1.out ((Ak _ W1).alloc _) [v] HM.out rfl hown hg hat Tj;have HQ:=T (Az hL (L1.out.tr hK2));clear hown hg hat hL hK2)
  |(go_simp;(with_reducible refine Ax Hca ?_);rintro e W1 ⟨rfl,⟨g1,C1,cc1,D1,cd1,R1,cr1⟩,l1,h1,kd,kr⟩;obtain rfl:g=g1:=l1.g.symm;obtain⟨q1,q2⟩:=kr rfl;dsimp only at q1 q2;obtain rfl:R=R1:=q1.symm;obtain rfl:cr=cr1:=q2.symm;have L1:=T ((HP.out.2.fr0 (Ak _ _).drew).tr l1);have H1:=T h1;have k18:W1.cell? ⟨g,18,G⟩=I (Z R m cr):=(H1.out.b.cell 18 O).trans Tk;have hgl1:g<↑W1:=H1.out.b.lt;have hbs1:base≤↑W1:=H1.out.hb;have HO:Hid ((W1.alloc (.cells (fxV [v]).toArray 3)).ownsRow base 3 1 (Z R m cr) m (fxV X'.lr)):=T (by have:=Eb H1.out.r (.cells (fxV [v]).toArray 3);dsimp only at this;rwa[HM.out] at this);clear l1 h1 kd kr))
 all_goals
  generalize w1.setCell ⟨g,18,G⟩ (Z A1 (m+1) c1)=W9 at*
  try simp only[AH]
  go_wp2
  go_meet;exact⟨_,hX.out▸HQ.out.1.le O,HQ.out.2⟩):P:=h
theorem ZQ(h:P:=by
 refine Bb [7] ?_;refine AT (λK hK=>?_) ?_
 ·go_simp;go_wp2_with ((with_reducible refine(RS _ _ N (by first|exact q4|exact q4.fr fR id|exact(q4.alloc _).fr fR id|exact(addBd q4 _).fr fR id) nN).mono ?_);rintro e wB ⟨gS,rfl,hgS,hS,fS⟩);refine hK.out _ _ (hH.tr fS) λhH=>?_;clear hK K;refine Ay 8 rfl hH Kl ?_
  try simp only[AH]
  refine Bb [10] ?_;refine AT (λK hK=>?_) ?_
  ·go_simp;go_wp2_with ((with_reducible refine(Hof.out _ hH).mono ?_);rintro e wC ⟨A,cI,tt,rfl,hLV,hIv,fC⟩);refine hK.out _ _ (hH.tr fC) λhH=>?_;clear hK K;refine Ay 11 rfl hH Kl ?_
   try simp only[AH]
   refine Bb [12] ?_;refine AT (λK hK=>?_) ?_
   ·go_simp;refine hK.out _ _ (hH.alloc _) λhH=>?_;clear hK K;refine Ay 13 rfl hH Kl ?_;refine CX ?_;simp only[AH]
    go_wp2
    go_meet;exact⟨_,_,_,_,_,_,rfl,T (made_end z0 hgR hR (by first|exact Ak _ _|exact(Ak _ _).alloc _) hgS hS fS hIv fC hLV hH)⟩
   exact Bf
  exact Bf
 exact Bf):P:=h
theorem YQ(h:P:=by
 intro w1 L1 lc1 X1 xc1 K1 E1;go_wp2_with fail;refine ego (CA _ base _ _ Q _ E1.out O 13 10 9 15) ?_;intro w2 L2 lc2 X2 xc2 K2 E2;replace K2:=T (K1.out.tr K2.out);go_wp2_with fail;refine ego (MA _ base _ _ _ Q _ E2.out O 11 9) ?_;intro w3 L3 lc3 X3 xc3 K3 E3;replace K3:=T (K2.out.tr K3.out);go_wp2_with fail;refine ego (Kh _ base _ _ _ Q _ E3.out O 11 1) ?_;intro w4 L4 lc4 X4 xc4 K4 E4;replace K4:=T (K3.out.tr K4.out);go_wp2_with fail;refine ego (CA _ base _ _ Q _ E4.out O 12 11 a b) ?_;intro w5 L5 lc5 X5 xc5 K5 E5;replace K5:=T (K4.out.tr K5.out);go_wp2_with fail;refine ego (Kh _ base _ _ _ Q _ E5.out O 11 2) ?_;intro w6 L6 lc6 X6 xc6 K6 E6;replace K6:=T (K5.out.tr K6.out);go_wp2_with fail;refine ego (CA _ base _ _ Q _ E6.out O 7 11 a b) ?_;intro w7 L7 lc7 X7 xc7 K7 E7;replace K7:=T (K6.out.tr K7.out);go_wp2_with fail;refine ego (CA _ base _ _ Q _ E7.out O 7 12 a 9) ?_;intro w8 L8 lc8 X8 xc8 K8 E8;replace K8:=T (K7.out.tr K8.out);go_wp2_with fail;refine ego (CA _ base _ _ Q _ E8.out O 5 11 11 12) ?_;intro w9 L9 lc9 X9 xc9 K9 E9;replace K9:=T (K8.out.tr K9.out);go_wp2_with fail;refine ego (MA _ base _ _ _ Q _ E9.out O 11 11) ?_;intro w10 L10 lc10 X10 xc10 K10 E10;replace K10:=T (K9.out.tr K10.out);go_wp2_with fail;refine ego (Kh _ base _ _ _ Q _ E10.out O 11 3) ?_;intro w11 L11 lc11 X11 xc11 K11 E11;replace K11:=T (K10.out.tr K11.out)
 go_wp2
 go_end0;exact EV (EPost.of K11.out E11.out) YP O):P:=h
theorem Wg(h:P:=by
 refine Dp [8] ?_;refine C9 (λK hK=>?_) ?_;·exact Wh
 exact D6):P:=h
theorem Wh(h:P:=by
 go_simp;refine hK _ _ ?_;clear hK K;refine Dp [9] ?_;refine C9 (λK hK=>?_) ?_
 ·have DA:=D2.out.fr0 ((Ak Aj w2).alloc (.cells #[J V v] 22));have hrd:Reads (w2.alloc (.cells #[J V v] 22)) (↑w2+1) 1 (I ⟨↑w2,0,G⟩) 1 [J V v]:=CT (size:=1) (n:=1) (AI w2 22 #[J V v]) rfl;refine Il _ rfl (.tmp 65) (.tmp 68) 36 rfl 0 22 i0 _ 1 4 Tryz.underlying36 hi0 hz0 hz1 hz2 rfl O (Z p.B x.s.r.length p.cb) x.s.r.length (x.s.r.map (J V)) BI DA.rn.r (w2.heap.size+1) (I ⟨w2.heap.size,0,G⟩) 1 1 [J V v] BI hrd Ee Cb O O ?_;intro v1 w3 hown1 hg1 hat1;obtain⟨B1,c1,rfl,b1,hRP⟩:=DA.rn.pushedR v HSR.out hown1 hg1 hat1;have y2:=b1.cell 2;have z2:=b1.frozen 2;have HX:=T (DA.ofR hRP);clear hown1 hg1 hat1 hrd DA hRP b1;refine hK _ _ ?_;clear hK K;refine Dm 10 rfl Do ?_;refine Dm 11 rfl Do ?_;refine Dm 12 rfl Do ?_;simp only[AH];refine Dp [13] ?_;refine C9 (λK hK=>?_) ?_
  ·go_simp;refine hK _ _ ?_;clear hK K;refine Tl ?_
   go_wp2
   go_ret;obtain⟨_,p5,P5,L5,D5⟩:=HX.out;exact⟨rfl,_,_,(L2.out.tr (Lk.fr0 ((Ak _ w2).alloc _))).tr L5,by rw[HV.out];exact D5⟩
  exact D6
 exact D6):P:=h
theorem gK(h:P:=by
 refine Bb [10] ?_;refine AT (λK hK=>?_) ?_
 ·go_simp;refine hK.out _ _ ?_ (λhH=>?_);·first|exact((((hH.setCell (p:=⟨↑W0,0,G⟩) (Ah (AC _)) _).setCell (p:=⟨↑W0,1,G⟩) (Ah (AC _)) _).setCell (p:=⟨↑W0,2,G⟩) (Ah (AC _)) _).setCell (p:=⟨↑W0,3,G⟩) (Ah (AC _)) _)|(repeat(first|exact Ak _ _|with_reducible assumption|refine Fr.drewN ?_ _|refine Fr.drew ?_|refine Fr.alloc ?_ _|(refine Fr.setCell (p:=⟨_,_,_⟩) ?_ ?_ _;rotate_left;first|exact Af rfl|(right;simp;done)|(right;simp;omega))))
  clear hK K;refine Ay 11 rfl hH GM ?_;refine CX ?_
  try simp only[AH]
  go_wp2
  go_meet;refine⟨_,pc,pl,A,n,c,ct,rfl,rfl, ?_, ?_,T hH⟩
  ·refine T ⟨HB4.out.fr hH id,HB6.out.fr hH id,HB7.out.fr hH id, ?_,(by have:=HZ0.out;have:=F2.out.size;omega),F0.out.tr hH⟩
   first
    |(have hq:=HBZ.out;exact(((hq.set_ 0 _).set_ 1 _).set_ 2 _).set_ 3 _)
    |exact AI _ _ _
  ·refine T (λhkb=>?_)
   first
    |(have hq:=HBZ.out;exact qD (HFO.out hkb) hq)
    |exact gJ (HFO.out hkb) ((Ak Aj w2).alloc _)
 exact Bf):P:=h
theorem YT(h:P:=by
 have HE:=T em;clear em hm;go_in;go_wp2_with fail;refine ego (KX _ base p _ Q _ H.out O bs 15 word) ?_;intro w1 L1 lc1 X1 xc1 K1 E1;go_wp2_with fail;refine ego (Fi _ base _ _ Q _ E1.out O 11 _) ?_;intro w2 L2 lc2 X2 xc2 K2 E2;replace K2:=T (K1.out.tr K2.out);go_wp2_with fail;refine ego (CA _ base _ _ Q _ E2.out O 12 12 bs 11) ?_;intro w3 L3 lc3 X3 xc3 K3 E3;replace K3:=T (K2.out.tr K3.out);go_wp2_with fail;refine ego (YI _ base _ _ _ Q _ E3.out O 12) ?_;intro w4 L4 lc4 X4 xc4 K4 E4;replace K4:=T (K3.out.tr K4.out);go_wp2_with fail;refine ego (Fi _ base _ _ Q _ E4.out O 12 _) ?_;intro w5 L5 lc5 X5 xc5 K5 E5;replace K5:=T (K4.out.tr K5.out);go_wp2_with fail;refine ego (CA _ base _ _ Q _ E5.out O 12 12 12 bs) ?_;intro w6 L6 lc6 X6 xc6 K6 E6;replace K6:=T (K5.out.tr K6.out);go_wp2_with fail;refine ego (YI _ base _ _ _ Q _ E6.out O 12) ?_;intro w7 L7 lc7 X7 xc7 K7 E7;replace K7:=T (K6.out.tr K7.out);go_wp2_with fail;refine ego (CA _ base _ _ Q _ E7.out O 4 bs bs 11) ?_;intro w8 L8 lc8 X8 xc8 K8 E8;replace K8:=T (K7.out.tr K8.out)
 go_wp2
 go_ret;exact oN (EPost.of K8.out E8.out) NZ AB O):P:=h
theorem ZG(h:P:=by
 have gW:=hB.out.fr (hO.out.tr (fW.mono (λ_ _ e=>e.elim))) RM;have hgr:=HIC.out.lt;have e0:=bW.cell 0;have e2:=bW.cell 2;have hbl1:=bW.lt;go_wp2_with fail;refine(RB W1 gv g c N tt (HIC.out.fr fW id) (gW.cell 0) gW.lt hgne xa j O O).mono ?_;rintro e W2 ⟨rfl,hI2,f2⟩;have gW2:=gW.fr f2 hgne;have bW2:=bW.fr f2 (by show ¬↑wr=g;omega);have b3:=bW2.cell 3;have hbl:=bW2.lt;obtain⟨t1,ht1⟩:=A9 (upT tt xa (max (tt xa) j));rw[ht1] at hI2;have HUN:=HU2.out xa xb rfl rfl;rw[ht1] at HUN;have HUN:=T HUN;have HI2:=T hI2;have HF3:=T f2;clear hW1 bW f2 hI2 e0 e2 hbl1 c0 c1 c2 c3 c4 hv bW2 hI;go_wp2_with fail;refine(RB W2 gv g c N t1 HI2.out (gW2.cell 0) gW2.lt hgne xb j O O).mono ?_;rintro e W3 ⟨rfl,hI3,f3⟩;have HX:=T (Az hI3 ((HF3.out.tr f3)));clear hI3 f3
 go_wp2
 go_roundw;case rel=>
  have fa:Fr (λq=>q=g) wr W3:=(fW.mono (λ_ _ e=>e.elim)).tr HX.out.2;exact⟨j+1,_,O,Bo,HUN,T (IvX.of hgb HX.out.1),T (hO.out.tr (fa.mono (λq _ e=>by show w1.heap.size<q;have:=HGV.out;have:=e;omega))),T (hF.out.trans fa (λq hq e=>by have:=e;have:=F1.out.size;omega))⟩
 case measure=>simp[AM];omega):P:=h
theorem ZK(h:P:=by
 go_wp2_with fail;refine CB (S:=Fr Aj wr) AL ((Ak Aj wr).drew) (λhH=>?_);refine Ay 0 rfl hH CY ?_;refine Ay 1 rfl hH CY ?_;refine Bp 2 rfl hH ?_
 try simp only[AH]
 refine Bp 3 rfl hH ?_;refine Bp 4 rfl hH ?_;refine Bp 5 rfl hH ?_
 try simp only[AH]
 refine Bp 6 rfl hH ?_;refine Bp 7 rfl hH ?_;refine Bp 8 rfl hH ?_
 try simp only[AH]
 refine Bp 9 rfl hH ?_;refine Bp 10 rfl hH ?_;refine Bp 11 rfl hH ?_
 try simp only[AH]
 refine Bp 12 rfl hH ?_;refine Bp 13 rfl hH ?_;refine Bp 14 rfl hH ?_
 try simp only[AH]
 refine Bp 15 rfl hH ?_;refine Bp 16 rfl hH ?_;refine Bp 17 rfl hH ?_
 try simp only[AH]
 refine Bp 18 rfl hH ?_;refine Bp 19 rfl hH ?_;refine Bp 20 rfl hH ?_
 try simp only[AH]
 refine Bp 21 rfl hH ?_;refine Ay 22 rfl hH CY ?_;refine Ay 23 rfl hH CY ?_
 try simp only[AH]
 refine CX ?_
 go_wp2
 go_roundw
 case rel=>exact⟨j+1,O,Bo,by rw[HX0.out];try simp,T (hF2.out.tr hH)⟩
 case measure=>simp[AM];omega):P:=h
theorem aI(h:P:=by
 clear hd3 hends;go_upto_region 9 with(first
  |((with_reducible refine(Hr.out _).mono ?_);rintro e wq ⟨rfl,fq⟩;have bq:=BX.out.fr fq id;have c0:=bq.cell 0;have c1:=bq.cell 1;have cl:=bq.lt;have FQ:=T (FX.out.trans fq (λ_ _ e=>e));clear fq bq)
  |((with_reducible refine(Hp.out _).mono ?_);rintro e wp ⟨rfl,rfl⟩)
  |((with_reducible refine(He.out _).mono ?_);rintro e we ⟨rfl,rfl⟩))
 go_upto_region 10 with((with_reducible refine(Hs.out _).mono ?_);rintro e we ⟨rfl,rfl⟩);have Ho:=T (one_any wq g g C cc D cd R cr (Lw.new.all pc (l.take k)) N (12*k) (hL.out.fr0 FQ.out) O op n ((z+sz)%4294967296) HP.out);go_wp2_with ((with_reducible refine Ax Ho ?_);rintro e wo ⟨rfl,⟨g2,C2,cc2,D2,cd2,R2,cr2⟩,lk,h2,-,-⟩;obtain rfl:g=g2:=lk.g.symm;have HX:=T (Az lk h2);clear lk h2 Ho);go_roundw;case rel=>
  refine⟨k+1,C2,cc2,D2,cd2,R2,cr2,O,Bo,by rw[hp1.out],T ?_,T ?_⟩;·rw[hp2.out];exact HX.out.2.le O
  ·exact(hF.out.trans FQ.out (λ_ _ e=>e.elim)).trans HX.out.1.f (λq hq e=>hL.out.ge q e)
 case measure=>simp[AM];omega):P:=h
theorem iA(h:P:=by
 refine C9 (λK hK=>?_) ?_
 ·go_simp;refine hK _ _ ?_;clear hK K;refine Dp [3] ?_;refine C9 (λK hK=>?_) ?_;·refine KJ (stc R.s (Z Aq R.s.d.length caq) (Z Bq R.s.r.length cbq)) ON AR AJ rfl rfl (NT (Fg R s.ct) _ _ _ _) rfl rfl BI ?_;exact kN
  exact D6
 exact D6):P:=h
theorem cA(h:P:=by
 refine Bb [10] ?_;refine AT (λK hK=>?_) ?_
 ·go_simp;refine hK.out _ _ ?_ (λhH=>?_);·first|exact((((hH.setCell (p:=⟨↑W1,0,G⟩) (Ah (AC _)) _).setCell (p:=⟨↑W1,1,G⟩) (Ah (AC _)) _).setCell (p:=⟨↑W1,2,G⟩) (Ah (AC _)) _).setCell (p:=⟨↑W1,3,G⟩) (Ah (AC _)) _)|(repeat(first|exact Ak _ _|with_reducible assumption|refine Fr.drewN ?_ _|refine Fr.drew ?_|refine Fr.alloc ?_ _|(refine Fr.setCell (p:=⟨_,_,_⟩) ?_ ?_ _;rotate_left;first|exact Af rfl|(right;simp;done)|(right;simp;omega))))
  clear hK K;refine Ay 11 rfl hH GK ?_;refine CX ?_
  try simp only[AH]
  go_wp2
  go_ret;exact⟨rfl,F0.out.tr hH⟩
 exact Bf):P:=h
theorem gP(h:P:=by
 have x0:=m9.cell 0;have x1:=m9.cell 1;have x2:=m9.cell 2;have x3:=m9.cell 3;have xl:=m9.lt;have v0:=m13.cell 0;have v1:=m13.cell 1;have vl:=m13.lt;have r1:g13≠↑w+1:=m13.ne_ m6 Ap;have r2:g9≠↑w+1:=by have:=HQ.out.bx.n9;omega
 have r3:g9≠↑w+1+1:=by have:=HQ.out.bx.n9;omega
 have r4:g13≠↑w+1+1:=by have:=HQ.out.bx.n13;omega
 clear m6 m7 m9 m13
 go_region
 rename ∀(a:Act) (w1:Aa),Code.wp _ Code.ret _ a w1→_=>hK
 refine hK _ _ ?_;clear hK;refine wp_ret ?_;obtain⟨k6,k7⟩:=SR (x0:=J V k.1) (x1:=J V k.2) (x2:=Z C nC cC) (x3:=J .i64 N) (y0:=Z A3 n3 c3) (y1:=.bool ends) HQ.out.bx.b6 HQ.out.bx.b7 O;refine Bu (LA rfl _ _ (w.heap.size+1) (w.heap.size+2) 149 158 _ _ _ _ (.bool Ag) rfl rfl k6 Tryz.underlying149 rfl szBk rfl k7 Tryz.underlying158 rfl Ii) rfl ?_;exact SQ HQ.out.el HQ.out.bx.b6 HQ.out.bx.b7 ⟨O,HQ.out.o6⟩ ⟨O,HQ.out.o7⟩ (λ_=>HQ.out.hit) rfl):P:=h
theorem kJ(h:P:=by
 refine hK.out _ _ hH λhH=>?_;clear hK K;refine CW 7 (Ao Ac) rfl hH (by intro X hSw;obtain⟨r0,r1,r2,q0⟩:=hSw;go_simp;first|omega|(split<;>omega)) ?_
 refine Ay 8 rfl hH GN ?_;refine Ay 9 rfl hH GN ?_
 try simp only[AH]
 refine Ay 10 rfl hH GN ?_;refine Ay 11 rfl hH GN ?_;refine Ay 12 rfl hH GN ?_
 try simp only[AH]
 refine Ay 13 rfl hH GN ?_;refine Ay 14 rfl hH GN ?_;refine CX ?_
 go_wp2
 go_meet;exact⟨rfl,HF⟩):P:=h
theorem cQ(h:P:=by
 refine Ax Hc ?_;rintro e2 w2 ⟨A2,c2,B2,d2,rfl,h2,ne2,f2⟩;have b3:=HB2.out.fr f2 id;have o2:=Cf s (Z A2 s.d.length c2) (Z B2 s.r.length d2) rfl rfl;have HG:=T (Az h2 (Az ne2 f2));clear h2 ne2 f2 b1 Hc;go_wp2_with (((with_reducible refine BO (cs':=stc s (Z A2 s.d.length c2) (Z B2 s.r.length d2)) b3 AJ o2 ?_);intro W7 b7 f7;have HB7:=T b7;have HF7:=T f7;clear b7 f7 b3 o2));refine Bu (CU rfl _ _ w.heap.size 39 _ _ rfl HB7.out AR rfl AJ) rfl ?_;obtain⟨h2,ne2,f2⟩:=HG.out;have e1: ∀k,w.heap.size+1≤k→ ¬k=w.heap.size:=λk hk=>O;refine⟨A2,c2,B2,d2,rfl, ?_,ne2,((HF1.out.tr f2).trans HF7.out (λk hk q=>O))⟩;refine(h2.fr HF7.out (λk hk q=>e1 k ?_ q) (λk hk q=>e1 k ?_ q)).low (by rw[HZ1.out];omega);·have:=h2.d.ge k hk;rw[HZ1.out] at this;exact this
 ·have:=h2.r.ge k hk;rw[HZ1.out] at this;exact this):P:=h
theorem hZ(h:P:=by
 refine hK _ _ ?_;clear hK K;refine Dp [1] ?_;refine C9 (λK hK=>?_) ?_;·go_simp;go_wp2_with ((refine Ax Hcp ?_);rintro e w7 ⟨A7,c7,B7,d7,rfl,h7,ne7,f7⟩;have k14:=(HB.out.1.drew.fr f7 id).cell 14;have hgl:=(HB.out.1.drew.fr f7 id).lt;have HY:=T (Az h7 (Az ne7 f7));clear h7 ne7 f7);exact gZ
 exact D6):P:=h
theorem Uy(h:P:=by have b4:=HQ.out.1;have b5:=B23.out.fr HQ.out.2 (λe=>O);have o3:=Cf (setS s reg v) (Z A1 s.d.length c1') (Z B1' s.r.length d1') rfl rfl;go_wp2_with ((with_reducible refine wpL_lq b4 AR AJ ?_);(with_reducible refine BO (cs':=stc (setS s reg v) (Z A1 s.d.length c1') (Z B1' s.r.length d1')) b5 AJ o3 ?_);intro W5 b6 f5;have B5:=T b6;have F5:=T f5;clear b6 f5 b4 b5);refine Bu (Pz rfl _ _ (w.heap.size+1) 39 _ _ _ rfl rfl B5.out AR rfl AJ) rfl ?_;rw[hb];exact ended2 (g1:=w.heap.size) (g2:=w.heap.size+1) _ F0.out (AC _) AA O AB F1.out HS.out HN.out (F3.out.tr HQ.out.2) F5.out HT.out.1 HT.out.2.1 HT.out.2.2):P:=h
theorem i9(h:P:=by
 refine hK _ _ ?_;clear hK K;refine Dp [7] ?_;refine C9 (λK hK=>?_) ?_;·go_simp;exact kN
 exact D6):P:=h
theorem i7(h:P:=by
 refine hK _ _ ?_;clear hK K;refine Dm 8 rfl Do ?_;simp only[AH];refine Dp [9] ?_;refine C9 (λK hK=>?_) ?_
 ·go_simp;refine hK _ _ ?_;clear hK K;refine Dp [10] ?_;refine C9 (λK hK=>?_) ?_;·exact kO
  exact D6
 exact D6):P:=h
theorem Ln(h:P:=by obtain⟨⟨g1,C1,cc1,D1,cd1,R1,cr1⟩,h1,l1⟩:=hcut;obtain rfl:g=g1:=l1.g.symm;replace HP:=T (Az h1 l1);clear h1 l1;go_upto_region 37 with((with_reducible refine(topD_any _ _ _ _ _ _ HP.out.1 O).mono ?_);rintro e Wt ⟨rfl,⟨gt,Ct,cct,Dt,cdt,Rt,crt⟩,lt,ht,-,-⟩;obtain rfl:g=gt:=lt.g.symm;replace HP:=T (Az ht (HP.out.2.tr lt));clear lt ht);go_wp2_with ((with_reducible refine(topR_any _ _ _ _ _ _ HP.out.1 O).mono ?_);rintro e Wu ⟨rfl,pu,lu,hu,-,-⟩;have HU:=T (Az (HP.out.2.tr lu) hu);clear lu hu);go_end0;exact⟨rfl,pu,HU.out.1,HU.out.2,λe=>KF,λe=>KF⟩):P:=h
theorem Vx(h:P:=by
 unfold putR;rw[hl];by_cases h1:i<off;·rw[Ae O,Fo AA,Ea h1];exact hcs
 ·rw[EK AA];have hto:(cs.toList.take off).length=off:=AA;rw[hto];by_cases h2:i<off+n;·rw[An ⟨O,h2⟩,Fo Me,AU];have:i -off<(zs.map (J k)).length:=Me;rw[BM this];rfl
  ·rw[Ae O,EK Me,hl,List.getElem?_drop,show off+n+(i -off -n)=i by omega];exact hcs):P:=h
theorem kN(h:P:=by
 refine hK _ _ ?_;clear hK K;refine Dm 8 rfl Do ?_;simp only[AH];refine Dp [10] ?_;refine C9 (λK hK=>?_) ?_;·exact kO
 exact D6):P:=h
theorem gM(h:P:=by
 clear hK K;refine Bb [7] ?_;refine AT (λK hK=>?_) ?_
 ·go_simp;refine hK.out _ _ ?_ (λhH=>?_);·first|exact((hH.setCell (p:=⟨↑w1,0,G⟩) (Ah (AC _)) _).setCell (p:=⟨↑w1,1,G⟩) (Ah (AC _)) _)|(repeat(first|exact Ak _ _|with_reducible assumption|refine Fr.drewN ?_ _|refine Fr.drew ?_|refine Fr.alloc ?_ _|(refine Fr.setCell (p:=⟨_,_,_⟩) ?_ ?_ _;rotate_left;first|exact Af rfl|(right;simp;done)|(right;simp;omega))))
  clear hK K;refine CX ?_
  try simp only[AH]
  go_wp2
  go_meet;refine⟨_,rfl,T ?_,T hH⟩;exact AI _ _ _
 exact Bf):P:=h
theorem gZ(h:P:=by
 refine Dm 6 rfl Do ?_;simp only[AH];refine Dp [7] ?_;refine C9 (λK hK=>?_) ?_
 ·go_simp;refine hK _ _ ?_;clear hK K;refine Dm 8 rfl Do ?_;refine Tl ?_;simp only[AH]
  go_wp2
  go_meet;exact⟨_,_,rfl,T (begun (x:=⟨St.up s,s.ct,0,0,Ac⟩) M6'.out HY.out.1 HY.out.2.1 ((Ak Aj w6).drew.tr HY.out.2.2) (by show s.d.length≤1000∧s.r.length≤1000;have:=HL.out;omega))⟩
 exact D6):P:=h
theorem Ri(h:P:=by go_wp2_with ((with_reducible refine wpL_lq b22 AR AJ ?_);(with_reducible refine BO (cs':=stc S (Z A1 S.d.length c1) (Z B1 S.r.length d1)) b2d AJ o7 ?_);intro W8 b8 f8;have B8:=T b8;have F8:=T f8;clear b8 f8 b2d b22 o7);refine Bu (Ca.results_ct rfl _ _ (w.heap.size+1) 39 _ _ (.bool Ac) rfl rfl B8.out AR rfl AJ) rfl ?_;exact got_end F0.out AB HX1.out.1 HX1.out.2.1 HX1.out.2.2 F2.out F8.out):P:=h
theorem ZY(h:P:=by
 refine⟨k+1,⟨upN s.pl k m,s.out++[EM (upN s.pl k m) m ⟨op,dst,xa,xb,imm⟩]⟩,A3,c3,m+1,O,Bo,rfl,O,T (by rw[Ck,hsm.out];rfl),T (S1.out AB),T ?_,T ?_,T ((F8.out.alloc _).grown HX.out.2 (λq hq=> Ah (hbo q hq)))⟩;·rw[hm2,Zm];exact HX.out.1
 ·exact Cells.fr (LR CP8.out _) ((Ak (λq=>W6.heap.size≤q) _).grown HX.out.2 (λq hq=> Af (hbo q hq))) (by show ¬↑W6≤gp;omega)):P:=h
theorem jB(h:P:=by
 by_cases h1:0<n
 ·have g1:decide (n>0)=Ag:=Dk;have g2:=hwb h1;obtain⟨b3,g3⟩:=A9 (decide (D<n));have G1:=T g1;have G3:=T g3;clear hwb h1
  cases ha
  ·go_wp2
   go_meet;refine⟨_,rfl,T ?_,rfl⟩;rw[G1.out,G3.out];rfl
  ·exact kP
 ·have g1:decide (n>0)=Ac:=Dk;have G1:=T g1;clear hwb h1;exact kP):P:=h
theorem aG(h:P:=by
 have FQ:=T fq;clear fq bq;go_wp2_with ((with_reducible refine Ax Hu ?_);rintro e W7 ⟨rfl,hX⟩);go_roundw
 case rel=>exact⟨k,(k:Int) -1,EW u [(xa:Int),(xb:Int)],O,Bo,T rfl,T (HUS.out _ (S1.out xa xb AB O AB AB)),T hX.out.1,T (hF.out.trans (FQ.out.mono (S':=λq=>q=gu) (λ_ _ e=>e.elim)|>.tr hX.out.2) (λ_ _ e=>e))⟩
 case measure=>first|(simp[AM];done)|(simp[AM];omega)):P:=h
theorem kO(h:P:=by
 refine step_stm (cs':=EU R.s (Z Aq R.s.d.length caq) (Z Bq R.s.r.length cbq) Ac R.dv (Z G 0 0)) bt szR (show(19:Nat)≤19 by omega) rfl oR rfl rfl BI BI ?_;intro W9 b9 f9;refine hK _ _ ?_;clear hK K;refine Tl ?_
 go_wp2
 go_meet;rw[res_set _ rfl] at b9;exact⟨_,rfl,T ⟨b9,AC _,(((Ak Aj wr).drew).alloc _).trans f9 (λk hk e=>O)⟩⟩):P:=h
theorem aQ(h:P:=by
 have hb2:bs[j]≠bs[i]' O:=λe2=>e ((List.getElem_inj hn).1 e2);have hiff:(bs.getD j 0∈seen.push (bs[i]' O))↔bs.getD j 0∈seen:=by
  rw[Array.mem_push];have:bs.getD j 0=bs[j]:=by simp[AU,hjb]
  rw[this];exact⟨λh=>h.elim id (λh=>absurd h hb2),Af⟩
 unfold one;by_cases hs:bs.getD j 0∈seen;·rw[An hs,An (hiff.2 hs)]
 ·rw[Ae hs,Ae (λh=>hs (hiff.1 h))]):P:=h
theorem Xa(h:P:=by
 obtain⟨t,ht⟩:=A9 (p q);rw[ht] at Hp;have HT:=T ht;clear ht;go_wp2_with fail;refine Ax Hp ?_;rintro e w1 ⟨rfl,hI1⟩;have HI1:=T hI1;clear hI1
 cases t
 ·go_wp2
  go_roundw;case rel=>exact⟨q+1,O,Bo,λj hj=>by
   rcases(by omega:j<q∨j=q) with h|rfl;·exact HNO.out j h
   ·exact HT.out,HI1.out⟩
  case measure=>simp[AM];omega
 ·go_wp2
  go_ret;exact Af ⟨q,hlt,rfl,HNO.out,HT.out,HI1.out⟩):P:=h
theorem ZI(h:P:=by
 rw[hx] at hcell HD1 hmem;clear hx e2 hP2 bpw;go_wp2_with fail;refine(use_x wr ↑w1 gv c N A t2 x N hmem O HNE.out hI2.out gvw).mono ?_;rintro e w' ⟨rfl,h3,f3⟩;have HX:=T (Az h3 f3);clear h3 f3
 go_wp2
 go_roundw;case rel=>
  refine⟨_,_,_,_,_,_,_,_,_,_,_,_,⟨j+1,_,O, ?e1,T (HD1.out x rfl),T HX.out.1,T (hF2.out.tr HX.out.2)⟩,rfl⟩
  case e1=>go_num
 case measure=>simp[AM];omega):P:=h
theorem Za(h:P:=by
 have g0:decide (imm≥16)=Ag:=by simpa using q0
 have g1:decide (imm≤23)=Ag:=by simpa using q1
 clear hlow harg hret hab halu hflg hop hv0 ha hb2;go_in;go_wp2_with (first
  |((with_reducible refine(hva.out _).mono ?_);rintro e w' ⟨rfl,rfl⟩)
  |((with_reducible refine(hvb.out _).mono ?_);rintro e w' ⟨rfl,rfl⟩))
 all_goals
  go_ret;exact⟨rfl,((Ak _ w).alloc _).alloc _⟩):P:=h
theorem YH(h:P:=by
 go_wp2_with fail;refine ego (CA _ base p _ Q _ H.out O 4 rd a b) ?_;intro w1 L1 lc1 X1 xc1 K1 E1;go_wp2_with fail;refine ego (YE _ base _ _ _ Q _ E1.out O rd) ?_;intro w2 L2 lc2 X2 xc2 K2 E2;replace K2:=T (K1.out.tr K2.out)
 go_wp2
 go_end0;exact EV (EPost.of K2.out E2.out) My O):P:=h
theorem Zr(h:P:=by
 rw[ec,hW1] at k1 k3 Ha L1 hgl1;go_in;go_wp2_with fail;go_region_law (first|(go_simp;(with_reducible refine(Ha.out _ ((Ak _ _).drew)).mono ?_);intro e w' hq;have he:=hq.1;subst he;have HQ:=T hq;clear hq))
 all_goals
  simp only[AH]
  go_wp2
  go_ret;exact((LPost.then (L1.out.fr0 (Ak _ _).drew) ⟨rfl,rfl⟩ ⟨rfl,rfl⟩ HQ.out).le O).weak):P:=h
theorem YZ(h:P:=by
 clear hlow harg hret hab halu hflg hop hlt
 cases bb
 ·exact Ou
 ·exact Ou):P:=h
theorem UA(h:P:=by
 go_roundw;case rel=>
  refine⟨k+1,O,Bo, ?_,(fr.alloc _).grown hg1 (λq hq=> Ah (hat q hq)),λq hq=>?_⟩;·rw[Hs.out];simpa[JM] using hown1
  ·rcases hat1 with e|e;·exact hat q (by rw[←e];exact hq)
   ·rw[e] at hq;have:↑wr+1=q:=KV;have:=fr.size;omega
 case measure=>simp[AM];omega):P:=h
theorem Ic(h:P:=by
 obtain rfl:=z3 ⟨O,O⟩;clear z1 z2 z3 z4 z5 z6 z7;go_in;go_wp2_with fail
 go_region
 all_goals
  go_wp2_with fail;exact Bu (Ca.results_ct rfl _ _ (w.heap.size+1) 270 (hA _) _ (Ao Ag) rfl rfl ((QW w _ _ _ _).drew) Tryz.underlying270 rfl szH) rfl ⟨rfl,((((Ak _ w).alloc _).alloc _).alloc _).drew⟩):P:=h
theorem aF(h:P:=by
 clear hb11 fs hbz
 go_wp2
 go_meet;refine⟨_,T HX.out.1,T ⟨HX.out.2.1,AS HR3.out.1 HX.out.2.2 (λk hk e=>?_),AS HR3.out.2.1 HX.out.2.2 (λk hk e=>?_),HR3.out.2.2.tr HX.out.2.2⟩⟩;·have:=Cr HR3.out.1 k hk;have e2:k=↑w:=e;omega
 ·have:=Cr HR3.out.2.1 k hk;have e2:k=↑w:=e;omega):P:=h
theorem aJ(h:P:=by clear hb2;go_wp2_with ((with_reducible refine(Hsg.out _).mono ?_);rintro e wq ⟨rfl,rfl⟩);go_meet;exact⟨(z+CM n)%4294967296,0,T (by rw[HNT.out.1,HNT.out.2,An HJ.out,An HJ.out];exact⟨rfl,rfl⟩),T (BP6.out.set_ 8 _),T ((Ak (λq=>q=gp) W6).setCell (p:=⟨gp,8,G⟩) (Af rfl) _)⟩):P:=h
theorem KU(h:P:=by
 clear z1 z2 z3 z4 z5 z6 z7;go_in;go_wp2_with fail
 go_region
 all_goals
  go_wp2_with fail;exact Bu (Ca.results_ct rfl _ _ (w.heap.size+1) 270 (hA _) _ (Ao Ag) rfl rfl ((QW w _ _ _ _).drew) Tryz.underlying270 rfl szH) rfl ⟨rfl,((((Ak _ w).alloc _).alloc _).alloc _).drew⟩):P:=h
theorem Xm(h:P:=by
 have HA2:Hid (a=(kept p (b+1)).length):=T (by rw[e1];exact HA.out);clear hCs bB2 bB e1
 go_wp2
 go_roundw;case rel=>
  obtain⟨F2,g1,g2,g3⟩:=HX.out;exact⟨a,b+1,F2,rfl,Bo,O,O,HA2.out,O,HI2.out,by have:=FB.out.size;omega,g1,g2,g3⟩
 case measure=>simp[AM];omega):P:=h
theorem Vo(h:P:=by
 rintro e w' ⟨rfl,rfl⟩;go_wp2_with fail
 go_region
 all_goals
  go_wp2_with fail
  try simp only[Exit.inBlock,Exit.then]
  have hf:=HEnd.out (J U 10) (J V va);exact Bu (results_tc rfl _ _ (w.heap.size+1) 190 _ _ _ rfl rfl hf.1 Tryz.underlying190 rfl szT) rfl ⟨rfl,hf.2⟩):P:=h
theorem Vm(h:P:=by
 rintro e w' ⟨rfl,rfl⟩;go_wp2_with fail
 go_region
 all_goals
  go_wp2_with fail
  try simp only[Exit.inBlock,Exit.then]
  have hf:=HEnd.out (J U 0) (J V 0);exact Bu (results_tc rfl _ _ (w.heap.size+1) 190 _ _ _ rfl rfl hf.1 Tryz.underlying190 rfl szT) rfl ⟨rfl,hf.2⟩):P:=h
theorem Rq(h:P:=by
 intro w1 L1 lc1 X1 xc1 K1 E1;go_wp2_with fail;refine ego (YE _ base _ _ _ Q _ E1.out O rd) ?_;intro w2 L2 lc2 X2 xc2 K2 E2;replace K2:=T (K1.out.tr K2.out)
 go_wp2
 go_end0;exact EV (EPost.of K2.out E2.out) My O):P:=h
theorem Yt(h:P:=by
 go_wp2_with fail;refine Ax Hs ?_;rintro e w1 ⟨rfl,hM1,f1⟩;have HX:=T (Az hM1 (hF.out.tr f1));clear hM1 f1
 go_wp2
 go_roundw
 case rel=>exact⟨k+1,O,Bo,T (by rw[←hls.out];exact HX.out.1),T HX.out.2⟩
 case measure=>simp[AM];omega):P:=h
theorem ZN(h:P:=by
 exact Cells.new' w _ _ n _ (by
  rw[e];apply List.ext_getElem?;intro i;rw[List.getElem?_replicate,EA];by_cases hi:i<n;·rw[An hi,List.getElem?_range hi];rfl
  ·rw[Ae hi,FL (by rw[List.length_range];omega)];rfl)):P:=h
theorem Yi(h:P:=by
 refine⟨g,0,rfl,hb.lt, ?_, ?_, ?_, ?_, ?_⟩;·rw[BS];exact key 0 O
 ·rw[BS];exact key 1 O
 ·rw[BS];exact key 2 O
 ·rw[BS];exact key 3 O
 ·rw[BS];exact key 4 O):P:=h
theorem Wm(h:P:=by
 simp only[c1,c2,decide_true,decide_false,if_true,Bool.false_eq_true,if_false,Int.add_zero];have c1':decide (r<a)=Ac:=by simp[c1]
 clear c1 c2;go_in;go_wp2_with fail;refine Ax Hp ?_;rintro e w' ⟨rfl,rfl⟩
 go_wp2
 go_ret;exact⟨rfl,rfl⟩):P:=h
theorem Wr(h:P:=by
 simp only[c1,c2,decide_true,decide_false,if_true,Bool.false_eq_true,if_false,Int.add_zero];have c1':decide (a<b)=Ac:=by simp[c1]
 clear c1 c2;go_in;go_wp2_with fail;refine Ax Hp ?_;rintro e w' ⟨rfl,rfl⟩
 go_wp2
 go_ret;exact⟨rfl,rfl⟩):P:=h
theorem iM(h:P:=by
 have hj:j<16:=hj
 match j,hj with
 |0,_=>rfl
 |1,_=>rfl
 |2,_=>rfl
 |3,_=>rfl
 |4,_=>rfl
 |5,_=>rfl
 |6,_=>rfl
 |7,_=>rfl
 |8,_=>rfl
 |9,_=>rfl
 |10,_=>rfl
 |11,_=>rfl
 |12,_=>rfl
 |13,_=>rfl
 |14,_=>rfl
 |15,_=>rfl
 |j+16,hj=>exact absurd hj O):P:=h
theorem Xh(h:P:=by obtain⟨F,g1,g2,g3⟩:=HR1.out;exact⟨m0,m0+1,F,rfl,Bo,O,O,HP.out.1.symm,O,HI1.out,hs1,g1,λt ht c hc=>by rw[HP.out.2 t ht];exact g3 t (by have:=HP.out.1;omega) c hc,λq _ hq c hc=>g3 q hq c hc⟩):P:=h
theorem WA(h:P:=by intro j hj;have hj:j<16:=hj;have hc:j=0∨j=1∨j=2∨j=3∨j=4∨j=5∨j=6∨j=7∨j=8∨j=9∨j=10∨j=11∨j=12∨j=13∨j=14∨j=15:=O;rcases hc with rfl|rfl|rfl|rfl|rfl|rfl|rfl|rfl|rfl|rfl|rfl|rfl|rfl|rfl|rfl|rfl<;>rfl):P:=h
theorem TF(h:P:=by exact⟨⟨h.D,h.R,h.fl,h.same⟩,by show takeD op≤_;omega,by show takeR op≤_;omega,by show c.d.length=_ -takeD op+putD op;omega,by show c.r.length=_ -takeR op+putR op;omega,⟨[],AB⟩,rfl,AC _,AC _⟩):P:=h
theorem RN(h:P:=by
 clear hab
 go_wp2
 go_roundw
 case rel=>exact⟨j+1,tt,O,Bo,T (HU1.out O),T (IvX.of hgb (HIC.out.fr ((Ak Aj wr).alloc _) id)),T (hO.out.alloc _),T (hF.out.alloc _)⟩
 case measure=>simp[AM];omega):P:=h
theorem UZ(h:P:=by
 have e:k=n:=O;subst e;have hG:NewP w gp s o k (Av (AF #[Bm (I ⟨↑w1+1+1,0,G⟩),J U 0])) wr:=⟨_,rfl,rfl,newT_end hT,hPz,Hbl.out,frz⟩;have HG:=T hG;clear hG
 go_wp2
 go_ret2;exact HG.out):P:=h
theorem RY(h:P:=by
 go_wp2
 go_roundw
 case rel=>exact⟨k,(k:Int) -1,u,O,Bo,T rfl,T (HUS.out _ (S0.out (Ah O))),T (hC.out.alloc _),T (hF.out.alloc _)⟩
 case measure=>first|(simp[AM];done)|(simp[AM];omega)):P:=h
theorem Np(h:P:=by have hp':tmps[p]?.getD BY=v:=LZ;have hq':=Nd;simp[results,h,hp',hq',asAddr,run_loadVar_row w g' t' ty' cs' (0,0) d' hg' hu' hd' hi',GP,Fe]):P:=h
theorem Ws(h:P:=by
 rw[eF];rw[eV] at Hpl⊢;clear eV eF;rw[eB];clear bd eB;go_in;go_wp2_with fail;refine Ax Hc ?_;rintro e w' ⟨rfl,rfl⟩;go_wp2_with fail;refine Ax Hpl ?_;rintro e w' ⟨rfl,rfl⟩
 go_wp2
 go_ret3;exact⟨rfl,rfl⟩):P:=h
theorem UU(h:P:=by have hr:=run_make (P:=Tryz.prog) w 128 4 i0 (Ao Ac) Tryz.underlying128 hi0 hz0 U U n n O O Nz O;simp only[DE,hz1,Nat.mul_one] at hr;exact hr):P:=h
theorem UT(h:P:=by have hr:=run_make (P:=Tryz.prog) w 85 3 i0 (J U 0) Gd hi0 hz0 U U n n O O Nz O;simp only[DE,hz1,Nat.mul_one] at hr;exact hr):P:=h
theorem Yd(h:P:=by
 have hs:=h.f.size;refine⟨k.g.trans h.g,λi hi=>?_,h.f.trans k.f (λi hi e=>?_)⟩;·exact VQ
 ·rcases h.it i e with e|e;·exact e
  ·omega):P:=h
theorem Zc(h:P:=by
 rw[hx] at hcell Hv;clear hx hmem e2;go_wp2_with fail;refine(Hv.out _).mono ?_;rintro e w' ⟨rfl,rfl⟩;go_wp2_with fail
 go_round
 case rel=>exact⟨j+1,O,Bo⟩
 case measure=>simp[AM];omega):P:=h
theorem bQ(h:P:=by
 clear HN HY;go_upto_region 4 with(fail);go_still_tail 5,AL;change Cz _ _ _ _ _ wr.drew
 go_wp2
 go_roundw
 case rel=>exact⟨q+1,O,Bo,HP.out⟩
 case measure=>simp[AM];omega):P:=h
theorem Xn(h:P:=by
 go_wp2
 go_ret;refine⟨by rw[←HA.out];rfl,HI3.out, ?_⟩;rw[←HA.out];refine⟨_,hC2.out,O,λt ht c hc=>?_⟩;rw[←HK.out t JU c hc];unfold putR;rw[Ae O]):P:=h
theorem aX(h:P:=by
 rcases h.2 with⟨e2,_⟩|⟨g',cap,cur,e2,_,hb,_⟩
 ·injection e2 with e2;rw[e2] at e
  cases e
 ·injection e2 with e2;rw[e2] at e;have:g'=q:=MO;exact Sy):P:=h
theorem Vk(h:P:=by
 simp only[part] at cz;go_wp2_with fail;refine Ax Hg ?_;rintro e w' ⟨rfl,rfl⟩
 go_wp2
 go_roundw
 case rel=>exact⟨r+1,O,Bo,HM.out,HC.out,HF.out⟩
 case measure=>simp[AM];omega):P:=h
theorem Yj(h:P:=by obtain⟨b,off,e,hb,c0,c1,c2,c3,c4⟩:=h k hk;have hn:=hs b hb;have hl:b<↑w:=O;exact⟨b,off,e,hb,f.cell c0 hl hn,f.cell c1 hl hn,f.cell c2 hl hn,f.cell c3 hl hn,f.cell c4 hl hn⟩):P:=h
theorem OG(h:P:=by go_in;go_upto_region 1 with(fail);rw[HW.out];go_wp2_with ((with_reducible refine(He.out _).mono ?_);rintro e w1 ⟨rfl,rfl⟩);go_ret;exact⟨cY,F0.out⟩):P:=h
theorem Ym(h:P:=by
 generalize s.at_=a at*;generalize s.l.length=n at*;clear ha;go_in;go_wp2_with fail;go_quiet (fail)
 go_wp2
 go_ret;exact⟨rfl,H.out.fr0 ((Ak _ w).drewN _),(Ak _ w).drewN _⟩):P:=h
theorem VC(h:P:=by
 go_in;go_wp2_with fail;refine(mG w b2 _ _ _ _ _ hr (AC _) Im ho hb2).mono ?_;rintro e w1 ⟨v,rfl,ho1,f1,hk1⟩
 go_wp2
 go_ret;exact⟨v,rfl,ho1,f1,hk1⟩):P:=h
theorem YF(h:P:=by
 intro w2 L2 lc2 X2 xc2 K2 E2;replace K2:=T (K1.out.tr K2.out)
 go_wp2
 go_end0;exact EV (EPost.of K2.out E2.out) My O):P:=h
theorem Vs(h:P:=by subst h0;have:zs=[]:=List.eq_nil_of_length_eq_zero hlz;subst this;exact h w (hC.congr (λi _=>U0)) (Ak _ _)):P:=h
theorem aW(h:P:=by
 rcases h with⟨_,h2,_⟩|⟨gl,e2,⟨F,h1,_⟩,_⟩;·rw[h2] at e;cases e
 ·rw[e2] at e;have:gl=q:=MO;subst this;obtain⟨cs,hc,_⟩:=h1;exact srt_blk hc):P:=h
theorem Xb(h:P:=by
 have hd:decide ((q:Int)<(n:Int))=Ac:=AA;have e:q=n:=O;have HE:=T e;clear e hI
 go_wp2
 go_ret;have e:=HE.out;subst e;exact Ah ⟨rfl,HNO.out,HW.out⟩):P:=h
theorem WE(h:P:=by
 induction L with
 |nil=>intro bs h;cases bs<;>simp[Bj] at h⊢
 |cons p L ih=>
  intro bs h
  cases bs with
  |nil=>simp at h
  |cons b bs=>simp[Bj,ih bs DC]):P:=h
theorem TC(h:P:=by
 rw[e];simp only[GS];refine⟨⟨[],AB⟩,p1,p2, ?_, ?_⟩;·simpa[FU] using p3
 ·simpa[FU] using p4):P:=h
theorem WQ(h:P:=by rw[nH L bs h.len j];simp[Js,Fk ht,Ix h.b,K.check w _ hx,h2,Jr _ h.b,Fe,setBlock]):P:=h
theorem jJ(h:P:=by
 have e0:0=gg:=e0;have t0:=hM0.tab.2 0 Ap;have t1:w.cell? ⟨gg,0,G⟩=I ↑a.gB:=hb0.cell 0;rw[←e0] at t1;rw[t1] at t0;injection t0 with t0
 cases t0):P:=h
theorem We(h:P:=by
 obtain rfl:g3=p.g:=L3.g;have L3:=T ((L2.out.tr (Lk.fr0 ((Ak _ w2).alloc _))).tr L3);have D3:=T D3;clear hq
 go_wp2
 go_ret;exact⟨rfl,_,_,L3.out,D3.out⟩):P:=h
theorem Wc(h:P:=by
 obtain rfl:g2=p.g:=L2.g;have L2:=T ((L1.out.tr (Lk.fr0 ((Ak _ w1).alloc _))).tr L2);have D2:=T D2;clear hq
 go_wp2
 go_ret;exact⟨rfl,_,_,L2.out,D2.out⟩):P:=h
theorem Uj(h:P:=by exact⟨e1.pushD _ (by simp[e2];omega),(E1.pushD _).more O O O Ui O⟩):P:=h
theorem Yl(h:P:=by
 rw[hq];have HT:=T (oA w q)
 cases q
 all_goals
  go_in;go_wp2_with fail;refine Ax HT ?_;rintro e w' ⟨rfl,rfl⟩
  go_wp2
  go_ret;exact⟨rfl,rfl⟩):P:=h
theorem PD(h:P:=by
 congr 1;funext j;dsimp only;by_cases e:j=k;·subst e;simp
 ·rw[Ae e];by_cases h:j<k;·rw[An h,An O]
  ·rw[Ae h,Ae O]):P:=h
theorem Up(h:P:=by show 0≤(x -y)%18446744073709551616∧(x -y)%18446744073709551616<18446744073709551616∧(x -y)%18446744073709551616%4294967296=(x -y)%4294967296;omega):P:=h
theorem iT(h:P:=by
 cases q2
 ·exact Ta
 ·exact Ta):P:=h
theorem U6(h:P:=by
 have Hp:=T hp;have Hf:=T fr2;clear hp fr2
 go_wp2
 go_roundw
 case rel=>exact⟨k+1,O,Bo,Hp.out,Hf.out⟩
 case measure=>simp[AM];omega):P:=h
theorem Na(h:P:=by
 obtain⟨h1,h2⟩:=h;refine⟨h1, ?_⟩;rcases h2 with h2|⟨g,cap,cur,hv,hg,r⟩;·exact Af h2
 ·exact Ah ⟨g,cap,cur,hv,Bg hb hg,r⟩):P:=h
theorem Wl(h:P:=by
 have c1':decide (r<a)=Ag:=by simp[c1]
 clear c1 c2;go_in;go_wp2_with fail;refine Ax Hp ?_;rintro e w' ⟨rfl,rfl⟩
 go_wp2
 go_ret;exact⟨rfl,rfl⟩):P:=h
theorem Wp(h:P:=by
 have c1':decide (a<b)=Ag:=by simp[c1]
 clear c1 c2;go_in;go_wp2_with fail;refine Ax Hp ?_;rintro e w' ⟨rfl,rfl⟩
 go_wp2
 go_ret;exact⟨rfl,rfl⟩):P:=h
theorem qZ(h:P:=by
 rcases hk with e|e;·exact⟨hn.d.ge k (ab_own hn.d e),hn.d.lt k (ab_own hn.d e)⟩
 ·exact⟨hn.r.ge k (ab_own hn.r e),hn.r.lt k (ab_own hn.r e)⟩):P:=h
theorem Xr(h:P:=by refine⟨A1,c1,rfl,hown1,((Ak _ _).alloc _).grown hg1 (λk hk=>?_)⟩;have e:=PZ;exact Ah O):P:=h
theorem Zz(h:P:=by
 have e:=ab_own hown hk;rcases hat with e2|e2;·exact Og
 ·rw[e2] at e;exact Ah (by have:↑W=k:=(by simpa using e);omega)):P:=h
theorem Ww(h:P:=by
 rw[e];clear b2 b4 b8 e
 cases hb:bitB fl 1<;>(rw[hb] at b1;clear hb;go_enter Tryz.func171,Tryz.ntmps171;go_wp2_with fail;go_ret2;exact⟨rfl,rfl⟩)):P:=h
theorem r6(h:P:=by
 have h1:=f2.size;rcases r with r|r|r;·have r:W.heap.size=w2.heap.size:=r;omega
 ·have:=hbl _ r;omega
 ·have r:↑W=ad.gp:=r;have:=HWl.out.2;omega):P:=h
theorem Ot(h:P:=by
 intro w1 L1 lc1 X1 xc1 K1 E1
 go_wp2
 go_end0;exact EV (EPost.of K1.out E1.out) My O):P:=h
theorem iD(h:P:=by
 exact absurd hR.out.2 (by
  obtain⟨j,hj⟩: ∃j,m -k=j+1:=⟨m -k -1,O⟩;rw[hj];rintro⟨i,n',h2,_⟩;rw[HOF.out] at h2
  cases h2)):P:=h
theorem Ou(h:P:=by go_in;go_wp2_with ((with_reducible refine(hv0.out _).mono ?_);rintro e w' ⟨rfl,rfl⟩);go_ret;exact⟨rfl,((Ak _ w).alloc _).alloc _⟩):P:=h
theorem Yo(h:P:=by
 have g5:decide (pl≥256)=Ag:=KV
 go_wp2
 go_ret;rw[HR.out,An hq];exact⟨rfl,Kg F2.out ⟨H2.out,Ak _ _⟩⟩):P:=h
theorem XA(h:P:=by unfold GF;rw[Ae O,Ae O,Ae O,Ae O,Ae O,An O];congr 1;omega):P:=h
theorem WO(h:P:=by simp[Js,Fk ht,Ix h.b,K.check w _ hx,h2,Jr _ h.b,Fe,setBlock]):P:=h
theorem Zl(h:P:=by
 clear em ht;go_in;go_wp2_with fail
 go_region
 all_goals
  go_wp2
  go_end0;exact⟨rfl,HX.out.1.fr (Ak Aj _).drew id,HX.out.2.drew⟩):P:=h
theorem ZT(h:P:=by
 refine CX ?_
 go_wp2
 go_roundw
 case rel=>exact⟨j+1,q,O,Bo,rfl,hQ,hqk,T (hW.out _ hH)⟩
 case measure=>simp[AM];omega):P:=h
theorem VB(h:P:=by
 have HG:=T hG;clear hG h0 hz;go_in;go_wp2_with fail;refine(mF w).mono ?_;rintro e w1 ⟨rfl,rfl⟩
 go_wp2
 go_ret;exact HG.out):P:=h
theorem UE(h:P:=by
 clear hb e1 e2;go_in;go_wp2_with fail;refine(Hf.out _).mono ?_;rintro e w' ⟨rfl,rfl⟩
 go_wp2
 go_ret;exact⟨rfl,h,Ak _ _⟩):P:=h
theorem Wz(h:P:=by
 have hj:j<ds.size:=by
  have:=(List.getElem?_eq_some_iff.1 hv).1;simpa using this
 rw[BS,h.cell j,hds j hj];simpa using hv):P:=h
theorem Xy(h:P:=by
 rw[e] at h;by_cases q:256≤(s.g ra+x)%18446744073709551616;·rw[An q] at h;cases h
 ·rw[Ae q] at h;exact⟨O,h⟩):P:=h
theorem Fh(h:P:=by
 go_wp2_with fail;refine(Hn.out _).mono ?_;rintro e w' ⟨rfl,rfl⟩
 go_wp2
 go_ret;exact⟨by rw[hfv.out];rfl,F3.out.alloc _⟩):P:=h
theorem UY(h:P:=by
 clear hT2
 go_wp2
 go_roundw
 case rel=>exact⟨k+1,O,Bo,HT2.out,HP2.out,FR2.out⟩
 case measure=>simp[AM];omega):P:=h
theorem Zi(h:P:=by
 rw[g1,g2] at hr;simp at hr;subst hr;go_in;go_wp2_with fail
 all_goals
  go_ret;exact⟨rfl,((Ak _ w).alloc _).alloc _⟩):P:=h
theorem UB(h:P:=by
 go_wp2
 go_roundw
 case rel=>exact⟨k+1,O,Bo,by rw[Hs.out];exact hown,fr,hat⟩
 case measure=>simp[AM];omega):P:=h
theorem UO(h:P:=by
 clear hv hp e1 e2 hi hx;go_in;go_wp2_with fail;refine Ax Hv ?_;rintro e w' ⟨rfl,rfl⟩
 go_wp2
 go_ret2;exact⟨rfl,rfl⟩):P:=h
theorem VV(h:P:=by
 subst e;obtain⟨h1,h2⟩:=h;have d1:=NI;clear hq;go_in
 go_wp2
 go_ret;exact⟨rfl,rfl⟩):P:=h
theorem Zj(h:P:=by
 simp[h3] at hr;subst hr;clear h3;go_in;go_wp2_with fail
 all_goals
  go_ret;exact⟨rfl,((Ak _ w).alloc _).alloc _⟩):P:=h
theorem Xz(h:P:=by unfold GF;rw[Ae O,Ae O,Ae O,Ae O,An O];congr 1;omega):P:=h
theorem Ty(h:P:=by
 rcases h.2 with⟨e2,h0⟩|⟨g',cap,cur,e2,_⟩;·injection e2 with _ h1 h2;exact⟨h1,h2⟩
 ·rw[e] at e2;simp at e2):P:=h
theorem NQ(h:P:=by
 rw[eB];clear bd eB;go_in;go_wp2_with fail;refine Ax Hpl ?_;rintro e w' ⟨rfl,rfl⟩
 go_wp2
 go_ret3;exact⟨rfl,rfl⟩):P:=h
theorem Vi(h:P:=by
 clear hno;go_in;go_wp2_with fail;refine Ax Hpg ?_;rintro e w' ⟨rfl,rfl⟩
 go_wp2
 go_ret;exact⟨rfl,h,Ak _ _⟩):P:=h
theorem Sf(h:P:=by go_meet;exact⟨l,A,c2,size,Ac,h8,rfl,rfl,T (hP.out.fr0 (F1.out.trans ((Ak Aj _).alloc _) (λ_ _ e=>e)))⟩):P:=h
theorem Q5(h:P:=by
 rw[eB];clear bd eB;go_in;go_wp2_with fail;refine Ax Hc ?_;rintro e w' ⟨rfl,rfl⟩
 go_wp2
 go_ret3;exact⟨rfl,rfl⟩):P:=h
theorem U5(h:P:=by
 clear hv hb e1 hh;go_in;go_wp2_with fail;refine Ax Hv ?_;rintro e w' ⟨rfl,rfl⟩
 go_wp2
 go_ret2;exact⟨rfl,rfl⟩):P:=h
theorem UF(h:P:=by
 go_in;go_wp2_with fail;refine(Hf.out _).mono ?_;rintro e w' ⟨rfl,rfl⟩
 go_wp2
 go_ret;exact⟨rfl,h,Ak _ _⟩):P:=h
theorem jG(h:P:=by have hj:j<16:=hj;refine⟨?_,h.frozen (6+j)⟩;rw[h.cell (6+j),Array.getElem?_eq_getElem (by show 6+j<23;omega)];rfl):P:=h
theorem PA(h:P:=by
 rw[e1];clear e1 hb;go_in;go_wp2_with fail;refine Ax Hv ?_;rintro e w' ⟨rfl,rfl⟩
 go_wp2
 go_ret;exact⟨rfl,rfl⟩):P:=h
theorem Qf(h:P:=by exact(HD.out.2.mono (S':=λk=>p.its k∨ ¬P k) (λk _ e=> Ah e)).trans (hL.2.drewN _) (λi hi e=> Af e)):P:=h
theorem TS(h:P:=by
 rcases l.eq_nil_or_concat with e|⟨m,i,e⟩;·exact absurd e hl
 ·exact⟨m,i,by rw[e,Ir]⟩):P:=h
theorem Vy(h:P:=by
 go_in;go_wp2_with fail;refine Ax hsz ?_;rintro e w' ⟨rfl,rfl⟩
 go_wp2
 go_ret;exact⟨rfl,hD,hM,Ak _ _⟩):P:=h
theorem VL(h:P:=by rw[e] at h1⊢;simpa only[rc,IA,IB,IC,Gm.pop1] using h1):P:=h
theorem U2(h:P:=by
 rw[Ae e];by_cases h1:i<16384;·rw[An h1,An h1];dsimp only;rw[Ae e]
 ·rw[Ae h1,Ae h1]):P:=h
theorem NJ(h:P:=by
 go_in;go_wp2_with fail;refine(Hs.out _).mono ?_;rintro e w' ⟨rfl,rfl⟩
 go_wp2
 go_ret;exact⟨rfl,F1.out⟩):P:=h
theorem V9(h:P:=by
 go_wp2
 go_ret;rw[show raised zs p=p by unfold raised;rw[Hbad.out];rfl,Hbad.out];exact⟨rfl,h,Ak _ _⟩):P:=h
theorem P9(h:P:=by
 go_in;go_wp2_with fail;refine(Hf.out _).mono ?_;rintro e w' ⟨rfl,rfl⟩
 go_wp2
 go_ret2;exact⟨rfl,rfl⟩):P:=h
theorem Wx(h:P:=by unfold Dg;rw[Ae O,Ae O,Ae O,Ae O,Ae O]):P:=h
theorem r7(h:P:=by show C4 (AG 1 St.new (mc0 1 awakeL [])).s (AG 1 St.new (mc0 1 awakeL [])).g=_;rw[b1];exact e2.1):P:=h
theorem WN(h:P:=by
 unfold rep at hp;obtain⟨q,hq,rfl⟩:=BW.1 hp;split;·exact h.keys q hq
 ·exact h.keys q hq):P:=h
theorem r8(h:P:=by rw[Gj];rw[Int.emod_eq_of_lt O O];exact IntWalk.wrap64_in _ O):P:=h
theorem TB(h:P:=by refine⟨⟨_,rfl⟩,p1,⟨hn',AB,by simp[p2]⟩,AB, ?_⟩;rw[val,JC,p3];simp[Ec]):P:=h
theorem Tx(h:P:=by
 rcases h.2 with⟨rfl,h0⟩|⟨g,cap,cur,rfl,_⟩;·rw[h0];exact⟨_,_,rfl⟩
 ·exact⟨_,_,rfl⟩):P:=h
theorem QX(h:P:=by rw[List.take_succ_eq_append_getElem h,AU,BM h];rfl):P:=h
theorem WB(h:P:=by rw[BS];refine⟨?_,h.frozen j⟩;rw[h.cell j,Array.getElem?_eq_getElem O];rfl):P:=h
theorem T4(h:P:=by
 cases b
 ·exact CK
 ·exact CK):P:=h
theorem XI(h:P:=by exact Str.app (Str.nil.cons (Ei Ap)) (Str.app (QP _ _) (nO _ _ _ _))):P:=h
theorem jE(h:P:=by
 by_cases q:i≤j;·exact hrk.out i q
 ·obtain rfl:i=j+1:=O;rw[HN.out];exact HK2.out):P:=h
theorem Zd(h:P:=by
 exfalso;have h1:p.tg= -1:=by simpa using g4
 have h2:p.tg≠ -1:=by simpa using hbt
 exact h2 h1):P:=h
theorem Om(h:P:=by
 have HE:=T e;clear e hz
 go_wp2
 go_ret;rw[HE.out];exact⟨rfl,Kg F2.out (H2.out.place _)⟩):P:=h
theorem r9(h:P:=by
 rcases hq with h|h|h;·have:=HLT.out.1;omega
 ·have:=HLT.out.2;omega
 ·have:=HC.out q h;omega):P:=h
theorem VU(h:P:=by
 have d2:decide (op≤69)=Ac:=AA;clear hq;go_in
 go_wp2
 go_ret;exact⟨rfl,rfl⟩):P:=h
theorem Xp(h:P:=by
 rw[hd];go_in;go_wp2_with fail
 all_goals
  go_ret;exact⟨by simp[*],(Ak _ w).alloc _⟩):P:=h
theorem aD(h:P:=by simpa only[swC,IA,IB,IC] using this):P:=h
theorem jD(h:P:=by
 by_cases q:i<j;·exact hgo.out i q
 ·obtain rfl:i=j:=O;rw[HQ.out];exact HG.out):P:=h
theorem Wi(h:P:=by
 rw[e];have a':(r==0)=Ac:=by simp[a]
 clear e a b;go_in
 go_wp2
 go_ret;exact⟨rfl,rfl⟩):P:=h
theorem R0(h:P:=by
 subst eb;rw[GH,CQ _ _ hab];intro e;have:=hf.2 a e;rw[hm] at this
 cases this):P:=h
theorem NC(h:P:=by simpa only[rc,IA,IB,IC] using h1):P:=h
theorem QI(h:P:=by unfold BC;rw[Ae O,Ae O,Ae O,Ae O]):P:=h
theorem rB(h:P:=by obtain⟨s,t,hC⟩:=h;have:=pages_any w a.a t hC.2.1;rw[hC.2.2.2.n] at this;exact this):P:=h
theorem R7(h:P:=by
 subst ea;rw[GH];intro e;have:=hf.2 b e.symm;rw[Ze,hm] at this
 cases this):P:=h
theorem VI(h:P:=by rw[FU,List.getLast?_eq_getElem?,AU]):P:=h
theorem cL(h:P:=by
 rcases h.own q hq with r|r;·exact(h.z.2.2.1 q r).2
 ·have:=h.z.2.1 0 h.z.1;omega):P:=h
theorem VO(h:P:=by
 rcases hp k hk with e|e;·exact Bh (h.pl k e) f.size
 ·exact e.2):P:=h
theorem Ua(h:P:=by unfold EM;rw[An h3];unfold upN;rw[Ae O,Ae O]):P:=h
theorem WT(h:P:=by rw[Go.ChangeMaps.map_eraseIdx];exact h.kd.sublist (List.eraseIdx_sublist _ _)):P:=h
theorem U8(h:P:=by rw[GA];exact Bg (List.length_filter_le _ _) AB):P:=h
theorem Qo(h:P:=by
 subst e;obtain⟨h1,h2⟩:=h;clear hq;go_in
 go_wp2
 go_ret;exact⟨rfl,rfl⟩):P:=h
theorem N9(h:P:=by
 rcases hp _ e with e|e;·exact h.uP.2 e
 ·have:=hl _ (Ah (Af rfl));omega):P:=h
theorem aC(h:P:=by
 clear hbz
 go_wp2
 go_meet;exact⟨_,T HX.out.1,T ⟨HX.out.2,HR3.out⟩⟩):P:=h
theorem XN(h:P:=by obtain⟨m,hm⟩:=key n h;exact⟨m,by rw[Ae (by simp[q])];exact hm⟩):P:=h
theorem Ue(h:P:=by refine⟨⟨this.code,this.ld,this.lr,this.fl⟩, ?_, ?_⟩<;>simp[Lw.add]):P:=h
theorem YK(h:P:=by
 generalize pl.reg n=x at*;clear e1;go_in
 go_wp2
 go_ret;exact⟨rfl,rfl⟩):P:=h
theorem jM(h:P:=by
 by_cases q:0<n;·have:=he.2.2.2.1 q;omega
 ·have:=he.2.1 O;omega):P:=h
theorem jF(h:P:=by exact T (HBT.out.fr HF8.out IW)):P:=h
theorem T3(h:P:=by rwa[show(w.alloc (.cells cs t)).heap.size=w.heap.size+1 by simp] at this):P:=h
theorem UQ(h:P:=by
 rintro e w' ⟨rfl,rfl⟩
 go_wp2
 go_ret2;exact⟨rfl,hP,h,Ak _ _⟩):P:=h
theorem fZ(h:P:=by rw[pG,HSN.out];have:=HO.out;rw[←HCL.out] at this;exact this):P:=h
theorem Wb(h:P:=by
 have D1:=T D1;clear hq
 go_wp2
 go_ret;exact⟨rfl,_,_,L1.out,D1.out⟩):P:=h
theorem T0(h:P:=by have e:=PZ;exact Ah O):P:=h
theorem rC(h:P:=by
 cases A2 with
 |none=>cases e
 |some a=>simpa[BZ,ab] using e):P:=h
theorem cU(h:P:=by
 rcases last_mem h.ne i hi with q|q;·exact h.ends i q
 ·rw[q];exact e1):P:=h
theorem VH(h:P:=by
 cases A
 ·simp[BZ] at h
 ·simpa[BZ,ab] using h):P:=h
theorem V0(h:P:=by
 go_in
 go_wp2
 go_ret;exact⟨rfl,AI _ _ _,(Ak _ _).alloc _⟩):P:=h
theorem bU(h:P:=by rw[OE NS] at e;exact absurd e (by simp[eL,ab])):P:=h
theorem N7(h:P:=by
 rcases hp _ e with e|e;·exact h.uP.1 e
 ·have:=hl _ (Af rfl);omega):P:=h
theorem Zf(h:P:=by rw[CQ _ _ ea];exact h.reg a b hab O O hm hp):P:=h
theorem PB(h:P:=by
 rintro e w' ⟨rfl,rfl⟩
 go_wp2
 go_ret;exact⟨rfl,h,Ak _ _⟩):P:=h
theorem Nv(h:P:=by exact Cells.new' w _ _ n _ (by rw[e];apply List.ext_getElem<;>simp)):P:=h
theorem YM(h:P:=by exact EV (EPost.of (Elk.refl w p) H.out) AB O):P:=h
theorem VQ(h:P:=by
 rcases k.it i hi with e|e;·exact h.it i e
 ·exact Ez):P:=h
theorem V1(h:P:=by
 go_in
 go_wp2
 go_end0;exact⟨rfl,Blk.set_ h 0 _,Bt _ _ _ _⟩):P:=h
theorem Z0(h:P:=by rw[ex];exact AS hown f2 (λk hk e=>hgA Cp)):P:=h
theorem Ta(h:P:=by
 go_wp2
 go_meet;refine⟨_,rfl,T ?_,rfl⟩;rw[hq1,HQ3.out];try rfl):P:=h
theorem VN(h:P:=by
 rcases hp k e with e|e;·exact(b2 k hk).1 e
 ·have:=b3 k hk;omega):P:=h
theorem VE(h:P:=by
 rcases hp k e with e|e;·exact(h2 k hk).1 e
 ·have:=h3 k hk;omega):P:=h
theorem XX(h:P:=by exact HAll.nil.cons (Oa hr O O O)):P:=h
theorem Zt(h:P:=by show lwF _ _ _ _ _ _=lwF _ _ _ _ _ _;dsimp only;rw[hl,v1,v2];rfl):P:=h
theorem Z1(h:P:=by go_meet;exact⟨_,HX.out.1.le O,HP.out.2.tr HX.out.2⟩):P:=h
theorem Xc(h:P:=by obtain⟨F,h1,h2,h3⟩:=h;rw[h1.cell _ O,h3 q hq c hc]):P:=h
theorem Qg(h:P:=by refine Dn.fr0 ?_ ((Ak Aj _).drewN _);have:=hL.1;exact this):P:=h
theorem cJ(h:P:=by
 rcases q2 k hk with r|r;·exact p2 k r
 ·exact Ez):P:=h
theorem cK(h:P:=by
 rcases q4 k hk with r|r;·exact p2 k r
 ·exact Ez):P:=h
theorem Yc(h:P:=by obtain⟨he,p',h1,h2,h3⟩:=h;exact⟨he,p',h1,h2.le hb,h3⟩):P:=h
theorem jS(h:P:=by
 rw[hv] at e;have:g'=q:=by simpa[BZ] using e
 omega):P:=h
theorem V8(h:P:=by
 go_wp2
 go_ret2;exact⟨rfl,h.drewN _,(Ak _ _).drewN _⟩):P:=h
theorem V2(h:P:=by
 clear hd hs;go_in
 go_wp2
 go_ret;exact⟨rfl,h,Ak _ _⟩):P:=h
theorem Yv(h:P:=by intro z hz;obtain⟨j,_,rfl⟩:=BW.1 hz;exact hm _):P:=h
theorem gH(h:P:=by have:=hlook W f;unfold lk at this;rw[hf] at this;exact this):P:=h
theorem U9(h:P:=by unfold EP;rw[GZ,List.filter_append];simp[h]):P:=h
theorem Vl(h:P:=by unfold turnN;rw[GZ,List.filter_append];simp[h]):P:=h
theorem UN(h:P:=by
 rintro e w' ⟨rfl,rfl⟩
 go_wp2
 go_ret2;exact⟨rfl,rfl⟩):P:=h
theorem LU(h:P:=by
 rintro e w' ⟨rfl,rfl⟩
 go_wp2
 go_ret;exact⟨rfl,rfl⟩):P:=h
theorem Zg(h:P:=by subst e;rw[GH,GH];exact Ah ⟨rfl,hf.1,hr⟩):P:=h
theorem dO(h:P:=by
 rcases q with q|q|q;·omega
 ·have:=hown _ q;omega
 ·omega):P:=h
theorem WV(h:P:=by unfold kept;rw[GZ,List.filter_append];simp[h]):P:=h
theorem kP(h:P:=by
 go_wp2
 go_meet;refine⟨_,rfl,T ?_,rfl⟩;rw[G1.out];rfl):P:=h
theorem SC(h:P:=by
 rcases hk with e|e;·exact p2 k e
 ·exact Ez):P:=h
theorem rD(h:P:=by rw[List.getElem?_toArray,hat];show mk L[j].1=mk x;rw[h1]):P:=h
theorem T8(h:P:=by
 clear h1 h2 h3;go_in
 go_wp2
 go_ret;exact⟨rfl,F1.out⟩):P:=h
theorem gY(h:P:=by
 go_in
 go_wp2
 go_ret;exact⟨rfl,(Ak _ w).alloc _⟩):P:=h
theorem Mg(h:P:=by
 go_in
 go_wp2
 go_ret;exact BPost.same H.out (Ak _ _)):P:=h
theorem gF(h:P:=by right;rw[Ie.1 hx] at e;exact HNA.out q e):P:=h
theorem ND(h:P:=by
 subst e;clear hq;go_in
 go_wp2
 go_ret;exact⟨rfl,rfl⟩):P:=h
theorem WU(h:P:=by show(w1.heap.setIfInBounds r _)[r]?=_;rw[hr1];simp[hrl]):P:=h
theorem Tw(h:P:=by
 unfold Addr.add;split;·rename_i h0;subst h0;rfl
 ·rfl):P:=h
theorem Oi(h:P:=by
 clear wa ws wm;go_in
 go_wp2
 go_ret;exact⟨rfl,rfl⟩):P:=h
theorem TG(h:P:=by rw[hx];simp[AY,C7,reckS,St.next,AK,Kv]):P:=h
theorem Vz(h:P:=by
 go_in
 go_wp2
 go_ret;exact⟨rfl,hD,hM,Ak _ _⟩):P:=h
theorem T2(h:P:=by rw[List.take_of_length_le O] at h2;exact h2):P:=h
theorem RI(h:P:=by go_meet;exact⟨_,HQ.out.1.le O,HQ.out.2⟩):P:=h
theorem Oq(h:P:=by
 rintro e w' ⟨rfl,HQ⟩
 go_wp2
 go_end0;exact HQ.out):P:=h
theorem Nu(h:P:=by
 rw[e];clear e;go_in
 go_wp2
 go_ret;exact⟨rfl,rfl⟩):P:=h
theorem jW(h:P:=by
 go_wp2
 go_ret;exact⟨rfl,⟨m,HG2.out⟩,HF2.out⟩):P:=h
theorem Xl(h:P:=by unfold BC;rw[Ae O,Ae O]):P:=h
theorem UL(h:P:=by unfold G8;rw[lR hO,hO];simpa using hr):P:=h
theorem WS(h:P:=by rw[List.length_eraseIdx,List.length_eraseIdx,h.len]):P:=h
theorem UC(h:P:=by
 have HG:=T hG;clear hG
 go_wp2
 go_ret;exact HG.out):P:=h
theorem dN(h:P:=by
 rcases hwr k hk with q|q;·omega
 ·exact hown4 k q):P:=h
theorem Xf(h:P:=by obtain⟨F,h1,h2⟩:=h;exact⟨F,h1.fr fr hn,h2⟩):P:=h
theorem Yq(h:P:=by rw[Ae h16,Ae h17,Ae h18,Ae h19,hs]):P:=h
theorem YW(h:P:=by
 clear em hm;go_in
 go_wp2
 go_ret;exact⟨rfl,rfl⟩):P:=h
theorem jH(h:P:=by exact Bi hv hb7 Ap (by rw[hk,e])):P:=h
theorem dP(h:P:=by
 rcases e with e|e;·simp[ab] at e
 ·simp[ab] at e):P:=h
theorem Ug(h:P:=by rw[e];simpa[FU] using this):P:=h
theorem R8(h:P:=by exact h.slot a b hab O O hm hp):P:=h
theorem Mt(h:P:=by
 clear hb;go_in
 go_wp2
 go_ret;exact⟨rfl,rfl⟩):P:=h
theorem WH(h:P:=by rw[List.find?_eq_none.2 (λp hp=>h p hp)];rfl):P:=h
theorem Ml(h:P:=by
 clear hq;go_in
 go_wp2
 go_ret;exact⟨rfl,rfl⟩):P:=h
theorem XM(h:P:=by exact⟨n,by rw[An (by simp[q])];exact h⟩):P:=h
theorem bZ(h:P:=by
 go_wp2
 go_ret;exact⟨by rw[E1.out];rfl,rfl⟩):P:=h
theorem Ql(h:P:=by
 clear h;go_in
 go_wp2
 go_ret;exact⟨rfl,rfl⟩):P:=h
theorem iY(h:P:=by
 by_cases q:0<j;·have:=hc1.2.2 q;omega
 ·omega):P:=h
theorem Pd(h:P:=by show c.d.dropLast.length=c.d.length -1+0;simp):P:=h
theorem TE(h:P:=by show c.r.dropLast.length=c.r.length -1+0;simp):P:=h
theorem V7(h:P:=by exact⟨rfl,Blk.set_ h 0 _,Bt _ _ _ _⟩):P:=h
theorem KD(h:P:=by
 rw[hb];go_in
 go_wp2
 go_ret;exact⟨rfl,rfl⟩):P:=h
theorem VM(h:P:=by rw[hk2] at e;injection e with e;exact Ah e):P:=h
theorem Yh(h:P:=by rw[Ea O];simp):P:=h
theorem XS(h:P:=by rw[An O,Ae c];congr 2;omega):P:=h
theorem SY(h:P:=by
 clear hq
 go_wp2
 go_meet;exact⟨_,rfl,HQ⟩):P:=h
theorem Pj(h:P:=by
 unfold stackS
 repeat' split
 all_goals rfl):P:=h
theorem NA(h:P:=by exact Af (Af (Ah (Ah (Af e))))):P:=h
theorem Ss(h:P:=by rw[e2] at hk;simp[BZ] at hk):P:=h
theorem PM(h:P:=by
 go_in
 go_wp2
 go_ret2;exact⟨rfl,rfl⟩):P:=h
theorem CK(h:P:=by
 go_in
 go_wp2
 go_ret;exact⟨rfl,rfl⟩):P:=h
theorem Tc(h:P:=by exact⟨rfl,(Ak _ w).alloc _⟩):P:=h
theorem LJ(h:P:=by
 go_wp2
 go_ret;exact⟨rfl,F1.out⟩):P:=h
theorem RU(h:P:=by simp[AU,hi]):P:=h
theorem QO(h:P:=by exact Str.nil.cons (QN _ _ _)):P:=h
theorem Oy(h:P:=by exact Af (Ah (Ah (Af e)))):P:=h
theorem SN(h:P:=by
 rcases q with q|q;·omega
 ·omega):P:=h
theorem Sr(h:P:=by exact Af (Ah (Ah (Af q)))):P:=h
theorem rE(h:P:=by obtain⟨s,t,hC⟩:=h;exact hC.c1):P:=h
theorem Qc(h:P:=by exact Af (Af (Ah (Af e)))):P:=h
theorem Og(h:P:=by rw[e2] at e;exact Af (own_ab e)):P:=h
theorem RE(h:P:=by exact Af (Ah (Ah (Ah e)))):P:=h
theorem SB(h:P:=by exact J9 this.1 O):P:=h
theorem Sj(h:P:=by exact Af (Ah ⟨x,hx,e⟩)):P:=h
theorem PC(h:P:=by simp[zeroValue,typeInfo,hi,h']):P:=h
theorem Ry(h:P:=by exact Af KI):P:=h
theorem NL(h:P:=by go_ret;exact⟨rfl,F2.out⟩):P:=h
theorem IR(h:P:=by exact⟨O,O⟩):P:=h
theorem PN(h:P:=by exact⟨rfl,HM.out,FR.out⟩):P:=h
theorem Sy(h:P:=by subst this;exact srt_blk hb):P:=h
theorem Mj(h:P:=by exact Af (Af (Af e))):P:=h
theorem NB(h:P:=by exact Af (Ah (Ah e))):P:=h
theorem Jo(h:P:=by exact Af (Ah (Af e))):P:=h
theorem Ez(h:P:=by exact Ah O):P:=h
theorem Nq(h:P:=by rw[Ae O]):P:=h
theorem LF(h:P:=by split<;>split<;>omega):P:=h
theorem Jn(h:P:=by exact Af (Af e)):P:=h
theorem Xt(h:P:=by exact show Blk ((w.alloc (.cells #[J V k.1,J V k.2] 122)).alloc (.cells #[J V 0,J V 0,Z G 0 0,J U 0] 149)) (w.alloc (.cells #[J V k.1,J V k.2] 122)).heap.size 149 #[J V 0,J V 0,Z G 0 0,J U 0] from AI _ _ _):P:=h
theorem fL(h:P:=by exact show Hid (brC pg ((l.length+(Cu pg pl).length+6:Nat):Int)=[hld 11 15 1,li 12 (EO pg.br),hop 5 11 11 12,⟨if pg.br=34 then 17 else 16,0,11,0,((l.length+(Cu pg pl).length+6:Nat):Int)⟩,li 9 pg.tk]) from T (by unfold brC;rw[Ae (by omega)])):P:=h
theorem Xq(h:P:=by exact show (w.alloc (.cells #[] 5)).ownsRow ↑w 5 1 (Z (I ⟨↑w,0,G⟩) 0 0) 0 [] from ⟨rfl,Ah ⟨↑w,0,#[],rfl,AC _,AI _ _ _,AC _,JA,rfl,rfl⟩⟩):P:=h
theorem iN(h:P:=by exact show Hid (C4 s g=if(BH s g).on then Cg (BH s g).s (BH s g).p ((BH s g).p/64) (BH s g).g 8 else⟨(BH s g).s,(BH s g).g⟩) from T rfl):P:=h
theorem Z2(h:P:=by exact show W0.cell? ⟨g,14,G⟩=I (Z D m cd) from (HP.out.1.b.cell 14 O).trans (by show I (Z D (x.popD.popD).ld.length cd)=_;rw[hm])):P:=h
theorem iH(h:P:=by exact show (EU r.s (Z X2 r.s.d.length c2) (Z Y2 r.s.r.length d2) r.tr r.dv (Z Bc nz mz)).all (·.oneCell')=Ag by simp[Io]):P:=h
theorem aK(h:P:=by exact show (w.alloc (.cells #[J U 0,J V 0] 27)).cell? ⟨b,off,G⟩=I (J AD o) from (World.cell?_alloc_lt w _ ⟨b,off,G⟩ hb).trans hc):P:=h
theorem OK(h:P:=by exact show ((w.alloc (.cells (stc s (Z A0 s.d.length c0) (Z B0 s.r.length d0)) 39)).alloc (.cells z16 39)).heap.size=w.heap.size+2 by simp):P:=h
theorem Yz(h:P:=by exact show ((w.alloc (.cells (stc S (Z A S.d.length c) (Z B S.r.length d)) 39)).alloc (.cells z16 39)).heap.size=w.heap.size+2 by simp):P:=h
theorem XB(h:P:=by exact show Holds pl s1 (at_ p.code k).b (val s p.code (at_ p.code k).b) from (E.v _ hb ub).keep fb (λj hj=>k1 j O) (λj _=>by rw[m1])):P:=h
theorem eN(h:P:=by exact show Fr Aj w7 (w7.alloc (.cells (El ↑w a A (.pointer G) St.new (Z G 0 0) (Z G 0 0)) 54)) from (Ak _ _).alloc _):P:=h
theorem RL(h:P:=by exact show ∀(fn:Fn) (first cp:AP) (W:Aa),(Instr.makeFunc fn first cp).run Tryz.prog W=.ok (.func fn first cp) W from λ_ _ _ _=>rfl):P:=h
theorem gN(h:P:=by exact show IntsAt AD w2 ↑w2 (I ⟨bb,off,G⟩) n0 b from (HBI.out.fr HF2.out hB (λ_ _ e=>e)).more (Bg hB HF2.out.size)):P:=h
theorem RO(h:P:=by exact show wr.cell? ⟨↑w,0,G⟩=I (Z C N cc) from (bpw.cell 0).trans kQ):P:=h
theorem ZC(h:P:=by exact show wr.cell? ⟨↑w,0,G⟩=I (Z C N cc) from (bp.cell 0).trans kQ):P:=h
theorem j9(h:P:=by exact show Hid (goB s.ct n s'=(decide (n>0)&& !s'.ha&&decide (D<n))) from T (by unfold goB;rw[hD,Int.emod_eq_of_lt hD0 (by omega)])):P:=h
theorem QK(h:P:=by exact show Blk (w.alloc (.cells #[J V k.1,J V k.2] 122)) ↑w 122 #[J V k.1,J V k.2] from AI _ _ _):P:=h
theorem eK(h:P:=by exact show ∀k,((Ms.new n).load bs).n≤k→k<64→((Ms.new n).load bs).tu k=Ac from load_tu n bs (by rw[HI.out.1.1];exact l1)):P:=h
theorem Yn(h:P:=by exact show (w2.setCell ⟨p.gm,rd,G⟩ (J AQ v)).drew.cell? ⟨gt,1,G⟩=I (J U (rd:Int)) from cell_far x1 hne):P:=h
theorem Lg(h:P:=by exact show Blk (w.alloc (.cells #[J U op,J V n] 27)).drew ↑w 27 #[J U op,J V n] from AI _ _ _):P:=h
theorem dS(h:P:=by exact show Hid (Pool (W.alloc (.cells #[Z A1 n1 c1,Z A2 n2 c2,J U n] 35)) ↑w Pl.new) from T (hP.fr f0 id)):P:=h
theorem eW(h:P:=by exact show (w.alloc (.cells #[Z A1 n1 c1,Z A2 n2 c2,J U n] 35)).heap.size=w.heap.size+1 by simp):P:=h
theorem fP(h:P:=by exact show w10.cell? ⟨p.g,11,G⟩=I (J V pg.tk) by rw[←HQ.out.tk];exact E10.out.b.cell 11 (by omega)):P:=h
theorem kL(h:P:=by exact show W0.cell? ⟨g,14,G⟩=I (Z D m cd) from (HP.out.1.b.cell 14 O).trans (by rw[←hm,hl];rfl)):P:=h
theorem Zp(h:P:=by exact show (x.add op a b imm).code.length=m+1 by show(x.code++[_]).length=_;rw[Ck,HM.out];rfl):P:=h
theorem dR(h:P:=by exact show Fr Aj W (W.alloc (.cells #[Z A1 n1 c1,Z A2 n2 c2,J U n] 35)) from (Ak _ _).alloc _):P:=h
theorem eU(h:P:=by exact show Fr Aj w (w.alloc (.cells #[Z A1 n1 c1,Z A2 n2 c2,J U n] 35)) from (Ak _ _).alloc _):P:=h
theorem fJ(h:P:=by exact show w9.cell? ⟨p.g,17,G⟩=I (Z L9 len9 lc9) by rw[←hlen9];exact E9.out.b.cell 17 (by omega)):P:=h
theorem XC(h:P:=by exact show s2.g (BJ pl (at_ p.code k).a 7)=val s p.code (at_ p.code k).a by rw[k2 _ (by omega)];exact g1):P:=h
theorem Ut(h:P:=by exact show ∀k,k≠10→k≠11→k≠12→s3.g k=s2.g k from λk c1 c2 c3=>by rw[k3 k c1 c2 c3];simp only[upZ,Ae c2]):P:=h
theorem Lh(h:P:=by exact show Fr Aj w (w.alloc (.cells #[J U op,J V n] 27)).drew from ((Ak _ w).alloc _).drew):P:=h
theorem fM(h:P:=by exact show Hid (((l.length+(Cu pg pl).length+6:Nat):Int)=(len9:Int)+2) from T (by rw[←hlen9];simp;omega)):P:=h
theorem VW(h:P:=by exact show decide ((16:Int)<(s.d.length:Int) -(Gs.takeD 66:Int)+(Gs.putD 66:Int))=Ac by simp;omega):P:=h
theorem VX(h:P:=by exact show decide ((16:Int)<(s.d.length:Int) -(Gs.takeD 67:Int)+(Gs.putD 67:Int))=Ac by simp;omega):P:=h
theorem kH(h:P:=by exact show decide ((16:Int)<(s.d.length:Int) -(Gs.takeD op:Int)+(Gs.putD op:Int))=Ac by simp;omega):P:=h
theorem Yx(h:P:=by exact show Hid (∀k,Em.ab p.A=I k→k<w.heap.size) from T (λk e=>own_lt h.code k (ab_own h.code e))):P:=h
theorem cE(h:P:=by exact show Fr (λq=>q=e.gm) w4 w6 from (F5.out.trans F6.out (λ_ _ e=>e)).mono (λ_ _ e=>e.elim)):P:=h
theorem Xu(h:P:=by exact show (w.alloc (.cells #[J V k.1,J V k.2] 122)).heap.size=w.heap.size+1 by simp):P:=h
theorem Xo(h:P:=by exact show (Cw n).getD q 0=q by simp[AU,List.getElem?_range hq]):P:=h
theorem dU(h:P:=by exact show Hid (w.heap.size≤W.heap.size∧w.heap.size≠W.heap.size) from T ⟨hf1s,by have:=hP.lt;omega⟩):P:=h
theorem PP(h:P:=by exact show As Tryz.prog 49 #[↑a.a.gt] w λe w'=>e=Av (J U m.n)∧w=w' from rB):P:=h
theorem XQ(h:P:=by exact show (left p s (evs s p.code)).d.length=s.d.length -p.nd+p.od.length by unfold left;simp):P:=h
theorem XR(h:P:=by exact show (left p s (evs s p.code)).r.length=s.r.length -p.nr+p.or.length by unfold left;simp):P:=h
theorem dD(h:P:=by exact show (Ms.new n).load zs=(Ms.new n).puts 0 zs zs.length by unfold Ms.load;exact An h):P:=h
theorem dM(h:P:=by exact show AG 2 St.new (mc0 1 awakeL [])=⟨{St.new with pc:=12,ct:=4,ha:=Ag},g2⟩ from r7):P:=h
theorem Ve(h:P:=by exact show frV t ((i/64:Nat):Int)=0 by rw[frV,Ae (by rw[q1];exact Fz)]):P:=h
theorem Wv(h:P:=by exact show a=0∨a=1∨a=2∨a=3∨a=4∨a=5∨a=6∨a=7∨a=8∨a=9∨a=10∨a=11∨a=12∨a=13∨a=14∨a=15 by omega):P:=h
theorem Zb(h:P:=by exact show Fr Aj w (w.alloc (.cells (pgA p ⟨C,cc,D,cd,R,cr⟩) 218)) from (Ak _ w).alloc _):P:=h
theorem cZ(h:P:=by exact show ∀k,ab X'=I k∨ab Y'=I k→w.heap.size≤k∧k<w'.heap.size from λk hk=>qZ):P:=h
theorem Xi(h:P:=by exact show Hid (a+1=(kept p (b+1)).length) from T (by rw[e1,Ck,HA.out];rfl)):P:=h
theorem Yy(h:P:=by exact show ∀q,(q=p.gm∨q=p.gw∨Em.ab p.A=I q)→ ¬(q=w.heap.size) from λq hq e=>r9):P:=h
theorem Pf(h:P:=by exact show w.one0 ⟨38,n⟩ next=(w.add 0 0 0 next).pushR w.code.length by simp[Lw.one0]):P:=h
theorem Y8(h:P:=by
 exact show Cx g.b.ms p=I (i,b.length) by
  unfold Cx;rw[An p1];exact hdec):P:=h
theorem ZS(h:P:=by exact show wo.cell? ⟨gs,0,G⟩=I (Z (I ⟨gR,0,G⟩) N N) from hSc.out.b.cell 0):P:=h
theorem fO(h:P:=by exact show IntKind.u32.wrap ((len9:Int)+2)=(len9:Int)+2 by rw[EH];omega):P:=h
theorem gO(h:P:=by exact show ∀q,w.heap.size≤q→ ¬e.own ge q from λq hq r=>by have:=H.out.own_lt q r;omega):P:=h
theorem iE(h:P:=by exact show Rk (doR s' ⟨op,n⟩ g').s from do_rk hk' M2.bok M2.ok ⟨op,n⟩ ⟨n0,n1⟩ HUX.out.1.ch):P:=h
theorem Y5(h:P:=by exact show Fr Aj w5 W6 from ((Ak Aj w5).alloc _).trans F6.out (λk hk e=>O)):P:=h
theorem ZX(h:P:=by exact show ∀q,(Z A' m c').ownBlock=I q→W6.heap.size≤q from Cr hO.out):P:=h
theorem cV(h:P:=by
 exact show bs.length≤64 -(p%64).toNat by
  have:=hpre.length_le;rwa[On] at this):P:=h
theorem iK(h:P:=by exact show Hid (Cg s p (p/64) g k=⟨s',g'⟩) from T (by rw[hR.out.1,Nat.sub_self];rfl)):P:=h
theorem iO(h:P:=by exact show Hid (r.on=Ag→okR r.s r.p (r.p/64) r.g 8) from T (by rw[←hr];exact hok.2)):P:=h
theorem bL(h:P:=by exact show s.set b={s.unlink b.k with bl:=s.bl.set i b} by unfold Cs.set;rw[hto]):P:=h
theorem fK(h:P:=by exact show len9≤70000 by rw[←hlen9];have:=E9.out.len.1;dsimp only at this⊢;omega):P:=h
theorem Tt(h:P:=by exact show Dv o (yielded ops a.tmps)=Ag by simp[Dv,hgd]):P:=h
theorem Vv(h:P:=by exact show cs.toList[i]?=I (f i) by rw[Fc];exact hat i hi):P:=h
theorem WM(h:P:=by exact show (((Bj mk L bs).toArray[j]?).map (·.key)).getD (mk x)=mk x from rD):P:=h
theorem dL(h:P:=by exact show AG 1 St.new (mc0 1 awakeL [])=⟨{St.new with pc:=11,ct:=3},g1⟩ from e1.1):P:=h
theorem OO(h:P:=by exact show Dv o (yielded ops ac.tmps)=Ag by simp[Dv,hg]):P:=h
theorem NU(h:P:=by exact show Dv o (yielded ops a.tmps)=Ag by simp[Dv,hg]):P:=h
theorem aP(h:P:=by exact show bs.getD j 0∈seen.push bs[j] by simp[AU,hjb]):P:=h
theorem Zq(h:P:=by exact show w.cell? ⟨p.g,15,G⟩=I (J U x.nd) from h.b.cell 15 O):P:=h
theorem Zx(h:P:=by exact show w.cell? ⟨p.g,19,G⟩=I (J U x.nr) from h.b.cell 19 O):P:=h
theorem eA(h:P:=by exact show Hid (w.heap.size≤W.heap.size∧w.heap.size≠W.heap.size) from T HWl0.out):P:=h
theorem iZ(h:P:=by exact show IntKind.u64.wrap (s'.ct -s.ct)=D by rw[hD,Gj];omega):P:=h
theorem kK(h:P:=by exact show m≤2000 by rw[←hm,hl];exact Bg HP.out.1.k.ld (by omega)):P:=h
theorem Vd(h:P:=by exact show frB t ((i/64:Nat):Int)=Ac by simp only[Nw t hlt,hx];rfl):P:=h
theorem Vf(h:P:=by exact show frB t ((i/64:Nat):Int)=Ag by rw[Nw t hlt];simpa using hx):P:=h
theorem YG(h:P:=by exact show op=16∨op=17∨op=18∨op=19∨op=20∨op=21∨op=22∨op=23∨op=25 by omega):P:=h
theorem eZ(h:P:=by exact show IntKind.u32.wrap (k:Int)=(k:Int) by rw[EH];omega):P:=h
theorem iI(h:P:=by exact show Hid (Fr Aj w3 W4) from T (fw.trans HF4.out (λk hk e=>O))):P:=h
theorem iQ(h:P:=by exact show Hid (Fr Aj w1 W2) from T (f9.trans HF2.out (λk hk e=>O))):P:=h
theorem Xj(h:P:=by exact show ∀W,Fr (· =g) w2 W→Bz (b+1) W from λW f=>HST.out _ _ _ HI2.out f):P:=h
theorem YO(h:P:=by exact show IntKind.u32.wrap (64+pl.slot n)=EN pl n from EH _):P:=h
theorem RG(h:P:=by exact show m≤2000 by rw[←hm];exact Bg HP.out.1.k.ld (by omega)):P:=h
theorem jA(h:P:=by exact show 0<n→IntKind.u64.wrap n=n from λh=>Mr):P:=h
theorem TI(h:P:=by exact show w.one0 ⟨39,n⟩ next={w.popR with tg:=w.topR} by simp[Lw.one0]):P:=h
theorem TL(h:P:=by exact show w.one0 ⟨40,n⟩ next={w.popD with tg:=w.topD} by simp[Lw.one0]):P:=h
theorem Wo(h:P:=by exact show IntKind.u32.wrap (a -b)=(a -b)%4294967296 from EH _):P:=h
theorem YS(h:P:=by exact show Cv high need out=16+(need:Int) -out by unfold Cv;omega):P:=h
theorem jN(h:P:=by exact show wrap64 (IntKind.u64.wrap (s2.ct -s.ct))=s2.ct -s.ct from r8):P:=h
theorem OW(h:P:=by exact show news=[] from List.eq_nil_of_length_eq_zero (by simpa using hr.1)):P:=h
theorem aL(h:P:=by exact show size≤n by have:=hP.out.pn.le;rw[H.out.1] at this;exact this):P:=h
theorem iU(h:P:=by exact show w3.cell? ⟨↑w,14,G⟩=I (J AQ s.ct) from B63.out.cell 14):P:=h
theorem iW(h:P:=by exact show wr.cell? ⟨↑w,14,G⟩=I (J AQ s'.ct) from hB.out.cell 14):P:=h
theorem Wj(h:P:=by exact show IntKind.u32.wrap (a+b)=(a+b)%4294967296 from EH _):P:=h
theorem OL(h:P:=by exact show Fr Aj wc (wc.alloc (.cells zB 149)) from (Ak _ wc).alloc _):P:=h
theorem OM(h:P:=by exact show Fr Aj wc (wc.alloc (.cells zR 158)) from (Ak _ wc).alloc _):P:=h
theorem iG(h:P:=by exact show Fr Aj w3 (w3.alloc (.cells z19 206)) from (Ak _ _).alloc _):P:=h
theorem SZ(h:P:=by exact show IntKind.u32.wrap (sz:Int)=sz by rw[EH];omega):P:=h
theorem iP(h:P:=by exact show Fr Aj w1 (w1.alloc (.cells z18 163)) from (Ak _ _).alloc _):P:=h
theorem iS(h:P:=by exact show W2.cell? ⟨gB,16,G⟩=I (J V r.p) from HB9.out.cell 16):P:=h
theorem UH(h:P:=by exact show Fr (λk=>k=g) w w1 from ((Ak _ w).drew).tr (Fr.none f5)):P:=h
theorem YN(h:P:=by exact show 0≤pl.slot n∧pl.slot n≤64 by rcases hform with e|e<;>omega):P:=h
theorem cP(h:P:=by exact show (w.alloc (.cells z16 39)).heap.size=w.heap.size+1 by simp):P:=h
theorem Rx(h:P:=by exact show w.cell? ⟨p.g,14,G⟩=I (Q 14) from h.b.cell 14 O):P:=h
theorem YL(h:P:=by exact show w.cell? ⟨p.g,15,G⟩=I (Q 15) from h.b.cell 15 O):P:=h
theorem YU(h:P:=by exact show Cv high need out=16 -(high:Int) by unfold Cv;omega):P:=h
theorem ZM(h:P:=by exact show IntKind.u64.wrap (y:Int)=y by rw[Gj];omega):P:=h
theorem Y4(h:P:=by exact show Blk (w5.alloc (.cells z16 39)) ↑w5 39 z16 from AI _ _ _):P:=h
theorem aT(h:P:=by exact show E.getD j dE=E[j] by simp[AU,hj]):P:=h
theorem cW(h:P:=by exact show 0<bs.length from EL.2 (h.enc.nonempty h.ne)):P:=h
theorem iR(h:P:=by exact show W2.cell? ⟨gB,17,G⟩=I (Ao r.on) from HB9.out.cell 17):P:=h
theorem iX(h:P:=by exact show wr.cell? ⟨↑w,15,G⟩=I (Ao s'.ha) from hB.out.cell 15):P:=h
theorem US(h:P:=by exact show Tab w1 a t from Tab.fr (Tab.drew h) f1 (λk hk=>hne k hk)):P:=h
theorem WP(h:P:=by exact show del L x=L.eraseIdx j by rw[←h1];exact del_at h.kd j hj):P:=h
theorem Rd(h:P:=by exact show w2.drew.cell? ⟨gt,1,G⟩=I (J U (rd:Int)) from x1):P:=h
theorem YY(h:P:=by exact show IntKind.u64.wrap imm=imm by rw[Gj];omega):P:=h
theorem eE(h:P:=by exact show ¬Am.own ⟨ad,w2.heap.size⟩ W.heap.size from λr=>r6):P:=h
theorem Vu(h:P:=by exact show i<cs.toList.length by simpa using(by omega:i<cs.size)):P:=h
theorem Rv(h:P:=by exact show base≤↑w from Nat.le_of_lt (Nat.lt_of_le_of_lt h.g0 h.b.lt)):P:=h
theorem dQ(h:P:=by exact show decide (((n1+63)/64:Nat)>(n:Int))=Ac by simp;omega):P:=h
theorem dV(h:P:=by exact show W0.cell? ⟨↑W,0,G⟩=I (Z A1 n1 c1) from b6.cell 0):P:=h
theorem dX(h:P:=by exact show W0.cell? ⟨↑W,1,G⟩=I (Z A2 n2 c2) from b6.cell 1):P:=h
theorem jL(h:P:=by exact show w.cell? ⟨gg,20,G⟩=I (J AQ s.ct) from hb.cell 20):P:=h
theorem PX(h:P:=by exact show doD d m s at_ c=d by rw[doD,Ae (by rw[hb];simp)]):P:=h
theorem PY(h:P:=by exact show doM d m s at_ c=m by rw[doM,Ae (by rw[hb];simp)]):P:=h
theorem YX(h:P:=by exact show IntKind.i64.wrap imm=imm from GD _ O):P:=h
theorem NM(h:P:=by exact show decide (s.d.length<Gs.takeD 66)=Ac by simp;omega):P:=h
theorem Qu(h:P:=by exact show decide (s.r.length<Gs.takeR 66)=Ac by simp;omega):P:=h
theorem NN(h:P:=by exact show decide (s.d.length<Gs.takeD 67)=Ac by simp;omega):P:=h
theorem Q0(h:P:=by exact show decide (s.r.length<Gs.takeR 67)=Ac by simp;omega):P:=h
theorem Ll(h:P:=by exact show W0.cell? ⟨↑w,0,G⟩=I (J U op) from hbx.cell 0):P:=h
theorem ZE(h:P:=by exact show Fr Aj wr W1 by rw[←hW1];exact(Ak _ wr).alloc _):P:=h
theorem fY(h:P:=by exact show Fr Aj w4 wq by rw[←hwq];exact(Ak _ w4).drewN _):P:=h
theorem OI(h:P:=by exact show (Z A2 (sn+1) c2).ownBlock=I q from rC):P:=h
theorem OS(h:P:=by exact show decide (s.d.length<Gs.takeD op)=Ac by simp;omega):P:=h
theorem Ti(h:P:=by exact show decide (s.r.length<Gs.takeR op)=Ac by simp;omega):P:=h
theorem Vn(h:P:=by exact show decide (va<(u.m.n:Int)*64)=Ac by simpa using hp):P:=h
theorem Vt(h:P:=by exact show (zs.map (J k)).length=n by simpa using hlz):P:=h
theorem Y9(h:P:=by exact show (AY s i).pc=s.pc+b.length by rw[hpi,←n3];omega):P:=h
theorem Lm(h:P:=by exact show W0.cell? ⟨↑w,1,G⟩=I (J V n) from hbx.cell 1):P:=h
theorem jC(h:P:=by exact show Hid (goB s.ct n s'=bb) from T (by rw[HGB.out,hbb.out])):P:=h
theorem Ro(h:P:=by exact show (p+(b.length:Int))%4294967296=p+b.length by omega):P:=h
theorem dY(h:P:=by exact show W0.cell? ⟨↑W,2,G⟩=I (J U n) from b6.cell 2):P:=h
theorem OZ(h:P:=by exact show decide ((s.d.length:Int)≤16)=Ag by simp;omega):P:=h
theorem T7(h:P:=by exact show decide ((s.r.length:Int)≤16)=Ag by simp;omega):P:=h
theorem PR(h:P:=by exact show w.cell? ⟨a.gm,1,G⟩=I ↑a.a.gt from rE):P:=h
theorem QF(h:P:=by exact show decide ((q:Int)<(n:Int))=Ag by simp;omega):P:=h
theorem Nd(h:P:=by exact show tmps[q]?.getD BY=↑g' by simpa using hq):P:=h
theorem PF(h:P:=by exact show s.promise o n=s by simp[Pl.promise,e1]):P:=h
theorem PZ(h:P:=by exact show ↑w=k by simpa[BZ] using hk):P:=h
theorem Qa(h:P:=by exact show g1=k by simpa[BZ] using hk):P:=h
theorem Su(h:P:=by exact show g'=k by simpa[BZ] using hk):P:=h
theorem NH(h:P:=by exact show q=Ac by rw[←hq];simp[Cc];omega):P:=h
theorem Li(h:P:=by exact show w.heap.size≤w.heap.size from AC _):P:=h
theorem PG(h:P:=by exact show decide (n<0)=Ac by simpa using hn):P:=h
theorem Qm(h:P:=by exact show q=Ac by rw[←hq];simp[endsB];omega):P:=h
theorem Qr(h:P:=by exact show q=Ag by rw[←hq];simp[Cc];omega):P:=h
theorem QV(h:P:=by exact show decide (n≥0)=Ag by simpa using h0):P:=h
theorem NF(h:P:=by exact show decide (op≤40)=Ac by simp;omega):P:=h
theorem RK(h:P:=by exact show decide ((q:Int)= -1)=Ac by simp):P:=h
theorem NI(h:P:=by exact show decide (op≤8)=Ac by simp;omega):P:=h
theorem Sd(h:P:=by exact show ((n:Int)==0)=Ac by simp;omega):P:=h
theorem Re(h:P:=by exact show 4096 -k=(4096 -k -1)+1 by omega):P:=h
theorem Lj(h:P:=by exact show w.heap.size<W0.heap.size from hbx.lt):P:=h
theorem Si(h:P:=by exact show (idx b.k s.bl).toNat=i by omega):P:=h
theorem Pi(h:P:=by exact show s=c by simpa[CH] using h):P:=h
theorem Q9(h:P:=by exact show j<L.length by simpa using hj):P:=h
theorem RJ(h:P:=by exact show ((q:Int)== -1)=Ac by simp):P:=h
theorem QG(h:P:=by exact show (0:Int)≤(q:Int) by omega):P:=h
theorem Lq(h:P:=by exact show base≤↑W0 from HP.out.1.hb):P:=h
theorem O(h:P:=by omega):P:=h
theorem Cq(h:P:=by intro W hSw;have k0:=hSw.cell s0 lgs id;have k1:=hSw.cell s3 lgs id;have k2:=hSw.cell rj lgR id;have k3:=hSw.cell mq lgi id;have k4:=hSw.cell e0 lo id;have k5:=hSw.cell e1 lo id;have k6:=hSw.cell e2 lo id;have k7:=hSw.cell d0 l12 id;have k8:=hSw.cell d1 l12 id;have k9:=hSw.cell d2 l12 id;go_simp;try with_reducible rfl):P:=h
theorem Ds(h:P:=by intro W hSw;have k0:=hSw.cell s0 hsl2 id;have k1:=hSw.cell j0 hil id;have k2:=hSw.cell j1 hil id;have k3:=hSw.cell j2 hil id;have k4:=hSw.cell n0 hil id;have k5:=hSw.cell n1 hil id;have k6:=hSw.cell n2 hil id;go_simp;try with_reducible rfl):P:=h
theorem CZ(h:P:=by intro W hSw;have k15:=hSw.cell c15w cgl hne3;have k16:=hSw.cell c16w cgl hne3;have k19:=hSw.cell c19w cgl hne3;have k20:=hSw.cell c20w cgl hne3;have kl:=Bh cgl hSw.size;go_simp;try with_reducible rfl):P:=h
theorem EX(h:P:=by intro W hSw;have k0:=hSw.cell s0 lgs id;have k1:=hSw.cell s3 lgs id;have k2:=hSw.cell rj lgR id;have k3:=hSw.cell mq lgi id;have k4:=hSw.cell e0 lo id;have k5:=hSw.cell e1 lo id;have k6:=hSw.cell e2 lo id;have k7:=hSw.cell d0 l12 id;have k8:=hSw.cell d1 l12 id;have k9:=hSw.cell d2 l12 id;go_simp):P:=h
theorem GK(h:P:=by intro W hSw;have p0:=hSw.cell s0 k0 id;have p1:=hSw.cell s1 k1 id;have p2:=hSw.cell s2 k2 id;have p3:=hSw.cell s3 k2 id;have q0:=Bh k0 hSw.size;have q1:=Bh k1 hSw.size;have q2:=Bh k2 hSw.size;go_simp;try with_reducible rfl):P:=h
theorem De(h:P:=by intro W hSw;have r0:=hSw.cell k0 kl nk;have r1:=hSw.cell k1 kl nk;have q0:=Bh kl hSw.size;go_simp;try with_reducible rfl):P:=h
theorem Ap(h:P:=by decide):P:=h
theorem FK(h:P:=by intro W hSw;have k0:=hSw.cell t7 htl7 (λe=>hgbx e);have k1:=hSw.cell pa hpl7 (λe=>hgpx e);have k2:=hSw.cell pb hpl7 (λe=>hgpx e);have kl:=Bh zl hSw.size;go_simp;try with_reducible rfl):P:=h
theorem AA(h:P:=by simp;omega):P:=h
theorem GM(h:P:=by intro W hSw;have p0:=hSw.cell s0 sl id;have p2:=hSw.cell k0 kl id;have p3:=hSw.cell k1 kl id;have q0:=Bh sl hSw.size;have q1:=Bh kl hSw.size;go_simp;try with_reducible rfl):P:=h
theorem LC(h:P:=by intro W hSw;have p0:=hSw.cell s1 sl n0;have p2:=hSw.cell u0 ul n4;have p3:=hSw.cell u1 ul n4;have p4:=hSw.cell v0 vl n13;have p5:=hSw.cell v1 vl n13;have q0:=Bh sl hSw.size;have q1:=Bh ul hSw.size;have q2:=Bh vl hSw.size;go_simp;try with_reducible rfl):P:=h
theorem GI(h:P:=by intro W hSw;have k14:=hSw.cell d14 dgl hne3;have k18:=hSw.cell d18 dgl hne3;have kl:=Bh dgl hSw.size;go_simp;try with_reducible rfl):P:=h
theorem Ik(h:P:=by intro W hSw;have r16:=hSw.2.1.cell 16;have q16:=hSw.2.1.lt;have r0:=hSw.2.2.cell 0;have r1:=hSw.2.2.cell 1;have q0:=hSw.2.2.lt;go_simp;try with_reducible rfl):P:=h
theorem Kl(h:P:=by intro W hSw;have k13:W.cell? ⟨↑w,13,G⟩=I (J U N):=((B1.out.fr hSw id).cell 13).trans RW;have kl:=(B1.out.fr hSw id).lt;go_simp;try with_reducible rfl):P:=h
theorem I9(h:P:=by intro W hSw;have p0:=hSw.cell s0 sl id;have p1:=hSw.cell s1 sl id;have hl:=HLm.out W hSw;have q0:=Bh sl hSw.size;go_simp;try with_reducible rfl):P:=h
theorem AL(h:P:=by kernel_rfl):P:=h
theorem FI(h:P:=by intro W hSw;have k0:=hSw.cell c0 hl0 hn3;have k1:=hSw.cell c1 hl0 hn3;go_simp;try with_reducible rfl):P:=h
theorem AB(h:P:=by simp):P:=h
theorem MV(h:P:=by intro W hSw;have p0:=hSw.cell s0 sl n0;have p2:=hSw.cell x0 xl n9;have p3:=hSw.cell x1 xl n9;have p4:=hSw.cell x2 xl n9;have p5:=hSw.cell x3 xl n9;have q0:=Bh sl hSw.size;have q1:=Bh xl hSw.size;go_simp;try with_reducible rfl):P:=h
theorem BI(h:P:=by simp[Act.eval,Act.put]):P:=h
theorem J7(h:P:=by intro W hSw;have r0:=hSw.r.cell 0;have r1:=hSw.r.cell 1;have r2:=hSw.x.cell 3;have q0:=hSw.r.lt;have q1:=hSw.x.lt;go_simp;try with_reducible rfl):P:=h
theorem CY(h:P:=by intro W hSw;go_simp;try with_reducible rfl):P:=h
theorem Cb(h:P:=by simp only[Ce];omega):P:=h
theorem MU(h:P:=by intro W hSw;have p0:=hSw.cell t0 tl id;have p2:=hSw.cell u0 ul id;have p3:=hSw.cell u1 ul id;have q0:=Bh tl hSw.size;have q1:=Bh ul hSw.size;go_simp;try with_reducible rfl):P:=h
theorem Do(h:P:=by intro w;go_simp;try with_reducible rfl):P:=h
theorem GN(h:P:=by intro X hSw;obtain⟨r0,r1,r2,q0⟩:=hSw;go_simp;try with_reducible rfl):P:=h
theorem Ja(h:P:=by intro W hSw;obtain⟨⟨r0,r2,r3,rl⟩,p0,p1,pl⟩:=hSw;go_simp;try with_reducible rfl):P:=h
theorem Cp(h:P:=by rw[own_ab hk,e]):P:=h
theorem Ls(h:P:=by rw[AU,BM hkl];exact CI hkl):P:=h
theorem Bo(h:P:=by go_num):P:=h
theorem EJ(h:P:=by rw[EH];omega):P:=h
theorem IU(h:P:=by rintro⟨h0,h1⟩;have:=HA.out _ h0 h1;omega):P:=h
theorem Ee(h:P:=by simp[Io]):P:=h
theorem rF(h:P:=by first|decide|(dsimp only;decide)):P:=h
theorem IW(h:P:=by show ¬w.heap.size+1=w.heap.size;omega):P:=h
theorem Dk(h:P:=by simpa using h1):P:=h
theorem Ov(h:P:=by rw[AU,BM hjl];exact CI hjl):P:=h
theorem DC(h:P:=by simpa using h):P:=h
theorem DP(h:P:=by simp only;omega):P:=h
theorem O3(h:P:=by obtain⟨a1,a2,a3,a4,a5,a6,a7⟩:=HP.out.1.k;exact⟨a1,a2,a3,a4,a5,a6,a7⟩):P:=h
theorem Oz(h:P:=by obtain⟨a1,a2,a3,a4,a5,a6,a7⟩:=hk;constructor<;>(try dsimp only)<;>omega):P:=h
theorem SX(h:P:=by intro W hSw;exact Al.take_ld (ldB hSw.s AR rfl AJ) rfl BI):P:=h
theorem bP(h:P:=by rcases DL g ↑w with h|h;exact h;rw[show w.cell? ⟨g,off+q*2+1,G⟩=G by simp[World.cell?,Array.getElem?_eq_none h]] at c1;cases c1):P:=h
theorem bO(h:P:=by rcases DL g ↑w with h|h;exact h;rw[show w.cell? ⟨g,off+q*2,G⟩=G by simp[World.cell?,Array.getElem?_eq_none h]] at c0;cases c0):P:=h
theorem OU(h:P:=by simpa[Lit.wf,IntKind.min,IntKind.max,IntKind.signed,IntKind.bits] using⟨h0,h1⟩):P:=h
theorem bY(h:P:=by rw[e] at hq;rw[HlA.out] at hq;have:=H5.out.srt.2.1;have h2:=hlr5.srt (by rw[HlA.out];exact hq);rw[this] at h2;simp at h2):P:=h
theorem Dy(h:P:=by simp at q):P:=h
theorem My(h:P:=by simp[lowC,Fw,IH,Is,GX,Jg,Fv]):P:=h
theorem Jl(h:P:=by simp[BZ] at hk):P:=h
theorem KA(h:P:=by simp[AY,C7,stackS,St.next]):P:=h
theorem VF(h:P:=by show 0≤(s.ct+1)%18446744073709551616∧(s.ct+1)%18446744073709551616≤18446744073709551615;omega):P:=h
theorem MH(h:P:=by first|exact lastB hH|exact lastBd hH):P:=h
theorem JX(h:P:=by rcases e with e|e<;>omega):P:=h
theorem kM(h:P:=by have:=Eb H1.out.d (.cells (fxV [v]).toArray 3);dsimp only at this;rwa[HM.out] at this):P:=h
theorem MI(h:P:=by have:=HGU.out;show ¬↑w=gu;omega):P:=h
theorem Iw(h:P:=by simp[Bv,Db]):P:=h
theorem Iz(h:P:=by show 0<16;omega):P:=h
theorem rG(h:P:=by with_unfolding_all rfl):P:=h
theorem Fq(h:P:=by rw[e];simp):P:=h
theorem QA(h:P:=by rw[e];exact List.mem_map_of_mem (CI hj')):P:=h
theorem Px(h:P:=by rw[k3' a O O O];exact hx2):P:=h
theorem Py(h:P:=by rw[k3' 9 O O O];exact v9'):P:=h
theorem Mi(h:P:=by show(0:Int)≤4294967295;omega):P:=h
theorem Qy(h:P:=by unfold Dl;rw[Ae O,Ae O]):P:=h
theorem Qw(h:P:=by unfold Dl;rw[Ae O,An (Af q3)]):P:=h
theorem Qx(h:P:=by unfold Dl;rw[Ae O,An (Ah q4)]):P:=h
theorem MK(h:P:=by have e:q=w.heap.size:=e;omega):P:=h
theorem Uh(h:P:=by simp only[Lw.add,Ck,DD,Fs];omega):P:=h
theorem Tp(h:P:=by simpa[Lit.wf,IntKind.min,IntKind.max,IntKind.signed,IntKind.bits] using h):P:=h
theorem Zv(h:P:=by unfold fxV;rw[List.dropLast_eq_take,List.map_take,hn,Nat.add_sub_cancel]):P:=h
theorem JU(h:P:=by have:=HA.out;omega):P:=h
theorem Mr(h:P:=by rw[Gj];omega):P:=h
theorem ON(h:P:=by first|exact bqd|exact bqd.alloc _):P:=h
theorem KS(h:P:=by show(0:Int)≤0;omega):P:=h
theorem bH(h:P:=by simp only[GA,List.length_range];rw[Nat.succ_mul];omega):P:=h
theorem FG(h:P:=by rfl):P:=h
theorem eG(h:P:=by have:=By.IntsAt.lt_ HI.out.1 b' off e hn;have:=hF.2.1 b' ho;omega):P:=h
theorem Lu(h:P:=by have e:q=gp:=e;omega):P:=h
theorem Ly(h:P:=by have:=hk.2.2.1;omega):P:=h
theorem FV(h:P:=by simp[hj]):P:=h
theorem MC(h:P:=by simp[Gy,KB,HRD.out]):P:=h
theorem U0(h:P:=by unfold putR;rw[Ae (by rintro⟨h1,h2⟩;simp at h2;omega)]):P:=h
theorem aE(h:P:=by rw[HZ.out];unfold CN;rw[Ae O,DE]):P:=h
theorem Jy(h:P:=by simp[Cs.flush]):P:=h
theorem IE(h:P:=by simp[Lw.new]):P:=h
theorem KG(h:P:=by simp[World.setCell]):P:=h
theorem Yp(h:P:=by unfold hoV;rw[Ae h16,Ae h17,Ae h18,Ae h19,hs]):P:=h
theorem IX(h:P:=by simp[Cs.new]):P:=h
theorem NV(h:P:=by rcases hw1 with rfl|rfl<;>rfl):P:=h
theorem Zo(h:P:=by show I (Z p.C x.code.length p.cc)=_;rw[HM.out]):P:=h
theorem RW(h:P:=by show I (J U (p.code.length:Int))=_;rw[HN.out]):P:=h
theorem Je(h:P:=by simp[Lw.one0]):P:=h
theorem VR(h:P:=by first|(show p.g≠↑w;omega)|(show p.g≠↑w2;exact hs3)):P:=h
theorem RH(h:P:=by rw[←hm];exact Eb HP.out.1.d _):P:=h
theorem Lx(h:P:=by have:=hk.2.1;omega):P:=h
theorem Tg(h:P:=by rw[show ct+1+1=ct+2 by omega];exact j3):P:=h
theorem Ke(h:P:=by rw[own_ab hq,e]):P:=h
theorem Uv(h:P:=by rw[k4 k c2 c3 c4,k3' k c2 c3 c4];exact kk k c1 c2 c3 c4):P:=h
theorem ZB(h:P:=by show I (J U (p.code.length:Int))=_;rw[hN]):P:=h
theorem ZW(h:P:=by show I (Z C p.code.length cc)=_;rw[HN.out]):P:=h
theorem SD(h:P:=by have:=h.g0;have:=h.z.2 0 h.z.1;omega):P:=h
theorem JJ(h:P:=by simpa using h0):P:=h
theorem JT(h:P:=by simpa using hc):P:=h
theorem Ki(h:P:=by simpa using hr):P:=h
theorem O0(h:P:=by rw[IntKind.wrap_i64];omega):P:=h
theorem RM(h:P:=by have:=HGV.out;show ¬↑w1<gv;omega):P:=h
theorem MF(h:P:=by rw[HN.out];exact hlt):P:=h
theorem Uu(h:P:=by rw[k3' b O O O];exact hy2):P:=h
theorem Q3(h:P:=by have:=HK.out.1;simp[Gm.pop1];omega):P:=h
theorem IL(h:P:=by simp[Db]):P:=h
theorem iF(h:P:=by have:=HUX.out.2 (by rw[hr];exact h);rwa[hr] at this):P:=h
theorem kQ(h:P:=by show I (Z C p.code.length cc)=_;rw[hN]):P:=h
theorem QM(h:P:=by simp only[DD];omega):P:=h
theorem Ur(h:P:=by simp only[upZ,Gz,if_false];exact v2'):P:=h
theorem ZH(h:P:=by rintro k hk ⟨h0,h1⟩;have:=HA.out _ h0 h1;omega):P:=h
theorem Ui(h:P:=by simp only[DD,Fs];omega):P:=h
theorem Qs(h:P:=by unfold Dl;rw[An (Af q1)]):P:=h
theorem Qt(h:P:=by unfold Dl;rw[An (Ah q2)]):P:=h
theorem Sa(h:P:=by have:=hz.1;simpa using this.symm):P:=h
theorem ZP(h:P:=by first|exact q0|exact q0.alloc _|exact addBd q0 _):P:=h
theorem MJ(h:P:=by show ¬gb=gp;omega):P:=h
theorem JA(h:P:=by simp[Ce]):P:=h
theorem JF(h:P:=by simp[Lw.add]):P:=h
theorem Xd(h:P:=by rw[BS];exact h.cell q 0 hq O):P:=h
theorem Xe(h:P:=by rw[BS];exact h.cell q 1 hq O):P:=h
theorem cO(h:P:=by rw[h.cell];exact gtc_mid gp a A ge s X Y j v hv):P:=h
theorem Kq(h:P:=by simp[Eo.new]):P:=h
theorem Ni(h:P:=by show _≤max _ _;omega):P:=h
theorem KL(h:P:=by simpa using hm):P:=h
theorem KV(h:P:=by simpa using hq):P:=h
theorem bN(h:P:=by have:=hcx.srt hq;rw[e,tg] at this;simp at this):P:=h
theorem MO(h:P:=by simpa[ab] using e):P:=h
theorem MQ(h:P:=by rw[←e2];exact e):P:=h
theorem bM(h:P:=by have:=hr.srt hq;rw[e,tg] at this;simp at this):P:=h
theorem iV(h:P:=by show((2000:Nat):Int)=2000 -(s.ct -s.ct);omega):P:=h
theorem jP(h:P:=by rw[h.cell];exact gtc0_mid gp a A s X Y j v hv):P:=h
theorem KI(h:P:=by simpa using e):P:=h
theorem Qq(h:P:=by rw[←hq];simp[Gn];omega):P:=h
theorem Xk(h:P:=by have:=FB.out.size;simp[World.setCell];omega):P:=h
theorem Xw(h:P:=by rw[Jt hil];exact CI hil):P:=h
theorem O6(h:P:=by show ¬gb=↑w;omega):P:=h
theorem OQ(h:P:=by have e:k=gb:=e;omega):P:=h
theorem XD(h:P:=by rw[k1 15 O O];exact E.z):P:=h
theorem KC(h:P:=by split<;>simp):P:=h
theorem Lv(h:P:=by rw[AJ];rfl):P:=h
theorem OJ(h:P:=by have:=HN9.out;omega):P:=h
theorem Sh(h:P:=by have:=hlow _ hE _ e;omega):P:=h
theorem LZ(h:P:=by simpa using hp):P:=h
theorem Md(h:P:=by simpa using hb):P:=h
theorem Mf(h:P:=by simpa using hi):P:=h
theorem Mw(h:P:=by simpa using h2):P:=h
theorem O8(h:P:=by have:=HG.out;omega):P:=h
theorem aM(h:P:=by show ¬w.heap.size=w.heap.size+1;omega):P:=h
theorem WL(h:P:=by rw[←e];exact List.mem_map_of_mem hq):P:=h
theorem Xg(h:P:=by obtain⟨F,h1,h2,h3⟩:=hrow;exact h2):P:=h
theorem Ra(h:P:=by rw[toList_madeCells_one]):P:=h
theorem Rh(h:P:=by rw[Gj];rfl):P:=h
theorem Rj(h:P:=by simp[stc,Io]):P:=h
theorem ZD(h:P:=by show ¬w1.heap.size<w.heap.size;omega):P:=h
theorem cG(h:P:=by have:=h.fl;have:=k.fl;push_cast;omega):P:=h
theorem JW(h:P:=by rw[e];rfl):P:=h
theorem Nc(h:P:=by rw[hi,←hn];simp):P:=h
theorem N5(h:P:=by simp[AM];omega):P:=h
theorem VK(h:P:=by have:=EL.2 hd;omega):P:=h
theorem NY(h:P:=by have:=hw.tg;omega):P:=h
theorem ZV(h:P:=by have:=HGU.out;show ¬↑w+1=gu;omega):P:=h
theorem OR(h:P:=by dsimp only;decide):P:=h
theorem QY(h:P:=by have:=hF.out.size;omega):P:=h
theorem UI(h:P:=by rw[List.eq_of_mem_replicate hv];rfl):P:=h
theorem YP(h:P:=by simp[GX,Jg,C8]):P:=h
theorem cD(h:P:=by rw[←show k=e.gm from e2];exact hk):P:=h
theorem jI(h:P:=by rw[show k=gg from hk];exact q1 _ p3):P:=h
theorem Uf(h:P:=by rw[e] at hm⊢;simp at hm;simp[hm]):P:=h
theorem Ns(h:P:=by simp[Pl.take,e0]):P:=h
theorem VZ(h:P:=by intro e;subst e;simp[Gn] at hS):P:=h
theorem QS(h:P:=by unfold Cv at*;omega):P:=h
theorem OH(h:P:=by rw[HZ.out];omega):P:=h
theorem iJ(h:P:=by rw[HRR.out.1];exact An trivial):P:=h
theorem TJ(h:P:=by simp[AY,C7,reckS,St.next]):P:=h
theorem Me(h:P:=by rw[hl];omega):P:=h
theorem Zu(h:P:=by rw[v1];have:=own_ab hk;rw[this,e]):P:=h
theorem Tj(h:P:=by show(1:Nat)≤3;omega):P:=h
theorem Zw(h:P:=by (have:=this.lr;dsimp only;omega)):P:=h
theorem Zy(h:P:=by (have:=this.ld;dsimp only;omega)):P:=h
theorem O9(h:P:=by simpa using hb3):P:=h
theorem aV(h:P:=by show g<↑w6;have:=f6.size;omega):P:=h
theorem cM(h:P:=by rw[Rn.own_ab hk,show k=q from r]):P:=h
theorem cY(h:P:=by rw[HN.out,key _ _ _ _ _ rfl];rfl):P:=h
theorem YJ(h:P:=by unfold BJ;rw[An hr];omega):P:=h
theorem RX(h:P:=by show ¬gp=↑w;omega):P:=h
theorem aN(h:P:=by have e:q=w.heap.size+1:=e;omega):P:=h
theorem LP(h:P:=by rw[e];omega):P:=h
theorem Nr(h:P:=by simp[EQ,e0]):P:=h
theorem Vq(h:P:=by simp[show i<l.length by omega]):P:=h
theorem NS(h:P:=by simpa using hh):P:=h
theorem Oh(h:P:=by simp[hc];omega):P:=h
theorem Yk(h:P:=by rw[HM.out];exact AC _):P:=h
theorem Ol(h:P:=by simpa using hz):P:=h
theorem Ow(h:P:=by simpa using e2):P:=h
theorem Zs(h:P:=by rw[List.length_dropLast];omega):P:=h
theorem ZF(h:P:=by rw[←hW1];exact AI _ _ _):P:=h
theorem gE(h:P:=by show ab G≠I q;simp[ab]):P:=h
theorem Sz(h:P:=by have:=hx k hk;omega):P:=h
theorem S6(h:P:=by simp[Eo.new,Cs.new]):P:=h
theorem Pe(h:P:=by simp[C7];omega):P:=h
theorem Pw(h:P:=by simp[upZ,h1,h2,h3]):P:=h
theorem Nz(h:P:=by rw[hz2];omega):P:=h
theorem QR(h:P:=by unfold EN;omega):P:=h
theorem Q6(h:P:=by simp[Ev];omega):P:=h
theorem Ru(h:P:=by show b<↑w;omega):P:=h
theorem Tk(h:P:=by rw[←HM.out];rfl):P:=h
theorem Mn(h:P:=by simp[upZ]):P:=h
theorem KF(h:P:=by cases e):P:=h
theorem Sk(h:P:=by rw[HI.out];omega):P:=h
theorem Sl(h:P:=by rw[HJ.out];omega):P:=h
theorem Tf(h:P:=by rw[h.n];exact p1):P:=h
theorem NX(h:P:=by rw[e1];simp):P:=h
theorem NZ(h:P:=by simp[Dj]):P:=h
theorem PK(h:P:=by simp[Ts.map,e0]):P:=h
theorem QC(h:P:=by simpa using hne):P:=h
theorem Rf(h:P:=by simpa using hkn):P:=h
theorem RZ(h:P:=by simpa using hb1):P:=h
end Go.Proofs.YtdfegdoeebaagaaGreatDoor
