import Derived.Test.YtpmlgdopfafcgaaGreatDoorY2
import Derived.Test.YtpmlgdopfafcgaaGreatDoorChecked
open Go.Value renaming int→J,slice→U,bool→Ap,tuple→AD,ownBlock→Bp,agg→AA,pointer→Bi
open Option renaming some→I,none→G
open Go.IntKind renaming i64→Z,u32→V,u64→AM,u8→AC,wrap_u64→Dk,wrap_u32→DH
open Bool renaming false→Aa,true→Af,false_ne_true→Da,false_and→D7
open Go renaming World→Ac,Value→As,Calls→At,bodyPost_ret→Bf,TypeId→AK,wp_region_held_drew→BY,info_parts→BH,Ending→AT,madeCells→Cb,maxLen→Br,Program→BW,undef→Bt,wpList→BL,bits→Bb,run_underlying→CX
open List renaming getD_eq_getElem?_getD→AN,getElem?_eq_getElem→Bj,length_append→BJ,append_assoc→BM,mem_map→Bo,getElem?_take_of_lt→Cw,replicate→BK,range→Bm,getElem?_append_right→CB,getElem_mem→BU,mem_append→BZ,getElem?_append_left→CO,getElem?_map→C7,cons_append→CC,mem_filter→C8,length_pos_iff→CP,length_cons→CK,mem_cons→Cy,getLastD_eq_getLast?→Dg,nil_append→CI,getElem?_eq_none→De,dropLast_concat→Do,mem_singleton→Dv,map_append→Df,length_map→Di,getElem_of_mem→DD,length_nil→Dp,concat_eq_append→DI,getElem?_range→DL,range_succ→DB,getElem?_replicate→DW,singleton_append→DV,map_cons→D6,map_map→D8,setIfInBounds_toArray→Eb
open Go.Ending renaming returned→Ax
open And renaming intro→A9
open Nat renaming le_refl→AE,lt_of_lt_of_le→AW,le_trans→AS,zero_le→AU,zero_add→Bn,eq_zero_or_pos→Dm,reduceEqDiff→Dq
open Or renaming inl→Ag,inr→Ah
open Go.Proofs.Tryz renaming underlying41→AP,underlying31→CF,underlying22→CV,underlying215→Dl,underlying26→DN
open Go.RowKit renaming intOf→AJ
open Int renaming eq_ofNat_of_zero_le→CM,toNat_natCast→C4,emod_eq_of_lt→CZ
open Go.Builtin renaming zeroCells→CG,delete_→Eh
open Array renaming getElem?_toList→CN,getElem?_eq_some_iff→DX
open Go.Region renaming wanted→CA
open Go.Result renaming andThen→CT
open Option.some renaming inj→Ds
open Go.MapKept renaming run_getObj_map→DJ,run_setObj_map→Ef
open Go.Instr renaming makeSlice→Dj,mapUpdate→DK
open Go.IntWalk renaming i64_in→Du
open Go.Lit renaming int→C9
open Go.Sem renaming run_bind→D5
set_option linter.all false
set_option maxHeartbeats 40000000
set_option maxRecDepth 1000000
open Go Go.RowKit
namespace Go.Proofs.YtpmlgdopfafcgaaGreatDoor
namespace Rn
open Gs Sv Gm Gc
theorem UB(n:Int)(w:Ac)(p:Rp)(x:Rs)(P:AG)(a:Bs.Ab)(A:Mu.Au)(g:Mc)(h:Dn w p x P a A g)(hk:x.s.d.length≤16∧x.s.r.length≤16):At Tryz.prog 120 #[↑p.g,AA #[J Z 0,J V n]] w (DPost w p P a A x g (Ap Af)):=by
 have D0:=T (h.fr0 ((Ao Aj w).alloc (.cells #[J Z 0,J V n] 26)));have L0:=T (Lk.fr0 (p:=p) (P:=P) ((Ao Aj w).alloc (.cells #[J Z 0,J V n] 26)));have HK:=T hk;clear h hk;exact NF
theorem UC(n:Int)(w:Ac)(p:Rp)(x:Rs)(P:AG)(a:Bs.Ab)(A:Mu.Au)(g:Mc)(h:Dn w p x P a A g)(hk:x.s.d.length≤16∧x.s.r.length≤16):At Tryz.prog 120 #[↑p.g,AA #[J Z 1,J V n]] w (DPost w p P a A {x with s:=push1 x.s n} g (Ap Af)):=by
 have D0:=T (h.fr0 ((Ao Aj w).alloc (.cells #[J Z 1,J V n] 26)));have L0:=T (Lk.fr0 (p:=p) (P:=P) ((Ao Aj w).alloc (.cells #[J Z 1,J V n] 26)));have HK:=T hk;clear h hk;go_in;have H0:=T (Jr ((w.alloc (.cells #[J Z 1,J V n] 26)).alloc (.cells #[J V (n)] 24)) _ _ _ _ (D0.out.rn.fr0 ((Ao _ _).alloc _)) (↑w+1) (n) (Cc _ _ _ AB) (by have:=HK.out.1;omega));go_wp2_with fail;refine Ay H0 ?_;intro e w1 hq;obtain⟨rfl,⟨g1,A1,ca1,B1,cb1⟩,P1,L1,D1⟩:=(D0.out.fr0 ((Ao Aj (w.alloc (.cells #[J Z 1,J V n] 26))).alloc (.cells #[J V (n)] 24))).ofR hq;obtain rfl:g1=p.g:=L1.g;have L1:=T ((L0.out.tr (Lk.fr0 ((Ao _ (w.alloc (.cells #[J Z 1,J V n] 26))).alloc _))).tr L1);exact NH
theorem UD(n:Int)(w:Ac)(p:Rp)(x:Rs)(P:AG)(a:Bs.Ab)(A:Mu.Au)(g:Mc)(h:Dn w p x P a A g)(hk:x.s.d.length≤16∧x.s.r.length≤16):At Tryz.prog 120 #[↑p.g,AA #[J Z 2,J V n]] w (DPost w p P a A {x with s:=push1 x.s n} g (Ap Af)):=by
 have D0:=T (h.fr0 ((Ao Aj w).alloc (.cells #[J Z 2,J V n] 26)));have L0:=T (Lk.fr0 (p:=p) (P:=P) ((Ao Aj w).alloc (.cells #[J Z 2,J V n] 26)));have HK:=T hk;clear h hk;go_in;have H0:=T (Jr ((w.alloc (.cells #[J Z 2,J V n] 26)).alloc (.cells #[J V (n)] 24)) _ _ _ _ (D0.out.rn.fr0 ((Ao _ _).alloc _)) (↑w+1) (n) (Cc _ _ _ AB) (by have:=HK.out.1;omega));go_wp2_with fail;refine Ay H0 ?_;intro e w1 hq;obtain⟨rfl,⟨g1,A1,ca1,B1,cb1⟩,P1,L1,D1⟩:=(D0.out.fr0 ((Ao Aj (w.alloc (.cells #[J Z 2,J V n] 26))).alloc (.cells #[J V (n)] 24))).ofR hq;obtain rfl:g1=p.g:=L1.g;have L1:=T ((L0.out.tr (Lk.fr0 ((Ao _ (w.alloc (.cells #[J Z 2,J V n] 26))).alloc _))).tr L1);exact NH
theorem stack_no(w:Ac)(p:Rp)(x:Rs)(P:AG)(a:Bs.Ab)(A:Mu.Au)(g:Mc)(h:Dn w p x P a A g)(hk:x.s.d.length≤16∧x.s.r.length≤16)(op n:Int)(hn:stackB op=Aa):At Tryz.prog 120 #[↑p.g,AA #[J Z op,J V n]] w (DPost w p P a A x g (Ap Aa)):=by
 have D0:=T (h.fr0 ((Ao Aj w).alloc (.cells #[J Z op,J V n] 26)));have L0:=T (Lk.fr0 (p:=p) (P:=P) ((Ao Aj w).alloc (.cells #[J Z op,J V n] 26)));have hn:op<0∨8<op:=by
  simp[stackB] at hn;omega
 have n0:(op==0)=Aa:=A8;have n1:(op==1)=Aa:=A8;have n2:(op==2)=Aa:=A8;have n3:(op==3)=Aa:=A8;have n4:(op==4)=Aa:=A8;have n5:(op==5)=Aa:=A8;have n6:(op==6)=Aa:=A8;have n7:(op==7)=Aa:=A8;have n8:(op==8)=Aa:=A8;clear hn h hk;exact NF
end Rn
namespace Ar
open Gs Tr
theorem holds_no(w:Ac)(op fl:Int)(h:40<op):At Tryz.prog 164 #[J Z op,J V fl] w λe w'=>e=Ax (AD #[Ap Aa,Ap Aa])∧w=w':=by
 have d1:(op==33)=Aa:=A8;have d2:(op==34)=Aa:=A8;have d3:(op==35)=Aa:=A8;have d4:(op==36)=Aa:=A8;have d5:(op==37)=Aa:=A8;exact Jc
theorem sign_any(w:Ac)(b:Int)(h0:0≤b)(h1:b≤4294967295):At Tryz.prog 135 #[J V b] w λe w'=>e=Ax (J V (signI b))∧w=w':=by
 have e8:IntKind.i8.wrap b=if b%256<128 then b%256 else b%256 -256:=by
  simp[IntKind.wrap,IntKind.bits,IntKind.signed];exact Fs
 have e:IntKind.i8.wrap b%4294967296=signI b:=by
  rw[e8];unfold signI;split<;>omega
 clear e8;go_in
 go_wp2
 go_ret;exact⟨by simp[wrap32,e],rfl⟩
end Ar
namespace Rn
open Gs Sv Gm Gc
theorem Dn.setF{W:Ac}{p:Rp}{x:Rs}{P:AG}{a:Bs.Ab}{A:Mu.Au}{g:Mc}(H:Dn W p x P a A g)(f:Int):Dn (W.setCell ⟨p.g,3,G⟩ (J V f)) p {x with s:={x.s with fl:=f}} P a A g∧Lk W (W.setCell ⟨p.g,3,G⟩ (J V f)) p p P P:=by
 have f1:Fr (· =p.g) W (W.setCell ⟨p.g,3,G⟩ (J V f)):=(Ao _ W).at_ 3 _;refine⟨⟨⟨?_,H.rn.d.fr f1 (λk hk e=>H.rn.gA BO),H.rn.r.fr f1 (λk hk e=>H.rn.gB BO),H.rn.ne,H.rn.cs⟩,H.mc.fr f1 (λk e=>H.ip k (Ag e)) (λe=>H.n0 (Ag e)),H.ip,H.n0⟩,Lk.frI (f1.mono (λk _ e=> Ag e))⟩;have h1:=H.rn.b.set_ 3 (J V f);exact GN
theorem Dn.setP{W:Ac}{p:Rp}{x:Rs}{P:AG}{a:Bs.Ab}{A:Mu.Au}{g:Mc}(H:Dn W p x P a A g)(f:Int):Dn (W.setCell ⟨p.g,0,G⟩ (J V f)) p {x with s:={x.s with pc:=f}} P a A g∧Lk W (W.setCell ⟨p.g,0,G⟩ (J V f)) p p P P:=by
 have f1:Fr (· =p.g) W (W.setCell ⟨p.g,0,G⟩ (J V f)):=(Ao _ W).at_ 0 _;refine⟨⟨⟨?_,H.rn.d.fr f1 (λk hk e=>H.rn.gA BO),H.rn.r.fr f1 (λk hk e=>H.rn.gB BO),H.rn.ne,H.rn.cs⟩,H.mc.fr f1 (λk e=>H.ip k (Ag e)) (λe=>H.n0 (Ag e)),H.ip,H.n0⟩,Lk.frI (f1.mono (λk _ e=> Ag e))⟩;have h1:=H.rn.b.set_ 0 (J V f);exact GN
theorem sign_bd'(n:Int):0≤signI n∧signI n≤4294967295:=by
 unfold signI;split<;>omega
def there(s:St)(n:Int):Int:=(s.pc+signI n)%4294967296
inductive Rc (x:Rs)(n:Int):Int→Rs→Bool→Prop
 |jmp:Rc x n 32 {x with s:={x.s with pc:=there x.s n}} Af
 |no {op:Int} (hop:40<op):Rc x n op x Aa
theorem NI(op n:Int)(w:Ac)(p:Rp)(x Y:Rs)(b:Bool)(P:AG)(a:Bs.Ab)(A:Mu.Au)(g:Mc)(h:Dn w p x P a A g)(hk:Rk x.s)(n0:0≤n)(n1:n≤4294967295)(hc:Rc x n op Y b):At Tryz.prog 121 #[↑p.g,AA #[J Z op,J V n]] w (DPost w p P a A Y g (Ap b)):=by
 have D0:=T (h.fr0 ((Ao Aj w).alloc (.cells #[J Z op,J V n] 26)));have L0:=T (Lk.fr0 (p:=p) (P:=P) ((Ao Aj w).alloc (.cells #[J Z op,J V n] 26)));have bx:Blk (w.alloc (.cells #[J Z op,J V n] 26)) ↑w 26 #[J Z op,J V n]:=AH _ _ _;have HK:=T hk;have HC:=T hc;have hw:IntKind.u32.wrap (x.s.pc+signI n)=there x.s n:=DH _;have hpc0:=hk.1.pc.1;have hpc1:=hk.1.pc.2;have hsg0:=(sign_bd' n).1;have hsg1:=(sign_bd' n).2;have Hs:=T (λW=>Ar.sign_any W n n0 n1);clear h hk hc;go_in;go_upto_region 1 with(fail);obtain⟨W0,hW0⟩:=Az (w.alloc (.cells #[J Z op,J V n] 26));rw[hW0] at D0 L0 bx⊢;clear hW0;generalize hgb:w.heap.size=gb at*;have y0:=bx.cell 0;have y1:=bx.cell 1;have c0:=D0.out.rn.b.cell 0;generalize signI n=sg at*;go_region_held (λW=>W.cell? ⟨p.g,0,G⟩=I (J V x.s.pc)∧W.cell? ⟨gb,1,G⟩=I (J V n)) (first|exact⟨c0,y1⟩|go_keep)
  (((refine(Hs.out _).mono ?_);rintro e w' ⟨rfl,rfl⟩))
 have D0:=T (D0.out.fr0 (Ao Aj W0).drew);have L0:=T (L0.out.tr (Lk.fr0 (Ao Aj W0).drew));have c3:=D0.out.rn.b.cell 3;have z0:=D0.out.rn.b.frozen 0;have c0:=D0.out.rn.b.cell 0
 cases HC.out with
 |jmp=>
  have HX:=T (D0.out.setP (there x.s n))
  go_wp2
  go_ret;exact⟨rfl,_,_,L0.out.tr HX.out.2,HX.out.1⟩
 |no hop=>
  have Hh:=T (λW=>Ar.holds_no W op x.s.fl hop);obtain⟨n32,n38,n39,n40⟩:(op==32)=Aa∧(op==38)=Aa∧(op==39)=Aa∧(op==40)=Aa:=A8;have d1:=Jx;go_wp2_with fail;refine(Hh.out _).mono ?_;rintro e w' ⟨rfl,rfl⟩
  go_wp2
  go_ret;exact⟨rfl,_,_,L0.out,D0.out⟩
end Rn
namespace Rn
open Gs Sv Gm Gc
structure Suits(s:St)(op:Int):Prop where
 td:Gs.takeD op≤s.d.length
 tr:Gs.takeR op≤s.r.length
 pd:s.d.length -Gs.takeD op+Gs.putD op≤16
 pr:s.r.length -Gs.takeR op+Gs.putR op≤16
theorem rs_eta(x:Rs)(ec:x.c=0)(ea:x.a=0)(s':St):({x with s:=s',c:=0,a:=0}:Rs)={x with s:=s'}:=by
 cases x
 simp only at ec ea;rw[ec,ea]
section
variable (w:Ac) (p:Rp) (x:Rs) (P:AG) (a:Bs.Ab) (A:Mu.Au) (g:Mc)
theorem UE(h:Dn w p x P a A g)(hk:Rk x.s)(op n:Int)(hu:usedB op=Af)(hs:Suits x.s op)(hb:stackB op=Af):At Tryz.prog 120 #[↑p.g,AA #[J Z op,J V n]] w (DPost w p P a A {x with s:=stackS x.s ⟨op,n⟩} g (Ap Af)):=by
 have hl:x.s.d.length≤16∧x.s.r.length≤16:=⟨hk.2.1,hk.2.2.1⟩;have t1:=hs.td;have t2:=hs.tr;have hc:
  op=0∨
  op=1∨
  op=2∨
  False:=by
  simp[stackB] at hb
  simp[usedB] at hu
  omega
 rcases hc with
  rfl|
  rfl|
  rfl|
  h0
 ·exact UB n w p x P a A g h hl
 ·exact UC n w p x P a A g h hl
 ·exact UD n w p x P a A g h hl
 ·exact h0.elim
theorem UF(h:Dn w p x P a A g)(hr:Ready x)(op n:Int)(n0:0≤n)(n1:n≤4294967295)(hu:usedB op=Af)(hb0:stackB op=Aa)(hs:Suits x.s op):At Tryz.prog 121 #[↑p.g,AA #[J Z op,J V n]] w (DPost w p P a A {x with s:=reckS x.s ⟨op,n⟩,c:=0,a:=0} g (Ap (reckB op))):=by
 have hk:=hr.k;have t1:=hs.td;have t2:=hs.tr;have ec:=hr.c;have ea:=hr.a;have ha: ¬(16≤op∧op≤25):=by simp[usedB] at hu;omega
 have eX2:=rs_eta x ec ea (reckS x.s ⟨op,n⟩);rw[eX2];by_cases c32:op=32;·subst c32;exact NI 32 n w p x _ Af P a A g h hk n0 n1 .jmp
 simp[usedB] at hu;simp[stackB] at hb0;have h40:40<op:=O;have eB:reckB op=Aa:=by simp[reckB];omega
 have eS:reckS x.s ⟨op,n⟩=x.s:=by
  have hh:holdsB op x.s.fl=Aa:=NJ;exact NL
 rw[eB,eS];exact NI op n w p x _ _ P a A g h hk n0 n1 (.no h40)
end
end Rn
namespace Rn
open Gs Sv Gm Gc
theorem DPost.from0{w w1 w2:Ac}{p:Rp}{P:AG}{a:Bs.Ab}{A:Mu.Au}{x':Rs}{g':Mc}{v:As}{e:AT}(f:Fr Aj w w1)(h:DPost w1 p P a A x' g' v e w2):DPost w p P a A x' g' v e w2:=DPost.tr (Lk.fr0 f) h
theorem oth_st(n:Int)(w:Ac)(p:Rp)(x:Rs)(P:AG)(a:Bs.Ab)(A:Mu.Au)(g:Mc)(h:Dn w p x P a A g)(hr:Ready x)(hpg:x.s.pg=Aa)(hd:2≤x.s.d.length)(hv:devOk (top1 x.s.d)=Af)(ho:g.b.outs.length≤1000000):At Tryz.prog 122 #[↑p.g,AA #[J Z 49,J V n]] w (DPost w p P a A (toRs (stR x.s x.cnt g) x.cnt) (stR x.s x.cnt g).g (AD #[])):=by
 have D0:=T (h.fr0 ((Ao Aj w).alloc (.cells #[J Z 49,J V n] 26)));have F0:=T ((Ao Aj w).alloc (.cells #[J Z 49,J V n] 26));have HD:=T (A9 hpg (A9 hd hv));have HO:=T ho;clear hd ho hpg hv;have HR:=T hr;clear h hr;go_in;have H0:=T (store_any (w.alloc (.cells #[J Z 49,J V n] 26)) p x P a A g D0.out HR.out HD.out.1 HD.out.2.1 HD.out.2.2 HO.out);go_wp2_with fail;refine Ay H0 ?_;intro e w1 hq;have he:=hq.1;subst he;have HQ0:=T hq;clear hq
 go_wp2
 go_end0;exact DPost.from0 F0.out HQ0.out
theorem oth_halt(n:Int)(w:Ac)(p:Rp)(x:Rs)(P:AG)(a:Bs.Ab)(A:Mu.Au)(g:Mc)(h:Dn w p x P a A g)(hr:Ready x):At Tryz.prog 122 #[↑p.g,AA #[J Z 69,J V n]] w (DPost w p P a A (toRs ⟨{x.s with ha:=Af},0,0,Aa,g⟩ x.cnt) g (AD #[])):=by
 have D0:=T (h.fr0 ((Ao Aj w).alloc (.cells #[J Z 69,J V n] 26)));have F0:=T ((Ao Aj w).alloc (.cells #[J Z 69,J V n] 26));have HR:=T hr;clear h hr;go_in;go_upto_region 33 with(fail);obtain⟨W0,hW0⟩:=Az (w.alloc (.cells #[J Z 69,J V n] 26));rw[hW0] at D0 F0⊢;clear hW0;have z:=D0.out.rn.b.frozen 15;have c:=D0.out.rn.b.cell 15;have f1:Fr (· =p.g) W0 (W0.setCell ⟨p.g,15,G⟩ (Ap Af)):=(Ao _ W0).at_ 15 _;have hD:Dn (W0.setCell ⟨p.g,15,G⟩ (Ap Af)) p {x with s:={x.s with ha:=Af}} P a A g:=by
  refine⟨⟨?_,D0.out.rn.d.fr f1 (λk hk e=>D0.out.rn.gA BO),D0.out.rn.r.fr f1 (λk hk e=>D0.out.rn.gB BO),D0.out.rn.ne,D0.out.rn.cs⟩,D0.out.mc.fr f1 (λk e=>D0.out.ip k (Ag e)) (λe=>D0.out.n0 (Ag e)),D0.out.ip,D0.out.n0⟩;have h1:=D0.out.rn.b.set_ 15 (Ap Af);exact GN
 have HD:=T hD;have HF:=T f1;clear hD f1
 go_wp2
 go_end0;have hr:=HR.out;have hx:=HD.out;refine⟨rfl,_,_,(Lk.fr0 F0.out).tr (Lk.frI (HF.out.mono (λk _ e=> Ag e))), ?_⟩;simpa only[toRs,hr.c,hr.a,hr.dv] using hx
end Rn
namespace Rn
open Gs Sv Gm Gc
variable{w:Ac}
theorem wpL_ldm{P:BW}{g:Nat}{t ty:AK}{cs:AL}{d:TypeDesc}{n:Nat}(ds:AL)(h:Blk w g t cs)(hu:P.underlying ty=I d)(hi:(P.info? ty).map (·.size)=I n)(hd:d.isRow=Af)(hn:ds.size=n)(hds: ∀j,j<ds.size→cs[j]?=ds[j]?){ops:Array Oper}{rest:List Oper}{a:Act}{Q:Exit→Act→Ac→Prop}{dst:Option Tmp}{t2:AK}{pos:String}{af:Array Edge}{x:Operand}(hx:a.eval x=↑g)(hk:BL P ops Q rest (a.put dst (AA ds)) w):BL P ops Q (⟨dst,.load ty x,t2,pos,af,G⟩::rest) a w:=by
 refine wpList_load_mid rfl ty x rfl g 0 hx ds.toList d (λj v hv=>?_) hu hd GA ?_;·exact NM
 ·simpa using hk
theorem rc_head(x:Rs)(D R Bw Bz:As): ∀j,j<(stc x.s D R).size→(rc x D R Bw Bz)[j]?=(stc x.s D R)[j]?:=NN
theorem rc_set(x:Rs)(t:St)(D R D' R' Bw Bz:As):setRange (rc x D R Bw Bz) 0 (stc t D' R').toList=rc {x with s:=t} D' R' Bw Bz:=by
 simp only[rc,stc,setRange,Eb,List.set_cons_zero,List.set_cons_succ,Bn,Nat.reduceAdd]
theorem RunC.renew{w1 w2 W3:Ac}{p:Rp}{x:Rs}{Bw Bz:As}{t:St}{A B:Aw}{c d:Nat}(H:RunC w p x Bw Bz)(f0:Fr Aj w w1)(f1:Fr Aj w1 w2)(hS:StV w2 ↑w1 t (U A t.d.length c) (U B t.r.length d))(hne: ∀k,(U A t.d.length c).ownBlock=I k→(U B t.r.length d).ownBlock≠I k)(hl:t.d.length≤1000∧t.r.length≤1000)(hb:Blk W3 p.g 234 (rc {x with s:=t} (U A t.d.length c) (U B t.r.length d) Bw Bz))(f3:Fr (· =p.g) w2 W3)(v:As):RPost w p {x with s:=t} Bw Bz v (.returned v) W3:=by
 have s0:=f0.size;have hg:=H.b.lt;have n1:=hS.d.ge;have n2:=hS.r.ge;refine⟨rfl,⟨p.g,A,c,B,d⟩,rfl,⟨hb, ?_, ?_,λk hk hk2=>hne k (ab_own hS.d hk) (ab_own hS.r hk2),hl⟩,λk hk=>?_,((f0.tr f1).mono (S':=p.its) (λ_ _ e=>e.elim)).trans f3 (λi hi e=> Ag e)⟩;·exact(hS.d.fr f3 (λk hk e=>by have:=n1 k hk;omega)).low (AU _)
 ·exact(hS.r.fr f3 (λk hk e=>by have:=n2 k hk;omega)).low (AU _)
 ·rcases hk with e|e|e;·exact Ee
  ·have:=n1 k (ab_own hS.d e);exact CQ
  ·have:=n2 k (ab_own hS.r e);exact CQ
theorem Dn.stv{p:Rp}{x:Rs}{P:AG}{a:Bs.Ab}{A:Mu.Au}{g:Mc}(D:Dn w p x P a A g)(hk:x.s.Ok):StV w 0 x.s (U p.A x.s.d.length p.ca) (U p.B x.s.r.length p.cb):=⟨D.rn.d,D.rn.r,hk⟩
end Rn
end Go.Proofs.YtpmlgdopfafcgaaGreatDoor
