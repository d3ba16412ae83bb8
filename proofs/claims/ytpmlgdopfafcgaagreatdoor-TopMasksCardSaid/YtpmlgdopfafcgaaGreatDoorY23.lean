import Derived.Test.YtpmlgdopfafcgaaGreatDoorY15
import Derived.Test.YtpmlgdopfafcgaaGreatDoorY22
open Go.Value renaming int→J,slice→U,bool→Ap,tuple→AD,ownBlock→Bp,agg→AA,pointer→Bi
open Option renaming some→I,none→G
open Go.IntKind renaming i64→Z,u32→V,u64→AM,u8→AC,wrap_u64→Dk,wrap_u32→DH
open Bool renaming false→Aa,true→Af,false_ne_true→Da,false_and→D7
open Go renaming World→Ac,Value→As,Calls→At,bodyPost_ret→Bf,TypeId→AK,wp_region_held_drew→BY,info_parts→BH,Ending→AT,madeCells→Cb,maxLen→Br,Program→BW,undef→Bt,wpList→BL,bits→Bb,run_underlying→CX
open List renaming getD_eq_getElem?_getD→AN,getElem?_eq_getElem→Bj,length_append→BJ,append_assoc→BM,mem_map→Bo,getElem?_take_of_lt→Cw,replicate→BK,range→Bm,getElem?_append_right→CB,getElem_mem→BU,mem_append→BZ,getElem?_append_left→CO,getElem?_map→C7,cons_append→CC,mem_filter→C8,length_pos_iff→CP,length_cons→CK,mem_cons→Cy,getLastD_eq_getLast?→Dg,nil_append→CI,getElem?_eq_none→De,dropLast_concat→Do,mem_singleton→Dv,map_append→Df,length_map→Di,getElem_of_mem→DD,length_nil→Dp,concat_eq_append→DI,getElem?_range→DL,range_succ→DB,getElem?_replicate→DW,singleton_append→DV,map_cons→D6,map_map→D8,setIfInBounds_toArray→Eb
open Go.Ending renaming returned→Ax
open And renaming intro→A9
open Nat renaming le_refl→AE,lt_of_lt_of_le→AW,le_trans→AS,zero_le→AU,zero_add→Bn,eq_zero_or_pos→Dm,reduceEqDiff→Dq
open Or renaming inl→Ag,inr→Ah
open Go.Proofs.Tryz renaming underlying41→AP,underlying31→CF,underlying22→CV,underlying215→Dl,underlying26→DN
open Go.RowKit renaming intOf→AJ
open Int renaming eq_ofNat_of_zero_le→CM,toNat_natCast→C4,emod_eq_of_lt→CZ
open Go.Builtin renaming zeroCells→CG,delete_→Eh
open Array renaming getElem?_toList→CN,getElem?_eq_some_iff→DX
open Go.Region renaming wanted→CA
open Go.Result renaming andThen→CT
open Option.some renaming inj→Ds
open Go.MapKept renaming run_getObj_map→DJ,run_setObj_map→Ef
open Go.Instr renaming makeSlice→Dj,mapUpdate→DK
open Go.IntWalk renaming i64_in→Du
open Go.Lit renaming int→C9
open Go.Sem renaming run_bind→D5
set_option linter.all false
set_option maxHeartbeats 40000000
set_option maxRecDepth 1000000
open Go Go.RowKit
namespace Go.Proofs.YtpmlgdopfafcgaaGreatDoor
namespace Lw_
open Gs Sv Tr Em Ip Lo Sw
theorem pcs_snoc: ∀(l:List Ins) (pc:Int) (i:Ins),pcs pc (l++[i])=(pcs pc l+sizeI i.op)%4294967296
 |[],pc,i=>rfl
 |a::l,pc,i=>by rw[CC,pcs,pcs,pcs_snoc l]
theorem all_snoc: ∀(l:List Ins) (x:Lw) (pc:Int) (i:Ins),x.all pc (l++[i])=(x.all pc l).one i (pcs pc (l++[i]))
 |[],x,pc,i=>rfl
 |a::l,x,pc,i=>by rw[CC,Lw.all,Lw.all,pcs,all_snoc l]
def AtN(w:Ac)(B:Nat)(A:Aw)(l:List Ins):Prop:= ∀k,k<l.length→ ∃b o,A=I ⟨b,o,G⟩∧b<B∧w.cell? ⟨b,o+k*2,G⟩=I (J Z (l.getD k ⟨0,0⟩).op)∧w.cell? ⟨b,o+k*2+1,G⟩=I (J V (l.getD k ⟨0,0⟩).n)
theorem AtN.fr{w w':Ac}{B:Nat}{A:Aw}{l:List Ins}{S:AG}(h:AtN w B A l)(f:Fr S w w')(hB:B≤↑w)(hs: ∀k,k<B→ ¬S k):AtN w' B A l:=λk hk=>by
 obtain⟨b,o,e,hb,c0,c1⟩:=h k hk;have hl:b<↑w:=O;exact⟨b,o,e,hb,f.cell c0 hl (hs b hb),f.cell c1 hl (hs b hb)⟩
theorem take_sn{l:List Ins}{k:Nat}(h:k<l.length):l.take (k+1)=l.take k++[l.getD k ⟨0,0⟩]:=JK
theorem pcs_bd(l:List Ins)(pc:Int)(h0:0≤pc)(h1:pc≤4294967295):0≤pcs pc l∧pcs pc l≤4294967295:=by
 rcases l.eq_nil_or_concat with rfl|⟨m,q,rfl⟩;·exact⟨h0,h1⟩
 ·rw[DI,pcs_snoc];omega
abbrev lc14(C:Aw)(nC cc:Nat)(x:Lw)(k:Nat):AL:=#[U C nC cc,J Z 0,J Z 0,J Z 0,J Z 0,U G 0 0,U G 0 0,J Z x.fl,J V 0,J Z x.tg,J Z x.br,J V 0,J Z k,J Z 0]
abbrev lcP(C:Aw)(nC cc:Nat)(x:Lw)(k:Nat)(nx tk:Int):AL:=#[U C nC cc,J Z 0,J Z 0,J Z 0,J Z 0,U G 0 0,U G 0 0,J Z x.fl,J V nx,J Z x.tg,J Z x.br,J V tk,J Z k,J Z 0]
theorem last_at(l:List Ins)(h:l≠[]):lastI l=l.getD (l.length -1) ⟨0,0⟩:=by
 unfold lastI;exact N2
theorem results_ct{P:BW}{fn:Func}{p q:Tmp}{ty':AK}(h:fn.results=#[.cell q ty',.tmp p])(tmps:AL)(w:Ac)(g':Nat)(t':AK)(cs':AL)(d':TypeDesc)(v:As)(hp:tmps.getD p Bt=v)(hq:tmps.getD q Bt=↑g')(hg':Blk w g' t' cs')(hu':P.underlying ty'=I d')(hd':(match d' with|.struct _|.array _ _=>Af|_=>Aa)=Af)(hi':(P.info? ty').map (·.size)=I cs'.size):(results fn tmps).run P w=.ok (AD #[AA cs',v]) w:=GE
def LowPost(w:Ac)(q:Pg)(e:AT)(w':Ac):Prop:= ∃v,e=Ax (AD #[AA (pgA q v),J Z 0])∧PgO w' (↑w+1) q v∧Fr Aj w w'
abbrev z22(n:Nat):AL:=#[U G 0 0,J Z 0,J Z 0,J Z 0,J Z 0,U G 0 0,U G 0 0,J Z (-1),J V 0,J Z (-1),J Z 0,J V 0,J Z n,J Z 0,U G 0 0,J Z 0,J Z 0,J Z 1,U G 0 0,J Z 0,J Z 0,J Z 2]
theorem lower_any(w:Ac)(pc:Int)(p0:0≤pc)(p1:pc≤4294967295)(A:Aw)(c B:Nat)(l:List Ins)(h:AtN w B A l)(hB:B≤↑w)(hr: ∀i∈l,rightI i=Af∧plainB i.op=Af∧0≤i.n∧i.n≤4294967295)(hne:l≠[])(h8:l.length≤8)(hends: ∀i∈l.dropLast,endsB i.op=Aa):At Tryz.prog 107 #[J V pc,U A l.length c] w (LowPost w (sweepP (lower0 pc l))):=by
 obtain⟨N,hN⟩:=Az l.length;have hN1:1≤N:=by have:=CP.2 hne;omega
 have hN8:N≤8:=O;have H:=T h;have HR:=T hr;have HE:=T hends;have HN:=T hN;have HNE:=T hne;have d1:decide ((N:Int)<1)=Aa:=A8;have d2:decide ((N:Int)>8)=Aa:=A8;rw[hN] at h8⊢;clear h hr hends hN hne;go_in;go_upto_region 4 with(fail);have b0:Blk ((w.alloc (.cells z14 215)).alloc (.cells (z22 N) 250)) ↑w 215 z14:=(AH _ _ _).alloc _;have hL0:LwH ((w.alloc (.cells z14 215)).alloc (.cells (z22 N) 250)) (↑w+1) ⟨↑w+1,G,0,G,0,G,0⟩ Lw.new N 0:=
  ⟨by
   have:=Cells.new' (w.alloc (.cells z14 215)) 250 (z22 N) 22 (lwF Lw.new (U G 0 0) (U G 0 0) (U G 0 0) N) rfl;rw[show(w.alloc (.cells z14 215)).heap.size=w.heap.size+1 by simp] at this;exact this,⟨rfl,Ag ⟨rfl,rfl⟩⟩,⟨rfl,Ag ⟨rfl,rfl⟩⟩,⟨rfl,Ag ⟨rfl,rfl⟩⟩,λk e=>by simp[ab] at e,AE _,⟨AE _,AE _,AE _,AE _,AE _,AE _,AE _⟩⟩
 have f1:Fr Aj w ((w.alloc (.cells z14 215)).alloc (.cells (z22 N) 250)):=((Ao _ w).alloc _).alloc _;generalize(w.alloc (.cells z14 215)).alloc (.cells (z22 N) 250)=W1 at*;obtain⟨g,hg⟩:=Az (w.heap.size+1);rw[hg] at hL0⊢;have HG:=T hg;have B0:=T b0;have HL0:=T hL0;have F1:=T f1;clear b0 hL0 f1 hg;go_wp2_with fail;go_loopw [29,0] (λi pv wr=> ∃(k:Nat) (C:Aw) (cc:Nat) (D:Aw) (cd:Nat) (R:Aw) (cr:Nat),k≤N∧i=J Z k∧pv=J V (pcs pc (l.take k))∧Hid (LwH wr g ⟨g,C,cc,D,cd,R,cr⟩ (Lw.new.all pc (l.take k)) N (12*k))∧Hid (Fr (λq=>g≤q) W1 wr)) (λi _ _=>N -(AJ i).toNat)
 case atStart=>exact⟨0,G,0,G,0,G,0,O,rfl,rfl,HL0,T (Ao _ _)⟩
 case round=>
  obtain⟨k,C,cc,D,cd,R,cr,hk,rfl,rfl,hL,hF⟩:=hrel;by_cases hlt:k<N
  ·have hkl:k<l.length:=Gi;have hBg:B≤g:=Iv;have f2:Fr (λq=>g≤q) w wr:=(F1.out.mono (λ_ _ e=>e.elim)).tr hF.out;obtain⟨b,o,e3,hb,e0,e1⟩:=(H.out.fr f2 hB (λq hq e=>O)) k hkl;have hm:l.getD k ⟨0,0⟩∈l:=Fl;obtain⟨hr1,hr2,hr3,hr4⟩:=HR.out _ hm;have hends:endsB (l.getD k ⟨0,0⟩).op=Af→k=N -1:=λhe=>by
    by_cases q:k=N -1;·exact q
    ·exfalso;have h2:l.getD k ⟨0,0⟩∈l.dropLast:=by
      have hd:k<l.dropLast.length:=by rw[List.length_dropLast,HN.out];omega
      have h3:l.dropLast[k]=l[k]:=List.getElem_dropLast hd;rw[AN,Bj hkl,Option.getD_some,←h3];exact BU hd
     have h4:=HE.out _ h2;rw[he] at h4
     cases h4
   have HS:Hid (l.take (k+1)=l.take k++[l.getD k ⟨0,0⟩]):=T (take_sn hkl);subst e3;have hbl:b<↑wr:=by have:=f2.size;omega
   have hpb:=pcs_bd (l.take k) pc p0 p1;obtain⟨x,hx⟩:=Az (l.getD k ⟨0,0⟩);rw[hx] at e0 e1 hm hr1 hr2 hr3 hr4 hends HS;obtain⟨op,n⟩:=x;dsimp only at e0 e1 hr1 hr2 hr3 hr4 hends;obtain⟨z,hz⟩:=Az (pcs pc (l.take k));have hsz:=Gc.size_cases op;obtain⟨sz,hs⟩:=Az (sizeI op);have hp1:Hid (pcs pc (l.take (k+1))=(z+sz)%4294967296):=T (by rw[HS.out,pcs_snoc,hz,hs]);have hp2:Hid (Lw.new.all pc (l.take (k+1))=(Lw.new.all pc (l.take k)).one ⟨op,n⟩ ((z+sz)%4294967296)):=T (by rw[HS.out,all_snoc,pcs_snoc,hz,hs]);have Hr:Hid (∀W,At Tryz.prog 133 #[AA #[J Z op,J V n]] W λe w'=>e=Ax (Ap Af)∧Fr Aj W w'):=T (λW=>by have:=Gc.right_any W ⟨op,n⟩;rw[hr1] at this;exact this);have Hp:Hid (∀W,At Tryz.prog 131 #[J Z op] W λe w'=>e=Ax (Ap Af)∧W=w'):=T (λW=>by have:=Gc.plain_any W op;rw[hr2] at this;exact this);have Hs:Hid (∀W,At Tryz.prog 119 #[J Z op] W λe w'=>e=Ax (J Z sz)∧W=w'):=T (λW=>by have:=Gc.size_any W op;rw[hs] at this;exact this);rw[hz] at hpb⊢;rw[hs] at hsz;have hw:IntKind.u32.wrap sz=sz:=by rcases hsz with rfl|rfl|rfl|rfl<;>rfl
   have HP:=T hr2;clear hm hr1 hr2 hs hz HS hx hkl;obtain⟨eb,heb⟩:=Az (endsB op);have He:Hid (∀W,At Tryz.prog 123 #[J Z op] W λe w'=>e=Ax (Ap eb)∧W=w'):=T (λW=>by have:=Gc.ends_any W op;rw[heb] at this;exact this);rw[heb] at hends;clear heb;have bx:Blk (wr.alloc (.cells #[J Z op,J V n] 26)) ↑wr 26 #[J Z op,J V n]:=AH _ _ _;have fx:Fr Aj wr (wr.alloc (.cells #[J Z op,J V n] 26)):=(Ao _ wr).alloc _;have BX:=T bx;have FX:=T fx;clear bx fx;have hd3:eb=Af→decide ((k:Int)<(N:Int) -1)=Aa:=λe=>by have:=hends e;simp;omega
   cases eb
   ·exact Rg
   ·have hkN:=hd3 rfl;exact Rg
  ·obtain rfl:k=N:=O;have e1:l.take k=l:=by rw[←HN.out,List.take_length]
   rw[e1] at hL⊢;obtain⟨x,hx⟩:=Az (Lw.new.all pc l);obtain⟨z,hz⟩:=Az (pcs pc l);rw[hx] at hL;rw[hz];obtain⟨cs,hb,hcs,hc⟩:=hL.out.b;have hb:Blk wr g 250 cs:=hb;have hgl:=hb.lt;have HX:=T hx;have HZ:=T hz;obtain⟨nC,hnC⟩:=Az x.code.length;have HNC:=T hnC;have hds: ∀j,j<(lc14 C nC cc x k).size→cs[j]?=(lc14 C nC cc x k)[j]?:=λj hj=>by
    have hj:j<14:=hj;rw[hc j O,←hnC];have hcj:j=0∨j=1∨j=2∨j=3∨j=4∨j=5∨j=6∨j=7∨j=8∨j=9∨j=10∨j=11∨j=12∨j=13:=O;rcases hcj with rfl|rfl|rfl|rfl|rfl|rfl|rfl|rfl|rfl|rfl|rfl|rfl|rfl|rfl<;>rfl
   have HD:=T hds;have HB:=T hb;clear hc hcs hx hz hds hnC e1 hb;have bz:=AH wr 215 z14;have oz:(lc14 C nC cc x k).all (·.oneCell')=Af:=by simp[lc14,Value.oneCell']
   go_upto_region 13 with(first
    |((with_reducible refine Rn.wpL_ldm (lc14 C nC cc x k) HB.out Dl sz14 ?q1 ?q2 HD.out ?q3 ?_);(case q1=>rfl);(case q2=>rfl);(case q3=>rfl))
    |((with_reducible refine wpL_sq (cs':=lc14 C nC cc x k) bz sz14 oz ?_);intro W5 b5 f5;have HB5:=T b5;have HF5:=T f5;clear b5 f5 bz oz))
   obtain⟨gp,hgp⟩:=Az wr.heap.size;rw[hgp] at HB5 HF5⊢;have hF5:Fr (λq=>g≤q) W1 W5:=(hF.out.alloc _).trans HF5.out (λq hq e=>JL);have hkl:k -1<l.length:=by rw[HN.out];omega
   have f2:Fr (λq=>g≤q) w W5:=(F1.out.mono (λ_ _ e=>e.elim)).tr hF5;obtain⟨b,o,e3,hb,e0,e1⟩:=(H.out.fr f2 hB (λq hq e=>Iv)) (k -1) hkl;have hla:lastI l=l.getD (k -1) ⟨0,0⟩:=by rw[last_at l HNE.out,HN.out]
   have hm:l.getD (k -1) ⟨0,0⟩∈l:=Fl;obtain⟨_,_,hr3,hr4⟩:=HR.out _ hm;subst e3;have hbl:b<↑W5:=by have:=f2.size;omega
   have hk1:((k:Int) -1).toNat=k -1:=O;obtain⟨ii,hii⟩:=Az (l.getD (k -1) ⟨0,0⟩);rw[hii] at e0 e1 hla hr3 hr4;obtain⟨op,n⟩:=ii;dsimp only at e0 e1 hr3 hr4;have HLA:=T hla;have HF5':=T hF5;have c8:=HB5.out.cell 8;have y8:=HB5.out.frozen 8;have cl5:=HB5.out.lt;have hkk:((k:Int) -1)=((k -1:Nat):Int):=O;have hne1:b≠gp:=by have:=F1.out.size;have:=hF.out.size;omega
   have hne2:gp≠b:=λe=>hne1 e.symm;clear hla hF5 f2 hm hii hkl;go_upto_block 2 with(fail);have hgg:g≤gp:=by have:=HG.out;have:=F1.out.size;have:=hF.out.size;have:=hgl;omega
   have bp6:Blk ((W5.setCell ⟨gp,8,G⟩ (J V z)).alloc (.cells #[J Z op,J V n] 26)) gp 215 (lcP C nC cc x k z 0):=(HB5.out.set_ 8 _).alloc _;have bl6:Blk ((W5.setCell ⟨gp,8,G⟩ (J V z)).alloc (.cells #[J Z op,J V n] 26)) ↑W5 26 #[J Z op,J V n]:=Cc _ _ _ EX;have f6:Fr (λq=>g≤q) W1 ((W5.setCell ⟨gp,8,G⟩ (J V z)).alloc (.cells #[J Z op,J V n] 26)):=(HF5'.out.setCell (p:=⟨gp,8,G⟩) (Ag hgg) _).alloc _;have fw:Fr Aj wr ((W5.setCell ⟨gp,8,G⟩ (J V z)).alloc (.cells #[J Z op,J V n] 26)):=(((((Ao Aj wr).alloc _).trans HF5.out (λq hq e=>Fo)).setCell (p:=⟨gp,8,G⟩) (Ah (by show ↑wr≤gp;omega)) _)).alloc _;generalize(W5.setCell ⟨gp,8,G⟩ (J V z)).alloc (.cells #[J Z op,J V n] 26)=W6 at*;obtain⟨gl,hgl5⟩:=Az W5.heap.size;rw[hgl5] at bl6⊢;have hglp: ¬gl=gp:=bl6.ne_ bp6 Ak;have BP6:=T bp6;have BL6:=T bl6;have F6:=T f6;have FW:=T fw;clear fw;have HNT:Hid ((lower0 pc l).nx=(if op=32∨op=38 then(z+signI n)%4294967296 else z)∧(lower0 pc l).tk=(if op=32∨op=38 then 0 else if x.br≠0 then(z+signI n)%4294967296 else 0)):=T (by
    unfold lower0;dsimp only;rw[HLA.out,HX.out,HZ.out];exact⟨rfl,rfl⟩)
   have Hsg:=T (λW=>Ar.sign_any W n hr3 hr4);clear e0 e1 hbl c8 y8 cl5 bp6 bl6 f6 HB5 HF5 HF5' hne1 hne2 hk1 hkk;go_cut [] (λwx=> ∃nx tk:Int,Hid ((lower0 pc l).nx=nx∧(lower0 pc l).tk=tk)∧Hid (Blk wx gp 215 (lcP C nC cc x k nx tk))∧Hid (Fr (λq=>q=gp) W6 wx));case first=>
    have l0:W6.cell? ⟨gl,0,G⟩=I (J Z op):=BL6.out.cell 0;have l1:W6.cell? ⟨gl,1,G⟩=I (J V n):=BL6.out.cell 1;have ll:=BL6.out.lt;have q8:W6.cell? ⟨gp,8,G⟩=I (J V z):=BP6.out.cell 8;have q10:W6.cell? ⟨gp,10,G⟩=I (J Z x.br):=BP6.out.cell 10;have q11:W6.cell? ⟨gp,11,G⟩=I (J V 0):=BP6.out.cell 11;have ql:=BP6.out.lt;have y8:=BP6.out.frozen 8;have y11:=BP6.out.frozen 11;by_cases hj:op=32∨op=38
    ·have HJ:=T hj;obtain⟨b1,hb1⟩:=Az (op==32);have hb2:b1=Aa→(op==38)=Af:=λe=>by
      rw[e] at hb1;have: ¬op=32:=Kt;simp;omega
     clear hj
     cases b1
     ·have hb3:=hb2 rfl;exact Rh
     ·exact Rh
    ·have HJ:=T hj;have hb1:(op==32)=Aa:=A8;have hb2:(op==38)=Aa:=A8;obtain⟨b3,hb3⟩:=Az (x.br !=0);clear hj
     cases b3
     ·have hb4:x.br=0:=Iw;have HB4:=T hb4;clear hb4
      go_wp2
      go_meet;exact⟨z,0,T (by rw[HNT.out.1,HNT.out.2,Ae HJ.out,Ae HJ.out,Ae (by simpa using HB4.out)];exact⟨rfl,rfl⟩),BP6,T (Ao _ _)⟩
     ·have hb4: ¬x.br=0:=Iw;have HB4:=T hb4;clear hb4;go_wp2_with ((with_reducible refine(Hsg.out _).mono ?_);rintro e wq ⟨rfl,rfl⟩);go_meet;exact⟨z,(z+signI n)%4294967296,T (by rw[HNT.out.1,HNT.out.2,Ae HJ.out,Ae HJ.out,An HB4.out];exact⟨rfl,rfl⟩),T (BP6.out.set_ 11 _),T ((Ao (λq=>q=gp) W6).setCell (p:=⟨gp,11,G⟩) (Ag rfl) _)⟩
   case rest=>
    obtain⟨nx,tk,HN2,HB2,HF2⟩:=hcut;have lw:=hL.out.fr0 (FW.out.trans HF2.out (λq hq e=>Fo));have lb:Cells wc g 250 22 _:=lw.b;have HLW:=T lw;have c14:wc.drew.cell? ⟨g,14,G⟩=I (U D x.ld.length cd):=lb.cell 14 O;have c15:wc.drew.cell? ⟨g,15,G⟩=I (J Z x.nd):=lb.cell 15 O;have c16:wc.drew.cell? ⟨g,16,G⟩=I (J Z x.hd):=lb.cell 16 O;have c18:wc.drew.cell? ⟨g,18,G⟩=I (U R x.lr.length cr):=lb.cell 18 O;have c19:wc.drew.cell? ⟨g,19,G⟩=I (J Z x.nr):=lb.cell 19 O;have c20:wc.drew.cell? ⟨g,20,G⟩=I (J Z x.hr):=lb.cell 20 O;have cgl:g<↑wc:=lb.lt;have hne3:g≠gp:=by
     obtain⟨cs2,hb2,_⟩:=lb;exact hb2.ne_ HB2.out Ak
    have c15w:wc.cell? ⟨g,15,G⟩=I (J Z x.nd):=c15;have c16w:wc.cell? ⟨g,16,G⟩=I (J Z x.hd):=c16;have c19w:wc.cell? ⟨g,19,G⟩=I (J Z x.nr):=c19;have c20w:wc.cell? ⟨g,20,G⟩=I (J Z x.hr):=c20;have c14w:wc.cell? ⟨g,14,G⟩=I (U D x.ld.length cd):=c14;have c18w:wc.cell? ⟨g,18,G⟩=I (U R x.lr.length cr):=c18;have yf: ∀j,wc.frozen? ⟨gp,j,G⟩=Aa:=HB2.out.frozen;have q1:=HB2.out.cell 1;have q2:=HB2.out.cell 2;have q3:=HB2.out.cell 3;have q4:=HB2.out.cell 4;have y1:=yf 1;have y2:=yf 2;have y3:=yf 3;have y4:=yf 4;have ql:=HB2.out.lt;clear lw lb c14 c15 c16 c18 c19 c20 yf;go_upto_region 19 with(fail);refine BY (S:=Fr (λq=>q=gp) wc) AI ((Ao (λq=>q=gp) wc).drew) (λhH=>?_);refine Av 0 rfl hH Cl ?_;refine Av 1 rfl hH Cl ?_;refine Av 2 rfl hH Cl ?_
    try simp only[AF]
    refine Av 3 rfl hH Cl ?_;refine Av 4 rfl hH Cl ?_;refine Av 5 rfl hH Cl ?_
    try simp only[AF]
    refine Av 6 rfl hH Cl ?_;refine Av 7 rfl hH Cl ?_;refine Av 8 rfl hH Cl ?_
    try simp only[AF]
    refine Av 9 rfl hH Cl ?_;refine Av 10 rfl hH Cl ?_;refine Av 11 rfl hH Cl ?_
    try simp only[AF]
    refine Av 12 rfl hH Cl ?_;refine Av 13 rfl hH Cl ?_;refine Av 14 rfl hH Cl ?_
    try simp only[AF]
    refine Av 15 rfl hH Cl ?_;refine Av 16 rfl hH Cl ?_;refine Av 17 rfl hH Cl ?_
    try simp only[AF]
    refine Av 18 rfl hH Cl ?_;refine Av 19 rfl hH Cl ?_;refine Av 20 rfl hH Cl ?_
    try simp only[AF]
    refine AQ [21] ?_;refine AO (λK hK=>?_) ?_
    ·go_simp;refine hK.out _ _ (hH.setCell (Ag rfl) _) λhH=>?_;clear hK K;refine Av 22 rfl hH Cl ?_
     try simp only[AF]
     refine AQ [23] ?_;refine AO (λK hK=>?_) ?_
     ·go_simp;refine hK.out _ _ (hH.setCell (Ag rfl) _) λhH=>?_;clear hK K;refine Av 24 rfl hH Cl ?_
      try simp only[AF]
      refine AQ [25] ?_;refine AO (λK hK=>?_) ?_
      ·go_simp;refine hK.out _ _ (hH.setCell (Ag rfl) _) λhH=>?_;clear hK K;refine Av 26 rfl hH Cl ?_
       try simp only[AF]
       refine AQ [27] ?_;refine AO (λK hK=>?_) ?_
       ·go_simp;refine hK.out _ _ (hH.setCell (Ag rfl) _) λhH=>?_;clear hK K;refine Cg ?_
        try simp only[AF]
        go_upto_region 20 with(fail);have bD:Blk ((((wc.setCell ⟨gp,1,G⟩ (J Z x.nd)).setCell ⟨gp,2,G⟩ (J Z x.nr)).setCell ⟨gp,3,G⟩ (J Z x.hd)).setCell ⟨gp,4,G⟩ (J Z x.hr)).drew gp 215 #[U C nC cc,J Z x.nd,J Z x.nr,J Z x.hd,J Z x.hr,U G 0 0,U G 0 0,J Z x.fl,J V nx,J Z x.tg,J Z x.br,J V tk,J Z k,J Z 0]:=((((HB2.out.set_ 1 _).set_ 2 _).set_ 3 _).set_ 4 _).drew;have fD:Fr (λq=>q=gp) wc ((((wc.setCell ⟨gp,1,G⟩ (J Z x.nd)).setCell ⟨gp,2,G⟩ (J Z x.nr)).setCell ⟨gp,3,G⟩ (J Z x.hd)).setCell ⟨gp,4,G⟩ (J Z x.hr)).drew:=(((((Ao (λq=>q=gp) wc).setCell (p:=⟨gp,1,G⟩) (.inl rfl) _).setCell (p:=⟨gp,2,G⟩) (.inl rfl) _).setCell (p:=⟨gp,3,G⟩) (.inl rfl) _).setCell (p:=⟨gp,4,G⟩) (.inl rfl) _).drew;generalize((((wc.setCell ⟨gp,1,G⟩ (J Z x.nd)).setCell ⟨gp,2,G⟩ (J Z x.nr)).setCell ⟨gp,3,G⟩ (J Z x.hd)).setCell ⟨gp,4,G⟩ (J Z x.hr)).drew=wd at*;have d14:=fD.cell c14w cgl hne3;have d18:=fD.cell c18w cgl hne3;have dgl:=AW cgl fD.size;have BD:=T bD;have FD:=T fD;have q5:=bD.cell 5;have q6:=bD.cell 6;have y5:=bD.frozen 5;have y6:=bD.frozen 6;have dl:=bD.lt;clear bD fD c14w c15w c16w c18w c19w c20w q1 q2 q3 q4 y1 y2 y3 y4 ql;refine BY (S:=Fr (λq=>q=gp) wd) AI ((Ao (λq=>q=gp) wd).drew) (λhH=>?_);refine Av 0 rfl hH Dw ?_;refine Av 1 rfl hH Dw ?_;refine Av 2 rfl hH Dw ?_
        try simp only[AF]
        refine Av 3 rfl hH Dw ?_;refine Av 4 rfl hH Dw ?_;refine Av 5 rfl hH Dw ?_
        try simp only[AF]
        refine Av 6 rfl hH Dw ?_;refine Av 7 rfl hH Dw ?_;refine Av 8 rfl hH Dw ?_
        try simp only[AF]
        refine Av 9 rfl hH Dw ?_;refine Av 10 rfl hH Dw ?_
        try simp only[AF]
        refine AQ [11] ?_;refine AO (λK hK=>?_) ?_
        ·go_simp;refine hK.out _ _ (hH.setCell (Ag rfl) _) λhH=>?_;clear hK K;refine Av 12 rfl hH Dw ?_
         try simp only[AF]
         refine AQ [13] ?_;refine AO (λK hK=>?_) ?_
         ·go_simp;refine hK.out _ _ (hH.setCell (Ag rfl) _) λhH=>?_;clear hK K;refine Cg ?_
          try simp only[AF]
          go_upto_region 21 with(fail);have bE:Blk ((wd.setCell ⟨gp,5,G⟩ (U D x.ld.length cd)).setCell ⟨gp,6,G⟩ (U R x.lr.length cr)).drew gp 215 #[U C nC cc,J Z x.nd,J Z x.nr,J Z x.hd,J Z x.hr,U D x.ld.length cd,U R x.lr.length cr,J Z x.fl,J V nx,J Z x.tg,J Z x.br,J V tk,J Z k,J Z 0]:=((BD.out.set_ 5 _).set_ 6 _).drew;have fE:Fr (λq=>q=gp) wd ((wd.setCell ⟨gp,5,G⟩ (U D x.ld.length cd)).setCell ⟨gp,6,G⟩ (U R x.lr.length cr)).drew:=(((Ao (λq=>q=gp) wd).setCell (p:=⟨gp,5,G⟩) (.inl rfl) _).setCell (p:=⟨gp,6,G⟩) (.inl rfl) _).drew;generalize((wd.setCell ⟨gp,5,G⟩ (U D x.ld.length cd)).setCell ⟨gp,6,G⟩ (U R x.lr.length cr)).drew=we at*;have e0:=bE.cell 0;have e13:=bE.cell 13;have y13:=bE.frozen 13;have el:=bE.lt;have BE:=T bE;have FE:=T fE;clear bE fE d14 d18 dgl q5 q6 y5 y6 dl;go_upto_region 22 with(fail);have bF:Blk (we.setCell ⟨gp,13,G⟩ (J .i64 nC)) gp 215 #[U C nC cc,J Z x.nd,J Z x.nr,J Z x.hd,J Z x.hr,U D x.ld.length cd,U R x.lr.length cr,J Z x.fl,J V nx,J Z x.tg,J Z x.br,J V tk,J Z k,J Z nC]:=BE.out.set_ 13 _;have fF:Fr (λq=>q=gp) we (we.setCell ⟨gp,13,G⟩ (J .i64 nC)):=(Ao (λq=>q=gp) we).setCell (p:=⟨gp,13,G⟩) (.inl rfl) _;generalize we.setCell ⟨gp,13,G⟩ (J .i64 nC)=wf at*;have f0:Fr Aj wr wf:=(((FW.out.trans HF2.out (λq hq e=>Fo)).trans FD.out (λq hq e=>Fo)).trans FE.out (λq hq e=>Fo)).trans fF (λq hq e=>Fo);have lw:=hL.out.fr0 f0;have hnc:=HNC.out;subst hnc;obtain⟨hq1,hq2⟩:=HN2.out;have hlow:lower0 pc l=⟨x.code,x.nd,x.nr,x.hd,x.hr,x.ld,x.lr,x.fl,nx,x.tg,x.br,tk,k⟩:=by
           rw[←hq1,←hq2];unfold lower0;dsimp only;rw[HX.out,HN.out]
          have HLOW:=T hlow;have hwf:=lower_wf pc l ⟨p0,p1⟩ HNE.out (by rw[HN.out];exact hN8) (λi hi=>⟨(HR.out i hi).2.1,(HR.out i hi).2.2⟩) HE.out;rw[hlow] at hwf;have hpr:PgR wf ↑wf ⟨x.code,x.nd,x.nr,x.hd,x.hr,x.ld,x.lr,x.fl,nx,x.tg,x.br,tk,k⟩ ⟨C,cc,D,cd,R,cr⟩:=⟨AtI.of lw.c,At64.of lw.d rfl,At64.of lw.r rfl,own_cap lw.c,AE _⟩;have Hsw:=T (Vx wf ↑wf _ _ hpr hwf);have b0:=(B0.out.fr hF.out Iv).fr f0 id;have B00:=T b0;have FF:=T ((((F1.out.mono (S':=λq=>g≤q) (λ_ _ e=>e.elim)).tr hF.out).mono (S':=λq=>w.heap.size≤q) (λq hq e=>Iv)).trans f0 (λ_ _ e=>e.elim));clear hq1 hq2 hlow hwf hpr lw b0 f0 fF e0 e13 y13 el;go_wp2_with ((with_reducible refine wpL_lq bF Dl sz14 ?_));refine Ay Hsw ?_;rintro e w7 ⟨v7,rfl,hpg,f7⟩;have b7:=B00.out.fr f7 id;have HPG:=T hpg;have HF7:=T f7;have o7:(pgA (sweepP ⟨x.code,x.nd,x.nr,x.hd,x.hr,x.ld,x.lr,x.fl,nx,x.tg,x.br,tk,k⟩) v7).all (·.oneCell')=Af:=by simp[pgA,Value.oneCell']
          clear hpg f7 bF Hsw;go_wp2_with (((with_reducible refine wpL_sq (cs':=pgA (sweepP ⟨x.code,x.nd,x.nr,x.hd,x.hr,x.ld,x.lr,x.fl,nx,x.tg,x.br,tk,k⟩) v7) b7 sz14 o7 ?_);intro W8 b8 f8;have HB8:=T b8;have HF8:=T f8;clear b8 f8 b7 o7));refine Bf (results_ct rfl _ _ w.heap.size 215 _ _ (J Z 0) rfl rfl HB8.out Dl rfl sz14) rfl ?_;rw[HLOW.out];have hfz:w.heap.size+1≤wf.heap.size:=by have:=B00.out.lt;omega
          exact⟨v7,rfl,(⟨own_low HPG.out.c hfz,own_low HPG.out.d hfz,own_low HPG.out.r hfz⟩:PgO w7 (↑w+1) _ v7).fr HF8.out (λq hq e=>Gn),((FF.out.trans HF7.out (λ_ _ e=>e.elim)).trans HF8.out (λq hq e=>by have e:q=w.heap.size:=e;show w.heap.size≤q;omega)).mono (λq hq e=>by have e:w.heap.size≤q:=e;omega)⟩
         exact AR
        exact AR
       exact AR
      exact AR
     exact AR
    exact AR
end Lw_
end Go.Proofs.YtpmlgdopfafcgaaGreatDoor
