import Derived.Test.YtdfegdoeebaagaaGreatDoorX22
import Derived.Test.YtdfegdoeebaagaaGreatDoorX28
open Go.Value renaming slice→Z,int→J,bool→Ap,tuple→AF,agg→A9,oneCell'→Ir
open Option renaming some→I,none→G
open Go.IntKind renaming i64→U,u32→V
open Go renaming World→Aa,Value→As,Calls→At,bodyPost_ret→Bt,TypeId→AN,wp_region_held_drew→C7,Ending→AY,Program→CF,undef→BY
open Bool renaming false→Ac,true→Ag
open List renaming getD_eq_getElem?_getD→AS,getElem?_eq_getElem→BK,getElem_mem→CE,length_pos_iff→Ef,cons_append→DI,getLastD_eq_getLast?→FI,concat_eq_append→Is
open Go.Ending renaming returned→Ax
open And renaming intro→Ay
open Nat renaming le_refl→AD,lt_of_lt_of_le→Bg
open Or renaming inl→Af,inr→Ah
open Go.Proofs.Tryz renaming underlying218→Gi
open Go.RowKit renaming intOf→AM
open Go.Result renaming andThen→ES
open Go.Sem renaming run_bind→GT
set_option linter.all false
set_option maxHeartbeats 40000000
set_option maxRecDepth 1000000
open Go Go.RowKit
namespace Go.Proofs.YtdfegdoeebaagaaGreatDoor
namespace Lw_
open Gs Sv Tr Em Ip Lo Sw
theorem O5: ∀(l:List Ins) (pc:Int) (i:Ins),pcs pc (l++[i])=(pcs pc l+AK i.op)%4294967296
 |[],pc,i=>rfl
 |a::l,pc,i=>by rw[DI,pcs,pcs,O5 l]
theorem ZW: ∀(l:List Ins) (x:Lw) (pc:Int) (i:Ins),x.all pc (l++[i])=(x.all pc l).one i (pcs pc (l++[i]))
 |[],x,pc,i=>rfl
 |a::l,x,pc,i=>by rw[DI,Lw.all,Lw.all,pcs,ZW l]
def AtN(w:Aa)(B:Nat)(A:Aw)(l:List Ins):Prop:= ∀k,k<l.length→ ∃b o,A=I ⟨b,o,G⟩∧b<B∧w.cell? ⟨b,o+k*2,G⟩=I (J U (l.getD k ⟨0,0⟩).op)∧w.cell? ⟨b,o+k*2+1,G⟩=I (J V (l.getD k ⟨0,0⟩).n)
theorem AtN.fr{w w':Aa}{B:Nat}{A:Aw}{l:List Ins}{S:AE}(h:AtN w B A l)(f:Fr S w w')(hB:B≤↑w)(hs: ∀k,k<B→ ¬S k):AtN w' B A l:=λk hk=>by
 obtain⟨b,o,e,hb,c0,c1⟩:=h k hk;have hl:b<↑w:=O;exact⟨b,o,e,hb,f.cell c0 hl (hs b hb),f.cell c1 hl (hs b hb)⟩
theorem take_sn{l:List Ins}{k:Nat}(h:k<l.length):l.take (k+1)=l.take k++[l.getD k ⟨0,0⟩]:=QU
theorem pcs_bd(l:List Ins)(pc:Int)(h0:0≤pc)(h1:pc≤4294967295):0≤pcs pc l∧pcs pc l≤4294967295:=by
 rcases l.eq_nil_or_concat with rfl|⟨m,q,rfl⟩;·exact⟨h0,h1⟩
 ·rw[Is,O5];omega
abbrev Ll(C:Aw)(nC cc:Nat)(x:Lw)(k:Nat):AO:=#[Z C nC cc,J U 0,J U 0,J U 0,J U 0,Z G 0 0,Z G 0 0,J U x.fl,J V 0,J U x.tg,J U x.br,J V 0,J U k,J U 0]
abbrev lcP(C:Aw)(nC cc:Nat)(x:Lw)(k:Nat)(nx tk:Int):AO:=#[Z C nC cc,J U 0,J U 0,J U 0,J U 0,Z G 0 0,Z G 0 0,J U x.fl,J V nx,J U x.tg,J U x.br,J V tk,J U k,J U 0]
theorem last_at(l:List Ins)(h:l≠[]):EU l=l.getD (l.length -1) ⟨0,0⟩:=by
 unfold EU;exact VM
theorem results_ct{P:CF}{fn:Func}{p q:Tmp}{ty':AN}(h:fn.results=#[.cell q ty',.tmp p])(tmps:AO)(w:Aa)(g':Nat)(t':AN)(cs':AO)(d':TypeDesc)(v:As)(hp:tmps.getD p BY=v)(hq:tmps.getD q BY=↑g')(hg':Blk w g' t' cs')(hu':P.underlying ty'=I d')(hd':(match d' with|.struct _|.array _ _=>Ag|_=>Ac)=Ag)(hi':(P.info? ty').map (·.size)=I cs'.size):(results fn tmps).run P w=.ok (AF #[A9 cs',v]) w:=Ns
def LowPost(w:Aa)(q:Pg)(e:AY)(w':Aa):Prop:= ∃v,e=Ax (AF #[A9 (pgA q v),J U 0])∧PgO w' (↑w+1) q v∧Fr Aj w w'
abbrev z22(n:Nat):AO:=#[Z G 0 0,J U 0,J U 0,J U 0,J U 0,Z G 0 0,Z G 0 0,J U (-1),J V 0,J U (-1),J U 0,J V 0,J U n,J U 0,Z G 0 0,J U 0,J U 0,J U 1,Z G 0 0,J U 0,J U 0,J U 2]
theorem lower_any(w:Aa)(pc:Int)(p0:0≤pc)(p1:pc≤4294967295)(A:Aw)(c B:Nat)(l:List Ins)(h:AtN w B A l)(hB:B≤↑w)(hr: ∀i∈l,DR i=Ag∧BZ i.op=Ag∧0≤i.n∧i.n≤4294967295)(hne:l≠[])(h8:l.length≤8)(hends: ∀i∈l.dropLast,endsB i.op=Ac):At Tryz.prog 116 #[J V pc,Z A l.length c] w (LowPost w (sweepP (lower0 pc l))):=by
 obtain⟨N,hN⟩:=A8 l.length;have hN1:1≤N:=by have:=Ef.2 hne;omega
 have hN8:N≤8:=O;have H:=T h;have HR:=T hr;have HE:=T hends;have HN:=T hN;have HNE:=T hne;have d1:decide ((N:Int)<1)=Ac:=AA;have d2:decide ((N:Int)>8)=Ac:=AA;rw[hN] at h8⊢;clear h hr hends hN hne;go_in;go_upto_region 4 with(fail);have b0:Blk ((w.alloc (.cells z14 218)).alloc (.cells (z22 N) 251)) ↑w 218 z14:=(AI _ _ _).alloc _;have hL0:LwH ((w.alloc (.cells z14 218)).alloc (.cells (z22 N) 251)) (↑w+1) ⟨↑w+1,G,0,G,0,G,0⟩ Lw.new N 0:=
  ⟨by
   have:=Cells.new' (w.alloc (.cells z14 218)) 251 (z22 N) 22 (lwF Lw.new (Z G 0 0) (Z G 0 0) (Z G 0 0) N) rfl;rw[show(w.alloc (.cells z14 218)).heap.size=w.heap.size+1 by simp] at this;exact this,⟨rfl,Af ⟨rfl,rfl⟩⟩,⟨rfl,Af ⟨rfl,rfl⟩⟩,⟨rfl,Af ⟨rfl,rfl⟩⟩,λk e=>by simp[ab] at e,AD _,⟨AD _,AD _,AD _,AD _,AD _,AD _,AD _⟩⟩
 have f1:Fr Aj w ((w.alloc (.cells z14 218)).alloc (.cells (z22 N) 251)):=((Ao _ w).alloc _).alloc _;generalize(w.alloc (.cells z14 218)).alloc (.cells (z22 N) 251)=W1 at*;obtain⟨g,hg⟩:=A8 (w.heap.size+1);rw[hg] at hL0⊢;have HG:=T hg;have B0:=T b0;have HL0:=T hL0;have F1:=T f1;clear b0 hL0 f1 hg;go_wp2_with fail;go_loopw [29,0] (λi pv wr=> ∃(k:Nat) (C:Aw) (cc:Nat) (D:Aw) (cd:Nat) (R:Aw) (cr:Nat),k≤N∧i=J U k∧pv=J V (pcs pc (l.take k))∧Hid (LwH wr g ⟨g,C,cc,D,cd,R,cr⟩ (Lw.new.all pc (l.take k)) N (12*k))∧Hid (Fr (λq=>g≤q) W1 wr)) (λi _ _=>N -(AM i).toNat)
 case atStart=>exact⟨0,G,0,G,0,G,0,O,rfl,rfl,HL0,T (Ao _ _)⟩
 case round=>
  obtain⟨k,C,cc,D,cd,R,cr,hk,rfl,rfl,hL,hF⟩:=hrel;by_cases hlt:k<N
  ·have hkl:k<l.length:=ME;have hBg:B≤g:=O6;have f2:Fr (λq=>g≤q) w wr:=(F1.out.mono (λ_ _ e=>e.elim)).tr hF.out;obtain⟨b,o,e3,hb,e0,e1⟩:=(H.out.fr f2 hB (λq hq e=>O)) k hkl;have hm:l.getD k ⟨0,0⟩∈l:=Lj;obtain⟨hr1,hr2,hr3,hr4⟩:=HR.out _ hm;have hends:endsB (l.getD k ⟨0,0⟩).op=Ag→k=N -1:=λhe=>by
    by_cases q:k=N -1;·exact q
    ·exfalso;have h2:l.getD k ⟨0,0⟩∈l.dropLast:=by
      have hd:k<l.dropLast.length:=by rw[List.length_dropLast,HN.out];omega
      have h3:l.dropLast[k]=l[k]:=List.getElem_dropLast hd;rw[AS,BK hkl,Option.getD_some,←h3];exact CE hd
     have h4:=HE.out _ h2;rw[he] at h4
     cases h4
   have HS:Hid (l.take (k+1)=l.take k++[l.getD k ⟨0,0⟩]):=T (take_sn hkl);subst e3;have hbl:b<↑wr:=by have:=f2.size;omega
   have hpb:=pcs_bd (l.take k) pc p0 p1;obtain⟨x,hx⟩:=A8 (l.getD k ⟨0,0⟩);rw[hx] at e0 e1 hm hr1 hr2 hr3 hr4 hends HS;obtain⟨op,n⟩:=x;dsimp only at e0 e1 hr1 hr2 hr3 hr4 hends;obtain⟨z,hz⟩:=A8 (pcs pc (l.take k));have hsz:=Gc.size_cases op;obtain⟨sz,hs⟩:=A8 (AK op);have hp1:Hid (pcs pc (l.take (k+1))=(z+sz)%4294967296):=T (by rw[HS.out,O5,hz,hs]);have hp2:Hid (Lw.new.all pc (l.take (k+1))=(Lw.new.all pc (l.take k)).one ⟨op,n⟩ ((z+sz)%4294967296)):=T (by rw[HS.out,ZW,O5,hz,hs]);have Hr:Hid (∀W,At Tryz.prog 140 #[A9 #[J U op,J V n]] W λe w'=>e=Ax (Ap Ag)∧Fr Aj W w'):=T (λW=>by have:=Gc.right_any W ⟨op,n⟩;rw[hr1] at this;exact this);have Hp:Hid (∀W,At Tryz.prog 138 #[J U op] W λe w'=>e=Ax (Ap Ag)∧W=w'):=T (λW=>by have:=Gc.plain_any W op;rw[hr2] at this;exact this);have Hs:Hid (∀W,At Tryz.prog 128 #[J U op] W λe w'=>e=Ax (J U sz)∧W=w'):=T (λW=>by have:=Gc.size_any W op;rw[hs] at this;exact this);rw[hz] at hpb⊢;rw[hs] at hsz;have hw:IntKind.u32.wrap sz=sz:=by rcases hsz with rfl|rfl|rfl|rfl<;>rfl
   have HP:=T hr2;clear hm hr1 hr2 hs hz HS hx hkl;obtain⟨eb,heb⟩:=A8 (endsB op);have He:Hid (∀W,At Tryz.prog 132 #[J U op] W λe w'=>e=Ax (Ap eb)∧W=w'):=T (λW=>by have:=Gc.ends_any W op;rw[heb] at this;exact this);rw[heb] at hends;clear heb;have bx:Blk (wr.alloc (.cells #[J U op,J V n] 27)) ↑wr 27 #[J U op,J V n]:=AI _ _ _;have fx:Fr Aj wr (wr.alloc (.cells #[J U op,J V n] 27)):=(Ao _ wr).alloc _;have BX:=T bx;have FX:=T fx;clear bx fx;have hd3:eb=Ag→decide ((k:Int)<(N:Int) -1)=Ac:=λe=>by have:=hends e;simp;omega
   cases eb
   ·exact ZX
   ·have hkN:=hd3 rfl;exact ZX
  ·obtain rfl:k=N:=O;have e1:l.take k=l:=by rw[←HN.out,List.take_length]
   rw[e1] at hL⊢;obtain⟨x,hx⟩:=A8 (Lw.new.all pc l);obtain⟨z,hz⟩:=A8 (pcs pc l);rw[hx] at hL;rw[hz];obtain⟨cs,hb,hcs,hc⟩:=hL.out.b;have hb:Blk wr g 251 cs:=hb;have hgl:=hb.lt;have HX:=T hx;have HZ:=T hz;obtain⟨nC,hnC⟩:=A8 x.code.length;have HNC:=T hnC;have hds: ∀j,j<(Ll C nC cc x k).size→cs[j]?=(Ll C nC cc x k)[j]?:=λj hj=>by
    have hj:j<14:=hj;rw[hc j O,←hnC];have hcj:j=0∨j=1∨j=2∨j=3∨j=4∨j=5∨j=6∨j=7∨j=8∨j=9∨j=10∨j=11∨j=12∨j=13:=O;rcases hcj with rfl|rfl|rfl|rfl|rfl|rfl|rfl|rfl|rfl|rfl|rfl|rfl|rfl|rfl<;>rfl
   have HD:=T hds;have HB:=T hb;clear hc hcs hx hz hds hnC e1 hb;have bz:=AI wr 218 z14;have oz:(Ll C nC cc x k).all (·.oneCell')=Ag:=by simp[Ll,Ir]
   go_upto_region 13 with(first
    |((with_reducible refine Rn.wpL_ldm (Ll C nC cc x k) HB.out Gi Ec ?q1 ?q2 HD.out ?q3 ?_);(case q1=>rfl);(case q2=>rfl);(case q3=>rfl))
    |((with_reducible refine BL (cs':=Ll C nC cc x k) bz Ec oz ?_);intro W5 b5 f5;have HB5:=T b5;have HF5:=T f5;clear b5 f5 bz oz))
   obtain⟨gp,hgp⟩:=A8 wr.heap.size;rw[hgp] at HB5 HF5⊢;have hF5:Fr (λq=>g≤q) W1 W5:=(hF.out.alloc _).trans HF5.out (λq hq e=>QV);have hkl:k -1<l.length:=by rw[HN.out];omega
   have f2:Fr (λq=>g≤q) w W5:=(F1.out.mono (λ_ _ e=>e.elim)).tr hF5;obtain⟨b,o,e3,hb,e0,e1⟩:=(H.out.fr f2 hB (λq hq e=>O6)) (k -1) hkl;have hla:EU l=l.getD (k -1) ⟨0,0⟩:=by rw[last_at l HNE.out,HN.out]
   have hm:l.getD (k -1) ⟨0,0⟩∈l:=Lj;obtain⟨_,_,hr3,hr4⟩:=HR.out _ hm;subst e3;have hbl:b<↑W5:=by have:=f2.size;omega
   have hk1:((k:Int) -1).toNat=k -1:=O;obtain⟨ii,hii⟩:=A8 (l.getD (k -1) ⟨0,0⟩);rw[hii] at e0 e1 hla hr3 hr4;obtain⟨op,n⟩:=ii;dsimp only at e0 e1 hr3 hr4;have HLA:=T hla;have HF5':=T hF5;have c8:=HB5.out.cell 8;have y8:=HB5.out.frozen 8;have cl5:=HB5.out.lt;have hkk:((k:Int) -1)=((k -1:Nat):Int):=O;have hne1:b≠gp:=by have:=F1.out.size;have:=hF.out.size;omega
   have hne2:gp≠b:=λe=>hne1 e.symm;clear hla hF5 f2 hm hii hkl;go_upto_block 2 with(fail);have hgg:g≤gp:=by have:=HG.out;have:=F1.out.size;have:=hF.out.size;have:=hgl;omega
   have bp6:Blk ((W5.setCell ⟨gp,8,G⟩ (J V z)).alloc (.cells #[J U op,J V n] 27)) gp 218 (lcP C nC cc x k z 0):=(HB5.out.set_ 8 _).alloc _;have bl6:Blk ((W5.setCell ⟨gp,8,G⟩ (J V z)).alloc (.cells #[J U op,J V n] 27)) ↑W5 27 #[J U op,J V n]:=CK _ _ _ JM;have f6:Fr (λq=>g≤q) W1 ((W5.setCell ⟨gp,8,G⟩ (J V z)).alloc (.cells #[J U op,J V n] 27)):=(HF5'.out.setCell (p:=⟨gp,8,G⟩) (Af hgg) _).alloc _;have fw:Fr Aj wr ((W5.setCell ⟨gp,8,G⟩ (J V z)).alloc (.cells #[J U op,J V n] 27)):=(((((Ao Aj wr).alloc _).trans HF5.out (λq hq e=>Lm)).setCell (p:=⟨gp,8,G⟩) (Ah (by show ↑wr≤gp;omega)) _)).alloc _;generalize(W5.setCell ⟨gp,8,G⟩ (J V z)).alloc (.cells #[J U op,J V n] 27)=W6 at*;obtain⟨gl,hgl5⟩:=A8 W5.heap.size;rw[hgl5] at bl6⊢;have hglp: ¬gl=gp:=bl6.ne_ bp6 Ak;have BP6:=T bp6;have BL6:=T bl6;have F6:=T f6;have FW:=T fw;clear fw;have HNT:Hid ((lower0 pc l).nx=(if op=32∨op=38 then(z+CM n)%4294967296 else z)∧(lower0 pc l).tk=(if op=32∨op=38 then 0 else if x.br≠0 then(z+CM n)%4294967296 else 0)):=T (by
    unfold lower0;dsimp only;rw[HLA.out,HX.out,HZ.out];exact⟨rfl,rfl⟩)
   have Hsg:=T (λW=>Ar.sign_any W n hr3 hr4);clear e0 e1 hbl c8 y8 cl5 bp6 bl6 f6 HB5 HF5 HF5' hne1 hne2 hk1 hkk;go_cut [] (λwx=> ∃nx tk:Int,Hid ((lower0 pc l).nx=nx∧(lower0 pc l).tk=tk)∧Hid (Blk wx gp 218 (lcP C nC cc x k nx tk))∧Hid (Fr (λq=>q=gp) W6 wx));case first=>
    have l0:W6.cell? ⟨gl,0,G⟩=I (J U op):=BL6.out.cell 0;have l1:W6.cell? ⟨gl,1,G⟩=I (J V n):=BL6.out.cell 1;have ll:=BL6.out.lt;have q8:W6.cell? ⟨gp,8,G⟩=I (J V z):=BP6.out.cell 8;have q10:W6.cell? ⟨gp,10,G⟩=I (J U x.br):=BP6.out.cell 10;have q11:W6.cell? ⟨gp,11,G⟩=I (J V 0):=BP6.out.cell 11;have ql:=BP6.out.lt;have y8:=BP6.out.frozen 8;have y11:=BP6.out.frozen 11;by_cases hj:op=32∨op=38
    ·have HJ:=T hj;obtain⟨b1,hb1⟩:=A8 (op==32);have hb2:b1=Ac→(op==38)=Ag:=λe=>by
      rw[e] at hb1;have: ¬op=32:=RW;simp;omega
     clear hj
     cases b1
     ·have hb3:=hb2 rfl;exact ZY
     ·exact ZY
    ·have HJ:=T hj;have hb1:(op==32)=Ac:=AA;have hb2:(op==38)=Ac:=AA;obtain⟨b3,hb3⟩:=A8 (x.br !=0);clear hj
     cases b3
     ·have hb4:x.br=0:=O7;have HB4:=T hb4;clear hb4
      go_wp2
      go_meet;exact⟨z,0,T (by rw[HNT.out.1,HNT.out.2,Ae HJ.out,Ae HJ.out,Ae (by simpa using HB4.out)];exact⟨rfl,rfl⟩),BP6,T (Ao _ _)⟩
     ·have hb4: ¬x.br=0:=O7;have HB4:=T hb4;clear hb4;go_wp2_with ((with_reducible refine(Hsg.out _).mono ?_);rintro e wq ⟨rfl,rfl⟩);go_meet;exact⟨z,(z+CM n)%4294967296,T (by rw[HNT.out.1,HNT.out.2,Ae HJ.out,Ae HJ.out,An HB4.out];exact⟨rfl,rfl⟩),T (BP6.out.set_ 11 _),T ((Ao (λq=>q=gp) W6).setCell (p:=⟨gp,11,G⟩) (Af rfl) _)⟩
   case rest=>
    obtain⟨nx,tk,HN2,HB2,HF2⟩:=hcut;have lw:=hL.out.fr0 (FW.out.trans HF2.out (λq hq e=>Lm));have lb:Cells wc g 251 22 _:=lw.b;have HLW:=T lw;have c14:wc.drew.cell? ⟨g,14,G⟩=I (Z D x.ld.length cd):=lb.cell 14 O;have c15:wc.drew.cell? ⟨g,15,G⟩=I (J U x.nd):=lb.cell 15 O;have c16:wc.drew.cell? ⟨g,16,G⟩=I (J U x.hd):=lb.cell 16 O;have c18:wc.drew.cell? ⟨g,18,G⟩=I (Z R x.lr.length cr):=lb.cell 18 O;have c19:wc.drew.cell? ⟨g,19,G⟩=I (J U x.nr):=lb.cell 19 O;have c20:wc.drew.cell? ⟨g,20,G⟩=I (J U x.hr):=lb.cell 20 O;have cgl:g<↑wc:=lb.lt;have hne3:g≠gp:=by
     obtain⟨cs2,hb2,_⟩:=lb;exact hb2.ne_ HB2.out Ak
    have c15w:wc.cell? ⟨g,15,G⟩=I (J U x.nd):=c15;have c16w:wc.cell? ⟨g,16,G⟩=I (J U x.hd):=c16;have c19w:wc.cell? ⟨g,19,G⟩=I (J U x.nr):=c19;have c20w:wc.cell? ⟨g,20,G⟩=I (J U x.hr):=c20;have c14w:wc.cell? ⟨g,14,G⟩=I (Z D x.ld.length cd):=c14;have c18w:wc.cell? ⟨g,18,G⟩=I (Z R x.lr.length cr):=c18;have yf: ∀j,wc.frozen? ⟨gp,j,G⟩=Ac:=HB2.out.frozen;have q1:=HB2.out.cell 1;have q2:=HB2.out.cell 2;have q3:=HB2.out.cell 3;have q4:=HB2.out.cell 4;have y1:=yf 1;have y2:=yf 2;have y3:=yf 3;have y4:=yf 4;have ql:=HB2.out.lt;clear lw lb c14 c15 c16 c18 c19 c20 yf;go_upto_region 19 with(fail);refine C7 (S:=Fr (λq=>q=gp) wc) AL ((Ao (λq=>q=gp) wc).drew) (λhH=>?_);refine Av 0 rfl hH CY ?_;refine Av 1 rfl hH CY ?_;refine Av 2 rfl hH CY ?_
    try simp only[AG]
    refine Av 3 rfl hH CY ?_;refine Av 4 rfl hH CY ?_;refine Av 5 rfl hH CY ?_
    try simp only[AG]
    refine Av 6 rfl hH CY ?_;refine Av 7 rfl hH CY ?_;refine Av 8 rfl hH CY ?_
    try simp only[AG]
    refine Av 9 rfl hH CY ?_;refine Av 10 rfl hH CY ?_;refine Av 11 rfl hH CY ?_
    try simp only[AG]
    refine Av 12 rfl hH CY ?_;refine Av 13 rfl hH CY ?_;refine Av 14 rfl hH CY ?_
    try simp only[AG]
    refine Av 15 rfl hH CY ?_;refine Av 16 rfl hH CY ?_;refine Av 17 rfl hH CY ?_
    try simp only[AG]
    refine Av 18 rfl hH CY ?_;refine Av 19 rfl hH CY ?_;refine Av 20 rfl hH CY ?_
    try simp only[AG]
    refine Bb [21] ?_;refine AT (λK hK=>?_) ?_
    ·go_simp;refine hK.out _ _ (hH.setCell (Af rfl) _) λhH=>?_;clear hK K;refine Av 22 rfl hH CY ?_
     try simp only[AG]
     refine Bb [23] ?_;refine AT (λK hK=>?_) ?_
     ·go_simp;refine hK.out _ _ (hH.setCell (Af rfl) _) λhH=>?_;clear hK K;refine Av 24 rfl hH CY ?_
      try simp only[AG]
      refine Bb [25] ?_;refine AT (λK hK=>?_) ?_
      ·go_simp;refine hK.out _ _ (hH.setCell (Af rfl) _) λhH=>?_;clear hK K;refine Av 26 rfl hH CY ?_
       try simp only[AG]
       refine Bb [27] ?_;refine AT (λK hK=>?_) ?_
       ·go_simp;refine hK.out _ _ (hH.setCell (Af rfl) _) λhH=>?_;clear hK K;refine CT ?_
        try simp only[AG]
        go_upto_region 20 with(fail);have bD:Blk ((((wc.setCell ⟨gp,1,G⟩ (J U x.nd)).setCell ⟨gp,2,G⟩ (J U x.nr)).setCell ⟨gp,3,G⟩ (J U x.hd)).setCell ⟨gp,4,G⟩ (J U x.hr)).drew gp 218 #[Z C nC cc,J U x.nd,J U x.nr,J U x.hd,J U x.hr,Z G 0 0,Z G 0 0,J U x.fl,J V nx,J U x.tg,J U x.br,J V tk,J U k,J U 0]:=((((HB2.out.set_ 1 _).set_ 2 _).set_ 3 _).set_ 4 _).drew;have fD:Fr (λq=>q=gp) wc ((((wc.setCell ⟨gp,1,G⟩ (J U x.nd)).setCell ⟨gp,2,G⟩ (J U x.nr)).setCell ⟨gp,3,G⟩ (J U x.hd)).setCell ⟨gp,4,G⟩ (J U x.hr)).drew:=(((((Ao (λq=>q=gp) wc).setCell (p:=⟨gp,1,G⟩) (.inl rfl) _).setCell (p:=⟨gp,2,G⟩) (.inl rfl) _).setCell (p:=⟨gp,3,G⟩) (.inl rfl) _).setCell (p:=⟨gp,4,G⟩) (.inl rfl) _).drew;generalize((((wc.setCell ⟨gp,1,G⟩ (J U x.nd)).setCell ⟨gp,2,G⟩ (J U x.nr)).setCell ⟨gp,3,G⟩ (J U x.hd)).setCell ⟨gp,4,G⟩ (J U x.hr)).drew=wd at*;have d14:=fD.cell c14w cgl hne3;have d18:=fD.cell c18w cgl hne3;have dgl:=Bg cgl fD.size;have BD:=T bD;have FD:=T fD;have q5:=bD.cell 5;have q6:=bD.cell 6;have y5:=bD.frozen 5;have y6:=bD.frozen 6;have dl:=bD.lt;clear bD fD c14w c15w c16w c18w c19w c20w q1 q2 q3 q4 y1 y2 y3 y4 ql;refine C7 (S:=Fr (λq=>q=gp) wd) AL ((Ao (λq=>q=gp) wd).drew) (λhH=>?_);refine Av 0 rfl hH GK ?_;refine Av 1 rfl hH GK ?_;refine Av 2 rfl hH GK ?_
        try simp only[AG]
        refine Av 3 rfl hH GK ?_;refine Av 4 rfl hH GK ?_;refine Av 5 rfl hH GK ?_
        try simp only[AG]
        refine Av 6 rfl hH GK ?_;refine Av 7 rfl hH GK ?_;refine Av 8 rfl hH GK ?_
        try simp only[AG]
        refine Av 9 rfl hH GK ?_;refine Av 10 rfl hH GK ?_
        try simp only[AG]
        refine Bb [11] ?_;refine AT (λK hK=>?_) ?_
        ·go_simp;refine hK.out _ _ (hH.setCell (Af rfl) _) λhH=>?_;clear hK K;refine Av 12 rfl hH GK ?_
         try simp only[AG]
         refine Bb [13] ?_;refine AT (λK hK=>?_) ?_
         ·go_simp;refine hK.out _ _ (hH.setCell (Af rfl) _) λhH=>?_;clear hK K;refine CT ?_
          try simp only[AG]
          go_upto_region 21 with(fail);have bE:Blk ((wd.setCell ⟨gp,5,G⟩ (Z D x.ld.length cd)).setCell ⟨gp,6,G⟩ (Z R x.lr.length cr)).drew gp 218 #[Z C nC cc,J U x.nd,J U x.nr,J U x.hd,J U x.hr,Z D x.ld.length cd,Z R x.lr.length cr,J U x.fl,J V nx,J U x.tg,J U x.br,J V tk,J U k,J U 0]:=((BD.out.set_ 5 _).set_ 6 _).drew;have fE:Fr (λq=>q=gp) wd ((wd.setCell ⟨gp,5,G⟩ (Z D x.ld.length cd)).setCell ⟨gp,6,G⟩ (Z R x.lr.length cr)).drew:=(((Ao (λq=>q=gp) wd).setCell (p:=⟨gp,5,G⟩) (.inl rfl) _).setCell (p:=⟨gp,6,G⟩) (.inl rfl) _).drew;generalize((wd.setCell ⟨gp,5,G⟩ (Z D x.ld.length cd)).setCell ⟨gp,6,G⟩ (Z R x.lr.length cr)).drew=we at*;have e0:=bE.cell 0;have e13:=bE.cell 13;have y13:=bE.frozen 13;have el:=bE.lt;have BE:=T bE;have FE:=T fE;clear bE fE d14 d18 dgl q5 q6 y5 y6 dl;go_upto_region 22 with(fail);have bF:Blk (we.setCell ⟨gp,13,G⟩ (J .i64 nC)) gp 218 #[Z C nC cc,J U x.nd,J U x.nr,J U x.hd,J U x.hr,Z D x.ld.length cd,Z R x.lr.length cr,J U x.fl,J V nx,J U x.tg,J U x.br,J V tk,J U k,J U nC]:=BE.out.set_ 13 _;have fF:Fr (λq=>q=gp) we (we.setCell ⟨gp,13,G⟩ (J .i64 nC)):=(Ao (λq=>q=gp) we).setCell (p:=⟨gp,13,G⟩) (.inl rfl) _;generalize we.setCell ⟨gp,13,G⟩ (J .i64 nC)=wf at*;have f0:Fr Aj wr wf:=(((FW.out.trans HF2.out (λq hq e=>Lm)).trans FD.out (λq hq e=>Lm)).trans FE.out (λq hq e=>Lm)).trans fF (λq hq e=>Lm);have lw:=hL.out.fr0 f0;have hnc:=HNC.out;subst hnc;obtain⟨hq1,hq2⟩:=HN2.out;have hlow:lower0 pc l=⟨x.code,x.nd,x.nr,x.hd,x.hr,x.ld,x.lr,x.fl,nx,x.tg,x.br,tk,k⟩:=by
           rw[←hq1,←hq2];unfold lower0;dsimp only;rw[HX.out,HN.out]
          have HLOW:=T hlow;have hwf:=lower_wf pc l ⟨p0,p1⟩ HNE.out (by rw[HN.out];exact hN8) (λi hi=>⟨(HR.out i hi).2.1,(HR.out i hi).2.2⟩) HE.out;rw[hlow] at hwf;have hpr:PgR wf ↑wf ⟨x.code,x.nd,x.nr,x.hd,x.hr,x.ld,x.lr,x.fl,nx,x.tg,x.br,tk,k⟩ ⟨C,cc,D,cd,R,cr⟩:=⟨AtI.of lw.c,At64.of lw.d rfl,At64.of lw.r rfl,own_cap lw.c,AD _⟩;have Hsw:=T (oH wf ↑wf _ _ hpr hwf);have b0:=(B0.out.fr hF.out O6).fr f0 id;have B00:=T b0;have FF:=T ((((F1.out.mono (S':=λq=>g≤q) (λ_ _ e=>e.elim)).tr hF.out).mono (S':=λq=>w.heap.size≤q) (λq hq e=>O6)).trans f0 (λ_ _ e=>e.elim));clear hq1 hq2 hlow hwf hpr lw b0 f0 fF e0 e13 y13 el;go_wp2_with ((with_reducible refine wpL_lq bF Gi Ec ?_));refine Az Hsw ?_;rintro e w7 ⟨v7,rfl,hpg,f7⟩;have b7:=B00.out.fr f7 id;have HPG:=T hpg;have HF7:=T f7;have o7:(pgA (sweepP ⟨x.code,x.nd,x.nr,x.hd,x.hr,x.ld,x.lr,x.fl,nx,x.tg,x.br,tk,k⟩) v7).all (·.oneCell')=Ag:=by simp[pgA,Ir]
          clear hpg f7 bF Hsw;go_wp2_with (((with_reducible refine BL (cs':=pgA (sweepP ⟨x.code,x.nd,x.nr,x.hd,x.hr,x.ld,x.lr,x.fl,nx,x.tg,x.br,tk,k⟩) v7) b7 Ec o7 ?_);intro W8 b8 f8;have HB8:=T b8;have HF8:=T f8;clear b8 f8 b7 o7));refine Bt (results_ct rfl _ _ w.heap.size 218 _ _ (J U 0) rfl rfl HB8.out Gi rfl Ec) rfl ?_;rw[HLOW.out];have hfz:w.heap.size+1≤wf.heap.size:=by have:=B00.out.lt;omega
          exact⟨v7,rfl,(⟨own_low HPG.out.c hfz,own_low HPG.out.d hfz,own_low HPG.out.r hfz⟩:PgO w7 (↑w+1) _ v7).fr HF8.out (λq hq e=>MJ),((FF.out.trans HF7.out (λ_ _ e=>e.elim)).trans HF8.out (λq hq e=>by have e:q=w.heap.size:=e;show w.heap.size≤q;omega)).mono (λq hq e=>by have e:w.heap.size≤q:=e;omega)⟩
         exact Bc
        exact Bc
       exact Bc
      exact Bc
     exact Bc
    exact Bc
end Lw_
namespace Lw_
open Gs Sv Tr Em Ip Lo Sw
theorem one14:z14.all (·.oneCell')=Ag:=by simp[z14,Ir]
theorem lower_nil(w:Aa)(pc:Int)(A:Aw)(c:Nat):At Tryz.prog 116 #[J V pc,Z A 0 c] w λe w'=>e=Ax (AF #[A9 z14,J U 12])∧Fr Aj w w':=by
 have b:=AI w 218 z14;have o:=one14;have f0:Fr Aj w (w.alloc (.cells z14 218)):=(Ao _ w).alloc _;have F0:=T f0;clear f0;go_in;go_wp2_with ((with_reducible refine BL (cs':=z14) b Ec o ?_);intro W1 b1 f1;have HB1:=T b1;have HF1:=T f1;clear b1 f1 b o);refine Bt (results_ct rfl _ _ w.heap.size 218 _ _ (J U 12) rfl rfl HB1.out Gi rfl Ec) rfl ⟨rfl,F0.out.trans HF1.out (λk hk e=>by have e:k=w.heap.size:=e;omega)⟩
end Lw_
end Go.Proofs.YtdfegdoeebaagaaGreatDoor
