import Derived.Test.YtdfegdoeebaagaaGreatDoorX15
import Derived.Test.YtdfegdoeebaagaaGreatDoorX27
open Go.Value renaming slice→Z,int→J,bool→Ap,tuple→AF,agg→A9
open Option renaming some→I,none→G
open Go.IntKind renaming i64→U,u32→V,wrap_u32→Gu
open Go renaming World→Aa,Value→As,Calls→At,TypeId→AN,Ending→AY,undef→BY
open Bool renaming false→Ac,true→Ag
open List renaming getD_eq_getElem?_getD→AS,getElem?_eq_getElem→BK,append_assoc→C9,getElem?_take_of_lt→Dq,getElem_mem→CE,getElem?_map→DP,cons_append→DI,length_take→Iv
open Go.Ending renaming returned→Ax
open And renaming intro→Ay
open Nat renaming le_refl→AD,le_trans→Bf,zero_le→Bj,zero_add→BW
open Or renaming inl→Af,inr→Ah
open Go.Proofs.Tryz renaming underlying218→Gi
open Go.RowKit renaming intOf→AM
open Array renaming getElem?_toList→DV
set_option linter.all false
set_option maxHeartbeats 40000000
set_option maxRecDepth 1000000
open Go Go.RowKit
namespace Go.Proofs.YtdfegdoeebaagaaGreatDoor
namespace Cd
open Gs Sv Tr Em Ip Al Hc
theorem eZ(p:Pg)(pl:Tr.Pl): ∀(l:List IIn) (n:Nat) (x:IIn),Dx p pl n (l++[x])=Dx p pl n l++G8 p pl (n+l.length) x
 |[],n,x=>by simp[Dx]
 |y::l,n,x=>by
  rw[DI,Dx,Dx,eZ p pl l,C9];congr 2;simp;congr 1;omega
section
variable (w:Aa) (base:Nat) (p:Ep) (l:List HI) (fx:List Nat) (Q:Nat→As) (B:Nat) (N:Nat) (pl:Tr.Pl) (pg:Pg)
theorem one_any(h:Em w base p ⟨l,fx⟩ Q B)(hB:B≤60000)(hP:Pln w base N Q pl)(hQ:Pq Q pg)(n:Nat)(hn:n<N)(x:IIn)(hm:MadeOk pg.nd pg.nr x n)(hnd:pg.nd≤16)(hnr:pg.nr≤16):At Tryz.prog 147 #[↑p.g,J U n,A9 (iiA x)] w (EPost w base p ⟨l++G8 pg pl n x,fx⟩ Q (B+60) (AF #[])):=by
 have h4:=hm.op;exact one_04 w base p l fx Q B N pl pg h hB hP hQ n hn x hm hnd hnr O
end
def cdQ(p:Pg)(v:Pv)(a b c:As):Nat→As:=λi=>if i=14 then a else if i=15 then b else if i=16 then c else(pgA p v).getD i BY
theorem J0{w w':Aa}{base:Nat}{p p':Ep}{s:Es}{Q:Nat→As}{B:Nat}(h:Em w base p s Q B)(k:Elk w w' p p'){q:Nat}{t:AN}{cs:AO}(hb:Blk w q t cs)(hq:q<base):Blk w' q t cs:=hb.fr k.f (λe=>by have:=h.ge q e;omega)
theorem SL{w w':Aa}{base:Nat}{p p':Ep}{s:Es}{Q:Nat→As}{B b:Nat}{pg:Pg}{v:Pv}(h:Em w base p s Q B)(k:Elk w w' p p')(hp:PgR w b pg v)(hq:b≤base):PgR w' b pg v:=hp.fr k.f (λq hq2 e=>by have:=h.ge q e;omega)
theorem fH{w:Aa}{b b2 N:Nat}{v:As}{f:Nat→Int}(h:At64 w b v N f)(hb:b≤b2):At64 w b2 v N f:=λhN=>by
 obtain⟨q,o,c,e,h1,h2,h3⟩:=h hN;exact⟨q,o,c,e,h1,O,h3⟩
def CodePost(w:Aa)(p:Pg)(e:AY)(w':Aa):Prop:=
 ∃pl tt,PO p pl tt∧HAll (codeC p pl)∧(codeC p pl).length≤10000∧GivesB w (encL (codeC p pl)) 0 e w'
theorem fI: ∀(l:List HI) (i:Nat) (E:Int),i<l.length→(hcs l).set (i*5+4) (J V E)=hcs (Gf E l i)
 |a::l,0,E,h=>by simp[hcs,hc,Gf,atH]
 |a::l,i+1,E,h=>by
  have ih:=fI l i E D7;have e1:hcs (a::l)=hc a++hcs l:=rfl;have e2:Gf E (a::l) (i+1)=a::Gf E l i:=by simp[Gf,atH]
  have e3:hcs (a::Gf E l i)=hc a++hcs (Gf E l i):=rfl;rw[e1,e2,e3,←ih,List.set_append_right _ _ Oe];congr 2;simp[hc];omega
theorem em_fix{w:Aa}{base g gL lc:Nat}{X:Aw}{xc:Nat}{l:List HI}{fx:List Nat}{Q:Nat→As}{B:Nat}(h:Em w base ⟨g,I ⟨gL,0,G⟩,lc,X,xc⟩ ⟨l,fx⟩ Q B)(i:Nat)(hi:i<l.length)(E:Int):Em (w.setCell ⟨gL,i*5+4,G⟩ (J V E)) base ⟨g,I ⟨gL,0,G⟩,lc,X,xc⟩ ⟨Gf E l i,fx⟩ Q B:=by
 have f:Fr (λq=>q=gL) w (w.setCell ⟨gL,i*5+4,G⟩ (J V E)):=(Ao (λq=>q=gL) w).setCell (p:=⟨gL,i*5+4,G⟩) (Af rfl) _;have h1:=(h.l.stored (i*5+4) (J V E)).1;rw[fI l i E hi] at h1;have hb:=h.b.fr f (λe=>h.gL (by show I gL=I g;rw[show g=gL from e]));refine⟨?_, ?_,AR h.x f (λk hk e=>h.LX k (by show I gL=I k;rw[show k=gL from e]) (own_ab hk)),h.g0, ?_⟩;·rw[Oc];exact hb
 ·rw[Oc];exact h1
 ·rw[Oc];exact h.len
theorem fx_lt(p:Pg)(pl:Tr.Pl): ∀i∈fxP p,i<(BO p pl 0).length:=by
 intro i hi;unfold fxP at hi;unfold BO;by_cases h1:Cu p.hd p.nd p.od.length<p.nd;·rw[An h1] at hi;simp at hi
 ·rw[Ae h1] at hi;rw[Ae h1];by_cases h2:Cu p.hr p.nr p.or.length<p.nr;·rw[An h2] at hi;rw[An h2];simp[Dg] at hi⊢;omega
  ·rw[Ae h2] at hi;rw[Ae h2];simp[DX,Dg] at hi⊢;omega
theorem body_pos(p:Pg)(pl:Tr.Pl)(E:Int):1≤(BO p pl E).length:=by
 unfold BO;split;·simp
 ·split<;>simp
theorem fx_len(p:Pg):(fxP p).length≤4:=by
 unfold fxP
 repeat' split
 all_goals simp
theorem code_all{p:Pg}{pl:Tr.Pl}{tt:Nat→Nat}(hw:WF p)(hp:PO p pl tt)(hb:(BO p pl 0).length≤9000):HAll (codeC p pl):=by
 have hnd:=hw.nd;have hnr:=hw.nr;by_cases h1:Cu p.hd p.nd p.od.length<p.nd;·unfold codeC BO;rw[An h1];exact(HAll.nil.cons (NY O O)).cons (Ek O O O)
 ·by_cases h2:Cu p.hr p.nr p.or.length<p.nr
  ·have hm:Cu p.hd p.nd p.od.length≤32:=by unfold Cu;omega
   unfold codeC BO;rw[Ae h1,An h2,Ae h1,An h2,DI];exact((Ob O ⟨O,O⟩ ⟨O,O⟩ ⟨O,O⟩ ⟨NW,NW⟩).app (HAll.nil.cons (NY O O))).cons (Ek O O O)
  ·refine nD hw hp ?_ O;unfold BO at hb;rw[Ae h1,Ae h2] at hb;simp at hb;omega
theorem own_low2{w:Aa}{base b2 s n:Nat}{t:AN}{v:As}{xs:List As}(h:w.ownsRow base t s v n xs)(hb:b2≤base):w.ownsRow b2 t s v n xs:=Nf
theorem code_any(w:Aa)(B:Nat)(p:Pg)(v:Pv)(h:PgR w B p v)(hw:WF p):At Tryz.prog 117 #[A9 (pgA p v)] w (CodePost w p):=by
 have b0:=AI w 218 (pgA p v);have f0:Fr Aj w (w.alloc (.cells (pgA p v) 218)):=(Ao _ w).alloc _;have H1:=T (h.fr0 f0);have Hdo:=T (do_any _ B p v (h.fr0 f0) hw);have HW:=T hw;generalize hW1:w.alloc (.cells (pgA p v) 218)=W1 at*;have HW1:=T hW1;obtain⟨C,cc,D,cd,R,cr⟩:=v;obtain⟨N,hN⟩:=A8 p.code.length;have HN:=T hN;have HB0:=T b0;have F0:=T f0;clear h hw hW1 hN f0;go_in;go_upto_region 1 with(fail);rw[HW1.out];go_wp2_with ((with_reducible refine wpL_lq b0 Gi Ec ?_));refine Az Hdo ?_;rintro e w2 ⟨reg,slot,sl,gR,gS,tt,rfl,hPO,hR,hS,g1,g2,f2⟩;have b2:=b0.fr f2 id;have HRS:=T (Ay hPO (Ay hR (Ay hS (Ay g1 (Ay g2 f2)))));clear hPO hR hS g1 g2 f2 b0 Hdo;go_upto_region 4 with(fail);have b3:=b2.alloc (.cells #[Z (I ⟨gR,0,G⟩) p.code.length p.code.length,Z (I ⟨gS,0,G⟩) p.code.length p.code.length,J U sl] 256);have f3:Fr Aj w2 (w2.alloc (.cells #[Z (I ⟨gR,0,G⟩) p.code.length p.code.length,Z (I ⟨gS,0,G⟩) p.code.length p.code.length,J U sl] 256)):=(Ao _ _).alloc _;have bl3:=AI w2 256 #[Z (I ⟨gR,0,G⟩) p.code.length p.code.length,Z (I ⟨gS,0,G⟩) p.code.length p.code.length,J U sl];generalize w2.alloc (.cells #[Z (I ⟨gR,0,G⟩) p.code.length p.code.length,Z (I ⟨gS,0,G⟩) p.code.length p.code.length,J U sl] 256)=w3 at*;have k0:=bl3.cell 0;have k1:=bl3.cell 1;have k2:=bl3.cell 2;have kl:=bl3.lt;have F3:=T f3;clear b2 f3;go_upto_region 5 with((with_reducible refine wpL_lq b3 Gi Ec ?_));have F3':Hid (Fr Aj w w3):=T ((F0.out.tr HRS.out.2.2.2.2.2).tr F3.out);have b3k:=T b3;have em4:Em (w3.alloc (.cells #[Z C p.code.length cc,J U p.nd,J U p.nr,J U p.hd,J U p.hr,Z D p.od.length cd,Z R p.or.length cr,J U p.fl,J V p.nx,J U p.tg,J U p.br,J V p.tk,J U p.ct,J U p.code.length,Z (I ⟨gR,0,G⟩) p.code.length p.code.length,Z (I ⟨gS,0,G⟩) p.code.length p.code.length,J U sl,Z G 0 0,Z G 0 0] 262)) ↑w3 ⟨↑w3,G,0,G,0⟩ ⟨[],[]⟩ (cdQ p ⟨C,cc,D,cd,R,cr⟩ (Z (I ⟨gR,0,G⟩) p.code.length p.code.length) (Z (I ⟨gS,0,G⟩) p.code.length p.code.length) (J .i64 sl)) 0:=
  ⟨Cells.new' _ _ _ _ _ rfl,⟨rfl,Af ⟨rfl,rfl⟩⟩,⟨rfl,Af ⟨rfl,rfl⟩⟩,AD _,⟨AD _,AD _⟩⟩
 have f4:Fr Aj w3 (w3.alloc (.cells #[Z C p.code.length cc,J U p.nd,J U p.nr,J U p.hd,J U p.hr,Z D p.od.length cd,Z R p.or.length cr,J U p.fl,J V p.nx,J U p.tg,J U p.br,J V p.tk,J U p.ct,J U p.code.length,Z (I ⟨gR,0,G⟩) p.code.length p.code.length,Z (I ⟨gS,0,G⟩) p.code.length p.code.length,J U sl,Z G 0 0,Z G 0 0] 262)):=(Ao _ _).alloc _;generalize w3.alloc (.cells #[Z C p.code.length cc,J U p.nd,J U p.nr,J U p.hd,J U p.hr,Z D p.od.length cd,Z R p.or.length cr,J U p.fl,J V p.nx,J U p.tg,J U p.br,J V p.tk,J U p.ct,J U p.code.length,Z (I ⟨gR,0,G⟩) p.code.length p.code.length,Z (I ⟨gS,0,G⟩) p.code.length p.code.length,J U sl,Z G 0 0,Z G 0 0] 262)=w4 at*;have hz3:w.heap.size+1≤w3.heap.size:=by have:=b3.lt;omega
 have hBz:B≤↑w3:=by have:=H1.out.hB;have:=HRS.out.2.2.2.2.2.size;have:=F3.out.size;omega
 have hgR:gR<↑w3:=by have:=HRS.out.2.1.lt;have:=F3.out.size;omega
 have hgS:gS<↑w3:=by have:=HRS.out.2.2.1.lt;have:=F3.out.size;omega
 obtain⟨Q,hQ⟩:=A8 (cdQ p ⟨C,cc,D,cd,R,cr⟩ (Z (I ⟨gR,0,G⟩) p.code.length p.code.length) (Z (I ⟨gS,0,G⟩) p.code.length p.code.length) (J .i64 sl));have hPq:Pq Q p:=by rw[←hQ];exact⟨rfl,rfl,rfl,rfl,rfl,rfl,rfl,rfl,rfl,rfl⟩
 have f24:=F3.out.tr f4;obtain⟨pl,hpl⟩:=A8 (⟨reg,slot⟩:Tr.Pl);have hPO:PO p pl tt:=by rw[←hpl];exact HRS.out.1
 have hPl:Pln w4 ↑w3 p.code.length Q pl:=by
  rw[←hQ,←hpl];exact⟨λh0=>⟨gR,0,p.code.length,rfl,AD _,hgR,λi hi=>by rw[BW];exact(HRS.out.2.1.fr f24 id).cell i hi⟩,λh0=>⟨gS,0,p.code.length,rfl,AD _,hgS,λi hi=>by rw[BW];exact(HRS.out.2.2.1.fr f24 id).cell i hi⟩,HRS.out.1.form,HW.out.len⟩
 obtain⟨g,hg⟩:=A8 w3.heap.size;rw[hQ,hg] at em4;rw[hg] at hPl hz3 hBz⊢;have B4:=T (b3k.out.fr f4 id);have P4:=T ((H1.out.fr0 HRS.out.2.2.2.2.2).fr0 f24);have PL:=T hPl;have PQ:=T hPq;have HPO:=T hPO;have EM4:=T em4;have F4:Hid (Fr Aj w w4):=T (F3'.out.tr f4);have HG:=T hg;have HW3:Hid (↑w<g∧B≤g):=T ⟨O,hBz⟩;have Hli:Hid (At Tryz.prog 145 #[↑g,J U 15,J V 0] w4 (EPost w4 g ⟨g,G,0,G,0⟩ ⟨[li 15 0],[]⟩ Q 1 (AF #[]))):=T (EX w4 g ⟨g,G,0,G,0⟩ ⟨[],[]⟩ Q 0 em4 O 15 0);clear em4 f4 hz3 hBz hgR hgS hQ hPq f24 hpl hPO hPl hg b3 bl3 k0 k1 k2 kl F3 F3' b3k HRS H1 F0;go_upto_region 6 with((with_reducible refine Az Hli ?_);rintro e w5 he;obtain⟨rfl,⟨g',L5,lc5,X5,xc5⟩,lk5,em5⟩:=he.elim;obtain rfl:g=g':=lk5.g.symm;have HX5:=T (Ay lk5 em5);clear lk5 em5 he Hli);have b5:=J0 EM4.out HX5.out.1 B4.out HW3.out.1;have c1:=b5.cell 1;have c3:=b5.cell 3;have c5:=b5.cell 5;have cl:=b5.lt;have hnd:=HW.out.nd;have hnr:=HW.out.nr;have hhd:=HW.out.hd;have hhr:=HW.out.hr;have hod:=HW.out.odl;have hor:=HW.out.orl;clear b5;go_cut [43] (λv wx=> ∃(bb:Bool) (L:Aw) (lc:Nat) (X:Aw) (xc:Nat) (l:List HI) (fx:List Nat),v=Ap bb∧Hid (Elk w4 wx ⟨g,G,0,G,0⟩ ⟨g,L,lc,X,xc⟩)∧Hid (Em wx g ⟨g,L,lc,X,xc⟩ ⟨l,fx⟩ Q 100)∧
  Hid ((bb=Ac∧l=BO p pl 0∧fx=fxP p)∨(bb=Ag∧l=li 15 0::DX p 0∧fx=fxP p∧BO p pl 0=li 15 0::(DX p 0++(Cw p pl++FL p pl (17+(Cw p pl).length))))))
 case first=>
  by_cases h1:Cu p.hd p.nd p.od.length<p.nd;·have H1:=T h1;have Hr:Hid (At Tryz.prog 146 #[↑g,J U 14,J V 2,J U p.nd,J U p.hd,J U p.od.length] w5 λe w'=>e=Ax (Ap Ac)∧w5=w'):=T (YJ w5 g ⟨g,L5,lc5,X5,xc5⟩ [li 15 0] [] Q 1 HX5.out.2 14 2 p.nd p.hd p.od.length hnd hhd hod h1);clear h1;go_wp2_with ((with_reducible refine Az Hr ?_);rintro e w6 ⟨rfl,rfl⟩);go_meet;exact⟨Ac,L5,lc5,X5,xc5,_,_,rfl,T HX5.out.1,T (HX5.out.2.le O),T (Af ⟨rfl,by unfold BO;rw[An H1.out],by unfold fxP;rw[An H1.out]⟩)⟩
  ·have H1:=T h1;have Hr:Hid (At Tryz.prog 146 #[↑g,J U 14,J V 2,J U p.nd,J U p.hd,J U p.od.length] w5 (EPost w5 g ⟨g,L5,lc5,X5,xc5⟩ ⟨[li 15 0]++Dg 14 2 p.nd (Cu p.hd p.nd p.od.length) 0,[4,7]⟩ Q 21 (Ap Ag))):=T (YF w5 g ⟨g,L5,lc5,X5,xc5⟩ [li 15 0] [] Q 1 HX5.out.2 O 14 2 p.nd p.hd p.od.length hnd hhd hod h1);clear h1;by_cases h2:Cu p.hr p.nr p.or.length<p.nr
   ·have H2:=T h2;clear h2;go_wp2_with (first
     |((with_reducible refine Az Hr ?_);rintro e w6 he;obtain⟨rfl,⟨g',L6,lc6,X6,xc6⟩,lk6,em6⟩:=he.elim;obtain rfl:g=g':=lk6.g.symm;have HX6:=T (Ay lk6 em6);have b6:=J0 HX5.out.2 lk6 (J0 EM4.out HX5.out.1 B4.out HW3.out.1) HW3.out.1;have c2:=b6.cell 2;have c4:=b6.cell 4;have c6:=b6.cell 6;have cl6:=b6.lt;have Hr2:Hid (At Tryz.prog 146 #[↑g,J U 13,J V 3,J U p.nr,J U p.hr,J U p.or.length] w6 λe w'=>e=Ax (Ap Ac)∧w6=w'):=T (YJ w6 g ⟨g,L6,lc6,X6,xc6⟩ _ _ Q 21 em6 13 3 p.nr p.hr p.or.length hnr hhr hor H2.out);clear lk6 em6 he b6)
     |((with_reducible refine Az Hr2 ?_);rintro e w7 ⟨rfl,rfl⟩))
    go_meet;exact⟨Ac,L6,lc6,X6,xc6,_,_,rfl,T (HX5.out.1.tr HX6.out.1),T (HX6.out.2.le O),T (Af ⟨rfl,by unfold BO;rw[Ae (by have:=H1.out;omega),An H2.out];rfl,by unfold fxP;rw[Ae (by have:=H1.out;omega),An H2.out]⟩)⟩
   ·have H2:=T h2;clear h2;go_wp2_with (first
     |((with_reducible refine Az Hr ?_);rintro e w6 he;obtain⟨rfl,⟨g',L6,lc6,X6,xc6⟩,lk6,em6⟩:=he.elim;obtain rfl:g=g':=lk6.g.symm;have HX6:=T (Ay lk6 em6);have b6:=J0 HX5.out.2 lk6 (J0 EM4.out HX5.out.1 B4.out HW3.out.1) HW3.out.1;have c2:=b6.cell 2;have c4:=b6.cell 4;have c6:=b6.cell 6;have cl6:=b6.lt;have Hr2:Hid (At Tryz.prog 146 #[↑g,J U 13,J V 3,J U p.nr,J U p.hr,J U p.or.length] w6 (EPost w6 g ⟨g,L6,lc6,X6,xc6⟩ ⟨([li 15 0]++Dg 14 2 p.nd (Cu p.hd p.nd p.od.length) 0)++Dg 13 3 p.nr (Cu p.hr p.nr p.or.length) 0,[4,7,12,15]⟩ Q 41 (Ap Ag))):=T (YF w6 g ⟨g,L6,lc6,X6,xc6⟩ ([li 15 0]++Dg 14 2 p.nd (Cu p.hd p.nd p.od.length) 0) [4,7] Q 21 em6 O 13 3 p.nr p.hr p.or.length hnr hhr hor H2.out);clear lk6 em6 he b6)
     |((with_reducible refine Az Hr2 ?_);rintro e w7 he;obtain⟨rfl,⟨g',L7,lc7,X7,xc7⟩,lk7,em7⟩:=he.elim;obtain rfl:g=g':=lk7.g.symm;have HX7:=T (Ay lk7 em7);clear lk7 em7 he))
    go_meet;exact⟨Ag,L7,lc7,X7,xc7,_,_,rfl,T ((HX5.out.1.tr HX6.out.1).tr HX7.out.1),T (HX7.out.2.le O),T (Ah ⟨rfl,rfl,by unfold fxP;rw[Ae (by have:=H1.out;omega),Ae (by have:=H2.out;omega)],by unfold BO;rw[Ae (by have:=H1.out;omega),Ae (by have:=H2.out;omega)]⟩)⟩
 case rest=>
  obtain⟨bb,L,lc,X,xc,l,fx,rfl,HE,HM,HL⟩:=hcut;clear c1 c3 c5 cl HX5
  go_upto_if 43 with(fail)
  go_cut [] (λwx=> ∃(L:Aw) (lc:Nat) (X:Aw) (xc:Nat),Hid (Elk w4 wx ⟨g,G,0,G,0⟩ ⟨g,L,lc,X,xc⟩)∧Hid (Em wx g ⟨g,L,lc,X,xc⟩ ⟨BO p pl 0,fxP p⟩ Q 9000));case first=>
   cases bb
   ·go_wp2
    go_meet;refine⟨L,lc,X,xc,HE,T ?_⟩;rcases HL.out with⟨_,e1,e2⟩|⟨e0,_⟩;·rw[←e1,←e2];exact HM.out.le O
    ·cases e0
   ·obtain⟨hl,hfx,hbc⟩:l=li 15 0::DX p 0∧fx=fxP p∧BO p pl 0=li 15 0::(DX p 0++(Cw p pl++FL p pl (17+(Cw p pl).length))):=by
     rcases HL.out with⟨e0,_⟩|⟨_,e1,e2,e3⟩;·cases e0
     ·exact⟨e1,e2,e3⟩
    subst hl hfx;have HBC:=T hbc;have b8:=J0 EM4.out HE.out B4.out HW3.out.1;have c0:=b8.cell 0;have cl:=b8.lt;clear HL hbc b8;have HE0:=HE;go_wp2_with fail;go_loopw [47] (λi wr=> ∃(k:Nat) (L:Aw) (lc:Nat) (X:Aw) (xc:Nat),k≤p.code.length∧i=J U k∧Hid (Elk w4 wr ⟨g,G,0,G,0⟩ ⟨g,L,lc,X,xc⟩)∧Hid (Em wr g ⟨g,L,lc,X,xc⟩ ⟨li 15 0::(DX p 0++Dx p pl 0 (p.code.take k)),fxP p⟩ Q (100+60*k))) (λi _=>p.code.length -(AM i).toNat)
    case atStart=>exact⟨0,L,lc,X,xc,Bj _,rfl,HE,T (by simpa[Dx] using HM.out)⟩
    case round=>
     obtain⟨k,L,lc,X,xc,hk,rfl,hE,hM⟩:=hrel;have hn64:=HW.out.len;by_cases hlt:k<p.code.length
     ·obtain⟨b,off,hC,hb,e0,e1,e2,e3,e4⟩:=(SL EM4.out hE.out P4.out HW3.out.2).code k hlt;have hC:C=I ⟨b,off,G⟩:=hC;subst hC;have hbl:b<↑wr:=by have:=hE.out.f.size;have:=P4.out.hB;omega
      have HS:Hid (Dx p pl 0 (p.code.take (k+1))=Dx p pl 0 (p.code.take k)++G8 p pl k (Tr.at_ p.code k)):=T (by
       have e:p.code.take (k+1)=p.code.take k++[Tr.at_ p.code k]:=by
        rw[List.take_succ_eq_append_getElem hlt,Tr.at_,AS,BK hlt];rfl
       rw[e,eZ,Iv,Nat.min_eq_left O,BW])
      have hmd:=HW.out.code k hlt;obtain⟨x,hx⟩:=A8 (Tr.at_ p.code k);rw[hx] at e0 e1 e2 e3 e4 HS hmd;have fa:Fr Aj wr (wr.alloc (.cells (iiA x) 266)):=(Ao _ _).alloc _;have Ho:=T (one_any (wr.alloc (.cells (iiA x) 266)) g ⟨g,L,lc,X,xc⟩ _ _ Q (100+60*k) p.code.length pl p (hM.out.fr0 fa) O ((PL.out.lk EM4.out hE.out).fr0 fa (by have:=hM.out.b.lt;have:=hM.out.g0;show g≤↑wr;have h3:g<↑wr:=hM.out.b.lt;omega)) PQ.out k hlt x hmd HW.out.nd HW.out.nr);have FA:=T fa;obtain⟨op,dst,xa,xb,imm⟩:=x;dsimp only at e0 e1 e2 e3 e4;clear hx hmd fa;go_wp2_with ((with_reducible refine Az Ho ?_);rintro e w9 he;obtain⟨rfl,⟨g',L9,lc9,X9,xc9⟩,lk9,em9⟩:=he.elim;obtain rfl:g=g':=lk9.g.symm;have HX9:=T (Ay lk9 em9);clear lk9 em9 he Ho);go_roundw;case rel=>
       refine⟨k+1,L9,lc9,X9,xc9,O,Bn,T ((hE.out.fr0 FA.out).tr HX9.out.1),T ?_⟩;rw[HS.out];have:=HX9.out.2.le (show 100+60*k+60≤100+60*(k+1) by omega);simpa using this
      case measure=>simp[AM];omega
     ·obtain rfl:k=p.code.length:=O;rw[List.take_length] at hM;have hE1:=hE;have hpr:=SL EM4.out hE.out P4.out HW3.out.2;have b9:=J0 EM4.out hE.out B4.out HW3.out.1;have c5:=b9.cell 5;have cl5:=b9.lt;have hP9:=PL.out.lk EM4.out hE.out;have Hs1:Hid (At Tryz.prog 148 #[↑g,J U 14,J V 4,J V 2,Z D p.od.length cd] wr (EPost wr g ⟨g,L,lc,X,xc⟩ ⟨(li 15 0::(DX p 0++Dx p pl 0 p.code))++DK pl 14 4 2 p.od,fxP p⟩ Q (100+60*p.code.length+200) (AF #[]))):=T (eH wr g ⟨g,L,lc,X,xc⟩ _ _ Q (100+60*p.code.length) p.code.length pl hM.out O hP9 14 4 2 O O D cd p.od (fH hpr.od HW3.out.2) HW.out.od HW.out.odl);have HPR:=T hpr;have HB9:=T b9;have HP9:=T hP9;clear hpr b9 hP9 c0 cl;go_upto_region 13 with((with_reducible refine Az Hs1 ?_);rintro e w9 he;obtain⟨rfl,⟨g',L9,lc9,X9,xc9⟩,lk9,em9⟩:=he.elim;obtain rfl:g=g':=lk9.g.symm;have HX9:=T (Ay lk9 em9);clear lk9 em9 he Hs1);have b10:=J0 hM.out HX9.out.1 HB9.out HW3.out.1;have hpr:=SL hM.out HX9.out.1 HPR.out HW3.out.2;have c6:=b10.cell 6;have cl6:=b10.lt;have Hs2:Hid (At Tryz.prog 148 #[↑g,J U 13,J V 20,J V 3,Z R p.or.length cr] w9 (EPost w9 g ⟨g,L9,lc9,X9,xc9⟩ ⟨((li 15 0::(DX p 0++Dx p pl 0 p.code))++DK pl 14 4 2 p.od)++DK pl 13 20 3 p.or,fxP p⟩ Q (100+60*p.code.length+200+200) (AF #[]))):=T (eH w9 g ⟨g,L9,lc9,X9,xc9⟩ _ _ Q (100+60*p.code.length+200) p.code.length pl HX9.out.2 O (HP9.out.lk hM.out HX9.out.1) 13 20 3 O O R cr p.or (fH hpr.or HW3.out.2) HW.out.or HW.out.orl);have HP10:=T (HP9.out.lk hM.out HX9.out.1);clear b10 hpr c5 cl5 HPR HB9 HP9;go_upto_region 14 with((with_reducible refine Az Hs2 ?_);rintro e w10 he;obtain⟨rfl,⟨g',L10,lc10,X10,xc10⟩,lk10,em10⟩:=he.elim;obtain rfl:g=g':=lk10.g.symm;have HX10:=T (Ay lk10 em10);clear lk10 em10 he Hs2);have Hen:Hid (At Tryz.prog 149 #[↑g] w10 (EPost w10 g ⟨g,L10,lc10,X10,xc10⟩ ⟨(((li 15 0::(DX p 0++Dx p pl 0 p.code))++DK pl 14 4 2 p.od)++DK pl 13 20 3 p.or)++FL p pl ((((li 15 0::(DX p 0++Dx p pl 0 p.code))++DK pl 14 4 2 p.od)++DK pl 13 20 3 p.or)).length,fxP p⟩ Q (100+60*p.code.length+200+200+60) (AF #[]))):=T (end_any w10 g ⟨g,L10,lc10,X10,xc10⟩ _ _ Q (100+60*p.code.length+200+200) p.code.length pl p HX10.out.2 O (HP10.out.lk HX9.out.2 HX10.out.1) PQ.out HW.out.fl HW.out.tg (by have:=HW.out.br;omega) (by have:=HW.out.ct;omega));clear c6 cl6;go_wp2_with ((with_reducible refine Az Hen ?_);rintro e w11 he;obtain⟨rfl,⟨g',L11,lc11,X11,xc11⟩,lk11,em11⟩:=he.elim;obtain rfl:g=g':=lk11.g.symm;have HX11:=T (Ay lk11 em11);clear lk11 em11 he Hen);go_meet;refine⟨L11,lc11,X11,xc11,T (((hE1.out.tr HX9.out.1).tr HX10.out.1).tr HX11.out.1),T ?_⟩;rw[HBC.out];have e1:(((li 15 0::(DX p 0++Dx p pl 0 p.code))++DK pl 14 4 2 p.od)++DK pl 13 20 3 p.or).length=17+(Cw p pl).length:=by
       simp[Cw,DX,Dg];omega
      have h3:=HX11.out.2.le (show 100+60*p.code.length+200+200+60≤9000 by omega);rw[e1] at h3;have e2:(((li 15 0::(DX p 0++Dx p pl 0 p.code))++DK pl 14 4 2 p.od)++DK pl 13 20 3 p.or)++FL p pl (17+(Cw p pl).length)=li 15 0::(DX p 0++(Cw p pl++FL p pl (17+(Cw p pl).length))):=by simp[Cw]
      rw[e2] at h3;exact h3
  case rest=>
   obtain⟨L,lc,X,xc,HE,HM⟩:=hcut;have hlen:=HM.out.len.1;have hlen:(BO p pl 0).length≤9000:=hlen;obtain⟨gL,cap,cur,hv,hgL,hbL,hcL,_,_,_⟩:=EQ HM.out.l (body_pos p pl 0);have hv:L=I ⟨gL,0,G⟩:=by injection hv
   subst hv;have c18:wc.cell? ⟨g,18,G⟩=I (Z X (fxP p).length xc):=HM.out.b.cell 18 O;have cgl:g<↑wc:=HM.out.b.lt;have hgl2:gL<↑wc:=hbL.lt;obtain⟨n,hn⟩:=A8 ((BO p pl 0).length);obtain⟨M,hM⟩:=A8 ((fxP p).length);have HN2:=T hn;have HM2:=T hM;have hM4:M≤4:=by rw[←hM];exact fx_len p
   rw[hM] at c18;rw[hn] at hlen;clear hbL hn hM hcL;go_wp2_with fail;go_loopw [72] (λi wr=> ∃k:Nat,k≤M∧i=J U k∧Hid (Em wr g ⟨g,I ⟨gL,0,G⟩,lc,X,xc⟩ ⟨Fv (n:Nat) ((fxP p).take k) (BO p pl 0),fxP p⟩ Q 9000)∧Hid (Fr (λq=>q=gL) wc wr)) (λi _=>M -(AM i).toNat)
   case atStart=>exact⟨0,Bj _,rfl,T (by simpa[Fv] using HM.out),T (Ao _ _)⟩
   case round=>
    obtain⟨k,hk,rfl,hE,hF⟩:=hrel;have hnl:(Fv (n:Nat) ((fxP p).take k) (BO p pl 0)).length=n:=by rw[XP];exact HN2.out
    by_cases hlt:k<M
    ·have hkl:k<(fxP p).length:=by rw[HM2.out];exact hlt
     obtain⟨gX,cap2,cur2,hvX,hgX,hbX,hcX,_,_,htX⟩:=EQ hE.out.x (show 0<(fxP p).length by omega);have hvX:X=I ⟨gX,0,G⟩:=by injection hvX
     subst hvX;have hcur:wr.cell? ⟨gX,k,G⟩=I (J U ((fxP p).getD k 0:Nat)):=by
      rw[hbX.cell k,←DV,←Dq (show k<(fxP p).length*1 by omega),htX];unfold fxV;rw[DP,BK hkl,AS,BK hkl];rfl
     have hfl:(fxP p).getD k 0<n:=by
      have:=fx_lt p pl ((fxP p).getD k 0) Lj;rw[HN2.out] at this;exact this
     have HS:Hid ((fxP p).take (k+1)=(fxP p).take k++[(fxP p).getD k 0]):=T (by
      rw[List.take_succ_eq_append_getElem hkl,AS,BK hkl];rfl)
     obtain⟨j,hj⟩:=A8 ((fxP p).getD k 0);rw[hj] at hcur hfl HS;have hem:=em_fix hE.out j (by rw[hnl];exact hfl) (n:Nat);have HEM:=T hem;have c17:wr.cell? ⟨g,17,G⟩=I (Z (I ⟨gL,0,G⟩) n lc):=by rw[←hnl];exact hE.out.b.cell 17 (by omega)
     have cg:g<↑wr:=hE.out.b.lt;have cgX:gX<↑wr:=hbX.lt;obtain⟨_,_,curL,hvL,_,hbL,hcL,_,hszL,_⟩:=EQ hE.out.l (show 0<(Fv (n:Nat) ((fxP p).take k) (BO p pl 0)).length by omega);injection hvL with hvL _ hvc;injection hvL with hvL;injection hvL with hvL;subst hvL hvc;rw[hnl] at hcL;have y4:=hbL.frozen (j*5+4);obtain⟨v4,q4⟩: ∃v4,wr.cell? ⟨gL,j*5+4,G⟩=I v4:=⟨curL[j*5+4]' O,by rw[hbL.cell,Array.getElem?_eq_getElem]⟩;have cgL:gL<↑wr:=hbL.lt;have hw32:IntKind.u32.wrap (n:Int)=n:=ET;clear hbX hem hbL hj hkl htX hszL hnl;go_upto_region 18 with(fail);go_still_tail 13,AL;go_wp2_with fail;refine⟨⟨k+1,O,Bn,T ?_,T ((hF.out.setCell (p:=⟨gL,j*5+4,G⟩) (Af rfl) _).drew)⟩,N6⟩;rw[HS.out,nE];exact HEM.out.fr0 (Ao Aj _).drew
    ·obtain rfl:k=M:=O;have e1:(fxP p).take k=fxP p:=by rw[←HM2.out,List.take_length]
     rw[e1] at hE;have hcode:Fv (n:Nat) (fxP p) (BO p pl 0)++[⟨19,0,0,0,2⟩]=codeC p pl:=by rw[←HN2.out];exact fix_code p pl
     have HCODE:=T hcode;have Ha:Hid (At Tryz.prog 150 #[↑g,Z (I ⟨↑wr,0,G⟩) 1 1] (wr.alloc (.cells #[J U 19,J U 0,J U 0,J U 0,J V 2] 270)) (λe w'=>e=Ax (AF #[])∧Hid (EPost wr g ⟨g,I ⟨gL,0,G⟩,lc,X,xc⟩ ⟨Fv (n:Nat) (fxP p) (BO p pl 0)++[⟨19,0,0,0,2⟩],fxP p⟩ Q 9001 (AF #[]) (Ax (AF #[])) w'))):=T (I1 wr g ⟨g,I ⟨gL,0,G⟩,lc,X,xc⟩ ⟨Fv (n:Nat) (fxP p) (BO p pl 0),fxP p⟩ Q 9000 ⟨19,0,0,0,2⟩ _ rfl hE.out O);have hEg:g<↑wr:=hE.out.b.lt;clear hnl e1 hcode c18;go_upto_region 21 with((with_reducible refine Az Ha ?_);rintro e w9 ⟨rfl,he⟩;obtain⟨_,⟨g',L9,lc9,X9,xc9⟩,lk9,em9⟩:=he.out.elim;obtain rfl:g=g':=lk9.g.symm;have HX9:=T (Ay lk9 em9);clear lk9 em9 he Ha);have em9:=HX9.out.2;rw[HCODE.out] at em9;have hcl:(codeC p pl).length≤9001:=em9.len.1;have hall:HAll (codeC p pl):=code_all HW.out HPO.out (by rw[HN2.out];omega);have HALL:=T hall;have a5:=At5.of em9.l;have c17:w9.cell? ⟨g,17,G⟩=I (Z L9 (codeC p pl).length lc9):=em9.b.cell 17 O;have cg:g<↑w9:=em9.b.lt;have Hj:=T (join_yes w9 ↑w9 (codeC p pl).length lc9 L9 (codeC p pl) rfl a5 (AD _) hall O);have FT:Hid (Fr Aj w w9):=T (F4.out.trans ((HE.out.f.mono (S':=λq=>g≤q) (λq _ e=>EM4.out.ge q e)).trans ((hF.out.mono (S':=λq=>g≤q) (λq _ e=>by have e:q=gL:=e;omega)).trans (HX9.out.1.f.mono (S':=λq=>g≤q) (λq _ e=>hE.out.ge q e)) (λ_ _ e=>e)) (λ_ _ e=>e)) (λq hq e=>by have:=HW3.out.1;have e:g≤q:=e;omega));clear a5 hall em9;go_wp2_with ((with_reducible refine Az Hj ?_);rintro e w10 ⟨A10,c10,rfl,ho10,f10⟩;have HO10:=T (Ay ho10 f10);clear ho10 f10 Hj);go_ret2;exact⟨pl,tt,HPO.out,HALL.out,O,A10,c10,rfl,own_low2 HO10.out.1 FT.out.size,FT.out.trans HO10.out.2 (λ_ _ e=>e.elim)⟩
end Cd
end Go.Proofs.YtdfegdoeebaagaaGreatDoor
