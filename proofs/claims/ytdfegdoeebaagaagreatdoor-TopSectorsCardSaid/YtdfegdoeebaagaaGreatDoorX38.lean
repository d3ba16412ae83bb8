import Derived.Test.YtdfegdoeebaagaaGreatDoorX36
import Derived.Test.YtdfegdoeebaagaaGreatDoorX37
open Go.Value renaming slice→Z,int→J,bool→Ap,agg→A9,oneCell'→Ir
open Option renaming some→I,none→G
open Go.IntKind renaming i64→U,u32→V,u64→AP,wrap_u32→Gu
open Go renaming World→Aa,Value→As,Calls→At,bodyPost_ret→Bt,TypeId→AN,wp_region_held_drew→C7
open Bool renaming false→Ac,true→Ag
open Go.Ending renaming returned→Ax
open And renaming intro→Ay
open Or renaming inl→Af,inr→Ah
open Go.Proofs.Tryz renaming underlying39→AQ
open Go.IntWalk renaming i64_in→GF
set_option linter.all false
set_option maxHeartbeats 40000000
set_option maxRecDepth 1000000
open Go Go.RowKit
namespace Go.Proofs.YtdfegdoeebaagaaGreatDoor
namespace Bl
open Fm Nt Rm By Wk Gs Bs Mu Sv Gm Gc Rn Eg
theorem othB:Oth 163:=⟨Ak,Ak,Ak,Ak⟩
theorem iC(s:St)(X Y:As)(p:Int)(on:Bool): ∀j,j<(stc s X Y).size→(I8 s X Y p on)[j]?=(stc s X Y)[j]?:=λj hj=>iD
theorem Sx.up{w w':Aa}{P L:AE}{a:Ab}{A:Au}{g:Mc}{s:St}{X Y:Aw}{c d:Nat}{ge:Nat}{e e':Eo}{D D':Nat}(h:Sx w w' P L a A s g X Y c d ge e e' D)(hd:D≤D'):Sx w w' P L a A s g X Y c d ge e e' D':=
 ⟨h.st,h.ne,h.f,h.z,h.en,h.gc,by have:=h.fl;omega,h.own,h.mc⟩
theorem edo_any(w:Aa)(s:St)(A0:Aw)(c0:Nat)(B0:Aw)(d0:Nat)(P:AE)(a:Ab)(A:Au)(g:Mc)(ge:Nat)(e:Eo)(hS:StV w 0 s (Z A0 s.d.length c0) (Z B0 s.r.length d0))(hp: ∀k,ab A0=I k∨ab B0=I k→P k)(hne: ∀k,ab A0=I k→ab B0≠I k)(hM:Mch w P a A g)(hk:Rk s)(hE:En w ge e)(hown: ∀k,e.own ge k→P k∧k≠0)(hh:s.ha=Ac)(ho:g.b.outs.length≤999990)(hfl:e.s.fl≤999999)(hok:okB s g):At Tryz.prog 56 #[↑ge,A9 (stc s (Z A0 s.d.length c0) (Z B0 s.r.length d0)),↑A.gU,↑a.gB] w (ERest w P a A ge e 1 (Cx s g)):=by
 obtain⟨b5,b8,f0⟩:=Ds w (stc s (Z A0 s.d.length c0) (Z B0 s.r.length d0)) z16 39 39;have l0:=(Sx.start hS hp hne hM hE hown).more f0 (L':=λk=>k=w.heap.size∨k=w.heap.size+1) (λk q=>by
  right;simp;omega)
 have hz0:=OJ;generalize hW0:(w.alloc (.cells (stc s (Z A0 s.d.length c0) (Z B0 s.r.length d0)) 39)).alloc (.cells z16 39)=W0 at*;have L0:=T l0;have B5:=T b5;have B8:=T b8;have HW:=T hW0;have HBF:=T (begin_facts (g:=g) hk hM.ok hh);have HZ0:=T hz0;obtain⟨P1,M1,np1,up1,_⟩:=l0.call;have Hb:=T (cQ W0 s A0 c0 B0 d0 P1 a A g l0.st (λk e=>np1 k (.inr e)) M1 hk hh hok.1);have HBR:=iE;obtain⟨r,hr⟩:=A8 (BH s g);rw[hr] at Hb HBF HBR;have hct:=hk.1.ct;have HO:=T ho;have HFL:=T hfl;have HOK:=iF;clear hS hp hne hM l0 f0 b5 b8 hW0 hk ho hE hown hr hfl hz0 hok;go_in;go_upto_region 1 with(fail);rw[HW.out];have b5:=B5.out;go_wp2_with ((with_reducible refine wpL_lq b5 AQ AJ ?_));refine Az Hb ?_;rintro e1 w1 ⟨X1,c1,Y1,d1,rfl,hst⟩;have b9:=AI w1 163 z18;have f9:=iG;have o9:=oneB r.s X1 Y1 c1 d1 r.p r.on;have hz1:W0.heap.size≤w1.heap.size:=hst.f.size;have L1:=T (up1 hst);have B51:=T (B5.out.fr hst.f (λe=>e (np1 _ (Af (.inl rfl)))));have B81:=T (B8.out.fr hst.f (λe=>e (np1 _ (Af (.inr rfl)))));clear hst b5 Hb np1 up1 B5 B8;go_upto_region 2 with(((with_reducible refine BL (cs':=I8 r.s (Z X1 r.s.d.length c1) (Z Y1 r.s.r.length d1) r.p r.on) b9 szB o9 ?_);intro W2 k9 f2;have HB9:=T k9;have HF2:=T f2;clear k9 f2 b9 o9));obtain⟨gB,hgB⟩:=A8 w1.heap.size;have F12:=iH;rw[hgB] at HB9 HF2⊢;have L2:=T (L1.out.more F12.out (L':=λk=>(k=w.heap.size∨k=w.heap.size+1)∨k=gB) (λk e=>by
  rcases e with e|e;·exact Af e
  ·right;have:=HB9.out.lt;omega))
 have B52:=T (B51.out.fr F12.out id);have B82:=T (B81.out.fr F12.out id);have nB8:Hid (gB≠↑w+1∧gB≠↑w):=T (by have:=HZ0.out;omega);clear f9 HF2 L1 B51 B81 hz1 HW;have c17:=iI;have c14:W2.cell? ⟨gB,14,G⟩=I (J AP r.s.ct):=HB9.out.cell 14;have c16:=iJ;have cB:gB<↑W2:=HB9.out.lt;obtain⟨on,hon⟩: ∃on,r.on=on:=⟨_,rfl⟩;rw[hon] at c17 HBF HBR HB9 HOK;clear hon
 cases on
 ·have c5:=L2.out.en.b.cell 5;have y5:=L2.out.en.b.frozen 5;have cl:=L2.out.en.b.lt;have k14:W2.cell? ⟨↑w,14,G⟩=I (J AP s.ct):=B52.out.cell 14;have kl:=B52.out.lt;go_upto_region 3 with(fail)
  go_region
  all_goals go_upto_region 4 with(fail)
  obtain⟨sv,hsv⟩:=A8 (wrap64 (e.sl+wrap64 (IntKind.u64.wrap (r.s.ct -s.ct))));rw[hsv];have fs:Fr (λq=>q=ge) W2 (W2.setCell ⟨ge,5,G⟩ (J .i64 sv)).drew:=((Ao (λq=>q=ge) W2).setCell (p:=⟨ge,5,G⟩) (.inl rfl) _).drew;have ek:=En.self (e2:={e with sl:=sv}) L2.out.en rfl rfl rfl rfl L2.out.en.la ((L2.out.en.b.set_ 5 _).drew) fs;have L3:=T (L2.out.eng ek);have b9:=ek.blk HB9.out othB;have b8:=ek.blk B82.out CC;generalize(W2.setCell ⟨ge,5,G⟩ (J .i64 sv)).drew=w3 at*;have HK8:=T b8;have o8:=Ce r.s (Z X1 r.s.d.length c1) (Z Y1 r.s.r.length d1) rfl rfl;have HRH:=T (iC r.s (Z X1 r.s.d.length c1) (Z Y1 r.s.r.length d1) r.p Ac);clear fs ek c5 y5 cl k14 kl c17 c14 c16 cB hsv;go_wp2_with (first
   |((with_reducible refine wpL_ldm (stc r.s (Z X1 r.s.d.length c1) (Z Y1 r.s.r.length d1)) b9 AQ AJ ?q1 ?q2 HRH.out ?q3 ?_);(case q1=>rfl);(case q2=>rfl);(case q3=>rfl))
   |((with_reducible refine BL (cs':=stc r.s (Z X1 r.s.d.length c1) (Z Y1 r.s.r.length d1)) b8 AJ o8 ?_);intro W7 b7 f7;have HB7:=T b7;have HF7:=T f7;clear b7 f7 b8 b9 o8))
  refine Bt (CV rfl _ _ (w.heap.size+1) 39 _ _ rfl HB7.out AQ rfl AJ) rfl ?_;rw[HBR.out,Ae Ak];have hS:=L3.out.st;exact⟨X1,c1,Y1,d1,_,rfl,((L3.out.wrote (Af (Ah rfl)) ⟨λe=>AZ hS.d HK8.out Ak (ab_own hS.d e),λe=>AZ hS.r HK8.out Ak (ab_own hS.r e)⟩ (EO L3.out.en HK8.out CC Ak) HF7.out).none).up O,HBF.out.1⟩
 ·obtain⟨hrk,hro,hon⟩:=HBF.out;obtain⟨p0,p64,pn,hrh⟩:=hon rfl;obtain⟨P3,np3,M3,ow3,up3⟩:=L2.out.tr;have hMn:=M3.ok.n0;have hO3:=M3.bok;have Ht:=T (pQ W2 r.s X1 c1 Y1 d1 P3 a A r.g ge e L2.out.st (λk q=>np3 k (.inr q)) L2.out.ne M3 hrk L2.out.en ow3 r.p p0 pn HFL.out);have HBH:=T (λ(c:St) (g2:Mc) (n n2:Nat) (en:Bool)=>behind_law (c:=c) (g2:=g2) (n:=n) (n2:=n2) (en:=en) hrk hO3 M3.ok p0 pn hMn.2 p64.symm hrh (HOK.out rfl));have HRO:=T hro;have HP:=T (Ay p0 (Ay pn hMn));have b9:=HB9.out;have HRH:=T (iC r.s (Z X1 r.s.d.length c1) (Z Y1 r.s.r.length d1) r.p Ag);have HNP:=T np3;have h52:=L2.out.en;clear c14 hrk hro hon p64 pn hrh p0 hMn hO3 np3;go_upto_region 5 with(fail);clear c17;go_wp2_with (((with_reducible refine wpL_ldm (stc r.s (Z X1 r.s.d.length c1) (Z Y1 r.s.r.length d1)) b9 AQ AJ ?q1 ?q2 HRH.out ?q3 ?_);(case q1=>rfl);(case q2=>rfl);(case q3=>rfl)));refine Az Ht ?_;rintro e3 w3 ⟨X,c,Y,d,e',A2,n2,c2,en,n,s2,g2,rfl,hsx,hcase⟩;obtain⟨sz,m,hsz,hm,m8,sz64,n8,hrk2,hha2,ho2,hrest,hokb⟩:=HBH.out s2 g2 n n2 en hcase;have hN8:(n:Int)≤8∧0≤(n:Int):=O;obtain⟨N,hNN⟩:=A8 ((n:Int):Int);rw[hNN] at hsz hm hrest hokb hN8⊢;have L5:=T (up3 hsx);have hq: ∀q (cs:AO) (t:AN),Blk W2 q t cs→Oth t→t≠5→P3 q→ ¬(¬P3 q∨e.own ge q):=λq cs t hb ho h8 hp r=>r.elim (λr=>r hp) (EO h52 hb ho h8);have B53:=T (B52.out.fr hsx.f (hq _ _ _ B52.out CC Ak (HNP.out _ (Af (Af (.inl rfl))))));have B83:=T (B82.out.fr hsx.f (hq _ _ _ B82.out CC Ak (HNP.out _ (Af (Af (.inr rfl))))));have HB93:=T (HB9.out.fr hsx.f (hq _ _ _ HB9.out othB Ak (HNP.out _ (Af (.inr rfl)))));have b10:Blk ((w3.alloc (.cells z16 39)).alloc (.cells zR 158)) ↑w3 39 z16:=(AI _ _ _).alloc _;have b11:Blk ((w3.alloc (.cells z16 39)).alloc (.cells zR 158)) (↑w3+1) 158 zR:=CK _ _ _ AC;have o10:=Ce s2 (Z X s2.d.length c) (Z Y s2.r.length d) rfl rfl;have o11:(#[Z A2 n2 c2,Ap en]:AO).all (·.oneCell')=Ag:=Ei;have F3:=T (((Ao Aj w3).alloc (.cells z16 39)).alloc (.cells zR 158));clear hsx hcase hNN hq h52 b9 c16 cB Ht HBH up3 ow3;go_upto_region 6 with(first
   |((with_reducible refine BL (cs':=stc s2 (Z X s2.d.length c) (Z Y s2.r.length d)) b10 AJ o10 ?_);intro W4 k10 f10;have HB10:=T k10;have HF10:=T f10;have b11:=b11.fr f10 (λe=>by have e:w3.heap.size+1=w3.heap.size:=e;omega);clear k10 f10 b10 o10)
   |((with_reducible refine BL (cs':=#[Z A2 n2 c2,Ap en]) b11 Il o11 ?_);intro W5 k11 f11;have HB11:=T k11;have HF11:=T f11;clear k11 f11 b11 o11))
  have F35:Hid (Fr Aj w3 W5):=T ((F3.out.trans HF10.out (λk hk e=>O)).trans HF11.out (λk hk e=>O));have L6:=T (L5.out.more F35.out (L':=λk=>((k=w.heap.size∨k=w.heap.size+1)∨k=gB)∨k=w3.heap.size∨k=w3.heap.size+1) (λk q=>by
   rcases q with q|q;·exact Af q
   ·right;have:=HB11.out.lt;omega))
  have N10:Hid (w3.heap.size≠w.heap.size+1):=T (by have:=B83.out.lt;omega);have B54:=T (B53.out.fr F35.out id);have B84:=T (B83.out.fr F35.out id);have HB94:=T (HB93.out.fr F35.out id);have HB105:=T (HB10.out.fr HF11.out (λe=>by have e:w3.heap.size=w3.heap.size+1:=e;omega));have k11:W5.cell? ⟨↑w3+1,1,G⟩=I (Ap en):=HB11.out.cell 1;have kl11:=HB11.out.lt;have k10:W5.cell? ⟨↑w3,0,G⟩=I (J V s2.pc):=HB105.out.cell 0;have kl10:=HB105.out.lt;have kB:W5.cell? ⟨gB,0,G⟩=I (J V r.s.pc):=HB94.out.cell 0;have klB:=HB94.out.lt;have x0:=hrk2.1.pc.1;have x1:=hrk2.1.pc.2;have y0:=HBF.out.1.1.pc.1;have y1:=HBF.out.1.1.pc.2;have HRK2:=T hrk2;have HREST:=T hrest;have HOKB:=T hokb;clear hokb;have HSZ:=T hsz;have HM:=T hm;have HN8:=T (Ay m8 (Ay sz64 hN8));have HO2:=T ho2;clear hrk2 hrest hsz hm m8 sz64 n8 hN8 ho2 hha2 L5 B53 B83 HB93 HB10 HF10 HF11 F3;go_cut [62] (λv wx=> ∃bb,v=Ap bb∧Hid (((en&&decide (N>0))|| !decide (s2.pc/64=r.s.pc/64))=bb)∧wx=W5);case first=>
   obtain⟨q1,hq1⟩:=A8 (decide (N>0));obtain⟨q2,hq2⟩:=A8 (s2.pc/64 !=r.s.pc/64);have hq3:(!decide (s2.pc/64=r.s.pc/64))=q2:=by rw[←hq2];rfl
   have HQ3:=T hq3;clear hq3
   cases en
   ·exact iK
   ·cases q1
    ·exact iK
    ·exact SX
  case rest=>
   obtain⟨bb,rfl,hbb,rfl⟩:=hcut;obtain⟨w5,rfl⟩: ∃y,y=wc:=⟨_,rfl⟩;have HRB:Hid (Cg r.s r.p (r.p/64) r.g 8=if bb=Ag then⟨s2,g2⟩ else Cg s2 (r.p+sz) ((r.p+sz)/64) g2 m):=T (by rw[HREST.out,hbb.out]);have HOK2:Hid (bb=Ac→okR s2 (r.p+sz) ((r.p+sz)/64) g2 m):=T (by rw[←hbb.out];exact HOKB.out);clear k11 kl11 kB klB k10 kl10 hbb HREST x0 x1 y0 y1
   cases bb
   ·obtain⟨m8,sz64,N8,N0⟩:=HN8.out;obtain⟨hp0,hpn,hn1,hn64'⟩:=HP.out;have hn64:r.g.b.ms.n≤64:=hn64';have hq:(r.p+(sz:Int))%4294967296=r.p+sz:=O;have HRs:Hid (∀W,Fr Aj w5 W→At Tryz.prog 78 #[↑ge,A9 (stc s2 (Z X s2.d.length c) (Z Y s2.r.length d)),J V (r.p+sz),J U m,↑A.gU,↑a.gB] W (λed w'=> ∃X2 c2 Y2 d2 e2,ed=Ax (A9 (stc (Cx s g).s (Z X2 (Cx s g).s.d.length c2) (Z Y2 (Cx s g).s.r.length d2)))∧Sx w w' P (λk=>((k=w.heap.size∨k=w.heap.size+1)∨k=gB)∨k=w3.heap.size∨k=w3.heap.size+1) a A (Cx s g).s (Cx s g).g X2 Y2 c2 d2 ge e e2 1∧Rk (Cx s g).s∧ ∀q t cs,Blk W q t cs→Oth t→t≠5→(((q=w.heap.size∨q=w.heap.size+1)∨q=gB)∨q=w3.heap.size∨q=w3.heap.size+1)→Blk w' q t cs)):=T (λW f=>by
     have hb:Cx s g=Cg s2 (r.p+sz) ((r.p+sz)/64) g2 m:=by rw[HBR.out,An (by first|rfl|trivial),HRB.out,Ae (by decide)]
     obtain⟨P7,np7,M7,ow7,up7⟩:=(L6.out.fr0 f).tr;have ho7:g2.b.outs.length≤999990:=by rw[HO2.out,HRO.out];exact HO.out
     rw[hb];refine(pS W s2 X c Y d P7 a A g2 ge e' (L6.out.fr0 f).st (λk q=>np7 k (Ah q)) (L6.out.fr0 f).ne M7 HRK2.out (L6.out.fr0 f).en ow7 (r.p+sz) O O m m8 ho7 (HOK2.out rfl)).mono (λed w' hh=>?_);obtain⟨X2,c2,Y2,d2,e2,rfl,hx,hk⟩:=hh;exact⟨X2,c2,Y2,d2,e2,rfl,up7 hx,hk,λq t cs hb ho h8 hl=>hb.fr hx.f (λr=>r.elim (λr=>r (np7 q (Af hl))) (EO (L6.out.fr0 f).en hb ho h8))⟩)
    have Hz:Hid (∀W,At Tryz.prog 79 #[A9 #[Z A2 n2 c2,Ap en],J U N] W λe w'=>e=Ax (J U (sz:Int))∧Fr Aj W w'):=T (λW=>(size_any W A2 n2 c2 en N).mono (λe w' hh=>by rw[HSZ.out] at hh;exact hh));have hw1:=SW;have hw2:IntKind.u32.wrap (r.p+(sz:Int))=r.p+sz:=ET;have hw3:IntKind.i64.wrap (m:Int)=m:=GF _ O;have hm:(8:Int) -N=m:=HM.out;clear hp0 hpn hn1 hn64 hn64' HRB N0 N8 sz64 m8;go_upto_region 8 with(fail);obtain⟨g10,hg10⟩:=A8 w3.heap.size;rw[hg10] at HB105 HB11 HRs N10⊢;clear hg10 F35 L6;refine C7 (S:=λW=>Blk W g10 39 (stc s2 (Z X s2.d.length c) (Z Y s2.r.length d))∧Blk W gB 163 (I8 r.s (Z X1 r.s.d.length c1) (Z Y1 r.s.r.length d1) r.p Ag)∧Blk W (g10+1) 158 #[Z A2 n2 c2,Ap en]) AL (⟨HB105.out.drew,HB94.out.drew,HB11.out.drew⟩) (λhH=>?_);have HF:=T ((Ao Aj w5).drew);generalize w5.drew=wv at hH HF⊢;refine Av 0 rfl hH Io ?_;refine CJ 1 (A9 (stc s2 (Z X s2.d.length c) (Z Y s2.r.length d))) rfl hH (by intro W hSw;exact Al.take_ld (ldB hSw.1 AQ rfl AJ) rfl (by simp[Act.eval,Act.put])) ?_;refine Av 2 rfl hH Io ?_
    try simp only[AG]
    refine Av 3 rfl hH Io ?_;refine Av 4 rfl hH Io ?_;refine Av 5 rfl hH Io ?_
    try simp only[AG]
    refine Av 9 rfl hH Io ?_;refine Av 10 rfl hH Io ?_;refine Av 11 rfl hH Io ?_
    try simp only[AG]
    refine Av 12 rfl hH Io ?_
    try simp only[AG]
    refine Bb [6] ?_;refine AT (λK hK=>?_) ?_
    ·go_simp;go_wp2_with ((with_reducible refine(Hz.out _).mono ?_);rintro e6 w6 ⟨rfl,f6⟩;have HF6:=T (HF.out.tr f6);have hS6:=(⟨hH.1.fr f6 id,hH.2.1.fr f6 id,hH.2.2.fr f6 id⟩:_∧_∧_));refine hK.out _ _ (hS6) λhH=>?_;clear hK K;refine Av 7 rfl hH Io ?_;refine Av 8 rfl hH Io ?_
     try simp only[AG]
     refine Bb [13] ?_;refine AT (λK hK=>?_) ?_
     ·go_simp;go_wp2_with ((with_reducible refine(HRs.out _ HF6.out).mono ?_);rintro e7 w7 ⟨X2,c2,Y2,d2,e2,rfl,hx7,hk7,hbl⟩;have HX7:=T (Ay hx7 hk7);have B8x:=T (hbl _ _ _ (B84.out.fr HF6.out id) CC Ak (Af (Af (.inr rfl))));have hS7:=(⟨hbl _ _ _ hH.1 CC Ak (Ah (.inl rfl)),hbl _ _ _ hH.2.1 othB Ak (Af (.inr rfl)),hbl _ _ _ hH.2.2 IX Ak (Ah (.inr rfl))⟩:_∧_∧_);clear hx7 hk7 hbl);refine hK.out _ _ (hS7) λhH=>?_;clear hK K;refine Bb [14] ?_;refine AT (λK hK=>?_) ?_;·refine J4 (cs':=stc (Cx s g).s (Z X2 (Cx s g).s.d.length c2) (Z Y2 (Cx s g).s.r.length d2)) B8x.out AJ rfl rfl (Ce _ _ _ rfl rfl) rfl rfl BC BC ?_;intro W9 k8 f8;refine hK.out _ _ (⟨hH.1.fr f8 N10.out,hH.2.1.fr f8 (λq=>hH.2.1.ne_ B8x.out Ak q),hH.2.2.fr f8 (λq=>hH.2.2.ne_ B8x.out Ak q)⟩) λhH=>?_;clear hK K;refine CT ?_;go_wp2_with fail;refine Bt (CV rfl _ _ (w.heap.size+1) 39 _ _ rfl k8 AQ rfl AJ) rfl ?_;have hS:=HX7.out.1.st;exact⟨X2,c2,Y2,d2,_,rfl,(HX7.out.1.wrote (Af (Af (.inr rfl))) ⟨λe=>AZ hS.d B8x.out Ak (ab_own hS.d e),λe=>AZ hS.r B8x.out Ak (ab_own hS.r e)⟩ (EO HX7.out.1.en B8x.out CC Ak) f8).none,HX7.out.2⟩
      exact Bc
     exact Bc
    exact Bc
   ·have b10:=HB105.out;have b8:=B84.out;have o8:=Ce s2 (Z X s2.d.length c) (Z Y s2.r.length d) rfl rfl;go_wp2_with (first
     |((with_reducible refine wpL_lq b10 AQ AJ ?_))
     |((with_reducible refine BL (cs':=stc s2 (Z X s2.d.length c) (Z Y s2.r.length d)) b8 AJ o8 ?_);intro W7 b7 f7;have HB7:=T b7;have HF7:=T f7;clear b7 f7 b8 b10 o8))
    refine Bt (CV rfl _ _ (w.heap.size+1) 39 _ _ rfl HB7.out AQ rfl AJ) rfl ?_;rw[HBR.out,An (by first|rfl|trivial),HRB.out,An (by first|rfl|trivial)];have hS:=L6.out.st;exact⟨X,c,Y,d,_,rfl,(L6.out.wrote (Af (Af (Ah rfl))) ⟨λe=>AZ hS.d B84.out Ak (ab_own hS.d e),λe=>AZ hS.r B84.out Ak (ab_own hS.r e)⟩ (EO L6.out.en B84.out CC Ak) HF7.out).none,HRK2.out⟩
end Bl
end Go.Proofs.YtdfegdoeebaagaaGreatDoor
