import Derived.Test.YtdfegdoeebaagaaGreatDoorX13
import Derived.Test.YtdfegdoeebaagaaGreatDoorX18
open Go.Value renaming slice→Z,int→J,bool→Ap,agg→A9,pointer→Bm,oneCell'→Ir
open Option renaming some→I,none→G
open Go.IntKind renaming i64→U,u32→V,u64→AP,wrap_u64→Gg,wrap_u32→Gu
open Go renaming World→Aa,Calls→At,bodyPost_ret→Bt,TypeId→AN
open Bool renaming false→Ac,true→Ag
open List renaming mem_map→BS,mem_filter→DF
open Go.Ending renaming returned→Ax
open And renaming intro→Ay
open Nat renaming le_refl→AD,zero_le→Bj
open Or renaming inl→Af,inr→Ah
open Go.Proofs.Tryz renaming underlying39→AQ
open Go.Lit renaming int→DT
set_option linter.all false
set_option maxHeartbeats 40000000
set_option maxRecDepth 1000000
open Go Go.RowKit
namespace Go.Proofs.YtdfegdoeebaagaaGreatDoor
namespace Rn
open Gs Sv Gm Gc
structure Begun(w wx:Aa)(p:Rp)(x:Rs)(P P2:AE)(a:Bs.Ab)(A:Mu.Au)(g:Mc):Prop where
 dn:Dn wx p x P2 a A g
 up: ∀k,P k→P2 k
 dn2: ∀k,P2 k→P k∨w.heap.size≤k
 it: ∀k,p.its k→w.heap.size≤k
 f:Fr Aj w wx
variable{w:Aa}{x:Rs}{a:Bs.Ab}
theorem begun{w7:Aa}{P:AE}{A:Mu.Au}{g:Mc}{A7 B7:Aw}{c7 d7:Nat}(M:Mch w P a A g)(h7:StV w7 ↑w x.s (Z A7 x.s.d.length c7) (Z B7 x.s.r.length d7))(ne7: ∀k,(Z A7 x.s.d.length c7).ownBlock=I k→(Z B7 x.s.r.length d7).ownBlock≠I k)(f7:Fr Aj w w7)(hl:x.s.d.length≤1000∧x.s.r.length≤1000):Begun w (w7.alloc (.cells (rc x (Z A7 x.s.d.length c7) (Z B7 x.s.r.length d7) ↑A.gU ↑a.gB) 237)) ⟨↑w7,A7,c7,B7,d7⟩ x P (λk=>P k∨(⟨↑w7,A7,c7,B7,d7⟩:Rp).its k) a A g:=by
 have fa:Fr Aj w7 (w7.alloc (.cells (rc x (Z A7 x.s.d.length c7) (Z B7 x.s.r.length d7) ↑A.gU ↑a.gB) 237)):=(Ao _ _).alloc _;have hz:=f7.size;have hi: ∀k,(⟨↑w7,A7,c7,B7,d7⟩:Rp).its k→w.heap.size≤k∧k<w7.heap.size+1:=λk hk=>by
  rcases hk with e|e|e;·have e:k=↑w7:=e;exact Gh
  ·have h1:=h7.d.ge k (ab_own h7.d e);have h2:=h7.d.lt k (ab_own h7.d e);exact⟨h1,O⟩
  ·have h1:=h7.r.ge k (ab_own h7.r e);have h2:=h7.r.lt k (ab_own h7.r e);exact⟨h1,O⟩
 refine⟨⟨⟨AI _ _ _,(h7.d.fr fa (λ_ _ e=>e)).low (Bj _),(h7.r.fr fa (λ_ _ e=>e)).low (Bj _),λk hk hk2=>ne7 k (ab_own h7.d hk) (ab_own h7.r hk2),hl⟩,M.more (f7.tr fa) (λk hk=>?_) (Af M.p0),λk hk=> Ah hk,λe=>?_⟩,λk hk=> Af hk,λk hk=>?_,λk hk=>(hi k hk).1,f7.tr fa⟩
 ·rcases hk with e|e;·exact Af e
  ·exact Ah (by have:=hi k e;simp;omega)
 ·have:=hi 0 e;have:=M.pl 0 M.p0;omega
 ·rcases hk with e|e;·exact Af e
  ·exact Ah (hi k e).1
variable{op:Int}
theorem reck_id{s:St}{n:Int}(h:Fc op=Ac):reckS s ⟨op,n⟩=s:=by
 simp[Fc] at h;have hh:Gp op s.fl=Ac:=Wg;exact Wh
theorem res_set(cs:AO)(hs:cs.size=19):Dp z19 0 cs.toList=cs:=by
 apply Array.ext';have h2:=OW cs.toList z19 cs.size AC (by rw[hs];exact AD _);have h3:(Dp z19 0 cs.toList).toList.length=cs.size:=by rw[Array.length_toList,Nd,hs];rfl
 exact T0
theorem size_bd(op:Int):0≤AK op∧AK op≤5:=by
 unfold AK
 repeat' split
 all_goals omega
def M12(w wx:Aa)(p:Rp)(P2:AE)(a:Bs.Ab)(A:Mu.Au)(x:Rs)(g:Mc)(x':Rs)(g':Mc)(op:Int):Bool→Prop
 |false=>(∃p' P',Lk w wx p p' P2 P'∧Dn wx p' x' P' a A g')∧True
 |true=>True∧C8 op=Ac∧Fc op=Ac∧ ∃p' P',Lk w wx p p' P2 P'∧Dn wx p' x P' a A g
variable{wx:Aa}
theorem M12.no{p:Rp}{P2:AE}{A:Mu.Au}{x':Rs}{g g':Mc}(h: ∃p' P',Lk w wx p p' P2 P'∧Dn wx p' x' P' a A g'):M12 w wx p P2 a A x g x' g' op Ac:=⟨h,trivial⟩
theorem M12.yes{p:Rp}{P2:AE}{A:Mu.Au}{x':Rs}{g g':Mc}(h1:C8 op=Ac)(h2:Fc op=Ac)(h: ∃p' P',Lk w wx p p' P2 P'∧Dn wx p' x P' a A g):M12 w wx p P2 a A x g x' g' op Ag:=⟨trivial,h1,h2,h⟩
structure Fin(wd wx:Aa)(gt:Nat)(PQ:AE)(a:Bs.Ab)(A:Mu.Au)(g:Mc)(S:St)(tr dv:Bool)(X:Aw)(c:Nat)(Y:Aw)(d:Nat)(n6:Nat):Prop where
 b:Blk wx gt 206 (EK S (Z X S.d.length c) (Z Y S.r.length d) tr dv (Z G 0 0))
 st:StV wx 0 S (Z X S.d.length c) (Z Y S.r.length d)
 ne: ∀k,ab X=I k→ab Y≠I k
 new: ∀k,ab X=I k∨ab Y=I k→n6≤k
 f:Fr (· =gt) wd wx
 mc:Mch wx (λk=>PQ k∨k=gt∨ab X=I k∨ab Y=I k) a A g
theorem row_ne{g base n c:Nat}{t:AN}{cs:AO}{A:Aw}{zs:List Int}(h:Rw w base (Z A n c) zs)(hb:Blk w g t cs)(hne:22≠t):ab A≠I g:=λe=>AZ h hb hne (ab_own h e)
theorem pR{w6 wd w21 W9:Aa}{P P3 PQ:AE}{A:Mu.Au}{g:Mc}{S:St}{tr dv:Bool}{X Y Bh:Aw}{c d n m gt:Nat}{pg:List Int}(hz:w.heap.size+3≤w6.heap.size)(hP: ∀k,P k→P3 k)(hP2:P3 (↑w+2))(hPQ: ∀k,P3 k→PQ k)(p0:P 0)(FN:Fin wd wx gt PQ a A g S tr dv X c Y d ↑w6)(F7:Fr (λk=> ¬P k) w w6)(FX:Fr (λk=>w6.heap.size≤k∨ ¬P3 k) w6 wd)(hgt:↑w6≤gt)(o21:w21.ownsRow ↑wx 3 1 (Z Bh n m) n (pg.map (J U)))(f21:Fr Aj wx w21)(F9:Fr (λk=>k=gt∨k=w.heap.size+2) w21 W9)(hwf: ∀z∈pg,(DT .i64 z).wf=Ag)(hn:n≤64):Q4 w P a A ⟨S,tr,dv,pg,g⟩ (Ax (A9 (EK S (Z X S.d.length c) (Z Y S.r.length d) tr dv (Z Bh n m)))) W9:=by
 have hgx:=FN.b.lt;have hx:=FX.size;have h21:=f21.size;have hfx:=FN.f.size;have nX: ∀k,ab X=I k∨ab Y=I k→ ¬(k=gt∨k=w.heap.size+2):=λk hk e=>by
  rcases e with e|e
  ·rcases hk with h|h;·exact row_ne FN.st.d FN.b Ak (by rw[h,e])
   ·exact row_ne FN.st.r FN.b Ak (by rw[h,e])
  ·have:=FN.new k hk;omega
 have S9:StV W9 0 S (Z X S.d.length c) (Z Y S.r.length d):=(FN.st.fr0 f21).fr F9 (λk hk=>nX k (Af (own_ab hk))) (λk hk=>nX k (Ah (own_ab hk)));refine⟨X,c,Y,d,Bh,n,m,rfl,⟨S9,FN.ne, ?_, ?_⟩, ?_, ?_,hn, ?_⟩
 ·have h1:Fr (λk=> ¬P k) w wd:=F7.trans FX (λk hk e q=>by
   rcases e with e|e;·omega
   ·exact e (hP k q))
  have h2:Fr (λk=> ¬P k) w wx:=h1.trans FN.f (λk hk e q=>O);exact(h2.trans f21 (λk hk e=>e.elim)).trans F9 (λk hk e q=>O)
 ·have hM:=(FN.mc.fr0 f21).fr F9 (λk hk=>by
   rcases hk with e|e;·exact Ah (Af e)
   ·rw[e];exact Af (hPQ _ hP2)) (λe=>O)
  refine⟨λk=>P k∨ab X=I k∨ab Y=I k,λk hk=> Af hk,λk hk=>?_,λk hk=> Ah hk,λk hk=>?_,hM.less (λk hk=>?_) (Af p0)⟩
  ·rcases hk with e|e;·exact Af e
   ·have:=FN.new k e;exact Ah O
  ·have:=FN.new k hk;exact Ah O
  ·rcases hk with e|e;·exact Af (hPQ k (hP k e))
   ·exact Ah (Ah e)
 ·have hb:=Cn o21;have ho:=AR o21 F9 (λk hk e=>by have:=hb k hk;omega);exact Bk.own_ints ho hwf
 ·rcases o21.2 with⟨e,e2⟩|⟨g',cap,cur,e,_,_,hc,_⟩;·injection e with _ _ e3;omega
  ·injection e with _ _ e3;omega
 ·have hb:=Cn o21;obtain⟨q1,q2⟩:=AR o21 F9 (λk hk e=>by have:=hb k hk;omega);refine⟨q1, ?_⟩;rcases q2 with q2|⟨g',cap,cur,e,hg,r⟩;·exact Af q2
  ·exact Ah ⟨g',cap,cur,e,O,r⟩
theorem turnN_bd(m:Rm.Ms): ∀z∈Rm.turnN m 64,(DT U z).wf=Ag:=λz hz=>by
 obtain⟨k,hk,rfl⟩:=BS.1 hz;have:=List.mem_range.1 (DF.1 hk).1;exact Lx (n:=(k:Int)) O O
theorem do_good(w:Aa)(s:St)(A0:Aw)(c0:Nat)(B0:Aw)(d0:Nat)(P:AE)(a:Bs.Ab)(A:Mu.Au)(g:Mc)(hS:StV w 0 s (Z A0 s.d.length c0) (Z B0 s.r.length d0))(hp: ∀k,ab A0=I k∨ab B0=I k→P k)(hM:Mch w P a A g)(hk:Rk s)(i:Ins)(n0:0≤i.n)(n1:i.n≤4294967295)(hv:check s i=0)(hu:Ux s i.op i.n)(ho:g.b.outs.length≤1000000):At Tryz.prog 102 #[A9 (stc s (Z A0 s.d.length c0) (Z B0 s.r.length d0)),Jn i,↑A.gU,↑a.gB] w (Q4 w P a A (doR s i g)):=by
 obtain⟨b1,b2,b3,f0⟩:=boxed3 w (stc s (Z A0 s.d.length c0) (Z B0 s.r.length d0)) #[J U i.op,J V i.n] z19 39 27 206;have hll:s.d.length≤16∧s.r.length≤16:=⟨hk.2.1,hk.2.2.1⟩;have B3:=T b3;have F0:=T f0;have Hr:=T (λW=>right_any W s A0 B0 c0 d0);have hright:=hk.right;rw[hright] at Hr;have hlt:=hM.pl;have hPs: ∀k,ab A0=I k∨ab B0=I k→k<w.heap.size:=λk hk=>hM.pl k (hp k hk);obtain⟨P1,eP1⟩: ∃P1:Nat→Prop,P1=λk=>P k∨(w.heap.size≤k∧k<w.heap.size+3):=⟨_,rfl⟩;have M0:Hid (Mch (((w.alloc (.cells (stc s (Z A0 s.d.length c0) (Z B0 s.r.length d0)) 39)).alloc (.cells #[J U i.op,J V i.n] 27)).alloc (.cells z19 206)) P1 a A g):=T (hM.more f0 (λk hk=>by
  rw[eP1] at hk;rcases hk with e|e;·exact Af e
  ·exact Ah ⟨e.1,AA⟩) (by rw[eP1];exact Af hM.p0))
 have S0:=T (hS.fr0 f0);have HP:=T (Ay eP1 (Ay hp hlt));have HK:=T hk;have HP0:=T hM.p0;obtain⟨op,n⟩:=i;have UX:Hid (Ux (s.next ⟨op,n⟩) op n):=T ⟨hu.uo,hu.pg,hu.ld,hu.st,hu.rw⟩;clear hu;clear b3 f0 hS hM hright hlt hp eP1 hk hPs;go_in;go_wp2_with ((with_reducible refine wpL_lq b1 AQ AJ ?_));refine(Hr.out _).mono ?_;rintro e w1 ⟨rfl,f1⟩;have M1:=T (M0.out.fr0 f1);have S1:=T (S0.out.fr0 f1);have b11:=b1.fr f1 id;have b21:=b2.fr f1 id;have B31:=T (B3.out.fr f1 id);have F1:=T (F0.out.tr f1);clear b1 b2 B3 f1 F0 M0 S0;go_wp2_with fail;refine(Mu.memory_t w1 A g.u (M1.out.un)).mono ?_;rintro e w2 ⟨rfl,rfl⟩;go_wp2_with fail;refine(Rm.calm_any w1 A.am g.u.m M1.out.un.M).mono ?_;rintro e w2 ⟨rfl,hm,f2⟩;have hm2:Rm.Mem w2 a.am g.b.ms.calm:=by rw[←M1.out.am];exact hm
 have f22:Fr a.am.own w1 w2:=by rw[←M1.out.am];exact f2
 obtain⟨m2,f3⟩:=M1.out.memPost hm2 f22 (tu_calm M1.out.tu);have hq: ∀k,w.heap.size≤k∧k<w.heap.size+3→ ¬ ¬P1 k:=λk hk e=>e (by rw[HP.out.1];exact Ah hk);have M2:Hid (Mch w2 P1 a A g.calm):=T m2;have b12:=b11.fr f3 (hq _ O);have b22:=b21.fr f3 (hq _ O);have B32:=T (B31.out.fr f3 (hq _ O));have S2:=T (S1.out.fr f3 (λk hk e=>e (by rw[HP.out.1];exact Af (HP.out.2.1 k (Af (own_ab hk))))) (λk hk e=>e (by rw[HP.out.1];exact Af (HP.out.2.1 k (Ah (own_ab hk))))));have F2:Hid (Fr (λk=> ¬P k) w w2):=T ((F1.out.mono (S':=λk=> ¬P k) (λ_ _ e=>e.elim)).trans f3 (λk hk e q=>e (by rw[HP.out.1];exact Af q)));clear hm f2 hm2 f22 m2 f3 hq b11 b21 B31 S1 M1 F1;have hz:w.heap.size+3≤w2.heap.size:=by have:=B32.out.lt;omega
 go_wp2_with ((with_reducible refine wpL_lq b12 AQ AJ ?_));refine(Gr w2 0 s _ _ S2.out O O).mono ?_;rintro e w3 ⟨A3,c3,B3,d3,rfl,h3,ne3,f3⟩;have M3:=T (M2.out.fr0 f3);have S3:=T (S2.out.fr0 f3);have b13:=b12.fr f3 id;have b23:=b22.fr f3 id;have B33:=T (B32.out.fr f3 id);have F3:=T (F2.out.trans f3 (λk hk e=>e.elim));have HX:=T (Ay h3 (Ay ne3 f3));have hz3:=f3.size;have M2k:=T M2.out;clear h3 ne3 f3 b12 b22 B32 S2 M2 F2;have bw:Blk (w3.alloc (.cells z16 39)) ↑w3 39 z16:=AI _ _ _;have o1:=Ce s (Z A3 s.d.length c3) (Z B3 s.r.length d3) rfl rfl;go_upto_region 6 with(((with_reducible refine BL (cs':=stc s (Z A3 s.d.length c3) (Z B3 s.r.length d3)) bw AJ o1 ?_);intro W4 b4 f4;have B4:=T b4;have F4:=T f4;clear b4 f4 bw o1));have hw3:w3.heap.size<W4.heap.size:=B4.out.lt;have F4':Hid (Fr Aj w3 W4):=T (((Ao Aj w3).alloc _).trans F4.out (λk hk e=>O));have M4:=T (M3.out.fr0 F4'.out);have S4:=T (S3.out.fr0 F4'.out);have b14:=b13.fr F4'.out id;have b24:=b23.fr F4'.out id;have B34:=T (B33.out.fr F4'.out id);have x14:=B4.out.cell 14;have y14:=B4.out.frozen 14;have hwc:IntKind.u64.wrap (s.ct+1)=(St.up s).ct:=Re;go_upto_region 7 with(fail);have b5:Blk (W4.setCell ⟨↑w3,14,G⟩ (J AP (St.up s).ct)) ↑w3 39 (stc (St.up s) (Z A3 s.d.length c3) (Z B3 s.r.length d3)):=B4.out.set_ 14 _;have f5:Fr Aj w3 (W4.setCell ⟨↑w3,14,G⟩ (J AP (St.up s).ct)):=F4'.out.trans ((Ao (· =w3.heap.size) W4).at_ 14 _) (λk hk e=>O);have F5:=T f5;have B5:=T b5;clear b5 f5 hwc x14 y14 B4 F4 F4' b14 b24 B34 S4 M4;obtain⟨W5,hW5⟩:=A8 (W4.setCell ⟨↑w3,14,G⟩ (J AP (St.up s).ct));rw[hW5] at F5 B5⊢;clear hW5 hw3;have hw5:w3.heap.size<W5.heap.size:=B5.out.lt;have hup:(St.up s).Ok:=(Rk.up HK.out).1;have T5:Hid (StV W5 0 (St.up s) (Z A3 (St.up s).d.length c3) (Z B3 (St.up s).r.length d3)):=T ⟨(HX.out.1.d.fr F5.out (λ_ _ e=>e)).low (Bj _),(HX.out.1.r.fr F5.out (λ_ _ e=>e)).low (Bj _),hup⟩;clear hup;have M5:=T (M3.out.fr0 F5.out);have S5:=T (S3.out.fr0 F5.out);have b15:=b13.fr F5.out id;have b25:=b23.fr F5.out id;have e0:=b25.cell 0;have e1:=b25.cell 1;have B35:=T (B33.out.fr F5.out id);have F6:=T (F3.out.trans F5.out (λk hk e=>e.elim));have Hc:=T (λW (f:Fr Aj W5 W)=>Sp.check_any W 0 s A0 B0 c0 d0 (S5.out.fr0 f) O O ⟨op,n⟩ n0 n1);rw[hv] at Hc;clear b13 b23 B33 S3 M3 F3 S5;go_wp2_with ((with_reducible refine wpL_lq b15 AQ AJ ?_));refine(Hc.out _ (Ao _ _)).mono ?_;rintro e w6 ⟨rfl,f6⟩;have M6:=T (M5.out.fr0 f6);have b56:=B5.out.fr f6 id;have B36:=T (B35.out.fr f6 id);have T6:=T (T5.out.fr0 f6);have F7:=T (F6.out.trans f6 (λk hk e=>e.elim));have F67:=T (F5.out.tr f6);have B36:=T (B35.out.fr f6 id);have b26:=b25.fr f6 id;have b16:=b15.fr f6 id;have HB:=T (Ay b16 b26);have k14:=b16.drew.cell 14;have hgl:=b16.lt;clear f6 B5 B35 T5 M5 F6 Hc e0 e1 b15 b25 b16 b26;have HL:=T hll;have f26:Fr Aj w2 w6:=HX.out.2.2.tr F67.out;obtain⟨P3,eP3⟩: ∃P3:Nat→Prop,P3=λk=>P1 k∨(w2.heap.size≤k∧k<w6.heap.size):=⟨_,rfl⟩;have M6':Hid (Mch w6 P3 a A g.calm):=T (M2k.out.more f26 (λk hk=>by rw[eP3] at hk;exact hk) (by rw[eP3];exact Af M2k.out.p0));have HP3:=T eP3;have b56k:=T b56;clear f26 eP3 M2k M6;have Hcp:=T (Gr w6.drew 0 (St.up s) _ _ (T6.out.fr0 (Ao Aj w6).drew) (by show s.d.length≤100000;omega) (by show s.r.length≤100000;omega));have b56:=b56.drew;go_upto_region 10 with(fail);go_cut [11] (λv wx=> ∃(p:Rp) (P2:AE),v=↑p.g∧Hid (Begun w6 wx p ⟨St.up s,s.ct,0,0,Ac⟩ P3 P2 a A g.calm));case first=>
  refine wp_region_any AL ?_
  try(change wpAny _ _ _ _ _ _ _ (World.drew _))
  refine Gj 2 rfl Gk ?_;refine Gj 4 rfl Gk ?_;refine Gj 5 rfl Gk ?_;simp only[AG];refine EY [0,3] ?_;refine D5 (λK hK=>?_) ?_
  ·refine KE (stc (St.up s) (Z A3 s.d.length c3) (Z B3 s.r.length d3)) b56 AQ AJ rfl rfl (λ_ _=>rfl) rfl rfl BC ?_;refine hK _ _ ?_;clear hK K;refine EY [1,3] ?_;refine D5 (λK hK=>?_) ?_
   ·go_simp;go_wp2_with ((refine Az Hcp ?_);rintro e w7 ⟨A7,c7,B7,d7,rfl,h7,ne7,f7⟩;have k14:=(HB.out.1.drew.fr f7 id).cell 14;have hgl:=(HB.out.1.drew.fr f7 id).lt;have HY:=T (Ay h7 (Ay ne7 f7));clear h7 ne7 f7);refine EY [3] ?_;refine D5 (λK hK=>?_) ?_;·go_simp;refine hK _ _ ?_;clear hK K;exact gK
    exact Fx
   refine D5 (λK hK=>?_) ?_;·go_simp;exact gM
   exact Fx
  refine D5 (λK hK=>?_) ?_
  ·go_simp;refine hK _ _ ?_;clear hK K;refine EY [0] ?_;refine D5 (λK hK=>?_) ?_;·refine KE (stc (St.up s) (Z A3 s.d.length c3) (Z B3 s.r.length d3)) b56 AQ AJ rfl rfl (λ_ _=>rfl) rfl rfl BC ?_;exact gM
   exact Fx
  exact Fx
 case rest=>
  obtain⟨p,P2,rfl,HBG⟩:=hcut;have HB:=T (Ay (HB.out.1.fr HBG.out.f id) (HB.out.2.fr HBG.out.f id));have e0:=HB.out.2.cell 0;have e1:=HB.out.2.cell 1;have q0:wc.cell? ⟨p.g,0,G⟩=I (J V s.pc):=HBG.out.dn.rn.b.cell 0;have y0:=HBG.out.dn.rn.b.frozen 0;have hpg:=HBG.out.dn.rn.b.lt;have hpz:=HB.out.2.lt;have hpi:↑w6≤p.g:=HBG.out.it p.g (Af rfl);have hwz:w.heap.size+3≤w6.heap.size:=by have:=F67.out.size;omega
  have hsz:=size_bd op;have hcv:IntKind.u32.wrap (AK op)=AK op:=ET;have hpc:IntKind.u32.wrap (s.pc+AK op)=(s.next ⟨op,n⟩).pc:=by rw[Gu];rfl
  clear k14 hgl b56 Hcp;go_upto_region 11 with(fail);go_cut [] (λwx=>Hid (Blk wx p.g 237 (rc ⟨s.next ⟨op,n⟩,s.ct,0,0,Ac⟩ (Z p.A s.d.length p.ca) (Z p.B s.r.length p.cb) ↑A.gU ↑a.gB)∧Fr (· =p.g) wc wx));case first=>
   go_region_with ((refine(size_any _ op).mono ?_);rintro e w8 ⟨rfl,rfl⟩)
   all_goals
    go_wp2
    go_meet;exact T ⟨HBG.out.dn.rn.b.drew.set_ 0 _,((Ao _ wc).drew).at_ 0 _⟩
  case rest=>
   obtain⟨hb9,hf9⟩:=hcut.out;have D9:Hid (Dn wc p ⟨s.next ⟨op,n⟩,s.ct,0,0,Ac⟩ P2 a A g.calm):=T ⟨⟨hb9,HBG.out.dn.rn.d.fr hf9 (λk hk e=>HBG.out.dn.rn.gA C0),HBG.out.dn.rn.r.fr hf9 (λk hk e=>HBG.out.dn.rn.gB C0),HBG.out.dn.rn.ne,HBG.out.dn.rn.cs⟩,HBG.out.dn.mc.fr hf9 (λk e=>HBG.out.dn.ip k (Af e)) (λe=>HBG.out.dn.n0 (Af e)),HBG.out.dn.ip,HBG.out.dn.n0⟩;have HF9:=T hf9;have b29:=HB.out.2.fr hf9 (λe=>O);have e0:=b29.cell 0;have e1:=b29.cell 1;have HPI:Hid (∀k,p.its k→w6.heap.size≤k):=T HBG.out.it;have HUP:Hid ((∀k,P3 k→P2 k)∧ ∀k,P2 k→P3 k∨w6.heap.size≤k):=T ⟨HBG.out.up,HBG.out.dn2⟩;have HB29:=T b29;have RD:Hid (Ready ⟨s.next ⟨op,n⟩,s.ct,0,0,Ac⟩):=T ⟨rfl,rfl,rfl,HK.out.next _,HK.out.1.ct⟩;have SU:Hid (Suits (s.next ⟨op,n⟩) op):=T (by have h:=mM hv;exact⟨h.td,h.tr,h.pd,h.pr⟩);have HV:=T hv;have HP2:Hid (∀k,(w.heap.size≤k∧k<w.heap.size+3)∨(w2.heap.size≤k∧k<w6.heap.size)→P3 k):=T (λk hk=>by rw[HP3.out];rcases hk with e|e;exact Af (by rw[HP.out.1];exact Ah e);exact Ah e);have HNEW:Hid (∀k,k<w6.heap.size→P3 k→ ¬(p.its k∨ ¬P2 k)):=T (λk h1 h2 e=>by rcases e with e|e;have:=HPI.out k e;omega;exact e (HUP.out.1 k h2));have HO:Hid (g.calm.b.outs.length≤1000000):=T ho;clear hcut hb9 hf9 b29 q0 y0 hpc hcv hsz hpi hv;obtain⟨wa,hwa⟩: ∃wa,wa=wc:=⟨_,rfl⟩;subst hwa;have HRX:Hid (∃R,Ej (s.next ⟨op,n⟩) s.ct ⟨op,n⟩ g.calm=R∧Rk R.s∧R.c=0):=T ⟨_,rfl,run_rk RD.out.k D9.out.mc.bok D9.out.mc.ok s.ct HK.out.1.ct ⟨op,n⟩ ⟨n0,n1⟩ SU.out.td SU.out.tr SU.out.pd SU.out.pr,(run_ca (s.next ⟨op,n⟩) s.ct ⟨op,n⟩ g.calm).1⟩;obtain⟨R,hR,hRk,hRc⟩:=HRX.out;have HRR:=T hR;have HRk:=T (Ay hRk hRc);clear hR hRk hRc HRX;go_upto_region 12 with(fail);go_cut [69] (λv wx=> ∃b,v=Ap b∧Hid (M12 wa wx p P2 a A ⟨s.next ⟨op,n⟩,s.ct,0,0,Ac⟩ g.calm (Ea R s.ct) R.g op b));case first=>
    by_cases cs:C8 op=Ag
    ·have Hst:=T (mJ wa p _ P2 a A g.calm D9.out RD.out.k op n UX.out.uo SU.out cs);go_wp2_with fail;refine Az Hst ?_;intro e w11 hq;have he:=hq.1;subst he;have HQ:Hid (M12 wa w11 p P2 a A ⟨s.next ⟨op,n⟩,s.ct,0,0,Ac⟩ g.calm (Ea R s.ct) R.g op Ac):=T (by
      have e:R=⟨stackS (s.next ⟨op,n⟩) ⟨op,n⟩,0,0,Ac,g.calm⟩:=by rw[←HRR.out];unfold Ej;rw[An cs]
      rw[e];exact M12.no hq.2)
     exact SS
    ·have cs:C8 op=Ac:=by simpa using cs
     have Hst:=T (stack_no wa p _ P2 a A g.calm D9.out ⟨RD.out.k.2.1,RD.out.k.2.2.1⟩ op n cs);go_wp2_with fail;refine Az Hst ?_;intro e w11 hq;obtain⟨rfl,⟨g1,A1,ca1,B1,cb1⟩,P11,L1,D1⟩:=hq;obtain rfl:g1=p.g:=L1.g;have b211:=HB29.out.fr L1.f (HNEW.out _ O (HP2.out _ (Af O)));have e0:=b211.cell 0;have e1:=b211.cell 1;have B211:=T b211;have Hrk:=T (mK w11 _ _ P11 a A g.calm D1 RD.out op n n0 n1 UX.out.uo cs SU.out);have L1:=T L1;clear D1 b211;by_cases cr:Fc op=Ag
     ·rw[cr] at Hrk;go_wp2_with fail;refine Az Hrk ?_;intro e w12 hq;have he:=hq.1;subst he;have HQ:Hid (M12 wa w12 p P2 a A ⟨s.next ⟨op,n⟩,s.ct,0,0,Ac⟩ g.calm (Ea R s.ct) R.g op Ac):=T (by
       have e:R=⟨reckS (s.next ⟨op,n⟩) ⟨op,n⟩,0,0,Ac,g.calm⟩:=by rw[←HRR.out];unfold Ej;rw[Ae (by rw[cs];simp),An cr]
       rw[e];exact M12.no (DPost.tr L1.out hq).2)
      exact SS
     ·have cr:Fc op=Ac:=by simpa using cr
      rw[cr] at Hrk;have er:reckS (s.next ⟨op,n⟩) ⟨op,n⟩=s.next ⟨op,n⟩:=reck_id cr;dsimp only at Hrk;rw[er] at Hrk;clear er;go_wp2_with fail;refine Az Hrk ?_;intro e w12 hq;have he:=hq.1;subst he;have HQ:Hid (M12 wa w12 p P2 a A ⟨s.next ⟨op,n⟩,s.ct,0,0,Ac⟩ g.calm (Ea R s.ct) R.g op Ag):=T (M12.yes cs cr (DPost.tr L1.out hq).2);exact SS
   case rest=>
   obtain⟨b12,rfl,H12⟩:=hcut;obtain⟨wb,hwb⟩: ∃wb,wb=wc:=⟨_,rfl⟩;subst hwb
   go_upto_if 69 with(fail)
   go_cut [] (λwx=>Hid (∃p' P',Lk wa wx p p' P2 P'∧Dn wx p' (Ea R s.ct) P' a A R.g));case first=>
    cases b12
    ·go_wp2
     go_meet;exact T H12.out.1
    ·obtain⟨cs,cr,⟨g2,A2,ca2,B2,cb2⟩,P12,L12,D2⟩:=H12.out.2;obtain rfl:g2=p.g:=L12.g;have b212:=HB29.out.fr L12.f (HNEW.out _ O (HP2.out _ (Af O)));have e0:=b212.cell 0;have e1:=b212.cell 1;have B212:=T b212;have Hot:=T (mL wb _ _ P12 a A g.calm D2 RD.out op n n0 n1 UX.out SU.out cs cr HO.out);have L12:=T L12;clear D2 b212;go_wp2_with fail;refine Az Hot ?_;intro e w13 hq;have he:=hq.1;subst he;have HQ:Hid (∃p' P',Lk wa w13 p p' P2 P'∧Dn w13 p' (Ea R s.ct) P' a A R.g):=T (by
      have e:R=Iu (s.next ⟨op,n⟩) s.ct ⟨op,n⟩ g.calm:=by rw[←HRR.out];unfold Ej;rw[Ae (by rw[cs];simp),Ae (by rw[cr];simp)]
      rw[e];exact(DPost.tr L12.out hq).2)
     clear hq
     go_wp2
     go_meet;exact HQ
   case rest=>
    obtain⟨⟨gq,Aq,caq,Bq,cbq⟩,PQ,LQ,DQ⟩:=hcut.out;obtain rfl:gq=p.g:=LQ.g;go_upto_region 14 with(fail);obtain⟨wr,hwr⟩: ∃wr,wr=wc:=⟨_,rfl⟩;subst hwr;have bq:=DQ.rn.b;have bqd:=bq.drew;have k21:wr.cell? ⟨p.g,21,G⟩=I (Ap R.dv):=bq.cell 21;have k21b:(wr.alloc (.cells z19 206)).cell? ⟨p.g,21,G⟩=I (Ap R.dv):=(bq.alloc (.cells z19 206)).cell 21;have k21c:(wr.alloc (.cells z19 206)).drew.cell? ⟨p.g,21,G⟩=I (Ap R.dv):=(bq.alloc (.cells z19 206)).drew.cell 21;have hql:p.g<↑wr:=bq.lt;have HQ2:=T (Ay LQ DQ);have bt:Blk (wr.drew.alloc (.cells z19 206)) ↑wr 206 z19:=AI _ _ _;have oR:(EK R.s (Z Aq R.s.d.length caq) (Z Bq R.s.r.length cbq) Ac R.dv (Z G 0 0)).all (·.oneCell')=Ag:=Ei;clear LQ DQ hcut e0 e1;go_cut [12] (λv wx=> ∃gt,v=Bm (I ⟨gt,0,G⟩)∧Hid (Blk wx gt 206 (EK R.s (Z Aq R.s.d.length caq) (Z Bq R.s.r.length cbq) Ac R.dv (Z G 0 0))∧wr.heap.size≤gt∧Fr Aj wr wx));case first=>
     refine wp_region_any AL ?_
     try(change wpAny _ _ _ _ _ _ _ (World.drew _))
     refine Gj 0 rfl Gk ?_;refine Gj 1 rfl Gk ?_;refine Gj 2 rfl Gk ?_;refine Gj 4 rfl Gk ?_;simp only[AG];refine Gj 5 rfl Gk ?_;refine Gj 6 rfl Gk ?_;simp only[AG];refine EY [3,7,9] ?_;refine D5 (λK hK=>?_) ?_
     ·refine KE (stc R.s (Z Aq R.s.d.length caq) (Z Bq R.s.r.length cbq)) OM AQ AJ rfl rfl (NQ (Ea R s.ct) _ _ _ _) rfl rfl BC ?_;refine hK _ _ ?_;clear hK K;refine EY [7,9] ?_;refine D5 (λK hK=>?_) ?_;·go_simp;exact gN
      refine D5 (λK hK=>?_) ?_;·go_simp;exact gO
      exact Fx
     refine D5 (λK hK=>?_) ?_
     ·go_simp;refine hK _ _ ?_;clear hK K;refine EY [3,9] ?_;refine D5 (λK hK=>?_) ?_;·refine KE (stc R.s (Z Aq R.s.d.length caq) (Z Bq R.s.r.length cbq)) OM AQ AJ rfl rfl (NQ (Ea R s.ct) _ _ _ _) rfl rfl BC ?_;exact gN
      exact gP
     refine D5 (λK hK=>?_) ?_
     ·go_simp;refine hK _ _ ?_;clear hK K;refine EY [3,7] ?_;refine D5 (λK hK=>?_) ?_;·refine KE (stc R.s (Z Aq R.s.d.length caq) (Z Bq R.s.r.length cbq)) OM AQ AJ rfl rfl (NQ (Ea R s.ct) _ _ _ _) rfl rfl BC ?_;exact gO
      exact gP
     exact Fx
    case rest=>
     obtain⟨gt,rfl,hX⟩:=hcut;obtain⟨wd,hwd⟩: ∃wd,wd=wc:=⟨_,rfl⟩;subst hwd;have hwz6:w6.heap.size≤wa.heap.size:=by have h1:=HBG.out.f.size;have h2:=HF9.out.size;omega
     have hwar:wa.heap.size≤wr.heap.size:=HQ2.out.1.f.size;have FX:Hid (Fr (λk=>w6.heap.size≤k∨ ¬P3 k) w6 wd):=T ((((HBG.out.f.none).tr (HF9.out.mono (λk _ e=> Af (by rw[e];exact HPI.out p.g (Af rfl))))).tr (HQ2.out.1.f.mono (λk _ e=>by
      rcases e with e|e;·exact Af (HPI.out k e)
      ·exact Ah (λq=>e (HUP.out.1 k q))))).tr (hX.out.2.2.none))
     have HGT:Hid (↑w6≤gt):=T (by have:=hX.out.2.1;omega);have D20:=T (HQ2.out.2.fr0 hX.out.2.2);have MG:Hid (Mch wd (λk=>PQ k∨k=gt) a A R.g):=T (HQ2.out.2.mc.more hX.out.2.2 (λk hk=>by
      rcases hk with e|e;·exact Af e
      ·exact Ah (by rw[e];exact⟨hX.out.2.1,hX.out.1.lt⟩)) (Af HQ2.out.2.mc.p0))
     have k19:wd.cell? ⟨p.g,19,G⟩=I (J U R.c):=D20.out.rn.b.cell 19;have hgl20:p.g<↑wd:=D20.out.rn.b.lt;have Hold:Hid (∀k,k<w6.heap.size→P3 k→ ¬(w6.heap.size≤k∨ ¬P3 k)):=T (λk h1 h2 e=>by
      rcases e with e|e;·omega
      ·exact e h2)
     have HRC:=T HRk.out.2;have HR1:Hid (Rk R.s):=T HRk.out.1;clear k21 k21b k21c bt oR bqd bq HRk;go_upto_region 15 with(fail);have hcb:(R.c !=0)=Ac:=by simp[HRC.out]
     have ed:doR s ⟨op,n⟩ g=⟨R.s,Ac,R.dv,Rm.turnN R.g.b.ms 64,R.g⟩:=by
      unfold doR;dsimp only;rw[HRR.out]
     have HFN:Hid (Fin wd wd gt PQ a A R.g R.s Ac R.dv Aq caq Bq cbq ↑w6):=T ⟨hX.out.1,⟨D20.out.rn.d,D20.out.rn.r,HR1.out.1⟩,D20.out.rn.ne,λk hk=>by
      have h1:=HQ2.out.1.it k (Ah hk);rcases h1 with e|e;·exact HPI.out k e
      ·omega,Ao _ _,MG.out.less (λk hk=>by
        rcases hk with e|e|e;·exact Af e
        ·exact Ah e
        ·exact Af (HQ2.out.2.ip k (Ah e))) (Af HQ2.out.2.mc.p0)⟩
     have ED:=T ed;clear ed;go_wp2_with fail;refine(Mu.memory_t wd A R.g.u HFN.out.mc.un).mono ?_;rintro e w21 ⟨rfl,rfl⟩;go_wp2_with fail;refine(Rm.turned_any wd A.am R.g.u.m HFN.out.mc.un.M ↑wd (AD _)).mono ?_;rintro e w21 ⟨v21,rfl,o21,f21,g21⟩;have hform: ∃Bh m,v21=Z Bh (Rm.turnN R.g.u.m 64).length m:=by
      rcases o21.2 with⟨rfl,h0⟩|⟨g',cap,cur,rfl,_⟩;·rw[h0];exact⟨_,_,rfl⟩
      ·exact⟨_,_,rfl⟩
     obtain⟨Bh,m,rfl⟩:=hform;have bt21:=HFN.out.b.fr f21 id;have y18:=bt21.frozen 18;have x18:=bt21.cell 18;have hgt21:=bt21.lt;have HZ:=T (Ay o21 (Ay f21 g21));clear o21 g21;go_upto_region 19 with(fail);have b22:Blk (w21.setCell ⟨gt,18,G⟩ (Z Bh (Rm.turnN R.g.u.m 64).length m)) gt 206 (EK R.s (Z Aq R.s.d.length caq) (Z Bq R.s.r.length cbq) Ac R.dv (Z Bh (Rm.turnN R.g.u.m 64).length m)):=bt21.set_ 18 _;have f22:Fr (· =gt) w21 (w21.setCell ⟨gt,18,G⟩ (Z Bh (Rm.turnN R.g.u.m 64).length m)):=(Ao _ _).at_ 18 _;have b82:Blk (w21.setCell ⟨gt,18,G⟩ (Z Bh (Rm.turnN R.g.u.m 64).length m)) (↑w+2) 206 z19:=(((B36.out.fr FX.out (Hold.out _ O (HP2.out _ (.inl O)))).fr HFN.out.f (λe=>by have:=HGT.out;omega)).fr f21 id).fr f22 (λe=>by have:=HGT.out;omega);have oR2:(EK R.s (Z Aq R.s.d.length caq) (Z Bq R.s.r.length cbq) Ac R.dv (Z Bh (Rm.turnN R.g.u.m 64).length m)).all (·.oneCell')=Ag:=Ei;have F22:=T f22;clear f22 bt21 y18 x18;go_wp2_with ((with_reducible refine wpL_lq b22 Tryz.underlying206 szR ?_);(with_reducible refine BL (cs':=EK R.s (Z Aq R.s.d.length caq) (Z Bq R.s.r.length cbq) Ac R.dv (Z Bh (Rm.turnN R.g.u.m 64).length m)) b82 szR oR2 ?_);intro W9 b9 f9;have B9:=T b9;have F9:=T f9;clear b9 f9 b22 b82 oR2);refine Bt (CV rfl _ _ (w.heap.size+2) 206 _ _ rfl B9.out Tryz.underlying206 rfl szR) rfl ?_;have F9':Fr (λk=>k=gt∨k=w.heap.size+2) w21 W9:=(F22.out.mono (λ_ _ e=> .inl e)).tr (F9.out.mono (λ_ _ e=> .inr e));rw[ED.out];exact pR (P3:=P3) (PQ:=PQ) hwz (λk hk=>by rw[HP3.out];exact Af (by rw[HP.out.1];exact .inl hk)) (HP2.out _ (.inl O)) (λk hk=>HQ2.out.1.up k (HUP.out.1 k hk)) HP0.out HFN.out F7.out FX.out HGT.out HZ.out.1 HZ.out.2.1 F9' (turnN_bd _) (Rm.turnN_le _ _)
end Rn
namespace Rn
open Gs Sv Gm Gc
theorem do_any(w:Aa)(s:St)(A0:Aw)(c0:Nat)(B0:Aw)(d0:Nat)(P:AE)(a:Bs.Ab)(A:Mu.Au)(g:Mc)(hS:StV w 0 s (Z A0 s.d.length c0) (Z B0 s.r.length d0))(hp: ∀k,ab A0=I k∨ab B0=I k→P k)(hM:Mch w P a A g)(hk:Rk s)(i:Ins)(n0:0≤i.n)(n1:i.n≤4294967295)(hu:Us s i)(ho:g.b.outs.length≤1000000):At Tryz.prog 102 #[A9 (stc s (Z A0 s.d.length c0) (Z B0 s.r.length d0)),Jn i,↑A.gU,↑a.gB] w (Q4 w P a A (doR s i g)):=
 do_good w s A0 c0 B0 d0 P a A g hS hp hM hk i n0 n1 hu.ch hu.ux ho
end Rn
end Go.Proofs.YtdfegdoeebaagaaGreatDoor
