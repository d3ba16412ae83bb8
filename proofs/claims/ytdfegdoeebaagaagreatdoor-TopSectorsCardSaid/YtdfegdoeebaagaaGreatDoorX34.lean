import Derived.Test.YtdfegdoeebaagaaGreatDoorX8
import Derived.Test.YtdfegdoeebaagaaGreatDoorX31
import Derived.Test.YtdfegdoeebaagaaGreatDoorX32
open Go.Value renaming slice→Z,int→J,bool→Ap,tuple→AF,agg→A9,oneCell'→Ir
open Option renaming some→I,none→G
open Go.IntKind renaming i64→U,u32→V,u8→AB,u64→AP,wrap_u64→Gg,wrap_u32→Gu
open Go renaming World→Aa,Value→As,Calls→At,bodyPost_ret→Bt,Ending→AY,maxLen→BQ
open Bool renaming false→Ac,true→Ag
open List renaming getD_eq_getElem?_getD→AS,mem_map→BS,range→Cl,getElem?_map→DP,getElem?_eq_none→Ew,length_pos_iff→Ef,getLastD_eq_getLast?→FI,dropLast_concat→Gw,map_append→FH,range_succ→Ic,getElem?_range→IL,map_map→GZ
open Go.Ending renaming returned→Ax
open And renaming intro→Ay
open Nat renaming le_refl→AD,le_trans→Bf,zero_le→Bj,zero_add→BW,lt_or_ge→DG
open Or renaming inl→Af,inr→Ah
open Go.Proofs.Tryz renaming underlying39→AQ,underlying27→I3
open Go.RowKit renaming intOf→AM
set_option linter.all false
set_option maxHeartbeats 40000000
set_option maxRecDepth 1000000
open Go Go.RowKit
namespace Go.Proofs.YtdfegdoeebaagaaGreatDoor
namespace Bl
open Fm Nt Rm By Wk Gs Bs Mu Sv Gm Gc Rn
section
variable {w w':Aa} {P P':AE} {a:Ab} {A:Au} {g:Mc}
theorem tick_m(h:Mch w P a A g)(cnt:Int):At Tryz.prog 91 #[↑a.gB,J AP cnt] w λe w'=>e=Ax (AF #[])∧Mch w' P a A ⟨g.b.tick cnt,g.l⟩∧Fr (λk=> ¬P k) w w':=by
 obtain⟨F,h1,h2⟩:=h.bus;exact(Bs.tick_any w F a g.b h1 cnt).mono (λe w' hp=>h.busPost h1 h2 hp)
theorem gc_m(h:Mch w P a A g):w.cell? ⟨a.gB,0,G⟩=I ↑a.gc∧a.gB<↑w:=by
 obtain⟨F,h1,h2⟩:=h.bus;exact⟨h1.b.cell 0,h1.b.lt⟩
theorem next_m(h:Mch w P a A g):At Tryz.prog 92 #[↑a.gc] w λe w'=>e=Ax (AF #[J U (Iq.nextN g.b.p g.b.m),Ap (Iq.nextB g.b.p g.b.m)])∧Fr Aj w w':=by
 obtain⟨F,h1,h2⟩:=h.bus;exact(Iq.next_any w a.gc g.b.p g.b.m h.tab h1.c (by have:=h1.ok.p;omega) h1.ok.m).mono (λe w' hp=>⟨hp.1,hp.2.2⟩)
theorem place_m(h:Mch w P a A g)(s:Sp)(hp:s.pg=Ac)(va k:Int)(v0:0≤va)(v1:va≤4294967295)(hk:k=1∨k=2∨k=3):At Tryz.prog 94 #[↑A.gU,spv s,J V va,J U k] w λe w'=>e=Ax (AF #[J V (placeR g.u s va k).p,trv (placeR g.u s va k).c (placeR g.u s va k).a])∧Mch w' P a A (g.setU (placeR g.u s va k).u)∧Fr (λk=> ¬P k) w w':=
 (Mu.place_any w A g.u h.un s hp va k v0 v1 hk).mono (λe w' hp=>⟨hp.1,h.unPost hp.2.1 hp.2.2 (Mu.tu_place (s:=s) (va:=va) (k:=k) h.tu)⟩)
end
def FetPost(w:Aa)(o:Option (Ins×Nat))(e:AY)(w':Aa):Prop:=
 (∃(i:Ins) (k:Int),e=Ax (AF #[Jn i,J U k,Ap o.isSome])∧ ∀x,o=I x→i=x.1∧k=x.2)∧Fr Aj w w'
theorem cN(w:Aa)(P:AE)(a:Ab)(A:Au)(g:Mc)(h:Mch w P a A g)(p:Int)(p0:0≤p)(p1:p≤4294967295):At Tryz.prog 101 #[↑A.gU,J V p] w (FetPost w (Cf g.b.ms p)):=by
 have f0:Fr Aj w (w.alloc (.cells #[J U 0,J V 0] 27)):=(Ao _ _).alloc _;have H:=T (h.fr0 f0);have hz:=h.un.M.lt;go_in;go_wp2_with fail;refine(Mu.memory_t _ A g.u H.out.un).mono ?_;rintro e w2 ⟨rfl,rfl⟩;go_wp2_with fail;have hM:=H.out.un.M;rw[H.out.am] at hM⊢;have hM:Mem _ a.am g.b.ms:=hM;by_cases hlt:p<(g.b.ms.n:Int)*64
 ·have hq:p/64<g.b.ms.n:=O;obtain⟨hn1,hn2⟩:=hM.n0;have HBD:=T hM.bd;have e2:Cf g.b.ms p=Dl (C3 g.b.ms p):=by unfold Cf;rw[An hlt]
  have HE:=T e2;clear e2;refine(Rm.page_in _ a.am g.b.ms hM (p/64) O hq).mono ?_;rintro e w3 ⟨rfl,hc,f3⟩;have hz:Hid (IntsAt AB w3 ↑w3 (I ⟨(w.alloc (.cells #[J U 0,J V 0] 27)).heap.size,(p%64).toNat,G⟩) (64 -(p%64).toNat) (C3 g.b.ms p)):=T (by
   have hg: ∀i,i<64 -(p%64).toNat→(C3 g.b.ms p).getD i 0=g.b.ms.mem ((p/64).toNat*64+((p%64).toNat+i)):=λi hi=>by
    unfold C3;rw[AS,DP,IL hi];show g.b.ms.mem (p.toNat+i)=_;congr 1;omega
   refine⟨by simp[C3],λi hi=>?_,λ_=>⟨_,_,rfl,hc.lt,λi hi=>?_⟩⟩;·rw[hg i hi];have:=HBD.out ((p/64).toNat*64+((p%64).toNat+i)) O;exact OE
   ·rw[hg i hi];exact hc.cell ((p%64).toNat+i) O)
  have F3:=T ((f0.tr f3));have H3:=T ((AI w 27 #[J U 0,J V 0]).fr f3 id);clear hc f3 f0;obtain⟨b3,hb3⟩:=A8 ((w.alloc (.cells #[J U 0,J V 0] 27)).heap.size);rw[hb3] at hz⊢;go_wp2_with fail;have hml:64 -(p%64).toNat≤BQ:=Cc
  cases hd:Dl (C3 g.b.ms p) with
  |none=>
   refine(Gc.dec_no _ _ _ _ _ hz.out hd hml).mono ?_;rintro e w4 ⟨er,hne,her,rfl,f4⟩;have e1:decide (er=0)=Ac:=Q9;have e2:(er==0)=Ac:=Q9;have b4:=H3.out.fr f4 id;have hl4:=b4.lt;have k0:=b4.cell 0;have k1:=b4.cell 1;have y0:=b4.frozen 0;have y1:=b4.frozen 1;have H4:=T b4;clear b4;have F4:=T (F3.out.tr f4);clear f4;go_wp2_with fail;refine Bt (Kj rfl _ _ w.heap.size 27 #[J U 0,J V 0] _ (J U 0) (Ap Ac) rfl rfl rfl (((H4.out.set_ 0 (J U 0)).set_ 1 (J V 0)).alloc _) I3 rfl szI) rfl ?_;rw[HE.out,hd];exact⟨⟨⟨0,0⟩,0,rfl,λx hx=>by cases hx⟩,(F4.out.trans (((Ao (λq=>q=w.heap.size) w4).setCell (p:=⟨↑w,0,G⟩) (Af rfl) _).setCell (p:=⟨↑w,1,G⟩) (Af rfl) _) (λq hq e=>MJ)).alloc _⟩
  |some x=>
   obtain⟨i,k⟩:=x;refine(Gc.dec_yes _ _ _ _ _ hz.out i k hd hml).mono ?_;rintro e w4 ⟨rfl,f4⟩;have b4:=H3.out.fr f4 id;have hl4:=b4.lt;have k0:=b4.cell 0;have k1:=b4.cell 1;have y0:=b4.frozen 0;have y1:=b4.frozen 1;have H4:=T b4;clear b4;have F4:=T (F3.out.tr f4);clear f4;go_wp2_with fail;refine Bt (Kj rfl _ _ w.heap.size 27 #[J U i.op,J V i.n] _ (J U k) (Ap Ag) rfl rfl rfl (((H4.out.set_ 0 (J U i.op)).set_ 1 (J V i.n)).alloc _) I3 rfl szI) rfl ?_;rw[HE.out,hd];exact⟨⟨i,k,rfl,λx hx=>by injection hx with hx;subst hx;exact⟨rfl,rfl⟩⟩,(F4.out.trans (((Ao (λq=>q=w.heap.size) w4).setCell (p:=⟨↑w,0,G⟩) (Af rfl) _).setCell (p:=⟨↑w,1,G⟩) (Af rfl) _) (λq hq e=>MJ)).alloc _⟩
 ·have e2:Cf g.b.ms p=G:=by unfold Cf;rw[Ae hlt]
  have HE:=T e2;clear e2;refine(Rm.page_out _ a.am g.b.ms hM (p/64) O).mono ?_;rintro e w3 ⟨rfl,rfl⟩;go_wp2_with fail;refine Bt (Kj rfl _ _ w.heap.size 27 #[J U 0,J V 0] _ (J U 0) (Ap Ac) rfl rfl rfl (AI _ _ _) I3 rfl szI) rfl ?_;rw[HE.out];exact⟨⟨⟨0,0⟩,0,rfl,λx hx=>by cases hx⟩,f0⟩
theorem next_any(w:Aa)(i:Ins)(r:Rz)(X Y Bh:Aw)(c d n m B:Nat)(page was:Int)(hz:IntsAt U w B Bh n r.pg)(hB:B≤↑w)(hm:n≤64)(w0:0≤was)(w1:was≤4294967295)(q0:0≤r.s.pc)(q1:r.s.pc≤4294967295):At Tryz.prog 103 #[Jn i,A9 (EK r.s (Z X r.s.d.length c) (Z Y r.s.r.length d) r.tr r.dv (Z Bh n m)),J U page,J V was] w λe w'=>e=Ax (Ap (CQ i r page was))∧Fr Aj w w':=by
 have hc:r.pg.contains page=Ca.hasI r.pg page:=by
  unfold Ca.hasI
  induction r.pg with
  |nil=>rfl
  |cons y l ih=>rw[List.contains_cons,List.any_cons,ih,Bool.beq_comm]
 have HC:=T (λW (f:Fr Aj w W)=>Ca.contains_any W B n m Bh r.pg page (hz.fr f hB (λ_ _ e=>e)) Cc);have HN:Hid (CQ i r page was=if endsB i.op||r.tr||r.dv||r.s.ha||Ca.hasI r.pg page then Ac else decide (r.s.pc/64=was/64)):=T (by unfold CQ;rw[hc]);obtain⟨b1,b2,f0⟩:=Ds w #[J U i.op,J V i.n] (EK r.s (Z X r.s.d.length c) (Z Y r.s.r.length d) r.tr r.dv (Z Bh n m)) 27 206;have F0:=T f0;have He:=T (λW=>Gc.ends_any W i.op);generalize hW:(w.alloc (.cells #[J U i.op,J V i.n] 27)).alloc (.cells (EK r.s (Z X r.s.d.length c) (Z Y r.s.r.length d) r.tr r.dv (Z Bh n m)) 206)=W at*;have k0:W.cell? ⟨↑w,0,G⟩=I (J U i.op):=b1.cell 0;have kl:=b1.lt;obtain⟨x2,h2⟩:=A8 r.tr;obtain⟨x3,h3⟩:=A8 r.dv;obtain⟨x4,h4⟩:=A8 r.s.ha;have k1:W.cell? ⟨↑w+1,16,G⟩=I (Ap r.tr):=b2.cell 16;have k2:W.cell? ⟨↑w+1,17,G⟩=I (Ap r.dv):=b2.cell 17;have k3:W.cell? ⟨↑w+1,15,G⟩=I (Ap r.s.ha):=b2.cell 15;have k4:W.cell? ⟨↑w+1,18,G⟩=I (Z Bh n m):=b2.cell 18;have k5:W.cell? ⟨↑w+1,0,G⟩=I (J V r.s.pc):=b2.cell 0;have kl2:=b2.lt;rw[h2] at k1 HN;rw[h3] at k2 HN;rw[h4] at k3 HN;generalize h1:endsB i.op=x1 at*;generalize h5:Ca.hasI r.pg page=x5 at*;have HW:=T hW;clear b1 b2 f0 hc hz h1 h2 h3 h4 h5 hW;have key: ∀(x1 x2 x3 x4 x5:Bool),(x1||x2||x3||x4||x5)=Ag→(if x1||x2||x3||x4||x5 then Ac else decide (r.s.pc/64=was/64))=Ac:=λx1 x2 x3 x4 x5 h=>An h
 cases x1
 ·cases x2
  ·cases x3
   ·cases x4
    ·cases x5
     ·go_in;go_upto_region 1 with(fail);rw[HW.out];go_wp2_with (first|((with_reducible refine(He.out _).mono ?_);rintro e w1 ⟨rfl,rfl⟩)|((with_reducible refine(HC.out _ F0.out).mono ?_);rintro e w1 ⟨rfl,rfl⟩));go_ret;refine⟨?_,F0.out⟩;rw[HN.out];rfl
     ·go_in;go_upto_region 1 with(fail);rw[HW.out];go_wp2_with (first|((with_reducible refine(He.out _).mono ?_);rintro e w1 ⟨rfl,rfl⟩)|((with_reducible refine(HC.out _ F0.out).mono ?_);rintro e w1 ⟨rfl,rfl⟩));go_ret;exact⟨cO,F0.out⟩
    ·exact OF
   ·exact OF
  ·exact OF
 ·exact OF
end Bl
namespace Bl
open Fm Nt Rm By Wk Gs Bs Mu Sv Gm Gc Rn
structure Lc(w0 wx:Aa)(P:AE)(gb:Nat)(a:Ab)(A:Au)(g:Mc)(s:St)(X Y:Aw)(c d:Nat)(L:AE):Prop where
 b:Blk wx gb 39 (stc s (Z X s.d.length c) (Z Y s.r.length d))
 st:StV wx 0 s (Z X s.d.length c) (Z Y s.r.length d)
 ne: ∀k,ab X=I k→ab Y≠I k
 f:Fr (λk=> ¬P k) w0 wx
 g0:↑w0≤gb
 z:P 0∧ ∀k,P k→k<w0.heap.size
 mc: ∃P',(∀k,P k→P' k)∧(∀k,P' k→P k∨w0.heap.size≤k)∧(∀k,ab X=I k∨ab Y=I k→P' k)∧(∀k,ab X=I k∨ab Y=I k→P k∨w0.heap.size≤k)∧P' gb∧(∀k,L k→P' k∧w0.heap.size≤k)∧Mch wx P' a A g
section
variable {w0 w wx w':Aa} {P P':AE} {gb:Nat} {a:Ab} {A:Au} {g g':Mc} {s s':St} {X Y X' Y':Aw} {c d c' d':Nat} {L L':AE}
theorem gbne(hb:Blk wx gb 39 (stc s (Z X s.d.length c) (Z Y s.r.length d)))(hS:StV wx 0 s (Z X s.d.length c) (Z Y s.r.length d)):ab X≠I gb∧ab Y≠I gb:=
 ⟨λe=>AZ hS.d hb Ak (ab_own hS.d e),λe=>AZ hS.r hb Ak (ab_own hS.r e)⟩
theorem Lc.fr0(h:Lc w0 w P gb a A g s X Y c d L)(f:Fr Aj w w'):Lc w0 w' P gb a A g s X Y c d L:=by
 obtain⟨P',p1,p2,p3,p4,p5,p6,p7⟩:=h.mc;exact⟨h.b.fr f id,h.st.fr0 f,h.ne,h.f.trans f (λ_ _ e=>e.elim),h.g0,h.z,P',p1,p2,p3,p4,p5,p6,p7.fr0 f⟩
theorem Lc.mach(h:Lc w0 w P gb a A g s X Y c d L): ∃P',Mch w P' a A g∧(∀k,L k∨k=gb∨ab X=I k∨ab Y=I k→ ¬ ¬P' k)∧ ∀w' g',Mch w' P' a A g'→Fr (λk=> ¬P' k) w w'→Lc w0 w' P gb a A g' s X Y c d L:=by
 obtain⟨P',p1,p2,p3,p4,p5,p6,p7⟩:=h.mc;refine⟨P',p7,λk hk e=>?_,λw' g' hm f=>⟨h.b.fr f (λe=>e p5),h.st.fr f (λk hk e=>e (p3 k (Af (own_ab hk)))) (λk hk e=>e (p3 k (Ah (own_ab hk)))),h.ne,h.f.trans f (λk hk e q=>e (p1 k q)),h.g0,h.z,P',p1,p2,p3,p4,p5,p6,hm⟩⟩;rcases hk with e2|rfl|e2;·exact e (p6 k e2).1
 ·exact e p5
 ·exact e (p3 k e2)
theorem Lc.more(h:Lc w0 w P gb a A g s X Y c d L)(f:Fr Aj w w')(hl: ∀k,L' k→L k∨(w.heap.size≤k∧k<w'.heap.size)):Lc w0 w' P gb a A g s X Y c d L':=by
 obtain⟨P',p1,p2,p3,p4,p5,p6,p7⟩:=h.mc;have hs:=h.f.size;refine⟨h.b.fr f id,h.st.fr0 f,h.ne,h.f.trans f (λ_ _ e=>e.elim),h.g0,h.z,λk=>P' k∨(w.heap.size≤k∧k<w'.heap.size),λk hk=> Af (p1 k hk),λk hk=>?_,λk hk=> Af (p3 k hk),p4,Af p5,λk hk=>?_,p7.more f (λk hk=>hk) (Af p7.p0)⟩;·exact SA
 ·rcases hl k hk with e|e;·exact⟨Af (p6 k e).1,(p6 k e).2⟩
  ·exact⟨Ah e,O⟩
theorem Lc.less(h:Lc w0 w P gb a A g s X Y c d L)(hl: ∀k,L' k→L k):Lc w0 w P gb a A g s X Y c d L':=by
 obtain⟨P',p1,p2,p3,p4,p5,p6,p7⟩:=h.mc;exact⟨h.b,h.st,h.ne,h.f,h.g0,h.z,P',p1,p2,p3,p4,p5,λk hk=>p6 k (hl k hk),p7⟩
theorem Lc.wrote(h:Lc w0 w P gb a A g s X Y c d L){S:AE}(f:Fr S w w')(hs: ∀k,S k→L k∧k≠gb∧ab X≠I k∧ab Y≠I k):Lc w0 w' P gb a A g s X Y c d L:=by
 obtain⟨P',p1,p2,p3,p4,p5,p6,p7⟩:=h.mc;have hn: ∀k,L k→ ¬k<w0.heap.size:=λk hk=>by have:=(p6 k hk).2;omega
 have hz: ¬S 0:=λe=>by
  exact hn 0 (hs 0 e).1 (h.z.2 0 h.z.1)
 refine⟨h.b.fr f (λe=>(hs _ e).2.1 rfl),h.st.fr f (λk hk e=>(hs k e).2.2.1 (own_ab hk)) (λk hk e=>(hs k e).2.2.2 (own_ab hk)),h.ne,h.f.trans f (λk hk e=>absurd hk (hn k (hs k e).1)),h.g0,h.z,P',p1,p2,p3,p4,p5,p6,p7.fr f (λk hk=>(p6 k (hs k hk).1).1) hz⟩
theorem Lc.start(hS:StV w0 0 s (Z X s.d.length c) (Z Y s.r.length d))(hp: ∀k,ab X=I k∨ab Y=I k→P k)(hne: ∀k,ab X=I k→ab Y≠I k)(hM:Mch w0 P a A g)(f:Fr Aj w0 w)(hb:Blk w gb 39 (stc s (Z X s.d.length c) (Z Y s.r.length d)))(hg:↑w0≤gb):Lc w0 w P gb a A g s X Y c d (λk=>w0.heap.size≤k∧k<w.heap.size):=
 ⟨hb,hS.fr0 f,hne,f.mono (λ_ _ e=>e.elim),hg,⟨hM.p0,hM.pl⟩,λk=>P k∨(w0.heap.size≤k∧k<w.heap.size),λk hk=> Af hk,λk hk=>hk.imp id (λe=>e.1),λk hk=> Af (hp k hk),λk hk=> Af (hp k hk),Ah ⟨hg,hb.lt⟩,λk hk=>⟨Ah hk,hk.1⟩,hM.more f (λk hk=>hk) (Af hM.p0)⟩
variable{W:Aa}
theorem Lc.put(h:Lc w0 w P gb a A g s X Y c d L)(hn:StV w' ↑w s' (Z X' s'.d.length c') (Z Y' s'.r.length d'))(hne: ∀k,ab X'=I k→ab Y'≠I k)(f:Fr Aj w w')(hb:Blk W gb 39 (stc s' (Z X' s'.d.length c') (Z Y' s'.r.length d')))(f2:Fr (λq=>q=gb) w' W):Lc w0 W P gb a A g s' X' Y' c' d' L:=by
 obtain⟨P',p1,p2,p3,p4,p5,p6,p7⟩:=h.mc;have hs:=h.f.size;have h1:=h.b.lt;have hx:=cP;have hz: ¬(0=gb):=λe=>SB;refine⟨hb,(hn.low (Bj _)).fr f2 (λk hk e=>?_) (λk hk e=>?_),hne,(h.f.trans f (λ_ _ e=>e.elim)).trans f2 (λk hk e=>?_),h.g0,h.z,λk=>P' k∨(w.heap.size≤k∧k<w'.heap.size),λk hk=> Af (p1 k hk),λk hk=>?_,λk hk=> Ah (hx k hk),λk hk=> Ah Su,Af p5,λk hk=>⟨Af (p6 k hk).1,(p6 k hk).2⟩,(p7.more f (λk hk=>hk) (Af p7.p0)).fr f2 (λk hk=>?_) (λe=>hz e)⟩;·have:=hx k (Af (own_ab hk));omega
 ·have:=hx k (Ah (own_ab hk));omega
 ·have:=h.g0;omega
 ·exact SA
 ·rw[hk];exact Af p5
theorem Lc.made(hM:Mch w0 P a A g){b:Nat}(hb0:↑w0≤b)(hn:StV w' b s (Z X s.d.length c) (Z Y s.r.length d))(hne: ∀k,ab X=I k→ab Y≠I k)(f:Fr Aj w0 w')(hb:Blk W gb 39 (stc s (Z X s.d.length c) (Z Y s.r.length d)))(f2:Fr (λq=>q=gb) w' W)(hg:↑w0≤gb){cs0:AO}(hb2:Blk w' gb 39 cs0):Lc w0 W P gb a A g s X Y c d (λk=>w0.heap.size≤k∧k<w'.heap.size):=by
 have hx: ∀k,ab X=I k∨ab Y=I k→w0.heap.size≤k∧k<w'.heap.size:=λk hk=>by
  rcases hk with e|e;·have h1:=hn.d.ge k (ab_own hn.d e);have h2:=hn.d.lt k (ab_own hn.d e);omega
  ·have h1:=hn.r.ge k (ab_own hn.r e);have h2:=hn.r.lt k (ab_own hn.r e);omega
 have hS:=hn.low (Bj b);have hg2:=hb2.lt;have hv:ab X≠I gb∧ab Y≠I gb:=⟨λe=>AZ hS.d hb2 Ak (ab_own hS.d e),λe=>AZ hS.r hb2 Ak (ab_own hS.r e)⟩;exact⟨hb,hS.fr f2 (λk hk e=>hv.1 C0) (λk hk e=>hv.2 C0),hne,(f.mono (S':=λk=> ¬P k) (λ_ _ e=>e.elim)).trans f2 (λk hk e=>O),hg,⟨hM.p0,hM.pl⟩,λk=>P k∨(w0.heap.size≤k∧k<w'.heap.size),λk hk=> Af hk,λk hk=>hk.imp id (λe=>e.1),λk hk=> Ah (hx k hk),λk hk=> Ah (hx k hk).1,Ah ⟨hg,hg2⟩,λk hk=>⟨Ah hk,hk.1⟩,(hM.more f (λk hk=>hk) (Af hM.p0)).fr f2 (λk hk=>by rw[hk];exact Ah ⟨hg,hg2⟩) (λe=>by have:=hM.pl 0 hM.p0;omega)⟩
theorem Lc.box(h:Lc w0 w P gb a A g s X Y c d L)(hd:s'.d=s.d)(hr:s'.r=s.r)(hok:s'.Ok)(hb:Blk W gb 39 (stc s' (Z X s'.d.length c) (Z Y s'.r.length d)))(f2:Fr (λq=>q=gb) w W):Lc w0 W P gb a A g s' X Y c d L:=by
 obtain⟨P',p1,p2,p3,p4,p5,p6,p7⟩:=h.mc;have hv:=gbne h.b h.st;refine⟨hb,⟨?_, ?_,hok⟩,h.ne,h.f.trans f2 (λk hk e=>by have:=h.g0;omega),h.g0,h.z,P',p1,p2,p3,p4,p5,p6,p7.fr f2 (λk hk=>by rw[hk];exact p5) (λe=>SB)⟩;·rw[hd];exact h.st.d.fr f2 (λk hk e=>hv.1 C0)
 ·rw[hr];exact h.st.r.fr f2 (λk hk e=>hv.2 C0)
theorem Lc.up(h:Lc w0 w P gb a A g s X Y c d L)(hk:Rk s):Lc w0 (w.setCell ⟨gb,14,G⟩ (J AP (St.up s).ct)) P gb a A g (St.up s) X Y c d L:=by
 have hb:Blk (w.setCell ⟨gb,14,G⟩ (J AP (St.up s).ct)) gb 39 (stc (St.up s) (Z X s.d.length c) (Z Y s.r.length d)):=h.b.set_ 14 _;have f:Fr (λq=>q=gb) w (w.setCell ⟨gb,14,G⟩ (J AP (St.up s).ct)):=(Ao (λq=>q=gb) w).setCell (p:=⟨gb,14,G⟩) (.inl rfl) _;exact h.box (s':=St.up s) rfl rfl hk.up.1 hb f
theorem Lc.give(h:Lc w0 w P gb a A g s X Y c d L)(hn:StV w' ↑w s' (Z X' s'.d.length c') (Z Y' s'.r.length d'))(hne: ∀k,ab X'=I k→ab Y'≠I k)(f:Fr Aj w w'){q:Nat}(hq:L q)(hql:q<↑w)(f2:Fr (λk=>k=q) w' W):Stp w0 W P a A s' g X' Y' c' d':=by
 obtain⟨P',p1,p2,p3,p4,p5,p6,p7⟩:=h.mc;have hs:=h.f.size;have hx:=cP;have hq2:=p6 q hq;have hz:=h.z.2 0 h.z.1;refine⟨(hn.low (Bj _)).fr f2 (λk hk e=>?_) (λk hk e=>?_),hne,(h.f.trans f (λ_ _ e=>e.elim)).trans f2 (λk hk e=>O),λk=>P' k∨(w.heap.size≤k∧k<w'.heap.size),λk hk=> Af (p1 k hk),λk hk=>?_,λk hk=> Ah (hx k hk),λk hk=> Ah Su,(p7.more f (λk hk=>hk) (Af p7.p0)).fr f2 (λk hk=>by rw[hk];exact Af hq2.1) (λe=>O)⟩;·have:=hx k (Af (own_ab hk));omega
 ·have:=hx k (Ah (own_ab hk));omega
 ·exact SA
theorem Lc.stp(h:Lc w0 w P gb a A g s X Y c d L):Stp w0 w P a A s g X Y c d:=by
 obtain⟨P',p1,p2,p3,p4,p5,p6,p7⟩:=h.mc;exact⟨h.st,h.ne,h.f,P',p1,p2,p3,p4,p7⟩
theorem Lc.took(h:Lc w0 w P gb a A g s X Y c d L){Pm:AE}(h1: ∀k,P k→Pm k)(h2: ∀k,Pm k→P k∨w0.heap.size≤k)(h5:Pm gb)(h6: ∀k,L k→Pm k∧w0.heap.size≤k)(hn:Stp w w' Pm a A s' g' X' Y' c' d')(hX:ab X'≠I gb∧ab Y'≠I gb)(hb:Blk W gb 39 (stc s' (Z X' s'.d.length c') (Z Y' s'.r.length d')))(f2:Fr (λq=>q=gb) w' W)(hz:0≠gb):Lc w0 W P gb a A g' s' X' Y' c' d' L:=by
 obtain⟨Q,q1,q2,q3,q4,q5⟩:=hn.mc;have hs:=h.f.size;refine⟨hb,hn.st.fr f2 (λk hk e=>hX.1 C0) (λk hk e=>hX.2 C0),hn.ne,(h.f.trans hn.f (λk hk e q=>e (h1 k q))).trans f2 (λk hk e=>?_),h.g0,h.z,Q,λk hk=>q1 k (h1 k hk),λk hk=>?_,q3,λk hk=>?_,q1 gb h5,λk hk=>⟨q1 k (h6 k hk).1,(h6 k hk).2⟩,q5.fr f2 (λk hk=>by rw[hk];exact q1 gb h5) (λe=>hz e)⟩;·have:=h.g0;omega
 ·rcases q2 k hk with e|e;·exact h2 k e
  ·exact EJ
 ·rcases q4 k hk with e|e;·exact h2 k e
  ·exact EJ
theorem Stp.fr0(h:Stp w w' P a A s g X Y c d){w2:Aa}(f:Fr Aj w' w2):Stp w w2 P a A s g X Y c d:=by
 obtain⟨Q,q1,q2,q3,q4,q5⟩:=h.mc;exact⟨h.st.fr0 f,h.ne,h.f.trans f (λ_ _ e=>e.elim),Q,q1,q2,q3,q4,q5.fr0 f⟩
theorem Lc.mach2(h:Lc w0 w P gb a A g s X Y c d L): ∃P',Mch w P' a A g∧(∀k,L k∨k=gb∨ab X=I k∨ab Y=I k→P' k)∧ ∀{w' W s' g' X' Y' c' d'},Stp w w' P' a A s' g' X' Y' c' d'→Blk W gb 39 (stc s' (Z X' s'.d.length c') (Z Y' s'.r.length d'))→Fr (λq=>q=gb) w' W→Lc w0 W P gb a A g' s' X' Y' c' d' L:=by
 obtain⟨P',p1,p2,p3,p4,p5,p6,p7⟩:=h.mc;refine⟨P',p7,λk hk=>?_,λ{w' W s' g' X' Y' c' d'} hn hb f2=>?_⟩
 ·rcases hk with e2|rfl|e2;·exact(p6 k e2).1
  ·exact p5
  ·exact p3 k e2
 ·have b1:=h.b.fr hn.f (λe=>e p5);have hv:=(⟨λe=>AZ hn.st.d b1 Ak (ab_own hn.st.d e),λe=>AZ hn.st.r b1 Ak (ab_own hn.st.r e)⟩:ab X'≠I gb∧ab Y'≠I gb);exact h.took p1 p2 p5 p6 hn hv hb f2 (λe=>SB)
theorem ints_box{B n:Nat}{Bh:Aw}{zs:List Int}(h:IntsAt U w B Bh n zs)(hb:Blk w gb 39 (stc s (Z X s.d.length c) (Z Y s.r.length d)))(f:Fr (λq=>q=gb) w w')(hB:B≤↑w):IntsAt U w' B Bh n zs:=by
 refine⟨h.1,h.2.1,λhn=>?_⟩;obtain⟨b,o,e,hl,hc⟩:=h.2.2 hn;have hne: ¬b=gb:=λe2=>by
  subst e2;have h0:=hc 0 hn;rw[hb.cell] at h0;by_cases hj:o+0<16
  ·obtain⟨j,hj2⟩: ∃j,j=o+0:=⟨_,rfl⟩;rw[←hj2] at h0 hj
   match j,hj with
   |0,_|1,_|2,_|3,_|4,_|5,_|6,_|7,_|8,_|9,_|10,_|11,_|12,_|13,_|14,_|15,_=>simp[stc] at h0
  ·rw[Array.getElem?_eq_none AA] at h0
   cases h0
 exact⟨b,o,e,hl,λi hi=>f.cell (hc i hi) Rl hne⟩
end
end Bl
namespace Bl
open Fm Nt Rm By Wk Gs Bs Mu Sv Gm Gc Rn
abbrev I8(s:St)(D R:As)(p:Int)(on:Bool):AO:=#[J V s.pc,D,R,J V s.fl,Ap s.su,Ap s.pg,Ap s.ie,J V s.rt,J V s.ve,J V s.ep,J V s.ca,J V s.ad,Ap s.es,Ap s.ei,J AP s.ct,Ap s.ha,J V p,Ap on]
abbrev z18:AO:=#[J V 0,Z G 0 0,Z G 0 0,J V 0,Ap Ac,Ap Ac,Ap Ac,J V 0,J V 0,J V 0,J V 0,J V 0,Ap Ac,Ap Ac,J AP 0,Ap Ac,J V 0,Ap Ac]
theorem szB:(Tryz.prog.info? 163).map (·.size)=I 18:=AL
theorem oneB(s:St)(X Y:Aw)(c d:Nat)(p:Int)(on:Bool):(I8 s (Z X s.d.length c) (Z Y s.r.length d) p on).all (·.oneCell')=Ag:=by
 simp[I8,Ir]
theorem low_le(n:Nat):Iq.low n≤7:=by
 unfold Iq.low
 cases h:(Cl 8).find? (λi=>n.testBit i) with
 |none=>exact Bj _
 |some k=>
  have:=List.mem_of_find?_eq_some h;have:=List.mem_range.1 this;show k≤7;omega
theorem irq_rk{s:St}(h:Rk s)(g:Mc):Rk (Db s g):=by
 unfold Db;split;·have:=low_le (g.b.p&&&g.b.m);exact h.trap _ _ ⟨by unfold Iq.nextN;omega,by unfold Iq.nextN;omega⟩ bd0
 ·exact h
def BegPost(w:Aa)(P:AE)(a:Ab)(A:Au)(r:Be)(e:AY)(w':Aa):Prop:=
 ∃X c Y d,e=Ax (A9 (I8 r.s (Z X r.s.d.length c) (Z Y r.s.r.length d) r.p r.on))∧Stp w w' P a A r.s r.g X Y c d
theorem cQ(w:Aa)(s:St)(A0:Aw)(c0:Nat)(B0:Aw)(d0:Nat)(P:AE)(a:Ab)(A:Au)(g:Mc)(hS:StV w 0 s (Z A0 s.d.length c0) (Z B0 s.r.length d0))(hp: ∀k,ab A0=I k∨ab B0=I k→P k)(hM:Mch w P a A g)(hk:Rk s)(hh:s.ha=Ac)(hpg:s.pg=Ac):At Tryz.prog 76 #[A9 (stc s (Z A0 s.d.length c0) (Z B0 s.r.length d0)),↑A.gU,↑a.gB] w (BegPost w P a A (BH s g)):=by
 have hr:=hk.right;have HPG:=T hpg;clear hpg;have eR:BH s g=(let g1:Mc:=⟨g.b.tick s.ct,g.l⟩;let s1:=Db s g1;let r:=placeR g1.u (spS s1) s1.pc 1;if r.c≠0 then⟨(St.up s1).trap r.c r.a,0,Ac,g1.setU r.u⟩ else⟨s1,r.p,Ag,g1.setU r.u⟩):=by
  unfold BH;rw[Ae (by simp[hr,hh])]
 have ER:=T eR;clear eR;obtain⟨b3,b6,f0⟩:=Ds w (stc s (Z A0 s.d.length c0) (Z B0 s.r.length d0)) z18 39 163;have L0:=hS.fr0 f0;have HK:=T hk;have hz0:w.heap.size+2=((w.alloc (.cells (stc s (Z A0 s.d.length c0) (Z B0 s.r.length d0)) 39)).alloc (.cells z18 163)).heap.size:=AC;generalize hW0:(w.alloc (.cells (stc s (Z A0 s.d.length c0) (Z B0 s.r.length d0)) 39)).alloc (.cells z18 163)=W0 at*;have Hc:=T (Gr W0 0 s _ _ L0 Lq Ls);have HX:=T (Ay hS (Ay hp (Ay hM f0)));have B6:=T b6;clear L0 hS hp hM b6 f0 hk;have HW:=T hW0;clear hW0;go_in;go_upto_region 1 with(fail);rw[HW.out];go_wp2_with ((with_reducible refine wpL_lq b3 AQ AJ ?_));refine Az Hc ?_;rintro e w1 ⟨A1,c1,B1,d1,rfl,h1,ne1,f1⟩;have b31:=b3.fr f1 id;have o1:=Ce s (Z A1 s.d.length c1) (Z B1 s.r.length d1) rfl rfl;have H31:=T b31;have HG:=T (Ay h1 (Ay ne1 f1));have hz1:=f1.size;clear h1 ne1 f1 b3;go_upto_region 2 with(((with_reducible refine BL (cs':=stc s (Z A1 s.d.length c1) (Z B1 s.r.length d1)) b31 AJ o1 ?_);intro W2 b2 f2;have HB2:=T b2;have HF2:=T f2;clear b2 f2 b31 o1));obtain⟨hS,hp,hM,f0⟩:=HX.out;obtain⟨h1,ne1,f1⟩:=HG.out;have l2:=Lc.made hM O h1 (λk e1 e2=>ne1 k (ab_own h1.d e1) (ab_own h1.r e2)) (f0.tr f1) HB2.out HF2.out (AD _) H31.out;have B62:=T ((B6.out.fr f1 id).fr HF2.out IT);have L2:=T (l2.less (L':=λk=>k=w.heap.size+1) (λk e=>by subst e;omega));clear hS hp hM f0 h1 ne1 f1 l2 HB2 HF2 H31 HG HX B6 Hc;have Hr:=T (λW=>right_any W s A1 B1 c1 d1);rw[hr] at Hr;have b2:=L2.out.b;go_upto_region 4 with(first
  |((with_reducible refine wpL_lq b2 AQ AJ ?_))
  |((with_reducible refine(Hr.out _).mono ?_);rintro e w3 ⟨rfl,f3⟩;have L3:=T (L2.out.fr0 f3);have B63:=T (B62.out.fr f3 id);have k15:w3.cell? ⟨↑w,15,G⟩=I (Ap Ac):=(L3.out.b.cell 15).trans (by rw[←hh];rfl);have k14:w3.cell? ⟨↑w,14,G⟩=I (J AP s.ct):=L3.out.b.cell 14;have kl:=L3.out.b.lt;clear f3 b2))
 go_wp2_with fail;obtain⟨P3,M3,np3,up3⟩:=L3.out.mach;refine(tick_m M3 s.ct).mono ?_;rintro e w4 ⟨rfl,M4,f4⟩;have L4:=T (up3 w4 _ M4 f4);have B64:=T (B63.out.fr f4 (np3 _ (Af rfl)));obtain⟨P4,M4k,np4,up4⟩:=L4.out.mach;obtain⟨k0,kl0⟩:=gc_m M4k;have Hn:=T (next_m M4k);clear k15 k14 kl M3 np3 up3 M4 f4 L2 L3 B62 B63 Hr np4 up4 M4k;obtain⟨nb,hnb⟩:=A8 (Iq.nextB (g.b.tick s.ct).p (g.b.tick s.ct).m);obtain⟨nn,hnn⟩:=A8 (Iq.nextN (g.b.tick s.ct).p (g.b.tick s.ct).m);rw[hnb,hnn] at Hn;have hn8:nn≤7:=by rw[←hnn];exact low_le _
 have HI:Hid (Db s ⟨g.b.tick s.ct,g.l⟩=if nb&&s.ie then s.trap (16+(nn:Int)) 0 else s):=T (by unfold Db;rw[←hnb,←hnn]);go_wp2_with fail;refine Az Hn ?_;rintro e w5 ⟨rfl,f5⟩;have L5:=T (L4.out.fr0 f5);have B65:=T (B64.out.fr f5 id);clear k0 kl0 Hn f5 L4 B64 hnb;go_upto_region 6 with(fail);have k6:w5.cell? ⟨↑w,6,G⟩=I (Ap s.ie):=L5.out.b.cell 6;have kl:=L5.out.b.lt;obtain⟨ie,hie⟩: ∃ie,s.ie=ie:=⟨_,rfl⟩;rw[hie] at k6 HI;go_cut [46] (λv wx=> ∃bb,v=Ap bb∧(nb&&ie)=bb∧wx=w5);case first=>
  cases nb
  ·go_wp2
   go_meet;exact⟨_,rfl,rfl,rfl⟩
  ·go_wp2
   go_meet;exact⟨_,rfl,rfl,rfl⟩
 case rest=>
  obtain⟨bb,rfl,hbb,rfl⟩:=hcut;obtain⟨w5,rfl⟩: ∃w5,w5=wc:=⟨_,rfl⟩;rw[hbb] at HI;clear k6 hie hbb;have hkk:=HK.out;have hd:=hkk.2.1;have hr2:=hkk.2.2.1
  go_upto_if 46 with(fail)
  go_cut [] (λwx=> ∃X c Y d,Hid (Lc w wx P ↑w a A ⟨g.b.tick s.ct,g.l⟩ (Db s ⟨g.b.tick s.ct,g.l⟩) X Y c d (λk=>k=w.heap.size+1))∧Hid (Blk wx (↑w+1) 163 z18));case first=>
   cases bb
   ·go_wp2
    go_meet;have e:Db s ⟨g.b.tick s.ct,g.l⟩=s:=HI.out;refine⟨A1,c1,B1,d1, ?_,B65⟩;rw[e];exact L5
   ·have e:Db s ⟨g.b.tick s.ct,g.l⟩=s.trap (16+(nn:Int)) 0:=HI.out;have HE:=T e;have b5:=L5.out.b;have Ht:=T (T7 w5 0 s A1 B1 c1 d1 L5.out.st O O (16+(nn:Int)) 0 O O O O);clear e;go_wp2_with ((with_reducible refine wpL_lq b5 AQ AJ ?_));refine Az Ht ?_;rintro e w6 ⟨A6,c6,B6',d6,rfl,h6,ne6,f6⟩;have b6:=b5.fr f6 id;have o6:=Ce (s.trap (16+(nn:Int)) 0) (Z A6 (s.trap (16+(nn:Int)) 0).d.length c6) (Z B6' (s.trap (16+(nn:Int)) 0).r.length d6) rfl rfl;have HG:=T (Ay h6 (Ay ne6 f6));clear h6 ne6 f6 b5 Ht;go_wp2_with (((with_reducible refine BL (cs':=stc (s.trap (16+(nn:Int)) 0) (Z A6 (s.trap (16+(nn:Int)) 0).d.length c6) (Z B6' (s.trap (16+(nn:Int)) 0).r.length d6)) b6 AJ o6 ?_);intro W7 b7 f7;have HB7:=T b7;have HF7:=T f7;clear b7 f7 b6 o6));go_meet;obtain⟨h6,ne6,f6⟩:=HG.out;refine⟨A6,c6,B6',d6,T ?_,T ((B65.out.fr f6 id).fr HF7.out IT)⟩;have e:Db s ⟨g.b.tick s.ct,g.l⟩=s.trap (16+(nn:Int)) 0:=HE.out;rw[e];exact L5.out.put h6 (λk e1 e2=>ne6 k (ab_own h6.d e1) (ab_own h6.r e2)) f6 HB7.out HF7.out
  case rest=>
   obtain⟨X,c,Y,d,HL,HB⟩:=hcut;obtain⟨s1,hs1⟩:=A8 (Db s ⟨g.b.tick s.ct,g.l⟩);rw[hs1] at HL;have hk1:Rk s1:=by rw[←hs1];exact irq_rk hkk _
   have hp1:s1.pg=Ac:=by
    rw[←hs1];unfold Db;split;·exact HPG.out
    ·exact HPG.out
   obtain⟨P8,M8,np8,up8⟩:=HL.out.mach;have Hpl:=T (place_m M8 (spS s1) hp1 s1.pc 1 hk1.1.pc.1 hk1.1.pc.2 (Af rfl));clear hp1;obtain⟨r,hr8⟩:=A8 (placeR (⟨g.b.tick s.ct,g.l⟩:Mc).u (spS s1) s1.pc 1);have hca:(0≤r.c∧r.c≤100)∧Bd r.a:=by rw[←hr8];exact cD hk1.1.pc.1 hk1.1.pc.2
   rw[hr8] at Hpl;have HR:Hid (BH s g=if r.c≠0 then⟨(St.up s1).trap r.c r.a,0,Ac,(⟨g.b.tick s.ct,g.l⟩:Mc).setU r.u⟩ else⟨s1,r.p,Ag,(⟨g.b.tick s.ct,g.l⟩:Mc).setU r.u⟩):=T (by rw[ER.out,hs1,hr8]);have c5:wc.cell? ⟨↑w,5,G⟩=I (Ap s1.pg):=HL.out.b.cell 5;have c4:wc.cell? ⟨↑w,4,G⟩=I (Ap s1.su):=HL.out.b.cell 4;have c7:wc.cell? ⟨↑w,7,G⟩=I (J V s1.rt):=HL.out.b.cell 7;have c0:wc.cell? ⟨↑w,0,G⟩=I (J V s1.pc):=HL.out.b.cell 0;have kl8:=HL.out.b.lt;clear hs1 hr8 hr2 hd L5 B65 ER;go_wp2_with fail;refine Az Hpl ?_;rintro e w9 ⟨rfl,M9,f9⟩;have L9:=T (up8 w9 _ M9 f9);have B69:=T (HB.out.fr f9 (np8 _ (Af rfl)));clear c5 c4 c7 c0 kl8 Hpl M8 np8 up8 M9 f9 HL HB;go_upto_region 9 with(fail);by_cases hc:r.c=0
   ·have hcb:(r.c==0)=Ag:=JR;have hcb2:(r.c !=0)=Ac:=JR;have HC:=T hc;clear hc;go_upto_region 12 with(fail);have fa:Fr Aj w9 (w9.alloc (.cells #[J U r.c,J V r.a] 190)):=(Ao _ _).alloc _;have L10:=T (L9.out.fr0 fa);have B610:=T (B69.out.fr fa id);generalize w9.alloc (.cells #[J U r.c,J V r.a] 190)=w10 at*;have b10:=L10.out.b;have b11:=B610.out;have o6:=oneB s1 X Y c d r.p Ag;clear fa L9 B69;go_wp2_with (first
     |((with_reducible refine wpL_lq b10 AQ AJ ?_))
     |((with_reducible refine BL (cs':=I8 s1 (Z X s1.d.length c) (Z Y s1.r.length d) r.p Ag) b11 szB o6 ?_);intro W7 b7 f7;have HB7:=T b7;have HF7:=T f7;clear b7 f7 b11 o6))
    refine Bt (CV rfl _ _ (w.heap.size+1) 163 _ _ rfl HB7.out Tryz.underlying163 rfl szB) rfl ?_;rw[HR.out,Ae (by have:=HC.out;omega)];have hS:=L10.out.st;exact⟨X,c,Y,d,rfl,(L10.out.wrote HF7.out (λk hk=>by subst hk;exact⟨rfl,by omega,λe=>AZ hS.d B610.out (by decide) (ab_own hS.d e),λe=>AZ hS.r B610.out (by decide) (ab_own hS.r e)⟩)).stp⟩
   ·have hcb:(r.c==0)=Ac:=JR;have hcb2:(r.c !=0)=Ag:=JR;have k14:w9.cell? ⟨↑w,14,G⟩=I (J AP s1.ct):=L9.out.b.cell 14;have kl:=L9.out.b.lt;have y14:=L9.out.b.frozen 14;go_upto_region 11 with(fail);have hwc:IntKind.u64.wrap (s1.ct+1)=(St.up s1).ct:=Re;rw[hwc];have fs:Fr (λq=>q=w.heap.size) w9 (w9.setCell ⟨↑w,14,G⟩ (J AP (St.up s1).ct)):=(Ao (λq=>q=w.heap.size) w9).setCell (p:=⟨↑w,14,G⟩) (Af rfl) _;have fa:Fr Aj (w9.setCell ⟨↑w,14,G⟩ (J AP (St.up s1).ct)) ((w9.setCell ⟨↑w,14,G⟩ (J AP (St.up s1).ct)).alloc (.cells #[J U r.c,J V r.a] 190)):=(Ao _ _).alloc _;have L10:=T ((L9.out.up hk1).fr0 fa);have B610:=T ((B69.out.fr fs IT).fr fa id);have bt:=AI (w9.setCell ⟨↑w,14,G⟩ (J AP (St.up s1).ct)) 190 #[J U r.c,J V r.a];have hsz:(w9.setCell ⟨↑w,14,G⟩ (J AP (St.up s1).ct)).heap.size=w9.heap.size:=JM;rw[hsz] at bt;generalize(w9.setCell ⟨w.heap.size,14,G⟩ (J AP (St.up s1).ct)).alloc (.cells #[J U r.c,J V r.a] 190)=w10 at*;have t0:=bt.cell 0;have t1:=bt.cell 1;have tl:=bt.lt;have b10:=L10.out.b;have hul:(St.up s1).d.length≤100000∧(St.up s1).r.length≤100000:=by have:=hk1.2.1;have:=hk1.2.2.1;exact⟨by show s1.d.length≤_;omega,by show s1.r.length≤_;omega⟩
    have Ht:=T (T7 w10 0 (St.up s1) X Y c d L10.out.st hul.1 hul.2 r.c r.a hca.1.1 O hca.2.1 hca.2.2);clear k14 kl y14 fs fa bt hsz hul L9 B69;go_wp2_with (first
     |((with_reducible refine wpL_lq b10 AQ AJ ?_)))
    refine Az Ht ?_;rintro e w11 ⟨A6,c6,B6',d6,rfl,h6,ne6,f6⟩;have b11:=B610.out.fr f6 id;have o6:=oneB ((St.up s1).trap r.c r.a) A6 B6' c6 d6 0 Ac;have HG:=T (Ay h6 (Ay ne6 f6));have hl6:w.heap.size+1<w10.heap.size:=B610.out.lt;clear h6 ne6 f6 b10 Ht t0 t1 tl;go_wp2_with (((with_reducible refine BL (cs':=I8 ((St.up s1).trap r.c r.a) (Z A6 ((St.up s1).trap r.c r.a).d.length c6) (Z B6' ((St.up s1).trap r.c r.a).r.length d6) 0 Ac) b11 szB o6 ?_);intro W7 b7 f7;have HB7:=T b7;have HF7:=T f7;clear b7 f7 b11 o6));refine Bt (CV rfl _ _ (w.heap.size+1) 163 _ _ rfl HB7.out Tryz.underlying163 rfl szB) rfl ?_;obtain⟨h6,ne6,f6⟩:=HG.out;rw[HR.out,An hc];exact⟨A6,c6,B6',d6,rfl,L10.out.give h6 (λk e1 e2=>ne6 k (ab_own h6.d e1) (ab_own h6.r e2)) f6 rfl hl6 HF7.out⟩
end Bl
namespace Mu
open Fm Nt Rm By Wk
theorem place_fetch{u:Us}{s:Sp}{va:Int}(hO:u.Ok)(r0:0≤s.rt)(v0:0≤va)(v1:va≤4294967295)(hc:(placeR u s va 1).c=0):0≤(placeR u s va 1).p∧(placeR u s va 1).p%64=va%64∧(placeR u s va 1).p<((placeR u s va 1).u.m.n:Int)*64:=by
 unfold placeR at hc⊢;by_cases h2:thereB u.m va 1=Ag;·rw[An h2] at hc⊢;refine⟨v0,rfl, ?_⟩;simpa[thereB] using h2
 ·rw[Ae h2] at hc;exact absurd hc (by show ¬(10:Int)=0;omega)
end Mu
namespace Bl
open Fm Nt Rm By Wk Gs Tr Gm
variable{g:Mc}
theorem begin_facts{s:St}(hk:Rk s)(hU:g.u.Ok)(hh:s.ha=Ac):Rk (BH s g).s∧(BH s g).g.b.outs=g.b.outs∧((BH s g).on=Ag→0≤(BH s g).p∧(BH s g).p%64=(BH s g).s.pc%64∧(BH s g).p<((BH s g).g.b.ms.n:Int)*64∧(BH s g).s.ha=Ac):=by
 unfold BH;rw[Ae (by simp[hk.right,hh])];dsimp only;have h1:Rk (Db s ⟨g.b.tick s.ct,g.l⟩):=irq_rk hk _;have ho:(g.b.tick s.ct).outs=g.b.outs:=by
  unfold Bs.Sb.tick;split<;>rfl
 have hha:(Db s ⟨g.b.tick s.ct,g.l⟩).ha=Ac:=by
  unfold Db;split;·exact hh
  ·exact hh
 have hca:=cD (u:=(⟨g.b.tick s.ct,g.l⟩:Mc).u) (sp:=spS (Db s ⟨g.b.tick s.ct,g.l⟩)) (k:=1) h1.1.pc.1 h1.1.pc.2;split
 ·rename_i hc
  exact⟨h1.up.trap _ _ ⟨hca.1.1,by have:=hca.1.2;omega⟩ hca.2,ho,λe=>Bool.noConfusion e⟩
 ·rename_i hc
  have hc:(Mu.placeR (⟨g.b.tick s.ct,g.l⟩:Mc).u (spS (Db s ⟨g.b.tick s.ct,g.l⟩)) (Db s ⟨g.b.tick s.ct,g.l⟩).pc 1).c=0:=JR;have hU2:(⟨g.b.tick s.ct,g.l⟩:Mc).u.Ok:=by
   have e:(g.b.tick s.ct).ms=g.b.ms:=by
    unfold Bs.Sb.tick;split<;>rfl
   show Mu.Us.Ok ⟨(g.b.tick s.ct).ms,g.l⟩;rw[e];exact hU
  obtain⟨q0,q1,q2⟩:=Mu.place_fetch hU2 h1.1.rt.1 h1.1.pc.1 h1.1.pc.2 hc;exact⟨h1,ho,λ_=>⟨q0,q1,q2,hha⟩⟩
theorem rest_outs: ∀(k:Nat) (s:St) (p page:Int) (g:Mc),(Cg s p page g k).g.b.outs.length≤g.b.outs.length+k
 |0,s,p,page,g=>AD _
 |k+1,s,p,page,g=>by
  rw[Cg]
  cases Cf g.b.ms p with
  |none=>exact Nat.le_add_right _ _
  |some x=>
   obtain⟨i,n⟩:=x;have h:=S6 s i g;dsimp only;split;·have:=rest_outs k (doR s i g).s ((p+(n:Int))%4294967296) page (doR s i g).g;omega
   ·show(doR s i g).g.b.outs.length≤_;omega
theorem block_outs(s:St)(g:Mc)(hk:Rk s)(hU:g.u.Ok)(hh:s.ha=Ac):(Cx s g).g.b.outs.length≤g.b.outs.length+8:=by
 have h:=(begin_facts (g:=g) hk hU hh).2.1;unfold Cx;split;·have:=rest_outs 8 (BH s g).s (BH s g).p ((BH s g).p/64) (BH s g).g;rw[h] at this;exact this
 ·show(BH s g).g.b.outs.length≤_;rw[h];omega
theorem plain_rk{s:St}(hk:Rk s)(hO:g.b.Ok)(hU:g.u.Ok){i:Ins}(hc:check s i=0)(hp:BZ i.op=Ag)(hn:Bd i.n):Rk (AX s i):=by
 have h:=do_rk hk hO hU i hn hc;rwa[Mw s i g hc hp] at h
theorem plains_rk(hO:g.b.Ok)(hU:g.u.Ok): ∀(l:List Ins) (s c:St),Rk s→(∀i∈l,BZ i.op=Ag∧0≤i.n∧i.n≤4294967295)→CG s l=I c→Rk c
 |[],s,c,hk,_,h=>by
  have h:=Pi;exact h▸hk
 |i::l,s,c,hk,hl,h=>by
  rw[CG] at h;by_cases hc:check s i=0;·rw[An hc] at h;exact plains_rk hO hU l (AX s i) c (plain_rk hk hO hU hc (hl i AC).1 (hl i AC).2) (λj hj=>hl j FJ) h
  ·rw[Ae hc] at h;cases h
theorem behind_law{s c:St}{p:Int}{g2:Mc}{n n2:Nat}{en:Bool}(hk:Rk s)(hO:g.b.Ok)(hU:g.u.Ok)(p0:0≤p)(p1:p<(g.b.ms.n:Int)*64)(hn:g.b.ms.n≤64)(hpc:s.pc%64=p%64)(ha:s.ha=Ac)(hok:okR s p (p/64) g 8)(h:(n=0∧c=s∧g2=g)∨ ∃l bs,n=l.length∧Plr l bs∧CG s l=I c∧g2=g.calm∧bs<+:C3 g.b.ms p∧n2=bs.length∧en=endsB (l.getLastD ⟨0,0⟩).op):∃sz m:Nat,(if(n:Int)=0 then(0:Int) else(n2:Int))=sz∧(8:Int) -n=m∧m≤8∧sz≤64∧n≤8∧Rk c∧c.ha=Ac∧g2.b.outs=g.b.outs∧Cg s p (p/64) g 8=(if(en&&decide ((n:Int)>0))|| !decide (c.pc/64=s.pc/64) then⟨c,g2⟩ else Cg c (p+sz) ((p+sz)/64) g2 m)∧(((en&&decide ((n:Int)>0))|| !decide (c.pc/64=s.pc/64))=Ac→okR c (p+sz) ((p+sz)/64) g2 m):=by
 rcases h with⟨rfl,rfl,rfl⟩|⟨l,bs,rfl,hr,hc,rfl,hpre,rfl,rfl⟩
 ·refine⟨0,8,rfl,O,AD _,O,O,hk,ha,rfl, ?_,λ_=>?_⟩;·simp
  ·simpa using hok
 ·obtain⟨e1,e2⟩:=do_law hr hc hpre p0 p1 hn hk.1.pc.1 hk.1.pc.2 hpc ha;have hpos:0<l.length:=Ef.2 hr.ne;have h8:=hr.h8;have hlen:bs.length≤64:=by
   have:=hpre.length_le;rw[Oj] at this;omega
  refine⟨bs.length,8 -l.length,Ae O,O,O,hlen,h8,plains_rk hO hU l s c hk (λi hi=>⟨(hr.all i hi).2.1,(hr.all i hi).2.2⟩) hc,e2,rfl, ?_,λhq=>?_⟩;·rw[e1,show decide ((l.length:Int)>0)=Ag by simp;omega,Bool.and_true]
  ·rw[show decide ((l.length:Int)>0)=Ag by simp;omega,Bool.and_true] at hq;exact do_lawO hr hc hpre p0 p1 hn hk.1.pc.1 hk.1.pc.2 hpc ha hok hq
end Bl
namespace Gm
open Fm Nt Rm By Wk Gs
variable{m:Ms}{p:Int}{k:Nat}
theorem SC(p0:0≤p)(hk:(p%64).toNat+k≤64): ∃rest,C3 m p=(Cl k).map (λj=>m.mem (p.toNat+j))++rest∧rest.length=64 -(p%64).toNat -k:=by
 refine⟨(Cl (64 -(p%64).toNat -k)).map (λj=>m.mem (p.toNat+(k+j))), ?_,AC⟩;unfold C3;rw[show 64 -(p%64).toNat=k+(64 -(p%64).toNat -k) by omega,List.range_add,FH,GZ];congr 1;rw[show k+(64 -(p%64).toNat -k) -k=64 -(p%64).toNat -k by omega];rfl
theorem SD(p0:0≤p)(p1:p<(m.n:Int)*64){o:Int}(h0:m.mem p.toNat=o)(hs:AK o=1):Cf m p=I (⟨o,0⟩,1):=by
 obtain⟨r,e,l⟩:=SC (m:=m) p0 (k:=1) O;unfold Cf;rw[An p1,e];simp[Ic,h0,Dl,hs,leV];omega
theorem fetch2(p0:0≤p)(p1:p<(m.n:Int)*64)(p2:p%64≤62){o b:Int}(h0:m.mem p.toNat=o)(h1:m.mem (p.toNat+1)=b)(hs:AK o=2):Cf m p=I (⟨o,b⟩,2):=by
 obtain⟨r,e,l⟩:=SC (m:=m) p0 (k:=2) O;unfold Cf;rw[An p1,e];simp[Ic,h0,h1,Dl,hs,leV];omega
theorem SE(p0:0≤p)(p1:p<(m.n:Int)*64)(p2:p%64≤59){b0 b1 b2 b3:Int}(h0:m.mem p.toNat=2)(h1:m.mem (p.toNat+1)=b0)(h2:m.mem (p.toNat+2)=b1)(h3:m.mem (p.toNat+3)=b2)(h4:m.mem (p.toNat+4)=b3){n:Int}(hn:b0+256*(b1+256*(b2+256*b3))=n):Cf m p=I (⟨2,n⟩,5):=by
 subst hn;obtain⟨r,e,l⟩:=SC (m:=m) p0 (k:=5) O;have hs:AK 2=5:=Ak;unfold Cf;rw[An p1,e];simp[Ic,h0,h1,h2,h3,h4,Dl,hs,leV];omega
variable{s:St}{g:Mc}
theorem rest_go{page:Int}{n:Nat}{i:Ins}{r:Rz}(hf:Cf g.b.ms p=I (i,n))(hd:doR s i g=r)(hn:CQ i r page s.pc=Ag){x:Sg}(h:Cg r.s ((p+(n:Int))%4294967296) page r.g k=x):Cg s p page g (k+1)=x:=by
 rw[Cg,hf];dsimp only;rw[hd,An hn,h]
theorem rest_end{page:Int}{n:Nat}{i:Ins}{r:Rz}(hf:Cf g.b.ms p=I (i,n))(hd:doR s i g=r)(hn:CQ i r page s.pc=Ac):Cg s p page g (k+1)=⟨r.s,r.g⟩:=by
 rw[Cg,hf];dsimp only;rw[hd,Ae (by rw[hn];decide)]
theorem cR(hr:s.right=Ag)(hh:s.ha=Ac)(ht:Tm.dueB g.b.tm s.ct=Ac)(hi:(Iq.nextB g.b.p g.b.m&&s.ie)=Ac)(hp:s.pg=Ac)(hm:s.pc<(g.b.ms.n:Int)*64):BH s g=⟨s,s.pc,Ag,g⟩:=by
 unfold BH;rw[Ae (by simp[hr,hh])];have e:g.b.tick s.ct=g.b:=by unfold Bs.Sb.tick;rw[ht];rfl
 rw[e];dsimp only;have e2:Db s ⟨g.b,g.l⟩=s:=by unfold Db;rw[hi];rfl
 rw[e2];have e3:Mu.placeR (⟨g.b,g.l⟩:Mc).u (spS s) s.pc 1=⟨s.pc,0,0,g.u⟩:=by
  unfold Mu.placeR;rw[An (by unfold Mu.thereB;simp[Mc.u,hm])]
 rw[e3];rfl
theorem pH(hr:s.right=Ag)(hh:s.ha=Ac)(ht:Tm.dueB g.b.tm s.ct=Ac)(hi:(Iq.nextB g.b.p g.b.m&&s.ie)=Ac)(hp:s.pg=Ac)(hm:s.pc<(g.b.ms.n:Int)*64){x:Sg}(h:Cg s s.pc (s.pc/64) g 8=x):Cx s g=x:=by
 unfold Cx;rw[cR hr hh ht hi hp hm];exact h
theorem puts_mem(m:Ms)(zs:List Int): ∀(k:Nat),k≤zs.length→ ∀i,(m.puts 0 zs k).mem i=(if i<k then zs.getD i 0 else m.mem i)∧(m.puts 0 zs k).n=m.n:=by
 intro k
 induction k with
 |zero=>intro _ i;exact⟨by simp[Ms.puts],rfl⟩
 |succ k ih=>
  intro hk i;obtain⟨h1,h2⟩:=ih O i;refine⟨?_,h2⟩;show Bu (m.puts 0 zs k).mem (0+k) (zs.getD k 0) i=_;unfold Bu;by_cases e:i=0+k;·rw[An e,An O,e,BW]
  ·rw[Ae e,h1];by_cases e2:i<k;·rw[An e2,An O]
   ·rw[Ae e2,Ae O]
theorem load_mem(n:Nat)(zs:List Int)(h:zs.length≤n*64):(∀i,((Ms.new n).load zs).mem i=zs.getD i 0)∧((Ms.new n).load zs).n=n:=by
 have h1:=puts_mem (Ms.new n) zs zs.length (AD _);have e:=cS;rw[e];refine⟨λi=>?_,(h1 0).2⟩;rw[(h1 i).1];by_cases q:i<zs.length;·rw[An q]
 ·rw[Ae q,AS,Ew O];rfl
end Gm
namespace Gm
open Fm Nt Rm By Wk Gs
theorem cU(l:List Int)(v a:Int):AW (l++[v,a])=a∧top2 (l++[v,a])=v∧(l++[v,a]).dropLast.dropLast=l:=by
 have e:l++[v,a]=(l++[v])++[a]:=AC;rw[e];refine⟨cV, ?_, ?_⟩;·unfold top2;rw[Gw];simp[FI]
 ·rw[Gw,Gw]
theorem cW(l:List Int)(a:Int):AW (l++[a])=a∧(l++[a]).dropLast=l:=⟨cV,Gw⟩
variable{s:St}{g:Mc}
theorem cX{l:List Int}{v at_:Int}(hd:s.d=l++[v,at_])(hl:l.length≤14)(hr:s.r.length≤16)(hp:s.pg=Ac)(h1:32768≤at_)(h2:at_<33024)(h4:at_%4=0)(hb:Bs.loadB at_=Ag):doR s ⟨49,0⟩ g=⟨{s.next ⟨49,0⟩ with d:=l},Ac,Ag,turnN (g.calm.b.store at_ v).ms 64,⟨g.calm.b.store at_ v,g.l⟩⟩:=by
 obtain⟨t1,t2,t3⟩:=cU l v at_;show(⟨{s.next ⟨49,0⟩ with d:=s.d.dropLast.dropLast},Ac,Ag,turnN (g.calm.b.store (AW s.d) (top2 s.d)).ms 64,⟨g.calm.b.store (AW s.d) (top2 s.d),g.l⟩⟩:Rz)=_;rw[hd,t1,t2,t3]
theorem cY(hl:s.d.length≤16)(hr:s.r.length≤16)(hs:s.su=Ag):doR s ⟨69,0⟩ g=⟨{s.next ⟨69,0⟩ with ha:=Ag},Ac,Ac,[],g.calm⟩:=by
 show(⟨_,Ac,Ac,turnN g.calm.b.ms 64,g.calm⟩:Rz)=_;congr 1
theorem RunTo.at{n:Int}{j:Nat}(h:RunTo n s g j)(m:Nat)(hg: ∀i,i<m→goB s.ct n (AH i s g).s=Ag)(hs:goB s.ct n (AH m s g).s=Ac):j=m:=by
 rcases Nat.lt_trichotomy j m with q|q|q;·have:=hg j q;rw[h.stop] at this;cases this
 ·exact q
 ·have:=h.go m q;rw[hs] at this;cases this
end Gm
namespace Gm
open Fm Nt Rm By Wk Gs
def RR(s:St)(p page:Int)(g:Mc)(k:Nat)(x:Sg):Prop:=Cg s p page g k=x∧okR s p page g k
variable{s:St}{p page:Int}{g:Mc}{k n:Nat}{i:Ins}{r:Rz}{x:Sg}
theorem rr_go(hf:Cf g.b.ms p=I (i,n))(hu:Us s i)(hd:doR s i g=r)(hn:CQ i r page s.pc=Ag)(h:RR r.s ((p+(n:Int))%4294967296) page r.g k x):RR s p page g (k+1) x:=by
 subst hd;exact⟨rest_go hf rfl hn h.1,i,n,hf,hu,λ_=>h.2⟩
theorem rr_end(hf:Cf g.b.ms p=I (i,n))(hu:Us s i)(hd:doR s i g=r)(hn:CQ i r page s.pc=Ac):RR s p page g (k+1) ⟨r.s,r.g⟩:=by
 subst hd;exact⟨rest_end hf rfl hn,i,n,hf,hu,λh=>absurd (hn.symm.trans h) Ak⟩
theorem SF(hf:Cf g.b.ms p=I (i,n))(hu:Us s i)(hp:BZ i.op=Ag)(he:endsB i.op=Ac)(hh:s.ha=Ac)(hq:((s.pc+AK i.op)%4294967296)/64=s.pc/64){s':St}(hs:AX s i=s'){q:Int}(hpq:(p+(n:Int))%4294967296=q)(h:RR s' q page g.calm k x):RR s p page g (k+1) x:=by
 subst hs hpq;refine rr_go hf hu (Mw s i g hu.ch hp) ?_ h;unfold CQ;have e1:=Rh s i;have e2:=Ol s i hp he;simp[he,e1,hh,e2,hq]
theorem rr_jump(hf:Cf g.b.ms p=I (i,n))(hu:Us s i)(hp:BZ i.op=Ag)(he:endsB i.op=Ag){s':St}(hs:AX s i=s'):RR s p page g (k+1) ⟨s',g.calm⟩:=by
 subst hs;refine rr_end hf hu (Mw s i g hu.ch hp) ?_;unfold CQ;simp[he]
theorem MS(hf:Cf g.b.ms p=I (i,n))(hu:Us s i)(hd:doR s i g=r)(he:(endsB i.op||r.tr||r.dv||r.s.ha)=Ag):RR s p page g (k+1) ⟨r.s,r.g⟩:=by
 refine rr_end hf hu hd ?_;unfold CQ;rw[Bool.or_eq_true] at he;rcases he with he|he;·simp only[Bool.or_eq_true] at he;rcases he with(he|he)|he<;>simp[he]
 ·simp[he]
def BB(s:St)(g:Mc)(x:Sg):Prop:=Cx s g=x∧okB s g
theorem SG(hr:s.right=Ag)(hh:s.ha=Ac)(ht:Tm.dueB g.b.tm s.ct=Ac)(hi:(Iq.nextB g.b.p g.b.m&&s.ie)=Ac)(hp:s.pg=Ac)(hm:s.pc<(g.b.ms.n:Int)*64)(h:RR s s.pc (s.pc/64) g 8 x):BB s g x:=by
 refine⟨pH hr hh ht hi hp hm h.1,hp,λ_=>?_⟩;rw[cR hr hh ht hi hp hm];exact h.2
theorem us_p(hc:check s i=0)(hp:s.pg=Ac)(ho:GE i.op=Ag:=by first|decide|(dsimp only;decide))(h0:i.op≠48:=by first|decide|(dsimp only;decide))(h1:i.op≠49:=by first|decide|(dsimp only;decide))(h2:i.op≠67:=by first|decide|(dsimp only;decide)):Us s i:=⟨ho,hp,λe=>absurd e h0,λe=>absurd e h1,λe=>absurd e h2,hc⟩
variable{l:List Int}{at_:Int}
theorem us_st{v:Int}(hd:s.d=l++[v,at_])(hl:l.length≤14)(hr:s.r.length≤16)(hp:s.pg=Ac)(h1:EH at_=Ag):Us s ⟨49,0⟩:=by
 obtain⟨t1,t2,t3⟩:=cU l v at_;have hlen:s.d.length=l.length+2:=by rw[hd];simp
 refine⟨rfl,hp,λe=>absurd e Ak,λ_=>by rw[hd,t1];exact h1,λe=>absurd e Ak, ?_⟩;exact cZ
theorem us_ld(hd:s.d=l++[at_])(hl:l.length≤15)(hr:s.r.length≤16)(hp:s.pg=Ac)(h1:EH at_=Ag):Us s ⟨48,0⟩:=by
 obtain⟨t1,t2⟩:=cW l at_;have hlen:s.d.length=l.length+1:=by rw[hd];simp
 refine⟨rfl,hp,λ_=>by rw[hd,t1];exact h1,λe=>absurd e Ak,λe=>absurd e Ak, ?_⟩;exact cZ
theorem pI(hd:s.d=l++[at_]):doR s ⟨48,0⟩ g=⟨{s.next ⟨48,0⟩ with d:=l++[Bs.loadV g.calm.b at_ s.ct]},Ac,Ag,turnN (g.calm.b.read at_).ms 64,⟨g.calm.b.read at_,g.l⟩⟩:=by
 obtain⟨t1,t2⟩:=cW l at_;show(⟨{s.next ⟨48,0⟩ with d:=s.d.dropLast++[Bs.loadV g.calm.b (AW s.d) s.ct]},Ac,Ag,turnN (g.calm.b.read (AW s.d)).ms 64,⟨g.calm.b.read (AW s.d),g.l⟩⟩:Rz)=_;rw[hd,t1,t2]
theorem dB(hl:s.d.length≤16)(hr:s.r.length≤16)(hs:s.su=Ag)(hp:s.pg=Ac):Us s ⟨69,0⟩:=by
 refine us_p ?_ hp;simp[check,DR,AK,Kt,Dd,Gn,Gs.takeD,Gs.takeR,Gs.putD,Gs.putR,hs];omega
end Gm
namespace Gm
open Fm Nt Rm By Wk Gs
def mc0(n:Nat)(bs ds:List Int):Mc:=⟨Bs.Sb.new ((Ms.new n).load bs) ds,Mu.noL⟩
theorem SH{n:Nat}{bs:List Int}(ds:List Int)(h:bs.length≤n*64):(∀i,(mc0 n bs ds).b.ms.mem i=bs.getD i 0)∧(mc0 n bs ds).b.ms.n=n:=load_mem n bs h
def awakeL:List Int:=[2,72,0,0,0,2,16,128,0,0,49,69]
theorem dC: ∃g,BB St.new (mc0 1 awakeL []) ⟨{St.new with pc:=11,ct:=3},g⟩∧g.b={(mc0 1 awakeL []).b with outs:=[72],ms:=(mc0 1 awakeL []).b.ms.calm}∧g.l=Mu.noL:=by
 obtain⟨hm,hn⟩:=SH (n:=1) (bs:=awakeL) [] Ak;obtain⟨g,hg⟩:=A8 (mc0 1 awakeL []);have hb:g.b.tm=0∧g.b.p=0∧g.b.outs=[]∧g.l=Mu.noL:=by rw[←hg];exact⟨rfl,rfl,rfl,rfl⟩
 rw[hg] at hm hn⊢;clear hg;have hf1:Cf g.b.ms 0=I (⟨2,72⟩,5):=SE Ak (by rw[hn];decide) Ak (hm 0) (hm 1) (hm 2) (hm 3) (hm 4) Ak;have hf2:Cf g.calm.b.ms 5=I (⟨2,32784⟩,5):=SE Ak (by show(5:Int)<(g.b.ms.n:Int)*64;rw[hn];decide) Ak (hm 5) (hm 6) (hm 7) (hm 8) (hm 9) Ak;have hf3:Cf g.calm.calm.b.ms 10=I (⟨49,0⟩,1):=SD Ak (by show(10:Int)<(g.b.ms.n:Int)*64;rw[hn];decide) (hm 10) Ak;have h3:RR {St.new with pc:=10,d:=[72,32784],ct:=2} 10 0 g.calm.calm 6 ⟨{St.new with pc:=11,ct:=3},⟨g.calm.calm.calm.b.store 32784 72,g.l⟩⟩:=MS hf3 (us_st (l:=[]) (v:=72) (at_:=32784) rfl Ak Ak rfl Ak) (cX (l:=[]) (v:=72) (at_:=32784) rfl Ak Ak rfl Ak Ak Ak Ak) rfl;have h2:=SF (s:={St.new with pc:=5,d:=[72],ct:=1}) (page:=0) hf2 (us_p Ak rfl) Ak Ak rfl Ak rfl rfl h3;have h1:=SF (s:=St.new) (page:=0) hf1 (us_p Ak rfl) Ak Ak rfl Ak rfl rfl h2;refine⟨_,SG Ak rfl (by rw[hb.1];rfl) (by rw[hb.2.1];simp[Iq.nextB]) rfl (by rw[hn];decide) h1, ?_,hb.2.2.2⟩;have e:Bs.offO 32784=16:=Ak;dsimp only;unfold Bs.Sb.store Bs.Sb.storeO;rw[e];simp only[Mc.calm,hb];rfl
theorem dD{g:Mc}(hb:g.b={(mc0 1 awakeL []).b with outs:=[72],ms:=(mc0 1 awakeL []).b.ms.calm}): ∃g',BB {St.new with pc:=11,ct:=3} g ⟨{St.new with pc:=12,ct:=4,ha:=Ag},g'⟩∧g'.b.outs=[72]:=by
 obtain⟨hm,hn⟩:=SH (n:=1) (bs:=awakeL) [] Ak;have hf1:Cf g.b.ms 11=I (⟨69,0⟩,1):=by
  rw[hb];exact SD Ak (by show(11:Int)<((mc0 1 awakeL []).b.ms.n:Int)*64;rw[hn];decide) (hm 11) Ak
 have h1:RR {St.new with pc:=11,ct:=3} 11 0 g 8 ⟨{St.new with pc:=12,ct:=4,ha:=Ag},g.calm⟩:=MS hf1 (dB Ak Ak rfl rfl) (cY Ak Ak rfl) rfl;refine⟨_,SG Ak rfl (by rw[hb];rfl) (by rw[hb];rfl) rfl (by rw[hb];show(11:Int)<((mc0 1 awakeL []).b.ms.n:Int)*64;rw[hn];decide) h1, ?_⟩;show g.b.outs=_;rw[hb]
theorem pJ{j:Nat}(h:RunTo 9 St.new (mc0 1 awakeL []) j):(AH j St.new (mc0 1 awakeL [])).s.ct=4∧(AH j St.new (mc0 1 awakeL [])).s.ha=Ag∧(AH j St.new (mc0 1 awakeL [])).g.b.outs=[72]:=by
 obtain⟨g1,e1,hb1,_⟩:=dC;obtain⟨g2,e2,ho⟩:=dD hb1;have b1:=dF;have b2:=dG;obtain rfl:=h.at 2 (λi hi=>by
  match i,hi with
  |0,_=>rfl
  |1,_=>rw[b1];rfl) (by rw[b2];rfl)
 rw[b2];exact⟨rfl,rfl,ho⟩
theorem awake_ok(k:Nat)(hk: ∀i,i≤k→goB 0 9 (AH i St.new (mc0 1 awakeL [])).s=Ag):okB (AH k St.new (mc0 1 awakeL [])).s (AH k St.new (mc0 1 awakeL [])).g:=by
 obtain⟨g1,e1,hb1,_⟩:=dC;obtain⟨g2,e2,ho⟩:=dD hb1;have b1:=dF;have b2:=dG
 match k with
 |0=>exact e1.2
 |1=>rw[b1];exact e2.2
 |k+2=>
  have:=hk 2 O;rw[b2] at this
  cases this
end Gm
namespace Bl
open Fm Nt Rm By Wk Gs Bs Mu Sv Gm Gc Rn
theorem gQ{w:Aa}{P:AE}{a:Ab}{A:Au}{g:Mc}(h:Mch w P a A g){p:Int}(p0:0≤p){i:Ins}{n:Nat}(e:Cf g.b.ms p=I (i,n)):(0≤i.n∧i.n≤4294967295)∧1≤n∧n≤5:=by
 unfold Cf at e;by_cases hlt:p<(g.b.ms.n:Int)*64
 ·rw[An hlt] at e;have hM:Rm.Mem w a.am g.b.ms:=by have:=h.un.M;rw[h.am] at this;exact this
  have hb: ∀z∈C3 g.b.ms p,0≤z∧z<256:=λz hz=>by
   unfold C3 at hz;obtain⟨k,hk,rfl⟩:=BS.1 hz;have:=List.mem_range.1 hk;exact hM.bd _ O
  exact⟨(Yv e hb).2,(KR e).2.2.2⟩
 ·rw[Ae hlt] at e;cases e
theorem gT(s:St)(D R:As)(tr dv:Bool)(pg:As): ∀j,j<(stc s D R).size→(EK s D R tr dv pg)[j]?=(stc s D R)[j]?:=Wl
end Bl
namespace Bl
open Fm Nt Rm By Wk Gs Bs Mu Sv Gm Gc Rn
def jD(w:Aa)(P:AE)(a:Ab)(A:Au)(r:Sg)(e:AY)(w':Aa):Prop:=
 ∃X c Y d,e=Ax (A9 (stc r.s (Z X r.s.d.length c) (Z Y r.s.r.length d)))∧Stp w w' P a A r.s r.g X Y c d∧Rk r.s
theorem rest_any(w:Aa)(s:St)(A0:Aw)(c0:Nat)(B0:Aw)(d0:Nat)(P:AE)(a:Ab)(A:Au)(g:Mc)(hS:StV w 0 s (Z A0 s.d.length c0) (Z B0 s.r.length d0))(hp: ∀k,ab A0=I k∨ab B0=I k→P k)(hne: ∀k,ab A0=I k→ab B0≠I k)(hM:Mch w P a A g)(hk:Rk s)(p:Int)(p0:0≤p)(p1:p≤4294967295)(m:Nat)(m8:m≤8)(ho:g.b.outs.length≤999990)(hok:okR s p (p/64) g m):At Tryz.prog 80 #[A9 (stc s (Z A0 s.d.length c0) (Z B0 s.r.length d0)),J V p,J U m,↑A.gU,↑a.gB] w (jD w P a A (Cg s p (p/64) g m)):=by
 obtain⟨b5,b10,f0⟩:=Ds w (stc s (Z A0 s.d.length c0) (Z B0 s.r.length d0)) z16 39 39;have l0:=Lc.start hS hp hne hM f0 b5 (AD _);generalize hW0:(w.alloc (.cells (stc s (Z A0 s.d.length c0) (Z B0 s.r.length d0)) 39)).alloc (.cells z16 39)=W0 at*;have hzz:W0.heap.size=w.heap.size+2:=by rw[←hW0];simp
 have L0:=T (l0.less (L':=λk=>k=w.heap.size+1) (λk e=>by subst e;omega));have B10:=T b10;have HW:=T hW0;have HK:=T hk;have HO:=T ho;have HOK:=T hok;clear hok;clear hS hp hne hM l0 f0 b5 b10 hW0 hzz hk ho;go_in;go_upto_region 1 with(fail);rw[HW.out];go_wp2_with fail;go_loopw [21,1] (λiv pv wr=> ∃(k:Nat) (s':St) (p':Int) (g':Mc) (X:Aw) (c:Nat) (Y:Aw) (d:Nat),k≤m∧iv=J U k∧pv=J V p'∧0≤p'∧p'≤4294967295∧Hid (Cg s p (p/64) g m=Cg s' p' (p/64) g' (m -k)∧okR s' p' (p/64) g' (m -k))∧Hid (Lc w wr P ↑w a A g' s' X Y c d (λk=>k=w.heap.size+1))∧Hid (Rk s'∧g'.b.outs.length≤g.b.outs.length+k)∧Hid (Blk wr (↑w+1) 39 z16)) (λi _ _=>m -(AM i).toNat)
 case atStart=>exact⟨0,s,p,g,A0,c0,B0,d0,Bj _,rfl,rfl,p0,p1,T ⟨rfl,HOK.out⟩,L0,T ⟨HK.out,AD _⟩,B10⟩
 case round=>
  obtain⟨k,s',p',g',X,c,Y,d,hkm,rfl,rfl,q0,q1,hR,hL,hK,hB⟩:=hrel;by_cases hlt:k<m
  ·obtain⟨P1,M1,np1,up1⟩:=hL.out.mach;have Hf:=T (cN wr P1 a A g' M1 p' q0 q1);have HFB:=T (λi n=>gQ M1 q0 (i:=i) (n:=n));clear M1 np1 up1;obtain⟨o,hof⟩:=A8 (Cf g'.b.ms p');rw[hof] at Hf HFB;have HOF:=T hof;clear hof
   cases o with
   |none=>
    exact gV
   |some x=>
    obtain⟨⟨op,n⟩,sz⟩:=x;have Hf2:Hid (At Tryz.prog 101 #[↑A.gU,J V p'] wr λe w'=>(e=Ax (AF #[A9 #[J U op,J V n],J U sz,Ap Ag]))∧Fr Aj wr w'):=T ((Hf.out).mono (λe w' h=>by
     obtain⟨⟨i,n,rfl,hi⟩,f1⟩:=h;obtain⟨rfl,rfl⟩:=hi _ rfl;exact⟨rfl,f1⟩))
    clear Hf;go_wp2_with fail;refine Az Hf2 ?_;rintro e w1 ⟨rfl,f1⟩;have fa:Fr Aj wr (w1.alloc (.cells #[J U op,J V n] 27)):=f1.trans ((Ao Aj w1).alloc _) (λ_ _ e=>e);have L2:=T (hL.out.more fa (L':=λk=>k=w.heap.size+1∨k=w1.heap.size) (λk e=>by
     rcases e with e|e;·exact Af e
     ·right;have:=f1.size;subst e;simp;omega))
    have B2:=T (hB.out.fr fa id);have bi:=AI w1 27 #[J U op,J V n];have hz1:wr.heap.size≤w1.heap.size:=f1.size;have hlg:=hL.out.b.lt;have hlb:=hB.out.lt;go_upto_region 8 with(fail);generalize w1.alloc (.cells #[J U op,J V n] 27)=w2 at*;obtain⟨gi,hgi⟩:=A8 w1.heap.size;rw[hgi] at bi L2⊢;obtain⟨P2,M2,in2,up2⟩:=L2.out.mach2;have hk':=hK.out.1;have hout:=hK.out.2;have hgo:=HO.out;obtain⟨⟨n0,n1⟩,s1,s5⟩:=HFB.out _ _ rfl;have HUX:Hid (Us s' ⟨op,n⟩∧(CQ ⟨op,n⟩ (doR s' ⟨op,n⟩ g') (p/64) s'.pc=Ag→okR (doR s' ⟨op,n⟩ g').s ((p'+(sz:Int))%4294967296) (p/64) (doR s' ⟨op,n⟩ g').g (m -(k+1)))):=T (by
     have h1:=hR.out.2;obtain⟨j,hj⟩: ∃j,m -k=j+1:=⟨m -k -1,O⟩;rw[hj] at h1;obtain⟨i,n',h2,h3,h4⟩:=h1;rw[HOF.out] at h2;injection h2 with h2;injection h2 with e1 e2;subst e1 e2;rw[show m -(k+1)=j by omega];exact⟨h3,h4⟩)
    have Hd:=T (do_any w2 s' X c Y d P2 a A g' L2.out.st (λk e=>in2 k (Ah (Ah e))) M2 hk' ⟨op,n⟩ n0 n1 HUX.out.1 O);have hrk:=gY;have hro:=S6 s' ⟨op,n⟩ g';obtain⟨r,hr⟩:=A8 (doR s' ⟨op,n⟩ g');have HRR:Hid ((Cg s p (p/64) g m=if CQ ⟨op,n⟩ r (p/64) s'.pc then Cg r.s ((p'+(sz:Int))%4294967296) (p/64) r.g (m -(k+1)) else⟨r.s,r.g⟩)∧(CQ ⟨op,n⟩ r (p/64) s'.pc=Ag→okR r.s ((p'+(sz:Int))%4294967296) (p/64) r.g (m -(k+1)))):=T (by
     refine⟨?_,λh=>gZ⟩;rw[hR.out.1];obtain⟨j,hj⟩: ∃j,m -k=j+1:=⟨m -k -1,O⟩;rw[hj,Cg,HOF.out];dsimp only;rw[hr,show m -(k+1)=j by omega])
    rw[hr] at Hd hrk hro;have b2:=L2.out.b;have i0:=bi.cell 0;have i1:=bi.cell 1;have il:=bi.lt;clear hr M2;go_wp2_with ((with_reducible refine wpL_lq b2 AQ AJ ?_));refine Az Hd ?_;rintro e w3 ⟨X2,c2,Y2,d2,Bh,nz,mz,rfl,hst,hz,hnm,hn64,-⟩;have bw:=AI w3 206 z19;have fw:=hZ;have oR:=i7;have HST:=T hst;have HZ:=T hz;have hl3:w2.heap.size≤w3.heap.size:=hst.f.size;have BI3:=T (bi.fr hst.f (λe=>e (in2 gi (Af (.inr rfl)))));have B23:=T (b2.fr hst.f (λe=>e (in2 ↑w (Ah (.inl rfl)))));have B3:=T (B2.out.fr hst.f (λe=>e (in2 (↑w+1) (Af (.inl rfl)))));clear hst hz i0 i1 b2 bi il Hd in2;go_upto_region 9 with(((with_reducible refine BL (cs':=EK r.s (Z X2 r.s.d.length c2) (Z Y2 r.s.r.length d2) r.tr r.dv (Z Bh nz mz)) bw szR oR ?_);intro W4 b4 f4;have HB4:=T b4;have HF4:=T f4;clear b4 f4 bw oR));obtain⟨gr,hgr⟩:=A8 w3.heap.size;rw[hgr] at HB4 HF4⊢;have F34:=i9;have b24:=B23.out.fr F34.out id;have b4:=HB4.out;have k0:W4.cell? ⟨↑w,0,G⟩=I (J V s'.pc):=b24.cell 0;have kl:=b24.lt;have o4:=Ce r.s (Z X2 r.s.d.length c2) (Z Y2 r.s.r.length d2) rfl rfl;have hrh:=gT r.s (Z X2 r.s.d.length c2) (Z Y2 r.s.r.length d2) r.tr r.dv (Z Bh nz mz);have HRH:=T hrh;clear fw hrh;go_upto_region 11 with(first
     |((with_reducible refine wpL_ldm (stc r.s (Z X2 r.s.d.length c2) (Z Y2 r.s.r.length d2)) b4 AQ AJ ?q1 ?q2 HRH.out ?q3 ?_);(case q1=>rfl);(case q2=>rfl);(case q3=>rfl))
     |((with_reducible refine BL (cs':=stc r.s (Z X2 r.s.d.length c2) (Z Y2 r.s.r.length d2)) b24 AJ o4 ?_);intro W5 b5 f5;have HB5:=T b5;have HF5:=T f5;clear b5 f5 b24 o4 k0 kl))
    have B24:=T (B23.out.fr F34.out id);have hgr2:W4.heap.size≥w3.heap.size:=F34.out.size;have hwl:w.heap.size<w3.heap.size:=B23.out.lt;have hil:gi<↑w3:=BI3.out.lt;have hne1: ¬gi=↑w:=BI3.out.ne_ B23.out Ak;have L5:=T ((up2 (Stp.fr0 HST.out F34.out) HB5.out HF5.out).less (L':=λk=>k=w.heap.size+1) (λk e=> Af e));have b55:=HB4.out.fr HF5.out (by show ¬gr=↑w;omega);have bi5:=(BI3.out.fr F34.out id).fr HF5.out hne1;have B5:=T ((B3.out.fr F34.out id).fr HF5.out IT);have hz5:=ints_box (HZ.out.fr F34.out (AD _) (λ_ _ e=>e)) B24.out HF5.out hgr2;have hpc:=hrk.1.pc;have hpc':=hk'.1.pc;have hs5:w3.heap.size≤W5.heap.size:=Bf hgr2 HF5.out.size;have Hn:=T (next_any W5 ⟨op,n⟩ r X2 Y2 Bh c2 d2 nz mz ↑w3 (p/64) s'.pc hz5 hs5 hn64 hpc'.1 hpc'.2 hpc.1 hpc.2);obtain⟨nx,hnx⟩:=A8 (CQ ⟨op,n⟩ r (p/64) s'.pc);rw[hnx] at Hn HRR;have i0:=bi5.cell 0;have i1:=bi5.cell 1;have il:=bi5.lt;have hsw:=SW;have HRK:=T (Ay hrk (show r.g.b.outs.length≤g.b.outs.length+(k+1) by omega));clear up2 hz5 bi5 hrk hro hpc hpc' hk' hnx B24
    cases nx
    ·go_upto_region 14 with(first
      |((with_reducible refine wpL_lq b55 Tryz.underlying206 szR ?_))
      |((with_reducible refine Az Hn ?_);rintro e w6 ⟨rfl,f6⟩;have L6:=T (L5.out.fr0 f6);have B6:=T (B5.out.fr f6 id);clear f6))
     have bs:=L6.out.b;have bt:=B6.out;have o6:=Ce r.s (Z X2 r.s.d.length c2) (Z Y2 r.s.r.length d2) rfl rfl;go_wp2_with (first
      |((with_reducible refine wpL_lq bs AQ AJ ?_))
      |((with_reducible refine BL (cs':=stc r.s (Z X2 r.s.d.length c2) (Z Y2 r.s.r.length d2)) bt AJ o6 ?_);intro W7 b7 f7;have HB7:=T b7;have HF7:=T f7;clear b7 f7 bt bs o6))
     refine Bt (CV rfl _ _ (w.heap.size+1) 39 _ _ rfl HB7.out AQ rfl AJ) rfl ?_;rw[HRR.out.1,Ae Ak];have hS:=L6.out.st;exact⟨X2,c2,Y2,d2,rfl,(L6.out.wrote HF7.out (λk hk=>by subst hk;exact⟨rfl,by omega,λe=>AZ hS.d B6.out (by decide) (ab_own hS.d e),λe=>AZ hS.r B6.out (by decide) (ab_own hS.r e)⟩)).stp,HRK.out.1⟩
    ·go_wp2_with (first
      |((with_reducible refine wpL_lq b55 Tryz.underlying206 szR ?_))
      |((with_reducible refine Az Hn ?_);rintro e w6 ⟨rfl,f6⟩;have L6:=T (L5.out.fr0 f6);have B6:=T (B5.out.fr f6 id);clear f6))
     go_roundw;case rel=>
      exact⟨k+1,r.s,(p'+(sz:Int))%4294967296,r.g,X2,c2,Y2,d2,O,Bn,rfl,O,O,T ⟨iA,HRR.out.2 trivial⟩,L6,HRK,B6⟩
     case measure=>simp[AM];omega
  ·obtain rfl:k=m:=O;have HS:=iB;have bs:=hL.out.b;have bt:=hB.out;have o6:=Ce s' (Z X s'.d.length c) (Z Y s'.r.length d) rfl rfl;go_wp2_with (first
    |((with_reducible refine wpL_lq bs AQ AJ ?_))
    |((with_reducible refine BL (cs':=stc s' (Z X s'.d.length c) (Z Y s'.r.length d)) bt AJ o6 ?_);intro W7 b7 f7;have HB7:=T b7;have HF7:=T f7;clear b7 f7 bt bs o6))
   refine Bt (CV rfl _ _ (w.heap.size+1) 39 _ _ rfl HB7.out AQ rfl AJ) rfl ?_;rw[HS.out];have hS:=hL.out.st;exact⟨X,c,Y,d,rfl,(hL.out.wrote HF7.out (λk hk=>by subst hk;exact⟨rfl,by omega,λe=>AZ hS.d hB.out (by decide) (ab_own hS.d e),λe=>AZ hS.r hB.out (by decide) (ab_own hS.r e)⟩)).stp,hK.out.1⟩
end Bl
namespace Bl
open Fm Nt Rm By Wk Gs Bs Mu Sv Gm Gc Rn
section
variable {w W0 w1 w2 W:Aa} {P P0:AE} {a:Ab} {A:Au} {g:Mc} {s:St} {X Y:Aw} {c d:Nat}
theorem Stp.call(h:Stp W0 w1 P a A s g X Y c d)(f:Fr Aj w1 w2){L:AE}(hL: ∀k,L k→w1.heap.size≤k∧k<w2.heap.size): ∃P1,Mch w2 P1 a A g∧(∀k,P k∨L k∨ab X=I k∨ab Y=I k→P1 k)∧ ∀{w3 s' g' X' Y' c' d'},Stp w2 w3 P1 a A s' g' X' Y' c' d'→Stp W0 w3 P a A s' g' X' Y' c' d':=by
 obtain⟨P',q1,q2,q3,q4,q5⟩:=h.mc;have hz:=h.f.size;have hz2:=f.size;refine⟨λk=>P' k∨L k,q5.more f (λk hk=>hk.imp id (hL k)) (Af q5.p0),λk hk=>?_,λ{w3 s' g' X' Y' c' d'} h3=>?_⟩
 ·rcases hk with e|e|e;·exact Af (q1 k e)
  ·exact Ah e
  ·exact Af (q3 k e)
 ·obtain⟨P'',r1,r2,r3,r4,r5⟩:=h3.mc;have key: ∀k,(P' k∨L k)∨w2.heap.size≤k→P k∨W0.heap.size≤k:=λk hk=>by
   rcases hk with(e|e)|e;·exact q2 k e
   ·have:=hL k e;right;omega
   ·right;omega
  exact⟨h3.st,h3.ne,(h.f.trans f (λk hk e=>e.elim)).trans h3.f (λk hk e q=>e (Af (q1 k q))),P'',λk hk=>r1 k (Af (q1 k hk)),λk hk=>key k (r2 k hk),r3,λk hk=>key k (r4 k hk),r5⟩
theorem Stp.fin(h:Stp W0 w1 P0 a A s g X Y c d)(f:Fr Aj w W0)(hP: ∀k,P k→P0 k)(hP2: ∀k,P0 k→P k∨w.heap.size≤k)(hl: ∀k,P k→k<w.heap.size){q:Nat}(fw:Fr (· =q) w1 W)(hq:P0 q∧↑w≤q∧0≠q)(hX:ab X≠I q∧ab Y≠I q):Stp w W P a A s g X Y c d:=by
 obtain⟨P',q1,q2,q3,q4,q5⟩:=h.mc;have hz:=f.size;have key: ∀k,P0 k∨W0.heap.size≤k→P k∨w.heap.size≤k:=λk hk=>by
  rcases hk with e|e;·exact hP2 k e
  ·right;omega
 refine⟨h.st.fr fw (λk hk e=>hX.1 C0) (λk hk e=>hX.2 C0),h.ne, ?_,P',λk hk=>q1 k (hP k hk),λk hk=>key k (q2 k hk),q3,λk hk=>key k (q4 k hk),q5.fr fw (λk e=>by rw[e];exact q1 q hq.1) hq.2.2⟩;refine((f.mono (S':=λk=> ¬P k) (λ_ _ e=>e.elim)).trans h.f (λk hk e r=>e (hP k r))).trans fw (λk hk e r=>?_);have:=hl k r;omega
end
theorem begc_st(s:St)(D R:As)(p:Int)(on:Bool): ∀j,j<(stc s D R).size→(I8 s D R p on)[j]?=(stc s D R)[j]?:=by
 intro j hj;exact iD
theorem bdo_any(w:Aa)(s:St)(A0:Aw)(c0:Nat)(B0:Aw)(d0:Nat)(P:AE)(a:Ab)(A:Au)(g:Mc)(hS:StV w 0 s (Z A0 s.d.length c0) (Z B0 s.r.length d0))(hp: ∀k,ab A0=I k∨ab B0=I k→P k)(hne: ∀k,ab A0=I k→ab B0≠I k)(hM:Mch w P a A g)(hk:Rk s)(hh:s.ha=Ac)(ho:g.b.outs.length≤999990)(hok:okB s g):At Tryz.prog 57 #[A9 (stc s (Z A0 s.d.length c0) (Z B0 s.r.length d0)),↑A.gU,↑a.gB] w (jD w P a A (Cx s g)):=by
 obtain⟨b5,b8,f0⟩:=Ds w (stc s (Z A0 s.d.length c0) (Z B0 s.r.length d0)) z16 39 39;have hz0:=OJ;have S0:=hS.fr0 f0;obtain⟨P0,eP⟩: ∃P0:Nat→Prop,P0=λk=>P k∨(k=w.heap.size∨k=w.heap.size+1):=⟨_,rfl⟩;have M0:Mch ((w.alloc (.cells (stc s (Z A0 s.d.length c0) (Z B0 s.r.length d0)) 39)).alloc (.cells z16 39)) P0 a A g:=hM.more f0 (λk hk=>by
  rw[eP] at hk;rcases hk with e|e;·exact Af e
  ·right;rw[hz0];omega) (by rw[eP];exact Af hM.p0)
 generalize hW0:(w.alloc (.cells (stc s (Z A0 s.d.length c0) (Z B0 s.r.length d0)) 39)).alloc (.cells z16 39)=W0 at*;have B5:=T b5;have B8:=T b8;have HW:=T hW0;have HP:=T (Ay eP (Ay hM.pl f0));have HZ0:=T hz0;have HBF:=T (begin_facts (g:=g) hk hM.ok hh);have Hb:=T (cQ W0 s A0 c0 B0 d0 P0 a A g S0 (λk e=>by rw[eP];exact Af (hp k e)) M0 hk hh hok.1);have HBR:=iE;obtain⟨r,hr⟩:=A8 (BH s g);rw[hr] at Hb HBF HBR;have HO:=T ho;have HOK:=iF;clear hS hp hne hM f0 b5 b8 hW0 hk ho hr hz0 hok S0 M0 eP hh;go_in;go_upto_region 1 with(fail);rw[HW.out];have b5:=B5.out;go_wp2_with ((with_reducible refine wpL_lq b5 AQ AJ ?_));refine Az Hb ?_;rintro e1 w1 ⟨X1,c1,Y1,d1,rfl,hst⟩;have b9:=AI w1 163 z18;have f9:=iG;have o9:=oneB r.s X1 Y1 c1 d1 r.p r.on;have hz1:W0.heap.size≤w1.heap.size:=hst.f.size;have HST:=T hst;have HPB:Hid (P0 (↑w+1)):=T (by rw[HP.out.1];exact Ah (.inr rfl));have B81:=T (B8.out.fr hst.f (λe=>e HPB.out));clear hst b5 Hb B5 B8;go_upto_region 2 with(((with_reducible refine BL (cs':=I8 r.s (Z X1 r.s.d.length c1) (Z Y1 r.s.r.length d1) r.p r.on) b9 szB o9 ?_);intro W2 k9 f2;have HB9:=T k9;have HF2:=T f2;clear k9 f2 b9 o9));obtain⟨gB,hgB⟩:=A8 w1.heap.size;have F12:=iH;have HGB:Hid (↑w1≤gB∧gB<↑W2):=T ⟨O,by rw[←hgB];exact HB9.out.lt⟩;rw[hgB] at HB9 HF2⊢;have B82:=T (B81.out.fr F12.out id);have HLG:=T hz1;clear f9 HF2 B81 hz1 HW;have c17:=iI;have c16:=iJ;have cB:gB<↑W2:=HB9.out.lt;have HRH:=T (begc_st r.s (Z X1 r.s.d.length c1) (Z Y1 r.s.r.length d1) r.p r.on);have b9:=HB9.out;obtain⟨on,hon⟩: ∃on,r.on=on:=⟨_,rfl⟩;rw[hon] at c17 HBF HBR b9 HOK HRH;clear hon HB9
 cases on
 ·have b8:=B82.out;have o8:=Ce r.s (Z X1 r.s.d.length c1) (Z Y1 r.s.r.length d1) rfl rfl;clear c16;go_wp2_with (first
   |((with_reducible refine wpL_ldm (stc r.s (Z X1 r.s.d.length c1) (Z Y1 r.s.r.length d1)) b9 AQ AJ ?q1 ?q2 HRH.out ?q3 ?_);(case q1=>rfl);(case q2=>rfl);(case q3=>rfl))
   |((with_reducible refine BL (cs':=stc r.s (Z X1 r.s.d.length c1) (Z Y1 r.s.r.length d1)) b8 AJ o8 ?_);intro W7 b7 f7;have HB7:=T b7;have HF7:=T f7;clear b7 f7 b8 o8))
  refine Bt (CV rfl _ _ (w.heap.size+1) 39 _ _ rfl HB7.out AQ rfl AJ) rfl ?_;rw[HBR.out,Ae Ak];have hx:=Stp.fr0 HST.out F12.out;refine⟨X1,c1,Y1,d1,rfl,Stp.fin hx HP.out.2.2 (λk hk=>by rw[HP.out.1];exact Af hk) (λk hk=>by
   rw[HP.out.1] at hk;rcases hk with e|e;·exact Af e
   ·right;omega) HP.out.2.1 HF7.out ⟨HPB.out,O,O⟩ ⟨λe=>AZ hx.st.d B82.out Ak (ab_own hx.st.d e),λe=>AZ hx.st.r B82.out Ak (ab_own hx.st.r e)⟩,HBF.out.1⟩
 ·obtain⟨hrk,hro,hon⟩:=HBF.out;obtain⟨p0,p64,pn,hrh⟩:=hon rfl;obtain⟨P3,M3,in3,up3⟩:=Stp.call HST.out F12.out (L:=λk=>k=gB) (λk e=>by rw[e];exact HGB.out);have hMn:1≤r.g.b.ms.n∧r.g.b.ms.n≤64:=M3.ok.n0;have Ht:=T (rest_any W2 r.s X1 c1 Y1 d1 P3 a A r.g (HST.out.st.fr0 F12.out) (λk q=>in3 k (Ah (.inr q))) HST.out.ne M3 hrk r.p p0 O 8 O (by rw[hro];exact HO.out) (HOK.out rfl));have HU:Hid (∀(w3:Aa) (s':St) (g':Mc) (X' Y':Aw) (c' d':Nat),Stp W2 w3 P3 a A s' g' X' Y' c' d'→Stp W0 w3 P0 a A s' g' X' Y' c' d'):=T (λ_ _ _ _ _ _ _ h=>up3 h);have HIN:=T in3;clear hon p0 p64 pn hrh M3 in3 up3 hMn hrk hro;go_wp2_with ((with_reducible refine wpL_ldm (stc r.s (Z X1 r.s.d.length c1) (Z Y1 r.s.r.length d1)) b9 AQ AJ ?q1 ?q2 HRH.out ?q3 ?_);(case q1=>rfl);(case q2=>rfl);(case q3=>rfl));refine Az Ht ?_;rintro e3 w3 ⟨X2,c2,Y2,d2,rfl,hst2,hrk2⟩;have b8:=B82.out.fr hst2.f (λe=>e (HIN.out _ (Af HPB.out)));have B83:=T b8;have hx:=T (HU.out _ _ _ _ _ _ _ hst2);obtain⟨z,hz⟩:=A8 (Cg r.s r.p (r.p/64) r.g 8);rw[hz] at hx hrk2⊢;have HRZ:=T (Ay hz hrk2);have o8:=Ce z.s (Z X2 z.s.d.length c2) (Z Y2 z.s.r.length d2) rfl rfl;clear hst2 hz hrk2 Ht;go_wp2_with (((with_reducible refine BL (cs':=stc z.s (Z X2 z.s.d.length c2) (Z Y2 z.s.r.length d2)) b8 AJ o8 ?_);intro W7 b7 f7;have HB7:=T b7;have HF7:=T f7;clear b7 f7 b8 o8));refine Bt (CV rfl _ _ (w.heap.size+1) 39 _ _ rfl HB7.out AQ rfl AJ) rfl ?_;rw[HBR.out,An trivial,HRZ.out.1];refine⟨X2,c2,Y2,d2,rfl,Stp.fin hx.out HP.out.2.2 (λk hk=>by rw[HP.out.1];exact .inl hk) (λk hk=>by
   rw[HP.out.1] at hk;rcases hk with e|e;·exact Af e
   ·right;omega) HP.out.2.1 HF7.out ⟨HPB.out,O,O⟩ ⟨λe=>AZ hx.out.st.d B83.out Ak (ab_own hx.out.st.d e),λe=>AZ hx.out.st.r B83.out Ak (ab_own hx.out.st.r e)⟩,HRZ.out.2⟩
end Bl
namespace Bl
open Fm Nt Rm By Wk Gs Bs Mu Sv Gm Gc Rn
def BRun(w:Aa)(P:AE)(a:Ab)(A:Au)(s:St)(g:Mc)(n:Int)(ed:AY)(w':Aa):Prop:=
 ∃X c Y d j,ed=Ax (A9 (stc (AH j s g).s (Z X (AH j s g).s.d.length c) (Z Y (AH j s g).s.r.length d)))∧Stp w w' P a A (AH j s g).s (AH j s g).g X Y c d∧RunTo n s g j
theorem brun_any(w:Aa)(s:St)(A0:Aw)(c0:Nat)(B0:Aw)(d0:Nat)(P:AE)(a:Ab)(A:Au)(g:Mc)(hS:StV w 0 s (Z A0 s.d.length c0) (Z B0 s.r.length d0))(hp: ∀k,ab A0=I k∨ab B0=I k→P k)(hne: ∀k,ab A0=I k→ab B0≠I k)(hM:Mch w P a A g)(hk:Rk s)(n:Int)(n0: -1000≤n)(n1:n≤1000)(hct:s.ct≤1000000000)(ho:g.b.outs.length≤900000)(hok: ∀k,(∀i,i≤k→goB s.ct n (AH i s g).s=Ag)→okB (AH k s g).s (AH k s g).g):At Tryz.prog 37 #[A9 (stc s (Z A0 s.d.length c0) (Z B0 s.r.length d0)),↑A.gU,↑a.gB,J U n] w (BRun w P a A s g n):=by
 obtain⟨b6,b10,f0⟩:=Ds w (stc s (Z A0 s.d.length c0) (Z B0 s.r.length d0)) z16 39 39;have l0:=Lc.start hS hp hne hM f0 b6 (AD _);have hz0:=OJ;generalize hW0:(w.alloc (.cells (stc s (Z A0 s.d.length c0) (Z B0 s.r.length d0)) 39)).alloc (.cells z16 39)=W0 at*;have L0:=T (l0.less (L':=λk=>k=w.heap.size+1) (λk e=>by subst e;omega));have B6:=T b6;have B10:=T b10;have HW:=T hW0;have HK:=T hk;have HOK:=T hok;have HO:=T (Ay ho (Ay ho (Ay hct (Ay n0 n1))));have Hcp:=T (Gr W0 0 s _ _ l0.st Lq Ls);clear hS hp hne hM l0 f0 b6 b10 hW0 hk ho hct hok hz0;go_in;go_upto_region 1 with(fail);rw[HW.out];have b6:=B6.out;go_wp2_with ((with_reducible refine wpL_lq b6 AQ AJ ?_));refine Az Hcp ?_;rintro e1 w1 ⟨A1,c1,B1,d1,rfl,h1,ne1,f1⟩;have HG:=T (Ay h1 (Ay ne1 f1));have B101:=T (B10.out.fr f1 id);have b61:=b6.fr f1 id;have o1:=Ce s (Z A1 s.d.length c1) (Z B1 s.r.length d1) rfl rfl;clear b6 B6 h1 ne1 f1 Hcp B10;go_upto_region 2 with(((with_reducible refine BL (cs':=stc s (Z A1 s.d.length c1) (Z B1 s.r.length d1)) b61 AJ o1 ?_);intro W2 b2 f2;have HB2:=T b2;have HF2:=T f2;clear b2 f2 o1));have L2:=T (L0.out.put HG.out.1 (λk e1 e2=>HG.out.2.1 k (ab_own HG.out.1.d e1) (ab_own HG.out.1.r e2)) HG.out.2.2 HB2.out HF2.out);have B102:=T (B101.out.fr HF2.out IT);have Hr:=T (λW=>right_any W s A1 B1 c1 d1);rw[HK.out.right] at Hr;have b2:=HB2.out;clear L0 B101 b61 HF2 HG;go_upto_region 4 with(first
  |((with_reducible refine wpL_lq b2 AQ AJ ?_))
  |((with_reducible refine(Hr.out _).mono ?_);rintro e w3 ⟨rfl,f3⟩;have L3:=T (L2.out.fr0 f3);have B103:=T (B102.out.fr f3 id);have B63:=T (HB2.out.fr f3 id);clear f3))
 have k14:=iL;have kl:=B63.out.lt;go_upto_region 5 with(fail);have HBO:=T (λj (h:(AH j s g).s.ha=Ac) (hk:Rk (AH j s g).s) (hU:(AH j s g).g.u.Ok)=>block_outs (AH j s g).s (AH j s g).g hk hU h);clear k14 kl L2 B102 HB2 Hr b2 HW;go_loopg [45] 2000 (λk v wr=> ∃(j:Nat) (X:Aw) (c:Nat) (Y:Aw) (d:Nat),Hid (∀i,i<j→goB s.ct n (AH i s g).s=Ag)∧Hid (∀i,i≤j→Rk (AH i s g).s)∧Hid ((k:Int)=2000 -((AH j s g).s.ct -s.ct))∧Hid ((AH j s g).g.b.outs.length≤g.b.outs.length+8*j)∧
  Hid (Lc w wr P ↑w a A (AH j s g).g (AH j s g).s X Y c d (λk=>k=w.heap.size+1))∧Hid (Blk wr (↑w+1) 39 z16))
 case atStart=>exact⟨0,A1,c1,B1,d1,T (λi hi=>absurd hi O),T (λi hi=>by
  obtain rfl:i=0:=O;exact HK.out),T iM,T (AD _),L3,B103⟩
 case round=>
  obtain⟨j,X,c,Y,d,hgo,hrk,hk,hou,hL,hB2⟩:=hrel;obtain⟨q,hq⟩:=A8 (AH j s g);have HQ:=T hq;have hBO:=T (HBO.out j);have hct:=T (Ko hgo.out hrk.out HO.out.2.2.1 (by have:=HO.out.2.2.2.2;omega) j (AD _));have hRj:=T (hrk.out j (AD _));rw[hq] at hk hou hL hBO hct hRj;clear hq;obtain⟨s',g'⟩:=q;dsimp only at hk hou hL hBO hct hRj;have hB:=T hL.out.b;have k14:=iN;have k15:=iO;have kl:=hB.out.lt;have hO:=HO.out;have hc1:=hct.out;have hs0:0≤s.ct:=HK.out.1.ct.1;obtain⟨D,hD⟩:=A8 (s'.ct -s.ct);rw[hD] at hc1;have hD0:0≤D:=O;have hD1:D≤5000:=iP;have hwa:=iQ;have HD:=T hD;have HGB:=iR;obtain⟨ha,hha⟩: ∃ha,s'.ha=ha:=⟨_,rfl⟩;rw[hha] at k15 HGB;have HHA:=T hha;clear hO hc1 hs0 hD hha;go_upto_region 5 with(fail);have hwb:=iS;go_cut [41] (λv wx=> ∃bb,v=Ap bb∧Hid ((decide (n>0)&& !ha&&decide (D<n))=bb)∧wx=wr);case first=>
   exact iT
  case rest=>
   obtain⟨bb,rfl,hbb,rfl⟩:=hcut;obtain⟨wr,rfl⟩: ∃y,y=wc:=⟨_,rfl⟩;have HG:=iU;clear k14 k15 kl hwa hwb hbb HGB
   cases bb
   ·have bs:=hB.out;have bt:=hB2.out;have o6:=Ce s' (Z X s'.d.length c) (Z Y s'.r.length d) rfl rfl;go_wp2_with (first
     |((with_reducible refine wpL_lq bs AQ AJ ?_))
     |((with_reducible refine BL (cs':=stc s' (Z X s'.d.length c) (Z Y s'.r.length d)) bt AJ o6 ?_);intro W7 b7 f7;have HB7:=T b7;have HF7:=T f7;clear b7 f7 bt bs o6))
    refine Bt (CV rfl _ _ (w.heap.size+1) 39 _ _ rfl HB7.out AQ rfl AJ) rfl ?_;have hS:=hL.out.st;have hx:=(hL.out.wrote HF7.out (λk hk=>by subst hk;exact⟨rfl,by omega,λe=>AZ hS.d hB2.out (by decide) (ab_own hS.d e),λe=>AZ hS.r hB2.out (by decide) (ab_own hS.r e)⟩)).stp;unfold BRun;refine⟨X,c,Y,d,j, ?_, ?_,hgo.out, ?_,hrk.out⟩;·rw[HQ.out]
    ·rw[HQ.out];exact hx
    ·rw[HQ.out];exact HG.out
   ·have hgb:=MR HG.out;have HB0:Hid (okB s' g'):=T (by
     have:=HOK.out j (λi hi=>by
      rcases DG i j with h1|h1;·exact hgo.out i h1
      ·obtain rfl:i=j:=O;rw[HQ.out];exact HG.out)
     rw[HQ.out] at this;exact this)
    obtain⟨P7,M7,in7,up7⟩:=hL.out.mach2;have UP:Hid (∀(w3 W3:Aa) (s3:St) (g3:Mc) (X3 Y3:Aw) (c3 d3:Nat),Stp wr w3 P7 a A s3 g3 X3 Y3 c3 d3→Blk W3 ↑w 39 (stc s3 (Z X3 s3.d.length c3) (Z Y3 s3.r.length d3))→Fr (λq=>q=w.heap.size) w3 W3→Lc w W3 P ↑w a A g3 s3 X3 Y3 c3 d3 (λk=>k=w.heap.size+1)):=T (λ_ _ _ _ _ _ _ _ h1 h2 h3=>up7 h1 h2 h3);have hDl:D<n:=by
     have:=hgb.2.2;rw[HD.out] at this;omega
    have hcc:=hct.out;rw[HD.out] at hcc;have hO:=HO.out;have hou':=hou.out;have Hd:=T (bdo_any wr s' X c Y d P7 a A g' hL.out.st (λk q=>in7 k (Ah (.inr q))) hL.out.ne M7 hRj.out hgb.2.1 O HB0.out);have hbo:=hBO.out hgb.2.1 hRj.out M7.ok;have hbk:=S7 s' g' hRj.out.right hgb.2.1 hRj.out.1.ct.1 (by have:=HD.out;omega);obtain⟨r,hr⟩:=A8 (Cx s' g');rw[hr] at Hd hbo hbk;have HN:Hid (AH (j+1) s g=r):=T (by show Cx (AH j s g).s (AH j s g).g=r;rw[HQ.out];exact hr);have HX:=T (Ay hbo (Ay hbk (Ay hDl hcc)));have B7:Hid (∀w',Fr (λk=> ¬P7 k) wr w'→Blk w' ↑w 39 (stc s' (Z X s'.d.length c) (Z Y s'.r.length d))∧Blk w' (↑w+1) 39 z16):=T (λw' f=>⟨hB.out.fr f (λr=>r (in7 _ (Ah (.inl rfl)))),hB2.out.fr f (λr=>r (in7 _ (.inl rfl)))⟩);have b6:=hB.out;clear hgb hDl hcc hou' hbo hbk hr hO up7;go_upto_region 6 with(fail);go_wp2_with ((with_reducible refine wpL_lq b6 AQ AJ ?_));refine Az Hd ?_;rintro e7 w7 ⟨X2,c2,Y2,d2,rfl,hsx,hk2⟩;obtain⟨b7,bt7⟩:=B7.out w7 hsx.f;have HSX:=T hsx;have HBT:=T bt7;have HB7':=T b7;have HK2:=T hk2;have o7:=Ce r.s (Z X2 r.s.d.length c2) (Z Y2 r.s.r.length d2) rfl rfl;clear hsx bt7 hk2 B7 Hd b6 M7 in7;go_wp2_with (((with_reducible refine BL (cs':=stc r.s (Z X2 r.s.d.length c2) (Z Y2 r.s.r.length d2)) b7 AJ o7 ?_);intro W8 b8 f8;have HB8:=T b8;have HF8:=T f8;clear b8 f8 b7 o7));obtain⟨hbo,⟨jj,j1,j8,hjj⟩,hDl,hcc⟩:=HX.out;have hD:=HD.out;have hkk:=hk.out;have hO:=HO.out;have hou':=hou.out
    go_roundg (2000 -(r.s.ct -s.ct)).toNat
    case measure=>omega
    case rel=>
     refine⟨j+1,X2,c2,Y2,d2,T (λi hi=>?_),T (λi hi=>?_),T ?_,T ?_,T ?_, ?_⟩;·exact iV
     ·exact iW
     ·rw[HN.out];omega
     ·rw[HN.out];omega
     ·rw[HN.out];exact UP.out _ _ _ _ _ _ _ _ HSX.out HB8.out HF8.out
     ·exact iX
end Bl
namespace Gm
open Fm Nt Rm By Wk Gs
theorem MX(a:Nat)(s:St)(g:Mc): ∀b,AH (a+b) s g=AH b (AH a s g).s (AH a s g).g
 |0=>rfl
 |b+1=>by
  show Cx (AH (a+b) s g).s (AH (a+b) s g).g=Cx _ _;rw[MX a s g b]
structure Halts(n:Nat)(s:St)(g:Mc)(Ci:Nat):Prop where
 go: ∀i,i<Ci→(AH i s g).s.ha=Ac∧(AH i s g).s.ct<s.ct+8*n
 ok: ∀i,i<Ci→okB (AH i s g).s (AH i s g).g
 ou: ∀i,i≤Ci→(AH i s g).g.b.outs.length≤900000
 ha:(AH Ci s g).s.ha=Ag
section
variable {n Ci j jr:Nat} {s:St} {g:Mc}
theorem Halts.bound(h:Halts n s g Ci)(hj:j≤Ci)(k:Nat)(hk: ∀i,i≤k→goB (AH j s g).s.ct 8 (AH i (AH j s g).s (AH j s g).g).s=Ag):j+k<Ci:=by
 rcases DG (j+k) Ci with q|q;·exact q
 ·have h1:=(MR (hk (Ci -j) O)).2.1;rw[←MX,show j+(Ci -j)=Ci by omega,h.ha] at h1
  cases h1
theorem Halts.oks(h:Halts n s g Ci)(hj:j≤Ci)(k:Nat)(hk: ∀i,i≤k→goB (AH j s g).s.ct 8 (AH i (AH j s g).s (AH j s g).g).s=Ag):okB (AH k (AH j s g).s (AH j s g).g).s (AH k (AH j s g).s (AH j s g).g).g:=by
 rw[←MX];exact h.ok _ (h.bound hj k hk)
theorem Halts.leg(h:Halts n s g Ci)(hj:j<Ci)(hc:s.ct+8*n≤1000000)(hr:RunTo 8 (AH j s g).s (AH j s g).g jr):j+jr≤Ci∧0<(AH (j+jr) s g).s.ct -(AH j s g).s.ct∧(AH (j+jr) s g).s.ct -(AH j s g).s.ct<16∧(j+jr<Ci→(AH j s g).s.ct+8≤(AH (j+jr) s g).s.ct):=by
 have h1:=h.go j hj;have hc1:(AH j s g).s.ct≤1000000000:=O;obtain⟨a1,a2,a3,a4,a5,a6⟩:=hr.ends hc1 O;have a7:=(Ko hr.go hr.rk hc1 O jr (AD _)).1;have a6:=a6 O h1.1;rw[←MX] at a1 a2 a3 a4 a5 a7;refine⟨?_,O,by have:=a4 (by omega);omega,λq=>?_⟩
 ·rcases DG Ci (j+jr) with q|q;·have:=h.bound (Nat.le_of_lt hj) (Ci -j) (λi hi=>hr.go i O);omega
  ·exact q
 ·have:=a5 O (h.go _ q).1;omega
end
end Gm
end Go.Proofs.YtdfegdoeebaagaaGreatDoor
