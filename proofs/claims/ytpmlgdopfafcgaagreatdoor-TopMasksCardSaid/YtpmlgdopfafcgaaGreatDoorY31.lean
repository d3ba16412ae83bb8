import Derived.Test.YtpmlgdopfafcgaaGreatDoorY25
import Derived.Test.YtpmlgdopfafcgaaGreatDoorY26
import Derived.Test.YtpmlgdopfafcgaaGreatDoorY29
open Go.Value renaming int→J,slice→U,bool→Ap,tuple→AD,ownBlock→Bp,agg→AA,pointer→Bi
open Option renaming some→I,none→G
open Go.IntKind renaming i64→Z,u32→V,u64→AM,u8→AC,wrap_u64→Dk,wrap_u32→DH
open Bool renaming false→Aa,true→Af,false_ne_true→Da,false_and→D7
open Go renaming World→Ac,Value→As,Calls→At,bodyPost_ret→Bf,TypeId→AK,wp_region_held_drew→BY,info_parts→BH,Ending→AT,madeCells→Cb,maxLen→Br,Program→BW,undef→Bt,wpList→BL,bits→Bb,run_underlying→CX
open List renaming getD_eq_getElem?_getD→AN,getElem?_eq_getElem→Bj,length_append→BJ,append_assoc→BM,mem_map→Bo,getElem?_take_of_lt→Cw,replicate→BK,range→Bm,getElem?_append_right→CB,getElem_mem→BU,mem_append→BZ,getElem?_append_left→CO,getElem?_map→C7,cons_append→CC,mem_filter→C8,length_pos_iff→CP,length_cons→CK,mem_cons→Cy,getLastD_eq_getLast?→Dg,nil_append→CI,getElem?_eq_none→De,dropLast_concat→Do,mem_singleton→Dv,map_append→Df,length_map→Di,getElem_of_mem→DD,length_nil→Dp,concat_eq_append→DI,getElem?_range→DL,range_succ→DB,getElem?_replicate→DW,singleton_append→DV,map_cons→D6,map_map→D8,setIfInBounds_toArray→Eb
open Go.Ending renaming returned→Ax
open And renaming intro→A9
open Nat renaming le_refl→AE,lt_of_lt_of_le→AW,le_trans→AS,zero_le→AU,zero_add→Bn,eq_zero_or_pos→Dm,reduceEqDiff→Dq
open Or renaming inl→Ag,inr→Ah
open Go.Proofs.Tryz renaming underlying41→AP,underlying31→CF,underlying22→CV,underlying215→Dl,underlying26→DN
open Go.RowKit renaming intOf→AJ
open Int renaming eq_ofNat_of_zero_le→CM,toNat_natCast→C4,emod_eq_of_lt→CZ
open Go.Builtin renaming zeroCells→CG,delete_→Eh
open Array renaming getElem?_toList→CN,getElem?_eq_some_iff→DX
open Go.Region renaming wanted→CA
open Go.Result renaming andThen→CT
open Option.some renaming inj→Ds
open Go.MapKept renaming run_getObj_map→DJ,run_setObj_map→Ef
open Go.Instr renaming makeSlice→Dj,mapUpdate→DK
open Go.IntWalk renaming i64_in→Du
open Go.Lit renaming int→C9
open Go.Sem renaming run_bind→D5
set_option linter.all false
set_option maxHeartbeats 40000000
set_option maxRecDepth 1000000
open Go Go.RowKit
namespace Go.Proofs.YtpmlgdopfafcgaaGreatDoor
namespace Bl
open Fm Nt Rm By Wk Gs Bs Mu Sv Gm Gc Rn
section
variable {w w':Ac} {P P':AG} {a:Ab} {A:Au} {g:Mc}
theorem tick_m(h:Mch w P a A g)(cnt:Int):At Tryz.prog 81 #[↑a.gB,J AM cnt] w λe w'=>e=Ax (AD #[])∧Mch w' P a A ⟨g.b.tick cnt,g.l⟩∧Fr (λk=> ¬P k) w w':=by
 obtain⟨F,h1,h2⟩:=h.bus;exact(Bs.tick_any w F a g.b h1 cnt).mono (λe w' hp=>h.busPost h1 h2 hp)
theorem gc_m(h:Mch w P a A g):w.cell? ⟨a.gB,0,G⟩=I ↑a.gc∧a.gB<↑w:=by
 obtain⟨F,h1,h2⟩:=h.bus;exact⟨h1.b.cell 0,h1.b.lt⟩
theorem next_m(h:Mch w P a A g):At Tryz.prog 82 #[↑a.gc] w λe w'=>e=Ax (AD #[J Z (Iq.nextN g.b.p g.b.m),Ap (Iq.nextB g.b.p g.b.m)])∧Fr Aj w w':=by
 obtain⟨F,h1,h2⟩:=h.bus;exact(Iq.next_any w a.gc g.b.p g.b.m h.tab h1.c (by have:=h1.ok.p;omega) h1.ok.m).mono (λe w' hp=>⟨hp.1,hp.2.2⟩)
theorem place_m(h:Mch w P a A g)(s:Sp)(hp:s.pg=Aa)(va k:Int)(v0:0≤va)(v1:va≤4294967295)(hk:k=1∨k=2∨k=3):At Tryz.prog 84 #[↑A.gU,spv s,J V va,J Z k] w λe w'=>e=Ax (AD #[J V (placeR g.u s va k).p,trv (placeR g.u s va k).c (placeR g.u s va k).a])∧Mch w' P a A (g.setU (placeR g.u s va k).u)∧Fr (λk=> ¬P k) w w':=
 (Mu.place_any w A g.u h.un s hp va k v0 v1 hk).mono (λe w' hp=>⟨hp.1,h.unPost hp.2.1 hp.2.2 (Mu.tu_place (s:=s) (va:=va) (k:=k) h.tu)⟩)
end
def FetPost(w:Ac)(o:Option (Ins×Nat))(e:AT)(w':Ac):Prop:=
 (∃(i:Ins) (k:Int),e=Ax (AD #[insV i,J Z k,Ap o.isSome])∧ ∀x,o=I x→i=x.1∧k=x.2)∧Fr Aj w w'
theorem VO(w:Ac)(P:AG)(a:Ab)(A:Au)(g:Mc)(h:Mch w P a A g)(p:Int)(p0:0≤p)(p1:p≤4294967295):At Tryz.prog 91 #[↑A.gU,J V p] w (FetPost w (fetchR g.b.ms p)):=by
 have f0:Fr Aj w (w.alloc (.cells #[J Z 0,J V 0] 26)):=(Ao _ _).alloc _;have H:=T (h.fr0 f0);have hz:=h.un.M.lt;go_in;go_wp2_with fail;refine(Mu.memory_t _ A g.u H.out.un).mono ?_;rintro e w2 ⟨rfl,rfl⟩;go_wp2_with fail;have hM:=H.out.un.M;rw[H.out.am] at hM⊢;have hM:Mem _ a.am g.b.ms:=hM;by_cases hlt:p<(g.b.ms.n:Int)*64
 ·have hq:p/64<g.b.ms.n:=O;obtain⟨hn1,hn2⟩:=hM.n0;have HBD:=T hM.bd;have e2:fetchR g.b.ms p=decI (pageL g.b.ms p):=by unfold fetchR;rw[An hlt]
  have HE:=T e2;clear e2;refine(Rm.page_in _ a.am g.b.ms hM (p/64) O hq).mono ?_;rintro e w3 ⟨rfl,hc,f3⟩;have hz:Hid (IntsAt AC w3 ↑w3 (I ⟨(w.alloc (.cells #[J Z 0,J V 0] 26)).heap.size,(p%64).toNat,G⟩) (64 -(p%64).toNat) (pageL g.b.ms p)):=T (by
   have hg: ∀i,i<64 -(p%64).toNat→(pageL g.b.ms p).getD i 0=g.b.ms.mem ((p/64).toNat*64+((p%64).toNat+i)):=λi hi=>by
    unfold pageL;rw[AN,C7,DL hi];show g.b.ms.mem (p.toNat+i)=_;congr 1;omega
   refine⟨by simp[pageL],λi hi=>?_,λ_=>⟨_,_,rfl,hc.lt,λi hi=>?_⟩⟩;·rw[hg i hi];have:=HBD.out ((p/64).toNat*64+((p%64).toNat+i)) O;exact Iz
   ·rw[hg i hi];exact hc.cell ((p%64).toNat+i) O)
  have F3:=T ((f0.tr f3));have H3:=T ((AH w 26 #[J Z 0,J V 0]).fr f3 id);clear hc f3 f0;obtain⟨b3,hb3⟩:=Az ((w.alloc (.cells #[J Z 0,J V 0] 26)).heap.size);rw[hb3] at hz⊢;go_wp2_with fail;have hml:64 -(p%64).toNat≤Br:=Bu
  cases hd:decI (pageL g.b.ms p) with
  |none=>
   refine(Gc.dec_no _ _ _ _ _ hz.out hd hml).mono ?_;rintro e w4 ⟨er,hne,her,rfl,f4⟩;have e1:decide (er=0)=Aa:=JA;have e2:(er==0)=Aa:=JA;have b4:=H3.out.fr f4 id;have hl4:=b4.lt;have k0:=b4.cell 0;have k1:=b4.cell 1;have y0:=b4.frozen 0;have y1:=b4.frozen 1;have H4:=T b4;clear b4;have F4:=T (F3.out.tr f4);clear f4;go_wp2_with fail;refine Bf (EN rfl _ _ w.heap.size 26 #[J Z 0,J V 0] _ (J Z 0) (Ap Aa) rfl rfl rfl (((H4.out.set_ 0 (J Z 0)).set_ 1 (J V 0)).alloc _) DN rfl szI) rfl ?_;rw[HE.out,hd];exact⟨⟨⟨0,0⟩,0,rfl,λx hx=>by cases hx⟩,(F4.out.trans (((Ao (λq=>q=w.heap.size) w4).setCell (p:=⟨↑w,0,G⟩) (Ag rfl) _).setCell (p:=⟨↑w,1,G⟩) (Ag rfl) _) (λq hq e=>Gn)).alloc _⟩
  |some x=>
   obtain⟨i,k⟩:=x;refine(Gc.dec_yes _ _ _ _ _ hz.out i k hd hml).mono ?_;rintro e w4 ⟨rfl,f4⟩;have b4:=H3.out.fr f4 id;have hl4:=b4.lt;have k0:=b4.cell 0;have k1:=b4.cell 1;have y0:=b4.frozen 0;have y1:=b4.frozen 1;have H4:=T b4;clear b4;have F4:=T (F3.out.tr f4);clear f4;go_wp2_with fail;refine Bf (EN rfl _ _ w.heap.size 26 #[J Z i.op,J V i.n] _ (J Z k) (Ap Af) rfl rfl rfl (((H4.out.set_ 0 (J Z i.op)).set_ 1 (J V i.n)).alloc _) DN rfl szI) rfl ?_;rw[HE.out,hd];exact⟨⟨i,k,rfl,λx hx=>by injection hx with hx;subst hx;exact⟨rfl,rfl⟩⟩,(F4.out.trans (((Ao (λq=>q=w.heap.size) w4).setCell (p:=⟨↑w,0,G⟩) (Ag rfl) _).setCell (p:=⟨↑w,1,G⟩) (Ag rfl) _) (λq hq e=>Gn)).alloc _⟩
 ·have e2:fetchR g.b.ms p=G:=by unfold fetchR;rw[Ae hlt]
  have HE:=T e2;clear e2;refine(Rm.page_out _ a.am g.b.ms hM (p/64) O).mono ?_;rintro e w3 ⟨rfl,rfl⟩;go_wp2_with fail;refine Bf (EN rfl _ _ w.heap.size 26 #[J Z 0,J V 0] _ (J Z 0) (Ap Aa) rfl rfl rfl (AH _ _ _) DN rfl szI) rfl ?_;rw[HE.out];exact⟨⟨⟨0,0⟩,0,rfl,λx hx=>by cases hx⟩,f0⟩
theorem next_any(w:Ac)(i:Ins)(r:Rz)(X Y Bg:Aw)(c d n m B:Nat)(page was:Int)(hz:IntsAt Z w B Bg n r.pg)(hB:B≤↑w)(hm:n≤64)(w0:0≤was)(w1:was≤4294967295)(q0:0≤r.s.pc)(q1:r.s.pc≤4294967295):At Tryz.prog 93 #[insV i,AA (resc r.s (U X r.s.d.length c) (U Y r.s.r.length d) r.tr r.dv (U Bg n m)),J Z page,J V was] w λe w'=>e=Ax (Ap (nextB_ i r page was))∧Fr Aj w w':=by
 have hc:r.pg.contains page=Ca.hasI r.pg page:=by
  unfold Ca.hasI
  induction r.pg with
  |nil=>rfl
  |cons y l ih=>rw[List.contains_cons,List.any_cons,ih,Bool.beq_comm]
 have HC:=T (λW (f:Fr Aj w W)=>Ca.contains_any W B n m Bg r.pg page (hz.fr f hB (λ_ _ e=>e)) Bu);have HN:Hid (nextB_ i r page was=if endsB i.op||r.tr||r.dv||r.s.ha||Ca.hasI r.pg page then Aa else decide (r.s.pc/64=was/64)):=T (by unfold nextB_;rw[hc]);obtain⟨b1,b2,f0⟩:=boxed2 w #[J Z i.op,J V i.n] (resc r.s (U X r.s.d.length c) (U Y r.s.r.length d) r.tr r.dv (U Bg n m)) 26 201;have F0:=T f0;have He:=T (λW=>Gc.ends_any W i.op);generalize hW:(w.alloc (.cells #[J Z i.op,J V i.n] 26)).alloc (.cells (resc r.s (U X r.s.d.length c) (U Y r.s.r.length d) r.tr r.dv (U Bg n m)) 201)=W at*;have k0:W.cell? ⟨↑w,0,G⟩=I (J Z i.op):=b1.cell 0;have kl:=b1.lt;obtain⟨x2,h2⟩:=Az r.tr;obtain⟨x3,h3⟩:=Az r.dv;obtain⟨x4,h4⟩:=Az r.s.ha;have k1:W.cell? ⟨↑w+1,16,G⟩=I (Ap r.tr):=b2.cell 16;have k2:W.cell? ⟨↑w+1,17,G⟩=I (Ap r.dv):=b2.cell 17;have k3:W.cell? ⟨↑w+1,15,G⟩=I (Ap r.s.ha):=b2.cell 15;have k4:W.cell? ⟨↑w+1,18,G⟩=I (U Bg n m):=b2.cell 18;have k5:W.cell? ⟨↑w+1,0,G⟩=I (J V r.s.pc):=b2.cell 0;have kl2:=b2.lt;rw[h2] at k1 HN;rw[h3] at k2 HN;rw[h4] at k3 HN;generalize h1:endsB i.op=x1 at*;generalize h5:Ca.hasI r.pg page=x5 at*;have HW:=T hW;clear b1 b2 f0 hc hz h1 h2 h3 h4 h5 hW;have key: ∀(x1 x2 x3 x4 x5:Bool),(x1||x2||x3||x4||x5)=Af→(if x1||x2||x3||x4||x5 then Aa else decide (r.s.pc/64=was/64))=Aa:=λx1 x2 x3 x4 x5 h=>An h
 cases x1
 ·cases x2
  ·cases x3
   ·cases x4
    ·cases x5
     ·go_in;go_upto_region 1 with(fail);rw[HW.out];go_wp2_with (first|((with_reducible refine(He.out _).mono ?_);rintro e w1 ⟨rfl,rfl⟩)|((with_reducible refine(HC.out _ F0.out).mono ?_);rintro e w1 ⟨rfl,rfl⟩));go_ret;refine⟨?_,F0.out⟩;rw[HN.out];rfl
     ·go_in;go_upto_region 1 with(fail);rw[HW.out];go_wp2_with (first|((with_reducible refine(He.out _).mono ?_);rintro e w1 ⟨rfl,rfl⟩)|((with_reducible refine(HC.out _ F0.out).mono ?_);rintro e w1 ⟨rfl,rfl⟩));go_ret;exact⟨Sk,F0.out⟩
    ·exact I0
   ·exact I0
  ·exact I0
 ·exact I0
end Bl
namespace Bl
open Fm Nt Rm By Wk Gs Bs Mu Sv Gm Gc Rn
structure Lc(w0 wx:Ac)(P:AG)(gb:Nat)(a:Ab)(A:Au)(g:Mc)(s:St)(X Y:Aw)(c d:Nat)(L:AG):Prop where
 b:Blk wx gb 41 (stc s (U X s.d.length c) (U Y s.r.length d))
 st:StV wx 0 s (U X s.d.length c) (U Y s.r.length d)
 ne: ∀k,ab X=I k→ab Y≠I k
 f:Fr (λk=> ¬P k) w0 wx
 g0:↑w0≤gb
 z:P 0∧ ∀k,P k→k<w0.heap.size
 mc: ∃P',(∀k,P k→P' k)∧(∀k,P' k→P k∨w0.heap.size≤k)∧(∀k,ab X=I k∨ab Y=I k→P' k)∧(∀k,ab X=I k∨ab Y=I k→P k∨w0.heap.size≤k)∧P' gb∧(∀k,L k→P' k∧w0.heap.size≤k)∧Mch wx P' a A g
section
variable {w0 w wx w':Ac} {P P':AG} {gb:Nat} {a:Ab} {A:Au} {g g':Mc} {s s':St} {X Y X' Y':Aw} {c d c' d':Nat} {L L':AG}
theorem gbne(hb:Blk wx gb 41 (stc s (U X s.d.length c) (U Y s.r.length d)))(hS:StV wx 0 s (U X s.d.length c) (U Y s.r.length d)):ab X≠I gb∧ab Y≠I gb:=
 ⟨λe=>AZ hS.d hb Ak (ab_own hS.d e),λe=>AZ hS.r hb Ak (ab_own hS.r e)⟩
theorem Lc.fr0(h:Lc w0 w P gb a A g s X Y c d L)(f:Fr Aj w w'):Lc w0 w' P gb a A g s X Y c d L:=by
 obtain⟨P',p1,p2,p3,p4,p5,p6,p7⟩:=h.mc;exact⟨h.b.fr f id,h.st.fr0 f,h.ne,h.f.trans f (λ_ _ e=>e.elim),h.g0,h.z,P',p1,p2,p3,p4,p5,p6,p7.fr0 f⟩
theorem Lc.mach(h:Lc w0 w P gb a A g s X Y c d L): ∃P',Mch w P' a A g∧(∀k,L k∨k=gb∨ab X=I k∨ab Y=I k→ ¬ ¬P' k)∧ ∀w' g',Mch w' P' a A g'→Fr (λk=> ¬P' k) w w'→Lc w0 w' P gb a A g' s X Y c d L:=by
 obtain⟨P',p1,p2,p3,p4,p5,p6,p7⟩:=h.mc;refine⟨P',p7,λk hk e=>?_,λw' g' hm f=>⟨h.b.fr f (λe=>e p5),h.st.fr f (λk hk e=>e (p3 k (Ag (own_ab hk)))) (λk hk e=>e (p3 k (Ah (own_ab hk)))),h.ne,h.f.trans f (λk hk e q=>e (p1 k q)),h.g0,h.z,P',p1,p2,p3,p4,p5,p6,hm⟩⟩;rcases hk with e2|rfl|e2;·exact e (p6 k e2).1
 ·exact e p5
 ·exact e (p3 k e2)
theorem Lc.less(h:Lc w0 w P gb a A g s X Y c d L)(hl: ∀k,L' k→L k):Lc w0 w P gb a A g s X Y c d L':=by
 obtain⟨P',p1,p2,p3,p4,p5,p6,p7⟩:=h.mc;exact⟨h.b,h.st,h.ne,h.f,h.g0,h.z,P',p1,p2,p3,p4,p5,λk hk=>p6 k (hl k hk),p7⟩
theorem Lc.wrote(h:Lc w0 w P gb a A g s X Y c d L){S:AG}(f:Fr S w w')(hs: ∀k,S k→L k∧k≠gb∧ab X≠I k∧ab Y≠I k):Lc w0 w' P gb a A g s X Y c d L:=by
 obtain⟨P',p1,p2,p3,p4,p5,p6,p7⟩:=h.mc;have hn: ∀k,L k→ ¬k<w0.heap.size:=λk hk=>by have:=(p6 k hk).2;omega
 have hz: ¬S 0:=λe=>by
  exact hn 0 (hs 0 e).1 (h.z.2 0 h.z.1)
 refine⟨h.b.fr f (λe=>(hs _ e).2.1 rfl),h.st.fr f (λk hk e=>(hs k e).2.2.1 (own_ab hk)) (λk hk e=>(hs k e).2.2.2 (own_ab hk)),h.ne,h.f.trans f (λk hk e=>absurd hk (hn k (hs k e).1)),h.g0,h.z,P',p1,p2,p3,p4,p5,p6,p7.fr f (λk hk=>(p6 k (hs k hk).1).1) hz⟩
variable{W:Ac}
theorem Lc.put(h:Lc w0 w P gb a A g s X Y c d L)(hn:StV w' ↑w s' (U X' s'.d.length c') (U Y' s'.r.length d'))(hne: ∀k,ab X'=I k→ab Y'≠I k)(f:Fr Aj w w')(hb:Blk W gb 41 (stc s' (U X' s'.d.length c') (U Y' s'.r.length d')))(f2:Fr (λq=>q=gb) w' W):Lc w0 W P gb a A g s' X' Y' c' d' L:=by
 obtain⟨P',p1,p2,p3,p4,p5,p6,p7⟩:=h.mc;have hs:=h.f.size;have h1:=h.b.lt;have hx:=Sl;have hz: ¬(0=gb):=λe=>Sm;refine⟨hb,(hn.low (AU _)).fr f2 (λk hk e=>?_) (λk hk e=>?_),hne,(h.f.trans f (λ_ _ e=>e.elim)).trans f2 (λk hk e=>?_),h.g0,h.z,λk=>P' k∨(w.heap.size≤k∧k<w'.heap.size),λk hk=> Ag (p1 k hk),λk hk=>?_,λk hk=> Ah (hx k hk),λk hk=> Ah KF,Ag p5,λk hk=>⟨Ag (p6 k hk).1,(p6 k hk).2⟩,(p7.more f (λk hk=>hk) (Ag p7.p0)).fr f2 (λk hk=>?_) (λe=>hz e)⟩;·have:=hx k (Ag (own_ab hk));omega
 ·have:=hx k (Ah (own_ab hk));omega
 ·have:=h.g0;omega
 ·exact Sn
 ·rw[hk];exact Ag p5
theorem Lc.made(hM:Mch w0 P a A g){b:Nat}(hb0:↑w0≤b)(hn:StV w' b s (U X s.d.length c) (U Y s.r.length d))(hne: ∀k,ab X=I k→ab Y≠I k)(f:Fr Aj w0 w')(hb:Blk W gb 41 (stc s (U X s.d.length c) (U Y s.r.length d)))(f2:Fr (λq=>q=gb) w' W)(hg:↑w0≤gb){cs0:AL}(hb2:Blk w' gb 41 cs0):Lc w0 W P gb a A g s X Y c d (λk=>w0.heap.size≤k∧k<w'.heap.size):=by
 have hx: ∀k,ab X=I k∨ab Y=I k→w0.heap.size≤k∧k<w'.heap.size:=λk hk=>by
  rcases hk with e|e;·have h1:=hn.d.ge k (ab_own hn.d e);have h2:=hn.d.lt k (ab_own hn.d e);omega
  ·have h1:=hn.r.ge k (ab_own hn.r e);have h2:=hn.r.lt k (ab_own hn.r e);omega
 have hS:=hn.low (AU b);have hg2:=hb2.lt;have hv:ab X≠I gb∧ab Y≠I gb:=⟨λe=>AZ hS.d hb2 Ak (ab_own hS.d e),λe=>AZ hS.r hb2 Ak (ab_own hS.r e)⟩;exact⟨hb,hS.fr f2 (λk hk e=>hv.1 BO) (λk hk e=>hv.2 BO),hne,(f.mono (S':=λk=> ¬P k) (λ_ _ e=>e.elim)).trans f2 (λk hk e=>O),hg,⟨hM.p0,hM.pl⟩,λk=>P k∨(w0.heap.size≤k∧k<w'.heap.size),λk hk=> Ag hk,λk hk=>hk.imp id (λe=>e.1),λk hk=> Ah (hx k hk),λk hk=> Ah (hx k hk).1,Ah ⟨hg,hg2⟩,λk hk=>⟨Ah hk,hk.1⟩,(hM.more f (λk hk=>hk) (Ag hM.p0)).fr f2 (λk hk=>by rw[hk];exact Ah ⟨hg,hg2⟩) (λe=>by have:=hM.pl 0 hM.p0;omega)⟩
theorem Lc.box(h:Lc w0 w P gb a A g s X Y c d L)(hd:s'.d=s.d)(hr:s'.r=s.r)(hok:s'.Ok)(hb:Blk W gb 41 (stc s' (U X s'.d.length c) (U Y s'.r.length d)))(f2:Fr (λq=>q=gb) w W):Lc w0 W P gb a A g s' X Y c d L:=by
 obtain⟨P',p1,p2,p3,p4,p5,p6,p7⟩:=h.mc;have hv:=gbne h.b h.st;refine⟨hb,⟨?_, ?_,hok⟩,h.ne,h.f.trans f2 (λk hk e=>by have:=h.g0;omega),h.g0,h.z,P',p1,p2,p3,p4,p5,p6,p7.fr f2 (λk hk=>by rw[hk];exact p5) (λe=>Sm)⟩;·rw[hd];exact h.st.d.fr f2 (λk hk e=>hv.1 BO)
 ·rw[hr];exact h.st.r.fr f2 (λk hk e=>hv.2 BO)
theorem Lc.up(h:Lc w0 w P gb a A g s X Y c d L)(hk:Rk s):Lc w0 (w.setCell ⟨gb,14,G⟩ (J AM (St.up s).ct)) P gb a A g (St.up s) X Y c d L:=by
 have hb:Blk (w.setCell ⟨gb,14,G⟩ (J AM (St.up s).ct)) gb 41 (stc (St.up s) (U X s.d.length c) (U Y s.r.length d)):=h.b.set_ 14 _;have f:Fr (λq=>q=gb) w (w.setCell ⟨gb,14,G⟩ (J AM (St.up s).ct)):=(Ao (λq=>q=gb) w).setCell (p:=⟨gb,14,G⟩) (.inl rfl) _;exact h.box (s':=St.up s) rfl rfl hk.up.1 hb f
theorem Lc.give(h:Lc w0 w P gb a A g s X Y c d L)(hn:StV w' ↑w s' (U X' s'.d.length c') (U Y' s'.r.length d'))(hne: ∀k,ab X'=I k→ab Y'≠I k)(f:Fr Aj w w'){q:Nat}(hq:L q)(hql:q<↑w)(f2:Fr (λk=>k=q) w' W):Stp w0 W P a A s' g X' Y' c' d':=by
 obtain⟨P',p1,p2,p3,p4,p5,p6,p7⟩:=h.mc;have hs:=h.f.size;have hx:=Sl;have hq2:=p6 q hq;have hz:=h.z.2 0 h.z.1;refine⟨(hn.low (AU _)).fr f2 (λk hk e=>?_) (λk hk e=>?_),hne,(h.f.trans f (λ_ _ e=>e.elim)).trans f2 (λk hk e=>O),λk=>P' k∨(w.heap.size≤k∧k<w'.heap.size),λk hk=> Ag (p1 k hk),λk hk=>?_,λk hk=> Ah (hx k hk),λk hk=> Ah KF,(p7.more f (λk hk=>hk) (Ag p7.p0)).fr f2 (λk hk=>by rw[hk];exact Ag hq2.1) (λe=>O)⟩;·have:=hx k (Ag (own_ab hk));omega
 ·have:=hx k (Ah (own_ab hk));omega
 ·exact Sn
theorem Lc.stp(h:Lc w0 w P gb a A g s X Y c d L):Stp w0 w P a A s g X Y c d:=by
 obtain⟨P',p1,p2,p3,p4,p5,p6,p7⟩:=h.mc;exact⟨h.st,h.ne,h.f,P',p1,p2,p3,p4,p7⟩
end
end Bl
namespace Bl
open Fm Nt Rm By Wk Gs Bs Mu Sv Gm Gc Rn
abbrev begc(s:St)(D R:As)(p:Int)(on:Bool):AL:=#[J V s.pc,D,R,J V s.fl,Ap s.su,Ap s.pg,Ap s.ie,J V s.rt,J V s.ve,J V s.ep,J V s.ca,J V s.ad,Ap s.es,Ap s.ei,J AM s.ct,Ap s.ha,J V p,Ap on]
abbrev z18:AL:=#[J V 0,U G 0 0,U G 0 0,J V 0,Ap Aa,Ap Aa,Ap Aa,J V 0,J V 0,J V 0,J V 0,J V 0,Ap Aa,Ap Aa,J AM 0,Ap Aa,J V 0,Ap Aa]
theorem szB:(Tryz.prog.info? 150).map (·.size)=I 18:=AI
theorem oneB(s:St)(X Y:Aw)(c d:Nat)(p:Int)(on:Bool):(begc s (U X s.d.length c) (U Y s.r.length d) p on).all (·.oneCell')=Af:=by
 simp[begc,Value.oneCell']
theorem low_le(n:Nat):Iq.low n≤7:=by
 unfold Iq.low
 cases h:(Bm 8).find? (λi=>n.testBit i) with
 |none=>exact AU _
 |some k=>
  have:=List.mem_of_find?_eq_some h;have:=List.mem_range.1 this;show k≤7;omega
theorem irq_rk{s:St}(h:Rk s)(g:Mc):Rk (irqS s g):=by
 unfold irqS;split;·have:=low_le (g.b.p&&&g.b.m);exact h.trap _ _ ⟨by unfold Iq.nextN;omega,by unfold Iq.nextN;omega⟩ bd0
 ·exact h
def BegPost(w:Ac)(P:AG)(a:Ab)(A:Au)(r:Be)(e:AT)(w':Ac):Prop:=
 ∃X c Y d,e=Ax (AA (begc r.s (U X r.s.d.length c) (U Y r.s.r.length d) r.p r.on))∧Stp w w' P a A r.s r.g X Y c d
theorem VQ(w:Ac)(s:St)(A0:Aw)(c0:Nat)(B0:Aw)(d0:Nat)(P:AG)(a:Ab)(A:Au)(g:Mc)(hS:StV w 0 s (U A0 s.d.length c0) (U B0 s.r.length d0))(hp: ∀k,ab A0=I k∨ab B0=I k→P k)(hM:Mch w P a A g)(hk:Rk s)(hh:s.ha=Aa)(hpg:s.pg=Aa):At Tryz.prog 63 #[AA (stc s (U A0 s.d.length c0) (U B0 s.r.length d0)),↑A.gU,↑a.gB] w (BegPost w P a A (beginR s g)):=by
 have hr:=hk.right;have HPG:=T hpg;clear hpg;have eR:beginR s g=(let g1:Mc:=⟨g.b.tick s.ct,g.l⟩;let s1:=irqS s g1;let r:=placeR g1.u (spS s1) s1.pc 1;if r.c≠0 then⟨(St.up s1).trap r.c r.a,0,Aa,g1.setU r.u⟩ else⟨s1,r.p,Af,g1.setU r.u⟩):=by
  unfold beginR;rw[Ae (by simp[hr,hh])]
 have ER:=T eR;clear eR;obtain⟨b3,b6,f0⟩:=boxed2 w (stc s (U A0 s.d.length c0) (U B0 s.r.length d0)) z18 41 150;have L0:=hS.fr0 f0;have HK:=T hk;have hz0:w.heap.size+2=((w.alloc (.cells (stc s (U A0 s.d.length c0) (U B0 s.r.length d0)) 41)).alloc (.cells z18 150)).heap.size:=AB;generalize hW0:(w.alloc (.cells (stc s (U A0 s.d.length c0) (U B0 s.r.length d0)) 41)).alloc (.cells z18 150)=W0 at*;have Hc:=T (copy_any W0 0 s _ _ L0 KI KJ);have HX:=T (A9 hS (A9 hp (A9 hM f0)));have B6:=T b6;clear L0 hS hp hM b6 f0 hk;have HW:=T hW0;clear hW0;go_in;go_upto_region 1 with(fail);rw[HW.out];go_wp2_with ((with_reducible refine wpL_lq b3 AP sz16 ?_));refine Ay Hc ?_;rintro e w1 ⟨A1,c1,B1,d1,rfl,h1,ne1,f1⟩;have b31:=b3.fr f1 id;have o1:=one16 s (U A1 s.d.length c1) (U B1 s.r.length d1) rfl rfl;have H31:=T b31;have HG:=T (A9 h1 (A9 ne1 f1));have hz1:=f1.size;clear h1 ne1 f1 b3;go_upto_region 2 with(((with_reducible refine wpL_sq (cs':=stc s (U A1 s.d.length c1) (U B1 s.r.length d1)) b31 sz16 o1 ?_);intro W2 b2 f2;have HB2:=T b2;have HF2:=T f2;clear b2 f2 b31 o1));obtain⟨hS,hp,hM,f0⟩:=HX.out;obtain⟨h1,ne1,f1⟩:=HG.out;have l2:=Lc.made hM O h1 (λk e1 e2=>ne1 k (ab_own h1.d e1) (ab_own h1.r e2)) (f0.tr f1) HB2.out HF2.out (AE _) H31.out;have B62:=T ((B6.out.fr f1 id).fr HF2.out EM);have L2:=T (l2.less (L':=λk=>k=w.heap.size+1) (λk e=>by subst e;omega));clear hS hp hM f0 h1 ne1 f1 l2 HB2 HF2 H31 HG HX B6 Hc;have Hr:=T (λW=>right_any W s A1 B1 c1 d1);rw[hr] at Hr;have b2:=L2.out.b;go_upto_region 4 with(first
  |((with_reducible refine wpL_lq b2 AP sz16 ?_))
  |((with_reducible refine(Hr.out _).mono ?_);rintro e w3 ⟨rfl,f3⟩;have L3:=T (L2.out.fr0 f3);have B63:=T (B62.out.fr f3 id);have k15:w3.cell? ⟨↑w,15,G⟩=I (Ap Aa):=(L3.out.b.cell 15).trans (by rw[←hh];rfl);have k14:w3.cell? ⟨↑w,14,G⟩=I (J AM s.ct):=L3.out.b.cell 14;have kl:=L3.out.b.lt;clear f3 b2))
 go_wp2_with fail;obtain⟨P3,M3,np3,up3⟩:=L3.out.mach;refine(tick_m M3 s.ct).mono ?_;rintro e w4 ⟨rfl,M4,f4⟩;have L4:=T (up3 w4 _ M4 f4);have B64:=T (B63.out.fr f4 (np3 _ (Ag rfl)));obtain⟨P4,M4k,np4,up4⟩:=L4.out.mach;obtain⟨k0,kl0⟩:=gc_m M4k;have Hn:=T (next_m M4k);clear k15 k14 kl M3 np3 up3 M4 f4 L2 L3 B62 B63 Hr np4 up4 M4k;obtain⟨nb,hnb⟩:=Az (Iq.nextB (g.b.tick s.ct).p (g.b.tick s.ct).m);obtain⟨nn,hnn⟩:=Az (Iq.nextN (g.b.tick s.ct).p (g.b.tick s.ct).m);rw[hnb,hnn] at Hn;have hn8:nn≤7:=by rw[←hnn];exact low_le _
 have HI:Hid (irqS s ⟨g.b.tick s.ct,g.l⟩=if nb&&s.ie then s.trap (16+(nn:Int)) 0 else s):=T (by unfold irqS;rw[←hnb,←hnn]);go_wp2_with fail;refine Ay Hn ?_;rintro e w5 ⟨rfl,f5⟩;have L5:=T (L4.out.fr0 f5);have B65:=T (B64.out.fr f5 id);clear k0 kl0 Hn f5 L4 B64 hnb;go_upto_region 6 with(fail);have k6:w5.cell? ⟨↑w,6,G⟩=I (Ap s.ie):=L5.out.b.cell 6;have kl:=L5.out.b.lt;obtain⟨ie,hie⟩: ∃ie,s.ie=ie:=⟨_,rfl⟩;rw[hie] at k6 HI;go_cut [46] (λv wx=> ∃bb,v=Ap bb∧(nb&&ie)=bb∧wx=w5);case first=>
  cases nb
  ·go_wp2
   go_meet;exact⟨_,rfl,rfl,rfl⟩
  ·go_wp2
   go_meet;exact⟨_,rfl,rfl,rfl⟩
 case rest=>
  obtain⟨bb,rfl,hbb,rfl⟩:=hcut;obtain⟨w5,rfl⟩: ∃w5,w5=wc:=⟨_,rfl⟩;rw[hbb] at HI;clear k6 hie hbb;have hkk:=HK.out;have hd:=hkk.2.1;have hr2:=hkk.2.2.1
  go_upto_if 46 with(fail)
  go_cut [] (λwx=> ∃X c Y d,Hid (Lc w wx P ↑w a A ⟨g.b.tick s.ct,g.l⟩ (irqS s ⟨g.b.tick s.ct,g.l⟩) X Y c d (λk=>k=w.heap.size+1))∧Hid (Blk wx (↑w+1) 150 z18));case first=>
   cases bb
   ·go_wp2
    go_meet;have e:irqS s ⟨g.b.tick s.ct,g.l⟩=s:=HI.out;refine⟨A1,c1,B1,d1, ?_,B65⟩;rw[e];exact L5
   ·have e:irqS s ⟨g.b.tick s.ct,g.l⟩=s.trap (16+(nn:Int)) 0:=HI.out;have HE:=T e;have b5:=L5.out.b;have Ht:=T (trap_any w5 0 s A1 B1 c1 d1 L5.out.st O O (16+(nn:Int)) 0 O O O O);clear e;go_wp2_with ((with_reducible refine wpL_lq b5 AP sz16 ?_));refine Ay Ht ?_;rintro e w6 ⟨A6,c6,B6',d6,rfl,h6,ne6,f6⟩;have b6:=b5.fr f6 id;have o6:=one16 (s.trap (16+(nn:Int)) 0) (U A6 (s.trap (16+(nn:Int)) 0).d.length c6) (U B6' (s.trap (16+(nn:Int)) 0).r.length d6) rfl rfl;have HG:=T (A9 h6 (A9 ne6 f6));clear h6 ne6 f6 b5 Ht;go_wp2_with (((with_reducible refine wpL_sq (cs':=stc (s.trap (16+(nn:Int)) 0) (U A6 (s.trap (16+(nn:Int)) 0).d.length c6) (U B6' (s.trap (16+(nn:Int)) 0).r.length d6)) b6 sz16 o6 ?_);intro W7 b7 f7;have HB7:=T b7;have HF7:=T f7;clear b7 f7 b6 o6));go_meet;obtain⟨h6,ne6,f6⟩:=HG.out;refine⟨A6,c6,B6',d6,T ?_,T ((B65.out.fr f6 id).fr HF7.out EM)⟩;have e:irqS s ⟨g.b.tick s.ct,g.l⟩=s.trap (16+(nn:Int)) 0:=HE.out;rw[e];exact L5.out.put h6 (λk e1 e2=>ne6 k (ab_own h6.d e1) (ab_own h6.r e2)) f6 HB7.out HF7.out
  case rest=>
   obtain⟨X,c,Y,d,HL,HB⟩:=hcut;obtain⟨s1,hs1⟩:=Az (irqS s ⟨g.b.tick s.ct,g.l⟩);rw[hs1] at HL;have hk1:Rk s1:=by rw[←hs1];exact irq_rk hkk _
   have hp1:s1.pg=Aa:=by
    rw[←hs1];unfold irqS;split;·exact HPG.out
    ·exact HPG.out
   obtain⟨P8,M8,np8,up8⟩:=HL.out.mach;have Hpl:=T (place_m M8 (spS s1) hp1 s1.pc 1 hk1.1.pc.1 hk1.1.pc.2 (Ag rfl));clear hp1;obtain⟨r,hr8⟩:=Az (placeR (⟨g.b.tick s.ct,g.l⟩:Mc).u (spS s1) s1.pc 1);have hca:(0≤r.c∧r.c≤100)∧Bd r.a:=by rw[←hr8];exact place_ca hk1.1.pc.1 hk1.1.pc.2
   rw[hr8] at Hpl;have HR:Hid (beginR s g=if r.c≠0 then⟨(St.up s1).trap r.c r.a,0,Aa,(⟨g.b.tick s.ct,g.l⟩:Mc).setU r.u⟩ else⟨s1,r.p,Af,(⟨g.b.tick s.ct,g.l⟩:Mc).setU r.u⟩):=T (by rw[ER.out,hs1,hr8]);have c5:wc.cell? ⟨↑w,5,G⟩=I (Ap s1.pg):=HL.out.b.cell 5;have c4:wc.cell? ⟨↑w,4,G⟩=I (Ap s1.su):=HL.out.b.cell 4;have c7:wc.cell? ⟨↑w,7,G⟩=I (J V s1.rt):=HL.out.b.cell 7;have c0:wc.cell? ⟨↑w,0,G⟩=I (J V s1.pc):=HL.out.b.cell 0;have kl8:=HL.out.b.lt;clear hs1 hr8 hr2 hd L5 B65 ER;go_wp2_with fail;refine Ay Hpl ?_;rintro e w9 ⟨rfl,M9,f9⟩;have L9:=T (up8 w9 _ M9 f9);have B69:=T (HB.out.fr f9 (np8 _ (Ag rfl)));clear c5 c4 c7 c0 kl8 Hpl M8 np8 up8 M9 f9 HL HB;go_upto_region 9 with(fail);by_cases hc:r.c=0
   ·have hcb:(r.c==0)=Af:=EB;have hcb2:(r.c !=0)=Aa:=EB;have HC:=T hc;clear hc;go_upto_region 12 with(fail);have fa:Fr Aj w9 (w9.alloc (.cells #[J Z r.c,J V r.a] 185)):=(Ao _ _).alloc _;have L10:=T (L9.out.fr0 fa);have B610:=T (B69.out.fr fa id);generalize w9.alloc (.cells #[J Z r.c,J V r.a] 185)=w10 at*;have b10:=L10.out.b;have b11:=B610.out;have o6:=oneB s1 X Y c d r.p Af;clear fa L9 B69;go_wp2_with (first
     |((with_reducible refine wpL_lq b10 AP sz16 ?_))
     |((with_reducible refine wpL_sq (cs':=begc s1 (U X s1.d.length c) (U Y s1.r.length d) r.p Af) b11 szB o6 ?_);intro W7 b7 f7;have HB7:=T b7;have HF7:=T f7;clear b7 f7 b11 o6))
    refine Bf (CJ rfl _ _ (w.heap.size+1) 150 _ _ rfl HB7.out Tryz.underlying150 rfl szB) rfl ?_;rw[HR.out,Ae (by have:=HC.out;omega)];have hS:=L10.out.st;exact⟨X,c,Y,d,rfl,(L10.out.wrote HF7.out (λk hk=>by subst hk;exact⟨rfl,by omega,λe=>AZ hS.d B610.out (by decide) (ab_own hS.d e),λe=>AZ hS.r B610.out (by decide) (ab_own hS.r e)⟩)).stp⟩
   ·have hcb:(r.c==0)=Aa:=EB;have hcb2:(r.c !=0)=Af:=EB;have k14:w9.cell? ⟨↑w,14,G⟩=I (J AM s1.ct):=L9.out.b.cell 14;have kl:=L9.out.b.lt;have y14:=L9.out.b.frozen 14;go_upto_region 11 with(fail);have hwc:IntKind.u64.wrap (s1.ct+1)=(St.up s1).ct:=JR;rw[hwc];have fs:Fr (λq=>q=w.heap.size) w9 (w9.setCell ⟨↑w,14,G⟩ (J AM (St.up s1).ct)):=(Ao (λq=>q=w.heap.size) w9).setCell (p:=⟨↑w,14,G⟩) (Ag rfl) _;have fa:Fr Aj (w9.setCell ⟨↑w,14,G⟩ (J AM (St.up s1).ct)) ((w9.setCell ⟨↑w,14,G⟩ (J AM (St.up s1).ct)).alloc (.cells #[J Z r.c,J V r.a] 185)):=(Ao _ _).alloc _;have L10:=T ((L9.out.up hk1).fr0 fa);have B610:=T ((B69.out.fr fs EM).fr fa id);have bt:=AH (w9.setCell ⟨↑w,14,G⟩ (J AM (St.up s1).ct)) 185 #[J Z r.c,J V r.a];have hsz:(w9.setCell ⟨↑w,14,G⟩ (J AM (St.up s1).ct)).heap.size=w9.heap.size:=EX;rw[hsz] at bt;generalize(w9.setCell ⟨w.heap.size,14,G⟩ (J AM (St.up s1).ct)).alloc (.cells #[J Z r.c,J V r.a] 185)=w10 at*;have t0:=bt.cell 0;have t1:=bt.cell 1;have tl:=bt.lt;have b10:=L10.out.b;have hul:(St.up s1).d.length≤100000∧(St.up s1).r.length≤100000:=by have:=hk1.2.1;have:=hk1.2.2.1;exact⟨by show s1.d.length≤_;omega,by show s1.r.length≤_;omega⟩
    have Ht:=T (trap_any w10 0 (St.up s1) X Y c d L10.out.st hul.1 hul.2 r.c r.a hca.1.1 O hca.2.1 hca.2.2);clear k14 kl y14 fs fa bt hsz hul L9 B69;go_wp2_with (first
     |((with_reducible refine wpL_lq b10 AP sz16 ?_)))
    refine Ay Ht ?_;rintro e w11 ⟨A6,c6,B6',d6,rfl,h6,ne6,f6⟩;have b11:=B610.out.fr f6 id;have o6:=oneB ((St.up s1).trap r.c r.a) A6 B6' c6 d6 0 Aa;have HG:=T (A9 h6 (A9 ne6 f6));have hl6:w.heap.size+1<w10.heap.size:=B610.out.lt;clear h6 ne6 f6 b10 Ht t0 t1 tl;go_wp2_with (((with_reducible refine wpL_sq (cs':=begc ((St.up s1).trap r.c r.a) (U A6 ((St.up s1).trap r.c r.a).d.length c6) (U B6' ((St.up s1).trap r.c r.a).r.length d6) 0 Aa) b11 szB o6 ?_);intro W7 b7 f7;have HB7:=T b7;have HF7:=T f7;clear b7 f7 b11 o6));refine Bf (CJ rfl _ _ (w.heap.size+1) 150 _ _ rfl HB7.out Tryz.underlying150 rfl szB) rfl ?_;obtain⟨h6,ne6,f6⟩:=HG.out;rw[HR.out,An hc];exact⟨A6,c6,B6',d6,rfl,L10.out.give h6 (λk e1 e2=>ne6 k (ab_own h6.d e1) (ab_own h6.r e2)) f6 rfl hl6 HF7.out⟩
end Bl
namespace Mu
open Fm Nt Rm By Wk
theorem place_fetch{u:Us}{s:Sp}{va:Int}(hO:u.Ok)(r0:0≤s.rt)(v0:0≤va)(v1:va≤4294967295)(hc:(placeR u s va 1).c=0):0≤(placeR u s va 1).p∧(placeR u s va 1).p%64=va%64∧(placeR u s va 1).p<((placeR u s va 1).u.m.n:Int)*64:=by
 unfold placeR at hc⊢;by_cases h2:thereB u.m va 1=Af;·rw[An h2] at hc⊢;refine⟨v0,rfl, ?_⟩;simpa[thereB] using h2
 ·rw[Ae h2] at hc;exact absurd hc (by show ¬(10:Int)=0;omega)
end Mu
namespace Bl
open Fm Nt Rm By Wk Gs Tr Gm
variable{g:Mc}
theorem begin_facts{s:St}(hk:Rk s)(hU:g.u.Ok)(hh:s.ha=Aa):Rk (beginR s g).s∧(beginR s g).g.b.outs=g.b.outs∧((beginR s g).on=Af→0≤(beginR s g).p∧(beginR s g).p%64=(beginR s g).s.pc%64∧(beginR s g).p<((beginR s g).g.b.ms.n:Int)*64∧(beginR s g).s.ha=Aa):=by
 unfold beginR;rw[Ae (by simp[hk.right,hh])];dsimp only;have h1:Rk (irqS s ⟨g.b.tick s.ct,g.l⟩):=irq_rk hk _;have ho:(g.b.tick s.ct).outs=g.b.outs:=by
  unfold Bs.Sb.tick;split<;>rfl
 have hha:(irqS s ⟨g.b.tick s.ct,g.l⟩).ha=Aa:=by
  unfold irqS;split;·exact hh
  ·exact hh
 have hca:=place_ca (u:=(⟨g.b.tick s.ct,g.l⟩:Mc).u) (sp:=spS (irqS s ⟨g.b.tick s.ct,g.l⟩)) (k:=1) h1.1.pc.1 h1.1.pc.2;split
 ·rename_i hc
  exact⟨h1.up.trap _ _ ⟨hca.1.1,by have:=hca.1.2;omega⟩ hca.2,ho,λe=>Bool.noConfusion e⟩
 ·rename_i hc
  have hc:(Mu.placeR (⟨g.b.tick s.ct,g.l⟩:Mc).u (spS (irqS s ⟨g.b.tick s.ct,g.l⟩)) (irqS s ⟨g.b.tick s.ct,g.l⟩).pc 1).c=0:=EB;have hU2:(⟨g.b.tick s.ct,g.l⟩:Mc).u.Ok:=by
   have e:(g.b.tick s.ct).ms=g.b.ms:=by
    unfold Bs.Sb.tick;split<;>rfl
   show Mu.Us.Ok ⟨(g.b.tick s.ct).ms,g.l⟩;rw[e];exact hU
  obtain⟨q0,q1,q2⟩:=Mu.place_fetch hU2 h1.1.rt.1 h1.1.pc.1 h1.1.pc.2 hc;exact⟨h1,ho,λ_=>⟨q0,q1,q2,hha⟩⟩
theorem rest_outs: ∀(k:Nat) (s:St) (p page:Int) (g:Mc),(restR s p page g k).g.b.outs.length≤g.b.outs.length+k
 |0,s,p,page,g=>AE _
 |k+1,s,p,page,g=>by
  rw[restR]
  cases fetchR g.b.ms p with
  |none=>exact Nat.le_add_right _ _
  |some x=>
   obtain⟨i,n⟩:=x;have h:=do_outs s i g;dsimp only;split;·have:=rest_outs k (doR s i g).s ((p+(n:Int))%4294967296) page (doR s i g).g;omega
   ·show(doR s i g).g.b.outs.length≤_;omega
theorem block_outs(s:St)(g:Mc)(hk:Rk s)(hU:g.u.Ok)(hh:s.ha=Aa):(blockR s g).g.b.outs.length≤g.b.outs.length+8:=by
 have h:=(begin_facts (g:=g) hk hU hh).2.1;unfold blockR;split;·have:=rest_outs 8 (beginR s g).s (beginR s g).p ((beginR s g).p/64) (beginR s g).g;rw[h] at this;exact this
 ·show(beginR s g).g.b.outs.length≤_;rw[h];omega
theorem plain_rk{s:St}(hk:Rk s)(hO:g.b.Ok)(hU:g.u.Ok){i:Ins}(hc:check s i=0)(hp:plainB i.op=Af)(hn:Bd i.n):Rk (plainS s i):=by
 have h:=do_rk hk hO hU i hn hc;rwa[do_plain s i g hc hp] at h
theorem plains_rk(hO:g.b.Ok)(hU:g.u.Ok): ∀(l:List Ins) (s c:St),Rk s→(∀i∈l,plainB i.op=Af∧0≤i.n∧i.n≤4294967295)→plainAll s l=I c→Rk c
 |[],s,c,hk,_,h=>by
  have h:=IK;exact h▸hk
 |i::l,s,c,hk,hl,h=>by
  rw[plainAll] at h;by_cases hc:check s i=0;·rw[An hc] at h;exact plains_rk hO hU l (plainS s i) c (plain_rk hk hO hU hc (hl i AB).1 (hl i AB).2) (λj hj=>hl j Dh) h
  ·rw[Ae hc] at h;cases h
theorem behind_law{s c:St}{p:Int}{g2:Mc}{n n2:Nat}{en:Bool}(hk:Rk s)(hO:g.b.Ok)(hU:g.u.Ok)(p0:0≤p)(p1:p<(g.b.ms.n:Int)*64)(hn:g.b.ms.n≤64)(hpc:s.pc%64=p%64)(ha:s.ha=Aa)(hok:okR s p (p/64) g 8)(h:(n=0∧c=s∧g2=g)∨ ∃l bs,n=l.length∧Plr l bs∧plainAll s l=I c∧g2=g.calm∧bs<+:pageL g.b.ms p∧n2=bs.length∧en=endsB (l.getLastD ⟨0,0⟩).op):∃sz m:Nat,(if(n:Int)=0 then(0:Int) else(n2:Int))=sz∧(8:Int) -n=m∧m≤8∧sz≤64∧n≤8∧Rk c∧c.ha=Aa∧g2.b.outs=g.b.outs∧restR s p (p/64) g 8=(if(en&&decide ((n:Int)>0))|| !decide (c.pc/64=s.pc/64) then⟨c,g2⟩ else restR c (p+sz) ((p+sz)/64) g2 m)∧(((en&&decide ((n:Int)>0))|| !decide (c.pc/64=s.pc/64))=Aa→okR c (p+sz) ((p+sz)/64) g2 m):=by
 rcases h with⟨rfl,rfl,rfl⟩|⟨l,bs,rfl,hr,hc,rfl,hpre,rfl,rfl⟩
 ·refine⟨0,8,rfl,O,AE _,O,O,hk,ha,rfl, ?_,λ_=>?_⟩;·simp
  ·simpa using hok
 ·obtain⟨e1,e2⟩:=do_law hr hc hpre p0 p1 hn hk.1.pc.1 hk.1.pc.2 hpc ha;have hpos:0<l.length:=CP.2 hr.ne;have h8:=hr.h8;have hlen:bs.length≤64:=by
   have:=hpre.length_le;rw[Ig] at this;omega
  refine⟨bs.length,8 -l.length,Ae O,O,O,hlen,h8,plains_rk hO hU l s c hk (λi hi=>⟨(hr.all i hi).2.1,(hr.all i hi).2.2⟩) hc,e2,rfl, ?_,λhq=>?_⟩;·rw[e1,show decide ((l.length:Int)>0)=Af by simp;omega,Bool.and_true]
  ·rw[show decide ((l.length:Int)>0)=Af by simp;omega,Bool.and_true] at hq;exact do_lawO hr hc hpre p0 p1 hn hk.1.pc.1 hk.1.pc.2 hpc ha hok hq
end Bl
namespace Gm
open Fm Nt Rm By Wk Gs
variable{m:Ms}{p:Int}{k:Nat}
theorem KM(p0:0≤p)(hk:(p%64).toNat+k≤64): ∃rest,pageL m p=(Bm k).map (λj=>m.mem (p.toNat+j))++rest∧rest.length=64 -(p%64).toNat -k:=by
 refine⟨(Bm (64 -(p%64).toNat -k)).map (λj=>m.mem (p.toNat+(k+j))), ?_,AB⟩;unfold pageL;rw[show 64 -(p%64).toNat=k+(64 -(p%64).toNat -k) by omega,List.range_add,Df,D8];congr 1;rw[show k+(64 -(p%64).toNat -k) -k=64 -(p%64).toNat -k by omega];rfl
theorem fetch1(p0:0≤p)(p1:p<(m.n:Int)*64){o:Int}(h0:m.mem p.toNat=o)(hs:sizeI o=1):fetchR m p=I (⟨o,0⟩,1):=by
 obtain⟨r,e,l⟩:=KM (m:=m) p0 (k:=1) O;unfold fetchR;rw[An p1,e];simp[DB,h0,decI,hs,leV];omega
theorem fetch2(p0:0≤p)(p1:p<(m.n:Int)*64)(p2:p%64≤62){o b:Int}(h0:m.mem p.toNat=o)(h1:m.mem (p.toNat+1)=b)(hs:sizeI o=2):fetchR m p=I (⟨o,b⟩,2):=by
 obtain⟨r,e,l⟩:=KM (m:=m) p0 (k:=2) O;unfold fetchR;rw[An p1,e];simp[DB,h0,h1,decI,hs,leV];omega
theorem fetch5(p0:0≤p)(p1:p<(m.n:Int)*64)(p2:p%64≤59){b0 b1 b2 b3:Int}(h0:m.mem p.toNat=2)(h1:m.mem (p.toNat+1)=b0)(h2:m.mem (p.toNat+2)=b1)(h3:m.mem (p.toNat+3)=b2)(h4:m.mem (p.toNat+4)=b3){n:Int}(hn:b0+256*(b1+256*(b2+256*b3))=n):fetchR m p=I (⟨2,n⟩,5):=by
 subst hn;obtain⟨r,e,l⟩:=KM (m:=m) p0 (k:=5) O;have hs:sizeI 2=5:=Ak;unfold fetchR;rw[An p1,e];simp[DB,h0,h1,h2,h3,h4,decI,hs,leV];omega
variable{s:St}{g:Mc}
theorem rest_go{page:Int}{n:Nat}{i:Ins}{r:Rz}(hf:fetchR g.b.ms p=I (i,n))(hd:doR s i g=r)(hn:nextB_ i r page s.pc=Af){x:Sg}(h:restR r.s ((p+(n:Int))%4294967296) page r.g k=x):restR s p page g (k+1)=x:=by
 rw[restR,hf];dsimp only;rw[hd,An hn,h]
theorem rest_end{page:Int}{n:Nat}{i:Ins}{r:Rz}(hf:fetchR g.b.ms p=I (i,n))(hd:doR s i g=r)(hn:nextB_ i r page s.pc=Aa):restR s p page g (k+1)=⟨r.s,r.g⟩:=by
 rw[restR,hf];dsimp only;rw[hd,Ae (by rw[hn];decide)]
theorem So(hr:s.right=Af)(hh:s.ha=Aa)(ht:Tm.dueB g.b.tm s.ct=Aa)(hi:(Iq.nextB g.b.p g.b.m&&s.ie)=Aa)(hp:s.pg=Aa)(hm:s.pc<(g.b.ms.n:Int)*64):beginR s g=⟨s,s.pc,Af,g⟩:=by
 unfold beginR;rw[Ae (by simp[hr,hh])];have e:g.b.tick s.ct=g.b:=by unfold Bs.Sb.tick;rw[ht];rfl
 rw[e];dsimp only;have e2:irqS s ⟨g.b,g.l⟩=s:=by unfold irqS;rw[hi];rfl
 rw[e2];have e3:Mu.placeR (⟨g.b,g.l⟩:Mc).u (spS s) s.pc 1=⟨s.pc,0,0,g.u⟩:=by
  unfold Mu.placeR;rw[An (by unfold Mu.thereB;simp[Mc.u,hm])]
 rw[e3];rfl
theorem VR(hr:s.right=Af)(hh:s.ha=Aa)(ht:Tm.dueB g.b.tm s.ct=Aa)(hi:(Iq.nextB g.b.p g.b.m&&s.ie)=Aa)(hp:s.pg=Aa)(hm:s.pc<(g.b.ms.n:Int)*64){x:Sg}(h:restR s s.pc (s.pc/64) g 8=x):blockR s g=x:=by
 unfold blockR;rw[So hr hh ht hi hp hm];exact h
theorem puts_mem(m:Ms)(zs:List Int): ∀(k:Nat),k≤zs.length→ ∀i,(m.puts 0 zs k).mem i=(if i<k then zs.getD i 0 else m.mem i)∧(m.puts 0 zs k).n=m.n:=by
 intro k
 induction k with
 |zero=>intro _ i;exact⟨by simp[Ms.puts],rfl⟩
 |succ k ih=>
  intro hk i;obtain⟨h1,h2⟩:=ih O i;refine⟨?_,h2⟩;show updI (m.puts 0 zs k).mem (0+k) (zs.getD k 0) i=_;unfold updI;by_cases e:i=0+k;·rw[An e,An O,e,Bn]
  ·rw[Ae e,h1];by_cases e2:i<k;·rw[An e2,An O]
   ·rw[Ae e2,Ae O]
theorem load_mem(n:Nat)(zs:List Int)(h:zs.length≤n*64):(∀i,((Ms.new n).load zs).mem i=zs.getD i 0)∧((Ms.new n).load zs).n=n:=by
 have h1:=puts_mem (Ms.new n) zs zs.length (AE _);have e:=Sq;rw[e];refine⟨λi=>?_,(h1 0).2⟩;rw[(h1 i).1];by_cases q:i<zs.length;·rw[An q]
 ·rw[Ae q,AN,De O];rfl
end Gm
namespace Gm
open Fm Nt Rm By Wk Gs
theorem top_two(l:List Int)(v a:Int):top1 (l++[v,a])=a∧top2 (l++[v,a])=v∧(l++[v,a]).dropLast.dropLast=l:=by
 have e:l++[v,a]=(l++[v])++[a]:=AB;rw[e];refine⟨Sr, ?_, ?_⟩;·unfold top2;rw[Do];simp[Dg]
 ·rw[Do,Do]
theorem top_one(l:List Int)(a:Int):top1 (l++[a])=a∧(l++[a]).dropLast=l:=⟨Sr,Do⟩
variable{s:St}{g:Mc}
theorem Ss{l:List Int}{v at_:Int}(hd:s.d=l++[v,at_])(hl:l.length≤14)(hr:s.r.length≤16)(hp:s.pg=Aa)(h1:32768≤at_)(h2:at_<33024)(h4:at_%4=0)(hb:Bs.loadB at_=Af):doR s ⟨49,0⟩ g=⟨{s.next ⟨49,0⟩ with d:=l},Aa,Af,turnN (g.calm.b.store at_ v).ms 64,⟨g.calm.b.store at_ v,g.l⟩⟩:=by
 obtain⟨t1,t2,t3⟩:=top_two l v at_;show(⟨{s.next ⟨49,0⟩ with d:=s.d.dropLast.dropLast},Aa,Af,turnN (g.calm.b.store (top1 s.d) (top2 s.d)).ms 64,⟨g.calm.b.store (top1 s.d) (top2 s.d),g.l⟩⟩:Rz)=_;rw[hd,t1,t2,t3]
variable{n:Int}
theorem do_csrw{l:List Int}{v:Int}(hd:s.d=l++[v])(hl:l.length≤15)(hr:s.r.length≤16)(hs:s.su=Af)(hb:setB n=Af):doR s ⟨67,n⟩ g=⟨setS {s.next ⟨67,n⟩ with d:=l} n v,Aa,Aa,[],g.calm⟩:=by
 obtain⟨t1,t2⟩:=top_one l v;show(⟨setS {s.next ⟨67,n⟩ with d:=s.d.dropLast} n (top1 s.d),Aa,Aa,turnN g.calm.b.ms 64,g.calm⟩:Rz)=_;rw[hd,t1,t2];congr 1
theorem do_csrr(hl:s.d.length≤15)(hr:s.r.length≤16)(hs:s.su=Af)(hb:getB n=Af):doR s ⟨66,n⟩ g=⟨{s.next ⟨66,n⟩ with d:=s.d++[getV {s.next ⟨66,n⟩ with ct:=s.ct} n]},Aa,Aa,[],g.calm⟩:=Su
theorem do_halt(hl:s.d.length≤16)(hr:s.r.length≤16)(hs:s.su=Af):doR s ⟨69,0⟩ g=⟨{s.next ⟨69,0⟩ with ha:=Af},Aa,Aa,[],g.calm⟩:=Su
theorem RunTo.at{j:Nat}(h:RunTo n s g j)(m:Nat)(hg: ∀i,i<m→goB s.ct n (blkN i s g).s=Af)(hs:goB s.ct n (blkN m s g).s=Aa):j=m:=by
 rcases Nat.lt_trichotomy j m with q|q|q;·have:=hg j q;rw[h.stop] at this;cases this
 ·exact q
 ·have:=h.go m q;rw[hs] at this;cases this
end Gm
namespace Gm
open Fm Nt Rm By Wk Gs
def RR(s:St)(p page:Int)(g:Mc)(k:Nat)(x:Sg):Prop:=restR s p page g k=x∧okR s p page g k
variable{s:St}{p page:Int}{g:Mc}{k:Nat}{i:Ins}{r:Rz}{x:Sg}
theorem rr_go{n:Nat}(hf:fetchR g.b.ms p=I (i,n))(hu:Us s i)(hd:doR s i g=r)(hn:nextB_ i r page s.pc=Af)(h:RR r.s ((p+(n:Int))%4294967296) page r.g k x):RR s p page g (k+1) x:=by
 subst hd;exact⟨rest_go hf rfl hn h.1,i,n,hf,hu,λ_=>h.2⟩
theorem rr_end{n:Nat}(hf:fetchR g.b.ms p=I (i,n))(hu:Us s i)(hd:doR s i g=r)(hn:nextB_ i r page s.pc=Aa):RR s p page g (k+1) ⟨r.s,r.g⟩:=by
 subst hd;exact⟨rest_end hf rfl hn,i,n,hf,hu,λh=>absurd (hn.symm.trans h) Ak⟩
theorem rr_plain{n:Nat}(hf:fetchR g.b.ms p=I (i,n))(hu:Us s i)(hp:plainB i.op=Af)(he:endsB i.op=Aa)(hh:s.ha=Aa)(hq:((s.pc+sizeI i.op)%4294967296)/64=s.pc/64){s':St}(hs:plainS s i=s'){q:Int}(hpq:(p+(n:Int))%4294967296=q)(h:RR s' q page g.calm k x):RR s p page g (k+1) x:=by
 subst hs hpq;refine rr_go hf hu (do_plain s i g hu.ch hp) ?_ h;unfold nextB_;have e1:=plain_ha s i;have e2:=plain_pc s i hp he;simp[he,e1,hh,e2,hq]
theorem rr_jump{n:Nat}(hf:fetchR g.b.ms p=I (i,n))(hu:Us s i)(hp:plainB i.op=Af)(he:endsB i.op=Af){s':St}(hs:plainS s i=s'):RR s p page g (k+1) ⟨s',g.calm⟩:=by
 subst hs;refine rr_end hf hu (do_plain s i g hu.ch hp) ?_;unfold nextB_;simp[he]
theorem rr_ends{n:Nat}(hf:fetchR g.b.ms p=I (i,n))(hu:Us s i)(hd:doR s i g=r)(he:(endsB i.op||r.tr||r.dv||r.s.ha)=Af):RR s p page g (k+1) ⟨r.s,r.g⟩:=by
 refine rr_end hf hu hd ?_;unfold nextB_;rw[Bool.or_eq_true] at he;rcases he with he|he;·simp only[Bool.or_eq_true] at he;rcases he with(he|he)|he<;>simp[he]
 ·simp[he]
def BB(s:St)(g:Mc)(x:Sg):Prop:=blockR s g=x∧okB s g
theorem block_rr(hr:s.right=Af)(hh:s.ha=Aa)(ht:Tm.dueB g.b.tm s.ct=Aa)(hi:(Iq.nextB g.b.p g.b.m&&s.ie)=Aa)(hp:s.pg=Aa)(hm:s.pc<(g.b.ms.n:Int)*64)(h:RR s s.pc (s.pc/64) g 8 x):BB s g x:=by
 refine⟨VR hr hh ht hi hp hm h.1,hp,λ_=>?_⟩;rw[So hr hh ht hi hp hm];exact h.2
theorem us_p(hc:check s i=0)(hp:s.pg=Aa)(ho:usedB i.op=Af:=by first|decide|(dsimp only;decide))(h1:i.op≠49:=by first|decide|(dsimp only;decide))(h2:i.op≠67:=by first|decide|(dsimp only;decide)):Us s i:=⟨ho,hp,λe=>absurd e h1,λe=>absurd e h2,hc⟩
theorem us_st{l:List Int}{v at_:Int}(hd:s.d=l++[v,at_])(hl:l.length≤14)(hr:s.r.length≤16)(hp:s.pg=Aa)(h1:devOk at_=Af):Us s ⟨49,0⟩:=by
 obtain⟨t1,t2,t3⟩:=top_two l v at_;have hlen:s.d.length=l.length+2:=by rw[hd];simp
 refine⟨rfl,hp,λ_=>by rw[hd,t1];exact h1,λe=>absurd e Ak, ?_⟩;simp[check,rightI,sizeI,shortB,knownB,superB,Gs.takeD,Gs.takeR,Gs.putD,Gs.putR,hlen];omega
theorem us_csrw{l:List Int}{v n:Int}(hd:s.d=l++[v])(hl:l.length≤15)(hr:s.r.length≤16)(hs:s.su=Af)(hp:s.pg=Aa)(hn:n=0∨n=3):Us s ⟨67,n⟩:=by
 have hlen:s.d.length=l.length+1:=by rw[hd];simp
 refine⟨rfl,hp,λe=>absurd e (by show ¬(67:Int)=49;decide),λ_=>by show n≠1∧n≠2;omega, ?_⟩;rcases hn with rfl|rfl
 all_goals
  simp[check,rightI,sizeI,shortB,knownB,superB,setB,Gs.takeD,Gs.takeR,Gs.putD,Gs.putR,hlen,hs];omega
theorem us_csrr{n:Int}(hl:s.d.length≤15)(hr:s.r.length≤16)(hs:s.su=Af)(hp:s.pg=Aa)(hb:getB n=Af):Us s ⟨66,n⟩:=by
 have hnb:n≤255:=by
  unfold getB at hb;simp at hb;omega
 refine us_p ?_ hp rfl (by show ¬(66:Int)=49;decide) (by show ¬(66:Int)=67;decide);simp[check,rightI,sizeI,shortB,knownB,superB,Gs.takeD,Gs.takeR,Gs.putD,Gs.putR,hs,hb,hnb];omega
theorem us_halt(hl:s.d.length≤16)(hr:s.r.length≤16)(hs:s.su=Af)(hp:s.pg=Aa):Us s ⟨69,0⟩:=by
 refine us_p ?_ hp;simp[check,rightI,sizeI,shortB,knownB,superB,Gs.takeD,Gs.takeR,Gs.putD,Gs.putR,hs];omega
end Gm
namespace Gm
open Fm Nt Rm By Wk Gs
def mc0(n:Nat)(bs ds:List Int):Mc:=⟨Bs.Sb.new ((Ms.new n).load bs) ds,Mu.noL⟩
theorem mc0_mem{n:Nat}{bs:List Int}(ds:List Int)(h:bs.length≤n*64):(∀i,(mc0 n bs ds).b.ms.mem i=bs.getD i 0)∧(mc0 n bs ds).b.ms.n=n:=load_mem n bs h
def awakeL:List Int:=[2,72,0,0,0,2,16,128,0,0,49,69]
theorem awake_1: ∃g,BB St.new (mc0 1 awakeL []) ⟨{St.new with pc:=11,ct:=3},g⟩∧g.b={(mc0 1 awakeL []).b with outs:=[72],ms:=(mc0 1 awakeL []).b.ms.calm}∧g.l=Mu.noL:=by
 obtain⟨hm,hn⟩:=mc0_mem (n:=1) (bs:=awakeL) [] Ak;obtain⟨g,hg⟩:=Az (mc0 1 awakeL []);have hb:g.b.tm=0∧g.b.p=0∧g.b.outs=[]∧g.l=Mu.noL:=by rw[←hg];exact⟨rfl,rfl,rfl,rfl⟩
 rw[hg] at hm hn⊢;clear hg;have hf1:fetchR g.b.ms 0=I (⟨2,72⟩,5):=fetch5 Ak (by rw[hn];decide) Ak (hm 0) (hm 1) (hm 2) (hm 3) (hm 4) Ak;have hf2:fetchR g.calm.b.ms 5=I (⟨2,32784⟩,5):=fetch5 Ak (by show(5:Int)<(g.b.ms.n:Int)*64;rw[hn];decide) Ak (hm 5) (hm 6) (hm 7) (hm 8) (hm 9) Ak;have hf3:fetchR g.calm.calm.b.ms 10=I (⟨49,0⟩,1):=fetch1 Ak (by show(10:Int)<(g.b.ms.n:Int)*64;rw[hn];decide) (hm 10) Ak;have h3:RR {St.new with pc:=10,d:=[72,32784],ct:=2} 10 0 g.calm.calm 6 ⟨{St.new with pc:=11,ct:=3},⟨g.calm.calm.calm.b.store 32784 72,g.l⟩⟩:=rr_ends hf3 (us_st (l:=[]) (v:=72) (at_:=32784) rfl Ak Ak rfl Ak) (Ss (l:=[]) (v:=72) (at_:=32784) rfl Ak Ak rfl Ak Ak Ak Ak) rfl;have h2:=rr_plain (s:={St.new with pc:=5,d:=[72],ct:=1}) (page:=0) hf2 (us_p Ak rfl) Ak Ak rfl Ak rfl rfl h3;have h1:=rr_plain (s:=St.new) (page:=0) hf1 (us_p Ak rfl) Ak Ak rfl Ak rfl rfl h2;refine⟨_,block_rr Ak rfl (by rw[hb.1];rfl) (by rw[hb.2.1];simp[Iq.nextB]) rfl (by rw[hn];decide) h1, ?_,hb.2.2.2⟩;have e:Bs.offO 32784=16:=Ak;dsimp only;unfold Bs.Sb.store Bs.Sb.storeO;rw[e];simp only[Mc.calm,hb];rfl
theorem awake_2{g:Mc}(hb:g.b={(mc0 1 awakeL []).b with outs:=[72],ms:=(mc0 1 awakeL []).b.ms.calm}): ∃g',BB {St.new with pc:=11,ct:=3} g ⟨{St.new with pc:=12,ct:=4,ha:=Af},g'⟩∧g'.b.outs=[72]:=by
 obtain⟨hm,hn⟩:=mc0_mem (n:=1) (bs:=awakeL) [] Ak;have hf1:fetchR g.b.ms 11=I (⟨69,0⟩,1):=by
  rw[hb];exact fetch1 Ak (by show(11:Int)<((mc0 1 awakeL []).b.ms.n:Int)*64;rw[hn];decide) (hm 11) Ak
 have h1:RR {St.new with pc:=11,ct:=3} 11 0 g 8 ⟨{St.new with pc:=12,ct:=4,ha:=Af},g.calm⟩:=rr_ends hf1 (us_halt Ak Ak rfl rfl) (do_halt Ak Ak rfl) rfl;refine⟨_,block_rr Ak rfl (by rw[hb];rfl) (by rw[hb];rfl) rfl (by rw[hb];show(11:Int)<((mc0 1 awakeL []).b.ms.n:Int)*64;rw[hn];decide) h1, ?_⟩;show g.b.outs=_;rw[hb]
theorem VS{j:Nat}(h:RunTo 9 St.new (mc0 1 awakeL []) j):(blkN j St.new (mc0 1 awakeL [])).s.ct=4∧(blkN j St.new (mc0 1 awakeL [])).s.ha=Af∧(blkN j St.new (mc0 1 awakeL [])).g.b.outs=[72]:=by
 obtain⟨g1,e1,hb1,_⟩:=awake_1;obtain⟨g2,e2,ho⟩:=awake_2 hb1;have b1:=Sy;have b2:=Sz;obtain rfl:=h.at 2 (λi hi=>by
  match i,hi with
  |0,_=>rfl
  |1,_=>rw[b1];rfl) (by rw[b2];rfl)
 rw[b2];exact⟨rfl,rfl,ho⟩
theorem awake_ok(k:Nat)(hk: ∀i,i≤k→goB 0 9 (blkN i St.new (mc0 1 awakeL [])).s=Af):okB (blkN k St.new (mc0 1 awakeL [])).s (blkN k St.new (mc0 1 awakeL [])).g:=by
 obtain⟨g1,e1,hb1,_⟩:=awake_1;obtain⟨g2,e2,ho⟩:=awake_2 hb1;have b1:=Sy;have b2:=Sz
 match k with
 |0=>exact e1.2
 |1=>rw[b1];exact e2.2
 |k+2=>
  have:=hk 2 O;rw[b2] at this
  cases this
end Gm
namespace Bl
open Fm Nt Rm By Wk Gs Bs Mu Sv Gm Gc Rn
theorem fetch_bd{w:Ac}{P:AG}{a:Ab}{A:Au}{g:Mc}(h:Mch w P a A g){p:Int}(p0:0≤p){i:Ins}{n:Nat}(e:fetchR g.b.ms p=I (i,n)):(0≤i.n∧i.n≤4294967295)∧1≤n∧n≤5:=by
 unfold fetchR at e;by_cases hlt:p<(g.b.ms.n:Int)*64
 ·rw[An hlt] at e;have hM:Rm.Mem w a.am g.b.ms:=by have:=h.un.M;rw[h.am] at this;exact this
  have hb: ∀z∈pageL g.b.ms p,0≤z∧z<256:=λz hz=>by
   unfold pageL at hz;obtain⟨k,hk,rfl⟩:=Bo.1 hz;have:=List.mem_range.1 hk;exact hM.bd _ O
  exact⟨(PB e hb).2,(dec_enc e).2.2.2⟩
 ·rw[Ae hlt] at e;cases e
theorem VY(s:St)(D R:As)(tr dv:Bool)(pg:As): ∀j,j<(stc s D R).size→(resc s D R tr dv pg)[j]?=(stc s D R)[j]?:=NN
end Bl
end Go.Proofs.YtpmlgdopfafcgaaGreatDoor
