import Derived.Test.YtdfegdoeebaagaaGreatDoorX43
open Go.Value renaming slice→Z,int→J,bool→Ap,agg→A9,oneCell'→Ir
open Option renaming some→I,none→G
open Go.IntKind renaming u32→V,u8→AB,u64→AP
open Go renaming World→Aa,Value→As,Calls→At,bodyPost_ret→Bt,wp_region_held_drew→C7,Ending→AY
open Bool renaming false→Ac,true→Ag
open Go.Ending renaming returned→Ax
open And renaming intro→Ay
open Nat renaming le_refl→AD,lt_of_lt_of_le→Bg,le_trans→Bf,zero_le→Bj
open Go.AllReadyH renaming nil→CB
set_option linter.all false
set_option maxHeartbeats 40000000
set_option maxRecDepth 1000000
open Go Go.RowKit
namespace Go.Proofs.YtdfegdoeebaagaaGreatDoor
namespace Bl
open Fm Nt Rm By Wk Gs Bs Mu Sv Gm Gc Rn Eg
abbrev vwc(s:St)(X Y M AU Bw D:As)(p m:Int):AO:=#[J V s.pc,X,Y,J V s.fl,Ap s.su,Ap s.pg,Ap s.ie,J V s.rt,J V s.ve,J V s.ep,J V s.ca,J V s.ad,Ap s.es,Ap s.ei,J AP s.ct,Ap s.ha,M,AU,Bw,D,J V p,J V m,Ap Ac]
abbrev vwz:AO:=vwc ⟨0,[],[],0,Ac,Ac,Ac,0,0,0,0,0,Ac,Ac,0,Ac⟩ (Z G 0 0) (Z G 0 0) (Z G 0 0) (Z G 0 0) (Z G 0 0) (Z G 0 0) 0 0
theorem szV:(Tryz.prog.info? 41).map (·.size)=I 23:=AL
theorem one23(s:St)(X Y M AU Bw D:As)(p m:Int)(h1:X.oneCell'=Ag)(h2:Y.oneCell'=Ag)(h3:M.oneCell'=Ag)(h4:AU.oneCell'=Ag)(h5:Bw.oneCell'=Ag)(h6:D.oneCell'=Ag):(vwc s X Y M AU Bw D p m).all (·.oneCell')=Ag:=by
 simp[vwc,Ir,h1,h2,h3,h4,h5,h6] at*;exact⟨h1,h2,h3,h4,h5,h6⟩
structure Seen(w:Aa)(gg:Nat)(a:Ab)(s:St)(g:Mc):Prop where
 c0:w.cell? ⟨gg,0,G⟩=I ↑a.gB
 c1:w.cell? ⟨gg,1,G⟩=I ↑a.am.gm
 c22:w.cell? ⟨gg,22,G⟩=I (Ap Ac)
 lt:gg<↑w
 bus: ∃F,Bus w F a g.b
 st: ∀W,Fr Aj w W→At Tryz.prog 14 #[↑gg] W (J8 W s)
 ou:g.b.outs.length≤1000000
variable{w:Aa}{gg:Nat}{a:Ab}{s:St}{g:Mc}
theorem Gt.seen{K:AE}{A:Au}{ge:Nat}{e:Eo}(h:Gt w K gg a A ge e s g)(ho:g.b.outs.length≤1000000):Seen w gg a s g:=by
 have h0:=h;obtain⟨gp,X,c,Y,d,hb,hS,hne,P,p1,p2,p3,p4,hM⟩:=h.ex;obtain⟨F,hbu,_⟩:=hM.bus;exact⟨hb.cell 0,hb.cell 1,hb.cell 22,hb.lt,⟨F,hbu⟩,λW f=>Sy W K gg a A ge e s g (h0.fr0 f),ho⟩
theorem Gt0.seen{K:AE}{A:Au}(h:Gt0 w K gg a A s g)(ho:g.b.outs.length≤1000000):Seen w gg a s g:=by
 have h0:=h;obtain⟨gp,X,c,Y,d,hb,hS,hne,P,p1,p3,p4,hM⟩:=h.ex;obtain⟨F,hbu,_⟩:=hM.bus;exact⟨hb.cell 0,hb.cell 1,hb.cell 22,hb.lt,⟨F,hbu⟩,λW f=>jF W K gg a A s g (h0.fr0 f),ho⟩
def Bts(lo:Nat)(w:Aa)(n:Nat)(l:List Int)(v:As):Prop:= ∃Bh c,v=Z Bh n c∧IntsAt AB w ↑w Bh n l∧(∀b off,Bh=I ⟨b,off,G⟩→lo≤b)∧n≤c
variable{w':Aa}
theorem Bts.fr{S:AE}{lo n:Nat}{l:List Int}{v:As}(h:Bts lo w n l v)(f:Fr S w w')(hs: ∀k,lo≤k→ ¬S k)(lo2:Nat)(hl:lo2≤lo):Bts lo2 w' n l v:=by
 obtain⟨Bh,c,rfl,⟨h1,h2,h3⟩,h4,h5⟩:=h;refine⟨Bh,c,rfl,⟨h1,h2,λhn=>?_⟩,λb o e=>Bf hl (h4 b o e),h5⟩;obtain⟨b,off,e,hb,hc⟩:=h3 hn;exact⟨b,off,e,Bg hb f.size,λi hi=>f.cell (hc i hi) hb (hs b (h4 b off e))⟩
def Vw(w:Aa)(s:St)(g:Mc)(cs:AO):Prop:=
 ∃X c Y d M AU Bw D,cs=vwc s (Z X s.d.length c) (Z Y s.r.length d) M AU Bw D g.b.p g.b.m∧StV w 0 s (Z X s.d.length c) (Z Y s.r.length d)∧Bts 0 w (g.b.ms.n*64) (lst g.b.ms.mem (g.b.ms.n*64)) M∧Bts 0 w g.b.outs.length g.b.outs AU∧Bts 0 w g.b.ins.length g.b.ins Bw∧Bts 0 w 1024 (lst g.b.d 1024) D
theorem Vw.fr0{cs:AO}(h:Vw w s g cs)(f:Fr Aj w w'):Vw w' s g cs:=by
 obtain⟨X,c,Y,d,M,AU,Bw,D,e,h0,h1,h2,h3,h4⟩:=h;exact⟨X,c,Y,d,M,AU,Bw,D,e,h0.fr0 f,h1.fr f (λ_ _ e=>e) 0 (AD _),h2.fr f (λ_ _ e=>e) 0 (AD _),h3.fr f (λ_ _ e=>e) 0 (AD _),h4.fr f (λ_ _ e=>e) 0 (AD _)⟩
def GivesV(w:Aa)(s:St)(g:Mc)(e:AY)(w':Aa):Prop:= ∃cs,e=Ax (A9 cs)∧Vw w' s g cs∧Fr Aj w w'
def SkV(gg:Nat)(a:Ab)(X:Aa):Prop:=X.cell? ⟨gg,0,G⟩=I ↑a.gB∧X.cell? ⟨gg,1,G⟩=I ↑a.am.gm∧X.cell? ⟨a.gB,0,G⟩=I ↑a.gc∧X.cell? ⟨a.gB,2,G⟩=I ↑a.gk∧X.cell? ⟨a.gB,3,G⟩=I ↑a.gd∧gg<↑X∧a.gB<↑X
theorem SkV.fr{S:AE}{X X':Aa}(h:SkV gg a X)(f:Fr S X X')(h1: ¬S gg)(h2: ¬S a.gB):SkV gg a X':=by
 obtain⟨r0,r1,r2,r3,r4,q0,q1⟩:=h;exact⟨f.cell r0 q0 h1,f.cell r1 q0 h1,f.cell r2 q1 h2,f.cell r3 q1 h2,f.cell r4 q1 h2,Bg q0 f.size,Bg q1 f.size⟩
theorem jL{n c:Nat}{l:List Int}{Bh:Aw}(ho:w'.ownsRow 0 5 1 (Z Bh n c) n (Co.by8 l))(hk: ∀k,(Z Bh n c).ownBlock=I k→w.heap.size≤k)(hb: ∀z∈l,0≤z∧z<256):Bts ↑w w' n l (Z Bh n c):=by
 refine⟨Bh,c,rfl,Bk.own_ints ho (λz hz=>J7 (n:=z) (hb z hz).1 (by have:=(hb z hz).2;omega)),λb off e=>?_, ?_⟩
 ·subst e;rcases ho.2 with⟨e2,_⟩|⟨g',cap,cur,e2,_⟩;·cases e2
  ·injection e2 with e2;injection e2 with e2;injection e2 with e3 e4;subst e3 e4;exact hk _ rfl
 ·rcases ho.2 with⟨e2,_⟩|⟨g',cap,cur,e2,_,_,h5,_⟩;·cases e2;exact AD _
  ·injection e2 with _ _ e3;subst e3;exact h5
theorem vw_end{w1 w2 w3 w4 w5 W9:Aa}{lo gb:Nat}{X Y Z3 Z4:Aw}{c d c3 c4 g5 c5:Nat}(hl:gb<lo)(hl1:lo≤↑w1)(h1:StV w1 lo s (Z X s.d.length c) (Z Y s.r.length d))(h2:Cells w2 ↑w1 5 (g.b.ms.n*64) (λk=> J AB (g.b.ms.mem k)))(hm: ∀k,k<g.b.ms.n*64→0≤g.b.ms.mem k∧g.b.ms.mem k<256)(f2:Fr Aj w1 w2)(h3:Bts ↑w2 w3 g.b.outs.length g.b.outs (Z Z3 g.b.outs.length c3))(f3:Fr Aj w2 w3)(h4:Bts ↑w3 w4 g.b.ins.length g.b.ins (Z Z4 g.b.ins.length c4))(f4:Fr Aj w3 w4)(h5:IntsAt AB w5 ↑w5 (I ⟨g5,0,G⟩) 1024 (lst g.b.d 1024))(h5b:↑w4≤g5)(h5c:1024≤c5)(f5:Fr Aj w4 w5)(f9:Fr (λk=>k=gb) w5 W9):Vw W9 s g (vwc s (Z X s.d.length c) (Z Y s.r.length d) (Z (I ⟨↑w1,0,G⟩) (g.b.ms.n*64) (g.b.ms.n*64)) (Z Z3 g.b.outs.length c3) (Z Z4 g.b.ins.length c4) (Z (I ⟨g5,0,G⟩) 1024 c5) g.b.p g.b.m):=by
 have s2:=f2.size;have s3:=f3.size;have s4:=f4.size;have g2:=(((f3.tr f4).tr f5).none (S:=λk=>k=gb)).tr f9;have g3:=((f4.tr f5).none (S:=λk=>k=gb)).tr f9;have g4:=(f5.none (S:=λk=>k=gb)).tr f9;refine⟨X,c,Y,d,_,_,_,_,rfl, ?_, ?_,h3.fr g3 (λk hk e=>OP) 0 (Bj _),h4.fr g4 (λk hk e=>OP) 0 (Bj _), ?_⟩;·exact(h1.fr ((f2.none (S:=λk=>k=gb)).tr g2) (λk hk q=>by have:=h1.d.ge k hk;have q:k=gb:=q;omega) (λk hk q=>by have:=h1.r.ge k hk;have q:k=gb:=q;omega)).low (Bj _)
 ·have hb:Bts ↑w1 w2 (g.b.ms.n*64) (lst g.b.ms.mem (g.b.ms.n*64)) (Z (I ⟨↑w1,0,G⟩) (g.b.ms.n*64) (g.b.ms.n*64)):=⟨_,_,rfl,(By.cells_ints h2 hm).more h2.lt,λb off e=>by cases e;exact AD _,AD _⟩;exact hb.fr g2 (λk hk e=>OP) 0 (Bj _)
 ·have hb:Bts ↑w4 w5 1024 (lst g.b.d 1024) (Z (I ⟨g5,0,G⟩) 1024 c5):=⟨_,_,rfl,h5,λb off e=>by cases e;exact h5b,h5c⟩;exact hb.fr f9 (λk hk e=>OP) 0 (Bj _)
set_option maxRecDepth 1000000 in
theorem Ta(w:Aa)(gg:Nat)(a:Ab)(s:St)(g:Mc)(h:Seen w gg a s g):At Tryz.prog 12 #[↑gg] w (GivesV w s g):=by
 obtain⟨F,hB⟩:=h.bus;have b2:=AI w 41 vwz;have f1:=(Ao Aj w).alloc (.cells vwz 41);have k22:=f1.cell h.c22 h.lt id;have SK:Hid (SkV gg a (w.alloc (.cells vwz 41))):=T (SkV.fr (S:=λ_=>False) ⟨h.c0,h.c1,hB.b.cell 0,hB.b.cell 2,hB.b.cell 3,h.lt,hB.b.lt⟩ f1 id id);have HL:=T (Ay h.lt hB.b.lt);have HSt:=T (λW (f:Fr Aj w W)=>h.st W f);have HMe:=T (λW (f:Fr Aj w W)=>Rm.all_any W a.am g.b.ms (hB.M.fr0 f));have HOu:=T (λW (f:Fr Aj w W)=>Co.output_any W 0 a.gk F g.b.outs g.b.ins (hB.k.fr f (λ_ _ e=>e)) (by have:=h.ou;omega) 0 (Bj _));have HIn:=T (λW (f:Fr Aj w W)=>Co.input_any W 0 a.gk F g.b.outs g.b.ins (hB.k.fr f (λ_ _ e=>e)) (by have:=hB.ok.len;omega) 0 (Bj _));have HDr:=T (λW (f:Fr Aj w W)=>Dr.dall_any W a.gd a.ge g.b.d (hB.d.fr f id id));have HPe:=T (λW (f:Fr Aj w W)=>Iq.pending_any W a.gc g.b.p g.b.m (hB.c.fr f id));have HMa:=T (λW (f:Fr Aj w W)=>Iq.mask_any W a.gc g.b.p g.b.m (hB.c.fr f id));have HBd:=T (Ay hB.ok.outs hB.ok.ins);have HBm:=T (Mem.bd hB.M);have hkl:=Bg h.lt f1.size;generalize hW0:w.alloc (.cells vwz 41)=W0 at*;have HW:=T hW0;have HB2:=T b2;have HF0:=T f1;have hs1:W0.heap.size=w.heap.size+1:=by rw[←hW0];simp
 have HZ:=T hs1;clear h hB b2 f1 hW0 hs1;go_in;go_upto_region 1 with(fail);rw[HW.out];go_upto_region 3 with(fail);clear k22 hkl;refine C7 (S:=SkV gg a) AL (SK.out) (λhH=>?_);have HF:=T (HF0.out.tr ((Ao Aj W0).drew));have HB:=T (HB2.out.fr ((Ao Aj W0).drew) id);have HZ2:Hid (w.heap.size<W0.drew.heap.size):=T (by show w.heap.size<W0.heap.size;have:=HZ.out;omega);generalize W0.drew=wv at hH HF HB HZ2⊢;refine tgI 1000 ?_
 repeat' first
  |(refine tgR 1 ?_;go_simp;go_wp2_with ((with_reducible refine(HSt.out _ HF.out).mono ?_);rintro e1 w1 ⟨X,c,Y,d,rfl,hs1,_,f1⟩;have HS1:=T (Ay hs1 f1.size);have HF1:=T (HF.out.tr f1);have HB1:=T (HB.out.fr f1 id);have hX:=hH.fr f1 id id;clear hs1 f1);refine hK.out _ _ ?_ (λhH=>?_);(exact hX);clear hK K)
  |(refine tgR 6 ?_;go_simp;go_wp2_with ((with_reducible refine(HMe.out _ HF1.out).mono ?_);rintro e2 w2 ⟨rfl,hm2,f2⟩;have HM2:=T (Ay hm2 f2);have HF2:=T (HF1.out.tr f2);have HB2:=T (HB1.out.fr f2 id);have hX:=hH.fr f2 id id;clear hm2 f2);refine hK.out _ _ ?_ (λhH=>?_);(exact hX);clear hK K)
  |(refine tgR 14 ?_;go_simp;go_wp2_with ((with_reducible refine(HOu.out _ HF2.out).mono ?_);rintro e3 w3 ⟨v3,rfl,ho3,f3,hk3⟩;obtain⟨Z3,c3,rfl⟩:=Co.own_any ho3;have HM3:=T (Ay (jL ho3 hk3 HBd.out.1) f3);have HF3:=T (HF2.out.tr f3);have HB3:=T (HB2.out.fr f3 id);have hX:=hH.fr f3 id id;clear ho3 hk3 f3);refine hK.out _ _ ?_ (λhH=>?_);(exact hX);clear hK K)
  |(refine tgR 22 ?_;go_simp;go_wp2_with ((with_reducible refine(HIn.out _ HF3.out).mono ?_);rintro e4 w4 ⟨v4,rfl,ho4,f4,hk4⟩;obtain⟨Z4,c4,rfl⟩:=Co.own_any ho4;have HM4:=T (Ay (jL ho4 hk4 HBd.out.2) f4);have HF4:=T (HF3.out.tr f4);have HB4:=T (HB3.out.fr f4 id);have hX:=hH.fr f4 id id;clear ho4 hk4 f4);refine hK.out _ _ ?_ (λhH=>?_);(exact hX);clear hK K)
  |(refine tgR 30 ?_;go_simp;go_wp2_with ((with_reducible refine(HDr.out _ HF4.out).mono ?_);rintro e5 w5 ⟨g5,c5,rfl,hi5,hk5,hl5,f5⟩;have HM5:=T (Ay hi5 (Ay hl5 (Ay hk5 f5)));have HF5:=T (HF4.out.tr f5);have HB5:=T (HB4.out.fr f5 id);have hX:=hH.fr f5 id id;clear hi5 hk5 hl5 f5);refine hK.out _ _ ?_ (λhH=>?_);(exact hX);clear hK K)
  |(refine tgR 38 ?_;go_simp;go_wp2_with ((with_reducible refine(HPe.out _ HF5.out).mono ?_);rintro e6 w6 ⟨rfl,rfl⟩);refine hK.out _ _ ?_ (λhH=>?_);(exact hH);clear hK K)
  |(refine tgR 46 ?_;go_simp;go_wp2_with ((with_reducible refine(HMa.out _ HF5.out).mono ?_);rintro e7 w7 ⟨rfl,rfl⟩);refine hK.out _ _ ?_ (λhH=>?_);(exact hH);clear hK K)
  |(refine tgR 48 ?_;refine J4 (cs':=vwc s (Z X s.d.length c) (Z Y s.r.length d) (Z (I ⟨w1.heap.size,0,G⟩) (g.b.ms.n*64) (g.b.ms.n*64)) (Z Z3 g.b.outs.length c3) (Z Z4 g.b.ins.length c4) (Z (I ⟨g5,0,G⟩) 1024 c5) g.b.p g.b.m) HB5.out szV rfl rfl (one23 _ _ _ _ _ _ _ _ _ rfl rfl rfl rfl rfl rfl) rfl rfl BC BC ?_;intro W9 k9 f9;refine hK.out _ _ ?_ (λhH=>?_);(exact hH.fr f9 (λe=>by have e:gg=↑w:=e;have:=HL.out;omega) (λe=>by have e:a.gB=↑w:=e;have:=HL.out;omega));clear hK K;have K9:=T k9;have HF9:=T f9;clear k9 f9 hH)
  |(intro X hSw;obtain⟨r0,r1,r2,r3,r4,q0,q1⟩:=hSw;go_simp;try with_reducible rfl)
  |simp only[Act.put,nzR]
  |(refine tgR 1000 ?_;refine tuR 0 ?_ hH ?_ (tuR 2 ?_ hH ?_ (tuR 3 ?_ hH ?_ (tuR 4 ?_ hH ?_ (tuR 5 ?_ hH ?_ (tuR 7 ?_ hH ?_ (tgI 1001 ?_)))))))
  |(refine tgR 1001 ?_;refine tuR 8 ?_ hH ?_ (tuR 9 ?_ hH ?_ (tuR 10 ?_ hH ?_ (tuR 11 ?_ hH ?_ (tuR 12 ?_ hH ?_ (tuR 13 ?_ hH ?_ (tgI 1002 ?_)))))))
  |(refine tgR 1002 ?_;refine tuR 15 ?_ hH ?_ (tuR 16 ?_ hH ?_ (tuR 17 ?_ hH ?_ (tuR 18 ?_ hH ?_ (tuR 19 ?_ hH ?_ (tuR 20 ?_ hH ?_ (tgI 1003 ?_)))))))
  |(refine tgR 1003 ?_;refine tuR 21 ?_ hH ?_ (tuR 23 ?_ hH ?_ (tuR 24 ?_ hH ?_ (tuR 25 ?_ hH ?_ (tuR 26 ?_ hH ?_ (tuR 27 ?_ hH ?_ (tgI 1004 ?_)))))))
  |(refine tgR 1004 ?_;refine tuR 28 ?_ hH ?_ (tuR 29 ?_ hH ?_ (tuR 31 ?_ hH ?_ (tuR 32 ?_ hH ?_ (tuR 33 ?_ hH ?_ (tuR 34 ?_ hH ?_ (tgI 1005 ?_)))))))
  |(refine tgR 1005 ?_;refine tuR 35 ?_ hH ?_ (tuR 36 ?_ hH ?_ (tuR 37 ?_ hH ?_ (tuR 39 ?_ hH ?_ (tuR 40 ?_ hH ?_ (tuR 41 ?_ hH ?_ (tgI 1006 ?_)))))))
  |(refine tgR 1006 ?_;refine tuR 42 ?_ hH ?_ (tuR 43 ?_ hH ?_ (tuR 44 ?_ hH ?_ (tuR 45 ?_ hH ?_ (rdR (cTR 1 1007 (λK hK=>?_) CB))))))
  |(refine tgR 1007 ?_;refine rdR (cTR 6 1008 (λK hK=>?_) CB))
  |(refine tgR 1008 ?_;refine rdR (cTR 14 1009 (λK hK=>?_) CB))
  |(refine tgR 1009 ?_;refine rdR (cTR 22 1010 (λK hK=>?_) CB))
  |(refine tgR 1010 ?_;refine rdR (cTR 30 1011 (λK hK=>?_) CB))
  |(refine tgR 1011 ?_;refine rdR (cTR 38 1012 (λK hK=>?_) CB))
  |(refine tgR 1012 ?_;refine rdR (cTR 46 1013 (λK hK=>?_) CB))
  |(refine tgR 1013 ?_;refine tuR 47 ?_ hH ?_ (rdR (cTR 48 1014 (λK hK=>?_) CB)))
  |(refine tgR 1014 ?_;refine dnR ?_)
 all_goals
  refine tgR 9999 ?_;go_wp2_with fail;refine Bt (CV rfl _ _ w.heap.size 41 _ _ rfl K9.out Tryz.underlying41 rfl szV) rfl ?_;exact⟨_,rfl,vw_end HZ2.out HS1.out.2 HS1.out.1 HM2.out.1 HBm.out HM2.out.2 HM3.out.1 HM3.out.2 HM4.out.1 HM4.out.2 HM5.out.1 HM5.out.2.1 HM5.out.2.2.1 HM5.out.2.2.2 HF9.out,HF5.out.trans HF9.out (λk hk q=>by have q:k=w.heap.size:=q;omega)⟩
end Bl
end Go.Proofs.YtdfegdoeebaagaaGreatDoor
