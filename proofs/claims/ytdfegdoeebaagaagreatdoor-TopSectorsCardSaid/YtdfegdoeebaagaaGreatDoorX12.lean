import Derived.Test.YtdfegdoeebaagaaGreatDoorX11
open Go.Value renaming slice→Z,int→J,bool→Ap,tuple→AF,ownBlock→Cb,agg→A9
open Option renaming some→I,none→G
open Go.IntKind renaming i64→U,u32→V,u64→AP
open Go renaming World→Aa,Value→As,Calls→At,bodyPost_ret→Bt,Ending→AY,info_parts→Cj,maxLen→BQ,Program→CF,undef→BY
open Bool renaming false→Ac,true→Ag
open List renaming getD_eq_getElem?_getD→AS,getElem?_eq_getElem→BK,length_append→Cq,length_pos_iff→Ef,getLastD_eq_getLast?→FI,map_append→FH,length_take→Iv,setIfInBounds_toArray→Jd
open Go.Ending renaming returned→Ax
open And renaming intro→Ay
open Nat renaming le_refl→AD,lt_of_lt_of_le→Bg,le_trans→Bf,zero_le→Bj,zero_add→BW
open Or renaming inl→Af,inr→Ah
set_option linter.all false
set_option maxHeartbeats 40000000
set_option maxRecDepth 1000000
open Go Go.RowKit
namespace Go.Proofs.YtdfegdoeebaagaaGreatDoor
namespace Rn
open Gs Sv
structure Rs where
 s:St
 cnt:Int
 c:Int
 a:Int
 dv:Bool
structure Rp where
 g:Nat
 A:Aw
 ca:Nat
 B:Aw
 cb:Nat
def ab(A:Aw):Option Nat:=A.map (·.block)
def Rp.its(p:Rp)(k:Nat):Prop:=k=p.g∨ab p.A=I k∨ab p.B=I k
abbrev rc(x:Rs)(D R Cv C4:As):AO:=#[J V x.s.pc,D,R,J V x.s.fl,Ap x.s.su,Ap x.s.pg,Ap x.s.ie,J V x.s.rt,J V x.s.ve,J V x.s.ep,J V x.s.ca,J V x.s.ad,Ap x.s.es,Ap x.s.ei,J AP x.s.ct,Ap x.s.ha,J AP x.cnt,Cv,C4,J U x.c,J V x.a,Ap x.dv]
structure RunC(w:Aa)(p:Rp)(x:Rs)(Cv C4:As):Prop where
 b:Blk w p.g 237 (rc x (Z p.A x.s.d.length p.ca) (Z p.B x.s.r.length p.cb) Cv C4)
 d:Rw w 0 (Z p.A x.s.d.length p.ca) x.s.d
 r:Rw w 0 (Z p.B x.s.r.length p.cb) x.s.r
 ne: ∀k,ab p.A=I k→ab p.B≠I k
 cs:x.s.d.length≤1000∧x.s.r.length≤1000
theorem own_ab{A:Aw}{n c:Nat}{k:Nat}(h:(Z A n c).ownBlock=I k):ab A=I k:=VL
section
variable {w w':Aa} {p:Rp} {x:Rs} {Cv C4:As} {S:AE} {base:Nat} {A:Aw} {n c:Nat} {zs:List Int}
theorem ab_own(h:Rw w base (Z A n c) zs){k:Nat}(e:ab A=I k):(Z A n c).ownBlock=I k:=by
 cases A
 ·simp[ab] at e
 ·simpa[Cb,ab] using e
theorem RunC.gA(h:RunC w p x Cv C4):ab p.A≠I p.g:=λe=>by
 have h1:=ab_own h.d e;have:=AZ h.d h.b Ak;exact this h1
theorem RunC.gB(h:RunC w p x Cv C4):ab p.B≠I p.g:=λe=>by
 have h1:=ab_own h.r e;have:=AZ h.r h.b Ak;exact this h1
theorem RunC.lt(h:RunC w p x Cv C4): ∀k,p.its k→k<w.heap.size:=by
 rintro k (rfl|e|e);·exact h.b.lt
 ·exact h.d.lt k (ab_own h.d e)
 ·exact h.r.lt k (ab_own h.r e)
theorem RunC.fr(h:RunC w p x Cv C4)(f:Fr S w w')(hs: ∀k,p.its k→ ¬S k):RunC w' p x Cv C4:=
 ⟨h.b.fr f (hs _ (Af rfl)),h.d.fr f (λk hk=>hs k (Ah (Af (own_ab hk)))),h.r.fr f (λk hk=>hs k (Ah (Ah (own_ab hk)))),h.ne,h.cs⟩
theorem RunC.fr0(h:RunC w p x Cv C4)(f:Fr Aj w w'):RunC w' p x Cv C4:=h.fr f (λ_ _ e=>e)
theorem Rw.pop(h:Rw w base (Z A n c) zs)(hz:zs≠[]):Rw w base (Z A zs.dropLast.length c) zs.dropLast:=by
 obtain⟨rfl,_,_⟩:=h.reads;have hp:=Ef.2 hz;obtain⟨h1,h2⟩:=h;refine⟨AC, ?_⟩;rcases h2 with⟨_,h0⟩|⟨g,cap,cur,hv,hg,hb,hc,hm,hs,ht⟩;·omega
 ·injection hv with e1 e2 e3;subst e1 e3;refine Ah ⟨g,c,cur,rfl,hg,hb,AA,hm,hs, ?_⟩;rw[List.length_dropLast,Nat.mul_one,List.map_dropLast,←ht,Nat.mul_one,List.dropLast_eq_take,List.take_take,Iv];congr 1;have:cur.toList.length=cur.size:=AC;omega
end
def NB(w:Aa)(p:Rp)(x':Rs)(Cv C4 v:As)(e:AY)(w':Aa):Prop:=
 e=Ax v∧ ∃p',p'.g=p.g∧RunC w' p' x' Cv C4∧(∀k,p'.its k→p.its k∨w.heap.size≤k)∧Fr p.its w w'
theorem last_at(zs:List Int)(hz:zs≠[]):zs.getD (zs.length -1) 0=AW zs:=by
 unfold AW;exact VM
theorem Rw.last{w:Aa}{base n c:Nat}{A:Aw}{zs:List Int}(h:Rw w base (Z A n c) zs)(hz:zs≠[]): ∃g,A=I ⟨g,0,G⟩∧g<w.heap.size∧w.cell? ⟨g,zs.length -1,G⟩=I (J V (AW zs)):=by
 have hp:=Ef.2 hz;obtain⟨_,hr,_⟩:=h.reads;obtain⟨ad,u,e,hb,hu,hc⟩:=hr.at_ (k:=zs.length -1) O;rcases h.none_ with⟨_,_,_,e2⟩|⟨g,e2⟩;·exact absurd e2 hz
 ·rw[e2] at e;injection e with e;subst e;refine⟨g,e2,hb, ?_⟩;have e3:(⟨g,0,G⟩:Addr).add (zs.length -1)=⟨g,zs.length -1,G⟩:=by
   unfold Addr.add;split;·rename_i h0;rw[h0]
   ·rw[BW]
  rw[e3] at hc;rw[hc,←hu,←last_at zs hz];simp[AS];rw[BK O];rfl
theorem Rw.cap{w:Aa}{base n c:Nat}{A:Aw}{zs:List Int}(h:Rw w base (Z A n c) zs):zs.length≤c∧c≤BQ:=by
 rcases h.2 with⟨e,h0⟩|⟨g,cap,cur,hv,hg,hb,hc,hm,_⟩;·injection e with _ _ e3;rw[e3];exact⟨O,Bj _⟩
 ·injection hv with _ _ e3;rw[e3];exact⟨hc,hm⟩
theorem pop_keep(w:Aa)(p:Rp)(x:Rs)(Cv C4:As)(h:RunC w p x Cv C4)(hd:x.s.d≠[]):At Tryz.prog 167 #[↑p.g] w λe w'=>e=Ax (J V (AW x.s.d))∧RunC w' p {x with s:=Gm.pop1 x.s} Cv C4∧Fr p.its w w':=by
 obtain⟨gd,hA,hg,hc⟩:=Rw.last h.d hd;obtain⟨m,hm⟩: ∃m,x.s.d.length=m+1:=⟨x.s.d.length -1,by have:=Ef.2 hd;omega⟩;have k1:=h.b.cell 1;have z1:=h.b.frozen 1;have hlen:=h.cs.1;have HP:Hid (RunC (w.setCell ⟨p.g,1,G⟩ (Z p.A m p.ca)) p {x with s:=Gm.pop1 x.s} Cv C4∧Fr p.its w (w.setCell ⟨p.g,1,G⟩ (Z p.A m p.ca))):=by
  have f:Fr (· =p.g) w (w.setCell ⟨p.g,1,G⟩ (Z p.A m p.ca)):=Br _ _ _ _;have e:m=x.s.d.dropLast.length:=AA;refine T ⟨⟨?_, ?_, ?_,h.ne,⟨?_, ?_⟩⟩,f.mono (λk _ e=> .inl e)⟩;·have h1:=h.b.set_ 1 (Z p.A m p.ca);rw[e] at h1⊢;simpa only[rc,Jd,List.set_cons_zero,List.set_cons_succ,Gm.pop1] using h1
  ·exact Rn.Rw.pop (h.d.fr f (λk hk e=>h.gA C0)) hd
  ·exact h.r.fr f (λk hk e=>h.gB C0)
  ·show x.s.d.dropLast.length≤1000;omega
  ·exact h.cs.2
 obtain⟨hcap,hcap2⟩:=Rw.cap h.d;rw[hm] at k1 hc hlen hcap;unfold BQ at hcap2;have hcap1:m≤p.ca:=O;have hmm:m+1 -1=m:=O;rw[hmm] at hc;have hlen2:m≤1000:=O;have HA:=T hA;generalize AW x.s.d=v at*;generalize p.A=A at*;subst hA;have HM:=T hm;clear h hd hm hmm hlen HA;go_in
 go_wp2
 go_ret;exact⟨rfl,HP.out.1,HP.out.2⟩
theorem NC(w:Aa)(p:Rp)(x:Rs)(Cv C4:As)(h:RunC w p x Cv C4)(hd:x.s.d≠[]):At Tryz.prog 167 #[↑p.g] w (NB w p {x with s:=Gm.pop1 x.s} Cv C4 (J V (AW x.s.d))):=
 (pop_keep w p x Cv C4 h hd).mono λ_ _ ⟨h1,h2,h3⟩=>⟨h1,p,rfl,h2,λ_ hk=> Af hk,h3⟩
end Rn
namespace Rn
open Gs Sv
def pushL(s:St)(zs:List Int):St:={s with d:=s.d++zs}
theorem push_any(w:Aa)(p:Rp)(x:Rs)(Cv C4:As)(h:RunC w p x Cv C4)(B:Nat)(A':Aw)(m c':Nat)(zs:List Int)(hr:Reads w B 1 A' m (zs.map (J V)))(hl:x.s.d.length+zs.length≤1000):At Tryz.prog 166 #[↑p.g,Z A' m c'] w (NB w p {x with s:=pushL x.s zs} Cv C4 (AF #[])):=by
 obtain⟨i0,hi0,hz0,hz1,hz2⟩:=Cj info32;have hm:zs.length=m:=by have:=hr.1;simpa using this
 have k1:=h.b.cell 1;have hown:w.ownsRow 0 22 1 (Z p.A x.s.d.length p.ca) x.s.d.length (x.s.d.map (J V)):=h.d;have H:=T h;obtain⟨n,hn⟩:=A8 x.s.d.length;rw[hn] at hown k1;have HN:=T hn;have HM:=T hm;have hl2:n+m≤1000:=O;clear h hn hm hl;go_in;go_wp2_with
  (at_builtin
   refine CU _ rfl (.tmp 9) (.tmp 10) _ rfl 0 22 i0 _ 1 4 Tryz.underlying36 hi0 hz0 hz1 hz2 rfl O (Z p.A n p.ca) n (x.s.d.map (J V)) rfl hown B A' m c' (zs.map (J V)) rfl hr GW Cc O O ?_
   intro v1 w1 hown1 hg1 hat1
   have hgg:(Z p.A n p.ca).ownBlock≠I p.g:=(λe=>H.out.gA (own_ab e))
   have b1:=H.out.b.grown hg1 (λe=>hgg e.symm)
   have hv1:Rw w1 0 v1 (x.s.d++zs):=by
    have e:(x.s.d++zs).length=n+m:=by rw[Cq,HN.out,HM.out]
    unfold Rw;rw[e,FH];exact hown1
   obtain⟨A1,c1,rfl⟩:=hv1.form
   have hr1:Rw w1 0 (Z p.B x.s.r.length p.cb) x.s.r:=World.ownsRow.kept H.out.r hg1 (by
    by_cases q:(Z p.B x.s.r.length p.cb).ownBlock=G;·exact Af q
    ·right;intro e;obtain⟨k,hk⟩:=Option.ne_none_iff_exists'.1 q;rw[hk] at e;exact H.out.ne k (own_ab e.symm) (own_ab hk))
   have z1:=b1.frozen 1
   have kk1:=b1.cell 1
   have HB:=T b1
   have HR:=T hr1
   have HV:=T hv1
   have HG:=T hg1
   have HA:=T hat1
   clear b1 hr1 hv1 hg1 hat1 hown1 hgg hown k1 hr)
 go_end0;have f1:Fr p.its w w1:=(Ao _ w).grown HG.out (λk hk=> Af (Ah (Af (own_ab hk))));have f2:Fr (· =p.g) w1 (w1.setCell ⟨p.g,1,G⟩ (Z A1 (x.s.d.length+zs.length) c1)):=Br _ _ _ _;have hgl:=H.out.b.lt;have hA1: ∀k,ab A1=I k→ab p.A=I k∨k=w.heap.size:=λk hk=>by
  have hk2:=ab_own HV.out hk;rcases HA.out with e|e;·exact Af (own_ab (e.symm.trans hk2))
  ·rw[hk2] at e;injection e with e;exact Ah e
 have g1:ab A1≠I p.g:=λe=>by
  rcases hA1 _ e with e|e;·exact H.out.gA e
  ·omega
 refine⟨rfl,⟨p.g,A1,c1,p.B,p.cb⟩,rfl,⟨?_, ?_, ?_,λk hk hk2=>?_, ?_⟩,λk hk=>?_,f1.trans f2 (λi hi e=> .inl e)⟩;·have h1:=HB.out.set_ 1 (Z A1 (x.s.d.length+zs.length) c1);simpa only[Cq,rc,Jd,List.set_cons_zero,List.set_cons_succ,pushL] using h1
 ·exact HV.out.fr f2 (λk hk e=>g1 C0)
 ·exact HR.out.fr f2 (λk hk e=>H.out.gB C0)
 ·have hk2:ab p.B=I k:=hk2;rcases hA1 _ hk with e|e;·exact H.out.ne k e hk2
  ·have:=H.out.lt k (Ah (Ah hk2));omega
 ·refine⟨?_,H.out.cs.2⟩;show(x.s.d++zs).length≤1000;rw[Cq,HN.out,HM.out];exact hl2
 ·rcases hk with e|e|e;·exact JO
  ·rcases hA1 k e with e|e;·exact JP
   ·exact EJ
  ·exact Af (Ah (Ah e))
theorem szS:(Tryz.prog.info? 194).map (·.size)=I 3:=AL
theorem mA(w:Aa)(p:Rp)(x:Rs)(Cv C4:As)(h:RunC w p x Cv C4):At Tryz.prog 220 #[↑p.g] w λe w'=>e=Ax (Mu.spv (Gm.spS x.s))∧Fr Aj w w':=by
 have f1:=(Ao Aj w).alloc (.cells #[Ap Ac,Ap Ac,J V 0] 194);have b1:=(h.fr0 f1).b;have k4:=h.b.cell 4;have k5:=h.b.cell 5;have k7:=h.b.cell 7;have hg:=h.b.lt;clear b1 f1 h;go_in;go_wp2_with fail;have b2:Blk (w.alloc (.cells #[Ap Ac,Ap Ac,J V 0] 194)) ↑w 194 #[Ap Ac,Ap Ac,J V 0]:=AI _ _ _;have B2:=T b2;have z0:=b2.frozen 0;have z1:=b2.frozen 1;have z2:=b2.frozen 2;clear b2
 go_region_held3 (λW=>W.cell? ⟨p.g,4,G⟩=I (Ap x.s.su)∧W.cell? ⟨p.g,5,G⟩=I (Ap x.s.pg)∧W.cell? ⟨p.g,7,G⟩=I (J V x.s.rt)) (go_keep) (fail)
 go_wp2_with fail;refine Bt (CV rfl _ _ w.heap.size 194 #[Ap x.s.pg,Ap x.s.su,J V x.s.rt] _ rfl (AI _ _ _).drew Tryz.underlying194 rfl szS) rfl ⟨rfl, ?_⟩;exact((Ao _ w).alloc _).drew
end Rn
namespace Rn
open Gs Sv Gm
theorem _root_.Go.Proofs.YtdfegdoeebaagaaGreatDoor.Gm.Mch.frMore{w w':Aa}{P P' S:AE}{a:Bs.Ab}{A:Mu.Au}{g:Mc}(h:Mch w P a A g)(f:Fr S w w')(hs: ∀k,S k→P k)(h0: ¬S 0)(hp: ∀k,P' k→P k∨(w.heap.size≤k∧k<w'.heap.size))(h1:P' 0):Mch w' P' a A g:=by
 obtain⟨F,b1,b2,b3⟩:=h.lt;have hl:=h.un.lt;have h2:=h.fr f hs h0;refine⟨⟨F,b1.fr f (λk hk e=>(b2 k hk).1 (hs k e)),λk hk=>⟨λe=>?_,(b2 k hk).2⟩⟩,h2.un,h2.am,⟨λe=>?_,λe=>?_⟩,h2.tab,h1,λk hk=>?_⟩;·exact VN
 ·exact N7
 ·exact N9
 ·exact VO
structure Dn(w:Aa)(p:Rp)(x:Rs)(P:AE)(a:Bs.Ab)(A:Mu.Au)(g:Mc):Prop where
 rn:RunC w p x ↑A.gU ↑a.gB
 mc:Mch w P a A g
 ip: ∀k,p.its k→P k
 n0: ¬p.its 0
structure Lk(w w':Aa)(p p':Rp)(P P':AE):Prop where
 g:p'.g=p.g
 up: ∀k,P k→P' k
 dn: ∀k,P' k→P k∨w.heap.size≤k
 it: ∀k,p'.its k→p.its k∨w.heap.size≤k
 f:Fr (λk=>p.its k∨ ¬P k) w w'
theorem Lk.tr{w w1 w2:Aa}{p p1 p2:Rp}{P P1 P2:AE}(h:Lk w w1 p p1 P P1)(k:Lk w1 w2 p1 p2 P1 P2):Lk w w2 p p2 P P2:=by
 have hs:=h.f.size;refine⟨k.g.trans h.g,λi hi=>k.up i (h.up i hi),λi hi=>?_,λi hi=>?_,h.f.trans k.f (λi hi e=>?_)⟩
 ·rcases k.dn i hi with e|e;·exact h.dn i e
  ·exact EJ
 ·exact VQ
 ·rcases e with e|e
  ·rcases h.it i e with e|e;·exact Af e
   ·omega
  ·exact Ah (λq=>e (h.up i q))
theorem Lk.fr0{w w':Aa}{p:Rp}{P:AE}(f:Fr Aj w w'):Lk w w' p p P P:=⟨rfl,λ_ h=>h,λ_ h=> Af h,λ_ h=> Af h,f.mono (λ_ _ e=>e.elim)⟩
theorem Lk.frP{w w':Aa}{p:Rp}{P:AE}(f:Fr (λk=> ¬P k) w w'):Lk w w' p p P P:=⟨rfl,λ_ h=>h,λ_ h=> Af h,λ_ h=> Af h,f.mono (λ_ _ e=> Ah e)⟩
theorem Lk.frI{w w':Aa}{p:Rp}{P:AE}(f:Fr p.its w w'):Lk w w' p p P P:=⟨rfl,λ_ h=>h,λ_ h=> Af h,λ_ h=> Af h,f.mono (λ_ _ e=> Af e)⟩
def DPost(w:Aa)(p:Rp)(P:AE)(a:Bs.Ab)(A:Mu.Au)(x':Rs)(g':Mc)(v:As)(e:AY)(w':Aa):Prop:=
 e=Ax v∧ ∃p' P',Lk w w' p p' P P'∧Dn w' p' x' P' a A g'
section
variable {w w' w2:Aa} {p:Rp} {x x':Rs} {P:AE} {a:Bs.Ab} {A:Mu.Au} {g g' g2:Mc} {v:As} {e:AY}
theorem Dn.fr0(h:Dn w p x P a A g)(f:Fr Aj w w'):Dn w' p x P a A g:=⟨h.rn.fr0 f,h.mc.fr0 f,h.ip,h.n0⟩
theorem Dn.ofR(h:Dn w p x P a A g)(hr:NB w p x' ↑A.gU ↑a.gB v e w'):DPost w p P a A x' g v e w':=by
 obtain⟨he,p',hg,hR,hi,f⟩:=hr;refine⟨he,p',λk=>P k∨p'.its k,⟨hg,λk hk=> Af hk,λk hk=>?_,hi,f.mono (λk _ e=> Af e)⟩,⟨hR, ?_,λk hk=> Ah hk,λe0=>?_⟩⟩
 ·rcases hk with e|e;·exact Af e
  ·rcases hi k e with e|e;·exact Af (h.ip k e)
   ·exact Ah e
 ·refine h.mc.frMore f h.ip h.n0 (λk hk=>?_) (Af h.mc.p0);rcases hk with e|e;·exact Af e
  ·rcases hi k e with e2|e2;·exact Af (h.ip k e2)
   ·exact Ah ⟨e2,hR.lt k e⟩
 ·rcases hi 0 e0 with e1|e1;·exact h.n0 e1
  ·have:=h.mc.tab.1;omega
theorem DPost.tr{p':Rp}{P':AE}{v':As}(l:Lk w w' p p' P P')(h:DPost w' p' P' a A x' g' v' e w2):DPost w p P a A x' g' v' e w2:=by
 obtain⟨he,p2,P2,l2,d⟩:=h;exact⟨he,p2,P2,l.tr l2,d⟩
end
theorem Dn.placed{w W2 w3 W:Aa}{p:Rp}{x:Rs}{P:AE}{a:Bs.Ab}{A:Mu.Au}{g:Mc}{u':Mu.Us}{gt:Nat}(H:Dn w p x P a A g)(F:Fr Aj w W2)(hU:Mu.Un w3 A u')(f3:Fr A.wr W2 w3)(htu:Mu.TuOk u'.m)(hg:↑w≤gt)(hg2:gt<↑W2)(ft:Fr (· =gt) w3 W):Dn W p x (λk=>P k∨k=gt) a A (g.setU u')∧Fr (λk=> ¬P k) w W:=by
 have hne: ∀k,p.its k→k≠gt:=λk hk e=>by have:=H.rn.lt k hk;omega
 have hP: ∀k,P k→k≠gt:=λk hk e=>by have:=H.mc.pl k hk;omega
 have M2:Mch W2 (λk=>P k∨k=gt) a A g:=H.mc.more F (λk hk=>by rcases hk with e|e;exact Af e;exact Ah ⟨by omega,by omega⟩) (Af H.mc.p0);obtain⟨M3,f4⟩:=M2.unPost hU f3 htu;have g0: ¬(0:Nat)=gt:=hP 0 H.mc.p0;have R2:=H.rn.fr0 F;have R3:=R2.fr f4 (λk hk e=>e (Af (H.ip k hk)));refine⟨⟨R3.fr ft hne,M3.fr ft (λk e=> Ah e) g0,λk hk=> Af (H.ip k hk),H.n0⟩, ?_⟩;refine((F.mono (S':=λk=> ¬P k) (λ_ _ e=>e.elim)).trans f4 (λi hi e q=>e (Af q))).trans ft (λi hi e q=>?_);exact hP i q e
theorem Dn.placed2{w W2 w3:Aa}{p:Rp}{x:Rs}{P:AE}{a:Bs.Ab}{A:Mu.Au}{g:Mc}{u':Mu.Us}(o:Obj)(H:Dn w p x P a A g)(F:Fr Aj w W2)(hU:Mu.Un w3 A u')(f3:Fr A.wr W2 w3)(htu:Mu.TuOk u'.m):Dn (w3.alloc o) p x (λk=>P k∨k=w3.heap.size) a A (g.setU u')∧Fr (λk=> ¬P k) w (w3.alloc o):=by
 have M2:Mch W2 P a A g:=H.mc.fr0 F;obtain⟨M3,f4⟩:=M2.unPost hU f3 htu;have R3:=(H.rn.fr0 F).fr f4 (λk hk e=>e (H.ip k hk));have fa:Fr Aj w3 (w3.alloc o):=(Ao _ _).alloc _;refine⟨⟨R3.fr0 fa,M3.more fa (λk hk=>?_) (Af M3.p0),λk hk=> Af (H.ip k hk),H.n0⟩,((F.mono (S':=λk=> ¬P k) (λ_ _ e=>e.elim)).trans f4 (λi hi e=>e)).trans fa (λi hi e=>e.elim)⟩;rcases hk with e|e;·exact Af e
 ·exact Ah ⟨O,AA⟩
theorem Dn.laidT{W:Aa}{p:Rp}{x:Rs}{P:AE}{a:Bs.Ab}{A:Mu.Au}{g:Mc}(H:Dn W p x P a A g)(c ad:Int)(dv:Bool):Dn (((W.setCell ⟨p.g,19,G⟩ (J U c)).setCell ⟨p.g,20,G⟩ (J V ad)).setCell ⟨p.g,21,G⟩ (Ap dv)) p {x with c:=c,a:=ad,dv:=dv} P a A g∧Fr p.its W (((W.setCell ⟨p.g,19,G⟩ (J U c)).setCell ⟨p.g,20,G⟩ (J V ad)).setCell ⟨p.g,21,G⟩ (Ap dv)):=by
 have f:Fr (· =p.g) W (((W.setCell ⟨p.g,19,G⟩ (J U c)).setCell ⟨p.g,20,G⟩ (J V ad)).setCell ⟨p.g,21,G⟩ (Ap dv)):=(((Ao _ W).at_ 19 _).at_ 20 _).at_ 21 _;refine⟨⟨⟨?_,H.rn.d.fr f (λk hk e=>H.rn.gA C0),H.rn.r.fr f (λk hk e=>H.rn.gB C0),H.rn.ne,H.rn.cs⟩,H.mc.fr f (λk e=>H.ip k (Af e)) (λe=>H.n0 (Af e)),H.ip,H.n0⟩,f.mono (λk _ e=> Af e)⟩;have h1:=((H.rn.b.set_ 19 (J U c)).set_ 20 (J V ad)).set_ 21 (Ap dv);exact ND
theorem Dn.sepU{w:Aa}{p:Rp}{x:Rs}{P:AE}{a:Bs.Ab}{A:Mu.Au}{g:Mc}(H:Dn w p x P a A g): ∀k,p.its k→ ¬A.wr k:=λk hk e=>by
 have hP:=H.ip k hk;rcases e with e|e;·exact H.mc.uP.2 (e▸hP)
 ·obtain⟨F,_,h2⟩:=H.mc.bus;rw[H.mc.am] at e;exact(h2 k (Af (Ah (Ah (Ah (Ah (Af e))))))).1 hP
theorem cell_far{w:Aa}{p q:Addr}{v:As}{u:As}(h:w.cell? q=I v)(ne:q.block≠p.block):(w.setCell p u).cell? q=I v:=(World.cell?_setCell_other w p q u (λe=>ne (by rw[e]))).trans h
theorem VR(w:Aa)(p:Rp)(x:Rs)(P:AE)(a:Bs.Ab)(A:Mu.Au)(g:Mc)(h:Dn w p x P a A g)(hpg:x.s.pg=Ac)(at_ k:Int)(hd:EH at_=Ag)(hk:k=2∨k=3):At Tryz.prog 215 #[↑p.g,J V at_,J U k] w (DPost w p P a A {x with c:=0,a:=0,dv:=Ag} g (AF #[J V at_,Ap Ag])):=by
 simp only[EH,Mu.devB,Bool.and_eq_true,decide_eq_true_eq] at hd;obtain⟨⟨hal,hp8,hp9⟩,_⟩:=hd;obtain⟨r,hr⟩:=A8 (Mu.placeR g.u (spS x.s) at_ k);have er:r=⟨at_,0,0,g.u⟩:=by
  rw[←hr];unfold Mu.placeR Mu.thereB Mu.devB;rw[An (by rcases hk with rfl|rfl<;>simp[hp8,hp9])]
 have htu:Mu.TuOk r.u.m:=by rw[er];exact h.mc.tu
 have Hs:=T (λW (f:Fr Aj w W)=>mA W p x _ _ (h.fr0 f).rn);have Hp:=T (λW (f:Fr Aj w W)=>Mu.place_any W A g.u (h.fr0 f).mc.un (spS x.s) hpg at_ k O O (Ah hk));rw[hr] at Hp;have hrm:(at_%4 !=0)=Ac:=by simp[hal]
 have ku:=h.rn.b.cell 17;have kb:=h.rn.b.cell 18;have H:=T h;have HTU:=T htu;have hgl:=h.rn.b.lt;have ER:=T er;have a0:0≤at_:=O;have a1:at_≤4294967295:=O;have hcb:(r.c==0)=Ag:=by rw[er];rfl
 have hpb:decide (32768≤r.p)=Ag:=by rw[er];simp[hp8]
 clear h er hal htu hr hk hpg hp8 hp9;go_in;go_upto_region 7 with(fail);go_region_held (λW=>W.cell? ⟨p.g,17,G⟩=I ↑A.gU) (first|exact s2|exact s3|go_keep|exact cell_far (cell_far s3 VS) VS)
  (first
  |((refine(Hs.out _ (by first|exact(Ao _ w).drew|exact((Ao _ w).drew).alloc _)).mono ?_);rintro e w2 ⟨rfl,f2⟩;have F2:Hid (Fr Aj w w2):=T (by first|exact(Ao _ w).drew.tr f2|exact(((Ao _ w).drew).alloc _).tr f2);have D2:=T (H.out.fr0 F2.out);have s2:=D2.out.rn.b.cell 17;have hs2:=F2.out.size;have hs3:p.g≠↑w2:=O;have G2:=T f2;clear f2)
  |((refine(Hp.out _ (by first|exact F2.out|exact F2.out.alloc _)).mono ?_);rintro e w3 ⟨rfl,hU,f3⟩;have HM:=T (Ay hU f3);have RR3:Hid (RunC w3 p x ↑A.gU ↑a.gB):=T (by first|exact D2.out.rn.fr f3 D2.out.sepU|exact(D2.out.rn.fr0 ((Ao _ w2).alloc _)).fr f3 D2.out.sepU);have s3:=RR3.out.b.cell 17;(first|(have bx:Blk w3 ↑w 190 #[J U 0,J V 0]:=((AI w.drew 190 #[J U 0,J V 0]).fr G2.out id).fr f3 (λe=>by have:=H.out.mc.un.lt _ (Ah e);simp at this);have zx0:=bx.frozen 0;have zx1:=bx.frozen 1;have zc0:=bx.cell 0;have zc1:=bx.cell 1;have BX:=T bx;clear bx)|(have bx:Blk w3 ↑w2 190 #[J U 0,J V 0]:=(AI w2 190 #[J U 0,J V 0]).fr f3 (λe=>by have:=D2.out.mc.un.lt _ (Ah e);simp at this);have zx0:=bx.frozen 0;have zx1:=bx.frozen 1;have zc0:=bx.cell 0;have zc1:=bx.cell 1;have BX:=T bx;clear bx)|skip);clear hU f3))
 ·have bt:Blk (w3.alloc (.cells #[J U r.c,J V r.a] 190)) ↑w3 190 #[J U r.c,J V r.a]:=AI _ _ _;have hD:Dn (w3.alloc (.cells #[J U r.c,J V r.a] 190)) p x (λk=>P k∨k=w3.heap.size) a A (g.setU r.u)∧Fr (λk=> ¬P k) w (w3.alloc (.cells #[J U r.c,J V r.a] 190)):=H.out.placed2 _ F2.out HM.out.1 HM.out.2 HTU.out;have y19:=RR3.out.b.frozen 19;have y20:=RR3.out.b.frozen 20;have y21:=RR3.out.b.frozen 21;have x19:=RR3.out.b.cell 19;have x20:=RR3.out.b.cell 20;have x21:=RR3.out.b.cell 21;have hg3:=RR3.out.b.lt;have hng:p.g≠↑w3:=by have:=HM.out.2.size;omega
  have hs23:w2.heap.size≤w3.heap.size:=HM.out.2.size;have HD:=T hD;clear hD s2 s3 HM bt;go_wp2_with fail;go_quiet (fail)
  go_wp2
  go_ret2;have hL:=HD.out.1.laidT r.c r.a Ag;rw[World.setCell_alloc_past _ _ _ _ hg3,World.setCell_alloc_past _ _ _ _ (by simpa using hg3),World.setCell_alloc_past _ _ _ _ (by simpa using hg3)] at hL;obtain rfl:=ER.out;refine⟨rfl,p,λk=>P k∨k=w3.heap.size,⟨rfl,λk hk=> Af hk,λk hk=>?_,λk hk=> Af hk, ?_⟩, ?_⟩
  ·rcases hk with e|e;·exact Af e
   ·exact Ah (by rw[e];exact Bf hs2 (hs23))
  ·exact Qg
  ·exact Qi
 ·have bt:Blk ((w3.setCell ⟨↑w2,0,G⟩ (J U r.c)).setCell ⟨↑w2,1,G⟩ (J V r.a)) ↑w2 190 #[J U r.c,J V r.a]:=(BX.out.set_ 0 (J U r.c)).set_ 1 (J V r.a);have hD:Dn ((w3.setCell ⟨↑w2,0,G⟩ (J U r.c)).setCell ⟨↑w2,1,G⟩ (J V r.a)) p x (λk=>P k∨k=w2.heap.size) a A (g.setU r.u)∧Fr (λk=> ¬P k) w ((w3.setCell ⟨↑w2,0,G⟩ (J U r.c)).setCell ⟨↑w2,1,G⟩ (J V r.a)):=H.out.placed (gt:=w2.heap.size) (F2.out.alloc _) HM.out.1 HM.out.2 HTU.out hs2 AC (((Ao _ _).at_ 0 _).at_ 1 _);have y19:=RR3.out.b.frozen 19;have y20:=RR3.out.b.frozen 20;have y21:=RR3.out.b.frozen 21;have x19:=RR3.out.b.cell 19;have x20:=RR3.out.b.cell 20;have x21:=RR3.out.b.cell 21;have hg3:=RR3.out.b.lt;have hng:p.g≠↑w2:=by exact hs3
  have HD:=T hD;clear hD s2 s3 HM bt;go_wp2_with fail;go_quiet (fail)
  go_wp2
  go_ret2;have hL:=HD.out.1.laidT r.c r.a Ag;obtain rfl:=ER.out;refine⟨rfl,p,λk=>P k∨k=w2.heap.size,⟨rfl,λk hk=> Af hk,λk hk=>?_,λk hk=> Af hk, ?_⟩, ?_⟩
  ·rcases hk with e|e;·exact Af e
   ·exact Ah (by rw[e];exact hs2)
  ·exact Qg
  ·exact Qi
 ·have bt:Blk ((w3.setCell ⟨↑w,0,G⟩ (J U r.c)).setCell ⟨↑w,1,G⟩ (J V r.a)) ↑w 190 #[J U r.c,J V r.a]:=(BX.out.set_ 0 (J U r.c)).set_ 1 (J V r.a);have hD:Dn ((w3.setCell ⟨↑w,0,G⟩ (J U r.c)).setCell ⟨↑w,1,G⟩ (J V r.a)) p x (λk=>P k∨k=w.heap.size) a A (g.setU r.u)∧Fr (λk=> ¬P k) w ((w3.setCell ⟨↑w,0,G⟩ (J U r.c)).setCell ⟨↑w,1,G⟩ (J V r.a)):=H.out.placed (gt:=w.heap.size) F2.out HM.out.1 HM.out.2 HTU.out (AD _) (by have:=G2.out.size;simp at this;omega) (((Ao _ _).at_ 0 _).at_ 1 _);have y19:=RR3.out.b.frozen 19;have y20:=RR3.out.b.frozen 20;have y21:=RR3.out.b.frozen 21;have x19:=RR3.out.b.cell 19;have x20:=RR3.out.b.cell 20;have x21:=RR3.out.b.cell 21;have hg3:=RR3.out.b.lt;have hng:p.g≠↑w:=O;have HD:=T hD;clear hD s2 s3 HM bt;go_wp2_with fail;go_quiet (fail)
  go_wp2
  go_ret2;have hL:=HD.out.1.laidT r.c r.a Ag;obtain rfl:=ER.out;refine⟨rfl,p,λk=>P k∨k=w.heap.size,⟨rfl,λk hk=> Af hk,λk hk=>?_,λk hk=> Af hk, ?_⟩, ?_⟩
  ·rcases hk with e|e;·exact Af e
   ·exact Ah (by rw[e];exact AD _)
  ·exact Qg
  ·exact Qi
end Rn
namespace Rn
open Gs Sv Gm Rm
def Ea(r:Gm.Rn)(cnt:Int):Rs:=⟨r.s,cnt,r.c,r.a,r.dv⟩
structure Ready(x:Rs):Prop where
 c:x.c=0
 a:x.a=0
 dv:x.dv=Ac
 k:Rk x.s
 cnt:0≤x.cnt∧x.cnt≤18446744073709551615
theorem loadV_bd{s:Bs.Sb}(h:s.Ok)(at_ cnt:Int):0≤Bs.loadV s at_ cnt∧Bs.loadV s at_ cnt≤4294967295:=by
 unfold Bs.loadV Bs.loadO;have h1:=h.p;have h2:=h.m;have h3:=h.tm;have h4:=h.len;have h5:=h.sec;have h6:=h.pl;have h7:=h.st;split;·omega
 split;·omega
 split;·omega
 split;·omega
 split
 ·cases e:s.ins with
  |nil=>simp
  |cons x l=>
   have:=h.ins x EV;simp only[List.headD_cons];omega
 split;·omega
 split;·omega
 split;·omega
 split;·omega
 ·omega
theorem Qj(w:Aa)(p:Rp)(x:Rs)(Cv C4:As)(h:RunC w p x Cv C4)(g:Nat)(v:Int)(hb:Blk w g 22 #[J V v])(hl:x.s.d.length≤999):At Tryz.prog 166 #[↑p.g,Z (I ⟨g,0,G⟩) 1 1] w (NB w p {x with s:=push1 x.s v} Cv C4 (AF #[])):=
 push_any w p x Cv C4 h (g+1) _ 1 1 [v] (Do (size:=1) (n:=1) hb rfl) (by simpa using hl)
theorem load_any(w:Aa)(p:Rp)(x:Rs)(P:AE)(a:Bs.Ab)(A:Mu.Au)(g:Mc)(h:Dn w p x P a A g)(hr:Ready x)(hpg:x.s.pg=Ac)(hd:x.s.d≠[])(hv:EH (AW x.s.d)=Ag):At Tryz.prog 172 #[↑p.g] w (DPost w p P a A (Ea (ldR x.s x.cnt g) x.cnt) (ldR x.s x.cnt g).g (AF #[])):=by
 have hb:=(show Bl x.s.d from hr.k.1.d).top;obtain⟨v,hv2⟩:=A8 (AW x.s.d);have Hp:=T (NC w p x _ _ h.rn hd);have H:=T h;rw[hv2] at Hp hb hv;obtain⟨hb0,hb1⟩:=hb;have hst:ldR x.s x.cnt g=⟨push1 (Gm.pop1 x.s) (Bs.loadV g.b v x.cnt),0,0,Ag,⟨g.b.read v,g.l⟩⟩:=by unfold ldR;rw[hv2]
 rw[hst];have hlb:Bs.loadB v=Ag:=by simp only[EH,Bool.and_eq_true] at hv;exact hv.2
 have HR:=T hr;have HV8:=T hv;have HPG:=T hpg;clear h hr hd hv hv2 hst hpg;go_in;go_wp2_with fail;refine Az Hp ?_;intro e w2 hq;obtain⟨rfl,⟨g2,A2,ca2,B2,cb2⟩,P2,L2,D2⟩:=H.out.ofR hq;obtain rfl:g2=p.g:=L2.g;clear hq;have Hw:=T (VR w2 _ _ _ _ _ _ D2 HPG.out v 2 HV8.out (Af rfl));have L2:=T L2;clear D2;go_wp2_with fail;refine Az Hw ?_;rintro e w3 ⟨rfl,⟨g3,A3,ca3,B3,cb3⟩,P3,L3,D3⟩;obtain rfl:g3=p.g:=L3.g;have L:=T (L2.out.tr L3);have D3:=T D3;clear Hw L3;have dv:=D3.out.rn.b.cell 21;have c16:=D3.out.rn.b.cell 16;have c17:=D3.out.rn.b.cell 17;have c18:=D3.out.rn.b.cell 18;obtain⟨F,hB,hF⟩:=D3.out.mc.bus;have Hl:=T (λW (f:Fr Aj w3 W)=>Bs.load_any W F a _ (hB.fr0 f) v x.cnt hb0 hb1 HR.out.cnt.1 HR.out.cnt.2);have HB:=T (Ay hB hF);clear hB hF;go_upto_region 5 with(fail);go_region_held (λW=>W.cell? ⟨p.g,16,G⟩=I (J AP x.cnt)∧W.cell? ⟨p.g,18,G⟩=I ↑a.gB) (first|exact⟨s16,s18⟩|exact⟨c16,c18⟩|go_keep)
  (((refine(Hl.out _ (Ao _ w3).drew).mono ?_);intro e w4 hq;obtain⟨rfl,M4,f4⟩:=(D3.out.fr0 (Ao Aj w3).drew).mc.busPost (HB.out.1.fr0 (Ao _ w3).drew) HB.out.2 hq;have D4:=T (Dn.mk ((D3.out.rn.fr0 (Ao _ w3).drew).fr f4 (λk hk e=>e (D3.out.ip k hk))) M4 D3.out.ip D3.out.n0);have L4:=T (L.out.tr ((Lk.fr0 (Ao _ w3).drew).tr (Lk.frP f4)));have s16:=D4.out.rn.b.cell 16;have s18:=D4.out.rn.b.cell 18;clear M4 f4 hq))
 have HLen:Hid (((Gm.pop1 x.s).d).length≤999):=T (by have:=HR.out.k.2.1;simp[Gm.pop1];omega);have hvb:=loadV_bd D3.out.mc.bok v x.cnt;generalize Bs.loadV g.b v x.cnt=val at*;have Hpu:=T (Qj (w4.alloc (.cells #[J V val] 22)) _ _ _ _ (D4.out.rn.fr0 ((Ao _ _).alloc _)) ↑w4 val (AI _ _ _) HLen.out);go_wp2_with fail;refine Az Hpu ?_;intro e w6 hq;obtain⟨rfl,p6,P6,L6,D6⟩:=(D4.out.fr0 ((Ao Aj w4).alloc (.cells #[J V val] 22))).ofR hq;have L6:=T L6;have D6:=T D6;clear hq
 go_wp2
 go_end0;refine⟨rfl,_,_,(L4.out.tr (Lk.fr0 ((Ao _ w4).alloc _))).tr L6.out, ?_⟩;have h6:=D6.out;simpa only[Ea] using h6
end Rn
namespace Rn
open Gs Sv Gm Rm
theorem drop_ne{l:List Int}(h:2≤l.length):l.dropLast≠[]:=λe=>by
 have:=congrArg List.length e;simp at this;omega
theorem store_any(w:Aa)(p:Rp)(x:Rs)(P:AE)(a:Bs.Ab)(A:Mu.Au)(g:Mc)(h:Dn w p x P a A g)(hr:Ready x)(hpg:x.s.pg=Ac)(hd:2≤x.s.d.length)(hv8:EH (AW x.s.d)=Ag)(ho:g.b.outs.length≤1000000):At Tryz.prog 173 #[↑p.g] w (DPost w p P a A (Ea (stR x.s x.cnt g) x.cnt) (stR x.s x.cnt g).g (AF #[])):=by
 have hb:=(show Bl x.s.d from hr.k.1.d).top;have hc2:=(show Bl x.s.d from hr.k.1.d).top2;obtain⟨v,hv⟩:=A8 (AW x.s.d);obtain⟨u,hu⟩:=A8 (top2 x.s.d);have Hp:=T (NC w p x _ _ h.rn (λe=>by rw[e] at hd;simp at hd));have H:=T h;rw[hv] at Hp hb;rw[hu] at hc2;obtain⟨hb0,hb1⟩:=hb;obtain⟨hu0,hu1⟩:=hc2;have hst:stR x.s x.cnt g=⟨Gm.pop2 x.s,0,0,Ag,⟨g.b.store v u,g.l⟩⟩:=by unfold stR;rw[hv,hu]
 rw[hst];rw[hv] at hv8;have hlb:Bs.loadB v=Ag:=by simp only[EH,Bool.and_eq_true] at hv8;exact hv8.2
 have HR:=T hr;have HU:Hid (AW (Gm.pop1 x.s).d=u):=T hu;have HND:Hid ((Gm.pop1 x.s).d≠[]):=T (drop_ne hd);have HV8:=T hv8;have HPG:=T hpg;have HOUT:=T ho;clear h hr hd hv hu ho hst hv8 hpg;go_in;go_wp2_with fail;refine Az Hp ?_;intro e w1 hq;obtain⟨rfl,⟨g1,A1,ca1,B1,cb1⟩,P1,L1,D1⟩:=H.out.ofR hq;obtain rfl:g1=p.g:=L1.g;clear hq;have Hp2:=T (NC w1 _ _ _ _ D1.rn HND.out);rw[show AW ({x with s:=Gm.pop1 x.s}:Rs).s.d=u from HU.out] at Hp2;have L1:=T L1;have D1:=T D1;go_wp2_with fail;refine Az Hp2 ?_;intro e w2 hq;obtain⟨rfl,⟨g2,A2,ca2,B2,cb2⟩,P2,L2,D2⟩:=D1.out.ofR hq;obtain rfl:g2=p.g:=L2.g;clear hq;have Hw:=T (VR w2 _ _ _ _ _ _ D2 HPG.out v 3 HV8.out (Ah rfl));have L2:=T (L1.out.tr L2);clear D2;go_wp2_with fail;refine Az Hw ?_;rintro e w3 ⟨rfl,⟨g3,A3,ca3,B3,cb3⟩,P3,L3,D3⟩;obtain rfl:g3=p.g:=L3.g;have L:=T (L2.out.tr L3);have D3:=T D3;clear Hw L3;have dv:=D3.out.rn.b.cell 21;have c16:=D3.out.rn.b.cell 16;have c17:=D3.out.rn.b.cell 17;have c18:=D3.out.rn.b.cell 18;obtain⟨F,hB,hF⟩:=D3.out.mc.bus;have Hl:=T (λW (f:Fr Aj w3 W)=>Bs.store_any W F a _ (hB.fr0 f) v u x.cnt hb0 hb1 hu0 hu1 HOUT.out);have HB:=T (Ay hB hF);clear hB hF;go_upto_region 5 with(fail);go_region_held (λW=>W.cell? ⟨p.g,16,G⟩=I (J AP x.cnt)∧W.cell? ⟨p.g,18,G⟩=I ↑a.gB) (first|exact⟨s16,s18⟩|exact⟨c16,c18⟩|go_keep)
  (((refine(Hl.out _ (Ao _ w3).drew).mono ?_);intro e w4 hq;obtain⟨rfl,M4,f4⟩:=(D3.out.fr0 (Ao Aj w3).drew).mc.busPost (HB.out.1.fr0 (Ao _ w3).drew) HB.out.2 hq;have D4:=T (Dn.mk ((D3.out.rn.fr0 (Ao _ w3).drew).fr f4 (λk hk e=>e (D3.out.ip k hk))) M4 D3.out.ip D3.out.n0);have L4:=T (L.out.tr ((Lk.fr0 (Ao _ w3).drew).tr (Lk.frP f4)));have s16:=D4.out.rn.b.cell 16;have s18:=D4.out.rn.b.cell 18;clear M4 f4 hq))
 go_wp2
 go_end0;exact⟨rfl,_,_,L4.out,D4.out⟩
end Rn
namespace Gc
open Gs Sv
variable{op:Int}
theorem Ql(h:Dd op=Ag):op=0∨op=1∨op=2∨op=3∨op=4∨op=5∨op=6∨op=7∨op=8∨op=16∨op=17∨op=18∨op=19∨op=20∨op=21∨op=22∨op=23∨op=24∨op=25∨op=32∨op=33∨op=34∨op=35∨op=36∨op=37∨op=38∨op=39∨op=40∨op=48∨op=49∨op=50∨op=51∨op=52∨op=53∨op=64∨op=65∨op=66∨op=67∨op=68∨op=69:=by
 simp[Dd] at h;omega
theorem mB(h:Dd op=Ac):(op==0)=Ac∧(op==1)=Ac∧(op==2)=Ac∧(op==3)=Ac∧(op==4)=Ac∧(op==5)=Ac∧(op==6)=Ac∧(op==7)=Ac∧(op==8)=Ac∧(op==16)=Ac∧(op==17)=Ac∧(op==18)=Ac∧(op==19)=Ac∧(op==20)=Ac∧(op==21)=Ac∧(op==22)=Ac∧(op==23)=Ac∧(op==24)=Ac∧(op==25)=Ac∧(op==32)=Ac∧(op==33)=Ac∧(op==34)=Ac∧(op==35)=Ac∧(op==36)=Ac∧(op==37)=Ac∧(op==38)=Ac∧(op==39)=Ac∧(op==40)=Ac∧(op==48)=Ac∧(op==49)=Ac∧(op==50)=Ac∧(op==51)=Ac∧(op==52)=Ac∧(op==53)=Ac∧(op==64)=Ac∧(op==65)=Ac∧(op==66)=Ac∧(op==67)=Ac∧(op==68)=Ac∧(op==69)=Ac:=by
 simp only[beq_eq_false_iff_ne,ne_eq];simp[Dd] at h;omega
theorem VT(h:Dd op=Ac):AK op=0:=by
 simp[Dd] at h;have h1:Kt op=Ac:=by simp[Kt];omega
 have h2:Dd op=Ac:=by simp[Dd];omega
 unfold AK;rw[h1,h2,Ae AC,Ae O,Ae AC]
theorem mC(w:Aa)(op:Int)(h:Dd op=Ac):At Tryz.prog 128 #[J U op] w λe w'=>e=Ax (J U 0)∧w=w':=by
 obtain⟨n0,n1,n2,n3,n4,n5,n6,n7,n8,n16,n17,n18,n19,n20,n21,n22,n23,n24,n25,n32,n33,n34,n35,n36,n37,n38,n39,n40,n48,n49,n50,n51,n52,n53,n64,n65,n66,n67,n68,n69⟩:=mB h;exact VU
theorem size_any(w:Aa)(op:Int):At Tryz.prog 128 #[J U op] w λe w'=>e=Ax (J U (AK op))∧w=w':=by
 cases h:Dd op
 ·rw[VT h];exact mC w op h
 ·rcases Ql h with rfl|rfl|rfl|rfl|rfl|rfl|rfl|rfl|rfl|rfl|rfl|rfl|rfl|rfl|rfl|rfl|rfl|rfl|rfl|rfl|rfl|rfl|rfl|rfl|rfl|rfl|rfl|rfl|rfl|rfl|rfl|rfl|rfl|rfl|rfl|rfl|rfl|rfl|rfl|rfl
  all_goals
   clear h;go_in
   go_wp2
   go_ret;exact⟨AL,rfl⟩
end Gc
namespace Gc
open Gs Sv
theorem ends_any(w:Aa)(op:Int):At Tryz.prog 132 #[J U op] w λe w'=>e=Ax (Ap (endsB op))∧w=w':=by
 have hc:op<32∨(32≤op∧op≤40)∨(40<op∧op<64)∨(64≤op∧op≤69)∨69<op:=O;obtain⟨q,hq⟩:=A8 (endsB op);rw[hq];rcases hc with h|h|h|h|h;·have e:=Qm;exact NF
 ·have e:q=Ag:=by rw[←hq];simp[endsB];omega
  exact Qo
 ·have e:=Qm;subst e;obtain⟨h1,h2⟩:=h;have d1:=NH;have d2:decide (64≤op)=Ac:=AA;exact Mi
 ·have e:q=Ag:=by rw[←hq];simp[endsB];omega
  subst e;obtain⟨h1,h2⟩:=h;have d1:=NH;exact Mi
 ·have e:=Qm;subst e;have d1:=NH;exact VV
theorem mD(w:Aa)(op:Int):At Tryz.prog 161 #[J U op] w λe w'=>e=Ax (Ap (Gn op))∧w=w':=by
 have hc:op<65∨(65≤op∧op≤69)∨69<op:=O;obtain⟨q,hq⟩:=A8 (Gn op);rw[hq];rcases hc with h|h|h;·have e:q=Ac:=Qq;exact NF
 ·have e:q=Ag:=Qq;exact Qo
 ·have e:q=Ac:=Qq;subst e;exact VV
theorem plain_any(w:Aa)(op:Int):At Tryz.prog 138 #[J U op] w λe w'=>e=Ax (Ap (BZ op))∧w=w':=by
 have hc:op<0∨(0≤op∧op≤8)∨(8<op∧op<16)∨(16≤op∧op≤25∧op≠24)∨op=24∨(25<op∧op<32)∨(32≤op∧op≤40)∨40<op:=O;obtain⟨q,hq⟩:=A8 (BZ op);rw[hq];rcases hc with h|h|h|h|h|h|h|h;·have e:=NI;exact NF
 ·have e:=Qr;exact Qo
 ·have e:=NI;exact VW
 ·have e:=Qr;subst e;obtain⟨h1,h2,h3⟩:=h;have d1:=NJ;have d3:(op !=24)=Ag:=by simp;exact h3
  have d4:(op==24)=Ac:=by simp;exact h3
  exact Mi
 ·subst h;have e:q=Ac:=by rw[←hq];decide
  exact NF
 ·have e:=NI;subst e;obtain⟨h1,h2⟩:=h;have d1:=NJ;have d2:=Qs;exact Mi
 ·have e:=Qr;exact VW
 ·have e:=NI;subst e;have d1:=NJ;have d2:=NH;have d3:=Qs;exact Mi
theorem size_cases(op:Int):AK op=0∨AK op=1∨AK op=2∨AK op=5:=by
 unfold AK;split;·omega
 split;·omega
 split<;>omega
abbrev Jn(i:Ins):As:=A9 #[J U i.op,J V i.n]
theorem right_any(w:Aa)(i:Ins):At Tryz.prog 140 #[Jn i] w λe w'=>e=Ax (Ap (DR i))∧Fr Aj w w':=by
 have F1:=T ((Ao Aj w).alloc (.cells #[J U i.op,J V i.n] 27));obtain⟨op,n⟩:=i;have Hs:=T (λW=>size_any W op);have e:DR ⟨op,n⟩=if AK op=0 then Ac else if AK op=1 then decide (n=0) else if AK op=2 then decide (n≤255) else Ag:=rfl;rw[e];clear e;rcases size_cases op with h|h|h|h;·rw[h] at Hs⊢;clear h;simp only[if_true];exact NL
 ·rw[h] at Hs⊢;clear h;have hb:(n==0)=decide (n=0):=by by_cases q:n=0<;>simp[q]
  simp only[Int.reduceEq,if_true,if_false];generalize decide (n=0)=q at*;exact NL
 ·rw[h] at Hs⊢;clear h;simp only[Int.reduceEq,if_true,if_false];generalize hq:decide (n≤255)=q at*;exact NL
 ·rw[h] at Hs⊢;clear h;simp only[Int.reduceEq,if_true,if_false];exact NL
end Gc
namespace Sp
open Gs Sv Gc
theorem mE{fn:Func}{t u v x:Tmp}(h:fn.results=#[.tmp t,.tmp u,.tmp v,.tmp x])(tmps:AO)(P:CF)(w:Aa):(results fn tmps).run P w=.ok (AF #[tmps.getD t BY,tmps.getD u BY,tmps.getD v BY,tmps.getD x BY]) w:=by
 simp[results,h]
def needsV(op:Int):As:=AF #[J U (Gs.takeD op),J U (Gs.putD op),J U (Gs.takeR op),J U (Gs.putR op)]
theorem mF(w:Aa)(op:Int)(h:Dd op=Ag):At Tryz.prog 164 #[J U op] w λe w'=>e=Ax (needsV op)∧w=w':=by
 rcases Ql h with rfl|rfl|rfl|rfl|rfl|rfl|rfl|rfl|rfl|rfl|rfl|rfl|rfl|rfl|rfl|rfl|rfl|rfl|rfl|rfl|rfl|rfl|rfl|rfl|rfl|rfl|rfl|rfl|rfl|rfl|rfl|rfl|rfl|rfl|rfl|rfl|rfl|rfl|rfl|rfl
 all_goals
  clear h;go_in
  go_wp2
  refine Bt (mE rfl _ _ _) rfl ?_;exact⟨AL,rfl⟩
theorem mG{i:Ins}(h:DR i=Ag):Dd i.op=Ag:=by
 cases hk:Dd i.op
 ·rw[DR,VT hk] at h;simp at h
 ·rfl
end Sp
end Go.Proofs.YtdfegdoeebaagaaGreatDoor
