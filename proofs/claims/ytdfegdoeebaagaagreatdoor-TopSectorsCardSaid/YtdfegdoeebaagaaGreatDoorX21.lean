import Derived.Test.YtdfegdoeebaagaaGreatDoorX20
open Go.Value renaming slice→Z,int→J,tuple→AF,ownBlock→Cb,agg→A9,pointer→Bm
open Option renaming some→I,none→G
open Go.IntKind renaming i64→U,u32→V,wrap_u32→Gu
open Go renaming World→Aa,Value→As,Calls→At,TypeId→AN,Ending→AY,info_parts→Cj,maxLen→BQ
open Bool renaming false→Ac,true→Ag
open List renaming getElem?_eq_getElem→BK,length_append→Cq,getElem?_take_of_lt→Dq,getElem?_map→DP,length_pos_iff→Ef,mem_cons→Dv,getLastD_eq_getLast?→FI,length_take→Iv
open Go.Ending renaming returned→Ax
open Nat renaming le_trans→Bf
open Or renaming inl→Af,inr→Ah
open Array renaming getElem?_toList→DV
set_option linter.all false
set_option maxHeartbeats 40000000
set_option maxRecDepth 1000000
open Go Go.RowKit
namespace Go.Proofs.YtdfegdoeebaagaaGreatDoor
namespace Lo
open Gs Sv Tr Em Ip
def iis(l:List IIn):List As:=l.flatMap λx=>(iiA x).toList
theorem Za(l m:List IIn):iis (l++m)=iis l++iis m:=by simp[iis]
theorem R7(l:List IIn): ∀u∈iis l,u.oneCell'=Ag:=by
 intro u hu;obtain⟨i,_,hi⟩:=List.mem_flatMap.1 hu;simp only[Dv,List.not_mem_nil,or_false] at hi;rcases hi with rfl|rfl|rfl|rfl|rfl<;>rfl
structure Lp where
 g:Nat
 C:Aw
 cc:Nat
 D:Aw
 cd:Nat
 R:Aw
 cr:Nat
def Lp.its(p:Lp)(k:Nat):Prop:=k=p.g∨ab p.C=I k∨ab p.D=I k∨ab p.R=I k
def lwF(x:Lw)(cv dv rv:As)(ct:Int):Nat→As:=λi=>
 if i=0 then cv else if i=5 then Z G 0 0 else if i=6 then Z G 0 0 else if i=7 then J U x.fl else if i=8 then J V 0 else if i=9 then J U x.tg
 else if i=10 then J U x.br else if i=11 then J V 0 else if i=12 then J U ct else if i=14 then dv else if i=15 then J U x.nd else if i=16 then J U x.hd
 else if i=17 then J U 1 else if i=18 then rv else if i=19 then J U x.nr else if i=20 then J U x.hr else if i=21 then J U 2 else J U 0
section
variable {x:Lw} {cv dv rv:As} {ct:Int}
theorem lwF0(u:As)(i:Nat):Bz (lwF x cv dv rv ct) 0 u i=lwF x u dv rv ct i:=by
 unfold Bz lwF;by_cases h:i=0;·simp[h]
 ·simp[h]
theorem lwF7(n:Int)(i:Nat):Bz (lwF x cv dv rv ct) 7 (J U n) i=lwF {x with fl:=n} cv dv rv ct i:=by
 unfold Bz lwF;by_cases h:i=7;·simp[h]
 ·simp[h]
theorem lwF9(n:Int)(i:Nat):Bz (lwF x cv dv rv ct) 9 (J U n) i=lwF {x with tg:=n} cv dv rv ct i:=by
 unfold Bz lwF;by_cases h:i=9;·simp[h]
 ·simp[h]
theorem lwF10(n:Int)(i:Nat):Bz (lwF x cv dv rv ct) 10 (J U n) i=lwF {x with br:=n} cv dv rv ct i:=by
 unfold Bz lwF;by_cases h:i=10;·simp[h]
 ·simp[h]
theorem lwF14(u:As)(i:Nat):Bz (lwF x cv dv rv ct) 14 u i=lwF x cv u rv ct i:=by
 unfold Bz lwF;by_cases h:i=14;·simp[h]
 ·simp[h]
theorem lwF15(n:Nat)(i:Nat):Bz (lwF x cv dv rv ct) 15 (J U n) i=lwF {x with nd:=n} cv dv rv ct i:=by
 unfold Bz lwF;by_cases h:i=15;·simp[h]
 ·simp[h]
theorem lwF16(n:Nat)(i:Nat):Bz (lwF x cv dv rv ct) 16 (J U n) i=lwF {x with hd:=n} cv dv rv ct i:=by
 unfold Bz lwF;by_cases h:i=16;·simp[h]
 ·simp[h]
theorem lwF18(u:As)(i:Nat):Bz (lwF x cv dv rv ct) 18 u i=lwF x cv dv u ct i:=by
 unfold Bz lwF;by_cases h:i=18;·simp[h]
 ·simp[h]
theorem lwF19(n:Nat)(i:Nat):Bz (lwF x cv dv rv ct) 19 (J U n) i=lwF {x with nr:=n} cv dv rv ct i:=by
 unfold Bz lwF;by_cases h:i=19;·simp[h]
 ·simp[h]
theorem lwF20(n:Nat)(i:Nat):Bz (lwF x cv dv rv ct) 20 (J U n) i=lwF {x with hr:=n} cv dv rv ct i:=by
 unfold Bz lwF;by_cases h:i=20;·simp[h]
 ·simp[h]
end
theorem Zb{w:Aa}{base n c g:Nat}{t:AN}{xs:List As}(h:w.ownsRow base t 1 (Z (I ⟨g,0,G⟩) n c) n xs){m:Nat}(hm:m≤n):w.ownsRow base t 1 (Z (I ⟨g,0,G⟩) m c) m (xs.take m):=by
 obtain⟨h1,h2⟩:=h;refine⟨by rw[Iv,h1];omega,Ah ?_⟩;rcases h2 with⟨e,e2⟩|⟨g',cap,cur,e,hb,hB,hle,hcap,hsz,htk⟩;·simp at e
 ·injection e with e1 e2 e3;injection e1 with e1;injection e1 with e1;subst e1 e3;exact⟨g,c,cur,rfl,hb,hB,O,hcap,hsz,by rw[←htk,List.take_take];congr 1;omega⟩
structure Lb(x:Lw)(K:Nat):Prop where
 c:x.code.length≤K
 ld:x.ld.length≤K
 lr:x.lr.length≤K
 nd:x.nd≤K
 nr:x.nr≤K
 hd:x.hd≤K
 hr:x.hr≤K
theorem Lb.le{x:Lw}{K K':Nat}(h:Lb x K)(hk:K≤K'):Lb x K':=by
 obtain⟨a,b,c,d,e,f,g⟩:=h;constructor<;>omega
structure LwH(w:Aa)(base:Nat)(p:Lp)(x:Lw)(ct:Int)(K:Nat):Prop where
 b:Cells w p.g 251 22 (lwF x (Z p.C x.code.length p.cc) (Z p.D x.ld.length p.cd) (Z p.R x.lr.length p.cr) ct)
 c:w.ownsRow base 266 5 (Z p.C x.code.length p.cc) x.code.length (iis x.code)
 d:w.ownsRow base 3 1 (Z p.D x.ld.length p.cd) x.ld.length (fxV x.ld)
 r:w.ownsRow base 3 1 (Z p.R x.lr.length p.cr) x.lr.length (fxV x.lr)
 dr: ∀k,ab p.D=I k→ab p.R≠I k
 g0:base≤p.g
 k:Lb x K
section
variable {w w' w2:Aa} {base:Nat} {p p' p2:Lp} {x x' x2:Lw} {ct:Int} {K K':Nat} {S:AE} {v:As} {e:AY}
theorem LwH.ge(h:LwH w base p x ct K): ∀k,p.its k→base≤k:=by
 rintro k (e|e|e|e);·rw[e];exact h.g0
 ·exact Cn h.c k (ab_own h.c e)
 ·exact Cn h.d k (ab_own h.d e)
 ·exact Cn h.r k (ab_own h.r e)
theorem LwH.hb(h:LwH w base p x ct K):base≤↑w:=Nat.le_of_lt (Nat.lt_of_le_of_lt h.g0 h.b.lt)
theorem LwH.fr(h:LwH w base p x ct K)(f:Fr S w w')(hs: ∀k,p.its k→ ¬S k):LwH w' base p x ct K:=
 ⟨h.b.fr f (hs _ (Af rfl)),AR h.c f (λk hk=>hs k (Ah (Af (own_ab hk)))),AR h.d f (λk hk=>hs k (Ah (Ah (Af (own_ab hk))))),AR h.r f (λk hk=>hs k (Ah (Ah (Ah (own_ab hk))))),h.dr,h.g0,h.k⟩
theorem LwH.fr0(h:LwH w base p x ct K)(f:Fr Aj w w'):LwH w' base p x ct K:=h.fr f (λ_ _ e=>e)
theorem LwH.le(h:LwH w base p x ct K)(hb:K≤K'):LwH w base p x ct K':=⟨h.b,h.c,h.d,h.r,h.dr,h.g0,h.k.le hb⟩
theorem LwH.gC(h:LwH w base p x ct K):ab p.C≠I p.g:=λe=>by
 obtain⟨cs,hb,_⟩:=h.b;exact AZ h.c hb Ak (ab_own h.c e)
theorem LwH.gD(h:LwH w base p x ct K):ab p.D≠I p.g:=λe=>by
 obtain⟨cs,hb,_⟩:=h.b;exact AZ h.d hb Ak (ab_own h.d e)
theorem LwH.gR(h:LwH w base p x ct K):ab p.R≠I p.g:=λe=>by
 obtain⟨cs,hb,_⟩:=h.b;exact AZ h.r hb Ak (ab_own h.r e)
theorem own_ne{t t2:AN}{s s2 n m c c2:Nat}{A A2:Aw}{xs ys:List As}(h:w.ownsRow base t s (Z A n c) n xs)(h2:w.ownsRow base t2 s2 (Z A2 m c2) m ys)(hne:t≠t2)(k:Nat)(e1:ab A=I k)(e2:ab A2=I k):False:=by
 have h3:=ab_own h e1;have h4:=ab_own h2 e2;rcases h.2 with⟨e,_⟩|⟨g,cap,cur,hv,_,hb,_⟩;·rw[e] at h3;simp[Cb] at h3
 ·rw[hv] at h3;have hk:g=k:=by simpa[Cb] using h3
  subst hk;exact AZ h2 hb (λe=>hne e.symm) h4
theorem LwH.CD(h:LwH w base p x ct K)(k:Nat)(e1:ab p.C=I k)(e2:ab p.D=I k):False:=own_ne h.c h.d Ak k e1 e2
theorem LwH.CR(h:LwH w base p x ct K)(k:Nat)(e1:ab p.C=I k)(e2:ab p.R=I k):False:=own_ne h.c h.r Ak k e1 e2
structure Llk(w w':Aa)(p p':Lp):Prop where
 g:p'.g=p.g
 it: ∀k,p'.its k→p.its k∨w.heap.size≤k
 f:Fr p.its w w'
theorem Llk.refl(w:Aa)(p:Lp):Llk w w p p:=⟨rfl,λk hk=> Af hk,Ao _ _⟩
theorem Llk.tr(h:Llk w w' p p')(k:Llk w' w2 p' p2):Llk w w2 p p2:=XR
theorem Llk.fr0(h:Llk w w' p p')(f:Fr Aj w' w2):Llk w w2 p p':=⟨h.g,h.it,h.f.trans f (λ_ _ e=>e.elim)⟩
theorem Llk.from0(f:Fr Aj w w')(h:Llk w' w2 p p'):Llk w w2 p p':=
 ⟨h.g,λk hk=>by
  have:=f.size;rcases h.it k hk with e|e;·exact Af e
  ·exact Ah O,(f.mono (S':=p.its) (λ_ _ e=>e.elim)).tr h.f⟩
def LPost(w:Aa)(base:Nat)(p:Lp)(x':Lw)(ct:Int)(K':Nat)(kd kr:Bool)(v:As)(e:AY)(w':Aa):Prop:=
 e=Ax v∧ ∃p',Llk w w' p p'∧LwH w' base p' x' ct K'∧(kd=Ag→p'.D=p.D∧p'.cd=p.cd)∧(kr=Ag→p'.R=p.R∧p'.cr=p.cr)
variable{kd kr:Bool}
theorem LPost.le(h:LPost w base p x' ct K kd kr v e w')(hb:K≤K'):LPost w base p x' ct K' kd kr v e w':=XQ
theorem LPost.then(h:Llk w w' p p')(hd:p'.D=p.D∧p'.cd=p.cd)(hr:p'.R=p.R∧p'.cr=p.cr)(k:LPost w' base p' x' ct K' kd kr v e w2):LPost w base p x' ct K' kd kr v e w2:=by
 obtain⟨rfl,p2,k1,k2,k3,k4⟩:=k;exact⟨rfl,p2,h.tr k1,k2,λe=>⟨(k3 e).1.trans hd.1,(k3 e).2.trans hd.2⟩,λe=>⟨(k4 e).1.trans hr.1,(k4 e).2.trans hr.2⟩⟩
theorem LPost.weak{kd' kr':Bool}(h:LPost w base p x' ct K kd kr v e w')(h1:kd'=Ag→kd=Ag:=by decide)(h2:kr'=Ag→kr=Ag:=by decide):LPost w base p x' ct K kd' kr' v e w':=by
 obtain⟨he,p',k1,k2,k3,k4⟩:=h;exact⟨he,p',k1,k2,λe=>k3 (h1 e),λe=>k4 (h2 e)⟩
theorem LwH.cell(h:LwH w base p x ct K)(i:Nat)(u:As)(hu: ∀j,Bz (lwF x (Z p.C x.code.length p.cc) (Z p.D x.ld.length p.cd) (Z p.R x.lr.length p.cr) ct) i u j=lwF x' (Z p.C x.code.length p.cc) (Z p.D x.ld.length p.cd) (Z p.R x.lr.length p.cr) ct j)(e1:x'.code=x.code)(e2:x'.ld=x.ld)(e3:x'.lr=x.lr)(hk:Lb x' K'):LwH (w.setCell ⟨p.g,i,G⟩ u) base p x' ct K'∧Llk w (w.setCell ⟨p.g,i,G⟩ u) p p:=by
 have f:Fr (· =p.g) w (w.setCell ⟨p.g,i,G⟩ u):=Br _ _ _ _;refine⟨⟨?_, ?_, ?_, ?_,h.dr,h.g0,hk⟩,rfl,λk hk=> Af hk,f.mono (λk _ e=> Af e)⟩;·rw[e1,e2,e3];exact(h.b.set_ i u).congr (λj _=>hu j)
 ·rw[e1];exact AR h.c f (λk hk e=>h.gC C0)
 ·rw[e2];exact AR h.d f (λk hk e=>h.gD C0)
 ·rw[e3];exact AR h.r f (λk hk e=>h.gR C0)
end
theorem info5i:(Tryz.prog.info? 266).map (λi=>(i.zero,i.size,i.bytes))=I (I (A9 #[J U 0,J U 0,J U 0,J U 0,J V 0]),5,40):=AL
section
variable (w:Aa) (base:Nat) (p:Lp) (x:Lw) (ct:Int) (K:Nat)
theorem add_any(h:LwH w base p x ct K)(hK:K≤10000)(op a b:Nat)(imm o1 d1 a1 b1:Int)(ho:(op:Int)=o1)(ha:(a:Int)=a1)(hb1:(b:Int)=b1):At Tryz.prog 185 #[↑p.g,A9 #[J U o1,J U d1,J U a1,J U b1,J V imm]] w (LPost w base p (x.add op a b imm) ct (K+1) Ag Ag (J U x.code.length)):=by
 subst ho ha hb1;obtain⟨i0,hi0,hz0,hz1,hz2⟩:=Cj info5i;have c0:w.cell? ⟨p.g,0,G⟩=I (Z p.C x.code.length p.cc):=h.b.cell 0 O;have hgl:=h.b.lt;have hlen:=h.k.c;have hb:=h.hb;have H:=T h;generalize hm:x.code.length=m at*;have HM:=T hm;have hc:w.ownsRow base 266 5 (Z p.C m p.cc) m (iis x.code):=by rw[←hm];exact h.c
 have hbx:Blk (w.alloc (.cells #[J U op,J U m,J U a,J U b,J V imm] 266)) ↑w 266 #[J U op,J U m,J U a,J U b,J V imm]:=AI _ _ _;have HC1:=T (DU (w:=(w.alloc (.cells #[J U op,J U m,J U a,J U b,J V imm] 266)).drew) (DU hc (.cells #[J U op,J U m,J U a,J U b,J V imm] 266)) (.cells #[J U op,J U m,J U a,J U b,J V imm] 266));obtain⟨W1,hW1⟩:=A8 ((w.alloc (.cells #[J U op,J U m,J U a,J U b,J V imm] 266)).drew.alloc (.cells #[J U op,J U m,J U a,J U b,J V imm] 266));have hsz1:W1.heap.size=w.heap.size+2:=by rw[←hW1];simp[World.drew]
 have B0:=T ((h.b.alloc (.cells #[J U op,J U m,J U a,J U b,J V imm] 266)).drew.alloc (.cells #[J U op,J U m,J U a,J U b,J V imm] 266));have BX:=T (hbx.drew.alloc (.cells #[J U op,J U m,J U a,J U b,J V imm] 266));have hrd:Hid (Reads W1 (↑w+2) 5 (I ⟨↑w+1,0,G⟩) 1 (iis [⟨op,m,a,b,imm⟩])):=T (by
  have h1:Blk W1 (↑w+1) 266 #[J U op,J U m,J U a,J U b,J V imm]:=by rw[←hW1];exact CK _ _ _ (by simp[World.drew])
  have:=Do (size:=5) (n:=1) h1 AC;simpa[iis] using this)
 have F01:Hid (Fr Aj w W1):=T (by rw[←hW1];exact(((Ao _ w).alloc _).drew).alloc _);rw[hW1] at HC1 B0 BX;have k1:W1.cell? ⟨p.g,0,G⟩=I (Z p.C m p.cc):=(B0.out.cell 0 O).trans Zc;have hgl1:=B0.out.lt;have hwb:=hbx.cell 1;have hwy:=hbx.frozen 1;clear hm h hbx;go_in;go_wp2_with fail;go_region_law (
  try rw[hW1]
  refine IC _ rfl (.tmp 17) (.tmp 19) 216 rfl base 266 i0 _ 5 40 Tryz.underlying216 hi0 hz0 hz1 hz2 rfl O (Z p.C m p.cc) m (iis x.code) BC HC1.out (w.heap.size+2) (I ⟨w.heap.size+1,0,G⟩) 1 1 (iis [⟨op,m,a,b,imm⟩]) BC hrd.out (R7 _) Cc O O ?_
  intro v1 w1 hown1 hg1 hat1
  obtain⟨A1,c1,rfl⟩:=Et hown1
  have b1:=B0.out.fr (S:=λq=>ab p.C=I q) ((Ao _ _).grown hg1 (λq hq=> Af (own_ab hq))) (λe=>H.out.gC e)
  have y18:=b1.frozen 0
  have k18:w1.cell? ⟨p.g,0,G⟩=I (Z p.C m p.cc):=(b1.cell 0 O).trans Zc
  have x1:=(BX.out.fr (S:=λq=>ab p.C=I q) ((Ao _ _).grown hg1 (λq hq=> Af (own_ab hq))) (λe=>by have:=own_lt hc _ (ab_own hc e);omega)).cell 1
  have xl1:w.heap.size<w1.heap.size:=by have:=hg1.size;omega
  have hgl1:=b1.lt)
 all_goals
  have fg:Fr (λq=>ab p.C=I q) w w1:=(F01.out.mono (λ_ _ e=>e.elim)).grown hg1 (λq hq=> Af (own_ab hq));have f2:Fr (· =p.g) w1 (w1.setCell ⟨p.g,0,G⟩ (Z A1 (m+1) c1)):=Br _ _ _ _;have hnew: ∀q,ab A1=I q→ab p.C=I q∨w.heap.size≤q:=λq hq=>by
   have e:=ab_own hown1 hq;rcases hat1 with e2|e2;·exact Od
   ·rw[e2] at e;exact Ah (by have:↑W1=q:=(by simpa using e);omega)
  have hgA:ab A1≠I p.g:=λe=>by
   rcases hnew _ e with e|e;·exact H.out.gC e
   ·omega
  have x2:=x1;have E7:Hid (LPost w base p (x.add op a b imm) ct (K+1) Ag Ag (J .i64 m) (Ax (J .i64 m)) (w1.setCell ⟨p.g,0,G⟩ (Z A1 (m+1) c1))):=T (by
   refine⟨rfl,⟨p.g,A1,c1,p.D,p.cd,p.R,p.cr⟩,⟨rfl,λq hq=>?_,(fg.mono (λq _ e=> Ah (Af e))).trans f2 (λq _ e=> Af e)⟩,⟨?_, ?_, ?_, ?_,H.out.dr,H.out.g0, ?_⟩,λ_=>⟨rfl,rfl⟩,λ_=>⟨rfl,rfl⟩⟩
   ·rcases hq with e|e|e|e;·exact JO
    ·rcases hnew q e with e|e;·exact JP
     ·exact Ah e
    ·exact Ov
    ·exact R8
   ·have e:=Zd;rw[e];exact(b1.set_ 0 _).congr (λj _=>(lwF0 _ j).trans rfl)
   ·have e:=Zd;rw[e];have e2:iis (x.add op a b imm).code=iis x.code++iis [⟨op,m,a,b,imm⟩]:=by rw[←Za,←HM.out];rfl
    rw[e2];exact AR hown1 f2 (λq hq e=>hgA JY)
   ·exact AR (AR H.out.d fg (λq hq e=>H.out.CD q e (own_ab hq))) f2 (λq hq e=>H.out.gD JY)
   ·exact AR (AR H.out.r fg (λq hq e=>H.out.CR q e (own_ab hq))) f2 (λq hq e=>H.out.gR JY)
   ·have:=H.out.k;exact⟨by show(x.code++[_]).length≤K+1;rw[Cq,HM.out];simp;omega,Nat.le_succ_of_le this.ld,Nat.le_succ_of_le this.lr,Nat.le_succ_of_le this.nd,Nat.le_succ_of_le this.nr,Nat.le_succ_of_le this.hd,Nat.le_succ_of_le this.hr⟩)
  have x3:(w1.setCell ⟨p.g,0,G⟩ (Z A1 (m+1) c1)).cell? ⟨↑w,1,G⟩=I (J .i64 m):=f2.cell x1 xl1 (by show ¬↑w=p.g;omega);clear fg f2 hnew hgA hown1 hg1 hat1 b1 y18 k18 hgl1 c0 x1 x2 hrd B0 BX HC1 k1;generalize hW:w1.setCell ⟨p.g,0,G⟩ (Z A1 (m+1) c1)=W at*;clear hW
  go_wp2
  go_ret;exact E7.out
theorem RB(h:LwH w base p x ct K)(hK:K≤10000)(v:Int):At Tryz.prog 183 #[↑p.g,J V v] w (LPost w base p (x.add 0 0 0 v) ct (K+1) Ag Ag (J U x.code.length)):=by
 have Ha:=T (add_any w base p x ct K h hK 0 0 0 v 0 0 0 0 rfl rfl rfl);have HG:=T h;clear h;go_in;go_wp2_with ((with_reducible refine Az Ha ?_);intro e w' hq;have he:=hq.1;subst he;have HQ:=T hq;clear hq);go_ret;exact HQ.out
theorem nW(n c gd:Nat)(z:Int)(hc:w.cell? ⟨p.g,14,G⟩=I (Z (I ⟨gd,0,G⟩) (n+1) c))(hy:w.frozen? ⟨p.g,14,G⟩=Ac)(hg:p.g<↑w)(hz:w.cell? ⟨gd,n,G⟩=I (J .i64 z))(hn:n≤10000)(hnc:n+1≤c):At Tryz.prog 184 #[↑p.g,Bm (I ⟨p.g,14,G⟩)] w λe w'=>e=Ax (J .i64 z)∧w.setCell ⟨p.g,14,G⟩ (Z (I ⟨gd,0,G⟩) n c)=w':=CP
theorem Kh(h:LwH w base p x ct K)(hK:K≤9000):At Tryz.prog 184 #[↑p.g,Bm (I ⟨p.g,14,G⟩)] w (LPost w base p x.popD ct (K+2) Ac Ag (J U x.topD)):=by
 have hlen:=h.k.ld;by_cases he:x.ld=[]
 ·have e1:x.popD={x.add 1 0 0 x.nd with nd:=x.nd+1}:=by unfold Lw.popD;rw[An he]
  have e2:x.topD=x.code.length:=by unfold Lw.topD;rw[An he]
  have c0:w.cell? ⟨p.g,14,G⟩=I (Z p.D 0 p.cd):=(h.b.cell 14 O).trans (by show I (Z p.D x.ld.length p.cd)=_;rw[he];rfl);have c1:=Ze;have c3:w.cell? ⟨p.g,17,G⟩=I (J .i64 1):=h.b.cell 17 O;have y1:=h.b.frozen 15;have hgl:=h.b.lt;have hn:=h.k.nd;have hk:=h.k;obtain⟨h1,l1⟩:=h.cell (x':={x with nd:=x.nd+1}) (K':=K+1) 15 (J U ((x.nd+1:Nat):Int)) (λj=>lwF15 (x.nd+1) j) rfl rfl rfl Ow;rw[e1,e2];have Ha:=T (λW (f:Fr Aj (w.setCell ⟨p.g,15,G⟩ (J U ((x.nd+1:Nat):Int))) W)=>add_any W base p {x with nd:=x.nd+1} ct (K+1) (h1.fr0 f) O 1 0 0 x.nd 1 0 0 0 rfl rfl rfl);have L1:=T l1;have hwn:IntKind.u32.wrap ((x.nd:Nat):Int)=x.nd:=ET;have hwi:IntKind.i64.wrap ((x.nd:Nat):Int)=x.nd:=Ox;have k1:(w.setCell ⟨p.g,15,G⟩ (J U ((x.nd+1:Nat):Int))).cell? ⟨p.g,15,G⟩=I (J U ((x.nd:Int)+1)):=(h1.b.cell 15 O).trans (by show I (J U ((x.nd+1:Nat):Int))=_;push_cast;rfl);have k3:(w.setCell ⟨p.g,15,G⟩ (J U ((x.nd+1:Nat):Int))).cell? ⟨p.g,17,G⟩=I (J .i64 1):=h1.b.cell 17 O;have hgl1:=h1.b.lt;clear h h1 l1 e1 e2 he hk;obtain⟨W1,hW1⟩:=A8 (w.setCell ⟨p.g,15,G⟩ (J U ((x.nd:Int)+1)));have ec:((x.nd+1:Nat):Int)=(x.nd:Int)+1:=by push_cast;rfl
  exact Zf
 ·have hn0:0<x.ld.length:=Ef.2 he;obtain⟨gd,cap,cur,hv,hbse,hB,hle,hcap,hsz,htk⟩:=EQ h.d hn0;obtain⟨n,hn⟩: ∃n,x.ld.length=n+1:=⟨x.ld.length -1,O⟩;injection hv with v1 _ v2;have e1:x.popD={x with ld:=x.ld.dropLast}:=by unfold Lw.popD;rw[Ae he]
  have e2:x.topD=x.ld.getLastD 0:=by unfold Lw.topD;rw[Ae he]
  have hz:w.cell? ⟨gd,n,G⟩=I (J U (x.ld.getLastD 0:Nat)):=by
   rw[hB.cell n,←DV,←Dq (show n<x.ld.length*1 by omega),htk];unfold fxV;rw[DP,BK (show n<x.ld.length by omega)];simp only[Option.map_some,Option.some.injEq,Value.int.injEq,true_and];have hg:x.ld.getLastD 0=x.ld[n]' O:=by
    have e:x.ld.length -1=n:=O;rw[FI,List.getLast?_eq_getElem?,e,BK (show n<x.ld.length by omega)];rfl
   rw[hg]
  have c0:w.cell? ⟨p.g,14,G⟩=I (Z (I ⟨gd,0,G⟩) (n+1) cap):=(h.b.cell 14 O).trans (by show I (Z p.D x.ld.length p.cd)=_;rw[v1,v2,hn]);rw[e1,e2];refine(nW w p n cap gd _ c0 (h.b.frozen 14) h.b.lt hz O O).mono ?_;rintro e w' ⟨rfl,rfl⟩;have f:Fr (· =p.g) w (w.setCell ⟨p.g,14,G⟩ (Z (I ⟨gd,0,G⟩) n cap)):=Br _ _ _ _;have hl:x.ld.dropLast.length=n:=Zg;refine⟨rfl,p,⟨rfl,λk hk=> Af hk,f.mono (λk _ e=> .inl e)⟩,⟨?_,AR h.c f (λk hk e=>h.gC C0), ?_, ?_,h.dr,h.g0, ?_⟩,λ_=>⟨rfl,rfl⟩,λ_=>⟨rfl,rfl⟩⟩;·refine(h.b.set_ 14 _).congr (λj _=>(lwF14 _ j).trans ?_);exact Zh
  ·dsimp only;rw[hl];have ho:w.ownsRow base 3 1 (Z (I ⟨gd,0,G⟩) (n+1) cap) (n+1) (fxV x.ld):=by have:=h.d;rwa[v1,v2,hn] at this
   have hx:=AR (Zb ho (show n≤n+1 by omega)) f (λk hk e=>h.gD Zi);rw[v1,v2];have ex:fxV x.ld.dropLast=(fxV x.ld).take n:=Zj;rw[ex];exact hx
  ·exact AR h.r f (λk hk e=>h.gR C0)
  ·have:=h.k;exact⟨Bf this.c O,by(have:=this.ld;dsimp only;rw[List.length_dropLast];omega),Zk,Bf this.nd O,Bf this.nr O,Bf this.hd O,Bf this.hr O⟩
theorem nY(n c gd:Nat)(z:Int)(hc:w.cell? ⟨p.g,18,G⟩=I (Z (I ⟨gd,0,G⟩) (n+1) c))(hy:w.frozen? ⟨p.g,18,G⟩=Ac)(hg:p.g<↑w)(hz:w.cell? ⟨gd,n,G⟩=I (J .i64 z))(hn:n≤10000)(hnc:n+1≤c):At Tryz.prog 184 #[↑p.g,Bm (I ⟨p.g,18,G⟩)] w λe w'=>e=Ax (J .i64 z)∧w.setCell ⟨p.g,18,G⟩ (Z (I ⟨gd,0,G⟩) n c)=w':=CP
theorem Zl(h:LwH w base p x ct K)(hK:K≤9000):At Tryz.prog 184 #[↑p.g,Bm (I ⟨p.g,18,G⟩)] w (LPost w base p x.popR ct (K+2) Ag Ac (J U x.topR)):=by
 have hlen:=h.k.lr;by_cases he:x.lr=[]
 ·have e1:x.popR={x.add 2 0 0 x.nr with nr:=x.nr+1}:=by unfold Lw.popR;rw[An he]
  have e2:x.topR=x.code.length:=by unfold Lw.topR;rw[An he]
  have c0:w.cell? ⟨p.g,18,G⟩=I (Z p.R 0 p.cr):=(h.b.cell 18 O).trans (by show I (Z p.R x.lr.length p.cr)=_;rw[he];rfl);have c1:=Zm;have c3:w.cell? ⟨p.g,21,G⟩=I (J .i64 2):=h.b.cell 21 O;have y1:=h.b.frozen 19;have hgl:=h.b.lt;have hn:=h.k.nr;have hk:=h.k;obtain⟨h1,l1⟩:=h.cell (x':={x with nr:=x.nr+1}) (K':=K+1) 19 (J U ((x.nr+1:Nat):Int)) (λj=>lwF19 (x.nr+1) j) rfl rfl rfl Ow;rw[e1,e2];have Ha:=T (λW (f:Fr Aj (w.setCell ⟨p.g,19,G⟩ (J U ((x.nr+1:Nat):Int))) W)=>add_any W base p {x with nr:=x.nr+1} ct (K+1) (h1.fr0 f) O 2 0 0 x.nr 2 0 0 0 rfl rfl rfl);have L1:=T l1;have hwn:IntKind.u32.wrap ((x.nr:Nat):Int)=x.nr:=ET;have hwi:IntKind.i64.wrap ((x.nr:Nat):Int)=x.nr:=Ox;have k1:(w.setCell ⟨p.g,19,G⟩ (J U ((x.nr+1:Nat):Int))).cell? ⟨p.g,19,G⟩=I (J U ((x.nr:Int)+1)):=(h1.b.cell 19 O).trans (by show I (J U ((x.nr+1:Nat):Int))=_;push_cast;rfl);have k3:(w.setCell ⟨p.g,19,G⟩ (J U ((x.nr+1:Nat):Int))).cell? ⟨p.g,21,G⟩=I (J .i64 2):=h1.b.cell 21 O;have hgl1:=h1.b.lt;clear h h1 l1 e1 e2 he hk;obtain⟨W1,hW1⟩:=A8 (w.setCell ⟨p.g,19,G⟩ (J U ((x.nr:Int)+1)));have ec:((x.nr+1:Nat):Int)=(x.nr:Int)+1:=by push_cast;rfl
  exact Zf
 ·have hn0:0<x.lr.length:=Ef.2 he;obtain⟨gd,cap,cur,hv,hbse,hB,hle,hcap,hsz,htk⟩:=EQ h.r hn0;obtain⟨n,hn⟩: ∃n,x.lr.length=n+1:=⟨x.lr.length -1,O⟩;injection hv with v1 _ v2;have e1:x.popR={x with lr:=x.lr.dropLast}:=by unfold Lw.popR;rw[Ae he]
  have e2:x.topR=x.lr.getLastD 0:=by unfold Lw.topR;rw[Ae he]
  have hz:w.cell? ⟨gd,n,G⟩=I (J U (x.lr.getLastD 0:Nat)):=by
   rw[hB.cell n,←DV,←Dq (show n<x.lr.length*1 by omega),htk];unfold fxV;rw[DP,BK (show n<x.lr.length by omega)];simp only[Option.map_some,Option.some.injEq,Value.int.injEq,true_and];have hg:x.lr.getLastD 0=x.lr[n]' O:=by
    have e:x.lr.length -1=n:=O;rw[FI,List.getLast?_eq_getElem?,e,BK (show n<x.lr.length by omega)];rfl
   rw[hg]
  have c0:w.cell? ⟨p.g,18,G⟩=I (Z (I ⟨gd,0,G⟩) (n+1) cap):=(h.b.cell 18 O).trans (by show I (Z p.R x.lr.length p.cr)=_;rw[v1,v2,hn]);rw[e1,e2];refine(nY w p n cap gd _ c0 (h.b.frozen 18) h.b.lt hz O O).mono ?_;rintro e w' ⟨rfl,rfl⟩;have f:Fr (· =p.g) w (w.setCell ⟨p.g,18,G⟩ (Z (I ⟨gd,0,G⟩) n cap)):=Br _ _ _ _;have hl:x.lr.dropLast.length=n:=Zg;refine⟨rfl,p,⟨rfl,λk hk=> Af hk,f.mono (λk _ e=> .inl e)⟩,⟨?_,AR h.c f (λk hk e=>h.gC C0), ?_, ?_,h.dr,h.g0, ?_⟩,λ_=>⟨rfl,rfl⟩,λ_=>⟨rfl,rfl⟩⟩;·refine(h.b.set_ 18 _).congr (λj _=>(lwF18 _ j).trans ?_);exact Zh
  ·exact AR h.d f (λk hk e=>h.gD C0)
  ·dsimp only;rw[hl];have ho:w.ownsRow base 3 1 (Z (I ⟨gd,0,G⟩) (n+1) cap) (n+1) (fxV x.lr):=by have:=h.r;rwa[v1,v2,hn] at this
   have hx:=AR (Zb ho (show n≤n+1 by omega)) f (λk hk e=>h.gR Zi);rw[v1,v2];have ex:fxV x.lr.dropLast=(fxV x.lr).take n:=Zj;rw[ex];exact hx
  ·have:=h.k;exact⟨Bf this.c O,Zn,by(have:=this.lr;dsimp only;rw[List.length_dropLast];omega),Bf this.nd O,Bf this.nr O,Bf this.hd O,Bf this.hr O⟩
end
end Lo
namespace Lo
open Gs Sv Tr Em Ip
section
variable (w:Aa) (base:Nat) (p:Lp) (x:Lw) (ct:Int) (K:Nat)
theorem topD_any(h:LwH w base p x ct K)(hK:K≤10000):At Tryz.prog 186 #[Bm (I ⟨p.g,14,G⟩)] w (LPost w base p {x with hd:=max x.hd (x.ld.length -x.nd)} ct K Ag Ag (AF #[])):=by
 have hk:=h.k;have c0:w.cell? ⟨p.g,14,G⟩=I (Z p.D x.ld.length p.cd):=h.b.cell 14 O;have c1:=Ze;have c2:w.cell? ⟨p.g,16,G⟩=I (J U x.hd):=h.b.cell 16 O;have y2:=h.b.frozen 16;have hgl:=h.b.lt;have k1:=hk.ld;have k2:=hk.nd;have k3:=hk.hd;have hx:=h.cell (x':={x with hd:=max x.hd (x.ld.length -x.nd)}) (K':=K) 16 (J U ((max x.hd (x.ld.length -x.nd):Nat):Int)) (λj=>lwF16 _ j) rfl rfl rfl Ow;have HX:=T hx;clear h hx hk;go_in;go_still_tail 18,AL;go_wp2_with fail
 all_goals
  go_end0;obtain⟨hx1,hx2⟩:=HX.out
  first
   |(have e:((max x.hd (x.ld.length -x.nd):Nat):Int)=x.hd:=O;rw[e] at hx1 hx2;exact⟨rfl,p,hx2.fr0 (Ao _ _).drew,hx1.fr0 (Ao _ _).drew,λ_=>⟨rfl,rfl⟩,λ_=>⟨rfl,rfl⟩⟩)
   |(have e:((max x.hd (x.ld.length -x.nd):Nat):Int)=(x.ld.length:Int) -x.nd:=O;rw[e] at hx1 hx2;exact⟨rfl,p,hx2.fr0 (Ao _ _).drew,hx1.fr0 (Ao _ _).drew,λ_=>⟨rfl,rfl⟩,λ_=>⟨rfl,rfl⟩⟩)
theorem MC{w W w1:Aa}{base:Nat}{p:Lp}{x:Lw}{ct:Int}{K m:Nat}(h:LwH w base p x ct K)(f0:Fr Aj w W)(ns:List Nat)(hm:x.ld.length=m){A1:Aw}{c1 q:Nat}(hq:ns.length=q)(hown:w1.ownsRow base 3 1 (Z A1 (m+q) c1) (m+q) (fxV x.ld++fxV ns))(hg:W.grownBy w1 (Z p.D m p.cd).ownBlock)(hat:(Z A1 (m+q) c1).ownBlock=(Z p.D m p.cd).ownBlock∨(Z A1 (m+q) c1).ownBlock=I ↑W)(hk:q≤3):(w1.cell? ⟨p.g,14,G⟩=I (Z p.D m p.cd)∧w1.frozen? ⟨p.g,14,G⟩=Ac∧p.g<↑w1)∧LwH (w1.setCell ⟨p.g,14,G⟩ (Z A1 (m+q) c1)) base {p with D:=A1,cd:=c1} {x with ld:=x.ld++ns} ct (K+3)∧Llk w (w1.setCell ⟨p.g,14,G⟩ (Z A1 (m+q) c1)) p {p with D:=A1,cd:=c1}:=by
 subst hm hq;have hs:=f0.size;have fg:Fr (λk=>ab p.D=I k) w w1:=(f0.mono (λ_ _ e=>e.elim)).grown hg (λk hk=> Af (own_ab hk));have f2:Fr (· =p.g) w1 (w1.setCell ⟨p.g,14,G⟩ (Z A1 (x.ld.length+ns.length) c1)):=Br _ _ _ _;have hnew: ∀k,ab A1=I k→ab p.D=I k∨w.heap.size≤k:=λk hk=>Zo;have hgA:ab A1≠I p.g:=λe=>by
  rcases hnew _ e with e|e;·exact h.gD e
  ·have:=h.b.lt;omega
 have hb1:=h.b.fr fg (λe=>h.gD e);have hl:(x.ld++ns).length=x.ld.length+ns.length:=Cq;refine⟨⟨hb1.cell 14 O,hb1.frozen 14,hb1.lt⟩,⟨?_,AR (AR h.c fg (λk hk e=>h.CD k (own_ab hk) e)) f2 (λk hk e=>h.gC C0), ?_, ?_, ?_,h.g0, ?_⟩,rfl,λk hk=>?_,(fg.mono (λk _ e=> Ah (Ah (Af e)))).trans f2 (λk _ e=> Af e)⟩;·refine(hb1.set_ 14 _).congr (λj _=>(lwF14 _ j).trans ?_);dsimp only;rw[hl];rfl
 ·dsimp only;rw[hl];have ex:fxV (x.ld++ns)=fxV x.ld++fxV ns:=by simp[fxV]
  exact Zp
 ·exact AR (AR h.r fg (λk hk e=>h.dr k e (own_ab hk))) f2 (λk hk e=>h.gR C0)
 ·intro k e1 e2;dsimp only at e1 e2;rcases hnew k e1 with e|e;·exact h.dr k e e2
  ·have:=own_lt h.r k (ab_own h.r e2);omega
 ·have:=h.k;exact⟨Bf this.c O,by(have:=this.ld;dsimp only;rw[hl];omega),Zk,Bf this.nd O,Bf this.nr O,Bf this.hd O,Bf this.hr O⟩
 ·rcases hk with e|e|e|e;·exact JO
  ·exact JP
  ·rcases hnew k e with e|e;·exact Ov
   ·exact Ah e
  ·exact R8
theorem topR_any(h:LwH w base p x ct K)(hK:K≤10000):At Tryz.prog 186 #[Bm (I ⟨p.g,18,G⟩)] w (LPost w base p {x with hr:=max x.hr (x.lr.length -x.nr)} ct K Ag Ag (AF #[])):=by
 have hk:=h.k;have c0:w.cell? ⟨p.g,18,G⟩=I (Z p.R x.lr.length p.cr):=h.b.cell 18 O;have c1:=Zm;have c2:w.cell? ⟨p.g,20,G⟩=I (J U x.hr):=h.b.cell 20 O;have y2:=h.b.frozen 20;have hgl:=h.b.lt;have k1:=hk.lr;have k2:=hk.nr;have k3:=hk.hr;have hx:=h.cell (x':={x with hr:=max x.hr (x.lr.length -x.nr)}) (K':=K) 20 (J U ((max x.hr (x.lr.length -x.nr):Nat):Int)) (λj=>lwF20 _ j) rfl rfl rfl Ow;have HX:=T hx;clear h hx hk;go_in;go_still_tail 18,AL;go_wp2_with fail
 all_goals
  go_end0;obtain⟨hx1,hx2⟩:=HX.out
  first
   |(have e:((max x.hr (x.lr.length -x.nr):Nat):Int)=x.hr:=O;rw[e] at hx1 hx2;exact⟨rfl,p,hx2.fr0 (Ao _ _).drew,hx1.fr0 (Ao _ _).drew,λ_=>⟨rfl,rfl⟩,λ_=>⟨rfl,rfl⟩⟩)
   |(have e:((max x.hr (x.lr.length -x.nr):Nat):Int)=(x.lr.length:Int) -x.nr:=O;rw[e] at hx1 hx2;exact⟨rfl,p,hx2.fr0 (Ao _ _).drew,hx1.fr0 (Ao _ _).drew,λ_=>⟨rfl,rfl⟩,λ_=>⟨rfl,rfl⟩⟩)
theorem nZ{w W w1:Aa}{base:Nat}{p:Lp}{x:Lw}{ct:Int}{K m:Nat}(h:LwH w base p x ct K)(f0:Fr Aj w W)(ns:List Nat)(hm:x.lr.length=m){A1:Aw}{c1 q:Nat}(hq:ns.length=q)(hown:w1.ownsRow base 3 1 (Z A1 (m+q) c1) (m+q) (fxV x.lr++fxV ns))(hg:W.grownBy w1 (Z p.R m p.cr).ownBlock)(hat:(Z A1 (m+q) c1).ownBlock=(Z p.R m p.cr).ownBlock∨(Z A1 (m+q) c1).ownBlock=I ↑W)(hk:q≤3):(w1.cell? ⟨p.g,18,G⟩=I (Z p.R m p.cr)∧w1.frozen? ⟨p.g,18,G⟩=Ac∧p.g<↑w1)∧LwH (w1.setCell ⟨p.g,18,G⟩ (Z A1 (m+q) c1)) base {p with R:=A1,cr:=c1} {x with lr:=x.lr++ns} ct (K+3)∧Llk w (w1.setCell ⟨p.g,18,G⟩ (Z A1 (m+q) c1)) p {p with R:=A1,cr:=c1}:=by
 subst hm hq;have hs:=f0.size;have fg:Fr (λk=>ab p.R=I k) w w1:=(f0.mono (λ_ _ e=>e.elim)).grown hg (λk hk=> Af (own_ab hk));have f2:Fr (· =p.g) w1 (w1.setCell ⟨p.g,18,G⟩ (Z A1 (x.lr.length+ns.length) c1)):=Br _ _ _ _;have hnew: ∀k,ab A1=I k→ab p.R=I k∨w.heap.size≤k:=λk hk=>Zo;have hgA:ab A1≠I p.g:=λe=>by
  rcases hnew _ e with e|e;·exact h.gR e
  ·have:=h.b.lt;omega
 have hb1:=h.b.fr fg (λe=>h.gR e);have hl:(x.lr++ns).length=x.lr.length+ns.length:=Cq;refine⟨⟨hb1.cell 18 O,hb1.frozen 18,hb1.lt⟩,⟨?_,AR (AR h.c fg (λk hk e=>h.CR k (own_ab hk) e)) f2 (λk hk e=>h.gC C0), ?_, ?_, ?_,h.g0, ?_⟩,rfl,λk hk=>?_,(fg.mono (λk _ e=> Ah (Ah (Ah e)))).trans f2 (λk _ e=> Af e)⟩;·refine(hb1.set_ 18 _).congr (λj _=>(lwF18 _ j).trans ?_);dsimp only;rw[hl];rfl
 ·exact AR (AR h.d fg (λk hk e=>h.dr k (own_ab hk) e)) f2 (λk hk e=>h.gD C0)
 ·dsimp only;rw[hl];have ex:fxV (x.lr++ns)=fxV x.lr++fxV ns:=by simp[fxV]
  exact Zp
 ·intro k e1 e2;dsimp only at e1 e2;rcases hnew k e2 with e|e;·exact h.dr k e1 e
  ·have:=own_lt h.d k (ab_own h.d e1);omega
 ·have:=h.k;exact⟨Bf this.c O,Zn,by(have:=this.lr;dsimp only;rw[hl];omega),Bf this.nd O,Bf this.nr O,Bf this.hd O,Bf this.hr O⟩
 ·rcases hk with e|e|e|e;·exact JO
  ·exact JP
  ·exact Ov
  ·rcases hnew k e with e|e;·exact R8
   ·exact Ah e
end
end Lo
end Go.Proofs.YtdfegdoeebaagaaGreatDoor
