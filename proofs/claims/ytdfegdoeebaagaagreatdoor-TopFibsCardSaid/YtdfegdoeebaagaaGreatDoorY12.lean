import Derived.Test.YtdfegdoeebaagaaGreatDoorY11
open Go.Value renaming slice→Z,int→J,bool→Ao,tuple→AF,agg→A8,ownBlock→BZ
open Option renaming some→I,none→G
open Go.IntKind renaming i64→U,u32→V,u64→AQ
open Go renaming World→Aa,Calls→As,Value→At,bodyPost_ret→Bu,Ending→AZ,info_parts→Cj,maxLen→Ce,Program→CG,undef→BY
open Bool renaming false→Ac,true→Ag
open Go.Ending renaming returned→Av
open List renaming getD_eq_getElem?_getD→AU,getElem?_eq_getElem→BM,length_append→Ck,length_pos_iff→EL,getLastD_eq_getLast?→FU,map_append→Fp,setIfInBounds_toArray→IA,set_cons_zero→IB,set_cons_succ→IC
open Nat renaming le_refl→AC,lt_of_lt_of_le→Bh,le_trans→Bg,zero_le→Bn,zero_add→BS
open And renaming intro→Az
open Or renaming inl→Af,inr→Ah
set_option linter.all false
set_option maxHeartbeats 40000000
set_option maxRecDepth 1000000
open Go Go.RowKit
namespace Go.Proofs.YtdfegdoeebaagaaGreatDoor
namespace Rn
open Gs Sv
structure Rs where
 s:St
 cnt:Int
 c:Int
 a:Int
 dv:Bool
structure Rp where
 g:Nat
 A:Aw
 ca:Nat
 B:Aw
 cb:Nat
def ab(A:Aw):Option Nat:=A.map (·.block)
def Rp.its(p:Rp)(k:Nat):Prop:=k=p.g∨ab p.A=I k∨ab p.B=I k
abbrev rc(x:Rs)(D R BK BL:At):AP:=#[J V x.s.pc,D,R,J V x.s.fl,Ao x.s.su,Ao x.s.pg,Ao x.s.ie,J V x.s.rt,J V x.s.ve,J V x.s.ep,J V x.s.ca,J V x.s.ad,Ao x.s.es,Ao x.s.ei,J AQ x.s.ct,Ao x.s.ha,J AQ x.cnt,BK,BL,J U x.c,J V x.a,Ao x.dv]
structure RunC(w:Aa)(p:Rp)(x:Rs)(BK BL:At):Prop where
 b:Blk w p.g 237 (rc x (Z p.A x.s.d.length p.ca) (Z p.B x.s.r.length p.cb) BK BL)
 d:Rw w 0 (Z p.A x.s.d.length p.ca) x.s.d
 r:Rw w 0 (Z p.B x.s.r.length p.cb) x.s.r
 ne: ∀k,ab p.A=I k→ab p.B≠I k
 cs:x.s.d.length≤1000∧x.s.r.length≤1000
theorem own_ab{A:Aw}{n c:Nat}{k:Nat}(h:(Z A n c).ownBlock=I k):ab A=I k:=VH
section
variable {w w':Aa} {p:Rp} {x:Rs} {BK BL:At} {S:AE} {base:Nat} {A:Aw} {n c:Nat} {zs:List Int}
theorem ab_own(h:Rw w base (Z A n c) zs){k:Nat}(e:ab A=I k):(Z A n c).ownBlock=I k:=by
 cases A
 ·simp[ab] at e
 ·simpa[BZ,ab] using e
theorem RunC.gA(h:RunC w p x BK BL):ab p.A≠I p.g:=λe=>by
 have h1:=ab_own h.d e;have:=Bi h.d h.b Ap;exact this h1
theorem RunC.gB(h:RunC w p x BK BL):ab p.B≠I p.g:=λe=>by
 have h1:=ab_own h.r e;have:=Bi h.r h.b Ap;exact this h1
theorem RunC.lt(h:RunC w p x BK BL): ∀k,p.its k→k<w.heap.size:=by
 rintro k (rfl|e|e);·exact h.b.lt
 ·exact h.d.lt k (ab_own h.d e)
 ·exact h.r.lt k (ab_own h.r e)
theorem RunC.fr(h:RunC w p x BK BL)(f:Fr S w w')(hs: ∀k,p.its k→ ¬S k):RunC w' p x BK BL:=
 ⟨h.b.fr f (hs _ (Af rfl)),h.d.fr f (λk hk=>hs k (Ah (Af (own_ab hk)))),h.r.fr f (λk hk=>hs k (Ah (Ah (own_ab hk)))),h.ne,h.cs⟩
theorem RunC.fr0(h:RunC w p x BK BL)(f:Fr Aj w w'):RunC w' p x BK BL:=h.fr f (λ_ _ e=>e)
theorem Rw.pop(h:Rw w base (Z A n c) zs)(hz:zs≠[]):Rw w base (Z A zs.dropLast.length c) zs.dropLast:=by
 obtain⟨rfl,_,_⟩:=h.reads;have hp:=EL.2 hz;obtain⟨h1,h2⟩:=h;refine⟨AB, ?_⟩;rcases h2 with⟨_,h0⟩|⟨g,cap,cur,hv,hg,hb,hc,hm,hs,ht⟩;·omega
 ·injection hv with e1 e2 e3;subst e1 e3;refine Ah ⟨g,c,cur,rfl,hg,hb,AA,hm,hs, ?_⟩;rw[List.length_dropLast,Nat.mul_one,List.map_dropLast,←ht,Nat.mul_one,List.dropLast_eq_take,List.take_take,List.length_take];congr 1;have:cur.toList.length=cur.size:=AB;omega
end
def Iu(w:Aa)(p:Rp)(x':Rs)(BK BL v:At)(e:AZ)(w':Aa):Prop:=
 e=Av v∧ ∃p',p'.g=p.g∧RunC w' p' x' BK BL∧(∀k,p'.its k→p.its k∨w.heap.size≤k)∧Fr p.its w w'
theorem last_at(zs:List Int)(hz:zs≠[]):zs.getD (zs.length -1) 0=AO zs:=by
 unfold AO;exact VI
theorem Rw.last{w:Aa}{base n c:Nat}{A:Aw}{zs:List Int}(h:Rw w base (Z A n c) zs)(hz:zs≠[]): ∃g,A=I ⟨g,0,G⟩∧g<w.heap.size∧w.cell? ⟨g,zs.length -1,G⟩=I (J V (AO zs)):=by
 have hp:=EL.2 hz;obtain⟨_,hr,_⟩:=h.reads;obtain⟨ad,u,e,hb,hu,hc⟩:=hr.at_ (k:=zs.length -1) O;rcases h.none_ with⟨_,_,_,e2⟩|⟨g,e2⟩;·exact absurd e2 hz
 ·rw[e2] at e;injection e with e;subst e;refine⟨g,e2,hb, ?_⟩;have e3:(⟨g,0,G⟩:Addr).add (zs.length -1)=⟨g,zs.length -1,G⟩:=by
   unfold Addr.add;split;·rename_i h0;rw[h0]
   ·rw[BS]
  rw[e3] at hc;rw[hc,←hu,←last_at zs hz];simp[AU];rw[BM O];rfl
theorem Rw.cap{w:Aa}{base n c:Nat}{A:Aw}{zs:List Int}(h:Rw w base (Z A n c) zs):zs.length≤c∧c≤Ce:=by
 rcases h.2 with⟨e,h0⟩|⟨g,cap,cur,hv,hg,hb,hc,hm,_⟩;·injection e with _ _ e3;rw[e3];exact⟨O,Bn _⟩
 ·injection hv with _ _ e3;rw[e3];exact⟨hc,hm⟩
theorem VJ(w:Aa)(p:Rp)(x:Rs)(BK BL:At)(h:RunC w p x BK BL)(hd:x.s.d≠[]):As Tryz.prog 167 #[↑p.g] w λe w'=>e=Av (J V (AO x.s.d))∧RunC w' p {x with s:=Gm.pop1 x.s} BK BL∧Fr p.its w w':=by
 obtain⟨gd,hA,hg,hc⟩:=Rw.last h.d hd;obtain⟨m,hm⟩: ∃m,x.s.d.length=m+1:=⟨x.s.d.length -1,VK⟩;have k1:=h.b.cell 1;have z1:=h.b.frozen 1;have hlen:=h.cs.1;have HP:Hid (RunC (w.setCell ⟨p.g,1,G⟩ (Z p.A m p.ca)) p {x with s:=Gm.pop1 x.s} BK BL∧Fr p.its w (w.setCell ⟨p.g,1,G⟩ (Z p.A m p.ca))):=by
  have f:Fr (· =p.g) w (w.setCell ⟨p.g,1,G⟩ (Z p.A m p.ca)):=Bt _ _ _ _;have e:m=x.s.d.dropLast.length:=AA;refine T ⟨⟨?_, ?_, ?_,h.ne,⟨?_, ?_⟩⟩,f.mono (λk _ e=> .inl e)⟩;·have h1:=h.b.set_ 1 (Z p.A m p.ca);exact VL
  ·exact Rn.Rw.pop (h.d.fr f (λk hk e=>h.gA Cp)) hd
  ·exact h.r.fr f (λk hk e=>h.gB Cp)
  ·show x.s.d.dropLast.length≤1000;omega
  ·exact h.cs.2
 obtain⟨hcap,hcap2⟩:=Rw.cap h.d;rw[hm] at k1 hc hlen hcap;unfold Ce at hcap2;have hcap1:m≤p.ca:=O;have hmm:m+1 -1=m:=O;rw[hmm] at hc;have hlen2:m≤1000:=O;have HA:=T hA;generalize AO x.s.d=v at*;generalize p.A=A at*;subst hA;have HM:=T hm;clear h hd hm hmm hlen HA;go_in
 go_wp2
 go_ret;exact⟨rfl,HP.out.1,HP.out.2⟩
theorem Iv(w:Aa)(p:Rp)(x:Rs)(BK BL:At)(h:RunC w p x BK BL)(hd:x.s.d≠[]):As Tryz.prog 167 #[↑p.g] w (Iu w p {x with s:=Gm.pop1 x.s} BK BL (J V (AO x.s.d))):=
 (VJ w p x BK BL h hd).mono λ_ _ ⟨h1,h2,h3⟩=>⟨h1,p,rfl,h2,λ_ hk=> Af hk,h3⟩
theorem popR_any(w:Aa)(p:Rp)(x:Rs)(BK BL:At)(h:RunC w p x BK BL)(hd:x.s.r≠[]):As Tryz.prog 168 #[↑p.g] w (Iu w p {x with s:={x.s with r:=x.s.r.dropLast}} BK BL (J V (AO x.s.r))):=by
 obtain⟨gd,hA,hg,hc⟩:=Rw.last h.r hd;obtain⟨m,hm⟩: ∃m,x.s.r.length=m+1:=⟨x.s.r.length -1,VK⟩;have k1:=h.b.cell 2;have z1:=h.b.frozen 2;have hlen:=h.cs.2;have HP:Hid (RunC (w.setCell ⟨p.g,2,G⟩ (Z p.B m p.cb)) p {x with s:={x.s with r:=x.s.r.dropLast}} BK BL∧Fr p.its w (w.setCell ⟨p.g,2,G⟩ (Z p.B m p.cb))):=by
  have f:Fr (· =p.g) w (w.setCell ⟨p.g,2,G⟩ (Z p.B m p.cb)):=Bt _ _ _ _;have e:m=x.s.r.dropLast.length:=AA;refine T ⟨⟨?_, ?_, ?_,h.ne,⟨?_, ?_⟩⟩,f.mono (λk _ e=> .inl e)⟩;·have h1:=h.b.set_ 2 (Z p.B m p.cb);exact VL
  ·exact h.d.fr f (λk hk e=>h.gA Cp)
  ·exact Rn.Rw.pop (h.r.fr f (λk hk e=>h.gB Cp)) hd
  ·exact h.cs.1
  ·show x.s.r.dropLast.length≤1000;omega
 obtain⟨hcap,hcap2⟩:=Rw.cap h.r;rw[hm] at k1 hc hlen hcap;unfold Ce at hcap2;have hcap1:m≤p.cb:=O;have hmm:m+1 -1=m:=O;rw[hmm] at hc;have hlen2:m≤1000:=O;have HA:=T hA;generalize AO x.s.r=v at*;generalize p.B=A at*;subst hA;have HM:=T hm;clear h hd hm hmm hlen HA;go_in
 go_wp2
 go_ret;exact⟨rfl,p,rfl,HP.out.1,λk hk=> Af hk,HP.out.2⟩
end Rn
namespace Rn
open Gs Sv
def JQ(s:St)(zs:List Int):St:={s with d:=s.d++zs}
theorem Qe(w:Aa)(p:Rp)(x:Rs)(BK BL:At)(h:RunC w p x BK BL)(B:Nat)(A':Aw)(m c':Nat)(zs:List Int)(hr:Reads w B 1 A' m (zs.map (J V)))(hl:x.s.d.length+zs.length≤1000):As Tryz.prog 166 #[↑p.g,Z A' m c'] w (Iu w p {x with s:=JQ x.s zs} BK BL (AF #[])):=by
 obtain⟨i0,hi0,hz0,hz1,hz2⟩:=Cj info32;have hm:zs.length=m:=by have:=hr.1;simpa using this
 have k1:=h.b.cell 1;have hown:w.ownsRow 0 22 1 (Z p.A x.s.d.length p.ca) x.s.d.length (x.s.d.map (J V)):=h.d;have H:=T h;obtain⟨n,hn⟩:=A9 x.s.d.length;rw[hn] at hown k1;have HN:=T hn;have HM:=T hm;have hl2:n+m≤1000:=O;clear h hn hm hl;go_in;go_wp2_with
  (at_builtin
   refine CS _ rfl (.tmp 9) (.tmp 10) _ rfl 0 22 i0 _ 1 4 Tryz.underlying36 hi0 hz0 hz1 hz2 rfl O (Z p.A n p.ca) n (x.s.d.map (J V)) rfl hown B A' m c' (zs.map (J V)) rfl hr Im Cb O O ?_
   intro v1 w1 hown1 hg1 hat1
   have hgg:(Z p.A n p.ca).ownBlock≠I p.g:=(λe=>H.out.gA (own_ab e))
   have b1:=H.out.b.grown hg1 (λe=>hgg e.symm)
   have hv1:Rw w1 0 v1 (x.s.d++zs):=by
    have e:(x.s.d++zs).length=n+m:=by rw[Ck,HN.out,HM.out]
    unfold Rw;rw[e,Fp];exact hown1
   obtain⟨A1,c1,rfl⟩:=hv1.form
   have hr1:Rw w1 0 (Z p.B x.s.r.length p.cb) x.s.r:=World.ownsRow.kept H.out.r hg1 (by
    by_cases q:(Z p.B x.s.r.length p.cb).ownBlock=G;·exact Af q
    ·right;intro e;obtain⟨k,hk⟩:=Option.ne_none_iff_exists'.1 q;rw[hk] at e;exact H.out.ne k (own_ab e.symm) (own_ab hk))
   have z1:=b1.frozen 1
   have kk1:=b1.cell 1
   have HB:=T b1
   have HR:=T hr1
   have HV:=T hv1
   have HG:=T hg1
   have HA:=T hat1
   clear b1 hr1 hv1 hg1 hat1 hown1 hgg hown k1 hr)
 go_end0;have f1:Fr p.its w w1:=(Ak _ w).grown HG.out (λk hk=> Af (Ah (Af (own_ab hk))));have f2:Fr (· =p.g) w1 (w1.setCell ⟨p.g,1,G⟩ (Z A1 (x.s.d.length+zs.length) c1)):=Bt _ _ _ _;have hgl:=H.out.b.lt;have hA1: ∀k,ab A1=I k→ab p.A=I k∨k=w.heap.size:=λk hk=>by
  have hk2:=ab_own HV.out hk;rcases HA.out with e|e;·exact Af (own_ab (e.symm.trans hk2))
  ·exact VM
 have g1:ab A1≠I p.g:=λe=>by
  rcases hA1 _ e with e|e;·exact H.out.gA e
  ·omega
 refine⟨rfl,⟨p.g,A1,c1,p.B,p.cb⟩,rfl,⟨?_, ?_, ?_,λk hk hk2=>?_, ?_⟩,λk hk=>?_,f1.trans f2 (λi hi e=> .inl e)⟩;·have h1:=HB.out.set_ 1 (Z A1 (x.s.d.length+zs.length) c1);simpa only[Ck,rc,IA,IB,IC,JQ] using h1
 ·exact HV.out.fr f2 (λk hk e=>g1 Cp)
 ·exact HR.out.fr f2 (λk hk e=>H.out.gB Cp)
 ·have hk2:ab p.B=I k:=hk2;rcases hA1 _ hk with e|e;·exact H.out.ne k e hk2
  ·have:=H.out.lt k (Ah (Ah hk2));omega
 ·refine⟨?_,H.out.cs.2⟩;show(x.s.d++zs).length≤1000;rw[Ck,HN.out,HM.out];exact hl2
 ·rcases hk with e|e|e;·exact Jn
  ·rcases hA1 k e with e|e;·exact Jo
   ·exact Ez
  ·exact NB
theorem szS:(Tryz.prog.info? 194).map (·.size)=I 3:=AL
theorem mJ(w:Aa)(p:Rp)(x:Rs)(BK BL:At)(h:RunC w p x BK BL):As Tryz.prog 220 #[↑p.g] w λe w'=>e=Av (Mu.spv (Gm.spS x.s))∧Fr Aj w w':=by
 have f1:=(Ak Aj w).alloc (.cells #[Ao Ac,Ao Ac,J V 0] 194);have b1:=(h.fr0 f1).b;have k4:=h.b.cell 4;have k5:=h.b.cell 5;have k7:=h.b.cell 7;have hg:=h.b.lt;clear b1 f1 h;go_in;go_wp2_with fail;have b2:Blk (w.alloc (.cells #[Ao Ac,Ao Ac,J V 0] 194)) ↑w 194 #[Ao Ac,Ao Ac,J V 0]:=AI _ _ _;have B2:=T b2;have z0:=b2.frozen 0;have z1:=b2.frozen 1;have z2:=b2.frozen 2;clear b2
 go_region_held3 (λW=>W.cell? ⟨p.g,4,G⟩=I (Ao x.s.su)∧W.cell? ⟨p.g,5,G⟩=I (Ao x.s.pg)∧W.cell? ⟨p.g,7,G⟩=I (J V x.s.rt)) (go_keep) (fail)
 go_wp2_with fail;refine Bu (CU rfl _ _ w.heap.size 194 #[Ao x.s.pg,Ao x.s.su,J V x.s.rt] _ rfl (AI _ _ _).drew Tryz.underlying194 rfl szS) rfl ⟨rfl, ?_⟩;exact((Ak _ w).alloc _).drew
end Rn
namespace Rn
open Gs Sv Gm
theorem _root_.Go.Proofs.YtdfegdoeebaagaaGreatDoor.Gm.Mch.frMore{w w':Aa}{P P' S:AE}{a:Bs.Ab}{A:Mu.Au}{g:Mc}(h:Mch w P a A g)(f:Fr S w w')(hs: ∀k,S k→P k)(h0: ¬S 0)(hp: ∀k,P' k→P k∨(w.heap.size≤k∧k<w'.heap.size))(h1:P' 0):Mch w' P' a A g:=by
 obtain⟨F,b1,b2,b3⟩:=h.lt;have hl:=h.un.lt;have h2:=h.fr f hs h0;refine⟨⟨F,b1.fr f (λk hk e=>(b2 k hk).1 (hs k e)),λk hk=>⟨λe=>?_,(b2 k hk).2⟩⟩,h2.un,h2.am,⟨λe=>?_,λe=>?_⟩,h2.tab,h1,λk hk=>?_⟩;·exact VN
 ·exact N7
 ·exact N9
 ·exact VO
structure Dn(w:Aa)(p:Rp)(x:Rs)(P:AE)(a:Bs.Ab)(A:Mu.Au)(g:Mc):Prop where
 rn:RunC w p x ↑A.gU ↑a.gB
 mc:Mch w P a A g
 ip: ∀k,p.its k→P k
 n0: ¬p.its 0
structure Lk(w w':Aa)(p p':Rp)(P P':AE):Prop where
 g:p'.g=p.g
 up: ∀k,P k→P' k
 dn: ∀k,P' k→P k∨w.heap.size≤k
 it: ∀k,p'.its k→p.its k∨w.heap.size≤k
 f:Fr (λk=>p.its k∨ ¬P k) w w'
theorem Lk.tr{w w1 w2:Aa}{p p1 p2:Rp}{P P1 P2:AE}(h:Lk w w1 p p1 P P1)(k:Lk w1 w2 p1 p2 P1 P2):Lk w w2 p p2 P P2:=by
 have hs:=h.f.size;refine⟨k.g.trans h.g,λi hi=>k.up i (h.up i hi),λi hi=>?_,λi hi=>?_,h.f.trans k.f (λi hi e=>?_)⟩
 ·rcases k.dn i hi with e|e;·exact h.dn i e
  ·exact Ez
 ·exact VQ
 ·rcases e with e|e
  ·rcases h.it i e with e|e;·exact Af e
   ·omega
  ·exact Ah (λq=>e (h.up i q))
theorem Lk.fr0{w w':Aa}{p:Rp}{P:AE}(f:Fr Aj w w'):Lk w w' p p P P:=⟨rfl,λ_ h=>h,λ_ h=> Af h,λ_ h=> Af h,f.mono (λ_ _ e=>e.elim)⟩
theorem Lk.frP{w w':Aa}{p:Rp}{P:AE}(f:Fr (λk=> ¬P k) w w'):Lk w w' p p P P:=⟨rfl,λ_ h=>h,λ_ h=> Af h,λ_ h=> Af h,f.mono (λ_ _ e=> Ah e)⟩
theorem Lk.frI{w w':Aa}{p:Rp}{P:AE}(f:Fr p.its w w'):Lk w w' p p P P:=⟨rfl,λ_ h=>h,λ_ h=> Af h,λ_ h=> Af h,f.mono (λ_ _ e=> Af e)⟩
def DPost(w:Aa)(p:Rp)(P:AE)(a:Bs.Ab)(A:Mu.Au)(x':Rs)(g':Mc)(v:At)(e:AZ)(w':Aa):Prop:=
 e=Av v∧ ∃p' P',Lk w w' p p' P P'∧Dn w' p' x' P' a A g'
section
variable {w w' w2:Aa} {p:Rp} {x x':Rs} {P:AE} {a:Bs.Ab} {A:Mu.Au} {g g' g2:Mc} {v:At} {e:AZ}
theorem Dn.fr0(h:Dn w p x P a A g)(f:Fr Aj w w'):Dn w' p x P a A g:=⟨h.rn.fr0 f,h.mc.fr0 f,h.ip,h.n0⟩
theorem Dn.ofR(h:Dn w p x P a A g)(hr:Iu w p x' ↑A.gU ↑a.gB v e w'):DPost w p P a A x' g v e w':=by
 obtain⟨he,p',hg,hR,hi,f⟩:=hr;refine⟨he,p',λk=>P k∨p'.its k,⟨hg,λk hk=> Af hk,λk hk=>?_,hi,f.mono (λk _ e=> Af e)⟩,⟨hR, ?_,λk hk=> Ah hk,λe0=>?_⟩⟩
 ·rcases hk with e|e;·exact Af e
  ·rcases hi k e with e|e;·exact Af (h.ip k e)
   ·exact Ah e
 ·refine h.mc.frMore f h.ip h.n0 (λk hk=>?_) (Af h.mc.p0);rcases hk with e|e;·exact Af e
  ·rcases hi k e with e2|e2;·exact Af (h.ip k e2)
   ·exact Ah ⟨e2,hR.lt k e⟩
 ·rcases hi 0 e0 with e1|e1;·exact h.n0 e1
  ·have:=h.mc.tab.1;omega
theorem DPost.tr{p':Rp}{P':AE}{v':At}(l:Lk w w' p p' P P')(h:DPost w' p' P' a A x' g' v' e w2):DPost w p P a A x' g' v' e w2:=by
 obtain⟨he,p2,P2,l2,d⟩:=h;exact⟨he,p2,P2,l.tr l2,d⟩
end
theorem Dn.placed{w W2 w3 W:Aa}{p:Rp}{x:Rs}{P:AE}{a:Bs.Ab}{A:Mu.Au}{g:Mc}{u':Mu.Us}{gt:Nat}(H:Dn w p x P a A g)(F:Fr Aj w W2)(hU:Mu.Un w3 A u')(f3:Fr A.wr W2 w3)(htu:Mu.TuOk u'.m)(hg:↑w≤gt)(hg2:gt<↑W2)(ft:Fr (· =gt) w3 W):Dn W p x (λk=>P k∨k=gt) a A (g.setU u')∧Fr (λk=> ¬P k) w W:=by
 have hne: ∀k,p.its k→k≠gt:=λk hk e=>by have:=H.rn.lt k hk;omega
 have hP: ∀k,P k→k≠gt:=λk hk e=>by have:=H.mc.pl k hk;omega
 have M2:Mch W2 (λk=>P k∨k=gt) a A g:=H.mc.more F (λk hk=>by rcases hk with e|e;exact Af e;exact Ah ⟨by omega,by omega⟩) (Af H.mc.p0);obtain⟨M3,f4⟩:=M2.unPost hU f3 htu;have g0: ¬(0:Nat)=gt:=hP 0 H.mc.p0;have R2:=H.rn.fr0 F;have R3:=R2.fr f4 (λk hk e=>e (Af (H.ip k hk)));refine⟨⟨R3.fr ft hne,M3.fr ft (λk e=> Ah e) g0,λk hk=> Af (H.ip k hk),H.n0⟩, ?_⟩;refine((F.mono (S':=λk=> ¬P k) (λ_ _ e=>e.elim)).trans f4 (λi hi e q=>e (Af q))).trans ft (λi hi e q=>?_);exact hP i q e
theorem Dn.placed2{w W2 w3:Aa}{p:Rp}{x:Rs}{P:AE}{a:Bs.Ab}{A:Mu.Au}{g:Mc}{u':Mu.Us}(o:Obj)(H:Dn w p x P a A g)(F:Fr Aj w W2)(hU:Mu.Un w3 A u')(f3:Fr A.wr W2 w3)(htu:Mu.TuOk u'.m):Dn (w3.alloc o) p x (λk=>P k∨k=w3.heap.size) a A (g.setU u')∧Fr (λk=> ¬P k) w (w3.alloc o):=by
 have M2:Mch W2 P a A g:=H.mc.fr0 F;obtain⟨M3,f4⟩:=M2.unPost hU f3 htu;have R3:=(H.rn.fr0 F).fr f4 (λk hk e=>e (H.ip k hk));have fa:Fr Aj w3 (w3.alloc o):=(Ak _ _).alloc _;refine⟨⟨R3.fr0 fa,M3.more fa (λk hk=>?_) (Af M3.p0),λk hk=> Af (H.ip k hk),H.n0⟩,((F.mono (S':=λk=> ¬P k) (λ_ _ e=>e.elim)).trans f4 (λi hi e=>e)).trans fa (λi hi e=>e.elim)⟩;rcases hk with e|e;·exact Af e
 ·exact Ah ⟨O,AA⟩
theorem Dn.laidT{W:Aa}{p:Rp}{x:Rs}{P:AE}{a:Bs.Ab}{A:Mu.Au}{g:Mc}(H:Dn W p x P a A g)(c ad:Int)(dv:Bool):Dn (((W.setCell ⟨p.g,19,G⟩ (J U c)).setCell ⟨p.g,20,G⟩ (J V ad)).setCell ⟨p.g,21,G⟩ (Ao dv)) p {x with c:=c,a:=ad,dv:=dv} P a A g∧Fr p.its W (((W.setCell ⟨p.g,19,G⟩ (J U c)).setCell ⟨p.g,20,G⟩ (J V ad)).setCell ⟨p.g,21,G⟩ (Ao dv)):=by
 have f:Fr (· =p.g) W (((W.setCell ⟨p.g,19,G⟩ (J U c)).setCell ⟨p.g,20,G⟩ (J V ad)).setCell ⟨p.g,21,G⟩ (Ao dv)):=(((Ak _ W).at_ 19 _).at_ 20 _).at_ 21 _;refine⟨⟨⟨?_,H.rn.d.fr f (λk hk e=>H.rn.gA Cp),H.rn.r.fr f (λk hk e=>H.rn.gB Cp),H.rn.ne,H.rn.cs⟩,H.mc.fr f (λk e=>H.ip k (Af e)) (λe=>H.n0 (Af e)),H.ip,H.n0⟩,f.mono (λk _ e=> Af e)⟩;have h1:=((H.rn.b.set_ 19 (J U c)).set_ 20 (J V ad)).set_ 21 (Ao dv);exact NC
theorem Dn.sepU{w:Aa}{p:Rp}{x:Rs}{P:AE}{a:Bs.Ab}{A:Mu.Au}{g:Mc}(H:Dn w p x P a A g): ∀k,p.its k→ ¬A.wr k:=λk hk e=>by
 have hP:=H.ip k hk;rcases e with e|e;·exact H.mc.uP.2 (e▸hP)
 ·obtain⟨F,_,h2⟩:=H.mc.bus;rw[H.mc.am] at e;exact(h2 k (Af (Ah (Ah (Ah (Ah (Af e))))))).1 hP
theorem cell_far{w:Aa}{p q:Addr}{v:At}{u:At}(h:w.cell? q=I v)(ne:q.block≠p.block):(w.setCell p u).cell? q=I v:=(World.cell?_setCell_other w p q u (λe=>ne (by rw[e]))).trans h
theorem mK(w:Aa)(p:Rp)(x:Rs)(P:AE)(a:Bs.Ab)(A:Mu.Au)(g:Mc)(h:Dn w p x P a A g)(hpg:x.s.pg=Ac)(at_ k:Int)(hd:Jm at_=Ag)(hk:k=2∨k=3):As Tryz.prog 215 #[↑p.g,J V at_,J U k] w (DPost w p P a A {x with c:=0,a:=0,dv:=Ag} g (AF #[J V at_,Ao Ag])):=by
 simp only[Jm,Mu.devB,Bool.and_eq_true,decide_eq_true_eq] at hd;obtain⟨⟨hal,hp8,hp9⟩,_⟩:=hd;obtain⟨r,hr⟩:=A9 (Mu.placeR g.u (spS x.s) at_ k);have er:r=⟨at_,0,0,g.u⟩:=by
  rw[←hr];unfold Mu.placeR Mu.thereB Mu.devB;rw[An (by rcases hk with rfl|rfl<;>simp[hp8,hp9])]
 have htu:Mu.TuOk r.u.m:=by rw[er];exact h.mc.tu
 have Hs:=T (λW (f:Fr Aj w W)=>mJ W p x _ _ (h.fr0 f).rn);have Hp:=T (λW (f:Fr Aj w W)=>Mu.place_any W A g.u (h.fr0 f).mc.un (spS x.s) hpg at_ k O O (Ah hk));rw[hr] at Hp;have hrm:(at_%4 !=0)=Ac:=by simp[hal]
 have ku:=h.rn.b.cell 17;have kb:=h.rn.b.cell 18;have H:=T h;have HTU:=T htu;have hgl:=h.rn.b.lt;have ER:=T er;have a0:0≤at_:=O;have a1:at_≤4294967295:=O;have hcb:(r.c==0)=Ag:=by rw[er];rfl
 have hpb:decide (32768≤r.p)=Ag:=by rw[er];simp[hp8]
 clear h er hal htu hr hk hpg hp8 hp9;go_in;go_upto_region 7 with(fail);go_region_held (λW=>W.cell? ⟨p.g,17,G⟩=I ↑A.gU) (first|exact s2|exact s3|go_keep|exact cell_far (cell_far s3 VR) VR)
  (first
  |((refine(Hs.out _ (by first|exact(Ak _ w).drew|exact((Ak _ w).drew).alloc _)).mono ?_);rintro e w2 ⟨rfl,f2⟩;have F2:Hid (Fr Aj w w2):=T (by first|exact(Ak _ w).drew.tr f2|exact(((Ak _ w).drew).alloc _).tr f2);have D2:=T (H.out.fr0 F2.out);have s2:=D2.out.rn.b.cell 17;have hs2:=F2.out.size;have hs3:p.g≠↑w2:=O;have G2:=T f2;clear f2)
  |((refine(Hp.out _ (by first|exact F2.out|exact F2.out.alloc _)).mono ?_);rintro e w3 ⟨rfl,hU,f3⟩;have HM:=T (Az hU f3);have RR3:Hid (RunC w3 p x ↑A.gU ↑a.gB):=T (by first|exact D2.out.rn.fr f3 D2.out.sepU|exact(D2.out.rn.fr0 ((Ak _ w2).alloc _)).fr f3 D2.out.sepU);have s3:=RR3.out.b.cell 17;(first|(have bx:Blk w3 ↑w 190 #[J U 0,J V 0]:=((AI w.drew 190 #[J U 0,J V 0]).fr G2.out id).fr f3 (λe=>by have:=H.out.mc.un.lt _ (Ah e);simp at this);have zx0:=bx.frozen 0;have zx1:=bx.frozen 1;have zc0:=bx.cell 0;have zc1:=bx.cell 1;have BX:=T bx;clear bx)|(have bx:Blk w3 ↑w2 190 #[J U 0,J V 0]:=(AI w2 190 #[J U 0,J V 0]).fr f3 (λe=>by have:=D2.out.mc.un.lt _ (Ah e);simp at this);have zx0:=bx.frozen 0;have zx1:=bx.frozen 1;have zc0:=bx.cell 0;have zc1:=bx.cell 1;have BX:=T bx;clear bx)|skip);clear hU f3))
 ·have bt:Blk (w3.alloc (.cells #[J U r.c,J V r.a] 190)) ↑w3 190 #[J U r.c,J V r.a]:=AI _ _ _;have hD:Dn (w3.alloc (.cells #[J U r.c,J V r.a] 190)) p x (λk=>P k∨k=w3.heap.size) a A (g.setU r.u)∧Fr (λk=> ¬P k) w (w3.alloc (.cells #[J U r.c,J V r.a] 190)):=H.out.placed2 _ F2.out HM.out.1 HM.out.2 HTU.out;have y19:=RR3.out.b.frozen 19;have y20:=RR3.out.b.frozen 20;have y21:=RR3.out.b.frozen 21;have x19:=RR3.out.b.cell 19;have x20:=RR3.out.b.cell 20;have x21:=RR3.out.b.cell 21;have hg3:=RR3.out.b.lt;have hng:p.g≠↑w3:=by have:=HM.out.2.size;omega
  have hs23:w2.heap.size≤w3.heap.size:=HM.out.2.size;have HD:=T hD;clear hD s2 s3 HM bt;go_wp2_with fail;go_quiet (fail)
  go_wp2
  go_ret2;have hL:=HD.out.1.laidT r.c r.a Ag;rw[World.setCell_alloc_past _ _ _ _ hg3,World.setCell_alloc_past _ _ _ _ (by simpa using hg3),World.setCell_alloc_past _ _ _ _ (by simpa using hg3)] at hL;obtain rfl:=ER.out;refine⟨rfl,p,λk=>P k∨k=w3.heap.size,⟨rfl,λk hk=> Af hk,λk hk=>?_,λk hk=> Af hk, ?_⟩, ?_⟩
  ·rcases hk with e|e;·exact Af e
   ·exact Ah (by rw[e];exact Bg hs2 (hs23))
  ·exact Qf
  ·exact Qg
 ·have bt:Blk ((w3.setCell ⟨↑w2,0,G⟩ (J U r.c)).setCell ⟨↑w2,1,G⟩ (J V r.a)) ↑w2 190 #[J U r.c,J V r.a]:=(BX.out.set_ 0 (J U r.c)).set_ 1 (J V r.a);have hD:Dn ((w3.setCell ⟨↑w2,0,G⟩ (J U r.c)).setCell ⟨↑w2,1,G⟩ (J V r.a)) p x (λk=>P k∨k=w2.heap.size) a A (g.setU r.u)∧Fr (λk=> ¬P k) w ((w3.setCell ⟨↑w2,0,G⟩ (J U r.c)).setCell ⟨↑w2,1,G⟩ (J V r.a)):=H.out.placed (gt:=w2.heap.size) (F2.out.alloc _) HM.out.1 HM.out.2 HTU.out hs2 AB (((Ak _ _).at_ 0 _).at_ 1 _);have y19:=RR3.out.b.frozen 19;have y20:=RR3.out.b.frozen 20;have y21:=RR3.out.b.frozen 21;have x19:=RR3.out.b.cell 19;have x20:=RR3.out.b.cell 20;have x21:=RR3.out.b.cell 21;have hg3:=RR3.out.b.lt;have hng:p.g≠↑w2:=by exact hs3
  have HD:=T hD;clear hD s2 s3 HM bt;go_wp2_with fail;go_quiet (fail)
  go_wp2
  go_ret2;have hL:=HD.out.1.laidT r.c r.a Ag;obtain rfl:=ER.out;refine⟨rfl,p,λk=>P k∨k=w2.heap.size,⟨rfl,λk hk=> Af hk,λk hk=>?_,λk hk=> Af hk, ?_⟩, ?_⟩
  ·rcases hk with e|e;·exact Af e
   ·exact Ah (by rw[e];exact hs2)
  ·exact Qf
  ·exact Qg
 ·have bt:Blk ((w3.setCell ⟨↑w,0,G⟩ (J U r.c)).setCell ⟨↑w,1,G⟩ (J V r.a)) ↑w 190 #[J U r.c,J V r.a]:=(BX.out.set_ 0 (J U r.c)).set_ 1 (J V r.a);have hD:Dn ((w3.setCell ⟨↑w,0,G⟩ (J U r.c)).setCell ⟨↑w,1,G⟩ (J V r.a)) p x (λk=>P k∨k=w.heap.size) a A (g.setU r.u)∧Fr (λk=> ¬P k) w ((w3.setCell ⟨↑w,0,G⟩ (J U r.c)).setCell ⟨↑w,1,G⟩ (J V r.a)):=H.out.placed (gt:=w.heap.size) F2.out HM.out.1 HM.out.2 HTU.out (AC _) (by have:=G2.out.size;simp at this;omega) (((Ak _ _).at_ 0 _).at_ 1 _);have y19:=RR3.out.b.frozen 19;have y20:=RR3.out.b.frozen 20;have y21:=RR3.out.b.frozen 21;have x19:=RR3.out.b.cell 19;have x20:=RR3.out.b.cell 20;have x21:=RR3.out.b.cell 21;have hg3:=RR3.out.b.lt;have hng:p.g≠↑w:=O;have HD:=T hD;clear hD s2 s3 HM bt;go_wp2_with fail;go_quiet (fail)
  go_wp2
  go_ret2;have hL:=HD.out.1.laidT r.c r.a Ag;obtain rfl:=ER.out;refine⟨rfl,p,λk=>P k∨k=w.heap.size,⟨rfl,λk hk=> Af hk,λk hk=>?_,λk hk=> Af hk, ?_⟩, ?_⟩
  ·rcases hk with e|e;·exact Af e
   ·exact Ah (by rw[e];exact AC _)
  ·exact Qf
  ·exact Qg
end Rn
namespace Rn
open Gs Sv Gm Rm
def Fg(r:Gm.Rn)(cnt:Int):Rs:=⟨r.s,cnt,r.c,r.a,r.dv⟩
structure Ready(x:Rs):Prop where
 c:x.c=0
 a:x.a=0
 dv:x.dv=Ac
 k:Rk x.s
 cnt:0≤x.cnt∧x.cnt≤18446744073709551615
theorem Qi(w:Aa)(p:Rp)(x:Rs)(BK BL:At)(h:RunC w p x BK BL)(g:Nat)(v:Int)(hb:Blk w g 22 #[J V v])(hl:x.s.d.length≤999):As Tryz.prog 166 #[↑p.g,Z (I ⟨g,0,G⟩) 1 1] w (Iu w p {x with s:=push1 x.s v} BK BL (AF #[])):=
 Qe w p x BK BL h (g+1) _ 1 1 [v] (CT (size:=1) (n:=1) hb rfl) (by simpa using hl)
end Rn
namespace Rn
open Gs Sv Gm Rm
theorem VS{l:List Int}(h:2≤l.length):l.dropLast≠[]:=λe=>by
 have:=congrArg List.length e;simp at this;omega
theorem store_any(w:Aa)(p:Rp)(x:Rs)(P:AE)(a:Bs.Ab)(A:Mu.Au)(g:Mc)(h:Dn w p x P a A g)(hr:Ready x)(hpg:x.s.pg=Ac)(hd:2≤x.s.d.length)(hv8:Jm (AO x.s.d)=Ag)(ho:g.b.outs.length≤1000000):As Tryz.prog 173 #[↑p.g] w (DPost w p P a A (Fg (stR x.s x.cnt g) x.cnt) (stR x.s x.cnt g).g (AF #[])):=by
 have hb:=(show Bl x.s.d from hr.k.1.d).top;have hc2:=(show Bl x.s.d from hr.k.1.d).top2;obtain⟨v,hv⟩:=A9 (AO x.s.d);obtain⟨u,hu⟩:=A9 (top2 x.s.d);have Hp:=T (Iv w p x _ _ h.rn (λe=>by rw[e] at hd;simp at hd));have H:=T h;rw[hv] at Hp hb;rw[hu] at hc2;obtain⟨hb0,hb1⟩:=hb;obtain⟨hu0,hu1⟩:=hc2;have hst:stR x.s x.cnt g=⟨Gm.pop2 x.s,0,0,Ag,⟨g.b.store v u,g.l⟩⟩:=by unfold stR;rw[hv,hu]
 rw[hst];rw[hv] at hv8;have hlb:Bs.loadB v=Ag:=by simp only[Jm,Bool.and_eq_true] at hv8;exact hv8.2
 have HR:=T hr;have HU:Hid (AO (Gm.pop1 x.s).d=u):=T hu;have HND:Hid ((Gm.pop1 x.s).d≠[]):=T (VS hd);have HV8:=T hv8;have HPG:=T hpg;have HOUT:=T ho;clear h hr hd hv hu ho hst hv8 hpg;go_in;go_wp2_with fail;refine Ax Hp ?_;intro e w1 hq;obtain⟨rfl,⟨g1,A1,ca1,B1,cb1⟩,P1,L1,D1⟩:=H.out.ofR hq;obtain rfl:g1=p.g:=L1.g;clear hq;have Hp2:=T (Iv w1 _ _ _ _ D1.rn HND.out);rw[show AO ({x with s:=Gm.pop1 x.s}:Rs).s.d=u from HU.out] at Hp2;have L1:=T L1;have D1:=T D1;go_wp2_with fail;refine Ax Hp2 ?_;intro e w2 hq;obtain⟨rfl,⟨g2,A2,ca2,B2,cb2⟩,P2,L2,D2⟩:=D1.out.ofR hq;obtain rfl:g2=p.g:=L2.g;clear hq;have Hw:=T (mK w2 _ _ _ _ _ _ D2 HPG.out v 3 HV8.out (Ah rfl));have L2:=T (L1.out.tr L2);clear D2;go_wp2_with fail;refine Ax Hw ?_;rintro e w3 ⟨rfl,⟨g3,A3,ca3,B3,cb3⟩,P3,L3,D3⟩;obtain rfl:g3=p.g:=L3.g;have L:=T (L2.out.tr L3);have D3:=T D3;clear Hw L3;have dv:=D3.out.rn.b.cell 21;have c16:=D3.out.rn.b.cell 16;have c17:=D3.out.rn.b.cell 17;have c18:=D3.out.rn.b.cell 18;obtain⟨F,hB,hF⟩:=D3.out.mc.bus;have Hl:=T (λW (f:Fr Aj w3 W)=>Bs.store_any W F a _ (hB.fr0 f) v u x.cnt hb0 hb1 hu0 hu1 HOUT.out);have HB:=T (Az hB hF);clear hB hF;go_upto_region 5 with(fail);go_region_held (λW=>W.cell? ⟨p.g,16,G⟩=I (J AQ x.cnt)∧W.cell? ⟨p.g,18,G⟩=I ↑a.gB) (first|exact⟨s16,s18⟩|exact⟨c16,c18⟩|go_keep)
  (((refine(Hl.out _ (Ak _ w3).drew).mono ?_);intro e w4 hq;obtain⟨rfl,M4,f4⟩:=(D3.out.fr0 (Ak Aj w3).drew).mc.busPost (HB.out.1.fr0 (Ak _ w3).drew) HB.out.2 hq;have D4:=T (Dn.mk ((D3.out.rn.fr0 (Ak _ w3).drew).fr f4 (λk hk e=>e (D3.out.ip k hk))) M4 D3.out.ip D3.out.n0);have L4:=T (L.out.tr ((Lk.fr0 (Ak _ w3).drew).tr (Lk.frP f4)));have s16:=D4.out.rn.b.cell 16;have s18:=D4.out.rn.b.cell 18;clear M4 f4 hq))
 go_wp2
 go_end0;exact⟨rfl,_,_,L4.out,D4.out⟩
end Rn
namespace Gc
open Gs Sv
variable{op:Int}
theorem Qj(h:Df op=Ag):op=0∨op=1∨op=2∨op=3∨op=4∨op=5∨op=6∨op=7∨op=8∨op=16∨op=17∨op=18∨op=19∨op=20∨op=21∨op=22∨op=23∨op=24∨op=25∨op=32∨op=33∨op=34∨op=35∨op=36∨op=37∨op=38∨op=39∨op=40∨op=48∨op=49∨op=50∨op=51∨op=52∨op=53∨op=64∨op=65∨op=66∨op=67∨op=68∨op=69:=by
 simp[Df] at h;omega
theorem mL(h:Df op=Ac):(op==0)=Ac∧(op==1)=Ac∧(op==2)=Ac∧(op==3)=Ac∧(op==4)=Ac∧(op==5)=Ac∧(op==6)=Ac∧(op==7)=Ac∧(op==8)=Ac∧(op==16)=Ac∧(op==17)=Ac∧(op==18)=Ac∧(op==19)=Ac∧(op==20)=Ac∧(op==21)=Ac∧(op==22)=Ac∧(op==23)=Ac∧(op==24)=Ac∧(op==25)=Ac∧(op==32)=Ac∧(op==33)=Ac∧(op==34)=Ac∧(op==35)=Ac∧(op==36)=Ac∧(op==37)=Ac∧(op==38)=Ac∧(op==39)=Ac∧(op==40)=Ac∧(op==48)=Ac∧(op==49)=Ac∧(op==50)=Ac∧(op==51)=Ac∧(op==52)=Ac∧(op==53)=Ac∧(op==64)=Ac∧(op==65)=Ac∧(op==66)=Ac∧(op==67)=Ac∧(op==68)=Ac∧(op==69)=Ac:=by
 simp only[beq_eq_false_iff_ne,ne_eq];simp[Df] at h;omega
theorem VT(h:Df op=Ac):AK op=0:=by
 simp[Df] at h;have h1:Kv op=Ac:=by simp[Kv];omega
 have h2:Df op=Ac:=by simp[Df];omega
 unfold AK;rw[h1,h2,Ae AB,Ae O,Ae AB]
theorem mM(w:Aa)(op:Int)(h:Df op=Ac):As Tryz.prog 128 #[J U op] w λe w'=>e=Av (J U 0)∧w=w':=by
 obtain⟨n0,n1,n2,n3,n4,n5,n6,n7,n8,n16,n17,n18,n19,n20,n21,n22,n23,n24,n25,n32,n33,n34,n35,n36,n37,n38,n39,n40,n48,n49,n50,n51,n52,n53,n64,n65,n66,n67,n68,n69⟩:=mL h;exact Ql
theorem size_any(w:Aa)(op:Int):As Tryz.prog 128 #[J U op] w λe w'=>e=Av (J U (AK op))∧w=w':=by
 cases h:Df op
 ·rw[VT h];exact mM w op h
 ·rcases Qj h with rfl|rfl|rfl|rfl|rfl|rfl|rfl|rfl|rfl|rfl|rfl|rfl|rfl|rfl|rfl|rfl|rfl|rfl|rfl|rfl|rfl|rfl|rfl|rfl|rfl|rfl|rfl|rfl|rfl|rfl|rfl|rfl|rfl|rfl|rfl|rfl|rfl|rfl|rfl|rfl
  all_goals
   clear h;go_in
   go_wp2
   go_ret;exact⟨AL,rfl⟩
end Gc
namespace Gc
open Gs Sv
theorem ends_any(w:Aa)(op:Int):As Tryz.prog 132 #[J U op] w λe w'=>e=Av (Ao (endsB op))∧w=w':=by
 have hc:op<32∨(32≤op∧op≤40)∨(40<op∧op<64)∨(64≤op∧op≤69)∨69<op:=O;obtain⟨q,hq⟩:=A9 (endsB op);rw[hq];rcases hc with h|h|h|h|h;·have e:=Qm;exact ND
 ·have e:q=Ag:=by rw[←hq];simp[endsB];omega
  exact Qo
 ·have e:=Qm;subst e;obtain⟨h1,h2⟩:=h;have d1:=NF;have d2:decide (64≤op)=Ac:=AA;exact Ml
 ·have e:q=Ag:=by rw[←hq];simp[endsB];omega
  subst e;obtain⟨h1,h2⟩:=h;have d1:=NF;exact Ml
 ·have e:=Qm;subst e;have d1:=NF;exact VU
theorem mO(w:Aa)(op:Int):As Tryz.prog 161 #[J U op] w λe w'=>e=Av (Ao (Gn op))∧w=w':=by
 have hc:op<65∨(65≤op∧op≤69)∨69<op:=O;obtain⟨q,hq⟩:=A9 (Gn op);rw[hq];rcases hc with h|h|h;·have e:q=Ac:=Qq;exact ND
 ·have e:q=Ag:=Qq;exact Qo
 ·have e:q=Ac:=Qq;subst e;exact VU
theorem plain_any(w:Aa)(op:Int):As Tryz.prog 138 #[J U op] w λe w'=>e=Av (Ao (Cc op))∧w=w':=by
 have hc:op<0∨(0≤op∧op≤8)∨(8<op∧op<16)∨(16≤op∧op≤25∧op≠24)∨op=24∨(25<op∧op<32)∨(32≤op∧op≤40)∨40<op:=O;obtain⟨q,hq⟩:=A9 (Cc op);rw[hq];rcases hc with h|h|h|h|h|h|h|h;·have e:=NH;exact ND
 ·have e:=Qr;exact Qo
 ·have e:=NH;exact VV
 ·have e:=Qr;subst e;obtain⟨h1,h2,h3⟩:=h;have d1:=NI;have d3:(op !=24)=Ag:=by simp;exact h3
  have d4:(op==24)=Ac:=by simp;exact h3
  exact Ml
 ·subst h;have e:q=Ac:=by rw[←hq];decide
  exact ND
 ·have e:=NH;subst e;obtain⟨h1,h2⟩:=h;have d1:=NI;have d2:decide (op≤25)=Ac:=AA;exact Ml
 ·have e:=Qr;exact VV
 ·have e:=NH;subst e;have d1:=NI;have d2:=NF;have d3:decide (op≤25)=Ac:=AA;exact Ml
theorem size_cases(op:Int):AK op=0∨AK op=1∨AK op=2∨AK op=5:=by
 unfold AK;split;·omega
 split;·omega
 split<;>omega
abbrev Jp(i:Ins):At:=A8 #[J U i.op,J V i.n]
theorem right_any(w:Aa)(i:Ins):As Tryz.prog 140 #[Jp i] w λe w'=>e=Av (Ao (DZ i))∧Fr Aj w w':=by
 have F1:=T ((Ak Aj w).alloc (.cells #[J U i.op,J V i.n] 27));obtain⟨op,n⟩:=i;have Hs:=T (λW=>size_any W op);have e:DZ ⟨op,n⟩=if AK op=0 then Ac else if AK op=1 then decide (n=0) else if AK op=2 then decide (n≤255) else Ag:=rfl;rw[e];clear e;rcases size_cases op with h|h|h|h;·rw[h] at Hs⊢;clear h;simp only[if_true];exact NJ
 ·rw[h] at Hs⊢;clear h;have hb:(n==0)=decide (n=0):=by by_cases q:n=0<;>simp[q]
  simp only[Int.reduceEq,if_true,if_false];generalize decide (n=0)=q at*;exact NJ
 ·rw[h] at Hs⊢;clear h;simp only[Int.reduceEq,if_true,if_false];generalize hq:decide (n≤255)=q at*;exact NJ
 ·rw[h] at Hs⊢;clear h;simp only[Int.reduceEq,if_true,if_false];exact NJ
end Gc
namespace Sp
open Gs Sv Gc
theorem mP{fn:Func}{t u v x:Tmp}(h:fn.results=#[.tmp t,.tmp u,.tmp v,.tmp x])(tmps:AP)(P:CG)(w:Aa):(results fn tmps).run P w=.ok (AF #[tmps.getD t BY,tmps.getD u BY,tmps.getD v BY,tmps.getD x BY]) w:=by
 simp[results,h]
def needsV(op:Int):At:=AF #[J U (Gs.takeD op),J U (Gs.putD op),J U (Gs.takeR op),J U (Gs.putR op)]
theorem mQ(w:Aa)(op:Int)(h:Df op=Ag):As Tryz.prog 164 #[J U op] w λe w'=>e=Av (needsV op)∧w=w':=by
 rcases Qj h with rfl|rfl|rfl|rfl|rfl|rfl|rfl|rfl|rfl|rfl|rfl|rfl|rfl|rfl|rfl|rfl|rfl|rfl|rfl|rfl|rfl|rfl|rfl|rfl|rfl|rfl|rfl|rfl|rfl|rfl|rfl|rfl|rfl|rfl|rfl|rfl|rfl|rfl|rfl|rfl
 all_goals
  clear h;go_in
  go_wp2
  refine Bu (mP rfl _ _ _) rfl ?_;exact⟨AL,rfl⟩
theorem mR{i:Ins}(h:DZ i=Ag):Df i.op=Ag:=by
 cases hk:Df i.op
 ·rw[DZ,VT hk] at h;simp at h
 ·rfl
end Sp
end Go.Proofs.YtdfegdoeebaagaaGreatDoor
