import Derived.Test.YtdfegdoeebaagaaGreatDoorX10
open Go.Value renaming slice→Z,int→J,bool→Ap,tuple→AF,ownBlock→Cb,agg→A9,oneCell'→Ir
open Option renaming some→I,none→G
open Go.IntKind renaming i64→U,u32→V,wrap_u32→Gu
open Go renaming World→Aa,Value→As,Calls→At,TypeId→AN,Ending→AY,info_parts→Cj,maxLen→BQ,Program→CF
open Bool renaming false→Ac,true→Ag
open List renaming getD_eq_getElem?_getD→AS,getElem?_eq_getElem→BK,length_append→Cq,append_assoc→C9,getElem_mem→CE,mem_cons→Dv,length_take→Iv
open Go.Ending renaming returned→Ax
open And renaming intro→Ay
open Nat renaming le_refl→AD,lt_of_lt_of_le→Bg,le_trans→Bf
open Or renaming inl→Af,inr→Ah
open Go.Proofs.Tryz renaming underlying85→FV
open Go.RowKit renaming intOf→AM
open Go.IntWalk renaming i64_in→GF
set_option linter.all false
set_option maxHeartbeats 40000000
set_option maxRecDepth 1000000
open Go Go.RowKit
namespace Go.Proofs.YtdfegdoeebaagaaGreatDoor
namespace Em
open Gs Tr
def hc(i:HI):List As:=[J U i.op,J U i.rd,J U i.ra,J U i.rb,J V i.imm]
def hcs(l:List HI):List As:=l.flatMap hc
theorem QQ(l:List HI): ∀u∈hcs l,u.oneCell'=Ag:=by
 intro u hu;obtain⟨i,_,hi⟩:=List.mem_flatMap.1 hu;simp only[hc,Dv,List.not_mem_nil,or_false] at hi;rcases hi with rfl|rfl|rfl|rfl|rfl<;>rfl
theorem QR(l m:List HI):hcs (l++m)=hcs l++hcs m:=by simp[hcs]
def ab(A:Aw):Option Nat:=A.map (·.block)
variable{n:Nat}
theorem own_ab{A:Aw}{c:Nat}{k:Nat}(h:(Z A n c).ownBlock=I k):ab A=I k:=VL
theorem ab_own{w:Aa}{base m c s:Nat}{ty:AN}{A:Aw}{xs:List As}(h:w.ownsRow base ty s (Z A n c) m xs){k:Nat}(he:ab A=I k):(Z A n c).ownBlock=I k:=by
 cases A
 ·simp[ab] at he
 ·simpa[Cb,ab] using he
structure Ep where
 g:Nat
 L:Aw
 lc:Nat
 X:Aw
 xc:Nat
def Ep.its(p:Ep)(k:Nat):Prop:=k=p.g∨ab p.L=I k∨ab p.X=I k
structure Es where
 l:List HI
 fx:List Nat
def emF(Q:Nat→As)(lv xv:As):Nat→As:=λi=>if i=17 then lv else if i=18 then xv else Q i
def fxV(l:List Nat):List As:=l.map λ(n:Nat)=> J U (n:Int)
theorem Et{w:Aa}{base s:Nat}{ty:AN}{v:As}{xs:List As}(h:w.ownsRow base ty s v n xs): ∃A c,v=Z A n c:=by
 rcases h.2 with⟨e,e2⟩|⟨g',cap,cur,e,_⟩;·exact⟨G,0,by rw[e,e2]⟩
 ·exact⟨_,_,e⟩
structure Em(w:Aa)(base:Nat)(p:Ep)(s:Es)(Q:Nat→As)(B:Nat):Prop where
 b:Cells w p.g 262 19 (emF Q (Z p.L s.l.length p.lc) (Z p.X s.fx.length p.xc))
 l:w.ownsRow base 270 5 (Z p.L s.l.length p.lc) s.l.length (hcs s.l)
 x:w.ownsRow base 3 1 (Z p.X s.fx.length p.xc) s.fx.length (fxV s.fx)
 g0:base≤p.g
 len:s.l.length≤B∧s.fx.length≤B
section
variable {w w' w2:Aa} {base:Nat} {p p':Ep} {s s' s2:Es} {Q:Nat→As} {B B':Nat} {S:AE} {v v2:As} {e:AY}
theorem Em.ge(h:Em w base p s Q B): ∀k,p.its k→base≤k:=by
 rintro k (e|e|e);·rw[e];exact h.g0
 ·exact Cn h.l k (ab_own h.l e)
 ·exact Cn h.x k (ab_own h.x e)
theorem Em.lt(h:Em w base p s Q B): ∀k,p.its k→k<w.heap.size:=by
 rintro k (e|e|e);·rw[e];exact h.b.lt
 ·exact own_lt h.l k (ab_own h.l e)
 ·exact own_lt h.x k (ab_own h.x e)
theorem Em.fr(h:Em w base p s Q B)(f:Fr S w w')(hs: ∀k,p.its k→ ¬S k):Em w' base p s Q B:=
 ⟨h.b.fr f (hs _ (Af rfl)),AR h.l f (λk hk=>hs k (Ah (Af (own_ab hk)))),AR h.x f (λk hk=>hs k (Ah (Ah (own_ab hk)))),h.g0,h.len⟩
theorem Em.fr0(h:Em w base p s Q B)(f:Fr Aj w w'):Em w' base p s Q B:=h.fr f (λ_ _ e=>e)
theorem Em.le(h:Em w base p s Q B)(hb:B≤B'):Em w base p s Q B':=⟨h.b,h.l,h.x,h.g0,Bf h.len.1 hb,Bf h.len.2 hb⟩
theorem Em.gL(h:Em w base p s Q B):ab p.L≠I p.g:=λe=>by
 obtain⟨cs,hb,_⟩:=h.b;exact AZ h.l hb Ak (ab_own h.l e)
theorem Em.gX(h:Em w base p s Q B):ab p.X≠I p.g:=λe=>by
 obtain⟨cs,hb,_⟩:=h.b;exact AZ h.x hb Ak (ab_own h.x e)
theorem Em.LX(h:Em w base p s Q B)(k:Nat)(e1:ab p.L=I k)(e2:ab p.X=I k):False:=by
 have h1:=ab_own h.l e1;have h2:=ab_own h.x e2;rcases h.l.2 with⟨e,_⟩|⟨g,cap,cur,hv,_,hb,_⟩;·rw[e] at h1;simp[Cb] at h1
 ·rw[hv] at h1;have hk:g=k:=by simpa[Cb] using h1
  subst hk;exact AZ h.x hb Ak h2
def EPost(w:Aa)(base:Nat)(p:Ep)(s':Es)(Q:Nat→As)(B':Nat)(v:As)(e:AY)(w':Aa):Prop:=
 e=Ax v∧ ∃p',p'.g=p.g∧Em w' base p' s' Q B'∧(∀k,p'.its k→p.its k∨w.heap.size≤k)∧Fr p.its w w'
theorem EPost.le(h:EPost w base p s' Q B v e w')(hb:B≤B'):EPost w base p s' Q B' v e w':=XQ
structure Elk(w w':Aa)(p p':Ep):Prop where
 g:p'.g=p.g
 it: ∀k,p'.its k→p.its k∨w.heap.size≤k
 f:Fr p.its w w'
theorem Elk.refl(w:Aa)(p:Ep):Elk w w p p:=⟨rfl,λk hk=> Af hk,Ao _ _⟩
theorem Elk.tr{p2:Ep}(h:Elk w w' p p')(k:Elk w' w2 p' p2):Elk w w2 p p2:=XR
theorem Elk.fr0(h:Elk w w' p p')(f:Fr Aj w' w2):Elk w w2 p p':=⟨h.g,h.it,h.f.trans f (λ_ _ e=>e.elim)⟩
theorem Elk.from0(f:Fr Aj w w')(h:Elk w' w2 p p'):Elk w w2 p p':=
 ⟨h.g,λk hk=>by
  have:=f.size;rcases h.it k hk with e|e;·exact Af e
  ·exact Ah O,(f.mono (S':=p.its) (λ_ _ e=>e.elim)).tr h.f⟩
theorem EPost.elim(h:EPost w base p s' Q B v e w'):e=Ax v∧ ∃p',Elk w w' p p'∧Em w' base p' s' Q B:=by
 obtain⟨he,p',h1,h2,h3,h4⟩:=h;exact⟨he,p',⟨h1,h3,h4⟩,h2⟩
theorem ego{P:CF}{zs:AO}{R:AY→Aa→Prop}(H:At P n zs w (EPost w base p s' Q B v))(k: ∀w' L lc X xc,Hid (Elk w w' p ⟨p.g,L,lc,X,xc⟩)→Hid (Em w' base ⟨p.g,L,lc,X,xc⟩ s' Q B)→R (Ax v) w'):At P n zs w R:=by
 refine H.mono ?_;intro e w' hq;obtain⟨rfl,⟨g,L,lc,X,xc⟩,k1,e1⟩:=hq.elim;obtain rfl:g=p.g:=k1.g;exact k _ _ _ _ _ (T k1) (T e1)
theorem EPost.of{p':Ep}(h:Elk w w' p p')(k:Em w' base p' s' Q B):EPost w base p s' Q B v (Ax v) w':=⟨rfl,p',h.g,k,h.it,h.f⟩
theorem EPost.then{p':Ep}(h:Elk w w' p p')(k:EPost w' base p' s' Q B v e w2):EPost w base p s' Q B v e w2:=by
 obtain⟨rfl,p2,k1,k2⟩:=k.elim;exact EPost.of (h.tr k1) k2
end
theorem info5:(Tryz.prog.info? 270).map (λi=>(i.zero,i.size,i.bytes))=I (I (A9 #[J U 0,J U 0,J U 0,J U 0,J V 0]),5,40):=AL
theorem I0:(Tryz.prog.info? 3).map (λi=>(i.zero,i.size,i.bytes))=I (I (J U 0),1,8):=AL
theorem emF17{Q:Nat→As}{lv xv:As}(u:As): ∀i,i<19→Bz (emF Q lv xv) 17 u i=emF Q u xv i:=by
 intro i _;unfold Bz emF;by_cases h:i=17;·simp[h]
 ·simp[h]
theorem emF18{Q:Nat→As}{lv xv:As}(u:As): ∀i,i<19→Bz (emF Q lv xv) 18 u i=emF Q lv u i:=by
 intro i _;unfold Bz emF;by_cases h:i=18;·simp[h]
 ·by_cases h2:i=17;·simp[h2]
  ·simp[h,h2]
section
variable (w:Aa) (base:Nat) (p:Ep) (s:Es) (Q:Nat→As) (B:Nat)
theorem add_any(h:Em w base p s Q B)(hB:B≤90000)(A:Aw)(c B2:Nat)(news:List HI)(hr:Reads w B2 5 A news.length (hcs news))(hn:news.length≤1000)(hb:base≤↑w):At Tryz.prog 150 #[↑p.g,Z A news.length c] w (EPost w base p ⟨s.l++news,s.fx⟩ Q (B+news.length) (AF #[])):=by
 obtain⟨i0,hi0,hz0,hz1,hz2⟩:=Cj info5;have c17:w.cell? ⟨p.g,17,G⟩=I (Z p.L s.l.length p.lc):=h.b.cell 17 O;have y17:=h.b.frozen 17;have hl:=h.l;have hlen:=h.len;have hgl:=h.b.lt;have H:=T h;generalize hm:s.l.length=m at*;have hm5:=T hm;generalize hk:news.length=k at*;have HK:=T hk;have hgL:=T h.gL;clear h hm hk;go_in;go_wp2_with
  (at_builtin
   refine CU _ rfl (.tmp 8) (.tmp 9) _ rfl base 270 i0 _ 5 40 Tryz.underlying260 hi0 hz0 hz1 hz2 rfl O (Z p.L m p.lc) m (hcs s.l) rfl hl B2 A k c (hcs news) rfl hr (QQ _) Cc O hb ?_
   intro v1 w1 hown1 hg1 hat1
   obtain⟨A1,c1,rfl⟩:=Et hown1
   have f1:Fr p.its w w1:=(Ao _ w).grown hg1 (λq hq=> Af (Ah (Af (own_ab hq))))
   have ob: ¬(λq=>ab p.L=I q) p.g:=hgL.out
   have b1:=H.out.b.fr (S:=λq=>ab p.L=I q) ((Ao _ w).grown hg1 (λq hq=> Af (own_ab hq))) ob
   have y17:=b1.frozen 17
   have c17:=b1.cell 17 O
   have hgl1:=b1.lt
   have HX:=T (Ay hown1 (Ay hat1 (Ay f1 (Ay b1 hg1))))
   clear hown1 hat1 f1 ob b1 hg1 hr hl)
 go_end0;obtain⟨o1,hat,f1,b1,hg1⟩:=HX.out;have hsz:=hg1.size;have hnew: ∀q,ab A1=I q→ab p.L=I q∨w.heap.size=q:=λq hq=>by
  have e:=ab_own o1 hq;rcases hat with e2|e2;·exact Od
  ·rw[e2] at e;exact Ah KD
 have hgA:ab A1≠I p.g:=λe=>by
  rcases hnew _ e with e|e;·exact hgL.out e
  ·have:=H.out.b.lt;omega
 have f2:Fr (· =p.g) w1 (w1.setCell ⟨p.g,17,G⟩ (Z A1 (m+k) c1)):=Br _ _ _ _;have em:(s.l++news).length=m+k:=by rw[Cq,hm5.out,HK.out]
 have hX1:=AR H.out.x ((Ao (λq=>ab p.L=I q) w).grown hg1 (λq hq=> Af (own_ab hq))) (λq hq e=>H.out.LX q e (own_ab hq));refine⟨rfl,⟨p.g,A1,c1,p.X,p.xc⟩,rfl,⟨?_, ?_, ?_,H.out.g0, ?_⟩,λq hq=>?_,f1.trans f2 (λq _ e=> .inl e)⟩;·rw[em];have hb1:=(b1.set_ 17 (Z A1 (m+k) c1)).congr (emF17 _);exact hb1
 ·rw[em,QR];exact AR o1 f2 (λq hq e=>hgA JY)
 ·exact AR hX1 f2 (λq hq e=>H.out.gX JY)
 ·rw[em];exact⟨O,by show s.fx.length≤B+k;have:=H.out.len.2;omega⟩
 ·rcases hq with e|e|e;·exact JO
  ·rcases hnew q e with e|e;·exact JP
   ·exact EJ
  ·exact Af (Ah (Ah e))
theorem I1(i:HI)(W:Aa)(hW:W=w.alloc (.cells (hc i).toArray 270))(h:Em w base p s Q B)(hB:B≤90000):At Tryz.prog 150 #[↑p.g,Z (I ⟨↑w,0,G⟩) 1 1] W (λe w'=>e=Ax (AF #[])∧Hid (EPost w base p ⟨s.l++[i],s.fx⟩ Q (B+1) (AF #[]) (Ax (AF #[])) w')):=by
 subst hW;have f0:=(Ao Aj w).alloc (.cells (hc i).toArray 270);have bk:Blk (w.alloc (.cells (hc i).toArray 270)) ↑w 270 (hc i).toArray:=AI _ _ _;have hr:Reads (w.alloc (.cells (hc i).toArray 270)) (↑w+1) 5 (I ⟨↑w,0,G⟩) 1 (hcs [i]):=by
  have:=Do (size:=5) (n:=1) bk (by simp[hc]);simpa[hcs] using this
 have hb:=h.g0;have hlt:=h.b.lt;refine(add_any _ base p s Q B (h.fr0 f0) hB (I ⟨↑w,0,G⟩) 1 _ [i] hr AC AA).mono ?_;intro e w' hq;obtain⟨rfl,p',k1,k2⟩:=hq.elim;exact⟨rfl,T (EPost.of (Elk.from0 f0 k1) k2)⟩
end
end Em
namespace Em
open Gs Tr
section
variable (w:Aa) (base:Nat) (p:Ep) (s:Es) (Q:Nat→As) (B:Nat)
theorem EX(h:Em w base p s Q B)(hB:B≤90000)(rd:Nat)(v:Int):At Tryz.prog 145 #[↑p.g,J U rd,J V v] w (EPost w base p ⟨s.l++[li rd v],s.fx⟩ Q (B+1) (AF #[])):=by
 have H:=T h;clear h;go_in;go_wp2_with fail;refine(I1 w base p s Q B (li rd v) _ rfl H.out hB).mono ?_;exact Om
theorem CA(h:Em w base p s Q B)(hB:B≤90000)(op rd ra rb:Nat):At Tryz.prog 197 #[↑p.g,J U op,J U rd,J U ra,J U rb] w (EPost w base p ⟨s.l++[hop op rd ra rb],s.fx⟩ Q (B+1) (AF #[])):=by
 have H:=T h;clear h;go_in;go_wp2_with fail;refine(I1 w base p s Q B (hop op rd ra rb) _ rfl H.out hB).mono ?_;exact Om
theorem KS(h:Em w base p s Q B)(hB:B≤90000)(rd ra:Nat)(v:Int):At Tryz.prog 196 #[↑p.g,J U rd,J U ra,J V v] w (EPost w base p ⟨s.l++[hld rd ra v],s.fx⟩ Q (B+1) (AF #[])):=by
 have H:=T h;clear h;go_in;go_wp2_with fail;refine(I1 w base p s Q B (hld rd ra v) _ rfl H.out hB).mono ?_;exact Om
theorem KT(h:Em w base p s Q B)(hB:B≤90000)(ra:Nat)(v:Int)(rb:Nat):At Tryz.prog 204 #[↑p.g,J U ra,J V v,J U rb] w (EPost w base p ⟨s.l++[hst ra v rb],s.fx⟩ Q (B+1) (AF #[])):=by
 have H:=T h;clear h;go_in;go_wp2_with fail;refine(I1 w base p s Q B (hst ra v rb) _ rfl H.out hB).mono ?_;exact Om
end
theorem EL{w w':Aa}{base:Nat}{p:Ep}{l l':List HI}{fx:List Nat}{Q:Nat→As}{B B':Nat}{v:As}{e:AY}(h:EPost w base p ⟨l,fx⟩ Q B v e w')(hl:l=l')(hb:B≤B'):EPost w base p ⟨l',fx⟩ Q B' v e w':=hl▸h.le hb
section
variable (w:Aa) (base:Nat) (p:Ep) (l:List HI) (fx:List Nat) (Q:Nat→As) (B:Nat)
theorem Yx(h:Em w base p ⟨l,fx⟩ Q B)(hB:B≤85000)(r:Nat):At Tryz.prog 231 #[↑p.g,J U r] w (EPost w base p ⟨l++lowC r,fx⟩ Q (B+2) (AF #[])):=by
 have H:=T h;clear h;go_in;go_wp2_with fail;refine ego (EX _ base p _ Q _ H.out O 12 4294967295) ?_;intro w1 L1 lc1 X1 xc1 K1 E1;go_wp2_with fail;refine ego (CA _ base _ _ Q _ E1.out O 5 r r 12) ?_;exact Yy
theorem Ke(h:Em w base p ⟨l,fx⟩ Q B)(hB:B≤85000)(r:Nat)(up:Int):At Tryz.prog 233 #[↑p.g,J U r,J V up] w (EPost w base p ⟨l++Fj r up,fx⟩ Q (B+3) (AF #[])):=by
 have H:=T h;clear h;go_in;go_wp2_with fail;refine ego (EX _ base p _ Q _ H.out O 12 up) ?_;intro w1 L1 lc1 X1 xc1 K1 E1;go_wp2_with fail;refine ego (CA _ base _ _ Q _ E1.out O 8 r r 12) ?_;intro w2 L2 lc2 X2 xc2 K2 E2;replace K2:=T (K1.out.tr K2.out);go_wp2_with fail;refine ego (CA _ base _ _ Q _ E2.out O 6 10 10 r) ?_;intro w3 L3 lc3 X3 xc3 K3 E3;replace K3:=T (K2.out.tr K3.out)
 go_wp2
 go_end0;exact EL (EPost.of K3.out E3.out) Mx O
theorem My(h:Em w base p ⟨l,fx⟩ Q B)(hB:B≤85000)(rd r:Nat):At Tryz.prog 232 #[↑p.g,J U rd,J U r] w (EPost w base p ⟨l++IH rd r,fx⟩ Q (B+2) (AF #[])):=by
 have H:=T h;clear h;go_in;go_wp2_with fail;refine ego (EX _ base p _ Q _ H.out O 12 31) ?_;intro w1 L1 lc1 X1 xc1 K1 E1;go_wp2_with fail;refine ego (CA _ base _ _ Q _ E1.out O 9 rd r 12) ?_;exact Yy
theorem host_any(op:Int)(h0:16≤op)(h1:op≤25)(h2:op≠24):At Tryz.prog 230 #[J V op] w λe w'=>e=Ax (J U (Fi op))∧w=w':=by
 have hc:=Yz;clear h0 h1 h2;rcases hc with rfl|rfl|rfl|rfl|rfl|rfl|rfl|rfl|rfl
 all_goals
  go_in
  go_wp2
  go_ret;exact⟨rfl,rfl⟩
theorem MA(h:Em w base p ⟨l,fx⟩ Q B)(hB:B≤80000)(op:Int)(h0:16≤op)(h1:op≤25)(h2:op≠24)(rd a b:Nat):At Tryz.prog 201 #[↑p.g,J V op,J U rd,J U a,J U b] w (EPost w base p ⟨l++It op rd a b,fx⟩ Q (B+3) (AF #[])):=by
 have H:=T h;clear h;have hc:=Yz;clear h0 h1 h2;rcases hc with rfl|rfl|rfl|rfl|rfl|rfl|rfl|rfl|rfl
 all_goals
  go_in;go_wp2_with fail;refine(host_any _ _ O O O).mono ?_;rintro e w1 ⟨rfl,rfl⟩
 ·skip
  go_wp2_with fail;refine ego (CA _ base p _ Q _ H.out O 3 rd a b) ?_;exact Rj
 ·skip
  exact Y4
 ·skip
  go_wp2_with fail;refine ego (CA _ base p _ Q _ H.out O 5 rd a b) ?_;exact On
 ·skip
  go_wp2_with fail;refine ego (CA _ base p _ Q _ H.out O 6 rd a b) ?_;exact On
 ·skip
  go_wp2_with fail;refine ego (CA _ base p _ Q _ H.out O 7 rd a b) ?_;exact On
 ·skip
  go_wp2_with fail;refine ego (CA _ base p _ Q _ H.out O 8 rd a b) ?_;exact Rj
 ·skip
  go_wp2_with fail;refine ego (CA _ base p _ Q _ H.out O 9 rd a b) ?_;exact On
 ·skip
  go_wp2_with fail;refine ego (CA _ base p _ Q _ H.out O 10 rd a b) ?_;exact Rj
 ·skip
  exact Y4
end
end Em
namespace Em
open Gs Tr
def At64(w:Aa)(base:Nat)(v:As)(N:Nat)(f:Nat→Int):Prop:=0<N→ ∃b o c,v=Z (I ⟨b,o,G⟩) N c∧N≤c∧b<base∧ ∀i,i<N→w.cell? ⟨b,o+i,G⟩=I (J U (f i))
theorem At64.fr{w w':Aa}{base N:Nat}{v:As}{f:Nat→Int}{S:AE}(h:At64 w base v N f)(k:Fr S w w')(hb:base≤↑w)(hs: ∀q,q<base→ ¬S q):At64 w' base v N f:=λhN=>by
 obtain⟨b,o,c,e,hc,hlt,hf⟩:=h hN;exact⟨b,o,c,e,hc,hlt,λi hi=>k.cell (hf i hi) Rl (hs b hlt)⟩
structure Pln(w:Aa)(base N:Nat)(Q:Nat→As)(pl:Pl):Prop where
 reg:At64 w base (Q 14) N pl.reg
 slot:At64 w base (Q 15) N pl.slot
 form: ∀n,n<N→Plc pl n
 n64:N≤64
section
variable {w w':Aa} {base N B:Nat} {p p':Ep} {s s':Es} {Q:Nat→As} {pl:Pl}
theorem Pln.fr0(h:Pln w base N Q pl)(f:Fr Aj w w')(hb:base≤↑w):Pln w' base N Q pl:=⟨h.reg.fr f hb (λ_ _ e=>e),h.slot.fr f hb (λ_ _ e=>e),h.form,h.n64⟩
theorem Pln.lk(h:Pln w base N Q pl)(hE:Em w base p s Q B)(k:Elk w w' p p'):Pln w' base N Q pl:=by
 have hb:base≤↑w:=Nat.le_of_lt (Nat.lt_of_le_of_lt hE.g0 hE.b.lt);exact⟨h.reg.fr k.f hb (λq hq e=>by have:=hE.ge q e;omega),h.slot.fr k.f hb (λq hq e=>by have:=hE.ge q e;omega),h.form,h.n64⟩
end
section
variable (w:Aa) (base:Nat) (p:Ep) (l:List HI) (fx:List Nat) (Q:Nat→As) (B:Nat)
theorem Y5(h:Em w base p ⟨l,fx⟩ Q B)(hB:B≤80000)(r:Nat):At Tryz.prog 198 #[↑p.g,J U r] w (EPost w base p ⟨l++[⟨17,0,r,0,0⟩],fx++[l.length]⟩ Q (B+2) (AF #[])):=by
 obtain⟨i0,hi0,hz0,hz1,hz2⟩:=Cj I0;have c17:w.cell? ⟨p.g,17,G⟩=I (Z p.L l.length p.lc):=h.b.cell 17 O;have c18:w.cell? ⟨p.g,18,G⟩=I (Z p.X fx.length p.xc):=h.b.cell 18 O;have y18:=h.b.frozen 18;have hlen:=h.len;have hb:=Ro;have hgl:=h.b.lt;dsimp only at hlen;have hx:w.ownsRow base 3 1 (Z p.X fx.length p.xc) fx.length (fxV fx):=h.x;have H:=T h;have hgX:=T h.gX;generalize hm:l.length=m at*;generalize hk:fx.length=k at*;have HM:=T hm;have HK:=T hk;obtain⟨w0,hw0⟩: ∃w0,w0=(w.drew.alloc (.cells #[J U (m:Int)] 3)):=⟨_,rfl⟩;have hx0:=T (DU (w:=w.drew) hx (.cells #[J U (m:Int)] 3));have hrd:Hid (Reads (w.drew.alloc (.cells #[J U (m:Int)] 3)) (↑w+1) 1 (I ⟨↑w,0,G⟩) 1 [J U (m:Int)]):=T (Do (AI w.drew 3 #[J U (m:Int)]) rfl);have B0:=T (h.b.drew.alloc (.cells #[J U (m:Int)] 3));clear h hm hk hx hw0 w0;go_in;go_wp2_with fail;go_region_law (
  refine IC _ rfl (.tmp 8) (.tmp 14) 85 rfl base 3 i0 _ 1 8 FV hi0 hz0 hz1 hz2 rfl O (Z p.X k p.xc) k (fxV fx) BC hx0.out (w.heap.size+1) (I ⟨w.heap.size,0,G⟩) 1 1 [J U (m:Int)] BC hrd.out Ei Cc O AA ?_
  intro v1 w1 hown1 hg1 hat1
  obtain⟨A1,c1,rfl⟩:=Et hown1
  have b1:=B0.out.fr (S:=λq=>ab p.X=I q) ((Ao _ _).grown hg1 (λq hq=> Af (own_ab hq))) (λe=>hgX.out e)
  have y18:=b1.frozen 18
  have k18:=b1.cell 18 O
  have hgl1:=b1.lt)
 all_goals
  have f01:Fr Aj w (w.drew.alloc (.cells #[J U (m:Int)] 3)):=((Ao _ w).drew).alloc _;have fg:Fr (λq=>ab p.X=I q) w w1:=(f01.mono (λ_ _ e=>e.elim)).grown hg1 (λq hq=> Af (own_ab hq));have f2:Fr (· =p.g) w1 (w1.setCell ⟨p.g,18,G⟩ (Z A1 (k+1) c1)):=Br _ _ _ _;have hsz:w.heap.size+1≤w1.heap.size:=by have:=hg1.size;simpa using this
  have hnew: ∀q,ab A1=I q→ab p.X=I q∨w.heap.size≤q:=λq hq=>by
   have e:=ab_own hown1 hq;rcases hat1 with e2|e2;·exact Od
   ·rw[e2] at e;exact Ah (by have:↑w+1=q:=(by simpa using e);omega)
  have hgA:ab A1≠I p.g:=λe=>by
   rcases hnew _ e with e|e;·exact hgX.out e
   ·omega
  have em:(fx++[l.length]).length=k+1:=by rw[Cq,HK.out];rfl
  have E7:Hid (Em (w1.setCell ⟨p.g,18,G⟩ (Z A1 (k+1) c1)) base ⟨p.g,p.L,p.lc,A1,c1⟩ ⟨l,fx++[l.length]⟩ Q (B+1)):=T (by
   refine⟨?_,AR (AR H.out.l fg (λq hq e=>H.out.LX q (own_ab hq) e)) f2 (λq hq e=>H.out.gL JY), ?_,H.out.g0,⟨by show l.length≤B+1;have:=H.out.len.1;dsimp only at this;omega,by show(fx++[l.length]).length≤B+1;rw[em];have:=H.out.len.2;dsimp only at this;rw[HK.out] at this;omega⟩⟩;·show Cells _ p.g 262 19 (emF Q (Z p.L l.length p.lc) (Z A1 (fx++[l.length]).length c1));rw[em];exact(b1.set_ 18 _).congr (emF18 _)
   ·show World.ownsRow _ base 3 1 (Z A1 (fx++[l.length]).length c1) (fx++[l.length]).length (fxV (fx++[l.length]));rw[em];have e2:fxV (fx++[l.length])=fxV fx++[J U (m:Int)]:=by rw[←HM.out];simp[fxV]
    rw[e2];exact AR hown1 f2 (λq hq e=>hgA JY))
  have K7:Hid (Elk w (w1.setCell ⟨p.g,18,G⟩ (Z A1 (k+1) c1)) p ⟨p.g,p.L,p.lc,A1,c1⟩):=T ⟨rfl,λq hq=>by
   rcases hq with e|e|e;·exact JO
   ·exact JP
   ·rcases hnew q e with e|e;·exact Af (Ah (Ah e))
    ·exact Ah e,(fg.mono (λq _ e=> Ah (Ah e))).trans f2 (λq _ e=> Af e)⟩
  clear f01 fg f2 hsz hnew hgA em hown1 hg1 hat1 b1 y18 k18 hgl1 c17 c18 hx0 hrd B0;generalize hW:w1.setCell ⟨p.g,18,G⟩ (Z A1 (k+1) c1)=W at*;clear hW;go_wp2_with fail;refine(I1 W base ⟨p.g,p.L,p.lc,A1,c1⟩ ⟨l,fx++[l.length]⟩ Q (B+1) ⟨17,0,r,0,0⟩ _ rfl E7.out O).mono ?_;rintro e w' ⟨rfl,HQ⟩
  go_wp2
  go_end0;rw[←HM.out];exact EPost.then K7.out HQ.out
theorem At64.cell{w:Aa}{base N:Nat}{v:As}{f:Nat→Int}(h:At64 w base v N f){n:Nat}(hn:n<N): ∃b o c,v=Z (I ⟨b,o,G⟩) N c∧N≤c∧w.cell? ⟨b,o+n,G⟩=I (J U (f n)):=by
 obtain⟨b,o,c,e,hc,_,hf⟩:=h O;exact⟨b,o,c,e,hc,hf n hn⟩
theorem to_any(N:Nat)(pl:Pl)(h:Em w base p ⟨l,fx⟩ Q B)(hP:Pln w base N Q pl)(n:Nat)(hn:n<N):At Tryz.prog 199 #[↑p.g,J U n] w λe w'=>e=Ax (J U (BI pl n 9))∧w=w':=by
 obtain⟨b,o,c,e,hc,hf⟩:=hP.reg.cell hn;have h64:=hP.n64;have c14:=Rq;rw[e] at c14;have hform:=hP.form n hn;clear h hP e;by_cases hr:0≤pl.reg n;·have e1:((BI pl n 9:Nat):Int)=pl.reg n:=Y6;rw[e1];have hb:decide (pl.reg n≥0)=Ag:=Kf;exact Y7
 ·have e1:BI pl n 9=9:=by unfold BI;rw[Ae hr]
  rw[e1];have hb:decide (pl.reg n≥0)=Ac:=Kf;exact Y7
theorem get_any(N:Nat)(pl:Pl)(h:Em w base p ⟨l,fx⟩ Q B)(hB:B≤80000)(hP:Pln w base N Q pl)(n:Nat)(hn:n<N)(into:Nat):At Tryz.prog 200 #[↑p.g,J U n,J U into] w (EPost w base p ⟨l++CO pl n into,fx⟩ Q (B+1) (J U (BI pl n into))):=by
 obtain⟨b,o,c,e,hc,hf⟩:=hP.reg.cell hn;obtain⟨b2,o2,c2,e2,hc2,hf2⟩:=hP.slot.cell hn;have h64:=hP.n64;have c14:=Rq;have c15:=Y8;rw[e] at c14;rw[e2] at c15;have hform:=hP.form n hn;have H:=T h;clear h hP e e2;by_cases hr:0≤pl.reg n
 ·have e1:((BI pl n into:Nat):Int)=pl.reg n:=Y6;have e2:CO pl n into=[]:=by unfold CO;rw[An hr]
  rw[e1,e2];have hb:decide (pl.reg n≥0)=Ag:=Kf;generalize pl.reg n=x at*;clear e1 e2 hf2 c15 hform;go_in
  go_wp2
  go_ret;exact Y9
 ·have e1:BI pl n into=into:=by unfold BI;rw[Ae hr]
  have e2:CO pl n into=[hld into 15 (Ez pl n)]:=by unfold CO;rw[Ae hr]
  rw[e1,e2];have hb:decide (pl.reg n≥0)=Ac:=Kf;have hs:=YA;have hw:=YB;have hs0:=hs.1;have hs1:=hs.2;have hwi:64+pl.slot n=Ez pl n:=QO;generalize pl.reg n=x at*;clear e1 e2 hform hs;go_in;go_wp2_with fail;refine(KS _ base p _ Q _ H.out O into 15 (Ez pl n)).mono ?_;intro e w1 hq;obtain⟨rfl,p1,k1,e1⟩:=hq.elim;have HX:=T (Ay k1 e1);clear hq k1 e1
  go_wp2
  go_ret;exact EPost.of HX.out.1 HX.out.2
theorem keep_any(N:Nat)(pl:Pl)(h:Em w base p ⟨l,fx⟩ Q B)(hB:B≤80000)(hP:Pln w base N Q pl)(n:Nat)(hn:n<N)(r:Nat):At Tryz.prog 203 #[↑p.g,J U n,J U r] w (EPost w base p ⟨l++H7 pl n r,fx⟩ Q (B+1) (AF #[])):=by
 obtain⟨b,o,c,e,hc,hf⟩:=hP.reg.cell hn;obtain⟨b2,o2,c2,e2,hc2,hf2⟩:=hP.slot.cell hn;have h64:=hP.n64;have c14:=Rq;have c15:=Y8;rw[e] at c14;rw[e2] at c15;have hform:=hP.form n hn;have H:=T h;clear h hP e e2;by_cases hr:0≤pl.reg n
 ·have e2:H7 pl n r=[]:=by unfold H7;rw[Ae (by omega)]
  rw[e2];have hb:decide (pl.reg n<0)=Ac:=Kf;generalize pl.reg n=x at*;clear e2 hf2 c15 hform;go_in
  go_wp2
  go_end0;exact Y9
 ·have e2:H7 pl n r=[hst 15 (Ez pl n) r]:=by unfold H7;rw[An (by omega)]
  rw[e2];have hb:decide (pl.reg n<0)=Ag:=AA;have hs:=YA;have hw:=YB;have hs0:=hs.1;have hs1:=hs.2;have hwi:64+pl.slot n=Ez pl n:=QO;generalize pl.reg n=x at*;clear e2 hform hs;go_in;go_wp2_with fail;refine(KT _ base p _ Q _ H.out O 15 (Ez pl n) r).mono ?_;intro e w1 hq;obtain⟨rfl,p1,k1,e1⟩:=hq.elim;have HX:=T (Ay k1 e1);clear hq k1 e1
  go_wp2
  go_end0;exact EPost.of HX.out.1 HX.out.2
end
end Em
namespace Em
open Gs Tr
section
variable (w:Aa) (base:Nat) (p:Ep) (l:List HI) (fx:List Nat) (Q:Nat→As) (B:Nat)
theorem flag_any(h:Em w base p ⟨l,fx⟩ Q B)(hB:B≤70000)(op:Int)(h0:16≤op)(h1:op≤25)(h2:op≠24)(a b:Nat):At Tryz.prog 202 #[↑p.g,J V op,J U a,J U b] w (EPost w base p ⟨l++Ia op a b,fx⟩ Q (B+40) (AF #[])):=by
 have H:=T h;clear h;by_cases c16:op=16
 ·subst c16;go_in;go_wp2_with fail;refine ego (MA _ base p _ _ Q _ H.out O 16 O O O 9 a b) ?_;intro w1 L1 lc1 X1 xc1 K1 E1;go_wp2_with fail;refine ego (CA _ base _ _ Q _ E1.out O 13 10 9 15) ?_;intro w2 L2 lc2 X2 xc2 K2 E2;replace K2:=T (K1.out.tr K2.out);go_wp2_with fail;refine ego (My _ base _ _ _ Q _ E2.out O 11 9) ?_;intro w3 L3 lc3 X3 xc3 K3 E3;replace K3:=T (K2.out.tr K3.out);go_wp2_with fail;refine ego (Ke _ base _ _ _ Q _ E3.out O 11 1) ?_;intro w4 L4 lc4 X4 xc4 K4 E4;replace K4:=T (K3.out.tr K4.out);go_wp2_with fail;refine ego (CA _ base _ _ Q _ E4.out O 12 11 9 a) ?_;intro w5 L5 lc5 X5 xc5 K5 E5;replace K5:=T (K4.out.tr K5.out);go_wp2_with fail;refine ego (Ke _ base _ _ _ Q _ E5.out O 11 2) ?_;intro w6 L6 lc6 X6 xc6 K6 E6;replace K6:=T (K5.out.tr K6.out);go_wp2_with fail;refine ego (CA _ base _ _ Q _ E6.out O 7 11 a 9) ?_;intro w7 L7 lc7 X7 xc7 K7 E7;replace K7:=T (K6.out.tr K7.out);go_wp2_with fail;refine ego (CA _ base _ _ Q _ E7.out O 7 12 b 9) ?_;intro w8 L8 lc8 X8 xc8 K8 E8;replace K8:=T (K7.out.tr K8.out);go_wp2_with fail;refine ego (CA _ base _ _ Q _ E8.out O 5 11 11 12) ?_;intro w9 L9 lc9 X9 xc9 K9 E9;replace K9:=T (K8.out.tr K9.out);go_wp2_with fail;refine ego (My _ base _ _ _ Q _ E9.out O 11 11) ?_;intro w10 L10 lc10 X10 xc10 K10 E10;replace K10:=T (K9.out.tr K10.out);go_wp2_with fail;refine ego (Ke _ base _ _ _ Q _ E10.out O 11 3) ?_;intro w11 L11 lc11 X11 xc11 K11 E11;replace K11:=T (K10.out.tr K11.out)
  go_wp2
  go_end0;exact EL (EPost.of K11.out E11.out) YD O
 by_cases c17:op=17;·subst c17;go_in;go_wp2_with fail;refine ego (MA _ base p _ _ Q _ H.out O 17 O O O 9 a b) ?_;exact YE
 by_cases c25:op=25;·subst c25;go_in;go_wp2_with fail;refine ego (MA _ base p _ _ Q _ H.out O 25 O O O 9 a b) ?_;exact YE
 ·have n16:(op==16)=Ac:=by simpa using c16
  have n17:(op==17)=Ac:=by simpa using c17
  have n25:(op==25)=Ac:=by simpa using c25
  have HC:=T (Ay c16 (Ay c17 c25));clear c16 c17 c25;go_in;go_wp2_with fail;refine ego (MA _ base p _ _ Q _ H.out O op O O O 9 a b) ?_;intro w1 L1 lc1 X1 xc1 K1 E1;go_wp2_with fail;refine ego (CA _ base _ _ Q _ E1.out O 13 10 9 15) ?_;intro w2 L2 lc2 X2 xc2 K2 E2;replace K2:=T (K1.out.tr K2.out);go_wp2_with fail;refine ego (My _ base _ _ _ Q _ E2.out O 11 9) ?_;intro w3 L3 lc3 X3 xc3 K3 E3;replace K3:=T (K2.out.tr K3.out);go_wp2_with fail;refine ego (Ke _ base _ _ _ Q _ E3.out O 11 1) ?_;intro w4 L4 lc4 X4 xc4 K4 E4;replace K4:=T (K3.out.tr K4.out)
  go_wp2
  go_end0;obtain⟨c16,c17,c25⟩:=HC.out;exact EL (EPost.of K4.out E4.out) (by simp[Ia,c16,c17,c25]) O
end
end Em
namespace Em
open Gs Tr
theorem nU{w w':Aa}{base:Nat}{p:Ep}{l l':List HI}{fx fx':List Nat}{Q:Nat→As}{B B':Nat}{v:As}{e:AY}(h:EPost w base p ⟨l,fx⟩ Q B v e w')(hl:l=l')(hf:fx=fx')(hb:B≤B'):EPost w base p ⟨l',fx'⟩ Q B' v e w':=hf▸hl▸h.le hb
section
variable (w:Aa) (base:Nat) (p:Ep) (l:List HI) (fx:List Nat) (Q:Nat→As) (B:Nat)
theorem YF(h:Em w base p ⟨l,fx⟩ Q B)(hB:B≤70000)(bs:Nat)(word:Int)(need high out:Nat)(h1:need≤16)(h2:high≤16)(h3:out≤64)(hm: ¬Cu high need out<need):At Tryz.prog 146 #[↑p.g,J U bs,J V word,J U need,J U high,J U out] w (EPost w base p ⟨l++Dg bs word need (Cu high need out) 0,fx++[l.length+3,l.length+6]⟩ Q (B+20) (Ap Ag)):=by
 have H:=T h;clear h;by_cases hq:16+(need:Int) -out<16 -(high:Int);·have em:=YG;rw[em] at hm⊢;have hlt:decide (16+(need:Int) -out<(need:Int))=Ac:=Mj;have hm0:0≤16+(need:Int) -out:=O;have hm1:16+(need:Int) -out≤100:=O;have hwr:IntKind.u32.wrap (16+(need:Int) -out)=16+(need:Int) -out:=ET;exact YH
 ·have em:=YI;rw[em] at hm⊢;have hlt:decide (16 -(high:Int)<(need:Int))=Ac:=Mj;have hm0:0≤16 -(high:Int):=O;have hm1:16 -(high:Int)≤100:=O;have hwr:IntKind.u32.wrap (16 -(high:Int))=16 -(high:Int):=ET;exact YH
theorem YJ(h:Em w base p ⟨l,fx⟩ Q B)(bs:Nat)(word:Int)(need high out:Nat)(h1:need≤16)(h2:high≤16)(h3:out≤64)(hm:Cu high need out<need):At Tryz.prog 146 #[↑p.g,J U bs,J V word,J U need,J U high,J U out] w λe w'=>e=Ax (Ap Ac)∧w=w':=by
 clear h;by_cases hq:16+(need:Int) -out<16 -(high:Int);·have em:=YG;rw[em] at hm;have hlt:decide (16+(need:Int) -out<(need:Int))=Ag:=Mj;exact YK
 ·have em:=YI;rw[em] at hm;have hlt:decide (16 -(high:Int)<(need:Int))=Ag:=Mj;exact YK
end
end Em
namespace Em
open Gs Tr
abbrev iiA(x:IIn):AO:=#[J U x.op,J U x.dst,J U x.a,J U x.b,J V x.imm]
structure Pq(Q:Nat→As)(pg:Pg):Prop where
 nd:Q 1=J U pg.nd
 nr:Q 2=J U pg.nr
 hd:Q 3=J U pg.hd
 hr:Q 4=J U pg.hr
 fl:Q 7=J U pg.fl
 nx:Q 8=J V pg.nx
 tg:Q 9=J U pg.tg
 br:Q 10=J U pg.br
 tk:Q 11=J V pg.tk
 ct:Q 12=J U pg.ct
section
variable (w:Aa) (base:Nat) (p:Ep) (l:List HI) (fx:List Nat) (Q:Nat→As) (B:Nat) (N:Nat) (pl:Pl) (pg:Pg)
theorem Kg(k:Int)(h:Em w base p ⟨l,fx⟩ Q B)(hB:B≤80000)(hP:Pln w base N Q pl)(n:Nat)(hn:n<N)(into:Nat)(hk:(into:Int)=k):At Tryz.prog 200 #[↑p.g,J U n,J U k] w (EPost w base p ⟨l++CO pl n into,fx⟩ Q (B+1) (J U (BI pl n into))):=by
 subst hk;exact get_any w base p l fx Q B N pl h hB hP n hn into
theorem one_04(h:Em w base p ⟨l,fx⟩ Q B)(hB:B≤60000)(hP:Pln w base N Q pl)(hQ:Pq Q pg)(n:Nat)(hn:n<N)(x:IIn)(hm:MadeOk pg.nd pg.nr x n)(hnd:pg.nd≤16)(hnr:pg.nr≤16)(hx:x.op=0∨x.op=1∨x.op=2∨x.op=3∨x.op=4):At Tryz.prog 147 #[↑p.g,J U n,A9 (iiA x)] w (EPost w base p ⟨l++G8 pg pl n x,fx⟩ Q (B+60) (AF #[])):=by
 have hb:=Ro;have hgl:=h.b.lt;have hn64:n<64:=Bg hn hP.n64;obtain⟨xop,dst,xa,xb,imm⟩:=x;have f0:Fr Aj w (w.alloc (.cells (iiA ⟨xop,dst,xa,xb,imm⟩) 266)):=(Ao _ w).alloc _;have HBX:Hid (∀W,Fr p.its (w.alloc (.cells (iiA ⟨xop,dst,xa,xb,imm⟩) 266)) W→Blk W ↑w 266 (iiA ⟨xop,dst,xa,xb,imm⟩)):=T (λW f=>(AI w 266 (iiA ⟨xop,dst,xa,xb,imm⟩)).fr f (λe=>by have:=h.lt _ e;omega));have H:=T (h.fr0 f0);have HP:=T (hP.fr0 f0 hb);have HQ:=T hQ;have F0:=T f0;have him0:=hm.imm.1;have him1:=hm.imm.2;have HM:=T hm;dsimp only at him0 him1;have hb0:=AI w 266 (iiA ⟨xop,dst,xa,xb,imm⟩);have c0:=hb0.cell 0;have c4:=hb0.cell 4;have hH:=T h;clear h hP hQ f0 hm;obtain⟨rd,hrd⟩:=A8 (BI pl n 9);have HRD:=T hrd;have Hto:=T (to_any _ base p l fx Q B N pl H.out HP.out n hn);rw[hrd] at Hto;clear hrd;dsimp only at hx;rcases hx with rfl|rfl|rfl|rfl|rfl
 ·go_in;go_wp2_with fail;refine Az Hto ?_;rintro e w1 ⟨rfl,rfl⟩;go_wp2_with fail;refine ego (EX _ base p _ Q _ H.out O rd imm) ?_;intro w2 L2 lc2 X2 xc2 K2 E2;have bx2:=HBX.out _ K2.out.f;go_wp2_with fail;refine ego (keep_any _ base _ _ _ Q _ N pl E2.out O (HP.out.lk H.out K2.out) n hn rd) ?_;intro w9 L9 lc9 X9 xc9 K9 E9;replace K9:=T (K2.out.tr K9.out)
  go_wp2
  go_end0;exact EL (EPost.of (Elk.from0 F0.out K9.out) E9.out) MB O
 ·have hlt:imm<pg.nd:=(HM.out.arg rfl).2;have c1:(w.alloc (.cells (iiA ⟨1,dst,xa,xb,imm⟩) 266)).cell? ⟨p.g,1,G⟩=I (J U pg.nd):=by rw[←HQ.out.nd];exact H.out.b.cell 1 (by omega)
  have hnd0:(0:Int)≤pg.nd:=O;have hnd1:(pg.nd:Int)≤16:=O;have W1:IntKind.i64.wrap (4+(pg.nd:Int))=4+pg.nd:=GF _ O;have W2:IntKind.i64.wrap (4+(pg.nd:Int) -1)=4+pg.nd -1:=GF _ O;have W3:=YL;have W4:IntKind.i64.wrap (4+(pg.nd:Int) -1 -imm)=4+pg.nd -1 -imm:=GF _ O;have W5:IntKind.u32.wrap (4+(pg.nd:Int) -1 -imm)=4+pg.nd -1 -imm:=ET;have q0:0≤4+(pg.nd:Int) -1 -imm:=O;have HQ1:=T HQ.out.nd;go_in;go_wp2_with fail;refine Az Hto ?_;rintro e w1 ⟨rfl,rfl⟩;go_upto_region 6 with(fail);go_region_held (λW=>W.cell? ⟨p.g,1,G⟩=I (J U pg.nd)∧W.cell? ⟨↑w,4,G⟩=I (J V imm)) (first|exact⟨c1,c4⟩|exact⟨s1,s4⟩)
   ((refine(KS _ base p _ Q _ (H.out.fr0 (Ao Aj _).drew) O rd 14 _).mono ?_;intro e w2 hq;obtain⟨rfl,⟨g2,L2,lc2,X2,xc2⟩,k2,e2⟩:=hq.elim;obtain rfl:g2=p.g:=k2.g;have K2:=T (Elk.from0 (Ao Aj _).drew k2);have E2:=T e2;have bx2:=HBX.out _ K2.out.f;clear hq k2 e2;have s1:w2.cell? ⟨p.g,1,G⟩=I (J U pg.nd):=(by rw[←HQ1.out];exact E2.out.b.cell 1 (by omega));have s4:w2.cell? ⟨↑w,4,G⟩=I (J V imm):=bx2.cell 4))
  all_goals
   skip
   go_wp2_with fail;refine ego (keep_any _ base _ _ _ Q _ N pl E2.out O (HP.out.lk H.out K2.out) n hn rd) ?_;intro w9 L9 lc9 X9 xc9 K9 E9;replace K9:=T (K2.out.tr K9.out)
   go_wp2
   go_end0;exact EL (EPost.of (Elk.from0 F0.out K9.out) E9.out) MB O
 ·have hlt:imm<pg.nr:=(HM.out.ret rfl).2;have c1:(w.alloc (.cells (iiA ⟨2,dst,xa,xb,imm⟩) 266)).cell? ⟨p.g,2,G⟩=I (J U pg.nr):=by rw[←HQ.out.nr];exact H.out.b.cell 2 (by omega)
  have hnr0:(0:Int)≤pg.nr:=O;have hnr1:(pg.nr:Int)≤16:=O;have W1:IntKind.i64.wrap (20+(pg.nr:Int))=20+pg.nr:=GF _ O;have W2:IntKind.i64.wrap (20+(pg.nr:Int) -1)=20+pg.nr -1:=GF _ O;have W3:=YL;have W4:IntKind.i64.wrap (20+(pg.nr:Int) -1 -imm)=20+pg.nr -1 -imm:=GF _ O;have W5:IntKind.u32.wrap (20+(pg.nr:Int) -1 -imm)=20+pg.nr -1 -imm:=ET;have q0:0≤20+(pg.nr:Int) -1 -imm:=O;have HQ1:=T HQ.out.nr;go_in;go_wp2_with fail;refine Az Hto ?_;rintro e w1 ⟨rfl,rfl⟩;go_upto_region 8 with(fail);go_region_held (λW=>W.cell? ⟨p.g,2,G⟩=I (J U pg.nr)∧W.cell? ⟨↑w,4,G⟩=I (J V imm)) (first|exact⟨c1,c4⟩|exact⟨s1,s4⟩)
   ((refine(KS _ base p _ Q _ (H.out.fr0 (Ao Aj _).drew) O rd 13 _).mono ?_;intro e w2 hq;obtain⟨rfl,⟨g2,L2,lc2,X2,xc2⟩,k2,e2⟩:=hq.elim;obtain rfl:g2=p.g:=k2.g;have K2:=T (Elk.from0 (Ao Aj _).drew k2);have E2:=T e2;have bx2:=HBX.out _ K2.out.f;clear hq k2 e2;have s1:w2.cell? ⟨p.g,2,G⟩=I (J U pg.nr):=(by rw[←HQ1.out];exact E2.out.b.cell 2 (by omega));have s4:w2.cell? ⟨↑w,4,G⟩=I (J V imm):=bx2.cell 4))
  all_goals
   skip
   go_wp2_with fail;refine ego (keep_any _ base _ _ _ Q _ N pl E2.out O (HP.out.lk H.out K2.out) n hn rd) ?_;intro w9 L9 lc9 X9 xc9 K9 E9;replace K9:=T (K2.out.tr K9.out)
   go_wp2
   go_end0;exact EL (EPost.of (Elk.from0 F0.out K9.out) E9.out) MB O
 ·have hab:=HM.out.ab (by show 3≤3;omega);have hopx:=HM.out.alu rfl;dsimp only at hab hopx;have ha:xa<N:=O;have hb2:xb<N:=O;have c2:(w.alloc (.cells (iiA ⟨3,dst,xa,xb,imm⟩) 266)).drew.cell? ⟨↑w,2,G⟩=I (J U xa):=hb0.drew.cell 2;have c3:(w.alloc (.cells (iiA ⟨3,dst,xa,xb,imm⟩) 266)).drew.cell? ⟨↑w,3,G⟩=I (J U xb):=hb0.drew.cell 3;have hbz:base≤(w.alloc (.cells (iiA ⟨3,dst,xa,xb,imm⟩) 266)).heap.size:=AA;have Hg1:=T (Kg (w.alloc (.cells (iiA ⟨3,dst,xa,xb,imm⟩) 266)).drew base p l fx Q B N pl 7 (H.out.fr0 (Ao Aj _).drew) O (HP.out.fr0 (Ao Aj _).drew hbz) xa ha 7 rfl);go_in;go_wp2_with fail;refine Az Hto ?_;rintro e w1 ⟨rfl,rfl⟩;go_upto_region 10 with(fail);go_region_held (λW=>W.cell? ⟨↑w,2,G⟩=I (J U xa)∧W.cell? ⟨↑w,3,G⟩=I (J U xb)) (first|with_reducible exact⟨c2,c3⟩|with_reducible exact⟨s2,s3⟩|with_reducible exact⟨t2,t3⟩)
   (first
   |((with_reducible refine Az Hg1 ?_);intro e w2 hq;obtain⟨rfl,⟨g2,L2,lc2,X2,xc2⟩,k2,e2⟩:=hq.elim;obtain rfl:g2=p.g:=k2.g;have K2:=T (Elk.from0 (Ao Aj _).drew k2);have E2:=T e2;have bx2:=HBX.out _ K2.out.f;clear hq k2 e2;have s2:w2.cell? ⟨↑w,2,G⟩=I (J U xa):=bx2.cell 2;have s3:w2.cell? ⟨↑w,3,G⟩=I (J U xb):=bx2.cell 3)
   |((with_reducible refine(Kg _ base _ _ _ Q _ N pl 8 E2.out O (HP.out.lk H.out K2.out) xb hb2 8 rfl).mono ?_);intro e w3 hq;obtain⟨rfl,⟨g3,L3,lc3,X3,xc3⟩,k3,e3⟩:=hq.elim;obtain rfl:g3=p.g:=k3.g;have K3:=T (K2.out.tr k3);have E3:=T e3;have bx3:=HBX.out _ K3.out.f;clear hq k3 e3;have t2:w3.cell? ⟨↑w,2,G⟩=I (J U xa):=bx3.cell 2;have t3:w3.cell? ⟨↑w,3,G⟩=I (J U xb):=bx3.cell 3;have t4:w3.cell? ⟨↑w,4,G⟩=I (J V imm):=bx3.cell 4))
  all_goals
   skip
   go_wp2_with fail;refine ego (MA _ base _ _ _ Q _ E3.out O imm O O O rd (BI pl xa 7) (BI pl xb 8)) ?_;intro w4 L4 lc4 X4 xc4 K4 E4;replace K4:=T (K3.out.tr K4.out);have bx4:=HBX.out _ K4.out.f;go_wp2_with fail;refine ego (keep_any _ base _ _ _ Q _ N pl E4.out O (HP.out.lk H.out K4.out) n hn rd) ?_;intro w9 L9 lc9 X9 xc9 K9 E9;replace K9:=T (K4.out.tr K9.out)
   go_wp2
   go_end0;exact EL (EPost.of (Elk.from0 F0.out K9.out) E9.out) MB O
 ·have hab:=HM.out.ab (by show 3≤4;omega);have hopx:=HM.out.flg rfl;dsimp only at hab hopx;have ha:xa<N:=O;have hb2:xb<N:=O;have c2:(w.alloc (.cells (iiA ⟨4,dst,xa,xb,imm⟩) 266)).drew.cell? ⟨↑w,2,G⟩=I (J U xa):=hb0.drew.cell 2;have c3:(w.alloc (.cells (iiA ⟨4,dst,xa,xb,imm⟩) 266)).drew.cell? ⟨↑w,3,G⟩=I (J U xb):=hb0.drew.cell 3;have hbz:base≤(w.alloc (.cells (iiA ⟨4,dst,xa,xb,imm⟩) 266)).heap.size:=AA;have Hg1:=T (Kg (w.alloc (.cells (iiA ⟨4,dst,xa,xb,imm⟩) 266)).drew base p l fx Q B N pl 7 (H.out.fr0 (Ao Aj _).drew) O (HP.out.fr0 (Ao Aj _).drew hbz) xa ha 7 rfl);go_in;go_wp2_with fail;refine Az Hto ?_;rintro e w1 ⟨rfl,rfl⟩;go_upto_region 13 with(fail);go_region_held (λW=>W.cell? ⟨↑w,2,G⟩=I (J U xa)∧W.cell? ⟨↑w,3,G⟩=I (J U xb)) (first|with_reducible exact⟨c2,c3⟩|with_reducible exact⟨s2,s3⟩|with_reducible exact⟨t2,t3⟩)
   (first
   |((with_reducible refine Az Hg1 ?_);intro e w2 hq;obtain⟨rfl,⟨g2,L2,lc2,X2,xc2⟩,k2,e2⟩:=hq.elim;obtain rfl:g2=p.g:=k2.g;have K2:=T (Elk.from0 (Ao Aj _).drew k2);have E2:=T e2;have bx2:=HBX.out _ K2.out.f;clear hq k2 e2;have s2:w2.cell? ⟨↑w,2,G⟩=I (J U xa):=bx2.cell 2;have s3:w2.cell? ⟨↑w,3,G⟩=I (J U xb):=bx2.cell 3)
   |((with_reducible refine(Kg _ base _ _ _ Q _ N pl 8 E2.out O (HP.out.lk H.out K2.out) xb hb2 8 rfl).mono ?_);intro e w3 hq;obtain⟨rfl,⟨g3,L3,lc3,X3,xc3⟩,k3,e3⟩:=hq.elim;obtain rfl:g3=p.g:=k3.g;have K3:=T (K2.out.tr k3);have E3:=T e3;have bx3:=HBX.out _ K3.out.f;clear hq k3 e3;have t2:w3.cell? ⟨↑w,2,G⟩=I (J U xa):=bx3.cell 2;have t3:w3.cell? ⟨↑w,3,G⟩=I (J U xb):=bx3.cell 3;have t4:w3.cell? ⟨↑w,4,G⟩=I (J V imm):=bx3.cell 4))
  all_goals
   skip
   go_wp2_with fail;refine ego (flag_any _ base _ _ _ Q _ E3.out O imm O O O (BI pl xa 7) (BI pl xb 8)) ?_;intro w4 L4 lc4 X4 xc4 K4 E4;replace K4:=T (K3.out.tr K4.out);have bx4:=HBX.out _ K4.out.f;go_wp2_with fail;refine(I1 _ base _ _ Q _ (hop 2 rd 10 0) _ rfl E4.out O).mono ?_;rintro e w5 ⟨rfl,HQ5⟩;obtain⟨_,⟨g5,L5,lc5,X5,xc5⟩,k5,e5⟩:=HQ5.out.elim;obtain rfl:g5=p.g:=k5.g;have K5:=T (K4.out.tr k5);have E5:=T e5;clear HQ5 k5 e5;go_wp2_with fail;refine ego (keep_any _ base _ _ _ Q _ N pl E5.out O (HP.out.lk H.out K5.out) n hn rd) ?_;intro w9 L9 lc9 X9 xc9 K9 E9;replace K9:=T (K5.out.tr K9.out)
   go_wp2
   go_end0;exact EL (EPost.of (Elk.from0 F0.out K9.out) E9.out) MB O
end
end Em
namespace Em
open Gs Tr
theorem eG(pl:Pl)(bs:Nat)(n:Nat): ∀(l:List Nat) (f:Int),Fk pl bs f (l++[n])=Fk pl bs f l++(CO pl n 7++[hst bs (f+l.length) (BI pl n 7)])
 |[],f=>by simp[Fk]
 |m::l,f=>by
  show CO pl m 7++(hst bs f (BI pl m 7)::Fk pl bs (f+1) (l++[n]))=_;rw[eG pl bs n l (f+1)];show _=(CO pl m 7++(hst bs f (BI pl m 7)::Fk pl bs (f+1) l))++_;have e:f+1+(l.length:Int)=f+((m::l).length:Int):=AA;rw[e];simp
theorem take_snoc{l:List Nat}{k:Nat}(h:k<l.length):l.take (k+1)=l.take k++[l.getD k 0]:=QU
section
variable (w:Aa) (base:Nat) (p:Ep) (l:List HI) (fx:List Nat) (Q:Nat→As) (B:Nat) (N:Nat) (pl:Pl)
theorem eH(h:Em w base p ⟨l,fx⟩ Q B)(hB:B≤60000)(hP:Pln w base N Q pl)(bs:Nat)(from_ word:Int)(f0:0≤from_)(f1:from_≤100)(A:Aw)(c:Nat)(out:List Nat)(ho:At64 w base (Z A out.length c) out.length (λi=>(out.getD i 0:Nat)))(hn: ∀n∈out,n<N)(h64:out.length≤64):At Tryz.prog 148 #[↑p.g,J U bs,J V from_,J V word,Z A out.length c] w (EPost w base p ⟨l++DK pl bs from_ word out,fx⟩ Q (B+200) (AF #[])):=by
 have hb:=Ro;have HN:=T hn;have H:=T h;have HP:=T hP;have HO:=T ho;obtain⟨m,hm⟩:=A8 out.length;rw[hm] at h64⊢;have HM:=T hm;clear h hP ho hn hm;go_in;go_wp2_with fail;go_loopw [14] (λi wr=> ∃(k:Nat) (L:Aw) (lc:Nat) (X:Aw) (xc:Nat),k≤m∧i=J U k∧Hid (Elk w wr p ⟨p.g,L,lc,X,xc⟩)∧Hid (Em wr base ⟨p.g,L,lc,X,xc⟩ ⟨l++Fk pl bs from_ (out.take k),fx⟩ Q (B+2*k))) (λi _=>m -(AM i).toNat)
 case atStart=>exact⟨0,p.L,p.lc,p.X,p.xc,O,rfl,T (Elk.refl w p),T (by simpa[Fk] using H.out)⟩
 case round=>
  obtain⟨k,L,lc,X,xc,hk,rfl,hK,hE⟩:=hrel;by_cases hlt:k<m
  ·have hkl:k<out.length:=by rw[HM.out];exact hlt
   obtain⟨b,o,c',e,hc,hcell⟩:=HO.out.cell hkl;injection e with e1 e2 e3;subst e1 e3;have hbl: ∀q,q<base→ ¬p.its q:=λq hq e=>by have:=H.out.ge q e;omega
   have hcr:wr.cell? ⟨b,o+k,G⟩=I (J U (out.getD k 0:Nat)):=by
    obtain⟨b',o',c'',e',_,hb',_⟩:=HO.out O;injection e' with e4;injection e4 with e4;injection e4 with e5;exact hK.out.f.cell hcell Rl (hbl b O)
   have hnn:out.getD k 0<N:=HN.out _ Lj;have hwf:=eJ;have hws:IntKind.u32.wrap (from_+(k:Int))=from_+(k:Int):=ET;have HC:=T (Ay hcell (Ay hc hbl));have Hsn:=T (take_snoc hkl);have HKL:=T hkl;clear hcell hc hbl e2 hkl;obtain⟨n,hnv⟩:=A8 (out.getD k 0);rw[hnv] at hcr hnn Hsn;clear hnv;go_wp2_with fail;refine ego (Kg _ base _ _ _ Q _ N pl 7 hE.out O (HP.out.lk H.out hK.out) n hnn 7 rfl) ?_;intro w1 L1 lc1 X1 xc1 K1 E1;replace K1:=T (hK.out.tr K1.out);go_wp2_with fail;refine ego (KT _ base _ _ Q _ E1.out O bs _ (BI pl n 7)) ?_;intro w2 L2 lc2 X2 xc2 K2 E2;replace K2:=T (K1.out.tr K2.out)
   go_wp2
   go_roundw;case rel=>
    refine⟨k+1,L2,lc2,X2,xc2,O,Bn,K2,T ?_⟩;rw[Hsn.out,eG,Iv,Nat.min_eq_left (by have:=HKL.out;omega)];have:=E2.out.le (B':=B+2*(k+1)) O;simpa using this
   case measure=>simp[AM];omega
  ·obtain rfl:k=m:=O;have hE2:Hid (Em wr base ⟨p.g,L,lc,X,xc⟩ ⟨l++Fk pl bs from_ out,fx⟩ Q (B+2*k)):=T (by
    have:=hE.out;rwa[List.take_of_length_le XX] at this)
   have hwf:=eJ;clear hE hlt;go_wp2_with fail;refine ego (EX _ base _ _ Q _ hE2.out O 11 _) ?_;intro w1 L1 lc1 X1 xc1 K1 E1;replace K1:=T (hK.out.tr K1.out);go_wp2_with fail;refine ego (CA _ base _ _ Q _ E1.out O 3 11 11 bs) ?_;intro w2 L2 lc2 X2 xc2 K2 E2;replace K2:=T (K1.out.tr K2.out);go_wp2_with fail;refine ego (KT _ base _ _ Q _ E2.out O 15 word 11) ?_;intro w3 L3 lc3 X3 xc3 K3 E3;replace K3:=T (K2.out.tr K3.out)
   go_wp2
   go_end0;exact EL (EPost.of K3.out E3.out) (by simp[DK,HM.out]) O
end
end Em
namespace Em
open Gs Tr
theorem eK(w:Aa)(br:Int)(h0:33≤br)(h1:br≤37):At Tryz.prog 205 #[J U br] w λe w'=>e=Ax (AF #[J V (EA br),Ap (!decide (br=34))])∧w=w':=by
 have hc:br=33∨br=34∨br=35∨br=36∨br=37:=O;clear h0 h1;rcases hc with rfl|rfl|rfl|rfl|rfl
 all_goals
  go_in
  go_wp2
  go_ret2;exact⟨rfl,rfl⟩
theorem eN(w:Aa)(base:Nat)(p:Ep)(s:Es)(Q:Nat→As)(B:Nat)(i:HI)(o:Obj)(W:Aa)(q:Nat)(hW:W=(w.alloc o).alloc (.cells (hc i).toArray 270))(hq:q=↑w+1)(h:Em w base p s Q B)(hB:B≤90000):At Tryz.prog 150 #[↑p.g,Z (I ⟨q,0,G⟩) 1 1] W (λe w'=>e=Ax (AF #[])∧Hid (EPost w base p ⟨s.l++[i],s.fx⟩ Q (B+1) (AF #[]) (Ax (AF #[])) w')):=by
 have hf:Fr Aj w (w.alloc o):=(Ao _ w).alloc _;have e:q=(w.alloc o).heap.size:=by rw[hq];simp
 subst e;exact(I1 (w.alloc o) base p s Q B i W hW (h.fr0 hf) hB).mono λe w' hq=>by
  obtain⟨rfl,hq⟩:=hq;obtain⟨_,p',k1,k2⟩:=hq.out.elim;exact⟨rfl,T (EPost.of (Elk.from0 hf k1) k2)⟩
section
variable (w:Aa) (base:Nat) (p:Ep) (l:List HI) (fx:List Nat) (Q:Nat→As) (B:Nat) (N:Nat) (pl:Pl) (pg:Pg)
theorem end_any(h:Em w base p ⟨l,fx⟩ Q B)(hB:B≤60000)(hP:Pln w base N Q pl)(hQ:Pq Q pg)(hfl:pg.fl= -1∨(0≤pg.fl∧pg.fl<N))(htg:pg.tg= -1∨(0≤pg.tg∧pg.tg<N))(hbr:pg.br=0∨(33≤pg.br∧pg.br≤37))(hct:pg.ct≤8):At Tryz.prog 149 #[↑p.g] w (EPost w base p ⟨l++FL pg pl l.length,fx⟩ Q (B+60) (AF #[])):=by
 have c7:w.cell? ⟨p.g,7,G⟩=I (J U pg.fl):=by rw[←hQ.fl];exact h.b.cell 7 (by omega)
 have H:=T h;have HP:=T hP;have HQ:=T hQ;have n64:=hP.n64;have K0:=T (Elk.refl w p);have E0:=T h;clear h hP hQ;obtain⟨b1,hb1⟩:=A8 (decide (pg.fl≥0));obtain⟨b2,hb2⟩:=A8 (pg.br !=0);obtain⟨b3,hb3⟩:=A8 (decide (pg.tg≥0));go_in
 go_upto_if 10 with(fail)
 go_cut [] (λwx=> ∃(L:Aw) (lc:Nat) (X:Aw) (xc:Nat),Hid (Elk w wx p ⟨p.g,L,lc,X,xc⟩)∧Hid (Em wx base ⟨p.g,L,lc,X,xc⟩ ⟨l++Cr pg pl,fx⟩ Q (B+8)));case first=>
  cases b1
  ·have e: ¬0≤pg.fl:=RW;have HE:Hid (Cr pg pl=[]):=T (by unfold Cr;rw[Ae (by omega)]);clear e
   go_wp2
   go_meet;exact⟨p.L,p.lc,p.X,p.xc,K0,T (by rw[HE.out,List.append_nil];exact E0.out.le (by omega))⟩
  ·have e:0≤pg.fl:=RW;obtain⟨f,hf⟩: ∃f:Nat,pg.fl=f:=⟨pg.fl.toNat,O⟩;have HE:Hid (Cr pg pl=li 11 15::(CO pl f 7++[hop 5 11 11 (BI pl f 7),hst 15 1 11])):=T (by unfold Cr;rw[An (by omega),hf];rfl);have hfN:f<N:=O;have HF:=T hf;rw[hf] at c7;clear hf e;go_wp2_with fail;refine ego (EX _ base _ _ Q _ E0.out O 11 15) ?_;intro w1 L1 lc1 X1 xc1 K1 E1;replace K1:=T (K0.out.tr K1.out);have c7:w1.cell? ⟨p.g,7,G⟩=I (J U (f:Int)):=by rw[←HF.out,←HQ.out.fl];exact E1.out.b.cell 7 (by omega)
   go_wp2_with fail;refine ego (Kg _ base _ _ _ Q _ N pl 7 E1.out O (HP.out.lk H.out K1.out) f hfN 7 rfl) ?_;intro w2 L2 lc2 X2 xc2 K2 E2;replace K2:=T (K1.out.tr K2.out);go_wp2_with fail;refine ego (CA _ base _ _ Q _ E2.out O 5 11 11 (BI pl f 7)) ?_;intro w3 L3 lc3 X3 xc3 K3 E3;replace K3:=T (K2.out.tr K3.out);go_wp2_with fail;refine ego (KT _ base _ _ Q _ E3.out O 15 1 11) ?_;intro w4 L4 lc4 X4 xc4 K4 E4;replace K4:=T (K3.out.tr K4.out)
   go_wp2
   go_meet;exact⟨L4,lc4,X4,xc4,K4,T (by rw[HE.out];have:=E4.out.le (B':=B+8) (by omega);simpa using this)⟩
 case rest=>
  obtain⟨L5,lc5,X5,xc5,K5,E5⟩:=hcut;obtain⟨w5,hw5⟩: ∃w5,w5=wc:=⟨_,rfl⟩;subst hw5;have c8:w5.cell? ⟨p.g,8,G⟩=I (J V pg.nx):=by rw[←HQ.out.nx];exact E5.out.b.cell 8 (by omega)
  clear c7;go_wp2_with fail;refine ego (EX _ base _ _ Q _ E5.out O 9 _) ?_;intro w6 L6 lc6 X6 xc6 K6 E6;replace K6:=T (K5.out.tr K6.out);have c10:w6.cell? ⟨p.g,10,G⟩=I (J U pg.br):=by rw[←HQ.out.br];exact E6.out.b.cell 10 (by omega)
  clear c8
  go_upto_if 36 with(fail)
  go_cut [] (λwx=> ∃(L:Aw) (lc:Nat) (X:Aw) (xc:Nat),Hid (Elk w wx p ⟨p.g,L,lc,X,xc⟩)∧Hid (Em wx base ⟨p.g,L,lc,X,xc⟩ ⟨l++(Cr pg pl++(li 9 pg.nx::brC pg ((l.length+(Cr pg pl).length+6:Nat):Int))),fx⟩ Q (B+20)));case first=>
   cases b2
   ·have e:pg.br=0:=by simpa using hb2
    have HE:Hid (brC pg ((l.length+(Cr pg pl).length+6:Nat):Int)=[]):=T (by unfold brC;rw[An e]);clear e
    go_wp2
    go_meet;exact⟨L6,lc6,X6,xc6,K6,T (by rw[HE.out];have:=E6.out.le (B':=B+20) (by omega);simpa using this)⟩
   ·have e:pg.br≠0:=by simpa using hb2
    have e0:33≤pg.br:=O;have e1:pg.br≤37:=O;clear e;by_cases h34:pg.br=34
    ·have Hj:=T (eK w6 pg.br e0 e1);rw[show(!decide (pg.br=34))=Ac by simp[h34]] at Hj;have H34:=T h34;clear h34;go_wp2_with fail;refine Az Hj ?_;rintro e w7 ⟨rfl,rfl⟩;go_wp2_with fail;refine ego (KS _ base _ _ Q _ E6.out O 11 15 1) ?_;intro w7 L7 lc7 X7 xc7 K7 E7;replace K7:=T (K6.out.tr K7.out);go_wp2_with fail;refine ego (EX _ base _ _ Q _ E7.out O 12 _) ?_;intro w8 L8 lc8 X8 xc8 K8 E8;replace K8:=T (K7.out.tr K8.out);go_wp2_with fail;refine ego (CA _ base _ _ Q _ E8.out O 5 11 11 12) ?_;intro w9 L9 lc9 X9 xc9 K9 E9;replace K9:=T (K8.out.tr K9.out);obtain⟨len9,hlen9⟩:=A8 ((l++Cr pg pl++[li 9 pg.nx]++[hld 11 15 1]++[li 12 (EA pg.br)]++[hop 5 11 11 12]).length);have c17:=eO;have hb9:=eU;have HL9:=T hlen9;have hgl9:=E9.out.b.lt;have HE:=eV;have HI9:=eW;have hwr:=eX;clear hlen9;go_wp2_with fail;refine(eN w9 base _ _ Q _ ⟨17,0,11,0,(len9:Int)+2⟩ _ _ _ rfl rfl E9.out O).mono ?_;rintro e w10 ⟨rfl,HQ10⟩;obtain⟨_,⟨g10,L10,lc10,X10,xc10⟩,k10,e10⟩:=HQ10.out.elim;obtain rfl:g10=p.g:=k10.g;have K10:=T (K9.out.tr k10);have E10:=T e10;clear HQ10 k10 e10;have c11:=eY;go_wp2_with fail;refine ego (EX _ base _ _ Q _ E10.out O 9 _) ?_;intro w11 L11 lc11 X11 xc11 K11 E11;replace K11:=T (K10.out.tr K11.out)
     go_wp2
     go_meet;exact⟨L11,lc11,X11,xc11,K11,T (by rw[HE.out,HI9.out,An H34.out];have:=E11.out.le (B':=B+20) (by omega);simpa using this)⟩
    ·have Hj:=T (eK w6 pg.br e0 e1);rw[show(!decide (pg.br=34))=Ag by simp[h34]] at Hj;have H34:=T h34;clear h34;go_wp2_with fail;refine Az Hj ?_;rintro e w7 ⟨rfl,rfl⟩;go_wp2_with fail;refine ego (KS _ base _ _ Q _ E6.out O 11 15 1) ?_;intro w7 L7 lc7 X7 xc7 K7 E7;replace K7:=T (K6.out.tr K7.out);go_wp2_with fail;refine ego (EX _ base _ _ Q _ E7.out O 12 _) ?_;intro w8 L8 lc8 X8 xc8 K8 E8;replace K8:=T (K7.out.tr K8.out);go_wp2_with fail;refine ego (CA _ base _ _ Q _ E8.out O 5 11 11 12) ?_;intro w9 L9 lc9 X9 xc9 K9 E9;replace K9:=T (K8.out.tr K9.out);obtain⟨len9,hlen9⟩:=A8 ((l++Cr pg pl++[li 9 pg.nx]++[hld 11 15 1]++[li 12 (EA pg.br)]++[hop 5 11 11 12]).length);have c17:=eO;have hb9:=eU;have HL9:=T hlen9;have hgl9:=E9.out.b.lt;have HE:=eV;have HI9:=eW;have hwr:=eX;clear hlen9;go_wp2_with fail;refine(eN w9 base _ _ Q _ ⟨16,0,11,0,(len9:Int)+2⟩ _ _ _ rfl rfl E9.out O).mono ?_;rintro e w10 ⟨rfl,HQ10⟩;obtain⟨_,⟨g10,L10,lc10,X10,xc10⟩,k10,e10⟩:=HQ10.out.elim;obtain rfl:g10=p.g:=k10.g;have K10:=T (K9.out.tr k10);have E10:=T e10;clear HQ10 k10 e10;have c11:=eY;go_wp2_with fail;refine ego (EX _ base _ _ Q _ E10.out O 9 _) ?_;intro w11 L11 lc11 X11 xc11 K11 E11;replace K11:=T (K10.out.tr K11.out)
     go_wp2
     go_meet;exact⟨L11,lc11,X11,xc11,K11,T (by rw[HE.out,HI9.out,Ae H34.out];have:=E11.out.le (B':=B+20) (by omega);simpa using this)⟩
  case rest=>
   clear K6 E6 c10;obtain⟨L20,lc20,X20,xc20,K20,E20⟩:=hcut;obtain⟨w20,hw20⟩: ∃w20,w20=wc:=⟨_,rfl⟩;subst hw20;have c9:w20.cell? ⟨p.g,9,G⟩=I (J U pg.tg):=by rw[←HQ.out.tg];exact E20.out.b.cell 9 (by omega)
   go_upto_if 80 with(fail)
   go_cut [] (λwx=> ∃(L:Aw) (lc:Nat) (X:Aw) (xc:Nat),Hid (Elk w wx p ⟨p.g,L,lc,X,xc⟩)∧Hid (Em wx base ⟨p.g,L,lc,X,xc⟩ ⟨l++(Cr pg pl++(li 9 pg.nx::(brC pg ((l.length+(Cr pg pl).length+6:Nat):Int)++tgC pg pl))),fx⟩ Q (B+30)));case first=>
    cases b3
    ·have e: ¬0≤pg.tg:=O7;have HE:Hid (tgC pg pl=[]):=T (by unfold tgC;rw[Ae (by omega)]);clear e
     go_wp2
     go_meet;exact⟨L20,lc20,X20,xc20,K20,T (by rw[HE.out,List.append_nil];exact E20.out.le (by omega))⟩
    ·have e:0≤pg.tg:=O7;obtain⟨f,hf⟩: ∃f:Nat,pg.tg=f:=⟨pg.tg.toNat,O⟩;have HE:Hid (tgC pg pl=CO pl f 7++[hop 2 9 (BI pl f 7) 0]):=T (by unfold tgC;rw[An (by omega),hf];rfl);have hfN:f<N:=O;rw[hf] at c9;clear hf e;go_wp2_with fail;refine ego (Kg _ base _ _ _ Q _ N pl 7 E20.out O (HP.out.lk H.out K20.out) f hfN 7 rfl) ?_;intro w21 L21 lc21 X21 xc21 K21 E21;replace K21:=T (K20.out.tr K21.out);go_wp2_with fail;refine(I1 _ base _ _ Q _ (hop 2 9 (BI pl f 7) 0) _ rfl E21.out O).mono ?_;rintro e w22 ⟨rfl,HQ22⟩;obtain⟨_,⟨g22,L22,lc22,X22,xc22⟩,k22,e22⟩:=HQ22.out.elim;obtain rfl:g22=p.g:=k22.g;have K22:=T (K21.out.tr k22);have E22:=T e22;clear HQ22 k22 e22
     go_wp2
     go_meet;exact⟨L22,lc22,X22,xc22,K22,T (by rw[HE.out];have:=E22.out.le (B':=B+30) (by omega);simpa using this)⟩
   case rest=>
    clear K20 E20 c9;obtain⟨L30,lc30,X30,xc30,K30,E30⟩:=hcut;obtain⟨w30,hw30⟩: ∃w30,w30=wc:=⟨_,rfl⟩;subst hw30;go_wp2_with fail;refine ego (KT _ base _ _ Q _ E30.out O 15 0 9) ?_;intro w31 L31 lc31 X31 xc31 K31 E31;replace K31:=T (K30.out.tr K31.out);have c12:w31.cell? ⟨p.g,12,G⟩=I (J U pg.ct):=by rw[←HQ.out.ct];exact E31.out.b.cell 12 (by omega)
    have hwc:IntKind.u32.wrap (pg.ct:Int)=(pg.ct:Int):=ET;go_wp2_with fail;refine ego (EX _ base _ _ Q _ E31.out O 11 _) ?_;intro w32 L32 lc32 X32 xc32 K32 E32;replace K32:=T (K31.out.tr K32.out);clear c12 hwc;go_wp2_with fail;refine ego (KT _ base _ _ Q _ E32.out O 15 36 11) ?_;intro w33 L33 lc33 X33 xc33 K33 E33;replace K33:=T (K32.out.tr K33.out);go_wp2_with fail;refine(I1 _ base _ _ Q _ ⟨19,0,0,0,1⟩ _ rfl E33.out O).mono ?_;rintro e w34 ⟨rfl,HQ34⟩;obtain⟨_,⟨g34,L34,lc34,X34,xc34⟩,k34,e34⟩:=HQ34.out.elim;obtain rfl:g34=p.g:=k34.g;have K34:=T (K33.out.tr k34);have E34:=T e34;clear HQ34 k34 e34
    go_wp2
    go_end0;exact EL (EPost.of K34.out E34.out) (by simp[FL,Jh]) O
end
end Em
end Go.Proofs.YtdfegdoeebaagaaGreatDoor
