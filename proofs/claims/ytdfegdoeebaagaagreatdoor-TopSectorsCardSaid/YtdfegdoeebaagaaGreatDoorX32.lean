import Derived.Test.YtdfegdoeebaagaaGreatDoorX13
import Derived.Test.YtdfegdoeebaagaaGreatDoorX17
import Derived.Test.YtdfegdoeebaagaaGreatDoorX18
open Go.Value renaming slice→Z,int→J,bool→Ap,tuple→AF,agg→A9,oneCell'→Ir
open Option renaming some→I,none→G
open Go.IntKind renaming i64→U,u32→V,u8→AB,u64→AP,wrap_u64→Gg,wrap_u32→Gu
open Go renaming World→Aa,Value→As,Calls→At,bodyPost_ret→Bt,TypeId→AN,Ending→AY,info_parts→Cj,maxLen→BQ,wpList→Cy,Program→CF,Oper→BM,Operand→De
open Bool renaming false→Ac,true→Ag
open List renaming getD_eq_getElem?_getD→AS,getElem?_eq_getElem→BK,length_append→Cq,mem_map→BS,append_assoc→C9,getElem_mem→CE,range→Cl,mem_append→Da,getElem?_map→DP,getElem?_eq_none→Ew,length_pos_iff→Ef,cons_append→DI,getLastD_eq_getLast?→FI,dropLast_concat→Gw,map_append→FH,mem_singleton→Ii,concat_eq_append→Is,range_succ→Ic,getElem?_range→IL
open Go.Ending renaming returned→Ax
open And renaming intro→Ay
open Nat renaming le_refl→AD,lt_of_lt_of_le→Bg,le_trans→Bf,zero_le→Bj
open Or renaming inl→Af,inr→Ah
open Go.Proofs.Tryz renaming underlying39→AQ
open Go.RowKit renaming intOf→AM
open Int renaming toNat_natCast→Du
open Go.Region renaming wanted→Dm
open Go.IntWalk renaming i64_in→GF
set_option linter.all false
set_option maxHeartbeats 40000000
set_option maxRecDepth 1000000
open Go Go.RowKit
namespace Go.Proofs.YtdfegdoeebaagaaGreatDoor
namespace Er
open Gs Sv Tr Em Hc Hh
def IQ(s:Mh)(f:Nat)(zs:List Int)(k:Nat):Mh:={s with m:=λj=>if f≤j∧j<f+k then zs.getD (j -f) 0 else s.m j}
theorem nL(s:Mh)(f:Nat)(zs:List Int):IQ s f zs 0=s:=by
 unfold IQ;have:(λj=>if f≤j∧j<f+0 then zs.getD (j -f) 0 else s.m j)=s.m:=by
  funext j;exact Nu
 rw[this]
theorem Ye(s:Mh)(f:Nat)(zs:List Int)(k:Nat):setM (IQ s f zs k) (f+k) (zs.getD k 0)=IQ s f zs (k+1):=by
 unfold IQ setM;congr 1;funext j;unfold upZ;by_cases e:j=f+k;·rw[An e,An O];congr 1;omega
 ·rw[Ae e];dsimp only;by_cases e2:f≤j∧j<f+k;·rw[An e2,An O]
  ·rw[Ae e2,Ae O]
def Wd(w:Aa)(p:Mp)(v:As)(zs:List Int):Prop:= ∃A c,v=Z A zs.length c∧zs.length≤c∧(∀z∈zs,U32 z)∧ ∀i,i<zs.length→ ∃b off,A=I ⟨b,off,G⟩∧ ¬p.its b∧b<w.heap.size∧w.cell? ⟨b,off+i,G⟩=I (J V (zs.getD i 0))
variable{w:Aa}
theorem Wd.fr{w':Aa}{p:Mp}{v:As}{zs:List Int}(h:Wd w p v zs)(f:Fr p.its w w'):Wd w' p v zs:=by
 obtain⟨A,c,e,hc,hb,hr⟩:=h;refine⟨A,c,e,hc,hb,λi hi=>?_⟩;obtain⟨b,off,e1,hn,hl,hcell⟩:=hr i hi;exact⟨b,off,e1,hn,Bg hl f.size,f.cell hcell hl hn⟩
theorem Wd.of{p:Mp}{base n c:Nat}{A:Aw}{zs:List Int}(h:Rw w base (Z A n c) zs)(hn: ∀k,Em.ab A=I k→ ¬p.its k)(hb: ∀z∈zs,U32 z):Wd w p (Z A n c) zs:=by
 obtain⟨rfl,hr,_⟩:=h.reads;have hc:=Rn.Rw.cap h;refine⟨A,c,rfl,hc.1,hb,λi hi=>?_⟩;obtain⟨ad,u,e,hbl,hu,hcell⟩:=hr.at_ (k:=i) hi;rcases h.none_ with⟨_,_,_,e2⟩|⟨g,e2⟩;·rw[e2] at hi;simp at hi
 ·rw[e2] at e;injection e with e;subst e;refine⟨g,0,e2,hn g (by rw[e2];rfl),hbl, ?_⟩;have e3:(⟨g,0,G⟩:Addr).add i=⟨g,0+i,G⟩:=by
   unfold Addr.add;split;·rename_i h0;rw[h0]
   ·rfl
  rw[e3] at hcell;rw[hcell,←hu];simp[AS];rw[BK hi];rfl
theorem Yg(w:Aa)(p:Mp)(s:Mh)(h:Mk w p s)(f:Nat)(hf:f≤20)(v:As)(zs:List Int)(hv:Wd w p v zs)(hl:zs.length≤16):At Tryz.prog 155 #[↑p.gm,J U f,v] w λe w'=>e=Ax (AF #[])∧Mk w' p (IQ s f zs 16)∧Fr p.its w w':=by
 have HV:=T hv;obtain⟨A,c,rfl,hc,hb,hr⟩:=hv;have H:=T h;have HB:=T hb;obtain⟨n,hn⟩:=A8 zs.length;have HN:=T hn;rw[hn] at hc hl⊢;clear h hr hb hn;go_in;go_wp2_with fail;go_loopw [8] (λi wr=> ∃k:Nat,k≤16∧i=J U k∧Hid (Mk wr p (IQ s f zs k))∧Hid (Fr p.its w wr)) (λi _=>16 -(AM i).toNat)
 case atStart=>exact⟨0,O,rfl,T (by rw[nL];exact H.out),T (Ao _ _)⟩
 case round=>
  obtain⟨k,hk,rfl,hM,hF⟩:=hrel;by_cases hlt:k<16
  ·have hsum:(f:Int)+k=((f+k:Nat):Int):=O;by_cases hkn:k<n;·obtain⟨A',c',e',_,_,hr⟩:=(HV.out.fr hF.out);injection e' with e1 e2 e3;subst e1 e3;obtain⟨b,off,rfl,hnb,hbl,hcell⟩:=hr k (by rw[HN.out];exact hkn);have hu:=HB.out (zs.getD k 0) (by rw[AS,BK (by rw[HN.out];exact hkn)];exact CE _);have g1:decide (k<n)=Ag:=Rb;have g2:decide ((k:Int)<(n:Int))=Ag:=Rb;have Hs:=T (JZ wr p _ hM.out (f+k) O (zs.getD k 0) hu);have hls:=T (Ye s f zs k);obtain⟨x,hx⟩:=A8 (zs.getD k 0);rw[hx] at hcell Hs hls hu;rw[←hsum] at Hs;have u0:=hu.1;have u1:=hu.2;clear hr hx hsum e2;exact Yh
   ·have g1:decide (k<n)=Ac:=Rb;have g2:decide ((k:Int)<(n:Int))=Ac:=AA;have e0:zs.getD k 0=0:=by rw[AS,Ew (by rw[HN.out];omega)];rfl
    have Hs:=T (JZ wr p _ hM.out (f+k) O 0 ⟨O,O⟩);have hls:=T (Ye s f zs k);rw[e0] at hls;rw[←hsum] at Hs;clear hsum e0;exact Yh
  ·obtain rfl:k=16:=O;clear hlt
   go_wp2
   go_end0;exact⟨rfl,hM.out,hF.out⟩
theorem Yi{P:CF}{g:Nat}{ty:AN}{cs:AO}{d:TypeDesc}{n:Nat}(h:Blk w g ty cs)(hu:P.underlying ty=I d)(hi:(P.info? ty).map (·.size)=I n)(hd:d.isRow=Ag)(hn:cs.size=n){ops:Array BM}{rest:List BM}{a:Act}{Q:Exit→Act→Aa→Prop}{dst:Option Tmp}{t2:AN}{pos:String}{af:Array Edge}{x:De}{gd:Option (Nat×Bool)}(hw:Dm ⟨dst,.load ty x,t2,pos,af,gd⟩ (yielded ops a.tmps)=Ag)(hx:a.eval x=↑g)(hk:Cy P ops Q rest (a.put dst (A9 cs)) w):Cy P ops Q (⟨dst,.load ty x,t2,pos,af,gd⟩::rest) a w:=by
 refine wpList_step λK hK=>?_;rw[An hw];refine wp_load_mid ty x rfl g 0 hx cs.toList d (OX h) hu hd Nh ?_;have:=hK _ _ hk;simpa using this
theorem nM(s:Mh)(S:St)(hm: ∀j,s.m j=0)(hd:S.d.length≤16)(hr:S.r.length≤16): ∀j,j<64→(setM (IQ (IQ (setM (setM (setM (setM s 0 S.pc) 1 S.fl) 2 S.d.length) 3 S.r.length) 4 S.d 16) 20 S.r 16) 36 0).m j=GH S j:=by
 intro j hj;show upZ (λj=>if 20≤j∧j<20+16 then S.r.getD (j -20) 0 else(if 4≤j∧j<4+16 then S.d.getD (j -4) 0 else upZ (upZ (upZ (upZ s.m 0 S.pc) 1 S.fl) 2 S.d.length) 3 S.r.length j)) 36 0 j=GH S j;unfold upZ GH;dsimp only;by_cases h36:j=36;·subst h36;rfl
 rw[Ae h36];by_cases h0:j=0;·subst h0;rfl
 by_cases h1:j=1;·subst h1;rfl
 by_cases h2:j=2;·subst h2;rfl
 by_cases h3:j=3;·subst h3;rfl
 rw[Ae h0,Ae h1,Ae h2,Ae h3,Ae h3,Ae h2,Ae h1,Ae h0];by_cases h20:j<20;·rw[Ae O,An O,An h20]
 ·rw[Ae h20];by_cases h35:j<36;·rw[An O,An h35]
  ·rw[Ae O,Ae O,Ae h35,hm]
theorem put_any(w:Aa)(p:Mp)(s:Mh)(h:Mk w p s)(hm: ∀j,s.m j=0)(S:St)(A B:Aw)(c d:Nat)(hS:StV w 0 S (Z A S.d.length c) (Z B S.r.length d))(hk:Gm.Rk S)(hA: ∀k,Em.ab A=I k∨Em.ab B=I k→ ¬p.its k):At Tryz.prog 121 #[↑p.gm,A9 (stc S (Z A S.d.length c) (Z B S.r.length d))] w λe w'=> ∃t,e=Ax (.bool Ag)∧Mk w' p t∧t.g=s.g∧t.at_=s.at_∧t.l=s.l∧(∀j,j<64→t.m j=GH S j)∧Fr p.its w w':=by
 have f0:Fr Aj w (w.alloc (.cells (stc S (Z A S.d.length c) (Z B S.r.length d)) 39)):=(Ao _ w).alloc _;have b0:=AI w 39 (stc S (Z A S.d.length c) (Z B S.r.length d));have hwd:Hid (Wd (w.alloc (.cells (stc S (Z A S.d.length c) (Z B S.r.length d)) 39)) p (Z A S.d.length c) S.d):=T (Wd.of (hS.d.fr f0 (λ_ _ e=>e)) (λk e=>hA k (.inl e)) (λz hz=>hk.1.d z hz));have hwr:Hid (Wd (w.alloc (.cells (stc S (Z A S.d.length c) (Z B S.r.length d)) 39)) p (Z B S.r.length d) S.r):=T (Wd.of (hS.r.fr f0 (λ_ _ e=>e)) (λk e=>hA k (.inr e)) (λz hz=>hk.1.r z hz));have HW:=T (nM s S hm hk.2.1 hk.2.2.1);have Hr:=T (λW=>Sv.right_any W S A B c d);have hright:=hk.right;rw[hright] at Hr;have H:=T (h.fr0 f0);have Hw:=T (QW _ p s (h.fr0 f0));have hlt:=h.lt;have HNB:Hid (¬p.its ↑w):=T (λe=>JU);have F0:=T f0;have k1:=hk.1.pc;have k2:=hk.1.fl;have k3:=hk.2.1;have k4:=hk.2.2.1;have B0:=T b0;have HP0:=T k1;have HFL:=T k2;have hdl:IntKind.u32.wrap (S.d.length:Int)=S.d.length:=ET;have hrl:IntKind.u32.wrap (S.r.length:Int)=S.r.length:=ET;clear h f0 hS hk hA hright hm hlt;go_in;go_wp2_with fail;refine Az Hw ?_;rintro e w1 ⟨rfl,rfl⟩;go_wp2_with ((with_reducible refine Yi b0 AQ AJ ?q1 ?q2 ?q4 ?q3 ?_);(case q1=>rfl);(case q2=>rfl);(case q4=>rfl);(case q3=>rfl));refine(Hr.out _).mono ?_;rintro e w2 ⟨rfl,f2⟩;have M0:=T (H.out.fr0 f2);have F0:Hid (Fr p.its w w2):=T ((F0.out.tr f2).mono (λ_ _ e=>e.elim));have bb:=B0.out.fr f2 id;have B0:=T bb;have x0:=bb.cell 0;have x1:=bb.cell 1;have x2:=bb.cell 2;have x3:=bb.cell 3;have hlb:=bb.lt;have WD:=T (hwd.out.fr (f2.mono (λ_ _ e=>e.elim)));have WR:=T (hwr.out.fr (f2.mono (λ_ _ e=>e.elim)));clear f2 bb b0 hwd hwr H Hw Hr;have G0:=T (Ao p.its w2);go_wp2_with fail;refine(JZ _ p _ M0.out 0 O S.pc HP0.out).mono ?_;rintro e w3 ⟨rfl,m1,f1⟩;have M1:=T m1;have G1:=T (G0.out.tr f1);have bb:=B0.out.fr f1 HNB.out;have B1:=T bb;have x0:=bb.cell 0;have x1:=bb.cell 1;have x2:=bb.cell 2;have x3:=bb.cell 3;have hlb:=bb.lt;clear m1 f1 bb;go_wp2_with fail;refine(JZ _ p _ M1.out 1 O S.fl HFL.out).mono ?_;rintro e w4 ⟨rfl,m2,f2⟩;have M2:=T m2;have G2:=T (G1.out.tr f2);have bb:=B1.out.fr f2 HNB.out;have B2:=T bb;have x0:=bb.cell 0;have x1:=bb.cell 1;have x2:=bb.cell 2;have x3:=bb.cell 3;have hlb:=bb.lt;clear m2 f2 bb;go_wp2_with fail;refine(JZ _ p _ M2.out 2 O _ ⟨O,O⟩).mono ?_;rintro e w5 ⟨rfl,m3,f3⟩;have M3:=T m3;have G3:=T (G2.out.tr f3);have bb:=B2.out.fr f3 HNB.out;have B3:=T bb;have x0:=bb.cell 0;have x1:=bb.cell 1;have x2:=bb.cell 2;have x3:=bb.cell 3;have hlb:=bb.lt;clear m3 f3 bb;go_wp2_with fail;refine(JZ _ p _ M3.out 3 O _ ⟨O,O⟩).mono ?_;rintro e w6 ⟨rfl,m4,f4⟩;have M4:=T m4;have G4:=T (G3.out.tr f4);have bb:=B3.out.fr f4 HNB.out;have B4:=T bb;have x0:=bb.cell 0;have x1:=bb.cell 1;have x2:=bb.cell 2;have x3:=bb.cell 3;have hlb:=bb.lt;clear m4 f4 bb;go_wp2_with fail;refine(Yg _ p _ M4.out 4 O _ S.d (WD.out.fr G4.out) k3).mono ?_;rintro e w7 ⟨rfl,m5,f5⟩;have M5:=T m5;have G5:=T (G4.out.tr f5);have bb:=B4.out.fr f5 HNB.out;have B5:=T bb;have x0:=bb.cell 0;have x1:=bb.cell 1;have x2:=bb.cell 2;have x3:=bb.cell 3;have hlb:=bb.lt;clear m5 f5 bb;go_wp2_with fail;refine(Yg _ p _ M5.out 20 O _ S.r (WR.out.fr G5.out) k4).mono ?_;rintro e w8 ⟨rfl,m6,f6⟩;have M6:=T m6;have G6:=T (G5.out.tr f6);have bb:=B5.out.fr f6 HNB.out;have B6:=T bb;have x0:=bb.cell 0;have x1:=bb.cell 1;have x2:=bb.cell 2;have x3:=bb.cell 3;have hlb:=bb.lt;clear m6 f6 bb;go_wp2_with fail;refine(JZ _ p _ M6.out 36 O 0 ⟨O,O⟩).mono ?_;rintro e w9 ⟨rfl,m7,f7⟩;have M7:=T m7;have G7:=T (G6.out.tr f7);have bb:=B6.out.fr f7 HNB.out;have B7:=T bb;have x0:=bb.cell 0;have x1:=bb.cell 1;have x2:=bb.cell 2;have x3:=bb.cell 3;have hlb:=bb.lt;clear m7 f7 bb
 go_wp2
 go_ret;exact⟨_,rfl,M7.out,rfl,rfl,rfl,HW.out,F0.out.tr G7.out⟩
end Er
namespace Er
open Gs Sv Tr Em Hc Hh
def takeW(m:Nat→Int)(f n:Nat):List Int:=(Cl n).map λj=>m (f+j)
theorem nO(m:Nat→Int)(f n:Nat):(takeW m f n).length=n:=by simp[takeW]
theorem nP(m:Nat→Int)(f n:Nat):takeW m f (n+1)=takeW m f n++[m (f+n)]:=by
 unfold takeW;rw[Ic,FH];rfl
theorem nQ(w:Aa)(p:Mp)(s:Mh)(h:Mk w p s)(f n:Nat)(hf:f≤20)(hn:n≤16):At Tryz.prog 159 #[↑p.gm,J U f,J V n] w (Gv w (takeW s.m f n)):=by
 obtain⟨i0,hi0,hz0,hz1,hz2⟩:=Cj Sv.info32;have H:=T h;clear h;go_in;go_wp2_with fail;go_loopw [7,11] (λv i wr=> ∃(k:Nat) (A:Aw) (c:Nat),k≤n∧i=J U k∧v=Z A k c∧Hid (wr.ownsRow ↑w 22 1 (Z A k c) k ((takeW s.m f k).map (J V)))∧Hid (Fr Aj w wr)) (λ_ i _=>n -(AM i).toNat)
 case atStart=>exact⟨0,G,0,O,rfl,rfl,T ⟨rfl,Af ⟨rfl,rfl⟩⟩,T (Ao _ _)⟩
 case round=>
  obtain⟨k,A,c,hk,rfl,rfl,hR,hF⟩:=hrel;by_cases hlt:k<n
  ·have hsum:(f:Int)+k=((f+k:Nat):Int):=O;have Hw:=T (GI wr p s (H.out.fr0 hF.out) (f+k) O);rw[←hsum] at Hw;have Hsn:=T (nP s.m f k);have hub:=H.out.mb (f+k);obtain⟨x,hx⟩:=A8 (s.m (f+k));rw[hx] at Hw Hsn hub;have u0:=hub.1;have u1:=hub.2;have ho2:=T (DU hR.out (.cells #[J V x] 22));have hrd2:Hid (Reads (wr.alloc (.cells #[J V x] 22)) (↑wr+1) 1 (I ⟨↑wr,0,G⟩) 1 [J V x]):=T (Do (AI wr 22 #[J V x]) rfl);have hwz:=hF.out.size;clear hsum hx hub;go_wp2_with fail;refine Az Hw ?_;rintro e w1 ⟨rfl,rfl⟩;go_wp2_with
    (at_builtin
     refine CU _ rfl (.tmp 14) (.tmp 20) _ rfl w.heap.size 22 i0 _ 1 4 Tryz.underlying36 hi0 hz0 hz1 hz2 rfl O (Z A k c) k ((takeW s.m f k).map (J V)) rfl ho2.out (wr.heap.size+1) (I ⟨wr.heap.size,0,G⟩) 1 1 [J V x] rfl hrd2.out Ei Cc O AA ?_
     intro v1 w3 hown1 hg1 hat1
     obtain⟨A1,c1,rfl⟩:=Et hown1
     have HX:=T (Ay hown1 ((hF.out.alloc _).grown hg1 (λq hq=> Ah (Cn hR.out q hq))))
     clear hown1 hg1 hat1)
   go_roundw;case rel=>
    refine⟨k+1,A1,c1,O,Bn,rfl,T ?_,T HX.out.2⟩;rw[Hsn.out,FH];exact HX.out.1
   case measure=>simp[AM];omega
  ·obtain rfl:k=n:=O;clear hlt
   go_wp2
   go_ret;have e:=nO s.m f k;refine⟨A,c,Jm, ?_,hF.out⟩;unfold Rw;rw[e];exact hR.out
def getS(S:St)(m:Nat→Int):St:={S with pc:=m 0,fl:=m 1,d:=takeW m 4 (m 2).toNat,r:=takeW m 20 (m 3).toNat,ct:=(S.ct+m 36)%18446744073709551616}
def Mt(m:Nat→Int):Prop:=m 2≤16∧m 3≤16∧m 1≤15
def Rd(w:Aa)(S:St)(b:Bool)(e:AY)(w':Aa):Prop:=
 ∃A c B d,e=Ax (AF #[A9 (stc S (Z A S.d.length c) (Z B S.r.length d)),Ap b])∧StV w' ↑w S (Z A S.d.length c) (Z B S.r.length d)∧(∀k,Em.ab A=I k→Em.ab B≠I k)∧Fr Aj w w'
theorem getS_ok{S:St}(h:S.Ok)(m:Nat→Int)(hm: ∀j,U32 (m j)):(getS S m).Ok:=by
 refine⟨hm 0,⟨(hm 1).1,(hm 1).2⟩,h.rt,h.ve,h.ep,h.ca,h.ad, ?_, ?_, ?_⟩;·show 0≤(S.ct+m 36)%18446744073709551616∧(S.ct+m 36)%18446744073709551616≤18446744073709551615;omega
 ·exact Yj
 ·exact Yj
theorem Yk(w:Aa)(p:Mp)(s:Mh)(h:Mk w p s)(f:Nat)(x:Int)(hf:f≤20)(x0:0≤x)(hx:x≤16):At Tryz.prog 159 #[↑p.gm,J U f,J V x] w (Gv w (takeW s.m f x.toNat)):=by
 obtain⟨n,rfl⟩: ∃n:Nat,x=n:=⟨x.toNat,O⟩;rw[Du];exact nQ w p s h f n hf O
theorem get_good(w:Aa)(p:Mp)(s:Mh)(h:Mk w p s)(S:St)(A B:Aw)(c d:Nat)(hS:StV w 0 S (Z A S.d.length c) (Z B S.r.length d))(hl:S.d.length≤16∧S.r.length≤16)(hg:Mt s.m):At Tryz.prog 124 #[↑p.gm,A9 (stc S (Z A S.d.length c) (Z B S.r.length d))] w (Rd w (getS S s.m) Ag):=by
 obtain⟨b1,b2,f0⟩:=Ds w (stc S (Z A S.d.length c) (Z B S.r.length d)) z16 39 39;have H:=T (h.fr0 f0);have Hc:=T (λW (f:Fr Aj ((w.alloc (.cells (stc S (Z A S.d.length c) (Z B S.r.length d)) 39)).alloc (.cells z16 39)) W)=>Gr W 0 S _ _ ((hS.fr0 f0).fr0 f) O O);have HOK:=T (getS_ok hS.ok s.m h.mb);have B2:=T b2;have F0:=T f0;have o1:=Ce S (Z G 0 0) (Z G 0 0) rfl rfl;have hlt:=h.lt;have HLT:=T hlt;have HC:=Yl;have gg2:decide (s.m 2>16)=Ac:=by simp;exact hg.1
 have gg3:decide (s.m 3>16)=Ac:=by simp;exact hg.2.1
 have gg1:decide (s.m 1>15)=Ac:=by simp;exact hg.2.2
 have hct:0≤S.ct∧S.ct≤18446744073709551615:=hS.ok.ct;obtain⟨g2,g3,g1⟩:=hg;have mb:=h.mb;have mb0:=mb 0;have mb1:=mb 1;have mb2:=mb 2;have mb3:=mb 3;have mb36:=mb 36;clear h hS f0 b2 o1 mb hlt;go_in;go_wp2_with ((with_reducible refine wpL_lq b1 AQ AJ ?_));refine(Hc.out _ (Ao _ _)).mono ?_;rintro e w1 ⟨A1,c1,B1,d1,rfl,h1,ne1,f1⟩;have b1:=b1.fr f1 id;have B2:=T (B2.out.fr f1 id);have M1:=T (H.out.fr0 f1);have F1:=T (F0.out.tr f1);have o1:=Ce S (Z A1 S.d.length c1) (Z B1 S.r.length d1) rfl rfl;have HX1:=T (Ay h1 (Ay ne1 f1));clear h1 ne1 f1;go_upto_region 2 with(((with_reducible refine BL (cs':=stc S (Z A1 S.d.length c1) (Z B1 S.r.length d1)) b1 AJ o1 ?_);intro W2 b22 f2;have F2:=T f2;clear f2 b1 o1));have hne:=Ym;have NE:=T hne;have M2:=T (M1.out.fr F2.out (NE.out _ (.inl rfl)) (NE.out _ (Ah (.inl rfl))) (λk e=>NE.out k (Ah (.inr e))));have x0:=b22.cell 0;have x3:=b22.cell 3;have y0:=b22.frozen 0;have y3:=b22.frozen 3;have hl2:=b22.lt;have BB:=T b22;clear hne b22;go_wp2_with fail;refine(QW _ p s M2.out).mono ?_;rintro e w3 ⟨rfl,rfl⟩;go_wp2_with fail;refine(GI _ p s M2.out 2 O).mono ?_;rintro e w3 ⟨rfl,rfl⟩;go_wp2_with fail;refine(GI _ p s M2.out 3 O).mono ?_;rintro e w3 ⟨rfl,rfl⟩;go_wp2_with fail;refine(GI _ p s M2.out 1 O).mono ?_;rintro e w3 ⟨rfl,rfl⟩;go_wp2_with fail;refine(GI _ p s M2.out 0 O).mono ?_;rintro e w3 ⟨rfl,rfl⟩;go_wp2_with fail;refine(GI _ p s M2.out 1 O).mono ?_;rintro e w3 ⟨rfl,rfl⟩;go_upto_region 5 with(fail);have b3:Blk ((W2.setCell ⟨↑w,0,G⟩ (J V (s.m 0))).setCell ⟨↑w,3,G⟩ (J V (s.m 1))) ↑w 39 (stc {S with pc:=s.m 0,fl:=s.m 1} (Z A1 S.d.length c1) (Z B1 S.r.length d1)):=(BB.out.set_ 0 _).set_ 3 _;have f3:Fr (· =w.heap.size) W2 ((W2.setCell ⟨↑w,0,G⟩ (J V (s.m 0))).setCell ⟨↑w,3,G⟩ (J V (s.m 1))):=((Ao (λq=>q=w.heap.size) W2).setCell (p:=⟨↑w,0,G⟩) (.inl rfl) _).setCell (p:=⟨↑w,3,G⟩) (.inl rfl) _;obtain⟨W3,hW3⟩:=A8 ((W2.setCell ⟨↑w,0,G⟩ (J V (s.m 0))).setCell ⟨↑w,3,G⟩ (J V (s.m 1)));rw[hW3] at b3 f3⊢;have M3:=T (M2.out.fr f3 (NE.out _ (.inl rfl)) (NE.out _ (Ah (.inl rfl))) (λk e=>NE.out k (Ah (.inr e))));have F3:=T (F2.out.tr f3);have B3:=T b3;clear hW3 b3 f3 x0 x3 y0 y3 hl2 BB;go_wp2_with fail;refine(GI _ p s M3.out 2 O).mono ?_;rintro e w3 ⟨rfl,rfl⟩;go_wp2_with fail;refine(Yk _ p s M3.out 4 (s.m 2) O mb2.1 g2).mono ?_;rintro e w4 ⟨A4,c4,rfl,r4,f4⟩;have M4:=T (M3.out.fr0 f4);have B4:=T (B3.out.fr f4 id);have F4:=T (F3.out.trans f4 (λ_ _ e=>e.elim));have R4:=T r4;have R4K:=T r4;have HZ4:=T r4.lt;have hs34:=f4.size;clear f4 r4 B3;go_wp2_with fail;refine(GI _ p s M4.out 3 O).mono ?_;rintro e w5 ⟨rfl,rfl⟩;go_wp2_with fail;refine(Yk _ p s M4.out 20 (s.m 3) O mb3.1 g3).mono ?_;rintro e w5 ⟨A5,c5,rfl,r5,f5⟩;have M5:=T (M4.out.fr0 f5);have b5:=B4.out.fr f5 id;have F5:=T (F4.out.trans f5 (λ_ _ e=>e.elim));have R45:=T (R4.out.fr f5 (λ_ _ e=>e));have R5:=T r5;have x1:=b5.cell 1;have x2:=b5.cell 2;have y1:=b5.frozen 1;have y2:=b5.frozen 2;have hl5:=b5.lt;have B5:=T b5;have hs45:=f5.size;clear f5 r5 b5 R4 B4;go_upto_region 6 with(fail);have b6:Blk ((w5.setCell ⟨↑w,1,G⟩ (Z A4 (takeW s.m 4 (s.m 2).toNat).length c4)).setCell ⟨↑w,2,G⟩ (Z A5 (takeW s.m 20 (s.m 3).toNat).length c5)) ↑w 39 (stc {S with pc:=s.m 0,fl:=s.m 1} (Z A4 (takeW s.m 4 (s.m 2).toNat).length c4) (Z A5 (takeW s.m 20 (s.m 3).toNat).length c5)):=(B5.out.set_ 1 _).set_ 2 _;have f6:Fr (· =w.heap.size) w5 ((w5.setCell ⟨↑w,1,G⟩ (Z A4 (takeW s.m 4 (s.m 2).toNat).length c4)).setCell ⟨↑w,2,G⟩ (Z A5 (takeW s.m 20 (s.m 3).toNat).length c5)):=((Ao (λq=>q=w.heap.size) w5).setCell (p:=⟨↑w,1,G⟩) (.inl rfl) _).setCell (p:=⟨↑w,2,G⟩) (.inl rfl) _;obtain⟨W6,hW6⟩:=A8 ((w5.setCell ⟨↑w,1,G⟩ (Z A4 (takeW s.m 4 (s.m 2).toNat).length c4)).setCell ⟨↑w,2,G⟩ (Z A5 (takeW s.m 20 (s.m 3).toNat).length c5));rw[hW6] at b6 f6⊢;have M6:=T (M5.out.fr f6 (NE.out _ (.inl rfl)) (NE.out _ (Ah (.inl rfl))) (λk e=>NE.out k (Ah (.inr e))));have F6:=T (F5.out.tr f6);have H36:=T (GI W6.drew p s (M6.out.fr0 (Ao _ _).drew) 36 O);have x14:=b6.cell 14;have y14:=b6.frozen 14;have hl6:=b6.lt;have B6:=T b6;have G6:=T f6;have hwc:IntKind.u64.wrap (S.ct+s.m 36)=(getS S s.m).ct:=Re;have hw36:IntKind.u64.wrap (s.m 36)=s.m 36:=by rw[Gg];have:=mb36.1;have:=mb36.2;omega
 have hct0:=hct.1;have hct1:=hct.2;have h360:=mb36.1;have h361:=mb36.2;clear hW6 b6 f6 x1 x2 y1 y2 hl5 hct mb0 mb1 mb2 mb3 mb36 B5
 go_region_with ((refine Az H36 ?_;rintro e w' ⟨rfl,rfl⟩))
 all_goals
  have b7:Blk (W6.setCell ⟨↑w,14,G⟩ (J AP (getS S s.m).ct)) ↑w 39 (stc (getS S s.m) (Z A4 (getS S s.m).d.length c4) (Z A5 (getS S s.m).r.length c5)):=B6.out.set_ 14 _;have f7:Fr (· =w.heap.size) W6 (W6.setCell ⟨↑w,14,G⟩ (J AP (getS S s.m).ct)):=(Ao (λq=>q=w.heap.size) W6).setCell (p:=⟨↑w,14,G⟩) (.inl rfl) _;have F7:=T (F6.out.tr f7);have G7:=T (G6.out.tr f7);have o7:=Ce (getS S s.m) (Z A4 (getS S s.m).d.length c4) (Z A5 (getS S s.m).r.length c5) rfl rfl;obtain⟨W7,hW7⟩:=A8 (W6.setCell ⟨↑w,14,G⟩ (J AP (getS S s.m).ct));rw[hW7] at b7 F7 G7⊢;have b7d:=b7.drew;have b2d:Blk W7.drew (↑w+1) 39 z16:=(B2.out.fr F7.out (λe=>O)).drew;clear hW7 f7 b7 x14 y14 hl6;go_wp2_with ((with_reducible refine wpL_lq b7d AQ AJ ?_);(with_reducible refine BL (cs':=stc (getS S s.m) (Z A4 (getS S s.m).d.length c4) (Z A5 (getS S s.m).r.length c5)) b2d AJ o7 ?_);intro W8 b8 f8;have B8:=T b8;have F8:=T f8;clear b8 f8 b2d b7d o7);refine Bt (Ca.results_ct rfl _ _ (w.heap.size+1) 39 _ _ (.bool Ag) rfl rfl B8.out AQ rfl AJ) rfl ?_;have r4g:=R45.out.ge;have r5g:=R5.out.ge;have r4l:=R45.out.lt;have hq1:=HX1.out.2.2.size;have hq2:=F3.out.size;have hq3:=Yn;have hz3:w.heap.size+2≤W3.heap.size:=O;have hz4:W3.heap.size≤w4.heap.size:=O;have nb: ∀k,W3.heap.size≤k→ ¬(k=w.heap.size)∧ ¬(k=w.heap.size+1):=λk hk=>⟨O,O⟩;have K: ∀{v zs base},Rw w5 base v zs→↑W3≤base→Rw W8 ↑w v zs:=λ{v zs base} h hb=>by
   have h1:=h.fr G7.out (λk hk=>(nb k (Bf hb (h.ge k hk))).1);have h2:=(h1.fr (Ao Aj W7).drew (λ_ _ e=>e)).fr F8.out (λk hk=>(nb k (Bf hb (h1.ge k hk))).2);exact h2.low O
  refine⟨A4,c4,A5,c5,rfl,⟨K R45.out (AD _),K R5.out hz4,HOK.out⟩,λk e1 e2=>?_, ?_⟩;·have q1:=r4l k (Em.ab_own R45.out e1);have q2:=r5g k (Em.ab_own R5.out e2);have q3:=HZ4.out k (Em.ab_own R4K.out e1);omega
  ·exact(((F1.out.trans F7.out (λk hk e=>O)).drew).trans F8.out (λk hk e=>O))
end Er
namespace Er
open Gs Sv Tr Em Hc Hh
theorem got_end{w W W1 W2 W8:Aa}{S:St}{A1 B1:Aw}{c1 d1:Nat}(f0:Fr Aj w W)(hs:W.heap.size=w.heap.size+2)(h:StV W1 ↑W S (Z A1 S.d.length c1) (Z B1 S.r.length d1))(ne: ∀k,(Z A1 S.d.length c1).ownBlock=I k→(Z B1 S.r.length d1).ownBlock≠I k)(f1:Fr Aj W W1)(f2:Fr (· =w.heap.size) W1 W2)(f8:Fr (· =w.heap.size+1) W2 W8):Rd w S Ac (Ax (AF #[A9 (stc S (Z A1 S.d.length c1) (Z B1 S.r.length d1)),Ap Ac])) W8:=by
 have K: ∀{v zs},Rw W1 ↑W v zs→Rw W8 ↑w v zs:=λ{v zs} h=>by
  have h1:=h.fr f2 (λk hk e=>by have:=h.ge k hk;omega);have h2:=h1.fr f8 (λk hk e=>by have:=h1.ge k hk;omega);exact h2.low O
 refine⟨A1,c1,B1,d1,rfl,⟨K h.d,K h.r,h.ok⟩,λk e1 e2=>ne k (Em.ab_own h.d e1) (Em.ab_own h.r e2), ?_⟩;exact(((f0.tr f1).trans f2 (λk hk e=>O)).trans f8 (λk hk e=>O))
theorem get_bad(w:Aa)(p:Mp)(s:Mh)(h:Mk w p s)(S:St)(A B:Aw)(c d:Nat)(hS:StV w 0 S (Z A S.d.length c) (Z B S.r.length d))(hl:S.d.length≤16∧S.r.length≤16)(hg: ¬Mt s.m):At Tryz.prog 124 #[↑p.gm,A9 (stc S (Z A S.d.length c) (Z B S.r.length d))] w (Rd w S Ac):=by
 obtain⟨b1,b2,f0⟩:=Ds w (stc S (Z A S.d.length c) (Z B S.r.length d)) z16 39 39;have H:=T (h.fr0 f0);have Hc:=T (λW (f:Fr Aj ((w.alloc (.cells (stc S (Z A S.d.length c) (Z B S.r.length d)) 39)).alloc (.cells z16 39)) W)=>Gr W 0 S _ _ ((hS.fr0 f0).fr0 f) O O);have HOK:=T hS.ok;have B2:=T b2;have F0:=T f0;have o1:=Ce S (Z G 0 0) (Z G 0 0) rfl rfl;have hlt:=h.lt;have HLT:=T hlt;have HC:=Yl;have hct:0≤S.ct∧S.ct≤18446744073709551615:=hS.ok.ct;have HG:=T hg;have mb:=h.mb;have mb0:=mb 0;have mb1:=mb 1;have mb2:=mb 2;have mb3:=mb 3;have mb36:=mb 36;clear h hS f0 b2 o1 mb hlt hg;go_in;go_wp2_with ((with_reducible refine wpL_lq b1 AQ AJ ?_));refine(Hc.out _ (Ao _ _)).mono ?_;rintro e w1 ⟨A1,c1,B1,d1,rfl,h1,ne1,f1⟩;have b1:=b1.fr f1 id;have B2:=T (B2.out.fr f1 id);have M1:=T (H.out.fr0 f1);have F1:=T (F0.out.tr f1);have o1:=Ce S (Z A1 S.d.length c1) (Z B1 S.r.length d1) rfl rfl;have HX1:=T (Ay h1 (Ay ne1 f1));clear h1 ne1 f1;go_upto_region 2 with(((with_reducible refine BL (cs':=stc S (Z A1 S.d.length c1) (Z B1 S.r.length d1)) b1 AJ o1 ?_);intro W2 b22 f2;have F2:=T f2;clear f2 b1 o1));have hne:=Ym;have NE:=T hne;have M2:=T (M1.out.fr F2.out (NE.out _ (.inl rfl)) (NE.out _ (Ah (.inl rfl))) (λk e=>NE.out k (Ah (.inr e))));have hl2:=b22.lt;clear hne;have b2d:Blk W2 (↑w+1) 39 z16:=B2.out.fr F2.out (λe=>O);have o7:=Ce S (Z A1 S.d.length c1) (Z B1 S.r.length d1) rfl rfl;go_wp2_with fail;refine(QW _ p s M2.out).mono ?_;rintro e w3 ⟨rfl,rfl⟩;go_wp2_with fail;refine(GI _ p s M2.out 2 O).mono ?_;rintro e w3 ⟨rfl,rfl⟩;by_cases h2:s.m 2>16;·have gg2:decide (s.m 2>16)=Ag:=Mv;exact Rf
 ·have gg2:decide (s.m 2>16)=Ac:=Mv;go_wp2_with fail;refine(GI _ p s M2.out 3 O).mono ?_;rintro e w3 ⟨rfl,rfl⟩;by_cases h3:s.m 3>16
  ·have gg3:decide (s.m 3>16)=Ag:=by simpa using h3
   exact Rf
  ·have gg3:decide (s.m 3>16)=Ac:=by simpa using h3
   have h1:s.m 1>15:=by
    by_cases q:s.m 1>15;·exact q
    ·exact absurd (show Mt s.m from⟨O,O,O⟩) HG.out
   have gg1:decide (s.m 1>15)=Ag:=Dh;go_wp2_with fail;refine(GI _ p s M2.out 1 O).mono ?_;rintro e w3 ⟨rfl,rfl⟩;exact Rf
def DonePost(w:Aa)(S:St)(l:List HI)(e:AY)(w':Aa):Prop:=
 ∃(cs:AO) (how:Int),e=Ax (AF #[A9 cs,J U how])∧Fr Aj w w'∧(cs.size=16∧cs.all (·.oneCell')=Ag)∧
  (how=1→ ∃(m:Nat→Int) (σ:Hm) (A:Aw) (c:Nat) (B:Aw) (d:Nat),hrun l 4096 0 ⟨λ_=>0,m⟩=⟨1,1,σ⟩∧(∀j,j<64→m j=GH S j)∧(∀j,U32 (σ.m j))∧Mt σ.m∧
   cs=stc (getS S σ.m) (Z A (getS S σ.m).d.length c) (Z B (getS S σ.m).r.length d)∧StV w' ↑w (getS S σ.m) (Z A (getS S σ.m).d.length c) (Z B (getS S σ.m).r.length d)∧(∀k,Em.ab A=I k→Em.ab B≠I k))
theorem run_any(w:Aa)(S:St)(A B:Aw)(c d:Nat)(hS:StV w 0 S (Z A S.d.length c) (Z B S.r.length d))(hk:Gm.Rk S)(A':Aw)(n cn B2:Nat)(l:List HI)(hr:IntsAt AB w B2 A' n (encL l))(hn:n=8*l.length)(hc:n≤cn)(hB:B2≤↑w)(ho:HAll l)(hl:l.length≤10000):At Tryz.prog 98 #[Z A' n cn,A9 (stc S (Z A S.d.length c) (Z B S.r.length d))] w (DonePost w S l):=by
 obtain⟨b1,b2,f0⟩:=Ds w (stc S (Z A S.d.length c) (Z B S.r.length d)) z16 39 39;have HS:=T (hS.fr0 f0);have HK:=T hk;have HR:=T (hr.fr f0 hB (λ_ _ e=>e));have HO:=T ho;have HL:=T (Ay hn (Ay hc hl));have hsz:=Yn;have HSZ:=T hsz;have hAl:Hid (∀k,Em.ab A=I k∨Em.ab B=I k→k<w.heap.size):=T (λk e=>by
  rcases e with e|e;·exact hS.d.lt k (Em.ab_own hS.d e)
  ·exact hS.r.lt k (Em.ab_own hS.r e))
 have B2':=T b2;have F0:=T f0;have hB3:B2≤↑w:=hB;clear hS hk hr hn hc ho hl f0 b2 hsz hB;go_in;go_wp2_with fail;refine(Hh.new_any _).mono ?_;rintro e w1 ⟨p,rfl,hM1,hg1,hg2,f1⟩;rw[HSZ.out] at hg1 hg2;have b11:=b1.fr f1 id;have M1:=T hM1;have F1:=T f1;have HA:Hid (∀k,Em.ab A=I k∨Em.ab B=I k→ ¬p.its k):=T (λk e h=>by
  have:=hAl.out k e;rcases h with h|h<;>omega)
 have Hp:=T (put_any w1 p _ hM1 (λ_=>rfl) S A B c d (HS.out.fr0 f1) HK.out HA.out);clear hM1 f1 b1;go_wp2_with ((with_reducible refine Yi b11 AQ AJ ?q1 ?q2 ?q4 ?q3 ?_);(case q1=>rfl);(case q2=>rfl);(case q4=>rfl);(case q3=>rfl));refine Az Hp ?_;rintro e w2 ⟨t,rfl,hM2,tg,ta,tl,tm,f2⟩;have HT:=T (Ay tg (Ay ta (Ay tl tm)));have b12:=b11.fr f2 (λe=>JU);have F2:=T f2;have Hl:=T (load_any w2 p t hM2 B2 n cn A' l ((HR.out.fr F1.out (by rw[HSZ.out];omega) (λ_ _ e=>e)).fr f2 (by have:=F1.out.size;rw[HSZ.out] at this;omega) (λk hk e=>JU)) HL.out.1 HL.out.2.1 (by have h1:=F1.out.size;have h2:=f2.size;rw[HSZ.out] at h1;omega) HO.out HL.out.2.2);clear tg ta tl tm hM2 f2 b11 Hp;go_wp2_with fail;refine Az Hl ?_;rintro e w3 ⟨A3,c3,rfl,hM3,f3⟩;have b13:=b12.fr f3 (λe=>JU);have F3:=T f3;have Hrn:=T (Hh.run_any w3 _ _ hM3 HL.out.2.2 HO.out);clear hM3 f3 b12 Hl;go_wp2_with fail;refine Az Hrn ?_;rintro e w4 ⟨why,imm,nn,t',rfl,hM4,f4,hrun4,hwhy,himm⟩;have f4:Fr p.its w3 w4:=f4;have hp: ∀k,p.its k→w.heap.size+2≤k:=λk e=>JU;have b14:=b13.fr f4 (λe=>JU);have FP:Hid (Fr p.its w1 w4):=T ((F2.out.tr F3.out).tr f4);have FW:Hid (Fr Aj w w4):=T ((F0.out.tr F1.out).trans FP.out (λk hk e=>by have:=hp k e;omega));have b24:Blk w4 (↑w+1) 39 z16:=(B2'.out.fr F1.out id).fr FP.out (λe=>by have:=hp _ e;omega);have S4:Hid (StV w4 0 S (Z A S.d.length c) (Z B S.r.length d)):=T ((HS.out.fr0 F1.out).fr FP.out (λk hk=>HA.out k (Af (Em.own_ab hk))) (λk hk=>HA.out k (Ah (Em.own_ab hk))));have M4:=T hM4;have HR4:=T hrun4;have hS16:S.d.length≤16∧S.r.length≤16:=⟨HK.out.2.1,HK.out.2.2.1⟩;clear hM4 hrun4 f4 b13 Hrn hp;by_cases h1:why=1
 ·subst h1;have hwi:IntKind.i64.wrap imm=imm:=GF _ (by have:=himm.1;have:=himm.2;omega);have i0:=himm.1;have i1:=himm.2;by_cases hg:Mt t'.m
  ·have Hg:=T (get_good w4 _ _ M4.out S A B c d S4.out hS16 hg);have HG:=T hg;clear hg;go_wp2_with ((with_reducible refine wpL_lq b14 AQ AJ ?_));refine Az Hg ?_;rintro e w5 ⟨A5,c5,B5,d5,rfl,h5,ne5,f5⟩;have HX:=T (Ay h5 (Ay ne5 f5));have b25:=b24.fr f5 id;have bw:=Yo;have o5:=Ce (getS S t'.m) (Z A5 (getS S t'.m).d.length c5) (Z B5 (getS S t'.m).r.length d5) rfl rfl;clear h5 ne5 f5 b24 b14;go_upto_region 8 with(((with_reducible refine BL (cs':=stc (getS S t'.m) (Z A5 (getS S t'.m).d.length c5) (Z B5 (getS S t'.m).r.length d5)) bw AJ o5 ?_);intro W6 b6 f6;have B6:=T b6;have F6:=T f6;clear f6 bw));have f56:=Yp;have b26:=b25.fr f56 id;have F56:=T f56;clear f56 b25;go_wp2_with (first
    |((with_reducible refine wpL_lq b6 AQ AJ ?_))
    |((with_reducible refine BL (cs':=stc (getS S t'.m) (Z A5 (getS S t'.m).d.length c5) (Z B5 (getS S t'.m).r.length d5)) b26 AJ o5 ?_);intro W7 b7 f7;have B7:=T b7;have F7:=T f7;clear b7 f7 b26 o5))
   refine Bt (Ca.results_ct rfl _ _ (w.heap.size+1) 39 _ _ (J U imm) rfl rfl B7.out AQ rfl AJ) rfl ?_;have hw4:=FW.out.size;have hw4':=F1.out.size;have hw4'':=FP.out.size;rw[HSZ.out] at hw4';refine⟨_,imm,rfl,(((FW.out.tr HX.out.2.2).tr F56.out).trans F7.out (λk hk e=>O)),⟨rfl,Rg⟩,λhi=>?_⟩;subst hi;have K: ∀{v zs},Rw w5 ↑w4 v zs→Rw W7 ↑w v zs:=λ{v zs} h=>((h.fr F56.out (λ_ _ e=>e)).fr F7.out (λk hk e=>by have:=h.ge k hk;omega)).low O;refine⟨t.m,⟨t'.g,t'.m⟩,A5,c5,B5,d5, ?_,HT.out.2.2.2,M4.out.mb,HG.out,rfl,⟨K HX.out.1.d,K HX.out.1.r,HX.out.1.ok⟩,HX.out.2.1⟩;have e:=HR4.out;rw[HT.out.1] at e;exact e
  ·have Hg:=T (get_bad w4 _ _ M4.out S A B c d S4.out hS16 hg);clear hg;go_wp2_with ((with_reducible refine wpL_lq b14 AQ AJ ?_));refine Az Hg ?_;rintro e w5 ⟨A5,c5,B5,d5,rfl,h5,ne5,f5⟩;have HX:=T f5;have b25:=b24.fr f5 id;have bw:=Yo;have o5:=Ce S (Z A5 S.d.length c5) (Z B5 S.r.length d5) rfl rfl;clear h5 ne5 f5 b24 b14;go_upto_region 8 with(((with_reducible refine BL (cs':=stc S (Z A5 S.d.length c5) (Z B5 S.r.length d5)) bw AJ o5 ?_);intro W6 b6 f6;have B6:=T b6;have F6:=T f6;clear f6 bw));have f56:=Yp;have b26:=b25.fr f56 id;have F56:=T f56;clear f56 b25;go_wp2_with (((with_reducible refine wpL_lq b6 AQ AJ ?_);(with_reducible refine BL (cs':=stc S (Z A5 S.d.length c5) (Z B5 S.r.length d5)) b26 AJ o5 ?_);intro W7 b7 f7;have B7:=T b7;have F7:=T f7;clear b7 f7 b26 b6 o5));refine Bt (Ca.results_ct rfl _ _ (w.heap.size+1) 39 _ _ (J .i64 0) rfl rfl B7.out AQ rfl AJ) rfl ?_;exact⟨_,0,rfl,(((FW.out.tr HX.out).tr F56.out).trans F7.out (λk hk e=>O)),⟨rfl,Rg⟩,λhi=>O⟩
 ·have gw:(why !=1)=Ag:=Dh;have Hcp:=T (Gr w4 0 S _ _ S4.out O O);go_wp2_with ((with_reducible refine wpL_lq b14 AQ AJ ?_));refine Az Hcp ?_;rintro e w5 ⟨A5,c5,B5,d5,rfl,h5,ne5,f5⟩;have HX:=T f5;have b25:=b24.fr f5 id;have o5:=Ce S (Z A5 S.d.length c5) (Z B5 S.r.length d5) rfl rfl;clear h5 ne5 f5 b24 b14;go_wp2_with (((with_reducible refine BL (cs':=stc S (Z A5 S.d.length c5) (Z B5 S.r.length d5)) b25 AJ o5 ?_);intro W7 b7 f7;have B7:=T b7;have F7:=T f7;clear b7 f7 b25 o5));refine Bt (Ca.results_ct rfl _ _ (w.heap.size+1) 39 _ _ (J .i64 0) rfl rfl B7.out AQ rfl AJ) rfl ?_;exact⟨_,0,rfl,((FW.out.tr HX.out).trans F7.out (λk hk e=>O)),⟨rfl,Rg⟩,λhi=>O⟩
end Er
namespace Gm
open Fm Nt Rm By Wk Gs Tr
variable{m:Nat→Int}
theorem Yu{f:Nat}{l:List Int}(h: ∀j,j<l.length→m (f+j)=l.getD j 0):Er.takeW m f l.length=l:=by
 apply List.ext_getElem?;intro j;unfold Er.takeW;rw[DP];by_cases hj:j<l.length;·rw[IL hj,Option.map_some,h j hj,AS,BK hj];rfl
 ·rw[Ew AA,Ew O];rfl
variable{s:St}{σ:Hm}
theorem nT{p:Pg}{vs:List Int}(h:FM (left p s vs) p.ct σ):Er.getS s σ.m=left p s vs:=by
 unfold Er.getS;rw[h.pc,h.fl,h.ct,h.dn,h.rn,Du,Du,Yu h.d,Yu h.r];rfl
structure Plr(l:List Ins)(bs:List Int):Prop where
 enc:Enc l bs
 ne:l≠[]
 h8:l.length≤8
 all: ∀i∈l,DR i=Ag∧BZ i.op=Ag∧0≤i.n∧i.n≤4294967295
 ends: ∀i∈l.dropLast,endsB i.op=Ac
variable{bs:List Int}
theorem Plr.wf{l:List Ins}(h:Plr l bs)(pc:Int)(p0:0≤pc)(p1:pc≤4294967295):WF (lower0 pc l):=
 lower_wf pc l ⟨p0,p1⟩ h.ne h.h8 (λi hi=>⟨(h.all i hi).2.1,(h.all i hi).2.2⟩) h.ends
variable{n:Nat}
theorem trans_ok{l:List Ins}{pl:Tr.Pl}{tt:Nat→Nat}(h:Plr l bs)(hp:PO (sweepP (lower0 s.pc l)) pl tt)(hk:Rk s)(hm: ∀j,j<64→m j=GH s j)(hr:hrun (codeC (sweepP (lower0 s.pc l)) pl) n 0 ⟨λ_=>0,m⟩=⟨1,1,σ⟩):CG s l=I (Er.getS s σ.m):=by
 have hw0:=h.wf s.pc hk.1.pc.1 hk.1.pc.2;obtain⟨hw,e⟩:=sweep_ok hw0 s;obtain⟨F,hF⟩:=emit_ok hw hp hk.1 hk.right (λ_=>rfl) hm hr;rw[nT hF,e];exact lower_ok s l h.ne (λi hi=>⟨(h.all i hi).1,(h.all i hi).2.1⟩) h.ends ⟨F.d,F.r,F.hd,F.hr⟩
structure Trl(pc:Int)(l:List Ins)(bs:List Int)(code:List HI):Prop where
 run:Plr l bs
 cd: ∃pl tt,PO (sweepP (lower0 pc l)) pl tt∧code=codeC (sweepP (lower0 pc l)) pl
 ok:HAll code
 len:code.length≤10000
theorem Trl.done{l:List Ins}{code:List HI}(h:Trl s.pc l bs code)(hk:Rk s)(hm: ∀j,j<64→m j=GH s j)(hr:hrun code n 0 ⟨λ_=>0,m⟩=⟨1,1,σ⟩):CG s l=I (Er.getS s σ.m):=by
 obtain⟨pl,tt,hp,rfl⟩:=h.cd;exact trans_ok h.run hp hk hm hr
theorem Plr.behind{l:List Ins}(h:Plr l bs){c:St}{p:Int}{g:Mc}(hc:CG s l=I c)(hpre:bs<+:C3 g.b.ms p)(p0:0≤p)(p1:p<(g.b.ms.n:Int)*64)(hn:g.b.ms.n≤64)(pc0:0≤s.pc)(pc1:s.pc≤4294967295)(hpc:s.pc%64=p%64)(ha:s.ha=Ac)(page:Int):Cg s p page g 8=behind c s.pc (endsB (l.getLastD ⟨0,0⟩).op) (p+bs.length) page g.calm (8 -l.length)∧c.ha=Ac:=
 Yr page l bs s c p g 8 h.enc h.ne (λi hi=>(h.all i hi).2.1) h.ends hc hpre p0 p1 hn pc0 pc1 hpc ha h.h8
variable{i:Ins}{b:List Int}
theorem Enc.snoc{l:List Ins}(h:Enc l bs)(hb:IsEnc i b):Enc (l++[i]) (bs++b):=by
 induction h with
 |nil=>simpa using Enc.cons hb Enc.nil
 |cons h1 h2 ih=>rw[DI,C9];exact Enc.cons h1 ih
theorem Yv(h:Dl b=I (i,n))(hb: ∀z∈b,0≤z∧z<256):DR i=Ag∧0≤i.n∧i.n≤4294967295:=by
 cases b with
 |nil=>simp[Dl] at h
 |cons o l=>
  rw[Dl] at h;by_cases h0:AK o=0;·rw[An h0] at h;cases h
  ·rw[Ae h0] at h;by_cases h1:(l.length:Int)+1<AK o;·rw[An h1] at h;cases h
   ·rw[Ae h1] at h;injection h with h;injection h with hi hn;subst hi;have hs:AK o=1∨AK o=2∨AK o=5:=by
     unfold AK at h0⊢;split;·omega
     split;·omega
     split;·omega
     ·rename_i a1 a2 a3
      rw[Ae a1,Ae a2,Ae a3] at h0;exact absurd rfl h0
    have hl: ∀z∈l,0≤z∧z<256:=λz hz=>hb z (List.mem_cons_of_mem _ hz);have key:DR ⟨o,leV (l.take ((AK o).toNat -1))⟩=(if AK o=0 then Ac else if AK o=1 then decide (leV (l.take ((AK o).toNat -1))=0) else if AK o=2 then decide (leV (l.take ((AK o).toNat -1))≤255) else Ag):=rfl;rw[key];rcases hs with e|e|e;·rw[e];simp[leV]
    ·rw[e] at h1;rw[e]
     match l,h1,hl with
     |[],h1,_=>simp at h1
     |a::l,_,hl=>
      have ha:=hl a AC;simp[leV];omega
    ·rw[e] at h1;rw[e]
     match l,h1,hl with
     |a::b::c::d::l,_,hl=>
      have ha:=hl a AC;have hb:=hl b AC;have hc:=hl c AC;have hd:=hl d AC;simp[leV];omega
     |[],h1,_=>simp at h1
     |[_],h1,_=>simp at h1
     |[_,_],h1,_=>simp at h1
     |[_,_,_],h1,_=>simp at h1
theorem Yw(m:List Ins)(q:Ins):(m++[q]).getLastD ⟨0,0⟩=q:=by
 rw[FI,List.getLast?_concat];rfl
structure Pn(b:List Int)(l:List Ins)(size:Nat)(ends:Bool):Prop where
 enc:Enc l (b.take size)
 le:size≤b.length
 all: ∀i∈l,DR i=Ag∧BZ i.op=Ag∧0≤i.n∧i.n≤4294967295
 init: ∀i∈l.dropLast,endsB i.op=Ac
 last:l≠[]→ends=endsB (l.getLastD ⟨0,0⟩).op
 nil:l=[]→ends=Ac∧size=0
theorem Pn.start(b:List Int):Pn b [] 0 Ac:=⟨by simpa using Enc.nil,Bj _,λi hi=>absurd hi AC,λi hi=>absurd hi AC,λh=>absurd rfl h,λ_=>⟨rfl,rfl⟩⟩
theorem Pn.step{l:List Ins}{size:Nat}(h:Pn b l size Ac)(hd:Dl (b.drop size)=I (i,n))(hp:BZ i.op=Ag)(hb: ∀z∈b,0≤z∧z<256):Pn b (l++[i]) (size+n) (endsB i.op):=by
 obtain⟨n1,n2,n3,n4,n5⟩:=KR hd;obtain⟨r1,r2⟩:=Yv hd (λz hz=>hb z (List.mem_of_mem_drop hz));have hle:=h.le;rw[List.length_drop] at n1;refine⟨?_,O,λj hj=>?_,λj hj=>?_,λ_=>?_,λe=>absurd e AC⟩
 ·have e:b.take (size+n)=b.take size++(b.drop size).take n:=by rw[List.take_add]
  rw[e];exact h.enc.snoc n2
 ·rcases Da.1 hj with e|e;·exact h.all j e
  ·obtain rfl:=Ii.1 e;exact⟨r1,hp,r2⟩
 ·rw[Gw] at hj;rcases l.eq_nil_or_concat with e|⟨m,q,e⟩;·rw[e] at hj;exact absurd hj AC
  ·rw[Is] at e;have hlast:=h.last EV;have hinit:=h.init;rw[e] at hj hlast hinit;rw[Gw] at hinit;rw[Yw] at hlast;rcases Da.1 hj with c|c;·exact hinit j c
   ·rw[Ii.1 c];exact hlast.symm
 ·rw[Yw]
theorem Pn.run{l:List Ins}{size:Nat}{ends:Bool}(h:Pn b l size ends)(hl:l≠[])(h8:l.length≤8):Plr l (b.take size):=⟨h.enc,hl,h8,h.all,h.init⟩
end Gm
namespace Gm
open Fm Nt Rm By Wk Gs Tr
theorem S8: ∀(l:List Ins) (bs:List Int) (s c:St),Enc l bs→(∀i∈l,BZ i.op=Ag)→(∀i∈l,endsB i.op=Ac)→CG s l=I c→0≤s.pc→s.pc≤4294967295→c.pc=(s.pc+bs.length)%4294967296
 |[],_,s,c,.nil,_,_,h,p0,p1=>by
  have h:=Pi;subst h;simp;omega
 |i::l,_,s,c,.cons (b:=b) (bs:=bs) hb he,hp,hn,h,p0,p1=>by
  rw[CG] at h;have hc:check s i=0:=by
   by_cases q:check s i=0;·exact q
   ·rw[Ae q] at h;cases h
  rw[An hc] at h;have hdec:=hb.2 [];obtain⟨n1,n2,n3,n4,n5⟩:=KR hdec;have hpi:=Ol s i (hp i AC) (hn i AC);have ih:=S8 l bs (AX s i) c he (λj hj=>hp j FJ) (λj hj=>hn j FJ) h (by rw[hpi];omega) (by rw[hpi];omega);rw[ih,hpi,Cq];omega
theorem last_mem{l:List Ins}(hl:l≠[]): ∀i∈l,i∈l.dropLast∨i=l.getLastD ⟨0,0⟩:=by
 intro i hi;obtain⟨m,j,rfl⟩: ∃m j,l=m++[j]:=by
  rcases l.eq_nil_or_concat with e|⟨m,j,e⟩;·exact absurd e hl
  ·exact⟨m,j,by rw[e,Is]⟩
 rcases Da.1 hi with q|q;·exact Af (by simpa using q)
 ·exact Ah (by simpa using q)
theorem do_law{l:List Ins}{bs:List Int}(h:Plr l bs){s c:St}{p:Int}{g:Mc}(hc:CG s l=I c)(hpre:bs<+:C3 g.b.ms p)(p0:0≤p)(p1:p<(g.b.ms.n:Int)*64)(hn:g.b.ms.n≤64)(pc0:0≤s.pc)(pc1:s.pc≤4294967295)(hpc:s.pc%64=p%64)(ha:s.ha=Ac):Cg s p (p/64) g 8=(if endsB (l.getLastD ⟨0,0⟩).op|| !decide (c.pc/64=s.pc/64) then⟨c,g.calm⟩ else Cg c (p+bs.length) ((p+bs.length)/64) g.calm (8 -l.length))∧c.ha=Ac:=by
 obtain⟨h1,h2⟩:=h.behind hc hpre p0 p1 hn pc0 pc1 hpc ha (p/64);refine⟨?_,h2⟩;rw[h1];unfold behind;by_cases hq:(endsB (l.getLastD ⟨0,0⟩).op|| !decide (c.pc/64=s.pc/64))=Ag;·rw[An hq,An hq]
 ·rw[Ae hq,Ae hq];have hq:(endsB (l.getLastD ⟨0,0⟩).op|| !decide (c.pc/64=s.pc/64))=Ac:=KQ;rw[Bool.or_eq_false_iff] at hq;obtain⟨e1,e2⟩:=hq;have e2:c.pc/64=s.pc/64:=Ot;have hends: ∀i∈l,endsB i.op=Ac:=λi hi=>cK;have hcp:=S8 l bs s c h.enc (λi hi=>(h.all i hi).2.1) hends hc pc0 pc1;have hlen:=cL;have hpos:=cM;have:(p+(bs.length:Int))/64=p/64:=O;rw[this]
end Gm
namespace Gm
open Fm Nt Rm By Wk Gs Tr
theorem do_lawO{l:List Ins}{bs:List Int}(h:Plr l bs){s c:St}{p:Int}{g:Mc}(hc:CG s l=I c)(hpre:bs<+:C3 g.b.ms p)(p0:0≤p)(p1:p<(g.b.ms.n:Int)*64)(hn:g.b.ms.n≤64)(pc0:0≤s.pc)(pc1:s.pc≤4294967295)(hpc:s.pc%64=p%64)(ha:s.ha=Ac)(hok:okR s p (p/64) g 8)(hq:(endsB (l.getLastD ⟨0,0⟩).op|| !decide (c.pc/64=s.pc/64))=Ac):okR c (p+bs.length) ((p+bs.length)/64) g.calm (8 -l.length):=by
 have key:=(ok_run (p/64) l bs s p g 8 h.enc (λi hi=>(h.all i hi).2.1) h.ends hpre p0 p1 hn pc0 pc1 hpc ha h.h8 hok).2 h.ne c hc hq;rw[Bool.or_eq_false_iff] at hq;obtain⟨e1,e2⟩:=hq;have e2:c.pc/64=s.pc/64:=Ot;have hends: ∀i∈l,endsB i.op=Ac:=λi hi=>cK;have hcp:=S8 l bs s c h.enc (λi hi=>(h.all i hi).2.1) hends hc pc0 pc1;have hlen:=cL;have hpos:=cM;have:(p+(bs.length:Int))/64=p/64:=O;rw[this];exact key
end Gm
end Go.Proofs.YtdfegdoeebaagaaGreatDoor
