import Derived.Test.YtdfegdoeebaagaaGreatDoorY13
import Derived.Test.YtdfegdoeebaagaaGreatDoorY23
open Go.Value renaming slice→Z,int→J,bool→Ao,tuple→AF,agg→A8,oneCell'→Io
open Option renaming some→I,none→G
open Go.IntKind renaming i64→U,u32→V,u64→AQ,wrap_u32→EH,u8→AD
open Go renaming World→Aa,Calls→As,Value→At,bodyPost_ret→Bu,TypeId→AN,Ending→AZ,info_parts→Cj,bits→AX,maxLen→Ce,wpList→Cz,Program→CG,undef→BY,Oper→BN,Operand→Dh
open Bool renaming false→Ac,true→Ag
open Go.Ending renaming returned→Av
open List renaming length_append→Ck,append_assoc→C8,length_cons→DD,cons_append→DO,length_pos_iff→EL,mem_cons→Dx,getElem?_map→EA,getElem?_eq_none→FL,map_append→Fp,length_nil→Fs,setIfInBounds_toArray→IA,set_cons_zero→IB,set_cons_succ→IC
open Nat renaming le_refl→AC,zero_add→BS,eq_zero_or_pos→Gr
open And renaming intro→Az
open Or renaming inl→Af,inr→Ah
open Go.Proofs.Tryz renaming underlying27→I3
open Go.RowKit renaming intOf→AM
open Int renaming eq_ofNat_of_zero_le→DT
open Go.Region renaming wanted→Dv
open Go.Result renaming andThen→Fe
open Go.IntWalk renaming i64_in→GD
open Go.Oper renaming wp→EZ
open Go.Sem renaming run_bind→GP
set_option linter.all false
set_option maxHeartbeats 40000000
set_option maxRecDepth 1000000
open Go Go.RowKit
namespace Go.Proofs.YtdfegdoeebaagaaGreatDoor
namespace Rn
open Gs Sv Gm Gc
theorem Wa(w:Aa)(p:Rp)(x:Rs)(BK BL:At)(h:RunC w p x BK BL)(g:Nat)(v u:Int)(hb:Blk w g 22 #[J V v,J V u])(hl:x.s.d.length≤900):As Tryz.prog 166 #[↑p.g,Z (I ⟨g,0,G⟩) 2 2] w (Iu w p {x with s:=JQ x.s [v,u]} BK BL (AF #[])):=
 Qe w p x BK BL h (g+1) _ 2 2 [v,u] (CT (size:=1) (n:=2) hb rfl) AA
theorem mS(w:Aa)(p:Rp)(x:Rs)(BK BL:At)(h:RunC w p x BK BL)(g:Nat)(v u t:Int)(hb:Blk w g 22 #[J V v,J V u,J V t])(hl:x.s.d.length≤900):As Tryz.prog 166 #[↑p.g,Z (I ⟨g,0,G⟩) 3 3] w (Iu w p {x with s:=JQ x.s [v,u,t]} BK BL (AF #[])):=
 Qe w p x BK BL h (g+1) _ 3 3 [v,u,t] (CT (size:=1) (n:=3) hb rfl) AA
theorem Q1{s:St}(h:2≤s.d.length):(Gm.pop1 s).d≠[]:=VS h
theorem JR{l:List Int}{n:Nat}(h:n+1≤l.length):l≠[]:=λe=>by rw[e] at h;simp at h
theorem mT(n:Int)(w:Aa)(p:Rp)(x:Rs)(P:AE)(a:Bs.Ab)(A:Mu.Au)(g:Mc)(h:Dn w p x P a A g)(hk:x.s.d.length≤16∧x.s.r.length≤16):As Tryz.prog 129 #[↑p.g,A8 #[J U 2,J V n]] w (DPost w p P a A {x with s:=push1 x.s n} g (Ao Ag)):=by
 have D0:=T (h.fr0 ((Ak Aj w).alloc (.cells #[J U 2,J V n] 27)));have L0:=T (Lk.fr0 (p:=p) (P:=P) ((Ak Aj w).alloc (.cells #[J U 2,J V n] 27)));have HK:=T hk;clear h hk;go_in;have H0:=T (Qi ((w.alloc (.cells #[J U 2,J V n] 27)).alloc (.cells #[J V (n)] 22)) _ _ _ _ (D0.out.rn.fr0 ((Ak _ _).alloc _)) (↑w+1) (n) (CC _ _ _ AB) (by have:=HK.out.1;omega));go_wp2_with fail;refine Ax H0 ?_;intro e w1 hq;obtain⟨rfl,⟨g1,A1,ca1,B1,cb1⟩,P1,L1,D1⟩:=(D0.out.fr0 ((Ak Aj (w.alloc (.cells #[J U 2,J V n] 27))).alloc (.cells #[J V (n)] 22))).ofR hq;obtain rfl:g1=p.g:=L1.g;have L1:=T ((L0.out.tr (Lk.fr0 ((Ak _ (w.alloc (.cells #[J U 2,J V n] 27))).alloc _))).tr L1);exact Wb
theorem mU(n:Int)(w:Aa)(p:Rp)(x:Rs)(P:AE)(a:Bs.Ab)(A:Mu.Au)(g:Mc)(h:Dn w p x P a A g)(hk:x.s.d.length≤16∧x.s.r.length≤16)(hd:1≤x.s.d.length):As Tryz.prog 129 #[↑p.g,A8 #[J U 3,J V n]] w (DPost w p P a A {x with s:=JQ (Gm.pop1 x.s) [AO x.s.d,AO x.s.d]} g (Ao Ag)):=by
 have D0:=T (h.fr0 ((Ak Aj w).alloc (.cells #[J U 3,J V n] 27)));have L0:=T (Lk.fr0 (p:=p) (P:=P) ((Ak Aj w).alloc (.cells #[J U 3,J V n] 27)));have HK:=T hk;clear h hk;go_in;have H0:=T (Iv (w.alloc (.cells #[J U 3,J V n] 27)) _ _ _ _ D0.out.rn (JR (n:=0) hd));go_wp2_with fail;refine Ax H0 ?_;intro e w1 hq;obtain⟨rfl,⟨g1,A1,ca1,B1,cb1⟩,P1,L1,D1⟩:=D0.out.ofR hq;obtain rfl:g1=p.g:=L1.g;have L1:=T (L0.out.tr L1);have D1:=T D1;clear hq;have H1:=T (Wa (w1.alloc (.cells #[J V (AO x.s.d),J V (AO x.s.d)] 22)) _ _ _ _ (D1.out.rn.fr0 ((Ak _ _).alloc _)) ↑w1 (AO x.s.d) (AO x.s.d) (CC _ _ _ AB) Q3);go_wp2_with fail;refine Ax H1 ?_;intro e w2 hq;obtain⟨rfl,⟨g2,A2,ca2,B2,cb2⟩,P2,L2,D2⟩:=(D1.out.fr0 ((Ak Aj w1).alloc (.cells #[J V (AO x.s.d),J V (AO x.s.d)] 22))).ofR hq;exact Wc
theorem mV(n:Int)(w:Aa)(p:Rp)(x:Rs)(P:AE)(a:Bs.Ab)(A:Mu.Au)(g:Mc)(h:Dn w p x P a A g)(hk:x.s.d.length≤16∧x.s.r.length≤16)(hd:1≤x.s.d.length):As Tryz.prog 129 #[↑p.g,A8 #[J U 4,J V n]] w (DPost w p P a A {x with s:=Gm.pop1 x.s} g (Ao Ag)):=by
 have D0:=T (h.fr0 ((Ak Aj w).alloc (.cells #[J U 4,J V n] 27)));have L0:=T (Lk.fr0 (p:=p) (P:=P) ((Ak Aj w).alloc (.cells #[J U 4,J V n] 27)));have HK:=T hk;clear h hk;go_in;have H0:=T (Iv (w.alloc (.cells #[J U 4,J V n] 27)) _ _ _ _ D0.out.rn (JR (n:=0) hd));go_wp2_with fail;refine Ax H0 ?_;intro e w1 hq;obtain⟨rfl,⟨g1,A1,ca1,B1,cb1⟩,P1,L1,D1⟩:=D0.out.ofR hq;obtain rfl:g1=p.g:=L1.g;have L1:=T (L0.out.tr L1);exact Wb
theorem mW(n:Int)(w:Aa)(p:Rp)(x:Rs)(P:AE)(a:Bs.Ab)(A:Mu.Au)(g:Mc)(h:Dn w p x P a A g)(hk:x.s.d.length≤16∧x.s.r.length≤16)(hd:2≤x.s.d.length):As Tryz.prog 129 #[↑p.g,A8 #[J U 5,J V n]] w (DPost w p P a A {x with s:=JQ (Gm.pop1 (Gm.pop1 x.s)) [AO x.s.d,AO (Gm.pop1 x.s).d]} g (Ao Ag)):=by
 have D0:=T (h.fr0 ((Ak Aj w).alloc (.cells #[J U 5,J V n] 27)));have L0:=T (Lk.fr0 (p:=p) (P:=P) ((Ak Aj w).alloc (.cells #[J U 5,J V n] 27)));have HK:=T hk;clear h hk;go_in;have H0:=T (Iv (w.alloc (.cells #[J U 5,J V n] 27)) _ _ _ _ D0.out.rn (JR (n:=1) hd));go_wp2_with fail;refine Ax H0 ?_;intro e w1 hq;obtain⟨rfl,⟨g1,A1,ca1,B1,cb1⟩,P1,L1,D1⟩:=D0.out.ofR hq;obtain rfl:g1=p.g:=L1.g;have L1:=T (L0.out.tr L1);have D1:=T D1;clear hq;have H1:=T (Iv w1 _ _ _ _ D1.out.rn (Q1 hd));go_wp2_with fail;refine Ax H1 ?_;intro e w2 hq;obtain⟨rfl,⟨g2,A2,ca2,B2,cb2⟩,P2,L2,D2⟩:=D1.out.ofR hq;obtain rfl:g2=p.g:=L2.g;have L2:=T (L1.out.tr L2);have D2:=T D2;clear hq;have H2:=T (Wa (w2.alloc (.cells #[J V (AO x.s.d),J V (AO (Gm.pop1 x.s).d)] 22)) _ _ _ _ (D2.out.rn.fr0 ((Ak _ _).alloc _)) ↑w2 (AO x.s.d) (AO (Gm.pop1 x.s).d) (CC _ _ _ AB) Q3);go_wp2_with fail;refine Ax H2 ?_;intro e w3 hq;obtain⟨rfl,⟨g3,A3,ca3,B3,cb3⟩,P3,L3,D3⟩:=(D2.out.fr0 ((Ak Aj w2).alloc (.cells #[J V (AO x.s.d),J V (AO (Gm.pop1 x.s).d)] 22))).ofR hq;exact We
theorem mX(n:Int)(w:Aa)(p:Rp)(x:Rs)(P:AE)(a:Bs.Ab)(A:Mu.Au)(g:Mc)(h:Dn w p x P a A g)(hk:x.s.d.length≤16∧x.s.r.length≤16)(hd:2≤x.s.d.length):As Tryz.prog 129 #[↑p.g,A8 #[J U 6,J V n]] w (DPost w p P a A {x with s:=JQ (Gm.pop1 (Gm.pop1 x.s)) [AO (Gm.pop1 x.s).d,AO x.s.d,AO (Gm.pop1 x.s).d]} g (Ao Ag)):=by
 have D0:=T (h.fr0 ((Ak Aj w).alloc (.cells #[J U 6,J V n] 27)));have L0:=T (Lk.fr0 (p:=p) (P:=P) ((Ak Aj w).alloc (.cells #[J U 6,J V n] 27)));have HK:=T hk;clear h hk;go_in;have H0:=T (Iv (w.alloc (.cells #[J U 6,J V n] 27)) _ _ _ _ D0.out.rn (JR (n:=1) hd));go_wp2_with fail;refine Ax H0 ?_;intro e w1 hq;obtain⟨rfl,⟨g1,A1,ca1,B1,cb1⟩,P1,L1,D1⟩:=D0.out.ofR hq;obtain rfl:g1=p.g:=L1.g;have L1:=T (L0.out.tr L1);have D1:=T D1;clear hq;have H1:=T (Iv w1 _ _ _ _ D1.out.rn (Q1 hd));go_wp2_with fail;refine Ax H1 ?_;intro e w2 hq;obtain⟨rfl,⟨g2,A2,ca2,B2,cb2⟩,P2,L2,D2⟩:=D1.out.ofR hq;obtain rfl:g2=p.g:=L2.g;have L2:=T (L1.out.tr L2);have D2:=T D2;clear hq;have H2:=T (mS (w2.alloc (.cells #[J V (AO (Gm.pop1 x.s).d),J V (AO x.s.d),J V (AO (Gm.pop1 x.s).d)] 22)) _ _ _ _ (D2.out.rn.fr0 ((Ak _ _).alloc _)) ↑w2 (AO (Gm.pop1 x.s).d) (AO x.s.d) (AO (Gm.pop1 x.s).d) (CC _ _ _ AB) Q3);go_wp2_with fail;refine Ax H2 ?_;intro e w3 hq;obtain⟨rfl,⟨g3,A3,ca3,B3,cb3⟩,P3,L3,D3⟩:=(D2.out.fr0 ((Ak Aj w2).alloc (.cells #[J V (AO (Gm.pop1 x.s).d),J V (AO x.s.d),J V (AO (Gm.pop1 x.s).d)] 22))).ofR hq;exact We
theorem mY(n:Int)(w:Aa)(p:Rp)(x:Rs)(P:AE)(a:Bs.Ab)(A:Mu.Au)(g:Mc)(h:Dn w p x P a A g)(hk:x.s.d.length≤16∧x.s.r.length≤16)(hd:1≤x.s.r.length):As Tryz.prog 129 #[↑p.g,A8 #[J U 8,J V n]] w (DPost w p P a A {x with s:=push1 {x.s with r:=x.s.r.dropLast} (AO x.s.r)} g (Ao Ag)):=by
 have D0:=T (h.fr0 ((Ak Aj w).alloc (.cells #[J U 8,J V n] 27)));have L0:=T (Lk.fr0 (p:=p) (P:=P) ((Ak Aj w).alloc (.cells #[J U 8,J V n] 27)));have HK:=T hk;clear h hk;go_in;have H0:=T (popR_any (w.alloc (.cells #[J U 8,J V n] 27)) _ _ _ _ D0.out.rn (JR (n:=0) hd));go_wp2_with fail;refine Ax H0 ?_;intro e w1 hq;obtain⟨rfl,⟨g1,A1,ca1,B1,cb1⟩,P1,L1,D1⟩:=D0.out.ofR hq;obtain rfl:g1=p.g:=L1.g;have L1:=T (L0.out.tr L1);have D1:=T D1;clear hq;have H1:=T (Qi (w1.alloc (.cells #[J V (AO x.s.r)] 22)) _ _ _ _ (D1.out.rn.fr0 ((Ak _ _).alloc _)) ↑w1 (AO x.s.r) (CC _ _ _ AB) (by have:=HK.out.1;show x.s.d.length≤999;omega));go_wp2_with fail;refine Ax H1 ?_;intro e w2 hq;obtain⟨rfl,⟨g2,A2,ca2,B2,cb2⟩,P2,L2,D2⟩:=(D1.out.fr0 ((Ak Aj w1).alloc (.cells #[J V (AO x.s.r)] 22))).ofR hq;exact Wc
theorem stack_no(w:Aa)(p:Rp)(x:Rs)(P:AE)(a:Bs.Ab)(A:Mu.Au)(g:Mc)(h:Dn w p x P a A g)(hk:x.s.d.length≤16∧x.s.r.length≤16)(op n:Int)(hn:C7 op=Ac):As Tryz.prog 129 #[↑p.g,A8 #[J U op,J V n]] w (DPost w p P a A x g (Ao Ac)):=by
 have D0:=T (h.fr0 ((Ak Aj w).alloc (.cells #[J U op,J V n] 27)));have L0:=T (Lk.fr0 (p:=p) (P:=P) ((Ak Aj w).alloc (.cells #[J U op,J V n] 27)));have hn:op<0∨8<op:=by
  simp[C7] at hn;omega
 have n0:(op==0)=Ac:=AA;have n1:(op==1)=Ac:=AA;have n2:(op==2)=Ac:=AA;have n3:(op==3)=Ac:=AA;have n4:(op==4)=Ac:=AA;have n5:(op==5)=Ac:=AA;have n6:(op==6)=Ac:=AA;have n7:(op==7)=Ac:=AA;have n8:(op==8)=Ac:=AA;clear hn h hk;go_in
 go_wp2
 go_ret;exact⟨rfl,_,_,L0.out,D0.out⟩
end Rn
namespace Rn
open Gs Sv Gm Gc
def NO(s:St)(v:Int):St:={s with r:=s.r++[v]}
theorem RunC.pushedR{w w1:Aa}{p:Rp}{x:Rs}{BK BL:At}(H:RunC w p x BK BL)(v:Int){v1:At}(hl:x.s.r.length≤999)(hown1:w1.ownsRow 0 22 1 v1 (x.s.r.length+1) (x.s.r.map (J V)++[J V v]))(hg1:w.grownBy w1 (Z p.B x.s.r.length p.cb).ownBlock)(hat1:v1.ownBlock=(Z p.B x.s.r.length p.cb).ownBlock∨v1.ownBlock=I ↑w):
 ∃B1 c1,v1=Z B1 (x.s.r.length+1) c1∧Blk w1 p.g 237 (rc x (Z p.A x.s.d.length p.ca) (Z p.B x.s.r.length p.cb) BK BL)∧
  Iu w p {x with s:=NO x.s v} BK BL (AF #[]) (Av (AF #[])) (w1.setCell ⟨p.g,2,G⟩ (Z B1 (x.s.r.length+1) c1)):=by
 have hgg:(Z p.B x.s.r.length p.cb).ownBlock≠I p.g:=(λe=>H.gB (own_ab e))
 have b1:=H.b.grown hg1 (λe=>hgg e.symm)
 have hv1:Rw w1 0 v1 (x.s.r++[v]):=by
  have e:(x.s.r++[v]).length=x.s.r.length+1:=AB;unfold Rw;rw[e,Fp];exact hown1
 obtain⟨B1,c1,e1⟩:=hv1.form
 have e2:(x.s.r++[v]).length=x.s.r.length+1:=AB
 rw[e2] at e1
 subst e1
 refine⟨B1,c1,rfl,b1, ?_⟩
 have hd1:Rw w1 0 (Z p.A x.s.d.length p.ca) x.s.d:=World.ownsRow.kept H.d hg1 (by
  by_cases q:(Z p.A x.s.d.length p.ca).ownBlock=G;·exact Af q
  ·right;intro e;obtain⟨k,hk⟩:=Option.ne_none_iff_exists'.1 q;rw[hk] at e;exact H.ne k (own_ab hk) (own_ab e.symm))
 have f1:Fr p.its w w1:=(Ak _ w).grown hg1 (λk hk=> Af (Ah (Ah (own_ab hk))))
 have f2:Fr (· =p.g) w1 (w1.setCell ⟨p.g,2,G⟩ (Z B1 (x.s.r.length+1) c1)):=Bt _ _ _ _
 have hgl:=H.b.lt
 have hA1: ∀k,ab B1=I k→ab p.B=I k∨k=w.heap.size:=λk hk=>by
  have hk2:=ab_own hv1 hk;rcases hat1 with e|e;·exact Af (own_ab (e.symm.trans hk2))
  ·exact VM
 have g1:ab B1≠I p.g:=λe=>by
  rcases hA1 _ e with e|e;·exact H.gB e
  ·omega
 refine⟨rfl,⟨p.g,p.A,p.ca,B1,c1⟩,rfl,⟨?_, ?_, ?_,λk hk hk2=>?_, ?_⟩,λk hk=>?_,f1.trans f2 (λi hi e=> Af e)⟩
 ·have h1:=b1.set_ 2 (Z B1 (x.s.r.length+1) c1);simpa only[Ck,DD,Fs,BS,rc,IA,IB,IC,NO] using h1
 ·exact hd1.fr f2 (λk hk e=>H.gA Cp)
 ·have h3:=hv1.fr f2 (λk hk e=>g1 Cp);simpa only[NO,Ck,DD,Fs,BS] using h3
 ·have hk2:ab B1=I k:=hk2;rcases hA1 _ hk2 with e|e;·exact H.ne k hk e
  ·have:=H.lt k (Ah (Af hk));omega
 ·refine⟨H.cs.1, ?_⟩;show(x.s.r++[v]).length≤1000;rw[e2];omega
 ·rcases hk with e|e|e;·exact Jn
  ·exact Jo
  ·rcases hA1 k e with e|e;·exact NB
   ·exact Ez
theorem mZ(n:Int)(w:Aa)(p:Rp)(x:Rs)(P:AE)(a:Bs.Ab)(A:Mu.Au)(g:Mc)(h:Dn w p x P a A g)(hk:x.s.d.length≤16∧x.s.r.length≤16)(hd:1≤x.s.d.length):As Tryz.prog 129 #[↑p.g,A8 #[J U 7,J V n]] w (DPost w p P a A {x with s:=NO (Gm.pop1 x.s) (AO x.s.d)} g (Ao Ag)):=by
 obtain⟨i0,hi0,hz0,hz1,hz2⟩:=Cj info32;have D0:=T (h.fr0 ((Ak Aj w).alloc (.cells #[J U 7,J V n] 27)));have L0:=T (Lk.fr0 (p:=p) (P:=P) ((Ak Aj w).alloc (.cells #[J U 7,J V n] 27)));have HK:=T hk;have HD:=T (JR (n:=0) hd);clear h hk hd;go_in;go_upto_region 19 with(fail);obtain⟨W0,hW0⟩:=A9 (w.alloc (.cells #[J U 7,J V n] 27));rw[hW0] at D0 L0⊢;clear hW0;have D0:=T (D0.out.fr0 (Ak Aj W0).drew);have Hp:=T (VJ W0.drew _ _ _ _ D0.out.rn HD.out);have c2:=D0.out.rn.b.cell 2;obtain⟨v,hv⟩:=A9 (AO x.s.d);rw[hv] at Hp⊢;have HSR:Hid ((Gm.pop1 x.s).r.length≤999):=T (by show x.s.r.length≤999;have:=HK.out.2;omega);have hrl:x.s.r.length≤16:=HK.out.2;have HV:=T hv;clear hv;refine wp_region_any AL ?_
 try(change wpAny _ _ _ _ _ _ _ (World.drew _))
 refine Dm 0 rfl Do ?_;refine Dm 1 rfl Do ?_;refine Dm 2 rfl Do ?_;refine Dm 3 rfl Do ?_;simp only[AH];refine Dm 4 rfl Do ?_;refine Dm 6 rfl Do ?_;simp only[AH];refine Dp [5,7] ?_;refine C9 (λK hK=>?_) ?_
 ·go_simp;refine hK _ _ ?_;clear hK K;refine Dp [7] ?_;refine C9 (λK hK=>?_) ?_;·go_simp;go_wp2_with ((refine Ax Hp ?_);rintro e w2 ⟨rfl,R2,f2⟩;have RP:Iu W0.drew p {x with s:=Gm.pop1 x.s} ↑A.gU ↑a.gB (J .u32 v) (Av (J .u32 v)) w2:=⟨rfl,p,rfl,R2,λ_ hk=> Af hk,f2⟩;have M2:Mch w2 P a A g:=D0.out.mc.fr f2 D0.out.ip D0.out.n0;have D2:=T (Dn.mk R2 M2 D0.out.ip D0.out.n0);have L2:=T ((L0.out.tr (Lk.fr0 (Ak _ W0).drew)).tr (Lk.frI f2));have c2':w2.cell? ⟨p.g,2,G⟩=I (Z p.B x.s.r.length p.cb):=R2.b.cell 2;have hgl2:p.g<↑w2:=R2.b.lt;clear R2 f2 RP M2);exact Wg
  exact D6
 refine C9 (λK hK=>?_) ?_
 ·go_simp;go_wp2_with ((refine Ax Hp ?_);rintro e w2 ⟨rfl,R2,f2⟩;have RP:Iu W0.drew p {x with s:=Gm.pop1 x.s} ↑A.gU ↑a.gB (J .u32 v) (Av (J .u32 v)) w2:=⟨rfl,p,rfl,R2,λ_ hk=> Af hk,f2⟩;have M2:Mch w2 P a A g:=D0.out.mc.fr f2 D0.out.ip D0.out.n0;have D2:=T (Dn.mk R2 M2 D0.out.ip D0.out.n0);have L2:=T ((L0.out.tr (Lk.fr0 (Ak _ W0).drew)).tr (Lk.frI f2));have c2':w2.cell? ⟨p.g,2,G⟩=I (Z p.B x.s.r.length p.cb):=R2.b.cell 2;have hgl2:p.g<↑w2:=R2.b.lt;clear R2 f2 RP M2);refine Dp [5,8] ?_;refine C9 (λK hK=>?_) ?_;·go_simp;refine hK _ _ ?_;clear hK K;exact Wg
  refine C9 (λK hK=>?_) ?_
  ·go_simp;refine hK _ _ ?_;clear hK K;refine Dp [5] ?_;refine C9 (λK hK=>?_) ?_;·exact Wh
   exact D6
  exact D6
 exact D6
end Rn
namespace Ar
open Gs Tr
theorem Wn(w:Aa)(a b:Int)(a0:0≤a)(a1:a≤4294967295)(b0:0≤b)(b1:b≤4294967295):As Tryz.prog 212 #[J V a,J V b] w λe w'=>e=Av (J V (Gp a b))∧w=w':=by
 have hw:=Wo;have hr0:0≤(a -b)%4294967296∧(a -b)%4294967296≤4294967295:=O;unfold Gp;generalize(a -b)%4294967296=r at*;have Hp:=T (plain_any w r hr0.1 hr0.2);obtain⟨f0,f1⟩:=Kz r;obtain⟨o1,o2,o3⟩:=or_low (CF r) ⟨f0,f1⟩;have t1:=JI a b O O O O;have t2:=JI a r O O O O;have t3:=Nn _ _ t1.1 t1.2 t2.1 t2.2;have ht:=Q4 _ t3.1 O;unfold Kw;generalize hX:AX .and V (AX .xor V a b) (AX .xor V a r)=X at*;generalize CF r=f at*;clear t1 t2 t3;by_cases c1:a<b<;>by_cases c2:2147483648≤X
 ·rw[An c2] at ht;simp only[c1,c2,decide_true,if_true];exact Wp
 ·rw[Ae c2] at ht;simp only[c1,c2,decide_true,decide_false,if_true,Bool.false_eq_true,if_false,Int.add_zero];exact Wp
 ·rw[An c2] at ht;exact Wr
 ·rw[Ae c2] at ht;exact Wr
theorem do_any(w:Aa)(op a b:Int)(h0:16≤op)(h1:op≤25)(a0:0≤a)(a1:a≤4294967295)(b0:0≤b)(b1:b≤4294967295):As Tryz.prog 169 #[J U op,J V a,J V b] w λe w'=>e=Av (AF #[J V (Cn op a b),J V (Bv op a b),Ao (Db op b)])∧w=w':=by
 have hop:op=16∨op=17∨op=18∨op=19∨op=20∨op=21∨op=22∨op=23∨op=24∨op=25:=O;have bd:=aluV_bd op a b a0 O b0 O;have Hpl:=T (plain_any w (Cn op a b) bd.1 O);rcases hop with rfl|rfl|rfl|rfl|rfl|rfl|rfl|rfl|rfl|rfl;·have eB:Db 16 b=Ag:=IL;have hw:=Wj;have eV:Cn 16 a b=(a+b)%4294967296:=rfl;have eF:Bv 16 a b=Kx a b:=Iw;have Hc:=T (more_any w a b a0 a1 b0 b1);rw[eV,eF];clear Hpl eV eF;generalize(a+b)%4294967296=r at*;exact Q5
 ·have eB:Db 17 b=Ag:=IL;have hw:=Wo;have eV:Cn 17 a b=(a -b)%4294967296:=rfl;have eF:Bv 17 a b=Gp a b:=Iw;have Hc:=T (Wn w a b a0 a1 b0 b1);rw[eV,eF];clear Hpl eV eF;generalize(a -b)%4294967296=r at*;exact Q5
 ·have eB:Db 18 b=Ag:=IL;have eV:Cn 18 a b=AX .and V a b:=rfl;have eF:Bv 18 a b=CF (Cn 18 a b):=Iw;rw[eF];rw[eV] at Hpl⊢;clear eV eF;generalize hX:AX .and V a b=r at*;exact NQ
 ·have eB:Db 19 b=Ag:=IL;have eV:Cn 19 a b=AX .or V a b:=rfl;have eF:Bv 19 a b=CF (Cn 19 a b):=Iw;rw[eF];rw[eV] at Hpl⊢;clear eV eF;generalize hX:AX .or V a b=r at*;exact NQ
 ·have eB:Db 20 b=Ag:=IL;have eV:Cn 20 a b=AX .xor V a b:=rfl;have eF:Bv 20 a b=CF (Cn 20 a b):=Iw;rw[eF];rw[eV] at Hpl⊢;clear eV eF;generalize hX:AX .xor V a b=r at*;exact NQ
 ·have eB:Db 21 b=Ag:=IL;have eV:Cn 21 a b=Gq a b Ag:=rfl;have eF:Bv 21 a b=CF (Cn 21 a b):=Iw;have Hc:=T (moved_any w a b Ag a0 a1 b0 b1);exact Ws
 ·have eB:Db 22 b=Ag:=IL;have eV:Cn 22 a b=Gq a b Ac:=rfl;have eF:Bv 22 a b=CF (Cn 22 a b):=Iw;have Hc:=T (moved_any w a b Ac a0 a1 b0 b1);exact Ws
 ·have eB:Db 23 b=Ag:=IL;have hw:IntKind.u32.wrap (a*b)=a*b%4294967296:=EH _;have eV:Cn 23 a b=a*b%4294967296:=rfl;have eF:Bv 23 a b=CF (Cn 23 a b):=Iw;rw[eF];rw[eV] at Hpl⊢;clear eV eF;generalize a*b%4294967296=r at*;exact NQ
 ·by_cases hb:b=0
  ·subst hb;have eV:Cn 24 a 0=0:=by simp[Cn]
   have eF:Bv 24 a 0=0:=Iw;have eB:Db 24 0=Ac:=Ap;rw[eV,eF,eB];clear Hpl bd eV eF eB;go_in
   go_wp2
   go_ret3;exact⟨rfl,rfl⟩
  ·have eV:Cn 24 a b=a/b:=rfl;have eB:Db 24 b=Ag:=by simp[Db,hb]
   have eF:Bv 24 a b=CF (Cn 24 a b):=by unfold Bv;rw[eB];rfl
   have hd:a.tdiv b=a/b:=Int.tdiv_eq_ediv_of_nonneg a0;have hz:(b==0)=Ac:=by simp[hb]
   have hw:IntKind.u32.wrap (a/b)=a/b:=by rw[eV] at bd;rw[EH];omega
   rw[eF,eB];rw[eV] at Hpl⊢;clear bd eV eF eB;generalize a/b=r at*;go_in;go_wp2_with fail;refine Ax Hpl ?_;rintro e w' ⟨rfl,rfl⟩
   go_wp2
   go_ret3;exact⟨rfl,rfl⟩
 ·have eB:Db 25 b=Ag:=IL;have eV:Cn 25 a b=0:=by simp[Cn]
  have eF:Bv 25 a b=Gp a b:=Iw;have Hc:=T (Wn w a b a0 a1 b0 b1);rw[eV,eF];clear Hpl eV eF;exact Q5
theorem flag_and(fl:Int)(h0:0≤fl)(h1:fl<16):AX .and V fl 1=(if bitB fl 1 then 1 else 0)∧AX .and V fl 2=(if bitB fl 2 then 2 else 0)∧AX .and V fl 4=(if bitB fl 4 then 4 else 0)∧AX .and V fl 8=(if bitB fl 8 then 8 else 0):=by
 obtain⟨a,rfl⟩:=DT h0;have h:=Wv;rcases h with rfl|rfl|rfl|rfl|rfl|rfl|rfl|rfl|rfl|rfl|rfl|rfl|rfl|rfl|rfl|rfl<;>decide
theorem holds_any(w:Aa)(op fl:Int)(h0:0≤fl)(h1:fl<16):As Tryz.prog 171 #[J U op,J V fl] w λe w'=>e=Av (AF #[Ao (Dg op fl),Ao (GO op)])∧w=w':=by
 obtain⟨b1,b2,b4,b8⟩:=flag_and fl h0 h1;by_cases hj:33≤op∧op≤37
 ·have eJ:GO op=Ag:=by simp[GO];exact hj
  rw[eJ];have hop:op=33∨op=34∨op=35∨op=36∨op=37:=O;clear eJ hj h0 h1;rcases hop with rfl|rfl|rfl|rfl|rfl;·have e:Dg 33 fl=bitB fl 1:=rfl;exact Ww
  ·have e:Dg 34 fl= !bitB fl 1:=rfl;exact Ww
  ·have e:Dg 35 fl=bitB fl 4:=rfl;rw[e];clear b1 b2 b8 e
   cases hb:bitB fl 4<;>(rw[hb] at b4;clear hb;go_enter Tryz.func171,Tryz.ntmps171;go_wp2_with fail;go_ret2;exact⟨rfl,rfl⟩)
  ·have e:Dg 36 fl=bitB fl 2:=rfl;rw[e];clear b1 b4 b8 e
   cases hb:bitB fl 2<;>(rw[hb] at b2;clear hb;go_enter Tryz.func171,Tryz.ntmps171;go_wp2_with fail;go_ret2;exact⟨rfl,rfl⟩)
  ·have e:Dg 37 fl=bitB fl 8:=rfl;rw[e];clear b1 b2 b4 e
   cases hb:bitB fl 8<;>(rw[hb] at b8;clear hb;go_enter Tryz.func171,Tryz.ntmps171;go_wp2_with fail;go_ret2;exact⟨rfl,rfl⟩)
 ·have eJ:GO op=Ac:=by simp[GO];omega
  have eH:Dg op fl=Ac:=Wx;rw[eJ,eH];have d1:(op==33)=Ac:=AA;have d2:(op==34)=Ac:=AA;have d3:(op==35)=Ac:=AA;have d4:(op==36)=Ac:=AA;have d5:(op==37)=Ac:=AA;clear eJ eH hj b1 b2 b4 b8 h0 h1;exact PM
theorem sign_any(w:Aa)(b:Int)(h0:0≤b)(h1:b≤4294967295):As Tryz.prog 142 #[J V b] w λe w'=>e=Av (J V (CM b))∧w=w':=by
 have e8:IntKind.i8.wrap b=if b%256<128 then b%256 else b%256 -256:=by
  simp[IntKind.wrap,IntKind.bits,IntKind.signed];exact LF
 have e:IntKind.i8.wrap b%4294967296=CM b:=by
  rw[e8];unfold CM;split<;>omega
 clear e8;go_in
 go_wp2
 go_ret;exact⟨by simp[wrap32,e],rfl⟩
end Ar
namespace Rn
open Gs Sv Gm Gc
theorem Dn.setF{W:Aa}{p:Rp}{x:Rs}{P:AE}{a:Bs.Ab}{A:Mu.Au}{g:Mc}(H:Dn W p x P a A g)(f:Int):Dn (W.setCell ⟨p.g,3,G⟩ (J V f)) p {x with s:={x.s with fl:=f}} P a A g∧Lk W (W.setCell ⟨p.g,3,G⟩ (J V f)) p p P P:=by
 have f1:Fr (· =p.g) W (W.setCell ⟨p.g,3,G⟩ (J V f)):=(Ak _ W).at_ 3 _;refine⟨⟨⟨?_,H.rn.d.fr f1 (λk hk e=>H.rn.gA Cp),H.rn.r.fr f1 (λk hk e=>H.rn.gB Cp),H.rn.ne,H.rn.cs⟩,H.mc.fr f1 (λk e=>H.ip k (Af e)) (λe=>H.n0 (Af e)),H.ip,H.n0⟩,Lk.frI (f1.mono (λk _ e=> Af e))⟩;have h1:=H.rn.b.set_ 3 (J V f);exact NC
theorem Dn.setP{W:Aa}{p:Rp}{x:Rs}{P:AE}{a:Bs.Ab}{A:Mu.Au}{g:Mc}(H:Dn W p x P a A g)(f:Int):Dn (W.setCell ⟨p.g,0,G⟩ (J V f)) p {x with s:={x.s with pc:=f}} P a A g∧Lk W (W.setCell ⟨p.g,0,G⟩ (J V f)) p p P P:=by
 have f1:Fr (· =p.g) W (W.setCell ⟨p.g,0,G⟩ (J V f)):=(Ak _ W).at_ 0 _;refine⟨⟨⟨?_,H.rn.d.fr f1 (λk hk e=>H.rn.gA Cp),H.rn.r.fr f1 (λk hk e=>H.rn.gB Cp),H.rn.ne,H.rn.cs⟩,H.mc.fr f1 (λk e=>H.ip k (Af e)) (λe=>H.n0 (Af e)),H.ip,H.n0⟩,Lk.frI (f1.mono (λk _ e=> Af e))⟩;have h1:=H.rn.b.set_ 0 (J V f);exact NC
theorem Wy(n:Int):0≤CM n∧CM n≤4294967295:=by
 unfold CM;split<;>omega
def there(s:St)(n:Int):Int:=(s.pc+CM n)%4294967296
inductive Rc (x:Rs)(n:Int):Int→Rs→Bool→Prop
 |jmp:Rc x n 32 {x with s:={x.s with pc:=there x.s n}} Ag
 |alu {op:Int} {Y:Rs} (h0:16≤op) (h1:op≤25) (hd:2≤x.s.d.length) (hk:Db op (AO x.s.d)=Ag∧op≠25∧Y={x with s:={x.s with d:=x.s.d.dropLast.dropLast++[Cn op (top2 x.s.d) (AO x.s.d)],fl:=Bv op (top2 x.s.d) (AO x.s.d)}}∨Db op (AO x.s.d)=Ag∧op=25∧Y={x with s:={x.s with d:=x.s.d.dropLast.dropLast,fl:=Bv op (top2 x.s.d) (AO x.s.d)}}
  ):Rc x n op Y Ag
 |jc {op:Int} {Y:Rs} {b:Bool} (hop:op<16∨25<op) (hne:op≠32∧op≠38∧op≠39∧op≠40) (hjb:GO op=b) (hh:Dg op x.s.fl=Ag∧Y={x with s:={x.s with pc:=there x.s n}}∨Dg op x.s.fl=Ac∧Y=x):Rc x n op Y b
theorem NR(op n:Int)(w:Aa)(p:Rp)(x Y:Rs)(b:Bool)(P:AE)(a:Bs.Ab)(A:Mu.Au)(g:Mc)(h:Dn w p x P a A g)(hk:Rk x.s)(n0:0≤n)(n1:n≤4294967295)(hc:Rc x n op Y b):As Tryz.prog 130 #[↑p.g,A8 #[J U op,J V n]] w (DPost w p P a A Y g (Ao b)):=by
 have D0:=T (h.fr0 ((Ak Aj w).alloc (.cells #[J U op,J V n] 27)));have L0:=T (Lk.fr0 (p:=p) (P:=P) ((Ak Aj w).alloc (.cells #[J U op,J V n] 27)));have bx:Blk (w.alloc (.cells #[J U op,J V n] 27)) ↑w 27 #[J U op,J V n]:=AI _ _ _;have HK:=T hk;have HC:=T hc;have hw:IntKind.u32.wrap (x.s.pc+CM n)=there x.s n:=EH _;have hpc0:=hk.1.pc.1;have hpc1:=hk.1.pc.2;have hsg0:=(Wy n).1;have hsg1:=(Wy n).2;have Hs:=T (λW=>Ar.sign_any W n n0 n1);have Hh:=T (λW=>Ar.holds_any W op x.s.fl hk.1.fl.1 (by have:=hk.2.2.2;omega));clear h hk hc;go_in;go_upto_region 1 with(fail);obtain⟨W0,hW0⟩:=A9 (w.alloc (.cells #[J U op,J V n] 27));rw[hW0] at D0 L0 bx⊢;clear hW0;generalize hgb:w.heap.size=gb at*;have y0:=bx.cell 0;have y1:=bx.cell 1;have c0:=D0.out.rn.b.cell 0;generalize CM n=sg at*;go_region_held (λW=>W.cell? ⟨p.g,0,G⟩=I (J V x.s.pc)∧W.cell? ⟨gb,1,G⟩=I (J V n)) (first|exact⟨c0,y1⟩|go_keep)
  (((refine(Hs.out _).mono ?_);rintro e w' ⟨rfl,rfl⟩))
 have D0:=T (D0.out.fr0 (Ak Aj W0).drew);have L0:=T (L0.out.tr (Lk.fr0 (Ak Aj W0).drew));have c3:=D0.out.rn.b.cell 3;have z0:=D0.out.rn.b.frozen 0;have c0:=D0.out.rn.b.cell 0
 cases HC.out with
 |jmp=>
  have HX:=T (D0.out.setP (there x.s n))
  go_wp2
  go_ret;exact⟨rfl,_,_,L0.out.tr HX.out.2,HX.out.1⟩
 |alu h0 h1 hd hk=>
  have hb1:=(show Bl x.s.d from HK.out.1.d).top;have hb2:=(show Bl x.s.d from HK.out.1.d).top2;have HNE2:=T (Q1 hd);have H0:=T (Iv W0.drew _ _ _ _ D0.out.rn (JR (n:=1) hd));obtain⟨ok,hok⟩:=A9 (Db op (AO x.s.d));have Hdo:=T (λW=>Ar.do_any W op (top2 x.s.d) (AO x.s.d) O O hb2.1 hb2.2 hb1.1 hb1.2);rw[hok] at Hdo hk;replace hk:=T hk;have d16:decide (16≤op)=Ag:=AA;have d25:decide (op≤25)=Ag:=AA;clear hd hb1 hb2 hok;go_wp2_with fail;refine Ax H0 ?_;intro e w1 hq;obtain⟨rfl,⟨g1,A1,ca1,B1,cb1⟩,P1,L1,D1⟩:=D0.out.ofR hq;obtain rfl:g1=p.g:=L1.g;have L1:=T (L0.out.tr L1);have D1:=T D1;clear hq;have H1:=T (Iv w1 _ _ _ _ D1.out.rn HNE2.out);go_wp2_with fail;refine Ax H1 ?_;intro e w2 hq;obtain⟨rfl,⟨g2,A2,ca2,B2,cb2⟩,P2,L2,D2⟩:=D1.out.ofR hq;obtain rfl:g2=p.g:=L2.g;have L2:=T (L1.out.tr L2);have D2:=T D2;clear hq;go_wp2_with fail;refine(Hdo.out _).mono ?_;rintro e w' ⟨rfl,rfl⟩;rcases hk.out with⟨rfl,h25,rfl⟩|⟨rfl,h25,rfl⟩
  ·have f3:=D2.out.rn.b.frozen 3;have k3:=D2.out.rn.b.cell 3;have hx:=D2.out.setF (Bv op (top2 x.s.d) (AO x.s.d));have LX:=T (L2.out.tr hx.2);have DX:=T hx.1;clear hx;have n25:(op !=25)=Ag:=by simp[h25]
   obtain⟨v,hv⟩:=A9 (Cn op (top2 x.s.d) (AO x.s.d));have HV:=T hv;rw[hv];clear hv h25;have HLen:Hid ((Gm.pop1 (Gm.pop1 x.s)).d.length≤999):=T (by have:=HK.out.2.1;simp[Gm.pop1];omega);go_upto_region 13 with(fail);obtain⟨W6,hW6⟩:=A9 (w2.setCell ⟨p.g,3,G⟩ (J V (Bv op (top2 x.s.d) (AO x.s.d))));rw[hW6] at LX DX⊢;clear hW6;go_wp2_with fail;refine(Qi (W6.alloc (.cells #[J V v] 22)) _ _ _ _ (DX.out.rn.fr0 ((Ak _ _).alloc _)) ↑W6 v (AI _ _ _) HLen.out).mono ?_;intro e w8 hq;obtain⟨rfl,p8,P8,L8,D8⟩:=(DX.out.fr0 ((Ak Aj W6).alloc (.cells #[J V v] 22))).ofR hq;have L8:=T L8;have D8:=T D8;clear hq
   go_wp2
   go_ret;rw[HV.out];exact⟨rfl,_,_,(LX.out.tr (Lk.fr0 ((Ak _ W6).alloc _))).tr L8.out,D8.out⟩
  ·have f3:=D2.out.rn.b.frozen 3;have k3:=D2.out.rn.b.cell 3;have hx:=D2.out.setF (Bv op (top2 x.s.d) (AO x.s.d));have LX:=T (L2.out.tr hx.2);have DX:=T hx.1;clear hx;have n25:(op !=25)=Ac:=by simp[h25]
   clear h25
   go_wp2
   go_ret;exact⟨rfl,_,_,LX.out,DX.out⟩
 |jc hop hne hjb hh=>
  obtain⟨n32,n38,n39,n40⟩:(op==32)=Ac∧(op==38)=Ac∧(op==39)=Ac∧(op==40)=Ac:=AA;have HX:=T (D0.out.setP (there x.s n));rw[hjb] at Hh;clear hne hjb;rcases hh with⟨hh,rfl⟩|⟨hh,rfl⟩
  all_goals
   rw[hh] at Hh;clear hh;rcases hop with hop|hop
   all_goals
    try have d1:decide (op≤25)=Ac:=AA
    go_wp2_with fail;refine(Hh.out _).mono ?_;rintro e w' ⟨rfl,rfl⟩
    go_wp2
    go_ret
    first
     |exact⟨rfl,_,_,L0.out.tr HX.out.2,HX.out.1⟩
     |exact⟨rfl,_,_,L0.out,D0.out⟩
end Rn
namespace Rn
open Gs Sv Gm Gc
structure Suits(s:St)(op:Int):Prop where
 td:Gs.takeD op≤s.d.length
 tr:Gs.takeR op≤s.r.length
 pd:s.d.length -Gs.takeD op+Gs.putD op≤16
 pr:s.r.length -Gs.takeR op+Gs.putR op≤16
theorem rs_eta(x:Rs)(ec:x.c=0)(ea:x.a=0)(s':St):({x with s:=s',c:=0,a:=0}:Rs)={x with s:=s'}:=by
 cases x
 simp only at ec ea;rw[ec,ea]
section
variable (w:Aa) (p:Rp) (x:Rs) (P:AE) (a:Bs.Ab) (A:Mu.Au) (g:Mc)
theorem nB(h:Dn w p x P a A g)(hk:Rk x.s)(op n:Int)(hu:Ia op=Ag)(hs:Suits x.s op)(hb:C7 op=Ag):As Tryz.prog 129 #[↑p.g,A8 #[J U op,J V n]] w (DPost w p P a A {x with s:=stackS x.s ⟨op,n⟩} g (Ao Ag)):=by
 have hl:x.s.d.length≤16∧x.s.r.length≤16:=⟨hk.2.1,hk.2.2.1⟩;have t1:=hs.td;have t2:=hs.tr;have hc:
  op=2∨
  op=3∨
  op=4∨
  op=5∨
  op=6∨
  op=7∨
  op=8∨
  False:=by
  simp[C7] at hb
  simp[Ia] at hu
  omega
 rcases hc with
  rfl|
  rfl|
  rfl|
  rfl|
  rfl|
  rfl|
  rfl|
  h0
 ·exact mT n w p x P a A g h hl
 ·exact mU n w p x P a A g h hl t1
 ·exact mV n w p x P a A g h hl t1
 ·exact mW n w p x P a A g h hl t1
 ·exact mX n w p x P a A g h hl t1
 ·exact mZ n w p x P a A g h hl t1
 ·exact mY n w p x P a A g h hl t2
 ·exact h0.elim
theorem nD(h:Dn w p x P a A g)(hr:Ready x)(op n:Int)(n0:0≤n)(n1:n≤4294967295)(hu:Ia op=Ag)(hb0:C7 op=Ac)(hs:Suits x.s op):As Tryz.prog 130 #[↑p.g,A8 #[J U op,J V n]] w (DPost w p P a A {x with s:=reckS x.s ⟨op,n⟩,c:=0,a:=0} g (Ao (Ev op))):=by
 have hk:=hr.k;have t1:=hs.td;have t2:=hs.tr;have ec:=hr.c;have ea:=hr.a;by_cases ha:16≤op∧op≤25
 ·have eB:Ev op=Ag:=Q6;have t3:2≤x.s.d.length:=by
   have:Gs.takeD op=2:=by unfold Gs.takeD;rw[Ae (by omega),An (by omega)]
   omega
  have eS:reckS x.s ⟨op,n⟩={x.s with d:=if op=25 then x.s.d.dropLast.dropLast else x.s.d.dropLast.dropLast++[Cn op (top2 x.s.d) (AO x.s.d)],fl:=Bv op (top2 x.s.d) (AO x.s.d)}:=by
   unfold reckS;rw[An ha]
  rw[eB,eS];have hok:Db op (AO x.s.d)=Ag:=by
   simp[Ia] at hu;simp[Db];omega
  by_cases h25:op=25;·rw[An h25];have:=NR op n w p x _ Ag P a A g h hk n0 n1 (.alu ha.1 ha.2 t3 (Ah ⟨hok,h25,rfl⟩));simpa only[ec,ea] using this
  ·rw[Ae h25];have:=NR op n w p x _ Ag P a A g h hk n0 n1 (.alu ha.1 ha.2 t3 (Af ⟨hok,h25,rfl⟩));simpa only[ec,ea] using this
 have eX2:=rs_eta x ec ea (reckS x.s ⟨op,n⟩);rw[eX2];by_cases c32:op=32;·subst c32;exact NR 32 n w p x _ Ag P a A g h hk n0 n1 .jmp
 have hu':=hu;simp[Ia] at hu';have c38':op≠38:=O;have c39':op≠39:=O;have c40':op≠40:=O;have eB:Ev op=GO op:=by
  by_cases q:33≤op∧op≤37
  ·have h1:Ev op=Ag:=Q6;have h2:GO op=Ag:=by simp[GO];exact q
   rw[h1,h2]
  ·have h1:Ev op=Ac:=Q6;have h2:GO op=Ac:=by simp[GO];omega
   rw[h1,h2]
 have eS:reckS x.s ⟨op,n⟩=if Dg op x.s.fl then{x.s with pc:=there x.s n} else x.s:=by
  unfold reckS;rw[Ae ha,Ae c38',Ae c32,Ae c39',Ae c40'];rfl
 rw[eB,eS];have hne:op≠32∧op≠38∧op≠39∧op≠40:=⟨c32,c38',c39',c40'⟩;refine NR op n w p x _ _ P a A g h hk n0 n1 (.jc O hne rfl ?_);by_cases hh:Dg op x.s.fl=Ag;·exact Af ⟨hh,by rw[An hh]⟩
 ·exact Ah ⟨NS,by rw[Ae hh]⟩
end
end Rn
namespace Rn
open Gs Sv Gm Gc
theorem DPost.from0{w w1 w2:Aa}{p:Rp}{P:AE}{a:Bs.Ab}{A:Mu.Au}{x':Rs}{g':Mc}{v:At}{e:AZ}(f:Fr Aj w w1)(h:DPost w1 p P a A x' g' v e w2):DPost w p P a A x' g' v e w2:=DPost.tr (Lk.fr0 f) h
theorem oth_st(n:Int)(w:Aa)(p:Rp)(x:Rs)(P:AE)(a:Bs.Ab)(A:Mu.Au)(g:Mc)(h:Dn w p x P a A g)(hr:Ready x)(hpg:x.s.pg=Ac)(hd:2≤x.s.d.length)(hv:Jm (AO x.s.d)=Ag)(ho:g.b.outs.length≤1000000):As Tryz.prog 131 #[↑p.g,A8 #[J U 49,J V n]] w (DPost w p P a A (Fg (stR x.s x.cnt g) x.cnt) (stR x.s x.cnt g).g (AF #[])):=by
 have D0:=T (h.fr0 ((Ak Aj w).alloc (.cells #[J U 49,J V n] 27)));have F0:=T ((Ak Aj w).alloc (.cells #[J U 49,J V n] 27));have HD:=T (Az hpg (Az hd hv));have HO:=T ho;clear hd ho hpg hv;have HR:=T hr;clear h hr;go_in;have H0:=T (store_any (w.alloc (.cells #[J U 49,J V n] 27)) p x P a A g D0.out HR.out HD.out.1 HD.out.2.1 HD.out.2.2 HO.out);go_wp2_with fail;refine Ax H0 ?_;intro e w1 hq;have he:=hq.1;subst he;have HQ0:=T hq;clear hq
 go_wp2
 go_end0;exact DPost.from0 F0.out HQ0.out
theorem oth_halt(n:Int)(w:Aa)(p:Rp)(x:Rs)(P:AE)(a:Bs.Ab)(A:Mu.Au)(g:Mc)(h:Dn w p x P a A g)(hr:Ready x):As Tryz.prog 131 #[↑p.g,A8 #[J U 69,J V n]] w (DPost w p P a A (Fg ⟨{x.s with ha:=Ag},0,0,Ac,g⟩ x.cnt) g (AF #[])):=by
 have D0:=T (h.fr0 ((Ak Aj w).alloc (.cells #[J U 69,J V n] 27)));have F0:=T ((Ak Aj w).alloc (.cells #[J U 69,J V n] 27));have HR:=T hr;clear h hr;go_in;go_upto_region 33 with(fail);obtain⟨W0,hW0⟩:=A9 (w.alloc (.cells #[J U 69,J V n] 27));rw[hW0] at D0 F0⊢;clear hW0;have z:=D0.out.rn.b.frozen 15;have c:=D0.out.rn.b.cell 15;have f1:Fr (· =p.g) W0 (W0.setCell ⟨p.g,15,G⟩ (Ao Ag)):=(Ak _ W0).at_ 15 _;have hD:Dn (W0.setCell ⟨p.g,15,G⟩ (Ao Ag)) p {x with s:={x.s with ha:=Ag}} P a A g:=by
  refine⟨⟨?_,D0.out.rn.d.fr f1 (λk hk e=>D0.out.rn.gA Cp),D0.out.rn.r.fr f1 (λk hk e=>D0.out.rn.gB Cp),D0.out.rn.ne,D0.out.rn.cs⟩,D0.out.mc.fr f1 (λk e=>D0.out.ip k (Af e)) (λe=>D0.out.n0 (Af e)),D0.out.ip,D0.out.n0⟩;have h1:=D0.out.rn.b.set_ 15 (Ao Ag);exact NC
 have HD:=T hD;have HF:=T f1;clear hD f1
 go_wp2
 go_end0;have hr:=HR.out;have hx:=HD.out;refine⟨rfl,_,_,(Lk.fr0 F0.out).tr (Lk.frI (HF.out.mono (λk _ e=> Af e))), ?_⟩;simpa only[Fg,hr.c,hr.a,hr.dv] using hx
end Rn
namespace Rn
open Gs Sv Gm Gc
theorem wpL_ldm{P:CG}{w:Aa}{g:Nat}{t ty:AN}{cs:AP}{d:TypeDesc}{n:Nat}(ds:AP)(h:Blk w g t cs)(hu:P.underlying ty=I d)(hi:(P.info? ty).map (·.size)=I n)(hd:d.isRow=Ag)(hn:ds.size=n)(hds: ∀j,j<ds.size→cs[j]?=ds[j]?){ops:Array BN}{rest:List BN}{a:Act}{Q:Exit→Act→Aa→Prop}{dst:Option Tmp}{t2:AN}{pos:String}{af:Array Edge}{x:Dh}(hx:a.eval x=↑g)(hk:Cz P ops Q rest (a.put dst (A8 ds)) w):Cz P ops Q (⟨dst,.load ty x,t2,pos,af,G⟩::rest) a w:=by
 refine wpList_load_mid rfl ty x rfl g 0 hx ds.toList d (λj v hv=>?_) hu hd Nc ?_;·exact Wz
 ·simpa using hk
theorem NT(x:Rs)(D R BK BL:At): ∀j,j<(stc x.s D R).size→(rc x D R BK BL)[j]?=(stc x.s D R)[j]?:=WA
end Rn
namespace Rn
open Gs Sv Gm Gc
theorem KJ{P:CG}{w:Aa}{g:Nat}{t ty:AN}{cs:AP}{d:TypeDesc}{n:Nat}(ds:AP)(h:Blk w g t cs)(hu:P.underlying ty=I d)(hi:(P.info? ty).map (·.size)=I n)(hd:d.isRow=Ag)(hn:ds.size=n)(hds: ∀j,j<ds.size→cs[j]?=ds[j]?){ops:Array BN}{o:BN}{a:Act}{K:Act→Aa→Prop}{Q:Exit→Act→Aa→Prop}{E:Prop}{x:Dh}(ho:o.op=.load ty x)(hg:o.guard=G)(hx:a.eval x=↑g)(hk:K (a.put o.dst (A8 ds)) w):if Dv o (yielded ops a.tmps)=Ag then EZ P o a w K Q else E:=by
 have hw:=NU;rw[An hw];refine wp_load_mid ty x ho g 0 hx ds.toList d (λj v hv=>?_) hu hd Nc ?_;·exact Wz
 ·simpa using hk
theorem step_stm{P:CG}{w:Aa}{g:Nat}{t ty:AN}{cs cs':AP}{n:Nat}(h:Blk w g t cs)(hi:(P.info? ty).map (·.size)=I n)(hs:cs'.size≤cs.size)(hn:cs'.size=n)(h1:cs'.all (·.oneCell')=Ag){ops:Array BN}{o:BN}{a:Act}{K:Act→Aa→Prop}{Q:Exit→Act→Aa→Prop}{E:Prop}{x y:Dh}(ho:o.op=.store ty x y)(hg:o.guard=G)(hx:a.eval x=↑g)(hy:a.eval y=A8 cs')(hk: ∀W,Blk W g t (DM cs 0 cs'.toList)→Fr (· =g) w W→K (a.put o.dst BY) W):if Dv o (yielded ops a.tmps)=Ag then EZ P o a w K Q else E:=by
 have hw:=NU;rw[An hw];refine wp_store_mid ty x y ho g 0 cs' hx hy (λj hj=>?_) (by rw[hi,hn]) h1 (hk _ (h.setCells cs'.toList 0) (Fr.setCells _ _ (Ak _ _) (Af rfl)));exact WB
end Rn
namespace Rn
open Gs Sv Gm Gc
theorem nE(w:Aa)(p:Rp)(x:Rs)(P:AE)(a:Bs.Ab)(A:Mu.Au)(g:Mc)(h:Dn w p x P a A g)(hr:Ready x)(op n:Int)(n0:0≤n)(n1:n≤4294967295)(hu:Ux x.s op n)(hs:Suits x.s op)(h1:C7 op=Ac)(h2:Ev op=Ac)(ho:g.b.outs.length≤1000000):As Tryz.prog 131 #[↑p.g,A8 #[J U op,J V n]] w (DPost w p P a A (Fg (It x.s x.cnt ⟨op,n⟩ g) x.cnt) (It x.s x.cnt ⟨op,n⟩ g).g (AF #[])):=by
 have t1:=hs.td;have hop:=hu.uo;simp[Ia] at hop;simp[C7] at h1;simp[Ev] at h2;have hc:
  op=49∨
  op=69∨
  False:=O
 rcases hc with
  rfl|
  rfl|
  h0
 ·exact oth_st n w p x P a A g h hr hu.pg t1 (hu.st rfl) ho
 ·exact oth_halt n w p x P a A g h hr
 ·exact h0.elim
theorem nF{s:St}{op n:Int}(h:check s ⟨op,n⟩=0):Suits s op:=by
 obtain⟨_,h1,h2,h3,h4⟩:=VG h;exact⟨h1,h2,h3,h4⟩
abbrev EU(s:St)(D R:At)(tr dv:Bool)(pg:At):AP:=#[J V s.pc,D,R,J V s.fl,Ao s.su,Ao s.pg,Ao s.ie,J V s.rt,J V s.ve,J V s.ep,J V s.ca,J V s.ad,Ao s.es,Ao s.ei,J AQ s.ct,Ao s.ha,Ao tr,Ao dv,pg]
structure Stp(w w':Aa)(P:AE)(a:Bs.Ab)(A:Mu.Au)(s:St)(g:Mc)(X Y:Aw)(c d:Nat):Prop where
 st:StV w' 0 s (Z X s.d.length c) (Z Y s.r.length d)
 ne: ∀k,ab X=I k→ab Y≠I k
 f:Fr (λk=> ¬P k) w w'
 mc: ∃P',(∀k,P k→P' k)∧(∀k,P' k→P k∨w.heap.size≤k)∧(∀k,ab X=I k∨ab Y=I k→P' k)∧(∀k,ab X=I k∨ab Y=I k→P k∨w.heap.size≤k)∧Mch w' P' a A g
def Q7(w:Aa)(P:AE)(a:Bs.Ab)(A:Mu.Au)(r:Rz)(e:AZ)(w':Aa):Prop:=
 ∃X c Y d Bc n m,e=Av (A8 (EU r.s (Z X r.s.d.length c) (Z Y r.s.r.length d) r.tr r.dv (Z Bc n m)))∧Stp w w' P a A r.s r.g X Y c d∧IntsAt U w' ↑w' Bc n r.pg∧n≤m∧n≤64∧w'.ownsRow ↑w 3 1 (Z Bc n m) n (r.pg.map (J U))
theorem szR:(Tryz.prog.info? 206).map (·.size)=I 19:=AL
end Rn
namespace Rn
open Gs Sv Gm Gc
abbrev z19:AP:=#[J V 0,Z G 0 0,Z G 0 0,J V 0,Ao Ac,Ao Ac,Ao Ac,J V 0,J V 0,J V 0,J V 0,J V 0,Ao Ac,Ao Ac,J AQ 0,Ao Ac,Ao Ac,Ao Ac,Z G 0 0]
theorem tu_calm{m:Rm.Ms}(h:Mu.TuOk m):Mu.TuOk m.calm:=λk _ _=>rfl
theorem boxed3(w:Aa)(cs es ds:AP)(t t2 t3:AN):Blk (((w.alloc (.cells cs t)).alloc (.cells es t2)).alloc (.cells ds t3)) ↑w t cs∧Blk (((w.alloc (.cells cs t)).alloc (.cells es t2)).alloc (.cells ds t3)) (↑w+1) t2 es∧Blk (((w.alloc (.cells cs t)).alloc (.cells es t2)).alloc (.cells ds t3)) (↑w+2) t3 ds∧Fr Aj w (((w.alloc (.cells cs t)).alloc (.cells es t2)).alloc (.cells ds t3)):=by
 refine⟨((AI w t cs).alloc _).alloc _, ?_, ?_,(((Ak _ w).alloc _).alloc _).alloc _⟩;·have:=(AI (w.alloc (.cells cs t)) t2 es).alloc (.cells ds t3);exact T3
 ·have:=AI ((w.alloc (.cells cs t)).alloc (.cells es t2)) t3 ds;rwa[show((w.alloc (.cells cs t)).alloc (.cells es t2)).heap.size=w.heap.size+2 by simp] at this
end Rn
namespace Gm
open Fm Nt Rm By Wk Gs
theorem size_pos{op:Int}(h:AK op≠0):1≤AK op∧AK op≤5:=by
 unfold AK at*;split;·omega
 split;·omega
 split;·omega
 ·rename_i h1 h2 h3
  rw[Ae h1,Ae h2,Ae h3] at h;exact absurd rfl h
def IsEnc(i:Ins)(b:List Int):Prop:=b≠[]∧ ∀x,Du (b++x)=I (i,b.length)
theorem KW{b:List Int}{i:Ins}{n:Nat}(h:Du b=I (i,n)):n≤b.length∧IsEnc i (b.take n)∧(n:Int)=AK i.op∧1≤n∧n≤5:=by
 cases b with
 |nil=>simp[Du] at h
 |cons o l=>
  rw[Du] at h;by_cases h0:AK o=0;·rw[An h0] at h;cases h
  ·rw[Ae h0] at h;by_cases h1:(l.length:Int)+1<AK o;·rw[An h1] at h;cases h
   ·rw[Ae h1] at h;injection h with h;injection h with hi hn;have hp:=size_pos h0;obtain⟨n',rfl⟩: ∃n',n=n'+1:=⟨n -1,O⟩;have hn':(AK o).toNat=n'+1:=hn;have hs:AK o=((n'+1:Nat):Int):=O;rw[hn',show n'+1 -1=n' by omega] at hi;subst hi;refine⟨AA,⟨AB,λx=>?_⟩,hs.symm,O,O⟩;rw[List.take_succ_cons,DO,Du,Ae h0,hn',show n'+1 -1=n' by omega];have hle:n'≤l.length:=O;rw[Ae (by rw[Ck,List.length_take,Nat.min_eq_left hle,hs];omega),List.take_append_of_le_length AA,List.take_take,Nat.min_self];simp;omega
inductive Enc:List Ins→List Int→Prop
 |nil:Enc [] []
 |cons {i:Ins} {b:List Int} {l:List Ins} {bs:List Int}:IsEnc i b→Enc l bs→Enc (i::l) (b++bs)
theorem Enc.nonempty{l:List Ins}{bs:List Int}(h:Enc l bs)(hl:l≠[]):bs≠[]:=by
 cases h with
 |nil=>exact absurd rfl hl
 |cons h1 h2=>intro e;exact h1.1 (List.append_eq_nil_iff.1 e).1
theorem On(m:Ms)(p:Int):(C3 m p).length=64 -(p%64).toNat:=by simp[C3]
theorem Y6(m:Ms)(p:Int)(n:Nat)(h0:0≤p)(hn:(p%64).toNat+n<64):(C3 m p).drop n=C3 m (p+n):=by
 apply List.ext_getElem?;intro k;rw[List.getElem?_drop];unfold C3;rw[EA,EA];by_cases hk:n+k<64 -(p%64).toNat;·rw[List.getElem?_range hk,List.getElem?_range O];simp only[Option.map_some,Option.some.injEq];congr 1;omega
 ·rw[FL AA,FL AA];rfl
theorem oK(g:Mc):g.calm.calm=g.calm:=rfl
theorem oL(m:Ms):turnN m.calm 64=[]:=by
 unfold turnN Ms.calm;simp
theorem Mx(s:St)(i:Ins)(g:Mc)(hc:check s i=0)(hp:Cc i.op=Ag):doR s i g=⟨AY s i,Ac,Ac,[],g.calm⟩:=by
 have key:Ey (s.next i) s.ct i g.calm=⟨AY s i,0,0,Ac,g.calm⟩:=by
  unfold Ey AY;by_cases h1:C7 i.op=Ag;·rw[An h1,An h1]
  ·rw[Ae h1,Ae h1];have h2:Ev i.op=Ag:=by
    simp[Cc] at hp;simp[C7] at h1;simp[Ev];omega
   rw[An h2]
 unfold doR;simp only[key];have:turnN g.calm.b.ms 64=[]:=oL g.b.ms;rw[this]
theorem Rl(s:St)(i:Ins):(AY s i).ha=s.ha:=by
 unfold AY stackS reckS
 repeat' split
 all_goals rfl
theorem Oo(s:St)(i:Ins)(hp:Cc i.op=Ag)(he:endsB i.op=Ac):(AY s i).pc=(s.pc+AK i.op)%4294967296:=by
 simp[Cc] at hp;simp[endsB] at he;unfold AY;by_cases h1:C7 i.op=Ag;·rw[An h1];exact Pj
 ·rw[Ae h1];simp[C7] at h1;unfold reckS;rw[An O];rfl
def behind(c:St)(was:Int)(ends:Bool)(p:Int)(page:Int)(g:Mc)(k:Nat):Sg:=
 if ends|| !decide (c.pc/64=was/64) then⟨c,g⟩ else Cg c p page g k
theorem Y7(page:Int): ∀(l:List Ins) (bs:List Int) (s c:St) (p:Int) (g:Mc) (k:Nat),Enc l bs→l≠[]→(∀i∈l,Cc i.op=Ag)→(∀i∈l.dropLast,endsB i.op=Ac)→
 CH s l=I c→bs<+:C3 g.b.ms p→0≤p→p<(g.b.ms.n:Int)*64→g.b.ms.n≤64→0≤s.pc→s.pc≤4294967295→s.pc%64=p%64→s.ha=Ac→l.length≤k→
 Cg s p page g k=behind c s.pc (endsB (l.getLastD ⟨0,0⟩).op) (p+bs.length) page g.calm (k -l.length)∧c.ha=Ac
 |[],_,_,_,_,_,_,_,hl,_,_,_,_,_,_,_,_,_,_,_,_=>absurd rfl hl
 |i::l,_,s,c,p,g,k,.cons (b:=b) (bs:=bs) hb he,_,hpl,hnd,hall,hpre,p0,p1,hn,pc0,pc1,hpc,hha,hk=>by
  rw[CH] at hall;have hc:check s i=0:=by
   by_cases q:check s i=0;·exact q
   ·rw[Ae q] at hall;cases hall
  rw[An hc] at hall;obtain⟨k',rfl⟩: ∃k',k=k'+1:=⟨k -1,by simp at hk;omega⟩;obtain⟨x,hx⟩:=hpre;rw[C8] at hx;have hdec:=hb.2 (bs++x);rw[hx] at hdec;obtain⟨n1,n2,n3,n4,n5⟩:=KW hdec;have hlen:=congrArg List.length hx;rw[On,Ck,Ck] at hlen;have hD:=Mx s i g hc (hpl i AB);have hf:=Y8;rw[Cg,hf];simp only[hD];have hha2:(AY s i).ha=Ac:=(Rl s i).trans hha
  cases l with
  |nil=>
   cases he
   have hcs:AY s i=c:=by simpa[CH] using hall
   rw[hcs] at hha2⊢;refine⟨?_,hha2⟩;unfold behind;rw[List.append_nil];have hgl:([i].getLastD ⟨0,0⟩:Ins)=i:=rfl;rw[hgl];unfold CP;simp only[hha2,Bool.or_false,List.contains_nil];have hp2:=Ro;by_cases q:endsB i.op=Ag;·simp[q]
   ·have q:endsB i.op=Ac:=by simpa using q
    rw[q];by_cases q2:c.pc/64=s.pc/64;·simp[q2,hp2]
    ·simp[q2]
  |cons j l=>
   have hei:endsB i.op=Ac:=hnd i AB;have hpi:=Oo s i (hpl i AB) hei;have hbs:=he.nonempty AB;have hbl:0<bs.length:=EL.2 hbs;have hpn:=Y9;have hsame:(AY s i).pc/64=s.pc/64:=by rw[hpn];omega
   have hnx:CP i ⟨AY s i,Ac,Ac,[],g.calm⟩ page s.pc=Ag:=by
    unfold CP;simp[hei,hha2,hsame]
   rw[hnx];simp only[if_true];have hp2:=Ro;rw[hp2];have hpre2:bs<+:C3 g.calm.b.ms (p+(b.length:Nat)):=by
    have:C3 g.calm.b.ms (p+(b.length:Nat))=(C3 g.b.ms p).drop b.length:=(Y6 g.b.ms p b.length p0 O).symm;rw[this,←hx,List.drop_left];exact⟨x,rfl⟩
   have ih:=Y7 page (j::l) bs (AY s i) c (p+(b.length:Nat)) g.calm k' he AB (λa ha=>hpl a (by simp at ha⊢;right;exact ha)) (λa ha=>hnd a (by
    rw[List.dropLast_cons_of_ne_nil AB];exact List.mem_cons_of_mem _ ha)) hall hpre2 O (by
    show p+(b.length:Int)<(g.b.ms.n:Int)*64;omega) hn O O O hha2 (by simp at hk⊢;omega)
   obtain⟨ih1,ih2⟩:=ih;refine⟨?_,ih2⟩;rw[ih1];have e1:((i::j::l).getLastD ⟨0,0⟩:Ins)=(j::l).getLastD ⟨0,0⟩:=by simp[List.getLastD]
   rw[e1];have e2:k'+1 -(i::j::l).length=k' -(j::l).length:=AB;rw[e2];have e3:p+((b++bs).length:Int)=p+(b.length:Int)+bs.length:=by rw[Ck];push_cast;omega
   rw[e3];unfold behind;rw[hsame,oK]
end Gm
namespace Gc
open Gs Sv Rm
theorem Km{P:CG}{fn:Func}{p q r:Tmp}{ty':AN}(h:fn.results=#[.cell q ty',.tmp p,.tmp r])(tmps:AP)(w:Aa)(g':Nat)(t':AN)(cs':AP)(d':TypeDesc)(v u:At)(hp:tmps.getD p BY=v)(hr:tmps.getD r BY=u)(hq:tmps.getD q BY=↑g')(hg':Blk w g' t' cs')(hu':P.underlying ty'=I d')(hd':(match d' with|.struct _|.array _ _=>Ag|_=>Ac)=Ag)(hi':(P.info? ty').map (·.size)=I cs'.size):(results fn tmps).run P w=.ok (AF #[A8 cs',v,u]) w:=by
 have hp':tmps[p]?.getD BY=v:=LZ;have hr':tmps[r]?.getD BY=u:=Ki;have hq':=Nd;simp[results,h,hp',hq',hr',asAddr,run_loadVar_row w g' t' ty' cs' (0,0) d' hg' hu' hd' hi',GP,Fe]
theorem szI:(Tryz.prog.info? 27).map (·.size)=I 2:=AL
def NoDec(w:Aa)(e:AZ)(w':Aa):Prop:= ∃er:Int,er≠0∧(er=10∨er=12)∧e=Av (AF #[Jp ⟨0,0⟩,J U 0,J U er])∧Fr Aj w w'
theorem dec_nil(w:Aa)(A:Aw)(c:Nat):As Tryz.prog 126 #[Z A 0 c] w (NoDec w):=by
 go_in;go_wp2_with fail;refine Bu (Km rfl _ _ w.heap.size 27 #[J U 0,J V 0] _ (J U 0) (J U 10) rfl rfl rfl (AI _ _ _) I3 rfl szI) rfl ⟨10,O,Af rfl,rfl,(Ak _ w).alloc _⟩
theorem dec_no(w:Aa)(A:Aw)(n c:Nat)(zs:List Int)(hz:IntsAt AD w w.heap.size A n zs)(h:Du zs=G)(hn:n≤Ce):As Tryz.prog 126 #[Z A n c] w (NoDec w):=by
 cases zs with
 |nil=>
  have:n=0:=Sa;subst this;exact dec_nil w A c
 |cons o l=>
  have hl:n=l.length+1:=Sa;obtain⟨b,off,hA,hb,hc⟩:=hz.at_ (i:=0) O;have hw:=Jd (hz.2.1 0 O);simp only[List.getD_cons_zero,Nat.add_zero] at hc hw;have hcv:IntKind.i64.wrap o=o:=GD _ O;have hs:=T (λW=>size_any W o);have hh:AK o=0∨(AK o≠0∧(n:Int)<AK o):=by
   rw[Du] at h;by_cases q:AK o=0;·exact Af q
   ·rw[Ae q] at h;by_cases q2:(l.length:Int)+1<AK o;·exact Ah ⟨q,O⟩
    ·rw[Ae q2] at h;cases h
  have hn1:1≤n:=O;subst hA;unfold Ce at hn;obtain⟨hw0,hw1⟩:=hw;have hne:=Sd;have hcb:=T hb;have hc2:=aK;have B1:=T (Dw w #[J U 0,J V 0] #[J U o,J V 0] 27 27);clear h hz hl;have HE:=T (Az B1.out.1 B1.out.2.2);rcases hh with q|⟨q,q2⟩;·rw[q] at hs;clear q;go_in;go_wp2_with fail;refine(hs.out _).mono ?_;rintro e w' ⟨rfl,rfl⟩;go_wp2_with fail;refine Bu (Km rfl _ _ w.heap.size 27 #[J U 0,J V 0] _ (J U 0) (J U 12) rfl rfl rfl HE.out.1 I3 rfl szI) rfl ⟨12,O,Ah rfl,rfl,HE.out.2⟩
  ·have hz2:(AK o==0)=Ac:=by simp[q]
   generalize AK o=sz at*;have hlt:decide ((n:Int)<sz)=Ag:=by simp[q2]
   clear q;go_in;go_wp2_with fail;refine(hs.out _).mono ?_;rintro e w' ⟨rfl,rfl⟩;go_wp2_with fail;refine Bu (Km rfl _ _ w.heap.size 27 #[J U 0,J V 0] _ (J U 0) (J U 10) rfl rfl rfl HE.out.1 I3 rfl szI) rfl ⟨10,O,Af rfl,rfl,HE.out.2⟩
def dW(zs:List Int)(sz:Nat):Nat→Int
 |0=>0
 |r+1=>dW zs sz r*256+zs.getD (sz -1 -r) 0
theorem dW_bd(zs:List Int)(sz:Nat)(hb: ∀i,i<sz→0≤zs.getD i 0∧zs.getD i 0<256): ∀r,r<sz→0≤dW zs sz r∧dW zs sz r<256^r
 |0,_=>by simp[dW]
 |r+1,h=>by
  have h1:=dW_bd zs sz hb r O;have h2:=hb (sz -1 -r) O;have h3:(256:Int)^(r+1)=256^r*256:=Int.pow_succ _ _;show 0≤dW zs sz r*256+_∧dW zs sz r*256+_<_;omega
theorem dW_le(o:Int)(l:List Int)(sz:Nat)(h:sz=1∨sz=2∨sz=5)(hl:sz≤l.length+1):dW (o::l) sz (sz -1)=leV (l.take (sz -1)):=by
 rcases h with rfl|rfl|rfl;·rfl
 ·match l,hl with
  |a::r,_=>simp[dW,leV]
 ·match l,hl with
  |a::b::c::d::r,_=>
   simp[dW,leV];omega
def YesDec(w:Aa)(i:Ins)(k:Nat)(e:AZ)(w':Aa):Prop:=e=Av (AF #[Jp i,J U k,J U 0])∧Fr Aj w w'
theorem dec_yes(w:Aa)(A:Aw)(n c:Nat)(zs:List Int)(hz:IntsAt AD w w.heap.size A n zs)(i:Ins)(k:Nat)(h:Du zs=I (i,k))(hn:n≤Ce):As Tryz.prog 126 #[Z A n c] w (YesDec w i k):=by
 cases zs with
 |nil=>simp[Du] at h
 |cons o l=>
  have hl:n=l.length+1:=Sa;have hh:AK o≠0∧AK o≤n∧i=⟨o,leV (l.take ((AK o).toNat -1))⟩∧k=(AK o).toNat:=by
   rw[Du] at h;by_cases q:AK o=0;·rw[An q] at h;cases h
   ·rw[Ae q] at h;by_cases q2:(l.length:Int)+1<AK o;·rw[An q2] at h;cases h
    ·rw[Ae q2] at h;injection h with h;injection h with h1 h2;exact⟨q,O,h1.symm,h2.symm⟩
  obtain⟨q0,q1,rfl,rfl⟩:=hh;have hsz:=size_cases o;obtain⟨sz,hsz2⟩: ∃sz:Nat,AK o=sz:=⟨(AK o).toNat,O⟩;rw[hsz2] at hsz q0 q1⊢;rw[show((sz:Int)).toNat=sz from rfl];have hs:=T (λW=>size_any W o);rw[hsz2] at hs;have hdl:=dW_le o l sz O O;rw[←hdl];clear hdl;have hbd:=dW_bd (o::l) sz (λi hi=>by have:=Jd (hz.2.1 i (by omega));omega);obtain⟨b,off,hA,hb,hc⟩:=hz.at_ (i:=0) O;have hw:=Jd (hz.2.1 0 O);simp only[List.getD_cons_zero,Nat.add_zero] at hc hw;have hcv:IntKind.i64.wrap o=o:=GD _ O;obtain⟨hw0,hw1⟩:=hw;have hall: ∀j,j<n→w.cell? ⟨b,off+j,G⟩=I (J AD ((o::l).getD j 0)):=by
   obtain⟨b',off',e,_,hc'⟩:=hz.2.2 O;rw[hA] at e;injection e with e;injection e with e1 e2;subst e1 e2;exact hc'
  have HALL:=T hall;have HBY:=T (λi (hi:i<n)=>Jd (hz.2.1 i hi));have hn1:1≤n:=O;subst hA;unfold Ce at hn;have hne:=Sd;have hz2:((sz:Int)==0)=Ac:=AA;have hlt:decide (n<sz)=Ac:=AA;have hlt2:decide ((n:Int)<(sz:Int))=Ac:=AA;have hc2:=aK;have B1:=T (Dw w #[J U 0,J V 0] #[J U o,J V 0] 27 27);have HB:=T hb;have HD:=T hbd;have HSZ:=T hsz;generalize hxs:(o::l)=xs at*;have s0:(0:Int)≤(sz:Int) -1:=O;have s1:(sz:Int)≤5:=O;clear h hz hl q0 hall hc hbd hsz hxs hsz2;go_in;go_wp2_with fail;refine(hs.out _).mono ?_;rintro e w' ⟨rfl,rfl⟩;go_wp2_with fail;go_loopw [7] (λk wr=> ∃r:Nat,r+1≤sz∧k=J U ((sz:Int) -1 -r)∧Blk wr (w.heap.size+1) 27 #[J U o,J V (dW xs sz r)]∧Blk wr w.heap.size 27 #[J U 0,J V 0]∧Fr Aj w wr) (λk _=>(AM k).toNat)
  case atStart=>exact⟨0,O,AB,B1.out.2.1,B1.out.1,B1.out.2.2⟩
  case round=>
   obtain⟨r,hr,rfl,hb1,hb0,fr⟩:=hrel;by_cases hq:r+1<sz
   ·have e1:((sz:Int) -1 -r)=((sz -1 -r:Nat):Int):=O;rw[e1];have HE1:=T e1;clear e1;have hcell:=fr.cell (HALL.out (sz -1 -r) O) HB.out id;have hby:=HBY.out (sz -1 -r) O;have hd:=HD.out r O;have hd2:dW xs sz r<16777216:=by
     have:r=0∨r=1∨r=2∨r=3:=O;rcases this with rfl|rfl|rfl|rfl<;>simp at hd<;>omega
    have HS:Hid (dW xs sz (r+1)=dW xs sz r*256+xs.getD (sz -1 -r) 0):=T rfl;have hd0:=hd.1;generalize xs.getD (sz -1 -r) 0=by_ at*;generalize dW xs sz r=v at*;have Ho:=or8 (v*256) by_ O O O hby.1 O;have k0:=hb1.cell 0;have k1:=hb1.cell 1;have z1:=hb1.frozen 1;have HB1:=T hb1;have HB0:=T hb0;have HF:=T fr;have hy0:=hby.1;have hy1:=hby.2;have hsr:0<sz -1 -r:=O;have hsr1:sz -1 -r<n:=O;have hsr2:sz -1 -r≤4:=O;have HR:=T (show sz -1 -r -1=sz -1 -(r+1) by omega);have HR2:=T (show(sz:Int) -1 -(r+1:Nat)=((sz -1 -r:Nat):Int) -1 by omega);clear hb1 hb0 fr hby hd;generalize sz -1 -r=kk at*;go_upto_region 12 with(fail);go_still_tail 10,AL
    go_wp2
    go_roundw
    case rel=>exact⟨r+1,O,by rw[HR2.out],by rw[HS.out];exact HB1.out.drew.set_ 1 _,(HB0.out.drew.far (p:=⟨w.heap.size+1,1,G⟩) AB _),HF.out.drew.setCell (p:=⟨w.heap.size+1,1,G⟩) (Ah (Nat.le_succ _)) _⟩
    case measure=>simp[AM];omega
   ·have e:r=sz -1:=O;have e2:((sz:Int) -1 -r)=0:=O;rw[e2];rw[e] at hb1;have k0:=hb1.cell 0;have k1:=hb1.cell 1;have z0:=hb0.frozen 0;have z1:=hb0.frozen 1;have y0:=hb0.cell 0;have y1:=hb0.cell 1;have HB0:=T hb0;have HF:=T fr;clear hb1 hb0 fr e e2;generalize dW xs sz (sz -1)=v at*;go_wp2_with fail;refine Bu (Km rfl _ _ w.heap.size 27 #[J U o,J V v] _ (J U sz) (J U 0) rfl rfl rfl ((HB0.out.set_ 0 (J U o)).set_ 1 (J V v)) I3 rfl szI) rfl ⟨rfl,(HF.out.setCell (p:=⟨w.heap.size,0,G⟩) (Ah (AC _)) _).setCell (p:=⟨w.heap.size,1,G⟩) (Ah (AC _)) _⟩
end Gc
namespace Gm
open Fm Nt Rm By Wk Gs
theorem Rk.pop2{s:St}(h:Rk s):Rk (Gm.pop2 s):=h.stacks (Bl.drop (Bl.drop h.1.d)) h.1.r (by have:=h.2.1;simp;omega) h.2.2.1
theorem cN{u:Mu.Us}{sp:Mu.Sp}{va k:Int}(v0:0≤va)(v1:va≤4294967295):(0≤(Mu.placeR u sp va k).c∧(Mu.placeR u sp va k).c≤100)∧Bd (Mu.placeR u sp va k).a:=by
 unfold Mu.placeR;split;·exact⟨⟨KS,by show(0:Int)≤100;omega⟩,bd0⟩
 ·exact⟨⟨by show(0:Int)≤10;omega,by show(10:Int)≤100;omega⟩,v0,v1⟩
section
variable {s:St} {g:Mc}
theorem other_rk(hk:Rk s)(hO:g.b.Ok)(hU:g.u.Ok)(cnt:Int)(hc:0≤cnt∧cnt≤18446744073709551615)(i:Ins)(hd:Gs.takeD i.op≤s.d.length)(hp:s.d.length -Gs.takeD i.op+Gs.putD i.op≤16):Rk (It s cnt i g).s:=by
 obtain⟨op,n⟩:=i;have ht:=Bl.top (l:=s.d) hk.1.d;unfold It;simp only[] at hd hp⊢;by_cases c:op=49;·rw[An c];exact hk.pop2
 rw[Ae c];clear c;obtain⟨o,h1,h2,h3⟩:=hk;exact⟨⟨o.pc,o.fl,o.rt,o.ve,o.ep,o.ca,o.ad,o.ct,o.d,o.r⟩,h1,h2,h3⟩
theorem run_rk(hk:Rk s)(hO:g.b.Ok)(hU:g.u.Ok)(cnt:Int)(hc:0≤cnt∧cnt≤18446744073709551615)(i:Ins)(hn:Bd i.n)(t1:Gs.takeD i.op≤s.d.length)(t2:Gs.takeR i.op≤s.r.length)(t3:s.d.length -Gs.takeD i.op+Gs.putD i.op≤16)(t4:s.r.length -Gs.takeR i.op+Gs.putR i.op≤16):Rk (Ey s cnt i g).s:=by
 unfold Ey;split;·exact hk.stackS hn t1 t2 t3 t4
 split;·exact hk.reckS t1 t2 t3 t4
 ·exact other_rk hk hO hU cnt hc i t1 t3
theorem do_rk(hk:Rk s)(hO:g.b.Ok)(hU:g.u.Ok)(i:Ins)(hn:Bd i.n)(hc:check s i=0):Rk (doR s i g).s:=by
 obtain⟨_,h1,h2,h3,h4⟩:=VG hc;have hO2:g.calm.b.Ok:=⟨hO.p,hO.m,hO.tm,hO.len,hO.ins,hO.outs,hO.sec,hO.pl,hO.st,λk _ _=>rfl⟩;have hU2:g.calm.u.Ok:=⟨hU.n0,hU.bd⟩;exact run_rk (hk.next i) hO2 hU2 s.ct hk.1.ct i hn h1 h2 h3 h4
end
theorem run_ca(s:St)(cnt:Int)(i:Ins)(g:Mc):(Ey s cnt i g).c=0∧(Ey s cnt i g).a=0:=by
 unfold Ey It
 repeat' split
 all_goals exact⟨rfl,rfl⟩
end Gm
namespace Gm
open Fm Nt Rm By Wk Gs
theorem pS(b:Bs.Sb)(at_ v:Int):(b.store at_ v).outs.length≤b.outs.length+1:=by
 unfold Bs.Sb.store Bs.Sb.storeO
 repeat' split
 all_goals first
  |exact Nat.le_succ _
  |(simp;done)
  |omega
theorem run_outs(s:St)(cnt:Int)(i:Ins)(g:Mc):(Ey s cnt i g).g.b.outs.length≤g.b.outs.length+1:=by
 unfold Ey It
 repeat' split
 all_goals first
  |exact Nat.le_succ _
  |exact pS _ _ _
theorem S7(s:St)(i:Ins)(g:Mc):(doR s i g).g.b.outs.length≤g.b.outs.length+1:=run_outs (s.next i) s.ct i g.calm
end Gm
namespace Gm
open Fm Nt Rm By Wk Gs
theorem pT(s:St)(i:Ins):(stackS s i).ct=s.ct:=Pj
theorem reckS_ct(s:St)(i:Ins):(reckS s i).ct=s.ct:=by
 unfold reckS
 repeat' split
 all_goals rfl
theorem setS_ct(s:St)(r v:Int):(setS s r v).ct=s.ct:=by
 unfold setS
 repeat' split
 all_goals rfl
theorem pU(s:St)(cnt:Int)(i:Ins)(g:Mc):(It s cnt i g).s.ct=s.ct:=by
 unfold It
 repeat' split
 all_goals first
  |rfl
  |exact setS_ct _ _ _
theorem runR_ct(s:St)(cnt:Int)(i:Ins)(g:Mc):(Ey s cnt i g).s.ct=s.ct:=by
 unfold Ey;split;·exact pT s i
 split;·exact reckS_ct s i
 ·exact pU s cnt i g
theorem doR_ct(s:St)(i:Ins)(g:Mc):(doR s i g).s.ct=(s.ct+1)%18446744073709551616:=by
 show(Ey (s.next i) s.ct i g.calm).s.ct=_;rw[runR_ct];rfl
theorem cR: ∀(k:Nat) (s:St) (p page:Int) (g:Mc),0≤s.ct→s.ct+k<18446744073709551616→ ∃j:Nat,(0<k→1≤j)∧j≤k∧(Cg s p page g k).s.ct=s.ct+j
 |0,s,p,page,g,_,_=>⟨0,λh=>absurd h O,AC _,by simp[Cg]⟩
 |k+1,s,p,page,g,h0,h1=>by
  rw[Cg]
  cases hf:Cx g.b.ms p with
  |none=>
   refine⟨1,λ_=>AC _,O, ?_⟩;show(s.ct+1)%18446744073709551616=_;omega
  |some x=>
   obtain⟨i,n⟩:=x;have hd:=doR_ct s i g;have e:(doR s i g).s.ct=s.ct+1:=by rw[hd];omega
   dsimp only;split;·obtain⟨j,_,j1,j2⟩:=cR k (doR s i g).s ((p+(n:Int))%4294967296) page (doR s i g).g O O;exact⟨j+1,λ_=>O,O,by rw[j2,e];push_cast;omega⟩
   ·exact⟨1,λ_=>AC _,O,JW⟩
theorem cS(s:St)(g:Mc):(Dd s g).ct=s.ct:=by
 unfold Dd;split<;>rfl
theorem pV(s:St)(g:Mc)(hr:s.right=Ag)(ha:s.ha=Ac):((BH s g).on=Ag∧(BH s g).s.ct=s.ct)∨((BH s g).on=Ac∧(BH s g).s.ct=(s.ct+1)%18446744073709551616):=by
 unfold BH;rw[Ae (by simp[hr,ha])];dsimp only;split;·right;refine⟨rfl, ?_⟩;show((Dd s _).ct+1)%18446744073709551616=_;rw[cS]
 ·left;exact⟨rfl,cS s _⟩
theorem S8(s:St)(g:Mc)(hr:s.right=Ag)(ha:s.ha=Ac)(h0:0≤s.ct)(h1:s.ct+8<18446744073709551616): ∃j:Nat,1≤j∧j≤8∧(C4 s g).s.ct=s.ct+j:=by
 unfold C4;rcases pV s g hr ha with⟨e1,e2⟩|⟨e1,e2⟩;·rw[An e1];obtain⟨j,j0,j1,j2⟩:=cR 8 (BH s g).s (BH s g).p ((BH s g).p/64) (BH s g).g O O;exact⟨j,j0 O,j1,by rw[j2,e2]⟩
 ·rw[Ae (by rw[e1];decide)];exact⟨1,O,O,by show(BH s g).s.ct=_;rw[e2];omega⟩
def AG:Nat→St→Mc→Sg
 |0,s,g=>⟨s,g⟩
 |k+1,s,g=>C4 (AG k s g).s (AG k s g).g
def goB(f n:Int)(s:St):Bool:=decide (0<n)&& !s.ha&&decide ((s.ct -f)%18446744073709551616<n)
structure RunTo(n:Int)(s:St)(g:Mc)(j:Nat):Prop where
 go: ∀i,i<j→goB s.ct n (AG i s g).s=Ag
 stop:goB s.ct n (AG j s g).s=Ac
 rk: ∀i,i≤j→Rk (AG i s g).s
variable{n:Int}{s:St}
theorem MT{f:Int}(h:goB f n s=Ag):0<n∧s.ha=Ac∧(s.ct -f)%18446744073709551616<n:=by
 simpa[goB,and_assoc] using h
theorem Kr{g:Mc}{j:Nat}(h: ∀i,i<j→goB s.ct n (AG i s g).s=Ag)(hk: ∀i,i≤j→Rk (AG i s g).s)(h0:s.ct≤1000000000)(hn:n≤1000000): ∀i,i≤j→(i:Int)≤(AG i s g).s.ct -s.ct∧(AG i s g).s.ct -s.ct≤8*i∧(0<i→(AG i s g).s.ct -s.ct<n+8)
 |0,_=>⟨by show(0:Int)≤s.ct -s.ct;omega,by show s.ct -s.ct≤8*0;omega,λe=>absurd e O⟩
 |i+1,hi=>by
  have hs:=(hk 0 O).1.ct.1;have hs:0≤s.ct:=hs;obtain⟨a1,a2,a3⟩:=Kr h hk h0 hn i O;have hg:=MT (h i O);have hb:(AG i s g).s.ct -s.ct<2000000:=by
   by_cases e:i=0;·subst e;omega
   ·have:=a3 O;omega
  obtain⟨k,k1,k2,k3⟩:=S8 (AG i s g).s (AG i s g).g (hk i O).right hg.2.1 O O;have e:(AG (i+1) s g).s.ct=(AG i s g).s.ct+k:=k3;have h3:=hg.2.2;rw[Int.emod_eq_of_lt O O] at h3;refine⟨by rw[e];push_cast;omega,by rw[e];push_cast;omega,λ_=>LP⟩
theorem RunTo.ends{g:Mc}{j:Nat}(h:RunTo n s g j)(h0:s.ct≤1000000000)(hn:n≤1000000):0≤(AG j s g).s.ct -s.ct∧(n<1→(AG j s g).s.ct=s.ct)∧(s.ha=Ag→(AG j s g).s.ct=s.ct)∧(0<n→(AG j s g).s.ct -s.ct<n+8)∧(0<n→(AG j s g).s.ha=Ac→n≤(AG j s g).s.ct -s.ct)∧(0<n→s.ha=Ac→1≤j):=by
 have hc:=Kr h.go h.rk h0 hn j (AC _);have hs:0≤s.ct:=(h.rk 0 O).1.ct.1;have hj0:n<1∨s.ha=Ag→j=0:=λe=>by
  rcases Gr j with q|q;·exact q
  ·have:=MT (h.go 0 q);rcases e with e|e;·omega
   ·have h2:=this.2.1;have h2:s.ha=Ac:=h2;rw[e] at h2;cases h2
 refine⟨O,λe=>?_,λe=>?_,λe=>?_,λe1 e2=>?_,λe1 e2=>?_⟩;·rw[hj0 (Af e)];rfl
 ·rw[hj0 (Ah e)];rfl
 ·by_cases q:j=0;·rw[q];show s.ct -s.ct<n+8;omega
  ·exact hc.2.2 O
 ·have hst:=h.stop;unfold goB at hst;rw[e2] at hst;have hb:(AG j s g).s.ct -s.ct<2000000:=by
   by_cases q:j=0;·rw[q];show s.ct -s.ct<2000000;omega
   ·have:=hc.2.2 O;omega
  rw[Int.emod_eq_of_lt O O] at hst;simp[e1] at hst;omega
 ·rcases Gr j with q|q;·exfalso;have hst:=h.stop;rw[q] at hst;have hst:goB s.ct n s=Ac:=hst;unfold goB at hst;rw[e2,Int.sub_self] at hst;simp[e1] at hst
  ·exact q
end Gm
namespace Gm
open Fm Nt Rm By Wk Gs
structure Us(s:St)(i:Ins):Prop where
 op:Ia i.op=Ag
 pg:s.pg=Ac
 st:i.op=49→Jm (AO s.d)=Ag
 rw:i.op=67→i.n≠1∧i.n≠2
 ch:check s i=0
theorem Us.ux{s:St}{i:Ins}(h:Us s i):Ux s i.op i.n:=⟨h.op,h.pg,h.st,h.rw⟩
def okR(s:St)(p page:Int)(g:Mc):Nat→Prop
 |0=>True
 |k+1=> ∃i n,Cx g.b.ms p=I (i,n)∧Us s i∧(CP i (doR s i g) page s.pc=Ag→okR (doR s i g).s ((p+(n:Int))%4294967296) page (doR s i g).g k)
def okB(s:St)(g:Mc):Prop:=s.pg=Ac∧((BH s g).on=Ag→okR (BH s g).s (BH s g).p ((BH s g).p/64) (BH s g).g 8)
theorem ok_run(page:Int): ∀(l:List Ins) (bs:List Int) (s:St) (p:Int) (g:Mc) (k:Nat),Enc l bs→(∀i∈l,Cc i.op=Ag)→(∀i∈l.dropLast,endsB i.op=Ac)→
 bs<+:C3 g.b.ms p→0≤p→p<(g.b.ms.n:Int)*64→g.b.ms.n≤64→0≤s.pc→s.pc≤4294967295→s.pc%64=p%64→s.ha=Ac→l.length≤k→okR s p page g k→
 (∀i∈l,Ia i.op=Ag)∧(l≠[]→ ∀c,CH s l=I c→(endsB (l.getLastD ⟨0,0⟩).op|| !decide (c.pc/64=s.pc/64))=Ac→okR c (p+bs.length) page g.calm (k -l.length))
 |[],_,_,_,_,_,_,_,_,_,_,_,_,_,_,_,_,_,_=>⟨λ_ h=>(by cases h),λh=>absurd rfl h⟩
 |i::l,_,s,p,g,k,.cons (b:=b) (bs:=bs) hb he,hpl,hnd,hpre,p0,p1,hn,pc0,pc1,hpc,hha,hk,hok=>by
  obtain⟨k',rfl⟩: ∃k',k=k'+1:=⟨k -1,by simp at hk;omega⟩;obtain⟨x,hx⟩:=hpre;rw[C8] at hx;have hdec:=hb.2 (bs++x);rw[hx] at hdec;obtain⟨n1,n2,n3,n4,n5⟩:=KW hdec;have hlen:=congrArg List.length hx;rw[On,Ck,Ck] at hlen;have hf:=Y8;obtain⟨i',n',hf',hU,hnx'⟩:=hok;rw[hf] at hf';injection hf' with e0;injection e0 with e1 e2;subst e1 e2;have hc:=hU.ch;have hD:=Mx s i g hc (hpl i AB);rw[hD] at hnx';have hha2:(AY s i).ha=Ac:=(Rl s i).trans hha;have hp2:=Ro;rw[hp2] at hnx'
  cases l with
  |nil=>
   cases he
   refine⟨λj hj=>by simp at hj;rw[hj];exact hU.op,λ_ c hall hnot=>?_⟩;have hcs:AY s i=c:=by simpa[CH,hc] using hall
   subst hcs;have hgl:([i].getLastD ⟨0,0⟩:Ins)=i:=rfl;rw[hgl] at hnot;simp only[Bool.or_eq_false_iff,Bool.not_eq_false',decide_eq_true_eq] at hnot;have:=hnx' (by unfold CP;simp[hnot.1,hha2,hnot.2]);simpa using this
  |cons j l=>
   have hei:endsB i.op=Ac:=hnd i AB;have hpi:=Oo s i (hpl i AB) hei;have hbs:=he.nonempty AB;have hbl:0<bs.length:=EL.2 hbs;have hpn:=Y9;have hsame:(AY s i).pc/64=s.pc/64:=by rw[hpn];omega
   have hok2:=hnx' (by unfold CP;simp[hei,hha2,hsame]);have hpre2:bs<+:C3 g.calm.b.ms (p+(b.length:Nat)):=by
    have h1:=Y6 g.b.ms p b.length p0 O;rw[←hx,List.drop_left] at h1;exact⟨x,h1⟩
   have ih:=ok_run page (j::l) bs (AY s i) (p+b.length) g.calm k' he (λq hq=>hpl q (List.mem_cons_of_mem _ hq)) (λq hq=>hnd q (by rw[List.dropLast_cons_of_ne_nil (by simp)];exact List.mem_cons_of_mem _ hq)) hpre2 O (by show p+(b.length:Int)<(g.b.ms.n:Int)*64;omega) hn O O O hha2 (by simp at hk⊢;omega) hok2;refine⟨λq hq=>?_,λ_ c hall hnot=>?_⟩
   ·rcases Dx.1 hq with rfl|hq;·exact hU.op
    ·exact ih.1 q hq
   ·have hall2:CH (AY s i) (j::l)=I c:=by rw[CH,An hc] at hall;exact hall
    have:=ih.2 AB c hall2 (by rw[hsame];exact hnot);rw[Ck,DD,show k'+1 -((j::l).length+1)=k' -(j::l).length by simp];rw[show p+((b.length+bs.length:Nat):Int)=p+b.length+bs.length by omega];exact this
end Gm
end Go.Proofs.YtdfegdoeebaagaaGreatDoor
