import Derived.Test.YtdfegdoeebaagaaGreatDoorX21
open Go.Value renaming slice→Z,int→J,tuple→AF,agg→A9
open Option renaming some→I,none→G
open Go.IntKind renaming i64→U,u32→V,wrap_u32→Gu
open Go renaming World→Aa,Calls→At,info_parts→Cj,maxLen→BQ,wpList→Cy
open Bool renaming false→Ac,true→Ag
open List renaming mem_map→BS
open And renaming intro→Ay
open Nat renaming le_refl→AD,le_trans→Bf
open Go.Proofs.Tryz renaming underlying85→FV
set_option linter.all false
set_option maxHeartbeats 40000000
set_option maxRecDepth 1000000
open Go Go.RowKit
namespace Go.Proofs.YtdfegdoeebaagaaGreatDoor
namespace Lo
open Gs Sv Tr Em Ip
theorem KU(l:List Nat): ∀u∈fxV l,u.oneCell'=Ag:=by
 intro u hu;obtain⟨n,_,rfl⟩:=BS.1 hu;rfl
theorem KV(W:Aa)(l:List Nat)(q:Nat)(hq:l.length=q):Reads (W.alloc (.cells (fxV l).toArray 3)) (↑W+1) 1 (I ⟨↑W,0,G⟩) q (fxV l):=by
 have:=Do (size:=1) (n:=q) (AI W 3 (fxV l).toArray) (by simp[fxV,hq]);simpa using this
section
variable (w:Aa) (base g:Nat) (C:Aw) (cc:Nat) (D:Aw) (cd:Nat) (R:Aw) (cr:Nat) (x:Lw) (ct:Int) (K:Nat)
def KW(w W:Aa)(base:Nat)(p:Lp)(X:Lw)(ct:Int)(K:Nat):Prop:= ∃p',LwH W base p' X ct K∧Llk w W p p'
theorem one_a(h:LwH w base ⟨g,C,cc,D,cd,R,cr⟩ x ct K)(hK:K≤1000)(op n next:Int)(hc:(op=0∨op=32)∨33≤op∧op≤37):At Tryz.prog 141 #[↑g,A9 #[J U op,J V n],J V next] w (LPost w base ⟨g,C,cc,D,cd,R,cr⟩ (x.one ⟨op,n⟩ next) ct (K+12) Ac Ac (AF #[])):=by
 replace hc:=T hc;obtain⟨i0,hi0,hz0,hz1,hz2⟩:=Cj I0;have hbx:=KX;have f0:=KY;have h0:=h.fr0 f0;have hnl:=KZ;clear h;go_in;go_upto_region 1 with(fail);go_still_tail 7,AL;change Cy _ _ _ _ _ (w.alloc (.cells #[J U op,J V n] 27)).drew;generalize(w.alloc (.cells #[J U op,J V n] 27)).drew=W0 at*;have hls:=Ld;have e0:=Le;have e1:=Lg;have HP:=T (Ay h0 (Llk.from0 f0 (Llk.refl W0 ⟨g,C,cc,D,cd,R,cr⟩)));clear f0 h0 hbx hnl;go_upto_block 0 with(fail);go_cut [] (λwx=>KW w wx base ⟨g,C,cc,D,cd,R,cr⟩ (x.one0 ⟨op,n⟩ next) ct (K+12));case rest=>
  exact Lh
 case first=>
  replace hc:=hc.out;rcases hc with hc|hj;·rcases hc with rfl|rfl<;>(go_wp2_with fail;go_meet;exact⟨_,HP.out.1.le O,HP.out.2⟩)
  obtain⟨d0,d1,d2,d3,d4,d5,d6,d7,d8,d9,d10,d11,d12,d13,d14⟩:(op==1)=Ac∧(op==2)=Ac∧(op==3)=Ac∧(op==4)=Ac∧(op==5)=Ac∧(op==6)=Ac∧(op==7)=Ac∧(op==8)=Ac∧decide (op≥16)=Ag∧decide (op≤25)=Ac∧(op==38)=Ac∧(op==39)=Ac∧(op==40)=Ac∧decide (op≥33)=Ag∧decide (op≤37)=Ag:=AA;have y10:=HP.out.1.b.frozen 10;have c10:=HP.out.1.b.cell 10 O;have hgl:g<↑W0:=HP.out.1.b.lt;have HX:=T (HP.out.1.cell (x':={x with br:=op}) (K':=K) 10 (J U op) (λj=>lwF10 _ j) rfl rfl rfl Oy)
  go_wp2
  go_meet;refine⟨_, ?_,HP.out.2.tr HX.out.2⟩;have hX:x.one0 ⟨op,n⟩ next={x with br:=op}:=by
   obtain⟨j0,j1⟩:=hj;unfold Lw.one0;dsimp only;repeat rw[Ae O]
   exact An O
  rw[hX];exact HX.out.1.le O
theorem one_b(h:LwH w base ⟨g,C,cc,D,cd,R,cr⟩ x ct K)(hK:K≤1000)(op n next:Int)(hc:op=4∨op=39∨op=40):At Tryz.prog 141 #[↑g,A9 #[J U op,J V n],J V next] w (LPost w base ⟨g,C,cc,D,cd,R,cr⟩ (x.one ⟨op,n⟩ next) ct (K+12) Ac Ac (AF #[])):=by
 replace hc:=T hc;obtain⟨i0,hi0,hz0,hz1,hz2⟩:=Cj I0;have hbx:=KX;have f0:=KY;have h0:=h.fr0 f0;have hnl:=KZ;clear h;go_in;go_upto_region 1 with(fail);go_still_tail 7,AL;change Cy _ _ _ _ _ (w.alloc (.cells #[J U op,J V n] 27)).drew;generalize(w.alloc (.cells #[J U op,J V n] 27)).drew=W0 at*;have hls:=Ld;have e0:=Le;have e1:=Lg;have HP:=T (Ay h0 (Llk.from0 f0 (Llk.refl W0 ⟨g,C,cc,D,cd,R,cr⟩)));clear f0 h0 hbx hnl;go_upto_block 0 with(fail);go_cut [] (λwx=>KW w wx base ⟨g,C,cc,D,cd,R,cr⟩ (x.one0 ⟨op,n⟩ next) ct (K+12));case rest=>
  exact Lh
 case first=>
  replace hc:=hc.out;rcases hc with rfl|rfl|rfl;·go_wp2_with ((with_reducible refine(Kh _ _ _ _ _ _ HP.out.1 O).mono ?_);rintro e W0 ⟨rfl,⟨g1,C,cc,D,cd,R,cr⟩,l1,h1,-,-⟩;obtain rfl:g=g1:=l1.g.symm;replace HP:=T (Ay h1 (HP.out.2.tr l1));clear l1 h1);go_meet;exact⟨_,HP.out.1.le O,HP.out.2⟩
  ·go_wp2_with (((with_reducible refine(Zl _ _ _ _ _ _ HP.out.1 O).mono ?_);rintro e W0 ⟨rfl,⟨g1,C,cc,D,cd,R,cr⟩,l1,h1,-,-⟩;obtain rfl:g=g1:=l1.g.symm;replace HP:=T (Ay h1 (HP.out.2.tr l1));clear l1 h1);have y9:=HP.out.1.b.frozen 9;have c9:=HP.out.1.b.cell 9 O;have hgl:g<_:=HP.out.1.b.lt;have HX:=T (HP.out.1.cell (x':={x.popR with tg:=(x.topR:Int)}) (K':=K+2) 9 (J U (x.topR:Int)) (λj=>lwF9 _ j) rfl rfl rfl Oy));exact Zq
  ·go_wp2_with (((with_reducible refine(Kh _ _ _ _ _ _ HP.out.1 O).mono ?_);rintro e W0 ⟨rfl,⟨g1,C,cc,D,cd,R,cr⟩,l1,h1,-,-⟩;obtain rfl:g=g1:=l1.g.symm;replace HP:=T (Ay h1 (HP.out.2.tr l1));clear l1 h1);have y9:=HP.out.1.b.frozen 9;have c9:=HP.out.1.b.cell 9 O;have hgl:g<_:=HP.out.1.b.lt;have HX:=T (HP.out.1.cell (x':={x.popD with tg:=(x.topD:Int)}) (K':=K+2) 9 (J U (x.topD:Int)) (λj=>lwF9 _ j) rfl rfl rfl Oy));exact Zq
theorem one_c(h:LwH w base ⟨g,C,cc,D,cd,R,cr⟩ x ct K)(hK:K≤1000)(op n next:Int)(hc:op=3∨op=5∨op=6):At Tryz.prog 141 #[↑g,A9 #[J U op,J V n],J V next] w (LPost w base ⟨g,C,cc,D,cd,R,cr⟩ (x.one ⟨op,n⟩ next) ct (K+12) Ac Ac (AF #[])):=by
 replace hc:=T hc;obtain⟨i0,hi0,hz0,hz1,hz2⟩:=Cj I0;have hbx:=KX;have f0:=KY;have h0:=h.fr0 f0;have hnl:=KZ;clear h;go_in;go_upto_region 1 with(fail);go_still_tail 7,AL;change Cy _ _ _ _ _ (w.alloc (.cells #[J U op,J V n] 27)).drew;generalize(w.alloc (.cells #[J U op,J V n] 27)).drew=W0 at*;have hls:=Ld;have e0:=Le;have e1:=Lg;have HP:=T (Ay h0 (Llk.from0 f0 (Llk.refl W0 ⟨g,C,cc,D,cd,R,cr⟩)));clear f0 h0 hbx hnl;go_upto_block 0 with(fail);go_cut [] (λwx=>KW w wx base ⟨g,C,cc,D,cd,R,cr⟩ (x.one0 ⟨op,n⟩ next) ct (K+12));case rest=>
  exact Lh
 case first=>
  replace hc:=hc.out;rcases hc with rfl|rfl|rfl
  ·go_upto_region 7 with((with_reducible refine(Kh _ _ _ _ _ _ HP.out.1 O).mono ?_);rintro e W0 ⟨rfl,⟨g1,C,cc,D,cd,R,cr⟩,l1,h1,-,-⟩;obtain rfl:g=g1:=l1.g.symm;replace HP:=T (Ay h1 (HP.out.2.tr l1));clear l1 h1);obtain⟨m,hm⟩:=A8 ((x.popD).ld.length);have HM:=T hm;have hmk:=RC;have c14:W0.cell? ⟨g,14,G⟩=I (Z D m cd):=(HP.out.1.b.cell 14 O).trans (by show I (Z D (x.popD).ld.length cd)=_;rw[hm]);have hgl:g<↑W0:=HP.out.1.b.lt;have hbs:=Li;have HO:Hid ((W0.alloc (.cells (fxV [x.topD,x.topD]).toArray 3)).ownsRow base 3 1 (Z D m cd) m (fxV (x.popD).ld)):=T RE;clear hm;go_wp2_with
    (at_builtin
     refine CU _ rfl _ _ _ rfl base 3 i0 _ 1 8 FV hi0 hz0 hz1 hz2 rfl O (Z D m cd) m (fxV (x.popD).ld) rfl HO.out (W0.heap.size+1) (I ⟨W0.heap.size,0,G⟩) 2 2 (fxV [x.topD,x.topD]) rfl (KV W0 [x.topD,x.topD] 2 rfl) (KU _) Cc O AA ?_
     intro v1 w1 hown hg hat
     obtain⟨A1,c1,rfl⟩:=Et hown
     obtain⟨⟨k14,y14,hgl1⟩,hL,hK2⟩:=MC HP.out.1 ((Ao _ W0).alloc _) [x.topD,x.topD] HM.out rfl hown hg hat (by show(2:Nat)≤3;omega)
     have HQ:=T (Ay hL (HP.out.2.tr hK2))
     clear hown hg hat hL hK2)
   exact RF
  ·go_upto_region 13 with((with_reducible refine(Kh _ _ _ _ _ _ HP.out.1 O).mono ?_);rintro e W0 ⟨rfl,⟨g1,C,cc,D,cd,R,cr⟩,l1,h1,-,-⟩;obtain rfl:g=g1:=l1.g.symm;replace HP:=T (Ay h1 (HP.out.2.tr l1));clear l1 h1);obtain⟨m,hm⟩:=A8 ((x.popD.popD).ld.length);have HM:=T hm;have hmk:=RC;have c14:=Zr;have hgl:g<↑W0:=HP.out.1.b.lt;have hbs:=Li;have HO:Hid ((W0.alloc (.cells (fxV [x.topD,x.popD.topD]).toArray 3)).ownsRow base 3 1 (Z D m cd) m (fxV (x.popD.popD).ld)):=T RE;clear hm;go_wp2_with
    (at_builtin
     refine CU _ rfl _ _ _ rfl base 3 i0 _ 1 8 FV hi0 hz0 hz1 hz2 rfl O (Z D m cd) m (fxV (x.popD.popD).ld) rfl HO.out (W0.heap.size+1) (I ⟨W0.heap.size,0,G⟩) 2 2 (fxV [x.topD,x.popD.topD]) rfl (KV W0 [x.topD,x.popD.topD] 2 rfl) (KU _) Cc O AA ?_
     intro v1 w1 hown hg hat
     obtain⟨A1,c1,rfl⟩:=Et hown
     obtain⟨⟨k14,y14,hgl1⟩,hL,hK2⟩:=MC HP.out.1 ((Ao _ W0).alloc _) [x.topD,x.popD.topD] HM.out rfl hown hg hat (by show(2:Nat)≤3;omega)
     have HQ:=T (Ay hL (HP.out.2.tr hK2))
     clear hown hg hat hL hK2)
   exact RF
  ·go_upto_region 17 with((with_reducible refine(Kh _ _ _ _ _ _ HP.out.1 O).mono ?_);rintro e W0 ⟨rfl,⟨g1,C,cc,D,cd,R,cr⟩,l1,h1,-,-⟩;obtain rfl:g=g1:=l1.g.symm;replace HP:=T (Ay h1 (HP.out.2.tr l1));clear l1 h1);obtain⟨m,hm⟩:=A8 ((x.popD.popD).ld.length);have HM:=T hm;have hmk:=RC;have c14:=Zr;have hgl:g<↑W0:=HP.out.1.b.lt;have hbs:=Li;have HO:Hid ((W0.alloc (.cells (fxV [x.popD.topD,x.topD,x.popD.topD]).toArray 3)).ownsRow base 3 1 (Z D m cd) m (fxV (x.popD.popD).ld)):=T RE;clear hm;go_wp2_with
    (at_builtin
     refine CU _ rfl _ _ _ rfl base 3 i0 _ 1 8 FV hi0 hz0 hz1 hz2 rfl O (Z D m cd) m (fxV (x.popD.popD).ld) rfl HO.out (W0.heap.size+1) (I ⟨W0.heap.size,0,G⟩) 3 3 (fxV [x.popD.topD,x.topD,x.popD.topD]) rfl (KV W0 [x.popD.topD,x.topD,x.popD.topD] 3 rfl) (KU _) Cc O AA ?_
     intro v1 w1 hown hg hat
     obtain⟨A1,c1,rfl⟩:=Et hown
     obtain⟨⟨k14,y14,hgl1⟩,hL,hK2⟩:=MC HP.out.1 ((Ao _ W0).alloc _) [x.popD.topD,x.topD,x.popD.topD] HM.out rfl hown hg hat (by show(3:Nat)≤3;omega)
     have HQ:=T (Ay hL (HP.out.2.tr hK2))
     clear hown hg hat hL hK2)
   exact RF
theorem one_d(h:LwH w base ⟨g,C,cc,D,cd,R,cr⟩ x ct K)(hK:K≤1000)(op n next:Int)(hc:op=1∨op=2∨op=8):At Tryz.prog 141 #[↑g,A9 #[J U op,J V n],J V next] w (LPost w base ⟨g,C,cc,D,cd,R,cr⟩ (x.one ⟨op,n⟩ next) ct (K+12) Ac Ac (AF #[])):=by
 replace hc:=T hc;obtain⟨i0,hi0,hz0,hz1,hz2⟩:=Cj I0;have hbx:=KX;have f0:=KY;have h0:=h.fr0 f0;have hnl:=KZ;clear h;go_in;go_upto_region 1 with(fail);go_still_tail 7,AL;change Cy _ _ _ _ _ (w.alloc (.cells #[J U op,J V n] 27)).drew;generalize(w.alloc (.cells #[J U op,J V n] 27)).drew=W0 at*;have hls:=Ld;have e0:=Le;have e1:=Lg;have HP:=T (Ay h0 (Llk.from0 f0 (Llk.refl W0 ⟨g,C,cc,D,cd,R,cr⟩)));clear f0 h0 hbx hnl;go_upto_block 0 with(fail);go_cut [] (λwx=>KW w wx base ⟨g,C,cc,D,cd,R,cr⟩ (x.one0 ⟨op,n⟩ next) ct (K+12));case rest=>
  exact Lh
 case first=>
  rcases hc.out with rfl|rfl|rfl;·have Hca:=T (RB W0.drew _ _ _ _ _ (HP.out.1.fr0 (Ao _ _).drew) O n);go_upto_region 4 with fail;have hX:=T (show x.one0 ⟨1,n⟩ next=(x.add 0 0 0 n).pushD [x.code.length] from rfl);exact Zs
  ·have Hca:=T (RB W0.drew _ _ _ _ _ (HP.out.1.fr0 (Ao _ _).drew) O n);go_upto_region 4 with fail;have hX:=T (show x.one0 ⟨2,n⟩ next=(x.add 0 0 0 n).pushD [x.code.length] from rfl);exact Zs
  ·have Hca:=T (Zl W0.drew _ _ _ _ _ (HP.out.1.fr0 (Ao _ _).drew) O);go_upto_region 21 with fail;have hX:=T (show x.one0 ⟨8,n⟩ next=x.popR.pushD [x.topR] from rfl);have hl:x.popR.ld=x.ld:=by unfold Lw.popR;split<;>rfl
   generalize x.popR=X' at Hca hX hl;generalize x.topR=v at Hca hX;exact Zt
theorem one_e(h:LwH w base ⟨g,C,cc,D,cd,R,cr⟩ x ct K)(hK:K≤1000)(op n next:Int)(hc:16≤op∧op≤25):At Tryz.prog 141 #[↑g,A9 #[J U op,J V n],J V next] w (LPost w base ⟨g,C,cc,D,cd,R,cr⟩ (x.one ⟨op,n⟩ next) ct (K+12) Ac Ac (AF #[])):=by
 replace hc:=T hc;obtain⟨i0,hi0,hz0,hz1,hz2⟩:=Cj I0;have hbx:=KX;have f0:=KY;have h0:=h.fr0 f0;have hnl:=KZ;clear h;go_in;go_upto_region 1 with(fail);go_still_tail 7,AL;change Cy _ _ _ _ _ (w.alloc (.cells #[J U op,J V n] 27)).drew;generalize(w.alloc (.cells #[J U op,J V n] 27)).drew=W0 at*;have hls:=Ld;have e0:=Le;have e1:=Lg;have HP:=T (Ay h0 (Llk.from0 f0 (Llk.refl W0 ⟨g,C,cc,D,cd,R,cr⟩)));clear f0 h0 hbx hnl;go_upto_block 0 with(fail);go_cut [] (λwx=>KW w wx base ⟨g,C,cc,D,cd,R,cr⟩ (x.one0 ⟨op,n⟩ next) ct (K+12));case rest=>
  exact Lh
 case first=>
  have hj:=hc.out;obtain⟨d0,d1,d2,d3,d4,d5,d6,d7,d8,d9⟩:(op==1)=Ac∧(op==2)=Ac∧(op==3)=Ac∧(op==4)=Ac∧(op==5)=Ac∧(op==6)=Ac∧(op==7)=Ac∧(op==8)=Ac∧decide (op≥16)=Ag∧decide (op≤25)=Ag:=AA;go_upto_region 25 with((with_reducible refine(Kh _ _ _ _ _ _ HP.out.1 O).mono ?_);rintro e W0 ⟨rfl,⟨g1,C,cc,D,cd,R,cr⟩,l1,h1,-,-⟩;obtain rfl:g=g1:=l1.g.symm;replace HP:=T (Ay h1 (HP.out.2.tr l1));clear l1 h1);have hwo:IntKind.u32.wrap op=op:=ET;have Ha:=T (add_any W0 _ _ x.popD.popD ct (K+2+2) HP.out.1 O 4 x.popD.topD x.topD op 4 0 (x.popD.topD:Nat) (x.topD:Nat) rfl rfl rfl);go_upto_region 26 with((with_reducible refine Az Ha ?_);rintro e Wq ⟨rfl,⟨g1,C,cc,D,cd,R,cr⟩,l1,h1,-,-⟩;obtain rfl:g=g1:=l1.g.symm;replace HP:=T (Ay h1 (HP.out.2.tr l1));have y7:=h1.b.frozen 7;have c7:=h1.b.cell 7 O;have hglq:g<↑Wq:=h1.b.lt;clear l1 h1 Ha);have hx:=HP.out.1.cell (x':={(x.popD.popD.add 4 x.popD.topD x.topD op) with fl:=(x.popD.popD.code.length:Int)}) (K':=K+2+2+1) 7 (J U (x.popD.popD.code.length:Int)) (λj=>lwF7 _ j) rfl rfl rfl Oy;replace HP:=T (Ay hx.1 (HP.out.2.tr hx.2));clear hx y7 c7;generalize Wq.setCell ⟨g,7,G⟩ (J U (x.popD.popD.code.length:Int))=W0 at*;obtain⟨X3,hX3⟩:=A8 ({(x.popD.popD.add 4 x.popD.topD x.topD op) with fl:=(x.popD.popD.code.length:Int)});have HX3:=T hX3;rw[hX3] at HP;clear hX3;by_cases h25:op=25
  ·subst h25
   go_wp2
   go_meet;exact⟨_,(show x.one0 ⟨25,n⟩ next=X3 from HX3.out)▸HP.out.1.le O,HP.out.2⟩
  have h26:(op !=25)=Ag:=by simpa using h25
  have Hca:=T (add_any W0.drew _ _ X3 ct (K+2+2+1) (HP.out.1.fr0 (Ao _ _).drew) O 3 x.popD.topD x.topD op 3 0 (x.popD.topD:Nat) (x.topD:Nat) rfl rfl rfl);have hX:=T (show x.one0 ⟨op,n⟩ next=(X3.add 3 x.popD.topD x.topD op).pushD [X3.code.length] by rw[←HX3.out];unfold Lw.one0;dsimp only;(repeat rw[Ae (by omega)]);rw[An (by omega)];unfold Lw.alu;rw[Ae (by omega)];simp[Lw.add,Lw.pushD]);replace h25:=T h25;go_upto_region 27 with fail;have hl:(X3.add 3 x.popD.topD x.topD op).ld=X3.ld:=rfl;generalize X3.add 3 x.popD.topD x.topD op=X' at Hca hX hl;generalize X3.code.length=v at Hca hX;exact Zt
theorem one_f(h:LwH w base ⟨g,C,cc,D,cd,R,cr⟩ x ct K)(hK:K≤1000)(op n next:Int)(hc:op=7∨op=38):At Tryz.prog 141 #[↑g,A9 #[J U op,J V n],J V next] w (LPost w base ⟨g,C,cc,D,cd,R,cr⟩ (x.one ⟨op,n⟩ next) ct (K+12) Ac Ac (AF #[])):=by
 replace hc:=T hc;obtain⟨i0,hi0,hz0,hz1,hz2⟩:=Cj I0;have hbx:=KX;have f0:=KY;have h0:=h.fr0 f0;have hnl:=KZ;clear h;go_in;go_upto_region 1 with(fail);go_still_tail 7,AL;change Cy _ _ _ _ _ (w.alloc (.cells #[J U op,J V n] 27)).drew;generalize(w.alloc (.cells #[J U op,J V n] 27)).drew=W0 at*;have hls:=Ld;have e0:=Le;have e1:=Lg;have HP:=T (Ay h0 (Llk.from0 f0 (Llk.refl W0 ⟨g,C,cc,D,cd,R,cr⟩)));clear f0 h0 hbx hnl;go_upto_block 0 with(fail);go_cut [] (λwx=>KW w wx base ⟨g,C,cc,D,cd,R,cr⟩ (x.one0 ⟨op,n⟩ next) ct (K+12));case rest=>
  exact Lh
 case first=>
  rcases hc.out with rfl|rfl
  ·have Hca:=T (Kh W0.drew _ _ _ _ _ (HP.out.1.fr0 (Ao _ _).drew) O);go_upto_region 19 with fail;have hX:=T (show x.one0 ⟨7,n⟩ next=x.popD.pushR x.topD from rfl);have hl:x.popD.lr=x.lr:=by unfold Lw.popD;split<;>rfl
   generalize x.popD=X' at Hca hX hl;generalize x.topD=v at Hca hX;exact Zu
  ·have Hca:=T (RB W0.drew _ _ _ _ _ (HP.out.1.fr0 (Ao _ _).drew) O next);go_upto_region 29 with fail;have hX:=T (show x.one0 ⟨38,n⟩ next=(x.add 0 0 0 next).pushR x.code.length from rfl);have hl:(x.add 0 0 0 next).lr=x.lr:=rfl;generalize x.add 0 0 0 next=X' at Hca hX hl
   generalize x.code.length=v at Hca hX;exact Zu
theorem one_any(h:LwH w base ⟨g,C,cc,D,cd,R,cr⟩ x ct K)(hK:K≤1000)(op n next:Int)(hp:BZ op=Ag):At Tryz.prog 141 #[↑g,A9 #[J U op,J V n],J V next] w (LPost w base ⟨g,C,cc,D,cd,R,cr⟩ (x.one ⟨op,n⟩ next) ct (K+12) Ac Ac (AF #[])):=by
 have hc:((op=0∨op=32)∨33≤op∧op≤37)∨(op=4∨op=39∨op=40)∨(op=3∨op=5∨op=6)∨(op=1∨op=2∨op=8)∨(16≤op∧op≤25)∨(op=7∨op=38):=by
  simp[BZ] at hp;omega
 rcases hc with hc|hc|hc|hc|hc|hc;·exact one_a _ _ _ _ _ _ _ _ _ _ _ _ h hK op n next hc
 ·exact one_b _ _ _ _ _ _ _ _ _ _ _ _ h hK op n next hc
 ·exact one_c _ _ _ _ _ _ _ _ _ _ _ _ h hK op n next hc
 ·exact one_d _ _ _ _ _ _ _ _ _ _ _ _ h hK op n next hc
 ·exact one_e _ _ _ _ _ _ _ _ _ _ _ _ h hK op n next hc
 ·exact one_f _ _ _ _ _ _ _ _ _ _ _ _ h hK op n next hc
end
end Lo
end Go.Proofs.YtdfegdoeebaagaaGreatDoor
