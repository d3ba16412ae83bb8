import Derived.Test.YtpmlgdopfafcgaaGreatDoorY14
open Go.Value renaming int→J,slice→U,bool→Ap,tuple→AD,ownBlock→Bp,agg→AA,pointer→Bi
open Option renaming some→I,none→G
open Go.IntKind renaming i64→Z,u32→V,u64→AM,u8→AC,wrap_u64→Dk,wrap_u32→DH
open Bool renaming false→Aa,true→Af,false_ne_true→Da,false_and→D7
open Go renaming World→Ac,Value→As,Calls→At,bodyPost_ret→Bf,TypeId→AK,wp_region_held_drew→BY,info_parts→BH,Ending→AT,madeCells→Cb,maxLen→Br,Program→BW,undef→Bt,wpList→BL,bits→Bb,run_underlying→CX
open List renaming getD_eq_getElem?_getD→AN,getElem?_eq_getElem→Bj,length_append→BJ,append_assoc→BM,mem_map→Bo,getElem?_take_of_lt→Cw,replicate→BK,range→Bm,getElem?_append_right→CB,getElem_mem→BU,mem_append→BZ,getElem?_append_left→CO,getElem?_map→C7,cons_append→CC,mem_filter→C8,length_pos_iff→CP,length_cons→CK,mem_cons→Cy,getLastD_eq_getLast?→Dg,nil_append→CI,getElem?_eq_none→De,dropLast_concat→Do,mem_singleton→Dv,map_append→Df,length_map→Di,getElem_of_mem→DD,length_nil→Dp,concat_eq_append→DI,getElem?_range→DL,range_succ→DB,getElem?_replicate→DW,singleton_append→DV,map_cons→D6,map_map→D8,setIfInBounds_toArray→Eb
open Go.Ending renaming returned→Ax
open And renaming intro→A9
open Nat renaming le_refl→AE,lt_of_lt_of_le→AW,le_trans→AS,zero_le→AU,zero_add→Bn,eq_zero_or_pos→Dm,reduceEqDiff→Dq
open Or renaming inl→Ag,inr→Ah
open Go.Proofs.Tryz renaming underlying41→AP,underlying31→CF,underlying22→CV,underlying215→Dl,underlying26→DN
open Go.RowKit renaming intOf→AJ
open Int renaming eq_ofNat_of_zero_le→CM,toNat_natCast→C4,emod_eq_of_lt→CZ
open Go.Builtin renaming zeroCells→CG,delete_→Eh
open Array renaming getElem?_toList→CN,getElem?_eq_some_iff→DX
open Go.Region renaming wanted→CA
open Go.Result renaming andThen→CT
open Option.some renaming inj→Ds
open Go.MapKept renaming run_getObj_map→DJ,run_setObj_map→Ef
open Go.Instr renaming makeSlice→Dj,mapUpdate→DK
open Go.IntWalk renaming i64_in→Du
open Go.Lit renaming int→C9
open Go.Sem renaming run_bind→D5
set_option linter.all false
set_option maxHeartbeats 40000000
set_option maxRecDepth 1000000
open Go Go.RowKit
namespace Go.Proofs.YtpmlgdopfafcgaaGreatDoor
namespace Lo
open Gs Sv Tr Em Ip
theorem fxV_one(l:List Nat): ∀u∈fxV l,u.oneCell'=Af:=by
 intro u hu;obtain⟨n,_,rfl⟩:=Bo.1 hu;rfl
theorem reads_fx(W:Ac)(l:List Nat)(q:Nat)(hq:l.length=q):Reads (W.alloc (.cells (fxV l).toArray 3)) (↑W+1) 1 (I ⟨↑W,0,G⟩) q (fxV l):=by
 have:=Cn (size:=1) (n:=q) (AH W 3 (fxV l).toArray) (by simp[fxV,hq]);simpa using this
section
variable (w:Ac) (base g:Nat) (C:Aw) (cc:Nat) (D:Aw) (cd:Nat) (R:Aw) (cr:Nat) (x:Lw) (ct:Int) (K:Nat)
def OneC(w W:Ac)(base:Nat)(p:Lp)(X:Lw)(ct:Int)(K:Nat):Prop:= ∃p',LwH W base p' X ct K∧Llk w W p p'
theorem one_a(h:LwH w base ⟨g,C,cc,D,cd,R,cr⟩ x ct K)(hK:K≤1000)(op n next:Int)(hc:(op=0∨op=32)∨33≤op∧op≤37):At Tryz.prog 134 #[↑g,AA #[J Z op,J V n],J V next] w (LPost w base ⟨g,C,cc,D,cd,R,cr⟩ (x.one ⟨op,n⟩ next) ct (K+12) Aa Aa (AD #[])):=by
 replace hc:=T hc;obtain⟨i0,hi0,hz0,hz1,hz2⟩:=BH infoI;have hbx:=Fd;have f0:=Fe;have h0:=h.fr0 f0;have hnl:=Ff;clear h;go_in;go_upto_region 1 with(fail);go_still_tail 7,AI;change BL _ _ _ _ _ (w.alloc (.cells #[J Z op,J V n] 26)).drew;generalize(w.alloc (.cells #[J Z op,J V n] 26)).drew=W0 at*;have hls:=Fg;have e0:=Fh;have e1:=Fi;have HP:=T (A9 h0 (Llk.from0 f0 (Llk.refl W0 ⟨g,C,cc,D,cd,R,cr⟩)));clear f0 h0 hbx hnl;go_upto_block 0 with(fail);go_cut [] (λwx=>OneC w wx base ⟨g,C,cc,D,cd,R,cr⟩ (x.one0 ⟨op,n⟩ next) ct (K+12));case rest=>
  exact Fj
 case first=>
  replace hc:=hc.out;rcases hc with hc|hj;·rcases hc with rfl|rfl<;>(go_wp2_with fail;go_meet;exact⟨_,HP.out.1.le O,HP.out.2⟩)
  obtain⟨d0,d1,d2,d3,d4,d5,d6,d7,d8,d9,d10,d11,d12,d13,d14⟩:(op==1)=Aa∧(op==2)=Aa∧(op==3)=Aa∧(op==4)=Aa∧(op==5)=Aa∧(op==6)=Aa∧(op==7)=Aa∧(op==8)=Aa∧decide (op≥16)=Af∧decide (op≤25)=Aa∧(op==38)=Aa∧(op==39)=Aa∧(op==40)=Aa∧decide (op≥33)=Af∧decide (op≤37)=Af:=A8;have y10:=HP.out.1.b.frozen 10;have c10:=HP.out.1.b.cell 10 O;have hgl:g<↑W0:=HP.out.1.b.lt;have HX:=T (HP.out.1.cell (x':={x with br:=op}) (K':=K) 10 (J Z op) (λj=>lwF10 _ j) rfl rfl rfl It)
  go_wp2
  go_meet;refine⟨_, ?_,HP.out.2.tr HX.out.2⟩;have hX:x.one0 ⟨op,n⟩ next={x with br:=op}:=by
   obtain⟨j0,j1⟩:=hj;unfold Lw.one0;dsimp only;repeat rw[Ae O]
   exact An O
  rw[hX];exact HX.out.1.le O
theorem one_b(h:LwH w base ⟨g,C,cc,D,cd,R,cr⟩ x ct K)(hK:K≤1000)(op n next:Int)(hc:op=4∨op=39∨op=40):At Tryz.prog 134 #[↑g,AA #[J Z op,J V n],J V next] w (LPost w base ⟨g,C,cc,D,cd,R,cr⟩ (x.one ⟨op,n⟩ next) ct (K+12) Aa Aa (AD #[])):=by
 replace hc:=T hc;obtain⟨i0,hi0,hz0,hz1,hz2⟩:=BH infoI;have hbx:=Fd;have f0:=Fe;have h0:=h.fr0 f0;have hnl:=Ff;clear h;go_in;go_upto_region 1 with(fail);go_still_tail 7,AI;change BL _ _ _ _ _ (w.alloc (.cells #[J Z op,J V n] 26)).drew;generalize(w.alloc (.cells #[J Z op,J V n] 26)).drew=W0 at*;have hls:=Fg;have e0:=Fh;have e1:=Fi;have HP:=T (A9 h0 (Llk.from0 f0 (Llk.refl W0 ⟨g,C,cc,D,cd,R,cr⟩)));clear f0 h0 hbx hnl;go_upto_block 0 with(fail);go_cut [] (λwx=>OneC w wx base ⟨g,C,cc,D,cd,R,cr⟩ (x.one0 ⟨op,n⟩ next) ct (K+12));case rest=>
  exact Fj
 case first=>
  replace hc:=hc.out;rcases hc with rfl|rfl|rfl;·go_wp2_with ((with_reducible refine(popD_any _ _ _ _ _ _ HP.out.1 O).mono ?_);rintro e W0 ⟨rfl,⟨g1,C,cc,D,cd,R,cr⟩,l1,h1,-,-⟩;obtain rfl:g=g1:=l1.g.symm;replace HP:=T (A9 h1 (HP.out.2.tr l1));clear l1 h1);go_meet;exact⟨_,HP.out.1.le O,HP.out.2⟩
  ·go_wp2_with (((with_reducible refine(popR_any _ _ _ _ _ _ HP.out.1 O).mono ?_);rintro e W0 ⟨rfl,⟨g1,C,cc,D,cd,R,cr⟩,l1,h1,-,-⟩;obtain rfl:g=g1:=l1.g.symm;replace HP:=T (A9 h1 (HP.out.2.tr l1));clear l1 h1);have y9:=HP.out.1.b.frozen 9;have c9:=HP.out.1.b.cell 9 O;have hgl:g<_:=HP.out.1.b.lt;have HX:=T (HP.out.1.cell (x':={x.popR with tg:=(x.topR:Int)}) (K':=K+2) 9 (J Z (x.topR:Int)) (λj=>lwF9 _ j) rfl rfl rfl It));exact Q5
  ·go_wp2_with (((with_reducible refine(popD_any _ _ _ _ _ _ HP.out.1 O).mono ?_);rintro e W0 ⟨rfl,⟨g1,C,cc,D,cd,R,cr⟩,l1,h1,-,-⟩;obtain rfl:g=g1:=l1.g.symm;replace HP:=T (A9 h1 (HP.out.2.tr l1));clear l1 h1);have y9:=HP.out.1.b.frozen 9;have c9:=HP.out.1.b.cell 9 O;have hgl:g<_:=HP.out.1.b.lt;have HX:=T (HP.out.1.cell (x':={x.popD with tg:=(x.topD:Int)}) (K':=K+2) 9 (J Z (x.topD:Int)) (λj=>lwF9 _ j) rfl rfl rfl It));exact Q5
theorem one_c(h:LwH w base ⟨g,C,cc,D,cd,R,cr⟩ x ct K)(hK:K≤1000)(op n next:Int)(hc:op=3∨op=5∨op=6):At Tryz.prog 134 #[↑g,AA #[J Z op,J V n],J V next] w (LPost w base ⟨g,C,cc,D,cd,R,cr⟩ (x.one ⟨op,n⟩ next) ct (K+12) Aa Aa (AD #[])):=by
 replace hc:=T hc;obtain⟨i0,hi0,hz0,hz1,hz2⟩:=BH infoI;have hbx:=Fd;have f0:=Fe;have h0:=h.fr0 f0;have hnl:=Ff;clear h;go_in;go_upto_region 1 with(fail);go_still_tail 7,AI;change BL _ _ _ _ _ (w.alloc (.cells #[J Z op,J V n] 26)).drew;generalize(w.alloc (.cells #[J Z op,J V n] 26)).drew=W0 at*;have hls:=Fg;have e0:=Fh;have e1:=Fi;have HP:=T (A9 h0 (Llk.from0 f0 (Llk.refl W0 ⟨g,C,cc,D,cd,R,cr⟩)));clear f0 h0 hbx hnl;go_upto_block 0 with(fail);go_cut [] (λwx=>OneC w wx base ⟨g,C,cc,D,cd,R,cr⟩ (x.one0 ⟨op,n⟩ next) ct (K+12));case rest=>
  exact Fj
 case first=>
  replace hc:=hc.out;rcases hc with rfl|rfl|rfl
  ·go_upto_region 7 with((with_reducible refine(popD_any _ _ _ _ _ _ HP.out.1 O).mono ?_);rintro e W0 ⟨rfl,⟨g1,C,cc,D,cd,R,cr⟩,l1,h1,-,-⟩;obtain rfl:g=g1:=l1.g.symm;replace HP:=T (A9 h1 (HP.out.2.tr l1));clear l1 h1);obtain⟨m,hm⟩:=Az ((x.popD).ld.length);have HM:=T hm;have hmk:=Kf;have c14:W0.cell? ⟨g,14,G⟩=I (U D m cd):=(HP.out.1.b.cell 14 O).trans (by show I (U D (x.popD).ld.length cd)=_;rw[hm]);have hgl:g<↑W0:=HP.out.1.b.lt;have hbs:=Fk;have HO:Hid ((W0.alloc (.cells (fxV [x.topD,x.topD]).toArray 3)).ownsRow base 3 1 (U D m cd) m (fxV (x.popD).ld)):=T Kg;clear hm;go_wp2_with
    (at_builtin
     refine Ce _ rfl _ _ _ rfl base 3 i0 _ 1 8 CV hi0 hz0 hz1 hz2 rfl O (U D m cd) m (fxV (x.popD).ld) rfl HO.out (W0.heap.size+1) (I ⟨W0.heap.size,0,G⟩) 2 2 (fxV [x.topD,x.topD]) rfl (reads_fx W0 [x.topD,x.topD] 2 rfl) (fxV_one _) Bu O A8 ?_
     intro v1 w1 hown hg hat
     obtain⟨A1,c1,rfl⟩:=own_form hown
     obtain⟨⟨k14,y14,hgl1⟩,hL,hK2⟩:=Gh HP.out.1 ((Ao _ W0).alloc _) [x.topD,x.topD] HM.out rfl hown hg hat (by show(2:Nat)≤3;omega)
     have HQ:=T (A9 hL (HP.out.2.tr hK2))
     clear hown hg hat hL hK2)
   exact Kh
  ·go_upto_region 13 with((with_reducible refine(popD_any _ _ _ _ _ _ HP.out.1 O).mono ?_);rintro e W0 ⟨rfl,⟨g1,C,cc,D,cd,R,cr⟩,l1,h1,-,-⟩;obtain rfl:g=g1:=l1.g.symm;replace HP:=T (A9 h1 (HP.out.2.tr l1));clear l1 h1);obtain⟨m,hm⟩:=Az ((x.popD.popD).ld.length);have HM:=T hm;have hmk:=Kf;have c14:=Q6;have hgl:g<↑W0:=HP.out.1.b.lt;have hbs:=Fk;have HO:Hid ((W0.alloc (.cells (fxV [x.topD,x.popD.topD]).toArray 3)).ownsRow base 3 1 (U D m cd) m (fxV (x.popD.popD).ld)):=T Kg;clear hm;go_wp2_with
    (at_builtin
     refine Ce _ rfl _ _ _ rfl base 3 i0 _ 1 8 CV hi0 hz0 hz1 hz2 rfl O (U D m cd) m (fxV (x.popD.popD).ld) rfl HO.out (W0.heap.size+1) (I ⟨W0.heap.size,0,G⟩) 2 2 (fxV [x.topD,x.popD.topD]) rfl (reads_fx W0 [x.topD,x.popD.topD] 2 rfl) (fxV_one _) Bu O A8 ?_
     intro v1 w1 hown hg hat
     obtain⟨A1,c1,rfl⟩:=own_form hown
     obtain⟨⟨k14,y14,hgl1⟩,hL,hK2⟩:=Gh HP.out.1 ((Ao _ W0).alloc _) [x.topD,x.popD.topD] HM.out rfl hown hg hat (by show(2:Nat)≤3;omega)
     have HQ:=T (A9 hL (HP.out.2.tr hK2))
     clear hown hg hat hL hK2)
   exact Kh
  ·go_upto_region 17 with((with_reducible refine(popD_any _ _ _ _ _ _ HP.out.1 O).mono ?_);rintro e W0 ⟨rfl,⟨g1,C,cc,D,cd,R,cr⟩,l1,h1,-,-⟩;obtain rfl:g=g1:=l1.g.symm;replace HP:=T (A9 h1 (HP.out.2.tr l1));clear l1 h1);obtain⟨m,hm⟩:=Az ((x.popD.popD).ld.length);have HM:=T hm;have hmk:=Kf;have c14:=Q6;have hgl:g<↑W0:=HP.out.1.b.lt;have hbs:=Fk;have HO:Hid ((W0.alloc (.cells (fxV [x.popD.topD,x.topD,x.popD.topD]).toArray 3)).ownsRow base 3 1 (U D m cd) m (fxV (x.popD.popD).ld)):=T Kg;clear hm;go_wp2_with
    (at_builtin
     refine Ce _ rfl _ _ _ rfl base 3 i0 _ 1 8 CV hi0 hz0 hz1 hz2 rfl O (U D m cd) m (fxV (x.popD.popD).ld) rfl HO.out (W0.heap.size+1) (I ⟨W0.heap.size,0,G⟩) 3 3 (fxV [x.popD.topD,x.topD,x.popD.topD]) rfl (reads_fx W0 [x.popD.topD,x.topD,x.popD.topD] 3 rfl) (fxV_one _) Bu O A8 ?_
     intro v1 w1 hown hg hat
     obtain⟨A1,c1,rfl⟩:=own_form hown
     obtain⟨⟨k14,y14,hgl1⟩,hL,hK2⟩:=Gh HP.out.1 ((Ao _ W0).alloc _) [x.popD.topD,x.topD,x.popD.topD] HM.out rfl hown hg hat (by show(3:Nat)≤3;omega)
     have HQ:=T (A9 hL (HP.out.2.tr hK2))
     clear hown hg hat hL hK2)
   exact Kh
theorem one_d(h:LwH w base ⟨g,C,cc,D,cd,R,cr⟩ x ct K)(hK:K≤1000)(op n next:Int)(hc:op=1∨op=2∨op=8):At Tryz.prog 134 #[↑g,AA #[J Z op,J V n],J V next] w (LPost w base ⟨g,C,cc,D,cd,R,cr⟩ (x.one ⟨op,n⟩ next) ct (K+12) Aa Aa (AD #[])):=by
 replace hc:=T hc;obtain⟨i0,hi0,hz0,hz1,hz2⟩:=BH infoI;have hbx:=Fd;have f0:=Fe;have h0:=h.fr0 f0;have hnl:=Ff;clear h;go_in;go_upto_region 1 with(fail);go_still_tail 7,AI;change BL _ _ _ _ _ (w.alloc (.cells #[J Z op,J V n] 26)).drew;generalize(w.alloc (.cells #[J Z op,J V n] 26)).drew=W0 at*;have hls:=Fg;have e0:=Fh;have e1:=Fi;have HP:=T (A9 h0 (Llk.from0 f0 (Llk.refl W0 ⟨g,C,cc,D,cd,R,cr⟩)));clear f0 h0 hbx hnl;go_upto_block 0 with(fail);go_cut [] (λwx=>OneC w wx base ⟨g,C,cc,D,cd,R,cr⟩ (x.one0 ⟨op,n⟩ next) ct (K+12));case rest=>
  exact Fj
 case first=>
  rcases hc.out with rfl|rfl|rfl;·have Hca:=T (Ke W0.drew _ _ _ _ _ (HP.out.1.fr0 (Ao _ _).drew) O n);go_upto_region 4 with fail;have hX:=T (show x.one0 ⟨1,n⟩ next=(x.add 0 0 0 n).pushD [x.code.length] from rfl);exact Q7
  ·have Hca:=T (Ke W0.drew _ _ _ _ _ (HP.out.1.fr0 (Ao _ _).drew) O n);go_upto_region 4 with fail;have hX:=T (show x.one0 ⟨2,n⟩ next=(x.add 0 0 0 n).pushD [x.code.length] from rfl);exact Q7
  ·have Hca:=T (popR_any W0.drew _ _ _ _ _ (HP.out.1.fr0 (Ao _ _).drew) O);go_upto_region 21 with fail;have hX:=T (show x.one0 ⟨8,n⟩ next=x.popR.pushD [x.topR] from rfl);have hl:x.popR.ld=x.ld:=by unfold Lw.popR;split<;>rfl
   generalize x.popR=X' at Hca hX hl;generalize x.topR=v at Hca hX;exact Q8
theorem one_e(h:LwH w base ⟨g,C,cc,D,cd,R,cr⟩ x ct K)(hK:K≤1000)(op n next:Int)(hc:16≤op∧op≤25):At Tryz.prog 134 #[↑g,AA #[J Z op,J V n],J V next] w (LPost w base ⟨g,C,cc,D,cd,R,cr⟩ (x.one ⟨op,n⟩ next) ct (K+12) Aa Aa (AD #[])):=by
 replace hc:=T hc;obtain⟨i0,hi0,hz0,hz1,hz2⟩:=BH infoI;have hbx:=Fd;have f0:=Fe;have h0:=h.fr0 f0;have hnl:=Ff;clear h;go_in;go_upto_region 1 with(fail);go_still_tail 7,AI;change BL _ _ _ _ _ (w.alloc (.cells #[J Z op,J V n] 26)).drew;generalize(w.alloc (.cells #[J Z op,J V n] 26)).drew=W0 at*;have hls:=Fg;have e0:=Fh;have e1:=Fi;have HP:=T (A9 h0 (Llk.from0 f0 (Llk.refl W0 ⟨g,C,cc,D,cd,R,cr⟩)));clear f0 h0 hbx hnl;go_upto_block 0 with(fail);go_cut [] (λwx=>OneC w wx base ⟨g,C,cc,D,cd,R,cr⟩ (x.one0 ⟨op,n⟩ next) ct (K+12));case rest=>
  exact Fj
 case first=>
  have hj:=hc.out;obtain⟨d0,d1,d2,d3,d4,d5,d6,d7,d8,d9⟩:(op==1)=Aa∧(op==2)=Aa∧(op==3)=Aa∧(op==4)=Aa∧(op==5)=Aa∧(op==6)=Aa∧(op==7)=Aa∧(op==8)=Aa∧decide (op≥16)=Af∧decide (op≤25)=Af:=A8;go_upto_region 25 with((with_reducible refine(popD_any _ _ _ _ _ _ HP.out.1 O).mono ?_);rintro e W0 ⟨rfl,⟨g1,C,cc,D,cd,R,cr⟩,l1,h1,-,-⟩;obtain rfl:g=g1:=l1.g.symm;replace HP:=T (A9 h1 (HP.out.2.tr l1));clear l1 h1);have hwo:IntKind.u32.wrap op=op:=CU;have Ha:=T (add_any W0 _ _ x.popD.popD ct (K+2+2) HP.out.1 O 4 x.popD.topD x.topD op 4 0 (x.popD.topD:Nat) (x.topD:Nat) rfl rfl rfl);go_upto_region 26 with((with_reducible refine Ay Ha ?_);rintro e Wq ⟨rfl,⟨g1,C,cc,D,cd,R,cr⟩,l1,h1,-,-⟩;obtain rfl:g=g1:=l1.g.symm;replace HP:=T (A9 h1 (HP.out.2.tr l1));have y7:=h1.b.frozen 7;have c7:=h1.b.cell 7 O;have hglq:g<↑Wq:=h1.b.lt;clear l1 h1 Ha);have hx:=HP.out.1.cell (x':={(x.popD.popD.add 4 x.popD.topD x.topD op) with fl:=(x.popD.popD.code.length:Int)}) (K':=K+2+2+1) 7 (J Z (x.popD.popD.code.length:Int)) (λj=>lwF7 _ j) rfl rfl rfl It;replace HP:=T (A9 hx.1 (HP.out.2.tr hx.2));clear hx y7 c7;generalize Wq.setCell ⟨g,7,G⟩ (J Z (x.popD.popD.code.length:Int))=W0 at*;obtain⟨X3,hX3⟩:=Az ({(x.popD.popD.add 4 x.popD.topD x.topD op) with fl:=(x.popD.popD.code.length:Int)});have HX3:=T hX3;rw[hX3] at HP;clear hX3;by_cases h25:op=25
  ·subst h25
   go_wp2
   go_meet;exact⟨_,(show x.one0 ⟨25,n⟩ next=X3 from HX3.out)▸HP.out.1.le O,HP.out.2⟩
  have h26:(op !=25)=Af:=by simpa using h25
  have Hca:=T (add_any W0.drew _ _ X3 ct (K+2+2+1) (HP.out.1.fr0 (Ao _ _).drew) O 3 x.popD.topD x.topD op 3 0 (x.popD.topD:Nat) (x.topD:Nat) rfl rfl rfl);have hX:=T (show x.one0 ⟨op,n⟩ next=(X3.add 3 x.popD.topD x.topD op).pushD [X3.code.length] by rw[←HX3.out];unfold Lw.one0;dsimp only;(repeat rw[Ae (by omega)]);rw[An (by omega)];unfold Lw.alu;rw[Ae (by omega)];simp[Lw.add,Lw.pushD]);replace h25:=T h25;go_upto_region 27 with fail;have hl:(X3.add 3 x.popD.topD x.topD op).ld=X3.ld:=rfl;generalize X3.add 3 x.popD.topD x.topD op=X' at Hca hX hl;generalize X3.code.length=v at Hca hX;exact Q8
theorem one_f(h:LwH w base ⟨g,C,cc,D,cd,R,cr⟩ x ct K)(hK:K≤1000)(op n next:Int)(hc:op=7∨op=38):At Tryz.prog 134 #[↑g,AA #[J Z op,J V n],J V next] w (LPost w base ⟨g,C,cc,D,cd,R,cr⟩ (x.one ⟨op,n⟩ next) ct (K+12) Aa Aa (AD #[])):=by
 replace hc:=T hc;obtain⟨i0,hi0,hz0,hz1,hz2⟩:=BH infoI;have hbx:=Fd;have f0:=Fe;have h0:=h.fr0 f0;have hnl:=Ff;clear h;go_in;go_upto_region 1 with(fail);go_still_tail 7,AI;change BL _ _ _ _ _ (w.alloc (.cells #[J Z op,J V n] 26)).drew;generalize(w.alloc (.cells #[J Z op,J V n] 26)).drew=W0 at*;have hls:=Fg;have e0:=Fh;have e1:=Fi;have HP:=T (A9 h0 (Llk.from0 f0 (Llk.refl W0 ⟨g,C,cc,D,cd,R,cr⟩)));clear f0 h0 hbx hnl;go_upto_block 0 with(fail);go_cut [] (λwx=>OneC w wx base ⟨g,C,cc,D,cd,R,cr⟩ (x.one0 ⟨op,n⟩ next) ct (K+12));case rest=>
  exact Fj
 case first=>
  rcases hc.out with rfl|rfl
  ·have Hca:=T (popD_any W0.drew _ _ _ _ _ (HP.out.1.fr0 (Ao _ _).drew) O);go_upto_region 19 with fail;have hX:=T (show x.one0 ⟨7,n⟩ next=x.popD.pushR x.topD from rfl);have hl:x.popD.lr=x.lr:=by unfold Lw.popD;split<;>rfl
   generalize x.popD=X' at Hca hX hl;generalize x.topD=v at Hca hX;exact Q9
  ·have Hca:=T (Ke W0.drew _ _ _ _ _ (HP.out.1.fr0 (Ao _ _).drew) O next);go_upto_region 29 with fail;have hX:=T (show x.one0 ⟨38,n⟩ next=(x.add 0 0 0 next).pushR x.code.length from rfl);have hl:(x.add 0 0 0 next).lr=x.lr:=rfl;generalize x.add 0 0 0 next=X' at Hca hX hl
   generalize x.code.length=v at Hca hX;exact Q9
theorem one_any(h:LwH w base ⟨g,C,cc,D,cd,R,cr⟩ x ct K)(hK:K≤1000)(op n next:Int)(hp:plainB op=Af):At Tryz.prog 134 #[↑g,AA #[J Z op,J V n],J V next] w (LPost w base ⟨g,C,cc,D,cd,R,cr⟩ (x.one ⟨op,n⟩ next) ct (K+12) Aa Aa (AD #[])):=by
 have hc:((op=0∨op=32)∨33≤op∧op≤37)∨(op=4∨op=39∨op=40)∨(op=3∨op=5∨op=6)∨(op=1∨op=2∨op=8)∨(16≤op∧op≤25)∨(op=7∨op=38):=by
  simp[plainB] at hp;omega
 rcases hc with hc|hc|hc|hc|hc|hc;·exact one_a _ _ _ _ _ _ _ _ _ _ _ _ h hK op n next hc
 ·exact one_b _ _ _ _ _ _ _ _ _ _ _ _ h hK op n next hc
 ·exact one_c _ _ _ _ _ _ _ _ _ _ _ _ h hK op n next hc
 ·exact one_d _ _ _ _ _ _ _ _ _ _ _ _ h hK op n next hc
 ·exact one_e _ _ _ _ _ _ _ _ _ _ _ _ h hK op n next hc
 ·exact one_f _ _ _ _ _ _ _ _ _ _ _ _ h hK op n next hc
end
end Lo
end Go.Proofs.YtpmlgdopfafcgaaGreatDoor
