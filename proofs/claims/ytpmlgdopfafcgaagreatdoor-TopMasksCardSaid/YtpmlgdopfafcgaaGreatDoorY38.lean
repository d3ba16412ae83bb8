import Derived.Test.YtpmlgdopfafcgaaGreatDoorY37
open Go.Value renaming int→J,slice→U,bool→Ap,tuple→AD,ownBlock→Bp,agg→AA,pointer→Bi
open Option renaming some→I,none→G
open Go.IntKind renaming i64→Z,u32→V,u64→AM,u8→AC,wrap_u64→Dk,wrap_u32→DH
open Bool renaming false→Aa,true→Af,false_ne_true→Da,false_and→D7
open Go renaming World→Ac,Value→As,Calls→At,bodyPost_ret→Bf,TypeId→AK,wp_region_held_drew→BY,info_parts→BH,Ending→AT,madeCells→Cb,maxLen→Br,Program→BW,undef→Bt,wpList→BL,bits→Bb,run_underlying→CX
open List renaming getD_eq_getElem?_getD→AN,getElem?_eq_getElem→Bj,length_append→BJ,append_assoc→BM,mem_map→Bo,getElem?_take_of_lt→Cw,replicate→BK,range→Bm,getElem?_append_right→CB,getElem_mem→BU,mem_append→BZ,getElem?_append_left→CO,getElem?_map→C7,cons_append→CC,mem_filter→C8,length_pos_iff→CP,length_cons→CK,mem_cons→Cy,getLastD_eq_getLast?→Dg,nil_append→CI,getElem?_eq_none→De,dropLast_concat→Do,mem_singleton→Dv,map_append→Df,length_map→Di,getElem_of_mem→DD,length_nil→Dp,concat_eq_append→DI,getElem?_range→DL,range_succ→DB,getElem?_replicate→DW,singleton_append→DV,map_cons→D6,map_map→D8,setIfInBounds_toArray→Eb
open Go.Ending renaming returned→Ax
open And renaming intro→A9
open Nat renaming le_refl→AE,lt_of_lt_of_le→AW,le_trans→AS,zero_le→AU,zero_add→Bn,eq_zero_or_pos→Dm,reduceEqDiff→Dq
open Or renaming inl→Ag,inr→Ah
open Go.Proofs.Tryz renaming underlying41→AP,underlying31→CF,underlying22→CV,underlying215→Dl,underlying26→DN
open Go.RowKit renaming intOf→AJ
open Int renaming eq_ofNat_of_zero_le→CM,toNat_natCast→C4,emod_eq_of_lt→CZ
open Go.Builtin renaming zeroCells→CG,delete_→Eh
open Array renaming getElem?_toList→CN,getElem?_eq_some_iff→DX
open Go.Region renaming wanted→CA
open Go.Result renaming andThen→CT
open Option.some renaming inj→Ds
open Go.MapKept renaming run_getObj_map→DJ,run_setObj_map→Ef
open Go.Instr renaming makeSlice→Dj,mapUpdate→DK
open Go.IntWalk renaming i64_in→Du
open Go.Lit renaming int→C9
open Go.Sem renaming run_bind→D5
set_option linter.all false
set_option maxHeartbeats 40000000
set_option maxRecDepth 1000000
open Go Go.RowKit
namespace Go.Proofs.YtpmlgdopfafcgaaGreatDoor
namespace Bl
open Fm Nt Rm By Wk Gs Bs Mu Sv Gm Gc Rn Eg
def ERun(w:Ac)(P:AG)(a:Ab)(A:Au)(s:St)(g:Mc)(n:Int)(ge:Nat)(e:Eo)(ed:AT)(w':Ac):Prop:=
 ∃X c Y d e' j,ed=Ax (AA (stc (blkN j s g).s (U X (blkN j s g).s.d.length c) (U Y (blkN j s g).s.r.length d)))∧Sx w w' P Aj a A (blkN j s g).s (blkN j s g).g X Y c d ge e e' j∧RunTo n s g j
theorem Wa(j:Nat)(s:St)(g:Mc):blkN (j+1) s g=blockR (blkN j s g).s (blkN j s g).g:=rfl
theorem erun_any(w:Ac)(s:St)(A0:Aw)(c0:Nat)(B0:Aw)(d0:Nat)(P:AG)(a:Ab)(A:Au)(g:Mc)(ge:Nat)(e:Eo)(hS:StV w 0 s (U A0 s.d.length c0) (U B0 s.r.length d0))(hp: ∀k,ab A0=I k∨ab B0=I k→P k)(hne: ∀k,ab A0=I k→ab B0≠I k)(hM:Mch w P a A g)(hk:Rk s)(hE:En w ge e)(hown: ∀k,e.own ge k→P k∧k≠0)(n:Int)(n0: -1000≤n)(n1:n≤1000)(hct:s.ct≤1000000000)(ho:g.b.outs.length≤900000)(hfl:e.s.fl≤900000)(hok: ∀k,(∀i,i≤k→goB s.ct n (blkN i s g).s=Af)→okB (blkN k s g).s (blkN k s g).g):At Tryz.prog 24 #[↑ge,AA (stc s (U A0 s.d.length c0) (U B0 s.r.length d0)),↑A.gU,↑a.gB,J Z n] w (ERun w P a A s g n ge e):=by
 obtain⟨b6,b10,f0⟩:=boxed2 w (stc s (U A0 s.d.length c0) (U B0 s.r.length d0)) z16 41 41;have l0:=(Sx.start hS hp hne hM hE hown).more f0 (L':=λk=>k=w.heap.size∨k=w.heap.size+1) (λk q=>by
  right;simp;omega)
 generalize hW0:(w.alloc (.cells (stc s (U A0 s.d.length c0) (U B0 s.r.length d0)) 41)).alloc (.cells z16 41)=W0 at*;have L0:=T l0;have B6:=T b6;have B10:=T b10;have HW:=T hW0;have HK:=T hk;have HOK:=T hok;have HO:=T (A9 ho (A9 hfl (A9 hct (A9 n0 n1))));have Hcp:=T (copy_any W0 0 s _ _ l0.st KI KJ);clear hS hp hne hM l0 f0 b6 b10 hW0 hk ho hE hown hfl hct hok;go_in;go_upto_region 1 with(fail);rw[HW.out];have b6:=B6.out;go_wp2_with ((with_reducible refine wpL_lq b6 AP sz16 ?_));refine Ay Hcp ?_;rintro e1 w1 ⟨A1,c1,B1,d1,rfl,h1,ne1,f1⟩;have L1:=T (L0.out.give h1 (λk e1 e2=>ne1 k (ab_own h1.d e1) (ab_own h1.r e2)) f1);have B101:=T (B10.out.fr f1 id);have b61:=b6.fr f1 id;have o1:=one16 s (U A1 s.d.length c1) (U B1 s.r.length d1) rfl rfl;clear b6 B6 L0 h1 ne1 f1 Hcp B10;go_upto_region 2 with(((with_reducible refine wpL_sq (cs':=stc s (U A1 s.d.length c1) (U B1 s.r.length d1)) b61 sz16 o1 ?_);intro W2 b2 f2;have HB2:=T b2;have HF2:=T f2;clear b2 f2 o1));have L2:=T (L1.out.wrote (.inl rfl) ⟨λe=>AZ L1.out.st.d b61 Ak (ab_own L1.out.st.d e),λe=>AZ L1.out.st.r b61 Ak (ab_own L1.out.st.r e)⟩ (own_kind L1.out.en b61 othS Ak) HF2.out);have B102:=T (B101.out.fr HF2.out EM);have Hr:=T (λW=>right_any W s A1 B1 c1 d1);rw[HK.out.right] at Hr;have b2:=HB2.out;clear L1 B101 b61 HF2;go_upto_region 4 with(first
  |((with_reducible refine wpL_lq b2 AP sz16 ?_))
  |((with_reducible refine(Hr.out _).mono ?_);rintro e w3 ⟨rfl,f3⟩;have L3:=T (L2.out.fr0 f3);have B103:=T (B102.out.fr f3 id);have B63:=T (HB2.out.fr f3 id);clear f3))
 have k14:w3.cell? ⟨↑w,14,G⟩=I (J AM s.ct):=B63.out.cell 14;have kl:=B63.out.lt;go_upto_region 5 with(fail);have HBO:=T (λj (h:(blkN j s g).s.ha=Aa) (hk:Rk (blkN j s g).s) (hU:(blkN j s g).g.u.Ok)=>block_outs (blkN j s g).s (blkN j s g).g hk hU h);clear k14 kl L2 B102 HB2 Hr b2 HW;go_loopg [48] 2000 (λk v wr=> ∃(j:Nat) (X:Aw) (c:Nat) (Y:Aw) (d:Nat) (e':Eo),Hid (∀i,i<j→goB s.ct n (blkN i s g).s=Af)∧Hid (∀i,i≤j→Rk (blkN i s g).s)∧Hid ((k:Int)=2000 -((blkN j s g).s.ct -s.ct))∧Hid ((blkN j s g).g.b.outs.length≤g.b.outs.length+8*j)∧
  Hid (Sx w wr P (λk=>k=w.heap.size∨k=w.heap.size+1) a A (blkN j s g).s (blkN j s g).g X Y c d ge e e' j)∧Hid (Blk wr ↑w 41 (stc (blkN j s g).s (U X (blkN j s g).s.d.length c) (U Y (blkN j s g).s.r.length d)))∧Hid (Blk wr (↑w+1) 41 z16))
 case atStart=>exact⟨0,A1,c1,B1,d1,e,T (λi hi=>absurd hi O),T (λi hi=>by
  obtain rfl:i=0:=O;exact HK.out),T (by show((2000:Nat):Int)=2000 -(s.ct -s.ct);omega),T (AE _),L3,B63,B103⟩
 case round=>
  obtain⟨j,X,c,Y,d,e',hgo,hrk,hk,hou,hL,hB,hB2⟩:=hrel;obtain⟨q,hq⟩:=Az (blkN j s g);have HQ:=T hq;have hBO:=T (HBO.out j);have hct:=T (blkN_ct hgo.out hrk.out HO.out.2.2.1 (by have:=HO.out.2.2.2.2;omega) j (AE _));have hRj:=T (hrk.out j (AE _));rw[hq] at hk hou hL hB hBO hct hRj;clear hq;obtain⟨s',g'⟩:=q;dsimp only at hk hou hL hB hBO hct hRj;have k14:wr.cell? ⟨↑w,14,G⟩=I (J AM s'.ct):=hB.out.cell 14;have k15:wr.cell? ⟨↑w,15,G⟩=I (Ap s'.ha):=hB.out.cell 15;have kl:=hB.out.lt;have hO:=HO.out;have hc1:=hct.out;have hs0:0≤s.ct:=HK.out.1.ct.1;obtain⟨D,hD⟩:=Az (s'.ct -s.ct);rw[hD] at hc1;have hD0:0≤D:=O;have hD1:D≤5000:=by
   by_cases q:0<j;·have:=hc1.2.2 q;omega
   ·omega
  have hwa:IntKind.u64.wrap (s'.ct -s.ct)=D:=by rw[hD,Dk];omega
  have HD:=T hD;have HGB:Hid (goB s.ct n s'=(decide (n>0)&& !s'.ha&&decide (D<n))):=T (by unfold goB;rw[hD,CZ hD0 (by omega)]);obtain⟨ha,hha⟩: ∃ha,s'.ha=ha:=⟨_,rfl⟩;rw[hha] at k15 HGB;have HHA:=T hha;clear hO hc1 hs0 hD hha;go_upto_region 5 with(fail);have hwb:0<n→IntKind.u64.wrap n=n:=λh=>FY;go_cut [43] (λv wx=> ∃bb,v=Ap bb∧Hid ((decide (n>0)&& !ha&&decide (D<n))=bb)∧wx=wr);case first=>
   by_cases h1:0<n
   ·have g1:decide (n>0)=Af:=Cp;have g2:=hwb h1;obtain⟨b3,g3⟩:=Az (decide (D<n));have G1:=T g1;have G3:=T g3;clear hwb h1
    cases ha
    ·go_wp2
     go_meet;refine⟨_,rfl,T ?_,rfl⟩;rw[G1.out,G3.out];rfl
    ·exact Tq
   ·have g1:decide (n>0)=Aa:=Cp;have G1:=T g1;clear hwb h1;exact Tq
  case rest=>
   obtain⟨bb,rfl,hbb,rfl⟩:=hcut;obtain⟨wr,rfl⟩: ∃y,y=wc:=⟨_,rfl⟩;have HG:Hid (goB s.ct n s'=bb):=T (by rw[HGB.out,hbb.out]);clear k14 k15 kl hwa hwb hbb HGB
   cases bb
   ·have bs:=hB.out;have bt:=hB2.out;have o6:=one16 s' (U X s'.d.length c) (U Y s'.r.length d) rfl rfl;go_wp2_with (first
     |((with_reducible refine wpL_lq bs AP sz16 ?_))
     |((with_reducible refine wpL_sq (cs':=stc s' (U X s'.d.length c) (U Y s'.r.length d)) bt sz16 o6 ?_);intro W7 b7 f7;have HB7:=T b7;have HF7:=T f7;clear b7 f7 bt bs o6))
    refine Bf (CJ rfl _ _ (w.heap.size+1) 41 _ _ rfl HB7.out AP rfl sz16) rfl ?_;have hS:=hL.out.st;have hx:=(hL.out.wrote (Ah rfl) ⟨λe=>AZ hS.d hB2.out Ak (ab_own hS.d e),λe=>AZ hS.r hB2.out Ak (ab_own hS.r e)⟩ (own_kind hL.out.en hB2.out othS Ak) HF7.out).none;unfold ERun;refine⟨X,c,Y,d,e',j, ?_, ?_,hgo.out, ?_,hrk.out⟩;·rw[HQ.out]
    ·rw[HQ.out];exact hx
    ·rw[HQ.out];exact HG.out
   ·have hgb:=goB_ha HG.out;have HB0:Hid (okB s' g'):=T (by
     have:=HOK.out j (λi hi=>by
      rcases Nat.lt_or_ge i j with h1|h1;·exact hgo.out i h1
      ·obtain rfl:i=j:=O;rw[HQ.out];exact HG.out)
     rw[HQ.out] at this;exact this)
    obtain⟨P7,np7,M7,ow7,up7⟩:=hL.out.tr;have hDl:D<n:=by
     have:=hgb.2.2;rw[HD.out] at this;omega
    have hcc:=hct.out;rw[HD.out] at hcc;have hO:=HO.out;have hfl:=hL.out.fl;have hou':=hou.out;have Hd:=T (edo_any wr s' X c Y d P7 a A g' ge e' hL.out.st (λk q=>np7 k (.inr q)) hL.out.ne M7 hRj.out hL.out.en ow7 hgb.2.1 O O HB0.out);have hbo:=hBO.out hgb.2.1 hRj.out M7.ok;have hbk:=Sf s' g' hRj.out.right hgb.2.1 hRj.out.1.ct.1 (by have:=HD.out;omega);obtain⟨r,hr⟩:=Az (blockR s' g');rw[hr] at Hd hbo hbk;have HN:Hid (blkN (j+1) s g=r):=T (by rw[Wa,HQ.out];exact hr);have HX:=T (A9 hbo (A9 hbk (A9 hDl hcc)));have B7:Hid (∀w',Fr (λk=> ¬P7 k∨e'.own ge k) wr w'→Blk w' ↑w 41 (stc s' (U X s'.d.length c) (U Y s'.r.length d))∧Blk w' (↑w+1) 41 z16):=T (λw' f=>⟨hB.out.fr f (λr=>r.elim (λr=>r (np7 _ (Ag (.inl rfl)))) (own_kind hL.out.en hB.out othS Ak)),hB2.out.fr f (λr=>r.elim (λr=>r (np7 _ (Ag (.inr rfl)))) (own_kind hL.out.en hB2.out othS Ak))⟩);have b6:=hB.out;clear hgb hDl hcc hfl hou' hbo hbk hr hO;go_upto_region 6 with(fail);go_wp2_with ((with_reducible refine wpL_lq b6 AP sz16 ?_));refine Ay Hd ?_;rintro e7 w7 ⟨X2,c2,Y2,d2,e2,rfl,hsx,hk2⟩;obtain⟨b7,bt7⟩:=B7.out w7 hsx.f;have L7:=T (up7 hsx);have HBT:=T bt7;have HB7':=T b7;have HK2:=T hk2;have o7:=one16 r.s (U X2 r.s.d.length c2) (U Y2 r.s.r.length d2) rfl rfl;clear hsx bt7 hk2 B7 Hd b6 up7 ow7 M7 np7;go_wp2_with (((with_reducible refine wpL_sq (cs':=stc r.s (U X2 r.s.d.length c2) (U Y2 r.s.r.length d2)) b7 sz16 o7 ?_);intro W8 b8 f8;have HB8:=T b8;have HF8:=T f8;clear b8 f8 b7 o7));obtain⟨hbo,⟨jj,j1,j8,hjj⟩,hDl,hcc⟩:=HX.out;have hD:=HD.out;have hkk:=hk.out;have hO:=HO.out;have hou':=hou.out
    go_roundg (2000 -(r.s.ct -s.ct)).toNat
    case measure=>omega
    case rel=>
     refine⟨j+1,X2,c2,Y2,d2,e2,T (λi hi=>?_),T (λi hi=>?_),T ?_,T ?_,T ?_,T ?_, ?_⟩
     ·by_cases q:i<j;·exact hgo.out i q
      ·obtain rfl:i=j:=O;rw[HQ.out];exact HG.out
     ·by_cases q:i≤j;·exact hrk.out i q
      ·obtain rfl:i=j+1:=O;rw[HN.out];exact HK2.out
     ·rw[HN.out];omega
     ·rw[HN.out];omega
     ·rw[HN.out];have hS:=L7.out.st;exact L7.out.wrote (Ag rfl) ⟨λe=>AZ hS.d HB7'.out Ak (ab_own hS.d e),λe=>AZ hS.r HB7'.out Ak (ab_own hS.r e)⟩ (own_kind L7.out.en HB7'.out othS Ak) HF8.out
     ·rw[HN.out];exact HB8.out
     ·exact T (HBT.out.fr HF8.out EM)
end Bl
end Go.Proofs.YtpmlgdopfafcgaaGreatDoor
