import Derived.Test.YtdfegdoeebaagaaGreatDoorX38
open Go.Value renaming slice→Z,int→J,bool→Ap,agg→A9
open Option renaming some→I,none→G
open Go.IntKind renaming i64→U,u64→AP,wrap_u64→Gg
open Go renaming World→Aa,Calls→At,bodyPost_ret→Bt,Ending→AY
open Bool renaming false→Ac,true→Ag
open Go.Ending renaming returned→Ax
open And renaming intro→Ay
open Nat renaming le_refl→AD,lt_or_ge→DG
open Or renaming inl→Af,inr→Ah
open Go.Proofs.Tryz renaming underlying39→AQ
set_option linter.all false
set_option maxHeartbeats 40000000
set_option maxRecDepth 1000000
open Go Go.RowKit
namespace Go.Proofs.YtdfegdoeebaagaaGreatDoor
namespace Bl
open Fm Nt Rm By Wk Gs Bs Mu Sv Gm Gc Rn Eg
def ERun(w:Aa)(P:AE)(a:Ab)(A:Au)(s:St)(g:Mc)(n:Int)(ge:Nat)(e:Eo)(ed:AY)(w':Aa):Prop:=
 ∃X c Y d e' j,ed=Ax (A9 (stc (AH j s g).s (Z X (AH j s g).s.d.length c) (Z Y (AH j s g).s.r.length d)))∧Sx w w' P Aj a A (AH j s g).s (AH j s g).g X Y c d ge e e' j∧RunTo n s g j
theorem pT(j:Nat)(s:St)(g:Mc):AH (j+1) s g=Cx (AH j s g).s (AH j s g).g:=rfl
theorem erun_any(w:Aa)(s:St)(A0:Aw)(c0:Nat)(B0:Aw)(d0:Nat)(P:AE)(a:Ab)(A:Au)(g:Mc)(ge:Nat)(e:Eo)(hS:StV w 0 s (Z A0 s.d.length c0) (Z B0 s.r.length d0))(hp: ∀k,ab A0=I k∨ab B0=I k→P k)(hne: ∀k,ab A0=I k→ab B0≠I k)(hM:Mch w P a A g)(hk:Rk s)(hE:En w ge e)(hown: ∀k,e.own ge k→P k∧k≠0)(n:Int)(n0: -1000≤n)(n1:n≤1000)(hct:s.ct≤1000000000)(ho:g.b.outs.length≤900000)(hfl:e.s.fl≤900000)(hok: ∀k,(∀i,i≤k→goB s.ct n (AH i s g).s=Ag)→okB (AH k s g).s (AH k s g).g):At Tryz.prog 36 #[↑ge,A9 (stc s (Z A0 s.d.length c0) (Z B0 s.r.length d0)),↑A.gU,↑a.gB,J U n] w (ERun w P a A s g n ge e):=by
 obtain⟨b6,b10,f0⟩:=Ds w (stc s (Z A0 s.d.length c0) (Z B0 s.r.length d0)) z16 39 39;have l0:=(Sx.start hS hp hne hM hE hown).more f0 (L':=λk=>k=w.heap.size∨k=w.heap.size+1) (λk q=>by
  right;simp;omega)
 generalize hW0:(w.alloc (.cells (stc s (Z A0 s.d.length c0) (Z B0 s.r.length d0)) 39)).alloc (.cells z16 39)=W0 at*;have L0:=T l0;have B6:=T b6;have B10:=T b10;have HW:=T hW0;have HK:=T hk;have HOK:=T hok;have HO:=T (Ay ho (Ay hfl (Ay hct (Ay n0 n1))));have Hcp:=T (Gr W0 0 s _ _ l0.st Lq Ls);clear hS hp hne hM l0 f0 b6 b10 hW0 hk ho hE hown hfl hct hok;go_in;go_upto_region 1 with(fail);rw[HW.out];have b6:=B6.out;go_wp2_with ((with_reducible refine wpL_lq b6 AQ AJ ?_));refine Az Hcp ?_;rintro e1 w1 ⟨A1,c1,B1,d1,rfl,h1,ne1,f1⟩;have L1:=T (L0.out.give h1 (λk e1 e2=>ne1 k (ab_own h1.d e1) (ab_own h1.r e2)) f1);have B101:=T (B10.out.fr f1 id);have b61:=b6.fr f1 id;have o1:=Ce s (Z A1 s.d.length c1) (Z B1 s.r.length d1) rfl rfl;clear b6 B6 L0 h1 ne1 f1 Hcp B10;go_upto_region 2 with(((with_reducible refine BL (cs':=stc s (Z A1 s.d.length c1) (Z B1 s.r.length d1)) b61 AJ o1 ?_);intro W2 b2 f2;have HB2:=T b2;have HF2:=T f2;clear b2 f2 o1));have L2:=T (L1.out.wrote (.inl rfl) ⟨λe=>AZ L1.out.st.d b61 Ak (ab_own L1.out.st.d e),λe=>AZ L1.out.st.r b61 Ak (ab_own L1.out.st.r e)⟩ (EO L1.out.en b61 CC Ak) HF2.out);have B102:=T (B101.out.fr HF2.out IT);have Hr:=T (λW=>right_any W s A1 B1 c1 d1);rw[HK.out.right] at Hr;have b2:=HB2.out;clear L1 B101 b61 HF2;go_upto_region 4 with(first
  |((with_reducible refine wpL_lq b2 AQ AJ ?_))
  |((with_reducible refine(Hr.out _).mono ?_);rintro e w3 ⟨rfl,f3⟩;have L3:=T (L2.out.fr0 f3);have B103:=T (B102.out.fr f3 id);have B63:=T (HB2.out.fr f3 id);clear f3))
 have k14:=iL;have kl:=B63.out.lt;go_upto_region 5 with(fail);have HBO:=T (λj (h:(AH j s g).s.ha=Ac) (hk:Rk (AH j s g).s) (hU:(AH j s g).g.u.Ok)=>block_outs (AH j s g).s (AH j s g).g hk hU h);clear k14 kl L2 B102 HB2 Hr b2 HW;go_loopg [48] 2000 (λk v wr=> ∃(j:Nat) (X:Aw) (c:Nat) (Y:Aw) (d:Nat) (e':Eo),Hid (∀i,i<j→goB s.ct n (AH i s g).s=Ag)∧Hid (∀i,i≤j→Rk (AH i s g).s)∧Hid ((k:Int)=2000 -((AH j s g).s.ct -s.ct))∧Hid ((AH j s g).g.b.outs.length≤g.b.outs.length+8*j)∧
  Hid (Sx w wr P (λk=>k=w.heap.size∨k=w.heap.size+1) a A (AH j s g).s (AH j s g).g X Y c d ge e e' j)∧Hid (Blk wr ↑w 39 (stc (AH j s g).s (Z X (AH j s g).s.d.length c) (Z Y (AH j s g).s.r.length d)))∧Hid (Blk wr (↑w+1) 39 z16))
 case atStart=>exact⟨0,A1,c1,B1,d1,e,T (λi hi=>absurd hi O),T (λi hi=>by
  obtain rfl:i=0:=O;exact HK.out),T iM,T (AD _),L3,B63,B103⟩
 case round=>
  obtain⟨j,X,c,Y,d,e',hgo,hrk,hk,hou,hL,hB,hB2⟩:=hrel;obtain⟨q,hq⟩:=A8 (AH j s g);have HQ:=T hq;have hBO:=T (HBO.out j);have hct:=T (Ko hgo.out hrk.out HO.out.2.2.1 (by have:=HO.out.2.2.2.2;omega) j (AD _));have hRj:=T (hrk.out j (AD _));rw[hq] at hk hou hL hB hBO hct hRj;clear hq;obtain⟨s',g'⟩:=q;dsimp only at hk hou hL hB hBO hct hRj;have k14:=iN;have k15:=iO;have kl:=hB.out.lt;have hO:=HO.out;have hc1:=hct.out;have hs0:0≤s.ct:=HK.out.1.ct.1;obtain⟨D,hD⟩:=A8 (s'.ct -s.ct);rw[hD] at hc1;have hD0:0≤D:=O;have hD1:D≤5000:=iP;have hwa:=iQ;have HD:=T hD;have HGB:=iR;obtain⟨ha,hha⟩: ∃ha,s'.ha=ha:=⟨_,rfl⟩;rw[hha] at k15 HGB;have HHA:=T hha;clear hO hc1 hs0 hD hha;go_upto_region 5 with(fail);have hwb:=iS;go_cut [43] (λv wx=> ∃bb,v=Ap bb∧Hid ((decide (n>0)&& !ha&&decide (D<n))=bb)∧wx=wr);case first=>
   exact iT
  case rest=>
   obtain⟨bb,rfl,hbb,rfl⟩:=hcut;obtain⟨wr,rfl⟩: ∃y,y=wc:=⟨_,rfl⟩;have HG:=iU;clear k14 k15 kl hwa hwb hbb HGB
   cases bb
   ·have bs:=hB.out;have bt:=hB2.out;have o6:=Ce s' (Z X s'.d.length c) (Z Y s'.r.length d) rfl rfl;go_wp2_with (first
     |((with_reducible refine wpL_lq bs AQ AJ ?_))
     |((with_reducible refine BL (cs':=stc s' (Z X s'.d.length c) (Z Y s'.r.length d)) bt AJ o6 ?_);intro W7 b7 f7;have HB7:=T b7;have HF7:=T f7;clear b7 f7 bt bs o6))
    refine Bt (CV rfl _ _ (w.heap.size+1) 39 _ _ rfl HB7.out AQ rfl AJ) rfl ?_;have hS:=hL.out.st;have hx:=(hL.out.wrote (Ah rfl) ⟨λe=>AZ hS.d hB2.out Ak (ab_own hS.d e),λe=>AZ hS.r hB2.out Ak (ab_own hS.r e)⟩ (EO hL.out.en hB2.out CC Ak) HF7.out).none;unfold ERun;refine⟨X,c,Y,d,e',j, ?_, ?_,hgo.out, ?_,hrk.out⟩;·rw[HQ.out]
    ·rw[HQ.out];exact hx
    ·rw[HQ.out];exact HG.out
   ·have hgb:=MR HG.out;have HB0:Hid (okB s' g'):=T (by
     have:=HOK.out j (λi hi=>by
      rcases DG i j with h1|h1;·exact hgo.out i h1
      ·obtain rfl:i=j:=O;rw[HQ.out];exact HG.out)
     rw[HQ.out] at this;exact this)
    obtain⟨P7,np7,M7,ow7,up7⟩:=hL.out.tr;have hDl:D<n:=by
     have:=hgb.2.2;rw[HD.out] at this;omega
    have hcc:=hct.out;rw[HD.out] at hcc;have hO:=HO.out;have hfl:=hL.out.fl;have hou':=hou.out;have Hd:=T (edo_any wr s' X c Y d P7 a A g' ge e' hL.out.st (λk q=>np7 k (.inr q)) hL.out.ne M7 hRj.out hL.out.en ow7 hgb.2.1 O O HB0.out);have hbo:=hBO.out hgb.2.1 hRj.out M7.ok;have hbk:=S7 s' g' hRj.out.right hgb.2.1 hRj.out.1.ct.1 (by have:=HD.out;omega);obtain⟨r,hr⟩:=A8 (Cx s' g');rw[hr] at Hd hbo hbk;have HN:Hid (AH (j+1) s g=r):=T (by rw[pT,HQ.out];exact hr);have HX:=T (Ay hbo (Ay hbk (Ay hDl hcc)));have B7:Hid (∀w',Fr (λk=> ¬P7 k∨e'.own ge k) wr w'→Blk w' ↑w 39 (stc s' (Z X s'.d.length c) (Z Y s'.r.length d))∧Blk w' (↑w+1) 39 z16):=T (λw' f=>⟨hB.out.fr f (λr=>r.elim (λr=>r (np7 _ (Af (.inl rfl)))) (EO hL.out.en hB.out CC Ak)),hB2.out.fr f (λr=>r.elim (λr=>r (np7 _ (Af (.inr rfl)))) (EO hL.out.en hB2.out CC Ak))⟩);have b6:=hB.out;clear hgb hDl hcc hfl hou' hbo hbk hr hO;go_upto_region 6 with(fail);go_wp2_with ((with_reducible refine wpL_lq b6 AQ AJ ?_));refine Az Hd ?_;rintro e7 w7 ⟨X2,c2,Y2,d2,e2,rfl,hsx,hk2⟩;obtain⟨b7,bt7⟩:=B7.out w7 hsx.f;have L7:=T (up7 hsx);have HBT:=T bt7;have HB7':=T b7;have HK2:=T hk2;have o7:=Ce r.s (Z X2 r.s.d.length c2) (Z Y2 r.s.r.length d2) rfl rfl;clear hsx bt7 hk2 B7 Hd b6 up7 ow7 M7 np7;go_wp2_with (((with_reducible refine BL (cs':=stc r.s (Z X2 r.s.d.length c2) (Z Y2 r.s.r.length d2)) b7 AJ o7 ?_);intro W8 b8 f8;have HB8:=T b8;have HF8:=T f8;clear b8 f8 b7 o7));obtain⟨hbo,⟨jj,j1,j8,hjj⟩,hDl,hcc⟩:=HX.out;have hD:=HD.out;have hkk:=hk.out;have hO:=HO.out;have hou':=hou.out
    go_roundg (2000 -(r.s.ct -s.ct)).toNat
    case measure=>omega
    case rel=>
     refine⟨j+1,X2,c2,Y2,d2,e2,T (λi hi=>?_),T (λi hi=>?_),T ?_,T ?_,T ?_,T ?_, ?_⟩;·exact iV
     ·exact iW
     ·rw[HN.out];omega
     ·rw[HN.out];omega
     ·rw[HN.out];have hS:=L7.out.st;exact L7.out.wrote (Af rfl) ⟨λe=>AZ hS.d HB7'.out Ak (ab_own hS.d e),λe=>AZ hS.r HB7'.out Ak (ab_own hS.r e)⟩ (EO L7.out.en HB7'.out CC Ak) HF8.out
     ·rw[HN.out];exact HB8.out
     ·exact iX
end Bl
end Go.Proofs.YtdfegdoeebaagaaGreatDoor
