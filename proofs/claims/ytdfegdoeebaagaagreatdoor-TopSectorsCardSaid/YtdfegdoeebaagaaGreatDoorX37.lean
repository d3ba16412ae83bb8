import Derived.Test.YtdfegdoeebaagaaGreatDoorX33
import Derived.Test.YtdfegdoeebaagaaGreatDoorX34
open Go.Value renaming slice→Z,int→J,bool→Ap,tuple→AF,agg→A9,oneCell'→Ir
open Option renaming some→I,none→G
open Go.IntKind renaming i64→U,u32→V,wrap_u32→Gu
open Go renaming World→Aa,Calls→At,bodyPost_ret→Bt,Ending→AY
open Bool renaming true→Ag
open List renaming getD_eq_getElem?_getD→AS,getElem?_eq_getElem→BK,getElem_of_mem→GC
open Go.Ending renaming returned→Ax
open And renaming intro→Ay
open Nat renaming le_refl→AD,le_trans→Bf,zero_le→Bj
open Or renaming inl→Af,inr→Ah
open Go.Proofs.Tryz renaming underlying39→AQ
open Go.RowKit renaming intOf→AM
set_option linter.all false
set_option maxHeartbeats 40000000
set_option maxRecDepth 1000000
open Go Go.RowKit
namespace Go.Proofs.YtdfegdoeebaagaaGreatDoor
namespace Bl
open Fm Nt Rm By Wk Gs Bs Mu Sv Gm Gc Rn Eg
def ERest(w:Aa)(P:AE)(a:Ab)(A:Au)(ge:Nat)(e:Eo)(D:Nat)(r:Sg)(ed:AY)(w':Aa):Prop:=
 ∃X c Y d e',ed=Ax (A9 (stc r.s (Z X r.s.d.length c) (Z Y r.s.r.length d)))∧Sx w w' P Aj a A r.s r.g X Y c d ge e e' D∧Rk r.s
theorem pS(w:Aa)(s:St)(A0:Aw)(c0:Nat)(B0:Aw)(d0:Nat)(P:AE)(a:Ab)(A:Au)(g:Mc)(ge:Nat)(e:Eo)(hS:StV w 0 s (Z A0 s.d.length c0) (Z B0 s.r.length d0))(hp: ∀k,ab A0=I k∨ab B0=I k→P k)(hne: ∀k,ab A0=I k→ab B0≠I k)(hM:Mch w P a A g)(hk:Rk s)(hE:En w ge e)(hown: ∀k,e.own ge k→P k∧k≠0)(p:Int)(p0:0≤p)(p1:p≤4294967295)(m:Nat)(m8:m≤8)(ho:g.b.outs.length≤999990)(hok:okR s p (p/64) g m):At Tryz.prog 78 #[↑ge,A9 (stc s (Z A0 s.d.length c0) (Z B0 s.r.length d0)),J V p,J U m,↑A.gU,↑a.gB] w (ERest w P a A ge e 0 (Cg s p (p/64) g m)):=by
 obtain⟨b5,b10,f0⟩:=Ds w (stc s (Z A0 s.d.length c0) (Z B0 s.r.length d0)) z16 39 39;have l0:=(Sx.start hS hp hne hM hE hown).more f0 (L':=λk=>k=w.heap.size∨k=w.heap.size+1) (λk q=>by
  right;simp;omega)
 generalize hW0:(w.alloc (.cells (stc s (Z A0 s.d.length c0) (Z B0 s.r.length d0)) 39)).alloc (.cells z16 39)=W0 at*;have L0:=T l0;have HOK:=T hok;have B5:=T b5;have B10:=T b10;have HW:=T hW0;have HK:=T hk;have HO:=T ho;clear hok;clear hS hp hne hM l0 f0 b5 b10 hW0 hk ho hE hown;go_in;go_upto_region 1 with(fail);rw[HW.out];go_wp2_with fail;go_loopw [23,2] (λiv pv wr=> ∃(k:Nat) (s':St) (p':Int) (g':Mc) (X:Aw) (c:Nat) (Y:Aw) (d:Nat) (e':Eo),k≤m∧iv=J U k∧pv=J V p'∧0≤p'∧p'≤4294967295∧Hid (Cg s p (p/64) g m=Cg s' p' (p/64) g' (m -k)∧okR s' p' (p/64) g' (m -k))∧Hid (Sx w wr P (λk=>k=w.heap.size∨k=w.heap.size+1) a A s' g' X Y c d ge e e' 0)∧
  Hid (Rk s'∧g'.b.outs.length≤g.b.outs.length+k)∧Hid (Blk wr (↑w+1) 39 z16)∧Hid (Blk wr ↑w 39 (stc s' (Z X s'.d.length c) (Z Y s'.r.length d)))) (λi _ _=>m -(AM i).toNat)
 case atStart=>exact⟨0,s,p,g,A0,c0,B0,d0,e,Bj _,rfl,rfl,p0,p1,T ⟨rfl,HOK.out⟩,L0,T ⟨HK.out,AD _⟩,B10,B5⟩
 case round=>
  obtain⟨k,s',p',g',X,c,Y,d,e',hkm,rfl,rfl,q0,q1,hR,hL,hK,hB,hG⟩:=hrel;by_cases hlt:k<m
  ·have c5:=hL.out.en.b.cell 5;have y5:=hL.out.en.b.frozen 5;have cl:=hL.out.en.b.lt;go_upto_region 5 with(fail);obtain⟨sv,hsv⟩:=A8 (wrap64 (e'.sl+1));rw[hsv];have fs:Fr (λq=>q=ge) wr (wr.setCell ⟨ge,5,G⟩ (J U sv)):=(Ao (λq=>q=ge) wr).setCell (p:=⟨ge,5,G⟩) (Af rfl) _;have ek:=En.self (e2:={e' with sl:=sv}) hL.out.en rfl rfl rfl rfl hL.out.en.la (hL.out.en.b.set_ 5 _) fs;have La:=T (hL.out.eng ek);have Ba:=T (ek.blk hB.out CC);have Ga:=T (ek.blk hG.out CC);generalize wr.setCell ⟨ge,5,G⟩ (J U sv)=wa at*;clear c5 y5 cl fs ek hsv;obtain⟨P1,M1,np1,_,_⟩:=La.out.call;have Hf:=T (cN wa P1 a A g' M1 p' q0 q1);have HFB:=T (λi n=>gQ M1 q0 (i:=i) (n:=n));clear M1 np1;obtain⟨o,hof⟩:=A8 (Cf g'.b.ms p');rw[hof] at Hf HFB;have HOF:=T hof;clear hof
   cases o with
   |none=>
    exact gV
   |some x=>
    obtain⟨⟨op,n⟩,sz⟩:=x;have Hf2:Hid (At Tryz.prog 101 #[↑A.gU,J V p'] wa λe w'=>(e=Ax (AF #[A9 #[J U op,J V n],J U sz,Ap Ag]))∧Fr Aj wa w'):=T ((Hf.out).mono (λe w' h=>by
     obtain⟨⟨i,n,rfl,hi⟩,f1⟩:=h;obtain⟨rfl,rfl⟩:=hi _ rfl;exact⟨rfl,f1⟩))
    clear Hf;go_wp2_with fail;refine Az Hf2 ?_;rintro e w1 ⟨rfl,f1⟩;have fa:Fr Aj wa (w1.alloc (.cells #[J U op,J V n] 27)):=f1.trans ((Ao Aj w1).alloc _) (λ_ _ e=>e);have L2:=T (La.out.more fa (L':=λk=>(k=w.heap.size∨k=w.heap.size+1)∨k=w1.heap.size) (λk e=>by
     rcases e with e|e;·exact Af e
     ·right;have:=f1.size;subst e;simp;omega))
    have B2:=T (Ba.out.fr fa id);have G2:=T (Ga.out.fr fa id);have bi:=AI w1 27 #[J U op,J V n];go_upto_region 9 with(fail);generalize w1.alloc (.cells #[J U op,J V n] 27)=w2 at*;obtain⟨gi,hgi⟩:=A8 w1.heap.size;rw[hgi] at bi L2⊢;obtain⟨P2,M2,in2,up2,_⟩:=L2.out.call;have hk':=hK.out.1;have hout:=hK.out.2;have hgo:=HO.out;obtain⟨⟨n0,n1⟩,s1,s5⟩:=HFB.out _ _ rfl;have HUX:Hid (Us s' ⟨op,n⟩∧(CQ ⟨op,n⟩ (doR s' ⟨op,n⟩ g') (p/64) s'.pc=Ag→okR (doR s' ⟨op,n⟩ g').s ((p'+(sz:Int))%4294967296) (p/64) (doR s' ⟨op,n⟩ g').g (m -(k+1)))):=T (by
     have h1:=hR.out.2;obtain⟨j,hj⟩: ∃j,m -k=j+1:=⟨m -k -1,O⟩;rw[hj] at h1;obtain⟨i,n',h2,h3,h4⟩:=h1;rw[HOF.out] at h2;injection h2 with h2;injection h2 with e1 e2;subst e1 e2;rw[show m -(k+1)=j by omega];exact⟨h3,h4⟩)
    have Hd:=T (do_any w2 s' X c Y d P2 a A g' L2.out.st (λk e=>in2 k (Ah e)) M2 hk' ⟨op,n⟩ n0 n1 HUX.out.1 O);have hrk:=gY;have hro:=S6 s' ⟨op,n⟩ g';obtain⟨r,hr⟩:=A8 (doR s' ⟨op,n⟩ g');have HRR:Hid ((Cg s p (p/64) g m=if CQ ⟨op,n⟩ r (p/64) s'.pc then Cg r.s ((p'+(sz:Int))%4294967296) (p/64) r.g (m -(k+1)) else⟨r.s,r.g⟩)∧(CQ ⟨op,n⟩ r (p/64) s'.pc=Ag→okR r.s ((p'+(sz:Int))%4294967296) (p/64) r.g (m -(k+1)))):=T (by
     refine⟨?_,λh=>gZ⟩;rw[hR.out.1];obtain⟨j,hj⟩: ∃j,m -k=j+1:=⟨m -k -1,O⟩;rw[hj,Cg,HOF.out];dsimp only;rw[hr,show m -(k+1)=j by omega])
    rw[hr] at Hd hrk hro;have b2:=G2.out;have i0:=bi.cell 0;have i1:=bi.cell 1;have il:=bi.lt;clear hr M2;go_wp2_with ((with_reducible refine wpL_lq b2 AQ AJ ?_));refine Az Hd ?_;rintro e w3 ⟨X2,c2,Y2,d2,Bh,nz,mz,rfl,hst,hz,hnm,hn64,hzo⟩;have bw:=AI w3 206 z19;have fw:=hZ;have oR:=i7;have L3:=T (up2 hst);have HZ:=T (Ay hz hzo);have BI3:=T (bi.fr hst.f (λe=>e (in2 gi (Af (.inr rfl)))));have G3:=T (b2.fr hst.f (λe=>e (in2 ↑w (Af (Af (.inl rfl))))));have B3:=T (B2.out.fr hst.f (λe=>e (in2 (↑w+1) (Af (Af (.inr rfl))))));clear hst hz hzo i0 i1 b2 bi il Hd in2 up2 L2 B2 G2;go_upto_region 10 with(((with_reducible refine BL (cs':=EK r.s (Z X2 r.s.d.length c2) (Z Y2 r.s.r.length d2) r.tr r.dv (Z Bh nz mz)) bw szR oR ?_);intro W4 b4 f4;have HB4:=T b4;have HF4:=T f4;clear b4 f4 bw oR));obtain⟨gr,hgr⟩:=A8 w3.heap.size;have F34:=i9;rw[hgr] at HB4 HF4⊢;have L4:=T (L3.out.fr0 F34.out);have G4:=T (G3.out.fr F34.out id);have B4:=T (B3.out.fr F34.out id);have I4:=T (BI3.out.fr F34.out id);have Htu:=T (Eg.turned_any W4 ge _ L4.out.en r.pg nz mz Bh (Sw.own_low (AR HZ.out.2 F34.out (λ_ _ e=>e)) (Bj _)) (λz hz=>by
     obtain⟨i,hi,rfl⟩:=GC hz;have:=HZ.out.1.2.1 i (by rw[←HZ.out.1.1];exact hi);rwa[AS,BK hi] at this) hn64)
    have c18:=HB4.out.cell 18;have c18l:=HB4.out.lt;clear fw HF4 L3 BI3 G3 B3 hgr;go_upto_region 11 with((with_reducible refine Az Htu ?_);rintro e9 W5 ⟨rfl,e5,hE5⟩;have HE5:=T hE5;clear hE5 c18 c18l);have hst4:=L4.out.st;have L5:=T (L4.out.eng HE5.out);have G5:=T (HE5.out.blk G4.out CC);have B5:=T (HE5.out.blk B4.out CC);have I5:=T (HE5.out.blk I4.out othI);have R5:=T (HE5.out.blk HB4.out othR);have z4:=AR HZ.out.2 F34.out (λ_ _ e=>e);have Z5:=T (HE5.out.row z4 othZ);have hl34:w3.heap.size≤W5.heap.size:=Bf F34.out.size HE5.out.f.size;clear L4 G4 B4 I4 HB4 z4 F34 Htu HE5 hst4;have b24:=G5.out;have b4:=R5.out;have k0:W5.cell? ⟨↑w,0,G⟩=I (J V s'.pc):=b24.cell 0;have kl:=b24.lt;have o4:=Ce r.s (Z X2 r.s.d.length c2) (Z Y2 r.s.r.length d2) rfl rfl;have hrh:=gT r.s (Z X2 r.s.d.length c2) (Z Y2 r.s.r.length d2) r.tr r.dv (Z Bh nz mz);have HRH:=T hrh;clear hrh;go_upto_region 13 with(first
     |((with_reducible refine wpL_ldm (stc r.s (Z X2 r.s.d.length c2) (Z Y2 r.s.r.length d2)) b4 AQ AJ ?q1 ?q2 HRH.out ?q3 ?_);(case q1=>rfl);(case q2=>rfl);(case q3=>rfl))
     |((with_reducible refine BL (cs':=stc r.s (Z X2 r.s.d.length c2) (Z Y2 r.s.r.length d2)) b24 AJ o4 ?_);intro W6 b6 f6;have HB6:=T b6;have HF6:=T f6;clear b6 f6 b24 o4 k0 kl))
    have hS5:=L5.out.st;have L6:=T ((L5.out.wrote (Af (Af rfl)) ⟨λe=>AZ hS5.d G5.out Ak (ab_own hS5.d e),λe=>AZ hS5.r G5.out Ak (ab_own hS5.r e)⟩ (EO L5.out.en G5.out CC Ak) HF6.out).less (L':=λk=>k=w.heap.size∨k=w.heap.size+1) (λk e=> Af e));have b65:=R5.out.fr HF6.out (R5.out.ne_ G5.out Ak);have i65:=I5.out.fr HF6.out (I5.out.ne_ G5.out Ak);have B6:=T (B5.out.fr HF6.out IT);have hz6:=pC (AR Z5.out HF6.out (λk hk e=>AZ Z5.out G5.out Ak (by rw[hk,show k=w.heap.size from e]))) HZ.out.1.2.1;have hpc:=hrk.1.pc;have hpc':=hk'.1.pc;have Hn:=T (next_any W6 ⟨op,n⟩ r X2 Y2 Bh c2 d2 nz mz ↑W6 (p/64) s'.pc hz6 (AD _) hn64 hpc'.1 hpc'.2 hpc.1 hpc.2);obtain⟨nx,hnx⟩:=A8 (CQ ⟨op,n⟩ r (p/64) s'.pc);rw[hnx] at Hn HRR;have i0:=i65.cell 0;have i1:=i65.cell 1;have il:=i65.lt;have hsw:=SW;have HRK:=T (Ay hrk (show r.g.b.outs.length≤g.b.outs.length+(k+1) by omega));clear hz6 i65 hrk hro hpc hpc' hk' hnx hS5 L5 G5 B5 I5 R5 Z5
    cases nx
    ·go_upto_region 16 with(first
      |((with_reducible refine wpL_lq b65 Tryz.underlying206 szR ?_))
      |((with_reducible refine Az Hn ?_);rintro e w7 ⟨rfl,f7⟩;have L7:=T (L6.out.fr0 f7);have B7:=T (B6.out.fr f7 id);have G7:=T (HB6.out.fr f7 id);clear f7))
     have bs:=G7.out;have bt:=B7.out;have o6:=Ce r.s (Z X2 r.s.d.length c2) (Z Y2 r.s.r.length d2) rfl rfl;go_wp2_with (first
      |((with_reducible refine wpL_lq bs AQ AJ ?_))
      |((with_reducible refine BL (cs':=stc r.s (Z X2 r.s.d.length c2) (Z Y2 r.s.r.length d2)) bt AJ o6 ?_);intro W7 b7 f7;have HB7:=T b7;have HF7:=T f7;clear b7 f7 bt bs o6))
     refine Bt (CV rfl _ _ (w.heap.size+1) 39 _ _ rfl HB7.out AQ rfl AJ) rfl ?_;rw[HRR.out.1,Ae Ak];have hS:=L7.out.st;exact⟨X2,c2,Y2,d2,_,rfl,(L7.out.wrote (Ah rfl) ⟨λe=>AZ hS.d B7.out Ak (ab_own hS.d e),λe=>AZ hS.r B7.out Ak (ab_own hS.r e)⟩ (EO L7.out.en B7.out CC Ak) HF7.out).none,HRK.out.1⟩
    ·go_wp2_with (first
      |((with_reducible refine wpL_lq b65 Tryz.underlying206 szR ?_))
      |((with_reducible refine Az Hn ?_);rintro e w7 ⟨rfl,f7⟩;have L7:=T (L6.out.fr0 f7);have B7:=T (B6.out.fr f7 id);have G7:=T (HB6.out.fr f7 id);clear f7))
     go_roundw;case rel=>
      exact⟨k+1,r.s,(p'+(sz:Int))%4294967296,r.g,X2,c2,Y2,d2,_,O,Bn,rfl,O,O,T ⟨iA,HRR.out.2 trivial⟩,L7,HRK,B7,G7⟩
     case measure=>simp[AM];omega
  ·obtain rfl:k=m:=O;have HS:=iB;have bs:=hG.out;have bt:=hB.out;have o6:=Ce s' (Z X s'.d.length c) (Z Y s'.r.length d) rfl rfl;go_wp2_with (first
    |((with_reducible refine wpL_lq bs AQ AJ ?_))
    |((with_reducible refine BL (cs':=stc s' (Z X s'.d.length c) (Z Y s'.r.length d)) bt AJ o6 ?_);intro W7 b7 f7;have HB7:=T b7;have HF7:=T f7;clear b7 f7 bt bs o6))
   refine Bt (CV rfl _ _ (w.heap.size+1) 39 _ _ rfl HB7.out AQ rfl AJ) rfl ?_;rw[HS.out];have hS:=hL.out.st;exact⟨X,c,Y,d,_,rfl,(hL.out.wrote (Ah rfl) ⟨λe=>AZ hS.d hB.out Ak (ab_own hS.d e),λe=>AZ hS.r hB.out Ak (ab_own hS.r e)⟩ (EO hL.out.en hB.out CC Ak) HF7.out).none,hK.out.1⟩
end Bl
end Go.Proofs.YtdfegdoeebaagaaGreatDoor
