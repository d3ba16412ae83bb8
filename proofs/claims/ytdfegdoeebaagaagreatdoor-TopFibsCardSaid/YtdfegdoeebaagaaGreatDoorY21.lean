import Derived.Test.YtdfegdoeebaagaaGreatDoorY20
open Go.Value renaming slice→Z,int→J,bool→Ao,agg→A8
open Option renaming some→I,none→G
open Go.IntKind renaming i64→U
open Go renaming World→Aa,Calls→As,wp_region_held_drew→CB
open Bool renaming false→Ac,true→Ag
open Go.Ending renaming returned→Av
open Nat renaming lt_of_lt_of_le→Bh
open Go.RowKit renaming intOf→AM
set_option linter.all false
set_option maxHeartbeats 40000000
set_option maxRecDepth 1000000
open Go Go.RowKit
namespace Go.Proofs.YtdfegdoeebaagaaGreatDoor
namespace Al
open Gs Sv Tr Em Ip Lf
theorem regs_yes(w:Aa):As Tryz.prog 190 #[J U 7] w λe w'=>e=Av (Ao Ag)∧w=w':=CK
structure RowI(w:Aa)(gp N:Nat)(pl:Nat→Int):Prop where
 lt:gp<↑w
 c: ∀i,i<N→w.cell? ⟨gp,i,G⟩=I (J U (pl i))
theorem RowI.fr{w w':Aa}{gp N:Nat}{pl:Nat→Int}{S:AE}(h:RowI w gp N pl)(f:Fr S w w')(hs: ¬S gp):RowI w' gp N pl:=
 ⟨Bh h.lt f.size,λi hi=>f.cell (h.c i hi) h.lt hs⟩
theorem ZJ(w:Aa)(gs gi cI gp cp N n:Nat)(tt:Nat→Nat)(pl:Nat→Int)(hn:n<N)(hN:N≤64)(hc:N≤cp)(hsl:gs<↑w)(hs:w.cell? ⟨gs,3,G⟩=I (Z (I ⟨gi,0,G⟩) N cI))(hI:IvC w gi cI N tt)(hP:RowI w gp N pl):As Tryz.prog 193 #[↑gs,Z (I ⟨gp,0,G⟩) N cp,J U n] w λe w'=> ∃k:Nat,e=Av (J .i64 k)∧k≤N∧tkB tt pl n k N=Ac∧Fr Aj w w':=by
 obtain⟨m,hm,hmf⟩:=free_is tt pl n N;have HM:=T hmf;have HS:=T hs;have HI:=T hI;have HP:=T hP;have hci:=hI.le;clear hmf hs hI hP;go_in;go_wp2_with fail;go_loopw [7] (λi wr=> ∃k:Nat,k≤m∧i=J U k∧Hid (Fr Aj w wr)) (λi _=>m -(AM i).toNat)
 case atStart=>exact⟨0,O,rfl,T (Ak _ _)⟩
 case round=>
  obtain⟨k,hk,rfl,hF⟩:=hrel;obtain⟨wo,rfl⟩: ∃wo:Aa,wo=wr:=⟨_,rfl⟩;go_wp2_with fail;go_loopw [15,8] (λi t wr=> ∃j:Nat,j≤N∧i=J U j∧t=Ao (tkB tt pl n k j)∧Hid (Fr Aj w wr)) (λi _ _=>N -(AM i).toNat)
  case atStart=>exact⟨0,O,rfl,rfl,hF⟩
  case round=>
   obtain⟨j,hj,rfl,rfl,hF2⟩:=hrel;have hsl2:gs<↑wr:=Bh hsl hF2.out.size;by_cases hlt:j<N
   ·have ht: ∀b,(tkB tt pl n k j||(decide (pl j=k)&&DI tt j n))=b→tkB tt pl n k (j+1)=b:=λb h=>h;have HT:=T ht;obtain⟨b,hb⟩:=A9 (tkB tt pl n k j);rw[hb] at HT⊢;have p0:=(HP.out.fr hF2.out id).c j hlt;have hpl:=(HP.out.fr hF2.out id).lt;have s0:=hF2.out.cell HS.out hsl id;have hiw:=HI.out.fr hF2.out id;obtain⟨j0,j1,j2⟩:=hiw.c0 j hlt;obtain⟨n0,n1,n2⟩:=hiw.c0 n hn;have hil:=hiw.lt;clear ht hb hiw;by_cases he:pl j=k
    ·rw[he] at p0;obtain⟨x,hx⟩:=A9 (DI tt j n);have HX0:Hid (tkB tt pl n k (j+1)=(b||x)):=T (HT.out _ (by rw[he,hx];simp));have Hm:Hid (∀W,As Tryz.prog 194 #[A8 #[J U j,J U j,J U (tt j)],A8 #[J U n,J U n,J U (tt n)]] W λe w'=>e=Av (Ao x)∧Fr Aj W w'):=T (λW=>by rw[←hx];exact Zh W j n (tt j) (tt n));clear hx he HT
     cases b
     ·go_wp2_with fail;refine CB (S:=Fr Aj wr) AL ((Ak Aj wr).drew) (λhH=>?_);refine Ay 0 rfl hH Ds ?_;refine Ay 1 rfl hH Ds ?_;refine Ay 2 rfl hH Ds ?_
      try simp only[AH]
      refine Ay 3 rfl hH Ds ?_;refine CW 4 ((Ao Ag)) rfl hH (by intro W hSw;have k0:=hSw.cell s0 hsl2 id;have k1:=hSw.cell j0 hil id;have k2:=hSw.cell j1 hil id;have k3:=hSw.cell j2 hil id;have k4:=hSw.cell n0 hil id;have k5:=hSw.cell n1 hil id;have k6:=hSw.cell n2 hil id;go_simp) ?_;refine Ay 5 rfl hH Ds ?_
      try simp only[AH]
      refine Ay 6 rfl hH Ds ?_;refine Ay 7 rfl hH Ds ?_;refine Ay 8 rfl hH Ds ?_
      try simp only[AH]
      refine Ay 9 rfl hH Ds ?_;refine Ay 10 rfl hH Ds ?_;refine Ay 11 rfl hH Ds ?_
      try simp only[AH]
      refine Ay 12 rfl hH Ds ?_;refine Ay 13 rfl hH Ds ?_;refine Ay 14 rfl hH Ds ?_
      try simp only[AH]
      refine Ay 15 rfl hH Ds ?_;refine Ay 16 rfl hH Ds ?_;refine Ay 17 rfl hH Ds ?_
      try simp only[AH]
      refine Ay 18 rfl hH Ds ?_;refine Ay 19 rfl hH Ds ?_
      try simp only[AH]
      refine Bb [20] ?_;refine AT (λK hK=>?_) ?_
      ·go_simp;go_wp2_with (refine(Hm.out _).mono ?_;rintro e w3 ⟨rfl,f3⟩);refine hK.out _ _ (hH.tr f3) λhH=>?_;clear hK K;refine Ay 21 rfl hH Ds ?_;refine Ay 22 rfl hH Ds ?_;refine Ay 23 rfl hH Ds ?_
       try simp only[AH]
       refine CX ?_
       go_wp2
       go_roundw
       case rel=>exact⟨j+1,O,Bo,by rw[HX0.out];simp,T (hF2.out.tr hH)⟩
       case measure=>simp[AM];omega
      exact Bf
     ·exact ZK
    ·have HX0:Hid (tkB tt pl n k (j+1)=b):=T (HT.out _ (by simp[he]));obtain⟨q,hq⟩:=A9 (pl j);rw[hq] at p0 he;have ge:((q:Int)==(k:Int))=Ac:=by simpa using he
     clear hq he HT
     cases b
     ·go_wp2_with fail;refine CB (S:=Fr Aj wr) AL ((Ak Aj wr).drew) (λhH=>?_);refine Ay 0 rfl hH CY ?_;refine Ay 1 rfl hH CY ?_;refine Ay 2 rfl hH CY ?_
      try simp only[AH]
      refine Ay 3 rfl hH CY ?_;refine CW 4 ((Ao Ac)) rfl hH (by intro W hSw;go_simp) ?_;refine Ay 5 rfl hH CY ?_
      try simp only[AH]
      refine Bp 6 rfl hH ?_;refine Bp 7 rfl hH ?_;refine Bp 8 rfl hH ?_
      try simp only[AH]
      refine Bp 9 rfl hH ?_;refine Bp 10 rfl hH ?_;refine Bp 11 rfl hH ?_
      try simp only[AH]
      refine Bp 12 rfl hH ?_;refine Bp 13 rfl hH ?_;refine Bp 14 rfl hH ?_
      try simp only[AH]
      refine Bp 15 rfl hH ?_;refine Bp 16 rfl hH ?_;refine Bp 17 rfl hH ?_
      try simp only[AH]
      refine Bp 18 rfl hH ?_;refine Bp 19 rfl hH ?_;refine Bp 20 rfl hH ?_
      try simp only[AH]
      refine Ay 21 rfl hH CY ?_;refine Ay 22 rfl hH CY ?_;refine Ay 23 rfl hH CY ?_
      try simp only[AH]
      refine CX ?_
      go_wp2
      go_roundw
      case rel=>exact⟨j+1,O,Bo,by rw[HX0.out],T (hF2.out.tr hH)⟩
      case measure=>simp[AM];omega
     ·exact ZK
   ·obtain rfl:j=N:=O;have HK:Hid (∀b,tkB tt pl n k j=b→(b=Ag→k+1≤m)):=T (λb h1 h2=>by
     by_cases e:k=m;·rw[e,HM.out] at h1;rw[h2] at h1;cases h1
     ·omega)
    obtain⟨b,hb⟩:=A9 (tkB tt pl n k j);have HB:=T hb;rw[hb];clear hb hlt
    cases b
    ·go_wp2
     go_ret;exact⟨k,rfl,O,HB.out,hF2.out⟩
    ·have hk1:=HK.out _ HB.out rfl
     go_wp2
     go_roundw
     case rel=>exact⟨k+1,hk1,Bo,hF2⟩
     case measure=>simp[AM];omega
end Al
end Go.Proofs.YtdfegdoeebaagaaGreatDoor
