import Derived.Test.YtdfegdoeebaagaaGreatDoorX24
open Go.Value renaming slice→Z,int→J,bool→Ap,agg→A9
open Option renaming some→I,none→G
open Go.IntKind renaming i64→U
open Go renaming World→Aa,Calls→At,wp_region_held_drew→C7
open Bool renaming false→Ac,true→Ag
open Go.Ending renaming returned→Ax
open Nat renaming lt_of_lt_of_le→Bg
open Go.RowKit renaming intOf→AM
set_option linter.all false
set_option maxHeartbeats 40000000
set_option maxRecDepth 1000000
open Go Go.RowKit
namespace Go.Proofs.YtdfegdoeebaagaaGreatDoor
namespace Al
open Gs Sv Tr Em Ip Lf
theorem regs_yes(w:Aa):At Tryz.prog 190 #[J U 7] w λe w'=>e=Ax (Ap Ag)∧w=w':=CP
structure RowI(w:Aa)(gp N:Nat)(pl:Nat→Int):Prop where
 lt:gp<↑w
 c: ∀i,i<N→w.cell? ⟨gp,i,G⟩=I (J U (pl i))
theorem RowI.fr{w w':Aa}{gp N:Nat}{pl:Nat→Int}{S:AE}(h:RowI w gp N pl)(f:Fr S w w')(hs: ¬S gp):RowI w' gp N pl:=
 ⟨Bg h.lt f.size,λi hi=>f.cell (h.c i hi) h.lt hs⟩
theorem Z8(w:Aa)(gs gi cI gp cp N n:Nat)(tt:Nat→Nat)(pl:Nat→Int)(hn:n<N)(hN:N≤64)(hc:N≤cp)(hsl:gs<↑w)(hs:w.cell? ⟨gs,3,G⟩=I (Z (I ⟨gi,0,G⟩) N cI))(hI:IvC w gi cI N tt)(hP:RowI w gp N pl):At Tryz.prog 193 #[↑gs,Z (I ⟨gp,0,G⟩) N cp,J U n] w λe w'=> ∃k:Nat,e=Ax (J .i64 k)∧k≤N∧tkB tt pl n k N=Ac∧Fr Aj w w':=by
 obtain⟨m,hm,hmf⟩:=free_is tt pl n N;have HM:=T hmf;have HS:=T hs;have HI:=T hI;have HP:=T hP;have hci:=hI.le;clear hmf hs hI hP;go_in;go_wp2_with fail;go_loopw [7] (λi wr=> ∃k:Nat,k≤m∧i=J U k∧Hid (Fr Aj w wr)) (λi _=>m -(AM i).toNat)
 case atStart=>exact⟨0,O,rfl,T (Ao _ _)⟩
 case round=>
  obtain⟨k,hk,rfl,hF⟩:=hrel;obtain⟨wo,rfl⟩: ∃wo:Aa,wo=wr:=⟨_,rfl⟩;go_wp2_with fail;go_loopw [15,8] (λi t wr=> ∃j:Nat,j≤N∧i=J U j∧t=Ap (tkB tt pl n k j)∧Hid (Fr Aj w wr)) (λi _ _=>N -(AM i).toNat)
  case atStart=>exact⟨0,O,rfl,rfl,hF⟩
  case round=>
   obtain⟨j,hj,rfl,rfl,hF2⟩:=hrel;have hsl2:gs<↑wr:=Bg hsl hF2.out.size;by_cases hlt:j<N
   ·have ht: ∀b,(tkB tt pl n k j||(decide (pl j=k)&&DE tt j n))=b→tkB tt pl n k (j+1)=b:=λb h=>h;have HT:=T ht;obtain⟨b,hb⟩:=A8 (tkB tt pl n k j);rw[hb] at HT⊢;have p0:=(HP.out.fr hF2.out id).c j hlt;have hpl:=(HP.out.fr hF2.out id).lt;have s0:=hF2.out.cell HS.out hsl id;have hiw:=HI.out.fr hF2.out id;obtain⟨j0,j1,j2⟩:=hiw.c0 j hlt;obtain⟨n0,n1,n2⟩:=hiw.c0 n hn;have hil:=hiw.lt;clear ht hb hiw;by_cases he:pl j=k
    ·rw[he] at p0;obtain⟨x,hx⟩:=A8 (DE tt j n);have HX0:Hid (tkB tt pl n k (j+1)=(b||x)):=T (HT.out _ (by rw[he,hx];simp));have Hm:Hid (∀W,At Tryz.prog 194 #[A9 #[J U j,J U j,J U (tt j)],A9 #[J U n,J U n,J U (tt n)]] W λe w'=>e=Ax (Ap x)∧Fr Aj W w'):=T (λW=>by rw[←hx];exact YV W j n (tt j) (tt n));clear hx he HT
     cases b
     ·go_wp2_with fail;refine C7 (S:=Fr Aj wr) AL ((Ao Aj wr).drew) (λhH=>?_);refine Av 0 rfl hH Dk ?_;refine Av 1 rfl hH Dk ?_;refine Av 2 rfl hH Dk ?_
      try simp only[AG]
      refine Av 3 rfl hH Dk ?_;refine CJ 4 ((Ap Ag)) rfl hH (by intro W hSw;have k0:=hSw.cell s0 hsl2 id;have k1:=hSw.cell j0 hil id;have k2:=hSw.cell j1 hil id;have k3:=hSw.cell j2 hil id;have k4:=hSw.cell n0 hil id;have k5:=hSw.cell n1 hil id;have k6:=hSw.cell n2 hil id;go_simp) ?_;refine Av 5 rfl hH Dk ?_
      try simp only[AG]
      refine Av 6 rfl hH Dk ?_;refine Av 7 rfl hH Dk ?_;refine Av 8 rfl hH Dk ?_
      try simp only[AG]
      refine Av 9 rfl hH Dk ?_;refine Av 10 rfl hH Dk ?_;refine Av 11 rfl hH Dk ?_
      try simp only[AG]
      refine Av 12 rfl hH Dk ?_;refine Av 13 rfl hH Dk ?_;refine Av 14 rfl hH Dk ?_
      try simp only[AG]
      refine Av 15 rfl hH Dk ?_;refine Av 16 rfl hH Dk ?_;refine Av 17 rfl hH Dk ?_
      try simp only[AG]
      refine Av 18 rfl hH Dk ?_;refine Av 19 rfl hH Dk ?_
      try simp only[AG]
      refine Bb [20] ?_;refine AT (λK hK=>?_) ?_
      ·go_simp;go_wp2_with (refine(Hm.out _).mono ?_;rintro e w3 ⟨rfl,f3⟩);refine hK.out _ _ (hH.tr f3) λhH=>?_;clear hK K;refine Av 21 rfl hH Dk ?_;refine Av 22 rfl hH Dk ?_;refine Av 23 rfl hH Dk ?_
       try simp only[AG]
       refine CT ?_
       go_wp2
       go_roundw
       case rel=>exact⟨j+1,O,Bn,by rw[HX0.out];simp,T (hF2.out.tr hH)⟩
       case measure=>simp[AM];omega
      exact Bc
     ·exact Z9
    ·have HX0:Hid (tkB tt pl n k (j+1)=b):=T (HT.out _ (by simp[he]));obtain⟨q,hq⟩:=A8 (pl j);rw[hq] at p0 he;have ge:((q:Int)==(k:Int))=Ac:=by simpa using he
     clear hq he HT
     cases b
     ·go_wp2_with fail;refine C7 (S:=Fr Aj wr) AL ((Ao Aj wr).drew) (λhH=>?_);refine Av 0 rfl hH CX ?_;refine Av 1 rfl hH CX ?_;refine Av 2 rfl hH CX ?_
      try simp only[AG]
      refine Av 3 rfl hH CX ?_;refine CJ 4 ((Ap Ac)) rfl hH (by intro W hSw;go_simp) ?_;refine Av 5 rfl hH CX ?_
      try simp only[AG]
      refine Bo 6 rfl hH ?_;refine Bo 7 rfl hH ?_;refine Bo 8 rfl hH ?_
      try simp only[AG]
      refine Bo 9 rfl hH ?_;refine Bo 10 rfl hH ?_;refine Bo 11 rfl hH ?_
      try simp only[AG]
      refine Bo 12 rfl hH ?_;refine Bo 13 rfl hH ?_;refine Bo 14 rfl hH ?_
      try simp only[AG]
      refine Bo 15 rfl hH ?_;refine Bo 16 rfl hH ?_;refine Bo 17 rfl hH ?_
      try simp only[AG]
      refine Bo 18 rfl hH ?_;refine Bo 19 rfl hH ?_;refine Bo 20 rfl hH ?_
      try simp only[AG]
      refine Av 21 rfl hH CX ?_;refine Av 22 rfl hH CX ?_;refine Av 23 rfl hH CX ?_
      try simp only[AG]
      refine CT ?_
      go_wp2
      go_roundw
      case rel=>exact⟨j+1,O,Bn,by rw[HX0.out],T (hF2.out.tr hH)⟩
      case measure=>simp[AM];omega
     ·exact Z9
   ·obtain rfl:j=N:=O;have HK:Hid (∀b,tkB tt pl n k j=b→(b=Ag→k+1≤m)):=T (λb h1 h2=>by
     by_cases e:k=m;·rw[e,HM.out] at h1;rw[h2] at h1;cases h1
     ·omega)
    obtain⟨b,hb⟩:=A8 (tkB tt pl n k j);have HB:=T hb;rw[hb];clear hb hlt
    cases b
    ·go_wp2
     go_ret;exact⟨k,rfl,O,HB.out,hF2.out⟩
    ·have hk1:=HK.out _ HB.out rfl
     go_wp2
     go_roundw
     case rel=>exact⟨k+1,hk1,Bn,hF2⟩
     case measure=>simp[AM];omega
end Al
end Go.Proofs.YtdfegdoeebaagaaGreatDoor
