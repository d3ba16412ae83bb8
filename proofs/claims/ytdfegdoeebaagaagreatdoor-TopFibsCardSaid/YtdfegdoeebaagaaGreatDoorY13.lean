import Derived.Test.YtdfegdoeebaagaaGreatDoorY12
open Go.Value renaming slice→Z,int→J,agg→A8
open Go.IntKind renaming i64→U,u32→V
open Go renaming World→Aa,Calls→As,Ending→AZ
open Bool renaming false→Ac,true→Ag,false_ne_true→Fz,false_and→GR
open Go.Ending renaming returned→Av
open Or renaming inl→Af,inr→Ah
open Go.Proofs.Tryz renaming underlying39→AR
open Go.IntWalk renaming i64_in→GD
set_option linter.all false
set_option maxHeartbeats 40000000
set_option maxRecDepth 1000000
open Go Go.RowKit
namespace Go.Proofs.YtdfegdoeebaagaaGreatDoor
namespace Sp
open Gs Sv Gc
def ChP(w:Aa)(v:Int)(e:AZ)(w':Aa):Prop:=e=Av (J U v)∧Fr Aj w w'
def Dl(s:St)(op:Int):Int:=if s.d.length<Gs.takeD op∨s.r.length<Gs.takeR op then 3 else if 16<s.d.length -Gs.takeD op+Gs.putD op∨16<s.r.length -Gs.takeR op+Gs.putR op then 4 else 0
theorem needs_bd(op:Int):Gs.takeD op≤3∧Gs.putD op≤3∧Gs.takeR op≤3∧Gs.putR op≤3:=by
 unfold Gs.takeD Gs.putD Gs.takeR Gs.putR;refine⟨?_, ?_, ?_, ?_⟩<;>(repeat' split)<;>omega
theorem check_on(w:Aa)(base:Nat)(s:St)(A B:Aw)(c d:Nat)(h:StV w base s (Z A s.d.length c) (Z B s.r.length d))(hd:s.d.length≤1000)(hr:s.r.length≤1000)(op n:Int)(n0:0≤n)(n1:n≤4294967295):As Tryz.prog 127 #[A8 (stc s (Z A s.d.length c) (Z B s.r.length d)),A8 #[J U op,J V n]] w (ChP w (check s ⟨op,n⟩)):=by
 obtain⟨b1,b2,f0⟩:=Dw w (stc s (Z A s.d.length c) (Z B s.r.length d)) #[J U op,J V n] 39 27;have Hr:=T (right_any ((w.alloc (.cells (stc s (Z A s.d.length c) (Z B s.r.length d)) 39)).alloc (.cells #[J U op,J V n] 27)) ⟨op,n⟩);have Hs:=T (λW=>mO W op);have Hg:=T (λW=>get_any W s (Z A s.d.length c) (Z B s.r.length d) n n0 h.ok.ct.1);have Ht:=T (λW (f:Fr Aj w W)=>set_any W base s A B c d (h.fr0 f) O O n 0 O O);have B1:=T b1;have B2:=T b2;have F0:=T f0;have hcv:IntKind.i64.wrap n=n:=GD _ O;clear b1 b2 f0 h;by_cases hR:DZ ⟨op,n⟩=Ag
 ·have hk:Df op=Ag:=mR hR;have Hn:=T (λW=>mQ W op hk);unfold needsV at Hn;have eC:check s ⟨op,n⟩=if Gn op&& !s.su then 2 else if decide (op=66)&& !getB n then 1 else if decide (op=67)&& !setB n then 1 else Dl s op:=by
   unfold check Dl;rw[Ae (by rw[hR];simp)]
  have nb:Gs.takeD op≤3∧Gs.putD op≤3∧Gs.takeR op≤3∧Gs.putR op≤3:=needs_bd op;obtain⟨nb1,nb2,nb3,nb4⟩:=nb;rw[hR] at Hr;rw[eC];clear eC hR hk;by_cases hS:Gn op=Ag
  ·rw[hS] at Hs⊢;by_cases hu:s.su=Ag
   ·have e1:(Ag&& !s.su)=Ac:=by rw[hu];rfl
    rw[e1,Ae Fz];clear e1;by_cases h66:op=66
    ·subst h66
     cases hg:getB n
     ·rw[hg] at Hg;rw[show(decide ((66:Int)=66)&& !false)=Ag by rfl,An rfl];clear hg hS Ht Hn;have X0:=T B1.out;have Y0:=T B2.out;go_in;go_wp2_with fail;refine Ax Hr ?_;rintro e w2 ⟨rfl,f1⟩;have F1:=T (F0.out.tr f1);have X1:=T (X0.out.fr f1 id);have Y1:=T (Y0.out.fr f1 id);have b11:=X1.out;have u0:=Y1.out.cell 0;have u1:=Y1.out.cell 1;have v1:=X1.out.cell 1;have v2:=X1.out.cell 2;have v4:=X1.out.cell 4;clear f1;go_wp2_with fail;refine(Hs.out _).mono ?_;rintro e w' ⟨rfl,rfl⟩;go_wp2_with ((with_reducible refine wpL_lq b11 AR AJ ?_));refine(Hg.out _).mono ?_;rintro e w3 ⟨rfl,f2⟩;have F2:=T (F1.out.tr f2);clear u0 u1 v1 v2 v4;have X2:=T (X1.out.fr f2 id);have Y2:=T (Y1.out.fr f2 id);have b12:=X2.out;have u0:=Y2.out.cell 0;have u1:=Y2.out.cell 1;have v1:=X2.out.cell 1;have v2:=X2.out.cell 2;have v4:=X2.out.cell 4;clear f2 b11
      go_wp2
      exact NL
     ·rw[hg] at Hg;rw[show(decide ((66:Int)=66)&& !true)=Ac by rfl,Ae Fz,show decide ((66:Int)=67)=Ac by rfl,GR,Ae Fz];clear hg hS;have X0:=T B1.out;have Y0:=T B2.out;go_in;go_wp2_with fail;refine Ax Hr ?_;rintro e w2 ⟨rfl,f1⟩;have F1:=T (F0.out.tr f1);have X1:=T (X0.out.fr f1 id);have Y1:=T (Y0.out.fr f1 id);have b11:=X1.out;have u0:=Y1.out.cell 0;have u1:=Y1.out.cell 1;have v1:=X1.out.cell 1;have v2:=X1.out.cell 2;have v4:=X1.out.cell 4;clear f1;go_wp2_with fail;refine(Hs.out _).mono ?_;rintro e w' ⟨rfl,rfl⟩;go_wp2_with ((with_reducible refine wpL_lq b11 AR AJ ?_));refine(Hg.out _).mono ?_;rintro e w3 ⟨rfl,f2⟩;have F2:=T (F1.out.tr f2);clear u0 u1 v1 v2 v4;have X2:=T (X1.out.fr f2 id);have Y2:=T (Y1.out.fr f2 id);have b12:=X2.out;have u0:=Y2.out.cell 0;have u1:=Y2.out.cell 1;have v1:=X2.out.cell 1;have v2:=X2.out.cell 2;have v4:=X2.out.cell 4;clear f2 b11;go_wp2_with ((with_reducible refine wpL_lq b12 AR AJ ?_));refine(Ht.out _ F2.out).mono ?_;rintro e w4 ⟨A4,c4,B4,d4,rfl,_,_,f3⟩;have F3:=T (F2.out.tr f3);clear u0 u1 v1 v2 v4;have X3:=T (X2.out.fr f3 id);have Y3:=T (Y2.out.fr f3 id);have b13:=X3.out;have u0:=Y3.out.cell 0;have u1:=Y3.out.cell 1;have v1:=X3.out.cell 1;have v2:=X3.out.cell 2;have v4:=X3.out.cell 4;have hg4:=X3.out.lt;have hg5:=Y3.out.lt;clear f3 b12;have HX3:=X3;by_cases q1:s.d.length<Gs.takeD 66;·have e1:decide (s.d.length<Gs.takeD 66)=Ag:=AA;have hfv:Hid (Dl s 66=3):=T Qs;exact Fh
      ·by_cases q2:s.r.length<Gs.takeR 66;·have e1:=NM;have e2:decide (s.r.length<Gs.takeR 66)=Ag:=AA;have hfv:Hid (Dl s 66=3):=T Qt;exact Fh
       ·by_cases q3:16<s.d.length -Gs.takeD 66+Gs.putD 66;·have e1:=NM;have e2:=Qu;have e3:decide ((16:Int)<(s.d.length:Int) -(Gs.takeD 66:Int)+(Gs.putD 66:Int))=Ag:=AA;have hfv:Hid (Dl s 66=4):=T Qw;exact Fh
        ·by_cases q4:16<s.r.length -Gs.takeR 66+Gs.putR 66;·have e1:=NM;have e2:=Qu;have e3:=VW;have e4:decide ((16:Int)<(s.r.length:Int) -(Gs.takeR 66:Int)+(Gs.putR 66:Int))=Ag:=AA;have hfv:Hid (Dl s 66=4):=T Qx;exact Fh
         ·have e1:=NM;have e2:=Qu;have e3:=VW;have e4:decide ((16:Int)<(s.r.length:Int) -(Gs.takeR 66:Int)+(Gs.putR 66:Int))=Ac:=AA;have hfv:Hid (Dl s 66=0):=T Qy;exact Fh
    ·by_cases h67:op=67
     ·subst h67
      cases hg:setB n
      ·rw[hg] at Ht;rw[show decide ((67:Int)=66)=Ac by rfl,GR,Ae Fz,show(decide ((67:Int)=67)&& !false)=Ag by rfl,An rfl];clear hg hS Hn h66;have X0:=T B1.out;have Y0:=T B2.out;go_in;go_wp2_with fail;refine Ax Hr ?_;rintro e w2 ⟨rfl,f1⟩;have F1:=T (F0.out.tr f1);have X1:=T (X0.out.fr f1 id);have Y1:=T (Y0.out.fr f1 id);have b11:=X1.out;have u0:=Y1.out.cell 0;have u1:=Y1.out.cell 1;have v1:=X1.out.cell 1;have v2:=X1.out.cell 2;have v4:=X1.out.cell 4;clear f1;go_wp2_with fail;refine(Hs.out _).mono ?_;rintro e w' ⟨rfl,rfl⟩;go_wp2_with ((with_reducible refine wpL_lq b11 AR AJ ?_));refine(Hg.out _).mono ?_;rintro e w3 ⟨rfl,f2⟩;have F2:=T (F1.out.tr f2);clear u0 u1 v1 v2 v4;have X2:=T (X1.out.fr f2 id);have Y2:=T (Y1.out.fr f2 id);have b12:=X2.out;have u0:=Y2.out.cell 0;have u1:=Y2.out.cell 1;have v1:=X2.out.cell 1;have v2:=X2.out.cell 2;have v4:=X2.out.cell 4;clear f2 b11;go_wp2_with ((with_reducible refine wpL_lq b12 AR AJ ?_));refine(Ht.out _ F2.out).mono ?_;rintro e w4 ⟨A4,c4,B4,d4,rfl,_,_,f3⟩;have F3:=T (F2.out.tr f3);clear u0 u1 v1 v2 v4;have X3:=T (X2.out.fr f3 id);have Y3:=T (Y2.out.fr f3 id);have b13:=X3.out;have u0:=Y3.out.cell 0;have u1:=Y3.out.cell 1;have v1:=X3.out.cell 1;have v2:=X3.out.cell 2;have v4:=X3.out.cell 4;have hg4:=X3.out.lt;have hg5:=Y3.out.lt;clear f3 b12
       go_wp2
       go_ret;exact⟨rfl,F3.out.alloc _⟩
      ·rw[hg] at Ht;rw[show decide ((67:Int)=66)=Ac by rfl,GR,Ae Fz,show(decide ((67:Int)=67)&& !true)=Ac by rfl,Ae Fz];clear hg hS h66;have X0:=T B1.out;have Y0:=T B2.out;go_in;go_wp2_with fail;refine Ax Hr ?_;rintro e w2 ⟨rfl,f1⟩;have F1:=T (F0.out.tr f1);have X1:=T (X0.out.fr f1 id);have Y1:=T (Y0.out.fr f1 id);have b11:=X1.out;have u0:=Y1.out.cell 0;have u1:=Y1.out.cell 1;have v1:=X1.out.cell 1;have v2:=X1.out.cell 2;have v4:=X1.out.cell 4;clear f1;go_wp2_with fail;refine(Hs.out _).mono ?_;rintro e w' ⟨rfl,rfl⟩;go_wp2_with ((with_reducible refine wpL_lq b11 AR AJ ?_));refine(Hg.out _).mono ?_;rintro e w3 ⟨rfl,f2⟩;have F2:=T (F1.out.tr f2);clear u0 u1 v1 v2 v4;have X2:=T (X1.out.fr f2 id);have Y2:=T (Y1.out.fr f2 id);have b12:=X2.out;have u0:=Y2.out.cell 0;have u1:=Y2.out.cell 1;have v1:=X2.out.cell 1;have v2:=X2.out.cell 2;have v4:=X2.out.cell 4;clear f2 b11;go_wp2_with ((with_reducible refine wpL_lq b12 AR AJ ?_));refine(Ht.out _ F2.out).mono ?_;rintro e w4 ⟨A4,c4,B4,d4,rfl,_,_,f3⟩;have F3:=T (F2.out.tr f3);clear u0 u1 v1 v2 v4;have X3:=T (X2.out.fr f3 id);have Y3:=T (Y2.out.fr f3 id);have b13:=X3.out;have u0:=Y3.out.cell 0;have u1:=Y3.out.cell 1;have v1:=X3.out.cell 1;have v2:=X3.out.cell 2;have v4:=X3.out.cell 4;have hg4:=X3.out.lt;have hg5:=Y3.out.lt;clear f3 b12;have HX3:=X3;by_cases q1:s.d.length<Gs.takeD 67;·have e1:decide (s.d.length<Gs.takeD 67)=Ag:=AA;have hfv:Hid (Dl s 67=3):=T Qs;exact Fh
       ·by_cases q2:s.r.length<Gs.takeR 67;·have e1:=NN;have e2:decide (s.r.length<Gs.takeR 67)=Ag:=AA;have hfv:Hid (Dl s 67=3):=T Qt;exact Fh
        ·by_cases q3:16<s.d.length -Gs.takeD 67+Gs.putD 67;·have e1:=NN;have e2:=Q0;have e3:decide ((16:Int)<(s.d.length:Int) -(Gs.takeD 67:Int)+(Gs.putD 67:Int))=Ag:=AA;have hfv:Hid (Dl s 67=4):=T Qw;exact Fh
         ·by_cases q4:16<s.r.length -Gs.takeR 67+Gs.putR 67;·have e1:=NN;have e2:=Q0;have e3:=VX;have e4:decide ((16:Int)<(s.r.length:Int) -(Gs.takeR 67:Int)+(Gs.putR 67:Int))=Ag:=AA;have hfv:Hid (Dl s 67=4):=T Qx;exact Fh
          ·have e1:=NN;have e2:=Q0;have e3:=VX;have e4:decide ((16:Int)<(s.r.length:Int) -(Gs.takeR 67:Int)+(Gs.putR 67:Int))=Ac:=AA;have hfv:Hid (Dl s 67=0):=T Qy;exact Fh
     ·rw[show decide (op=66)=Ac by simp[h66],GR,Ae Fz,show decide (op=67)=Ac by simp[h67],GR,Ae Fz];exact VY
   ·have hu:s.su=Ac:=by simpa using hu
    rw[hu];simp only[Bool.not_false,Bool.and_true,if_true];clear Hn Hg Ht hS;have X0:=T B1.out;have Y0:=T B2.out;go_in;go_wp2_with fail;refine Ax Hr ?_;rintro e w2 ⟨rfl,f1⟩;have F1:=T (F0.out.tr f1);have X1:=T (X0.out.fr f1 id);have Y1:=T (Y0.out.fr f1 id);have b11:=X1.out;have u0:=Y1.out.cell 0;have u1:=Y1.out.cell 1;have v1:=X1.out.cell 1;have v2:=X1.out.cell 2;have v4:=X1.out.cell 4;clear f1;go_wp2_with fail;refine(Hs.out _).mono ?_;rintro e w' ⟨rfl,rfl⟩;exact LJ
  ·have hS:Gn op=Ac:=by simpa using hS
   rw[hS] at Hs⊢;have h66: ¬op=66:=VZ;have h67: ¬op=67:=VZ;rw[GR,Ae Fz,show decide (op=66)=Ac by simp[h66],GR,Ae Fz,show decide (op=67)=Ac by simp[h67],GR,Ae Fz];exact VY
 ·have hR:DZ ⟨op,n⟩=Ac:=by simpa using hR
  have e:check s ⟨op,n⟩=1:=by unfold check;rw[An hR]
  rw[e];rw[hR] at Hr;clear e hR Hs Hg Ht;go_in;go_wp2_with fail;refine Ax Hr ?_;rintro e w2 ⟨rfl,f1⟩
  go_wp2
  go_ret;exact⟨rfl,F0.out.tr f1⟩
theorem check_any(w:Aa)(base:Nat)(s:St)(A B:Aw)(c d:Nat)(h:StV w base s (Z A s.d.length c) (Z B s.r.length d))(hd:s.d.length≤1000)(hr:s.r.length≤1000)(i:Ins)(n0:0≤i.n)(n1:i.n≤4294967295):As Tryz.prog 127 #[A8 (stc s (Z A s.d.length c) (Z B s.r.length d)),Jp i] w (ChP w (check s i)):=check_on w base s A B c d h hd hr i.op i.n n0 n1
end Sp
end Go.Proofs.YtdfegdoeebaagaaGreatDoor
