import Derived.Test.YtdfegdoeebaagaaGreatDoorX12
import Derived.Test.YtdfegdoeebaagaaGreatDoorChecked
open Go.Value renaming slice→Z,int→J,bool→Ap,tuple→AF,agg→A9
open Option renaming some→I,none→G
open Go.IntKind renaming i64→U,u32→V,u64→AP,wrap_u32→Gu
open Go renaming World→Aa,Value→As,Calls→At,TypeId→AN,Ending→AY,wpList→Cy,Program→CF,undef→BY,Oper→BM,Operand→De
open Bool renaming false→Ac,true→Ag,false_ne_true→Fq,false_and→GX
open List renaming setIfInBounds_toArray→Jd
open Go.Ending renaming returned→Ax
open And renaming intro→Ay
open Nat renaming zero_add→BW
open Or renaming inl→Af,inr→Ah
open Go.Proofs.Tryz renaming underlying39→AQ
open Go.Region renaming wanted→Dm
open Go.IntWalk renaming i64_in→GF
open Go.Oper renaming wp→EP
set_option linter.all false
set_option maxHeartbeats 40000000
set_option maxRecDepth 1000000
open Go Go.RowKit
namespace Go.Proofs.YtdfegdoeebaagaaGreatDoor
namespace Sp
open Gs Sv Gc
def ChP(w:Aa)(v:Int)(e:AY)(w':Aa):Prop:=e=Ax (J U v)∧Fr Aj w w'
def Di(s:St)(op:Int):Int:=if s.d.length<Gs.takeD op∨s.r.length<Gs.takeR op then 3 else if 16<s.d.length -Gs.takeD op+Gs.putD op∨16<s.r.length -Gs.takeR op+Gs.putR op then 4 else 0
theorem needs_bd(op:Int):Gs.takeD op≤3∧Gs.putD op≤3∧Gs.takeR op≤3∧Gs.putR op≤3:=by
 unfold Gs.takeD Gs.putD Gs.takeR Gs.putR;refine⟨?_, ?_, ?_, ?_⟩<;>(repeat' split)<;>omega
theorem check_on(w:Aa)(base:Nat)(s:St)(A B:Aw)(c d:Nat)(h:StV w base s (Z A s.d.length c) (Z B s.r.length d))(hd:s.d.length≤1000)(hr:s.r.length≤1000)(op n:Int)(n0:0≤n)(n1:n≤4294967295):At Tryz.prog 127 #[A9 (stc s (Z A s.d.length c) (Z B s.r.length d)),A9 #[J U op,J V n]] w (ChP w (check s ⟨op,n⟩)):=by
 obtain⟨b1,b2,f0⟩:=Ds w (stc s (Z A s.d.length c) (Z B s.r.length d)) #[J U op,J V n] 39 27;have Hr:=T (right_any ((w.alloc (.cells (stc s (Z A s.d.length c) (Z B s.r.length d)) 39)).alloc (.cells #[J U op,J V n] 27)) ⟨op,n⟩);have Hs:=T (λW=>mD W op);have Hg:=T (λW=>get_any W s (Z A s.d.length c) (Z B s.r.length d) n n0 h.ok.ct.1);have Ht:=T (λW (f:Fr Aj w W)=>set_any W base s A B c d (h.fr0 f) O O n 0 O O);have B1:=T b1;have B2:=T b2;have F0:=T f0;have hcv:IntKind.i64.wrap n=n:=GF _ O;clear b1 b2 f0 h;by_cases hR:DR ⟨op,n⟩=Ag
 ·have hk:Dd op=Ag:=mG hR;have Hn:=T (λW=>mF W op hk);unfold needsV at Hn;have eC:check s ⟨op,n⟩=if Gn op&& !s.su then 2 else if decide (op=66)&& !getB n then 1 else if decide (op=67)&& !setB n then 1 else Di s op:=by
   unfold check Di;rw[Ae (by rw[hR];simp)]
  have nb:Gs.takeD op≤3∧Gs.putD op≤3∧Gs.takeR op≤3∧Gs.putR op≤3:=needs_bd op;obtain⟨nb1,nb2,nb3,nb4⟩:=nb;rw[hR] at Hr;rw[eC];clear eC hR hk;by_cases hS:Gn op=Ag
  ·rw[hS] at Hs⊢;by_cases hu:s.su=Ag
   ·have e1:(Ag&& !s.su)=Ac:=by rw[hu];rfl
    rw[e1,Ae Fq];clear e1;by_cases h66:op=66
    ·subst h66
     cases hg:getB n
     ·rw[hg] at Hg;rw[show(decide ((66:Int)=66)&& !false)=Ag by rfl,An rfl];clear hg hS Ht Hn;have X0:=T B1.out;have Y0:=T B2.out;go_in;go_wp2_with fail;refine Az Hr ?_;rintro e w2 ⟨rfl,f1⟩;have F1:=T (F0.out.tr f1);have X1:=T (X0.out.fr f1 id);have Y1:=T (Y0.out.fr f1 id);have b11:=X1.out;have u0:=Y1.out.cell 0;have u1:=Y1.out.cell 1;have v1:=X1.out.cell 1;have v2:=X1.out.cell 2;have v4:=X1.out.cell 4;clear f1;go_wp2_with fail;refine(Hs.out _).mono ?_;rintro e w' ⟨rfl,rfl⟩;go_wp2_with ((with_reducible refine wpL_lq b11 AQ AJ ?_));refine(Hg.out _).mono ?_;rintro e w3 ⟨rfl,f2⟩;have F2:=T (F1.out.tr f2);clear u0 u1 v1 v2 v4;have X2:=T (X1.out.fr f2 id);have Y2:=T (Y1.out.fr f2 id);have b12:=X2.out;have u0:=Y2.out.cell 0;have u1:=Y2.out.cell 1;have v1:=X2.out.cell 1;have v2:=X2.out.cell 2;have v4:=X2.out.cell 4;clear f2 b11
      go_wp2
      exact NM
     ·rw[hg] at Hg;rw[show(decide ((66:Int)=66)&& !true)=Ac by rfl,Ae Fq,show decide ((66:Int)=67)=Ac by rfl,GX,Ae Fq];clear hg hS;have X0:=T B1.out;have Y0:=T B2.out;go_in;go_wp2_with fail;refine Az Hr ?_;rintro e w2 ⟨rfl,f1⟩;have F1:=T (F0.out.tr f1);have X1:=T (X0.out.fr f1 id);have Y1:=T (Y0.out.fr f1 id);have b11:=X1.out;have u0:=Y1.out.cell 0;have u1:=Y1.out.cell 1;have v1:=X1.out.cell 1;have v2:=X1.out.cell 2;have v4:=X1.out.cell 4;clear f1;go_wp2_with fail;refine(Hs.out _).mono ?_;rintro e w' ⟨rfl,rfl⟩;go_wp2_with ((with_reducible refine wpL_lq b11 AQ AJ ?_));refine(Hg.out _).mono ?_;rintro e w3 ⟨rfl,f2⟩;have F2:=T (F1.out.tr f2);clear u0 u1 v1 v2 v4;have X2:=T (X1.out.fr f2 id);have Y2:=T (Y1.out.fr f2 id);have b12:=X2.out;have u0:=Y2.out.cell 0;have u1:=Y2.out.cell 1;have v1:=X2.out.cell 1;have v2:=X2.out.cell 2;have v4:=X2.out.cell 4;clear f2 b11;go_wp2_with ((with_reducible refine wpL_lq b12 AQ AJ ?_));refine(Ht.out _ F2.out).mono ?_;rintro e w4 ⟨A4,c4,B4,d4,rfl,_,_,f3⟩;have F3:=T (F2.out.tr f3);clear u0 u1 v1 v2 v4;have X3:=T (X2.out.fr f3 id);have Y3:=T (Y2.out.fr f3 id);have b13:=X3.out;have u0:=Y3.out.cell 0;have u1:=Y3.out.cell 1;have v1:=X3.out.cell 1;have v2:=X3.out.cell 2;have v4:=X3.out.cell 4;have hg4:=X3.out.lt;have hg5:=Y3.out.lt;clear f3 b12;have HX3:=X3;by_cases q1:s.d.length<Gs.takeD 66;·have e1:decide (s.d.length<Gs.takeD 66)=Ag:=AA;have hfv:Hid (Di s 66=3):=T Qt;exact EW
      ·by_cases q2:s.r.length<Gs.takeR 66;·have e1:=NN;have e2:decide (s.r.length<Gs.takeR 66)=Ag:=AA;have hfv:Hid (Di s 66=3):=T Qu;exact EW
       ·by_cases q3:16<s.d.length -Gs.takeD 66+Gs.putD 66;·have e1:=NN;have e2:=Qw;have e3:decide ((16:Int)<(s.d.length:Int) -(Gs.takeD 66:Int)+(Gs.putD 66:Int))=Ag:=AA;have hfv:Hid (Di s 66=4):=T Qx;exact EW
        ·by_cases q4:16<s.r.length -Gs.takeR 66+Gs.putR 66;·have e1:=NN;have e2:=Qw;have e3:=VX;have e4:decide ((16:Int)<(s.r.length:Int) -(Gs.takeR 66:Int)+(Gs.putR 66:Int))=Ag:=AA;have hfv:Hid (Di s 66=4):=T Qy;exact EW
         ·have e1:=NN;have e2:=Qw;have e3:=VX;have e4:decide ((16:Int)<(s.r.length:Int) -(Gs.takeR 66:Int)+(Gs.putR 66:Int))=Ac:=AA;have hfv:Hid (Di s 66=0):=T Q0;exact EW
    ·by_cases h67:op=67
     ·subst h67
      cases hg:setB n
      ·rw[hg] at Ht;rw[show decide ((67:Int)=66)=Ac by rfl,GX,Ae Fq,show(decide ((67:Int)=67)&& !false)=Ag by rfl,An rfl];clear hg hS Hn h66;have X0:=T B1.out;have Y0:=T B2.out;go_in;go_wp2_with fail;refine Az Hr ?_;rintro e w2 ⟨rfl,f1⟩;have F1:=T (F0.out.tr f1);have X1:=T (X0.out.fr f1 id);have Y1:=T (Y0.out.fr f1 id);have b11:=X1.out;have u0:=Y1.out.cell 0;have u1:=Y1.out.cell 1;have v1:=X1.out.cell 1;have v2:=X1.out.cell 2;have v4:=X1.out.cell 4;clear f1;go_wp2_with fail;refine(Hs.out _).mono ?_;rintro e w' ⟨rfl,rfl⟩;go_wp2_with ((with_reducible refine wpL_lq b11 AQ AJ ?_));refine(Hg.out _).mono ?_;rintro e w3 ⟨rfl,f2⟩;have F2:=T (F1.out.tr f2);clear u0 u1 v1 v2 v4;have X2:=T (X1.out.fr f2 id);have Y2:=T (Y1.out.fr f2 id);have b12:=X2.out;have u0:=Y2.out.cell 0;have u1:=Y2.out.cell 1;have v1:=X2.out.cell 1;have v2:=X2.out.cell 2;have v4:=X2.out.cell 4;clear f2 b11;go_wp2_with ((with_reducible refine wpL_lq b12 AQ AJ ?_));refine(Ht.out _ F2.out).mono ?_;rintro e w4 ⟨A4,c4,B4,d4,rfl,_,_,f3⟩;have F3:=T (F2.out.tr f3);clear u0 u1 v1 v2 v4;have X3:=T (X2.out.fr f3 id);have Y3:=T (Y2.out.fr f3 id);have b13:=X3.out;have u0:=Y3.out.cell 0;have u1:=Y3.out.cell 1;have v1:=X3.out.cell 1;have v2:=X3.out.cell 2;have v4:=X3.out.cell 4;have hg4:=X3.out.lt;have hg5:=Y3.out.lt;clear f3 b12
       go_wp2
       go_ret;exact⟨rfl,F3.out.alloc _⟩
      ·rw[hg] at Ht;rw[show decide ((67:Int)=66)=Ac by rfl,GX,Ae Fq,show(decide ((67:Int)=67)&& !true)=Ac by rfl,Ae Fq];clear hg hS h66;have X0:=T B1.out;have Y0:=T B2.out;go_in;go_wp2_with fail;refine Az Hr ?_;rintro e w2 ⟨rfl,f1⟩;have F1:=T (F0.out.tr f1);have X1:=T (X0.out.fr f1 id);have Y1:=T (Y0.out.fr f1 id);have b11:=X1.out;have u0:=Y1.out.cell 0;have u1:=Y1.out.cell 1;have v1:=X1.out.cell 1;have v2:=X1.out.cell 2;have v4:=X1.out.cell 4;clear f1;go_wp2_with fail;refine(Hs.out _).mono ?_;rintro e w' ⟨rfl,rfl⟩;go_wp2_with ((with_reducible refine wpL_lq b11 AQ AJ ?_));refine(Hg.out _).mono ?_;rintro e w3 ⟨rfl,f2⟩;have F2:=T (F1.out.tr f2);clear u0 u1 v1 v2 v4;have X2:=T (X1.out.fr f2 id);have Y2:=T (Y1.out.fr f2 id);have b12:=X2.out;have u0:=Y2.out.cell 0;have u1:=Y2.out.cell 1;have v1:=X2.out.cell 1;have v2:=X2.out.cell 2;have v4:=X2.out.cell 4;clear f2 b11;go_wp2_with ((with_reducible refine wpL_lq b12 AQ AJ ?_));refine(Ht.out _ F2.out).mono ?_;rintro e w4 ⟨A4,c4,B4,d4,rfl,_,_,f3⟩;have F3:=T (F2.out.tr f3);clear u0 u1 v1 v2 v4;have X3:=T (X2.out.fr f3 id);have Y3:=T (Y2.out.fr f3 id);have b13:=X3.out;have u0:=Y3.out.cell 0;have u1:=Y3.out.cell 1;have v1:=X3.out.cell 1;have v2:=X3.out.cell 2;have v4:=X3.out.cell 4;have hg4:=X3.out.lt;have hg5:=Y3.out.lt;clear f3 b12;have HX3:=X3;by_cases q1:s.d.length<Gs.takeD 67;·have e1:decide (s.d.length<Gs.takeD 67)=Ag:=AA;have hfv:Hid (Di s 67=3):=T Qt;exact EW
       ·by_cases q2:s.r.length<Gs.takeR 67;·have e1:=NO;have e2:decide (s.r.length<Gs.takeR 67)=Ag:=AA;have hfv:Hid (Di s 67=3):=T Qu;exact EW
        ·by_cases q3:16<s.d.length -Gs.takeD 67+Gs.putD 67;·have e1:=NO;have e2:=Q1;have e3:decide ((16:Int)<(s.d.length:Int) -(Gs.takeD 67:Int)+(Gs.putD 67:Int))=Ag:=AA;have hfv:Hid (Di s 67=4):=T Qx;exact EW
         ·by_cases q4:16<s.r.length -Gs.takeR 67+Gs.putR 67;·have e1:=NO;have e2:=Q1;have e3:=VY;have e4:decide ((16:Int)<(s.r.length:Int) -(Gs.takeR 67:Int)+(Gs.putR 67:Int))=Ag:=AA;have hfv:Hid (Di s 67=4):=T Qy;exact EW
          ·have e1:=NO;have e2:=Q1;have e3:=VY;have e4:decide ((16:Int)<(s.r.length:Int) -(Gs.takeR 67:Int)+(Gs.putR 67:Int))=Ac:=AA;have hfv:Hid (Di s 67=0):=T Q0;exact EW
     ·rw[show decide (op=66)=Ac by simp[h66],GX,Ae Fq,show decide (op=67)=Ac by simp[h67],GX,Ae Fq];exact VZ
   ·have hu:s.su=Ac:=by simpa using hu
    rw[hu];simp only[Bool.not_false,Bool.and_true,if_true];clear Hn Hg Ht hS;have X0:=T B1.out;have Y0:=T B2.out;go_in;go_wp2_with fail;refine Az Hr ?_;rintro e w2 ⟨rfl,f1⟩;have F1:=T (F0.out.tr f1);have X1:=T (X0.out.fr f1 id);have Y1:=T (Y0.out.fr f1 id);have b11:=X1.out;have u0:=Y1.out.cell 0;have u1:=Y1.out.cell 1;have v1:=X1.out.cell 1;have v2:=X1.out.cell 2;have v4:=X1.out.cell 4;clear f1;go_wp2_with fail;refine(Hs.out _).mono ?_;rintro e w' ⟨rfl,rfl⟩;exact Lz
  ·have hS:Gn op=Ac:=by simpa using hS
   rw[hS] at Hs⊢;have h66: ¬op=66:=Wa;have h67: ¬op=67:=Wa;rw[GX,Ae Fq,show decide (op=66)=Ac by simp[h66],GX,Ae Fq,show decide (op=67)=Ac by simp[h67],GX,Ae Fq];exact VZ
 ·have hR:DR ⟨op,n⟩=Ac:=by simpa using hR
  have e:check s ⟨op,n⟩=1:=by unfold check;rw[An hR]
  rw[e];rw[hR] at Hr;clear e hR Hs Hg Ht;go_in;go_wp2_with fail;refine Az Hr ?_;rintro e w2 ⟨rfl,f1⟩
  go_wp2
  go_ret;exact⟨rfl,F0.out.tr f1⟩
theorem check_any(w:Aa)(base:Nat)(s:St)(A B:Aw)(c d:Nat)(h:StV w base s (Z A s.d.length c) (Z B s.r.length d))(hd:s.d.length≤1000)(hr:s.r.length≤1000)(i:Ins)(n0:0≤i.n)(n1:i.n≤4294967295):At Tryz.prog 127 #[A9 (stc s (Z A s.d.length c) (Z B s.r.length d)),Jn i] w (ChP w (check s i)):=check_on w base s A B c d h hd hr i.op i.n n0 n1
end Sp
namespace Rn
open Gs Sv Gm Gc
theorem ne_of{l:List Int}{n:Nat}(h:n+1≤l.length):l≠[]:=λe=>by rw[e] at h;simp at h
theorem mH(n:Int)(w:Aa)(p:Rp)(x:Rs)(P:AE)(a:Bs.Ab)(A:Mu.Au)(g:Mc)(h:Dn w p x P a A g)(hk:x.s.d.length≤16∧x.s.r.length≤16):At Tryz.prog 129 #[↑p.g,A9 #[J U 1,J V n]] w (DPost w p P a A {x with s:=push1 x.s n} g (Ap Ag)):=by
 have D0:=T (h.fr0 ((Ao Aj w).alloc (.cells #[J U 1,J V n] 27)));have L0:=T (Lk.fr0 (p:=p) (P:=P) ((Ao Aj w).alloc (.cells #[J U 1,J V n] 27)));have HK:=T hk;clear h hk;go_in;have H0:=T (Qj ((w.alloc (.cells #[J U 1,J V n] 27)).alloc (.cells #[J V (n)] 22)) _ _ _ _ (D0.out.rn.fr0 ((Ao _ _).alloc _)) (↑w+1) (n) (CK _ _ _ AC) (by have:=HK.out.1;omega));go_wp2_with fail;refine Az H0 ?_;intro e w1 hq;obtain⟨rfl,⟨g1,A1,ca1,B1,cb1⟩,P1,L1,D1⟩:=(D0.out.fr0 ((Ao Aj (w.alloc (.cells #[J U 1,J V n] 27))).alloc (.cells #[J V (n)] 22))).ofR hq;obtain rfl:g1=p.g:=L1.g;have L1:=T ((L0.out.tr (Lk.fr0 ((Ao _ (w.alloc (.cells #[J U 1,J V n] 27))).alloc _))).tr L1);exact Wb
theorem mI(n:Int)(w:Aa)(p:Rp)(x:Rs)(P:AE)(a:Bs.Ab)(A:Mu.Au)(g:Mc)(h:Dn w p x P a A g)(hk:x.s.d.length≤16∧x.s.r.length≤16):At Tryz.prog 129 #[↑p.g,A9 #[J U 2,J V n]] w (DPost w p P a A {x with s:=push1 x.s n} g (Ap Ag)):=by
 have D0:=T (h.fr0 ((Ao Aj w).alloc (.cells #[J U 2,J V n] 27)));have L0:=T (Lk.fr0 (p:=p) (P:=P) ((Ao Aj w).alloc (.cells #[J U 2,J V n] 27)));have HK:=T hk;clear h hk;go_in;have H0:=T (Qj ((w.alloc (.cells #[J U 2,J V n] 27)).alloc (.cells #[J V (n)] 22)) _ _ _ _ (D0.out.rn.fr0 ((Ao _ _).alloc _)) (↑w+1) (n) (CK _ _ _ AC) (by have:=HK.out.1;omega));go_wp2_with fail;refine Az H0 ?_;intro e w1 hq;obtain⟨rfl,⟨g1,A1,ca1,B1,cb1⟩,P1,L1,D1⟩:=(D0.out.fr0 ((Ao Aj (w.alloc (.cells #[J U 2,J V n] 27))).alloc (.cells #[J V (n)] 22))).ofR hq;obtain rfl:g1=p.g:=L1.g;have L1:=T ((L0.out.tr (Lk.fr0 ((Ao _ (w.alloc (.cells #[J U 2,J V n] 27))).alloc _))).tr L1);exact Wb
theorem stack_no(w:Aa)(p:Rp)(x:Rs)(P:AE)(a:Bs.Ab)(A:Mu.Au)(g:Mc)(h:Dn w p x P a A g)(hk:x.s.d.length≤16∧x.s.r.length≤16)(op n:Int)(hn:C8 op=Ac):At Tryz.prog 129 #[↑p.g,A9 #[J U op,J V n]] w (DPost w p P a A x g (Ap Ac)):=by
 have D0:=T (h.fr0 ((Ao Aj w).alloc (.cells #[J U op,J V n] 27)));have L0:=T (Lk.fr0 (p:=p) (P:=P) ((Ao Aj w).alloc (.cells #[J U op,J V n] 27)));have hn:op<0∨8<op:=by
  simp[C8] at hn;omega
 have n0:(op==0)=Ac:=AA;have n1:(op==1)=Ac:=AA;have n2:(op==2)=Ac:=AA;have n3:(op==3)=Ac:=AA;have n4:(op==4)=Ac:=AA;have n5:(op==5)=Ac:=AA;have n6:(op==6)=Ac:=AA;have n7:(op==7)=Ac:=AA;have n8:(op==8)=Ac:=AA;clear hn h hk;go_in;exact Wc
end Rn
namespace Ar
open Gs Tr
theorem holds_no(w:Aa)(op fl:Int)(h:40<op):At Tryz.prog 171 #[J U op,J V fl] w λe w'=>e=Ax (AF #[Ap Ac,Ap Ac])∧w=w':=by
 have d1:(op==33)=Ac:=AA;have d2:(op==34)=Ac:=AA;have d3:(op==35)=Ac:=AA;have d4:(op==36)=Ac:=AA;have d5:(op==37)=Ac:=AA;exact PP
theorem sign_any(w:Aa)(b:Int)(h0:0≤b)(h1:b≤4294967295):At Tryz.prog 142 #[J V b] w λe w'=>e=Ax (J V (CM b))∧w=w':=by
 have e8:IntKind.i8.wrap b=if b%256<128 then b%256 else b%256 -256:=by
  simp[IntKind.wrap,IntKind.bits,IntKind.signed];exact Lv
 have e:IntKind.i8.wrap b%4294967296=CM b:=by
  rw[e8];unfold CM;split<;>omega
 clear e8;go_in
 go_wp2
 go_ret;exact⟨by simp[wrap32,e],rfl⟩
end Ar
namespace Rn
open Gs Sv Gm Gc
theorem Dn.setF{W:Aa}{p:Rp}{x:Rs}{P:AE}{a:Bs.Ab}{A:Mu.Au}{g:Mc}(H:Dn W p x P a A g)(f:Int):Dn (W.setCell ⟨p.g,3,G⟩ (J V f)) p {x with s:={x.s with fl:=f}} P a A g∧Lk W (W.setCell ⟨p.g,3,G⟩ (J V f)) p p P P:=by
 have f1:Fr (· =p.g) W (W.setCell ⟨p.g,3,G⟩ (J V f)):=(Ao _ W).at_ 3 _;refine⟨⟨⟨?_,H.rn.d.fr f1 (λk hk e=>H.rn.gA C0),H.rn.r.fr f1 (λk hk e=>H.rn.gB C0),H.rn.ne,H.rn.cs⟩,H.mc.fr f1 (λk e=>H.ip k (Af e)) (λe=>H.n0 (Af e)),H.ip,H.n0⟩,Lk.frI (f1.mono (λk _ e=> Af e))⟩;have h1:=H.rn.b.set_ 3 (J V f);exact ND
theorem Dn.setP{W:Aa}{p:Rp}{x:Rs}{P:AE}{a:Bs.Ab}{A:Mu.Au}{g:Mc}(H:Dn W p x P a A g)(f:Int):Dn (W.setCell ⟨p.g,0,G⟩ (J V f)) p {x with s:={x.s with pc:=f}} P a A g∧Lk W (W.setCell ⟨p.g,0,G⟩ (J V f)) p p P P:=by
 have f1:Fr (· =p.g) W (W.setCell ⟨p.g,0,G⟩ (J V f)):=(Ao _ W).at_ 0 _;refine⟨⟨⟨?_,H.rn.d.fr f1 (λk hk e=>H.rn.gA C0),H.rn.r.fr f1 (λk hk e=>H.rn.gB C0),H.rn.ne,H.rn.cs⟩,H.mc.fr f1 (λk e=>H.ip k (Af e)) (λe=>H.n0 (Af e)),H.ip,H.n0⟩,Lk.frI (f1.mono (λk _ e=> Af e))⟩;have h1:=H.rn.b.set_ 0 (J V f);exact ND
theorem We(n:Int):0≤CM n∧CM n≤4294967295:=by
 unfold CM;split<;>omega
def there(s:St)(n:Int):Int:=(s.pc+CM n)%4294967296
inductive Rc (x:Rs)(n:Int):Int→Rs→Bool→Prop
 |jmp:Rc x n 32 {x with s:={x.s with pc:=there x.s n}} Ag
 |jmpi (hd:1≤x.s.d.length):Rc x n 40 {x with s:={x.s with d:=x.s.d.dropLast,pc:=AW x.s.d}} Ag
 |no {op:Int} (hop:40<op):Rc x n op x Ac
theorem Q3(op n:Int)(w:Aa)(p:Rp)(x Y:Rs)(b:Bool)(P:AE)(a:Bs.Ab)(A:Mu.Au)(g:Mc)(h:Dn w p x P a A g)(hk:Rk x.s)(n0:0≤n)(n1:n≤4294967295)(hc:Rc x n op Y b):At Tryz.prog 130 #[↑p.g,A9 #[J U op,J V n]] w (DPost w p P a A Y g (Ap b)):=by
 have D0:=T (h.fr0 ((Ao Aj w).alloc (.cells #[J U op,J V n] 27)));have L0:=T (Lk.fr0 (p:=p) (P:=P) ((Ao Aj w).alloc (.cells #[J U op,J V n] 27)));have bx:Blk (w.alloc (.cells #[J U op,J V n] 27)) ↑w 27 #[J U op,J V n]:=AI _ _ _;have HK:=T hk;have HC:=T hc;have hw:IntKind.u32.wrap (x.s.pc+CM n)=there x.s n:=Gu _;have hpc0:=hk.1.pc.1;have hpc1:=hk.1.pc.2;have hsg0:=(We n).1;have hsg1:=(We n).2;have Hs:=T (λW=>Ar.sign_any W n n0 n1);clear h hk hc;go_in;go_upto_region 1 with(fail);obtain⟨W0,hW0⟩:=A8 (w.alloc (.cells #[J U op,J V n] 27));rw[hW0] at D0 L0 bx⊢;clear hW0;generalize hgb:w.heap.size=gb at*;have y0:=bx.cell 0;have y1:=bx.cell 1;have c0:=D0.out.rn.b.cell 0;generalize CM n=sg at*;go_region_held (λW=>W.cell? ⟨p.g,0,G⟩=I (J V x.s.pc)∧W.cell? ⟨gb,1,G⟩=I (J V n)) (first|exact⟨c0,y1⟩|go_keep)
  (((refine(Hs.out _).mono ?_);rintro e w' ⟨rfl,rfl⟩))
 have D0:=T (D0.out.fr0 (Ao Aj W0).drew);have L0:=T (L0.out.tr (Lk.fr0 (Ao Aj W0).drew));have c3:=D0.out.rn.b.cell 3;have z0:=D0.out.rn.b.frozen 0;have c0:=D0.out.rn.b.cell 0
 cases HC.out with
 |jmp=>
  have HX:=T (D0.out.setP (there x.s n))
  go_wp2
  go_ret;exact⟨rfl,_,_,L0.out.tr HX.out.2,HX.out.1⟩
 |jmpi hd=>
  have H0:=T (NC W0.drew _ _ _ _ D0.out.rn (ne_of (n:=0) hd));clear hd;go_wp2_with fail;refine Az H0 ?_;intro e w1 hq;obtain⟨rfl,⟨g1,A1,ca1,B1,cb1⟩,P1,L1,D1⟩:=D0.out.ofR hq;obtain rfl:g1=p.g:=L1.g;have L1:=T (L0.out.tr L1);have D1:=T D1;clear hq;have z1:=D1.out.rn.b.frozen 0;have k1:=D1.out.rn.b.cell 0;have HX:=T (D1.out.setP (AW x.s.d))
  go_wp2
  go_ret;exact⟨rfl,_,_,L1.out.tr HX.out.2,HX.out.1⟩
 |no hop=>
  have Hh:=T (λW=>Ar.holds_no W op x.s.fl hop);obtain⟨n32,n38,n39,n40⟩:(op==32)=Ac∧(op==38)=Ac∧(op==39)=Ac∧(op==40)=Ac:=AA;have d1:=Qs;go_wp2_with fail;refine(Hh.out _).mono ?_;rintro e w' ⟨rfl,rfl⟩;exact Wc
end Rn
namespace Rn
open Gs Sv Gm Gc
structure Suits(s:St)(op:Int):Prop where
 td:Gs.takeD op≤s.d.length
 tr:Gs.takeR op≤s.r.length
 pd:s.d.length -Gs.takeD op+Gs.putD op≤16
 pr:s.r.length -Gs.takeR op+Gs.putR op≤16
theorem rs_eta(x:Rs)(ec:x.c=0)(ea:x.a=0)(s':St):({x with s:=s',c:=0,a:=0}:Rs)={x with s:=s'}:=by
 cases x
 simp only at ec ea;rw[ec,ea]
section
variable (w:Aa) (p:Rp) (x:Rs) (P:AE) (a:Bs.Ab) (A:Mu.Au) (g:Mc)
theorem mJ(h:Dn w p x P a A g)(hk:Rk x.s)(op n:Int)(hu:GE op=Ag)(hs:Suits x.s op)(hb:C8 op=Ag):At Tryz.prog 129 #[↑p.g,A9 #[J U op,J V n]] w (DPost w p P a A {x with s:=stackS x.s ⟨op,n⟩} g (Ap Ag)):=by
 have hl:x.s.d.length≤16∧x.s.r.length≤16:=⟨hk.2.1,hk.2.2.1⟩;have t1:=hs.td;have t2:=hs.tr;have hc:
  op=1∨
  op=2∨
  False:=by
  simp[C8] at hb
  simp[GE] at hu
  omega
 rcases hc with
  rfl|
  rfl|
  h0
 ·exact mH n w p x P a A g h hl
 ·exact mI n w p x P a A g h hl
 ·exact h0.elim
theorem mK(h:Dn w p x P a A g)(hr:Ready x)(op n:Int)(n0:0≤n)(n1:n≤4294967295)(hu:GE op=Ag)(hb0:C8 op=Ac)(hs:Suits x.s op):At Tryz.prog 130 #[↑p.g,A9 #[J U op,J V n]] w (DPost w p P a A {x with s:=reckS x.s ⟨op,n⟩,c:=0,a:=0} g (Ap (Fc op))):=by
 have hk:=hr.k;have t1:=hs.td;have t2:=hs.tr;have ec:=hr.c;have ea:=hr.a;have ha: ¬(16≤op∧op≤25):=by simp[GE] at hu;omega
 have eX2:=rs_eta x ec ea (reckS x.s ⟨op,n⟩);rw[eX2];by_cases c32:op=32;·subst c32;exact Q3 32 n w p x _ Ag P a A g h hk n0 n1 .jmp
 by_cases c40:op=40;·subst c40;exact Q3 40 n w p x _ Ag P a A g h hk n0 n1 (.jmpi t1)
 simp[GE] at hu;simp[C8] at hb0;have h40:40<op:=O;have eB:Fc op=Ac:=by simp[Fc];omega
 have eS:reckS x.s ⟨op,n⟩=x.s:=by
  have hh:Gp op x.s.fl=Ac:=Wg;exact Wh
 rw[eB,eS];exact Q3 op n w p x _ _ P a A g h hk n0 n1 (.no h40)
end
end Rn
namespace Rn
open Gs Sv Gm Gc
theorem DPost.from0{w w1 w2:Aa}{p:Rp}{P:AE}{a:Bs.Ab}{A:Mu.Au}{x':Rs}{g':Mc}{v:As}{e:AY}(f:Fr Aj w w1)(h:DPost w1 p P a A x' g' v e w2):DPost w p P a A x' g' v e w2:=DPost.tr (Lk.fr0 f) h
theorem oth_ld(n:Int)(w:Aa)(p:Rp)(x:Rs)(P:AE)(a:Bs.Ab)(A:Mu.Au)(g:Mc)(h:Dn w p x P a A g)(hr:Ready x)(hpg:x.s.pg=Ac)(hd:x.s.d≠[])(hv:EH (AW x.s.d)=Ag):At Tryz.prog 131 #[↑p.g,A9 #[J U 48,J V n]] w (DPost w p P a A (Ea (ldR x.s x.cnt g) x.cnt) (ldR x.s x.cnt g).g (AF #[])):=by
 have D0:=T (h.fr0 ((Ao Aj w).alloc (.cells #[J U 48,J V n] 27)));have F0:=T ((Ao Aj w).alloc (.cells #[J U 48,J V n] 27));have HD:=T (Ay hpg (Ay hd hv));clear hd hpg hv;have HR:=T hr;clear h hr;go_in;have H0:=T (load_any (w.alloc (.cells #[J U 48,J V n] 27)) p x P a A g D0.out HR.out HD.out.1 HD.out.2.1 HD.out.2.2);exact Wi
theorem oth_st(n:Int)(w:Aa)(p:Rp)(x:Rs)(P:AE)(a:Bs.Ab)(A:Mu.Au)(g:Mc)(h:Dn w p x P a A g)(hr:Ready x)(hpg:x.s.pg=Ac)(hd:2≤x.s.d.length)(hv:EH (AW x.s.d)=Ag)(ho:g.b.outs.length≤1000000):At Tryz.prog 131 #[↑p.g,A9 #[J U 49,J V n]] w (DPost w p P a A (Ea (stR x.s x.cnt g) x.cnt) (stR x.s x.cnt g).g (AF #[])):=by
 have D0:=T (h.fr0 ((Ao Aj w).alloc (.cells #[J U 49,J V n] 27)));have F0:=T ((Ao Aj w).alloc (.cells #[J U 49,J V n] 27));have HD:=T (Ay hpg (Ay hd hv));have HO:=T ho;clear hd ho hpg hv;have HR:=T hr;clear h hr;go_in;have H0:=T (store_any (w.alloc (.cells #[J U 49,J V n] 27)) p x P a A g D0.out HR.out HD.out.1 HD.out.2.1 HD.out.2.2 HO.out);exact Wi
theorem oth_halt(n:Int)(w:Aa)(p:Rp)(x:Rs)(P:AE)(a:Bs.Ab)(A:Mu.Au)(g:Mc)(h:Dn w p x P a A g)(hr:Ready x):At Tryz.prog 131 #[↑p.g,A9 #[J U 69,J V n]] w (DPost w p P a A (Ea ⟨{x.s with ha:=Ag},0,0,Ac,g⟩ x.cnt) g (AF #[])):=by
 have D0:=T (h.fr0 ((Ao Aj w).alloc (.cells #[J U 69,J V n] 27)));have F0:=T ((Ao Aj w).alloc (.cells #[J U 69,J V n] 27));have HR:=T hr;clear h hr;go_in;go_upto_region 33 with(fail);obtain⟨W0,hW0⟩:=A8 (w.alloc (.cells #[J U 69,J V n] 27));rw[hW0] at D0 F0⊢;clear hW0;have z:=D0.out.rn.b.frozen 15;have c:=D0.out.rn.b.cell 15;have f1:Fr (· =p.g) W0 (W0.setCell ⟨p.g,15,G⟩ (Ap Ag)):=(Ao _ W0).at_ 15 _;have hD:Dn (W0.setCell ⟨p.g,15,G⟩ (Ap Ag)) p {x with s:={x.s with ha:=Ag}} P a A g:=by
  refine⟨⟨?_,D0.out.rn.d.fr f1 (λk hk e=>D0.out.rn.gA C0),D0.out.rn.r.fr f1 (λk hk e=>D0.out.rn.gB C0),D0.out.rn.ne,D0.out.rn.cs⟩,D0.out.mc.fr f1 (λk e=>D0.out.ip k (Af e)) (λe=>D0.out.n0 (Af e)),D0.out.ip,D0.out.n0⟩;have h1:=D0.out.rn.b.set_ 15 (Ap Ag);exact ND
 have HD:=T hD;have HF:=T f1;clear hD f1
 go_wp2
 go_end0;have hr:=HR.out;have hx:=HD.out;refine⟨rfl,_,_,(Lk.fr0 F0.out).tr (Lk.frI (HF.out.mono (λk _ e=> Af e))), ?_⟩;simpa only[Ea,hr.c,hr.a,hr.dv] using hx
end Rn
namespace Rn
open Gs Sv Gm Gc
theorem wpL_ldm{P:CF}{w:Aa}{g:Nat}{t ty:AN}{cs:AO}{d:TypeDesc}{n:Nat}(ds:AO)(h:Blk w g t cs)(hu:P.underlying ty=I d)(hi:(P.info? ty).map (·.size)=I n)(hd:d.isRow=Ag)(hn:ds.size=n)(hds: ∀j,j<ds.size→cs[j]?=ds[j]?){ops:Array BM}{rest:List BM}{a:Act}{Q:Exit→Act→Aa→Prop}{dst:Option Tmp}{t2:AN}{pos:String}{af:Array Edge}{x:De}(hx:a.eval x=↑g)(hk:Cy P ops Q rest (a.put dst (A9 ds)) w):Cy P ops Q (⟨dst,.load ty x,t2,pos,af,G⟩::rest) a w:=by
 refine wpList_load_mid rfl ty x rfl g 0 hx ds.toList d (λj v hv=>?_) hu hd Nh ?_;·exact Wj
 ·simpa using hk
theorem NQ(x:Rs)(D R Cv C4:As): ∀j,j<(stc x.s D R).size→(rc x D R Cv C4)[j]?=(stc x.s D R)[j]?:=Wl
end Rn
namespace Rn
open Gs Sv Gm Gc
theorem KE{P:CF}{w:Aa}{g:Nat}{t ty:AN}{cs:AO}{d:TypeDesc}{n:Nat}(ds:AO)(h:Blk w g t cs)(hu:P.underlying ty=I d)(hi:(P.info? ty).map (·.size)=I n)(hd:d.isRow=Ag)(hn:ds.size=n)(hds: ∀j,j<ds.size→cs[j]?=ds[j]?){ops:Array BM}{o:BM}{a:Act}{K:Act→Aa→Prop}{Q:Exit→Act→Aa→Prop}{E:Prop}{x:De}(ho:o.op=.load ty x)(hg:o.guard=G)(hx:a.eval x=↑g)(hk:K (a.put o.dst (A9 ds)) w):if Dm o (yielded ops a.tmps)=Ag then EP P o a w K Q else E:=by
 have hw:=NR;rw[An hw];refine wp_load_mid ty x ho g 0 hx ds.toList d (λj v hv=>?_) hu hd Nh ?_;·exact Wj
 ·simpa using hk
theorem step_stm{P:CF}{w:Aa}{g:Nat}{t ty:AN}{cs cs':AO}{n:Nat}(h:Blk w g t cs)(hi:(P.info? ty).map (·.size)=I n)(hs:cs'.size≤cs.size)(hn:cs'.size=n)(h1:cs'.all (·.oneCell')=Ag){ops:Array BM}{o:BM}{a:Act}{K:Act→Aa→Prop}{Q:Exit→Act→Aa→Prop}{E:Prop}{x y:De}(ho:o.op=.store ty x y)(hg:o.guard=G)(hx:a.eval x=↑g)(hy:a.eval y=A9 cs')(hk: ∀W,Blk W g t (Dp cs 0 cs'.toList)→Fr (· =g) w W→K (a.put o.dst BY) W):if Dm o (yielded ops a.tmps)=Ag then EP P o a w K Q else E:=by
 have hw:=NR;rw[An hw];refine wp_store_mid ty x y ho g 0 cs' hx hy (λj hj=>?_) (by rw[hi,hn]) h1 (hk _ (h.setCells cs'.toList 0) (Fr.setCells _ _ (Ao _ _) (Af rfl)));exact Wm
end Rn
namespace Rn
open Gs Sv Gm Gc
theorem len_ne{l:List Int}{k:Nat}(h:k+1≤l.length):l≠[]:=λe=>by rw[e] at h;simp at h
theorem mL(w:Aa)(p:Rp)(x:Rs)(P:AE)(a:Bs.Ab)(A:Mu.Au)(g:Mc)(h:Dn w p x P a A g)(hr:Ready x)(op n:Int)(n0:0≤n)(n1:n≤4294967295)(hu:Ux x.s op n)(hs:Suits x.s op)(h1:C8 op=Ac)(h2:Fc op=Ac)(ho:g.b.outs.length≤1000000):At Tryz.prog 131 #[↑p.g,A9 #[J U op,J V n]] w (DPost w p P a A (Ea (Iu x.s x.cnt ⟨op,n⟩ g) x.cnt) (Iu x.s x.cnt ⟨op,n⟩ g).g (AF #[])):=by
 have t1:=hs.td;have hop:=hu.uo;simp[GE] at hop;simp[C8] at h1;simp[Fc] at h2;have hc:
  op=48∨
  op=49∨
  op=69∨
  False:=O
 rcases hc with
  rfl|
  rfl|
  rfl|
  h0
 ·exact oth_ld n w p x P a A g h hr hu.pg (len_ne (k:=0) t1) (hu.ld rfl)
 ·exact oth_st n w p x P a A g h hr hu.pg t1 (hu.st rfl) ho
 ·exact oth_halt n w p x P a A g h hr
 ·exact h0.elim
theorem mM{s:St}{op n:Int}(h:check s ⟨op,n⟩=0):Suits s op:=by
 obtain⟨_,h1,h2,h3,h4⟩:=VK h;exact⟨h1,h2,h3,h4⟩
abbrev EK(s:St)(D R:As)(tr dv:Bool)(pg:As):AO:=#[J V s.pc,D,R,J V s.fl,Ap s.su,Ap s.pg,Ap s.ie,J V s.rt,J V s.ve,J V s.ep,J V s.ca,J V s.ad,Ap s.es,Ap s.ei,J AP s.ct,Ap s.ha,Ap tr,Ap dv,pg]
structure Stp(w w':Aa)(P:AE)(a:Bs.Ab)(A:Mu.Au)(s:St)(g:Mc)(X Y:Aw)(c d:Nat):Prop where
 st:StV w' 0 s (Z X s.d.length c) (Z Y s.r.length d)
 ne: ∀k,ab X=I k→ab Y≠I k
 f:Fr (λk=> ¬P k) w w'
 mc: ∃P',(∀k,P k→P' k)∧(∀k,P' k→P k∨w.heap.size≤k)∧(∀k,ab X=I k∨ab Y=I k→P' k)∧(∀k,ab X=I k∨ab Y=I k→P k∨w.heap.size≤k)∧Mch w' P' a A g
def Q4(w:Aa)(P:AE)(a:Bs.Ab)(A:Mu.Au)(r:Rz)(e:AY)(w':Aa):Prop:=
 ∃X c Y d Bh n m,e=Ax (A9 (EK r.s (Z X r.s.d.length c) (Z Y r.s.r.length d) r.tr r.dv (Z Bh n m)))∧Stp w w' P a A r.s r.g X Y c d∧IntsAt U w' ↑w' Bh n r.pg∧n≤m∧n≤64∧w'.ownsRow ↑w 3 1 (Z Bh n m) n (r.pg.map (J U))
theorem szR:(Tryz.prog.info? 206).map (·.size)=I 19:=AL
end Rn
namespace Rn
open Gs Sv Gm Gc
abbrev z19:AO:=#[J V 0,Z G 0 0,Z G 0 0,J V 0,Ap Ac,Ap Ac,Ap Ac,J V 0,J V 0,J V 0,J V 0,J V 0,Ap Ac,Ap Ac,J AP 0,Ap Ac,Ap Ac,Ap Ac,Z G 0 0]
theorem tu_calm{m:Rm.Ms}(h:Mu.TuOk m):Mu.TuOk m.calm:=λk _ _=>rfl
theorem boxed3(w:Aa)(cs es ds:AO)(t t2 t3:AN):Blk (((w.alloc (.cells cs t)).alloc (.cells es t2)).alloc (.cells ds t3)) ↑w t cs∧Blk (((w.alloc (.cells cs t)).alloc (.cells es t2)).alloc (.cells ds t3)) (↑w+1) t2 es∧Blk (((w.alloc (.cells cs t)).alloc (.cells es t2)).alloc (.cells ds t3)) (↑w+2) t3 ds∧Fr Aj w (((w.alloc (.cells cs t)).alloc (.cells es t2)).alloc (.cells ds t3)):=by
 refine⟨((AI w t cs).alloc _).alloc _, ?_, ?_,(((Ao _ w).alloc _).alloc _).alloc _⟩;·have:=(AI (w.alloc (.cells cs t)) t2 es).alloc (.cells ds t3);exact T1
 ·have:=AI ((w.alloc (.cells cs t)).alloc (.cells es t2)) t3 ds;rwa[show((w.alloc (.cells cs t)).alloc (.cells es t2)).heap.size=w.heap.size+2 by simp] at this
end Rn
end Go.Proofs.YtdfegdoeebaagaaGreatDoor
