import Derived.Test.YtpmlgdopfafcgaaGreatDoorY1
open Go.Value renaming int→J,slice→U,bool→Ap,tuple→AD,ownBlock→Bp,agg→AA,pointer→Bi
open Option renaming some→I,none→G
open Go.IntKind renaming i64→Z,u32→V,u64→AM,u8→AC,wrap_u64→Dk,wrap_u32→DH
open Bool renaming false→Aa,true→Af,false_ne_true→Da,false_and→D7
open Go renaming World→Ac,Value→As,Calls→At,bodyPost_ret→Bf,TypeId→AK,wp_region_held_drew→BY,info_parts→BH,Ending→AT,madeCells→Cb,maxLen→Br,Program→BW,undef→Bt,wpList→BL,bits→Bb,run_underlying→CX
open List renaming getD_eq_getElem?_getD→AN,getElem?_eq_getElem→Bj,length_append→BJ,append_assoc→BM,mem_map→Bo,getElem?_take_of_lt→Cw,replicate→BK,range→Bm,getElem?_append_right→CB,getElem_mem→BU,mem_append→BZ,getElem?_append_left→CO,getElem?_map→C7,cons_append→CC,mem_filter→C8,length_pos_iff→CP,length_cons→CK,mem_cons→Cy,getLastD_eq_getLast?→Dg,nil_append→CI,getElem?_eq_none→De,dropLast_concat→Do,mem_singleton→Dv,map_append→Df,length_map→Di,getElem_of_mem→DD,length_nil→Dp,concat_eq_append→DI,getElem?_range→DL,range_succ→DB,getElem?_replicate→DW,singleton_append→DV,map_cons→D6,map_map→D8,setIfInBounds_toArray→Eb
open Go.Ending renaming returned→Ax
open And renaming intro→A9
open Nat renaming le_refl→AE,lt_of_lt_of_le→AW,le_trans→AS,zero_le→AU,zero_add→Bn,eq_zero_or_pos→Dm,reduceEqDiff→Dq
open Or renaming inl→Ag,inr→Ah
open Go.Proofs.Tryz renaming underlying41→AP,underlying31→CF,underlying22→CV,underlying215→Dl,underlying26→DN
open Go.RowKit renaming intOf→AJ
open Int renaming eq_ofNat_of_zero_le→CM,toNat_natCast→C4,emod_eq_of_lt→CZ
open Go.Builtin renaming zeroCells→CG,delete_→Eh
open Array renaming getElem?_toList→CN,getElem?_eq_some_iff→DX
open Go.Region renaming wanted→CA
open Go.Result renaming andThen→CT
open Option.some renaming inj→Ds
open Go.MapKept renaming run_getObj_map→DJ,run_setObj_map→Ef
open Go.Instr renaming makeSlice→Dj,mapUpdate→DK
open Go.IntWalk renaming i64_in→Du
open Go.Lit renaming int→C9
open Go.Sem renaming run_bind→D5
set_option linter.all false
set_option maxHeartbeats 40000000
set_option maxRecDepth 1000000
open Go Go.RowKit
namespace Go.Proofs.YtpmlgdopfafcgaaGreatDoor
namespace Sp
open Gs Sv Gc
def ChP(w:Ac)(v:Int)(e:AT)(w':Ac):Prop:=e=Ax (J Z v)∧Fr Aj w w'
def fitV(s:St)(op:Int):Int:=if s.d.length<Gs.takeD op∨s.r.length<Gs.takeR op then 3 else if 16<s.d.length -Gs.takeD op+Gs.putD op∨16<s.r.length -Gs.takeR op+Gs.putR op then 4 else 0
theorem needs_bd(op:Int):Gs.takeD op≤3∧Gs.putD op≤3∧Gs.takeR op≤3∧Gs.putR op≤3:=by
 unfold Gs.takeD Gs.putD Gs.takeR Gs.putR;refine⟨?_, ?_, ?_, ?_⟩<;>(repeat' split)<;>omega
theorem check_on(w:Ac)(base:Nat)(s:St)(A B:Aw)(c d:Nat)(h:StV w base s (U A s.d.length c) (U B s.r.length d))(hd:s.d.length≤1000)(hr:s.r.length≤1000)(op n:Int)(n0:0≤n)(n1:n≤4294967295):At Tryz.prog 118 #[AA (stc s (U A s.d.length c) (U B s.r.length d)),AA #[J Z op,J V n]] w (ChP w (check s ⟨op,n⟩)):=by
 obtain⟨b1,b2,f0⟩:=boxed2 w (stc s (U A s.d.length c) (U B s.r.length d)) #[J Z op,J V n] 41 26;have Hr:=T (right_any ((w.alloc (.cells (stc s (U A s.d.length c) (U B s.r.length d)) 41)).alloc (.cells #[J Z op,J V n] 26)) ⟨op,n⟩);have Hs:=T (λW=>U7 W op);have Hg:=T (λW=>get_any W s (U A s.d.length c) (U B s.r.length d) n n0 h.ok.ct.1);have Ht:=T (λW (f:Fr Aj w W)=>set_any W base s A B c d (h.fr0 f) O O n 0 O O);have B1:=T b1;have B2:=T b2;have F0:=T f0;have hcv:=Jy;clear b1 b2 f0 h;by_cases hR:rightI ⟨op,n⟩=Af
 ·have hk:knownB op=Af:=UA hR;have Hn:=T (λW=>U9 W op hk);unfold needsV at Hn;have eC:check s ⟨op,n⟩=if superB op&& !s.su then 2 else if decide (op=66)&& !getB n then 1 else if decide (op=67)&& !setB n then 1 else fitV s op:=by
   unfold check fitV;rw[Ae (by rw[hR];simp)]
  have nb:Gs.takeD op≤3∧Gs.putD op≤3∧Gs.takeR op≤3∧Gs.putR op≤3:=needs_bd op;obtain⟨nb1,nb2,nb3,nb4⟩:=nb;rw[hR] at Hr;rw[eC];clear eC hR hk;by_cases hS:superB op=Af
  ·rw[hS] at Hs⊢;by_cases hu:s.su=Af
   ·have e1:(Af&& !s.su)=Aa:=by rw[hu];rfl
    rw[e1,Ae Da];clear e1;by_cases h66:op=66
    ·subst h66
     cases hg:getB n
     ·rw[hg] at Hg;rw[show(decide ((66:Int)=66)&& !false)=Af by rfl,An rfl];clear hg hS Ht Hn;have X0:=T B1.out;have Y0:=T B2.out;go_in;go_wp2_with fail;refine Ay Hr ?_;rintro e w2 ⟨rfl,f1⟩;have F1:=T (F0.out.tr f1);have X1:=T (X0.out.fr f1 id);have Y1:=T (Y0.out.fr f1 id);have b11:=X1.out;have u0:=Y1.out.cell 0;have u1:=Y1.out.cell 1;have v1:=X1.out.cell 1;have v2:=X1.out.cell 2;have v4:=X1.out.cell 4;clear f1;go_wp2_with fail;refine(Hs.out _).mono ?_;rintro e w' ⟨rfl,rfl⟩;go_wp2_with ((with_reducible refine wpL_lq b11 AP sz16 ?_));refine(Hg.out _).mono ?_;rintro e w3 ⟨rfl,f2⟩;have F2:=T (F1.out.tr f2);clear u0 u1 v1 v2 v4;have X2:=T (X1.out.fr f2 id);have Y2:=T (Y1.out.fr f2 id);have b12:=X2.out;have u0:=Y2.out.cell 0;have u1:=Y2.out.cell 1;have v1:=X2.out.cell 1;have v2:=X2.out.cell 2;have v4:=X2.out.cell 4;clear f2 b11
      go_wp2
      exact Jz
     ·rw[hg] at Hg;rw[show(decide ((66:Int)=66)&& !true)=Aa by rfl,Ae Da,show decide ((66:Int)=67)=Aa by rfl,D7,Ae Da];clear hg hS;have X0:=T B1.out;have Y0:=T B2.out;go_in;go_wp2_with fail;refine Ay Hr ?_;rintro e w2 ⟨rfl,f1⟩;have F1:=T (F0.out.tr f1);have X1:=T (X0.out.fr f1 id);have Y1:=T (Y0.out.fr f1 id);have b11:=X1.out;have u0:=Y1.out.cell 0;have u1:=Y1.out.cell 1;have v1:=X1.out.cell 1;have v2:=X1.out.cell 2;have v4:=X1.out.cell 4;clear f1;go_wp2_with fail;refine(Hs.out _).mono ?_;rintro e w' ⟨rfl,rfl⟩;go_wp2_with ((with_reducible refine wpL_lq b11 AP sz16 ?_));refine(Hg.out _).mono ?_;rintro e w3 ⟨rfl,f2⟩;have F2:=T (F1.out.tr f2);clear u0 u1 v1 v2 v4;have X2:=T (X1.out.fr f2 id);have Y2:=T (Y1.out.fr f2 id);have b12:=X2.out;have u0:=Y2.out.cell 0;have u1:=Y2.out.cell 1;have v1:=X2.out.cell 1;have v2:=X2.out.cell 2;have v4:=X2.out.cell 4;clear f2 b11;go_wp2_with ((with_reducible refine wpL_lq b12 AP sz16 ?_));refine(Ht.out _ F2.out).mono ?_;rintro e w4 ⟨A4,c4,B4,d4,rfl,_,_,f3⟩;have F3:=T (F2.out.tr f3);clear u0 u1 v1 v2 v4;have X3:=T (X2.out.fr f3 id);have Y3:=T (Y2.out.fr f3 id);have b13:=X3.out;have u0:=Y3.out.cell 0;have u1:=Y3.out.cell 1;have v1:=X3.out.cell 1;have v2:=X3.out.cell 2;have v4:=X3.out.cell 4;have hg4:=X3.out.lt;have hg5:=Y3.out.lt;clear f3 b12;have HX3:=X3;by_cases q1:s.d.length<Gs.takeD 66;·have e1:decide (s.d.length<Gs.takeD 66)=Af:=A8;have hfv:Hid (fitV s 66=3):=T J0;exact CW
      ·by_cases q2:s.r.length<Gs.takeR 66;·have e1:=GT;have e2:decide (s.r.length<Gs.takeR 66)=Af:=A8;have hfv:Hid (fitV s 66=3):=T J1;exact CW
       ·by_cases q3:16<s.d.length -Gs.takeD 66+Gs.putD 66;·have e1:=GT;have e2:=J2;have e3:decide ((16:Int)<(s.d.length:Int) -(Gs.takeD 66:Int)+(Gs.putD 66:Int))=Af:=A8;have hfv:Hid (fitV s 66=4):=T J3;exact CW
        ·by_cases q4:16<s.r.length -Gs.takeR 66+Gs.putR 66;·have e1:=GT;have e2:=J2;have e3:=NA;have e4:decide ((16:Int)<(s.r.length:Int) -(Gs.takeR 66:Int)+(Gs.putR 66:Int))=Af:=A8;have hfv:Hid (fitV s 66=4):=T J4;exact CW
         ·have e1:=GT;have e2:=J2;have e3:=NA;have e4:decide ((16:Int)<(s.r.length:Int) -(Gs.takeR 66:Int)+(Gs.putR 66:Int))=Aa:=A8;have hfv:Hid (fitV s 66=0):=T J5;exact CW
    ·by_cases h67:op=67
     ·subst h67
      cases hg:setB n
      ·rw[hg] at Ht;rw[show decide ((67:Int)=66)=Aa by rfl,D7,Ae Da,show(decide ((67:Int)=67)&& !false)=Af by rfl,An rfl];clear hg hS Hn h66;have X0:=T B1.out;have Y0:=T B2.out;go_in;go_wp2_with fail;refine Ay Hr ?_;rintro e w2 ⟨rfl,f1⟩;have F1:=T (F0.out.tr f1);have X1:=T (X0.out.fr f1 id);have Y1:=T (Y0.out.fr f1 id);have b11:=X1.out;have u0:=Y1.out.cell 0;have u1:=Y1.out.cell 1;have v1:=X1.out.cell 1;have v2:=X1.out.cell 2;have v4:=X1.out.cell 4;clear f1;go_wp2_with fail;refine(Hs.out _).mono ?_;rintro e w' ⟨rfl,rfl⟩;go_wp2_with ((with_reducible refine wpL_lq b11 AP sz16 ?_));refine(Hg.out _).mono ?_;rintro e w3 ⟨rfl,f2⟩;have F2:=T (F1.out.tr f2);clear u0 u1 v1 v2 v4;have X2:=T (X1.out.fr f2 id);have Y2:=T (Y1.out.fr f2 id);have b12:=X2.out;have u0:=Y2.out.cell 0;have u1:=Y2.out.cell 1;have v1:=X2.out.cell 1;have v2:=X2.out.cell 2;have v4:=X2.out.cell 4;clear f2 b11;go_wp2_with ((with_reducible refine wpL_lq b12 AP sz16 ?_));refine(Ht.out _ F2.out).mono ?_;rintro e w4 ⟨A4,c4,B4,d4,rfl,_,_,f3⟩;have F3:=T (F2.out.tr f3);clear u0 u1 v1 v2 v4;have X3:=T (X2.out.fr f3 id);have Y3:=T (Y2.out.fr f3 id);have b13:=X3.out;have u0:=Y3.out.cell 0;have u1:=Y3.out.cell 1;have v1:=X3.out.cell 1;have v2:=X3.out.cell 2;have v4:=X3.out.cell 4;have hg4:=X3.out.lt;have hg5:=Y3.out.lt;clear f3 b12
       go_wp2
       go_ret;exact⟨rfl,F3.out.alloc _⟩
      ·rw[hg] at Ht;rw[show decide ((67:Int)=66)=Aa by rfl,D7,Ae Da,show(decide ((67:Int)=67)&& !true)=Aa by rfl,Ae Da];clear hg hS h66;have X0:=T B1.out;have Y0:=T B2.out;go_in;go_wp2_with fail;refine Ay Hr ?_;rintro e w2 ⟨rfl,f1⟩;have F1:=T (F0.out.tr f1);have X1:=T (X0.out.fr f1 id);have Y1:=T (Y0.out.fr f1 id);have b11:=X1.out;have u0:=Y1.out.cell 0;have u1:=Y1.out.cell 1;have v1:=X1.out.cell 1;have v2:=X1.out.cell 2;have v4:=X1.out.cell 4;clear f1;go_wp2_with fail;refine(Hs.out _).mono ?_;rintro e w' ⟨rfl,rfl⟩;go_wp2_with ((with_reducible refine wpL_lq b11 AP sz16 ?_));refine(Hg.out _).mono ?_;rintro e w3 ⟨rfl,f2⟩;have F2:=T (F1.out.tr f2);clear u0 u1 v1 v2 v4;have X2:=T (X1.out.fr f2 id);have Y2:=T (Y1.out.fr f2 id);have b12:=X2.out;have u0:=Y2.out.cell 0;have u1:=Y2.out.cell 1;have v1:=X2.out.cell 1;have v2:=X2.out.cell 2;have v4:=X2.out.cell 4;clear f2 b11;go_wp2_with ((with_reducible refine wpL_lq b12 AP sz16 ?_));refine(Ht.out _ F2.out).mono ?_;rintro e w4 ⟨A4,c4,B4,d4,rfl,_,_,f3⟩;have F3:=T (F2.out.tr f3);clear u0 u1 v1 v2 v4;have X3:=T (X2.out.fr f3 id);have Y3:=T (Y2.out.fr f3 id);have b13:=X3.out;have u0:=Y3.out.cell 0;have u1:=Y3.out.cell 1;have v1:=X3.out.cell 1;have v2:=X3.out.cell 2;have v4:=X3.out.cell 4;have hg4:=X3.out.lt;have hg5:=Y3.out.lt;clear f3 b12;have HX3:=X3;by_cases q1:s.d.length<Gs.takeD 67;·have e1:decide (s.d.length<Gs.takeD 67)=Af:=A8;have hfv:Hid (fitV s 67=3):=T J0;exact CW
       ·by_cases q2:s.r.length<Gs.takeR 67;·have e1:=GU;have e2:decide (s.r.length<Gs.takeR 67)=Af:=A8;have hfv:Hid (fitV s 67=3):=T J1;exact CW
        ·by_cases q3:16<s.d.length -Gs.takeD 67+Gs.putD 67;·have e1:=GU;have e2:=J6;have e3:decide ((16:Int)<(s.d.length:Int) -(Gs.takeD 67:Int)+(Gs.putD 67:Int))=Af:=A8;have hfv:Hid (fitV s 67=4):=T J3;exact CW
         ·by_cases q4:16<s.r.length -Gs.takeR 67+Gs.putR 67;·have e1:=GU;have e2:=J6;have e3:=NB;have e4:decide ((16:Int)<(s.r.length:Int) -(Gs.takeR 67:Int)+(Gs.putR 67:Int))=Af:=A8;have hfv:Hid (fitV s 67=4):=T J4;exact CW
          ·have e1:=GU;have e2:=J6;have e3:=NB;have e4:decide ((16:Int)<(s.r.length:Int) -(Gs.takeR 67:Int)+(Gs.putR 67:Int))=Aa:=A8;have hfv:Hid (fitV s 67=0):=T J5;exact CW
     ·rw[show decide (op=66)=Aa by simp[h66],D7,Ae Da,show decide (op=67)=Aa by simp[h67],D7,Ae Da];exact NC
   ·have hu:s.su=Aa:=by simpa using hu
    rw[hu];simp only[Bool.not_false,Bool.and_true,if_true];clear Hn Hg Ht hS;have X0:=T B1.out;have Y0:=T B2.out;go_in;go_wp2_with fail;refine Ay Hr ?_;rintro e w2 ⟨rfl,f1⟩;have F1:=T (F0.out.tr f1);have X1:=T (X0.out.fr f1 id);have Y1:=T (Y0.out.fr f1 id);have b11:=X1.out;have u0:=Y1.out.cell 0;have u1:=Y1.out.cell 1;have v1:=X1.out.cell 1;have v2:=X1.out.cell 2;have v4:=X1.out.cell 4;clear f1;go_wp2_with fail;refine(Hs.out _).mono ?_;rintro e w' ⟨rfl,rfl⟩;exact IF
  ·have hS:superB op=Aa:=by simpa using hS
   rw[hS] at Hs⊢;have h66: ¬op=66:=ND;have h67: ¬op=67:=ND;rw[D7,Ae Da,show decide (op=66)=Aa by simp[h66],D7,Ae Da,show decide (op=67)=Aa by simp[h67],D7,Ae Da];exact NC
 ·have hR:rightI ⟨op,n⟩=Aa:=by simpa using hR
  have e:check s ⟨op,n⟩=1:=by unfold check;rw[An hR]
  rw[e];rw[hR] at Hr;clear e hR Hs Hg Ht;go_in;go_wp2_with fail;refine Ay Hr ?_;rintro e w2 ⟨rfl,f1⟩
  go_wp2
  go_ret;exact⟨rfl,F0.out.tr f1⟩
theorem check_any(w:Ac)(base:Nat)(s:St)(A B:Aw)(c d:Nat)(h:StV w base s (U A s.d.length c) (U B s.r.length d))(hd:s.d.length≤1000)(hr:s.r.length≤1000)(i:Ins)(n0:0≤i.n)(n1:i.n≤4294967295):At Tryz.prog 118 #[AA (stc s (U A s.d.length c) (U B s.r.length d)),insV i] w (ChP w (check s i)):=check_on w base s A B c d h hd hr i.op i.n n0 n1
end Sp
end Go.Proofs.YtpmlgdopfafcgaaGreatDoor
