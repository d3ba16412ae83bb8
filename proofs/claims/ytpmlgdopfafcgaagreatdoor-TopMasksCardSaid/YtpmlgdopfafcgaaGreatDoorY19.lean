import Derived.Test.YtpmlgdopfafcgaaGreatDoorY17
import Derived.Test.YtpmlgdopfafcgaaGreatDoorY18
open Go.Value renaming int→J,slice→U,bool→Ap,tuple→AD,ownBlock→Bp,agg→AA,pointer→Bi
open Option renaming some→I,none→G
open Go.IntKind renaming i64→Z,u32→V,u64→AM,u8→AC,wrap_u64→Dk,wrap_u32→DH
open Bool renaming false→Aa,true→Af,false_ne_true→Da,false_and→D7
open Go renaming World→Ac,Value→As,Calls→At,bodyPost_ret→Bf,TypeId→AK,wp_region_held_drew→BY,info_parts→BH,Ending→AT,madeCells→Cb,maxLen→Br,Program→BW,undef→Bt,wpList→BL,bits→Bb,run_underlying→CX
open List renaming getD_eq_getElem?_getD→AN,getElem?_eq_getElem→Bj,length_append→BJ,append_assoc→BM,mem_map→Bo,getElem?_take_of_lt→Cw,replicate→BK,range→Bm,getElem?_append_right→CB,getElem_mem→BU,mem_append→BZ,getElem?_append_left→CO,getElem?_map→C7,cons_append→CC,mem_filter→C8,length_pos_iff→CP,length_cons→CK,mem_cons→Cy,getLastD_eq_getLast?→Dg,nil_append→CI,getElem?_eq_none→De,dropLast_concat→Do,mem_singleton→Dv,map_append→Df,length_map→Di,getElem_of_mem→DD,length_nil→Dp,concat_eq_append→DI,getElem?_range→DL,range_succ→DB,getElem?_replicate→DW,singleton_append→DV,map_cons→D6,map_map→D8,setIfInBounds_toArray→Eb
open Go.Ending renaming returned→Ax
open And renaming intro→A9
open Nat renaming le_refl→AE,lt_of_lt_of_le→AW,le_trans→AS,zero_le→AU,zero_add→Bn,eq_zero_or_pos→Dm,reduceEqDiff→Dq
open Or renaming inl→Ag,inr→Ah
open Go.Proofs.Tryz renaming underlying41→AP,underlying31→CF,underlying22→CV,underlying215→Dl,underlying26→DN
open Go.RowKit renaming intOf→AJ
open Int renaming eq_ofNat_of_zero_le→CM,toNat_natCast→C4,emod_eq_of_lt→CZ
open Go.Builtin renaming zeroCells→CG,delete_→Eh
open Array renaming getElem?_toList→CN,getElem?_eq_some_iff→DX
open Go.Region renaming wanted→CA
open Go.Result renaming andThen→CT
open Option.some renaming inj→Ds
open Go.MapKept renaming run_getObj_map→DJ,run_setObj_map→Ef
open Go.Instr renaming makeSlice→Dj,mapUpdate→DK
open Go.IntWalk renaming i64_in→Du
open Go.Lit renaming int→C9
open Go.Sem renaming run_bind→D5
set_option linter.all false
set_option maxHeartbeats 40000000
set_option maxRecDepth 1000000
open Go Go.RowKit
namespace Go.Proofs.YtpmlgdopfafcgaaGreatDoor
namespace Al
open Gs Sv Tr Em Ip Lf
theorem regs_yes(w:Ac):At Tryz.prog 184 #[J Z 7] w λe w'=>e=Ax (Ap Af)∧w=w':=Cr
structure RowI(w:Ac)(gp N:Nat)(pl:Nat→Int):Prop where
 lt:gp<↑w
 c: ∀i,i<N→w.cell? ⟨gp,i,G⟩=I (J Z (pl i))
theorem RowI.fr{w w':Ac}{gp N:Nat}{pl:Nat→Int}{S:AG}(h:RowI w gp N pl)(f:Fr S w w')(hs: ¬S gp):RowI w' gp N pl:=
 ⟨AW h.lt f.size,λi hi=>f.cell (h.c i hi) h.lt hs⟩
theorem free_any(w:Ac)(gs gi cI gp cp N n:Nat)(tt:Nat→Nat)(pl:Nat→Int)(hn:n<N)(hN:N≤64)(hc:N≤cp)(hsl:gs<↑w)(hs:w.cell? ⟨gs,3,G⟩=I (U (I ⟨gi,0,G⟩) N cI))(hI:IvC w gi cI N tt)(hP:RowI w gp N pl):At Tryz.prog 187 #[↑gs,U (I ⟨gp,0,G⟩) N cp,J Z n] w λe w'=> ∃k:Nat,e=Ax (J .i64 k)∧k≤N∧tkB tt pl n k N=Aa∧Fr Aj w w':=by
 obtain⟨m,hm,hmf⟩:=free_is tt pl n N;have HM:=T hmf;have HS:=T hs;have HI:=T hI;have HP:=T hP;have hci:=hI.le;clear hmf hs hI hP;go_in;go_wp2_with fail;go_loopw [7] (λi wr=> ∃k:Nat,k≤m∧i=J Z k∧Hid (Fr Aj w wr)) (λi _=>m -(AJ i).toNat)
 case atStart=>exact⟨0,O,rfl,T (Ao _ _)⟩
 case round=>
  obtain⟨k,hk,rfl,hF⟩:=hrel;obtain⟨wo,rfl⟩: ∃wo:Ac,wo=wr:=⟨_,rfl⟩;go_wp2_with fail;go_loopw [15,8] (λi t wr=> ∃j:Nat,j≤N∧i=J Z j∧t=Ap (tkB tt pl n k j)∧Hid (Fr Aj w wr)) (λi _ _=>N -(AJ i).toNat)
  case atStart=>exact⟨0,O,rfl,rfl,hF⟩
  case round=>
   obtain⟨j,hj,rfl,rfl,hF2⟩:=hrel;have hsl2:gs<↑wr:=AW hsl hF2.out.size;by_cases hlt:j<N
   ·have ht: ∀b,(tkB tt pl n k j||(decide (pl j=k)&&meetB tt j n))=b→tkB tt pl n k (j+1)=b:=λb h=>h;have HT:=T ht;obtain⟨b,hb⟩:=Az (tkB tt pl n k j);rw[hb] at HT⊢;have p0:=(HP.out.fr hF2.out id).c j hlt;have hpl:=(HP.out.fr hF2.out id).lt;have s0:=hF2.out.cell HS.out hsl id;have hiw:=HI.out.fr hF2.out id;obtain⟨j0,j1,j2⟩:=hiw.c0 j hlt;obtain⟨n0,n1,n2⟩:=hiw.c0 n hn;have hil:=hiw.lt;clear ht hb hiw;by_cases he:pl j=k
    ·rw[he] at p0;obtain⟨x,hx⟩:=Az (meetB tt j n);have HX0:Hid (tkB tt pl n k (j+1)=(b||x)):=T (HT.out _ (by rw[he,hx];simp));have Hm:Hid (∀W,At Tryz.prog 188 #[AA #[J Z j,J Z j,J Z (tt j)],AA #[J Z n,J Z n,J Z (tt n)]] W λe w'=>e=Ax (Ap x)∧Fr Aj W w'):=T (λW=>by rw[←hx];exact meet_any W j n (tt j) (tt n));clear hx he HT
     cases b
     ·go_wp2_with fail;refine BY (S:=Fr Aj wr) AI ((Ao Aj wr).drew) (λhH=>?_);refine Av 0 rfl hH Cv ?_;refine Av 1 rfl hH Cv ?_;refine Av 2 rfl hH Cv ?_
      try simp only[AF]
      refine Av 3 rfl hH Cv ?_;refine Cj 4 ((Ap Af)) rfl hH (by intro W hSw;have k0:=hSw.cell s0 hsl2 id;have k1:=hSw.cell j0 hil id;have k2:=hSw.cell j1 hil id;have k3:=hSw.cell j2 hil id;have k4:=hSw.cell n0 hil id;have k5:=hSw.cell n1 hil id;have k6:=hSw.cell n2 hil id;go_simp) ?_;refine Av 5 rfl hH Cv ?_
      try simp only[AF]
      refine Av 6 rfl hH Cv ?_;refine Av 7 rfl hH Cv ?_;refine Av 8 rfl hH Cv ?_
      try simp only[AF]
      refine Av 9 rfl hH Cv ?_;refine Av 10 rfl hH Cv ?_;refine Av 11 rfl hH Cv ?_
      try simp only[AF]
      refine Av 12 rfl hH Cv ?_;refine Av 13 rfl hH Cv ?_;refine Av 14 rfl hH Cv ?_
      try simp only[AF]
      refine Av 15 rfl hH Cv ?_;refine Av 16 rfl hH Cv ?_;refine Av 17 rfl hH Cv ?_
      try simp only[AF]
      refine Av 18 rfl hH Cv ?_;refine Av 19 rfl hH Cv ?_
      try simp only[AF]
      refine AQ [20] ?_;refine AO (λK hK=>?_) ?_
      ·go_simp;go_wp2_with (refine(Hm.out _).mono ?_;rintro e w3 ⟨rfl,f3⟩);refine hK.out _ _ (hH.tr f3) λhH=>?_;clear hK K;refine Av 21 rfl hH Cv ?_;refine Av 22 rfl hH Cv ?_;refine Av 23 rfl hH Cv ?_
       try simp only[AF]
       refine Cg ?_
       go_wp2
       go_roundw
       case rel=>exact⟨j+1,O,AX,by rw[HX0.out];simp,T (hF2.out.tr hH)⟩
       case measure=>simp[AJ];omega
      exact AR
     ·exact QJ
    ·have HX0:Hid (tkB tt pl n k (j+1)=b):=T (HT.out _ (by simp[he]));obtain⟨q,hq⟩:=Az (pl j);rw[hq] at p0 he;have ge:((q:Int)==(k:Int))=Aa:=by simpa using he
     clear hq he HT
     cases b
     ·go_wp2_with fail;refine BY (S:=Fr Aj wr) AI ((Ao Aj wr).drew) (λhH=>?_);refine Av 0 rfl hH Ck ?_;refine Av 1 rfl hH Ck ?_;refine Av 2 rfl hH Ck ?_
      try simp only[AF]
      refine Av 3 rfl hH Ck ?_;refine Cj 4 ((Ap Aa)) rfl hH (by intro W hSw;go_simp) ?_;refine Av 5 rfl hH Ck ?_
      try simp only[AF]
      refine AY 6 rfl hH ?_;refine AY 7 rfl hH ?_;refine AY 8 rfl hH ?_
      try simp only[AF]
      refine AY 9 rfl hH ?_;refine AY 10 rfl hH ?_;refine AY 11 rfl hH ?_
      try simp only[AF]
      refine AY 12 rfl hH ?_;refine AY 13 rfl hH ?_;refine AY 14 rfl hH ?_
      try simp only[AF]
      refine AY 15 rfl hH ?_;refine AY 16 rfl hH ?_;refine AY 17 rfl hH ?_
      try simp only[AF]
      refine AY 18 rfl hH ?_;refine AY 19 rfl hH ?_;refine AY 20 rfl hH ?_
      try simp only[AF]
      refine Av 21 rfl hH Ck ?_;refine Av 22 rfl hH Ck ?_;refine Av 23 rfl hH Ck ?_
      try simp only[AF]
      refine Cg ?_
      go_wp2
      go_roundw
      case rel=>exact⟨j+1,O,AX,by rw[HX0.out],T (hF2.out.tr hH)⟩
      case measure=>simp[AJ];omega
     ·exact QJ
   ·obtain rfl:j=N:=O;have HK:Hid (∀b,tkB tt pl n k j=b→(b=Af→k+1≤m)):=T (λb h1 h2=>by
     by_cases e:k=m;·rw[e,HM.out] at h1;rw[h2] at h1;cases h1
     ·omega)
    obtain⟨b,hb⟩:=Az (tkB tt pl n k j);have HB:=T hb;rw[hb];clear hb hlt
    cases b
    ·go_wp2
     go_ret;exact⟨k,rfl,O,HB.out,hF2.out⟩
    ·have hk1:=HK.out _ HB.out rfl
     go_wp2
     go_roundw
     case rel=>exact⟨k+1,hk1,AX,hF2⟩
     case measure=>simp[AJ];omega
end Al
end Go.Proofs.YtpmlgdopfafcgaaGreatDoor
