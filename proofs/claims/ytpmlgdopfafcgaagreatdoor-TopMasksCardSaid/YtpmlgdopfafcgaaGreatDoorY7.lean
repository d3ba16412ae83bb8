import Derived.Test.YtpmlgdopfafcgaaGreatDoorZ3
open Go.Value renaming int→J,slice→U,bool→Ap,tuple→AD,ownBlock→Bp,agg→AA,pointer→Bi
open Option renaming some→I,none→G
open Go.IntKind renaming i64→Z,u32→V,u64→AM,u8→AC,wrap_u64→Dk,wrap_u32→DH
open Bool renaming false→Aa,true→Af,false_ne_true→Da,false_and→D7
open Go renaming World→Ac,Value→As,Calls→At,bodyPost_ret→Bf,TypeId→AK,wp_region_held_drew→BY,info_parts→BH,Ending→AT,madeCells→Cb,maxLen→Br,Program→BW,undef→Bt,wpList→BL,bits→Bb,run_underlying→CX
open List renaming getD_eq_getElem?_getD→AN,getElem?_eq_getElem→Bj,length_append→BJ,append_assoc→BM,mem_map→Bo,getElem?_take_of_lt→Cw,replicate→BK,range→Bm,getElem?_append_right→CB,getElem_mem→BU,mem_append→BZ,getElem?_append_left→CO,getElem?_map→C7,cons_append→CC,mem_filter→C8,length_pos_iff→CP,length_cons→CK,mem_cons→Cy,getLastD_eq_getLast?→Dg,nil_append→CI,getElem?_eq_none→De,dropLast_concat→Do,mem_singleton→Dv,map_append→Df,length_map→Di,getElem_of_mem→DD,length_nil→Dp,concat_eq_append→DI,getElem?_range→DL,range_succ→DB,getElem?_replicate→DW,singleton_append→DV,map_cons→D6,map_map→D8,setIfInBounds_toArray→Eb
open Go.Ending renaming returned→Ax
open And renaming intro→A9
open Nat renaming le_refl→AE,lt_of_lt_of_le→AW,le_trans→AS,zero_le→AU,zero_add→Bn,eq_zero_or_pos→Dm,reduceEqDiff→Dq
open Or renaming inl→Ag,inr→Ah
open Go.Proofs.Tryz renaming underlying41→AP,underlying31→CF,underlying22→CV,underlying215→Dl,underlying26→DN
open Go.RowKit renaming intOf→AJ
open Int renaming eq_ofNat_of_zero_le→CM,toNat_natCast→C4,emod_eq_of_lt→CZ
open Go.Builtin renaming zeroCells→CG,delete_→Eh
open Array renaming getElem?_toList→CN,getElem?_eq_some_iff→DX
open Go.Region renaming wanted→CA
open Go.Result renaming andThen→CT
open Option.some renaming inj→Ds
open Go.MapKept renaming run_getObj_map→DJ,run_setObj_map→Ef
open Go.Instr renaming makeSlice→Dj,mapUpdate→DK
open Go.IntWalk renaming i64_in→Du
open Go.Lit renaming int→C9
open Go.Sem renaming run_bind→D5
set_option linter.all false
set_option maxHeartbeats 40000000
set_option maxRecDepth 1000000
open Go Go.RowKit
namespace Go.Proofs.YtpmlgdopfafcgaaGreatDoor
namespace Tr
open Gs
structure PO(p:Pg)(pl:Pl)(tt:Nat→Nat):Prop where
 form: ∀n,n<p.code.length→(0≤pl.reg n∧pl.reg n<7)∨(pl.reg n= -1∧0≤pl.slot n∧pl.slot n≤64)
 reg: ∀a b,a<b→b<p.code.length→b<tt a→0≤pl.reg b→pl.reg a≠pl.reg b
 slot: ∀a b,a<b→b<p.code.length→b<tt a→pl.reg a= -1→pl.reg b= -1→pl.slot a≠pl.slot b
 use: ∀i,i<p.code.length→3≤(at_ p.code i).op→i≤tt (at_ p.code i).a∧i≤tt (at_ p.code i).b
 od: ∀n∈p.od,p.code.length≤tt n
 or: ∀n∈p.or,p.code.length≤tt n
 fl:0≤p.fl→p.code.length≤tt p.fl.toNat
 tg:0≤p.tg→p.code.length≤tt p.tg.toNat
def Holds(pl:Pl)(s:Hm)(n:Nat)(v:Int):Prop:=if 0≤pl.reg n then s.g (pl.reg n).toNat=v else s.m (64+pl.slot n).toNat=v
def putW(s:St)(j:Nat):Int:=
 if j=0 then s.pc else if j=1 then s.fl else if j=2 then s.d.length else if j=3 then s.r.length else if j<20 then s.d.getD (j -4) 0 else if j<36 then s.r.getD (j -20) 0 else 0
theorem hld_ok{rd ra:Nat}{x:Int}{rest:List HI}{s s':Hm}(h:hseq (hld rd ra x::rest) s=I s'):(s.g ra+x)%18446744073709551616<256∧hseq rest ⟨upZ s.g rd (s.m ((s.g ra+x)%18446744073709551616).toNat),s.m⟩=I s':=by
 rw[hseq] at h;have e:hstep (hld rd ra x) s=if 256≤(s.g ra+x)%18446744073709551616 then G else I ⟨upZ s.g rd (s.m ((s.g ra+x)%18446744073709551616).toNat),s.m⟩:=rfl;exact O7
theorem hst_ok{ra rb:Nat}{x:Int}{rest:List HI}{s s':Hm}(h:hseq (hst ra x rb::rest) s=I s'):(s.g ra+x)%18446744073709551616<256∧hseq rest ⟨s.g,upZ s.m ((s.g ra+x)%18446744073709551616).toNat (s.g rb%4294967296)⟩=I s':=by
 rw[hseq] at h;have e:hstep (hst ra x rb) s=if 256≤(s.g ra+x)%18446744073709551616 then G else I ⟨s.g,upZ s.m ((s.g ra+x)%18446744073709551616).toNat (s.g rb%4294967296)⟩:=rfl;exact O7
section
variable {p:Pg} {pl:Pl} {tt:Nat→Nat} {s:St} {rest:List HI} {σ σ':Hm}
theorem Holds.keep{n:Nat}{v:Int}(h:Holds pl σ n v)(hf:(0≤pl.reg n∧pl.reg n<7)∨(pl.reg n= -1∧0≤pl.slot n∧pl.slot n≤64))(hg: ∀k,k<7→σ'.g k=σ.g k)(hm: ∀k,64≤k→σ'.m k=σ.m k):Holds pl σ' n v:=by
 unfold Holds at h⊢;by_cases q:0≤pl.reg n;·rw[An q] at h⊢;rw[hg _ O];exact h
 ·rw[Ae q] at h⊢;rw[hm _ O];exact h
theorem getC_ok{n into:Nat}{v:Int}(hf:(0≤pl.reg n∧pl.reg n<7)∨(pl.reg n= -1∧0≤pl.slot n∧pl.slot n≤64))(hz:σ.g 15=0)(hv:Holds pl σ n v)(h:hseq (getC pl n into++rest) σ=I σ'):∃s1,hseq rest s1=I σ'∧s1.g (getR pl n into)=v∧s1.m=σ.m∧(∀k,k≠into→s1.g k=σ.g k)∧(getR pl n into<7∨getR pl n into=into):=by
 unfold getC at h;unfold getR;unfold Holds at hv;by_cases q:0≤pl.reg n;·rw[An q] at h hv⊢;exact⟨σ,h,hv,rfl,λ_ _=>rfl,Ag O⟩
 ·rw[Ae q] at h hv⊢;obtain⟨h1,h2⟩:=hld_ok h;refine⟨_,h2, ?_,rfl,λk hk=>by simp[upZ,hk],Ah rfl⟩;simp only[upZ,if_true,hz];rw[show((0:Int)+slotA pl n)%18446744073709551616=64+pl.slot n by unfold slotA;omega];exact hv
structure EI(p:Pg)(pl:Pl)(tt:Nat→Nat)(s:St)(k:Nat)(σ:Hm):Prop where
 z:σ.g 15=0
 d:σ.g 14=(s.d.length:Int) -p.nd
 r:σ.g 13=(s.r.length:Int) -p.nr
 m: ∀j,j<64→σ.m j=putW s j
 v: ∀n,n<k→k≤tt n→Holds pl σ n (val s p.code n)
theorem val_bd(hw:WF p)(hs:s.Ok): ∀n,0≤val s p.code n∧val s p.code n<4294967296:=by
 intro n
 induction n using Nat.strongRecOn with
 |ind n ih=>
  by_cases hn:n<p.code.length
  ·have M:=hw.code n hn;rw[val_make s p.code n hn M.ab];unfold make;by_cases c0:(at_ p.code n).op=0;·rw[An c0];have:=M.imm;omega
   rw[Ae c0];by_cases c1:(at_ p.code n).op=1
   ·rw[An c1,AN]
    cases e:s.d[s.d.length -1 -(at_ p.code n).imm.toNat]? with
    |none=>simp
    |some z=>have:=hs.d z (List.mem_of_getElem? e);simp only[Option.getD_some];omega
   rw[Ae c1];by_cases c2:(at_ p.code n).op=2
   ·rw[An c2,AN]
    cases e:s.r[s.r.length -1 -(at_ p.code n).imm.toNat]? with
    |none=>simp
    |some z=>have:=hs.r z (List.mem_of_getElem? e);simp only[Option.getD_some];omega
   rw[Ae c2];obtain⟨ha,hb⟩:=M.ab O;have va:=ih _ ha;have vb:=ih _ hb;unfold val at va vb;by_cases c3:(at_ p.code n).op=3;·rw[An c3];exact aluV_bd _ _ _ va.1 va.2 vb.1 vb.2
   ·rw[Ae c3];have:=aluF_bd (at_ p.code n).imm ((evs s p.code).getD (at_ p.code n).a 0) ((evs s p.code).getD (at_ p.code n).b 0);omega
  ·have:val s p.code n=0:=by
    unfold val;rw[AN,De (by rw[evs_len];omega)];rfl
   omega
theorem makeC_ok(hw:WF p)(hp:PO p pl tt)(hs:s.Ok)(hsd:s.d.length≤16)(hsr:s.r.length≤16)(hnd:p.nd≤s.d.length)(hnr:p.nr≤s.r.length){k:Nat}(hk:k<p.code.length)(E:EI p pl tt s k σ){rd:Nat}(hrd:rd<7∨rd=9)(h:hseq (makeC p pl rd (at_ p.code k)++rest) σ=I σ'): ∃s1,hseq rest s1=I σ'∧s1.g rd=val s p.code k∧s1.m=σ.m∧ ∀j,j≠rd→ ¬(7≤j∧j≤12)→s1.g j=σ.g j:=by
 have M:=hw.code k hk;have hv:=val_make s p.code k hk M.ab;rw[hv];have hop:(at_ p.code k).op=0∨(at_ p.code k).op=1∨(at_ p.code k).op=2∨(at_ p.code k).op=3∨(at_ p.code k).op=4:=by have:=M.op;omega
 unfold makeC at h;unfold make;rcases hop with c|c|c|c|c;·rw[An c] at h⊢;rw[DV,hseq_li] at h;exact⟨_,h,FV,rfl,λj hj _=>by simp[upZ,hj]⟩
 ·rw[Ae O,An c] at h⊢;rw[DV] at h;obtain⟨h1,h2⟩:=hld_ok h;have hi:=M.arg c;refine⟨_,h2, ?_,rfl,λj hj _=>by simp[upZ,hj]⟩;have e:(σ.g 14+(4+(p.nd:Int) -1 -(at_ p.code k).imm))%18446744073709551616=((4+(s.d.length -1 -(at_ p.code k).imm.toNat):Nat):Int):=by rw[E.d];omega
  simp only[upZ,if_true];rw[e,C4,E.m _ O];exact O8
 ·rw[Ae O,Ae O,An c] at h⊢;rw[DV] at h;obtain⟨h1,h2⟩:=hld_ok h;have hi:=M.ret c;refine⟨_,h2, ?_,rfl,λj hj _=>by simp[upZ,hj]⟩;have e:(σ.g 13+(20+(p.nr:Int) -1 -(at_ p.code k).imm))%18446744073709551616=((20+(s.r.length -1 -(at_ p.code k).imm.toNat):Nat):Int):=by rw[E.r];omega
  simp only[upZ,if_true];rw[e,C4,E.m _ O];exact O9
 all_goals
  obtain⟨ha,hb⟩:=M.ab O;obtain⟨ua,ub⟩:=hp.use k hk O;have fa:=hp.form _ (Nat.lt_trans ha hk);have fb:=hp.form _ (Nat.lt_trans hb hk);have ba:=val_bd hw hs (at_ p.code k).a;have bb:=val_bd hw hs (at_ p.code k).b
 ·rw[Ae O,Ae O,Ae O,An c] at h⊢;rw[BM,BM] at h;obtain⟨s1,h1,g1,m1,k1,r1⟩:=getC_ok fa E.z (E.v _ ha ua) h;have Hb:=OC;obtain⟨s2,h2,g2,m2,k2,r2⟩:=getC_ok fb ((k1 15 Ak).trans E.z) Hb h1;have g1':=OD;have hi:=M.alu c;obtain⟨s3,h3,g3,m3,k3⟩:=aluC_ok (at_ p.code k).imm rd _ _ rest s2 σ' _ _ hi.1 O O O g1' g2 ba.1 ba.2 bb.1 bb.2 h2;refine⟨s3,h3, ?_,by rw[m3,m2,m1],λj hj hj2=>by rw[k3 j hj (by omega),k2 j (by omega),k1 j (by omega)]⟩;rw[g3];unfold aluH;rw[Ae O];rfl
 ·rw[Ae O,Ae O,Ae O,Ae O] at h⊢;rw[BM,BM,BM] at h;obtain⟨s1,h1,g1,m1,k1,r1⟩:=getC_ok fa E.z (E.v _ ha ua) h;have Hb:=OC;obtain⟨s2,h2,g2,m2,k2,r2⟩:=getC_ok fb ((k1 15 Ak).trans E.z) Hb h1;have g1':=OD;have hi:=M.flg c;obtain⟨s3,h3,g3,m3,k3⟩:=flagC_ok (at_ p.code k).imm _ _ _ s2 σ' _ _ O O O O O (by rw[k2 15 (by decide),k1 15 (by decide)];exact E.z) g1' g2 ba.1 ba.2 bb.1 bb.2 h2;rw[DV,hseq_hop _ _ _ _ _ _ Ak] at h3;refine⟨_,h3, ?_,by rw[←m1,←m2,←m3],λj hj hj2=>?_⟩;·simp only[upZ,if_true];show s3.g 10=_;rw[g3];rfl
  ·simp only[upZ,Ae hj];rw[k3 j O O O O,k2 j O,k1 j O]
theorem oneC_ok(hw:WF p)(hp:PO p pl tt)(hs:s.Ok)(hsd:s.d.length≤16)(hsr:s.r.length≤16)(hnd:p.nd≤s.d.length)(hnr:p.nr≤s.r.length){k:Nat}(hk:k<p.code.length)(E:EI p pl tt s k σ)(h:hseq (oneC p pl k (at_ p.code k)++rest) σ=I σ'): ∃s1,hseq rest s1=I σ'∧EI p pl tt s (k+1) s1:=by
 unfold oneC at h;rw[BM] at h;have fk:=hp.form k hk;have hrd:getR pl k 9<7∨getR pl k 9=9:=by
  unfold getR;split;·left;omega
  ·right;rfl
 obtain⟨s1,h1,g1,m1,k1⟩:=makeC_ok hw hp hs hsd hsr hnd hnr hk E hrd h;have bk:=val_bd hw hs k;unfold keepC at h1;by_cases q:0≤pl.reg k
 ·rw[Ae O,CI] at h1;have eR:getR pl k 9=(pl.reg k).toNat:=by unfold getR;rw[An q]
  rw[eR] at g1 k1;refine⟨s1,h1,OE,by rw[k1 14 (by omega) (by omega)];exact E.d,by rw[k1 13 (by omega) (by omega)];exact E.r,λj hj=>by rw[m1];exact E.m j hj,λn hn ht=>?_⟩;by_cases en:n=k;·subst en;unfold Holds;rw[An q];exact g1
  ·have Hn:=E.v n O O;have fn:=hp.form n O;unfold Holds at Hn⊢;by_cases qn:0≤pl.reg n;·rw[An qn] at Hn⊢;have:=hp.reg n k O hk O q;rw[k1 _ O O];exact Hn
   ·rw[Ae qn] at Hn⊢;rw[m1];exact Hn
 ·rw[An O,DV] at h1;have eR:getR pl k 9=9:=by unfold getR;rw[Ae q]
  rw[eR] at g1 k1 h1;obtain⟨h2,h3⟩:=hst_ok h1;have z1:s1.g 15=0:=OE;have ep:(s1.g 15+slotA pl k)%18446744073709551616=64+pl.slot k:=by rw[z1];unfold slotA;omega
  rw[ep,g1,CZ bk.1 bk.2] at h3;refine⟨_,h3,z1,by show s1.g 14=_;rw[k1 14 (by omega) (by omega)];exact E.d,by show s1.g 13=_;rw[k1 13 (by omega) (by omega)];exact E.r,λj hj=>?_,λn hn ht=>?_⟩;·show upZ s1.m _ _ j=_;unfold upZ;rw[Ae O,m1];exact E.m j hj
  ·by_cases en:n=k;·subst en;unfold Holds;rw[Ae q];simp[upZ]
   ·have Hn:=E.v n O O;have fn:=hp.form n O;unfold Holds at Hn⊢;by_cases qn:0≤pl.reg n;·rw[An qn] at Hn⊢;show s1.g _=_;rw[k1 _ O O];exact Hn
    ·rw[Ae qn] at Hn⊢;have:=hp.slot n k O hk O O O;show upZ s1.m _ _ _=_;unfold upZ;rw[Ae O,m1];exact Hn
theorem onesC_ok(hw:WF p)(hp:PO p pl tt)(hs:s.Ok)(hsd:s.d.length≤16)(hsr:s.r.length≤16)(hnd:p.nd≤s.d.length)(hnr:p.nr≤s.r.length): ∀(l:List IIn) (k:Nat) (σ:Hm),p.code.drop k=l→k≤p.code.length→EI p pl tt s k σ→
 hseq (onesC p pl k l++rest) σ=I σ'→ ∃s1,hseq rest s1=I σ'∧EI p pl tt s p.code.length s1
 |[],k,σ,e,hk,E,h=>by
  have:k=p.code.length:=by have:=List.drop_eq_nil_iff.1 e;omega
  subst this;exact⟨σ,h,E⟩
 |x::l,k,σ,e,hk,E,h=>by
  have hk2:k<p.code.length:=by
   rcases Nat.lt_or_ge k p.code.length with q|q;·exact q
   ·rw[List.drop_eq_nil_iff.2 q] at e;cases e
  have e2:=List.drop_eq_getElem_cons hk2;rw[e] at e2;obtain⟨ex,el⟩:=List.cons.inj e2;have ex2:x=at_ p.code k:=by rw[ex,at_,AN,Bj hk2];rfl
  rw[onesC,BM,ex2] at h;obtain⟨s1,h1,E1⟩:=oneC_ok hw hp hs hsd hsr hnd hnr hk2 E h;exact onesC_ok hw hp hs hsd hsr hnd hnr l (k+1) s1 el.symm hk2 E1 h1
theorem putsC_ok(hw:WF p)(hs:s.Ok)(base:Nat)(hb:base=13∨base=14)(bs:Int)(b0:0≤bs): ∀(l:List Nat) (k:Int) (σ:Hm),(∀n∈l,((0≤pl.reg n∧pl.reg n<7)∨(pl.reg n= -1∧0≤pl.slot n∧pl.slot n≤64))∧Holds pl σ n (val s p.code n))→
 σ.g 15=0→σ.g base=bs→0≤k→k+bs+l.length≤64→hseq (putsC pl base k l++rest) σ=I σ'→
 ∃s1,hseq rest s1=I σ'∧(∀j,j≠7→s1.g j=σ.g j)∧ ∀j:Nat,s1.m j=if k+bs≤j∧(j:Int)<k+bs+l.length then val s p.code (l.getD (j -(k+bs).toNat) 0) else σ.m j
 |[],k,σ,hv,hz,hg,k0,k1,h=>⟨σ,h,λ_ _=>rfl,λj=>by rw[Ae (by simp only[Dp];omega)]⟩
 |n::l,k,σ,hv,hz,hg,k0,k1,h=>by
  obtain⟨fn,Hn⟩:=hv n AB;rw[putsC,BM,CC] at h;obtain⟨s1,h1,g1,m1,kk,r1⟩:=getC_ok fn hz Hn h;obtain⟨h2,h3⟩:=hst_ok h1;have bn:=val_bd hw hs n;simp only[CK] at k1;have ep:(s1.g base+k)%18446744073709551616=k+bs:=by rw[kk base (by omega),hg];omega
  rw[ep,g1,CZ bn.1 bn.2] at h3;obtain⟨s2,q1,q2,q3⟩:=putsC_ok hw hs base hb bs b0 l (k+1) ⟨s1.g,upZ s1.m (k+bs).toNat (val s p.code n)⟩ (λm hm=>⟨(hv m (by simp[hm])).1,(hv m (by simp[hm])).2.keep (hv m (by simp[hm])).1 (λj hj=>kk j O) (λj hj=>by
   show upZ s1.m _ _ j=_;unfold upZ;rw[Ae O,m1])⟩) ((kk 15 Ak).trans hz) ((kk base O).trans hg) O O h3
  refine⟨s2,q1,λj hj=>by rw[q2 j hj];exact kk j hj,λj=>?_⟩;rw[q3 j];by_cases c:(j:Int)=k+bs;·rw[Ae O,An JF];have:j -(k+bs).toNat=0:=O;rw[this];show upZ s1.m _ _ j=_;unfold upZ;rw[An O];rfl
  ·by_cases c2:k+bs≤j∧(j:Int)<k+bs+(l.length+1:Nat);·rw[An O,An JF];have:j -(k+bs).toNat=(j -(k+1+bs).toNat)+1:=O;rw[this];rfl
   ·rw[Ae O,Ae JF];show upZ s1.m _ _ j=_;unfold upZ;rw[Ae O,m1]
end
end Tr
namespace Tr
open Gs
def Str(l:List HI):Prop:= ∀i∈l,i.op≤15
theorem Str.nil:Str []:=λ_ h=>by simp at h
theorem Str.cons{i:HI}{l:List HI}(h:i.op≤15)(hl:Str l):Str (i::l):=λj hj=>by
 rcases Cy.1 hj with e|e;·rw[e];exact h
 ·exact hl j e
theorem Str.app{a b:List HI}(ha:Str a)(hb:Str b):Str (a++b):=λj hj=>by
 rcases BZ.1 hj with e|e;·exact ha j e
 ·exact hb j e
theorem str_li(rd:Nat)(v:Int):(li rd v).op≤15:=by simp[li]
theorem str_hld(rd ra:Nat)(v:Int):(hld rd ra v).op≤15:=by simp[hld]
theorem str_hst(ra:Nat)(v:Int)(rb:Nat):(hst ra v rb).op≤15:=by simp[hst]
theorem str_hop{op rd ra rb:Nat}(h:op≤15):(hop op rd ra rb).op≤15:=h
theorem str_getC(pl:Pl)(n into:Nat):Str (getC pl n into):=by
 unfold getC;split;·exact Str.nil
 ·exact JG
theorem UO(pl:Pl)(n r:Nat):Str (keepC pl n r):=by
 unfold keepC;split;·exact Str.nil.cons (str_hst _ _ _)
 ·exact Str.nil
theorem str_aluC(op:Int)(rd a b:Nat):Str (aluC op rd a b):=by
 have hO:hostO op≤15:=by
  unfold hostO
  repeat' split
  all_goals omega
 unfold aluC;refine Str.cons (str_hop hO) ?_;split;·exact Str.nil
 ·exact(Str.nil.cons (str_hop Ak)).cons (str_li _ _)
theorem OF(a b:Nat):Str (signC a b):=(Str.nil.cons (str_hop Ak)).cons (str_li _ _)
theorem str_bitC(a:Nat)(b:Int):Str (bitC a b):=((Str.nil.cons (str_hop Ak)).cons (str_hop Ak)).cons (str_li _ _)
theorem UP(a b c d:Nat):Str (overC a b c d):=Str.app ((Str.nil.cons (str_hop Ak)).cons (str_hop Ak)) (Str.app (Str.nil.cons (str_hop Ak)) (Str.app (OF _ _) (str_bitC _ _)))
theorem UQ(op:Int)(a b:Nat):Str (flagC op a b):=by
 unfold flagC;refine Str.app (str_aluC _ _ _ _) (Str.app (Str.nil.cons (str_hop Ak)) (Str.app (OF _ _) (Str.app (str_bitC _ _) ?_)));split;·exact OG
 split;·exact OG
 ·exact Str.nil
theorem str_oneC(p:Pg)(pl:Pl)(n:Nat)(x:IIn):Str (oneC p pl n x):=by
 unfold oneC makeC;refine Str.app ?_ (UO _ _ _);split;·exact Str.nil.cons (str_li _ _)
 split;·exact JG
 split;·exact JG
 split;·exact Str.app (str_getC _ _ _) (Str.app (str_getC _ _ _) (str_aluC _ _ _ _))
 ·exact Str.app (str_getC _ _ _) (Str.app (str_getC _ _ _) (Str.app (UQ _ _ _) (Str.nil.cons (str_hop Ak))))
theorem OH(p:Pg)(pl:Pl): ∀(l:List IIn) (n:Nat),Str (onesC p pl n l)
 |[],n=>Str.nil
 |x::l,n=>Str.app (str_oneC p pl n x) (OH p pl l (n+1))
theorem OI(pl:Pl)(base:Nat): ∀(l:List Nat) (k:Int),Str (putsC pl base k l)
 |[],k=>Str.nil
 |n::l,k=>Str.app (str_getC _ _ _) ((OI pl base l (k+1)).cons (str_hst _ _ _))
theorem OJ(pl:Pl)(base:Nat)(f w:Int)(l:List Nat):Str (stackC pl base f w l):=
 Str.app (OI _ _ _ _) (((Str.nil.cons (str_hst _ _ _)).cons (str_hop Ak)).cons (str_li _ _))
theorem US(p:Pg)(pl:Pl):Str (valsC p pl):=Str.app (OH _ _ _ _) (Str.app (OJ _ _ _ _ _) (OJ _ _ _ _ _))
theorem str_flsC(p:Pg)(pl:Pl):Str (flsC p pl):=by
 unfold flsC;split;·exact(Str.app (str_getC _ _ _) ((Str.nil.cons (str_hst _ _ _)).cons (str_hop Ak))).cons (str_li _ _)
 ·exact Str.nil
theorem str_tgC(p:Pg)(pl:Pl):Str (tgC p pl):=by
 unfold tgC;split;·exact Str.app (str_getC _ _ _) (Str.nil.cons (str_hop Ak))
 ·exact Str.nil
variable{code:List HI}
theorem run_at{m a b:Nat}{s:Hm}{r:Hr}(h:hrun code m ((a:Nat):Int) s=r)(e:a=b):hrun code m ((b:Nat):Int) s=r:=e▸h
variable{pre post:List HI}{n:Nat}{s':Hm}
theorem run_over{s:Hm}{op r:Nat}{tk:Int}(hop_:op=16∨op=17)(e:code=pre++⟨op,0,r,0,((pre.length+2:Nat):Int)⟩::li 9 tk::post)(h:hrun code n pre.length s=⟨1,1,s'⟩):∃m,hrun code m ((pre.length+2:Nat):Int) (if(s.g r=0)=(op=16) then s else⟨upZ s.g 9 tk,s.m⟩)=⟨1,1,s'⟩:=by
 obtain⟨a1,a2⟩:=at_code e
 cases n with
 |zero=>rw[hrun] at h;simp at h
 |succ n=>
  rw[hrun,Ae a2,a1] at h;simp only[] at h;have key: ∀m,hrun code m ((pre.length+1:Nat):Int) s=⟨1,1,s'⟩→ ∃m,hrun code m ((pre.length+2:Nat):Int) ⟨upZ s.g 9 tk,s.m⟩=⟨1,1,s'⟩:=by
   intro m hm;have e2:code=(pre++[⟨op,0,r,0,((pre.length+2:Nat):Int)⟩])++[li 9 tk]++post:=CY;obtain⟨s1,m',q1,q2⟩:=run_seg [li 9 tk] (pre++[⟨op,0,r,0,((pre.length+2:Nat):Int)⟩]) post m s s' e2 (Str.nil.cons (str_li _ _)) (run_at hm AB);have:s1=⟨upZ s.g 9 tk,s.m⟩:=by
    have q1:I (⟨upZ s.g 9 tk,s.m⟩:Hm)=I s1:=q1;exact(Ds q1).symm
   rw[this] at q2;exact⟨m',run_at q2 AB⟩
  rcases hop_ with e16|e17
  ·subst e16;rw[An rfl] at h;by_cases q:s.g r=0;·rw[An q] at h;exact OK
   ·rw[Ae q] at h;exact OL
  ·subst e17;rw[Ae Ak,An rfl] at h;by_cases q:s.g r=0;·rw[An q] at h;exact OL
   ·rw[Ae q] at h;exact OK
theorem run_exit{s:Hm}{v:Int}(e:code=pre++⟨19,0,0,0,v⟩::post)(h:hrun code n pre.length s=⟨1,1,s'⟩):v=1∧s=s':=by
 obtain⟨a1,a2⟩:=at_code e
 cases n with
 |zero=>rw[hrun] at h;simp at h
 |succ n=>
  rw[hrun,Ae a2,a1] at h;simp only[] at h;rw[Ae Ak,Ae Ak,Ae Ak,An Ak] at h;injection h with h1 h2 h3;exact⟨h2,h3⟩
theorem room_ok{s:Hm}{base:Nat}{word need most E len:Int}(hb:base=13∨base=14)(e:code=pre++roomC base word need most E++post)(hE: ∀m s,hrun code m E s≠⟨1,1,s'⟩)(hz:s.g 15=0)(hw:0≤word∧word<256)(hl:s.m word.toNat=len)(l0:0≤len∧len≤16)(n0:0≤need∧need≤16)(h:hrun code n pre.length s=⟨1,1,s'⟩):need≤len∧len≤most∧ ∃s1 m,hrun code m ((pre.length+8:Nat):Int) s1=⟨1,1,s'⟩∧s1.m=s.m∧s1.g base=len -need∧ ∀k,k≠base→k≠11→k≠12→s1.g k=s.g k:=by
 have e1:code=pre++[hld base 15 word,li 11 need,hop 12 12 base 11]++(⟨17,0,12,0,E⟩::[li 12 most,hop 12 12 12 base,⟨17,0,12,0,E⟩,hop 4 base base 11]++post):=by rw[e];simp[roomC]
 obtain⟨s1,m1,q1,q2⟩:=run_seg _ pre _ n s s' e1 (((Str.nil.cons (str_hop Ak)).cons (str_li _ _)).cons (str_hld _ _ _)) h;obtain⟨h1,h2⟩:=hld_ok q1;have ep:(s.g 15+word)%18446744073709551616=word:=by rw[hz];omega
 rw[ep,hl,hseq_li,hseq_hop _ _ _ _ _ _ Ak] at h2;have h2:=(Ds h2).symm;have e2:code=(pre++[hld base 15 word,li 11 need,hop 12 12 base 11])++⟨17,0,12,0,E⟩::([li 12 most,hop 12 12 12 base,⟨17,0,12,0,E⟩,hop 4 base base 11]++post):=GY;obtain⟨z1,m2,q3⟩:=run_bnez e2 hE (run_at q2 AB);have g1:s1.g 12=if len<need then 1 else 0:=by
  rw[h2];have: ¬base=11:=O;simp only[upZ,if_true,Ae this];rfl
 have c1:need≤len:=by
  rcases Int.lt_or_le len need with q|q;·rw[g1,An q] at z1;cases z1
  ·exact q
 have e3:code=(pre++[hld base 15 word,li 11 need,hop 12 12 base 11,⟨17,0,12,0,E⟩])++[li 12 most,hop 12 12 12 base]++(⟨17,0,12,0,E⟩::([hop 4 base base 11]++post)):=GY;obtain⟨s2,m3,q4,q5⟩:=run_seg _ _ _ m2 s1 s' e3 ((Str.nil.cons (str_hop Ak)).cons (str_li _ _)) (run_at q3 AB);rw[hseq_li,hseq_hop _ _ _ _ _ _ Ak] at q4;have h4:=(Ds q4).symm;have e4:code=(pre++[hld base 15 word,li 11 need,hop 12 12 base 11,⟨17,0,12,0,E⟩,li 12 most,hop 12 12 12 base])++⟨17,0,12,0,E⟩::([hop 4 base base 11]++post):=GY;obtain⟨z2,m4,q6⟩:=run_bnez e4 hE (run_at q5 AB);have gb1:s1.g base=len:=by
  rw[h2];have t1: ¬base=11:=O;have t2: ¬base=12:=O;simp only[upZ,if_true,Ae t1,Ae t2]
 have g2:s2.g 12=if most<len then 1 else 0:=by
  rw[h4];have t2: ¬base=12:=O;simp only[upZ,if_true,Ae t2,gb1];rfl
 have c2:len≤most:=by
  rcases Int.lt_or_le most len with q|q;·rw[g2,An q] at z2;cases z2
  ·exact q
 have e5:code=(pre++[hld base 15 word,li 11 need,hop 12 12 base 11,⟨17,0,12,0,E⟩,li 12 most,hop 12 12 12 base,⟨17,0,12,0,E⟩])++[hop 4 base base 11]++post:=GY;obtain⟨s3,m5,q7,q8⟩:=run_seg _ _ _ m4 s2 s' e5 (Str.nil.cons (str_hop Ak)) (run_at q6 AB);rw[hseq_hop _ _ _ _ _ _ Ak] at q7;have h5:=(Ds q7).symm;have t1: ¬base=11:=O;have t2: ¬base=12:=O;have t3: ¬11=base:=O;refine⟨c1,c2,s3,m5,run_at q8 AB,by rw[h5,h4,h2], ?_,λk k1 k2 k3=>?_⟩;·rw[h5];simp only[upZ,if_true];rw[h4];simp only[upZ,Ae t2];rw[gb1,h2];simp only[upZ,if_true,Ae t3,Dq,if_false];show(len -need)%18446744073709551616=_;omega
 ·rw[h5];simp only[upZ,Ae k1];rw[h4];simp only[upZ,Ae k3];rw[h2];simp only[upZ,Ae k1,Ae k2,Ae k3]
variable{p:Pg}{pl:Pl}{rest:List HI}{σ σ':Hm}
theorem OM{s:St}(hw:WF p)(hs:s.Ok)(base:Nat)(hb:base=13∨base=14)(bs:Int)(b0:0≤bs)(l:List Nat)(k word:Int)(hv: ∀n∈l,((0≤pl.reg n∧pl.reg n<7)∨(pl.reg n= -1∧0≤pl.slot n∧pl.slot n≤64))∧Holds pl σ n (val s p.code n))(hz:σ.g 15=0)(hg:σ.g base=bs)(k0:4≤k)(k1:k+bs+l.length≤64)(hwd:word=2∨word=3)(h:hseq (stackC pl base k word l++rest) σ=I σ'):∃s1,hseq rest s1=I σ'∧(∀j,j≠7→j≠11→s1.g j=σ.g j)∧ ∀j:Nat,s1.m j=if(j:Int)=word then bs+l.length else if k+bs≤j∧(j:Int)<k+bs+l.length then val s p.code (l.getD (j -(k+bs).toNat) 0) else σ.m j:=by
 unfold stackC at h;rw[BM] at h;obtain⟨s1,h1,g1,m1⟩:=putsC_ok hw hs base hb bs b0 l k σ hv hz hg O k1 h;simp only[CC,CI] at h1;rw[hseq_li,hseq_hop _ _ _ _ _ _ Ak] at h1;obtain⟨h2,h3⟩:=hst_ok h1;have gb:s1.g base=bs:=by rw[g1 base (by omega)];exact hg
 have gz:s1.g 15=0:=by rw[g1 15 (by decide)];exact hz
 have t1: ¬base=11:=O;simp only[upZ,if_true,Ae t1,gb,gz,Dq,if_false] at h3;have ep:(0+word)%18446744073709551616=word:=O;have ev:reckV 3 (l.length:Int) bs=(l.length:Int)+bs:=by
  show((l.length:Int)+bs)%18446744073709551616=_;omega
 rw[ep,ev] at h3;refine⟨_,h3,λj j1 j2=>?_,λj=>?_⟩;·simp only[upZ,Ae j2];exact g1 j j1
 ·show upZ s1.m word.toNat _ j=_;unfold upZ;by_cases q:(j:Int)=word;·rw[An O,An q];omega
  ·rw[Ae O,Ae q];exact m1 j
theorem UT(p:Pg)(pl:Pl)(E E':Int):(bodyC p pl E).length=(bodyC p pl E').length:=by
 unfold bodyC;split;·rfl
 split;·simp[roomC]
 ·simp[roomsC,roomC]
theorem flag_bit(fl:Int)(h0:0≤fl)(h1:fl<16)(br:Int)(hb:33≤br∧br≤37):(Bb .and AM fl (jumpV br)=0)=((if br=34 then 17 else 16:Nat)=16)↔ ¬holdsB br fl=Af:=by
 obtain⟨a,rfl⟩:=CM h0;have h:a=0∨a=1∨a=2∨a=3∨a=4∨a=5∨a=6∨a=7∨a=8∨a=9∨a=10∨a=11∨a=12∨a=13∨a=14∨a=15:=O;have hb':br=33∨br=34∨br=35∨br=36∨br=37:=O;rcases hb' with rfl|rfl|rfl|rfl|rfl<;>rcases h with rfl|rfl|rfl|rfl|rfl|rfl|rfl|rfl|rfl|rfl|rfl|rfl|rfl|rfl|rfl|rfl<;>decide
theorem and_15(v:Int)(h0:0≤v)(h1:v<4294967296):Bb .and AM 15 v=v%16:=by
 obtain⟨a,rfl⟩:=CM h0;have:=u64_and_nat 15 a O O;have e:((15:Nat):Int)=15:=rfl;rw[e] at this;rw[this,Nat.and_comm,show(15:Nat)=2^4 -1 by rfl,Nat.and_two_pow_sub_one_eq_mod];omega
structure FM(t:St)(ct:Int)(σ:Hm):Prop where
 pc:σ.m 0=t.pc
 fl:σ.m 1=t.fl
 dn:σ.m 2=t.d.length
 rn:σ.m 3=t.r.length
 d: ∀j,j<t.d.length→σ.m (4+j)=t.d.getD j 0
 r: ∀j,j<t.r.length→σ.m (20+j)=t.r.getD j 0
 ct:σ.m 36=ct
theorem flsC_ok{s:St}(hw:WF p)(hs:s.Ok)(hf:0≤p.fl→((0≤pl.reg p.fl.toNat∧pl.reg p.fl.toNat<7)∨(pl.reg p.fl.toNat= -1∧0≤pl.slot p.fl.toNat∧pl.slot p.fl.toNat≤64))∧Holds pl σ p.fl.toNat (val s p.code p.fl.toNat))(hz:σ.g 15=0)(h1:σ.m 1=s.fl)(h:hseq (flsC p pl++rest) σ=I σ'):∃s1,hseq rest s1=I σ'∧(∀j,j≠7→j≠11→s1.g j=σ.g j)∧s1.m 1=(if p.fl= -1 then s.fl else vat (evs s p.code) p.fl%16)∧ ∀j,j≠1→s1.m j=σ.m j:=by
 unfold flsC at h;by_cases q:0≤p.fl
 ·obtain⟨f1,f2⟩:=hf q;rw[An q] at h;simp only[CC,CI,BM] at h;rw[hseq_li] at h;have H1:Holds pl ⟨upZ σ.g 11 15,σ.m⟩ p.fl.toNat (val s p.code p.fl.toNat):=f2.keep f1 (λk hk=>by show upZ _ _ _ k=_;unfold upZ;rw[Ae (by omega)]) (λ_ _=>rfl);obtain⟨s1,h2,g1,m1,k1,r1⟩:=getC_ok (σ:=⟨upZ σ.g 11 15,σ.m⟩) f1 (show upZ σ.g 11 15 15=0 from by unfold upZ;rw[Ae (by decide)];exact hz) H1 h;rw[hseq_hop _ _ _ _ _ _ Ak] at h2;obtain⟨h3,h4⟩:=hst_ok h2;have z1:s1.g 15=0:=by rw[k1 15 (by decide)];show upZ σ.g 11 15 15=0;unfold upZ;rw[Ae (by decide)];exact hz
  have g11:s1.g 11=15:=by rw[k1 11 (by decide)];show upZ σ.g 11 15 11=15;simp[upZ]
  have bn:=val_bd hw hs p.fl.toNat;have ev:reckV 5 15 (val s p.code p.fl.toNat)=val s p.code p.fl.toNat%16:=and_15 _ bn.1 bn.2;simp only[upZ,if_true,Dq,if_false,z1,g11,g1,ev] at h4;refine⟨_,h4,λj j1 j2=>?_, ?_,λj j1=>?_⟩;·simp only[upZ,Ae j2];rw[k1 j j1];show upZ σ.g 11 15 j=_;unfold upZ;rw[Ae j2]
  ·rw[Ae O];show upZ s1.m ((0+1)%18446744073709551616:Int).toNat (val s p.code p.fl.toNat%16%4294967296) 1=_;unfold upZ;rw[An Ak];show(val s p.code p.fl.toNat%16)%4294967296=val s p.code p.fl.toNat%16;omega
  ·show upZ s1.m ((0+1)%18446744073709551616:Int).toNat (val s p.code p.fl.toNat%16%4294967296) j=_;unfold upZ;rw[Ae (by show ¬j=1;exact j1),m1]
 ·rw[Ae q,CI] at h;have:p.fl= -1:=by have:=hw.fl;omega
  exact⟨σ,h,λ_ _ _=>rfl,by rw[An this];exact h1,λ_ _=>rfl⟩
theorem tgC_ok{s:St}{x:Int}(hw:WF p)(hs:s.Ok)(hf:0≤p.tg→((0≤pl.reg p.tg.toNat∧pl.reg p.tg.toNat<7)∨(pl.reg p.tg.toNat= -1∧0≤pl.slot p.tg.toNat∧pl.slot p.tg.toNat≤64))∧Holds pl σ p.tg.toNat (val s p.code p.tg.toNat))(hz:σ.g 15=0)(h1:σ.g 9=x)(h:hseq (tgC p pl++rest) σ=I σ'):∃s1,hseq rest s1=I σ'∧s1.g 15=0∧s1.g 9=(if p.tg≠ -1 then vat (evs s p.code) p.tg else x)∧s1.m=σ.m:=by
 unfold tgC at h;by_cases q:0≤p.tg
 ·obtain⟨f1,f2⟩:=hf q;rw[An q] at h;simp only[CC,CI,BM] at h;obtain⟨s1,h2,g1,m1,k1,r1⟩:=getC_ok f1 hz f2 h;rw[hseq_hop _ _ _ _ _ _ Ak] at h2;refine⟨_,h2, ?_, ?_,m1⟩;·show upZ s1.g 9 (reckV 2 (s1.g (getR pl p.tg.toNat 7)) (s1.g 0)) 15=_;unfold upZ;rw[Ae Ak,k1 15 Ak];exact hz
  ·rw[An O];show upZ s1.g 9 (reckV 2 (s1.g (getR pl p.tg.toNat 7)) (s1.g 0)) 9=_;unfold upZ;rw[An rfl];show s1.g _=_;rw[g1];rfl
 ·rw[Ae q,CI] at h;have:p.tg= -1:=GZ;exact⟨σ,h,hz,by rw[Ae (by simp[this])];exact h1,rfl⟩
end Tr
namespace Tr
open Gs
theorem ON(D:List Int)(k:Nat)(hk:k≤D.length)(l:List Nat)(f:Nat→Int)(j:Nat)(hj:j<k+l.length):(D.take k++l.map f).getD j 0=if j<k then D.getD j 0 else f (l.getD (j -k) 0):=by
 have hl:(D.take k).length=k:=A8;by_cases c:j<k;·rw[An c,AN,CO O,Cw c,AN]
 ·rw[Ae c,AN,CB O,hl,C7,AN,Bj O];rfl
theorem vals_ok{p:Pg}{pl:Pl}{tt:Nat→Nat}{s:St}{σ s4:Hm}(hw:WF p)(hp:PO p pl tt)(hs:s.Ok)(hsd:s.d.length≤16)(hsr:s.r.length≤16)(hnd:p.nd≤s.d.length)(hnr:p.nr≤s.r.length)
 (hmd:(s.d.length:Int) -p.nd+p.od.length≤16) (hmr:(s.r.length:Int) -p.nr+p.or.length≤16) (z:σ.g 15=0) (d:σ.g 14=(s.d.length:Int) -p.nd) (r:σ.g 13=(s.r.length:Int) -p.nr) (m: ∀j,j<64→σ.m j=putW s j)
 (h:hseq (valsC p pl++(flsC p pl++[li 9 p.nx])) σ=I s4):
 s4.g 15=0∧s4.g 9=p.nx∧(0≤p.tg→Holds pl s4 p.tg.toNat (val s p.code p.tg.toNat))∧s4.m 1=(left p s (evs s p.code)).fl∧s4.m 2=(left p s (evs s p.code)).d.length∧s4.m 3=(left p s (evs s p.code)).r.length∧
  (∀j,j<(left p s (evs s p.code)).d.length→s4.m (4+j)=(left p s (evs s p.code)).d.getD j 0)∧(∀j,j<(left p s (evs s p.code)).r.length→s4.m (20+j)=(left p s (evs s p.code)).r.getD j 0):=by
 unfold valsC at h
 rw[BM,BM] at h
 have E0:EI p pl tt s 0 σ:=⟨z,d,r,m,λn hn=>absurd hn O⟩
 obtain⟨s1,h1,E1⟩:=onesC_ok hw hp hs hsd hsr hnd hnr p.code 0 σ rfl (AU _) E0 h
 have hv1: ∀n,n<p.code.length→p.code.length≤tt n→((0≤pl.reg n∧pl.reg n<7)∨(pl.reg n= -1∧0≤pl.slot n∧pl.slot n≤64))∧Holds pl s1 n (val s p.code n):=λn hn ht=>⟨hp.form n hn,E1.v n hn ht⟩
 obtain⟨s2,h2,g2,m2⟩:=OM hw hs 14 (Ah rfl) ((s.d.length:Int) -p.nd) O p.od 4 2 (λn hn=>hv1 n (hw.od n hn) (hp.od n hn)) E1.z E1.d O O (Ag rfl) h1
 have hv2: ∀n,n<p.code.length→p.code.length≤tt n→((0≤pl.reg n∧pl.reg n<7)∨(pl.reg n= -1∧0≤pl.slot n∧pl.slot n≤64))∧Holds pl s2 n (val s p.code n):=λn hn ht=>
  ⟨hp.form n hn,(hv1 n hn ht).2.keep (hp.form n hn) (λk hk=>g2 k O O) (λk hk=>by rw[m2 k,Ae (by omega),Ae (by omega)])⟩
 obtain⟨s3,h3,g3,m3⟩:=OM hw hs 13 (Ag rfl) ((s.r.length:Int) -p.nr) O p.or 20 3 (λn hn=>hv2 n (hw.or n hn) (hp.or n hn)) ((g2 15 Ak Ak).trans E1.z) ((g2 13 Ak Ak).trans E1.r) O O (Ah rfl) h2
 have hv3: ∀n,n<p.code.length→p.code.length≤tt n→((0≤pl.reg n∧pl.reg n<7)∨(pl.reg n= -1∧0≤pl.slot n∧pl.slot n≤64))∧Holds pl s3 n (val s p.code n):=λn hn ht=>
  ⟨hp.form n hn,(hv2 n hn ht).2.keep (hp.form n hn) (λk hk=>g3 k O O) (λk hk=>by rw[m3 k,Ae (by omega),Ae (by omega)])⟩
 have hz3:s3.g 15=0:=by rw[g3 15 (by decide) (by decide),g2 15 (by decide) (by decide)];exact E1.z
 have hm1:s3.m 1=s.fl:=by
  rw[m3 1,Ae Ak,Ae O,m2 1,Ae Ak,Ae O,E1.m 1 Ak];rfl
 obtain⟨s5,h5,g5,f5,m5⟩:=flsC_ok hw hs (λq=>hv3 p.fl.toNat (by have:=hw.fl;omega) (hp.fl q)) hz3 hm1 h3
 have h6:I (⟨upZ s5.g 9 p.nx,s5.m⟩:Hm)=I s4:=h5
 have h6:=(Ds h6).symm
 have ld:=OO
 have lr:=OP
 refine⟨?_, ?_,λq=>?_, ?_, ?_, ?_,λj hj=>?_,λj hj=>?_⟩
 ·rw[h6];show upZ s5.g 9 p.nx 15=0;unfold upZ;rw[Ae Ak,g5 15 Ak Ak];exact hz3
 ·rw[h6];show upZ s5.g 9 p.nx 9=_;simp[upZ]
 ·have:=hv3 p.tg.toNat GZ (hp.tg q);refine this.2.keep this.1 (λk hk=>?_) (λk hk=>?_);·rw[h6];show upZ s5.g 9 p.nx k=_;unfold upZ;rw[Ae O];exact g5 k O O
  ·rw[h6];exact m5 k O
 ·rw[h6];exact f5
 ·rw[h6,ld];show s5.m 2=_;rw[m5 2 Ak,m3 2,Ae Ak,Ae O,m2 2,An Ak];omega
 ·rw[h6,lr];show s5.m 3=_;rw[m5 3 Ak,m3 3,An Ak];omega
 ·rw[h6];show s5.m (4+j)=_;rw[ld] at hj;have eg:(left p s (evs s p.code)).d.getD j 0=if j<s.d.length -p.nd then s.d.getD j 0 else val s p.code (p.od.getD (j -(s.d.length -p.nd)) 0):=ON s.d (s.d.length -p.nd) O p.od (λn=>(evs s p.code).getD n 0) j hj;rw[eg,m5 _ O,m3 _,Ae O,Ae O,m2 _,Ae O];by_cases c:j<s.d.length -p.nd;·rw[Ae O,An c,E1.m _ O];exact O8
  ·exact OQ
 ·rw[h6];show s5.m (20+j)=_;rw[lr] at hj;have eg:(left p s (evs s p.code)).r.getD j 0=if j<s.r.length -p.nr then s.r.getD j 0 else val s p.code (p.or.getD (j -(s.r.length -p.nr)) 0):=ON s.r (s.r.length -p.nr) O p.or (λn=>(evs s p.code).getD n 0) j hj;rw[eg,m5 _ O,m3 _,Ae O];by_cases c:j<s.r.length -p.nr;·rw[Ae O,An c,m2 _,Ae O,Ae O,E1.m _ O];exact O9
  ·exact OQ
theorem emit_ok{p:Pg}{pl:Pl}{tt:Nat→Nat}{s:St}{σ σ':Hm}{n:Nat}(hw:WF p)(hp:PO p pl tt)(hs:s.Ok)(hr:s.right=Af)(hg: ∀k,σ.g k=0)(hm: ∀j,j<64→σ.m j=putW s j)(h:hrun (codeC p pl) n 0 σ=⟨1,1,σ'⟩):Fits p s∧FM (left p s (evs s p.code)) p.ct σ':=by
 have hr':s.d.length≤16∧s.r.length≤16∧s.fl≤15:=by simpa[St.right,and_assoc] using hr
 obtain⟨hsd,hsr,hfl⟩:=hr';have hfl0:=hs.fl;generalize hE0:(bodyC p pl 0).length=L at*;have hL:(bodyC p pl (L:Int)).length=L:=(UT p pl _ 0).trans hE0;have hC:codeC p pl=bodyC p pl (L:Int)++[⟨19,0,0,0,2⟩]:=by unfold codeC;rw[hE0]
 generalize hcode:codeC p pl=code at*;have hE: ∀m s,hrun code m (L:Int) s≠⟨1,1,σ'⟩:=λm s hh=>by
  rw[←hL] at hh;have e:code=bodyC p pl (L:Int)++⟨19,0,0,0,2⟩::[]:=hC;rw[hL] at hh;have:=(run_exit e (run_at hh hL.symm)).1
  cases this
 have hli:Str [li 15 0]:=Str.nil.cons (str_li _ _);have g0:σ.m 2=s.d.length:=by rw[hm 2 (by decide)];rfl
 have g1:σ.m 3=s.r.length:=by rw[hm 3 (by decide)];rfl
 have w1:=hw.nd;have w2:=hw.nr;have fin: ∀post,code=[]++[li 15 0]++post→ ∃m,hrun code m ((1:Nat):Int) ⟨upZ σ.g 15 0,σ.m⟩=⟨1,1,σ'⟩:=by
  intro post e;obtain⟨s1,m1,q1,q2⟩:=run_seg [li 15 0] [] post n σ σ' e hli h;have:s1=⟨upZ σ.g 15 0,σ.m⟩:=by
   have q1:I (⟨upZ σ.g 15 0,σ.m⟩:Hm)=I s1:=q1;exact(Ds q1).symm
  rw[this] at q2;exact⟨m1,run_at q2 AB⟩
 have hz1:upZ σ.g 15 0 15=0:=FV;by_cases c1:mostV p.hd p.nd p.od.length<p.nd
 ·exfalso;have e:bodyC p pl (L:Int)=[li 15 0]:=by unfold bodyC;rw[An c1]
  rw[e] at hC;obtain⟨m,hm1⟩:=fin [⟨19,0,0,0,2⟩] hC;have e2:code=[li 15 0]++⟨19,0,0,0,2⟩::[]:=hC;have:=(run_exit e2 (run_at hm1 AB)).1
  cases this
 by_cases c2:mostV p.hr p.nr p.or.length<p.nr
 ·exfalso;have e:bodyC p pl (L:Int)=li 15 0::roomC 14 2 p.nd (mostV p.hd p.nd p.od.length) (L:Int):=by unfold bodyC;rw[Ae c1,An c2]
  rw[e] at hC;obtain⟨m,hm1⟩:=fin (roomC 14 2 p.nd (mostV p.hd p.nd p.od.length) (L:Int)++[⟨19,0,0,0,2⟩]) (by rw[hC];rfl);obtain⟨_,_,s1,m2,q,_⟩:=room_ok (pre:=[li 15 0]) (post:=[⟨19,0,0,0,2⟩]) (Ah rfl) (by rw[hC];rfl) hE hz1 Ak g0 O O (run_at hm1 AB);have e2:code=(li 15 0::roomC 14 2 p.nd (mostV p.hd p.nd p.od.length) (L:Int))++⟨19,0,0,0,2⟩::[]:=hC;have:=(run_exit e2 (run_at q H7)).1
  cases this
 have e:bodyC p pl (L:Int)=li 15 0::(roomsC p (L:Int)++(valsC p pl++endC p pl (17+(valsC p pl).length))):=by unfold bodyC;rw[Ae c1,Ae c2]
 rw[e] at hC;unfold roomsC at hC;generalize hA:roomC 14 2 p.nd (mostV p.hd p.nd p.od.length) (L:Int)=A at*;generalize hB:roomC 13 3 p.nr (mostV p.hr p.nr p.or.length) (L:Int)=B at*;have lA:A.length=8:=by rw[←hA];rfl
 have lB:B.length=8:=by rw[←hB];rfl
 generalize hT:endC p pl (17+(valsC p pl).length)=Ed at*;obtain⟨m,hm1⟩:=fin (A++(B++(valsC p pl++Ed))++[⟨19,0,0,0,2⟩]) (by rw[hC];simp);obtain⟨a1,a2,s1,m2,q1,q2,q3,q4⟩:=room_ok (pre:=[li 15 0]) (post:=B++(valsC p pl++Ed)++[⟨19,0,0,0,2⟩]) (Ah rfl) (by rw[hC,hA];simp) hE hz1 Ak g0 O O (run_at hm1 AB);have q2:s1.m=σ.m:=q2;have zs1:s1.g 15=0:=by rw[q4 15 (by decide) (by decide) (by decide)];exact hz1
 obtain⟨b1,b2,s2,m3,p1,p2,p3,p4⟩:=room_ok (pre:=[li 15 0]++A) (post:=valsC p pl++Ed++[⟨19,0,0,0,2⟩]) (word:=3) (len:=s.r.length) (Ag rfl) (by rw[hC,hB];simp) hE zs1 Ak (show s1.m 3=_ from by rw[q2];exact g1) O O (run_at q1 (by simp[lA]));have zs2:s2.g 15=0:=by rw[p4 15 (by decide) (by decide) (by decide)];exact zs1
 have ds2:s2.g 14=(s.d.length:Int) -p.nd:=by rw[p4 14 (by decide) (by decide) (by decide)];exact q3
 unfold mostV at a2 b2 c1 c2;have hmn: ∀a b c:Int,a≤min b c→a≤b∧a≤c:=λa b c hh=>O;obtain⟨a3,a4⟩:=hmn _ _ _ a2;obtain⟨b3,b4⟩:=hmn _ _ _ b2;refine⟨⟨O,O,O,O⟩, ?_⟩;have eT:Ed=flsC p pl++(li 9 p.nx::(brC p ((17+(valsC p pl).length+(flsC p pl).length+6:Nat):Int)++(tgC p pl++lastC p))):=by rw[←hT];rfl
 have hC2:code=([li 15 0]++A++B)++(valsC p pl++(flsC p pl++[li 9 p.nx]))++(brC p ((17+(valsC p pl).length+(flsC p pl).length+6:Nat):Int)++(tgC p pl++lastC p)++[⟨19,0,0,0,2⟩]):=by rw[hC,eT];simp
 obtain⟨s4,m4,r1,r2⟩:=run_seg _ _ _ m3 s2 σ' hC2 (Str.app (US _ _) (Str.app (str_flsC _ _) (Str.nil.cons (str_li _ _)))) (run_at p1 (by simp[lA,lB]));obtain⟨v1,v2,v3,v4,v5,v6,v7,v8⟩:=vals_ok hw hp hs hsd hsr O O O O zs2 ds2 p3 (λj hj=>by rw[p2,q2];exact hm j hj) r1;have hflb:0≤(left p s (evs s p.code)).fl∧(left p s (evs s p.code)).fl<16:=by
  unfold left;simp only[];split<;>omega
 generalize hcut:([li 15 0]++A++B)++(valsC p pl++(flsC p pl++[li 9 p.nx]))=pre4 at*;have lpre:pre4.length=18+(valsC p pl).length+(flsC p pl).length:=by rw[←hcut];simp[lA,lB];omega
 obtain⟨pre5,s5,m5,hC5,t1,t2,t3,t4,t5⟩: ∃pre5 s5 m5,code=pre5++((tgC p pl++lastC p)++[⟨19,0,0,0,2⟩])∧hrun code m5 ((pre5.length:Nat):Int) s5=⟨1,1,σ'⟩∧s5.m=s4.m∧s5.g 15=0∧(∀k,k<7→s5.g k=s4.g k)∧
  s5.g 9=if p.br≠0∧holdsB p.br (left p s (evs s p.code)).fl=Af then p.tk else p.nx:=by
  by_cases hb:p.br=0
  ·have eb:brC p ((17+(valsC p pl).length+(flsC p pl).length+6:Nat):Int)=[]:=by unfold brC;rw[An hb]
   rw[eb] at hC2;exact⟨pre4,s4,m4,by rw[hC2];simp,run_at r2 (by rw[lpre];simp[lA,lB];omega),rfl,v1,λ_ _=>rfl,by rw[Ae (λq=>q.1 hb)];exact v2⟩
  ·have hbr:33≤p.br∧p.br≤37∧p.tg= -1:=by have:=hw.br;omega
   have eb:brC p ((17+(valsC p pl).length+(flsC p pl).length+6:Nat):Int)=[hld 11 15 1,li 12 (jumpV p.br),hop 5 11 11 12,⟨if p.br=34 then 17 else 16,0,11,0,((17+(valsC p pl).length+(flsC p pl).length+6:Nat):Int)⟩,li 9 p.tk]:=by unfold brC;rw[Ae hb]
   rw[eb] at hC2;have hC3:code=pre4++[hld 11 15 1,li 12 (jumpV p.br),hop 5 11 11 12]++(⟨if p.br=34 then 17 else 16,0,11,0,((17+(valsC p pl).length+(flsC p pl).length+6:Nat):Int)⟩::li 9 p.tk::((tgC p pl++lastC p)++[⟨19,0,0,0,2⟩])):=by rw[hC2];simp
   obtain⟨s6,m6,u1,u2⟩:=run_seg _ pre4 _ m4 s4 σ' hC3 (((Str.nil.cons (str_hop Ak)).cons (str_li _ _)).cons (str_hld _ _ _)) (run_at r2 (by rw[lpre];simp[lA,lB];omega));obtain⟨x1,x2⟩:=hld_ok u1;have ep:(s4.g 15+1)%18446744073709551616=1:=by rw[v1];rfl
   rw[ep,hseq_li,hseq_hop _ _ _ _ _ _ Ak] at x2;have x3:=(Ds x2).symm;have hC4:code=(pre4++[hld 11 15 1,li 12 (jumpV p.br),hop 5 11 11 12])++⟨if p.br=34 then 17 else 16,0,11,0,(((pre4++[hld 11 15 1,li 12 (jumpV p.br),hop 5 11 11 12]).length+2:Nat):Int)⟩::li 9 p.tk::((tgC p pl++lastC p)++[⟨19,0,0,0,2⟩]):=by
    have el:(pre4++[hld 11 15 1,li 12 (jumpV p.br),hop 5 11 11 12]).length+2=17+(valsC p pl).length+(flsC p pl).length+6:=by simp[lpre];omega
    rw[el];exact hC3
   obtain⟨m7,y⟩:=run_over EU hC4 (run_at u2 AB);have g11:s6.g 11=Bb .and AM (left p s (evs s p.code)).fl (jumpV p.br):=by
    rw[x3];simp only[upZ,if_true,Dq,if_false];show reckV 5 (s4.m 1) _=_;rw[v4];rfl
   have hk6: ∀k,k≠11→k≠12→s6.g k=s4.g k:=λk k1 k2=>by rw[x3];simp only[upZ,Ae k1,Ae k2]
   have hm6:s6.m=s4.m:=by rw[x3]
   have hfb:=flag_bit _ hflb.1 hflb.2 p.br ⟨hbr.1,hbr.2.1⟩;rw[←g11] at hfb;generalize(if p.br=34 then 17 else 16:Nat)=jop at*;refine⟨pre4++[hld 11 15 1,li 12 (jumpV p.br),hop 5 11 11 12,⟨jop,0,11,0,((17+(valsC p pl).length+(flsC p pl).length+6:Nat):Int)⟩,li 9 p.tk],_,m7,by rw[hC3];simp,run_at y AB, ?_, ?_,λk hk=>?_, ?_⟩
   ·split;·exact hm6
    ·exact hm6
   ·split;·rw[hk6 15 Ak Ak];exact v1
    ·show upZ s6.g 9 p.tk 15=0;unfold upZ;rw[Ae Ak,hk6 15 Ak Ak];exact v1
   ·split;·exact hk6 k O O
    ·show upZ s6.g 9 p.tk k=_;unfold upZ;rw[Ae O];exact hk6 k O O
   ·by_cases hh:holdsB p.br (left p s (evs s p.code)).fl=Af;·rw[Ae (λq=>(hfb.1 q) hh),An ⟨hb,hh⟩];show upZ s6.g 9 p.tk 9=_;simp[upZ]
    ·rw[An (hfb.2 hh),Ae (λq=>hh q.2),hk6 9 Ak Ak];exact v2
 have hC6:code=pre5++(tgC p pl++[hst 15 0 9,li 11 p.ct,hst 15 36 11])++(⟨19,0,0,0,1⟩::[⟨19,0,0,0,2⟩]):=by rw[hC5];simp[lastC]
 obtain⟨s6,m6,u1,u2⟩:=run_seg _ pre5 _ m5 s5 σ' hC6 (Str.app (str_tgC _ _) (((Str.nil.cons (str_hst _ _ _)).cons (str_li _ _)).cons (str_hst _ _ _))) t1;obtain⟨s7,w3,w4,w5,w6⟩:=tgC_ok hw hs (λq=>⟨hp.form p.tg.toNat GZ,(v3 q).keep (hp.form p.tg.toNat GZ) t4 (λk _=>by rw[t2])⟩) t3 t5 u1;obtain⟨x1,x2⟩:=hst_ok w3;rw[hseq_li] at x2;obtain⟨x3,x4⟩:=hst_ok x2;have x5:=(Ds x4).symm;have hC7:code=(pre5++(tgC p pl++[hst 15 0 9,li 11 p.ct,hst 15 36 11]))++⟨19,0,0,0,1⟩::[⟨19,0,0,0,2⟩]:=hC6;have x6:=(run_exit hC7 (run_at u2 AB)).2;have hpc:s7.g 9=(left p s (evs s p.code)).pc:=by
  rw[w5];rfl
 have bpc:0≤s7.g 9∧s7.g 9<4294967296:=by
  rw[w5];have b0:=hw.nx;have b1:=hw.tk;have b2:=val_bd hw hs p.tg.toNat;split;·exact b2
  ·split<;>omega
 have hct:=hw.ct;have hmem: ∀j,σ'.m j=if j=36 then(p.ct:Int) else if j=0 then(left p s (evs s p.code)).pc else s4.m j:=by
  intro j;rw[←x6,x5];have e1:(s7.g 15+0)%18446744073709551616=0:=by rw[w4];rfl
  have e2:(upZ s7.g 11 (p.ct:Int) 15+36)%18446744073709551616=36:=by
   have:upZ s7.g 11 (p.ct:Int) 15=0:=by unfold upZ;rw[Ae (by decide)];exact w4
   rw[this];rfl
  have e3:upZ s7.g 11 (p.ct:Int) 11%4294967296=p.ct:=by
   have:upZ s7.g 11 (p.ct:Int) 11=p.ct:=FV;rw[this];omega
  simp only[e1,e2,e3];rw[CZ bpc.1 bpc.2,hpc];show upZ (upZ s7.m (0:Int).toNat (left p s (evs s p.code)).pc) (36:Int).toNat (p.ct:Int) j=_;unfold upZ;by_cases j36:j=36;·rw[An (by rw[j36];rfl),An j36]
  ·rw[Ae (by show ¬j=36;exact j36),Ae j36];by_cases j0:j=0;·rw[An (by rw[j0];rfl),An j0]
   ·rw[Ae (by show ¬j=0;exact j0),Ae j0,w6,t2]
 have ld:=OO;have lr:=OP;exact⟨by rw[hmem 0,Ae (by decide),An rfl],by rw[hmem 1,Ae (by decide),Ae (by decide)];exact v4,by rw[hmem 2,Ae (by decide),Ae (by decide)];exact v5,by rw[hmem 3,Ae (by decide),Ae (by decide)];exact v6,λj hj=>by rw[hmem _,Ae (by omega),Ae (by omega)];exact v7 j hj,λj hj=>by rw[hmem _,Ae (by omega),Ae (by omega)];exact v8 j hj,by rw[hmem 36,An rfl]⟩
end Tr
namespace Tr
open Gs
structure HOk(i:HI):Prop where
 rd:i.rd<16
 ra:i.ra<16
 rb:i.rb<16
 imm:0≤i.imm∧i.imm≤4294967295
 form:(i.op=1∧i.ra=0∧i.rb=0)∨(i.op=2∧i.rb=0∧i.imm=0)∨(3≤i.op∧i.op≤13∧i.imm=0)∨(i.op=14∧i.rb=0)∨(i.op=15∧i.rd=0)∨((i.op=16∨i.op=17)∧i.rd=0∧i.rb=0)∨(i.op=19∧i.rd=0∧i.ra=0∧i.rb=0)
def HAll(l:List HI):Prop:= ∀i∈l,HOk i
theorem HAll.nil:HAll []:=λi h=>absurd h AB
theorem HAll.cons{i:HI}{l:List HI}(h:HOk i)(k:HAll l):HAll (i::l):=λj hj=>by
 rcases Cy.1 hj with e|e;·rw[e];exact h
 ·exact k j e
theorem HAll.app{l m:List HI}(h:HAll l)(k:HAll m):HAll (l++m):=λj hj=>by
 rcases BZ.1 hj with e|e;·exact h j e
 ·exact k j e
variable{v:Int}
theorem ok_li{rd:Nat}(h:rd<16)(v0:0≤v)(v1:v≤4294967295):HOk (li rd v):=⟨h,DM,DM,⟨v0,v1⟩,Ag ⟨rfl,rfl,rfl⟩⟩
variable{ra:Nat}
theorem ok_hop{op rd rb:Nat}(h0:3≤op)(h1:op≤13)(hd:rd<16)(ha:ra<16)(hb:rb<16):HOk (hop op rd ra rb):=⟨hd,ha,hb,⟨EZ,FH⟩,Ah (Ah (Ag ⟨h0,h1,rfl⟩))⟩
theorem ok_mov{rd:Nat}(hd:rd<16)(ha:ra<16):HOk (hop 2 rd ra 0):=⟨hd,ha,DM,⟨EZ,FH⟩,Ah (Ag ⟨rfl,rfl,rfl⟩)⟩
theorem ok_hld{rd:Nat}(hd:rd<16)(ha:ra<16)(v0:0≤v)(v1:v≤4294967295):HOk (hld rd ra v):=⟨hd,ha,DM,⟨v0,v1⟩,Ah (Ah (Ah (Ag ⟨rfl,rfl⟩)))⟩
theorem ok_hst{rb:Nat}(ha:ra<16)(hb:rb<16)(v0:0≤v)(v1:v≤4294967295):HOk (hst ra v rb):=⟨DM,ha,hb,⟨v0,v1⟩,Ah (Ah (Ah (Ah (Ag ⟨rfl,rfl⟩))))⟩
theorem ok_br{op r:Nat}(h:op=16∨op=17)(hr:r<16)(v0:0≤v)(v1:v≤4294967295):HOk ⟨op,0,r,0,v⟩:=⟨DM,hr,DM,⟨v0,v1⟩,Ah (Ah (Ah (Ah (Ah (Ag ⟨h,rfl,rfl⟩)))))⟩
theorem ok_exit(v0:0≤v)(v1:v≤4294967295):HOk ⟨19,0,0,0,v⟩:=⟨DM,DM,DM,⟨v0,v1⟩,Ah (Ah (Ah (Ah (Ah (Ah ⟨rfl,rfl,rfl,rfl⟩)))))⟩
def Plc(pl:Pl)(n:Nat):Prop:=(0≤pl.reg n∧pl.reg n<7)∨(pl.reg n= -1∧0≤pl.slot n∧pl.slot n≤64)
section
variable {pl:Pl} {n into rd a b:Nat} {op:Int}
theorem slotA_bd(pl:Pl)(n:Nat):0≤slotA pl n∧slotA pl n≤4294967295:=JH
theorem getR_bd(h:Plc pl n)(hi:into<16):getR pl n into<16:=by
 unfold getR;split
 ·rcases h with h|h;·omega
  ·omega
 ·exact hi
theorem all_getC(hi:into<16):HAll (getC pl n into):=by
 unfold getC;split;·exact HAll.nil
 ·exact HAll.nil.cons (ok_hld hi O (slotA_bd pl n).1 (slotA_bd pl n).2)
theorem UU(hr:rd<16):HAll (keepC pl n rd):=by
 unfold keepC;split;·exact HAll.nil.cons (ok_hst O hr (slotA_bd pl n).1 (slotA_bd pl n).2)
 ·exact HAll.nil
theorem hostO_bd(op:Int):3≤hostO op∧hostO op≤13:=by
 unfold hostO
 repeat' split
 all_goals omega
theorem all_lowC(hr:rd<16):HAll (lowC rd):=(HAll.nil.cons (ok_hop O O hr hr O)).cons (ok_li O O O)
theorem all_aluC(hr:rd<16)(ha:a<16)(hb:b<16):HAll (aluC op rd a b):=by
 unfold aluC;refine HAll.cons (ok_hop (hostO_bd op).1 (hostO_bd op).2 hr ha hb) ?_;split;·exact HAll.nil
 ·exact all_lowC hr
theorem all_bitC(ha:a<16){up:Int}(h0:0≤up)(h1:up≤4294967295):HAll (bitC a up):=((HAll.nil.cons (ok_hop O O O O ha)).cons (ok_hop O O ha ha O)).cons (ok_li O h0 h1)
theorem OR(hr:rd<16)(ha:a<16):HAll (signC rd a):=(HAll.nil.cons (ok_hop O O hr ha O)).cons (ok_li O O O)
theorem OS{x1 x2 y1 y2:Nat}(h1:x1<16)(h2:x2<16)(h3:y1<16)(h4:y2<16):HAll (overC x1 x2 y1 y2):=
 HAll.app ((HAll.nil.cons (ok_hop O O O h3 h4)).cons (ok_hop O O O h1 h2))
  (HAll.app (HAll.nil.cons (ok_hop O O O O O)) (HAll.app (OR O O) (all_bitC O O O)))
theorem UV(ha:a<16)(hb:b<16):HAll (flagC op a b):=by
 unfold flagC;refine(all_aluC O ha hb).app (HAll.app (HAll.nil.cons (ok_hop O O O O O)) ((OR O O).app ((all_bitC O O O).app ?_)));split;·exact HAll.app (HAll.nil.cons (ok_hop O O O O ha)) ((all_bitC O O O).app (OS ha O hb O))
 split;·exact HAll.app (HAll.nil.cons (ok_hop O O O ha hb)) ((all_bitC O O O).app (OS ha hb ha O))
 ·exact HAll.nil
end
section
variable {p:Pg} {pl:Pl}
theorem all_oneC(hw:WF p)(hp: ∀n,n<p.code.length→Plc pl n){n:Nat}(hn:n<p.code.length){x:IIn}(hx:x=at_ p.code n):HAll (oneC p pl n x):=by
 have hm:=hw.code n hn;rw[←hx] at hm;have hr:getR pl n 9<16:=getR_bd (hp n hn) O;unfold oneC;refine HAll.app ?_ (UU hr);have him:=hm.imm;have hnd:=hw.nd;have hnr:=hw.nr;unfold makeC;split;·exact HAll.nil.cons (ok_li hr him.1 him.2)
 split
 ·rename_i h1
  have:=hm.arg h1;exact OT
 split
 ·rename_i h1
  have:=hm.ret h1;exact OT
 have hab:3≤x.op→x.a<p.code.length∧x.b<p.code.length:=λh=>by have:=hm.ab h;omega
 have hop:=hm.op;split
 ·rename_i h0 h1 h2 h3
  have:=hab O;exact(all_getC O).app ((all_getC O).app (all_aluC hr (getR_bd (hp _ this.1) O) (getR_bd (hp _ this.2) O)))
 ·rename_i h0 h1 h2 h3
  have:=hab O;exact(all_getC O).app ((all_getC O).app ((UV (getR_bd (hp _ this.1) O) (getR_bd (hp _ this.2) O)).app (HAll.nil.cons (ok_mov hr O))))
theorem OU(hw:WF p)(hp: ∀n,n<p.code.length→Plc pl n): ∀(l:List IIn) (n:Nat),n+l.length=p.code.length→p.code.drop n=l→HAll (onesC p pl n l)
 |[],_,_,_=>HAll.nil
 |x::l,n,hl,hd=>by
  have hn:n<p.code.length:=by simp at hl;omega
  have hx:x=at_ p.code n:=by
   have h1:p.code[n]?=I x:=by rw[←List.head?_drop,hd];rfl
   unfold at_;rw[AN,h1];rfl
  refine(all_oneC hw hp hn hx).app (OU hw hp l (n+1) (by simp at hl;omega) ?_);rw[←List.drop_drop,hd];rfl
variable{base:Nat}
theorem OV(hp: ∀n,n<p.code.length→Plc pl n)(hb:base<16): ∀(out:List Nat) (k:Int),0≤k→k+out.length≤1000→(∀n∈out,n<p.code.length)→HAll (putsC pl base k out)
 |[],_,_,_,_=>HAll.nil
 |n::l,k,h0,h1,h=>by
  refine(all_getC O).app (HAll.cons (ok_hst hb (getR_bd (hp n (h n AB)) O) h0 (by simp at h1;omega)) (OV hp hb l (k+1) O (by simp at h1⊢;omega) (λj hj=>h j Dh)))
theorem OW(hp: ∀n,n<p.code.length→Plc pl n)(hb:base<16){k word:Int}{out:List Nat}(h0:0≤k)(h1:k+out.length≤1000)(hw:0≤word∧word≤100)(h: ∀n∈out,n<p.code.length):HAll (stackC pl base k word out):=
 (OV hp hb out k h0 h1 h).app (((HAll.nil.cons (ok_hst O O hw.1 O)).cons (ok_hop O O O O hb)).cons (ok_li O O O))
theorem H8(hb:base<16){word need most E:Int}(hw:0≤word∧word≤100)(hn:0≤need∧need≤100)(hm:0≤most∧most≤100)(hE:0≤E∧E≤4294967295):HAll (roomC base word need most E):=
 (((((((HAll.nil.cons (ok_hop O O hb hb O)).cons (ok_br (Ah rfl) O hE.1 hE.2)).cons (ok_hop O O O O hb)).cons (ok_li O hm.1 O)).cons (ok_br (Ah rfl) O hE.1 hE.2)).cons (ok_hop O O O hb O)).cons (ok_li O hn.1 O)).cons (ok_hld hb O hw.1 O)
theorem all_endC(hw:WF p)(hp: ∀n,n<p.code.length→Plc pl n)(len:Nat)(hl:len≤100000):HAll (endC p pl len):=by
 have hf:=hw.fl;have ht:=hw.tg;have hnx:=hw.nx;have htk:=hw.tk;have hct:=hw.ct;have hfl:(flsC p pl).length≤10:=by
  unfold flsC getC
  repeat' split
  all_goals simp
 unfold endC;refine HAll.app ?_ (HAll.cons (ok_li O hnx.1 hnx.2) (HAll.app ?_ (HAll.app ?_ ?_)))
 ·unfold flsC;split;·refine HAll.cons (ok_li O O O) ((all_getC O).app ((HAll.nil.cons (ok_hst O O O O)).cons (ok_hop O O O O (getR_bd (hp _ O) O))))
  ·exact HAll.nil
 ·unfold brC;split;·exact HAll.nil
  ·have hj:0≤jumpV p.br∧jumpV p.br≤100:=by
    unfold jumpV
    repeat' split
    all_goals omega
   exact((((HAll.nil.cons (ok_li O htk.1 htk.2)).cons (ok_br EU O O O)).cons (ok_hop O O O O O)).cons (ok_li O hj.1 O)).cons (ok_hld O O O O)
 ·unfold tgC;split;·exact(all_getC O).app (HAll.nil.cons (ok_mov O (getR_bd (hp _ O) O)))
  ·exact HAll.nil
 ·exact(((HAll.nil.cons (ok_exit O O)).cons (ok_hst O O O O)).cons (ok_li O O O)).cons (ok_hst O O O O)
theorem UW{tt:Nat→Nat}(hw:WF p)(hp:PO p pl tt)(hl:(valsC p pl).length≤10000)(hb:(bodyC p pl 0).length≤100000):HAll (codeC p pl):=by
 have hpl: ∀n,n<p.code.length→Plc pl n:=hp.form;have hnd:=hw.nd;have hnr:=hw.nr;have h1:=hw.odl;have h2:=hw.orl;unfold codeC;refine HAll.app ?_ (HAll.nil.cons (ok_exit O O));generalize hE:(((bodyC p pl 0).length:Nat):Int)=E;have hE:0≤E∧E≤4294967295:=O;unfold bodyC;split;·exact HAll.nil.cons (ok_li O O O)
 rename_i hd
 split;·exact HAll.cons (ok_li O O O) (H8 O O O JI hE)
 rename_i hr
 refine HAll.cons (ok_li O O O) (HAll.app ?_ (HAll.app ?_ (all_endC hw hpl _ O)));·exact(H8 O O O JI hE).app (H8 O O O JI hE)
 ·exact(OU hw hpl p.code 0 AB rfl).app ((OW hpl O O O O hw.od).app (OW hpl O O O O hw.or))
end
end Tr
namespace Tr
open Gs
def atH(l:List HI)(i:Nat):HI:=l.getD i ⟨0,0,0,0,0⟩
def fix1(E:Int)(l:List HI)(i:Nat):List HI:=l.set i {atH l i with imm:=E}
def fixL(E:Int)(fx:List Nat)(l:List HI):List HI:=fx.foldl (fix1 E) l
theorem fix1_len(E:Int)(l:List HI)(i:Nat):(fix1 E l i).length=l.length:=by simp[fix1]
theorem fixL_len(E:Int): ∀(fx:List Nat) (l:List HI),(fixL E fx l).length=l.length
 |[],l=>rfl
 |i::fx,l=>by
  show(fixL E fx (fix1 E l i)).length=l.length;rw[fixL_len E fx,fix1_len]
theorem UY(E:Int)(fx:List Nat)(i:Nat)(l:List HI):fixL E (fx++[i]) l=fix1 E (fixL E fx l) i:=by
 unfold fixL;rw[List.foldl_append];rfl
def fxP(p:Pg):List Nat:=
 if mostV p.hd p.nd p.od.length<p.nd then[] else if mostV p.hr p.nr p.or.length<p.nr then[4,7] else[4,7,12,15]
theorem fix_ok(p:Pg)(pl:Pl)(E:Int):fixL E (fxP p) (bodyC p pl 0)=bodyC p pl E:=by
 unfold fxP bodyC;by_cases h1:mostV p.hd p.nd p.od.length<p.nd;·rw[An h1,An h1,An h1];rfl
 ·rw[Ae h1,Ae h1,Ae h1];by_cases h2:mostV p.hr p.nr p.or.length<p.nr;·rw[An h2,An h2,An h2];rfl
  ·rw[Ae h2,Ae h2,Ae h2];generalize valsC p pl++endC p pl (17+(valsC p pl).length)=X;rfl
theorem fix_code(p:Pg)(pl:Pl):fixL ((bodyC p pl 0).length:Nat) (fxP p) (bodyC p pl 0)++[⟨19,0,0,0,2⟩]=codeC p pl:=by
 rw[fix_ok];rfl
end Tr
namespace Em
open Gs Tr
def hc(i:HI):List As:=[J Z i.op,J Z i.rd,J Z i.ra,J Z i.rb,J V i.imm]
def hcs(l:List HI):List As:=l.flatMap hc
theorem hcs_one(l:List HI): ∀u∈hcs l,u.oneCell'=Af:=by
 intro u hu;obtain⟨i,_,hi⟩:=List.mem_flatMap.1 hu;simp only[hc,Cy,List.not_mem_nil,or_false] at hi;rcases hi with rfl|rfl|rfl|rfl|rfl<;>rfl
theorem hcs_app(l m:List HI):hcs (l++m)=hcs l++hcs m:=by simp[hcs]
def ab(A:Aw):Option Nat:=A.map (·.block)
variable{n:Nat}
theorem own_ab{A:Aw}{c:Nat}{k:Nat}(h:(U A n c).ownBlock=I k):ab A=I k:=N1
theorem ab_own{w:Ac}{base m c s:Nat}{ty:AK}{A:Aw}{xs:List As}(h:w.ownsRow base ty s (U A n c) m xs){k:Nat}(he:ab A=I k):(U A n c).ownBlock=I k:=by
 cases A
 ·simp[ab] at he
 ·simpa[Bp,ab] using he
structure Ep where
 g:Nat
 L:Aw
 lc:Nat
 X:Aw
 xc:Nat
def Ep.its(p:Ep)(k:Nat):Prop:=k=p.g∨ab p.L=I k∨ab p.X=I k
structure Es where
 l:List HI
 fx:List Nat
def emF(Q:Nat→As)(lv xv:As):Nat→As:=λi=>if i=17 then lv else if i=18 then xv else Q i
def fxV(l:List Nat):List As:=l.map λ(n:Nat)=> J Z (n:Int)
theorem own_form{w:Ac}{base s:Nat}{ty:AK}{v:As}{xs:List As}(h:w.ownsRow base ty s v n xs): ∃A c,v=U A n c:=by
 rcases h.2 with⟨e,e2⟩|⟨g',cap,cur,e,_⟩;·exact⟨G,0,by rw[e,e2]⟩
 ·exact⟨_,_,e⟩
structure Em(w:Ac)(base:Nat)(p:Ep)(s:Es)(Q:Nat→As)(B:Nat):Prop where
 b:Cells w p.g 261 19 (emF Q (U p.L s.l.length p.lc) (U p.X s.fx.length p.xc))
 l:w.ownsRow base 269 5 (U p.L s.l.length p.lc) s.l.length (hcs s.l)
 x:w.ownsRow base 3 1 (U p.X s.fx.length p.xc) s.fx.length (fxV s.fx)
 g0:base≤p.g
 len:s.l.length≤B∧s.fx.length≤B
section
variable {w w' w2:Ac} {base:Nat} {p p':Ep} {s s' s2:Es} {Q:Nat→As} {B B':Nat} {S:AG} {v v2:As} {e:AT}
theorem Em.ge(h:Em w base p s Q B): ∀k,p.its k→base≤k:=by
 rintro k (e|e|e);·rw[e];exact h.g0
 ·exact own_base h.l k (ab_own h.l e)
 ·exact own_base h.x k (ab_own h.x e)
theorem Em.lt(h:Em w base p s Q B): ∀k,p.its k→k<w.heap.size:=by
 rintro k (e|e|e);·rw[e];exact h.b.lt
 ·exact own_lt h.l k (ab_own h.l e)
 ·exact own_lt h.x k (ab_own h.x e)
theorem Em.fr(h:Em w base p s Q B)(f:Fr S w w')(hs: ∀k,p.its k→ ¬S k):Em w' base p s Q B:=
 ⟨h.b.fr f (hs _ (Ag rfl)),own_fr h.l f (λk hk=>hs k (Ah (Ag (own_ab hk)))),own_fr h.x f (λk hk=>hs k (Ah (Ah (own_ab hk)))),h.g0,h.len⟩
theorem Em.fr0(h:Em w base p s Q B)(f:Fr Aj w w'):Em w' base p s Q B:=h.fr f (λ_ _ e=>e)
theorem Em.le(h:Em w base p s Q B)(hb:B≤B'):Em w base p s Q B':=⟨h.b,h.l,h.x,h.g0,AS h.len.1 hb,AS h.len.2 hb⟩
theorem Em.gL(h:Em w base p s Q B):ab p.L≠I p.g:=λe=>by
 obtain⟨cs,hb,_⟩:=h.b;exact AZ h.l hb Ak (ab_own h.l e)
theorem Em.gX(h:Em w base p s Q B):ab p.X≠I p.g:=λe=>by
 obtain⟨cs,hb,_⟩:=h.b;exact AZ h.x hb Ak (ab_own h.x e)
theorem Em.LX(h:Em w base p s Q B)(k:Nat)(e1:ab p.L=I k)(e2:ab p.X=I k):False:=by
 have h1:=ab_own h.l e1;have h2:=ab_own h.x e2;rcases h.l.2 with⟨e,_⟩|⟨g,cap,cur,hv,_,hb,_⟩;·rw[e] at h1;simp[Bp] at h1
 ·rw[hv] at h1;have hk:g=k:=by simpa[Bp] using h1
  subst hk;exact AZ h.x hb Ak h2
def EPost(w:Ac)(base:Nat)(p:Ep)(s':Es)(Q:Nat→As)(B':Nat)(v:As)(e:AT)(w':Ac):Prop:=
 e=Ax v∧ ∃p',p'.g=p.g∧Em w' base p' s' Q B'∧(∀k,p'.its k→p.its k∨w.heap.size≤k)∧Fr p.its w w'
theorem EPost.le(h:EPost w base p s' Q B v e w')(hb:B≤B'):EPost w base p s' Q B' v e w':=OX
structure Elk(w w':Ac)(p p':Ep):Prop where
 g:p'.g=p.g
 it: ∀k,p'.its k→p.its k∨w.heap.size≤k
 f:Fr p.its w w'
theorem Elk.refl(w:Ac)(p:Ep):Elk w w p p:=⟨rfl,λk hk=> Ag hk,Ao _ _⟩
theorem Elk.tr{p2:Ep}(h:Elk w w' p p')(k:Elk w' w2 p' p2):Elk w w2 p p2:=OY
theorem Elk.fr0(h:Elk w w' p p')(f:Fr Aj w' w2):Elk w w2 p p':=⟨h.g,h.it,h.f.trans f (λ_ _ e=>e.elim)⟩
theorem Elk.from0(f:Fr Aj w w')(h:Elk w' w2 p p'):Elk w w2 p p':=
 ⟨h.g,λk hk=>by
  have:=f.size;rcases h.it k hk with e|e;·exact Ag e
  ·exact Ah O,(f.mono (S':=p.its) (λ_ _ e=>e.elim)).tr h.f⟩
theorem EPost.elim(h:EPost w base p s' Q B v e w'):e=Ax v∧ ∃p',Elk w w' p p'∧Em w' base p' s' Q B:=by
 obtain⟨he,p',h1,h2,h3,h4⟩:=h;exact⟨he,p',⟨h1,h3,h4⟩,h2⟩
theorem ego{P:BW}{zs:AL}{R:AT→Ac→Prop}(H:At P n zs w (EPost w base p s' Q B v))(k: ∀w' L lc X xc,Hid (Elk w w' p ⟨p.g,L,lc,X,xc⟩)→Hid (Em w' base ⟨p.g,L,lc,X,xc⟩ s' Q B)→R (Ax v) w'):At P n zs w R:=by
 refine H.mono ?_;intro e w' hq;obtain⟨rfl,⟨g,L,lc,X,xc⟩,k1,e1⟩:=hq.elim;obtain rfl:g=p.g:=k1.g;exact k _ _ _ _ _ (T k1) (T e1)
theorem EPost.of{p':Ep}(h:Elk w w' p p')(k:Em w' base p' s' Q B):EPost w base p s' Q B v (Ax v) w':=⟨rfl,p',h.g,k,h.it,h.f⟩
theorem EPost.then{p':Ep}(h:Elk w w' p p')(k:EPost w' base p' s' Q B v e w2):EPost w base p s' Q B v e w2:=by
 obtain⟨rfl,p2,k1,k2⟩:=k.elim;exact EPost.of (h.tr k1) k2
end
theorem info5:(Tryz.prog.info? 269).map (λi=>(i.zero,i.size,i.bytes))=I (I (AA #[J Z 0,J Z 0,J Z 0,J Z 0,J V 0]),5,40):=AI
theorem infoI:(Tryz.prog.info? 3).map (λi=>(i.zero,i.size,i.bytes))=I (I (J Z 0),1,8):=AI
theorem emF17{Q:Nat→As}{lv xv:As}(u:As): ∀i,i<19→putV (emF Q lv xv) 17 u i=emF Q u xv i:=by
 intro i _;unfold putV emF;by_cases h:i=17;·simp[h]
 ·simp[h]
theorem emF18{Q:Nat→As}{lv xv:As}(u:As): ∀i,i<19→putV (emF Q lv xv) 18 u i=emF Q lv u i:=by
 intro i _;unfold putV emF;by_cases h:i=18;·simp[h]
 ·by_cases h2:i=17;·simp[h2]
  ·simp[h,h2]
section
variable (w:Ac) (base:Nat) (p:Ep) (s:Es) (Q:Nat→As) (B:Nat)
theorem add_any(h:Em w base p s Q B)(hB:B≤90000)(A:Aw)(c B2:Nat)(news:List HI)(hr:Reads w B2 5 A news.length (hcs news))(hn:news.length≤1000)(hb:base≤↑w):At Tryz.prog 143 #[↑p.g,U A news.length c] w (EPost w base p ⟨s.l++news,s.fx⟩ Q (B+news.length) (AD #[])):=by
 obtain⟨i0,hi0,hz0,hz1,hz2⟩:=BH info5;have c17:w.cell? ⟨p.g,17,G⟩=I (U p.L s.l.length p.lc):=h.b.cell 17 O;have y17:=h.b.frozen 17;have hl:=h.l;have hlen:=h.len;have hgl:=h.b.lt;have H:=T h;generalize hm:s.l.length=m at*;have hm5:=T hm;generalize hk:news.length=k at*;have HK:=T hk;have hgL:=T h.gL;clear h hm hk;go_in;go_wp2_with
  (at_builtin
   refine Ce _ rfl (.tmp 8) (.tmp 9) _ rfl base 269 i0 _ 5 40 Tryz.underlying259 hi0 hz0 hz1 hz2 rfl O (U p.L m p.lc) m (hcs s.l) rfl hl B2 A k c (hcs news) rfl hr (hcs_one _) Bu O hb ?_
   intro v1 w1 hown1 hg1 hat1
   obtain⟨A1,c1,rfl⟩:=own_form hown1
   have f1:Fr p.its w w1:=(Ao _ w).grown hg1 (λq hq=> Ag (Ah (Ag (own_ab hq))))
   have ob: ¬(λq=>ab p.L=I q) p.g:=hgL.out
   have b1:=H.out.b.fr (S:=λq=>ab p.L=I q) ((Ao _ w).grown hg1 (λq hq=> Ag (own_ab hq))) ob
   have y17:=b1.frozen 17
   have c17:=b1.cell 17 O
   have hgl1:=b1.lt
   have HX:=T (A9 hown1 (A9 hat1 (A9 f1 (A9 b1 hg1))))
   clear hown1 hat1 f1 ob b1 hg1 hr hl)
 go_end0;obtain⟨o1,hat,f1,b1,hg1⟩:=HX.out;have hsz:=hg1.size;have hnew: ∀q,ab A1=I q→ab p.L=I q∨w.heap.size=q:=λq hq=>by
  have e:=ab_own o1 hq;rcases hat with e2|e2;·exact HH
  ·rw[e2] at e;exact Ah EY
 have hgA:ab A1≠I p.g:=λe=>by
  rcases hnew _ e with e|e;·exact hgL.out e
  ·have:=H.out.b.lt;omega
 have f2:Fr (· =p.g) w1 (w1.setCell ⟨p.g,17,G⟩ (U A1 (m+k) c1)):=Bc _ _ _ _;have em:(s.l++news).length=m+k:=by rw[BJ,hm5.out,HK.out]
 have hX1:=own_fr H.out.x ((Ao (λq=>ab p.L=I q) w).grown hg1 (λq hq=> Ag (own_ab hq))) (λq hq e=>H.out.LX q e (own_ab hq));refine⟨rfl,⟨p.g,A1,c1,p.X,p.xc⟩,rfl,⟨?_, ?_, ?_,H.out.g0, ?_⟩,λq hq=>?_,f1.trans f2 (λq _ e=> .inl e)⟩;·rw[em];have hb1:=(b1.set_ 17 (U A1 (m+k) c1)).congr (emF17 _);exact hb1
 ·rw[em,hcs_app];exact own_fr o1 f2 (λq hq e=>hgA EH)
 ·exact own_fr hX1 f2 (λq hq e=>H.out.gX EH)
 ·rw[em];exact⟨O,by show s.fx.length≤B+k;have:=H.out.len.2;omega⟩
 ·rcases hq with e|e|e;·exact Ee
  ·rcases hnew q e with e|e;·exact EA
   ·exact CQ
  ·exact Ag (Ah (Ah e))
theorem add_one(i:HI)(W:Ac)(hW:W=w.alloc (.cells (hc i).toArray 269))(h:Em w base p s Q B)(hB:B≤90000):At Tryz.prog 143 #[↑p.g,U (I ⟨↑w,0,G⟩) 1 1] W (λe w'=>e=Ax (AD #[])∧Hid (EPost w base p ⟨s.l++[i],s.fx⟩ Q (B+1) (AD #[]) (Ax (AD #[])) w')):=by
 subst hW;have f0:=(Ao Aj w).alloc (.cells (hc i).toArray 269);have bk:Blk (w.alloc (.cells (hc i).toArray 269)) ↑w 269 (hc i).toArray:=AH _ _ _;have hr:Reads (w.alloc (.cells (hc i).toArray 269)) (↑w+1) 5 (I ⟨↑w,0,G⟩) 1 (hcs [i]):=by
  have:=Cn (size:=5) (n:=1) bk (by simp[hc]);simpa[hcs] using this
 have hb:=h.g0;have hlt:=h.b.lt;refine(add_any _ base p s Q B (h.fr0 f0) hB (I ⟨↑w,0,G⟩) 1 _ [i] hr AB A8).mono ?_;intro e w' hq;obtain⟨rfl,p',k1,k2⟩:=hq.elim;exact⟨rfl,T (EPost.of (Elk.from0 f0 k1) k2)⟩
end
end Em
end Go.Proofs.YtpmlgdopfafcgaaGreatDoor
