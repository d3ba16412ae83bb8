import Derived.Test.YtpmlgdopfafcgaaGreatDoorY11
open Go.Value renaming int→J,slice→U,bool→Ap,tuple→AD,ownBlock→Bp,agg→AA,pointer→Bi
open Option renaming some→I,none→G
open Go.IntKind renaming i64→Z,u32→V,u64→AM,u8→AC,wrap_u64→Dk,wrap_u32→DH
open Bool renaming false→Aa,true→Af,false_ne_true→Da,false_and→D7
open Go renaming World→Ac,Value→As,Calls→At,bodyPost_ret→Bf,TypeId→AK,wp_region_held_drew→BY,info_parts→BH,Ending→AT,madeCells→Cb,maxLen→Br,Program→BW,undef→Bt,wpList→BL,bits→Bb,run_underlying→CX
open List renaming getD_eq_getElem?_getD→AN,getElem?_eq_getElem→Bj,length_append→BJ,append_assoc→BM,mem_map→Bo,getElem?_take_of_lt→Cw,replicate→BK,range→Bm,getElem?_append_right→CB,getElem_mem→BU,mem_append→BZ,getElem?_append_left→CO,getElem?_map→C7,cons_append→CC,mem_filter→C8,length_pos_iff→CP,length_cons→CK,mem_cons→Cy,getLastD_eq_getLast?→Dg,nil_append→CI,getElem?_eq_none→De,dropLast_concat→Do,mem_singleton→Dv,map_append→Df,length_map→Di,getElem_of_mem→DD,length_nil→Dp,concat_eq_append→DI,getElem?_range→DL,range_succ→DB,getElem?_replicate→DW,singleton_append→DV,map_cons→D6,map_map→D8,setIfInBounds_toArray→Eb
open Go.Ending renaming returned→Ax
open And renaming intro→A9
open Nat renaming le_refl→AE,lt_of_lt_of_le→AW,le_trans→AS,zero_le→AU,zero_add→Bn,eq_zero_or_pos→Dm,reduceEqDiff→Dq
open Or renaming inl→Ag,inr→Ah
open Go.Proofs.Tryz renaming underlying41→AP,underlying31→CF,underlying22→CV,underlying215→Dl,underlying26→DN
open Go.RowKit renaming intOf→AJ
open Int renaming eq_ofNat_of_zero_le→CM,toNat_natCast→C4,emod_eq_of_lt→CZ
open Go.Builtin renaming zeroCells→CG,delete_→Eh
open Array renaming getElem?_toList→CN,getElem?_eq_some_iff→DX
open Go.Region renaming wanted→CA
open Go.Result renaming andThen→CT
open Option.some renaming inj→Ds
open Go.MapKept renaming run_getObj_map→DJ,run_setObj_map→Ef
open Go.Instr renaming makeSlice→Dj,mapUpdate→DK
open Go.IntWalk renaming i64_in→Du
open Go.Lit renaming int→C9
open Go.Sem renaming run_bind→D5
set_option linter.all false
set_option maxHeartbeats 40000000
set_option maxRecDepth 1000000
open Go Go.RowKit
namespace Go.Proofs.YtpmlgdopfafcgaaGreatDoor
namespace Gm
open Fm Nt Rm By Wk Gs Tr
theorem run_pc: ∀(l:List Ins) (bs:List Int) (s c:St),Enc l bs→(∀i∈l,plainB i.op=Af)→(∀i∈l,endsB i.op=Aa)→plainAll s l=I c→0≤s.pc→s.pc≤4294967295→c.pc=(s.pc+bs.length)%4294967296
 |[],_,s,c,.nil,_,_,h,p0,p1=>by
  have h:=IK;subst h;simp;omega
 |i::l,_,s,c,.cons (b:=b) (bs:=bs) hb he,hp,hn,h,p0,p1=>by
  rw[plainAll] at h;have hc:check s i=0:=by
   by_cases q:check s i=0;·exact q
   ·rw[Ae q] at h;cases h
  rw[An hc] at h;have hdec:=hb.2 [];obtain⟨n1,n2,n3,n4,n5⟩:=dec_enc hdec;have hpi:=plain_pc s i (hp i AB) (hn i AB);have ih:=run_pc l bs (plainS s i) c he (λj hj=>hp j Dh) (λj hj=>hn j Dh) h (by rw[hpi];omega) (by rw[hpi];omega);rw[ih,hpi,BJ];omega
theorem last_mem{l:List Ins}(hl:l≠[]): ∀i∈l,i∈l.dropLast∨i=l.getLastD ⟨0,0⟩:=by
 intro i hi;obtain⟨m,j,rfl⟩: ∃m j,l=m++[j]:=by
  rcases l.eq_nil_or_concat with e|⟨m,j,e⟩;·exact absurd e hl
  ·exact⟨m,j,by rw[e,DI]⟩
 rcases BZ.1 hi with q|q;·exact Ag (by simpa using q)
 ·exact Ah (by simpa using q)
theorem do_law{l:List Ins}{bs:List Int}(h:Plr l bs){s c:St}{p:Int}{g:Mc}(hc:plainAll s l=I c)(hpre:bs<+:pageL g.b.ms p)(p0:0≤p)(p1:p<(g.b.ms.n:Int)*64)(hn:g.b.ms.n≤64)(pc0:0≤s.pc)(pc1:s.pc≤4294967295)(hpc:s.pc%64=p%64)(ha:s.ha=Aa):restR s p (p/64) g 8=(if endsB (l.getLastD ⟨0,0⟩).op|| !decide (c.pc/64=s.pc/64) then⟨c,g.calm⟩ else restR c (p+bs.length) ((p+bs.length)/64) g.calm (8 -l.length))∧c.ha=Aa:=by
 obtain⟨h1,h2⟩:=h.behind hc hpre p0 p1 hn pc0 pc1 hpc ha (p/64);refine⟨?_,h2⟩;rw[h1];unfold behind;by_cases hq:(endsB (l.getLastD ⟨0,0⟩).op|| !decide (c.pc/64=s.pc/64))=Af;·rw[An hq,An hq]
 ·rw[Ae hq,Ae hq];have hq:(endsB (l.getLastD ⟨0,0⟩).op|| !decide (c.pc/64=s.pc/64))=Aa:=Fc;rw[Bool.or_eq_false_iff] at hq;obtain⟨e1,e2⟩:=hq;have e2:c.pc/64=s.pc/64:=Il;have hends: ∀i∈l,endsB i.op=Aa:=λi hi=>Sh;have hcp:=run_pc l bs s c h.enc (λi hi=>(h.all i hi).2.1) hends hc pc0 pc1;have hlen:=Si;have hpos:=Sj;have:(p+(bs.length:Int))/64=p/64:=O;rw[this]
end Gm
namespace Gm
open Fm Nt Rm By Wk Gs Tr
theorem do_lawO{l:List Ins}{bs:List Int}(h:Plr l bs){s c:St}{p:Int}{g:Mc}(hc:plainAll s l=I c)(hpre:bs<+:pageL g.b.ms p)(p0:0≤p)(p1:p<(g.b.ms.n:Int)*64)(hn:g.b.ms.n≤64)(pc0:0≤s.pc)(pc1:s.pc≤4294967295)(hpc:s.pc%64=p%64)(ha:s.ha=Aa)(hok:okR s p (p/64) g 8)(hq:(endsB (l.getLastD ⟨0,0⟩).op|| !decide (c.pc/64=s.pc/64))=Aa):okR c (p+bs.length) ((p+bs.length)/64) g.calm (8 -l.length):=by
 have key:=(ok_run (p/64) l bs s p g 8 h.enc (λi hi=>(h.all i hi).2.1) h.ends hpre p0 p1 hn pc0 pc1 hpc ha h.h8 hok).2 h.ne c hc hq;rw[Bool.or_eq_false_iff] at hq;obtain⟨e1,e2⟩:=hq;have e2:c.pc/64=s.pc/64:=Il;have hends: ∀i∈l,endsB i.op=Aa:=λi hi=>Sh;have hcp:=run_pc l bs s c h.enc (λi hi=>(h.all i hi).2.1) hends hc pc0 pc1;have hlen:=Si;have hpos:=Sj;have:(p+(bs.length:Int))/64=p/64:=O;rw[this];exact key
end Gm
end Go.Proofs.YtpmlgdopfafcgaaGreatDoor
