import Derived.Test.YtpmlgdopfafcgaaGreatDoorY4
open Go.Value renaming int→J,slice→U,bool→Ap,tuple→AD,ownBlock→Bp,agg→AA,pointer→Bi
open Option renaming some→I,none→G
open Go.IntKind renaming i64→Z,u32→V,u64→AM,u8→AC,wrap_u64→Dk,wrap_u32→DH
open Bool renaming false→Aa,true→Af,false_ne_true→Da,false_and→D7
open Go renaming World→Ac,Value→As,Calls→At,bodyPost_ret→Bf,TypeId→AK,wp_region_held_drew→BY,info_parts→BH,Ending→AT,madeCells→Cb,maxLen→Br,Program→BW,undef→Bt,wpList→BL,bits→Bb,run_underlying→CX
open List renaming getD_eq_getElem?_getD→AN,getElem?_eq_getElem→Bj,length_append→BJ,append_assoc→BM,mem_map→Bo,getElem?_take_of_lt→Cw,replicate→BK,range→Bm,getElem?_append_right→CB,getElem_mem→BU,mem_append→BZ,getElem?_append_left→CO,getElem?_map→C7,cons_append→CC,mem_filter→C8,length_pos_iff→CP,length_cons→CK,mem_cons→Cy,getLastD_eq_getLast?→Dg,nil_append→CI,getElem?_eq_none→De,dropLast_concat→Do,mem_singleton→Dv,map_append→Df,length_map→Di,getElem_of_mem→DD,length_nil→Dp,concat_eq_append→DI,getElem?_range→DL,range_succ→DB,getElem?_replicate→DW,singleton_append→DV,map_cons→D6,map_map→D8,setIfInBounds_toArray→Eb
open Go.Ending renaming returned→Ax
open And renaming intro→A9
open Nat renaming le_refl→AE,lt_of_lt_of_le→AW,le_trans→AS,zero_le→AU,zero_add→Bn,eq_zero_or_pos→Dm,reduceEqDiff→Dq
open Or renaming inl→Ag,inr→Ah
open Go.Proofs.Tryz renaming underlying41→AP,underlying31→CF,underlying22→CV,underlying215→Dl,underlying26→DN
open Go.RowKit renaming intOf→AJ
open Int renaming eq_ofNat_of_zero_le→CM,toNat_natCast→C4,emod_eq_of_lt→CZ
open Go.Builtin renaming zeroCells→CG,delete_→Eh
open Array renaming getElem?_toList→CN,getElem?_eq_some_iff→DX
open Go.Region renaming wanted→CA
open Go.Result renaming andThen→CT
open Option.some renaming inj→Ds
open Go.MapKept renaming run_getObj_map→DJ,run_setObj_map→Ef
open Go.Instr renaming makeSlice→Dj,mapUpdate→DK
open Go.IntWalk renaming i64_in→Du
open Go.Lit renaming int→C9
open Go.Sem renaming run_bind→D5
set_option linter.all false
set_option maxHeartbeats 40000000
set_option maxRecDepth 1000000
open Go Go.RowKit
namespace Go.Proofs.YtpmlgdopfafcgaaGreatDoor
namespace Rn
open Gs Sv Gm Gc
theorem len_ne{l:List Int}{k:Nat}(h:k+1≤l.length):l≠[]:=λe=>by rw[e] at h;simp at h
theorem UG(w:Ac)(p:Rp)(x:Rs)(P:AG)(a:Bs.Ab)(A:Mu.Au)(g:Mc)(h:Dn w p x P a A g)(hr:Ready x)(op n:Int)(n0:0≤n)(n1:n≤4294967295)(hu:Ux x.s op n)(hs:Suits x.s op)(h1:stackB op=Aa)(h2:reckB op=Aa)(ho:g.b.outs.length≤1000000):At Tryz.prog 122 #[↑p.g,AA #[J Z op,J V n]] w (DPost w p P a A (toRs (otherR x.s x.cnt ⟨op,n⟩ g) x.cnt) (otherR x.s x.cnt ⟨op,n⟩ g).g (AD #[])):=by
 have t1:=hs.td;have hop:=hu.uo;simp[usedB] at hop;simp[stackB] at h1;simp[reckB] at h2;have hc:
  op=49∨
  op=66∨
  op=67∨
  op=69∨
  False:=O
 rcases hc with
  rfl|
  rfl|
  rfl|
  rfl|
  h0
 ·exact oth_st n w p x P a A g h hr hu.pg t1 (hu.st rfl) ho
 ·exact oth_csrr n w p x P a A g h hr n0 n1
 ·exact oth_csrw n w p x P a A g h hr n0 n1 (hu.rw rfl) (len_ne (k:=0) t1)
 ·exact oth_halt n w p x P a A g h hr
 ·exact h0.elim
theorem UH{s:St}{op n:Int}(h:check s ⟨op,n⟩=0):Suits s op:=by
 obtain⟨_,h1,h2,h3,h4⟩:=Nz h;exact⟨h1,h2,h3,h4⟩
abbrev resc(s:St)(D R:As)(tr dv:Bool)(pg:As):AL:=#[J V s.pc,D,R,J V s.fl,Ap s.su,Ap s.pg,Ap s.ie,J V s.rt,J V s.ve,J V s.ep,J V s.ca,J V s.ad,Ap s.es,Ap s.ei,J AM s.ct,Ap s.ha,Ap tr,Ap dv,pg]
structure Stp(w w':Ac)(P:AG)(a:Bs.Ab)(A:Mu.Au)(s:St)(g:Mc)(X Y:Aw)(c d:Nat):Prop where
 st:StV w' 0 s (U X s.d.length c) (U Y s.r.length d)
 ne: ∀k,ab X=I k→ab Y≠I k
 f:Fr (λk=> ¬P k) w w'
 mc: ∃P',(∀k,P k→P' k)∧(∀k,P' k→P k∨w.heap.size≤k)∧(∀k,ab X=I k∨ab Y=I k→P' k)∧(∀k,ab X=I k∨ab Y=I k→P k∨w.heap.size≤k)∧Mch w' P' a A g
def ResPost(w:Ac)(P:AG)(a:Bs.Ab)(A:Mu.Au)(r:Rz)(e:AT)(w':Ac):Prop:=
 ∃X c Y d Bg n m,e=Ax (AA (resc r.s (U X r.s.d.length c) (U Y r.s.r.length d) r.tr r.dv (U Bg n m)))∧Stp w w' P a A r.s r.g X Y c d∧IntsAt Z w' ↑w' Bg n r.pg∧n≤m∧n≤64∧w'.ownsRow ↑w 3 1 (U Bg n m) n (r.pg.map (J Z))
theorem szR:(Tryz.prog.info? 201).map (·.size)=I 19:=AI
end Rn
namespace Rn
open Gs Sv Gm Gc
abbrev z19:AL:=#[J V 0,U G 0 0,U G 0 0,J V 0,Ap Aa,Ap Aa,Ap Aa,J V 0,J V 0,J V 0,J V 0,J V 0,Ap Aa,Ap Aa,J AM 0,Ap Aa,Ap Aa,Ap Aa,U G 0 0]
theorem tu_calm{m:Rm.Ms}(h:Mu.TuOk m):Mu.TuOk m.calm:=λk _ _=>rfl
theorem boxed3(w:Ac)(cs es ds:AL)(t t2 t3:AK):Blk (((w.alloc (.cells cs t)).alloc (.cells es t2)).alloc (.cells ds t3)) ↑w t cs∧Blk (((w.alloc (.cells cs t)).alloc (.cells es t2)).alloc (.cells ds t3)) (↑w+1) t2 es∧Blk (((w.alloc (.cells cs t)).alloc (.cells es t2)).alloc (.cells ds t3)) (↑w+2) t3 ds∧Fr Aj w (((w.alloc (.cells cs t)).alloc (.cells es t2)).alloc (.cells ds t3)):=by
 refine⟨((AH w t cs).alloc _).alloc _, ?_, ?_,(((Ao _ w).alloc _).alloc _).alloc _⟩;·have:=(AH (w.alloc (.cells cs t)) t2 es).alloc (.cells ds t3);exact Lv
 ·have:=AH ((w.alloc (.cells cs t)).alloc (.cells es t2)) t3 ds;rwa[show((w.alloc (.cells cs t)).alloc (.cells es t2)).heap.size=w.heap.size+2 by simp] at this
end Rn
namespace Gm
open Fm Nt Rm By Wk Gs
theorem size_pos{op:Int}(h:sizeI op≠0):1≤sizeI op∧sizeI op≤5:=by
 unfold sizeI at*;split;·omega
 split;·omega
 split;·omega
 ·rename_i h1 h2 h3
  rw[Ae h1,Ae h2,Ae h3] at h;exact absurd rfl h
def IsEnc(i:Ins)(b:List Int):Prop:=b≠[]∧ ∀x,decI (b++x)=I (i,b.length)
theorem dec_enc{b:List Int}{i:Ins}{n:Nat}(h:decI b=I (i,n)):n≤b.length∧IsEnc i (b.take n)∧(n:Int)=sizeI i.op∧1≤n∧n≤5:=by
 cases b with
 |nil=>simp[decI] at h
 |cons o l=>
  rw[decI] at h;by_cases h0:sizeI o=0;·rw[An h0] at h;cases h
  ·rw[Ae h0] at h;by_cases h1:(l.length:Int)+1<sizeI o;·rw[An h1] at h;cases h
   ·rw[Ae h1] at h;injection h with h;injection h with hi hn;have hp:=size_pos h0;obtain⟨n',rfl⟩: ∃n',n=n'+1:=⟨n -1,O⟩;have hn':(sizeI o).toNat=n'+1:=hn;have hs:sizeI o=((n'+1:Nat):Int):=O;rw[hn',show n'+1 -1=n' by omega] at hi;subst hi;refine⟨A8,⟨AB,λx=>?_⟩,hs.symm,O,O⟩;rw[List.take_succ_cons,CC,decI,Ae h0,hn',show n'+1 -1=n' by omega];have hle:n'≤l.length:=O;rw[Ae (by rw[BJ,List.length_take,Nat.min_eq_left hle,hs];omega),List.take_append_of_le_length A8,List.take_take,Nat.min_self];simp;omega
inductive Enc:List Ins→List Int→Prop
 |nil:Enc [] []
 |cons {i:Ins} {b:List Int} {l:List Ins} {bs:List Int}:IsEnc i b→Enc l bs→Enc (i::l) (b++bs)
theorem Enc.nonempty{l:List Ins}{bs:List Int}(h:Enc l bs)(hl:l≠[]):bs≠[]:=by
 cases h with
 |nil=>exact absurd rfl hl
 |cons h1 h2=>intro e;exact h1.1 (List.append_eq_nil_iff.1 e).1
theorem Ig(m:Ms)(p:Int):(pageL m p).length=64 -(p%64).toNat:=by simp[pageL]
theorem P6(m:Ms)(p:Int)(n:Nat)(h0:0≤p)(hn:(p%64).toNat+n<64):(pageL m p).drop n=pageL m (p+n):=by
 apply List.ext_getElem?;intro k;rw[List.getElem?_drop];unfold pageL;rw[C7,C7];by_cases hk:n+k<64 -(p%64).toNat;·rw[DL hk,DL O];simp only[Option.map_some,Option.some.injEq];congr 1;omega
 ·rw[De A8,De A8];rfl
theorem Vk(g:Mc):g.calm.calm=g.calm:=rfl
theorem Vl(m:Ms):turnN m.calm 64=[]:=by
 unfold turnN Ms.calm;simp
theorem do_plain(s:St)(i:Ins)(g:Mc)(hc:check s i=0)(hp:plainB i.op=Af):doR s i g=⟨plainS s i,Aa,Aa,[],g.calm⟩:=by
 have key:runR (s.next i) s.ct i g.calm=⟨plainS s i,0,0,Aa,g.calm⟩:=by
  unfold runR plainS;by_cases h1:stackB i.op=Af;·rw[An h1,An h1]
  ·rw[Ae h1,Ae h1];have h2:reckB i.op=Af:=by
    simp[plainB] at hp;simp[stackB] at h1;simp[reckB];omega
   rw[An h2]
 unfold doR;simp only[key];have:turnN g.calm.b.ms 64=[]:=Vl g.b.ms;rw[this]
theorem plain_ha(s:St)(i:Ins):(plainS s i).ha=s.ha:=by
 unfold plainS stackS reckS
 repeat' split
 all_goals rfl
theorem plain_pc(s:St)(i:Ins)(hp:plainB i.op=Af)(he:endsB i.op=Aa):(plainS s i).pc=(s.pc+sizeI i.op)%4294967296:=by
 simp[plainB] at hp;simp[endsB] at he;unfold plainS;by_cases h1:stackB i.op=Af;·rw[An h1];exact IL
 ·rw[Ae h1];simp[stackB] at h1;unfold reckS;rw[An O];rfl
def behind(c:St)(was:Int)(ends:Bool)(p:Int)(page:Int)(g:Mc)(k:Nat):Sg:=
 if ends|| !decide (c.pc/64=was/64) then⟨c,g⟩ else restR c p page g k
theorem rest_run(page:Int): ∀(l:List Ins) (bs:List Int) (s c:St) (p:Int) (g:Mc) (k:Nat),Enc l bs→l≠[]→(∀i∈l,plainB i.op=Af)→(∀i∈l.dropLast,endsB i.op=Aa)→
 plainAll s l=I c→bs<+:pageL g.b.ms p→0≤p→p<(g.b.ms.n:Int)*64→g.b.ms.n≤64→0≤s.pc→s.pc≤4294967295→s.pc%64=p%64→s.ha=Aa→l.length≤k→
 restR s p page g k=behind c s.pc (endsB (l.getLastD ⟨0,0⟩).op) (p+bs.length) page g.calm (k -l.length)∧c.ha=Aa
 |[],_,_,_,_,_,_,_,hl,_,_,_,_,_,_,_,_,_,_,_,_=>absurd rfl hl
 |i::l,_,s,c,p,g,k,.cons (b:=b) (bs:=bs) hb he,_,hpl,hnd,hall,hpre,p0,p1,hn,pc0,pc1,hpc,hha,hk=>by
  rw[plainAll] at hall;have hc:check s i=0:=by
   by_cases q:check s i=0;·exact q
   ·rw[Ae q] at hall;cases hall
  rw[An hc] at hall;obtain⟨k',rfl⟩: ∃k',k=k'+1:=⟨k -1,by simp at hk;omega⟩;obtain⟨x,hx⟩:=hpre;rw[BM] at hx;have hdec:=hb.2 (bs++x);rw[hx] at hdec;obtain⟨n1,n2,n3,n4,n5⟩:=dec_enc hdec;have hlen:=congrArg List.length hx;rw[Ig,BJ,BJ] at hlen;have hD:=do_plain s i g hc (hpl i AB);have hf:=P9;rw[restR,hf];simp only[hD];have hha2:(plainS s i).ha=Aa:=(plain_ha s i).trans hha
  cases l with
  |nil=>
   cases he
   have hcs:plainS s i=c:=by simpa[plainAll] using hall
   rw[hcs] at hha2⊢;refine⟨?_,hha2⟩;unfold behind;rw[List.append_nil];have hgl:([i].getLastD ⟨0,0⟩:Ins)=i:=rfl;rw[hgl];unfold nextB_;simp only[hha2,Bool.or_false,List.contains_nil];have hp2:=JU;by_cases q:endsB i.op=Af;·simp[q]
   ·have q:endsB i.op=Aa:=by simpa using q
    rw[q];by_cases q2:c.pc/64=s.pc/64;·simp[q2,hp2]
    ·simp[q2]
  |cons j l=>
   have hei:endsB i.op=Aa:=hnd i AB;have hpi:=plain_pc s i (hpl i AB) hei;have hbs:=he.nonempty AB;have hbl:0<bs.length:=CP.2 hbs;have hpn:=PA;have hsame:(plainS s i).pc/64=s.pc/64:=by rw[hpn];omega
   have hnx:nextB_ i ⟨plainS s i,Aa,Aa,[],g.calm⟩ page s.pc=Af:=by
    unfold nextB_;simp[hei,hha2,hsame]
   rw[hnx];simp only[if_true];have hp2:=JU;rw[hp2];have hpre2:bs<+:pageL g.calm.b.ms (p+(b.length:Nat)):=by
    have:pageL g.calm.b.ms (p+(b.length:Nat))=(pageL g.b.ms p).drop b.length:=(P6 g.b.ms p b.length p0 O).symm;rw[this,←hx,List.drop_left];exact⟨x,rfl⟩
   have ih:=rest_run page (j::l) bs (plainS s i) c (p+(b.length:Nat)) g.calm k' he AB (λa ha=>hpl a (by simp at ha⊢;right;exact ha)) (λa ha=>hnd a (by
    rw[List.dropLast_cons_of_ne_nil AB];exact List.mem_cons_of_mem _ ha)) hall hpre2 O (by
    show p+(b.length:Int)<(g.b.ms.n:Int)*64;omega) hn O O O hha2 (by simp at hk⊢;omega)
   obtain⟨ih1,ih2⟩:=ih;refine⟨?_,ih2⟩;rw[ih1];have e1:((i::j::l).getLastD ⟨0,0⟩:Ins)=(j::l).getLastD ⟨0,0⟩:=by simp[List.getLastD]
   rw[e1];have e2:k'+1 -(i::j::l).length=k' -(j::l).length:=AB;rw[e2];have e3:p+((b++bs).length:Int)=p+(b.length:Int)+bs.length:=by rw[BJ];push_cast;omega
   rw[e3];unfold behind;rw[hsame,Vk]
end Gm
namespace Gc
open Gs Sv Rm
theorem EN{P:BW}{fn:Func}{p q r:Tmp}{ty':AK}(h:fn.results=#[.cell q ty',.tmp p,.tmp r])(tmps:AL)(w:Ac)(g':Nat)(t':AK)(cs':AL)(d':TypeDesc)(v u:As)(hp:tmps.getD p Bt=v)(hr:tmps.getD r Bt=u)(hq:tmps.getD q Bt=↑g')(hg':Blk w g' t' cs')(hu':P.underlying ty'=I d')(hd':(match d' with|.struct _|.array _ _=>Af|_=>Aa)=Af)(hi':(P.info? ty').map (·.size)=I cs'.size):(results fn tmps).run P w=.ok (AD #[AA cs',v,u]) w:=by
 have hp':tmps[p]?.getD Bt=v:=Fy;have hr':tmps[r]?.getD Bt=u:=EK;have hq':=GB;simp[results,h,hp',hq',hr',asAddr,run_loadVar_row w g' t' ty' cs' (0,0) d' hg' hu' hd' hi',D5,CT]
theorem szI:(Tryz.prog.info? 26).map (·.size)=I 2:=AI
def NoDec(w:Ac)(e:AT)(w':Ac):Prop:= ∃er:Int,er≠0∧(er=10∨er=12)∧e=Ax (AD #[insV ⟨0,0⟩,J Z 0,J Z er])∧Fr Aj w w'
theorem dec_nil(w:Ac)(A:Aw)(c:Nat):At Tryz.prog 117 #[U A 0 c] w (NoDec w):=by
 go_in;go_wp2_with fail;refine Bf (EN rfl _ _ w.heap.size 26 #[J Z 0,J V 0] _ (J Z 0) (J Z 10) rfl rfl rfl (AH _ _ _) DN rfl szI) rfl ⟨10,O,Ag rfl,rfl,(Ao _ w).alloc _⟩
theorem dec_no(w:Ac)(A:Aw)(n c:Nat)(zs:List Int)(hz:IntsAt AC w w.heap.size A n zs)(h:decI zs=G)(hn:n≤Br):At Tryz.prog 117 #[U A n c] w (NoDec w):=by
 cases zs with
 |nil=>
  have:n=0:=Ku;subst this;exact dec_nil w A c
 |cons o l=>
  have hl:n=l.length+1:=Ku;obtain⟨b,off,hA,hb,hc⟩:=hz.at_ (i:=0) O;have hw:=wf_u8 (hz.2.1 0 O);simp only[List.getD_cons_zero,Nat.add_zero] at hc hw;have hcv:IntKind.i64.wrap o=o:=Du _ O;have hs:=T (λW=>size_any W o);have hh:sizeI o=0∨(sizeI o≠0∧(n:Int)<sizeI o):=by
   rw[decI] at h;by_cases q:sizeI o=0;·exact Ag q
   ·rw[Ae q] at h;by_cases q2:(l.length:Int)+1<sizeI o;·exact Ah ⟨q,O⟩
    ·rw[Ae q2] at h;cases h
  have hn1:1≤n:=O;subst hA;unfold Br at hn;obtain⟨hw0,hw1⟩:=hw;have hne:=Kv;have hcb:=T hb;have hc2:=Ri;have B1:=T (boxed2 w #[J Z 0,J V 0] #[J Z o,J V 0] 26 26);clear h hz hl;have HE:=T (A9 B1.out.1 B1.out.2.2);rcases hh with q|⟨q,q2⟩;·rw[q] at hs;clear q;go_in;go_wp2_with fail;refine(hs.out _).mono ?_;rintro e w' ⟨rfl,rfl⟩;go_wp2_with fail;refine Bf (EN rfl _ _ w.heap.size 26 #[J Z 0,J V 0] _ (J Z 0) (J Z 12) rfl rfl rfl HE.out.1 DN rfl szI) rfl ⟨12,O,Ah rfl,rfl,HE.out.2⟩
  ·have hz2:(sizeI o==0)=Aa:=by simp[q]
   generalize sizeI o=sz at*;have hlt:decide ((n:Int)<sz)=Af:=by simp[q2]
   clear q;go_in;go_wp2_with fail;refine(hs.out _).mono ?_;rintro e w' ⟨rfl,rfl⟩;go_wp2_with fail;refine Bf (EN rfl _ _ w.heap.size 26 #[J Z 0,J V 0] _ (J Z 0) (J Z 10) rfl rfl rfl HE.out.1 DN rfl szI) rfl ⟨10,O,Ag rfl,rfl,HE.out.2⟩
def dW(zs:List Int)(sz:Nat):Nat→Int
 |0=>0
 |r+1=>dW zs sz r*256+zs.getD (sz -1 -r) 0
theorem dW_bd(zs:List Int)(sz:Nat)(hb: ∀i,i<sz→0≤zs.getD i 0∧zs.getD i 0<256): ∀r,r<sz→0≤dW zs sz r∧dW zs sz r<256^r
 |0,_=>by simp[dW]
 |r+1,h=>by
  have h1:=dW_bd zs sz hb r O;have h2:=hb (sz -1 -r) O;have h3:(256:Int)^(r+1)=256^r*256:=Int.pow_succ _ _;show 0≤dW zs sz r*256+_∧dW zs sz r*256+_<_;omega
theorem dW_le(o:Int)(l:List Int)(sz:Nat)(h:sz=1∨sz=2∨sz=5)(hl:sz≤l.length+1):dW (o::l) sz (sz -1)=leV (l.take (sz -1)):=by
 rcases h with rfl|rfl|rfl;·rfl
 ·match l,hl with
  |a::r,_=>simp[dW,leV]
 ·match l,hl with
  |a::b::c::d::r,_=>
   simp[dW,leV];omega
def YesDec(w:Ac)(i:Ins)(k:Nat)(e:AT)(w':Ac):Prop:=e=Ax (AD #[insV i,J Z k,J Z 0])∧Fr Aj w w'
theorem dec_yes(w:Ac)(A:Aw)(n c:Nat)(zs:List Int)(hz:IntsAt AC w w.heap.size A n zs)(i:Ins)(k:Nat)(h:decI zs=I (i,k))(hn:n≤Br):At Tryz.prog 117 #[U A n c] w (YesDec w i k):=by
 cases zs with
 |nil=>simp[decI] at h
 |cons o l=>
  have hl:n=l.length+1:=Ku;have hh:sizeI o≠0∧sizeI o≤n∧i=⟨o,leV (l.take ((sizeI o).toNat -1))⟩∧k=(sizeI o).toNat:=by
   rw[decI] at h;by_cases q:sizeI o=0;·rw[An q] at h;cases h
   ·rw[Ae q] at h;by_cases q2:(l.length:Int)+1<sizeI o;·rw[An q2] at h;cases h
    ·rw[Ae q2] at h;injection h with h;injection h with h1 h2;exact⟨q,O,h1.symm,h2.symm⟩
  obtain⟨q0,q1,rfl,rfl⟩:=hh;have hsz:=size_cases o;obtain⟨sz,hsz2⟩: ∃sz:Nat,sizeI o=sz:=⟨(sizeI o).toNat,O⟩;rw[hsz2] at hsz q0 q1⊢;rw[show((sz:Int)).toNat=sz from rfl];have hs:=T (λW=>size_any W o);rw[hsz2] at hs;have hdl:=dW_le o l sz O O;rw[←hdl];clear hdl;have hbd:=dW_bd (o::l) sz (λi hi=>by have:=wf_u8 (hz.2.1 i (by omega));omega);obtain⟨b,off,hA,hb,hc⟩:=hz.at_ (i:=0) O;have hw:=wf_u8 (hz.2.1 0 O);simp only[List.getD_cons_zero,Nat.add_zero] at hc hw;have hcv:IntKind.i64.wrap o=o:=Du _ O;obtain⟨hw0,hw1⟩:=hw;have hall: ∀j,j<n→w.cell? ⟨b,off+j,G⟩=I (J AC ((o::l).getD j 0)):=by
   obtain⟨b',off',e,_,hc'⟩:=hz.2.2 O;rw[hA] at e;injection e with e;injection e with e1 e2;subst e1 e2;exact hc'
  have HALL:=T hall;have HBY:=T (λi (hi:i<n)=>wf_u8 (hz.2.1 i hi));have hn1:1≤n:=O;subst hA;unfold Br at hn;have hne:=Kv;have hz2:((sz:Int)==0)=Aa:=A8;have hlt:decide (n<sz)=Aa:=A8;have hlt2:decide ((n:Int)<(sz:Int))=Aa:=A8;have hc2:=Ri;have B1:=T (boxed2 w #[J Z 0,J V 0] #[J Z o,J V 0] 26 26);have HB:=T hb;have HD:=T hbd;have HSZ:=T hsz;generalize hxs:(o::l)=xs at*;have s0:(0:Int)≤(sz:Int) -1:=O;have s1:(sz:Int)≤5:=O;clear h hz hl q0 hall hc hbd hsz hxs hsz2;go_in;go_wp2_with fail;refine(hs.out _).mono ?_;rintro e w' ⟨rfl,rfl⟩;go_wp2_with fail;go_loopw [7] (λk wr=> ∃r:Nat,r+1≤sz∧k=J Z ((sz:Int) -1 -r)∧Blk wr (w.heap.size+1) 26 #[J Z o,J V (dW xs sz r)]∧Blk wr w.heap.size 26 #[J Z 0,J V 0]∧Fr Aj w wr) (λk _=>(AJ k).toNat)
  case atStart=>exact⟨0,O,AB,B1.out.2.1,B1.out.1,B1.out.2.2⟩
  case round=>
   obtain⟨r,hr,rfl,hb1,hb0,fr⟩:=hrel;by_cases hq:r+1<sz
   ·have e1:((sz:Int) -1 -r)=((sz -1 -r:Nat):Int):=O;rw[e1];have HE1:=T e1;clear e1;have hcell:=fr.cell (HALL.out (sz -1 -r) O) HB.out id;have hby:=HBY.out (sz -1 -r) O;have hd:=HD.out r O;have hd2:dW xs sz r<16777216:=by
     have:r=0∨r=1∨r=2∨r=3:=O;rcases this with rfl|rfl|rfl|rfl<;>simp at hd<;>omega
    have HS:Hid (dW xs sz (r+1)=dW xs sz r*256+xs.getD (sz -1 -r) 0):=T rfl;have hd0:=hd.1;generalize xs.getD (sz -1 -r) 0=by_ at*;generalize dW xs sz r=v at*;have Ho:=or8 (v*256) by_ O O O hby.1 O;have k0:=hb1.cell 0;have k1:=hb1.cell 1;have z1:=hb1.frozen 1;have HB1:=T hb1;have HB0:=T hb0;have HF:=T fr;have hy0:=hby.1;have hy1:=hby.2;have hsr:0<sz -1 -r:=O;have hsr1:sz -1 -r<n:=O;have hsr2:sz -1 -r≤4:=O;have HR:=T (show sz -1 -r -1=sz -1 -(r+1) by omega);have HR2:=T (show(sz:Int) -1 -(r+1:Nat)=((sz -1 -r:Nat):Int) -1 by omega);clear hb1 hb0 fr hby hd;generalize sz -1 -r=kk at*;go_upto_region 12 with(fail);go_still_tail 10,AI
    go_wp2
    go_roundw
    case rel=>exact⟨r+1,O,by rw[HR2.out],by rw[HS.out];exact HB1.out.drew.set_ 1 _,(HB0.out.drew.far (p:=⟨w.heap.size+1,1,G⟩) AB _),HF.out.drew.setCell (p:=⟨w.heap.size+1,1,G⟩) (Ah (Nat.le_succ _)) _⟩
    case measure=>simp[AJ];omega
   ·have e:r=sz -1:=O;have e2:((sz:Int) -1 -r)=0:=O;rw[e2];rw[e] at hb1;have k0:=hb1.cell 0;have k1:=hb1.cell 1;have z0:=hb0.frozen 0;have z1:=hb0.frozen 1;have y0:=hb0.cell 0;have y1:=hb0.cell 1;have HB0:=T hb0;have HF:=T fr;clear hb1 hb0 fr e e2;generalize dW xs sz (sz -1)=v at*;go_wp2_with fail;refine Bf (EN rfl _ _ w.heap.size 26 #[J Z o,J V v] _ (J Z sz) (J Z 0) rfl rfl rfl ((HB0.out.set_ 0 (J Z o)).set_ 1 (J V v)) DN rfl szI) rfl ⟨rfl,(HF.out.setCell (p:=⟨w.heap.size,0,G⟩) (Ah (AE _)) _).setCell (p:=⟨w.heap.size,1,G⟩) (Ah (AE _)) _⟩
end Gc
namespace Gm
open Fm Nt Rm By Wk Gs
theorem Rk.pop1{s:St}(h:Rk s):Rk (Gm.pop1 s):=h.stacks (Bl.drop h.1.d) h.1.r (by have:=h.2.1;simp;omega) h.2.2.1
theorem Rk.pop2{s:St}(h:Rk s):Rk (Gm.pop2 s):=h.stacks (Bl.drop (Bl.drop h.1.d)) h.1.r (by have:=h.2.1;simp;omega) h.2.2.1
theorem place_ca{u:Mu.Us}{sp:Mu.Sp}{va k:Int}(v0:0≤va)(v1:va≤4294967295):(0≤(Mu.placeR u sp va k).c∧(Mu.placeR u sp va k).c≤100)∧Bd (Mu.placeR u sp va k).a:=by
 unfold Mu.placeR;split;·exact⟨⟨EZ,by show(0:Int)≤100;omega⟩,bd0⟩
 ·exact⟨⟨by show(0:Int)≤10;omega,by show(10:Int)≤100;omega⟩,v0,v1⟩
section
variable {s:St} {g:Mc}
theorem other_rk(hk:Rk s)(hO:g.b.Ok)(hU:g.u.Ok)(cnt:Int)(hc:0≤cnt∧cnt≤18446744073709551615)(i:Ins)(hd:Gs.takeD i.op≤s.d.length)(hp:s.d.length -Gs.takeD i.op+Gs.putD i.op≤16):Rk (otherR s cnt i g).s:=by
 obtain⟨op,n⟩:=i;have ht:=Bl.top (l:=s.d) hk.1.d;unfold otherR;simp only[] at hd hp⊢;by_cases c:op=49;·rw[An c];exact hk.pop2
 rw[Ae c];clear c;by_cases c:op=66
 ·rw[An c];have hk2:Rk {s with ct:=cnt}:=by
   obtain⟨o,h1,h2,h3⟩:=hk;exact⟨⟨o.pc,o.fl,o.rt,o.ve,o.ep,o.ca,o.ad,hc,o.d,o.r⟩,h1,h2,h3⟩
  have e1:Gs.takeD 66=0:=Ak;have e2:Gs.putD 66=1:=Ak;rw[c,e1,e2] at hp;exact hk.stacks (Bl.app hk.1.d (Bl.nil.cons (getV_bd hk2 n))) hk.1.r A8 hk.2.2.1
 rw[Ae c];clear c;by_cases c:op=67;·rw[An c];exact hk.pop1.setS _ _ ht
 rw[Ae c];clear c;obtain⟨o,h1,h2,h3⟩:=hk;exact FJ
theorem run_rk(hk:Rk s)(hO:g.b.Ok)(hU:g.u.Ok)(cnt:Int)(hc:0≤cnt∧cnt≤18446744073709551615)(i:Ins)(hn:Bd i.n)(t1:Gs.takeD i.op≤s.d.length)(t2:Gs.takeR i.op≤s.r.length)(t3:s.d.length -Gs.takeD i.op+Gs.putD i.op≤16)(t4:s.r.length -Gs.takeR i.op+Gs.putR i.op≤16):Rk (runR s cnt i g).s:=by
 unfold runR;split;·exact hk.stackS hn t1 t2 t3 t4
 split;·exact hk.reckS t1 t2 t3 t4
 ·exact other_rk hk hO hU cnt hc i t1 t3
theorem do_rk(hk:Rk s)(hO:g.b.Ok)(hU:g.u.Ok)(i:Ins)(hn:Bd i.n)(hc:check s i=0):Rk (doR s i g).s:=by
 obtain⟨_,h1,h2,h3,h4⟩:=Nz hc;have hO2:g.calm.b.Ok:=⟨hO.p,hO.m,hO.tm,hO.len,hO.ins,hO.outs,hO.sec,hO.pl,hO.st,λk _ _=>rfl⟩;have hU2:g.calm.u.Ok:=⟨hU.n0,hU.bd⟩;exact run_rk (hk.next i) hO2 hU2 s.ct hk.1.ct i hn h1 h2 h3 h4
end
theorem run_ca(s:St)(cnt:Int)(i:Ins)(g:Mc):(runR s cnt i g).c=0∧(runR s cnt i g).a=0:=by
 unfold runR otherR
 repeat' split
 all_goals exact⟨rfl,rfl⟩
end Gm
namespace Gm
open Fm Nt Rm By Wk Gs
theorem VK(b:Bs.Sb)(at_ v:Int):(b.store at_ v).outs.length≤b.outs.length+1:=by
 unfold Bs.Sb.store Bs.Sb.storeO
 repeat' split
 all_goals first
  |exact Nat.le_succ _
  |(simp;done)
  |omega
theorem run_outs(s:St)(cnt:Int)(i:Ins)(g:Mc):(runR s cnt i g).g.b.outs.length≤g.b.outs.length+1:=by
 unfold runR otherR
 repeat' split
 all_goals first
  |exact Nat.le_succ _
  |exact VK _ _ _
theorem do_outs(s:St)(i:Ins)(g:Mc):(doR s i g).g.b.outs.length≤g.b.outs.length+1:=run_outs (s.next i) s.ct i g.calm
end Gm
namespace Gm
open Fm Nt Rm By Wk Gs
theorem VL(s:St)(i:Ins):(stackS s i).ct=s.ct:=IL
theorem reckS_ct(s:St)(i:Ins):(reckS s i).ct=s.ct:=by
 unfold reckS
 repeat' split
 all_goals rfl
theorem setS_ct(s:St)(r v:Int):(setS s r v).ct=s.ct:=by
 unfold setS
 repeat' split
 all_goals rfl
theorem VM(s:St)(cnt:Int)(i:Ins)(g:Mc):(otherR s cnt i g).s.ct=s.ct:=by
 unfold otherR
 repeat' split
 all_goals first
  |rfl
  |exact setS_ct _ _ _
theorem runR_ct(s:St)(cnt:Int)(i:Ins)(g:Mc):(runR s cnt i g).s.ct=s.ct:=by
 unfold runR;split;·exact VL s i
 split;·exact reckS_ct s i
 ·exact VM s cnt i g
theorem doR_ct(s:St)(i:Ins)(g:Mc):(doR s i g).s.ct=(s.ct+1)%18446744073709551616:=by
 show(runR (s.next i) s.ct i g.calm).s.ct=_;rw[runR_ct];rfl
theorem restR_ct: ∀(k:Nat) (s:St) (p page:Int) (g:Mc),0≤s.ct→s.ct+k<18446744073709551616→ ∃j:Nat,(0<k→1≤j)∧j≤k∧(restR s p page g k).s.ct=s.ct+j
 |0,s,p,page,g,_,_=>⟨0,λh=>absurd h O,AE _,by simp[restR]⟩
 |k+1,s,p,page,g,h0,h1=>by
  rw[restR]
  cases hf:fetchR g.b.ms p with
  |none=>
   refine⟨1,λ_=>AE _,O, ?_⟩;show(s.ct+1)%18446744073709551616=_;omega
  |some x=>
   obtain⟨i,n⟩:=x;have hd:=doR_ct s i g;have e:(doR s i g).s.ct=s.ct+1:=by rw[hd];omega
   dsimp only;split;·obtain⟨j,_,j1,j2⟩:=restR_ct k (doR s i g).s ((p+(n:Int))%4294967296) page (doR s i g).g O O;exact⟨j+1,λ_=>O,O,by rw[j2,e];push_cast;omega⟩
   ·exact⟨1,λ_=>AE _,O,EE⟩
theorem irqS_ct(s:St)(g:Mc):(irqS s g).ct=s.ct:=by
 unfold irqS;split<;>rfl
theorem VN(s:St)(g:Mc)(hr:s.right=Af)(ha:s.ha=Aa):((beginR s g).on=Af∧(beginR s g).s.ct=s.ct)∨((beginR s g).on=Aa∧(beginR s g).s.ct=(s.ct+1)%18446744073709551616):=by
 unfold beginR;rw[Ae (by simp[hr,ha])];dsimp only;split;·right;refine⟨rfl, ?_⟩;show((irqS s _).ct+1)%18446744073709551616=_;rw[irqS_ct]
 ·left;exact⟨rfl,irqS_ct s _⟩
theorem Sf(s:St)(g:Mc)(hr:s.right=Af)(ha:s.ha=Aa)(h0:0≤s.ct)(h1:s.ct+8<18446744073709551616): ∃j:Nat,1≤j∧j≤8∧(blockR s g).s.ct=s.ct+j:=by
 unfold blockR;rcases VN s g hr ha with⟨e1,e2⟩|⟨e1,e2⟩;·rw[An e1];obtain⟨j,j0,j1,j2⟩:=restR_ct 8 (beginR s g).s (beginR s g).p ((beginR s g).p/64) (beginR s g).g O O;exact⟨j,j0 O,j1,by rw[j2,e2]⟩
 ·rw[Ae (by rw[e1];decide)];exact⟨1,O,O,by show(beginR s g).s.ct=_;rw[e2];omega⟩
def blkN:Nat→St→Mc→Sg
 |0,s,g=>⟨s,g⟩
 |k+1,s,g=>blockR (blkN k s g).s (blkN k s g).g
def goB(f n:Int)(s:St):Bool:=decide (0<n)&& !s.ha&&decide ((s.ct -f)%18446744073709551616<n)
structure RunTo(n:Int)(s:St)(g:Mc)(j:Nat):Prop where
 go: ∀i,i<j→goB s.ct n (blkN i s g).s=Af
 stop:goB s.ct n (blkN j s g).s=Aa
 rk: ∀i,i≤j→Rk (blkN i s g).s
variable{n:Int}{s:St}
theorem goB_ha{f:Int}(h:goB f n s=Af):0<n∧s.ha=Aa∧(s.ct -f)%18446744073709551616<n:=by
 simpa[goB,and_assoc] using h
theorem blkN_ct{g:Mc}{j:Nat}(h: ∀i,i<j→goB s.ct n (blkN i s g).s=Af)(hk: ∀i,i≤j→Rk (blkN i s g).s)(h0:s.ct≤1000000000)(hn:n≤1000000): ∀i,i≤j→(i:Int)≤(blkN i s g).s.ct -s.ct∧(blkN i s g).s.ct -s.ct≤8*i∧(0<i→(blkN i s g).s.ct -s.ct<n+8)
 |0,_=>⟨by show(0:Int)≤s.ct -s.ct;omega,by show s.ct -s.ct≤8*0;omega,λe=>absurd e O⟩
 |i+1,hi=>by
  have hs:=(hk 0 O).1.ct.1;have hs:0≤s.ct:=hs;obtain⟨a1,a2,a3⟩:=blkN_ct h hk h0 hn i O;have hg:=goB_ha (h i O);have hb:(blkN i s g).s.ct -s.ct<2000000:=by
   by_cases e:i=0;·subst e;omega
   ·have:=a3 O;omega
  obtain⟨k,k1,k2,k3⟩:=Sf (blkN i s g).s (blkN i s g).g (hk i O).right hg.2.1 O O;have e:(blkN (i+1) s g).s.ct=(blkN i s g).s.ct+k:=k3;have h3:=hg.2.2;rw[CZ O O] at h3;refine⟨by rw[e];push_cast;omega,by rw[e];push_cast;omega,λ_=>ET⟩
theorem RunTo.ends{g:Mc}{j:Nat}(h:RunTo n s g j)(h0:s.ct≤1000000000)(hn:n≤1000000):0≤(blkN j s g).s.ct -s.ct∧(n<1→(blkN j s g).s.ct=s.ct)∧(s.ha=Af→(blkN j s g).s.ct=s.ct)∧(0<n→(blkN j s g).s.ct -s.ct<n+8)∧(0<n→(blkN j s g).s.ha=Aa→n≤(blkN j s g).s.ct -s.ct)∧(0<n→s.ha=Aa→1≤j):=by
 have hc:=blkN_ct h.go h.rk h0 hn j (AE _);have hs:0≤s.ct:=(h.rk 0 O).1.ct.1;have hj0:n<1∨s.ha=Af→j=0:=λe=>by
  rcases Dm j with q|q;·exact q
  ·have:=goB_ha (h.go 0 q);rcases e with e|e;·omega
   ·have h2:=this.2.1;have h2:s.ha=Aa:=h2;rw[e] at h2;cases h2
 refine⟨O,λe=>?_,λe=>?_,λe=>?_,λe1 e2=>?_,λe1 e2=>?_⟩;·rw[hj0 (Ag e)];rfl
 ·rw[hj0 (Ah e)];rfl
 ·by_cases q:j=0;·rw[q];show s.ct -s.ct<n+8;omega
  ·exact hc.2.2 O
 ·have hst:=h.stop;unfold goB at hst;rw[e2] at hst;have hb:(blkN j s g).s.ct -s.ct<2000000:=by
   by_cases q:j=0;·rw[q];show s.ct -s.ct<2000000;omega
   ·have:=hc.2.2 O;omega
  rw[CZ O O] at hst;simp[e1] at hst;omega
 ·rcases Dm j with q|q;·exfalso;have hst:=h.stop;rw[q] at hst;have hst:goB s.ct n s=Aa:=hst;unfold goB at hst;rw[e2,Int.sub_self] at hst;simp[e1] at hst
  ·exact q
end Gm
namespace Gm
open Fm Nt Rm By Wk Gs
structure Us(s:St)(i:Ins):Prop where
 op:usedB i.op=Af
 pg:s.pg=Aa
 st:i.op=49→devOk (top1 s.d)=Af
 rw:i.op=67→i.n≠1∧i.n≠2
 ch:check s i=0
theorem Us.ux{s:St}{i:Ins}(h:Us s i):Ux s i.op i.n:=⟨h.op,h.pg,h.st,h.rw⟩
def okR(s:St)(p page:Int)(g:Mc):Nat→Prop
 |0=>True
 |k+1=> ∃i n,fetchR g.b.ms p=I (i,n)∧Us s i∧(nextB_ i (doR s i g) page s.pc=Af→okR (doR s i g).s ((p+(n:Int))%4294967296) page (doR s i g).g k)
def okB(s:St)(g:Mc):Prop:=s.pg=Aa∧((beginR s g).on=Af→okR (beginR s g).s (beginR s g).p ((beginR s g).p/64) (beginR s g).g 8)
theorem ok_run(page:Int): ∀(l:List Ins) (bs:List Int) (s:St) (p:Int) (g:Mc) (k:Nat),Enc l bs→(∀i∈l,plainB i.op=Af)→(∀i∈l.dropLast,endsB i.op=Aa)→
 bs<+:pageL g.b.ms p→0≤p→p<(g.b.ms.n:Int)*64→g.b.ms.n≤64→0≤s.pc→s.pc≤4294967295→s.pc%64=p%64→s.ha=Aa→l.length≤k→okR s p page g k→
 (∀i∈l,usedB i.op=Af)∧(l≠[]→ ∀c,plainAll s l=I c→(endsB (l.getLastD ⟨0,0⟩).op|| !decide (c.pc/64=s.pc/64))=Aa→okR c (p+bs.length) page g.calm (k -l.length))
 |[],_,_,_,_,_,_,_,_,_,_,_,_,_,_,_,_,_,_=>⟨λ_ h=>(by cases h),λh=>absurd rfl h⟩
 |i::l,_,s,p,g,k,.cons (b:=b) (bs:=bs) hb he,hpl,hnd,hpre,p0,p1,hn,pc0,pc1,hpc,hha,hk,hok=>by
  obtain⟨k',rfl⟩: ∃k',k=k'+1:=⟨k -1,by simp at hk;omega⟩;obtain⟨x,hx⟩:=hpre;rw[BM] at hx;have hdec:=hb.2 (bs++x);rw[hx] at hdec;obtain⟨n1,n2,n3,n4,n5⟩:=dec_enc hdec;have hlen:=congrArg List.length hx;rw[Ig,BJ,BJ] at hlen;have hf:=P9;obtain⟨i',n',hf',hU,hnx'⟩:=hok;rw[hf] at hf';injection hf' with e0;injection e0 with e1 e2;subst e1 e2;have hc:=hU.ch;have hD:=do_plain s i g hc (hpl i AB);rw[hD] at hnx';have hha2:(plainS s i).ha=Aa:=(plain_ha s i).trans hha;have hp2:=JU;rw[hp2] at hnx'
  cases l with
  |nil=>
   cases he
   refine⟨λj hj=>by simp at hj;rw[hj];exact hU.op,λ_ c hall hnot=>?_⟩;have hcs:plainS s i=c:=by simpa[plainAll,hc] using hall
   subst hcs;have hgl:([i].getLastD ⟨0,0⟩:Ins)=i:=rfl;rw[hgl] at hnot;simp only[Bool.or_eq_false_iff,Bool.not_eq_false',decide_eq_true_eq] at hnot;have:=hnx' (by unfold nextB_;simp[hnot.1,hha2,hnot.2]);simpa using this
  |cons j l=>
   have hei:endsB i.op=Aa:=hnd i AB;have hpi:=plain_pc s i (hpl i AB) hei;have hbs:=he.nonempty AB;have hbl:0<bs.length:=CP.2 hbs;have hpn:=PA;have hsame:(plainS s i).pc/64=s.pc/64:=by rw[hpn];omega
   have hok2:=hnx' (by unfold nextB_;simp[hei,hha2,hsame]);have hpre2:bs<+:pageL g.calm.b.ms (p+(b.length:Nat)):=by
    have h1:=P6 g.b.ms p b.length p0 O;rw[←hx,List.drop_left] at h1;exact⟨x,h1⟩
   have ih:=ok_run page (j::l) bs (plainS s i) (p+b.length) g.calm k' he (λq hq=>hpl q (List.mem_cons_of_mem _ hq)) (λq hq=>hnd q (by rw[List.dropLast_cons_of_ne_nil (by simp)];exact List.mem_cons_of_mem _ hq)) hpre2 O (by show p+(b.length:Int)<(g.b.ms.n:Int)*64;omega) hn O O O hha2 (by simp at hk⊢;omega) hok2;refine⟨λq hq=>?_,λ_ c hall hnot=>?_⟩
   ·rcases Cy.1 hq with rfl|hq;·exact hU.op
    ·exact ih.1 q hq
   ·have hall2:plainAll (plainS s i) (j::l)=I c:=by rw[plainAll,An hc] at hall;exact hall
    have:=ih.2 AB c hall2 (by rw[hsame];exact hnot);rw[BJ,CK,show k'+1 -((j::l).length+1)=k' -(j::l).length by simp];rw[show p+((b.length+bs.length:Nat):Int)=p+b.length+bs.length by omega];exact this
end Gm
end Go.Proofs.YtpmlgdopfafcgaaGreatDoor
