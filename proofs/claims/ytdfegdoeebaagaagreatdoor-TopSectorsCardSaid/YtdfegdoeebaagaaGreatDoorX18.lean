import Derived.Test.YtdfegdoeebaagaaGreatDoorX12
open Go.Value renaming slice→Z,int→J,tuple→AF,agg→A9
open Option renaming some→I,none→G
open Go.IntKind renaming i64→U,u32→V,u8→AB
open Go renaming World→Aa,Value→As,Calls→At,bodyPost_ret→Bt,TypeId→AN,Ending→AY,maxLen→BQ,Program→CF,undef→BY
open Bool renaming false→Ac,true→Ag
open List renaming length_append→Cq,append_assoc→C9,length_cons→D8,getElem?_map→DP,getElem?_eq_none→Ew,length_pos_iff→Ef,cons_append→DI,mem_cons→Dv,length_take→Iv,getElem?_range→IL
open Go.Ending renaming returned→Ax
open And renaming intro→Ay
open Nat renaming le_refl→AD,eq_zero_or_pos→Gq
open Or renaming inl→Af,inr→Ah
open Go.Proofs.Tryz renaming underlying27→I3
open Go.RowKit renaming intOf→AM
open Go.Result renaming andThen→ES
open Go.IntWalk renaming i64_in→GF
open Go.Sem renaming run_bind→GT
set_option linter.all false
set_option maxHeartbeats 40000000
set_option maxRecDepth 1000000
open Go Go.RowKit
namespace Go.Proofs.YtdfegdoeebaagaaGreatDoor
namespace Gm
open Fm Nt Rm By Wk Gs
theorem size_pos{op:Int}(h:AK op≠0):1≤AK op∧AK op≤5:=by
 unfold AK at*;split;·omega
 split;·omega
 split;·omega
 ·rename_i h1 h2 h3
  rw[Ae h1,Ae h2,Ae h3] at h;exact absurd rfl h
def IsEnc(i:Ins)(b:List Int):Prop:=b≠[]∧ ∀x,Dl (b++x)=I (i,b.length)
theorem KR{b:List Int}{i:Ins}{n:Nat}(h:Dl b=I (i,n)):n≤b.length∧IsEnc i (b.take n)∧(n:Int)=AK i.op∧1≤n∧n≤5:=by
 cases b with
 |nil=>simp[Dl] at h
 |cons o l=>
  rw[Dl] at h;by_cases h0:AK o=0;·rw[An h0] at h;cases h
  ·rw[Ae h0] at h;by_cases h1:(l.length:Int)+1<AK o;·rw[An h1] at h;cases h
   ·rw[Ae h1] at h;injection h with h;injection h with hi hn;have hp:=size_pos h0;obtain⟨n',rfl⟩: ∃n',n=n'+1:=⟨n -1,O⟩;have hn':(AK o).toNat=n'+1:=hn;have hs:AK o=((n'+1:Nat):Int):=O;rw[hn',show n'+1 -1=n' by omega] at hi;subst hi;refine⟨AA,⟨AC,λx=>?_⟩,hs.symm,O,O⟩;rw[List.take_succ_cons,DI,Dl,Ae h0,hn',show n'+1 -1=n' by omega];have hle:n'≤l.length:=O;rw[Ae (by rw[Cq,Iv,Nat.min_eq_left hle,hs];omega),List.take_append_of_le_length AA,List.take_take,Nat.min_self];simp;omega
inductive Enc:List Ins→List Int→Prop
 |nil:Enc [] []
 |cons {i:Ins} {b:List Int} {l:List Ins} {bs:List Int}:IsEnc i b→Enc l bs→Enc (i::l) (b++bs)
theorem Enc.nonempty{l:List Ins}{bs:List Int}(h:Enc l bs)(hl:l≠[]):bs≠[]:=by
 cases h with
 |nil=>exact absurd rfl hl
 |cons h1 h2=>intro e;exact h1.1 (List.append_eq_nil_iff.1 e).1
theorem Oj(m:Ms)(p:Int):(C3 m p).length=64 -(p%64).toNat:=by simp[C3]
theorem Yq(m:Ms)(p:Int)(n:Nat)(h0:0≤p)(hn:(p%64).toNat+n<64):(C3 m p).drop n=C3 m (p+n):=by
 apply List.ext_getElem?;intro k;rw[List.getElem?_drop];unfold C3;rw[DP,DP];by_cases hk:n+k<64 -(p%64).toNat;·rw[IL hk,IL O];simp only[Option.map_some,Option.some.injEq];congr 1;omega
 ·rw[Ew AA,Ew AA];rfl
theorem nR(g:Mc):g.calm.calm=g.calm:=rfl
theorem nS(m:Ms):turnN m.calm 64=[]:=by
 unfold turnN Ms.calm;simp
theorem Mw(s:St)(i:Ins)(g:Mc)(hc:check s i=0)(hp:BZ i.op=Ag):doR s i g=⟨AX s i,Ac,Ac,[],g.calm⟩:=by
 have key:Ej (s.next i) s.ct i g.calm=⟨AX s i,0,0,Ac,g.calm⟩:=by
  unfold Ej AX;by_cases h1:C8 i.op=Ag;·rw[An h1,An h1]
  ·rw[Ae h1,Ae h1];have h2:Fc i.op=Ag:=by
    simp[BZ] at hp;simp[C8] at h1;simp[Fc];omega
   rw[An h2]
 unfold doR;simp only[key];have:turnN g.calm.b.ms 64=[]:=nS g.b.ms;rw[this]
theorem Rh(s:St)(i:Ins):(AX s i).ha=s.ha:=by
 unfold AX stackS reckS
 repeat' split
 all_goals rfl
theorem Ol(s:St)(i:Ins)(hp:BZ i.op=Ag)(he:endsB i.op=Ac):(AX s i).pc=(s.pc+AK i.op)%4294967296:=by
 simp[BZ] at hp;simp[endsB] at he;unfold AX;by_cases h1:C8 i.op=Ag;·rw[An h1];exact Pj
 ·rw[Ae h1];simp[C8] at h1;unfold reckS;rw[An O];rfl
def behind(c:St)(was:Int)(ends:Bool)(p:Int)(page:Int)(g:Mc)(k:Nat):Sg:=
 if ends|| !decide (c.pc/64=was/64) then⟨c,g⟩ else Cg c p page g k
theorem Yr(page:Int): ∀(l:List Ins) (bs:List Int) (s c:St) (p:Int) (g:Mc) (k:Nat),Enc l bs→l≠[]→(∀i∈l,BZ i.op=Ag)→(∀i∈l.dropLast,endsB i.op=Ac)→
 CG s l=I c→bs<+:C3 g.b.ms p→0≤p→p<(g.b.ms.n:Int)*64→g.b.ms.n≤64→0≤s.pc→s.pc≤4294967295→s.pc%64=p%64→s.ha=Ac→l.length≤k→
 Cg s p page g k=behind c s.pc (endsB (l.getLastD ⟨0,0⟩).op) (p+bs.length) page g.calm (k -l.length)∧c.ha=Ac
 |[],_,_,_,_,_,_,_,hl,_,_,_,_,_,_,_,_,_,_,_,_=>absurd rfl hl
 |i::l,_,s,c,p,g,k,.cons (b:=b) (bs:=bs) hb he,_,hpl,hnd,hall,hpre,p0,p1,hn,pc0,pc1,hpc,hha,hk=>by
  rw[CG] at hall;have hc:check s i=0:=by
   by_cases q:check s i=0;·exact q
   ·rw[Ae q] at hall;cases hall
  rw[An hc] at hall;obtain⟨k',rfl⟩: ∃k',k=k'+1:=⟨k -1,by simp at hk;omega⟩;obtain⟨x,hx⟩:=hpre;rw[C9] at hx;have hdec:=hb.2 (bs++x);rw[hx] at hdec;obtain⟨n1,n2,n3,n4,n5⟩:=KR hdec;have hlen:=congrArg List.length hx;rw[Oj,Cq,Cq] at hlen;have hD:=Mw s i g hc (hpl i AC);have hf:=Ys;rw[Cg,hf];simp only[hD];have hha2:(AX s i).ha=Ac:=(Rh s i).trans hha
  cases l with
  |nil=>
   cases he
   have hcs:AX s i=c:=by simpa[CG] using hall
   rw[hcs] at hha2⊢;refine⟨?_,hha2⟩;unfold behind;rw[List.append_nil];have hgl:([i].getLastD ⟨0,0⟩:Ins)=i:=rfl;rw[hgl];unfold CQ;simp only[hha2,Bool.or_false,List.contains_nil];have hp2:=Ri;by_cases q:endsB i.op=Ag;·simp[q]
   ·have q:endsB i.op=Ac:=by simpa using q
    rw[q];by_cases q2:c.pc/64=s.pc/64;·simp[q2,hp2]
    ·simp[q2]
  |cons j l=>
   have hei:endsB i.op=Ac:=hnd i AC;have hpi:=Ol s i (hpl i AC) hei;have hbs:=he.nonempty AC;have hbl:0<bs.length:=Ef.2 hbs;have hpn:=Yt;have hsame:(AX s i).pc/64=s.pc/64:=by rw[hpn];omega
   have hnx:CQ i ⟨AX s i,Ac,Ac,[],g.calm⟩ page s.pc=Ag:=by
    unfold CQ;simp[hei,hha2,hsame]
   rw[hnx];simp only[if_true];have hp2:=Ri;rw[hp2];have hpre2:bs<+:C3 g.calm.b.ms (p+(b.length:Nat)):=by
    have:C3 g.calm.b.ms (p+(b.length:Nat))=(C3 g.b.ms p).drop b.length:=(Yq g.b.ms p b.length p0 O).symm;rw[this,←hx,List.drop_left];exact⟨x,rfl⟩
   have ih:=Yr page (j::l) bs (AX s i) c (p+(b.length:Nat)) g.calm k' he AC (λa ha=>hpl a (by simp at ha⊢;right;exact ha)) (λa ha=>hnd a (by
    rw[List.dropLast_cons_of_ne_nil AC];exact List.mem_cons_of_mem _ ha)) hall hpre2 O (by
    show p+(b.length:Int)<(g.b.ms.n:Int)*64;omega) hn O O O hha2 (by simp at hk⊢;omega)
   obtain⟨ih1,ih2⟩:=ih;refine⟨?_,ih2⟩;rw[ih1];have e1:((i::j::l).getLastD ⟨0,0⟩:Ins)=(j::l).getLastD ⟨0,0⟩:=by simp[List.getLastD]
   rw[e1];have e2:k'+1 -(i::j::l).length=k' -(j::l).length:=AC;rw[e2];have e3:p+((b++bs).length:Int)=p+(b.length:Int)+bs.length:=by rw[Cq];push_cast;omega
   rw[e3];unfold behind;rw[hsame,nR]
end Gm
namespace Gc
open Gs Sv Rm
theorem Kj{P:CF}{fn:Func}{p q r:Tmp}{ty':AN}(h:fn.results=#[.cell q ty',.tmp p,.tmp r])(tmps:AO)(w:Aa)(g':Nat)(t':AN)(cs':AO)(d':TypeDesc)(v u:As)(hp:tmps.getD p BY=v)(hr:tmps.getD r BY=u)(hq:tmps.getD q BY=↑g')(hg':Blk w g' t' cs')(hu':P.underlying ty'=I d')(hd':(match d' with|.struct _|.array _ _=>Ag|_=>Ac)=Ag)(hi':(P.info? ty').map (·.size)=I cs'.size):(results fn tmps).run P w=.ok (AF #[A9 cs',v,u]) w:=by
 have hp':tmps[p]?.getD BY=v:=LM;have hr':tmps[r]?.getD BY=u:=Kf;have hq':=Ni;simp[results,h,hp',hq',hr',asAddr,run_loadVar_row w g' t' ty' cs' (0,0) d' hg' hu' hd' hi',GT,ES]
theorem szI:(Tryz.prog.info? 27).map (·.size)=I 2:=AL
def NoDec(w:Aa)(e:AY)(w':Aa):Prop:= ∃er:Int,er≠0∧(er=10∨er=12)∧e=Ax (AF #[Jn ⟨0,0⟩,J U 0,J U er])∧Fr Aj w w'
theorem dec_nil(w:Aa)(A:Aw)(c:Nat):At Tryz.prog 126 #[Z A 0 c] w (NoDec w):=by
 go_in;go_wp2_with fail;refine Bt (Kj rfl _ _ w.heap.size 27 #[J U 0,J V 0] _ (J U 0) (J U 10) rfl rfl rfl (AI _ _ _) I3 rfl szI) rfl ⟨10,O,Af rfl,rfl,(Ao _ w).alloc _⟩
theorem dec_no(w:Aa)(A:Aw)(n c:Nat)(zs:List Int)(hz:IntsAt AB w w.heap.size A n zs)(h:Dl zs=G)(hn:n≤BQ):At Tryz.prog 126 #[Z A n c] w (NoDec w):=by
 cases zs with
 |nil=>
  have:n=0:=RX;subst this;exact dec_nil w A c
 |cons o l=>
  have hl:n=l.length+1:=RX;obtain⟨b,off,hA,hb,hc⟩:=hz.at_ (i:=0) O;have hw:=Jb (hz.2.1 0 O);simp only[List.getD_cons_zero,Nat.add_zero] at hc hw;have hcv:IntKind.i64.wrap o=o:=GF _ O;have hs:=T (λW=>size_any W o);have hh:AK o=0∨(AK o≠0∧(n:Int)<AK o):=by
   rw[Dl] at h;by_cases q:AK o=0;·exact Af q
   ·rw[Ae q] at h;by_cases q2:(l.length:Int)+1<AK o;·exact Ah ⟨q,O⟩
    ·rw[Ae q2] at h;cases h
  have hn1:1≤n:=O;subst hA;unfold BQ at hn;obtain⟨hw0,hw1⟩:=hw;have hne:=RY;have hcb:=T hb;have hc2:=ZZ;have B1:=T (Ds w #[J U 0,J V 0] #[J U o,J V 0] 27 27);clear h hz hl;have HE:=T (Ay B1.out.1 B1.out.2.2);rcases hh with q|⟨q,q2⟩;·rw[q] at hs;clear q;go_in;go_wp2_with fail;refine(hs.out _).mono ?_;rintro e w' ⟨rfl,rfl⟩;go_wp2_with fail;refine Bt (Kj rfl _ _ w.heap.size 27 #[J U 0,J V 0] _ (J U 0) (J U 12) rfl rfl rfl HE.out.1 I3 rfl szI) rfl ⟨12,O,Ah rfl,rfl,HE.out.2⟩
  ·have hz2:(AK o==0)=Ac:=by simp[q]
   generalize AK o=sz at*;have hlt:decide ((n:Int)<sz)=Ag:=by simp[q2]
   clear q;go_in;go_wp2_with fail;refine(hs.out _).mono ?_;rintro e w' ⟨rfl,rfl⟩;go_wp2_with fail;refine Bt (Kj rfl _ _ w.heap.size 27 #[J U 0,J V 0] _ (J U 0) (J U 10) rfl rfl rfl HE.out.1 I3 rfl szI) rfl ⟨10,O,Af rfl,rfl,HE.out.2⟩
def dW(zs:List Int)(sz:Nat):Nat→Int
 |0=>0
 |r+1=>dW zs sz r*256+zs.getD (sz -1 -r) 0
theorem dW_bd(zs:List Int)(sz:Nat)(hb: ∀i,i<sz→0≤zs.getD i 0∧zs.getD i 0<256): ∀r,r<sz→0≤dW zs sz r∧dW zs sz r<256^r
 |0,_=>by simp[dW]
 |r+1,h=>by
  have h1:=dW_bd zs sz hb r O;have h2:=hb (sz -1 -r) O;have h3:(256:Int)^(r+1)=256^r*256:=Int.pow_succ _ _;show 0≤dW zs sz r*256+_∧dW zs sz r*256+_<_;omega
theorem dW_le(o:Int)(l:List Int)(sz:Nat)(h:sz=1∨sz=2∨sz=5)(hl:sz≤l.length+1):dW (o::l) sz (sz -1)=leV (l.take (sz -1)):=by
 rcases h with rfl|rfl|rfl;·rfl
 ·match l,hl with
  |a::r,_=>simp[dW,leV]
 ·match l,hl with
  |a::b::c::d::r,_=>
   simp[dW,leV];omega
def YesDec(w:Aa)(i:Ins)(k:Nat)(e:AY)(w':Aa):Prop:=e=Ax (AF #[Jn i,J U k,J U 0])∧Fr Aj w w'
theorem dec_yes(w:Aa)(A:Aw)(n c:Nat)(zs:List Int)(hz:IntsAt AB w w.heap.size A n zs)(i:Ins)(k:Nat)(h:Dl zs=I (i,k))(hn:n≤BQ):At Tryz.prog 126 #[Z A n c] w (YesDec w i k):=by
 cases zs with
 |nil=>simp[Dl] at h
 |cons o l=>
  have hl:n=l.length+1:=RX;have hh:AK o≠0∧AK o≤n∧i=⟨o,leV (l.take ((AK o).toNat -1))⟩∧k=(AK o).toNat:=by
   rw[Dl] at h;by_cases q:AK o=0;·rw[An q] at h;cases h
   ·rw[Ae q] at h;by_cases q2:(l.length:Int)+1<AK o;·rw[An q2] at h;cases h
    ·rw[Ae q2] at h;injection h with h;injection h with h1 h2;exact⟨q,O,h1.symm,h2.symm⟩
  obtain⟨q0,q1,rfl,rfl⟩:=hh;have hsz:=size_cases o;obtain⟨sz,hsz2⟩: ∃sz:Nat,AK o=sz:=⟨(AK o).toNat,O⟩;rw[hsz2] at hsz q0 q1⊢;rw[show((sz:Int)).toNat=sz from rfl];have hs:=T (λW=>size_any W o);rw[hsz2] at hs;have hdl:=dW_le o l sz O O;rw[←hdl];clear hdl;have hbd:=dW_bd (o::l) sz (λi hi=>by have:=Jb (hz.2.1 i (by omega));omega);obtain⟨b,off,hA,hb,hc⟩:=hz.at_ (i:=0) O;have hw:=Jb (hz.2.1 0 O);simp only[List.getD_cons_zero,Nat.add_zero] at hc hw;have hcv:IntKind.i64.wrap o=o:=GF _ O;obtain⟨hw0,hw1⟩:=hw;have hall: ∀j,j<n→w.cell? ⟨b,off+j,G⟩=I (J AB ((o::l).getD j 0)):=by
   obtain⟨b',off',e,_,hc'⟩:=hz.2.2 O;rw[hA] at e;injection e with e;injection e with e1 e2;subst e1 e2;exact hc'
  have HALL:=T hall;have HBY:=T (λi (hi:i<n)=>Jb (hz.2.1 i hi));have hn1:1≤n:=O;subst hA;unfold BQ at hn;have hne:=RY;have hz2:((sz:Int)==0)=Ac:=AA;have hlt:decide (n<sz)=Ac:=AA;have hlt2:decide ((n:Int)<(sz:Int))=Ac:=AA;have hc2:=ZZ;have B1:=T (Ds w #[J U 0,J V 0] #[J U o,J V 0] 27 27);have HB:=T hb;have HD:=T hbd;have HSZ:=T hsz;generalize hxs:(o::l)=xs at*;have s0:(0:Int)≤(sz:Int) -1:=O;have s1:(sz:Int)≤5:=O;clear h hz hl q0 hall hc hbd hsz hxs hsz2;go_in;go_wp2_with fail;refine(hs.out _).mono ?_;rintro e w' ⟨rfl,rfl⟩;go_wp2_with fail;go_loopw [7] (λk wr=> ∃r:Nat,r+1≤sz∧k=J U ((sz:Int) -1 -r)∧Blk wr (w.heap.size+1) 27 #[J U o,J V (dW xs sz r)]∧Blk wr w.heap.size 27 #[J U 0,J V 0]∧Fr Aj w wr) (λk _=>(AM k).toNat)
  case atStart=>exact⟨0,O,AC,B1.out.2.1,B1.out.1,B1.out.2.2⟩
  case round=>
   obtain⟨r,hr,rfl,hb1,hb0,fr⟩:=hrel;by_cases hq:r+1<sz
   ·have e1:((sz:Int) -1 -r)=((sz -1 -r:Nat):Int):=O;rw[e1];have HE1:=T e1;clear e1;have hcell:=fr.cell (HALL.out (sz -1 -r) O) HB.out id;have hby:=HBY.out (sz -1 -r) O;have hd:=HD.out r O;have hd2:dW xs sz r<16777216:=by
     have:r=0∨r=1∨r=2∨r=3:=O;rcases this with rfl|rfl|rfl|rfl<;>simp at hd<;>omega
    have HS:Hid (dW xs sz (r+1)=dW xs sz r*256+xs.getD (sz -1 -r) 0):=T rfl;have hd0:=hd.1;generalize xs.getD (sz -1 -r) 0=by_ at*;generalize dW xs sz r=v at*;have Ho:=or8 (v*256) by_ O O O hby.1 O;have k0:=hb1.cell 0;have k1:=hb1.cell 1;have z1:=hb1.frozen 1;have HB1:=T hb1;have HB0:=T hb0;have HF:=T fr;have hy0:=hby.1;have hy1:=hby.2;have hsr:0<sz -1 -r:=O;have hsr1:sz -1 -r<n:=O;have hsr2:sz -1 -r≤4:=O;have HR:=T (show sz -1 -r -1=sz -1 -(r+1) by omega);have HR2:=T (show(sz:Int) -1 -(r+1:Nat)=((sz -1 -r:Nat):Int) -1 by omega);clear hb1 hb0 fr hby hd;generalize sz -1 -r=kk at*;go_upto_region 12 with(fail);go_still_tail 10,AL
    go_wp2
    go_roundw
    case rel=>exact⟨r+1,O,by rw[HR2.out],by rw[HS.out];exact HB1.out.drew.set_ 1 _,(HB0.out.drew.far (p:=⟨w.heap.size+1,1,G⟩) AC _),HF.out.drew.setCell (p:=⟨w.heap.size+1,1,G⟩) (Ah (Nat.le_succ _)) _⟩
    case measure=>simp[AM];omega
   ·have e:r=sz -1:=O;have e2:((sz:Int) -1 -r)=0:=O;rw[e2];rw[e] at hb1;have k0:=hb1.cell 0;have k1:=hb1.cell 1;have z0:=hb0.frozen 0;have z1:=hb0.frozen 1;have y0:=hb0.cell 0;have y1:=hb0.cell 1;have HB0:=T hb0;have HF:=T fr;clear hb1 hb0 fr e e2;generalize dW xs sz (sz -1)=v at*;go_wp2_with fail;refine Bt (Kj rfl _ _ w.heap.size 27 #[J U o,J V v] _ (J U sz) (J U 0) rfl rfl rfl ((HB0.out.set_ 0 (J U o)).set_ 1 (J V v)) I3 rfl szI) rfl ⟨rfl,(HF.out.setCell (p:=⟨w.heap.size,0,G⟩) (Ah (AD _)) _).setCell (p:=⟨w.heap.size,1,G⟩) (Ah (AD _)) _⟩
end Gc
namespace Gm
open Fm Nt Rm By Wk Gs
theorem loadO_bd{b:Bs.Sb}(h:b.Ok)(o cnt:Int):Bd (Bs.loadO b o cnt):=by
 have h1:=h.p;have h2:=h.m;have h3:=h.len;unfold Bs.loadO;split;·exact Gh
 split;·exact Gh
 split;·exact h.tm
 split;·exact Gh
 split
 ·cases hi:b.ins with
  |nil=>exact bd0
  |cons z l=>
   have:=h.ins z (by rw[hi];simp);exact⟨by show 0≤z;omega,by show z≤4294967295;omega⟩
 split;·exact Gh
 split;·exact h.sec
 split;·exact h.pl
 split;·rcases h.st with e|e<;>rw[e]<;>exact⟨O,O⟩
 ·exact bd0
theorem Rk.pop2{s:St}(h:Rk s):Rk (Gm.pop2 s):=h.stacks (Bl.drop (Bl.drop h.1.d)) h.1.r (by have:=h.2.1;simp;omega) h.2.2.1
theorem Rk.pushPop{s:St}(h:Rk s)(hd:s.d≠[]){v:Int}(hv:Bd v):Rk (Gm.push1 (Gm.pop1 s) v):=
 h.stacks ((Bl.drop h.1.d).app (Bl.nil.cons hv)) h.1.r (by have:=h.2.1;have:=Ef.2 hd;simp[Gm.pop1];omega) h.2.2.1
theorem cD{u:Mu.Us}{sp:Mu.Sp}{va k:Int}(v0:0≤va)(v1:va≤4294967295):(0≤(Mu.placeR u sp va k).c∧(Mu.placeR u sp va k).c≤100)∧Bd (Mu.placeR u sp va k).a:=by
 unfold Mu.placeR;split;·exact⟨⟨KM,by show(0:Int)≤100;omega⟩,bd0⟩
 ·exact⟨⟨by show(0:Int)≤10;omega,by show(10:Int)≤100;omega⟩,v0,v1⟩
section
variable {s:St} {g:Mc}
theorem other_rk(hk:Rk s)(hO:g.b.Ok)(hU:g.u.Ok)(cnt:Int)(hc:0≤cnt∧cnt≤18446744073709551615)(i:Ins)(hd:Gs.takeD i.op≤s.d.length)(hp:s.d.length -Gs.takeD i.op+Gs.putD i.op≤16):Rk (Iu s cnt i g).s:=by
 obtain⟨op,n⟩:=i;have ht:=Bl.top (l:=s.d) hk.1.d;unfold Iu;simp only[] at hd hp⊢;by_cases c:op=48;·rw[An c];refine hk.pushPop (λhn=>?_) (loadO_bd hO _ _);rw[hn,c] at hd;exact absurd hd Ak
 rw[Ae c];clear c;by_cases c:op=49;·rw[An c];exact hk.pop2
 rw[Ae c];clear c;obtain⟨o,h1,h2,h3⟩:=hk;exact⟨⟨o.pc,o.fl,o.rt,o.ve,o.ep,o.ca,o.ad,o.ct,o.d,o.r⟩,h1,h2,h3⟩
theorem run_rk(hk:Rk s)(hO:g.b.Ok)(hU:g.u.Ok)(cnt:Int)(hc:0≤cnt∧cnt≤18446744073709551615)(i:Ins)(hn:Bd i.n)(t1:Gs.takeD i.op≤s.d.length)(t2:Gs.takeR i.op≤s.r.length)(t3:s.d.length -Gs.takeD i.op+Gs.putD i.op≤16)(t4:s.r.length -Gs.takeR i.op+Gs.putR i.op≤16):Rk (Ej s cnt i g).s:=by
 unfold Ej;split;·exact hk.stackS hn t1 t2 t3 t4
 split;·exact hk.reckS t1 t2 t3 t4
 ·exact other_rk hk hO hU cnt hc i t1 t3
theorem do_rk(hk:Rk s)(hO:g.b.Ok)(hU:g.u.Ok)(i:Ins)(hn:Bd i.n)(hc:check s i=0):Rk (doR s i g).s:=by
 obtain⟨_,h1,h2,h3,h4⟩:=VK hc;have hO2:g.calm.b.Ok:=⟨hO.p,hO.m,hO.tm,hO.len,hO.ins,hO.outs,hO.sec,hO.pl,hO.st,λk _ _=>rfl⟩;have hU2:g.calm.u.Ok:=⟨hU.n0,hU.bd⟩;exact run_rk (hk.next i) hO2 hU2 s.ct hk.1.ct i hn h1 h2 h3 h4
end
theorem run_ca(s:St)(cnt:Int)(i:Ins)(g:Mc):(Ej s cnt i g).c=0∧(Ej s cnt i g).a=0:=by
 unfold Ej Iu
 repeat' split
 all_goals exact⟨rfl,rfl⟩
end Gm
namespace Gm
open Fm Nt Rm By Wk Gs
theorem pD(b:Bs.Sb)(at_ v:Int):(b.store at_ v).outs.length≤b.outs.length+1:=by
 unfold Bs.Sb.store Bs.Sb.storeO
 repeat' split
 all_goals first
  |exact Nat.le_succ _
  |(simp;done)
  |omega
theorem run_outs(s:St)(cnt:Int)(i:Ins)(g:Mc):(Ej s cnt i g).g.b.outs.length≤g.b.outs.length+1:=by
 have hr: ∀(b:Bs.Sb) p,(b.read p).outs=b.outs:=λb p=>by
  unfold Bs.Sb.read;split<;>rfl
 unfold Ej Iu
 repeat' split
 all_goals first
  |exact Nat.le_succ _
  |exact pD _ _ _
  |(show((Bs.Sb.read _ _).outs.length≤_);rw[hr];exact Nat.le_succ _)
theorem S6(s:St)(i:Ins)(g:Mc):(doR s i g).g.b.outs.length≤g.b.outs.length+1:=run_outs (s.next i) s.ct i g.calm
end Gm
namespace Gm
open Fm Nt Rm By Wk Gs
theorem pE(s:St)(i:Ins):(stackS s i).ct=s.ct:=Pj
theorem reckS_ct(s:St)(i:Ins):(reckS s i).ct=s.ct:=by
 unfold reckS
 repeat' split
 all_goals rfl
theorem setS_ct(s:St)(r v:Int):(setS s r v).ct=s.ct:=by
 unfold setS
 repeat' split
 all_goals rfl
theorem pF(s:St)(cnt:Int)(i:Ins)(g:Mc):(Iu s cnt i g).s.ct=s.ct:=by
 unfold Iu
 repeat' split
 all_goals first
  |rfl
  |exact setS_ct _ _ _
theorem runR_ct(s:St)(cnt:Int)(i:Ins)(g:Mc):(Ej s cnt i g).s.ct=s.ct:=by
 unfold Ej;split;·exact pE s i
 split;·exact reckS_ct s i
 ·exact pF s cnt i g
theorem doR_ct(s:St)(i:Ins)(g:Mc):(doR s i g).s.ct=(s.ct+1)%18446744073709551616:=by
 show(Ej (s.next i) s.ct i g.calm).s.ct=_;rw[runR_ct];rfl
theorem cH: ∀(k:Nat) (s:St) (p page:Int) (g:Mc),0≤s.ct→s.ct+k<18446744073709551616→ ∃j:Nat,(0<k→1≤j)∧j≤k∧(Cg s p page g k).s.ct=s.ct+j
 |0,s,p,page,g,_,_=>⟨0,λh=>absurd h O,AD _,by simp[Cg]⟩
 |k+1,s,p,page,g,h0,h1=>by
  rw[Cg]
  cases hf:Cf g.b.ms p with
  |none=>
   refine⟨1,λ_=>AD _,O, ?_⟩;show(s.ct+1)%18446744073709551616=_;omega
  |some x=>
   obtain⟨i,n⟩:=x;have hd:=doR_ct s i g;have e:(doR s i g).s.ct=s.ct+1:=by rw[hd];omega
   dsimp only;split;·obtain⟨j,_,j1,j2⟩:=cH k (doR s i g).s ((p+(n:Int))%4294967296) page (doR s i g).g O O;exact⟨j+1,λ_=>O,O,by rw[j2,e];push_cast;omega⟩
   ·exact⟨1,λ_=>AD _,O,Jm⟩
theorem cJ(s:St)(g:Mc):(Db s g).ct=s.ct:=by
 unfold Db;split<;>rfl
theorem pG(s:St)(g:Mc)(hr:s.right=Ag)(ha:s.ha=Ac):((BH s g).on=Ag∧(BH s g).s.ct=s.ct)∨((BH s g).on=Ac∧(BH s g).s.ct=(s.ct+1)%18446744073709551616):=by
 unfold BH;rw[Ae (by simp[hr,ha])];dsimp only;split;·right;refine⟨rfl, ?_⟩;show((Db s _).ct+1)%18446744073709551616=_;rw[cJ]
 ·left;exact⟨rfl,cJ s _⟩
theorem S7(s:St)(g:Mc)(hr:s.right=Ag)(ha:s.ha=Ac)(h0:0≤s.ct)(h1:s.ct+8<18446744073709551616): ∃j:Nat,1≤j∧j≤8∧(Cx s g).s.ct=s.ct+j:=by
 unfold Cx;rcases pG s g hr ha with⟨e1,e2⟩|⟨e1,e2⟩;·rw[An e1];obtain⟨j,j0,j1,j2⟩:=cH 8 (BH s g).s (BH s g).p ((BH s g).p/64) (BH s g).g O O;exact⟨j,j0 O,j1,by rw[j2,e2]⟩
 ·rw[Ae (by rw[e1];decide)];exact⟨1,O,O,by show(BH s g).s.ct=_;rw[e2];omega⟩
def AH:Nat→St→Mc→Sg
 |0,s,g=>⟨s,g⟩
 |k+1,s,g=>Cx (AH k s g).s (AH k s g).g
def goB(f n:Int)(s:St):Bool:=decide (0<n)&& !s.ha&&decide ((s.ct -f)%18446744073709551616<n)
structure RunTo(n:Int)(s:St)(g:Mc)(j:Nat):Prop where
 go: ∀i,i<j→goB s.ct n (AH i s g).s=Ag
 stop:goB s.ct n (AH j s g).s=Ac
 rk: ∀i,i≤j→Rk (AH i s g).s
variable{n:Int}{s:St}
theorem MR{f:Int}(h:goB f n s=Ag):0<n∧s.ha=Ac∧(s.ct -f)%18446744073709551616<n:=by
 simpa[goB,and_assoc] using h
theorem Ko{g:Mc}{j:Nat}(h: ∀i,i<j→goB s.ct n (AH i s g).s=Ag)(hk: ∀i,i≤j→Rk (AH i s g).s)(h0:s.ct≤1000000000)(hn:n≤1000000): ∀i,i≤j→(i:Int)≤(AH i s g).s.ct -s.ct∧(AH i s g).s.ct -s.ct≤8*i∧(0<i→(AH i s g).s.ct -s.ct<n+8)
 |0,_=>⟨by show(0:Int)≤s.ct -s.ct;omega,by show s.ct -s.ct≤8*0;omega,λe=>absurd e O⟩
 |i+1,hi=>by
  have hs:=(hk 0 O).1.ct.1;have hs:0≤s.ct:=hs;obtain⟨a1,a2,a3⟩:=Ko h hk h0 hn i O;have hg:=MR (h i O);have hb:(AH i s g).s.ct -s.ct<2000000:=by
   by_cases e:i=0;·subst e;omega
   ·have:=a3 O;omega
  obtain⟨k,k1,k2,k3⟩:=S7 (AH i s g).s (AH i s g).g (hk i O).right hg.2.1 O O;have e:(AH (i+1) s g).s.ct=(AH i s g).s.ct+k:=k3;have h3:=hg.2.2;rw[Int.emod_eq_of_lt O O] at h3;refine⟨by rw[e];push_cast;omega,by rw[e];push_cast;omega,λ_=>LF⟩
theorem RunTo.ends{g:Mc}{j:Nat}(h:RunTo n s g j)(h0:s.ct≤1000000000)(hn:n≤1000000):0≤(AH j s g).s.ct -s.ct∧(n<1→(AH j s g).s.ct=s.ct)∧(s.ha=Ag→(AH j s g).s.ct=s.ct)∧(0<n→(AH j s g).s.ct -s.ct<n+8)∧(0<n→(AH j s g).s.ha=Ac→n≤(AH j s g).s.ct -s.ct)∧(0<n→s.ha=Ac→1≤j):=by
 have hc:=Ko h.go h.rk h0 hn j (AD _);have hs:0≤s.ct:=(h.rk 0 O).1.ct.1;have hj0:n<1∨s.ha=Ag→j=0:=λe=>by
  rcases Gq j with q|q;·exact q
  ·have:=MR (h.go 0 q);rcases e with e|e;·omega
   ·have h2:=this.2.1;have h2:s.ha=Ac:=h2;rw[e] at h2;cases h2
 refine⟨O,λe=>?_,λe=>?_,λe=>?_,λe1 e2=>?_,λe1 e2=>?_⟩;·rw[hj0 (Af e)];rfl
 ·rw[hj0 (Ah e)];rfl
 ·by_cases q:j=0;·rw[q];show s.ct -s.ct<n+8;omega
  ·exact hc.2.2 O
 ·have hst:=h.stop;unfold goB at hst;rw[e2] at hst;have hb:(AH j s g).s.ct -s.ct<2000000:=by
   by_cases q:j=0;·rw[q];show s.ct -s.ct<2000000;omega
   ·have:=hc.2.2 O;omega
  rw[Int.emod_eq_of_lt O O] at hst;simp[e1] at hst;omega
 ·rcases Gq j with q|q;·exfalso;have hst:=h.stop;rw[q] at hst;have hst:goB s.ct n s=Ac:=hst;unfold goB at hst;rw[e2,Int.sub_self] at hst;simp[e1] at hst
  ·exact q
end Gm
namespace Gm
open Fm Nt Rm By Wk Gs
structure Us(s:St)(i:Ins):Prop where
 op:GE i.op=Ag
 pg:s.pg=Ac
 ld:i.op=48→EH (AW s.d)=Ag
 st:i.op=49→EH (AW s.d)=Ag
 rw:i.op=67→i.n≠1∧i.n≠2
 ch:check s i=0
theorem Us.ux{s:St}{i:Ins}(h:Us s i):Ux s i.op i.n:=⟨h.op,h.pg,h.ld,h.st,h.rw⟩
def okR(s:St)(p page:Int)(g:Mc):Nat→Prop
 |0=>True
 |k+1=> ∃i n,Cf g.b.ms p=I (i,n)∧Us s i∧(CQ i (doR s i g) page s.pc=Ag→okR (doR s i g).s ((p+(n:Int))%4294967296) page (doR s i g).g k)
def okB(s:St)(g:Mc):Prop:=s.pg=Ac∧((BH s g).on=Ag→okR (BH s g).s (BH s g).p ((BH s g).p/64) (BH s g).g 8)
theorem ok_run(page:Int): ∀(l:List Ins) (bs:List Int) (s:St) (p:Int) (g:Mc) (k:Nat),Enc l bs→(∀i∈l,BZ i.op=Ag)→(∀i∈l.dropLast,endsB i.op=Ac)→
 bs<+:C3 g.b.ms p→0≤p→p<(g.b.ms.n:Int)*64→g.b.ms.n≤64→0≤s.pc→s.pc≤4294967295→s.pc%64=p%64→s.ha=Ac→l.length≤k→okR s p page g k→
 (∀i∈l,GE i.op=Ag)∧(l≠[]→ ∀c,CG s l=I c→(endsB (l.getLastD ⟨0,0⟩).op|| !decide (c.pc/64=s.pc/64))=Ac→okR c (p+bs.length) page g.calm (k -l.length))
 |[],_,_,_,_,_,_,_,_,_,_,_,_,_,_,_,_,_,_=>⟨λ_ h=>(by cases h),λh=>absurd rfl h⟩
 |i::l,_,s,p,g,k,.cons (b:=b) (bs:=bs) hb he,hpl,hnd,hpre,p0,p1,hn,pc0,pc1,hpc,hha,hk,hok=>by
  obtain⟨k',rfl⟩: ∃k',k=k'+1:=⟨k -1,by simp at hk;omega⟩;obtain⟨x,hx⟩:=hpre;rw[C9] at hx;have hdec:=hb.2 (bs++x);rw[hx] at hdec;obtain⟨n1,n2,n3,n4,n5⟩:=KR hdec;have hlen:=congrArg List.length hx;rw[Oj,Cq,Cq] at hlen;have hf:=Ys;obtain⟨i',n',hf',hU,hnx'⟩:=hok;rw[hf] at hf';injection hf' with e0;injection e0 with e1 e2;subst e1 e2;have hc:=hU.ch;have hD:=Mw s i g hc (hpl i AC);rw[hD] at hnx';have hha2:(AX s i).ha=Ac:=(Rh s i).trans hha;have hp2:=Ri;rw[hp2] at hnx'
  cases l with
  |nil=>
   cases he
   refine⟨λj hj=>by simp at hj;rw[hj];exact hU.op,λ_ c hall hnot=>?_⟩;have hcs:AX s i=c:=by simpa[CG,hc] using hall
   subst hcs;have hgl:([i].getLastD ⟨0,0⟩:Ins)=i:=rfl;rw[hgl] at hnot;simp only[Bool.or_eq_false_iff,Bool.not_eq_false',decide_eq_true_eq] at hnot;have:=hnx' (by unfold CQ;simp[hnot.1,hha2,hnot.2]);simpa using this
  |cons j l=>
   have hei:endsB i.op=Ac:=hnd i AC;have hpi:=Ol s i (hpl i AC) hei;have hbs:=he.nonempty AC;have hbl:0<bs.length:=Ef.2 hbs;have hpn:=Yt;have hsame:(AX s i).pc/64=s.pc/64:=by rw[hpn];omega
   have hok2:=hnx' (by unfold CQ;simp[hei,hha2,hsame]);have hpre2:bs<+:C3 g.calm.b.ms (p+(b.length:Nat)):=by
    have h1:=Yq g.b.ms p b.length p0 O;rw[←hx,List.drop_left] at h1;exact⟨x,h1⟩
   have ih:=ok_run page (j::l) bs (AX s i) (p+b.length) g.calm k' he (λq hq=>hpl q (List.mem_cons_of_mem _ hq)) (λq hq=>hnd q (by rw[List.dropLast_cons_of_ne_nil (by simp)];exact List.mem_cons_of_mem _ hq)) hpre2 O (by show p+(b.length:Int)<(g.b.ms.n:Int)*64;omega) hn O O O hha2 (by simp at hk⊢;omega) hok2;refine⟨λq hq=>?_,λ_ c hall hnot=>?_⟩
   ·rcases Dv.1 hq with rfl|hq;·exact hU.op
    ·exact ih.1 q hq
   ·have hall2:CG (AX s i) (j::l)=I c:=by rw[CG,An hc] at hall;exact hall
    have:=ih.2 AC c hall2 (by rw[hsame];exact hnot);rw[Cq,D8,show k'+1 -((j::l).length+1)=k' -(j::l).length by simp];rw[show p+((b.length+bs.length:Nat):Int)=p+b.length+bs.length by omega];exact this
end Gm
end Go.Proofs.YtdfegdoeebaagaaGreatDoor
