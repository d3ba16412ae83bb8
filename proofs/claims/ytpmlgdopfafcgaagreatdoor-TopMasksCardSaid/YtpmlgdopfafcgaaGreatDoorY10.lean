import Derived.Test.YtpmlgdopfafcgaaGreatDoorY5
import Derived.Test.YtpmlgdopfafcgaaGreatDoorY9
open Go.Value renaming int→J,slice→U,bool→Ap,tuple→AD,ownBlock→Bp,agg→AA,pointer→Bi
open Option renaming some→I,none→G
open Go.IntKind renaming i64→Z,u32→V,u64→AM,u8→AC,wrap_u64→Dk,wrap_u32→DH
open Bool renaming false→Aa,true→Af,false_ne_true→Da,false_and→D7
open Go renaming World→Ac,Value→As,Calls→At,bodyPost_ret→Bf,TypeId→AK,wp_region_held_drew→BY,info_parts→BH,Ending→AT,madeCells→Cb,maxLen→Br,Program→BW,undef→Bt,wpList→BL,bits→Bb,run_underlying→CX
open List renaming getD_eq_getElem?_getD→AN,getElem?_eq_getElem→Bj,length_append→BJ,append_assoc→BM,mem_map→Bo,getElem?_take_of_lt→Cw,replicate→BK,range→Bm,getElem?_append_right→CB,getElem_mem→BU,mem_append→BZ,getElem?_append_left→CO,getElem?_map→C7,cons_append→CC,mem_filter→C8,length_pos_iff→CP,length_cons→CK,mem_cons→Cy,getLastD_eq_getLast?→Dg,nil_append→CI,getElem?_eq_none→De,dropLast_concat→Do,mem_singleton→Dv,map_append→Df,length_map→Di,getElem_of_mem→DD,length_nil→Dp,concat_eq_append→DI,getElem?_range→DL,range_succ→DB,getElem?_replicate→DW,singleton_append→DV,map_cons→D6,map_map→D8,setIfInBounds_toArray→Eb
open Go.Ending renaming returned→Ax
open And renaming intro→A9
open Nat renaming le_refl→AE,lt_of_lt_of_le→AW,le_trans→AS,zero_le→AU,zero_add→Bn,eq_zero_or_pos→Dm,reduceEqDiff→Dq
open Or renaming inl→Ag,inr→Ah
open Go.Proofs.Tryz renaming underlying41→AP,underlying31→CF,underlying22→CV,underlying215→Dl,underlying26→DN
open Go.RowKit renaming intOf→AJ
open Int renaming eq_ofNat_of_zero_le→CM,toNat_natCast→C4,emod_eq_of_lt→CZ
open Go.Builtin renaming zeroCells→CG,delete_→Eh
open Array renaming getElem?_toList→CN,getElem?_eq_some_iff→DX
open Go.Region renaming wanted→CA
open Go.Result renaming andThen→CT
open Option.some renaming inj→Ds
open Go.MapKept renaming run_getObj_map→DJ,run_setObj_map→Ef
open Go.Instr renaming makeSlice→Dj,mapUpdate→DK
open Go.IntWalk renaming i64_in→Du
open Go.Lit renaming int→C9
open Go.Sem renaming run_bind→D5
set_option linter.all false
set_option maxHeartbeats 40000000
set_option maxRecDepth 1000000
open Go Go.RowKit
namespace Go.Proofs.YtpmlgdopfafcgaaGreatDoor
namespace Hh
open Gs Tr Em Hc
structure HoneOk(s:Mh)(m:Nat):Prop where
 l:(hone s).s.l=s.l
 go:(hone s).why=0→hrun s.l (m+1) s.at_ ⟨s.g,s.m⟩=hrun s.l m (hone s).s.at_ ⟨(hone s).s.g,(hone s).s.m⟩
 ex:(hone s).why=1→hrun s.l (m+1) s.at_ ⟨s.g,s.m⟩=⟨1,(at_ s.l s.at_.toNat).imm,⟨s.g,s.m⟩⟩∧0≤s.at_∧s.at_<s.l.length
 no:(hone s).why≠0→(hone s).why≠1→hrun s.l (m+1) s.at_ ⟨s.g,s.m⟩=⟨(hone s).why,0,⟨s.g,s.m⟩⟩
 same:(hone s).why≠0→(hone s).s=s
 bd:0≤(hone s).why∧(hone s).why≤5
theorem hone_ok(s:Mh)(m:Nat)(ho:HAll s.l):HoneOk s m:=by
 have key: ∀x:Nat,s.l.getD x ⟨0,0,0,0,0⟩=at_ s.l x:=λ_=>rfl;by_cases hc:s.at_<0∨(s.l.length:Int)≤s.at_
 ·have e:hone s=⟨2,s⟩:=by unfold hone;rw[An hc]
  have e2:hrun s.l (m+1) s.at_ ⟨s.g,s.m⟩=⟨2,0,⟨s.g,s.m⟩⟩:=by rw[hrun,An hc]
  constructor<;>rw[e]
  ·intro h;exact absurd h (by show ¬(2:Int)=0;omega)
  ·intro h;exact absurd h (by show ¬(2:Int)=1;omega)
  ·intro _ _;exact e2
  ·exact λ_=>rfl
  ·exact⟨by show(0:Int)≤2;omega,by show(2:Int)≤5;omega⟩
 ·have e:hone s=hoV s s.at_ (at_ s.l s.at_.toNat):=by unfold hone;rw[Ae hc]
  have hop:=hok_op (ho _ (at_mem (l:=s.l) (k:=s.at_.toNat) O));have e2: ∀r,hrun s.l (m+1) s.at_ ⟨s.g,s.m⟩=r↔(let i:=at_ s.l s.at_.toNat
   if i.op=16 then hrun s.l m (if s.g i.ra=0 then i.imm else s.at_+1) ⟨s.g,s.m⟩
   else if i.op=17 then hrun s.l m (if s.g i.ra=0 then s.at_+1 else i.imm) ⟨s.g,s.m⟩
   else if i.op=18 then hrun s.l m i.imm ⟨s.g,s.m⟩
   else if i.op=19 then⟨1,i.imm,⟨s.g,s.m⟩⟩
   else match hstep i ⟨s.g,s.m⟩ with
    |none=>⟨4,0,⟨s.g,s.m⟩⟩
    |some s'=>hrun s.l m (s.at_+1) s')=r:=λr=>by
   rw[hrun,Ae hc,key]
   exact Iff.rfl
  obtain⟨i,hi⟩:=Az (at_ s.l s.at_.toNat);rw[hi] at e hop;simp only[hi] at e2;have zero: ∀t:Mh,hoV s s.at_ i=⟨0,t⟩→t.l=s.l→hrun s.l (m+1) s.at_ ⟨s.g,s.m⟩=hrun s.l m t.at_ ⟨t.g,t.m⟩→HoneOk s m:=λt h1 h2 h3=>by
   constructor<;>rw[e,h1]
   ·exact h2
   ·exact λ_=>h3
   ·intro h;exact absurd h (by show ¬(0:Int)=1;omega)
   ·intro h;exact absurd rfl h
   ·intro h;exact absurd rfl h
   ·exact⟨EZ,by show(0:Int)≤5;omega⟩
  by_cases h16:i.op=16;·refine zero (setA s (if s.g i.ra=0 then i.imm else s.at_+1)) (by unfold hoV;rw[An h16]) rfl ((e2 _).2 ?_);rw[An h16];rfl
  by_cases h17:i.op=17;·refine zero (setA s (if s.g i.ra=0 then s.at_+1 else i.imm)) (by unfold hoV;rw[Ae h16,An h17]) rfl ((e2 _).2 ?_);rw[Ae h16,An h17];rfl
  by_cases h18:i.op=18;·omega
  by_cases h19:i.op=19
  ·have hv:hoV s s.at_ i=⟨1,s⟩:=by unfold hoV;rw[Ae h16,Ae h17,Ae h18,An h19]
   constructor<;>rw[e,hv]
   ·intro h;exact absurd h (by show ¬(1:Int)=0;omega)
   ·intro _;refine⟨(e2 _).2 ?_,O,O⟩;rw[Ae h16,Ae h17,Ae h18,An h19,hi]
   ·intro _ h;exact absurd rfl h
   ·exact λ_=>rfl
   ·exact⟨by show(0:Int)≤1;omega,by show(1:Int)≤5;omega⟩
  cases hs:hstep i ⟨s.g,s.m⟩ with
  |none=>
   have hv:hoV s s.at_ i=⟨4,s⟩:=Pk;constructor<;>rw[e,hv]
   ·intro h;exact absurd h (by show ¬(4:Int)=0;omega)
   ·intro h;exact absurd h (by show ¬(4:Int)=1;omega)
   ·intro _ _;refine(e2 _).2 ?_;exact Po
   ·exact λ_=>rfl
   ·exact⟨by show(0:Int)≤4;omega,by show(4:Int)≤5;omega⟩
  |some t=>
   refine zero ⟨t.g,t.m,s.at_+1,s.l⟩ Pk rfl ((e2 _).2 ?_);exact Po
def RunPost(w:Ac)(p:Mp)(s:Mh)(e:AT)(w':Ac):Prop:=
 ∃(why imm n:Int) (s':Mh),e=Ax (AD #[J Z why,J V imm,J Z n])∧Mk w' p s'∧Fr p.its w w'∧hrun s.l 4096 s.at_ ⟨s.g,s.m⟩=⟨why,imm,⟨s'.g,s'.m⟩⟩∧(0≤why∧why≤5)∧U32 imm
theorem run_any(w:Ac)(p:Mp)(s:Mh)(h:Mk w p s)(hl:s.l.length≤10000)(ho:HAll s.l):At Tryz.prog 114 #[↑p.gm,J Z 4096] w (RunPost w p s):=by
 have H:=T h;have HO:=T ho;have HLL:=T hl;clear h ho hl;go_in;go_wp2_with fail;go_loopw [7] (λi wr=> ∃(k:Nat) (t:Mh),k≤4096∧i=J Z k∧Hid (Mk wr p t)∧Hid (Fr p.its w wr)∧Hid (t.l=s.l)∧Hid (hrun s.l 4096 s.at_ ⟨s.g,s.m⟩=hrun s.l (4096 -k) t.at_ ⟨t.g,t.m⟩)) (λi _=>4096 -(AJ i).toNat)
 case atStart=>exact⟨0,s,O,rfl,H,T (Ao _ _),T rfl,T rfl⟩
 case round=>
  obtain⟨k,t,hk,rfl,hM,hF,hT,hR⟩:=hrel;by_cases hlt:k<4096
  ·have HOK:=T (hone_ok t (4096 -k -1) (by rw[hT.out];exact HO.out));have Hs:=T (step_any wr p t hM.out (by rw[hT.out];exact HLL.out) (by rw[hT.out];exact HO.out));obtain⟨o,hov⟩:=Az (hone t);have HOV:=T hov;rw[hov] at Hs;clear hov;have hbd:0≤o.why∧o.why≤5:=by rw[←HOV.out];exact HOK.out.bd
   obtain⟨bd0,bd1⟩:=hbd;obtain⟨why,t'⟩:=o;dsimp only at bd0 bd1;rcases(show why=0∨why=1∨(¬why=0∧ ¬why=1) by omega) with rfl|rfl|⟨z0,z1⟩
   ·go_wp2_with fail;refine Ay Hs ?_;rintro e w1 ⟨rfl,hM1,f1⟩;have HX:=T (A9 hM1 (hF.out.tr f1));clear hM1 f1
    go_wp2
    go_roundw;case rel=>
     have hg:=HOK.out.go (by rw[HOV.out]);have hll:=HOK.out.l;rw[HOV.out] at hg hll;refine⟨k+1,t',O,AX,T HX.out.1,T HX.out.2,T (hll.trans hT.out),T ?_⟩;rw[hR.out];have e1:=JP;have e2:4096 -(k+1)=4096 -k -1:=O;rw[e1,e2,←hT.out];simpa using hg
    case measure=>simp[AJ];omega
   ·have hx:=HOK.out.ex (by rw[HOV.out]);have hsame:=HOK.out.same (by rw[HOV.out];exact(by show ¬(1:Int)=0;omega));rw[HOV.out] at hsame;obtain rfl:t'=t:=hsame;obtain⟨hx1,hx2,hx3⟩:=hx;obtain⟨q,hq⟩: ∃q:Nat,t'.at_=q:=⟨t'.at_.toNat,O⟩;have hq2:q<t'.l.length:=O;obtain⟨im,him⟩:=Az ((at_ t'.l t'.at_.toNat).imm);have himb:U32 im:=by
     rw[←him];have:=(HO.out _ (by rw[←hT.out];exact at_mem (l:=t'.l) (k:=t'.at_.toNat) (by omega))).imm;exact this
    have HX1:=T (A9 hx1 (A9 hq (A9 him (A9 hq2 himb))));clear hx1 hx2 hx3 him hq hq2 himb;go_wp2_with fail;refine Ay Hs ?_;rintro e w1 ⟨rfl,hM1,f1⟩;have c17:=hM1.c17;have c18:=hM1.c18;obtain⟨b,off,hA',hb,d0,d1,d2,d3,d4⟩:=(At5.of hM1.code) q HX1.out.2.2.2.1;have e4:(at_ t'.l q).imm=im:=by rw[←HX1.out.2.2.1,HX1.out.2.1,C4]
    rw[e4] at d4;rw[hA'] at c17;rw[HX1.out.2.1] at c18;have hqn:=HX1.out.2.2.2.1;obtain⟨nn,hnn⟩:=Az t'.l.length;rw[hnn] at c17 hqn;have i0:=HX1.out.2.2.2.2.1;have i1:=HX1.out.2.2.2.2.2;have hn4:nn≤10000:=by rw[←hnn,hT.out];exact HLL.out
    have HX:=T (A9 hM1 (hF.out.tr f1));clear hM1 f1 e4 hA' d0 d1 d2 d3 hnn;go_wp2_with fail;go_quiet (fail)
    go_wp2
    go_ret3;refine⟨1,im,k,t',rfl,HX.out.1.fr0 ((Ao _ _).drewN _),HX.out.2.drewN _, ?_,⟨O,O⟩,HX1.out.2.2.2.2⟩;rw[hR.out];have e1:=JP;rw[e1,←hT.out];have:=HX1.out.1;rw[HX1.out.2.2.1] at this;exact this
   ·have hx:=HOK.out.no (by rw[HOV.out];exact z0) (by rw[HOV.out];exact z1);have hsame:=HOK.out.same (by rw[HOV.out];exact z0);rw[HOV.out] at hsame hx;obtain rfl:t'=t:=hsame;have g0:(why==0)=Aa:=by simpa using z0
    have g1:(why==1)=Aa:=by simpa using z1
    have HX1:=T hx;clear hx z0 z1;go_wp2_with fail;refine Ay Hs ?_;rintro e w1 ⟨rfl,hM1,f1⟩;have HX:=T (A9 hM1 (hF.out.tr f1));clear hM1 f1
    go_wp2
    go_ret3;refine⟨why,0,k,t',rfl,HX.out.1,HX.out.2, ?_,⟨bd0,bd1⟩,⟨O,O⟩⟩;rw[hR.out];have e1:=JP;rw[e1,←hT.out];exact HX1.out
  ·obtain rfl:k=4096:=O;clear hlt
   go_wp2
   go_ret3;refine⟨5,0,4096,t,rfl,hM.out,hF.out, ?_,⟨O,O⟩,⟨O,O⟩⟩;rw[hR.out];rfl
end Hh
namespace Er
open Gs Sv Tr Em Hc Hh
def layM(s:Mh)(f:Nat)(zs:List Int)(k:Nat):Mh:={s with m:=λj=>if f≤j∧j<f+k then zs.getD (j -f) 0 else s.m j}
theorem Vf(s:Mh)(f:Nat)(zs:List Int):layM s f zs 0=s:=by
 unfold layM;have:(λj=>if f≤j∧j<f+0 then zs.getD (j -f) 0 else s.m j)=s.m:=by
  funext j;exact GF
 rw[this]
theorem Pp(s:Mh)(f:Nat)(zs:List Int)(k:Nat):setM (layM s f zs k) (f+k) (zs.getD k 0)=layM s f zs (k+1):=by
 unfold layM setM;congr 1;funext j;unfold upZ;by_cases e:j=f+k;·rw[An e,An O];congr 1;omega
 ·rw[Ae e];dsimp only;by_cases e2:f≤j∧j<f+k;·rw[An e2,An O]
  ·rw[Ae e2,Ae O]
def Wd(w:Ac)(p:Mp)(v:As)(zs:List Int):Prop:= ∃A c,v=U A zs.length c∧zs.length≤c∧(∀z∈zs,U32 z)∧ ∀i,i<zs.length→ ∃b off,A=I ⟨b,off,G⟩∧ ¬p.its b∧b<w.heap.size∧w.cell? ⟨b,off+i,G⟩=I (J V (zs.getD i 0))
variable{w:Ac}
theorem Wd.fr{w':Ac}{p:Mp}{v:As}{zs:List Int}(h:Wd w p v zs)(f:Fr p.its w w'):Wd w' p v zs:=by
 obtain⟨A,c,e,hc,hb,hr⟩:=h;refine⟨A,c,e,hc,hb,λi hi=>?_⟩;obtain⟨b,off,e1,hn,hl,hcell⟩:=hr i hi;exact⟨b,off,e1,hn,AW hl f.size,f.cell hcell hl hn⟩
theorem Wd.of{p:Mp}{base n c:Nat}{A:Aw}{zs:List Int}(h:Rw w base (U A n c) zs)(hn: ∀k,Em.ab A=I k→ ¬p.its k)(hb: ∀z∈zs,U32 z):Wd w p (U A n c) zs:=by
 obtain⟨rfl,hr,_⟩:=h.reads;have hc:=Rn.Rw.cap h;refine⟨A,c,rfl,hc.1,hb,λi hi=>?_⟩;obtain⟨ad,u,e,hbl,hu,hcell⟩:=hr.at_ (k:=i) hi;rcases h.none_ with⟨_,_,_,e2⟩|⟨g,e2⟩;·rw[e2] at hi;simp at hi
 ·rw[e2] at e;injection e with e;subst e;refine⟨g,0,e2,hn g (by rw[e2];rfl),hbl, ?_⟩;have e3:(⟨g,0,G⟩:Addr).add i=⟨g,0+i,G⟩:=by
   unfold Addr.add;split;·rename_i h0;rw[h0]
   ·rfl
  rw[e3] at hcell;rw[hcell,←hu];simp[AN];rw[Bj hi];rfl
theorem lay_any(w:Ac)(p:Mp)(s:Mh)(h:Mk w p s)(f:Nat)(hf:f≤20)(v:As)(zs:List Int)(hv:Wd w p v zs)(hl:zs.length≤16):At Tryz.prog 148 #[↑p.gm,J Z f,v] w λe w'=>e=Ax (AD #[])∧Mk w' p (layM s f zs 16)∧Fr p.its w w':=by
 have HV:=T hv;obtain⟨A,c,rfl,hc,hb,hr⟩:=hv;have H:=T h;have HB:=T hb;obtain⟨n,hn⟩:=Az zs.length;have HN:=T hn;rw[hn] at hc hl⊢;clear h hr hb hn;go_in;go_wp2_with fail;go_loopw [8] (λi wr=> ∃k:Nat,k≤16∧i=J Z k∧Hid (Mk wr p (layM s f zs k))∧Hid (Fr p.its w wr)) (λi _=>16 -(AJ i).toNat)
 case atStart=>exact⟨0,O,rfl,T (by rw[Vf];exact H.out),T (Ao _ _)⟩
 case round=>
  obtain⟨k,hk,rfl,hM,hF⟩:=hrel;by_cases hlt:k<16
  ·have hsum:(f:Int)+k=((f+k:Nat):Int):=O;by_cases hkn:k<n;·obtain⟨A',c',e',_,_,hr⟩:=(HV.out.fr hF.out);injection e' with e1 e2 e3;subst e1 e3;obtain⟨b,off,rfl,hnb,hbl,hcell⟩:=hr k (by rw[HN.out];exact hkn);have hu:=HB.out (zs.getD k 0) (by rw[AN,Bj (by rw[HN.out];exact hkn)];exact BU _);have g1:decide (k<n)=Af:=JQ;have g2:decide ((k:Int)<(n:Int))=Af:=JQ;have Hs:=T (EJ wr p _ hM.out (f+k) O (zs.getD k 0) hu);have hls:=T (Pp s f zs k);obtain⟨x,hx⟩:=Az (zs.getD k 0);rw[hx] at hcell Hs hls hu;rw[←hsum] at Hs;have u0:=hu.1;have u1:=hu.2;clear hr hx hsum e2;exact Ps
   ·have g1:decide (k<n)=Aa:=JQ;have g2:decide ((k:Int)<(n:Int))=Aa:=A8;have e0:zs.getD k 0=0:=by rw[AN,De (by rw[HN.out];omega)];rfl
    have Hs:=T (EJ wr p _ hM.out (f+k) O 0 ⟨O,O⟩);have hls:=T (Pp s f zs k);rw[e0] at hls;rw[←hsum] at Hs;clear hsum e0;exact Ps
  ·obtain rfl:k=16:=O;clear hlt
   go_wp2
   go_end0;exact⟨rfl,hM.out,hF.out⟩
theorem wpL_ldg{P:BW}{g:Nat}{ty:AK}{cs:AL}{d:TypeDesc}{n:Nat}(h:Blk w g ty cs)(hu:P.underlying ty=I d)(hi:(P.info? ty).map (·.size)=I n)(hd:d.isRow=Af)(hn:cs.size=n){ops:Array Oper}{rest:List Oper}{a:Act}{Q:Exit→Act→Ac→Prop}{dst:Option Tmp}{t2:AK}{pos:String}{af:Array Edge}{x:Operand}{gd:Option (Nat×Bool)}(hw:CA ⟨dst,.load ty x,t2,pos,af,gd⟩ (yielded ops a.tmps)=Af)(hx:a.eval x=↑g)(hk:BL P ops Q rest (a.put dst (AA cs)) w):BL P ops Q (⟨dst,.load ty x,t2,pos,af,gd⟩::rest) a w:=by
 refine wpList_step λK hK=>?_;rw[An hw];refine wp_load_mid ty x rfl g 0 hx cs.toList d (ID h) hu hd GA ?_;have:=hK _ _ hk;simpa using this
theorem Vg(s:Mh)(S:St)(hm: ∀j,s.m j=0)(hd:S.d.length≤16)(hr:S.r.length≤16): ∀j,j<64→(setM (layM (layM (setM (setM (setM (setM s 0 S.pc) 1 S.fl) 2 S.d.length) 3 S.r.length) 4 S.d 16) 20 S.r 16) 36 0).m j=putW S j:=by
 intro j hj;show upZ (λj=>if 20≤j∧j<20+16 then S.r.getD (j -20) 0 else(if 4≤j∧j<4+16 then S.d.getD (j -4) 0 else upZ (upZ (upZ (upZ s.m 0 S.pc) 1 S.fl) 2 S.d.length) 3 S.r.length j)) 36 0 j=putW S j;unfold upZ putW;dsimp only;by_cases h36:j=36;·subst h36;rfl
 rw[Ae h36];by_cases h0:j=0;·subst h0;rfl
 by_cases h1:j=1;·subst h1;rfl
 by_cases h2:j=2;·subst h2;rfl
 by_cases h3:j=3;·subst h3;rfl
 rw[Ae h0,Ae h1,Ae h2,Ae h3,Ae h3,Ae h2,Ae h1,Ae h0];by_cases h20:j<20;·rw[Ae O,An O,An h20]
 ·rw[Ae h20];by_cases h35:j<36;·rw[An O,An h35]
  ·rw[Ae O,Ae O,Ae h35,hm]
theorem put_any(w:Ac)(p:Mp)(s:Mh)(h:Mk w p s)(hm: ∀j,s.m j=0)(S:St)(A B:Aw)(c d:Nat)(hS:StV w 0 S (U A S.d.length c) (U B S.r.length d))(hk:Gm.Rk S)(hA: ∀k,Em.ab A=I k∨Em.ab B=I k→ ¬p.its k):At Tryz.prog 112 #[↑p.gm,AA (stc S (U A S.d.length c) (U B S.r.length d))] w λe w'=> ∃t,e=Ax (.bool Af)∧Mk w' p t∧t.g=s.g∧t.at_=s.at_∧t.l=s.l∧(∀j,j<64→t.m j=putW S j)∧Fr p.its w w':=by
 have f0:Fr Aj w (w.alloc (.cells (stc S (U A S.d.length c) (U B S.r.length d)) 41)):=(Ao _ w).alloc _;have b0:=AH w 41 (stc S (U A S.d.length c) (U B S.r.length d));have hwd:Hid (Wd (w.alloc (.cells (stc S (U A S.d.length c) (U B S.r.length d)) 41)) p (U A S.d.length c) S.d):=T (Wd.of (hS.d.fr f0 (λ_ _ e=>e)) (λk e=>hA k (.inl e)) (λz hz=>hk.1.d z hz));have hwr:Hid (Wd (w.alloc (.cells (stc S (U A S.d.length c) (U B S.r.length d)) 41)) p (U B S.r.length d) S.r):=T (Wd.of (hS.r.fr f0 (λ_ _ e=>e)) (λk e=>hA k (.inr e)) (λz hz=>hk.1.r z hz));have HW:=T (Vg s S hm hk.2.1 hk.2.2.1);have Hr:=T (λW=>Sv.right_any W S A B c d);have hright:=hk.right;rw[hright] at Hr;have H:=T (h.fr0 f0);have Hw:=T (JM _ p s (h.fr0 f0));have hlt:=h.lt;have HNB:Hid (¬p.its ↑w):=T (λe=>EG);have F0:=T f0;have k1:=hk.1.pc;have k2:=hk.1.fl;have k3:=hk.2.1;have k4:=hk.2.2.1;have B0:=T b0;have HP0:=T k1;have HFL:=T k2;have hdl:IntKind.u32.wrap (S.d.length:Int)=S.d.length:=CU;have hrl:IntKind.u32.wrap (S.r.length:Int)=S.r.length:=CU;clear h f0 hS hk hA hright hm hlt;go_in;go_wp2_with fail;refine Ay Hw ?_;rintro e w1 ⟨rfl,rfl⟩;go_wp2_with ((with_reducible refine wpL_ldg b0 AP sz16 ?q1 ?q2 ?q4 ?q3 ?_);(case q1=>rfl);(case q2=>rfl);(case q4=>rfl);(case q3=>rfl));refine(Hr.out _).mono ?_;rintro e w2 ⟨rfl,f2⟩;have M0:=T (H.out.fr0 f2);have F0:Hid (Fr p.its w w2):=T ((F0.out.tr f2).mono (λ_ _ e=>e.elim));have bb:=B0.out.fr f2 id;have B0:=T bb;have x0:=bb.cell 0;have x1:=bb.cell 1;have x2:=bb.cell 2;have x3:=bb.cell 3;have hlb:=bb.lt;have WD:=T (hwd.out.fr (f2.mono (λ_ _ e=>e.elim)));have WR:=T (hwr.out.fr (f2.mono (λ_ _ e=>e.elim)));clear f2 bb b0 hwd hwr H Hw Hr;have G0:=T (Ao p.its w2);go_wp2_with fail;refine(EJ _ p _ M0.out 0 O S.pc HP0.out).mono ?_;rintro e w3 ⟨rfl,m1,f1⟩;have M1:=T m1;have G1:=T (G0.out.tr f1);have bb:=B0.out.fr f1 HNB.out;have B1:=T bb;have x0:=bb.cell 0;have x1:=bb.cell 1;have x2:=bb.cell 2;have x3:=bb.cell 3;have hlb:=bb.lt;clear m1 f1 bb;go_wp2_with fail;refine(EJ _ p _ M1.out 1 O S.fl HFL.out).mono ?_;rintro e w4 ⟨rfl,m2,f2⟩;have M2:=T m2;have G2:=T (G1.out.tr f2);have bb:=B1.out.fr f2 HNB.out;have B2:=T bb;have x0:=bb.cell 0;have x1:=bb.cell 1;have x2:=bb.cell 2;have x3:=bb.cell 3;have hlb:=bb.lt;clear m2 f2 bb;go_wp2_with fail;refine(EJ _ p _ M2.out 2 O _ ⟨O,O⟩).mono ?_;rintro e w5 ⟨rfl,m3,f3⟩;have M3:=T m3;have G3:=T (G2.out.tr f3);have bb:=B2.out.fr f3 HNB.out;have B3:=T bb;have x0:=bb.cell 0;have x1:=bb.cell 1;have x2:=bb.cell 2;have x3:=bb.cell 3;have hlb:=bb.lt;clear m3 f3 bb;go_wp2_with fail;refine(EJ _ p _ M3.out 3 O _ ⟨O,O⟩).mono ?_;rintro e w6 ⟨rfl,m4,f4⟩;have M4:=T m4;have G4:=T (G3.out.tr f4);have bb:=B3.out.fr f4 HNB.out;have B4:=T bb;have x0:=bb.cell 0;have x1:=bb.cell 1;have x2:=bb.cell 2;have x3:=bb.cell 3;have hlb:=bb.lt;clear m4 f4 bb;go_wp2_with fail;refine(lay_any _ p _ M4.out 4 O _ S.d (WD.out.fr G4.out) k3).mono ?_;rintro e w7 ⟨rfl,m5,f5⟩;have M5:=T m5;have G5:=T (G4.out.tr f5);have bb:=B4.out.fr f5 HNB.out;have B5:=T bb;have x0:=bb.cell 0;have x1:=bb.cell 1;have x2:=bb.cell 2;have x3:=bb.cell 3;have hlb:=bb.lt;clear m5 f5 bb;go_wp2_with fail;refine(lay_any _ p _ M5.out 20 O _ S.r (WR.out.fr G5.out) k4).mono ?_;rintro e w8 ⟨rfl,m6,f6⟩;have M6:=T m6;have G6:=T (G5.out.tr f6);have bb:=B5.out.fr f6 HNB.out;have B6:=T bb;have x0:=bb.cell 0;have x1:=bb.cell 1;have x2:=bb.cell 2;have x3:=bb.cell 3;have hlb:=bb.lt;clear m6 f6 bb;go_wp2_with fail;refine(EJ _ p _ M6.out 36 O 0 ⟨O,O⟩).mono ?_;rintro e w9 ⟨rfl,m7,f7⟩;have M7:=T m7;have G7:=T (G6.out.tr f7);have bb:=B6.out.fr f7 HNB.out;have B7:=T bb;have x0:=bb.cell 0;have x1:=bb.cell 1;have x2:=bb.cell 2;have x3:=bb.cell 3;have hlb:=bb.lt;clear m7 f7 bb
 go_wp2
 go_ret;exact⟨_,rfl,M7.out,rfl,rfl,rfl,HW.out,F0.out.tr G7.out⟩
end Er
namespace Er
open Gs Sv Tr Em Hc Hh
def takeW(m:Nat→Int)(f n:Nat):List Int:=(Bm n).map λj=>m (f+j)
theorem Vh(m:Nat→Int)(f n:Nat):(takeW m f n).length=n:=by simp[takeW]
theorem Vi(m:Nat→Int)(f n:Nat):takeW m f (n+1)=takeW m f n++[m (f+n)]:=by
 unfold takeW;rw[DB,Df];rfl
theorem Vj(w:Ac)(p:Mp)(s:Mh)(h:Mk w p s)(f n:Nat)(hf:f≤20)(hn:n≤16):At Tryz.prog 152 #[↑p.gm,J Z f,J V n] w (Gv w (takeW s.m f n)):=by
 obtain⟨i0,hi0,hz0,hz1,hz2⟩:=BH Sv.info32;have H:=T h;clear h;go_in;go_wp2_with fail;go_loopw [7,11] (λv i wr=> ∃(k:Nat) (A:Aw) (c:Nat),k≤n∧i=J Z k∧v=U A k c∧Hid (wr.ownsRow ↑w 24 1 (U A k c) k ((takeW s.m f k).map (J V)))∧Hid (Fr Aj w wr)) (λ_ i _=>n -(AJ i).toNat)
 case atStart=>exact⟨0,G,0,O,rfl,rfl,T ⟨rfl,Ag ⟨rfl,rfl⟩⟩,T (Ao _ _)⟩
 case round=>
  obtain⟨k,A,c,hk,rfl,rfl,hR,hF⟩:=hrel;by_cases hlt:k<n
  ·have hsum:(f:Int)+k=((f+k:Nat):Int):=O;have Hw:=T (word_any wr p s (H.out.fr0 hF.out) (f+k) O);rw[←hsum] at Hw;have Hsn:=T (Vi s.m f k);have hub:=H.out.mb (f+k);obtain⟨x,hx⟩:=Az (s.m (f+k));rw[hx] at Hw Hsn hub;have u0:=hub.1;have u1:=hub.2;have ho2:=T (CH hR.out (.cells #[J V x] 24));have hrd2:Hid (Reads (wr.alloc (.cells #[J V x] 24)) (↑wr+1) 1 (I ⟨↑wr,0,G⟩) 1 [J V x]):=T (Cn (AH wr 24 #[J V x]) rfl);have hwz:=hF.out.size;clear hsum hx hub;go_wp2_with fail;refine Ay Hw ?_;rintro e w1 ⟨rfl,rfl⟩;go_wp2_with
    (at_builtin
     refine Ce _ rfl (.tmp 14) (.tmp 20) _ rfl w.heap.size 24 i0 _ 1 4 Tryz.underlying38 hi0 hz0 hz1 hz2 rfl O (U A k c) k ((takeW s.m f k).map (J V)) rfl ho2.out (wr.heap.size+1) (I ⟨wr.heap.size,0,G⟩) 1 1 [J V x] rfl hrd2.out CL Bu O A8 ?_
     intro v1 w3 hown1 hg1 hat1
     obtain⟨A1,c1,rfl⟩:=own_form hown1
     have HX:=T (A9 hown1 ((hF.out.alloc _).grown hg1 (λq hq=> Ah (own_base hR.out q hq))))
     clear hown1 hg1 hat1)
   go_roundw;case rel=>
    refine⟨k+1,A1,c1,O,AX,rfl,T ?_,T HX.out.2⟩;rw[Hsn.out,Df];exact HX.out.1
   case measure=>simp[AJ];omega
  ·obtain rfl:k=n:=O;clear hlt
   go_wp2
   go_ret;have e:=Vh s.m f k;refine⟨A,c,EE, ?_,hF.out⟩;unfold Rw;rw[e];exact hR.out
def getS(S:St)(m:Nat→Int):St:={S with pc:=m 0,fl:=m 1,d:=takeW m 4 (m 2).toNat,r:=takeW m 20 (m 3).toNat,ct:=(S.ct+m 36)%18446744073709551616}
def GoodM(m:Nat→Int):Prop:=m 2≤16∧m 3≤16∧m 1≤15
def GetPost(w:Ac)(S:St)(b:Bool)(e:AT)(w':Ac):Prop:=
 ∃A c B d,e=Ax (AD #[AA (stc S (U A S.d.length c) (U B S.r.length d)),Ap b])∧StV w' ↑w S (U A S.d.length c) (U B S.r.length d)∧(∀k,Em.ab A=I k→Em.ab B≠I k)∧Fr Aj w w'
theorem getS_ok{S:St}(h:S.Ok)(m:Nat→Int)(hm: ∀j,U32 (m j)):(getS S m).Ok:=by
 refine⟨hm 0,⟨(hm 1).1,(hm 1).2⟩,h.rt,h.ve,h.ep,h.ca,h.ad, ?_, ?_, ?_⟩;·show 0≤(S.ct+m 36)%18446744073709551616∧(S.ct+m 36)%18446744073709551616≤18446744073709551615;omega
 ·exact Pt
 ·exact Pt
theorem taken_i(w:Ac)(p:Mp)(s:Mh)(h:Mk w p s)(f:Nat)(x:Int)(hf:f≤20)(x0:0≤x)(hx:x≤16):At Tryz.prog 152 #[↑p.gm,J Z f,J V x] w (Gv w (takeW s.m f x.toNat)):=by
 obtain⟨n,rfl⟩: ∃n:Nat,x=n:=⟨x.toNat,O⟩;rw[C4];exact Vj w p s h f n hf O
theorem get_good(w:Ac)(p:Mp)(s:Mh)(h:Mk w p s)(S:St)(A B:Aw)(c d:Nat)(hS:StV w 0 S (U A S.d.length c) (U B S.r.length d))(hl:S.d.length≤16∧S.r.length≤16)(hg:GoodM s.m):At Tryz.prog 115 #[↑p.gm,AA (stc S (U A S.d.length c) (U B S.r.length d))] w (GetPost w (getS S s.m) Af):=by
 obtain⟨b1,b2,f0⟩:=boxed2 w (stc S (U A S.d.length c) (U B S.r.length d)) z16 41 41;have H:=T (h.fr0 f0);have Hc:=T (λW (f:Fr Aj ((w.alloc (.cells (stc S (U A S.d.length c) (U B S.r.length d)) 41)).alloc (.cells z16 41)) W)=>copy_any W 0 S _ _ ((hS.fr0 f0).fr0 f) O O);have HOK:=T (getS_ok hS.ok s.m h.mb);have B2:=T b2;have F0:=T f0;have o1:=one16 S (U G 0 0) (U G 0 0) rfl rfl;have hlt:=h.lt;have HLT:=T hlt;have HC:=Pu;have gg2:decide (s.m 2>16)=Aa:=by simp;exact hg.1
 have gg3:decide (s.m 3>16)=Aa:=by simp;exact hg.2.1
 have gg1:decide (s.m 1>15)=Aa:=by simp;exact hg.2.2
 have hct:0≤S.ct∧S.ct≤18446744073709551615:=hS.ok.ct;obtain⟨g2,g3,g1⟩:=hg;have mb:=h.mb;have mb0:=mb 0;have mb1:=mb 1;have mb2:=mb 2;have mb3:=mb 3;have mb36:=mb 36;clear h hS f0 b2 o1 mb hlt;go_in;go_wp2_with ((with_reducible refine wpL_lq b1 AP sz16 ?_));refine(Hc.out _ (Ao _ _)).mono ?_;rintro e w1 ⟨A1,c1,B1,d1,rfl,h1,ne1,f1⟩;have b1:=b1.fr f1 id;have B2:=T (B2.out.fr f1 id);have M1:=T (H.out.fr0 f1);have F1:=T (F0.out.tr f1);have o1:=one16 S (U A1 S.d.length c1) (U B1 S.r.length d1) rfl rfl;have HX1:=T (A9 h1 (A9 ne1 f1));clear h1 ne1 f1;go_upto_region 2 with(((with_reducible refine wpL_sq (cs':=stc S (U A1 S.d.length c1) (U B1 S.r.length d1)) b1 sz16 o1 ?_);intro W2 b22 f2;have F2:=T f2;clear f2 b1 o1));have hne:=Pw;have NE:=T hne;have M2:=T (M1.out.fr F2.out (NE.out _ (.inl rfl)) (NE.out _ (Ah (.inl rfl))) (λk e=>NE.out k (Ah (.inr e))));have x0:=b22.cell 0;have x3:=b22.cell 3;have y0:=b22.frozen 0;have y3:=b22.frozen 3;have hl2:=b22.lt;have BB:=T b22;clear hne b22;go_wp2_with fail;refine(JM _ p s M2.out).mono ?_;rintro e w3 ⟨rfl,rfl⟩;go_wp2_with fail;refine(word_any _ p s M2.out 2 O).mono ?_;rintro e w3 ⟨rfl,rfl⟩;go_wp2_with fail;refine(word_any _ p s M2.out 3 O).mono ?_;rintro e w3 ⟨rfl,rfl⟩;go_wp2_with fail;refine(word_any _ p s M2.out 1 O).mono ?_;rintro e w3 ⟨rfl,rfl⟩;go_wp2_with fail;refine(word_any _ p s M2.out 0 O).mono ?_;rintro e w3 ⟨rfl,rfl⟩;go_wp2_with fail;refine(word_any _ p s M2.out 1 O).mono ?_;rintro e w3 ⟨rfl,rfl⟩;go_upto_region 5 with(fail);have b3:Blk ((W2.setCell ⟨↑w,0,G⟩ (J V (s.m 0))).setCell ⟨↑w,3,G⟩ (J V (s.m 1))) ↑w 41 (stc {S with pc:=s.m 0,fl:=s.m 1} (U A1 S.d.length c1) (U B1 S.r.length d1)):=(BB.out.set_ 0 _).set_ 3 _;have f3:Fr (· =w.heap.size) W2 ((W2.setCell ⟨↑w,0,G⟩ (J V (s.m 0))).setCell ⟨↑w,3,G⟩ (J V (s.m 1))):=((Ao (λq=>q=w.heap.size) W2).setCell (p:=⟨↑w,0,G⟩) (.inl rfl) _).setCell (p:=⟨↑w,3,G⟩) (.inl rfl) _;obtain⟨W3,hW3⟩:=Az ((W2.setCell ⟨↑w,0,G⟩ (J V (s.m 0))).setCell ⟨↑w,3,G⟩ (J V (s.m 1)));rw[hW3] at b3 f3⊢;have M3:=T (M2.out.fr f3 (NE.out _ (.inl rfl)) (NE.out _ (Ah (.inl rfl))) (λk e=>NE.out k (Ah (.inr e))));have F3:=T (F2.out.tr f3);have B3:=T b3;clear hW3 b3 f3 x0 x3 y0 y3 hl2 BB;go_wp2_with fail;refine(word_any _ p s M3.out 2 O).mono ?_;rintro e w3 ⟨rfl,rfl⟩;go_wp2_with fail;refine(taken_i _ p s M3.out 4 (s.m 2) O mb2.1 g2).mono ?_;rintro e w4 ⟨A4,c4,rfl,r4,f4⟩;have M4:=T (M3.out.fr0 f4);have B4:=T (B3.out.fr f4 id);have F4:=T (F3.out.trans f4 (λ_ _ e=>e.elim));have R4:=T r4;have R4K:=T r4;have HZ4:=T r4.lt;have hs34:=f4.size;clear f4 r4 B3;go_wp2_with fail;refine(word_any _ p s M4.out 3 O).mono ?_;rintro e w5 ⟨rfl,rfl⟩;go_wp2_with fail;refine(taken_i _ p s M4.out 20 (s.m 3) O mb3.1 g3).mono ?_;rintro e w5 ⟨A5,c5,rfl,r5,f5⟩;have M5:=T (M4.out.fr0 f5);have b5:=B4.out.fr f5 id;have F5:=T (F4.out.trans f5 (λ_ _ e=>e.elim));have R45:=T (R4.out.fr f5 (λ_ _ e=>e));have R5:=T r5;have x1:=b5.cell 1;have x2:=b5.cell 2;have y1:=b5.frozen 1;have y2:=b5.frozen 2;have hl5:=b5.lt;have B5:=T b5;have hs45:=f5.size;clear f5 r5 b5 R4 B4;go_upto_region 6 with(fail);have b6:Blk ((w5.setCell ⟨↑w,1,G⟩ (U A4 (takeW s.m 4 (s.m 2).toNat).length c4)).setCell ⟨↑w,2,G⟩ (U A5 (takeW s.m 20 (s.m 3).toNat).length c5)) ↑w 41 (stc {S with pc:=s.m 0,fl:=s.m 1} (U A4 (takeW s.m 4 (s.m 2).toNat).length c4) (U A5 (takeW s.m 20 (s.m 3).toNat).length c5)):=(B5.out.set_ 1 _).set_ 2 _;have f6:Fr (· =w.heap.size) w5 ((w5.setCell ⟨↑w,1,G⟩ (U A4 (takeW s.m 4 (s.m 2).toNat).length c4)).setCell ⟨↑w,2,G⟩ (U A5 (takeW s.m 20 (s.m 3).toNat).length c5)):=((Ao (λq=>q=w.heap.size) w5).setCell (p:=⟨↑w,1,G⟩) (.inl rfl) _).setCell (p:=⟨↑w,2,G⟩) (.inl rfl) _;obtain⟨W6,hW6⟩:=Az ((w5.setCell ⟨↑w,1,G⟩ (U A4 (takeW s.m 4 (s.m 2).toNat).length c4)).setCell ⟨↑w,2,G⟩ (U A5 (takeW s.m 20 (s.m 3).toNat).length c5));rw[hW6] at b6 f6⊢;have M6:=T (M5.out.fr f6 (NE.out _ (.inl rfl)) (NE.out _ (Ah (.inl rfl))) (λk e=>NE.out k (Ah (.inr e))));have F6:=T (F5.out.tr f6);have H36:=T (word_any W6.drew p s (M6.out.fr0 (Ao _ _).drew) 36 O);have x14:=b6.cell 14;have y14:=b6.frozen 14;have hl6:=b6.lt;have B6:=T b6;have G6:=T f6;have hwc:IntKind.u64.wrap (S.ct+s.m 36)=(getS S s.m).ct:=JR;have hw36:IntKind.u64.wrap (s.m 36)=s.m 36:=by rw[Dk];have:=mb36.1;have:=mb36.2;omega
 have hct0:=hct.1;have hct1:=hct.2;have h360:=mb36.1;have h361:=mb36.2;clear hW6 b6 f6 x1 x2 y1 y2 hl5 hct mb0 mb1 mb2 mb3 mb36 B5
 go_region_with ((refine Ay H36 ?_;rintro e w' ⟨rfl,rfl⟩))
 all_goals
  have b7:Blk (W6.setCell ⟨↑w,14,G⟩ (J AM (getS S s.m).ct)) ↑w 41 (stc (getS S s.m) (U A4 (getS S s.m).d.length c4) (U A5 (getS S s.m).r.length c5)):=B6.out.set_ 14 _;have f7:Fr (· =w.heap.size) W6 (W6.setCell ⟨↑w,14,G⟩ (J AM (getS S s.m).ct)):=(Ao (λq=>q=w.heap.size) W6).setCell (p:=⟨↑w,14,G⟩) (.inl rfl) _;have F7:=T (F6.out.tr f7);have G7:=T (G6.out.tr f7);have o7:=one16 (getS S s.m) (U A4 (getS S s.m).d.length c4) (U A5 (getS S s.m).r.length c5) rfl rfl;obtain⟨W7,hW7⟩:=Az (W6.setCell ⟨↑w,14,G⟩ (J AM (getS S s.m).ct));rw[hW7] at b7 F7 G7⊢;have b7d:=b7.drew;have b2d:Blk W7.drew (↑w+1) 41 z16:=(B2.out.fr F7.out (λe=>O)).drew;clear hW7 f7 b7 x14 y14 hl6;go_wp2_with ((with_reducible refine wpL_lq b7d AP sz16 ?_);(with_reducible refine wpL_sq (cs':=stc (getS S s.m) (U A4 (getS S s.m).d.length c4) (U A5 (getS S s.m).r.length c5)) b2d sz16 o7 ?_);intro W8 b8 f8;have B8:=T b8;have F8:=T f8;clear b8 f8 b2d b7d o7);refine Bf (Ca.results_ct rfl _ _ (w.heap.size+1) 41 _ _ (.bool Af) rfl rfl B8.out AP rfl sz16) rfl ?_;have r4g:=R45.out.ge;have r5g:=R5.out.ge;have r4l:=R45.out.lt;have hq1:=HX1.out.2.2.size;have hq2:=F3.out.size;have hq3:=Px;have hz3:w.heap.size+2≤W3.heap.size:=O;have hz4:W3.heap.size≤w4.heap.size:=O;have nb: ∀k,W3.heap.size≤k→ ¬(k=w.heap.size)∧ ¬(k=w.heap.size+1):=λk hk=>⟨O,O⟩;have K: ∀{v zs base},Rw w5 base v zs→↑W3≤base→Rw W8 ↑w v zs:=λ{v zs base} h hb=>by
   have h1:=h.fr G7.out (λk hk=>(nb k (AS hb (h.ge k hk))).1);have h2:=(h1.fr (Ao Aj W7).drew (λ_ _ e=>e)).fr F8.out (λk hk=>(nb k (AS hb (h1.ge k hk))).2);exact h2.low O
  refine⟨A4,c4,A5,c5,rfl,⟨K R45.out (AE _),K R5.out hz4,HOK.out⟩,λk e1 e2=>?_, ?_⟩;·have q1:=r4l k (Em.ab_own R45.out e1);have q2:=r5g k (Em.ab_own R5.out e2);have q3:=HZ4.out k (Em.ab_own R4K.out e1);omega
  ·exact(((F1.out.trans F7.out (λk hk e=>O)).drew).trans F8.out (λk hk e=>O))
end Er
namespace Er
open Gs Sv Tr Em Hc Hh
theorem got_end{w W W1 W2 W8:Ac}{S:St}{A1 B1:Aw}{c1 d1:Nat}(f0:Fr Aj w W)(hs:W.heap.size=w.heap.size+2)(h:StV W1 ↑W S (U A1 S.d.length c1) (U B1 S.r.length d1))(ne: ∀k,(U A1 S.d.length c1).ownBlock=I k→(U B1 S.r.length d1).ownBlock≠I k)(f1:Fr Aj W W1)(f2:Fr (· =w.heap.size) W1 W2)(f8:Fr (· =w.heap.size+1) W2 W8):GetPost w S Aa (Ax (AD #[AA (stc S (U A1 S.d.length c1) (U B1 S.r.length d1)),Ap Aa])) W8:=by
 have K: ∀{v zs},Rw W1 ↑W v zs→Rw W8 ↑w v zs:=λ{v zs} h=>by
  have h1:=h.fr f2 (λk hk e=>by have:=h.ge k hk;omega);have h2:=h1.fr f8 (λk hk e=>by have:=h1.ge k hk;omega);exact h2.low O
 refine⟨A1,c1,B1,d1,rfl,⟨K h.d,K h.r,h.ok⟩,λk e1 e2=>ne k (Em.ab_own h.d e1) (Em.ab_own h.r e2), ?_⟩;exact(((f0.tr f1).trans f2 (λk hk e=>O)).trans f8 (λk hk e=>O))
theorem get_bad(w:Ac)(p:Mp)(s:Mh)(h:Mk w p s)(S:St)(A B:Aw)(c d:Nat)(hS:StV w 0 S (U A S.d.length c) (U B S.r.length d))(hl:S.d.length≤16∧S.r.length≤16)(hg: ¬GoodM s.m):At Tryz.prog 115 #[↑p.gm,AA (stc S (U A S.d.length c) (U B S.r.length d))] w (GetPost w S Aa):=by
 obtain⟨b1,b2,f0⟩:=boxed2 w (stc S (U A S.d.length c) (U B S.r.length d)) z16 41 41;have H:=T (h.fr0 f0);have Hc:=T (λW (f:Fr Aj ((w.alloc (.cells (stc S (U A S.d.length c) (U B S.r.length d)) 41)).alloc (.cells z16 41)) W)=>copy_any W 0 S _ _ ((hS.fr0 f0).fr0 f) O O);have HOK:=T hS.ok;have B2:=T b2;have F0:=T f0;have o1:=one16 S (U G 0 0) (U G 0 0) rfl rfl;have hlt:=h.lt;have HLT:=T hlt;have HC:=Pu;have hct:0≤S.ct∧S.ct≤18446744073709551615:=hS.ok.ct;have HG:=T hg;have mb:=h.mb;have mb0:=mb 0;have mb1:=mb 1;have mb2:=mb 2;have mb3:=mb 3;have mb36:=mb 36;clear h hS f0 b2 o1 mb hlt hg;go_in;go_wp2_with ((with_reducible refine wpL_lq b1 AP sz16 ?_));refine(Hc.out _ (Ao _ _)).mono ?_;rintro e w1 ⟨A1,c1,B1,d1,rfl,h1,ne1,f1⟩;have b1:=b1.fr f1 id;have B2:=T (B2.out.fr f1 id);have M1:=T (H.out.fr0 f1);have F1:=T (F0.out.tr f1);have o1:=one16 S (U A1 S.d.length c1) (U B1 S.r.length d1) rfl rfl;have HX1:=T (A9 h1 (A9 ne1 f1));clear h1 ne1 f1;go_upto_region 2 with(((with_reducible refine wpL_sq (cs':=stc S (U A1 S.d.length c1) (U B1 S.r.length d1)) b1 sz16 o1 ?_);intro W2 b22 f2;have F2:=T f2;clear f2 b1 o1));have hne:=Pw;have NE:=T hne;have M2:=T (M1.out.fr F2.out (NE.out _ (.inl rfl)) (NE.out _ (Ah (.inl rfl))) (λk e=>NE.out k (Ah (.inr e))));have hl2:=b22.lt;clear hne;have b2d:Blk W2 (↑w+1) 41 z16:=B2.out.fr F2.out (λe=>O);have o7:=one16 S (U A1 S.d.length c1) (U B1 S.r.length d1) rfl rfl;go_wp2_with fail;refine(JM _ p s M2.out).mono ?_;rintro e w3 ⟨rfl,rfl⟩;go_wp2_with fail;refine(word_any _ p s M2.out 2 O).mono ?_;rintro e w3 ⟨rfl,rfl⟩;by_cases h2:s.m 2>16;·have gg2:decide (s.m 2>16)=Af:=Gd;exact JS
 ·have gg2:decide (s.m 2>16)=Aa:=Gd;go_wp2_with fail;refine(word_any _ p s M2.out 3 O).mono ?_;rintro e w3 ⟨rfl,rfl⟩;by_cases h3:s.m 3>16
  ·have gg3:decide (s.m 3>16)=Af:=by simpa using h3
   exact JS
  ·have gg3:decide (s.m 3>16)=Aa:=by simpa using h3
   have h1:s.m 1>15:=by
    by_cases q:s.m 1>15;·exact q
    ·exact absurd (show GoodM s.m from⟨O,O,O⟩) HG.out
   have gg1:decide (s.m 1>15)=Af:=Cp;go_wp2_with fail;refine(word_any _ p s M2.out 1 O).mono ?_;rintro e w3 ⟨rfl,rfl⟩;exact JS
def DonePost(w:Ac)(S:St)(l:List HI)(e:AT)(w':Ac):Prop:=
 ∃(cs:AL) (how:Int),e=Ax (AD #[AA cs,J Z how])∧Fr Aj w w'∧(cs.size=16∧cs.all (·.oneCell')=Af)∧
  (how=1→ ∃(m:Nat→Int) (σ:Hm) (A:Aw) (c:Nat) (B:Aw) (d:Nat),hrun l 4096 0 ⟨λ_=>0,m⟩=⟨1,1,σ⟩∧(∀j,j<64→m j=putW S j)∧(∀j,U32 (σ.m j))∧GoodM σ.m∧
   cs=stc (getS S σ.m) (U A (getS S σ.m).d.length c) (U B (getS S σ.m).r.length d)∧StV w' ↑w (getS S σ.m) (U A (getS S σ.m).d.length c) (U B (getS S σ.m).r.length d)∧(∀k,Em.ab A=I k→Em.ab B≠I k))
theorem run_any(w:Ac)(S:St)(A B:Aw)(c d:Nat)(hS:StV w 0 S (U A S.d.length c) (U B S.r.length d))(hk:Gm.Rk S)(A':Aw)(n cn B2:Nat)(l:List HI)(hr:IntsAt AC w B2 A' n (encL l))(hn:n=8*l.length)(hc:n≤cn)(hB:B2≤↑w)(ho:HAll l)(hl:l.length≤10000):At Tryz.prog 88 #[U A' n cn,AA (stc S (U A S.d.length c) (U B S.r.length d))] w (DonePost w S l):=by
 obtain⟨b1,b2,f0⟩:=boxed2 w (stc S (U A S.d.length c) (U B S.r.length d)) z16 41 41;have HS:=T (hS.fr0 f0);have HK:=T hk;have HR:=T (hr.fr f0 hB (λ_ _ e=>e));have HO:=T ho;have HL:=T (A9 hn (A9 hc hl));have hsz:=Px;have HSZ:=T hsz;have hAl:Hid (∀k,Em.ab A=I k∨Em.ab B=I k→k<w.heap.size):=T (λk e=>by
  rcases e with e|e;·exact hS.d.lt k (Em.ab_own hS.d e)
  ·exact hS.r.lt k (Em.ab_own hS.r e))
 have B2':=T b2;have F0:=T f0;have hB3:B2≤↑w:=hB;clear hS hk hr hn hc ho hl f0 b2 hsz hB;go_in;go_wp2_with fail;refine(Hh.new_any _).mono ?_;rintro e w1 ⟨p,rfl,hM1,hg1,hg2,f1⟩;rw[HSZ.out] at hg1 hg2;have b11:=b1.fr f1 id;have M1:=T hM1;have F1:=T f1;have HA:Hid (∀k,Em.ab A=I k∨Em.ab B=I k→ ¬p.its k):=T (λk e h=>by
  have:=hAl.out k e;rcases h with h|h<;>omega)
 have Hp:=T (put_any w1 p _ hM1 (λ_=>rfl) S A B c d (HS.out.fr0 f1) HK.out HA.out);clear hM1 f1 b1;go_wp2_with ((with_reducible refine wpL_ldg b11 AP sz16 ?q1 ?q2 ?q4 ?q3 ?_);(case q1=>rfl);(case q2=>rfl);(case q4=>rfl);(case q3=>rfl));refine Ay Hp ?_;rintro e w2 ⟨t,rfl,hM2,tg,ta,tl,tm,f2⟩;have HT:=T (A9 tg (A9 ta (A9 tl tm)));have b12:=b11.fr f2 (λe=>EG);have F2:=T f2;have Hl:=T (load_any w2 p t hM2 B2 n cn A' l ((HR.out.fr F1.out (by rw[HSZ.out];omega) (λ_ _ e=>e)).fr f2 (by have:=F1.out.size;rw[HSZ.out] at this;omega) (λk hk e=>EG)) HL.out.1 HL.out.2.1 (by have h1:=F1.out.size;have h2:=f2.size;rw[HSZ.out] at h1;omega) HO.out HL.out.2.2);clear tg ta tl tm hM2 f2 b11 Hp;go_wp2_with fail;refine Ay Hl ?_;rintro e w3 ⟨A3,c3,rfl,hM3,f3⟩;have b13:=b12.fr f3 (λe=>EG);have F3:=T f3;have Hrn:=T (Hh.run_any w3 _ _ hM3 HL.out.2.2 HO.out);clear hM3 f3 b12 Hl;go_wp2_with fail;refine Ay Hrn ?_;rintro e w4 ⟨why,imm,nn,t',rfl,hM4,f4,hrun4,hwhy,himm⟩;have f4:Fr p.its w3 w4:=f4;have hp: ∀k,p.its k→w.heap.size+2≤k:=λk e=>EG;have b14:=b13.fr f4 (λe=>EG);have FP:Hid (Fr p.its w1 w4):=T ((F2.out.tr F3.out).tr f4);have FW:Hid (Fr Aj w w4):=T ((F0.out.tr F1.out).trans FP.out (λk hk e=>by have:=hp k e;omega));have b24:Blk w4 (↑w+1) 41 z16:=(B2'.out.fr F1.out id).fr FP.out (λe=>by have:=hp _ e;omega);have S4:Hid (StV w4 0 S (U A S.d.length c) (U B S.r.length d)):=T ((HS.out.fr0 F1.out).fr FP.out (λk hk=>HA.out k (Ag (Em.own_ab hk))) (λk hk=>HA.out k (Ah (Em.own_ab hk))));have M4:=T hM4;have HR4:=T hrun4;have hS16:S.d.length≤16∧S.r.length≤16:=⟨HK.out.2.1,HK.out.2.2.1⟩;clear hM4 hrun4 f4 b13 Hrn hp;by_cases h1:why=1
 ·subst h1;have hwi:IntKind.i64.wrap imm=imm:=Du _ (by have:=himm.1;have:=himm.2;omega);have i0:=himm.1;have i1:=himm.2;by_cases hg:GoodM t'.m
  ·have Hg:=T (get_good w4 _ _ M4.out S A B c d S4.out hS16 hg);have HG:=T hg;clear hg;go_wp2_with ((with_reducible refine wpL_lq b14 AP sz16 ?_));refine Ay Hg ?_;rintro e w5 ⟨A5,c5,B5,d5,rfl,h5,ne5,f5⟩;have HX:=T (A9 h5 (A9 ne5 f5));have b25:=b24.fr f5 id;have bw:=Py;have o5:=one16 (getS S t'.m) (U A5 (getS S t'.m).d.length c5) (U B5 (getS S t'.m).r.length d5) rfl rfl;clear h5 ne5 f5 b24 b14;go_upto_region 8 with(((with_reducible refine wpL_sq (cs':=stc (getS S t'.m) (U A5 (getS S t'.m).d.length c5) (U B5 (getS S t'.m).r.length d5)) bw sz16 o5 ?_);intro W6 b6 f6;have B6:=T b6;have F6:=T f6;clear f6 bw));have f56:=Pz;have b26:=b25.fr f56 id;have F56:=T f56;clear f56 b25;go_wp2_with (first
    |((with_reducible refine wpL_lq b6 AP sz16 ?_))
    |((with_reducible refine wpL_sq (cs':=stc (getS S t'.m) (U A5 (getS S t'.m).d.length c5) (U B5 (getS S t'.m).r.length d5)) b26 sz16 o5 ?_);intro W7 b7 f7;have B7:=T b7;have F7:=T f7;clear b7 f7 b26 o5))
   refine Bf (Ca.results_ct rfl _ _ (w.heap.size+1) 41 _ _ (J Z imm) rfl rfl B7.out AP rfl sz16) rfl ?_;have hw4:=FW.out.size;have hw4':=F1.out.size;have hw4'':=FP.out.size;rw[HSZ.out] at hw4';refine⟨_,imm,rfl,(((FW.out.tr HX.out.2.2).tr F56.out).trans F7.out (λk hk e=>O)),⟨rfl,JT⟩,λhi=>?_⟩;subst hi;have K: ∀{v zs},Rw w5 ↑w4 v zs→Rw W7 ↑w v zs:=λ{v zs} h=>((h.fr F56.out (λ_ _ e=>e)).fr F7.out (λk hk e=>by have:=h.ge k hk;omega)).low O;refine⟨t.m,⟨t'.g,t'.m⟩,A5,c5,B5,d5, ?_,HT.out.2.2.2,M4.out.mb,HG.out,rfl,⟨K HX.out.1.d,K HX.out.1.r,HX.out.1.ok⟩,HX.out.2.1⟩;have e:=HR4.out;rw[HT.out.1] at e;exact e
  ·have Hg:=T (get_bad w4 _ _ M4.out S A B c d S4.out hS16 hg);clear hg;go_wp2_with ((with_reducible refine wpL_lq b14 AP sz16 ?_));refine Ay Hg ?_;rintro e w5 ⟨A5,c5,B5,d5,rfl,h5,ne5,f5⟩;have HX:=T f5;have b25:=b24.fr f5 id;have bw:=Py;have o5:=one16 S (U A5 S.d.length c5) (U B5 S.r.length d5) rfl rfl;clear h5 ne5 f5 b24 b14;go_upto_region 8 with(((with_reducible refine wpL_sq (cs':=stc S (U A5 S.d.length c5) (U B5 S.r.length d5)) bw sz16 o5 ?_);intro W6 b6 f6;have B6:=T b6;have F6:=T f6;clear f6 bw));have f56:=Pz;have b26:=b25.fr f56 id;have F56:=T f56;clear f56 b25;go_wp2_with (((with_reducible refine wpL_lq b6 AP sz16 ?_);(with_reducible refine wpL_sq (cs':=stc S (U A5 S.d.length c5) (U B5 S.r.length d5)) b26 sz16 o5 ?_);intro W7 b7 f7;have B7:=T b7;have F7:=T f7;clear b7 f7 b26 b6 o5));refine Bf (Ca.results_ct rfl _ _ (w.heap.size+1) 41 _ _ (J .i64 0) rfl rfl B7.out AP rfl sz16) rfl ?_;exact⟨_,0,rfl,(((FW.out.tr HX.out).tr F56.out).trans F7.out (λk hk e=>O)),⟨rfl,JT⟩,λhi=>O⟩
 ·have gw:(why !=1)=Af:=Cp;have Hcp:=T (copy_any w4 0 S _ _ S4.out O O);go_wp2_with ((with_reducible refine wpL_lq b14 AP sz16 ?_));refine Ay Hcp ?_;rintro e w5 ⟨A5,c5,B5,d5,rfl,h5,ne5,f5⟩;have HX:=T f5;have b25:=b24.fr f5 id;have o5:=one16 S (U A5 S.d.length c5) (U B5 S.r.length d5) rfl rfl;clear h5 ne5 f5 b24 b14;go_wp2_with (((with_reducible refine wpL_sq (cs':=stc S (U A5 S.d.length c5) (U B5 S.r.length d5)) b25 sz16 o5 ?_);intro W7 b7 f7;have B7:=T b7;have F7:=T f7;clear b7 f7 b25 o5));refine Bf (Ca.results_ct rfl _ _ (w.heap.size+1) 41 _ _ (J .i64 0) rfl rfl B7.out AP rfl sz16) rfl ?_;exact⟨_,0,rfl,((FW.out.tr HX.out).trans F7.out (λk hk e=>O)),⟨rfl,JT⟩,λhi=>O⟩
end Er
end Go.Proofs.YtpmlgdopfafcgaaGreatDoor
