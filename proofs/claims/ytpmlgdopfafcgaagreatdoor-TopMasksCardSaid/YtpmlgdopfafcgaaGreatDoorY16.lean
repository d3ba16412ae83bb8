import Derived.Test.YtpmlgdopfafcgaaGreatDoorY14
open Go.Value renaming int→J,slice→U,bool→Ap,tuple→AD,ownBlock→Bp,agg→AA,pointer→Bi
open Option renaming some→I,none→G
open Go.IntKind renaming i64→Z,u32→V,u64→AM,u8→AC,wrap_u64→Dk,wrap_u32→DH
open Bool renaming false→Aa,true→Af,false_ne_true→Da,false_and→D7
open Go renaming World→Ac,Value→As,Calls→At,bodyPost_ret→Bf,TypeId→AK,wp_region_held_drew→BY,info_parts→BH,Ending→AT,madeCells→Cb,maxLen→Br,Program→BW,undef→Bt,wpList→BL,bits→Bb,run_underlying→CX
open List renaming getD_eq_getElem?_getD→AN,getElem?_eq_getElem→Bj,length_append→BJ,append_assoc→BM,mem_map→Bo,getElem?_take_of_lt→Cw,replicate→BK,range→Bm,getElem?_append_right→CB,getElem_mem→BU,mem_append→BZ,getElem?_append_left→CO,getElem?_map→C7,cons_append→CC,mem_filter→C8,length_pos_iff→CP,length_cons→CK,mem_cons→Cy,getLastD_eq_getLast?→Dg,nil_append→CI,getElem?_eq_none→De,dropLast_concat→Do,mem_singleton→Dv,map_append→Df,length_map→Di,getElem_of_mem→DD,length_nil→Dp,concat_eq_append→DI,getElem?_range→DL,range_succ→DB,getElem?_replicate→DW,singleton_append→DV,map_cons→D6,map_map→D8,setIfInBounds_toArray→Eb
open Go.Ending renaming returned→Ax
open And renaming intro→A9
open Nat renaming le_refl→AE,lt_of_lt_of_le→AW,le_trans→AS,zero_le→AU,zero_add→Bn,eq_zero_or_pos→Dm,reduceEqDiff→Dq
open Or renaming inl→Ag,inr→Ah
open Go.Proofs.Tryz renaming underlying41→AP,underlying31→CF,underlying22→CV,underlying215→Dl,underlying26→DN
open Go.RowKit renaming intOf→AJ
open Int renaming eq_ofNat_of_zero_le→CM,toNat_natCast→C4,emod_eq_of_lt→CZ
open Go.Builtin renaming zeroCells→CG,delete_→Eh
open Array renaming getElem?_toList→CN,getElem?_eq_some_iff→DX
open Go.Region renaming wanted→CA
open Go.Result renaming andThen→CT
open Option.some renaming inj→Ds
open Go.MapKept renaming run_getObj_map→DJ,run_setObj_map→Ef
open Go.Instr renaming makeSlice→Dj,mapUpdate→DK
open Go.IntWalk renaming i64_in→Du
open Go.Lit renaming int→C9
open Go.Sem renaming run_bind→D5
set_option linter.all false
set_option maxHeartbeats 40000000
set_option maxRecDepth 1000000
open Go Go.RowKit
namespace Go.Proofs.YtpmlgdopfafcgaaGreatDoor
namespace Sw
open Gs Sv Tr Em Ip Lo
def useZ(u:Nat→Bool)(zs:List Int):Nat→Bool:=zs.foldl useI u
theorem QA(u:Nat→Bool)(l:List Nat):useZ u (l.map λ(n:Nat)=>(n:Int))=useL u l:=by
 unfold useZ useL;rw[List.foldl_map];congr 1
def RowZ(w:Ac)(gu:Nat)(A:Aw)(n:Nat)(zs:List Int):Prop:=0<n→ ∃b o,A=I ⟨b,o,G⟩∧b≠gu∧b<w.heap.size∧ ∀i,i<n→w.cell? ⟨b,o+i,G⟩=I (J Z (zs.getD i 0))
variable{w:Ac}{n:Nat}{A:Aw}
theorem RowZ.fr{w':Ac}{gu:Nat}{zs:List Int}(h:RowZ w gu A n zs)(f:Fr (· =gu) w w'):RowZ w' gu A n zs:=λhn=>by
 obtain⟨b,o,e,hb,hl,hc⟩:=h hn;exact⟨b,o,e,hb,AW hl f.size,λi hi=>f.cell (hc i hi) hl hb⟩
variable{c:Nat}
theorem RowZ.of64{B gu:Nat}{f:Nat→Int}{zs:List Int}(h:At64 w B (U A n c) n f)(hB:B≤↑w)(hg:B≤gu)(e: ∀i,i<n→f i=zs.getD i 0):RowZ w gu A n zs:=λhn=>by
 obtain⟨b,o,c',e2,_,hb,hc⟩:=h hn;injection e2 with e3;exact⟨b,o,e3,O,O,λi hi=>by rw[hc i hi,e i hi]⟩
theorem Vs(u:Nat→Bool)(zs:List Int)(k:Nat)(h:k<zs.length):useZ u (zs.take (k+1))=useI (useZ u (zs.take k)) (zs.getD k 0):=by
 have e:zs.take (k+1)=zs.take k++[zs.getD k 0]:=by
  rw[AN,Bj h,List.take_succ_eq_append_getElem h];rfl
 rw[e];unfold useZ;rw[List.foldl_append];rfl
theorem use_any(w:Ac)(gv gu N c0:Nat)(u:Nat→Bool)(A:Aw)(n c:Nat)(zs:List Int)(hv:w.cell? ⟨gv,0,G⟩=I (U (I ⟨gu,0,G⟩) N c0))(hvl:gv<↑w)(hne:gv≠gu)(hu:Cells w gu 4 N (λi=> Ap (u i)))(hz:RowZ w gu A n zs)(hn:zs.length=n)(hb: ∀z∈zs,z= -1∨(0≤z∧z<N))(h64:n≤100)(hN:N≤c0)(hN2:N≤1000):At Tryz.prog 181 #[U A n c,↑gv] w λe w'=>e=Ax (AD #[])∧Cells w' gu 4 N (λi=> Ap (useZ u zs i))∧Fr (· =gu) w w':=by
 have HZ:=T hz;have HU:=T hu;have HB:=T hb;have HN:=T hn;have HV:=T hv;clear hz hu hb hn hv;go_in;go_wp2_with fail;go_loopw [7] (λi wr=> ∃k:Nat,k≤n∧i=J Z k∧Hid (Cells wr gu 4 N (λi=> Ap (useZ u (zs.take k) i)))∧Hid (Fr (· =gu) w wr)) (λi _=>n -(AJ i).toNat)
 case atStart=>exact⟨0,O,rfl,T HU.out,T (Ao _ _)⟩
 case round=>
  obtain⟨k,hk,rfl,hC,hF⟩:=hrel;by_cases hlt:k<n
  ·obtain⟨b,o,rfl,hbg,hbl,hcell⟩:=(HZ.out.fr hF.out) O;have ck:=hcell k hlt;have hkl:k<zs.length:=Gi;have hzk:=HB.out (zs.getD k 0) Fl;have HS:Hid (useZ u (zs.take (k+1))=useI (useZ u (zs.take k)) (zs.getD k 0)):=T (Vs u zs k hkl);have cv:wr.cell? ⟨gv,0,G⟩=I (U (I ⟨gu,0,G⟩) N c0):=hF.out.cell HV.out hvl hne;have hvl2:gv<↑wr:=AW hvl hF.out.size;clear hcell hkl;obtain⟨z,hz⟩:=Az (zs.getD k 0);rw[hz] at ck hzk HS;clear hz;rcases hzk with rfl|⟨z0,z1⟩
   ·go_wp2
    go_roundw
    case rel=>exact⟨k+1,O,AX,T (by rw[HS.out];exact hC.out),hF⟩
    case measure=>simp[AJ];omega
   ·obtain⟨q,rfl⟩: ∃q:Nat,z=q:=⟨z.toNat,O⟩;have hq:q<N:=O;have hne2:=Ki;have hne3:=Kj;have cq:=hC.out.cell q hq;have yq:=hC.out.frozen q;have hul:=hC.out.lt
    go_wp2
    go_roundw;case rel=>
     refine⟨k+1,O,AX,T ?_,T (hF.out.setCell (p:=⟨gu,q,G⟩) (Ag rfl) _)⟩;rw[HS.out];refine(hC.out.set_ q (Ap Af)).congr (λi hi=>?_);have h1:useI (useZ u (zs.take k)) (q:Int)=upB (useZ u (zs.take k)) q:=by unfold useI;rw[Ae (by omega),C4]
     rw[h1];unfold putV upB;by_cases e:i=q;·simp[e]
     ·simp[e]
    case measure=>simp[AJ];omega
  ·obtain rfl:k=n:=O
   go_wp2
   go_end0;refine⟨rfl, ?_,hF.out⟩;have:=hC.out;rwa[←HN.out,List.take_length] at this
theorem iis_at: ∀(l:List IIn) (k:Nat),k<l.length→ ∀j,j<5→(iis l)[k*5+j]?=(iiA (Tr.at_ l k))[j]?
 |i::l,0,_,j,hj=>by
  show((iiA i).toList++iis l)[0*5+j]?=_;rw[CO A8];have e:0*5+j=j:=O;rw[e];simp[Tr.at_]
 |i::l,k+1,h,j,hj=>by
  show((iiA i).toList++iis l)[(k+1)*5+j]?=_;rw[CB A8];have e:(k+1)*5+j -(iiA i).toList.length=k*5+j:=A8;rw[e,iis_at l k C3 j hj];rfl
variable{base:Nat}
theorem AtI.of{l:List IIn}(h:w.ownsRow base 265 5 (U A n c) l.length (iis l)):AtI w ↑w A l:=by
 intro k hk;rcases h.2 with⟨e,h0⟩|⟨g,cap,cur,hv,hg,hb,hc,hm,hs,ht⟩;·omega
 ·injection hv with e1 e2 e3;subst e1;have hb:Blk w g 265 cur:=hb;have key: ∀j,j<5→w.cell? ⟨g,k*5+j,G⟩=(iiA (Tr.at_ l k))[j]?:=λj hj=>by
   rw[hb.cell,←iis_at l k hk j hj,←ht];exact Pa
  exact Pb
theorem own_cap{s:Nat}{t:AK}{xs:List As}(h:w.ownsRow base t s (U A n c) n xs):n≤c:=by
 rcases h.2 with⟨e,h0⟩|⟨g,cap,cur,hv,hg,hb,hc,hm,hs,ht⟩;·omega
 ·injection hv with e1 e2 e3;omega
theorem At64.of{l:List Nat}(h:w.ownsRow base 3 1 (U A n c) n (fxV l))(hl:l.length=n):At64 w ↑w (U A n c) n (λi=>(l.getD i 0:Nat)):=λh0=>by
 obtain⟨g,cap,cur,hv,hg,hb,hc,hm,hs,ht⟩:=own_blk h h0;refine⟨g,0,cap,hv,hc,hb.lt,λi hi=>?_⟩;rw[Bn,hb.cell i,←CN,←Cw (show i<n*1 by omega),ht];show _=I (J Z ((l.getD i 0:Nat):Int));unfold fxV;rw[C7,Bj (show i<l.length by omega),AN,Bj (show i<l.length by omega)];rfl
def GivesF(w:Ac)(l:List Nat)(e:AT)(w':Ac):Prop:= ∃A c,e=Ax (U A l.length c)∧w'.ownsRow ↑w 3 1 (U A l.length c) l.length (fxV l)∧Fr Aj w w'
theorem Vt(w:Ac)(B gv gp N c0:Nat)(pl:Nat→Nat)(A:Aw)(c:Nat)(l:List Nat)(hv:w.cell? ⟨gv,0,G⟩=I (U (I ⟨gp,0,G⟩) N c0))(hvl:gv<↑w)(hp:Cells w gp 3 N (λi=> J Z (pl i:Nat)))(hl:At64 w B (U A l.length c) l.length (λi=>(l.getD i 0:Nat)))(hB:B≤↑w)(hb: ∀z∈l,z<N)(h64:l.length≤100)(hN:N≤c0)(hN2:N≤1000):At Tryz.prog 182 #[U A l.length c,↑gv] w (GivesF w (l.map pl)):=by
 obtain⟨i0,hi0,hz0,hz1,hz2⟩:=BH infoI;have HZ:=T hl;have HU:=T hp;have HB:=T hb;have HV:=T hv;obtain⟨n,hn⟩:=Az l.length;have HN:=T hn;rw[hn] at h64⊢;clear hl hp hb hv hn;go_in;go_wp2_with fail;go_loopw [9,4] (λi v wr=> ∃(k:Nat) (A':Aw) (c':Nat),k≤n∧i=J Z k∧v=U A' k c'∧Hid (wr.ownsRow ↑w 3 1 (U A' k c') k (fxV ((l.map pl).take k)))∧Hid (Fr Aj w wr)) (λi _ _=>n -(AJ i).toNat)
 case atStart=>exact⟨0,G,0,O,rfl,rfl,T ⟨rfl,Ag ⟨rfl,rfl⟩⟩,T (Ao _ _)⟩
 case round=>
  obtain⟨k,A',c',hk,rfl,rfl,hO,hF⟩:=hrel;by_cases hlt:k<n
  ·have hkl:k<l.length:=Gi;obtain⟨b,o,c2,e2,_,hbB,hcell⟩:=(HZ.out.fr hF.out hB (λ_ _ e=>e)) O;have e3:A=I ⟨b,o,G⟩:=by injection e2
   clear e2;subst e3;have ck:=hcell k hkl;have hbl:b<↑wr:=JL;have hzk:=HB.out (l.getD k 0) Fl;have HS:Hid ((l.map pl).take (k+1)=(l.map pl).take k++[pl (l.getD k 0)]):=T (by
    rw[List.take_succ_eq_append_getElem (by simpa using hkl),List.getElem_map,AN,Bj hkl];rfl)
   have cv:wr.cell? ⟨gv,0,G⟩=I (U (I ⟨gp,0,G⟩) N c0):=hF.out.cell HV.out hvl id;have hvl2:gv<↑wr:=AW hvl hF.out.size;have hP:=HU.out.fr hF.out id;obtain⟨q,hq⟩:=Az (l.getD k 0);dsimp only at ck;rw[hq] at ck hzk HS;have cq:=hP.cell q hzk;have hpl:=hP.lt;have HO:=T (CH hO.out (.cells #[J Z (pl q:Nat)] 3));have hrd:Hid (Reads (wr.alloc (.cells #[J Z (pl q:Nat)] 3)) (↑wr+1) 1 (I ⟨↑wr,0,G⟩) 1 [J Z (pl q:Nat)]):=T (Cn (AH wr 3 #[J Z (pl q:Nat)]) rfl);have hsz:=hF.out.size;clear hcell hkl hP hq;go_wp2_with
    (at_builtin
     refine Ce _ rfl (.tmp 13) (.tmp 18) _ rfl w.heap.size 3 i0 _ 1 8 CV hi0 hz0 hz1 hz2 rfl O (U A' k c') k (fxV ((l.map pl).take k)) rfl HO.out (wr.heap.size+1) (I ⟨wr.heap.size,0,G⟩) 1 1 [J Z (pl q:Nat)] rfl hrd.out CL Bu O A8 ?_
     intro v1 w3 hown1 hg1 hat1
     obtain⟨A3,c3,rfl⟩:=own_form hown1
     have HX:=T (A9 hown1 hg1)
     clear hown1 hg1 hat1)
   go_roundw;case rel=>
    refine⟨k+1,A3,c3,O,AX,rfl,T ?_,T ((hF.out.alloc _).grown HX.out.2 (λq hq=> Ah (own_base hO.out q hq)))⟩;have e:fxV ((l.map pl).take (k+1))=fxV ((l.map pl).take k)++[J Z (pl q:Nat)]:=by rw[HS.out];simp[fxV]
    rw[e];exact HX.out.1
   case measure=>simp[AJ];omega
  ·obtain rfl:k=n:=O
   go_wp2
   go_ret;have hm:(l.map pl).length=k:=by rw[Di,HN.out]
   refine⟨A',c',by rw[hm];rfl, ?_,hF.out⟩;rw[hm];have:=hO.out;rwa[←hm,List.take_length,hm] at this
end Sw
end Go.Proofs.YtpmlgdopfafcgaaGreatDoor
