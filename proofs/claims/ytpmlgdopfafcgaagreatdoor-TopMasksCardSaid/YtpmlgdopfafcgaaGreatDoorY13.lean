import Derived.Test.YtpmlgdopfafcgaaGreatDoorY12
open Go.Value renaming int→J,slice→U,bool→Ap,tuple→AD,ownBlock→Bp,agg→AA,pointer→Bi
open Option renaming some→I,none→G
open Go.IntKind renaming i64→Z,u32→V,u64→AM,u8→AC,wrap_u64→Dk,wrap_u32→DH
open Bool renaming false→Aa,true→Af,false_ne_true→Da,false_and→D7
open Go renaming World→Ac,Value→As,Calls→At,bodyPost_ret→Bf,TypeId→AK,wp_region_held_drew→BY,info_parts→BH,Ending→AT,madeCells→Cb,maxLen→Br,Program→BW,undef→Bt,wpList→BL,bits→Bb,run_underlying→CX
open List renaming getD_eq_getElem?_getD→AN,getElem?_eq_getElem→Bj,length_append→BJ,append_assoc→BM,mem_map→Bo,getElem?_take_of_lt→Cw,replicate→BK,range→Bm,getElem?_append_right→CB,getElem_mem→BU,mem_append→BZ,getElem?_append_left→CO,getElem?_map→C7,cons_append→CC,mem_filter→C8,length_pos_iff→CP,length_cons→CK,mem_cons→Cy,getLastD_eq_getLast?→Dg,nil_append→CI,getElem?_eq_none→De,dropLast_concat→Do,mem_singleton→Dv,map_append→Df,length_map→Di,getElem_of_mem→DD,length_nil→Dp,concat_eq_append→DI,getElem?_range→DL,range_succ→DB,getElem?_replicate→DW,singleton_append→DV,map_cons→D6,map_map→D8,setIfInBounds_toArray→Eb
open Go.Ending renaming returned→Ax
open And renaming intro→A9
open Nat renaming le_refl→AE,lt_of_lt_of_le→AW,le_trans→AS,zero_le→AU,zero_add→Bn,eq_zero_or_pos→Dm,reduceEqDiff→Dq
open Or renaming inl→Ag,inr→Ah
open Go.Proofs.Tryz renaming underlying41→AP,underlying31→CF,underlying22→CV,underlying215→Dl,underlying26→DN
open Go.RowKit renaming intOf→AJ
open Int renaming eq_ofNat_of_zero_le→CM,toNat_natCast→C4,emod_eq_of_lt→CZ
open Go.Builtin renaming zeroCells→CG,delete_→Eh
open Array renaming getElem?_toList→CN,getElem?_eq_some_iff→DX
open Go.Region renaming wanted→CA
open Go.Result renaming andThen→CT
open Option.some renaming inj→Ds
open Go.MapKept renaming run_getObj_map→DJ,run_setObj_map→Ef
open Go.Instr renaming makeSlice→Dj,mapUpdate→DK
open Go.IntWalk renaming i64_in→Du
open Go.Lit renaming int→C9
open Go.Sem renaming run_bind→D5
set_option linter.all false
set_option maxHeartbeats 40000000
set_option maxRecDepth 1000000
open Go Go.RowKit
namespace Go.Proofs.YtpmlgdopfafcgaaGreatDoor
namespace Lf
open Gs Sv Tr Em Ip
structure IvC(w:Ac)(g cap n:Nat)(tt:Nat→Nat):Prop where
 c: ∃F,Cells w g 311 (cap*3) F∧ ∀i,i<n→F (i*3)=J Z i∧F (i*3+1)=J Z i∧F (i*3+2)=J Z (tt i)
 le:n≤cap
section
variable {w w':Ac} {g cap n:Nat} {tt:Nat→Nat} {S:AG}
theorem IvC.fr(h:IvC w g cap n tt)(f:Fr S w w')(hs: ¬S g):IvC w' g cap n tt:=by
 obtain⟨F,hc,hF⟩:=h.c;exact⟨⟨F,hc.fr f hs,hF⟩,h.le⟩
theorem IvC.lt(h:IvC w g cap n tt):g<↑w:=by
 obtain⟨F,hc,hF⟩:=h.c;exact hc.lt
theorem IvC.c0(h:IvC w g cap n tt)(i:Nat)(hi:i<n):w.cell? ⟨g,i*3,G⟩=I (J Z i)∧w.cell? ⟨g,i*3+1,G⟩=I (J Z i)∧w.cell? ⟨g,i*3+2,G⟩=I (J Z (tt i)):=by
 obtain⟨F,hc,hF⟩:=h.c;have hle:=h.le;obtain⟨h0,h1,h2⟩:=hF i hi;exact⟨by rw[hc.cell _ (by omega),h0],by rw[hc.cell _ (by omega),h1],by rw[hc.cell _ (by omega),h2]⟩
theorem IvC.y(h:IvC w g cap n tt)(i:Nat):w.frozen? ⟨g,i,G⟩=Aa:=by
 obtain⟨F,hc,hF⟩:=h.c;exact hc.frozen i
def upT(tt:Nat→Nat)(n v:Nat):Nat→Nat:=λk=>if k=n then v else tt k
theorem IvC.set_(h:IvC w g cap n tt)(i:Nat)(hi:i<n)(v:Nat):IvC (w.setCell ⟨g,i*3+2,G⟩ (J Z v)) g cap n (upT tt i v):=by
 obtain⟨F,hc,hF⟩:=h.c;refine⟨⟨_,hc.set_ (i*3+2) _,λj hj=>?_⟩,h.le⟩;obtain⟨h0,h1,h2⟩:=hF j hj;unfold putV upT;refine⟨by rw[Ae (by omega)];exact h0,by rw[Ae (by omega)];exact h1, ?_⟩;by_cases e:j=i;·rw[An O,An e]
 ·rw[Ae O,Ae e];exact h2
end
theorem meet_any(w:Ac)(a b ta tb:Nat):At Tryz.prog 188 #[AA #[J Z a,J Z a,J Z ta],AA #[J Z b,J Z b,J Z tb]] w λe w'=>e=Ax (Ap ((decide (a<tb)&&decide (b<ta))||decide (a=b)))∧Fr Aj w w':=by
 obtain⟨r,hr⟩:=Az ((decide (a<tb)&&decide (b<ta))||decide (a=b));rw[hr];by_cases h1:a<tb
 ·have g1:decide (a<tb)=Af:=Cp;by_cases h2:b<ta;·have g2:decide (b<ta)=Af:=Gd;exact Qj
  ·have g2:decide (b<ta)=Aa:=Gd;by_cases h3:a=b;·subst h3;exact Qj
   ·have g3:((a:Int)==(b:Int))=Aa:=A8;rw[g1,g2] at hr;exact Ql
 ·have g1:decide (a<tb)=Aa:=Cp;by_cases h3:a=b
  ·subst h3;rw[g1] at hr;simp at hr;subst hr;go_in;go_wp2_with fail
   all_goals
    go_ret;exact⟨rfl,((Ao _ w).alloc _).alloc _⟩
  ·have g3:((a:Int)==(b:Int))=Aa:=A8;rw[g1] at hr;exact Ql
theorem use_neg(w:Ac)(n at_:Int)(q:As)(hn:n<0):At Tryz.prog 223 #[J Z n,J Z at_,q] w λe w'=>e=Ax (AD #[])∧w=w':=by
 have g1:decide (n≥0)=Aa:=by simpa using hn
 go_in
 go_wp2
 go_end0;exact⟨rfl,rfl⟩
theorem use_pos(w:Ac)(gv g cap len:Nat)(tt:Nat→Nat)(h:IvC w g cap len tt)(hv:w.cell? ⟨gv,0,G⟩=I (U (I ⟨g,0,G⟩) len cap))(hvl:gv<↑w)(hne:gv≠g)(n at_:Nat)(hn:n<len)(hl:len≤64):At Tryz.prog 223 #[J Z n,J Z at_,↑gv] w λe w'=>e=Ax (AD #[])∧IvC w' g cap len (upT tt n (max (tt n) at_))∧Fr (· =g) w w':=by
 have g1:decide ((n:Int)≥0)=Af:=AB;obtain⟨d0,d1,d2⟩:=h.c0 n hn;have y2:=h.y (n*3+2);have HX:=T (A9 (h.set_ n hn (max (tt n) at_)) (Bc w g (n*3+2) (J Z (max (tt n) at_:Nat))));have hgl:=h.lt;have hcap:=h.le;clear h;by_cases hm:tt n<at_;·have em:max (tt n) at_=at_:=O;rw[em] at HX⊢;obtain⟨t,ht⟩:=Az (tt n);rw[ht] at d2 hm;exact Qm
 ·have em:max (tt n) at_=tt n:=O;rw[em] at HX⊢;obtain⟨t,ht⟩:=Az (tt n);rw[ht] at d2 hm HX⊢;exact Qm
end Lf
end Go.Proofs.YtpmlgdopfafcgaaGreatDoor
