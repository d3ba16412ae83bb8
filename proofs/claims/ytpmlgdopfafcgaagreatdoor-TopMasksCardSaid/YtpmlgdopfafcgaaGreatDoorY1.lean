import Derived.Test.YtpmlgdopfafcgaaGreatDoorZ3
open Go.Value renaming int→J,slice→U,bool→Ap,tuple→AD,ownBlock→Bp,agg→AA,pointer→Bi
open Option renaming some→I,none→G
open Go.IntKind renaming i64→Z,u32→V,u64→AM,u8→AC,wrap_u64→Dk,wrap_u32→DH
open Bool renaming false→Aa,true→Af,false_ne_true→Da,false_and→D7
open Go renaming World→Ac,Value→As,Calls→At,bodyPost_ret→Bf,TypeId→AK,wp_region_held_drew→BY,info_parts→BH,Ending→AT,madeCells→Cb,maxLen→Br,Program→BW,undef→Bt,wpList→BL,bits→Bb,run_underlying→CX
open List renaming getD_eq_getElem?_getD→AN,getElem?_eq_getElem→Bj,length_append→BJ,append_assoc→BM,mem_map→Bo,getElem?_take_of_lt→Cw,replicate→BK,range→Bm,getElem?_append_right→CB,getElem_mem→BU,mem_append→BZ,getElem?_append_left→CO,getElem?_map→C7,cons_append→CC,mem_filter→C8,length_pos_iff→CP,length_cons→CK,mem_cons→Cy,getLastD_eq_getLast?→Dg,nil_append→CI,getElem?_eq_none→De,dropLast_concat→Do,mem_singleton→Dv,map_append→Df,length_map→Di,getElem_of_mem→DD,length_nil→Dp,concat_eq_append→DI,getElem?_range→DL,range_succ→DB,getElem?_replicate→DW,singleton_append→DV,map_cons→D6,map_map→D8,setIfInBounds_toArray→Eb
open Go.Ending renaming returned→Ax
open And renaming intro→A9
open Nat renaming le_refl→AE,lt_of_lt_of_le→AW,le_trans→AS,zero_le→AU,zero_add→Bn,eq_zero_or_pos→Dm,reduceEqDiff→Dq
open Or renaming inl→Ag,inr→Ah
open Go.Proofs.Tryz renaming underlying41→AP,underlying31→CF,underlying22→CV,underlying215→Dl,underlying26→DN
open Go.RowKit renaming intOf→AJ
open Int renaming eq_ofNat_of_zero_le→CM,toNat_natCast→C4,emod_eq_of_lt→CZ
open Go.Builtin renaming zeroCells→CG,delete_→Eh
open Array renaming getElem?_toList→CN,getElem?_eq_some_iff→DX
open Go.Region renaming wanted→CA
open Go.Result renaming andThen→CT
open Option.some renaming inj→Ds
open Go.MapKept renaming run_getObj_map→DJ,run_setObj_map→Ef
open Go.Instr renaming makeSlice→Dj,mapUpdate→DK
open Go.IntWalk renaming i64_in→Du
open Go.Lit renaming int→C9
open Go.Sem renaming run_bind→D5
set_option linter.all false
set_option maxHeartbeats 40000000
set_option maxRecDepth 1000000
open Go Go.RowKit
namespace Go.Proofs.YtpmlgdopfafcgaaGreatDoor
namespace Rn
open Gs Sv Gm Rm
theorem drop_ne{l:List Int}(h:2≤l.length):l.dropLast≠[]:=λe=>by
 have:=congrArg List.length e;simp at this;omega
theorem store_any(w:Ac)(p:Rp)(x:Rs)(P:AG)(a:Bs.Ab)(A:Mu.Au)(g:Mc)(h:Dn w p x P a A g)(hr:Ready x)(hpg:x.s.pg=Aa)(hd:2≤x.s.d.length)(hv8:devOk (top1 x.s.d)=Af)(ho:g.b.outs.length≤1000000):At Tryz.prog 166 #[↑p.g] w (DPost w p P a A (toRs (stR x.s x.cnt g) x.cnt) (stR x.s x.cnt g).g (AD #[])):=by
 have hb:=(show Bl x.s.d from hr.k.1.d).top;have hc2:=(show Bl x.s.d from hr.k.1.d).top2;obtain⟨v,hv⟩:=Az (top1 x.s.d);obtain⟨u,hu⟩:=Az (top2 x.s.d);have Hp:=T (pop_any w p x _ _ h.rn (λe=>by rw[e] at hd;simp at hd));have H:=T h;rw[hv] at Hp hb;rw[hu] at hc2;obtain⟨hb0,hb1⟩:=hb;obtain⟨hu0,hu1⟩:=hc2;have hst:stR x.s x.cnt g=⟨Gm.pop2 x.s,0,0,Af,⟨g.b.store v u,g.l⟩⟩:=by unfold stR;rw[hv,hu]
 rw[hst];rw[hv] at hv8;have hlb:Bs.loadB v=Af:=by simp only[devOk,Bool.and_eq_true] at hv8;exact hv8.2
 have HR:=T hr;have HU:Hid (top1 (Gm.pop1 x.s).d=u):=T hu;have HND:Hid ((Gm.pop1 x.s).d≠[]):=T (drop_ne hd);have HV8:=T hv8;have HPG:=T hpg;have HOUT:=T ho;clear h hr hd hv hu ho hst hv8 hpg;go_in;go_wp2_with fail;refine Ay Hp ?_;intro e w1 hq;obtain⟨rfl,⟨g1,A1,ca1,B1,cb1⟩,P1,L1,D1⟩:=H.out.ofR hq;obtain rfl:g1=p.g:=L1.g;clear hq;have Hp2:=T (pop_any w1 _ _ _ _ D1.rn HND.out);rw[show top1 ({x with s:=Gm.pop1 x.s}:Rs).s.d=u from HU.out] at Hp2;have L1:=T L1;have D1:=T D1;go_wp2_with fail;refine Ay Hp2 ?_;intro e w2 hq;obtain⟨rfl,⟨g2,A2,ca2,B2,cb2⟩,P2,L2,D2⟩:=D1.out.ofR hq;obtain rfl:g2=p.g:=L2.g;clear hq;have Hw:=T (U4 w2 _ _ _ _ _ _ D2 HPG.out v 3 HV8.out (Ah rfl));have L2:=T (L1.out.tr L2);clear D2;go_wp2_with fail;refine Ay Hw ?_;rintro e w3 ⟨rfl,⟨g3,A3,ca3,B3,cb3⟩,P3,L3,D3⟩;obtain rfl:g3=p.g:=L3.g;have L:=T (L2.out.tr L3);have D3:=T D3;clear Hw L3;have dv:=D3.out.rn.b.cell 21;have c16:=D3.out.rn.b.cell 16;have c17:=D3.out.rn.b.cell 17;have c18:=D3.out.rn.b.cell 18;obtain⟨F,hB,hF⟩:=D3.out.mc.bus;have Hl:=T (λW (f:Fr Aj w3 W)=>Bs.store_any W F a _ (hB.fr0 f) v u x.cnt hb0 hb1 hu0 hu1 HOUT.out);have HB:=T (A9 hB hF);clear hB hF;go_upto_region 5 with(fail);go_region_held (λW=>W.cell? ⟨p.g,16,G⟩=I (J AM x.cnt)∧W.cell? ⟨p.g,18,G⟩=I ↑a.gB) (first|exact⟨s16,s18⟩|exact⟨c16,c18⟩|go_keep)
  (((refine(Hl.out _ (Ao _ w3).drew).mono ?_);intro e w4 hq;obtain⟨rfl,M4,f4⟩:=(D3.out.fr0 (Ao Aj w3).drew).mc.busPost (HB.out.1.fr0 (Ao _ w3).drew) HB.out.2 hq;have D4:=T (Dn.mk ((D3.out.rn.fr0 (Ao _ w3).drew).fr f4 (λk hk e=>e (D3.out.ip k hk))) M4 D3.out.ip D3.out.n0);have L4:=T (L.out.tr ((Lk.fr0 (Ao _ w3).drew).tr (Lk.frP f4)));have s16:=D4.out.rn.b.cell 16;have s18:=D4.out.rn.b.cell 18;clear M4 f4 hq))
 go_wp2
 go_end0;exact⟨rfl,_,_,L4.out,D4.out⟩
end Rn
namespace Gc
open Gs Sv
variable{op:Int}
theorem Js(h:knownB op=Af):op=0∨op=1∨op=2∨op=3∨op=4∨op=5∨op=6∨op=7∨op=8∨op=16∨op=17∨op=18∨op=19∨op=20∨op=21∨op=22∨op=23∨op=24∨op=25∨op=32∨op=33∨op=34∨op=35∨op=36∨op=37∨op=38∨op=39∨op=40∨op=48∨op=49∨op=50∨op=51∨op=52∨op=53∨op=64∨op=65∨op=66∨op=67∨op=68∨op=69:=by
 simp[knownB] at h;omega
theorem U5(h:knownB op=Aa):(op==0)=Aa∧(op==1)=Aa∧(op==2)=Aa∧(op==3)=Aa∧(op==4)=Aa∧(op==5)=Aa∧(op==6)=Aa∧(op==7)=Aa∧(op==8)=Aa∧(op==16)=Aa∧(op==17)=Aa∧(op==18)=Aa∧(op==19)=Aa∧(op==20)=Aa∧(op==21)=Aa∧(op==22)=Aa∧(op==23)=Aa∧(op==24)=Aa∧(op==25)=Aa∧(op==32)=Aa∧(op==33)=Aa∧(op==34)=Aa∧(op==35)=Aa∧(op==36)=Aa∧(op==37)=Aa∧(op==38)=Aa∧(op==39)=Aa∧(op==40)=Aa∧(op==48)=Aa∧(op==49)=Aa∧(op==50)=Aa∧(op==51)=Aa∧(op==52)=Aa∧(op==53)=Aa∧(op==64)=Aa∧(op==65)=Aa∧(op==66)=Aa∧(op==67)=Aa∧(op==68)=Aa∧(op==69)=Aa:=by
 simp only[beq_eq_false_iff_ne,ne_eq];simp[knownB] at h;omega
theorem size_un(h:knownB op=Aa):sizeI op=0:=by
 simp[knownB] at h;have h1:shortB op=Aa:=by simp[shortB];omega
 have h2:knownB op=Aa:=by simp[knownB];omega
 unfold sizeI;rw[h1,h2,Ae AB,Ae O,Ae AB]
theorem U6(w:Ac)(op:Int)(h:knownB op=Aa):At Tryz.prog 119 #[J Z op] w λe w'=>e=Ax (J Z 0)∧w=w':=by
 obtain⟨n0,n1,n2,n3,n4,n5,n6,n7,n8,n16,n17,n18,n19,n20,n21,n22,n23,n24,n25,n32,n33,n34,n35,n36,n37,n38,n39,n40,n48,n49,n50,n51,n52,n53,n64,n65,n66,n67,n68,n69⟩:=U5 h;exact N6
theorem size_any(w:Ac)(op:Int):At Tryz.prog 119 #[J Z op] w λe w'=>e=Ax (J Z (sizeI op))∧w=w':=by
 cases h:knownB op
 ·rw[size_un h];exact U6 w op h
 ·rcases Js h with rfl|rfl|rfl|rfl|rfl|rfl|rfl|rfl|rfl|rfl|rfl|rfl|rfl|rfl|rfl|rfl|rfl|rfl|rfl|rfl|rfl|rfl|rfl|rfl|rfl|rfl|rfl|rfl|rfl|rfl|rfl|rfl|rfl|rfl|rfl|rfl|rfl|rfl|rfl|rfl
  all_goals
   clear h;go_in
   go_wp2
   go_ret;exact⟨AI,rfl⟩
end Gc
namespace Gc
open Gs Sv
theorem ends_any(w:Ac)(op:Int):At Tryz.prog 123 #[J Z op] w λe w'=>e=Ax (Ap (endsB op))∧w=w':=by
 have hc:op<32∨(32≤op∧op≤40)∨(40<op∧op<64)∨(64≤op∧op≤69)∨69<op:=O;obtain⟨q,hq⟩:=Az (endsB op);rw[hq];rcases hc with h|h|h|h|h;·have e:=Jt;exact GO
 ·have e:q=Af:=by rw[←hq];simp[endsB];omega
  exact Ju
 ·have e:=Jt;subst e;obtain⟨h1,h2⟩:=h;have d1:=GP;have d2:decide (64≤op)=Aa:=A8;exact FL
 ·have e:q=Af:=by rw[←hq];simp[endsB];omega
  subst e;obtain⟨h1,h2⟩:=h;have d1:=GP;exact FL
 ·have e:=Jt;subst e;have d1:=GP;exact N7
theorem U7(w:Ac)(op:Int):At Tryz.prog 154 #[J Z op] w λe w'=>e=Ax (Ap (superB op))∧w=w':=by
 have hc:op<65∨(65≤op∧op≤69)∨69<op:=O;obtain⟨q,hq⟩:=Az (superB op);rw[hq];rcases hc with h|h|h;·have e:q=Aa:=Jv;exact GO
 ·have e:q=Af:=Jv;exact Ju
 ·have e:q=Aa:=Jv;subst e;exact N7
theorem plain_any(w:Ac)(op:Int):At Tryz.prog 131 #[J Z op] w λe w'=>e=Ax (Ap (plainB op))∧w=w':=by
 have hc:op<0∨(0≤op∧op≤8)∨(8<op∧op<16)∨(16≤op∧op≤25∧op≠24)∨op=24∨(25<op∧op<32)∨(32≤op∧op≤40)∨40<op:=O;obtain⟨q,hq⟩:=Az (plainB op);rw[hq];rcases hc with h|h|h|h|h|h|h|h;·have e:=GQ;exact GO
 ·have e:=Jw;exact Ju
 ·have e:=GQ;exact N9
 ·have e:=Jw;subst e;obtain⟨h1,h2,h3⟩:=h;have d1:=GR;have d3:(op !=24)=Af:=by simp;exact h3
  have d4:(op==24)=Aa:=by simp;exact h3
  exact FL
 ·subst h;have e:q=Aa:=by rw[←hq];decide
  exact GO
 ·have e:=GQ;subst e;obtain⟨h1,h2⟩:=h;have d1:=GR;have d2:=Jx;exact FL
 ·have e:=Jw;exact N9
 ·have e:=GQ;subst e;have d1:=GR;have d2:=GP;have d3:=Jx;exact FL
theorem size_cases(op:Int):sizeI op=0∨sizeI op=1∨sizeI op=2∨sizeI op=5:=by
 unfold sizeI;split;·omega
 split;·omega
 split<;>omega
abbrev insV(i:Ins):As:=AA #[J Z i.op,J V i.n]
theorem right_any(w:Ac)(i:Ins):At Tryz.prog 133 #[insV i] w λe w'=>e=Ax (Ap (rightI i))∧Fr Aj w w':=by
 have F1:=T ((Ao Aj w).alloc (.cells #[J Z i.op,J V i.n] 26));obtain⟨op,n⟩:=i;have Hs:=T (λW=>size_any W op);have e:rightI ⟨op,n⟩=if sizeI op=0 then Aa else if sizeI op=1 then decide (n=0) else if sizeI op=2 then decide (n≤255) else Af:=rfl;rw[e];clear e;rcases size_cases op with h|h|h|h;·rw[h] at Hs⊢;clear h;simp only[if_true];exact GS
 ·rw[h] at Hs⊢;clear h;have hb:(n==0)=decide (n=0):=by by_cases q:n=0<;>simp[q]
  simp only[Int.reduceEq,if_true,if_false];generalize decide (n=0)=q at*;exact GS
 ·rw[h] at Hs⊢;clear h;simp only[Int.reduceEq,if_true,if_false];generalize hq:decide (n≤255)=q at*;exact GS
 ·rw[h] at Hs⊢;clear h;simp only[Int.reduceEq,if_true,if_false];exact GS
end Gc
namespace Sp
open Gs Sv Gc
theorem U8{fn:Func}{t u v x:Tmp}(h:fn.results=#[.tmp t,.tmp u,.tmp v,.tmp x])(tmps:AL)(P:BW)(w:Ac):(results fn tmps).run P w=.ok (AD #[tmps.getD t Bt,tmps.getD u Bt,tmps.getD v Bt,tmps.getD x Bt]) w:=by
 simp[results,h]
def needsV(op:Int):As:=AD #[J Z (Gs.takeD op),J Z (Gs.putD op),J Z (Gs.takeR op),J Z (Gs.putR op)]
theorem U9(w:Ac)(op:Int)(h:knownB op=Af):At Tryz.prog 157 #[J Z op] w λe w'=>e=Ax (needsV op)∧w=w':=by
 rcases Js h with rfl|rfl|rfl|rfl|rfl|rfl|rfl|rfl|rfl|rfl|rfl|rfl|rfl|rfl|rfl|rfl|rfl|rfl|rfl|rfl|rfl|rfl|rfl|rfl|rfl|rfl|rfl|rfl|rfl|rfl|rfl|rfl|rfl|rfl|rfl|rfl|rfl|rfl|rfl|rfl
 all_goals
  clear h;go_in
  go_wp2
  refine Bf (U8 rfl _ _ _) rfl ?_;exact⟨AI,rfl⟩
theorem UA{i:Ins}(h:rightI i=Af):knownB i.op=Af:=by
 cases hk:knownB i.op
 ·rw[rightI,size_un hk] at h;simp at h
 ·rfl
end Sp
end Go.Proofs.YtpmlgdopfafcgaaGreatDoor
