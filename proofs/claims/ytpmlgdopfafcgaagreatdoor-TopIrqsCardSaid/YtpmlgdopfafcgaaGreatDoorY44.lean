/- The statement of law TopIrqsRow, for every argument: the walk's outcome. -/
import Derived.Test.YtpmlgdopfafcgaaGreatDoorY43
import Derived.Test.YtpmlgdopfafcgaaGreatDoorCards
import Derived.Test.YtpmlgdopfafcgaaGreatDoorRows
import Derived.Test.YtpmlgdopfafcgaaGreatDoorTie
open Go.Value renaming int→J,slice→U,bool→Ap,tuple→AD,ownBlock→Bp,agg→AA,pointer→Bi
open Option renaming some→I,none→G
open Go.IntKind renaming i64→Z,u32→V,u64→AM,u8→AC,wrap_u64→Dk,wrap_u32→DH
open Bool renaming false→Aa,true→Af,false_ne_true→Da,false_and→D7
open Go renaming World→Ac,Value→As,Calls→At,bodyPost_ret→Bf,TypeId→AK,wp_region_held_drew→BY,info_parts→BH,Ending→AT,madeCells→Cb,maxLen→Br,Program→BW,undef→Bt,wpList→BL,bits→Bb,run_underlying→CX
open List renaming getD_eq_getElem?_getD→AN,getElem?_eq_getElem→Bj,length_append→BJ,append_assoc→BM,mem_map→Bo,getElem?_take_of_lt→Cw,replicate→BK,range→Bm,getElem?_append_right→CB,getElem_mem→BU,mem_append→BZ,getElem?_append_left→CO,getElem?_map→C7,cons_append→CC,mem_filter→C8,length_pos_iff→CP,length_cons→CK,mem_cons→Cy,getLastD_eq_getLast?→Dg,nil_append→CI,getElem?_eq_none→De,dropLast_concat→Do,mem_singleton→Dv,map_append→Df,length_map→Di,getElem_of_mem→DD,length_nil→Dp,concat_eq_append→DI,getElem?_range→DL,range_succ→DB,getElem?_replicate→DW,singleton_append→DV,map_cons→D6,map_map→D8,setIfInBounds_toArray→Eb
open Go.Ending renaming returned→Ax
open And renaming intro→A9
open Nat renaming le_refl→AE,lt_of_lt_of_le→AW,le_trans→AS,zero_le→AU,zero_add→Bn,eq_zero_or_pos→Dm,reduceEqDiff→Dq
open Or renaming inl→Ag,inr→Ah
open Go.Proofs.Tryz renaming underlying41→AP,underlying31→CF,underlying22→CV,underlying215→Dl,underlying26→DN
open Go.RowKit renaming intOf→AJ
open Int renaming eq_ofNat_of_zero_le→CM,toNat_natCast→C4,emod_eq_of_lt→CZ
open Go.Builtin renaming zeroCells→CG,delete_→Eh
open Array renaming getElem?_toList→CN,getElem?_eq_some_iff→DX
open Go.Region renaming wanted→CA
open Go.Result renaming andThen→CT
open Option.some renaming inj→Ds
open Go.MapKept renaming run_getObj_map→DJ,run_setObj_map→Ef
open Go.Instr renaming makeSlice→Dj,mapUpdate→DK
open Go.IntWalk renaming i64_in→Du
open Go.Lit renaming int→C9
open Go.Sem renaming run_bind→D5
set_option linter.all false
set_option maxHeartbeats 40000000
set_option maxRecDepth 1000000
open Go Go.RowKit
namespace Go.Proofs.YtpmlgdopfafcgaaGreatDoor
namespace topIrqs
open Go.ChangeShapes Go.WideShapes Go.ChangeAt Go.Deep
open Go.ChangeMaps (open_string shut_string)
theorem own:ownKnob Tryz.prog.godebug=G:=AI
theorem laidOut:laidOutB Tryz.prog=Af:=AI
theorem gTab:Tryz.prog.globalNamed "math/bits.deBruijn32tab" =I 0:=AI
theorem gTabType:(Tryz.prog.globals[0]?).map (·.type)=I 238:=AI
theorem cellsA:Tryz.prog.cellsOf 238=32:=AI
theorem cellsE:Tryz.prog.cellsOf 5=1:=AI
theorem laidTab{W:Ac}(h:laidMetH Tryz.prog Rows.topIrqsRow.laid W):Iq.Tab W:=by
 have ht:Lib.TabIs Tryz.prog W "math/bits.deBruijn32tab" AC Iq.tab:=Lib.tabIs_of_head (rest:=[]) gTab gTabType Tryz.underlying238 Tryz.underlying5 cellsE cellsA h;have hc: ∀i,i<32→W.cell? ⟨0,i,G⟩=I (.int AC (Iq.tab.getD i 0)):=λi hi=>by
  have:=ht.cell gTab i (by simpa[Iq.tab] using hi);exact this
 refine⟨?_,hc⟩;rcases Dm ↑W with h0|h0;·have h1:=hc 0 O;have:W.heap[0]?=G:=Array.getElem?_eq_none O;simp[World.cell?,this] at h1
 ·exact h0
set_option maxRecDepth 1000000 in
theorem contract(H:Type)(enc:AK×As→H)(W:Ac)(base:Nat)(args:AL)(ds gs:List (DataW H))(before:List MemPlace)(hval: ∀(j:Nat) t v,Tryz.f3.params[j]?=I t→args[j]?=I v→Value.okWide Tryz.prog W .any base t v)(hW:DataW.Whole enc Tryz.prog Tryz.f3.params.toList Rows.topIrqsSpec.vars Aa W args.toList ds gs before)(hL:laidMetH Tryz.prog Rows.topIrqsRow.laid W):At Tryz.prog 3 args W λe W'=> ∃v,e=Ax v∧Rows.topIrqsSpec.post enc Tryz.prog Tryz.f3 Aa Af Aa Aa W args v W':=by
 have hW':=hW;obtain⟨p,q,hA0,hV,rfl,hfz,hnd⟩:=hW;have hA:DataW.TrodAll enc Tryz.prog W 0 (λ_=>Af) Af Tryz.f3.params.toList args.toList ds p:=hA0;rw[Tryz.params3] at hA hval;obtain⟨v0,vs0,d0,ds0,p0,q0,hargs,rfl,rfl,h0,r0⟩:=trodAll_cons hA;obtain⟨v1,vs1,d1,ds1,p1,q1,rfl,rfl,rfl,h1,r1⟩:=trodAll_cons r0;obtain⟨v2,vs2,d2,ds2,p2,q2,rfl,rfl,rfl,h2,r2⟩:=trodAll_cons r1;obtain⟨rfl,rfl,rfl⟩:=trodAll_nil r2;obtain rfl:args=#[v0,v1,v2]:=by cases args;simp_all
 obtain⟨rfl,rfl⟩:=trodVars_none hV;obtain⟨a0,rfl,rfl,rfl,w0⟩:=open_int Tryz.underlying3 (hval 0 3 v0 rfl rfl) h0;obtain⟨a1,len1,cap1,rfl⟩:=okWide_slice CV (hval 1 22 v1 rfl rfl);have k1:=h1;have lt1: ∀x∈p1,x.block<↑W:=by obtain⟨m,hm⟩:=k1;exact DataW.trod_lt m _ _ _ hm
 obtain⟨z1,w1,m1,n1⟩: ∃zs,IntsAt Z W ↑W a1 len1 zs∧len1≤Br∧len1≤cap1:=by
  obtain⟨fuel,hf⟩:=h1;rcases open_ints CV Tryz.underlying3 AI hf with⟨hcs,_⟩|⟨x,l,c,zs,hcs,_,hl,hm,hz,hx,hcell,hwz⟩;·simp[Value.cells] at hcs;obtain⟨rfl,rfl,rfl⟩:=hcs;exact⟨[],Gy _ _ _ _,DT,AE _⟩
  ·simp[Value.cells] at hcs;obtain⟨rfl,rfl,rfl⟩:=hcs;exact⟨zs.take len1,TJ (by simp at hz;omega) hcell hwz,AS hl hm,hl⟩
 obtain⟨a2,rfl,rfl,rfl,w2⟩:=open_int Tryz.underlying3 (hval 2 3 v2 rfl rfl) h2;clear hA0;refine(walk W (laidTab hL) a0 w0 a1 len1 cap1 n1 z1 w1 m1 a2 w2).mono λe W' ⟨he,hg⟩=>?_;have bel:=hg.none_below;subst he;exact⟨_,rfl,_,_,_,[],_,[],hW',trodAll_mk1 (shut_bool Tryz.underlying4 _),(trodAll_cons_mk (shut_int Tryz.underlying3 w0) (trodAll_cons_mk (Below.trod laidOut AI (of_decide_eq_true AI) k1 bel lt1) (trodAll_cons_mk (shut_int Tryz.underlying3 w2) trodAll_mk0))),rfl,bel.frame _,λh=>by cases h⟩
noncomputable def KX(os:Os):Ac:=
 {World.holding Tryz.prog os ⟨#[],#[],[]⟩ with heap:=(World.holding Tryz.prog os ⟨#[],#[],[]⟩).heap.modify 0 fun
  |.cells _ t frozen=> .cells #[.int AC 0,.int AC 1,.int AC 28,.int AC 2,.int AC 29,.int AC 14,.int AC 24,.int AC 3,.int AC 30,.int AC 22,.int AC 20,.int AC 15,.int AC 25,.int AC 17,.int AC 4,.int AC 8,.int AC 31,.int AC 27,.int AC 13,.int AC 23,.int AC 21,.int AC 19,.int AC 16,.int AC 7,.int AC 26,.int AC 12,.int AC 18,.int AC 6,.int AC 11,.int AC 5,.int AC 10,.int AC 9] t frozen
  |o=>o}
theorem laid_met(os:Os):laidMet Tryz.prog Rows.topIrqsRow.laid ((KX os).forCall (λ_ _=>0) ⟨#[],#[.int Z 0,U G 0 0,.int Z 0],[]⟩).memory:=
 laidMet_of_run' 8 AI AI
theorem reads(os:Os){H:Type}(enc:AK×As→H): ∃places,DataW.whole enc Tryz.prog ((KX os).forCall (λ_ _=>0) ⟨#[],#[.int Z 0,U G 0 0,.int Z 0],[]⟩).memory Tryz.f3.params.toList Rows.topIrqsSpec.vars Aa (#[.int Z 0,U G 0 0,.int Z 0]:AL).toList 8=I ([.lit (.int .i64 0),.nil,.lit (.int .i64 0)],[],places):=
 ⟨[],AI⟩
set_option maxRecDepth 100000 in
theorem lifted(os:Os)(started:os.Started)(H:Type)(enc:AK×As→H)(F:Stop.Interp):ReturnsInHanded {} Tryz.checked os 3 .any ((OpenSpec.ofChange Rows.topIrqsSpec).preRow enc Tryz.prog Tryz.f3 Rows.topIrqsRow.domain Aa Rows.topIrqsRow.laid) (((OpenSpec.ofChange Rows.topIrqsSpec).at F).post enc Tryz.prog Tryz.f3 Aa Af Aa Aa):=by
 obtain⟨places,hx⟩:=reads os enc;refine returnsInHanded_of_row (C:=Tryz.checked) (s:=OpenSpec.ofChange Rows.topIrqsSpec) own started AI Tryz.func3
  (witness_row_at (enc:=enc) (C:=Tryz.checked) Aa (KX os) #[.int Z 0,U G 0 0,.int Z 0] rfl AI AI AI
   (OpenSpec.preRow_of_cond 8 hx AI (λk hk=>by cases hk) AI (laid_met os))) ?_
 intro W base args ds gs before hval hW _ _ _ hL _ _;exact contract H enc W base args ds gs before hval hW hL
theorem said:Rows.TopIrqsSaid:=
 OpenClaim.holds_of_cond 3 Tryz.f3 rfl rfl rfl rfl rfl rfl rfl ⟨rfl,rfl,rfl,rfl,rfl⟩ rfl rfl rfl rfl rfl AI Tryz.func3 AI
  (of_decide_eq_true AI) (by unfold Func.isWrapper;first|(rw[An (by decide+kernel)];kernel_rfl)|(rw[Ae (by decide+kernel)];exact⟨rfl,rfl⟩))
  (λos started H enc _ F=>by rw[OpenClaim.pre_eq_preRow];exact lifted os started H enc F)
theorem plain(f:FuncId)(fn:Func)(hf:Tryz.pinned.checked.prog.funcNamed "innkeeper/innkeepertop.TopIrqs" =I f)(hfn:Tryz.pinned.checked.prog.funcs[f]?=I fn):Aa=Tryz.pinned.checked.prog.looks []∧ ∀(j:Nat) t,fn.params[j]?=I t→Tryz.pinned.checked.prog.wantsStandIn t=Aa:=by
 obtain rfl:f=3:=Ds ((show Tryz.prog.funcNamed "innkeeper/innkeepertop.TopIrqs" =I 3 by kernel_rfl).symm.trans hf)|>.symm;obtain rfl:fn=Tryz.f3:=(Ds (Tryz.func3.symm.trans hfn)).symm;refine⟨AI,λj t ht=>?_⟩;rw[Tryz.params3] at ht;have hm:=Array.mem_of_getElem? ht;simp at hm;have w0:Tryz.prog.wantsStandIn 3=Aa:=AI;have w1:Tryz.prog.wantsStandIn 22=Aa:=AI;rcases hm with rfl|rfl|rfl;·exact w0
 ·exact w1
 ·exact w0
theorem proved:Rows.TopIrqsCardSaid:=
 Claim7.holds_tied_plain_at .later [] _ _ _ _ said (λ_ h=>by cases h) AI (λ_ h=>by cases h) topIrqs_row_tie rfl ⟨rfl,rfl⟩ AI rfl plain AI
end topIrqs
end Go.Proofs.YtpmlgdopfafcgaaGreatDoor
