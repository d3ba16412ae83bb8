/- The statement of law TopSectorsRow, for every argument: the walk's outcome. -/
import Derived.Test.YtdfegdoeebaagaaGreatDoorX47
import Derived.Test.YtdfegdoeebaagaaGreatDoorCards
import Derived.Test.YtdfegdoeebaagaaGreatDoorRows
import Derived.Test.YtdfegdoeebaagaaGreatDoorTie
open Go.Value renaming slice→Z,int→J
open Option renaming some→I,none→G
open Go.IntKind renaming u32→V,u8→AB
open Go renaming World→Aa,Value→As,Calls→At,TypeId→AN,maxLen→BQ
open Bool renaming false→Ac,true→Ag
open Go.Ending renaming returned→Ax
open Nat renaming le_refl→AD,le_trans→Bf,eq_zero_or_pos→Gq
open Go.Proofs.Tryz renaming underlying23→CI
open Option.some renaming inj→GG
set_option linter.all false
set_option maxHeartbeats 40000000
set_option maxRecDepth 1000000
open Go Go.RowKit
namespace Go.Proofs.YtdfegdoeebaagaaGreatDoor
namespace topSectors
open Go.ChangeShapes Go.WideShapes Go.ChangeAt Go.Deep
open Go.ChangeMaps (open_string shut_string)
theorem own:ownKnob Tryz.prog.godebug=G:=AL
theorem laidOut:laidOutB Tryz.prog=Ag:=AL
theorem gTab:Tryz.prog.globalNamed "math/bits.deBruijn32tab" =I 0:=AL
theorem gTabType:(Tryz.prog.globals[0]?).map (·.type)=I 241:=AL
theorem cellsA:Tryz.prog.cellsOf 241=32:=AL
theorem cellsE:Tryz.prog.cellsOf 5=1:=AL
theorem laidTab{W:Aa}(h:laidMetH Tryz.prog Rows.topSectorsRow.laid W):Iq.Tab W:=by
 have ht:Lib.TabIs Tryz.prog W "math/bits.deBruijn32tab" AB Iq.tab:=Lib.tabIs_of_head (rest:=[]) gTab gTabType Tryz.underlying241 Tryz.underlying5 cellsE cellsA h;have hc: ∀i,i<32→W.cell? ⟨0,i,G⟩=I (J AB (Iq.tab.getD i 0)):=λi hi=>by
  have:=ht.cell gTab i (by simpa[Iq.tab] using hi);exact this
 refine⟨?_,hc⟩;rcases Gq ↑W with h0|h0;·have h1:=hc 0 O;have:W.heap[0]?=G:=Array.getElem?_eq_none O;simp[World.cell?,this] at h1
 ·exact h0
set_option maxRecDepth 1000000 in
theorem contract(H:Type)(enc:AN×As→H)(W:Aa)(base:Nat)(args:AO)(ds gs:List (DataW H))(before:List MemPlace)(hval: ∀(j:Nat) t v,Tryz.f3.params[j]?=I t→args[j]?=I v→Value.okWide Tryz.prog W .any base t v)(hW:DataW.Whole enc Tryz.prog Tryz.f3.params.toList Rows.topSectorsSpec.vars Ac W args.toList ds gs before)(hL:laidMetH Tryz.prog Rows.topSectorsRow.laid W):At Tryz.prog 3 args W λe W'=> ∃v,e=Ax v∧Rows.topSectorsSpec.post enc Tryz.prog Tryz.f3 Ac Ag Ac Ac W args v W':=by
 have hW':=hW;obtain⟨p,q,hA0,hV,rfl,hfz,hnd⟩:=hW;have hA:DataW.TrodAll enc Tryz.prog W 0 (λ_=>Ag) Ag Tryz.f3.params.toList args.toList ds p:=hA0;rw[Tryz.params3] at hA hval;obtain⟨v0,vs0,d0,ds0,p0,q0,hargs,rfl,rfl,h0,r0⟩:=trodAll_cons hA;obtain⟨v1,vs1,d1,ds1,p1,q1,rfl,rfl,rfl,h1,r1⟩:=trodAll_cons r0;obtain⟨rfl,rfl,rfl⟩:=trodAll_nil r1;obtain rfl:args=#[v0,v1]:=by cases args;simp_all
 obtain⟨rfl,rfl⟩:=trodVars_none hV;obtain⟨a0,rfl,rfl,rfl,w0⟩:=open_int Tryz.underlying22 (hval 0 22 v0 rfl rfl) h0;obtain⟨a1,len1,cap1,rfl⟩:=okWide_slice CI (hval 1 23 v1 rfl rfl);have k1:=h1;have lt1: ∀x∈p1,x.block<↑W:=by obtain⟨m,hm⟩:=k1;exact DataW.trod_lt m _ _ _ hm
 obtain⟨z1,w1,m1,n1⟩: ∃zs,IntsAt AB W ↑W a1 len1 zs∧len1≤BQ∧len1≤cap1:=by
  obtain⟨fuel,hf⟩:=h1;rcases open_ints CI Tryz.underlying5 AL hf with⟨hcs,_⟩|⟨x,l,c,zs,hcs,_,hl,hm,hz,hx,hcell,hwz⟩;·simp[Value.cells] at hcs;obtain⟨rfl,rfl,rfl⟩:=hcs;exact⟨[],Nc _ _ _ _,Jc,AD _⟩
  ·simp[Value.cells] at hcs;obtain⟨rfl,rfl,rfl⟩:=hcs;exact⟨zs.take len1,kK (by simp at hz;omega) hcell hwz,Bf hl hm,hl⟩
 clear hA0;refine(walk W (laidTab hL) a0 w0 a1 len1 cap1 n1 z1 w1 m1).mono λe W' ⟨he,hg⟩=>?_;have bel:=hg.none_below;subst he;exact⟨_,rfl,_,_,_,[],_,[],hW',trodAll_mk1 (shut_bool Tryz.underlying4 _),(trodAll_cons_mk (shut_int Tryz.underlying22 w0) (trodAll_cons_mk (Below.trod laidOut AL (of_decide_eq_true AL) k1 bel lt1) trodAll_mk0)),rfl,bel.frame _,λh=>by cases h⟩
noncomputable def Th(os:Os):Aa:=
 {World.holding Tryz.prog os ⟨#[],#[],[]⟩ with heap:=(World.holding Tryz.prog os ⟨#[],#[],[]⟩).heap.modify 0 fun
  |.cells _ t frozen=> .cells #[J AB 0,J AB 1,J AB 28,J AB 2,J AB 29,J AB 14,J AB 24,J AB 3,J AB 30,J AB 22,J AB 20,J AB 15,J AB 25,J AB 17,J AB 4,J AB 8,J AB 31,J AB 27,J AB 13,J AB 23,J AB 21,J AB 19,J AB 16,J AB 7,J AB 26,J AB 12,J AB 18,J AB 6,J AB 11,J AB 5,J AB 10,J AB 9] t frozen
  |o=>o}
theorem laid_met(os:Os):laidMet Tryz.prog Rows.topSectorsRow.laid ((Th os).forCall (λ_ _=>0) ⟨#[],#[J V 0,Z G 0 0],[]⟩).memory:=
 laidMet_of_run' 8 AL AL
theorem reads(os:Os){H:Type}(enc:AN×As→H): ∃places,DataW.whole enc Tryz.prog ((Th os).forCall (λ_ _=>0) ⟨#[],#[J V 0,Z G 0 0],[]⟩).memory Tryz.f3.params.toList Rows.topSectorsSpec.vars Ac (#[J V 0,Z G 0 0]:AO).toList 8=I ([.lit (.int .u32 0),.nil],[],places):=
 ⟨[],AL⟩
set_option maxRecDepth 100000 in
theorem lifted(os:Os)(started:os.Started)(H:Type)(enc:AN×As→H)(F:Stop.Interp):ReturnsInHanded {} Tryz.checked os 3 .any ((OpenSpec.ofChange Rows.topSectorsSpec).preRow enc Tryz.prog Tryz.f3 Rows.topSectorsRow.domain Ac Rows.topSectorsRow.laid) (((OpenSpec.ofChange Rows.topSectorsSpec).at F).post enc Tryz.prog Tryz.f3 Ac Ag Ac Ac):=by
 obtain⟨places,hx⟩:=reads os enc;refine returnsInHanded_of_row (C:=Tryz.checked) (s:=OpenSpec.ofChange Rows.topSectorsSpec) own started AL Tryz.func3
  (witness_row_at (enc:=enc) (C:=Tryz.checked) Ac (Th os) #[J V 0,Z G 0 0] rfl AL AL AL
   (OpenSpec.preRow_of_cond 8 hx AL (λk hk=>by cases hk) AL (laid_met os))) ?_
 intro W base args ds gs before hval hW _ _ _ hL _ _;exact contract H enc W base args ds gs before hval hW hL
theorem said:Rows.TopSectorsSaid:=
 OpenClaim.holds_of_cond 3 Tryz.f3 rfl rfl rfl rfl rfl rfl rfl ⟨rfl,rfl,rfl,rfl,rfl⟩ rfl rfl rfl rfl rfl AL Tryz.func3 AL
  (of_decide_eq_true AL) (by unfold Func.isWrapper;first|(rw[An (by decide+kernel)];kernel_rfl)|(rw[Ae (by decide+kernel)];exact⟨rfl,rfl⟩))
  (λos started H enc _ F=>by rw[OpenClaim.pre_eq_preRow];exact lifted os started H enc F)
theorem plain(f:FuncId)(fn:Func)(hf:Tryz.pinned.checked.prog.funcNamed "innkeeper/innkeepertop.TopSectors" =I f)(hfn:Tryz.pinned.checked.prog.funcs[f]?=I fn):Ac=Tryz.pinned.checked.prog.looks []∧ ∀(j:Nat) t,fn.params[j]?=I t→Tryz.pinned.checked.prog.wantsStandIn t=Ac:=by
 obtain rfl:f=3:=GG ((show Tryz.prog.funcNamed "innkeeper/innkeepertop.TopSectors" =I 3 by kernel_rfl).symm.trans hf)|>.symm;obtain rfl:fn=Tryz.f3:=(GG (Tryz.func3.symm.trans hfn)).symm;refine⟨AL,λj t ht=>?_⟩;rw[Tryz.params3] at ht;have hm:=Array.mem_of_getElem? ht;simp at hm;have w0:Tryz.prog.wantsStandIn 22=Ac:=AL;have w1:Tryz.prog.wantsStandIn 23=Ac:=AL;rcases hm with rfl|rfl;·exact w0
 ·exact w1
theorem proved:Rows.TopSectorsCardSaid:=
 Claim7.holds_tied_plain_at .later [] _ _ _ _ said (λ_ h=>by cases h) AL (λ_ h=>by cases h) topSectors_row_tie rfl ⟨rfl,rfl⟩ AL rfl plain AL
end topSectors
end Go.Proofs.YtdfegdoeebaagaaGreatDoor
