/- The statement of law TopFibsRow, for every argument: the walk's outcome. -/
import Derived.Test.YtdfegdoeebaagaaGreatDoorY47
import Derived.Test.YtdfegdoeebaagaaGreatDoorCards
import Derived.Test.YtdfegdoeebaagaaGreatDoorRows
import Derived.Test.YtdfegdoeebaagaaGreatDoorTie
open Go.Value renaming int→J
open Option renaming some→I,none→G
open Go.IntKind renaming u32→V,u8→AD
open Go renaming World→Aa,Calls→As,Value→At,TypeId→AN
open Bool renaming false→Ac,true→Ag
open Go.Ending renaming returned→Av
open Nat renaming eq_zero_or_pos→Gr
open Option.some renaming inj→GE
set_option linter.all false
set_option maxHeartbeats 40000000
set_option maxRecDepth 1000000
open Go Go.RowKit
namespace Go.Proofs.YtdfegdoeebaagaaGreatDoor
namespace topFibs
open Go.ChangeShapes Go.WideShapes Go.ChangeAt Go.Deep
open Go.ChangeMaps (open_string shut_string)
theorem own:ownKnob Tryz.prog.godebug=G:=AL
theorem gTab:Tryz.prog.globalNamed "math/bits.deBruijn32tab" =I 0:=AL
theorem gTabType:(Tryz.prog.globals[0]?).map (·.type)=I 241:=AL
theorem cellsA:Tryz.prog.cellsOf 241=32:=AL
theorem cellsE:Tryz.prog.cellsOf 5=1:=AL
theorem laidTab{W:Aa}(h:laidMetH Tryz.prog Rows.topFibsRow.laid W):Iq.Tab W:=by
 have ht:Lib.TabIs Tryz.prog W "math/bits.deBruijn32tab" AD Iq.tab:=Lib.tabIs_of_head (rest:=[]) gTab gTabType Tryz.underlying241 Tryz.underlying5 cellsE cellsA h;have hc: ∀i,i<32→W.cell? ⟨0,i,G⟩=I (J AD (Iq.tab.getD i 0)):=λi hi=>by
  have:=ht.cell gTab i (by simpa[Iq.tab] using hi);exact this
 refine⟨?_,hc⟩;rcases Gr ↑W with h0|h0;·have h1:=hc 0 O;have:W.heap[0]?=G:=Array.getElem?_eq_none O;simp[World.cell?,this] at h1
 ·exact h0
set_option maxRecDepth 1000000 in
theorem contract(H:Type)(enc:AN×At→H)(W:Aa)(base:Nat)(args:AP)(ds gs:List (DataW H))(before:List MemPlace)(hval: ∀(j:Nat) t v,Tryz.f4.params[j]?=I t→args[j]?=I v→Value.okWide Tryz.prog W .any base t v)(hW:DataW.Whole enc Tryz.prog Tryz.f4.params.toList Rows.topFibsSpec.vars Ac W args.toList ds gs before)(hL:laidMetH Tryz.prog Rows.topFibsRow.laid W):As Tryz.prog 4 args W λe W'=> ∃v,e=Av v∧Rows.topFibsSpec.post enc Tryz.prog Tryz.f4 Ac Ag Ac Ac W args v W':=by
 have hW':=hW;obtain⟨p,q,hA0,hV,rfl,hfz,hnd⟩:=hW;have hA:DataW.TrodAll enc Tryz.prog W 0 (λ_=>Ag) Ag Tryz.f4.params.toList args.toList ds p:=hA0;rw[Tryz.params4] at hA hval;obtain⟨v0,vs0,d0,ds0,p0,q0,hargs,rfl,rfl,h0,r0⟩:=trodAll_cons hA;obtain⟨rfl,rfl,rfl⟩:=trodAll_nil r0;obtain rfl:args=#[v0]:=by cases args;simp_all
 obtain⟨rfl,rfl⟩:=trodVars_none hV;obtain⟨a0,rfl,rfl,rfl,w0⟩:=open_int Tryz.underlying22 (hval 0 22 v0 rfl rfl) h0;clear hA0;refine(walk W (laidTab hL) a0 w0).mono λe W' ⟨he,hg⟩=>?_;have bel:=hg.none_below;subst he;exact⟨_,rfl,_,_,_,[],_,[],hW',trodAll_mk1 (shut_bool Tryz.underlying4 _),(trodAll_cons_mk (shut_int Tryz.underlying22 w0) trodAll_mk0),rfl,bel.frame _,λh=>by cases h⟩
noncomputable def Th(os:Os):Aa:=
 {World.holding Tryz.prog os ⟨#[],#[],[]⟩ with heap:=(World.holding Tryz.prog os ⟨#[],#[],[]⟩).heap.modify 0 fun
  |.cells _ t frozen=> .cells #[J AD 0,J AD 1,J AD 28,J AD 2,J AD 29,J AD 14,J AD 24,J AD 3,J AD 30,J AD 22,J AD 20,J AD 15,J AD 25,J AD 17,J AD 4,J AD 8,J AD 31,J AD 27,J AD 13,J AD 23,J AD 21,J AD 19,J AD 16,J AD 7,J AD 26,J AD 12,J AD 18,J AD 6,J AD 11,J AD 5,J AD 10,J AD 9] t frozen
  |o=>o}
theorem laid_met(os:Os):laidMet Tryz.prog Rows.topFibsRow.laid ((Th os).forCall (λ_ _=>0) ⟨#[],#[J V 0],[]⟩).memory:=
 laidMet_of_run' 8 AL AL
theorem reads(os:Os){H:Type}(enc:AN×At→H): ∃places,DataW.whole enc Tryz.prog ((Th os).forCall (λ_ _=>0) ⟨#[],#[J V 0],[]⟩).memory Tryz.f4.params.toList Rows.topFibsSpec.vars Ac (#[J V 0]:AP).toList 8=I ([.lit (.int V 0)],[],places):=
 ⟨[],AL⟩
set_option maxRecDepth 100000 in
theorem lifted(os:Os)(started:os.Started)(H:Type)(enc:AN×At→H)(F:Stop.Interp):ReturnsInHanded {} Tryz.checked os 4 .any ((OpenSpec.ofChange Rows.topFibsSpec).preRow enc Tryz.prog Tryz.f4 Rows.topFibsRow.domain Ac Rows.topFibsRow.laid) (((OpenSpec.ofChange Rows.topFibsSpec).at F).post enc Tryz.prog Tryz.f4 Ac Ag Ac Ac):=by
 obtain⟨places,hx⟩:=reads os enc;refine returnsInHanded_of_row (C:=Tryz.checked) (s:=OpenSpec.ofChange Rows.topFibsSpec) own started AL Tryz.func4
  (witness_row_at (enc:=enc) (C:=Tryz.checked) Ac (Th os) #[J V 0] rfl AL AL AL
   (OpenSpec.preRow_of_cond 8 hx AL (λk hk=>by cases hk) AL (laid_met os))) ?_
 intro W base args ds gs before hval hW _ _ _ hL _ _;exact contract H enc W base args ds gs before hval hW hL
theorem said:Rows.TopFibsSaid:=
 OpenClaim.holds_of_cond 4 Tryz.f4 rfl rfl rfl rfl rfl rfl rfl ⟨rfl,rfl,rfl,rfl,rfl⟩ rfl rfl rfl rfl rfl AL Tryz.func4 AL
  (of_decide_eq_true AL) (by unfold Func.isWrapper;first|(rw[An (by decide+kernel)];kernel_rfl)|(rw[Ae (by decide+kernel)];exact⟨rfl,rfl⟩))
  (λos started H enc _ F=>by rw[OpenClaim.pre_eq_preRow];exact lifted os started H enc F)
theorem plain(f:FuncId)(fn:Func)(hf:Tryz.pinned.checked.prog.funcNamed "innkeeper/innkeepertop.TopFibs" =I f)(hfn:Tryz.pinned.checked.prog.funcs[f]?=I fn):Ac=Tryz.pinned.checked.prog.looks []∧ ∀(j:Nat) t,fn.params[j]?=I t→Tryz.pinned.checked.prog.wantsStandIn t=Ac:=by
 obtain rfl:f=4:=GE ((show Tryz.prog.funcNamed "innkeeper/innkeepertop.TopFibs" =I 4 by kernel_rfl).symm.trans hf)|>.symm;obtain rfl:fn=Tryz.f4:=(GE (Tryz.func4.symm.trans hfn)).symm;refine⟨AL,λj t ht=>?_⟩;rw[Tryz.params4] at ht;have hm:=Array.mem_of_getElem? ht;simp at hm;have w0:Tryz.prog.wantsStandIn 22=Ac:=AL;obtain rfl:t=22:=KL;exact w0
theorem proved:Rows.TopFibsCardSaid:=
 Claim7.holds_tied_plain_at .later [] _ _ _ _ said (λ_ h=>by cases h) AL (λ_ h=>by cases h) topFibs_row_tie rfl ⟨rfl,rfl⟩ AL rfl plain AL
end topFibs
end Go.Proofs.YtdfegdoeebaagaaGreatDoor
