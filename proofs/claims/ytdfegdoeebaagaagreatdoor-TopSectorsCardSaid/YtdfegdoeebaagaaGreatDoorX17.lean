import Derived.Test.YtdfegdoeebaagaaGreatDoorX16
open Go.Value renaming int→J,tuple→AF
open Go.IntKind renaming i64→U,u32→V
open Go renaming World→Aa,Calls→At,Ending→AY
open Bool renaming false→Ac
open Go.Ending renaming returned→Ax
open And renaming intro→Ay
open Go.RowKit renaming intOf→AM
open Int renaming toNat_natCast→Du
set_option linter.all false
set_option maxHeartbeats 40000000
set_option maxRecDepth 1000000
open Go Go.RowKit
namespace Go.Proofs.YtdfegdoeebaagaaGreatDoor
namespace Hh
open Gs Tr Em Hc
structure HoneOk(s:Mh)(m:Nat):Prop where
 l:(hone s).s.l=s.l
 go:(hone s).why=0→hrun s.l (m+1) s.at_ ⟨s.g,s.m⟩=hrun s.l m (hone s).s.at_ ⟨(hone s).s.g,(hone s).s.m⟩
 ex:(hone s).why=1→hrun s.l (m+1) s.at_ ⟨s.g,s.m⟩=⟨1,(at_ s.l s.at_.toNat).imm,⟨s.g,s.m⟩⟩∧0≤s.at_∧s.at_<s.l.length
 no:(hone s).why≠0→(hone s).why≠1→hrun s.l (m+1) s.at_ ⟨s.g,s.m⟩=⟨(hone s).why,0,⟨s.g,s.m⟩⟩
 same:(hone s).why≠0→(hone s).s=s
 bd:0≤(hone s).why∧(hone s).why≤5
theorem hone_ok(s:Mh)(m:Nat)(ho:HAll s.l):HoneOk s m:=by
 have key: ∀x:Nat,s.l.getD x ⟨0,0,0,0,0⟩=at_ s.l x:=λ_=>rfl;by_cases hc:s.at_<0∨(s.l.length:Int)≤s.at_
 ·have e:hone s=⟨2,s⟩:=by unfold hone;rw[An hc]
  have e2:hrun s.l (m+1) s.at_ ⟨s.g,s.m⟩=⟨2,0,⟨s.g,s.m⟩⟩:=by rw[hrun,An hc]
  constructor<;>rw[e]
  ·intro h;exact absurd h (by show ¬(2:Int)=0;omega)
  ·intro h;exact absurd h (by show ¬(2:Int)=1;omega)
  ·intro _ _;exact e2
  ·exact λ_=>rfl
  ·exact⟨by show(0:Int)≤2;omega,by show(2:Int)≤5;omega⟩
 ·have e:hone s=hoV s s.at_ (at_ s.l s.at_.toNat):=by unfold hone;rw[Ae hc]
  have hop:=Mn (ho _ (Mo (l:=s.l) (k:=s.at_.toNat) O));have e2: ∀r,hrun s.l (m+1) s.at_ ⟨s.g,s.m⟩=r↔(let i:=at_ s.l s.at_.toNat
   if i.op=16 then hrun s.l m (if s.g i.ra=0 then i.imm else s.at_+1) ⟨s.g,s.m⟩
   else if i.op=17 then hrun s.l m (if s.g i.ra=0 then s.at_+1 else i.imm) ⟨s.g,s.m⟩
   else if i.op=18 then hrun s.l m i.imm ⟨s.g,s.m⟩
   else if i.op=19 then⟨1,i.imm,⟨s.g,s.m⟩⟩
   else match hstep i ⟨s.g,s.m⟩ with
    |none=>⟨4,0,⟨s.g,s.m⟩⟩
    |some s'=>hrun s.l m (s.at_+1) s')=r:=λr=>by
   rw[hrun,Ae hc,key]
   exact Iff.rfl
  obtain⟨i,hi⟩:=A8 (at_ s.l s.at_.toNat);rw[hi] at e hop;simp only[hi] at e2;have zero: ∀t:Mh,hoV s s.at_ i=⟨0,t⟩→t.l=s.l→hrun s.l (m+1) s.at_ ⟨s.g,s.m⟩=hrun s.l m t.at_ ⟨t.g,t.m⟩→HoneOk s m:=λt h1 h2 h3=>by
   constructor<;>rw[e,h1]
   ·exact h2
   ·exact λ_=>h3
   ·intro h;exact absurd h (by show ¬(0:Int)=1;omega)
   ·intro h;exact absurd rfl h
   ·intro h;exact absurd rfl h
   ·exact⟨KM,by show(0:Int)≤5;omega⟩
  by_cases h16:i.op=16;·refine zero (Dj s (if s.g i.ra=0 then i.imm else s.at_+1)) (by unfold hoV;rw[An h16]) rfl ((e2 _).2 ?_);rw[An h16];rfl
  by_cases h17:i.op=17;·refine zero (Dj s (if s.g i.ra=0 then s.at_+1 else i.imm)) (by unfold hoV;rw[Ae h16,An h17]) rfl ((e2 _).2 ?_);rw[Ae h16,An h17];rfl
  by_cases h18:i.op=18;·omega
  by_cases h19:i.op=19
  ·have hv:hoV s s.at_ i=⟨1,s⟩:=by unfold hoV;rw[Ae h16,Ae h17,Ae h18,An h19]
   constructor<;>rw[e,hv]
   ·intro h;exact absurd h (by show ¬(1:Int)=0;omega)
   ·intro _;refine⟨(e2 _).2 ?_,O,O⟩;rw[Ae h16,Ae h17,Ae h18,An h19,hi]
   ·intro _ h;exact absurd rfl h
   ·exact λ_=>rfl
   ·exact⟨by show(0:Int)≤1;omega,by show(1:Int)≤5;omega⟩
  cases hs:hstep i ⟨s.g,s.m⟩ with
  |none=>
   have hv:hoV s s.at_ i=⟨4,s⟩:=Yc;constructor<;>rw[e,hv]
   ·intro h;exact absurd h (by show ¬(4:Int)=0;omega)
   ·intro h;exact absurd h (by show ¬(4:Int)=1;omega)
   ·intro _ _;refine(e2 _).2 ?_;exact Yd
   ·exact λ_=>rfl
   ·exact⟨by show(0:Int)≤4;omega,by show(4:Int)≤5;omega⟩
  |some t=>
   refine zero ⟨t.g,t.m,s.at_+1,s.l⟩ Yc rfl ((e2 _).2 ?_);exact Yd
def RunPost(w:Aa)(p:Mp)(s:Mh)(e:AY)(w':Aa):Prop:=
 ∃(why imm n:Int) (s':Mh),e=Ax (AF #[J U why,J V imm,J U n])∧Mk w' p s'∧Fr p.its w w'∧hrun s.l 4096 s.at_ ⟨s.g,s.m⟩=⟨why,imm,⟨s'.g,s'.m⟩⟩∧(0≤why∧why≤5)∧U32 imm
theorem run_any(w:Aa)(p:Mp)(s:Mh)(h:Mk w p s)(hl:s.l.length≤10000)(ho:HAll s.l):At Tryz.prog 123 #[↑p.gm,J U 4096] w (RunPost w p s):=by
 have H:=T h;have HO:=T ho;have HLL:=T hl;clear h ho hl;go_in;go_wp2_with fail;go_loopw [7] (λi wr=> ∃(k:Nat) (t:Mh),k≤4096∧i=J U k∧Hid (Mk wr p t)∧Hid (Fr p.its w wr)∧Hid (t.l=s.l)∧Hid (hrun s.l 4096 s.at_ ⟨s.g,s.m⟩=hrun s.l (4096 -k) t.at_ ⟨t.g,t.m⟩)) (λi _=>4096 -(AM i).toNat)
 case atStart=>exact⟨0,s,O,rfl,H,T (Ao _ _),T rfl,T rfl⟩
 case round=>
  obtain⟨k,t,hk,rfl,hM,hF,hT,hR⟩:=hrel;by_cases hlt:k<4096
  ·have HOK:=T (hone_ok t (4096 -k -1) (by rw[hT.out];exact HO.out));have Hs:=T (step_any wr p t hM.out (by rw[hT.out];exact HLL.out) (by rw[hT.out];exact HO.out));obtain⟨o,hov⟩:=A8 (hone t);have HOV:=T hov;rw[hov] at Hs;clear hov;have hbd:0≤o.why∧o.why≤5:=by rw[←HOV.out];exact HOK.out.bd
   obtain⟨bd0,bd1⟩:=hbd;obtain⟨why,t'⟩:=o;dsimp only at bd0 bd1;rcases(show why=0∨why=1∨(¬why=0∧ ¬why=1) by omega) with rfl|rfl|⟨z0,z1⟩
   ·go_wp2_with fail;refine Az Hs ?_;rintro e w1 ⟨rfl,hM1,f1⟩;have HX:=T (Ay hM1 (hF.out.tr f1));clear hM1 f1
    go_wp2
    go_roundw;case rel=>
     have hg:=HOK.out.go (by rw[HOV.out]);have hll:=HOK.out.l;rw[HOV.out] at hg hll;refine⟨k+1,t',O,Bn,T HX.out.1,T HX.out.2,T (hll.trans hT.out),T ?_⟩;rw[hR.out];have e1:=Ra;have e2:4096 -(k+1)=4096 -k -1:=O;rw[e1,e2,←hT.out];simpa using hg
    case measure=>simp[AM];omega
   ·have hx:=HOK.out.ex (by rw[HOV.out]);have hsame:=HOK.out.same (by rw[HOV.out];exact(by show ¬(1:Int)=0;omega));rw[HOV.out] at hsame;obtain rfl:t'=t:=hsame;obtain⟨hx1,hx2,hx3⟩:=hx;obtain⟨q,hq⟩: ∃q:Nat,t'.at_=q:=⟨t'.at_.toNat,O⟩;have hq2:q<t'.l.length:=O;obtain⟨im,him⟩:=A8 ((at_ t'.l t'.at_.toNat).imm);have himb:U32 im:=by
     rw[←him];have:=(HO.out _ (by rw[←hT.out];exact Mo (l:=t'.l) (k:=t'.at_.toNat) (by omega))).imm;exact this
    have HX1:=T (Ay hx1 (Ay hq (Ay him (Ay hq2 himb))));clear hx1 hx2 hx3 him hq hq2 himb;go_wp2_with fail;refine Az Hs ?_;rintro e w1 ⟨rfl,hM1,f1⟩;have c17:=hM1.c17;have c18:=hM1.c18;obtain⟨b,off,hA',hb,d0,d1,d2,d3,d4⟩:=(At5.of hM1.code) q HX1.out.2.2.2.1;have e4:(at_ t'.l q).imm=im:=by rw[←HX1.out.2.2.1,HX1.out.2.1,Du]
    rw[e4] at d4;rw[hA'] at c17;rw[HX1.out.2.1] at c18;have hqn:=HX1.out.2.2.2.1;obtain⟨nn,hnn⟩:=A8 t'.l.length;rw[hnn] at c17 hqn;have i0:=HX1.out.2.2.2.2.1;have i1:=HX1.out.2.2.2.2.2;have hn4:nn≤10000:=by rw[←hnn,hT.out];exact HLL.out
    have HX:=T (Ay hM1 (hF.out.tr f1));clear hM1 f1 e4 hA' d0 d1 d2 d3 hnn;go_wp2_with fail;go_quiet (fail)
    go_wp2
    go_ret3;refine⟨1,im,k,t',rfl,HX.out.1.fr0 ((Ao _ _).drewN _),HX.out.2.drewN _, ?_,⟨O,O⟩,HX1.out.2.2.2.2⟩;rw[hR.out];have e1:=Ra;rw[e1,←hT.out];have:=HX1.out.1;rw[HX1.out.2.2.1] at this;exact this
   ·have hx:=HOK.out.no (by rw[HOV.out];exact z0) (by rw[HOV.out];exact z1);have hsame:=HOK.out.same (by rw[HOV.out];exact z0);rw[HOV.out] at hsame hx;obtain rfl:t'=t:=hsame;have g0:(why==0)=Ac:=by simpa using z0
    have g1:(why==1)=Ac:=by simpa using z1
    have HX1:=T hx;clear hx z0 z1;go_wp2_with fail;refine Az Hs ?_;rintro e w1 ⟨rfl,hM1,f1⟩;have HX:=T (Ay hM1 (hF.out.tr f1));clear hM1 f1
    go_wp2
    go_ret3;refine⟨why,0,k,t',rfl,HX.out.1,HX.out.2, ?_,⟨bd0,bd1⟩,⟨O,O⟩⟩;rw[hR.out];have e1:=Ra;rw[e1,←hT.out];exact HX1.out
  ·obtain rfl:k=4096:=O;clear hlt
   go_wp2
   go_ret3;refine⟨5,0,4096,t,rfl,hM.out,hF.out, ?_,⟨O,O⟩,⟨O,O⟩⟩;rw[hR.out];rfl
end Hh
end Go.Proofs.YtdfegdoeebaagaaGreatDoor
