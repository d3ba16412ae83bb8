import Derived.Test.YtdfegdoeebaagaaGreatDoorY10
open Bool renaming true→Ag
open List renaming mem_append→Dc,mem_cons→Dx,getLastD_eq_getLast?→FU
set_option linter.all false
set_option maxHeartbeats 40000000
set_option maxRecDepth 1000000
open Go Go.RowKit
namespace Go.Proofs.YtdfegdoeebaagaaGreatDoor
namespace Gm
open Fm Nt Rm By Wk Gs
def Bd(z:Int):Prop:=0≤z∧z≤4294967295
def Bl(l:List Int):Prop:= ∀z∈l,Bd z
variable{l:List Int}
theorem Bl.drop(h:Bl l):Bl l.dropLast:=λz hz=>h z (List.dropLast_subset _ hz)
theorem Bl.app{m:List Int}(h:Bl l)(h2:Bl m):Bl (l++m):=λz hz=>by
 rcases Dc.1 hz with e|e;·exact h z e
 ·exact h2 z e
theorem Bl.cons{z:Int}(h:Bd z)(h2:Bl l):Bl (z::l):=λy hy=>by
 rcases Dx.1 hy with e|e;·rw[e];exact h
 ·exact h2 y e
theorem Bl.nil:Bl []:=λz hz=>absurd hz AB
theorem Bl.top(h:Bl l):Bd (AO l):=by
 unfold AO;rw[FU]
 cases e:l.getLast? with
 |none=>exact⟨AB,AB⟩
 |some z=>exact h z (List.mem_of_getLast? e)
theorem Bl.top2(h:Bl l):Bd (top2 l):=h.drop.top
theorem bd0:Bd 0:=⟨O,O⟩
def Rk(s:St):Prop:=s.Ok∧s.d.length≤16∧s.r.length≤16∧s.fl≤15
variable{s:St}
theorem Rk.right(h:Rk s):s.right=Ag:=by
 obtain⟨_,h1,h2,h3⟩:=h;simp[St.right,h1,h2,h3]
theorem Rk.trap(h:Rk s)(c a:Int)(hc:Bd c)(ha:Bd a):Rk (s.trap c a):=by
 obtain⟨o,h1,h2,h3⟩:=h;exact⟨⟨o.ve,o.fl,o.rt,o.ve,o.pc,hc,ha,o.ct,o.d,o.r⟩,h1,h2,h3⟩
theorem Rk.up(h:Rk s):Rk (St.up s):=by
 obtain⟨o,h1,h2,h3⟩:=h;exact⟨⟨o.pc,o.fl,o.rt,o.ve,o.ep,o.ca,o.ad,VF,o.d,o.r⟩,h1,h2,h3⟩
theorem Rk.next(h:Rk s)(i:Ins):Rk (s.next i):=by
 obtain⟨o,h1,h2,h3⟩:=h;exact⟨⟨by show 0≤(s.pc+AK i.op)%4294967296∧(s.pc+AK i.op)%4294967296≤4294967295;omega,o.fl,o.rt,o.ve,o.ep,o.ca,o.ad,VF,o.d,o.r⟩,h1,h2,h3⟩
theorem Rk.stacks(h:Rk s){d r:List Int}(hd:Bl d)(hr:Bl r)(ld:d.length≤16)(lr:r.length≤16):Rk {s with d:=d,r:=r}:=by
 obtain⟨o,h1,h2,h3⟩:=h;exact⟨⟨o.pc,o.fl,o.rt,o.ve,o.ep,o.ca,o.ad,o.ct,hd,hr⟩,ld,lr,h3⟩
theorem Rk.setPc(h:Rk s){p:Int}(hp:Bd p):Rk {s with pc:=p}:=by
 obtain⟨o,h1,h2,h3⟩:=h;exact⟨⟨hp,o.fl,o.rt,o.ve,o.ep,o.ca,o.ad,o.ct,o.d,o.r⟩,h1,h2,h3⟩
theorem Rk.setFl(h:Rk s){p:Int}(hp:0≤p∧p≤15):Rk {s with fl:=p}:=by
 obtain⟨o,h1,h2,h3⟩:=h;exact⟨⟨o.pc,⟨hp.1,by show p≤4294967295;omega⟩,o.rt,o.ve,o.ep,o.ca,o.ad,o.ct,o.d,o.r⟩,h1,h2,hp.2⟩
variable{i:Ins}
theorem VG(h:check s i=0):DZ i=Ag∧Gs.takeD i.op≤s.d.length∧Gs.takeR i.op≤s.r.length∧s.d.length -Gs.takeD i.op+Gs.putD i.op≤16∧s.r.length -Gs.takeR i.op+Gs.putR i.op≤16:=by
 unfold check at h;split at h;·cases h
 ·rename_i h1
  split at h;·cases h
  ·split at h;·cases h
   ·split at h;·cases h
    ·split at h;·cases h
     ·rename_i h5
      split at h;·cases h
      ·rename_i h6
       refine⟨Dk,O,O,O,O⟩
theorem Rk.stackS(h:Rk s)(hn:Bd i.n)(f1:Gs.takeD i.op≤s.d.length)(f2:Gs.takeR i.op≤s.r.length)(f3:s.d.length -Gs.takeD i.op+Gs.putD i.op≤16)(f4:s.r.length -Gs.takeR i.op+Gs.putR i.op≤16):Rk (stackS s i):=by
 have hd:Bl s.d:=h.1.d;have hr:Bl s.r:=h.1.r;have h2:=h.2.1;have h3:=h.2.2.1;obtain⟨op,n⟩:=i;have hn:Bd n:=hn;unfold Gs.stackS;simp only[] at f1 f2 f3 f4⊢;by_cases c:op=1∨op=2
 ·rw[An c];have e:Gs.takeD op=0∧Gs.putD op=1:=by rcases c with rfl|rfl<;>decide
  exact h.stacks (hd.app (Bl.nil.cons hn)) hr AA h3
 rw[Ae c];clear c;by_cases c:op=3;·rw[An c];subst c;have e:Gs.takeD 3=1∧Gs.putD 3=2:=Ap;exact h.stacks (hd.drop.app ((Bl.nil.cons hd.top).cons hd.top)) hr AA h3
 rw[Ae c];clear c;by_cases c:op=4;·rw[An c];exact h.stacks hd.drop hr AA h3
 rw[Ae c];clear c;by_cases c:op=5;·rw[An c];subst c;have e:Gs.takeD 5=2∧Gs.putD 5=2:=Ap;exact h.stacks (hd.drop.drop.app ((Bl.nil.cons hd.top2).cons hd.top)) hr AA h3
 rw[Ae c];clear c;by_cases c:op=6;·rw[An c];subst c;have e:Gs.takeD 6=2∧Gs.putD 6=3:=Ap;exact h.stacks (hd.drop.drop.app (((Bl.nil.cons hd.top2).cons hd.top).cons hd.top2)) hr AA h3
 rw[Ae c];clear c;by_cases c:op=7;·rw[An c];subst c;have e:Gs.takeR 7=0∧Gs.putR 7=1:=Ap;exact h.stacks hd.drop (hr.app (Bl.nil.cons hd.top)) AA AA
 rw[Ae c];clear c;by_cases c:op=8;·rw[An c];subst c;have e:Gs.takeD 8=0∧Gs.putD 8=1:=Ap;exact h.stacks (hd.app (Bl.nil.cons hr.top)) hr.drop AA AA
 rw[Ae c];exact h
theorem Qd(p n:Int):Bd ((p+CM n)%4294967296):=⟨O,O⟩
theorem Rk.reckS(h:Rk s)(f1:Gs.takeD i.op≤s.d.length)(f2:Gs.takeR i.op≤s.r.length)(f3:s.d.length -Gs.takeD i.op+Gs.putD i.op≤16)(f4:s.r.length -Gs.takeR i.op+Gs.putR i.op≤16):Rk (reckS s i):=by
 have hd:Bl s.d:=h.1.d;have hr:Bl s.r:=h.1.r;have h2:=h.2.1;have h3:=h.2.2.1;obtain⟨op,n⟩:=i;unfold Gs.reckS;simp only[] at f1 f2 f3 f4⊢;by_cases c:16≤op∧op≤25
 ·rw[An c];have hf:=J8 op (top2 s.d) (AO s.d);have ha:=hd.top2;have hb:=hd.top;have hv:=Tr.aluV_bd op (top2 s.d) (AO s.d) ha.1 (by have:=ha.2;omega) hb.1 (by have:=hb.2;omega);have hv:Bd (Cn op (top2 s.d) (AO s.d)):=⟨hv.1,O⟩;by_cases c2:op=25;·rw[An c2];exact(h.setFl (p:=Bv op (top2 s.d) (AO s.d)) ⟨hf.1,O⟩).stacks hd.drop.drop hr AA h3
  ·rw[Ae c2];have e1:Gs.takeD op=2:=by unfold takeD;rw[Ae (by omega),An (by omega)]
   have e2:Gs.putD op=1:=by unfold putD;rw[An (by omega)]
   exact(h.setFl (p:=Bv op (top2 s.d) (AO s.d)) ⟨hf.1,O⟩).stacks (hd.drop.drop.app (Bl.nil.cons hv)) hr AA h3
 rw[Ae c];clear c;by_cases c:op=38;·rw[An c];subst c;have e:Gs.takeR 38=0∧Gs.putR 38=1:=Ap;exact(h.stacks hd (hr.app (Bl.nil.cons h.1.pc)) h2 AA).setPc (Qd _ _)
 rw[Ae c];clear c;by_cases c:op=32;·rw[An c];exact h.setPc (Qd _ _)
 rw[Ae c];clear c;by_cases c:op=39;·rw[An c];exact(h.stacks hd hr.drop h2 AA).setPc hr.top
 rw[Ae c];clear c;by_cases c:op=40;·rw[An c];exact(h.stacks hd.drop hr AA h3).setPc hd.top
 rw[Ae c];split;·exact h.setPc (Qd _ _)
 ·exact h
end Gm
end Go.Proofs.YtdfegdoeebaagaaGreatDoor
