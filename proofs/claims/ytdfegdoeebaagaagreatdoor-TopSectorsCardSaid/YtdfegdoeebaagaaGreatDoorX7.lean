import Derived.Test.YtdfegdoeebaagaaGreatDoorX3
open Bool renaming false→Ac,true→Ag
open Nat renaming le_refl→AD
open Or renaming inl→Af,inr→Ah
set_option linter.all false
set_option maxHeartbeats 40000000
set_option maxRecDepth 1000000
open Go Go.RowKit
namespace Go.Proofs.YtdfegdoeebaagaaGreatDoor
namespace Tr
open Gs
def DE(tt:Nat→Nat)(a b:Nat):Bool:=(decide (a<tt b)&&decide (b<tt a))||decide (a=b)
theorem YS(tt:Nat→Nat)(a b:Nat):DE tt a b=DE tt b a:=by
 by_cases h1:a<tt b<;>by_cases h2:b<tt a<;>by_cases h3:a=b<;>simp[DE,h1,h2,h3,eq_comm]
structure PI(tt:Nat→Nat)(k:Nat)(reg slot:Nat→Int):Prop where
 form: ∀n,n<k→(0≤reg n∧reg n<7∧slot n= -1)∨(reg n= -1∧0≤slot n∧slot n≤64)
 none: ∀n,k≤n→reg n= -1∧slot n= -1
 reg: ∀a b,a≠b→a<k→b<k→DE tt a b=Ag→0≤reg b→reg a≠reg b
 slot: ∀a b,a≠b→a<k→b<k→DE tt a b=Ag→0≤slot b→slot a≠slot b
def Ou(tt:Nat→Nat)(place:Nat→Int)(n:Nat)(r:Int):Prop:=0≤r∧ ∀i,place i=r→DE tt i n=Ac
theorem PI.start(tt:Nat→Nat):PI tt 0 (λ_=> -1) (λ_=> -1):=
 ⟨λn h=>absurd h O,λ_ _=>⟨rfl,rfl⟩,λa b _ _ h=>absurd h O,λa b _ _ h=>absurd h O⟩
section
variable {tt:Nat→Nat} {k:Nat} {reg slot:Nat→Int} {r:Int}
theorem GJ(f:Nat→Int)(n:Nat)(v:Int):upZ f n v n=v:=Mm
theorem CS(f:Nat→Int){n m:Nat}(v:Int)(h:m≠n):upZ f n v m=f m:=by simp[upZ,h]
theorem PI.inReg(h:PI tt k reg slot)(hf:Ou tt reg k r)(hr:r<7):PI tt (k+1) (upZ reg k r) slot:=by
 refine⟨λn hn=>?_,λn hn=>?_,λa b hab ha hb hm hp=>?_,λa b hab ha hb hm hp=>?_⟩
 ·by_cases e:n=k;·subst e;rw[GJ];exact Af ⟨hf.1,hr,(h.none n (AD _)).2⟩
  ·rw[CS _ _ e];exact h.form n O
 ·rw[CS _ _ O];exact h.none n O
 ·by_cases eb:b=k;·exact Rv
  ·rw[CS _ _ eb] at hp⊢;by_cases ea:a=k;·exact Rx
   ·exact YT
 ·by_cases eb:b=k;·subst eb;have:=(h.none b (AD _)).2;omega
  ·by_cases ea:a=k;·subst ea;have:=(h.none a (AD _)).2;omega
   ·exact Ry
theorem PI.inSlot(h:PI tt k reg slot)(hf:Ou tt slot k r)(hr:r≤64):PI tt (k+1) (upZ reg k (-1)) (upZ slot k r):=by
 refine⟨λn hn=>?_,λn hn=>?_,λa b hab ha hb hm hp=>?_,λa b hab ha hb hm hp=>?_⟩
 ·by_cases e:n=k;·exact YU
  ·rw[CS _ _ e,CS _ _ e];exact h.form n O
 ·rw[CS _ _ O,CS _ _ O];exact h.none n O
 ·by_cases eb:b=k;·subst eb;rw[GJ] at hp;omega
  ·rw[CS _ _ eb] at hp⊢;by_cases ea:a=k;·subst ea;rw[GJ];omega
   ·exact YT
 ·by_cases eb:b=k;·exact Rv
  ·rw[CS _ _ eb] at hp⊢;by_cases ea:a=k;·exact Rx
   ·rw[CS _ _ ea];exact Ry
theorem PI.swap(h:PI tt k reg slot){q:Nat}(hq:q<k)(hrq:reg q≠ -1)(hmq:DE tt k q=Ag)(hf:Ou tt slot q r)(hr:r≤64)(hto: ∀i,i≤tt i):PI tt (k+1) (upZ (upZ reg k (reg q)) q (-1)) (upZ slot q r):=by
 have hq0:0≤reg q∧reg q<7:=by
  rcases h.form q hq with e|e;·exact⟨e.1,e.2.1⟩
  ·exact absurd e.1 hrq
 have hkq:k≠q:=O;have hmk:k<tt q:=by
  unfold DE at hmq;simp only[Bool.or_eq_true,Bool.and_eq_true,decide_eq_true_eq] at hmq;omega
 refine⟨λn hn=>?_,λn hn=>?_,λa b hab ha hb hm hp=>?_,λa b hab ha hb hm hp=>?_⟩
 ·by_cases e:n=q;·exact YU
  ·rw[CS _ _ e,CS _ _ e];by_cases e2:n=k;·subst e2;rw[GJ];exact Af ⟨hq0.1,hq0.2,(h.none n (AD _)).2⟩
   ·rw[CS _ _ e2];exact h.form n O
 ·rw[CS _ _ O,CS _ _ O,CS _ _ O];exact h.none n O
 ·have key: ∀a,a≠k→a≠q→a<k→DE tt a k=Ag→reg a≠reg q:=λa e1 e2 e3 e4 e5=>by
   have h1:DE tt a q=Ag:=by
    unfold DE at e4⊢;simp only[Bool.or_eq_true,Bool.and_eq_true,decide_eq_true_eq] at e4⊢;have:=hto q;have:=hto a;left;omega
   exact h.reg a q e2 e3 hq h1 hq0.1 e5
  by_cases eb:b=q;·subst eb;rw[GJ] at hp;omega
  ·rw[CS _ _ eb] at hp⊢;by_cases ea:a=q;·subst ea;rw[GJ];omega
   ·rw[CS _ _ ea];by_cases eb2:b=k;·subst eb2;rw[GJ,CS _ _ hab];exact key a hab ea O hm
    ·rw[CS _ _ eb2] at hp⊢;by_cases ea2:a=k;·subst ea2;rw[GJ];intro e;exact key b eb2 eb O (by rw[YS];exact hm) e.symm
     ·rw[CS _ _ ea2];exact h.reg a b hab O O hm hp
 ·by_cases eb:b=q;·exact Rv
  ·rw[CS _ _ eb] at hp⊢;by_cases ea:a=q;·exact Rx
   ·rw[CS _ _ ea];by_cases eb2:b=k;·subst eb2;have:=(h.none b (AD _)).2;omega
    ·by_cases ea2:a=k;·subst ea2;have:=(h.none a (AD _)).2;omega
     ·exact Ry
end
structure LV(p:Pg)(tt:Nat→Nat):Prop where
 lo: ∀n,n≤tt n
 use: ∀i,i<p.code.length→3≤(at_ p.code i).op→i≤tt (at_ p.code i).a∧i≤tt (at_ p.code i).b
 od: ∀n∈p.od,p.code.length≤tt n
 or: ∀n∈p.or,p.code.length≤tt n
 fl:0≤p.fl→p.code.length≤tt p.fl.toNat
 tg:0≤p.tg→p.code.length≤tt p.tg.toNat
theorem PI.po{p:Pg}{tt:Nat→Nat}{reg slot:Nat→Int}(h:PI tt p.code.length reg slot)(hl:LV p tt):PO p ⟨reg,slot⟩ tt:=by
 have hm: ∀a b,a<b→b<tt a→DE tt a b=Ag:=λa b h1 h2=>by
  have:=hl.lo b;simp only[DE,Bool.or_eq_true,Bool.and_eq_true,decide_eq_true_eq];left;omega
 refine⟨λn hn=>?_,λa b h1 h2 h3 h4=>h.reg a b O O h2 (hm a b h1 h3) h4,λa b h1 h2 h3 h4 h5=>h.slot a b O O h2 (hm a b h1 h3) ?_,hl.use,hl.od,hl.or,hl.fl,hl.tg⟩
 ·rcases h.form n hn with e|e;·exact Af ⟨e.1,e.2.1⟩
  ·exact Ah e
 ·have h5:reg b= -1:=h5;rcases h.form b h2 with e|e;·omega
  ·exact e.2.1
end Tr
end Go.Proofs.YtdfegdoeebaagaaGreatDoor
