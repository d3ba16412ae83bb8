import Derived.Test.YtdfegdoeebaagaaGreatDoorX7
import Derived.Test.YtdfegdoeebaagaaGreatDoorX19
open Go.Value renaming slice→Z,int→J,bool→Ap,tuple→AF,agg→A9
open Option renaming some→I,none→G
open Go.IntKind renaming i64→U
open Go renaming World→Aa,Value→As,Calls→At
open Bool renaming false→Ac,true→Ag
open Go.Ending renaming returned→Ax
open And renaming intro→Ay
set_option linter.all false
set_option maxHeartbeats 40000000
set_option maxRecDepth 1000000
open Go Go.RowKit
namespace Go.Proofs.YtdfegdoeebaagaaGreatDoor
namespace Lf
open Gs Sv Tr Em Ip
structure IvC(w:Aa)(g cap n:Nat)(tt:Nat→Nat):Prop where
 c: ∃F,Cells w g 312 (cap*3) F∧ ∀i,i<n→F (i*3)=J U i∧F (i*3+1)=J U i∧F (i*3+2)=J U (tt i)
 le:n≤cap
section
variable {w w':Aa} {g cap n:Nat} {tt:Nat→Nat} {S:AE}
theorem IvC.fr(h:IvC w g cap n tt)(f:Fr S w w')(hs: ¬S g):IvC w' g cap n tt:=by
 obtain⟨F,hc,hF⟩:=h.c;exact⟨⟨F,hc.fr f hs,hF⟩,h.le⟩
theorem IvC.lt(h:IvC w g cap n tt):g<↑w:=by
 obtain⟨F,hc,hF⟩:=h.c;exact hc.lt
theorem IvC.c0(h:IvC w g cap n tt)(i:Nat)(hi:i<n):w.cell? ⟨g,i*3,G⟩=I (J U i)∧w.cell? ⟨g,i*3+1,G⟩=I (J U i)∧w.cell? ⟨g,i*3+2,G⟩=I (J U (tt i)):=by
 obtain⟨F,hc,hF⟩:=h.c;have hle:=h.le;obtain⟨h0,h1,h2⟩:=hF i hi;exact⟨by rw[hc.cell _ (by omega),h0],by rw[hc.cell _ (by omega),h1],by rw[hc.cell _ (by omega),h2]⟩
theorem IvC.y(h:IvC w g cap n tt)(i:Nat):w.frozen? ⟨g,i,G⟩=Ac:=by
 obtain⟨F,hc,hF⟩:=h.c;exact hc.frozen i
def upT(tt:Nat→Nat)(n v:Nat):Nat→Nat:=λk=>if k=n then v else tt k
theorem IvC.set_(h:IvC w g cap n tt)(i:Nat)(hi:i<n)(v:Nat):IvC (w.setCell ⟨g,i*3+2,G⟩ (J U v)) g cap n (upT tt i v):=by
 obtain⟨F,hc,hF⟩:=h.c;refine⟨⟨_,hc.set_ (i*3+2) _,λj hj=>?_⟩,h.le⟩;obtain⟨h0,h1,h2⟩:=hF j hj;unfold Bz upT;refine⟨by rw[Ae (by omega)];exact h0,by rw[Ae (by omega)];exact h1, ?_⟩;by_cases e:j=i;·rw[An O,An e]
 ·rw[Ae O,Ae e];exact h2
end
theorem YV(w:Aa)(a b ta tb:Nat):At Tryz.prog 194 #[A9 #[J U a,J U a,J U ta],A9 #[J U b,J U b,J U tb]] w λe w'=>e=Ax (Ap ((decide (a<tb)&&decide (b<ta))||decide (a=b)))∧Fr Aj w w':=by
 obtain⟨r,hr⟩:=A8 ((decide (a<tb)&&decide (b<ta))||decide (a=b));rw[hr];by_cases h1:a<tb
 ·have g1:decide (a<tb)=Ag:=Dh;by_cases h2:b<ta;·have g2:decide (b<ta)=Ag:=Mv;exact YW
  ·have g2:decide (b<ta)=Ac:=Mv;by_cases h3:a=b;·subst h3;exact YW
   ·have g3:((a:Int)==(b:Int))=Ac:=AA;rw[g1,g2] at hr;exact YX
 ·have g1:decide (a<tb)=Ac:=Dh;by_cases h3:a=b
  ·subst h3;rw[g1] at hr;simp at hr;subst hr;go_in;go_wp2_with fail
   all_goals
    go_ret;exact⟨rfl,((Ao _ w).alloc _).alloc _⟩
  ·have g3:((a:Int)==(b:Int))=Ac:=AA;rw[g1] at hr;exact YX
theorem YY(w:Aa)(n at_:Int)(q:As)(hn:n<0):At Tryz.prog 229 #[J U n,J U at_,q] w λe w'=>e=Ax (AF #[])∧w=w':=by
 have g1:decide (n≥0)=Ac:=by simpa using hn
 go_in
 go_wp2
 go_end0;exact⟨rfl,rfl⟩
theorem R0(w:Aa)(gv g cap len:Nat)(tt:Nat→Nat)(h:IvC w g cap len tt)(hv:w.cell? ⟨gv,0,G⟩=I (Z (I ⟨g,0,G⟩) len cap))(hvl:gv<↑w)(hne:gv≠g)(n at_:Nat)(hn:n<len)(hl:len≤64):At Tryz.prog 229 #[J U n,J U at_,↑gv] w λe w'=>e=Ax (AF #[])∧IvC w' g cap len (upT tt n (max (tt n) at_))∧Fr (· =g) w w':=by
 have g1:decide ((n:Int)≥0)=Ag:=AC;obtain⟨d0,d1,d2⟩:=h.c0 n hn;have y2:=h.y (n*3+2);have HX:=T (Ay (h.set_ n hn (max (tt n) at_)) (Br w g (n*3+2) (J U (max (tt n) at_:Nat))));have hgl:=h.lt;have hcap:=h.le;clear h;by_cases hm:tt n<at_;·have em:max (tt n) at_=at_:=O;rw[em] at HX⊢;obtain⟨t,ht⟩:=A8 (tt n);rw[ht] at d2 hm;exact YZ
 ·have em:max (tt n) at_=tt n:=O;rw[em] at HX⊢;obtain⟨t,ht⟩:=A8 (tt n);rw[ht] at d2 hm HX⊢;exact YZ
end Lf
end Go.Proofs.YtdfegdoeebaagaaGreatDoor
