import Derived.Test.YtdfegdoeebaagaaGreatDoorY34
open Option renaming some→I
open Bool renaming false→Ac,true→Ag
open Nat renaming le_refl→AC,lt_or_ge→DL
set_option linter.all false
set_option maxHeartbeats 40000000
set_option maxRecDepth 1000000
open Go Go.RowKit
namespace Go.Proofs.YtdfegdoeebaagaaGreatDoor
namespace Gm
open Fm Nt Rm By Wk Gs
def DB(k:Int):List Int:=[2,0,0,0,0,2,1,0,0,0,2,k,0,0,0,3,2,0,0,0,0,25,33,13,2,1,0,0,0,17,7,5,6,16,8,32,234,4,4,69]
abbrev fs(pc:Int)(d r:List Int)(fl ct:Int):St:=⟨pc,d,r,fl,Ag,Ac,Ac,0,0,0,0,0,Ac,Ac,ct,Ac⟩
def DK:Nat→Int
 |0=>0
 |1=>1
 |n+2=>(DK n+DK (n+1))%4294967296
structure Fb(k:Int)(g:Mc):Prop where
 m: ∀i,g.b.ms.mem i=(DB k).getD i 0
 n:g.b.ms.n=1
 t:g.b.tm=0
 p:g.b.p=0
 o:g.b.outs=[]
section
variable {K:Int} {g:Mc} {pc q ct:Int} {d r d2 r2:List Int} {fl fl2:Int} {i:Ins} {n k:Nat} {x:Sg} {a b c c2:Int}
theorem Fb.calm(h:Fb K g):Fb K g.calm:=⟨h.m,h.n,h.t,h.p,h.o⟩
variable{p:Int}
theorem Fb.f1(h:Fb K g)(o:Int)(p0:0≤p:=by decide)(p1:p<64:=by decide)(h0:(DB K).getD p.toNat 0=o:=by rfl)(hs:AK o=1:=by decide):Cx g.b.ms p=I (⟨o,0⟩,1):=
 SF p0 Tf ((h.m _).trans h0) hs
theorem Fb.f2(h:Fb K g)(o b:Int)(p0:0≤p:=by decide)(p1:p<64:=by decide)(p2:p%64≤62:=by decide)(h0:(DB K).getD p.toNat 0=o:=by rfl)(h1:(DB K).getD (p.toNat+1) 0=b:=by rfl)(hs:AK o=2:=by decide):Cx g.b.ms p=I (⟨o,b⟩,2):=
 fetch2 p0 Tf p2 ((h.m _).trans h0) ((h.m _).trans h1) hs
theorem Fb.f5(h:Fb K g)(b:Int)(p0:0≤p:=by decide)(p1:p<64:=by decide)(p2:p%64≤59:=by decide)(h0:(DB K).getD p.toNat 0=2:=by rfl)(h1:(DB K).getD (p.toNat+1) 0=b:=by rfl)(h2:(DB K).getD (p.toNat+2) 0=0:=by rfl)(h3:(DB K).getD (p.toNat+3) 0=0:=by rfl)(h4:(DB K).getD (p.toNat+4) 0=0:=by rfl):Cx g.b.ms p=I (⟨2,b⟩,5):=
 SG p0 Tf p2 ((h.m _).trans h0) ((h.m _).trans h1) ((h.m _).trans h2) ((h.m _).trans h3) ((h.m _).trans h4) O
theorem Fj(c0:0≤ct)(c1:ct≤1000000)(hf:Cx g.b.ms pc=I (i,n))(h:RR (fs q d2 r2 fl2 (ct+1)) q 0 g.calm k x)(hs:AY (fs pc d r fl ct) i=fs ((pc+AK i.op)%4294967296) d2 r2 fl2 ((ct+1)%18446744073709551616):=by rfl)(hc:check (fs pc d r fl ct) i=0:=by rfl)(hu:Ia i.op=Ag:=by first|decide|(dsimp only;decide))(hp:Cc i.op=Ag:=by first|decide|(dsimp only;decide))(he:endsB i.op=Ac:=by first|decide|(dsimp only;decide))(h1:i.op≠49:=by first|decide|(dsimp only;decide))(h2:i.op≠67:=by first|decide|(dsimp only;decide))(hz:(pc+AK i.op)%4294967296=q:=by first|decide|(dsimp only;decide))(hn:(pc+(n:Int))%4294967296=q:=by first|decide|(dsimp only;decide))(hq:q/64=pc/64:=by first|decide|(dsimp only;decide)):RR (fs pc d r fl ct) pc 0 g (k+1) x:=by
 rw[show(ct+1)%18446744073709551616=ct+1 by omega,hz] at hs;exact SH hf (Lz hc rfl hu h1 h2) hp he rfl (by rw[show(fs pc d r fl ct).pc=pc from rfl,hz];exact hq) hs hn h
theorem cmp0(c0:0≤c)(c1:c<4294967296):bitB (Bv 25 c 0) 1=decide (c=0):=by
 have e:Bv 25 c 0=Gp c 0:=rfl;rw[e];unfold Gp CF bitB;rw[show(c -0)%4294967296=c by omega,Ae (show ¬c<0 by omega)];by_cases h:c=0;·rw[An h,Ae O];split<;>simp[h]
 ·rw[Ae h];split<;>split<;>simp[h]
theorem jz_(h:Fb K g)(c0:0≤ct)(c1:ct≤1000000)(d0:0≤c)(d1:c<4294967296):RR (fs 22 [a,b,c] [] (Bv 25 c 0) ct) 22 0 g (k+1) ⟨fs (if c=0 then 37 else 24) [a,b,c] [] (Bv 25 c 0) (ct+1),g.calm⟩:=by
 refine dH (h.f2 33 13) (Lz rfl rfl) OR OR ?_;have e:AY (fs 22 [a,b,c] [] (Bv 25 c 0) ct) ⟨33,13⟩=if bitB (Bv 25 c 0) 1 then fs 37 [a,b,c] [] (Bv 25 c 0) ((ct+1)%18446744073709551616) else fs 24 [a,b,c] [] (Bv 25 c 0) ((ct+1)%18446744073709551616):=rfl;rw[e,cmp0 d0 d1,show(ct+1)%18446744073709551616=ct+1 by omega];by_cases h:c=0;·rw[decide_eq_true h,An rfl,An h]
 ·rw[decide_eq_false h,Ae Ap,Ae h]
theorem test_(h:Fb K g)(c0:0≤ct)(c1:ct≤100000)(d0:0≤c)(d1:c<4294967296):RR (fs 15 [a,b,c] [] fl ct) 15 0 g (k+4) ⟨fs (if c=0 then 37 else 24) [a,b,c] [] (Bv 25 c 0) (ct+4),g.calm.calm.calm.calm⟩:=by
 have j:=jz_ (a:=a) (b:=b) (k:=k) (ct:=ct+3) h.calm.calm.calm O O d0 d1;rw[show ct+3+1=ct+4 by omega] at j;have j3:RR (fs 21 [a,b,c,c,0] [] fl (ct+2)) 21 0 g.calm.calm (k+2) _:=Fj O O (h.calm.calm.f1 25) (by rw[show ct+2+1=ct+3 by omega];exact j);have j2:RR (fs 16 [a,b,c,c] [] fl (ct+1)) 16 0 g.calm (k+3) _:=Fj O O (h.calm.f5 0) Tg;exact Fj O O (h.f1 3) j2
theorem blk_(h:Fb K g)(p0:0≤pc)(p1:pc<64)(hr:d.length≤16∧r.length≤16∧fl<16)(hh:RR (fs pc d r fl ct) pc 0 g 8 x):BB (fs pc d r fl ct) g x:=by
 refine SJ ?_ rfl (by rw[h.t];rfl) (by rw[h.p];simp[Iq.nextB]) rfl (by rw[h.n];show pc<64;exact p1) ?_;·simp[St.right,hr.1,hr.2.1];omega
 ·rw[show(fs pc d r fl ct).pc=pc from rfl,show pc/64=0 by omega];exact hh
theorem head_(h:Fb K g)(d0:0≤K)(d1:K<256):BB (fs 0 [] [] 0 0) g ⟨fs (if K=0 then 37 else 24) [0,1,K] [] (Bv 25 K 0) 7,g.calm.calm.calm.calm.calm.calm.calm⟩:=by
 have j4:=test_ (a:=0) (b:=1) (k:=1) (ct:=3) (fl:=0) h.calm.calm.calm Ap Ap d0 (show K<4294967296 by omega);have j3:RR (fs 10 [0,1] [] 0 2) 10 0 g.calm.calm 6 _:=Fj Ap Ap (h.calm.calm.f5 K) j4;have j2:RR (fs 5 [0] [] 0 1) 5 0 g.calm 7 _:=Fj Ap Ap (h.calm.f5 1) j3;exact blk_ h Ap Ap ⟨Ap,Ap,Ap⟩ (Fj Ap Ap (h.f5 0) j2)
theorem body_(h:Fb K g)(c0:0≤ct)(c1:ct≤100000)(f1:fl<16)(hc:(c -1)%4294967296=c2): ∃g2 fl2,Fb K g2∧fl2<16∧BB (fs 24 [a,b,c] [] fl ct) g ⟨fs 15 [b,(a+b)%4294967296,c2] [] fl2 (ct+8),g2⟩:=by
 subst hc;refine⟨g.calm.calm.calm.calm.calm.calm.calm.calm,Bv 16 a b,h.calm.calm.calm.calm.calm.calm.calm.calm,(J8 _ _ _).2,blk_ h Ap Ap ⟨AB,AB,f1⟩ ?_⟩;have h2:=h.calm.calm;have h4:=h2.calm.calm;have h6:=h4.calm.calm;have j8:RR (fs 35 [b,(a+b)%4294967296,(c -1)%4294967296] [] (Bv 16 a b) (ct+7)) 35 0 g.calm.calm.calm.calm.calm.calm.calm 1 ⟨fs 15 [b,(a+b)%4294967296,(c -1)%4294967296] [] (Bv 16 a b) (ct+8),g.calm.calm.calm.calm.calm.calm.calm.calm⟩:=by
  refine dH (h6.calm.f2 32 234) (Lz rfl rfl) OR OR ?_;have e:AY (fs 35 [b,(a+b)%4294967296,(c -1)%4294967296] [] (Bv 16 a b) (ct+7)) ⟨32,234⟩=fs 15 [b,(a+b)%4294967296,(c -1)%4294967296] [] (Bv 16 a b) ((ct+7+1)%18446744073709551616):=rfl;rw[e,show(ct+7+1)%18446744073709551616=ct+8 by omega]
 have j7:RR (fs 34 [b,(a+b)%4294967296] [(c -1)%4294967296] (Bv 16 a b) (ct+6)) 34 0 g.calm.calm.calm.calm.calm.calm 2 _:=Fj O O (h6.f1 8) (by rw[show ct+6+1=ct+7 by omega];exact j8);have j6:RR (fs 33 [b,a,b] [(c -1)%4294967296] (Bv 17 c 1) (ct+5)) 33 0 g.calm.calm.calm.calm.calm 3 _:=Fj O O (h4.calm.f1 16) (by rw[show ct+5+1=ct+6 by omega];exact j7);have j5:RR (fs 32 [b,a] [(c -1)%4294967296] (Bv 17 c 1) (ct+4)) 32 0 g.calm.calm.calm.calm 4 _:=Fj O O (h4.f1 6) (by rw[show ct+4+1=ct+5 by omega];exact j6);have j4:RR (fs 31 [a,b] [(c -1)%4294967296] (Bv 17 c 1) (ct+3)) 31 0 g.calm.calm.calm 5 _:=Fj O O (h2.calm.f1 5) (by rw[show ct+3+1=ct+4 by omega];exact j5);have j3:RR (fs 30 [a,b,(c -1)%4294967296] [] (Bv 17 c 1) (ct+2)) 30 0 g.calm.calm 6 _:=Fj O O (h2.f1 7) (by rw[show ct+2+1=ct+3 by omega];exact j4);have j2:RR (fs 29 [a,b,c,1] [] fl (ct+1)) 29 0 g.calm 7 _:=Fj O O (h.calm.f1 17) Tg;exact Fj O O (h.f5 1) j2
theorem tail_(h:Fb K g)(c0:0≤ct)(c1:ct≤100000)(f1:fl<16): ∃g2,Fb K g2∧BB (fs 37 [a,b,c] [] fl ct) g ⟨{fs 40 [a] [] fl (ct+3) with ha:=Ag},g2⟩:=by
 refine⟨g.calm.calm.calm,h.calm.calm.calm,blk_ h Ap Ap ⟨AB,AB,f1⟩ ?_⟩;have j3:RR (fs 39 [a] [] fl (ct+2)) 39 0 g.calm.calm 6 ⟨{fs 40 [a] [] fl (ct+3) with ha:=Ag},g.calm.calm.calm⟩:=by
  have e:doR (fs 39 [a] [] fl (ct+2)) ⟨69,0⟩ g.calm.calm=⟨{fs 40 [a] [] fl (ct+3) with ha:=Ag},Ac,Ac,[],g.calm.calm.calm⟩:=by
   rw[dG AB AB rfl];have e2:(fs 39 [a] [] fl (ct+2)).next ⟨69,0⟩=fs 40 [a] [] fl ((ct+2+1)%18446744073709551616):=rfl;rw[e2,show(ct+2+1)%18446744073709551616=ct+3 by omega]
  exact SI (h.calm.calm.f1 69) (dI AB AB rfl rfl) e rfl
 have j2:RR (fs 38 [a,b] [] fl (ct+1)) 38 0 g.calm 7 _:=Fj O O (h.calm.f1 4) Tg;exact Fj O O (h.f1 4) j2
end
theorem fib_mc(K:Int):Fb K (mc0 1 (DB K) []):=by
 obtain⟨hm,hn⟩:=SL (n:=1) (bs:=DB K) [] (by simp[DB]);exact⟨hm,hn,rfl,rfl,rfl⟩
def Eu(K:Nat)(i:Nat):Sg:=AG i St.new (mc0 1 (DB K) [])
theorem fib_at(K:Nat)(hK:K≤39): ∀j,j≤K→(∃g fl,Fb K g∧fl<16∧Eu K (2*j+1)=⟨fs (if(K:Int) -j=0 then 37 else 24) [DK j,DK (j+1),(K:Int) -j] [] fl (7+12*j),g⟩)∧
 ∀i,i<2*j+1→(Eu K i).s.ha=Ac∧(Eu K i).s.ct<1600∧okB (Eu K i).s (Eu K i).g∧(Eu K i).g.b.outs=[]
 |0,_=>by
  have h0:=fib_mc K;have hb:=head_ h0 O O;refine⟨⟨_,Bv 25 K 0,h0.calm.calm.calm.calm.calm.calm.calm,(J8 _ _ _).2, ?_⟩,λi hi=>?_⟩;·have e:((K:Int) -(0:Nat))=K:=O;rw[e];exact hb.1
  ·obtain rfl:i=0:=O;exact⟨rfl,(by decide:(0:Int)<1600),hb.2,rfl⟩
 |j+1,hj=>by
  obtain⟨⟨g,fl,hg,hf,e⟩,ih⟩:=fib_at K hK j O;rw[Ae O] at e;obtain⟨g2,fl2,hg2,hf2,hb⟩:=body_ (a:=DK j) (b:=DK (j+1)) (c:=(K:Int) -j) (c2:=(K:Int) -(j+1:Nat)) (ct:=7+12*j) hg O O hf O;have e2:Eu K (2*j+2)=_:=(congrArg (λq:Sg=>C4 q.s q.g) e).trans hb.1;have ht:=blk_ hg2 Ap Ap ⟨AB,AB,hf2⟩ (test_ (a:=DK (j+1)) (b:=(DK j+DK (j+1))%4294967296) (c:=(K:Int) -(j+1:Nat)) (k:=4) (fl:=fl2) (ct:=7+12*(j:Int)+8) hg2 O O O O);have e3:Eu K (2*(j+1)+1)=_:=(congrArg (λq:Sg=>C4 q.s q.g) e2).trans ht.1;refine⟨⟨_,Bv 25 ((K:Int) -(j+1:Nat)) 0,hg2.calm.calm.calm.calm,(J8 _ _ _).2, ?_⟩,λi hi=>?_⟩;·rw[e3,show 7+12*(j:Int)+8+4=7+12*((j+1:Nat):Int) by omega];rfl
  ·rcases DL i (2*j+1) with q|q;·exact ih i q
   ·rcases Nat.eq_or_lt_of_le q with q|q;·subst q;rw[e];exact⟨rfl,by show 7+12*(j:Int)<1600;omega,hb.2,hg.o⟩
    ·obtain rfl:i=2*j+2:=O;rw[e2];exact⟨rfl,by show 7+12*(j:Int)+8<1600;omega,ht.2,hg2.o⟩
theorem kC(K:Nat)(hK:K≤39):(Eu K (2*K+2)).s.ha=Ag∧(Eu K (2*K+2)).s.d=[DK K]∧(Eu K (2*K+2)).s.r=[]∧(Eu K (2*K+2)).g.b.outs=[]∧ ∀i,i<2*K+2→(Eu K i).s.ha=Ac∧(Eu K i).s.ct<1600∧okB (Eu K i).s (Eu K i).g∧(Eu K i).g.b.outs=[]:=by
 obtain⟨⟨g,fl,hg,hf,e⟩,ih⟩:=fib_at K hK K (AC _);rw[An O] at e;obtain⟨g2,hg2,hb⟩:=tail_ (a:=DK K) (b:=DK (K+1)) (c:=(K:Int) -K) (ct:=7+12*K) hg O O hf;have e2:Eu K (2*K+2)=_:=(congrArg (λq:Sg=>C4 q.s q.g) e).trans hb.1;refine⟨by rw[e2],by rw[e2],by rw[e2],by rw[e2];exact hg2.o,λi hi=>?_⟩;rcases DL i (2*K+1) with q|q;·exact ih i q
 ·obtain rfl:i=2*K+1:=O;rw[e];exact⟨rfl,by show 7+12*(K:Int)<1600;omega,hb.2,hg.o⟩
end Gm
end Go.Proofs.YtdfegdoeebaagaaGreatDoor
