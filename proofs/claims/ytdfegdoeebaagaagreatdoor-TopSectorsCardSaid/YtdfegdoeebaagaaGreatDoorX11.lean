import Derived.Test.YtdfegdoeebaagaaGreatDoorX10
open Go.Value renaming ownBlock→Cb
open Option renaming some→I
open Go renaming World→Aa,Value→As,TypeId→AN,Ending→AY
open Go.Ending renaming returned→Ax
open Nat renaming lt_of_lt_of_le→Bg
open Or renaming inl→Af,inr→Ah
set_option linter.all false
set_option maxHeartbeats 40000000
set_option maxRecDepth 1000000
open Go Go.RowKit
namespace Go.Proofs.YtdfegdoeebaagaaGreatDoor
namespace Gm
open Fm Nt Rm By Wk Gs Bs Mu
structure Mch(w:Aa)(P:AE)(a:Ab)(A:Au)(g:Mc):Prop where
 bus: ∃F,Bus w F a g.b∧ ∀k,a.wr F k∨k=a.gd→ ¬P k∧k≠A.gU∧k≠A.gB
 un:Un w A g.u
 am:A.am=a.am
 uP: ¬P A.gU∧ ¬P A.gB
 tab:Iq.Tab w
 p0:P 0
 pl: ∀k,P k→k<w.heap.size
section
variable {w w':Aa} {P P' S:AE} {a:Ab} {A:Au} {g g':Mc}
theorem Mch.ok(h:Mch w P a A g):g.u.Ok:=Un.ok h.un
theorem Mch.bok(h:Mch w P a A g):g.b.Ok:=by
 obtain⟨F,h1,_⟩:=h.bus;exact h1.ok
theorem Mch.tu(h:Mch w P a A g):TuOk g.b.ms:=h.bok.tu
theorem Ft(h:Iq.Tab w)(f:Fr S w w')(hs: ¬S 0):Iq.Tab w':=
 ⟨Bg h.1 f.size,λi hi=>f.cell (h.2 i hi) h.1 hs⟩
theorem Mch.fr(h:Mch w P a A g)(f:Fr S w w')(hs: ∀k,S k→P k)(h0: ¬S 0):Mch w' P a A g:=by
 obtain⟨F,h1,h2⟩:=h.bus;refine⟨⟨F,h1.fr f (λk hk e=>(h2 k hk).1 (hs k e)),h2⟩,h.un.fr f (λk hk e=>?_),h.am,h.uP,Ft h.tab f h0,h.p0,λk hk=>Bg (h.pl k hk) f.size⟩;rcases hk with rfl|rfl|hk;·exact h.uP.1 (hs _ e)
 ·exact h.uP.2 (hs _ e)
 ·rw[h.am] at hk;exact(h2 k (Af (Ah (Ah (Ah (Ah (Af hk))))))).1 (hs _ e)
theorem Mch.fr0(h:Mch w P a A g)(f:Fr Aj w w'):Mch w' P a A g:=h.fr f (λ_ e=>e.elim) id
theorem Mch.lt(h:Mch w P a A g): ∃F,Bus w F a g.b∧(∀k,a.wr F k∨k=a.gd→ ¬P k∧k≠A.gU∧k≠A.gB)∧ ∀k,a.wr F k∨k=a.gd→k<w.heap.size:=by
 obtain⟨F,h1,h2⟩:=h.bus;exact⟨F,h1,h2,h1.lt⟩
theorem Mch.more(h:Mch w P a A g)(f:Fr Aj w w')(hp: ∀k,P' k→P k∨(w.heap.size≤k∧k<w'.heap.size))(h0:P' 0):Mch w' P' a A g:=by
 obtain⟨F,h1,h2,h3⟩:=h.lt;have hl:=h.un.lt;refine⟨⟨F,h1.fr0 f,λk hk=>⟨λe=>?_,(h2 k hk).2⟩⟩,h.un.fr0 f,h.am,⟨λe=>?_,λe=>?_⟩,Ft h.tab f id,h0,λk hk=>by
  rcases hp k hk with e|e;·exact Bg (h.pl k e) f.size
  ·exact e.2⟩
 ·exact VI
 ·exact N7
 ·exact N9
theorem Mch.less(h:Mch w P a A g)(hp: ∀k,P' k→P k)(h0:P' 0):Mch w P' a A g:=by
 obtain⟨F,h1,h2⟩:=h.bus;exact⟨⟨F,h1,λk hk=>⟨λe=>(h2 k hk).1 (hp k e),(h2 k hk).2⟩⟩,h.un,h.am,⟨λe=>h.uP.1 (hp _ e),λe=>h.uP.2 (hp _ e)⟩,h.tab,h0,λk hk=>h.pl k (hp k hk)⟩
theorem Mch.busPost(h:Mch w P a A g){F:AE}(h1:Bus w F a g.b)(h2: ∀k,a.wr F k∨k=a.gd→ ¬P k∧k≠A.gU∧k≠A.gB){s':Sb}{v:As}{e:AY}(hp:BPost w F a s' v e w'):e=Ax v∧Mch w' P a A ⟨s',g.l⟩∧Fr (λk=> ¬P k) w w':=by
 obtain⟨he,F',hB,hF,f⟩:=hp;have hl:=h.un.lt;have hsize:=f.size;have f2:Fr (λk=> ¬P k) w w':=f.mono (λk _ e=>(h2 k (Af e)).1);refine⟨he,⟨⟨F',hB,λk hk=>?_⟩, ?_,h.am,h.uP,Ft h.tab f2 (λe=>e h.p0),h.p0,λk hk=>Bg (h.pl k hk) f.size⟩,f2⟩
 ·have key:(a.wr F k∨k=a.gd)∨↑w≤k:=by
   rcases hk with(e|e|e|e|e|e)|e;·exact Mg
   ·exact Qe
   ·exact NA
   ·exact Af (Af (Ah (Ah (Ah (Af e)))))
   ·exact Af (Af (Ah (Ah (Ah (Ah (Af e))))))
   ·rcases hF k e with e|e;·exact Af (Af (Ah (Ah (Ah (Ah (Ah e))))))
    ·exact Ah e
   ·exact Af (Ah e)
  rcases key with e|e;·exact h2 k e
  ·refine⟨λq=>?_, ?_, ?_⟩;·have:=h.pl k q;omega
   ·have:=hl _ (Af rfl);omega
   ·have:=hl _ (Ah (Af rfl));omega
 ·have hM:=hB.M;refine⟨h.un.b.fr f (λe=>(h2 _ (Af e)).2.1 rfl), ?_,⟨Bg h.un.B.1 f.size,h.un.B.2.1,h.un.B.2.2.fr f (λe=>(h2 _ (Af e)).2.2 rfl)⟩,h.un.sep⟩;rw[h.am];exact hM
theorem Mch.unPost(h:Mch w P a A g){u':Us}(hU:Un w' A u')(f:Fr A.wr w w')(htu:TuOk u'.m):Mch w' P a A (g.setU u')∧Fr (λk=> ¬P k) w w':=by
 obtain⟨F,h1,h2⟩:=h.bus;have hs: ∀k,A.wr k→(k=A.gB∨a.am.own k):=λk e=>by
  rcases e with e|e;·exact Af e
  ·rw[h.am] at e;exact Ah e
 have f2:Fr (λk=> ¬P k) w w':=f.mono (λk _ e=>by
  rcases hs k e with e|e;·rw[e];exact h.uP.2
  ·exact(h2 k (Af (Ah (Ah (Ah (Ah (Af e))))))).1)
 have hM:Mem w' a.am u'.m:=by rw[←h.am];exact hU.M
 refine⟨⟨⟨F, ?_,h2⟩,hU,h.am,h.uP,Ft h.tab f2 (λe=>e h.p0),h.p0,λk hk=>Bg (h.pl k hk) f.size⟩,f2⟩;have nn: ∀k,(a.wr F k∨k=a.gd)→ ¬a.am.own k→ ¬A.wr k:=λk hk hn e=>by
  rcases hs k e with e|e;·exact(h2 k hk).2.2 e
  ·exact hn e
 have sM:=h1.sepM;exact⟨h1.b.fr f (nn _ (Af (Af rfl)) (λe=>(sM _ e).1 rfl)),h1.c.fr f (nn _ (Af (Ah (Af rfl))) (λe=>(sM _ e).2.1 rfl)),h1.t.fr f (nn _ (Af (Ah (Ah (Af rfl)))) (λe=>(sM _ e).2.2.1 rfl)),h1.k.fr f (λk hk=>nn k (Af (Ah (Ah (Ah (Ah (Ah hk)))))) (h1.sepF k hk).2.2.2.2.2),h1.d.fr f (nn _ (Ah rfl) (λe=>(sM _ e).2.2.2.1 rfl)) (nn _ (Af (Ah (Ah (Ah (Af rfl))))) (λe=>(sM _ e).2.2.2.2 rfl)),hM,h1.sepF,h1.sepM,⟨h1.ok.p,h1.ok.m,h1.ok.tm,h1.ok.len,h1.ok.ins,h1.ok.outs,h1.ok.sec,h1.ok.pl,h1.ok.st,htu⟩⟩
theorem Mch.memPost(h:Mch w P a A g){m':Ms}(hM:Mem w' a.am m')(f:Fr a.am.own w w')(htu:TuOk m'):Mch w' P a A ⟨{g.b with ms:=m'},g.l⟩∧Fr (λk=> ¬P k) w w':=by
 have hM2:Mem w' A.am m':=by rw[h.am];exact hM
 have f2:Fr A.am.own w w':=by rw[h.am];exact f
 exact h.unPost (h.un.setM hM2 f2) (f2.mono (λk _ e=> Ah e)) htu
end
end Gm
namespace Gm
open Fm Nt Rm By Wk Gs Bs Mu
section
variable {w:Aa} {P:AE} {a:Ab} {A:Au} {g:Mc}
variable{k:Nat}{t:AN}
theorem Kq{w:Aa}{cs:AO}(h:Blk w k t cs)(e:t≠22):Nk w k:=⟨t,cs,h,e⟩
theorem MV{w:Aa}{n:Nat}{f:Nat→As}(h:Cells w k t n f)(e:t≠22):Nk w k:=by
 obtain⟨cs,hc,_⟩:=h;exact⟨t,cs,hc,e⟩
theorem nk_row{w:Aa}{b n:Nat}{v:As}{xs:List As}(h:w.ownsRow b t 1 v n xs)(e:t≠22)(hk:v.ownBlock=I k):Nk w k:=by
 rcases h.2 with⟨e2,_⟩|⟨g',cap,cur,e2,_,hb,_⟩;·exact So
 ·rw[e2] at hk;have:=Sr;subst this;exact⟨_,_,hb,e⟩
theorem nk_mem{w:Aa}{a:Am}{m:Ms}(h:Mem w a m): ∀k,a.own k→Nk w k:=by
 obtain⟨s,t,h1,h2,h3,_⟩:=h;rintro k (rfl|(rfl|rfl|rfl)|rfl);·exact MV h3 Ak
 ·exact Kq h2.1 Ak
 ·exact MV h2.2.1 Ak
 ·exact MV h2.2.2.1 Ak
 ·exact MV h1 Ak
theorem Mch.least(h:Mch w P a A g): ∃AU:Nat→Prop,(∀k,AU k→Nk w k∧ ¬P k∧k<w.heap.size)∧ ∀Q:Nat→Prop,Q 0→(∀k,Q k→k<w.heap.size∧ ¬AU k)→Mch w Q a A g:=by
 obtain⟨F,hB,hs⟩:=h.bus;obtain⟨vo,vi,h1,h2,h3,h4,h5,h6,h7,h8⟩:=hB.k;have hF: ∀k,k=a.gk∨vo.ownBlock=I k∨vi.ownBlock=I k→F k:=by
  rintro k (rfl|e|e);·exact h5
  ·exact h6 k e
  ·exact h7 k e
 have hB0:Bus w (λk=>k=a.gk∨vo.ownBlock=I k∨vi.ownBlock=I k) a g.b:=⟨hB.b,hB.c,hB.t,⟨vo,vi,h1,h2,h3,h4,Af rfl,λk e=> Ah (Af e),λk e=> Ah (Ah e),λk e=>h8 k (hF k e)⟩,hB.d,hB.M,λk e=>hB.sepF k (hF k e),hB.sepM,hB.ok⟩;have up: ∀k,a.wr (λk=>k=a.gk∨vo.ownBlock=I k∨vi.ownBlock=I k) k→a.wr F k:=by
  rintro k (e|e|e|e|e|e);·exact Af e
  ·exact Ah (Af e)
  ·exact Ah (Ah (Af e))
  ·exact Ah (Ah (Ah (Af e)))
  ·exact Ah (Ah (Ah (Ah (Af e))))
  ·exact Ah (Ah (Ah (Ah (Ah (hF k e)))))
 refine⟨λk=>(a.wr (λk=>k=a.gk∨vo.ownBlock=I k∨vi.ownBlock=I k) k∨k=a.gd)∨k=A.gU∨k=A.gB, ?_,λQ q0 hq=>?_⟩
 ·intro k hk;refine⟨?_, ?_, ?_⟩
  ·rcases hk with((rfl|rfl|rfl|rfl|e|rfl|e|e)|rfl)|rfl|rfl;·exact Kq hB.b Ak
   ·exact Kq hB.c Ak
   ·exact Kq hB.t Ak
   ·exact MV hB.d.c Ak
   ·exact nk_mem hB.M k e
   ·exact Kq h1 Ak
   ·exact nk_row h2 Ak e
   ·exact nk_row h3 Ak e
   ·exact Kq hB.d.b Ak
   ·exact Kq h.un.b Ak
   ·exact h.un.B.2.2
  ·rcases hk with(e|e)|rfl|rfl;·exact(hs k (Af (up k e))).1
   ·exact(hs k (Ah e)).1
   ·exact h.uP.1
   ·exact h.uP.2
  ·rcases hk with e|rfl|rfl;·exact hB0.lt k e
   ·exact h.un.lt _ (Af rfl)
   ·exact h.un.lt _ (Ah (Af rfl))
 ·refine⟨⟨_,hB0,λk hk=>⟨λq=>(hq k q).2 (Af hk), ?_⟩⟩,h.un,h.am,⟨λq=>(hq _ q).2 (Ah (Af rfl)),λq=>(hq _ q).2 (Ah (Ah rfl))⟩,h.tab,q0,λk q=>(hq k q).1⟩;exact(hs k (hk.imp (up k) id)).2
end
end Gm
end Go.Proofs.YtdfegdoeebaagaaGreatDoor
