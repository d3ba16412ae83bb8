import Derived.Test.YtdfegdoeebaagaaGreatDoorX2
import Derived.Test.YtdfegdoeebaagaaGreatDoorChecked
open Go.Value renaming slice→Z,int→J,bool→Ap,tuple→AF,ownBlock→Cb,agg→A9,pointer→Bm,oneCell'→Ir
open Option renaming some→I,none→G
open Go.IntKind renaming i64→U,u32→V,u8→AB
open Go renaming World→Aa,Value→As,Calls→At,TypeId→AN,info_parts→Cj,maxLen→BQ,madeCells→CH,wpList→Cy,Program→CF,undef→BY,bits→Bv,Oper→BM,Operand→De
open Bool renaming false→Ac,true→Ag,false_ne_true→Fq
open List renaming getD_eq_getElem?_getD→AS,getElem?_eq_getElem→BK,append_assoc→C9,getElem?_take_of_lt→Dq,getElem_mem→CE,range→Cl,getElem?_append_right→Ex,getElem?_append_left→Ff,replicate→DL,length_map→Fo,range_succ→Ic,map_cons→GU
open Go.Ending renaming returned→Ax
open Nat renaming le_refl→AD,le_trans→Bf,zero_add→BW,eq_zero_or_pos→Gq
open Or renaming inl→Af,inr→Ah
open Go.Proofs.Tryz renaming underlying23→CI,underlying85→FV
open Go.RowKit renaming intOf→AM
open Array renaming getElem?_toList→DV
open Int renaming toNat_natCast→Du
open Go.Region renaming wanted→Dm
open Go.Result renaming andThen→ES
open Go.Instr renaming makeSlice→Fp
open Go.Lit renaming int→DT
open Go.Oper renaming wp→EP
open Go.Sem renaming run_bind→GT
set_option linter.all false
set_option maxHeartbeats 40000000
set_option maxRecDepth 1000000
open Go Go.RowKit
namespace Go.Proofs.YtdfegdoeebaagaaGreatDoor
namespace Nt
open Fm
def mN(t:Ts)(k:Nat):Nat:=cnt (λp=>t.fr p != -1) k
structure TInv(s:Pl)(t:Ts):Prop where
 pi:PInv s
 n0:1≤t.n
 n1:t.n≤64
 o0:0≤t.o
 o1:t.o<4
 pr:s.prom t.o.toNat=t.n
 at_: ∀k,k<t.n→t.fr k= -1∨(16≤t.fr k∧t.fr k<256∧s.own (t.fr k).toNat=t.o)
 inj: ∀j k,j<t.n→k<t.n→t.fr j=t.fr k→t.fr j≠ -1→j=k
 cn:hN s t.o 256=mN t t.n
 gd: ∀k,k<t.n→t.gd k=Ag→ ¬t.fr k= -1
theorem TInv.own{s:Pl}{t:Ts}(h:TInv s t): ∃m:Nat,t.o=m∧m<4:=⟨t.o.toNat,by have:=h.o0;omega,by have:=h.o0;have:=h.o1;omega⟩
section
variable {s:Pl} {t:Ts}
theorem TInv.new{o:Int}{n:Nat}(h0:0≤o)(h1:o<4)(hn0:1≤n)(hn1:n≤64){s:Pl}(hs:PInv s)(hp:s.prom o.toNat= -1)(hr:DY s o n=0):TInv (s.promise o n) (Ts.new n o):=by
 have hi:=hs.promise o n;have hh:s.promise o n=s.setProm o.toNat n:=by rw[Pl.promise,An hr]
 rw[hh] at hi⊢;refine⟨hi,hn0,hn1,h0,h1, ?_,λk hk=> Af rfl,λj k _ _ _ e=>absurd rfl e, ?_,λk hk e=>KB⟩;·show Bu s.prom o.toNat n o.toNat=n;exact LH _ _ _
 ·obtain⟨m,rfl⟩: ∃k:Nat,o=k:=⟨o.toNat,O⟩;have e1:hN s m 256=0:=by
   have:=hs.held m O;rw[show(m:Int).toNat=m from rfl] at hp;rw[hp] at this;omega
  have e2:mN (Ts.new n m) n=0:=by
   rcases Gq (mN (Ts.new n m) n) with h|h;·exact h
   ·obtain⟨f,_,hf⟩:=PK h;simp[Ts.new] at hf
  show hN s m 256=mN (Ts.new n m) n;omega
variable{k:Nat}
theorem Nz(t:Ts)(hk:k<t.n):frB t k=(t.fr k != -1):=by
 have:inP t k=Ag:=by simp[inP,hk]
 simp[frB,this]
theorem frV_eq(t:Ts)(h:frB t k=Ag):frV t k=t.fr k:=by simp[frV,h]
theorem UY(t:Ts)(k:Nat):inP t k=decide (k<t.n):=by simp[inP]
theorem TInv.mapNew(h:TInv s t)(hk:k<t.n)(hx:t.fr k= -1): ∃f:Nat,16≤f∧f<256∧s.own f= -1∧FY s=I f∧Gb s t k=0∧Gd s t k=f∧DN s t k=(s.setOwn f t.o).wipe f∧t.map s k=t.setFr k f:=by
 obtain⟨m,hm,hm4⟩:=h.own;have hlt:mN t t.n<t.n:=cnt_lt (f:=k) (by simp[hx]) hk;have hpr:=h.pr;have hcn:=h.cn;rw[hm] at hpr hcn;have hr:(hN s m 256:Int)<s.prom m:=by
  rw[show(m:Int).toNat=m from rfl] at hpr;rw[hpr];omega
 obtain⟨f,_,f0,f1,f2,f3,f4,f5,f6⟩:=h.pi.takes hm4 hr;have hq:EG t k=Ag:=by simp[EG,UY,hk,Nz t hk,hx]
 refine⟨f,f1,f2,f3,f0, ?_, ?_, ?_, ?_⟩;·rw[Gb,An hq,hm,f4]
 ·rw[Gd,An hq,hm,f5]
 ·rw[DN,An hq,hm,f6]
 ·rw[Ts.map,An (by rw[hm,hq,f4];rfl),hm,f5];rfl
theorem mapOld(hk:k<t.n)(hx: ¬t.fr k= -1):Gb s t k=0∧Gd s t k=t.fr k∧DN s t k=s∧t.map s k=t:=by
 have hb:frB t k=Ag:=by simp[Nz t hk,hx]
 have hq:EG t k=Ac:=by simp[EG,hb]
 have hi:inP t k=Ag:=by simp[UY,hk]
 refine⟨by simp[Gb,hq,hi],by simp[Gd,hq,frV,hb],by simp[DN,hq],by simp[Ts.map,hq]⟩
theorem mapOut{p:Int}(h:inP t p=Ac):Gb s t p=22∧Gd s t p=0∧DN s t p=s∧t.map s p=t:=by
 have hb:frB t p=Ac:=by simp[frB,h]
 have hq:EG t p=Ac:=by simp[EG,h]
 refine⟨by simp[Gb,hq,h],by simp[Gd,hq,frV,hb],by simp[DN,hq],by simp[Ts.map,hq]⟩
theorem TInv.setNew(h:TInv s t){f:Nat}(hk:k<t.n)(hx:t.fr k= -1)(f1:16≤f)(f2:f<256)(f3:s.own f= -1)(hp:PInv ((s.setOwn f t.o).wipe f)):TInv ((s.setOwn f t.o).wipe f) (t.setFr k f):=by
 obtain⟨m,hm,hm4⟩:=h.own;have hne: ∀j,j<t.n→t.fr j≠(f:Int):=λj hj e=>by
  rcases h.at_ j hj with e1|⟨_,_,e1⟩;·omega
  ·rw[e,show(f:Int).toNat=f from rfl,f3] at e1;have:=h.o0;omega
 refine⟨hp,h.n0,h.n1,h.o0,h.o1,h.pr,λj hj=>?_,λi j hi hj=>?_, ?_,λj hj hg=>?_⟩
 ·have hj:j<t.n:=hj;show Bu t.fr k f j= -1∨16≤Bu t.fr k f j∧Bu t.fr k f j<256∧Bu s.own f t.o (Bu t.fr k f j).toNat=t.o;unfold Bu;split;·right;exact⟨O,O,AC⟩
  ·rcases h.at_ j hj with e1|⟨e1,e2,e3⟩;·exact Af e1
   ·right;refine⟨e1,e2, ?_⟩;split;·rfl
    ·exact e3
 ·have hi:i<t.n:=hi;have hj:j<t.n:=hj;show Bu t.fr k f i=Bu t.fr k f j→Bu t.fr k f i≠ -1→i=j;unfold Bu;intro e1 e2;split at e1
  ·rename_i ei
   split at e1;·rename_i ej;rw[ei,ej]
   ·exact absurd e1.symm (hne j hj)
  ·rename_i ei
   split at e1;·exact absurd e1 (hne i hi)
   ·rw[Ae ei] at e2;exact h.inj i j hi hj e1 e2
 ·show hN ((s.setOwn f t.o).wipe f) t.o 256=mN (t.setFr k f) t.n;rw[hm,UK f2 f3,An rfl];have:=h.cn;rw[hm] at this;rw[this];unfold mN;symm;refine UI (f:=k) (by simp[hx]) ?_ (λj hj=>?_) hk;·show(Bu t.fr k f k != -1)=Ag;rw[LH];simp
  ·show(Bu t.fr k f j != -1)=_;rw[PA _ _ hj]
 ·show ¬Bu t.fr k f j= -1;unfold Bu;split;·omega
  ·exact h.gd j hj hg
theorem TInv.map(h:TInv s t)(p:Int):TInv (DN s t p) (t.map s p):=by
 cases hi:inP t p
 ·obtain⟨_,_,e1,e2⟩:=mapOut (s:=s) hi;rw[e1,e2];exact h
 ·obtain⟨k,rfl,hk⟩:=PM hi;by_cases hx:t.fr k= -1
  ·obtain⟨f,f1,f2,f3,_,_,_,e1,e2⟩:=h.mapNew hk hx;have hp:PInv (DN s t k):=by
    unfold DN;split;·exact h.pi.take _
    ·exact h.pi
   rw[e1,e2];rw[e1] at hp;exact h.setNew hk hx f1 f2 f3 hp
  ·obtain⟨_,_,e1,e2⟩:=mapOld (s:=s) hk hx;rw[e1,e2];exact h
theorem TInv.putB(h:TInv s t)(f a b:Int):TInv (s.putB f a b) t:=by
 have hp:=h.pi.putB f a b;unfold Pl.putB at*;split
 ·rename_i hh
  rw[An hh] at hp;exact⟨hp,h.n0,h.n1,h.o0,h.o1,h.pr,h.at_,h.inj,h.cn,h.gd⟩
 ·exact h
end
end Nt
namespace Rm
open Fm Nt
structure Am where
 a:Ad
 gm:Nat
structure Ms where
 n:Nat
 mem:Nat→Int
 mp:Nat→Bool
 tu:Nat→Bool
def JI(a:Am)(m:Ms)(i:Nat):As:=if i=0 then ↑a.a.gp else if i=1 then ↑a.a.gt else if i<66 then Ap (m.tu (i -2)) else Ap Ac
def Am.own(a:Am)(k:Nat):Prop:=k=a.gm∨a.a.own k∨k=a.a.gp
def LP(s:Pl)(t:Ts)(i:Nat):Int:=if t.fr (i/64)= -1 then 0 else s.byt ((t.fr (i/64)).toNat*64+i%64)
structure Sees(m:Ms)(s:Pl)(t:Ts):Prop where
 inv:TInv s t
 n:t.n=m.n
 mp: ∀k,k<m.n→m.mp k=(t.fr k != -1)
 mem: ∀i,i<m.n*64→m.mem i=LP s t i
 bd: ∀i,i<m.n*64→0≤m.mem i∧m.mem i<256
def Ms.put(m:Ms)(i:Nat)(b:Int):Ms:={m with mem:=Bu m.mem i b,mp:=if b=0 then m.mp else EE m.mp (i/64) Ag,tu:=EE m.tu (i/64) Ag}
def Ms.calm(m:Ms):Ms:={m with tu:=λ_=>Ac}
def Ms.new(n:Nat):Ms:=⟨n,λ_=>0,λ_=>Ac,λ_=>Ac⟩
section
variable {m:Ms} {s:Pl} {t:Ts}
variable{i:Nat}
theorem Sees.lt(h:Sees m s t)(hi:i<m.n*64):i/64<t.n:=N1
variable{f:Nat}
theorem JJ{s:Pl}{t:Ts}(h:t.fr (i/64)=f):LP s t i=s.byt (f*64+i%64):=by
 unfold LP;rw[h,Ae O];rfl
theorem JK{s:Pl}{t:Ts}(h:t.fr (i/64)= -1):LP s t i=0:=by
 unfold LP;rw[An h]
theorem Sees.map(h:Sees m s t){k:Nat}(hk:k<m.n)(hx:t.fr k= -1):Sees {m with mp:=EE m.mp k Ag} (DN s t k) (t.map s k):=by
 have hk':k<t.n:=by rw[h.n];exact hk
 have hI:=h.inv.map k;obtain⟨f,f1,f2,f3,_,_,_,e1,e2⟩:=h.inv.mapNew hk' hx;rw[e1,e2] at hI;rw[e1,e2];refine⟨hI,h.n,λj hj=>?_,λi hi=>?_,h.bd⟩
 ·have hj:j<m.n:=hj;show EE m.mp k Ag j=(Bu t.fr k f j != -1);unfold EE Bu;split;·simp
  ·exact h.mp j hj
 ·have hi:i<m.n*64:=hi;show m.mem i=_;rw[h.mem i hi];by_cases e:i/64=k
  ·have h1:(t.setFr k f).fr (i/64)=f:=by show Bu t.fr k f (i/64)=f;rw[e,LH]
   rw[JK (e▸hx),JJ h1];show 0=if f*64≤f*64+i%64∧f*64+i%64<f*64+64 then 0 else _;rw[An O]
  ·have h1:(t.setFr k f).fr (i/64)=t.fr (i/64):=PA _ _ e;by_cases hm:t.fr (i/64)= -1;·rw[JK hm,JK (h1.trans hm)]
   ·rcases h.inv.at_ (i/64) (h.lt hi) with q|⟨q1,q2,q3⟩;·exact absurd q hm
    ·obtain⟨g,hg⟩: ∃g:Nat,t.fr (i/64)=g:=⟨(t.fr (i/64)).toNat,O⟩;rw[JJ hg,JJ (h1.trans hg)];have hgf:g≠f:=by
      rintro rfl;rw[hg,show(g:Int).toNat=g from rfl,f3] at q3;have:=h.inv.o0;omega
     show _=if f*64≤g*64+i%64∧g*64+i%64<f*64+64 then 0 else s.byt (g*64+i%64);exact Nu
theorem Sees.frame(h:Sees m s t){k:Nat}(hk:k<m.n)(hx: ¬t.fr k= -1): ∃f:Nat,t.fr k=f∧16≤f∧f<256∧s.own f=t.o:=by
 rcases h.inv.at_ k (by rw[h.n];exact hk) with e|⟨e1,e2,e3⟩;·exact absurd e hx
 ·obtain⟨f,hf⟩: ∃f:Nat,t.fr k=f:=⟨(t.fr k).toNat,O⟩;rw[hf] at e1 e2 e3;exact⟨f,hf,O,O,e3⟩
theorem UZ{s:Pl}{o:Int}{a:Nat}(h1:16≤f)(h2:f<256)(h3:s.own f=o)(h4:0≤o)(ha:a<64):DB s f a=Ag:=by
 have e1:Fl s f=Ag:=by
  have: ¬s.own f= -1:=O;simp[Fl,isF,this];omega
 simp[DB,e1];omega
theorem Sees.putF(h:Sees m s t)(hi:i<m.n*64)(hf:t.fr (i/64)=f)(b:Int)(b0:0≤b)(b1:b<256):DB s f (i%64:Nat)=Ag∧Sees {m with mem:=Bu m.mem i b} (s.putB f (i%64:Nat) b) t:=by
 have hlt:=h.lt hi;obtain⟨f',hf',f1,f2,f3⟩:=h.frame (k:=i/64) O O;have:f'=f:=O;subst this;have hh:=UZ (a:=i%64) f1 f2 f3 h.inv.o0 O;have hI:=h.inv.putB f' (i%64:Nat) b;have e1:s.putB f' (i%64:Nat) b=s.setByt (f'*64+i%64) b:=by
  rw[Pl.putB,An hh];rfl
 rw[e1] at hI⊢;refine⟨hh,hI,h.n,h.mp,λj hj=>?_,λj hj=>?_⟩
 ·have hj:j<m.n*64:=hj;show Bu m.mem i b j=_;unfold Bu;by_cases e:j=i;·subst e;rw[An rfl,JJ hf];show b=Bu s.byt _ b _;rw[LH]
  ·rw[Ae e,h.mem j hj];by_cases hm:t.fr (j/64)= -1;·rw[JK hm,JK hm]
   ·obtain⟨g,hg,g1,g2,_⟩:=h.frame (k:=j/64) O hm;rw[JJ hg,JJ hg];show _=Bu s.byt _ b _;rw[PA];intro e2;by_cases e3:j/64=i/64;·rw[e3,hf] at hg;omega
    ·have:g≠f':=λe4=>e3 (h.inv.inj _ _ (h.lt hj) hlt (by rw[hg,hf,e4]) O);omega
 ·show 0≤Bu m.mem i b j∧Bu m.mem i b j<256;unfold Bu;split;·omega
  ·exact h.bd j hj
theorem Sees.turn(h:Sees m s t)(tu:Nat→Bool):Sees {m with tu:=tu} s t:=⟨h.inv,h.n,h.mp,h.mem,h.bd⟩
theorem Sees.congr(h:Sees m s t){m':Ms}(hn:m'.n=m.n)(h1: ∀k,k<m.n→m'.mp k=m.mp k)(h2: ∀i,i<m.n*64→m'.mem i=m.mem i):Sees m' s t:=
 ⟨h.inv,h.n.trans hn.symm,λk hk=>(h1 k (hn▸hk)).trans (h.mp k (hn▸hk)),λi hi=>(h2 i (hn▸hi)).trans (h.mem i (hn▸hi)),λi hi=>by rw[h2 i (hn▸hi)];exact h.bd i (hn▸hi)⟩
theorem Sees.put0(h:Sees m s t)(hi:i<m.n*64)(hx:t.fr (i/64)= -1):Sees (m.put i 0) s t:=by
 refine h.congr rfl (λk hk=>by simp[Ms.put]) (λj hj=>?_);show Bu m.mem i 0 j=m.mem j;unfold Bu;split
 ·rename_i e
  subst e;rw[h.mem j hi,JK hx]
 ·rfl
theorem Sees.new{n:Nat}{o:Int}(h:TInv s (Ts.new n o)):Sees (Ms.new n) s (Ts.new n o):=
 ⟨h,rfl,λk hk=>rfl,λi hi=>rfl,λi hi=>by show(0:Int)≤0∧(0:Int)<256;omega⟩
end
def MemC(w:Aa)(a:Am)(m:Ms)(s:Pl)(t:Ts):Prop:=Pool w a.a.gp s∧Tab w a.a t∧Cells w a.gm 110 67 (JI a m)∧Sees m s t
def Mem(w:Aa)(a:Am)(m:Ms):Prop:= ∃s t,MemC w a m s t
section
variable {w w':Aa} {a:Am} {m:Ms} {s:Pl} {t:Ts} {S:AE}
theorem MemC.fr(h:MemC w a m s t)(f:Fr S w w')(hn: ∀k,a.own k→ ¬S k):MemC w' a m s t:=
 ⟨h.1.fr f (hn _ (Ah (Ah rfl))),h.2.1.fr f (λk hk=>hn k (Ah (Af hk))),h.2.2.1.fr f (hn _ (Af rfl)),h.2.2.2⟩
theorem Mem.fr(h:Mem w a m)(f:Fr S w w')(hn: ∀k,a.own k→ ¬S k):Mem w' a m:=by
 obtain⟨s,t,h⟩:=h;exact⟨s,t,h.fr f hn⟩
theorem Mem.fr0(h:Mem w a m)(f:Fr Aj w w'):Mem w' a m:=h.fr f (λ_ _ e=>e)
theorem Mem.alloc(h:Mem w a m)(o:Obj):Mem (w.alloc o) a m:=h.fr0 ((Ao _ w).alloc o)
theorem MemC.ne1(h:MemC w a m s t):a.gm≠a.a.gp:=Cells.ne h.2.2.1 h.1 Ak
theorem MemC.ne2(h:MemC w a m s t):a.gm≠a.a.gt:=by
 obtain⟨cs,hcs,_⟩:=h.2.2.1;exact Blk.ne_ hcs h.2.1.1 Ak
theorem MemC.ne3(h:MemC w a m s t):a.gm≠a.a.gf:=Cells.ne h.2.2.1 h.2.1.2.1 Ak
theorem MemC.ne4(h:MemC w a m s t):a.gm≠a.a.gg:=Cells.ne h.2.2.1 h.2.1.2.2.1 Ak
theorem MemC.neT(h:MemC w a m s t): ∀k,a.a.own k∨k=a.a.gp→ ¬k=a.gm:=by
 rintro k ((rfl|rfl|rfl)|rfl) e;·exact h.ne2 e.symm
 ·exact h.ne3 e.symm
 ·exact h.ne4 e.symm
 ·exact h.ne1 e.symm
theorem Mem.lt(h:Mem w a m): ∀k,a.own k→k<w.heap.size:=by
 obtain⟨s,t,h⟩:=h;rintro k (rfl|hk|rfl);·exact Cells.lt h.2.2.1
 ·exact h.2.1.lt k hk
 ·exact h.1.lt
theorem Mem.n0(h:Mem w a m):1≤m.n∧m.n≤64:=by
 obtain⟨s,t,h⟩:=h;have:=h.2.2.2.inv.n0;have:=h.2.2.2.inv.n1;have:=h.2.2.2.n;omega
theorem Mem.bd(h:Mem w a m): ∀i,i<m.n*64→0≤m.mem i∧m.mem i<256:=by
 obtain⟨s,t,h⟩:=h;exact h.2.2.2.bd
theorem MemC.c0(h:MemC w a m s t):w.cell? ⟨a.gm,0,G⟩=I ↑a.a.gp:=Cells.cell h.2.2.1 0 O
theorem MemC.c1(h:MemC w a m s t):w.cell? ⟨a.gm,1,G⟩=I ↑a.a.gt:=Cells.cell h.2.2.1 1 O
theorem MemC.cT(h:MemC w a m s t)(k:Nat)(hk:k<64):w.cell? ⟨a.gm,2+k,G⟩=I (Ap (m.tu k)):=by
 rw[Cells.cell h.2.2.1 _ O,JI,Ae O,Ae O,An O,show 2+k -2=k by omega]
theorem MemC.cC(h:MemC w a m s t):w.cell? ⟨a.gm,66,G⟩=I (Ap Ac):=Cells.cell h.2.2.1 66 O
theorem MemC.setT(h:MemC w a m s t)(k:Nat)(hk:k<64)(b:Bool):MemC (w.setCell ⟨a.gm,2+k,G⟩ (Ap b)) a {m with tu:=EE m.tu k b} s t:=by
 have ff:=Br w a.gm (2+k) (Ap b);refine⟨h.1.fr ff (λe=>h.neT _ (Ah rfl) e),h.2.1.fr ff (λk hk e=>h.neT _ (Af hk) e),Cells.congr (Cells.set_ h.2.2.1 _ _) (λi hi=>?_),h.2.2.2.turn _⟩;unfold Bz JI;dsimp only;by_cases e:i=2+k;·rw[An e,Ae O,Ae O,An O,show i -2=k by omega];simp[EE]
 ·rw[Ae e];by_cases e0:i=0;·rw[An e0,An e0]
  ·by_cases e1:i=1;·rw[Ae e0,An e1,Ae e0,An e1]
   ·by_cases e2:i<66;·rw[Ae e0,Ae e1,An e2,Ae e0,Ae e1,An e2];rw[EE,Ae O]
    ·rw[Ae e0,Ae e1,Ae e2,Ae e0,Ae e1,Ae e2]
end
end Rm
namespace Rm
open Fm Nt
theorem size_any(w:Aa)(a:Am)(m:Ms)(h:Mem w a m):At Tryz.prog 32 #[↑a.gm] w λe w'=>e=Ax (J V ((m.n:Int)*64))∧w=w':=by
 have hn:=h.n0;obtain⟨s,t,hC⟩:=h;have c1:=hC.c1;have hp:=pages_any w a.a t hC.2.1;rw[hC.2.2.2.n] at hp;have Hp:=T hp;clear hp;go_in;go_wp2_with fail;refine Az Hp ?_;exact LJ
theorem Va(w:Aa)(at_:Int)(h0:0≤at_)(h1:at_≤4294967295):At Tryz.prog 50 #[J V at_] w λe w'=>e=Ax (AF #[J U (at_/64),J U (at_%64)])∧w=w':=PP
def inB(m:Ms)(at_ k:Int):Bool:=decide (at_+k≤(m.n:Int)*64)
theorem is_any(w:Aa)(a:Am)(m:Ms)(h:Mem w a m)(at_ k:Int)(h0:0≤at_)(h1:at_≤4294967295)(hk0:0≤k)(hk1:k≤1000):At Tryz.prog 82 #[↑a.gm,J V at_,J U k] w λe w'=>e=Ax (Ap (inB m at_ k))∧w=w':=by
 have hs:=T (size_any w a m h);have hn:=h.n0;have hI:Hid (inB m at_ k=decide (at_+k≤(m.n:Int)*64)):=rfl;clear h;generalize inB m at_ k=r at*;generalize hq:(m.n:Int)*64=q at*;have hq0:0≤q:=O;have hq1:q≤4096:=O;clear hq;go_in;go_wp2_with fail;refine Az hs ?_;rintro e w' ⟨rfl,rfl⟩
 go_wp2
 go_ret;exact⟨by rw[hI.out];rfl,rfl⟩
theorem get_any(w:Aa)(a:Am)(m:Ms)(h:Mem w a m)(at_:Int)(h0:0≤at_)(h1:at_<(m.n:Int)*64):At Tryz.prog 33 #[↑a.gm,J V at_] w λe w'=>e=Ax (J AB (m.mem at_.toNat))∧w=w':=by
 have hn:=h.n0;obtain⟨s,t,hC⟩:=h;obtain⟨i,rfl⟩: ∃i:Nat,at_=i:=⟨at_.toNat,O⟩;rw[show(i:Int).toNat=i from rfl];have hi:i<m.n*64:=O;have c0:=hC.c0;have c1:=hC.c1;have hsp:=T (Va w i h0 O);have hme:=hC.2.2.2.mem i hi;have hf:=frame_any w a.a t ((i/64:Nat):Int) hC.2.1;have e1:((i/64:Nat):Int)=(i:Int)/64:=O;have hlt:=hC.2.2.2.lt hi;by_cases hx:t.fr (i/64)= -1;·have q1:=Vb;have q2:=Vc;rw[JK hx] at hme;rw[q1,q2,e1] at hf;have Hf:=T hf;rw[hme];clear hme hf e1 q1 q2 hx hC;go_in;go_wp2_with fail;refine Az hsp ?_;rintro e w' ⟨rfl,rfl⟩;go_wp2_with fail;refine Az Hf ?_;exact LJ
 ·have q1:=Vd;obtain⟨f,hff,f1,f2,f3⟩:=hC.2.2.2.frame (k:=i/64) O hx;have q2:frV t ((i/64:Nat):Int)=f:=by rw[frV_eq t q1,hff]
  have hh:=UZ (s:=s) (a:=i%64) f1 f2 f3 hC.2.2.2.inv.o0 O;have hb:=byte_any w a.a.gp s f ((i%64:Nat):Int) hC.1;have e2:((i%64:Nat):Int)=(i:Int)%64:=O;have q3:JG s f ((i%64:Nat):Int)=m.mem i:=by
   rw[hme,JJ hff,JG,An hh];rfl
  rw[hh,q3,e2] at hb;rw[q1,q2,e1] at hf;have Hf:=T hf;have Hb:=T hb;clear hme hf hb e1 e2 q1 q2 q3 hx hC hh hff f3;generalize m.mem i=b at*;go_in;go_wp2_with fail;refine Az hsp ?_;rintro e w' ⟨rfl,rfl⟩;go_wp2_with fail;refine Az Hf ?_;rintro e w' ⟨rfl,rfl⟩;go_wp2_with fail;refine Az Hb ?_;exact LJ
def Ms.putI(m:Ms)(at_ b:Int):Ms:=if inB m at_ 1 then m.put at_.toNat b else m
set_option maxRecDepth 100000 in
theorem put_any(w:Aa)(a:Am)(m:Ms)(h:Mem w a m)(at_ b:Int)(h0:0≤at_)(h1:at_≤4294967295)(b0:0≤b)(b1:b<256):At Tryz.prog 59 #[↑a.gm,J V at_,J AB b] w λe w'=>e=Ax (Ap (inB m at_ 1))∧Mem w' a (m.putI at_ b)∧Fr a.own w w':=by
 have hn:=h.n0;have his:=is_any w a m h at_ 1 h0 h1 O O
 cases hb:inB m at_ 1
 ·have e1:m.putI at_ b=m:=by simp[Ms.putI,hb]
  rw[hb] at his;rw[e1];have His:=T his;clear his hb e1;go_in;go_wp2_with fail;refine Az His ?_;exact PD
 ·have e1:m.putI at_ b=m.put at_.toNat b:=by simp[Ms.putI,hb]
  rw[hb] at his;rw[e1];have His:=T his;have hat:at_<(m.n:Int)*64:=by simp[inB] at hb;omega
  clear his hb e1;obtain⟨s,t,hC⟩:=h;obtain⟨i,rfl⟩: ∃i:Nat,at_=i:=⟨at_.toNat,O⟩;rw[show(i:Int).toNat=i from rfl];have hi:i<m.n*64:=O;have c0:=hC.c0;have c1:=hC.c1;have cC:=hC.cC;have cT:=hC.cT (i/64) O;have zT:=Cells.frozen hC.2.2.1 (2+i/64);have hsp:=T (Va w i h0 O);have hf:=frame_any w a.a t ((i/64:Nat):Int) hC.2.1;have ed:((i/64:Nat):Int)=(i:Int)/64:=O;have em:((i%64:Nat):Int)=(i:Int)%64:=O;have hlt:=hC.2.2.2.lt hi;have hS:=hC.2.2.2;have i64:i/64<64:=O;by_cases hx:t.fr (i/64)= -1
  ·have q1:=Vb;have q2:=Vc;rw[q1,q2,ed] at hf;have Hf:=T hf;by_cases hb0:b=0
   ·subst hb0;have hM:Mem (w.setCell ⟨a.gm,2+i/64,G⟩ (Ap Ag)) a (m.put i 0):=⟨s,t,(hC.setT _ i64 Ag).1,(hC.setT _ i64 Ag).2.1,(hC.setT _ i64 Ag).2.2.1,hS.put0 hi hx⟩;have fr1:=(Ao a.own w).setCell (p:=⟨a.gm,2+i/64,G⟩) (Af (Af rfl)) (Ap Ag);have HM:=T hM;have FR:=T fr1;clear hM fr1 hf q1 q2 hx hS hC;go_in;go_wp2_with fail;refine Az His ?_;rintro e w' ⟨rfl,rfl⟩;go_wp2_with fail;refine Az hsp ?_;rintro e w' ⟨rfl,rfl⟩;go_wp2_with fail;refine Az Hf ?_;rintro e w' ⟨rfl,rfl⟩
    go_wp2
    go_ret;exact PR
   ·obtain⟨f,f1,f2,f3,_,g1,g2,g3,g4⟩:=hS.inv.mapNew hlt hx;have hmp:=map_any w a.a s t ((i/64:Nat):Int) hC.1 hC.2.1 hS.inv.pi.ok;rw[g1,g2,ed] at hmp;have hS2:=hS.map (k:=i/64) O hx;have hfr2:(t.map s ((i/64:Nat):Int)).fr (i/64)=f:=by rw[g4];exact LH _ _ _
    obtain⟨hh,hS3⟩:=hS2.putF (i:=i) (f:=f) hi hfr2 b b0 b1;have hpt:=λW (h:Pool W a.a.gp (DN s t ((i/64:Nat):Int)))=>Fm.put_any W a.a.gp _ f ((i%64:Nat):Int) b h;rw[hh] at hpt;rw[ed,em] at hpt hS3;rw[ed] at hS2;have Hmp:=T hmp;have Hpt:=T hpt;have hbne:(b !=0)=Ag:=by simpa using hb0
    have hbeq:(b==0)=Ac:=by simpa using hb0
    have HB0:=T hb0;have hC':=T hC;have hne:=T hC.neT;clear hmp hpt hf q1 q2 hx hS hC hb0 g1 g2 g3 g4 hfr2 hh;generalize DN s t ((i:Int)/64)=s2 at*;generalize t.map s ((i:Int)/64)=t2 at*;go_in;go_wp2_with fail;refine Az His ?_;rintro e w' ⟨rfl,rfl⟩;go_wp2_with fail;refine Az hsp ?_;rintro e w' ⟨rfl,rfl⟩;go_wp2_with fail;refine Az Hf ?_;rintro e w' ⟨rfl,rfl⟩;go_wp2_with fail;refine Az Hmp ?_;rintro e w2 ⟨rfl,hP2,hT2,f2⟩;have hC2:MemC w2 a {m with mp:=EE m.mp (i/64) Ag} s2 t2:=⟨hP2,hT2,Cells.congr (hC'.out.2.2.1.fr f2 (λe=>by
     rcases e with e|e;·exact hne.out _ (Ah rfl) e.symm
     ·exact hne.out _ (Af (Ah (Af rfl))) e.symm)) (λj hj=>rfl),hS2⟩
    have fr2:Fr a.own w w2:=f2.mono (λk _ e=>by
     rcases e with e|e;·exact Ah (Ah e)
     ·exact Ah (Af (Ah (Af e))))
    have c0':=hC2.c0;have cT':=hC2.cT (i/64) i64;have zT':=Cells.frozen hC2.2.2.1 (2+i/64);have hC3:=hC2.setT (i/64) i64 Ag;have fr3:=fr2.setCell (p:=⟨a.gm,2+i/64,G⟩) (Af (Af rfl)) (Ap Ag);have HP3:=T (Hpt.out _ hC3.1);have HC3:=T hC3;have FR3:=T fr3;have c0'':=hC3.c0;clear hC3 fr3 fr2 hC2;go_wp2_with fail;refine Az HP3 ?_;rintro e w4 ⟨rfl,hP4,f4⟩;have fr4:=FR3.out.tr (f4.mono (λk _ e=> Ah (Ah e)));have hC3:=HC3.out;have hM:Mem w4 a (m.put i b):=⟨_,t2,hP4,hC3.2.1.fr f4 (λk hk e=>hC3.2.1.pool hC3.1 k hk e),Cells.congr (hC3.2.2.1.fr f4 (λe=>hne.out _ (Ah rfl) e.symm)) (λj hj=>rfl),hS3.congr rfl (λk hk=>by
     show(if b=0 then m.mp else EE m.mp (i/64) Ag) k=_;rw[Ae HB0.out]) (λj hj=>rfl)⟩
    clear c0'' cT' c0' hC3
    go_wp2
    go_ret;exact⟨rfl,hM,fr4⟩
  ·have q1:=Vd;obtain⟨f,hff,f1,f2,f3⟩:=hS.frame (k:=i/64) O hx;have q2:frV t ((i/64:Nat):Int)=f:=by rw[frV_eq t q1,hff]
   obtain⟨hh,hS3⟩:=hS.putF hi hff b b0 b1;have hpt:=λW (h:Pool W a.a.gp s)=>Fm.put_any W a.a.gp _ f ((i%64:Nat):Int) b h;rw[hh] at hpt;rw[em] at hpt hS3;rw[q1,q2,ed] at hf;have Hf:=T hf;have Hpt:=T hpt;have hC3:=hC.setT (i/64) i64 Ag;have fr3:=(Ao a.own w).setCell (p:=⟨a.gm,2+i/64,G⟩) (Af (Af rfl)) (Ap Ag);have HP3:=T (Hpt.out _ hC3.1);have HC3:=T hC3;have FR3:=T fr3;have hne:=T hC.neT;have hmp:=T (show m.mp (i/64)=Ag from by rw[hS.mp _ (by omega)];simpa using hx);have c0'':=hC3.c0;clear hf hpt q1 q2 hx hS hC hff hh hC3 fr3 f3;go_in;go_wp2_with fail;refine Az His ?_;rintro e w' ⟨rfl,rfl⟩;go_wp2_with fail;refine Az hsp ?_;rintro e w' ⟨rfl,rfl⟩;go_wp2_with fail;refine Az Hf ?_;rintro e w' ⟨rfl,rfl⟩;go_wp2_with fail;refine Az HP3 ?_;rintro e w4 ⟨rfl,hP4,f4⟩;have fr4:=FR3.out.tr (f4.mono (λk _ e=> Ah (Ah e)));have hC3:=HC3.out;have hM:Mem w4 a (m.put i b):=⟨_,t,hP4,hC3.2.1.fr f4 (λk hk e=>hC3.2.1.pool hC3.1 k hk e),Cells.congr (hC3.2.2.1.fr f4 (λe=>hne.out _ (Ah rfl) e.symm)) (λj hj=>rfl),hS3.congr rfl (λk hk=>by
    show(if b=0 then m.mp else EE m.mp (i/64) Ag) k=m.mp k;split;·rfl
    ·unfold EE;split;·rename_i e;rw[e,hmp.out]
     ·rfl) (λj hj=>rfl)⟩
   clear c0'' hC3
   go_wp2
   go_ret;exact⟨rfl,hM,fr4⟩
end Rm
namespace Rm
open Fm Nt
theorem or8(x y:Int)(h0:0≤x)(h1:x%256=0)(h2:x<4294967296)(h3:0≤y)(h4:y<256):Bv .or V x y=x+y:=
 bits_join V 32 Ak wraps_u32 8 x y h0 h1 h2 h3 h4 O
def wrd(m:Ms)(i:Nat):Nat→Int
 |0=>0
 |r+1=>wrd m i r*256+m.mem (i+(3 -r))
def Ms.puts(m:Ms)(i:Nat)(zs:List Int):Nat→Ms
 |0=>m
 |r+1=>(m.puts i zs r).put (i+r) (zs.getD r 0)
section
variable (m:Ms) (i:Nat) (zs:List Int)
theorem LR(r:Nat):(m.puts i zs r).n=m.n:=by
 induction r with
 |zero=>rfl
 |succ r ih=>exact ih
theorem puts_mem(r j:Nat):(m.puts i zs r).mem j=if i≤j∧j<i+r then zs.getD (j -i) 0 else m.mem j:=by
 induction r with
 |zero=>rw[Ae O];rfl
 |succ r ih=>
  show Bu (m.puts i zs r).mem (i+r) (zs.getD r 0) j=_;unfold Bu;by_cases e:j=i+r;·rw[An e,An O,show j -i=r by omega]
  ·rw[Ae e,ih];by_cases h:i≤j∧j<i+r;·rw[An h,An O]
   ·rw[Ae h,Ae O]
def hits(i r k:Nat):Bool:=decide (∃j,j<r∧(i+j)/64=k)
theorem lN(i r k:Nat):hits i (r+1) k=(hits i r k||decide ((i+r)/64=k)):=by
 unfold hits;rw[Bool.eq_iff_iff];simp only[Bool.or_eq_true,decide_eq_true_eq];constructor
 ·rintro⟨j,h1,h2⟩;by_cases e:j=r;·subst e;exact Ah h2
  ·exact Af ⟨j,O,h2⟩
 ·rintro(⟨j,h1,h2⟩|h);·exact⟨j,O,h2⟩
  ·exact⟨r,O,h⟩
theorem puts_tu(r k:Nat):(m.puts i zs r).tu k=(m.tu k||hits i r k):=by
 induction r with
 |zero=>simp[Ms.puts,hits]
 |succ r ih=>
  show EE (m.puts i zs r).tu ((i+r)/64) Ag k=_;rw[lN];unfold EE;by_cases e:k=(i+r)/64;·rw[An e,decide_eq_true e.symm];simp
  ·rw[Ae e,ih,decide_eq_false (λh=>e h.symm)];simp
end
end Rm
namespace Rm
open Fm Nt
theorem put_in(w:Aa)(a:Am)(m:Ms)(h:Mem w a m)(at_ b:Int)(h0:0≤at_)(h1:at_<(m.n:Int)*64)(b0:0≤b)(b1:b<256):At Tryz.prog 59 #[↑a.gm,J V at_,J AB b] w λe w'=>e=Ax (Ap Ag)∧Mem w' a (m.put at_.toNat b)∧Fr a.own w w':=by
 have hn:=h.n0;have hp:=put_any w a m h at_ b h0 O b0 b1;have e:inB m at_ 1=Ag:=by simp[inB];omega
 rw[e,Ms.putI,An e] at hp;exact hp
def pgB(m:Ms)(n:Int)(len:Nat):Bool:=decide (0≤n∧n<m.n∧len=64)
def Ms.putP(m:Ms)(n:Int)(zs:List Int):Ms:=if pgB m n zs.length then m.puts (n.toNat*64) zs 64 else m
theorem PS{w:Aa}{B n:Nat}{A:Aw}{zs:List Int}(h:IntsAt AB w B A n zs){k:Nat}(hk:k<n):0≤zs.getD k 0∧zs.getD k 0<256:=by
 have:=Jb (h.2.1 k hk);omega
theorem Ve{k:IntKind}{w w':Aa}{B n:Nat}{A:Aw}{zs:List Int}{S:AE}(h:IntsAt k w B A n zs)(f:Fr S w w')(hB:B≤↑w)(hA:0<n→ ∀b off,A=I ⟨b,off,G⟩→ ¬S b):IntsAt k w' B A n zs:=
 ⟨h.1,h.2.1,λhn=>by
  obtain⟨b,off,e,hb,hc⟩:=h.2.2 hn;exact⟨b,off,e,hb,λi hi=>(World.cell?_of_block (w:=w) (a:=⟨b,off+i,G⟩) (f.block b O (hA hn b off e))).trans (hc i hi)⟩⟩
set_option maxRecDepth 100000 in
theorem lO(w:Aa)(a:Am)(m:Ms)(h:Mem w a m)(n:Int)(A:Aw)(len cap B:Nat)(zs:List Int)(hz:IntsAt AB w B A len zs)(hB:B≤↑w)(hA:0<len→ ∀b off,A=I ⟨b,off,G⟩→ ¬a.own b)(hm:len≤BQ):At Tryz.prog 250 #[↑a.gm,J U n,Z A len cap] w λe w'=>e=Ax (Ap (pgB m n len))∧Mem w' a (m.putP n zs)∧Fr a.own w w':=by
 unfold BQ at hm;have hn:=h.n0;have hlz:=T hz.1;have hpg:=PT;have Hpg:=T hpg;have c1:=PU;clear hpg;by_cases hb:pgB m n len=Ag
 ·have e1:m.putP n zs=m.puts (n.toNat*64) zs 64:=by rw[Ms.putP,hlz.out,An hb]
  rw[hb,e1];obtain⟨n0,n1,hl64⟩:0≤n∧n<m.n∧len=64:=by simpa[pgB] using hb
  have hl2:((len:Int) !=64)=Ac:=AA;have l0:64≤len:=O;have l1:len≤64:=O;clear hl64;obtain⟨p,rfl⟩: ∃i:Nat,n=i:=⟨n.toNat,O⟩;rw[show(p:Int).toNat=p from rfl];have hM0:Mem w a (m.puts (p*64) zs 0):=h;have d1:decide (m.n≤p)=Ac:=AA;have d2:decide ((p:Int)<0)=Ac:=AC;clear hb e1;go_in;go_wp2_with fail;refine Az Hpg ?_;rintro e w' ⟨rfl,rfl⟩;go_wp2_with fail;go_loopw [7,28] (λok k wr=> ∃r:Nat,r≤len∧k=J U r∧ok=Ap Ag∧Mem wr a (m.puts (p*64) zs r)∧Fr a.own w wr) (λ_ k _=>len -(AM k).toNat)
  case atStart=>exact⟨0,O,rfl,rfl,hM0,Ao _ _⟩
  case round=>
   clear hM0;obtain⟨r,hr,rfl,rfl,hM,fr⟩:=hrel;by_cases hlt:r<len
   ·obtain⟨b,off,rfl,hbb,hc⟩:=(Ve hz fr hB hA).at_ hlt;obtain⟨b0,b1⟩:=PS hz hlt;have hp:=put_in wr a _ hM ((p:Int)*64+r) (zs.getD r 0) O (by rw[LR];omega) b0 b1;rw[show((p:Int)*64+r).toNat=p*64+r by omega] at hp;have Hp:Hid (At Tryz.prog 59 #[↑a.gm,J V ((p:Int)*64+r),J AB (zs.getD r 0)] wr λe w'=>e=Ax (Ap Ag)∧Mem w' a (m.puts (p*64) zs (r+1))∧Fr a.own wr w'):=hp;clear hp;generalize zs.getD r 0=z at*;go_wp2_with fail;refine Az Hp ?_;rintro e w2 ⟨rfl,hM2,f2⟩;have fr2:=fr.tr f2
    go_wp2
    go_roundw
    case rel=>exact⟨r+1,O,Bn,rfl,hM2,fr2⟩
    case measure=>simp[AM];omega
   ·have e:r=64:=O;rw[e] at hM;clear e
    go_wp2
    go_ret;exact⟨rfl,hM,fr⟩
 ·have hb:pgB m n len=Ac:=LS;have e1:m.putP n zs=m:=by rw[Ms.putP,hlz.out,Ae (by rw[hb];exact Fq)]
  rw[hb,e1];have hno: ¬(0≤n∧n<m.n∧len=64):=by simpa[pgB] using hb
  clear hb e1;by_cases n0:0≤n
  ·by_cases n1:n<m.n;·have hl:((len:Int) !=64)=Ag:=AA;exact Vf
   ·exact Vf
  ·clear hno;go_in
   go_wp2
   go_ret;exact⟨rfl,h,Ao _ _⟩
def Ms.load(m:Ms)(zs:List Int):Ms:=if zs.length≤m.n*64 then m.puts 0 zs zs.length else m
def IJ(m:Ms)(len:Nat):Int:=if len≤m.n*64 then 0 else 3
set_option maxRecDepth 100000 in
theorem load_any(w:Aa)(a:Am)(m:Ms)(h:Mem w a m)(A:Aw)(len cap B:Nat)(zs:List Int)(hz:IntsAt AB w B A len zs)(hB:B≤↑w)(hA:0<len→ ∀b off,A=I ⟨b,off,G⟩→ ¬a.own b)(hm:len≤BQ):At Tryz.prog 43 #[↑a.gm,Z A len cap] w λe w'=>e=Ax (J U (IJ m len))∧Mem w' a (m.load zs)∧Fr a.own w w':=by
 unfold BQ at hm;have hn:=h.n0;have hlz:=T hz.1;have hsz:=T (size_any w a m h);by_cases hb:len≤m.n*64
 ·have e1:m.load zs=m.puts 0 zs len:=by rw[Ms.load,hlz.out,An hb]
  have e2:IJ m len=0:=by rw[IJ,An hb]
  rw[e1,e2];have hM0:Mem w a (m.puts 0 zs 0):=h;have hbi: ¬((m.n:Int)*64<(len:Int)):=O;clear e1 e2;go_in;go_wp2_with fail;refine Az hsz ?_;rintro e w' ⟨rfl,rfl⟩;go_wp2_with fail;go_loopw [15] (λk wr=> ∃r:Nat,r≤len∧k=J U r∧Mem wr a (m.puts 0 zs r)∧Fr a.own w wr) (λk _=>len -(AM k).toNat)
  case atStart=>exact⟨0,O,rfl,hM0,Ao _ _⟩
  case round=>
   clear hM0;obtain⟨r,hr,rfl,hM,fr⟩:=hrel;by_cases hlt:r<len
   ·obtain⟨b,off,rfl,hbb,hc⟩:=(Ve hz fr hB hA).at_ hlt;obtain⟨b0,b1⟩:=PS hz hlt;have hp:=put_in wr a _ hM (r:Int) (zs.getD r 0) O (by rw[LR];omega) b0 b1;have ep:m.puts 0 zs (r+1)=(m.puts 0 zs r).put r (zs.getD r 0):=by rw[Ms.puts,BW]
    rw[show((r:Int)).toNat=r from rfl,←ep] at hp;have Hp:=T hp;clear hp ep;generalize zs.getD r 0=z at*;go_wp2_with fail;refine Az Hp ?_;rintro e w2 ⟨rfl,hM2,f2⟩;have fr2:=fr.tr f2
    go_wp2
    go_roundw
    case rel=>exact⟨r+1,O,Bn,hM2,fr2⟩
    case measure=>simp[AM];omega
   ·have e:r=len:=O;subst e
    go_wp2
    go_ret;exact⟨rfl,hM,fr⟩
 ·have e1:m.load zs=m:=by rw[Ms.load,hlz.out,Ae hb]
  have e2:IJ m len=3:=by rw[IJ,Ae hb]
  rw[e1,e2];have hbi:(m.n:Int)*64<(len:Int):=O;clear e1 e2;go_in;go_wp2_with fail;refine Az hsz ?_;exact PD
end Rm
namespace Rm
open Fm Nt
def zU(n:Nat):AO:=CH #[J AB 0] n
theorem N2:(Tryz.prog.info? 5).map (λi=>(i.zero,i.size,i.bytes))=I (I (J AB 0),1,1):=AL
theorem LU(k:IntKind)(n:Nat)(hn:n≤1000000)(w:Aa):(Fp 23 (J k (n:Int)) (J k (n:Int))).run Tryz.prog w=.ok (Z (I ⟨↑w,0,G⟩) n n) (w.alloc (.cells (zU n) 5)):=by
 obtain⟨i0,hi0,hz0,hz1,hz2⟩:=Cj N2;have hr:=run_make (P:=Tryz.prog) w 23 5 i0 (J AB 0) CI hi0 hz0 k k n n O O N3 O;simp only[Du,hz1,Nat.mul_one] at hr;exact hr
theorem cellsU(w:Aa)(n:Nat){g:Nat}(hg:↑w=g):Cells (w.alloc (.cells (zU n) 5)) g 5 n (λ_=> J AB 0):=by
 subst hg;have e:(zU n).toList=DL n (J AB 0):=by rw[zU,toList_madeCells_one]
 exact Ny
def part(z:Nat→Int)(r:Nat)(j:Nat):As:=J AB (if j<r then z j else 0)
theorem Vg{w:Aa}{g n:Nat}{z:Nat→Int}{r:Nat}(h:Cells w g 5 n (part z r))(hr:r<n):Cells (w.setCell ⟨g,r,G⟩ (J AB (z r))) g 5 n (part z (r+1)):=
 Cells.congr (Cells.set_ h r _) λj hj=>by
  unfold Bz part;by_cases e:j=r;·subst e;rw[An rfl,An O]
  ·rw[Ae e];by_cases h1:j<r;·rw[An h1,An O]
   ·rw[Ae h1,Ae O]
set_option maxRecDepth 100000 in
theorem page_in(w:Aa)(a:Am)(m:Ms)(h:Mem w a m)(n:Int)(n0:0≤n)(n1:n<m.n):At Tryz.prog 96 #[↑a.gm,J U n] w λe w'=>e=Ax (AF #[Z (I ⟨↑w,0,G⟩) 64 64,Ap Ag])∧Cells w' ↑w 5 64 (λk=> J AB (m.mem (n.toNat*64+k)))∧Fr Aj w w':=by
 have hn:=h.n0;have hpg:=PT;have Hpg:=T hpg;have c1:=PU;obtain⟨p,rfl⟩: ∃i:Nat,n=i:=⟨n.toNat,O⟩;rw[show(p:Int).toNat=p from rfl];have d1:decide (m.n≤p)=Ac:=AA;have d2:decide ((p:Int)<0)=Ac:=AC;have hmk: ∀W,(Fp 23 (J .i64 64) (J .i64 64)).run Tryz.prog W=.ok (Z (I ⟨↑W,0,G⟩) 64 64) (W.alloc (.cells (zU 64) 5)):=λW=>LU U 64 O W;have hc0:Cells (w.alloc (.cells (zU 64) 5)) ↑w 5 64 (part (λk=>m.mem (p*64+k)) 0):=Cells.congr (cellsU w 64 rfl) (λj hj=>by simp[part]);have hM0:Mem (w.alloc (.cells (zU 64) 5)) a m:=h.alloc _;have hf0:=(Ao Aj w).alloc (.cells (zU 64) 5);clear hpg;go_in;go_wp2_with fail;refine Az Hpg ?_;rintro e w' ⟨rfl,rfl⟩;go_wp2_with fail;clear hmk;generalize w.alloc (.cells (zU 64) 5)=wz at*;go_loopw [22] (λk wr=> ∃r:Nat,r≤64∧k=J U r∧Mem wr a m∧Cells wr ↑w 5 64 (part (λk=>m.mem (p*64+k)) r)∧Fr Aj w wr) (λk _=>64 -(AM k).toNat)
 case atStart=>exact⟨0,O,rfl,hM0,hc0,hf0⟩
 case round=>
  clear hM0 hc0 hf0;obtain⟨r,hr,rfl,hM,hc,fr⟩:=hrel;by_cases hlt:r<64;·have hg:=get_any wr a m hM ((p:Int)*64+r) O O;rw[show((p:Int)*64+r).toNat=p*64+r by omega] at hg;have Hg:=T hg;have cz:=hc.cell r hlt;have zz:=Cells.frozen hc r;have hc2:=Vg hc hlt;have hM2:=hM.fr0 (w':=wr) (Ao _ _);have fr2:=fr.setCell (p:=⟨↑w,r,G⟩) (Ah (AD _)) (J AB (m.mem (p*64+r)));have hM3:=hM.fr (Br wr ↑w r (J AB (m.mem (p*64+r)))) (λk hk e=>by have:=h.lt k hk;omega);have HC:=T hc2;have HF:=T fr2;have HM:=T hM3;clear hg hc2 fr2 hM3 hM2;exact Vh
  ·have hfin:Cells wr ↑w 5 64 (λk=> J AB (m.mem (p*64+k))):=Cells.congr hc (λj hj=>by rw[part,An (by omega)]);have HC:=T hfin;clear hfin
   go_wp2
   go_ret2;exact⟨rfl,HC.out,fr⟩
theorem page_out(w:Aa)(a:Am)(m:Ms)(h:Mem w a m)(n:Int)(hn2: ¬(0≤n∧n<m.n)):At Tryz.prog 96 #[↑a.gm,J U n] w λe w'=>e=Ax (AF #[Z G 0 0,Ap Ac])∧w=w':=by
 have hn:=h.n0;have hpg:=PT;have Hpg:=T hpg;have c1:=PU;clear hpg;by_cases n0:0≤n;·have n1:(m.n:Int)≤n:=O;clear hn2;go_in;go_wp2_with fail;refine Az Hpg ?_;exact UL
 ·clear hn2;exact PP
set_option maxRecDepth 100000 in
theorem all_any(w:Aa)(a:Am)(m:Ms)(h:Mem w a m):At Tryz.prog 20 #[↑a.gm] w λe w'=>e=Ax (Z (I ⟨↑w,0,G⟩) (m.n*64) (m.n*64))∧Cells w' ↑w 5 (m.n*64) (λk=> J AB (m.mem k))∧Fr Aj w w':=by
 have hn:=h.n0;have hsz:=size_any w a m h;have hnm:((m.n*64:Nat):Int)=(m.n:Int)*64:=O;have hmk:=λW=>LU V (m.n*64) O W;rw[hnm] at hmk;obtain⟨N,hN⟩:=A8 (m.n*64);have hNi:(m.n:Int)*64=(N:Int):=O;have hNb:N≤4096:=O;have HN:=T hN;rw[hNi,hN] at hmk;rw[hNi] at hsz;have Hsz:=T hsz;have hc0:Cells (w.alloc (.cells (zU N) 5)) ↑w 5 N (part m.mem 0):=Cells.congr (cellsU w N rfl) (λj hj=>by simp[part]);have hM0:Mem (w.alloc (.cells (zU N) 5)) a m:=h.alloc _;have hf0:=(Ao Aj w).alloc (.cells (zU N) 5);rw[hN];clear hsz hnm hN hNi;go_in;go_wp2_with fail;refine Az Hsz ?_;rintro e w' ⟨rfl,rfl⟩;go_wp2_with fail;clear hmk;generalize w.alloc (.cells (zU N) 5)=wz at*;go_loopw [10] (λk wr=> ∃r:Nat,r≤N∧k=J U r∧Mem wr a m∧Cells wr ↑w 5 N (part m.mem r)∧Fr Aj w wr) (λk _=>N -(AM k).toNat)
 case atStart=>exact⟨0,O,rfl,hM0,hc0,hf0⟩
 case round=>
  clear hM0 hc0 hf0;obtain⟨r,hr,rfl,hM,hc,fr⟩:=hrel;by_cases hlt:r<N;·have hg:=get_any wr a m hM (r:Int) O (by have:=HN.out;omega);rw[show((r:Int)).toNat=r from rfl] at hg;have Hg:=T hg;have cz:=hc.cell r hlt;have zz:=Cells.frozen hc r;have hc2:=Vg hc hlt;have fr2:=fr.setCell (p:=⟨↑w,r,G⟩) (Ah (AD _)) (J AB (m.mem r));have hM3:=hM.fr (Br wr ↑w r (J AB (m.mem r))) (λk hk e=>by have:=h.lt k hk;omega);have HC:=T hc2;have HF:=T fr2;have HM:=T hM3;clear hg hc2 fr2 hM3;exact Vh
  ·have hfin:Cells wr ↑w 5 N (λk=> J AB (m.mem k)):=Cells.congr hc (λj hj=>by rw[part,An (by omega)]);have HC:=T hfin;clear hfin
   go_wp2
   go_ret;exact⟨rfl,HC.out,fr⟩
def turnN(m:Ms)(k:Nat):List Int:=((Cl k).filter λp=>m.tu p).map Int.ofNat
theorem turnN_le(m:Ms)(k:Nat):(turnN m k).length≤k:=by
 unfold turnN;exact U6
theorem lP(m:Ms)(k:Nat)(h:m.tu k=Ag):turnN m (k+1)=turnN m k++[(k:Int)]:=Vi
theorem turnN_no(m:Ms)(k:Nat)(h:m.tu k=Ac):turnN m (k+1)=turnN m k:=Vi
def tuV(m:Ms):List As:=(Cl 64).map (λk=>Value.bool (m.tu k))
theorem PV(m:Ms):(tuV m).length=64:=by simp[tuV]
theorem tuV_at(m:Ms)(k:Nat)(hk:k<64):(tuV m)[k]?=I (Ap (m.tu k)):=by simp[tuV,hk]
theorem tu_range{w:Aa}{a:Am}{m:Ms}(h:Mem w a m):w.rangeAt a.gm 2 (tuV m):=by
 obtain⟨s,t,hC⟩:=h;exact Cells.rangeAt hC.2.2.1 2 _ (by rw[PV];omega) (λj hj=>by
  rw[PV] at hj;rw[tuV_at m j hj,JI,Ae O,Ae O,An O,show 2+j -2=j by omega])
set_option maxRecDepth 100000 in
theorem turned_any(w:Aa)(a:Am)(m:Ms)(h:Mem w a m)(base:Nat)(hb:base≤↑w):At Tryz.prog 35 #[↑a.gm] w (LL w base (turnN m 64)):=by
 obtain⟨i0,hi0,hz0,hz1,hz2⟩:=Cj PG;have hr:=tu_range h;have hix: ∀(j:Nat),j<64→ ∀w,(Instr.index 108 (A9 (tuV m).toArray) (J U (j:Int))).run Tryz.prog w=.ok (Ap (m.tu j)) w:=λj hj w=>
  Uz w _ 4 64 _ j _ _ Tryz.underlying108 hj Tryz.underlying4 rfl AL (tuV_at m j hj) U
 have Hix:=T hix;have hinf:(Tryz.prog.info? 108).map (·.size)=I (tuV m).length:=by rw[PV];kernel_rfl
 clear hix;go_in;go_wp2_with (refine wpList_load_mid rfl 108 (.tmp 8) rfl a.gm 2 rfl _ _ hr Tryz.underlying108 rfl hinf ?_);clear hr hinf;go_loopw [3,10] (λv i wr=> ∃k:Nat,k≤64∧i=J U k∧wr.ownsRow base 3 1 v (turnN m k).length (JH (turnN m k))∧Fr Aj w wr∧(∀b,v.ownBlock=I b→w.heap.size≤b)) (λ_ i _=>64 -(AM i).toNat)
 case atStart=>exact⟨0,O,rfl,⟨rfl,Af ⟨rfl,rfl⟩⟩,Ao _ _,λk hk=>Jl⟩
 case round=>
  obtain⟨k,hk,rfl,hown,fr,hat⟩:=hrel;by_cases hlt:k<64
  ·have hi:=Hix.out k hlt;have hle:=turnN_le m k;have hbs:=Bf hb fr.size
   cases ho:m.tu k
   ·rw[ho] at hi;have Hs:=T (turnN_no m k ho);clear ho;generalize turnN m k=l at*;exact U9
   ·rw[ho] at hi;have Hs:=T (lP m k ho);have hown':=DU hown (.cells #[J U (k:Int)] 3);clear ho;generalize turnN m k=l at*;go_wp2_with
     (at_builtin
      refine CU _ rfl (.tmp 15) (.tmp 17) _ rfl base 3 i0 _ 1 8 FV hi0 hz0 hz1 hz2 rfl O u3 l.length (JH l) rfl hown' (wr.heap.size+1) (I ⟨wr.heap.size,0,G⟩) 1 1 [J U (k:Int)] rfl (Do (AI _ _ _) rfl) Ei Cc O AA ?_
      intro v1 w1 hown1 hg1 hat1)
    exact U8
  ·have e:k=64:=O;subst e;have hG:LL w base (turnN m 64) (Ax u3) wr:=⟨_,rfl,hown,fr,hat⟩;exact UA
def zb64:AO:=(DL 64 (Value.bool Ac)).toArray
theorem zeroB64:(Tryz.prog.info? 108).bind (·.zero)=I (A9 zb64):=AL
theorem lQ(W:Aa):(zeroValue 108).run Tryz.prog W=.ok (A9 zb64) W:=by
 have h:=zeroB64
 cases hi:Tryz.prog.info? 108 with
 |none=>rw[hi] at h;cases h
 |some i=>
  rw[hi] at h;have h':i.zero=I (A9 zb64):=h;exact PE
set_option maxRecDepth 100000 in
theorem calm_any(w:Aa)(a:Am)(m:Ms)(h:Mem w a m):At Tryz.prog 99 #[↑a.gm] w λe w'=>e=Ax (AF #[])∧Mem w' a m.calm∧Fr a.own w w':=by
 have hM:Mem (w.setCells a.gm 2 zb64.toList) a m.calm:=by
  obtain⟨s,t,hC⟩:=h;have ff:=Fr.setRow (a:=w) (S:=(· =a.gm)) zb64.toList 2 (Ao _ w) (Af rfl);refine⟨s,t,hC.1.fr ff (λe=>hC.neT _ (Ah rfl) e),hC.2.1.fr ff (λk hk e=>hC.neT _ (Af hk) e),Cells.congr (Cells.setCells _ 2 hC.2.2.1) (λi hi=>?_),hC.2.2.2.turn _⟩;have hl:zb64.toList.length=64:=by simp[zb64]
  unfold putR JI;rw[hl];by_cases e0:i=0;·rw[Ae O,An e0,An e0]
  ·by_cases e1:i=1;·rw[Ae O,Ae e0,An e1,Ae e0,An e1]
   ·by_cases e2:i<66;·rw[An O,Ae e0,Ae e1,An e2];have:i -2<64:=O;show(DL 64 (Value.bool Ac)).getD (i -2) BY=Value.bool Ac;rw[AS,List.getElem?_replicate,An this];rfl
    ·rw[Ae O,Ae e0,Ae e1,Ae e2,Ae e0,Ae e1,Ae e2]
 have fr:Fr a.own w (w.setCells a.gm 2 zb64.toList):=Fr.setRow _ _ (Ao _ _) (Af (Af rfl));have hsz:zb64.size=64:=by simp[zb64]
 have hth:w.there a.gm 2 zb64.size:=by
  obtain⟨s,t,hC⟩:=h;exact Cells.there hC.2.2.1 2 zb64.size O
 have hinf:(Tryz.prog.info? 108).map (·.size)=I zb64.size:=by rw[hsz];kernel_rfl
 have hone:zb64.all (·.oneCell')=Ag:=all_oneCell_toArray (λv hv=>UG);have hz:=lQ;have HM:=T hM;have FR:=T fr;clear hsz hM fr;go_in;go_wp2_with (refine wpList_store_mid rfl 108 (.tmp 5) (.tmp 3) rfl a.gm 2 zb64 rfl rfl hth hinf hone ?_);go_end0;exact PR
end Rm
namespace Rm
open Fm Nt
def rz:AO:=([Value.pointer G,Value.pointer G]++DL 65 (Value.bool Ac)).toArray
theorem zeroM:(Tryz.prog.info? 110).bind (·.zero)=I (A9 rz):=AL
theorem lR(W:Aa):(zeroValue 110).run Tryz.prog W=.ok (A9 rz) W:=by
 have h:=zeroM
 cases hi:Tryz.prog.info? 110 with
 |none=>rw[hi] at h;cases h
 |some i=>
  rw[hi] at h;have h':i.zero=I (A9 rz):=h;exact PE
theorem cellsM(w:Aa)(a:Ad)(m:Ms)(hm: ∀k,m.tu k=Ac):Cells (w.alloc (.cells ((rz.setIfInBounds 0 ↑a.gp).setIfInBounds 1 ↑a.gt) 110)) ↑w 110 67 (JI ⟨a,w.heap.size⟩ m):=by
 refine⟨_,AI _ _ _,by simp[rz],λi hi=>?_⟩;rw[Array.getElem?_setIfInBounds];unfold JI;by_cases e1:i=1;·subst e1;simp[rz]
 ·rw[Ae (λe=>e1 e.symm),Array.getElem?_setIfInBounds];by_cases e0:i=0;·subst e0;simp[rz]
  ·rw[Ae (λe=>e0 e.symm),Ae e0,Ae e1];have hz:rz[i]?=I (Ap Ac):=by
    show(([Value.pointer G,Value.pointer G]++DL 65 (Value.bool Ac)).toArray)[i]?=_;rw[List.getElem?_toArray,Ex AA,List.getElem?_replicate,An AA]
   rw[hz];split;·rw[hm]
   ·rfl
set_option maxRecDepth 100000 in
theorem new_any(w:Aa)(a:Ad)(s:Pl)(n:Nat)(o:Int)(hP:Pool w a.gp s)(hT:Tab w a (Ts.new n o))(hI:TInv s (Ts.new n o)):At Tryz.prog 42 #[↑a.gp,↑a.gt] w λe w'=>e=Ax (AF #[Bm (I ⟨↑w,0,G⟩),J U 0])∧Mem w' ⟨a,w.heap.size⟩ (Ms.new n)∧Fr Aj w w':=by
 have hz:=lR;have hc:=cellsM w a (Ms.new n) (λ_=>rfl);have hM:Mem (w.alloc (.cells ((rz.setIfInBounds 0 ↑a.gp).setIfInBounds 1 ↑a.gt) 110)) ⟨a,w.heap.size⟩ (Ms.new n):=⟨s,_,hP.alloc _,hT.alloc _,hc,Sees.new hI⟩;have fr:=(Ao Aj w).alloc (.cells ((rz.setIfInBounds 0 ↑a.gp).setIfInBounds 1 ↑a.gt) 110);have HM:=T hM;have FR:=T fr;clear hc hM fr;go_in
 go_wp2
 go_ret2;exact PR
theorem sumN0:DM Pl.new 4=0:=Ak
theorem PX{o:Int}{n:Nat}(h0:0≤o)(h1:o<4)(hn:n≤64):DY Pl.new o n=0:=by
 unfold DY;rw[sumN0];have hb:isO o=Ag:=by simp[isO,h0,h1]
 rw[Ae (by rw[hb];simp;omega),Ae (by simp[Pl.new]),Ae O]
def FreshM(w:Aa)(a:Am)(m:Ms)(w':Aa):Prop:=Mem w' a m∧(∀k,a.own k→w.heap.size≤k)∧Fr Aj w w'
theorem FreshM.fr{w w1 w2:Aa}{a:Am}{m m2:Ms}(h:FreshM w a m w1)(hM:Mem w2 a m2)(f:Fr a.own w1 w2):FreshM w a m2 w2:=
 ⟨hM,h.2.1,h.2.2.trans f (λi hi e=>by have:=h.2.1 i e;omega)⟩
section
variable {w:Aa} {a:Am} {m:Ms}
end
end Rm
namespace Bk
end Bk
namespace By
def str(ns:List Int):ByteArray:=ns.foldl (λr n=>r.push (UInt8.ofNat n.toNat)) ByteArray.empty
theorem run_str(w:Aa)(B:Nat)(A:Aw)(n c:Nat)(zs:List Int)(h:Reads w B 1 A n (zs.map (J AB))):(convert 23 9 (Z A n c)).run Tryz.prog w=.ok (.string (str zs)) w:=by
 have hl:zs.length=n:=by have:=h.1;simpa using this
 rw[run_convert_bytes_string w 23 9 5 A n c CI Tryz.underlying5 Tryz.underlying9];rcases A with _|a
 ·have hn:n=0:=by
   rcases Gq n with h0|h0;·exact h0
   ·obtain⟨ad,e,_⟩:=h.2 h0
    cases e
  subst hn;have:zs=[]:=List.length_eq_zero_iff.1 hl;subst this;simp[Conv.bytesToString,str]
 ·refine run_bytesToString w a n c zs ?_;have:=run_loadCells_list (P:=Tryz.prog) w a (zs.map (J AB)) (by
   intro j u hu;rcases Gq n with h0|h0;·subst h0;have:zs=[]:=List.length_eq_zero_iff.1 hl;subst this;simp at hu
   ·obtain⟨ad,e,_,hc⟩:=h.2 h0;injection e with e;subst e;exact hc j u hu)
  rw[Fo,hl] at this;exact this
variable{w:Aa}
theorem Fs{B n c:Nat}{A:Aw}{zs:List Int}(h:IntsAt AB w B A n zs):(convert 23 9 (Z A n c)).run Tryz.prog w=.ok (.string (str zs)) w:=run_str w B A n c zs (Ly h)
def lst(z:Nat→Int)(N:Nat):List Int:=(Cl N).map z
theorem LY(z:Nat→Int)(N:Nat):(lst z N).length=N:=by simp[lst]
theorem JL(z:Nat→Int){N k:Nat}(h:k<N):(lst z N).getD k 0=z k:=by simp[lst,AS,h]
theorem cells_ints{g N:Nat}{z:Nat→Int}(h:Cells w g 5 N (λk=> J AB (z k)))(hb: ∀k,k<N→0≤z k∧z k<256):IntsAt AB w (g+1) (I ⟨g,0,G⟩) N (lst z N):=by
 refine⟨LY z N,λi hi=>?_,λhn=>⟨g,0,rfl,O,λi hi=>?_⟩⟩;·rw[JL z hi];have:=hb i hi;exact J7 O O
 ·rw[JL z hi,BW];exact h.cell i hi
theorem IntsAt.lt_{k:IntKind}{B n:Nat}{A:Aw}{zs:List Int}(h:IntsAt k w B A n zs): ∀b off,A=I ⟨b,off,G⟩→0<n→b<B:=λb off e hn=>by
 obtain⟨b',off',e',hb,_⟩:=h.2.2 hn;rw[e] at e';injection e' with e';injection e' with e1 e2;omega
end By
namespace Bk
open Fm
theorem own_ints{k:IntKind}{w:Aa}{base n:Nat}{e:AN}{A:Aw}{c:Nat}{l:List Int}(h:w.ownsRow base e 1 (Z A n c) n (l.map (J k)))(hw: ∀z∈l,(DT k z).wf=Ag):IntsAt k w ↑w A n l:=by
 have hr:=Reads.of_own h;have hl:l.length=n:=by simpa using hr.1
 refine⟨hl,λi hi=>?_,λhn=>?_⟩;·have e:l.getD i 0=l[i]' O:=Vn;rw[e];exact hw _ (CE _)
 ·obtain⟨ad,e,hb,hc⟩:=hr.2 hn;have h0:=hc 0 (J k (l.getD 0 0)) (by simp[show 0<l.length by omega]);obtain⟨b,off,spot⟩:=ad;have hspot:spot=G:=by simpa[Addr.add] using World.cell?_spot h0
  subst hspot;refine⟨b,off,e,hb,λi hi=>?_⟩;have:=hc i (J k (l.getD i 0)) Vn;rw[←this];exact OS
end Bk
namespace By
end By
namespace Rm
open Fm Nt
def Born(w:Aa)(a:Ad)(n:Nat)(o:Int)(w2:Aa):Prop:= ∃s,Pool w2 a.gp s∧Tab w2 a (Ts.new n o)∧TInv s (Ts.new n o)∧(∀k,a.own k∨k=a.gp→w.heap.size≤k)∧Fr Aj w w2
theorem born{w w1 w2:Aa}{a:Ad}{n:Nat}{o:Int}(h0:0≤o)(h1:o<4)(hn0:1≤n)(hn1:n≤64)(ha:a.gp=↑w)(hT:Tab w2 a (Ts.new n o))(hP:Pool w2 ↑w (Pl.new.promise o n))(hbl: ∀k,a.own k→w1.heap.size≤k)(f1:Fr Aj w w1)(f2:Fr (· =w.heap.size) w1 w2):Born w a n o w2:=
 ⟨_,by rw[ha];exact hP,hT,TInv.new h0 h1 hn0 hn1 PInv.new rfl (PX h0 h1 hn1),λk hk=>by
  rcases hk with hk|hk;·have:=hbl k hk;have:=f1.size;omega
  ·omega,f1.trans f2 (λi hi e=>O)⟩
theorem Vo{w w2 w3:Aa}{a:Ad}{n:Nat}{o:Int}(h:Born w a n o w2)(hM:Mem w3 ⟨a,w2.heap.size⟩ (Ms.new n))(f:Fr Aj w2 w3):FreshM w ⟨a,w2.heap.size⟩ (Ms.new n) w3:=by
 obtain⟨s,_,_,_,hb,f2⟩:=h;refine⟨hM,λk hk=>?_,f2.tr f⟩;rcases hk with rfl|hk|hk;·exact f2.size
 ·exact hb k (Af hk)
 ·exact hb k (Ah hk)
end Rm
theorem KC{P:CF}{w:Aa}{ops:Array BM}{rest:List BM}{o:BM}{a:Act}{Q:Exit→Act→Aa→Prop}(hgd:o.guard=G)(d s:De)(dT sT:AN)(ho:o.op=.call {callee:=.builtin .copy,args:=#[d,s],argTypes:=#[dT,sT]})(elem:AN)(hu:P.underlying dT=I (.slice elem))(hsz:(P.info? elem).map (·.size)=I 1)(g off dLen dCap:Nat)(A:Aw)(sLen sCap:Nat)(hd:a.eval d=.slice (I ⟨g,off,G⟩) dLen dCap)(hs:a.eval s=.slice A sLen sCap)(t:AN)(N:Nat)(f:Nat→As)(hC:Cells w g t N f)(k:IntKind)(B n:Nat)(zs:List Int)(hn:n=min sLen dLen)(hz:IntsAt k w B A n zs)(hfit:off+n≤N)(h: ∀w',Cells w' g t N (putR f off (zs.map (J k)))→Fr (· =g) w w'→Cy P ops Q rest (a.put o.dst (goInt n)) w'):Cy P ops Q (o::rest) a w:=by
 have hr:=Ly hz;have hlz:zs.length=n:=hz.1;by_cases h0:n=0;·refine wpList_copy_nothing hgd d s dT sT ho elem hu hsz _ _ dLen dCap sLen sCap hd hs (by show min sLen dLen=0;omega) ?_;exact Vp
 ·obtain⟨ad,rfl,_,hsrc⟩:=hr.2 O;obtain⟨cs,hb,hsize,hat⟩:=hC;have hl:=Vq;refine wpList_copy_own hgd d s dT sT ho elem hu hsz g off dLen dCap ad sLen sCap hd hs cs t hb (zs.map (J k)) (by rw[hl];exact hn) hsrc LZ GW ?_;rw[hl];refine h _ ⟨_,setRow_heap w g cs _ t (0,0) hb,AA,λi hi=>?_⟩ ⟨rfl,rfl,rfl,by simp[World.setRow],λj _ hj=>setRow_other w g j _ hj⟩;have hti:=Vr;have hcs:=Vs;rw[List.getElem?_toArray];exact Vt
theorem Vu{P:CF}{w:Aa}{ops:Array BM}{o:BM}{a:Act}{K:Act→Aa→Prop}{Q:Exit→Act→Aa→Prop}{E:Prop}(hgd:o.guard=G)(d s:De)(dT sT:AN)(ho:o.op=.call {callee:=.builtin .copy,args:=#[d,s],argTypes:=#[dT,sT]})(elem:AN)(hu:P.underlying dT=I (.slice elem))(hsz:(P.info? elem).map (·.size)=I 1)(g off dLen dCap:Nat)(A:Aw)(sLen sCap:Nat)(hd:a.eval d=.slice (I ⟨g,off,G⟩) dLen dCap)(hs:a.eval s=.slice A sLen sCap)(t:AN)(N:Nat)(f:Nat→As)(hC:Cells w g t N f)(k:IntKind)(B n:Nat)(zs:List Int)(hn:n=min sLen dLen)(hz:IntsAt k w B A n zs)(hfit:off+n≤N)(h: ∀w',Cells w' g t N (putR f off (zs.map (J k)))→Fr (· =g) w w'→K (a.put o.dst (goInt n)) w'):if Dm o (yielded ops a.tmps)=Ag then EP P o a w K Q else E:=by
 have hw:=Tt;rw[An hw];have hr:=Ly hz;have hlz:zs.length=n:=hz.1;by_cases h0:n=0;·have hrun:=run_copy_none (P:=P) w dT sT o.type elem (I ⟨g,off,G⟩) A dLen dCap sLen sCap hu hsz (by show min sLen dLen=0;omega);unfold EP;simp[execOp,ho,resolve,invoke,builtin,hd,hs,hrun,ES];exact Vp
 ·obtain⟨ad,rfl,_,hsrc⟩:=hr.2 O;obtain⟨cs,hb,hsize,hat⟩:=hC;have hl:=Vq;have hrun:=run_copy_row (P:=P) w dT sT o.type elem g off dLen dCap ad sLen sCap cs t (zs.map (J k)) hu hsz hb (by rw[hl];exact hn) hsrc LZ GW;unfold EP;simp only[execOp,ho,resolve,invoke,builtin,GT,Sem.run_pure,Result.andThen_ok,List.map_toArray,GU,List.map_nil,hd,hs,hrun];rw[hl];refine h _ ⟨_,setRow_heap w g cs _ t (0,0) hb,AA,λi hi=>?_⟩ ⟨rfl,rfl,rfl,by simp[World.setRow],λj _ hj=>setRow_other w g j _ hj⟩;have hti:=Vr;have hcs:=Vs;rw[List.getElem?_toArray,C9];exact Vt
end Go.Proofs.YtdfegdoeebaagaaGreatDoor
