import Derived.Test.YtdfegdoeebaagaaGreatDoorX34
open Go.Value renaming int→J
open Option renaming some→I,none→G
open Go.IntKind renaming u8→AB
open Go renaming World→Aa,Value→As,TypeId→AN
open Bool renaming false→Ac,true→Ag
open List renaming getD_eq_getElem?_getD→AS,getElem?_eq_getElem→BK,range→Cl,getElem?_map→DP,length_map→Fo,getElem?_range→IL
open Nat renaming zero_add→BW
open Or renaming inl→Af,inr→Ah
open Int renaming toNat_natCast→Du
set_option linter.all false
set_option maxHeartbeats 40000000
set_option maxRecDepth 1000000
open Go Go.RowKit
namespace Go.Proofs.YtdfegdoeebaagaaGreatDoor
namespace Gm
def lay(f:Nat→Int)(o:Nat)(zs:List Int):Nat→Int:=λj=>if o≤j∧j<o+zs.length then zs.getD (j -o) 0 else f j
theorem Tb(k:IntKind)(f:Nat→Int)(o:Nat)(zs:List Int)(j:Nat):Go.Proofs.YtdfegdoeebaagaaGreatDoor.putR (λi=>J k (f i)) o (zs.map (J k)) j=J k (lay f o zs j):=by
 unfold Go.Proofs.YtdfegdoeebaagaaGreatDoor.putR lay;rw[Fo];split
 ·rename_i h
  rw[AS,DP,AS,BK O];rfl
 ·rfl
theorem qJ{w:Aa}{g n:Nat}{t:AN}{f:Nat→As}{h:Nat→Int}(hc:Cells w g t n f)(he: ∀i,i<n→f i=J AB (h i))(hb: ∀i,i<n→0≤h i∧h i<256):IntsAt AB w ↑w (I ⟨g,0,G⟩) n ((Cl n).map h):=by
 have hg: ∀i,i<n→((Cl n).map h).getD i 0=h i:=λi hi=>jP;refine⟨AC,λi hi=>?_,λhn=>⟨g,0,rfl,hc.lt,λi hi=>?_⟩⟩;·rw[hg i hi];have:=hb i hi;exact OE
 ·rw[hg i hi,BW,hc.cell i hi,he i hi]
end Gm
namespace Gm
open Fm Nt Rm By Wk Gs Dr
def Ev(s:Int):List Int:=[2,s,0,0,0,2,32,128,0,0,49,2,192,0,0,0,2,36,128,0,0,49,1,2,2,40,128,0,0,49,2,64,0,0,0,40]
def secB:List Int:=[2,0,1,0,0,2,36,128,0,0,49,1,1,2,40,128,0,0,49,2,44,128,0,0,48,69]
abbrev ss(pc:Int)(d:List Int)(ct:Int):St:=⟨pc,d,[],0,Ag,Ac,Ac,0,0,0,0,0,Ac,Ac,ct,Ac⟩
structure Sc(s:Int)(g:Mc):Prop where
 a: ∀i,i<36→g.b.ms.mem i=(Ev s).getD i 0
 b: ∀i,i<26→g.b.ms.mem (64+i)=secB.getD i 0
 n:g.b.ms.n=5
 t:g.b.tm=0
 o:g.b.outs=[]
section
variable {K:Int} {g:Mc} {pc q ct:Int} {d d2:List Int} {i:Ins} {n k:Nat} {x:Sg} {v at_:Int}
theorem Sc.calm(h:Sc K g):Sc K g.calm:=⟨h.a,h.b,h.n,h.t,h.o⟩
theorem Sc.by_(h:Sc K g)(j:Nat){v:Int}(hv:(if j<36 then(Ev K).getD j 0 else secB.getD (j -64) 0)=v:=by rfl)(hj:j<36∨64≤j∧j<90:=by decide):g.b.ms.mem j=v:=by
 subst hv;by_cases q:j<36;·rw[An q];exact h.a j q
 ·rw[Ae q];have:=h.b (j -64) O;rwa[show 64+(j -64)=j by omega] at this
theorem Sc.f1(h:Sc K g)(o:Int)(j:Nat)(h0:(if j<36 then(Ev K).getD j 0 else secB.getD (j -64) 0)=o:=by rfl)(hj:j<36∨64≤j∧j<90:=by decide)(hs:AK o=1:=by decide):Cf g.b.ms (j:Int)=I (⟨o,0⟩,1):=
 SD O N1 (h.by_ j h0 hj) hs
theorem Sc.f2(h:Sc K g)(o b:Int)(j:Nat)(p2:(j:Int)%64≤62:=by decide)(h0:(if j<36 then(Ev K).getD j 0 else secB.getD (j -64) 0)=o:=by rfl)(h1:(if j+1<36 then(Ev K).getD (j+1) 0 else secB.getD (j+1 -64) 0)=b:=by rfl)(hj:j+1<36∨64≤j∧j+1<90:=by decide)(hs:AK o=2:=by decide):Cf g.b.ms (j:Int)=I (⟨o,b⟩,2):=
 fetch2 O N1 p2 (h.by_ j h0 O) (h.by_ (j+1) h1 O) hs
theorem Sc.f5(h:Sc K g)(b:Int)(j:Nat)(b0 b1:Int)(hb:b0+256*b1=b:=by decide)(p2:(j:Int)%64≤59:=by decide)(h0:(if j<36 then(Ev K).getD j 0 else secB.getD (j -64) 0)=2:=by rfl)(h1:(if j+1<36 then(Ev K).getD (j+1) 0 else secB.getD (j+1 -64) 0)=b0:=by rfl)(h2:(if j+2<36 then(Ev K).getD (j+2) 0 else secB.getD (j+2 -64) 0)=b1:=by rfl)(h3:(if j+3<36 then(Ev K).getD (j+3) 0 else secB.getD (j+3 -64) 0)=0:=by rfl)(h4:(if j+4<36 then(Ev K).getD (j+4) 0 else secB.getD (j+4 -64) 0)=0:=by rfl)(hj:j+4<36∨64≤j∧j+4<90:=by decide):Cf g.b.ms (j:Int)=I (⟨2,b⟩,5):=
 SE O N1 p2 (h.by_ j h0 O) (h.by_ (j+1) h1 O) (h.by_ (j+2) h2 O) (h.by_ (j+3) h3 O) (h.by_ (j+4) h4 O) O
theorem sst_(c0:0≤ct)(c1:ct≤1000000)(hf:Cf g.b.ms pc=I (i,n))(h:RR (ss q d2 (ct+1)) q (q/64) g.calm k x)(hs:AX (ss pc d ct) i=ss ((pc+AK i.op)%4294967296) d2 ((ct+1)%18446744073709551616):=by rfl)(hc:check (ss pc d ct) i=0:=by rfl)(hu:GE i.op=Ag:=by first|decide|(dsimp only;decide))(hp:BZ i.op=Ag:=by first|decide|(dsimp only;decide))(he:endsB i.op=Ac:=by first|decide|(dsimp only;decide))(h0:i.op≠48:=by first|decide|(dsimp only;decide))(h1:i.op≠49:=by first|decide|(dsimp only;decide))(h2:i.op≠67:=by first|decide|(dsimp only;decide))(hz:(pc+AK i.op)%4294967296=q:=by first|decide|(dsimp only;decide))(hn:(pc+(n:Int))%4294967296=q:=by first|decide|(dsimp only;decide))(hq:q/64=pc/64:=by first|decide|(dsimp only;decide)):RR (ss pc d ct) pc (pc/64) g (k+1) x:=by
 rw[show(ct+1)%18446744073709551616=ct+1 by omega,hz] at hs;rw[hq] at h;refine SF hf ⟨hu,rfl,λe=>absurd e h0,λe=>absurd e h1,λe=>absurd e h2,hc⟩ hp he rfl (by rw[show(ss pc d ct).pc=pc from rfl,hz];exact hq) hs hn h
theorem OQ(h:Sc K g)(p0:0≤pc)(p1:pc<320)(hr:d.length≤16)(hh:RR (ss pc d ct) pc (pc/64) g 8 x):BB (ss pc d ct) g x:=by
 refine SG ?_ rfl (by rw[h.t];rfl) AC rfl (by rw[h.n];show pc<320;exact p1) hh;simp[St.right,hr]
theorem sst3_(h:Sc K g)(c0:0≤ct)(c1:ct≤100000)(hd:EH at_=Ag)(hf:Cf g.b.ms pc=I (⟨49,0⟩,1))(hq:(pc+1)%4294967296=q)(ha:32768≤at_∧at_<33024∧at_%4=0∧Bs.loadB at_=Ag):RR (ss pc [v,at_] ct) pc (pc/64) g (k+1) ⟨ss q [] (ct+1),⟨g.calm.b.store at_ v,g.l⟩⟩:=by
 have e:=cX (s:=ss pc [v,at_] ct) (g:=g) (l:=[]) (v:=v) (at_:=at_) rfl AC AC rfl ha.1 ha.2.1 ha.2.2.1 ha.2.2.2;have e2:({(ss pc [v,at_] ct).next ⟨49,0⟩ with d:=[]}:St)=ss q [] (ct+1):=by
  show ss ((pc+1)%4294967296) [] ((ct+1)%18446744073709551616)=_;rw[hq,show(ct+1)%18446744073709551616=ct+1 by omega]
 rw[e2] at e;exact MS hf (us_st (l:=[]) (v:=v) (at_:=at_) rfl AC AC rfl hd) e rfl
theorem MZ{p2 p3:Int}{n1:Nat}(h:Sc K g)(c0:0≤ct)(c1:ct≤1000)(p0:0≤pc)(p1:pc<320)(hf:Cf g.b.ms pc=I (i,n1))(hf2:Cf g.b.ms p2=I (⟨2,at_⟩,5))(hf3:Cf g.b.ms p3=I (⟨49,0⟩,1))(hs:AX (ss pc [] ct) i=ss ((pc+AK i.op)%4294967296) [v] ((ct+1)%18446744073709551616))(hc:check (ss pc [] ct) i=0)(hi:i.op=1∨i.op=2)(hu:GE i.op=Ag)(hz:(pc+AK i.op)%4294967296=p2)(hn:(pc+(n1:Int))%4294967296=p2)(hq:p2/64=pc/64)(hz2:(p2+5)%4294967296=p3)(hq2:p3/64=p2/64)(hz3:(p3+1)%4294967296=q)(hd:EH at_=Ag)(ha:32768≤at_∧at_<33024∧at_%4=0∧Bs.loadB at_=Ag):BB (ss pc [] ct) g ⟨ss q [] (ct+3),⟨g.calm.calm.calm.b.store at_ v,g.l⟩⟩:=by
 have hp:BZ i.op=Ag∧endsB i.op=Ac∧i.op≠48∧i.op≠49∧i.op≠67:=by rcases hi with e|e<;>rw[e]<;>decide
 have j3:=sst3_ (k:=5) (g:=g.calm.calm) (pc:=p3) (q:=q) (ct:=ct+2) (v:=v) (at_:=at_) h.calm.calm O O hd hf3 hz3 ha;rw[show ct+2+1=ct+3 by omega] at j3;have j2:RR (ss p2 [v] (ct+1)) p2 (p2/64) g.calm 7 _:=sst_ (q:=p3) (d2:=[v,at_]) O O hf2 (by rw[show ct+1+1=ct+2 by omega];exact j3) (hz:=hz2) (hn:=hz2) (hq:=hq2);exact OQ h p0 p1 AC (sst_ (q:=p2) (d2:=[v]) O O hf j2 hs hc hu hp.1 hp.2.1 hp.2.2.1 hp.2.2.2.1 hp.2.2.2.2 hz hn hq)
end
def J6(s:Int)(bb:List Int):Nat→Int:=lay (lay (lay (λ_=>0) 0 (Ev s)) 64 secB) 192 bb
def EZ(s:Int)(bb:List Int):List Int:=(Cl 320).map (J6 s bb)
structure Sq(K:Nat)(bb:List Int)(z:Nat)(g:Mc):Prop where
 sc:Sc K g
 pg: ∀i,i<64→g.b.ms.mem (192+i)=bb.getD i 0
 se:1≤z→g.b.sec=K
 p:g.b.p=if z<3 then 0 else 4
 l2:z=2→g.b.pl=192
 l5:z=5→g.b.pl=256
 dr:3≤z→ ∀i,i<64→g.b.d (K*64+i)=bb.getD i 0
 me:6≤z→g.b.st=0∧ ∀i,i<64→g.b.ms.mem (256+i)=bb.getD i 0
theorem Sq.calm{K:Nat}{bb:List Int}{p:Nat}{g:Mc}(h:Sq K bb p g):Sq K bb p g.calm:=⟨h.sc.calm,h.pg,h.se,h.p,h.l2,h.l5,h.dr,h.me⟩
theorem sec_0(K:Nat)(bb:List Int)(hb:bb.length=64):Sq K bb 0 (mc0 5 (EZ K bb) []):=by
 obtain⟨hm,hn⟩:=SH (n:=5) (bs:=EZ K bb) [] (by simp[EZ]);have hg: ∀i,i<320→(EZ K bb).getD i 0=J6 K bb i:=λi hi=>by
  unfold EZ;exact jP
 have la:(Ev K).length=36:=rfl;have lb:secB.length=26:=rfl;have g1: ∀i,i<36→(EZ K bb).getD i 0=(Ev K).getD i 0:=λi hi=>by
  rw[hg i O];unfold J6 lay;rw[Ae O,Ae O,An (by rw[la];omega)];rfl
 have g2: ∀i,i<26→(EZ K bb).getD (64+i) 0=secB.getD i 0:=λi hi=>by
  rw[hg _ O];unfold J6 lay;rw[Ae O,An (by rw[lb];omega),Nat.add_sub_cancel_left]
 have g3: ∀i,i<64→(EZ K bb).getD (192+i) 0=bb.getD i 0:=λi hi=>by
  rw[hg _ O];unfold J6 lay;rw[An O,Nat.add_sub_cancel_left]
 exact⟨⟨λi hi=>(hm i).trans (g1 i hi),λi hi=>(hm _).trans (g2 i hi),hn,rfl,rfl⟩,λi hi=>(hm _).trans (g3 i hi),λe=>absurd e Ak,rfl,λe=>absurd e Ak,λe=>absurd e Ak,λe=>absurd e Ak,λe=>absurd e Ak⟩
section
variable {K:Nat} {bb:List Int} {g:Mc}
theorem st_sec(b:Bs.Sb)(v:Int):b.store 32800 v={b with sec:=v}:=by
 have e:Bs.offO 32800=32:=Ak;exact Tc
theorem st_pl(b:Bs.Sb)(v:Int):b.store 32804 v={b with pl:=v}:=by
 have e:Bs.offO 32804=36:=Ak;exact Tc
theorem st_do(b:Bs.Sb)(v:Int):b.store 32808 v={b with d:=doD b.d b.ms b.sec b.pl v,ms:=doM b.d b.ms b.sec b.pl v,st:=if doB b.ms b.sec b.pl v then 0 else 1,p:=b.p|||4}:=by
 have e:Bs.offO 32808=40:=Ak;exact Tc
theorem sec_1(h:Sq K bb 0 g)(hK:K<16): ∃g',BB (ss 0 [] 0) g ⟨ss 11 [] 3,g'⟩∧Sq K bb 1 g':=by
 have hb:=MZ (i:=⟨2,K⟩) (v:=K) (at_:=32800) (q:=11) (p2:=5) (p3:=10) (pc:=0) (ct:=0) h.sc Ak Ak Ak Ak (h.sc.f5 K 0 K 0 O) (h.sc.f5 32800 5 32 128) (h.sc.f1 49 10) rfl rfl (Ah rfl) rfl rfl Ak Ak Ak Ak Ak Ak Ak;rw[st_sec] at hb;exact⟨_,hb,⟨h.sc.a,h.sc.b,h.sc.n,h.sc.t,h.sc.o⟩,h.pg,λ_=>rfl,h.p,λe=>absurd e Ak,λe=>absurd e Ak,λe=>absurd e Ak,λe=>absurd e Ak⟩
theorem sec_2(h:Sq K bb 1 g): ∃g',BB (ss 11 [] 3) g ⟨ss 22 [] 6,g'⟩∧Sq K bb 2 g':=by
 have hb:=MZ (i:=⟨2,192⟩) (v:=192) (at_:=32804) (q:=22) (p2:=16) (p3:=21) (pc:=11) (ct:=3) h.sc Ak Ak Ak Ak (h.sc.f5 192 11 192 0) (h.sc.f5 32804 16 36 128) (h.sc.f1 49 21) rfl rfl (Ah rfl) Ak Ak Ak Ak Ak Ak Ak Ak Ak;rw[st_pl] at hb;exact⟨_,hb,⟨h.sc.a,h.sc.b,h.sc.n,h.sc.t,h.sc.o⟩,h.pg,λ_=>h.se Ak,h.p,λ_=>rfl,λe=>absurd e Ak,λe=>absurd e Ak,λe=>absurd e Ak⟩
theorem sec_3(h:Sq K bb 2 g)(hK:K<16): ∃g',BB (ss 22 [] 6) g ⟨ss 30 [] 9,g'⟩∧Sq K bb 3 g':=by
 have hb:=MZ (i:=⟨1,2⟩) (v:=2) (at_:=32808) (q:=30) (p2:=24) (p3:=29) (pc:=22) (ct:=6) h.sc Ak Ak Ak Ak (h.sc.f2 1 2 22) (h.sc.f5 32808 24 40 128) (h.sc.f1 49 29) rfl rfl (Af rfl) Ak Ak Ak Ak Ak Ak Ak Ak Ak;have e1:g.calm.calm.calm.b.sec=K:=h.se Ak;have e2:g.calm.calm.calm.b.pl=192:=h.l2 rfl;have e3:doB g.calm.calm.calm.b.ms K 192 2=Ag:=jQ;have e4:g.calm.calm.calm.b.p=0:=h.p;rw[st_do,e1,e2,e3,e4] at hb;unfold doM doD at hb;rw[e3,An ⟨rfl,rfl⟩,Ae Ak] at hb;refine⟨_,hb,⟨h.sc.a,h.sc.b,h.sc.n,h.sc.t,h.sc.o⟩,h.pg,λ_=>rfl,rfl,λe=>absurd e Ak,λe=>absurd e Ak,λ_ i hi=>?_,λe=>absurd e Ak⟩;show(if(K:Int).toNat*64≤K*64+i∧K*64+i<(K:Int).toNat*64+64 then g.b.ms.mem ((192:Int).toNat+(K*64+i -(K:Int).toNat*64)) else _)=_;rw[Du,An O,show(192:Int).toNat+(K*64+i -K*64)=192+i by omega];exact h.pg i hi
theorem sec_4(h:Sq K bb 3 g): ∃g',BB (ss 30 [] 9) g ⟨ss 64 [] 11,g'⟩∧Sq K bb 3 g':=by
 refine⟨g.calm.calm,OQ h.sc Ak Ak AC ?_,h.calm.calm⟩;have j2:RR (ss 35 [64] 10) 35 (35/64) g.calm 7 ⟨ss 64 [] 11,g.calm.calm⟩:=rr_jump (h.sc.calm.f1 40 35) (us_p rfl rfl) Ak Ak rfl;exact sst_ Ak Ak (h.sc.f5 64 30 64 0) j2
theorem sec_5(h:Sq K bb 3 g): ∃g',BB (ss 64 [] 11) g ⟨ss 75 [] 14,g'⟩∧Sq K bb 5 g':=by
 have hb:=MZ (i:=⟨2,256⟩) (v:=256) (at_:=32804) (q:=75) (p2:=69) (p3:=74) (pc:=64) (ct:=11) h.sc Ak Ak Ak Ak (h.sc.f5 256 64 0 1) (h.sc.f5 32804 69 36 128) (h.sc.f1 49 74) rfl rfl (Ah rfl) Ak Ak Ak Ak Ak Ak Ak Ak Ak;rw[st_pl] at hb;exact⟨_,hb,⟨h.sc.a,h.sc.b,h.sc.n,h.sc.t,h.sc.o⟩,h.pg,λ_=>h.se Ak,h.p,λe=>absurd e Ak,λ_=>rfl,λ_=>h.dr Ak,λe=>absurd e Ak⟩
theorem sec_6(h:Sq K bb 5 g)(hK:K<16): ∃g',BB (ss 75 [] 14) g ⟨ss 83 [] 17,g'⟩∧Sq K bb 6 g':=by
 have hb:=MZ (i:=⟨1,1⟩) (v:=1) (at_:=32808) (q:=83) (p2:=77) (p3:=82) (pc:=75) (ct:=14) h.sc Ak Ak Ak Ak (h.sc.f2 1 1 75) (h.sc.f5 32808 77 40 128) (h.sc.f1 49 82) rfl rfl (Af rfl) Ak Ak Ak Ak Ak Ak Ak Ak Ak;have e1:g.calm.calm.calm.b.sec=K:=h.se Ak;have e2:g.calm.calm.calm.b.pl=256:=h.l5 rfl;have e3:doB g.calm.calm.calm.b.ms K 256 1=Ag:=jQ;have e4:g.calm.calm.calm.b.p=4:=h.p;rw[st_do,e1,e2,e3,e4] at hb;unfold doM doD at hb;rw[e3,Ae Ak,An ⟨rfl,rfl⟩] at hb;have hm: ∀j,(g.calm.calm.calm.b.ms.puts (256:Int).toNat (GD g.calm.calm.calm.b.d (K:Int).toNat) 64).mem j=if 256≤j∧j<320 then(GD g.b.d K).getD (j -256) 0 else g.b.ms.mem j:=λj=>Rm.puts_mem _ _ _ 64 j;refine⟨_,hb,⟨λi hi=>?_,λi hi=>?_,(LR _ _ _ _).trans h.sc.n,h.sc.t,h.sc.o⟩,λi hi=>?_,λ_=>rfl,rfl,λe=>absurd e Ak,λe=>absurd e Ak,λ_=>h.dr Ak,λ_=>⟨rfl,λi hi=>?_⟩⟩;·exact(hm i).trans (by rw[Ae (by omega)];exact h.sc.a i hi)
 ·exact(hm _).trans (by rw[Ae (by omega)];exact h.sc.b i hi)
 ·exact(hm _).trans (by rw[Ae (by omega)];exact h.pg i hi)
 ·refine(hm _).trans ?_;rw[An O,show 256+i -256=i by omega,GD,JL _ hi];exact h.dr Ak i hi
theorem sec_7(h:Sq K bb 6 g): ∃g',BB (ss 83 [] 17) g ⟨ss 89 [0] 19,g'⟩∧Sq K bb 6 g':=by
 have e1:g.calm.calm.b.read 32812=g.calm.calm.b:=by
  unfold Bs.Sb.read;rw[Ae Ak]
 have e2:Bs.loadV g.calm.calm.b 32812 18=0:=by
  have e:Bs.offO 32812=44:=Ak;unfold Bs.loadV Bs.loadO;rw[e];exact(h.me Ak).1
 have j2:RR (ss 88 [32812] 18) 88 (88/64) g.calm 7 ⟨ss 89 [0] 19,g.calm.calm⟩:=by
  have hd:=pI (s:=ss 88 [32812] 18) (g:=g.calm) (l:=[]) (at_:=32812) rfl;rw[e1] at hd;have e3:({(ss 88 [32812] 18).next ⟨48,0⟩ with d:=[]++[Bs.loadV g.calm.calm.b 32812 (ss 88 [32812] 18).ct]}:St)=ss 89 [0] 19:=by
   show ss 89 [Bs.loadV g.calm.calm.b 32812 18] 19=_;rw[e2]
  rw[e3] at hd;exact MS (h.sc.calm.f1 48 88) (us_ld (l:=[]) (at_:=32812) rfl Ak Ak rfl Ak) hd rfl
 exact⟨g.calm.calm,OQ h.sc Ak Ak AC (sst_ Ak Ak (h.sc.f5 32812 83 44 128) j2),h.calm.calm⟩
theorem sec_8(h:Sq K bb 6 g): ∃g',BB (ss 89 [0] 19) g ⟨{ss 90 [0] 20 with ha:=Ag},g'⟩∧Sq K bb 6 g':=by
 have e:doR (ss 89 [0] 19) ⟨69,0⟩ g=⟨{ss 90 [0] 20 with ha:=Ag},Ac,Ac,[],g.calm⟩:=by
  rw[cY Ak Ak rfl];rfl
 exact⟨g.calm,OQ h.sc Ak Ak Ak (MS (h.sc.f1 69 89) (dB Ak Ak rfl rfl) e rfl),h.calm⟩
end
def Fz(K:Nat)(bb:List Int)(i:Nat):Sg:=AH i St.new (mc0 5 (EZ K bb) [])
theorem jR(K:Nat)(bb:List Int)(hK:K<16)(hb:bb.length=64):(∃g,Fz K bb 8=⟨{ss 90 [0] 20 with ha:=Ag},g⟩∧Sq K bb 6 g)∧ ∀i,i<8→(Fz K bb i).s.ha=Ac∧(Fz K bb i).s.ct<480∧okB (Fz K bb i).s (Fz K bb i).g∧(Fz K bb i).g.b.outs=[]:=by
 have h0:=sec_0 K bb hb;obtain⟨g1,b1,h1⟩:=sec_1 h0 hK;obtain⟨g2,b2,h2⟩:=sec_2 h1;obtain⟨g3,b3,h3⟩:=sec_3 h2 hK;obtain⟨g4,b4,h4⟩:=sec_4 h3;obtain⟨g5,b5,h5⟩:=sec_5 h4;obtain⟨g6,b6,h6⟩:=sec_6 h5 hK;obtain⟨g7,b7,h7⟩:=sec_7 h6;obtain⟨g8,b8,h8⟩:=sec_8 h7;have e1:Fz K bb 1=_:=b1.1;have e2:Fz K bb 2=_:=(congrArg (λq:Sg=>Cx q.s q.g) e1).trans b2.1;have e3:Fz K bb 3=_:=(congrArg (λq:Sg=>Cx q.s q.g) e2).trans b3.1;have e4:Fz K bb 4=_:=(congrArg (λq:Sg=>Cx q.s q.g) e3).trans b4.1;have e5:Fz K bb 5=_:=(congrArg (λq:Sg=>Cx q.s q.g) e4).trans b5.1;have e6:Fz K bb 6=_:=(congrArg (λq:Sg=>Cx q.s q.g) e5).trans b6.1;have e7:Fz K bb 7=_:=(congrArg (λq:Sg=>Cx q.s q.g) e6).trans b7.1;have e8:Fz K bb 8=_:=(congrArg (λq:Sg=>Cx q.s q.g) e7).trans b8.1;refine⟨⟨g8,e8,h8⟩,λi hi=>?_⟩
 match i,hi with
 |0,_=>exact⟨rfl,(by decide:(0:Int)<480),b1.2,rfl⟩
 |1,_=>rw[e1];exact⟨rfl,(by decide:(3:Int)<480),b2.2,h1.sc.o⟩
 |2,_=>rw[e2];exact⟨rfl,(by decide:(6:Int)<480),b3.2,h2.sc.o⟩
 |3,_=>rw[e3];exact⟨rfl,(by decide:(9:Int)<480),b4.2,h3.sc.o⟩
 |4,_=>rw[e4];exact⟨rfl,(by decide:(11:Int)<480),b5.2,h4.sc.o⟩
 |5,_=>rw[e5];exact⟨rfl,(by decide:(14:Int)<480),b6.2,h5.sc.o⟩
 |6,_=>rw[e6];exact⟨rfl,(by decide:(17:Int)<480),b7.2,h6.sc.o⟩
 |7,_=>rw[e7];exact⟨rfl,(by decide:(19:Int)<480),b8.2,h7.sc.o⟩
 |i+8,h=>omega
end Gm
end Go.Proofs.YtdfegdoeebaagaaGreatDoor
