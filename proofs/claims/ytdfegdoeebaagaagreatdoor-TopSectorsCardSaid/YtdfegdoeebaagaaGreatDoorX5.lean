import Derived.Test.YtdfegdoeebaagaaGreatDoorX1
import Derived.Test.YtdfegdoeebaagaaGreatDoorX4
import Derived.Test.YtdfegdoeebaagaaGreatDoorChecked
open Go.Value renaming slice→Z,int→J,bool→Ap,tuple→AF,ownBlock→Cb,agg→A9,pointer→Bm,oneCell'→Ir
open Option renaming some→I,none→G
open Go.IntKind renaming i64→U,u32→V,u8→AB,u64→AP,wrap_u32→Gu
open Go renaming World→Aa,Value→As,Calls→At,bodyPost_ret→Bt,TypeId→AN,Ending→AY,info_parts→Cj,maxLen→BQ,Program→CF,undef→BY,bits→Bv
open Bool renaming false→Ac,true→Ag,false_ne_true→Fq
open List renaming getD_eq_getElem?_getD→AS,getElem?_take_of_lt→Dq,range→Cl,mem_append→Da,length_cons→D8,getElem?_eq_none→Ew,nil_append→DH,replicate→DL,length_map→Fo,getElem_of_mem→GC
open Go.Ending renaming returned→Ax
open And renaming intro→Ay
open Nat renaming le_refl→AD,lt_of_lt_of_le→Bg,zero_le→Bj,zero_add→BW,lt_or_ge→DG
open Or renaming inl→Af,inr→Ah
open Go.Proofs.Tryz renaming underlying23→CI
open Go.RowKit renaming intOf→AM
open Array renaming getElem?_toList→DV
open Go.Result renaming andThen→ES
open Go.Instr renaming makeSlice→Fp
open Go.Sem renaming run_bind→GT
set_option linter.all false
set_option maxHeartbeats 40000000
set_option maxRecDepth 1000000
open Go Go.RowKit
namespace Go.Proofs.YtdfegdoeebaagaaGreatDoor
namespace Wk
end Wk
namespace Mu
open Fm Nt Rm By
structure Us where
 m:Ms
 l:Unit
structure Sp where
 pg:Bool
 su:Bool
 rt:Int
structure Pr where
 p:Int
 c:Int
 a:Int
 u:Us
def devB(p:Int):Bool:=decide (32768≤p)&&decide (p<33024)
def thereB(m:Ms)(p k:Int):Bool:=decide (p<(m.n:Int)*64)||(decide (k≠1)&&devB p)
def placeR(u:Us)(s:Sp)(va k:Int):Pr:=if thereB u.m va k then⟨va,0,0,u⟩ else⟨0,10,va,u⟩
structure Us.Ok(u:Us):Prop where
 n0:1≤u.m.n∧u.m.n≤64
 bd: ∀i,i<u.m.n*64→0≤u.m.mem i∧u.m.mem i<256
end Mu
namespace Mu
open Fm Nt Rm By Wk
structure Au where
 gU:Nat
 gB:Nat
 am:Am
def Nk(w:Aa)(k:Nat):Prop:= ∃t cs,Blk w k t cs∧t≠22
theorem Nk.fr{w w':Aa}{k:Nat}{S:AE}(h:Nk w k)(f:Fr S w w')(hn: ¬S k):Nk w' k:=by
 obtain⟨t,cs,h,e⟩:=h;exact⟨t,cs,h.fr f hn,e⟩
structure Un(w:Aa)(A:Au)(u:Us):Prop where
 b:Blk w A.gU 140 #[↑A.am.gm,↑A.gB]
 M:Mem w A.am u.m
 B:A.gB<↑w∧A.gU≠A.gB∧Nk w A.gB
 sep: ∀k,A.am.own k→k≠A.gU∧k≠A.gB
def Au.wr(A:Au)(k:Nat):Prop:=k=A.gB∨A.am.own k
section
variable {w w':Aa} {A:Au} {u:Us} {S:AE}
theorem Un.fr0(h:Un w A u)(f:Fr Aj w w'):Un w' A u:=⟨h.b.fr f id,h.M.fr0 f,⟨Bg h.B.1 f.size,h.B.2.1,h.B.2.2.fr f id⟩,h.sep⟩
theorem Un.fr(h:Un w A u)(f:Fr S w w')(hs: ∀k,k=A.gU∨A.wr k→ ¬S k):Un w' A u:=⟨h.b.fr f (hs _ (Af rfl)),h.M.fr f (λk hk=>hs k (Ah (Ah hk))),⟨Bg h.B.1 f.size,h.B.2.1,h.B.2.2.fr f (hs _ (Ah (Af rfl)))⟩,h.sep⟩
theorem Un.setM(h:Un w A u){m':Ms}(hM:Mem w' A.am m')(f:Fr A.am.own w w'):Un w' A ⟨m',u.l⟩:=⟨h.b.fr f (λe=>(h.sep _ e).1 rfl),hM,⟨Bg h.B.1 f.size,h.B.2.1,h.B.2.2.fr f (λe=>(h.sep _ e).2 rfl)⟩,h.sep⟩
theorem Un.lt(h:Un w A u): ∀k,k=A.gU∨A.wr k→k<w.heap.size:=by
 rintro k (rfl|rfl|hk);·exact h.b.lt
 ·exact h.B.1
 ·exact h.M.lt k hk
theorem Un.c0(h:Un w A u):w.cell? ⟨A.gU,0,G⟩=I ↑A.am.gm:=h.b.cell 0
end
abbrev spv(s:Sp):As:=A9 #[Ap s.pg,Ap s.su,J V s.rt]
abbrev trv(c a:Int):As:=A9 #[J U c,J V a]
theorem lS(w:Aa)(p:Int)(h0:0≤p)(h1:p≤4294967295):At Tryz.prog 113 #[J V p] w λe w'=>e=Ax (Ap (devB p))∧w=w':=by
 unfold devB;by_cases a:32768≤p
 ·by_cases b:p<33024
  ·have e:(decide (32768≤p)&&decide (p<33024))=Ag:=by simp[a,b]
   exact Nx
  ·have e:(decide (32768≤p)&&decide (p<33024))=Ac:=by simp[b]
   have b':decide (p<33024)=Ac:=by simpa using b
   rw[e];clear e b;exact CP
 ·have e:(decide (32768≤p)&&decide (p<33024))=Ac:=by simp[a]
  have a':decide (32768≤p)=Ac:=by simpa using a
  rw[e];clear e a;exact CP
theorem results_tc{P:CF}{fn:Func}{p q:Tmp}{ty':AN}(h:fn.results=#[.tmp p,.cell q ty'])(tmps:AO)(w:Aa)(g':Nat)(t':AN)(cs':AO)(d':TypeDesc)(v:As)(hp:tmps.getD p BY=v)(hq:tmps.getD q BY=↑g')(hg':Blk w g' t' cs')(hu':P.underlying ty'=I d')(hd':(match d' with|.struct _|.array _ _=>Ag|_=>Ac)=Ag)(hi':(P.info? ty').map (·.size)=I cs'.size):(results fn tmps).run P w=.ok (AF #[v,A9 cs']) w:=Ns
theorem boxed(w:Aa)(x t:AO):Blk ((w.alloc (.cells x 194)).alloc (.cells t 190)) ↑w 194 x∧Blk ((w.alloc (.cells x 194)).alloc (.cells t 190)) (↑w+1) 190 t∧Fr Aj w ((w.alloc (.cells x 194)).alloc (.cells t 190)):=by
 refine⟨(AI w 194 x).alloc _, ?_,((Ao _ w).alloc _).alloc _⟩;have:=AI (w.alloc (.cells x 194)) 190 t;rwa[show(w.alloc (.cells x 194)).heap.size=w.heap.size+1 by simp] at this
theorem Un.drew{w:Aa}{A:Au}{u:Us}(h:Un w A u):Un w.drew A u:=⟨h.b,h.M,h.B,h.sep⟩
theorem trap_in{w w3:Aa}{A:Au}{u:Us}{g:Nat}{x0 x1:As}(b3:Blk w3 g 190 #[x0,x1])(H3:Un w3 A u)(f:Fr A.wr w w3)(hl: ∀k,k=A.gU∨A.wr k→k<w.heap.size)(hg:↑w≤g)(y0 y1:As):Blk ((w3.setCell ⟨g,0,G⟩ y0).setCell ⟨g,1,G⟩ y1) g 190 #[y0,y1]∧Un ((w3.setCell ⟨g,0,G⟩ y0).setCell ⟨g,1,G⟩ y1) A u∧Fr A.wr w ((w3.setCell ⟨g,0,G⟩ y0).setCell ⟨g,1,G⟩ y1):=by
 have f2:Fr (· =g) w3 ((w3.setCell ⟨g,0,G⟩ y0).setCell ⟨g,1,G⟩ y1):=(Br w3 g 0 y0).setCell (p:=⟨g,1,G⟩) (Af rfl) y1;exact⟨(b3.set_ 0 y0).set_ 1 y1,H3.fr f2 (λk hk e=>by have:=hl k hk;omega),f.trans f2 (λi hi e=>O)⟩
def PPost(w:Aa)(A:Au)(r:Pr)(e:AY)(w':Aa):Prop:=e=Ax (AF #[J V r.p,trv r.c r.a])∧Un w' A r.u∧Fr A.wr w w'
end Mu
namespace Mu
open Fm Nt Rm By Wk
def flt(k:Int):Int:=if k=1 then 7 else if k=2 then 8 else if k=3 then 9 else 0
theorem lT(w:Aa)(k:Int)(hk:k=1∨k=2∨k=3):At Tryz.prog 111 #[J U k] w λe w'=>e=Ax (J U (flt k))∧w=w':=by
 rcases hk with rfl|rfl|rfl
 all_goals
  go_in
  go_wp2
  go_ret;exact⟨rfl,rfl⟩
theorem szT:(Tryz.prog.info? 190).map (·.size)=I 2:=AL
theorem turned_any(w:Aa)(A:Au)(u:Us)(h:Un w A u)(s:Sp)(hp:s.pg=Ac)(va k c a:Int)(hc:c=0)(ha:a=0):At Tryz.prog 112 #[↑A.gU,spv s,J V va,J U k] w (PPost w A ⟨va,c,a,u⟩):=by
 subst hc ha;obtain⟨pg,su,rt⟩:=s;dsimp only at hp;subst hp;have hUlt:=h.b.lt;obtain⟨b1,b2,fx⟩:=boxed w #[Ap Ac,Ap su,J V rt] #[J U 0,J V 0];have H:=T (h.fr0 fx);have B2:=T b2;have FX:=T fx;clear h fx b1 b2;go_in;go_wp2_with fail
 try simp only[Exit.inBlock,Exit.then]
 exact Bt (results_tc rfl _ _ (w.heap.size+1) 190 _ _ _ rfl rfl B2.out Tryz.underlying190 rfl szT) rfl ⟨rfl,H.out,FX.out.none⟩
set_option maxRecDepth 100000 in
theorem place_any(w:Aa)(A:Au)(u:Us)(h:Un w A u)(s:Sp)(hp:s.pg=Ac)(va k:Int)(v0:0≤va)(v1:va≤4294967295)(hk:k=1∨k=2∨k=3):At Tryz.prog 94 #[↑A.gU,spv s,J V va,J U k] w (PPost w A (placeR u s va k)):=by
 have hl:=h.lt;obtain⟨b1,b2,fx⟩:=boxed w #[Ap s.pg,Ap s.su,J V s.rt] #[J U 0,J V 0];have b3:=CK ((w.alloc (.cells #[Ap s.pg,Ap s.su,J V s.rt] 194)).alloc (.cells #[J U 0,J V 0] 190)) 190 #[J U 10,J V va] (n:=w.heap.size+2) AC;have b1:=b1.alloc (.cells #[J U 10,J V va] 190);have b2:=b2.alloc (.cells #[J U 10,J V va] 190);have fx:=fx.alloc (.cells #[J U 10,J V va] 190);generalize hw1:((w.alloc (.cells #[Ap s.pg,Ap s.su,J V s.rt] 194)).alloc (.cells #[J U 0,J V 0] 190)).alloc (.cells #[J U 10,J V va] 190)=w1 at*;have H1:=T (h.fr0 fx);have B2:=T b2;have B3:=T b3;have FX:=T fx;have HF:=T (λW=>lT W k hk);have hs1:w1.heap.size=w.heap.size+3:=by rw[←hw1];simp
 have s0:w1.cell? ⟨↑w,0,G⟩=I (Ap s.pg):=b1.cell 0;have s1:w1.cell? ⟨↑w,1,G⟩=I (Ap s.su):=b1.cell 1;have s2:w1.cell? ⟨↑w,2,G⟩=I (J V s.rt):=b1.cell 2;have e0:=b3.cell 0;have e1:=b3.cell 1;have e2:=b2.cell 0;have e3:=b2.cell 1;have e4:=b2.frozen 0;have e5:=b2.frozen 1;simp only[List.getElem?_toArray,List.getElem?_cons_succ,List.getElem?_cons_zero] at e0 e1 e2 e3;obtain⟨res,hres⟩:=A8 (placeR u s va k);rw[hres];have HRES:=T hres;have HL:=T h;clear hres h b1 b2 b3 fx;have hf0:(flt k==0)=Ac:=by rcases hk with rfl|rfl|rfl<;>decide
 obtain⟨c,hc⟩: ∃c:Int,c=0:=⟨_,rfl⟩;obtain⟨a,ha⟩: ∃a:Int,a=0:=⟨_,rfl⟩;have Htn:=T (turned_any w1 A u H1.out s hp va k c a hc ha);have HCA:=T (Ay hc ha);clear hc ha;have Hr1:Hid (res=if thereB u.m va k then⟨va,0,0,u⟩ else⟨0,10,va,u⟩):=T (by rw[←HRES.out];rfl);clear hk HRES hp;generalize flt k=fk at*;go_in;go_wp2_with fail;refine(HF.out _).mono ?_;rintro e w' ⟨rfl,rfl⟩;go_wp2_with fail;refine Az Htn ?_;rintro e w2 ⟨rfl,hU2,f2⟩;dsimp only at hU2⊢;have f2x:=FX.out.none.trans f2 (S:=A.wr) (λi hi e=>e);have g2:=B2.out.fr f2 (λe=>by have:=hl _ (Ah e);omega);have g3:=B3.out.fr f2 (λe=>by have:=hl _ (Ah e);omega);have hs2:=f2.size;have fy:Fr Aj w2 (w2.alloc (.cells #[J U c,J V a] 190)):=(Ao _ _).alloc _;have b4:=AI w2 190 #[J U c,J V a];have H3:=hU2.fr0 fy;have g2:=g2.fr fy id;have g3:=g3.fr fy id;have F3:=f2x.tr fy.none;generalize hw3:w2.alloc (.cells #[J U c,J V a] 190)=w3 at*;have hs3:w3.heap.size=w2.heap.size+1:=by rw[←hw3];simp
 clear e0 e1 e2 e3 e4 e5 s0 s1 s2 f2 f2x fy hU2;have e0:=g3.cell 0;have e1:=g3.cell 1;have e2:=g2.cell 0;have e3:=g2.cell 1;have e4:=g2.frozen 0;have e5:=g2.frozen 1;have x0:=b4.cell 0;have x1:=b4.cell 1;have hU0:=H3.c0;simp only[List.getElem?_toArray,List.getElem?_cons_succ,List.getElem?_cons_zero] at e0 e1 e2 e3 x0 x1;have HEnd:Hid (∀y0 y1,Blk ((w3.drew.setCell ⟨↑w+1,0,G⟩ y0).setCell ⟨↑w+1,1,G⟩ y1) (↑w+1) 190 #[y0,y1]∧Un ((w3.drew.setCell ⟨↑w+1,0,G⟩ y0).setCell ⟨↑w+1,1,G⟩ y1) A u∧Fr A.wr w ((w3.drew.setCell ⟨↑w+1,0,G⟩ y0).setCell ⟨↑w+1,1,G⟩ y1)):=T (λy0 y1=>trap_in g2.drew H3.drew F3.drew hl (Nat.le_succ _) y0 y1);have HS:=T (size_any w3 A.am u.m H3.M);have hnn:=H3.M.n0;have HDv:=T (λW=>lS W va v0 v1);clear g2 g3 b4 H3 F3;go_upto_region 5 with(fail);obtain⟨rfl,rfl⟩:=HCA.out;unfold thereB at Hr1;by_cases hp:va<(u.m.n:Int)*64
 ·obtain rfl:res=⟨va,0,0,u⟩:=by rw[Hr1.out,An (by simp[hp])]
  go_wp2_with fail;refine Az HS ?_;exact Vj
 ·by_cases hk1:k=1
  ·subst hk1;obtain rfl:res=⟨0,10,va,u⟩:=by rw[Hr1.out,Ae (by simp[hp])]
   have hp':=Vk;clear hp;go_wp2_with fail;refine Az HS ?_;exact Vl
  ·have hk1':(k !=1)=Ag:=by simpa using hk1
   have hp':=Vk
   cases hd:devB va
   ·obtain rfl:res=⟨0,10,va,u⟩:=by rw[Hr1.out,Ae (by simp[hp,hd])]
    rw[hd] at HDv;clear hp hk1 hd;go_wp2_with fail;refine Az HS ?_;rintro e w' ⟨rfl,rfl⟩;go_wp2_with fail;refine(HDv.out _).mono ?_;exact Vl
   ·obtain rfl:res=⟨va,0,0,u⟩:=by rw[Hr1.out,An (by simp[hk1,hd])]
    rw[hd] at HDv;clear hp hk1 hd;go_wp2_with fail;refine Az HS ?_;rintro e w' ⟨rfl,rfl⟩;go_wp2_with fail;refine(HDv.out _).mono ?_;exact Vj
end Mu
namespace Mu
open Fm Nt Rm By Wk
theorem Un.ok{w:Aa}{A:Au}{u:Us}(h:Un w A u):u.Ok:=⟨h.M.n0,h.M.bd⟩
section
variable {u:Us} {s:Sp} {va k n v:Int}
theorem place_u:(placeR u s va k).u=u:=by unfold placeR;split<;>rfl
end
end Mu
namespace Mu
open Fm Nt Rm By Wk
def noL:Unit:=()
theorem tlb_any(w:Aa):At Tryz.prog 64 #[] w λe w'=>e=Ax (Bm (I ⟨↑w,0,G⟩))∧(w.heap.size<w'.heap.size∧Nk w' ↑w)∧Fr Aj w w':=by
 go_in
 go_wp2
 go_ret;exact⟨rfl,⟨AC,_,_,AI _ _ _,Ak⟩,(Ao _ _).alloc _⟩
theorem Vm(w:Aa)(am:Am)(m:Ms)(hM:Mem w am m):At Tryz.prog 45 #[↑am.gm] w λe w'=> ∃A:Au,e=Ax (AF #[↑A.gU,J U 0])∧A.am=am∧Un w' A ⟨m,noL⟩∧↑w≤A.gU∧↑w≤A.gB∧Fr Aj w w':=by
 have HM:=T hM;have Hlt:=T hM.lt;clear hM;go_in;go_wp2_with fail;refine(tlb_any w).mono ?_;rintro e w1 ⟨rfl,hB,f1⟩;have hs1:=f1.size;have hBl:=hB.1;have f2:Fr Aj w1 (w1.alloc (.cells #[↑am.gm,Bm (I ⟨↑w,0,G⟩)] 140)):=(Ao _ _).alloc _;have HX:Hid (∃A:Au,(⟨↑w1,w.heap.size,am⟩:Au)=A∧A.am=am∧Un (w1.alloc (.cells #[↑am.gm,Bm (I ⟨↑w,0,G⟩)] 140)) A ⟨m,noL⟩∧↑w≤A.gU∧↑w≤A.gB∧Fr Aj w (w1.alloc (.cells #[↑am.gm,Bm (I ⟨↑w,0,G⟩)] 140))):=T
  ⟨_,rfl,rfl,⟨AI _ _ _,HM.out.fr0 (f1.tr f2),⟨Bg hB.1 f2.size,by show w1.heap.size≠w.heap.size;omega,hB.2.fr f2 id⟩,λk hk=>by have:=Hlt.out k hk;exact⟨by show k≠w1.heap.size;omega,by show k≠w.heap.size;omega⟩⟩,hs1,AD _,f1.tr f2⟩
 clear hB f1 f2
 go_wp2
 go_ret2;obtain⟨A,rfl,h⟩:=HX.out;exact⟨_,rfl,h⟩
theorem memory_t(w:Aa)(A:Au)(u:Us)(h:Un w A u):At Tryz.prog 95 #[↑A.gU] w λe w'=>e=Ax ↑A.am.gm∧w=w':=by
 have c0:=h.c0;exact CP
section
variable {u:Us} {s:Sp} {va k n v:Int}
end
def TuOk(m:Ms):Prop:= ∀k,m.n≤k→k<64→m.tu k=Ac
theorem tu_place{u:Us}{s:Sp}{va k:Int}(h:TuOk u.m):TuOk (placeR u s va k).u.m:=by rw[place_u];exact h
end Mu
namespace Dr
open Fm Nt Rm By
structure Drv(w:Aa)(gd gb:Nat)(d:Nat→Int):Prop where
 b:Blk w gd 81 #[Z (I ⟨gb,0,G⟩) 1024 1024]
 c:Cells w gb 5 1024 (λi=> J AB (d i))
 bd: ∀i,i<1024→0≤d i∧d i<256
variable{w:Aa}{gd gb:Nat}{d:Nat→Int}
theorem Drv.fr{w':Aa}{S:AE}(h:Drv w gd gb d)(f:Fr S w w')(h1: ¬S gd)(h2: ¬S gb):Drv w' gd gb d:=⟨h.b.fr f h1,h.c.fr f h2,h.bd⟩
theorem Drv.lt(h:Drv w gd gb d):gd<↑w∧gb<↑w:=⟨h.b.lt,h.c.lt⟩
theorem Drv.ne(h:Drv w gd gb d):gd≠gb:=by
 obtain⟨cs,hcs,_⟩:=h.c;exact Blk.ne_ h.b hcs Ak
def N4(zs:List Int)(i:Nat):Int:=if i<zs.length then zs.getD i 0 else 0
theorem szU:(Tryz.prog.info? 5).map (·.size)=I 1:=Vv
def NewD(w:Aa)(zs:List Int)(e:AY)(w':Aa):Prop:= ∃gd gb,e=Ax (AF #[Bm (I ⟨gd,0,G⟩),J U 0])∧Drv w' gd gb (N4 zs)∧w.heap.size≤gd∧w.heap.size≤gb∧Fr Aj w w'
set_option maxRecDepth 100000 in
theorem new_any(w:Aa)(A:Aw)(len cap:Nat)(zs:List Int)(hz:IntsAt AB w ↑w A len zs)(hl:len≤1024):At Tryz.prog 60 #[Z A len cap] w (NewD w zs):=by
 have hmk: ∀W,(Fp 23 (J .i64 1024) (J .i64 1024)).run Tryz.prog W=.ok (Z (I ⟨↑W,0,G⟩) 1024 1024) (W.alloc (.cells (zU 1024) 5)):=λW=>LU U 1024 O W;have hc0:=(cellsU w 1024 rfl).alloc (.cells #[Z (I ⟨↑w,0,G⟩) 1024 1024] 81);have hb0:=AI (w.alloc (.cells (zU 1024) 5)) 81 #[Z (I ⟨↑w,0,G⟩) 1024 1024];have f0:=((Ao Aj w).alloc (.cells (zU 1024) 5)).alloc (.cells #[Z (I ⟨↑w,0,G⟩) 1024 1024] 81);have hz0:=hz.fr f0 (AD _) (λ_ _ e=>e);have hlz:=T hz.1;have HC0:=T hc0;have HB0:=T hb0;have HF0:=T f0;have HZ0:=T hz0;have hsz:=szU;clear hc0 hb0 f0 hz0;go_in;go_wp2_with
  (refine KC rfl (.tmp 14) (.tmp 15) 23 23 rfl 5 CI hsz w.heap.size 0 1024 1024 A len cap rfl rfl 5 1024 _ HC0.out AB w.heap.size len zs O HZ0.out O ?_
   intro w2 hc2 f2)
 have hfin:NewD w zs (Ax (AF #[Bm (I ⟨↑w+1,0,G⟩),J U 0])) w2:=by
  have hbb:=HB0.out;rw[show(w.alloc (.cells (zU 1024) 5)).heap.size=w.heap.size+1 by simp] at hbb;refine⟨↑w+1,w.heap.size,rfl,⟨hbb.fr f2 O,Cells.congr hc2 (λi hi=>?_),λi hi=>?_⟩,O,O,HF0.out.trans f2 (λi hi e=>O)⟩
  ·unfold putR N4;rw[Fo,hlz.out];by_cases h:i<len;·rw[An O,An h,Nat.sub_zero];have:=hlz.out;simp[AS,show i<zs.length by omega]
   ·rw[Ae O,Ae h]
  ·unfold N4;split
   ·rename_i h
    have:=Jb (hz.2.1 i (by rw[hlz.out] at h;exact h));omega
   ·omega
 have HFN:=T hfin;clear hfin hc2
 go_wp2
 go_ret2;exact HFN.out
def N5(w:Aa)(n:Nat)(l:List Int)(e:AY)(w':Aa):Prop:= ∃g cap,e=Ax (Z (I ⟨g,0,G⟩) n cap)∧IntsAt AB w' ↑w' (I ⟨g,0,G⟩) n l∧n≤cap∧w.heap.size≤g∧Fr Aj w w'
set_option maxRecDepth 100000 in
theorem clone_any(w:Aa)(gb:Nat)(n:Nat)(hn0:0<n)(hn:n≤100000)(zs:List Int)(hz:IntsAt AB w ↑w (I ⟨gb,0,G⟩) n zs)(c:Nat):At Tryz.prog 27 #[Z (I ⟨gb,0,G⟩) n c] w (N5 w n zs):=by
 obtain⟨i0,hi0,hz0,hz1,hz2⟩:=Cj N2;have hown:(w.alloc (.cells #[] 5)).ownsRow ↑w 5 1 (Z (I ⟨↑w,0,G⟩) 0 0) 0 []:=⟨rfl,Ah ⟨↑w,0,#[],rfl,AD _,AI w 5 #[],AD _,Jc,rfl,rfl⟩⟩;have hr:=Ly (hz.fr ((Ao Aj w).alloc (.cells #[] 5)) (AD _) (λ_ _ e=>e));have hwf:=T hz.2.1;have hlz:=T hz.1;have hnil: ∀W,(binOp .eql 23 (Z (I ⟨gb,0,G⟩) n c) (Z G 0 0)).run Tryz.prog W=.ok (.bool Ac) W:=λW=>Lib.run_eql_slice_nil W 23 5 (I ⟨gb,0,G⟩) n c 0 0 CI;clear hz;go_in;go_wp2_with
  (at_builtin
   refine CU _ rfl (.tmp 5) (.tmp 6) _ rfl w.heap.size 5 i0 _ 1 1 CI hi0 hz0 hz1 hz2 rfl O _ 0 [] rfl hown w.heap.size (I ⟨gb,0,G⟩) n c (zs.map (J AB)) rfl hr GW Cc O AC ?_
   intro v1 w1 hown1 hg1 hat1)
 have hfin:N5 w n zs (Ax v1) w1:=by
  rw[BW,DH] at hown1;obtain⟨g,cap,cur,rfl,hb,_,hcap,_⟩:=EQ hown1 hn0;refine⟨g,cap,rfl,Bk.own_ints hown1 (λz hz=>?_),hcap,hb,((Ao Aj w).alloc _).grown hg1 (λk hk=>?_)⟩;·obtain⟨i,hi,rfl⟩:=GC hz;have:=hwf.out i (by rw[hlz.out] at hi;exact hi);simpa[hi] using this
  ·have hk:I ↑w=I k:=hk;injection hk with hk;right;omega
 have HF:=T hfin;clear hfin hown1 hat1
 go_wp2
 go_ret;exact HF.out
theorem dall_any(w:Aa)(gd gb:Nat)(d:Nat→Int)(h:Drv w gd gb d):At Tryz.prog 22 #[↑gd] w (N5 w 1024 (lst d 1024)):=by
 have c0:=h.b.cell 0;have hI:=(cells_ints h.c h.bd).more (show gb+1≤↑w from h.lt.2);have hcl:=T (clone_any w gb 1024 O O _ hI 1024);clear hI;go_in;go_wp2_with fail;refine Az hcl ?_;rintro e w1 ⟨g,cap,rfl,hI,hc,hg,f⟩;have hG:N5 w 1024 (lst d 1024) (Ax (Z (I ⟨g,0,G⟩) 1024 cap)) w1:=⟨g,cap,rfl,hI,hc,hg,f⟩;have HG:=T hG;clear hG hI
 go_wp2
 go_ret;exact HG.out
end Dr
namespace Dr
open Fm Nt Rm By
def doB(m:Ms)(s at_ c:Int):Bool:=decide (s<16∧at_%64=0∧at_<(m.n:Int)*64∧(c=1∨c=2))
def GD(d:Nat→Int)(s:Nat):List Int:=lst (λk=>d (s*64+k)) 64
def doD(d:Nat→Int)(m:Ms)(s at_ c:Int):Nat→Int:=if doB m s at_ c=Ag∧c=2 then λi=>if s.toNat*64≤i∧i<s.toNat*64+64 then m.mem (at_.toNat+(i -s.toNat*64)) else d i else d
def doM(d:Nat→Int)(m:Ms)(s at_ c:Int):Ms:=if doB m s at_ c=Ag∧c=1 then m.puts at_.toNat (GD d s.toNat) 64 else m
theorem run_sect(gb s:Nat)(hs:s<16)(W:Aa):(Instr.slice 23 (Z (I ⟨gb,0,G⟩) 1024 1024) (I (J V ((s:Int)*64))) (I (J V (((s:Int)+1)*64))) G).run Tryz.prog W=.ok (Z (I ⟨gb,s*64,G⟩) 64 (1024 -s*64)) W:=by
 obtain⟨i0,hi0,hz0,hz1,hz2⟩:=Cj N2;have he:Tryz.prog.elem 23=5:=AL;rw[run_slice_lh W 23 (I ⟨gb,0,G⟩) 1024 1024 (by rw[he];exact CI) V V ((s:Int)*64) (((s:Int)+1)*64) O O O];have e1:((s:Int)*64).toNat=s*64:=O;have e2:(((s:Int)+1)*64).toNat=s*64+64:=O;have e3: ¬(1024=s*64):=O;have e4:s*64+64 -s*64=64:=O;simp[sizeOf,typeInfo,he,hi0,hz1,ES,sliced,e1,e2,e3,e4,Addr.add];intro h;omega
set_option maxRecDepth 100000 in
theorem do_any(w:Aa)(gd gb:Nat)(d:Nat→Int)(a:Am)(m:Ms)(hD:Drv w gd gb d)(hM:Mem w a m)(hdis: ∀k,a.own k→k≠gd∧k≠gb)(s at_ c:Int)(s0:0≤s)(s1:s≤4294967295)(a0:0≤at_)(a1:at_≤4294967295)(c0:0≤c)(c1:c≤4294967295):At Tryz.prog 244 #[↑gd,↑a.gm,J V s,J V at_,J V c] w λe w'=>e=Ax (Ap (doB m s at_ c))∧Drv w' gd gb (doD d m s at_ c)∧Mem w' a (doM d m s at_ c)∧Fr (λk=>k=gb∨a.own k) w w':=by
 have hsz:=T (size_any w a m hM);have hn:=hM.n0;have cb:=hD.b.cell 0;by_cases hs:s<16
 ·by_cases ha:at_%64=0
  ·by_cases hr:at_<(m.n:Int)*64
   ·obtain⟨k,rfl⟩: ∃k:Nat,s=k:=⟨s.toNat,O⟩;obtain⟨p,hp⟩: ∃p:Nat,at_/64=p:=⟨(at_/64).toNat,O⟩;have hap:at_=(p:Int)*64:=O;have hat:at_.toNat=p*64:=O;have hsl:=λW=>run_sect gb k O W;have hp1:p<m.n:=O;have hr1: ¬(m.n:Int)*64≤at_:=O;by_cases hc1:c=1
    ·subst hc1;have hb:doB m k at_ 1=Ag:=by simp[doB,hs,ha,hr]
     have eD:doD d m k at_ 1=d:=by rw[doD,Ae (by omega)]
     have eM:doM d m k at_ 1=m.puts (p*64) (GD d k) 64:=by rw[doM,An ⟨hb,rfl⟩,hat];rfl
     rw[hb,eD,eM];have hI:IntsAt AB w ↑w (I ⟨gb,k*64,G⟩) 64 (GD d k):=by
      refine⟨LY _ _,λi hi=>?_,λ_=>⟨gb,k*64,rfl,hD.lt.2,λi hi=>?_⟩⟩;·rw[GD,JL _ hi];have:=hD.bd (k*64+i) O;exact J7 O O
      ·rw[GD,JL _ hi];exact hD.c.cell (k*64+i) O
     have hpp:=lO w a m hM (p:Int) (I ⟨gb,k*64,G⟩) 64 (1024 -k*64) ↑w (GD d k) hI (AD _) (λ_ b off e ho=>by
      injection e with e;injection e with e1 e2;have:=(hdis b ho).2;omega) Jc
     have hpg:pgB m p 64=Ag:=by simp[pgB,hp1]
     have epp:m.putP p (GD d k)=m.puts (p*64) (GD d k) 64:=by rw[Ms.putP,GD,LY,An hpg];rfl
     rw[hpg,epp,←hp] at hpp;have Hpp:=T hpp;have hdg:=T hdis;clear hpp hI hb eD eM hpg epp hap hat hr hp;go_in;go_wp2_with fail;refine Az hsz ?_;rintro e w' ⟨rfl,rfl⟩;go_wp2_with fail;refine Az Hpp ?_;rintro e w2 ⟨rfl,hM2,f2⟩;have hD2:=hD.fr f2 (λe=>(hdg.out _ e).1 rfl) (λe=>(hdg.out _ e).2 rfl);have fr2:Fr (λk=>k=gb∨a.own k) w w2:=f2.mono (λ_ _ e=> Ah e)
     go_wp2
     go_ret;exact⟨rfl,hD2,hM2,fr2⟩
    ·by_cases hc2:c=2
     ·subst hc2;have hb:doB m k at_ 2=Ag:=by simp[doB,hs,ha,hr]
      have eD:doD d m k at_ 2=λi=>if k*64≤i∧i<k*64+64 then m.mem (p*64+(i -k*64)) else d i:=by rw[doD,An ⟨hb,rfl⟩,hat];rfl
      have eM:doM d m k at_ 2=m:=by rw[doM,Ae (by omega)]
      rw[hb,eD,eM];have hpg:=page_in w a m hM (p:Int) O O;rw[←hp,show(at_/64).toNat=p by omega] at hpg;have Hpg:=T hpg;have hbd:=hM.bd;have Hbd:=T (λi (hi:i<64)=>hbd (p*64+i) O);have hszU:=szU;clear hpg hb eD eM hap hat hr hp hbd hc1;go_in;go_wp2_with fail;refine Az hsz ?_;rintro e w' ⟨rfl,rfl⟩;go_wp2_with fail;refine Az Hpg ?_;rintro e w2 ⟨rfl,hc2,f2⟩;have hD2:=hD.fr f2 id id;have hM2:=hM.fr0 f2;have hI:=cells_ints hc2 Hbd.out;have HI:=T hI;have HC:=T hD2.c;clear hc2 hI;go_wp2_with
       (refine KC rfl (.tmp 60) (.tmp 61) 23 23 rfl 5 CI hszU gb (k*64) 64 (1024 -k*64) (I ⟨w.heap.size,0,G⟩) 64 64 rfl rfl 5 1024 _ HC.out AB (w.heap.size+1) 64 _ rfl HI.out O ?_
        intro w3 hc3 f3)
      have hD3:Drv w3 gd gb (λi=>if k*64≤i∧i<k*64+64 then m.mem (p*64+(i -k*64)) else d i):=⟨hD2.b.fr f3 (λe=>hD2.ne e),Cells.congr hc3 (λi hi=>by
       unfold putR;rw[Fo,LY];by_cases h:k*64≤i∧i<k*64+64;·rw[An h,An h];have h64:i -k*64<64:=O;simp[lst,AS,h64]
       ·rw[Ae h,Ae h]),λi hi=>by
       split;·exact Hbd.out _ O
       ·exact hD.bd i hi⟩
      have hM3:=hM2.fr f3 (λj hj e=>(hdis j hj).2 e);have fr3:Fr (λk=>k=gb∨a.own k) w w3:=(f2.none).tr (f3.mono (λ_ _ e=> Af e));have HD3:=T hD3;clear hD3 hc3
      go_wp2
      go_ret;exact⟨rfl,HD3.out,hM3,fr3⟩
     ·have hb:doB m k at_ c=Ac:=by simp[doB,hc1,hc2]
      have eD:doD d m k at_ c=d:=by rw[doD,Ae (by rw[hb];simp)]
      have eM:doM d m k at_ c=m:=by rw[doM,Ae (by rw[hb];simp)]
      rw[hb,eD,eM];have q1:(c==1)=Ac:=by simpa using hc1
      have q2:(c==2)=Ac:=by simpa using hc2
      clear hb eD eM hap hat hr hp hc1 hc2;exact Vx
   ·have hb:doB m s at_ c=Ac:=by simp[doB,hr]
    have eD:=PY;have eM:=PZ;rw[hb,eD,eM];have hr1:(m.n:Int)*64≤at_:=O;have hs1: ¬16≤s:=O;clear hb eD eM hr;exact Vx
  ·have hb:doB m s at_ c=Ac:=by simp[doB,ha]
   have eD:=PY;have eM:=PZ;rw[hb,eD,eM];have q1:(at_%64==0)=Ac:=by simpa using ha
   have q2:(at_%64 !=0)=Ag:=by simpa using ha
   clear hb eD eM ha;exact Vy
 ·have hb:doB m s at_ c=Ac:=by simp[doB,hs]
  have eD:=PY;have eM:=PZ;rw[hb,eD,eM];have hs1:16≤s:=O;clear hb eD eM hs;exact Vy
end Dr
namespace Tm
def Tmr(w:Aa)(g:Nat)(a:Int):Prop:=Blk w g 174 #[J V a]
theorem Tmr.fr{w w':Aa}{g:Nat}{a:Int}{S:AE}(h:Tmr w g a)(f:Fr S w w')(hn: ¬S g):Tmr w' g a:=Blk.fr h f hn
theorem Tmr.lt{w:Aa}{g:Nat}{a:Int}(h:Tmr w g a):g<↑w:=Blk.lt h
theorem new_any(w:Aa):At Tryz.prog 62 #[] w λe w'=>e=Ax (Bm (I ⟨↑w,0,G⟩))∧Tmr w' ↑w 0∧Fr Aj w w':=Vz
theorem at_any(w:Aa)(g:Nat)(a:Int)(h:Tmr w g a):At Tryz.prog 237 #[↑g] w λe w'=>e=Ax (J V a)∧w=w':=V0
theorem set_any(w:Aa)(g:Nat)(a x:Int)(h:Tmr w g a):At Tryz.prog 242 #[↑g,J V x] w λe w'=>e=Ax (AF #[])∧Tmr w' g x∧Fr (· =g) w w':=by
 have c:=Blk.cell h 0;have f:=Blk.frozen h 0;exact V1
def dueB(a n:Int):Bool:=(a !=0)&&decide (a≤n%4294967296)
def dueAt(a n:Int):Int:=if dueB a n then 0 else a
theorem due_any(w:Aa)(g:Nat)(a n:Int)(h:Tmr w g a):At Tryz.prog 108 #[↑g,J AP n] w λe w'=>e=Ax (Ap (dueB a n))∧Tmr w' g (dueAt a n)∧Fr (· =g) w w':=by
 have c:=Blk.cell h 0;have f:=Blk.frozen h 0;by_cases ha:a=0
 ·have hd:dueB a n=Ac:=by simp[dueB,ha]
  have hs:dueAt a n=a:=by simp[dueAt,hd]
  rw[hd,hs];subst ha;exact V2
 ·by_cases hl:n%4294967296<a
  ·have hd:dueB a n=Ac:=by simp[dueB];omega
   have hs:dueAt a n=a:=by simp[dueAt,hd]
   rw[hd,hs];exact V2
  ·have hd:dueB a n=Ag:=by simp[dueB];omega
   have hs:dueAt a n=0:=by simp[dueAt,hd]
   rw[hd,hs];clear hd hs;go_in
   go_wp2
   go_ret;exact V7
end Tm
namespace Iq
def tab:List Int:=[0,1,28,2,29,14,24,3,30,22,20,15,25,17,4,8,31,27,13,23,21,19,16,7,26,12,18,6,11,5,10,9]
def Tab(w:Aa):Prop:=0<w.heap.size∧ ∀i,i<32→w.cell? ⟨0,i,G⟩=I (J AB (tab.getD i 0))
variable{w:Aa}
theorem Tab.fr{w':Aa}{S:AE}(h:Tab w)(f:Fr S w w')(hn: ¬S 0):Tab w':=⟨Bg h.1 f.size,λi hi=>f.cell (h.2 i hi) h.1 hn⟩
def low(n:Nat):Nat:=((Cl 8).find? (λi=>n.testBit i)).getD 0
theorem low_tab: ∀x,x<256→0<x→tab.getD ((x&&&(4294967296 -x))*125613361%4294967296/134217728) 0=(low x:Int):=by decide+kernel
theorem tz_any(w:Aa)(x:Nat)(hT:Tab w)(h0:0<x)(h1:x<256):At Tryz.prog 110 #[J V x] w λe w'=>e=Ax (J U (low x))∧w=w':=by
 have hx0:((x:Int)==0)=Ac:=AA;obtain⟨L,hL,hc⟩: ∃L:Nat,Bv .and V (x:Int) (-(x:Int)%4294967296)=(L:Int)∧w.cell? ⟨0,L*125613361%4294967296/134217728,G⟩=I (J AB (low x)):=by
  have e:(-(x:Int)%4294967296)=((4294967296 -x:Nat):Int):=O;refine⟨x&&&(4294967296 -x), ?_, ?_⟩;·rw[e];exact u32_and_nat _ _ O O
  ·rw[hT.2 _ O,low_tab x h1 h0]
 have hlo:(low x:Int)≤8:=by
  have: ∀x,x<256→low x≤8:=by decide+kernel
  have:=this x h1;omega
 clear hT;generalize low x=lx at*;exact CP
def Ctl(w:Aa)(g p m:Nat):Prop:=Blk w g 83 #[J V (p:Int),J V (m:Int)]
theorem Ctl.fr{w':Aa}{g p m:Nat}{S:AE}(h:Ctl w g p m)(f:Fr S w w')(hn: ¬S g):Ctl w' g p m:=Blk.fr h f hn
theorem Ctl.lt{g p m:Nat}(h:Ctl w g p m):g<↑w:=Blk.lt h
theorem new_any(w:Aa):At Tryz.prog 61 #[] w λe w'=>e=Ax (Bm (I ⟨↑w,0,G⟩))∧Ctl w' ↑w 0 0∧Fr Aj w w':=Vz
theorem pending_any(w:Aa)(g p m:Nat)(h:Ctl w g p m):At Tryz.prog 23 #[↑g] w λe w'=>e=Ax (J V p)∧w=w':=V0
theorem mask_any(w:Aa)(g p m:Nat)(h:Ctl w g p m):At Tryz.prog 24 #[↑g] w λe w'=>e=Ax (J V m)∧w=w':=by
 have c:=Blk.cell h 1;exact CP
theorem setMask_any(w:Aa)(g p m b:Nat)(h:Ctl w g p m)(hb:b<4294967296):At Tryz.prog 241 #[↑g,J V (b:Int)] w λe w'=>e=Ax (AF #[])∧Ctl w' g p (b%256)∧Fr (· =g) w w':=by
 have c:=Blk.cell h 1;have f:=Blk.frozen h 1;have hm:Bv .and V (b:Int) 255=((b%256:Nat):Int):=by rw[←nat_mask8];exact u32_and_nat b 255 hb (by omega)
 go_in
 go_wp2
 go_end0;exact⟨rfl,Blk.set_ h 1 _,Br _ _ _ _⟩
theorem clear_any(w:Aa)(g p m b:Nat)(h:Ctl w g p m)(hp:p<4294967296)(hb:b<4294967296):At Tryz.prog 240 #[↑g,J V (b:Int)] w λe w'=>e=Ax (AF #[])∧Ctl w' g (p&&&(4294967295 -b)) m∧Fr (· =g) w w':=by
 have c:=Blk.cell h 0;have f:=Blk.frozen h 0;have hm:Bv .andNot V (p:Int) (b:Int)=((p&&&(4294967295 -b):Nat):Int):=u32_andNot_nat p b hp hb;exact V1
def nextN(p m:Nat):Nat:=low (p&&&m)
def nextB(p m:Nat):Bool:=p&&&m !=0
theorem next_any(w:Aa)(g p m:Nat)(hT:Tab w)(h:Ctl w g p m)(hp:p<4294967296)(hm:m<256):At Tryz.prog 92 #[↑g] w λe w'=>e=Ax (AF #[J U (nextN p m),Ap (nextB p m)])∧Ctl w' g p m∧Fr Aj w w':=by
 have c0:=Blk.cell h 0;have c1:=Blk.cell h 1;have hl:p&&&m<256:=Nat.lt_of_le_of_lt Nat.and_le_right hm;have ha:Bv .and V (p:Int) (m:Int)=((p&&&m:Nat):Int):=u32_and_nat p m hp O;have h1:nextN p m=low (p&&&m):=rfl;have h2:nextB p m=(p&&&m !=0):=rfl;rw[h1,h2];clear h1 h2;generalize p&&&m=x at*;by_cases hx:x=0;·subst hx;go_in;go_wp2_with fail;go_quiet (fail);exact V8
 ·have hx':((x:Int)==0)=Ac:=AA;have hx2:(x !=0)=Ag:=AA;rw[hx2];go_in;go_wp2_with fail;go_quiet (fail);go_wp2_with fail;refine(tz_any _ x (hT.fr ((Ao Aj _).drewN _) id) O hl).mono ?_;rintro e w1 ⟨rfl,rfl⟩;exact V8
def okAll(zs:List Int):Bool:=zs.all λz=>decide (0≤z)&&decide (z<8)
def orAll(zs:List Int):Nat:=zs.foldl (λa z=>a|||2^z.toNat) 0
theorem lU(zs:List Int)(z:Int):orAll (zs++[z])=orAll zs|||2^z.toNat:=by simp[orAll]
theorem lV(zs:List Int)(z:Int):okAll (zs++[z])=(okAll zs&&(decide (0≤z)&&decide (z<8))):=by simp[okAll]
theorem orAll_lt(zs:List Int)(h:okAll zs=Ag):orAll zs<256:=by
 have: ∀(l:List Int) (a:Nat),a<256→(∀z∈l,0≤z∧z<8)→l.foldl (λa z=>a|||2^z.toNat) a<256:=by
  intro l
  induction l with
  |nil=>intro a ha _;simpa using ha
  |cons z r ih=>
   intro a ha hz;have h1:=hz z AC;refine ih _ ?_ (λy hy=>hz y (by simp[hy]));have h2:2^z.toNat<2^8:=Nat.pow_lt_pow_right O O;exact Nat.or_lt_two_pow (n:=8) ha h2
 refine this zs 0 O ?_;simpa[okAll] using h
theorem take_snoc{zs:List Int}{k:Nat}(h:k<zs.length):zs.take (k+1)=zs.take k++[zs.getD k 0]:=by
 rw[List.take_succ_eq_append_getElem h];simp[h]
def raised(zs:List Int)(p:Nat):Nat:=if okAll zs then p|||orAll zs else p
theorem raise_any(w:Aa)(g p m:Nat)(h:Ctl w g p m)(hp:p<256)(B:Nat)(A:Aw)(len cap:Nat)(zs:List Int)(hl:IntsAt U w B A len zs)(hm:len≤BQ):At Tryz.prog 109 #[↑g,Z A len cap] w λe w'=>e=Ax (Ap (okAll zs))∧Ctl w' g (raised zs p) m∧Fr (· =g) w w':=by
 have c:=Blk.cell h 0;have f:=Blk.frozen h 0;unfold BQ at hm;have hlen:=hl.1;have Hlen:=T hlen;clear hlen;go_in;go_wp2_with fail
 go_loop [5,10] (λmore i=> ∃k:Nat,k≤len∧i=J U k∧okAll (zs.take k)=Ag∧more=J V (orAll (zs.take k):Int)) (λ_ i=>len -(AM i).toNat)
 case atStart=>exact⟨0,Bj _,rfl,rfl,rfl⟩
 case round=>
  obtain⟨k,hk,rfl,hok,rfl⟩:=hrel;have Hok:=T hok;have hor:=orAll_lt _ hok;clear hok;by_cases hlt:k<len
  ·obtain⟨b,off,rfl,hb,hc⟩:=hl.at_ hlt;have hs:=lV (zs.take k) (zs.getD k 0);have hs2:=lU (zs.take k) (zs.getD k 0);rw[←take_snoc (by rw[Hlen.out];exact hlt)] at hs hs2;have Hs:=T hs;have Hs2:=T hs2;clear hs hs2;generalize zs.getD k 0=z at*;by_cases hz:0≤z∧z<8
   ·obtain⟨hz0,hz1⟩:=hz;have hpw:(2:Int)^z.toNat%4294967296=((2^z.toNat:Nat):Int):=by
     have:z.toNat<8:=O;generalize z.toNat=q at*
     match q,this with
     |0,_|1,_|2,_|3,_|4,_|5,_|6,_|7,_=>rfl
    have hpl:2^z.toNat<4294967296:=Nat.lt_trans (Nat.pow_lt_pow_right (a:=2) O (show z.toNat<8 by omega)) O;have hbo:Bv .or V (orAll (zs.take k):Int) ((2:Int)^z.toNat%4294967296)=((orAll (zs.take (k+1)):Nat):Int):=by
     rw[hpw,Hs2.out];exact u32_or_nat _ _ O hpl
    have Hbo:=T hbo;clear hbo hpw hpl;go_wp2_with fail;exact⟨⟨k+1,O,Bn,by rw[Hs.out,Hok.out];simp;omega,by rw[Hbo.out]⟩,N6⟩
   ·have hbad:okAll zs=Ac:=by
     rw[←List.take_append_drop (k+1) zs];have e:okAll (zs.take (k+1))=Ac:=by rw[Hs.out,Hok.out];simp;omega
     unfold okAll at e⊢;rw[List.all_append,e];rfl
    have Hbad:=T hbad;clear hbad;by_cases hz0:z<0;·exact V9
    ·have hz8:8≤z:=O;exact V9
  ·have hk2:k=len:=O;subst hk2;have hzs:zs.take k=zs:=List.take_of_length_le (by rw[Hlen.out];omega);have hbo:Bv .or V (p:Int) (orAll (zs.take k):Int)=((p|||orAll (zs.take k):Nat):Int):=u32_or_nat _ _ O O;have Hzs:=T hzs;clear hzs
   go_wp2
   go_ret;rw[Hzs.out] at Hok⊢;rw[show raised zs p=p|||orAll zs by unfold raised;rw[Hok.out];rfl,Hok.out];exact V7
end Iq
namespace Co
theorem info8:(Tryz.prog.info? 5).map (λi=>(i.zero,i.size,i.bytes))=I (I (J AB 0),1,1):=AL
theorem zero8(w:Aa):(zeroValue 5).run Tryz.prog w=.ok (J AB 0) w:=AL
theorem lW(w:Aa):At Tryz.prog 27 #[Z G 0 0] w λe w'=>e=Ax (Z G 0 0)∧w=w':=by
 have hq:=λw=>Lib.run_eql_slice_nil (P:=Tryz.prog) w 23 5 G 0 0 0 0 CI;exact CP
def Gives(w:Aa)(base:Nat)(n:Nat)(news:List As)(e:AY)(w':Aa):Prop:=
 ∃v,e=Ax v∧w'.ownsRow base 5 1 v n news∧Fr Aj w w'∧(∀k,v.ownBlock=I k→w.heap.size≤k)
theorem lX(w:Aa)(base:Nat)(ad:Addr)(n c B:Nat)(news:List As)(hr:Reads w B 1 (I ad) n news)(hB:B≤↑w)(h1: ∀u∈news,u.oneCell'=Ag)(hn:n≤1099511627776)(hb:base≤↑w):At Tryz.prog 27 #[Z (I ad) n c] w (Gives w base n news):=by
 obtain⟨i0,hi0,hz0,hz1,hz2⟩:=Cj info8;have hq:=λw=>Lib.run_eql_slice_nil (P:=Tryz.prog) w 23 5 (I ad) n c 0 0 CI;have ho:(w.alloc (.cells #[] 5)).ownsRow base 5 1 (Z (I ⟨↑w,0,G⟩) 0 0) 0 []:=⟨rfl,Ah ⟨↑w,0,#[],rfl,hb,AI _ _ _,AD _,Jc,rfl,rfl⟩⟩;have hr1:=hr.alloc hB (.cells #[] 5);clear hr;go_in;go_wp2_with
  (at_builtin
   refine CU _ rfl (.tmp 5) (.tmp 6) _ rfl base 5 i0 _ 1 1 CI hi0 hz0 hz1 hz2 rfl O (Z (I ⟨w.heap.size,0,G⟩) 0 0) 0 [] rfl ho B (I ad) n c news rfl hr1 h1 Cc O AA ?_
   intro v1 w1 hown1 hg1 hat1)
 go_ret;rw[BW,DH] at hown1;refine⟨v1,rfl,hown1,((Ao _ _).alloc _).grown hg1 (λk hk=>?_),λk hk=>?_⟩;·exact Ty
 ·rcases hat1 with e|e;·rw[e] at hk;have e:=Qa;omega
  ·rw[e] at hk;have e:↑w+1=k:=by simpa using hk
   omega
def Shifts(w:Aa)(g n cap:Nat)(xs:List As)(e:AY)(w':Aa):Prop:=
 e=Ax (Z (I ⟨g,0,G⟩) n cap)∧(∃cur,Blk w' g 5 cur∧cur.size=cap∧cur.toList.take n=xs)∧Fr (· =g) w w'
theorem lY(w:Aa)(g n cap:Nat)(cur:AO)(x:As)(xs:List As)(hb:Blk w g 5 cur)(hs:cur.size=cap)(hx:xs.length=n)(ht:cur.toList.take (n+1)=x::xs)(hc:n+1≤cap)(hm:cap≤BQ)(h1: ∀u∈xs,u.oneCell'=Ag):At Tryz.prog 249 #[Z (I ⟨g,0,G⟩) (n+1) cap,J U 0,J U 1] w (Shifts w g n cap xs):=by
 obtain⟨i0,hi0,hz0,hz1,hz2⟩:=Cj info8;unfold BQ at hm;have hcell: ∀i,w.drew.cell? ⟨g,i,G⟩=cur[i]?:=hb.drew.cell;have hfz: ∀i,w.drew.frozen? ⟨g,i,G⟩=Ac:=hb.drew.frozen;have hxs: ∀j u,xs[j]?=I u→cur[j+1]?=I u:=by
  intro j u hu;have hj:j<n:=by
   rcases DG j n with h|h;·exact h
   ·rw[Ew O] at hu;cases hu
  have:=congrArg (λl=>l[j+1]?) ht;simp only[List.getElem?_cons_succ] at this;rw[Dq O,DV] at this;rw[this,hu]
 have b1:=hb.drew.setCells xs 0;have fr1:Fr (· =g) w (w.drew.setCells g 0 xs):=(Ao _ _).drew.setCells xs 0 (Af rfl);have s1:(Dp cur 0 xs).size=cap:=by rw[Nd];exact hs
 have t1:(Dp cur 0 xs).toList.take n=xs:=OW xs cur n hx O;have hcl: ∀ty,(Builtin.clear_ #[23] ty #[Z (I ⟨g,n,G⟩) 1 (cap -n)]).run Tryz.prog (w.drew.setCells g 0 xs)=.ok (AF #[]) ((w.drew.setCells g 0 xs).setCells g n (DL 1 (J .u8 0))):=
  λty=>Lib.run_clear_slice _ 23 5 ty (J AB 0) CI zero8 rfl rfl g n 1 (cap -n) O (λj hj=>by
   have:j=0:=O;subst this;have:=b1.cell n;rw[Nat.add_zero,this];simp;omega) (λj hj=>b1.frozen _)
 have hfin:Shifts w g n cap xs (Ax (Z (I ⟨g,0,G⟩) n cap)) ((w.drew.setCells g 0 xs).setCells g n (DL 1 (J .u8 0))):=by
  refine⟨rfl,⟨_,b1.setCells _ n,by rw[Nd];exact s1, ?_⟩,fr1.setCells _ n (Af rfl)⟩;refine Eq.trans ?_ t1;apply List.ext_getElem?;intro i;by_cases hi:i<n;·rw[Dq hi,Dq hi,DV,DV,Tu _ _ _ _ (Af hi)]
  ·rw[Ew AA,Ew AA]
 have Hfin:=T hfin;clear hfin t1 s1 fr1 b1;obtain⟨A,hA,hnews⟩: ∃A:Addr,(if cap=1 then I (⟨g,0,G⟩:Addr) else I ⟨g,1,G⟩)=I A∧Hid (∀j u,xs[j]?=I u→w.drew.cell? (A.add j)=I u):=by
  by_cases h:cap=1;·refine⟨⟨g,0,G⟩,by simp[h],λj u hu=>?_⟩;have:xs=[]:=List.length_eq_zero_iff.1 O;rw[this] at hu;simp at hu
  ·refine⟨⟨g,1,G⟩,by simp[h],λj u hu=>?_⟩;rw[Addr.add_lit,Nat.add_comm 1 j,hcell];exact hxs j u hu
 have Hroom:Hid (∀j,j<xs.length→(w.drew.cell? ⟨g,0+0*1+j,G⟩).isSome=Ag∧w.drew.frozen? ⟨g,0+0*1+j,G⟩=Ac):=by
  intro j hj;refine⟨?_,hfz _⟩;rw[hcell];simp;omega
 have Hlen:Hid (xs.length=n*1):=by rw[Nat.mul_one];exact hx
 have H1:=T h1;clear hcell hfz hxs h1 hx;have hn1:(1:Int)≤(n:Int)+1:=O;have hn2:(0:Int)≤(n:Int)+1:=O;have hn3:(n:Int)≤(n:Int)+1:=O;go_in;go_wp2_with fail;go_region_law (refine step_append_room rfl (.tmp 22) (.tmp 25) 23 rfl 5 i0 1 CI hi0 hz1 g 0 0 cap BC A n (cap -1) xs BC Hlen.out hnews.out H1.out O Hroom.out ?_);go_wp2_with (simp only[hcl]);go_ret;exact Hfin.out
def by8(l:List Int):List As:=l.map (J AB)
theorem VA(l:List Int):(by8 l).length=l.length:=by simp[by8]
def Con(w:Aa)(base g:Nat)(F:AE)(outs ins:List Int):Prop:=
 ∃vo vi,Blk w g 72 #[vo,vi]∧w.ownsRow base 5 1 vo outs.length (by8 outs)∧w.ownsRow base 5 1 vi ins.length (by8 ins)∧
  (∀k,vo.ownBlock=I k→vi.ownBlock≠I k)∧F g∧(∀k,vo.ownBlock=I k→F k)∧(∀k,vi.ownBlock=I k→F k)∧(∀k,F k→base≤k∧k<w.heap.size)
variable{w:Aa}{base:Nat}
theorem Con.fr{w':Aa}{g:Nat}{F S:AE}{outs ins:List Int}(h:Con w base g F outs ins)(f:Fr S w w')(hs: ∀k,F k→ ¬S k):Con w' base g F outs ins:=by
 obtain⟨vo,vi,h1,h2,h3,h4,h5,h6,h7,h8⟩:=h;exact⟨vo,vi,h1.fr f (hs g h5),AR h2 f (λk hk=>hs k (h6 k hk)),AR h3 f (λk hk=>hs k (h7 k hk)),h4,h5,h6,h7,λk hk=>⟨(h8 k hk).1,Bg (h8 k hk).2 f.size⟩⟩
def Turns(w:Aa)(base g:Nat)(F:AE)(outs ins:List Int)(v:As)(e:AY)(w':Aa):Prop:=
 e=Ax v∧ ∃F':Nat→Prop,Con w' base g F' outs ins∧Fr F w w'∧(∀k,F' k→F k∨w.heap.size≤k)
theorem new_any(w:Aa)(base:Nat)(hb:base≤↑w):At Tryz.prog 63 #[] w λe w'=>e=Ax (Bm (I ⟨↑w,0,G⟩))∧Con w' base ↑w (· =w.heap.size) [] []∧Fr Aj w w':=by
 go_in
 go_wp2
 go_ret;exact⟨rfl,⟨Z G 0 0,Z G 0 0,AI _ _ _,⟨rfl,Af ⟨rfl,rfl⟩⟩,⟨rfl,Af ⟨rfl,rfl⟩⟩,λk hk=>Jl,rfl,λk hk=>Jl,λk hk=>Jl,λk hk=>by subst hk;simp;exact hb⟩,(Ao _ _).alloc _⟩
variable{n:Nat}{e:AN}{v:As}{xs:List As}
theorem Ma(h:w.ownsRow base e 1 v n xs):(v=Z G 0 0∧n=0∧xs=[])∨ ∃g cap,v=Z (I ⟨g,0,G⟩) n cap∧n≤cap∧cap≤BQ:=by
 rcases h.2 with⟨rfl,rfl⟩|⟨g,cap,cur,rfl,_,_,h1,h2,_⟩;·exact Af ⟨rfl,rfl,List.length_eq_zero_iff.1 (by simpa using h.1)⟩
 ·exact Ah ⟨g,cap,rfl,h1,h2⟩
theorem own_pos(h:w.ownsRow base e 1 v n xs)(hn:0<n): ∃g cap,v=Z (I ⟨g,0,G⟩) n cap:=by
 rcases Ma h with⟨_,h0,_⟩|⟨g,cap,e,_⟩;·omega
 ·exact⟨g,cap,e⟩
theorem waits_any(w:Aa)(base g:Nat)(F:AE)(outs ins:List Int)(h:Con w base g F outs ins):At Tryz.prog 239 #[↑g] w λe w'=>e=Ax (J U ins.length)∧w=w':=by
 obtain⟨vo,vi,h1,h2,h3,h4,h5,h6,h7,h8⟩:=h;have c1:=h1.cell 1;rcases Ma h3 with⟨rfl,h0,_⟩|⟨gi,cap,rfl,_⟩;·rw[h0];clear h0;exact CP
 ·exact CP
theorem write_any(w:Aa)(base g:Nat)(F:AE)(outs ins:List Int)(b:Int)(h:Con w base g F outs ins)(ho:outs.length≤1099511627776)(hbase:base≤↑w):At Tryz.prog 243 #[↑g,J AB b] w (Turns w base g F (outs++[b]) ins (AF #[])):=by
 obtain⟨vo,vi,h1,h2,h3,h4,h5,h6,h7,h8⟩:=h;obtain⟨i0,hi0,hz0,hz1,hz2⟩:=Cj info8;have c0:=h1.cell 0;have a2:=h2.alloc (.cells #[J AB b] 5);go_in;go_wp2_with
  (at_builtin
   refine CU _ rfl (.tmp 8) (.tmp 10) _ rfl base 5 i0 _ 1 1 CI hi0 hz0 hz1 hz2 rfl O vo outs.length (by8 outs) rfl a2 (w.heap.size+1) (I ⟨w.heap.size,0,G⟩) 1 1 [J AB b] rfl (Do (AI _ _ _) rfl) Ei Cc O AA ?_
   intro v1 w1 hown1 hg1 hat1
   have hgne:I g≠vo.ownBlock:=λe=>AZ h2 h1 Ak e.symm
   have k1:=(h1.alloc (.cells #[J AB b] 5)).grown hg1 hgne
   have k2:=k1.cell 0
   have k3:=k1.frozen 0
   obtain⟨g1,cap1,hv⟩:=own_pos hown1 O
   subst hv)
 go_end0;have hs:=k1.set_ 0 (Z (I ⟨g1,0,G⟩) (outs.length+1) cap1);have f2:Fr F w w1:=((Ao _ _).alloc _).grown hg1 (λk hk=> Af (h6 k hk));have hgl:=h1.lt;have hg1w:g1<↑w1:=own_lt hown1 g1 rfl;have hg1b:base≤g1:=Cn hown1 g1 rfl;have hne1:g1≠g:=by rintro rfl;exact AZ hown1 k1 (by decide) rfl
 refine⟨rfl,λk=>F k∨k=g1,⟨_,vi,hs, ?_, ?_, ?_,Af h5, ?_, ?_, ?_⟩,f2.setCell (p:=⟨g,0,G⟩) (Af h5) _, ?_⟩
 ·have:=AR hown1 (Br w1 g 0 (Z (I ⟨g1,0,G⟩) (outs.length+1) cap1)) (λk hk=>by
   have e:=Qb;omega)
  simpa[by8] using this
 ·refine AR (AR (h3.alloc _) (S:=λk=>I k=vo.ownBlock) ⟨hg1.os,hg1.tape,hg1.output,hg1.size,hg1.block⟩ (λk hk e=>h4 k e.symm hk)) (Br w1 g 0 _) (λk hk=>?_);rintro rfl;exact AZ h3 h1 Ak hk
 ·intro k hk;have e:=Qb;subst e;rcases hat1 with e|e;·exact h4 _ e.symm
  ·intro hk';have:=own_lt h3 _ hk';simp[Cb] at e;omega
 ·intro k hk;have e:=Qb;exact Ah e.symm
 ·intro k hk;exact Af (h7 k hk)
 ·intro k hk;have hsz:(w1.setCell ⟨g,0,G⟩ (Z (I ⟨g1,0,G⟩) (outs.length+1) cap1)).heap.size=w1.heap.size:=JM;have hsz2:w.heap.size≤w1.heap.size:=f2.size;rw[hsz];rcases hk with hk|rfl;·have:=h8 k hk;omega
  ·omega
 ·intro k hk;rcases hk with hk|rfl;·exact Af hk
  ·rcases hat1 with e|e;·exact Af (h6 _ e.symm)
   ·simp[Cb] at e;omega
theorem own_any(h:w.ownsRow base e 1 v n xs): ∃A cap,v=Z A n cap:=by
 rcases Ma h with⟨e,h0,_⟩|⟨g,cap,e,_⟩;·exact⟨G,0,by rw[e,h0]⟩
 ·exact⟨_,cap,e⟩
theorem con_in{wd w1:Aa}{g:Nat}{F:AE}{outs ins ins':List Int}{vo vi v1:As}(h1:Blk w g 72 #[vo,vi])(h2:w.ownsRow base 5 1 vo outs.length (by8 outs))(h3:w.ownsRow base 5 1 vi ins.length (by8 ins))(h4: ∀k,vo.ownBlock=I k→vi.ownBlock≠I k)(h5:F g)(h6: ∀k,vo.ownBlock=I k→F k)(h7: ∀k,vi.ownBlock=I k→F k)(h8: ∀k,F k→base≤k∧k<w.heap.size)(fd:Fr Aj w wd)(hown1:w1.ownsRow base 5 1 v1 ins'.length (by8 ins'))(hg1:Fr (λk=>vi.ownBlock=I k) wd w1)(hat1:v1.ownBlock=vi.ownBlock∨ ∃k,v1.ownBlock=I k∧w.heap.size≤k)(hbase:base≤↑w):∃F':Nat→Prop,Con (w1.setCell ⟨g,1,G⟩ v1) base g F' outs ins'∧Fr F w (w1.setCell ⟨g,1,G⟩ v1)∧(∀k,F' k→F k∨w.heap.size≤k):=by
 have hgv: ¬vi.ownBlock=I g:=AZ h3 h1 Ak;have k1:=(h1.fr fd id).fr hg1 hgv;have hs:=k1.set_ 1 v1;have f2:Fr F w w1:=(fd.mono (λ_ _ e=>e.elim)).trans hg1 (λk hk e=>h7 k e);have hgl:=h1.lt;have hn1: ¬v1.ownBlock=I g:=AZ hown1 k1 Ak;refine⟨λk=>F k∨v1.ownBlock=I k,⟨vo,v1,hs, ?_, ?_, ?_,Af h5, ?_, ?_, ?_⟩,f2.setCell (p:=⟨g,1,G⟩) (Af h5) _, ?_⟩;·refine AR (AR (AR h2 fd (λ_ _ e=>e)) hg1 (λk hk e=>h4 k hk e)) (Br w1 g 1 _) (λk hk=>?_);rintro rfl;exact AZ h2 h1 Ak hk
 ·refine AR hown1 (Br w1 g 1 v1) (λk hk=>?_);rintro rfl;exact hn1 hk
 ·intro k hk hk1;rcases hat1 with e|⟨j,e,hj⟩;·exact h4 k hk (by rw[←e];exact hk1)
  ·have:=own_lt h2 k hk;rw[e] at hk1;injection hk1 with hk1;omega
 ·intro k hk;exact Af (h6 k hk)
 ·intro k hk;exact Ah hk
 ·intro k hk;have hsz:(w1.setCell ⟨g,1,G⟩ v1).heap.size=w1.heap.size:=JM;have hsz2:w.heap.size≤w1.heap.size:=f2.size;rw[hsz];rcases hk with hk|hk;·have:=h8 k hk;omega
  ·exact⟨Cn hown1 k hk,own_lt hown1 k hk⟩
 ·intro k hk;rcases hk with hk|hk;·exact Af hk
  ·rcases hat1 with e|⟨j,e,hj⟩;·exact Af (h7 k (by rw[←e];exact hk))
   ·rw[e] at hk;injection hk with hk;exact Ah O
theorem read_nil(w:Aa)(base g:Nat)(F:AE)(outs:List Int)(h:Con w base g F outs []):At Tryz.prog 238 #[↑g] w λe w'=>e=Ax (J AB 0)∧w=w':=by
 obtain⟨vo,vi,h1,h2,h3,h4,h5,h6,h7,h8⟩:=h;have c1:=h1.cell 1;obtain⟨Ai,ci,hv⟩:=own_any h3;subst hv;exact CP
theorem read_cons(w:Aa)(base g:Nat)(F:AE)(outs:List Int)(x:Int)(rest:List Int)(h:Con w base g F outs (x::rest))(hl:rest.length≤64)(hbase:base≤↑w):At Tryz.prog 238 #[↑g] w (Turns w base g F outs rest (J AB x)):=by
 obtain⟨vo,vi,h1,h2,h3,h4,h5,h6,h7,h8⟩:=h;have c1:=h1.cell 1;obtain⟨gi,cap,cur,rfl,hgb,hbl,hnc,hcm,hcs,hct⟩:=EQ h3 AC;have hx0:=hbl.cell 0;have hx1:cur[0]?=I (J AB x):=by
  have:=congrArg (λl=>l[0]?) hct;simp[by8] at this;simpa using this
 rw[hx1] at hx0;have hlen:(x::rest).length=rest.length+1:=rfl;have hct2:cur.toList.take (rest.length+1)=J AB x::by8 rest:=by simpa[by8] using hct
 have hcs2:cur.size=cap:=by simpa using hcs
 have hnc2:rest.length+1≤cap:=by simpa using hnc
 have Hct:=T hct2;have Hcs:=T hcs2;rw[hlen] at c1 h1;clear hct hct2 hcs hcs2 hx1 hlen hnc;generalize hn:rest.length=n at*;have Hn:=T hn;clear hn;go_in;go_wp2_with fail;refine(lY w gi n cap cur (J AB x) (by8 rest) hbl Hcs.out (by rw[VA,Hn.out]) Hct.out hnc2 hcm GW).mono ?_;rintro e w1 ⟨rfl,⟨cur1,k1,k2,k3⟩,f1⟩;have hgg: ¬g=gi:=by rintro rfl;exact AZ h3 h1 (by decide) rfl
 have hb1:=h1.fr f1 hgg;have d1:=hb1.cell 1;have d2:=hb1.frozen 1;have K2:=T k2;have K3:=T k3;clear k2 k3
 go_wp2
 go_ret;refine⟨rfl, ?_⟩;have hown:w1.ownsRow base 5 1 (Z (I ⟨gi,0,G⟩) n cap) rest.length (by8 rest):=
  ⟨Qc,Ah ⟨gi,cap,cur1,by rw[Hn.out],hgb,k1,by rw[Hn.out];omega,hcm,by rw[K2.out,Nat.mul_one],by rw[Nat.mul_one,Hn.out];exact K3.out⟩⟩
 exact con_in (ins':=rest) (ins:=x::rest) (by rw[show(x::rest).length=n+1 by rw[D8,Hn.out]] at*;exact h1) h2 (by rw[show(x::rest).length=n+1 by rw[D8,Hn.out]] at*;exact h3) h4 h5 h6 h7 h8 (Ao _ _) hown (f1.mono (λk hk e=>Jm)) (Af rfl) hbase
theorem output_any(w:Aa)(base g:Nat)(F:AE)(outs ins:List Int)(h:Con w base g F outs ins)(ho:outs.length≤1099511627776)(b2:Nat)(hb2:b2≤↑w):At Tryz.prog 15 #[↑g] w (Gives w b2 outs.length (by8 outs)):=by
 obtain⟨vo,vi,h1,h2,h3,h4,h5,h6,h7,h8⟩:=h;have c0:=h1.cell 0;rcases Ma h2 with⟨rfl,h0,hz⟩|⟨go,cap,rfl,hnc,hcm⟩;·have hG:Gives w b2 outs.length (by8 outs) (Ax (Z G 0 0)) w:=⟨_,rfl,⟨Qc,Af ⟨rfl,h0⟩⟩,Ao _ _,λk hk=>Jl⟩;exact VB
 ·have hr:=Reads.of_own h2;exact VC
theorem input_any(w:Aa)(base g:Nat)(F:AE)(outs ins:List Int)(h:Con w base g F outs ins)(ho:ins.length≤1099511627776)(b2:Nat)(hb2:b2≤↑w):At Tryz.prog 21 #[↑g] w (Gives w b2 ins.length (by8 ins)):=by
 obtain⟨vo,vi,h1,h2,h3,h4,h5,h6,h7,h8⟩:=h;have c0:=h1.cell 1;rcases Ma h3 with⟨rfl,h0,hz⟩|⟨go,cap,rfl,hnc,hcm⟩;·have hG:Gives w b2 ins.length (by8 ins) (Ax (Z G 0 0)) w:=⟨_,rfl,⟨Qc,Af ⟨rfl,h0⟩⟩,Ao _ _,λk hk=>Jl⟩;exact VB
 ·have hr:=Reads.of_own h3;exact VC
end Co
namespace Bs
open Fm Nt Rm By Dr
structure Sb where
 p:Nat
 m:Nat
 tm:Int
 outs:List Int
 ins:List Int
 d:Nat→Int
 ms:Ms
 sec:Int
 pl:Int
 st:Int
structure Ab where
 gB:Nat
 gc:Nat
 gt:Nat
 gk:Nat
 gd:Nat
 ge:Nat
 am:Am
structure Sb.Ok(s:Sb):Prop where
 p:s.p<256
 m:s.m<256
 tm:0≤s.tm∧s.tm≤4294967295
 len:s.ins.length≤64
 ins: ∀z∈s.ins,0≤z∧z<256
 outs: ∀z∈s.outs,0≤z∧z<256
 sec:0≤s.sec∧s.sec≤4294967295
 pl:0≤s.pl∧s.pl≤4294967295
 st:s.st=0∨s.st=1
 tu: ∀k,s.ms.n≤k→k<64→s.ms.tu k=Ac
def VD(a:Ab)(s:Sb):AO:=#[↑a.gc,↑a.gt,↑a.gk,↑a.gd,↑a.am.gm,J V s.sec,J V s.pl,J V s.st]
structure Bus(w:Aa)(F:AE)(a:Ab)(s:Sb):Prop where
 b:Blk w a.gB 60 (VD a s)
 c:Iq.Ctl w a.gc s.p s.m
 t:Tm.Tmr w a.gt s.tm
 k:Co.Con w 0 a.gk F s.outs s.ins
 d:Drv w a.gd a.ge s.d
 M:Mem w a.am s.ms
 sepF: ∀k,F k→k≠a.gB∧k≠a.gc∧k≠a.gt∧k≠a.gd∧k≠a.ge∧ ¬a.am.own k
 sepM: ∀k,a.am.own k→k≠a.gB∧k≠a.gc∧k≠a.gt∧k≠a.gd∧k≠a.ge
 ok:s.Ok
def Ab.wr(a:Ab)(F:AE)(k:Nat):Prop:=k=a.gB∨k=a.gc∨k=a.gt∨k=a.ge∨a.am.own k∨F k
theorem con_lt{w:Aa}{g:Nat}{F:AE}{o i:List Int}(h:Co.Con w 0 g F o i): ∀k,F k→k<w.heap.size:=by
 obtain⟨_,_,_,_,_,_,_,_,_,h8⟩:=h;exact λk hk=>(h8 k hk).2
section
variable {w w':Aa} {F F':AE} {a:Ab} {s:Sb} {S:AE}
theorem Bus.nBc(h:Bus w F a s):a.gB≠a.gc:=Blk.ne_ h.b h.c Ak
theorem Bus.nBt(h:Bus w F a s):a.gB≠a.gt:=Blk.ne_ h.b h.t Ak
theorem Bus.nBd(h:Bus w F a s):a.gB≠a.gd:=Blk.ne_ h.b h.d.b Ak
theorem Bus.nct(h:Bus w F a s):a.gc≠a.gt:=Blk.ne_ h.c h.t Ak
theorem Bus.ncd(h:Bus w F a s):a.gc≠a.gd:=Blk.ne_ h.c h.d.b Ak
theorem Bus.ntd(h:Bus w F a s):a.gt≠a.gd:=Blk.ne_ h.t h.d.b Ak
theorem Bus.nBe(h:Bus w F a s):a.gB≠a.ge:=by
 obtain⟨cs,hcs,_⟩:=h.d.c;exact Blk.ne_ h.b hcs Ak
theorem Bus.nce(h:Bus w F a s):a.gc≠a.ge:=by
 obtain⟨cs,hcs,_⟩:=h.d.c;exact Blk.ne_ h.c hcs Ak
theorem Bus.nte(h:Bus w F a s):a.gt≠a.ge:=by
 obtain⟨cs,hcs,_⟩:=h.d.c;exact Blk.ne_ h.t hcs Ak
theorem Bus.lt(h:Bus w F a s): ∀k,a.wr F k∨k=a.gd→k<w.heap.size:=by
 intro k hk;rcases hk with(e|e|e|e|e|e)|e;·rw[e];exact h.b.lt
 ·rw[e];exact h.c.lt
 ·rw[e];exact h.t.lt
 ·rw[e];exact h.d.c.lt
 ·exact h.M.lt k e
 ·exact con_lt h.k k e
 ·rw[e];exact h.d.b.lt
theorem Bus.fr0(h:Bus w F a s)(f:Fr Aj w w'):Bus w' F a s:=
 ⟨h.b.fr f id,h.c.fr f id,h.t.fr f id,h.k.fr f (λ_ _ e=>e),h.d.fr f id id,h.M.fr0 f,h.sepF,h.sepM,h.ok⟩
theorem Bus.fr(h:Bus w F a s)(f:Fr S w w')(hs: ∀k,a.wr F k∨k=a.gd→ ¬S k):Bus w' F a s:=
 ⟨h.b.fr f (hs _ (Af (Af rfl))),h.c.fr f (hs _ (Af (Ah (Af rfl)))),h.t.fr f (hs _ (Af (Ah (Ah (Af rfl))))),h.k.fr f (λk hk=>hs k (Af (Ah (Ah (Ah (Ah (Ah hk))))))),h.d.fr f (hs _ (Ah rfl)) (hs _ (Af (Ah (Ah (Ah (Af rfl)))))),h.M.fr f (λk hk=>hs k (Af (Ah (Ah (Ah (Ah (Af hk))))))),h.sepF,h.sepM,h.ok⟩
theorem Bus.cells(h:Bus w F a s):w.cell? ⟨a.gB,0,G⟩=I ↑a.gc∧w.cell? ⟨a.gB,1,G⟩=I ↑a.gt∧w.cell? ⟨a.gB,2,G⟩=I ↑a.gk∧w.cell? ⟨a.gB,3,G⟩=I ↑a.gd∧w.cell? ⟨a.gB,4,G⟩=I ↑a.am.gm∧w.cell? ⟨a.gB,5,G⟩=I (J V s.sec)∧w.cell? ⟨a.gB,6,G⟩=I (J V s.pl)∧w.cell? ⟨a.gB,7,G⟩=I (J V s.st):=
 ⟨h.b.cell 0,h.b.cell 1,h.b.cell 2,h.b.cell 3,h.b.cell 4,h.b.cell 5,h.b.cell 6,h.b.cell 7⟩
theorem Bus.setC(h:Bus w F a s){p m:Nat}(hc:Iq.Ctl w' a.gc p m)(f:Fr (· =a.gc) w w')(hp:p<256)(hm:m<256):Bus w' F a {s with p:=p,m:=m}:=
 ⟨h.b.fr f h.nBc,hc,h.t.fr f (λe=>h.nct e.symm),h.k.fr f (λk hk e=>(h.sepF k hk).2.1 e),h.d.fr f (λe=>h.ncd e.symm) (λe=>h.nce e.symm),h.M.fr f (λk hk e=>(h.sepM k hk).2.1 e),h.sepF,h.sepM,⟨hp,hm,h.ok.tm,h.ok.len,h.ok.ins,h.ok.outs,h.ok.sec,h.ok.pl,h.ok.st,h.ok.tu⟩⟩
theorem Bus.setT(h:Bus w F a s){tm:Int}(ht:Tm.Tmr w' a.gt tm)(f:Fr (· =a.gt) w w')(h0:0≤tm)(h1:tm≤4294967295):Bus w' F a {s with tm:=tm}:=
 ⟨h.b.fr f h.nBt,h.c.fr f h.nct,ht,h.k.fr f (λk hk e=>(h.sepF k hk).2.2.1 e),h.d.fr f (λe=>h.ntd e.symm) (λe=>h.nte e.symm),h.M.fr f (λk hk e=>(h.sepM k hk).2.2.1 e),h.sepF,h.sepM,⟨h.ok.p,h.ok.m,⟨h0,h1⟩,h.ok.len,h.ok.ins,h.ok.outs,h.ok.sec,h.ok.pl,h.ok.st,h.ok.tu⟩⟩
theorem Bus.setK(h:Bus w F a s){outs ins:List Int}(hk:Co.Con w' 0 a.gk F' outs ins)(f:Fr F w w')(hF: ∀k,F' k→F k∨w.heap.size≤k)(hl:ins.length≤64)(hi: ∀z∈ins,0≤z∧z<256)(ho: ∀z∈outs,0≤z∧z<256):Bus w' F' a {s with outs:=outs,ins:=ins}:=
 ⟨h.b.fr f (λe=>(h.sepF _ e).1 rfl),h.c.fr f (λe=>(h.sepF _ e).2.1 rfl),h.t.fr f (λe=>(h.sepF _ e).2.2.1 rfl),hk,h.d.fr f (λe=>(h.sepF _ e).2.2.2.1 rfl) (λe=>(h.sepF _ e).2.2.2.2.1 rfl),h.M.fr f (λk hk e=>(h.sepF k e).2.2.2.2.2 hk),λk hk'=>by
  rcases hF k hk' with e|e;·exact h.sepF k e
  ·have hlt:=h.lt;refine⟨λe2=>?_,λe2=>?_,λe2=>?_,λe2=>?_,λe2=>?_,λe2=>?_⟩;·have:=hlt k (Af (Af e2));omega
   ·have:=hlt k (Af (Ah (Af e2)));omega
   ·have:=hlt k (Af (Ah (Ah (Af e2))));omega
   ·have:=hlt k (Ah e2);omega
   ·have:=hlt k (Af (Ah (Ah (Ah (Af e2)))));omega
   ·have:=hlt k (Af (Ah (Ah (Ah (Ah (Af e2))))));omega,
  h.sepM,⟨h.ok.p,h.ok.m,h.ok.tm,hl,hi,ho,h.ok.sec,h.ok.pl,h.ok.st,h.ok.tu⟩⟩
theorem Bus.setD(h:Bus w F a s){d:Nat→Int}{ms:Ms}(hd:Drv w' a.gd a.ge d)(hM:Mem w' a.am ms)(f:Fr (λk=>k=a.ge∨a.am.own k) w w')(htu: ∀k,ms.n≤k→k<64→ms.tu k=Ac):Bus w' F a {s with d:=d,ms:=ms}:=
 ⟨h.b.fr f (λe=>by rcases e with e|e;exact h.nBe e;exact(h.sepM _ e).1 rfl),h.c.fr f (λe=>by rcases e with e|e;exact h.nce e;exact(h.sepM _ e).2.1 rfl),h.t.fr f (λe=>by rcases e with e|e;exact h.nte e;exact(h.sepM _ e).2.2.1 rfl),h.k.fr f (λk hk e=>by rcases e with e|e;exact(h.sepF k hk).2.2.2.2.1 e;exact(h.sepF k hk).2.2.2.2.2 e),hd,hM,h.sepF,h.sepM,⟨h.ok.p,h.ok.m,h.ok.tm,h.ok.len,h.ok.ins,h.ok.outs,h.ok.sec,h.ok.pl,h.ok.st,htu⟩⟩
theorem Bus.setB(h:Bus w F a s){sec pl st:Int}(hb:Blk w' a.gB 60 (VD a {s with sec:=sec,pl:=pl,st:=st}))(f:Fr (· =a.gB) w w')(h1:0≤sec∧sec≤4294967295)(h2:0≤pl∧pl≤4294967295)(h3:st=0∨st=1):Bus w' F a {s with sec:=sec,pl:=pl,st:=st}:=
 ⟨hb,h.c.fr f (λe=>h.nBc e.symm),h.t.fr f (λe=>h.nBt e.symm),h.k.fr f (λk hk e=>(h.sepF k hk).1 e),h.d.fr f (λe=>h.nBd e.symm) (λe=>h.nBe e.symm),h.M.fr f (λk hk e=>(h.sepM k hk).1 e),h.sepF,h.sepM,⟨h.ok.p,h.ok.m,h.ok.tm,h.ok.len,h.ok.ins,h.ok.outs,h1,h2,h3,h.ok.tu⟩⟩
end
def BPost(w:Aa)(F:AE)(a:Ab)(s':Sb)(v:As)(e:AY)(w':Aa):Prop:=
 e=Ax v∧ ∃F',Bus w' F' a s'∧(∀k,F' k→F k∨w.heap.size≤k)∧Fr (a.wr F) w w'
theorem BPost.same{w w':Aa}{F:AE}{a:Ab}{s:Sb}{v:As}(h:Bus w' F a s)(f:Fr (a.wr F) w w'):BPost w F a s v (Ax v) w':=⟨rfl,F,h,λk hk=> Af hk,f⟩
def offO(at_:Int):Int:=(at_ -32768)%4294967296
def loadB(at_:Int):Bool:=decide (offO at_=0∨offO at_=4∨offO at_=8∨offO at_=12∨offO at_=16∨offO at_=20∨offO at_=24∨offO at_=32∨offO at_=36∨offO at_=40∨offO at_=44)
def loadO(s:Sb)(o cnt:Int):Int:=
 if o=0 then s.p else if o=4 then s.m else if o=8 then s.tm else if o=12 then cnt%4294967296 else if o=20 then s.ins.headD 0 else if o=24 then s.ins.length else if o=32 then s.sec else if o=36 then s.pl else if o=44 then s.st else 0
def loadV(s:Sb)(at_ cnt:Int):Int:=loadO s (offO at_) cnt
def Sb.read(s:Sb)(at_:Int):Sb:=if offO at_=20 then{s with ins:=s.ins.tail} else s
theorem VE(at_:Int):offO at_=0∨offO at_=4∨offO at_=8∨offO at_=12∨offO at_=16∨offO at_=20∨offO at_=24∨offO at_=32∨offO at_=36∨offO at_=40∨offO at_=44∨loadB at_=Ac:=by
 cases h:loadB at_
 ·simp
 ·rw[loadB] at h;have:=of_decide_eq_true h;omega
set_option maxRecDepth 100000 in
theorem load_any(w:Aa)(F:AE)(a:Ab)(s:Sb)(h:Bus w F a s)(at_ cnt:Int)(a0:0≤at_)(a1:at_≤4294967295)(n0:0≤cnt)(n1:cnt≤18446744073709551615):At Tryz.prog 216 #[↑a.gB,J V at_,J AP cnt] w (BPost w F a (s.read at_) (AF #[J V (loadV s at_ cnt),Ap (loadB at_)])):=by
 have hw:=VF;obtain⟨c0,c1,c2,c3,c4,c5,c6,c7⟩:=h.cells;have H:=T h;have hcase:=VE at_;have e1:loadV s at_ cnt=loadO s (offO at_) cnt:=rfl;have e2:s.read at_=if offO at_=20 then{s with ins:=s.ins.tail} else s:=rfl;have e3:=VG;rw[e1,e2];rw[e3] at hcase⊢;clear e1 e2 e3 h;generalize offO at_=o at*;rcases hcase with rfl|rfl|rfl|rfl|rfl|rfl|rfl|rfl|rfl|rfl|rfl|hno;·have Hp:=T (Iq.pending_any w a.gc s.p s.m H.out.c);exact Mb
 ·have Hp:=T (Iq.mask_any w a.gc s.p s.m H.out.c);exact Mb
 ·have Hp:=T (Tm.at_any w a.gt s.tm H.out.t);exact Mb
 ·have hcw:IntKind.u32.wrap cnt=cnt%4294967296:=Gu _;have el:loadO s 12 cnt=cnt%4294967296:=rfl;rw[el];generalize cnt%4294967296=cv at*;exact JN
 ·exact JN
 ·rw[An rfl]
  cases hi:s.ins with
  |nil=>
   have hk:=H.out.k;rw[hi] at hk;have Hp:=T (Co.read_nil w 0 a.gk F s.outs hk);have es:({s with ins:=([]:List Int).tail}:Sb)=s:=by cases s;simp at hi;simp[hi]
   have el:loadO s 20 cnt=0:=by simp[loadO,hi]
   rw[es,el];clear hk es el hi;exact Mb
  |cons x rest=>
   have hk:=H.out.k;rw[hi] at hk;have hlen:=H.out.ok.len;have hib:=H.out.ok.ins;rw[hi] at hlen hib;have hx:=hib x (List.mem_cons_self ..);have Hp:=T (Co.read_cons w 0 a.gk F s.outs x rest hk (by simp at hlen;omega) (Bj _));have el:loadO s 20 cnt=x:=by simp[loadO,hi]
   rw[el];have HB:=T (λw' F' (hk':Co.Con w' 0 a.gk F' s.outs rest) (f:Fr F w w') (hF: ∀k,F' k→F k∨w.heap.size≤k)=>H.out.setK hk' f hF (by simp at hlen;omega) (λz hz=>hib z (List.mem_cons_of_mem _ hz)) H.out.ok.outs);have hx0:=hx.1;have hx1:=hx.2;clear hk el hi hlen hib hx;go_in;go_wp2_with fail;refine Az Hp ?_;rintro e w' ⟨rfl,F',hk',f',hF'⟩;have hB':=HB.out w' F' hk' f' hF'
   go_wp2
   go_ret2;exact VH
 ·have Hp:=T (Co.waits_any w 0 a.gk F s.outs s.ins H.out.k);have el:loadO s 24 cnt=s.ins.length:=rfl;have hlen:=H.out.ok.len;rw[el];generalize s.ins.length=q at*;exact Mb
 ·exact JN
 ·exact JN
 ·exact JN
 ·exact JN
 ·rw[hno];have hn:=of_decide_eq_false hno;have n0:(o==0)=Ac:=AA;have n4:(o==4)=Ac:=AA;have n8:(o==8)=Ac:=AA;have n12:(o==12)=Ac:=AA;have n16:(o==16)=Ac:=AA;have n20:(o==20)=Ac:=AA;have n24:(o==24)=Ac:=AA;have n32:(o==32)=Ac:=AA;have n36:(o==36)=Ac:=AA;have n40:(o==40)=Ac:=AA;have n44:(o==44)=Ac:=AA;have el:loadO s o cnt=0:=by
   unfold loadO;rw[Ae O,Ae O,Ae O,Ae O,Ae O,Ae O,Ae O,Ae O,Ae O]
  rw[el,Ae O];clear hno hn el;exact JN
end Bs
namespace Bs
open Fm Nt Rm By Dr
theorem or_256{p z:Nat}(hp:p<256)(hz:z<8):p|||2^z<256:=by
 have h1:2^z<2^8:=Nat.pow_lt_pow_right O hz;exact Nat.or_lt_two_pow (n:=8) O h1
theorem Qd{w:Aa}{F:AE}{a:Ab}{s:Sb}(h:Bus w F a s)(z:Nat)(hz:z<8):At Tryz.prog 109 #[↑a.gc,Z (I ⟨↑w,0,G⟩) 1 1] (w.alloc (.cells #[J U (z:Int)] 3)) λe w'=>e=Ax (.bool Ag)∧Bus w' F a {s with p:=s.p|||2^z}∧Fr (· =a.gc) w w':=by
 have f0:=(Ao (· =a.gc) w).alloc (.cells #[J U (z:Int)] 3);have h0:=h.fr0 ((Ao Aj w).alloc (.cells #[J U (z:Int)] 3));refine(Iq.raise_any _ a.gc s.p s.m h0.c h0.ok.p (↑w+1) (I ⟨↑w,0,G⟩) 1 1 [(z:Int)] (Tn [(z:Int)] (AI _ _ _) (λi hi=>by
  have:i=0:=Md;subst this;exact Lx (n:=(z:Int)) O O)) Jc).mono ?_
 rintro e w' ⟨rfl,hc,f⟩;have e1:Iq.okAll [(z:Int)]=Ag:=by simp[Iq.okAll];omega
 have e2:Iq.raised [(z:Int)] s.p=s.p|||2^z:=by
  rw[Iq.raised,An e1];simp[Iq.orAll]
 rw[e2] at hc;exact⟨by rw[e1],h0.setC hc f (or_256 h.ok.p hz) h.ok.m,f0.tr f⟩
def Sb.storeO(s:Sb)(o v:Int):Sb:=
 if o=0 then{s with p:=s.p&&&(4294967295 -v.toNat)} else if o=4 then{s with m:=v.toNat%256} else if o=8 then{s with tm:=v} else if o=16 then{s with outs:=s.outs++[v%256]}
 else if o=32 then{s with sec:=v} else if o=36 then{s with pl:=v}
 else if o=40 then{s with d:=doD s.d s.ms s.sec s.pl v,ms:=doM s.d s.ms s.sec s.pl v,st:=if doB s.ms s.sec s.pl v then 0 else 1,p:=s.p|||4} else s
def Sb.store(s:Sb)(at_ v:Int):Sb:=s.storeO (offO at_) v
theorem doM_n(d:Nat→Int)(m:Ms)(s at_ c:Int):(doM d m s at_ c).n=m.n:=by
 unfold doM;split;·exact LR _ _ _ _
 ·rfl
theorem doM_tu(d:Nat→Int)(m:Ms)(s at_ c:Int)(a0:0≤at_)(ht: ∀k,m.n≤k→k<64→m.tu k=Ac): ∀k,(doM d m s at_ c).n≤k→k<64→(doM d m s at_ c).tu k=Ac:=by
 intro k h1 h2;rw[doM_n] at h1;unfold doM;split
 ·rename_i h
  have hb:=h.1;simp only[doB,decide_eq_true_eq] at hb;rw[puts_tu,ht k h1 h2,Bool.false_or];unfold hits;exact decide_eq_false (by rintro⟨j,h3,h4⟩;omega)
 ·exact ht k h1 h2
set_option maxRecDepth 100000 in
theorem lZ(w:Aa)(F:AE)(a:Ab)(s:Sb)(h:Bus w F a s)(at_:Int)(vn:Nat)(cnt:Int)(hw:IntKind.u32.wrap (at_ -32768)=40)(v0:(0:Int)≤vn)(v1:(vn:Int)≤4294967295):At Tryz.prog 218 #[↑a.gB,J V at_,J V (vn:Int),J AP cnt] w (BPost w F a (s.storeO 40 (vn:Int)) (Ap Ag)):=by
 obtain⟨c0,c1,c2,c3,c4,c5,c6,c7⟩:=h.cells;have z5:=h.b.frozen 5;have z6:=h.b.frozen 6;have z7:=h.b.frozen 7;have H:=T h;clear h;have hB1:=H.out.setB (sec:=s.sec) (pl:=s.pl) (st:=1) (H.out.b.set_ 7 (J V 1)) (Br w a.gB 7 (J V 1)) H.out.ok.sec H.out.ok.pl (Ah rfl);have f1:=(Br w a.gB 7 (J V 1)).mono (S':=a.wr F) (λk _ e=> Af e);have hsz:w.heap.size=(w.setCell ⟨a.gB,7,G⟩ (J V 1)).heap.size:=JM;have es:s.storeO 40 (vn:Int)={s with d:=doD s.d s.ms s.sec s.pl vn,ms:=doM s.d s.ms s.sec s.pl vn,st:=if doB s.ms s.sec s.pl vn then 0 else 1,p:=s.p|||4}:=rfl;rw[es];go_in;go_upto_region 17 with(fail);generalize w.setCell ⟨a.gB,7,G⟩ (J V 1)=w1 at*;obtain⟨b0,b1,b2,b3,b4,b5,b6,b7⟩:=hB1.cells;have k3:w1.drew.cell? ⟨a.gB,3,G⟩=I ↑a.gd:=b3;have k4:w1.drew.cell? ⟨a.gB,4,G⟩=I ↑a.am.gm:=b4;have k5:w1.drew.cell? ⟨a.gB,5,G⟩=I (J V s.sec):=b5;have k6:w1.drew.cell? ⟨a.gB,6,G⟩=I (J V s.pl):=b6;have Hd:=T (do_any w1.drew a.gd a.ge s.d a.am s.ms (hB1.d.fr ((Ao Aj w1).drew) id id) (hB1.M.fr0 ((Ao Aj w1).drew)) (λk hk=>⟨(hB1.sepM k hk).2.2.2.1,(hB1.sepM k hk).2.2.2.2⟩) s.sec s.pl (vn:Int) H.out.ok.sec.1 H.out.ok.sec.2 H.out.ok.pl.1 H.out.ok.pl.2 v0 v1);have Htu:=T (doM_tu s.d s.ms s.sec s.pl vn H.out.ok.pl.1 H.out.ok.tu);have HB1:=T (hB1.fr0 ((Ao Aj w1).drew));have F1:=T f1.drew;clear hB1 f1 es c0 c1 c2 c3 c4 c5 c6 c7 z5 z6 z7 b0 b1 b2 b3 b4 b5 b6 b7;generalize doB s.ms s.sec s.pl vn=bb at*;generalize doD s.d s.ms s.sec s.pl vn=d' at*;generalize doM s.d s.ms s.sec s.pl vn=m' at*
 go_region_held3 (λW=>W.cell? ⟨a.gB,3,G⟩=I ↑a.gd∧W.cell? ⟨a.gB,4,G⟩=I ↑a.am.gm∧W.cell? ⟨a.gB,5,G⟩=I (J V s.sec)∧W.cell? ⟨a.gB,6,G⟩=I (J V s.pl)) (first|exact⟨k3,k4,k5,k6⟩|exact⟨l3,l4,l5,l6⟩)
  (first
  |(go_at_call 244;refine Az Hd ?_;rintro e w2 ⟨rfl,hD2,hM2,f2⟩;have hB2:=HB1.out.setD hD2 hM2 f2 Htu.out;obtain⟨l0,l1,l2,l3,l4,l5,l6,l7⟩:=hB2.cells))
 all_goals
  have F2:=F1.out.trans f2 (λk hk e=>by rcases e with e|e;exact Ah (Ah (Ah (Af e)));exact Ah (Ah (Ah (Ah (Af e)))));have z7:=hB2.b.frozen 7
  cases bb
  ·have Hr:=T (Qd hB2 2 O);clear f2 hD2 hM2;go_wp2_with fail;refine Az Hr ?_;rintro e w3 ⟨rfl,hB3,f3⟩
   go_wp2
   go_ret;exact⟨rfl,F,hB3,λk hk=> Af hk,F2.trans f3 (λk hk e=> Ah (Af e))⟩
  ·have hB2':=hB2.setB (sec:=s.sec) (pl:=s.pl) (st:=0) (hB2.b.set_ 7 (J V 0)) (Br w2 a.gB 7 (J V 0)) H.out.ok.sec H.out.ok.pl (Af rfl);have F3:=F2.trans (Br w2 a.gB 7 (J V 0)) (λk hk e=> Af e);clear f2 hD2 hM2;go_upto_region 19 with(fail);generalize w2.setCell ⟨a.gB,7,G⟩ (J V 0)=w4 at*;obtain⟨m0,m1,m2,m3,m4,m5,m6,m7⟩:=hB2'.cells;have Hr:=T (Qd hB2' 2 O);go_wp2_with fail;refine Az Hr ?_;rintro e w3 ⟨rfl,hB3,f3⟩
   go_wp2
   go_ret;exact⟨rfl,F,hB3,λk hk=> Af hk,F3.trans f3 (λk hk e=> Ah (Af e))⟩
set_option maxRecDepth 100000 in
theorem store_any(w:Aa)(F:AE)(a:Ab)(s:Sb)(h:Bus w F a s)(at_ v cnt:Int)(a0:0≤at_)(a1:at_≤4294967295)(v0:0≤v)(v1:v≤4294967295)(hlo:s.outs.length≤1000000):At Tryz.prog 218 #[↑a.gB,J V at_,J V v,J AP cnt] w (BPost w F a (s.store at_ v) (Ap (loadB at_))):=by
 have hw:=VF;obtain⟨c0,c1,c2,c3,c4,c5,c6,c7⟩:=h.cells;have z5:=h.b.frozen 5;have z6:=h.b.frozen 6;have z7:=h.b.frozen 7;have H:=T h;have hcase:=VE at_;have e1:s.store at_ v=s.storeO (offO at_) v:=rfl;have e3:=VG;rw[e1];rw[e3] at hcase⊢;clear e1 e3 h;generalize offO at_=o at*;obtain⟨vn,rfl⟩: ∃k:Nat,v=k:=⟨v.toNat,O⟩;rcases hcase with rfl|rfl|rfl|rfl|rfl|rfl|rfl|rfl|rfl|rfl|rfl|hno
 ·have Hp:=T (Iq.clear_any w a.gc s.p s.m vn H.out.c (by have:=H.out.ok.p;omega) O);go_in;go_wp2_with fail;refine Az Hp ?_;rintro e w' ⟨rfl,hc,f⟩
  go_wp2
  go_ret;exact⟨rfl,F,H.out.setC hc f (Nat.lt_of_le_of_lt Nat.and_le_left H.out.ok.p) H.out.ok.m,λk hk=> Af hk,f.mono (λk _ e=> Ah (Af e))⟩
 ·have Hp:=T (Iq.setMask_any w a.gc s.p s.m vn H.out.c O);go_in;go_wp2_with fail;refine Az Hp ?_;rintro e w' ⟨rfl,hc,f⟩
  go_wp2
  go_ret;exact⟨rfl,F,H.out.setC hc f H.out.ok.p (Nat.mod_lt _ O),λk hk=> Af hk,f.mono (λk _ e=> Ah (Af e))⟩
 ·have Hp:=T (Tm.set_any w a.gt s.tm (vn:Int) H.out.t);go_in;go_wp2_with fail;refine Az Hp ?_;rintro e w' ⟨rfl,hc,f⟩
  go_wp2
  go_ret;exact⟨rfl,F,H.out.setT hc f v0 v1,λk hk=> Af hk,f.mono (λk _ e=> Ah (Ah (Af e)))⟩
 ·exact Me
 ·have hb8:IntKind.u8.wrap (vn:Int)=(vn:Int)%256:=IntKind.wrap_u8 _;have Hp:=T (Co.write_any w 0 a.gk F s.outs s.ins ((vn:Int)%256) H.out.k O (Bj _));have es:s.storeO 16 (vn:Int)={s with outs:=s.outs++[(vn:Int)%256]}:=rfl;have HB:=T (λw' F' (hk':Co.Con w' 0 a.gk F' (s.outs++[(vn:Int)%256]) s.ins) (f:Fr F w w') (hF: ∀k,F' k→F k∨w.heap.size≤k)=>H.out.setK hk' f hF H.out.ok.len H.out.ok.ins (λz hz=>by
   rcases Da.1 hz with e|e;·exact H.out.ok.outs z e
   ·have:z=(vn:Int)%256:=KD;omega))
  rw[es];clear es;generalize(vn:Int)%256=bv at*;go_in;go_wp2_with fail;refine Az Hp ?_;rintro e w' ⟨rfl,F',hk',f',hF'⟩;have hB':=HB.out w' F' hk' f' hF'
  go_wp2
  go_ret;exact VH
 ·exact Me
 ·exact Me
 ·have HB:=T (H.out.setB (sec:=(vn:Int)) (pl:=s.pl) (st:=s.st) (H.out.b.set_ 5 (J V (vn:Int))) (Br w a.gB 5 (J V (vn:Int))) ⟨v0,v1⟩ H.out.ok.pl H.out.ok.st);go_in
  go_wp2
  go_ret;exact⟨rfl,F,HB.out,λk hk=> Af hk,(Br w a.gB 5 (J V (vn:Int))).mono (λk _ e=> Af e)⟩
 ·have HB:=T (H.out.setB (sec:=s.sec) (pl:=(vn:Int)) (st:=s.st) (H.out.b.set_ 6 (J V (vn:Int))) (Br w a.gB 6 (J V (vn:Int))) H.out.ok.sec ⟨v0,v1⟩ H.out.ok.st);go_in
  go_wp2
  go_ret;exact⟨rfl,F,HB.out,λk hk=> Af hk,(Br w a.gB 6 (J V (vn:Int))).mono (λk _ e=> Af e)⟩
 ·exact lZ w F a s H.out at_ vn cnt hw v0 v1
 ·exact Me
 ·rw[hno];have hn:=of_decide_eq_false hno;have n0:(o==0)=Ac:=AA;have n4:(o==4)=Ac:=AA;have n8:(o==8)=Ac:=AA;have n12:(o==12)=Ac:=AA;have n16:(o==16)=Ac:=AA;have n20:(o==20)=Ac:=AA;have n24:(o==24)=Ac:=AA;have n32:(o==32)=Ac:=AA;have n36:(o==36)=Ac:=AA;have n40:(o==40)=Ac:=AA;have n44:(o==44)=Ac:=AA;have el:s.storeO o (vn:Int)=s:=by
   unfold Sb.storeO;rw[Ae O,Ae O,Ae O,Ae O,Ae O,Ae O,Ae O]
  rw[el];clear hno hn el;exact Me
def Sb.tick(s:Sb)(n:Int):Sb:=if Tm.dueB s.tm n then{s with tm:=0,p:=s.p|||1} else s
set_option maxRecDepth 100000 in
theorem tick_any(w:Aa)(F:AE)(a:Ab)(s:Sb)(h:Bus w F a s)(cnt:Int):At Tryz.prog 91 #[↑a.gB,J AP cnt] w (BPost w F a (s.tick cnt) (AF #[])):=by
 obtain⟨c0,c1,c2,c3,c4,c5,c6,c7⟩:=h.cells;have Hd:=T (Tm.due_any w a.gt s.tm cnt h.t);have H:=T h;have hda:Tm.dueAt s.tm cnt=if Tm.dueB s.tm cnt then 0 else s.tm:=rfl;have hti:s.tick cnt=if Tm.dueB s.tm cnt then{s with tm:=0,p:=s.p|||1} else s:=rfl;rw[hda] at Hd;rw[hti];clear h hda hti;generalize Tm.dueB s.tm cnt=bb at*
 cases bb
 ·rw[Ae Fq] at Hd⊢;go_in;go_wp2_with fail;refine Az Hd ?_;rintro e w1 ⟨rfl,ht,f1⟩;have h1:=H.out.setT ht f1 H.out.ok.tm.1 H.out.ok.tm.2
  go_wp2
  go_end0;exact⟨rfl,F,h1,λk hk=> Af hk,f1.mono (λk _ e=> Ah (Ah (Af e)))⟩
 ·rw[An rfl] at Hd⊢;go_in;go_wp2_with fail;refine Az Hd ?_;rintro e w1 ⟨rfl,ht,f1⟩;have h1:=H.out.setT ht f1 (Int.le_refl _) O;obtain⟨m0,m1,m2,m3,m4,m5,m6,m7⟩:=h1.cells;have Hr:=T (Qd h1 0 O);go_wp2_with fail;refine Az Hr ?_;rintro e w3 ⟨rfl,hB3,f3⟩
  go_wp2
  go_end0;exact⟨rfl,F,hB3,λk hk=> Af hk,(f1.mono (S':=a.wr F) (λk _ e=> Ah (Ah (Af e)))).trans f3 (λk hk e=> Ah (Af e))⟩
def Sb.new(ms:Ms)(zs:List Int):Sb:=⟨0,0,0,[],[],N4 zs,ms,0,0,0⟩
def NewB(w:Aa)(am:Am)(ms:Ms)(zs:List Int)(e:AY)(w':Aa):Prop:=
 ∃(a:Ab) (F:AE),e=Ax (AF #[↑a.gB,J U 0])∧a.am=am∧Bus w' F a (Sb.new ms zs)∧(∀k,a.wr F k∨k=a.gd→w.heap.size≤k∨am.own k)∧Fr Aj w w'
set_option maxRecDepth 100000 in
theorem new_any(w:Aa)(am:Am)(ms:Ms)(hM:Mem w am ms)(htu: ∀k,ms.n≤k→k<64→ms.tu k=Ac)(A:Aw)(len cap:Nat)(zs:List Int)(hz:IntsAt AB w ↑w A len zs)(hl:len≤1024):At Tryz.prog 44 #[↑am.gm,Z A len cap] w (NewB w am ms zs):=by
 have HM:=T hM;have Hown:=T hM.lt;have Htu:=T htu;clear hM htu;have Hn:=T (Dr.new_any w A len cap zs hz hl);clear hz;go_in;go_wp2_with fail;refine Az Hn ?_;rintro e w1 ⟨gd,ge,rfl,hD,hgd,hge,f1⟩;go_wp2_with fail;refine(Iq.new_any w1).mono ?_;rintro e w2 ⟨rfl,hc,f2⟩;go_wp2_with fail;refine(Tm.new_any w2).mono ?_;rintro e w3 ⟨rfl,ht,f3⟩;go_wp2_with fail;refine(Co.new_any w3 0 (Bj _)).mono ?_;rintro e w4 ⟨rfl,hk,f4⟩;have s1:=f1.size;have s2:=f2.size;have s3:=f3.size;have s4:=f4.size;have l1:=hD.lt;have l2:=Iq.Ctl.lt hc;have l3:=Tm.Tmr.lt ht;have l4:=con_lt hk _ rfl;have hfin:NewB w am ms zs (Ax (AF #[Bm (I ⟨↑w4,0,G⟩),J U 0])) (w4.alloc (.cells #[Bm (I ⟨↑w1,0,G⟩),Bm (I ⟨↑w2,0,G⟩),Bm (I ⟨↑w3,0,G⟩),↑gd,↑am.gm,J V 0,J V 0,J V 0] 60)):=by
  have g4:=f4.alloc (.cells #[Bm (I ⟨↑w1,0,G⟩),Bm (I ⟨↑w2,0,G⟩),Bm (I ⟨↑w3,0,G⟩),↑gd,↑am.gm,J V 0,J V 0,J V 0] 60);have g5:=(Ao Aj w4).alloc (.cells #[Bm (I ⟨↑w1,0,G⟩),Bm (I ⟨↑w2,0,G⟩),Bm (I ⟨↑w3,0,G⟩),↑gd,↑am.gm,J V 0,J V 0,J V 0] 60);have gg:=f2.tr (f3.tr g4);refine⟨⟨↑w4,w1.heap.size,w2.heap.size,w3.heap.size,gd,ge,am⟩,(· =w3.heap.size),rfl,rfl,⟨AI _ _ _,hc.fr (f3.tr g4) id,ht.fr g4 id,hk.fr g5 (λ_ _ e=>e),hD.fr gg id id,HM.out.fr0 (f1.tr gg), ?_, ?_,⟨by show 0<256;omega,by show 0<256;omega,⟨Int.le_refl _,Mf⟩,by show 0≤64;omega,(λz hz=>by cases hz),(λz hz=>by cases hz),⟨Int.le_refl _,Mf⟩,⟨Int.le_refl _,Mf⟩,Af rfl,Htu.out⟩⟩, ?_,f1.tr gg⟩;·rintro k rfl;refine⟨by show w3.heap.size≠w4.heap.size;omega,by show w3.heap.size≠w1.heap.size;omega,by show w3.heap.size≠w2.heap.size;omega,by show ↑w3≠gd;omega,by show ↑w3≠ge;omega,λe=>?_⟩;have:=Hown.out _ e;omega
  ·intro k hk';have:=Hown.out k hk';exact⟨by show k≠↑w4;omega,by show k≠↑w1;omega,by show k≠↑w2;omega,by show k≠gd;omega,by show k≠ge;omega⟩
  ·intro k hk';rcases hk' with(e|e|e|e|e|e)|e;·left;have e:k=↑w4:=e;omega
   ·left;have e:k=↑w1:=e;omega
   ·left;have e:k=↑w2:=e;omega
   ·left;have e:k=ge:=e;omega
   ·exact Ah e
   ·left;omega
   ·left;have e:k=gd:=e;omega
 have HF:=T hfin;clear hfin hk ht hc hD
 go_wp2
 go_ret2;exact HF.out
end Bs
namespace Gm
open Fm Nt Rm By Wk Gs
structure Mc where
 b:Bs.Sb
 l:Unit
def Mc.u(g:Mc):Mu.Us:=⟨g.b.ms,g.l⟩
def Mc.setU(g:Mc)(u:Mu.Us):Mc:=⟨{g.b with ms:=u.m},u.l⟩
def Mc.calm(g:Mc):Mc:=⟨{g.b with ms:=g.b.ms.calm},g.l⟩
def spS(s:St):Mu.Sp:=⟨s.pg,s.su,s.rt⟩
structure Rn where
 s:St
 c:Int
 a:Int
 dv:Bool
 g:Mc
def pop1(s:St):St:={s with d:=s.d.dropLast}
def pop2(s:St):St:={s with d:=s.d.dropLast.dropLast}
def push1(s:St)(v:Int):St:={s with d:=s.d++[v]}
def GE(op:Int):Bool:=([1,2,40,48,49,69]:List Int).contains op
def EH(at_:Int):Bool:=decide (at_%4=0)&&Mu.devB at_&&Bs.loadB at_
structure Ux(s:St)(op n:Int):Prop where
 uo:GE op=Ag
 pg:s.pg=Ac
 ld:op=48→EH (AW s.d)=Ag
 st:op=49→EH (AW s.d)=Ag
 rw:op=67→n≠1∧n≠2
def ldR(s:St)(cnt:Int)(g:Mc):Rn:=⟨push1 (pop1 s) (Bs.loadV g.b (AW s.d) cnt),0,0,Ag,⟨g.b.read (AW s.d),g.l⟩⟩
def stR(s:St)(cnt:Int)(g:Mc):Rn:=⟨pop2 s,0,0,Ag,⟨g.b.store (AW s.d) (top2 s.d),g.l⟩⟩
def Iu(s:St)(cnt:Int)(i:Ins)(g:Mc):Rn:=
 if i.op=48 then ldR s cnt g else
 if i.op=49 then stR s cnt g else
 ⟨{s with ha:=Ag},0,0,Ac,g⟩
def Ej(s:St)(cnt:Int)(i:Ins)(g:Mc):Rn:=
 if C8 i.op then⟨stackS s i,0,0,Ac,g⟩
 else if Fc i.op then⟨reckS s i,0,0,Ac,g⟩
 else Iu s cnt i g
structure Rz where
 s:St
 tr:Bool
 dv:Bool
 pg:List Int
 g:Mc
def St.up(s:St):St:={s with ct:=(s.ct+1)%18446744073709551616}
def doR(s:St)(i:Ins)(g:Mc):Rz:=
 let x:=Ej (s.next i) s.ct i g.calm
 ⟨x.s,Ac,x.dv,turnN x.g.b.ms 64,x.g⟩
structure Be where
 s:St
 p:Int
 on:Bool
 g:Mc
def Db(s:St)(g:Mc):St:=if Iq.nextB g.b.p g.b.m&&s.ie then s.trap (16+(Iq.nextN g.b.p g.b.m:Int)) 0 else s
def BH(s:St)(g:Mc):Be:=
 if s.right=Ac∨s.ha=Ag then⟨s,0,Ac,g⟩
 else
  let g1:Mc:=⟨g.b.tick s.ct,g.l⟩
  let s1:=Db s g1
  let r:=Mu.placeR g1.u (spS s1) s1.pc 1
  if r.c≠0 then⟨(St.up s1).trap r.c r.a,0,Ac,g1.setU r.u⟩ else⟨s1,r.p,Ag,g1.setU r.u⟩
def C3(m:Ms)(p:Int):List Int:=(Cl (64 -(p%64).toNat)).map (λk=>m.mem (p.toNat+k))
def Cf(m:Ms)(p:Int):Option (Ins×Nat):=if p<(m.n:Int)*64 then Dl (C3 m p) else G
def CQ(i:Ins)(r:Rz)(page:Int)(was:Int):Bool:=
 if endsB i.op||r.tr||r.dv||r.s.ha||r.pg.contains page then Ac else decide (r.s.pc/64=was/64)
structure Sg where
 s:St
 g:Mc
def Cg(s:St)(p:Int)(page:Int)(g:Mc):Nat→Sg
 |0=>⟨s,g⟩
 |k+1=>
  match Cf g.b.ms p with
  |none=>⟨(St.up s).trap 1 0,g⟩
  |some (i,n)=>
   let r:=doR s i g
   if CQ i r page s.pc then Cg r.s ((p+(n:Int))%4294967296) page r.g k else⟨r.s,r.g⟩
def Cx(s:St)(g:Mc):Sg:=
 if(BH s g).on then Cg (BH s g).s (BH s g).p ((BH s g).p/64) (BH s g).g 8 else⟨(BH s g).s,(BH s g).g⟩
end Gm
end Go.Proofs.YtdfegdoeebaagaaGreatDoor
