import Derived.Test.YtdfegdoeebaagaaGreatDoorX3
import Derived.Test.YtdfegdoeebaagaaGreatDoorX5
import Derived.Test.YtdfegdoeebaagaaGreatDoorChecked
open Go.Value renaming slice→Z,int→J,bool→Ap,tuple→AF,ownBlock→Cb,agg→A9,oneCell'→Ir
open Option renaming some→I,none→G
open Go.IntKind renaming i64→U,u32→V,u64→AP,wrap_u32→Gu
open Go renaming World→Aa,Value→As,Calls→At,bodyPost_ret→Bt,TypeId→AN,Ending→AY,info_parts→Cj,maxLen→BQ,wpList→Cy,Program→CF,undef→BY,bits→Bv,Oper→BM,Operand→De
open Bool renaming false→Ac,true→Ag,false_and→GX
open List renaming mem_append→Da,nil_append→DH,mem_cons→Dv,getLastD_eq_getLast?→FI,setIfInBounds_toArray→Jd
open Go.Ending renaming returned→Ax
open And renaming intro→Ay
open Nat renaming le_refl→AD,lt_of_lt_of_le→Bg,le_trans→Bf,zero_add→BW
open Or renaming inl→Af,inr→Ah
open Go.Proofs.Tryz renaming underlying39→AQ
open Int renaming eq_ofNat_of_zero_le→Eh
open Go.Result renaming andThen→ES
open Go.Sem renaming run_bind→GT
set_option linter.all false
set_option maxHeartbeats 40000000
set_option maxRecDepth 1000000
open Go Go.RowKit
namespace Go.Proofs.YtdfegdoeebaagaaGreatDoor
namespace Sv
open Gs
abbrev stc(s:St)(dv rv:As):AO:=#[J V s.pc,dv,rv,J V s.fl,Ap s.su,Ap s.pg,Ap s.ie,J V s.rt,J V s.ve,J V s.ep,J V s.ca,J V s.ad,Ap s.es,Ap s.ei,J AP s.ct,Ap s.ha]
def Rw(w:Aa)(base:Nat)(v:As)(zs:List Int):Prop:=w.ownsRow base 22 1 v zs.length (zs.map (J V))
structure StV(w:Aa)(base:Nat)(s:St)(dv rv:As):Prop where
 d:Rw w base dv s.d
 r:Rw w base rv s.r
 ok:s.Ok
section
variable {w w':Aa} {base b2:Nat} {v dv rv:As} {zs:List Int} {s:St} {S:AE}
theorem Rw.fr(h:Rw w base v zs)(f:Fr S w w')(hn: ∀k,v.ownBlock=I k→ ¬S k):Rw w' base v zs:=AR h f hn
theorem Rw.low(h:Rw w base v zs)(hb:b2≤base):Rw w b2 v zs:=Nf
theorem Rw.form(h:Rw w base v zs): ∃A c,v=Z A zs.length c:=Tv
variable{n:Nat}
theorem Rw.reads{A:Aw}{c:Nat}(h:Rw w base (Z A n c) zs):n=zs.length∧Reads w ↑w 1 A zs.length (zs.map (J V))∧(A=G→zs.length=0∧c=0):=by
 have hn:n=zs.length:=by
  obtain⟨A',c',e⟩:=h.form;injection e
 subst hn;refine⟨rfl,Reads.of_own h,λe=>?_⟩;exact Tw
theorem Rw.nil(w:Aa)(base:Nat):Rw w base (Z G 0 0) []:=⟨rfl,Af ⟨rfl,rfl⟩⟩
theorem Rw.none_{A:Aw}{c:Nat}(h:Rw w base (Z A n c) zs):(A=G∧n=0∧c=0∧zs=[])∨ ∃g,A=I ⟨g,0,G⟩:=by
 rcases h.2 with⟨e2,h0⟩|⟨g',cap,cur,e2,_⟩;·injection e2 with e1 h1 h2;exact Af ⟨e1,h1,h2,List.eq_nil_of_length_eq_zero h0⟩
 ·injection e2 with e1;exact Ah ⟨g',e1⟩
theorem Rw.lt(h:Rw w base v zs): ∀k,v.ownBlock=I k→k<w.heap.size:=own_lt h
theorem Rw.ge(h:Rw w base v zs): ∀k,v.ownBlock=I k→base≤k:=Cn h
theorem StV.fr(h:StV w base s dv rv)(f:Fr S w w')(hd: ∀k,dv.ownBlock=I k→ ¬S k)(hr: ∀k,rv.ownBlock=I k→ ¬S k):StV w' base s dv rv:=⟨h.d.fr f hd,h.r.fr f hr,h.ok⟩
theorem StV.fr0(h:StV w base s dv rv)(f:Fr Aj w w'):StV w' base s dv rv:=h.fr f (λ_ _ e=>e) (λ_ _ e=>e)
theorem StV.low(h:StV w base s dv rv)(hb:b2≤base):StV w b2 s dv rv:=⟨h.d.low hb,h.r.low hb,h.ok⟩
end
theorem info32:(Tryz.prog.info? 22).map (λi=>(i.zero,i.size,i.bytes))=I (I (J V 0),1,4):=AL
def Gv(w:Aa)(zs:List Int)(e:AY)(w':Aa):Prop:= ∃A c,e=Ax (Z A zs.length c)∧Rw w' ↑w (Z A zs.length c) zs∧Fr Aj w w'
theorem Tx(w:Aa)(base:Nat)(v:As)(zs:List Int)(h:Rw w base v zs)(hn:zs.length≤100000):At Tryz.prog 38 #[v] w (Gv w zs):=by
 obtain⟨i0,hi0,hz0,hz1,hz2⟩:=Cj info32;obtain⟨A,c,rfl⟩:=h.form;obtain⟨_,hr,hne⟩:=h.reads
 cases A with
 |none=>
  obtain⟨h0,rfl⟩:=hne rfl;have hnil:zs=[]:=List.eq_nil_of_length_eq_zero h0;subst hnil;have hq:=λw=>Lib.run_eql_slice_nil (P:=Tryz.prog) w 36 22 G 0 0 0 0 Tryz.underlying36;clear h hr hne h0;go_in
  go_wp2
  go_ret;exact⟨_,_,rfl,Rw.nil _ _,Ao _ _⟩
 |some ad=>
  generalize hl:zs.length=n at*;have hq:=λw=>Lib.run_eql_slice_nil (P:=Tryz.prog) w 36 22 (I ad) n c 0 0 Tryz.underlying36;have ho:(w.alloc (.cells #[] 22)).ownsRow ↑w 22 1 (Z (I ⟨↑w,0,G⟩) 0 0) 0 []:=⟨rfl,Ah ⟨↑w,0,#[],rfl,AD _,AI _ _ _,AD _,Jc,rfl,rfl⟩⟩;have hr1:=hr.alloc (AD _) (.cells #[] 22);have HL:=T hl;clear hr h hne hl;go_in;go_wp2_with
   (at_builtin
    refine CU _ rfl (.tmp 5) (.tmp 6) _ rfl w.heap.size 22 i0 _ 1 4 Tryz.underlying36 hi0 hz0 hz1 hz2 rfl O (Z (I ⟨w.heap.size,0,G⟩) 0 0) 0 [] rfl ho w.heap.size (I ad) n c (zs.map (J V)) rfl hr1 GW Cc O AC ?_
    intro v1 w1 hown1 hg1 hat1)
  go_ret;rw[BW,DH] at hown1;have hv1:Rw w1 ↑w v1 zs:=by unfold Rw;rw[HL.out];exact hown1
  obtain⟨A1,c1,rfl⟩:=hv1.form;refine⟨A1,c1,rfl,hv1,((Ao _ _).alloc _).grown hg1 (λk hk=>?_)⟩;exact Ty
def J8(w:Aa)(s:St)(e:AY)(w':Aa):Prop:=
 ∃A c B d,e=Ax (A9 (stc s (Z A s.d.length c) (Z B s.r.length d)))∧StV w' ↑w s (Z A s.d.length c) (Z B s.r.length d)∧(∀k,(Z A s.d.length c).ownBlock=I k→(Z B s.r.length d).ownBlock≠I k)∧Fr Aj w w'
variable{g:Nat}{t:AN}
theorem Ng{w:Aa}{a0 a1 a2 a3 a4 a5 a6 a7 a8 a9 a10 a11 a12 a13 a14 a15:As}(h:Blk w g t #[a0,a1,a2,a3,a4,a5,a6,a7,a8,a9,a10,a11,a12,a13,a14,a15]):w.cell? ⟨g,0,G⟩=I a0∧w.cell? ⟨g,1,G⟩=I a1∧w.cell? ⟨g,2,G⟩=I a2∧w.cell? ⟨g,3,G⟩=I a3∧w.cell? ⟨g,4,G⟩=I a4∧w.cell? ⟨g,5,G⟩=I a5∧w.cell? ⟨g,6,G⟩=I a6∧w.cell? ⟨g,7,G⟩=I a7∧ w.cell? ⟨g,8,G⟩=I a8∧w.cell? ⟨g,9,G⟩=I a9∧w.cell? ⟨g,10,G⟩=I a10∧w.cell? ⟨g,11,G⟩=I a11∧w.cell? ⟨g,12,G⟩=I a12∧w.cell? ⟨g,13,G⟩=I a13∧w.cell? ⟨g,14,G⟩=I a14∧w.cell? ⟨g,15,G⟩=I a15:=
 ⟨h.cell 0,h.cell 1,h.cell 2,h.cell 3,h.cell 4,h.cell 5,h.cell 6,h.cell 7,h.cell 8,h.cell 9,h.cell 10,h.cell 11,h.cell 12,h.cell 13,h.cell 14,h.cell 15⟩
variable{cs cs':AO}
theorem Tz{w:Aa}(h:Blk w g t cs)(hs:cs'.size=cs.size):Blk (w.setCells g 0 cs'.toList) g t cs':=by
 have h1:=h.setCells cs'.toList 0;have e:Dp cs 0 cs'.toList=cs':=by
  apply Array.ext';have h2:=OW cs'.toList cs cs'.size AC O;have h3:(Dp cs 0 cs'.toList).toList.length=cs'.size:=by rw[Array.length_toList,Nd];omega
  exact T0
 rw[e] at h1;exact h1
theorem AJ:(Tryz.prog.info? 39).map (·.size)=I 16:=AL
theorem OX{w:Aa}(h:Blk w g t cs):w.rangeAt g 0 cs.toList:=λj v hv=>by
 rw[BW,h.cell j];simpa using hv
theorem kO{w:Aa}(h:Blk w g t cs):w.there g 0 cs.size:=λj hj=>by
 rw[BW];exact⟨by rw[h.cell j];simp[hj],h.frozen j⟩
variable{P:CF}{ty:AN}{d:TypeDesc}
theorem ldB{w:Aa}(h:Blk w g ty cs)(hu:P.underlying ty=I d)(hd:d.isRow=Ag)(hi:(P.info? ty).map (·.size)=I cs.size):(Instr.loadAt ty ↑g).run P w=.ok (A9 cs) w:=by
 have:=run_loadAt_mid (P:=P) w g 0 ty cs.toList d (OX h) hu hd (by rw[hi];simp);simpa using this
variable{n:Nat}{ops:Array BM}{rest:List BM}{a:Act}{Q:Exit→Act→Aa→Prop}{dst:Option Tmp}{t2:AN}{pos:String}{af:Array Edge}{x:De}
theorem wpL_ld{w:Aa}(h:Blk w g ty cs)(hu:P.underlying ty=I d)(hi:(P.info? ty).map (·.size)=I n)(hd:d.isRow=Ag)(hn:cs.size=n)(hx:a.eval x=↑g)(hk:Cy P ops Q rest (a.put dst (A9 cs)) w):Cy P ops Q (⟨dst,.load ty x,t2,pos,af,G⟩::rest) a w:=by
 refine wpList_load_mid rfl ty x rfl g 0 hx cs.toList d (OX h) hu hd Nh ?_;simpa using hk
theorem OY{w:Aa}(h:Blk w g ty cs)(hi:(P.info? ty).map (·.size)=I n)(hs:cs'.size=cs.size)(hn:cs'.size=n)(h1:cs'.all (·.oneCell')=Ag){y:De}(hx:a.eval x=↑g)(hy:a.eval y=A9 cs')(hk: ∀W,Blk W g ty cs'→Fr (· =g) w W→Cy P ops Q rest (a.put dst BY) W):Cy P ops Q (⟨dst,.store ty x y,t2,pos,af,G⟩::rest) a w:=
 wpList_store_mid rfl ty x y rfl g 0 cs' hx hy (by rw[hs];exact kO h) (by rw[hi,hn]) h1 (hk _ (Tz h hs) (Fr.setCells _ _ (Ao _ _) (Af rfl)))
theorem wpL_lq{w:Aa}(h:Blk w g ty cs)(hu:P.underlying ty=I d)(hi:(P.info? ty).map (·.size)=I n)(hk:Cy P ops Q rest (a.put dst (A9 cs)) w)(hd:d.isRow=Ag:=by with_unfolding_all rfl)(hn:cs.size=n:=by with_unfolding_all rfl)(hx:a.eval x=↑g:=by with_unfolding_all rfl):Cy P ops Q (⟨dst,.load ty x,t2,pos,af,G⟩::rest) a w:=wpL_ld h hu hi hd hn hx hk
theorem BL{w:Aa}(h:Blk w g ty cs)(hi:(P.info? ty).map (·.size)=I n)(h1:cs'.all (·.oneCell')=Ag){y:De}(hk: ∀W,Blk W g ty cs'→Fr (· =g) w W→Cy P ops Q rest (a.put dst BY) W)(hs:cs'.size=cs.size:=by with_unfolding_all rfl)(hn:cs'.size=n:=by with_unfolding_all rfl)(hx:a.eval x=↑g:=by with_unfolding_all rfl)(hy:a.eval y=A9 cs':=by with_unfolding_all rfl):Cy P ops Q (⟨dst,.store ty x y,t2,pos,af,G⟩::rest) a w:=OY h hi hs hn h1 hx hy hk
theorem CV{fn:Func}{q:Tmp}{ty':AN}(h:fn.results=#[.cell q ty'])(tmps:AO)(w:Aa)(g':Nat)(t':AN)(cs':AO)(d':TypeDesc)(hq:tmps.getD q BY=↑g')(hg':Blk w g' t' cs')(hu':P.underlying ty'=I d')(hd':(match d' with|.struct _|.array _ _=>Ag|_=>Ac)=Ag)(hi':(P.info? ty').map (·.size)=I cs'.size):(results fn tmps).run P w=.ok (A9 cs') w:=by
 have hq':=Ni;simp[results,h,hq',asAddr,run_loadVar_row w g' t' ty' cs' (0,0) d' hg' hu' hd' hi',GT,ES]
theorem Ce(s:St)(dv rv:As)(hd:dv.oneCell'=Ag)(hr:rv.oneCell'=Ag):(stc s dv rv).all (·.oneCell')=Ag:=by
 simp[stc,Ir,hd,hr] at*;exact⟨hd,hr⟩
abbrev z16:AO:=#[J V 0,Z G 0 0,Z G 0 0,J V 0,Ap Ac,Ap Ac,Ap Ac,J V 0,J V 0,J V 0,J V 0,J V 0,Ap Ac,Ap Ac,J AP 0,Ap Ac]
theorem Ds(w:Aa)(cs ds:AO)(t t2:AN):Blk ((w.alloc (.cells cs t)).alloc (.cells ds t2)) ↑w t cs∧Blk ((w.alloc (.cells cs t)).alloc (.cells ds t2)) (↑w+1) t2 ds∧Fr Aj w ((w.alloc (.cells cs t)).alloc (.cells ds t2)):=by
 refine⟨(AI w t cs).alloc _, ?_,((Ao _ w).alloc _).alloc _⟩;have:=AI (w.alloc (.cells cs t)) t2 ds;exact T1
theorem Gr(w:Aa)(base:Nat)(s:St)(dv rv:As)(h:StV w base s dv rv)(hd:s.d.length≤100000)(hr:s.r.length≤100000):At Tryz.prog 26 #[A9 (stc s dv rv)] w (J8 w s):=by
 obtain⟨b1,b2,f0⟩:=Ds w (stc s dv rv) z16 39 39;have H1:=T (λW (f:Fr Aj w W)=>Tx W base dv s.d ((h.fr0 f).d) hd);have H2:=T (λW (f:Fr Aj w W)=>Tx W base rv s.r ((h.fr0 f).r) hr);have Hok:=T h.ok;have B1:=T b1;have B2:=T b2;have F0:=T f0;clear h b1 b2 f0;go_in;go_wp2_with fail
 go_region_with (first
  |((refine(H1.out _ (by(repeat(first|exact Ao _ _|with_reducible assumption|refine Fr.drewN ?_ _|refine Fr.drew ?_|refine Fr.alloc ?_ _|(refine Fr.setCell (p:=⟨_,_,_⟩) ?_ ?_ _;rotate_left;first|exact Af rfl|(right;simp;done)|(right;simp;omega)))))).mono ?_);rintro e w1 ⟨A1,c1,rfl,hd1,f1⟩;have k2:=(B1.out.drew.fr f1 id).cell 2;have F1:=T (F0.out.drew.tr f1);have HD:=T hd1;have B11:=T (B1.out.drew.fr f1 id);have B21:=T (B2.out.drew.fr f1 id);clear f1 hd1)
  |((refine(H2.out _ F1.out).mono ?_);rintro e w2 ⟨A2,c2,rfl,hr1,f2⟩;have B12:=T (B11.out.fr f2 id);have B22:=T (B21.out.fr f2 id);have F2:=T (F1.out.tr f2);have HD2:=T (HD.out.fr f2 (λ_ _ e=>e));have HR:=T hr1;have y1:=B12.out.cell 1;have y2:=B12.out.cell 2;have z1:=B12.out.frozen 1;have z2:=B12.out.frozen 2;have hgs:=T HD.out.lt;clear f2 hr1 k2))
 all_goals
  have b3:Blk ((w2.setCell ⟨↑w,1,G⟩ (Z A1 s.d.length c1)).setCell ⟨↑w,2,G⟩ (Z A2 s.r.length c2)) ↑w 39 (stc s (Z A1 s.d.length c1) (Z A2 s.r.length c2)):=(B12.out.set_ 1 _).set_ 2 _;have b4:Blk ((w2.setCell ⟨↑w,1,G⟩ (Z A1 s.d.length c1)).setCell ⟨↑w,2,G⟩ (Z A2 s.r.length c2)) (↑w+1) 39 z16:=(B22.out.far (p:=⟨↑w,1,G⟩) AC _).far (p:=⟨↑w,2,G⟩) AC _;have f4:Fr (λq=>q=w.heap.size) w2 ((w2.setCell ⟨↑w,1,G⟩ (Z A1 s.d.length c1)).setCell ⟨↑w,2,G⟩ (Z A2 s.r.length c2)):=(Br w2 ↑w 1 _).setCell (p:=⟨↑w,2,G⟩) (.inl rfl) _;have F4:=T f4;have B4:=T b4;clear f4 y1 y2 z1 z2;obtain⟨W4,hW4⟩:=A8 ((w2.setCell ⟨↑w,1,G⟩ (Z A1 s.d.length c1)).setCell ⟨↑w,2,G⟩ (Z A2 s.r.length c2));rw[hW4] at b3 b4 F4 B4⊢;clear hW4;have o1:=Ce s (Z A1 s.d.length c1) (Z A2 s.r.length c2) rfl rfl;go_wp2_with ((with_reducible refine wpL_lq b3 AQ AJ ?_);(with_reducible refine BL (cs':=stc s (Z A1 s.d.length c1) (Z A2 s.r.length c2)) b4 AJ o1 ?_);intro W5 b5 f5;have B5:=T b5;have F5:=T f5;clear b5 f5 b3 b4);refine Bt (CV rfl _ _ (w.heap.size+1) 39 _ _ rfl B5.out AQ rfl AJ) rfl ?_;have n1:=HD.out.ge;have n2:=HR.out.ge;have n3:=HD.out.lt;have s1:=F0.out.size;have s2:w.heap.size+1<w1.heap.size:=B21.out.lt;have s0:=F1.out.size;refine⟨A1,c1,A2,c2,rfl,⟨?_, ?_,Hok.out⟩,λk hk hk2=>?_, ?_⟩
  ·refine((HD2.out.fr F4.out (λk hk e=>?_)).fr F5.out (λk hk e=>?_)).low AA;·have:=n1 k hk;simp at this;omega
   ·have:=n1 k hk;simp at this;omega
  ·refine((HR.out.fr F4.out (λk hk e=>?_)).fr F5.out (λk hk e=>?_)).low O;·have:=n2 k hk;omega
   ·have:=n2 k hk;omega
  ·have:=n3 k hk;have:=n2 k hk2;omega
  ·exact(F2.out.trans F4.out (λi hi e=>O)).trans F5.out (λi hi e=>O)
end Sv
namespace Sv
open Gs
theorem kP(w:Aa)(b:Bool):At Tryz.prog 209 #[Ap b] w λe w'=>e=Ax (J V (nb b))∧w=w':=T2
theorem new_any(w:Aa):At Tryz.prog 46 #[] w λe w'=>e=Ax (A9 (stc St.new (Z G 0 0) (Z G 0 0)))∧Fr Aj w w':=by
 go_in;go_wp2_with fail;refine Bt (CV rfl _ _ w.heap.size 39 _ _ rfl (AI _ _ _) AQ rfl AJ) rfl ⟨rfl,(Ao _ w).alloc _⟩
theorem get_any(w:Aa)(s:St)(dv rv:As)(reg:Int)(h0:0≤reg)(ct0:0≤s.ct):At Tryz.prog 162 #[A9 (stc s dv rv),J U reg] w λe w'=>e=Ax (AF #[J V (getV s reg),Ap (getB reg)])∧Fr Aj w w':=by
 have hw:IntKind.u32.wrap s.ct=s.ct%4294967296:=Gu _;have f1:=(Ao Aj w).alloc (.cells (stc s dv rv) 39);have F1:=T f1;clear f1;by_cases hr:reg≤10
 ·have hc:reg=0∨reg=1∨reg=2∨reg=3∨reg=4∨reg=5∨reg=6∨reg=7∨reg=8∨reg=9∨reg=10:=O;rcases hc with rfl|rfl|rfl|rfl|rfl|rfl|rfl|rfl|rfl|rfl|rfl
  all_goals
   simp only[getV,getB,Int.reduceEq,if_true,if_false,Int.reduceLE,decide_true,Bool.and_self];clear hr h0
   try generalize s.ct%4294967296=cw at*
   go_in;go_wp2_with ((refine(kP _ _).mono ?_;rintro e w' ⟨rfl,rfl⟩));go_ret2;exact⟨rfl,F1.out⟩
 ·have e1:getV s reg=0:=by
   unfold getV;rw[Ae O,Ae O,Ae O,Ae O,Ae O,Ae O,Ae O,Ae O,Ae O,Ae O,Ae O]
  have e2:getB reg=Ac:=by simp[getB];omega
  rw[e1,e2];have n0:(reg==0)=Ac:=AA;have n1:(reg==1)=Ac:=AA;have n2:(reg==2)=Ac:=AA;have n3:(reg==3)=Ac:=AA;have n4:(reg==4)=Ac:=AA;have n5:(reg==5)=Ac:=AA;have n6:(reg==6)=Ac:=AA;have n7:(reg==7)=Ac:=AA;have n8:(reg==8)=Ac:=AA;have n9:(reg==9)=Ac:=AA;have n10:(reg==10)=Ac:=AA;clear e1 e2 hr h0 hw;go_in
  go_wp2
  go_ret2;exact⟨rfl,F1.out⟩
end Sv
namespace Sv
open Gs
theorem right_any(w:Aa)(s:St)(A B:Aw)(c d:Nat):At Tryz.prog 55 #[A9 (stc s (Z A s.d.length c) (Z B s.r.length d))] w λe w'=>e=Ax (Ap s.right)∧Fr Aj w w':=by
 have F1:=T ((Ao Aj w).alloc (.cells (stc s (Z A s.d.length c) (Z B s.r.length d)) 39));have e:s.right=(decide (s.d.length≤16)&&decide (s.r.length≤16)&&decide (s.fl≤15)):=rfl;rw[e];clear e;by_cases h1:s.d.length≤16
 ·by_cases h2:s.r.length≤16
  ·by_cases h3:s.fl≤15
   ·have e1:=OZ;have e2:=T3;have e3:decide (s.fl≤15)=Ag:=by simp[h3]
    simp only[h1,h2,h3,decide_true,Bool.and_self];exact T4
   ·have e1:=OZ;have e2:=T3;have e3:decide (s.fl≤15)=Ac:=by simpa using h3
    simp only[h1,h2,h3,decide_true,decide_false,Bool.and_self,Bool.and_false];exact T4
  ·have e1:=OZ;have e2:decide ((s.r.length:Int)≤16)=Ac:=AA;simp only[h1,h2,decide_true,decide_false,Bool.and_false,GX];clear h1 h2;go_in;exact Lz
 ·have e1:decide ((s.d.length:Int)≤16)=Ac:=AA;simp only[h1,decide_false,GX];clear h1;go_in;exact Lz
theorem _root_.Go.Proofs.YtdfegdoeebaagaaGreatDoor.Fr.at_{g:Nat}{a w:Aa}(h:Fr (· =g) a w)(i:Nat)(v:As):Fr (· =g) a (w.setCell ⟨g,i,G⟩ v):=h.setCell (p:=⟨g,i,G⟩) (Af rfl) v
theorem ended{w w1 w2 W4 W5:Aa}{g1 g2:Nat}{s t:St}{A B:Aw}{c d:Nat}(f0:Fr Aj w w1)(h1:↑w≤g1)(l1:g1<↑w1)(h2:↑w≤g2)(l2:g2<↑w1)(f1:Fr Aj w1 w2)(hS:StV w2 ↑w1 s (Z A s.d.length c) (Z B s.r.length d))(hne: ∀k,(Z A s.d.length c).ownBlock=I k→(Z B s.r.length d).ownBlock≠I k)(f2:Fr (· =g1) w2 W4)(f3:Fr (· =g2) W4 W5)(ht:t.Ok)(hd:t.d=s.d)(hr:t.r=s.r):J8 w t (Ax (A9 (stc t (Z A s.d.length c) (Z B s.r.length d)))) W5:=by
 have n1:=hS.d.ge;have n2:=hS.r.ge;have s1:=f0.size;have key:StV W5 ↑w s (Z A s.d.length c) (Z B s.r.length d):=by
  refine((hS.fr f2 (λk hk e=>?_) (λk hk e=>?_)).fr f3 (λk hk e=>?_) (λk hk e=>?_)).low s1;·have:=n1 k hk;omega
  ·have:=n2 k hk;omega
  ·have:=n1 k hk;omega
  ·have:=n2 k hk;omega
 refine⟨A,c,B,d,by rw[hd,hr], ?_, ?_,((f0.tr f1).trans f2 (λi hi e=>O)).trans f3 (λi hi e=>O)⟩;·rw[hd,hr];exact⟨by rw[hd];exact key.d,by rw[hr];exact key.r,ht⟩
 ·rw[hd,hr];exact hne
theorem kQ(s:St)(D R:As)(cau ad:Int):(((((((((stc s D R).setIfInBounds 9 (J V s.pc)).setIfInBounds 10 (J V cau)).setIfInBounds 11 (J V ad)).setIfInBounds 12 (Ap s.su)).setIfInBounds 13 (Ap s.ie)).setIfInBounds 4 (Ap Ag)).setIfInBounds 6 (Ap Ac)).setIfInBounds 0 (J V s.ve))=stc (s.trap cau ad) D R:=by
 simp only[stc,Jd,List.set_cons_zero,List.set_cons_succ,St.trap]
theorem trap_blk{W:Aa}{g:Nat}{t:AN}{s:St}{D R:As}{cau ad:Int}(h:Blk W g t (stc s D R)):Blk ((((((((W.setCell ⟨g,9,G⟩ (J V s.pc)).setCell ⟨g,10,G⟩ (J V cau)).setCell ⟨g,11,G⟩ (J V ad)).setCell ⟨g,12,G⟩ (Ap s.su)).setCell ⟨g,13,G⟩ (Ap s.ie)).setCell ⟨g,4,G⟩ (Ap Ag)).setCell ⟨g,6,G⟩ (Ap Ac)).setCell ⟨g,0,G⟩ (J V s.ve)) g t (stc (s.trap cau ad) D R):=by
 have h1:=h.set_ 9 (J V s.pc);have h2:=h1.set_ 10 (J V cau);have h3:=h2.set_ 11 (J V ad);have h4:=h3.set_ 12 (Ap s.su);have h5:=h4.set_ 13 (Ap s.ie);have h6:=h5.set_ 4 (Ap Ag);have h7:=h6.set_ 6 (Ap Ac);have h8:=h7.set_ 0 (J V s.ve);rw[kQ] at h8;exact h8
theorem T7(w:Aa)(base:Nat)(s:St)(A B:Aw)(c d:Nat)(h:StV w base s (Z A s.d.length c) (Z B s.r.length d))(hd:s.d.length≤100000)(hr:s.r.length≤100000)(cau ad:Int)(c0:0≤cau)(c1:cau≤4294967295)(a0:0≤ad)(a1:ad≤4294967295):At Tryz.prog 93 #[A9 (stc s (Z A s.d.length c) (Z B s.r.length d)),J U cau,J V ad] w (J8 w (s.trap cau ad)):=by
 obtain⟨b1,b2,f0⟩:=Ds w (stc s (Z A s.d.length c) (Z B s.r.length d)) z16 39 39;have Hc:=T (Gr _ base s _ _ (h.fr0 f0) hd hr);have hwc:IntKind.u32.wrap cau=cau:=ET;have Hok:=T h.ok;have F0:=T f0;have B2:=T b2;clear h f0 b2;go_in;go_wp2_with ((with_reducible refine wpL_lq b1 AQ AJ ?_));refine Az Hc ?_;rintro e w2 ⟨A1,c1',B1',d1',rfl,hS,hne,f1⟩;have b12:=b1.fr f1 id;have B22:=T (B2.out.fr f1 id);have HS:=T hS;have F1:=T f1;have HN:=T hne;have o1:=Ce s (Z A1 s.d.length c1') (Z B1' s.r.length d1') rfl rfl;clear hS f1 b1 hne Hc;go_upto_region 2 with(((with_reducible refine BL (cs':=stc s (Z A1 s.d.length c1') (Z B1' s.r.length d1')) b12 AJ o1 ?_);intro W3 b3 f3;have B3:=T b3;have F3:=T f3;obtain⟨k0,k1,k2,k3,k4,k5,k6,k7,k8,k9,k10,k11,k12,k13,k14,k15⟩:=Ng b3;have z0:=b3.frozen 0;have z4:=b3.frozen 4;have z6:=b3.frozen 6;have z9:=b3.frozen 9;have z10:=b3.frozen 10;have z11:=b3.frozen 11;have z12:=b3.frozen 12;have z13:=b3.frozen 13;have B23:=T (B22.out.fr f3 (λe=>O));clear b3 f3 b12 o1 k1 k2 k3 k5 k7 k15));go_upto_region 4 with(fail);have o3:=Ce (s.trap cau ad) (Z A1 s.d.length c1') (Z B1' s.r.length d1') rfl rfl;have HT:Hid ((s.trap cau ad).Ok):=T ⟨Hok.out.ve,Hok.out.fl,Hok.out.rt,Hok.out.ve,Hok.out.pc,⟨c0,c1⟩,⟨a0,a1⟩,Hok.out.ct,Hok.out.d,Hok.out.r⟩;have b4:Blk ((((((((W3.setCell ⟨↑w,9,G⟩ (J V s.pc)).setCell ⟨↑w,10,G⟩ (J .u32 cau)).setCell ⟨↑w,11,G⟩ (J .u32 ad)).setCell ⟨↑w,12,G⟩ (Ap s.su)).setCell ⟨↑w,13,G⟩ (Ap s.ie)).setCell ⟨↑w,4,G⟩ (.bool Ag)).setCell ⟨↑w,6,G⟩ (.bool Ac)).setCell ⟨↑w,0,G⟩ (J V s.ve)) ↑w 39 (stc (s.trap cau ad) (Z A1 s.d.length c1') (Z B1' s.r.length d1')):=trap_blk B3.out;have f4:Fr (· =w.heap.size) W3 ((((((((W3.setCell ⟨↑w,9,G⟩ (J V s.pc)).setCell ⟨↑w,10,G⟩ (J .u32 cau)).setCell ⟨↑w,11,G⟩ (J .u32 ad)).setCell ⟨↑w,12,G⟩ (Ap s.su)).setCell ⟨↑w,13,G⟩ (Ap s.ie)).setCell ⟨↑w,4,G⟩ (.bool Ag)).setCell ⟨↑w,6,G⟩ (.bool Ac)).setCell ⟨↑w,0,G⟩ (J V s.ve)):=(((((((((Ao _ _).at_ 9 _).at_ 10 _).at_ 11 _).at_ 12 _).at_ 13 _).at_ 4 _).at_ 6 _).at_ 0 _);have b5:=B23.out.fr f4 (λe=>O);have F4:=T f4;clear f4
 trace "ready"
 go_wp2_with ((with_reducible refine wpL_lq b4 AQ AJ ?_);(with_reducible refine BL (cs':=stc (s.trap cau ad) (Z A1 s.d.length c1') (Z B1' s.r.length d1')) b5 AJ o3 ?_);intro W5 b6 f5;have B5:=T b6;have F5:=T f5;clear b6 f5 b4 b5);refine Bt (CV rfl _ _ (w.heap.size+1) 39 _ _ rfl B5.out AQ rfl AJ) rfl ?_;refine ended (g1:=w.heap.size) (g2:=w.heap.size+1) F0.out (AD _) AA O AC F1.out HS.out HN.out (F3.out.tr F4.out) F5.out HT.out rfl rfl
end Sv
namespace Sv
open Gs
theorem P9{P:CF}{fn:Func}{p q:Tmp}{ty':AN}(h:fn.results=#[.cell q ty',.tmp p])(tmps:AO)(w:Aa)(g':Nat)(t':AN)(cs':AO)(d':TypeDesc)(v:As)(hp:tmps.getD p BY=v)(hq:tmps.getD q BY=↑g')(hg':Blk w g' t' cs')(hu':P.underlying ty'=I d')(hd':(match d' with|.struct _|.array _ _=>Ag|_=>Ac)=Ag)(hi':(P.info? ty').map (·.size)=I cs'.size):(results fn tmps).run P w=.ok (AF #[A9 cs',v]) w:=Ns
def Uu(w:Aa)(s:St)(b:Bool)(e:AY)(w':Aa):Prop:=
 ∃A c B d,e=Ax (AF #[A9 (stc s (Z A s.d.length c) (Z B s.r.length d)),Ap b])∧StV w' ↑w s (Z A s.d.length c) (Z B s.r.length d)∧(∀k,(Z A s.d.length c).ownBlock=I k→(Z B s.r.length d).ownBlock≠I k)∧Fr Aj w w'
theorem ended2{w w1 w2 W4 W5:Aa}{g1 g2:Nat}{s t:St}{A B:Aw}{c d:Nat}(b:Bool)(f0:Fr Aj w w1)(h1:↑w≤g1)(l1:g1<↑w1)(h2:↑w≤g2)(l2:g2<↑w1)(f1:Fr Aj w1 w2)(hS:StV w2 ↑w1 s (Z A s.d.length c) (Z B s.r.length d))(hne: ∀k,(Z A s.d.length c).ownBlock=I k→(Z B s.r.length d).ownBlock≠I k)(f2:Fr (· =g1) w2 W4)(f3:Fr (· =g2) W4 W5)(ht:t.Ok)(hd:t.d=s.d)(hr:t.r=s.r):Uu w t b (Ax (AF #[A9 (stc t (Z A s.d.length c) (Z B s.r.length d)),Ap b])) W5:=by
 obtain⟨A',c',B',d',e,h3,h4,h5⟩:=ended f0 h1 l1 h2 l2 f1 hS hne f2 f3 ht hd hr;have e:Value.agg (stc t (Z A s.d.length c) (Z B s.r.length d))=Value.agg (stc t (Z A' t.d.length c') (Z B' t.r.length d')):=by injection e
 exact⟨A',c',B',d',by rw[e],h3,h4,h5⟩
theorem kU(v:Int)(h0:0≤v)(h1:v≤4294967295):Bv .andNot V v 63=v/64*64:=by
 obtain⟨a,rfl⟩:=Eh h0;have ha:a<4294967296:=O;have h:=u32_andNot_nat a 63 ha O;have e:((63:Nat):Int)=63:=rfl;rw[e] at h;rw[h];have k:a&&&(4294967295 -63)=a/64*64:=by
  apply Nat.eq_of_testBit_eq;intro i;rw[show(4294967295 -63:Nat)=(2^26 -1)<<<6 by rfl,show a/64*64=(a>>>6)<<<6 by rw[Nat.shiftLeft_eq,Nat.shiftRight_eq_div_pow],Nat.testBit_and,Nat.testBit_shiftLeft,Nat.testBit_shiftLeft,Nat.testBit_two_pow_sub_one,Nat.testBit_shiftRight];by_cases q:6≤i
  ·have q2:6+(i -6)=i:=O;rw[q2];by_cases q3:i -6<26;·simp[q,q3]
   ·have:a.testBit i=Ac:=Nat.testBit_lt_two_pow (Bg ha (by rw[show(4294967296:Nat)=2^32 by rfl];exact Nat.pow_le_pow_right (by decide) (by omega)));simp[this]
  ·simp[q]
 omega
theorem and_15u(v:Int)(h0:0≤v)(h1:v≤4294967295):Bv .and V v 15=v%16:=by
 obtain⟨a,rfl⟩:=Eh h0;have:=u32_and_nat a 15 O O;have e:((15:Nat):Int)=15:=rfl;rw[e] at this;rw[this,show(15:Nat)=2^4 -1 by rfl,Nat.and_two_pow_sub_one_eq_mod];omega
theorem set_any(w:Aa)(base:Nat)(s:St)(A B:Aw)(c d:Nat)(h:StV w base s (Z A s.d.length c) (Z B s.r.length d))(hd:s.d.length≤100000)(hr:s.r.length≤100000)(reg v:Int)(v0:0≤v)(v1:v≤4294967295):At Tryz.prog 163 #[A9 (stc s (Z A s.d.length c) (Z B s.r.length d)),J U reg,J V v] w (Uu w (setS s reg v) (setB reg)):=by
 have hc:(reg=0∨reg=1∨reg=2∨reg=3∨reg=4∨reg=5∨reg=6∨reg=7∨reg=8∨reg=10)∨setB reg=Ac∧(reg<0∨10<reg∨reg=9):=by
  simp[setB];omega
 obtain⟨b1,b2,f0⟩:=Ds w (stc s (Z A s.d.length c) (Z B s.r.length d)) z16 39 39;have Hc:=T (Gr _ base s _ _ (h.fr0 f0) hd hr);have HT:Hid ((setS s reg v).Ok∧(setS s reg v).d=s.d∧(setS s reg v).r=s.r):=T (by
  obtain⟨h1,h2,h3,h4,h5,h6,h7,h8,h9,h10⟩:=h.ok;rcases hc with(rfl|rfl|rfl|rfl|rfl|rfl|rfl|rfl|rfl|rfl)|hc
  iterate 10 exact⟨⟨by first|exact h1|omega,by first|exact h2|(show 0≤v%16∧v%16≤_;omega),by first|exact h3|(show 0≤v/64*64∧v/64*64≤_;omega),by first|exact h4|exact⟨v0,v1⟩,by first|exact h5|exact⟨v0,v1⟩,by first|exact h6|exact⟨v0,v1⟩,by first|exact h7|exact⟨v0,v1⟩,h8,h9,h10⟩,rfl,rfl⟩
  unfold setS
  repeat rw[Ae O]
  exact⟨h.ok,rfl,rfl⟩)
 have F0:=T f0;have B2:=T b2;have HV:=T (Ay (kU v v0 v1) (and_15u v v0 v1));clear h f0 b2;go_in;go_wp2_with ((with_reducible refine wpL_lq b1 AQ AJ ?_));refine Az Hc ?_;rintro e w2 ⟨A1,c1',B1',d1',rfl,hS,hne,f1⟩;have b12:=b1.fr f1 id;have B22:=T (B2.out.fr f1 id);have HS:=T hS;have F1:=T f1;have HN:=T hne;have o1:=Ce s (Z A1 s.d.length c1') (Z B1' s.r.length d1') rfl rfl;clear hS f1 b1 hne Hc;go_upto_block 0 with(((with_reducible refine BL (cs':=stc s (Z A1 s.d.length c1') (Z B1' s.r.length d1')) b12 AJ o1 ?_);intro W3 b3 f3;have B3:=T b3;have F3:=T f3;have B23:=T (B22.out.fr f3 (λe=>O));clear b3 f3 b12 o1));go_cut [] (λwx=>setB reg=Ag∧Hid (Blk wx ↑w 39 (stc (setS s reg v) (Z A1 s.d.length c1') (Z B1' s.r.length d1'))∧Fr (· =w.heap.size) W3 wx));case first=>
  rcases hc with hc|⟨hb,hn⟩
  ·obtain⟨k0,k1,k2,k3,k4,k5,k6,k7,k8,k9,k10,k11,k12,k13,k14,k15⟩:=Ng B3.out;have kl:=B3.out.lt;have ks:=B3.out.frozen;have hv:(v !=0)= !decide (v=0):=by simp[bne,BEq.beq]
   obtain⟨hv1,hv2⟩:=HV.out;rcases hc with rfl|rfl|rfl|rfl|rfl|rfl|rfl|rfl|rfl|rfl
   iterate 10 (go_wp2_with fail;go_meet;exact⟨rfl,T ⟨B3.out.set_ _ _,(Ao _ _).at_ _ _⟩⟩)
  ·have HQ:Hid (Blk W3 ↑w 39 (stc (setS s reg v) (Z A1 s.d.length c1') (Z B1' s.r.length d1'))∧Fr (· =w.heap.size) W3 W3):=T ⟨by
    unfold setS
    repeat rw[Ae O]
    exact B3.out,Ao _ _⟩
   obtain⟨n0,n1,n2,n3,n4,n5,n6,n7,n8,n9⟩:(reg==0)=Ac∧(reg==1)=Ac∧(reg==2)=Ac∧(reg==3)=Ac∧(reg==4)=Ac∧(reg==5)=Ac∧(reg==6)=Ac∧(reg==7)=Ac∧(reg==8)=Ac∧(reg==10)=Ac:=by
    simp;omega
   go_upto_region 3 with(fail);exact Uv
 case rest=>
  obtain⟨hb,HQ⟩:=hcut;exact Uv
end Sv
namespace Gm
open Fm Nt Rm By Wk Gs
def Bd(z:Int):Prop:=0≤z∧z≤4294967295
def Bl(l:List Int):Prop:= ∀z∈l,Bd z
variable{l:List Int}
theorem Bl.drop(h:Bl l):Bl l.dropLast:=λz hz=>h z (List.dropLast_subset _ hz)
theorem Bl.app{m:List Int}(h:Bl l)(h2:Bl m):Bl (l++m):=λz hz=>by
 rcases Da.1 hz with e|e;·exact h z e
 ·exact h2 z e
theorem Bl.cons{z:Int}(h:Bd z)(h2:Bl l):Bl (z::l):=λy hy=>by
 rcases Dv.1 hy with e|e;·rw[e];exact h
 ·exact h2 y e
theorem Bl.nil:Bl []:=λz hz=>absurd hz AC
theorem Bl.top(h:Bl l):Bd (AW l):=by
 unfold AW;rw[FI]
 cases e:l.getLast? with
 |none=>exact⟨AC,AC⟩
 |some z=>exact h z (List.mem_of_getLast? e)
theorem Bl.top2(h:Bl l):Bd (top2 l):=h.drop.top
theorem bd0:Bd 0:=⟨O,O⟩
def Rk(s:St):Prop:=s.Ok∧s.d.length≤16∧s.r.length≤16∧s.fl≤15
variable{s:St}
theorem Rk.right(h:Rk s):s.right=Ag:=by
 obtain⟨_,h1,h2,h3⟩:=h;simp[St.right,h1,h2,h3]
theorem Rk.trap(h:Rk s)(c a:Int)(hc:Bd c)(ha:Bd a):Rk (s.trap c a):=by
 obtain⟨o,h1,h2,h3⟩:=h;exact⟨⟨o.ve,o.fl,o.rt,o.ve,o.pc,hc,ha,o.ct,o.d,o.r⟩,h1,h2,h3⟩
theorem Rk.up(h:Rk s):Rk (St.up s):=by
 obtain⟨o,h1,h2,h3⟩:=h;exact⟨⟨o.pc,o.fl,o.rt,o.ve,o.ep,o.ca,o.ad,VJ,o.d,o.r⟩,h1,h2,h3⟩
theorem Rk.next(h:Rk s)(i:Ins):Rk (s.next i):=by
 obtain⟨o,h1,h2,h3⟩:=h;exact⟨⟨by show 0≤(s.pc+AK i.op)%4294967296∧(s.pc+AK i.op)%4294967296≤4294967295;omega,o.fl,o.rt,o.ve,o.ep,o.ca,o.ad,VJ,o.d,o.r⟩,h1,h2,h3⟩
theorem Rk.stacks(h:Rk s){d r:List Int}(hd:Bl d)(hr:Bl r)(ld:d.length≤16)(lr:r.length≤16):Rk {s with d:=d,r:=r}:=by
 obtain⟨o,h1,h2,h3⟩:=h;exact⟨⟨o.pc,o.fl,o.rt,o.ve,o.ep,o.ca,o.ad,o.ct,hd,hr⟩,ld,lr,h3⟩
theorem Rk.setPc(h:Rk s){p:Int}(hp:Bd p):Rk {s with pc:=p}:=by
 obtain⟨o,h1,h2,h3⟩:=h;exact⟨⟨hp,o.fl,o.rt,o.ve,o.ep,o.ca,o.ad,o.ct,o.d,o.r⟩,h1,h2,h3⟩
theorem Rk.setFl(h:Rk s){p:Int}(hp:0≤p∧p≤15):Rk {s with fl:=p}:=by
 obtain⟨o,h1,h2,h3⟩:=h;exact⟨⟨o.pc,⟨hp.1,by show p≤4294967295;omega⟩,o.rt,o.ve,o.ep,o.ca,o.ad,o.ct,o.d,o.r⟩,h1,h2,hp.2⟩
variable{i:Ins}
theorem VK(h:check s i=0):DR i=Ag∧Gs.takeD i.op≤s.d.length∧Gs.takeR i.op≤s.r.length∧s.d.length -Gs.takeD i.op+Gs.putD i.op≤16∧s.r.length -Gs.takeR i.op+Gs.putR i.op≤16:=by
 unfold check at h;split at h;·cases h
 ·rename_i h1
  split at h;·cases h
  ·split at h;·cases h
   ·split at h;·cases h
    ·split at h;·cases h
     ·rename_i h5
      split at h;·cases h
      ·rename_i h6
       refine⟨Dh,O,O,O,O⟩
theorem Rk.stackS(h:Rk s)(hn:Bd i.n)(f1:Gs.takeD i.op≤s.d.length)(f2:Gs.takeR i.op≤s.r.length)(f3:s.d.length -Gs.takeD i.op+Gs.putD i.op≤16)(f4:s.r.length -Gs.takeR i.op+Gs.putR i.op≤16):Rk (stackS s i):=by
 have hd:Bl s.d:=h.1.d;have hr:Bl s.r:=h.1.r;have h2:=h.2.1;have h3:=h.2.2.1;obtain⟨op,n⟩:=i;have hn:Bd n:=hn;unfold Gs.stackS;simp only[] at f1 f2 f3 f4⊢;by_cases c:op=1∨op=2
 ·rw[An c];have e:Gs.takeD op=0∧Gs.putD op=1:=by rcases c with rfl|rfl<;>decide
  exact h.stacks (hd.app (Bl.nil.cons hn)) hr AA h3
 rw[Ae c];clear c;by_cases c:op=3;·rw[An c];subst c;have e:Gs.takeD 3=1∧Gs.putD 3=2:=Ak;exact h.stacks (hd.drop.app ((Bl.nil.cons hd.top).cons hd.top)) hr AA h3
 rw[Ae c];clear c;by_cases c:op=4;·rw[An c];exact h.stacks hd.drop hr AA h3
 rw[Ae c];clear c;by_cases c:op=5;·rw[An c];subst c;have e:Gs.takeD 5=2∧Gs.putD 5=2:=Ak;exact h.stacks (hd.drop.drop.app ((Bl.nil.cons hd.top2).cons hd.top)) hr AA h3
 rw[Ae c];clear c;by_cases c:op=6;·rw[An c];subst c;have e:Gs.takeD 6=2∧Gs.putD 6=3:=Ak;exact h.stacks (hd.drop.drop.app (((Bl.nil.cons hd.top2).cons hd.top).cons hd.top2)) hr AA h3
 rw[Ae c];clear c;by_cases c:op=7;·rw[An c];subst c;have e:Gs.takeR 7=0∧Gs.putR 7=1:=Ak;exact h.stacks hd.drop (hr.app (Bl.nil.cons hd.top)) AA AA
 rw[Ae c];clear c;by_cases c:op=8;·rw[An c];subst c;have e:Gs.takeD 8=0∧Gs.putD 8=1:=Ak;exact h.stacks (hd.app (Bl.nil.cons hr.top)) hr.drop AA AA
 rw[Ae c];exact h
theorem Qf(p n:Int):Bd ((p+CM n)%4294967296):=⟨O,O⟩
theorem Rk.reckS(h:Rk s)(f1:Gs.takeD i.op≤s.d.length)(f2:Gs.takeR i.op≤s.r.length)(f3:s.d.length -Gs.takeD i.op+Gs.putD i.op≤16)(f4:s.r.length -Gs.takeR i.op+Gs.putR i.op≤16):Rk (reckS s i):=by
 have hd:Bl s.d:=h.1.d;have hr:Bl s.r:=h.1.r;have h2:=h.2.1;have h3:=h.2.2.1;obtain⟨op,n⟩:=i;unfold Gs.reckS;simp only[] at f1 f2 f3 f4⊢;by_cases c:16≤op∧op≤25
 ·rw[An c];have hf:=Nb op (top2 s.d) (AW s.d);have ha:=hd.top2;have hb:=hd.top;have hv:=Tr.aluV_bd op (top2 s.d) (AW s.d) ha.1 (by have:=ha.2;omega) hb.1 (by have:=hb.2;omega);have hv:Bd (FG op (top2 s.d) (AW s.d)):=⟨hv.1,O⟩;by_cases c2:op=25;·rw[An c2];exact(h.setFl (p:=Fb op (top2 s.d) (AW s.d)) ⟨hf.1,O⟩).stacks hd.drop.drop hr AA h3
  ·rw[Ae c2];have e1:Gs.takeD op=2:=by unfold takeD;rw[Ae (by omega),An (by omega)]
   have e2:Gs.putD op=1:=by unfold putD;rw[An (by omega)]
   exact(h.setFl (p:=Fb op (top2 s.d) (AW s.d)) ⟨hf.1,O⟩).stacks (hd.drop.drop.app (Bl.nil.cons hv)) hr AA h3
 rw[Ae c];clear c;by_cases c:op=38;·rw[An c];subst c;have e:Gs.takeR 38=0∧Gs.putR 38=1:=Ak;exact(h.stacks hd (hr.app (Bl.nil.cons h.1.pc)) h2 AA).setPc (Qf _ _)
 rw[Ae c];clear c;by_cases c:op=32;·rw[An c];exact h.setPc (Qf _ _)
 rw[Ae c];clear c;by_cases c:op=39;·rw[An c];exact(h.stacks hd hr.drop h2 AA).setPc hr.top
 rw[Ae c];clear c;by_cases c:op=40;·rw[An c];exact(h.stacks hd.drop hr AA h3).setPc hd.top
 rw[Ae c];split;·exact h.setPc (Qf _ _)
 ·exact h
end Gm
end Go.Proofs.YtdfegdoeebaagaaGreatDoor
