import Derived.Test.YtdfegdoeebaagaaGreatDoorV0
open Option renaming some→I,none→G
open Go.IntKind renaming u32→V
open Go renaming bits→Bv
open Bool renaming false→Ac,true→Ag,false_and→GX
open List renaming getD_eq_getElem?_getD→AS,getElem?_eq_getElem→BK,length_append→Cq,mem_map→BS,append_assoc→C9,getElem?_take_of_lt→Dq,getElem?_append_right→Ex,mem_append→Da,length_cons→D8,length_pos_iff→Ef,getElem?_append_left→Ff,cons_append→DI,mem_cons→Dv,getLastD_eq_getLast?→FI,dropLast_concat→Gw,map_append→FH,length_nil→Gx,concat_eq_append→Is,singleton_append→IF,map_cons→GU,map_map→GZ
open And renaming intro→Ay
open Nat renaming le_refl→AD,le_trans→Bf,zero_le→Bj,zero_add→BW,lt_or_ge→DG
open Or renaming inl→Af,inr→Ah
open Int renaming toNat_natCast→Du
set_option linter.all false
set_option maxHeartbeats 40000000
set_option maxRecDepth 1000000
open Go Go.RowKit
namespace Go.Proofs.YtdfegdoeebaagaaGreatDoor
namespace Gs
structure Ins where
 op:Int
 n:Int
structure St where
 pc:Int
 d:List Int
 r:List Int
 fl:Int
 su:Bool
 pg:Bool
 ie:Bool
 rt:Int
 ve:Int
 ep:Int
 ca:Int
 ad:Int
 es:Bool
 ei:Bool
 ct:Int
 ha:Bool
def St.new:St:=⟨0,[],[],0,Ag,Ac,Ac,0,0,0,0,0,Ac,Ac,0,Ac⟩
def St.right(s:St):Bool:=decide (s.d.length≤16)&&decide (s.r.length≤16)&&decide (s.fl≤15)
def St.trap(s:St)(c a:Int):St:={s with ep:=s.pc,ca:=c,ad:=a,es:=s.su,ei:=s.ie,su:=Ag,ie:=Ac,pc:=s.ve}
def nb(b:Bool):Int:=if b then 1 else 0
def getV(s:St)(reg:Int):Int:=
 if reg=0 then nb s.ie else if reg=1 then nb s.pg else if reg=2 then s.rt else if reg=3 then s.ve else if reg=4 then s.ep else if reg=5 then s.ca
 else if reg=6 then s.ad else if reg=7 then nb s.es else if reg=8 then nb s.ei else if reg=9 then s.ct%4294967296 else if reg=10 then s.fl else 0
def getB(reg:Int):Bool:=decide (0≤reg)&&decide (reg≤10)
def setB(reg:Int):Bool:=decide (0≤reg)&&decide (reg≤10)&& !decide (reg=9)
def setS(s:St)(reg v:Int):St:=
 if reg=0 then{s with ie:= !decide (v=0)} else if reg=1 then{s with pg:= !decide (v=0)} else if reg=2 then{s with rt:=v/64*64} else if reg=3 then{s with ve:=v}
 else if reg=4 then{s with ep:=v} else if reg=5 then{s with ca:=v} else if reg=6 then{s with ad:=v} else if reg=7 then{s with es:= !decide (v=0)}
 else if reg=8 then{s with ei:= !decide (v=0)} else if reg=10 then{s with fl:=v%16} else s
structure St.Ok(s:St):Prop where
 pc:0≤s.pc∧s.pc≤4294967295
 fl:0≤s.fl∧s.fl≤4294967295
 rt:0≤s.rt∧s.rt≤4294967295
 ve:0≤s.ve∧s.ve≤4294967295
 ep:0≤s.ep∧s.ep≤4294967295
 ca:0≤s.ca∧s.ca≤4294967295
 ad:0≤s.ad∧s.ad≤4294967295
 ct:0≤s.ct∧s.ct≤18446744073709551615
 d: ∀z∈s.d,0≤z∧z≤4294967295
 r: ∀z∈s.r,0≤z∧z≤4294967295
def Kt(op:Int):Bool:=decide (op=1)||(decide (32≤op)&&decide (op≤38))||decide (op=66)||decide (op=67)
def Dd(op:Int):Bool:=(decide (0≤op)&&decide (op≤8))||(decide (16≤op)&&decide (op≤25))||(decide (32≤op)&&decide (op≤40))||(decide (48≤op)&&decide (op≤53))||(decide (64≤op)&&decide (op≤69))
def AK(op:Int):Int:=if Kt op then 2 else if op=2 then 5 else if Dd op then 1 else 0
def DR(i:Ins):Bool:=if AK i.op=0 then Ac else if AK i.op=1 then decide (i.n=0) else if AK i.op=2 then decide (i.n≤255) else Ag
def endsB(op:Int):Bool:=(decide (32≤op)&&decide (op≤40))||(decide (64≤op)&&decide (op≤69))
def BZ(op:Int):Bool:=(decide (0≤op)&&decide (op≤8))||(decide (32≤op)&&decide (op≤40))||(decide (16≤op)&&decide (op≤25)&& !decide (op=24))
def Gn(op:Int):Bool:=decide (65≤op)&&decide (op≤69)
def leV:List Int→Int
 |[]=>0
 |b::l=>b+256*leV l
def Dl:List Int→Option (Ins×Nat)
 |[]=>G
 |o::l=>if AK o=0 then G else if(l.length:Int)+1<AK o then G else I (⟨o,leV (l.take ((AK o).toNat -1))⟩,(AK o).toNat)
def CM(b:Int):Int:=if b%256<128 then b%256 else b%256+4294967040
def GS(r:Int):Int:=(if r=0 then 1 else 0)+(if 2147483648≤r then 2 else 0)
def topB(x y:Int):Bool:=decide (2147483648≤Bv .and V x y)
def Ku(a b:Int):Int:=GS ((a -b)%4294967296)+(if a<b then 4 else 0)+(if topB (Bv .xor V a b) (Bv .xor V a ((a -b)%4294967296)) then 8 else 0)
def moreF(a b:Int):Int:=GS ((a+b)%4294967296)+(if(a+b)%4294967296<a then 4 else 0)+(if topB (Bv .xor V a ((a+b)%4294967296)) (Bv .xor V b ((a+b)%4294967296)) then 8 else 0)
def Ja(a b:Int)(up:Bool):Int:=if 32≤b then 0 else if up then a*2^b.toNat%4294967296 else a/2^b.toNat
def FG(op a b:Int):Int:=
 if op=16 then(a+b)%4294967296 else if op=17 then(a -b)%4294967296 else if op=18 then Bv .and V a b else if op=19 then Bv .or V a b else if op=20 then Bv .xor V a b
 else if op=21 then Ja a b Ag else if op=22 then Ja a b Ac else if op=23 then a*b%4294967296 else if op=24 then a/b else 0
def aluB(op b:Int):Bool:=decide (16≤op)&&decide (op≤25)&& !(decide (op=24)&&decide (b=0))
def Fb(op a b:Int):Int:=if aluB op b=Ac then 0 else if op=16 then moreF a b else if op=17 then Ku a b else if op=25 then Ku a b else GS (FG op a b)
theorem Na(r:Int):0≤GS r∧GS r<4:=by
 unfold GS;exact Lv
theorem Nb(op x y:Int):0≤Fb op x y∧Fb op x y<16:=by
 have h1:=Na ((x+y)%4294967296);have h2:=Na ((x -y)%4294967296);have h3:=Na (FG op x y);unfold Fb;split;·omega
 split;·unfold moreF;exact Lv
 split;·unfold Ku;exact Lv
 split;·unfold Ku;exact Lv
 ·omega
def bitB(fl k:Int):Bool:=decide (fl/k%2=1)
def Gp(op fl:Int):Bool:=
 if op=33 then bitB fl 1 else if op=34 then !bitB fl 1 else if op=35 then bitB fl 4 else if op=36 then bitB fl 2 else if op=37 then bitB fl 8 else Ac
def takeD(op:Int):Nat:=
 if op=3∨op=4∨op=7∨op=40∨op=67∨op=68∨op=48∨op=50∨op=52 then 1
 else if op=5∨op=6∨(16≤op∧op≤25)∨op=49∨op=51∨op=53 then 2 else 0
def putD(op:Int):Nat:=
 if op=1∨op=2∨op=8∨op=66∨(16≤op∧op≤24)∨op=48∨op=50∨op=52 then 1 else if op=3∨op=5 then 2 else if op=6 then 3 else 0
def takeR(op:Int):Nat:=if op=8∨op=39 then 1 else 0
def putR(op:Int):Nat:=if op=7∨op=38 then 1 else 0
def check(s:St)(i:Ins):Int:=
 if DR i=Ac then 1 else if Gn i.op&& !s.su then 2 else if decide (i.op=66)&& !getB i.n then 1 else if decide (i.op=67)&& !setB i.n then 1
 else if s.d.length<takeD i.op∨s.r.length<takeR i.op then 3 else if 16<s.d.length -takeD i.op+putD i.op∨16<s.r.length -takeR i.op+putR i.op then 4 else 0
def AW(l:List Int):Int:=l.getLastD 0
def top2(l:List Int):Int:=l.dropLast.getLastD 0
def C8(op:Int):Bool:=decide (0≤op)&&decide (op≤8)
def stackS(s:St)(i:Ins):St:=
 if i.op=1∨i.op=2 then{s with d:=s.d++[i.n]}
 else if i.op=3 then{s with d:=s.d.dropLast++[AW s.d,AW s.d]}
 else if i.op=4 then{s with d:=s.d.dropLast}
 else if i.op=5 then{s with d:=s.d.dropLast.dropLast++[AW s.d,top2 s.d]}
 else if i.op=6 then{s with d:=s.d.dropLast.dropLast++[top2 s.d,AW s.d,top2 s.d]}
 else if i.op=7 then{s with d:=s.d.dropLast,r:=s.r++[AW s.d]}
 else if i.op=8 then{s with d:=s.d++[AW s.r],r:=s.r.dropLast} else s
def Fc(op:Int):Bool:=(decide (16≤op)&&decide (op≤25))||(decide (32≤op)&&decide (op≤40))
def reckS(s:St)(i:Ins):St:=
 if 16≤i.op∧i.op≤25 then
  {s with d:=if i.op=25 then s.d.dropLast.dropLast else s.d.dropLast.dropLast++[FG i.op (top2 s.d) (AW s.d)],fl:=Fb i.op (top2 s.d) (AW s.d)}
 else if i.op=38 then{s with r:=s.r++[s.pc],pc:=(s.pc+CM i.n)%4294967296}
 else if i.op=32 then{s with pc:=(s.pc+CM i.n)%4294967296}
 else if i.op=39 then{s with r:=s.r.dropLast,pc:=AW s.r}
 else if i.op=40 then{s with d:=s.d.dropLast,pc:=AW s.d}
 else if Gp i.op s.fl then{s with pc:=(s.pc+CM i.n)%4294967296} else s
def St.next(s:St)(i:Ins):St:={s with pc:=(s.pc+AK i.op)%4294967296,ct:=(s.ct+1)%18446744073709551616}
def AX(s:St)(i:Ins):St:=if C8 i.op then stackS (s.next i) i else reckS (s.next i) i
def CG:St→List Ins→Option St
 |s,[]=>I s
 |s,i::l=>if check s i=0 then CG (AX s i) l else G
end Gs
namespace Tr
open Gs
structure IIn where
 op:Nat
 dst:Nat
 a:Nat
 b:Nat
 imm:Int
def DW(s:St)(vs:List Int)(x:IIn):Int:=
 if x.op=0 then x.imm else if x.op=1 then s.d.getD (s.d.length -1 -x.imm.toNat) 0 else if x.op=2 then s.r.getD (s.r.length -1 -x.imm.toNat) 0
 else if x.op=3 then FG x.imm (vs.getD x.a 0) (vs.getD x.b 0) else Fb x.imm (vs.getD x.a 0) (vs.getD x.b 0)
def evs(s:St)(code:List IIn):List Int:=code.foldl (λvs x=>vs++[DW s vs x]) []
theorem evs_snoc(s:St)(code:List IIn)(x:IIn):evs s (code++[x])=evs s code++[DW s (evs s code) x]:=by simp[evs,List.foldl_append]
theorem Pa(s:St): ∀(code:List IIn) (vs:List Int),(code.foldl (λvs x=>vs++[DW s vs x]) vs).length=vs.length+code.length
 |[],vs=>AC
 |x::l,vs=>by rw[List.foldl_cons,Pa s l];simp;omega
theorem Pb(s:St)(code:List IIn):(evs s code).length=code.length:=by rw[evs,Pa];simp
theorem T8(s:St): ∀(code:List IIn) (vs:List Int) (n:Nat),n<vs.length→(code.foldl (λvs x=>vs++[DW s vs x]) vs).getD n 0=vs.getD n 0
 |[],vs,n,h=>rfl
 |x::l,vs,n,h=>by
  rw[List.foldl_cons,T8 s l _ n AA];simp[AS,Ff h]
theorem ID(s:St)(c l:List IIn)(n:Nat)(h:n<c.length):(evs s (c++l)).getD n 0=(evs s c).getD n 0:=by
 rw[evs,List.foldl_append,T8 s l _ n (by rw[Pa];simp;omega)];rfl
theorem J9(s:St)(c:List IIn)(x:IIn):(evs s (c++[x])).getD c.length 0=DW s (evs s c) x:=by
 rw[evs_snoc,AS,Ex (by rw[Pb];exact AD _),Pb];simp
structure Lw where
 code:List IIn
 ld:List Nat
 lr:List Nat
 nd:Nat
 nr:Nat
 hd:Nat
 hr:Nat
 fl:Int
 tg:Int
 br:Int
def Lw.new:Lw:=⟨[],[],[],0,0,0,0,-1,-1,0⟩
def Lw.add(w:Lw)(op a b:Nat)(imm:Int):Lw:={w with code:=w.code++[⟨op,w.code.length,a,b,imm⟩]}
def Lw.popD(w:Lw):Lw:=if w.ld=[] then{w.add 1 0 0 w.nd with nd:=w.nd+1} else{w with ld:=w.ld.dropLast}
def Lw.popR(w:Lw):Lw:=if w.lr=[] then{w.add 2 0 0 w.nr with nr:=w.nr+1} else{w with lr:=w.lr.dropLast}
def Lw.topD(w:Lw):Nat:=if w.ld=[] then w.code.length else w.ld.getLastD 0
def Lw.topR(w:Lw):Nat:=if w.lr=[] then w.code.length else w.lr.getLastD 0
def Lw.pushD(w:Lw)(l:List Nat):Lw:={w with ld:=w.ld++l}
def Lw.pushR(w:Lw)(n:Nat):Lw:={w with lr:=w.lr++[n]}
def Lw.alu(w:Lw)(op:Int)(a b:Nat):Lw:=
 if op=25 then{w.add 4 a b op with fl:=w.code.length} else{((w.add 4 a b op).add 3 a b op).pushD [w.code.length+1] with fl:=w.code.length}
def Lw.one0(w:Lw)(i:Ins)(next:Int):Lw:=
 if i.op=1∨i.op=2 then(w.add 0 0 0 i.n).pushD [w.code.length]
 else if i.op=3 then w.popD.pushD [w.topD,w.topD]
 else if i.op=4 then w.popD
 else if i.op=5 then w.popD.popD.pushD [w.topD,w.popD.topD]
 else if i.op=6 then w.popD.popD.pushD [w.popD.topD,w.topD,w.popD.topD]
 else if i.op=7 then w.popD.pushR w.topD
 else if i.op=8 then w.popR.pushD [w.topR]
 else if 16≤i.op∧i.op≤25 then w.popD.popD.alu i.op w.popD.topD w.topD
 else if i.op=38 then(w.add 0 0 0 next).pushR w.code.length
 else if i.op=39 then{w.popR with tg:=w.topR}
 else if i.op=40 then{w.popD with tg:=w.topD}
 else if 33≤i.op∧i.op≤37 then{w with br:=i.op} else w
def Lw.high(w:Lw):Lw:={w with hd:=max w.hd (w.ld.length -w.nd),hr:=max w.hr (w.lr.length -w.nr)}
def Lw.one(w:Lw)(i:Ins)(next:Int):Lw:=(w.one0 i next).high
def Lw.all:Lw→Int→List Ins→Lw
 |w,pc,[]=>w
 |w,pc,i::l=>(w.one i ((pc+AK i.op)%4294967296)).all ((pc+AK i.op)%4294967296) l
structure Pg where
 code:List IIn
 nd:Nat
 nr:Nat
 hd:Nat
 hr:Nat
 od:List Nat
 or:List Nat
 fl:Int
 nx:Int
 tg:Int
 br:Int
 tk:Int
 ct:Nat
def pcs:Int→List Ins→Int
 |pc,[]=>pc
 |pc,i::l=>pcs ((pc+AK i.op)%4294967296) l
def EU(l:List Ins):Ins:=l.getLastD ⟨0,0⟩
def lower0(pc:Int)(l:List Ins):Pg:=
 let w:=Lw.all Lw.new pc l
 let e:=pcs pc l
 {code:=w.code,nd:=w.nd,nr:=w.nr,hd:=w.hd,hr:=w.hr,od:=w.ld,or:=w.lr,fl:=w.fl,tg:=w.tg,br:=w.br,ct:=l.length,nx:=if(EU l).op=32∨(EU l).op=38 then(e+CM (EU l).n)%4294967296 else e,tk:=if((EU l).op=32∨(EU l).op=38) then 0 else if w.br≠0 then(e+CM (EU l).n)%4294967296 else 0}
def vat(vs:List Int)(n:Int):Int:=vs.getD n.toNat 0
def left(p:Pg)(s:St)(vs:List Int):St:=
 let fl:=if p.fl= -1 then s.fl else vat vs p.fl%16
 {s with d:=s.d.take (s.d.length -p.nd)++p.od.map (λn=>vs.getD n 0),r:=s.r.take (s.r.length -p.nr)++p.or.map (λn=>vs.getD n 0),fl:=fl,pc:=if p.tg≠ -1 then vat vs p.tg else if p.br≠0∧Gp p.br fl=Ag then p.tk else p.nx,ct:=(s.ct+p.ct)%18446744073709551616}
structure Fits(p:Pg)(s:St):Prop where
 d:p.nd≤s.d.length
 r:p.nr≤s.r.length
 hd:s.d.length+p.hd≤16
 hr:s.r.length+p.hr≤16
end Tr
namespace Tr
open Gs
def val(s:St)(code:List IIn)(n:Nat):Int:=(evs s code).getD n 0
structure DS(s:St)(code:List IIn)(nd:Nat)(ld:List Nat)(D d:List Int):Prop where
 le:nd≤D.length
 ix: ∀n∈ld,n<code.length
 eq:d=D.take (D.length -nd)++ld.map (val s code)
section
variable {s:St} {code:List IIn} {nd:Nat} {ld:List Nat} {D d:List Int}
theorem DS.ext(h:DS s code nd ld D d)(l:List IIn):DS s (code++l) nd ld D d:=
 ⟨h.le,λn hn=>by have:=h.ix n hn;simp;omega,by
  rw[h.eq];congr 1;exact List.map_congr_left λn hn=>(ID s code l n (h.ix n hn)).symm⟩
theorem DS.push(h:DS s code nd ld D d)(l:List Nat)(hl: ∀n∈l,n<code.length)(xs:List Int)(hx:xs=l.map (val s code)):DS s code nd (ld++l) D (d++xs):=
 ⟨h.le,λn hn=>by rcases Da.1 hn with e|e;exact h.ix n e;exact hl n e,by rw[h.eq,hx,FH,C9]⟩
theorem DS.len(h:DS s code nd ld D d):d.length=D.length -nd+ld.length:=by
 rw[h.eq];simp
theorem DS.pop(h:DS s code nd ld D d){l:List Nat}{n:Nat}(e:ld=l++[n]):d≠[]∧DS s code nd l D d.dropLast∧n<code.length∧val s code n=AW d:=by
 have e2:d=(D.take (D.length -nd)++l.map (val s code))++[val s code n]:=by rw[h.eq,e];simp
 refine⟨by rw[e2];simp,⟨h.le,λm hm=>h.ix m (by rw[e];simp[hm]),by rw[e2,Gw]⟩,h.ix n EV, ?_⟩;rw[e2,AW];simp[FI]
theorem DS.pop0(h:DS s code nd [] D d)(hn:nd+1≤D.length):d≠[]∧d.dropLast=D.take (D.length -(nd+1))∧AW d=D.getD (D.length -1 -nd) 0:=by
 have e2:d=D.take (D.length -nd):=by rw[h.eq];simp
 have e3:d.length=D.length -nd:=by rw[e2];simp
 refine⟨λe=>by rw[e] at e3;simp at e3;omega, ?_, ?_⟩;·rw[e2,List.dropLast_eq_take,List.take_take];congr 1;simp;omega
 ·rw[AW,FI,List.getLast?_eq_getElem?,e3,e2,Dq O,AS];congr 2;omega
end
theorem Lw.add_code(w:Lw)(op a b:Nat)(imm:Int):(w.add op a b imm).code=w.code++[⟨op,w.code.length,a,b,imm⟩]:=rfl
theorem popD_ok{w:Lw}{s:St}{d:List Int}(h:DS s w.code w.nd w.ld s.d d)(hn:w.popD.nd≤s.d.length):(∃l,w.popD.code=w.code++l)∧d≠[]∧DS s w.popD.code w.popD.nd w.popD.ld s.d d.dropLast∧w.topD<w.popD.code.length∧val s w.popD.code w.topD=AW d:=by
 rcases w.ld.eq_nil_or_concat with e|⟨l,n,e⟩
 ·have hn':w.nd+1≤s.d.length:=by simpa[Lw.popD,e,Lw.add] using hn
  rw[e] at h;obtain⟨p1,p2,p3⟩:=h.pop0 hn';simp only[Lw.popD,Lw.topD,e,if_true,Lw.add];exact T9
 ·rw[Is] at e;have ne: ¬w.ld=[]:=EV;obtain⟨p1,p2,p3,p4⟩:=h.pop e;simp only[Lw.popD,Lw.topD,Ae ne];exact TA
theorem popR_ok{w:Lw}{s:St}{d:List Int}(h:DS s w.code w.nr w.lr s.r d)(hn:w.popR.nr≤s.r.length):(∃l,w.popR.code=w.code++l)∧d≠[]∧DS s w.popR.code w.popR.nr w.popR.lr s.r d.dropLast∧w.topR<w.popR.code.length∧val s w.popR.code w.topR=AW d:=by
 rcases w.lr.eq_nil_or_concat with e|⟨l,n,e⟩
 ·have hn':w.nr+1≤s.r.length:=by simpa[Lw.popR,e,Lw.add] using hn
  rw[e] at h;obtain⟨p1,p2,p3⟩:=h.pop0 hn';simp only[Lw.popR,Lw.topR,e,if_true,Lw.add];exact T9
 ·rw[Is] at e;have ne: ¬w.lr=[]:=EV;obtain⟨p1,p2,p3,p4⟩:=h.pop e;simp only[Lw.popR,Lw.topR,Ae ne];exact TA
theorem Df(w:Lw):w.popD.lr=w.lr∧w.popD.nr=w.nr∧w.popD.fl=w.fl∧w.popD.tg=w.tg∧w.popD.br=w.br∧w.nd≤w.popD.nd∧w.popD.hd=w.hd∧w.popD.hr=w.hr:=by
 unfold Lw.popD;split<;>simp[Lw.add]
theorem GY(w:Lw):w.popR.ld=w.ld∧w.popR.nd=w.nd∧w.popR.fl=w.fl∧w.popR.tg=w.tg∧w.popR.br=w.br∧w.nr≤w.popR.nr∧w.popR.hd=w.hd∧w.popR.hr=w.hr:=by
 unfold Lw.popR;split<;>simp[Lw.add]
def JA(s c:St):Prop:=c.su=s.su∧c.pg=s.pg∧c.ie=s.ie∧c.rt=s.rt∧c.ve=s.ve∧c.ep=s.ep∧c.ca=s.ca∧c.ad=s.ad∧c.es=s.es∧c.ei=s.ei∧c.ha=s.ha
structure LI(w:Lw)(s c:St):Prop where
 D:DS s w.code w.nd w.ld s.d c.d
 R:DS s w.code w.nr w.lr s.r c.r
 fl:(w.fl= -1∧c.fl=s.fl)∨(0≤w.fl∧w.fl.toNat<w.code.length∧c.fl=val s w.code w.fl.toNat∧0≤c.fl∧c.fl<16)
 same:JA s c
def flI(w:Lw)(s:St)(f:Int):Prop:=(w.fl= -1∧f=s.fl)∨(0≤w.fl∧w.fl.toNat<w.code.length∧f=val s w.code w.fl.toNat∧0≤f∧f<16)
theorem flI.ext{w w':Lw}{s:St}{f:Int}(h:flI w s f)(he: ∃l,w'.code=w.code++l)(hf:w'.fl=w.fl):flI w' s f:=by
 obtain⟨l,hl⟩:=he;rcases h with⟨h1,h2⟩|⟨h1,h2,h3,h4⟩;·exact Af ⟨hf.trans h1,h2⟩
 ·refine Ah ⟨by rw[hf];exact h1,by rw[hf,hl];simp;omega, ?_,h4⟩;rw[hf,hl,h3];exact(ID _ _ _ _ h2).symm
theorem DS.ex{s:St}{c c':List IIn}{nd:Nat}{ld:List Nat}{D d:List Int}(h:DS s c nd ld D d)(he: ∃l,c'=c++l):DS s c' nd ld D d:=by
 obtain⟨l,rfl⟩:=he;exact h.ext l
theorem Nj{a b c:List IIn}(h: ∃l,b=a++l)(k: ∃l,c=b++l): ∃l,c=a++l:=by
 obtain⟨l,rfl⟩:=h;obtain⟨m,rfl⟩:=k;exact⟨l++m,AC⟩
theorem len_ne{d:List Int}(h:d≠[]):d.dropLast.length+1=d.length:=by
 have:=Ef.2 h;simp;omega
structure OneOk(w w':Lw)(s c c':St)(i:Ins):Prop where
 li:LI w' s c'
 td:takeD i.op≤c.d.length
 tr:takeR i.op≤c.r.length
 ld:c'.d.length=c.d.length -takeD i.op+putD i.op
 lr:c'.r.length=c.r.length -takeR i.op+putR i.op
 ex: ∃l,w'.code=w.code++l
 ct:c'.ct=(c.ct+1)%18446744073709551616
 nd:w.nd≤w'.nd
 nr:w.nr≤w'.nr
section
variable {w:Lw} {s c:St} {n next:Int}
theorem one_lit(op:Int)(ho:op=1∨op=2)(h:LI w s c):OneOk w (w.one0 ⟨op,n⟩ next) s c (AX c ⟨op,n⟩) ⟨op,n⟩:=by
 have e1:w.one0 ⟨op,n⟩ next=(w.add 0 0 0 n).pushD [w.code.length]:=by simp only[Lw.one0,An ho]
 have e2:AX c ⟨op,n⟩={c.next ⟨op,n⟩ with d:=c.d++[n]}:=by
  have:C8 op=Ag:=by rcases ho with rfl|rfl<;>rfl
  simp only[AX,this,if_true,stackS,An ho];rfl
 have t1:takeD op=0∧putD op=1∧takeR op=0∧putR op=0:=by rcases ho with rfl|rfl<;>decide
 rw[e1,e2];refine⟨⟨?_,h.R.ext _,flI.ext h.fl ⟨_,rfl⟩ rfl,h.same⟩,by simp[t1],by simp[t1],by simp[t1],by simp[t1,St.next],⟨_,rfl⟩,rfl,AD _,AD _⟩;refine(h.D.ext _).push _ JB _ ?_;simp only[GU,List.map_nil,Lw.add_code,val,J9];simp[DW]
theorem one_nop(h:LI w s c):OneOk w (w.one0 ⟨0,n⟩ next) s c (AX c ⟨0,n⟩) ⟨0,n⟩:=by
 have e1:w.one0 ⟨0,n⟩ next=w:=Je
 have e2:AX c ⟨0,n⟩=c.next ⟨0,n⟩:=by simp[AX,C8,stackS]
 rw[e1,e2];exact⟨⟨h.D,h.R,h.fl,h.same⟩,Bj _,Bj _,rfl,rfl,⟨[],AC⟩,rfl,AD _,AD _⟩
theorem LI.popD(h:LI w s c)(hn:w.popD.nd≤s.d.length){c':St}(hd:c'.d=c.d.dropLast)(hr:c'.r=c.r)(hf:c'.fl=c.fl)(hs:JA s c'):LI w.popD s c'∧c.d≠[]∧w.topD<w.popD.code.length∧val s w.popD.code w.topD=AW c.d∧(∃l,w.popD.code=w.code++l):=by
 obtain⟨x1,x2,x3,x4,x5⟩:=popD_ok h.D hn;exact⟨⟨by rw[hd];exact x3,by rw[hr,(Df w).1,(Df w).2.1];exact h.R.ex x1,by rw[hf];exact flI.ext h.fl x1 (Df w).2.2.1,hs⟩,x2,x4,x5,x1⟩
theorem LI.popR(h:LI w s c)(hn:w.popR.nr≤s.r.length){c':St}(hd:c'.d=c.d)(hr:c'.r=c.r.dropLast)(hf:c'.fl=c.fl)(hs:JA s c'):LI w.popR s c'∧c.r≠[]∧w.topR<w.popR.code.length∧val s w.popR.code w.topR=AW c.r∧(∃l,w.popR.code=w.code++l):=by
 obtain⟨x1,x2,x3,x4,x5⟩:=popR_ok h.R hn;exact⟨⟨by rw[hd,(GY w).1,(GY w).2.1];exact h.D.ex x1,by rw[hr];exact x3,by rw[hf];exact flI.ext h.fl x1 (GY w).2.2.1,hs⟩,x2,x4,x5,x1⟩
theorem LI.pushD(h:LI w s c)(l:List Nat)(hl: ∀n∈l,n<w.code.length){c':St}(hd:c'.d=c.d++l.map (val s w.code))(hr:c'.r=c.r)(hf:c'.fl=c.fl)(hs:JA s c'):LI (w.pushD l) s c':=
 ⟨by rw[hd];exact h.D.push l hl _ rfl,by rw[hr];exact h.R,by rw[hf];exact h.fl,hs⟩
theorem LI.pushR(h:LI w s c)(m:Nat)(hl:m<w.code.length){c':St}(hd:c'.d=c.d)(hr:c'.r=c.r++[val s w.code m])(hf:c'.fl=c.fl)(hs:JA s c'):LI (w.pushR m) s c':=
 ⟨by rw[hd];exact h.D,by rw[hr];exact h.R.push [m] (by simpa using hl) _ rfl,by rw[hf];exact h.fl,hs⟩
theorem LI.add(h:LI w s c)(op a b:Nat)(imm:Int){c':St}(hd:c'.d=c.d)(hr:c'.r=c.r)(hf:c'.fl=c.fl)(hs:JA s c'):LI (w.add op a b imm) s c':=
 ⟨by rw[hd];exact h.D.ext _,by rw[hr];exact h.R.ext _,by rw[hf];exact flI.ext h.fl ⟨_,rfl⟩ rfl,hs⟩
theorem one_dup(h:LI w s c)(hn:(w.one0 ⟨3,n⟩ next).nd≤s.d.length):OneOk w (w.one0 ⟨3,n⟩ next) s c (AX c ⟨3,n⟩) ⟨3,n⟩:=by
 have e1:w.one0 ⟨3,n⟩ next=w.popD.pushD [w.topD,w.topD]:=Je
 have e2:AX c ⟨3,n⟩={c.next ⟨3,n⟩ with d:=c.d.dropLast++[AW c.d,AW c.d]}:=Kv;rw[e1] at hn⊢;rw[e2];obtain⟨y1,y2,y3,y4,y5⟩:=h.popD hn (c':={c with d:=c.d.dropLast}) rfl rfl rfl h.same;have hl:=len_ne y2;refine⟨y1.pushD _ (by simp[y3]) (by simp[y4]) rfl rfl h.same, ?_,Bj _, ?_,rfl,y5,rfl,(Df w).2.2.2.2.2.1,Nat.le_of_eq (Df w).2.1.symm⟩;·show 1≤_;omega
 ·show(c.d.dropLast++[AW c.d,AW c.d]).length=c.d.length -1+2;simp
theorem one_drop(h:LI w s c)(hn:(w.one0 ⟨4,n⟩ next).nd≤s.d.length):OneOk w (w.one0 ⟨4,n⟩ next) s c (AX c ⟨4,n⟩) ⟨4,n⟩:=by
 have e1:w.one0 ⟨4,n⟩ next=w.popD:=Je
 have e2:AX c ⟨4,n⟩={c.next ⟨4,n⟩ with d:=c.d.dropLast}:=Kv;rw[e1] at hn⊢;rw[e2];obtain⟨y1,y2,y3,y4,y5⟩:=h.popD hn (c':={c.next ⟨4,n⟩ with d:=c.d.dropLast}) rfl rfl rfl h.same;have hl:=len_ne y2;refine⟨y1, ?_,Bj _, ?_,rfl,y5,rfl,(Df w).2.2.2.2.2.1,Nat.le_of_eq (Df w).2.1.symm⟩;·show 1≤_;omega
 ·exact Pd
theorem one_tor(h:LI w s c)(hn:(w.one0 ⟨7,n⟩ next).nd≤s.d.length):OneOk w (w.one0 ⟨7,n⟩ next) s c (AX c ⟨7,n⟩) ⟨7,n⟩:=by
 have e1:w.one0 ⟨7,n⟩ next=w.popD.pushR w.topD:=Je
 have e2:AX c ⟨7,n⟩={c.next ⟨7,n⟩ with d:=c.d.dropLast,r:=c.r++[AW c.d]}:=Kv;rw[e1] at hn⊢;rw[e2];obtain⟨y1,y2,y3,y4,y5⟩:=h.popD hn (c':={c with d:=c.d.dropLast}) rfl rfl rfl h.same;have hl:=len_ne y2;refine⟨y1.pushR _ y3 rfl (by simp[y4]) rfl h.same, ?_,Bj _, ?_, ?_,y5,rfl,(Df w).2.2.2.2.2.1,Nat.le_of_eq (Df w).2.1.symm⟩;·show 1≤_;omega
 ·exact Pd
 ·show(c.r++[AW c.d]).length=c.r.length -0+1;simp
theorem kR(h:LI w s c)(hn:(w.one0 ⟨8,n⟩ next).nr≤s.r.length):OneOk w (w.one0 ⟨8,n⟩ next) s c (AX c ⟨8,n⟩) ⟨8,n⟩:=by
 have e1:w.one0 ⟨8,n⟩ next=w.popR.pushD [w.topR]:=Je
 have e2:AX c ⟨8,n⟩={c.next ⟨8,n⟩ with d:=c.d++[AW c.r],r:=c.r.dropLast}:=Kv;rw[e1] at hn⊢;rw[e2];obtain⟨y1,y2,y3,y4,y5⟩:=h.popR hn (c':={c with r:=c.r.dropLast}) rfl rfl rfl h.same;have hl:=len_ne y2;refine⟨y1.pushD _ (by simp[y3]) (by simp[y4]) rfl rfl h.same,Bj _, ?_, ?_, ?_,y5,rfl,Nat.le_of_eq (GY w).2.1.symm,(GY w).2.2.2.2.2.1⟩;·show 1≤_;omega
 ·show(c.d++[AW c.r]).length=c.d.length -0+1;simp
 ·exact TB
theorem LI.pop2(h:LI w s c)(hn:w.popD.popD.nd≤s.d.length):LI w.popD.popD s {c with d:=c.d.dropLast.dropLast}∧2≤c.d.length∧w.topD<w.popD.popD.code.length∧w.popD.topD<w.popD.popD.code.length∧val s w.popD.popD.code w.topD=AW c.d∧val s w.popD.popD.code w.popD.topD=top2 c.d∧(∃l,w.popD.popD.code=w.code++l)∧w.nd≤w.popD.popD.nd∧w.popD.popD.nr=w.nr:=by
 have q:=(Df w.popD).2.2.2.2.2.1;obtain⟨y1,y2,y3,y4,y5⟩:=h.popD O (c':={c with d:=c.d.dropLast}) rfl rfl rfl h.same;obtain⟨z1,z2,z3,z4,z5⟩:=y1.popD hn (c':={c with d:=c.d.dropLast.dropLast}) rfl rfl rfl h.same;have hl:=len_ne y2;have hl2:=Ef.2 z2;have hl2:0<c.d.dropLast.length:=hl2;obtain⟨l,hl3⟩:=z5;refine⟨z1,O,by rw[hl3];simp;omega,z3, ?_,z4,Nj y5 ⟨l,hl3⟩,Bf (Df w).2.2.2.2.2.1 q,(Df w.popD).2.1.trans (Df w).2.1⟩;rw[hl3,val,ID _ _ _ _ y3,←y4];rfl
theorem one_swap(h:LI w s c)(hn:(w.one0 ⟨5,n⟩ next).nd≤s.d.length):OneOk w (w.one0 ⟨5,n⟩ next) s c (AX c ⟨5,n⟩) ⟨5,n⟩:=by
 have e1:w.one0 ⟨5,n⟩ next=w.popD.popD.pushD [w.topD,w.popD.topD]:=Je
 have e2:AX c ⟨5,n⟩={c.next ⟨5,n⟩ with d:=c.d.dropLast.dropLast++[AW c.d,top2 c.d]}:=Kv;rw[e1] at hn⊢;rw[e2];obtain⟨z1,z2,z3,z4,z5,z6,z7,z8,z9⟩:=h.pop2 hn;refine⟨z1.pushD _ (by simp[z3,z4]) (by simp[z5,z6]) rfl rfl h.same,z2,Bj _, ?_,rfl,z7,rfl,z8,Nat.le_of_eq z9.symm⟩;show(c.d.dropLast.dropLast++[AW c.d,top2 c.d]).length=c.d.length -2+2;simp;omega
theorem one_over(h:LI w s c)(hn:(w.one0 ⟨6,n⟩ next).nd≤s.d.length):OneOk w (w.one0 ⟨6,n⟩ next) s c (AX c ⟨6,n⟩) ⟨6,n⟩:=by
 have e1:w.one0 ⟨6,n⟩ next=w.popD.popD.pushD [w.popD.topD,w.topD,w.popD.topD]:=Je
 have e2:AX c ⟨6,n⟩={c.next ⟨6,n⟩ with d:=c.d.dropLast.dropLast++[top2 c.d,AW c.d,top2 c.d]}:=Kv;rw[e1] at hn⊢;rw[e2];obtain⟨z1,z2,z3,z4,z5,z6,z7,z8,z9⟩:=h.pop2 hn;refine⟨z1.pushD _ (by simp[z3,z4]) (by simp[z5,z6]) rfl rfl h.same,z2,Bj _, ?_,rfl,z7,rfl,z8,Nat.le_of_eq z9.symm⟩;show(c.d.dropLast.dropLast++[top2 c.d,AW c.d,top2 c.d]).length=c.d.length -2+3;simp;omega
theorem one_alu(op:Int)(h0:16≤op)(h1:op≤25)(h24:op≠24)(h:LI w s c)(hn:(w.one0 ⟨op,n⟩ next).nd≤s.d.length):OneOk w (w.one0 ⟨op,n⟩ next) s c (AX c ⟨op,n⟩) ⟨op,n⟩:=by
 have e1:w.one0 ⟨op,n⟩ next=w.popD.popD.alu op w.popD.topD w.topD:=by
  unfold Lw.one0;simp only[];rw[Ae O,Ae O,Ae O,Ae O,Ae O,Ae O,Ae O,An ⟨h0,h1⟩]
 have e2:AX c ⟨op,n⟩={c.next ⟨op,n⟩ with d:=if op=25 then c.d.dropLast.dropLast else c.d.dropLast.dropLast++[FG op (top2 c.d) (AW c.d)],fl:=Fb op (top2 c.d) (AW c.d)}:=by
  have:C8 op=Ac:=Pe;simp only[AX,this,reckS,An (Ay h0 h1)];rfl
 have t1:takeD op=2∧takeR op=0∧putR op=0∧putD op=if op=25 then 0 else 1:=by
  refine⟨?_, ?_, ?_, ?_⟩;·unfold takeD;rw[Ae O,An O]
  ·unfold takeR;rw[Ae O]
  ·unfold putR;rw[Ae O]
  ·by_cases h25:op=25;·subst h25;decide
   ·unfold putD;rw[An O,Ae h25]
 rw[e1] at hn⊢;rw[e2];have hnd:(w.popD.popD.alu op w.popD.topD w.topD).nd=w.popD.popD.nd∧(w.popD.popD.alu op w.popD.topD w.topD).nr=w.popD.popD.nr:=by
  unfold Lw.alu;split<;>exact⟨rfl,rfl⟩
 rw[hnd.1] at hn;obtain⟨z1,z2,z3,z4,z5,z6,z7,z8,z9⟩:=h.pop2 hn;generalize hw2:w.popD.popD=w2 at*;generalize w.popD.topD=a at*;generalize w.topD=b at*;have hF:val s (w2.code++[⟨4,w2.code.length,a,b,op⟩]) w2.code.length=Fb op (top2 c.d) (AW c.d):=by
  rw[val,J9];simp only[DW];rw[val] at z5 z6;rw[Ae Ak,Ae Ak,Ae Ak,Ae Ak,z5,z6]
 by_cases h25:op=25
 ·have ea:w2.alu op a b={w2.add 4 a b op with fl:=w2.code.length}:=by unfold Lw.alu;rw[An h25]
  rw[ea];refine⟨⟨?_,z1.R.ext _,Ah ⟨JB,JB, ?_,Nb _ _ _⟩,h.same⟩, ?_, ?_, ?_, ?_, ?_,rfl,z8,Nat.le_of_eq z9.symm⟩;·show DS s _ _ _ _ (if op=25 then _ else _);rw[An h25];exact z1.D.ext _
  ·simpa[Lw.add] using hF.symm
  ·show takeD op≤_;omega
  ·show takeR op≤_;omega
  ·show(if op=25 then _ else _:List Int).length=_ -takeD op+putD op;rw[An h25,t1.1,t1.2.2.2,An h25];simp;omega
  ·show c.r.length=_ -takeR op+putR op;omega
  ·exact Nj z7 ⟨_,rfl⟩
 ·have ea:w2.alu op a b={((w2.add 4 a b op).add 3 a b op).pushD [w2.code.length+1] with fl:=w2.code.length}:=by unfold Lw.alu;rw[Ae h25]
  rw[ea];have hV:val s ((w2.code++[⟨4,w2.code.length,a,b,op⟩])++[⟨3,w2.code.length+1,a,b,op⟩]) (w2.code.length+1)=FG op (top2 c.d) (AW c.d):=by
   have:=J9 s (w2.code++[⟨4,w2.code.length,a,b,op⟩]) ⟨3,w2.code.length+1,a,b,op⟩;simp only[Cq,D8,Gx,BW] at this;rw[val,this];simp only[DW];rw[ID _ _ _ _ z4,ID _ _ _ _ z3];rw[val] at z5 z6;rw[Ae Ak,Ae Ak,Ae Ak,An trivial,z5,z6]
  have z1D:=(z1.D.ext [⟨4,w2.code.length,a,b,op⟩]).ext [⟨3,w2.code.length+1,a,b,op⟩];refine⟨⟨?_,(z1.R.ext _).ext _,Ah ⟨by simp[Lw.add,Lw.pushD],by simp[Lw.add,Lw.pushD], ?_,Nb _ _ _⟩,h.same⟩, ?_, ?_, ?_, ?_, ?_,rfl,z8,Nat.le_of_eq z9.symm⟩;·show DS s _ _ _ _ (if op=25 then _ else _);rw[Ae h25];have:=z1D.push [w2.code.length+1] AC [FG op (top2 c.d) (AW c.d)] (by simp only[GU,List.map_nil];rw[hV]);simpa[Lw.add,Lw.pushD] using this
  ·show _=val s ((w2.code++[_])++[_]) (((w2.code.length:Nat):Int).toNat);rw[Du];exact hF.symm.trans (ID s (w2.code++[_]) [_] w2.code.length AC).symm
  ·show takeD op≤_;omega
  ·show takeR op≤_;omega
  ·show(if op=25 then _ else _:List Int).length=_ -takeD op+putD op;rw[Ae h25,t1.1,t1.2.2.2,Ae h25];simp;omega
  ·show c.r.length=_ -takeR op+putR op;omega
  ·exact Nj z7 (Nj ⟨_,rfl⟩ ⟨_,rfl⟩)
end
end Tr
namespace Tr
open Gs
section
variable {w:Lw} {s c:St} {n next:Int}
theorem one_jump(op:Int)(h0:32≤op)(h1:op≤37)(h:LI w s c):OneOk w (w.one0 ⟨op,n⟩ next) s c (AX c ⟨op,n⟩) ⟨op,n⟩:=by
 have e1:w.one0 ⟨op,n⟩ next=if 33≤op then{w with br:=op} else w:=by
  unfold Lw.one0;simp only[];rw[Ae O,Ae O,Ae O,Ae O,Ae O,Ae O,Ae O,Ae O,Ae O,Ae O,Ae O];by_cases e:33≤op;·rw[An e,An ⟨e,h1⟩]
  ·rw[Ae e,Ae O]
 obtain⟨p,e2⟩: ∃p,AX c ⟨op,n⟩={c.next ⟨op,n⟩ with pc:=p}:=by
  have hst: ¬C8 op=Ag:=Pe;unfold AX;rw[Ae hst];unfold reckS;simp only[];rw[Ae O,Ae O];by_cases e:op=32;·rw[An e];exact⟨_,rfl⟩
  ·rw[Ae e,Ae O,Ae O];split;·exact⟨_,rfl⟩
   ·exact⟨_,rfl⟩
 have t1:takeD op=0∧takeR op=0∧putR op=0∧putD op=0:=by
  refine⟨?_, ?_, ?_, ?_⟩;·unfold takeD;rw[Ae O,Ae O]
  ·unfold takeR;rw[Ae O]
  ·unfold putR;rw[Ae O]
  ·unfold putD;rw[Ae O,Ae O,Ae O]
 rw[e1,e2];have key: ∀w',w'=w∨w'={w with br:=op}→OneOk w w' s c {c.next ⟨op,n⟩ with pc:=p} ⟨op,n⟩:=by
  rintro w' (rfl|rfl);·exact TC
  ·exact TC
 split;·exact key _ (Ah rfl)
 ·exact key _ (Af rfl)
theorem one_call(h:LI w s c)(hx:next=(c.pc+2)%4294967296):OneOk w (w.one0 ⟨38,n⟩ next) s c (AX c ⟨38,n⟩) ⟨38,n⟩:=by
 have e1:=Pf;have e2:AX c ⟨38,n⟩={c.next ⟨38,n⟩ with r:=c.r++[next],pc:=(next+CM n)%4294967296}:=TE;rw[e1,e2];have y:=h.add 0 0 0 next (c':=c) rfl rfl rfl h.same
 have hv:val s (w.add 0 0 0 next).code w.code.length=next:=by simp only[Lw.add_code,val,J9];simp[DW]
 refine⟨y.pushR _ JB rfl (by rw[hv]) rfl h.same,Bj _,Bj _,rfl, ?_,⟨_,rfl⟩,rfl,AD _,AD _⟩;show(c.r++[next]).length=c.r.length -0+1;simp
theorem TF(h:LI w s c)(hn:(w.one0 ⟨39,n⟩ next).nr≤s.r.length):OneOk w (w.one0 ⟨39,n⟩ next) s c (AX c ⟨39,n⟩) ⟨39,n⟩∧(w.one0 ⟨39,n⟩ next).tg=w.topR∧w.topR<(w.one0 ⟨39,n⟩ next).code.length∧(AX c ⟨39,n⟩).pc=val s (w.one0 ⟨39,n⟩ next).code w.topR:=by
 have e1:=TG;have e2:AX c ⟨39,n⟩={c.next ⟨39,n⟩ with r:=c.r.dropLast,pc:=AW c.r}:=TH;rw[e1] at hn⊢;rw[e2];obtain⟨y1,y2,y3,y4,y5⟩:=h.popR hn (c':={c.next ⟨39,n⟩ with r:=c.r.dropLast,pc:=AW c.r}) rfl rfl rfl h.same;have hl:=len_ne y2;refine⟨⟨⟨y1.D,y1.R,y1.fl,y1.same⟩,Bj _, ?_,rfl, ?_,y5,rfl,Nat.le_of_eq (GY w).2.1.symm,(GY w).2.2.2.2.2.1⟩,rfl,y3,y4.symm⟩;·show 1≤_;omega
 ·exact TB
theorem TI(h:LI w s c)(hn:(w.one0 ⟨40,n⟩ next).nd≤s.d.length):OneOk w (w.one0 ⟨40,n⟩ next) s c (AX c ⟨40,n⟩) ⟨40,n⟩∧(w.one0 ⟨40,n⟩ next).tg=w.topD∧w.topD<(w.one0 ⟨40,n⟩ next).code.length∧(AX c ⟨40,n⟩).pc=val s (w.one0 ⟨40,n⟩ next).code w.topD:=by
 have e1:=TJ;have e2:AX c ⟨40,n⟩={c.next ⟨40,n⟩ with d:=c.d.dropLast,pc:=AW c.d}:=TH;rw[e1] at hn⊢;rw[e2];obtain⟨y1,y2,y3,y4,y5⟩:=h.popD hn (c':={c.next ⟨40,n⟩ with d:=c.d.dropLast,pc:=AW c.d}) rfl rfl rfl h.same;have hl:=len_ne y2;refine⟨⟨⟨y1.D,y1.R,y1.fl,y1.same⟩, ?_,Bj _, ?_,rfl,y5,rfl,(Df w).2.2.2.2.2.1,Nat.le_of_eq (Df w).2.1.symm⟩,rfl,y3,y4.symm⟩;·show 1≤_;omega
 ·exact Pd
theorem LA{op:Int}(h:BZ op=Ag):op=0∨(op=1∨op=2)∨op=3∨op=4∨op=5∨op=6∨op=7∨op=8∨(16≤op∧op≤25∧op≠24)∨(32≤op∧op≤37)∨op=38∨op=39∨op=40:=by
 simp[BZ] at h;omega
theorem one_any(i:Ins)(h:LI w s c)(hp:BZ i.op=Ag)(hx:next=(c.pc+AK i.op)%4294967296)(hn:(w.one0 i next).nd≤s.d.length)(hm:(w.one0 i next).nr≤s.r.length):OneOk w (w.one0 i next) s c (AX c i) i:=by
 obtain⟨op,n⟩:=i;rcases LA hp with e|e|e|e|e|e|e|e|e|e|e|e|e;·have e:op=0:=e;subst e;exact one_nop h
 ·exact one_lit op e h
 ·have e:op=3:=e;subst e;exact one_dup h hn
 ·have e:op=4:=e;subst e;exact one_drop h hn
 ·have e:op=5:=e;subst e;exact one_swap h hn
 ·have e:op=6:=e;subst e;exact one_over h hn
 ·have e:op=7:=e;subst e;exact one_tor h hn
 ·have e:op=8:=e;subst e;exact kR h hm
 ·exact one_alu op e.1 e.2.1 e.2.2 h hn
 ·exact one_jump op e.1 e.2 h
 ·have e:op=38:=e;subst e;exact one_call h hx
 ·have e:op=39:=e;subst e;exact(TF h hm).1
 ·have e:op=40:=e;subst e;exact(TI h hn).1
end
theorem alu_r(w:Lw)(op:Int)(a b:Nat):(w.alu op a b).tg=w.tg∧(w.alu op a b).br=w.br∧(w.alu op a b).hd=w.hd∧(w.alu op a b).hr=w.hr:=by
 unfold Lw.alu;split<;>exact⟨rfl,rfl,rfl,rfl⟩
theorem Nl(P:Lw→Prop)(w:Lw)(i:Ins)(next:Int)(h1:i.op=1∨i.op=2→P ((w.add 0 0 0 i.n).pushD [w.code.length]))(h2:P (w.popD.pushD [w.topD,w.topD]))(h3:P w.popD)(h4:P (w.popD.popD.pushD [w.topD,w.popD.topD]))(h5:P (w.popD.popD.pushD [w.popD.topD,w.topD,w.popD.topD]))(h6:P (w.popD.pushR w.topD))(h7:P (w.popR.pushD [w.topR]))(h8:16≤i.op∧i.op≤25→P (w.popD.popD.alu i.op w.popD.topD w.topD))(h9:i.op=38→P ((w.add 0 0 0 next).pushR w.code.length))(h10:i.op=39→P {w.popR with tg:=w.topR})(h11:i.op=40→P {w.popD with tg:=w.topD})(h12:33≤i.op∧i.op≤37→P {w with br:=i.op})(h13:P w):P (w.one0 i next):=by
 unfold Lw.one0;by_cases c:i.op=1∨i.op=2;·rw[An c];exact h1 c
 rw[Ae c];clear c;by_cases c:i.op=3;·rw[An c];exact h2
 rw[Ae c];clear c;by_cases c:i.op=4;·rw[An c];exact h3
 rw[Ae c];clear c;by_cases c:i.op=5;·rw[An c];exact h4
 rw[Ae c];clear c;by_cases c:i.op=6;·rw[An c];exact h5
 rw[Ae c];clear c;by_cases c:i.op=7;·rw[An c];exact h6
 rw[Ae c];clear c;by_cases c:i.op=8;·rw[An c];exact h7
 rw[Ae c];clear c;by_cases c:16≤i.op∧i.op≤25;·rw[An c];exact h8 c
 rw[Ae c];clear c;by_cases c:i.op=38;·rw[An c];exact h9 c
 rw[Ae c];clear c;by_cases c:i.op=39;·rw[An c];exact h10 c
 rw[Ae c];clear c;by_cases c:i.op=40;·rw[An c];exact h11 c
 rw[Ae c];clear c;by_cases c:33≤i.op∧i.op≤37;·rw[An c];exact h12 c
 rw[Ae c];exact h13
theorem Nm(w:Lw)(i:Ins)(next:Int)(h:i.op<32):(w.one0 i next).tg=w.tg∧(w.one0 i next).br=w.br:=by
 have q:=Df w;have q2:=Df w.popD;have q3:=GY w;have q4:=alu_r w.popD.popD i.op w.popD.topD w.topD;have p1:w.popD.tg=w.tg∧w.popD.br=w.br:=⟨q.2.2.2.1,q.2.2.2.2.1⟩;have p2:w.popD.popD.tg=w.tg∧w.popD.popD.br=w.br:=⟨q2.2.2.2.1.trans p1.1,q2.2.2.2.2.1.trans p1.2⟩;have p3:w.popR.tg=w.tg∧w.popR.br=w.br:=⟨q3.2.2.2.1,q3.2.2.2.2.1⟩;exact Nl (λx=>x.tg=w.tg∧x.br=w.br) w i next (λ_=>⟨rfl,rfl⟩) p1 p1 p2 p2 p1 p3 (λ_=>⟨q4.1.trans p2.1,q4.2.1.trans p2.2⟩) (λe=>O) (λe=>O) (λe=>O) (λe=>O) ⟨rfl,rfl⟩
theorem TK(w:Lw)(i:Ins)(next:Int):(w.one0 i next).hd=w.hd∧(w.one0 i next).hr=w.hr:=by
 have q:=Df w;have q2:=Df w.popD;have q3:=GY w;have q4:=alu_r w.popD.popD i.op w.popD.topD w.topD;have p1:w.popD.hd=w.hd∧w.popD.hr=w.hr:=⟨q.2.2.2.2.2.2.1,q.2.2.2.2.2.2.2⟩;have p2:w.popD.popD.hd=w.hd∧w.popD.popD.hr=w.hr:=⟨q2.2.2.2.2.2.2.1.trans p1.1,q2.2.2.2.2.2.2.2.trans p1.2⟩;have p3:w.popR.hd=w.hd∧w.popR.hr=w.hr:=⟨q3.2.2.2.2.2.2.1,q3.2.2.2.2.2.2.2⟩;exact Nl (λx=>x.hd=w.hd∧x.hr=w.hr) w i next (λ_=>⟨rfl,rfl⟩) p1 p1 p2 p2 p1 p3 (λ_=>⟨q4.2.2.1.trans p2.1,q4.2.2.2.trans p2.2⟩) (λe=>⟨rfl,rfl⟩) (λe=>p3) (λe=>p1) (λe=>⟨rfl,rfl⟩) ⟨rfl,rfl⟩
theorem one0_nd(w:Lw)(i:Ins)(next:Int):w.nd≤(w.one0 i next).nd∧w.nr≤(w.one0 i next).nr:=by
 have q:=Df w;have q2:=Df w.popD;have q3:=GY w;have a1:(w.popD.popD.alu i.op w.popD.topD w.topD).nd=w.popD.popD.nd∧(w.popD.popD.alu i.op w.popD.topD w.topD).nr=w.popD.popD.nr:=by
  unfold Lw.alu;split<;>exact⟨rfl,rfl⟩
 have p1:w.nd≤w.popD.nd∧w.nr≤w.popD.nr:=O;have p2:w.nd≤w.popD.popD.nd∧w.nr≤w.popD.popD.nr:=O;have p3:w.nd≤w.popR.nd∧w.nr≤w.popR.nr:=O;exact Nl (λx=>w.nd≤x.nd∧w.nr≤x.nr) w i next (λ_=>⟨AD _,AD _⟩) p1 p1 p2 p2 p1 p3 (λ_=>by rw[a1.1,a1.2];exact p2) (λe=>⟨AD _,AD _⟩) (λe=>p3) (λe=>p1) (λe=>⟨AD _,AD _⟩) ⟨AD _,AD _⟩
theorem one_nd(w:Lw)(i:Ins)(next:Int):w.nd≤(w.one i next).nd∧w.nr≤(w.one i next).nr∧w.hd≤(w.one i next).hd∧w.hr≤(w.one i next).hr:=by
 have h1:=one0_nd w i next
 have h2:=TK w i next
 refine⟨h1.1,h1.2, ?_, ?_⟩;·show _≤max (w.one0 i next).hd _;omega
 ·show _≤max (w.one0 i next).hr _;omega
theorem all_nd: ∀(l:List Ins) (w:Lw) (pc:Int),w.nd≤(w.all pc l).nd∧w.nr≤(w.all pc l).nr∧w.hd≤(w.all pc l).hd∧w.hr≤(w.all pc l).hr
 |[],w,pc=>⟨AD _,AD _,AD _,AD _⟩
 |i::l,w,pc=>by
  have h1:=one_nd w i ((pc+AK i.op)%4294967296);have h2:=all_nd l (w.one i ((pc+AK i.op)%4294967296)) ((pc+AK i.op)%4294967296);exact⟨Bf h1.1 h2.1,Bf h1.2.1 h2.2.1,Bf h1.2.2.1 h2.2.2.1,Bf h1.2.2.2 h2.2.2.2⟩
theorem Ph: ∀(l:List Ins) (w:Lw) (pc:Int) (i:Ins),w.all pc (l++[i])=(w.all pc l).one i ((pcs pc l+AK i.op)%4294967296)
 |[],w,pc,i=>rfl
 |j::l,w,pc,i=>Ph l _ _ i
theorem TL: ∀(l:List Ins) (pc:Int) (i:Ins),pcs pc (l++[i])=(pcs pc l+AK i.op)%4294967296
 |[],pc,i=>rfl
 |j::l,pc,i=>TL l _ i
theorem TM: ∀(l:List Ins) (s c:St) (i:Ins),CG s l=I c→CG s (l++[i])=if check c i=0 then I (AX c i) else G
 |[],s,c,i,h=>by
  have:=Pi;subst this;simp[CG]
 |j::l,s,c,i,h=>by
  rw[DI];rw[CG] at h⊢;split at h
  ·rename_i hc
   rw[An hc];exact TM l _ c i h
  ·cases h
theorem TN{w w':Lw}{s c:St}{i:Ins}(h:OneOk w w' s c (AX c i) i)(hr:DR i=Ag)(hp:BZ i.op=Ag)(h1:(AX c i).d.length≤16)(h2:(AX c i).r.length≤16):check c i=0:=by
 have hs:Gn i.op=Ac:=by simp[BZ] at hp;simp[Gn];omega
 have e1:decide (i.op=66)=Ac:=by simp[BZ] at hp;simp;omega
 have e2:decide (i.op=67)=Ac:=by simp[BZ] at hp;simp;omega
 have a:=h.td;have b:=h.tr;have x:=h.ld;have y:=h.lr;unfold check;rw[hr,hs,e1,e2];simp only[GX];rw[Ae AC,Ae AC,Ae AC,Ae AC,Ae O,Ae O]
theorem TO(s:St): ∀(l:List Ins) (w:Lw) (c:St),LI w s c→(∀i∈l,DR i=Ag∧BZ i.op=Ag∧endsB i.op=Ac)→
 (w.all c.pc l).nd≤s.d.length→(w.all c.pc l).nr≤s.r.length→s.d.length+(w.all c.pc l).hd≤16→s.r.length+(w.all c.pc l).hr≤16→
 ∃c',CG c l=I c'∧LI (w.all c.pc l) s c'∧c'.pc=pcs c.pc l∧(w.all c.pc l).tg=w.tg∧(w.all c.pc l).br=w.br∧c'.ct%18446744073709551616=(c.ct+l.length)%18446744073709551616
 |[],w,c,h,_,_,_,_,_=>⟨c,rfl,h,rfl,rfl,rfl,AC⟩
 |i::l,w,c,h,hl,hd,hr,h1,h2=>by
  obtain⟨i1,i2,i3⟩:=hl i AC;have i4:i.op<32:=by simp[BZ] at i2;simp[endsB] at i3;omega
  have hall:=all_nd l (w.one i ((c.pc+AK i.op)%4294967296)) ((c.pc+AK i.op)%4294967296);have hall:(w.one i ((c.pc+AK i.op)%4294967296)).nd≤(w.all c.pc (i::l)).nd∧(w.one i ((c.pc+AK i.op)%4294967296)).nr≤(w.all c.pc (i::l)).nr∧(w.one i ((c.pc+AK i.op)%4294967296)).hd≤(w.all c.pc (i::l)).hd∧(w.one i ((c.pc+AK i.op)%4294967296)).hr≤(w.all c.pc (i::l)).hr:=hall;have hone:(w.one i ((c.pc+AK i.op)%4294967296)).nd=(w.one0 i ((c.pc+AK i.op)%4294967296)).nd∧(w.one i ((c.pc+AK i.op)%4294967296)).nr=(w.one0 i ((c.pc+AK i.op)%4294967296)).nr:=⟨rfl,rfl⟩;have AU:=one_any i h i2 rfl O O;have hb1:(w.one0 i ((c.pc+AK i.op)%4294967296)).ld.length -(w.one0 i ((c.pc+AK i.op)%4294967296)).nd≤(w.one i ((c.pc+AK i.op)%4294967296)).hd:=Nn;have hb2:(w.one0 i ((c.pc+AK i.op)%4294967296)).lr.length -(w.one0 i ((c.pc+AK i.op)%4294967296)).nr≤(w.one i ((c.pc+AK i.op)%4294967296)).hr:=Nn;have l1:=AU.li.D.len;have l2:=AU.li.R.len;have n1:=AU.li.D.le;have n2:=AU.li.R.le;have hc:=TN AU i1 i2 O O;have hpc:(AX c i).pc=(c.pc+AK i.op)%4294967296:=by
   rcases LA i2 with e|e|e|e|e|e|e|e|e|e|e|e|e
   all_goals first
    |(exfalso;omega)
    |skip
   all_goals unfold AX
   all_goals by_cases hk:C8 i.op=Ag
   all_goals first
    |(rw[An hk];unfold stackS;(repeat' split);all_goals rfl)
    |(exfalso;apply hk;simp[C8];omega)
    |(rw[Ae hk];unfold reckS;rw[An ⟨e.1,e.2.1⟩];rfl)
  have ht:=Nm w i ((c.pc+AK i.op)%4294967296) i4;have ih:=TO s l (w.one i ((c.pc+AK i.op)%4294967296)) (AX c i) ⟨AU.li.D,AU.li.R,AU.li.fl,AU.li.same⟩ (λj hj=>hl j FJ);rw[hpc] at ih;obtain⟨c',q1,q2,q3,q4,q5,q6⟩:=ih hd hr h1 h2;refine⟨c', ?_,q2,q3,q4.trans ht.1,q5.trans ht.2, ?_⟩;·rw[CG,An hc];exact q1
  ·rw[q6,AU.ct,D8]
   push_cast
   omega
theorem st_eq{s c:St}(h:JA s c):c={s with pc:=c.pc,d:=c.d,r:=c.r,fl:=c.fl,ct:=c.ct}:=by
 obtain⟨h1,h2,h3,h4,h5,h6,h7,h8,h9,h10,h11⟩:=h
 cases c
 cases s
 simp only at*;subst h1 h2 h3 h4 h5 h6 h7 h8 h9 h10 h11;rfl
theorem LI.start(s:St):LI Lw.new s s:=
 ⟨⟨Bj _,IE,IE⟩,⟨Bj _,IE,IE⟩,Af ⟨rfl,rfl⟩,⟨rfl,rfl,rfl,rfl,rfl,rfl,rfl,rfl,rfl,rfl,rfl⟩⟩
theorem last_pc{w:Lw}{s c:St}(i:Ins)(next:Int)(h:LI w s c)(hp:BZ i.op=Ag)(hx:next=(c.pc+AK i.op)%4294967296)(hn:(w.one0 i next).nd≤s.d.length)(hm:(w.one0 i next).nr≤s.r.length)(ht:w.tg= -1)(hb:w.br=0):
 (AX c i).pc=if(w.one0 i next).tg≠ -1 then vat (evs s (w.one0 i next).code) (w.one0 i next).tg
  else if(w.one0 i next).br≠0∧Gp (w.one0 i next).br (AX c i).fl=Ag then(if i.op=32∨i.op=38 then 0 else if(w.one0 i next).br≠0 then(next+CM i.n)%4294967296 else 0)
  else if i.op=32∨i.op=38 then(next+CM i.n)%4294967296 else next:=by
 obtain⟨op,n⟩:=i
 by_cases hlt:op<32
 ·have hh:=Nm w ⟨op,n⟩ next hlt
  rw[hh.1,hh.2,ht,hb];simp only[ne_eq,not_true,if_false,false_and];rw[Ae O,hx];have hp':=LA hp;unfold AX;by_cases hk:C8 op=Ag;·rw[An hk];exact Pj
  ·rw[Ae hk];unfold reckS;have hk2: ¬(0≤op∧op≤8):=λe=>hk (by simp[C8];exact e);rw[An (by simp only at hp';show 16≤op∧op≤25;omega)];rfl
 ·have hp':=LA hp;have hp':(32≤op∧op≤37)∨op=38∨op=39∨op=40:=by simp only at hp';omega
  rcases hp' with e|e|e|e
  ·have e1:w.one0 ⟨op,n⟩ next=if 33≤op then{w with br:=op} else w:=by
    unfold Lw.one0;simp only[];rw[Ae O,Ae O,Ae O,Ae O,Ae O,Ae O,Ae O,Ae O,Ae O,Ae O,Ae O];by_cases e:33≤op;·rw[An e,An ⟨e,O⟩]
    ·rw[Ae e,Ae O]
   have hst: ¬C8 op=Ag:=Pe;by_cases e32:op=32
   ·have e1:w.one0 ⟨op,n⟩ next=w:=by rw[e1,Ae (by omega)]
    rw[e1,ht,hb];simp only[ne_eq,not_true,if_false,false_and];rw[An (show op=32∨op=38 from Af e32),hx];unfold AX;rw[Ae hst];unfold reckS;simp only[];rw[Ae O,Ae O,An e32];rfl
   ·have e1:w.one0 ⟨op,n⟩ next={w with br:=op}:=by rw[e1,An (by omega)]
    rw[e1];simp only[ht,ne_eq,not_true,if_false];have ne0: ¬op=0:=O;have ne1: ¬(op=32∨op=38):=O;simp only[ne0,ne1,not_false_eq_true,true_and,if_true,if_false];unfold AX;rw[Ae hst];unfold reckS;simp only[];rw[Ae O,Ae O,Ae O,Ae O,Ae O];have ef:(c.next ⟨op,n⟩).fl=c.fl:=rfl;rw[ef];by_cases hh:Gp op c.fl=Ag;·rw[An hh];show _=if Gp op c.fl=Ag then _ else _;rw[An hh,hx];rfl
    ·rw[Ae hh];show _=if Gp op c.fl=Ag then _ else _;rw[Ae hh,hx];rfl
  ·subst e;have e1:=Pf;have e2:(AX c ⟨38,n⟩).pc=(next+CM n)%4294967296:=TE;rw[e2,e1];have h1:((w.add 0 0 0 next).pushR w.code.length).tg= -1:=ht;have h2:((w.add 0 0 0 next).pushR w.code.length).br=0:=hb;rw[h1,h2];simp
  ·subst e;obtain⟨_,q2,q3,q4⟩:=TF (next:=next) (n:=n) h hm;rw[q4,q2];rw[An (show((w.topR:Nat):Int)≠ -1 by omega),vat,Du];rfl
  ·subst e;obtain⟨_,q2,q3,q4⟩:=TI (next:=next) (n:=n) h hn;rw[q4,q2];rw[An (show((w.topD:Nat):Int)≠ -1 by omega),vat,Du];rfl
theorem lower_ok(s:St)(l:List Ins)(hl:l≠[])(hall: ∀i∈l,DR i=Ag∧BZ i.op=Ag)(hends: ∀i∈l.dropLast,endsB i.op=Ac)(F:Fits (lower0 s.pc l) s):CG s l=I (left (lower0 s.pc l) s (evs s (lower0 s.pc l).code)):=by
 obtain⟨m,i,rfl⟩: ∃m i,l=m++[i]:=TP;rw[Gw] at hends;obtain⟨f1,f2,f3,f4⟩:=F;have ew:Lw.new.all s.pc (m++[i])=(Lw.new.all s.pc m).one i ((pcs s.pc m+AK i.op)%4294967296):=Ph m _ _ i;have f1:(Lw.new.all s.pc (m++[i])).nd≤s.d.length:=f1;have f2:(Lw.new.all s.pc (m++[i])).nr≤s.r.length:=f2;have f3:s.d.length+(Lw.new.all s.pc (m++[i])).hd≤16:=f3;have f4:s.r.length+(Lw.new.all s.pc (m++[i])).hr≤16:=f4;have hnd:=one_nd (Lw.new.all s.pc m) i ((pcs s.pc m+AK i.op)%4294967296);rw[←ew] at hnd;obtain⟨c,q1,q2,q3,q4,q5,q6⟩:=TO s m Lw.new s (LI.start s) (λj hj=>⟨(hall j FJ).1,(hall j FJ).2,hends j hj⟩) O O O O;obtain⟨i1,i2⟩:=hall i AC;rw[ew] at f1 f2 f3 f4;generalize hw:Lw.new.all s.pc m=w at*;generalize hx:(pcs s.pc m+AK i.op)%4294967296=next at*
 have hx':next=(c.pc+AK i.op)%4294967296:=by rw[q3,hx]
 have AU:=one_any i q2 i2 hx' f1 f2;have hb1:(w.one0 i next).ld.length -(w.one0 i next).nd≤(w.one i next).hd:=Nn;have hb2:(w.one0 i next).lr.length -(w.one0 i next).nr≤(w.one i next).hr:=Nn;have l1:=AU.li.D.len;have l2:=AU.li.R.len;have n1:=AU.li.D.le;have n2:=AU.li.R.le;have hc:=TN AU i1 i2 O O;rw[TM m s c i q1,An hc];congr 1;have hP:=last_pc i next q2 i2 hx' f1 f2 q4 q5
 have eL:lower0 s.pc (m++[i])={code:=(w.one0 i next).code,nd:=(w.one0 i next).nd,nr:=(w.one0 i next).nr,hd:=(w.one i next).hd,hr:=(w.one i next).hr,od:=(w.one0 i next).ld,or:=(w.one0 i next).lr,fl:=(w.one0 i next).fl,tg:=(w.one0 i next).tg,br:=(w.one0 i next).br,ct:=(m++[i]).length,nx:=if i.op=32∨i.op=38 then(next+CM i.n)%4294967296 else next,tk:=if(i.op=32∨i.op=38) then 0 else if(w.one0 i next).br≠0 then(next+CM i.n)%4294967296 else 0}:=by
  have eI:EU (m++[i])=i:=by simp[EU,FI]
  have eP:pcs s.pc (m++[i])=next:=by rw[TL,hx]
  unfold lower0;rw[ew,eI,eP];rfl
 rw[eL];unfold left;simp only[];have hfl:(AX c i).fl=if(w.one0 i next).fl= -1 then s.fl else vat (evs s (w.one0 i next).code) (w.one0 i next).fl%16:=by
  rcases AU.li.fl with⟨a1,a2⟩|⟨a1,a2,a3,a4,a5⟩;·rw[An a1,a2]
  ·have e:vat (evs s (w.one0 i next).code) (w.one0 i next).fl=(AX c i).fl:=a3.symm;rw[Ae O,e,Int.emod_eq_of_lt a4 a5]
 rw[←hfl,←hP];rw[st_eq AU.li.same,AU.li.D.eq,AU.li.R.eq];have hct:(AX c i).ct=(s.ct+((m++[i]).length:Nat))%18446744073709551616:=by
  rw[AU.ct];simp only[Cq,D8,Gx]
  push_cast
  omega
 rw[hct];rfl
end Tr
namespace Tr
open Gs
abbrev z0:IIn:=⟨0,0,0,0,0⟩
abbrev at_(code:List IIn)(i:Nat):IIn:=code.getD i z0
def upB(u:Nat→Bool)(n:Nat):Nat→Bool:=λk=>if k=n then Ag else u k
def Gy(u:Nat→Bool)(l:List Nat):Nat→Bool:=l.foldl upB u
def Fg(u:Nat→Bool)(n:Int):Nat→Bool:=if n= -1 then u else upB u n.toNat
def Np(p:Pg):Nat→Bool:=Fg (Fg (Gy (Gy (λ_=>Ac) p.od) p.or) p.fl) p.tg
def Fh(code:List IIn)(u:Nat→Bool)(i:Nat):Nat→Bool:=if u i=Ag∧3≤(at_ code i).op then upB (upB u (at_ code i).a) (at_ code i).b else u
def Gz(code:List IIn):Nat→(Nat→Bool)→(Nat→Bool)
 |0,u=>u
 |k+1,u=>Gz code k (Fh code u k)
def Cz(p:Pg):Nat→Bool:=Gz p.code p.code.length (Np p)
def upN(f:Nat→Nat)(n v:Nat):Nat→Nat:=λk=>if k=n then v else f k
structure Sw where
 pl:Nat→Nat
 out:List IIn
def Ey(pl:Nat→Nat)(k:Nat)(x:IIn):IIn:=if 3≤x.op then⟨x.op,k,pl x.a,pl x.b,x.imm⟩ else{x with dst:=k}
def JC(code:List IIn)(u:Nat→Bool)(w:Sw)(i:Nat):Sw:=if u i=Ag then⟨upN w.pl i w.out.length,w.out++[Ey (upN w.pl i w.out.length) w.out.length (at_ code i)]⟩ else w
def swN(code:List IIn)(u:Nat→Bool):Nat→Sw
 |0=>⟨λ_=>0,[]⟩
 |k+1=>JC code u (swN code u k) k
def CN(pl:Nat→Nat)(n:Int):Int:=if n= -1 then -1 else pl n.toNat
def sweepP(p:Pg):Pg:=
 {p with code:=(swN p.code (Cz p) p.code.length).out,od:=p.od.map (swN p.code (Cz p) p.code.length).pl,or:=p.or.map (swN p.code (Cz p) p.code.length).pl,fl:=CN (swN p.code (Cz p) p.code.length).pl p.fl,tg:=CN (swN p.code (Cz p) p.code.length).pl p.tg}
structure MadeOk(nd nr:Nat)(x:IIn)(i:Nat):Prop where
 dst:x.dst=i
 op:x.op≤4
 low:x.op<3→x.a=0∧x.b=0
 arg:x.op=1→0≤x.imm∧x.imm<nd
 ret:x.op=2→0≤x.imm∧x.imm<nr
 ab:3≤x.op→x.a<i∧x.b<i
 alu:x.op=3→16≤x.imm∧x.imm≤23
 flg:x.op=4→(16≤x.imm∧x.imm≤23)∨x.imm=25
 imm:0≤x.imm∧x.imm≤4294967295
structure WF(p:Pg):Prop where
 code: ∀i,i<p.code.length→MadeOk p.nd p.nr (at_ p.code i) i
 len:p.code.length≤64
 nd:p.nd≤16
 nr:p.nr≤16
 hd:p.hd≤16
 hr:p.hr≤16
 od: ∀n∈p.od,n<p.code.length
 or: ∀n∈p.or,n<p.code.length
 fl:p.fl= -1∨(0≤p.fl∧p.fl<p.code.length)
 tg:p.tg= -1∨(0≤p.tg∧p.tg<p.code.length)
 br:p.br=0∨(33≤p.br∧p.br≤37∧p.tg= -1)
 ct:1≤p.ct∧p.ct≤8
 nx:0≤p.nx∧p.nx≤4294967295
 tk:0≤p.tk∧p.tk≤4294967295
 odl:p.od.length≤64
 orl:p.or.length≤64
variable{u:Nat→Bool}{k:Nat}
theorem LC{n:Nat}(h:u k=Ag):upB u n k=Ag:=by unfold upB;split<;>simp[h]
theorem Nq(u:Nat→Bool)(n:Nat):upB u n n=Ag:=by simp[upB]
theorem Pk: ∀(l:List Nat) {u:Nat→Bool} {k:Nat},u k=Ag→Gy u l k=Ag
 |[],_,_,h=>h
 |n::l,_,_,h=>Pk l (LC h)
theorem Po: ∀(l:List Nat) {u:Nat→Bool} {k:Nat},k∈l→Gy u l k=Ag
 |n::l,u,k,h=>by
  rcases Dv.1 h with rfl|h;·exact Pk l (Nq _ _)
  ·exact Po l h
theorem LD{n:Int}(h:u k=Ag):Fg u n k=Ag:=by
 unfold Fg;split;·exact h
 ·exact LC h
theorem TQ{n:Int}(h:n≠ -1):Fg u n n.toNat=Ag:=by
 unfold Fg;rw[Ae h];exact Nq _ _
variable{code:List IIn}
theorem kS{i:Nat}(h:u k=Ag):Fh code u i k=Ag:=by
 unfold Fh;split;·exact LC (LC h)
 ·exact h
theorem JD(code:List IIn): ∀(k:Nat) {u:Nat→Bool} {n:Nat},u n=Ag→Gz code k u n=Ag
 |0,_,_,h=>h
 |k+1,_,_,h=>JD code k (kS h)
theorem TS{i n:Nat}(hab:3≤(at_ code i).op→(at_ code i).a<i∧(at_ code i).b<i)(hn:i≤n):Fh code u i n=u n:=by
 unfold Fh;split
 ·rename_i h
  have:=hab h.2;unfold upB;rw[Ae O,Ae O]
 ·rfl
theorem TT: ∀(k:Nat) {u:Nat→Bool} {n:Nat},(∀i,i<k→3≤(at_ code i).op→(at_ code i).a<i∧(at_ code i).b<i)→k≤n→Gz code k u n=u n
 |0,_,_,_,_=>rfl
 |k+1,u,n,hab,hn=>by
  rw[Gz,TT k (λi hi=>hab i O) O,TS (hab k O) O]
theorem TU: ∀(k:Nat) {u:Nat→Bool},(∀i,i<k→3≤(at_ code i).op→(at_ code i).a<i∧(at_ code i).b<i)→
 ∀i,i<k→Gz code k u i=Ag→3≤(at_ code i).op→Gz code k u (at_ code i).a=Ag∧Gz code k u (at_ code i).b=Ag
 |0,_,_,i,hi,_,_=>absurd hi O
 |k+1,u,hab,i,hi,hu,h3=>by
  rw[Gz] at hu⊢;by_cases e:i=k
  ·subst e;rw[TT i (λj hj=>hab j O) (AD _),TS (hab i O) (AD _)] at hu;have:Fh code u i=upB (upB u (at_ code i).a) (at_ code i).b:=by unfold Fh;rw[An ⟨hu,h3⟩]
   rw[this];exact⟨JD code i (LC (Nq _ _)),JD code i (Nq _ _)⟩
  ·exact TU k (λj hj=>hab j O) i O hu h3
theorem Pp(s:St)(code:List IIn)(i:Nat)(hi:i<code.length)(hab:3≤(at_ code i).op→(at_ code i).a<i∧(at_ code i).b<i):val s code i=DW s (evs s code) (at_ code i):=by
 have e:code=(code.take i++[at_ code i])++code.drop (i+1):=by
  rw[C9,IF,at_,AS,BK hi,Option.getD_some,←List.drop_eq_getElem_cons hi,List.take_append_drop]
 have hl:(code.take i).length=i:=AA;have hv: ∀j,j<i→(evs s code).getD j 0=(evs s (code.take i)).getD j 0:=by
  intro j hj
  conv=>lhs;rw[←List.take_append_drop i code]
  exact ID s _ _ j O
 have h1:val s code i=DW s (evs s (code.take i)) (at_ code i):=by
  refine(congrArg (λc=>val s c i) e).trans ?_;show(evs s ((code.take i++[at_ code i])++code.drop (i+1))).getD i 0=_;rw[ID s _ _ i AA];have:=J9 s (code.take i) (at_ code i);rw[hl] at this;exact this
 rw[h1];by_cases h3:3≤(at_ code i).op;·obtain⟨ha,hb⟩:=hab h3;unfold DW;rw[hv _ ha,hv _ hb]
 ·unfold DW;by_cases c0:(at_ code i).op=0;·rw[An c0,An c0]
  ·rw[Ae c0,Ae c0];by_cases c1:(at_ code i).op=1;·rw[An c1,An c1]
   ·rw[Ae c1,Ae c1,An O,An O]
structure SwOk(p:Pg)(s:St)(k:Nat)(w:Sw):Prop where
 len:w.out.length≤k
 val: ∀j,j<k→Cz p j=Ag→w.pl j<w.out.length∧val s w.out (w.pl j)=val s p.code j
 code: ∀i,i<w.out.length→MadeOk p.nd p.nr (at_ w.out i) i
theorem TV(l m:List IIn)(i:Nat)(h:i<l.length):at_ (l++m) i=at_ l i:=by simp[at_,AS,Ff h]
theorem TW(l:List IIn)(x:IIn):at_ (l++[x]) l.length=x:=by simp[at_,AS]
variable{p:Pg}
theorem TX(h:WF p)(i:Nat)(hi:i<p.code.length)(hu:Cz p i=Ag)(h3:3≤(at_ p.code i).op):Cz p (at_ p.code i).a=Ag∧Cz p (at_ p.code i).b=Ag:=
 TU p.code.length (λj hj=>(h.code j hj).ab) i hi hu h3
theorem sw_ok(h:WF p)(s:St): ∀k,k≤p.code.length→SwOk p s k (swN p.code (Cz p) k)
 |0,_=>⟨AD _,λj hj=>absurd hj O,λi hi=>absurd hi (by simp[swN])⟩
 |k+1,hk=>by
  have ih:=sw_ok h s k O;have M:=h.code k O;rw[swN];generalize swN p.code (Cz p) k=w at*;by_cases hu:Cz p k=Ag
  ·have e:JC p.code (Cz p) w k=⟨upN w.pl k w.out.length,w.out++[Ey (upN w.pl k w.out.length) w.out.length (at_ p.code k)]⟩:=by unfold JC;rw[An hu]
   rw[e];have hx:MadeOk p.nd p.nr (Ey (upN w.pl k w.out.length) w.out.length (at_ p.code k)) w.out.length:=by
    by_cases h3:3≤(at_ p.code k).op;·obtain⟨ha,hb⟩:=M.ab h3;obtain⟨ua,ub⟩:=TX h k O hu h3;have va:=(ih.val _ ha ua).1;have vb:=(ih.val _ hb ub).1;have em:Ey (upN w.pl k w.out.length) w.out.length (at_ p.code k)=⟨(at_ p.code k).op,w.out.length,w.pl (at_ p.code k).a,w.pl (at_ p.code k).b,(at_ p.code k).imm⟩:=TY;rw[em];exact⟨rfl,M.op,λq=>absurd q DJ,M.arg,M.ret,λ_=>⟨va,vb⟩,M.alu,M.flg,M.imm⟩
    ·have em:Ey (upN w.pl k w.out.length) w.out.length (at_ p.code k)={at_ p.code k with dst:=w.out.length}:=by unfold Ey;rw[Ae h3]
     rw[em];exact⟨rfl,M.op,M.low,M.arg,M.ret,λq=>absurd q h3,M.alu,M.flg,M.imm⟩
   refine⟨by simp;have:=ih.len;omega,λj hj hj2=>?_,λi hi=>?_⟩
   ·by_cases ej:j=k
    ·subst ej;have e1:upN w.pl j w.out.length j=w.out.length:=by simp[upN]
     show upN w.pl j w.out.length j<(w.out++[_]).length∧Tr.val s (w.out++[_]) (upN w.pl j w.out.length j)=_;rw[e1];refine⟨AC, ?_⟩;rw[Tr.val,J9];have hv:=Pp s p.code j O M.ab;rw[hv];by_cases h3:3≤(at_ p.code j).op;·obtain⟨ha,hb⟩:=M.ab h3;obtain⟨ua,ub⟩:=TX h j O hu h3;have va:=(ih.val _ ha ua).2;have vb:=(ih.val _ hb ub).2;have em:Ey (upN w.pl j w.out.length) w.out.length (at_ p.code j)=⟨(at_ p.code j).op,w.out.length,w.pl (at_ p.code j).a,w.pl (at_ p.code j).b,(at_ p.code j).imm⟩:=TY;rw[em];unfold DW;simp only[Tr.val] at va vb;simp only[va,vb]
     ·have em:Ey (upN w.pl j w.out.length) w.out.length (at_ p.code j)={at_ p.code j with dst:=w.out.length}:=by unfold Ey;rw[Ae h3]
      rw[em];unfold DW;by_cases c0:(at_ p.code j).op=0;·rw[An c0,An c0]
      ·rw[Ae c0,Ae c0];by_cases c1:(at_ p.code j).op=1;·rw[An c1,An c1]
       ·have c2:(at_ p.code j).op=2:=O;rw[Ae c1,Ae c1,An c2,An c2]
    ·obtain⟨a1,a2⟩:=ih.val j O hj2;have e1:upN w.pl k w.out.length j=w.pl j:=by simp[upN,ej]
     show upN w.pl k w.out.length j<(w.out++[_]).length∧Tr.val s (w.out++[_]) (upN w.pl k w.out.length j)=_;rw[e1];refine⟨AA, ?_⟩;rw[Tr.val,ID _ _ _ _ a1];exact a2
   ·by_cases ei:i<w.out.length;·have:=ih.code i ei;show MadeOk _ _ (at_ (w.out++_) i) i;rw[TV _ _ _ ei];exact this
    ·have:i=w.out.length:=by simp at hi;omega
     subst this;show MadeOk _ _ (at_ (w.out++_) _) _;rw[TW];exact hx
  ·have e:JC p.code (Cz p) w k=w:=by unfold JC;rw[Ae hu]
   rw[e];exact⟨by have:=ih.len;omega,λj hj hj2=>ih.val j (by rcases DG j k with q|q;exact q;exact absurd (show Cz p k=Ag by rw[show k=j by omega];exact hj2) hu) hj2,ih.code⟩
theorem TZ{n:Nat}(h:n∈p.od):Cz p n=Ag:=JD _ _ (LD (LD (Pk _ (Po _ h))))
theorem Ua{n:Nat}(h:n∈p.or):Cz p n=Ag:=JD _ _ (LD (LD (Po _ h)))
theorem Ub(h:p.fl≠ -1):Cz p p.fl.toNat=Ag:=JD _ _ (LD (TQ h))
theorem Ps(h:p.tg≠ -1):Cz p p.tg.toNat=Ag:=JD _ _ (TQ h)
theorem sweep_ok(h:WF p)(s:St):WF (sweepP p)∧left (sweepP p) s (evs s (sweepP p).code)=left p s (evs s p.code):=by
 have S:=sw_ok h s p.code.length (AD _);unfold sweepP;generalize swN p.code (Cz p) p.code.length=w at*;refine⟨⟨S.code,Bf S.len h.len,h.nd,h.nr,h.hd,h.hr,λn hn=>?_,λn hn=>?_, ?_, ?_, ?_,h.ct,h.nx,h.tk,by simpa using h.odl,by simpa using h.orl⟩, ?_⟩;·obtain⟨m,hm,rfl⟩:=BS.1 hn;exact(S.val m (h.od m hm) (TZ hm)).1
 ·obtain⟨m,hm,rfl⟩:=BS.1 hn;exact(S.val m (h.or m hm) (Ua hm)).1
 ·show CN _ _= -1∨_;unfold CN;split;·exact Af rfl
  ·rename_i e
   rcases h.fl with q|q;·exact absurd q e
   ·have:=(S.val p.fl.toNat O (Ub e)).1;right;show(0:Int)≤(w.pl p.fl.toNat:Nat)∧((w.pl p.fl.toNat:Nat):Int)<(w.out.length:Nat);omega
 ·show CN _ _= -1∨_;unfold CN;split;·exact Af rfl
  ·rename_i e
   rcases h.tg with q|q;·exact absurd q e
   ·have:=(S.val p.tg.toNat O (Ps e)).1;right;show(0:Int)≤(w.pl p.tg.toNat:Nat)∧((w.pl p.tg.toNat:Nat):Int)<(w.out.length:Nat);omega
 ·rcases h.br with q|⟨q1,q2,q3⟩;·exact Af q
  ·refine Ah ⟨q1,q2, ?_⟩;show CN _ _= -1;unfold CN;rw[An q3]
 ·have vI: ∀n:Int,(n= -1∨(0≤n∧n<p.code.length))→(n≠ -1→Cz p n.toNat=Ag)→n≠ -1→(CN w.pl n≠ -1∧vat (evs s w.out) (CN w.pl n)=vat (evs s p.code) n):=by
   intro n hn hu ne;have hlt:n.toNat<p.code.length:=by rcases hn with q|q;exact absurd q ne;omega
   obtain⟨a1,a2⟩:=S.val n.toNat hlt (hu ne);unfold CN;rw[Ae ne];refine⟨O, ?_⟩;unfold vat;rw[Du];exact a2
  have vL: ∀l:List Nat,(∀n∈l,n<p.code.length)→(∀n∈l,Cz p n=Ag)→(l.map w.pl).map (λn=>(evs s w.out).getD n 0)=l.map (λn=>(evs s p.code).getD n 0):=by
   intro l h1 h2;rw[GZ];exact List.map_congr_left λn hn=>(S.val n (h1 n hn) (h2 n hn)).2
  unfold left;simp only[];rw[vL p.od h.od (λn hn=>TZ hn),vL p.or h.or (λn hn=>Ua hn)];have hfl:(if CN w.pl p.fl= -1 then s.fl else vat (evs s w.out) (CN w.pl p.fl)%16)=if p.fl= -1 then s.fl else vat (evs s p.code) p.fl%16:=by
   by_cases e:p.fl= -1;·rw[An e,An (by unfold CN;rw[An e])]
   ·obtain⟨a,b⟩:=vI p.fl h.fl Ub e;rw[Ae e,Ae a,b]
  rw[hfl];have htg:CN w.pl p.tg≠ -1↔p.tg≠ -1:=by
   constructor;·intro e q;exact e (by unfold CN;rw[An q])
   ·intro e;exact(vI p.tg h.tg Ps e).1
  by_cases e:p.tg≠ -1;·rw[An (htg.2 e),An e,(vI p.tg h.tg Ps e).2]
  ·rw[Ae (λq=>e (htg.1 q)),Ae e]
end Tr
namespace Tr
open Gs
theorem MadeOk.more{nd nr nd' nr':Nat}{x:IIn}{i:Nat}(h:MadeOk nd nr x i)(h1:nd≤nd')(h2:nr≤nr'):MadeOk nd' nr' x i:=
 ⟨h.dst,h.op,h.low,λe=>by have:=h.arg e;omega,λe=>by have:=h.ret e;omega,h.ab,h.alu,h.flg,h.imm⟩
structure LW(w:Lw)(k:Nat):Prop where
 code: ∀i,i<w.code.length→MadeOk w.nd w.nr (at_ w.code i) i
 ld: ∀n∈w.ld,n<w.code.length
 lr: ∀n∈w.lr,n<w.code.length
 fl:w.fl= -1∨(0≤w.fl∧w.fl<w.code.length)
structure LN(w:Lw)(len nd nr:Nat)(dd dr:Int):Prop where
 len:w.code.length≤len
 nd:w.nd≤nd
 nr:w.nr≤nr
 dd:(w.ld.length:Int) -w.nd≤dd
 dr:(w.lr.length:Int) -w.nr≤dr
theorem LN.more{w:Lw}{len nd nr len' nd' nr':Nat}{dd dr dd' dr':Int}(h:LN w len nd nr dd dr)(h1:len≤len')(h2:nd≤nd')(h3:nr≤nr')(h4:dd≤dd')(h5:dr≤dr'):LN w len' nd' nr' dd' dr':=
 ⟨Bf h.len h1,Bf h.nd h2,Bf h.nr h3,Int.le_trans h.dd h4,Int.le_trans h.dr h5⟩
section
variable {w:Lw} {k len nd nr:Nat} {dd dr:Int}
theorem LW.add(h:LW w k)(op a b:Nat)(imm:Int)(hM:MadeOk w.nd w.nr ⟨op,w.code.length,a,b,imm⟩ w.code.length):LW (w.add op a b imm) k:=by
 refine⟨λi hi=>?_,λn hn=>?_,λn hn=>?_, ?_⟩
 ·show MadeOk w.nd w.nr (at_ (w.code++[_]) i) i;by_cases e:i<w.code.length;·rw[TV _ _ _ e];exact h.code i e
  ·have:i=w.code.length:=by simp[Lw.add] at hi;omega
   subst this;rw[TW];exact hM
 ·have:=h.ld n hn;simp[Lw.add];omega
 ·have:=h.lr n hn;simp[Lw.add];omega
 ·rcases h.fl with q|q;·exact Af q
  ·right;simp only[Lw.add,Cq,D8,Gx];omega
theorem LN.add(h:LN w len nd nr dd dr)(op a b:Nat)(imm:Int):LN (w.add op a b imm) (len+1) nd nr dd dr:=
 ⟨by have:=h.len;simp[Lw.add];omega,h.nd,h.nr,h.dd,h.dr⟩
theorem LW.popD(h:LW w k)(hb:w.nd≤4000000):LW w.popD k∧w.topD<w.popD.code.length∧w.code.length≤w.popD.code.length:=by
 rcases w.ld.eq_nil_or_concat with e|⟨l,n,e⟩;·simp only[Lw.popD,Lw.topD,e,if_true];have hq:LW {w with nd:=w.nd+1} k:=⟨λi hi=>(h.code i hi).more AC AC,h.ld,h.lr,h.fl⟩;have:=hq.add 1 0 0 w.nd ⟨rfl,AC,λ_=>⟨rfl,rfl⟩,λ_=>DJ,λq=>Dw,λq=>Dw,λq=>Dw,λq=>Dw,DJ⟩;exact Uc
 ·rw[Is] at e;have ne: ¬w.ld=[]:=EV;simp only[Lw.popD,Lw.topD,Ae ne];refine⟨⟨h.code,λm hm=>h.ld m Ud,h.lr,h.fl⟩, ?_,AD _⟩;have:=h.ld n EV;exact Ue
theorem LN.popD(h:LN w len nd nr dd dr):LN w.popD (len+1) (nd+1) nr (dd -1) dr:=by
 have a1:=h.len;have a2:=h.nd;have a3:=h.nr;have a4:=h.dd;have a5:=h.dr;rcases w.ld.eq_nil_or_concat with e|⟨l,n,e⟩;·simp only[Lw.popD,e,if_true,Lw.add];rw[e] at a4;refine⟨AA,DJ,a3, ?_,a5⟩;simp only[Gx] at a4⊢;omega
 ·rw[Is] at e;have ne: ¬w.ld=[]:=EV;simp only[Lw.popD,Ae ne];refine⟨DJ,DJ,a3, ?_,a5⟩;rw[e] at a4⊢;simp only[Cq,D8,Gx,Gw] at a4⊢;omega
theorem LW.popR(h:LW w k)(hb:w.nr≤4000000):LW w.popR k∧w.topR<w.popR.code.length∧w.code.length≤w.popR.code.length:=by
 rcases w.lr.eq_nil_or_concat with e|⟨l,n,e⟩;·simp only[Lw.popR,Lw.topR,e,if_true];have hq:LW {w with nr:=w.nr+1} k:=⟨λi hi=>(h.code i hi).more AC AC,h.ld,h.lr,h.fl⟩;have:=hq.add 2 0 0 w.nr ⟨rfl,AC,λ_=>⟨rfl,rfl⟩,λq=>Dw,λ_=>DJ,λq=>Dw,λq=>Dw,λq=>Dw,DJ⟩;exact Uc
 ·rw[Is] at e;have ne: ¬w.lr=[]:=EV;simp only[Lw.popR,Lw.topR,Ae ne];refine⟨⟨h.code,h.ld,λm hm=>h.lr m Ud,h.fl⟩, ?_,AD _⟩;have:=h.lr n EV;exact Ue
theorem LN.popR(h:LN w len nd nr dd dr):LN w.popR (len+1) nd (nr+1) dd (dr -1):=by
 have a1:=h.len;have a2:=h.nd;have a3:=h.nr;have a4:=h.dd;have a5:=h.dr;rcases w.lr.eq_nil_or_concat with e|⟨l,n,e⟩;·simp only[Lw.popR,e,if_true,Lw.add];rw[e] at a5;refine⟨AA,a2,DJ,a4, ?_⟩;simp only[Gx] at a5⊢;omega
 ·rw[Is] at e;have ne: ¬w.lr=[]:=EV;simp only[Lw.popR,Ae ne];refine⟨DJ,a2,DJ,a4, ?_⟩;rw[e] at a5⊢;simp only[Cq,D8,Gx,Gw] at a5⊢;omega
theorem LW.pushD(h:LW w k)(l:List Nat)(hl: ∀n∈l,n<w.code.length):LW (w.pushD l) k:=
 ⟨h.code,λn hn=>by rcases Da.1 hn with e|e;exact h.ld n e;exact hl n e,h.lr,h.fl⟩
theorem LN.pushD(h:LN w len nd nr dd dr)(l:List Nat):LN (w.pushD l) len nd nr (dd+l.length) dr:=
 ⟨h.len,h.nd,h.nr,by have:=h.dd;simp only[Lw.pushD,Cq];push_cast;omega,h.dr⟩
theorem LW.pushR(h:LW w k)(n:Nat)(hl:n<w.code.length):LW (w.pushR n) k:=
 ⟨h.code,h.ld,λm hm=>by rcases Da.1 hm with e|e;exact h.lr m e;(have e:m=n:=by simpa using e);(show m<w.code.length);omega,h.fl⟩
theorem LN.pushR(h:LN w len nd nr dd dr)(n:Nat):LN (w.pushR n) len nd nr dd (dr+1):=
 ⟨h.len,h.nd,h.nr,h.dd,by have:=h.dr;simp only[Lw.pushR,Cq,D8,Gx];push_cast;omega⟩
theorem LW.alu(h:LW w k)(op:Int)(a b:Nat)(ha:a<w.code.length)(hb:b<w.code.length)(h0:16≤op)(h1:op≤25)(h24:op≠24):LW (w.alu op a b) k:=by
 have m4:MadeOk w.nd w.nr ⟨4,w.code.length,a,b,op⟩ w.code.length:=⟨rfl,AC,λq=>Dw,λq=>Dw,λq=>Dw,λ_=>⟨ha,hb⟩,λq=>Dw,λ_=>DJ,DJ⟩;have A:=h.add 4 a b op m4;unfold Lw.alu;split;·exact⟨A.code,A.ld,A.lr,Ah Uf⟩
 ·have m3:MadeOk w.nd w.nr ⟨3,(w.add 4 a b op).code.length,a,b,op⟩ (w.add 4 a b op).code.length:=⟨rfl,AC,λq=>Dw,λq=>Dw,λq=>Dw,λ_=>Uf,λ_=>DJ,λq=>Dw,DJ⟩;have B:=A.add 3 a b op m3;have C:=B.pushD [w.code.length+1] JB;exact⟨C.code,C.ld,C.lr,Ah (by simp only[Lw.add,Lw.pushD,Cq,D8,Gx];omega)⟩
theorem LN.alu(h:LN w len nd nr dd dr)(op:Int)(a b:Nat):LN (w.alu op a b) (len+2) nd nr (dd+1) dr:=by
 unfold Lw.alu;split;·have:=h.add 4 a b op;exact⟨by have:=this.len;simp only;omega,this.nd,this.nr,by have:=this.dd;simp only;omega,this.dr⟩
 ·have:=((h.add 4 a b op).add 3 a b op).pushD [w.code.length+1];exact⟨this.len,this.nd,this.nr,by have:=this.dd;simpa using this,this.dr⟩
theorem one0_wf(h:LW w k)(hN:LN w len nd nr dd dr)(hb:nd≤1000∧nr≤1000)(i:Ins)(next:Int)(hp:BZ i.op=Ag)(n0:0≤i.n∧i.n≤4294967295)(x0:0≤next∧next≤4294967295):LW (w.one0 i next) k∧LN (w.one0 i next) (len+4) (nd+2) (nr+1) (dd+1) (dr+1):=by
 have c0: ∀m:Int,0≤m∧m≤4294967295→MadeOk w.nd w.nr ⟨0,w.code.length,0,0,m⟩ w.code.length:=λm hm=>
  ⟨rfl,AC,λ_=>⟨rfl,rfl⟩,λq=>Dw,λq=>Dw,λq=>Dw,λq=>Dw,λq=>Dw,hm⟩
 have b1:=hN.nd;have b2:=hN.nr;obtain⟨d1,d2,d3⟩:=h.popD O;have D1:=hN.popD;have b3:=D1.nd;obtain⟨e1,e2,e3⟩:=d1.popD O;have E1:=D1.popD;obtain⟨r1,r2,r3⟩:=h.popR O;have R1:=hN.popR;refine Nl (λx=>LW x k∧LN x (len+4) (nd+2) (nr+1) (dd+1) (dr+1)) w i next (λ_=>?_) ?_ ?_ ?_ ?_ ?_ ?_ (λhop=>?_) (λ_=>?_) (λ_=>?_) (λ_=>?_) (λ_=>?_) ?_
 ·exact⟨(h.add 0 0 0 _ (c0 _ n0)).pushD _ JB,((hN.add 0 0 0 _).pushD _).more O O O AC O⟩
 ·exact⟨d1.pushD _ (by simp[d2]),(D1.pushD _).more O O O Ug O⟩
 ·exact⟨d1,D1.more O O O O O⟩
 ·exact Uh
 ·exact Uh
 ·exact⟨d1.pushR _ d2,(D1.pushR _).more O O O O O⟩
 ·exact⟨r1.pushD _ (by simp[r2]),(R1.pushD _).more O O O AC O⟩
 ·exact⟨e1.alu _ _ _ e2 O hop.1 hop.2 (by simp[BZ] at hp;omega),(E1.alu _ _ _).more O O O O O⟩
 ·exact⟨(h.add 0 0 0 _ (c0 _ x0)).pushR _ JB,((hN.add 0 0 0 _).pushR _).more O O O O O⟩
 ·exact⟨⟨r1.code,r1.ld,r1.lr,r1.fl⟩,(LN.mk R1.len R1.nd R1.nr R1.dd R1.dr:LN {w.popR with tg:=(w.topR:Int)} _ _ _ _ _).more O O O O O⟩
 ·exact⟨⟨d1.code,d1.ld,d1.lr,d1.fl⟩,(LN.mk D1.len D1.nd D1.nr D1.dd D1.dr:LN {w.popD with tg:=(w.topD:Int)} _ _ _ _ _).more O O O O O⟩
 ·exact⟨⟨h.code,h.ld,h.lr,h.fl⟩,(LN.mk hN.len hN.nd hN.nr hN.dd hN.dr:LN {w with br:=i.op} _ _ _ _ _).more O O O O O⟩
 ·exact⟨⟨h.code,h.ld,h.lr,h.fl⟩,hN.more O O O O O⟩
end
structure LB(w:Lw)(k:Nat):Prop where
 wf:LW w k
 n:LN w (4*k) (2*k) k k k
 hd:w.hd≤k
 hr:w.hr≤k
theorem Pt: ∀(l:List Ins) (w:Lw) (pc:Int) (k:Nat),LB w k→k+l.length≤100→(∀i∈l,BZ i.op=Ag∧0≤i.n∧i.n≤4294967295)→LB (w.all pc l) (k+l.length)
 |[],w,pc,k,h,_,_=>h
 |i::l,w,pc,k,h,hk,hl=>by
  obtain⟨i1,i2⟩:=hl i AC;have hk':k+(l.length+1)≤100:=hk;obtain⟨o1,o2⟩:=one0_wf h.wf h.n O i ((pc+AK i.op)%4294967296) i1 i2 O;have hh:=TK w i ((pc+AK i.op)%4294967296);have a1:=h.hd;have a2:=h.hr;have a3:=o2.dd;have a4:=o2.dr;have B:LB (w.one i ((pc+AK i.op)%4294967296)) (k+1):=by
   refine⟨⟨o1.code,o1.ld,o1.lr,o1.fl⟩,⟨by have:=o2.len;show(w.one0 i _).code.length≤_;omega,by have:=o2.nd;show(w.one0 i _).nd≤_;omega,by have:=o2.nr;show(w.one0 i _).nr≤_;omega,by show((w.one0 i _).ld.length:Int) -(w.one0 i _).nd≤_;push_cast;omega,by show((w.one0 i _).lr.length:Int) -(w.one0 i _).nr≤_;push_cast;omega⟩, ?_, ?_⟩;·show max (w.one0 i _).hd ((w.one0 i _).ld.length -(w.one0 i _).nd)≤k+1;rw[hh.1];omega
   ·show max (w.one0 i _).hr ((w.one0 i _).lr.length -(w.one0 i _).nr)≤k+1;rw[hh.2];omega
  have:=Pt l (w.one i ((pc+AK i.op)%4294967296)) ((pc+AK i.op)%4294967296) (k+1) B O (λj hj=>hl j FJ);rw[show k+(i::l).length=k+1+l.length by simp;omega];exact this
theorem all_tg: ∀(l:List Ins) (w:Lw) (pc:Int),(∀i∈l,i.op<32)→(w.all pc l).tg=w.tg∧(w.all pc l).br=w.br
 |[],w,pc,_=>⟨rfl,rfl⟩
 |i::l,w,pc,h=>by
  have h1:=Nm w i ((pc+AK i.op)%4294967296) (h i AC);have h2:=all_tg l (w.one i ((pc+AK i.op)%4294967296)) ((pc+AK i.op)%4294967296) (λj hj=>h j FJ);exact⟨h2.1.trans h1.1,h2.2.trans h1.2⟩
theorem kT{w:Lw}{k:Nat}(h:LW w k)(hb:w.nd≤1000∧w.nr≤1000)(i:Ins)(next:Int)(hp:BZ i.op=Ag)(ht:w.tg= -1)(hbr:w.br=0):((w.one0 i next).tg= -1∨(0≤(w.one0 i next).tg∧(w.one0 i next).tg<(w.one0 i next).code.length))∧((w.one0 i next).br=0∨(33≤(w.one0 i next).br∧(w.one0 i next).br≤37∧(w.one0 i next).tg= -1)):=by
 by_cases hlt:i.op<32
 ·have:=Nm w i next hlt
  rw[this.1,this.2];exact⟨Af ht,Af hbr⟩
 ·obtain⟨op,n⟩:=i;have hlt: ¬op<32:=hlt;obtain⟨d1,d2,d3⟩:=h.popD O;obtain⟨r1,r2,r3⟩:=h.popR O;have q:=Df w;have q3:=GY w;have hp':=LA hp;have hp':op=32∨(33≤op∧op≤37)∨op=38∨op=39∨op=40:=by simp only at hp';omega
  rcases hp' with e|e|e|e|e
  ·subst e;have e1:w.one0 ⟨32,n⟩ next=w:=Je
   rw[e1];exact⟨Af ht,Af hbr⟩
  ·have e1:w.one0 ⟨op,n⟩ next={w with br:=op}:=by
    unfold Lw.one0;simp only[];rw[Ae O,Ae O,Ae O,Ae O,Ae O,Ae O,Ae O,Ae O,Ae O,Ae O,Ae O,An e]
   rw[e1];exact⟨Af ht,Ah ⟨e.1,e.2,ht⟩⟩
  ·subst e;have e1:=Pf;rw[e1];exact⟨Af ht,Af hbr⟩
  ·subst e;have e1:=TG;rw[e1];exact⟨Ah ⟨DJ,DJ⟩,Af (q3.2.2.2.2.1.trans hbr)⟩
  ·subst e;have e1:=TJ;rw[e1];exact⟨Ah ⟨DJ,DJ⟩,Af (q.2.2.2.2.1.trans hbr)⟩
theorem pcs_bd: ∀(l:List Ins) (pc:Int),0≤pc∧pc≤4294967295→0≤pcs pc l∧pcs pc l≤4294967295
 |[],pc,h=>h
 |i::l,pc,h=>pcs_bd l _ O
theorem lower_wf(pc:Int)(l:List Ins)(hpc:0≤pc∧pc≤4294967295)(hl:l≠[])(h8:l.length≤8)(hall: ∀i∈l,BZ i.op=Ag∧0≤i.n∧i.n≤4294967295)(hends: ∀i∈l.dropLast,endsB i.op=Ac):WF (lower0 pc l):=by
 have hB0:LB Lw.new 0:=⟨⟨λi hi=>absurd hi IE,IE,IE,Af rfl⟩,⟨AD _,AD _,AD _,IE,IE⟩,AD _,AD _⟩;have hB:=Pt l Lw.new pc 0 hB0 O hall;rw[BW] at hB;have hpos:=Ef.2 hl;have hp:=pcs_bd l pc hpc;have htb:((Lw.new.all pc l).tg= -1∨(0≤(Lw.new.all pc l).tg∧(Lw.new.all pc l).tg<(Lw.new.all pc l).code.length))∧((Lw.new.all pc l).br=0∨(33≤(Lw.new.all pc l).br∧(Lw.new.all pc l).br≤37∧(Lw.new.all pc l).tg= -1)):=by
  obtain⟨m,i,rfl⟩: ∃m i,l=m++[i]:=TP;rw[Gw] at hends;have h1:=all_tg m Lw.new pc (λj hj=>by
   have a:=hends j hj;have b:=(hall j FJ).1;simp[BZ] at b;simp[endsB] at a;omega)
  have h2:=Pt m Lw.new pc 0 hB0 (by simp at h8;omega) (λj hj=>hall j FJ);have h3:=h2.n;simp at h8;have:=kT h2.wf (by have:=h3.nd;have:=h3.nr;omega) i ((pcs pc m+AK i.op)%4294967296) (hall i AC).1 h1.1 h1.2;rw[Ph];exact this
 have N:=hB.n;have b1:=N.len;have b2:=N.nd;have b3:=N.nr;have b4:=N.dd;have b5:=N.dr;have b6:=hB.hd;have b7:=hB.hr;unfold lower0;generalize Lw.new.all pc l=w at*;refine⟨hB.wf.code, ?_, ?_, ?_, ?_, ?_,hB.wf.ld,hB.wf.lr,hB.wf.fl,htb.1,htb.2,⟨hpos,h8⟩, ?_, ?_, ?_, ?_⟩;·show w.code.length≤64;omega
 ·show w.nd≤16;omega
 ·show w.nr≤16;omega
 ·show w.hd≤16;omega
 ·show w.hr≤16;omega
 ·simp only[];by_cases c:(EU l).op=32∨(EU l).op=38;·rw[An c];omega
  ·rw[Ae c];exact hp
 ·simp only[];by_cases c:(EU l).op=32∨(EU l).op=38;·rw[An c];omega
  ·rw[Ae c];by_cases c:w.br≠0;·rw[An c];omega
   ·rw[Ae c];omega
 ·show w.ld.length≤64;omega
 ·show w.lr.length≤64;omega
end Tr
end Go.Proofs.YtdfegdoeebaagaaGreatDoor
