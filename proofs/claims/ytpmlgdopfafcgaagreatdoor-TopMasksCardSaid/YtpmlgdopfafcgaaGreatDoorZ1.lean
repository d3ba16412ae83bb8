import Derived.Test.YtpmlgdopfafcgaaGreatDoorZ0
import Derived.Test.YtpmlgdopfafcgaaGreatDoorChecked
open Go.Value renaming int→J,slice→U,bool→Ap,tuple→AD,ownBlock→Bp,agg→AA,pointer→Bi
open Option renaming some→I,none→G
open Go.IntKind renaming i64→Z,u32→V,u64→AM,u8→AC,wrap_u64→Dk,wrap_u32→DH
open Bool renaming false→Aa,true→Af,false_ne_true→Da,false_and→D7
open Go renaming World→Ac,Value→As,Calls→At,bodyPost_ret→Bf,TypeId→AK,wp_region_held_drew→BY,info_parts→BH,Ending→AT,madeCells→Cb,maxLen→Br,Program→BW,undef→Bt,wpList→BL,bits→Bb,run_underlying→CX
open List renaming getD_eq_getElem?_getD→AN,getElem?_eq_getElem→Bj,length_append→BJ,append_assoc→BM,mem_map→Bo,getElem?_take_of_lt→Cw,replicate→BK,range→Bm,getElem?_append_right→CB,getElem_mem→BU,mem_append→BZ,getElem?_append_left→CO,getElem?_map→C7,cons_append→CC,mem_filter→C8,length_pos_iff→CP,length_cons→CK,mem_cons→Cy,getLastD_eq_getLast?→Dg,nil_append→CI,getElem?_eq_none→De,dropLast_concat→Do,mem_singleton→Dv,map_append→Df,length_map→Di,getElem_of_mem→DD,length_nil→Dp,concat_eq_append→DI,getElem?_range→DL,range_succ→DB,getElem?_replicate→DW,singleton_append→DV,map_cons→D6,map_map→D8,setIfInBounds_toArray→Eb
open Go.Ending renaming returned→Ax
open And renaming intro→A9
open Nat renaming le_refl→AE,lt_of_lt_of_le→AW,le_trans→AS,zero_le→AU,zero_add→Bn,eq_zero_or_pos→Dm,reduceEqDiff→Dq
open Or renaming inl→Ag,inr→Ah
open Go.Proofs.Tryz renaming underlying41→AP,underlying31→CF,underlying22→CV,underlying215→Dl,underlying26→DN
open Go.RowKit renaming intOf→AJ
open Int renaming eq_ofNat_of_zero_le→CM,toNat_natCast→C4,emod_eq_of_lt→CZ
open Go.Builtin renaming zeroCells→CG,delete_→Eh
open Array renaming getElem?_toList→CN,getElem?_eq_some_iff→DX
open Go.Region renaming wanted→CA
open Go.Result renaming andThen→CT
open Option.some renaming inj→Ds
open Go.MapKept renaming run_getObj_map→DJ,run_setObj_map→Ef
open Go.Instr renaming makeSlice→Dj,mapUpdate→DK
open Go.IntWalk renaming i64_in→Du
open Go.Lit renaming int→C9
open Go.Sem renaming run_bind→D5
set_option linter.unusedVariables false
set_option linter.unusedSimpArgs false
set_option linter.defProp false
set_option maxHeartbeats 40000000
set_option maxRecDepth 1000000
open Go Go.RowKit
namespace Go.Proofs.YtpmlgdopfafcgaaGreatDoor
namespace Gs
structure Ins where
 op:Int
 n:Int
structure St where
 pc:Int
 d:List Int
 r:List Int
 fl:Int
 su:Bool
 pg:Bool
 ie:Bool
 rt:Int
 ve:Int
 ep:Int
 ca:Int
 ad:Int
 es:Bool
 ei:Bool
 ct:Int
 ha:Bool
def St.new:St:=⟨0,[],[],0,Af,Aa,Aa,0,0,0,0,0,Aa,Aa,0,Aa⟩
def St.right(s:St):Bool:=decide (s.d.length≤16)&&decide (s.r.length≤16)&&decide (s.fl≤15)
def St.trap(s:St)(c a:Int):St:={s with ep:=s.pc,ca:=c,ad:=a,es:=s.su,ei:=s.ie,su:=Af,ie:=Aa,pc:=s.ve}
def nb(b:Bool):Int:=if b then 1 else 0
def getV(s:St)(reg:Int):Int:=
 if reg=0 then nb s.ie else if reg=1 then nb s.pg else if reg=2 then s.rt else if reg=3 then s.ve else if reg=4 then s.ep else if reg=5 then s.ca
 else if reg=6 then s.ad else if reg=7 then nb s.es else if reg=8 then nb s.ei else if reg=9 then s.ct%4294967296 else if reg=10 then s.fl else 0
def getB(reg:Int):Bool:=decide (0≤reg)&&decide (reg≤10)
def setB(reg:Int):Bool:=decide (0≤reg)&&decide (reg≤10)&& !decide (reg=9)
def setS(s:St)(reg v:Int):St:=
 if reg=0 then{s with ie:= !decide (v=0)} else if reg=1 then{s with pg:= !decide (v=0)} else if reg=2 then{s with rt:=v/64*64} else if reg=3 then{s with ve:=v}
 else if reg=4 then{s with ep:=v} else if reg=5 then{s with ca:=v} else if reg=6 then{s with ad:=v} else if reg=7 then{s with es:= !decide (v=0)}
 else if reg=8 then{s with ei:= !decide (v=0)} else if reg=10 then{s with fl:=v%16} else s
structure St.Ok(s:St):Prop where
 pc:0≤s.pc∧s.pc≤4294967295
 fl:0≤s.fl∧s.fl≤4294967295
 rt:0≤s.rt∧s.rt≤4294967295
 ve:0≤s.ve∧s.ve≤4294967295
 ep:0≤s.ep∧s.ep≤4294967295
 ca:0≤s.ca∧s.ca≤4294967295
 ad:0≤s.ad∧s.ad≤4294967295
 ct:0≤s.ct∧s.ct≤18446744073709551615
 d: ∀z∈s.d,0≤z∧z≤4294967295
 r: ∀z∈s.r,0≤z∧z≤4294967295
def shortB(op:Int):Bool:=decide (op=1)||(decide (32≤op)&&decide (op≤38))||decide (op=66)||decide (op=67)
def knownB(op:Int):Bool:=(decide (0≤op)&&decide (op≤8))||(decide (16≤op)&&decide (op≤25))||(decide (32≤op)&&decide (op≤40))||(decide (48≤op)&&decide (op≤53))||(decide (64≤op)&&decide (op≤69))
def sizeI(op:Int):Int:=if shortB op then 2 else if op=2 then 5 else if knownB op then 1 else 0
def rightI(i:Ins):Bool:=if sizeI i.op=0 then Aa else if sizeI i.op=1 then decide (i.n=0) else if sizeI i.op=2 then decide (i.n≤255) else Af
def endsB(op:Int):Bool:=(decide (32≤op)&&decide (op≤40))||(decide (64≤op)&&decide (op≤69))
def plainB(op:Int):Bool:=(decide (0≤op)&&decide (op≤8))||(decide (32≤op)&&decide (op≤40))||(decide (16≤op)&&decide (op≤25)&& !decide (op=24))
def superB(op:Int):Bool:=decide (65≤op)&&decide (op≤69)
def leV:List Int→Int
 |[]=>0
 |b::l=>b+256*leV l
def decI:List Int→Option (Ins×Nat)
 |[]=>G
 |o::l=>if sizeI o=0 then G else if(l.length:Int)+1<sizeI o then G else I (⟨o,leV (l.take ((sizeI o).toNat -1))⟩,(sizeI o).toNat)
def signI(b:Int):Int:=if b%256<128 then b%256 else b%256+4294967040
def plainF(r:Int):Int:=(if r=0 then 1 else 0)+(if 2147483648≤r then 2 else 0)
def topB(x y:Int):Bool:=decide (2147483648≤Bb .and V x y)
def lessF(a b:Int):Int:=plainF ((a -b)%4294967296)+(if a<b then 4 else 0)+(if topB (Bb .xor V a b) (Bb .xor V a ((a -b)%4294967296)) then 8 else 0)
def moreF(a b:Int):Int:=plainF ((a+b)%4294967296)+(if(a+b)%4294967296<a then 4 else 0)+(if topB (Bb .xor V a ((a+b)%4294967296)) (Bb .xor V b ((a+b)%4294967296)) then 8 else 0)
def movedV(a b:Int)(up:Bool):Int:=if 32≤b then 0 else if up then a*2^b.toNat%4294967296 else a/2^b.toNat
def aluV(op a b:Int):Int:=
 if op=16 then(a+b)%4294967296 else if op=17 then(a -b)%4294967296 else if op=18 then Bb .and V a b else if op=19 then Bb .or V a b else if op=20 then Bb .xor V a b
 else if op=21 then movedV a b Af else if op=22 then movedV a b Aa else if op=23 then a*b%4294967296 else if op=24 then a/b else 0
def aluB(op b:Int):Bool:=decide (16≤op)&&decide (op≤25)&& !(decide (op=24)&&decide (b=0))
def aluF(op a b:Int):Int:=if aluB op b=Aa then 0 else if op=16 then moreF a b else if op=17 then lessF a b else if op=25 then lessF a b else plainF (aluV op a b)
theorem Gx(r:Int):0≤plainF r∧plainF r<4:=by
 unfold plainF;exact Fs
theorem aluF_bd(op x y:Int):0≤aluF op x y∧aluF op x y<16:=by
 have h1:=Gx ((x+y)%4294967296);have h2:=Gx ((x -y)%4294967296);have h3:=Gx (aluV op x y);unfold aluF;split;·omega
 split;·unfold moreF;exact Fs
 split;·unfold lessF;exact Fs
 split;·unfold lessF;exact Fs
 ·omega
def bitB(fl k:Int):Bool:=decide (fl/k%2=1)
def holdsB(op fl:Int):Bool:=
 if op=33 then bitB fl 1 else if op=34 then !bitB fl 1 else if op=35 then bitB fl 4 else if op=36 then bitB fl 2 else if op=37 then bitB fl 8 else Aa
def takeD(op:Int):Nat:=
 if op=3∨op=4∨op=7∨op=40∨op=67∨op=68∨op=48∨op=50∨op=52 then 1
 else if op=5∨op=6∨(16≤op∧op≤25)∨op=49∨op=51∨op=53 then 2 else 0
def putD(op:Int):Nat:=
 if op=1∨op=2∨op=8∨op=66∨(16≤op∧op≤24)∨op=48∨op=50∨op=52 then 1 else if op=3∨op=5 then 2 else if op=6 then 3 else 0
def takeR(op:Int):Nat:=if op=8∨op=39 then 1 else 0
def putR(op:Int):Nat:=if op=7∨op=38 then 1 else 0
def check(s:St)(i:Ins):Int:=
 if rightI i=Aa then 1 else if superB i.op&& !s.su then 2 else if decide (i.op=66)&& !getB i.n then 1 else if decide (i.op=67)&& !setB i.n then 1
 else if s.d.length<takeD i.op∨s.r.length<takeR i.op then 3 else if 16<s.d.length -takeD i.op+putD i.op∨16<s.r.length -takeR i.op+putR i.op then 4 else 0
def top1(l:List Int):Int:=l.getLastD 0
def top2(l:List Int):Int:=l.dropLast.getLastD 0
def stackB(op:Int):Bool:=decide (0≤op)&&decide (op≤8)
def stackS(s:St)(i:Ins):St:=
 if i.op=1∨i.op=2 then{s with d:=s.d++[i.n]}
 else if i.op=3 then{s with d:=s.d.dropLast++[top1 s.d,top1 s.d]}
 else if i.op=4 then{s with d:=s.d.dropLast}
 else if i.op=5 then{s with d:=s.d.dropLast.dropLast++[top1 s.d,top2 s.d]}
 else if i.op=6 then{s with d:=s.d.dropLast.dropLast++[top2 s.d,top1 s.d,top2 s.d]}
 else if i.op=7 then{s with d:=s.d.dropLast,r:=s.r++[top1 s.d]}
 else if i.op=8 then{s with d:=s.d++[top1 s.r],r:=s.r.dropLast} else s
def reckB(op:Int):Bool:=(decide (16≤op)&&decide (op≤25))||(decide (32≤op)&&decide (op≤40))
def reckS(s:St)(i:Ins):St:=
 if 16≤i.op∧i.op≤25 then
  {s with d:=if i.op=25 then s.d.dropLast.dropLast else s.d.dropLast.dropLast++[aluV i.op (top2 s.d) (top1 s.d)],fl:=aluF i.op (top2 s.d) (top1 s.d)}
 else if i.op=38 then{s with r:=s.r++[s.pc],pc:=(s.pc+signI i.n)%4294967296}
 else if i.op=32 then{s with pc:=(s.pc+signI i.n)%4294967296}
 else if i.op=39 then{s with r:=s.r.dropLast,pc:=top1 s.r}
 else if i.op=40 then{s with d:=s.d.dropLast,pc:=top1 s.d}
 else if holdsB i.op s.fl then{s with pc:=(s.pc+signI i.n)%4294967296} else s
def St.next(s:St)(i:Ins):St:={s with pc:=(s.pc+sizeI i.op)%4294967296,ct:=(s.ct+1)%18446744073709551616}
def plainS(s:St)(i:Ins):St:=if stackB i.op then stackS (s.next i) i else reckS (s.next i) i
def plainAll:St→List Ins→Option St
 |s,[]=>I s
 |s,i::l=>if check s i=0 then plainAll (plainS s i) l else G
end Gs
section
theorem TI(a:Addr)(n:Nat):(a.add n).block=a.block:=by unfold Addr.add;split<;>rfl
def Blk(w:Ac)(g:Nat)(t:AK)(cs:AL):Prop:=w.heap[g]?=I (.cells cs t (0,0))
section
variable {w w':Ac} {g:Nat} {t:AK} {cs:AL}
theorem Blk.lt(h:Blk w g t cs):g<↑w:=by
 rcases Nat.lt_or_ge g ↑w with hlt|hge;·exact hlt
 ·unfold Blk at h;rw[Array.getElem?_eq_none hge] at h;cases h
theorem Blk.cell(h:Blk w g t cs)(i:Nat):w.cell? ⟨g,i,G⟩=cs[i]?:=cell_of_row w g i cs t (0,0) h
theorem Blk.frozen(h:Blk w g t cs)(i:Nat):w.frozen? ⟨g,i,G⟩=Aa:=by
 unfold Blk at h;simp[World.frozen?,h]
theorem Blk.new(w:Ac)(t:AK)(cs:AL):Blk (w.alloc (.cells cs t)) ↑w t cs:=heap_alloc_new w _
theorem Blk.new'(w:Ac)(t:AK)(cs:AL){n:Nat}(h:↑w=n):Blk (w.alloc (.cells cs t)) n t cs:=h▸Blk.new w t cs
theorem Blk.drew(h:Blk w g t cs):Blk w.drew g t cs:=h
theorem Blk.drewN(h:Blk w g t cs)(n:Nat):Blk (w.drewN n) g t cs:=h
theorem Blk.alloc(h:Blk w g t cs)(o:Obj):Blk (w.alloc o) g t cs:=(Below.heap_alloc w o g h.lt).trans h
theorem Blk.set_(h:Blk w g t cs)(i:Nat)(u:As):Blk (w.setCell ⟨g,i,G⟩ u) g t (cs.setIfInBounds i u):=by
 unfold Blk at h⊢;simp[World.setCell,Array.getElem?_modify,h]
variable{p:Addr}
theorem Blk.far(h:Blk w g t cs)(hp:g≠p.block)(u:As):Blk (w.setCell p u) g t cs:=(Below.heap_setCell w p u g hp).trans h
theorem Blk.grown{row:Option Nat}(h:Blk w g t cs)(hb:w.grownBy w' row)(hg:I g≠row):Blk w' g t cs:=(hb.block g h.lt hg).trans h
end
structure Fr(S:AG)(w w':Ac):Prop where
 os:w'.os=w.os
 tape:w'.tape=w.tape
 output:w'.output=w.output
 size:w.heap.size≤w'.heap.size
 block: ∀k,k<w.heap.size→ ¬S k→w'.heap[k]?=w.heap[k]?
section
variable {S S':AG} {a w w' w'':Ac}
theorem Fr.refl(S:AG)(w:Ac):Fr S w w:=⟨rfl,rfl,rfl,AE _,λ_ _ _=>rfl⟩
theorem Fr.trans(h:Fr S a w)(k:Fr S' w w')(hs: ∀i,i<a.heap.size→S' i→S i):Fr S a w':=
 ⟨k.os.trans h.os,k.tape.trans h.tape,k.output.trans h.output,AS h.size k.size,λi hi hn=>(k.block i (AW hi h.size) (λe=>hn (hs i hi e))).trans (h.block i hi hn)⟩
theorem Fr.tr(h:Fr S a w)(k:Fr S w w'):Fr S a w':=h.trans k (λ_ _ e=>e)
theorem Fr.mono(h:Fr S w w')(hs: ∀i,i<w.heap.size→S i→S' i):Fr S' w w':=⟨h.os,h.tape,h.output,h.size,λk hk hn=>h.block k hk (λe=>hn (hs k hk e))⟩
theorem Fr.drew(h:Fr S a w):Fr S a w.drew:=⟨h.os,h.tape,h.output,h.size,h.block⟩
theorem Fr.drewN(h:Fr S a w)(n:Nat):Fr S a (w.drewN n):=⟨h.os,h.tape,h.output,h.size,h.block⟩
theorem Fr.alloc(h:Fr S a w)(o:Obj):Fr S a (w.alloc o):=
 ⟨h.os,h.tape,h.output,AS h.size AB,λi hi hn=>(Below.heap_alloc w o i (AW hi h.size)).trans (h.block i hi hn)⟩
variable{p:Addr}
theorem Fr.setCell(h:Fr S a w)(hp:S p.block∨↑a≤p.block)(u:As):Fr S a (w.setCell p u):=
 ⟨h.os,h.tape,h.output,by simpa[World.setCell] using h.size,λi hi hn=>(Below.heap_setCell w p u i (by
  rintro rfl;rcases hp with hp|hp;·exact hn hp
  ·omega)).trans (h.block i hi hn)⟩
theorem Fr.grown(h:Fr S a w){row:Option Nat}(hg:w.grownBy w' row)(hr: ∀k,row=I k→S k∨a.heap.size≤k):Fr S a w':=
 ⟨hg.os.trans h.os,hg.tape.trans h.tape,hg.output.trans h.output,AS h.size hg.size,λi hi hn=>(hg.block i (AW hi h.size) (λe=>by
  rcases hr i e.symm with hp|hp;·exact hn hp
  ·omega)).trans (h.block i hi hn)⟩
theorem Fr.cell(f:Fr S w w'){v:Option As}(hc:w.cell? p=v)(hp:p.block<↑w)(hn: ¬S p.block):w'.cell? p=v:=(World.cell?_of_block (w:=w) (f.block _ hp hn)).trans hc
theorem Fr.below{B:Nat}(h:Fr S w w')(hs: ∀k,k<w.heap.size→S k→B≤k)(hB:B≤↑w):Below B w w':=
 ⟨h.os,h.tape,h.output,h.size,λk hk=>h.block k O (λe=>by have:=hs k (by omega) e;omega)⟩
theorem Blk.fr{g:Nat}{t:AK}{cs:AL}(h:Blk w g t cs)(f:Fr S w w')(hn: ¬S g):Blk w' g t cs:=(f.block g h.lt hn).trans h
theorem Fr.set1(w:Ac)(g i:Nat)(u:As):Fr (· =g) w (w.setCell ⟨g,i,G⟩ u):=(Fr.refl (· =g) w).setCell (p:=⟨g,i,G⟩) (Ag rfl) u
theorem Fr.none_below(h:Fr Aj w w'):Below ↑w w w':=h.below (λ_ _ e=>e.elim) (AE _)
end
def IntsAt(k:IntKind)(w:Ac)(B:Nat)(A:Aw)(n:Nat)(zs:List Int):Prop:=
 zs.length=n∧(∀i,i<n→(C9 k (zs.getD i 0)).wf=Af)∧(0<n→ ∃b off,A=I ⟨b,off,G⟩∧b<B∧ ∀i,i<n→w.cell? ⟨b,off+i,G⟩=I (J k (zs.getD i 0)))
section
variable {k:IntKind} {w w':Ac} {B n:Nat} {A:Aw} {zs:List Int} {S:AG}
theorem IntsAt.at_(h:IntsAt k w B A n zs){i:Nat}(hi:i<n): ∃b off,A=I ⟨b,off,G⟩∧b<B∧w.cell? ⟨b,off+i,G⟩=I (J k (zs.getD i 0)):=by
 obtain⟨b,off,e,hb,hc⟩:=h.2.2 O;exact⟨b,off,e,hb,hc i hi⟩
theorem IntsAt.more{B':Nat}(h:IntsAt k w B A n zs)(hB:B≤B'):IntsAt k w B' A n zs:=
 ⟨h.1,h.2.1,λhn=>by
  obtain⟨b,off,e,hb,hc⟩:=h.2.2 hn;exact⟨b,off,e,O,hc⟩⟩
theorem IntsAt.fr(h:IntsAt k w B A n zs)(f:Fr S w w')(hB:B≤↑w)(hs: ∀i,i<B→ ¬S i):IntsAt k w' B A n zs:=
 ⟨h.1,h.2.1,λhn=>by
  obtain⟨b,off,e,hb,hc⟩:=h.2.2 hn;exact⟨b,off,e,hb,λi hi=>(World.cell?_of_block (w:=w) (a:=⟨b,off+i,G⟩) (f.block b O (hs b hb))).trans (hc i hi)⟩⟩
end
theorem IntsAt.take{k:IntKind}{w:Ac}{B n m:Nat}{A:Aw}{zs:List Int}(h:IntsAt k w B A n zs)(hm:m≤n):IntsAt k w B A m (zs.take m):=by
 have hg: ∀i,i<m→(zs.take m).getD i 0=zs.getD i 0:=Lg;refine⟨by have:=h.1;simp;omega,λi hi=>by rw[hg i hi];exact h.2.1 i (by omega),λhn=>?_⟩;obtain⟨b,off,e,hb,hc⟩:=h.2.2 O;exact⟨b,off,e,hb,λi hi=>by rw[hg i hi];exact hc i (by omega)⟩
theorem Gy(k:IntKind)(w:Ac)(B:Nat)(A:Aw):IntsAt k w B A 0 []:=⟨rfl,λi hi=>absurd hi O,λhn=>absurd hn O⟩
theorem TJ{k:IntKind}{w:Ac}{x:Addr}{len:Nat}{zs:List Int}(hl:len≤zs.length)(hcell: ∀i,i<zs.length→w.cell? (x.add i)=I (J k (zs.getD i 0)))(hwz: ∀n∈zs,(C9 k n).wf=Af):IntsAt k w ↑w (I x) len (zs.take len):=by
 have hg: ∀i,i<len→(zs.take len).getD i 0=zs.getD i 0:=Lg;refine⟨A8,λi hi=>?_,λhn=>?_⟩
 ·rw[hg i hi];have hlt:i<zs.length:=O;have e:zs.getD i 0=zs[i]:=by simp[hlt]
  rw[e];exact hwz _ (BU hlt)
 ·obtain⟨b,off,spot⟩:=x;have hc:=hcell 0 O;have hspot:spot=G:=by simpa[Addr.add] using World.cell?_spot hc
  subst hspot;refine⟨b,off,rfl, ?_,λi hi=>?_⟩
  ·rcases Nat.lt_or_ge b ↑w with h|h;·exact h
   ·exfalso;have:w.heap[b]?=G:=Array.getElem?_eq_none h;simp[World.cell?,Addr.add,this] at hc
  ·rw[hg i hi,←hcell i O];exact I9
theorem IA{k:IntKind}{w:Ac}{g:Nat}{t:AK}(zs:List Int)(hb:Blk w g t (zs.map (J k)).toArray)(hw: ∀i,i<zs.length→(C9 k (zs.getD i 0)).wf=Af):IntsAt k w (g+1) (I ⟨g,0,G⟩) zs.length zs:=by
 refine⟨rfl,hw,λ_=>⟨g,0,rfl,O,λi hi=>?_⟩⟩;rw[Bn,hb.cell i];simp[hi]
theorem wf_list{k:IntKind}{zs:List Int}(h: ∀z∈zs,(C9 k z).wf=Af): ∀i,i<zs.length→(C9 k (zs.getD i 0)).wf=Af:=by
 intro i hi;have e:zs.getD i 0=zs[i]:=by simp[hi]
 rw[e];exact h _ (BU hi)
theorem EQ{n:Int}(h0: -9223372036854775808≤n)(h1:n≤9223372036854775807):(C9 Z n).wf=Af:=IB
theorem Lh{n:Int}(h0:0≤n)(h1:n≤4294967295):(C9 V n).wf=Af:=IB
theorem wf_u8_mk{n:Int}(h0:0≤n)(h1:n≤255):(C9 AC n).wf=Af:=IB
theorem wf_u8{n:Int}(h:(C9 AC n).wf=Af):0≤n∧n≤255:=Li
theorem wf_i64{n:Int}(h:(C9 Z n).wf=Af): -9223372036854775808≤n∧n≤9223372036854775807:=Li
def Ao:=@Fr.refl
def AH:=@Blk.new
def Bc:=@Fr.set1
def Cc:=@Blk.new'
end
section
def Reads(w:Ac)(B size:Nat)(A:Aw)(n:Nat)(xs:List As):Prop:=
 xs.length=n*size∧(0<n→ ∃ad,A=I ad∧ad.block<B∧ ∀j u,xs[j]?=I u→w.cell? (ad.add j)=I u)
section
variable {w w':Ac} {B B' size n:Nat} {A:Aw} {xs:List As}
theorem Reads.at_{k:Nat}(h:Reads w B 1 A n xs)(hk:k<n): ∃ad u,A=I ad∧ad.block<B∧xs[k]?=I u∧w.cell? (ad.add k)=I u:=by
 obtain⟨ad,e,hb,hc⟩:=h.2 O;have hl:k<xs.length:=by have:=h.1;omega
 exact⟨ad,xs[k],e,hb,Bj hl,hc k _ (Bj hl)⟩
theorem Reads.keep(h:Reads w B size A n xs)(hk: ∀p:Addr,p.block<B→w'.cell? p=w.cell? p):Reads w' B size A n xs:=
 ⟨h.1,λhn=>by
  obtain⟨ad,e,hb,hc⟩:=h.2 hn;exact⟨ad,e,hb,λj u hu=>(hk _ (by rw[TI];exact hb)).trans (hc j u hu)⟩⟩
theorem Reads.alloc(h:Reads w B size A n xs)(hB:B≤↑w)(o:Obj):Reads (w.alloc o) B size A n xs:=h.keep λp hp=>World.cell?_alloc_lt w o p O
variable{base:Nat}{e:AK}
theorem Reads.of_own{c:Nat}(h:w.ownsRow base e size (.slice A n c) n xs):Reads w ↑w size A n xs:=by
 refine⟨h.1,λhn=>?_⟩;obtain⟨g,cap,hv,_,hlt⟩:=h.form hn;have hA:A=I ⟨g,0,G⟩:=by injection hv
 subst hA;exact⟨_,rfl,hlt,h.cells (g:=g) rfl⟩
end
section
variable {w w':Ac} {g:Nat} {t:AK} {cs:AL}
theorem Blk.ne_{g':Nat}{t':AK}{cs':AL}(h:Blk w g t cs)(h':Blk w g' t' cs')(hne:t≠t'):g≠g':=by
 rintro rfl;unfold Blk at h h';rw[h] at h';injection h' with h';injection h' with _ ht;exact hne ht
variable{base:Nat}{e:AK}{v:As}
theorem AZ{size n:Nat}{xs:List As}(h:w.ownsRow base e size v n xs)(hg:Blk w g t cs)(hne:e≠t):v.ownBlock≠I g:=by
 rcases h.2 with⟨rfl,_⟩|⟨g',cap,cur,rfl,_,hh,_⟩;·simp[Bp]
 ·intro he;have:g'=g:=by simpa[Bp] using he
  subst this;exact Blk.ne_ (t:=e) hh hg hne rfl
end
section
variable {P:BW} (w:Ac)
theorem TK(base:Nat)(t ty e:AK)(i:TypeInfo)(size:Nat)(ht:P.underlying t=I (.slice e))(hi:P.info? e=I i)(v:As)(n:Nat)(xs:List As)(hown:w.ownsRow base e size v n xs)(c:Nat):(Builtin.append_ #[t,t] ty #[v,.slice G 0 c]).run P w=.ok v w:=by
 rcases hown.2 with⟨rfl,rfl⟩|⟨g,cap,cur,rfl,_,_,hnc,_⟩;·simp[Builtin.append_,CX ht,sizeOf,typeInfo,hi,Builtin.lenOf,Builtin.firstCells]
 ·simp[Builtin.append_,CX ht,sizeOf,typeInfo,hi,Builtin.lenOf,Builtin.firstCells,hnc,storeCells]
theorem TL(base:Nat)(t ty e:AK)(i:TypeInfo)(z:As)(size bytes:Nat)(ht:P.underlying t=I (.slice e))(hi:P.info? e=I i)(hz:i.zero=I z)
 (hsize:i.size=size) (hby:i.bytes=bytes) (hzs:z.cells.size=size) (hsz:0<size)
 (v:As) (n:Nat) (xs:List As) (hown:w.ownsRow base e size v n xs)
 (B:Nat) (A:Aw) (m c:Nat) (news:List As) (hr:Reads w B size A m news) (h1: ∀u∈news,u.oneCell'=Af)
 (h63:n+m≤Br) (hbytes:(n+m)*bytes≤140737488355328) (hbase:base≤↑w):
 ∃v' w',(Builtin.append_ #[t,t] ty #[v,.slice A m c]).run P w=.ok v' w'∧w'.ownsRow base e size v' (n+m) (xs++news)∧w.grownBy w' v.ownBlock∧
  (v'.ownBlock=v.ownBlock∨v'.ownBlock=I ↑w):=by
 rcases A with _|ad
 ·have hm:m=0:=by
   rcases Dm m with h0|h0;·exact h0
   ·obtain⟨ad,h,_⟩:=hr.2 h0
    cases h
  subst hm;have hn:=IC;subst hn;exact⟨v,w,TK w base t ty e i size ht hi v n xs hown c,by simpa using hown,World.grownBy.refl w _,Ag rfl⟩
 ·have hcells: ∀j u,news[j]?=I u→w.cell? (ad.add j)=I u:=by
   intro j u hu;rcases Dm m with h0|h0;·subst h0;have hn:=IC;subst hn;simp at hu
   ·obtain⟨ad',h,_,hc⟩:=hr.2 h0;injection h with h;subst h;exact hc j u hu
  obtain⟨v',w',hrun,h2,h3,_,h5⟩:=run_append_own_at (P:=P) w base t ty e i z size bytes ht hi hz hsize hby hzs hsz v n xs hown ad m c news hr.1 hcells h1 h63 hbytes hbase;exact⟨v',w',hrun,h2,h3,h5⟩
variable{o:Oper}{Q:Exit→Act→Ac→Prop}
theorem Lj{a:Act}{K:Act→Ac→Prop}(s x:Operand)(t:AK)(ho:o.op=.call {callee:=.builtin .append,args:=#[s,x],argTypes:=#[t,t]})(base:Nat)(e:AK)(i:TypeInfo)(z:As)(size bytes:Nat)(ht:P.underlying t=I (.slice e))(hi:P.info? e=I i)(hz:i.zero=I z)(hsize:i.size=size)(hby:i.bytes=bytes)(hzs:z.cells.size=size)(hsz:0<size)(v:As)(n:Nat)(xs:List As)(hs:a.eval s=v)(hown:w.ownsRow base e size v n xs)(B:Nat)(A:Aw)(m c:Nat)(news:List As)(hx:a.eval x=.slice A m c)(hr:Reads w B size A m news)(h1: ∀u∈news,u.oneCell'=Af)(h63:n+m≤Br)(hbytes:(n+m)*bytes≤140737488355328)(hbase:base≤↑w)(h: ∀v' w',w'.ownsRow base e size v' (n+m) (xs++news)→w.grownBy w' v.ownBlock→(v'.ownBlock=v.ownBlock∨v'.ownBlock=I ↑w)→K (a.put o.dst v') w'):o.wp P a w K Q:=by
 obtain⟨v',w',hrun,h2,h3,h4⟩:=TL (P:=P) w base t o.type e i z size bytes ht hi hz hsize hby hzs hsz v n xs hown B A m c news hr h1 h63 hbytes hbase;unfold Oper.wp execOp;simp only[ho,resolve,invoke,builtin,D5,Sem.run_pure,Result.andThen_ok,List.map_toArray,D6,List.map_nil,hs,hx,hrun];exact h v' w' h2 h3 h4
theorem Ce{ops:Array Oper}{rest:List Oper}{a:Act}(hgd:o.guard=G)(s x:Operand)(t:AK)(ho:o.op=.call {callee:=.builtin .append,args:=#[s,x],argTypes:=#[t,t]})(base:Nat)(e:AK)(i:TypeInfo)(z:As)(size bytes:Nat)(ht:P.underlying t=I (.slice e))(hi:P.info? e=I i)(hz:i.zero=I z)(hsize:i.size=size)(hby:i.bytes=bytes)(hzs:z.cells.size=size)(hsz:0<size)(v:As)(n:Nat)(xs:List As)(hs:a.eval s=v)(hown:w.ownsRow base e size v n xs)(B:Nat)(A:Aw)(m c:Nat)(news:List As)(hx:a.eval x=.slice A m c)(hr:Reads w B size A m news)(h1: ∀u∈news,u.oneCell'=Af)(h63:n+m≤Br)(hbytes:(n+m)*bytes≤140737488355328)(hbase:base≤↑w)(h: ∀v' w',w'.ownsRow base e size v' (n+m) (xs++news)→w.grownBy w' v.ownBlock→(v'.ownBlock=v.ownBlock∨v'.ownBlock=I ↑w)→BL P ops Q rest (a.put o.dst v') w'):BL P ops Q (o::rest) a w:=
 wpList_plain hgd λ_ hK=>Lj w s x t ho base e i z size bytes ht hi hz hsize hby hzs hsz v n xs hs hown B A m c news hx hr h1 h63 hbytes hbase λv' w' h2 h3 h4=>hK _ _ (h v' w' h2 h3 h4)
theorem DP{ops:Array Oper}{a:Act}{K:Act→Ac→Prop}{E:Prop}(hgd:o.guard=G)(s x:Operand)(t:AK)(ho:o.op=.call {callee:=.builtin .append,args:=#[s,x],argTypes:=#[t,t]})(base:Nat)(e:AK)(i:TypeInfo)(z:As)(size bytes:Nat)(ht:P.underlying t=I (.slice e))(hi:P.info? e=I i)(hz:i.zero=I z)(hsize:i.size=size)(hby:i.bytes=bytes)(hzs:z.cells.size=size)(hsz:0<size)(v:As)(n:Nat)(xs:List As)(hs:a.eval s=v)(hown:w.ownsRow base e size v n xs)(B:Nat)(A:Aw)(m c:Nat)(news:List As)(hx:a.eval x=.slice A m c)(hr:Reads w B size A m news)(h1: ∀u∈news,u.oneCell'=Af)(h63:n+m≤Br)(hbytes:(n+m)*bytes≤140737488355328)(hbase:base≤↑w)(h: ∀v' w',w'.ownsRow base e size v' (n+m) (xs++news)→w.grownBy w' v.ownBlock→(v'.ownBlock=v.ownBlock∨v'.ownBlock=I ↑w)→K (a.put o.dst v') w'):if CA o (yielded ops a.tmps)=Af then Oper.wp P o a w K Q else E:=by
 have hw:=Ll;rw[An hw];exact Lj w s x t ho base e i z size bytes ht hi hz hsize hby hzs hsz v n xs hs hown B A m c news hx hr h1 h63 hbytes hbase h
end
variable{base:Nat}{e:AK}{v:As}
theorem own_base{w:Ac}{size n:Nat}{xs:List As}(h:w.ownsRow base e size v n xs): ∀k,v.ownBlock=I k→base≤k:=by
 intro k hk;rcases h.2 with⟨rfl,_⟩|⟨g,cap,cur,rfl,hb,_⟩;·simp[Bp] at hk
 ·simp[Bp] at hk;omega
theorem own_lt{w:Ac}{size n:Nat}{xs:List As}(h:w.ownsRow base e size v n xs): ∀k,v.ownBlock=I k→k<w.heap.size:=by
 intro k hk;rcases h.2 with⟨rfl,_⟩|⟨g,cap,cur,rfl,hb,hh,_⟩;·simp[Bp] at hk
 ·simp[Bp] at hk;subst hk;rcases Nat.lt_or_ge g ↑w with h|h;·exact h
  ·rw[Array.getElem?_eq_none h] at hh;cases hh
theorem CH{w:Ac}{size n:Nat}{xs:List As}(h:w.ownsRow base e size v n xs)(o:Obj):(w.alloc o).ownsRow base e size v n xs:=h.alloc o
theorem own_fr{w w':Ac}{size n:Nat}{xs:List As}{S:AG}(h:w.ownsRow base e size v n xs)(f:Fr S w w')(hn: ∀k,v.ownBlock=I k→ ¬S k):w'.ownsRow base e size v n xs:=by
 have hl:=own_lt h;obtain⟨h1,h2⟩:=h;refine⟨h1, ?_⟩;rcases h2 with h2|⟨g,cap,cur,hv,hg,hh,r⟩;·exact Or.inl h2
 ·have e:v.ownBlock=I g:=by rw[hv];rfl
  exact Or.inr ⟨g,cap,cur,hv,hg,(f.block g (hl g e) (hn g e)).trans hh,r⟩
theorem Cn{w:Ac}{g:Nat}{t:AK}{cs:AL}{size n:Nat}(h:Blk w g t cs)(hn:cs.size=n*size):Reads w (g+1) size (I ⟨g,0,G⟩) n cs.toList:=by
 refine⟨by simpa using hn,λ_=>⟨_,rfl,AB,λj u hu=>?_⟩⟩;have e:(⟨g,0,G⟩:Addr).add j=⟨g,j,G⟩:=by
  unfold Addr.add;split;·rename_i h0;subst h0;rfl
  ·simp
 rw[e,h.cell j];simpa using hu
def setRange(cs:AL):Nat→List As→AL
 |_,[]=>cs
 |o,v::r=>setRange (cs.setIfInBounds o v) (o+1) r
theorem Lm(vs:List As): ∀(cs:AL) (o:Nat),(setRange cs o vs).size=cs.size:=by
 induction vs with
 |nil=>intro cs o;rfl
 |cons v r ih=>intro cs o;rw[setRange,ih];simp
theorem TM(vs:List As): ∀(cs:AL) (o i:Nat),(i<o∨o+vs.length≤i)→(setRange cs o vs)[i]?=cs[i]?:=by
 induction vs with
 |nil=>intro cs o i _;rfl
 |cons v r ih=>
  intro cs o i h;rw[setRange,ih _ _ _ (by simp at h;omega),Array.getElem?_setIfInBounds,Ae (by simp at h;omega)]
theorem TN(vs:List As): ∀(cs:AL) (o j:Nat),o+vs.length≤cs.size→j<vs.length→(setRange cs o vs)[o+j]?=vs[j]?:=by
 induction vs with
 |nil=>intro cs o j _ h;simp at h
 |cons v r ih=>
  intro cs o j hs h
  cases j with
  |zero=>
   rw[setRange,TM _ _ _ _ O];simp at hs;simp[Array.getElem?_setIfInBounds];omega
  |succ j=>
   rw[setRange,show o+(j+1)=o+1+j by omega,ih _ _ _ (by simp at hs⊢;omega) C3];simp
theorem Blk.setCells{g:Nat}{t:AK}(vs:List As): ∀{w:Ac} {cs:AL} (o:Nat),Blk w g t cs→Blk (w.setCells g o vs) g t (setRange cs o vs):=by
 induction vs with
 |nil=>intro w cs o h;exact h
 |cons v r ih=>intro w cs o h;exact ih (o+1) (h.set_ o v)
theorem Fr.setCells{S:AG}{a:Ac}{g:Nat}(vs:List As): ∀{w:Ac} (o:Nat),Fr S a w→S g∨↑a≤g→Fr S a (w.setCells g o vs):=by
 induction vs with
 |nil=>intro w o h _;exact h
 |cons v r ih=>intro w o h hg;exact ih (o+1) (h.setCell (p:=⟨g,o,G⟩) hg v) hg
theorem Ln(vs:List As)(cs:AL)(n:Nat)(hn:vs.length=n)(hs:n≤cs.size):(setRange cs 0 vs).toList.take n=vs:=by
 apply List.ext_getElem?;intro i;by_cases hi:i<n;·rw[Cw hi,CN];have:=TN vs cs 0 i O O;rw[Bn] at this;exact this
 ·rw[De A8,De O]
theorem Gz{k:IntKind}{w:Ac}{B n:Nat}{A:Aw}{zs:List Int}(h:IntsAt k w B A n zs):Reads w B 1 A n (zs.map (J k)):=by
 refine⟨by simpa using h.1,λhn=>?_⟩;obtain⟨b,off,e,hb,hc⟩:=h.2.2 hn;refine⟨_,e,hb,λj u hu=>?_⟩;have hj:j<zs.length:=by
  rcases Nat.lt_or_ge j zs.length with h|h;·exact h
  ·rw[De C3] at hu;cases hu
 have e1:(⟨b,off,G⟩:Addr).add j=⟨b,off+j,G⟩:=I9;rw[e1,hc j (by have:=h.1;omega),←hu];simp[hj]
theorem DR{k:IntKind}{zs:List Int}: ∀u∈zs.map (J k),u.oneCell'=Af:=by
 intro u hu;obtain⟨z,_,rfl⟩:=Bo.1 hu;rfl
theorem own_blk{w:Ac}{size n:Nat}{xs:List As}(h:w.ownsRow base e size v n xs)(hn:0<n): ∃g cap cur,v=.slice (I ⟨g,0,G⟩) n cap∧base≤g∧Blk w g e cur∧n≤cap∧cap≤Br∧cur.size=cap*size∧cur.toList.take (n*size)=xs:=by
 rcases h.2 with⟨_,h0⟩|h;·omega
 ·exact h
end
namespace Sv
open Gs
abbrev stc(s:St)(dv rv:As):AL:=#[J V s.pc,dv,rv,J V s.fl,Ap s.su,Ap s.pg,Ap s.ie,J V s.rt,J V s.ve,J V s.ep,J V s.ca,J V s.ad,Ap s.es,Ap s.ei,J AM s.ct,Ap s.ha]
def Rw(w:Ac)(base:Nat)(v:As)(zs:List Int):Prop:=w.ownsRow base 24 1 v zs.length (zs.map (J V))
structure StV(w:Ac)(base:Nat)(s:St)(dv rv:As):Prop where
 d:Rw w base dv s.d
 r:Rw w base rv s.r
 ok:s.Ok
section
variable {w w':Ac} {base b2:Nat} {v dv rv:As} {zs:List Int} {s:St} {S:AG}
theorem Rw.fr(h:Rw w base v zs)(f:Fr S w w')(hn: ∀k,v.ownBlock=I k→ ¬S k):Rw w' base v zs:=own_fr h f hn
theorem Rw.low(h:Rw w base v zs)(hb:b2≤base):Rw w b2 v zs:=G8
theorem Rw.form(h:Rw w base v zs): ∃A c,v=U A zs.length c:=Lq
variable{n:Nat}
theorem Rw.reads{A:Aw}{c:Nat}(h:Rw w base (U A n c) zs):n=zs.length∧Reads w ↑w 1 A zs.length (zs.map (J V))∧(A=G→zs.length=0∧c=0):=by
 have hn:n=zs.length:=by
  obtain⟨A',c',e⟩:=h.form;injection e
 subst hn;refine⟨rfl,Reads.of_own h,λe=>?_⟩;exact Ls
theorem Rw.nil(w:Ac)(base:Nat):Rw w base (U G 0 0) []:=⟨rfl,Ag ⟨rfl,rfl⟩⟩
theorem Rw.none_{A:Aw}{c:Nat}(h:Rw w base (U A n c) zs):(A=G∧n=0∧c=0∧zs=[])∨ ∃g,A=I ⟨g,0,G⟩:=by
 rcases h.2 with⟨e2,h0⟩|⟨g',cap,cur,e2,_⟩;·injection e2 with e1 h1 h2;exact Ag ⟨e1,h1,h2,List.eq_nil_of_length_eq_zero h0⟩
 ·injection e2 with e1;exact Ah ⟨g',e1⟩
theorem Rw.lt(h:Rw w base v zs): ∀k,v.ownBlock=I k→k<w.heap.size:=own_lt h
theorem Rw.ge(h:Rw w base v zs): ∀k,v.ownBlock=I k→base≤k:=own_base h
theorem StV.fr(h:StV w base s dv rv)(f:Fr S w w')(hd: ∀k,dv.ownBlock=I k→ ¬S k)(hr: ∀k,rv.ownBlock=I k→ ¬S k):StV w' base s dv rv:=⟨h.d.fr f hd,h.r.fr f hr,h.ok⟩
theorem StV.fr0(h:StV w base s dv rv)(f:Fr Aj w w'):StV w' base s dv rv:=h.fr f (λ_ _ e=>e) (λ_ _ e=>e)
theorem StV.low(h:StV w base s dv rv)(hb:b2≤base):StV w b2 s dv rv:=⟨h.d.low hb,h.r.low hb,h.ok⟩
end
theorem info32:(Tryz.prog.info? 24).map (λi=>(i.zero,i.size,i.bytes))=I (I (J V 0),1,4):=AI
def Gv(w:Ac)(zs:List Int)(e:AT)(w':Ac):Prop:= ∃A c,e=Ax (U A zs.length c)∧Rw w' ↑w (U A zs.length c) zs∧Fr Aj w w'
theorem clone32(w:Ac)(base:Nat)(v:As)(zs:List Int)(h:Rw w base v zs)(hn:zs.length≤100000):At Tryz.prog 43 #[v] w (Gv w zs):=by
 obtain⟨i0,hi0,hz0,hz1,hz2⟩:=BH info32;obtain⟨A,c,rfl⟩:=h.form;obtain⟨_,hr,hne⟩:=h.reads
 cases A with
 |none=>
  obtain⟨h0,rfl⟩:=hne rfl;have hnil:zs=[]:=List.eq_nil_of_length_eq_zero h0;subst hnil;have hq:=λw=>Lib.run_eql_slice_nil (P:=Tryz.prog) w 38 24 G 0 0 0 0 Tryz.underlying38;clear h hr hne h0;go_in
  go_wp2
  go_ret;exact⟨_,_,rfl,Rw.nil _ _,Ao _ _⟩
 |some ad=>
  generalize hl:zs.length=n at*;have hq:=λw=>Lib.run_eql_slice_nil (P:=Tryz.prog) w 38 24 (I ad) n c 0 0 Tryz.underlying38;have ho:(w.alloc (.cells #[] 24)).ownsRow ↑w 24 1 (U (I ⟨↑w,0,G⟩) 0 0) 0 []:=⟨rfl,Ah ⟨↑w,0,#[],rfl,AE _,AH _ _ _,AE _,DT,rfl,rfl⟩⟩;have hr1:=hr.alloc (AE _) (.cells #[] 24);have HL:=T hl;clear hr h hne hl;go_in;go_wp2_with
   (at_builtin
    refine Ce _ rfl (.tmp 5) (.tmp 6) _ rfl w.heap.size 24 i0 _ 1 4 Tryz.underlying38 hi0 hz0 hz1 hz2 rfl O (U (I ⟨w.heap.size,0,G⟩) 0 0) 0 [] rfl ho w.heap.size (I ad) n c (zs.map (J V)) rfl hr1 DR Bu O AB ?_
    intro v1 w1 hown1 hg1 hat1)
  go_ret;rw[Bn,CI] at hown1;have hv1:Rw w1 ↑w v1 zs:=by unfold Rw;rw[HL.out];exact hown1
  obtain⟨A1,c1,rfl⟩:=hv1.form;refine⟨A1,c1,rfl,hv1,((Ao _ _).alloc _).grown hg1 (λk hk=>?_)⟩;exact Lt
def GivesS(w:Ac)(s:St)(e:AT)(w':Ac):Prop:=
 ∃A c B d,e=Ax (AA (stc s (U A s.d.length c) (U B s.r.length d)))∧StV w' ↑w s (U A s.d.length c) (U B s.r.length d)∧(∀k,(U A s.d.length c).ownBlock=I k→(U B s.r.length d).ownBlock≠I k)∧Fr Aj w w'
variable{g:Nat}{t:AK}
theorem cells16{w:Ac}{a0 a1 a2 a3 a4 a5 a6 a7 a8 a9 a10 a11 a12 a13 a14 a15:As}(h:Blk w g t #[a0,a1,a2,a3,a4,a5,a6,a7,a8,a9,a10,a11,a12,a13,a14,a15]):w.cell? ⟨g,0,G⟩=I a0∧w.cell? ⟨g,1,G⟩=I a1∧w.cell? ⟨g,2,G⟩=I a2∧w.cell? ⟨g,3,G⟩=I a3∧w.cell? ⟨g,4,G⟩=I a4∧w.cell? ⟨g,5,G⟩=I a5∧w.cell? ⟨g,6,G⟩=I a6∧w.cell? ⟨g,7,G⟩=I a7∧ w.cell? ⟨g,8,G⟩=I a8∧w.cell? ⟨g,9,G⟩=I a9∧w.cell? ⟨g,10,G⟩=I a10∧w.cell? ⟨g,11,G⟩=I a11∧w.cell? ⟨g,12,G⟩=I a12∧w.cell? ⟨g,13,G⟩=I a13∧w.cell? ⟨g,14,G⟩=I a14∧w.cell? ⟨g,15,G⟩=I a15:=
 ⟨h.cell 0,h.cell 1,h.cell 2,h.cell 3,h.cell 4,h.cell 5,h.cell 6,h.cell 7,h.cell 8,h.cell 9,h.cell 10,h.cell 11,h.cell 12,h.cell 13,h.cell 14,h.cell 15⟩
variable{cs cs':AL}
theorem blk_over{w:Ac}(h:Blk w g t cs)(hs:cs'.size=cs.size):Blk (w.setCells g 0 cs'.toList) g t cs':=by
 have h1:=h.setCells cs'.toList 0;have e:setRange cs 0 cs'.toList=cs':=by
  apply Array.ext';have h2:=Ln cs'.toList cs cs'.size AB O;have h3:(setRange cs 0 cs'.toList).toList.length=cs'.size:=by rw[Array.length_toList,Lm];omega
  exact Lu
 rw[e] at h1;exact h1
theorem sz16:(Tryz.prog.info? 41).map (·.size)=I 16:=AI
theorem ID{w:Ac}(h:Blk w g t cs):w.rangeAt g 0 cs.toList:=λj v hv=>by
 rw[Bn,h.cell j];simpa using hv
theorem TO{w:Ac}(h:Blk w g t cs):w.there g 0 cs.size:=λj hj=>by
 rw[Bn];exact⟨by rw[h.cell j];simp[hj],h.frozen j⟩
variable{P:BW}{ty:AK}{d:TypeDesc}
theorem ldB{w:Ac}(h:Blk w g ty cs)(hu:P.underlying ty=I d)(hd:d.isRow=Af)(hi:(P.info? ty).map (·.size)=I cs.size):(Instr.loadAt ty ↑g).run P w=.ok (AA cs) w:=by
 have:=run_loadAt_mid (P:=P) w g 0 ty cs.toList d (ID h) hu hd (by rw[hi];simp);simpa using this
variable{n:Nat}{ops:Array Oper}{rest:List Oper}{a:Act}{Q:Exit→Act→Ac→Prop}{dst:Option Tmp}{t2:AK}{pos:String}{af:Array Edge}{x:Operand}
theorem wpL_ld{w:Ac}(h:Blk w g ty cs)(hu:P.underlying ty=I d)(hi:(P.info? ty).map (·.size)=I n)(hd:d.isRow=Af)(hn:cs.size=n)(hx:a.eval x=↑g)(hk:BL P ops Q rest (a.put dst (AA cs)) w):BL P ops Q (⟨dst,.load ty x,t2,pos,af,G⟩::rest) a w:=by
 refine wpList_load_mid rfl ty x rfl g 0 hx cs.toList d (ID h) hu hd GA ?_;simpa using hk
theorem wpL_st{w:Ac}(h:Blk w g ty cs)(hi:(P.info? ty).map (·.size)=I n)(hs:cs'.size=cs.size)(hn:cs'.size=n)(h1:cs'.all (·.oneCell')=Af){y:Operand}(hx:a.eval x=↑g)(hy:a.eval y=AA cs')(hk: ∀W,Blk W g ty cs'→Fr (· =g) w W→BL P ops Q rest (a.put dst Bt) W):BL P ops Q (⟨dst,.store ty x y,t2,pos,af,G⟩::rest) a w:=
 wpList_store_mid rfl ty x y rfl g 0 cs' hx hy (by rw[hs];exact TO h) (by rw[hi,hn]) h1 (hk _ (blk_over h hs) (Fr.setCells _ _ (Ao _ _) (Ag rfl)))
theorem wpL_lq{w:Ac}(h:Blk w g ty cs)(hu:P.underlying ty=I d)(hi:(P.info? ty).map (·.size)=I n)(hk:BL P ops Q rest (a.put dst (AA cs)) w)(hd:d.isRow=Af:=by with_unfolding_all rfl)(hn:cs.size=n:=by with_unfolding_all rfl)(hx:a.eval x=↑g:=by with_unfolding_all rfl):BL P ops Q (⟨dst,.load ty x,t2,pos,af,G⟩::rest) a w:=wpL_ld h hu hi hd hn hx hk
theorem wpL_sq{w:Ac}(h:Blk w g ty cs)(hi:(P.info? ty).map (·.size)=I n)(h1:cs'.all (·.oneCell')=Af){y:Operand}(hk: ∀W,Blk W g ty cs'→Fr (· =g) w W→BL P ops Q rest (a.put dst Bt) W)(hs:cs'.size=cs.size:=by with_unfolding_all rfl)(hn:cs'.size=n:=by with_unfolding_all rfl)(hx:a.eval x=↑g:=by with_unfolding_all rfl)(hy:a.eval y=AA cs':=by with_unfolding_all rfl):BL P ops Q (⟨dst,.store ty x y,t2,pos,af,G⟩::rest) a w:=wpL_st h hi hs hn h1 hx hy hk
theorem CJ{fn:Func}{q:Tmp}{ty':AK}(h:fn.results=#[.cell q ty'])(tmps:AL)(w:Ac)(g':Nat)(t':AK)(cs':AL)(d':TypeDesc)(hq:tmps.getD q Bt=↑g')(hg':Blk w g' t' cs')(hu':P.underlying ty'=I d')(hd':(match d' with|.struct _|.array _ _=>Af|_=>Aa)=Af)(hi':(P.info? ty').map (·.size)=I cs'.size):(results fn tmps).run P w=.ok (AA cs') w:=by
 have hq':=GB;simp[results,h,hq',asAddr,run_loadVar_row w g' t' ty' cs' (0,0) d' hg' hu' hd' hi',D5,CT]
theorem one16(s:St)(dv rv:As)(hd:dv.oneCell'=Af)(hr:rv.oneCell'=Af):(stc s dv rv).all (·.oneCell')=Af:=by
 simp[stc,Value.oneCell',hd,hr] at*;exact⟨hd,hr⟩
abbrev z16:AL:=#[J V 0,U G 0 0,U G 0 0,J V 0,Ap Aa,Ap Aa,Ap Aa,J V 0,J V 0,J V 0,J V 0,J V 0,Ap Aa,Ap Aa,J AM 0,Ap Aa]
theorem boxed2(w:Ac)(cs ds:AL)(t t2:AK):Blk ((w.alloc (.cells cs t)).alloc (.cells ds t2)) ↑w t cs∧Blk ((w.alloc (.cells cs t)).alloc (.cells ds t2)) (↑w+1) t2 ds∧Fr Aj w ((w.alloc (.cells cs t)).alloc (.cells ds t2)):=by
 refine⟨(AH w t cs).alloc _, ?_,((Ao _ w).alloc _).alloc _⟩;have:=AH (w.alloc (.cells cs t)) t2 ds;exact Lv
theorem copy_any(w:Ac)(base:Nat)(s:St)(dv rv:As)(h:StV w base s dv rv)(hd:s.d.length≤100000)(hr:s.r.length≤100000):At Tryz.prog 26 #[AA (stc s dv rv)] w (GivesS w s):=by
 obtain⟨b1,b2,f0⟩:=boxed2 w (stc s dv rv) z16 41 41;have H1:=T (λW (f:Fr Aj w W)=>clone32 W base dv s.d ((h.fr0 f).d) hd);have H2:=T (λW (f:Fr Aj w W)=>clone32 W base rv s.r ((h.fr0 f).r) hr);have Hok:=T h.ok;have B1:=T b1;have B2:=T b2;have F0:=T f0;clear h b1 b2 f0;go_in;go_wp2_with fail
 go_region_with (first
  |((refine(H1.out _ (by(repeat(first|exact Ao _ _|with_reducible assumption|refine Fr.drewN ?_ _|refine Fr.drew ?_|refine Fr.alloc ?_ _|(refine Fr.setCell (p:=⟨_,_,_⟩) ?_ ?_ _;rotate_left;first|exact Ag rfl|(right;simp;done)|(right;simp;omega)))))).mono ?_);rintro e w1 ⟨A1,c1,rfl,hd1,f1⟩;have k2:=(B1.out.drew.fr f1 id).cell 2;have F1:=T (F0.out.drew.tr f1);have HD:=T hd1;have B11:=T (B1.out.drew.fr f1 id);have B21:=T (B2.out.drew.fr f1 id);clear f1 hd1)
  |((refine(H2.out _ F1.out).mono ?_);rintro e w2 ⟨A2,c2,rfl,hr1,f2⟩;have B12:=T (B11.out.fr f2 id);have B22:=T (B21.out.fr f2 id);have F2:=T (F1.out.tr f2);have HD2:=T (HD.out.fr f2 (λ_ _ e=>e));have HR:=T hr1;have y1:=B12.out.cell 1;have y2:=B12.out.cell 2;have z1:=B12.out.frozen 1;have z2:=B12.out.frozen 2;have hgs:=T HD.out.lt;clear f2 hr1 k2))
 all_goals
  have b3:Blk ((w2.setCell ⟨↑w,1,G⟩ (U A1 s.d.length c1)).setCell ⟨↑w,2,G⟩ (U A2 s.r.length c2)) ↑w 41 (stc s (U A1 s.d.length c1) (U A2 s.r.length c2)):=(B12.out.set_ 1 _).set_ 2 _;have b4:Blk ((w2.setCell ⟨↑w,1,G⟩ (U A1 s.d.length c1)).setCell ⟨↑w,2,G⟩ (U A2 s.r.length c2)) (↑w+1) 41 z16:=(B22.out.far (p:=⟨↑w,1,G⟩) AB _).far (p:=⟨↑w,2,G⟩) AB _;have f4:Fr (λq=>q=w.heap.size) w2 ((w2.setCell ⟨↑w,1,G⟩ (U A1 s.d.length c1)).setCell ⟨↑w,2,G⟩ (U A2 s.r.length c2)):=(Bc w2 ↑w 1 _).setCell (p:=⟨↑w,2,G⟩) (.inl rfl) _;have F4:=T f4;have B4:=T b4;clear f4 y1 y2 z1 z2;obtain⟨W4,hW4⟩:=Az ((w2.setCell ⟨↑w,1,G⟩ (U A1 s.d.length c1)).setCell ⟨↑w,2,G⟩ (U A2 s.r.length c2));rw[hW4] at b3 b4 F4 B4⊢;clear hW4;have o1:=one16 s (U A1 s.d.length c1) (U A2 s.r.length c2) rfl rfl;go_wp2_with ((with_reducible refine wpL_lq b3 AP sz16 ?_);(with_reducible refine wpL_sq (cs':=stc s (U A1 s.d.length c1) (U A2 s.r.length c2)) b4 sz16 o1 ?_);intro W5 b5 f5;have B5:=T b5;have F5:=T f5;clear b5 f5 b3 b4);refine Bf (CJ rfl _ _ (w.heap.size+1) 41 _ _ rfl B5.out AP rfl sz16) rfl ?_;have n1:=HD.out.ge;have n2:=HR.out.ge;have n3:=HD.out.lt;have s1:=F0.out.size;have s2:w.heap.size+1<w1.heap.size:=B21.out.lt;have s0:=F1.out.size;refine⟨A1,c1,A2,c2,rfl,⟨?_, ?_,Hok.out⟩,λk hk hk2=>?_, ?_⟩
  ·refine((HD2.out.fr F4.out (λk hk e=>?_)).fr F5.out (λk hk e=>?_)).low A8;·have:=n1 k hk;simp at this;omega
   ·have:=n1 k hk;simp at this;omega
  ·refine((HR.out.fr F4.out (λk hk e=>?_)).fr F5.out (λk hk e=>?_)).low O;·have:=n2 k hk;omega
   ·have:=n2 k hk;omega
  ·have:=n3 k hk;have:=n2 k hk2;omega
  ·exact(F2.out.trans F4.out (λi hi e=>O)).trans F5.out (λi hi e=>O)
end Sv
namespace Sv
open Gs
theorem TP(w:Ac)(b:Bool):At Tryz.prog 203 #[Ap b] w λe w'=>e=Ax (J V (nb b))∧w=w':=Lx
theorem new_any(w:Ac):At Tryz.prog 36 #[] w λe w'=>e=Ax (AA (stc St.new (U G 0 0) (U G 0 0)))∧Fr Aj w w':=by
 go_in;go_wp2_with fail;refine Bf (CJ rfl _ _ w.heap.size 41 _ _ rfl (AH _ _ _) AP rfl sz16) rfl ⟨rfl,(Ao _ w).alloc _⟩
theorem get_any(w:Ac)(s:St)(dv rv:As)(reg:Int)(h0:0≤reg)(ct0:0≤s.ct):At Tryz.prog 155 #[AA (stc s dv rv),J Z reg] w λe w'=>e=Ax (AD #[J V (getV s reg),Ap (getB reg)])∧Fr Aj w w':=by
 have hw:IntKind.u32.wrap s.ct=s.ct%4294967296:=DH _;have f1:=(Ao Aj w).alloc (.cells (stc s dv rv) 41);have F1:=T f1;clear f1;by_cases hr:reg≤10
 ·have hc:reg=0∨reg=1∨reg=2∨reg=3∨reg=4∨reg=5∨reg=6∨reg=7∨reg=8∨reg=9∨reg=10:=O;rcases hc with rfl|rfl|rfl|rfl|rfl|rfl|rfl|rfl|rfl|rfl|rfl
  all_goals
   simp only[getV,getB,Int.reduceEq,if_true,if_false,Int.reduceLE,decide_true,Bool.and_self];clear hr h0
   try generalize s.ct%4294967296=cw at*
   go_in;go_wp2_with ((refine(TP _ _).mono ?_;rintro e w' ⟨rfl,rfl⟩));go_ret2;exact⟨rfl,F1.out⟩
 ·have e1:getV s reg=0:=by
   unfold getV;rw[Ae O,Ae O,Ae O,Ae O,Ae O,Ae O,Ae O,Ae O,Ae O,Ae O,Ae O]
  have e2:getB reg=Aa:=by simp[getB];omega
  rw[e1,e2];have n0:(reg==0)=Aa:=A8;have n1:(reg==1)=Aa:=A8;have n2:(reg==2)=Aa:=A8;have n3:(reg==3)=Aa:=A8;have n4:(reg==4)=Aa:=A8;have n5:(reg==5)=Aa:=A8;have n6:(reg==6)=Aa:=A8;have n7:(reg==7)=Aa:=A8;have n8:(reg==8)=Aa:=A8;have n9:(reg==9)=Aa:=A8;have n10:(reg==10)=Aa:=A8;clear e1 e2 hr h0 hw;go_in
  go_wp2
  go_ret2;exact⟨rfl,F1.out⟩
end Sv
namespace Sv
open Gs
theorem right_any(w:Ac)(s:St)(A B:Aw)(c d:Nat):At Tryz.prog 40 #[AA (stc s (U A s.d.length c) (U B s.r.length d))] w λe w'=>e=Ax (Ap s.right)∧Fr Aj w w':=by
 have F1:=T ((Ao Aj w).alloc (.cells (stc s (U A s.d.length c) (U B s.r.length d)) 41));have e:s.right=(decide (s.d.length≤16)&&decide (s.r.length≤16)&&decide (s.fl≤15)):=rfl;rw[e];clear e;by_cases h1:s.d.length≤16
 ·by_cases h2:s.r.length≤16
  ·by_cases h3:s.fl≤15
   ·have e1:=IE;have e2:=Ly;have e3:decide (s.fl≤15)=Af:=by simp[h3]
    simp only[h1,h2,h3,decide_true,Bool.and_self];exact Lz
   ·have e1:=IE;have e2:=Ly;have e3:decide (s.fl≤15)=Aa:=by simpa using h3
    simp only[h1,h2,h3,decide_true,decide_false,Bool.and_self,Bool.and_false];exact Lz
  ·have e1:=IE;have e2:decide ((s.r.length:Int)≤16)=Aa:=A8;simp only[h1,h2,decide_true,decide_false,Bool.and_false,D7];clear h1 h2;go_in;exact IF
 ·have e1:decide ((s.d.length:Int)≤16)=Aa:=A8;simp only[h1,decide_false,D7];clear h1;go_in;exact IF
theorem _root_.Go.Proofs.YtpmlgdopfafcgaaGreatDoor.Fr.at_{g:Nat}{a w:Ac}(h:Fr (· =g) a w)(i:Nat)(v:As):Fr (· =g) a (w.setCell ⟨g,i,G⟩ v):=h.setCell (p:=⟨g,i,G⟩) (Ag rfl) v
theorem ended{w w1 w2 W4 W5:Ac}{g1 g2:Nat}{s t:St}{A B:Aw}{c d:Nat}(f0:Fr Aj w w1)(h1:↑w≤g1)(l1:g1<↑w1)(h2:↑w≤g2)(l2:g2<↑w1)(f1:Fr Aj w1 w2)(hS:StV w2 ↑w1 s (U A s.d.length c) (U B s.r.length d))(hne: ∀k,(U A s.d.length c).ownBlock=I k→(U B s.r.length d).ownBlock≠I k)(f2:Fr (· =g1) w2 W4)(f3:Fr (· =g2) W4 W5)(ht:t.Ok)(hd:t.d=s.d)(hr:t.r=s.r):GivesS w t (Ax (AA (stc t (U A s.d.length c) (U B s.r.length d)))) W5:=by
 have n1:=hS.d.ge;have n2:=hS.r.ge;have s1:=f0.size;have key:StV W5 ↑w s (U A s.d.length c) (U B s.r.length d):=by
  refine((hS.fr f2 (λk hk e=>?_) (λk hk e=>?_)).fr f3 (λk hk e=>?_) (λk hk e=>?_)).low s1;·have:=n1 k hk;omega
  ·have:=n2 k hk;omega
  ·have:=n1 k hk;omega
  ·have:=n2 k hk;omega
 refine⟨A,c,B,d,by rw[hd,hr], ?_, ?_,((f0.tr f1).trans f2 (λi hi e=>O)).trans f3 (λi hi e=>O)⟩;·rw[hd,hr];exact⟨by rw[hd];exact key.d,by rw[hr];exact key.r,ht⟩
 ·rw[hd,hr];exact hne
theorem TQ(s:St)(D R:As)(cau ad:Int):(((((((((stc s D R).setIfInBounds 9 (J V s.pc)).setIfInBounds 10 (J V cau)).setIfInBounds 11 (J V ad)).setIfInBounds 12 (Ap s.su)).setIfInBounds 13 (Ap s.ie)).setIfInBounds 4 (Ap Af)).setIfInBounds 6 (Ap Aa)).setIfInBounds 0 (J V s.ve))=stc (s.trap cau ad) D R:=by
 simp only[stc,Eb,List.set_cons_zero,List.set_cons_succ,St.trap]
theorem trap_blk{W:Ac}{g:Nat}{t:AK}{s:St}{D R:As}{cau ad:Int}(h:Blk W g t (stc s D R)):Blk ((((((((W.setCell ⟨g,9,G⟩ (J V s.pc)).setCell ⟨g,10,G⟩ (J V cau)).setCell ⟨g,11,G⟩ (J V ad)).setCell ⟨g,12,G⟩ (Ap s.su)).setCell ⟨g,13,G⟩ (Ap s.ie)).setCell ⟨g,4,G⟩ (Ap Af)).setCell ⟨g,6,G⟩ (Ap Aa)).setCell ⟨g,0,G⟩ (J V s.ve)) g t (stc (s.trap cau ad) D R):=by
 have h1:=h.set_ 9 (J V s.pc);have h2:=h1.set_ 10 (J V cau);have h3:=h2.set_ 11 (J V ad);have h4:=h3.set_ 12 (Ap s.su);have h5:=h4.set_ 13 (Ap s.ie);have h6:=h5.set_ 4 (Ap Af);have h7:=h6.set_ 6 (Ap Aa);have h8:=h7.set_ 0 (J V s.ve);rw[TQ] at h8;exact h8
theorem trap_any(w:Ac)(base:Nat)(s:St)(A B:Aw)(c d:Nat)(h:StV w base s (U A s.d.length c) (U B s.r.length d))(hd:s.d.length≤100000)(hr:s.r.length≤100000)(cau ad:Int)(c0:0≤cau)(c1:cau≤4294967295)(a0:0≤ad)(a1:ad≤4294967295):At Tryz.prog 83 #[AA (stc s (U A s.d.length c) (U B s.r.length d)),J Z cau,J V ad] w (GivesS w (s.trap cau ad)):=by
 obtain⟨b1,b2,f0⟩:=boxed2 w (stc s (U A s.d.length c) (U B s.r.length d)) z16 41 41;have Hc:=T (copy_any _ base s _ _ (h.fr0 f0) hd hr);have hwc:IntKind.u32.wrap cau=cau:=CU;have Hok:=T h.ok;have F0:=T f0;have B2:=T b2;clear h f0 b2;go_in;go_wp2_with ((with_reducible refine wpL_lq b1 AP sz16 ?_));refine Ay Hc ?_;rintro e w2 ⟨A1,c1',B1',d1',rfl,hS,hne,f1⟩;have b12:=b1.fr f1 id;have B22:=T (B2.out.fr f1 id);have HS:=T hS;have F1:=T f1;have HN:=T hne;have o1:=one16 s (U A1 s.d.length c1') (U B1' s.r.length d1') rfl rfl;clear hS f1 b1 hne Hc;go_upto_region 2 with(((with_reducible refine wpL_sq (cs':=stc s (U A1 s.d.length c1') (U B1' s.r.length d1')) b12 sz16 o1 ?_);intro W3 b3 f3;have B3:=T b3;have F3:=T f3;obtain⟨k0,k1,k2,k3,k4,k5,k6,k7,k8,k9,k10,k11,k12,k13,k14,k15⟩:=cells16 b3;have z0:=b3.frozen 0;have z4:=b3.frozen 4;have z6:=b3.frozen 6;have z9:=b3.frozen 9;have z10:=b3.frozen 10;have z11:=b3.frozen 11;have z12:=b3.frozen 12;have z13:=b3.frozen 13;have B23:=T (B22.out.fr f3 (λe=>O));clear b3 f3 b12 o1 k1 k2 k3 k5 k7 k15));go_upto_region 4 with(fail);have o3:=one16 (s.trap cau ad) (U A1 s.d.length c1') (U B1' s.r.length d1') rfl rfl;have HT:Hid ((s.trap cau ad).Ok):=T ⟨Hok.out.ve,Hok.out.fl,Hok.out.rt,Hok.out.ve,Hok.out.pc,⟨c0,c1⟩,⟨a0,a1⟩,Hok.out.ct,Hok.out.d,Hok.out.r⟩;have b4:Blk ((((((((W3.setCell ⟨↑w,9,G⟩ (J V s.pc)).setCell ⟨↑w,10,G⟩ (J .u32 cau)).setCell ⟨↑w,11,G⟩ (J .u32 ad)).setCell ⟨↑w,12,G⟩ (Ap s.su)).setCell ⟨↑w,13,G⟩ (Ap s.ie)).setCell ⟨↑w,4,G⟩ (.bool Af)).setCell ⟨↑w,6,G⟩ (.bool Aa)).setCell ⟨↑w,0,G⟩ (J V s.ve)) ↑w 41 (stc (s.trap cau ad) (U A1 s.d.length c1') (U B1' s.r.length d1')):=trap_blk B3.out;have f4:Fr (· =w.heap.size) W3 ((((((((W3.setCell ⟨↑w,9,G⟩ (J V s.pc)).setCell ⟨↑w,10,G⟩ (J .u32 cau)).setCell ⟨↑w,11,G⟩ (J .u32 ad)).setCell ⟨↑w,12,G⟩ (Ap s.su)).setCell ⟨↑w,13,G⟩ (Ap s.ie)).setCell ⟨↑w,4,G⟩ (.bool Af)).setCell ⟨↑w,6,G⟩ (.bool Aa)).setCell ⟨↑w,0,G⟩ (J V s.ve)):=(((((((((Ao _ _).at_ 9 _).at_ 10 _).at_ 11 _).at_ 12 _).at_ 13 _).at_ 4 _).at_ 6 _).at_ 0 _);have b5:=B23.out.fr f4 (λe=>O);have F4:=T f4;clear f4
 trace "ready"
 go_wp2_with ((with_reducible refine wpL_lq b4 AP sz16 ?_);(with_reducible refine wpL_sq (cs':=stc (s.trap cau ad) (U A1 s.d.length c1') (U B1' s.r.length d1')) b5 sz16 o3 ?_);intro W5 b6 f5;have B5:=T b6;have F5:=T f5;clear b6 f5 b4 b5);refine Bf (CJ rfl _ _ (w.heap.size+1) 41 _ _ rfl B5.out AP rfl sz16) rfl ?_;refine ended (g1:=w.heap.size) (g2:=w.heap.size+1) F0.out (AE _) A8 O AB F1.out HS.out HN.out (F3.out.tr F4.out) F5.out HT.out rfl rfl
end Sv
namespace Tr
open Gs
structure IIn where
 op:Nat
 dst:Nat
 a:Nat
 b:Nat
 imm:Int
def make(s:St)(vs:List Int)(x:IIn):Int:=
 if x.op=0 then x.imm else if x.op=1 then s.d.getD (s.d.length -1 -x.imm.toNat) 0 else if x.op=2 then s.r.getD (s.r.length -1 -x.imm.toNat) 0
 else if x.op=3 then aluV x.imm (vs.getD x.a 0) (vs.getD x.b 0) else aluF x.imm (vs.getD x.a 0) (vs.getD x.b 0)
def evs(s:St)(code:List IIn):List Int:=code.foldl (λvs x=>vs++[make s vs x]) []
theorem evs_snoc(s:St)(code:List IIn)(x:IIn):evs s (code++[x])=evs s code++[make s (evs s code) x]:=by simp[evs,List.foldl_append]
theorem IG(s:St): ∀(code:List IIn) (vs:List Int),(code.foldl (λvs x=>vs++[make s vs x]) vs).length=vs.length+code.length
 |[],vs=>AB
 |x::l,vs=>by rw[List.foldl_cons,IG s l];simp;omega
theorem evs_len(s:St)(code:List IIn):(evs s code).length=code.length:=by rw[evs,IG];simp
theorem LA(s:St): ∀(code:List IIn) (vs:List Int) (n:Nat),n<vs.length→(code.foldl (λvs x=>vs++[make s vs x]) vs).getD n 0=vs.getD n 0
 |[],vs,n,h=>rfl
 |x::l,vs,n,h=>by
  rw[List.foldl_cons,LA s l _ n A8];simp[AN,CO h]
theorem evs_app(s:St)(c l:List IIn)(n:Nat)(h:n<c.length):(evs s (c++l)).getD n 0=(evs s c).getD n 0:=by
 rw[evs,List.foldl_append,LA s l _ n (by rw[IG];simp;omega)];rfl
theorem evs_last(s:St)(c:List IIn)(x:IIn):(evs s (c++[x])).getD c.length 0=make s (evs s c) x:=by
 rw[evs_snoc,AN,CB (by rw[evs_len];exact AE _),evs_len];simp
structure Lw where
 code:List IIn
 ld:List Nat
 lr:List Nat
 nd:Nat
 nr:Nat
 hd:Nat
 hr:Nat
 fl:Int
 tg:Int
 br:Int
def Lw.new:Lw:=⟨[],[],[],0,0,0,0,-1,-1,0⟩
def Lw.add(w:Lw)(op a b:Nat)(imm:Int):Lw:={w with code:=w.code++[⟨op,w.code.length,a,b,imm⟩]}
def Lw.popD(w:Lw):Lw:=if w.ld=[] then{w.add 1 0 0 w.nd with nd:=w.nd+1} else{w with ld:=w.ld.dropLast}
def Lw.popR(w:Lw):Lw:=if w.lr=[] then{w.add 2 0 0 w.nr with nr:=w.nr+1} else{w with lr:=w.lr.dropLast}
def Lw.topD(w:Lw):Nat:=if w.ld=[] then w.code.length else w.ld.getLastD 0
def Lw.topR(w:Lw):Nat:=if w.lr=[] then w.code.length else w.lr.getLastD 0
def Lw.pushD(w:Lw)(l:List Nat):Lw:={w with ld:=w.ld++l}
def Lw.pushR(w:Lw)(n:Nat):Lw:={w with lr:=w.lr++[n]}
def Lw.alu(w:Lw)(op:Int)(a b:Nat):Lw:=
 if op=25 then{w.add 4 a b op with fl:=w.code.length} else{((w.add 4 a b op).add 3 a b op).pushD [w.code.length+1] with fl:=w.code.length}
def Lw.one0(w:Lw)(i:Ins)(next:Int):Lw:=
 if i.op=1∨i.op=2 then(w.add 0 0 0 i.n).pushD [w.code.length]
 else if i.op=3 then w.popD.pushD [w.topD,w.topD]
 else if i.op=4 then w.popD
 else if i.op=5 then w.popD.popD.pushD [w.topD,w.popD.topD]
 else if i.op=6 then w.popD.popD.pushD [w.popD.topD,w.topD,w.popD.topD]
 else if i.op=7 then w.popD.pushR w.topD
 else if i.op=8 then w.popR.pushD [w.topR]
 else if 16≤i.op∧i.op≤25 then w.popD.popD.alu i.op w.popD.topD w.topD
 else if i.op=38 then(w.add 0 0 0 next).pushR w.code.length
 else if i.op=39 then{w.popR with tg:=w.topR}
 else if i.op=40 then{w.popD with tg:=w.topD}
 else if 33≤i.op∧i.op≤37 then{w with br:=i.op} else w
def Lw.high(w:Lw):Lw:={w with hd:=max w.hd (w.ld.length -w.nd),hr:=max w.hr (w.lr.length -w.nr)}
def Lw.one(w:Lw)(i:Ins)(next:Int):Lw:=(w.one0 i next).high
def Lw.all:Lw→Int→List Ins→Lw
 |w,pc,[]=>w
 |w,pc,i::l=>(w.one i ((pc+sizeI i.op)%4294967296)).all ((pc+sizeI i.op)%4294967296) l
structure Pg where
 code:List IIn
 nd:Nat
 nr:Nat
 hd:Nat
 hr:Nat
 od:List Nat
 or:List Nat
 fl:Int
 nx:Int
 tg:Int
 br:Int
 tk:Int
 ct:Nat
def pcs:Int→List Ins→Int
 |pc,[]=>pc
 |pc,i::l=>pcs ((pc+sizeI i.op)%4294967296) l
def lastI(l:List Ins):Ins:=l.getLastD ⟨0,0⟩
def lower0(pc:Int)(l:List Ins):Pg:=
 let w:=Lw.all Lw.new pc l
 let e:=pcs pc l
 {code:=w.code,nd:=w.nd,nr:=w.nr,hd:=w.hd,hr:=w.hr,od:=w.ld,or:=w.lr,fl:=w.fl,tg:=w.tg,br:=w.br,ct:=l.length,nx:=if(lastI l).op=32∨(lastI l).op=38 then(e+signI (lastI l).n)%4294967296 else e,tk:=if((lastI l).op=32∨(lastI l).op=38) then 0 else if w.br≠0 then(e+signI (lastI l).n)%4294967296 else 0}
def vat(vs:List Int)(n:Int):Int:=vs.getD n.toNat 0
def left(p:Pg)(s:St)(vs:List Int):St:=
 let fl:=if p.fl= -1 then s.fl else vat vs p.fl%16
 {s with d:=s.d.take (s.d.length -p.nd)++p.od.map (λn=>vs.getD n 0),r:=s.r.take (s.r.length -p.nr)++p.or.map (λn=>vs.getD n 0),fl:=fl,pc:=if p.tg≠ -1 then vat vs p.tg else if p.br≠0∧holdsB p.br fl=Af then p.tk else p.nx,ct:=(s.ct+p.ct)%18446744073709551616}
structure Fits(p:Pg)(s:St):Prop where
 d:p.nd≤s.d.length
 r:p.nr≤s.r.length
 hd:s.d.length+p.hd≤16
 hr:s.r.length+p.hr≤16
end Tr
namespace Tr
open Gs
def val(s:St)(code:List IIn)(n:Nat):Int:=(evs s code).getD n 0
structure DS(s:St)(code:List IIn)(nd:Nat)(ld:List Nat)(D d:List Int):Prop where
 le:nd≤D.length
 ix: ∀n∈ld,n<code.length
 eq:d=D.take (D.length -nd)++ld.map (val s code)
section
variable {s:St} {code:List IIn} {nd:Nat} {ld:List Nat} {D d:List Int}
theorem DS.ext(h:DS s code nd ld D d)(l:List IIn):DS s (code++l) nd ld D d:=
 ⟨h.le,λn hn=>by have:=h.ix n hn;simp;omega,by
  rw[h.eq];congr 1;exact List.map_congr_left λn hn=>(evs_app s code l n (h.ix n hn)).symm⟩
theorem DS.push(h:DS s code nd ld D d)(l:List Nat)(hl: ∀n∈l,n<code.length)(xs:List Int)(hx:xs=l.map (val s code)):DS s code nd (ld++l) D (d++xs):=
 ⟨h.le,λn hn=>by rcases BZ.1 hn with e|e;exact h.ix n e;exact hl n e,by rw[h.eq,hx,Df,BM]⟩
theorem DS.len(h:DS s code nd ld D d):d.length=D.length -nd+ld.length:=by
 rw[h.eq];simp
theorem DS.pop(h:DS s code nd ld D d){l:List Nat}{n:Nat}(e:ld=l++[n]):d≠[]∧DS s code nd l D d.dropLast∧n<code.length∧val s code n=top1 d:=by
 have e2:d=(D.take (D.length -nd)++l.map (val s code))++[val s code n]:=by rw[h.eq,e];simp
 refine⟨by rw[e2];simp,⟨h.le,λm hm=>h.ix m (by rw[e];simp[hm]),by rw[e2,Do]⟩,h.ix n CY, ?_⟩;rw[e2,top1];simp[Dg]
theorem DS.pop0(h:DS s code nd [] D d)(hn:nd+1≤D.length):d≠[]∧d.dropLast=D.take (D.length -(nd+1))∧top1 d=D.getD (D.length -1 -nd) 0:=by
 have e2:d=D.take (D.length -nd):=by rw[h.eq];simp
 have e3:d.length=D.length -nd:=by rw[e2];simp
 refine⟨λe=>by rw[e] at e3;simp at e3;omega, ?_, ?_⟩;·rw[e2,List.dropLast_eq_take,List.take_take];congr 1;simp;omega
 ·rw[top1,Dg,List.getLast?_eq_getElem?,e3,e2,Cw O,AN];congr 2;omega
end
theorem Lw.add_code(w:Lw)(op a b:Nat)(imm:Int):(w.add op a b imm).code=w.code++[⟨op,w.code.length,a,b,imm⟩]:=rfl
theorem popD_ok{w:Lw}{s:St}{d:List Int}(h:DS s w.code w.nd w.ld s.d d)(hn:w.popD.nd≤s.d.length):(∃l,w.popD.code=w.code++l)∧d≠[]∧DS s w.popD.code w.popD.nd w.popD.ld s.d d.dropLast∧w.topD<w.popD.code.length∧val s w.popD.code w.topD=top1 d:=by
 rcases w.ld.eq_nil_or_concat with e|⟨l,n,e⟩
 ·have hn':w.nd+1≤s.d.length:=by simpa[Lw.popD,e,Lw.add] using hn
  rw[e] at h;obtain⟨p1,p2,p3⟩:=h.pop0 hn';simp only[Lw.popD,Lw.topD,e,if_true,Lw.add];exact LC
 ·rw[DI] at e;have ne: ¬w.ld=[]:=CY;obtain⟨p1,p2,p3,p4⟩:=h.pop e;simp only[Lw.popD,Lw.topD,Ae ne];exact LD
theorem popR_ok{w:Lw}{s:St}{d:List Int}(h:DS s w.code w.nr w.lr s.r d)(hn:w.popR.nr≤s.r.length):(∃l,w.popR.code=w.code++l)∧d≠[]∧DS s w.popR.code w.popR.nr w.popR.lr s.r d.dropLast∧w.topR<w.popR.code.length∧val s w.popR.code w.topR=top1 d:=by
 rcases w.lr.eq_nil_or_concat with e|⟨l,n,e⟩
 ·have hn':w.nr+1≤s.r.length:=by simpa[Lw.popR,e,Lw.add] using hn
  rw[e] at h;obtain⟨p1,p2,p3⟩:=h.pop0 hn';simp only[Lw.popR,Lw.topR,e,if_true,Lw.add];exact LC
 ·rw[DI] at e;have ne: ¬w.lr=[]:=CY;obtain⟨p1,p2,p3,p4⟩:=h.pop e;simp only[Lw.popR,Lw.topR,Ae ne];exact LD
theorem popD_r(w:Lw):w.popD.lr=w.lr∧w.popD.nr=w.nr∧w.popD.fl=w.fl∧w.popD.tg=w.tg∧w.popD.br=w.br∧w.nd≤w.popD.nd∧w.popD.hd=w.hd∧w.popD.hr=w.hr:=by
 unfold Lw.popD;split<;>simp[Lw.add]
theorem popR_d(w:Lw):w.popR.ld=w.ld∧w.popR.nd=w.nd∧w.popR.fl=w.fl∧w.popR.tg=w.tg∧w.popR.br=w.br∧w.nr≤w.popR.nr∧w.popR.hd=w.hd∧w.popR.hr=w.hr:=by
 unfold Lw.popR;split<;>simp[Lw.add]
def Same(s c:St):Prop:=c.su=s.su∧c.pg=s.pg∧c.ie=s.ie∧c.rt=s.rt∧c.ve=s.ve∧c.ep=s.ep∧c.ca=s.ca∧c.ad=s.ad∧c.es=s.es∧c.ei=s.ei∧c.ha=s.ha
structure LI(w:Lw)(s c:St):Prop where
 D:DS s w.code w.nd w.ld s.d c.d
 R:DS s w.code w.nr w.lr s.r c.r
 fl:(w.fl= -1∧c.fl=s.fl)∨(0≤w.fl∧w.fl.toNat<w.code.length∧c.fl=val s w.code w.fl.toNat∧0≤c.fl∧c.fl<16)
 same:Same s c
def flI(w:Lw)(s:St)(f:Int):Prop:=(w.fl= -1∧f=s.fl)∨(0≤w.fl∧w.fl.toNat<w.code.length∧f=val s w.code w.fl.toNat∧0≤f∧f<16)
theorem flI.ext{w w':Lw}{s:St}{f:Int}(h:flI w s f)(he: ∃l,w'.code=w.code++l)(hf:w'.fl=w.fl):flI w' s f:=by
 obtain⟨l,hl⟩:=he;rcases h with⟨h1,h2⟩|⟨h1,h2,h3,h4⟩;·exact Ag ⟨hf.trans h1,h2⟩
 ·refine Ah ⟨by rw[hf];exact h1,by rw[hf,hl];simp;omega, ?_,h4⟩;rw[hf,hl,h3];exact(evs_app _ _ _ _ h2).symm
theorem DS.ex{s:St}{c c':List IIn}{nd:Nat}{ld:List Nat}{D d:List Int}(h:DS s c nd ld D d)(he: ∃l,c'=c++l):DS s c' nd ld D d:=by
 obtain⟨l,rfl⟩:=he;exact h.ext l
theorem ex_trans{a b c:List IIn}(h: ∃l,b=a++l)(k: ∃l,c=b++l): ∃l,c=a++l:=by
 obtain⟨l,rfl⟩:=h;obtain⟨m,rfl⟩:=k;exact⟨l++m,AB⟩
theorem len_ne{d:List Int}(h:d≠[]):d.dropLast.length+1=d.length:=by
 have:=CP.2 h;simp;omega
structure OneOk(w w':Lw)(s c c':St)(i:Ins):Prop where
 li:LI w' s c'
 td:takeD i.op≤c.d.length
 tr:takeR i.op≤c.r.length
 ld:c'.d.length=c.d.length -takeD i.op+putD i.op
 lr:c'.r.length=c.r.length -takeR i.op+putR i.op
 ex: ∃l,w'.code=w.code++l
 ct:c'.ct=(c.ct+1)%18446744073709551616
 nd:w.nd≤w'.nd
 nr:w.nr≤w'.nr
section
variable {w:Lw} {s c:St} {n next:Int}
theorem one_lit(op:Int)(ho:op=1∨op=2)(h:LI w s c):OneOk w (w.one0 ⟨op,n⟩ next) s c (plainS c ⟨op,n⟩) ⟨op,n⟩:=by
 have e1:w.one0 ⟨op,n⟩ next=(w.add 0 0 0 n).pushD [w.code.length]:=by simp only[Lw.one0,An ho]
 have e2:plainS c ⟨op,n⟩={c.next ⟨op,n⟩ with d:=c.d++[n]}:=by
  have:stackB op=Af:=by rcases ho with rfl|rfl<;>rfl
  simp only[plainS,this,if_true,stackS,An ho];rfl
 have t1:takeD op=0∧putD op=1∧takeR op=0∧putR op=0:=by rcases ho with rfl|rfl<;>decide
 rw[e1,e2];refine⟨⟨?_,h.R.ext _,flI.ext h.fl ⟨_,rfl⟩ rfl,h.same⟩,by simp[t1],by simp[t1],by simp[t1],by simp[t1,St.next],⟨_,rfl⟩,rfl,AE _,AE _⟩;refine(h.D.ext _).push _ Et _ ?_;simp only[D6,List.map_nil,Lw.add_code,val,evs_last];simp[make]
theorem one_nop(h:LI w s c):OneOk w (w.one0 ⟨0,n⟩ next) s c (plainS c ⟨0,n⟩) ⟨0,n⟩:=by
 have e1:w.one0 ⟨0,n⟩ next=w:=Ec
 have e2:plainS c ⟨0,n⟩=c.next ⟨0,n⟩:=by simp[plainS,stackB,stackS]
 rw[e1,e2];exact⟨⟨h.D,h.R,h.fl,h.same⟩,AU _,AU _,rfl,rfl,⟨[],AB⟩,rfl,AE _,AE _⟩
theorem LI.popD(h:LI w s c)(hn:w.popD.nd≤s.d.length){c':St}(hd:c'.d=c.d.dropLast)(hr:c'.r=c.r)(hf:c'.fl=c.fl)(hs:Same s c'):LI w.popD s c'∧c.d≠[]∧w.topD<w.popD.code.length∧val s w.popD.code w.topD=top1 c.d∧(∃l,w.popD.code=w.code++l):=by
 obtain⟨x1,x2,x3,x4,x5⟩:=popD_ok h.D hn;exact⟨⟨by rw[hd];exact x3,by rw[hr,(popD_r w).1,(popD_r w).2.1];exact h.R.ex x1,by rw[hf];exact flI.ext h.fl x1 (popD_r w).2.2.1,hs⟩,x2,x4,x5,x1⟩
theorem LI.popR(h:LI w s c)(hn:w.popR.nr≤s.r.length){c':St}(hd:c'.d=c.d)(hr:c'.r=c.r.dropLast)(hf:c'.fl=c.fl)(hs:Same s c'):LI w.popR s c'∧c.r≠[]∧w.topR<w.popR.code.length∧val s w.popR.code w.topR=top1 c.r∧(∃l,w.popR.code=w.code++l):=by
 obtain⟨x1,x2,x3,x4,x5⟩:=popR_ok h.R hn;exact⟨⟨by rw[hd,(popR_d w).1,(popR_d w).2.1];exact h.D.ex x1,by rw[hr];exact x3,by rw[hf];exact flI.ext h.fl x1 (popR_d w).2.2.1,hs⟩,x2,x4,x5,x1⟩
theorem LI.pushD(h:LI w s c)(l:List Nat)(hl: ∀n∈l,n<w.code.length){c':St}(hd:c'.d=c.d++l.map (val s w.code))(hr:c'.r=c.r)(hf:c'.fl=c.fl)(hs:Same s c'):LI (w.pushD l) s c':=
 ⟨by rw[hd];exact h.D.push l hl _ rfl,by rw[hr];exact h.R,by rw[hf];exact h.fl,hs⟩
theorem LI.pushR(h:LI w s c)(m:Nat)(hl:m<w.code.length){c':St}(hd:c'.d=c.d)(hr:c'.r=c.r++[val s w.code m])(hf:c'.fl=c.fl)(hs:Same s c'):LI (w.pushR m) s c':=
 ⟨by rw[hd];exact h.D,by rw[hr];exact h.R.push [m] (by simpa using hl) _ rfl,by rw[hf];exact h.fl,hs⟩
theorem LI.add(h:LI w s c)(op a b:Nat)(imm:Int){c':St}(hd:c'.d=c.d)(hr:c'.r=c.r)(hf:c'.fl=c.fl)(hs:Same s c'):LI (w.add op a b imm) s c':=
 ⟨by rw[hd];exact h.D.ext _,by rw[hr];exact h.R.ext _,by rw[hf];exact flI.ext h.fl ⟨_,rfl⟩ rfl,hs⟩
theorem one_dup(h:LI w s c)(hn:(w.one0 ⟨3,n⟩ next).nd≤s.d.length):OneOk w (w.one0 ⟨3,n⟩ next) s c (plainS c ⟨3,n⟩) ⟨3,n⟩:=by
 have e1:w.one0 ⟨3,n⟩ next=w.popD.pushD [w.topD,w.topD]:=Ec
 have e2:plainS c ⟨3,n⟩={c.next ⟨3,n⟩ with d:=c.d.dropLast++[top1 c.d,top1 c.d]}:=ES;rw[e1] at hn⊢;rw[e2];obtain⟨y1,y2,y3,y4,y5⟩:=h.popD hn (c':={c with d:=c.d.dropLast}) rfl rfl rfl h.same;have hl:=len_ne y2;refine⟨y1.pushD _ (by simp[y3]) (by simp[y4]) rfl rfl h.same, ?_,AU _, ?_,rfl,y5,rfl,(popD_r w).2.2.2.2.2.1,Nat.le_of_eq (popD_r w).2.1.symm⟩;·show 1≤_;omega
 ·show(c.d.dropLast++[top1 c.d,top1 c.d]).length=c.d.length -1+2;simp
theorem one_drop(h:LI w s c)(hn:(w.one0 ⟨4,n⟩ next).nd≤s.d.length):OneOk w (w.one0 ⟨4,n⟩ next) s c (plainS c ⟨4,n⟩) ⟨4,n⟩:=by
 have e1:w.one0 ⟨4,n⟩ next=w.popD:=Ec
 have e2:plainS c ⟨4,n⟩={c.next ⟨4,n⟩ with d:=c.d.dropLast}:=ES;rw[e1] at hn⊢;rw[e2];obtain⟨y1,y2,y3,y4,y5⟩:=h.popD hn (c':={c.next ⟨4,n⟩ with d:=c.d.dropLast}) rfl rfl rfl h.same;have hl:=len_ne y2;refine⟨y1, ?_,AU _, ?_,rfl,y5,rfl,(popD_r w).2.2.2.2.2.1,Nat.le_of_eq (popD_r w).2.1.symm⟩;·show 1≤_;omega
 ·exact IH
theorem one_tor(h:LI w s c)(hn:(w.one0 ⟨7,n⟩ next).nd≤s.d.length):OneOk w (w.one0 ⟨7,n⟩ next) s c (plainS c ⟨7,n⟩) ⟨7,n⟩:=by
 have e1:w.one0 ⟨7,n⟩ next=w.popD.pushR w.topD:=Ec
 have e2:plainS c ⟨7,n⟩={c.next ⟨7,n⟩ with d:=c.d.dropLast,r:=c.r++[top1 c.d]}:=ES;rw[e1] at hn⊢;rw[e2];obtain⟨y1,y2,y3,y4,y5⟩:=h.popD hn (c':={c with d:=c.d.dropLast}) rfl rfl rfl h.same;have hl:=len_ne y2;refine⟨y1.pushR _ y3 rfl (by simp[y4]) rfl h.same, ?_,AU _, ?_, ?_,y5,rfl,(popD_r w).2.2.2.2.2.1,Nat.le_of_eq (popD_r w).2.1.symm⟩;·show 1≤_;omega
 ·exact IH
 ·show(c.r++[top1 c.d]).length=c.r.length -0+1;simp
theorem TS(h:LI w s c)(hn:(w.one0 ⟨8,n⟩ next).nr≤s.r.length):OneOk w (w.one0 ⟨8,n⟩ next) s c (plainS c ⟨8,n⟩) ⟨8,n⟩:=by
 have e1:w.one0 ⟨8,n⟩ next=w.popR.pushD [w.topR]:=Ec
 have e2:plainS c ⟨8,n⟩={c.next ⟨8,n⟩ with d:=c.d++[top1 c.r],r:=c.r.dropLast}:=ES;rw[e1] at hn⊢;rw[e2];obtain⟨y1,y2,y3,y4,y5⟩:=h.popR hn (c':={c with r:=c.r.dropLast}) rfl rfl rfl h.same;have hl:=len_ne y2;refine⟨y1.pushD _ (by simp[y3]) (by simp[y4]) rfl rfl h.same,AU _, ?_, ?_, ?_,y5,rfl,Nat.le_of_eq (popR_d w).2.1.symm,(popR_d w).2.2.2.2.2.1⟩;·show 1≤_;omega
 ·show(c.d++[top1 c.r]).length=c.d.length -0+1;simp
 ·exact LE
theorem LI.pop2(h:LI w s c)(hn:w.popD.popD.nd≤s.d.length):LI w.popD.popD s {c with d:=c.d.dropLast.dropLast}∧2≤c.d.length∧w.topD<w.popD.popD.code.length∧w.popD.topD<w.popD.popD.code.length∧val s w.popD.popD.code w.topD=top1 c.d∧val s w.popD.popD.code w.popD.topD=top2 c.d∧(∃l,w.popD.popD.code=w.code++l)∧w.nd≤w.popD.popD.nd∧w.popD.popD.nr=w.nr:=by
 have q:=(popD_r w.popD).2.2.2.2.2.1;obtain⟨y1,y2,y3,y4,y5⟩:=h.popD O (c':={c with d:=c.d.dropLast}) rfl rfl rfl h.same;obtain⟨z1,z2,z3,z4,z5⟩:=y1.popD hn (c':={c with d:=c.d.dropLast.dropLast}) rfl rfl rfl h.same;have hl:=len_ne y2;have hl2:=CP.2 z2;have hl2:0<c.d.dropLast.length:=hl2;obtain⟨l,hl3⟩:=z5;refine⟨z1,O,by rw[hl3];simp;omega,z3, ?_,z4,ex_trans y5 ⟨l,hl3⟩,AS (popD_r w).2.2.2.2.2.1 q,(popD_r w.popD).2.1.trans (popD_r w).2.1⟩;rw[hl3,val,evs_app _ _ _ _ y3,←y4];rfl
theorem one_swap(h:LI w s c)(hn:(w.one0 ⟨5,n⟩ next).nd≤s.d.length):OneOk w (w.one0 ⟨5,n⟩ next) s c (plainS c ⟨5,n⟩) ⟨5,n⟩:=by
 have e1:w.one0 ⟨5,n⟩ next=w.popD.popD.pushD [w.topD,w.popD.topD]:=Ec
 have e2:plainS c ⟨5,n⟩={c.next ⟨5,n⟩ with d:=c.d.dropLast.dropLast++[top1 c.d,top2 c.d]}:=ES;rw[e1] at hn⊢;rw[e2];obtain⟨z1,z2,z3,z4,z5,z6,z7,z8,z9⟩:=h.pop2 hn;refine⟨z1.pushD _ (by simp[z3,z4]) (by simp[z5,z6]) rfl rfl h.same,z2,AU _, ?_,rfl,z7,rfl,z8,Nat.le_of_eq z9.symm⟩;show(c.d.dropLast.dropLast++[top1 c.d,top2 c.d]).length=c.d.length -2+2;simp;omega
theorem one_over(h:LI w s c)(hn:(w.one0 ⟨6,n⟩ next).nd≤s.d.length):OneOk w (w.one0 ⟨6,n⟩ next) s c (plainS c ⟨6,n⟩) ⟨6,n⟩:=by
 have e1:w.one0 ⟨6,n⟩ next=w.popD.popD.pushD [w.popD.topD,w.topD,w.popD.topD]:=Ec
 have e2:plainS c ⟨6,n⟩={c.next ⟨6,n⟩ with d:=c.d.dropLast.dropLast++[top2 c.d,top1 c.d,top2 c.d]}:=ES;rw[e1] at hn⊢;rw[e2];obtain⟨z1,z2,z3,z4,z5,z6,z7,z8,z9⟩:=h.pop2 hn;refine⟨z1.pushD _ (by simp[z3,z4]) (by simp[z5,z6]) rfl rfl h.same,z2,AU _, ?_,rfl,z7,rfl,z8,Nat.le_of_eq z9.symm⟩;show(c.d.dropLast.dropLast++[top2 c.d,top1 c.d,top2 c.d]).length=c.d.length -2+3;simp;omega
theorem one_alu(op:Int)(h0:16≤op)(h1:op≤25)(h24:op≠24)(h:LI w s c)(hn:(w.one0 ⟨op,n⟩ next).nd≤s.d.length):OneOk w (w.one0 ⟨op,n⟩ next) s c (plainS c ⟨op,n⟩) ⟨op,n⟩:=by
 have e1:w.one0 ⟨op,n⟩ next=w.popD.popD.alu op w.popD.topD w.topD:=by
  unfold Lw.one0;simp only[];rw[Ae O,Ae O,Ae O,Ae O,Ae O,Ae O,Ae O,An ⟨h0,h1⟩]
 have e2:plainS c ⟨op,n⟩={c.next ⟨op,n⟩ with d:=if op=25 then c.d.dropLast.dropLast else c.d.dropLast.dropLast++[aluV op (top2 c.d) (top1 c.d)],fl:=aluF op (top2 c.d) (top1 c.d)}:=by
  have:stackB op=Aa:=II;simp only[plainS,this,reckS,An (A9 h0 h1)];rfl
 have t1:takeD op=2∧takeR op=0∧putR op=0∧putD op=if op=25 then 0 else 1:=by
  refine⟨?_, ?_, ?_, ?_⟩;·unfold takeD;rw[Ae O,An O]
  ·unfold takeR;rw[Ae O]
  ·unfold putR;rw[Ae O]
  ·by_cases h25:op=25;·subst h25;decide
   ·unfold putD;rw[An O,Ae h25]
 rw[e1] at hn⊢;rw[e2];have hnd:(w.popD.popD.alu op w.popD.topD w.topD).nd=w.popD.popD.nd∧(w.popD.popD.alu op w.popD.topD w.topD).nr=w.popD.popD.nr:=by
  unfold Lw.alu;split<;>exact⟨rfl,rfl⟩
 rw[hnd.1] at hn;obtain⟨z1,z2,z3,z4,z5,z6,z7,z8,z9⟩:=h.pop2 hn;generalize hw2:w.popD.popD=w2 at*;generalize w.popD.topD=a at*;generalize w.topD=b at*;have hF:val s (w2.code++[⟨4,w2.code.length,a,b,op⟩]) w2.code.length=aluF op (top2 c.d) (top1 c.d):=by
  rw[val,evs_last];simp only[make];rw[val] at z5 z6;rw[Ae Ak,Ae Ak,Ae Ak,Ae Ak,z5,z6]
 by_cases h25:op=25
 ·have ea:w2.alu op a b={w2.add 4 a b op with fl:=w2.code.length}:=by unfold Lw.alu;rw[An h25]
  rw[ea];refine⟨⟨?_,z1.R.ext _,Ah ⟨Et,Et, ?_,aluF_bd _ _ _⟩,h.same⟩, ?_, ?_, ?_, ?_, ?_,rfl,z8,Nat.le_of_eq z9.symm⟩;·show DS s _ _ _ _ (if op=25 then _ else _);rw[An h25];exact z1.D.ext _
  ·simpa[Lw.add] using hF.symm
  ·show takeD op≤_;omega
  ·show takeR op≤_;omega
  ·show(if op=25 then _ else _:List Int).length=_ -takeD op+putD op;rw[An h25,t1.1,t1.2.2.2,An h25];simp;omega
  ·show c.r.length=_ -takeR op+putR op;omega
  ·exact ex_trans z7 ⟨_,rfl⟩
 ·have ea:w2.alu op a b={((w2.add 4 a b op).add 3 a b op).pushD [w2.code.length+1] with fl:=w2.code.length}:=by unfold Lw.alu;rw[Ae h25]
  rw[ea];have hV:val s ((w2.code++[⟨4,w2.code.length,a,b,op⟩])++[⟨3,w2.code.length+1,a,b,op⟩]) (w2.code.length+1)=aluV op (top2 c.d) (top1 c.d):=by
   have:=evs_last s (w2.code++[⟨4,w2.code.length,a,b,op⟩]) ⟨3,w2.code.length+1,a,b,op⟩;simp only[BJ,CK,Dp,Bn] at this;rw[val,this];simp only[make];rw[evs_app _ _ _ _ z4,evs_app _ _ _ _ z3];rw[val] at z5 z6;rw[Ae Ak,Ae Ak,Ae Ak,An trivial,z5,z6]
  have z1D:=(z1.D.ext [⟨4,w2.code.length,a,b,op⟩]).ext [⟨3,w2.code.length+1,a,b,op⟩];refine⟨⟨?_,(z1.R.ext _).ext _,Ah ⟨by simp[Lw.add,Lw.pushD],by simp[Lw.add,Lw.pushD], ?_,aluF_bd _ _ _⟩,h.same⟩, ?_, ?_, ?_, ?_, ?_,rfl,z8,Nat.le_of_eq z9.symm⟩;·show DS s _ _ _ _ (if op=25 then _ else _);rw[Ae h25];have:=z1D.push [w2.code.length+1] AB [aluV op (top2 c.d) (top1 c.d)] (by simp only[D6,List.map_nil];rw[hV]);simpa[Lw.add,Lw.pushD] using this
  ·show _=val s ((w2.code++[_])++[_]) (((w2.code.length:Nat):Int).toNat);rw[C4];exact hF.symm.trans (evs_app s (w2.code++[_]) [_] w2.code.length AB).symm
  ·show takeD op≤_;omega
  ·show takeR op≤_;omega
  ·show(if op=25 then _ else _:List Int).length=_ -takeD op+putD op;rw[Ae h25,t1.1,t1.2.2.2,Ae h25];simp;omega
  ·show c.r.length=_ -takeR op+putR op;omega
  ·exact ex_trans z7 (ex_trans ⟨_,rfl⟩ ⟨_,rfl⟩)
end
end Tr
namespace Tr
open Gs
section
variable {w:Lw} {s c:St} {n next:Int}
theorem one_jump(op:Int)(h0:32≤op)(h1:op≤37)(h:LI w s c):OneOk w (w.one0 ⟨op,n⟩ next) s c (plainS c ⟨op,n⟩) ⟨op,n⟩:=by
 have e1:w.one0 ⟨op,n⟩ next=if 33≤op then{w with br:=op} else w:=by
  unfold Lw.one0;simp only[];rw[Ae O,Ae O,Ae O,Ae O,Ae O,Ae O,Ae O,Ae O,Ae O,Ae O,Ae O];by_cases e:33≤op;·rw[An e,An ⟨e,h1⟩]
  ·rw[Ae e,Ae O]
 obtain⟨p,e2⟩: ∃p,plainS c ⟨op,n⟩={c.next ⟨op,n⟩ with pc:=p}:=by
  have hst: ¬stackB op=Af:=II;unfold plainS;rw[Ae hst];unfold reckS;simp only[];rw[Ae O,Ae O];by_cases e:op=32;·rw[An e];exact⟨_,rfl⟩
  ·rw[Ae e,Ae O,Ae O];split;·exact⟨_,rfl⟩
   ·exact⟨_,rfl⟩
 have t1:takeD op=0∧takeR op=0∧putR op=0∧putD op=0:=by
  refine⟨?_, ?_, ?_, ?_⟩;·unfold takeD;rw[Ae O,Ae O]
  ·unfold takeR;rw[Ae O]
  ·unfold putR;rw[Ae O]
  ·unfold putD;rw[Ae O,Ae O,Ae O]
 rw[e1,e2];have key: ∀w',w'=w∨w'={w with br:=op}→OneOk w w' s c {c.next ⟨op,n⟩ with pc:=p} ⟨op,n⟩:=by
  rintro w' (rfl|rfl);·exact LF
  ·exact LF
 split;·exact key _ (Ah rfl)
 ·exact key _ (Ag rfl)
theorem one_call(h:LI w s c)(hx:next=(c.pc+2)%4294967296):OneOk w (w.one0 ⟨38,n⟩ next) s c (plainS c ⟨38,n⟩) ⟨38,n⟩:=by
 have e1:=IJ;have e2:plainS c ⟨38,n⟩={c.next ⟨38,n⟩ with r:=c.r++[next],pc:=(next+signI n)%4294967296}:=LG;rw[e1,e2];have y:=h.add 0 0 0 next (c':=c) rfl rfl rfl h.same
 have hv:val s (w.add 0 0 0 next).code w.code.length=next:=by simp only[Lw.add_code,val,evs_last];simp[make]
 refine⟨y.pushR _ Et rfl (by rw[hv]) rfl h.same,AU _,AU _,rfl, ?_,⟨_,rfl⟩,rfl,AE _,AE _⟩;show(c.r++[next]).length=c.r.length -0+1;simp
theorem one_ret(h:LI w s c)(hn:(w.one0 ⟨39,n⟩ next).nr≤s.r.length):OneOk w (w.one0 ⟨39,n⟩ next) s c (plainS c ⟨39,n⟩) ⟨39,n⟩∧(w.one0 ⟨39,n⟩ next).tg=w.topR∧w.topR<(w.one0 ⟨39,n⟩ next).code.length∧(plainS c ⟨39,n⟩).pc=val s (w.one0 ⟨39,n⟩ next).code w.topR:=by
 have e1:=LH;have e2:plainS c ⟨39,n⟩={c.next ⟨39,n⟩ with r:=c.r.dropLast,pc:=top1 c.r}:=LJ;rw[e1] at hn⊢;rw[e2];obtain⟨y1,y2,y3,y4,y5⟩:=h.popR hn (c':={c.next ⟨39,n⟩ with r:=c.r.dropLast,pc:=top1 c.r}) rfl rfl rfl h.same;have hl:=len_ne y2;refine⟨⟨⟨y1.D,y1.R,y1.fl,y1.same⟩,AU _, ?_,rfl, ?_,y5,rfl,Nat.le_of_eq (popR_d w).2.1.symm,(popR_d w).2.2.2.2.2.1⟩,rfl,y3,y4.symm⟩;·show 1≤_;omega
 ·exact LE
theorem one_jmpi(h:LI w s c)(hn:(w.one0 ⟨40,n⟩ next).nd≤s.d.length):OneOk w (w.one0 ⟨40,n⟩ next) s c (plainS c ⟨40,n⟩) ⟨40,n⟩∧(w.one0 ⟨40,n⟩ next).tg=w.topD∧w.topD<(w.one0 ⟨40,n⟩ next).code.length∧(plainS c ⟨40,n⟩).pc=val s (w.one0 ⟨40,n⟩ next).code w.topD:=by
 have e1:=LL;have e2:plainS c ⟨40,n⟩={c.next ⟨40,n⟩ with d:=c.d.dropLast,pc:=top1 c.d}:=LJ;rw[e1] at hn⊢;rw[e2];obtain⟨y1,y2,y3,y4,y5⟩:=h.popD hn (c':={c.next ⟨40,n⟩ with d:=c.d.dropLast,pc:=top1 c.d}) rfl rfl rfl h.same;have hl:=len_ne y2;refine⟨⟨⟨y1.D,y1.R,y1.fl,y1.same⟩, ?_,AU _, ?_,rfl,y5,rfl,(popD_r w).2.2.2.2.2.1,Nat.le_of_eq (popD_r w).2.1.symm⟩,rfl,y3,y4.symm⟩;·show 1≤_;omega
 ·exact IH
theorem Ft{op:Int}(h:plainB op=Af):op=0∨(op=1∨op=2)∨op=3∨op=4∨op=5∨op=6∨op=7∨op=8∨(16≤op∧op≤25∧op≠24)∨(32≤op∧op≤37)∨op=38∨op=39∨op=40:=by
 simp[plainB] at h;omega
theorem one_any(i:Ins)(h:LI w s c)(hp:plainB i.op=Af)(hx:next=(c.pc+sizeI i.op)%4294967296)(hn:(w.one0 i next).nd≤s.d.length)(hm:(w.one0 i next).nr≤s.r.length):OneOk w (w.one0 i next) s c (plainS c i) i:=by
 obtain⟨op,n⟩:=i;rcases Ft hp with e|e|e|e|e|e|e|e|e|e|e|e|e;·have e:op=0:=e;subst e;exact one_nop h
 ·exact one_lit op e h
 ·have e:op=3:=e;subst e;exact one_dup h hn
 ·have e:op=4:=e;subst e;exact one_drop h hn
 ·have e:op=5:=e;subst e;exact one_swap h hn
 ·have e:op=6:=e;subst e;exact one_over h hn
 ·have e:op=7:=e;subst e;exact one_tor h hn
 ·have e:op=8:=e;subst e;exact TS h hm
 ·exact one_alu op e.1 e.2.1 e.2.2 h hn
 ·exact one_jump op e.1 e.2 h
 ·have e:op=38:=e;subst e;exact one_call h hx
 ·have e:op=39:=e;subst e;exact(one_ret h hm).1
 ·have e:op=40:=e;subst e;exact(one_jmpi h hn).1
end
theorem alu_r(w:Lw)(op:Int)(a b:Nat):(w.alu op a b).tg=w.tg∧(w.alu op a b).br=w.br∧(w.alu op a b).hd=w.hd∧(w.alu op a b).hr=w.hr:=by
 unfold Lw.alu;split<;>exact⟨rfl,rfl,rfl,rfl⟩
theorem GC(P:Lw→Prop)(w:Lw)(i:Ins)(next:Int)(h1:i.op=1∨i.op=2→P ((w.add 0 0 0 i.n).pushD [w.code.length]))(h2:P (w.popD.pushD [w.topD,w.topD]))(h3:P w.popD)(h4:P (w.popD.popD.pushD [w.topD,w.popD.topD]))(h5:P (w.popD.popD.pushD [w.popD.topD,w.topD,w.popD.topD]))(h6:P (w.popD.pushR w.topD))(h7:P (w.popR.pushD [w.topR]))(h8:16≤i.op∧i.op≤25→P (w.popD.popD.alu i.op w.popD.topD w.topD))(h9:i.op=38→P ((w.add 0 0 0 next).pushR w.code.length))(h10:i.op=39→P {w.popR with tg:=w.topR})(h11:i.op=40→P {w.popD with tg:=w.topD})(h12:33≤i.op∧i.op≤37→P {w with br:=i.op})(h13:P w):P (w.one0 i next):=by
 unfold Lw.one0;by_cases c:i.op=1∨i.op=2;·rw[An c];exact h1 c
 rw[Ae c];clear c;by_cases c:i.op=3;·rw[An c];exact h2
 rw[Ae c];clear c;by_cases c:i.op=4;·rw[An c];exact h3
 rw[Ae c];clear c;by_cases c:i.op=5;·rw[An c];exact h4
 rw[Ae c];clear c;by_cases c:i.op=6;·rw[An c];exact h5
 rw[Ae c];clear c;by_cases c:i.op=7;·rw[An c];exact h6
 rw[Ae c];clear c;by_cases c:i.op=8;·rw[An c];exact h7
 rw[Ae c];clear c;by_cases c:16≤i.op∧i.op≤25;·rw[An c];exact h8 c
 rw[Ae c];clear c;by_cases c:i.op=38;·rw[An c];exact h9 c
 rw[Ae c];clear c;by_cases c:i.op=39;·rw[An c];exact h10 c
 rw[Ae c];clear c;by_cases c:i.op=40;·rw[An c];exact h11 c
 rw[Ae c];clear c;by_cases c:33≤i.op∧i.op≤37;·rw[An c];exact h12 c
 rw[Ae c];exact h13
theorem one0_tg(w:Lw)(i:Ins)(next:Int)(h:i.op<32):(w.one0 i next).tg=w.tg∧(w.one0 i next).br=w.br:=by
 have q:=popD_r w;have q2:=popD_r w.popD;have q3:=popR_d w;have q4:=alu_r w.popD.popD i.op w.popD.topD w.topD;have p1:w.popD.tg=w.tg∧w.popD.br=w.br:=⟨q.2.2.2.1,q.2.2.2.2.1⟩;have p2:w.popD.popD.tg=w.tg∧w.popD.popD.br=w.br:=⟨q2.2.2.2.1.trans p1.1,q2.2.2.2.2.1.trans p1.2⟩;have p3:w.popR.tg=w.tg∧w.popR.br=w.br:=⟨q3.2.2.2.1,q3.2.2.2.2.1⟩;exact GC (λx=>x.tg=w.tg∧x.br=w.br) w i next (λ_=>⟨rfl,rfl⟩) p1 p1 p2 p2 p1 p3 (λ_=>⟨q4.1.trans p2.1,q4.2.1.trans p2.2⟩) (λe=>O) (λe=>O) (λe=>O) (λe=>O) ⟨rfl,rfl⟩
theorem one0_hd(w:Lw)(i:Ins)(next:Int):(w.one0 i next).hd=w.hd∧(w.one0 i next).hr=w.hr:=by
 have q:=popD_r w;have q2:=popD_r w.popD;have q3:=popR_d w;have q4:=alu_r w.popD.popD i.op w.popD.topD w.topD;have p1:w.popD.hd=w.hd∧w.popD.hr=w.hr:=⟨q.2.2.2.2.2.2.1,q.2.2.2.2.2.2.2⟩;have p2:w.popD.popD.hd=w.hd∧w.popD.popD.hr=w.hr:=⟨q2.2.2.2.2.2.2.1.trans p1.1,q2.2.2.2.2.2.2.2.trans p1.2⟩;have p3:w.popR.hd=w.hd∧w.popR.hr=w.hr:=⟨q3.2.2.2.2.2.2.1,q3.2.2.2.2.2.2.2⟩;exact GC (λx=>x.hd=w.hd∧x.hr=w.hr) w i next (λ_=>⟨rfl,rfl⟩) p1 p1 p2 p2 p1 p3 (λ_=>⟨q4.2.2.1.trans p2.1,q4.2.2.2.trans p2.2⟩) (λe=>⟨rfl,rfl⟩) (λe=>p3) (λe=>p1) (λe=>⟨rfl,rfl⟩) ⟨rfl,rfl⟩
theorem one0_nd(w:Lw)(i:Ins)(next:Int):w.nd≤(w.one0 i next).nd∧w.nr≤(w.one0 i next).nr:=by
 have q:=popD_r w;have q2:=popD_r w.popD;have q3:=popR_d w;have a1:(w.popD.popD.alu i.op w.popD.topD w.topD).nd=w.popD.popD.nd∧(w.popD.popD.alu i.op w.popD.topD w.topD).nr=w.popD.popD.nr:=by
  unfold Lw.alu;split<;>exact⟨rfl,rfl⟩
 have p1:w.nd≤w.popD.nd∧w.nr≤w.popD.nr:=O;have p2:w.nd≤w.popD.popD.nd∧w.nr≤w.popD.popD.nr:=O;have p3:w.nd≤w.popR.nd∧w.nr≤w.popR.nr:=O;exact GC (λx=>w.nd≤x.nd∧w.nr≤x.nr) w i next (λ_=>⟨AE _,AE _⟩) p1 p1 p2 p2 p1 p3 (λ_=>by rw[a1.1,a1.2];exact p2) (λe=>⟨AE _,AE _⟩) (λe=>p3) (λe=>p1) (λe=>⟨AE _,AE _⟩) ⟨AE _,AE _⟩
theorem one_nd(w:Lw)(i:Ins)(next:Int):w.nd≤(w.one i next).nd∧w.nr≤(w.one i next).nr∧w.hd≤(w.one i next).hd∧w.hr≤(w.one i next).hr:=by
 have h1:=one0_nd w i next
 have h2:=one0_hd w i next
 refine⟨h1.1,h1.2, ?_, ?_⟩;·show _≤max (w.one0 i next).hd _;omega
 ·show _≤max (w.one0 i next).hr _;omega
theorem all_nd: ∀(l:List Ins) (w:Lw) (pc:Int),w.nd≤(w.all pc l).nd∧w.nr≤(w.all pc l).nr∧w.hd≤(w.all pc l).hd∧w.hr≤(w.all pc l).hr
 |[],w,pc=>⟨AE _,AE _,AE _,AE _⟩
 |i::l,w,pc=>by
  have h1:=one_nd w i ((pc+sizeI i.op)%4294967296);have h2:=all_nd l (w.one i ((pc+sizeI i.op)%4294967296)) ((pc+sizeI i.op)%4294967296);exact⟨AS h1.1 h2.1,AS h1.2.1 h2.2.1,AS h1.2.2.1 h2.2.2.1,AS h1.2.2.2 h2.2.2.2⟩
theorem all_app: ∀(l:List Ins) (w:Lw) (pc:Int) (i:Ins),w.all pc (l++[i])=(w.all pc l).one i ((pcs pc l+sizeI i.op)%4294967296)
 |[],w,pc,i=>rfl
 |j::l,w,pc,i=>all_app l _ _ i
theorem pcs_app: ∀(l:List Ins) (pc:Int) (i:Ins),pcs pc (l++[i])=(pcs pc l+sizeI i.op)%4294967296
 |[],pc,i=>rfl
 |j::l,pc,i=>pcs_app l _ i
theorem LM: ∀(l:List Ins) (s c:St) (i:Ins),plainAll s l=I c→plainAll s (l++[i])=if check c i=0 then I (plainS c i) else G
 |[],s,c,i,h=>by
  have:=IK;subst this;simp[plainAll]
 |j::l,s,c,i,h=>by
  rw[CC];rw[plainAll] at h⊢;split at h
  ·rename_i hc
   rw[An hc];exact LM l _ c i h
  ·cases h
theorem check_ok{w w':Lw}{s c:St}{i:Ins}(h:OneOk w w' s c (plainS c i) i)(hr:rightI i=Af)(hp:plainB i.op=Af)(h1:(plainS c i).d.length≤16)(h2:(plainS c i).r.length≤16):check c i=0:=by
 have hs:superB i.op=Aa:=by simp[plainB] at hp;simp[superB];omega
 have e1:decide (i.op=66)=Aa:=by simp[plainB] at hp;simp;omega
 have e2:decide (i.op=67)=Aa:=by simp[plainB] at hp;simp;omega
 have a:=h.td;have b:=h.tr;have x:=h.ld;have y:=h.lr;unfold check;rw[hr,hs,e1,e2];simp only[D7];rw[Ae AB,Ae AB,Ae AB,Ae AB,Ae O,Ae O]
theorem init_ok(s:St): ∀(l:List Ins) (w:Lw) (c:St),LI w s c→(∀i∈l,rightI i=Af∧plainB i.op=Af∧endsB i.op=Aa)→
 (w.all c.pc l).nd≤s.d.length→(w.all c.pc l).nr≤s.r.length→s.d.length+(w.all c.pc l).hd≤16→s.r.length+(w.all c.pc l).hr≤16→
 ∃c',plainAll c l=I c'∧LI (w.all c.pc l) s c'∧c'.pc=pcs c.pc l∧(w.all c.pc l).tg=w.tg∧(w.all c.pc l).br=w.br∧c'.ct%18446744073709551616=(c.ct+l.length)%18446744073709551616
 |[],w,c,h,_,_,_,_,_=>⟨c,rfl,h,rfl,rfl,rfl,AB⟩
 |i::l,w,c,h,hl,hd,hr,h1,h2=>by
  obtain⟨i1,i2,i3⟩:=hl i AB;have i4:i.op<32:=by simp[plainB] at i2;simp[endsB] at i3;omega
  have hall:=all_nd l (w.one i ((c.pc+sizeI i.op)%4294967296)) ((c.pc+sizeI i.op)%4294967296);have hall:(w.one i ((c.pc+sizeI i.op)%4294967296)).nd≤(w.all c.pc (i::l)).nd∧(w.one i ((c.pc+sizeI i.op)%4294967296)).nr≤(w.all c.pc (i::l)).nr∧(w.one i ((c.pc+sizeI i.op)%4294967296)).hd≤(w.all c.pc (i::l)).hd∧(w.one i ((c.pc+sizeI i.op)%4294967296)).hr≤(w.all c.pc (i::l)).hr:=hall;have hone:(w.one i ((c.pc+sizeI i.op)%4294967296)).nd=(w.one0 i ((c.pc+sizeI i.op)%4294967296)).nd∧(w.one i ((c.pc+sizeI i.op)%4294967296)).nr=(w.one0 i ((c.pc+sizeI i.op)%4294967296)).nr:=⟨rfl,rfl⟩;have Cx:=one_any i h i2 rfl O O;have hb1:(w.one0 i ((c.pc+sizeI i.op)%4294967296)).ld.length -(w.one0 i ((c.pc+sizeI i.op)%4294967296)).nd≤(w.one i ((c.pc+sizeI i.op)%4294967296)).hd:=GD;have hb2:(w.one0 i ((c.pc+sizeI i.op)%4294967296)).lr.length -(w.one0 i ((c.pc+sizeI i.op)%4294967296)).nr≤(w.one i ((c.pc+sizeI i.op)%4294967296)).hr:=GD;have l1:=Cx.li.D.len;have l2:=Cx.li.R.len;have n1:=Cx.li.D.le;have n2:=Cx.li.R.le;have hc:=check_ok Cx i1 i2 O O;have hpc:(plainS c i).pc=(c.pc+sizeI i.op)%4294967296:=by
   rcases Ft i2 with e|e|e|e|e|e|e|e|e|e|e|e|e
   all_goals first
    |(exfalso;omega)
    |skip
   all_goals unfold plainS
   all_goals by_cases hk:stackB i.op=Af
   all_goals first
    |(rw[An hk];unfold stackS;(repeat' split);all_goals rfl)
    |(exfalso;apply hk;simp[stackB];omega)
    |(rw[Ae hk];unfold reckS;rw[An ⟨e.1,e.2.1⟩];rfl)
  have ht:=one0_tg w i ((c.pc+sizeI i.op)%4294967296) i4;have ih:=init_ok s l (w.one i ((c.pc+sizeI i.op)%4294967296)) (plainS c i) ⟨Cx.li.D,Cx.li.R,Cx.li.fl,Cx.li.same⟩ (λj hj=>hl j Dh);rw[hpc] at ih;obtain⟨c',q1,q2,q3,q4,q5,q6⟩:=ih hd hr h1 h2;refine⟨c', ?_,q2,q3,q4.trans ht.1,q5.trans ht.2, ?_⟩;·rw[plainAll,An hc];exact q1
  ·rw[q6,Cx.ct,CK]
   push_cast
   omega
theorem st_eq{s c:St}(h:Same s c):c={s with pc:=c.pc,d:=c.d,r:=c.r,fl:=c.fl,ct:=c.ct}:=by
 obtain⟨h1,h2,h3,h4,h5,h6,h7,h8,h9,h10,h11⟩:=h
 cases c
 cases s
 simp only at*;subst h1 h2 h3 h4 h5 h6 h7 h8 h9 h10 h11;rfl
theorem LI.start(s:St):LI Lw.new s s:=
 ⟨⟨AU _,DU,DU⟩,⟨AU _,DU,DU⟩,Ag ⟨rfl,rfl⟩,⟨rfl,rfl,rfl,rfl,rfl,rfl,rfl,rfl,rfl,rfl,rfl⟩⟩
theorem last_pc{w:Lw}{s c:St}(i:Ins)(next:Int)(h:LI w s c)(hp:plainB i.op=Af)(hx:next=(c.pc+sizeI i.op)%4294967296)(hn:(w.one0 i next).nd≤s.d.length)(hm:(w.one0 i next).nr≤s.r.length)(ht:w.tg= -1)(hb:w.br=0):
 (plainS c i).pc=if(w.one0 i next).tg≠ -1 then vat (evs s (w.one0 i next).code) (w.one0 i next).tg
  else if(w.one0 i next).br≠0∧holdsB (w.one0 i next).br (plainS c i).fl=Af then(if i.op=32∨i.op=38 then 0 else if(w.one0 i next).br≠0 then(next+signI i.n)%4294967296 else 0)
  else if i.op=32∨i.op=38 then(next+signI i.n)%4294967296 else next:=by
 obtain⟨op,n⟩:=i
 by_cases hlt:op<32
 ·have hh:=one0_tg w ⟨op,n⟩ next hlt
  rw[hh.1,hh.2,ht,hb];simp only[ne_eq,not_true,if_false,false_and];rw[Ae O,hx];have hp':=Ft hp;unfold plainS;by_cases hk:stackB op=Af;·rw[An hk];exact IL
  ·rw[Ae hk];unfold reckS;have hk2: ¬(0≤op∧op≤8):=λe=>hk (by simp[stackB];exact e);rw[An (by simp only at hp';show 16≤op∧op≤25;omega)];rfl
 ·have hp':=Ft hp;have hp':(32≤op∧op≤37)∨op=38∨op=39∨op=40:=by simp only at hp';omega
  rcases hp' with e|e|e|e
  ·have e1:w.one0 ⟨op,n⟩ next=if 33≤op then{w with br:=op} else w:=by
    unfold Lw.one0;simp only[];rw[Ae O,Ae O,Ae O,Ae O,Ae O,Ae O,Ae O,Ae O,Ae O,Ae O,Ae O];by_cases e:33≤op;·rw[An e,An ⟨e,O⟩]
    ·rw[Ae e,Ae O]
   have hst: ¬stackB op=Af:=II;by_cases e32:op=32
   ·have e1:w.one0 ⟨op,n⟩ next=w:=by rw[e1,Ae (by omega)]
    rw[e1,ht,hb];simp only[ne_eq,not_true,if_false,false_and];rw[An (show op=32∨op=38 from Ag e32),hx];unfold plainS;rw[Ae hst];unfold reckS;simp only[];rw[Ae O,Ae O,An e32];rfl
   ·have e1:w.one0 ⟨op,n⟩ next={w with br:=op}:=by rw[e1,An (by omega)]
    rw[e1];simp only[ht,ne_eq,not_true,if_false];have ne0: ¬op=0:=O;have ne1: ¬(op=32∨op=38):=O;simp only[ne0,ne1,not_false_eq_true,true_and,if_true,if_false];unfold plainS;rw[Ae hst];unfold reckS;simp only[];rw[Ae O,Ae O,Ae O,Ae O,Ae O];have ef:(c.next ⟨op,n⟩).fl=c.fl:=rfl;rw[ef];by_cases hh:holdsB op c.fl=Af;·rw[An hh];show _=if holdsB op c.fl=Af then _ else _;rw[An hh,hx];rfl
    ·rw[Ae hh];show _=if holdsB op c.fl=Af then _ else _;rw[Ae hh,hx];rfl
  ·subst e;have e1:=IJ;have e2:(plainS c ⟨38,n⟩).pc=(next+signI n)%4294967296:=LG;rw[e2,e1];have h1:((w.add 0 0 0 next).pushR w.code.length).tg= -1:=ht;have h2:((w.add 0 0 0 next).pushR w.code.length).br=0:=hb;rw[h1,h2];simp
  ·subst e;obtain⟨_,q2,q3,q4⟩:=one_ret (next:=next) (n:=n) h hm;rw[q4,q2];rw[An (show((w.topR:Nat):Int)≠ -1 by omega),vat,C4];rfl
  ·subst e;obtain⟨_,q2,q3,q4⟩:=one_jmpi (next:=next) (n:=n) h hn;rw[q4,q2];rw[An (show((w.topD:Nat):Int)≠ -1 by omega),vat,C4];rfl
theorem lower_ok(s:St)(l:List Ins)(hl:l≠[])(hall: ∀i∈l,rightI i=Af∧plainB i.op=Af)(hends: ∀i∈l.dropLast,endsB i.op=Aa)(F:Fits (lower0 s.pc l) s):plainAll s l=I (left (lower0 s.pc l) s (evs s (lower0 s.pc l).code)):=by
 obtain⟨m,i,rfl⟩: ∃m i,l=m++[i]:=LO;rw[Do] at hends;obtain⟨f1,f2,f3,f4⟩:=F;have ew:Lw.new.all s.pc (m++[i])=(Lw.new.all s.pc m).one i ((pcs s.pc m+sizeI i.op)%4294967296):=all_app m _ _ i;have f1:(Lw.new.all s.pc (m++[i])).nd≤s.d.length:=f1;have f2:(Lw.new.all s.pc (m++[i])).nr≤s.r.length:=f2;have f3:s.d.length+(Lw.new.all s.pc (m++[i])).hd≤16:=f3;have f4:s.r.length+(Lw.new.all s.pc (m++[i])).hr≤16:=f4;have hnd:=one_nd (Lw.new.all s.pc m) i ((pcs s.pc m+sizeI i.op)%4294967296);rw[←ew] at hnd;obtain⟨c,q1,q2,q3,q4,q5,q6⟩:=init_ok s m Lw.new s (LI.start s) (λj hj=>⟨(hall j Dh).1,(hall j Dh).2,hends j hj⟩) O O O O;obtain⟨i1,i2⟩:=hall i AB;rw[ew] at f1 f2 f3 f4;generalize hw:Lw.new.all s.pc m=w at*;generalize hx:(pcs s.pc m+sizeI i.op)%4294967296=next at*
 have hx':next=(c.pc+sizeI i.op)%4294967296:=by rw[q3,hx]
 have Cx:=one_any i q2 i2 hx' f1 f2;have hb1:(w.one0 i next).ld.length -(w.one0 i next).nd≤(w.one i next).hd:=GD;have hb2:(w.one0 i next).lr.length -(w.one0 i next).nr≤(w.one i next).hr:=GD;have l1:=Cx.li.D.len;have l2:=Cx.li.R.len;have n1:=Cx.li.D.le;have n2:=Cx.li.R.le;have hc:=check_ok Cx i1 i2 O O;rw[LM m s c i q1,An hc];congr 1;have hP:=last_pc i next q2 i2 hx' f1 f2 q4 q5
 have eL:lower0 s.pc (m++[i])={code:=(w.one0 i next).code,nd:=(w.one0 i next).nd,nr:=(w.one0 i next).nr,hd:=(w.one i next).hd,hr:=(w.one i next).hr,od:=(w.one0 i next).ld,or:=(w.one0 i next).lr,fl:=(w.one0 i next).fl,tg:=(w.one0 i next).tg,br:=(w.one0 i next).br,ct:=(m++[i]).length,nx:=if i.op=32∨i.op=38 then(next+signI i.n)%4294967296 else next,tk:=if(i.op=32∨i.op=38) then 0 else if(w.one0 i next).br≠0 then(next+signI i.n)%4294967296 else 0}:=by
  have eI:lastI (m++[i])=i:=by simp[lastI,Dg]
  have eP:pcs s.pc (m++[i])=next:=by rw[pcs_app,hx]
  unfold lower0;rw[ew,eI,eP];rfl
 rw[eL];unfold left;simp only[];have hfl:(plainS c i).fl=if(w.one0 i next).fl= -1 then s.fl else vat (evs s (w.one0 i next).code) (w.one0 i next).fl%16:=by
  rcases Cx.li.fl with⟨a1,a2⟩|⟨a1,a2,a3,a4,a5⟩;·rw[An a1,a2]
  ·have e:vat (evs s (w.one0 i next).code) (w.one0 i next).fl=(plainS c i).fl:=a3.symm;rw[Ae O,e,CZ a4 a5]
 rw[←hfl,←hP];rw[st_eq Cx.li.same,Cx.li.D.eq,Cx.li.R.eq];have hct:(plainS c i).ct=(s.ct+((m++[i]).length:Nat))%18446744073709551616:=by
  rw[Cx.ct];simp only[BJ,CK,Dp]
  push_cast
  omega
 rw[hct];rfl
end Tr
namespace Tr
open Gs
abbrev z0:IIn:=⟨0,0,0,0,0⟩
abbrev at_(code:List IIn)(i:Nat):IIn:=code.getD i z0
def upB(u:Nat→Bool)(n:Nat):Nat→Bool:=λk=>if k=n then Af else u k
def useL(u:Nat→Bool)(l:List Nat):Nat→Bool:=l.foldl upB u
def useI(u:Nat→Bool)(n:Int):Nat→Bool:=if n= -1 then u else upB u n.toNat
def used0(p:Pg):Nat→Bool:=useI (useI (useL (useL (λ_=>Aa) p.od) p.or) p.fl) p.tg
def useStep(code:List IIn)(u:Nat→Bool)(i:Nat):Nat→Bool:=if u i=Af∧3≤(at_ code i).op then upB (upB u (at_ code i).a) (at_ code i).b else u
def usedN(code:List IIn):Nat→(Nat→Bool)→(Nat→Bool)
 |0,u=>u
 |k+1,u=>usedN code k (useStep code u k)
def usedP(p:Pg):Nat→Bool:=usedN p.code p.code.length (used0 p)
def upN(f:Nat→Nat)(n v:Nat):Nat→Nat:=λk=>if k=n then v else f k
structure Sw where
 pl:Nat→Nat
 out:List IIn
def moveX(pl:Nat→Nat)(k:Nat)(x:IIn):IIn:=if 3≤x.op then⟨x.op,k,pl x.a,pl x.b,x.imm⟩ else{x with dst:=k}
def swStep(code:List IIn)(u:Nat→Bool)(w:Sw)(i:Nat):Sw:=if u i=Af then⟨upN w.pl i w.out.length,w.out++[moveX (upN w.pl i w.out.length) w.out.length (at_ code i)]⟩ else w
def swN(code:List IIn)(u:Nat→Bool):Nat→Sw
 |0=>⟨λ_=>0,[]⟩
 |k+1=>swStep code u (swN code u k) k
def movI(pl:Nat→Nat)(n:Int):Int:=if n= -1 then -1 else pl n.toNat
def sweepP(p:Pg):Pg:=
 {p with code:=(swN p.code (usedP p) p.code.length).out,od:=p.od.map (swN p.code (usedP p) p.code.length).pl,or:=p.or.map (swN p.code (usedP p) p.code.length).pl,fl:=movI (swN p.code (usedP p) p.code.length).pl p.fl,tg:=movI (swN p.code (usedP p) p.code.length).pl p.tg}
structure MadeOk(nd nr:Nat)(x:IIn)(i:Nat):Prop where
 dst:x.dst=i
 op:x.op≤4
 low:x.op<3→x.a=0∧x.b=0
 arg:x.op=1→0≤x.imm∧x.imm<nd
 ret:x.op=2→0≤x.imm∧x.imm<nr
 ab:3≤x.op→x.a<i∧x.b<i
 alu:x.op=3→16≤x.imm∧x.imm≤23
 flg:x.op=4→(16≤x.imm∧x.imm≤23)∨x.imm=25
 imm:0≤x.imm∧x.imm≤4294967295
structure WF(p:Pg):Prop where
 code: ∀i,i<p.code.length→MadeOk p.nd p.nr (at_ p.code i) i
 len:p.code.length≤64
 nd:p.nd≤16
 nr:p.nr≤16
 hd:p.hd≤16
 hr:p.hr≤16
 od: ∀n∈p.od,n<p.code.length
 or: ∀n∈p.or,n<p.code.length
 fl:p.fl= -1∨(0≤p.fl∧p.fl<p.code.length)
 tg:p.tg= -1∨(0≤p.tg∧p.tg<p.code.length)
 br:p.br=0∨(33≤p.br∧p.br≤37∧p.tg= -1)
 ct:1≤p.ct∧p.ct≤8
 nx:0≤p.nx∧p.nx≤4294967295
 tk:0≤p.tk∧p.tk≤4294967295
 odl:p.od.length≤64
 orl:p.or.length≤64
variable{u:Nat→Bool}{k:Nat}
theorem upB_mono{n:Nat}(h:u k=Af):upB u n k=Af:=by unfold upB;split<;>simp[h]
theorem upB_same(u:Nat→Bool)(n:Nat):upB u n n=Af:=by simp[upB]
theorem IM: ∀(l:List Nat) {u:Nat→Bool} {k:Nat},u k=Af→useL u l k=Af
 |[],_,_,h=>h
 |n::l,_,_,h=>IM l (upB_mono h)
theorem useL_mem: ∀(l:List Nat) {u:Nat→Bool} {k:Nat},k∈l→useL u l k=Af
 |n::l,u,k,h=>by
  rcases Cy.1 h with rfl|h;·exact IM l (upB_same _ _)
  ·exact useL_mem l h
theorem Fu{n:Int}(h:u k=Af):useI u n k=Af:=by
 unfold useI;split;·exact h
 ·exact upB_mono h
theorem LP{n:Int}(h:n≠ -1):useI u n n.toNat=Af:=by
 unfold useI;rw[Ae h];exact upB_same _ _
variable{code:List IIn}
theorem TT{i:Nat}(h:u k=Af):useStep code u i k=Af:=by
 unfold useStep;split;·exact upB_mono (upB_mono h)
 ·exact h
theorem Eu(code:List IIn): ∀(k:Nat) {u:Nat→Bool} {n:Nat},u n=Af→usedN code k u n=Af
 |0,_,_,h=>h
 |k+1,_,_,h=>Eu code k (TT h)
theorem LR{i n:Nat}(hab:3≤(at_ code i).op→(at_ code i).a<i∧(at_ code i).b<i)(hn:i≤n):useStep code u i n=u n:=by
 unfold useStep;split
 ·rename_i h
  have:=hab h.2;unfold upB;rw[Ae O,Ae O]
 ·rfl
theorem LS: ∀(k:Nat) {u:Nat→Bool} {n:Nat},(∀i,i<k→3≤(at_ code i).op→(at_ code i).a<i∧(at_ code i).b<i)→k≤n→usedN code k u n=u n
 |0,_,_,_,_=>rfl
 |k+1,u,n,hab,hn=>by
  rw[usedN,LS k (λi hi=>hab i O) O,LR (hab k O) O]
theorem LT: ∀(k:Nat) {u:Nat→Bool},(∀i,i<k→3≤(at_ code i).op→(at_ code i).a<i∧(at_ code i).b<i)→
 ∀i,i<k→usedN code k u i=Af→3≤(at_ code i).op→usedN code k u (at_ code i).a=Af∧usedN code k u (at_ code i).b=Af
 |0,_,_,i,hi,_,_=>absurd hi O
 |k+1,u,hab,i,hi,hu,h3=>by
  rw[usedN] at hu⊢;by_cases e:i=k
  ·subst e;rw[LS i (λj hj=>hab j O) (AE _),LR (hab i O) (AE _)] at hu;have:useStep code u i=upB (upB u (at_ code i).a) (at_ code i).b:=by unfold useStep;rw[An ⟨hu,h3⟩]
   rw[this];exact⟨Eu code i (upB_mono (upB_same _ _)),Eu code i (upB_same _ _)⟩
  ·exact LT k (λj hj=>hab j O) i O hu h3
theorem val_make(s:St)(code:List IIn)(i:Nat)(hi:i<code.length)(hab:3≤(at_ code i).op→(at_ code i).a<i∧(at_ code i).b<i):val s code i=make s (evs s code) (at_ code i):=by
 have e:code=(code.take i++[at_ code i])++code.drop (i+1):=by
  rw[BM,DV,at_,AN,Bj hi,Option.getD_some,←List.drop_eq_getElem_cons hi,List.take_append_drop]
 have hl:(code.take i).length=i:=A8;have hv: ∀j,j<i→(evs s code).getD j 0=(evs s (code.take i)).getD j 0:=by
  intro j hj
  conv=>lhs;rw[←List.take_append_drop i code]
  exact evs_app s _ _ j O
 have h1:val s code i=make s (evs s (code.take i)) (at_ code i):=by
  refine(congrArg (λc=>val s c i) e).trans ?_;show(evs s ((code.take i++[at_ code i])++code.drop (i+1))).getD i 0=_;rw[evs_app s _ _ i A8];have:=evs_last s (code.take i) (at_ code i);rw[hl] at this;exact this
 rw[h1];by_cases h3:3≤(at_ code i).op;·obtain⟨ha,hb⟩:=hab h3;unfold make;rw[hv _ ha,hv _ hb]
 ·unfold make;by_cases c0:(at_ code i).op=0;·rw[An c0,An c0]
  ·rw[Ae c0,Ae c0];by_cases c1:(at_ code i).op=1;·rw[An c1,An c1]
   ·rw[Ae c1,Ae c1,An O,An O]
structure SwOk(p:Pg)(s:St)(k:Nat)(w:Sw):Prop where
 len:w.out.length≤k
 val: ∀j,j<k→usedP p j=Af→w.pl j<w.out.length∧val s w.out (w.pl j)=val s p.code j
 code: ∀i,i<w.out.length→MadeOk p.nd p.nr (at_ w.out i) i
theorem LU(l m:List IIn)(i:Nat)(h:i<l.length):at_ (l++m) i=at_ l i:=by simp[at_,AN,CO h]
theorem LY(l:List IIn)(x:IIn):at_ (l++[x]) l.length=x:=by simp[at_,AN]
variable{p:Pg}
theorem used_ab(h:WF p)(i:Nat)(hi:i<p.code.length)(hu:usedP p i=Af)(h3:3≤(at_ p.code i).op):usedP p (at_ p.code i).a=Af∧usedP p (at_ p.code i).b=Af:=
 LT p.code.length (λj hj=>(h.code j hj).ab) i hi hu h3
theorem sw_ok(h:WF p)(s:St): ∀k,k≤p.code.length→SwOk p s k (swN p.code (usedP p) k)
 |0,_=>⟨AE _,λj hj=>absurd hj O,λi hi=>absurd hi (by simp[swN])⟩
 |k+1,hk=>by
  have ih:=sw_ok h s k O;have M:=h.code k O;rw[swN];generalize swN p.code (usedP p) k=w at*;by_cases hu:usedP p k=Af
  ·have e:swStep p.code (usedP p) w k=⟨upN w.pl k w.out.length,w.out++[moveX (upN w.pl k w.out.length) w.out.length (at_ p.code k)]⟩:=by unfold swStep;rw[An hu]
   rw[e];have hx:MadeOk p.nd p.nr (moveX (upN w.pl k w.out.length) w.out.length (at_ p.code k)) w.out.length:=by
    by_cases h3:3≤(at_ p.code k).op;·obtain⟨ha,hb⟩:=M.ab h3;obtain⟨ua,ub⟩:=used_ab h k O hu h3;have va:=(ih.val _ ha ua).1;have vb:=(ih.val _ hb ub).1;have em:moveX (upN w.pl k w.out.length) w.out.length (at_ p.code k)=⟨(at_ p.code k).op,w.out.length,w.pl (at_ p.code k).a,w.pl (at_ p.code k).b,(at_ p.code k).imm⟩:=LZ;rw[em];exact⟨rfl,M.op,λq=>absurd q CE,M.arg,M.ret,λ_=>⟨va,vb⟩,M.alu,M.flg,M.imm⟩
    ·have em:moveX (upN w.pl k w.out.length) w.out.length (at_ p.code k)={at_ p.code k with dst:=w.out.length}:=by unfold moveX;rw[Ae h3]
     rw[em];exact⟨rfl,M.op,M.low,M.arg,M.ret,λq=>absurd q h3,M.alu,M.flg,M.imm⟩
   refine⟨by simp;have:=ih.len;omega,λj hj hj2=>?_,λi hi=>?_⟩
   ·by_cases ej:j=k
    ·subst ej;have e1:upN w.pl j w.out.length j=w.out.length:=by simp[upN]
     show upN w.pl j w.out.length j<(w.out++[_]).length∧Tr.val s (w.out++[_]) (upN w.pl j w.out.length j)=_;rw[e1];refine⟨AB, ?_⟩;rw[Tr.val,evs_last];have hv:=val_make s p.code j O M.ab;rw[hv];by_cases h3:3≤(at_ p.code j).op;·obtain⟨ha,hb⟩:=M.ab h3;obtain⟨ua,ub⟩:=used_ab h j O hu h3;have va:=(ih.val _ ha ua).2;have vb:=(ih.val _ hb ub).2;have em:moveX (upN w.pl j w.out.length) w.out.length (at_ p.code j)=⟨(at_ p.code j).op,w.out.length,w.pl (at_ p.code j).a,w.pl (at_ p.code j).b,(at_ p.code j).imm⟩:=LZ;rw[em];unfold make;simp only[Tr.val] at va vb;simp only[va,vb]
     ·have em:moveX (upN w.pl j w.out.length) w.out.length (at_ p.code j)={at_ p.code j with dst:=w.out.length}:=by unfold moveX;rw[Ae h3]
      rw[em];unfold make;by_cases c0:(at_ p.code j).op=0;·rw[An c0,An c0]
      ·rw[Ae c0,Ae c0];by_cases c1:(at_ p.code j).op=1;·rw[An c1,An c1]
       ·have c2:(at_ p.code j).op=2:=O;rw[Ae c1,Ae c1,An c2,An c2]
    ·obtain⟨a1,a2⟩:=ih.val j O hj2;have e1:upN w.pl k w.out.length j=w.pl j:=by simp[upN,ej]
     show upN w.pl k w.out.length j<(w.out++[_]).length∧Tr.val s (w.out++[_]) (upN w.pl k w.out.length j)=_;rw[e1];refine⟨A8, ?_⟩;rw[Tr.val,evs_app _ _ _ _ a1];exact a2
   ·by_cases ei:i<w.out.length;·have:=ih.code i ei;show MadeOk _ _ (at_ (w.out++_) i) i;rw[LU _ _ _ ei];exact this
    ·have:i=w.out.length:=by simp at hi;omega
     subst this;show MadeOk _ _ (at_ (w.out++_) _) _;rw[LY];exact hx
  ·have e:swStep p.code (usedP p) w k=w:=by unfold swStep;rw[Ae hu]
   rw[e];exact⟨by have:=ih.len;omega,λj hj hj2=>ih.val j (by rcases Nat.lt_or_ge j k with q|q;exact q;exact absurd (show usedP p k=Af by rw[show k=j by omega];exact hj2) hu) hj2,ih.code⟩
theorem used_od{n:Nat}(h:n∈p.od):usedP p n=Af:=Eu _ _ (Fu (Fu (IM _ (useL_mem _ h))))
theorem used_or{n:Nat}(h:n∈p.or):usedP p n=Af:=Eu _ _ (Fu (Fu (useL_mem _ h)))
theorem used_fl(h:p.fl≠ -1):usedP p p.fl.toNat=Af:=Eu _ _ (Fu (LP h))
theorem used_tg(h:p.tg≠ -1):usedP p p.tg.toNat=Af:=Eu _ _ (LP h)
theorem sweep_ok(h:WF p)(s:St):WF (sweepP p)∧left (sweepP p) s (evs s (sweepP p).code)=left p s (evs s p.code):=by
 have S:=sw_ok h s p.code.length (AE _);unfold sweepP;generalize swN p.code (usedP p) p.code.length=w at*;refine⟨⟨S.code,AS S.len h.len,h.nd,h.nr,h.hd,h.hr,λn hn=>?_,λn hn=>?_, ?_, ?_, ?_,h.ct,h.nx,h.tk,by simpa using h.odl,by simpa using h.orl⟩, ?_⟩;·obtain⟨m,hm,rfl⟩:=Bo.1 hn;exact(S.val m (h.od m hm) (used_od hm)).1
 ·obtain⟨m,hm,rfl⟩:=Bo.1 hn;exact(S.val m (h.or m hm) (used_or hm)).1
 ·show movI _ _= -1∨_;unfold movI;split;·exact Ag rfl
  ·rename_i e
   rcases h.fl with q|q;·exact absurd q e
   ·have:=(S.val p.fl.toNat O (used_fl e)).1;right;show(0:Int)≤(w.pl p.fl.toNat:Nat)∧((w.pl p.fl.toNat:Nat):Int)<(w.out.length:Nat);omega
 ·show movI _ _= -1∨_;unfold movI;split;·exact Ag rfl
  ·rename_i e
   rcases h.tg with q|q;·exact absurd q e
   ·have:=(S.val p.tg.toNat O (used_tg e)).1;right;show(0:Int)≤(w.pl p.tg.toNat:Nat)∧((w.pl p.tg.toNat:Nat):Int)<(w.out.length:Nat);omega
 ·rcases h.br with q|⟨q1,q2,q3⟩;·exact Ag q
  ·refine Ah ⟨q1,q2, ?_⟩;show movI _ _= -1;unfold movI;rw[An q3]
 ·have vI: ∀n:Int,(n= -1∨(0≤n∧n<p.code.length))→(n≠ -1→usedP p n.toNat=Af)→n≠ -1→(movI w.pl n≠ -1∧vat (evs s w.out) (movI w.pl n)=vat (evs s p.code) n):=by
   intro n hn hu ne;have hlt:n.toNat<p.code.length:=by rcases hn with q|q;exact absurd q ne;omega
   obtain⟨a1,a2⟩:=S.val n.toNat hlt (hu ne);unfold movI;rw[Ae ne];refine⟨O, ?_⟩;unfold vat;rw[C4];exact a2
  have vL: ∀l:List Nat,(∀n∈l,n<p.code.length)→(∀n∈l,usedP p n=Af)→(l.map w.pl).map (λn=>(evs s w.out).getD n 0)=l.map (λn=>(evs s p.code).getD n 0):=by
   intro l h1 h2;rw[D8];exact List.map_congr_left λn hn=>(S.val n (h1 n hn) (h2 n hn)).2
  unfold left;simp only[];rw[vL p.od h.od (λn hn=>used_od hn),vL p.or h.or (λn hn=>used_or hn)];have hfl:(if movI w.pl p.fl= -1 then s.fl else vat (evs s w.out) (movI w.pl p.fl)%16)=if p.fl= -1 then s.fl else vat (evs s p.code) p.fl%16:=by
   by_cases e:p.fl= -1;·rw[An e,An (by unfold movI;rw[An e])]
   ·obtain⟨a,b⟩:=vI p.fl h.fl used_fl e;rw[Ae e,Ae a,b]
  rw[hfl];have htg:movI w.pl p.tg≠ -1↔p.tg≠ -1:=by
   constructor;·intro e q;exact e (by unfold movI;rw[An q])
   ·intro e;exact(vI p.tg h.tg used_tg e).1
  by_cases e:p.tg≠ -1;·rw[An (htg.2 e),An e,(vI p.tg h.tg used_tg e).2]
  ·rw[Ae (λq=>e (htg.1 q)),Ae e]
end Tr
namespace Tr
open Gs
theorem MadeOk.more{nd nr nd' nr':Nat}{x:IIn}{i:Nat}(h:MadeOk nd nr x i)(h1:nd≤nd')(h2:nr≤nr'):MadeOk nd' nr' x i:=
 ⟨h.dst,h.op,h.low,λe=>by have:=h.arg e;omega,λe=>by have:=h.ret e;omega,h.ab,h.alu,h.flg,h.imm⟩
structure LW(w:Lw)(k:Nat):Prop where
 code: ∀i,i<w.code.length→MadeOk w.nd w.nr (at_ w.code i) i
 ld: ∀n∈w.ld,n<w.code.length
 lr: ∀n∈w.lr,n<w.code.length
 fl:w.fl= -1∨(0≤w.fl∧w.fl<w.code.length)
structure LN(w:Lw)(len nd nr:Nat)(dd dr:Int):Prop where
 len:w.code.length≤len
 nd:w.nd≤nd
 nr:w.nr≤nr
 dd:(w.ld.length:Int) -w.nd≤dd
 dr:(w.lr.length:Int) -w.nr≤dr
theorem LN.more{w:Lw}{len nd nr len' nd' nr':Nat}{dd dr dd' dr':Int}(h:LN w len nd nr dd dr)(h1:len≤len')(h2:nd≤nd')(h3:nr≤nr')(h4:dd≤dd')(h5:dr≤dr'):LN w len' nd' nr' dd' dr':=
 ⟨AS h.len h1,AS h.nd h2,AS h.nr h3,Int.le_trans h.dd h4,Int.le_trans h.dr h5⟩
section
variable {w:Lw} {k len nd nr:Nat} {dd dr:Int}
theorem LW.add(h:LW w k)(op a b:Nat)(imm:Int)(hM:MadeOk w.nd w.nr ⟨op,w.code.length,a,b,imm⟩ w.code.length):LW (w.add op a b imm) k:=by
 refine⟨λi hi=>?_,λn hn=>?_,λn hn=>?_, ?_⟩
 ·show MadeOk w.nd w.nr (at_ (w.code++[_]) i) i;by_cases e:i<w.code.length;·rw[LU _ _ _ e];exact h.code i e
  ·have:i=w.code.length:=by simp[Lw.add] at hi;omega
   subst this;rw[LY];exact hM
 ·have:=h.ld n hn;simp[Lw.add];omega
 ·have:=h.lr n hn;simp[Lw.add];omega
 ·rcases h.fl with q|q;·exact Ag q
  ·right;simp only[Lw.add,BJ,CK,Dp];omega
theorem LN.add(h:LN w len nd nr dd dr)(op a b:Nat)(imm:Int):LN (w.add op a b imm) (len+1) nd nr dd dr:=
 ⟨by have:=h.len;simp[Lw.add];omega,h.nd,h.nr,h.dd,h.dr⟩
theorem LW.popD(h:LW w k)(hb:w.nd≤4000000):LW w.popD k∧w.topD<w.popD.code.length∧w.code.length≤w.popD.code.length:=by
 rcases w.ld.eq_nil_or_concat with e|⟨l,n,e⟩;·simp only[Lw.popD,Lw.topD,e,if_true];have hq:LW {w with nd:=w.nd+1} k:=⟨λi hi=>(h.code i hi).more AB AB,h.ld,h.lr,h.fl⟩;have:=hq.add 1 0 0 w.nd ⟨rfl,AB,λ_=>⟨rfl,rfl⟩,λ_=>CE,λq=>Cz,λq=>Cz,λq=>Cz,λq=>Cz,CE⟩;exact Ma
 ·rw[DI] at e;have ne: ¬w.ld=[]:=CY;simp only[Lw.popD,Lw.topD,Ae ne];refine⟨⟨h.code,λm hm=>h.ld m Mb,h.lr,h.fl⟩, ?_,AE _⟩;have:=h.ld n CY;exact Md
theorem LN.popD(h:LN w len nd nr dd dr):LN w.popD (len+1) (nd+1) nr (dd -1) dr:=by
 have a1:=h.len;have a2:=h.nd;have a3:=h.nr;have a4:=h.dd;have a5:=h.dr;rcases w.ld.eq_nil_or_concat with e|⟨l,n,e⟩;·simp only[Lw.popD,e,if_true,Lw.add];rw[e] at a4;refine⟨A8,CE,a3, ?_,a5⟩;simp only[Dp] at a4⊢;omega
 ·rw[DI] at e;have ne: ¬w.ld=[]:=CY;simp only[Lw.popD,Ae ne];refine⟨CE,CE,a3, ?_,a5⟩;rw[e] at a4⊢;simp only[BJ,CK,Dp,Do] at a4⊢;omega
theorem LW.popR(h:LW w k)(hb:w.nr≤4000000):LW w.popR k∧w.topR<w.popR.code.length∧w.code.length≤w.popR.code.length:=by
 rcases w.lr.eq_nil_or_concat with e|⟨l,n,e⟩;·simp only[Lw.popR,Lw.topR,e,if_true];have hq:LW {w with nr:=w.nr+1} k:=⟨λi hi=>(h.code i hi).more AB AB,h.ld,h.lr,h.fl⟩;have:=hq.add 2 0 0 w.nr ⟨rfl,AB,λ_=>⟨rfl,rfl⟩,λq=>Cz,λ_=>CE,λq=>Cz,λq=>Cz,λq=>Cz,CE⟩;exact Ma
 ·rw[DI] at e;have ne: ¬w.lr=[]:=CY;simp only[Lw.popR,Lw.topR,Ae ne];refine⟨⟨h.code,h.ld,λm hm=>h.lr m Mb,h.fl⟩, ?_,AE _⟩;have:=h.lr n CY;exact Md
theorem LN.popR(h:LN w len nd nr dd dr):LN w.popR (len+1) nd (nr+1) dd (dr -1):=by
 have a1:=h.len;have a2:=h.nd;have a3:=h.nr;have a4:=h.dd;have a5:=h.dr;rcases w.lr.eq_nil_or_concat with e|⟨l,n,e⟩;·simp only[Lw.popR,e,if_true,Lw.add];rw[e] at a5;refine⟨A8,a2,CE,a4, ?_⟩;simp only[Dp] at a5⊢;omega
 ·rw[DI] at e;have ne: ¬w.lr=[]:=CY;simp only[Lw.popR,Ae ne];refine⟨CE,a2,CE,a4, ?_⟩;rw[e] at a5⊢;simp only[BJ,CK,Dp,Do] at a5⊢;omega
theorem LW.pushD(h:LW w k)(l:List Nat)(hl: ∀n∈l,n<w.code.length):LW (w.pushD l) k:=
 ⟨h.code,λn hn=>by rcases BZ.1 hn with e|e;exact h.ld n e;exact hl n e,h.lr,h.fl⟩
theorem LN.pushD(h:LN w len nd nr dd dr)(l:List Nat):LN (w.pushD l) len nd nr (dd+l.length) dr:=
 ⟨h.len,h.nd,h.nr,by have:=h.dd;simp only[Lw.pushD,BJ];push_cast;omega,h.dr⟩
theorem LW.pushR(h:LW w k)(n:Nat)(hl:n<w.code.length):LW (w.pushR n) k:=
 ⟨h.code,h.ld,λm hm=>by rcases BZ.1 hm with e|e;exact h.lr m e;(have e:m=n:=by simpa using e);(show m<w.code.length);omega,h.fl⟩
theorem LN.pushR(h:LN w len nd nr dd dr)(n:Nat):LN (w.pushR n) len nd nr dd (dr+1):=
 ⟨h.len,h.nd,h.nr,h.dd,by have:=h.dr;simp only[Lw.pushR,BJ,CK,Dp];push_cast;omega⟩
theorem LW.alu(h:LW w k)(op:Int)(a b:Nat)(ha:a<w.code.length)(hb:b<w.code.length)(h0:16≤op)(h1:op≤25)(h24:op≠24):LW (w.alu op a b) k:=by
 have m4:MadeOk w.nd w.nr ⟨4,w.code.length,a,b,op⟩ w.code.length:=⟨rfl,AB,λq=>Cz,λq=>Cz,λq=>Cz,λ_=>⟨ha,hb⟩,λq=>Cz,λ_=>CE,CE⟩;have A:=h.add 4 a b op m4;unfold Lw.alu;split;·exact⟨A.code,A.ld,A.lr,Ah Me⟩
 ·have m3:MadeOk w.nd w.nr ⟨3,(w.add 4 a b op).code.length,a,b,op⟩ (w.add 4 a b op).code.length:=⟨rfl,AB,λq=>Cz,λq=>Cz,λq=>Cz,λ_=>Me,λ_=>CE,λq=>Cz,CE⟩;have B:=A.add 3 a b op m3;have C:=B.pushD [w.code.length+1] Et;exact⟨C.code,C.ld,C.lr,Ah (by simp only[Lw.add,Lw.pushD,BJ,CK,Dp];omega)⟩
theorem LN.alu(h:LN w len nd nr dd dr)(op:Int)(a b:Nat):LN (w.alu op a b) (len+2) nd nr (dd+1) dr:=by
 unfold Lw.alu;split;·have:=h.add 4 a b op;exact⟨by have:=this.len;simp only;omega,this.nd,this.nr,by have:=this.dd;simp only;omega,this.dr⟩
 ·have:=((h.add 4 a b op).add 3 a b op).pushD [w.code.length+1];exact⟨this.len,this.nd,this.nr,by have:=this.dd;simpa using this,this.dr⟩
theorem one0_wf(h:LW w k)(hN:LN w len nd nr dd dr)(hb:nd≤1000∧nr≤1000)(i:Ins)(next:Int)(hp:plainB i.op=Af)(n0:0≤i.n∧i.n≤4294967295)(x0:0≤next∧next≤4294967295):LW (w.one0 i next) k∧LN (w.one0 i next) (len+4) (nd+2) (nr+1) (dd+1) (dr+1):=by
 have c0: ∀m:Int,0≤m∧m≤4294967295→MadeOk w.nd w.nr ⟨0,w.code.length,0,0,m⟩ w.code.length:=λm hm=>
  ⟨rfl,AB,λ_=>⟨rfl,rfl⟩,λq=>Cz,λq=>Cz,λq=>Cz,λq=>Cz,λq=>Cz,hm⟩
 have b1:=hN.nd;have b2:=hN.nr;obtain⟨d1,d2,d3⟩:=h.popD O;have D1:=hN.popD;have b3:=D1.nd;obtain⟨e1,e2,e3⟩:=d1.popD O;have E1:=D1.popD;obtain⟨r1,r2,r3⟩:=h.popR O;have R1:=hN.popR;refine GC (λx=>LW x k∧LN x (len+4) (nd+2) (nr+1) (dd+1) (dr+1)) w i next (λ_=>?_) ?_ ?_ ?_ ?_ ?_ ?_ (λhop=>?_) (λ_=>?_) (λ_=>?_) (λ_=>?_) (λ_=>?_) ?_
 ·exact⟨(h.add 0 0 0 _ (c0 _ n0)).pushD _ Et,((hN.add 0 0 0 _).pushD _).more O O O AB O⟩
 ·exact⟨d1.pushD _ (by simp[d2]),(D1.pushD _).more O O O Mf O⟩
 ·exact⟨d1,D1.more O O O O O⟩
 ·exact Mg
 ·exact Mg
 ·exact⟨d1.pushR _ d2,(D1.pushR _).more O O O O O⟩
 ·exact⟨r1.pushD _ (by simp[r2]),(R1.pushD _).more O O O AB O⟩
 ·exact⟨e1.alu _ _ _ e2 O hop.1 hop.2 (by simp[plainB] at hp;omega),(E1.alu _ _ _).more O O O O O⟩
 ·exact⟨(h.add 0 0 0 _ (c0 _ x0)).pushR _ Et,((hN.add 0 0 0 _).pushR _).more O O O O O⟩
 ·exact⟨⟨r1.code,r1.ld,r1.lr,r1.fl⟩,(LN.mk R1.len R1.nd R1.nr R1.dd R1.dr:LN {w.popR with tg:=(w.topR:Int)} _ _ _ _ _).more O O O O O⟩
 ·exact⟨⟨d1.code,d1.ld,d1.lr,d1.fl⟩,(LN.mk D1.len D1.nd D1.nr D1.dd D1.dr:LN {w.popD with tg:=(w.topD:Int)} _ _ _ _ _).more O O O O O⟩
 ·exact⟨⟨h.code,h.ld,h.lr,h.fl⟩,(LN.mk hN.len hN.nd hN.nr hN.dd hN.dr:LN {w with br:=i.op} _ _ _ _ _).more O O O O O⟩
 ·exact⟨⟨h.code,h.ld,h.lr,h.fl⟩,hN.more O O O O O⟩
end
structure LB(w:Lw)(k:Nat):Prop where
 wf:LW w k
 n:LN w (4*k) (2*k) k k k
 hd:w.hd≤k
 hr:w.hr≤k
theorem all_wf: ∀(l:List Ins) (w:Lw) (pc:Int) (k:Nat),LB w k→k+l.length≤100→(∀i∈l,plainB i.op=Af∧0≤i.n∧i.n≤4294967295)→LB (w.all pc l) (k+l.length)
 |[],w,pc,k,h,_,_=>h
 |i::l,w,pc,k,h,hk,hl=>by
  obtain⟨i1,i2⟩:=hl i AB;have hk':k+(l.length+1)≤100:=hk;obtain⟨o1,o2⟩:=one0_wf h.wf h.n O i ((pc+sizeI i.op)%4294967296) i1 i2 O;have hh:=one0_hd w i ((pc+sizeI i.op)%4294967296);have a1:=h.hd;have a2:=h.hr;have a3:=o2.dd;have a4:=o2.dr;have B:LB (w.one i ((pc+sizeI i.op)%4294967296)) (k+1):=by
   refine⟨⟨o1.code,o1.ld,o1.lr,o1.fl⟩,⟨by have:=o2.len;show(w.one0 i _).code.length≤_;omega,by have:=o2.nd;show(w.one0 i _).nd≤_;omega,by have:=o2.nr;show(w.one0 i _).nr≤_;omega,by show((w.one0 i _).ld.length:Int) -(w.one0 i _).nd≤_;push_cast;omega,by show((w.one0 i _).lr.length:Int) -(w.one0 i _).nr≤_;push_cast;omega⟩, ?_, ?_⟩;·show max (w.one0 i _).hd ((w.one0 i _).ld.length -(w.one0 i _).nd)≤k+1;rw[hh.1];omega
   ·show max (w.one0 i _).hr ((w.one0 i _).lr.length -(w.one0 i _).nr)≤k+1;rw[hh.2];omega
  have:=all_wf l (w.one i ((pc+sizeI i.op)%4294967296)) ((pc+sizeI i.op)%4294967296) (k+1) B O (λj hj=>hl j Dh);rw[show k+(i::l).length=k+1+l.length by simp;omega];exact this
theorem all_tg: ∀(l:List Ins) (w:Lw) (pc:Int),(∀i∈l,i.op<32)→(w.all pc l).tg=w.tg∧(w.all pc l).br=w.br
 |[],w,pc,_=>⟨rfl,rfl⟩
 |i::l,w,pc,h=>by
  have h1:=one0_tg w i ((pc+sizeI i.op)%4294967296) (h i AB);have h2:=all_tg l (w.one i ((pc+sizeI i.op)%4294967296)) ((pc+sizeI i.op)%4294967296) (λj hj=>h j Dh);exact⟨h2.1.trans h1.1,h2.2.trans h1.2⟩
theorem TU{w:Lw}{k:Nat}(h:LW w k)(hb:w.nd≤1000∧w.nr≤1000)(i:Ins)(next:Int)(hp:plainB i.op=Af)(ht:w.tg= -1)(hbr:w.br=0):((w.one0 i next).tg= -1∨(0≤(w.one0 i next).tg∧(w.one0 i next).tg<(w.one0 i next).code.length))∧((w.one0 i next).br=0∨(33≤(w.one0 i next).br∧(w.one0 i next).br≤37∧(w.one0 i next).tg= -1)):=by
 by_cases hlt:i.op<32
 ·have:=one0_tg w i next hlt
  rw[this.1,this.2];exact⟨Ag ht,Ag hbr⟩
 ·obtain⟨op,n⟩:=i;have hlt: ¬op<32:=hlt;obtain⟨d1,d2,d3⟩:=h.popD O;obtain⟨r1,r2,r3⟩:=h.popR O;have q:=popD_r w;have q3:=popR_d w;have hp':=Ft hp;have hp':op=32∨(33≤op∧op≤37)∨op=38∨op=39∨op=40:=by simp only at hp';omega
  rcases hp' with e|e|e|e|e
  ·subst e;have e1:w.one0 ⟨32,n⟩ next=w:=Ec
   rw[e1];exact⟨Ag ht,Ag hbr⟩
  ·have e1:w.one0 ⟨op,n⟩ next={w with br:=op}:=by
    unfold Lw.one0;simp only[];rw[Ae O,Ae O,Ae O,Ae O,Ae O,Ae O,Ae O,Ae O,Ae O,Ae O,Ae O,An e]
   rw[e1];exact⟨Ag ht,Ah ⟨e.1,e.2,ht⟩⟩
  ·subst e;have e1:=IJ;rw[e1];exact⟨Ag ht,Ag hbr⟩
  ·subst e;have e1:=LH;rw[e1];exact⟨Ah ⟨CE,CE⟩,Ag (q3.2.2.2.2.1.trans hbr)⟩
  ·subst e;have e1:=LL;rw[e1];exact⟨Ah ⟨CE,CE⟩,Ag (q.2.2.2.2.1.trans hbr)⟩
theorem pcs_bd: ∀(l:List Ins) (pc:Int),0≤pc∧pc≤4294967295→0≤pcs pc l∧pcs pc l≤4294967295
 |[],pc,h=>h
 |i::l,pc,h=>pcs_bd l _ O
theorem lower_wf(pc:Int)(l:List Ins)(hpc:0≤pc∧pc≤4294967295)(hl:l≠[])(h8:l.length≤8)(hall: ∀i∈l,plainB i.op=Af∧0≤i.n∧i.n≤4294967295)(hends: ∀i∈l.dropLast,endsB i.op=Aa):WF (lower0 pc l):=by
 have hB0:LB Lw.new 0:=⟨⟨λi hi=>absurd hi DU,DU,DU,Ag rfl⟩,⟨AE _,AE _,AE _,DU,DU⟩,AE _,AE _⟩;have hB:=all_wf l Lw.new pc 0 hB0 O hall;rw[Bn] at hB;have hpos:=CP.2 hl;have hp:=pcs_bd l pc hpc;have htb:((Lw.new.all pc l).tg= -1∨(0≤(Lw.new.all pc l).tg∧(Lw.new.all pc l).tg<(Lw.new.all pc l).code.length))∧((Lw.new.all pc l).br=0∨(33≤(Lw.new.all pc l).br∧(Lw.new.all pc l).br≤37∧(Lw.new.all pc l).tg= -1)):=by
  obtain⟨m,i,rfl⟩: ∃m i,l=m++[i]:=LO;rw[Do] at hends;have h1:=all_tg m Lw.new pc (λj hj=>by
   have a:=hends j hj;have b:=(hall j Dh).1;simp[plainB] at b;simp[endsB] at a;omega)
  have h2:=all_wf m Lw.new pc 0 hB0 (by simp at h8;omega) (λj hj=>hall j Dh);have h3:=h2.n;simp at h8;have:=TU h2.wf (by have:=h3.nd;have:=h3.nr;omega) i ((pcs pc m+sizeI i.op)%4294967296) (hall i AB).1 h1.1 h1.2;rw[all_app];exact this
 have N:=hB.n;have b1:=N.len;have b2:=N.nd;have b3:=N.nr;have b4:=N.dd;have b5:=N.dr;have b6:=hB.hd;have b7:=hB.hr;unfold lower0;generalize Lw.new.all pc l=w at*;refine⟨hB.wf.code, ?_, ?_, ?_, ?_, ?_,hB.wf.ld,hB.wf.lr,hB.wf.fl,htb.1,htb.2,⟨hpos,h8⟩, ?_, ?_, ?_, ?_⟩;·show w.code.length≤64;omega
 ·show w.nd≤16;omega
 ·show w.nr≤16;omega
 ·show w.hd≤16;omega
 ·show w.hr≤16;omega
 ·simp only[];by_cases c:(lastI l).op=32∨(lastI l).op=38;·rw[An c];omega
  ·rw[Ae c];exact hp
 ·simp only[];by_cases c:(lastI l).op=32∨(lastI l).op=38;·rw[An c];omega
  ·rw[Ae c];by_cases c:w.br≠0;·rw[An c];omega
   ·rw[Ae c];omega
 ·show w.ld.length≤64;omega
 ·show w.lr.length≤64;omega
end Tr
end Go.Proofs.YtpmlgdopfafcgaaGreatDoor
