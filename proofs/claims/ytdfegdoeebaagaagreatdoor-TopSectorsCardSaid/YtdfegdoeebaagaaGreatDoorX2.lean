import Derived.Test.YtdfegdoeebaagaaGreatDoorV0
import Derived.Test.YtdfegdoeebaagaaGreatDoorChecked
open Go.Value renaming slice→Z,int→J,bool→Ap,tuple→AF,ownBlock→Cb,agg→A9,pointer→Bm,oneCell'→Ir
open Option renaming some→I,none→G
open Go.IntKind renaming i64→U,u32→V,u8→AB
open Go renaming World→Aa,Value→As,Calls→At,TypeId→AN,Ending→AY,info_parts→Cj,maxLen→BQ,madeCells→CH,wpList→Cy,Program→CF,undef→BY,run_underlying→Fe,Oper→BM,Operand→De
open Bool renaming false→Ac,true→Ag
open List renaming getD_eq_getElem?_getD→AS,getElem?_eq_getElem→BK,length_append→Cq,mem_map→BS,getElem?_take_of_lt→Dq,getElem_mem→CE,range→Cl,getElem?_append_right→Ex,getElem?_eq_none→Ew,getElem?_append_left→Ff,replicate→DL,length_map→Fo,range_succ→Ic,map_cons→GU
open Go.Ending renaming returned→Ax
open Nat renaming le_refl→AD,lt_of_lt_of_le→Bg,le_trans→Bf,zero_add→BW,lt_or_ge→DG,eq_zero_or_pos→Gq
open Or renaming inl→Af,inr→Ah
open Go.Proofs.Tryz renaming underlying85→FV
open Go.RowKit renaming intOf→AM
open Array renaming getElem?_toList→DV
open Int renaming toNat_natCast→Du
open Go.Region renaming wanted→Dm
open Go.Instr renaming makeSlice→Fp
open Go.Lit renaming int→DT
open Go.Oper renaming wp→EP
open Go.Sem renaming run_bind→GT
set_option linter.all false
set_option maxHeartbeats 40000000
set_option maxRecDepth 1000000
open Go Go.RowKit
namespace Go.Proofs.YtdfegdoeebaagaaGreatDoor
section
theorem kJ(a:Addr)(n:Nat):(a.add n).block=a.block:=by unfold Addr.add;split<;>rfl
def Blk(w:Aa)(g:Nat)(t:AN)(cs:AO):Prop:=w.heap[g]?=I (.cells cs t (0,0))
section
variable {w w':Aa} {g:Nat} {t:AN} {cs:AO}
theorem Blk.lt(h:Blk w g t cs):g<↑w:=by
 rcases DG g ↑w with hlt|hge;·exact hlt
 ·unfold Blk at h;rw[Array.getElem?_eq_none hge] at h;cases h
theorem Blk.cell(h:Blk w g t cs)(i:Nat):w.cell? ⟨g,i,G⟩=cs[i]?:=cell_of_row w g i cs t (0,0) h
theorem Blk.frozen(h:Blk w g t cs)(i:Nat):w.frozen? ⟨g,i,G⟩=Ac:=by
 unfold Blk at h;simp[World.frozen?,h]
theorem Blk.new(w:Aa)(t:AN)(cs:AO):Blk (w.alloc (.cells cs t)) ↑w t cs:=heap_alloc_new w _
theorem Blk.new'(w:Aa)(t:AN)(cs:AO){n:Nat}(h:↑w=n):Blk (w.alloc (.cells cs t)) n t cs:=h▸Blk.new w t cs
theorem Blk.drew(h:Blk w g t cs):Blk w.drew g t cs:=h
theorem Blk.drewN(h:Blk w g t cs)(n:Nat):Blk (w.drewN n) g t cs:=h
theorem Blk.alloc(h:Blk w g t cs)(o:Obj):Blk (w.alloc o) g t cs:=(Below.heap_alloc w o g h.lt).trans h
theorem Blk.set_(h:Blk w g t cs)(i:Nat)(u:As):Blk (w.setCell ⟨g,i,G⟩ u) g t (cs.setIfInBounds i u):=by
 unfold Blk at h⊢;simp[World.setCell,Array.getElem?_modify,h]
variable{p:Addr}
theorem Blk.far(h:Blk w g t cs)(hp:g≠p.block)(u:As):Blk (w.setCell p u) g t cs:=(Below.heap_setCell w p u g hp).trans h
theorem Blk.grown{row:Option Nat}(h:Blk w g t cs)(hb:w.grownBy w' row)(hg:I g≠row):Blk w' g t cs:=(hb.block g h.lt hg).trans h
end
structure Fr(S:AE)(w w':Aa):Prop where
 os:w'.os=w.os
 tape:w'.tape=w.tape
 output:w'.output=w.output
 size:w.heap.size≤w'.heap.size
 block: ∀k,k<w.heap.size→ ¬S k→w'.heap[k]?=w.heap[k]?
section
variable {S S':AE} {a w w' w'':Aa}
theorem Fr.refl(S:AE)(w:Aa):Fr S w w:=⟨rfl,rfl,rfl,AD _,λ_ _ _=>rfl⟩
theorem Fr.trans(h:Fr S a w)(k:Fr S' w w')(hs: ∀i,i<a.heap.size→S' i→S i):Fr S a w':=
 ⟨k.os.trans h.os,k.tape.trans h.tape,k.output.trans h.output,Bf h.size k.size,λi hi hn=>(k.block i (Bg hi h.size) (λe=>hn (hs i hi e))).trans (h.block i hi hn)⟩
theorem Fr.tr(h:Fr S a w)(k:Fr S w w'):Fr S a w':=h.trans k (λ_ _ e=>e)
theorem Fr.mono(h:Fr S w w')(hs: ∀i,i<w.heap.size→S i→S' i):Fr S' w w':=⟨h.os,h.tape,h.output,h.size,λk hk hn=>h.block k hk (λe=>hn (hs k hk e))⟩
theorem Fr.drew(h:Fr S a w):Fr S a w.drew:=⟨h.os,h.tape,h.output,h.size,h.block⟩
theorem Fr.drewN(h:Fr S a w)(n:Nat):Fr S a (w.drewN n):=⟨h.os,h.tape,h.output,h.size,h.block⟩
theorem Fr.alloc(h:Fr S a w)(o:Obj):Fr S a (w.alloc o):=
 ⟨h.os,h.tape,h.output,Bf h.size AC,λi hi hn=>(Below.heap_alloc w o i (Bg hi h.size)).trans (h.block i hi hn)⟩
variable{p:Addr}
theorem Fr.setCell(h:Fr S a w)(hp:S p.block∨↑a≤p.block)(u:As):Fr S a (w.setCell p u):=
 ⟨h.os,h.tape,h.output,by simpa[World.setCell] using h.size,λi hi hn=>(Below.heap_setCell w p u i (by
  rintro rfl;rcases hp with hp|hp;·exact hn hp
  ·omega)).trans (h.block i hi hn)⟩
theorem Fr.grown(h:Fr S a w){row:Option Nat}(hg:w.grownBy w' row)(hr: ∀k,row=I k→S k∨a.heap.size≤k):Fr S a w':=
 ⟨hg.os.trans h.os,hg.tape.trans h.tape,hg.output.trans h.output,Bf h.size hg.size,λi hi hn=>(hg.block i (Bg hi h.size) (λe=>by
  rcases hr i e.symm with hp|hp;·exact hn hp
  ·omega)).trans (h.block i hi hn)⟩
theorem Fr.cell(f:Fr S w w'){v:Option As}(hc:w.cell? p=v)(hp:p.block<↑w)(hn: ¬S p.block):w'.cell? p=v:=(World.cell?_of_block (w:=w) (f.block _ hp hn)).trans hc
theorem Fr.below{B:Nat}(h:Fr S w w')(hs: ∀k,k<w.heap.size→S k→B≤k)(hB:B≤↑w):Below B w w':=
 ⟨h.os,h.tape,h.output,h.size,λk hk=>h.block k O (λe=>by have:=hs k (by omega) e;omega)⟩
theorem Blk.fr{g:Nat}{t:AN}{cs:AO}(h:Blk w g t cs)(f:Fr S w w')(hn: ¬S g):Blk w' g t cs:=(f.block g h.lt hn).trans h
theorem Fr.set1(w:Aa)(g i:Nat)(u:As):Fr (· =g) w (w.setCell ⟨g,i,G⟩ u):=(Fr.refl (· =g) w).setCell (p:=⟨g,i,G⟩) (Af rfl) u
theorem Fr.none_below(h:Fr Aj w w'):Below ↑w w w':=h.below (λ_ _ e=>e.elim) (AD _)
end
def IntsAt(k:IntKind)(w:Aa)(B:Nat)(A:Aw)(n:Nat)(zs:List Int):Prop:=
 zs.length=n∧(∀i,i<n→(DT k (zs.getD i 0)).wf=Ag)∧(0<n→ ∃b off,A=I ⟨b,off,G⟩∧b<B∧ ∀i,i<n→w.cell? ⟨b,off+i,G⟩=I (J k (zs.getD i 0)))
section
variable {k:IntKind} {w w':Aa} {B n:Nat} {A:Aw} {zs:List Int} {S:AE}
theorem IntsAt.at_(h:IntsAt k w B A n zs){i:Nat}(hi:i<n): ∃b off,A=I ⟨b,off,G⟩∧b<B∧w.cell? ⟨b,off+i,G⟩=I (J k (zs.getD i 0)):=by
 obtain⟨b,off,e,hb,hc⟩:=h.2.2 O;exact⟨b,off,e,hb,hc i hi⟩
theorem IntsAt.more{B':Nat}(h:IntsAt k w B A n zs)(hB:B≤B'):IntsAt k w B' A n zs:=
 ⟨h.1,h.2.1,λhn=>by
  obtain⟨b,off,e,hb,hc⟩:=h.2.2 hn;exact⟨b,off,e,O,hc⟩⟩
theorem IntsAt.fr(h:IntsAt k w B A n zs)(f:Fr S w w')(hB:B≤↑w)(hs: ∀i,i<B→ ¬S i):IntsAt k w' B A n zs:=
 ⟨h.1,h.2.1,λhn=>by
  obtain⟨b,off,e,hb,hc⟩:=h.2.2 hn;exact⟨b,off,e,hb,λi hi=>(World.cell?_of_block (w:=w) (a:=⟨b,off+i,G⟩) (f.block b O (hs b hb))).trans (hc i hi)⟩⟩
end
theorem IntsAt.take{k:IntKind}{w:Aa}{B n m:Nat}{A:Aw}{zs:List Int}(h:IntsAt k w B A n zs)(hm:m≤n):IntsAt k w B A m (zs.take m):=by
 have hg: ∀i,i<m→(zs.take m).getD i 0=zs.getD i 0:=Tl;refine⟨by have:=h.1;simp;omega,λi hi=>by rw[hg i hi];exact h.2.1 i (by omega),λhn=>?_⟩;obtain⟨b,off,e,hb,hc⟩:=h.2.2 O;exact⟨b,off,e,hb,λi hi=>by rw[hg i hi];exact hc i (by omega)⟩
theorem Nc(k:IntKind)(w:Aa)(B:Nat)(A:Aw):IntsAt k w B A 0 []:=⟨rfl,λi hi=>absurd hi O,λhn=>absurd hn O⟩
theorem kK{k:IntKind}{w:Aa}{x:Addr}{len:Nat}{zs:List Int}(hl:len≤zs.length)(hcell: ∀i,i<zs.length→w.cell? (x.add i)=I (J k (zs.getD i 0)))(hwz: ∀n∈zs,(DT k n).wf=Ag):IntsAt k w ↑w (I x) len (zs.take len):=by
 have hg: ∀i,i<len→(zs.take len).getD i 0=zs.getD i 0:=Tl;refine⟨AA,λi hi=>?_,λhn=>?_⟩
 ·rw[hg i hi];have hlt:i<zs.length:=O;have e:zs.getD i 0=zs[i]:=by simp[hlt]
  rw[e];exact hwz _ (CE hlt)
 ·obtain⟨b,off,spot⟩:=x;have hc:=hcell 0 O;have hspot:spot=G:=by simpa[Addr.add] using World.cell?_spot hc
  subst hspot;refine⟨b,off,rfl, ?_,λi hi=>?_⟩
  ·rcases DG b ↑w with h|h;·exact h
   ·exfalso;have:w.heap[b]?=G:=Array.getElem?_eq_none h;simp[World.cell?,Addr.add,this] at hc
  ·rw[hg i hi,←hcell i O];exact OS
theorem Tn{k:IntKind}{w:Aa}{g:Nat}{t:AN}(zs:List Int)(hb:Blk w g t (zs.map (J k)).toArray)(hw: ∀i,i<zs.length→(DT k (zs.getD i 0)).wf=Ag):IntsAt k w (g+1) (I ⟨g,0,G⟩) zs.length zs:=by
 refine⟨rfl,hw,λ_=>⟨g,0,rfl,O,λi hi=>?_⟩⟩;rw[BW,hb.cell i];simp[hi]
theorem wf_list{k:IntKind}{zs:List Int}(h: ∀z∈zs,(DT k z).wf=Ag): ∀i,i<zs.length→(DT k (zs.getD i 0)).wf=Ag:=by
 intro i hi;have e:zs.getD i 0=zs[i]:=by simp[hi]
 rw[e];exact h _ (CE hi)
theorem Lx{n:Int}(h0: -9223372036854775808≤n)(h1:n≤9223372036854775807):(DT U n).wf=Ag:=OT
theorem OU{n:Int}(h0:0≤n)(h1:n≤4294967295):(DT V n).wf=Ag:=OT
theorem J7{n:Int}(h0:0≤n)(h1:n≤255):(DT AB n).wf=Ag:=OT
theorem wf_u32{n:Int}(h:(DT V n).wf=Ag):0≤n∧n≤4294967295:=Tp
theorem Jb{n:Int}(h:(DT AB n).wf=Ag):0≤n∧n≤255:=Tp
def Ao:=@Fr.refl
def AI:=@Blk.new
def Br:=@Fr.set1
def CK:=@Blk.new'
end
section
def Reads(w:Aa)(B size:Nat)(A:Aw)(n:Nat)(xs:List As):Prop:=
 xs.length=n*size∧(0<n→ ∃ad,A=I ad∧ad.block<B∧ ∀j u,xs[j]?=I u→w.cell? (ad.add j)=I u)
section
variable {w w':Aa} {B B' size n:Nat} {A:Aw} {xs:List As}
theorem Reads.at_{k:Nat}(h:Reads w B 1 A n xs)(hk:k<n): ∃ad u,A=I ad∧ad.block<B∧xs[k]?=I u∧w.cell? (ad.add k)=I u:=by
 obtain⟨ad,e,hb,hc⟩:=h.2 O;have hl:k<xs.length:=by have:=h.1;omega
 exact⟨ad,xs[k],e,hb,BK hl,hc k _ (BK hl)⟩
theorem Reads.keep(h:Reads w B size A n xs)(hk: ∀p:Addr,p.block<B→w'.cell? p=w.cell? p):Reads w' B size A n xs:=
 ⟨h.1,λhn=>by
  obtain⟨ad,e,hb,hc⟩:=h.2 hn;exact⟨ad,e,hb,λj u hu=>(hk _ (by rw[kJ];exact hb)).trans (hc j u hu)⟩⟩
theorem Reads.alloc(h:Reads w B size A n xs)(hB:B≤↑w)(o:Obj):Reads (w.alloc o) B size A n xs:=h.keep λp hp=>World.cell?_alloc_lt w o p O
variable{base:Nat}{e:AN}
theorem Reads.of_own{c:Nat}(h:w.ownsRow base e size (.slice A n c) n xs):Reads w ↑w size A n xs:=by
 refine⟨h.1,λhn=>?_⟩;obtain⟨g,cap,hv,_,hlt⟩:=h.form hn;have hA:A=I ⟨g,0,G⟩:=by injection hv
 subst hA;exact⟨_,rfl,hlt,h.cells (g:=g) rfl⟩
end
section
variable {w w':Aa} {g:Nat} {t:AN} {cs:AO}
theorem Blk.ne_{g':Nat}{t':AN}{cs':AO}(h:Blk w g t cs)(h':Blk w g' t' cs')(hne:t≠t'):g≠g':=by
 rintro rfl;unfold Blk at h h';rw[h] at h';injection h' with h';injection h' with _ ht;exact hne ht
variable{base:Nat}{e:AN}{v:As}
theorem AZ{size n:Nat}{xs:List As}(h:w.ownsRow base e size v n xs)(hg:Blk w g t cs)(hne:e≠t):v.ownBlock≠I g:=by
 rcases h.2 with⟨rfl,_⟩|⟨g',cap,cur,rfl,_,hh,_⟩;·simp[Cb]
 ·intro he;have:g'=g:=by simpa[Cb] using he
  subst this;exact Blk.ne_ (t:=e) hh hg hne rfl
end
section
variable {P:CF} (w:Aa)
theorem kL(base:Nat)(t ty e:AN)(i:TypeInfo)(size:Nat)(ht:P.underlying t=I (.slice e))(hi:P.info? e=I i)(v:As)(n:Nat)(xs:List As)(hown:w.ownsRow base e size v n xs)(c:Nat):(Builtin.append_ #[t,t] ty #[v,.slice G 0 c]).run P w=.ok v w:=by
 rcases hown.2 with⟨rfl,rfl⟩|⟨g,cap,cur,rfl,_,_,hnc,_⟩;·simp[Builtin.append_,Fe ht,sizeOf,typeInfo,hi,Builtin.lenOf,Builtin.firstCells]
 ·simp[Builtin.append_,Fe ht,sizeOf,typeInfo,hi,Builtin.lenOf,Builtin.firstCells,hnc,storeCells]
theorem kM(base:Nat)(t ty e:AN)(i:TypeInfo)(z:As)(size bytes:Nat)(ht:P.underlying t=I (.slice e))(hi:P.info? e=I i)(hz:i.zero=I z)
 (hsize:i.size=size) (hby:i.bytes=bytes) (hzs:z.cells.size=size) (hsz:0<size)
 (v:As) (n:Nat) (xs:List As) (hown:w.ownsRow base e size v n xs)
 (B:Nat) (A:Aw) (m c:Nat) (news:List As) (hr:Reads w B size A m news) (h1: ∀u∈news,u.oneCell'=Ag)
 (h63:n+m≤BQ) (hbytes:(n+m)*bytes≤140737488355328) (hbase:base≤↑w):
 ∃v' w',(Builtin.append_ #[t,t] ty #[v,.slice A m c]).run P w=.ok v' w'∧w'.ownsRow base e size v' (n+m) (xs++news)∧w.grownBy w' v.ownBlock∧
  (v'.ownBlock=v.ownBlock∨v'.ownBlock=I ↑w):=by
 rcases A with _|ad
 ·have hm:m=0:=by
   rcases Gq m with h0|h0;·exact h0
   ·obtain⟨ad,h,_⟩:=hr.2 h0
    cases h
  subst hm;have hn:=OV;subst hn;exact⟨v,w,kL w base t ty e i size ht hi v n xs hown c,by simpa using hown,World.grownBy.refl w _,Af rfl⟩
 ·have hcells: ∀j u,news[j]?=I u→w.cell? (ad.add j)=I u:=by
   intro j u hu;rcases Gq m with h0|h0;·subst h0;have hn:=OV;subst hn;simp at hu
   ·obtain⟨ad',h,_,hc⟩:=hr.2 h0;injection h with h;subst h;exact hc j u hu
  obtain⟨v',w',hrun,h2,h3,_,h5⟩:=run_append_own_at (P:=P) w base t ty e i z size bytes ht hi hz hsize hby hzs hsz v n xs hown ad m c news hr.1 hcells h1 h63 hbytes hbase;exact⟨v',w',hrun,h2,h3,h5⟩
variable{o:BM}{Q:Exit→Act→Aa→Prop}
theorem Tq{a:Act}{K:Act→Aa→Prop}(s x:De)(t:AN)(ho:o.op=.call {callee:=.builtin .append,args:=#[s,x],argTypes:=#[t,t]})(base:Nat)(e:AN)(i:TypeInfo)(z:As)(size bytes:Nat)(ht:P.underlying t=I (.slice e))(hi:P.info? e=I i)(hz:i.zero=I z)(hsize:i.size=size)(hby:i.bytes=bytes)(hzs:z.cells.size=size)(hsz:0<size)(v:As)(n:Nat)(xs:List As)(hs:a.eval s=v)(hown:w.ownsRow base e size v n xs)(B:Nat)(A:Aw)(m c:Nat)(news:List As)(hx:a.eval x=.slice A m c)(hr:Reads w B size A m news)(h1: ∀u∈news,u.oneCell'=Ag)(h63:n+m≤BQ)(hbytes:(n+m)*bytes≤140737488355328)(hbase:base≤↑w)(h: ∀v' w',w'.ownsRow base e size v' (n+m) (xs++news)→w.grownBy w' v.ownBlock→(v'.ownBlock=v.ownBlock∨v'.ownBlock=I ↑w)→K (a.put o.dst v') w'):o.wp P a w K Q:=by
 obtain⟨v',w',hrun,h2,h3,h4⟩:=kM (P:=P) w base t o.type e i z size bytes ht hi hz hsize hby hzs hsz v n xs hown B A m c news hr h1 h63 hbytes hbase;unfold EP execOp;simp only[ho,resolve,invoke,builtin,GT,Sem.run_pure,Result.andThen_ok,List.map_toArray,GU,List.map_nil,hs,hx,hrun];exact h v' w' h2 h3 h4
theorem CU{ops:Array BM}{rest:List BM}{a:Act}(hgd:o.guard=G)(s x:De)(t:AN)(ho:o.op=.call {callee:=.builtin .append,args:=#[s,x],argTypes:=#[t,t]})(base:Nat)(e:AN)(i:TypeInfo)(z:As)(size bytes:Nat)(ht:P.underlying t=I (.slice e))(hi:P.info? e=I i)(hz:i.zero=I z)(hsize:i.size=size)(hby:i.bytes=bytes)(hzs:z.cells.size=size)(hsz:0<size)(v:As)(n:Nat)(xs:List As)(hs:a.eval s=v)(hown:w.ownsRow base e size v n xs)(B:Nat)(A:Aw)(m c:Nat)(news:List As)(hx:a.eval x=.slice A m c)(hr:Reads w B size A m news)(h1: ∀u∈news,u.oneCell'=Ag)(h63:n+m≤BQ)(hbytes:(n+m)*bytes≤140737488355328)(hbase:base≤↑w)(h: ∀v' w',w'.ownsRow base e size v' (n+m) (xs++news)→w.grownBy w' v.ownBlock→(v'.ownBlock=v.ownBlock∨v'.ownBlock=I ↑w)→Cy P ops Q rest (a.put o.dst v') w'):Cy P ops Q (o::rest) a w:=
 wpList_plain hgd λ_ hK=>Tq w s x t ho base e i z size bytes ht hi hz hsize hby hzs hsz v n xs hs hown B A m c news hx hr h1 h63 hbytes hbase λv' w' h2 h3 h4=>hK _ _ (h v' w' h2 h3 h4)
theorem IC{ops:Array BM}{a:Act}{K:Act→Aa→Prop}{E:Prop}(hgd:o.guard=G)(s x:De)(t:AN)(ho:o.op=.call {callee:=.builtin .append,args:=#[s,x],argTypes:=#[t,t]})(base:Nat)(e:AN)(i:TypeInfo)(z:As)(size bytes:Nat)(ht:P.underlying t=I (.slice e))(hi:P.info? e=I i)(hz:i.zero=I z)(hsize:i.size=size)(hby:i.bytes=bytes)(hzs:z.cells.size=size)(hsz:0<size)(v:As)(n:Nat)(xs:List As)(hs:a.eval s=v)(hown:w.ownsRow base e size v n xs)(B:Nat)(A:Aw)(m c:Nat)(news:List As)(hx:a.eval x=.slice A m c)(hr:Reads w B size A m news)(h1: ∀u∈news,u.oneCell'=Ag)(h63:n+m≤BQ)(hbytes:(n+m)*bytes≤140737488355328)(hbase:base≤↑w)(h: ∀v' w',w'.ownsRow base e size v' (n+m) (xs++news)→w.grownBy w' v.ownBlock→(v'.ownBlock=v.ownBlock∨v'.ownBlock=I ↑w)→K (a.put o.dst v') w'):if Dm o (yielded ops a.tmps)=Ag then EP P o a w K Q else E:=by
 have hw:=Tt;rw[An hw];exact Tq w s x t ho base e i z size bytes ht hi hz hsize hby hzs hsz v n xs hs hown B A m c news hx hr h1 h63 hbytes hbase h
end
variable{base:Nat}{e:AN}{v:As}
theorem Cn{w:Aa}{size n:Nat}{xs:List As}(h:w.ownsRow base e size v n xs): ∀k,v.ownBlock=I k→base≤k:=by
 intro k hk;rcases h.2 with⟨rfl,_⟩|⟨g,cap,cur,rfl,hb,_⟩;·simp[Cb] at hk
 ·simp[Cb] at hk;omega
theorem own_lt{w:Aa}{size n:Nat}{xs:List As}(h:w.ownsRow base e size v n xs): ∀k,v.ownBlock=I k→k<w.heap.size:=by
 intro k hk;rcases h.2 with⟨rfl,_⟩|⟨g,cap,cur,rfl,hb,hh,_⟩;·simp[Cb] at hk
 ·simp[Cb] at hk;subst hk;rcases DG g ↑w with h|h;·exact h
  ·rw[Array.getElem?_eq_none h] at hh;cases hh
theorem DU{w:Aa}{size n:Nat}{xs:List As}(h:w.ownsRow base e size v n xs)(o:Obj):(w.alloc o).ownsRow base e size v n xs:=h.alloc o
theorem AR{w w':Aa}{size n:Nat}{xs:List As}{S:AE}(h:w.ownsRow base e size v n xs)(f:Fr S w w')(hn: ∀k,v.ownBlock=I k→ ¬S k):w'.ownsRow base e size v n xs:=by
 have hl:=own_lt h;obtain⟨h1,h2⟩:=h;refine⟨h1, ?_⟩;rcases h2 with h2|⟨g,cap,cur,hv,hg,hh,r⟩;·exact Or.inl h2
 ·have e:v.ownBlock=I g:=by rw[hv];rfl
  exact Or.inr ⟨g,cap,cur,hv,hg,(f.block g (hl g e) (hn g e)).trans hh,r⟩
theorem Do{w:Aa}{g:Nat}{t:AN}{cs:AO}{size n:Nat}(h:Blk w g t cs)(hn:cs.size=n*size):Reads w (g+1) size (I ⟨g,0,G⟩) n cs.toList:=by
 refine⟨by simpa using hn,λ_=>⟨_,rfl,AC,λj u hu=>?_⟩⟩;have e:(⟨g,0,G⟩:Addr).add j=⟨g,j,G⟩:=by
  unfold Addr.add;split;·rename_i h0;subst h0;rfl
  ·simp
 rw[e,h.cell j];simpa using hu
def Dp(cs:AO):Nat→List As→AO
 |_,[]=>cs
 |o,v::r=>Dp (cs.setIfInBounds o v) (o+1) r
theorem Nd(vs:List As): ∀(cs:AO) (o:Nat),(Dp cs o vs).size=cs.size:=by
 induction vs with
 |nil=>intro cs o;rfl
 |cons v r ih=>intro cs o;rw[Dp,ih];simp
theorem Tu(vs:List As): ∀(cs:AO) (o i:Nat),(i<o∨o+vs.length≤i)→(Dp cs o vs)[i]?=cs[i]?:=by
 induction vs with
 |nil=>intro cs o i _;rfl
 |cons v r ih=>
  intro cs o i h;rw[Dp,ih _ _ _ (by simp at h;omega),Array.getElem?_setIfInBounds,Ae (by simp at h;omega)]
theorem kN(vs:List As): ∀(cs:AO) (o j:Nat),o+vs.length≤cs.size→j<vs.length→(Dp cs o vs)[o+j]?=vs[j]?:=by
 induction vs with
 |nil=>intro cs o j _ h;simp at h
 |cons v r ih=>
  intro cs o j hs h
  cases j with
  |zero=>
   rw[Dp,Tu _ _ _ _ O];simp at hs;simp[Array.getElem?_setIfInBounds];omega
  |succ j=>
   rw[Dp,show o+(j+1)=o+1+j by omega,ih _ _ _ (by simp at hs⊢;omega) D7];simp
theorem Blk.setCells{g:Nat}{t:AN}(vs:List As): ∀{w:Aa} {cs:AO} (o:Nat),Blk w g t cs→Blk (w.setCells g o vs) g t (Dp cs o vs):=by
 induction vs with
 |nil=>intro w cs o h;exact h
 |cons v r ih=>intro w cs o h;exact ih (o+1) (h.set_ o v)
theorem Fr.setCells{S:AE}{a:Aa}{g:Nat}(vs:List As): ∀{w:Aa} (o:Nat),Fr S a w→S g∨↑a≤g→Fr S a (w.setCells g o vs):=by
 induction vs with
 |nil=>intro w o h _;exact h
 |cons v r ih=>intro w o h hg;exact ih (o+1) (h.setCell (p:=⟨g,o,G⟩) hg v) hg
theorem OW(vs:List As)(cs:AO)(n:Nat)(hn:vs.length=n)(hs:n≤cs.size):(Dp cs 0 vs).toList.take n=vs:=by
 apply List.ext_getElem?;intro i;by_cases hi:i<n;·rw[Dq hi,DV];have:=kN vs cs 0 i O O;rw[BW] at this;exact this
 ·rw[Ew AA,Ew O]
theorem Ly{k:IntKind}{w:Aa}{B n:Nat}{A:Aw}{zs:List Int}(h:IntsAt k w B A n zs):Reads w B 1 A n (zs.map (J k)):=by
 refine⟨by simpa using h.1,λhn=>?_⟩;obtain⟨b,off,e,hb,hc⟩:=h.2.2 hn;refine⟨_,e,hb,λj u hu=>?_⟩;have hj:j<zs.length:=by
  rcases DG j zs.length with h|h;·exact h
  ·rw[Ew D7] at hu;cases hu
 have e1:(⟨b,off,G⟩:Addr).add j=⟨b,off+j,G⟩:=OS;rw[e1,hc j (by have:=h.1;omega),←hu];simp[hj]
theorem GW{k:IntKind}{zs:List Int}: ∀u∈zs.map (J k),u.oneCell'=Ag:=by
 intro u hu;obtain⟨z,_,rfl⟩:=BS.1 hu;rfl
theorem EQ{w:Aa}{size n:Nat}{xs:List As}(h:w.ownsRow base e size v n xs)(hn:0<n): ∃g cap cur,v=.slice (I ⟨g,0,G⟩) n cap∧base≤g∧Blk w g e cur∧n≤cap∧cap≤BQ∧cur.size=cap*size∧cur.toList.take (n*size)=xs:=by
 rcases h.2 with⟨_,h0⟩|h;·omega
 ·exact h
end
section
def Cells(w:Aa)(g:Nat)(t:AN)(n:Nat)(f:Nat→As):Prop:= ∃cs,Blk w g t cs∧cs.size=n∧ ∀i,i<n→cs[i]?=I (f i)
def Bz(f:Nat→As)(i:Nat)(v:As):Nat→As:=λj=>if j=i then v else f j
def putR(f:Nat→As)(o:Nat)(vs:List As):Nat→As:=λj=>if o≤j∧j<o+vs.length then vs.getD (j -o) BY else f j
section
variable {w w':Aa} {g n:Nat} {t:AN} {f f':Nat→As}
theorem Cells.lt(h:Cells w g t n f):g<↑w:=by obtain⟨_,h,_⟩:=h;exact h.lt
theorem Cells.cell(h:Cells w g t n f)(i:Nat)(hi:i<n):w.cell? ⟨g,i,G⟩=I (f i):=by
 obtain⟨cs,h1,_,h3⟩:=h;rw[h1.cell i];exact h3 i hi
theorem Cells.frozen(h:Cells w g t n f)(i:Nat):w.frozen? ⟨g,i,G⟩=Ac:=by
 obtain⟨cs,h1,_⟩:=h;exact h1.frozen i
theorem Cells.drew(h:Cells w g t n f):Cells w.drew g t n f:=h
theorem Cells.alloc(h:Cells w g t n f)(o:Obj):Cells (w.alloc o) g t n f:=by
 obtain⟨cs,h1,h2⟩:=h;exact⟨cs,h1.alloc o,h2⟩
theorem Cells.far(h:Cells w g t n f){p:Addr}(hp:g≠p.block)(u:As):Cells (w.setCell p u) g t n f:=by
 obtain⟨cs,h1,h2⟩:=h;exact⟨cs,h1.far hp u,h2⟩
theorem Cells.fr{S:AE}(h:Cells w g t n f)(k:Fr S w w')(hn: ¬S g):Cells w' g t n f:=by
 obtain⟨cs,h1,h2⟩:=h;exact⟨cs,h1.fr k hn,h2⟩
theorem Cells.congr(h:Cells w g t n f)(e: ∀i,i<n→f i=f' i):Cells w g t n f':=by
 obtain⟨cs,h1,h2,h3⟩:=h;exact⟨cs,h1,h2,λi hi=>by rw[h3 i hi,e i hi]⟩
theorem Cells.set_(h:Cells w g t n f)(i:Nat)(v:As):Cells (w.setCell ⟨g,i,G⟩ v) g t n (Bz f i v):=by
 obtain⟨cs,h1,h2,h3⟩:=h;refine⟨_,h1.set_ i v,by simp[h2],λj hj=>?_⟩;rw[Array.getElem?_setIfInBounds];by_cases e:i=j;·subst e;simp[Bz,h2,hj]
 ·rw[Ae e,h3 j hj,Bz,Ae (λh=>e h.symm)]
theorem Uw(w:Aa)(g o:Nat)(v:As)(vs:List As):w.setCells g o (v::vs)=(w.setCell ⟨g,o,G⟩ v).setCells g (o+1) vs:=rfl
theorem kV(f:Nat→As)(o:Nat)(v:As)(vs:List As):putR (Bz f o v) (o+1) vs=putR f o (v::vs):=by
 funext j;unfold putR Bz;by_cases e:j=o;·subst e;rw[Ae O,An rfl,An AC];simp
 ·by_cases h:o+1≤j∧j<o+1+vs.length;·rw[An h,An AA,show j -o=(j -(o+1))+1 by omega];simp
  ·rw[Ae h,Ae e,Ae AA]
theorem Cells.setCells(vs:List As): ∀{w:Aa} {f:Nat→As} (o:Nat),Cells w g t n f→Cells (w.setCells g o vs) g t n (putR f o vs):=by
 induction vs with
 |nil=>intro w f o h;exact h.congr (λi _=>Uy)
 |cons v vs ih=>
  intro w f o h;rw[Uw,←kV];exact ih (o+1) (h.set_ o v)
theorem Fr.setRow{S:AE}{a:Aa}{g:Nat}(vs:List As): ∀{w:Aa} (o:Nat),Fr S a w→S g∨↑a≤g→Fr S a (w.setCells g o vs):=by
 induction vs with
 |nil=>intro w o h _;exact h
 |cons v vs ih=>
  intro w o h hg;rw[Uw];exact ih (o+1) (h.setCell (p:=⟨g,o,G⟩) hg v) hg
theorem Cells.rangeAt(h:Cells w g t n f)(o:Nat)(vs:List As)(hn:o+vs.length≤n)(e: ∀j,j<vs.length→vs[j]?=I (f (o+j))):w.rangeAt g o vs:=λj v hv=>by
 have hj:j<vs.length:=(List.getElem?_eq_some_iff.1 hv).1;rw[h.cell (o+j) O,←hv,e j hj]
theorem Cells.there(h:Cells w g t n f)(o k:Nat)(hn:o+k≤n):w.there g o k:=λj hj=>
 ⟨by rw[h.cell (o+j) (by omega)];rfl,h.frozen _⟩
theorem Cells.new(w:Aa)(t:AN)(cs:AO)(f:Nat→As)(h: ∀i,i<cs.size→cs[i]?=I (f i)):Cells (w.alloc (.cells cs t)) ↑w t cs.size f:=⟨cs,AI _ _ _,rfl,h⟩
theorem Cells.new'(w:Aa)(t:AN)(cs:AO)(n:Nat)(f:Nat→As)(h:cs.toList=(Cl n).map f):Cells (w.alloc (.cells cs t)) ↑w t n f:=by
 refine⟨cs,AI _ _ _,by rw[←Array.length_toList,h];simp,λi hi=>?_⟩;rw[←DV,h];simp[hi]
theorem Cells.ne{g' n':Nat}{t':AN}{f':Nat→As}(h:Cells w g t n f)(h':Cells w g' t' n' f')(hne:t≠t'):g≠g':=by
 rintro rfl;obtain⟨cs,h1,_⟩:=h;obtain⟨cs',h1',_⟩:=h';unfold Blk at h1 h1';rw[h1] at h1';injection h1' with e;injection e with _ e2;exact hne e2
end
theorem Uz{P:CF}(w:Aa)(t e:AN)(n:Nat)(cs:List As)(i:Nat)(v:As)(d:TypeDesc)(h:P.underlying t=I (.array n e))(hi:i<n)(hu:P.underlying e=I d)(hd:d.isRow=Ac)(hs:(P.info? e).map (·.size)=I 1)(hv:cs[i]?=I v)(k:IntKind):(Instr.index t (A9 cs.toArray) (J k (i:Int))).run P w=.ok v w:=by
 cases hq:P.info? e with
 |none=>simp[hq] at hs
 |some inf=>
  have hs':inf.size=1:=by simpa[hq] using hs
  have hagg:(isAgg e).run P w=.ok Ac w:=by
   unfold isAgg;rw[GT,Fe hu w]
   cases d<;>simp_all
  simp[Instr.index,Fe h,asIntOf,hi,part,GT,hagg,sizeOf,typeInfo,hq,hs',hv]
def LG:=@Cells.alloc
end
section
section
variable {S:AE} {w w':Aa} {t:AN} {g:Nat} {a b c d x y:As}
end
theorem Fr.inl2{a b:Nat}{w w':Aa}(f:Fr (· =a) w w'):Fr (λk=>k=a∨k=b) w w':=f.mono λ_ _ e=> Af e
theorem Fr.none{S:AE}{w w':Aa}(f:Fr Aj w w'):Fr S w w':=f.mono λ_ _ e=>e.elim
end
namespace Fm
structure Pl where
 own:Nat→Int
 prom:Nat→Int
 byt:Nat→Int
def Ib(s:Pl)(i:Nat):As:=if i<16384 then J AB (s.byt i) else if i<16640 then J U (s.own (i -16384)) else J U (s.prom (i -16640))
def Bu(f:Nat→Int)(k:Nat)(v:Int):Nat→Int:=λj=>if j=k then v else f j
theorem LH(f:Nat→Int)(k:Nat)(v:Int):Bu f k v k=v:=by simp[Bu]
theorem PA(f:Nat→Int){k j:Nat}(v:Int)(h:j≠k):Bu f k v j=f j:=by simp[Bu,h]
def Pl.setOwn(s:Pl)(f:Nat)(o:Int):Pl:={s with own:=Bu s.own f o}
def Pl.setProm(s:Pl)(o:Nat)(n:Int):Pl:={s with prom:=Bu s.prom o n}
def Pl.setByt(s:Pl)(i:Nat)(b:Int):Pl:={s with byt:=Bu s.byt i b}
def Pl.wipe(s:Pl)(f:Nat):Pl:={s with byt:=λi=>if f*64≤i∧i<f*64+64 then 0 else s.byt i}
def Pl.new:Pl:=⟨λ_=> -1,λ_=> -1,λ_=>0⟩
structure Pl.Ok(s:Pl):Prop where
 own: ∀f,f<256→ -1≤s.own f∧s.own f<4
 prom: ∀o,o<4→ -1≤s.prom o∧s.prom o≤64
def Pool(w:Aa)(g:Nat)(s:Pl):Prop:=Cells w g 95 16644 (Ib s)
section
variable {w w':Aa} {g:Nat} {s:Pl} {S:AE}
theorem Pool.fr(h:Pool w g s)(f:Fr S w w')(hn: ¬S g):Pool w' g s:=Cells.fr h f hn
theorem Pool.lt(h:Pool w g s):g<↑w:=Cells.lt h
theorem Pool.drew(h:Pool w g s):Pool w.drew g s:=h
theorem Pool.alloc(h:Pool w g s)(o:Obj):Pool (w.alloc o) g s:=LG h o
theorem Pool.cOwn(h:Pool w g s)(f:Nat)(hf:f<256):w.cell? ⟨g,16384+f,G⟩=I (J U (s.own f)):=by
 rw[Cells.cell h _ O,Ib,Ae O,An O,show 16384+f -16384=f by omega]
theorem Pool.cProm(h:Pool w g s)(o:Nat)(ho:o<4):w.cell? ⟨g,16640+o,G⟩=I (J U (s.prom o)):=by
 rw[Cells.cell h _ O,Ib,Ae O,Ae O,show 16640+o -16640=o by omega]
theorem Pool.cByt(h:Pool w g s)(i:Nat)(hi:i<16384):w.cell? ⟨g,i,G⟩=I (J AB (s.byt i)):=by
 rw[Cells.cell h _ O,Ib,An hi]
theorem Pool.setOwn(h:Pool w g s)(f:Nat)(hf:f<256)(o:Int):Pool (w.setCell ⟨g,16384+f,G⟩ (J U o)) g (s.setOwn f o):=by
 refine Cells.congr (Cells.set_ h _ _) (λi hi=>?_);unfold Bz Ib Pl.setOwn Bu;by_cases e:i=16384+f;·rw[An e,Ae O,An O];dsimp only;rw[An O]
 ·rw[Ae e];by_cases h1:i<16384;·rw[An h1,An h1]
  ·by_cases h2:i<16640;·rw[Ae h1,An h2,Ae h1,An h2];dsimp only;exact Nu
   ·rw[Ae h1,Ae h2,Ae h1,Ae h2]
theorem Pool.setProm(h:Pool w g s)(o:Nat)(ho:o<4)(n:Int):Pool (w.setCell ⟨g,16640+o,G⟩ (J U n)) g (s.setProm o n):=by
 refine Cells.congr (Cells.set_ h _ _) (λi hi=>?_);unfold Bz Ib Pl.setProm Bu;by_cases e:i=16640+o;·rw[An e,Ae O,Ae O];dsimp only;rw[An O]
 ·rw[Ae e];by_cases h1:i<16384;·rw[An h1,An h1]
  ·by_cases h2:i<16640;·rw[Ae h1,An h2,Ae h1,An h2]
   ·rw[Ae h1,Ae h2,Ae h1,Ae h2];dsimp only;exact Nu
theorem Pool.setByt(h:Pool w g s)(j:Nat)(hj:j<16384)(b:Int):Pool (w.setCell ⟨g,j,G⟩ (J AB b)) g (s.setByt j b):=by
 refine Cells.congr (Cells.set_ h _ _) (λi hi=>?_);unfold Bz Ib Pl.setByt Bu;by_cases e:i=j;·rw[An e,An O];dsimp only;rw[An e]
 ·exact U0
theorem Pool.wipe(h:Pool w g s)(f:Nat)(hf:f<256):Pool (w.setCells g (f*64) (DL 64 (J AB 0))) g (s.wipe f):=by
 refine Cells.congr (Cells.setCells _ _ h) (λi hi=>?_);unfold putR Ib Pl.wipe;rw[List.length_replicate];by_cases e:f*64≤i∧i<f*64+64;·rw[An e,An O];dsimp only;rw[An e,AS,List.getElem?_replicate,An O];rfl
 ·exact U0
end
def isO(o:Int):Bool:=decide (0≤o∧o<4)
def isF(f:Int):Bool:=decide (16≤f∧f<256)
theorem is_any(w:Aa)(o:Int):At Tryz.prog 81 #[J U o] w λe w'=>e=Ax (Ap (isO o))∧w=w':=by
 by_cases h0:0≤o
 ·by_cases h1:o<4
  ·have hb:isO o=Ag:=by simp[isO,h0,h1]
   exact Kz
  ·have hb:isO o=Ac:=by simp[isO,h1]
   have h1':decide (o<4)=Ac:=Dh;exact Kz
 ·have hb:isO o=Ac:=by simp[isO,h0]
  have h0':decide (0≤o)=Ac:=JE;exact Kz
theorem frame_any(w:Aa)(f:Int):At Tryz.prog 105 #[J U f] w λe w'=>e=Ax (Ap (isF f))∧w=w':=by
 by_cases h0:16≤f
 ·by_cases h1:f<256
  ·have hb:isF f=Ag:=by simp[isF,h0,h1]
   exact Kz
  ·have hb:isF f=Ac:=by simp[isF,h1]
   have h1':decide (f<256)=Ac:=Dh;exact Kz
 ·have hb:isF f=Ac:=by simp[isF,h0]
  have h0':decide (16≤f)=Ac:=JE;exact Kz
def Fl(s:Pl)(f:Int):Bool:=isF f&&(s.own f.toNat != -1)
def JF(s:Pl)(f:Int):Int:=if Fl s f then s.own f.toNat else 0
theorem kW(w:Aa)(g:Nat)(s:Pl)(f:Int)(h:Pool w g s):At Tryz.prog 85 #[↑g,J U f] w λe w'=>e=Ax (AF #[J U (JF s f),Ap (Fl s f)])∧w=w':=by
 have hf:=λw=>frame_any w f;have Hf:=T hf;clear hf;by_cases h1:isF f=Ag
 ·obtain⟨h2,h3⟩:16≤f∧f<256:=by simpa[isF] using h1
  obtain⟨k,rfl⟩: ∃k:Nat,f=k:=⟨f.toNat,O⟩;have c:=h.cOwn k O;rw[h1] at Hf;by_cases h4:s.own k= -1
  ·have e1:Fl s k=Ac:=by simp[Fl,h4]
   have e2:JF s k=0:=by simp[JF,e1]
   rw[e1,e2];clear e1 e2 h1;rw[h4] at c;exact PB
  ·have e1:Fl s k=Ag:=by simp[Fl,h4,h1]
   have e2:JF s k=s.own k:=by simp[JF,e1]
   rw[e1,e2];have h4':(s.own k== -1)=Ac:=by simpa using h4
   clear e1 e2 h1 h4;exact PB
 ·have h1:isF f=Ac:=Dh;have e1:Fl s f=Ac:=by simp[Fl,h1]
  have e2:JF s f=0:=by simp[JF,e1]
  rw[e1,e2];rw[h1] at Hf;clear e1 e2 h1;exact PB
end Fm
namespace Fm
def DB(s:Pl)(f a:Int):Bool:=Fl s f&&decide (0≤a∧a<64)
theorem ownB_in{s:Pl}{f:Int}(h:Fl s f=Ag):16≤f∧f<256:=by
 simp[Fl,isF] at h;exact h.1
theorem U1(w:Aa)(g:Nat)(s:Pl)(f a:Int)(h:Pool w g s):At Tryz.prog 68 #[↑g,J U f,J U a] w λe w'=>e=Ax (Ap (DB s f a))∧w=w':=by
 have ho:=T (kW w g s f h)
 cases hb:Fl s f
 ·have e1:DB s f a=Ac:=by simp[DB,hb]
  rw[e1];have hv:=ho.out;rw[hb] at hv;have Hv:=T hv;clear hv hb e1 ho;go_in;go_wp2_with fail;refine Az Hv ?_;exact LJ
 ·have hv:=ho.out;rw[hb] at hv;have Hv:=T hv;clear hv ho;by_cases h0:0≤a
  ·by_cases h1:a<64
   ·have e1:DB s f a=Ag:=by simp[DB,hb,h0,h1]
    exact PC
   ·have e1:DB s f a=Ac:=by simp[DB,h1]
    have h1':decide (a<64)=Ac:=Dh;exact PC
  ·have e1:DB s f a=Ac:=by simp[DB,h0]
   have h0':decide (0≤a)=Ac:=JE;exact PC
theorem U2{s:Pl}{f a:Int}(h:DB s f a=Ag): ∃k j:Nat,f=k∧a=j∧16≤k∧k<256∧j<64:=by
 simp[DB] at h;obtain⟨h1,h2,h3⟩:=h;have:=ownB_in h1;exact⟨f.toNat,a.toNat,O,O,O,O,O⟩
def JG(s:Pl)(f a:Int):Int:=if DB s f a then s.byt (f.toNat*64+a.toNat) else 0
theorem byte_any(w:Aa)(g:Nat)(s:Pl)(f a:Int)(h:Pool w g s):At Tryz.prog 52 #[↑g,J U f,J U a] w λe w'=>e=Ax (AF #[J AB (JG s f a),Ap (DB s f a)])∧w=w':=by
 have hh:=T (U1 w g s f a h)
 cases hb:DB s f a
 ·have e1:JG s f a=0:=by simp[JG,hb]
  rw[e1];have hv:=hh.out;rw[hb] at hv;have Hv:=T hv;exact U3
 ·have e1:JG s f a=s.byt (f.toNat*64+a.toNat):=by simp[JG,hb]
  rw[e1];have hv:=hh.out;rw[hb] at hv;have Hv:=T hv;obtain⟨k,j,rfl,rfl,h1,h2,h3⟩:=U2 hb;have c:=h.cByt (k*64+j) O;exact U3
def Pl.putB(s:Pl)(f a b:Int):Pl:=if DB s f a then s.setByt (f.toNat*64+a.toNat) b else s
theorem put_any(w:Aa)(g:Nat)(s:Pl)(f a b:Int)(h:Pool w g s):At Tryz.prog 84 #[↑g,J U f,J U a,J AB b] w λe w'=>e=Ax (Ap (DB s f a))∧Pool w' g (s.putB f a b)∧Fr (· =g) w w':=by
 have hh:=T (U1 w g s f a h)
 cases hb:DB s f a
 ·have e1:s.putB f a b=s:=by simp[Pl.putB,hb]
  rw[e1];have hv:=hh.out;rw[hb] at hv;have Hv:=T hv;clear hv hb e1 hh;go_in;go_wp2_with fail;refine Az Hv ?_;exact PD
 ·have e1:s.putB f a b=s.setByt (f.toNat*64+a.toNat) b:=by simp[Pl.putB,hb]
  rw[e1];have hv:=hh.out;rw[hb] at hv;have Hv:=T hv;obtain⟨k,j,rfl,rfl,h1,h2,h3⟩:=U2 hb;have c:=h.cByt (k*64+j) O;have z:=Cells.frozen h (k*64+j);have hp:=h.setByt (k*64+j) O b;clear hv hb e1 hh;go_in;go_wp2_with fail;refine Az Hv ?_;rintro e w' ⟨rfl,rfl⟩
  go_wp2
  go_ret;exact⟨rfl,hp,Br _ _ _ _⟩
end Fm
namespace Fm
def pz:List As:=DL 16384 (J AB 0)++DL 260 (J U 0)
def pza:AO:=pz.toArray
set_option maxRecDepth 1000000 in
theorem zeroPool:(Tryz.prog.info? 95).bind (·.zero)=I (A9 pza):=AL
theorem kX(W:Aa):(zeroValue 95).run Tryz.prog W=.ok (A9 pza) W:=by
 have h:=zeroPool
 cases hi:Tryz.prog.info? 95 with
 |none=>rw[hi] at h;cases h
 |some i=>
  rw[hi] at h;have h':i.zero=I (A9 pza):=h;exact PE
def Jj(k:Nat):Pl:=⟨λj=>if j<k then -1 else 0,λ_=>0,λ_=>0⟩
def Jk(k:Nat):Pl:=⟨λ_=> -1,λj=>if j<k then -1 else 0,λ_=>0⟩
theorem pool0(w:Aa):Pool (w.alloc (.cells pza 95)) ↑w (Jj 0):=by
 refine⟨pza,AI _ _ _,by unfold pza pz;rw[List.size_toArray,Cq,List.length_replicate,List.length_replicate],λi hi=>?_⟩;unfold pza pz Ib Jj;rw[List.getElem?_toArray];by_cases h1:i<16384;·rw[An h1,Ff (by rw[List.length_replicate];exact h1),List.getElem?_replicate,An h1]
 ·rw[Ae h1,Ex (by rw[List.length_replicate];omega),List.length_replicate,List.getElem?_replicate,An O];have e0: ∀j:Nat,(if j<0 then(-1:Int) else 0)=0:=λj=>by rw[Ae (Nat.not_lt_zero j)]
  simp only[e0];by_cases h2:i<16640;·rw[An h2]
  ·rw[Ae h2]
theorem kY(k:Nat):(Jj k).setOwn k (-1)=Jj (k+1):=by
 unfold Jj Pl.setOwn Bu;exact PF
theorem kZ(k:Nat):(Jk k).setProm k (-1)=Jk (k+1):=by
 unfold Jk Pl.setProm Bu;exact PF
theorem Pool.congr{w:Aa}{g:Nat}{s s':Pl}(h:Pool w g s)(h1: ∀f,f<256→s.own f=s'.own f)(h2: ∀o,o<4→s.prom o=s'.prom o)(h3: ∀i,i<16384→s.byt i=s'.byt i):Pool w g s':=by
 refine Cells.congr h (λi hi=>?_);unfold Ib;by_cases e1:i<16384;·rw[An e1,An e1,h3 i e1]
 ·by_cases e2:i<16640;·rw[Ae e1,An e2,Ae e1,An e2,h1 _ O]
  ·rw[Ae e1,Ae e2,Ae e1,Ae e2,h2 _ O]
set_option maxRecDepth 100000 in
theorem new_any(w:Aa):At Tryz.prog 29 #[] w λe w'=>e=Ax (Bm (I ⟨↑w,0,G⟩))∧Pool w' ↑w Pl.new∧Fr Aj w w':=by
 have hz:=kX;go_in;go_wp2_with fail;clear hz;go_loopw [2,6] (λ_ i wr=> ∃k:Nat,k≤256∧i=J U k∧Pool wr ↑w (Jj k)∧Fr Aj w wr) (λ_ i _=>256 -(AM i).toNat)
 case atStart=>exact⟨0,O,rfl,pool0 w,(Ao _ _).alloc _⟩
 case round=>
  obtain⟨k,hk,rfl,hP,fr⟩:=hrel;by_cases hlt:k<256;·have c:=hP.cOwn k hlt;have z:=Cells.frozen hP (16384+k);have hp:=hP.setOwn k hlt (-1);rw[kY] at hp;have fr2:=fr.setCell (p:=⟨↑w,16384+k,G⟩) (Ah (AD _)) (J U (-1));exact U4
  ·have e:k=256:=O;subst e;have hP:Pool wr ↑w (Jk 0):=hP.congr (λf hf=>by simp[Jj,Jk,hf]) (λo ho=>by simp[Jj,Jk]) (λi hi=>rfl);go_wp2_with fail;go_loopw [3,15] (λ_ i wr=> ∃k:Nat,k≤4∧i=J U k∧Pool wr ↑w (Jk k)∧Fr Aj w wr) (λ_ i _=>4 -(AM i).toNat)
   case atStart=>exact⟨0,O,rfl,hP,fr⟩
   case round=>
    clear hP fr;obtain⟨k,hk,rfl,hP,fr⟩:=hrel;by_cases hlt:k<4;·have c:=hP.cProm k hlt;have z:=Cells.frozen hP (16640+k);have hp:=hP.setProm k hlt (-1);rw[kZ] at hp;have fr2:=fr.setCell (p:=⟨↑w,16640+k,G⟩) (Ah (AD _)) (J U (-1));exact U4
    ·have e:k=4:=O;subst e
     go_wp2
     go_ret;exact⟨rfl,hP.congr (λf hf=>rfl) (λo ho=>by simp[Jk,Pl.new,ho]) (λi hi=>rfl),fr⟩
theorem new_ok:Pl.new.Ok:=⟨λf hf=>by simp[Pl.new],λo ho=>by simp[Pl.new]⟩
def EB(s:Pl)(o:Int)(k:Nat):List Int:=((Cl k).filter λf=>s.own f==o).map Int.ofNat
theorem U5(s:Pl)(o:Int)(k:Nat):(EB s o k).length≤k:=by
 unfold EB;exact U6
theorem l9(s:Pl)(o:Int)(k:Nat)(h:s.own k=o):EB s o (k+1)=EB s o k++[(k:Int)]:=U7
theorem heldN_no(s:Pl)(o:Int)(k:Nat)(h: ¬s.own k=o):EB s o (k+1)=EB s o k:=U7
def held(s:Pl)(o:Int):List Int:=if isO o then EB s o 256 else[]
def JH(l:List Int):List As:=l.map (J U)
theorem PG:(Tryz.prog.info? 3).map (λi=>(i.zero,i.size,i.bytes))=I (I (J U 0),1,8):=AL
def LL(w:Aa)(base:Nat)(l:List Int)(e:AY)(w':Aa):Prop:=
 ∃v,e=Ax v∧w'.ownsRow base 3 1 v l.length (JH l)∧Fr Aj w w'∧(∀k,v.ownBlock=I k→w.heap.size≤k)
set_option maxRecDepth 100000 in
theorem held_any(w:Aa)(g:Nat)(s:Pl)(o:Int)(h:Pool w g s)(base:Nat)(hb:base≤↑w):At Tryz.prog 133 #[↑g,J U o] w (LL w base (held s o)):=by
 obtain⟨i0,hi0,hz0,hz1,hz2⟩:=Cj PG;have hf:=λw=>is_any w o;have Hf:=T hf;clear hf
 cases hb:isO o
 ·have hG:LL w base (held s o) (Ax (Z G 0 0)) w:=by
   have e:held s o=[]:=by simp[held,hb]
   rw[e];exact⟨_,rfl,⟨rfl,Af ⟨rfl,rfl⟩⟩,Ao _ _,λk hk=>Jl⟩
  rw[hb] at Hf;have HG:=T hG;clear hb hG;go_in;go_wp2_with fail;refine(Hf.out _).mono ?_;rintro e w' ⟨rfl,rfl⟩
  go_wp2
  go_ret;exact HG.out
 ·have he:held s o=EB s o 256:=by simp[held,hb]
  rw[he];rw[hb] at Hf;clear hb he;go_in;go_wp2_with fail;refine(Hf.out _).mono ?_;rintro e w' ⟨rfl,rfl⟩;go_wp2_with fail;go_loopw [5,11] (λv i wr=> ∃k:Nat,k≤256∧i=J U k∧wr.ownsRow base 3 1 v (EB s o k).length (JH (EB s o k))∧Fr Aj w wr∧(∀b,v.ownBlock=I b→w.heap.size≤b)) (λ_ i _=>256 -(AM i).toNat)
  case atStart=>exact⟨0,O,rfl,⟨rfl,Af ⟨rfl,rfl⟩⟩,Ao _ _,λk hk=>Jl⟩
  case round=>
   obtain⟨k,hk,rfl,hown,fr,hat⟩:=hrel;by_cases hlt:k<256
   ·have c:=(h.fr fr id).cOwn k hlt;have hle:=U5 s o k;have hbs:=Bf hb fr.size;by_cases ho:s.own k=o
    ·have Hs:=T (l9 s o k ho);rw[ho] at c;have hown':=DU hown (.cells #[J U (k:Int)] 3);clear ho;generalize EB s o k=l at*;go_wp2_with
      (at_builtin
       refine CU _ rfl (.tmp 22) (.tmp 24) _ rfl base 3 i0 _ 1 8 FV hi0 hz0 hz1 hz2 rfl O u5 l.length (JH l) rfl hown' (wr.heap.size+1) (I ⟨wr.heap.size,0,G⟩) 1 1 [J U (k:Int)] rfl (Do (AI _ _ _) rfl) Ei Cc O AA ?_
       intro v1 w1 hown1 hg1 hat1)
     exact U8
    ·have Hs:=T (heldN_no s o k ho);have ho':(s.own k==o)=Ac:=by simpa using ho
     clear ho;generalize EB s o k=l at*;exact U9
   ·have e:k=256:=O;subst e;have hG:LL w base (EB s o 256) (Ax u5) wr:=⟨_,rfl,hown,fr,hat⟩;exact UA
end Fm
namespace Fm
def DM(s:Pl):Nat→Int
 |0=>0
 |k+1=>DM s k+max (s.prom k) 0
theorem sumP_bd{s:Pl}(h:s.Ok): ∀k,k≤4→0≤DM s k∧DM s k≤64*k:=by
 intro k
 induction k with
 |zero=>intro _;simp[DM]
 |succ k ih=>
  intro hk;have:=ih O;have:=h.prom k O;rw[DM];omega
def DY(s:Pl)(o n:Int):Int:=
 if isO o=Ac∨n<0∨64<n then 1 else if s.prom o.toNat≠ -1 then 24 else if 240<n+DM s 4 then 13 else 0
def Pl.promise(s:Pl)(o n:Int):Pl:=if DY s o n=0 then s.setProm o.toNat n else s
theorem lC{s:Pl}(h:s.Ok)(o n:Int):(s.promise o n).Ok:=by
 unfold Pl.promise;split
 ·rename_i hr
  have hn:isO o=Ag∧0≤n∧n≤64:=by
   unfold DY at hr;split at hr;·omega
   ·rename_i hh;simp at hh;exact hh
  refine⟨h.own,λk hk=>?_⟩;unfold Pl.setProm Bu;dsimp only;split;·omega
  ·exact h.prom k hk
 ·exact h
def KA(s:Pl):List As:=[J U (s.prom 0),J U (s.prom 1),J U (s.prom 2),J U (s.prom 3)]
theorem UB(s:Pl)(k:Nat)(hk:k<4):(KA s)[k]?=I (J U (s.prom k)):=by
 rcases(by omega:k=0∨k=1∨k=2∨k=3) with rfl|rfl|rfl|rfl<;>rfl
set_option maxRecDepth 100000 in
theorem lD(w:Aa)(g:Nat)(s:Pl)(o n:Int)(h:Pool w g s)(hok:s.Ok)(hn0: -9223372036854775808≤n)(hn1:n≤9223372036854775807):At Tryz.prog 58 #[↑g,J U o,J U n] w λe w'=>e=Ax (J U (DY s o n))∧Pool w' g (s.promise o n)∧Fr (· =g) w w':=by
 have hf:=λw=>is_any w o;have Hf:=T hf;clear hf
 cases hb:isO o
 ·have e1:DY s o n=1:=by simp[DY,hb]
  have e2:=PH;rw[e1,e2];rw[hb] at Hf;exact UC
 ·rw[hb] at Hf;by_cases hn:n<0
  ·have e1:DY s o n=1:=by simp[DY,hn]
   have e2:=PH;rw[e1,e2];exact UC
  ·by_cases hn2:64<n
   ·have e1:DY s o n=1:=by simp[DY,hn2]
    have e2:=PH;rw[e1,e2];have hn':=PJ;clear hb e1 e2 hn;exact UD
   ·obtain⟨ho1,ho2⟩:0≤o∧o<4:=by simpa[isO] using hb
    obtain⟨k,rfl⟩: ∃k:Nat,o=k:=⟨o.toNat,O⟩;have hk4:k<4:=O;have c:=h.cProm k hk4;have z:=Cells.frozen h (16640+k);by_cases hp:s.prom k= -1
    ·have hr:w.rangeAt g 16640 (KA s):=Cells.rangeAt h 16640 _ (by simp[KA]) (λj hj=>by
      have hj4:j<4:=by simpa[KA] using hj
      rw[UB s j hj4,Ib,Ae O,Ae O,show 16640+j -16640=j by omega])
     have hix: ∀(j:Nat),j<4→ ∀w,(Instr.index 93 (A9 (KA s).toArray) (J U (j:Int))).run Tryz.prog w=.ok (J U (s.prom j)) w:=λj hj w=>
      Uz w _ 3 4 _ j _ _ Tryz.underlying93 hj Tryz.underlying3 rfl AL (UB s j hj) U
     have Hix:=T hix;have hinf:(Tryz.prog.info? 93).map (·.size)=I (KA s).length:=AL;have hbd:=sumP_bd hok;have Hbd:=T hbd;have hpw:=h.setProm k hk4 n;have Hpw:=T hpw;have e1:DY s k n=if 240<n+DM s 4 then 13 else 0:=by simp[DY,hb,hn,hn2,hp]
     have E1:=T e1;have E2:=T (show s.promise k n=if 240<n+DM s 4 then s else s.setProm k n by
      unfold Pl.promise;rw[e1];by_cases hh:240<n+DM s 4;·rw[An hh,An hh,Ae O]
      ·rw[Ae hh,Ae hh,An rfl];rfl)
     have hn':=PJ;have hn2':decide (64<n)=Ac:=by simpa using hn2
     have hn3:0≤n:=O;have hn4:n≤64:=O;rw[hp] at c;clear hix hbd hpw e1 hp hb hn hn2;go_in;go_wp2_with fail;refine(Hf.out _).mono ?_;rintro e w' ⟨rfl,rfl⟩;go_wp2_with (refine wpList_load_mid rfl 93 (.tmp 33) rfl g 16640 rfl _ _ hr Tryz.underlying93 rfl hinf ?_);clear hr hinf
     go_loop [7,35] (λa i=> ∃j:Nat,j≤4∧i=J U j∧a=J U (n+DM s j)) (λ_ i=>4 -(AM i).toNat)
     case atStart=>exact⟨0,O,rfl,by simp[DM]⟩
     case round=>
      obtain⟨j,hj,rfl,rfl⟩:=hrel;by_cases hlt:j<4
      ·have hi:=Hix.out j hlt;obtain⟨hb0,hb1⟩:=Hbd.out j hj;have hpj:=hok.prom j hlt;have Hs:=T (show DM s (j+1)=DM s j+max (s.prom j) 0 from rfl);generalize DM s j=sj at*;generalize s.prom j=pj at*;go_wp2_with fail
       all_goals
        go_round
        case rel=>exact⟨j+1,O,Bn,by rw[Hs.out];congr 1;omega⟩
        case measure=>simp[AM];omega
      ·have e4:j=4:=O;subst e4;obtain⟨hb0,hb1⟩:=Hbd.out 4 O;generalize DM s 4=s4 at*;by_cases hh:240<n+s4
       ·have H1:=T (E1.out.trans (An hh));have H2:=T (E2.out.trans (An hh))
        go_wp2
        go_ret;exact⟨by rw[H1.out];rfl,by rw[H2.out];exact h,Ao _ _⟩
       ·have H1:=T (E1.out.trans (Ae hh));have H2:=T (E2.out.trans (Ae hh))
        go_wp2
        go_ret;exact⟨by rw[H1.out];rfl,by rw[H2.out];exact Hpw.out,Br _ _ _ _⟩
    ·have e1:DY s k n=24:=by simp[DY,hb,hn,hn2,hp]
     have e2:s.promise k n=s:=by simp[Pl.promise,e1]
     rw[e1,e2];have hn':=PJ;have hn2':decide (64<n)=Ac:=by simpa using hn2
     have hp':(s.prom k != -1)=Ag:=LM;clear hb e1 e2 hn hn2 hp;exact UD
end Fm
namespace Fm
theorem UE{w:Aa}{base n:Nat}{e:AN}{v:As}{xs:List As}(h:w.ownsRow base e 1 v n xs): ∃A cap,v=Z A n cap:=by
 rcases h.2 with⟨rfl,rfl⟩|⟨g,cap,cur,rfl,_⟩;·exact⟨G,0,rfl⟩
 ·exact⟨_,cap,rfl⟩
def LO(s:Pl)(k:Nat):Prop:= ∀j,16≤j→j<k→s.own j≠ -1
def FY(s:Pl):Option Nat:=(Cl 256).find? λf=>decide (16≤f)&&s.own f== -1
variable{s:Pl}
theorem lE{k:Nat}(h:LO s k)(h16:16≤k)(hk:k<256)(ho:s.own k= -1):FY s=I k:=by
 unfold FY;rw[List.find?_range_eq_some];refine⟨by simp[h16,ho],by simpa using hk,λj hj=>?_⟩;by_cases h1:16≤j;·have:=h j h1 hj;simp[this]
 ·simp[h1]
theorem lF(h:LO s 256):FY s=G:=by
 unfold FY;rw[List.find?_eq_none];intro j hj;have hj2:j<256:=by simpa using hj
 by_cases h1:16≤j;·have:=h j h1 hj2;simp[this]
 ·simp[h1]
theorem lG{k:Nat}(h:FY s=I k):16≤k∧k<256∧s.own k= -1∧LO s k:=by
 unfold FY at h;rw[List.find?_range_eq_some] at h;obtain⟨h1,h2,h3⟩:=h;simp at h1 h2;refine⟨h1.1,h2,h1.2,λj h16 hj=>?_⟩;have:=h3 j hj;simpa[h16] using this
def GB(s:Pl)(o:Int):Bool:=isO o&&decide (((held s o).length:Int)<s.prom o.toNat)
def DZ(s:Pl)(o:Int):Option Nat:=if GB s o then FY s else G
def DC(s:Pl)(o:Int):Int:=if isO o=Ac then 1 else if(DZ s o).isSome then 0 else 13
def Pl.take(s:Pl)(o:Int):Pl:=match DZ s o with
 |some f=>(s.setOwn f o).wipe f
 |none=>s
def EC(s:Pl)(o:Int):Int:=match DZ s o with
 |some f=>(f:Int)
 |none=>0
theorem take_ok(h:s.Ok)(o:Int):(s.take o).Ok:=by
 unfold Pl.take;split
 ·rename_i f hf
  have ho:0≤o∧o<4:=by
   unfold DZ at hf;split at hf
   ·rename_i hm
    simp[GB,isO] at hm;exact hm.1
   ·cases hf
  refine⟨λk hk=>?_,h.prom⟩;unfold Pl.wipe Pl.setOwn Bu;dsimp only;split;·omega
  ·exact h.own k hk
 ·exact h
def z64:AO:=(DL 64 (J AB 0)).toArray
theorem held_len(s:Pl)(o:Int):(held s o).length≤256:=by
 unfold held;split;·exact U5 s o 256
 ·simp
set_option maxRecDepth 100000 in
theorem take_any(w:Aa)(g:Nat)(s:Pl)(o:Int)(h:Pool w g s)(hok:s.Ok):At Tryz.prog 104 #[↑g,J U o] w λe w'=>e=Ax (AF #[J U (EC s o),J U (DC s o)])∧Pool w' g (s.take o)∧Fr (· =g) w w':=by
 have hf:=λw=>is_any w o;have Hf:=T hf;clear hf
 cases hb:isO o
 ·have e0:DZ s o=G:=by simp[DZ,GB,hb]
  have e1:EC s o=0:=Nv;have e2:DC s o=1:=by simp[DC,hb]
  have e3:s.take o=s:=Nw;rw[e1,e2,e3];rw[hb] at Hf;clear hb e0 e1 e2 e3;go_in;go_wp2_with fail;refine(Hf.out _).mono ?_;rintro e w' ⟨rfl,rfl⟩
  go_wp2
  go_ret2;exact⟨rfl,h,Ao _ _⟩
 ·rw[hb] at Hf;obtain⟨ho1,ho2⟩:0≤o∧o<4:=by simpa[isO] using hb
  obtain⟨m,rfl⟩: ∃k:Nat,o=k:=⟨o.toNat,O⟩;have hm4:m<4:=O;have c:=h.cProm m hm4;have hlt:=h.lt;have hheld:=T (held_any w.drew g s m (h.drew) ↑w (AD _));have hhl:=held_len s m;have hmt:GB s m=decide (((held s m).length:Int)<s.prom m):=by simp[GB,hb]
  have hpm:=hok.prom m hm4;obtain⟨hp0,hp1⟩:=hpm;by_cases hfull:((held s m).length:Int)<s.prom m
  ·have hmt:GB s m=Ag:=by rw[hmt];simpa using hfull
   have eF:DZ s m=FY s:=by rw[DZ,An hmt]
   have EF:=T eF;have HB:=T hb;clear eF hmt hb;generalize hq:(held s m).length=hn at*;have Hhl:=T hq;clear hq;go_in;go_wp2_with fail;refine(Hf.out _).mono ?_;rintro e w' ⟨rfl,rfl⟩;go_wp2_with fail
   go_region_with ((go_at_call 133;refine Az hheld ?_;rintro e w1 ⟨v,rfl,ho5,f5,k5⟩;rw[Hhl.out] at ho5;have c5:=f5.cell (w:=w.drew) c hlt id;obtain⟨A5,cap5,hv5⟩:=UE ho5;subst hv5))
   all_goals
    have hP1:Pool w1 g s:=h.drew.fr f5 id;have fr1:=UF;go_wp2_with fail
    go_loop [6] (λi=> ∃k:Nat,16≤k∧k≤256∧i=J U k∧LO s k) (λi=>256 -(AM i).toNat)
    case atStart=>exact⟨16,O,O,rfl,λj h1 h2=>O⟩
    case round=>
     obtain⟨k,h16,hk,rfl,hNF⟩:=hrel;by_cases hlt2:k<256
     ·have c:=hP1.cOwn k hlt2;by_cases ho:s.own k= -1
      ·have z:=Cells.frozen hP1 (16384+k);have hp1:=hP1.setOwn k hlt2 m;have hth:=Cells.there hp1 (k*64) z64.size (by simp[z64];omega);have hinf:(Tryz.prog.info? 90).map (·.size)=I z64.size:=AL;have hone:z64.all (·.oneCell')=Ag:=all_oneCell_toArray (λv hv=>UG);have hp2:=hp1.wipe k hlt2;have fr2:=Fr.setRow (DL 64 (J AB 0)) (k*64) (fr1.setCell (p:=⟨g,16384+k,G⟩) (Af rfl) (J U m)) (Af rfl);have e0:DZ s m=I k:=(EF.out).trans (lE hNF h16 hlt2 ho);have e1:EC s m=k:=Nv;have e2:DC s m=0:=by simp[DC,e0,HB.out]
       have e3:s.take m=(s.setOwn k m).wipe k:=Nw;have HP2:=T hp2;have FR2:=T fr2;have E1:=T e1;have E2:=T e2;have E3:=T e3;have hz:z64.toList=DL 64 (J AB 0):=by simp[z64]
       have HZ:=T hz;rw[ho] at c;clear hp1 hp2 fr2 e0 e1 e2 e3 ho hz;go_wp2_with (refine wpList_store_mid rfl 90 (.tmp 45) (.tmp 42) rfl g (k*64) z64 rfl rfl hth hinf hone ?_);go_ret2;rw[HZ.out];exact⟨by rw[E1.out,E2.out];rfl,by rw[E3.out];exact HP2.out,FR2.out⟩
      ·have ho':(s.own k== -1)=Ac:=by simpa using ho
       have hNF2:LO s (k+1):=λj h1 h2=>by
        by_cases e:j=k;·rw[e];exact ho
        ·exact hNF j h1 O
       clear ho;go_wp2_with fail
       go_round
       case rel=>exact⟨k+1,O,O,Bn,hNF2⟩
       case measure=>simp[AM];omega
     ·have e:k=256:=O;subst e;have e0:DZ s m=G:=(EF.out).trans (lF hNF);have e1:EC s m=0:=Nv;have e2:DC s m=13:=by simp[DC,e0,HB.out]
      have e3:s.take m=s:=Nw;have E1:=T e1;have E2:=T e2;have E3:=T e3;clear e0 e1 e2 e3
      go_wp2
      go_ret2;exact⟨by rw[E1.out,E2.out];rfl,by rw[E3.out];exact hP1,fr1⟩
  ·have hmt:GB s m=Ac:=by rw[hmt];simpa using hfull
   have e0:DZ s m=G:=by simp[DZ,hmt]
   have e1:EC s m=0:=Nv;have e2:DC s m=13:=by simp[DC,e0,hb]
   have e3:s.take m=s:=Nw;rw[e1,e2,e3];clear e0 e1 e2 e3 hmt hb;generalize hq:(held s m).length=hn at*;have Hhl:=T hq;have hfull':s.prom m≤(hn:Int):=O;clear hq hfull;go_in;go_wp2_with fail;refine(Hf.out _).mono ?_;rintro e w' ⟨rfl,rfl⟩;go_wp2_with fail
   go_region_with ((go_at_call 133;refine Az hheld ?_;rintro e w1 ⟨v,rfl,ho5,f5,k5⟩;rw[Hhl.out] at ho5;have c5:=f5.cell (w:=w.drew) c hlt id;obtain⟨A5,cap5,hv5⟩:=UE ho5;subst hv5))
   all_goals
    have hP1:Pool w1 g s:=h.drew.fr f5 id;have fr1:=UF
    go_wp2
    go_ret2;exact⟨rfl,hP1,fr1⟩
end Fm
namespace Fm
end Fm
namespace Fm
end Fm
namespace Fm
def cnt(p:Nat→Bool):Nat→Nat
 |0=>0
 |k+1=>cnt p k+if p k then 1 else 0
theorem cnt_le(p:Nat→Bool)(k:Nat):cnt p k≤k:=by
 induction k with
 |zero=>simp[cnt]
 |succ k ih=>simp only[cnt];split<;>omega
variable{p:Nat→Bool}
theorem UH{q:Nat→Bool}: ∀{k:Nat},(∀j,j<k→p j=q j)→cnt p k=cnt q k:=by
 intro k
 induction k with
 |zero=>intro _;rfl
 |succ k ih=>
  intro h;rw[cnt,cnt,ih (λj hj=>h j O),h k O]
variable{f:Nat}
theorem UI{q:Nat→Bool}(hp:p f=Ac)(hq:q f=Ag)(ho: ∀j,j≠f→q j=p j): ∀{k:Nat},f<k→cnt q k=cnt p k+1:=by
 intro k
 induction k with
 |zero=>intro h;omega
 |succ k ih=>
  intro h;rw[cnt,cnt];by_cases e:f=k;·subst e;rw[UH (λj hj=>ho j O),hp,hq];simp
  ·rw[ih O,ho k (λe2=>e e2.symm)];omega
theorem cnt_lt(hp:p f=Ac): ∀{k:Nat},f<k→cnt p k<k:=by
 intro k
 induction k with
 |zero=>intro h;omega
 |succ k ih=>
  intro h;rw[cnt];by_cases e:f=k;·subst e;rw[hp];have:=cnt_le p f;simp;omega
  ·have:=ih O;split<;>omega
theorem PK: ∀{k:Nat},0<cnt p k→ ∃f,f<k∧p f=Ag:=by
 intro k
 induction k with
 |zero=>intro h;simp[cnt] at h
 |succ k ih=>
  intro h;by_cases e:p k=Ag;·exact⟨k,O,e⟩
  ·rw[cnt,Ae e] at h;obtain⟨f,h1,h2⟩:=ih O;exact⟨f,O,h2⟩
theorem lH(p:Nat→Bool)(k:Nat):((Cl k).filter p).length=cnt p k:=by
 induction k with
 |zero=>rfl
 |succ k ih=>
  rw[Ic,List.filter_append,Cq,ih,cnt];congr 1;by_cases e:p k=Ag;·simp[e]
  ·simp[e]
def hN(s:Pl)(o:Int)(k:Nat):Nat:=cnt (λf=>s.own f==o) k
def fN(s:Pl)(k:Nat):Nat:=cnt (λf=>decide (16≤f)&&s.own f== -1) k
theorem lI(s:Pl)(o:Int)(k:Nat):(EB s o k).length=hN s o k:=by
 unfold EB hN;rw[Fo,lH]
variable{s:Pl}
theorem lJ{o:Int}(h:isO o=Ag):(held s o).length=hN s o 256:=by
 unfold held;rw[An h,lI]
structure PInv(s:Pl):Prop where
 ok:s.Ok
 low: ∀f,f<16→s.own f= -1
 held: ∀o:Nat,o<4→(hN s o 256:Int)≤max (s.prom o) 0
 sum:DM s 4≤240
theorem all_sum(h:s.Ok)(hl: ∀f,f<16→s.own f= -1): ∀k,k≤256→fN s k+(hN s 0 k+hN s 1 k+hN s 2 k+hN s 3 k)+min k 16=k:=by
 intro k
 induction k with
 |zero=>intro _;rfl
 |succ k ih=>
  intro hk;have:=ih O;obtain⟨h1,h2⟩:=h.own k O;unfold fN hN at*;simp only[cnt];by_cases e:k<16;·have e2:=hl k e;simp[show ¬16≤k by omega,e2];omega
  ·rcases(by omega:s.own k= -1∨s.own k=0∨s.own k=1∨s.own k=2∨s.own k=3) with e1|e1|e1|e1|e1<;>simp[show 16≤k by omega,e1]<;>omega
theorem sumP4(s:Pl):DM s 4=max (s.prom 0) 0+max (s.prom 1) 0+max (s.prom 2) 0+max (s.prom 3) 0:=by
 simp[DM]
theorem PInv.total(h:PInv s):fN s 256+(hN s 0 256+hN s 1 256+hN s 2 256+hN s 3 256)=240:=by
 have:=all_sum h.ok h.low 256 O;omega
theorem PInv.new:PInv Pl.new:=by
 refine⟨new_ok,λf _=>rfl,λo ho=>?_,Ak⟩;have:hN Pl.new o 256=0:=by
  rcases Gq (hN Pl.new o 256) with h|h;·exact h
  ·obtain⟨f,_,hf⟩:=PK h;simp[Pl.new] at hf
 rw[this];show((0:Nat):Int)≤max (-1) 0;omega
theorem PInv.room(h:PInv s){o:Nat}(ho:o<4)(hr:(hN s o 256:Int)<s.prom o):0<fN s 256:=by
 have ht:=h.total;have h0:=h.held 0 O;have h1:=h.held 1 O;have h2:=h.held 2 O;have h3:=h.held 3 O;have hs:=h.sum;rw[sumP4] at hs;rcases(by omega:o=0∨o=1∨o=2∨o=3) with rfl|rfl|rfl|rfl<;>simp at* <;>omega
theorem lK(h:0<fN s 256): ∃f,FY s=I f:=by
 obtain⟨f,hf,hp⟩:=PK h
 cases ht:FY s with
 |some g=>exact⟨g,rfl⟩
 |none=>
  unfold FY at ht;rw[List.find?_eq_none] at ht;have:=ht f (by simpa using hf);simp at this hp;exact absurd hp.2 (this hp.1)
theorem PInv.takes(h:PInv s){o:Nat}(ho:o<4)(hr:(hN s o 256:Int)<s.prom o): ∃f,DZ s o=I f∧FY s=I f∧16≤f∧f<256∧s.own f= -1∧DC s o=0∧EC s o=f∧s.take o=(s.setOwn f o).wipe f:=by
 obtain⟨f,hf⟩:=lK (h.room ho hr);have hO:isO (o:Int)=Ag:=by simp[isO];omega
 have hm:GB s o=Ag:=UJ;have e:DZ s o=I f:=by rw[DZ,An hm,hf]
 obtain⟨h1,h2,h3,_⟩:=lG hf;refine⟨f,e,hf,h1,h2,h3,by simp[DC,e,hO],by simp[EC,e],by simp[Pl.take,e]⟩
theorem take_not{o:Nat}(ho:o<4)(hr:s.prom o≤(hN s o 256:Int)):DC s o=13∧EC s o=0∧s.take o=s:=by
 have hO:isO (o:Int)=Ag:=by simp[isO];omega
 have hm:GB s o=Ac:=UJ;have e:DZ s o=G:=by rw[DZ,Ae (by simp[hm])]
 exact⟨by simp[DC,e,hO],by simp[EC,e],by simp[Pl.take,e]⟩
theorem UK(hf:f<256)(ho:s.own f= -1)(o q:Nat):hN ((s.setOwn f o).wipe f) q 256=if q=o then hN s q 256+1 else hN s q 256:=by
 unfold hN;by_cases e:q=o
 ·subst e;rw[An rfl];refine UI (f:=f) ?_ ?_ (λj hj=>?_) hf;·rw[ho];simp
  ·simp[Pl.wipe,Pl.setOwn,Bu]
  ·simp[Pl.wipe,Pl.setOwn,Bu,hj]
 ·rw[Ae e];refine UH λj hj=>?_;by_cases e2:j=f;·subst e2;rw[ho];have h1:((o:Int)==(q:Int))=Ac:=AA;have h2:((-1:Int)==(q:Int))=Ac:=AC;simp only[Pl.wipe,Pl.setOwn,Bu,if_true];rw[h1,h2]
  ·simp[Pl.wipe,Pl.setOwn,Bu,e2]
theorem PInv.take(h:PInv s)(o:Int):PInv (s.take o):=by
 have hok:=take_ok h.ok o;by_cases hO:isO o=Ag
 ·obtain⟨h0,h1⟩:0≤o∧o<4:=by simpa[isO] using hO
  obtain⟨m,rfl⟩: ∃k:Nat,o=k:=⟨o.toNat,O⟩;have hm:m<4:=O;rcases Int.lt_or_le (hN s m 256:Int) (s.prom m) with hr|hr
  ·obtain⟨f,_,_,f1,f2,f3,_,_,e⟩:=h.takes hm hr;rw[e] at hok⊢;refine⟨hok,λj hj=>?_,λq hq=>?_,h.sum⟩;·simp only[Pl.wipe,Pl.setOwn,Bu];rw[Ae O];exact h.low j hj
   ·rw[UK f2 f3];have:=h.held q hq;show _≤max (s.prom q) 0;split;·rename_i e;subst e;omega
    ·exact this
  ·rw[(take_not hm hr).2.2];exact h
 ·have:s.take o=s:=by
   have hm:GB s o=Ac:=by simp[GB,hO]
   simp[Pl.take,DZ,hm]
  rw[this];exact h
theorem PInv.promise(h:PInv s)(o n:Int):PInv (s.promise o n):=by
 have hok:=lC h.ok o n;unfold Pl.promise at*;split
 ·rename_i hr
  rw[An hr] at hok;unfold DY at hr;split at hr;·omega
  ·rename_i hq
   split at hr;·omega
   ·rename_i hp
    split at hr;·omega
    ·rename_i hs
     have hp:s.prom o.toNat= -1:=LM;simp[isO] at hq;obtain⟨⟨ho0,ho1⟩,hn0,hn1⟩:=hq;obtain⟨m,rfl⟩: ∃k:Nat,o=k:=⟨o.toNat,O⟩;have hm:m<4:=O;rw[show(m:Int).toNat=m from rfl] at*;refine⟨hok,h.low,λq hq=>?_, ?_⟩
     ·have:=h.held q hq;show(hN s q 256:Int)≤max (Bu s.prom m n q) 0;unfold Bu;split;·rename_i e;subst e;rw[hp] at this;omega
      ·exact this
     ·rw[sumP4] at*;unfold Pl.setProm Bu;dsimp only;rcases(by omega:m=0∨m=1∨m=2∨m=3) with rfl|rfl|rfl|rfl<;>simp<;>omega
 ·exact h
theorem PInv.putB(h:PInv s)(f a b:Int):PInv (s.putB f a b):=by
 unfold Pl.putB;split;·exact⟨⟨h.ok.own,h.ok.prom⟩,h.low,h.held,h.sum⟩
 ·exact h
end Fm
namespace Nt
open Fm
structure Ad where
 gp:Nat
 gt:Nat
 gf:Nat
 gg:Nat
structure Ts where
 n:Nat
 o:Int
 fr:Nat→Int
 gd:Nat→Bool
def Tab(w:Aa)(a:Ad)(t:Ts):Prop:=
 Blk w a.gt 130 #[↑a.gp,J U t.o,Z (I ⟨a.gf,0,G⟩) t.n t.n,Z (I ⟨a.gg,0,G⟩) t.n t.n]∧
 Cells w a.gf 3 t.n (λi=> J U (t.fr i))∧Cells w a.gg 4 t.n (λi=> Ap (t.gd i))∧(1≤t.n∧t.n≤64)
def Ad.own(a:Ad)(k:Nat):Prop:=k=a.gt∨k=a.gf∨k=a.gg
variable{w:Aa}{a:Ad}{t:Ts}
theorem Tab.fr{w':Aa}{S:AE}(h:Tab w a t)(f:Fr S w w')(hn: ∀k,a.own k→ ¬S k):Tab w' a t:=
 ⟨h.1.fr f (hn _ (Af rfl)),h.2.1.fr f (hn _ (Ah (Af rfl))),h.2.2.1.fr f (hn _ (Ah (Ah rfl))),h.2.2.2⟩
theorem Tab.drew(h:Tab w a t):Tab w.drew a t:=h
theorem Tab.alloc(h:Tab w a t)(o:Obj):Tab (w.alloc o) a t:=⟨h.1.alloc o,h.2.1.alloc o,h.2.2.1.alloc o,h.2.2.2⟩
theorem Tab.ne1(h:Tab w a t):a.gt≠a.gf:=Blk.ne_ h.1 h.2.1.choose_spec.1 Ak
theorem Tab.ne3(h:Tab w a t):a.gf≠a.gg:=Cells.ne h.2.1 h.2.2.1 Ak
theorem Tab.lt(h:Tab w a t): ∀k,a.own k→k<w.heap.size:=by
 rintro k (rfl|rfl|rfl);·exact h.1.lt
 ·exact h.2.1.lt
 ·exact h.2.2.1.lt
theorem Tab.pool{s:Pl}(h:Tab w a t)(hp:Pool w a.gp s): ∀k,a.own k→ ¬k=a.gp:=by
 obtain⟨cs,hcs,_⟩:=hp;rintro k (rfl|rfl|rfl) e;·exact Blk.ne_ h.1 (e▸hcs) Ak rfl
 ·exact Blk.ne_ h.2.1.choose_spec.1 (e▸hcs) Ak rfl
 ·exact Blk.ne_ h.2.2.1.choose_spec.1 (e▸hcs) Ak rfl
def inP(t:Ts)(p:Int):Bool:=decide (0≤p∧p<t.n)
theorem is_any(w:Aa)(a:Ad)(t:Ts)(p:Int)(h:Tab w a t):At Tryz.prog 67 #[↑a.gt,J U p] w λe w'=>e=Ax (Ap (inP t p))∧w=w':=by
 obtain⟨hb,hf,hg,hn0,hn1⟩:=h;have c2:=hb.cell 2;by_cases h0:0≤p
 ·by_cases h1:p<t.n
  ·have e:inP t p=Ag:=by simp[inP,h0,h1]
   exact Nx
  ·have e:inP t p=Ac:=by simp[inP,h1]
   have h1':decide (p<(t.n:Int))=Ac:=Dh;exact Nx
 ·have e:inP t p=Ac:=by simp[inP,h0]
  have h0':decide (0≤p)=Ac:=JE;exact Nx
theorem pages_any(w:Aa)(a:Ad)(t:Ts)(h:Tab w a t):At Tryz.prog 49 #[↑a.gt] w λe w'=>e=Ax (J U t.n)∧w=w':=by
 obtain⟨hb,hf,hg,hn0,hn1⟩:=h;have c2:=hb.cell 2;exact CP
def frB(t:Ts)(p:Int):Bool:=inP t p&&(t.fr p.toNat != -1)
def frV(t:Ts)(p:Int):Int:=if frB t p then t.fr p.toNat else 0
theorem PM{p:Int}(h:inP t p=Ag): ∃k:Nat,p=k∧k<t.n:=by
 simp[inP] at h;exact⟨p.toNat,O,O⟩
theorem frame_any(w:Aa)(a:Ad)(t:Ts)(p:Int)(h:Tab w a t):At Tryz.prog 51 #[↑a.gt,J U p] w λe w'=>e=Ax (AF #[J U (frV t p),Ap (frB t p)])∧w=w':=by
 have hi:=T (is_any w a t p h);obtain⟨hb,hf,hg,hn0,hn1⟩:=h;have c2:=hb.cell 2
 cases hp:inP t p
 ·have hv:=hi.out;rw[hp] at hv;have Hv:=T hv;have e1:frB t p=Ac:=by simp[frB,hp]
  have e2:frV t p=0:=by simp[frV,e1]
  rw[e1,e2];clear hv hp e1 e2 hi;go_in;go_wp2_with fail;refine Az Hv ?_;exact UL
 ·have hv:=hi.out;rw[hp] at hv;have Hv:=T hv;obtain⟨k,rfl,hk⟩:=PM hp;have c:=hf.cell k hk;by_cases hx:t.fr k= -1
  ·have e1:frB t k=Ac:=by simp[frB,hx]
   have e2:frV t k=0:=by simp[frV,e1]
   rw[e1,e2];rw[hx] at c;exact UM
  ·have e1:frB t k=Ag:=by simp[frB,hx,hp]
   have e2:frV t k=t.fr k:=by simp[frV,e1]
   rw[e1,e2];have hx':(t.fr k== -1)=Ac:=by simpa using hx
   exact UM
end Nt
namespace Nt
open Fm
def EE(f:Nat→Bool)(k:Nat)(v:Bool):Nat→Bool:=λj=>if j=k then v else f j
def Ts.setFr(t:Ts)(k:Nat)(f:Int):Ts:={t with fr:=Bu t.fr k f}
theorem Tab.setFr{w:Aa}{a:Ad}{t:Ts}(h:Tab w a t)(k:Nat)(v:Int):Tab (w.setCell ⟨a.gf,k,G⟩ (J U v)) a (t.setFr k v):=by
 refine⟨h.1.far (p:=⟨a.gf,k,G⟩) h.ne1 _,Cells.congr (Cells.set_ h.2.1 k _) (λi hi=>?_),Cells.far h.2.2.1 (p:=⟨a.gf,k,G⟩) (λe=>h.ne3 e.symm) _,h.2.2.2⟩;unfold Bz Ts.setFr Bu;dsimp only;split<;>rfl
end Nt
namespace Nt
open Fm
def EG(t:Ts)(p:Int):Bool:=inP t p&& !frB t p
def Gb(s:Pl)(t:Ts)(p:Int):Int:=if EG t p then DC s t.o else if inP t p then 0 else 22
def Gd(s:Pl)(t:Ts)(p:Int):Int:=if EG t p then EC s t.o else frV t p
def DN(s:Pl)(t:Ts)(p:Int):Pl:=if EG t p then s.take t.o else s
def Ts.map(t:Ts)(s:Pl)(p:Int):Ts:=if EG t p&&(DC s t.o==0) then t.setFr p.toNat (EC s t.o) else t
set_option maxRecDepth 100000 in
theorem map_any(w:Aa)(a:Ad)(s:Pl)(t:Ts)(p:Int)(hP:Pool w a.gp s)(h:Tab w a t)(hok:s.Ok):At Tryz.prog 83 #[↑a.gt,J U p] w λe w'=>e=Ax (AF #[J U (Gd s t p),J U (Gb s t p)])∧Pool w' a.gp (DN s t p)∧Tab w' a (t.map s p)∧Fr (λk=>k=a.gp∨k=a.gf) w w':=by
 have hi:=T (is_any w a t p h);have hfr:=T (frame_any w a t p h);have hne:=h.pool hP
 cases hp:inP t p
 ·have e0:EG t p=Ac:=by simp[EG,hp]
  have e1:frB t p=Ac:=by simp[frB,hp]
  have e2:Gb s t p=22:=by simp[Gb,e0,hp]
  have e3:Gd s t p=0:=by simp[Gd,e0,frV,e1]
  have e4:DN s t p=s:=by simp[DN,e0]
  have e5:t.map s p=t:=PN;rw[e2,e3,e4,e5];have hv:=hi.out;rw[hp] at hv;have Hv:=T hv;clear hv hp e0 e1 e2 e3 e4 e5 hi hfr;go_in;go_wp2_with fail;refine Az Hv ?_;exact UN
 ·have hv:=hi.out;rw[hp] at hv;have Hv:=T hv
  cases hq:frB t p
  ·have hx:=hfr.out;have e6:frV t p=0:=by simp[frV,hq]
   rw[hq,e6] at hx;have Hx:=T hx;have e0:EG t p=Ag:=by simp[EG,hp,hq]
   have e2:Gb s t p=DC s t.o:=by simp[Gb,e0]
   have e3:Gd s t p=EC s t.o:=by simp[Gd,e0]
   have e4:DN s t p=s.take t.o:=by simp[DN,e0]
   have e5:t.map s p=if DC s t.o=0 then t.setFr p.toNat (EC s t.o) else t:=PN;rw[e2,e3,e4,e5];obtain⟨k,rfl,hk⟩:=PM hp;have h':=h;obtain⟨hb,hf,hg,hn0,hn1⟩:=h';have c0:=hb.cell 0;have c1:=hb.cell 1;have htk:=T (take_any w.drew a.gp s t.o hP.drew hok);clear hv hx hp hq e0 e2 e3 e4 e5 e6 hi hfr;by_cases hE:DC s t.o=0
   ·rw[An hE];have ht:=htk.out;rw[hE] at ht;have Ht:=T ht;rw[hE];clear ht htk hE;generalize EC s t.o=fv at*;go_in;go_wp2_with fail;refine Az Hv ?_;rintro e w' ⟨rfl,rfl⟩;go_wp2_with fail;refine Az Hx ?_;rintro e w' ⟨rfl,rfl⟩;go_wp2_with fail
    go_region_with ((go_at_call 104;refine Az Ht ?_;rintro e w1 ⟨rfl,hP1,f1⟩))
    all_goals
     have h1:=UO;have d2:=h1.1.cell 2;have c:=h1.2.1.cell k hk;have z:=Cells.frozen h1.2.1 k;have hs:=T (h1.setFr k fv);have hP2:=T (Cells.far hP1 (p:=⟨a.gf,k,G⟩) (λe=>hne a.gf (Ah (Af rfl)) e.symm) (J U fv));have fr2:=T (((Fr.drew (Ao (λk=>k=a.gp∨k=a.gf) w)).tr f1.inl2).setCell (p:=⟨a.gf,k,G⟩) (Af (Ah rfl)) (J U fv))
     go_wp2
     go_ret2;exact⟨rfl,hP2.out,hs.out,fr2.out⟩
   ·rw[Ae hE];have hE':(DC s t.o==0)=Ac:=by simpa using hE
    clear hE;generalize EC s t.o=fv at*;generalize DC s t.o=fe at*;go_in;go_wp2_with fail;refine Az Hv ?_;rintro e w' ⟨rfl,rfl⟩;go_wp2_with fail;refine Az Hx ?_;rintro e w' ⟨rfl,rfl⟩;go_wp2_with fail
    go_region_with ((go_at_call 104;refine Az htk ?_;rintro e w1 ⟨rfl,hP1,f1⟩))
    all_goals
     have h1:=UO
     go_wp2
     go_ret2;exact⟨rfl,hP1,h1,(Fr.drew (Ao (λk=>k=a.gp∨k=a.gf) w)).tr f1.inl2⟩
  ·have hx:=hfr.out;rw[hq] at hx;have Hx:=T hx;have e0:EG t p=Ac:=by simp[EG,hq]
   have e2:Gb s t p=0:=by simp[Gb,e0,hp]
   have e3:Gd s t p=frV t p:=by simp[Gd,e0]
   have e4:DN s t p=s:=by simp[DN,e0]
   have e5:t.map s p=t:=PN;rw[e2,e3,e4,e5];clear hv hx hp hq e0 e2 e3 e4 e5 hi hfr;go_in;go_wp2_with fail;refine Az Hv ?_;rintro e w' ⟨rfl,rfl⟩;go_wp2_with fail;refine Az Hx ?_;exact UN
end Nt
namespace Nt
open Fm
end Nt
namespace Nt
open Fm
def zI(n:Nat):AO:=CH #[J U 0] n
def zB(n:Nat):AO:=CH #[Ap Ac] n
theorem infoB:(Tryz.prog.info? 4).map (λi=>(i.zero,i.size,i.bytes))=I (I (Ap Ac),1,1):=AL
theorem lL(n:Nat)(hn:n≤1000000)(w:Aa):(Fp 85 (J U (n:Int)) (J U (n:Int))).run Tryz.prog w=.ok (Z (I ⟨↑w,0,G⟩) n n) (w.alloc (.cells (zI n) 3)):=by
 obtain⟨i0,hi0,hz0,hz1,hz2⟩:=Cj PG;exact UQ
theorem lM(n:Nat)(hn:n≤1000000)(w:Aa):(Fp 128 (J U (n:Int)) (J U (n:Int))).run Tryz.prog w=.ok (Z (I ⟨↑w,0,G⟩) n n) (w.alloc (.cells (zB n) 4)):=by
 obtain⟨i0,hi0,hz0,hz1,hz2⟩:=Cj infoB;exact US
theorem cellsI(w:Aa)(n:Nat){g:Nat}(hg:↑w=g):Cells (w.alloc (.cells (zI n) 3)) g 3 n (λ_=> J U 0):=by
 subst hg;have e:(zI n).toList=DL n (J U 0):=by rw[zI,toList_madeCells_one]
 exact Ny
theorem cellsB(w:Aa)(n:Nat){g:Nat}(hg:↑w=g):Cells (w.alloc (.cells (zB n) 4)) g 4 n (λ_=> Ap Ac):=by
 subst hg;have e:(zB n).toList=DL n (Ap Ac):=by rw[zB,toList_madeCells_one]
 exact Ny
end Nt
namespace Nt
open Fm
def Ts.new(n:Nat)(o:Int):Ts:=⟨n,o,λ_=> -1,λ_=>Ac⟩
def Ie(n:Nat)(o:Int)(k:Nat):Ts:=⟨n,o,λj=>if j<k then -1 else 0,λ_=>Ac⟩
theorem UT(n:Nat)(o:Int)(k:Nat):(Ie n o k).setFr k (-1)=Ie n o (k+1):=by
 unfold Ie Ts.setFr Bu;exact PF
theorem UU(w:Aa)(a:Ad)(n:Nat)(o:Int)(h0:1≤n)(h1:n≤64)(hb:Blk w a.gt 130 #[↑a.gp,J U o,Z (I ⟨a.gf,0,G⟩) n n,Z (I ⟨a.gg,0,G⟩) n n])(hf:Cells w a.gf 3 n (λ_=> J .i64 0))(hg:Cells w a.gg 4 n (λ_=> .bool Ac)):Tab w a (Ie n o 0):=
 ⟨hb,Cells.congr hf (λi hi=>by simp[Ie]),hg,h0,h1⟩
theorem newT_end{w:Aa}{a:Ad}{n:Nat}{o:Int}(h:Tab w a (Ie n o n)):Tab w a (Ts.new n o):=
 ⟨h.1,Cells.congr h.2.1 (λi hi=>by have hi:i<n:=hi;simp[Ie,Ts.new,hi]),h.2.2.1,h.2.2.2⟩
def NewP(w:Aa)(gp:Nat)(s:Pl)(o:Int)(n:Nat)(e:AY)(w':Aa):Prop:=
 ∃a:Ad,e=Ax (AF #[↑a.gt,J U 0])∧a.gp=gp∧Tab w' a (Ts.new n o)∧Pool w' gp (s.promise o n)∧(∀k,a.own k→w.heap.size≤k)∧Fr (· =gp) w w'
set_option maxRecDepth 100000 in
theorem new_yes(w:Aa)(gp:Nat)(s:Pl)(o:Int)(n:Nat)(hP:Pool w gp s)(hok:s.Ok)(ho0:0≤o)(ho1:o<4)(hn0:1≤n)(hn1:n≤64)(hR:DY s o n=0):At Tryz.prog 41 #[↑gp,J U o,J U n] w (NewP w gp s o n):=by
 have hpr:=lD w gp s o n hP hok O O;rw[hR] at hpr;have Hpr:=T hpr;have hm1:=λW=>lL n O W;have hm2:=λW=>lM n O W;have hltp:=hP.lt;have d1:decide (o<0)=Ac:=AA;have d2:decide (4≤o)=Ac:=AA;have d3:decide ((n:Int)<1)=Ac:=AA;have d4:decide ((64:Int)<(n:Int))=Ac:=AA;clear hpr hR;go_in;go_wp2_with fail;refine Az Hpr ?_;rintro e w1 ⟨rfl,hP1,f1⟩;go_wp2_with fail
 go_region
 ·have hT:Tab ((((w1.alloc (.cells (zI n) 3)).alloc (.cells (zB n) 4)).alloc (.cells #[↑gp,J U o,Z (I ⟨↑w1,0,G⟩) n n,Z (I ⟨(↑w1+1),0,G⟩) n n] 130)).drew) ⟨gp,w1.heap.size+1+1,w1.heap.size,(↑w1+1)⟩ (Ie n o 0):=
   UU _ ⟨gp,w1.heap.size+1+1,w1.heap.size,(↑w1+1)⟩ n o hn0 hn1 (Blk.drew (CK _ _ _ AC)) (Cells.drew (((cellsI w1 n rfl).alloc _).alloc _)) (Cells.drew ((cellsB _ n AC).alloc _))
  have hPz:=Pool.drew (((hP1.alloc (.cells (zI n) 3)).alloc (.cells (zB n) 4)).alloc (.cells #[↑gp,J U o,Z (I ⟨↑w1,0,G⟩) n n,Z (I ⟨(↑w1+1),0,G⟩) n n] 130));have frz:=(((f1.alloc (.cells (zI n) 3)).alloc (.cells (zB n) 4)).alloc (.cells #[↑gp,J U o,Z (I ⟨↑w1,0,G⟩) n n,Z (I ⟨(↑w1+1),0,G⟩) n n] 130)).drew;have hbl: ∀k,Ad.own ⟨gp,w1.heap.size+1+1,w1.heap.size,(↑w1+1)⟩ k→w.heap.size≤k:=by
   have:=f1.size;rintro k (rfl|rfl|rfl);·show w.heap.size≤w1.heap.size+1+1;omega
   ·show w.heap.size≤w1.heap.size;omega
   ·show w.heap.size≤(↑w1+1);omega
  have hne: ∀k,Ad.own ⟨gp,w1.heap.size+1+1,w1.heap.size,(↑w1+1)⟩ k→ ¬k=gp:=λk hk e=>by have:=hbl k hk;omega
  have Hbl:=T hbl;have Hne:=T hne;clear hbl hne hm1 hm2;generalize((((w1.alloc (.cells (zI n) 3)).alloc (.cells (zB n) 4)).alloc (.cells #[↑gp,J U o,Z (I ⟨w1.heap.size,0,G⟩) n n,Z (I ⟨(w1.heap.size+1),0,G⟩) n n] 130)).drew)=wz at*;have c2:=hT.1.cell 2;go_wp2_with fail;go_loopw [10,49] (λ_ i wr=> ∃k:Nat,k≤n∧i=J U k∧Tab wr ⟨gp,w1.heap.size+1+1,w1.heap.size,(↑w1+1)⟩ (Ie n o k)∧Pool wr gp (s.promise o n)∧Fr (· =gp) w wr) (λ_ i _=>n -(AM i).toNat)
  case atStart=>exact⟨0,O,rfl,hT,hPz,frz⟩
  case round=>
   clear hT hPz frz c2;obtain⟨k,hk,rfl,hT,hPz,frz⟩:=hrel;by_cases hlt:k<n;·have c2:=hT.1.cell 2;have c:=hT.2.1.cell k hlt;have z:=Cells.frozen hT.2.1 k;have hT2:=hT.setFr k (-1);rw[UT] at hT2;have HT2:=T hT2;have HP2:=T (Cells.far hPz (p:=⟨↑w1,k,G⟩) (λe=>Hne.out ↑w1 (Ah (Af rfl)) e.symm) (J U (-1)));have FR2:=T (frz.setCell (p:=⟨↑w1,k,G⟩) (Ah (Hbl.out ↑w1 (Ah (Af rfl)))) (J U (-1)));exact UV
   ·exact UW
 ·have hT:Tab ((((w1.alloc (.cells (zB n) 4)).alloc (.cells (zI n) 3)).alloc (.cells #[↑gp,J U o,Z (I ⟨(↑w1+1),0,G⟩) n n,Z (I ⟨↑w1,0,G⟩) n n] 130)).drew) ⟨gp,w1.heap.size+1+1,(↑w1+1),w1.heap.size⟩ (Ie n o 0):=
   UU _ ⟨gp,w1.heap.size+1+1,(↑w1+1),w1.heap.size⟩ n o hn0 hn1 (Blk.drew (CK _ _ _ AC)) (Cells.drew ((cellsI _ n AC).alloc _)) (Cells.drew (((cellsB w1 n rfl).alloc _).alloc _))
  have hPz:=Pool.drew (((hP1.alloc (.cells (zB n) 4)).alloc (.cells (zI n) 3)).alloc (.cells #[↑gp,J U o,Z (I ⟨(↑w1+1),0,G⟩) n n,Z (I ⟨↑w1,0,G⟩) n n] 130));have frz:=(((f1.alloc (.cells (zB n) 4)).alloc (.cells (zI n) 3)).alloc (.cells #[↑gp,J U o,Z (I ⟨(↑w1+1),0,G⟩) n n,Z (I ⟨↑w1,0,G⟩) n n] 130)).drew;have hbl: ∀k,Ad.own ⟨gp,w1.heap.size+1+1,(↑w1+1),w1.heap.size⟩ k→w.heap.size≤k:=by
   have:=f1.size;rintro k (rfl|rfl|rfl);·show w.heap.size≤w1.heap.size+1+1;omega
   ·show w.heap.size≤(↑w1+1);omega
   ·show w.heap.size≤w1.heap.size;omega
  have hne: ∀k,Ad.own ⟨gp,w1.heap.size+1+1,(↑w1+1),w1.heap.size⟩ k→ ¬k=gp:=λk hk e=>by have:=hbl k hk;omega
  have Hbl:=T hbl;have Hne:=T hne;clear hbl hne hm1 hm2;generalize((((w1.alloc (.cells (zB n) 4)).alloc (.cells (zI n) 3)).alloc (.cells #[↑gp,J U o,Z (I ⟨(w1.heap.size+1),0,G⟩) n n,Z (I ⟨w1.heap.size,0,G⟩) n n] 130)).drew)=wz at*;have c2:=hT.1.cell 2;go_wp2_with fail;go_loopw [10,49] (λ_ i wr=> ∃k:Nat,k≤n∧i=J U k∧Tab wr ⟨gp,w1.heap.size+1+1,(↑w1+1),w1.heap.size⟩ (Ie n o k)∧Pool wr gp (s.promise o n)∧Fr (· =gp) w wr) (λ_ i _=>n -(AM i).toNat)
  case atStart=>exact⟨0,O,rfl,hT,hPz,frz⟩
  case round=>
   clear hT hPz frz c2;obtain⟨k,hk,rfl,hT,hPz,frz⟩:=hrel;by_cases hlt:k<n;·have c2:=hT.1.cell 2;have c:=hT.2.1.cell k hlt;have z:=Cells.frozen hT.2.1 k;have hT2:=hT.setFr k (-1);rw[UT] at hT2;have HT2:=T hT2;have HP2:=T (Cells.far hPz (p:=⟨(↑w1+1),k,G⟩) (λe=>Hne.out (↑w1+1) (Ah (Af rfl)) e.symm) (J U (-1)));have FR2:=T (frz.setCell (p:=⟨(↑w1+1),k,G⟩) (Ah (Hbl.out (↑w1+1) (Ah (Af rfl)))) (J U (-1)));exact UV
   ·exact UW
end Nt
end Go.Proofs.YtdfegdoeebaagaaGreatDoor
