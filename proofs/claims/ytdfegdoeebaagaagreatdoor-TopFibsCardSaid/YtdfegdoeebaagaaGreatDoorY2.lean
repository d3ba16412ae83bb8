import Derived.Test.YtdfegdoeebaagaaGreatDoorZ0
import Derived.Test.YtdfegdoeebaagaaGreatDoorChecked
open Go.Value renaming slice→Z,int→J,bool→Ao,tuple→AF,agg→A8,ownBlock→BZ,pointer→Bm,oneCell'→Io
open Option renaming some→I,none→G
open Go.IntKind renaming i64→U,u32→V,u8→AD
open Go renaming World→Aa,Calls→As,Value→At,TypeId→AN,Ending→AZ,info_parts→Cj,madeCells→CJ,maxLen→Ce,wpList→Cz,Program→CG,undef→BY,run_underlying→Fk,Oper→BN,Operand→Dh
open Bool renaming false→Ac,true→Ag
open Go.Ending renaming returned→Av
open List renaming getD_eq_getElem?_getD→AU,getElem?_eq_getElem→BM,length_append→Ck,mem_map→BW,getElem_mem→CI,getElem?_take_of_lt→Ea,getElem?_append_right→EK,range→Cw,getElem?_append_left→Fo,getElem?_eq_none→FL,replicate→Ex,length_map→GA,range_succ→GZ,map_cons→GQ
open Nat renaming le_refl→AC,lt_of_lt_of_le→Bh,le_trans→Bg,zero_add→BS,lt_or_ge→DL,eq_zero_or_pos→Gr
open Or renaming inl→Af,inr→Ah
open Go.Proofs.Tryz renaming underlying85→Gd
open Go.RowKit renaming intOf→AM
open Int renaming toNat_natCast→DE
open Go.Region renaming wanted→Dv
open Array renaming getElem?_toList→Fc
open Go.Instr renaming makeSlice→GB
open Go.Lit renaming int→Ew
open Go.Oper renaming wp→EZ
open Go.Sem renaming run_bind→GP
set_option linter.all false
set_option maxHeartbeats 40000000
set_option maxRecDepth 1000000
open Go Go.RowKit
namespace Go.Proofs.YtdfegdoeebaagaaGreatDoor
section
theorem kR(a:Addr)(n:Nat):(a.add n).block=a.block:=by unfold Addr.add;split<;>rfl
def Blk(w:Aa)(g:Nat)(t:AN)(cs:AP):Prop:=w.heap[g]?=I (.cells cs t (0,0))
section
variable {w w':Aa} {g:Nat} {t:AN} {cs:AP}
theorem Blk.lt(h:Blk w g t cs):g<↑w:=by
 rcases DL g ↑w with hlt|hge;·exact hlt
 ·unfold Blk at h;rw[Array.getElem?_eq_none hge] at h;cases h
theorem Blk.cell(h:Blk w g t cs)(i:Nat):w.cell? ⟨g,i,G⟩=cs[i]?:=cell_of_row w g i cs t (0,0) h
theorem Blk.frozen(h:Blk w g t cs)(i:Nat):w.frozen? ⟨g,i,G⟩=Ac:=by
 unfold Blk at h;simp[World.frozen?,h]
theorem Blk.new(w:Aa)(t:AN)(cs:AP):Blk (w.alloc (.cells cs t)) ↑w t cs:=heap_alloc_new w _
theorem Blk.new'(w:Aa)(t:AN)(cs:AP){n:Nat}(h:↑w=n):Blk (w.alloc (.cells cs t)) n t cs:=h▸Blk.new w t cs
theorem Blk.drew(h:Blk w g t cs):Blk w.drew g t cs:=h
theorem Blk.drewN(h:Blk w g t cs)(n:Nat):Blk (w.drewN n) g t cs:=h
theorem Blk.alloc(h:Blk w g t cs)(o:Obj):Blk (w.alloc o) g t cs:=(Below.heap_alloc w o g h.lt).trans h
theorem Blk.set_(h:Blk w g t cs)(i:Nat)(u:At):Blk (w.setCell ⟨g,i,G⟩ u) g t (cs.setIfInBounds i u):=by
 unfold Blk at h⊢;simp[World.setCell,Array.getElem?_modify,h]
variable{p:Addr}
theorem Blk.far(h:Blk w g t cs)(hp:g≠p.block)(u:At):Blk (w.setCell p u) g t cs:=(Below.heap_setCell w p u g hp).trans h
theorem Blk.grown{row:Option Nat}(h:Blk w g t cs)(hb:w.grownBy w' row)(hg:I g≠row):Blk w' g t cs:=(hb.block g h.lt hg).trans h
end
structure Fr(S:AE)(w w':Aa):Prop where
 os:w'.os=w.os
 tape:w'.tape=w.tape
 output:w'.output=w.output
 size:w.heap.size≤w'.heap.size
 block: ∀k,k<w.heap.size→ ¬S k→w'.heap[k]?=w.heap[k]?
section
variable {S S':AE} {a w w' w'':Aa}
theorem Fr.refl(S:AE)(w:Aa):Fr S w w:=⟨rfl,rfl,rfl,AC _,λ_ _ _=>rfl⟩
theorem Fr.trans(h:Fr S a w)(k:Fr S' w w')(hs: ∀i,i<a.heap.size→S' i→S i):Fr S a w':=
 ⟨k.os.trans h.os,k.tape.trans h.tape,k.output.trans h.output,Bg h.size k.size,λi hi hn=>(k.block i (Bh hi h.size) (λe=>hn (hs i hi e))).trans (h.block i hi hn)⟩
theorem Fr.tr(h:Fr S a w)(k:Fr S w w'):Fr S a w':=h.trans k (λ_ _ e=>e)
theorem Fr.mono(h:Fr S w w')(hs: ∀i,i<w.heap.size→S i→S' i):Fr S' w w':=⟨h.os,h.tape,h.output,h.size,λk hk hn=>h.block k hk (λe=>hn (hs k hk e))⟩
theorem Fr.drew(h:Fr S a w):Fr S a w.drew:=⟨h.os,h.tape,h.output,h.size,h.block⟩
theorem Fr.drewN(h:Fr S a w)(n:Nat):Fr S a (w.drewN n):=⟨h.os,h.tape,h.output,h.size,h.block⟩
theorem Fr.alloc(h:Fr S a w)(o:Obj):Fr S a (w.alloc o):=
 ⟨h.os,h.tape,h.output,Bg h.size AB,λi hi hn=>(Below.heap_alloc w o i (Bh hi h.size)).trans (h.block i hi hn)⟩
variable{p:Addr}
theorem Fr.setCell(h:Fr S a w)(hp:S p.block∨↑a≤p.block)(u:At):Fr S a (w.setCell p u):=
 ⟨h.os,h.tape,h.output,by simpa[World.setCell] using h.size,λi hi hn=>(Below.heap_setCell w p u i (by
  rintro rfl;rcases hp with hp|hp;·exact hn hp
  ·omega)).trans (h.block i hi hn)⟩
theorem Fr.grown(h:Fr S a w){row:Option Nat}(hg:w.grownBy w' row)(hr: ∀k,row=I k→S k∨a.heap.size≤k):Fr S a w':=
 ⟨hg.os.trans h.os,hg.tape.trans h.tape,hg.output.trans h.output,Bg h.size hg.size,λi hi hn=>(hg.block i (Bh hi h.size) (λe=>by
  rcases hr i e.symm with hp|hp;·exact hn hp
  ·omega)).trans (h.block i hi hn)⟩
theorem Fr.cell(f:Fr S w w'){v:Option At}(hc:w.cell? p=v)(hp:p.block<↑w)(hn: ¬S p.block):w'.cell? p=v:=(World.cell?_of_block (w:=w) (f.block _ hp hn)).trans hc
theorem Fr.below{B:Nat}(h:Fr S w w')(hs: ∀k,k<w.heap.size→S k→B≤k)(hB:B≤↑w):Below B w w':=
 ⟨h.os,h.tape,h.output,h.size,λk hk=>h.block k O (λe=>by have:=hs k (by omega) e;omega)⟩
theorem Blk.fr{g:Nat}{t:AN}{cs:AP}(h:Blk w g t cs)(f:Fr S w w')(hn: ¬S g):Blk w' g t cs:=(f.block g h.lt hn).trans h
theorem Fr.set1(w:Aa)(g i:Nat)(u:At):Fr (· =g) w (w.setCell ⟨g,i,G⟩ u):=(Fr.refl (· =g) w).setCell (p:=⟨g,i,G⟩) (Af rfl) u
theorem Fr.none_below(h:Fr Aj w w'):Below ↑w w w':=h.below (λ_ _ e=>e.elim) (AC _)
end
def IntsAt(k:IntKind)(w:Aa)(B:Nat)(A:Aw)(n:Nat)(zs:List Int):Prop:=
 zs.length=n∧(∀i,i<n→(Ew k (zs.getD i 0)).wf=Ag)∧(0<n→ ∃b off,A=I ⟨b,off,G⟩∧b<B∧ ∀i,i<n→w.cell? ⟨b,off+i,G⟩=I (J k (zs.getD i 0)))
section
variable {k:IntKind} {w w':Aa} {B n:Nat} {A:Aw} {zs:List Int} {S:AE}
theorem IntsAt.at_(h:IntsAt k w B A n zs){i:Nat}(hi:i<n): ∃b off,A=I ⟨b,off,G⟩∧b<B∧w.cell? ⟨b,off+i,G⟩=I (J k (zs.getD i 0)):=by
 obtain⟨b,off,e,hb,hc⟩:=h.2.2 O;exact⟨b,off,e,hb,hc i hi⟩
theorem IntsAt.more{B':Nat}(h:IntsAt k w B A n zs)(hB:B≤B'):IntsAt k w B' A n zs:=
 ⟨h.1,h.2.1,λhn=>by
  obtain⟨b,off,e,hb,hc⟩:=h.2.2 hn;exact⟨b,off,e,O,hc⟩⟩
theorem IntsAt.fr(h:IntsAt k w B A n zs)(f:Fr S w w')(hB:B≤↑w)(hs: ∀i,i<B→ ¬S i):IntsAt k w' B A n zs:=
 ⟨h.1,h.2.1,λhn=>by
  obtain⟨b,off,e,hb,hc⟩:=h.2.2 hn;exact⟨b,off,e,hb,λi hi=>(World.cell?_of_block (w:=w) (a:=⟨b,off+i,G⟩) (f.block b O (hs b hb))).trans (hc i hi)⟩⟩
end
theorem IntsAt.take{k:IntKind}{w:Aa}{B n m:Nat}{A:Aw}{zs:List Int}(h:IntsAt k w B A n zs)(hm:m≤n):IntsAt k w B A m (zs.take m):=by
 have hg: ∀i,i<m→(zs.take m).getD i 0=zs.getD i 0:=by
  intro i hi;simp only[AU];rw[Ea hi]
 refine⟨by have:=h.1;simp;omega,λi hi=>by rw[hg i hi];exact h.2.1 i (by omega),λhn=>?_⟩;obtain⟨b,off,e,hb,hc⟩:=h.2.2 O;exact⟨b,off,e,hb,λi hi=>by rw[hg i hi];exact hc i (by omega)⟩
theorem OT(k:IntKind)(w:Aa)(B:Nat)(A:Aw):IntsAt k w B A 0 []:=⟨rfl,λi hi=>absurd hi O,λhn=>absurd hn O⟩
theorem Tn{k:IntKind}{w:Aa}{g:Nat}{t:AN}(zs:List Int)(hb:Blk w g t (zs.map (J k)).toArray)(hw: ∀i,i<zs.length→(Ew k (zs.getD i 0)).wf=Ag):IntsAt k w (g+1) (I ⟨g,0,G⟩) zs.length zs:=by
 refine⟨rfl,hw,λ_=>⟨g,0,rfl,O,λi hi=>?_⟩⟩;rw[BS,hb.cell i];simp[hi]
theorem wf_list{k:IntKind}{zs:List Int}(h: ∀z∈zs,(Ew k z).wf=Ag): ∀i,i<zs.length→(Ew k (zs.getD i 0)).wf=Ag:=by
 intro i hi;have e:zs.getD i 0=zs[i]:=by simp[hi]
 rw[e];exact h _ (CI hi)
theorem LG{n:Int}(h0: -9223372036854775808≤n)(h1:n≤9223372036854775807):(Ew U n).wf=Ag:=OU
theorem OV{n:Int}(h0:0≤n)(h1:n≤4294967295):(Ew V n).wf=Ag:=OU
theorem J9{n:Int}(h0:0≤n)(h1:n≤255):(Ew AD n).wf=Ag:=OU
theorem wf_u32{n:Int}(h:(Ew V n).wf=Ag):0≤n∧n≤4294967295:=Tp
theorem Jd{n:Int}(h:(Ew AD n).wf=Ag):0≤n∧n≤255:=Tp
def Ak:=@Fr.refl
def AI:=@Blk.new
def Bt:=@Fr.set1
def CC:=@Blk.new'
end
section
def Reads(w:Aa)(B size:Nat)(A:Aw)(n:Nat)(xs:List At):Prop:=
 xs.length=n*size∧(0<n→ ∃ad,A=I ad∧ad.block<B∧ ∀j u,xs[j]?=I u→w.cell? (ad.add j)=I u)
section
variable {w w':Aa} {B B' size n:Nat} {A:Aw} {xs:List At}
theorem Reads.at_{k:Nat}(h:Reads w B 1 A n xs)(hk:k<n): ∃ad u,A=I ad∧ad.block<B∧xs[k]?=I u∧w.cell? (ad.add k)=I u:=by
 obtain⟨ad,e,hb,hc⟩:=h.2 O;have hl:k<xs.length:=by have:=h.1;omega
 exact⟨ad,xs[k],e,hb,BM hl,hc k _ (BM hl)⟩
theorem Reads.keep(h:Reads w B size A n xs)(hk: ∀p:Addr,p.block<B→w'.cell? p=w.cell? p):Reads w' B size A n xs:=
 ⟨h.1,λhn=>by
  obtain⟨ad,e,hb,hc⟩:=h.2 hn;exact⟨ad,e,hb,λj u hu=>(hk _ (by rw[kR];exact hb)).trans (hc j u hu)⟩⟩
theorem Reads.alloc(h:Reads w B size A n xs)(hB:B≤↑w)(o:Obj):Reads (w.alloc o) B size A n xs:=h.keep λp hp=>World.cell?_alloc_lt w o p O
variable{base:Nat}{e:AN}
theorem Reads.of_own{c:Nat}(h:w.ownsRow base e size (.slice A n c) n xs):Reads w ↑w size A n xs:=by
 refine⟨h.1,λhn=>?_⟩;obtain⟨g,cap,hv,_,hlt⟩:=h.form hn;have hA:A=I ⟨g,0,G⟩:=by injection hv
 subst hA;exact⟨_,rfl,hlt,h.cells (g:=g) rfl⟩
end
section
variable {w w':Aa} {g:Nat} {t:AN} {cs:AP}
theorem Blk.ne_{g':Nat}{t':AN}{cs':AP}(h:Blk w g t cs)(h':Blk w g' t' cs')(hne:t≠t'):g≠g':=by
 rintro rfl;unfold Blk at h h';rw[h] at h';injection h' with h';injection h' with _ ht;exact hne ht
variable{base:Nat}{e:AN}{v:At}
theorem Bi{size n:Nat}{xs:List At}(h:w.ownsRow base e size v n xs)(hg:Blk w g t cs)(hne:e≠t):v.ownBlock≠I g:=by
 rcases h.2 with⟨rfl,_⟩|⟨g',cap,cur,rfl,_,hh,_⟩;·simp[BZ]
 ·intro he;have:g'=g:=by simpa[BZ] using he
  subst this;exact Blk.ne_ (t:=e) hh hg hne rfl
end
section
variable {P:CG} (w:Aa)
theorem kS(base:Nat)(t ty e:AN)(i:TypeInfo)(size:Nat)(ht:P.underlying t=I (.slice e))(hi:P.info? e=I i)(v:At)(n:Nat)(xs:List At)(hown:w.ownsRow base e size v n xs)(c:Nat):(Builtin.append_ #[t,t] ty #[v,.slice G 0 c]).run P w=.ok v w:=by
 rcases hown.2 with⟨rfl,rfl⟩|⟨g,cap,cur,rfl,_,_,hnc,_⟩;·simp[Builtin.append_,Fk ht,sizeOf,typeInfo,hi,Builtin.lenOf,Builtin.firstCells]
 ·simp[Builtin.append_,Fk ht,sizeOf,typeInfo,hi,Builtin.lenOf,Builtin.firstCells,hnc,storeCells]
theorem kT(base:Nat)(t ty e:AN)(i:TypeInfo)(z:At)(size bytes:Nat)(ht:P.underlying t=I (.slice e))(hi:P.info? e=I i)(hz:i.zero=I z)
 (hsize:i.size=size) (hby:i.bytes=bytes) (hzs:z.cells.size=size) (hsz:0<size)
 (v:At) (n:Nat) (xs:List At) (hown:w.ownsRow base e size v n xs)
 (B:Nat) (A:Aw) (m c:Nat) (news:List At) (hr:Reads w B size A m news) (h1: ∀u∈news,u.oneCell'=Ag)
 (h63:n+m≤Ce) (hbytes:(n+m)*bytes≤140737488355328) (hbase:base≤↑w):
 ∃v' w',(Builtin.append_ #[t,t] ty #[v,.slice A m c]).run P w=.ok v' w'∧w'.ownsRow base e size v' (n+m) (xs++news)∧w.grownBy w' v.ownBlock∧
  (v'.ownBlock=v.ownBlock∨v'.ownBlock=I ↑w):=by
 rcases A with _|ad
 ·have hm:m=0:=by
   rcases Gr m with h0|h0;·exact h0
   ·obtain⟨ad,h,_⟩:=hr.2 h0
    cases h
  subst hm;have hn:=OW;subst hn;exact⟨v,w,kS w base t ty e i size ht hi v n xs hown c,by simpa using hown,World.grownBy.refl w _,Af rfl⟩
 ·have hcells: ∀j u,news[j]?=I u→w.cell? (ad.add j)=I u:=by
   intro j u hu;rcases Gr m with h0|h0;·subst h0;have hn:=OW;subst hn;simp at hu
   ·obtain⟨ad',h,_,hc⟩:=hr.2 h0;injection h with h;subst h;exact hc j u hu
  obtain⟨v',w',hrun,h2,h3,_,h5⟩:=run_append_own_at (P:=P) w base t ty e i z size bytes ht hi hz hsize hby hzs hsz v n xs hown ad m c news hr.1 hcells h1 h63 hbytes hbase;exact⟨v',w',hrun,h2,h3,h5⟩
variable{o:BN}{Q:Exit→Act→Aa→Prop}
theorem Tq{a:Act}{K:Act→Aa→Prop}(s x:Dh)(t:AN)(ho:o.op=.call {callee:=.builtin .append,args:=#[s,x],argTypes:=#[t,t]})(base:Nat)(e:AN)(i:TypeInfo)(z:At)(size bytes:Nat)(ht:P.underlying t=I (.slice e))(hi:P.info? e=I i)(hz:i.zero=I z)(hsize:i.size=size)(hby:i.bytes=bytes)(hzs:z.cells.size=size)(hsz:0<size)(v:At)(n:Nat)(xs:List At)(hs:a.eval s=v)(hown:w.ownsRow base e size v n xs)(B:Nat)(A:Aw)(m c:Nat)(news:List At)(hx:a.eval x=.slice A m c)(hr:Reads w B size A m news)(h1: ∀u∈news,u.oneCell'=Ag)(h63:n+m≤Ce)(hbytes:(n+m)*bytes≤140737488355328)(hbase:base≤↑w)(h: ∀v' w',w'.ownsRow base e size v' (n+m) (xs++news)→w.grownBy w' v.ownBlock→(v'.ownBlock=v.ownBlock∨v'.ownBlock=I ↑w)→K (a.put o.dst v') w'):o.wp P a w K Q:=by
 obtain⟨v',w',hrun,h2,h3,h4⟩:=kT (P:=P) w base t o.type e i z size bytes ht hi hz hsize hby hzs hsz v n xs hown B A m c news hr h1 h63 hbytes hbase;unfold EZ execOp;simp only[ho,resolve,invoke,builtin,GP,Sem.run_pure,Result.andThen_ok,List.map_toArray,GQ,List.map_nil,hs,hx,hrun];exact h v' w' h2 h3 h4
theorem CS{ops:Array BN}{rest:List BN}{a:Act}(hgd:o.guard=G)(s x:Dh)(t:AN)(ho:o.op=.call {callee:=.builtin .append,args:=#[s,x],argTypes:=#[t,t]})(base:Nat)(e:AN)(i:TypeInfo)(z:At)(size bytes:Nat)(ht:P.underlying t=I (.slice e))(hi:P.info? e=I i)(hz:i.zero=I z)(hsize:i.size=size)(hby:i.bytes=bytes)(hzs:z.cells.size=size)(hsz:0<size)(v:At)(n:Nat)(xs:List At)(hs:a.eval s=v)(hown:w.ownsRow base e size v n xs)(B:Nat)(A:Aw)(m c:Nat)(news:List At)(hx:a.eval x=.slice A m c)(hr:Reads w B size A m news)(h1: ∀u∈news,u.oneCell'=Ag)(h63:n+m≤Ce)(hbytes:(n+m)*bytes≤140737488355328)(hbase:base≤↑w)(h: ∀v' w',w'.ownsRow base e size v' (n+m) (xs++news)→w.grownBy w' v.ownBlock→(v'.ownBlock=v.ownBlock∨v'.ownBlock=I ↑w)→Cz P ops Q rest (a.put o.dst v') w'):Cz P ops Q (o::rest) a w:=
 wpList_plain hgd λ_ hK=>Tq w s x t ho base e i z size bytes ht hi hz hsize hby hzs hsz v n xs hs hown B A m c news hx hr h1 h63 hbytes hbase λv' w' h2 h3 h4=>hK _ _ (h v' w' h2 h3 h4)
theorem Il{ops:Array BN}{a:Act}{K:Act→Aa→Prop}{E:Prop}(hgd:o.guard=G)(s x:Dh)(t:AN)(ho:o.op=.call {callee:=.builtin .append,args:=#[s,x],argTypes:=#[t,t]})(base:Nat)(e:AN)(i:TypeInfo)(z:At)(size bytes:Nat)(ht:P.underlying t=I (.slice e))(hi:P.info? e=I i)(hz:i.zero=I z)(hsize:i.size=size)(hby:i.bytes=bytes)(hzs:z.cells.size=size)(hsz:0<size)(v:At)(n:Nat)(xs:List At)(hs:a.eval s=v)(hown:w.ownsRow base e size v n xs)(B:Nat)(A:Aw)(m c:Nat)(news:List At)(hx:a.eval x=.slice A m c)(hr:Reads w B size A m news)(h1: ∀u∈news,u.oneCell'=Ag)(h63:n+m≤Ce)(hbytes:(n+m)*bytes≤140737488355328)(hbase:base≤↑w)(h: ∀v' w',w'.ownsRow base e size v' (n+m) (xs++news)→w.grownBy w' v.ownBlock→(v'.ownBlock=v.ownBlock∨v'.ownBlock=I ↑w)→K (a.put o.dst v') w'):if Dv o (yielded ops a.tmps)=Ag then EZ P o a w K Q else E:=by
 have hw:=Tt;rw[An hw];exact Tq w s x t ho base e i z size bytes ht hi hz hsize hby hzs hsz v n xs hs hown B A m c news hx hr h1 h63 hbytes hbase h
end
variable{base:Nat}{e:AN}{v:At}
theorem Cr{w:Aa}{size n:Nat}{xs:List At}(h:w.ownsRow base e size v n xs): ∀k,v.ownBlock=I k→base≤k:=by
 intro k hk;rcases h.2 with⟨rfl,_⟩|⟨g,cap,cur,rfl,hb,_⟩;·simp[BZ] at hk
 ·simp[BZ] at hk;omega
theorem own_lt{w:Aa}{size n:Nat}{xs:List At}(h:w.ownsRow base e size v n xs): ∀k,v.ownBlock=I k→k<w.heap.size:=by
 intro k hk;rcases h.2 with⟨rfl,_⟩|⟨g,cap,cur,rfl,hb,hh,_⟩;·simp[BZ] at hk
 ·simp[BZ] at hk;subst hk;rcases DL g ↑w with h|h;·exact h
  ·rw[Array.getElem?_eq_none h] at hh;cases hh
theorem Eb{w:Aa}{size n:Nat}{xs:List At}(h:w.ownsRow base e size v n xs)(o:Obj):(w.alloc o).ownsRow base e size v n xs:=h.alloc o
theorem AS{w w':Aa}{size n:Nat}{xs:List At}{S:AE}(h:w.ownsRow base e size v n xs)(f:Fr S w w')(hn: ∀k,v.ownBlock=I k→ ¬S k):w'.ownsRow base e size v n xs:=by
 have hl:=own_lt h;obtain⟨h1,h2⟩:=h;refine⟨h1, ?_⟩;rcases h2 with h2|⟨g,cap,cur,hv,hg,hh,r⟩;·exact Or.inl h2
 ·have e:v.ownBlock=I g:=by rw[hv];rfl
  exact Or.inr ⟨g,cap,cur,hv,hg,(f.block g (hl g e) (hn g e)).trans hh,r⟩
theorem CT{w:Aa}{g:Nat}{t:AN}{cs:AP}{size n:Nat}(h:Blk w g t cs)(hn:cs.size=n*size):Reads w (g+1) size (I ⟨g,0,G⟩) n cs.toList:=by
 refine⟨by simpa using hn,λ_=>⟨_,rfl,AB,λj u hu=>?_⟩⟩;have e:(⟨g,0,G⟩:Addr).add j=⟨g,j,G⟩:=by
  unfold Addr.add;split;·rename_i h0;subst h0;rfl
  ·simp
 rw[e,h.cell j];simpa using hu
def DM(cs:AP):Nat→List At→AP
 |_,[]=>cs
 |o,v::r=>DM (cs.setIfInBounds o v) (o+1) r
theorem Tu(vs:List At): ∀(cs:AP) (o:Nat),(DM cs o vs).size=cs.size:=by
 induction vs with
 |nil=>intro cs o;rfl
 |cons v r ih=>intro cs o;rw[DM,ih];simp
theorem kU(vs:List At): ∀(cs:AP) (o i:Nat),(i<o∨o+vs.length≤i)→(DM cs o vs)[i]?=cs[i]?:=by
 induction vs with
 |nil=>intro cs o i _;rfl
 |cons v r ih=>
  intro cs o i h;rw[DM,ih _ _ _ (by simp at h;omega),Array.getElem?_setIfInBounds,Ae (by simp at h;omega)]
theorem kV(vs:List At): ∀(cs:AP) (o j:Nat),o+vs.length≤cs.size→j<vs.length→(DM cs o vs)[o+j]?=vs[j]?:=by
 induction vs with
 |nil=>intro cs o j _ h;simp at h
 |cons v r ih=>
  intro cs o j hs h
  cases j with
  |zero=>
   rw[DM,kU _ _ _ _ O];simp at hs;simp[Array.getElem?_setIfInBounds];omega
  |succ j=>
   rw[DM,show o+(j+1)=o+1+j by omega,ih _ _ _ (by simp at hs⊢;omega) DC];simp
theorem Blk.setCells{g:Nat}{t:AN}(vs:List At): ∀{w:Aa} {cs:AP} (o:Nat),Blk w g t cs→Blk (w.setCells g o vs) g t (DM cs o vs):=by
 induction vs with
 |nil=>intro w cs o h;exact h
 |cons v r ih=>intro w cs o h;exact ih (o+1) (h.set_ o v)
theorem Fr.setCells{S:AE}{a:Aa}{g:Nat}(vs:List At): ∀{w:Aa} (o:Nat),Fr S a w→S g∨↑a≤g→Fr S a (w.setCells g o vs):=by
 induction vs with
 |nil=>intro w o h _;exact h
 |cons v r ih=>intro w o h hg;exact ih (o+1) (h.setCell (p:=⟨g,o,G⟩) hg v) hg
theorem Tv(vs:List At)(cs:AP)(n:Nat)(hn:vs.length=n)(hs:n≤cs.size):(DM cs 0 vs).toList.take n=vs:=by
 apply List.ext_getElem?;intro i;by_cases hi:i<n;·rw[Ea hi,Fc];have:=kV vs cs 0 i O O;rw[BS] at this;exact this
 ·rw[FL AA,FL O]
theorem LH{k:IntKind}{w:Aa}{B n:Nat}{A:Aw}{zs:List Int}(h:IntsAt k w B A n zs):Reads w B 1 A n (zs.map (J k)):=by
 refine⟨by simpa using h.1,λhn=>?_⟩;obtain⟨b,off,e,hb,hc⟩:=h.2.2 hn;refine⟨_,e,hb,λj u hu=>?_⟩;have hj:j<zs.length:=by
  rcases DL j zs.length with h|h;·exact h
  ·rw[FL DC] at hu;cases hu
 have e1:(⟨b,off,G⟩:Addr).add j=⟨b,off+j,G⟩:=Tw;rw[e1,hc j (by have:=h.1;omega),←hu];simp[hj]
theorem Im{k:IntKind}{zs:List Int}: ∀u∈zs.map (J k),u.oneCell'=Ag:=by
 intro u hu;obtain⟨z,_,rfl⟩:=BW.1 hu;rfl
theorem Fl{w:Aa}{size n:Nat}{xs:List At}(h:w.ownsRow base e size v n xs)(hn:0<n): ∃g cap cur,v=.slice (I ⟨g,0,G⟩) n cap∧base≤g∧Blk w g e cur∧n≤cap∧cap≤Ce∧cur.size=cap*size∧cur.toList.take (n*size)=xs:=by
 rcases h.2 with⟨_,h0⟩|h;·omega
 ·exact h
end
section
def Cells(w:Aa)(g:Nat)(t:AN)(n:Nat)(f:Nat→At):Prop:= ∃cs,Blk w g t cs∧cs.size=n∧ ∀i,i<n→cs[i]?=I (f i)
def BC(f:Nat→At)(i:Nat)(v:At):Nat→At:=λj=>if j=i then v else f j
def putR(f:Nat→At)(o:Nat)(vs:List At):Nat→At:=λj=>if o≤j∧j<o+vs.length then vs.getD (j -o) BY else f j
section
variable {w w':Aa} {g n:Nat} {t:AN} {f f':Nat→At}
theorem Cells.lt(h:Cells w g t n f):g<↑w:=by obtain⟨_,h,_⟩:=h;exact h.lt
theorem Cells.cell(h:Cells w g t n f)(i:Nat)(hi:i<n):w.cell? ⟨g,i,G⟩=I (f i):=by
 obtain⟨cs,h1,_,h3⟩:=h;rw[h1.cell i];exact h3 i hi
theorem Cells.frozen(h:Cells w g t n f)(i:Nat):w.frozen? ⟨g,i,G⟩=Ac:=by
 obtain⟨cs,h1,_⟩:=h;exact h1.frozen i
theorem Cells.drew(h:Cells w g t n f):Cells w.drew g t n f:=h
theorem Cells.alloc(h:Cells w g t n f)(o:Obj):Cells (w.alloc o) g t n f:=by
 obtain⟨cs,h1,h2⟩:=h;exact⟨cs,h1.alloc o,h2⟩
theorem Cells.far(h:Cells w g t n f){p:Addr}(hp:g≠p.block)(u:At):Cells (w.setCell p u) g t n f:=by
 obtain⟨cs,h1,h2⟩:=h;exact⟨cs,h1.far hp u,h2⟩
theorem Cells.fr{S:AE}(h:Cells w g t n f)(k:Fr S w w')(hn: ¬S g):Cells w' g t n f:=by
 obtain⟨cs,h1,h2⟩:=h;exact⟨cs,h1.fr k hn,h2⟩
theorem Cells.congr(h:Cells w g t n f)(e: ∀i,i<n→f i=f' i):Cells w g t n f':=by
 obtain⟨cs,h1,h2,h3⟩:=h;exact⟨cs,h1,h2,λi hi=>by rw[h3 i hi,e i hi]⟩
theorem Cells.set_(h:Cells w g t n f)(i:Nat)(v:At):Cells (w.setCell ⟨g,i,G⟩ v) g t n (BC f i v):=by
 obtain⟨cs,h1,h2,h3⟩:=h;refine⟨_,h1.set_ i v,by simp[h2],λj hj=>?_⟩;rw[Array.getElem?_setIfInBounds];by_cases e:i=j;·subst e;simp[BC,h2,hj]
 ·rw[Ae e,h3 j hj,BC,Ae (λh=>e h.symm)]
theorem Uz(w:Aa)(g o:Nat)(v:At)(vs:List At):w.setCells g o (v::vs)=(w.setCell ⟨g,o,G⟩ v).setCells g (o+1) vs:=rfl
theorem lE(f:Nat→At)(o:Nat)(v:At)(vs:List At):putR (BC f o v) (o+1) vs=putR f o (v::vs):=by
 funext j;unfold putR BC;by_cases e:j=o;·subst e;rw[Ae O,An rfl,An AB];simp
 ·by_cases h:o+1≤j∧j<o+1+vs.length;·rw[An h,An AA,show j -o=(j -(o+1))+1 by omega];simp
  ·rw[Ae h,Ae e,Ae AA]
theorem Cells.setCells(vs:List At): ∀{w:Aa} {f:Nat→At} (o:Nat),Cells w g t n f→Cells (w.setCells g o vs) g t n (putR f o vs):=by
 induction vs with
 |nil=>intro w f o h;exact h.congr (λi _=>U0)
 |cons v vs ih=>
  intro w f o h;rw[Uz,←lE];exact ih (o+1) (h.set_ o v)
theorem Fr.setRow{S:AE}{a:Aa}{g:Nat}(vs:List At): ∀{w:Aa} (o:Nat),Fr S a w→S g∨↑a≤g→Fr S a (w.setCells g o vs):=by
 induction vs with
 |nil=>intro w o h _;exact h
 |cons v vs ih=>
  intro w o h hg;rw[Uz];exact ih (o+1) (h.setCell (p:=⟨g,o,G⟩) hg v) hg
theorem Cells.rangeAt(h:Cells w g t n f)(o:Nat)(vs:List At)(hn:o+vs.length≤n)(e: ∀j,j<vs.length→vs[j]?=I (f (o+j))):w.rangeAt g o vs:=λj v hv=>by
 have hj:j<vs.length:=(List.getElem?_eq_some_iff.1 hv).1;rw[h.cell (o+j) O,←hv,e j hj]
theorem Cells.there(h:Cells w g t n f)(o k:Nat)(hn:o+k≤n):w.there g o k:=λj hj=>
 ⟨by rw[h.cell (o+j) (by omega)];rfl,h.frozen _⟩
theorem Cells.new(w:Aa)(t:AN)(cs:AP)(f:Nat→At)(h: ∀i,i<cs.size→cs[i]?=I (f i)):Cells (w.alloc (.cells cs t)) ↑w t cs.size f:=⟨cs,AI _ _ _,rfl,h⟩
theorem Cells.new'(w:Aa)(t:AN)(cs:AP)(n:Nat)(f:Nat→At)(h:cs.toList=(Cw n).map f):Cells (w.alloc (.cells cs t)) ↑w t n f:=by
 refine⟨cs,AI _ _ _,by rw[←Array.length_toList,h];simp,λi hi=>?_⟩;rw[←Fc,h];simp[hi]
theorem Cells.ne{g' n':Nat}{t':AN}{f':Nat→At}(h:Cells w g t n f)(h':Cells w g' t' n' f')(hne:t≠t'):g≠g':=by
 rintro rfl;obtain⟨cs,h1,_⟩:=h;obtain⟨cs',h1',_⟩:=h';unfold Blk at h1 h1';rw[h1] at h1';injection h1' with e;injection e with _ e2;exact hne e2
end
theorem U1{P:CG}(w:Aa)(t e:AN)(n:Nat)(cs:List At)(i:Nat)(v:At)(d:TypeDesc)(h:P.underlying t=I (.array n e))(hi:i<n)(hu:P.underlying e=I d)(hd:d.isRow=Ac)(hs:(P.info? e).map (·.size)=I 1)(hv:cs[i]?=I v)(k:IntKind):(Instr.index t (A8 cs.toArray) (J k (i:Int))).run P w=.ok v w:=by
 cases hq:P.info? e with
 |none=>simp[hq] at hs
 |some inf=>
  have hs':inf.size=1:=by simpa[hq] using hs
  have hagg:(isAgg e).run P w=.ok Ac w:=by
   unfold isAgg;rw[GP,Fk hu w]
   cases d<;>simp_all
  simp[Instr.index,Fk h,asIntOf,hi,part,GP,hagg,sizeOf,typeInfo,hq,hs',hv]
def LR:=@Cells.alloc
end
section
section
variable {S:AE} {w w':Aa} {t:AN} {g:Nat} {a b c d x y:At}
end
theorem Fr.inl2{a b:Nat}{w w':Aa}(f:Fr (· =a) w w'):Fr (λk=>k=a∨k=b) w w':=f.mono λ_ _ e=> Af e
theorem Fr.none{S:AE}{w w':Aa}(f:Fr Aj w w'):Fr S w w':=f.mono λ_ _ e=>e.elim
end
namespace Fm
structure Pl where
 own:Nat→Int
 prom:Nat→Int
 byt:Nat→Int
def GY(s:Pl)(i:Nat):At:=if i<16384 then J AD (s.byt i) else if i<16640 then J U (s.own (i -16384)) else J U (s.prom (i -16640))
def Bw(f:Nat→Int)(k:Nat)(v:Int):Nat→Int:=λj=>if j=k then v else f j
theorem LS(f:Nat→Int)(k:Nat)(v:Int):Bw f k v k=v:=by simp[Bw]
theorem P6(f:Nat→Int){k j:Nat}(v:Int)(h:j≠k):Bw f k v j=f j:=by simp[Bw,h]
def Pl.setOwn(s:Pl)(f:Nat)(o:Int):Pl:={s with own:=Bw s.own f o}
def Pl.setProm(s:Pl)(o:Nat)(n:Int):Pl:={s with prom:=Bw s.prom o n}
def Pl.setByt(s:Pl)(i:Nat)(b:Int):Pl:={s with byt:=Bw s.byt i b}
def Pl.wipe(s:Pl)(f:Nat):Pl:={s with byt:=λi=>if f*64≤i∧i<f*64+64 then 0 else s.byt i}
def Pl.new:Pl:=⟨λ_=> -1,λ_=> -1,λ_=>0⟩
structure Pl.Ok(s:Pl):Prop where
 own: ∀f,f<256→ -1≤s.own f∧s.own f<4
 prom: ∀o,o<4→ -1≤s.prom o∧s.prom o≤64
def Pool(w:Aa)(g:Nat)(s:Pl):Prop:=Cells w g 95 16644 (GY s)
section
variable {w w':Aa} {g:Nat} {s:Pl} {S:AE}
theorem Pool.fr(h:Pool w g s)(f:Fr S w w')(hn: ¬S g):Pool w' g s:=Cells.fr h f hn
theorem Pool.lt(h:Pool w g s):g<↑w:=Cells.lt h
theorem Pool.drew(h:Pool w g s):Pool w.drew g s:=h
theorem Pool.alloc(h:Pool w g s)(o:Obj):Pool (w.alloc o) g s:=LR h o
theorem Pool.cOwn(h:Pool w g s)(f:Nat)(hf:f<256):w.cell? ⟨g,16384+f,G⟩=I (J U (s.own f)):=by
 rw[Cells.cell h _ O,GY,Ae O,An O,show 16384+f -16384=f by omega]
theorem Pool.cProm(h:Pool w g s)(o:Nat)(ho:o<4):w.cell? ⟨g,16640+o,G⟩=I (J U (s.prom o)):=by
 rw[Cells.cell h _ O,GY,Ae O,Ae O,show 16640+o -16640=o by omega]
theorem Pool.cByt(h:Pool w g s)(i:Nat)(hi:i<16384):w.cell? ⟨g,i,G⟩=I (J AD (s.byt i)):=by
 rw[Cells.cell h _ O,GY,An hi]
theorem Pool.setOwn(h:Pool w g s)(f:Nat)(hf:f<256)(o:Int):Pool (w.setCell ⟨g,16384+f,G⟩ (J U o)) g (s.setOwn f o):=by
 refine Cells.congr (Cells.set_ h _ _) (λi hi=>?_);unfold BC GY Pl.setOwn Bw;by_cases e:i=16384+f;·rw[An e,Ae O,An O];dsimp only;rw[An O]
 ·rw[Ae e];by_cases h1:i<16384;·rw[An h1,An h1]
  ·by_cases h2:i<16640;·rw[Ae h1,An h2,Ae h1,An h2];dsimp only;exact Nq
   ·rw[Ae h1,Ae h2,Ae h1,Ae h2]
theorem Pool.setProm(h:Pool w g s)(o:Nat)(ho:o<4)(n:Int):Pool (w.setCell ⟨g,16640+o,G⟩ (J U n)) g (s.setProm o n):=by
 refine Cells.congr (Cells.set_ h _ _) (λi hi=>?_);unfold BC GY Pl.setProm Bw;by_cases e:i=16640+o;·rw[An e,Ae O,Ae O];dsimp only;rw[An O]
 ·rw[Ae e];by_cases h1:i<16384;·rw[An h1,An h1]
  ·by_cases h2:i<16640;·rw[Ae h1,An h2,Ae h1,An h2]
   ·rw[Ae h1,Ae h2,Ae h1,Ae h2];dsimp only;exact Nq
theorem Pool.setByt(h:Pool w g s)(j:Nat)(hj:j<16384)(b:Int):Pool (w.setCell ⟨g,j,G⟩ (J AD b)) g (s.setByt j b):=by
 refine Cells.congr (Cells.set_ h _ _) (λi hi=>?_);unfold BC GY Pl.setByt Bw;by_cases e:i=j;·rw[An e,An O];dsimp only;rw[An e]
 ·exact U2
theorem Pool.wipe(h:Pool w g s)(f:Nat)(hf:f<256):Pool (w.setCells g (f*64) (Ex 64 (J AD 0))) g (s.wipe f):=by
 refine Cells.congr (Cells.setCells _ _ h) (λi hi=>?_);unfold putR GY Pl.wipe;rw[List.length_replicate];by_cases e:f*64≤i∧i<f*64+64;·rw[An e,An O];dsimp only;rw[An e,AU,List.getElem?_replicate,An O];rfl
 ·exact U2
end
def isO(o:Int):Bool:=decide (0≤o∧o<4)
def isF(f:Int):Bool:=decide (16≤f∧f<256)
theorem is_any(w:Aa)(o:Int):As Tryz.prog 81 #[J U o] w λe w'=>e=Av (Ao (isO o))∧w=w':=by
 by_cases h0:0≤o
 ·by_cases h1:o<4
  ·have hb:isO o=Ag:=by simp[isO,h0,h1]
   exact KD
  ·have hb:isO o=Ac:=by simp[isO,h1]
   have h1':decide (o<4)=Ac:=Dk;exact KD
 ·have hb:isO o=Ac:=by simp[isO,h0]
  have h0':decide (0≤o)=Ac:=JJ;exact KD
theorem frame_any(w:Aa)(f:Int):As Tryz.prog 105 #[J U f] w λe w'=>e=Av (Ao (isF f))∧w=w':=by
 by_cases h0:16≤f
 ·by_cases h1:f<256
  ·have hb:isF f=Ag:=by simp[isF,h0,h1]
   exact KD
  ·have hb:isF f=Ac:=by simp[isF,h1]
   have h1':decide (f<256)=Ac:=Dk;exact KD
 ·have hb:isF f=Ac:=by simp[isF,h0]
  have h0':decide (16≤f)=Ac:=JJ;exact KD
def Fy(s:Pl)(f:Int):Bool:=isF f&&(s.own f.toNat != -1)
def JK(s:Pl)(f:Int):Int:=if Fy s f then s.own f.toNat else 0
theorem lF(w:Aa)(g:Nat)(s:Pl)(f:Int)(h:Pool w g s):As Tryz.prog 85 #[↑g,J U f] w λe w'=>e=Av (AF #[J U (JK s f),Ao (Fy s f)])∧w=w':=by
 have hf:=λw=>frame_any w f;have Hf:=T hf;clear hf;by_cases h1:isF f=Ag
 ·obtain⟨h2,h3⟩:16≤f∧f<256:=by simpa[isF] using h1
  obtain⟨k,rfl⟩: ∃k:Nat,f=k:=⟨f.toNat,O⟩;have c:=h.cOwn k O;rw[h1] at Hf;by_cases h4:s.own k= -1
  ·have e1:Fy s k=Ac:=by simp[Fy,h4]
   have e2:JK s k=0:=by simp[JK,e1]
   rw[e1,e2];clear e1 e2 h1;rw[h4] at c;exact P9
  ·have e1:Fy s k=Ag:=by simp[Fy,h4,h1]
   have e2:JK s k=s.own k:=by simp[JK,e1]
   rw[e1,e2];have h4':(s.own k== -1)=Ac:=by simpa using h4
   clear e1 e2 h1 h4;exact P9
 ·have h1:isF f=Ac:=Dk;have e1:Fy s f=Ac:=by simp[Fy,h1]
  have e2:JK s f=0:=by simp[JK,e1]
  rw[e1,e2];rw[h1] at Hf;clear e1 e2 h1;exact P9
end Fm
namespace Fm
def DF(s:Pl)(f a:Int):Bool:=Fy s f&&decide (0≤a∧a<64)
theorem ownB_in{s:Pl}{f:Int}(h:Fy s f=Ag):16≤f∧f<256:=by
 simp[Fy,isF] at h;exact h.1
theorem U3(w:Aa)(g:Nat)(s:Pl)(f a:Int)(h:Pool w g s):As Tryz.prog 68 #[↑g,J U f,J U a] w λe w'=>e=Av (Ao (DF s f a))∧w=w':=by
 have ho:=T (lF w g s f h)
 cases hb:Fy s f
 ·have e1:DF s f a=Ac:=by simp[DF,hb]
  rw[e1];have hv:=ho.out;rw[hb] at hv;have Hv:=T hv;clear hv hb e1 ho;go_in;go_wp2_with fail;refine Ax Hv ?_;exact LU
 ·have hv:=ho.out;rw[hb] at hv;have Hv:=T hv;clear hv ho;by_cases h0:0≤a
  ·by_cases h1:a<64
   ·have e1:DF s f a=Ag:=by simp[DF,hb,h0,h1]
    exact PA
   ·have e1:DF s f a=Ac:=by simp[DF,h1]
    have h1':decide (a<64)=Ac:=Dk;exact PA
  ·have e1:DF s f a=Ac:=by simp[DF,h0]
   have h0':decide (0≤a)=Ac:=JJ;exact PA
theorem U4{s:Pl}{f a:Int}(h:DF s f a=Ag): ∃k j:Nat,f=k∧a=j∧16≤k∧k<256∧j<64:=by
 simp[DF] at h;obtain⟨h1,h2,h3⟩:=h;have:=ownB_in h1;exact⟨f.toNat,a.toNat,O,O,O,O,O⟩
def JL(s:Pl)(f a:Int):Int:=if DF s f a then s.byt (f.toNat*64+a.toNat) else 0
theorem byte_any(w:Aa)(g:Nat)(s:Pl)(f a:Int)(h:Pool w g s):As Tryz.prog 52 #[↑g,J U f,J U a] w λe w'=>e=Av (AF #[J AD (JL s f a),Ao (DF s f a)])∧w=w':=by
 have hh:=T (U3 w g s f a h)
 cases hb:DF s f a
 ·have e1:JL s f a=0:=by simp[JL,hb]
  rw[e1];have hv:=hh.out;rw[hb] at hv;have Hv:=T hv;exact U5
 ·have e1:JL s f a=s.byt (f.toNat*64+a.toNat):=by simp[JL,hb]
  rw[e1];have hv:=hh.out;rw[hb] at hv;have Hv:=T hv;obtain⟨k,j,rfl,rfl,h1,h2,h3⟩:=U4 hb;have c:=h.cByt (k*64+j) O;exact U5
def Pl.putB(s:Pl)(f a b:Int):Pl:=if DF s f a then s.setByt (f.toNat*64+a.toNat) b else s
theorem put_any(w:Aa)(g:Nat)(s:Pl)(f a b:Int)(h:Pool w g s):As Tryz.prog 84 #[↑g,J U f,J U a,J AD b] w λe w'=>e=Av (Ao (DF s f a))∧Pool w' g (s.putB f a b)∧Fr (· =g) w w':=by
 have hh:=T (U3 w g s f a h)
 cases hb:DF s f a
 ·have e1:s.putB f a b=s:=by simp[Pl.putB,hb]
  rw[e1];have hv:=hh.out;rw[hb] at hv;have Hv:=T hv;clear hv hb e1 hh;go_in;go_wp2_with fail;refine Ax Hv ?_;exact PB
 ·have e1:s.putB f a b=s.setByt (f.toNat*64+a.toNat) b:=by simp[Pl.putB,hb]
  rw[e1];have hv:=hh.out;rw[hb] at hv;have Hv:=T hv;obtain⟨k,j,rfl,rfl,h1,h2,h3⟩:=U4 hb;have c:=h.cByt (k*64+j) O;have z:=Cells.frozen h (k*64+j);have hp:=h.setByt (k*64+j) O b;clear hv hb e1 hh;go_in;go_wp2_with fail;refine Ax Hv ?_;rintro e w' ⟨rfl,rfl⟩
  go_wp2
  go_ret;exact⟨rfl,hp,Bt _ _ _ _⟩
end Fm
namespace Fm
def pz:List At:=Ex 16384 (J AD 0)++Ex 260 (J U 0)
def pza:AP:=pz.toArray
set_option maxRecDepth 1000000 in
theorem zeroPool:(Tryz.prog.info? 95).bind (·.zero)=I (A8 pza):=AL
theorem lG(W:Aa):(zeroValue 95).run Tryz.prog W=.ok (A8 pza) W:=by
 have h:=zeroPool
 cases hi:Tryz.prog.info? 95 with
 |none=>rw[hi] at h;cases h
 |some i=>
  rw[hi] at h;have h':i.zero=I (A8 pza):=h;exact PC
def Jj(k:Nat):Pl:=⟨λj=>if j<k then -1 else 0,λ_=>0,λ_=>0⟩
def Jk(k:Nat):Pl:=⟨λ_=> -1,λj=>if j<k then -1 else 0,λ_=>0⟩
theorem pool0(w:Aa):Pool (w.alloc (.cells pza 95)) ↑w (Jj 0):=by
 refine⟨pza,AI _ _ _,by unfold pza pz;rw[List.size_toArray,Ck,List.length_replicate,List.length_replicate],λi hi=>?_⟩;unfold pza pz GY Jj;rw[List.getElem?_toArray];by_cases h1:i<16384;·rw[An h1,Fo (by rw[List.length_replicate];exact h1),List.getElem?_replicate,An h1]
 ·rw[Ae h1,EK (by rw[List.length_replicate];omega),List.length_replicate,List.getElem?_replicate,An O];have e0: ∀j:Nat,(if j<0 then(-1:Int) else 0)=0:=λj=>by rw[Ae (Nat.not_lt_zero j)]
  simp only[e0];by_cases h2:i<16640;·rw[An h2]
  ·rw[Ae h2]
theorem lH(k:Nat):(Jj k).setOwn k (-1)=Jj (k+1):=by
 unfold Jj Pl.setOwn Bw;exact PD
theorem lI(k:Nat):(Jk k).setProm k (-1)=Jk (k+1):=by
 unfold Jk Pl.setProm Bw;exact PD
theorem Pool.congr{w:Aa}{g:Nat}{s s':Pl}(h:Pool w g s)(h1: ∀f,f<256→s.own f=s'.own f)(h2: ∀o,o<4→s.prom o=s'.prom o)(h3: ∀i,i<16384→s.byt i=s'.byt i):Pool w g s':=by
 refine Cells.congr h (λi hi=>?_);unfold GY;by_cases e1:i<16384;·rw[An e1,An e1,h3 i e1]
 ·by_cases e2:i<16640;·rw[Ae e1,An e2,Ae e1,An e2,h1 _ O]
  ·rw[Ae e1,Ae e2,Ae e1,Ae e2,h2 _ O]
set_option maxRecDepth 100000 in
theorem new_any(w:Aa):As Tryz.prog 29 #[] w λe w'=>e=Av (Bm (I ⟨↑w,0,G⟩))∧Pool w' ↑w Pl.new∧Fr Aj w w':=by
 have hz:=lG;go_in;go_wp2_with fail;clear hz;go_loopw [2,6] (λ_ i wr=> ∃k:Nat,k≤256∧i=J U k∧Pool wr ↑w (Jj k)∧Fr Aj w wr) (λ_ i _=>256 -(AM i).toNat)
 case atStart=>exact⟨0,O,rfl,pool0 w,(Ak _ _).alloc _⟩
 case round=>
  obtain⟨k,hk,rfl,hP,fr⟩:=hrel;by_cases hlt:k<256;·have c:=hP.cOwn k hlt;have z:=Cells.frozen hP (16384+k);have hp:=hP.setOwn k hlt (-1);rw[lH] at hp;have fr2:=fr.setCell (p:=⟨↑w,16384+k,G⟩) (Ah (AC _)) (J U (-1));exact U6
  ·have e:k=256:=O;subst e;have hP:Pool wr ↑w (Jk 0):=hP.congr (λf hf=>by simp[Jj,Jk,hf]) (λo ho=>by simp[Jj,Jk]) (λi hi=>rfl);go_wp2_with fail;go_loopw [3,15] (λ_ i wr=> ∃k:Nat,k≤4∧i=J U k∧Pool wr ↑w (Jk k)∧Fr Aj w wr) (λ_ i _=>4 -(AM i).toNat)
   case atStart=>exact⟨0,O,rfl,hP,fr⟩
   case round=>
    clear hP fr;obtain⟨k,hk,rfl,hP,fr⟩:=hrel;by_cases hlt:k<4;·have c:=hP.cProm k hlt;have z:=Cells.frozen hP (16640+k);have hp:=hP.setProm k hlt (-1);rw[lI] at hp;have fr2:=fr.setCell (p:=⟨↑w,16640+k,G⟩) (Ah (AC _)) (J U (-1));exact U6
    ·have e:k=4:=O;subst e
     go_wp2
     go_ret;exact⟨rfl,hP.congr (λf hf=>rfl) (λo ho=>by simp[Jk,Pl.new,ho]) (λi hi=>rfl),fr⟩
theorem new_ok:Pl.new.Ok:=⟨λf hf=>by simp[Pl.new],λo ho=>by simp[Pl.new]⟩
def EP(s:Pl)(o:Int)(k:Nat):List Int:=((Cw k).filter λf=>s.own f==o).map Int.ofNat
theorem U7(s:Pl)(o:Int)(k:Nat):(EP s o k).length≤k:=by
 unfold EP;exact U8
theorem lJ(s:Pl)(o:Int)(k:Nat)(h:s.own k=o):EP s o (k+1)=EP s o k++[(k:Int)]:=U9
theorem heldN_no(s:Pl)(o:Int)(k:Nat)(h: ¬s.own k=o):EP s o (k+1)=EP s o k:=U9
def held(s:Pl)(o:Int):List Int:=if isO o then EP s o 256 else[]
def JM(l:List Int):List At:=l.map (J U)
theorem PE:(Tryz.prog.info? 3).map (λi=>(i.zero,i.size,i.bytes))=I (I (J U 0),1,8):=AL
def LY(w:Aa)(base:Nat)(l:List Int)(e:AZ)(w':Aa):Prop:=
 ∃v,e=Av v∧w'.ownsRow base 3 1 v l.length (JM l)∧Fr Aj w w'∧(∀k,v.ownBlock=I k→w.heap.size≤k)
set_option maxRecDepth 100000 in
theorem held_any(w:Aa)(g:Nat)(s:Pl)(o:Int)(h:Pool w g s)(base:Nat)(hb:base≤↑w):As Tryz.prog 133 #[↑g,J U o] w (LY w base (held s o)):=by
 obtain⟨i0,hi0,hz0,hz1,hz2⟩:=Cj PE;have hf:=λw=>is_any w o;have Hf:=T hf;clear hf
 cases hb:isO o
 ·have hG:LY w base (held s o) (Av (Z G 0 0)) w:=by
   have e:held s o=[]:=by simp[held,hb]
   rw[e];exact⟨_,rfl,⟨rfl,Af ⟨rfl,rfl⟩⟩,Ak _ _,λk hk=>Jl⟩
  rw[hb] at Hf;have HG:=T hG;clear hb hG;go_in;go_wp2_with fail;refine(Hf.out _).mono ?_;rintro e w' ⟨rfl,rfl⟩
  go_wp2
  go_ret;exact HG.out
 ·have he:held s o=EP s o 256:=by simp[held,hb]
  rw[he];rw[hb] at Hf;clear hb he;go_in;go_wp2_with fail;refine(Hf.out _).mono ?_;rintro e w' ⟨rfl,rfl⟩;go_wp2_with fail;go_loopw [5,11] (λv i wr=> ∃k:Nat,k≤256∧i=J U k∧wr.ownsRow base 3 1 v (EP s o k).length (JM (EP s o k))∧Fr Aj w wr∧(∀b,v.ownBlock=I b→w.heap.size≤b)) (λ_ i _=>256 -(AM i).toNat)
  case atStart=>exact⟨0,O,rfl,⟨rfl,Af ⟨rfl,rfl⟩⟩,Ak _ _,λk hk=>Jl⟩
  case round=>
   obtain⟨k,hk,rfl,hown,fr,hat⟩:=hrel;by_cases hlt:k<256
   ·have c:=(h.fr fr id).cOwn k hlt;have hle:=U7 s o k;have hbs:=Bg hb fr.size;by_cases ho:s.own k=o
    ·have Hs:=T (lJ s o k ho);rw[ho] at c;have hown':=Eb hown (.cells #[J U (k:Int)] 3);clear ho;generalize EP s o k=l at*;go_wp2_with
      (at_builtin
       refine CS _ rfl (.tmp 22) (.tmp 24) _ rfl base 3 i0 _ 1 8 Gd hi0 hz0 hz1 hz2 rfl O u5 l.length (JM l) rfl hown' (wr.heap.size+1) (I ⟨wr.heap.size,0,G⟩) 1 1 [J U (k:Int)] rfl (CT (AI _ _ _) rfl) Ee Cb O AA ?_
       intro v1 w1 hown1 hg1 hat1)
     exact UA
    ·have Hs:=T (heldN_no s o k ho);have ho':(s.own k==o)=Ac:=by simpa using ho
     clear ho;generalize EP s o k=l at*;exact UB
   ·have e:k=256:=O;subst e;have hG:LY w base (EP s o 256) (Av u5) wr:=⟨_,rfl,hown,fr,hat⟩;exact UC
end Fm
namespace Fm
def DU(s:Pl):Nat→Int
 |0=>0
 |k+1=>DU s k+max (s.prom k) 0
theorem sumP_bd{s:Pl}(h:s.Ok): ∀k,k≤4→0≤DU s k∧DU s k≤64*k:=by
 intro k
 induction k with
 |zero=>intro _;simp[DU]
 |succ k ih=>
  intro hk;have:=ih O;have:=h.prom k O;rw[DU];omega
def Ef(s:Pl)(o n:Int):Int:=
 if isO o=Ac∨n<0∨64<n then 1 else if s.prom o.toNat≠ -1 then 24 else if 240<n+DU s 4 then 13 else 0
def Pl.promise(s:Pl)(o n:Int):Pl:=if Ef s o n=0 then s.setProm o.toNat n else s
theorem lK{s:Pl}(h:s.Ok)(o n:Int):(s.promise o n).Ok:=by
 unfold Pl.promise;split
 ·rename_i hr
  have hn:isO o=Ag∧0≤n∧n≤64:=by
   unfold Ef at hr;split at hr;·omega
   ·rename_i hh;simp at hh;exact hh
  refine⟨h.own,λk hk=>?_⟩;unfold Pl.setProm Bw;dsimp only;split;·omega
  ·exact h.prom k hk
 ·exact h
def KE(s:Pl):List At:=[J U (s.prom 0),J U (s.prom 1),J U (s.prom 2),J U (s.prom 3)]
theorem UD(s:Pl)(k:Nat)(hk:k<4):(KE s)[k]?=I (J U (s.prom k)):=by
 rcases(by omega:k=0∨k=1∨k=2∨k=3) with rfl|rfl|rfl|rfl<;>rfl
set_option maxRecDepth 100000 in
theorem lL(w:Aa)(g:Nat)(s:Pl)(o n:Int)(h:Pool w g s)(hok:s.Ok)(hn0: -9223372036854775808≤n)(hn1:n≤9223372036854775807):As Tryz.prog 58 #[↑g,J U o,J U n] w λe w'=>e=Av (J U (Ef s o n))∧Pool w' g (s.promise o n)∧Fr (· =g) w w':=by
 have hf:=λw=>is_any w o;have Hf:=T hf;clear hf
 cases hb:isO o
 ·have e1:Ef s o n=1:=by simp[Ef,hb]
  have e2:=PF;rw[e1,e2];rw[hb] at Hf;exact UE
 ·rw[hb] at Hf;by_cases hn:n<0
  ·have e1:Ef s o n=1:=by simp[Ef,hn]
   have e2:=PF;rw[e1,e2];exact UE
  ·by_cases hn2:64<n
   ·have e1:Ef s o n=1:=by simp[Ef,hn2]
    have e2:=PF;rw[e1,e2];have hn':=PG;clear hb e1 e2 hn;exact UF
   ·obtain⟨ho1,ho2⟩:0≤o∧o<4:=by simpa[isO] using hb
    obtain⟨k,rfl⟩: ∃k:Nat,o=k:=⟨o.toNat,O⟩;have hk4:k<4:=O;have c:=h.cProm k hk4;have z:=Cells.frozen h (16640+k);by_cases hp:s.prom k= -1
    ·have hr:w.rangeAt g 16640 (KE s):=Cells.rangeAt h 16640 _ (by simp[KE]) (λj hj=>by
      have hj4:j<4:=by simpa[KE] using hj
      rw[UD s j hj4,GY,Ae O,Ae O,show 16640+j -16640=j by omega])
     have hix: ∀(j:Nat),j<4→ ∀w,(Instr.index 93 (A8 (KE s).toArray) (J U (j:Int))).run Tryz.prog w=.ok (J U (s.prom j)) w:=λj hj w=>
      U1 w _ 3 4 _ j _ _ Tryz.underlying93 hj Tryz.underlying3 rfl AL (UD s j hj) U
     have Hix:=T hix;have hinf:(Tryz.prog.info? 93).map (·.size)=I (KE s).length:=AL;have hbd:=sumP_bd hok;have Hbd:=T hbd;have hpw:=h.setProm k hk4 n;have Hpw:=T hpw;have e1:Ef s k n=if 240<n+DU s 4 then 13 else 0:=by simp[Ef,hb,hn,hn2,hp]
     have E1:=T e1;have E2:=T (show s.promise k n=if 240<n+DU s 4 then s else s.setProm k n by
      unfold Pl.promise;rw[e1];by_cases hh:240<n+DU s 4;·rw[An hh,An hh,Ae O]
      ·rw[Ae hh,Ae hh,An rfl];rfl)
     have hn':=PG;have hn2':decide (64<n)=Ac:=by simpa using hn2
     have hn3:0≤n:=O;have hn4:n≤64:=O;rw[hp] at c;clear hix hbd hpw e1 hp hb hn hn2;go_in;go_wp2_with fail;refine(Hf.out _).mono ?_;rintro e w' ⟨rfl,rfl⟩;go_wp2_with (refine wpList_load_mid rfl 93 (.tmp 33) rfl g 16640 rfl _ _ hr Tryz.underlying93 rfl hinf ?_);clear hr hinf
     go_loop [7,35] (λa i=> ∃j:Nat,j≤4∧i=J U j∧a=J U (n+DU s j)) (λ_ i=>4 -(AM i).toNat)
     case atStart=>exact⟨0,O,rfl,by simp[DU]⟩
     case round=>
      obtain⟨j,hj,rfl,rfl⟩:=hrel;by_cases hlt:j<4
      ·have hi:=Hix.out j hlt;obtain⟨hb0,hb1⟩:=Hbd.out j hj;have hpj:=hok.prom j hlt;have Hs:=T (show DU s (j+1)=DU s j+max (s.prom j) 0 from rfl);generalize DU s j=sj at*;generalize s.prom j=pj at*;go_wp2_with fail
       all_goals
        go_round
        case rel=>exact⟨j+1,O,Bo,by rw[Hs.out];congr 1;omega⟩
        case measure=>simp[AM];omega
      ·have e4:j=4:=O;subst e4;obtain⟨hb0,hb1⟩:=Hbd.out 4 O;generalize DU s 4=s4 at*;by_cases hh:240<n+s4
       ·have H1:=T (E1.out.trans (An hh));have H2:=T (E2.out.trans (An hh))
        go_wp2
        go_ret;exact⟨by rw[H1.out];rfl,by rw[H2.out];exact h,Ak _ _⟩
       ·have H1:=T (E1.out.trans (Ae hh));have H2:=T (E2.out.trans (Ae hh))
        go_wp2
        go_ret;exact⟨by rw[H1.out];rfl,by rw[H2.out];exact Hpw.out,Bt _ _ _ _⟩
    ·have e1:Ef s k n=24:=by simp[Ef,hb,hn,hn2,hp]
     have e2:s.promise k n=s:=by simp[Pl.promise,e1]
     rw[e1,e2];have hn':=PG;have hn2':decide (64<n)=Ac:=by simpa using hn2
     have hp':(s.prom k != -1)=Ag:=LZ;clear hb e1 e2 hn hn2 hp;exact UF
end Fm
namespace Fm
theorem UG{w:Aa}{base n:Nat}{e:AN}{v:At}{xs:List At}(h:w.ownsRow base e 1 v n xs): ∃A cap,v=Z A n cap:=by
 rcases h.2 with⟨rfl,rfl⟩|⟨g,cap,cur,rfl,_⟩;·exact⟨G,0,rfl⟩
 ·exact⟨_,cap,rfl⟩
def Ma(s:Pl)(k:Nat):Prop:= ∀j,16≤j→j<k→s.own j≠ -1
def Ge(s:Pl):Option Nat:=(Cw 256).find? λf=>decide (16≤f)&&s.own f== -1
variable{s:Pl}
theorem lM{k:Nat}(h:Ma s k)(h16:16≤k)(hk:k<256)(ho:s.own k= -1):Ge s=I k:=by
 unfold Ge;rw[List.find?_range_eq_some];refine⟨by simp[h16,ho],by simpa using hk,λj hj=>?_⟩;by_cases h1:16≤j;·have:=h j h1 hj;simp[this]
 ·simp[h1]
theorem lN(h:Ma s 256):Ge s=G:=by
 unfold Ge;rw[List.find?_eq_none];intro j hj;have hj2:j<256:=by simpa using hj
 by_cases h1:16≤j;·have:=h j h1 hj2;simp[this]
 ·simp[h1]
theorem lO{k:Nat}(h:Ge s=I k):16≤k∧k<256∧s.own k= -1∧Ma s k:=by
 unfold Ge at h;rw[List.find?_range_eq_some] at h;obtain⟨h1,h2,h3⟩:=h;simp at h1 h2;refine⟨h1.1,h2,h1.2,λj h16 hj=>?_⟩;have:=h3 j hj;simpa[h16] using this
def G8(s:Pl)(o:Int):Bool:=isO o&&decide (((held s o).length:Int)<s.prom o.toNat)
def Eh(s:Pl)(o:Int):Option Nat:=if G8 s o then Ge s else G
def DG(s:Pl)(o:Int):Int:=if isO o=Ac then 1 else if(Eh s o).isSome then 0 else 13
def Pl.take(s:Pl)(o:Int):Pl:=match Eh s o with
 |some f=>(s.setOwn f o).wipe f
 |none=>s
def EQ(s:Pl)(o:Int):Int:=match Eh s o with
 |some f=>(f:Int)
 |none=>0
theorem take_ok(h:s.Ok)(o:Int):(s.take o).Ok:=by
 unfold Pl.take;split
 ·rename_i f hf
  have ho:0≤o∧o<4:=by
   unfold Eh at hf;split at hf
   ·rename_i hm
    simp[G8,isO] at hm;exact hm.1
   ·cases hf
  refine⟨λk hk=>?_,h.prom⟩;unfold Pl.wipe Pl.setOwn Bw;dsimp only;split;·omega
  ·exact h.own k hk
 ·exact h
def z64:AP:=(Ex 64 (J AD 0)).toArray
theorem held_len(s:Pl)(o:Int):(held s o).length≤256:=by
 unfold held;split;·exact U7 s o 256
 ·simp
set_option maxRecDepth 100000 in
theorem take_any(w:Aa)(g:Nat)(s:Pl)(o:Int)(h:Pool w g s)(hok:s.Ok):As Tryz.prog 104 #[↑g,J U o] w λe w'=>e=Av (AF #[J U (EQ s o),J U (DG s o)])∧Pool w' g (s.take o)∧Fr (· =g) w w':=by
 have hf:=λw=>is_any w o;have Hf:=T hf;clear hf
 cases hb:isO o
 ·have e0:Eh s o=G:=by simp[Eh,G8,hb]
  have e1:EQ s o=0:=Nr;have e2:DG s o=1:=by simp[DG,hb]
  have e3:s.take o=s:=Ns;rw[e1,e2,e3];rw[hb] at Hf;clear hb e0 e1 e2 e3;go_in;go_wp2_with fail;refine(Hf.out _).mono ?_;rintro e w' ⟨rfl,rfl⟩
  go_wp2
  go_ret2;exact⟨rfl,h,Ak _ _⟩
 ·rw[hb] at Hf;obtain⟨ho1,ho2⟩:0≤o∧o<4:=by simpa[isO] using hb
  obtain⟨m,rfl⟩: ∃k:Nat,o=k:=⟨o.toNat,O⟩;have hm4:m<4:=O;have c:=h.cProm m hm4;have hlt:=h.lt;have hheld:=T (held_any w.drew g s m (h.drew) ↑w (AC _));have hhl:=held_len s m;have hmt:G8 s m=decide (((held s m).length:Int)<s.prom m):=by simp[G8,hb]
  have hpm:=hok.prom m hm4;obtain⟨hp0,hp1⟩:=hpm;by_cases hfull:((held s m).length:Int)<s.prom m
  ·have hmt:G8 s m=Ag:=by rw[hmt];simpa using hfull
   have eF:Eh s m=Ge s:=by rw[Eh,An hmt]
   have EF:=T eF;have HB:=T hb;clear eF hmt hb;generalize hq:(held s m).length=hn at*;have Hhl:=T hq;clear hq;go_in;go_wp2_with fail;refine(Hf.out _).mono ?_;rintro e w' ⟨rfl,rfl⟩;go_wp2_with fail
   go_region_with ((go_at_call 133;refine Ax hheld ?_;rintro e w1 ⟨v,rfl,ho5,f5,k5⟩;rw[Hhl.out] at ho5;have c5:=f5.cell (w:=w.drew) c hlt id;obtain⟨A5,cap5,hv5⟩:=UG ho5;subst hv5))
   all_goals
    have hP1:Pool w1 g s:=h.drew.fr f5 id;have fr1:=UH;go_wp2_with fail
    go_loop [6] (λi=> ∃k:Nat,16≤k∧k≤256∧i=J U k∧Ma s k) (λi=>256 -(AM i).toNat)
    case atStart=>exact⟨16,O,O,rfl,λj h1 h2=>O⟩
    case round=>
     obtain⟨k,h16,hk,rfl,hNF⟩:=hrel;by_cases hlt2:k<256
     ·have c:=hP1.cOwn k hlt2;by_cases ho:s.own k= -1
      ·have z:=Cells.frozen hP1 (16384+k);have hp1:=hP1.setOwn k hlt2 m;have hth:=Cells.there hp1 (k*64) z64.size (by simp[z64];omega);have hinf:(Tryz.prog.info? 90).map (·.size)=I z64.size:=AL;have hone:z64.all (·.oneCell')=Ag:=all_oneCell_toArray (λv hv=>UI);have hp2:=hp1.wipe k hlt2;have fr2:=Fr.setRow (Ex 64 (J AD 0)) (k*64) (fr1.setCell (p:=⟨g,16384+k,G⟩) (Af rfl) (J U m)) (Af rfl);have e0:Eh s m=I k:=(EF.out).trans (lM hNF h16 hlt2 ho);have e1:EQ s m=k:=Nr;have e2:DG s m=0:=by simp[DG,e0,HB.out]
       have e3:s.take m=(s.setOwn k m).wipe k:=Ns;have HP2:=T hp2;have FR2:=T fr2;have E1:=T e1;have E2:=T e2;have E3:=T e3;have hz:z64.toList=Ex 64 (J AD 0):=by simp[z64]
       have HZ:=T hz;rw[ho] at c;clear hp1 hp2 fr2 e0 e1 e2 e3 ho hz;go_wp2_with (refine wpList_store_mid rfl 90 (.tmp 45) (.tmp 42) rfl g (k*64) z64 rfl rfl hth hinf hone ?_);go_ret2;rw[HZ.out];exact⟨by rw[E1.out,E2.out];rfl,by rw[E3.out];exact HP2.out,FR2.out⟩
      ·have ho':(s.own k== -1)=Ac:=by simpa using ho
       have hNF2:Ma s (k+1):=λj h1 h2=>by
        by_cases e:j=k;·rw[e];exact ho
        ·exact hNF j h1 O
       clear ho;go_wp2_with fail
       go_round
       case rel=>exact⟨k+1,O,O,Bo,hNF2⟩
       case measure=>simp[AM];omega
     ·have e:k=256:=O;subst e;have e0:Eh s m=G:=(EF.out).trans (lN hNF);have e1:EQ s m=0:=Nr;have e2:DG s m=13:=by simp[DG,e0,HB.out]
      have e3:s.take m=s:=Ns;have E1:=T e1;have E2:=T e2;have E3:=T e3;clear e0 e1 e2 e3
      go_wp2
      go_ret2;exact⟨by rw[E1.out,E2.out];rfl,by rw[E3.out];exact hP1,fr1⟩
  ·have hmt:G8 s m=Ac:=by rw[hmt];simpa using hfull
   have e0:Eh s m=G:=by simp[Eh,hmt]
   have e1:EQ s m=0:=Nr;have e2:DG s m=13:=by simp[DG,e0,hb]
   have e3:s.take m=s:=Ns;rw[e1,e2,e3];clear e0 e1 e2 e3 hmt hb;generalize hq:(held s m).length=hn at*;have Hhl:=T hq;have hfull':s.prom m≤(hn:Int):=O;clear hq hfull;go_in;go_wp2_with fail;refine(Hf.out _).mono ?_;rintro e w' ⟨rfl,rfl⟩;go_wp2_with fail
   go_region_with ((go_at_call 133;refine Ax hheld ?_;rintro e w1 ⟨v,rfl,ho5,f5,k5⟩;rw[Hhl.out] at ho5;have c5:=f5.cell (w:=w.drew) c hlt id;obtain⟨A5,cap5,hv5⟩:=UG ho5;subst hv5))
   all_goals
    have hP1:Pool w1 g s:=h.drew.fr f5 id;have fr1:=UH
    go_wp2
    go_ret2;exact⟨rfl,hP1,fr1⟩
end Fm
namespace Fm
end Fm
namespace Fm
end Fm
namespace Fm
def cnt(p:Nat→Bool):Nat→Nat
 |0=>0
 |k+1=>cnt p k+if p k then 1 else 0
theorem cnt_le(p:Nat→Bool)(k:Nat):cnt p k≤k:=by
 induction k with
 |zero=>simp[cnt]
 |succ k ih=>simp only[cnt];split<;>omega
variable{p:Nat→Bool}
theorem UJ{q:Nat→Bool}: ∀{k:Nat},(∀j,j<k→p j=q j)→cnt p k=cnt q k:=by
 intro k
 induction k with
 |zero=>intro _;rfl
 |succ k ih=>
  intro h;rw[cnt,cnt,ih (λj hj=>h j O),h k O]
variable{f:Nat}
theorem UK{q:Nat→Bool}(hp:p f=Ac)(hq:q f=Ag)(ho: ∀j,j≠f→q j=p j): ∀{k:Nat},f<k→cnt q k=cnt p k+1:=by
 intro k
 induction k with
 |zero=>intro h;omega
 |succ k ih=>
  intro h;rw[cnt,cnt];by_cases e:f=k;·subst e;rw[UJ (λj hj=>ho j O),hp,hq];simp
  ·rw[ih O,ho k (λe2=>e e2.symm)];omega
theorem cnt_lt(hp:p f=Ac): ∀{k:Nat},f<k→cnt p k<k:=by
 intro k
 induction k with
 |zero=>intro h;omega
 |succ k ih=>
  intro h;rw[cnt];by_cases e:f=k;·subst e;rw[hp];have:=cnt_le p f;simp;omega
  ·have:=ih O;split<;>omega
theorem PH: ∀{k:Nat},0<cnt p k→ ∃f,f<k∧p f=Ag:=by
 intro k
 induction k with
 |zero=>intro h;simp[cnt] at h
 |succ k ih=>
  intro h;by_cases e:p k=Ag;·exact⟨k,O,e⟩
  ·rw[cnt,Ae e] at h;obtain⟨f,h1,h2⟩:=ih O;exact⟨f,O,h2⟩
theorem lP(p:Nat→Bool)(k:Nat):((Cw k).filter p).length=cnt p k:=by
 induction k with
 |zero=>rfl
 |succ k ih=>
  rw[GZ,List.filter_append,Ck,ih,cnt];congr 1;by_cases e:p k=Ag;·simp[e]
  ·simp[e]
def hN(s:Pl)(o:Int)(k:Nat):Nat:=cnt (λf=>s.own f==o) k
def fN(s:Pl)(k:Nat):Nat:=cnt (λf=>decide (16≤f)&&s.own f== -1) k
theorem lQ(s:Pl)(o:Int)(k:Nat):(EP s o k).length=hN s o k:=by
 unfold EP hN;rw[GA,lP]
variable{s:Pl}
theorem lR{o:Int}(h:isO o=Ag):(held s o).length=hN s o 256:=by
 unfold held;rw[An h,lQ]
structure PInv(s:Pl):Prop where
 ok:s.Ok
 low: ∀f,f<16→s.own f= -1
 held: ∀o:Nat,o<4→(hN s o 256:Int)≤max (s.prom o) 0
 sum:DU s 4≤240
theorem all_sum(h:s.Ok)(hl: ∀f,f<16→s.own f= -1): ∀k,k≤256→fN s k+(hN s 0 k+hN s 1 k+hN s 2 k+hN s 3 k)+min k 16=k:=by
 intro k
 induction k with
 |zero=>intro _;rfl
 |succ k ih=>
  intro hk;have:=ih O;obtain⟨h1,h2⟩:=h.own k O;unfold fN hN at*;simp only[cnt];by_cases e:k<16;·have e2:=hl k e;simp[show ¬16≤k by omega,e2];omega
  ·rcases(by omega:s.own k= -1∨s.own k=0∨s.own k=1∨s.own k=2∨s.own k=3) with e1|e1|e1|e1|e1<;>simp[show 16≤k by omega,e1]<;>omega
theorem sumP4(s:Pl):DU s 4=max (s.prom 0) 0+max (s.prom 1) 0+max (s.prom 2) 0+max (s.prom 3) 0:=by
 simp[DU]
theorem PInv.total(h:PInv s):fN s 256+(hN s 0 256+hN s 1 256+hN s 2 256+hN s 3 256)=240:=by
 have:=all_sum h.ok h.low 256 O;omega
theorem PInv.new:PInv Pl.new:=by
 refine⟨new_ok,λf _=>rfl,λo ho=>?_,Ap⟩;have:hN Pl.new o 256=0:=by
  rcases Gr (hN Pl.new o 256) with h|h;·exact h
  ·obtain⟨f,_,hf⟩:=PH h;simp[Pl.new] at hf
 rw[this];show((0:Nat):Int)≤max (-1) 0;omega
theorem PInv.room(h:PInv s){o:Nat}(ho:o<4)(hr:(hN s o 256:Int)<s.prom o):0<fN s 256:=by
 have ht:=h.total;have h0:=h.held 0 O;have h1:=h.held 1 O;have h2:=h.held 2 O;have h3:=h.held 3 O;have hs:=h.sum;rw[sumP4] at hs;rcases(by omega:o=0∨o=1∨o=2∨o=3) with rfl|rfl|rfl|rfl<;>simp at* <;>omega
theorem lS(h:0<fN s 256): ∃f,Ge s=I f:=by
 obtain⟨f,hf,hp⟩:=PH h
 cases ht:Ge s with
 |some g=>exact⟨g,rfl⟩
 |none=>
  unfold Ge at ht;rw[List.find?_eq_none] at ht;have:=ht f (by simpa using hf);simp at this hp;exact absurd hp.2 (this hp.1)
theorem PInv.takes(h:PInv s){o:Nat}(ho:o<4)(hr:(hN s o 256:Int)<s.prom o): ∃f,Eh s o=I f∧Ge s=I f∧16≤f∧f<256∧s.own f= -1∧DG s o=0∧EQ s o=f∧s.take o=(s.setOwn f o).wipe f:=by
 obtain⟨f,hf⟩:=lS (h.room ho hr);have hO:isO (o:Int)=Ag:=by simp[isO];omega
 have hm:G8 s o=Ag:=UL;have e:Eh s o=I f:=by rw[Eh,An hm,hf]
 obtain⟨h1,h2,h3,_⟩:=lO hf;refine⟨f,e,hf,h1,h2,h3,by simp[DG,e,hO],by simp[EQ,e],by simp[Pl.take,e]⟩
theorem take_not{o:Nat}(ho:o<4)(hr:s.prom o≤(hN s o 256:Int)):DG s o=13∧EQ s o=0∧s.take o=s:=by
 have hO:isO (o:Int)=Ag:=by simp[isO];omega
 have hm:G8 s o=Ac:=UL;have e:Eh s o=G:=by rw[Eh,Ae (by simp[hm])]
 exact⟨by simp[DG,e,hO],by simp[EQ,e],by simp[Pl.take,e]⟩
theorem UM(hf:f<256)(ho:s.own f= -1)(o q:Nat):hN ((s.setOwn f o).wipe f) q 256=if q=o then hN s q 256+1 else hN s q 256:=by
 unfold hN;by_cases e:q=o
 ·subst e;rw[An rfl];refine UK (f:=f) ?_ ?_ (λj hj=>?_) hf;·rw[ho];simp
  ·simp[Pl.wipe,Pl.setOwn,Bw]
  ·simp[Pl.wipe,Pl.setOwn,Bw,hj]
 ·rw[Ae e];refine UJ λj hj=>?_;by_cases e2:j=f;·subst e2;rw[ho];have h1:((o:Int)==(q:Int))=Ac:=AA;have h2:((-1:Int)==(q:Int))=Ac:=AB;simp only[Pl.wipe,Pl.setOwn,Bw,if_true];rw[h1,h2]
  ·simp[Pl.wipe,Pl.setOwn,Bw,e2]
theorem PInv.take(h:PInv s)(o:Int):PInv (s.take o):=by
 have hok:=take_ok h.ok o;by_cases hO:isO o=Ag
 ·obtain⟨h0,h1⟩:0≤o∧o<4:=by simpa[isO] using hO
  obtain⟨m,rfl⟩: ∃k:Nat,o=k:=⟨o.toNat,O⟩;have hm:m<4:=O;rcases Int.lt_or_le (hN s m 256:Int) (s.prom m) with hr|hr
  ·obtain⟨f,_,_,f1,f2,f3,_,_,e⟩:=h.takes hm hr;rw[e] at hok⊢;refine⟨hok,λj hj=>?_,λq hq=>?_,h.sum⟩;·simp only[Pl.wipe,Pl.setOwn,Bw];rw[Ae O];exact h.low j hj
   ·rw[UM f2 f3];have:=h.held q hq;show _≤max (s.prom q) 0;split;·rename_i e;subst e;omega
    ·exact this
  ·rw[(take_not hm hr).2.2];exact h
 ·have:s.take o=s:=by
   have hm:G8 s o=Ac:=by simp[G8,hO]
   simp[Pl.take,Eh,hm]
  rw[this];exact h
theorem PInv.promise(h:PInv s)(o n:Int):PInv (s.promise o n):=by
 have hok:=lK h.ok o n;unfold Pl.promise at*;split
 ·rename_i hr
  rw[An hr] at hok;unfold Ef at hr;split at hr;·omega
  ·rename_i hq
   split at hr;·omega
   ·rename_i hp
    split at hr;·omega
    ·rename_i hs
     have hp:s.prom o.toNat= -1:=LZ;simp[isO] at hq;obtain⟨⟨ho0,ho1⟩,hn0,hn1⟩:=hq;obtain⟨m,rfl⟩: ∃k:Nat,o=k:=⟨o.toNat,O⟩;have hm:m<4:=O;rw[show(m:Int).toNat=m from rfl] at*;refine⟨hok,h.low,λq hq=>?_, ?_⟩
     ·have:=h.held q hq;show(hN s q 256:Int)≤max (Bw s.prom m n q) 0;unfold Bw;split;·rename_i e;subst e;rw[hp] at this;omega
      ·exact this
     ·rw[sumP4] at*;unfold Pl.setProm Bw;dsimp only;rcases(by omega:m=0∨m=1∨m=2∨m=3) with rfl|rfl|rfl|rfl<;>simp<;>omega
 ·exact h
theorem PInv.putB(h:PInv s)(f a b:Int):PInv (s.putB f a b):=by
 unfold Pl.putB;split;·exact⟨⟨h.ok.own,h.ok.prom⟩,h.low,h.held,h.sum⟩
 ·exact h
end Fm
namespace Nt
open Fm
structure Ad where
 gp:Nat
 gt:Nat
 gf:Nat
 gg:Nat
structure Ts where
 n:Nat
 o:Int
 fr:Nat→Int
 gd:Nat→Bool
def Tab(w:Aa)(a:Ad)(t:Ts):Prop:=
 Blk w a.gt 130 #[↑a.gp,J U t.o,Z (I ⟨a.gf,0,G⟩) t.n t.n,Z (I ⟨a.gg,0,G⟩) t.n t.n]∧
 Cells w a.gf 3 t.n (λi=> J U (t.fr i))∧Cells w a.gg 4 t.n (λi=> Ao (t.gd i))∧(1≤t.n∧t.n≤64)
def Ad.own(a:Ad)(k:Nat):Prop:=k=a.gt∨k=a.gf∨k=a.gg
variable{w:Aa}{a:Ad}{t:Ts}
theorem Tab.fr{w':Aa}{S:AE}(h:Tab w a t)(f:Fr S w w')(hn: ∀k,a.own k→ ¬S k):Tab w' a t:=
 ⟨h.1.fr f (hn _ (Af rfl)),h.2.1.fr f (hn _ (Ah (Af rfl))),h.2.2.1.fr f (hn _ (Ah (Ah rfl))),h.2.2.2⟩
theorem Tab.drew(h:Tab w a t):Tab w.drew a t:=h
theorem Tab.alloc(h:Tab w a t)(o:Obj):Tab (w.alloc o) a t:=⟨h.1.alloc o,h.2.1.alloc o,h.2.2.1.alloc o,h.2.2.2⟩
theorem Tab.ne1(h:Tab w a t):a.gt≠a.gf:=Blk.ne_ h.1 h.2.1.choose_spec.1 Ap
theorem Tab.ne3(h:Tab w a t):a.gf≠a.gg:=Cells.ne h.2.1 h.2.2.1 Ap
theorem Tab.lt(h:Tab w a t): ∀k,a.own k→k<w.heap.size:=by
 rintro k (rfl|rfl|rfl);·exact h.1.lt
 ·exact h.2.1.lt
 ·exact h.2.2.1.lt
theorem Tab.pool{s:Pl}(h:Tab w a t)(hp:Pool w a.gp s): ∀k,a.own k→ ¬k=a.gp:=by
 obtain⟨cs,hcs,_⟩:=hp;rintro k (rfl|rfl|rfl) e;·exact Blk.ne_ h.1 (e▸hcs) Ap rfl
 ·exact Blk.ne_ h.2.1.choose_spec.1 (e▸hcs) Ap rfl
 ·exact Blk.ne_ h.2.2.1.choose_spec.1 (e▸hcs) Ap rfl
def inP(t:Ts)(p:Int):Bool:=decide (0≤p∧p<t.n)
theorem is_any(w:Aa)(a:Ad)(t:Ts)(p:Int)(h:Tab w a t):As Tryz.prog 67 #[↑a.gt,J U p] w λe w'=>e=Av (Ao (inP t p))∧w=w':=by
 obtain⟨hb,hf,hg,hn0,hn1⟩:=h;have c2:=hb.cell 2;by_cases h0:0≤p
 ·by_cases h1:p<t.n
  ·have e:inP t p=Ag:=by simp[inP,h0,h1]
   exact Nu
  ·have e:inP t p=Ac:=by simp[inP,h1]
   have h1':decide (p<(t.n:Int))=Ac:=Dk;exact Nu
 ·have e:inP t p=Ac:=by simp[inP,h0]
  have h0':decide (0≤p)=Ac:=JJ;exact Nu
theorem pages_any(w:Aa)(a:Ad)(t:Ts)(h:Tab w a t):As Tryz.prog 49 #[↑a.gt] w λe w'=>e=Av (J U t.n)∧w=w':=by
 obtain⟨hb,hf,hg,hn0,hn1⟩:=h;have c2:=hb.cell 2;exact CK
def frB(t:Ts)(p:Int):Bool:=inP t p&&(t.fr p.toNat != -1)
def frV(t:Ts)(p:Int):Int:=if frB t p then t.fr p.toNat else 0
theorem PJ{p:Int}(h:inP t p=Ag): ∃k:Nat,p=k∧k<t.n:=by
 simp[inP] at h;exact⟨p.toNat,O,O⟩
theorem frame_any(w:Aa)(a:Ad)(t:Ts)(p:Int)(h:Tab w a t):As Tryz.prog 51 #[↑a.gt,J U p] w λe w'=>e=Av (AF #[J U (frV t p),Ao (frB t p)])∧w=w':=by
 have hi:=T (is_any w a t p h);obtain⟨hb,hf,hg,hn0,hn1⟩:=h;have c2:=hb.cell 2
 cases hp:inP t p
 ·have hv:=hi.out;rw[hp] at hv;have Hv:=T hv;have e1:frB t p=Ac:=by simp[frB,hp]
  have e2:frV t p=0:=by simp[frV,e1]
  rw[e1,e2];clear hv hp e1 e2 hi;go_in;go_wp2_with fail;refine Ax Hv ?_;exact UN
 ·have hv:=hi.out;rw[hp] at hv;have Hv:=T hv;obtain⟨k,rfl,hk⟩:=PJ hp;have c:=hf.cell k hk;by_cases hx:t.fr k= -1
  ·have e1:frB t k=Ac:=by simp[frB,hx]
   have e2:frV t k=0:=by simp[frV,e1]
   rw[e1,e2];rw[hx] at c;exact UO
  ·have e1:frB t k=Ag:=by simp[frB,hx,hp]
   have e2:frV t k=t.fr k:=by simp[frV,e1]
   rw[e1,e2];have hx':(t.fr k== -1)=Ac:=by simpa using hx
   exact UO
end Nt
namespace Nt
open Fm
def ES(f:Nat→Bool)(k:Nat)(v:Bool):Nat→Bool:=λj=>if j=k then v else f j
def Ts.setFr(t:Ts)(k:Nat)(f:Int):Ts:={t with fr:=Bw t.fr k f}
theorem Tab.setFr{w:Aa}{a:Ad}{t:Ts}(h:Tab w a t)(k:Nat)(v:Int):Tab (w.setCell ⟨a.gf,k,G⟩ (J U v)) a (t.setFr k v):=by
 refine⟨h.1.far (p:=⟨a.gf,k,G⟩) h.ne1 _,Cells.congr (Cells.set_ h.2.1 k _) (λi hi=>?_),Cells.far h.2.2.1 (p:=⟨a.gf,k,G⟩) (λe=>h.ne3 e.symm) _,h.2.2.2⟩;unfold BC Ts.setFr Bw;dsimp only;split<;>rfl
end Nt
namespace Nt
open Fm
def ET(t:Ts)(p:Int):Bool:=inP t p&& !frB t p
def Gf(s:Pl)(t:Ts)(p:Int):Int:=if ET t p then DG s t.o else if inP t p then 0 else 22
def Gg(s:Pl)(t:Ts)(p:Int):Int:=if ET t p then EQ s t.o else frV t p
def DV(s:Pl)(t:Ts)(p:Int):Pl:=if ET t p then s.take t.o else s
def Ts.map(t:Ts)(s:Pl)(p:Int):Ts:=if ET t p&&(DG s t.o==0) then t.setFr p.toNat (EQ s t.o) else t
set_option maxRecDepth 100000 in
theorem map_any(w:Aa)(a:Ad)(s:Pl)(t:Ts)(p:Int)(hP:Pool w a.gp s)(h:Tab w a t)(hok:s.Ok):As Tryz.prog 83 #[↑a.gt,J U p] w λe w'=>e=Av (AF #[J U (Gg s t p),J U (Gf s t p)])∧Pool w' a.gp (DV s t p)∧Tab w' a (t.map s p)∧Fr (λk=>k=a.gp∨k=a.gf) w w':=by
 have hi:=T (is_any w a t p h);have hfr:=T (frame_any w a t p h);have hne:=h.pool hP
 cases hp:inP t p
 ·have e0:ET t p=Ac:=by simp[ET,hp]
  have e1:frB t p=Ac:=by simp[frB,hp]
  have e2:Gf s t p=22:=by simp[Gf,e0,hp]
  have e3:Gg s t p=0:=by simp[Gg,e0,frV,e1]
  have e4:DV s t p=s:=by simp[DV,e0]
  have e5:t.map s p=t:=PK;rw[e2,e3,e4,e5];have hv:=hi.out;rw[hp] at hv;have Hv:=T hv;clear hv hp e0 e1 e2 e3 e4 e5 hi hfr;go_in;go_wp2_with fail;refine Ax Hv ?_;exact UQ
 ·have hv:=hi.out;rw[hp] at hv;have Hv:=T hv
  cases hq:frB t p
  ·have hx:=hfr.out;have e6:frV t p=0:=by simp[frV,hq]
   rw[hq,e6] at hx;have Hx:=T hx;have e0:ET t p=Ag:=by simp[ET,hp,hq]
   have e2:Gf s t p=DG s t.o:=by simp[Gf,e0]
   have e3:Gg s t p=EQ s t.o:=by simp[Gg,e0]
   have e4:DV s t p=s.take t.o:=by simp[DV,e0]
   have e5:t.map s p=if DG s t.o=0 then t.setFr p.toNat (EQ s t.o) else t:=PK;rw[e2,e3,e4,e5];obtain⟨k,rfl,hk⟩:=PJ hp;have h':=h;obtain⟨hb,hf,hg,hn0,hn1⟩:=h';have c0:=hb.cell 0;have c1:=hb.cell 1;have htk:=T (take_any w.drew a.gp s t.o hP.drew hok);clear hv hx hp hq e0 e2 e3 e4 e5 e6 hi hfr;by_cases hE:DG s t.o=0
   ·rw[An hE];have ht:=htk.out;rw[hE] at ht;have Ht:=T ht;rw[hE];clear ht htk hE;generalize EQ s t.o=fv at*;go_in;go_wp2_with fail;refine Ax Hv ?_;rintro e w' ⟨rfl,rfl⟩;go_wp2_with fail;refine Ax Hx ?_;rintro e w' ⟨rfl,rfl⟩;go_wp2_with fail
    go_region_with ((go_at_call 104;refine Ax Ht ?_;rintro e w1 ⟨rfl,hP1,f1⟩))
    all_goals
     have h1:=US;have d2:=h1.1.cell 2;have c:=h1.2.1.cell k hk;have z:=Cells.frozen h1.2.1 k;have hs:=T (h1.setFr k fv);have hP2:=T (Cells.far hP1 (p:=⟨a.gf,k,G⟩) (λe=>hne a.gf (Ah (Af rfl)) e.symm) (J U fv));have fr2:=T (((Fr.drew (Ak (λk=>k=a.gp∨k=a.gf) w)).tr f1.inl2).setCell (p:=⟨a.gf,k,G⟩) (Af (Ah rfl)) (J U fv))
     go_wp2
     go_ret2;exact⟨rfl,hP2.out,hs.out,fr2.out⟩
   ·rw[Ae hE];have hE':(DG s t.o==0)=Ac:=by simpa using hE
    clear hE;generalize EQ s t.o=fv at*;generalize DG s t.o=fe at*;go_in;go_wp2_with fail;refine Ax Hv ?_;rintro e w' ⟨rfl,rfl⟩;go_wp2_with fail;refine Ax Hx ?_;rintro e w' ⟨rfl,rfl⟩;go_wp2_with fail
    go_region_with ((go_at_call 104;refine Ax htk ?_;rintro e w1 ⟨rfl,hP1,f1⟩))
    all_goals
     have h1:=US
     go_wp2
     go_ret2;exact⟨rfl,hP1,h1,(Fr.drew (Ak (λk=>k=a.gp∨k=a.gf) w)).tr f1.inl2⟩
  ·have hx:=hfr.out;rw[hq] at hx;have Hx:=T hx;have e0:ET t p=Ac:=by simp[ET,hq]
   have e2:Gf s t p=0:=by simp[Gf,e0,hp]
   have e3:Gg s t p=frV t p:=by simp[Gg,e0]
   have e4:DV s t p=s:=by simp[DV,e0]
   have e5:t.map s p=t:=PK;rw[e2,e3,e4,e5];clear hv hx hp hq e0 e2 e3 e4 e5 hi hfr;go_in;go_wp2_with fail;refine Ax Hv ?_;rintro e w' ⟨rfl,rfl⟩;go_wp2_with fail;refine Ax Hx ?_;exact UQ
end Nt
namespace Nt
open Fm
end Nt
namespace Nt
open Fm
def zI(n:Nat):AP:=CJ #[J U 0] n
def zB(n:Nat):AP:=CJ #[Ao Ac] n
theorem infoB:(Tryz.prog.info? 4).map (λi=>(i.zero,i.size,i.bytes))=I (I (Ao Ac),1,1):=AL
theorem lT(n:Nat)(hn:n≤1000000)(w:Aa):(GB 85 (J U (n:Int)) (J U (n:Int))).run Tryz.prog w=.ok (Z (I ⟨↑w,0,G⟩) n n) (w.alloc (.cells (zI n) 3)):=by
 obtain⟨i0,hi0,hz0,hz1,hz2⟩:=Cj PE;exact UT
theorem lU(n:Nat)(hn:n≤1000000)(w:Aa):(GB 128 (J U (n:Int)) (J U (n:Int))).run Tryz.prog w=.ok (Z (I ⟨↑w,0,G⟩) n n) (w.alloc (.cells (zB n) 4)):=by
 obtain⟨i0,hi0,hz0,hz1,hz2⟩:=Cj infoB;exact UU
theorem cellsI(w:Aa)(n:Nat){g:Nat}(hg:↑w=g):Cells (w.alloc (.cells (zI n) 3)) g 3 n (λ_=> J U 0):=by
 subst hg;have e:(zI n).toList=Ex n (J U 0):=by rw[zI,toList_madeCells_one]
 exact Nv
theorem cellsB(w:Aa)(n:Nat){g:Nat}(hg:↑w=g):Cells (w.alloc (.cells (zB n) 4)) g 4 n (λ_=> Ao Ac):=by
 subst hg;have e:(zB n).toList=Ex n (Ao Ac):=by rw[zB,toList_madeCells_one]
 exact Nv
end Nt
namespace Nt
open Fm
def Ts.new(n:Nat)(o:Int):Ts:=⟨n,o,λ_=> -1,λ_=>Ac⟩
def H7(n:Nat)(o:Int)(k:Nat):Ts:=⟨n,o,λj=>if j<k then -1 else 0,λ_=>Ac⟩
theorem UV(n:Nat)(o:Int)(k:Nat):(H7 n o k).setFr k (-1)=H7 n o (k+1):=by
 unfold H7 Ts.setFr Bw;exact PD
theorem UW(w:Aa)(a:Ad)(n:Nat)(o:Int)(h0:1≤n)(h1:n≤64)(hb:Blk w a.gt 130 #[↑a.gp,J U o,Z (I ⟨a.gf,0,G⟩) n n,Z (I ⟨a.gg,0,G⟩) n n])(hf:Cells w a.gf 3 n (λ_=> J .i64 0))(hg:Cells w a.gg 4 n (λ_=> .bool Ac)):Tab w a (H7 n o 0):=
 ⟨hb,Cells.congr hf (λi hi=>by simp[H7]),hg,h0,h1⟩
theorem newT_end{w:Aa}{a:Ad}{n:Nat}{o:Int}(h:Tab w a (H7 n o n)):Tab w a (Ts.new n o):=
 ⟨h.1,Cells.congr h.2.1 (λi hi=>by have hi:i<n:=hi;simp[H7,Ts.new,hi]),h.2.2.1,h.2.2.2⟩
def NewP(w:Aa)(gp:Nat)(s:Pl)(o:Int)(n:Nat)(e:AZ)(w':Aa):Prop:=
 ∃a:Ad,e=Av (AF #[↑a.gt,J U 0])∧a.gp=gp∧Tab w' a (Ts.new n o)∧Pool w' gp (s.promise o n)∧(∀k,a.own k→w.heap.size≤k)∧Fr (· =gp) w w'
set_option maxRecDepth 100000 in
theorem new_yes(w:Aa)(gp:Nat)(s:Pl)(o:Int)(n:Nat)(hP:Pool w gp s)(hok:s.Ok)(ho0:0≤o)(ho1:o<4)(hn0:1≤n)(hn1:n≤64)(hR:Ef s o n=0):As Tryz.prog 41 #[↑gp,J U o,J U n] w (NewP w gp s o n):=by
 have hpr:=lL w gp s o n hP hok O O;rw[hR] at hpr;have Hpr:=T hpr;have hm1:=λW=>lT n O W;have hm2:=λW=>lU n O W;have hltp:=hP.lt;have d1:decide (o<0)=Ac:=AA;have d2:decide (4≤o)=Ac:=AA;have d3:decide ((n:Int)<1)=Ac:=AA;have d4:decide ((64:Int)<(n:Int))=Ac:=AA;clear hpr hR;go_in;go_wp2_with fail;refine Ax Hpr ?_;rintro e w1 ⟨rfl,hP1,f1⟩;go_wp2_with fail
 go_region
 ·have hT:Tab ((((w1.alloc (.cells (zI n) 3)).alloc (.cells (zB n) 4)).alloc (.cells #[↑gp,J U o,Z (I ⟨↑w1,0,G⟩) n n,Z (I ⟨(↑w1+1),0,G⟩) n n] 130)).drew) ⟨gp,w1.heap.size+1+1,w1.heap.size,(↑w1+1)⟩ (H7 n o 0):=
   UW _ ⟨gp,w1.heap.size+1+1,w1.heap.size,(↑w1+1)⟩ n o hn0 hn1 (Blk.drew (CC _ _ _ AB)) (Cells.drew (((cellsI w1 n rfl).alloc _).alloc _)) (Cells.drew ((cellsB _ n AB).alloc _))
  have hPz:=Pool.drew (((hP1.alloc (.cells (zI n) 3)).alloc (.cells (zB n) 4)).alloc (.cells #[↑gp,J U o,Z (I ⟨↑w1,0,G⟩) n n,Z (I ⟨(↑w1+1),0,G⟩) n n] 130));have frz:=(((f1.alloc (.cells (zI n) 3)).alloc (.cells (zB n) 4)).alloc (.cells #[↑gp,J U o,Z (I ⟨↑w1,0,G⟩) n n,Z (I ⟨(↑w1+1),0,G⟩) n n] 130)).drew;have hbl: ∀k,Ad.own ⟨gp,w1.heap.size+1+1,w1.heap.size,(↑w1+1)⟩ k→w.heap.size≤k:=by
   have:=f1.size;rintro k (rfl|rfl|rfl);·show w.heap.size≤w1.heap.size+1+1;omega
   ·show w.heap.size≤w1.heap.size;omega
   ·show w.heap.size≤(↑w1+1);omega
  have hne: ∀k,Ad.own ⟨gp,w1.heap.size+1+1,w1.heap.size,(↑w1+1)⟩ k→ ¬k=gp:=λk hk e=>by have:=hbl k hk;omega
  have Hbl:=T hbl;have Hne:=T hne;clear hbl hne hm1 hm2;generalize((((w1.alloc (.cells (zI n) 3)).alloc (.cells (zB n) 4)).alloc (.cells #[↑gp,J U o,Z (I ⟨w1.heap.size,0,G⟩) n n,Z (I ⟨(w1.heap.size+1),0,G⟩) n n] 130)).drew)=wz at*;have c2:=hT.1.cell 2;go_wp2_with fail;go_loopw [10,49] (λ_ i wr=> ∃k:Nat,k≤n∧i=J U k∧Tab wr ⟨gp,w1.heap.size+1+1,w1.heap.size,(↑w1+1)⟩ (H7 n o k)∧Pool wr gp (s.promise o n)∧Fr (· =gp) w wr) (λ_ i _=>n -(AM i).toNat)
  case atStart=>exact⟨0,O,rfl,hT,hPz,frz⟩
  case round=>
   clear hT hPz frz c2;obtain⟨k,hk,rfl,hT,hPz,frz⟩:=hrel;by_cases hlt:k<n;·have c2:=hT.1.cell 2;have c:=hT.2.1.cell k hlt;have z:=Cells.frozen hT.2.1 k;have hT2:=hT.setFr k (-1);rw[UV] at hT2;have HT2:=T hT2;have HP2:=T (Cells.far hPz (p:=⟨↑w1,k,G⟩) (λe=>Hne.out ↑w1 (Ah (Af rfl)) e.symm) (J U (-1)));have FR2:=T (frz.setCell (p:=⟨↑w1,k,G⟩) (Ah (Hbl.out ↑w1 (Ah (Af rfl)))) (J U (-1)));exact UY
   ·exact UZ
 ·have hT:Tab ((((w1.alloc (.cells (zB n) 4)).alloc (.cells (zI n) 3)).alloc (.cells #[↑gp,J U o,Z (I ⟨(↑w1+1),0,G⟩) n n,Z (I ⟨↑w1,0,G⟩) n n] 130)).drew) ⟨gp,w1.heap.size+1+1,(↑w1+1),w1.heap.size⟩ (H7 n o 0):=
   UW _ ⟨gp,w1.heap.size+1+1,(↑w1+1),w1.heap.size⟩ n o hn0 hn1 (Blk.drew (CC _ _ _ AB)) (Cells.drew ((cellsI _ n AB).alloc _)) (Cells.drew (((cellsB w1 n rfl).alloc _).alloc _))
  have hPz:=Pool.drew (((hP1.alloc (.cells (zB n) 4)).alloc (.cells (zI n) 3)).alloc (.cells #[↑gp,J U o,Z (I ⟨(↑w1+1),0,G⟩) n n,Z (I ⟨↑w1,0,G⟩) n n] 130));have frz:=(((f1.alloc (.cells (zB n) 4)).alloc (.cells (zI n) 3)).alloc (.cells #[↑gp,J U o,Z (I ⟨(↑w1+1),0,G⟩) n n,Z (I ⟨↑w1,0,G⟩) n n] 130)).drew;have hbl: ∀k,Ad.own ⟨gp,w1.heap.size+1+1,(↑w1+1),w1.heap.size⟩ k→w.heap.size≤k:=by
   have:=f1.size;rintro k (rfl|rfl|rfl);·show w.heap.size≤w1.heap.size+1+1;omega
   ·show w.heap.size≤(↑w1+1);omega
   ·show w.heap.size≤w1.heap.size;omega
  have hne: ∀k,Ad.own ⟨gp,w1.heap.size+1+1,(↑w1+1),w1.heap.size⟩ k→ ¬k=gp:=λk hk e=>by have:=hbl k hk;omega
  have Hbl:=T hbl;have Hne:=T hne;clear hbl hne hm1 hm2;generalize((((w1.alloc (.cells (zB n) 4)).alloc (.cells (zI n) 3)).alloc (.cells #[↑gp,J U o,Z (I ⟨(w1.heap.size+1),0,G⟩) n n,Z (I ⟨w1.heap.size,0,G⟩) n n] 130)).drew)=wz at*;have c2:=hT.1.cell 2;go_wp2_with fail;go_loopw [10,49] (λ_ i wr=> ∃k:Nat,k≤n∧i=J U k∧Tab wr ⟨gp,w1.heap.size+1+1,(↑w1+1),w1.heap.size⟩ (H7 n o k)∧Pool wr gp (s.promise o n)∧Fr (· =gp) w wr) (λ_ i _=>n -(AM i).toNat)
  case atStart=>exact⟨0,O,rfl,hT,hPz,frz⟩
  case round=>
   clear hT hPz frz c2;obtain⟨k,hk,rfl,hT,hPz,frz⟩:=hrel;by_cases hlt:k<n;·have c2:=hT.1.cell 2;have c:=hT.2.1.cell k hlt;have z:=Cells.frozen hT.2.1 k;have hT2:=hT.setFr k (-1);rw[UV] at hT2;have HT2:=T hT2;have HP2:=T (Cells.far hPz (p:=⟨(↑w1+1),k,G⟩) (λe=>Hne.out (↑w1+1) (Ah (Af rfl)) e.symm) (J U (-1)));have FR2:=T (frz.setCell (p:=⟨(↑w1+1),k,G⟩) (Ah (Hbl.out (↑w1+1) (Ah (Af rfl)))) (J U (-1)));exact UY
   ·exact UZ
end Nt
namespace Nt
open Fm
def mN(t:Ts)(k:Nat):Nat:=cnt (λp=>t.fr p != -1) k
structure TInv(s:Pl)(t:Ts):Prop where
 pi:PInv s
 n0:1≤t.n
 n1:t.n≤64
 o0:0≤t.o
 o1:t.o<4
 pr:s.prom t.o.toNat=t.n
 at_: ∀k,k<t.n→t.fr k= -1∨(16≤t.fr k∧t.fr k<256∧s.own (t.fr k).toNat=t.o)
 inj: ∀j k,j<t.n→k<t.n→t.fr j=t.fr k→t.fr j≠ -1→j=k
 cn:hN s t.o 256=mN t t.n
 gd: ∀k,k<t.n→t.gd k=Ag→ ¬t.fr k= -1
theorem TInv.own{s:Pl}{t:Ts}(h:TInv s t): ∃m:Nat,t.o=m∧m<4:=⟨t.o.toNat,by have:=h.o0;omega,by have:=h.o0;have:=h.o1;omega⟩
section
variable {s:Pl} {t:Ts}
theorem TInv.new{o:Int}{n:Nat}(h0:0≤o)(h1:o<4)(hn0:1≤n)(hn1:n≤64){s:Pl}(hs:PInv s)(hp:s.prom o.toNat= -1)(hr:Ef s o n=0):TInv (s.promise o n) (Ts.new n o):=by
 have hi:=hs.promise o n;have hh:s.promise o n=s.setProm o.toNat n:=by rw[Pl.promise,An hr]
 rw[hh] at hi⊢;refine⟨hi,hn0,hn1,h0,h1, ?_,λk hk=> Af rfl,λj k _ _ _ e=>absurd rfl e, ?_,λk hk e=>KF⟩;·show Bw s.prom o.toNat n o.toNat=n;exact LS _ _ _
 ·obtain⟨m,rfl⟩: ∃k:Nat,o=k:=⟨o.toNat,O⟩;have e1:hN s m 256=0:=by
   have:=hs.held m O;rw[show(m:Int).toNat=m from rfl] at hp;rw[hp] at this;omega
  have e2:mN (Ts.new n m) n=0:=by
   rcases Gr (mN (Ts.new n m) n) with h|h;·exact h
   ·obtain⟨f,_,hf⟩:=PH h;simp[Ts.new] at hf
  show hN s m 256=mN (Ts.new n m) n;omega
variable{k:Nat}
theorem Nw(t:Ts)(hk:k<t.n):frB t k=(t.fr k != -1):=by
 have:inP t k=Ag:=by simp[inP,hk]
 simp[frB,this]
theorem frV_eq(t:Ts)(h:frB t k=Ag):frV t k=t.fr k:=by simp[frV,h]
theorem Va(t:Ts)(k:Nat):inP t k=decide (k<t.n):=by simp[inP]
theorem TInv.mapNew(h:TInv s t)(hk:k<t.n)(hx:t.fr k= -1): ∃f:Nat,16≤f∧f<256∧s.own f= -1∧Ge s=I f∧Gf s t k=0∧Gg s t k=f∧DV s t k=(s.setOwn f t.o).wipe f∧t.map s k=t.setFr k f:=by
 obtain⟨m,hm,hm4⟩:=h.own;have hlt:mN t t.n<t.n:=cnt_lt (f:=k) (by simp[hx]) hk;have hpr:=h.pr;have hcn:=h.cn;rw[hm] at hpr hcn;have hr:(hN s m 256:Int)<s.prom m:=by
  rw[show(m:Int).toNat=m from rfl] at hpr;rw[hpr];omega
 obtain⟨f,_,f0,f1,f2,f3,f4,f5,f6⟩:=h.pi.takes hm4 hr;have hq:ET t k=Ag:=by simp[ET,Va,hk,Nw t hk,hx]
 refine⟨f,f1,f2,f3,f0, ?_, ?_, ?_, ?_⟩;·rw[Gf,An hq,hm,f4]
 ·rw[Gg,An hq,hm,f5]
 ·rw[DV,An hq,hm,f6]
 ·rw[Ts.map,An (by rw[hm,hq,f4];rfl),hm,f5];rfl
theorem mapOld(hk:k<t.n)(hx: ¬t.fr k= -1):Gf s t k=0∧Gg s t k=t.fr k∧DV s t k=s∧t.map s k=t:=by
 have hb:frB t k=Ag:=by simp[Nw t hk,hx]
 have hq:ET t k=Ac:=by simp[ET,hb]
 have hi:inP t k=Ag:=by simp[Va,hk]
 refine⟨by simp[Gf,hq,hi],by simp[Gg,hq,frV,hb],by simp[DV,hq],by simp[Ts.map,hq]⟩
theorem mapOut{p:Int}(h:inP t p=Ac):Gf s t p=22∧Gg s t p=0∧DV s t p=s∧t.map s p=t:=by
 have hb:frB t p=Ac:=by simp[frB,h]
 have hq:ET t p=Ac:=by simp[ET,h]
 refine⟨by simp[Gf,hq,h],by simp[Gg,hq,frV,hb],by simp[DV,hq],by simp[Ts.map,hq]⟩
theorem TInv.setNew(h:TInv s t){f:Nat}(hk:k<t.n)(hx:t.fr k= -1)(f1:16≤f)(f2:f<256)(f3:s.own f= -1)(hp:PInv ((s.setOwn f t.o).wipe f)):TInv ((s.setOwn f t.o).wipe f) (t.setFr k f):=by
 obtain⟨m,hm,hm4⟩:=h.own;have hne: ∀j,j<t.n→t.fr j≠(f:Int):=λj hj e=>by
  rcases h.at_ j hj with e1|⟨_,_,e1⟩;·omega
  ·rw[e,show(f:Int).toNat=f from rfl,f3] at e1;have:=h.o0;omega
 refine⟨hp,h.n0,h.n1,h.o0,h.o1,h.pr,λj hj=>?_,λi j hi hj=>?_, ?_,λj hj hg=>?_⟩
 ·have hj:j<t.n:=hj;show Bw t.fr k f j= -1∨16≤Bw t.fr k f j∧Bw t.fr k f j<256∧Bw s.own f t.o (Bw t.fr k f j).toNat=t.o;unfold Bw;split;·right;exact⟨O,O,AB⟩
  ·rcases h.at_ j hj with e1|⟨e1,e2,e3⟩;·exact Af e1
   ·right;refine⟨e1,e2, ?_⟩;split;·rfl
    ·exact e3
 ·have hi:i<t.n:=hi;have hj:j<t.n:=hj;show Bw t.fr k f i=Bw t.fr k f j→Bw t.fr k f i≠ -1→i=j;unfold Bw;intro e1 e2;split at e1
  ·rename_i ei
   split at e1;·rename_i ej;rw[ei,ej]
   ·exact absurd e1.symm (hne j hj)
  ·rename_i ei
   split at e1;·exact absurd e1 (hne i hi)
   ·rw[Ae ei] at e2;exact h.inj i j hi hj e1 e2
 ·show hN ((s.setOwn f t.o).wipe f) t.o 256=mN (t.setFr k f) t.n;rw[hm,UM f2 f3,An rfl];have:=h.cn;rw[hm] at this;rw[this];unfold mN;symm;refine UK (f:=k) (by simp[hx]) ?_ (λj hj=>?_) hk;·show(Bw t.fr k f k != -1)=Ag;rw[LS];simp
  ·show(Bw t.fr k f j != -1)=_;rw[P6 _ _ hj]
 ·show ¬Bw t.fr k f j= -1;unfold Bw;split;·omega
  ·exact h.gd j hj hg
theorem TInv.map(h:TInv s t)(p:Int):TInv (DV s t p) (t.map s p):=by
 cases hi:inP t p
 ·obtain⟨_,_,e1,e2⟩:=mapOut (s:=s) hi;rw[e1,e2];exact h
 ·obtain⟨k,rfl,hk⟩:=PJ hi;by_cases hx:t.fr k= -1
  ·obtain⟨f,f1,f2,f3,_,_,_,e1,e2⟩:=h.mapNew hk hx;have hp:PInv (DV s t k):=by
    unfold DV;split;·exact h.pi.take _
    ·exact h.pi
   rw[e1,e2];rw[e1] at hp;exact h.setNew hk hx f1 f2 f3 hp
  ·obtain⟨_,_,e1,e2⟩:=mapOld (s:=s) hk hx;rw[e1,e2];exact h
theorem TInv.putB(h:TInv s t)(f a b:Int):TInv (s.putB f a b) t:=by
 have hp:=h.pi.putB f a b;unfold Pl.putB at*;split
 ·rename_i hh
  rw[An hh] at hp;exact⟨hp,h.n0,h.n1,h.o0,h.o1,h.pr,h.at_,h.inj,h.cn,h.gd⟩
 ·exact h
end
end Nt
end Go.Proofs.YtdfegdoeebaagaaGreatDoor
