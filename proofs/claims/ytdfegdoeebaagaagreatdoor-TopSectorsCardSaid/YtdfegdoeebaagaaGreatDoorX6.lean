import Derived.Test.YtdfegdoeebaagaaGreatDoorX4
import Derived.Test.YtdfegdoeebaagaaGreatDoorChecked
open Go.Value renaming slice→Z,int→J,bool→Ap,tuple→AF,ownBlock→Cb,agg→A9,pointer→Bm
open Option renaming some→I,none→G
open Go.IntKind renaming i64→U,u32→V,u8→AB
open Go renaming World→Aa,Value→As,Calls→At,bodyPost_ret→Bt,TypeId→AN,Ending→AY,info_parts→Cj,maxLen→BQ,Program→CF,undef→BY,run_underlying→Fe
open Bool renaming false→Ac,true→Ag
open List renaming getD_eq_getElem?_getD→AS,getElem?_eq_getElem→BK,length_append→Cq,mem_map→BS,getElem_mem→CE,range→Cl,getElem?_append_right→Ex,mem_append→Da,length_cons→D8,getElem?_map→DP,getElem?_append_left→Ff,nil_append→DH,length_map→Fo,getElem_of_mem→GC,map_append→FH,range_succ→Ic,map_cons→GU,getElem?_range→IL,map_map→GZ
open Go.Ending renaming returned→Ax
open Nat renaming le_refl→AD,le_trans→Bf,zero_le→Bj,zero_add→BW
open Or renaming inl→Af,inr→Ah
open Go.Proofs.Tryz renaming underlying23→CI
open Go.RowKit renaming intOf→AM
open Array renaming getElem?_eq_some_iff→IK
open Go.Builtin renaming zeroCells→DO,delete_→Jq
open Go.Result renaming andThen→ES
open Option.some renaming inj→GG
open Go.Instr renaming mapUpdate→Ix
open Go.MapKept renaming run_getObj_map→Iw,run_setObj_map→Jp
open Go.Lit renaming int→DT
open Go.Sem renaming run_bind→GT
set_option linter.all false
set_option maxHeartbeats 40000000
set_option maxRecDepth 1000000
open Go Go.RowKit
namespace Go.Proofs.YtdfegdoeebaagaaGreatDoor
namespace Mz
open Go.Maps
open Go.ChangeMaps (setBlock)
def Bi{κ:Type}(mk:κ→As):List (κ×As)→List Nat→List MapEntry
 |p::L,b::bs=>⟨mk p.1,p.2,b⟩::Bi mk L bs
 |_,_=>[]
variable {κ:Type} [DecidableEq κ] {P:CF} {k:AN} {mk:κ→As}
theorem Wn(L:List (κ×As)): ∀bs:List Nat,bs.length=L.length→(Bi mk L bs).length=L.length:=Wo
theorem JQ(L:List (κ×As)): ∀(bs:List Nat),bs.length=L.length→ ∀i (hi:i<L.length) (hb:i<bs.length),(Bi mk L bs)[i]?=I ⟨mk L[i].1,L[i].2,bs[i]⟩:=by
 induction L with
 |nil=>intro bs h i hi;simp at hi
 |cons p L ih=>
  intro bs h i hi hb
  cases bs with
  |nil=>simp at h
  |cons b bs=>
   cases i with
   |zero=>simp[Bi]
   |succ i=>simpa[Bi] using ih bs D7 i Md LS
theorem Q5{L:List (κ×As)}{bs:List Nat}(h:bs.length=L.length){e:MapEntry}(he:e∈Bi mk L bs): ∃i,∃(hi:i<L.length) (hb:i<bs.length),e=⟨mk L[i].1,L[i].2,bs[i]⟩:=by
 obtain⟨i,hi,rfl⟩:=GC he;have hi':i<L.length:=by rwa[Wn L bs h] at hi
 have hb:i<bs.length:=O;refine⟨i,hi',hb, ?_⟩;have:=JQ (mk:=mk) L bs h i hi' hb;rw[BK hi] at this;exact GG this
theorem Wp(L:List (κ×As)): ∀(bs:List Nat),bs.length=L.length→(Bi mk L bs).map (·.born)=bs:=Wo
structure MapL(P:CF)(k:AN)(mk:κ→As)(w:Aa)(g:Nat)(L:List (κ×As))(bs:List Nat)(clock:Nat):Prop where
 b:w.heap[g]?=I (.map (Bi mk L bs).toArray clock)
 len:bs.length=L.length
 nd:bs.Nodup
 lt: ∀x∈bs,x<clock
 keys: ∀p∈L,∃l,keyOf P k (mk p.1)=I l
 kd:(L.map (·.1)).Nodup
def lk(L:List (κ×As))(x:κ):Option As:=(L.find? (λp=>decide (p.1=x))).map (·.2)
def has(L:List (κ×As))(x:κ):Bool:=L.any (λp=>decide (p.1=x))
def rep(L:List (κ×As))(x:κ)(v:As):List (κ×As):=L.map (λp=>if p.1=x then(p.1,v) else p)
def del(L:List (κ×As))(x:κ):List (κ×As):=L.filter (λp=> !decide (p.1=x))
section
variable {w w':Aa} {g:Nat} {L:List (κ×As)} {bs:List Nat} {clock:Nat} {S:AE}
theorem MapL.bound(h:MapL P k mk w g L bs clock):g<↑w:=(IK.1 h.b).1
theorem MapL.fr(h:MapL P k mk w g L bs clock)(f:Fr S w w')(hn: ¬S g):MapL P k mk w' g L bs clock:=⟨(f.block g h.bound hn).trans h.b,h.len,h.nd,h.lt,h.keys,h.kd⟩
theorem MapL.made(w:Aa):MapL P k mk (w.alloc (.map #[] 0)) ↑w ([]:List (κ×As)) [] 0:=by
 refine⟨?_,rfl,List.nodup_nil,AC,AC,AC⟩;show(w.heap.push _)[w.heap.size]?=_;simp[Bi]
theorem MapL.ekeys(h:MapL P k mk w g L bs clock): ∀e∈Bi mk L bs,∃l,keyOf P k e.key=I l:=λe he=>by
 obtain⟨i,hi,hb,rfl⟩:=Q5 h.len he;exact h.keys _ (CE hi)
variable{x:κ}{l:Lit}
theorem MapL.find(h:MapL P k mk w g L bs clock)(K:Keyed P k)(inj: ∀a b,mk a=mk b→a=b)(W:Aa)(hx:keyOf P k (mk x)=I l):(has L x=Ac∧(Instr.findKey k (mk x) (Bi mk L bs)).run P W=.ok G W)∨ ∃j,∃hj:j<L.length,L[j].1=x∧has L x=Ag∧(Instr.findKey k (mk x) (Bi mk L bs)).run P W=.ok (I (j,L[j].2)) W:=by
 rcases K.find W hx (Bi mk L bs) h.ekeys with⟨h1,h2⟩|⟨j,e,h1,h2,h3⟩;·left;refine⟨?_,h1⟩;unfold has;rw[List.any_eq_false];intro p hp hd;obtain⟨i,hi,rfl⟩:=GC hp;have:=JQ (mk:=mk) L bs h.len i hi (by rw[h.len];exact hi);have:=h2 _ (List.mem_of_getElem? this);exact this (by rw[of_decide_eq_true hd])
 ·right;obtain⟨hj,he⟩:=List.getElem?_eq_some_iff.1 h2;have hj':j<L.length:=by rwa[Wn L bs h.len] at hj
  have he2:=JQ (mk:=mk) L bs h.len j hj' (by rw[h.len];exact hj');rw[h2] at he2;have he2:=GG he2;subst he2;have hk:=inj _ _ h3;refine⟨j,hj',hk, ?_,h1⟩;unfold has;rw[List.any_eq_true];exact⟨L[j],CE hj',by simpa using hk⟩
theorem lk_none(h:has L x=Ac):lk L x=G:=by
 unfold has at h;rw[List.any_eq_false] at h;unfold lk;exact Wr
theorem lk_at(hn:(L.map (·.1)).Nodup){j:Nat}(hj:j<L.length):lk L L[j].1=I L[j].2:=by
 induction L generalizing j with
 |nil=>simp at hj
 |cons p L ih=>
  unfold lk;rw[GU,List.nodup_cons] at hn
  cases j with
  |zero=>simp
  |succ j=>
   have hj':=Q6;have hne:decide (p.1=L[j].1)=Ac:=by
    rw[decide_eq_false_iff_not];intro e;exact hn.1 Q7
   rw[List.getElem_cons_succ,List.find?_cons,hne];exact ih hn.2 hj'
variable{t:AN}
theorem MapL.look(h:MapL P k mk w g L bs clock)(K:Keyed P k)(inj: ∀a b,mk a=mk b→a=b){e:AN}(ht:P.underlying t=I (.map k e)){z:As}(hz:(zeroValue e).run P w=.ok z w)(hx:keyOf P k (mk x)=I l)(c:Bool):(Instr.lookup t (.map (I g)) (mk x) c).run P w=.ok (if c then AF #[(lk L x).getD z,Ap (has L x)] else(lk L x).getD z) w:=by
 rcases h.find K inj w hx with⟨h1,h2⟩|⟨j,hj,h1,h3,h2⟩;·rw[lk_none h1,h1];simp[Instr.lookup,Fe ht,Iw h.b,K.check w _ hx,h2,hz,ES]
 ·have:=lk_at h.kd hj;rw[h1] at this;rw[this,h3];simp[Instr.lookup,Fe ht,Iw h.b,K.check w _ hx,h2,ES]
theorem Jo(hb: ∃es c,w.heap[g]?=I (.map es c))(o:Obj):(setBlock w g o).heap[g]?=I o∧Fr (· =g) w (setBlock w g o):=by
 obtain⟨es,c,hb⟩:=hb;have hl:=(IK.1 hb).1;refine⟨by simp[setBlock,hl],⟨rfl,rfl,rfl,by simp[setBlock],λi hi hn=>?_⟩⟩;show(w.heap.setIfInBounds g o)[i]?=_;rw[Array.getElem?_setIfInBounds_ne (λe=>hn e.symm)]
end
theorem Q8{α:Type}: ∀(l:List α) (j:Nat) (f f':α→α) (a:α),l[j]?=I a→f a=f' a→l.modify j f=l.modify j f'
 |[],j,f,f',a,h,_=>by simp at h
 |b::l,0,f,f',a,h,e=>by
  have:b=a:=D7;subst this;simp[e]
 |b::l,j+1,f,f',a,h,e=>by
  have:=Q8 l j f f' a D7 e;simpa using this
variable{x:κ}
theorem rep_no{L:List (κ×As)}(h: ∀p∈L,p.1≠x)(v:As):rep L x v=L:=by
 unfold rep
 induction L with
 |nil=>rfl
 |cons p L ih=>
  rw[GU,Ae (h p AC),ih (λq hq=>h q (by simp[hq]))]
theorem Ws(L:List (κ×As))(x:κ)(v:As):(rep L x v).map (·.1)=L.map (·.1):=by
 unfold rep;rw[GZ];refine List.map_congr_left (λp _=>?_);show(if p.1=x then(p.1,v) else p).1=p.1;split<;>rfl
theorem Wv(L:List (κ×As))(x:κ)(v:As):(rep L x v).length=L.length:=by simp[rep]
theorem Ww(L:List (κ×As)):(L.map (·.1)).Nodup→ ∀(bs:List Nat),bs.length=L.length→ ∀j (hj:j<L.length) (v:As),Bi mk (rep L L[j].1 v) bs=(Bi mk L bs).modify j (λe=>{e with val:=v}):=by
 induction L with
 |nil=>intro _ bs _ j hj;simp at hj
 |cons p L ih=>
  intro hn bs h j hj v;rw[GU,List.nodup_cons] at hn
  cases bs with
  |nil=>simp at h
  |cons b bs=>
   cases j with
   |zero=>
    have e:rep (p::L) p.1 v=(p.1,v)::L:=by
     show(if p.1=p.1 then(p.1,v) else p)::rep L p.1 v=_;rw[An rfl,rep_no (λq hq e=>hn.1 Wx)]
    show Bi mk (rep (p::L) p.1 v) (b::bs)=_;rw[e];rfl
   |succ j=>
    have hj':=Q6;have e:rep (p::L) L[j].1 v=p::rep L L[j].1 v:=by
     show(if p.1=L[j].1 then(p.1,v) else p)::rep L L[j].1 v=_;rw[Ae (λe=>hn.1 Q7)]
    show Bi mk (rep (p::L) L[j].1 v) (b::bs)=_;rw[e];show _::Bi mk (rep L L[j].1 v) bs=_::(Bi mk L bs).modify j _;rw[ih hn.2 bs D7 j hj' v]
theorem mO(L:List (κ×As))(p:κ×As)(b:Nat): ∀(bs:List Nat),bs.length=L.length→Bi mk (L++[p]) (bs++[b])=Bi mk L bs++[⟨mk p.1,p.2,b⟩]:=by
 induction L with
 |nil=>intro bs h;cases bs<;>simp[Bi] at h⊢
 |cons q L ih=>
  intro bs h
  cases bs with
  |nil=>simp at h
  |cons c bs=>simp[Bi,ih bs D7]
theorem mP(L:List (κ×As)): ∀(bs:List Nat),bs.length=L.length→ ∀j,Bi mk (L.eraseIdx j) (bs.eraseIdx j)=(Bi mk L bs).eraseIdx j:=by
 induction L with
 |nil=>intro bs h j;cases bs<;>simp[Bi] at h⊢
 |cons q L ih=>
  intro bs h j
  cases bs with
  |nil=>simp at h
  |cons c bs=>
   cases j with
   |zero=>simp[Bi]
   |succ j=>simp[Bi,ih bs D7]
theorem del_at{L:List (κ×As)}(hn:(L.map (·.1)).Nodup): ∀j (hj:j<L.length),del L L[j].1=L.eraseIdx j:=by
 induction L with
 |nil=>intro j hj;simp at hj
 |cons p L ih=>
  intro j hj;rw[GU,List.nodup_cons] at hn
  cases j with
  |zero=>
   show del (p::L) p.1=L;unfold del;rw[List.filter_cons,Ae AC];refine List.filter_eq_self.2 (λq hq=>?_);have:q.1≠p.1:=λe=>hn.1 Wx;simpa using this
  |succ j=>
   have hj':=Q6;have hne:p.1≠L[j].1:=λe=>hn.1 Q7;show del (p::L) L[j].1=p::L.eraseIdx j;rw[←ih hn.2 j hj'];unfold del;rw[List.filter_cons,An Q9]
theorem del_no{L:List (κ×As)}(h:has L x=Ac):del L x=L:=by
 unfold has at h;rw[List.any_eq_false] at h;unfold del;refine List.filter_eq_self.2 (λq hq=>?_);simpa using h q hq
section
variable {w w':Aa} {g:Nat} {L:List (κ×As)} {bs:List Nat} {clock:Nat}
variable{t:AN}{l:Lit}
theorem MapL.store_old(h:MapL P k mk w g L bs clock)(K:Keyed P k)(inj: ∀a b,mk a=mk b→a=b){e:AN}(ht:P.underlying t=I (.map k e))(hx:keyOf P k (mk x)=I l)(hin:has L x=Ag)(v:As):∃w',(Ix t (.map (I g)) (mk x) v).run P w=.ok () w'∧MapL P k mk w' g (rep L x v) bs clock∧Fr (· =g) w w':=by
 rcases h.find K inj w hx with⟨h1,h2⟩|⟨j,hj,h1,h3,h2⟩;·rw[hin] at h1;simp at h1
 ·obtain⟨s1,s2⟩:=Jo ⟨_,_,h.b⟩ (.map (Bi mk (rep L x v) bs).toArray clock);have hat:=JQ (mk:=mk) L bs h.len j hj (by rw[h.len];exact hj);have hen:=Ww (mk:=mk) L h.kd bs h.len j hj v;rw[h1] at hen;have hst:=K.stays w hx;refine⟨setBlock w g (.map (Bi mk (rep L x v) bs).toArray clock), ?_,⟨s1,by rw[Wv];exact h.len,h.nd,h.lt,λp hp=>?_,by rw[Ws];exact h.kd⟩,s2⟩
  ·have hkey:=Wy;have hmod:(Bi mk L bs).toArray.modify j (λe=>{e with key:=mk x,val:=v})=(Bi mk (rep L x v) bs).toArray:=by
    rw[hen];apply Array.toList_inj.1;rw[Array.toList_modify];exact Q8 (Bi mk L bs) j _ _ _ hat (by show(⟨mk x,v,_⟩:MapEntry)=⟨mk L[j].1,v,_⟩;rw[h1])
   simp only[Ix,Fe ht,Iw h.b,K.check w _ hx,h2,GT,Result.andThen_ok];rw[hkey,hst];simp only[Result.andThen_ok,hmod];rw[Jp _ h.b];rfl
  ·exact Wz
theorem MapL.store_new(h:MapL P k mk w g L bs clock)(K:Keyed P k)(inj: ∀a b,mk a=mk b→a=b){e:AN}(ht:P.underlying t=I (.map k e))(hx:keyOf P k (mk x)=I l)(hin:has L x=Ac)(v:As):∃w',(Ix t (.map (I g)) (mk x) v).run P w=.ok () w'∧MapL P k mk w' g (L++[(x,v)]) (bs++[clock]) (clock+1)∧Fr (· =g) w w':=by
 rcases h.find K inj w hx with⟨h1,h2⟩|⟨j,hj,h1,h3,h2⟩
 ·obtain⟨s1,s2⟩:=Jo ⟨_,_,h.b⟩ (.map (Bi mk (L++[(x,v)]) (bs++[clock])).toArray (clock+1));refine⟨setBlock w g (.map (Bi mk (L++[(x,v)]) (bs++[clock])).toArray (clock+1)), ?_,⟨s1,by simp[h.len], ?_, ?_, ?_, ?_⟩,s2⟩
  ·have hp:(Bi mk L bs).toArray.push ⟨mk x,v,clock⟩=(Bi mk (L++[(x,v)]) (bs++[clock])).toArray:=by
    rw[mO L (x,v) clock bs h.len];simp
   simp[Ix,Fe ht,Iw h.b,K.check w _ hx,h2,Jp _ h.b,ES,setBlock,hp]
  ·rw[List.nodup_append];exact⟨h.nd,AC,λa ha b hb e=>by have:=h.lt a ha;simp at hb;omega⟩
  ·intro y hy;rcases Da.1 hy with e|e;·have:=h.lt y e;omega
   ·have:y=clock:=KD;omega
  ·intro p hp;rcases Da.1 hp with e|e;·exact h.keys p e
   ·have:p=(x,v):=KD;subst this;exact⟨l,hx⟩
  ·rw[FH,List.nodup_append];refine⟨h.kd,AC,λa ha b hb e=>?_⟩;obtain⟨q,hq,rfl⟩:=BS.1 ha;have hb:b=x:=LS;unfold has at hin;rw[List.any_eq_false] at hin;exact hin q hq (by rw[e,hb];simp)
 ·rw[hin] at h3;simp at h3
theorem MapL.drop(h:MapL P k mk w g L bs clock)(K:Keyed P k)(inj: ∀a b,mk a=mk b→a=b){e:AN}(ht:P.underlying t=I (.map k e))(hx:keyOf P k (mk x)=I l):∃w' bs',(∀ty,(Jq #[t,k] ty #[.map (I g),mk x]).run P w=.ok (AF #[]) w')∧MapL P k mk w' g (del L x) bs' clock∧Fr (· =g) w w':=by
 rcases h.find K inj w hx with⟨h1,h2⟩|⟨j,hj,h1,h3,h2⟩;·obtain⟨s1,s2⟩:=Jo ⟨_,_,h.b⟩ (.map (Bi mk L bs).toArray clock);rw[del_no h1];refine⟨setBlock w g (.map (Bi mk L bs).toArray clock),bs,λty=>?_,⟨s1,h.len,h.nd,h.lt,h.keys,h.kd⟩,s2⟩;exact WA
 ·have hd:=WB;rw[hd];obtain⟨s1,s2⟩:=Jo ⟨_,_,h.b⟩ (.map (Bi mk (L.eraseIdx j) (bs.eraseIdx j)).toArray clock);refine⟨setBlock w g (.map (Bi mk (L.eraseIdx j) (bs.eraseIdx j)).toArray clock),bs.eraseIdx j,λty=>?_,⟨s1, ?_,h.nd.sublist (List.eraseIdx_sublist _ _),λy hy=>h.lt y (List.mem_of_mem_eraseIdx hy),λp hp=>h.keys p (List.mem_of_mem_eraseIdx hp), ?_⟩,s2⟩;·exact WC
  ·exact WE
  ·exact WG
theorem MapL.range(h:MapL P k mk w g L bs clock){e:AN}(ht:P.underlying t=I (.map k e)):(Instr.range t (.map (I g))).run P w=.ok (Bm (I ⟨↑w,0,G⟩)) (w.alloc (.mapIter (I g) clock #[] clock)):=run_range_map w t k e g _ clock ht h.b
theorem MapL.next(h:MapL P k mk w g L bs clock){r:Nat}{seen:Array Nat}(hr:w.heap[r]?=I (.mapIter (I g) clock seen clock)):
 ((∀b∈bs,b∈seen)∧ ∀ty,(Instr.next ↑r Ac ty).run P w=.ok (AF #[Ap Ac]) w)∨
 ∃i,∃(hi:i<L.length) (hb:i<bs.length),bs[i]∉seen∧ ∃w',(∀ty,(Instr.next ↑r Ac ty).run P w=.ok (AF #[Ap Ag,mk L[i].1,L[i].2]) w')∧w'.heap[r]?=I (.mapIter (I g) clock (seen.push bs[i]) clock)∧Fr (· =r) w w'∧
  (Instr.entry ↑r).run P w'=.ok (AF #[mk L[i].1,L[i].2]) w':=by
 have hold: ∀x∈(Bi mk L bs).toArray.toList,x.born<clock:=λx hx=>by
  obtain⟨i,hi,hb,rfl⟩:=Q5 h.len (by simpa using hx);exact h.lt _ (CE hb)
 rcases run_next_at (P:=P) w 0 r g clock clock seen _ clock hr h.b hold (AD _) with⟨h1,h2⟩|⟨e,he,w1,hw1,h2⟩
 ·left;refine⟨λb hb=>?_,λty=>h2⟩;obtain⟨i,hi,rfl⟩:=GC hb;have hiL:i<L.length:=by rw[←h.len];exact hi
  have hm:=List.mem_of_getElem? (JQ (mk:=mk) L bs h.len i hiL hi);by_cases hs:bs[i]∈seen;·exact hs
  ·exfalso;have:(⟨mk L[i].1,L[i].2,bs[i]⟩:MapEntry)∈leftOf (Bi mk L bs).toArray seen:=by
    unfold leftOf;rw[Array.mem_filter];exact⟨Mj,by simpa using hs⟩
   have:0<(leftOf (Bi mk L bs).toArray seen).size:=Array.size_pos_of_mem this;omega
 ·right;have hme:e∈Bi mk L bs∧e.born∉seen:=by
   have:e∈leftOf (Bi mk L bs).toArray seen:=by simpa using he
   unfold leftOf at this;rw[Array.mem_filter] at this;exact⟨by simpa using this.1,by simpa using this.2⟩
  obtain⟨hme,hns⟩:=hme;obtain⟨i,hi,hb,rfl⟩:=Q5 h.len hme;have hrl:=(IK.1 hr).1;have hr1:w1.heap=w.heap:=NS;have hne:r≠g:=by
   rintro rfl;have h1:=h.b;rw[hr] at h1;simp at h1
  refine⟨i,hi,hb,hns,_,λty=>h2, ?_, ?_, ?_⟩;·exact WH
  ·refine⟨NS,NS,NS, ?_,λj hj hn=>?_⟩;·show w.heap.size≤(w1.heap.setIfInBounds r _).size;rw[hr1];simp
   ·show(w1.heap.setIfInBounds r _)[j]?=_;rw[hr1,Array.getElem?_setIfInBounds_ne (λe=>hn e.symm)]
  ·refine run_entry_at (P:=P) _ r g clock seen (Bi mk L bs).toArray clock ⟨mk L[i].1,L[i].2,bs[i]⟩ ?_ ?_ (by simpa using hme) ?_;·exact WH
   ·show(w1.heap.setIfInBounds r _)[g]?=_;rw[hr1,Array.getElem?_setIfInBounds_ne hne];exact h.b
   ·show((Bi mk L bs).map (·.born)).Nodup;rw[Wp L bs h.len];exact h.nd
end
end Mz
namespace Ca
abbrev Ky:=Int×Int
structure Bk where
 pc:Int
 pl:Int
 code:List Int
 ct:Int
 A:Aw
 c:Nat
def kc(k:Ky)(c:Nat):As:=if c=0 then J V k.1 else J V k.2
def bc(b:Bk)(c:Nat):As:=if c=0 then J V b.pc else if c=1 then J V b.pl else if c=2 then Z b.A b.code.length b.c else J U b.ct
def Found(n:Nat)(p:Nat→Bool)(Bw:Nat→Aa→Prop)(e:AY)(w':Aa):Prop:=
 (∃m:Nat,m<n∧e=Ax (J U m)∧(∀j,j<m→p j=Ac)∧p m=Ag∧Bw (m+1) w')∨(e=Ax (J U (-1))∧(∀j,j<n→p j=Ac)∧Bw n w')
def kept(p:Nat→Bool)(n:Nat):List Nat:=(Cl n).filter (λt=> !p t)
variable{p:Nat→Bool}
theorem QA{b:Nat}(h:p b=Ag):kept p (b+1)=kept p b:=WI
theorem WJ{b:Nat}(h:p b=Ac):kept p (b+1)=kept p b++[b]:=WI
variable{n:Nat}
theorem QB(h: ∀j,j<n→p j=Ac):kept p n=Cl n:=by
 unfold kept;rw[List.filter_eq_self];intro a ha;simp[h a (by simpa using ha)]
theorem WK{m:Nat}(h: ∀j,j<m→p j=Ac)(h1:p m=Ag):(kept p (m+1)).length=m∧ ∀t,t<(kept p (m+1)).length→(kept p (m+1)).getD t 0=t:=by
 have e:kept p (m+1)=Cl m:=by rw[QA h1,QB h]
 refine⟨EV,λt ht=>?_⟩;rw[e] at ht⊢;simp[AS] at ht⊢;rw[IL ht];rfl
theorem WL{P:CF}(w:Aa)(n:Nat)(t e ty:AN)(z:As)(ht:P.underlying t=I (.slice e))(hv: ∀w,(zeroValue e).run P w=.ok z w)(h1: ∀v∈(DO z.cells n).toList,v.oneCell'=Ag)(b o c:Nat)(hn:0<n)(hc: ∀j,j<(DO z.cells n).toList.length→(w.cell? ⟨b,o+j,G⟩).isSome=Ag)(hf: ∀j,j<(DO z.cells n).toList.length→w.frozen? ⟨b,o+j,G⟩=Ac):(Builtin.clear_ #[t] ty #[Z (I ⟨b,o,G⟩) n c]).run P w=.ok (AF #[]) (w.setCells b o (DO z.cells n).toList):=by
 have hst:=run_storeCells_cells (P:=P) b o (DO z.cells n).toList 0 w JR (by simpa using hf) h1;simp only[Nat.add_zero] at hst;obtain⟨m,rfl⟩: ∃m,n=m+1:=⟨n -1,O⟩;simp[Builtin.clear_,Fe ht,hv,hst]
def z_k:As:=A9 #[J V 0,J V 0]
theorem zrun_k(w:Aa):(zeroValue 122).run Tryz.prog w=.ok z_k w:=AL
theorem zlen_k(n:Nat):(DO z_k.cells n).toList.length=n*2:=by
 simp[DO,z_k,Value.cells]
theorem zone_k(n:Nat): ∀v∈(DO z_k.cells n).toList,v.oneCell'=Ag:=by
 intro v hv;simp only[DO,Array.toList_map,BS] at hv;obtain⟨i,_,rfl⟩:=hv;have:i%z_k.cells.size<2:=Nat.mod_lt _ Ak;generalize i%z_k.cells.size=q at*;rcases(by omega:q=0∨q=1) with rfl|rfl<;>decide
def KF(w:Aa)(A:Aw)(n:Nat)(f:Nat→Ky):Prop:=
 ∀q,q<n→ ∃g off,A=I ⟨g,off,G⟩∧w.cell? ⟨g,off+q*2,G⟩=I (J V (f q).1)∧w.cell? ⟨g,off+q*2+1,G⟩=I (J V (f q).2)
theorem WM(w:Aa)(A:Aw)(n cap:Nat)(hm:n≤1099511627776)(f:Nat→Ky)(fid:Nat)(cp:AO)(hf: ∀args W,(callFunc fid args).run Tryz.prog W=.ok (.enter fid args) W)(Bw:Nat→Aa→Prop)(p:Nat→Bool)(hI:Bw 0 w)(hrow: ∀q W,Bw q W→KF W A n f)(hstep: ∀q W,q<n→Bw q W→At Tryz.prog fid (#[A9 #[J V (f q).1,J V (f q).2]]++cp) W λe w'=>e=Ax (Ap (p q))∧Bw (q+1) w'):At Tryz.prog 106 #[Z A n cap,.func (.func fid) #[] cp] w (Found n p Bw):=by
 have HI:=T hI;have HR:=T hrow;have HS:=T hstep;clear hI hrow hstep;go_in;go_wp2_with fail;go_loopw [8] (λi wr=> ∃q:Nat,q≤n∧i=J U q∧(∀j,j<q→p j=Ac)∧Bw q wr) (λi _=>n -(AM i).toNat)
 case atStart=>exact⟨0,O,rfl,λj h=>absurd h O,HI.out⟩
 case round=>
  obtain⟨q,hq,rfl,hno,hI⟩:=hrel;have HNO:=T hno;have HW:=T hI;clear hno;by_cases hlt:q<n;·obtain⟨g,off,rfl,c0,c1⟩:=HR.out q wr hI q hlt;have hd:=QC;have q0:=QD;have q1:(q:Int)<(n:Int):=O;have Hp:=T (HS.out q wr hlt hI);clear hI;generalize(f q).1=y0 at*;generalize(f q).2=y1 at*;exact WN
  ·exact WO
def Row_k(w:Aa)(g cap n:Nat)(f:Nat→Ky):Prop:= ∃F,Cells w g 122 (cap*2) F∧n≤cap∧ ∀q,q<n→ ∀c,c<2→F (q*2+c)=kc (f q) c
variable{w:Aa}{g cap:Nat}
theorem Row_k.cell{f:Nat→Ky}(h:Row_k w g cap n f)(q c:Nat)(hq:q<n)(hc:c<2):w.cell? ⟨g,q*2+c,G⟩=I (kc (f q) c):=WP
theorem Row_k.at_{f:Nat→Ky}(h:Row_k w g cap n f):KF w (I ⟨g,0,G⟩) n f:=λq hq=>⟨g,0,rfl,WQ,WS⟩
theorem Row_k.fr{w':Aa}{f:Nat→Ky}{S:AE}(h:Row_k w g cap n f)(fr:Fr S w w')(hn: ¬S g):Row_k w' g cap n f:=WT
def Kept_k(g n cap:Nat)(f:Nat→Ky)(p:Nat→Bool)(Bw:Nat→Aa→Prop)(e:AY)(w':Aa):Prop:=
 e=Ax (Z (I ⟨g,0,G⟩) (kept p n).length cap)∧Bw n w'∧Row_k w' g cap (kept p n).length (λt=>f ((kept p n).getD t 0))
set_option maxRecDepth 100000 in
theorem delete_k(w:Aa)(g n cap:Nat)(f:Nat→Ky)(hrow:Row_k w g cap n f)(hn:n≤1099511627776)(hm:cap≤BQ)(fid:Nat)(cp:AO)(hf: ∀args W,(callFunc fid args).run Tryz.prog W=.ok (.enter fid args) W)(S:AE)(hS: ¬S g∧ ∀k,S k→k<w.heap.size)(Bw:Nat→Aa→Prop)(p:Nat→Bool)(hI:Bw 0 w)(hst: ∀q W W',Bw q W→Fr (· =g) W W'→Bw q W')(hstep: ∀q W,q<n→Bw q W→At Tryz.prog fid (#[A9 #[J V (f q).1,J V (f q).2]]++cp) W λe w'=>e=Ax (Ap (p q))∧Bw (q+1) w'∧Fr S W w'):At Tryz.prog 88 #[Z (I ⟨g,0,G⟩) n cap,.func (.func fid) #[] cp] w (Kept_k g n cap f p Bw):=by
 unfold BQ at hm;have HST:=T hst;have HS:=T hstep;have HSS:=T hS;have hcap:n≤cap:=WU;have Hix:=T (WM w (I ⟨g,0,G⟩) n cap O f fid cp hf (λq W=>Bw q W∧Row_k W g cap n f∧w.heap.size≤W.heap.size) p ⟨hI,hrow,AD _⟩ (λq W h=>h.2.1.at_) (λq W hq h=>(hstep q W hq h.1).mono (by
  rintro e w' ⟨rfl,h2,h3⟩;exact⟨rfl,h2,h.2.1.fr h3 hS.1,Bf h.2.2 h3.size⟩)))
 clear hst hstep hS hI hrow;go_in;go_wp2_with fail;refine Az Hix ?_;rintro e w1 hF;rcases hF with⟨m0,hm0,rfl,hp0,hp1,hI1,hR1,hs1⟩|⟨rfl,hp0,hI1,hR1,hs1⟩
 ·have HI1:=T hI1;have HR1:=T hR1;have HP:=T (WK hp0 hp1);have hne:((m0:Int)== -1)=Ac:=AC;clear hI1 hR1 hp0 hp1 Hix;go_wp2_with fail;go_loopw [5,6] (λi j wr=> ∃(a b:Nat) (F:Nat→As),i=J U a∧j=J U b∧m0<b∧b≤n∧a=(kept p b).length∧a<b∧Bw b wr∧w.heap.size≤wr.heap.size∧Cells wr g 122 (cap*2) F∧(∀t,t<(kept p b).length→ ∀c,c<2→F (t*2+c)=kc (f ((kept p b).getD t 0)) c)∧(∀q,b≤q→q<n→ ∀c,c<2→F (q*2+c)=kc (f q) c)) (λ_ j _=>n -(AM j).toNat);case atStart=>
   exact WV
  case round=>
   clear hs1 HI1 HR1;obtain⟨a,b,F,rfl,rfl,hb0,hb1,ha,hab,hI,hsz,hC,hk,hr⟩:=hrel;have HI:=T hI;have HK:=T hk;have HR:=T hr;have HA:=T ha;clear hI hk hr ha;by_cases hlt:b<n
   ·have hd:decide ((b:Int)<(n:Int))=Ag:=AA;have b0:(0:Int)≤(b:Int):=O;have b1:(b:Int)<(n:Int):=O;have a0:(0:Int)≤(a:Int):=O;have a1:(a:Int)<(n:Int):=O;have c0:wr.cell? ⟨g,b*2,G⟩=I (J V (f b).1):=(hC.cell (b*2) O).trans (congrArg I (HR.out b (AD _) hlt 0 O));have c1:wr.cell? ⟨g,b*2+1,G⟩=I (J V (f b).2):=(hC.cell (b*2+1) O).trans (congrArg I (HR.out b (AD _) hlt 1 O));have HC:=T hC;have fB:=(Ao Aj wr).alloc (.cells #[J V (f b).1,J V (f b).2] 122);have bB:Blk (wr.alloc (.cells #[J V (f b).1,J V (f b).2] 122)) ↑wr 122 #[J V (f b).1,J V (f b).2]:=AI _ _ _;have Hp:=T (HS.out b _ hlt (HST.out b wr _ HI.out (fB.mono (λ_ _ e=>e.elim))));have hgl:=hC.lt;have HV:Hid (∀c,c<2→kc (f b) c=([J V (f b).1,J V (f b).2]:List As).getD c BY):=T (λc hc=>by
     rcases(by omega:c=0∨c=1) with rfl|rfl<;>rfl)
    clear hC;generalize(f b).1=y0 at*;generalize(f b).2=y1 at*;obtain⟨t,ht⟩:=A8 (p b);rw[ht] at Hp;have HT:=T ht;have FB:=T fB;clear ht fB;go_wp2_with fail;refine Az Hp ?_;rintro e w2 ⟨rfl,hI2,f2⟩;have HI2:=T hI2;have F2:=T f2;have hCs:=(HC.out.fr FB.out id).fr f2 HSS.out.1;have bB2:=bB.fr f2 (λe=>by have:=HSS.out.2 _ e;omega);have hbl:=bB2.lt;have hsz2:=f2.size;clear hI2 f2
    cases t
    ·have e1:=WJ HT.out;have z0:=hCs.cell (a*2) O;have v0:=hCs.frozen (a*2);have d0:=bB2.cell 0;have z1:=hCs.cell (a*2+1) O;have v1:=hCs.frozen (a*2+1);have d1:=bB2.cell 1;have hgl2:=hCs.lt;have HCs:=T hCs;clear hCs;have HA2:=WW;have HG1:Hid (∀t,t<a→(kept p (b+1)).getD t 0=(kept p b).getD t 0):=T (λt ht=>by
      rw[e1,AS,Ff JS,←AS])
     have HG2:Hid ((kept p (b+1)).getD a 0=b):=T (by
      rw[e1,AS,Ex JS,HA.out,Nat.sub_self];rfl)
     have fS:=WX;have FS:=T fS;clear fS e1
     go_wp2
     go_roundw;case rel=>
      refine⟨a+1,b+1,_,Bn,Bn,O,O,HA2.out,O,FS.out _ ((Br w2 g (a*2) (J V y0)).setCell (p:=⟨g,a*2+1,G⟩) (Af rfl) (J V y1)),WY,(HCs.out.set_ (a*2) (J V y0)).set_ (a*2+1) (J V y1),λt ht c hc=>?_,λq h1 h2 c hc=>?_⟩
      ·by_cases hta:t<a;·rw[HG1.out t hta,←HK.out t JS c hc];exact WZ
       ·have hta:t=a:=by have:=HA2.out;omega
        subst hta;rw[HG2.out,HV.out c hc];rcases(by omega:c=0∨c=1) with rfl|rfl
        all_goals
         unfold Bz;simp
      ·rw[←HR.out q O h2 c hc];exact WZ
     case measure=>simp[AM];omega
    ·have e1:=QA HT.out;have HX:Hid (∃F,Cells w2 g 122 (cap*2) F∧(∀t,t<(kept p (b+1)).length→ ∀c,c<2→F (t*2+c)=kc (f ((kept p (b+1)).getD t 0)) c)∧(∀q,b+1≤q→q<n→ ∀c,c<2→F (q*2+c)=kc (f q) c)):=T ⟨F,hCs,by rw[e1];exact HK.out,λq h1 h2=>HR.out q O h2⟩;exact Xa
   ·have hd:decide ((b:Int)<(n:Int))=Ac:=AA;have e:b=n:=O;have HE:=T e;have hba:b=n:=e;subst hba;clear e;have hcap2:b≤cap:=hcap;have hlen:=zlen_k (b -a);have hcl:=λty=>WL (P:=Tryz.prog) wr (b -a) 182 122 ty z_k Tryz.underlying182 zrun_k (zone_k (b -a)) g (a*2) (cap -a) O (λj hj=>by rw[hlen] at hj;rw[hC.cell (a*2+j) (by omega)];rfl) (λj hj=>hC.frozen _);have hC2:=T (hC.setCells (DO z_k.cells (b -a)).toList (a*2));have fR:Fr (· =g) wr (wr.setCells g (a*2) (DO z_k.cells (b -a)).toList):=Fr.setRow _ _ (Ao _ _) (Af rfl);have HI3:=T (HST.out _ _ _ HI.out fR);have HL:=T hlen;clear fR hC hlen;generalize(DO z_k.cells (b -a)).toList=Bh at*;exact Xb
 ·have e:=QB hp0;have HE:=T e;have HI1:=T hI1;have HR1:=T hR1;clear hp0 hI1 hR1 e Hix
  go_wp2
  go_ret;refine⟨by rw[HE.out];simp,HI1.out, ?_⟩;rw[HE.out,List.length_range];obtain⟨F,g1,g2,g3⟩:=HR1.out;refine⟨F,g1,g2,λq hq c hc=>?_⟩;have:=Xc;show F (q*2+c)=kc (f ((Cl n).getD q 0)) c;rw[this];exact g3 q hq c hc
def z_b:As:=A9 #[J V 0,J V 0,Z G 0 0,J U 0]
theorem zrun_b(w:Aa):(zeroValue 149).run Tryz.prog w=.ok z_b w:=AL
theorem zlen_b(n:Nat):(DO z_b.cells n).toList.length=n*4:=by
 simp[DO,z_b,Value.cells]
theorem zone_b(n:Nat): ∀v∈(DO z_b.cells n).toList,v.oneCell'=Ag:=by
 intro v hv;simp only[DO,Array.toList_map,BS] at hv;obtain⟨i,_,rfl⟩:=hv;have:i%z_b.cells.size<4:=Nat.mod_lt _ Ak;generalize i%z_b.cells.size=q at*;rcases(by omega:q=0∨q=1∨q=2∨q=3) with rfl|rfl|rfl|rfl<;>decide
def At_b(w:Aa)(A:Aw)(n:Nat)(f:Nat→Bk):Prop:=
 ∀q,q<n→ ∃g off,A=I ⟨g,off,G⟩∧w.cell? ⟨g,off+q*4,G⟩=I (J V (f q).pc)∧w.cell? ⟨g,off+q*4+1,G⟩=I (J V (f q).pl)∧w.cell? ⟨g,off+q*4+2,G⟩=I (Z (f q).A (f q).code.length (f q).c)∧w.cell? ⟨g,off+q*4+3,G⟩=I (J U (f q).ct)
theorem QE(w:Aa)(A:Aw)(n cap:Nat)(hm:n≤1099511627776)(f:Nat→Bk)(fid:Nat)(cp:AO)(hf: ∀args W,(callFunc fid args).run Tryz.prog W=.ok (.enter fid args) W)(Bw:Nat→Aa→Prop)(p:Nat→Bool)(hI:Bw 0 w)(hrow: ∀q W,Bw q W→At_b W A n f)(hstep: ∀q W,q<n→Bw q W→At Tryz.prog fid (#[A9 #[J V (f q).pc,J V (f q).pl,Z (f q).A (f q).code.length (f q).c,J U (f q).ct]]++cp) W λe w'=>e=Ax (Ap (p q))∧Bw (q+1) w'):At Tryz.prog 86 #[Z A n cap,.func (.func fid) #[] cp] w (Found n p Bw):=by
 have HI:=T hI;have HR:=T hrow;have HS:=T hstep;clear hI hrow hstep;go_in;go_wp2_with fail;go_loopw [8] (λi wr=> ∃q:Nat,q≤n∧i=J U q∧(∀j,j<q→p j=Ac)∧Bw q wr) (λi _=>n -(AM i).toNat)
 case atStart=>exact⟨0,O,rfl,λj h=>absurd h O,HI.out⟩
 case round=>
  obtain⟨q,hq,rfl,hno,hI⟩:=hrel;have HNO:=T hno;have HW:=T hI;clear hno;by_cases hlt:q<n;·obtain⟨g,off,rfl,c0,c1,c2,c3⟩:=HR.out q wr hI q hlt;have hd:=QC;have q0:=QD;have q1:(q:Int)<(n:Int):=O;have Hp:=T (HS.out q wr hlt hI);clear hI;generalize(f q).pc=y0 at*;generalize(f q).pl=y1 at*;generalize(f q).A=y2 at*;generalize(f q).code.length=y3 at*;generalize(f q).c=y4 at*;generalize(f q).ct=y5 at*;exact WN
  ·exact WO
def Row_b(w:Aa)(g cap n:Nat)(f:Nat→Bk):Prop:= ∃F,Cells w g 149 (cap*4) F∧n≤cap∧ ∀q,q<n→ ∀c,c<4→F (q*4+c)=bc (f q) c
theorem Row_b.cell{f:Nat→Bk}(h:Row_b w g cap n f)(q c:Nat)(hq:q<n)(hc:c<4):w.cell? ⟨g,q*4+c,G⟩=I (bc (f q) c):=WP
theorem Row_b.at_{f:Nat→Bk}(h:Row_b w g cap n f):At_b w (I ⟨g,0,G⟩) n f:=λq hq=>⟨g,0,rfl,WQ,WS,by rw[BW];exact h.cell q 2 hq (by omega),by rw[BW];exact h.cell q 3 hq (by omega)⟩
theorem Row_b.fr{w':Aa}{f:Nat→Bk}{S:AE}(h:Row_b w g cap n f)(fr:Fr S w w')(hn: ¬S g):Row_b w' g cap n f:=WT
def Kept_b(g n cap:Nat)(f:Nat→Bk)(p:Nat→Bool)(Bw:Nat→Aa→Prop)(e:AY)(w':Aa):Prop:=
 e=Ax (Z (I ⟨g,0,G⟩) (kept p n).length cap)∧Bw n w'∧Row_b w' g cap (kept p n).length (λt=>f ((kept p n).getD t 0))
set_option maxRecDepth 100000 in
theorem delete_b(w:Aa)(g n cap:Nat)(f:Nat→Bk)(hrow:Row_b w g cap n f)(hn:n≤1099511627776)(hm:cap≤BQ)(fid:Nat)(cp:AO)(hf: ∀args W,(callFunc fid args).run Tryz.prog W=.ok (.enter fid args) W)(S:AE)(hS: ¬S g∧ ∀k,S k→k<w.heap.size)(Bw:Nat→Aa→Prop)(p:Nat→Bool)(hI:Bw 0 w)(hst: ∀q W W',Bw q W→Fr (· =g) W W'→Bw q W')(hstep: ∀q W,q<n→Bw q W→At Tryz.prog fid (#[A9 #[J V (f q).pc,J V (f q).pl,Z (f q).A (f q).code.length (f q).c,J U (f q).ct]]++cp) W λe w'=>e=Ax (Ap (p q))∧Bw (q+1) w'∧Fr S W w'):At Tryz.prog 69 #[Z (I ⟨g,0,G⟩) n cap,.func (.func fid) #[] cp] w (Kept_b g n cap f p Bw):=by
 unfold BQ at hm;have HST:=T hst;have HS:=T hstep;have HSS:=T hS;have hcap:n≤cap:=WU;have Hix:=T (QE w (I ⟨g,0,G⟩) n cap O f fid cp hf (λq W=>Bw q W∧Row_b W g cap n f∧w.heap.size≤W.heap.size) p ⟨hI,hrow,AD _⟩ (λq W h=>h.2.1.at_) (λq W hq h=>(hstep q W hq h.1).mono (by
  rintro e w' ⟨rfl,h2,h3⟩;exact⟨rfl,h2,h.2.1.fr h3 hS.1,Bf h.2.2 h3.size⟩)))
 clear hst hstep hS hI hrow;go_in;go_wp2_with fail;refine Az Hix ?_;rintro e w1 hF;rcases hF with⟨m0,hm0,rfl,hp0,hp1,hI1,hR1,hs1⟩|⟨rfl,hp0,hI1,hR1,hs1⟩
 ·have HI1:=T hI1;have HR1:=T hR1;have HP:=T (WK hp0 hp1);have hne:((m0:Int)== -1)=Ac:=AC;clear hI1 hR1 hp0 hp1 Hix;go_wp2_with fail;go_loopw [5,6] (λi j wr=> ∃(a b:Nat) (F:Nat→As),i=J U a∧j=J U b∧m0<b∧b≤n∧a=(kept p b).length∧a<b∧Bw b wr∧w.heap.size≤wr.heap.size∧Cells wr g 149 (cap*4) F∧(∀t,t<(kept p b).length→ ∀c,c<4→F (t*4+c)=bc (f ((kept p b).getD t 0)) c)∧(∀q,b≤q→q<n→ ∀c,c<4→F (q*4+c)=bc (f q) c)) (λ_ j _=>n -(AM j).toNat);case atStart=>
   exact WV
  case round=>
   clear hs1 HI1 HR1;obtain⟨a,b,F,rfl,rfl,hb0,hb1,ha,hab,hI,hsz,hC,hk,hr⟩:=hrel;have HI:=T hI;have HK:=T hk;have HR:=T hr;have HA:=T ha;clear hI hk hr ha;by_cases hlt:b<n
   ·have hd:decide ((b:Int)<(n:Int))=Ag:=AA;have b0:(0:Int)≤(b:Int):=O;have b1:(b:Int)<(n:Int):=O;have a0:(0:Int)≤(a:Int):=O;have a1:(a:Int)<(n:Int):=O;have c0:wr.cell? ⟨g,b*4,G⟩=I (J V (f b).pc):=(hC.cell (b*4) O).trans (congrArg I (HR.out b (AD _) hlt 0 O));have c1:wr.cell? ⟨g,b*4+1,G⟩=I (J V (f b).pl):=(hC.cell (b*4+1) O).trans (congrArg I (HR.out b (AD _) hlt 1 O));have c2:wr.cell? ⟨g,b*4+2,G⟩=I (Z (f b).A (f b).code.length (f b).c):=(hC.cell (b*4+2) O).trans (congrArg I (HR.out b (AD _) hlt 2 O));have c3:wr.cell? ⟨g,b*4+3,G⟩=I (J U (f b).ct):=(hC.cell (b*4+3) O).trans (congrArg I (HR.out b (AD _) hlt 3 O));have HC:=T hC;have fB:=(Ao Aj wr).alloc (.cells #[J V (f b).pc,J V (f b).pl,Z (f b).A (f b).code.length (f b).c,J U (f b).ct] 149);have bB:Blk (wr.alloc (.cells #[J V (f b).pc,J V (f b).pl,Z (f b).A (f b).code.length (f b).c,J U (f b).ct] 149)) ↑wr 149 #[J V (f b).pc,J V (f b).pl,Z (f b).A (f b).code.length (f b).c,J U (f b).ct]:=AI _ _ _;have Hp:=T (HS.out b _ hlt (HST.out b wr _ HI.out (fB.mono (λ_ _ e=>e.elim))));have hgl:=hC.lt;have HV:Hid (∀c,c<4→bc (f b) c=([J V (f b).pc,J V (f b).pl,Z (f b).A (f b).code.length (f b).c,J U (f b).ct]:List As).getD c BY):=T (λc hc=>by
     rcases(by omega:c=0∨c=1∨c=2∨c=3) with rfl|rfl|rfl|rfl<;>rfl)
    clear hC;generalize(f b).pc=y0 at*;generalize(f b).pl=y1 at*;generalize(f b).A=y2 at*;generalize(f b).code.length=y3 at*;generalize(f b).c=y4 at*;generalize(f b).ct=y5 at*;obtain⟨t,ht⟩:=A8 (p b);rw[ht] at Hp;have HT:=T ht;have FB:=T fB;clear ht fB;go_wp2_with fail;refine Az Hp ?_;rintro e w2 ⟨rfl,hI2,f2⟩;have HI2:=T hI2;have F2:=T f2;have hCs:=(HC.out.fr FB.out id).fr f2 HSS.out.1;have bB2:=bB.fr f2 (λe=>by have:=HSS.out.2 _ e;omega);have hbl:=bB2.lt;have hsz2:=f2.size;clear hI2 f2
    cases t
    ·have e1:=WJ HT.out;have z0:=hCs.cell (a*4) O;have v0:=hCs.frozen (a*4);have d0:=bB2.cell 0;have z1:=hCs.cell (a*4+1) O;have v1:=hCs.frozen (a*4+1);have d1:=bB2.cell 1;have z2:=hCs.cell (a*4+2) O;have v2:=hCs.frozen (a*4+2);have d2:=bB2.cell 2;have z3:=hCs.cell (a*4+3) O;have v3:=hCs.frozen (a*4+3);have d3:=bB2.cell 3;have hgl2:=hCs.lt;have HCs:=T hCs;clear hCs;have HA2:=WW;have HG1:Hid (∀t,t<a→(kept p (b+1)).getD t 0=(kept p b).getD t 0):=T (λt ht=>by
      rw[e1,AS,Ff JS,←AS])
     have HG2:Hid ((kept p (b+1)).getD a 0=b):=T (by
      rw[e1,AS,Ex JS,HA.out,Nat.sub_self];rfl)
     have fS:=WX;have FS:=T fS;clear fS e1
     go_wp2
     go_roundw;case rel=>
      refine⟨a+1,b+1,_,Bn,Bn,O,O,HA2.out,O,FS.out _ ((((Br w2 g (a*4) (J .u32 y0)).setCell (p:=⟨g,a*4+1,G⟩) (.inl rfl) (J .u32 y1)).setCell (p:=⟨g,a*4+2,G⟩) (.inl rfl) (Z y2 y3 y4)).setCell (p:=⟨g,a*4+3,G⟩) (.inl rfl) (J .i64 y5)),WY,(((HCs.out.set_ (a*4) (J .u32 y0)).set_ (a*4+1) (J .u32 y1)).set_ (a*4+2) (Z y2 y3 y4)).set_ (a*4+3) (J .i64 y5),λt ht c hc=>?_,λq h1 h2 c hc=>?_⟩
      ·by_cases hta:t<a;·rw[HG1.out t hta,←HK.out t JS c hc];exact QF
       ·have hta:t=a:=by have:=HA2.out;omega
        subst hta;rw[HG2.out,HV.out c hc];rcases(by omega:c=0∨c=1∨c=2∨c=3) with rfl|rfl|rfl|rfl
        all_goals
         unfold Bz;simp
      ·rw[←HR.out q O h2 c hc];exact QF
     case measure=>simp[AM];omega
    ·have e1:=QA HT.out;have HX:Hid (∃F,Cells w2 g 149 (cap*4) F∧(∀t,t<(kept p (b+1)).length→ ∀c,c<4→F (t*4+c)=bc (f ((kept p (b+1)).getD t 0)) c)∧(∀q,b+1≤q→q<n→ ∀c,c<4→F (q*4+c)=bc (f q) c)):=T ⟨F,hCs,by rw[e1];exact HK.out,λq h1 h2=>HR.out q O h2⟩;exact Xa
   ·have hd:decide ((b:Int)<(n:Int))=Ac:=AA;have e:b=n:=O;have HE:=T e;have hba:b=n:=e;subst hba;clear e;have hcap2:b≤cap:=hcap;have hlen:=zlen_b (b -a);have hcl:=λty=>WL (P:=Tryz.prog) wr (b -a) 146 149 ty z_b Tryz.underlying146 zrun_b (zone_b (b -a)) g (a*4) (cap -a) O (λj hj=>by rw[hlen] at hj;rw[hC.cell (a*4+j) (by omega)];rfl) (λj hj=>hC.frozen _);have hC2:=T (hC.setCells (DO z_b.cells (b -a)).toList (a*4));have fR:Fr (· =g) wr (wr.setCells g (a*4) (DO z_b.cells (b -a)).toList):=Fr.setRow _ _ (Ao _ _) (Af rfl);have HI3:=T (HST.out _ _ _ HI.out fR);have HL:=T hlen;clear fR hC hlen;generalize(DO z_b.cells (b -a)).toList=Bh at*;exact Xb
 ·have e:=QB hp0;have HE:=T e;have HI1:=T hI1;have HR1:=T hR1;clear hp0 hI1 hR1 e Hix
  go_wp2
  go_ret;refine⟨by rw[HE.out];simp,HI1.out, ?_⟩;rw[HE.out,List.length_range];obtain⟨F,g1,g2,g3⟩:=HR1.out;refine⟨F,g1,g2,λq hq c hc=>?_⟩;have:=Xc;show F (q*4+c)=bc (f ((Cl n).getD q 0)) c;rw[this];exact g3 q hq c hc
end Ca
namespace Ca
open Mz Go.Maps
def kyv(k:Ky):As:=A9 #[.int V k.1,.int V k.2]
theorem IM: ∀a b:Ky,kyv a=kyv b→a=b:=by
 rintro⟨a,b⟩ ⟨c,d⟩ h;simp only[kyv] at h;injection h with h;injection h with h;injection h with h1 h2;injection h1 with _ h1;injection h2 with h2 _;injection h2 with _ h2;rw[h1,h2]
def Ky.Ok(k:Ky):Prop:=(0≤k.1∧k.1≤4294967295)∧(0≤k.2∧k.2≤4294967295)
theorem laidOut:laidOutB Tryz.prog=Ag:=AL
theorem IN:Keyed Tryz.prog 122:=Keyed.of_law (deep_law_gate laidOut (of_decide_eq_true AL) (of_decide_eq_true AL) AL AL)
theorem keyTy:Tryz.prog.keyType 122=Ag:=AL
theorem cellsK:Tryz.prog.cellsOf 122=2:=AL
theorem cellsU:Tryz.prog.cellsOf 22=1:=AL
theorem tySz: ∃n,Tryz.prog.types.size=n+1:=by
 have h:decide (0<Tryz.prog.types.size)=Ag:=AL;have h:=of_decide_eq_true h;exact⟨Tryz.prog.types.size -1,O⟩
theorem JT(k:Ky)(h:k.Ok): ∃l,keyOf Tryz.prog 122 (kyv k)=I l:=by
 obtain⟨a,b⟩:=k;obtain⟨⟨h1,h2⟩,h3,h4⟩:=h;have w1:(DT V a).wf=Ag:=OU h1 h2;have w2:(DT V b).wf=Ag:=OU h3 h4;obtain⟨n,hn⟩:=tySz;have hform:Value.formed Tryz.prog 122 (kyv (a,b))=Ag:=by
  unfold Value.formed kyv;simp only[Tryz.underlying122,cellsK];rfl
 simp only[keyOf,Tryz.underlying122,keyTy,Bool.true_and,hform,if_true];have hl:Tryz.prog.keyLits (Tryz.prog.types.size+1) 122 (kyv (a,b)).cells.toList=I [.int V a,.int V b]:=by
  rw[hn];simp only[Program.keyLits,Tryz.underlying122,kyv,Value.cells];rw[An ⟨by rw[cellsK];rfl,AC⟩];simp[cellsU,Tryz.underlying22,w1,w2]
 rw[hl];exact⟨_,rfl⟩
end Ca
namespace Ca
open Mz Go.Maps
def Bk.k(b:Bk):Ky:=(b.pc,b.pl)
def dBk:Bk:=⟨0,0,[],0,G,0⟩
def Ch(l:List Bk)(i:Nat):Bk:=l.getD i dBk
def Dy(l:List Ky)(i:Nat):Ky:=l.getD i (0,0)
theorem Jr{l:List Bk}{i:Nat}(h:i<l.length):Ch l i=l[i]:=by simp[Ch,AS,h]
theorem QG{l:List Ky}{i:Nat}(h:i<l.length):Dy l i=l[i]:=by simp[Dy,AS,h]
structure Lr where
 ks:List Ky
 A:Aw
 c:Nat
structure Cs where
 room:Int
 bl:List Bk
 A:Aw
 c:Nat
 gm:Nat
 E:List (Ky×Lr)
 fl:Int
def ab(A:Aw):Option Nat:=A.map (·.block)
def ent(p:Ky×Lr):Ky×As:=(p.1,Z p.2.A p.2.ks.length p.2.c)
def BRow(w:Aa)(A:Aw)(c:Nat)(l:List Bk):Prop:=(l=[]∧A=G∧c=0)∨ ∃gl,A=I ⟨gl,0,G⟩∧Row_b w gl c l.length (Ch l)∧c≤BQ
def CodeOk(w:Aa)(b:Bk):Prop:=w.ownsRow 0 5 1 (Z b.A b.code.length b.c) b.code.length (b.code.map (J AB))
def LrOk(w:Aa)(l:Lr):Prop:=(l.ks=[]∧l.A=G∧l.c=0)∨ ∃gk,l.A=I ⟨gk,0,G⟩∧Row_k w gk l.c l.ks.length (Dy l.ks)∧l.c≤BQ
def Cs.wr(s:Cs)(g k:Nat):Prop:=k=g∨ab s.A=I k∨k=s.gm∨ ∃p∈s.E,ab p.2.A=I k
def Cs.own(s:Cs)(g k:Nat):Prop:=s.wr g k∨ ∃b∈s.bl,ab b.A=I k
def IP(s:Cs):AO:=#[J U s.room,Z s.A s.bl.length s.c,.map (I s.gm),J U s.fl]
structure Cs.Ok(s:Cs):Prop where
 room:1≤s.room∧s.room≤1024
 len:(s.bl.length:Int)≤s.room
 keys: ∀b∈s.bl,b.k.Ok
 kd:(s.bl.map Bk.k).Nodup
 ct: ∀b∈s.bl,1≤b.ct∧b.ct≤9223372036854775807
 code: ∀b∈s.bl,b.code≠[]∧b.code.length≤1000000∧ ∀z∈b.code,0≤z∧z<256
 fl:0≤s.fl
 froms: ∀p∈s.E,p.1∈s.bl.map Bk.k
 tos: ∀p∈s.E,p.2.ks.Nodup∧ ∀k∈p.2.ks,k∈s.bl.map Bk.k
structure Cch(w:Aa)(g:Nat)(s:Cs):Prop where
 b:Blk w g 152 (IP s)
 m: ∃bs clock,MapL Tryz.prog 122 kyv w s.gm (s.E.map ent) bs clock
 r:BRow w s.A s.c s.bl
 code: ∀b∈s.bl,CodeOk w b
 rows: ∀p∈s.E,LrOk w p.2
 sep:s.E.Pairwise (λp q=> ∀k,ab p.2.A=I k→ab q.2.A≠I k)
 ok:s.Ok
section
variable {w w':Aa} {g:Nat} {s:Cs} {S:AE}
theorem BRow.fr{A:Aw}{c:Nat}{l:List Bk}(h:BRow w A c l)(f:Fr S w w')(hs: ∀k,ab A=I k→ ¬S k):BRow w' A c l:=by
 rcases h with h|⟨gl,rfl,h1,h2⟩;·exact Af h
 ·exact Ah ⟨gl,rfl,h1.fr f (hs gl rfl),h2⟩
theorem LrOk.fr{l:Lr}(h:LrOk w l)(f:Fr S w w')(hs: ∀k,ab l.A=I k→ ¬S k):LrOk w' l:=by
 rcases h with h|⟨gl,e,h1,h2⟩;·exact Af h
 ·exact Ah ⟨gl,e,h1.fr f (hs gl Jm),h2⟩
theorem CodeOk.fr{b:Bk}(h:CodeOk w b)(f:Fr S w w')(hs: ∀k,ab b.A=I k→ ¬S k):CodeOk w' b:=by
 refine AR h f (λk hk=>hs k ?_);unfold CodeOk at h;rcases h.2 with⟨e,_⟩|⟨g',cap,cur,e,_⟩;·rw[e] at hk;simp[Cb] at hk
 ·rw[e] at hk;injection e with e;rw[e];simpa[Cb,ab] using hk
theorem Cch.fr(h:Cch w g s)(f:Fr S w w')(hs: ∀k,s.own g k→ ¬S k):Cch w' g s:=by
 obtain⟨bs,clock,hm⟩:=h.m;exact⟨h.b.fr f (hs _ (Af (Af rfl))),⟨bs,clock,hm.fr f (hs _ (Af (Ah (Ah (Af rfl)))))⟩,h.r.fr f (λk hk=>hs k (Af (Ah (Af hk)))),λb hb=>(h.code b hb).fr f (λk hk=>hs k (Ah ⟨b,hb,hk⟩)),λp hp=>(h.rows p hp).fr f (λk hk=>hs k (Af (Ah (Ah (Ah ⟨p,hp,hk⟩))))),h.sep,h.ok⟩
theorem Cch.fr0(h:Cch w g s)(f:Fr Aj w w'):Cch w' g s:=h.fr f (λ_ _ e=>e)
theorem Cch.cells(h:Cch w g s):w.cell? ⟨g,0,G⟩=I (J U s.room)∧w.cell? ⟨g,1,G⟩=I (Z s.A s.bl.length s.c)∧w.cell? ⟨g,2,G⟩=I (.map (I s.gm))∧w.cell? ⟨g,3,G⟩=I (J U s.fl):=⟨h.b.cell 0,h.b.cell 1,h.b.cell 2,h.b.cell 3⟩
theorem BRow.at_{A:Aw}{c:Nat}{l:List Bk}(h:BRow w A c l):At_b w A l.length (Ch l):=by
 rcases h with⟨rfl,_,_⟩|⟨gl,rfl,h1,_⟩;·exact λq hq=>absurd hq AC
 ·exact h1.at_
end
def idx(k:Ky):List Bk→Int
 |[]=> -1
 |b::l=>if b.k=k then 0 else if idx k l<0 then -1 else idx k l+1
theorem KG(k:Ky)(b:Bk)(l:List Bk):idx k (b::l)=if b.k=k then 0 else if idx k l<0 then -1 else idx k l+1:=rfl
theorem idx_lo(k:Ky): ∀l:List Bk,-1≤idx k l∧idx k l<l.length
 |[]=>⟨by simp[idx],by simp[idx]⟩
 |b::l=>by
  have ih:=idx_lo k l;rw[KG];simp only[D8];split;·omega
  ·split<;>omega
theorem idx_at(k:Ky): ∀(l:List Bk) (i:Nat) (hi:i<l.length),(∀j,j<i→(Ch l j).k≠k)→(Ch l i).k=k→idx k l=i
 |b::l,0,_,_,h=>by
  have h:b.k=k:=h;rw[KG,An h];rfl
 |b::l,i+1,hi,hn,h=>by
  have h0:b.k≠k:=hn 0 O;have ih:=idx_at k l i Md (λj hj=>hn (j+1) O) h;rw[KG,Ae h0,ih,Ae O];omega
theorem idx_no(k:Ky): ∀(l:List Bk),(∀j,j<l.length→(Ch l j).k≠k)→idx k l= -1
 |[],_=>rfl
 |b::l,hn=>by
  have h0:b.k≠k:=hn 0 AC;have ih:=idx_no k l (λj hj=>hn (j+1) (by simpa using hj));rw[KG,Ae h0,ih,An O]
theorem place1(w:Aa)(gk:Nat)(k:Ky)(h0:w.cell? ⟨gk,0,G⟩=I (J V k.1))(h1:w.cell? ⟨gk,1,G⟩=I (J V k.2))(hl:gk<↑w)(b:Bk):At Tryz.prog 107 #[A9 #[J V b.pc,J V b.pl,Z b.A b.code.length b.c,J U b.ct],↑gk] w λe w'=>e=Ax (Ap (decide (b.k=k)))∧Fr Aj w w':=by
 have hd:decide (b.k=k)=(b.pc==k.1&&b.pl==k.2):=by
  obtain⟨a,c⟩:=k;by_cases h1:b.pc=a<;>by_cases h2:b.pl=c<;>simp[Bk.k,h1,h2]
 exact Xd
set_option maxRecDepth 100000 in
theorem place_any(w:Aa)(g:Nat)(s:Cs)(h:Cch w g s)(k:Ky):At Tryz.prog 90 #[↑g,A9 #[J V k.1,J V k.2]] w λe w'=>e=Ax (J U (idx k s.bl))∧Fr Aj w w':=by
 have f0:=(Ao Aj w).alloc (.cells #[J V k.1,J V k.2] 122);have bk:=QH;obtain⟨c0,c1,c2,c3⟩:=(h.fr0 f0).cells;have hr:=(h.fr0 f0).r;have hlen:=h.ok.len;have hroom:=h.ok.room;have H0:=T f0;generalize hw1:w.alloc (.cells #[J V k.1,J V k.2] 122)=w1 at*;have Hi:=T (QE w1 s.A s.bl.length s.c O (Ch s.bl) 107 #[Bm (I ⟨↑w,0,G⟩)] (λargs W=>Fu) (λq W=>Fr Aj w1 W) (λq=>decide ((Ch s.bl q).k=k)) (Ao _ _) (λq W f=>(hr.fr f (λ_ _ e=>e)).at_)
  (λq W hq f=>by
   have b2:=bk.fr f id;exact(place1 W ↑w k (b2.cell 0) (b2.cell 1) b2.lt (Ch s.bl q)).mono λe w' ⟨h1,h2⟩=>⟨h1,f.tr h2⟩))
 clear f0 bk hr h c0 c2 c3;subst hw1;go_in;go_wp2_with fail;refine Az Hi ?_;rintro e w2 hF;have HE:Hid (e=Ax (J U (idx k s.bl))∧Fr Aj w w2):=T (by
  rcases hF with⟨m,hm,rfl,h1,h2,f⟩|⟨rfl,h1,f⟩;·refine⟨?_,H0.out.tr f⟩;rw[idx_at k s.bl m hm (λj hj=>of_decide_eq_false (h1 j hj)) (of_decide_eq_true h2)]
  ·refine⟨?_,H0.out.tr f⟩;rw[idx_no k s.bl (λj hj=>of_decide_eq_false (h1 j hj))])
 obtain⟨rfl,f⟩:=HE.out;clear hF
 go_wp2
 go_ret;exact⟨rfl,f⟩
end Ca
namespace Ca
open Mz Go.Maps
theorem info8:(Tryz.prog.info? 5).map (λi=>(i.zero,i.size,i.bytes))=I (I (J AB 0),1,1):=AL
def Gives(w:Aa)(n:Nat)(news:List As)(e:AY)(w':Aa):Prop:=
 ∃A c,e=Ax (Z A n c)∧w'.ownsRow ↑w 5 1 (Z A n c) n news∧Fr Aj w w'
variable{w:Aa}
theorem slice_form{base n s:Nat}{e:AN}{v:As}{xs:List As}(h:w.ownsRow base e s v n xs): ∃A c,v=Z A n c:=Tv
theorem clone_any(w:Aa)(A:Aw)(n c B:Nat)(news:List As)(hr:Reads w B 1 A n news)(hB:B≤↑w)(h1: ∀u∈news,u.oneCell'=Ag)(hn:n≤1099511627776)(hne:A=G→n=0∧c=0):At Tryz.prog 27 #[Z A n c] w (Gives w n news):=by
 obtain⟨i0,hi0,hz0,hz1,hz2⟩:=Cj info8
 cases A with
 |none=>
  obtain⟨rfl,rfl⟩:=hne rfl;have hnil:=OV;subst hnil;have hq:=λw=>Lib.run_eql_slice_nil (P:=Tryz.prog) w 23 5 G 0 0 0 0 CI;go_in
  go_wp2
  go_ret;exact⟨G,0,rfl,⟨AC,Af ⟨rfl,rfl⟩⟩,Ao _ _⟩
 |some ad=>
  have hq:=λw=>Lib.run_eql_slice_nil (P:=Tryz.prog) w 23 5 (I ad) n c 0 0 CI;have ho:=Xe;have hr1:=hr.alloc hB (.cells #[] 5);clear hr;go_in;go_wp2_with
   (at_builtin
    refine CU _ rfl (.tmp 5) (.tmp 6) _ rfl w.heap.size 5 i0 _ 1 1 CI hi0 hz0 hz1 hz2 rfl O (Z (I ⟨w.heap.size,0,G⟩) 0 0) 0 [] rfl ho B (I ad) n c news rfl hr1 h1 Cc O AC ?_
    intro v1 w1 hown1 hg1 hat1)
  go_ret;rw[BW,DH] at hown1;obtain⟨A1,c1,rfl⟩:=slice_form hown1;exact Xf
theorem results_ct{P:CF}{fn:Func}{p q:Tmp}{ty':AN}(h:fn.results=#[.cell q ty',.tmp p])(tmps:AO)(w:Aa)(g':Nat)(t':AN)(cs':AO)(d':TypeDesc)(v:As)(hp:tmps.getD p BY=v)(hq:tmps.getD q BY=↑g')(hg':Blk w g' t' cs')(hu':P.underlying ty'=I d')(hd':(match d' with|.struct _|.array _ _=>Ag|_=>Ac)=Ag)(hi':(P.info? ty').map (·.size)=I cs'.size):(results fn tmps).run P w=.ok (AF #[A9 cs',v]) w:=Ns
theorem szB:(Tryz.prog.info? 149).map (·.size)=I 4:=AL
theorem mQ{b:Bk}(h:CodeOk w b):Reads w ↑w 1 b.A b.code.length (b.code.map (J AB))∧(b.A=G→b.code.length=0∧b.c=0):=by
 refine⟨Reads.of_own h,λe=>?_⟩;exact Tw
def noB:AO:=#[J V 0,J V 0,Z G 0 0,J U 0]
theorem Xg(w:Aa)(g:Nat)(s:Cs)(h:Cch w g s)(k:Ky)(hk:idx k s.bl<0):At Tryz.prog 75 #[↑g,A9 #[J V k.1,J V k.2]] w λe w'=>e=Ax (AF #[A9 noB,Ap Ac])∧Fr Aj w w':=by
 have f1:=(Ao Aj w).alloc (.cells #[J V k.1,J V k.2] 122);have f2:=f1.alloc (.cells #[J V 0,J V 0,Z G 0 0,J U 0] 149);have b2:=Xh;have hs1:=Xi;rw[hs1] at b2;have Hp:=T (place_any _ g s (h.fr0 f2) k);obtain⟨i,hi⟩:=A8 (idx k s.bl);rw[hi] at Hp hk;have F2:=T f2;clear f1 f2 h hi;go_in;go_wp2_with fail;refine Az Hp ?_;rintro e w3 ⟨rfl,f3⟩;have b3:=b2.fr f3 id;have c0:=b3.cell 0;have c1:=b3.cell 1;have c2:=b3.cell 2;have c3:=b3.cell 3;have z0:=b3.frozen 0;have z1:=b3.frozen 1;have z2:=b3.frozen 2;have z3:=b3.frozen 3;have F3:=T (F2.out.tr f3);clear b2 f3 Hp;go_wp2_with fail;have b4:Blk _ (↑w+1) 149 noB:=(((b3.set_ 0 (J .u32 0)).set_ 1 (J .u32 0)).set_ 2 (Z G 0 0)).set_ 3 (J .i64 0);exact Bt (results_ct rfl _ _ (w.heap.size+1) 149 noB _ (.bool Ac) rfl rfl b4 Tryz.underlying149 rfl szB) rfl ⟨rfl,(((F3.out.setCell (p:=⟨↑w+1,0,G⟩) (Ah (Nat.le_succ _)) _).setCell (p:=⟨↑w+1,1,G⟩) (Ah (Nat.le_succ _)) _).setCell (p:=⟨↑w+1,2,G⟩) (Ah (Nat.le_succ _)) _).setCell (p:=⟨↑w+1,3,G⟩) (Ah (Nat.le_succ _)) _⟩
theorem own_low{b1 b2 n s:Nat}{e:AN}{v:As}{xs:List As}(h:w.ownsRow b1 e s v n xs)(hb:b2≤b1):w.ownsRow b2 e s v n xs:=Nf
def Told(w:Aa)(b:Bk)(e:AY)(w':Aa):Prop:=
 ∃A c,e=Ax (AF #[A9 #[J V b.pc,J V b.pl,Z A b.code.length c,J U b.ct],Ap Ag])∧w'.ownsRow ↑w 5 1 (Z A b.code.length c) b.code.length (b.code.map (J AB))∧Fr Aj w w'
theorem Xj(w:Aa)(g:Nat)(s:Cs)(h:Cch w g s)(k:Ky)(i:Nat)(hk:idx k s.bl=i):At Tryz.prog 75 #[↑g,A9 #[J V k.1,J V k.2]] w (Told w (Ch s.bl i)):=by
 have hil:i<s.bl.length:=by have:=(idx_lo k s.bl).2;omega
 have f1:=(Ao Aj w).alloc (.cells #[J V k.1,J V k.2] 122);have f2:=f1.alloc (.cells #[J V 0,J V 0,Z G 0 0,J U 0] 149);have b2:=Xh;have hs1:=Xi;rw[hs1] at b2;have Hp:=T (place_any _ g s (h.fr0 f2) k);rw[hk] at Hp;have F2:=T f2;have HC:=T (h.fr0 f2);have hroom:=h.ok.room;have hlen:=h.ok.len;clear f1 f2 h hk;go_in;go_wp2_with fail;refine Az Hp ?_;rintro e w3 ⟨rfl,f3⟩;have b3:=b2.fr f3 id;have h3:=HC.out.fr0 f3;obtain⟨d0,d1,d2,d3⟩:=h3.cells;have F3:=T (F2.out.tr f3);have HB3:=T b3;have hmem:Ch s.bl i∈s.bl:=Xk;have hcode:=h3.code _ hmem;have hcok:=(h3.ok.code _ hmem).2.1;obtain⟨gl,off,hA,r0,r1,r2,r3⟩:=h3.r.at_ i hil;rw[hA] at d1;obtain⟨n,hn⟩:=A8 s.bl.length;rw[hn] at d1 hil hlen;have i0:(0:Int)≤(i:Int):=O;have i1:(i:Int)<(n:Int):=O;generalize Ch s.bl i=b at*;have f4:=(Ao Aj w3).alloc (.cells #[J V b.pc,J V b.pl,Z b.A b.code.length b.c,J U b.ct] 149);have b7:Blk (w3.alloc (.cells #[J V b.pc,J V b.pl,Z b.A b.code.length b.c,J U b.ct] 149)) ↑w3 149 #[J V b.pc,J V b.pl,Z b.A b.code.length b.c,J U b.ct]:=AI _ _ _;obtain⟨hrd,hnn⟩:=mQ (hcode.fr f4 (λ_ _ e=>e));have Hc:=T (clone_any (w3.alloc (.cells #[J V b.pc,J V b.pl,Z b.A b.code.length b.c,J U b.ct] 149)) b.A b.code.length b.c _ _ hrd (AD _) GW O hnn);have F4:=T f4;have hgB:w.heap.size+1≠w3.heap.size:=by have:=b3.lt;omega
 have hszw:=F3.out.size;have hgB2:w.heap.size+1<w3.heap.size:=b3.lt;clear f3 Hp b2 HC h3 d0 d2 d3 hcode hrd hnn f4 b3 hmem hs1;obtain⟨clen,hcl⟩:=A8 b.code.length;rw[hcl] at Hc r2 b7 F4 hcok;have HCL:=T hcl;clear hcl;obtain⟨pc,hpc⟩:=A8 b.pc;obtain⟨pl,hpl⟩:=A8 b.pl;obtain⟨bt,hbt⟩:=A8 b.ct;rw[hpc,hpl,hbt] at b7 F4 Hc;rw[hpc] at r0;rw[hpl] at r1;rw[hbt] at r3;have HPC:=T hpc;have HPL:=T hpl;have HBT:=T hbt;clear hpc hpl hbt;generalize b.A=bA at*;generalize b.c=bc at*;go_wp2_with fail;refine Az Hc ?_;rintro e w5 ⟨A',c',rfl,hown,f5⟩;have b75:=b7.fr f5 id;have b35:=(HB3.out.fr F4.out id).fr f5 id;have e0:=b75.cell 0;have e1:=b75.cell 1;have e2:=b75.cell 2;have e3:=b75.cell 3;have y2:=b75.frozen 2;have u0:=b35.cell 0;have u1:=b35.cell 1;have u2:=b35.cell 2;have u3:=b35.cell 3;have z0:=b35.frozen 0;have z1:=b35.frozen 1;have z2:=b35.frozen 2;have z3:=b35.frozen 3;have HO:=T hown;have F5:=T ((F3.out.tr F4.out).tr f5);have hs5:=F4.out.size;have HB35:=T b35;have hgl7:=b7.lt;clear b75 b35 f5 hown Hc b7 r0 r1 r2 r3 d1;generalize hg7:w3.heap.size=g7 at*;go_wp2_with fail;have fz:Fr (λq=>q=g7∨q=w.heap.size+1) w5 (((((w5.setCell ⟨g7,2,G⟩ (Z A' clen c')).setCell ⟨↑w+1,0,G⟩ (J .u32 pc)).setCell ⟨↑w+1,1,G⟩ (J .u32 pl)).setCell ⟨↑w+1,2,G⟩ (Z A' clen c')).setCell ⟨↑w+1,3,G⟩ (J .i64 bt)):=
  ((((((Ao _ w5).setCell (p:=⟨g7,2,G⟩) (Af (Af rfl)) _).setCell (p:=⟨↑w+1,0,G⟩) (Af (Ah rfl)) _).setCell (p:=⟨↑w+1,1,G⟩) (Af (Ah rfl)) _).setCell (p:=⟨↑w+1,2,G⟩) (Af (Ah rfl)) _).setCell (p:=⟨↑w+1,3,G⟩) (Af (Ah rfl)) _)
 have b9:Blk (((((w5.setCell ⟨g7,2,G⟩ (Z A' clen c')).setCell ⟨↑w+1,0,G⟩ (J .u32 pc)).setCell ⟨↑w+1,1,G⟩ (J .u32 pl)).setCell ⟨↑w+1,2,G⟩ (Z A' clen c')).setCell ⟨↑w+1,3,G⟩ (J .i64 bt)) (↑w+1) 149 #[J V pc,J V pl,Z A' clen c',J U bt]:=
  ((((HB35.out.far (p:=⟨g7,2,G⟩) (by show ↑w+1≠g7;exact hgB) (Z A' clen c')).set_ 0 (J .u32 pc)).set_ 1 (J .u32 pl)).set_ 2 (Z A' clen c')).set_ 3 (J .i64 bt)
 refine Bt (results_ct rfl _ _ (w.heap.size+1) 149 _ _ (Ap Ag) rfl rfl b9 Tryz.underlying149 rfl szB) rfl ⟨A',c', ?_, ?_,F5.out.trans fz (λq hq e=>JU)⟩;·rw[HPC.out,HPL.out,HBT.out,HCL.out]
 ·rw[HCL.out];refine own_low (AR HO.out fz (λq hq e=>?_)) O;have h1:=Cn HO.out q hq;have h2:q=g7∨q=↑w+1:=e;omega
theorem len_any(w:Aa)(g:Nat)(s:Cs)(h:Cch w g s):At Tryz.prog 119 #[↑g] w λe w'=>e=Ax (J U s.bl.length)∧w=w':=by
 obtain⟨c0,c1,c2,c3⟩:=h.cells;exact CP
def Ig(l:List Ky):List As:=l.flatMap λk=>[J V k.1,J V k.2]
theorem info2:(Tryz.prog.info? 122).map (λi=>(i.zero,i.size,i.bytes))=I (I (A9 #[J V 0,J V 0]),2,8):=AL
end Ca
namespace Eg
open By
def u8f(n:Int):UInt8:=UInt8.ofNat n.toNat
theorem Xl: ∀(ns:List Int) (b:ByteArray),(ns.foldl (λr n=>r.push (UInt8.ofNat n.toNat)) b).data.toList=b.data.toList++ns.map u8f
 |[],b=>AC
 |n::ns,b=>by
  rw[List.foldl_cons,Xl ns];simp[ByteArray.push,u8f]
theorem str_inj{xs ys:List Int}(hx: ∀z∈xs,0≤z∧z<256)(hy: ∀z∈ys,0≤z∧z<256)(h:str xs=str ys):xs=ys:=by
 have e:=congrArg (λb:ByteArray=>b.data.toList) h;unfold str at e;simp only[Xl] at e;have e:xs.map u8f=ys.map u8f:=KD;have key: ∀(xs ys:List Int),(∀z∈xs,0≤z∧z<256)→(∀z∈ys,0≤z∧z<256)→xs.map u8f=ys.map u8f→xs=ys:=by
  intro xs
  induction xs with
  |nil=>intro ys _ _ e;cases ys with|nil=>rfl|cons a l=>simp at e
  |cons a xs ih=>
   intro ys h1 h2 e
   cases ys with
   |nil=>simp at e
   |cons b ys=>
    simp only[GU,List.cons.injEq] at e;have ha:=h1 a AC;have hb:=h2 b AC;have hab:a=b:=by
     have:=congrArg UInt8.toNat e.1;unfold u8f at this;simp at this;omega
    rw[hab,ih ys (λz hz=>h1 z (by simp[hz])) (λz hz=>h2 z (by simp[hz])) e.2]
 exact key xs ys hx hy e
theorem QI{w:Aa}{B n:Nat}{A:Aw}{zs:List Int}(h:IntsAt AB w B A n zs): ∀z∈zs,0≤z∧z<256:=λz hz=>by
 obtain⟨i,hi,rfl⟩:=GC hz;have:=h.2.1 i (by rw[←h.1];exact hi);rw[AS,BK hi,Option.getD_some] at this;have:=Jb this;omega
theorem str_dec{w:Aa}{B n m:Nat}{A A2:Aw}{xs ys:List Int}(hx:IntsAt AB w B A n xs)(hy:IntsAt AB w B A2 m ys):((str xs).toList==(str ys).toList)=decide (xs=ys):=by
 by_cases e:xs=ys;·simp[e]
 ·have: ¬(str xs).toList=(str ys).toList:=λq=>e (str_inj (QI hx) (QI hy) (by
   rw[ByteArray.toList_eq,ByteArray.toList_eq] at q;exact ByteArray.ext (Array.toList_inj.1 q)))
  rw[decide_eq_false e];simpa using this
theorem mR(w:Aa)(B n m c d:Nat)(A A2:Aw)(xs ys:List Int)(hx:IntsAt AB w B A n xs)(hy:IntsAt AB w B A2 m ys):At Tryz.prog 137 #[Z A n c,Z A2 m d] w λe w'=>e=Ax (Ap (decide (xs=ys)))∧w=w':=by
 have h1:=Fs (c:=c) hx;have h2:=Fs (c:=d) hy;have h3:=T (str_dec hx hy);clear hx hy;go_in
 go_wp2
 go_ret;exact⟨by rw[←h3.out];rfl,rfl⟩
theorem mS(w:Aa)(B n m c d:Nat)(A A2:Aw)(xs ys:List Int)(hx:IntsAt AB w B A n xs)(hy:IntsAt AB w B A2 m ys)(hn:n≤c)(hm:m≤BQ)(hnm:n≤BQ):At Tryz.prog 114 #[Z A n c,Z A2 m d] w λe w'=>e=Ax (Ap (decide (ys<+:xs)))∧w=w':=by
 by_cases hlt:m≤n
 ·have he:=T (mR w B m m c d A A2 (xs.take m) ys (hx.take hlt) hy);have hd:Hid (decide (xs.take m=ys)=decide (ys<+:xs)):=T (by
   congr 1;rw[List.prefix_iff_eq_take,hy.1];exact propext ⟨λe=>e.symm,λe=>e.symm⟩)
  have g1:decide ((n:Int)≥m)=Ag:=AA;have hmc:m≤c:=O;clear hx hy;go_in;go_wp2_with ((with_reducible refine Az he ?_);rintro e w' ⟨rfl,rfl⟩);go_ret;exact⟨by rw[←hd.out];rfl,rfl⟩
 ·have hd:Hid (decide (ys<+:xs)=Ac):=T (by
   rw[decide_eq_false_iff_not];intro h;have:=h.length_le;rw[hx.1,hy.1] at this;omega)
  have g1:decide ((n:Int)≥m)=Ac:=AA;clear hx hy;go_in
  go_wp2
  go_ret;exact⟨by rw[hd.out];rfl,rfl⟩
theorem mT(w:Aa)(ad:Addr)(n c B:Nat)(news:List As)(hr:Reads w B 1 (I ad) n news)(hB:B≤↑w)(h1: ∀u∈news,u.oneCell'=Ag)(hn:n≤1099511627776):At Tryz.prog 139 #[Z (I ad) n c] w (Ca.Gives w n news):=by
 obtain⟨i0,hi0,hz0,hz1,hz2⟩:=Cj Ca.info8;have hq:=λw=>Lib.run_eql_slice_nil (P:=Tryz.prog) w 23 5 (I ad) n c 0 0 CI;have ho:=Xe;have hr1:=hr.alloc hB (.cells #[] 5);clear hr;go_in;go_wp2_with
  (at_builtin
   refine CU _ rfl (.tmp 5) (.tmp 6) _ rfl w.heap.size 5 i0 _ 1 1 CI hi0 hz0 hz1 hz2 rfl O (Z (I ⟨w.heap.size,0,G⟩) 0 0) 0 [] rfl ho B (I ad) n c news rfl hr1 h1 Cc O AC ?_
   intro v1 w1 hown1 hg1 hat1)
 go_ret;rw[BW,DH] at hown1;obtain⟨A1,c1,rfl⟩:=Ca.slice_form hown1;exact Xf
end Eg
namespace Ca
open Mz Go.Maps
def Cs.new(room:Int)(gm:Nat):Cs:=⟨room,[],G,0,gm,[],0⟩
theorem Cs.new_ok(room:Int)(gm:Nat)(h0:1≤room)(h1:room≤1024):(Cs.new room gm).Ok:=
 ⟨⟨h0,h1⟩,by show((0:Nat):Int)≤room;omega,IU,IU,IU,IU,IU,IU,IU⟩
theorem new_yes(w:Aa)(n:Int)(h0:1≤n)(h1:n≤1024):At Tryz.prog 65 #[J U n] w λe w'=> ∃g gm,e=Ax (AF #[Bm (I ⟨g,0,G⟩),J U 0])∧Cch w' g (Cs.new n gm)∧w.heap.size≤g∧w.heap.size≤gm∧g<w'.heap.size∧gm<w'.heap.size∧Fr Aj w w':=by
 have hmm:= @run_makeMap Tryz.prog;have d0:decide (n<1)=Ac:=AA;have d1:decide (1024<n)=Ac:=AA;go_in
 go_wp2
 go_ret2;have hm:=MapL.made (P:=Tryz.prog) (k:=122) (mk:=kyv) w;have f1:=(Ao Aj w).alloc (.map #[] 0);have hsz:(w.alloc (.map #[] 0)).heap.size=w.heap.size+1:=AC;have bb:=AI (w.alloc (.map #[] 0)) 152 #[J U n,Z G 0 0,.map (I ↑w),J U 0];rw[hsz] at bb;refine⟨↑w+1,w.heap.size,AC,⟨bb,⟨[],0,hm.fr ((Ao Aj _).alloc _) id⟩,Af ⟨rfl,rfl,rfl⟩,IU,IU,List.Pairwise.nil,Cs.new_ok _ _ h0 h1⟩,O,O,bb.lt,by have:=bb.lt;omega,f1.alloc _⟩
def Cs.flush(s:Cs)(gm:Nat):Cs:=⟨s.room,[],G,0,gm,[],s.fl+1⟩
theorem oI(w:Aa)(g:Nat)(s:Cs)(h:Cch w g s)(hf:s.fl≤1000000):At Tryz.prog 152 #[↑g] w λe w'=> ∃gm,e=Ax (J U s.bl.length)∧Cch w' g (s.flush gm)∧w.heap.size≤gm∧gm<w'.heap.size∧Fr (· =g) w w':=by
 have hmm:= @run_makeMap Tryz.prog;obtain⟨c0,c1,c2,c3⟩:=h.cells;have hb:=h.b;have z1:=hb.frozen 1;have z2:=hb.frozen 2;have z3:=hb.frozen 3;have hl:=hb.lt;have hfl:=h.ok.fl;have hroom:=h.ok.room;have HB:=T hb;clear h hb;go_in
 go_wp2
 go_ret;have b3:=((HB.out.set_ 1 (Z G 0 0)).set_ 2 (.map (I ↑w))).set_ 3 (J U (s.fl+1));have f3:Fr (· =g) w _:=((Br w g 1 (Z G 0 0)).setCell (p:=⟨g,2,G⟩) (.inl rfl) (.map (I ↑w))).setCell (p:=⟨g,3,G⟩) (.inl rfl) (J U (s.fl+1));have hs3:(((w.setCell ⟨g,1,G⟩ (Z G 0 0)).setCell ⟨g,2,G⟩ (.map (I ↑w))).setCell ⟨g,3,G⟩ (J U (s.fl+1))).heap.size=w.heap.size:=JM;have hm:=MapL.made (P:=Tryz.prog) (k:=122) (mk:=kyv) (((w.setCell ⟨g,1,G⟩ (Z G 0 0)).setCell ⟨g,2,G⟩ (.map (I ↑w))).setCell ⟨g,3,G⟩ (J U (s.fl+1)));rw[hs3] at hm;refine⟨↑w,rfl,⟨b3.alloc _,⟨[],0,hm⟩,Af ⟨rfl,rfl,rfl⟩,Jw,Jw,List.Pairwise.nil,⟨hroom,by show((0:Nat):Int)≤s.room;omega,Jw,Jw,Jw,Jw,by show 0≤s.fl+1;omega,Jw,Jw⟩⟩,AD _,by simp[hs3],f3.alloc _⟩
def lnk(E:List (Ky×Lr))(k:Ky):List Ky:=((E.find? (λp=>decide (p.1=k))).map (·.2.ks)).getD []
def Bp(E:List (Ky×Lr))(k:Ky):Lr:=((E.find? (λp=>decide (p.1=k))).map (·.2)).getD ⟨[],G,0⟩
theorem MK(E:List (Ky×Lr))(k:Ky):lnk E k=(Bp E k).ks:=by
 unfold lnk Bp
 cases E.find? (λp=>decide (p.1=k))<;>rfl
theorem lk_ent(E:List (Ky×Lr))(k:Ky):(lk (E.map ent) k).getD (Z G 0 0)=Z (Bp E k).A (Bp E k).ks.length (Bp E k).c:=by
 unfold lk Bp
 induction E with
 |nil=>rfl
 |cons p E ih=>
  simp only[GU,List.find?_cons];by_cases h:p.1=k;·have:(ent p).1=k:=h;simp[h,this,ent]
  ·have: ¬(ent p).1=k:=h;simp only[h,this,decide_false];exact ih
theorem ML{w:Aa}{E:List (Ky×Lr)}(h: ∀p∈E,LrOk w p.2)(k:Ky):LrOk w (Bp E k):=by
 unfold Bp
 cases hf:E.find? (λp=>decide (p.1=k)) with
 |none=>exact Af ⟨rfl,rfl,rfl⟩
 |some p=>exact h p (List.mem_of_find?_eq_some hf)
theorem aD{α:Type}[DecidableEq α]: ∀(l m:List α),l.Nodup→(∀x∈l,x∈m)→l.length≤m.length
 |[],m,_,_=>Bj _
 |x::l,m,hn,hs=>by
  have hn':=List.nodup_cons.1 hn;have hx:=hs x AC;have ih:=aD l (m.erase x) hn'.2 (λy hy=>(List.mem_erase_of_ne (λe=>hn'.1 (by rw[←e];exact hy))).2 (hs y (by simp[hy])));rw[List.length_erase_of_mem hx] at ih;have:=List.length_pos_of_mem hx;simp only[D8];omega
theorem Cs.Ok.ksl{s:Cs}(h:s.Ok): ∀p∈s.E,p.2.ks.length≤s.bl.length:=λp hp=>by
 have:=aD p.2.ks (s.bl.map Bk.k) (h.tos p hp).1 (h.tos p hp).2;simpa using this
theorem Cs.Ok.lrl{s:Cs}(h:s.Ok)(k:Ky):(Bp s.E k).ks.length≤s.bl.length:=by
 unfold Bp
 cases hf:s.E.find? (λp=>decide (p.1=k)) with
 |none=>exact Bj _
 |some p=>exact h.ksl p (List.mem_of_find?_eq_some hf)
theorem zK(w:Aa):(zeroValue 182).run Tryz.prog w=.ok (Z G 0 0) w:=AL
end Ca
namespace Ca
open Mz Go.Maps
def CZ(k:Ky)(l:Lr):Lr:=⟨l.ks.filter (λx=> !decide (x=k)),l.A,l.c⟩
theorem kept_map(l:List Ky)(q:Ky→Bool):(kept (λt=> !q (Dy l t)) l.length).map (Dy l)=l.filter q:=by
 have e:(Cl l.length).map (Dy l)=l:=by
  apply List.ext_getElem;·simp
  ·intro i h1 h2;simp[QG h2]
 unfold kept;have:(λt=> !!q (Dy l t))=q∘Dy l:=by funext t;simp
 rw[this,←List.filter_map,e]
theorem unlink1(w:Aa)(gk:Nat)(k:Ky)(h0:w.cell? ⟨gk,0,G⟩=I (J V k.1))(h1:w.cell? ⟨gk,1,G⟩=I (J V k.2))(hl:gk<↑w)(b:Ky):At Tryz.prog 89 #[A9 #[J V b.1,J V b.2],↑gk] w λe w'=>e=Ax (Ap (decide (b=k)))∧Fr Aj w w':=by
 have hd:decide (b=k)=(b.1==k.1&&b.2==k.2):=by
  obtain⟨a,c⟩:=k;obtain⟨a',c'⟩:=b;by_cases h1:a'=a<;>by_cases h2:c'=c<;>simp[h1,h2]
 exact Xd
theorem oJ(w:Aa)(l:Lr)(hl:LrOk w l)(hn:l.ks.length≤1000000)(gb:Nat)(k:Ky)(hb:Blk w gb 122 #[J V k.1,J V k.2])(hne:ab l.A≠I gb):At Tryz.prog 88 #[Z l.A l.ks.length l.c,.func (.func 89) #[] #[↑gb]] w λe w'=>e=Ax (Z l.A (CZ k l).ks.length l.c)∧LrOk w' (CZ k l)∧Fr (λq=>ab l.A=I q) w w':=by
 rcases hl with⟨h1,h2,h3⟩|⟨gk,e,h1,h2⟩
 ·have hs:CZ k l=l:=by
   obtain⟨ks,A,c⟩:=l;simp only at h1;subst h1;rfl
  rw[hs,h1,h2,h3];have Hi:=T (WM w G 0 0 O (λ_=>(0,0)) 89 #[↑gb] (λargs W=>Fu) (λq W=>w=W) (λ_=>Ac) rfl (λq W _ q' hq=>absurd hq O) (λq W hq=>absurd hq O));go_in;go_wp2_with fail;refine Az Hi ?_;rintro e w' (⟨m,hm,_⟩|⟨rfl,_,rfl⟩);·omega
  ·go_wp2
   go_ret;exact⟨rfl,Af ⟨h1,h2,h3⟩,Ao _ _⟩
 ·have hgb:gk≠gb:=λe2=>hne (by rw[e,e2];rfl);have Hd:=delete_k w gk l.ks.length l.c (Dy l.ks) h1 O h2 89 #[↑gb] (λargs W=>Fu) Aj ⟨λe=>e,λ_ e=>e.elim⟩ (λq W=>Fr (· =gk) w W) (λq=>decide (Dy l.ks q=k)) (Ao _ _) (λq W W' h f=>h.tr f)
   (λq W hq h=>by
    have b2:=hb.fr h (λe=>hgb e.symm);exact(unlink1 W gb k (b2.cell 0) (b2.cell 1) b2.lt (Dy l.ks q)).mono λe w' ⟨g1,g2⟩=>⟨g1,h.tr (g2.mono (λ_ _ e=>e.elim)),g2⟩)
  rw[e];refine Hd.mono ?_;rintro e2 w' ⟨g1,g2,g3⟩;have hk:=kept_map l.ks (λx=> !decide (x=k));simp only[Bool.not_not] at hk;have hlen:(kept (λq=>decide (Dy l.ks q=k)) l.ks.length).length=(CZ k l).ks.length:=by
   show _=(l.ks.filter _).length;rw[←hk,Fo]
  refine⟨by rw[g1,hlen],Ah ⟨gk,e, ?_,h2⟩,g2.mono (λq _ e=>Jm)⟩;rw[hlen] at g3;obtain⟨F,q1,q2,q3⟩:=g3;refine⟨F,q1,q2,λq hq c hc=>?_⟩;rw[q3 q hq c hc];congr 1;show Dy l.ks _=Dy (l.ks.filter _) q;rw[←hk];unfold Dy;rw[AS (l:=List.map _ _),DP];have hq2:q<(kept (λq=>decide (Dy l.ks q=k)) l.ks.length).length:=by rw[hlen];exact hq
  unfold Dy at hq2;rw[AS (l:=kept _ _),BK hq2];rfl
end Ca
end Go.Proofs.YtdfegdoeebaagaaGreatDoor
