import Derived.Test.YtdfegdoeebaagaaGreatDoorX6
open Go.Value renaming slice→Z,int→J,bool→Ap,tuple→AF,ownBlock→Cb,agg→A9,pointer→Bm,oneCell'→Ir
open Option renaming some→I,none→G
open Go.IntKind renaming i64→U,u32→V
open Go renaming World→Aa,Value→As,Calls→At,TypeId→AN,Ending→AY,info_parts→Cj,maxLen→BQ,wpList→Cy,Program→CF,undef→BY,run_underlying→Fe,Oper→BM,Operand→De
open Bool renaming false→Ac,true→Ag
open List renaming getD_eq_getElem?_getD→AS,length_append→Cq,mem_map→BS,getElem?_take_of_lt→Dq,getElem_mem→CE,range→Cl,getElem?_append_right→Ex,mem_append→Da,length_cons→D8,getElem?_eq_none→Ew,getElem?_append_left→Ff,mem_filter→DF,mem_cons→Dv,length_map→Fo,getElem_of_mem→GC,map_append→FH,mem_singleton→Ii,length_take→Iv,map_map→GZ
open Go.Ending renaming returned→Ax
open Nat renaming lt_of_lt_of_le→Bg,zero_le→Bj,zero_add→BW,lt_or_ge→DG
open Or renaming inl→Af,inr→Ah
open Go.RowKit renaming intOf→AM
open Array renaming getElem?_toList→DV,getElem?_eq_some_iff→IK
open Go.Builtin renaming delete_→Jq
open Go.Region renaming wanted→Dm
open Go.Result renaming andThen→ES
open Go.Instr renaming mapUpdate→Ix
open Go.MapKept renaming run_getObj_map→Iw,run_setObj_map→Jp
open Go.Oper renaming wp→EP
open Go.Sem renaming run_bind→GT
set_option linter.all false
set_option maxHeartbeats 40000000
set_option maxRecDepth 1000000
open Go Go.RowKit
namespace Go.Proofs.YtdfegdoeebaagaaGreatDoor
namespace Ca
open Mz Go.Maps
def dE:Ky×Lr:=((0,0),⟨[],G,0⟩)
def away(E:List (Ky×Lr))(k:Ky):List (Ky×Lr):=E.filter (λp=> !decide (p.1=k))
def Cs.unlink(s:Cs)(k:Ky):Cs:={s with E:=(away s.E k).map (λp=>(p.1,CZ k p.2))}
theorem del_ent(E:List (Ky×Lr))(k:Ky):del (E.map ent) k=(away E k).map ent:=by
 unfold del away;rw[List.filter_map];rfl
def one(E:List (Ky×Lr))(bs:List Nat)(k:Ky)(seen:Array Nat)(j:Nat):Ky×Lr:=if bs.getD j 0∈seen then((E.getD j dE).1,CZ k (E.getD j dE).2) else E.getD j dE
def cur(E:List (Ky×Lr))(bs:List Nat)(k:Ky)(seen:Array Nat):List (Ky×Lr):=(Cl E.length).map (one E bs k seen)
theorem one_key(E:List (Ky×Lr))(bs:List Nat)(k:Ky)(seen:Array Nat)(j:Nat):(one E bs k seen j).1=(E.getD j dE).1:=by
 unfold one;split<;>rfl
theorem cur_len(E:List (Ky×Lr))(bs:List Nat)(k:Ky)(seen:Array Nat):(cur E bs k seen).length=E.length:=by simp[cur]
theorem cur_0(E:List (Ky×Lr))(bs:List Nat)(k:Ky):cur E bs k #[]=E:=by
 apply List.ext_getElem;·simp[cur]
 ·intro i h1 h2;simp[cur,one,h2]
variable{bs:List Nat}{k:Ky}{seen:Array Nat}
theorem cur_all{E:List (Ky×Lr)}(hl:bs.length=E.length)(h: ∀b∈bs,b∈seen):cur E bs k seen=E.map (λp=>(p.1,CZ k p.2)):=by
 apply List.ext_getElem;·simp[cur]
 ·intro i h1 h2;have hi:i<E.length:=Mv;have hb:i<bs.length:=O;have:bs.getD i 0∈seen:=h _ (by simp[AS,hb]);simp only[cur,List.getElem_map,List.getElem_range,one,An this];exact RO
variable{i:Nat}
theorem cur_at{E:List (Ky×Lr)}(hi:i<E.length)(hb:i<bs.length)(hs:bs[i]∉seen):(cur E bs k seen)[i]'(by rw[cur_len];exact hi)=E[i]:=by
 have:bs.getD i 0∉seen:=by simpa[AS,hb] using hs
 simp only[cur,List.getElem_map,List.getElem_range,one,Ae this];exact RO
theorem cur_rep{E:List (Ky×Lr)}(hi:i<E.length)(hl:bs.length=E.length)(hn:bs.Nodup)(hk:(E.map (·.1)).Nodup)(v:As)(hv:v=Z (CZ k E[i].2).A (CZ k E[i].2).ks.length (CZ k E[i].2).c):rep ((cur E bs k seen).map ent) E[i].1 v=(cur E bs k (seen.push (bs[i]'(by omega)))).map ent:=by
 apply List.ext_getElem;·simp[rep,cur]
 ·intro j h1 h2;have hj:j<E.length:=by simpa[cur] using h2
  have hjb:j<bs.length:=O;simp only[rep,cur,List.getElem_map,List.getElem_range];have hkey:(ent (one E bs k seen j)).1=E[j].1:=by
   show(one E bs k seen j).1=_;rw[one_key];simp[AS,hj]
  by_cases e:j=i
  ·subst e;rw[An hkey];have hin:=aE;unfold one at hkey⊢;rw[An hin];refine Prod.ext ?_ ?_;·rw[hkey];simp[ent,AS,hj]
   ·rw[hv];simp[ent,AS,hj]
  ·have hne:E[j].1≠E[i].1:=λe2=>by
    have:=(List.getElem_inj (xs:=E.map (·.1)) (i:=j) (j:=i) (h₀:=by simpa using hj) (h₁:=Md) hk).1 Ot;exact e this
   rw[Ae (by rw[hkey];exact hne)];exact aF
def MM(bs:List Nat)(seen:Array Nat):Nat:=(bs.filter (λb=> !decide (b∈seen))).length
theorem aG{b:Nat}(hb:b∈bs)(hs:b∉seen):MM bs (seen.push b)<MM bs seen:=by
 unfold MM;have hsub: ∀l:List Nat,(l.filter (λx=> !decide (x∈seen.push b))).length≤(l.filter (λx=> !decide (x∈seen))).length:=by
  intro l
  induction l with
  |nil=>simp
  |cons x l ih=>
   simp only[List.filter_cons];by_cases h1:x∈seen
   ·have h2:x∈seen.push b:=by simp[h1]
    simp[h1,h2];simpa using ih
   ·by_cases h2:x∈seen.push b;·simp[h1,h2];have:=ih;simp at this;omega
    ·simp[h1,h2];simpa using ih
 induction bs with
 |nil=>simp at hb
 |cons x l ih=>
  simp only[List.filter_cons];by_cases e:x=b;·subst e;have h2:x∈seen.push x:=AC;have:=hsub l;simp[hs];simp at this;omega
  ·have hb':b∈l:=by
    rcases Dv.1 hb with h|h;·exact absurd h.symm e
    ·exact h
   have:=ih hb';have hiff:x∈seen.push b↔x∈seen:=by
    rw[Array.mem_push];exact⟨λh=>h.elim id (λh=>absurd h e),Af⟩
   by_cases h1:x∈seen;·simp[h1,hiff.2 h1];simpa using this
   ·have h2:x∉seen.push b:=λh=>h1 (hiff.1 h);simp[h1,h2];simpa using this
def GL(bs:List Nat)(gi:Nat)(w:Aa):Nat:=
 match w.heap[gi]? with
 |some (.mapIter _ _ seen _)=>MM bs seen
 |_=>0
variable{w:Aa}{c:Nat}
theorem O8{gi:Nat}{m:Option Nat}{a:Nat}(h:w.heap[gi]?=I (.mapIter m a seen c)):GL bs gi w=MM bs seen:=by
 unfold GL;rw[h]
theorem oK{E:List (Ky×Lr)}(k:Ky)(h:(E.map (·.1)).Nodup):((away E k).map (·.1)).Nodup:=h.sublist ((List.filter_sublist).map _)
theorem one_A(E:List (Ky×Lr))(bs:List Nat)(k:Ky)(seen:Array Nat)(j:Nat):(one E bs k seen j).2.A=(E.getD j dE).2.A:=by
 unfold one;split<;>rfl
theorem aH{E:List (Ky×Lr)}{p:Ky×Lr}(h:p∈cur E bs k seen): ∃j,∃hj:j<E.length,p=one E bs k seen j∧p.2.A=E[j].2.A∧(p.2.ks=E[j].2.ks∨p.2.ks=(CZ k E[j].2).ks):=by
 obtain⟨j,hj,rfl⟩:=BS.1 h;have hj:=List.mem_range.1 hj;have e:=aJ;refine⟨j,hj,rfl,by rw[one_A,e], ?_⟩;unfold one;split;·right;rw[e]
 ·left;rw[e]
theorem one_push{E:List (Ky×Lr)}(hi:i<E.length)(hl:bs.length=E.length)(hn:bs.Nodup)(j:Nat)(hj:j<E.length):one E bs k (seen.push (bs[i]'(by omega))) j=if j=i then(E[i].1,CZ k E[i].2) else one E bs k seen j:=by
 by_cases e:j=i;·subst e;have hjb:j<bs.length:=O;have hin:=aE;rw[An rfl];unfold one;rw[An hin];simp[AS,hj]
 ·rw[Ae e];have hjb:j<bs.length:=O;exact aF
variable{w':Aa}
theorem oL{E:List (Ky×Lr)}(hi:i<E.length)(hl:bs.length=E.length)(hn:bs.Nodup)(sep:E.Pairwise (λp q=> ∀k,ab p.2.A=I k→ab q.2.A≠I k))(h: ∀p∈cur E bs k seen,LrOk w p.2)(f:Fr (λq=>ab E[i].2.A=I q) w w')(hs:LrOk w' (CZ k E[i].2)): ∀p∈cur E bs k (seen.push (bs[i]'(by omega))),LrOk w' p.2:=by
 intro p hp;obtain⟨j,hj,rfl⟩:=BS.1 hp;have hj:=List.mem_range.1 hj;rw[one_push hi hl hn j hj];by_cases e:j=i;·rw[An e];exact hs
 ·rw[Ae e];have hm:one E bs k seen j∈cur E bs k seen:=BS.2 ⟨j,List.mem_range.2 hj,rfl⟩;refine(h _ hm).fr f (λq hq hq2=>?_);rw[one_A] at hq;have hd:=aJ;rw[hd] at hq;rw[List.pairwise_iff_getElem] at sep;rcases Nat.lt_or_gt_of_ne e with h1|h1;·exact sep j i hj hi h1 q hq hq2
  ·exact sep i j hi hj h1 q hq2 hq
variable{g:Nat}
theorem LrOk.notMap{l:Lr}(h:LrOk w l){es:Array MapEntry}(hb:w.heap[g]?=I (.map es c)):ab l.A≠I g:=λe=>by
 rcases h with⟨_,h2,_⟩|⟨gk,e2,⟨F,h1,_⟩,_⟩;·rw[h2] at e;cases e
 ·rw[e2] at e;have:gk=g:=MN;subst this;obtain⟨cs,hc,_⟩:=h1;unfold Blk at hc;rw[hb] at hc;simp at hc
variable{q:Nat}
theorem LrOk.low{l:Lr}(h:LrOk w l)(e:ab l.A=I q):q<↑w:=by
 rcases h with⟨_,h2,_⟩|⟨gk,e2,⟨F,h1,_⟩,_⟩;·rw[h2] at e;cases e
 ·rw[e2] at e;have:gk=q:=MN;subst this;exact h1.lt
theorem aK{P:CF}{ops:Array BM}{o:BM}{a:Act}{K:Act→Aa→Prop}{Q:Exit→Act→Aa→Prop}{E:Prop}(hg:o.guard=G)(m k:De)(t kt:AN)(hop:o.op=Op.call {callee:=Callee.builtin Builtin.delete,args:=#[m,k],argTypes:=#[t,kt]})(hrun: ∀ty,(Jq #[t,kt] ty #[a.eval m,a.eval k]).run P w=.ok (AF #[]) w')(hK:K (a.put o.dst (AF #[])) w'):if Dm o (yielded ops a.tmps)=Ag then EP P o a w K Q else E:=by
 have hw:=NR;rw[An hw];unfold EP;simp[execOp,hop,resolve,invoke,builtin,hrun,ES];exact hK
def UR(w:Aa)(g gi gm clock:Nat)(E:List (Ky×Lr))(bs:List Nat)(k:Ky)(S:AE)(seen:Array Nat)(wr:Aa):Prop:=
 MapL Tryz.prog 122 kyv wr gm ((cur E bs k seen).map ent) bs clock∧wr.heap[gi]?=I (.mapIter (I gm) clock seen clock)∧(∀p∈cur E bs k seen,LrOk wr p.2)∧Blk wr ↑w 122 #[J V k.1,J V k.2]∧wr.cell? ⟨g,2,G⟩=I (.map (I gm))∧Fr S w wr
theorem ur_step{wr w4:Aa}{gi gm clock:Nat}{E:List (Ky×Lr)}{S:AE}(h:UR w g gi gm clock E bs k S seen wr)(hi:i<E.length)(hl:bs.length=E.length)(hn:bs.Nodup)(hk:(E.map (·.1)).Nodup)(sep:E.Pairwise (λp q=> ∀k,ab p.2.A=I k→ab q.2.A≠I k))
 (hns:(bs[i]' O)∉seen) (f4:Fr (· =gi) wr w4) (hi4:w4.heap[gi]?=I (.mapIter (I gm) clock (seen.push (bs[i]' O)) clock)) (hgi:↑w<gi) (hg:g<↑w) (hgm:g≠gm) (hlow: ∀p∈E,∀q,ab p.2.A=I q→q<w.heap.size) (hgr: ∀p∈E,ab p.2.A≠I g) (hngm: ∀p∈E,ab p.2.A≠I gm) (hgmb:gm<↑w)
 (hS: ∀q,(q=gm∨ ∃p∈E,ab p.2.A=I q)→S q) (hkey:E[i].1.Ok) {p:Ky×Lr} (hp:E[i]=p):
 LrOk (w4.alloc (.cells #[J V p.1.1,J V p.1.2] 122)).drew p.2∧Blk (w4.alloc (.cells #[J V p.1.1,J V p.1.2] 122)).drew ↑w 122 #[J V k.1,J V k.2]∧
 ∀w6,LrOk w6 (CZ k p.2)→Fr (λq=>ab p.2.A=I q) (w4.alloc (.cells #[J V p.1.1,J V p.1.2] 122)).drew w6→
  ∃w7,(Ix 150 (.map (I gm)) (A9 #[J V p.1.1,J V p.1.2]) (Z p.2.A (CZ k p.2).ks.length p.2.c)).run Tryz.prog w6=.ok () w7∧UR w g gi gm clock E bs k S (seen.push (bs[i]' O)) w7∧GL bs gi w7<GL bs gi wr∧
   w6.cell? ⟨g,2,G⟩=I (.map (I gm))∧w6.cell? ⟨↑w4,0,G⟩=I (J V p.1.1)∧w6.cell? ⟨↑w4,1,G⟩=I (J V p.1.2)∧w7.cell? ⟨g,2,G⟩=I (.map (I gm))∧w7.cell? ⟨↑w4,0,G⟩=I (J V p.1.1)∧w7.cell? ⟨↑w4,1,G⟩=I (J V p.1.2):=by
 obtain⟨hm,hit,hr,hb,hc,hf⟩:=h
 subst hp
 have hE:E[i]∈E:=CE hi
 have hbi:i<bs.length:=O
 have hcm:E[i]∈cur E bs k seen:=by
  have:=cur_at (k:=k) hi hbi hns;rw[←this];exact CE _
 have hA: ∀p∈cur E bs k seen,∃q∈E,p.2.A=q.2.A:=λp hp=>by
  obtain⟨j,hj,_,h2,_⟩:=aH hp;exact⟨_,CE hj,h2⟩
 have hsw:=hf.size
 have fa:=((Ao Aj w4).alloc (.cells #[J V E[i].1.1,J V E[i].1.2] 122)).drew
 have hr5: ∀p∈cur E bs k seen,LrOk (w4.alloc (.cells #[J V E[i].1.1,J V E[i].1.2] 122)).drew p.2:=λp hp=>by
  refine((hr p hp).fr f4 (λq hq e=>?_)).fr fa (λ_ _ e=>e);obtain⟨r,hr1,hr2⟩:=hA p hp;rw[hr2] at hq;have:=hlow r hr1 q hq;omega
 have hb5:=(hb.fr f4 (λe=>O)).fr fa id
 have hm5:=(hm.fr f4 (λe=>O)).fr fa id
 have hc4:=f4.cell hc (by show g<↑wr;omega) (by show ¬g=gi;omega)
 have hs4:=f4.size
 have hc5:=fa.cell hc4 (by show g<↑w4;omega) id
 have hi5:=(fa.block gi (by have:=(IK.1 hi4).1;exact this) id).trans hi4
 have bk:Blk (w4.alloc (.cells #[J V E[i].1.1,J V E[i].1.2] 122)) ↑w4 122 #[J V E[i].1.1,J V E[i].1.2]:=AI _ _ _
 have bk5:=bk.fr ((Ao Aj _).drew) id
 refine⟨hr5 _ hcm,hb5,λw6 h6 f6=>?_⟩
 obtain⟨l,hl2⟩:=JT _ hkey
 have hm6:=hm5.fr f6 (hngm _ hE)
 have hin:Mz.has ((cur E bs k seen).map ent) E[i].1=Ag:=by
  unfold Mz.has;rw[List.any_eq_true];exact⟨ent E[i],List.mem_map_of_mem hcm,by simp[ent]⟩
 obtain⟨w7,hup,hm7,f7⟩:=hm6.store_old IN IM Tryz.underlying150 hl2 hin (Z E[i].2.A (CZ k E[i].2).ks.length E[i].2.c)
 rw[cur_rep (k:=k) (seen:=seen) hi hl hn hk (Z E[i].2.A (CZ k E[i].2).ks.length E[i].2.c) rfl] at hm7
 have hg6:g<(w4.alloc (.cells #[J V E[i].1.1,J V E[i].1.2] 122)).drew.heap.size:=by
  have:=fa.size;omega
 have hi6:=(f6.block gi (IK.1 hi5).1 (λe=>Sd)).trans hi5
 have hi7:=(f7.block gi (IK.1 hi6).1 (by show ¬gi=gm;omega)).trans hi6
 have b6:=bk5.fr f6 (λe=>Sd)
 have hc6:=f6.cell hc5 hg6 (by show ¬ab E[i].2.A=I g;exact hgr _ hE)
 refine⟨w7,hup,⟨hm7,hi7, ?_, ?_, ?_, ?_⟩, ?_,hc6,b6.cell 0,b6.cell 1, ?_⟩
 ·have hr6:=oL hi hl hn sep hr5 f6 h6;intro p hp;refine(hr6 p hp).fr f7 (λq hq e=>?_);obtain⟨j,hj,_,h2,_⟩:=aH hp;rw[h2] at hq;exact hngm _ (CE hj) (by rw[hq,e])
 ·exact(hb5.fr f6 (λe=>Sd)).fr f7 (λe=>O)
 ·exact f7.cell hc6 aL (by show ¬g=gm;exact hgm)
 ·refine hf.trans ((((f4.mono (S':=λq=>S q∨q=gi) (λq _ e=> Ah e)).tr (fa.mono (λ_ _ e=>e.elim))).tr (f6.mono (λq _ e=> Af (hS q (Ah ⟨_,hE,e⟩))))).tr (f7.mono (λq _ e=> Af (hS q (Af e))))) (λq hq e=>?_);rcases e with e|e;·exact e
  ·omega
 ·rw[O8 hi7,O8 hit];exact aG (CE hbi) hns
 ·have b7:=b6.fr f7 (by show ¬↑w4=gm;omega);exact⟨f7.cell hc6 aL (by show ¬g=gm;exact hgm),b7.cell 0,b7.cell 1⟩
def srt(w:Aa)(q:Nat):Option (Option AN):=
 match w.heap[q]? with
 |some (.cells _ t _)=>I (I t)
 |some (.map _ _)=>I G
 |_=>G
theorem srt_blk{t:AN}{cs:AO}(h:Blk w g t cs):srt w g=I (I t):=by
 unfold Blk at h;simp[srt,h]
theorem IW{es:Array MapEntry}(h:w.heap[g]?=I (.map es c)):srt w g=I G:=by
 simp[srt,h]
theorem BRow.srt{A:Aw}{l:List Bk}(h:BRow w A c l)(e:ab A=I q):Ca.srt w q=I (I 149):=aM
theorem LrOk.srt{l:Lr}(h:LrOk w l)(e:ab l.A=I q):Ca.srt w q=I (I 122):=aM
theorem CodeOk.srt{b:Bk}(h:CodeOk w b)(e:ab b.A=I q):Ca.srt w q=I (I 5):=by
 unfold CodeOk at h;exact aN
variable{s:Cs}
theorem Cch.srt(h:Cch w g s):Ca.srt w g=I (I 152)∧Ca.srt w s.gm=I G∧(∀q,ab s.A=I q→Ca.srt w q=I (I 149))∧(∀b∈s.bl,∀q,ab b.A=I q→Ca.srt w q=I (I 5))∧(∀p∈s.E,∀q,ab p.2.A=I q→Ca.srt w q=I (I 122)):=by
 obtain⟨bs,clock,hm⟩:=h.m;exact⟨srt_blk h.b,IW hm.b,λq e=>h.r.srt e,λb hb q e=>(h.code b hb).srt e,λp hp q e=>(h.rows p hp).srt e⟩
theorem Cch.apart(h:Cch w g s)(e:q=s.gm∨ ∃p∈s.E,ab p.2.A=I q):q≠g∧ab s.A≠I q∧ ∀b∈s.bl,ab b.A≠I q:=by
 obtain⟨h1,h2,h3,h4,h5⟩:=h.srt;have hq:Ca.srt w q=I G∨Ca.srt w q=I (I 122):=by
  rcases e with rfl|⟨p,hp,e⟩;·exact Af h2
  ·exact Ah (h5 p hp q e)
 refine⟨λe2=>?_,λe2=>?_,λb hb e2=>?_⟩;·rw[e2,h1] at hq;simp at hq
 ·rw[h3 q e2] at hq;simp at hq
 ·rw[h4 b hb q e2] at hq;simp at hq
theorem oM(k:Ky)(l:Lr): ∀x∈(CZ k l).ks,x∈l.ks:=λx hx=>(DF.1 hx).1
theorem Cs.unlink_ok(h:s.Ok)(k:Ky):(s.unlink k).Ok:=by
 refine⟨h.room,h.len,h.keys,h.kd,h.ct,h.code,h.fl,λp hp=>?_,λp hp=>?_⟩;·obtain⟨q,hq,rfl⟩:=BS.1 hp;exact h.froms q (DF.1 hq).1
 ·obtain⟨q,hq,rfl⟩:=BS.1 hp;have:=h.tos q (DF.1 hq).1;exact⟨this.1.sublist List.filter_sublist,λx hx=>this.2 x (oM k q.2 x hx)⟩
theorem Cs.unlink_sep(h:s.E.Pairwise (λp q=> ∀k,ab p.2.A=I k→ab q.2.A≠I k))(k:Ky):(s.unlink k).E.Pairwise (λp q=> ∀k,ab p.2.A=I k→ab q.2.A≠I k):=by
 show((away s.E k).map _).Pairwise _;rw[List.pairwise_map];exact h.sublist List.filter_sublist
structure LK(w:Aa)(g:Nat)(s:Cs):Prop where
 b: ∃v0 v1 v3,Blk w g 152 #[v0,v1,.map (I s.gm),v3]
 m: ∃bs clock,MapL Tryz.prog 122 kyv w s.gm (s.E.map ent) bs clock
 rows: ∀p∈s.E,LrOk w p.2
 sep:s.E.Pairwise (λp q=> ∀k,ab p.2.A=I k→ab q.2.A≠I k)
 ks: ∀p∈s.E,p.2.ks.length≤1000000
 ko: ∀p∈s.E,p.1.Ok
theorem LK.fr{S:AE}(h:LK w g s)(f:Fr S w w')(h1: ¬S g)(h2: ¬S s.gm)(h3: ∀p∈s.E,∀q,ab p.2.A=I q→ ¬S q):LK w' g s:=by
 obtain⟨v0,v1,v3,hb⟩:=h.b;obtain⟨bs,clock,hm⟩:=h.m;exact⟨⟨v0,v1,v3,hb.fr f h1⟩,⟨bs,clock,hm.fr f h2⟩,λp hp=>(h.rows p hp).fr f (h3 p hp),h.sep,h.ks,h.ko⟩
theorem Cch.lk(h:Cch w g s):LK w g s:=
 ⟨⟨_,_,_,h.b⟩,h.m,h.rows,h.sep,λp hp=>by have:=h.ok.ksl p hp;have:=h.ok.len;have:=h.ok.room;omega,λp hp=>by obtain⟨b,hb,e⟩:=BS.1 (h.ok.froms p hp);rw[←e];exact h.ok.keys b hb⟩
set_option maxRecDepth 100000 in
theorem aO(w:Aa)(g:Nat)(s:Cs)(h:LK w g s)(k:Ky)(hk:k.Ok):At Tryz.prog 72 #[↑g,A9 #[J V k.1,J V k.2]] w λe w'=>e=Ax (AF #[])∧LK w' g (s.unlink k)∧Fr (λq=>q=s.gm∨ ∃p∈s.E,ab p.2.A=I q) w w':=by
 obtain⟨l,hl⟩:=JT k hk;obtain⟨v0,v1,v3,hb0⟩:=h.b;have hgm:g≠s.gm:=by
  obtain⟨bs,clock,hm⟩:=h.m;intro e;have h1:=hb0;unfold Blk at h1;rw[e,hm.b] at h1;simp at h1
 have hgr: ∀p∈s.E,ab p.2.A≠I g:=λp hp e=>by
  rcases h.rows p hp with⟨_,h2,_⟩|⟨gk,e2,⟨F,h1,_⟩,_⟩;·rw[h2] at e;cases e
  ·rw[e2] at e;have:gk=g:=MN;subst this;obtain⟨cs,hc,_⟩:=h1;exact Blk.ne_ hc hb0 Ak rfl
 have f1:=(Ao Aj w).alloc (.cells #[J V k.1,J V k.2] 122);have bk:=QH;have h1:=h.fr f1 id id (λ_ _ _ _ e=>e);have hb1:=hb0.fr f1 id;have c2:(w.alloc (.cells #[J V k.1,J V k.2] 122)).cell? ⟨g,2,G⟩=I (.map (I s.gm)):=hb1.cell 2;obtain⟨bs,clock,hm⟩:=h1.m;obtain⟨w2,bs2,hdr,hm2,f2⟩:=(hm.fr ((Ao Aj _).drew) id).drop IN IM Tryz.underlying150 hl;rw[del_ent] at hm2;have hdr: ∀ty,(Jq #[150,122] ty #[.map (I s.gm),A9 #[J V k.1,J V k.2]]).run Tryz.prog (w.alloc (.cells #[J V k.1,J V k.2] 122)).drew=.ok (AF #[]) w2:=hdr;have hrg:=hm2.range Tryz.underlying150;have hg2:g<↑w2:=by have:=hb1.lt;have:=f2.size;exact Bg hb1.lt f2.size
 have d2:w2.cell? ⟨g,2,G⟩=I (.map (I s.gm)):=f2.cell (w:=(w.alloc (.cells #[J V k.1,J V k.2] 122)).drew) c2 hb1.lt (by show ¬g=s.gm;exact hgm);have f3:=(Ao Aj w2).alloc (.mapIter (I s.gm) clock #[] clock);have hit:(w2.alloc (.mapIter (I s.gm) clock #[] clock)).heap[w2.heap.size]?=I (.mapIter (I s.gm) clock #[] clock):=heap_alloc_new _ _;have hm3:=hm2.fr f3 id;have ih0: ∀p∈s.E,ab p.2.A≠I s.gm:=λp hp=>(h1.rows p hp).notMap hm.b;have hlow: ∀p∈s.E,∀q,ab p.2.A=I q→q<w.heap.size:=λp hp q e=>(h.rows p hp).low e;have hrows3: ∀p∈away s.E k,LrOk (w2.alloc (.mapIter (I s.gm) clock #[] clock)) p.2:=λp hp=>by
  have hp:=(DF.1 hp).1;exact(((h1.rows p hp).fr ((Ao Aj _).drew) (λ_ _ e=>e)).fr f2 (λq hq e=>ih0 p hp (by rw[hq,e]))).fr f3 (λ_ _ e=>e)
 have hgb:s.gm≠↑w:=by have:=h.m;obtain⟨_,_,hm0⟩:=this;have:=hm0.bound;omega
 have hbk3:Blk (w2.alloc (.mapIter (I s.gm) clock #[] clock)) ↑w 122 #[J V k.1,J V k.2]:=((bk.fr ((Ao Aj _).drew) id).fr f2 (λe=>hgb e.symm)).fr f3 id;have d3:=f3.cell d2 hg2 id;have F3:Fr (λq=>q=s.gm∨ ∃p∈s.E,ab p.2.A=I q) w (w2.alloc (.mapIter (I s.gm) clock #[] clock)):=(((f1.mono (λ_ _ e=>e.elim)).drew).tr (f2.mono (λq _ e=> Af e))).alloc _;have hgi:w.heap.size<w2.heap.size:=by have:=f2.size;have:=bk.lt;exact Bg bk.lt f2.size
 have hgl:g<↑w:=hb0.lt;have hE0:cur (away s.E k) bs2 k #[]=away s.E k:=cur_0 _ _ _;have hl2:bs2.length=(away s.E k).length:=by have:=hm2.len;simpa using this
 have hsep:(away s.E k).Pairwise (λp q=> ∀k,ab p.2.A=I k→ab q.2.A≠I k):=h.sep.sublist List.filter_sublist;have hmemE: ∀p∈away s.E k,p∈s.E:=λp hp=>(DF.1 hp).1;have HC:=T h;have HB0:=T hb0;have HF3:=T F3;have HS:=T hsep;have HR3:=T hrows3;have HM3:=T hm3;have HB3:=T hbk3;have HN2:=T hm2.nd;have HL2:=T hl2;have HME:=T hmemE;have HI0:=T ih0;have HLO:=T hlow;have HGR:=T hgr;have HD3:=T d3;have HKD:Hid ((s.E.map (·.1)).Nodup):=T (by have:=hm.kd;rw[GZ] at this;exact this);have hgmb:s.gm<↑w:=by obtain⟨_,_,hm0⟩:=h.m;exact hm0.bound
 clear h h1 hb0 hm hm3 hm2 f1 f2 f3 bk hbk3 hrows3 F3 hsep hb1 hl2 hmemE ih0 hlow hgr d3;go_in;go_upto_region 1 with(fail);go_region_law (refine aK rfl (.tmp 9) (.tmp 10) 150 122 rfl hdr ?_)
 all_goals
  go_wp2_with fail;go_loopw [5] (λ_ wr=> ∃seen:Array Nat,UR w g ↑w2 s.gm clock (away s.E k) bs2 k (λq=>q=s.gm∨ ∃p∈s.E,ab p.2.A=I q) seen wr) (λ_ wr=>GL bs2 ↑w2 wr)
  case atStart=>exact⟨#[],by rw[hE0];exact HM3.out,hit,by rw[hE0];exact HR3.out,HB3.out,HD3.out,HF3.out⟩
  case round=>
   obtain⟨seen,hur⟩:=hrel;rcases hur.1.next hur.2.1 with⟨hdone,hnx⟩|⟨i,hiL,hbL,hns,w4,hnx,hi4,f4,hen⟩
   ·have HU:=T hur;have hA:=T (cur_all (k:=k) HL2.out hdone);clear hur hdone
    go_wp2
    go_end0;obtain⟨hm,hi,hrw,hbk,hd,fr⟩:=HU.out;rw[hA.out] at hm hrw;have hc:=HC.out;refine⟨rfl,⟨⟨v0,v1,v3,HB0.out.fr fr (λe=>by rcases e with e|⟨p,hp,e⟩;exact hgm e;exact HGR.out p hp e)⟩,⟨_,_,hm⟩,hrw,Cs.unlink_sep hc.sep k,λp hp=>?_,λp hp=>?_⟩,fr⟩;·obtain⟨q,hq,rfl⟩:=BS.1 hp;have:=hc.ks q (DF.1 hq).1;have h2:(CZ k q.2).ks.length≤q.2.ks.length:=List.length_filter_le _ _;show(CZ k q.2).ks.length≤_;omega
    ·obtain⟨q,hq,rfl⟩:=BS.1 hp;exact hc.ko q (DF.1 hq).1
   ·have hiE:i<(away s.E k).length:=by have:=HL2.out;omega
    have hcur:((cur (away s.E k) bs2 k seen).map ent)[i]=ent (away s.E k)[i]:=by rw[List.getElem_map,cur_at hiE hbL hns]
    rw[hcur] at hnx hen;obtain⟨p,hp⟩:=A8 ((away s.E k)[i]);rw[hp] at hnx hen;replace hnx: ∀ty,(Instr.next (Bm (I ⟨↑w2,0,G⟩)) Ac ty).run Tryz.prog wr=.ok (AF #[Ap Ag,A9 #[J V p.1.1,J V p.1.2],Z p.2.A p.2.ks.length p.2.c]) w4:=hnx;replace hen:(Instr.entry (Bm (I ⟨↑w2,0,G⟩))).run Tryz.prog w4=.ok (AF #[A9 #[J V p.1.1,J V p.1.2],Z p.2.A p.2.ks.length p.2.c]) w4:=hen;have hpE:p∈s.E:=HME.out p (by rw[←hp];exact CE hiE);obtain⟨g1,g2,g3⟩:=ur_step hur hiE HL2.out HN2.out (oK k HKD.out) HS.out hns f4 hi4 hgi hgl hgm (λp hp=>HLO.out p (HME.out p hp)) (λp hp=>HGR.out p (HME.out p hp)) (λp hp=>HI0.out p (HME.out p hp)) hgmb (λq e=>by
     rcases e with e|⟨p,hp,e⟩;·exact Af e
     ·exact Ah ⟨p,HME.out p hp,e⟩) (by rw[hp];exact HC.out.ko p hpE) hp
    have hd4:=f4.cell hur.2.2.2.2.1 (by show g<↑wr;have:=hur.2.2.2.2.2.size;omega) (by show ¬g=↑w2;omega);have HST:Hid (At Tryz.prog 88 #[Z p.2.A p.2.ks.length p.2.c,.func (.func 89) #[] #[Bm (I ⟨↑w,0,G⟩)]] (w4.alloc (.cells #[J V p.1.1,J V p.1.2] 122)).drew λe w6=>e=Ax (Z p.2.A (CZ k p.2).ks.length p.2.c)∧
     ∃w7,(Ix 150 (.map (I s.gm)) (A9 #[J V p.1.1,J V p.1.2]) (Z p.2.A (CZ k p.2).ks.length p.2.c)).run Tryz.prog w6=.ok () w7∧Hid (UR w g ↑w2 s.gm clock (away s.E k) bs2 k (λq=>q=s.gm∨ ∃p∈s.E,ab p.2.A=I q) (seen.push bs2[i]) w7)∧GL bs2 ↑w2 w7<GL bs2 ↑w2 wr∧
      w6.cell? ⟨g,2,G⟩=I (.map (I s.gm))∧w6.cell? ⟨↑w4,0,G⟩=I (J V p.1.1)∧w6.cell? ⟨↑w4,1,G⟩=I (J V p.1.2)∧w7.cell? ⟨g,2,G⟩=I (.map (I s.gm))∧w7.cell? ⟨↑w4,0,G⟩=I (J V p.1.1)∧w7.cell? ⟨↑w4,1,G⟩=I (J V p.1.2)):=T ((oJ _ p.2 g1 (HC.out.ks p hpE) ↑w k g2 (λe=>by have:=HLO.out p hpE _ e;omega)).mono (by
     rintro e w6 ⟨h1,hs6,f6⟩
     obtain⟨w7,hup,hur7,hlt,k0,k1,k2,k3,k4,k5⟩:=g3 w6 hs6 f6
     exact⟨h1,w7,hup,T hur7,hlt,k0,k1,k2,k3,k4,k5⟩))
    have hgw4:g<↑w4:=by have:=hur.2.2.2.2.2.size;have:=f4.size;omega
    clear hur hcur g1 g2 g3 f4 hi4 hp hpE;have bk:Blk (w4.alloc (.cells #[J V p.1.1,J V p.1.2] 122)) ↑w4 122 #[J V p.1.1,J V p.1.2]:=AI _ _ _;have s0:(w4.alloc (.cells #[J V p.1.1,J V p.1.2] 122)).cell? ⟨g,2,G⟩=I (.map (I s.gm)):=((Ao Aj w4).alloc _).cell hd4 (by show g<↑w4;omega) id;have s1:(w4.alloc (.cells #[J V p.1.1,J V p.1.2] 122)).cell? ⟨↑w4,0,G⟩=I (J V p.1.1):=bk.cell 0;have s2:(w4.alloc (.cells #[J V p.1.1,J V p.1.2] 122)).cell? ⟨↑w4,1,G⟩=I (J V p.1.2):=bk.cell 1;clear bk hd4;generalize p.1.1=pa at*;generalize p.1.2=pb at*;generalize(CZ k p.2).ks.length=pm at*;generalize p.2.A=pA at*;generalize p.2.ks.length=pn at*;generalize p.2.c=pc at*;clear p;go_upto_region 5 with(fail);generalize w4.alloc (.cells #[J V pa,J V pb] 122)=w5 at*;clear hen hnx hiL hgw4 hns;go_region_held (λW=>W.cell? ⟨g,2,G⟩=I (.map (I s.gm))∧W.cell? ⟨↑w4,0,G⟩=I (J V pa)∧W.cell? ⟨↑w4,1,G⟩=I (J V pb)) (first|exact⟨s0,s1,s2⟩|exact⟨k0,k1,k2⟩|exact⟨k3,k4,k5⟩) ((refine Az HST ?_;rintro e w6 ⟨rfl,w7,hup,HU7,hlt,k0,k1,k2,k3,k4,k5⟩))
    all_goals
     go_roundw
     case rel=>exact⟨_,_,_,_,_,_,_,_,_,_,_,_,_,_,_,⟨_,HU7.out⟩,rfl⟩
     case measure=>exact hlt
theorem oN(w:Aa)(g:Nat)(s:Cs)(h:Cch w g s)(k:Ky)(hk:k.Ok):At Tryz.prog 72 #[↑g,A9 #[J V k.1,J V k.2]] w λe w'=>e=Ax (AF #[])∧Cch w' g (s.unlink k)∧Fr (λq=>q=s.gm∨ ∃p∈s.E,ab p.2.A=I q) w w':=
 (aO w g s h.lk k hk).mono λe w' ⟨h1,h2,fr⟩=>⟨h1,⟨h.b.fr fr (λe=>(h.apart e).1 rfl),h2.m,h.r.fr fr (λq hq e=>(h.apart e).2.1 hq),λb hb=>(h.code b hb).fr fr (λq hq e=>(h.apart e).2.2 b hb hq),h2.rows,h2.sep,Cs.unlink_ok h.ok k⟩,fr⟩
end Ca
namespace Ca
open Mz Go.Maps
def Im{α:Type}(sz:Nat)(fc:α→Nat→As)(l:List α):List As:=l.flatMap λb=>(Cl sz).map (fc b)
variable{α:Type}
theorem aP(sz:Nat)(fc:α→Nat→As)(l:List α):(Im sz fc l).length=l.length*sz:=by
 induction l with
 |nil=>simp[Im]
 |cons b l ih=>
  show((Cl sz).map (fc b)++Im sz fc l).length=_;rw[Cq,ih,Fo,List.length_range,D8,Nat.succ_mul,Nat.add_comm]
theorem aQ(sz:Nat)(fc:α→Nat→As)(d:α)(l:List α): ∀i,i<l.length→ ∀c,c<sz→(Im sz fc l)[i*sz+c]?=I (fc (l.getD i d) c):=by
 induction l with
 |nil=>intro i hi;simp at hi
 |cons b l ih=>
  intro i hi c hc;show((Cl sz).map (fc b)++Im sz fc l)[i*sz+c]?=_
  cases i with
  |zero=>
   rw[Nat.zero_mul,BW,Ff JR];simp[hc]
  |succ i=>
   rw[Ex aR];have:(i+1)*sz+c -((Cl sz).map (fc b)).length=i*sz+c:=aR;rw[this,ih i Md c hc];simp
variable{w:Aa}{base:Nat}{A:Aw}{n c:Nat}
theorem own_to{e:AN}{sz:Nat}{l:List α}{fc:α→Nat→As}(hl:l.length=n)(d:α)(hsz:0<sz)(h:w.ownsRow base e sz (Z A n c) n (Im sz fc l)):(l=[]∧A=G∧c=0)∨ ∃gl,A=I ⟨gl,0,G⟩∧(∃F,Cells w gl e (c*sz) F∧n≤c∧ ∀q,q<n→ ∀j,j<sz→F (q*sz+j)=fc (l.getD q d) j)∧c≤BQ∧base≤gl:=by
 rcases h.2 with⟨e1,h0⟩|⟨g,cap,cur,e1,hg,hb,hnc,hm,hs,ht⟩;·left;injection e1 with e1 e2 e3;exact⟨List.eq_nil_of_length_eq_zero O,e1,e3⟩
 ·right;injection e1 with e1 e2 e3;subst e3;refine⟨g,e1,⟨λi=>cur.getD i BY,⟨cur,hb,hs,λi hi=>?_⟩,hnc,λq hq j hj=>?_⟩,hm,hg⟩;·have:i<cur.size:=O;simp[this]
  ·have hat:=aQ sz fc d l q O j hj;have hlt:q*sz+j<n*sz:=by
    have:(q+1)*sz≤n*sz:=Nat.mul_le_mul_right _ hq;rw[Nat.succ_mul] at this;omega
   rw[←ht,Dq hlt] at hat;show cur.getD (q*sz+j) BY=_;rw[Array.getD_eq_getD_getElem?,←DV,hat];rfl
theorem aS{e:AN}{sz:Nat}{gl:Nat}{l:List α}{fc:α→Nat→As}(hl:l.length=n)(d:α)(hsz:0<sz){F:Nat→As}(h:Cells w gl e (c*sz) F)(hn:n≤c)(hm:c≤BQ)(hF: ∀q,q<n→ ∀j,j<sz→F (q*sz+j)=fc (l.getD q d) j):w.ownsRow 0 e sz (Z (I ⟨gl,0,G⟩) n c) n (Im sz fc l):=by
 obtain⟨cs,hb,hs,hc⟩:=h;have hle:n*sz≤c*sz:=Nat.mul_le_mul_right _ hn;refine⟨by rw[aP,hl],Ah ⟨gl,c,cs,rfl,Bj _,hb,hn,hm,hs, ?_⟩⟩;apply List.ext_getElem?;intro m;by_cases hmn:m<n*sz;·rw[Dq hmn,DV,hc m O];have hq:m/sz<n:=(Nat.div_lt_iff_lt_mul hsz).2 hmn;have hat:=aQ sz fc d l (m/sz) O (m%sz) (Nat.mod_lt _ hsz);have hmd:m/sz*sz+m%sz=m:=Nat.div_add_mod' m sz;rw[hmd] at hat;rw[hat,←hF _ hq _ (Nat.mod_lt _ hsz),hmd]
 ·rw[Ew (by rw[Iv];omega),Ew (by rw[aP,hl];omega)]
def I6(l:List Bk):List As:=Im 4 bc l
theorem BRow.own{l:List Bk}(h:BRow w A c l):w.ownsRow 0 149 4 (Z A l.length c) l.length (I6 l):=by
 rcases h with⟨rfl,rfl,rfl⟩|⟨gl,rfl,⟨F,h1,h2,h3⟩,h4⟩;·exact⟨rfl,Af ⟨rfl,rfl⟩⟩
 ·exact aS rfl dBk O h1 h2 h4 h3
theorem BRow.of_own{l:List Bk}(h:w.ownsRow base 149 4 (Z A l.length c) l.length (I6 l)):BRow w A c l:=by
 rcases own_to rfl dBk O h with h|⟨gl,e,h1,h2,h3⟩;·exact Af h
 ·exact Ah ⟨gl,e,h1,h2⟩
theorem aT(l:List Ky):Ig l=Im 2 kc l:=by
 unfold Ig Im;congr 1
theorem LrOk.own{l:Lr}(h:LrOk w l):w.ownsRow 0 122 2 (Z l.A l.ks.length l.c) l.ks.length (Ig l.ks):=by
 rw[aT];rcases h with⟨h1,h2,h3⟩|⟨gl,e,⟨F,h1,h2,h3⟩,h4⟩;·rw[h1,h2,h3];exact⟨rfl,Af ⟨rfl,rfl⟩⟩
 ·rw[e];exact aS rfl (0,0) O h1 h2 h4 h3
theorem LrOk.of_own{l:Lr}(h:w.ownsRow base 122 2 (Z l.A l.ks.length l.c) l.ks.length (Ig l.ks)):LrOk w l:=by
 rw[aT] at h;rcases own_to rfl (0,0) O h with h|⟨gl,e,h1,h2,h3⟩;·exact Af h
 ·exact Ah ⟨gl,e,h1,h2⟩
def wr4(w:Aa)(gl i:Nat)(b:Bk):Aa:=
 (((w.setCell ⟨gl,i*4,G⟩ (J V b.pc)).setCell ⟨gl,i*4+1,G⟩ (J V b.pl)).setCell ⟨gl,i*4+2,G⟩ (Z b.A b.code.length b.c)).setCell ⟨gl,i*4+3,G⟩ (J U b.ct)
theorem wr4_fr{S:AE}(w:Aa)(gl i:Nat)(b:Bk)(hs:S gl):Fr S w (wr4 w gl i b):=
 ((((Ao S w).setCell (p:=⟨gl,i*4,G⟩) (Af hs) _).setCell (p:=⟨gl,i*4+1,G⟩) (Af hs) _).setCell (p:=⟨gl,i*4+2,G⟩) (Af hs) _).setCell (p:=⟨gl,i*4+3,G⟩) (Af hs) _
theorem nthB_set(l:List Bk)(i:Nat)(b:Bk)(q:Nat)(hq:q<l.length):Ch (l.set i b) q=if q=i then b else Ch l q:=by
 rw[Jr KQ,Jr hq,List.getElem_set];by_cases e:i=q;·rw[An e,An e.symm]
 ·rw[Ae e,Ae (λh=>e h.symm)]
theorem Row_b.put{gl:Nat}{l:List Bk}(h:Row_b w gl c n (Ch l))(hn:l.length=n)(i:Nat)(hi:i<n)(b:Bk):Row_b (wr4 w gl i b) gl c n (Ch (l.set i b)):=by
 obtain⟨F,h1,h2,h3⟩:=h;refine⟨_,(((h1.set_ (i*4) _).set_ (i*4+1) _).set_ (i*4+2) _).set_ (i*4+3) _,h2,λq hq j hj=>?_⟩;rw[nthB_set l i b q O];by_cases e:q=i
 ·subst e;rw[An rfl];rcases(by omega:j=0∨j=1∨j=2∨j=3) with rfl|rfl|rfl|rfl
  all_goals
   unfold Bz;simp[bc]
 ·rw[Ae e,←h3 q hq j hj];exact QF
end Ca
namespace Ca
open Mz Go.Maps
theorem Kk(k:Ky): ∀(l:List Bk) (i:Nat),idx k l=i→i<l.length∧(Ch l i).k=k
 |[],i,h=>by simp[idx] at h
 |b::l,i,h=>by
  rw[KG] at h;by_cases e:b.k=k;·rw[An e] at h;have:i=0:=O;subst this;exact⟨AC,e⟩
  ·rw[Ae e] at h;by_cases e2:idx k l<0;·rw[An e2] at h;omega
   ·rw[Ae e2] at h;obtain⟨j,hj⟩: ∃j:Nat,idx k l=j:=⟨(idx k l).toNat,O⟩;have ih:=Kk k l j hj;have:i=j+1:=O;subst this;exact⟨AA,ih.2⟩
theorem O9(k:Ky): ∀(l:List Bk),idx k l<0→k∉l.map Bk.k
 |[],_=>AC
 |b::l,h=>by
  rw[KG] at h;by_cases e:b.k=k;·rw[An e] at h;omega
  ·rw[Ae e] at h;have h2:idx k l<0:=by
    by_cases e2:idx k l<0;·exact e2
    ·rw[Ae e2] at h;omega
   have ih:=O9 k l h2;intro hm;rcases Dv.1 hm with h3|h3;·exact e h3.symm
   ·exact ih h3
theorem aU(k:Ky)(l:List Bk):idx k l<0↔k∉l.map Bk.k:=by
 refine⟨O9 k l,λh=>?_⟩;by_cases e:idx k l<0;·exact e
 ·obtain⟨j,hj⟩: ∃j:Nat,idx k l=j:=⟨(idx k l).toNat,O⟩;obtain⟨h1,h2⟩:=Kk k l j hj;rw[Jr h1] at h2;exact absurd (by rw[←h2];exact List.mem_map_of_mem (CE h1)) h
def Cs.set(s:Cs)(b:Bk):Cs:={s.unlink b.k with bl:=s.bl.set (idx b.k s.bl).toNat b}
def Cs.snoc(s:Cs)(b:Bk)(A:Aw)(c:Nat):Cs:={s with bl:=s.bl++[b],A:=A,c:=c}
def Cs.put(s:Cs)(b:Bk)(A:Aw)(c gm:Nat):Cs:=
 if 0≤idx b.k s.bl then s.set b else if s.room≤s.bl.length then(s.flush gm).snoc b A c else s.snoc b A c
def Bk.Ok(b:Bk):Prop:=b.k.Ok∧(1≤b.ct∧b.ct≤9223372036854775807)∧(b.code≠[]∧b.code.length≤1000000∧ ∀z∈b.code,0≤z∧z<256)
variable{i:Nat}{b:Bk}
theorem set_keys{l:List Bk}(hi:i<l.length)(e:(Ch l i).k=b.k):(l.set i b).map Bk.k=l.map Bk.k:=by
 rw[List.map_set];apply List.ext_getElem;·simp
 ·intro j h1 h2;rw[List.getElem_set];split
  ·rename_i h;subst h
   rw[←e,Jr hi];simp
  ·rfl
variable{s:Cs}
theorem Cs.set_ok(h:s.Ok)(hb:b.Ok)(hi:idx b.k s.bl=i):(s.set b).Ok:=by
 obtain⟨h1,h2⟩:=Kk _ _ _ hi;have hto:=Se;have hu:=Cs.unlink_ok h b.k;have hk:=set_keys h1 h2;have hm: ∀x∈s.bl.set i b,x=b∨x∈s.bl:=λx hx=>by
  rcases List.mem_or_eq_of_mem_set hx with e|e;·exact Ah e
  ·exact Af e
 have e:=aV;rw[e];refine⟨h.room,by show((s.bl.set i b).length:Int)≤_;rw[List.length_set];exact h.len,λx hx=>?_, ?_,λx hx=>?_,λx hx=>?_,h.fl,λp hp=>?_,λp hp=>?_⟩
 ·rcases hm x hx with rfl|hx;·exact hb.1
  ·exact h.keys x hx
 ·show((s.bl.set i b).map Bk.k).Nodup;rw[hk];exact h.kd
 ·rcases hm x hx with rfl|hx;·exact hb.2.1
  ·exact h.ct x hx
 ·rcases hm x hx with rfl|hx;·exact hb.2.2
  ·exact h.code x hx
 ·show p.1∈(s.bl.set i b).map Bk.k;rw[hk];exact hu.froms p hp
 ·show _∧ ∀k∈p.2.ks,k∈(s.bl.set i b).map Bk.k;rw[hk];exact hu.tos p hp
theorem Cs.snoc_ok(h:s.Ok)(hb:b.Ok)(hi:idx b.k s.bl<0)(hl:(s.bl.length:Int)<s.room)(A:Aw)(c:Nat):(s.snoc b A c).Ok:=by
 have hn:=O9 _ _ hi;refine⟨h.room,by show((s.bl++[b]).length:Int)≤s.room;rw[Cq];show((s.bl.length+1:Nat):Int)≤s.room;omega,λx hx=>?_, ?_,λx hx=>?_,λx hx=>?_,h.fl,λp hp=>?_,λp hp=>?_⟩
 ·rcases Da.1 hx with hx|hx;·exact h.keys x hx
  ·rw[Ii.1 hx];exact hb.1
 ·show((s.bl++[b]).map Bk.k).Nodup;rw[FH,List.nodup_append];refine⟨h.kd,AC,λa ha c hc e=>?_⟩;simp at hc;subst hc;exact hn (e▸ha)
 ·rcases Da.1 hx with hx|hx;·exact h.ct x hx
  ·rw[Ii.1 hx];exact hb.2.1
 ·rcases Da.1 hx with hx|hx;·exact h.code x hx
  ·rw[Ii.1 hx];exact hb.2.2
 ·show p.1∈(s.bl++[b]).map Bk.k;rw[FH];exact List.mem_append_left _ (h.froms p hp)
 ·have:=h.tos p hp;refine⟨this.1,λk hk=>?_⟩;show k∈(s.bl++[b]).map Bk.k;rw[FH];exact List.mem_append_left _ (this.2 k hk)
theorem Cch.setB{w:Aa}{g:Nat}{gl:Nat}(h:Cch w g (s.unlink b.k))(hok:s.Ok)(hb:b.Ok)(hi:idx b.k s.bl=i)(hc:CodeOk w b)(hA:s.A=I ⟨gl,0,G⟩):Cch (wr4 w gl i b) g (s.set b):=by
 obtain⟨h1,h2⟩:=Kk _ _ _ hi;have hto:=Se;have f:Fr (· =gl) w (wr4 w gl i b):=wr4_fr w gl i b rfl;obtain⟨t1,t2,t3,t4,t5⟩:=h.srt;have tl:Ca.srt w gl=I (I 149):=t3 gl (by show ab s.A=_;rw[hA];rfl);obtain⟨bs,clock,hm⟩:=h.m;have hok2:=Cs.set_ok hok hb hi;have e:=aV;rw[e] at hok2⊢;have hlen:(s.bl.set i b).length=s.bl.length:=List.length_set;have hcells:IP {s.unlink b.k with bl:=s.bl.set i b}=IP (s.unlink b.k):=by
  show#[_,Z s.A (s.bl.set i b).length s.c,_,_]=_;rw[hlen];rfl
 refine⟨?_,⟨bs,clock,hm.fr f (λe=>by rw[e,tl] at t2;simp at t2)⟩, ?_,λx hx=>?_,λp hp=>(h.rows p hp).fr f (λq hq e=>by have:=t5 p hp q hq;rw[e,tl] at this;simp at this),h.sep,hok2⟩;·rw[hcells];exact h.b.fr f (λe=>by rw[e,tl] at t1;simp at t1)
 ·rcases h.r with⟨e1,_⟩|⟨gl2,e2,h3,h4⟩;·exact absurd e1 (by show s.bl≠[];intro e1;rw[e1] at h1;simp at h1)
  ·have e2:s.A=I ⟨gl2,0,G⟩:=e2;rw[hA] at e2;injection e2 with e2;injection e2 with e2;subst e2;have h3:Row_b w gl s.c s.bl.length (Ch s.bl):=h3;refine Ah ⟨gl,hA, ?_,h4⟩;show Row_b _ gl s.c (s.bl.set i b).length (Ch (s.bl.set i b));rw[hlen];exact h3.put rfl i h1 b
 ·have hcx:CodeOk w x:=by
   rcases List.mem_or_eq_of_mem_set hx with e|e;·exact h.code x e
   ·rw[e];exact hc
  exact hcx.fr f (λq hq e=>by have:=hcx.srt hq;rw[e,tl] at this;simp at this)
theorem oO(l:List Bk)(b:Bk):I6 (l++[b])=I6 l++[J V b.pc,J V b.pl,Z b.A b.code.length b.c,J U b.ct]:=by
 unfold I6 Im;rw[List.flatMap_append];rfl
theorem Cch.snocB{w w6:Aa}{g:Nat}(h:Cch w g s)(hb:b.Ok)(hi:idx b.k s.bl<0)(hl:(s.bl.length:Int)<s.room){base:Nat}{A2:Aw}{c2:Nat}(f:Fr (λq=>ab s.A=I q) w w6)(hc:CodeOk w6 b)(ho:w6.ownsRow base 149 4 (Z A2 (s.bl.length+1) c2) (s.bl.length+1) (I6 (s.bl++[b]))):Cch (w6.setCell ⟨g,1,G⟩ (Z A2 (s.bl.length+1) c2)) g (s.snoc b A2 c2):=by
 obtain⟨t1,t2,t3,t4,t5⟩:=h.srt;have f2:Fr (· =g) w6 (w6.setCell ⟨g,1,G⟩ (Z A2 (s.bl.length+1) c2)):=Br _ _ _ _;have hbg:=h.b.fr f (λe=>by rw[t3 g e] at t1;simp at t1);have tg:=srt_blk hbg;obtain⟨bs,clock,hm⟩:=h.m;have hm6:=hm.fr f (λe=>by rw[t3 _ e] at t2;simp at t2);have tm:=IW hm6.b;have hlen:(s.bl++[b]).length=s.bl.length+1:=AC;have hr:BRow w6 A2 c2 (s.bl++[b]):=BRow.of_own (base:=base) (by rw[hlen];exact ho);refine⟨?_,⟨bs,clock,hm6.fr f2 (λe=>by have e:s.gm=g:=e;rw[e,tg] at tm;simp at tm)⟩,hr.fr f2 (λq hq e=>aW),λx hx=>?_,λp hp=>?_,h.sep,Cs.snoc_ok h.ok hb hi hl A2 c2⟩
 ·have e:IP (s.snoc b A2 c2)=(IP s).setIfInBounds 1 (Z A2 (s.bl.length+1) c2):=by
   show#[_,Z A2 (s.bl++[b]).length c2,_,_]=_;rw[hlen];rfl
  rw[e];exact hbg.set_ 1 _
 ·have hcx:CodeOk w6 x:=by
   rcases Da.1 hx with hx|hx;·exact(h.code x hx).fr f (λq hq e=>by have:=t4 x hx q hq;rw[t3 q e] at this;simp at this)
   ·rw[Ii.1 hx];exact hc
  exact hcx.fr f2 (λq hq e=>aX)
 ·have h6:=(h.rows p hp).fr f (λq hq e=>by have:=t5 p hp q hq;rw[t3 q e] at this;simp at this);exact h6.fr f2 (λq hq e=>by have:=h6.srt hq;rw[e,tg] at this;simp at this)
end Ca
namespace Mz
open Go.Maps
open Go.ChangeMaps (setBlock)
open Go.WideElems (findIdx_born)
variable {κ:Type} [DecidableEq κ] {P:CF} {k:AN} {mk:κ→As}
variable {w w':Aa} {g:Nat} {L:List (κ×As)} {bs:List Nat} {clock:Nat}
theorem MapL.entry_old(h:MapL P k mk w g L bs clock)(K:Keyed P k)(inj: ∀a b,mk a=mk b→a=b){t e:AN}(ht:P.underlying t=I (.map k e)){x:κ}{l:Lit}(hx:keyOf P k (mk x)=I l)(hin:Mz.has L x=Ag):∃w' j,∃hj:j<L.length,∃hb:j<bs.length,L[j].1=x∧(Instr.mapEntry t (.map (I g)) (mk x)).run P w=.ok (AF #[L[j].2,goInt bs[j]]) w'∧MapL P k mk w' g L bs clock∧Fr (· =g) w w':=by
 rcases h.find K inj w hx with⟨h1,h2⟩|⟨j,hj,h1,h3,h2⟩;·rw[hin] at h1;simp at h1
 ·have hb:j<bs.length:=by rw[h.len];exact hj
  have hat:=JQ (mk:=mk) L bs h.len j hj hb;obtain⟨s1,s2⟩:=Jo ⟨_,_,h.b⟩ (.map (Bi mk L bs).toArray clock);have hst:=K.stays w hx;refine⟨setBlock w g (.map (Bi mk L bs).toArray clock),j,hj,hb,h1, ?_,⟨s1,h.len,h.nd,h.lt,h.keys,h.kd⟩,s2⟩;have hkey:=Wy;have hborn:(((Bi mk L bs).toArray[j]?).map (λx=>((x.born:Nat):Int))).getD 0=((bs[j]:Nat):Int):=by
   rw[List.getElem?_toArray,hat];rfl
  have hmod:(Bi mk L bs).toArray.modify j (λe=>{e with key:=mk x})=(Bi mk L bs).toArray:=by
   apply Array.toList_inj.1;rw[Array.toList_modify];have e2:=Q8 (Bi mk L bs) j (λe=>{e with key:=mk x}) id _ hat (by show(⟨mk x,_,_⟩:MapEntry)=⟨mk L[j].1,_,_⟩;rw[h1]);refine e2.trans ?_;exact List.modify_id _ _
  simp only[Instr.mapEntry,Fe ht,Iw h.b,K.check w _ hx,h2,GT,Result.andThen_ok];rw[hkey,hst];simp only[Result.andThen_ok,hmod,hborn];rw[Jp _ h.b];rfl
theorem MapL.entry_new(h:MapL P k mk w g L bs clock)(K:Keyed P k)(inj: ∀a b,mk a=mk b→a=b){t e:AN}(ht:P.underlying t=I (.map k e)){x:κ}{l:Lit}(hx:keyOf P k (mk x)=I l)(hin:Mz.has L x=Ac){z:As}(hz:(zeroValue e).run P w=.ok z w):∃w',(Instr.mapEntry t (.map (I g)) (mk x)).run P w=.ok (AF #[z,goInt clock]) w'∧MapL P k mk w' g (L++[(x,z)]) (bs++[clock]) (clock+1)∧Fr (· =g) w w':=by
 obtain⟨w',h1,h2,h3⟩:=h.store_new K inj ht hx hin z;rcases h.find K inj w hx with⟨g1,g2⟩|⟨j,hj,g1,g3,g2⟩;·refine⟨w', ?_,h2,h3⟩;have h1':=h1;simp[Ix,Fe ht,Iw h.b,K.check w _ hx,g2,Jp _ h.b,ES] at h1';simp[Instr.mapEntry,Fe ht,Iw h.b,K.check w _ hx,g2,hz,Jp _ h.b,ES];exact h1'
 ·rw[hin] at g3;simp at g3
theorem MapL.stamp(h:MapL P k mk w g L bs clock)(t:AN){j:Nat}(hj:j<L.length)(hb:j<bs.length)(v:As):∃w',(Instr.entryStore t (.map (I g)) (goInt bs[j]) v).run P w=.ok () w'∧MapL P k mk w' g (rep L L[j].1 v) bs clock∧Fr (· =g) w w':=by
 obtain⟨s1,s2⟩:=Jo ⟨_,_,h.b⟩ (.map (Bi mk (rep L L[j].1 v) bs).toArray clock);have hat:=JQ (mk:=mk) L bs h.len j hj hb;have hen:=Ww (mk:=mk) L h.kd bs h.len j hj v;refine⟨setBlock w g (.map (Bi mk (rep L L[j].1 v) bs).toArray clock), ?_,⟨s1,by rw[Wv];exact h.len,h.nd,h.lt,λp hp=>?_,by rw[Ws];exact h.kd⟩,s2⟩
 ·have hidx:(Bi mk L bs).toArray.findIdx? (λe=>((e.born:Nat):Int)==((bs[j]:Nat):Int))=I j:=by
   rw[Go.WideElems.findIdx_arr];exact findIdx_born (l:=(Bi mk L bs)) (j:=j) (by rw[Wp L bs h.len];exact h.nd) hat
  have hmod:(Bi mk L bs).toArray.modify j (λe=>{e with val:=v})=(Bi mk (rep L L[j].1 v) bs).toArray:=by
   rw[hen];apply Array.toList_inj.1;rw[Array.toList_modify]
  simp[Instr.entryStore,Iw h.b,asInt,asIntOf,goInt,hidx,hmod,Jp _ h.b,ES,setBlock]
 ·exact Wz
end Mz
namespace Ca
open Mz Go.Maps
theorem LrOk.at_{w:Aa}{l:Lr}(h:LrOk w l):KF w l.A l.ks.length (Dy l.ks):=by
 rcases h with⟨h1,h2,h3⟩|⟨gl,e,h1,h2⟩;·exact λq hq=>absurd hq (by rw[h1];simp)
 ·intro q hq;have c0:=h1.cell q 0 hq O;have c1:=h1.cell q 1 hq O;refine⟨gl,0,e, ?_, ?_⟩;·rw[BW];exact c0
  ·rw[BW];exact c1
def IxPost(w:Aa)(n:Nat)(f:Nat→Ky)(k:Ky)(e:AY)(w':Aa):Prop:=(∃r:Int,e=Ax (J U r)∧decide (0≤r)=decide (∃q,q<n∧f q=k))∧Fr Aj w w'
def IxRel(w:Aa)(n:Nat)(f:Nat→Ky)(k:Ky)(q:Nat)(wr:Aa):Prop:=(∀j,j<q→f j≠k)∧Blk wr ↑w 122 #[J V k.1,J V k.2]∧Fr Aj w wr
theorem oP(w:Aa)(A:Aw)(n cap:Nat)(hm:n≤1099511627776)(f:Nat→Ky)(k:Ky)(h:KF w A n f):At Tryz.prog 160 #[Z A n cap,A9 #[J V k.1,J V k.2]] w (IxPost w n f k):=by
 have f1:=(Ao Aj w).alloc (.cells #[J V k.1,J V k.2] 122);have b1:=QH;have HA:=T h;have HF:=T f1;have HB:=T b1;clear h f1 b1;go_in;go_wp2_with fail;go_loopw [8] (λi wr=> ∃q:Nat,q≤n∧i=J U q∧IxRel w n f k q wr) (λi _=>n -(AM i).toNat)
 case atStart=>exact⟨0,O,rfl,λj h=>absurd h O,HB.out,HF.out⟩
 case round=>
  obtain⟨q,hq,rfl,hno,hb,fr⟩:=hrel;have HNO:=T hno;have HFR:=T fr;have HBR:=T hb;clear hno;by_cases hlt:q<n
  ·obtain⟨g,off,rfl,c0,c1⟩:=HA.out q hlt;have e0:=fr.cell c0 aY id;have e1:=fr.cell c1 aZ id;have k0:=hb.cell 0;have k1:=hb.cell 1;have hd:=QC;have q0:=QD;have q1:(q:Int)<(n:Int):=O;clear c0 c1 hb fr;obtain⟨y,hy⟩:=A8 (f q);rw[hy] at e0 e1;have HN:Hid (y≠k→IxRel w n f k (q+1) wr.drew):=T (λhne=>⟨λj hj=>by
    rcases(by omega:j<q∨j=q) with h|rfl;·exact HNO.out j h
    ·rw[hy];exact hne,HBR.out.drew,HFR.out.drew⟩)
   have HY:Hid (y=k→IxPost w n f k (Ax (J U (q:Int))) wr.drew):=T (λe=>⟨⟨q,rfl,by
    have: ∃j,j<n∧f j=k:=⟨q,hlt,by rw[hy,e]⟩;simp[this]⟩,HFR.out.drew⟩)
   obtain⟨y0,y1⟩:=y;obtain⟨ka,kb⟩:=k;have e0:wr.cell? ⟨g,off+q*2,G⟩=I (J V y0):=e0;have e1:wr.cell? ⟨g,off+q*2+1,G⟩=I (J V y1):=e1;have k0:wr.cell? ⟨↑w,0,G⟩=I (J V ka):=k0;have k1:wr.cell? ⟨↑w,1,G⟩=I (J V kb):=k1;clear hy HNO HBR HFR HB HF HA;by_cases c0:ka=y0
   ·subst c0;by_cases c1:kb=y1
    ·subst c1;have HP:=T (HY.out rfl);clear HN HY;go_upto_region 4 with(fail);go_still_tail 5,AL;change Cy _ _ _ _ _ wr.drew
     go_wp2
     go_ret;exact HP.out
    ·have HP:=T (HN.out (λe=>c1 (congrArg Prod.snd e).symm));exact bC
   ·have HP:=T (HN.out (λe=>c0 (congrArg Prod.fst e).symm));exact bC
  ·have hd:decide ((q:Int)<(n:Int))=Ac:=AA;have e:q=n:=O;have HE:=T e;clear e hb fr
   go_wp2
   go_ret;have e:=HE.out;subst e;refine⟨⟨-1,rfl, ?_⟩,HFR.out⟩;have: ¬ ∃j,j<q∧f j=k:=λ⟨j,hj,e⟩=>HNO.out j hj e;simp[this]
theorem oQ(w:Aa)(A:Aw)(n cap:Nat)(hm:n≤1099511627776)(f:Nat→Ky)(k:Ky)(h:KF w A n f):At Tryz.prog 125 #[Z A n cap,A9 #[J V k.1,J V k.2]] w λe w'=>e=Ax (Ap (decide (∃q,q<n∧f q=k)))∧Fr Aj w w':=by
 have f1:=(Ao Aj w).alloc (.cells #[J V k.1,J V k.2] 122);have h1:KF (w.alloc (.cells #[J V k.1,J V k.2] 122)) A n f:=λq hq=>by
  obtain⟨g,off,e,c0,c1⟩:=h q hq;refine⟨g,off,e,f1.cell c0 aY id,f1.cell c1 aZ id⟩
 have Hi:=T (oP _ A n cap hm f k h1);have F1:=T f1;clear h h1 f1;go_in;go_wp2_with fail;refine Az Hi ?_;rintro e w' ⟨⟨r,rfl,hr⟩,f2⟩;obtain⟨t,ht⟩: ∃t,decide (∃q,q<n∧f q=k)=t:=⟨_,rfl⟩;rw[ht] at hr;have F2:=T (F1.out.tr f2);have HT:=T ht;clear ht f2
 go_wp2
 go_ret;exact⟨by rw[HT.out];rfl,F2.out⟩
end Ca
namespace Ca
open Mz Go.Maps
def eL:Lr:=⟨[],G,0⟩
def Ed(E:List (Ky×Lr))(a:Ky):Bool:=E.any (λp=>decide (p.1=a))
def Cs.base(s:Cs)(a:Ky):List (Ky×Lr):=if Ed s.E a then s.E else s.E++[(a,eL)]
def Jx(E:List (Ky×Lr))(a:Ky)(l:Lr):List (Ky×Lr):=E.map (λp=>if p.1=a then(p.1,l) else p)
def Cs.link(s:Cs)(a:Ky)(l:Lr):Cs:={s with E:=Jx (s.base a) a l}
theorem bH(E:List (Ky×Lr))(a:Ky):Mz.has (E.map ent) a=Ed E a:=by
 unfold Mz.has Ed;rw[List.any_map];rfl
theorem bJ(E:List (Ky×Lr))(a:Ky)(l:Lr):rep (E.map ent) a (Z l.A l.ks.length l.c)=(Jx E a l).map ent:=by
 unfold rep Jx;rw[GZ,GZ];refine List.map_congr_left (λp _=>?_);show(if(ent p).1=a then _ else _)=ent (if p.1=a then _ else _);by_cases e:p.1=a;·rw[An e,An (show(ent p).1=a from e)];rfl
 ·rw[Ae e,Ae (show ¬(ent p).1=a from e)]
variable{E:List (Ky×Lr)}{a:Ky}
theorem OC(h:Ed E a=Ac):Bp E a=eL:=by
 unfold Ed at h;rw[List.any_eq_false] at h;unfold Bp;exact Wr
theorem OD(h:Ed E a=Ag): ∃p∈E,p.1=a∧Bp E a=p.2:=by
 unfold Ed at h;unfold Bp
 cases hf:E.find? (λp=>decide (p.1=a)) with
 |none=>
  rw[List.find?_eq_none] at hf;rw[List.any_eq_true] at h;obtain⟨p,hp,e⟩:=h;exact absurd e (hf p hp)
 |some p=>exact⟨p,List.mem_of_find?_eq_some hf,by simpa using List.find?_some hf,rfl⟩
theorem bK(w:Aa)(g:Nat)(s:Cs)(h:Cch w g s)(a:Ky)(ha:a.Ok):
 ∃we st,(Instr.mapEntry 150 (.map (I s.gm)) (A9 #[J V a.1,J V a.2])).run Tryz.prog w=.ok (AF #[Z (Bp s.E a).A (Bp s.E a).ks.length (Bp s.E a).c,st]) we∧Fr (· =s.gm) w we∧
  ∀(w2:Aa) (l:Lr),Fr (λq=>q≠s.gm) we w2→ ∃w3,(Instr.entryStore 150 (.map (I s.gm)) st (Z l.A l.ks.length l.c)).run Tryz.prog w2=.ok () w3∧(∃bs clock,MapL Tryz.prog 122 kyv w3 s.gm ((Jx (s.base a) a l).map ent) bs clock)∧Fr (· =s.gm) w2 w3:=by
 obtain⟨bs,clock,hm⟩:=h.m
 obtain⟨l0,hl⟩:=JT a ha
 have hlk:=lk_ent s.E a
 by_cases hin:Ed s.E a=Ag
 ·obtain⟨we,j,hj,hb,e1,hrun,hme,hf⟩:=hm.entry_old IN IM Tryz.underlying150 hl (by rw[bH];exact hin);have h2:=lk_at hm.kd hj;rw[e1] at h2;rw[h2] at hlk;have hlk:(s.E.map ent)[j].2=Z (Bp s.E a).A (Bp s.E a).ks.length (Bp s.E a).c:=hlk;rw[hlk] at hrun;refine⟨we,_,hrun,hf,λw2 l f2=>?_⟩;have hm2:=hme.fr f2 (λe=>e rfl);obtain⟨w3,g1,g2,g3⟩:=hm2.stamp 150 hj hb (Z l.A l.ks.length l.c);rw[e1,bJ] at g2;have hbase:s.base a=s.E:=by unfold Cs.base;rw[An hin]
  exact⟨w3,g1,⟨_,_,by rw[hbase];exact g2⟩,g3⟩
 ·have hin:Ed s.E a=Ac:=by simpa using hin
  obtain⟨we,hrun,hme,hf⟩:=hm.entry_new IN IM Tryz.underlying150 hl (by rw[bH];exact hin) (zK w);have hz:(Z G 0 0)=Z (Bp s.E a).A (Bp s.E a).ks.length (Bp s.E a).c:=by rw[OC hin];rfl
  have hj:(s.E.map ent).length<(s.E.map ent++[(a,Z G 0 0)]).length:=AC;have hb:(s.E.map ent).length<(bs++[clock]).length:=by rw[←hm.len];simp
  have hbe:(bs++[clock])[(s.E.map ent).length]'hb=clock:=by
   have:=hm.len;simp[←this]
  have hke:((s.E.map ent++[(a,Z G 0 0)])[(s.E.map ent).length]'hj).1=a:=AC;refine⟨we,goInt clock,by rw[←hz];exact hrun,hf,λw2 l f2=>?_⟩;have hm2:=hme.fr f2 (λe=>e rfl);obtain⟨w3,g1,g2,g3⟩:=hm2.stamp 150 hj hb (Z l.A l.ks.length l.c);rw[hbe] at g1;rw[hke] at g2;have hbase:(s.E.map ent++[(a,Z G 0 0)])=(s.base a).map ent:=by
   unfold Cs.base;rw[hin];simp[ent,eL]
  rw[hbase,bJ] at g2;exact⟨w3,g1,⟨_,_,g2⟩,g3⟩
variable{s:Cs}
theorem MO{p:Ky×Lr}(hp:p∈s.base a):p∈s.E∨p=(a,eL):=by
 unfold Cs.base at hp;by_cases h:Ed s.E a=Ag;·rw[An h] at hp;exact Af hp
 ·rw[Ae h] at hp;rcases Da.1 hp with h|h;·exact Af h
  ·exact Ah (Ii.1 h)
theorem oT(h:Ed E a=Ac): ∀p∈E,p.1≠a:=by
 unfold Ed at h;rw[List.any_eq_false] at h;intro p hp e;exact h p hp (by simp[e])
theorem base_nd(h:(s.E.map (·.1)).Nodup):(s.base a).Pairwise (λp q=>p.1≠q.1):=by
 have h0:s.E.Pairwise (λp q=>p.1≠q.1):=List.pairwise_map.1 h;unfold Cs.base;by_cases hh:Ed s.E a=Ag;·rw[An hh];exact h0
 ·rw[Ae hh];rw[List.pairwise_append];refine⟨h0,AC,λp hp q hq=>?_⟩;rw[Ii.1 hq];exact oT (by simpa using hh) p hp
theorem apartL(hs:s.E.Pairwise (λp q=> ∀k,ab p.2.A=I k→ab q.2.A≠I k)){p:Ky×Lr}(hp:p∈s.E)(hne:p.1≠a){q:Nat}(hq:ab p.2.A=I q):ab (Bp s.E a).A≠I q:=by
 by_cases h:Ed s.E a=Ag
 ·obtain⟨p0,h1,h2,h3⟩:=OD h;rw[h3];intro e;obtain⟨i,hi,rfl⟩:=GC hp;obtain⟨j,hj,rfl⟩:=GC h1;rw[List.pairwise_iff_getElem] at hs;rcases Nat.lt_trichotomy i j with h4|h4|h4;·exact hs i j hi hj h4 q hq e
  ·subst h4;exact hne h2
  ·exact hs j i hj hi h4 q e hq
 ·rw[OC D7];simp[eL,ab]
theorem Cs.link_ok(h:s.Ok){b:Ky}{l:Lr}(ha:a∈s.bl.map Bk.k)(hb:b∈s.bl.map Bk.k)(hl:l.ks=lnk s.E a++[b])(hn:b∉lnk s.E a):(s.link a l).Ok:=by
 have hk:l.ks.Nodup∧ ∀k∈l.ks,k∈s.bl.map Bk.k:=by
  have h0:(lnk s.E a).Nodup∧ ∀k∈lnk s.E a,k∈s.bl.map Bk.k:=by
   rw[MK];by_cases hh:Ed s.E a=Ag;·obtain⟨p,hp,_,e⟩:=OD hh;rw[e];exact h.tos p hp
   ·rw[OC (by simpa using hh)];exact⟨List.nodup_nil,by simp[eL]⟩
  rw[hl];refine⟨List.nodup_append.2 ⟨h0.1,AC,λx hx y hy e=>?_⟩,λk hk=>?_⟩
  ·have:y=b:=by simpa using hy
   exact hn (by rw[←this,←e];exact hx)
  ·rcases Da.1 hk with hk|hk;·exact h0.2 k hk
   ·rw[Ii.1 hk];exact hb
 refine⟨h.room,h.len,h.keys,h.kd,h.ct,h.code,h.fl,λp hp=>?_,λp hp=>?_⟩
 ·obtain⟨q,hq,rfl⟩:=BS.1 hp;show(if q.1=a then(q.1,l) else q).1∈s.bl.map Bk.k;have:(if q.1=a then(q.1,l) else q).1=q.1:=by split<;>rfl
  rw[this];rcases MO hq with h1|h1;·exact h.froms q h1
  ·rw[h1];exact ha
 ·obtain⟨q,hq,rfl⟩:=BS.1 hp;by_cases e:q.1=a;·rw[An e];exact hk
  ·rw[Ae e];rcases MO hq with h1|h1;·exact h.tos q h1
   ·rw[h1] at e;exact absurd rfl e
theorem Cch.linkB{w w3:Aa}{g:Nat}(h:Cch w g s){b:Ky}{l:Lr}(ha:a∈s.bl.map Bk.k)(hb:b∈s.bl.map Bk.k)(hl:l.ks=lnk s.E a++[b])(hn:b∉lnk s.E a)(f:Fr (λq=>q=s.gm∨ab (Bp s.E a).A=I q) w w3)(hm: ∃bs clock,MapL Tryz.prog 122 kyv w3 s.gm ((Jx (s.base a) a l).map ent) bs clock)(hr:LrOk w3 l)(hnew: ∀q,ab l.A=I q→ab (Bp s.E a).A=I q∨w.heap.size≤q):Cch w3 g (s.link a l):=by
 have hS: ∀q,(q=s.gm∨ab (Bp s.E a).A=I q)→(q=s.gm∨ ∃p∈s.E,ab p.2.A=I q):=λq e=>by
  rcases e with e|e;·exact Af e
  ·by_cases hh:Ed s.E a=Ag;·obtain⟨p,hp,_,e2⟩:=OD hh;exact Ah ⟨p,hp,MP⟩
   ·exact bL
 obtain⟨t1,t2,t3,t4,t5⟩:=h.srt;have hkd:(s.E.map (·.1)).Nodup:=by
  obtain⟨bs,clock,hm0⟩:=h.m;have:=hm0.kd;rw[GZ] at this;exact this
 refine⟨h.b.fr f (λe=>(h.apart (hS _ e)).1 rfl),hm,h.r.fr f (λq hq e=>(h.apart (hS _ e)).2.1 hq),λx hx=>(h.code x hx).fr f (λq hq e=>(h.apart (hS _ e)).2.2 x hx hq),λp hp=>?_, ?_,Cs.link_ok h.ok ha hb hl hn⟩
 ·obtain⟨q,hq,rfl⟩:=BS.1 hp;by_cases e:q.1=a;·rw[An e];exact hr
  ·rw[Ae e];rcases MO hq with h1|h1
   ·refine(h.rows q h1).fr f (λk hk e2=>?_);rcases e2 with e2|e2;·have:=t5 q h1 k hk;rw[e2,t2] at this;simp at this
    ·exact apartL h.sep h1 e hk e2
   ·rw[h1] at e;exact absurd rfl e
 ·show(Jx (s.base a) a l).Pairwise _;unfold Jx;rw[List.pairwise_map];have hsep:(s.base a).Pairwise (λp q=> ∀k,ab p.2.A=I k→ab q.2.A≠I k):=by
   unfold Cs.base;by_cases hh:Ed s.E a=Ag;·rw[An hh];exact h.sep
   ·rw[Ae hh,List.pairwise_append];refine⟨h.sep,AC,λp hp q hq k hk=>?_⟩;rw[Ii.1 hq];simp[eL,ab]
  refine List.Pairwise.imp_of_mem ?_ ((base_nd hkd).and hsep);rintro p q hp hq ⟨h1,h2⟩ k;have key: ∀r∈s.base a,r.1≠a→ ∀k,ab r.2.A=I k→ab l.A≠I k:=λr hr2 hne k hk e=>by
   rcases MO hr2 with h3|h3
   ·rcases hnew k e with h4|h4;·exact apartL h.sep h3 hne hk h4
    ·have:=(h.rows r h3).low hk;omega
   ·rw[h3] at hne;exact hne rfl
  by_cases ep:p.1=a;·have eq:q.1≠a:=λe=>h1 (ep.trans e.symm);rw[An ep,Ae eq];exact λe1 e2=>key q hq eq k e2 e1
  ·rw[Ae ep];by_cases eq:q.1=a;·rw[An eq];exact λe1 e2=>key p hp ep k e1 e2
   ·rw[Ae eq];exact h2 k
end Ca
namespace Ca
open Mz Go.Maps
def Kl(w:Aa)(g:Nat)(s:Cs)(a b:Ky)(e:AY)(w':Aa):Prop:=
 if 0≤idx a s.bl∧0≤idx b s.bl then
  e=Ax (Ap Ag)∧Fr (s.wr g) w w'∧if b∈lnk s.E a then Cch w' g s else ∃A c,Cch w' g (s.link a ⟨lnk s.E a++[b],A,c⟩)∧ ∀q,(s.link a ⟨lnk s.E a++[b],A,c⟩).own g q→s.own g q∨w.heap.size≤q
 else e=Ax (Ap Ac)∧Fr (s.wr g) w w'∧Cch w' g s
theorem bM(l:List Ky)(k:Ky):(∃q,q<l.length∧Dy l q=k)↔k∈l:=by
 constructor;·rintro⟨q,hq,e⟩;rw[QG hq] at e;rw[←e];exact CE hq
 ·intro h;obtain⟨q,hq,e⟩:=GC h;exact⟨q,hq,by rw[QG hq];exact e⟩
theorem bN{w5 we W:Aa}{g:Nat}{s:Cs}(h:Cch w5 g s){a b:Ky}(ha:0≤idx a s.bl)(hb:0≤idx b s.bl)(hn:b∉lnk s.E a){st:As}(fe:Fr (· =s.gm) w5 we)(fW:Fr Aj we W)
 (E: ∀(w2:Aa) (l:Lr),Fr (λq=>q≠s.gm) we w2→ ∃w3,(Instr.entryStore 150 (.map (I s.gm)) st (Z l.A l.ks.length l.c)).run Tryz.prog w2=.ok () w3∧(∃bs clock,MapL Tryz.prog 122 kyv w3 s.gm ((Jx (s.base a) a l).map ent) bs clock)∧Fr (· =s.gm) w2 w3)
 {lA:Aw} {ln lc:Nat} (e1:(Bp s.E a).A=lA) (e2:(Bp s.E a).ks.length=ln) (e3:(Bp s.E a).c=lc) {v:As} {w6:Aa}
 (ho:w6.ownsRow 0 122 2 v (ln+1) (Ig (Bp s.E a).ks++[J V b.1,J V b.2])) (hg:W.grownBy w6 (Z lA ln lc).ownBlock) (hat:v.ownBlock=(Z lA ln lc).ownBlock∨v.ownBlock=I W.heap.size):
 ∃A2 c2,v=Z A2 (ln+1) c2∧ ∃w7,(Instr.entryStore 150 (.map (I s.gm)) st (Z A2 (ln+1) c2)).run Tryz.prog w6=.ok () w7∧
  Hid (∃A c,Cch w7 g (s.link a ⟨lnk s.E a++[b],A,c⟩)∧ ∀q,(s.link a ⟨lnk s.E a++[b],A,c⟩).own g q→s.own g q∨w5.heap.size≤q)∧Hid (Fr (s.wr g) w5 w7)∧ ∀q t cs,Blk w5 q t cs→q≠s.gm→ab lA≠I q→Blk w6 q t cs∧Blk w7 q t cs:=by
 obtain⟨A2,c2,rfl⟩:=slice_form ho
 have hown: ∀q,(Z lA ln lc).ownBlock=I q→ab lA=I q:=λq e=>by
  cases lA with
  |none=>simp[Cb] at e
  |some x=>simpa[Cb,ab] using e
 have hown2: ∀q,ab A2=I q→(Z A2 (ln+1) c2).ownBlock=I q:=λq e=>by
  cases A2 with
  |none=>cases e
  |some x=>simpa[Cb,ab] using e
 obtain⟨t1,t2,t3,t4,t5⟩:=h.srt
 have hlr:=ML h.rows a
 have hngm:ab lA≠I s.gm:=λe=>by
  rw[←e1] at e;have:=hlr.srt e;rw[t2] at this;simp at this
 have f6:Fr (λq=>ab lA=I q) we w6:=(fW.mono (λ_ _ e=>e.elim)).grown hg (λq e=> Af (hown q e))
 have hse:=fe.size
 have hsW:=fW.size
 obtain⟨bs,clock,hm5⟩:=h.m
 have hgl:=hm5.bound
 have hlr5: ∀q,ab lA=I q→q<w5.heap.size:=λq e=>hlr.low (by rw[e1];exact e)
 obtain⟨w7,hrun,hm7,f7⟩:=E w6 ⟨(Bp s.E a).ks++[b],A2,c2⟩ (f6.mono (λq _ e=>λe2=>hngm MP))
 have hlen:((Bp s.E a).ks++[b]).length=ln+1:=by rw[Cq,e2];rfl
 have hk6:LrOk w6 ⟨(Bp s.E a).ks++[b],A2,c2⟩:=LrOk.of_own (base:=0) (by
  show w6.ownsRow 0 _ 2 (Z A2 ((Bp s.E a).ks++[b]).length c2) ((Bp s.E a).ks++[b]).length (Ig ((Bp s.E a).ks++[b]));rw[hlen];have:Ig ((Bp s.E a).ks++[b])=Ig (Bp s.E a).ks++[J V b.1,J V b.2]:=by
   unfold Ig;rw[List.flatMap_append];rfl
  rw[this];exact ho)
 have hA2gm:ab A2≠I s.gm:=λe=>by
  have h0:=hown2 _ e;rcases hat with h1|h1;·rw[h0] at h1;exact hngm (hown _ h1.symm)
  ·rw[h0] at h1;injection h1 with h1;omega
 have hk7:=hk6.fr f7 (λq hq e=>hA2gm (by rw[←e];exact hq))
 have f57:Fr (λq=>q=s.gm∨ab (Bp s.E a).A=I q) w5 w7:=((fe.mono (λq _ e=> Af e)).tr (f6.mono (λq _ e=> Ah (by rw[e1];exact e)))).tr (f7.mono (λq _ e=> Af e))
 have hka:a∈s.bl.map Bk.k:=by
  by_cases e:a∈s.bl.map Bk.k;·exact e
  ·have:=(aU a s.bl).2 e;omega
 have hkb:b∈s.bl.map Bk.k:=by
  by_cases e:b∈s.bl.map Bk.k;·exact e
  ·have:=(aU b s.bl).2 e;omega
 have hnew: ∀q,ab A2=I q→ab (Bp s.E a).A=I q∨w5.heap.size≤q:=λq e=>by
  have h0:=hown2 _ e;rcases hat with h1|h1;·rw[h0] at h1;exact Af (by rw[e1];exact hown _ h1.symm)
  ·rw[h0] at h1;injection h1 with h1;right;omega
 have hwr: ∀q,(q=s.gm∨ab (Bp s.E a).A=I q)→s.wr g q:=λq e=>by
  rcases e with e|e;·exact Ah (Ah (Af e))
  ·by_cases hh:Ed s.E a=Ag;·obtain⟨p,hp,_,e2⟩:=OD hh;exact Ah (Ah (Ah ⟨p,hp,MP⟩))
   ·exact bL
 refine⟨A2,c2,rfl,w7,by rw[←hlen];exact hrun,T ⟨A2,c2, ?_, ?_⟩,T (f57.mono (λq _ e=>hwr q e)),λq t cs hq h1 h2=>?_⟩
 ·rw[MK];exact Cch.linkB (b:=b) h hka hkb (by rw[MK]) hn f57 hm7 hk7 hnew
 ·rintro q ((e|e|e|⟨p,hp,e⟩)|⟨x,hx,e⟩);·exact Mg
  ·exact Qe
  ·exact NA
  ·obtain⟨p',hp',rfl⟩:=BS.1 hp;by_cases ep:p'.1=a
   ·rw[An ep] at e;rcases hnew q e with h1|h1;·exact Af (Af (hwr q (Ah h1)))
    ·exact Ah h1
   ·rw[Ae ep] at e;rcases MO hp' with h1|h1;·exact Af (Af (Ah (Ah (Ah ⟨p',h1,e⟩))))
    ·rw[h1] at e;exact absurd e (by simp[eL,ab])
  ·exact Sf
 ·have b6:=(hq.fr fe h1).fr f6 h2;exact⟨b6,b6.fr f7 h1⟩
set_option maxRecDepth 100000 in
theorem link_any(w:Aa)(g:Nat)(s:Cs)(h:Cch w g s)(a b:Ky)(ha:a.Ok)(hb:b.Ok):At Tryz.prog 100 #[↑g,A9 #[J V a.1,J V a.2],A9 #[J V b.1,J V b.2]] w (Kl w g s a b):=by
 obtain⟨i0,hin,hz0,hz1,hz2⟩:=Cj info2;obtain⟨a0,a1⟩:=a;obtain⟨b0,b1⟩:=b;have hs1:(w.alloc (.cells #[J V a0,J V a1] 122)).heap.size=w.heap.size+1:=AC;have f1:=(Ao Aj w).alloc (.cells #[J V a0,J V a1] 122);have f2:=f1.alloc (.cells #[J V b0,J V b1] 122);have ba:Blk ((w.alloc (.cells #[J V a0,J V a1] 122)).alloc (.cells #[J V b0,J V b1] 122)) w.heap.size 122 #[J V a0,J V a1]:=(AI w _ _).alloc _;have bb:Blk ((w.alloc (.cells #[J V a0,J V a1] 122)).alloc (.cells #[J V b0,J V b1] 122)) (w.heap.size+1) 122 #[J V b0,J V b1]:=by
  have:=AI (w.alloc (.cells #[J V a0,J V a1] 122)) 122 #[J V b0,J V b1];rw[hs1] at this;exact this
 have h2:=h.fr0 f2;have Hp:Hid (At Tryz.prog 90 #[↑g,A9 #[J V a0,J V a1]] ((w.alloc (.cells #[J V a0,J V a1] 122)).alloc (.cells #[J V b0,J V b1] 122)) λe w'=>e=Ax (J U (idx (a0,a1) s.bl))∧Fr Aj ((w.alloc (.cells #[J V a0,J V a1] 122)).alloc (.cells #[J V b0,J V b1] 122)) w'):=T (place_any _ g s h2 (a0,a1));obtain⟨i,hi⟩:=A8 (idx (a0,a1) s.bl);obtain⟨j,hj⟩:=A8 (idx (b0,b1) s.bl);rw[hi] at Hp;have HI:=T hi;have HJ:=T hj;have H2:=T h2;have F2:=T f2;have BA:=T ba;have BB:=T bb;have HC:=T h;have HA:=T ha;have HB:=T hb;have hgl:=h.b.lt;clear h h2 f1 f2 ba bb hi hj ha hb;go_in;go_wp2_with fail;refine Az Hp ?_;rintro e w3 ⟨rfl,f3⟩;have F3:=T (F2.out.tr f3);have H3:=T (H2.out.fr0 f3);have BA3:=T (BA.out.fr f3 id);have BB3:=T (BB.out.fr f3 id);clear Hp f3;by_cases hni:i<0
 ·have hd:decide (i<0)=Ag:=by simpa using hni
  go_wp2
  go_ret;unfold Kl;rw[Ae (λe=>by have:=e.1;have:=HI.out;omega)];exact⟨rfl,F3.out.mono (λ_ _ e=>e.elim),H3.out⟩
 ·have hd:decide (i<0)=Ac:=by simpa using hni
  have v0:=BB3.out.cell 0;have v1:=BB3.out.cell 1;have Hq:Hid (At Tryz.prog 90 #[↑g,A9 #[J V b0,J V b1]] w3 λe w'=>e=Ax (J U (idx (b0,b1) s.bl))∧Fr Aj w3 w'):=T (place_any _ g s H3.out (b0,b1));rw[HJ.out] at Hq;have hgb:=BB3.out.lt;go_wp2_with fail;refine Az Hq ?_;rintro e w4 ⟨rfl,f4⟩;have F4:=T (F3.out.tr f4);have H4:=T (H3.out.fr0 f4);have BA4:=T (BA3.out.fr f4 id);have BB4:=T (BB3.out.fr f4 id);clear Hq f4 v0 v1;by_cases hnj:j<0
  ·have hd2:decide (j<0)=Ag:=by simpa using hnj
   go_wp2
   go_ret;unfold Kl;rw[Ae (λe=>by have:=e.2;have:=HJ.out;omega)];exact⟨rfl,F4.out.mono (λ_ _ e=>e.elim),H4.out⟩
  ·have hd2:decide (j<0)=Ac:=by simpa using hnj
   obtain⟨l0,hl⟩:=JT (a0,a1) HA.out;obtain⟨bs,clock,hm⟩:=H4.out.m;have hlk:(Instr.lookup 150 (.map (I s.gm)) (A9 #[J V a0,J V a1]) Ac).run Tryz.prog w4.drew=.ok (Z (Bp s.E (a0,a1)).A (Bp s.E (a0,a1)).ks.length (Bp s.E (a0,a1)).c) w4.drew:=by
    have:=(hm.fr ((Ao Aj _).drew) id).look IN IM Tryz.underlying150 (zK _) hl Ac;rw[lk_ent] at this;exact this
   have c2:=H4.out.cells.2.2.1;have x0:=BA4.out.cell 0;have x1:=BA4.out.cell 1;have y0:=BB4.out.cell 0;have y1:=BB4.out.cell 1;have hle:(Bp s.E (a0,a1)).ks.length≤1000000:=by have:=H4.out.ok.lrl (a0,a1);have:=H4.out.ok.len;have:=H4.out.ok.room;omega
   have Hct:Hid (At Tryz.prog 125 #[Z (Bp s.E (a0,a1)).A (Bp s.E (a0,a1)).ks.length (Bp s.E (a0,a1)).c,A9 #[J V b0,J V b1]] w4.drew λe w'=>e=Ax (Ap (decide (∃q,q<(Bp s.E (a0,a1)).ks.length∧Dy (Bp s.E (a0,a1)).ks q=(b0,b1))))∧Fr Aj w4.drew w'):=T (oQ _ _ _ _ O _ (b0,b1) ((ML H4.out.rows (a0,a1)).fr ((Ao Aj w4).drew) (λ_ _ e=>e)).at_);obtain⟨t,ht⟩: ∃t,decide (∃q,q<(Bp s.E (a0,a1)).ks.length∧Dy (Bp s.E (a0,a1)).ks q=(b0,b1))=t:=⟨_,rfl⟩;rw[ht] at Hct;have HT:=T ht;clear ht hm;obtain⟨lA,hlA⟩:=A8 ((Bp s.E (a0,a1)).A);obtain⟨ln,hln⟩:=A8 ((Bp s.E (a0,a1)).ks.length);obtain⟨lc,hlc⟩:=A8 ((Bp s.E (a0,a1)).c);rw[hlA,hln,hlc] at hlk Hct;have HlA:=T hlA;have Hln:=T hln;have Hlc:=T hlc;rw[hln] at hle;clear hlA hln hlc;go_upto_region 3 with(fail);go_still_tail 7,AL;change Cy _ _ _ _ _ w4.drew;go_wp2_with fail;refine Az Hct ?_;rintro e w5 ⟨rfl,f5⟩;have F5:=T ((F4.out.drew).tr f5);have H5:=T ((H4.out.fr0 ((Ao _ w4).drew)).fr0 f5);have BA5:=T ((BA4.out.drew).fr f5 id);have BB5:=T ((BB4.out.drew).fr f5 id);clear Hct f5 x0 x1 y0 y1 c2 hlk
   cases t
   ·have hnot:(b0,b1)∉lnk s.E (a0,a1):=by
     rw[MK,←bM];exact of_decide_eq_false HT.out
    have hgm0:s.gm<w.heap.size:=by obtain⟨_,_,hm0⟩:=HC.out.m;exact hm0.bound
    have hlA0: ∀q,ab lA=I q→q<w.heap.size:=λq e=>(ML HC.out.rows (a0,a1)).low (by rw[HlA.out];exact e);have hggm:g≠s.gm:=λe=>by have t:=HC.out.srt;have:=t.1;rw[e,t.2.1] at this;simp at this
    have hglA:ab lA≠I g:=λe=>by have t:=HC.out.srt;have:=(ML HC.out.rows (a0,a1)).srt (by rw[HlA.out];exact e);rw[t.1] at this;simp at this
    have fX:=((Ao Aj w5).alloc (.cells #[J V b0,J V b1] 122)).drew;obtain⟨we1,st1,hme1,fe1,E1⟩:=bK w5.drew g s (H5.out.fr0 ((Ao _ w5).drew)) (a0,a1) HA.out;obtain⟨we2,st2,hme2,fe2,E2⟩:=bK _ g s (H5.out.fr0 fX) (a0,a1) HA.out;rw[HlA.out,Hln.out,Hlc.out] at hme1 hme2;have fe1':Fr (· =s.gm) w5 we1:=((Ao _ w5).drew).tr fe1;have fe2':Fr (· =s.gm) w5 we2:=(fX.mono (λ_ _ e=>e.elim)).tr fe2;have hs5:=F5.out.size;have hi2:0≤idx (a0,a1) s.bl:=Sh;have hj2:0≤idx (b0,b1) s.bl:=Si;have APA:=T (λ(v:As) (w6:Aa)=>bN (v:=v) (w6:=w6) H5.out hi2 hj2 hnot fe1' ((Ao Aj we1).alloc (.cells #[J V b0,J V b1] 122)) E1 HlA.out Hln.out Hlc.out);have APB:=T (λ(v:As) (w6:Aa)=>bN (v:=v) (w6:=w6) H5.out hi2 hj2 hnot fe2' (Ao Aj we2) E2 HlA.out Hln.out Hlc.out);have hlr5:=ML H5.out.rows (a0,a1);have hl1:LrOk we1 (Bp s.E (a0,a1)):=hlr5.fr fe1' (λq hq e=>bO);have hl2:LrOk we2 (Bp s.E (a0,a1)):=hlr5.fr fe2' (λq hq e=>bO);have OWA:Hid ((we1.alloc (.cells #[J V b0,J V b1] 122)).ownsRow 0 122 2 (Z lA ln lc) ln (Ig (Bp s.E (a0,a1)).ks)):=T (by
     have:=(hl1.own).alloc (.cells #[J V b0,J V b1] 122);rw[HlA.out,Hln.out,Hlc.out] at this;exact this)
    have OWB:Hid (we2.ownsRow 0 122 2 (Z lA ln lc) ln (Ig (Bp s.E (a0,a1)).ks)):=T (by
     have:=hl2.own;rw[HlA.out,Hln.out,Hlc.out] at this;exact this)
    have RDA:Hid (Reads (we1.alloc (.cells #[J V b0,J V b1] 122)) (we1.heap.size+1) 2 (I ⟨we1.heap.size,0,G⟩) 1 [J V b0,J V b1]):=T (Do (size:=2) (n:=1) (AI we1 122 #[J V b0,J V b1]) rfl);have bX2:Blk we2 w5.heap.size 122 #[J V b0,J V b1]:=((AI w5 122 #[J V b0,J V b1]).drew).fr fe2 (λe=>O);have RDB:Hid (Reads we2 (w5.heap.size+1) 2 (I ⟨w5.heap.size,0,G⟩) 1 [J V b0,J V b1]):=T (Do (size:=2) (n:=1) bX2 rfl);have hb2:w5.heap.size+1≤we2.heap.size:=bX2.lt;have hga:w.heap.size≠s.gm:=O;have hgb:w.heap.size+1≠s.gm:=O;have hla:ab lA≠I w.heap.size:=λe=>by have:=hlA0 _ e;omega
    have hlb:ab lA≠I (w.heap.size+1):=λe=>by have:=hlA0 _ e;omega
    have BG:=T H5.out.b;have bg1:=H5.out.b.fr fe1' (λe=>hggm e);have ba1:=BA5.out.fr fe1' (λe=>hga e);have bb1:=BB5.out.fr fe1' (λe=>hgb e);have bg2:=H5.out.b.fr fe2' (λe=>hggm e);have ba2:=BA5.out.fr fe2' (λe=>hga e);have bb2:=BB5.out.fr fe2' (λe=>hgb e);have KK: ∀W,Blk W g 152 (IP s)→Blk W w.heap.size 122 #[J V a0,J V a1]→Blk W (w.heap.size+1) 122 #[J V b0,J V b1]→
     W.cell? ⟨g,2,G⟩=I (.map (I s.gm))∧W.cell? ⟨w.heap.size,0,G⟩=I (J V a0)∧W.cell? ⟨w.heap.size,1,G⟩=I (J V a1)∧W.cell? ⟨w.heap.size+1,0,G⟩=I (J V b0)∧W.cell? ⟨w.heap.size+1,1,G⟩=I (J V b1):=λW h1 h2 h3=>⟨h1.cell 2,h2.cell 0,h2.cell 1,h3.cell 0,h3.cell 1⟩
    have K0:=KK w5 BG.out BA5.out BB5.out;have K1:=KK we1 bg1 ba1 bb1;have K2:=KK _ (BG.out.alloc (.cells #[J V b0,J V b1] 122)) (BA5.out.alloc (.cells #[J V b0,J V b1] 122)) (BB5.out.alloc (.cells #[J V b0,J V b1] 122));have K3:=KK _ (bg1.alloc (.cells #[J V b0,J V b1] 122)) (ba1.alloc (.cells #[J V b0,J V b1] 122)) (bb1.alloc (.cells #[J V b0,J V b1] 122));have K4:=KK we2 bg2 ba2 bb2;have KH:=T KK;have hme1':(Instr.mapEntry 150 (.map (I s.gm)) (A9 #[J V a0,J V a1])).run Tryz.prog w5.drew=.ok (AF #[Z lA ln lc,st1]) we1:=hme1;have hme2':(Instr.mapEntry 150 (.map (I s.gm)) (A9 #[J V a0,J V a1])).run Tryz.prog (w5.alloc (.cells #[J V b0,J V b1] 122)).drew=.ok (AF #[Z lA ln lc,st2]) we2:=hme2;clear hme1 hme2 E1 E2 fe1 fe2 fe1' fe2' fX hlr5 hl1 hl2 bX2 bg1 ba1 bb1 bg2 ba2 bb2 KK;go_upto_region 4 with(fail)
    go_region_held_law (λW=>W.cell? ⟨g,2,G⟩=I (.map (I s.gm))∧W.cell? ⟨w.heap.size,0,G⟩=I (J V a0)∧W.cell? ⟨w.heap.size,1,G⟩=I (J V a1)∧W.cell? ⟨w.heap.size+1,0,G⟩=I (J V b0)∧W.cell? ⟨w.heap.size+1,1,G⟩=I (J V b1)) (first|exact K0|exact K1|exact K2|exact K3|exact K4|exact K5|exact K6)
     (first
      |(refine IC _ rfl (.tmp 31) (.tmp 33) 182 rfl 0 122 i0 _ 2 8 Tryz.underlying182 hin hz0 hz1 hz2 rfl O (Z lA ln lc) ln _ BC OWA.out (we1.heap.size+1) (I ⟨we1.heap.size,0,G⟩) 1 1 [J V b0,J V b1] BC RDA.out Ei Cc O (Bj _) ?_;intro v1 w6 hown1 hg1 hat1;obtain⟨A2,c2,rfl,w7,hst,hc7,f7,kb⟩:=APA.out v1 w6 hown1 hg1 hat1;have K5:=KH.out w6 (kb _ _ _ BG.out hggm hglA).1 (kb _ _ _ BA5.out hga hla).1 (kb _ _ _ BB5.out hgb hlb).1;have K6:=KH.out w7 (kb _ _ _ BG.out hggm hglA).2 (kb _ _ _ BA5.out hga hla).2 (kb _ _ _ BB5.out hgb hlb).2;clear hown1 hg1 hat1 kb)
      |(refine IC _ rfl (.tmp 31) (.tmp 33) 182 rfl 0 122 i0 _ 2 8 Tryz.underlying182 hin hz0 hz1 hz2 rfl O (Z lA ln lc) ln _ BC OWB.out (w5.heap.size+1) (I ⟨w5.heap.size,0,G⟩) 1 1 [J V b0,J V b1] BC RDB.out Ei Cc O (Bj _) ?_;intro v1 w6 hown1 hg1 hat1;obtain⟨A2,c2,rfl,w7,hst,hc7,f7,kb⟩:=APB.out v1 w6 hown1 hg1 hat1;have K5:=KH.out w6 (kb _ _ _ BG.out hggm hglA).1 (kb _ _ _ BA5.out hga hla).1 (kb _ _ _ BB5.out hgb hlb).1;have K6:=KH.out w7 (kb _ _ _ BG.out hggm hglA).2 (kb _ _ _ BA5.out hga hla).2 (kb _ _ _ BB5.out hgb hlb).2;clear hown1 hg1 hat1 kb))
    all_goals
     have HNM:=T hnot;clear hnot K0 K1 K2 K3 K4 K5
     go_wp2
     go_ret;unfold Kl;rw[An ⟨Sh,Si⟩,Ae HNM.out];obtain⟨A,c,g1,g2⟩:=hc7.out;exact⟨rfl,(F5.out.mono (λ_ _ e=>e.elim)).tr f7.out,A,c,g1,λq hq=>(g2 q hq).imp id (λe=>O)⟩
   ·go_wp2
    go_ret;have hmem:=(bM _ _).1 (of_decide_eq_true HT.out);rw[←MK] at hmem;unfold Kl;rw[An ⟨Sh,Si⟩,An hmem];exact⟨rfl,F5.out.mono (λ_ _ e=>e.elim),H5.out⟩
end Ca
namespace Ca
open Mz Go.Maps
def Jy(l:List Int)(x:Int)(n:Nat):Int:=match l.findIdx? (· ==x) with
 |some k=>(k:Int)
 |none=> -1
theorem oU(w:Aa)(B n c:Nat)(A:Aw)(zs:List Int)(x:Int)(h:IntsAt U w B A n zs)(hm:n≤BQ):At Tryz.prog 87 #[Z A n c,J U x] w λe w'=>e=Ax (J U (Jy zs x n))∧w=w':=by
 unfold BQ at hm;have hlen:=T h.1;go_in;go_wp2_with fail
 go_loop [8] (λi=> ∃k:Nat,k≤n∧i=J U k∧(Hid (∀j,j<k→zs.getD j 0≠x))) (λi=>n -(AM i).toNat)
 case atStart=>exact⟨0,O,rfl,λj hj=>O⟩
 case round=>
  obtain⟨k,hk,rfl,hno⟩:=hrel;by_cases hlt:k<n
  ·obtain⟨b,off,rfl,hb,hc⟩:=h.at_ hlt;by_cases hx:zs.getD k 0=x
   ·have e1:Jy zs x n=k:=by
     have hl:=hlen.out;have:zs.findIdx? (· ==x)=I k:=by
      rw[List.findIdx?_eq_some_iff_getElem];refine⟨O,by simpa[show k<zs.length by omega] using hx,λj hj=>?_⟩;have:=hno.out j hj;simpa[show j<zs.length by omega] using this
     simp[Jy,this]
    have E1:=T e1;rw[hx] at hc;clear e1 hx;exact bP
   ·have hx':(x==zs.getD k 0)=Ac:=by
     simp only[beq_eq_false_iff_ne];exact λe=>hx e.symm
    have hno2:Hid (∀j,j<k+1→zs.getD j 0≠x):=λj hj=>by
     by_cases e:j=k;·rw[e];exact hx
     ·exact hno.out j O
    clear hx;generalize zs.getD k 0=z at*;go_wp2_with fail
    go_round
    case rel=>exact⟨k+1,O,Bn,hno2⟩
    case measure=>simp[AM];omega
  ·have e:k=n:=O;subst e;have e1:Jy zs x k= -1:=by
    have:zs.findIdx? (· ==x)=G:=by
     rw[List.findIdx?_eq_none_iff];intro y hy;obtain⟨j,hj,rfl⟩:=GC hy;have hl:=hlen.out;have:=hno.out j O;simpa[hj] using this
    simp[Jy,this]
   have E1:=T e1;clear e1;exact bP
def hasI(l:List Int)(x:Int):Bool:=l.any (· ==x)
theorem has_ix(l:List Int)(x:Int)(n:Nat):decide (0≤Jy l x n)=hasI l x:=by
 unfold Jy hasI
 cases h:l.findIdx? (· ==x) with
 |none=>
  rw[List.findIdx?_eq_none_iff] at h;have:l.any (· ==x)=Ac:=by
   rw[List.any_eq_false];intro y hy;simpa using h y hy
  rw[this];rfl
 |some k=>
  have hk:=List.findIdx?_eq_some_iff_getElem.1 h;obtain⟨hl,hp,_⟩:=hk;have:l.any (· ==x)=Ag:=List.any_eq_true.2 ⟨_,CE hl,hp⟩;rw[this];simp
theorem contains_any(w:Aa)(B n c:Nat)(A:Aw)(zs:List Int)(x:Int)(h:IntsAt U w B A n zs)(hm:n≤BQ):At Tryz.prog 71 #[Z A n c,J U x] w λe w'=>e=Ax (Ap (hasI zs x))∧w=w':=by
 have hi:=T (oU w B n c A zs x h hm);have hh:=has_ix zs x n;generalize Jy zs x n=q at*;rw[←hh];clear hh h;go_in;go_wp2_with fail;refine Az hi ?_;exact LJ
def gone(ps:List Int)(b:Bk):Bool:=hasI ps (b.pl/64)
def Cs.drop1(s:Cs)(ps:List Int)(b:Bk):Cs:=if gone ps b then s.unlink b.k else s
def cnt1(n:Nat)(ps:List Int)(b:Bk):Nat:=if gone ps b then n+1 else n
def D1P(W:Aa)(g gn:Nat)(s:Cs)(k:Ky)(cnt:Nat)(t:Bool)(e:AY)(w':Aa):Prop:=
 e=Ax (Ap t)∧LK w' g (if t then s.unlink k else s)∧Blk w' gn 3 #[J U ((if t then cnt+1 else cnt:Nat):Int)]∧Fr (λq=>q=gn∨q=s.gm∨ ∃p∈s.E,ab p.2.A=I q) W w'
def Sj(W:Aa)(g gn:Nat)(s:Cs)(b:Bk)(ps:List Int)(cnt:Nat)(e:AY)(w':Aa):Prop:=
 e=Ax (Ap (gone ps b))∧LK w' g (s.drop1 ps b)∧Blk w' gn 3 #[J U (cnt1 cnt ps b:Nat)]∧Fr (λq=>q=gn∨q=s.gm∨ ∃p∈s.E,ab p.2.A=I q) W w'
set_option maxRecDepth 100000 in
theorem oV(W:Aa)(g gp gc gn base:Nat)(s:Cs)(h:LK W g s)(b:Bk)(hb:b.k.Ok)(hpl:0≤b.pl∧b.pl<4294967296)(ps:List Int)(B np pc:Nat)(pA:Aw)(hp:IntsAt U W B pA np ps)(hm:np≤BQ)(hB:B≤↑W)(cnt:Nat)(hc:cnt≤1000000)(bp:Blk W gp 85 #[Z pA np pc])(bc:Blk W gc 119 #[↑g])(bn:Blk W gn 3 #[J U cnt])(hg:g<base)(hgm:s.gm<base)(hrl: ∀p∈s.E,∀q,ab p.2.A=I q→q<base)(hgn:base≤gn)(hgc:base≤gc)(hcn:gc≠gn):At Tryz.prog 70 #[A9 #[J V b.pc,J V b.pl,Z b.A b.code.length b.c,J U b.ct],↑gp,↑gc,↑gn] W (Sj W g gn s b ps cnt):=by
 have p0:=bp.cell 0;have q0:=bp.lt;have fa:=(Ao Aj W).alloc (.cells #[J V b.pc,J V b.pl,Z b.A b.code.length b.c,J U b.ct] 149);have h1:=h.fr fa id id (λ_ _ _ _ e=>e);have bc1:=bc.fr fa id;have bn1:=bn.fr fa id;have Hc:Hid (At Tryz.prog 71 #[Z pA np pc,J U (b.pl/64)] (W.alloc (.cells #[J V b.pc,J V b.pl,Z b.A b.code.length b.c,J U b.ct] 149)) λe w'=>e=Ax (Ap (gone ps b))∧(W.alloc (.cells #[J V b.pc,J V b.pl,Z b.A b.code.length b.c,J U b.ct] 149))=w'):=T (by
  exact contains_any _ B np pc pA ps (b.pl/64) (hp.fr fa hB (λ_ _ e=>e)) hm)
 have Hu:Hid (At Tryz.prog 72 #[↑g,A9 #[J V b.pc,J V b.pl]] (W.alloc (.cells #[J V b.pc,J V b.pl,Z b.A b.code.length b.c,J U b.ct] 149)) λe w'=>e=Ax (AF #[])∧LK w' g (s.unlink b.k)∧Fr (λq=>q=s.gm∨ ∃p∈s.E,ab p.2.A=I q) (W.alloc (.cells #[J V b.pc,J V b.pl,Z b.A b.code.length b.c,J U b.ct] 149)) w'):=T (aO _ g s h1 b.k hb);have c0:=bc1.cell 0;have FA:=T fa;have H1:=T h1;have BN1:=T bn1;have hgcl:=bc.lt;have hgnl:=bn.lt;obtain⟨t,ht⟩:=A8 (gone ps b);rw[ht] at Hc;have HT:=T ht;have hdr:Sj W g gn s b ps cnt=D1P W g gn s b.k cnt t:=by
  unfold Sj D1P Cs.drop1 cnt1;rw[ht]
 rw[hdr];clear h h1 bc bn bp hp fa bc1 bn1 ht hdr hb;obtain⟨bk,hbk⟩: ∃k,b.k=k:=⟨_,rfl⟩;rw[hbk] at Hu;rw[hbk];clear hbk;generalize b.pc=x0 at*;generalize b.pl=x1 at*;generalize b.A=x2 at*;generalize b.code.length=x3 at*;generalize b.c=x4 at*;generalize b.ct=x5 at*;go_in;go_wp2_with fail;refine Az Hc ?_;rintro e w2 ⟨rfl,rfl⟩
 cases t
 ·go_wp2
  go_ret;exact⟨rfl,H1.out,BN1.out,FA.out.mono (λ_ _ e=>e.elim)⟩
 ·go_wp2_with fail;refine Az Hu ?_;rintro e w3 ⟨rfl,h3,f3⟩;have hno: ∀q,base≤q→ ¬(q=s.gm∨ ∃p∈s.E,ab p.2.A=I q):=λq hq e=>by
   rcases e with e|⟨p,hp,e⟩;·omega
   ·have:=hrl p hp q e;omega
  have bn3:=BN1.out.fr f3 (hno gn hgn);have n0:=bn3.cell 0;have z0:=bn3.frozen 0;have hl3:=bn3.lt;have BN3:=T bn3;have H3:=T h3;have F3:=T f3;have HRL:=T hrl;clear h3 f3 bn3 hno hrl Hu Hc
  go_wp2
  go_ret;have f4:Fr (· =gn) w3 (w3.setCell ⟨gn,0,G⟩ (J U ((cnt:Int)+1))):=Br _ _ _ _;refine⟨rfl,H3.out.fr f4 (λe=>by have e:g=gn:=e;omega) (λe=>by have e:s.gm=gn:=e;omega) (λp hp q hq e=>?_), ?_, ?_⟩;·have e:q=gn:=e;obtain⟨p',hp',rfl⟩:=BS.1 hp;have:=HRL.out p' (DF.1 hp').1 q hq;omega
  ·have:=BN3.out.set_ 0 (J U ((cnt:Int)+1));exact this
  ·exact((FA.out.mono (λ_ _ e=>e.elim)).tr (F3.out.mono (λq _ e=> Ah e))).tr (f4.mono (λq _ e=> Af e))
end Ca
end Go.Proofs.YtdfegdoeebaagaaGreatDoor
