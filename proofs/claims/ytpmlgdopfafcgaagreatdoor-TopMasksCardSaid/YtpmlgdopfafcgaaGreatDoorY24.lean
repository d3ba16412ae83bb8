import Derived.Test.YtpmlgdopfafcgaaGreatDoorY6
open Go.Value renaming int→J,slice→U,bool→Ap,tuple→AD,ownBlock→Bp,agg→AA,pointer→Bi
open Option renaming some→I,none→G
open Go.IntKind renaming i64→Z,u32→V,u64→AM,u8→AC,wrap_u64→Dk,wrap_u32→DH
open Bool renaming false→Aa,true→Af,false_ne_true→Da,false_and→D7
open Go renaming World→Ac,Value→As,Calls→At,bodyPost_ret→Bf,TypeId→AK,wp_region_held_drew→BY,info_parts→BH,Ending→AT,madeCells→Cb,maxLen→Br,Program→BW,undef→Bt,wpList→BL,bits→Bb,run_underlying→CX
open List renaming getD_eq_getElem?_getD→AN,getElem?_eq_getElem→Bj,length_append→BJ,append_assoc→BM,mem_map→Bo,getElem?_take_of_lt→Cw,replicate→BK,range→Bm,getElem?_append_right→CB,getElem_mem→BU,mem_append→BZ,getElem?_append_left→CO,getElem?_map→C7,cons_append→CC,mem_filter→C8,length_pos_iff→CP,length_cons→CK,mem_cons→Cy,getLastD_eq_getLast?→Dg,nil_append→CI,getElem?_eq_none→De,dropLast_concat→Do,mem_singleton→Dv,map_append→Df,length_map→Di,getElem_of_mem→DD,length_nil→Dp,concat_eq_append→DI,getElem?_range→DL,range_succ→DB,getElem?_replicate→DW,singleton_append→DV,map_cons→D6,map_map→D8,setIfInBounds_toArray→Eb
open Go.Ending renaming returned→Ax
open And renaming intro→A9
open Nat renaming le_refl→AE,lt_of_lt_of_le→AW,le_trans→AS,zero_le→AU,zero_add→Bn,eq_zero_or_pos→Dm,reduceEqDiff→Dq
open Or renaming inl→Ag,inr→Ah
open Go.Proofs.Tryz renaming underlying41→AP,underlying31→CF,underlying22→CV,underlying215→Dl,underlying26→DN
open Go.RowKit renaming intOf→AJ
open Int renaming eq_ofNat_of_zero_le→CM,toNat_natCast→C4,emod_eq_of_lt→CZ
open Go.Builtin renaming zeroCells→CG,delete_→Eh
open Array renaming getElem?_toList→CN,getElem?_eq_some_iff→DX
open Go.Region renaming wanted→CA
open Go.Result renaming andThen→CT
open Option.some renaming inj→Ds
open Go.MapKept renaming run_getObj_map→DJ,run_setObj_map→Ef
open Go.Instr renaming makeSlice→Dj,mapUpdate→DK
open Go.IntWalk renaming i64_in→Du
open Go.Lit renaming int→C9
open Go.Sem renaming run_bind→D5
set_option linter.all false
set_option maxHeartbeats 40000000
set_option maxRecDepth 1000000
open Go Go.RowKit
namespace Go.Proofs.YtpmlgdopfafcgaaGreatDoor
namespace Ca
open Mz Go.Maps
def dE:Ky×Lr:=((0,0),⟨[],G,0⟩)
def away(E:List (Ky×Lr))(k:Ky):List (Ky×Lr):=E.filter (λp=> !decide (p.1=k))
def Cs.unlink(s:Cs)(k:Ky):Cs:={s with E:=(away s.E k).map (λp=>(p.1,strip k p.2))}
theorem del_ent(E:List (Ky×Lr))(k:Ky):del (E.map ent) k=(away E k).map ent:=by
 unfold del away;rw[List.filter_map];rfl
def one(E:List (Ky×Lr))(bs:List Nat)(k:Ky)(seen:Array Nat)(j:Nat):Ky×Lr:=if bs.getD j 0∈seen then((E.getD j dE).1,strip k (E.getD j dE).2) else E.getD j dE
def cur(E:List (Ky×Lr))(bs:List Nat)(k:Ky)(seen:Array Nat):List (Ky×Lr):=(Bm E.length).map (one E bs k seen)
theorem one_key(E:List (Ky×Lr))(bs:List Nat)(k:Ky)(seen:Array Nat)(j:Nat):(one E bs k seen j).1=(E.getD j dE).1:=by
 unfold one;split<;>rfl
theorem cur_len(E:List (Ky×Lr))(bs:List Nat)(k:Ky)(seen:Array Nat):(cur E bs k seen).length=E.length:=by simp[cur]
theorem cur_0(E:List (Ky×Lr))(bs:List Nat)(k:Ky):cur E bs k #[]=E:=by
 apply List.ext_getElem;·simp[cur]
 ·intro i h1 h2;simp[cur,one,h2]
variable{bs:List Nat}{k:Ky}{seen:Array Nat}
theorem cur_all{E:List (Ky×Lr)}(hl:bs.length=E.length)(h: ∀b∈bs,b∈seen):cur E bs k seen=E.map (λp=>(p.1,strip k p.2)):=by
 apply List.ext_getElem;·simp[cur]
 ·intro i h1 h2;have hi:i<E.length:=Gd;have hb:i<bs.length:=O;have:bs.getD i 0∈seen:=h _ (by simp[AN,hb]);simp only[cur,List.getElem_map,List.getElem_range,one,An this];exact Kp
variable{i:Nat}
theorem cur_at{E:List (Ky×Lr)}(hi:i<E.length)(hb:i<bs.length)(hs:bs[i]∉seen):(cur E bs k seen)[i]'(by rw[cur_len];exact hi)=E[i]:=by
 have:bs.getD i 0∉seen:=by simpa[AN,hb] using hs
 simp only[cur,List.getElem_map,List.getElem_range,one,Ae this];exact Kp
theorem cur_rep{E:List (Ky×Lr)}(hi:i<E.length)(hl:bs.length=E.length)(hn:bs.Nodup)(hk:(E.map (·.1)).Nodup)(v:As)(hv:v=U (strip k E[i].2).A (strip k E[i].2).ks.length (strip k E[i].2).c):rep ((cur E bs k seen).map ent) E[i].1 v=(cur E bs k (seen.push (bs[i]'(by omega)))).map ent:=by
 apply List.ext_getElem;·simp[rep,cur]
 ·intro j h1 h2;have hj:j<E.length:=by simpa[cur] using h2
  have hjb:j<bs.length:=O;simp only[rep,cur,List.getElem_map,List.getElem_range];have hkey:(ent (one E bs k seen j)).1=E[j].1:=by
   show(one E bs k seen j).1=_;rw[one_key];simp[AN,hj]
  by_cases e:j=i
  ·subst e;rw[An hkey];have hin:=Ru;unfold one at hkey⊢;rw[An hin];refine Prod.ext ?_ ?_;·rw[hkey];simp[ent,AN,hj]
   ·rw[hv];simp[ent,AN,hj]
  ·have hne:E[j].1≠E[i].1:=λe2=>by
    have:=(List.getElem_inj (xs:=E.map (·.1)) (i:=j) (j:=i) (h₀:=by simpa using hj) (h₁:=Ez) hk).1 Il;exact e this
   rw[Ae (by rw[hkey];exact hne)];exact Rv
def leftN(bs:List Nat)(seen:Array Nat):Nat:=(bs.filter (λb=> !decide (b∈seen))).length
theorem leftN_lt{b:Nat}(hb:b∈bs)(hs:b∉seen):leftN bs (seen.push b)<leftN bs seen:=by
 unfold leftN;have hsub: ∀l:List Nat,(l.filter (λx=> !decide (x∈seen.push b))).length≤(l.filter (λx=> !decide (x∈seen))).length:=by
  intro l
  induction l with
  |nil=>simp
  |cons x l ih=>
   simp only[List.filter_cons];by_cases h1:x∈seen
   ·have h2:x∈seen.push b:=by simp[h1]
    simp[h1,h2];simpa using ih
   ·by_cases h2:x∈seen.push b;·simp[h1,h2];have:=ih;simp at this;omega
    ·simp[h1,h2];simpa using ih
 induction bs with
 |nil=>simp at hb
 |cons x l ih=>
  simp only[List.filter_cons];by_cases e:x=b;·subst e;have h2:x∈seen.push x:=AB;have:=hsub l;simp[hs];simp at this;omega
  ·have hb':b∈l:=by
    rcases Cy.1 hb with h|h;·exact absurd h.symm e
    ·exact h
   have:=ih hb';have hiff:x∈seen.push b↔x∈seen:=by
    rw[Array.mem_push];exact⟨λh=>h.elim id (λh=>absurd h e),Ag⟩
   by_cases h1:x∈seen;·simp[h1,hiff.2 h1];simpa using this
   ·have h2:x∉seen.push b:=λh=>h1 (hiff.1 h);simp[h1,h2];simpa using this
def leftW(bs:List Nat)(gi:Nat)(w:Ac):Nat:=
 match w.heap[gi]? with
 |some (.mapIter _ _ seen _)=>leftN bs seen
 |_=>0
variable{w:Ac}{c:Nat}
theorem leftW_at{gi:Nat}{m:Option Nat}{a:Nat}(h:w.heap[gi]?=I (.mapIter m a seen c)):leftW bs gi w=leftN bs seen:=by
 unfold leftW;rw[h]
theorem V0{E:List (Ky×Lr)}(k:Ky)(h:(E.map (·.1)).Nodup):((away E k).map (·.1)).Nodup:=h.sublist ((List.filter_sublist).map _)
theorem one_A(E:List (Ky×Lr))(bs:List Nat)(k:Ky)(seen:Array Nat)(j:Nat):(one E bs k seen j).2.A=(E.getD j dE).2.A:=by
 unfold one;split<;>rfl
theorem cur_mem{E:List (Ky×Lr)}{p:Ky×Lr}(h:p∈cur E bs k seen): ∃j,∃hj:j<E.length,p=one E bs k seen j∧p.2.A=E[j].2.A∧(p.2.ks=E[j].2.ks∨p.2.ks=(strip k E[j].2).ks):=by
 obtain⟨j,hj,rfl⟩:=Bo.1 h;have hj:=List.mem_range.1 hj;have e:=Rx;refine⟨j,hj,rfl,by rw[one_A,e], ?_⟩;unfold one;split;·right;rw[e]
 ·left;rw[e]
theorem one_push{E:List (Ky×Lr)}(hi:i<E.length)(hl:bs.length=E.length)(hn:bs.Nodup)(j:Nat)(hj:j<E.length):one E bs k (seen.push (bs[i]'(by omega))) j=if j=i then(E[i].1,strip k E[i].2) else one E bs k seen j:=by
 by_cases e:j=i;·subst e;have hjb:j<bs.length:=O;have hin:=Ru;rw[An rfl];unfold one;rw[An hin];simp[AN,hj]
 ·rw[Ae e];have hjb:j<bs.length:=O;exact Rv
variable{w':Ac}
theorem V1{E:List (Ky×Lr)}(hi:i<E.length)(hl:bs.length=E.length)(hn:bs.Nodup)(sep:E.Pairwise (λp q=> ∀k,ab p.2.A=I k→ab q.2.A≠I k))(h: ∀p∈cur E bs k seen,LrOk w p.2)(f:Fr (λq=>ab E[i].2.A=I q) w w')(hs:LrOk w' (strip k E[i].2)): ∀p∈cur E bs k (seen.push (bs[i]'(by omega))),LrOk w' p.2:=by
 intro p hp;obtain⟨j,hj,rfl⟩:=Bo.1 hp;have hj:=List.mem_range.1 hj;rw[one_push hi hl hn j hj];by_cases e:j=i;·rw[An e];exact hs
 ·rw[Ae e];have hm:one E bs k seen j∈cur E bs k seen:=Bo.2 ⟨j,List.mem_range.2 hj,rfl⟩;refine(h _ hm).fr f (λq hq hq2=>?_);rw[one_A] at hq;have hd:=Rx;rw[hd] at hq;rw[List.pairwise_iff_getElem] at sep;rcases Nat.lt_or_gt_of_ne e with h1|h1;·exact sep j i hj hi h1 q hq hq2
  ·exact sep i j hi hj h1 q hq2 hq
variable{g:Nat}
theorem LrOk.notMap{l:Lr}(h:LrOk w l){es:Array MapEntry}(hb:w.heap[g]?=I (.map es c)):ab l.A≠I g:=λe=>by
 rcases h with⟨_,h2,_⟩|⟨gk,e2,⟨F,h1,_⟩,_⟩;·rw[h2] at e;cases e
 ·rw[e2] at e;have:gk=g:=Gp;subst this;obtain⟨cs,hc,_⟩:=h1;unfold Blk at hc;rw[hb] at hc;simp at hc
variable{q:Nat}
theorem LrOk.low{l:Lr}(h:LrOk w l)(e:ab l.A=I q):q<↑w:=by
 rcases h with⟨_,h2,_⟩|⟨gk,e2,⟨F,h1,_⟩,_⟩;·rw[h2] at e;cases e
 ·rw[e2] at e;have:gk=q:=Gp;subst this;exact h1.lt
theorem Ry{P:BW}{ops:Array Oper}{o:Oper}{a:Act}{K:Act→Ac→Prop}{Q:Exit→Act→Ac→Prop}{E:Prop}(hg:o.guard=G)(m k:Operand)(t kt:AK)(hop:o.op=Op.call {callee:=Callee.builtin Builtin.delete,args:=#[m,k],argTypes:=#[t,kt]})(hrun: ∀ty,(Eh #[t,kt] ty #[a.eval m,a.eval k]).run P w=.ok (AD #[]) w')(hK:K (a.put o.dst (AD #[])) w'):if CA o (yielded ops a.tmps)=Af then Oper.wp P o a w K Q else E:=by
 have hw:=GW;rw[An hw];unfold Oper.wp;simp[execOp,hop,resolve,invoke,builtin,hrun,CT];exact hK
def UR(w:Ac)(g gi gm clock:Nat)(E:List (Ky×Lr))(bs:List Nat)(k:Ky)(S:AG)(seen:Array Nat)(wr:Ac):Prop:=
 MapL Tryz.prog 103 kyv wr gm ((cur E bs k seen).map ent) bs clock∧wr.heap[gi]?=I (.mapIter (I gm) clock seen clock)∧(∀p∈cur E bs k seen,LrOk wr p.2)∧Blk wr ↑w 103 #[J V k.1,J V k.2]∧wr.cell? ⟨g,2,G⟩=I (.map (I gm))∧Fr S w wr
theorem ur_step{wr w4:Ac}{gi gm clock:Nat}{E:List (Ky×Lr)}{S:AG}(h:UR w g gi gm clock E bs k S seen wr)(hi:i<E.length)(hl:bs.length=E.length)(hn:bs.Nodup)(hk:(E.map (·.1)).Nodup)(sep:E.Pairwise (λp q=> ∀k,ab p.2.A=I k→ab q.2.A≠I k))
 (hns:(bs[i]' O)∉seen) (f4:Fr (· =gi) wr w4) (hi4:w4.heap[gi]?=I (.mapIter (I gm) clock (seen.push (bs[i]' O)) clock)) (hgi:↑w<gi) (hg:g<↑w) (hgm:g≠gm) (hlow: ∀p∈E,∀q,ab p.2.A=I q→q<w.heap.size) (hgr: ∀p∈E,ab p.2.A≠I g) (hngm: ∀p∈E,ab p.2.A≠I gm) (hgmb:gm<↑w)
 (hS: ∀q,(q=gm∨ ∃p∈E,ab p.2.A=I q)→S q) (hkey:E[i].1.Ok) {p:Ky×Lr} (hp:E[i]=p):
 LrOk (w4.alloc (.cells #[J V p.1.1,J V p.1.2] 103)).drew p.2∧Blk (w4.alloc (.cells #[J V p.1.1,J V p.1.2] 103)).drew ↑w 103 #[J V k.1,J V k.2]∧
 ∀w6,LrOk w6 (strip k p.2)→Fr (λq=>ab p.2.A=I q) (w4.alloc (.cells #[J V p.1.1,J V p.1.2] 103)).drew w6→
  ∃w7,(DK 137 (.map (I gm)) (AA #[J V p.1.1,J V p.1.2]) (U p.2.A (strip k p.2).ks.length p.2.c)).run Tryz.prog w6=.ok () w7∧UR w g gi gm clock E bs k S (seen.push (bs[i]' O)) w7∧leftW bs gi w7<leftW bs gi wr∧
   w6.cell? ⟨g,2,G⟩=I (.map (I gm))∧w6.cell? ⟨↑w4,0,G⟩=I (J V p.1.1)∧w6.cell? ⟨↑w4,1,G⟩=I (J V p.1.2)∧w7.cell? ⟨g,2,G⟩=I (.map (I gm))∧w7.cell? ⟨↑w4,0,G⟩=I (J V p.1.1)∧w7.cell? ⟨↑w4,1,G⟩=I (J V p.1.2):=by
 obtain⟨hm,hit,hr,hb,hc,hf⟩:=h
 subst hp
 have hE:E[i]∈E:=BU hi
 have hbi:i<bs.length:=O
 have hcm:E[i]∈cur E bs k seen:=by
  have:=cur_at (k:=k) hi hbi hns;rw[←this];exact BU _
 have hA: ∀p∈cur E bs k seen,∃q∈E,p.2.A=q.2.A:=λp hp=>by
  obtain⟨j,hj,_,h2,_⟩:=cur_mem hp;exact⟨_,BU hj,h2⟩
 have hsw:=hf.size
 have fa:=((Ao Aj w4).alloc (.cells #[J V E[i].1.1,J V E[i].1.2] 103)).drew
 have hr5: ∀p∈cur E bs k seen,LrOk (w4.alloc (.cells #[J V E[i].1.1,J V E[i].1.2] 103)).drew p.2:=λp hp=>by
  refine((hr p hp).fr f4 (λq hq e=>?_)).fr fa (λ_ _ e=>e);obtain⟨r,hr1,hr2⟩:=hA p hp;rw[hr2] at hq;have:=hlow r hr1 q hq;omega
 have hb5:=(hb.fr f4 (λe=>O)).fr fa id
 have hm5:=(hm.fr f4 (λe=>O)).fr fa id
 have hc4:=f4.cell hc (by show g<↑wr;omega) (by show ¬g=gi;omega)
 have hs4:=f4.size
 have hc5:=fa.cell hc4 (by show g<↑w4;omega) id
 have hi5:=(fa.block gi (by have:=(DX.1 hi4).1;exact this) id).trans hi4
 have bk:Blk (w4.alloc (.cells #[J V E[i].1.1,J V E[i].1.2] 103)) ↑w4 103 #[J V E[i].1.1,J V E[i].1.2]:=AH _ _ _
 have bk5:=bk.fr ((Ao Aj _).drew) id
 refine⟨hr5 _ hcm,hb5,λw6 h6 f6=>?_⟩
 obtain⟨l,hl2⟩:=keyOf_ky _ hkey
 have hm6:=hm5.fr f6 (hngm _ hE)
 have hin:Mz.has ((cur E bs k seen).map ent) E[i].1=Af:=by
  unfold Mz.has;rw[List.any_eq_true];exact⟨ent E[i],List.mem_map_of_mem hcm,by simp[ent]⟩
 obtain⟨w7,hup,hm7,f7⟩:=hm6.store_old keyLaw kyv_inj Tryz.underlying137 hl2 hin (U E[i].2.A (strip k E[i].2).ks.length E[i].2.c)
 rw[cur_rep (k:=k) (seen:=seen) hi hl hn hk (U E[i].2.A (strip k E[i].2).ks.length E[i].2.c) rfl] at hm7
 have hg6:g<(w4.alloc (.cells #[J V E[i].1.1,J V E[i].1.2] 103)).drew.heap.size:=by
  have:=fa.size;omega
 have hi6:=(f6.block gi (DX.1 hi5).1 (λe=>Kx)).trans hi5
 have hi7:=(f7.block gi (DX.1 hi6).1 (by show ¬gi=gm;omega)).trans hi6
 have b6:=bk5.fr f6 (λe=>Kx)
 have hc6:=f6.cell hc5 hg6 (by show ¬ab E[i].2.A=I g;exact hgr _ hE)
 refine⟨w7,hup,⟨hm7,hi7, ?_, ?_, ?_, ?_⟩, ?_,hc6,b6.cell 0,b6.cell 1, ?_⟩
 ·have hr6:=V1 hi hl hn sep hr5 f6 h6;intro p hp;refine(hr6 p hp).fr f7 (λq hq e=>?_);obtain⟨j,hj,_,h2,_⟩:=cur_mem hp;rw[h2] at hq;exact hngm _ (BU hj) (by rw[hq,e])
 ·exact(hb5.fr f6 (λe=>Kx)).fr f7 (λe=>O)
 ·exact f7.cell hc6 R0 (by show ¬g=gm;exact hgm)
 ·refine hf.trans ((((f4.mono (S':=λq=>S q∨q=gi) (λq _ e=> Ah e)).tr (fa.mono (λ_ _ e=>e.elim))).tr (f6.mono (λq _ e=> Ag (hS q (Ah ⟨_,hE,e⟩))))).tr (f7.mono (λq _ e=> Ag (hS q (Ag e))))) (λq hq e=>?_);rcases e with e|e;·exact e
  ·omega
 ·rw[leftW_at hi7,leftW_at hit];exact leftN_lt (BU hbi) hns
 ·have b7:=b6.fr f7 (by show ¬↑w4=gm;omega);exact⟨f7.cell hc6 R0 (by show ¬g=gm;exact hgm),b7.cell 0,b7.cell 1⟩
def srt(w:Ac)(q:Nat):Option (Option AK):=
 match w.heap[q]? with
 |some (.cells _ t _)=>I (I t)
 |some (.map _ _)=>I G
 |_=>G
theorem srt_blk{t:AK}{cs:AL}(h:Blk w g t cs):srt w g=I (I t):=by
 unfold Blk at h;simp[srt,h]
theorem srt_map{es:Array MapEntry}(h:w.heap[g]?=I (.map es c)):srt w g=I G:=by
 simp[srt,h]
theorem BRow.srt{A:Aw}{l:List Bk}(h:BRow w A c l)(e:ab A=I q):Ca.srt w q=I (I 136):=R7
theorem LrOk.srt{l:Lr}(h:LrOk w l)(e:ab l.A=I q):Ca.srt w q=I (I 103):=R7
theorem CodeOk.srt{b:Bk}(h:CodeOk w b)(e:ab b.A=I q):Ca.srt w q=I (I 5):=by
 unfold CodeOk at h;exact R8
variable{s:Cs}
theorem Cch.srt(h:Cch w g s):Ca.srt w g=I (I 139)∧Ca.srt w s.gm=I G∧(∀q,ab s.A=I q→Ca.srt w q=I (I 136))∧(∀b∈s.bl,∀q,ab b.A=I q→Ca.srt w q=I (I 5))∧(∀p∈s.E,∀q,ab p.2.A=I q→Ca.srt w q=I (I 103)):=by
 obtain⟨bs,clock,hm⟩:=h.m;exact⟨srt_blk h.b,srt_map hm.b,λq e=>h.r.srt e,λb hb q e=>(h.code b hb).srt e,λp hp q e=>(h.rows p hp).srt e⟩
theorem Cch.apart(h:Cch w g s)(e:q=s.gm∨ ∃p∈s.E,ab p.2.A=I q):q≠g∧ab s.A≠I q∧ ∀b∈s.bl,ab b.A≠I q:=by
 obtain⟨h1,h2,h3,h4,h5⟩:=h.srt;have hq:Ca.srt w q=I G∨Ca.srt w q=I (I 103):=by
  rcases e with rfl|⟨p,hp,e⟩;·exact Ag h2
  ·exact Ah (h5 p hp q e)
 refine⟨λe2=>?_,λe2=>?_,λb hb e2=>?_⟩;·rw[e2,h1] at hq;simp at hq
 ·rw[h3 q e2] at hq;simp at hq
 ·rw[h4 b hb q e2] at hq;simp at hq
theorem V2(k:Ky)(l:Lr): ∀x∈(strip k l).ks,x∈l.ks:=λx hx=>(C8.1 hx).1
theorem Cs.unlink_ok(h:s.Ok)(k:Ky):(s.unlink k).Ok:=by
 refine⟨h.room,h.len,h.keys,h.kd,h.ct,h.code,h.fl,λp hp=>?_,λp hp=>?_⟩;·obtain⟨q,hq,rfl⟩:=Bo.1 hp;exact h.froms q (C8.1 hq).1
 ·obtain⟨q,hq,rfl⟩:=Bo.1 hp;have:=h.tos q (C8.1 hq).1;exact⟨this.1.sublist List.filter_sublist,λx hx=>this.2 x (V2 k q.2 x hx)⟩
theorem Cs.unlink_sep(h:s.E.Pairwise (λp q=> ∀k,ab p.2.A=I k→ab q.2.A≠I k))(k:Ky):(s.unlink k).E.Pairwise (λp q=> ∀k,ab p.2.A=I k→ab q.2.A≠I k):=by
 show((away s.E k).map _).Pairwise _;rw[List.pairwise_map];exact h.sublist List.filter_sublist
structure LK(w:Ac)(g:Nat)(s:Cs):Prop where
 b: ∃v0 v1 v3,Blk w g 139 #[v0,v1,.map (I s.gm),v3]
 m: ∃bs clock,MapL Tryz.prog 103 kyv w s.gm (s.E.map ent) bs clock
 rows: ∀p∈s.E,LrOk w p.2
 sep:s.E.Pairwise (λp q=> ∀k,ab p.2.A=I k→ab q.2.A≠I k)
 ks: ∀p∈s.E,p.2.ks.length≤1000000
 ko: ∀p∈s.E,p.1.Ok
theorem LK.fr{S:AG}(h:LK w g s)(f:Fr S w w')(h1: ¬S g)(h2: ¬S s.gm)(h3: ∀p∈s.E,∀q,ab p.2.A=I q→ ¬S q):LK w' g s:=by
 obtain⟨v0,v1,v3,hb⟩:=h.b;obtain⟨bs,clock,hm⟩:=h.m;exact⟨⟨v0,v1,v3,hb.fr f h1⟩,⟨bs,clock,hm.fr f h2⟩,λp hp=>(h.rows p hp).fr f (h3 p hp),h.sep,h.ks,h.ko⟩
theorem Cch.lk(h:Cch w g s):LK w g s:=
 ⟨⟨_,_,_,h.b⟩,h.m,h.rows,h.sep,λp hp=>by have:=h.ok.ksl p hp;have:=h.ok.len;have:=h.ok.room;omega,λp hp=>by obtain⟨b,hb,e⟩:=Bo.1 (h.ok.froms p hp);rw[←e];exact h.ok.keys b hb⟩
set_option maxRecDepth 100000 in
theorem RB(w:Ac)(g:Nat)(s:Cs)(h:LK w g s)(k:Ky)(hk:k.Ok):At Tryz.prog 59 #[↑g,AA #[J V k.1,J V k.2]] w λe w'=>e=Ax (AD #[])∧LK w' g (s.unlink k)∧Fr (λq=>q=s.gm∨ ∃p∈s.E,ab p.2.A=I q) w w':=by
 obtain⟨l,hl⟩:=keyOf_ky k hk;obtain⟨v0,v1,v3,hb0⟩:=h.b;have hgm:g≠s.gm:=by
  obtain⟨bs,clock,hm⟩:=h.m;intro e;have h1:=hb0;unfold Blk at h1;rw[e,hm.b] at h1;simp at h1
 have hgr: ∀p∈s.E,ab p.2.A≠I g:=λp hp e=>by
  rcases h.rows p hp with⟨_,h2,_⟩|⟨gk,e2,⟨F,h1,_⟩,_⟩;·rw[h2] at e;cases e
  ·rw[e2] at e;have:gk=g:=Gp;subst this;obtain⟨cs,hc,_⟩:=h1;exact Blk.ne_ hc hb0 Ak rfl
 have f1:=(Ao Aj w).alloc (.cells #[J V k.1,J V k.2] 103);have bk:=JE;have h1:=h.fr f1 id id (λ_ _ _ _ e=>e);have hb1:=hb0.fr f1 id;have c2:(w.alloc (.cells #[J V k.1,J V k.2] 103)).cell? ⟨g,2,G⟩=I (.map (I s.gm)):=hb1.cell 2;obtain⟨bs,clock,hm⟩:=h1.m;obtain⟨w2,bs2,hdr,hm2,f2⟩:=(hm.fr ((Ao Aj _).drew) id).drop keyLaw kyv_inj Tryz.underlying137 hl;rw[del_ent] at hm2;have hdr: ∀ty,(Eh #[137,103] ty #[.map (I s.gm),AA #[J V k.1,J V k.2]]).run Tryz.prog (w.alloc (.cells #[J V k.1,J V k.2] 103)).drew=.ok (AD #[]) w2:=hdr;have hrg:=hm2.range Tryz.underlying137;have hg2:g<↑w2:=by have:=hb1.lt;have:=f2.size;exact AW hb1.lt f2.size
 have d2:w2.cell? ⟨g,2,G⟩=I (.map (I s.gm)):=f2.cell (w:=(w.alloc (.cells #[J V k.1,J V k.2] 103)).drew) c2 hb1.lt (by show ¬g=s.gm;exact hgm);have f3:=(Ao Aj w2).alloc (.mapIter (I s.gm) clock #[] clock);have hit:(w2.alloc (.mapIter (I s.gm) clock #[] clock)).heap[w2.heap.size]?=I (.mapIter (I s.gm) clock #[] clock):=heap_alloc_new _ _;have hm3:=hm2.fr f3 id;have ih0: ∀p∈s.E,ab p.2.A≠I s.gm:=λp hp=>(h1.rows p hp).notMap hm.b;have hlow: ∀p∈s.E,∀q,ab p.2.A=I q→q<w.heap.size:=λp hp q e=>(h.rows p hp).low e;have hrows3: ∀p∈away s.E k,LrOk (w2.alloc (.mapIter (I s.gm) clock #[] clock)) p.2:=λp hp=>by
  have hp:=(C8.1 hp).1;exact(((h1.rows p hp).fr ((Ao Aj _).drew) (λ_ _ e=>e)).fr f2 (λq hq e=>ih0 p hp (by rw[hq,e]))).fr f3 (λ_ _ e=>e)
 have hgb:s.gm≠↑w:=by have:=h.m;obtain⟨_,_,hm0⟩:=this;have:=hm0.bound;omega
 have hbk3:Blk (w2.alloc (.mapIter (I s.gm) clock #[] clock)) ↑w 103 #[J V k.1,J V k.2]:=((bk.fr ((Ao Aj _).drew) id).fr f2 (λe=>hgb e.symm)).fr f3 id;have d3:=f3.cell d2 hg2 id;have F3:Fr (λq=>q=s.gm∨ ∃p∈s.E,ab p.2.A=I q) w (w2.alloc (.mapIter (I s.gm) clock #[] clock)):=(((f1.mono (λ_ _ e=>e.elim)).drew).tr (f2.mono (λq _ e=> Ag e))).alloc _;have hgi:w.heap.size<w2.heap.size:=by have:=f2.size;have:=bk.lt;exact AW bk.lt f2.size
 have hgl:g<↑w:=hb0.lt;have hE0:cur (away s.E k) bs2 k #[]=away s.E k:=cur_0 _ _ _;have hl2:bs2.length=(away s.E k).length:=by have:=hm2.len;simpa using this
 have hsep:(away s.E k).Pairwise (λp q=> ∀k,ab p.2.A=I k→ab q.2.A≠I k):=h.sep.sublist List.filter_sublist;have hmemE: ∀p∈away s.E k,p∈s.E:=λp hp=>(C8.1 hp).1;have HC:=T h;have HB0:=T hb0;have HF3:=T F3;have HS:=T hsep;have HR3:=T hrows3;have HM3:=T hm3;have HB3:=T hbk3;have HN2:=T hm2.nd;have HL2:=T hl2;have HME:=T hmemE;have HI0:=T ih0;have HLO:=T hlow;have HGR:=T hgr;have HD3:=T d3;have HKD:Hid ((s.E.map (·.1)).Nodup):=T (by have:=hm.kd;rw[D8] at this;exact this);have hgmb:s.gm<↑w:=by obtain⟨_,_,hm0⟩:=h.m;exact hm0.bound
 clear h h1 hb0 hm hm3 hm2 f1 f2 f3 bk hbk3 hrows3 F3 hsep hb1 hl2 hmemE ih0 hlow hgr d3;go_in;go_upto_region 1 with(fail);go_region_law (refine Ry rfl (.tmp 9) (.tmp 10) 137 103 rfl hdr ?_)
 all_goals
  go_wp2_with fail;go_loopw [5] (λ_ wr=> ∃seen:Array Nat,UR w g ↑w2 s.gm clock (away s.E k) bs2 k (λq=>q=s.gm∨ ∃p∈s.E,ab p.2.A=I q) seen wr) (λ_ wr=>leftW bs2 ↑w2 wr)
  case atStart=>exact⟨#[],by rw[hE0];exact HM3.out,hit,by rw[hE0];exact HR3.out,HB3.out,HD3.out,HF3.out⟩
  case round=>
   obtain⟨seen,hur⟩:=hrel;rcases hur.1.next hur.2.1 with⟨hdone,hnx⟩|⟨i,hiL,hbL,hns,w4,hnx,hi4,f4,hen⟩
   ·have HU:=T hur;have hA:=T (cur_all (k:=k) HL2.out hdone);clear hur hdone
    go_wp2
    go_end0;obtain⟨hm,hi,hrw,hbk,hd,fr⟩:=HU.out;rw[hA.out] at hm hrw;have hc:=HC.out;refine⟨rfl,⟨⟨v0,v1,v3,HB0.out.fr fr (λe=>by rcases e with e|⟨p,hp,e⟩;exact hgm e;exact HGR.out p hp e)⟩,⟨_,_,hm⟩,hrw,Cs.unlink_sep hc.sep k,λp hp=>?_,λp hp=>?_⟩,fr⟩;·obtain⟨q,hq,rfl⟩:=Bo.1 hp;have:=hc.ks q (C8.1 hq).1;have h2:(strip k q.2).ks.length≤q.2.ks.length:=List.length_filter_le _ _;show(strip k q.2).ks.length≤_;omega
    ·obtain⟨q,hq,rfl⟩:=Bo.1 hp;exact hc.ko q (C8.1 hq).1
   ·have hiE:i<(away s.E k).length:=by have:=HL2.out;omega
    have hcur:((cur (away s.E k) bs2 k seen).map ent)[i]=ent (away s.E k)[i]:=by rw[List.getElem_map,cur_at hiE hbL hns]
    rw[hcur] at hnx hen;obtain⟨p,hp⟩:=Az ((away s.E k)[i]);rw[hp] at hnx hen;replace hnx: ∀ty,(Instr.next (Bi (I ⟨↑w2,0,G⟩)) Aa ty).run Tryz.prog wr=.ok (AD #[Ap Af,AA #[J V p.1.1,J V p.1.2],U p.2.A p.2.ks.length p.2.c]) w4:=hnx;replace hen:(Instr.entry (Bi (I ⟨↑w2,0,G⟩))).run Tryz.prog w4=.ok (AD #[AA #[J V p.1.1,J V p.1.2],U p.2.A p.2.ks.length p.2.c]) w4:=hen;have hpE:p∈s.E:=HME.out p (by rw[←hp];exact BU hiE);obtain⟨g1,g2,g3⟩:=ur_step hur hiE HL2.out HN2.out (V0 k HKD.out) HS.out hns f4 hi4 hgi hgl hgm (λp hp=>HLO.out p (HME.out p hp)) (λp hp=>HGR.out p (HME.out p hp)) (λp hp=>HI0.out p (HME.out p hp)) hgmb (λq e=>by
     rcases e with e|⟨p,hp,e⟩;·exact Ag e
     ·exact Ah ⟨p,HME.out p hp,e⟩) (by rw[hp];exact HC.out.ko p hpE) hp
    have hd4:=f4.cell hur.2.2.2.2.1 (by show g<↑wr;have:=hur.2.2.2.2.2.size;omega) (by show ¬g=↑w2;omega);have HST:Hid (At Tryz.prog 78 #[U p.2.A p.2.ks.length p.2.c,.func (.func 79) #[] #[Bi (I ⟨↑w,0,G⟩)]] (w4.alloc (.cells #[J V p.1.1,J V p.1.2] 103)).drew λe w6=>e=Ax (U p.2.A (strip k p.2).ks.length p.2.c)∧
     ∃w7,(DK 137 (.map (I s.gm)) (AA #[J V p.1.1,J V p.1.2]) (U p.2.A (strip k p.2).ks.length p.2.c)).run Tryz.prog w6=.ok () w7∧Hid (UR w g ↑w2 s.gm clock (away s.E k) bs2 k (λq=>q=s.gm∨ ∃p∈s.E,ab p.2.A=I q) (seen.push bs2[i]) w7)∧leftW bs2 ↑w2 w7<leftW bs2 ↑w2 wr∧
      w6.cell? ⟨g,2,G⟩=I (.map (I s.gm))∧w6.cell? ⟨↑w4,0,G⟩=I (J V p.1.1)∧w6.cell? ⟨↑w4,1,G⟩=I (J V p.1.2)∧w7.cell? ⟨g,2,G⟩=I (.map (I s.gm))∧w7.cell? ⟨↑w4,0,G⟩=I (J V p.1.1)∧w7.cell? ⟨↑w4,1,G⟩=I (J V p.1.2)):=T ((Vz _ p.2 g1 (HC.out.ks p hpE) ↑w k g2 (λe=>by have:=HLO.out p hpE _ e;omega)).mono (by
     rintro e w6 ⟨h1,hs6,f6⟩
     obtain⟨w7,hup,hur7,hlt,k0,k1,k2,k3,k4,k5⟩:=g3 w6 hs6 f6
     exact⟨h1,w7,hup,T hur7,hlt,k0,k1,k2,k3,k4,k5⟩))
    have hgw4:g<↑w4:=by have:=hur.2.2.2.2.2.size;have:=f4.size;omega
    clear hur hcur g1 g2 g3 f4 hi4 hp hpE;have bk:Blk (w4.alloc (.cells #[J V p.1.1,J V p.1.2] 103)) ↑w4 103 #[J V p.1.1,J V p.1.2]:=AH _ _ _;have s0:(w4.alloc (.cells #[J V p.1.1,J V p.1.2] 103)).cell? ⟨g,2,G⟩=I (.map (I s.gm)):=((Ao Aj w4).alloc _).cell hd4 (by show g<↑w4;omega) id;have s1:(w4.alloc (.cells #[J V p.1.1,J V p.1.2] 103)).cell? ⟨↑w4,0,G⟩=I (J V p.1.1):=bk.cell 0;have s2:(w4.alloc (.cells #[J V p.1.1,J V p.1.2] 103)).cell? ⟨↑w4,1,G⟩=I (J V p.1.2):=bk.cell 1;clear bk hd4;generalize p.1.1=pa at*;generalize p.1.2=pb at*;generalize(strip k p.2).ks.length=pm at*;generalize p.2.A=pA at*;generalize p.2.ks.length=pn at*;generalize p.2.c=pc at*;clear p;go_upto_region 5 with(fail);generalize w4.alloc (.cells #[J V pa,J V pb] 103)=w5 at*;clear hen hnx hiL hgw4 hns;go_region_held (λW=>W.cell? ⟨g,2,G⟩=I (.map (I s.gm))∧W.cell? ⟨↑w4,0,G⟩=I (J V pa)∧W.cell? ⟨↑w4,1,G⟩=I (J V pb)) (first|exact⟨s0,s1,s2⟩|exact⟨k0,k1,k2⟩|exact⟨k3,k4,k5⟩) ((refine Ay HST ?_;rintro e w6 ⟨rfl,w7,hup,HU7,hlt,k0,k1,k2,k3,k4,k5⟩))
    all_goals
     go_roundw
     case rel=>exact⟨_,_,_,_,_,_,_,_,_,_,_,_,_,_,_,⟨_,HU7.out⟩,rfl⟩
     case measure=>exact hlt
theorem V7(w:Ac)(g:Nat)(s:Cs)(h:Cch w g s)(k:Ky)(hk:k.Ok):At Tryz.prog 59 #[↑g,AA #[J V k.1,J V k.2]] w λe w'=>e=Ax (AD #[])∧Cch w' g (s.unlink k)∧Fr (λq=>q=s.gm∨ ∃p∈s.E,ab p.2.A=I q) w w':=
 (RB w g s h.lk k hk).mono λe w' ⟨h1,h2,fr⟩=>⟨h1,⟨h.b.fr fr (λe=>(h.apart e).1 rfl),h2.m,h.r.fr fr (λq hq e=>(h.apart e).2.1 hq),λb hb=>(h.code b hb).fr fr (λq hq e=>(h.apart e).2.2 b hb hq),h2.rows,h2.sep,Cs.unlink_ok h.ok k⟩,fr⟩
end Ca
namespace Ca
open Mz Go.Maps
def fcells{α:Type}(sz:Nat)(fc:α→Nat→As)(l:List α):List As:=l.flatMap λb=>(Bm sz).map (fc b)
variable{α:Type}
theorem RC(sz:Nat)(fc:α→Nat→As)(l:List α):(fcells sz fc l).length=l.length*sz:=by
 induction l with
 |nil=>simp[fcells]
 |cons b l ih=>
  show((Bm sz).map (fc b)++fcells sz fc l).length=_;rw[BJ,ih,Di,List.length_range,CK,Nat.succ_mul,Nat.add_comm]
theorem RE(sz:Nat)(fc:α→Nat→As)(d:α)(l:List α): ∀i,i<l.length→ ∀c,c<sz→(fcells sz fc l)[i*sz+c]?=I (fc (l.getD i d) c):=by
 induction l with
 |nil=>intro i hi;simp at hi
 |cons b l ih=>
  intro i hi c hc;show((Bm sz).map (fc b)++fcells sz fc l)[i*sz+c]?=_
  cases i with
  |zero=>
   rw[Nat.zero_mul,Bn,CO EB];simp[hc]
  |succ i=>
   rw[CB RF];have:(i+1)*sz+c -((Bm sz).map (fc b)).length=i*sz+c:=RF;rw[this,ih i Ez c hc];simp
variable{w:Ac}{base:Nat}{A:Aw}{n c:Nat}
theorem own_to{e:AK}{sz:Nat}{l:List α}{fc:α→Nat→As}(hl:l.length=n)(d:α)(hsz:0<sz)(h:w.ownsRow base e sz (U A n c) n (fcells sz fc l)):(l=[]∧A=G∧c=0)∨ ∃gl,A=I ⟨gl,0,G⟩∧(∃F,Cells w gl e (c*sz) F∧n≤c∧ ∀q,q<n→ ∀j,j<sz→F (q*sz+j)=fc (l.getD q d) j)∧c≤Br∧base≤gl:=by
 rcases h.2 with⟨e1,h0⟩|⟨g,cap,cur,e1,hg,hb,hnc,hm,hs,ht⟩;·left;injection e1 with e1 e2 e3;exact⟨List.eq_nil_of_length_eq_zero O,e1,e3⟩
 ·right;injection e1 with e1 e2 e3;subst e3;refine⟨g,e1,⟨λi=>cur.getD i Bt,⟨cur,hb,hs,λi hi=>?_⟩,hnc,λq hq j hj=>?_⟩,hm,hg⟩;·have:i<cur.size:=O;simp[this]
  ·have hat:=RE sz fc d l q O j hj;have hlt:q*sz+j<n*sz:=by
    have:(q+1)*sz≤n*sz:=Nat.mul_le_mul_right _ hq;rw[Nat.succ_mul] at this;omega
   rw[←ht,Cw hlt] at hat;show cur.getD (q*sz+j) Bt=_;rw[Array.getD_eq_getD_getElem?,←CN,hat];rfl
theorem own_from{e:AK}{sz:Nat}{gl:Nat}{l:List α}{fc:α→Nat→As}(hl:l.length=n)(d:α)(hsz:0<sz){F:Nat→As}(h:Cells w gl e (c*sz) F)(hn:n≤c)(hm:c≤Br)(hF: ∀q,q<n→ ∀j,j<sz→F (q*sz+j)=fc (l.getD q d) j):w.ownsRow 0 e sz (U (I ⟨gl,0,G⟩) n c) n (fcells sz fc l):=by
 obtain⟨cs,hb,hs,hc⟩:=h;have hle:n*sz≤c*sz:=Nat.mul_le_mul_right _ hn;refine⟨by rw[RC,hl],Ah ⟨gl,c,cs,rfl,AU _,hb,hn,hm,hs, ?_⟩⟩;apply List.ext_getElem?;intro m;by_cases hmn:m<n*sz;·rw[Cw hmn,CN,hc m O];have hq:m/sz<n:=(Nat.div_lt_iff_lt_mul hsz).2 hmn;have hat:=RE sz fc d l (m/sz) O (m%sz) (Nat.mod_lt _ hsz);have hmd:m/sz*sz+m%sz=m:=Nat.div_add_mod' m sz;rw[hmd] at hat;rw[hat,←hF _ hq _ (Nat.mod_lt _ hsz),hmd]
 ·rw[De (by rw[List.length_take];omega),De (by rw[RC,hl];omega)]
def bcells(l:List Bk):List As:=fcells 4 bc l
theorem BRow.own{l:List Bk}(h:BRow w A c l):w.ownsRow 0 136 4 (U A l.length c) l.length (bcells l):=by
 rcases h with⟨rfl,rfl,rfl⟩|⟨gl,rfl,⟨F,h1,h2,h3⟩,h4⟩;·exact⟨rfl,Ag ⟨rfl,rfl⟩⟩
 ·exact own_from rfl dBk O h1 h2 h4 h3
theorem BRow.of_own{l:List Bk}(h:w.ownsRow base 136 4 (U A l.length c) l.length (bcells l)):BRow w A c l:=by
 rcases own_to rfl dBk O h with h|⟨gl,e,h1,h2,h3⟩;·exact Ag h
 ·exact Ah ⟨gl,e,h1,h2⟩
theorem kcells_f(l:List Ky):kcells l=fcells 2 kc l:=by
 unfold kcells fcells;congr 1
theorem LrOk.own{l:Lr}(h:LrOk w l):w.ownsRow 0 103 2 (U l.A l.ks.length l.c) l.ks.length (kcells l.ks):=by
 rw[kcells_f];rcases h with⟨h1,h2,h3⟩|⟨gl,e,⟨F,h1,h2,h3⟩,h4⟩;·rw[h1,h2,h3];exact⟨rfl,Ag ⟨rfl,rfl⟩⟩
 ·rw[e];exact own_from rfl (0,0) O h1 h2 h4 h3
theorem LrOk.of_own{l:Lr}(h:w.ownsRow base 103 2 (U l.A l.ks.length l.c) l.ks.length (kcells l.ks)):LrOk w l:=by
 rw[kcells_f] at h;rcases own_to rfl (0,0) O h with h|⟨gl,e,h1,h2,h3⟩;·exact Ag h
 ·exact Ah ⟨gl,e,h1,h2⟩
def wr4(w:Ac)(gl i:Nat)(b:Bk):Ac:=
 (((w.setCell ⟨gl,i*4,G⟩ (J V b.pc)).setCell ⟨gl,i*4+1,G⟩ (J V b.pl)).setCell ⟨gl,i*4+2,G⟩ (U b.A b.code.length b.c)).setCell ⟨gl,i*4+3,G⟩ (J Z b.ct)
theorem wr4_fr{S:AG}(w:Ac)(gl i:Nat)(b:Bk)(hs:S gl):Fr S w (wr4 w gl i b):=
 ((((Ao S w).setCell (p:=⟨gl,i*4,G⟩) (Ag hs) _).setCell (p:=⟨gl,i*4+1,G⟩) (Ag hs) _).setCell (p:=⟨gl,i*4+2,G⟩) (Ag hs) _).setCell (p:=⟨gl,i*4+3,G⟩) (Ag hs) _
theorem nthB_set(l:List Bk)(i:Nat)(b:Bk)(q:Nat)(hq:q<l.length):nthB (l.set i b) q=if q=i then b else nthB l q:=by
 rw[nthB_at Fc,nthB_at hq,List.getElem_set];by_cases e:i=q;·rw[An e,An e.symm]
 ·rw[Ae e,Ae (λh=>e h.symm)]
theorem Row_b.put{gl:Nat}{l:List Bk}(h:Row_b w gl c n (nthB l))(hn:l.length=n)(i:Nat)(hi:i<n)(b:Bk):Row_b (wr4 w gl i b) gl c n (nthB (l.set i b)):=by
 obtain⟨F,h1,h2,h3⟩:=h;refine⟨_,(((h1.set_ (i*4) _).set_ (i*4+1) _).set_ (i*4+2) _).set_ (i*4+3) _,h2,λq hq j hj=>?_⟩;rw[nthB_set l i b q O];by_cases e:q=i
 ·subst e;rw[An rfl];rcases(by omega:j=0∨j=1∨j=2∨j=3) with rfl|rfl|rfl|rfl
  all_goals
   unfold putV;simp[bc]
 ·rw[Ae e,←h3 q hq j hj];exact JD
end Ca
namespace Ca
open Mz Go.Maps
theorem idx_spec(k:Ky): ∀(l:List Bk) (i:Nat),idx k l=i→i<l.length∧(nthB l i).k=k
 |[],i,h=>by simp[idx] at h
 |b::l,i,h=>by
  rw[idx_cons] at h;by_cases e:b.k=k;·rw[An e] at h;have:i=0:=O;subst this;exact⟨AB,e⟩
  ·rw[Ae e] at h;by_cases e2:idx k l<0;·rw[An e2] at h;omega
   ·rw[Ae e2] at h;obtain⟨j,hj⟩: ∃j:Nat,idx k l=j:=⟨(idx k l).toNat,O⟩;have ih:=idx_spec k l j hj;have:i=j+1:=O;subst this;exact⟨A8,ih.2⟩
theorem idx_none(k:Ky): ∀(l:List Bk),idx k l<0→k∉l.map Bk.k
 |[],_=>AB
 |b::l,h=>by
  rw[idx_cons] at h;by_cases e:b.k=k;·rw[An e] at h;omega
  ·rw[Ae e] at h;have h2:idx k l<0:=by
    by_cases e2:idx k l<0;·exact e2
    ·rw[Ae e2] at h;omega
   have ih:=idx_none k l h2;intro hm;rcases Cy.1 hm with h3|h3;·exact e h3.symm
   ·exact ih h3
theorem idx_neg(k:Ky)(l:List Bk):idx k l<0↔k∉l.map Bk.k:=by
 refine⟨idx_none k l,λh=>?_⟩;by_cases e:idx k l<0;·exact e
 ·obtain⟨j,hj⟩: ∃j:Nat,idx k l=j:=⟨(idx k l).toNat,O⟩;obtain⟨h1,h2⟩:=idx_spec k l j hj;rw[nthB_at h1] at h2;exact absurd (by rw[←h2];exact List.mem_map_of_mem (BU h1)) h
def Cs.set(s:Cs)(b:Bk):Cs:={s.unlink b.k with bl:=s.bl.set (idx b.k s.bl).toNat b}
def Cs.snoc(s:Cs)(b:Bk)(A:Aw)(c:Nat):Cs:={s with bl:=s.bl++[b],A:=A,c:=c}
def Cs.put(s:Cs)(b:Bk)(A:Aw)(c gm:Nat):Cs:=
 if 0≤idx b.k s.bl then s.set b else if s.room≤s.bl.length then(s.flush gm).snoc b A c else s.snoc b A c
def Bk.Ok(b:Bk):Prop:=b.k.Ok∧(1≤b.ct∧b.ct≤9223372036854775807)∧(b.code≠[]∧b.code.length≤1000000∧ ∀z∈b.code,0≤z∧z<256)
variable{i:Nat}{b:Bk}
theorem set_keys{l:List Bk}(hi:i<l.length)(e:(nthB l i).k=b.k):(l.set i b).map Bk.k=l.map Bk.k:=by
 rw[List.map_set];apply List.ext_getElem;·simp
 ·intro j h1 h2;rw[List.getElem_set];split
  ·rename_i h;subst h
   rw[←e,nthB_at hi];simp
  ·rfl
variable{s:Cs}
theorem Cs.set_ok(h:s.Ok)(hb:b.Ok)(hi:idx b.k s.bl=i):(s.set b).Ok:=by
 obtain⟨h1,h2⟩:=idx_spec _ _ _ hi;have hto:=Kz;have hu:=Cs.unlink_ok h b.k;have hk:=set_keys h1 h2;have hm: ∀x∈s.bl.set i b,x=b∨x∈s.bl:=λx hx=>by
  rcases List.mem_or_eq_of_mem_set hx with e|e;·exact Ah e
  ·exact Ag e
 have e:=RG;rw[e];refine⟨h.room,by show((s.bl.set i b).length:Int)≤_;rw[List.length_set];exact h.len,λx hx=>?_, ?_,λx hx=>?_,λx hx=>?_,h.fl,λp hp=>?_,λp hp=>?_⟩
 ·rcases hm x hx with rfl|hx;·exact hb.1
  ·exact h.keys x hx
 ·show((s.bl.set i b).map Bk.k).Nodup;rw[hk];exact h.kd
 ·rcases hm x hx with rfl|hx;·exact hb.2.1
  ·exact h.ct x hx
 ·rcases hm x hx with rfl|hx;·exact hb.2.2
  ·exact h.code x hx
 ·show p.1∈(s.bl.set i b).map Bk.k;rw[hk];exact hu.froms p hp
 ·show _∧ ∀k∈p.2.ks,k∈(s.bl.set i b).map Bk.k;rw[hk];exact hu.tos p hp
theorem Cs.snoc_ok(h:s.Ok)(hb:b.Ok)(hi:idx b.k s.bl<0)(hl:(s.bl.length:Int)<s.room)(A:Aw)(c:Nat):(s.snoc b A c).Ok:=by
 have hn:=idx_none _ _ hi;refine⟨h.room,by show((s.bl++[b]).length:Int)≤s.room;rw[BJ];show((s.bl.length+1:Nat):Int)≤s.room;omega,λx hx=>?_, ?_,λx hx=>?_,λx hx=>?_,h.fl,λp hp=>?_,λp hp=>?_⟩
 ·rcases BZ.1 hx with hx|hx;·exact h.keys x hx
  ·rw[Dv.1 hx];exact hb.1
 ·show((s.bl++[b]).map Bk.k).Nodup;rw[Df,List.nodup_append];refine⟨h.kd,AB,λa ha c hc e=>?_⟩;simp at hc;subst hc;exact hn (e▸ha)
 ·rcases BZ.1 hx with hx|hx;·exact h.ct x hx
  ·rw[Dv.1 hx];exact hb.2.1
 ·rcases BZ.1 hx with hx|hx;·exact h.code x hx
  ·rw[Dv.1 hx];exact hb.2.2
 ·show p.1∈(s.bl++[b]).map Bk.k;rw[Df];exact List.mem_append_left _ (h.froms p hp)
 ·have:=h.tos p hp;refine⟨this.1,λk hk=>?_⟩;show k∈(s.bl++[b]).map Bk.k;rw[Df];exact List.mem_append_left _ (this.2 k hk)
theorem Cch.setB{w:Ac}{g:Nat}{gl:Nat}(h:Cch w g (s.unlink b.k))(hok:s.Ok)(hb:b.Ok)(hi:idx b.k s.bl=i)(hc:CodeOk w b)(hA:s.A=I ⟨gl,0,G⟩):Cch (wr4 w gl i b) g (s.set b):=by
 obtain⟨h1,h2⟩:=idx_spec _ _ _ hi;have hto:=Kz;have f:Fr (· =gl) w (wr4 w gl i b):=wr4_fr w gl i b rfl;obtain⟨t1,t2,t3,t4,t5⟩:=h.srt;have tl:Ca.srt w gl=I (I 136):=t3 gl (by show ab s.A=_;rw[hA];rfl);obtain⟨bs,clock,hm⟩:=h.m;have hok2:=Cs.set_ok hok hb hi;have e:=RG;rw[e] at hok2⊢;have hlen:(s.bl.set i b).length=s.bl.length:=List.length_set;have hcells:cells4 {s.unlink b.k with bl:=s.bl.set i b}=cells4 (s.unlink b.k):=by
  show#[_,U s.A (s.bl.set i b).length s.c,_,_]=_;rw[hlen];rfl
 refine⟨?_,⟨bs,clock,hm.fr f (λe=>by rw[e,tl] at t2;simp at t2)⟩, ?_,λx hx=>?_,λp hp=>(h.rows p hp).fr f (λq hq e=>by have:=t5 p hp q hq;rw[e,tl] at this;simp at this),h.sep,hok2⟩;·rw[hcells];exact h.b.fr f (λe=>by rw[e,tl] at t1;simp at t1)
 ·rcases h.r with⟨e1,_⟩|⟨gl2,e2,h3,h4⟩;·exact absurd e1 (by show s.bl≠[];intro e1;rw[e1] at h1;simp at h1)
  ·have e2:s.A=I ⟨gl2,0,G⟩:=e2;rw[hA] at e2;injection e2 with e2;injection e2 with e2;subst e2;have h3:Row_b w gl s.c s.bl.length (nthB s.bl):=h3;refine Ah ⟨gl,hA, ?_,h4⟩;show Row_b _ gl s.c (s.bl.set i b).length (nthB (s.bl.set i b));rw[hlen];exact h3.put rfl i h1 b
 ·have hcx:CodeOk w x:=by
   rcases List.mem_or_eq_of_mem_set hx with e|e;·exact h.code x e
   ·rw[e];exact hc
  exact hcx.fr f (λq hq e=>by have:=hcx.srt hq;rw[e,tl] at this;simp at this)
theorem V8(l:List Bk)(b:Bk):bcells (l++[b])=bcells l++[J V b.pc,J V b.pl,U b.A b.code.length b.c,J Z b.ct]:=by
 unfold bcells fcells;rw[List.flatMap_append];rfl
theorem Cch.snocB{w w6:Ac}{g:Nat}(h:Cch w g s)(hb:b.Ok)(hi:idx b.k s.bl<0)(hl:(s.bl.length:Int)<s.room){base:Nat}{A2:Aw}{c2:Nat}(f:Fr (λq=>ab s.A=I q) w w6)(hc:CodeOk w6 b)(ho:w6.ownsRow base 136 4 (U A2 (s.bl.length+1) c2) (s.bl.length+1) (bcells (s.bl++[b]))):Cch (w6.setCell ⟨g,1,G⟩ (U A2 (s.bl.length+1) c2)) g (s.snoc b A2 c2):=by
 obtain⟨t1,t2,t3,t4,t5⟩:=h.srt;have f2:Fr (· =g) w6 (w6.setCell ⟨g,1,G⟩ (U A2 (s.bl.length+1) c2)):=Bc _ _ _ _;have hbg:=h.b.fr f (λe=>by rw[t3 g e] at t1;simp at t1);have tg:=srt_blk hbg;obtain⟨bs,clock,hm⟩:=h.m;have hm6:=hm.fr f (λe=>by rw[t3 _ e] at t2;simp at t2);have tm:=srt_map hm6.b;have hlen:(s.bl++[b]).length=s.bl.length+1:=AB;have hr:BRow w6 A2 c2 (s.bl++[b]):=BRow.of_own (base:=base) (by rw[hlen];exact ho);refine⟨?_,⟨bs,clock,hm6.fr f2 (λe=>by have e:s.gm=g:=e;rw[e,tg] at tm;simp at tm)⟩,hr.fr f2 (λq hq e=>RH),λx hx=>?_,λp hp=>?_,h.sep,Cs.snoc_ok h.ok hb hi hl A2 c2⟩
 ·have e:cells4 (s.snoc b A2 c2)=(cells4 s).setIfInBounds 1 (U A2 (s.bl.length+1) c2):=by
   show#[_,U A2 (s.bl++[b]).length c2,_,_]=_;rw[hlen];rfl
  rw[e];exact hbg.set_ 1 _
 ·have hcx:CodeOk w6 x:=by
   rcases BZ.1 hx with hx|hx;·exact(h.code x hx).fr f (λq hq e=>by have:=t4 x hx q hq;rw[t3 q e] at this;simp at this)
   ·rw[Dv.1 hx];exact hc
  exact hcx.fr f2 (λq hq e=>RI)
 ·have h6:=(h.rows p hp).fr f (λq hq e=>by have:=t5 p hp q hq;rw[t3 q e] at this;simp at this);exact h6.fr f2 (λq hq e=>by have:=h6.srt hq;rw[e,tg] at this;simp at this)
end Ca
namespace Mz
open Go.Maps
open Go.ChangeMaps (setBlock)
open Go.WideElems (findIdx_born)
variable {κ:Type} [DecidableEq κ] {P:BW} {k:AK} {mk:κ→As}
variable {w w':Ac} {g:Nat} {L:List (κ×As)} {bs:List Nat} {clock:Nat}
theorem MapL.entry_old(h:MapL P k mk w g L bs clock)(K:Keyed P k)(inj: ∀a b,mk a=mk b→a=b){t e:AK}(ht:P.underlying t=I (.map k e)){x:κ}{l:Lit}(hx:keyOf P k (mk x)=I l)(hin:Mz.has L x=Af):∃w' j,∃hj:j<L.length,∃hb:j<bs.length,L[j].1=x∧(Instr.mapEntry t (.map (I g)) (mk x)).run P w=.ok (AD #[L[j].2,goInt bs[j]]) w'∧MapL P k mk w' g L bs clock∧Fr (· =g) w w':=by
 rcases h.find K inj w hx with⟨h1,h2⟩|⟨j,hj,h1,h3,h2⟩;·rw[hin] at h1;simp at h1
 ·have hb:j<bs.length:=by rw[h.len];exact hj
  have hat:=ents_at (mk:=mk) L bs h.len j hj hb;obtain⟨s1,s2⟩:=set_heap ⟨_,_,h.b⟩ (.map (ents mk L bs).toArray clock);have hst:=K.stays w hx;refine⟨setBlock w g (.map (ents mk L bs).toArray clock),j,hj,hb,h1, ?_,⟨s1,h.len,h.nd,h.lt,h.keys,h.kd⟩,s2⟩;have hkey:=NX;have hborn:(((ents mk L bs).toArray[j]?).map (λx=>((x.born:Nat):Int))).getD 0=((bs[j]:Nat):Int):=by
   rw[List.getElem?_toArray,hat];rfl
  have hmod:(ents mk L bs).toArray.modify j (λe=>{e with key:=mk x})=(ents mk L bs).toArray:=by
   apply Array.toList_inj.1;rw[Array.toList_modify];have e2:=J9 (ents mk L bs) j (λe=>{e with key:=mk x}) id _ hat (by show(⟨mk x,_,_⟩:MapEntry)=⟨mk L[j].1,_,_⟩;rw[h1]);refine e2.trans ?_;exact List.modify_id _ _
  simp only[Instr.mapEntry,CX ht,DJ h.b,K.check w _ hx,h2,D5,Result.andThen_ok];rw[hkey,hst];simp only[Result.andThen_ok,hmod,hborn];rw[Ef _ h.b];rfl
theorem MapL.entry_new(h:MapL P k mk w g L bs clock)(K:Keyed P k)(inj: ∀a b,mk a=mk b→a=b){t e:AK}(ht:P.underlying t=I (.map k e)){x:κ}{l:Lit}(hx:keyOf P k (mk x)=I l)(hin:Mz.has L x=Aa){z:As}(hz:(zeroValue e).run P w=.ok z w):∃w',(Instr.mapEntry t (.map (I g)) (mk x)).run P w=.ok (AD #[z,goInt clock]) w'∧MapL P k mk w' g (L++[(x,z)]) (bs++[clock]) (clock+1)∧Fr (· =g) w w':=by
 obtain⟨w',h1,h2,h3⟩:=h.store_new K inj ht hx hin z;rcases h.find K inj w hx with⟨g1,g2⟩|⟨j,hj,g1,g3,g2⟩;·refine⟨w', ?_,h2,h3⟩;have h1':=h1;simp[DK,CX ht,DJ h.b,K.check w _ hx,g2,Ef _ h.b,CT] at h1';simp[Instr.mapEntry,CX ht,DJ h.b,K.check w _ hx,g2,hz,Ef _ h.b,CT];exact h1'
 ·rw[hin] at g3;simp at g3
theorem MapL.stamp(h:MapL P k mk w g L bs clock)(t:AK){j:Nat}(hj:j<L.length)(hb:j<bs.length)(v:As):∃w',(Instr.entryStore t (.map (I g)) (goInt bs[j]) v).run P w=.ok () w'∧MapL P k mk w' g (rep L L[j].1 v) bs clock∧Fr (· =g) w w':=by
 obtain⟨s1,s2⟩:=set_heap ⟨_,_,h.b⟩ (.map (ents mk (rep L L[j].1 v) bs).toArray clock);have hat:=ents_at (mk:=mk) L bs h.len j hj hb;have hen:=ents_rep (mk:=mk) L h.kd bs h.len j hj v;refine⟨setBlock w g (.map (ents mk (rep L L[j].1 v) bs).toArray clock), ?_,⟨s1,by rw[rep_len];exact h.len,h.nd,h.lt,λp hp=>?_,by rw[rep_keys];exact h.kd⟩,s2⟩
 ·have hidx:(ents mk L bs).toArray.findIdx? (λe=>((e.born:Nat):Int)==((bs[j]:Nat):Int))=I j:=by
   rw[Go.WideElems.findIdx_arr];exact findIdx_born (l:=(ents mk L bs)) (j:=j) (by rw[NU L bs h.len];exact h.nd) hat
  have hmod:(ents mk L bs).toArray.modify j (λe=>{e with val:=v})=(ents mk (rep L L[j].1 v) bs).toArray:=by
   rw[hen];apply Array.toList_inj.1;rw[Array.toList_modify]
  simp[Instr.entryStore,DJ h.b,asInt,asIntOf,goInt,hidx,hmod,Ef _ h.b,CT,setBlock]
 ·exact NY
end Mz
namespace Ca
open Mz Go.Maps
theorem LrOk.at_{w:Ac}{l:Lr}(h:LrOk w l):At_k w l.A l.ks.length (nthK l.ks):=by
 rcases h with⟨h1,h2,h3⟩|⟨gl,e,h1,h2⟩;·exact λq hq=>absurd hq (by rw[h1];simp)
 ·intro q hq;have c0:=h1.cell q 0 hq O;have c1:=h1.cell q 1 hq O;refine⟨gl,0,e, ?_, ?_⟩;·rw[Bn];exact c0
  ·rw[Bn];exact c1
def IxPost(w:Ac)(n:Nat)(f:Nat→Ky)(k:Ky)(e:AT)(w':Ac):Prop:=(∃r:Int,e=Ax (J Z r)∧decide (0≤r)=decide (∃q,q<n∧f q=k))∧Fr Aj w w'
def IxRel(w:Ac)(n:Nat)(f:Nat→Ky)(k:Ky)(q:Nat)(wr:Ac):Prop:=(∀j,j<q→f j≠k)∧Blk wr ↑w 103 #[J V k.1,J V k.2]∧Fr Aj w wr
theorem V9(w:Ac)(A:Aw)(n cap:Nat)(hm:n≤1099511627776)(f:Nat→Ky)(k:Ky)(h:At_k w A n f):At Tryz.prog 153 #[U A n cap,AA #[J V k.1,J V k.2]] w (IxPost w n f k):=by
 have f1:=(Ao Aj w).alloc (.cells #[J V k.1,J V k.2] 103);have b1:=JE;have HA:=T h;have HF:=T f1;have HB:=T b1;clear h f1 b1;go_in;go_wp2_with fail;go_loopw [8] (λi wr=> ∃q:Nat,q≤n∧i=J Z q∧IxRel w n f k q wr) (λi _=>n -(AJ i).toNat)
 case atStart=>exact⟨0,O,rfl,λj h=>absurd h O,HB.out,HF.out⟩
 case round=>
  obtain⟨q,hq,rfl,hno,hb,fr⟩:=hrel;have HNO:=T hno;have HFR:=T fr;have HBR:=T hb;clear hno;by_cases hlt:q<n
  ·obtain⟨g,off,rfl,c0,c1⟩:=HA.out q hlt;have e0:=fr.cell c0 RJ id;have e1:=fr.cell c1 RK id;have k0:=hb.cell 0;have k1:=hb.cell 1;have hd:=JB;have q0:=JC;have q1:(q:Int)<(n:Int):=O;clear c0 c1 hb fr;obtain⟨y,hy⟩:=Az (f q);rw[hy] at e0 e1;have HN:Hid (y≠k→IxRel w n f k (q+1) wr.drew):=T (λhne=>⟨λj hj=>by
    rcases(by omega:j<q∨j=q) with h|rfl;·exact HNO.out j h
    ·rw[hy];exact hne,HBR.out.drew,HFR.out.drew⟩)
   have HY:Hid (y=k→IxPost w n f k (Ax (J Z (q:Int))) wr.drew):=T (λe=>⟨⟨q,rfl,by
    have: ∃j,j<n∧f j=k:=⟨q,hlt,by rw[hy,e]⟩;simp[this]⟩,HFR.out.drew⟩)
   obtain⟨y0,y1⟩:=y;obtain⟨ka,kb⟩:=k;have e0:wr.cell? ⟨g,off+q*2,G⟩=I (J V y0):=e0;have e1:wr.cell? ⟨g,off+q*2+1,G⟩=I (J V y1):=e1;have k0:wr.cell? ⟨↑w,0,G⟩=I (J V ka):=k0;have k1:wr.cell? ⟨↑w,1,G⟩=I (J V kb):=k1;clear hy HNO HBR HFR HB HF HA;by_cases c0:ka=y0
   ·subst c0;by_cases c1:kb=y1
    ·subst c1;have HP:=T (HY.out rfl);clear HN HY;go_upto_region 4 with(fail);go_still_tail 5,AI;change BL _ _ _ _ _ wr.drew
     go_wp2
     go_ret;exact HP.out
    ·have HP:=T (HN.out (λe=>c1 (congrArg Prod.snd e).symm));exact RL
   ·have HP:=T (HN.out (λe=>c0 (congrArg Prod.fst e).symm));exact RL
  ·have hd:decide ((q:Int)<(n:Int))=Aa:=A8;have e:q=n:=O;have HE:=T e;clear e hb fr
   go_wp2
   go_ret;have e:=HE.out;subst e;refine⟨⟨-1,rfl, ?_⟩,HFR.out⟩;have: ¬ ∃j,j<q∧f j=k:=λ⟨j,hj,e⟩=>HNO.out j hj e;simp[this]
theorem VA(w:Ac)(A:Aw)(n cap:Nat)(hm:n≤1099511627776)(f:Nat→Ky)(k:Ky)(h:At_k w A n f):At Tryz.prog 116 #[U A n cap,AA #[J V k.1,J V k.2]] w λe w'=>e=Ax (Ap (decide (∃q,q<n∧f q=k)))∧Fr Aj w w':=by
 have f1:=(Ao Aj w).alloc (.cells #[J V k.1,J V k.2] 103);have h1:At_k (w.alloc (.cells #[J V k.1,J V k.2] 103)) A n f:=λq hq=>by
  obtain⟨g,off,e,c0,c1⟩:=h q hq;refine⟨g,off,e,f1.cell c0 RJ id,f1.cell c1 RK id⟩
 have Hi:=T (V9 _ A n cap hm f k h1);have F1:=T f1;clear h h1 f1;go_in;go_wp2_with fail;refine Ay Hi ?_;rintro e w' ⟨⟨r,rfl,hr⟩,f2⟩;obtain⟨t,ht⟩: ∃t,decide (∃q,q<n∧f q=k)=t:=⟨_,rfl⟩;rw[ht] at hr;have F2:=T (F1.out.tr f2);have HT:=T ht;clear ht f2
 go_wp2
 go_ret;exact⟨by rw[HT.out];rfl,F2.out⟩
end Ca
namespace Ca
open Mz Go.Maps
def eL:Lr:=⟨[],G,0⟩
def hasE(E:List (Ky×Lr))(a:Ky):Bool:=E.any (λp=>decide (p.1=a))
def Cs.base(s:Cs)(a:Ky):List (Ky×Lr):=if hasE s.E a then s.E else s.E++[(a,eL)]
def putL(E:List (Ky×Lr))(a:Ky)(l:Lr):List (Ky×Lr):=E.map (λp=>if p.1=a then(p.1,l) else p)
def Cs.link(s:Cs)(a:Ky)(l:Lr):Cs:={s with E:=putL (s.base a) a l}
theorem has_ent(E:List (Ky×Lr))(a:Ky):Mz.has (E.map ent) a=hasE E a:=by
 unfold Mz.has hasE;rw[List.any_map];rfl
theorem rep_putL(E:List (Ky×Lr))(a:Ky)(l:Lr):rep (E.map ent) a (U l.A l.ks.length l.c)=(putL E a l).map ent:=by
 unfold rep putL;rw[D8,D8];refine List.map_congr_left (λp _=>?_);show(if(ent p).1=a then _ else _)=ent (if p.1=a then _ else _);by_cases e:p.1=a;·rw[An e,An (show(ent p).1=a from e)];rfl
 ·rw[Ae e,Ae (show ¬(ent p).1=a from e)]
variable{E:List (Ky×Lr)}{a:Ky}
theorem Ix(h:hasE E a=Aa):lrOf E a=eL:=by
 unfold hasE at h;rw[List.any_eq_false] at h;unfold lrOf;exact NV
theorem Iy(h:hasE E a=Af): ∃p∈E,p.1=a∧lrOf E a=p.2:=by
 unfold hasE at h;unfold lrOf
 cases hf:E.find? (λp=>decide (p.1=a)) with
 |none=>
  rw[List.find?_eq_none] at hf;rw[List.any_eq_true] at h;obtain⟨p,hp,e⟩:=h;exact absurd e (hf p hp)
 |some p=>exact⟨p,List.mem_of_find?_eq_some hf,by simpa using List.find?_some hf,rfl⟩
theorem RM(w:Ac)(g:Nat)(s:Cs)(h:Cch w g s)(a:Ky)(ha:a.Ok):
 ∃we st,(Instr.mapEntry 137 (.map (I s.gm)) (AA #[J V a.1,J V a.2])).run Tryz.prog w=.ok (AD #[U (lrOf s.E a).A (lrOf s.E a).ks.length (lrOf s.E a).c,st]) we∧Fr (· =s.gm) w we∧
  ∀(w2:Ac) (l:Lr),Fr (λq=>q≠s.gm) we w2→ ∃w3,(Instr.entryStore 137 (.map (I s.gm)) st (U l.A l.ks.length l.c)).run Tryz.prog w2=.ok () w3∧(∃bs clock,MapL Tryz.prog 103 kyv w3 s.gm ((putL (s.base a) a l).map ent) bs clock)∧Fr (· =s.gm) w2 w3:=by
 obtain⟨bs,clock,hm⟩:=h.m
 obtain⟨l0,hl⟩:=keyOf_ky a ha
 have hlk:=lk_ent s.E a
 by_cases hin:hasE s.E a=Af
 ·obtain⟨we,j,hj,hb,e1,hrun,hme,hf⟩:=hm.entry_old keyLaw kyv_inj Tryz.underlying137 hl (by rw[has_ent];exact hin);have h2:=lk_at hm.kd hj;rw[e1] at h2;rw[h2] at hlk;have hlk:(s.E.map ent)[j].2=U (lrOf s.E a).A (lrOf s.E a).ks.length (lrOf s.E a).c:=hlk;rw[hlk] at hrun;refine⟨we,_,hrun,hf,λw2 l f2=>?_⟩;have hm2:=hme.fr f2 (λe=>e rfl);obtain⟨w3,g1,g2,g3⟩:=hm2.stamp 137 hj hb (U l.A l.ks.length l.c);rw[e1,rep_putL] at g2;have hbase:s.base a=s.E:=by unfold Cs.base;rw[An hin]
  exact⟨w3,g1,⟨_,_,by rw[hbase];exact g2⟩,g3⟩
 ·have hin:hasE s.E a=Aa:=by simpa using hin
  obtain⟨we,hrun,hme,hf⟩:=hm.entry_new keyLaw kyv_inj Tryz.underlying137 hl (by rw[has_ent];exact hin) (zK w);have hz:(U G 0 0)=U (lrOf s.E a).A (lrOf s.E a).ks.length (lrOf s.E a).c:=by rw[Ix hin];rfl
  have hj:(s.E.map ent).length<(s.E.map ent++[(a,U G 0 0)]).length:=AB;have hb:(s.E.map ent).length<(bs++[clock]).length:=by rw[←hm.len];simp
  have hbe:(bs++[clock])[(s.E.map ent).length]'hb=clock:=by
   have:=hm.len;simp[←this]
  have hke:((s.E.map ent++[(a,U G 0 0)])[(s.E.map ent).length]'hj).1=a:=AB;refine⟨we,goInt clock,by rw[←hz];exact hrun,hf,λw2 l f2=>?_⟩;have hm2:=hme.fr f2 (λe=>e rfl);obtain⟨w3,g1,g2,g3⟩:=hm2.stamp 137 hj hb (U l.A l.ks.length l.c);rw[hbe] at g1;rw[hke] at g2;have hbase:(s.E.map ent++[(a,U G 0 0)])=(s.base a).map ent:=by
   unfold Cs.base;rw[hin];simp[ent,eL]
  rw[hbase,rep_putL] at g2;exact⟨w3,g1,⟨_,_,g2⟩,g3⟩
variable{s:Cs}
theorem base_mem{p:Ky×Lr}(hp:p∈s.base a):p∈s.E∨p=(a,eL):=by
 unfold Cs.base at hp;by_cases h:hasE s.E a=Af;·rw[An h] at hp;exact Ag hp
 ·rw[Ae h] at hp;rcases BZ.1 hp with h|h;·exact Ag h
  ·exact Ah (Dv.1 h)
theorem VB(h:hasE E a=Aa): ∀p∈E,p.1≠a:=by
 unfold hasE at h;rw[List.any_eq_false] at h;intro p hp e;exact h p hp (by simp[e])
theorem base_nd(h:(s.E.map (·.1)).Nodup):(s.base a).Pairwise (λp q=>p.1≠q.1):=by
 have h0:s.E.Pairwise (λp q=>p.1≠q.1):=List.pairwise_map.1 h;unfold Cs.base;by_cases hh:hasE s.E a=Af;·rw[An hh];exact h0
 ·rw[Ae hh];rw[List.pairwise_append];refine⟨h0,AB,λp hp q hq=>?_⟩;rw[Dv.1 hq];exact VB (by simpa using hh) p hp
theorem apartL(hs:s.E.Pairwise (λp q=> ∀k,ab p.2.A=I k→ab q.2.A≠I k)){p:Ky×Lr}(hp:p∈s.E)(hne:p.1≠a){q:Nat}(hq:ab p.2.A=I q):ab (lrOf s.E a).A≠I q:=by
 by_cases h:hasE s.E a=Af
 ·obtain⟨p0,h1,h2,h3⟩:=Iy h;rw[h3];intro e;obtain⟨i,hi,rfl⟩:=DD hp;obtain⟨j,hj,rfl⟩:=DD h1;rw[List.pairwise_iff_getElem] at hs;rcases Nat.lt_trichotomy i j with h4|h4|h4;·exact hs i j hi hj h4 q hq e
  ·subst h4;exact hne h2
  ·exact hs j i hj hi h4 q e hq
 ·rw[Ix C3];simp[eL,ab]
theorem Cs.link_ok(h:s.Ok){b:Ky}{l:Lr}(ha:a∈s.bl.map Bk.k)(hb:b∈s.bl.map Bk.k)(hl:l.ks=lnk s.E a++[b])(hn:b∉lnk s.E a):(s.link a l).Ok:=by
 have hk:l.ks.Nodup∧ ∀k∈l.ks,k∈s.bl.map Bk.k:=by
  have h0:(lnk s.E a).Nodup∧ ∀k∈lnk s.E a,k∈s.bl.map Bk.k:=by
   rw[lnk_lr];by_cases hh:hasE s.E a=Af;·obtain⟨p,hp,_,e⟩:=Iy hh;rw[e];exact h.tos p hp
   ·rw[Ix (by simpa using hh)];exact⟨List.nodup_nil,by simp[eL]⟩
  rw[hl];refine⟨List.nodup_append.2 ⟨h0.1,AB,λx hx y hy e=>?_⟩,λk hk=>?_⟩
  ·have:y=b:=by simpa using hy
   exact hn (by rw[←this,←e];exact hx)
  ·rcases BZ.1 hk with hk|hk;·exact h0.2 k hk
   ·rw[Dv.1 hk];exact hb
 refine⟨h.room,h.len,h.keys,h.kd,h.ct,h.code,h.fl,λp hp=>?_,λp hp=>?_⟩
 ·obtain⟨q,hq,rfl⟩:=Bo.1 hp;show(if q.1=a then(q.1,l) else q).1∈s.bl.map Bk.k;have:(if q.1=a then(q.1,l) else q).1=q.1:=by split<;>rfl
  rw[this];rcases base_mem hq with h1|h1;·exact h.froms q h1
  ·rw[h1];exact ha
 ·obtain⟨q,hq,rfl⟩:=Bo.1 hp;by_cases e:q.1=a;·rw[An e];exact hk
  ·rw[Ae e];rcases base_mem hq with h1|h1;·exact h.tos q h1
   ·rw[h1] at e;exact absurd rfl e
theorem Cch.linkB{w w3:Ac}{g:Nat}(h:Cch w g s){b:Ky}{l:Lr}(ha:a∈s.bl.map Bk.k)(hb:b∈s.bl.map Bk.k)(hl:l.ks=lnk s.E a++[b])(hn:b∉lnk s.E a)(f:Fr (λq=>q=s.gm∨ab (lrOf s.E a).A=I q) w w3)(hm: ∃bs clock,MapL Tryz.prog 103 kyv w3 s.gm ((putL (s.base a) a l).map ent) bs clock)(hr:LrOk w3 l)(hnew: ∀q,ab l.A=I q→ab (lrOf s.E a).A=I q∨w.heap.size≤q):Cch w3 g (s.link a l):=by
 have hS: ∀q,(q=s.gm∨ab (lrOf s.E a).A=I q)→(q=s.gm∨ ∃p∈s.E,ab p.2.A=I q):=λq e=>by
  rcases e with e|e;·exact Ag e
  ·by_cases hh:hasE s.E a=Af;·obtain⟨p,hp,_,e2⟩:=Iy hh;exact Ah ⟨p,hp,Gq⟩
   ·exact RN
 obtain⟨t1,t2,t3,t4,t5⟩:=h.srt;have hkd:(s.E.map (·.1)).Nodup:=by
  obtain⟨bs,clock,hm0⟩:=h.m;have:=hm0.kd;rw[D8] at this;exact this
 refine⟨h.b.fr f (λe=>(h.apart (hS _ e)).1 rfl),hm,h.r.fr f (λq hq e=>(h.apart (hS _ e)).2.1 hq),λx hx=>(h.code x hx).fr f (λq hq e=>(h.apart (hS _ e)).2.2 x hx hq),λp hp=>?_, ?_,Cs.link_ok h.ok ha hb hl hn⟩
 ·obtain⟨q,hq,rfl⟩:=Bo.1 hp;by_cases e:q.1=a;·rw[An e];exact hr
  ·rw[Ae e];rcases base_mem hq with h1|h1
   ·refine(h.rows q h1).fr f (λk hk e2=>?_);rcases e2 with e2|e2;·have:=t5 q h1 k hk;rw[e2,t2] at this;simp at this
    ·exact apartL h.sep h1 e hk e2
   ·rw[h1] at e;exact absurd rfl e
 ·show(putL (s.base a) a l).Pairwise _;unfold putL;rw[List.pairwise_map];have hsep:(s.base a).Pairwise (λp q=> ∀k,ab p.2.A=I k→ab q.2.A≠I k):=by
   unfold Cs.base;by_cases hh:hasE s.E a=Af;·rw[An hh];exact h.sep
   ·rw[Ae hh,List.pairwise_append];refine⟨h.sep,AB,λp hp q hq k hk=>?_⟩;rw[Dv.1 hq];simp[eL,ab]
  refine List.Pairwise.imp_of_mem ?_ ((base_nd hkd).and hsep);rintro p q hp hq ⟨h1,h2⟩ k;have key: ∀r∈s.base a,r.1≠a→ ∀k,ab r.2.A=I k→ab l.A≠I k:=λr hr2 hne k hk e=>by
   rcases base_mem hr2 with h3|h3
   ·rcases hnew k e with h4|h4;·exact apartL h.sep h3 hne hk h4
    ·have:=(h.rows r h3).low hk;omega
   ·rw[h3] at hne;exact hne rfl
  by_cases ep:p.1=a;·have eq:q.1≠a:=λe=>h1 (ep.trans e.symm);rw[An ep,Ae eq];exact λe1 e2=>key q hq eq k e2 e1
  ·rw[Ae ep];by_cases eq:q.1=a;·rw[An eq];exact λe1 e2=>key p hp ep k e1 e2
   ·rw[Ae eq];exact h2 k
end Ca
end Go.Proofs.YtpmlgdopfafcgaaGreatDoor
