import Derived.Test.YtdfegdoeebaagaaGreatDoorX8
open Go.Value renaming slice→Z,int→J,bool→Ap,tuple→AF,ownBlock→Cb,agg→A9,pointer→Bm,oneCell'→Ir
open Option renaming some→I,none→G
open Go.IntKind renaming i64→U,u32→V,u8→AB
open Go renaming World→Aa,Calls→At,Ending→AY,info_parts→Cj,maxLen→BQ,wpList→Cy
open Bool renaming false→Ac,true→Ag
open List renaming getD_eq_getElem?_getD→AS,getElem?_eq_getElem→BK,length_append→Cq,mem_map→BS,getElem_mem→CE,range→Cl,mem_append→Da,getElem?_map→DP,length_pos_iff→Ef,mem_filter→DF,mem_cons→Dv,length_map→Fo,mem_singleton→Ii,length_take→Iv
open Go.Ending renaming returned→Ax
open Nat renaming zero_le→Bj
open Or renaming inl→Af,inr→Ah
set_option linter.all false
set_option maxHeartbeats 40000000
set_option maxRecDepth 1000000
open Go Go.RowKit
namespace Go.Proofs.YtdfegdoeebaagaaGreatDoor
namespace Ca
open Mz Go.Maps
def Cs.upto(s:Cs)(ps:List Int)(l:List Bk):Cs:=l.foldl (λs b=>s.drop1 ps b) s
def I7(ps:List Int)(l:List Bk):Nat:=(l.filter (gone ps)).length
def Cs.drop(s:Cs)(ps:List Int):Cs:={s with E:=(s.upto ps s.bl).E,bl:=s.bl.filter (λb=> !gone ps b)}
theorem oW(s:Cs)(ps:List Int)(b:Bk):(s.drop1 ps b).gm=s.gm∧(s.drop1 ps b).bl=s.bl∧(s.drop1 ps b).A=s.A:=by
 unfold Cs.drop1;split<;>exact⟨rfl,rfl,rfl⟩
theorem MQ(ps:List Int): ∀(l:List Bk) (s:Cs),(s.upto ps l).gm=s.gm
 |[],s=>rfl
 |b::l,s=>by
  show((s.drop1 ps b).upto ps l).gm=_;rw[MQ ps l,(oW s ps b).1]
theorem Km(ps:List Int): ∀(l:List Bk) (s:Cs),∀p∈(s.upto ps l).E,(∀b∈l,gone ps b=Ag→p.1≠b.k∧b.k∉p.2.ks)∧ ∃p'∈s.E,p.1=p'.1∧p.2.A=p'.2.A∧p.2.ks.Sublist p'.2.ks
 |[],s,p,hp=>⟨AC,p,hp,rfl,rfl,List.Sublist.refl _⟩
 |b::l,s,p,hp=>by
  have hp:p∈((s.drop1 ps b).upto ps l).E:=hp;obtain⟨h1,p',hp',e1,e2,e3⟩:=Km ps l _ p hp;unfold Cs.drop1 at hp';by_cases hg:gone ps b=Ag
  ·rw[An hg] at hp';obtain⟨q,hq,rfl⟩:=BS.1 hp';obtain⟨hq1,hq2⟩:=DF.1 hq;have hne:q.1≠b.k:=by simpa using hq2
   have hns:b.k∉(CZ b.k q.2).ks:=λe=>by have:=(DF.1 e).2;simp at this
   refine⟨λx hx hgx=>?_,q,hq1,e1,e2,e3.trans List.filter_sublist⟩;rcases Dv.1 hx with rfl|hx;·exact⟨by rw[e1];exact hne,λe=>hns (e3.subset e)⟩
   ·exact h1 x hx hgx
  ·rw[Ae hg] at hp';refine⟨λx hx hgx=>?_,p',hp',e1,e2,e3⟩;rcases Dv.1 hx with rfl|hx;·exact absurd hgx hg
   ·exact h1 x hx hgx
theorem oX(ps:List Int)(s:Cs)(l:List Bk)(b:Bk):s.upto ps (l++[b])=(s.upto ps l).drop1 ps b:=by
 unfold Cs.upto;rw[List.foldl_append];rfl
theorem oY(ps:List Int)(l:List Bk)(b:Bk):I7 ps (l++[b])=cnt1 (I7 ps l) ps b:=by
 unfold I7 cnt1;rw[List.filter_append,Cq];by_cases h:gone ps b=Ag;·rw[An h,List.filter_cons,An h];rfl
 ·rw[Ae h,List.filter_cons,Ae h];rfl
theorem take_snoc{l:List Bk}{q:Nat}(h:q<l.length):l.take (q+1)=l.take q++[Ch l q]:=by
 rw[List.take_add_one,BK h,Jr h];rfl
theorem cntG_le(ps:List Int)(l:List Bk):I7 ps l≤l.length:=List.length_filter_le _ _
theorem Cs.drop_ok{s:Cs}(h:s.Ok)(ps:List Int):(s.drop ps).Ok:=by
 have hs: ∀b∈s.bl.filter (λb=> !gone ps b),b∈s.bl:=λb hb=>(DF.1 hb).1;have hk: ∀x,x∈s.bl.map Bk.k→(∀b∈s.bl,gone ps b=Ag→x≠b.k)→x∈(s.bl.filter (λb=> !gone ps b)).map Bk.k:=λx hx hn=>by
  obtain⟨b,hb,rfl⟩:=BS.1 hx;refine List.mem_map_of_mem (DF.2 ⟨hb, ?_⟩)
  cases hg:gone ps b with
  |false=>rfl
  |true=>exact absurd rfl (hn b hb hg)
 refine⟨h.room, ?_,λb hb=>h.keys b (hs b hb),h.kd.sublist (List.filter_sublist.map _),λb hb=>h.ct b (hs b hb),λb hb=>h.code b (hs b hb),h.fl,λp hp=>?_,λp hp=>?_⟩;·have h1:(s.bl.filter (λb=> !gone ps b)).length≤s.bl.length:=List.length_filter_le _ _;have:=h.len;show((s.bl.filter (λb=> !gone ps b)).length:Int)≤s.room;omega
 ·obtain⟨h1,p',hp',e1,e2,e3⟩:=Km ps s.bl s p hp;exact hk _ (by rw[e1];exact h.froms p' hp') (λb hb hg=>(h1 b hb hg).1)
 ·obtain⟨h1,p',hp',e1,e2,e3⟩:=Km ps s.bl s p hp;have:=h.tos p' hp';exact⟨this.1.sublist e3,λk hk2=>hk k (this.2 k (e3.subset hk2)) (λb hb hg e=>(h1 b hb hg).2 (e▸hk2))⟩
theorem oZ(l:List Bk)(q:Bk→Bool):(kept (λt=> !q (Ch l t)) l.length).map (Ch l)=l.filter q:=by
 have e:(Cl l.length).map (Ch l)=l:=by
  apply List.ext_getElem;·simp
  ·intro i h1 h2;simp[Jr h2]
 unfold kept;have:(λt=> !!q (Ch l t))=q∘Ch l:=by funext t;simp
 rw[this,←List.filter_map,e]
def Cs.sx(s:Cs)(q:Nat):Prop:=ab s.A=I q∨q=s.gm∨ ∃p∈s.E,ab p.2.A=I q
structure Mid(w:Aa)(g gp gc gn:Nat)(s:Cs)(ps:List Int)(pA:Aw)(np pc:Nat)(q:Nat)(W:Aa):Prop where
 lk:LK W g (s.upto ps (s.bl.take q))
 b:Blk W g 152 (IP s)
 bp:Blk W gp 85 #[Z pA np pc]
 bc:Blk W gc 119 #[↑g]
 bn:Blk W gn 3 #[J U (I7 ps (s.bl.take q):Nat)]
 fr:Fr s.sx w W
theorem Mid.fr'{w W W':Aa}{g gp gc gn:Nat}{s:Cs}{ps:List Int}{pA:Aw}{np pc q:Nat}(h:Mid w g gp gc gn s ps pA np pc q W){gl:Nat}(hA:ab s.A=I gl)(hc:Cch w g s)(h1:↑w≤gp)(h2:↑w≤gc)(h3:↑w≤gn)(f:Fr (· =gl) W W'):Mid w g gp gc gn s ps pA np pc q W':=by
 obtain⟨t1,t2,t3,t4,t5⟩:=hc.srt;have hgl:gl<↑w:=by
  rcases hc.r with⟨_,e,_⟩|⟨gl2,e,hr,_⟩;·rw[e] at hA;cases hA
  ·rw[e] at hA;have e2:gl2=gl:=by simpa[ab] using hA
   subst e2;obtain⟨F,hF,_⟩:=hr;exact hF.lt
 have hg:g≠gl:=λe=>by have:=t3 gl hA;rw[←e,t1] at this;simp at this
 refine⟨h.lk.fr f hg (λe=>?_) (λp hp q2 hq e=>?_),h.b.fr f hg,h.bp.fr f (λe=>O),h.bc.fr f (λe=>O),h.bn.fr f (λe=>O),h.fr.tr (f.mono (λq2 _ e=> Af (by rw[e];exact hA)))⟩;·rw[MQ] at e;have e:s.gm=gl:=e;have:=t3 gl hA;rw[←e,t2] at this;simp at this
 ·obtain⟨_,p',hp',_,e2,_⟩:=Km ps _ s p hp;have e:q2=gl:=e;subst e;have h4:=t5 p' hp' q2 (by rw[←e2];exact hq);rw[t3 q2 hA] at h4;simp at h4
theorem del_any(w w0:Aa)(g gp gc gn:Nat)(s:Cs)(hc:Cch w g s)(ps:List Int)(B np pc:Nat)(pA:Aw)(hp: ∀W,Fr s.sx w W→IntsAt U W B pA np ps)(hm:np≤BQ)(hB:B≤↑w)(h1:↑w≤gp)(h2:↑w≤gc)(h3:↑w≤gn)(hne:gp≠gn)(hcn:gc≠gn)(h0:Mid w g gp gc gn s ps pA np pc 0 w0)(hw0:Fr Aj w w0):At Tryz.prog 69 #[Z s.A s.bl.length s.c,.func (.func 70) #[] #[↑gp,↑gc,↑gn]] w0 λe w'=>e=Ax (Z s.A (s.drop ps).bl.length s.c)∧BRow w' s.A s.c (s.drop ps).bl∧Mid w g gp gc gn s ps pA np pc s.bl.length w':=by
 have hlen:=hc.ok.len;have hroom:=hc.ok.room;rcases hc.r with⟨e1,e2,e3⟩|⟨gl,hA,hrow,hcm⟩
 ·have hbl:(s.drop ps).bl=[]:=by show s.bl.filter _=[];rw[e1];rfl
  rw[hbl,e1,e2,e3];rw[show([]:List Bk).length=0 from rfl] at*;have Hi:=T (QE w0 G 0 0 O (λ_=>dBk) 70 #[↑gp,↑gc,↑gn] (λargs W=>Fu) (λq W=>w0=W) (λ_=>Ac) rfl (λq W _ q' hq=>absurd hq O) (λq W hq=>absurd hq O));have H0:=T h0;clear h0 hc hp;go_in;go_wp2_with fail;refine Az Hi ?_;rintro e w' (⟨m,hm,_⟩|⟨rfl,_,rfl⟩);·omega
  ·go_wp2
   go_ret;exact⟨rfl,Af ⟨rfl,rfl,rfl⟩,H0.out⟩
 ·have hgl:gl<↑w:=by obtain⟨F,hF,_⟩:=hrow;exact hF.lt
  have hAb:ab s.A=I gl:=by rw[hA];rfl
  have hs0:=h0.fr.size;have hsw0:w.heap.size≤w0.heap.size:=hs0;have hgw:g<↑w:=hc.b.lt;obtain⟨t1,t2,t3,t4,t5⟩:=hc.srt;have hgmw:s.gm<↑w:=by obtain⟨_,_,hm0⟩:=hc.m;exact hm0.bound
  have hrl: ∀p∈s.E,∀q,ab p.2.A=I q→q<w.heap.size:=λp hp q e=>(hc.rows p hp).low e;have hrow0:Row_b w0 gl s.c s.bl.length (Ch s.bl):=hrow.fr hw0 id;have Hd:=delete_b w0 gl s.bl.length s.c (Ch s.bl) hrow0 O hcm 70 #[↑gp,↑gc,↑gn] (λargs W=>Fu) (λq=>q=gn∨q=s.gm∨ ∃p∈s.E,ab p.2.A=I q)
   ⟨λe=>by
    rcases e with e|e|⟨p,hp,e⟩;·omega
    ·have:=t3 gl hAb;rw[e,t2] at this;simp at this
    ·have h4:=t5 p hp gl e;rw[t3 gl hAb] at h4;simp at h4,λk e=>by
    rcases e with e|e|⟨p,hp,e⟩;·rw[e];exact h0.bn.lt
    ·omega
    ·have:=hrl p hp k e;omega⟩
   (Mid w g gp gc gn s ps pA np pc) (λq=>gone ps (Ch s.bl q)) h0 (λq W W' h f=>h.fr' hAb hc h1 h2 h3 f)
   (λq W hq h=>by
    have hmem:Ch s.bl q∈s.bl:=by rw[Jr hq];exact CE hq
    have hky:=hc.ok.keys _ hmem;have hsW:=h.fr.size;have h5:(Ch s.bl q).pl≤4294967295:=hky.2.2;have h6:0≤(Ch s.bl q).pl:=hky.2.1;have hcnt:I7 ps (s.bl.take q)≤1000000:=by
     have g1:=cntG_le ps (s.bl.take q);have g2:(s.bl.take q).length≤s.bl.length:=by rw[Iv];omega
     omega
    refine(oV W g gp gc gn ↑w (s.upto ps (s.bl.take q)) h.lk (Ch s.bl q) hky ⟨h6,O⟩ ps B np pc pA (hp W h.fr) hm O (I7 ps (s.bl.take q)) hcnt h.bp h.bc h.bn hgw (by rw[MQ];exact hgmw) (λp hp q2 hq2=>?_) h3 h2 hcn).mono ?_;·obtain⟨_,p',hp',_,e2,_⟩:=Km ps _ s p hp;exact hrl p' hp' q2 (by rw[←e2];exact hq2)
    ·rintro e w' ⟨g1,g2,g3,g4⟩;have g4':Fr (λq=>q=gn∨q=s.gm∨ ∃p∈s.E,ab p.2.A=I q) W w':=g4.mono (λq2 _ e=>by
      rcases e with e|e|⟨p,hp,e⟩;·exact Af e
      ·exact Ah (Af (by rw[MQ] at e;exact e))
      ·obtain⟨_,p',hp',_,e2,_⟩:=Km ps _ s p hp;exact Ah (Ah ⟨p',hp',MP⟩))
     have hno: ∀q2,w.heap.size≤q2→q2≠gn→ ¬(q2=gn∨q2=s.gm∨ ∃p∈s.E,ab p.2.A=I q2):=λq2 hq2 hne2 e=>by
      rcases e with e|e|⟨p,hp,e⟩;·exact hne2 e
      ·omega
      ·have:=hrl p hp q2 e;omega
     refine⟨g1,⟨?_,h.b.fr g4' (λe=>?_),h.bp.fr g4' (hno gp h1 hne),h.bc.fr g4' (hno gc h2 hcn), ?_,h.fr.trans g4' (λq2 hq2 e=>?_)⟩,g4'⟩;·rw[take_snoc hq,oX];exact g2
     ·rcases e with e|e|⟨p,hp,e⟩;·omega
      ·rw[e,t2] at t1;simp at t1
      ·have h4:=t5 p hp g e;rw[t1] at h4;simp at h4
     ·rw[take_snoc hq,oY];exact g3
     ·rcases e with e|e;·omega
      ·exact Ah e)
  rw[hA];refine Hd.mono ?_;rintro e w' ⟨g1,g2,g3⟩;have hk:=oZ s.bl (λb=> !gone ps b);simp only[Bool.not_not] at hk;have hkl:(kept (λq=>gone ps (Ch s.bl q)) s.bl.length).length=(s.drop ps).bl.length:=by
   show _=(s.bl.filter _).length;rw[←hk,Fo]
  refine⟨by rw[g1,hkl],Ah ⟨gl,rfl, ?_,hcm⟩,g2⟩;rw[hkl] at g3;obtain⟨F,q1,q2,q3⟩:=g3;refine⟨F,q1,q2,λq hq c hc=>?_⟩;rw[q3 q hq c hc];congr 1;show Ch s.bl _=Ch (s.bl.filter _) q;rw[←hk];have hq2:q<(kept (λq=>gone ps (Ch s.bl q)) s.bl.length).length:=by rw[hkl];exact hq
  show _=List.getD (List.map _ _) q dBk;rw[AS (l:=List.map _ _),DP,AS (l:=kept _ _),BK hq2];rfl
end Ca
namespace Ca
open Mz Go.Maps
def Sk(w:Aa)(g:Nat)(s:Cs)(ps:List Int)(e:AY)(w':Aa):Prop:=
 e=Ax (J U (I7 ps s.bl:Nat))∧Cch w' g (s.drop ps)∧Fr (s.wr g) w w'∧ ∀q,(s.drop ps).own g q→s.own g q
theorem sx_wr{s:Cs}{g q:Nat}(h:s.sx q):s.wr g q:=by
 rcases h with h|h|h;·exact Ah (Af h)
 ·exact Ah (Ah (Af h))
 ·exact Ah (Ah (Ah h))
theorem drop_cch{w W:Aa}{g gp gc gn:Nat}{s:Cs}{ps:List Int}{pA:Aw}{np pc:Nat}(h:Cch w g s)(hm:Mid w g gp gc gn s ps pA np pc s.bl.length W)(hr:BRow W s.A s.c (s.drop ps).bl):Cch (W.setCell ⟨g,1,G⟩ (Z s.A (s.drop ps).bl.length s.c)) g (s.drop ps):=by
 have f:Fr (· =g) W (W.setCell ⟨g,1,G⟩ (Z s.A (s.drop ps).bl.length s.c)):=Br _ _ _ _;have tg:=srt_blk hm.b;have hE:s.upto ps (s.bl.take s.bl.length)=s.upto ps s.bl:=by rw[List.take_length]
 have hlk:=hm.lk;rw[hE] at hlk;obtain⟨t1,t2,t3,t4,t5⟩:=h.srt;refine⟨?_, ?_,hr.fr f (λq hq e=>aW),λx hx=>?_,λp hp=>?_,hlk.sep,Cs.drop_ok h.ok ps⟩;·have e:IP (s.drop ps)=(IP s).setIfInBounds 1 (Z s.A (s.drop ps).bl.length s.c):=rfl;rw[e];exact hm.b.set_ 1 _
 ·obtain⟨bs,clock,hmm⟩:=hlk.m;rw[MQ] at hmm;exact⟨bs,clock,hmm.fr f (λe=>by have e:s.gm=g:=e;have:=IW hmm.b;rw[e,tg] at this;simp at this)⟩
 ·have hx0:x∈s.bl:=(DF.1 hx).1;have hcx:=(h.code x hx0).fr hm.fr (λq hq e=>by
   have h4:=t4 x hx0 q hq;rcases e with e|e|⟨p,hp,e⟩;·rw[t3 q e] at h4;simp at h4
   ·rw[e,t2] at h4;simp at h4
   ·rw[t5 p hp q e] at h4;simp at h4)
  exact hcx.fr f (λq hq e=>aX)
 ·exact(hlk.rows p hp).fr f (λq hq e=>by have:=(hlk.rows p hp).srt hq;rw[e,tg] at this;simp at this)
set_option maxRecDepth 100000 in
theorem drop_any(w:Aa)(g:Nat)(s:Cs)(h:Cch w g s)(ps:List Int)(B np pc:Nat)(pA:Aw)(hp: ∀W,Fr s.sx w W→IntsAt U W B pA np ps)(hm:np≤BQ)(hB:B≤↑w):At Tryz.prog 53 #[↑g,Z pA np pc] w (Sk w g s ps):=by
 have f1:=(Ao Aj w).alloc (.cells #[↑g] 119);have s1:(w.alloc (.cells #[↑g] 119)).heap.size=w.heap.size+1:=AC;have f2:=f1.alloc (.cells #[Z pA np pc] 85);have s2:((w.alloc (.cells #[↑g] 119)).alloc (.cells #[Z pA np pc] 85)).heap.size=w.heap.size+2:=AC;have f3:=f2.alloc (.cells #[J U 0] 3);have bc:=((AI w 119 #[↑g]).alloc (.cells #[Z pA np pc] 85)).alloc (.cells #[J U 0] 3);have bp:=((CK (w.alloc (.cells #[↑g] 119)) 85 #[Z pA np pc] s1)).alloc (.cells #[J U 0] 3);have bn:=CK ((w.alloc (.cells #[↑g] 119)).alloc (.cells #[Z pA np pc] 85)) 3 #[J U 0] s2;have h3:=h.fr0 f3;obtain⟨c0,c1,c2,c3⟩:=h3.cells;have hgl:=h.b.lt;have HC:=T h;have F3:=T f3;generalize hw3:((w.alloc (.cells #[↑g] 119)).alloc (.cells #[Z pA np pc] 85)).alloc (.cells #[J U 0] 3)=w3 at*;have hmid:Mid w g (↑w+1) ↑w (↑w+2) s ps pA np pc 0 w3.drew:=⟨(h3.fr0 ((Ao _ w3).drew)).lk,h3.b.drew,bp.drew,bc.drew,bn.drew,(f3.mono (λ_ _ e=>e.elim)).drew⟩;have Hd:=T (del_any w w3.drew g (↑w+1) ↑w (↑w+2) s h ps B np pc pA hp hm hB O O O O O hmid (f3.drew));have k0:w3.cell? ⟨↑w,0,G⟩=I ↑g:=bc.cell 0;obtain⟨sn,hsn⟩:=A8 s.bl.length;obtain⟨sA,hsA⟩:=A8 s.A;obtain⟨sc,hsc⟩:=A8 s.c;obtain⟨dn,hdn⟩:=A8 ((s.drop ps).bl.length);have HD2:Hid (At Tryz.prog 69 #[Z sA sn sc,.func (.func 70) #[] #[Bm (I ⟨↑w+1,0,G⟩),Bm (I ⟨↑w,0,G⟩),Bm (I ⟨↑w+2,0,G⟩)]] w3.drew λe w'=>e=Ax (Z sA dn sc)∧Hid (BRow w' s.A s.c (s.drop ps).bl)∧Hid (Mid w g (↑w+1) ↑w (↑w+2) s ps pA np pc s.bl.length w')):=T (by
  have:=Hd.out;rw[hsn,hsA,hsc,hdn] at this;rw[hsn,hsA,hsc];exact this.mono λe w' ⟨g1,g2,g3⟩=>⟨g1,T g2,T g3⟩)
 rw[hsn,hsA,hsc] at c1;have HDN:=T hdn;have HSA:=T hsA;have HSC:=T hsc;have HSN:=T hsn;obtain⟨cn,hcn⟩:=A8 (I7 ps s.bl);have HCN:=T hcn;have hdp:Sk w g s ps=λe w'=>e=Ax (J U (cn:Nat))∧Hid (Cch w' g (s.drop ps)∧Fr (s.wr g) w w'∧ ∀q,(s.drop ps).own g q→s.own g q):=by unfold Sk;rw[hcn];rfl
 have HOWN:Hid (∀q,(s.drop ps).own g q→s.own g q):=T (by
  rintro q ((e|e|e|⟨p,hp,e⟩)|⟨x,hx,e⟩);·exact JO
  ·exact JP
  ·exact Ov
  ·obtain⟨_,p',hp',_,e2,_⟩:=Km ps _ s p hp;exact Af (Ah (Ah (Ah ⟨p',hp',MP⟩)))
  ·exact Ah ⟨x,(DF.1 hx).1,e⟩)
 rw[hdp];subst hw3;clear h h3 hmid Hd bc bp bn f1 f2 f3 hp s1 s2 c0 c2 c3 hdp hsn hsA hsc hdn hcn;go_in;go_upto_region 2 with(fail);generalize((w.alloc (.cells #[↑g] 119)).alloc (.cells #[Z pA np pc] 85)).alloc (.cells #[J U 0] 3)=w3 at*;go_region_law (
  go_simp
  refine Az HD2 ?_
  rintro e w5 ⟨rfl,hb5,hm5⟩
  have k5:w5.cell? ⟨↑w,0,G⟩=I ↑g:=hm5.out.bc.cell 0
  have z1: ∃v,w5.cell? ⟨g,1,G⟩=I v:=⟨_,hm5.out.b.cell 1⟩
  obtain⟨z,hz⟩:=z1
  have y1:=hm5.out.b.frozen 1
  have hl5:=hm5.out.b.lt)
 all_goals
  have n0:(w5.setCell ⟨g,1,G⟩ (Z sA dn sc)).cell? ⟨↑w+2,0,G⟩=I (J U (cn:Nat)):=by
   have:=(hm5.out.bn.far (p:=⟨g,1,G⟩) (by show ↑w+2≠g;omega) (Z sA dn sc)).cell 0;rw[List.take_length,HCN.out] at this;exact this
  clear hz y1 k5 k0 c1
  go_wp2
  go_ret;have hC:=drop_cch HC.out hm5.out hb5.out;rw[HSA.out,HDN.out,HSC.out] at hC;exact⟨rfl,T ⟨hC,(hm5.out.fr.mono (λq _ e=>sx_wr e)).setCell (p:=⟨g,1,G⟩) (Af (Af rfl)) _,HOWN.out⟩⟩
end Ca
namespace Ca
open Mz Go.Maps
theorem info4:(Tryz.prog.info? 149).map (λi=>(i.zero,i.size,i.bytes))=I (I (A9 #[J V 0,J V 0,Z G 0 0,J U 0]),4,40):=AL
def fJ(w:Aa)(g:Nat)(s:Cs)(mk:Aw→Nat→Bk)(e:AY)(w':Aa):Prop:=
 ∃A' c' A2 c2 gm2,e=Ax (Ap Ag)∧Cch w' g (s.put (mk A' c') A2 c2 gm2)∧Fr (s.wr g) w w'∧ ∀q,(s.put (mk A' c') A2 c2 gm2).own g q→s.own g q∨w.heap.size≤q
set_option maxRecDepth 100000 in
theorem put_any(w:Aa)(g:Nat)(s:Cs)(h:Cch w g s)(pc pl:Int)(code:List Int)(ct:Int)(A:Aw)(c B:Nat)(hr:Reads w B 1 A code.length (code.map (J AB)))(hB:B≤↑w)(hk:Ky.Ok (pc,pl))(hct:1≤ct∧ct≤9223372036854775807)(hcode:code≠[]∧code.length≤1000000∧ ∀z∈code,0≤z∧z<256)(hfl:s.fl≤1000000):At Tryz.prog 118 #[↑g,A9 #[J V pc,J V pl,Z A code.length c,J U ct]] w (fJ w g s λA' c'=>⟨pc,pl,code,ct,A',c'⟩):=by
 obtain⟨i0,hin,hz0,hz1,hz2⟩:=Cj info4;have hpos:0<code.length:=Ef.2 hcode.1;have HBO:Hid (∀A' c',Bk.Ok ⟨pc,pl,code,ct,A',c'⟩):=T (λA' c'=>⟨hk,hct,hcode⟩);have hnn:A=G→code.length=0∧c=0:=λe=>by
  obtain⟨ad,e2,_⟩:=hr.2 (by simpa using hpos);rw[e] at e2;cases e2
 obtain⟨n,hn⟩:=A8 code.length;have f1:=(Ao Aj w).alloc (.cells #[J V pc,J V pl,Z A code.length c,J U ct] 149);have b1:Blk (w.alloc (.cells #[J V pc,J V pl,Z A code.length c,J U ct] 149)) ↑w 149 #[J V pc,J V pl,Z A code.length c,J U ct]:=AI _ _ _;have Hc:=T (clone_any _ A code.length c B _ (hr.alloc hB (.cells #[J V pc,J V pl,Z A code.length c,J U ct] 149)) AA GW O hnn);have HCL:=T hn;have hn1:n≤1000000:=by rw[←hn];exact hcode.2.1
 rw[hn] at f1 b1 Hc hpos;rw[hn];have HC:=T h;have HF1:=T f1;have HB1:=T b1;have HK:=T hk;have hct1:=hct.1;have hd0:decide (ct<1)=Ac:=AA;have hd1:=RY;have hd2:decide ((n:Int)=0)=Ac:=AA;have hgl0:=h.b.lt;clear h f1 b1 hr hk hnn hcode hn;go_in;go_wp2_with fail;refine Az Hc ?_;rintro e w2 ⟨A',c',rfl,hown,f2⟩;have hsz1:(w.alloc (.cells #[J V pc,J V pl,Z A n c,J U ct] 149)).heap.size=w.heap.size+1:=AC;have b2:=HB1.out.fr f2 id;have HNA:Hid (∀q,ab A'=I q→w.heap.size≤q):=T (λq e=>by
  have:=Cn hown q (by
   cases A' with
   |none=>cases e
   |some a=>simpa[Cb,ab] using e)
  omega)
 have HNG:Hid (∀q,ab A'=I q→q≠w.heap.size):=T (λq e e2=>by
  have:=Cn hown q (by
   cases A' with
   |none=>cases e
   |some a=>simpa[Cb,ab] using e)
  omega)
 have b3:=b2.set_ 2 (Z A' n c');have f3:Fr (λq=>q=w.heap.size) w2 (w2.setCell ⟨↑w,2,G⟩ (Z A' n c')):=Br _ _ _ _;have hcn2:CodeOk w2 ⟨pc,pl,code,ct,A',c'⟩:=by
  show w2.ownsRow 0 5 1 (Z A' code.length c') code.length _;rw[HCL.out];exact own_low hown (Bj _)
 have HCN3:=T (CodeOk.fr (b:=⟨pc,pl,code,ct,A',c'⟩) hcn2 f3 (λq hq e=>HNG.out q hq e));have fw3:Fr Aj w (w2.setCell ⟨↑w,2,G⟩ (Z A' n c')):=(HF1.out.tr f2).trans f3 (λq hq e=>O);have HF3:=T fw3;have HC3:=T (HC.out.fr0 fw3);have HB3:=T b3;have x0:=b2.cell 0;have x1:=b2.cell 1;have x2:=b2.cell 2;have y2:=b2.frozen 2;have hgb2:=b2.lt;have Hp:Hid (At Tryz.prog 90 #[↑g,A9 #[J V pc,J V pl]] (w2.setCell ⟨↑w,2,G⟩ (Z A' n c')) λe w'=>e=Ax (J U (idx (pc,pl) s.bl))∧Fr Aj (w2.setCell ⟨↑w,2,G⟩ (Z A' n c')) w'):=T (place_any _ g s HC3.out (pc,pl));obtain⟨i,hi⟩:=A8 (idx (pc,pl) s.bl);rw[hi] at Hp;have HI:=T hi;clear hi b2 b3 f3 fw3 f2 hown hcn2 Hc;go_wp2_with fail;refine Az Hp ?_;rintro e w4 ⟨rfl,f4⟩;have HF4:=T (HF3.out.tr f4);have h4:=HC3.out.fr0 f4;have b4:=HB3.out.fr f4 id;have HCN4:=T (CodeOk.fr (b:=⟨pc,pl,code,ct,A',c'⟩) HCN3.out f4 (λ_ _ e=>e));have hroom:=HC.out.ok.room;have hlen:=HC.out.ok.len;clear f4 Hp x0 x1 x2 y2;by_cases hi0:0≤i
 ·have hd3:decide (0≤i)=Ag:=by simpa using hi0
  obtain⟨m,rfl⟩: ∃m:Nat,i=m:=⟨i.toNat,O⟩;obtain⟨hm1,hm2⟩:=Kk _ _ _ HI.out;have Hu:Hid (At Tryz.prog 72 #[↑g,A9 #[J V pc,J V pl]] w4 λe w'=>e=Ax (AF #[])∧Cch w' g (s.unlink (pc,pl))∧Fr (λq=>q=s.gm∨ ∃p∈s.E,ab p.2.A=I q) w4 w'):=T (oN w4 g s h4 (pc,pl) HK.out);have u0:=b4.cell 0;have u1:=b4.cell 1;have HB4:=T b4;have H4:=T h4;clear b4 h4;go_wp2_with fail;refine Az Hu ?_;rintro e w5 ⟨rfl,h5,f5⟩;clear u0 u1;have hlow:Hid (∀q,(q=s.gm∨ ∃p∈s.E,ab p.2.A=I q)→q<w.heap.size):=T (λq e=>by
   rcases e with rfl|⟨p,hp,e⟩;·obtain⟨_,_,hm⟩:=HC.out.m;exact hm.bound
   ·exact(HC.out.rows p hp).low e)
  have b5:=HB4.out.fr f5 (λe=>by have:=hlow.out _ e;omega);have hcn5:=CodeOk.fr (b:=⟨pc,pl,code,ct,A',c'⟩) HCN4.out f5 (λq hq e=>by have:=hlow.out _ e;have:=HNA.out q hq;omega);have hc1:w5.cell? ⟨g,1,G⟩=I (Z s.A s.bl.length s.c):=h5.cells.2.1;rcases h5.r with⟨e1,_⟩|⟨gl,hA,hrow,hcm⟩;·exact absurd e1 (by show s.bl≠[];intro e1;rw[e1] at hm1;simp at hm1)
  ·have hA:s.A=I ⟨gl,0,G⟩:=hA;have hrow:Row_b w5 gl s.c s.bl.length (Ch s.bl):=hrow;have hC5:=T (Cch.setB (w:=w5.drew) (b:=⟨pc,pl,code,ct,A',c'⟩) (h5.fr0 ((Ao _ w5).drew)) HC.out.ok (HBO.out A' c') HI.out (CodeOk.fr (b:=⟨pc,pl,code,ct,A',c'⟩) hcn5 ((Ao Aj w5).drew) (λ_ _ e=>e)) hA);obtain⟨F,g1,g2,g3⟩:=hrow;have e0:=g1.cell (m*4) O;have e1:=g1.cell (m*4+1) O;have e2:=g1.cell (m*4+2) O;have e3:=g1.cell (m*4+3) O;have y0:=g1.frozen (m*4);have y1:=g1.frozen (m*4+1);have y2:=g1.frozen (m*4+2);have y3:=g1.frozen (m*4+3);have hgl:=g1.lt;have x0:=b5.cell 0;have x1:=b5.cell 1;have x2:=b5.cell 2;have x3:=b5.cell 3;have HF5:=T f5;have HSA:=T hA;rw[hA] at hc1;obtain⟨sn,hsn⟩:=A8 s.bl.length;rw[hsn] at hc1 hm1;have hm3:(m:Int)<(sn:Int):=O;have hm4:(0:Int)≤(m:Int):=O;clear g1 g2 g3 b5 hcn5 h5 f5 hm2 hA hsn;generalize F (m*4)=F0 at*;generalize F (m*4+1)=F1 at*;generalize F (m*4+2)=F2 at*;generalize F (m*4+3)=F3 at*;go_upto_region 7 with(fail);go_still_tail 7,AL;change Cy _ _ _ _ _ w5.drew
   go_wp2
   go_ret;have hp: ∀A2 c2 gm2,s.put ⟨pc,pl,code,ct,A',c'⟩ A2 c2 gm2=s.set ⟨pc,pl,code,ct,A',c'⟩:=λA2 c2 gm2=>by
    unfold Cs.put;rw[An (by show 0≤idx (pc,pl) s.bl;rw[HI.out];omega)]
   refine⟨A',c',G,0,0,rfl,by rw[hp];have:=hC5.out;unfold wr4 at this;rw[show(Bk.mk pc pl code ct A' c').code.length=n from HCL.out] at this;exact this, ?_, ?_⟩;·have fw:Fr (s.wr g) w5.drew _:=wr4_fr w5.drew gl m ⟨pc,pl,code,ct,A',c'⟩ (.inr (.inl (by rw[HSA.out];rfl)));unfold wr4 at fw;rw[show(Bk.mk pc pl code ct A' c').code.length=n from HCL.out] at fw;exact((((HF4.out.mono (S':=s.wr g) (λ_ _ e=>e.elim)).tr (HF5.out.mono (λq _ e=> .inr (.inr e)))).drew).tr fw)
   ·rw[hp];intro q hq;rcases hq with(e|e|e|⟨p,hp,e⟩)|⟨x,hx,e⟩;·exact Mg
    ·exact Qe
    ·exact NA
    ·obtain⟨p',hp',rfl⟩:=BS.1 hp;exact .inl (.inl (.inr (.inr (.inr ⟨p',(DF.1 hp').1,e⟩))))
    ·rcases List.mem_or_eq_of_mem_set hx with hx|hx;·exact Sf
     ·rw[hx] at e;exact .inr (HNA.out q e)
 ·have hd3:decide (0≤i)=Ac:=by simpa using hi0
  have hneg:i<0:=O;have HI4:Hid (idx (Bk.k ⟨pc,pl,code,ct,A',c'⟩) s.bl<0):=T (by show idx (pc,pl) s.bl<0;rw[HI.out];exact hneg);have hcl4:=h4.cells;have cr0:=hcl4.1;have cr1:=hcl4.2.1;have hg4:=h4.b.lt;clear hcl4;by_cases hge:s.room≤(s.bl.length:Int)
  ·have hd4:decide (s.room≤(s.bl.length:Int))=Ag:=by simpa using hge
   go_upto_region 9 with(fail);go_quiet (fail);generalize hwq:w4.drewN _=wq;have fq:=fK;have HFq:=T (HF4.out.tr fq);have HCNq:=T (CodeOk.fr (b:=⟨pc,pl,code,ct,A',c'⟩) HCN4.out fq (λ_ _ e=>e));have hq:=h4.fr0 fq;have Hf:=T (oI wq g s hq hfl);have HBq:=T (b4.fr fq id);clear hwq h4 b4 HF4 HCN4 cr0 cr1 fq hq;go_wp2_with fail;refine Az Hf ?_;rintro e w5 ⟨gm,rfl,h5,hgm1,hgm2,f5⟩;have hlt5:((s.flush gm).bl.length:Int)<s.room:=by show((0:Nat):Int)<s.room;omega
   have hbg:↑w≠g:=O;have b5:=HBq.out.fr f5 (λe=>hbg e);have hnag:Hid (∀q,ab A'=I q→q≠g):=T (λq e e2=>by have:=HNA.out q e;omega);have HCN5:=T (CodeOk.fr (b:=⟨pc,pl,code,ct,A',c'⟩) HCNq.out f5 (λq hq e=>hnag.out q hq e));have HF5:=T f5;have HGM:=T hgm1;clear f5 hgm2;obtain⟨bb,hbb⟩: ∃bb:Bk,bb=⟨pc,pl,code,ct,A',c'⟩:=⟨_,rfl⟩;have hcells:=h5.cells;have c0:=hcells.1;have c1:=hcells.2.1;clear hcells;have z1:=h5.b.frozen 1;have hgl:=h5.b.lt;have hown:=h5.r.own;have hblen:=hlt5;obtain⟨sn,hsn⟩:=A8 ((s.flush gm).bl.length);obtain⟨sA,hsA⟩:=A8 ((s.flush gm).A);obtain⟨sc,hsc⟩:=A8 ((s.flush gm).c);rw[hsn,hsA,hsc] at c1 hown;rw[hsn] at hblen;have HSN:=T hsn;have HSA:=T hsA;have HSC:=T hsc;clear hsn hsA hsc;have OWN:Hid ((w5.alloc (.cells #[J V pc,J V pl,Z A' n c',J U ct] 149)).drew.ownsRow 0 149 4 (Z sA sn sc) sn (I6 (s.flush gm).bl)):=T (hown.alloc _);have HRD:Hid (Reads (w5.alloc (.cells #[J V pc,J V pl,Z A' n c',J U ct] 149)).drew (↑w5+1) 4 (I ⟨↑w5,0,G⟩) 1 [J V pc,J V pl,Z A' n c',J U ct]):=T (by
    have:=Do (size:=4) (n:=1) (AI w5 149 #[J V pc,J V pl,Z A' n c',J U ct]) rfl;exact this)
   have H5:=T h5;have kb0:=T (((h5.b).alloc (.cells #[J V pc,J V pl,Z A' n c',J U ct] 149)).drew);have hne:Hid (∀k,(Z sA sn sc).ownBlock=I k→ab (s.flush gm).A=I k):=T (λk e=>by
    rw[HSA.out]
    cases sA with
    |none=>simp[Cb] at e
    |some a=>simpa[Cb,ab] using e)
   have hngb:Hid ((Z sA sn sc).ownBlock≠I g):=T (λe=>by
    have h1:=hne.out g e;have t:=H5.out.srt;have:=t.2.2.1 g h1;rw[t.1] at this;simp at this)
   have d0:=b5.cell 0;have d1:=b5.cell 1;have d2:=b5.cell 2;have d3:=b5.cell 3;clear hown h5 c0;go_upto_region 11 with(fail);go_region_law (
    refine IC _ rfl (.tmp 52) (.tmp 54) 146 rfl 0 149 i0 _ 4 40 Tryz.underlying146 hin hz0 hz1 hz2 rfl O (Z sA sn sc) sn _ BC OWN.out (w5.heap.size+1) (I ⟨w5.heap.size,0,G⟩) 1 1 [J V pc,J V pl,Z A' n c',J U ct] BC HRD.out Ei Cc O (Bj _) ?_
    intro v1 w6 hown1 hg1 hat1
    obtain⟨A2,c2,hv1⟩:=slice_form hown1
    subst hv1
    have kb:=kb0.out.grown hg1 hngb.out.symm
    have k1:w6.cell? ⟨g,1,G⟩=I (Z (s.flush gm).A (s.flush gm).bl.length (s.flush gm).c):=kb.cell 1
    have y1:=kb.frozen 1)
   all_goals
    have HO:=T hown1;have HG:=T hg1;have HAT:=T hat1;clear hown1 hg1 hat1
    go_wp2
    go_ret;subst hbb;have f6:Fr (λq=>ab (s.flush gm).A=I q) w5 w6:=((((Ao _ w5).alloc _).drew).grown HG.out (λk e=> .inl (hne.out k e)));have ho6:w6.ownsRow 0 149 4 (Z A2 ((s.flush gm).bl.length+1) c2) ((s.flush gm).bl.length+1) (I6 ((s.flush gm).bl++[⟨pc,pl,code,ct,A',c'⟩])):=fL;have hcn:CodeOk w6 ⟨pc,pl,code,ct,A',c'⟩:=CodeOk.fr (b:=⟨pc,pl,code,ct,A',c'⟩) HCN5.out f6 (λq hq e=>by
     have:=CodeOk.srt (b:=⟨pc,pl,code,ct,A',c'⟩) HCN5.out hq;rw[H5.out.srt.2.2.1 q e] at this;simp at this)
    have hC:=Cch.snocB (b:=⟨pc,pl,code,ct,A',c'⟩) H5.out (HBO.out A' c') (by show(-1:Int)<0;omega) (by rw[HSN.out];exact hblen) f6 hcn ho6;rw[HSN.out] at hC;have hp:s.put ⟨pc,pl,code,ct,A',c'⟩ A2 c2 gm=(s.flush gm).snoc ⟨pc,pl,code,ct,A',c'⟩ A2 c2:=by unfold Cs.put;rw[Ae (by have:=HI4.out;omega),An hge]
    refine⟨A',c',A2,c2,gm,rfl,by rw[hp];exact hC, ?_, ?_⟩
    ·exact(((HFq.out.mono (S':=s.wr g) (λ_ _ e=>e.elim)).tr (HF5.out.mono (λq _ e=> .inl e))).trans (S':=λq=>ab (s.flush gm).A=I q∨q=g) ((f6.mono (λq _ e=> .inl e)).setCell (p:=⟨g,1,G⟩) (.inl (.inr rfl)) _) (λq hq e=>by
      rcases e with e|e;·exact absurd e fM
      ·exact .inl e))
    ·rw[hp];intro q hq;have hA2:ab A2=I q→s.own g q∨↑w≤q:=λe=>by
      rcases HAT.out with e2|e2;·have:=OH;rw[this] at e2;have:=hne.out q e2.symm;exact absurd this fM
      ·right;have:=OH;rw[this] at e2;injection e2 with e2;have h1:↑w5+1=q∨↑w5≤q:=by right;rw[e2];simp
       have:=((HFq.out.mono (S':=s.wr g) (λ_ _ e=>e.elim)).tr (HF5.out.mono (λq _ e=> .inl e))).size;omega
     rcases hq with(e|e|e|⟨p,hp,e⟩)|⟨x,hx,e⟩;·exact Mg
     ·exact hA2 e
     ·right;have e:q=gm:=e;have:=HGM.out;have:=HFq.out.size;omega
     ·exact absurd hp (by show p∉[];simp)
     ·rcases Da.1 hx with hx|hx;·exact absurd hx (by show x∉[];simp)
      ·exact fO
  ·have hd4:decide (s.room≤(s.bl.length:Int))=Ac:=by simpa using hge
   have hlt:(s.bl.length:Int)<s.room:=O;go_upto_region 9 with(fail);go_quiet (fail);generalize hwq:w4.drewN _=wq;have fq:=fK;have HFq:=T (HF4.out.tr fq);have HCNq:=T (CodeOk.fr (b:=⟨pc,pl,code,ct,A',c'⟩) HCN4.out fq (λ_ _ e=>e));have hq:=h4.fr0 fq;have bq:=b4.fr fq id;clear hwq h4 b4 HF4 HCN4 cr0 cr1 fq;obtain⟨bb,hbb⟩: ∃bb:Bk,bb=⟨pc,pl,code,ct,A',c'⟩:=⟨_,rfl⟩;have hcells:=hq.cells;have c0:=hcells.1;have c1:=hcells.2.1;clear hcells;have z1:=hq.b.frozen 1;have hgl:=hq.b.lt;have hown:=hq.r.own;have hblen:=hlt;obtain⟨sn,hsn⟩:=A8 s.bl.length;obtain⟨sA,hsA⟩:=A8 s.A;obtain⟨sc,hsc⟩:=A8 s.c;rw[hsn,hsA,hsc] at c1 hown;rw[hsn] at hblen;have HSN:=T hsn;have HSA:=T hsA;have HSC:=T hsc;clear hsn hsA hsc;have OWN:Hid ((wq.alloc (.cells #[J V pc,J V pl,Z A' n c',J U ct] 149)).drew.ownsRow 0 149 4 (Z sA sn sc) sn (I6 s.bl)):=T (hown.alloc _);have HRD:Hid (Reads (wq.alloc (.cells #[J V pc,J V pl,Z A' n c',J U ct] 149)).drew (↑wq+1) 4 (I ⟨↑wq,0,G⟩) 1 [J V pc,J V pl,Z A' n c',J U ct]):=T (by
    have:=Do (size:=4) (n:=1) (AI wq 149 #[J V pc,J V pl,Z A' n c',J U ct]) rfl;exact this)
   have H5:=T hq;have kb0:=T (((hq.b).alloc (.cells #[J V pc,J V pl,Z A' n c',J U ct] 149)).drew);have hne:Hid (∀k,(Z sA sn sc).ownBlock=I k→ab s.A=I k):=T (λk e=>by
    rw[HSA.out]
    cases sA with
    |none=>simp[Cb] at e
    |some a=>simpa[Cb,ab] using e)
   have hngb:Hid ((Z sA sn sc).ownBlock≠I g):=T (λe=>by
    have h1:=hne.out g e;have t:=H5.out.srt;have:=t.2.2.1 g h1;rw[t.1] at this;simp at this)
   have d0:=bq.cell 0;have d1:=bq.cell 1;have d2:=bq.cell 2;have d3:=bq.cell 3;clear hown hq c0;go_upto_region 11 with(fail);go_region_law (
    refine IC _ rfl (.tmp 52) (.tmp 54) 146 rfl 0 149 i0 _ 4 40 Tryz.underlying146 hin hz0 hz1 hz2 rfl O (Z sA sn sc) sn _ BC OWN.out (wq.heap.size+1) (I ⟨wq.heap.size,0,G⟩) 1 1 [J V pc,J V pl,Z A' n c',J U ct] BC HRD.out Ei Cc O (Bj _) ?_
    intro v1 w6 hown1 hg1 hat1
    obtain⟨A2,c2,hv1⟩:=slice_form hown1
    subst hv1
    have kb:=kb0.out.grown hg1 hngb.out.symm
    have k1:w6.cell? ⟨g,1,G⟩=I (Z s.A s.bl.length s.c):=kb.cell 1
    have y1:=kb.frozen 1)
   all_goals
    have HO:=T hown1;have HG:=T hg1;have HAT:=T hat1;clear hown1 hg1 hat1
    go_wp2
    go_ret;subst hbb;have f6:Fr (λq=>ab s.A=I q) wq w6:=((((Ao _ wq).alloc _).drew).grown HG.out (λk e=> .inl (hne.out k e)));have ho6:w6.ownsRow 0 149 4 (Z A2 (s.bl.length+1) c2) (s.bl.length+1) (I6 (s.bl++[⟨pc,pl,code,ct,A',c'⟩])):=fL;have hcn:CodeOk w6 ⟨pc,pl,code,ct,A',c'⟩:=CodeOk.fr (b:=⟨pc,pl,code,ct,A',c'⟩) HCNq.out f6 (λq hq e=>by
     have:=CodeOk.srt (b:=⟨pc,pl,code,ct,A',c'⟩) HCNq.out hq;rw[H5.out.srt.2.2.1 q e] at this;simp at this)
    have hC:=Cch.snocB (b:=⟨pc,pl,code,ct,A',c'⟩) H5.out (HBO.out A' c') HI4.out (by rw[HSN.out];exact hblen) f6 hcn ho6;rw[HSN.out] at hC;have hp:s.put ⟨pc,pl,code,ct,A',c'⟩ A2 c2 0=s.snoc ⟨pc,pl,code,ct,A',c'⟩ A2 c2:=by unfold Cs.put;rw[Ae (by have:=HI4.out;omega),Ae (by have:=HSN.out;omega)]
    refine⟨A',c',A2,c2,0,rfl,by rw[hp];exact hC, ?_, ?_⟩
    ·exact((HFq.out.mono (S':=s.wr g) (λ_ _ e=>e.elim)).trans (S':=λq=>ab s.A=I q∨q=g) ((f6.mono (λq _ e=> .inl e)).setCell (p:=⟨g,1,G⟩) (.inl (.inr rfl)) _) (λq hq e=>by
      rcases e with e|e;·exact .inr (.inl e)
      ·exact .inl e))
    ·rw[hp];intro q hq;have hA2:ab A2=I q→s.own g q∨↑w≤q:=λe=>by
      rcases HAT.out with e2|e2;·have:=OH;rw[this] at e2;have:=hne.out q e2.symm;exact .inl (.inl (.inr (.inl this)))
      ·right;have:=OH;rw[this] at e2;injection e2 with e2;have h1:↑wq+1=q∨↑wq≤q:=by right;rw[e2];simp
       have:=(HFq.out.mono (S':=s.wr g) (λ_ _ e=>e.elim)).size;omega
     rcases hq with(e|e|e|⟨p,hp,e⟩)|⟨x,hx,e⟩;·exact Mg
     ·exact hA2 e
     ·exact NA
     ·exact .inl (.inl (.inr (.inr (.inr ⟨p,hp,e⟩))))
     ·rcases Da.1 hx with hx|hx;·exact Sf
      ·exact fO
end Ca
end Go.Proofs.YtdfegdoeebaagaaGreatDoor
