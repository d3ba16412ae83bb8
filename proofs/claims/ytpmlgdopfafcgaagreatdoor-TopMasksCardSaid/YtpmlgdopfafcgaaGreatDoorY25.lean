import Derived.Test.YtpmlgdopfafcgaaGreatDoorY24
open Go.Value renaming int→J,slice→U,bool→Ap,tuple→AD,ownBlock→Bp,agg→AA,pointer→Bi
open Option renaming some→I,none→G
open Go.IntKind renaming i64→Z,u32→V,u64→AM,u8→AC,wrap_u64→Dk,wrap_u32→DH
open Bool renaming false→Aa,true→Af,false_ne_true→Da,false_and→D7
open Go renaming World→Ac,Value→As,Calls→At,bodyPost_ret→Bf,TypeId→AK,wp_region_held_drew→BY,info_parts→BH,Ending→AT,madeCells→Cb,maxLen→Br,Program→BW,undef→Bt,wpList→BL,bits→Bb,run_underlying→CX
open List renaming getD_eq_getElem?_getD→AN,getElem?_eq_getElem→Bj,length_append→BJ,append_assoc→BM,mem_map→Bo,getElem?_take_of_lt→Cw,replicate→BK,range→Bm,getElem?_append_right→CB,getElem_mem→BU,mem_append→BZ,getElem?_append_left→CO,getElem?_map→C7,cons_append→CC,mem_filter→C8,length_pos_iff→CP,length_cons→CK,mem_cons→Cy,getLastD_eq_getLast?→Dg,nil_append→CI,getElem?_eq_none→De,dropLast_concat→Do,mem_singleton→Dv,map_append→Df,length_map→Di,getElem_of_mem→DD,length_nil→Dp,concat_eq_append→DI,getElem?_range→DL,range_succ→DB,getElem?_replicate→DW,singleton_append→DV,map_cons→D6,map_map→D8,setIfInBounds_toArray→Eb
open Go.Ending renaming returned→Ax
open And renaming intro→A9
open Nat renaming le_refl→AE,lt_of_lt_of_le→AW,le_trans→AS,zero_le→AU,zero_add→Bn,eq_zero_or_pos→Dm,reduceEqDiff→Dq
open Or renaming inl→Ag,inr→Ah
open Go.Proofs.Tryz renaming underlying41→AP,underlying31→CF,underlying22→CV,underlying215→Dl,underlying26→DN
open Go.RowKit renaming intOf→AJ
open Int renaming eq_ofNat_of_zero_le→CM,toNat_natCast→C4,emod_eq_of_lt→CZ
open Go.Builtin renaming zeroCells→CG,delete_→Eh
open Array renaming getElem?_toList→CN,getElem?_eq_some_iff→DX
open Go.Region renaming wanted→CA
open Go.Result renaming andThen→CT
open Option.some renaming inj→Ds
open Go.MapKept renaming run_getObj_map→DJ,run_setObj_map→Ef
open Go.Instr renaming makeSlice→Dj,mapUpdate→DK
open Go.IntWalk renaming i64_in→Du
open Go.Lit renaming int→C9
open Go.Sem renaming run_bind→D5
set_option linter.all false
set_option maxHeartbeats 40000000
set_option maxRecDepth 1000000
open Go Go.RowKit
namespace Go.Proofs.YtpmlgdopfafcgaaGreatDoor
namespace Ca
open Mz Go.Maps
def LinkPost(w:Ac)(g:Nat)(s:Cs)(a b:Ky)(e:AT)(w':Ac):Prop:=
 if 0≤idx a s.bl∧0≤idx b s.bl then
  e=Ax (Ap Af)∧Fr (s.wr g) w w'∧if b∈lnk s.E a then Cch w' g s else ∃A c,Cch w' g (s.link a ⟨lnk s.E a++[b],A,c⟩)∧ ∀q,(s.link a ⟨lnk s.E a++[b],A,c⟩).own g q→s.own g q∨w.heap.size≤q
 else e=Ax (Ap Aa)∧Fr (s.wr g) w w'∧Cch w' g s
theorem mem_nthK(l:List Ky)(k:Ky):(∃q,q<l.length∧nthK l q=k)↔k∈l:=by
 constructor;·rintro⟨q,hq,e⟩;rw[nthK_at hq] at e;rw[←e];exact BU hq
 ·intro h;obtain⟨q,hq,e⟩:=DD h;exact⟨q,hq,by rw[nthK_at hq];exact e⟩
theorem link_app{w5 we W:Ac}{g:Nat}{s:Cs}(h:Cch w5 g s){a b:Ky}(ha:0≤idx a s.bl)(hb:0≤idx b s.bl)(hn:b∉lnk s.E a){st:As}(fe:Fr (· =s.gm) w5 we)(fW:Fr Aj we W)
 (E: ∀(w2:Ac) (l:Lr),Fr (λq=>q≠s.gm) we w2→ ∃w3,(Instr.entryStore 137 (.map (I s.gm)) st (U l.A l.ks.length l.c)).run Tryz.prog w2=.ok () w3∧(∃bs clock,MapL Tryz.prog 103 kyv w3 s.gm ((putL (s.base a) a l).map ent) bs clock)∧Fr (· =s.gm) w2 w3)
 {lA:Aw} {ln lc:Nat} (e1:(lrOf s.E a).A=lA) (e2:(lrOf s.E a).ks.length=ln) (e3:(lrOf s.E a).c=lc) {v:As} {w6:Ac}
 (ho:w6.ownsRow 0 103 2 v (ln+1) (kcells (lrOf s.E a).ks++[J V b.1,J V b.2])) (hg:W.grownBy w6 (U lA ln lc).ownBlock) (hat:v.ownBlock=(U lA ln lc).ownBlock∨v.ownBlock=I W.heap.size):
 ∃A2 c2,v=U A2 (ln+1) c2∧ ∃w7,(Instr.entryStore 137 (.map (I s.gm)) st (U A2 (ln+1) c2)).run Tryz.prog w6=.ok () w7∧
  Hid (∃A c,Cch w7 g (s.link a ⟨lnk s.E a++[b],A,c⟩)∧ ∀q,(s.link a ⟨lnk s.E a++[b],A,c⟩).own g q→s.own g q∨w5.heap.size≤q)∧Hid (Fr (s.wr g) w5 w7)∧ ∀q t cs,Blk w5 q t cs→q≠s.gm→ab lA≠I q→Blk w6 q t cs∧Blk w7 q t cs:=by
 obtain⟨A2,c2,rfl⟩:=slice_form ho
 have hown: ∀q,(U lA ln lc).ownBlock=I q→ab lA=I q:=λq e=>by
  cases lA with
  |none=>simp[Bp] at e
  |some x=>simpa[Bp,ab] using e
 have hown2: ∀q,ab A2=I q→(U A2 (ln+1) c2).ownBlock=I q:=λq e=>by
  cases A2 with
  |none=>cases e
  |some x=>simpa[Bp,ab] using e
 obtain⟨t1,t2,t3,t4,t5⟩:=h.srt
 have hlr:=lrOf_ok h.rows a
 have hngm:ab lA≠I s.gm:=λe=>by
  rw[←e1] at e;have:=hlr.srt e;rw[t2] at this;simp at this
 have f6:Fr (λq=>ab lA=I q) we w6:=(fW.mono (λ_ _ e=>e.elim)).grown hg (λq e=> Ag (hown q e))
 have hse:=fe.size
 have hsW:=fW.size
 obtain⟨bs,clock,hm5⟩:=h.m
 have hgl:=hm5.bound
 have hlr5: ∀q,ab lA=I q→q<w5.heap.size:=λq e=>hlr.low (by rw[e1];exact e)
 obtain⟨w7,hrun,hm7,f7⟩:=E w6 ⟨(lrOf s.E a).ks++[b],A2,c2⟩ (f6.mono (λq _ e=>λe2=>hngm Gq))
 have hlen:((lrOf s.E a).ks++[b]).length=ln+1:=by rw[BJ,e2];rfl
 have hk6:LrOk w6 ⟨(lrOf s.E a).ks++[b],A2,c2⟩:=LrOk.of_own (base:=0) (by
  show w6.ownsRow 0 _ 2 (U A2 ((lrOf s.E a).ks++[b]).length c2) ((lrOf s.E a).ks++[b]).length (kcells ((lrOf s.E a).ks++[b]));rw[hlen];have:kcells ((lrOf s.E a).ks++[b])=kcells (lrOf s.E a).ks++[J V b.1,J V b.2]:=by
   unfold kcells;rw[List.flatMap_append];rfl
  rw[this];exact ho)
 have hA2gm:ab A2≠I s.gm:=λe=>by
  have h0:=hown2 _ e;rcases hat with h1|h1;·rw[h0] at h1;exact hngm (hown _ h1.symm)
  ·rw[h0] at h1;injection h1 with h1;omega
 have hk7:=hk6.fr f7 (λq hq e=>hA2gm (by rw[←e];exact hq))
 have f57:Fr (λq=>q=s.gm∨ab (lrOf s.E a).A=I q) w5 w7:=((fe.mono (λq _ e=> Ag e)).tr (f6.mono (λq _ e=> Ah (by rw[e1];exact e)))).tr (f7.mono (λq _ e=> Ag e))
 have hka:a∈s.bl.map Bk.k:=by
  by_cases e:a∈s.bl.map Bk.k;·exact e
  ·have:=(idx_neg a s.bl).2 e;omega
 have hkb:b∈s.bl.map Bk.k:=by
  by_cases e:b∈s.bl.map Bk.k;·exact e
  ·have:=(idx_neg b s.bl).2 e;omega
 have hnew: ∀q,ab A2=I q→ab (lrOf s.E a).A=I q∨w5.heap.size≤q:=λq e=>by
  have h0:=hown2 _ e;rcases hat with h1|h1;·rw[h0] at h1;exact Ag (by rw[e1];exact hown _ h1.symm)
  ·rw[h0] at h1;injection h1 with h1;right;omega
 have hwr: ∀q,(q=s.gm∨ab (lrOf s.E a).A=I q)→s.wr g q:=λq e=>by
  rcases e with e|e;·exact Ah (Ah (Ag e))
  ·by_cases hh:hasE s.E a=Af;·obtain⟨p,hp,_,e2⟩:=Iy hh;exact Ah (Ah (Ah ⟨p,hp,Gq⟩))
   ·exact RN
 refine⟨A2,c2,rfl,w7,by rw[←hlen];exact hrun,T ⟨A2,c2, ?_, ?_⟩,T (f57.mono (λq _ e=>hwr q e)),λq t cs hq h1 h2=>?_⟩
 ·rw[lnk_lr];exact Cch.linkB (b:=b) h hka hkb (by rw[lnk_lr]) hn f57 hm7 hk7 hnew
 ·rintro q ((e|e|e|⟨p,hp,e⟩)|⟨x,hx,e⟩);·exact FI
  ·exact Jo
  ·exact GM
  ·obtain⟨p',hp',rfl⟩:=Bo.1 hp;by_cases ep:p'.1=a
   ·rw[An ep] at e;rcases hnew q e with h1|h1;·exact Ag (Ag (hwr q (Ah h1)))
    ·exact Ah h1
   ·rw[Ae ep] at e;rcases base_mem hp' with h1|h1;·exact Ag (Ag (Ah (Ah (Ah ⟨p',h1,e⟩))))
    ·rw[h1] at e;exact absurd e (by simp[eL,ab])
  ·exact KA
 ·have b6:=(hq.fr fe h1).fr f6 h2;exact⟨b6,b6.fr f7 h1⟩
set_option maxRecDepth 100000 in
theorem link_any(w:Ac)(g:Nat)(s:Cs)(h:Cch w g s)(a b:Ky)(ha:a.Ok)(hb:b.Ok):At Tryz.prog 90 #[↑g,AA #[J V a.1,J V a.2],AA #[J V b.1,J V b.2]] w (LinkPost w g s a b):=by
 obtain⟨i0,hin,hz0,hz1,hz2⟩:=BH info2;obtain⟨a0,a1⟩:=a;obtain⟨b0,b1⟩:=b;have hs1:(w.alloc (.cells #[J V a0,J V a1] 103)).heap.size=w.heap.size+1:=AB;have f1:=(Ao Aj w).alloc (.cells #[J V a0,J V a1] 103);have f2:=f1.alloc (.cells #[J V b0,J V b1] 103);have ba:Blk ((w.alloc (.cells #[J V a0,J V a1] 103)).alloc (.cells #[J V b0,J V b1] 103)) w.heap.size 103 #[J V a0,J V a1]:=(AH w _ _).alloc _;have bb:Blk ((w.alloc (.cells #[J V a0,J V a1] 103)).alloc (.cells #[J V b0,J V b1] 103)) (w.heap.size+1) 103 #[J V b0,J V b1]:=by
  have:=AH (w.alloc (.cells #[J V a0,J V a1] 103)) 103 #[J V b0,J V b1];rw[hs1] at this;exact this
 have h2:=h.fr0 f2;have Hp:Hid (At Tryz.prog 80 #[↑g,AA #[J V a0,J V a1]] ((w.alloc (.cells #[J V a0,J V a1] 103)).alloc (.cells #[J V b0,J V b1] 103)) λe w'=>e=Ax (J Z (idx (a0,a1) s.bl))∧Fr Aj ((w.alloc (.cells #[J V a0,J V a1] 103)).alloc (.cells #[J V b0,J V b1] 103)) w'):=T (place_any _ g s h2 (a0,a1));obtain⟨i,hi⟩:=Az (idx (a0,a1) s.bl);obtain⟨j,hj⟩:=Az (idx (b0,b1) s.bl);rw[hi] at Hp;have HI:=T hi;have HJ:=T hj;have H2:=T h2;have F2:=T f2;have BA:=T ba;have BB:=T bb;have HC:=T h;have HA:=T ha;have HB:=T hb;have hgl:=h.b.lt;clear h h2 f1 f2 ba bb hi hj ha hb;go_in;go_wp2_with fail;refine Ay Hp ?_;rintro e w3 ⟨rfl,f3⟩;have F3:=T (F2.out.tr f3);have H3:=T (H2.out.fr0 f3);have BA3:=T (BA.out.fr f3 id);have BB3:=T (BB.out.fr f3 id);clear Hp f3;by_cases hni:i<0
 ·have hd:decide (i<0)=Af:=by simpa using hni
  go_wp2
  go_ret;unfold LinkPost;rw[Ae (λe=>by have:=e.1;have:=HI.out;omega)];exact⟨rfl,F3.out.mono (λ_ _ e=>e.elim),H3.out⟩
 ·have hd:decide (i<0)=Aa:=by simpa using hni
  have v0:=BB3.out.cell 0;have v1:=BB3.out.cell 1;have Hq:Hid (At Tryz.prog 80 #[↑g,AA #[J V b0,J V b1]] w3 λe w'=>e=Ax (J Z (idx (b0,b1) s.bl))∧Fr Aj w3 w'):=T (place_any _ g s H3.out (b0,b1));rw[HJ.out] at Hq;have hgb:=BB3.out.lt;go_wp2_with fail;refine Ay Hq ?_;rintro e w4 ⟨rfl,f4⟩;have F4:=T (F3.out.tr f4);have H4:=T (H3.out.fr0 f4);have BA4:=T (BA3.out.fr f4 id);have BB4:=T (BB3.out.fr f4 id);clear Hq f4 v0 v1;by_cases hnj:j<0
  ·have hd2:decide (j<0)=Af:=by simpa using hnj
   go_wp2
   go_ret;unfold LinkPost;rw[Ae (λe=>by have:=e.2;have:=HJ.out;omega)];exact⟨rfl,F4.out.mono (λ_ _ e=>e.elim),H4.out⟩
  ·have hd2:decide (j<0)=Aa:=by simpa using hnj
   obtain⟨l0,hl⟩:=keyOf_ky (a0,a1) HA.out;obtain⟨bs,clock,hm⟩:=H4.out.m;have hlk:(Instr.lookup 137 (.map (I s.gm)) (AA #[J V a0,J V a1]) Aa).run Tryz.prog w4.drew=.ok (U (lrOf s.E (a0,a1)).A (lrOf s.E (a0,a1)).ks.length (lrOf s.E (a0,a1)).c) w4.drew:=by
    have:=(hm.fr ((Ao Aj _).drew) id).look keyLaw kyv_inj Tryz.underlying137 (zK _) hl Aa;rw[lk_ent] at this;exact this
   have c2:=H4.out.cells.2.2.1;have x0:=BA4.out.cell 0;have x1:=BA4.out.cell 1;have y0:=BB4.out.cell 0;have y1:=BB4.out.cell 1;have hle:(lrOf s.E (a0,a1)).ks.length≤1000000:=by have:=H4.out.ok.lrl (a0,a1);have:=H4.out.ok.len;have:=H4.out.ok.room;omega
   have Hct:Hid (At Tryz.prog 116 #[U (lrOf s.E (a0,a1)).A (lrOf s.E (a0,a1)).ks.length (lrOf s.E (a0,a1)).c,AA #[J V b0,J V b1]] w4.drew λe w'=>e=Ax (Ap (decide (∃q,q<(lrOf s.E (a0,a1)).ks.length∧nthK (lrOf s.E (a0,a1)).ks q=(b0,b1))))∧Fr Aj w4.drew w'):=T (VA _ _ _ _ O _ (b0,b1) ((lrOf_ok H4.out.rows (a0,a1)).fr ((Ao Aj w4).drew) (λ_ _ e=>e)).at_);obtain⟨t,ht⟩: ∃t,decide (∃q,q<(lrOf s.E (a0,a1)).ks.length∧nthK (lrOf s.E (a0,a1)).ks q=(b0,b1))=t:=⟨_,rfl⟩;rw[ht] at Hct;have HT:=T ht;clear ht hm;obtain⟨lA,hlA⟩:=Az ((lrOf s.E (a0,a1)).A);obtain⟨ln,hln⟩:=Az ((lrOf s.E (a0,a1)).ks.length);obtain⟨lc,hlc⟩:=Az ((lrOf s.E (a0,a1)).c);rw[hlA,hln,hlc] at hlk Hct;have HlA:=T hlA;have Hln:=T hln;have Hlc:=T hlc;rw[hln] at hle;clear hlA hln hlc;go_upto_region 3 with(fail);go_still_tail 7,AI;change BL _ _ _ _ _ w4.drew;go_wp2_with fail;refine Ay Hct ?_;rintro e w5 ⟨rfl,f5⟩;have F5:=T ((F4.out.drew).tr f5);have H5:=T ((H4.out.fr0 ((Ao _ w4).drew)).fr0 f5);have BA5:=T ((BA4.out.drew).fr f5 id);have BB5:=T ((BB4.out.drew).fr f5 id);clear Hct f5 x0 x1 y0 y1 c2 hlk
   cases t
   ·have hnot:(b0,b1)∉lnk s.E (a0,a1):=by
     rw[lnk_lr,←mem_nthK];exact of_decide_eq_false HT.out
    have hgm0:s.gm<w.heap.size:=by obtain⟨_,_,hm0⟩:=HC.out.m;exact hm0.bound
    have hlA0: ∀q,ab lA=I q→q<w.heap.size:=λq e=>(lrOf_ok HC.out.rows (a0,a1)).low (by rw[HlA.out];exact e);have hggm:g≠s.gm:=λe=>by have t:=HC.out.srt;have:=t.1;rw[e,t.2.1] at this;simp at this
    have hglA:ab lA≠I g:=λe=>by have t:=HC.out.srt;have:=(lrOf_ok HC.out.rows (a0,a1)).srt (by rw[HlA.out];exact e);rw[t.1] at this;simp at this
    have fX:=((Ao Aj w5).alloc (.cells #[J V b0,J V b1] 103)).drew;obtain⟨we1,st1,hme1,fe1,E1⟩:=RM w5.drew g s (H5.out.fr0 ((Ao _ w5).drew)) (a0,a1) HA.out;obtain⟨we2,st2,hme2,fe2,E2⟩:=RM _ g s (H5.out.fr0 fX) (a0,a1) HA.out;rw[HlA.out,Hln.out,Hlc.out] at hme1 hme2;have fe1':Fr (· =s.gm) w5 we1:=((Ao _ w5).drew).tr fe1;have fe2':Fr (· =s.gm) w5 we2:=(fX.mono (λ_ _ e=>e.elim)).tr fe2;have hs5:=F5.out.size;have hi2:0≤idx (a0,a1) s.bl:=KB;have hj2:0≤idx (b0,b1) s.bl:=KC;have APA:=T (λ(v:As) (w6:Ac)=>link_app (v:=v) (w6:=w6) H5.out hi2 hj2 hnot fe1' ((Ao Aj we1).alloc (.cells #[J V b0,J V b1] 103)) E1 HlA.out Hln.out Hlc.out);have APB:=T (λ(v:As) (w6:Ac)=>link_app (v:=v) (w6:=w6) H5.out hi2 hj2 hnot fe2' (Ao Aj we2) E2 HlA.out Hln.out Hlc.out);have hlr5:=lrOf_ok H5.out.rows (a0,a1);have hl1:LrOk we1 (lrOf s.E (a0,a1)):=hlr5.fr fe1' (λq hq e=>RO);have hl2:LrOk we2 (lrOf s.E (a0,a1)):=hlr5.fr fe2' (λq hq e=>RO);have OWA:Hid ((we1.alloc (.cells #[J V b0,J V b1] 103)).ownsRow 0 103 2 (U lA ln lc) ln (kcells (lrOf s.E (a0,a1)).ks)):=T (by
     have:=(hl1.own).alloc (.cells #[J V b0,J V b1] 103);rw[HlA.out,Hln.out,Hlc.out] at this;exact this)
    have OWB:Hid (we2.ownsRow 0 103 2 (U lA ln lc) ln (kcells (lrOf s.E (a0,a1)).ks)):=T (by
     have:=hl2.own;rw[HlA.out,Hln.out,Hlc.out] at this;exact this)
    have RDA:Hid (Reads (we1.alloc (.cells #[J V b0,J V b1] 103)) (we1.heap.size+1) 2 (I ⟨we1.heap.size,0,G⟩) 1 [J V b0,J V b1]):=T (Cn (size:=2) (n:=1) (AH we1 103 #[J V b0,J V b1]) rfl);have bX2:Blk we2 w5.heap.size 103 #[J V b0,J V b1]:=((AH w5 103 #[J V b0,J V b1]).drew).fr fe2 (λe=>O);have RDB:Hid (Reads we2 (w5.heap.size+1) 2 (I ⟨w5.heap.size,0,G⟩) 1 [J V b0,J V b1]):=T (Cn (size:=2) (n:=1) bX2 rfl);have hb2:w5.heap.size+1≤we2.heap.size:=bX2.lt;have hga:w.heap.size≠s.gm:=O;have hgb:w.heap.size+1≠s.gm:=O;have hla:ab lA≠I w.heap.size:=λe=>by have:=hlA0 _ e;omega
    have hlb:ab lA≠I (w.heap.size+1):=λe=>by have:=hlA0 _ e;omega
    have BG:=T H5.out.b;have bg1:=H5.out.b.fr fe1' (λe=>hggm e);have ba1:=BA5.out.fr fe1' (λe=>hga e);have bb1:=BB5.out.fr fe1' (λe=>hgb e);have bg2:=H5.out.b.fr fe2' (λe=>hggm e);have ba2:=BA5.out.fr fe2' (λe=>hga e);have bb2:=BB5.out.fr fe2' (λe=>hgb e);have KK: ∀W,Blk W g 139 (cells4 s)→Blk W w.heap.size 103 #[J V a0,J V a1]→Blk W (w.heap.size+1) 103 #[J V b0,J V b1]→
     W.cell? ⟨g,2,G⟩=I (.map (I s.gm))∧W.cell? ⟨w.heap.size,0,G⟩=I (J V a0)∧W.cell? ⟨w.heap.size,1,G⟩=I (J V a1)∧W.cell? ⟨w.heap.size+1,0,G⟩=I (J V b0)∧W.cell? ⟨w.heap.size+1,1,G⟩=I (J V b1):=λW h1 h2 h3=>⟨h1.cell 2,h2.cell 0,h2.cell 1,h3.cell 0,h3.cell 1⟩
    have K0:=KK w5 BG.out BA5.out BB5.out;have K1:=KK we1 bg1 ba1 bb1;have K2:=KK _ (BG.out.alloc (.cells #[J V b0,J V b1] 103)) (BA5.out.alloc (.cells #[J V b0,J V b1] 103)) (BB5.out.alloc (.cells #[J V b0,J V b1] 103));have K3:=KK _ (bg1.alloc (.cells #[J V b0,J V b1] 103)) (ba1.alloc (.cells #[J V b0,J V b1] 103)) (bb1.alloc (.cells #[J V b0,J V b1] 103));have K4:=KK we2 bg2 ba2 bb2;have KH:=T KK;have hme1':(Instr.mapEntry 137 (.map (I s.gm)) (AA #[J V a0,J V a1])).run Tryz.prog w5.drew=.ok (AD #[U lA ln lc,st1]) we1:=hme1;have hme2':(Instr.mapEntry 137 (.map (I s.gm)) (AA #[J V a0,J V a1])).run Tryz.prog (w5.alloc (.cells #[J V b0,J V b1] 103)).drew=.ok (AD #[U lA ln lc,st2]) we2:=hme2;clear hme1 hme2 E1 E2 fe1 fe2 fe1' fe2' fX hlr5 hl1 hl2 bX2 bg1 ba1 bb1 bg2 ba2 bb2 KK;go_upto_region 4 with(fail)
    go_region_held_law (λW=>W.cell? ⟨g,2,G⟩=I (.map (I s.gm))∧W.cell? ⟨w.heap.size,0,G⟩=I (J V a0)∧W.cell? ⟨w.heap.size,1,G⟩=I (J V a1)∧W.cell? ⟨w.heap.size+1,0,G⟩=I (J V b0)∧W.cell? ⟨w.heap.size+1,1,G⟩=I (J V b1)) (first|exact K0|exact K1|exact K2|exact K3|exact K4|exact K5|exact K6)
     (first
      |(refine DP _ rfl (.tmp 31) (.tmp 33) 177 rfl 0 103 i0 _ 2 8 Tryz.underlying177 hin hz0 hz1 hz2 rfl O (U lA ln lc) ln _ Bh OWA.out (we1.heap.size+1) (I ⟨we1.heap.size,0,G⟩) 1 1 [J V b0,J V b1] Bh RDA.out CL Bu O (AU _) ?_;intro v1 w6 hown1 hg1 hat1;obtain⟨A2,c2,rfl,w7,hst,hc7,f7,kb⟩:=APA.out v1 w6 hown1 hg1 hat1;have K5:=KH.out w6 (kb _ _ _ BG.out hggm hglA).1 (kb _ _ _ BA5.out hga hla).1 (kb _ _ _ BB5.out hgb hlb).1;have K6:=KH.out w7 (kb _ _ _ BG.out hggm hglA).2 (kb _ _ _ BA5.out hga hla).2 (kb _ _ _ BB5.out hgb hlb).2;clear hown1 hg1 hat1 kb)
      |(refine DP _ rfl (.tmp 31) (.tmp 33) 177 rfl 0 103 i0 _ 2 8 Tryz.underlying177 hin hz0 hz1 hz2 rfl O (U lA ln lc) ln _ Bh OWB.out (w5.heap.size+1) (I ⟨w5.heap.size,0,G⟩) 1 1 [J V b0,J V b1] Bh RDB.out CL Bu O (AU _) ?_;intro v1 w6 hown1 hg1 hat1;obtain⟨A2,c2,rfl,w7,hst,hc7,f7,kb⟩:=APB.out v1 w6 hown1 hg1 hat1;have K5:=KH.out w6 (kb _ _ _ BG.out hggm hglA).1 (kb _ _ _ BA5.out hga hla).1 (kb _ _ _ BB5.out hgb hlb).1;have K6:=KH.out w7 (kb _ _ _ BG.out hggm hglA).2 (kb _ _ _ BA5.out hga hla).2 (kb _ _ _ BB5.out hgb hlb).2;clear hown1 hg1 hat1 kb))
    all_goals
     have HNM:=T hnot;clear hnot K0 K1 K2 K3 K4 K5
     go_wp2
     go_ret;unfold LinkPost;rw[An ⟨KB,KC⟩,Ae HNM.out];obtain⟨A,c,g1,g2⟩:=hc7.out;exact⟨rfl,(F5.out.mono (λ_ _ e=>e.elim)).tr f7.out,A,c,g1,λq hq=>(g2 q hq).imp id (λe=>O)⟩
   ·go_wp2
    go_ret;have hmem:=(mem_nthK _ _).1 (of_decide_eq_true HT.out);rw[←lnk_lr] at hmem;unfold LinkPost;rw[An ⟨KB,KC⟩,An hmem];exact⟨rfl,F5.out.mono (λ_ _ e=>e.elim),H5.out⟩
end Ca
namespace Ca
open Mz Go.Maps
def ixOf(l:List Int)(x:Int)(n:Nat):Int:=match l.findIdx? (· ==x) with
 |some k=>(k:Int)
 |none=> -1
theorem VC(w:Ac)(B n c:Nat)(A:Aw)(zs:List Int)(x:Int)(h:IntsAt Z w B A n zs)(hm:n≤Br):At Tryz.prog 77 #[U A n c,J Z x] w λe w'=>e=Ax (J Z (ixOf zs x n))∧w=w':=by
 unfold Br at hm;have hlen:=T h.1;go_in;go_wp2_with fail
 go_loop [8] (λi=> ∃k:Nat,k≤n∧i=J Z k∧(Hid (∀j,j<k→zs.getD j 0≠x))) (λi=>n -(AJ i).toNat)
 case atStart=>exact⟨0,O,rfl,λj hj=>O⟩
 case round=>
  obtain⟨k,hk,rfl,hno⟩:=hrel;by_cases hlt:k<n
  ·obtain⟨b,off,rfl,hb,hc⟩:=h.at_ hlt;by_cases hx:zs.getD k 0=x
   ·have e1:ixOf zs x n=k:=by
     have hl:=hlen.out;have:zs.findIdx? (· ==x)=I k:=by
      rw[List.findIdx?_eq_some_iff_getElem];refine⟨O,by simpa[show k<zs.length by omega] using hx,λj hj=>?_⟩;have:=hno.out j hj;simpa[show j<zs.length by omega] using this
     simp[ixOf,this]
    have E1:=T e1;rw[hx] at hc;clear e1 hx;exact RQ
   ·have hx':(x==zs.getD k 0)=Aa:=by
     simp only[beq_eq_false_iff_ne];exact λe=>hx e.symm
    have hno2:Hid (∀j,j<k+1→zs.getD j 0≠x):=λj hj=>by
     by_cases e:j=k;·rw[e];exact hx
     ·exact hno.out j O
    clear hx;generalize zs.getD k 0=z at*;go_wp2_with fail
    go_round
    case rel=>exact⟨k+1,O,AX,hno2⟩
    case measure=>simp[AJ];omega
  ·have e:k=n:=O;subst e;have e1:ixOf zs x k= -1:=by
    have:zs.findIdx? (· ==x)=G:=by
     rw[List.findIdx?_eq_none_iff];intro y hy;obtain⟨j,hj,rfl⟩:=DD hy;have hl:=hlen.out;have:=hno.out j O;simpa[hj] using this
    simp[ixOf,this]
   have E1:=T e1;clear e1;exact RQ
def hasI(l:List Int)(x:Int):Bool:=l.any (· ==x)
theorem has_ix(l:List Int)(x:Int)(n:Nat):decide (0≤ixOf l x n)=hasI l x:=by
 unfold ixOf hasI
 cases h:l.findIdx? (· ==x) with
 |none=>
  rw[List.findIdx?_eq_none_iff] at h;have:l.any (· ==x)=Aa:=by
   rw[List.any_eq_false];intro y hy;simpa using h y hy
  rw[this];rfl
 |some k=>
  have hk:=List.findIdx?_eq_some_iff_getElem.1 h;obtain⟨hl,hp,_⟩:=hk;have:l.any (· ==x)=Af:=List.any_eq_true.2 ⟨_,BU hl,hp⟩;rw[this];simp
theorem contains_any(w:Ac)(B n c:Nat)(A:Aw)(zs:List Int)(x:Int)(h:IntsAt Z w B A n zs)(hm:n≤Br):At Tryz.prog 58 #[U A n c,J Z x] w λe w'=>e=Ax (Ap (hasI zs x))∧w=w':=by
 have hi:=T (VC w B n c A zs x h hm);have hh:=has_ix zs x n;generalize ixOf zs x n=q at*;rw[←hh];clear hh h;go_in;go_wp2_with fail;refine Ay hi ?_;exact Fx
def gone(ps:List Int)(b:Bk):Bool:=hasI ps (b.pl/64)
def Cs.drop1(s:Cs)(ps:List Int)(b:Bk):Cs:=if gone ps b then s.unlink b.k else s
def cnt1(n:Nat)(ps:List Int)(b:Bk):Nat:=if gone ps b then n+1 else n
def D1P(W:Ac)(g gn:Nat)(s:Cs)(k:Ky)(cnt:Nat)(t:Bool)(e:AT)(w':Ac):Prop:=
 e=Ax (Ap t)∧LK w' g (if t then s.unlink k else s)∧Blk w' gn 3 #[J Z ((if t then cnt+1 else cnt:Nat):Int)]∧Fr (λq=>q=gn∨q=s.gm∨ ∃p∈s.E,ab p.2.A=I q) W w'
def D1Post(W:Ac)(g gn:Nat)(s:Cs)(b:Bk)(ps:List Int)(cnt:Nat)(e:AT)(w':Ac):Prop:=
 e=Ax (Ap (gone ps b))∧LK w' g (s.drop1 ps b)∧Blk w' gn 3 #[J Z (cnt1 cnt ps b:Nat)]∧Fr (λq=>q=gn∨q=s.gm∨ ∃p∈s.E,ab p.2.A=I q) W w'
set_option maxRecDepth 100000 in
theorem VD(W:Ac)(g gp gc gn base:Nat)(s:Cs)(h:LK W g s)(b:Bk)(hb:b.k.Ok)(hpl:0≤b.pl∧b.pl<4294967296)(ps:List Int)(B np pc:Nat)(pA:Aw)(hp:IntsAt Z W B pA np ps)(hm:np≤Br)(hB:B≤↑W)(cnt:Nat)(hc:cnt≤1000000)(bp:Blk W gp 22 #[U pA np pc])(bc:Blk W gc 100 #[↑g])(bn:Blk W gn 3 #[J Z cnt])(hg:g<base)(hgm:s.gm<base)(hrl: ∀p∈s.E,∀q,ab p.2.A=I q→q<base)(hgn:base≤gn)(hgc:base≤gc)(hcn:gc≠gn):At Tryz.prog 57 #[AA #[J V b.pc,J V b.pl,U b.A b.code.length b.c,J Z b.ct],↑gp,↑gc,↑gn] W (D1Post W g gn s b ps cnt):=by
 have p0:=bp.cell 0;have q0:=bp.lt;have fa:=(Ao Aj W).alloc (.cells #[J V b.pc,J V b.pl,U b.A b.code.length b.c,J Z b.ct] 136);have h1:=h.fr fa id id (λ_ _ _ _ e=>e);have bc1:=bc.fr fa id;have bn1:=bn.fr fa id;have Hc:Hid (At Tryz.prog 58 #[U pA np pc,J Z (b.pl/64)] (W.alloc (.cells #[J V b.pc,J V b.pl,U b.A b.code.length b.c,J Z b.ct] 136)) λe w'=>e=Ax (Ap (gone ps b))∧(W.alloc (.cells #[J V b.pc,J V b.pl,U b.A b.code.length b.c,J Z b.ct] 136))=w'):=T (by
  exact contains_any _ B np pc pA ps (b.pl/64) (hp.fr fa hB (λ_ _ e=>e)) hm)
 have Hu:Hid (At Tryz.prog 59 #[↑g,AA #[J V b.pc,J V b.pl]] (W.alloc (.cells #[J V b.pc,J V b.pl,U b.A b.code.length b.c,J Z b.ct] 136)) λe w'=>e=Ax (AD #[])∧LK w' g (s.unlink b.k)∧Fr (λq=>q=s.gm∨ ∃p∈s.E,ab p.2.A=I q) (W.alloc (.cells #[J V b.pc,J V b.pl,U b.A b.code.length b.c,J Z b.ct] 136)) w'):=T (RB _ g s h1 b.k hb);have c0:=bc1.cell 0;have FA:=T fa;have H1:=T h1;have BN1:=T bn1;have hgcl:=bc.lt;have hgnl:=bn.lt;obtain⟨t,ht⟩:=Az (gone ps b);rw[ht] at Hc;have HT:=T ht;have hdr:D1Post W g gn s b ps cnt=D1P W g gn s b.k cnt t:=by
  unfold D1Post D1P Cs.drop1 cnt1;rw[ht]
 rw[hdr];clear h h1 bc bn bp hp fa bc1 bn1 ht hdr hb;obtain⟨bk,hbk⟩: ∃k,b.k=k:=⟨_,rfl⟩;rw[hbk] at Hu;rw[hbk];clear hbk;generalize b.pc=x0 at*;generalize b.pl=x1 at*;generalize b.A=x2 at*;generalize b.code.length=x3 at*;generalize b.c=x4 at*;generalize b.ct=x5 at*;go_in;go_wp2_with fail;refine Ay Hc ?_;rintro e w2 ⟨rfl,rfl⟩
 cases t
 ·go_wp2
  go_ret;exact⟨rfl,H1.out,BN1.out,FA.out.mono (λ_ _ e=>e.elim)⟩
 ·go_wp2_with fail;refine Ay Hu ?_;rintro e w3 ⟨rfl,h3,f3⟩;have hno: ∀q,base≤q→ ¬(q=s.gm∨ ∃p∈s.E,ab p.2.A=I q):=λq hq e=>by
   rcases e with e|⟨p,hp,e⟩;·omega
   ·have:=hrl p hp q e;omega
  have bn3:=BN1.out.fr f3 (hno gn hgn);have n0:=bn3.cell 0;have z0:=bn3.frozen 0;have hl3:=bn3.lt;have BN3:=T bn3;have H3:=T h3;have F3:=T f3;have HRL:=T hrl;clear h3 f3 bn3 hno hrl Hu Hc
  go_wp2
  go_ret;have f4:Fr (· =gn) w3 (w3.setCell ⟨gn,0,G⟩ (J Z ((cnt:Int)+1))):=Bc _ _ _ _;refine⟨rfl,H3.out.fr f4 (λe=>by have e:g=gn:=e;omega) (λe=>by have e:s.gm=gn:=e;omega) (λp hp q hq e=>?_), ?_, ?_⟩;·have e:q=gn:=e;obtain⟨p',hp',rfl⟩:=Bo.1 hp;have:=HRL.out p' (C8.1 hp').1 q hq;omega
  ·have:=BN3.out.set_ 0 (J Z ((cnt:Int)+1));exact this
  ·exact((FA.out.mono (λ_ _ e=>e.elim)).tr (F3.out.mono (λq _ e=> Ah e))).tr (f4.mono (λq _ e=> Ag e))
end Ca
namespace Ca
open Mz Go.Maps
def Cs.upto(s:Cs)(ps:List Int)(l:List Bk):Cs:=l.foldl (λs b=>s.drop1 ps b) s
def cntG(ps:List Int)(l:List Bk):Nat:=(l.filter (gone ps)).length
def Cs.drop(s:Cs)(ps:List Int):Cs:={s with E:=(s.upto ps s.bl).E,bl:=s.bl.filter (λb=> !gone ps b)}
theorem VE(s:Cs)(ps:List Int)(b:Bk):(s.drop1 ps b).gm=s.gm∧(s.drop1 ps b).bl=s.bl∧(s.drop1 ps b).A=s.A:=by
 unfold Cs.drop1;split<;>exact⟨rfl,rfl,rfl⟩
theorem upto_gm(ps:List Int): ∀(l:List Bk) (s:Cs),(s.upto ps l).gm=s.gm
 |[],s=>rfl
 |b::l,s=>by
  show((s.drop1 ps b).upto ps l).gm=_;rw[upto_gm ps l,(VE s ps b).1]
theorem upto_E(ps:List Int): ∀(l:List Bk) (s:Cs),∀p∈(s.upto ps l).E,(∀b∈l,gone ps b=Af→p.1≠b.k∧b.k∉p.2.ks)∧ ∃p'∈s.E,p.1=p'.1∧p.2.A=p'.2.A∧p.2.ks.Sublist p'.2.ks
 |[],s,p,hp=>⟨AB,p,hp,rfl,rfl,List.Sublist.refl _⟩
 |b::l,s,p,hp=>by
  have hp:p∈((s.drop1 ps b).upto ps l).E:=hp;obtain⟨h1,p',hp',e1,e2,e3⟩:=upto_E ps l _ p hp;unfold Cs.drop1 at hp';by_cases hg:gone ps b=Af
  ·rw[An hg] at hp';obtain⟨q,hq,rfl⟩:=Bo.1 hp';obtain⟨hq1,hq2⟩:=C8.1 hq;have hne:q.1≠b.k:=by simpa using hq2
   have hns:b.k∉(strip b.k q.2).ks:=λe=>by have:=(C8.1 e).2;simp at this
   refine⟨λx hx hgx=>?_,q,hq1,e1,e2,e3.trans List.filter_sublist⟩;rcases Cy.1 hx with rfl|hx;·exact⟨by rw[e1];exact hne,λe=>hns (e3.subset e)⟩
   ·exact h1 x hx hgx
  ·rw[Ae hg] at hp';refine⟨λx hx hgx=>?_,p',hp',e1,e2,e3⟩;rcases Cy.1 hx with rfl|hx;·exact absurd hgx hg
   ·exact h1 x hx hgx
theorem VF(ps:List Int)(s:Cs)(l:List Bk)(b:Bk):s.upto ps (l++[b])=(s.upto ps l).drop1 ps b:=by
 unfold Cs.upto;rw[List.foldl_append];rfl
theorem VG(ps:List Int)(l:List Bk)(b:Bk):cntG ps (l++[b])=cnt1 (cntG ps l) ps b:=by
 unfold cntG cnt1;rw[List.filter_append,BJ];by_cases h:gone ps b=Af;·rw[An h,List.filter_cons,An h];rfl
 ·rw[Ae h,List.filter_cons,Ae h];rfl
theorem take_snoc{l:List Bk}{q:Nat}(h:q<l.length):l.take (q+1)=l.take q++[nthB l q]:=by
 rw[List.take_add_one,Bj h,nthB_at h];rfl
theorem cntG_le(ps:List Int)(l:List Bk):cntG ps l≤l.length:=List.length_filter_le _ _
theorem Cs.drop_ok{s:Cs}(h:s.Ok)(ps:List Int):(s.drop ps).Ok:=by
 have hs: ∀b∈s.bl.filter (λb=> !gone ps b),b∈s.bl:=λb hb=>(C8.1 hb).1;have hk: ∀x,x∈s.bl.map Bk.k→(∀b∈s.bl,gone ps b=Af→x≠b.k)→x∈(s.bl.filter (λb=> !gone ps b)).map Bk.k:=λx hx hn=>by
  obtain⟨b,hb,rfl⟩:=Bo.1 hx;refine List.mem_map_of_mem (C8.2 ⟨hb, ?_⟩)
  cases hg:gone ps b with
  |false=>rfl
  |true=>exact absurd rfl (hn b hb hg)
 refine⟨h.room, ?_,λb hb=>h.keys b (hs b hb),h.kd.sublist (List.filter_sublist.map _),λb hb=>h.ct b (hs b hb),λb hb=>h.code b (hs b hb),h.fl,λp hp=>?_,λp hp=>?_⟩;·have h1:(s.bl.filter (λb=> !gone ps b)).length≤s.bl.length:=List.length_filter_le _ _;have:=h.len;show((s.bl.filter (λb=> !gone ps b)).length:Int)≤s.room;omega
 ·obtain⟨h1,p',hp',e1,e2,e3⟩:=upto_E ps s.bl s p hp;exact hk _ (by rw[e1];exact h.froms p' hp') (λb hb hg=>(h1 b hb hg).1)
 ·obtain⟨h1,p',hp',e1,e2,e3⟩:=upto_E ps s.bl s p hp;have:=h.tos p' hp';exact⟨this.1.sublist e3,λk hk2=>hk k (this.2 k (e3.subset hk2)) (λb hb hg e=>(h1 b hb hg).2 (e▸hk2))⟩
theorem VH(l:List Bk)(q:Bk→Bool):(kept (λt=> !q (nthB l t)) l.length).map (nthB l)=l.filter q:=by
 have e:(Bm l.length).map (nthB l)=l:=by
  apply List.ext_getElem;·simp
  ·intro i h1 h2;simp[nthB_at h2]
 unfold kept;have:(λt=> !!q (nthB l t))=q∘nthB l:=by funext t;simp
 rw[this,←List.filter_map,e]
def Cs.sx(s:Cs)(q:Nat):Prop:=ab s.A=I q∨q=s.gm∨ ∃p∈s.E,ab p.2.A=I q
structure Mid(w:Ac)(g gp gc gn:Nat)(s:Cs)(ps:List Int)(pA:Aw)(np pc:Nat)(q:Nat)(W:Ac):Prop where
 lk:LK W g (s.upto ps (s.bl.take q))
 b:Blk W g 139 (cells4 s)
 bp:Blk W gp 22 #[U pA np pc]
 bc:Blk W gc 100 #[↑g]
 bn:Blk W gn 3 #[J Z (cntG ps (s.bl.take q):Nat)]
 fr:Fr s.sx w W
theorem Mid.fr'{w W W':Ac}{g gp gc gn:Nat}{s:Cs}{ps:List Int}{pA:Aw}{np pc q:Nat}(h:Mid w g gp gc gn s ps pA np pc q W){gl:Nat}(hA:ab s.A=I gl)(hc:Cch w g s)(h1:↑w≤gp)(h2:↑w≤gc)(h3:↑w≤gn)(f:Fr (· =gl) W W'):Mid w g gp gc gn s ps pA np pc q W':=by
 obtain⟨t1,t2,t3,t4,t5⟩:=hc.srt;have hgl:gl<↑w:=by
  rcases hc.r with⟨_,e,_⟩|⟨gl2,e,hr,_⟩;·rw[e] at hA;cases hA
  ·rw[e] at hA;have e2:gl2=gl:=by simpa[ab] using hA
   subst e2;obtain⟨F,hF,_⟩:=hr;exact hF.lt
 have hg:g≠gl:=λe=>by have:=t3 gl hA;rw[←e,t1] at this;simp at this
 refine⟨h.lk.fr f hg (λe=>?_) (λp hp q2 hq e=>?_),h.b.fr f hg,h.bp.fr f (λe=>O),h.bc.fr f (λe=>O),h.bn.fr f (λe=>O),h.fr.tr (f.mono (λq2 _ e=> Ag (by rw[e];exact hA)))⟩;·rw[upto_gm] at e;have e:s.gm=gl:=e;have:=t3 gl hA;rw[←e,t2] at this;simp at this
 ·obtain⟨_,p',hp',_,e2,_⟩:=upto_E ps _ s p hp;have e:q2=gl:=e;subst e;have h4:=t5 p' hp' q2 (by rw[←e2];exact hq);rw[t3 q2 hA] at h4;simp at h4
theorem del_any(w w0:Ac)(g gp gc gn:Nat)(s:Cs)(hc:Cch w g s)(ps:List Int)(B np pc:Nat)(pA:Aw)(hp: ∀W,Fr s.sx w W→IntsAt Z W B pA np ps)(hm:np≤Br)(hB:B≤↑w)(h1:↑w≤gp)(h2:↑w≤gc)(h3:↑w≤gn)(hne:gp≠gn)(hcn:gc≠gn)(h0:Mid w g gp gc gn s ps pA np pc 0 w0)(hw0:Fr Aj w w0):At Tryz.prog 56 #[U s.A s.bl.length s.c,.func (.func 57) #[] #[↑gp,↑gc,↑gn]] w0 λe w'=>e=Ax (U s.A (s.drop ps).bl.length s.c)∧BRow w' s.A s.c (s.drop ps).bl∧Mid w g gp gc gn s ps pA np pc s.bl.length w':=by
 have hlen:=hc.ok.len;have hroom:=hc.ok.room;rcases hc.r with⟨e1,e2,e3⟩|⟨gl,hA,hrow,hcm⟩
 ·have hbl:(s.drop ps).bl=[]:=by show s.bl.filter _=[];rw[e1];rfl
  rw[hbl,e1,e2,e3];rw[show([]:List Bk).length=0 from rfl] at*;have Hi:=T (index_b w0 G 0 0 O (λ_=>dBk) 57 #[↑gp,↑gc,↑gn] (λargs W=>Db) (λq W=>w0=W) (λ_=>Aa) rfl (λq W _ q' hq=>absurd hq O) (λq W hq=>absurd hq O));have H0:=T h0;clear h0 hc hp;go_in;go_wp2_with fail;refine Ay Hi ?_;rintro e w' (⟨m,hm,_⟩|⟨rfl,_,rfl⟩);·omega
  ·go_wp2
   go_ret;exact⟨rfl,Ag ⟨rfl,rfl,rfl⟩,H0.out⟩
 ·have hgl:gl<↑w:=by obtain⟨F,hF,_⟩:=hrow;exact hF.lt
  have hAb:ab s.A=I gl:=by rw[hA];rfl
  have hs0:=h0.fr.size;have hsw0:w.heap.size≤w0.heap.size:=hs0;have hgw:g<↑w:=hc.b.lt;obtain⟨t1,t2,t3,t4,t5⟩:=hc.srt;have hgmw:s.gm<↑w:=by obtain⟨_,_,hm0⟩:=hc.m;exact hm0.bound
  have hrl: ∀p∈s.E,∀q,ab p.2.A=I q→q<w.heap.size:=λp hp q e=>(hc.rows p hp).low e;have hrow0:Row_b w0 gl s.c s.bl.length (nthB s.bl):=hrow.fr hw0 id;have Hd:=delete_b w0 gl s.bl.length s.c (nthB s.bl) hrow0 O hcm 57 #[↑gp,↑gc,↑gn] (λargs W=>Db) (λq=>q=gn∨q=s.gm∨ ∃p∈s.E,ab p.2.A=I q)
   ⟨λe=>by
    rcases e with e|e|⟨p,hp,e⟩;·omega
    ·have:=t3 gl hAb;rw[e,t2] at this;simp at this
    ·have h4:=t5 p hp gl e;rw[t3 gl hAb] at h4;simp at h4,λk e=>by
    rcases e with e|e|⟨p,hp,e⟩;·rw[e];exact h0.bn.lt
    ·omega
    ·have:=hrl p hp k e;omega⟩
   (Mid w g gp gc gn s ps pA np pc) (λq=>gone ps (nthB s.bl q)) h0 (λq W W' h f=>h.fr' hAb hc h1 h2 h3 f)
   (λq W hq h=>by
    have hmem:nthB s.bl q∈s.bl:=by rw[nthB_at hq];exact BU hq
    have hky:=hc.ok.keys _ hmem;have hsW:=h.fr.size;have h5:(nthB s.bl q).pl≤4294967295:=hky.2.2;have h6:0≤(nthB s.bl q).pl:=hky.2.1;have hcnt:cntG ps (s.bl.take q)≤1000000:=by
     have g1:=cntG_le ps (s.bl.take q);have g2:(s.bl.take q).length≤s.bl.length:=by rw[List.length_take];omega
     omega
    refine(VD W g gp gc gn ↑w (s.upto ps (s.bl.take q)) h.lk (nthB s.bl q) hky ⟨h6,O⟩ ps B np pc pA (hp W h.fr) hm O (cntG ps (s.bl.take q)) hcnt h.bp h.bc h.bn hgw (by rw[upto_gm];exact hgmw) (λp hp q2 hq2=>?_) h3 h2 hcn).mono ?_;·obtain⟨_,p',hp',_,e2,_⟩:=upto_E ps _ s p hp;exact hrl p' hp' q2 (by rw[←e2];exact hq2)
    ·rintro e w' ⟨g1,g2,g3,g4⟩;have g4':Fr (λq=>q=gn∨q=s.gm∨ ∃p∈s.E,ab p.2.A=I q) W w':=g4.mono (λq2 _ e=>by
      rcases e with e|e|⟨p,hp,e⟩;·exact Ag e
      ·exact Ah (Ag (by rw[upto_gm] at e;exact e))
      ·obtain⟨_,p',hp',_,e2,_⟩:=upto_E ps _ s p hp;exact Ah (Ah ⟨p',hp',Gq⟩))
     have hno: ∀q2,w.heap.size≤q2→q2≠gn→ ¬(q2=gn∨q2=s.gm∨ ∃p∈s.E,ab p.2.A=I q2):=λq2 hq2 hne2 e=>by
      rcases e with e|e|⟨p,hp,e⟩;·exact hne2 e
      ·omega
      ·have:=hrl p hp q2 e;omega
     refine⟨g1,⟨?_,h.b.fr g4' (λe=>?_),h.bp.fr g4' (hno gp h1 hne),h.bc.fr g4' (hno gc h2 hcn), ?_,h.fr.trans g4' (λq2 hq2 e=>?_)⟩,g4'⟩;·rw[take_snoc hq,VF];exact g2
     ·rcases e with e|e|⟨p,hp,e⟩;·omega
      ·rw[e,t2] at t1;simp at t1
      ·have h4:=t5 p hp g e;rw[t1] at h4;simp at h4
     ·rw[take_snoc hq,VG];exact g3
     ·rcases e with e|e;·omega
      ·exact Ah e)
  rw[hA];refine Hd.mono ?_;rintro e w' ⟨g1,g2,g3⟩;have hk:=VH s.bl (λb=> !gone ps b);simp only[Bool.not_not] at hk;have hkl:(kept (λq=>gone ps (nthB s.bl q)) s.bl.length).length=(s.drop ps).bl.length:=by
   show _=(s.bl.filter _).length;rw[←hk,Di]
  refine⟨by rw[g1,hkl],Ah ⟨gl,rfl, ?_,hcm⟩,g2⟩;rw[hkl] at g3;obtain⟨F,q1,q2,q3⟩:=g3;refine⟨F,q1,q2,λq hq c hc=>?_⟩;rw[q3 q hq c hc];congr 1;show nthB s.bl _=nthB (s.bl.filter _) q;rw[←hk];have hq2:q<(kept (λq=>gone ps (nthB s.bl q)) s.bl.length).length:=by rw[hkl];exact hq
  show _=List.getD (List.map _ _) q dBk;rw[AN (l:=List.map _ _),C7,AN (l:=kept _ _),Bj hq2];rfl
end Ca
namespace Ca
open Mz Go.Maps
def DropPost(w:Ac)(g:Nat)(s:Cs)(ps:List Int)(e:AT)(w':Ac):Prop:=
 e=Ax (J Z (cntG ps s.bl:Nat))∧Cch w' g (s.drop ps)∧Fr (s.wr g) w w'∧ ∀q,(s.drop ps).own g q→s.own g q
theorem sx_wr{s:Cs}{g q:Nat}(h:s.sx q):s.wr g q:=by
 rcases h with h|h|h;·exact Ah (Ag h)
 ·exact Ah (Ah (Ag h))
 ·exact Ah (Ah (Ah h))
theorem drop_cch{w W:Ac}{g gp gc gn:Nat}{s:Cs}{ps:List Int}{pA:Aw}{np pc:Nat}(h:Cch w g s)(hm:Mid w g gp gc gn s ps pA np pc s.bl.length W)(hr:BRow W s.A s.c (s.drop ps).bl):Cch (W.setCell ⟨g,1,G⟩ (U s.A (s.drop ps).bl.length s.c)) g (s.drop ps):=by
 have f:Fr (· =g) W (W.setCell ⟨g,1,G⟩ (U s.A (s.drop ps).bl.length s.c)):=Bc _ _ _ _;have tg:=srt_blk hm.b;have hE:s.upto ps (s.bl.take s.bl.length)=s.upto ps s.bl:=by rw[List.take_length]
 have hlk:=hm.lk;rw[hE] at hlk;obtain⟨t1,t2,t3,t4,t5⟩:=h.srt;refine⟨?_, ?_,hr.fr f (λq hq e=>RH),λx hx=>?_,λp hp=>?_,hlk.sep,Cs.drop_ok h.ok ps⟩;·have e:cells4 (s.drop ps)=(cells4 s).setIfInBounds 1 (U s.A (s.drop ps).bl.length s.c):=rfl;rw[e];exact hm.b.set_ 1 _
 ·obtain⟨bs,clock,hmm⟩:=hlk.m;rw[upto_gm] at hmm;exact⟨bs,clock,hmm.fr f (λe=>by have e:s.gm=g:=e;have:=srt_map hmm.b;rw[e,tg] at this;simp at this)⟩
 ·have hx0:x∈s.bl:=(C8.1 hx).1;have hcx:=(h.code x hx0).fr hm.fr (λq hq e=>by
   have h4:=t4 x hx0 q hq;rcases e with e|e|⟨p,hp,e⟩;·rw[t3 q e] at h4;simp at h4
   ·rw[e,t2] at h4;simp at h4
   ·rw[t5 p hp q e] at h4;simp at h4)
  exact hcx.fr f (λq hq e=>RI)
 ·exact(hlk.rows p hp).fr f (λq hq e=>by have:=(hlk.rows p hp).srt hq;rw[e,tg] at this;simp at this)
set_option maxRecDepth 100000 in
theorem drop_any(w:Ac)(g:Nat)(s:Cs)(h:Cch w g s)(ps:List Int)(B np pc:Nat)(pA:Aw)(hp: ∀W,Fr s.sx w W→IntsAt Z W B pA np ps)(hm:np≤Br)(hB:B≤↑w):At Tryz.prog 38 #[↑g,U pA np pc] w (DropPost w g s ps):=by
 have f1:=(Ao Aj w).alloc (.cells #[↑g] 100);have s1:(w.alloc (.cells #[↑g] 100)).heap.size=w.heap.size+1:=AB;have f2:=f1.alloc (.cells #[U pA np pc] 22);have s2:((w.alloc (.cells #[↑g] 100)).alloc (.cells #[U pA np pc] 22)).heap.size=w.heap.size+2:=AB;have f3:=f2.alloc (.cells #[J Z 0] 3);have bc:=((AH w 100 #[↑g]).alloc (.cells #[U pA np pc] 22)).alloc (.cells #[J Z 0] 3);have bp:=((Cc (w.alloc (.cells #[↑g] 100)) 22 #[U pA np pc] s1)).alloc (.cells #[J Z 0] 3);have bn:=Cc ((w.alloc (.cells #[↑g] 100)).alloc (.cells #[U pA np pc] 22)) 3 #[J Z 0] s2;have h3:=h.fr0 f3;obtain⟨c0,c1,c2,c3⟩:=h3.cells;have hgl:=h.b.lt;have HC:=T h;have F3:=T f3;generalize hw3:((w.alloc (.cells #[↑g] 100)).alloc (.cells #[U pA np pc] 22)).alloc (.cells #[J Z 0] 3)=w3 at*;have hmid:Mid w g (↑w+1) ↑w (↑w+2) s ps pA np pc 0 w3.drew:=⟨(h3.fr0 ((Ao _ w3).drew)).lk,h3.b.drew,bp.drew,bc.drew,bn.drew,(f3.mono (λ_ _ e=>e.elim)).drew⟩;have Hd:=T (del_any w w3.drew g (↑w+1) ↑w (↑w+2) s h ps B np pc pA hp hm hB O O O O O hmid (f3.drew));have k0:w3.cell? ⟨↑w,0,G⟩=I ↑g:=bc.cell 0;obtain⟨sn,hsn⟩:=Az s.bl.length;obtain⟨sA,hsA⟩:=Az s.A;obtain⟨sc,hsc⟩:=Az s.c;obtain⟨dn,hdn⟩:=Az ((s.drop ps).bl.length);have HD2:Hid (At Tryz.prog 56 #[U sA sn sc,.func (.func 57) #[] #[Bi (I ⟨↑w+1,0,G⟩),Bi (I ⟨↑w,0,G⟩),Bi (I ⟨↑w+2,0,G⟩)]] w3.drew λe w'=>e=Ax (U sA dn sc)∧Hid (BRow w' s.A s.c (s.drop ps).bl)∧Hid (Mid w g (↑w+1) ↑w (↑w+2) s ps pA np pc s.bl.length w')):=T (by
  have:=Hd.out;rw[hsn,hsA,hsc,hdn] at this;rw[hsn,hsA,hsc];exact this.mono λe w' ⟨g1,g2,g3⟩=>⟨g1,T g2,T g3⟩)
 rw[hsn,hsA,hsc] at c1;have HDN:=T hdn;have HSA:=T hsA;have HSC:=T hsc;have HSN:=T hsn;obtain⟨cn,hcn⟩:=Az (cntG ps s.bl);have HCN:=T hcn;have hdp:DropPost w g s ps=λe w'=>e=Ax (J Z (cn:Nat))∧Hid (Cch w' g (s.drop ps)∧Fr (s.wr g) w w'∧ ∀q,(s.drop ps).own g q→s.own g q):=by unfold DropPost;rw[hcn];rfl
 have HOWN:Hid (∀q,(s.drop ps).own g q→s.own g q):=T (by
  rintro q ((e|e|e|⟨p,hp,e⟩)|⟨x,hx,e⟩);·exact Ee
  ·exact EA
  ·exact Io
  ·obtain⟨_,p',hp',_,e2,_⟩:=upto_E ps _ s p hp;exact Ag (Ah (Ah (Ah ⟨p',hp',Gq⟩)))
  ·exact Ah ⟨x,(C8.1 hx).1,e⟩)
 rw[hdp];subst hw3;clear h h3 hmid Hd bc bp bn f1 f2 f3 hp s1 s2 c0 c2 c3 hdp hsn hsA hsc hdn hcn;go_in;go_upto_region 2 with(fail);generalize((w.alloc (.cells #[↑g] 100)).alloc (.cells #[U pA np pc] 22)).alloc (.cells #[J Z 0] 3)=w3 at*;go_region_law (
  go_simp
  refine Ay HD2 ?_
  rintro e w5 ⟨rfl,hb5,hm5⟩
  have k5:w5.cell? ⟨↑w,0,G⟩=I ↑g:=hm5.out.bc.cell 0
  have z1: ∃v,w5.cell? ⟨g,1,G⟩=I v:=⟨_,hm5.out.b.cell 1⟩
  obtain⟨z,hz⟩:=z1
  have y1:=hm5.out.b.frozen 1
  have hl5:=hm5.out.b.lt)
 all_goals
  have n0:(w5.setCell ⟨g,1,G⟩ (U sA dn sc)).cell? ⟨↑w+2,0,G⟩=I (J Z (cn:Nat)):=by
   have:=(hm5.out.bn.far (p:=⟨g,1,G⟩) (by show ↑w+2≠g;omega) (U sA dn sc)).cell 0;rw[List.take_length,HCN.out] at this;exact this
  clear hz y1 k5 k0 c1
  go_wp2
  go_ret;have hC:=drop_cch HC.out hm5.out hb5.out;rw[HSA.out,HDN.out,HSC.out] at hC;exact⟨rfl,T ⟨hC,(hm5.out.fr.mono (λq _ e=>sx_wr e)).setCell (p:=⟨g,1,G⟩) (Ag (Ag rfl)) _,HOWN.out⟩⟩
end Ca
namespace Ca
open Mz Go.Maps
theorem info4:(Tryz.prog.info? 136).map (λi=>(i.zero,i.size,i.bytes))=I (I (AA #[J V 0,J V 0,U G 0 0,J Z 0]),4,40):=AI
def PutPost(w:Ac)(g:Nat)(s:Cs)(mk:Aw→Nat→Bk)(e:AT)(w':Ac):Prop:=
 ∃A' c' A2 c2 gm2,e=Ax (Ap Af)∧Cch w' g (s.put (mk A' c') A2 c2 gm2)∧Fr (s.wr g) w w'∧ ∀q,(s.put (mk A' c') A2 c2 gm2).own g q→s.own g q∨w.heap.size≤q
set_option maxRecDepth 100000 in
theorem put_any(w:Ac)(g:Nat)(s:Cs)(h:Cch w g s)(pc pl:Int)(code:List Int)(ct:Int)(A:Aw)(c B:Nat)(hr:Reads w B 1 A code.length (code.map (J AC)))(hB:B≤↑w)(hk:Ky.Ok (pc,pl))(hct:1≤ct∧ct≤9223372036854775807)(hcode:code≠[]∧code.length≤1000000∧ ∀z∈code,0≤z∧z<256)(hfl:s.fl≤1000000):At Tryz.prog 109 #[↑g,AA #[J V pc,J V pl,U A code.length c,J Z ct]] w (PutPost w g s λA' c'=>⟨pc,pl,code,ct,A',c'⟩):=by
 obtain⟨i0,hin,hz0,hz1,hz2⟩:=BH info4;have hpos:0<code.length:=CP.2 hcode.1;have HBO:Hid (∀A' c',Bk.Ok ⟨pc,pl,code,ct,A',c'⟩):=T (λA' c'=>⟨hk,hct,hcode⟩);have hnn:A=G→code.length=0∧c=0:=λe=>by
  obtain⟨ad,e2,_⟩:=hr.2 (by simpa using hpos);rw[e] at e2;cases e2
 obtain⟨n,hn⟩:=Az code.length;have f1:=(Ao Aj w).alloc (.cells #[J V pc,J V pl,U A code.length c,J Z ct] 136);have b1:Blk (w.alloc (.cells #[J V pc,J V pl,U A code.length c,J Z ct] 136)) ↑w 136 #[J V pc,J V pl,U A code.length c,J Z ct]:=AH _ _ _;have Hc:=T (O1 _ A code.length c B _ (hr.alloc hB (.cells #[J V pc,J V pl,U A code.length c,J Z ct] 136)) A8 DR O hnn);have HCL:=T hn;have hn1:n≤1000000:=by rw[←hn];exact hcode.2.1
 rw[hn] at f1 b1 Hc hpos;rw[hn];have HC:=T h;have HF1:=T f1;have HB1:=T b1;have HK:=T hk;have hct1:=hct.1;have hd0:decide (ct<1)=Aa:=A8;have hd1:=Kv;have hd2:decide ((n:Int)=0)=Aa:=A8;have hgl0:=h.b.lt;clear h f1 b1 hr hk hnn hcode hn;go_in;go_wp2_with fail;refine Ay Hc ?_;rintro e w2 ⟨A',c',rfl,hown,f2⟩;have hsz1:(w.alloc (.cells #[J V pc,J V pl,U A n c,J Z ct] 136)).heap.size=w.heap.size+1:=AB;have b2:=HB1.out.fr f2 id;have HNA:Hid (∀q,ab A'=I q→w.heap.size≤q):=T (λq e=>by
  have:=own_base hown q (by
   cases A' with
   |none=>cases e
   |some a=>simpa[Bp,ab] using e)
  omega)
 have HNG:Hid (∀q,ab A'=I q→q≠w.heap.size):=T (λq e e2=>by
  have:=own_base hown q (by
   cases A' with
   |none=>cases e
   |some a=>simpa[Bp,ab] using e)
  omega)
 have b3:=b2.set_ 2 (U A' n c');have f3:Fr (λq=>q=w.heap.size) w2 (w2.setCell ⟨↑w,2,G⟩ (U A' n c')):=Bc _ _ _ _;have hcn2:CodeOk w2 ⟨pc,pl,code,ct,A',c'⟩:=by
  show w2.ownsRow 0 5 1 (U A' code.length c') code.length _;rw[HCL.out];exact own_low hown (AU _)
 have HCN3:=T (CodeOk.fr (b:=⟨pc,pl,code,ct,A',c'⟩) hcn2 f3 (λq hq e=>HNG.out q hq e));have fw3:Fr Aj w (w2.setCell ⟨↑w,2,G⟩ (U A' n c')):=(HF1.out.tr f2).trans f3 (λq hq e=>O);have HF3:=T fw3;have HC3:=T (HC.out.fr0 fw3);have HB3:=T b3;have x0:=b2.cell 0;have x1:=b2.cell 1;have x2:=b2.cell 2;have y2:=b2.frozen 2;have hgb2:=b2.lt;have Hp:Hid (At Tryz.prog 80 #[↑g,AA #[J V pc,J V pl]] (w2.setCell ⟨↑w,2,G⟩ (U A' n c')) λe w'=>e=Ax (J Z (idx (pc,pl) s.bl))∧Fr Aj (w2.setCell ⟨↑w,2,G⟩ (U A' n c')) w'):=T (place_any _ g s HC3.out (pc,pl));obtain⟨i,hi⟩:=Az (idx (pc,pl) s.bl);rw[hi] at Hp;have HI:=T hi;clear hi b2 b3 f3 fw3 f2 hown hcn2 Hc;go_wp2_with fail;refine Ay Hp ?_;rintro e w4 ⟨rfl,f4⟩;have HF4:=T (HF3.out.tr f4);have h4:=HC3.out.fr0 f4;have b4:=HB3.out.fr f4 id;have HCN4:=T (CodeOk.fr (b:=⟨pc,pl,code,ct,A',c'⟩) HCN3.out f4 (λ_ _ e=>e));have hroom:=HC.out.ok.room;have hlen:=HC.out.ok.len;clear f4 Hp x0 x1 x2 y2;by_cases hi0:0≤i
 ·have hd3:decide (0≤i)=Af:=by simpa using hi0
  obtain⟨m,rfl⟩: ∃m:Nat,i=m:=⟨i.toNat,O⟩;obtain⟨hm1,hm2⟩:=idx_spec _ _ _ HI.out;have Hu:Hid (At Tryz.prog 59 #[↑g,AA #[J V pc,J V pl]] w4 λe w'=>e=Ax (AD #[])∧Cch w' g (s.unlink (pc,pl))∧Fr (λq=>q=s.gm∨ ∃p∈s.E,ab p.2.A=I q) w4 w'):=T (V7 w4 g s h4 (pc,pl) HK.out);have u0:=b4.cell 0;have u1:=b4.cell 1;have HB4:=T b4;have H4:=T h4;clear b4 h4;go_wp2_with fail;refine Ay Hu ?_;rintro e w5 ⟨rfl,h5,f5⟩;clear u0 u1;have hlow:Hid (∀q,(q=s.gm∨ ∃p∈s.E,ab p.2.A=I q)→q<w.heap.size):=T (λq e=>by
   rcases e with rfl|⟨p,hp,e⟩;·obtain⟨_,_,hm⟩:=HC.out.m;exact hm.bound
   ·exact(HC.out.rows p hp).low e)
  have b5:=HB4.out.fr f5 (λe=>by have:=hlow.out _ e;omega);have hcn5:=CodeOk.fr (b:=⟨pc,pl,code,ct,A',c'⟩) HCN4.out f5 (λq hq e=>by have:=hlow.out _ e;have:=HNA.out q hq;omega);have hc1:w5.cell? ⟨g,1,G⟩=I (U s.A s.bl.length s.c):=h5.cells.2.1;rcases h5.r with⟨e1,_⟩|⟨gl,hA,hrow,hcm⟩;·exact absurd e1 (by show s.bl≠[];intro e1;rw[e1] at hm1;simp at hm1)
  ·have hA:s.A=I ⟨gl,0,G⟩:=hA;have hrow:Row_b w5 gl s.c s.bl.length (nthB s.bl):=hrow;have hC5:=T (Cch.setB (w:=w5.drew) (b:=⟨pc,pl,code,ct,A',c'⟩) (h5.fr0 ((Ao _ w5).drew)) HC.out.ok (HBO.out A' c') HI.out (CodeOk.fr (b:=⟨pc,pl,code,ct,A',c'⟩) hcn5 ((Ao Aj w5).drew) (λ_ _ e=>e)) hA);obtain⟨F,g1,g2,g3⟩:=hrow;have e0:=g1.cell (m*4) O;have e1:=g1.cell (m*4+1) O;have e2:=g1.cell (m*4+2) O;have e3:=g1.cell (m*4+3) O;have y0:=g1.frozen (m*4);have y1:=g1.frozen (m*4+1);have y2:=g1.frozen (m*4+2);have y3:=g1.frozen (m*4+3);have hgl:=g1.lt;have x0:=b5.cell 0;have x1:=b5.cell 1;have x2:=b5.cell 2;have x3:=b5.cell 3;have HF5:=T f5;have HSA:=T hA;rw[hA] at hc1;obtain⟨sn,hsn⟩:=Az s.bl.length;rw[hsn] at hc1 hm1;have hm3:(m:Int)<(sn:Int):=O;have hm4:(0:Int)≤(m:Int):=O;clear g1 g2 g3 b5 hcn5 h5 f5 hm2 hA hsn;generalize F (m*4)=F0 at*;generalize F (m*4+1)=F1 at*;generalize F (m*4+2)=F2 at*;generalize F (m*4+3)=F3 at*;go_upto_region 7 with(fail);go_still_tail 7,AI;change BL _ _ _ _ _ w5.drew
   go_wp2
   go_ret;have hp: ∀A2 c2 gm2,s.put ⟨pc,pl,code,ct,A',c'⟩ A2 c2 gm2=s.set ⟨pc,pl,code,ct,A',c'⟩:=λA2 c2 gm2=>by
    unfold Cs.put;rw[An (by show 0≤idx (pc,pl) s.bl;rw[HI.out];omega)]
   refine⟨A',c',G,0,0,rfl,by rw[hp];have:=hC5.out;unfold wr4 at this;rw[show(Bk.mk pc pl code ct A' c').code.length=n from HCL.out] at this;exact this, ?_, ?_⟩;·have fw:Fr (s.wr g) w5.drew _:=wr4_fr w5.drew gl m ⟨pc,pl,code,ct,A',c'⟩ (.inr (.inl (by rw[HSA.out];rfl)));unfold wr4 at fw;rw[show(Bk.mk pc pl code ct A' c').code.length=n from HCL.out] at fw;exact((((HF4.out.mono (S':=s.wr g) (λ_ _ e=>e.elim)).tr (HF5.out.mono (λq _ e=> .inr (.inr e)))).drew).tr fw)
   ·rw[hp];intro q hq;rcases hq with(e|e|e|⟨p,hp,e⟩)|⟨x,hx,e⟩;·exact FI
    ·exact Jo
    ·exact GM
    ·obtain⟨p',hp',rfl⟩:=Bo.1 hp;exact .inl (.inl (.inr (.inr (.inr ⟨p',(C8.1 hp').1,e⟩))))
    ·rcases List.mem_or_eq_of_mem_set hx with hx|hx;·exact KA
     ·rw[hx] at e;exact .inr (HNA.out q e)
 ·have hd3:decide (0≤i)=Aa:=by simpa using hi0
  have hneg:i<0:=O;have HI4:Hid (idx (Bk.k ⟨pc,pl,code,ct,A',c'⟩) s.bl<0):=T (by show idx (pc,pl) s.bl<0;rw[HI.out];exact hneg);have hcl4:=h4.cells;have cr0:=hcl4.1;have cr1:=hcl4.2.1;have hg4:=h4.b.lt;clear hcl4;by_cases hge:s.room≤(s.bl.length:Int)
  ·have hd4:decide (s.room≤(s.bl.length:Int))=Af:=by simpa using hge
   go_upto_region 9 with(fail);go_quiet (fail);generalize hwq:w4.drewN _=wq;have fq:=SM;have HFq:=T (HF4.out.tr fq);have HCNq:=T (CodeOk.fr (b:=⟨pc,pl,code,ct,A',c'⟩) HCN4.out fq (λ_ _ e=>e));have hq:=h4.fr0 fq;have Hf:=T (Vy wq g s hq hfl);have HBq:=T (b4.fr fq id);clear hwq h4 b4 HF4 HCN4 cr0 cr1 fq hq;go_wp2_with fail;refine Ay Hf ?_;rintro e w5 ⟨gm,rfl,h5,hgm1,hgm2,f5⟩;have hlt5:((s.flush gm).bl.length:Int)<s.room:=by show((0:Nat):Int)<s.room;omega
   have hbg:↑w≠g:=O;have b5:=HBq.out.fr f5 (λe=>hbg e);have hnag:Hid (∀q,ab A'=I q→q≠g):=T (λq e e2=>by have:=HNA.out q e;omega);have HCN5:=T (CodeOk.fr (b:=⟨pc,pl,code,ct,A',c'⟩) HCNq.out f5 (λq hq e=>hnag.out q hq e));have HF5:=T f5;have HGM:=T hgm1;clear f5 hgm2;obtain⟨bb,hbb⟩: ∃bb:Bk,bb=⟨pc,pl,code,ct,A',c'⟩:=⟨_,rfl⟩;have hcells:=h5.cells;have c0:=hcells.1;have c1:=hcells.2.1;clear hcells;have z1:=h5.b.frozen 1;have hgl:=h5.b.lt;have hown:=h5.r.own;have hblen:=hlt5;obtain⟨sn,hsn⟩:=Az ((s.flush gm).bl.length);obtain⟨sA,hsA⟩:=Az ((s.flush gm).A);obtain⟨sc,hsc⟩:=Az ((s.flush gm).c);rw[hsn,hsA,hsc] at c1 hown;rw[hsn] at hblen;have HSN:=T hsn;have HSA:=T hsA;have HSC:=T hsc;clear hsn hsA hsc;have OWN:Hid ((w5.alloc (.cells #[J V pc,J V pl,U A' n c',J Z ct] 136)).drew.ownsRow 0 136 4 (U sA sn sc) sn (bcells (s.flush gm).bl)):=T (hown.alloc _);have HRD:Hid (Reads (w5.alloc (.cells #[J V pc,J V pl,U A' n c',J Z ct] 136)).drew (↑w5+1) 4 (I ⟨↑w5,0,G⟩) 1 [J V pc,J V pl,U A' n c',J Z ct]):=T (by
    have:=Cn (size:=4) (n:=1) (AH w5 136 #[J V pc,J V pl,U A' n c',J Z ct]) rfl;exact this)
   have H5:=T h5;have kb0:=T (((h5.b).alloc (.cells #[J V pc,J V pl,U A' n c',J Z ct] 136)).drew);have hne:Hid (∀k,(U sA sn sc).ownBlock=I k→ab (s.flush gm).A=I k):=T (λk e=>by
    rw[HSA.out]
    cases sA with
    |none=>simp[Bp] at e
    |some a=>simpa[Bp,ab] using e)
   have hngb:Hid ((U sA sn sc).ownBlock≠I g):=T (λe=>by
    have h1:=hne.out g e;have t:=H5.out.srt;have:=t.2.2.1 g h1;rw[t.1] at this;simp at this)
   have d0:=b5.cell 0;have d1:=b5.cell 1;have d2:=b5.cell 2;have d3:=b5.cell 3;clear hown h5 c0;go_upto_region 11 with(fail);go_region_law (
    refine DP _ rfl (.tmp 52) (.tmp 54) 133 rfl 0 136 i0 _ 4 40 Tryz.underlying133 hin hz0 hz1 hz2 rfl O (U sA sn sc) sn _ Bh OWN.out (w5.heap.size+1) (I ⟨w5.heap.size,0,G⟩) 1 1 [J V pc,J V pl,U A' n c',J Z ct] Bh HRD.out CL Bu O (AU _) ?_
    intro v1 w6 hown1 hg1 hat1
    obtain⟨A2,c2,hv1⟩:=slice_form hown1
    subst hv1
    have kb:=kb0.out.grown hg1 hngb.out.symm
    have k1:w6.cell? ⟨g,1,G⟩=I (U (s.flush gm).A (s.flush gm).bl.length (s.flush gm).c):=kb.cell 1
    have y1:=kb.frozen 1)
   all_goals
    have HO:=T hown1;have HG:=T hg1;have HAT:=T hat1;clear hown1 hg1 hat1
    go_wp2
    go_ret;subst hbb;have f6:Fr (λq=>ab (s.flush gm).A=I q) w5 w6:=((((Ao _ w5).alloc _).drew).grown HG.out (λk e=> .inl (hne.out k e)));have ho6:w6.ownsRow 0 136 4 (U A2 ((s.flush gm).bl.length+1) c2) ((s.flush gm).bl.length+1) (bcells ((s.flush gm).bl++[⟨pc,pl,code,ct,A',c'⟩])):=SN;have hcn:CodeOk w6 ⟨pc,pl,code,ct,A',c'⟩:=CodeOk.fr (b:=⟨pc,pl,code,ct,A',c'⟩) HCN5.out f6 (λq hq e=>by
     have:=CodeOk.srt (b:=⟨pc,pl,code,ct,A',c'⟩) HCN5.out hq;rw[H5.out.srt.2.2.1 q e] at this;simp at this)
    have hC:=Cch.snocB (b:=⟨pc,pl,code,ct,A',c'⟩) H5.out (HBO.out A' c') (by show(-1:Int)<0;omega) (by rw[HSN.out];exact hblen) f6 hcn ho6;rw[HSN.out] at hC;have hp:s.put ⟨pc,pl,code,ct,A',c'⟩ A2 c2 gm=(s.flush gm).snoc ⟨pc,pl,code,ct,A',c'⟩ A2 c2:=by unfold Cs.put;rw[Ae (by have:=HI4.out;omega),An hge]
    refine⟨A',c',A2,c2,gm,rfl,by rw[hp];exact hC, ?_, ?_⟩
    ·exact(((HFq.out.mono (S':=s.wr g) (λ_ _ e=>e.elim)).tr (HF5.out.mono (λq _ e=> .inl e))).trans (S':=λq=>ab (s.flush gm).A=I q∨q=g) ((f6.mono (λq _ e=> .inl e)).setCell (p:=⟨g,1,G⟩) (.inl (.inr rfl)) _) (λq hq e=>by
      rcases e with e|e;·exact absurd e SO
      ·exact .inl e))
    ·rw[hp];intro q hq;have hA2:ab A2=I q→s.own g q∨↑w≤q:=λe=>by
      rcases HAT.out with e2|e2;·have:=I1;rw[this] at e2;have:=hne.out q e2.symm;exact absurd this SO
      ·right;have:=I1;rw[this] at e2;injection e2 with e2;have h1:↑w5+1=q∨↑w5≤q:=by right;rw[e2];simp
       have:=((HFq.out.mono (S':=s.wr g) (λ_ _ e=>e.elim)).tr (HF5.out.mono (λq _ e=> .inl e))).size;omega
     rcases hq with(e|e|e|⟨p,hp,e⟩)|⟨x,hx,e⟩;·exact FI
     ·exact hA2 e
     ·right;have e:q=gm:=e;have:=HGM.out;have:=HFq.out.size;omega
     ·exact absurd hp (by show p∉[];simp)
     ·rcases BZ.1 hx with hx|hx;·exact absurd hx (by show x∉[];simp)
      ·exact SP
  ·have hd4:decide (s.room≤(s.bl.length:Int))=Aa:=by simpa using hge
   have hlt:(s.bl.length:Int)<s.room:=O;go_upto_region 9 with(fail);go_quiet (fail);generalize hwq:w4.drewN _=wq;have fq:=SM;have HFq:=T (HF4.out.tr fq);have HCNq:=T (CodeOk.fr (b:=⟨pc,pl,code,ct,A',c'⟩) HCN4.out fq (λ_ _ e=>e));have hq:=h4.fr0 fq;have bq:=b4.fr fq id;clear hwq h4 b4 HF4 HCN4 cr0 cr1 fq;obtain⟨bb,hbb⟩: ∃bb:Bk,bb=⟨pc,pl,code,ct,A',c'⟩:=⟨_,rfl⟩;have hcells:=hq.cells;have c0:=hcells.1;have c1:=hcells.2.1;clear hcells;have z1:=hq.b.frozen 1;have hgl:=hq.b.lt;have hown:=hq.r.own;have hblen:=hlt;obtain⟨sn,hsn⟩:=Az s.bl.length;obtain⟨sA,hsA⟩:=Az s.A;obtain⟨sc,hsc⟩:=Az s.c;rw[hsn,hsA,hsc] at c1 hown;rw[hsn] at hblen;have HSN:=T hsn;have HSA:=T hsA;have HSC:=T hsc;clear hsn hsA hsc;have OWN:Hid ((wq.alloc (.cells #[J V pc,J V pl,U A' n c',J Z ct] 136)).drew.ownsRow 0 136 4 (U sA sn sc) sn (bcells s.bl)):=T (hown.alloc _);have HRD:Hid (Reads (wq.alloc (.cells #[J V pc,J V pl,U A' n c',J Z ct] 136)).drew (↑wq+1) 4 (I ⟨↑wq,0,G⟩) 1 [J V pc,J V pl,U A' n c',J Z ct]):=T (by
    have:=Cn (size:=4) (n:=1) (AH wq 136 #[J V pc,J V pl,U A' n c',J Z ct]) rfl;exact this)
   have H5:=T hq;have kb0:=T (((hq.b).alloc (.cells #[J V pc,J V pl,U A' n c',J Z ct] 136)).drew);have hne:Hid (∀k,(U sA sn sc).ownBlock=I k→ab s.A=I k):=T (λk e=>by
    rw[HSA.out]
    cases sA with
    |none=>simp[Bp] at e
    |some a=>simpa[Bp,ab] using e)
   have hngb:Hid ((U sA sn sc).ownBlock≠I g):=T (λe=>by
    have h1:=hne.out g e;have t:=H5.out.srt;have:=t.2.2.1 g h1;rw[t.1] at this;simp at this)
   have d0:=bq.cell 0;have d1:=bq.cell 1;have d2:=bq.cell 2;have d3:=bq.cell 3;clear hown hq c0;go_upto_region 11 with(fail);go_region_law (
    refine DP _ rfl (.tmp 52) (.tmp 54) 133 rfl 0 136 i0 _ 4 40 Tryz.underlying133 hin hz0 hz1 hz2 rfl O (U sA sn sc) sn _ Bh OWN.out (wq.heap.size+1) (I ⟨wq.heap.size,0,G⟩) 1 1 [J V pc,J V pl,U A' n c',J Z ct] Bh HRD.out CL Bu O (AU _) ?_
    intro v1 w6 hown1 hg1 hat1
    obtain⟨A2,c2,hv1⟩:=slice_form hown1
    subst hv1
    have kb:=kb0.out.grown hg1 hngb.out.symm
    have k1:w6.cell? ⟨g,1,G⟩=I (U s.A s.bl.length s.c):=kb.cell 1
    have y1:=kb.frozen 1)
   all_goals
    have HO:=T hown1;have HG:=T hg1;have HAT:=T hat1;clear hown1 hg1 hat1
    go_wp2
    go_ret;subst hbb;have f6:Fr (λq=>ab s.A=I q) wq w6:=((((Ao _ wq).alloc _).drew).grown HG.out (λk e=> .inl (hne.out k e)));have ho6:w6.ownsRow 0 136 4 (U A2 (s.bl.length+1) c2) (s.bl.length+1) (bcells (s.bl++[⟨pc,pl,code,ct,A',c'⟩])):=SN;have hcn:CodeOk w6 ⟨pc,pl,code,ct,A',c'⟩:=CodeOk.fr (b:=⟨pc,pl,code,ct,A',c'⟩) HCNq.out f6 (λq hq e=>by
     have:=CodeOk.srt (b:=⟨pc,pl,code,ct,A',c'⟩) HCNq.out hq;rw[H5.out.srt.2.2.1 q e] at this;simp at this)
    have hC:=Cch.snocB (b:=⟨pc,pl,code,ct,A',c'⟩) H5.out (HBO.out A' c') HI4.out (by rw[HSN.out];exact hblen) f6 hcn ho6;rw[HSN.out] at hC;have hp:s.put ⟨pc,pl,code,ct,A',c'⟩ A2 c2 0=s.snoc ⟨pc,pl,code,ct,A',c'⟩ A2 c2:=by unfold Cs.put;rw[Ae (by have:=HI4.out;omega),Ae (by have:=HSN.out;omega)]
    refine⟨A',c',A2,c2,0,rfl,by rw[hp];exact hC, ?_, ?_⟩
    ·exact((HFq.out.mono (S':=s.wr g) (λ_ _ e=>e.elim)).trans (S':=λq=>ab s.A=I q∨q=g) ((f6.mono (λq _ e=> .inl e)).setCell (p:=⟨g,1,G⟩) (.inl (.inr rfl)) _) (λq hq e=>by
      rcases e with e|e;·exact .inr (.inl e)
      ·exact .inl e))
    ·rw[hp];intro q hq;have hA2:ab A2=I q→s.own g q∨↑w≤q:=λe=>by
      rcases HAT.out with e2|e2;·have:=I1;rw[this] at e2;have:=hne.out q e2.symm;exact .inl (.inl (.inr (.inl this)))
      ·right;have:=I1;rw[this] at e2;injection e2 with e2;have h1:↑wq+1=q∨↑wq≤q:=by right;rw[e2];simp
       have:=(HFq.out.mono (S':=s.wr g) (λ_ _ e=>e.elim)).size;omega
     rcases hq with(e|e|e|⟨p,hp,e⟩)|⟨x,hx,e⟩;·exact FI
     ·exact hA2 e
     ·exact GM
     ·exact .inl (.inl (.inr (.inr (.inr ⟨p,hp,e⟩))))
     ·rcases BZ.1 hx with hx|hx;·exact KA
      ·exact SP
end Ca
end Go.Proofs.YtpmlgdopfafcgaaGreatDoor
