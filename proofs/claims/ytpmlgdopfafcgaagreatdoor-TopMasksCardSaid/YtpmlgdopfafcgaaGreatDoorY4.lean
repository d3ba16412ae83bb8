import Derived.Test.YtpmlgdopfafcgaaGreatDoorY3
open Go.Value renaming int→J,slice→U,bool→Ap,tuple→AD,ownBlock→Bp,agg→AA,pointer→Bi
open Option renaming some→I,none→G
open Go.IntKind renaming i64→Z,u32→V,u64→AM,u8→AC,wrap_u64→Dk,wrap_u32→DH
open Bool renaming false→Aa,true→Af,false_ne_true→Da,false_and→D7
open Go renaming World→Ac,Value→As,Calls→At,bodyPost_ret→Bf,TypeId→AK,wp_region_held_drew→BY,info_parts→BH,Ending→AT,madeCells→Cb,maxLen→Br,Program→BW,undef→Bt,wpList→BL,bits→Bb,run_underlying→CX
open List renaming getD_eq_getElem?_getD→AN,getElem?_eq_getElem→Bj,length_append→BJ,append_assoc→BM,mem_map→Bo,getElem?_take_of_lt→Cw,replicate→BK,range→Bm,getElem?_append_right→CB,getElem_mem→BU,mem_append→BZ,getElem?_append_left→CO,getElem?_map→C7,cons_append→CC,mem_filter→C8,length_pos_iff→CP,length_cons→CK,mem_cons→Cy,getLastD_eq_getLast?→Dg,nil_append→CI,getElem?_eq_none→De,dropLast_concat→Do,mem_singleton→Dv,map_append→Df,length_map→Di,getElem_of_mem→DD,length_nil→Dp,concat_eq_append→DI,getElem?_range→DL,range_succ→DB,getElem?_replicate→DW,singleton_append→DV,map_cons→D6,map_map→D8,setIfInBounds_toArray→Eb
open Go.Ending renaming returned→Ax
open And renaming intro→A9
open Nat renaming le_refl→AE,lt_of_lt_of_le→AW,le_trans→AS,zero_le→AU,zero_add→Bn,eq_zero_or_pos→Dm,reduceEqDiff→Dq
open Or renaming inl→Ag,inr→Ah
open Go.Proofs.Tryz renaming underlying41→AP,underlying31→CF,underlying22→CV,underlying215→Dl,underlying26→DN
open Go.RowKit renaming intOf→AJ
open Int renaming eq_ofNat_of_zero_le→CM,toNat_natCast→C4,emod_eq_of_lt→CZ
open Go.Builtin renaming zeroCells→CG,delete_→Eh
open Array renaming getElem?_toList→CN,getElem?_eq_some_iff→DX
open Go.Region renaming wanted→CA
open Go.Result renaming andThen→CT
open Option.some renaming inj→Ds
open Go.MapKept renaming run_getObj_map→DJ,run_setObj_map→Ef
open Go.Instr renaming makeSlice→Dj,mapUpdate→DK
open Go.IntWalk renaming i64_in→Du
open Go.Lit renaming int→C9
open Go.Sem renaming run_bind→D5
set_option linter.all false
set_option maxHeartbeats 40000000
set_option maxRecDepth 1000000
open Go Go.RowKit
namespace Go.Proofs.YtpmlgdopfafcgaaGreatDoor
namespace Rn
open Gs Sv Gm Gc
theorem oth_csrr(n:Int)(w:Ac)(p:Rp)(x:Rs)(P:AG)(a:Bs.Ab)(A:Mu.Au)(g:Mc)(h:Dn w p x P a A g)(hr:Ready x)(n0:0≤n)(n1:n≤4294967295):At Tryz.prog 122 #[↑p.g,AA #[J Z 66,J V n]] w (DPost w p P a A (toRs ⟨push1 x.s (getV {x.s with ct:=x.cnt} n),0,0,Aa,g⟩ x.cnt) g (AD #[])):=by
 have D0:=T (h.fr0 ((Ao Aj w).alloc (.cells #[J Z 66,J V n] 26)));have F0:=T ((Ao Aj w).alloc (.cells #[J Z 66,J V n] 26));have bx:Blk (w.alloc (.cells #[J Z 66,J V n] 26)) ↑w 26 #[J Z 66,J V n]:=AH _ _ _;have HR:=T hr;have hll:=NO;have hcv:=Jy;clear h hr;go_in;go_upto_region 19 with(fail);obtain⟨W0,hW0⟩:=Az (w.alloc (.cells #[J Z 66,J V n] 26));rw[hW0] at D0 F0 bx⊢;clear hW0;generalize hgb:w.heap.size=gb at*;have b0:=D0.out.rn.b;have k16:=b0.cell 16;have y1:=bx.cell 1;have hgl:=b0.lt;have hgl2:=bx.lt;go_upto_region 20 with((with_reducible refine wpL_ldm (stc x.s (U p.A x.s.d.length p.ca) (U p.B x.s.r.length p.cb)) b0 AP sz16 ?q1 ?q2 ?q3 ?q4 ?_);(case q1=>rfl);(case q2=>rfl);(case q3=>exact rc_head _ _ _ _ _);(case q4=>rfl));go_upto_region 21 with(fail);have b1:Blk (W0.alloc (.cells #[J V x.s.pc,U p.A x.s.d.length p.ca,U p.B x.s.r.length p.cb,J V x.s.fl,Ap x.s.su,Ap x.s.pg,Ap x.s.ie,J V x.s.rt,J V x.s.ve,J V x.s.ep,J V x.s.ca,J V x.s.ad,Ap x.s.es,Ap x.s.ei,J AM x.cnt,Ap x.s.ha] 41)) ↑W0 41 (stc {x.s with ct:=x.cnt} (U p.A x.s.d.length p.ca) (U p.B x.s.r.length p.cb)):=AH _ _ _;have f1:Fr Aj W0 (W0.alloc (.cells #[J V x.s.pc,U p.A x.s.d.length p.ca,U p.B x.s.r.length p.cb,J V x.s.fl,Ap x.s.su,Ap x.s.pg,Ap x.s.ie,J V x.s.rt,J V x.s.ve,J V x.s.ep,J V x.s.ca,J V x.s.ad,Ap x.s.es,Ap x.s.ei,J AM x.cnt,Ap x.s.ha] 41)):=(Ao _ _).alloc _;obtain⟨W1,hW1⟩:=Az (W0.alloc (.cells #[J V x.s.pc,U p.A x.s.d.length p.ca,U p.B x.s.r.length p.cb,J V x.s.fl,Ap x.s.su,Ap x.s.pg,Ap x.s.ie,J V x.s.rt,J V x.s.ve,J V x.s.ep,J V x.s.ca,J V x.s.ad,Ap x.s.es,Ap x.s.ei,J AM x.cnt,Ap x.s.ha] 41));rw[hW1] at b1 f1⊢;clear hW1 k16 b0 y1;have y1:=(bx.fr f1 id).cell 1;have D1:=T (D0.out.fr0 f1);have F1:=T (F0.out.tr f1);have Hg:=T (get_any W1 {x.s with ct:=x.cnt} (U p.A x.s.d.length p.ca) (U p.B x.s.r.length p.cb) n n0 HR.out.cnt.1);clear f1 bx;go_wp2_with ((with_reducible refine wpL_lq b1 AP sz16 ?_));refine Ay Hg ?_;rintro e w2 ⟨rfl,f2⟩;have D2:=T (D1.out.fr0 f2);have F2:=T (F1.out.tr f2);generalize getV {x.s with ct:=x.cnt} n=v at*;have HLen:Hid (x.s.d.length≤999):=T O;clear f2 b1;go_wp2_with fail;refine(Jr (w2.alloc (.cells #[J V v] 24)) _ _ _ _ (D2.out.rn.fr0 ((Ao _ _).alloc _)) ↑w2 v (AH _ _ _) HLen.out).mono ?_;intro e w8 hq;have he:=hq.1;subst he;have HQ:=T ((D2.out.fr0 ((Ao Aj w2).alloc (.cells #[J V v] 24))).ofR hq);clear hq
 go_wp2
 go_end0;have hx:=DPost.from0 (F2.out.alloc _) HQ.out;have hr:=HR.out;simpa only[toRs,hr.c,hr.a,hr.dv] using hx
theorem step_ldm{P:BW}{w:Ac}{g:Nat}{t ty:AK}{cs:AL}{d:TypeDesc}{n:Nat}(ds:AL)(h:Blk w g t cs)(hu:P.underlying ty=I d)(hi:(P.info? ty).map (·.size)=I n)(hd:d.isRow=Af)(hn:ds.size=n)(hds: ∀j,j<ds.size→cs[j]?=ds[j]?){ops:Array Oper}{o:Oper}{a:Act}{K:Act→Ac→Prop}{Q:Exit→Act→Ac→Prop}{E:Prop}{x:Operand}(ho:o.op=.load ty x)(hg:o.guard=G)(hx:a.eval x=↑g)(hk:K (a.put o.dst (AA ds)) w):if CA o (yielded ops a.tmps)=Af then Oper.wp P o a w K Q else E:=by
 have hw:=GW;rw[An hw];refine wp_load_mid ty x ho g 0 hx ds.toList d (λj v hv=>?_) hu hd GA ?_;·exact NM
 ·simpa using hk
theorem step_stm{P:BW}{w:Ac}{g:Nat}{t ty:AK}{cs cs':AL}{n:Nat}(h:Blk w g t cs)(hi:(P.info? ty).map (·.size)=I n)(hs:cs'.size≤cs.size)(hn:cs'.size=n)(h1:cs'.all (·.oneCell')=Af){ops:Array Oper}{o:Oper}{a:Act}{K:Act→Ac→Prop}{Q:Exit→Act→Ac→Prop}{E:Prop}{x y:Operand}(ho:o.op=.store ty x y)(hg:o.guard=G)(hx:a.eval x=↑g)(hy:a.eval y=AA cs')(hk: ∀W,Blk W g t (setRange cs 0 cs'.toList)→Fr (· =g) w W→K (a.put o.dst Bt) W):if CA o (yielded ops a.tmps)=Af then Oper.wp P o a w K Q else E:=by
 have hw:=GW;rw[An hw];refine wp_store_mid ty x y ho g 0 cs' hx hy (λj hj=>?_) (by rw[hi,hn]) h1 (hk _ (h.setCells cs'.toList 0) (Fr.setCells _ _ (Ao _ _) (Ag rfl)));exact NQ
theorem oth_csrw(n:Int)(w:Ac)(p:Rp)(x:Rs)(P:AG)(a:Bs.Ab)(A:Mu.Au)(g:Mc)(h:Dn w p x P a A g)(hr:Ready x)(n0:0≤n)(n1:n≤4294967295)(hn12:n≠1∧n≠2)(hd:x.s.d≠[]):At Tryz.prog 122 #[↑p.g,AA #[J Z 67,J V n]] w (DPost w p P a A (toRs ⟨setS (Gm.pop1 x.s) n (top1 x.s.d),0,0,Aa,g⟩ x.cnt) g (AD #[])):=by
 have q1:(n==1)=Aa:=by simp[hn12.1]
 have q2:(n==2)=Aa:=by simp[hn12.2]
 have D0:=T (h.fr0 ((Ao Aj w).alloc (.cells #[J Z 67,J V n] 26)));have F0:=T ((Ao Aj w).alloc (.cells #[J Z 67,J V n] 26));have bx:Blk (w.alloc (.cells #[J Z 67,J V n] 26)) ↑w 26 #[J Z 67,J V n]:=AH _ _ _;have BX:=T bx;have HLT:=T h.rn.lt;have HR:=T hr;have hb:=(show Bl x.s.d from hr.k.1.d).top;have HD:=T hd;have hll:=NO;have hcv:=Jy;obtain⟨v,hv⟩:=Az (top1 x.s.d);rw[hv] at hb⊢;have H0:=T (pop_any (w.alloc (.cells #[J Z 67,J V n] 26)) p x _ _ D0.out.rn hd);rw[hv] at H0;have KP:Hid (Rk (Gm.pop1 x.s)):=T (hr.k.stacks (show Bl x.s.d from hr.k.1.d).drop hr.k.1.r A8 hr.k.2.2.1);obtain⟨hb0,hb1⟩:=hb;have hl2:(Gm.pop1 x.s).d.length≤16∧(Gm.pop1 x.s).r.length≤16:=⟨by simp[Gm.pop1];omega,hll.2⟩;have HL2:=T hl2;have HV:=T hv;clear h hr hd hv bx hl2 hn12;go_in;go_wp2_with fail;refine Ay H0 ?_;intro e w1 hq;have hbx:Blk w1 ↑w 26 #[J Z 67,J V n]:=by
  obtain⟨_,p',_,_,_,f⟩:=hq;exact BX.out.fr f (λe=>by have:=HLT.out _ e;omega)
 obtain⟨rfl,⟨g1,A1,ca1,B1,cb1⟩,P1,L1,D1⟩:=D0.out.ofR hq;obtain rfl:g1=p.g:=L1.g;have L1:=T ((Lk.fr0 F0.out).tr L1);have HBX:=T hbx;have D1:=T D1;clear hq;generalize hgb:w.heap.size=gb at*;have y1:=hbx.cell 1;have Hset:=T (set_any w1.drew 0 (Gm.pop1 x.s) A1 B1 ca1 cb1 ((D1.out.fr0 (Ao Aj w1).drew).stv KP.out.1) (by have:=HL2.out.1;omega) (by have:=HL2.out.2;omega) n v hb0 hb1);generalize setB n=sb at*;obtain⟨t,ht⟩:=Az (setS (Gm.pop1 x.s) n v);rw[ht] at Hset⊢;have HT:=T ht;have hdl:t.d.length=(Gm.pop1 x.s).d.length∧t.r.length=(Gm.pop1 x.s).r.length:=by
  rw[←ht];unfold setS
  repeat' split
  all_goals exact⟨rfl,rfl⟩
 have HDL:=T hdl;clear hbx ht hdl;have b0:=D1.out.rn.b.drew;go_upto_region 25 with(fail);refine wp_region_any AI ?_
 try(change wpAny _ _ _ _ _ _ _ (World.drew _))
 refine Ch 0 rfl Ci ?_;refine Ch 1 rfl Ci ?_;refine Ch 2 rfl Ci ?_;refine Ch 3 rfl Ci ?_;simp only[AF];refine Ch 5 rfl Ci ?_;refine Ch 8 rfl Ci ?_;simp only[AF];refine Cu [4,6] ?_;refine BQ (λK hK=>?_) ?_
 ·refine step_ldm (stc (Gm.pop1 x.s) (U A1 (Gm.pop1 x.s).d.length ca1) (U B1 (Gm.pop1 x.s).r.length cb1)) b0 AP sz16 rfl rfl (rc_head _ _ _ _ _) rfl rfl Bh ?_;refine hK _ _ ?_;clear hK K;refine Cu [6] ?_;refine BQ (λK hK=>?_) ?_;·go_simp;exact NR
  exact C0
 refine BQ (λK hK=>?_) ?_
 ·go_simp;refine hK _ _ ?_;clear hK K;refine Cu [4,7] ?_;refine BQ (λK hK=>?_) ?_;·refine step_ldm (stc (Gm.pop1 x.s) (U A1 (Gm.pop1 x.s).d.length ca1) (U B1 (Gm.pop1 x.s).r.length cb1)) b0 AP sz16 rfl rfl (rc_head _ _ _ _ _) rfl rfl Bh ?_;exact NR
  refine BQ (λK hK=>?_) ?_
  ·go_simp;refine hK _ _ ?_;clear hK K;refine Cu [4] ?_;refine BQ (λK hK=>?_) ?_;·refine step_ldm (stc (Gm.pop1 x.s) (U A1 (Gm.pop1 x.s).d.length ca1) (U B1 (Gm.pop1 x.s).r.length cb1)) b0 AP sz16 rfl rfl (rc_head _ _ _ _ _) rfl rfl Bh ?_;exact NS
   exact C0
  exact C0
 exact C0
end Rn
end Go.Proofs.YtpmlgdopfafcgaaGreatDoor
