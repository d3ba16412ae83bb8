import Derived.Test.YtpmlgdopfafcgaaGreatDoorY42
open Go.Value renaming int→J,slice→U,bool→Ap,tuple→AD,ownBlock→Bp,agg→AA,pointer→Bi
open Option renaming some→I,none→G
open Go.IntKind renaming i64→Z,u32→V,u64→AM,u8→AC,wrap_u64→Dk,wrap_u32→DH
open Bool renaming false→Aa,true→Af,false_ne_true→Da,false_and→D7
open Go renaming World→Ac,Value→As,Calls→At,bodyPost_ret→Bf,TypeId→AK,wp_region_held_drew→BY,info_parts→BH,Ending→AT,madeCells→Cb,maxLen→Br,Program→BW,undef→Bt,wpList→BL,bits→Bb,run_underlying→CX
open List renaming getD_eq_getElem?_getD→AN,getElem?_eq_getElem→Bj,length_append→BJ,append_assoc→BM,mem_map→Bo,getElem?_take_of_lt→Cw,replicate→BK,range→Bm,getElem?_append_right→CB,getElem_mem→BU,mem_append→BZ,getElem?_append_left→CO,getElem?_map→C7,cons_append→CC,mem_filter→C8,length_pos_iff→CP,length_cons→CK,mem_cons→Cy,getLastD_eq_getLast?→Dg,nil_append→CI,getElem?_eq_none→De,dropLast_concat→Do,mem_singleton→Dv,map_append→Df,length_map→Di,getElem_of_mem→DD,length_nil→Dp,concat_eq_append→DI,getElem?_range→DL,range_succ→DB,getElem?_replicate→DW,singleton_append→DV,map_cons→D6,map_map→D8,setIfInBounds_toArray→Eb
open Go.Ending renaming returned→Ax
open And renaming intro→A9
open Nat renaming le_refl→AE,lt_of_lt_of_le→AW,le_trans→AS,zero_le→AU,zero_add→Bn,eq_zero_or_pos→Dm,reduceEqDiff→Dq
open Or renaming inl→Ag,inr→Ah
open Go.Proofs.Tryz renaming underlying41→AP,underlying31→CF,underlying22→CV,underlying215→Dl,underlying26→DN
open Go.RowKit renaming intOf→AJ
open Int renaming eq_ofNat_of_zero_le→CM,toNat_natCast→C4,emod_eq_of_lt→CZ
open Go.Builtin renaming zeroCells→CG,delete_→Eh
open Array renaming getElem?_toList→CN,getElem?_eq_some_iff→DX
open Go.Region renaming wanted→CA
open Go.Result renaming andThen→CT
open Option.some renaming inj→Ds
open Go.MapKept renaming run_getObj_map→DJ,run_setObj_map→Ef
open Go.Instr renaming makeSlice→Dj,mapUpdate→DK
open Go.IntWalk renaming i64_in→Du
open Go.Lit renaming int→C9
open Go.Sem renaming run_bind→D5
set_option linter.all false
set_option maxHeartbeats 40000000
set_option maxRecDepth 1000000
open Go Go.RowKit
namespace Go.Proofs.YtpmlgdopfafcgaaGreatDoor
namespace topIrqs
open Fm Nt Rm By Wk Gs Bs Mu Sv Gm Gc Rn Eg Kd Bl
def headI:List Ins:=[⟨2,128⟩,⟨67,3⟩,⟨2,255⟩,⟨2,32772⟩,⟨49,0⟩,⟨1,1⟩,⟨67,0⟩]
def rowI(l:List Ins):List As:=(l.map (λi=>[J Z i.op,J V i.n])).flatten
theorem rowI_app(l m:List Ins):rowI (l++m)=rowI l++rowI m:=by simp[rowI]
theorem rowI_at(l:List Ins): ∀(i:Nat) (x:Ins),l[i]?=I x→(rowI l)[i*2]?=I (J Z x.op)∧(rowI l)[i*2+1]?=I (J V x.n):=by
 induction l with
 |nil=>intro i x h;simp at h
 |cons y l ih=>
  intro i x h
  match i,h with
  |0,h=>simp at h;subst h;exact⟨rfl,rfl⟩
  |i+1,h=>
   obtain⟨h1,h2⟩:=ih i x C3;have e1:(i+1)*2=i*2+1+1:=O;rw[e1];exact⟨by simpa[rowI] using h1,by simpa[rowI] using h2⟩
theorem T0(l:List Ins): ∀u∈rowI l,u.oneCell'=Af:=λu hu=>by
 unfold rowI at hu;rw[List.mem_flatten] at hu;obtain⟨q,hq,hu⟩:=hu;obtain⟨i,_,rfl⟩:=Bo.1 hq;simp at hu;rcases hu with rfl|rfl<;>rfl
theorem irq_ok(j:Nat): ∀i∈(headI++BK j ⟨0,0⟩++[⟨32,254⟩]:List Ins),InsOk i:=by
 intro i hi;rcases BZ.1 hi with hi|hi
 ·rcases BZ.1 hi with hi|hi;·simp[headI] at hi;rcases hi with rfl|rfl|rfl|rfl|rfl|rfl|rfl<;>exact⟨Ak,Ak,Ak⟩
  ·obtain rfl:=(List.mem_replicate.1 hi).2;exact⟨Ak,Ak,Ak⟩
 ·obtain rfl:=Dv.1 hi;exact⟨Ak,Ak,Ak⟩
theorem T1(j:Nat):codeL (headI++BK j ⟨0,0⟩++[⟨32,254⟩])=[2,128,0,0,0,67,3,2,255,0,0,0,2,4,128,0,0,49,1,1,67,0]++(BK j 0++[32,254]):=by
 rw[KT,KT,BM];have h1:codeL headI=[2,128,0,0,0,67,3,2,255,0,0,0,2,4,128,0,0,49,1,1,67,0]:=Ak;have h2:codeL (BK j ⟨0,0⟩)=BK j 0:=by
  induction j with
  |zero=>rfl
  |succ j ih=>
   rw[List.replicate_succ,List.replicate_succ,←ih];rfl
 rw[h1,h2];rfl
theorem hand_ok: ∀i∈([⟨66,5⟩,⟨69,0⟩]:List Ins),InsOk i:=by
 intro i hi;simp at hi;rcases hi with rfl|rfl<;>exact⟨Ak,Ak,Ak⟩
theorem hand_at: ∀(i:Nat) (x:Ins),([⟨66,5⟩,⟨69,0⟩]:List Ins)[i]?=I x→(#[J Z 66,J V 5,J Z 69,J V 0]:AL)[i*2]?=I (J Z x.op)∧(#[J Z 66,J V 5,J Z 69,J V 0]:AL)[i*2+1]?=I (J V x.n):=λi x hx=>by
 match i,hx with
 |0,hx=>cases hx;exact⟨rfl,rfl⟩
 |1,hx=>cases hx;exact⟨rfl,rfl⟩
 |i+2,hx=>simp at hx
variable{w:Ac}
theorem own_ge_{base n s q:Nat}{e:AK}{v:As}{xs:List As}(h:w.ownsRow base e s v n xs)(hn:0<n)(hq:v.ownBlock=I q):base≤q:=by
 obtain⟨g',cap,cur,hv,hg,_⟩:=own_blk h hn;rw[hv] at hq;have:g'=q:=SS;omega
theorem irq_line{K:Nat}(h:K<8):Iq.okAll [(K:Int)]=Af∧Iq.raised [(K:Int)] 0=2^K∧2^K<256∧Iq.nextB (2^K) 255=Af∧Iq.nextN (2^K) 255=K:=by
 match K,h with
 |0,_=>decide
 |1,_=>decide
 |2,_=>decide
 |3,_=>decide
 |4,_=>decide
 |5,_=>decide
 |6,_=>decide
 |7,_=>decide
 |K+8,h=>omega
theorem gbus_0{K:AG}{gg:Nat}{a:Ab}{A:Au}{ge:Nat}{e:Eo}{s:St}{g:Mc}(h:Gt w K gg a A ge e s g):w.cell? ⟨a.gB,0,G⟩=I ↑a.gc:=by
 obtain⟨gp,X,c,Y,d,hb,hS,hne,P,p1,p2,p3,p4,hM⟩:=h.ex;obtain⟨F,hbu,_⟩:=hM.bus;exact hbu.b.cell 0
theorem irq_two{g:Mc}{mk x ct:Int}{pad p m jr:Nat}(h:Im g.b.ms mk pad)(i:Idle g p m)(hi:Iq.nextB p m=Af)(c0:0≤ct)(c1:ct≤10000)(hr:RunTo 2 (atS x ct) g jr): ∃s2 g2,blkN jr (atS x ct) g=⟨s2,g2⟩∧s2.ha=Af∧s2.ct=ct+2∧s2.d=[16+(Iq.nextN p m:Int)]∧s2.ep=x∧g2.b.p=p:=by
 obtain⟨g1,g2,s1,s2,e1,e2,a1,a2,b1,b2,b3,b4,b5⟩:=irq_told h i hi c0 c1;obtain rfl:=hr.at 2 (λk hk=>by
  match k,hk with
  |0,_=>exact go_at O rfl (by show 0≤ct -ct;omega) (by show ct -ct<2;omega) O
  |1,_=>rw[e1];exact go_at O a1 (by show 0≤s1.ct -ct;omega) (by show s1.ct -ct<2;omega) O) (by rw[e2];exact stop_at (Ah (Ag b1)))
 exact⟨s2,g2,e2,b1,b2,b3,b4,b5⟩
theorem Wn{W:Ac}{base q:Nat}{s:St}{X Y:Aw}{c d:Nat}{v:Int}{cs:AL}(h:StV w base s (U X s.d.length c) (U Y s.r.length d))(hb:Blk w q 41 cs)(f:Fr (· =q) w W)(hd:s.d=[v]): ∃gd,X=I ⟨gd,0,G⟩∧W.cell? ⟨gd,0,G⟩=I (J .u32 v)∧gd<W.heap.size:=by
 have hr:=h.d;unfold Rw at hr;have hn:0<s.d.length:=by rw[hd];exact Nat.zero_lt_one
 obtain⟨g',cap,cur,hv,hbase,hbk,hnc,hcm,hcs,htk⟩:=own_blk hr hn;injection hv with hv _ _;subst hv;have hl:=hbk.lt;refine⟨g',rfl, ?_,AW hl f.size⟩;have hne: ¬g'=q:=Blk.ne_ hbk hb Ak;refine f.cell ?_ hl hne;rw[hbk.cell 0,←CN,←Cw (show 0<s.d.length*1 by omega),htk,hd];rfl
set_option maxRecDepth 1000000 in
theorem walk(w:Ac)(hT:Iq.Tab w)(line:Int)(hline:(C9 .i64 line).wf=Af)(A:Aw)(len cap:Nat)(hc:len≤cap)(zs:List Int)(hz:IntsAt Z w ↑w A len zs)(hm:len≤Br)(pad:Int)(hpad:(C9 .i64 pad).wf=Af):At Tryz.prog 3 #[J Z line,U A len cap,J Z pad] w λe w'=>e=Ax (.bool Af)∧Fr Aj w w':=by
 obtain⟨i0,hi0,hz0,hz1,hz2⟩:=BH Eg.infoIn;obtain⟨ln0,ln1⟩:=wf_i64 hline;obtain⟨pd0,pd1⟩:=wf_i64 hpad;have HT:=T hT;have HZ:=T hz;clear hT hz;obtain⟨K,hK⟩: ∃K:Nat,line%8=K:=⟨(line%8).toNat,O⟩;obtain⟨N,hN⟩: ∃N:Nat,pad%13=N:=⟨(pad%13).toNat,O⟩;have hK8:K<8:=O;have hN13:N≤12:=O;have HW1:=T (λW=>by have:=Bk.within_any W line 0 7 ln0 ln1 (by omega) (by omega) (by omega);rw[show(0:Int)+line%(7 -0+1)=K by omega] at this;exact this);have HW2:=T (λW=>by have:=Bk.within_any W pad 0 12 pd0 pd1 (by omega) (by omega) (by omega);rw[show(0:Int)+pad%(12 -0+1)=N by omega] at this;exact this);clear hline hpad ln0 ln1 pd0 pd1 hK hN;go_in;go_wp2_with fail;refine(HW1.out w).mono ?_;rintro e w0 ⟨rfl,rfl⟩;clear HW1;go_wp2_with fail;refine(lit_any w 128).mono ?_;rintro e w1 ⟨rfl,f1⟩;go_wp2_with fail;refine(with_any w1 67 3).mono ?_;rintro e w2 ⟨rfl,f2⟩;go_wp2_with fail;refine(lit_any w2 255).mono ?_;rintro e w3 ⟨rfl,f3⟩;go_wp2_with fail;refine(lit_any w3 32772).mono ?_;rintro e w4 ⟨rfl,f4⟩;go_wp2_with fail;refine(in_any w4 49).mono ?_;rintro e w5 ⟨rfl,f5⟩;go_wp2_with fail;refine(with_any w5 1 1).mono ?_;rintro e w6 ⟨rfl,f6⟩;go_wp2_with fail;refine(with_any w6 67 0).mono ?_;rintro e w7 ⟨rfl,f7⟩;have f07:=(((((f1.tr f2).tr f3).tr f4).tr f5).tr f6).tr f7;have b8:=AH w7 26 #[J Z 2,J V 128,J Z 67,J V 3,J Z 2,J V 255,J Z 2,J V 32772,J Z 49,J V 0,J Z 1,J V 1,J Z 67,J V 0];have hs7:=f07.size;have HR:=T (show(w7.alloc (.cells #[J Z 2,J V 128,J Z 67,J V 3,J Z 2,J V 255,J Z 2,J V 32772,J Z 49,J V 0,J Z 1,J V 1,J Z 67,J V 0] 26)).ownsRow ↑w 26 2 (U (I ⟨↑w7,0,G⟩) 7 7) 7 (rowI headI) from⟨rfl,Ah ⟨↑w7,7,_,rfl,hs7,b8,AE _,DT,rfl,rfl⟩⟩);have F8:=T (f07.alloc (.cells #[J Z 2,J V 128,J Z 67,J V 3,J Z 2,J V 255,J Z 2,J V 32772,J Z 49,J V 0,J Z 1,J V 1,J Z 67,J V 0] 26));clear f1 f2 f3 f4 f5 f6 f7 f07 b8 hs7;go_upto_region 3 with(fail);generalize w7.alloc (.cells #[J Z 2,J V 128,J Z 67,J V 3,J Z 2,J V 255,J Z 2,J V 32772,J Z 49,J V 0,J Z 1,J V 1,J Z 67,J V 0] 26)=w8 at*;go_wp2_with fail;refine(HW2.out w8).mono ?_;rintro e w9 ⟨rfl,rfl⟩;clear HW2;go_wp2_with fail;have HSW:=T F8.out.size;go_loopw [8,9] (λsv iv wr=> ∃(j gA c:Nat),j≤N∧sv=U (I ⟨gA,0,G⟩) (7+j) c∧iv=J Z ((N -j:Nat):Int)∧Hid (wr.ownsRow ↑w 26 2 (U (I ⟨gA,0,G⟩) (7+j) c) (7+j) (rowI (headI++BK j ⟨0,0⟩)))∧Hid (Fr Aj w wr)) (λ_ iv _=>(AJ iv).toNat)
 case atStart=>exact⟨0,w7.heap.size,7,AU _,rfl,rfl,HR,F8⟩
 case round=>
  obtain⟨j,gA,c,hj,rfl,rfl,hR,hF⟩:=hrel;by_cases hlt:j<N
  ·have h0:decide (((N -j:Nat):Int)>0)=Af:=A8;have hsw:=hF.out.size;go_wp2_with fail;refine(in_any wr 0).mono ?_;rintro e w10 ⟨rfl,f10⟩;have hs10:=f10.size;have HR1:=T ((own_fr hR.out f10 (λ_ _ e=>e)).alloc (.cells #[J Z 0,J V 0] 26));have hrd:=T (Cn (size:=2) (n:=1) (AH w10 26 #[J Z 0,J V 0]) rfl);have F10:=T (hF.out.tr f10);clear f10;go_wp2_with
    (at_builtin
     refine Ce _ rfl (.tmp 32) (.tmp 34) _ rfl w.heap.size 26 i0 _ 2 16 Tryz.underlying30 hi0 hz0 hz1 hz2 rfl O (U (I ⟨gA,0,G⟩) (7+j) c) (7+j) _ rfl HR1.out (w10.heap.size+1) (I ⟨w10.heap.size,0,G⟩) 1 1 (rowI [⟨0,0⟩]) rfl hrd.out (T0 _) Bu O A8 ?_
     intro v1 w11 hown1 hg1 hat1
     have HY:=T (A9 hown1 hg1)
     obtain⟨A3,c3,rfl⟩:=Ca.slice_form hown1
     clear hown1 hg1 hat1)
   obtain⟨hown1,hg1⟩:=HY.out;obtain⟨g3,cap3,cur3,hv3,hb3,_⟩:=own_blk hown1 O;injection hv3 with hv3 _ _;subst hv3;go_roundw;case rel=>
    refine⟨j+1,g3,c3,O,rfl,AX,T ?_,T ((F10.out.alloc _).grown hg1 (λq hq=> Ah (own_ge_ HR1.out O hq)))⟩;rw[List.replicate_succ',←BM,rowI_app];exact hown1
   case measure=>simp[AJ];omega
  ·obtain rfl:j=N:=O;have h0:decide (((j -j:Nat):Int)>0)=Aa:=AB;have hsw:=hF.out.size;go_wp2_with fail;refine(with_any wr 32 254).mono ?_;rintro e w10 ⟨rfl,f10⟩;have hs10:=f10.size;have HR1:=T ((own_fr hR.out f10 (λ_ _ e=>e)).alloc (.cells #[J Z 32,J V 254] 26));have hrd:=T (Cn (size:=2) (n:=1) (AH w10 26 #[J Z 32,J V 254]) rfl);have F10:=T (hF.out.tr f10);have hmk: ∀W,(Dj 31 (J .i64 192) (J .i64 192)).run Tryz.prog W=.ok (U (I ⟨↑W,0,G⟩) 192 192) (W.alloc (.cells (zU 192) 5)):=λW=>Jg Z 192 O W;have HMK:=T hmk;clear f10 h0 hmk;go_upto_region 8 with
    (at_builtin
     refine Ce _ rfl (.tmp 36) (.tmp 38) _ rfl w.heap.size 26 i0 _ 2 16 Tryz.underlying30 hi0 hz0 hz1 hz2 rfl O (U (I ⟨gA,0,G⟩) (7+j) c) (7+j) _ rfl HR1.out (w10.heap.size+1) (I ⟨w10.heap.size,0,G⟩) 1 1 (rowI [⟨32,254⟩]) rfl hrd.out (T0 _) Bu O A8 ?_
     intro v1 w11 hown1 hg1 hat1
     have HY:=T (A9 hown1 hg1)
     obtain⟨A3,c3,rfl⟩:=Ca.slice_form hown1
     clear hown1 hg1 hat1)
   obtain⟨hown1,hg1⟩:=HY.out;obtain⟨g3,cap3,cur3,hv3,hb3,hbk,hnc,hcm,hcs,htk⟩:=own_blk hown1 O;injection hv3 with hv3 _ _;subst hv3;have F11:=T ((F10.out.alloc (.cells #[J Z 32,J V 254] 26)).grown hg1 (λq hq=> Ah (own_ge_ HR1.out O hq)));have HBK:=T (A9 hbk htk);clear hown1 hg1 hbk hnc hcm hcs htk HY HR1 hrd hR hF HR F10 F8;have hmk:=HMK.out;go_upto_region 9 with(fail);clear hmk;have hcl:=cellsU w11 192 rfl;have fz:Fr Aj w11 (w11.alloc (.cells (zU 192) 5)):=(Ao _ _).alloc _;have HB2:=T (HBK.out.1.fr fz id);have F12:=T (F11.out.tr fz);have HCL:=T hcl;obtain⟨gm,hgm⟩:=Az w11.heap.size;have HGM:Hid (↑w≤gm):=T (by rw[←hgm];exact F11.out.size);rw[hgm] at HCL⊢;generalize w11.alloc (.cells (zU 192) 5)=w12 at*;clear hcl fz hgm;have hL:(headI++BK j ⟨0,0⟩++[⟨32,254⟩]:List Ins).length=7+j+1:=by simp[headI];omega
   have hok: ∀i∈(headI++BK j ⟨0,0⟩++[⟨32,254⟩]:List Ins),InsOk i:=irq_ok j;have Hco:=T (λc0=>code_any w12 g3 cur3 c0 (7+j+1) (headI++BK j ⟨0,0⟩++[⟨32,254⟩]) hL hok HB2.out (λi x hx=>by
    have hi:i<7+j+1:=by rw[←hL];exact(List.getElem?_eq_some_iff.1 hx).1
    have:=rowI_at _ i x hx;rw[rowI_app,←HBK.out.2] at this;rw[Cw O,Cw O] at this;simpa using this) O)
   have HL:=T hL;have HOK:=T hok;clear hL hok HBK HB2 F11;go_wp2_with fail;refine(Hco.out _).mono ?_;rintro e w13 ⟨A4,c4,rfl,ho4,f13⟩;have HI4:=T (KV HOK.out ho4);have HC13:=T (HCL.out.fr f13 id);have F13:=T (F12.out.tr f13);obtain⟨M,hM⟩:=Az ((codeL (headI++BK j ⟨0,0⟩++[⟨32,254⟩])).length);have hM40:M≤40:=by rw[←hM,T1];simp;omega
   rw[hM] at HI4⊢;have HM:=T hM;have hsz:=Dr.szU;clear ho4 f13 hM Hco HCL F12;go_upto_region 10 with
    (refine GL rfl (.tmp 41) (.tmp 43) 31 31 rfl 5 CF hsz gm 0 192 192 A4 M c4 rfl rfl 5 192 _ HC13.out AC w13.heap.size M _ O HI4.out O ?_
     intro w14 hc14 f14
     have HC14:=T hc14
     have HF14:=T f14
     clear hc14 f14)
   have F14:Hid (Fr Aj w w14):=T (F13.out.trans HF14.out (λk hk e=>KN));have HL4:=T HI4.out.1;clear HC13 HI4 F13 HF14 hsz;go_frame;go_cut [51] (λv wx=>Hid (Cells wx gm 5 192 (putR (putR (λ_=>J AC 0) 0 ((codeL (headI++BK j ⟨0,0⟩++[⟨32,254⟩])).map (J AC))) 128 ([66,5,69].map (J AC))))∧Hid (Fr Aj w wx));case first=>
    refine BY (S:=λ_=>True) AI (True.intro) (λhH=>?_);have HFd:=T ((Ao Aj w14).drew);generalize w14.drew=wv at hH HFd⊢;refine Av 0 rfl hH T2 ?_;refine Av 1 rfl hH T2 ?_
    try simp only[AF]
    refine AQ [2] ?_;refine AO (λK hK=>?_) ?_
    ·go_simp;go_wp2_with ((with_reducible refine(with_any _ 66 5).mono ?_);rintro e wa ⟨rfl,fa⟩;have FA:=T (HFd.out.tr fa);clear fa);refine hK.out _ _ ?_ (λhH=>?_);·trivial
     clear hK K;refine AQ [3] ?_;refine AO (λK hK=>?_) ?_
     ·go_simp;go_wp2_with ((with_reducible refine(in_any _ 69).mono ?_);rintro e wb ⟨rfl,fb⟩;have FB:=T (FA.out.tr fb);clear fb);refine hK.out _ _ ?_ (λhH=>?_);·trivial
      clear hK K;refine AQ [4] ?_;refine AO (λK hK=>?_) ?_
      ·go_simp;refine hK.out _ _ ?_ (λhH=>?_);·trivial
       clear hK K;have BN:=AH wb 26 #[J Z 66,J V 5,J Z 69,J V 0];have FN:=T (FB.out.alloc (.cells #[J Z 66,J V 5,J Z 69,J V 0] 26));generalize wb.alloc (.cells #[J Z 66,J V 5,J Z 69,J V 0] 26)=wn at*;have HBN:=T BN;clear BN;refine AQ [5] ?_;refine AO (λK hK=>?_) ?_
       ·go_simp;go_wp2_with ((refine(code_any wn ↑wb _ _ 2 [⟨66,5⟩,⟨69,0⟩] rfl hand_ok HBN.out hand_at Ak).mono ?_);rintro e wk ⟨A5,c5,rfl,ho5,f5⟩;have HI5:=T (KV hand_ok ho5);have FK:=T (FN.out.tr f5);have HC5:=T (HC14.out.fr (FN.out.tr f5) id);clear ho5 f5);refine hK.out _ _ ?_ (λhH=>?_);·trivial
        clear hK K;refine AQ [6] ?_;refine AO (λK hK=>?_) ?_
        ·have hz5:IntsAt AC wk ↑wk A5 3 [66,5,69]:=HI5.out;refine Nm rfl (.tmp 46) (.tmp 50) 31 31 rfl 5 CF Dr.szU gm 128 64 64 A5 3 c5 Bh (by simp[Act.eval,Act.put];rfl) 5 192 _ HC5.out AC ↑wk 3 [66,5,69] O hz5 O ?_;intro wz hcz fz;refine hK.out _ _ ?_ (λhH=>?_);·trivial
         clear hK K;refine Cg ?_
         go_wp2
         go_meet;exact⟨T hcz,T ((F14.out.tr FK.out).trans fz (λk hk e=>KN))⟩
        exact AR
       exact AR
      exact AR
     exact AR
    exact AR
   case rest=>
    obtain⟨HC,F15⟩:=hcut;obtain⟨w15,rfl⟩: ∃y,y=wc:=⟨_,rfl⟩;have hI:IntsAt AC w15 ↑w15 (I ⟨gm,0,G⟩) 192 ((Bm 192).map (irqF 255 0 0 0 j)):=cells_ints HC.out (λi hi=>by
     rw[T1];have e:(λ_:Nat=>J AC 0)=λi=>J AC ((λ_=>(0:Int)) i):=rfl;rw[e,show Go.Proofs.YtpmlgdopfafcgaaGreatDoor.putR (λi=>J AC ((λ_=>(0:Int)) i)) 0 (([2,128,0,0,0,67,3,2,255,0,0,0,2,4,128,0,0,49,1,1,67,0]++(BK j 0++[32,254]):List Int).map (J AC))=(λi=>J AC (lay (λ_=>0) 0 (irqH 255 0 0 0++(BK j 0++[32,254])) i)) from funext (λi=>putR_lay AC _ 0 _ i)];exact putR_lay AC _ 128 [66,5,69] i) (λi hi=>irqF_bd ⟨Ak,Ak⟩ ⟨Ak,Ak⟩ ⟨Ak,Ak⟩ ⟨Ak,Ak⟩ j i)
    have hIm:Im (mc0 3 ((Bm 192).map (irqF 255 0 0 0 j)) []).b.ms 255 j:=irq_im O [];have hId:Idle (mc0 3 ((Bm 192).map (irqF 255 0 0 0 j)) []) 0 0:=⟨rfl,rfl,rfl⟩;obtain⟨BS,hBS⟩:=Az ((Bm 192).map (irqF 255 0 0 0 j));rw[hBS] at hI hIm hId;have Hf:=T (S8 w15 (tab_fr HT.out F15.out id) 3 O O (I ⟨gm,0,G⟩) 192 192 BS hI O G 0 0 [] (Gy _ _ _ _) O);have HIM:=T hIm;have HID:=T hId;clear hI hIm hId hBS HC;go_wp2_with fail;refine Ay Hf ?_;rintro e w16 ⟨gg,a,A',ge,eo,rfl,hG,hfl,f16⟩;have HG:=T hG;have HFL:=T hfl;have F16:=T (F15.out.tr f16);have Hr:=T (grun_any w16 _ gg a A' ge eo St.new (mc0 3 BS []) hG 40 O O Ak (AU _) (by rw[hfl];decide) (Wl HIM.out HID.out Ak Ak Ak));clear hG hfl f16 Hf;go_wp2_with fail;refine Ay Hr ?_;rintro e w17 ⟨e2,jr,rfl,hG2,hr,hfl2,f17⟩;obtain⟨Bv,hq,hIm,hId,hcm,houts⟩:=Wj HIM.out HID.out Ak Ak Ak hr;have hjr:=(blkN_ct hr.go hr.rk Ak Ak jr (AE _)).1;rw[hq] at hG2 hjr⊢;have e4:(atS (22+j) 40).ct -St.new.ct=40:=rfl;dsimp only at hG2 hjr⊢;rw[e4] at hjr⊢;have HG2:=T hG2;have hfl0:=HFL.out;have HF2:Hid (e2.s.fl≤40):=T O;have F17:=T (F16.out.trans f17 (λk hk e=>e (AW hk F15.out.size)));have HX:=T (A9 hIm (A9 hId (A9 hcm houts)));clear hr hfl2 f17 hq hIm hId hcm houts hjr hG2 hfl0 Hr e4;go_upto_block 2 with(fail);go_cut [12] (λiv wx=> ∃(ct:Int) (e':Eo),Hid (40≤ct∧ct≤220)∧Hid (e'.s.fl≤300)∧Hid (Gt wx (λk=>k<w15.heap.size) gg a A' ge e' (atS (22+j) ct) Bv)∧Hid (Fr Aj w wx));case first=>
     go_wp2_with fail;go_loopw [12] (λiv wr=> ∃(i:Nat) (ct:Int) (e':Eo),i≤6∧iv=J Z i∧Hid (40≤ct∧ct≤40+30*i)∧Hid (e'.s.fl≤40+31*i)∧Hid (Gt wr (λk=>k<w15.heap.size) gg a A' ge e' (atS (22+j) ct) Bv)∧Hid (Fr Aj w wr)) (λiv _=>6 -(AJ iv).toNat)
     case atStart=>exact⟨0,40,e2,O,rfl,T O,T (by have:=HF2.out;omega),HG2,F17⟩
     case round=>
      obtain⟨i,ct,e',h6,rfl,hct,hfl,hG,hF⟩:=hrel;by_cases hlt:i<len∧i<6
      ·obtain⟨h1,h2⟩:=hlt;obtain⟨b,off,rfl,hb,hc'⟩:=(HZ.out.fr hF.out (AE _) (λ_ _ e=>e)).at_ h1;obtain⟨hz0',hz1'⟩:=wf_i64 (HZ.out.2.1 i h1);obtain⟨z,hzz⟩:=Az (zs.getD i 0);rw[hzz] at hc' hz0' hz1';have hsw:=hF.out.size;clear hzz;go_wp2_with fail;refine(Bk.within_any wr z 0 30 hz0' hz1' O O O).mono ?_;rintro e wx ⟨rfl,rfl⟩;obtain⟨n,hn⟩:=Az (0+z%(30 -0+1));have hn0:0≤n∧n≤30:=O;rw[hn];have hct':=hct.out;have hfl':=hfl.out;have Hr:=T (grun_any wr _ gg a A' ge e' (atS (22+j) ct) Bv hG.out n O O KW T3 O (wait_ok (ct:=ct) HX.out.1 HX.out.2.1 Ak HX.out.2.2.1 O O O));clear hn hc' hb;go_wp2_with fail;refine Ay Hr ?_;rintro e wy ⟨e4,jr,rfl,hG4,hr,hfl4,f4⟩;have hw:=wait_to HX.out.1 HX.out.2.1 Ak HX.out.2.2.1 O O hn0.1 O hr;have hjr:=(blkN_ct hr.go hr.rk KW O jr (AE _)).1;rw[hw] at hG4 hjr;have hjr':(jr:Int)≤n:=by
        have:(jr:Int)≤ct+n -ct:=hjr;omega
       have HG4:=T hG4;have HFL4:Hid (e4.s.fl≤40+31*((i+1:Nat):Int)):=T (by push_cast;omega);have HF4:Hid (Fr Aj w wy):=T (hF.out.trans f4 (λk hk e=>e (AW hk F15.out.size)));clear hG4 hr hfl4 f4 hw hjr Hr
       go_wp2
       go_roundw
       case rel=>exact⟨i+1,ct+n,e4,O,AX,T (by push_cast;omega),HFL4,HG4,HF4⟩
       case measure=>simp[AJ];omega
      ·have hct':=hct.out;have hfl':=hfl.out;by_cases h1:i<len;·have d1:decide ((i:Int)<(len:Int))=Af:=Cp;have d2:decide ((i:Int)<6)=Aa:=A8;exact T4
       ·have d1:decide ((i:Int)<(len:Int))=Aa:=A8;have d2:decide (i<len)=Aa:=A8;exact T4
    case rest=>
     obtain⟨ct,e3,hct,hfl3,hG3,hF3⟩:=hcut;obtain⟨w18,rfl⟩: ∃y,y=wc:=⟨_,rfl⟩;have hfits:=irq_line hK8;obtain⟨q1,q2,q3,q4,q5⟩:=hfits;have HQ:=T (A9 q1 (A9 q2 (A9 q3 (A9 q4 q5))));have Hs:=T (KG w18 _ gg a A' ge e3 _ Bv hG3.out);clear q1 q2 q3 q4 q5;go_wp2_with fail;refine Ay Hs ?_;rintro e w19 ⟨X,cx,Y,cy,rfl,_,_,f19⟩;have bw:=AH w19 41 z16;have ow:=one16 (atS (22+j) ct) (U X (atS (22+j) ct).d.length cx) (U Y (atS (22+j) ct).r.length cy) rfl rfl;have fw:Fr Aj w19 (w19.alloc (.cells z16 41)):=(Ao _ _).alloc _;have F19:=T (f19.tr fw);have hs19:=f19.size;clear f19 fw Hs;go_upto_region 19 with(((with_reducible refine wpL_sq (cs':=stc (atS (22+j) ct) (U X (atS (22+j) ct).d.length cx) (U Y (atS (22+j) ct).r.length cy)) bw sz16 ow ?_);intro W20 k20 f20;have HB20:=T k20;have HF20:=T f20;clear k20 f20 bw ow));have F20:Hid (Fr Aj w18 W20):=T (F19.out.trans HF20.out (λk hk e=>O));have G20:=T (hG3.out.fr0 F20.out);have k15:W20.cell? ⟨↑w19,15,G⟩=I (.bool Aa):=HB20.out.cell 15;have k6:W20.cell? ⟨↑w19,6,G⟩=I (.bool Af):=HB20.out.cell 6;have kl:=HB20.out.lt;have hzK:IntsAt Z (W20.alloc (.cells #[J Z (K:Int)] 3)) (↑W20+1) (I ⟨↑W20,0,G⟩) 1 [(K:Int)]:=IA [(K:Int)] (AH _ _ _) (λi hi=>by
      have:i=0:=Ez;subst this;exact EQ (n:=(K:Int)) O O)
     have fK:Fr Aj W20 (W20.alloc (.cells #[J Z (K:Int)] 3)):=(Ao _ _).alloc _;have hGp:Bv.b.p=0:=HX.out.2.1.p;obtain⟨x0,x1,x2,x3,hra⟩:=Wm (W20.alloc (.cells #[J Z (K:Int)] 3)) _ gg a A' ge e3 _ Bv (G20.out.fr0 fK) _ 1 1 _ [(K:Int)] hzK DT (by rw[hGp,HQ.out.2.1];exact HQ.out.2.2.1);obtain⟨y0,y1,y2,y3,_⟩:=Tv W20 _ gg a A' ge e3 _ Bv G20.out T3;have y4:=gbus_0 G20.out;rw[HQ.out.1] at hra;have Hra:=T hra;have FK:=T (F20.out.tr fK);clear x0 x1 x2 x3 hra hzK fK hGp y2;go_wp2_with fail;refine Ay Hra ?_;rintro e w21 ⟨rfl,hG5,f21⟩;have HG5:=T hG5;have F21:Hid (Fr Aj w w21):=T ((hF3.out.tr FK.out).trans f21 (λk hk e=>e (AW hk F15.out.size)));have hId5:Idle ⟨{Bv.b with p:=Iq.raised [(K:Int)] Bv.b.p},Bv.l⟩ (2^K) 255:=⟨HX.out.2.1.tm,by show Iq.raised [(K:Int)] Bv.b.p=_;rw[show Bv.b.p=0 from HX.out.2.1.p];exact HQ.out.2.1,HX.out.2.1.m⟩;have hIm5:Im (⟨{Bv.b with p:=Iq.raised [(K:Int)] Bv.b.p},Bv.l⟩:Mc).b.ms 255 j:=HX.out.1;have hou5:(⟨{Bv.b with p:=Iq.raised [(K:Int)] Bv.b.p},Bv.l⟩:Mc).b.outs=[]:=HX.out.2.2.2;obtain⟨G5,hG5e⟩:=Az (⟨{Bv.b with p:=Iq.raised [(K:Int)] Bv.b.p},Bv.l⟩:Mc);rw[hG5e] at HG5 hId5 hIm5 hou5;have hct':=hct.out;have Hr5:=T (grun_any w21 _ gg a A' ge e3 (atS (22+j) ct) G5 HG5.out 2 O O KW (by rw[hou5];exact AU _) (by have:=hfl3.out;omega) (told_ok (ct:=ct) hIm5 hId5 HQ.out.2.2.2.1 O O _));have HT5:=T (λjr (hr:RunTo 2 (atS (22+j) ct) G5 jr)=>irq_two hIm5 hId5 HQ.out.2.2.2.1 O O hr);rw[HQ.out.2.2.2.2] at HT5;clear hG5 f21 hId5 hIm5 hou5 hG5e Hra y0 y1 y3 y4 k15 k6 kl;go_wp2_with fail;refine Ay Hr5 ?_;rintro e w22 ⟨e5,jr,rfl,hG6,hr6,hfl6,f22⟩;obtain⟨s6,g6,hq6,h1,h2,h3,h4,h5⟩:=HT5.out jr hr6;rw[hq6] at hG6⊢;dsimp only at hG6⊢;have e2':s6.ct -(atS (22+j) ct).ct=2:=by rw[h2];show ct+2 -ct=2;omega
     rw[e2'];have HG6:=T hG6;have F22:Hid (Fr Aj w w22):=T (F21.out.trans f22 (λk hk e=>e (AW hk F15.out.size)));have H6:=T (A9 h1 (A9 h3 (A9 h4 h5)));have Hs6:=T (KG w22 _ gg a A' ge e5 s6 g6 HG6.out);clear hG6 hr6 hfl6 f22 hq6 h1 h2 h3 h4 h5 e2' Hr5 HT5;go_wp2_with fail;refine Ay Hs6 ?_;rintro e w23 ⟨X6,cx6,Y6,cy6,rfl,hst6,_,f23⟩;have bw:=AH w23 41 z16;have ow:=one16 s6 (U X6 s6.d.length cx6) (U Y6 s6.r.length cy6) rfl rfl;have fw:Fr Aj w23 (w23.alloc (.cells z16 41)):=(Ao _ _).alloc _;have F23:=T (f23.tr fw);have hs23:=f23.size;have HST:=T (hst6.fr0 fw);have HBW:=T bw;clear f23 fw Hs6 hst6;go_upto_region 23 with(((with_reducible refine wpL_sq (cs':=stc s6 (U X6 s6.d.length cx6) (U Y6 s6.r.length cy6)) bw sz16 ow ?_);intro W24 k24 f24;have HB24:=T k24;have HF24:=T f24;clear k24 f24 bw ow));have F24:Hid (Fr Aj w W24):=T (F22.out.tr (F23.out.trans HF24.out (λk hk e=>O)));have hD: ∃gd,X6=I ⟨gd,0,G⟩∧W24.cell? ⟨gd,0,G⟩=I (J V (16+(K:Int)))∧gd<W24.heap.size:=Wn HST.out HBW.out HF24.out H6.out.2.1;obtain⟨gd,rfl,d0,d1⟩:=hD;have k15:W24.cell? ⟨↑w23,15,G⟩=I (.bool Af):=(HB24.out.cell 15).trans (by show I (Value.bool s6.ha)=_;rw[H6.out.1]);have k1:W24.cell? ⟨↑w23,1,G⟩=I (U (I ⟨gd,0,G⟩) 1 cx6):=(HB24.out.cell 1).trans (by show I (U _ s6.d.length _)=_;rw[H6.out.2.1];rfl);have k9:W24.cell? ⟨↑w23,9,G⟩=I (J V (22+(j:Int))):=(HB24.out.cell 9).trans (by show I (J V s6.ep)=_;rw[H6.out.2.2.1]);have kl:=HB24.out.lt;have Haw:=T (Wi W24 (tab_fr HT.out F24.out id));go_wp2_with fail;refine Ay Haw ?_;rintro e w25 ⟨rfl,f25⟩;have F25:=T (F24.out.tr f25);clear f25 Haw
     go_wp2
     go_ret;exact⟨rfl,F25.out⟩
end topIrqs
end Go.Proofs.YtpmlgdopfafcgaaGreatDoor
