import Derived.Test.YtpmlgdopfafcgaaGreatDoorY11
open Go.Value renaming int→J,slice→U,bool→Ap,tuple→AD,ownBlock→Bp,agg→AA,pointer→Bi
open Option renaming some→I,none→G
open Go.IntKind renaming i64→Z,u32→V,u64→AM,u8→AC,wrap_u64→Dk,wrap_u32→DH
open Bool renaming false→Aa,true→Af,false_ne_true→Da,false_and→D7
open Go renaming World→Ac,Value→As,Calls→At,bodyPost_ret→Bf,TypeId→AK,wp_region_held_drew→BY,info_parts→BH,Ending→AT,madeCells→Cb,maxLen→Br,Program→BW,undef→Bt,wpList→BL,bits→Bb,run_underlying→CX
open List renaming getD_eq_getElem?_getD→AN,getElem?_eq_getElem→Bj,length_append→BJ,append_assoc→BM,mem_map→Bo,getElem?_take_of_lt→Cw,replicate→BK,range→Bm,getElem?_append_right→CB,getElem_mem→BU,mem_append→BZ,getElem?_append_left→CO,getElem?_map→C7,cons_append→CC,mem_filter→C8,length_pos_iff→CP,length_cons→CK,mem_cons→Cy,getLastD_eq_getLast?→Dg,nil_append→CI,getElem?_eq_none→De,dropLast_concat→Do,mem_singleton→Dv,map_append→Df,length_map→Di,getElem_of_mem→DD,length_nil→Dp,concat_eq_append→DI,getElem?_range→DL,range_succ→DB,getElem?_replicate→DW,singleton_append→DV,map_cons→D6,map_map→D8,setIfInBounds_toArray→Eb
open Go.Ending renaming returned→Ax
open And renaming intro→A9
open Nat renaming le_refl→AE,lt_of_lt_of_le→AW,le_trans→AS,zero_le→AU,zero_add→Bn,eq_zero_or_pos→Dm,reduceEqDiff→Dq
open Or renaming inl→Ag,inr→Ah
open Go.Proofs.Tryz renaming underlying41→AP,underlying31→CF,underlying22→CV,underlying215→Dl,underlying26→DN
open Go.RowKit renaming intOf→AJ
open Int renaming eq_ofNat_of_zero_le→CM,toNat_natCast→C4,emod_eq_of_lt→CZ
open Go.Builtin renaming zeroCells→CG,delete_→Eh
open Array renaming getElem?_toList→CN,getElem?_eq_some_iff→DX
open Go.Region renaming wanted→CA
open Go.Result renaming andThen→CT
open Option.some renaming inj→Ds
open Go.MapKept renaming run_getObj_map→DJ,run_setObj_map→Ef
open Go.Instr renaming makeSlice→Dj,mapUpdate→DK
open Go.IntWalk renaming i64_in→Du
open Go.Lit renaming int→C9
open Go.Sem renaming run_bind→D5
set_option linter.all false
set_option maxHeartbeats 40000000
set_option maxRecDepth 1000000
open Go Go.RowKit
namespace Go.Proofs.YtpmlgdopfafcgaaGreatDoor
namespace Ip
open Gs Tr Em
structure Pv where
 C:Aw
 cc:Nat
 D:Aw
 cd:Nat
 R:Aw
 cr:Nat
abbrev pgA(p:Pg)(v:Pv):AL:=#[U v.C p.code.length v.cc,J Z p.nd,J Z p.nr,J Z p.hd,J Z p.hr,U v.D p.od.length v.cd,U v.R p.or.length v.cr,J Z p.fl,J V p.nx,J Z p.tg,J Z p.br,J V p.tk,J Z p.ct,J Z p.code.length]
def AtI(w:Ac)(B:Nat)(A:Aw)(l:List IIn):Prop:= ∀k,k<l.length→ ∃b off,A=I ⟨b,off,G⟩∧b<B∧w.cell? ⟨b,off+k*5,G⟩=I (J Z (Tr.at_ l k).op)∧w.cell? ⟨b,off+k*5+1,G⟩=I (J Z (Tr.at_ l k).dst)∧w.cell? ⟨b,off+k*5+2,G⟩=I (J Z (Tr.at_ l k).a)∧w.cell? ⟨b,off+k*5+3,G⟩=I (J Z (Tr.at_ l k).b)∧w.cell? ⟨b,off+k*5+4,G⟩=I (J V (Tr.at_ l k).imm)
variable{w w':Ac}{B:Nat}
theorem AtI.fr{A:Aw}{l:List IIn}{S:AG}(h:AtI w B A l)(f:Fr S w w')(hB:B≤↑w)(hs: ∀k,k<B→ ¬S k):AtI w' B A l:=λk hk=>Pd
structure PgR(w:Ac)(B:Nat)(p:Pg)(v:Pv):Prop where
 code:AtI w B v.C p.code
 od:At64 w B (U v.D p.od.length v.cd) p.od.length (λi=>(p.od.getD i 0:Nat))
 or:At64 w B (U v.R p.or.length v.cr) p.or.length (λi=>(p.or.getD i 0:Nat))
 cc:p.code.length≤v.cc
 hB:B≤↑w
theorem PgR.fr{p:Pg}{v:Pv}{S:AG}(h:PgR w B p v)(f:Fr S w w')(hs: ∀k,k<B→ ¬S k):PgR w' B p v:=
 ⟨h.code.fr f h.hB hs,h.od.fr f h.hB hs,h.or.fr f h.hB hs,h.cc,AS h.hB f.size⟩
theorem PgR.fr0{p:Pg}{v:Pv}(h:PgR w B p v)(f:Fr Aj w w'):PgR w' B p v:=h.fr f (λ_ _ e=>e)
def vB(n at_:Int):Bool:=decide (0≤n)&&decide (n<at_)
theorem vB_yes{n at_:Int}(h0:0≤n)(h1:n<at_):vB n at_=Af:=by simp[vB,h0,h1]
theorem DF(w:Ac)(n at_:Int):At Tryz.prog 221 #[J Z n,J Z at_] w λe w'=>e=Ax (Ap (vB n at_))∧w=w':=by
 by_cases h0:0≤n
 ·by_cases h1:n<at_;·rw[vB_yes h0 h1];have g0:=JJ;have g1:decide (n<at_)=Af:=Cp;clear h0 h1;exact Cr
  ·have e:vB n at_=Aa:=by simp[vB,h1]
   rw[e];have g0:=JJ;have g1:decide (n<at_)=Aa:=Cp;clear h0 h1 e;exact Cr
 ·have e:vB n at_=Aa:=by simp[vB,h0]
  rw[e];have g0:decide (n≥0)=Aa:=Ev;clear h0 e;exact Cr
theorem made_yes(w:Ac)(B:Nat)(p:Pg)(v:Pv)(h:PgR w B p v)(hnd:p.nd≤16)(hnr:p.nr≤16)(i:Nat)(hi:i<p.code.length)(h64:p.code.length≤64)(hm:MadeOk p.nd p.nr (Tr.at_ p.code i) i):At Tryz.prog 220 #[AA (pgA p v),J Z i] w λe w'=>e=Ax (Ap Af)∧Fr Aj w w':=by
 obtain⟨b,off,hC,hb,c0,c1,c2,c3,c4⟩:=h.code i hi;have hbl:b<↑w:=AW hb h.hB;obtain⟨x,hx⟩:=Az (Tr.at_ p.code i);rw[hx] at c0 c1 c2 c3 c4 hm;have hv0:=T (λW=>DF W 0 i);obtain⟨bb,hbb⟩:=Az (vB 0 (i:Int));rw[hbb] at hv0;have hdst:=hm.dst;have hop:=hm.op;have hlow:=hm.low;have harg:=hm.arg;have hret:=hm.ret;have hab:=hm.ab;have halu:=hm.alu;have hflg:=hm.flg;have m0:=hm.imm.1;have m1:=hm.imm.2;obtain⟨op,dst,xa,xb,imm⟩:=x;dsimp only at hdst hop hlow harg hret hab halu hflg m0 m1 c0 c1 c2 c3 c4;obtain rfl:=hdst;obtain⟨C,cc,D,cd,R,cr⟩:=v;dsimp only at hC;subst hC;obtain⟨n,hn⟩:=Az p.code.length;rw[hn] at hi h64;have e0:(pgA p ⟨I ⟨b,off,G⟩,cc,D,cd,R,cr⟩)=#[U (I ⟨b,off,G⟩) n cc,J Z p.nd,J Z p.nr,J Z p.hd,J Z p.hr,U D p.od.length cd,U R p.or.length cr,J Z p.fl,J V p.nx,J Z p.tg,J Z p.br,J V p.tk,J Z p.ct,J Z n]:=by rw[←hn]
 rw[e0];clear e0 h hm hx hn hbb;have hc:op=0∨op=1∨op=2∨op=3∨op=4:=O;rcases hc with rfl|rfl|rfl|rfl|rfl
 ·obtain⟨rfl,rfl⟩:=hlow O;clear hlow harg hret hab halu hflg hop
  cases bb
  ·exact Ij
  ·exact Ij
 ·obtain⟨rfl,rfl⟩:=hlow O;have hlt:=(harg rfl).2;have W1:=PZ;have W2:IntKind.u64.wrap (p.nd:Int)=p.nd:=FY;have g0:decide (imm<(p.nd:Int))=Af:=by simpa using hlt
  exact Qa
 ·obtain⟨rfl,rfl⟩:=hlow O;have hlt:=(hret rfl).2;have W1:=PZ;have W2:IntKind.u64.wrap (p.nr:Int)=p.nr:=FY;have g0:decide (imm<(p.nr:Int))=Af:=by simpa using hlt
  exact Qa
 ·obtain⟨ha,hb2⟩:=hab O;have hva:=T (λW=>DF W (xa:Int) (dst:Int));have hvb:=T (λW=>DF W (xb:Int) (dst:Int));rw[vB_yes O O] at hva hvb;obtain⟨q0,q1⟩:=halu rfl;exact Qb
 ·rcases hflg rfl with⟨q0,q1⟩|rfl;·obtain⟨ha,hb2⟩:=hab O;have hva:=T (λW=>DF W (xa:Int) (dst:Int));have hvb:=T (λW=>DF W (xb:Int) (dst:Int));rw[vB_yes O O] at hva hvb;exact Qb
  ·obtain⟨ha,hb2⟩:=hab O;have hva:=T (λW=>DF W (xa:Int) (dst:Int));have hvb:=T (λW=>DF W (xb:Int) (dst:Int));rw[vB_yes O O] at hva hvb;clear hlow harg hret hab halu hflg hop hv0 ha hb2;go_in;go_wp2_with (first
    |((with_reducible refine(hva.out _).mono ?_);rintro e w' ⟨rfl,rfl⟩)
    |((with_reducible refine(hvb.out _).mono ?_);rintro e w' ⟨rfl,rfl⟩))
   all_goals
    go_ret;exact⟨rfl,((Ao _ w).alloc _).alloc _⟩
theorem Vo(w:Ac)(A:Aw)(n c:Nat)(zs:List Int)(hr:IntsAt Z w ↑w A n zs)(hb: ∀z∈zs,0≤z∧z≤16)(hn:n≤1000):At Tryz.prog 219 #[U A n c] w λe w'=>e=Ax (.bool Af)∧w=w':=by
 have H:=T hr;have HB:=T hb;clear hr hb;go_in;go_wp2_with fail
 go_loop [7] (λi=> ∃k:Nat,k≤n∧i=J Z k) (λi=>n -(AJ i).toNat)
 case atStart=>exact⟨0,O,rfl⟩
 case round=>
  obtain⟨k,hk,rfl⟩:=hrel;by_cases hlt:k<n
  ·obtain⟨b,off,rfl,hbl,hc⟩:=H.out.at_ hlt;have hz:=HB.out (zs.getD k 0) (by rw[AN,Bj (by rw[H.out.1];exact hlt)];exact BU _);obtain⟨z,hzv⟩:=Az (zs.getD k 0);rw[hzv] at hc hz;have g0:decide (z<0)=Aa:=A8;have g1:decide (z>16)=Aa:=A8;clear hzv hz;go_wp2_with fail
   go_round
   case rel=>exact⟨k+1,O,AX⟩
   case measure=>simp[AJ];omega
  ·obtain rfl:k=n:=O;clear hlt
   go_wp2
   go_ret;exact⟨rfl,rfl⟩
end Ip
namespace Ip
open Gs Sv Tr Em
theorem sz14:(Tryz.prog.info? 215).map (·.size)=I 14:=AI
theorem right_yes(w:Ac)(B:Nat)(p:Pg)(v:Pv)(h:PgR w B p v)(hw:WF p):At Tryz.prog 183 #[AA (pgA p v)] w λe w'=>e=Ax (Ap Af)∧Fr Aj w w':=by
 obtain⟨C,cc,D,cd,R,cr⟩:=v;have H:=T h;have HW:=T hw;have n64:=hw.len;have q1:=hw.nd;have q2:=hw.nr;have q3:=hw.hd;have q4:=hw.hr;have q5:=hw.ct;have q6:=hw.odl;have q7:=hw.orl;have b0:=AH w 215 (pgA p ⟨C,cc,D,cd,R,cr⟩);have f0:=Qc;have g1:decide ((p.code.length:Int)>64)=Aa:=A8;have g2:decide ((p.ct:Int)<1)=Aa:=A8;have g3:decide ((p.ct:Int)>8)=Aa:=A8;have hd4:Hid (At Tryz.prog 219 #[U (I ⟨↑w+1,0,G⟩) 4 4] ((w.alloc (.cells (pgA p ⟨C,cc,D,cd,R,cr⟩) 215)).alloc (.cells #[J Z p.nd,J Z p.nr,J Z p.hd,J Z p.hr] 3)) λe w'=>e=Ax (.bool Af)∧((w.alloc (.cells (pgA p ⟨C,cc,D,cd,R,cr⟩) 215)).alloc (.cells #[J Z p.nd,J Z p.nr,J Z p.hd,J Z p.hr] 3))=w'):=T (by
  have bk:Blk ((w.alloc (.cells (pgA p ⟨C,cc,D,cd,R,cr⟩) 215)).alloc (.cells #[J Z p.nd,J Z p.nr,J Z p.hd,J Z p.hr] 3)) (↑w+1) 3 ([(p.nd:Int),p.nr,p.hd,p.hr].map (J Z)).toArray:=Cc _ _ _ AB;have hi:=IA (k:=Z) [(p.nd:Int),p.nr,p.hd,p.hr] bk (wf_list (λz hz=>by
   simp at hz;rcases hz with rfl|rfl|rfl|rfl<;>exact EQ O O))
  refine Vo _ _ 4 4 _ (hi.more AB) (λz hz=>?_) O;simp at hz;rcases hz with rfl|rfl|rfl|rfl<;>omega)
 have B0:=T b0;have F0:=T f0;clear h hw f0 b0;go_in;go_wp2_with fail;refine Ay hd4 ?_;rintro e w1 ⟨rfl,rfl⟩;go_wp2_with fail;go_loopw [45] (λi wr=> ∃k:Nat,k≤p.code.length∧i=J Z k∧Hid (Fr Aj w wr)∧Hid (Blk wr ↑w 215 (pgA p ⟨C,cc,D,cd,R,cr⟩))) (λi _=>p.code.length -(AJ i).toNat)
 case atStart=>exact⟨0,O,rfl,T (F0.out.alloc _),T (B0.out.alloc _)⟩
 case round=>
  obtain⟨k,hk,rfl,hF,hB⟩:=hrel;by_cases hlt:k<p.code.length
  ·have Hm:=T (made_yes wr B p _ (H.out.fr0 hF.out) q1 q2 k hlt n64 (HW.out.code k hlt));have bb:=hB.out;go_wp2_with ((with_reducible refine wpL_lq bb Dl sz14 ?_));refine Ay Hm ?_;rintro e w1 ⟨rfl,f1⟩;have HX:=T (A9 (hF.out.tr f1) (hB.out.fr f1 id));clear f1 bb
   go_wp2
   go_roundw
   case rel=>exact⟨k+1,O,AX,T HX.out.1,T HX.out.2⟩
   case measure=>simp[AJ];omega
  ·obtain rfl:k=p.code.length:=O;have bb:=hB.out;have x5:=bb.cell 5;have x6:=bb.cell 6;have x7:=bb.cell 7;have x9:=bb.cell 9;have x10:=bb.cell 10;have x13:=bb.cell 13;have hlx:=bb.lt;clear hlt bb;go_wp2_with fail;have F2:Hid (Fr Aj w (wr.alloc (.cells #[U D p.od.length cd,U R p.or.length cr] 22))):=T (hF.out.alloc _);have r0:(wr.alloc (.cells #[U D p.od.length cd,U R p.or.length cr] 22)).cell? ⟨↑wr,0,G⟩=I (U D p.od.length cd):=(AH wr _ _).cell 0;have r1:(wr.alloc (.cells #[U D p.od.length cd,U R p.or.length cr] 22)).cell? ⟨↑wr,1,G⟩=I (U R p.or.length cr):=(AH wr _ _).cell 1;have bb:Blk (wr.alloc (.cells #[U D p.od.length cd,U R p.or.length cr] 22)) ↑w 215 (pgA p ⟨C,cc,D,cd,R,cr⟩):=hB.out.alloc _;obtain⟨gr,hgr⟩:=Az wr.heap.size;obtain⟨w2,hw2⟩:=Az (wr.alloc (.cells #[U D p.od.length cd,U R p.or.length cr] 22));rw[hw2] at F2 r0 r1 bb⊢;rw[hgr] at r0 r1⊢;have x7:=bb.cell 7;have x9:=bb.cell 9;have x10:=bb.cell 10;have x13:=bb.cell 13;have HP2:=T (H.out.fr0 F2.out);clear hw2 hgr x5 x6 hlx hB hF bb
   go_loop [59] (λi=> ∃k:Nat,k≤2∧i=J Z k) (λi=>2 -(AJ i).toNat)
   case atStart=>exact⟨0,O,rfl⟩
   case round=>
    obtain⟨k,hk,rfl⟩:=hrel;rcases(show k=0∨k=1∨k=2 by omega) with rfl|rfl|rfl
    ·skip
     go_wp2_with fail
     go_loop [65] (λi=> ∃j:Nat,j≤p.od.length∧i=J Z j) (λi=>p.od.length -(AJ i).toNat)
     case atStart=>exact⟨0,O,rfl⟩
     case round=>
      obtain⟨j,hj,rfl⟩:=hrel;by_cases hjl:j<p.od.length;·obtain⟨b,o,c',e',hc',hcell⟩:=(HP2.out.od).cell hjl;injection e' with e1 e2 e3;dsimp only at e1 e3;subst e1 e3;have hmem:p.od.getD j 0<p.code.length:=HW.out.od _ Ik;have Hv:=T (λW=>DF W (p.od.getD j 0:Nat) (p.code.length:Nat));rw[vB_yes O O] at Hv;obtain⟨x,hx⟩:=Az (p.od.getD j 0);exact Qd
      ·obtain rfl:j=p.od.length:=O;clear hjl;go_wp2_with fail
       go_round
       case rel=>exact⟨1,O,AX⟩
       case measure=>simp[AJ]
    ·skip
     go_wp2_with fail
     go_loop [65] (λi=> ∃j:Nat,j≤p.or.length∧i=J Z j) (λi=>p.or.length -(AJ i).toNat)
     case atStart=>exact⟨0,O,rfl⟩
     case round=>
      obtain⟨j,hj,rfl⟩:=hrel;by_cases hjl:j<p.or.length;·obtain⟨b,o,c',e',hc',hcell⟩:=(HP2.out.or).cell hjl;injection e' with e1 e2 e3;dsimp only at e1 e3;subst e1 e3;have hmem:p.or.getD j 0<p.code.length:=HW.out.or _ Ik;have Hv:=T (λW=>DF W (p.or.getD j 0:Nat) (p.code.length:Nat));rw[vB_yes O O] at Hv;obtain⟨x,hx⟩:=Az (p.or.getD j 0);exact Qd
      ·obtain rfl:j=p.or.length:=O;clear hjl;go_wp2_with fail
       go_round
       case rel=>exact⟨2,O,AX⟩
       case measure=>simp[AJ]
    ·have Hf:=T (λW=>DF W p.fl (p.code.length:Nat));have Ht:=T (λW=>DF W p.tg (p.code.length:Nat));have hfl:=HW.out.fl;have htg:=HW.out.tg;have hbr:=HW.out.br;obtain⟨bf,hbf⟩:=Az (p.fl != -1);obtain⟨bt,hbt⟩:=Az (p.tg != -1);have hf1:bf=Af→vB p.fl (p.code.length:Nat)=Af:=λe=>by
      rw[e] at hbf;have:p.fl≠ -1:=by simpa using hbf
      exact vB_yes O O
     have ht1:bt=Af→vB p.tg (p.code.length:Nat)=Af:=λe=>by
      rw[e] at hbt;have:p.tg≠ -1:=by simpa using hbt
      exact vB_yes O O
     have hbr2:(p.br==0)=Af∨((p.br==0)=Aa∧decide (p.br≥33)=Af∧decide (p.br≤37)=Af∧(p.tg== -1)=Af):=by
      rcases hbr with e|⟨e0,e1,e2⟩;·exact JY
      ·exact Ah ⟨A8,by simpa using e0,by simpa using e1,Il⟩
     clear hfl htg hbr
     cases bf
     ·cases bt
      ·rcases hbr2 with g1|⟨g1,g2,g3,g4⟩
       all_goals
        clear hf1 ht1
        go_wp2
        go_ret;exact⟨rfl,F2.out⟩
      ·have e2:=ht1 rfl;rw[e2] at Ht;rcases hbr2 with g1|⟨g1,g2,g3,g4⟩;rotate_left;·exact Qe
       ·clear hf1 ht1 e2;go_wp2_with ((with_reducible refine(Ht.out _).mono ?_);rintro e w' ⟨rfl,rfl⟩);exact Jz
     ·have e1:=hf1 rfl;rw[e1] at Hf
      cases bt
      ·rcases hbr2 with g1|⟨g1,g2,g3,g4⟩
       all_goals
        clear hf1 ht1 e1;go_wp2_with ((with_reducible refine(Hf.out _).mono ?_);rintro e w' ⟨rfl,rfl⟩);go_ret;exact⟨rfl,F2.out⟩
      ·have e2:=ht1 rfl;rw[e2] at Ht;rcases hbr2 with g1|⟨g1,g2,g3,g4⟩;rotate_left;·exact Qe
       ·clear hf1 ht1 e1 e2;go_wp2_with (first
         |((with_reducible refine(Hf.out _).mono ?_);rintro e w' ⟨rfl,rfl⟩)
         |((with_reducible refine(Ht.out _).mono ?_);rintro e w' ⟨rfl,rfl⟩))
        exact Jz
end Ip
end Go.Proofs.YtpmlgdopfafcgaaGreatDoor
