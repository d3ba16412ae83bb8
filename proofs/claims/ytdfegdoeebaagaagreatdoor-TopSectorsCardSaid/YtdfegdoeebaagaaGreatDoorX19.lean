import Derived.Test.YtdfegdoeebaagaaGreatDoorX14
open Go.Value renaming slice→Z,int→J,bool→Ap,agg→A9
open Option renaming some→I,none→G
open Go.IntKind renaming i64→U,u32→V,wrap_u64→Gg
open Go renaming World→Aa,Calls→At
open Bool renaming false→Ac,true→Ag
open List renaming getD_eq_getElem?_getD→AS,getElem?_eq_getElem→BK,getElem_mem→CE
open Go.Ending renaming returned→Ax
open And renaming intro→Ay
open Nat renaming lt_of_lt_of_le→Bg,le_trans→Bf
open Or renaming inl→Af,inr→Ah
open Go.Proofs.Tryz renaming underlying218→Gi
open Go.RowKit renaming intOf→AM
set_option linter.all false
set_option maxHeartbeats 40000000
set_option maxRecDepth 1000000
open Go Go.RowKit
namespace Go.Proofs.YtdfegdoeebaagaaGreatDoor
namespace Ip
open Gs Tr Em
structure Pv where
 C:Aw
 cc:Nat
 D:Aw
 cd:Nat
 R:Aw
 cr:Nat
abbrev pgA(p:Pg)(v:Pv):AO:=#[Z v.C p.code.length v.cc,J U p.nd,J U p.nr,J U p.hd,J U p.hr,Z v.D p.od.length v.cd,Z v.R p.or.length v.cr,J U p.fl,J V p.nx,J U p.tg,J U p.br,J V p.tk,J U p.ct,J U p.code.length]
def AtI(w:Aa)(B:Nat)(A:Aw)(l:List IIn):Prop:= ∀k,k<l.length→ ∃b off,A=I ⟨b,off,G⟩∧b<B∧w.cell? ⟨b,off+k*5,G⟩=I (J U (Tr.at_ l k).op)∧w.cell? ⟨b,off+k*5+1,G⟩=I (J U (Tr.at_ l k).dst)∧w.cell? ⟨b,off+k*5+2,G⟩=I (J U (Tr.at_ l k).a)∧w.cell? ⟨b,off+k*5+3,G⟩=I (J U (Tr.at_ l k).b)∧w.cell? ⟨b,off+k*5+4,G⟩=I (J V (Tr.at_ l k).imm)
variable{w w':Aa}{B:Nat}
theorem AtI.fr{A:Aw}{l:List IIn}{S:AE}(h:AtI w B A l)(f:Fr S w w')(hB:B≤↑w)(hs: ∀k,k<B→ ¬S k):AtI w' B A l:=λk hk=>XW
structure PgR(w:Aa)(B:Nat)(p:Pg)(v:Pv):Prop where
 code:AtI w B v.C p.code
 od:At64 w B (Z v.D p.od.length v.cd) p.od.length (λi=>(p.od.getD i 0:Nat))
 or:At64 w B (Z v.R p.or.length v.cr) p.or.length (λi=>(p.or.getD i 0:Nat))
 cc:p.code.length≤v.cc
 hB:B≤↑w
theorem PgR.fr{p:Pg}{v:Pv}{S:AE}(h:PgR w B p v)(f:Fr S w w')(hs: ∀k,k<B→ ¬S k):PgR w' B p v:=
 ⟨h.code.fr f h.hB hs,h.od.fr f h.hB hs,h.or.fr f h.hB hs,h.cc,Bf h.hB f.size⟩
theorem PgR.fr0{p:Pg}{v:Pv}(h:PgR w B p v)(f:Fr Aj w w'):PgR w' B p v:=h.fr f (λ_ _ e=>e)
def vB(n at_:Int):Bool:=decide (0≤n)&&decide (n<at_)
theorem Jv{n at_:Int}(h0:0≤n)(h1:n<at_):vB n at_=Ag:=by simp[vB,h0,h1]
theorem Ij(w:Aa)(n at_:Int):At Tryz.prog 227 #[J U n,J U at_] w λe w'=>e=Ax (Ap (vB n at_))∧w=w':=by
 by_cases h0:0≤n
 ·by_cases h1:n<at_;·rw[Jv h0 h1];have g0:=QS;have g1:decide (n<at_)=Ag:=Dh;clear h0 h1;exact CP
  ·have e:vB n at_=Ac:=by simp[vB,h1]
   rw[e];have g0:=QS;have g1:decide (n<at_)=Ac:=Dh;clear h0 h1 e;exact CP
 ·have e:vB n at_=Ac:=by simp[vB,h0]
  rw[e];have g0:decide (n≥0)=Ac:=JE;clear h0 e;exact CP
theorem made_yes(w:Aa)(B:Nat)(p:Pg)(v:Pv)(h:PgR w B p v)(hnd:p.nd≤16)(hnr:p.nr≤16)(i:Nat)(hi:i<p.code.length)(h64:p.code.length≤64)(hm:MadeOk p.nd p.nr (Tr.at_ p.code i) i):At Tryz.prog 226 #[A9 (pgA p v),J U i] w λe w'=>e=Ax (Ap Ag)∧Fr Aj w w':=by
 obtain⟨b,off,hC,hb,c0,c1,c2,c3,c4⟩:=h.code i hi;have hbl:b<↑w:=Bg hb h.hB;obtain⟨x,hx⟩:=A8 (Tr.at_ p.code i);rw[hx] at c0 c1 c2 c3 c4 hm;have hv0:=T (λW=>Ij W 0 i);obtain⟨bb,hbb⟩:=A8 (vB 0 (i:Int));rw[hbb] at hv0;have hdst:=hm.dst;have hop:=hm.op;have hlow:=hm.low;have harg:=hm.arg;have hret:=hm.ret;have hab:=hm.ab;have halu:=hm.alu;have hflg:=hm.flg;have m0:=hm.imm.1;have m1:=hm.imm.2;obtain⟨op,dst,xa,xb,imm⟩:=x;dsimp only at hdst hop hlow harg hret hab halu hflg m0 m1 c0 c1 c2 c3 c4;obtain rfl:=hdst;obtain⟨C,cc,D,cd,R,cr⟩:=v;dsimp only at hC;subst hC;obtain⟨n,hn⟩:=A8 p.code.length;rw[hn] at hi h64;have e0:(pgA p ⟨I ⟨b,off,G⟩,cc,D,cd,R,cr⟩)=#[Z (I ⟨b,off,G⟩) n cc,J U p.nd,J U p.nr,J U p.hd,J U p.hr,Z D p.od.length cd,Z R p.or.length cr,J U p.fl,J V p.nx,J U p.tg,J U p.br,J V p.tk,J U p.ct,J U n]:=by rw[←hn]
 rw[e0];clear e0 h hm hx hn hbb;have hc:op=0∨op=1∨op=2∨op=3∨op=4:=O;rcases hc with rfl|rfl|rfl|rfl|rfl
 ·obtain⟨rfl,rfl⟩:=hlow O;clear hlow harg hret hab halu hflg hop
  cases bb
  ·exact Oo
  ·exact Oo
 ·obtain⟨rfl,rfl⟩:=hlow O;have hlt:=(harg rfl).2;have W1:=YM;have W2:IntKind.u64.wrap (p.nd:Int)=p.nd:=Mq;have g0:decide (imm<(p.nd:Int))=Ag:=by simpa using hlt
  exact YN
 ·obtain⟨rfl,rfl⟩:=hlow O;have hlt:=(hret rfl).2;have W1:=YM;have W2:IntKind.u64.wrap (p.nr:Int)=p.nr:=Mq;have g0:decide (imm<(p.nr:Int))=Ag:=by simpa using hlt
  exact YN
 ·obtain⟨ha,hb2⟩:=hab O;have hva:=T (λW=>Ij W (xa:Int) (dst:Int));have hvb:=T (λW=>Ij W (xb:Int) (dst:Int));rw[Jv O O] at hva hvb;obtain⟨q0,q1⟩:=halu rfl;exact YO
 ·rcases hflg rfl with⟨q0,q1⟩|rfl;·obtain⟨ha,hb2⟩:=hab O;have hva:=T (λW=>Ij W (xa:Int) (dst:Int));have hvb:=T (λW=>Ij W (xb:Int) (dst:Int));rw[Jv O O] at hva hvb;exact YO
  ·obtain⟨ha,hb2⟩:=hab O;have hva:=T (λW=>Ij W (xa:Int) (dst:Int));have hvb:=T (λW=>Ij W (xb:Int) (dst:Int));rw[Jv O O] at hva hvb;clear hlow harg hret hab halu hflg hop hv0 ha hb2;go_in;go_wp2_with (first
    |((with_reducible refine(hva.out _).mono ?_);rintro e w' ⟨rfl,rfl⟩)
    |((with_reducible refine(hvb.out _).mono ?_);rintro e w' ⟨rfl,rfl⟩))
   all_goals
    go_ret;exact⟨rfl,((Ao _ w).alloc _).alloc _⟩
theorem nV(w:Aa)(A:Aw)(n c:Nat)(zs:List Int)(hr:IntsAt U w ↑w A n zs)(hb: ∀z∈zs,0≤z∧z≤16)(hn:n≤1000):At Tryz.prog 225 #[Z A n c] w λe w'=>e=Ax (.bool Ag)∧w=w':=by
 have H:=T hr;have HB:=T hb;clear hr hb;go_in;go_wp2_with fail
 go_loop [7] (λi=> ∃k:Nat,k≤n∧i=J U k) (λi=>n -(AM i).toNat)
 case atStart=>exact⟨0,O,rfl⟩
 case round=>
  obtain⟨k,hk,rfl⟩:=hrel;by_cases hlt:k<n
  ·obtain⟨b,off,rfl,hbl,hc⟩:=H.out.at_ hlt;have hz:=HB.out (zs.getD k 0) (by rw[AS,BK (by rw[H.out.1];exact hlt)];exact CE _);obtain⟨z,hzv⟩:=A8 (zs.getD k 0);rw[hzv] at hc hz;have g0:decide (z<0)=Ac:=AA;have g1:decide (z>16)=Ac:=AA;clear hzv hz;go_wp2_with fail
   go_round
   case rel=>exact⟨k+1,O,Bn⟩
   case measure=>simp[AM];omega
  ·obtain rfl:k=n:=O;clear hlt
   go_wp2
   go_ret;exact⟨rfl,rfl⟩
end Ip
namespace Ip
open Gs Sv Tr Em
theorem Ec:(Tryz.prog.info? 218).map (·.size)=I 14:=AL
theorem right_yes(w:Aa)(B:Nat)(p:Pg)(v:Pv)(h:PgR w B p v)(hw:WF p):At Tryz.prog 189 #[A9 (pgA p v)] w λe w'=>e=Ax (Ap Ag)∧Fr Aj w w':=by
 obtain⟨C,cc,D,cd,R,cr⟩:=v;have H:=T h;have HW:=T hw;have n64:=hw.len;have q1:=hw.nd;have q2:=hw.nr;have q3:=hw.hd;have q4:=hw.hr;have q5:=hw.ct;have q6:=hw.odl;have q7:=hw.orl;have b0:=AI w 218 (pgA p ⟨C,cc,D,cd,R,cr⟩);have f0:=YP;have g1:decide ((p.code.length:Int)>64)=Ac:=AA;have g2:decide ((p.ct:Int)<1)=Ac:=AA;have g3:decide ((p.ct:Int)>8)=Ac:=AA;have hd4:Hid (At Tryz.prog 225 #[Z (I ⟨↑w+1,0,G⟩) 4 4] ((w.alloc (.cells (pgA p ⟨C,cc,D,cd,R,cr⟩) 218)).alloc (.cells #[J U p.nd,J U p.nr,J U p.hd,J U p.hr] 3)) λe w'=>e=Ax (.bool Ag)∧((w.alloc (.cells (pgA p ⟨C,cc,D,cd,R,cr⟩) 218)).alloc (.cells #[J U p.nd,J U p.nr,J U p.hd,J U p.hr] 3))=w'):=T (by
  have bk:Blk ((w.alloc (.cells (pgA p ⟨C,cc,D,cd,R,cr⟩) 218)).alloc (.cells #[J U p.nd,J U p.nr,J U p.hd,J U p.hr] 3)) (↑w+1) 3 ([(p.nd:Int),p.nr,p.hd,p.hr].map (J U)).toArray:=CK _ _ _ AC;have hi:=Tn (k:=U) [(p.nd:Int),p.nr,p.hd,p.hr] bk (wf_list (λz hz=>by
   simp at hz;rcases hz with rfl|rfl|rfl|rfl<;>exact Lx O O))
  refine nV _ _ 4 4 _ (hi.more AC) (λz hz=>?_) O;simp at hz;rcases hz with rfl|rfl|rfl|rfl<;>omega)
 have B0:=T b0;have F0:=T f0;clear h hw f0 b0;go_in;go_wp2_with fail;refine Az hd4 ?_;rintro e w1 ⟨rfl,rfl⟩;go_wp2_with fail;go_loopw [45] (λi wr=> ∃k:Nat,k≤p.code.length∧i=J U k∧Hid (Fr Aj w wr)∧Hid (Blk wr ↑w 218 (pgA p ⟨C,cc,D,cd,R,cr⟩))) (λi _=>p.code.length -(AM i).toNat)
 case atStart=>exact⟨0,O,rfl,T (F0.out.alloc _),T (B0.out.alloc _)⟩
 case round=>
  obtain⟨k,hk,rfl,hF,hB⟩:=hrel;by_cases hlt:k<p.code.length
  ·have Hm:=T (made_yes wr B p _ (H.out.fr0 hF.out) q1 q2 k hlt n64 (HW.out.code k hlt));have bb:=hB.out;go_wp2_with ((with_reducible refine wpL_lq bb Gi Ec ?_));refine Az Hm ?_;rintro e w1 ⟨rfl,f1⟩;have HX:=T (Ay (hF.out.tr f1) (hB.out.fr f1 id));clear f1 bb
   go_wp2
   go_roundw
   case rel=>exact⟨k+1,O,Bn,T HX.out.1,T HX.out.2⟩
   case measure=>simp[AM];omega
  ·obtain rfl:k=p.code.length:=O;have bb:=hB.out;have x5:=bb.cell 5;have x6:=bb.cell 6;have x7:=bb.cell 7;have x9:=bb.cell 9;have x10:=bb.cell 10;have x13:=bb.cell 13;have hlx:=bb.lt;clear hlt bb;go_wp2_with fail;have F2:Hid (Fr Aj w (wr.alloc (.cells #[Z D p.od.length cd,Z R p.or.length cr] 85))):=T (hF.out.alloc _);have r0:(wr.alloc (.cells #[Z D p.od.length cd,Z R p.or.length cr] 85)).cell? ⟨↑wr,0,G⟩=I (Z D p.od.length cd):=(AI wr _ _).cell 0;have r1:(wr.alloc (.cells #[Z D p.od.length cd,Z R p.or.length cr] 85)).cell? ⟨↑wr,1,G⟩=I (Z R p.or.length cr):=(AI wr _ _).cell 1;have bb:Blk (wr.alloc (.cells #[Z D p.od.length cd,Z R p.or.length cr] 85)) ↑w 218 (pgA p ⟨C,cc,D,cd,R,cr⟩):=hB.out.alloc _;obtain⟨gr,hgr⟩:=A8 wr.heap.size;obtain⟨w2,hw2⟩:=A8 (wr.alloc (.cells #[Z D p.od.length cd,Z R p.or.length cr] 85));rw[hw2] at F2 r0 r1 bb⊢;rw[hgr] at r0 r1⊢;have x7:=bb.cell 7;have x9:=bb.cell 9;have x10:=bb.cell 10;have x13:=bb.cell 13;have HP2:=T (H.out.fr0 F2.out);clear hw2 hgr x5 x6 hlx hB hF bb
   go_loop [59] (λi=> ∃k:Nat,k≤2∧i=J U k) (λi=>2 -(AM i).toNat)
   case atStart=>exact⟨0,O,rfl⟩
   case round=>
    obtain⟨k,hk,rfl⟩:=hrel;rcases(show k=0∨k=1∨k=2 by omega) with rfl|rfl|rfl
    ·skip
     go_wp2_with fail
     go_loop [65] (λi=> ∃j:Nat,j≤p.od.length∧i=J U j) (λi=>p.od.length -(AM i).toNat)
     case atStart=>exact⟨0,O,rfl⟩
     case round=>
      obtain⟨j,hj,rfl⟩:=hrel;by_cases hjl:j<p.od.length;·obtain⟨b,o,c',e',hc',hcell⟩:=(HP2.out.od).cell hjl;injection e' with e1 e2 e3;dsimp only at e1 e3;subst e1 e3;have hmem:p.od.getD j 0<p.code.length:=HW.out.od _ Oq;have Hv:=T (λW=>Ij W (p.od.getD j 0:Nat) (p.code.length:Nat));rw[Jv O O] at Hv;obtain⟨x,hx⟩:=A8 (p.od.getD j 0);exact YQ
      ·obtain rfl:j=p.od.length:=O;clear hjl;go_wp2_with fail
       go_round
       case rel=>exact⟨1,O,Bn⟩
       case measure=>simp[AM]
    ·skip
     go_wp2_with fail
     go_loop [65] (λi=> ∃j:Nat,j≤p.or.length∧i=J U j) (λi=>p.or.length -(AM i).toNat)
     case atStart=>exact⟨0,O,rfl⟩
     case round=>
      obtain⟨j,hj,rfl⟩:=hrel;by_cases hjl:j<p.or.length;·obtain⟨b,o,c',e',hc',hcell⟩:=(HP2.out.or).cell hjl;injection e' with e1 e2 e3;dsimp only at e1 e3;subst e1 e3;have hmem:p.or.getD j 0<p.code.length:=HW.out.or _ Oq;have Hv:=T (λW=>Ij W (p.or.getD j 0:Nat) (p.code.length:Nat));rw[Jv O O] at Hv;obtain⟨x,hx⟩:=A8 (p.or.getD j 0);exact YQ
      ·obtain rfl:j=p.or.length:=O;clear hjl;go_wp2_with fail
       go_round
       case rel=>exact⟨2,O,Bn⟩
       case measure=>simp[AM]
    ·have Hf:=T (λW=>Ij W p.fl (p.code.length:Nat));have Ht:=T (λW=>Ij W p.tg (p.code.length:Nat));have hfl:=HW.out.fl;have htg:=HW.out.tg;have hbr:=HW.out.br;obtain⟨bf,hbf⟩:=A8 (p.fl != -1);obtain⟨bt,hbt⟩:=A8 (p.tg != -1);have hf1:bf=Ag→vB p.fl (p.code.length:Nat)=Ag:=λe=>by
      rw[e] at hbf;have:p.fl≠ -1:=by simpa using hbf
      exact Jv O O
     have ht1:bt=Ag→vB p.tg (p.code.length:Nat)=Ag:=λe=>by
      rw[e] at hbt;have:p.tg≠ -1:=by simpa using hbt
      exact Jv O O
     have hbr2:(p.br==0)=Ag∨((p.br==0)=Ac∧decide (p.br≥33)=Ag∧decide (p.br≤37)=Ag∧(p.tg== -1)=Ag):=by
      rcases hbr with e|⟨e0,e1,e2⟩;·exact Ru
      ·exact Ah ⟨AA,by simpa using e0,by simpa using e1,Ot⟩
     clear hfl htg hbr
     cases bf
     ·cases bt
      ·rcases hbr2 with g1|⟨g1,g2,g3,g4⟩
       all_goals
        clear hf1 ht1
        go_wp2
        go_ret;exact⟨rfl,F2.out⟩
      ·have e2:=ht1 rfl;rw[e2] at Ht;rcases hbr2 with g1|⟨g1,g2,g3,g4⟩;rotate_left;·exact YR
       ·clear hf1 ht1 e2;go_wp2_with ((with_reducible refine(Ht.out _).mono ?_);rintro e w' ⟨rfl,rfl⟩);exact NM
     ·have e1:=hf1 rfl;rw[e1] at Hf
      cases bt
      ·rcases hbr2 with g1|⟨g1,g2,g3,g4⟩
       all_goals
        clear hf1 ht1 e1;go_wp2_with ((with_reducible refine(Hf.out _).mono ?_);rintro e w' ⟨rfl,rfl⟩);go_ret;exact⟨rfl,F2.out⟩
      ·have e2:=ht1 rfl;rw[e2] at Ht;rcases hbr2 with g1|⟨g1,g2,g3,g4⟩;rotate_left;·exact YR
       ·clear hf1 ht1 e1 e2;go_wp2_with (first
         |((with_reducible refine(Hf.out _).mono ?_);rintro e w' ⟨rfl,rfl⟩)
         |((with_reducible refine(Ht.out _).mono ?_);rintro e w' ⟨rfl,rfl⟩))
        exact NM
end Ip
end Go.Proofs.YtdfegdoeebaagaaGreatDoor
