import Derived.Test.YtdfegdoeebaagaaGreatDoorX23
import Derived.Test.YtdfegdoeebaagaaGreatDoorX27
open Go.Value renaming slice→Z,int→J,bool→Ap,tuple→AF,agg→A9,oneCell'→Ir
open Option renaming some→I,none→G
open Go.IntKind renaming i64→U,u32→V
open Go renaming World→Aa,Value→As,Calls→At,bodyPost_ret→Bt,TypeId→AN,wp_region_held_drew→C7,Ending→AY,info_parts→Cj,maxLen→BQ,madeCells→CH,wpList→Cy,Program→CF,Oper→BM
open Bool renaming false→Ac,true→Ag
open List renaming getD_eq_getElem?_getD→AS,length_append→Cq,mem_map→BS,getElem?_map→DP,getElem?_eq_none→Ew,mem_cons→Dv,replicate→DL,length_map→Fo,getElem?_range→IL,setIfInBounds_toArray→Jd
open Go.Ending renaming returned→Ax
open And renaming intro→Ay
open Nat renaming le_refl→AD,lt_of_lt_of_le→Bg,le_trans→Bf,eq_zero_or_pos→Gq
open Or renaming inl→Af,inr→Ah
open Go.Proofs.Tryz renaming underlying218→Gi
open Go.RowKit renaming intOf→AM
open Int renaming toNat_natCast→Du
open Go.Instr renaming makeSlice→Fp
set_option linter.all false
set_option maxHeartbeats 40000000
set_option maxRecDepth 1000000
open Go Go.RowKit
namespace Go.Proofs.YtdfegdoeebaagaaGreatDoor
namespace Sw
open Gs Sv Tr Em Ip Lo
variable{w:Aa}
theorem nilK{P:CF}{ops:Array BM}{K:Act→Aa→Prop}{Q Q':Exit→Act→Aa→Prop}{a:Act}{c:Code}(hK: ∀a w,Code.wp P c Q' a w→K a w)(h:Code.wp P c Q' a w):Cy P ops (Exit.then K Q) [] a w:=hK a w h
theorem infoBo:(Tryz.prog.info? 4).map (λi=>(i.zero,i.size,i.bytes))=I (I (Ap Ac),1,1):=AL
theorem run_mkB(n:Nat)(hn:n≤1000)(w:Aa):(Fp 128 (J U (n:Int)) (J U (n:Int))).run Tryz.prog w=.ok (Z (I ⟨↑w,0,G⟩) n n) (w.alloc (.cells (CH #[Ap Ac] n) 4)):=by
 obtain⟨i0,hi0,hz0,hz1,hz2⟩:=Cj infoBo;exact US
theorem cellsB(n:Nat)(w:Aa):Cells (w.alloc (.cells (CH #[Ap Ac] n) 4)) ↑w 4 n (λ_=> Ap Ac):=by
 have e:(CH #[Ap Ac] n).toList=DL n (Ap Ac):=QX;exact ZC
abbrev z14:AO:=#[Z G 0 0,J U 0,J U 0,J U 0,J U 0,Z G 0 0,Z G 0 0,J U 0,J V 0,J U 0,J U 0,J V 0,J U 0,J U 0]
theorem cellsI'(n:Nat)(w:Aa):Cells (w.alloc (.cells (CH #[J U 0] n) 3)) ↑w 3 n (λi=> J U ((0:Nat):Int)):=Al.cellsI n w
theorem ZJ(l:List Nat)(i:Nat)(hi:i<l.length):((l.getD i 0:Nat):Int)=(l.map λ(n:Nat)=>(n:Int)).getD i 0:=RO
theorem oF{code:List IIn}{u:Nat→Bool}{k:Nat}(h:u k=Ac∨(Tr.at_ code k).op<3):Fh code u k=u:=by
 unfold Fh;rw[Ae];rintro⟨h1,h2⟩;rcases h with e|e;·rw[h1] at e;cases e
 ·omega
theorem oG{code:List IIn}{u:Nat→Bool}{k a b:Nat}(h:u k=Ag)(h3:3≤(Tr.at_ code k).op)(ha:(Tr.at_ code k).a=a)(hb:(Tr.at_ code k).b=b):Fh code u k=EM u [(a:Int),(b:Int)]:=by
 unfold Fh;rw[An ⟨h,h3⟩,ha,hb];show _=Fg (Fg u (a:Int)) (b:Int);unfold Fg;rw[Ae O,Ae O,Du,Du]
abbrev swC(p:Pg)(A:Aw)(m c:Nat)(DA:Aw)(dn dA:Nat)(RA:Aw)(rn rA:Nat)(fl tg:Int):AO:=#[Z A m c,J U p.nd,J U p.nr,J U p.hd,J U p.hr,Z DA dn dA,Z RA rn rA,J U fl,J V p.nx,J U tg,J U p.br,J V p.tk,J U p.ct,J U m]
theorem sw_cells(p:Pg)(v:Pv)(A:Aw)(m c:Nat)(DA:Aw)(dn dA:Nat)(RA:Aw)(rn rA:Nat):((((pgA p v).setIfInBounds 0 (Z A m c)).setIfInBounds 13 (J U (m:Nat))).setIfInBounds 5 (Z DA dn dA)).setIfInBounds 6 (Z RA rn rA)=swC p A m c DA dn dA RA rn rA p.fl p.tg:=by
 simp only[pgA,Jd,List.set_cons_zero,List.set_cons_succ]
variable{base:Nat}
theorem own_low{b2 s n:Nat}{t:AN}{v:As}{xs:List As}(h:w.ownsRow base t s v n xs)(hb:b2≤base):w.ownsRow b2 t s v n xs:=Nf
structure PgO(w:Aa)(base:Nat)(q:Pg)(v:Pv):Prop where
 c:w.ownsRow base 266 5 (Z v.C q.code.length v.cc) q.code.length (iis q.code)
 d:w.ownsRow base 3 1 (Z v.D q.od.length v.cd) q.od.length (fxV q.od)
 r:w.ownsRow base 3 1 (Z v.R q.or.length v.cr) q.or.length (fxV q.or)
theorem PgO.pgr{q:Pg}{v:Pv}(h:PgO w base q v):PgR w ↑w q v:=⟨AtI.of h.c,At64.of h.d rfl,At64.of h.r rfl,own_cap h.c,AD _⟩
theorem PgO.fr{w':Aa}{q:Pg}{v:Pv}{S:AE}(h:PgO w base q v)(f:Fr S w w')(hs: ∀k,base≤k→ ¬S k):PgO w' base q v:=
 ⟨AR h.c f (λk hk=>hs k (Cn h.c k hk)),AR h.d f (λk hk=>hs k (Cn h.d k hk)),AR h.r f (λk hk=>hs k (Cn h.r k hk))⟩
def SwPost(w:Aa)(q:Pg)(e:AY)(w':Aa):Prop:= ∃v,e=Ax (A9 (pgA q v))∧PgO w' ↑w q v∧Fr Aj w w'
theorem oH(w:Aa)(B:Nat)(p:Pg)(v:Pv)(h:PgR w B p v)(hw:WF p):At Tryz.prog 143 #[A9 (pgA p v)] w (SwPost w (sweepP p)):=by
 obtain⟨i5,hi5,hz5,hs5,hy5⟩:=Cj info5i;have hmf:=RI;have n64:=hw.len;have hB:=h.hB;obtain⟨C,cc,D,cd,R,cr⟩:=v;have H:=T h;have HW:=T hw;obtain⟨N,hN⟩:=A8 p.code.length;have HN:=T hN;rw[hN] at n64;have hmk: ∀W,(Fp 128 (J U (N:Int)) (J U (N:Int))).run Tryz.prog W=.ok (Z (I ⟨↑W,0,G⟩) N N) (W.alloc (.cells (CH #[Ap Ac] N) 4)):=λW=>run_mkB N O W;have hmi: ∀W,(Fp 85 (J U (N:Int)) (J U (N:Int))).run Tryz.prog W=.ok (Z (I ⟨↑W,0,G⟩) N N) (W.alloc (.cells (CH #[J U 0] N) 3)):=λW=>Al.run_mkI N O W;obtain⟨W1,hW1⟩:=A8 ((w.alloc (.cells (pgA p ⟨C,cc,D,cd,R,cr⟩) 218)).alloc (.cells z14 218));have hs1:W1.heap.size=w.heap.size+2:=by rw[←hW1];simp
 have b1:Blk W1 ↑w 218 (pgA p ⟨C,cc,D,cd,R,cr⟩):=by rw[←hW1];exact(AI _ _ _).alloc _
 have b2:Blk W1 (↑w+1) 218 z14:=by rw[←hW1];exact CK _ _ _ (by simp)
 have f1:Fr Aj w W1:=by rw[←hW1];exact((Ao _ w).alloc _).alloc _
 have x13:W1.cell? ⟨↑w,13,G⟩=I (J .i64 N):=(b1.cell 13).trans Zx;have hl1:w.heap.size<W1.heap.size:=b1.lt;have B1:=T b1;have B2:=T b2;have F1:=T f1;clear h hw hN b1 b2 f1;go_in;go_upto_region 3 with(fail);have cu0:=(cellsB N W1).alloc (.cells #[Z (I ⟨↑w+2,0,G⟩) N N] 128);rw[hs1] at cu0;have bv0:Blk ((W1.alloc (.cells (CH #[Ap Ac] N) 4)).alloc (.cells #[Z (I ⟨↑w+2,0,G⟩) N N] 128)) (↑w+2+1) 128 #[Z (I ⟨↑w+2,0,G⟩) N N]:=CK _ _ _ (by simp[hs1]);have f2:Fr Aj W1 ((W1.alloc (.cells (CH #[Ap Ac] N) 4)).alloc (.cells #[Z (I ⟨↑w+2,0,G⟩) N N] 128)):=((Ao _ W1).alloc _).alloc _;generalize(W1.alloc (.cells (CH #[Ap Ac] N) 4)).alloc (.cells #[Z (I ⟨w.heap.size+2,0,G⟩) N N] 128)=W2 at*;obtain⟨gu,hgu⟩:=A8 (w.heap.size+2);obtain⟨gv,hgv⟩:=A8 (gu+1);rw[hgu] at cu0 bv0⊢;rw[hgv] at bv0⊢;have B1':=T (B1.out.fr f2 id);have B2':=T (B2.out.fr f2 id);have F2:=T (F1.out.tr f2);have HGU:=T hgu;have HGV:=T hgv;have hbg:B≤gu:=O;have hgne:gv≠gu:=O;have H2:=T (H.out.fr0 F2.out);have hb2:B≤↑W2:=H2.out.hB;have BV:=T bv0;have Hu1:Hid (At Tryz.prog 187 #[Z D p.od.length cd,↑gv] W2 λe w'=>e=Ax (AF #[])∧Cells w' gu 4 N (λi=> Ap (Gy (λ_=>Ac) p.od i))∧Fr (· =gu) W2 w'):=T ((MD W2 gv gu N N (λ_=>Ac) D p.od.length cd (p.od.map λ(n:Nat)=>(n:Int)) (bv0.cell 0) bv0.lt hgne cu0 (RowZ.of64 H2.out.od hb2 hbg (λi hi=>ZJ _ i hi)) AC (λz hz=>by
  obtain⟨n,hn,rfl⟩:=BS.1 hz;have:=HW.out.od n hn;rw[HN.out] at this;exact Ah ⟨O,O⟩) (by have:=HW.out.odl;omega) (AD _) O).mono (λe w' h=>by rw[Zv] at h;exact h))
 have y5:W2.cell? ⟨↑w,5,G⟩=I (Z D p.od.length cd):=B1'.out.cell 5;have hl2:=B1'.out.lt;clear cu0 bv0 hgu hgv x13 hl1 B1 B2 hs1 hW1 f2;go_upto_region 4 with((with_reducible refine Az Hu1 ?_);rintro e W3 ⟨rfl,c3,f3⟩);clear Hu1 y5 hl2;have B3:=T (B1'.out.fr f3 MH);have V3:=T (BV.out.fr f3 hgne);have Hu2:Hid (At Tryz.prog 187 #[Z R p.or.length cr,↑gv] W3 λe w'=>e=Ax (AF #[])∧Cells w' gu 4 N (λi=> Ap (Gy (Gy (λ_=>Ac) p.od) p.or i))∧Fr (· =gu) W3 w'):=T ((MD W3 gv gu N N (Gy (λ_=>Ac) p.od) R p.or.length cr (p.or.map λ(n:Nat)=>(n:Int)) (V3.out.cell 0) V3.out.lt hgne c3 ((RowZ.of64 H2.out.or hb2 hbg (λi hi=>ZJ _ i hi)).fr f3) AC (λz hz=>by
  obtain⟨n,hn,rfl⟩:=BS.1 hz;have:=HW.out.or n hn;rw[HN.out] at this;exact Ah ⟨O,O⟩) (by have:=HW.out.orl;omega) (AD _) O).mono (λe w' h=>by rw[Zv] at h;exact h))
 have y6:W3.cell? ⟨↑w,6,G⟩=I (Z R p.or.length cr):=B3.out.cell 6;have hl3:=B3.out.lt;have F3:=T f3;clear c3 f3;go_upto_region 5 with((with_reducible refine Az Hu2 ?_);rintro e W4 ⟨rfl,c4,f4⟩);clear Hu2 y6 hl3;have B4:=T (B3.out.fr f4 MH);have V4:=T (V3.out.fr f4 hgne);have F4:=T (F3.out.tr f4);have bz:=AI W4 3 #[J U p.fl,J U p.tg];have fz:Fr Aj W4 (W4.alloc (.cells #[J U p.fl,J U p.tg] 3)):=(Ao _ W4).alloc _;have hg4:gu<↑W4:=c4.lt;have Hu3:Hid (At Tryz.prog 187 #[Z (I ⟨↑W4,0,G⟩) 2 2,↑gv] (W4.alloc (.cells #[J U p.fl,J U p.tg] 3)) λe w'=>e=Ax (AF #[])∧Cells w' gu 4 N (λi=> Ap (Np p i))∧Fr (· =gu) (W4.alloc (.cells #[J U p.fl,J U p.tg] 3)) w'):=T (MD _ gv gu N N (Gy (Gy (λ_=>Ac) p.od) p.or) (I ⟨↑W4,0,G⟩) 2 2 [p.fl,p.tg] ((V4.out.fr fz id).cell 0) (V4.out.fr fz id).lt hgne (c4.fr fz id) (λ_=>⟨↑W4,0,rfl,O,AC,λi hi=>by
  rcases(show i=0∨i=1 by omega) with rfl|rfl;·exact bz.cell 0
  ·exact bz.cell 1⟩) rfl (λz hz=>by
  have h1:=HW.out.fl;have h2:=HW.out.tg;rw[HN.out] at h1 h2;simp only[Dv,List.not_mem_nil,or_false] at hz;rcases hz with rfl|rfl;·exact h1
  ·exact h2) O (AD _) O)
 have y7:W4.cell? ⟨↑w,7,G⟩=I (J U p.fl):=B4.out.cell 7;have y9:W4.cell? ⟨↑w,9,G⟩=I (J U p.tg):=B4.out.cell 9;have hl4:=B4.out.lt;have FZ:=T fz;clear bz fz c4 f4;go_upto_region 6 with((with_reducible refine Az Hu3 ?_);rintro e W5 ⟨rfl,c5,f5⟩);clear Hu3 y7 y9 hl4;have F5:Hid (Fr (· =gu) W2 W5):=T ((F4.out.tr (FZ.out.mono (λ_ _ e=>e.elim))).trans f5 (λ_ _ e=>e));have B5:=T (B1'.out.fr F5.out MH);have V5:=T (BV.out.fr F5.out hgne);have R5:=T (B2'.out.fr F5.out ZK);have x13:W5.cell? ⟨↑w,13,G⟩=I (J U N):=(B5.out.cell 13).trans RQ;have hl5:=B5.out.lt;have C5:=T c5;have HU0:Hid (Gz p.code N (Np p)=Cz p):=T (by unfold Cz;rw[HN.out]);clear c5 f5 B3 B4 V3 V4 F3 F4 FZ hg4 B1' B2' BV;go_wp2_with fail;clear x13 hl5;go_loopw [5] (λi wr=> ∃(k:Nat) (z:Int) (u:Nat→Bool),k≤N∧i=J U z∧Hid (z=(k:Int) -1)∧Hid (Gz p.code k u=Cz p)∧Hid (Cells wr gu 4 N (λi=> Ap (u i)))∧Hid (Fr (· =gu) W5 wr)) (λi _=>((AM i)+1).toNat)
 case atStart=>exact⟨N,(N:Int) -1,Np p,AD _,rfl,T rfl,HU0,C5,T (Ao _ _)⟩
 case round=>
  obtain⟨k,z,u,hk,rfl,hz,hU,hC,hF⟩:=hrel;rcases Gq k with hk0|hk0
  ·obtain rfl:z= -1:=by have:=hz.out;omega
   have HUP:Hid (u=Cz p):=T (by have:=hU.out;rw[hk0] at this;exact this);have hq:=hz.out;clear hz hk0 hq;obtain⟨wo,rfl⟩: ∃wo:Aa,wo=wr:=⟨_,rfl⟩;have BP:=T (B5.out.fr hF.out MH);have RP:=T (R5.out.fr hF.out ZK);have VP:=T (V5.out.fr hF.out hgne);have hge0:decide ((-1:Int)≥0)=Ac:=Ak;have y13:wo.cell? ⟨↑w,13,G⟩=I (J .i64 N):=(BP.out.cell 13).trans RQ;have y0:wo.cell? ⟨↑w,0,G⟩=I (Z C N cc):=(BP.out.cell 0).trans ZL;have hlp:=BP.out.lt;have cp0:=(cellsI' N wo).alloc (.cells #[Z (I ⟨↑wo,0,G⟩) N N] 85);have bg0:Blk ((wo.alloc (.cells (CH #[J U 0] N) 3)).alloc (.cells #[Z (I ⟨↑wo,0,G⟩) N N] 85)) (↑wo+1) 85 #[Z (I ⟨↑wo,0,G⟩) N N]:=CK _ _ _ AC;have fo:Fr Aj wo ((wo.alloc (.cells (CH #[J U 0] N) 3)).alloc (.cells #[Z (I ⟨↑wo,0,G⟩) N N] 85)):=((Ao _ wo).alloc _).alloc _;have CP0:=T cp0;have BG0:=T bg0;have FO:=T fo;have hgl0:gu<↑wo:=hC.out.lt;clear cp0 bg0 fo;go_upto_block 2 with(fail);obtain⟨gp,hgp⟩:=A8 wo.heap.size;obtain⟨gb,hgb⟩:=A8 (gp+1);have B6:=T (BP.out.fr FO.out id);have R6:=T (RP.out.fr FO.out id);have V6:=T (VP.out.fr FO.out id);have C6:Hid (Cells ((wo.alloc (.cells (CH #[J U 0] N) 3)).alloc (.cells #[Z (I ⟨↑wo,0,G⟩) N N] 85)) gu 4 N (λi=> Ap (Cz p i))):=T (by rw[←HUP.out];exact hC.out.fr FO.out id);have F6:Hid (Fr Aj w ((wo.alloc (.cells (CH #[J U 0] N) 3)).alloc (.cells #[Z (I ⟨↑wo,0,G⟩) N N] 85))):=T ((F2.out.trans ((F5.out.tr hF.out).trans FO.out (λ_ _ e=>e.elim)) (λq hq e=>by have:=HGU.out;omega)));have H6:=T (H.out.fr0 F6.out);generalize(wo.alloc (.cells (CH #[J U 0] N) 3)).alloc (.cells #[Z (I ⟨wo.heap.size,0,G⟩) N N] 85)=W6 at*;rw[hgp] at CP0 BG0⊢hgl0;rw[hgb] at BG0⊢;have HW0:wo.heap.size≤W6.heap.size:=FO.out.size;have hlW:↑w<gu:=by have:=HGU.out;omega
   have hBw:B≤↑w:=hB;have hgbl:gb<↑W6:=BG0.out.lt;have hgpl:gp<↑W6:=CP0.out.lt;have hgne2:gv<↑W6:=V6.out.lt;have hgvp:gv≠gp:=λe=>by
    have:=VP.out.lt;omega
   clear y13 y0 hlp FO BP RP VP hF hC hU HUP B5 V5 R5 F5 C5 HU0 F2 H2 hb2 hge0 HW0 HGU HGV hgp hbg;clear F1 hmk;go_wp2_with fail;go_loopw [70,8] (λi v wr=> ∃(k:Nat) (s:Tr.Sw) (A':Aw) (c' m:Nat),k≤N∧i=J U k∧v=Z A' m c'∧m≤k∧Hid (s.out.length=m)∧Hid (swN p.code (Cz p) k=s)∧Hid (wr.ownsRow ↑W6 266 5 (Z A' m c') m (iis s.out))∧Hid (Cells wr gp 3 N (λi=> J U (s.pl i:Nat)))∧Hid (Fr (· =gp) W6 wr)) (λi _ _=>N -(AM i).toNat)
   case atStart=>exact⟨0,⟨λ_=>0,[]⟩,G,0,0,O,rfl,rfl,O,T rfl,T rfl,T ⟨rfl,Af ⟨rfl,rfl⟩⟩,CP0,T (Ao _ _)⟩
   case round=>
    obtain⟨k,s,A',c',m,hk,rfl,rfl,hmk,hsm,hS,hO,hP,hF⟩:=hrel;by_cases hlt:k<N
    ·obtain⟨b,off,hC2,hb,e0,e1,e2,e3,e4⟩:=(H6.out.fr hF.out (λq hq e=>O)).code k ME;have hm:=HW.out.code k ME;have hop:=hm.op;have hab:=hm.ab;have hbl:b<↑wr:=by have:=(F6.out.trans hF.out (λq hq e=>by omega):Fr Aj w wr).size;omega
     have h1:=(C6.out.fr hF.out (by show ¬gu=gp;omega)).cell k hlt;have hul:=(C6.out.fr hF.out (by show ¬gu=gp;omega)).lt;have v0:=(V6.out.fr hF.out hgvp).cell 0;have hvl:=(V6.out.fr hF.out hgvp).lt;have t0:=(BG0.out.fr hF.out MI).cell 0;have htl:=(BG0.out.fr hF.out MI).lt;have p0:=hP.out.cell k hlt;have q0:=hP.out.frozen k;have hpl:=hP.out.lt;have S0:Hid (Cz p k=Ac→swN p.code (Cz p) (k+1)=s):=T (λe=>by rw[swN,hS.out];unfold JC;rw[Ae (by rw[e];decide)]);have S1:Hid (Cz p k=Ag→swN p.code (Cz p) (k+1)=⟨upN s.pl k m,s.out++[Ey (upN s.pl k m) m (Tr.at_ p.code k)]⟩):=T (λe=>by rw[swN,hS.out];unfold JC;rw[An e,hsm.out]);obtain⟨x,hx⟩:=A8 (Tr.at_ p.code k);rw[hx] at e0 e1 e2 e3 e4 hop hab S1;obtain⟨op,dst,xa,xb,imm⟩:=x;dsimp only at e0 e1 e2 e3 e4 hop hab hC2;subst hC2;obtain⟨bb,hbb⟩:=A8 (Cz p k);rw[hbb] at h1 S0 S1;clear hm hx hbb
     cases bb
     ·go_wp2
      go_roundw
      case rel=>exact⟨k+1,s,A',c',m,O,Bn,rfl,O,hsm,T (S0.out rfl),T (DU hO.out _),T (hP.out.alloc _),T (hF.out.alloc _)⟩
      case measure=>simp[AM];omega
     ·go_upto_region 19 with(fail);have cp7:=(Cells.congr (hP.out.set_ k (J U (m:Nat))) (f':=λi=> J U (upN s.pl k m i:Nat)) (λi hi=>by
       unfold Bz upN;by_cases e:i=k;·simp[e]
       ·simp[e])).alloc (.cells #[J U op,J U dst,J U xa,J U xb,J V imm] 266)
      have bx7:Blk ((wr.setCell ⟨gp,k,G⟩ (J U (m:Nat))).alloc (.cells #[J U op,J U dst,J U xa,J U xb,J V imm] 266)) ↑wr 266 #[J U op,J U dst,J U xa,J U xb,J V imm]:=CK _ _ _ JM;have f7:Fr (· =gp) wr ((wr.setCell ⟨gp,k,G⟩ (J U (m:Nat))).alloc (.cells #[J U op,J U dst,J U xa,J U xb,J V imm] 266)):=(Br _ _ _ _).alloc _;have OW7:=T (AR hO.out f7 (λq hq e=>by have:=Cn hO.out q hq;omega));have F7:=T (hF.out.tr f7);generalize(wr.setCell ⟨gp,k,G⟩ (J U (m:Nat))).alloc (.cells #[J U op,J U dst,J U xa,J U xb,J V imm] 266)=W7 at*;have hrs:W6.heap.size≤wr.heap.size:=hF.out.size;obtain⟨gx,hgx⟩:=A8 wr.heap.size;have hlx: ∀q,(Z A' m c').ownBlock=I q→q<gx:=λq hq=>by have:=own_lt hO.out q hq;omega
      have HLX:=T hlx;rw[hgx] at bx7⊢;have BX7:=T bx7;have CP7:=T cp7;have t7:=(BG0.out.fr F7.out MI).cell 0;have htl7:=(BG0.out.fr F7.out MI).lt;have z0:=bx7.cell 0;have z1:=bx7.cell 1;have z2:=bx7.cell 2;have z3:=bx7.cell 3;have zl:=bx7.lt;have w1_:=bx7.frozen 1;have w2_:=bx7.frozen 2;have w3_:=bx7.frozen 3;clear cp7 bx7 f7 e0 e1 e2 e3 e4 h1 hul v0 hvl t0 htl p0 q0 hpl S0;by_cases hop3:op<3
      ·have g3:((op:Int)==3)=Ac:=AA;have g4:((op:Int)==4)=Ac:=AA;go_upto_region 22 with(fail);have bx8:Blk (W7.setCell ⟨gx,1,G⟩ (J U (m:Nat))) gx 266 #[J U op,J U m,J U (xa:Nat),J U (xb:Nat),J V imm]:=BX7.out.set_ 1 _;have f8:Fr (· =gx) W7 (W7.setCell ⟨gx,1,G⟩ (J U (m:Nat))):=Br _ _ _ _;have own8:=AR OW7.out f8 (λq hq e=>by have:=HLX.out q hq;omega);have cp8:=CP7.out.fr f8 (by show ¬gp=gx;omega);have F8:Hid (Fr (λq=>q=gp) W6 (W7.setCell ⟨gx,1,G⟩ (J U (m:Nat)))):=T (F7.out.trans f8 (λq hq e=>O));clear f8;generalize(W7.setCell ⟨gx,1,G⟩ (J U (m:Nat)))=W8 at*;have x0:=bx8.cell 0;have x1:=bx8.cell 1;have x2:=bx8.cell 2;have x3:=bx8.cell 3;have x4:=bx8.cell 4;have hx8:=bx8.lt;have hsz8:W6.heap.size≤W8.heap.size:=F8.out.size;have HO8:=T (DU own8 (.cells #[J U op,J U m,J U (xa:Nat),J U (xb:Nat),J V imm] 266));have hrd:Hid (Reads (W8.alloc (.cells #[J U op,J U m,J U (xa:Nat),J U (xb:Nat),J V imm] 266)) (↑W8+1) 5 (I ⟨↑W8,0,G⟩) 1 (iis [⟨op,m,xa,xb,imm⟩])):=T (by
        have:=Do (size:=5) (n:=1) (AI W8 266 #[J U op,J U m,J U (xa:Nat),J U (xb:Nat),J V imm]) AC;simpa[iis] using this)
       have CP8:=T cp8;clear own8 cp8 bx8;go_wp2_with
        (at_builtin
         refine CU _ rfl (.tmp 108) (.tmp 110) _ rfl W6.heap.size 266 i5 _ 5 40 Tryz.underlying216 hi5 hz5 hs5 hy5 rfl O (Z A' m c') m (iis s.out) rfl HO8.out (W8.heap.size+1) (I ⟨W8.heap.size,0,G⟩) 1 1 (iis [⟨op,m,xa,xb,imm⟩]) rfl hrd.out (R7 _) Cc O AA ?_
         intro v1 w3 hown1 hg1 hat1
         obtain⟨A3,c3,rfl⟩:=Et hown1
         have HX:=T (Ay hown1 hg1)
         clear hown1 hg1 hat1)
       go_roundw;case rel=>
        have hbo:=ZM;have hm2:Ey (upN s.pl k m) m ⟨op,dst,xa,xb,imm⟩=⟨op,m,xa,xb,imm⟩:=(by unfold Ey;rw[Ae (by show ¬3≤op;omega)]);exact ZN
       case measure=>simp[AM];omega
      ·obtain⟨ha,hb2⟩:=hab O;have pa:W7.cell? ⟨gp,xa,G⟩=I (J U (upN s.pl k m xa:Nat)):=CP7.out.cell xa O;have pb:W7.cell? ⟨gp,xb,G⟩=I (J U (upN s.pl k m xb:Nat)):=CP7.out.cell xb O;have hpl7:=CP7.out.lt;have hxaN:xa<N:=O;have hgbx:gb≠gx:=O;have hgpx:gp≠gx:=O;have hxbN:xb<N:=O;by_cases ho3:op=3;·have g3:((op:Int)==3)=Ag:=AA;exact ZO
       ·have g3:((op:Int)==3)=Ac:=AA;have g4:((op:Int)==4)=Ag:=AA;exact ZO
    ·obtain rfl:N=k:=O;have hsw:sweepP p={p with code:=s.out,od:=p.od.map s.pl,or:=p.or.map s.pl,fl:=CN s.pl p.fl,tg:=CN s.pl p.tg}:=by unfold sweepP;rw[HN.out,hS.out]
     have HSW:=T hsw;have F9:Hid (Fr Aj w wr):=T (F6.out.trans hF.out (λq hq e=>O));have B9:=T (B6.out.fr hF.out (by show ¬↑w=gp;omega));have R9:=T (R6.out.fr hF.out (by show ¬↑w+1=gp;omega));have G9:=T (BG0.out.fr hF.out MI);have H9:=T (H.out.fr0 F9.out);have HOO:=T hO.out;have hbx:w.heap.size<wr.heap.size:=B9.out.lt;have hbxg:gb≠↑w:=O;have hbxp:gp≠↑w:=O;have hs6:W6.heap.size≤wr.heap.size:=hF.out.size;have Hm:Hid (∀W,Fr (λq=>q=w.heap.size) wr W→ ∀(A:Aw) (c:Nat) (l:List Nat),At64 wr B (Z A l.length c) l.length (λi=>(l.getD i 0:Nat))→(∀z∈l,z<N)→l.length≤64→At Tryz.prog 188 #[Z A l.length c,↑gb] W (O0 W (l.map s.pl))):=T (λW f A c l h1 h2 h3=>
      oB W B gb gp N N s.pl A c l ((G9.out.fr f O4).cell 0) (G9.out.fr f O4).lt (hP.out.fr f RS) (h1.fr f O (λq hq e=>O)) (by have:=f.size;omega) h2 O (AD _) O)
     have Hm1:Hid (∀W,Fr (λq=>q=w.heap.size) wr W→At Tryz.prog 188 #[Z D p.od.length cd,↑gb] W (O0 W (p.od.map s.pl))):=T (λW f=>Hm.out W f D cd p.od H9.out.od (by rw[←HN.out];exact HW.out.od) HW.out.odl);have Hm2:Hid (∀W,Fr (λq=>q=w.heap.size) wr W→At Tryz.prog 188 #[Z R p.or.length cr,↑gb] W (O0 W (p.or.map s.pl))):=T (λW f=>Hm.out W f R cr p.or H9.out.or (by rw[←HN.out];exact HW.out.or) HW.out.orl);have z5:wr.cell? ⟨↑w,5,G⟩=I (Z D p.od.length cd):=B9.out.cell 5;have z6:wr.cell? ⟨↑w,6,G⟩=I (Z R p.or.length cr):=B9.out.cell 6;go_upto_region 25 with(fail);go_cut [] (λwx=> ∃DA dA RA rA,Hid (Blk wx ↑w 218 (swC p A' m c' DA p.od.length dA RA p.or.length rA p.fl p.tg)∧wx.ownsRow ↑wr 3 1 (Z DA p.od.length dA) p.od.length (fxV (p.od.map s.pl))∧wx.ownsRow ↑wr 3 1 (Z RA p.or.length rA) p.or.length (fxV (p.or.map s.pl))∧Fr (λq=>q=w.heap.size) wr wx));case first=>
      refine C7 (S:=Fr (λq=>q=w.heap.size) wr) AL ((Ao (λq=>q=w.heap.size) wr).drew) (λhH=>?_);refine Av 0 rfl hH CX ?_;refine Av 1 rfl hH CX ?_;refine Av 2 rfl hH CX ?_
      try simp only[AG]
      refine Av 3 rfl hH CX ?_;refine Av 4 rfl hH CX ?_;refine Av 7 rfl hH CX ?_
      try simp only[AG]
      refine Av 8 rfl hH CX ?_
      try simp only[AG]
      refine Bb [5,9] ?_;refine AT (λK hK=>?_) ?_
      ·go_simp;refine hK.out _ _ hH λhH=>?_;clear hK K;refine Bb [6,9] ?_;refine AT (λK hK=>?_) ?_
       ·go_simp;go_wp2_with ((with_reducible refine(Hm1.out _ hH).mono ?_);rintro e wA ⟨DA,dA,rfl,hDA,fA⟩;have hbA:w.heap.size<wA.heap.size:=Bg hbx (Bf hH.size fA.size);have bA:=B9.out.fr ((Ao Aj wr).drew.tr fA) id;have i6A:=bA.cell 6);refine hK.out _ _ (hH.tr (fA.mono (λ_ _ e=>e.elim))) λhH=>?_;clear hK K;refine Bb [9] ?_;refine AT (λK hK=>?_) ?_
        ·go_simp;refine hK.out _ _ hH λhH=>?_;clear hK K;refine Av 11 rfl hH CX ?_
         try simp only[AG]
         exact ZP
        exact Bc
       exact ZQ
      refine AT (λK hK=>?_) ?_;·go_simp;refine hK.out _ _ hH λhH=>?_;clear hK K;refine Bb [5] ?_;exact ZQ
      exact Bc
     case rest=>
      obtain⟨DA,dA,RA,rA,hcc⟩:=hcut;have hbx2:=hcc.out.1;have HR3:=T hcc.out.2;have hfl:=HW.out.fl;have htg:=HW.out.tg;rw[HN.out] at hfl htg;have hsz9:w.heap.size+1<wr.heap.size:=R9.out.lt;clear z5 z6 Hm1 Hm2 Hm hcc;have Gc:=T (G9.out.fr HR3.out.2.2 O4);have Pc:=T (hP.out.fr HR3.out.2.2 RS);have hg0:=Gc.out.cell 0;have hgl9:=Gc.out.lt;have hpl9:=Pc.out.lt;have hxl:=hbx2.lt;obtain⟨z,hz⟩:=A8 p.fl;have HZ:=T hz;have xz7:wc.cell? ⟨↑w,7,G⟩=I (J U z):=by rw[←hz];exact hbx2.cell 7
      have hbz:Blk wc ↑w 218 (swC p A' m c' DA p.od.length dA RA p.or.length rA z p.tg):=by rw[←hz];exact hbx2
      have hxz:z= -1∨(0≤z∧z<N):=by rw[←hz];exact hfl
      clear hz
      go_upto_if 131 with(fail)
      go_cut [] (λwx=> ∃flv,Hid (CN s.pl p.fl=flv)∧Hid (Blk wx ↑w 218 (swC p A' m c' DA p.od.length dA RA p.or.length rA flv p.tg)∧wx.ownsRow ↑wr 3 1 (Z DA p.od.length dA) p.od.length (fxV (p.od.map s.pl))∧wx.ownsRow ↑wr 3 1 (Z RA p.or.length rA) p.or.length (fxV (p.or.map s.pl))∧Fr (λq=>q=w.heap.size) wr wx));case first=>
       rcases hxz with rfl|⟨hf0,hf1⟩;·have z7:wc.cell? ⟨↑w,7,G⟩=I (J U (-1)):=hbz.cell 7;have HX:Hid (CN s.pl p.fl= -1∧Blk wc ↑w 218 (swC p A' m c' DA p.od.length dA RA p.or.length rA (-1) p.tg)):=T ⟨by rw[HZ.out];rfl,hbz⟩;exact ZR
       ·obtain⟨q,rfl⟩: ∃q:Nat,z=q:=⟨z.toNat,O⟩;have z7:wc.cell? ⟨↑w,7,G⟩=I (J U (q:Nat)):=hbz.cell 7;have y7:=hbz.frozen 7;have hqN:q<N:=O;have cq:wc.cell? ⟨gp,q,G⟩=I (J U (s.pl q:Nat)):=Pc.out.cell q hqN;have hne1:=RG;have hne2:=RH;have hne3:((q:Int) != -1)=Ag:=AC;have hne4: ¬(q:Int)= -1:=O;have hb11:Blk (wc.setCell ⟨↑w,7,G⟩ (J U (s.pl q:Nat))) ↑w 218 (swC p A' m c' DA p.od.length dA RA p.or.length rA (s.pl q:Nat) p.tg):=by
         have:=hbz.set_ 7 (J U (s.pl q:Nat));exact ZS
        have fs:Fr (λq=>q=w.heap.size) wc (wc.setCell ⟨↑w,7,G⟩ (J U (s.pl q:Nat))):=Br _ _ _ _;have HX:Hid (CN s.pl p.fl=(s.pl q:Nat)∧Blk (wc.setCell ⟨↑w,7,G⟩ (J U (s.pl q:Nat))) ↑w 218 (swC p A' m c' DA p.od.length dA RA p.or.length rA (s.pl q:Nat) p.tg)∧Fr (λq=>q=w.heap.size) wc (wc.setCell ⟨↑w,7,G⟩ (J U (s.pl q:Nat)))):=T ⟨ZT,hb11,fs⟩;exact ZU
      case rest=>
       clear hg0 hgl9 hpl9 hxl Gc Pc hbx2 HR3;obtain⟨flv,HFL,hc2⟩:=hcut;have hbx2:=hc2.out.1;have HR3:=T hc2.out.2;clear hc2;have Gc:=T (G9.out.fr HR3.out.2.2 O4);have Pc:=T (hP.out.fr HR3.out.2.2 RS);have hg0:=Gc.out.cell 0;have hgl9:=Gc.out.lt;have hpl9:=Pc.out.lt;have hxl:=hbx2.lt;obtain⟨wd,rfl⟩: ∃wd:Aa,wd=wc:=⟨_,rfl⟩;obtain⟨z,hz⟩:=A8 p.tg;have HZ:=T hz;have xz9:wd.cell? ⟨↑w,9,G⟩=I (J U z):=by rw[←hz];exact hbx2.cell 9
       have hbz:Blk wd ↑w 218 (swC p A' m c' DA p.od.length dA RA p.or.length rA flv z):=by rw[←hz];exact hbx2
       have hxz:z= -1∨(0≤z∧z<N):=by rw[←hz];exact htg
       clear hz
       go_upto_if 140 with(fail)
       go_cut [] (λwx=> ∃tgv,Hid (CN s.pl p.tg=tgv)∧Hid (Blk wx ↑w 218 (swC p A' m c' DA p.od.length dA RA p.or.length rA flv tgv)∧wx.ownsRow ↑wr 3 1 (Z DA p.od.length dA) p.od.length (fxV (p.od.map s.pl))∧wx.ownsRow ↑wr 3 1 (Z RA p.or.length rA) p.or.length (fxV (p.or.map s.pl))∧Fr (λq=>q=w.heap.size) wr wx));case first=>
        rcases hxz with rfl|⟨hf0,hf1⟩;·have z9:wd.cell? ⟨↑w,9,G⟩=I (J U (-1)):=hbz.cell 9;have HX:Hid (CN s.pl p.tg= -1∧Blk wd ↑w 218 (swC p A' m c' DA p.od.length dA RA p.or.length rA flv (-1))):=T ⟨by rw[HZ.out];rfl,hbz⟩;exact ZR
        ·obtain⟨q,rfl⟩: ∃q:Nat,z=q:=⟨z.toNat,O⟩;have z9:wd.cell? ⟨↑w,9,G⟩=I (J U (q:Nat)):=hbz.cell 9;have y9:=hbz.frozen 9;have hqN:q<N:=O;have cq:wd.cell? ⟨gp,q,G⟩=I (J U (s.pl q:Nat)):=Pc.out.cell q hqN;have hne1:=RG;have hne2:=RH;have hne3:((q:Int) != -1)=Ag:=AC;have hne4: ¬(q:Int)= -1:=O;have hb11:Blk (wd.setCell ⟨↑w,9,G⟩ (J U (s.pl q:Nat))) ↑w 218 (swC p A' m c' DA p.od.length dA RA p.or.length rA flv (s.pl q:Nat)):=by
          have:=hbz.set_ 9 (J U (s.pl q:Nat));exact ZS
         have fs:Fr (λq=>q=w.heap.size) wd (wd.setCell ⟨↑w,9,G⟩ (J U (s.pl q:Nat))):=Br _ _ _ _;have HX:Hid (CN s.pl p.tg=(s.pl q:Nat)∧Blk (wd.setCell ⟨↑w,9,G⟩ (J U (s.pl q:Nat))) ↑w 218 (swC p A' m c' DA p.od.length dA RA p.or.length rA flv (s.pl q:Nat))∧Fr (λq=>q=w.heap.size) wd (wd.setCell ⟨↑w,9,G⟩ (J U (s.pl q:Nat)))):=T ⟨ZT,hb11,fs⟩;exact ZU
       case rest=>
        obtain⟨tgv,HTG,hc3⟩:=hcut;have b12:=hc3.out.1;have D12:=T hc3.out.2.1;have R12:=T hc3.out.2.2.1;have hr12:=R9.out.fr hc3.out.2.2.2 IT;have o14:(swC p A' m c' DA p.od.length dA RA p.or.length rA flv tgv).all (·.oneCell')=Ag:=by simp[swC,Ir]
        have YC:=T (AR (own_low HOO.out (show w.heap.size+2≤W6.heap.size by omega)) hc3.out.2.2.2 (λq hq e=>by have:=Cn HOO.out q hq;have e2:q=w.heap.size:=e;omega));have HFR:=T (F9.out.trans hc3.out.2.2.2 (λq hq e=>by have e2:q=w.heap.size:=e;omega));have H2W:w.heap.size+1<W6.heap.size:=by have:=R6.out.lt;omega
        clear hc3 hg0 hgl9 hpl9 hxl Gc Pc hbx2 HR3 hmf hmi;go_upto_region 30 with(fail);refine wp_region_list ?_;refine wpL_ld b12 Gi Ec ?q1 ?q2 ?q3 ?_
        case q1=>rfl
        case q2=>rfl
        case q3=>rfl
        refine OY (cs':=swC p A' m c' DA p.od.length dA RA p.or.length rA flv tgv) hr12 Ec ?q1 ?q2 o14 ?q3 ?q4 ?_
        case q1=>rfl
        case q2=>rfl
        case q3=>rfl
        case q4=>rfl
        intro W13 b13 f13;have B13:=T b13;have F13:=T f13;clear b13 f13 b12 hr12 o14;refine nilK (by assumption) ?_;refine wp_ret ?_;refine Bt (CV rfl _ _ (w.heap.size+1) 218 _ _ rfl B13.out Gi rfl Ec) rfl ?_;have hne: ∀(b:Nat),w.heap.size+1<b→ ¬(λq=>q=w.heap.size+1) b:=λb h e=>by have e2:b=w.heap.size+1:=e;omega
        have oC:=AR YC.out F13.out (λq hq=>hne q (by have:=Cn YC.out q hq;omega));have oD:=AR D12.out F13.out (λq hq=>hne q (by have:=Cn D12.out q hq;omega));have oR:=AR R12.out F13.out (λq hq=>hne q (by have:=Cn R12.out q hq;omega));have hwr:w.heap.size≤wr.heap.size:=F9.out.size;refine⟨⟨A',c',DA,dA,RA,rA⟩, ?_,⟨?_, ?_, ?_⟩,HFR.out.trans F13.out (λq hq e=>by have e2:q=w.heap.size+1:=e;omega)⟩;·rw[HSW.out];simp only[pgA,swC,Fo,hsm.out,HFL.out,HTG.out]
        ·rw[HSW.out];have:=own_low oC (show w.heap.size≤w.heap.size+2 by omega);rw[←hsm.out] at this;exact this
        ·rw[HSW.out];have:=own_low oD hwr;simpa using this
        ·rw[HSW.out];have:=own_low oR hwr;simpa using this
  ·obtain⟨k,rfl⟩: ∃j,k=j+1:=⟨k -1,O⟩;obtain rfl:z=(k:Int):=by have:=hz.out;push_cast at this;omega
   have hkN:k<N:=O;have hgk0:decide ((k:Int)≥0)=Ag:=AC;obtain⟨b,off,hC2,hb,e0,e1,e2,e3,e4⟩:=(H2.out.fr (F5.out.tr hF.out) (λq hq e=>O)).code k (by rw[HN.out];exact hkN);have hm:=HW.out.code k (by rw[HN.out];exact hkN);have hop:=hm.op;have hab:=hm.ab;have h1:=hC.out.cell k hkN;have hul:=hC.out.lt;have BP:=T (B5.out.fr hF.out MH);have y0:wr.cell? ⟨↑w,0,G⟩=I (Z C N cc):=(BP.out.cell 0).trans ZL;have hlp:=BP.out.lt;have v0:=(V5.out.fr hF.out hgne).cell 0;have hvl:=(V5.out.fr hF.out hgne).lt;have hbl:b<↑wr:=by have:=(F5.out.tr hF.out).size;omega
   have hUS: ∀u',Fh p.code u k=u'→Gz p.code k u'=Cz p:=λu' e=>by have:=hU.out;rw[←e];exact this
   have HUS:=T hUS;have S0:Hid (u k=Ac∨(Tr.at_ p.code k).op<3→Fh p.code u k=u):=T oF;have S1:Hid (∀a b,u k=Ag→3≤(Tr.at_ p.code k).op→(Tr.at_ p.code k).a=a→(Tr.at_ p.code k).b=b→Fh p.code u k=EM u [(a:Int),(b:Int)]):=T (λa b=>oG);obtain⟨x,hx⟩:=A8 (Tr.at_ p.code k);rw[hx] at e0 e1 e2 e3 e4 hop hab S0 S1;obtain⟨op,dst,xa,xb,imm⟩:=x;dsimp only at e0 e1 e2 e3 e4 hop hab hC2 S0 S1;subst hC2;obtain⟨bb,hbb⟩:=A8 (u k);rw[hbb] at h1 S0 S1;clear hm hx hbb hUS hU hz
   cases bb
   ·rcases(show op=0∨op=1∨op=2∨op=3∨op=4 by omega) with rfl|rfl|rfl|rfl|rfl
    all_goals
     go_wp2
     go_roundw
     case rel=>exact⟨k,(k:Int) -1,u,O,Bn,T rfl,T (HUS.out _ (S0.out (Af rfl))),T (hC.out.alloc _),T (hF.out.alloc _)⟩
     case measure=>first|(simp[AM];done)|(simp[AM];omega)
   ·rcases(show op=0∨op=1∨op=2∨op=3∨op=4 by omega) with rfl|rfl|rfl|rfl|rfl;·exact RU
    ·exact RU
    ·exact RU
    ·obtain⟨ha,hb2⟩:=hab O;have fq:Fr Aj wr ((wr.alloc (.cells #[J U 3,J U dst,J U xa,J U xb,J V imm] 266)).alloc (.cells #[J U xa,J U xb] 3)):=((Ao _ wr).alloc _).alloc _;have bq:Blk ((wr.alloc (.cells #[J U 3,J U dst,J U xa,J U xb,J V imm] 266)).alloc (.cells #[J U xa,J U xb] 3)) (↑wr+1) 3 #[J U xa,J U xb]:=CK _ _ _ AC;have Hu:Hid (At Tryz.prog 187 #[Z (I ⟨↑wr+1,0,G⟩) 2 2,↑gv] ((wr.alloc (.cells #[J U 3,J U dst,J U xa,J U xb,J V imm] 266)).alloc (.cells #[J U xa,J U xb] 3)) λe w'=>e=Ax (AF #[])∧Hid (Cells w' gu 4 N (λi=> Ap (EM u [(xa:Int),(xb:Int)] i))∧Fr (· =gu) ((wr.alloc (.cells #[J U 3,J U dst,J U xa,J U xb,J V imm] 266)).alloc (.cells #[J U xa,J U xb] 3)) w')):=T ((MD _ gv gu N N u (I ⟨↑wr+1,0,G⟩) 2 2 [(xa:Int),(xb:Int)] (((V5.out.fr hF.out hgne).fr fq id).cell 0) (((V5.out.fr hF.out hgne).fr fq id).lt) hgne (hC.out.fr fq id) (λ_=>⟨↑wr+1,0,rfl,O,AC,λi hi=>by
      rcases(show i=0∨i=1 by omega) with rfl|rfl;·exact bq.cell 0
      ·exact bq.cell 1⟩) rfl (λz hz=>by
      simp only[Dv,List.not_mem_nil,or_false] at hz;rcases hz with rfl|rfl;·exact Ah ⟨O,O⟩
      ·exact Ah ⟨O,O⟩) O (AD _) O).mono (λe w' h=>⟨h.1,T h.2⟩))
     exact ZV
    ·obtain⟨ha,hb2⟩:=hab O;have fq:Fr Aj wr ((wr.alloc (.cells #[J U 4,J U dst,J U xa,J U xb,J V imm] 266)).alloc (.cells #[J U xa,J U xb] 3)):=((Ao _ wr).alloc _).alloc _;have bq:Blk ((wr.alloc (.cells #[J U 4,J U dst,J U xa,J U xb,J V imm] 266)).alloc (.cells #[J U xa,J U xb] 3)) (↑wr+1) 3 #[J U xa,J U xb]:=CK _ _ _ AC;have Hu:Hid (At Tryz.prog 187 #[Z (I ⟨↑wr+1,0,G⟩) 2 2,↑gv] ((wr.alloc (.cells #[J U 4,J U dst,J U xa,J U xb,J V imm] 266)).alloc (.cells #[J U xa,J U xb] 3)) λe w'=>e=Ax (AF #[])∧Hid (Cells w' gu 4 N (λi=> Ap (EM u [(xa:Int),(xb:Int)] i))∧Fr (· =gu) ((wr.alloc (.cells #[J U 4,J U dst,J U xa,J U xb,J V imm] 266)).alloc (.cells #[J U xa,J U xb] 3)) w')):=T ((MD _ gv gu N N u (I ⟨↑wr+1,0,G⟩) 2 2 [(xa:Int),(xb:Int)] (((V5.out.fr hF.out hgne).fr fq id).cell 0) (((V5.out.fr hF.out hgne).fr fq id).lt) hgne (hC.out.fr fq id) (λ_=>⟨↑wr+1,0,rfl,O,AC,λi hi=>by
      rcases(show i=0∨i=1 by omega) with rfl|rfl;·exact bq.cell 0
      ·exact bq.cell 1⟩) rfl (λz hz=>by
      simp only[Dv,List.not_mem_nil,or_false] at hz;rcases hz with rfl|rfl;·exact Ah ⟨O,O⟩
      ·exact Ah ⟨O,O⟩) O (AD _) O).mono (λe w' h=>⟨h.1,T h.2⟩))
     exact ZV
end Sw
end Go.Proofs.YtdfegdoeebaagaaGreatDoor
