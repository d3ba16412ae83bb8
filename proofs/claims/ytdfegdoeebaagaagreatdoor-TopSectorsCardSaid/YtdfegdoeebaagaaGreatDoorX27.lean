import Derived.Test.YtdfegdoeebaagaaGreatDoorX13
import Derived.Test.YtdfegdoeebaagaaGreatDoorX26
open Go.Value renaming slice→Z,int→J,bool→Ap,tuple→AF,agg→A9
open Option renaming some→I,none→G
open Go.IntKind renaming i64→U
open Go renaming World→Aa,Value→As,Calls→At,bodyPost_ret→Bt,TypeId→AN,wp_region_held_drew→C7,Ending→AY,Program→CF,Oper→BM,Operand→De
open Bool renaming false→Ac,true→Ag
open Go.Ending renaming returned→Ax
open Nat renaming le_refl→AD
open Or renaming inl→Af,inr→Ah
open Go.Proofs.Tryz renaming underlying218→Gi
open Go.RowKit renaming intOf→AM
open Go.Sem renaming run_bind→GT
set_option linter.all false
set_option maxHeartbeats 40000000
set_option maxRecDepth 1000000
open Go Go.RowKit
namespace Go.Proofs.YtdfegdoeebaagaaGreatDoor
namespace Al
open Gs Sv Tr Em Ip Lf Rn
variable{W:Aa}{cs:AO}
theorem take_ld{P:CF}{g:Nat}{ty:AN}{o:BM}{ρ:De→As}{x:De}(kb:(Instr.loadAt ty ↑g).run P W=.ok (A9 cs) W)(ho:o.op=.load ty x)(hx:ρ x=↑g):(execOp ρ o).run P W=.ok (.value (A9 cs)) W:=by
 simp[execOp,ho,hx,kb,GT]
variable{t:AN}
theorem lastB{S:AE}{a:Aa}(h:Fr S a (W.alloc (.cells cs t))):Blk (W.alloc (.cells cs t)) ↑W t cs:=AI _ _ _
theorem lastBd{S:AE}{a:Aa}(h:Fr S a (W.alloc (.cells cs t)).drew):Blk (W.alloc (.cells cs t)).drew ↑W t cs:=AI _ _ _
theorem addBd{g:Nat}(h:Blk W.drew g t cs)(o:Obj):Blk (W.alloc o).drew g t cs:=h.alloc o
theorem szPl:(Tryz.prog.info? 256).map (·.size)=I 3:=AL
structure Made(w1 w:Aa)(p:Pg)(N gs gR gS:Nat)(A:Aw)(cI:Nat)(tt:Nat→Nat):Prop where
 b:Blk w gs 310 #[Z (I ⟨gR,0,G⟩) N N,Z (I ⟨gS,0,G⟩) N N,J U 0,Z A N cI]
 r:RowC w gR N (λ_=> -1)
 s:RowC w gS N (λ_=> -1)
 lv:LV p tt
 i:0<N→ ∃gi,A=I ⟨gi,0,G⟩∧gS<gi∧gi<gs∧IvC w gi cI N tt
 lo:↑w1≤gR∧gR<gS∧gS<gs
 f:Fr Aj w1 w
theorem made_end{w1 W0 wA W1 wB wC:Aa}{p:Pg}{N gR gS cI:Nat}{A:Aw}{tt:Nat→Nat}(z0:w1.heap.size≤W0.heap.size)(g1:↑W0≤gR)(hR:RowC wA gR N (λ_=> -1))(fR:Fr Aj wA W1)(g2:↑W1≤gS)(hS:RowC wB gS N (λ_=> -1))(fS:Fr Aj W1 wB)(hI:IvX wC ↑wB A N cI tt)(fC:Fr Aj wB wC)(hL:LV p tt)(f:Fr Aj w1 (wC.alloc (.cells #[Z (I ⟨gR,0,G⟩) N N,Z (I ⟨gS,0,G⟩) N N,J U 0,Z A N cI] 310))):Made w1 (wC.alloc (.cells #[Z (I ⟨gR,0,G⟩) N N,Z (I ⟨gS,0,G⟩) N N,J U 0,Z A N cI] 310)) p N ↑wC gR gS A cI tt:=by
 have hRl:=hR.lt;have hSl:=hS.lt;have e1:=fR.size;have e2:=fS.size;have e3:=fC.size;refine⟨AI _ _ _,LG ((hR.fr (fR.tr fS) id).fr fC id) _,LG (hS.fr fC id) _,hL,λh0=>?_,⟨O,O,O⟩,f⟩;obtain⟨gi,rfl,h1,h2⟩:=hI h0;exact⟨gi,rfl,O,h2.lt,h2.fr ((Ao Aj wC).alloc _) id⟩
def PlanPost(w:Aa)(p:Pg)(e:AY)(w':Aa):Prop:=
 ∃(reg slot:Nat→Int) (sl gR gS:Nat) (tt:Nat→Nat),e=Ax (AF #[A9 #[Z (I ⟨gR,0,G⟩) p.code.length p.code.length,Z (I ⟨gS,0,G⟩) p.code.length p.code.length,J U sl],J U 0])∧PO p ⟨reg,slot⟩ tt∧
  RowC w' gR p.code.length reg∧RowC w' gS p.code.length slot∧↑w≤gR∧↑w≤gS∧Fr Aj w w'
theorem do_any(w:Aa)(B:Nat)(p:Pg)(v:Pv)(h:PgR w B p v)(hw:WF p):At Tryz.prog 144 #[A9 (pgA p v),J U 7] w (PlanPost w p):=by
 have n64:=hw.len;have b0:=AI w 218 (pgA p v);have bb:=(b0.alloc (.cells #[Z G 0 0,Z G 0 0,J U 0] 256));have f0:Fr Aj w ((w.alloc (.cells (pgA p v) 218)).alloc (.cells #[Z G 0 0,Z G 0 0,J U 0] 256)):=((Ao _ w).alloc _).alloc _;have hr:=T (right_yes _ B p v (h.fr0 f0) hw);have hy:=T (λW=>regs_yes W);have bt:Blk ((w.alloc (.cells (pgA p v) 218)).alloc (.cells #[Z G 0 0,Z G 0 0,J U 0] 256)) (↑w+1) 256 #[Z G 0 0,Z G 0 0,J U 0]:=CK _ _ _ AC;have H:=T h;have HW:=T hw;have B0:=T bb;have BT:=T bt;have F0:=T f0;clear h hw b0 f0 bt;go_in;go_wp2_with
  (first
   |((with_reducible refine wpL_lq bb Gi Ec ?_))
   |((with_reducible refine Az hr ?_);rintro e w1 ⟨rfl,f1⟩;have b1:=B0.out.fr f1 id;have B1:=T b1;have bt1:=BT.out.fr f1 id;have F1:=T (F0.out.tr f1);have hsz1:w.heap.size+2≤w1.heap.size:=(by have:=f1.size;simpa using this);have BT1:=T bt1;clear f1 b1 bt1)
   |((with_reducible refine(hy.out _).mono ?_);rintro e w2 ⟨rfl,rfl⟩))
 obtain⟨N,hN⟩:=A8 p.code.length;have HN:=T hN;have nN:N≤64:=by rw[←hN];exact n64
 have Hof:Hid (∀W,Fr Aj w1 W→At Tryz.prog 192 #[A9 (pgA p v)] W λe w'=> ∃A cap tt,e=Ax (Z A N cap)∧LV p tt∧IvX w' ↑W A N cap tt∧Fr Aj W w'):=T (λW f=>by
  rw[←hN];exact of_yes W B p v (H.out.fr0 (F1.out.tr f)) HW.out)
 clear hN n64;go_cut [6] (λv wx=> ∃(gs gR gS:Nat) (A:Aw) (cI:Nat) (tt:Nat→Nat),v=↑gs∧Hid (Made w1 wx p N gs gR gS A cI tt));case first=>
  refine C7 (S:=Fr Aj w1) AL ((Ao Aj w1).drew) (λhH=>?_);refine Av 1 rfl hH Ki ?_;refine Av 2 rfl hH Ki ?_;refine Av 5 rfl hH Ki ?_
  try simp only[AG]
  refine Av 6 rfl hH Ki ?_;refine CJ 9 (A9 (pgA p v)) rfl hH (by intro W hSw;exact take_ld (ldB (B1.out.fr hSw id) Gi rfl Ec) rfl (by simp[Act.eval,Act.put])) ?_
  try simp only[AG]
  refine Bb [0,4] ?_;refine AT (λK hK=>?_) ?_
  ·go_simp;refine hK.out _ _ (hH.alloc _) λhH=>?_;clear hK K;have q0:=MF
   try simp only[World.size_alloc] at q0
   refine Bb [3,4] ?_;refine AT (λK hK=>?_) ?_
   ·have z0:=hH.size;go_simp;go_wp2_with ((with_reducible refine(RN _ _ N ZE nN).mono ?_);rintro e wA ⟨gR,rfl,hgR,hR,fR⟩);refine hK.out _ _ (hH.tr fR) λhH=>?_;clear hK K;refine Bb [4] ?_;refine AT (λK hK=>?_) ?_
    ·go_simp;refine hK.out _ _ (hH.alloc _) λhH=>?_;clear hK K;have q4:=MF
     try simp only[World.size_alloc] at q4
     exact ZF
    exact Bc
   refine AT (λK hK=>?_) ?_
   ·go_simp;refine hK.out _ _ (hH.alloc _) λhH=>?_;clear hK K;have q4:=MF
    try simp only[World.size_alloc] at q4
    exact ZG
   exact Bc
  refine AT (λK hK=>?_) ?_
  ·go_simp;refine hK.out _ _ (hH.alloc _) λhH=>?_;clear hK K;have q4:=MF
   try simp only[World.size_alloc] at q4
   refine Bb [0] ?_;refine AT (λK hK=>?_) ?_
   ·go_simp;refine hK.out _ _ (hH.alloc _) λhH=>?_;clear hK K;have q0:=MF
    try simp only[World.size_alloc] at q0
    exact ZG
   exact Bc
  exact Bc
 case rest=>
  obtain⟨gs,gR,gS,A,cI,tt,rfl,hMd⟩:=hcut;have HBT:=T (BT1.out.fr hMd.out.f id);have hlo:=hMd.out.lo;have bt0:w.heap.size+1<w1.heap.size:=BT1.out.lt;by_cases h0:0<N
  ·obtain⟨gi,rfl,hi1,hi2,hI⟩:=hMd.out.i h0;have HS0:Hid (Sc wc ⟨gs,gR,gS,gi,cI⟩ N (λ_=> -1) (λ_=> -1) 0 tt):=T ⟨hMd.out.b,hMd.out.r,hMd.out.s,hI,by show gR≠gS;omega,by show gs≠gR;omega,by show gs≠gS;omega,by show gi≠gs;omega,by show gi≠gR;omega,by show gi≠gS;omega⟩;have HP0:Hid (PI tt 0 (λ_=> -1) (λ_=> -1)):=T (PI.start tt);have c3:wc.cell? ⟨gs,3,G⟩=I (Z (I ⟨gi,0,G⟩) N cI):=hMd.out.b.cell 3;have hgl:=hMd.out.b.lt;have hN1:N≤cI:=hI.le;clear hI;go_wp2_with fail;go_loopw [40] (λi wr=> ∃(k:Nat) (reg slot:Nat→Int) (sl:Nat),k≤N∧i=J U k∧sl≤65∧Hid (PI tt k reg slot)∧Hid (Sc wr ⟨gs,gR,gS,gi,cI⟩ N reg slot sl tt)∧Hid (Fr (λq=>q=gs∨q=gR∨q=gS) wc wr)) (λi _=>N -(AM i).toNat)
   case atStart=>exact⟨0,_,_,0,O,rfl,O,HP0,HS0,T (Ao _ _)⟩
   case round=>
    obtain⟨k,reg,slot,sl,hk,rfl,hsl,hPI,hSc,hF⟩:=hrel;obtain⟨wo,rfl⟩: ∃wo:Aa,wo=wr:=⟨_,rfl⟩;clear c3 hgl;by_cases hlt:k<N
    ·have c0:=ZH;have hgl:gs<↑wo:=hSc.out.b.lt;obtain⟨n0,n1,n2⟩:=hSc.out.i.c0 k hlt;have hil:gi<↑wo:=hSc.out.i.lt;have ba:=T (AI wo 312 #[J U (k:Int),J U (k:Int),J U (tt k:Int)]);have fa:Fr Aj wo (wo.alloc (.cells #[J U (k:Int),J U (k:Int),J U (tt k:Int)] 312)):=(Ao _ wo).alloc _;have hSa:=T (hSc.out.fr0 fa);have Hf:=T (Z8 _ gs gi cI gR N N k tt reg hlt nN (AD _) hSa.out.b.lt (hSa.out.b.cell 3) hSa.out.i hSa.out.r.i);have FA:=T fa;clear fa;go_upto_region 8 with(with_reducible refine Az Hf ?_;rintro e w2 ⟨r,rfl,hr,hrf,f2⟩);have hS2:=T (hSa.out.fr0 f2);have B8:=T (ba.out.fr f2 id);have F2:=T (FA.out.tr f2);have HRF:=T hrf;clear f2 hrf c0 hgl n0 n1 n2 hil Hf hSa FA ba;by_cases hr7:r<7
     ·have c0:w2.cell? ⟨gs,0,G⟩=I (Z (I ⟨gR,0,G⟩) N N):=hS2.out.b.cell 0;have hgl:gs<↑w2:=hS2.out.b.lt;have r0:w2.cell? ⟨gR,k,G⟩=I (J U (reg k)):=Cells.cell hS2.out.r k hlt;have y0:w2.frozen? ⟨gR,k,G⟩=Ac:=Cells.frozen hS2.out.r k
      go_wp2
      go_roundw;case rel=>
       refine⟨k+1,upZ reg k r,slot,sl,O,Bn,hsl,T (hPI.out.inReg (RM HRF.out (λi hi=>(hPI.out.none i O).1)) O),T (hS2.out.setR k r),T ((hF.out.tr (F2.out.mono (λ_ _ e=>e.elim))).setCell (p:=⟨gR,k,G⟩) (Af (Ah (Af rfl))) _)⟩
      case measure=>simp[AM];omega
     ·have s3:w2.cell? ⟨gs,3,G⟩=I (Z (I ⟨gi,0,G⟩) N cI):=hS2.out.b.cell 3;have hgl:gs<↑w2:=hS2.out.b.lt;go_wp2_with fail;clear s3 hgl;go_loopw [72,10] (λi q wr=> ∃(j q':Nat),j≤k∧i=J U j∧q=J U q'∧Hid (q'=k∨(q'<k∧reg q'≠ -1∧DE tt k q'=Ag))∧q'≤k∧Hid (Fr Aj w2 wr)) (λi _ _=>k -(AM i).toNat)
      case atStart=>exact⟨0,k,O,rfl,rfl,T (Af rfl),AD _,T (Ao _ _)⟩
      case round=>
       obtain⟨j,q,hj,rfl,rfl,hQ,hqk,hF2⟩:=hrel;obtain⟨wi,rfl⟩: ∃wi:Aa,wi=wr:=⟨_,rfl⟩;by_cases hjk:j<k
       ·have hSr:=T (hS2.out.fr0 hF2.out);have BR:=T (B8.out.fr hF2.out id);obtain⟨n0,n1,n2⟩:=hSr.out.i.c0 j O;have hil:gi<↑wi:=hSr.out.i.lt;have hgl:gs<↑wi:=hSr.out.b.lt;have b12:=AI wi 312 #[J U (j:Int),J U (j:Int),J U (tt j:Int)];have fa:Fr Aj wi (wi.alloc (.cells #[J U (j:Int),J U (j:Int),J U (tt j:Int)] 312)):=(Ao _ wi).alloc _;have hS3:=T (hSr.out.fr0 fa);have BR3:=T (BR.out.fr fa id);have FA:=T (hF2.out.tr fa);have B12:=T b12;clear fa b12;go_upto_region 14 with(fail);clear n0 n1 n2 hil hgl;have hbi:w2.heap.size≤wi.heap.size:=hF2.out.size;obtain⟨g12,hg12⟩:=A8 wi.heap.size;generalize wi.alloc (.cells #[J U (j:Int),J U (j:Int),J U (tt j:Int)] 312)=w3 at*;rw[hg12] at B12⊢;have s0:w3.cell? ⟨gs,0,G⟩=I (Z (I ⟨gR,0,G⟩) N N):=hS3.out.b.cell 0;have s3:w3.cell? ⟨gs,3,G⟩=I (Z (I ⟨gi,0,G⟩) N cI):=hS3.out.b.cell 3;have rj:w3.cell? ⟨gR,j,G⟩=I (J U (reg j)):=Cells.cell hS3.out.r j (by show j<N;omega);have mq:w3.cell? ⟨gi,q*3+2,G⟩=I (J U (tt q:Int)):=(hS3.out.i.c0 q (by show q<N;omega)).2.2;have lgs:gs<↑w3:=hS3.out.b.lt;have lgR:gR<↑w3:=hS3.out.r.lt;have lgi:gi<↑w3:=hS3.out.i.lt;have e0:w3.cell? ⟨↑wo,0,G⟩=I (J U (k:Int)):=BR3.out.cell 0;have e1:w3.cell? ⟨↑wo,1,G⟩=I (J U (k:Int)):=BR3.out.cell 1;have e2:w3.cell? ⟨↑wo,2,G⟩=I (J U (tt k:Int)):=BR3.out.cell 2;have lo:wo.heap.size<w3.heap.size:=BR3.out.lt;have d0:w3.cell? ⟨g12,0,G⟩=I (J U (j:Int)):=B12.out.cell 0;have d1:w3.cell? ⟨g12,1,G⟩=I (J U (j:Int)):=B12.out.cell 1;have d2:w3.cell? ⟨g12,2,G⟩=I (J U (tt j:Int)):=B12.out.cell 2;have l12:g12<↑w3:=B12.out.lt;have hjN:j<N:=O;have hqN:q<N:=O;have hW:Hid (∀W,Fr Aj w3 W→Fr Aj w2 W):=T (λW f=>FA.out.tr f);by_cases hr1:reg j= -1
        ·rw[hr1] at rj;refine C7 (S:=Fr Aj w3) AL ((Ao Aj w3).drew) (λhH=>?_);refine Av 0 rfl hH Cp ?_;refine Av 1 rfl hH Cp ?_;refine Av 2 rfl hH Cp ?_
         try simp only[AG]
         refine Av 3 rfl hH Cp ?_;refine Av 4 rfl hH Cp ?_;refine Av 5 rfl hH Cp ?_
         try simp only[AG]
         refine Av 6 rfl hH Cp ?_;refine Av 7 rfl hH Cp ?_;refine CJ 8 ((Ap Ac)) rfl hH EN ?_
         try simp only[AG]
         refine CJ 9 ((Ap Ac)) rfl hH EN ?_;refine Bo 10 rfl hH ?_;refine Bo 11 rfl hH ?_
         try simp only[AG]
         refine Bo 12 rfl hH ?_;refine CJ 13 ((Ap Ac)) rfl hH EN ?_;refine CJ 14 ((Ap Ac)) rfl hH EN ?_
         try simp only[AG]
         refine Bo 15 rfl hH ?_;refine Bo 16 rfl hH ?_;refine Bo 17 rfl hH ?_
         try simp only[AG]
         refine Bo 18 rfl hH ?_;refine Bo 19 rfl hH ?_;refine Bo 20 rfl hH ?_
         try simp only[AG]
         refine Bo 21 rfl hH ?_;refine Bo 22 rfl hH ?_;refine Bo 23 rfl hH ?_
         try simp only[AG]
         refine Bo 24 rfl hH ?_;refine Bo 25 rfl hH ?_;refine CJ 26 ((Ap Ac)) rfl hH EN ?_
         try simp only[AG]
         exact ZI
        ·obtain⟨x,hx⟩:=A8 (DE tt k j);have Hm:Hid (∀W,At Tryz.prog 194 #[A9 #[J U k,J U k,J U (tt k)],A9 #[J U j,J U j,J U (tt j)]] W λe w'=>e=Ax (Ap x)∧Fr Aj W w'):=T (λW=>by rw[←hx];exact YV W k j (tt k) (tt j));have HXX:=T hx;have hne:(reg j== -1)=Ac:=by simpa using hr1
         have hne2:decide (reg j= -1)=Ac:=by simpa using hr1
         clear hx
         cases x
         ·skip
          refine C7 (S:=Fr Aj w3) AL ((Ao Aj w3).drew) (λhH=>?_);refine Av 0 rfl hH Cp ?_;refine Av 1 rfl hH Cp ?_;refine Av 2 rfl hH Cp ?_
          try simp only[AG]
          refine Av 3 rfl hH Cp ?_;refine Av 4 rfl hH Cp ?_;refine Av 5 rfl hH Cp ?_
          try simp only[AG]
          refine Av 6 rfl hH Cp ?_;refine Av 7 rfl hH Cp ?_;refine CJ 8 ((Ap Ag)) rfl hH EN ?_
          try simp only[AG]
          refine CJ 9 ((Ap Ag)) rfl hH EN ?_;refine Av 10 rfl hH Cp ?_;refine Av 11 rfl hH Cp ?_
          try simp only[AG]
          refine Bb [12] ?_;refine AT (λK hK=>?_) ?_
          ·go_simp;go_wp2_with (refine(Hm.out _).mono ?_;rintro e w4 ⟨rfl,f4⟩);refine hK.out _ _ (hH.tr f4) λhH=>?_;clear hK K;refine CJ 13 ((Ap Ac)) rfl hH EN ?_;refine CJ 14 ((Ap Ac)) rfl hH EN ?_;refine Bo 15 rfl hH ?_
           try simp only[AG]
           refine Bo 16 rfl hH ?_;refine Bo 17 rfl hH ?_;refine Bo 18 rfl hH ?_
           try simp only[AG]
           refine Bo 19 rfl hH ?_;refine Bo 20 rfl hH ?_;refine Bo 21 rfl hH ?_
           try simp only[AG]
           refine Bo 22 rfl hH ?_;refine Bo 23 rfl hH ?_;refine Bo 24 rfl hH ?_
           try simp only[AG]
           refine Bo 25 rfl hH ?_;refine CJ 26 ((Ap Ac)) rfl hH EN ?_;exact ZI
          exact Bc
         ·obtain⟨b,hb⟩:=A8 (decide (tt q<tt j));have hb2:decide ((tt q:Int)<(tt j:Int))=b:=by rw[←hb];exact decide_eq_decide.2 (by omega)
          refine C7 (S:=Fr Aj w3) AL ((Ao Aj w3).drew) (λhH=>?_);refine Av 0 rfl hH Cp ?_;refine Av 1 rfl hH Cp ?_;refine Av 2 rfl hH Cp ?_
          try simp only[AG]
          refine Av 3 rfl hH Cp ?_;refine Av 4 rfl hH Cp ?_;refine Av 5 rfl hH Cp ?_
          try simp only[AG]
          refine Av 6 rfl hH Cp ?_;refine Av 7 rfl hH Cp ?_;refine CJ 8 ((Ap Ag)) rfl hH EN ?_
          try simp only[AG]
          refine CJ 9 ((Ap Ag)) rfl hH EN ?_;refine Av 10 rfl hH Cp ?_;refine Av 11 rfl hH Cp ?_
          try simp only[AG]
          refine Bb [12] ?_;refine AT (λK hK=>?_) ?_
          ·go_simp;go_wp2_with (refine(Hm.out _).mono ?_;rintro e w4 ⟨rfl,f4⟩);refine hK.out _ _ (hH.tr f4) λhH=>?_;clear hK K;refine CJ 13 ((Ap Ag)) rfl hH EN ?_;refine CJ 14 ((Ap Ag)) rfl hH EN ?_;refine Av 15 rfl hH Cp ?_
           try simp only[AG]
           refine Av 16 rfl hH Cp ?_;refine Av 17 rfl hH Cp ?_;refine Av 18 rfl hH Cp ?_
           try simp only[AG]
           refine Av 19 rfl hH Cp ?_;refine Av 20 rfl hH Cp ?_;refine Av 21 rfl hH Cp ?_
           try simp only[AG]
           refine Av 22 rfl hH Cp ?_;refine Av 23 rfl hH Cp ?_;refine Av 24 rfl hH Cp ?_
           try simp only[AG]
           refine CJ 25 ((Ap b)) rfl hH EN ?_;refine CJ 26 ((Ap b)) rfl hH EN ?_;refine CT ?_
           cases b
           ·go_wp2
            go_roundw
            case rel=>exact⟨j+1,q,O,Bn,rfl,hQ,hqk,T (hW.out _ hH)⟩
            case measure=>simp[AM];omega
           ·go_wp2
            go_roundw
            case rel=>exact⟨j+1,j,O,Bn,rfl,T (Ah ⟨hjk,hr1,HXX.out⟩),O,T (hW.out _ hH)⟩
            case measure=>simp[AM];omega
          exact Bc
       ·obtain rfl:k=j:=O;have hSr:=T (hS2.out.fr0 hF2.out);have BR:=T (B8.out.fr hF2.out id);have FR:=T (F2.out.tr hF2.out);by_cases hqe:q=k
        ·subst hqe;have Hs:Hid (At Tryz.prog 195 #[↑gs,J U q] wi λe w'=>e=Ax (AF #[])∧Hid (∃kk:Nat,kk≤N∧tkB tt slot q kk N=Ac∧Sc w' ⟨gs,gR,gS,gi,cI⟩ N (upZ reg q (-1)) (upZ slot q kk) (max sl (kk+1)) tt∧Fr (λx=>x=gs∨x=gR∨x=gS) wi w')):=T ((ZA wi ⟨gs,gR,gS,gi,cI⟩ N sl q reg slot tt hSr.out hlt nN hsl).mono (λe w' h=>⟨h.1,T h.2⟩));go_wp2_with ((with_reducible refine Az Hs ?_);rintro e w5 ⟨rfl,hX⟩);go_roundw;case rel=>
          obtain⟨kk,hkk,hkf,hS5,f5⟩:=hX.out;exact⟨q+1,_,_,max sl (kk+1),O,Bn,O,T (hPI.out.inSlot (RM hkf (λi hi=>(hPI.out.none i O).2)) O),T hS5,T ((hF.out.tr (FR.out.mono (λ_ _ e=>e.elim))).tr f5)⟩
         case measure=>simp[AM];omega
        ·have hq2:q<k∧reg q≠ -1∧DE tt k q=Ag:=by
          rcases hQ.out with e|e;·exact absurd e hqe
          ·exact e
         have HQ2:=T hq2;have hqk2:q<k:=hq2.1;have hqN:q<N:=O;have c0:wi.cell? ⟨gs,0,G⟩=I (Z (I ⟨gR,0,G⟩) N N):=hSr.out.b.cell 0;have hgl:gs<↑wi:=hSr.out.b.lt;have rq:wi.cell? ⟨gR,q,G⟩=I (J U (reg q)):=Cells.cell hSr.out.r q hqN;have rk:wi.cell? ⟨gR,k,G⟩=I (J U (reg k)):=Cells.cell hSr.out.r k hlt;have yk:wi.frozen? ⟨gR,k,G⟩=Ac:=Cells.frozen hSr.out.r k;have hne:(q==k)=Ac:=by simpa using hqe
         have hne2:decide ((q:Int)=(k:Int))=Ac:=AA;have HS4:=T ((hSr.out.setR k (reg q)).fr0 (Ao Aj _).drew);clear hq2;go_upto_region 18 with(fail);go_still_tail 15,AL;go_upto_region 19 with(fail);have hlF:=T (((FR.out.mono (S':=λx=>x=gs∨x=gR∨x=gS) (λ_ _ e=>e.elim)).setCell (p:=⟨gR,k,G⟩) (Af (Ah (Af rfl))) (J U (reg q))).drew);generalize(wi.setCell ⟨gR,k,G⟩ (J U (reg q))).drew=w4 at*;clear c0 hgl rq rk yk;have Hs:Hid (At Tryz.prog 195 #[↑gs,J U q] w4 λe w'=>e=Ax (AF #[])∧Hid (∃kk:Nat,kk≤N∧tkB tt slot q kk N=Ac∧Sc w' ⟨gs,gR,gS,gi,cI⟩ N (upZ (upZ reg k (reg q)) q (-1)) (upZ slot q kk) (max sl (kk+1)) tt∧Fr (λx=>x=gs∨x=gR∨x=gS) w4 w')):=T ((ZA w4 ⟨gs,gR,gS,gi,cI⟩ N sl q (upZ reg k (reg q)) slot tt HS4.out hqN nN hsl).mono (λe w' h=>⟨h.1,T h.2⟩));go_wp2_with ((with_reducible refine Az Hs ?_);rintro e w5 ⟨rfl,hX⟩);go_roundw;case rel=>
          obtain⟨kk,hkk,hkf,hS5,f5⟩:=hX.out;exact⟨k+1,_,_,max sl (kk+1),O,Bn,O,T (hPI.out.swap HQ2.out.1 HQ2.out.2.1 HQ2.out.2.2 (RM hkf (λi hi=>(hPI.out.none i O).2)) O hMd.out.lv.lo),T hS5,T ((hF.out.tr hlF.out).tr f5)⟩
         case measure=>simp[AM];omega
    ·obtain rfl:N=k:=O;have t0:=ZH;have t1:wo.cell? ⟨gs,1,G⟩=I (Z (I ⟨gS,0,G⟩) N N):=hSc.out.b.cell 1;have t2:wo.cell? ⟨gs,2,G⟩=I (J U (sl:Int)):=hSc.out.b.cell 2;have hgl:gs<↑wo:=hSc.out.b.lt;have hb4:=HBT.out.fr hF.out (by rintro(e|e|e)<;>omega)
     have u0:=hb4.cell 0;have u1:=hb4.cell 1;have u2:=hb4.cell 2;have v0:=hb4.frozen 0;have v1:=hb4.frozen 1;have v2:=hb4.frozen 2;have hbl:=hb4.lt;go_wp2_with fail;have hb5:Blk (((wo.setCell ⟨↑w+1,0,G⟩ (Z (I ⟨gR,0,G⟩) N N)).setCell ⟨↑w+1,1,G⟩ (Z (I ⟨gS,0,G⟩) N N)).setCell ⟨↑w+1,2,G⟩ (J U (sl:Int))) (↑w+1) 256 #[Z (I ⟨gR,0,G⟩) N N,Z (I ⟨gS,0,G⟩) N N,J U (sl:Int)]:=((hb4.set_ 0 _).set_ 1 _).set_ 2 _;refine Bt (P9 rfl _ _ (w.heap.size+1) 256 _ _ (J .i64 0) rfl rfl hb5 Tryz.underlying256 rfl szPl) rfl ?_;have fe:Fr (λq=>q=w.heap.size+1) wo _:=(((Ao (λq=>q=w.heap.size+1) wo).setCell (p:=⟨↑w+1,0,G⟩) (.inl rfl) (Z (I ⟨gR,0,G⟩) N N)).setCell (p:=⟨↑w+1,1,G⟩) (.inl rfl) (Z (I ⟨gS,0,G⟩) N N)).setCell (p:=⟨↑w+1,2,G⟩) (.inl rfl) (J U (sl:Int));have hpo:=hPI.out;have hfr:=(F1.out.tr hMd.out.f).trans hF.out (λq hq e=>by
      have:↑w+1<gR:=O;rcases e with e|e|e<;>omega)
     refine⟨reg,slot,sl,gR,gS,tt,by rw[HN.out],PI.po (by rw[HN.out];exact hPI.out) hMd.out.lv,by rw[HN.out];exact hSc.out.r.fr fe (by show ¬gR=↑w+1;omega),by rw[HN.out];exact hSc.out.s.fr fe (by show ¬gS=↑w+1;omega),O,O,hfr.trans fe (λq hq e=>O)⟩
  ·have hz:p.code.length=0:=by rw[HN.out];omega
   have c3:wc.cell? ⟨gs,3,G⟩=I (Z A N cI):=hMd.out.b.cell 3;have t0:wc.cell? ⟨gs,0,G⟩=I (Z (I ⟨gR,0,G⟩) N N):=hMd.out.b.cell 0;have t1:wc.cell? ⟨gs,1,G⟩=I (Z (I ⟨gS,0,G⟩) N N):=hMd.out.b.cell 1;have t2:wc.cell? ⟨gs,2,G⟩=I (J .i64 0):=hMd.out.b.cell 2;have hgl:=hMd.out.b.lt;have u0:=HBT.out.cell 0;have u1:=HBT.out.cell 1;have u2:=HBT.out.cell 2;have v0:=HBT.out.frozen 0;have v1:=HBT.out.frozen 1;have v2:=HBT.out.frozen 2;have hbl:=HBT.out.lt;have g0:decide ((0:Int)<(N:Int))=Ac:=AA;go_wp2_with fail;go_loopw [40] (λi wr=>i=J U 0∧wr=wc) (λi _=>0)
   case atStart=>exact⟨rfl,rfl⟩
   case round=>
    obtain⟨rfl,rfl⟩:=hrel;go_wp2_with fail;have hb5:Blk (((wr.setCell ⟨↑w+1,0,G⟩ (Z (I ⟨gR,0,G⟩) N N)).setCell ⟨↑w+1,1,G⟩ (Z (I ⟨gS,0,G⟩) N N)).setCell ⟨↑w+1,2,G⟩ (J .i64 0)) (↑w+1) 256 #[Z (I ⟨gR,0,G⟩) N N,Z (I ⟨gS,0,G⟩) N N,J U 0]:=((HBT.out.set_ 0 _).set_ 1 _).set_ 2 _;refine Bt (P9 rfl _ _ (w.heap.size+1) 256 _ _ (J .i64 0) rfl rfl hb5 Tryz.underlying256 rfl szPl) rfl ?_;have fe:Fr (λq=>q=w.heap.size+1) wr _:=(((Ao (λq=>q=w.heap.size+1) wr).setCell (p:=⟨↑w+1,0,G⟩) (.inl rfl) (Z (I ⟨gR,0,G⟩) N N)).setCell (p:=⟨↑w+1,1,G⟩) (.inl rfl) (Z (I ⟨gS,0,G⟩) N N)).setCell (p:=⟨↑w+1,2,G⟩) (.inl rfl) (J .i64 0);refine⟨_,_,0,gR,gS,tt,by rw[HN.out];rfl,PI.po (by rw[hz];exact PI.start tt) hMd.out.lv,by rw[HN.out];exact hMd.out.r.fr fe (by omega),by rw[HN.out];exact hMd.out.s.fr fe (by omega),O,O,(F1.out.tr hMd.out.f).trans fe (λq hq e=>O)⟩
end Al
end Go.Proofs.YtdfegdoeebaagaaGreatDoor
