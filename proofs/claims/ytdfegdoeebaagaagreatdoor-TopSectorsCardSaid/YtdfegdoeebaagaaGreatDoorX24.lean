import Derived.Test.YtdfegdoeebaagaaGreatDoorX20
open Go.Value renaming slice→Z,int→J,tuple→AF,agg→A9
open Option renaming some→I,none→G
open Go.IntKind renaming i64→U,u32→V
open Go renaming World→Aa,Value→As,Calls→At,info_parts→Cj,maxLen→BQ,undef→BY
open Bool renaming false→Ac,true→Ag
open List renaming getD_eq_getElem?_getD→AS,getElem?_eq_getElem→BK,length_append→Cq,mem_map→BS,getElem?_take_of_lt→Dq,getElem_mem→CE,range→Cl,getElem?_append_right→Ex,length_cons→D8,getElem?_append_left→Ff,mem_cons→Dv,getElem_of_mem→GC,range_succ→Ic
open Go.Ending renaming returned→Ax
open And renaming intro→Ay
open Nat renaming le_refl→AD,le_trans→Bf
open Or renaming inl→Af,inr→Ah
open Go.Proofs.Tryz renaming underlying218→Gi
open Go.RowKit renaming intOf→AM
open Array renaming getElem?_toList→DV,getElem?_eq_some_iff→IK
set_option linter.all false
set_option maxHeartbeats 40000000
set_option maxRecDepth 1000000
open Go Go.RowKit
namespace Go.Proofs.YtdfegdoeebaagaaGreatDoor
namespace Lf
open Gs Sv Tr Em Ip
def IvX(w:Aa)(base:Nat)(A:Aw)(N cap:Nat)(tt:Nat→Nat):Prop:=0<N→ ∃g,A=I ⟨g,0,G⟩∧base≤g∧IvC w g cap N tt
def ivs(l:List Nat):List As:=l.flatMap λ(n:Nat)=>[J U (n:Int),J U (n:Int),J U (n:Int)]
theorem ivs_len(l:List Nat):(ivs l).length=l.length*3:=by
 induction l with
 |nil=>rfl
 |cons a l ih=>
  simp only[ivs,List.flatMap_cons,Cq,D8] at ih⊢;rw[ih];simp;omega
theorem Zw(l m:List Nat):ivs (l++m)=ivs l++ivs m:=by simp[ivs]
theorem ivs_one(l:List Nat): ∀u∈ivs l,u.oneCell'=Ag:=by
 intro u hu;obtain⟨i,_,hi⟩:=List.mem_flatMap.1 hu;simp only[Dv,List.not_mem_nil,or_false] at hi;rcases hi with rfl|rfl|rfl<;>rfl
theorem ivs_at(n:Nat): ∀i,i<n→(ivs (Cl n))[i*3]?=I (J U i)∧(ivs (Cl n))[i*3+1]?=I (J U i)∧(ivs (Cl n))[i*3+2]?=I (J U i):=by
 induction n with
 |zero=>intro i h;omega
 |succ n ih=>
  intro i hi;have hl:(ivs (Cl n)).length=n*3:=by rw[ivs_len,List.length_range]
  rw[Ic,Zw];by_cases h:i<n
  ·obtain⟨h0,h1,h2⟩:=ih i h;refine⟨?_, ?_, ?_⟩;·rw[Ff O];exact h0
   ·rw[Ff O];exact h1
   ·rw[Ff O];exact h2
  ·obtain rfl:i=n:=O;refine⟨?_, ?_, ?_⟩;·rw[Ex O,hl,show i*3 -i*3=0 by omega];rfl
   ·rw[Ex O,hl,show i*3+1 -i*3=1 by omega];rfl
   ·rw[Ex O,hl,show i*3+2 -i*3=2 by omega];rfl
variable{w:Aa}{base N c:Nat}{A:Aw}
theorem iv_own(h:w.ownsRow base 312 3 (Z A N c) N (ivs (Cl N))):IvX w base A N c (λn=>n):=by
 intro hN;obtain⟨g,cap,cur,e,hb,hB,hc,_,hs,ht⟩:=EQ h hN;injection e with e1 _ e3;subst e1 e3;refine⟨g,rfl,hb,⟨⟨λi=>cur.getD i BY,⟨cur,hB,hs,λi hi=>?_⟩,λi hi=>?_⟩,hc⟩⟩;·show cur[i]?=I (cur.getD i BY);rw[Array.getElem?_eq_getElem O];simp[Array.getD,show i<cur.size by omega]
 ·obtain⟨h0,h1,h2⟩:=ivs_at N i hi;have key: ∀j v,j<N*3→(ivs (Cl N))[j]?=I v→cur.getD j BY=v:=λj v hj he=>by
   rw[←ht,Dq hj,DV] at he;obtain⟨hh,e⟩:=IK.1 he;simp[Array.getD,hh,e]
  exact⟨key _ _ O h0,key _ _ O h1,key _ _ O h2⟩
variable{tt:Nat→Nat}
theorem IvX.fr0{w':Aa}(h:IvX w base A N c tt)(f:Fr Aj w w'):IvX w' base A N c tt:=λhN=>by
 obtain⟨g,e,hb,hc⟩:=h hN;exact⟨g,e,hb,hc.fr f id⟩
theorem IvX.of{g:Nat}(hg:base≤g)(h:IvC w g c N tt):IvX w base (I ⟨g,0,G⟩) N c tt:=λ_=>⟨g,rfl,hg,h⟩
theorem IvX.low{base':Nat}(h:IvX w base A N c tt)(hb:base'≤base):IvX w base' A N c tt:=λhN=>by
 obtain⟨g,e,h1,hc⟩:=h hN;exact⟨g,e,O,hc⟩
theorem IR(tt:Nat→Nat)(n m v:Nat):tt m≤upT tt n (max (tt n) v) m:=by
 unfold upT;by_cases h:m=n;·subst h;rw[An rfl];omega
 ·rw[Ae h];omega
theorem O3(tt:Nat→Nat)(n v:Nat):v≤upT tt n (max (tt n) v) n:=by
 unfold upT;rw[An rfl];omega
def UOk(p:Pg)(j:Nat)(tt:Nat→Nat):Prop:=(∀n,n≤tt n)∧ ∀i,i<j→3≤(Tr.at_ p.code i).op→i≤tt (Tr.at_ p.code i).a∧i≤tt (Tr.at_ p.code i).b
variable{p:Pg}{j:Nat}
theorem UOk.up(h:UOk p j tt)(n v:Nat):UOk p j (upT tt n (max (tt n) v)):=
 ⟨λm=>Bf (h.1 m) (IR tt n m v),λi hi ho=>⟨Bf (h.2 i hi ho).1 (IR tt n _ v),Bf (h.2 i hi ho).2 (IR tt n _ v)⟩⟩
theorem UOk.skip_(h:UOk p j tt)(ho:(Tr.at_ p.code j).op<3):UOk p (j+1) tt:=
 ⟨h.1,λi hi ho2=>by
  by_cases e:i=j;·subst e;omega
  ·exact h.2 i O ho2⟩
theorem UOk.next(h:UOk p j tt){a b:Nat}(ha:(Tr.at_ p.code j).a=a)(hb:(Tr.at_ p.code j).b=b){t1 t2:Nat→Nat}(h1:upT tt a (max (tt a) j)=t1)(h2:upT t1 b (max (t1 b) j)=t2):UOk p (j+1) t2:=by
 subst h1 h2;have hu:=(h.up a j).up b j;refine⟨hu.1,λi hi ho=>?_⟩;by_cases e:i=j;·subst e;rw[ha,hb];exact⟨Bf (O3 tt a i) (IR _ b a i),O3 _ b i⟩
 ·exact hu.2 i O ho
def D1(N:Nat)(l:List Nat)(j:Nat)(tt:Nat→Nat):Prop:= ∀i,i<j→N≤tt (l.getD i 0)
theorem D1.next{l:List Nat}(h:D1 N l j tt){n:Nat}(hn:l.getD j 0=n):D1 N l (j+1) (upT tt n (max (tt n) N)):=λi hi=>by
 by_cases e:i=j;·subst e;rw[hn];exact O3 tt n N
 ·exact Bf (h i O) (IR tt n _ N)
theorem D1.all{l:List Nat}(h:D1 N l l.length tt): ∀n∈l,N≤tt n:=λn hn=>by
 obtain⟨i,hi,e⟩:=GC hn;have:=h i hi;rwa[AS,BK hi,Option.getD_some,e] at this
def D2(N:Nat)(x:Int)(tt:Nat→Nat):Prop:=0≤x→N≤tt x.toNat
structure D3(p:Pg)(k:Nat)(tt:Nat→Nat):Prop where
 u:UOk p p.code.length tt
 od:1≤k→ ∀n∈p.od,p.code.length≤tt n
 or:2≤k→ ∀n∈p.or,p.code.length≤tt n
 fl:3≤k→D2 p.code.length p.fl tt
 tg:4≤k→D2 p.code.length p.tg tt
theorem D3.up{k:Nat}(h:D3 p k tt)(n v:Nat):D3 p k (upT tt n (max (tt n) v)):=
 ⟨h.u.up n v,λhk m hm=>Bf (h.od hk m hm) (IR _ _ _ _),λhk m hm=>Bf (h.or hk m hm) (IR _ _ _ _),λhk h0=>Bf (h.fl hk h0) (IR _ _ _ _),λhk h0=>Bf (h.tg hk h0) (IR _ _ _ _)⟩
theorem D3.lv(h:D3 p 4 tt):LV p tt:=⟨h.u.1,h.u.2,h.od O,h.or O,h.fl O,h.tg O⟩
theorem D3.fst(hN:p.code.length=N)(h:D3 p 0 tt)(h2:D1 N p.od p.od.length tt):D3 p 1 tt:=⟨h.u,λ_=>by rw[hN];exact h2.all,λh=>absurd h O,λh=>absurd h O,λh=>absurd h O⟩
theorem D3.snd(hN:p.code.length=N)(h:D3 p 1 tt)(h2:D1 N p.or p.or.length tt):D3 p 2 tt:=⟨h.u,λ_=>h.od O,λ_=>by rw[hN];exact h2.all,λh=>absurd h O,λh=>absurd h O⟩
theorem D3.thd(h:D3 p 2 tt)(h2:D2 p.code.length p.fl tt):D3 p 3 tt:=⟨h.u,λ_=>h.od O,λ_=>h.or O,λ_=>h2,λh=>absurd h O⟩
theorem D3.fth(h:D3 p 3 tt)(h2:D2 p.code.length p.tg tt):D3 p 4 tt:=⟨h.u,λ_=>h.od O,λ_=>h.or O,λ_=>h.fl O,λ_=>h2⟩
theorem D2.neg{x:Int}(h:x= -1):D2 N x tt:=λh0=>O
theorem D2.pos{x:Int}{n:Nat}(h:x=n):D2 N x (upT tt n (max (tt n) N)):=λh0=>by
 have:x.toNat=n:=O;rw[this];exact O3 tt n N
def kk(k:Nat):Nat:=if k=3 then 4 else k
theorem use_x(W:Aa)(base gv c N:Nat)(A:Aw)(tt:Nat→Nat)(n v:Nat)(hn:n<N)(hN:N≤64)(hne:(Z A N c).ownBlock≠I gv)(hI:IvX W base A N c tt)(hv:Blk W gv 307 #[Z A N c]):At Tryz.prog 229 #[J U n,J U v,↑gv] W λe w'=>e=Ax (AF #[])∧IvX w' base A N c (upT tt n (max (tt n) v))∧Fr (λq=>0<N∧ab A=I q) W w':=by
 obtain⟨g,rfl,hg,hi⟩:=hI O;have hgn:gv≠g:=λe=>hne Jm;refine(R0 W gv g c N tt hi (hv.cell 0) hv.lt hgn n v hn hN).mono ?_;rintro e w' ⟨rfl,h2,f2⟩;exact⟨rfl,IvX.of hg h2,f2.mono (λq _ e=>⟨O,by have:=e;subst this;rfl⟩)⟩
theorem info3:(Tryz.prog.info? 312).map (λi=>(i.zero,i.size,i.bytes))=I (I (A9 #[J U 0,J U 0,J U 0]),3,24):=AL
theorem of_yes(w:Aa)(B:Nat)(p:Pg)(v:Pv)(h:PgR w B p v)(hw:WF p):At Tryz.prog 192 #[A9 (pgA p v)] w λe w'=> ∃A cap tt,e=Ax (Z A p.code.length cap)∧LV p tt∧IvX w' ↑w A p.code.length cap tt∧Fr Aj w w':=by
 obtain⟨C,cc,D,cd,R,cr⟩:=v;obtain⟨i0,hi0,hz0,hz1,hz2⟩:=Cj info3;have hmf:=RI;have H:=T h;have HW:=T hw;have n64:=hw.len;obtain⟨N,hN⟩:=A8 p.code.length;have b0:=AI w 218 (pgA p ⟨C,cc,D,cd,R,cr⟩);have f0:=YP;have HN:=T hN;have hr:=T (right_yes _ B p _ (h.fr0 f0) hw);have bb:=b0;have B0:=T b0;have F0:=T f0;clear h hw f0 b0;go_in;go_wp2_with ((with_reducible refine wpL_lq bb Gi Ec ?_));refine Az hr ?_;rintro e w1 ⟨rfl,f1⟩;have b1:=B0.out.fr f1 id;have F1:=T (F0.out.tr f1);have x13:w1.cell? ⟨↑w,13,G⟩=I (J .i64 N):=(b1.cell 13).trans Zx;have hlx:=b1.lt;have hsz:w.heap.size<w1.heap.size:=hlx;have B1:=T b1;have ob:=AI w1 307 #[Z G 0 0];have OB:=T ob;clear bb f1 hr B0 F0 b1 ob;go_wp2_with fail;obtain⟨gv,hgv⟩:=A8 w1.heap.size;rw[hgv] at OB hlx⊢;have HGV:=T hgv;clear hgv;go_loopw [17] (λi wr=> ∃(k:Nat) (A:Aw) (c:Nat),k≤N∧i=J U k∧Hid (Blk wr gv 307 #[Z A k c])∧Hid (wr.ownsRow ↑w1 312 3 (Z A k c) k (ivs (Cl k)))∧Hid (Fr Aj w1 wr)) (λi _=>N -(AM i).toNat)
 case atStart=>exact⟨0,G,0,O,rfl,OB,T ⟨rfl,Af ⟨rfl,rfl⟩⟩,T ((Ao _ w1).alloc _)⟩
 case round=>
  obtain⟨k,A,c,hk,rfl,hB,hO,hF⟩:=hrel;by_cases hlt:k<N
  ·have c0:=hB.out.cell 0;have y0:=hB.out.frozen 0;have hgl:=hB.out.lt;have ho2:=T (DU hO.out (.cells #[J U (k:Int),J U (k:Int),J U (k:Int)] 312));have bk:Blk (wr.alloc (.cells #[J U (k:Int),J U (k:Int),J U (k:Int)] 312)) ↑wr 312 #[J U (k:Int),J U (k:Int),J U (k:Int)]:=AI _ _ _;have hrd2:Hid (Reads (wr.alloc (.cells #[J U (k:Int),J U (k:Int),J U (k:Int)] 312)) (↑wr+1) 3 (I ⟨↑wr,0,G⟩) 1 (ivs [k])):=T (by
    have:=Do (size:=3) (n:=1) bk AC;simpa[ivs] using this)
   have hs1:w1.heap.size≤wr.heap.size:=hF.out.size;have HB2:=T (hB.out.alloc (.cells #[J U (k:Int),J U (k:Int),J U (k:Int)] 312));have HF2:=T (hF.out.alloc (.cells #[J U (k:Int),J U (k:Int),J U (k:Int)] 312));have hne:=T (AZ hO.out hB.out Ak);clear bk;go_wp2_with
    (at_builtin
     refine CU _ rfl (.tmp 20) (.tmp 25) _ rfl w1.heap.size 312 i0 _ 3 24 Tryz.underlying307 hi0 hz0 hz1 hz2 rfl O (Z A k c) k (ivs (Cl k)) rfl ho2.out (wr.heap.size+1) (I ⟨wr.heap.size,0,G⟩) 1 1 (ivs [k]) rfl hrd2.out (ivs_one _) Cc O AA ?_
     intro v1 w3 hown1 hg1 hat1
     obtain⟨A3,c3,rfl⟩:=Et hown1
     have b3:=HB2.out.fr (S:=λq=>(Z A k c).ownBlock=I q) ((Ao _ _).grown hg1 (λq hq=> Af hq)) hne.out
     have HX:=T (Ay hown1 (Ay hg1 (Ay hat1 b3)))
     have y3:=b3.frozen 0
     have hgl3:=b3.lt
     have c3':=b3.cell 0
     clear hown1 hg1 hat1 b3)
   go_roundw;case rel=>
    obtain⟨o1,hg1,hat,b3⟩:=HX.out;have b4:=b3.set_ 0 (Z A3 (k+1) c3);refine⟨k+1,A3,c3,O,Bn,T b4,T ?_,T ?_⟩;·rw[Ic,Zw];exact AR o1 (Br _ gv 0 _) (λq hq e=>AZ o1 b3 Ak (by rw[hq,e]))
    ·have:=HF2.out.grown hg1 (λq hq=> Ah (Cn hO.out q hq));exact this.setCell (Ah (by have:=HGV.out;show ↑w1≤gv;omega)) _
   case measure=>simp[AM];omega
  ·have hkN:N=k:=O;subst hkN;have bp:=B1.out.fr hF.out id;have HR:=T (H.out.fr0 (F1.out.tr hF.out));have xp0:=Zy;have HIV:=T (iv_own hO.out);have HNE:=T (AZ hO.out hB.out Ak);have hxl:=bp.lt;have HU:Hid (UOk p 0 (λn=>n)):=T ⟨λn=>AD n,λi hi=>absurd hi O⟩;have HF1:=T (F1.out.tr hF.out);clear hlt hO OB x13 hF;have HB1:=T bp;obtain⟨wo,rfl⟩: ∃wo:Aa,wo=wr:=⟨_,rfl⟩;go_wp2_with fail;go_loopw [32] (λi wr=> ∃(j:Nat) (tt:Nat→Nat),j≤N∧i=J U j∧Hid (UOk p j tt)∧Hid (IvX wr ↑w1 A N c tt)∧Hid (Fr (λq=>w1.heap.size<q) wo wr)∧Hid (Fr Aj w wr)) (λi _=>N -(AM i).toNat)
   case atStart=>exact⟨0,_,O,rfl,HU,HIV,T (Ao _ _),HF1⟩
   case round=>
    obtain⟨j,tt,hj,rfl,hU,hI,hO,hF⟩:=hrel;by_cases hlt:j<N
    ·have hgo:=hB.out.lt;have hv:=(hB.out.fr hO.out RJ).cell 0;have hvl:=(hB.out.fr hO.out RJ).lt;have bp:=HB1.out.fr hO.out Zz;have hjc:j<p.code.length:=by rw[hN];exact hlt
     obtain⟨b,off,hC,hb,c0,c1,c2,c3,c4⟩:=(H.out.fr0 hF.out).code j hjc;have hm:=HW.out.code j hjc;have hU1:(Tr.at_ p.code j).op<3→UOk p (j+1) tt:=hU.out.skip_;have hU2: ∀a b,(Tr.at_ p.code j).a=a→(Tr.at_ p.code j).b=b→UOk p (j+1) (upT (upT tt a (max (tt a) j)) b (max ((upT tt a (max (tt a) j)) b) j)):=λa b ha hb=>hU.out.next ha hb rfl rfl;have HU2:=T hU2;have HU1:=T hU1;obtain⟨x,hx⟩:=A8 (Tr.at_ p.code j);rw[hx] at c0 c1 c2 c3 c4 hm HU1 HU2;have hop:=hm.op;have hab:=hm.ab;obtain⟨op,dst,xa,xb,imm⟩:=x;dsimp only at hC c0 c1 c2 c3 c4 hop hab HU1 HU2;subst hC;obtain⟨g,rfl,hgb,hIC⟩:=hI.out O;have hgne:gv≠g:=λe=>HNE.out Jm;have HIC:=T hIC;clear hm hx hU1 hU2 hIC hgo hU;rcases(show op=0∨op=1∨op=2∨op=3∨op=4 by omega) with rfl|rfl|rfl|rfl|rfl;·exact RK
     ·exact RK
     ·exact RK
     ·obtain⟨ha,hb2⟩:=hab O;obtain⟨W1,hW1⟩:=A8 (wr.alloc (.cells #[J U 3,J U dst,J U xa,J U xb,J V imm] 266));have fW:=Z0;have bW:Blk W1 ↑wr 266 #[J U 3,J U dst,J U xa,J U xb,J V imm]:=Z1;exact Z2
     ·obtain⟨ha,hb2⟩:=hab O;obtain⟨W1,hW1⟩:=A8 (wr.alloc (.cells #[J U 4,J U dst,J U xa,J U xb,J V imm] 266));have fW:=Z0;have bW:Blk W1 ↑wr 266 #[J U 4,J U dst,J U xa,J U xb,J V imm]:=Z1;exact Z2
    ·have hjN:N=j:=O;subst hjN;have hgvl:=HGV.out;have gv1:=hB.out.fr hO.out (by show ¬↑w1<gv;omega);have bp:=HB1.out.fr hO.out Zz;have xp0:=Zy;have xp5:=bp.cell 5;have xp6:=bp.cell 6;have xp7:=bp.cell 7;have xp9:=bp.cell 9;have hxl:=bp.lt;clear hlt;go_wp2_with fail;obtain⟨W5,hW5⟩:=A8 ((wr.alloc (.cells #[J U p.fl,J U p.tg] 3)).alloc (.cells #[Z D p.od.length cd,Z R p.or.length cr,Z (I ⟨↑wr,0,G⟩) 2 2] 85));have f5:Fr Aj wr W5:=by rw[←hW5];exact((Ao _ wr).alloc _).alloc _
     have br5:Blk W5 (↑wr+1) 85 #[Z D p.od.length cd,Z R p.or.length cr,Z (I ⟨↑wr,0,G⟩) 2 2]:=by rw[←hW5];exact CK _ _ _ (by simp)
     have bf5:Blk W5 ↑wr 3 #[J U p.fl,J U p.tg]:=by rw[←hW5];exact(AI _ _ _).alloc _
     have hA: ∀q,0<N→ab A=I q→w1.heap.size<q∧q<wr.heap.size:=λq h0 hq=>by
      obtain⟨g,rfl,hg,hi⟩:=hI.out h0;have e:g=q:=by simpa[ab] using hq
      subst e;have hgn:gv≠g:=λe=>HNE.out Jm;exact⟨O,hi.lt⟩
     have HA:=T hA;have BR:=T br5;have BF:=T bf5;have GV:=T (gv1.fr f5 id);have BP:=T (bp.fr f5 id);have IV:=T (hI.out.fr0 f5);have FW:=T (hF.out.tr f5);have HP:=T (H.out.fr0 (hF.out.tr f5));have hbw:=H.out.hB;have hD0:Hid (D3 p (kk 0) tt):=T ⟨by rw[hN];exact hU.out,λh=>absurd h Ak,λh=>absurd h Ak,λh=>absurd h Ak,λh=>absurd h Ak⟩;rw[hW5];obtain⟨gr,hgr⟩:=A8 (wr.heap.size+1);rw[hgr] at BR⊢;clear br5 bf5 f5 hI hO hF hU hA HU hB HR HIV HF1 HB1;clear xp0 xp5 xp6 xp7 xp9 hxl gv1 bp hW5;obtain⟨wb,rfl⟩: ∃wb:Aa,wb=wr:=⟨_,rfl⟩;go_loopw [67] (λi wr=> ∃(k:Nat) (tt:Nat→Nat),k≤3∧i=J U k∧Hid (D3 p (kk k) tt)∧Hid (IvX wr ↑w1 A N c tt)∧Hid (Fr (λq=>0<N∧ab A=I q) W5 wr)) (λi _=>3 -(AM i).toNat)
     case atStart=>exact⟨0,tt,O,rfl,hD0,IV,T (Ao _ _)⟩
     case round=>
      obtain⟨k,tt,hk,rfl,hD,hI,hF⟩:=hrel;have q6:=HW.out.odl;have q7:=HW.out.orl;have hbr:=BR.out.fr hF.out IS;have r0:=hbr.cell 0;have r1:=hbr.cell 1;have r2:=hbr.cell 2;have hrl:=hbr.lt;clear hbr;rcases(show k=0∨k=1∨k=2∨k=3 by omega) with rfl|rfl|rfl|rfl
      ·obtain⟨wk,rfl⟩: ∃wk:Aa,wk=wr:=⟨_,rfl⟩;go_wp2_with fail;clear r0 r1 r2 hrl;go_loopw [73] (λi wr=> ∃(j:Nat) (tt:Nat→Nat),j≤p.od.length∧i=J U j∧Hid (D3 p 0 tt∧D1 N p.od j tt)∧Hid (IvX wr ↑w1 A N c tt)∧Hid (Fr (λq=>0<N∧ab A=I q) W5 wr)) (λi _=>p.od.length -(AM i).toNat)
       case atStart=>exact⟨0,tt,O,rfl,T ⟨hD.out,λi hi=>absurd hi O⟩,hI,hF⟩
       case round=>
        obtain⟨j,t2,hj2,rfl,hD2,hI2,hF2⟩:=hrel;by_cases hjl:j<p.od.length
        ·have hP2:=HP.out.fr hF2.out Z6;obtain⟨b,o,c',e',hc',hcell⟩:=(hP2.od).cell hjl;injection e' with e1 e2 e3;dsimp only at e1 e3;subst e1 e3;have hmem:p.od.getD j 0<N:=by
          rw[←hN];exact HW.out.od _ Oq
         have gvw:=GV.out.fr hF2.out IS;have bpw:=BP.out.fr hF2.out IS;have xp0:=RL;have hxl:=bpw.lt;have HD1:Hid (∀n,p.od.getD j 0=n→D3 p 0 (upT t2 n (max (t2 n) N))∧D1 N p.od (j+1) (upT t2 n (max (t2 n) N))):=T (λn hn=>⟨hD2.out.1.up n N,hD2.out.2.next hn⟩);obtain⟨x,hx⟩:=A8 (p.od.getD j 0);exact Z7
        ·have hjk:j=p.od.length:=O;have HDN:Hid (D3 p (kk 1) t2):=T (D3.fst hN hD2.out.1 (by rw[←hjk];exact hD2.out.2));subst hjk;clear hjl
         go_wp2
         go_roundw
         case rel=>exact⟨1,t2,O,Bn,HDN,hI2,hF2⟩
         case measure=>simp[AM]
      ·obtain⟨wk,rfl⟩: ∃wk:Aa,wk=wr:=⟨_,rfl⟩;go_wp2_with fail;clear r0 r1 r2 hrl;go_loopw [73] (λi wr=> ∃(j:Nat) (tt:Nat→Nat),j≤p.or.length∧i=J U j∧Hid (D3 p 1 tt∧D1 N p.or j tt)∧Hid (IvX wr ↑w1 A N c tt)∧Hid (Fr (λq=>0<N∧ab A=I q) W5 wr)) (λi _=>p.or.length -(AM i).toNat)
       case atStart=>exact⟨0,tt,O,rfl,T ⟨hD.out,λi hi=>absurd hi O⟩,hI,hF⟩
       case round=>
        obtain⟨j,t2,hj2,rfl,hD2,hI2,hF2⟩:=hrel;by_cases hjl:j<p.or.length
        ·have hP2:=HP.out.fr hF2.out Z6;obtain⟨b,o,c',e',hc',hcell⟩:=(hP2.or).cell hjl;injection e' with e1 e2 e3;dsimp only at e1 e3;subst e1 e3;have hmem:p.or.getD j 0<N:=by
          rw[←hN];exact HW.out.or _ Oq
         have gvw:=GV.out.fr hF2.out IS;have bpw:=BP.out.fr hF2.out IS;have xp0:=RL;have hxl:=bpw.lt;have HD1:Hid (∀n,p.or.getD j 0=n→D3 p 1 (upT t2 n (max (t2 n) N))∧D1 N p.or (j+1) (upT t2 n (max (t2 n) N))):=T (λn hn=>⟨hD2.out.1.up n N,hD2.out.2.next hn⟩);obtain⟨x,hx⟩:=A8 (p.or.getD j 0);exact Z7
        ·have hjk:j=p.or.length:=O;have HDN:Hid (D3 p (kk 2) t2):=T (D3.snd hN hD2.out.1 (by rw[←hjk];exact hD2.out.2));subst hjk;clear hjl
         go_wp2
         go_roundw
         case rel=>exact⟨2,t2,O,Bn,HDN,hI2,hF2⟩
         case measure=>simp[AM]
      ·obtain⟨wk,rfl⟩: ∃wk:Aa,wk=wr:=⟨_,rfl⟩;go_wp2_with fail;clear r0 r1 r2 hrl;go_loopw [73] (λi wr=> ∃(j:Nat) (tt:Nat→Nat),j≤2∧i=J U j∧Hid (D3 p (2+j) tt)∧Hid (IvX wr ↑w1 A N c tt)∧Hid (Fr (λq=>0<N∧ab A=I q) W5 wr)) (λi _=>2 -(AM i).toNat)
       case atStart=>exact⟨0,tt,O,rfl,hD,hI,hF⟩
       case round=>
        obtain⟨j,t2,hj2,rfl,hD2,hI2,hF2⟩:=hrel;have gvw:=GV.out.fr hF2.out IS;have bpw:=BP.out.fr hF2.out IS;have xp0:=RL;have hxl:=bpw.lt;have bf:=BF.out.fr hF2.out IS;have hbl:=bf.lt;have hfl:=HW.out.fl;have htg:=HW.out.tg;rw[hN] at hfl htg;clear bpw;rcases(show j=0∨j=1∨j=2 by omega) with rfl|rfl|rfl
        ·rcases hfl with e0|⟨e0,e1⟩
         ·have u0:wr.cell? ⟨↑wb,0,G⟩=I (J U (-1)):=(bf.cell 0).trans (by show I (J U p.fl)=_;rw[e0]);have HDN:Hid (D3 p (2+1) t2):=T (D3.thd hD2.out (D2.neg e0));clear e0 htg bf;go_wp2_with fail;refine(YY _ (-1) N _ O).mono ?_;rintro e w' ⟨rfl,rfl⟩
          go_wp2
          go_roundw
          case rel=>exact⟨_,_,_,_,_,_,_,_,_,_,_,_,⟨1,t2,O,rfl,HDN,hI2,hF2⟩,rfl⟩
          case measure=>simp[AM]
         ·obtain⟨n,hn⟩: ∃n:Nat,p.fl=n:=⟨p.fl.toNat,O⟩;have u0:wr.cell? ⟨↑wb,0,G⟩=I (J U (n:Int)):=(bf.cell 0).trans (by show I (J U p.fl)=_;rw[hn]);have hnN:n<N:=O;have HDN:Hid (D3 p (2+1) (upT t2 n (max (t2 n) N))):=T (D3.thd (hD2.out.up n N) (by rw[hN];exact D2.pos hn));clear e0 e1 htg bf hn;go_wp2_with fail;refine(use_x wr ↑w1 gv c N A t2 n N hnN O HNE.out hI2.out gvw).mono ?_;rintro e w' ⟨rfl,h3,f3⟩;have HX:=T (Ay h3 f3);clear h3 f3
          go_wp2
          go_roundw
          case rel=>exact⟨_,_,_,_,_,_,_,_,_,_,_,_,⟨1,_,O,rfl,HDN,T HX.out.1,T (hF2.out.tr HX.out.2)⟩,rfl⟩
          case measure=>simp[AM]
        ·rcases htg with e0|⟨e0,e1⟩
         ·have u0:wr.cell? ⟨↑wb,1,G⟩=I (J U (-1)):=(bf.cell 1).trans (by show I (J U p.tg)=_;rw[e0]);have HDN:Hid (D3 p (2+2) t2):=T (D3.fth hD2.out (D2.neg e0));clear e0 hfl bf;go_wp2_with fail;refine(YY _ (-1) N _ O).mono ?_;rintro e w' ⟨rfl,rfl⟩
          go_wp2
          go_roundw
          case rel=>exact⟨_,_,_,_,_,_,_,_,_,_,_,_,⟨2,t2,O,rfl,HDN,hI2,hF2⟩,rfl⟩
          case measure=>simp[AM]
         ·obtain⟨n,hn⟩: ∃n:Nat,p.tg=n:=⟨p.tg.toNat,O⟩;have u0:wr.cell? ⟨↑wb,1,G⟩=I (J U (n:Int)):=(bf.cell 1).trans (by show I (J U p.tg)=_;rw[hn]);have hnN:n<N:=O;have HDN:Hid (D3 p (2+2) (upT t2 n (max (t2 n) N))):=T (D3.fth (hD2.out.up n N) (by rw[hN];exact D2.pos hn));clear e0 e1 hfl bf hn;go_wp2_with fail;refine(use_x wr ↑w1 gv c N A t2 n N hnN O HNE.out hI2.out gvw).mono ?_;rintro e w' ⟨rfl,h3,f3⟩;have HX:=T (Ay h3 f3);clear h3 f3
          go_wp2
          go_roundw
          case rel=>exact⟨_,_,_,_,_,_,_,_,_,_,_,_,⟨2,_,O,rfl,HDN,T HX.out.1,T (hF2.out.tr HX.out.2)⟩,rfl⟩
          case measure=>simp[AM]
        ·have HDN:Hid (D3 p (kk 3) t2):=T hD2.out;clear hfl htg bf
         go_wp2
         go_roundw
         case rel=>exact⟨3,t2,O,rfl,HDN,hI2,hF2⟩
         case measure=>simp[AM]
      ·have gvw:=GV.out.fr hF.out IS;have c0:=gvw.cell 0;have hgl:=gvw.lt;clear r0 r1 r2 hrl gvw
       go_wp2
       go_ret;refine⟨A,c,tt,by rw[HN.out];rfl,hD.out.lv, ?_,FW.out.trans hF.out (λq hq e=>by have:=HA.out _ e.1 e.2;omega)⟩;rw[HN.out];exact hI.out.low O
end Lf
namespace Tr
open Gs
def tkB(tt:Nat→Nat)(pl:Nat→Int)(n:Nat)(k:Int):Nat→Bool
 |0=>Ac
 |j+1=>tkB tt pl n k j||(decide (pl j=k)&&DE tt j n)
variable{tt:Nat→Nat}{pl:Nat→Int}{n:Nat}
theorem tkB_no{k:Int}: ∀{j:Nat},tkB tt pl n k j=Ac→ ∀i,i<j→pl i=k→DE tt i n=Ac
 |0,_,i,hi,_=>absurd hi O
 |j+1,h,i,hi,e=>by
  simp only[tkB,Bool.or_eq_false_iff] at h;by_cases e2:i=j;·subst e2;have:=h.2;simpa[e] using this
  ·exact tkB_no h.1 i O e
theorem tkB_of{k:Int}: ∀{j:Nat},(∀i,i<j→pl i≠k)→tkB tt pl n k j=Ac
 |0,_=>rfl
 |j+1,h=>by
  simp only[tkB,Bool.or_eq_false_iff];exact⟨tkB_of (λi hi=>h i O),by simp[h j (by omega)]⟩
theorem pigL: ∀(n:Nat) (l:List Int),l.length=n→ ∃k:Nat,k≤n∧(k:Int)∉l
 |0,l,h=>⟨0,AD _,by rw[List.eq_nil_of_length_eq_zero h];simp⟩
 |n+1,l,h=>by
  by_cases hm:((n+1:Nat):Int)∈l;·obtain⟨k,hk,hn⟩:=pigL n (l.erase ((n+1:Nat):Int)) (by rw[List.length_erase_of_mem hm,h];rfl);refine⟨k,O,λhc=>hn ?_⟩;exact(List.mem_erase_of_ne O).2 hc
  ·exact⟨n+1,AD _,hm⟩
theorem free_is(tt:Nat→Nat)(pl:Nat→Int)(n N:Nat): ∃m:Nat,m≤N∧tkB tt pl n m N=Ac:=by
 obtain⟨k,hk,hn⟩:=pigL N ((Cl N).map pl) AC;refine⟨k,hk,tkB_of (λi hi e=>hn ?_)⟩;rw[←e];exact BS.2 ⟨i,List.mem_range.2 hi,rfl⟩
theorem RM{N:Nat}{k:Nat}(h:tkB tt pl n k N=Ac)(hp: ∀i,N≤i→pl i= -1):Ou tt pl n k:=
 ⟨O,λi e=>by
  by_cases hi:i<N;·exact tkB_no h i hi e
  ·have:=hp i O;omega⟩
end Tr
end Go.Proofs.YtdfegdoeebaagaaGreatDoor
