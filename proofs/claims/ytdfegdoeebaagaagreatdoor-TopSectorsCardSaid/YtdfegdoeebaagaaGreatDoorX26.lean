import Derived.Test.YtdfegdoeebaagaaGreatDoorX25
open Go.Value renaming slice→Z,int→J,tuple→AF
open Option renaming some→I,none→G
open Go.IntKind renaming i64→U,u64→AP,wrap_u64→Gg
open Go renaming World→Aa,Value→As,Calls→At,wp_region_held_drew→C7,info_parts→Cj,madeCells→CH,bits→Bv
open Bool renaming false→Ac
open List renaming getD_eq_getElem?_getD→AS,getElem?_map→DP,getElem?_eq_none→Ew,replicate→DL,getElem?_range→IL
open Go.Ending renaming returned→Ax
open And renaming intro→Ay
open Nat renaming le_refl→AD,zero_add→BW
open Or renaming inl→Af
open Go.Proofs.Tryz renaming underlying85→FV
open Go.RowKit renaming intOf→AM
open Int renaming toNat_natCast→Du
open Go.Instr renaming makeSlice→Fp
set_option linter.all false
set_option maxHeartbeats 40000000
set_option maxRecDepth 1000000
open Go Go.RowKit
namespace Go.Proofs.YtdfegdoeebaagaaGreatDoor
namespace Al
open Gs Sv Tr Em Ip Lf
def RowC(w:Aa)(g N:Nat)(pl:Nat→Int):Prop:=Cells w g 3 N (λi=> J U (pl i))
variable{g:Nat}{pl:Nat→Int}
theorem RowC.set_{w:Aa}{N:Nat}(h:RowC w g N pl)(i:Nat)(v:Int):RowC (w.setCell ⟨g,i,G⟩ (J U v)) g N (upZ pl i v):=
 (Cells.set_ h i (J U v)).congr (λj _=>by
  unfold Bz upZ;by_cases e:j=i;·simp[e]
  ·simp[e])
theorem RowC.i{w:Aa}{N:Nat}(h:RowC w g N pl):RowI w g N pl:=⟨h.lt,λi hi=>h.cell i hi⟩
theorem RowC.fr{w w':Aa}{N:Nat}{S:AE}(h:RowC w g N pl)(f:Fr S w w')(hs: ¬S g):RowC w' g N pl:=Cells.fr h f hs
structure Sp where
 gs:Nat
 gR:Nat
 gS:Nat
 gi:Nat
 cI:Nat
structure Sc(w:Aa)(p:Sp)(N:Nat)(reg slot:Nat→Int)(sl:Nat)(tt:Nat→Nat):Prop where
 b:Blk w p.gs 310 #[Z (I ⟨p.gR,0,G⟩) N N,Z (I ⟨p.gS,0,G⟩) N N,J U sl,Z (I ⟨p.gi,0,G⟩) N p.cI]
 r:RowC w p.gR N reg
 s:RowC w p.gS N slot
 i:IvC w p.gi p.cI N tt
 n1:p.gR≠p.gS
 n2:p.gs≠p.gR
 n3:p.gs≠p.gS
 n4:p.gi≠p.gs
 n5:p.gi≠p.gR
 n6:p.gi≠p.gS
def Sp.its(p:Sp)(k:Nat):Prop:=k=p.gs∨k=p.gR∨k=p.gS
section
variable {w w':Aa} {p:Sp} {N sl:Nat} {reg slot:Nat→Int} {tt:Nat→Nat} {S:AE}
theorem Sc.fr0(h:Sc w p N reg slot sl tt)(f:Fr Aj w w'):Sc w' p N reg slot sl tt:=
 ⟨h.b.fr f id,h.r.fr f id,h.s.fr f id,h.i.fr f id,h.n1,h.n2,h.n3,h.n4,h.n5,h.n6⟩
theorem Sc.setR(h:Sc w p N reg slot sl tt)(i:Nat)(v:Int):Sc (w.setCell ⟨p.gR,i,G⟩ (J U v)) p N (upZ reg i v) slot sl tt:=
 ⟨h.b.fr (Br w p.gR i _) h.n2,h.r.set_ i v,h.s.fr (Br w p.gR i _) (λe=>h.n1 e.symm),h.i.fr (Br w p.gR i _) h.n5,h.n1,h.n2,h.n3,h.n4,h.n5,h.n6⟩
theorem Sc.setS(h:Sc w p N reg slot sl tt)(i:Nat)(v:Int):Sc (w.setCell ⟨p.gS,i,G⟩ (J U v)) p N reg (upZ slot i v) sl tt:=
 ⟨h.b.fr (Br w p.gS i _) h.n3,h.r.fr (Br w p.gS i _) h.n1,h.s.set_ i v,h.i.fr (Br w p.gS i _) h.n6,h.n1,h.n2,h.n3,h.n4,h.n5,h.n6⟩
theorem Sc.setL(h:Sc w p N reg slot sl tt)(v:Nat):Sc (w.setCell ⟨p.gs,2,G⟩ (J U v)) p N reg slot v tt:=
 ⟨h.b.set_ 2 _,h.r.fr (Br w p.gs 2 _) (λe=>h.n2 e.symm),h.s.fr (Br w p.gs 2 _) (λe=>h.n3 e.symm),h.i.fr (Br w p.gs 2 _) h.n4,h.n1,h.n2,h.n3,h.n4,h.n5,h.n6⟩
end
theorem ZA(w:Aa)(p:Sp)(N sl q:Nat)(reg slot:Nat→Int)(tt:Nat→Nat)(h:Sc w p N reg slot sl tt)(hq:q<N)(hN:N≤64)(hsl:sl≤65):At Tryz.prog 195 #[↑p.gs,J U q] w λe w'=>e=Ax (AF #[])∧ ∃k:Nat,k≤N∧tkB tt slot q k N=Ac∧Sc w' p N (upZ reg q (-1)) (upZ slot q k) (max sl (k+1)) tt∧Fr p.its w w':=by
 have HS1:=T (h.setR q (-1));have c0:=h.b.cell 0;have hl0:=h.b.lt;have y0:=h.r.frozen q;have r0:w.cell? ⟨p.gR,q,G⟩=I (J U (reg q)):=Cells.cell h.r q hq;have F1:=T (Br w p.gR q (J U (-1)));clear h;go_in;go_wp2_with fail;generalize w.setCell ⟨p.gR,q,G⟩ (J U (-1))=w1 at*;clear c0 y0 r0 hl0;have c0:=HS1.out.b.cell 0;have c1:=HS1.out.b.cell 1;have c3:=HS1.out.b.cell 3;have hl0:=HS1.out.b.lt;have hn3:=HS1.out.n3;have Hf:Hid (∀W,Fr (λk=>k=p.gS) w1 W→Sc W p N (upZ reg q (-1)) slot sl tt→At Tryz.prog 193 #[↑p.gs,Z (I ⟨p.gS,0,G⟩) N N,J U q] W λe w'=> ∃k:Nat,e=Ax (J .i64 k)∧k≤N∧tkB tt slot q k N=Ac∧Fr Aj W w'):=T (λW f hs=>Z8 W p.gs p.gi p.cI p.gS N N q tt slot hq hN (AD _) hs.b.lt (hs.b.cell 3) hs.i hs.s.i);refine C7 (S:=Fr (λk=>k=p.gS) w1) AL ((Ao (λk=>k=p.gS) w1).drew) (λhH=>?_);refine Av 0 rfl hH Fw ?_;refine Av 1 rfl hH Fw ?_;refine Av 2 rfl hH Fw ?_
 try simp only[AG]
 refine Av 3 rfl hH Fw ?_;refine Av 4 rfl hH Fw ?_;refine Av 5 rfl hH Fw ?_
 try simp only[AG]
 refine Av 6 rfl hH Fw ?_;refine Av 7 rfl hH Fw ?_;refine Av 8 rfl hH Fw ?_
 try simp only[AG]
 refine Av 9 rfl hH Fw ?_;refine Av 10 rfl hH Fw ?_;refine Av 11 rfl hH Fw ?_
 try simp only[AG]
 refine Av 12 rfl hH Fw ?_
 try simp only[AG]
 refine Bb [13] ?_;refine AT (λK hK=>?_) ?_
 ·go_simp;go_wp2_with (refine(Hf.out _ (Ao _ w1).drew (HS1.out.fr0 (Ao Aj w1).drew)).mono ?_;rintro e w3 ⟨k,rfl,hk,hk2,f3⟩;have h3:=HS1.out.fr0 ((Ao Aj w1).drew.tr f3);have y3:=h3.s.frozen q;have s3:w3.cell? ⟨p.gS,q,G⟩=I (J U (slot q)):=Cells.cell h3.s q hq;have HX3:=T (Ay h3 (Ay hk2 f3));clear h3 hk2 f3);refine hK.out _ _ (hH.tr (HX3.out.2.2.mono (λ_ _ e=>e.elim))) λhH=>?_;clear hK K;refine Av 14 rfl hH Fw ?_
  try simp only[AG]
  refine Bb [15] ?_;refine AT (λK hK=>?_) ?_
  ·go_simp;refine hK.out _ _ (hH.setCell (Af rfl) _) λhH=>?_;clear hK K;refine CT ?_;have h4:=HX3.out.1.setS q k;have F4:=T (((Ao (λk=>k=p.gS) w1).drew.tr (HX3.out.2.2.mono (λ_ _ e=>e.elim))).setCell (p:=⟨p.gS,q,G⟩) (Af rfl) (J U (k:Int)));generalize w3.setCell ⟨p.gS,q,G⟩ (J U (k:Int))=w4 at*;clear c0 c1 c3 hl0 y3 s3;have c1:=h4.b.cell 1;have c2:=h4.b.cell 2;have y2:=h4.b.frozen 2;have hl4:=h4.b.lt;have s4:w4.cell? ⟨p.gS,q,G⟩=I (J U (k:Int)):=(Cells.cell h4.s q hq).trans Mm;have H4:=T h4;clear h4;go_wp2_with fail;go_still_tail 19,AL;go_wp2_with fail
   all_goals
    go_end0;refine⟨rfl,k,hk,HX3.out.2.1, ?_,(((F1.out.mono (S':=p.its) (λ_ _ e=>Or.inr (Or.inl e))).tr (F4.out.mono (S':=p.its) (λ_ _ e=>Or.inr (Or.inr e)))).setCell (p:=⟨p.gs,2,G⟩) (Or.inl (Or.inl rfl)) _).drew⟩;have hx:=(H4.out.setL (max sl (k+1))).fr0 (Ao Aj _).drew
    first
     |(have e:max sl (k+1)=sl:=O;rw[e] at hx⊢;exact hx)
     |(have e:max sl (k+1)=k+1:=O;rw[e] at hx⊢;exact hx)
     |(exfalso;have W1:IntKind.i64.wrap ((k:Int)+1)=(k:Int)+1:=(by first|go_num|(simp[IntKind.wrap];omega));omega)
  exact Bc
 exact Bc
end Al
namespace Al
open Gs Sv Tr Em Ip Lf
theorem oE(w:Aa)(y:Nat)(hy:y≤64):At Tryz.prog 248 #[J AP 1,J AP y] w λe w'=>e=Ax (AF #[J AP 0,J AP y])∧w=w':=by
 have hm:Bv .and AP (y:Int) 4294967295=(y:Int):=by
  have h:=bits_and_u64_nat y 4294967295 O O;have e:y&&&4294967295=y%4294967296:=Nat.and_two_pow_sub_one_eq_mod y 32;rw[e,Nat.mod_eq_of_lt O] at h;exact h
 go_in;go_wp2_with fail;have m1:Bv .and AP 1 4294967295=1:=Fu;have m0:Bv .and AP 0 4294967295=0:=Fu;have d0:(y:Int)/4294967296=0:=O;have wy:=ZB;have w0:IntKind.u64.wrap 0=0:=Fu;simp only[m1,d0,Int.one_mul,Int.mul_zero,wy,w0,m0,Int.add_zero,Int.zero_ediv];go_ret2;exact⟨rfl,rfl⟩
theorem mul_one(w:Aa)(y:Nat)(hy:y≤64):At Tryz.prog 228 #[J AP 1,J AP y] w λe w'=>e=Ax (AF #[J AP 0,J AP y])∧w=w':=by
 have wy:=ZB;have Hm:=T (λW=>oE W y hy);go_in;go_wp2_with ((with_reducible refine(Hm.out _).mono ?_);rintro e w' ⟨rfl,rfl⟩);go_ret2;exact⟨rfl,rfl⟩
end Al
namespace Al
open Gs Sv Tr Em Ip Lf
theorem run_mkI(n:Nat)(hn:n≤1000)(w:Aa):(Fp 85 (J U (n:Int)) (J U (n:Int))).run Tryz.prog w=.ok (Z (I ⟨↑w,0,G⟩) n n) (w.alloc (.cells (CH #[J U 0] n) 3)):=by
 obtain⟨i0,hi0,hz0,hz1,hz2⟩:=Cj I0;exact UQ
theorem cellsI(n:Nat)(w:Aa):Cells (w.alloc (.cells (CH #[J U 0] n) 3)) ↑w 3 n (λ_=> J U 0):=by
 have e:(CH #[J U 0] n).toList=DL n (J U 0):=QX;exact ZC
theorem szI1:(Tryz.prog.info? 3).map (·.size)=I 1:=by
 obtain⟨i0,hi0,hz0,hz1,hz2⟩:=Cj I0;rw[hi0];simp[hz1]
def Ik(n:Nat):List Int:=DL n (-1)
theorem ZD(n i:Nat)(h:i<n):(Ik n).getD i 0= -1:=by
 simp[Ik,AS,List.getElem?_replicate,h]
def Ones(w:Aa)(g N k:Nat):Prop:= ∃f,Cells w g 3 N f∧ ∀i,i<k→f i=J U (-1)
theorem Ones.ints{w:Aa}{g N k n:Nat}(h:Ones w g N k)(hn:n≤k)(hk:k≤N):IntsAt U w (g+1) (I ⟨g,0,G⟩) n (Ik n):=by
 obtain⟨f,hc,hf⟩:=h;refine⟨by simp[Ik],λi hi=>by rw[ZD n i hi];exact Lx (by omega) (by omega),λ_=>⟨g,0,rfl,O,λi hi=>?_⟩⟩;rw[ZD n i hi,BW,hc.cell i O,hf i O]
theorem Ones.put{w:Aa}{g N k n:Nat}{f:Nat→As}(hf: ∀i,i<k→f i=J U (-1))(h:Cells w g 3 N (Go.Proofs.YtdfegdoeebaagaaGreatDoor.putR f k ((Ik n).map (J U)))):Ones w g N (k+n):=by
 refine⟨_,h,λi hi=>?_⟩;unfold Go.Proofs.YtdfegdoeebaagaaGreatDoor.putR;have hl:((Ik n).map (J U)).length=n:=by simp[Ik]
 rw[hl];by_cases c:k≤i∧i<k+n;·rw[An c,AS,DP];simp[Ik,List.getElem?_replicate,show i -k<n by omega]
 ·rw[Ae c];exact hf i O
theorem RN(w:Aa)(g0 N:Nat)(hb:Blk w g0 3 #[J U (-1)])(hN:N≤64):At Tryz.prog 191 #[Z (I ⟨g0,0,G⟩) 1 1,J U N] w λe w'=> ∃g,e=Ax (Z (I ⟨g,0,G⟩) N N)∧w.heap.size≤g∧RowC w' g N (λ_=> -1)∧Fr Aj w w':=by
 have hmk: ∀W,(Fp 85 (J U (N:Int)) (J U (N:Int))).run Tryz.prog W=.ok (Z (I ⟨↑W,0,G⟩) N N) (W.alloc (.cells (CH #[J U 0] N) 3)):=λW=>run_mkI N O W;have Hm:=T (λW=>mul_one W N hN);have wy:IntKind.u64.wrap (N:Int)=N:=Mq;have wz:IntKind.i64.wrap (N:Int)=N:=Ox;have HC0:=T (cellsI N w);have f0:Fr Aj w (w.alloc (.cells (CH #[J U 0] N) 3)):=(Ao _ w).alloc _;have hbl:=hb.lt;have HZ0:Hid (IntsAt U (w.alloc (.cells (CH #[J U 0] N) 3)) (g0+1) (I ⟨g0,0,G⟩) (min 1 N) (Ik (min 1 N))):=T (by
  have hc1:Cells w g0 3 1 (λ_=> J U (-1)):=⟨_,hb,rfl,λi hi=>by
   obtain rfl:i=0:=O;rfl⟩
  have h1:Ones (w.alloc (.cells (CH #[J U 0] N) 3)) g0 1 1:=⟨λ_=> J U (-1),LG hc1 _,λ_ _=>rfl⟩;exact h1.ints O O)
 have HF0:=T f0;have hsz:=szI1;have g1:decide ((N:Int)<0)=Ac:=AC;have g2:decide ((9223372036854775807:Int)<(N:Int))=Ac:=AA;clear hb f0;go_in;go_wp2_with
  (first
   |((with_reducible refine(Hm.out _).mono ?_);rintro e w' ⟨rfl,rfl⟩)
   |(refine KC rfl (.tmp 31) (.tmp 32) 85 85 rfl 3 FV hsz w.heap.size 0 N N (I ⟨g0,0,G⟩) 1 1 rfl rfl 3 N _ HC0.out U (g0+1) (min 1 N) (Ik (min 1 N)) O HZ0.out O ?_;intro w2 hc2 f2;have HO:Hid (Ones w2 ↑w N (min 1 N)):=T (by have:=Ones.put (k:=0) (λi hi=>absurd hi (by omega)) hc2;rwa[BW] at this);have HF2:Hid (Fr Aj w w2):=T (HF0.out.trans f2 (λi hi e=>by have:=e;omega));clear hc2 f2))
 trace "A"
 go_loopw [8] (λi wr=> ∃k:Nat,k≤N∧min 1 N≤k∧i=J U k∧Hid (Ones wr ↑w N k)∧Hid (Fr Aj w wr)) (λi _=>N -(AM i).toNat)
 case atStart=>exact⟨min 1 N,O,AD _,by first|rfl|(simp[goInt]),HO,HF2⟩
 case round=>
  obtain⟨k,hk,hk1,rfl,hO,hF⟩:=hrel;by_cases hlt:k<N
  ·obtain⟨f,hc,hf⟩:=hO.out;have hcd:=hc.drew;have hod:Ones wr.drew ↑w N k:=⟨f,hcd,hf⟩;have HZ:=T (Ones.ints (n:=min k (N -k)) hod O hk);have HC:=T hcd;have hgl:=hc.lt;have hne: ¬N=k:=O;have wk:IntKind.i64.wrap ((k:Int)+((min k (N -k):Nat):Int))=((k+min k (N -k):Nat):Int):=Ox;clear hc hcd hod;go_wp2_with fail;go_region_law (
    refine Vu rfl (.tmp 41) (.tmp 44) 85 85 rfl 3 FV hsz w.heap.size k (N -k) (N -k) (I ⟨w.heap.size,0,G⟩) k N (by simp[Act.eval,Act.put,hne]) (by simp[Act.eval,Act.put,hne]) 3 N f HC.out U (w.heap.size+1) (min k (N -k)) (Ik (min k (N -k))) rfl HZ.out O ?_
    intro w3 hc3 f3
    have HO3:Hid (Ones w3 ↑w N (k+min k (N -k))):=T (Ones.put hf hc3)
    have HF3:Hid (Fr Aj w w3):=T (hF.out.drew.trans f3 (λi hi e=>by have:=e;omega))
    clear hc3 f3)
   all_goals
    simp only[AG]
    go_wp2
    go_roundw
    case rel=>exact⟨k+min k (N -k),O,O,rfl,HO3,HF3⟩
    case measure=>simp[AM,goInt];omega
  ·obtain rfl:k=N:=O
   go_wp2
   go_ret;obtain⟨f,hc,hf⟩:=hO.out;exact⟨_,rfl,AD _,hc.congr (λi hi=>hf i hi),hF.out⟩
end Al
end Go.Proofs.YtdfegdoeebaagaaGreatDoor
