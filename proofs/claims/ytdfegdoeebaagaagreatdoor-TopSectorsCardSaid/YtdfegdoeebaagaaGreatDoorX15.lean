import Derived.Test.YtdfegdoeebaagaaGreatDoorX6
import Derived.Test.YtdfegdoeebaagaaGreatDoorX14
import Derived.Test.YtdfegdoeebaagaaGreatDoorChecked
open Go.Value renaming slice→Z,int→J,bool→Ap,tuple→AF,agg→A9
open Option renaming some→I,none→G
open Go.IntKind renaming i64→U,u32→V,u8→AB,u64→AP,wrap_u64→Gg
open Go renaming World→Aa,Value→As,Calls→At,bodyPost_ret→Bt,TypeId→AN,Ending→AY,info_parts→Cj,maxLen→BQ,madeCells→CH,bits→Bv
open Bool renaming false→Ac,true→Ag
open List renaming getD_eq_getElem?_getD→AS,getElem?_eq_getElem→BK,length_append→Cq,getElem?_take_of_lt→Dq,getElem_mem→CE,getElem?_append_right→Ex,length_cons→D8,getElem?_append_left→Ff,replicate→DL,map_append→FH
open Go.Ending renaming returned→Ax
open And renaming intro→Ay
open Nat renaming le_refl→AD,zero_le→Bj,zero_add→BW
open Or renaming inl→Af,inr→Ah
open Go.Proofs.Tryz renaming underlying23→CI
open Go.RowKit renaming intOf→AM
open Go.Instr renaming makeSlice→Fp
set_option linter.all false
set_option maxHeartbeats 40000000
set_option maxRecDepth 1000000
open Go Go.RowKit
namespace Go.Proofs.YtdfegdoeebaagaaGreatDoor
namespace Hc
open Gs Tr Em
abbrev hA(i:HI):AO:=#[J U i.op,J U i.rd,J U i.ra,J U i.rb,J V i.imm]
theorem Mn{i:HI}(h:HOk i):i.op=1∨i.op=2∨i.op=3∨i.op=4∨i.op=5∨i.op=6∨i.op=7∨i.op=8∨i.op=9∨i.op=10∨i.op=11∨i.op=12∨i.op=13∨i.op=14∨i.op=15∨i.op=16∨i.op=17∨i.op=19:=by
 rcases h.form with h|h|h|h|h|h|h<;>omega
def zeros(op:Nat)(i:HI):Prop:=
 (op=1→i.ra=0∧i.rb=0)∧(op=2→i.rb=0∧i.imm=0)∧(3≤op∧op≤13→i.imm=0)∧(op=14→i.rb=0)∧(op=15→i.rd=0)∧(op=16∨op=17→i.rd=0∧i.rb=0)∧(op=19→i.rd=0∧i.ra=0∧i.rb=0)
theorem XS{i:HI}(h:HOk i):zeros i.op i:=by
 have:=h.form;refine⟨λe=>?_,λe=>?_,λe=>?_,λe=>?_,λe=>?_,λe=>?_,λe=>?_⟩<;>omega
theorem szH:(Tryz.prog.info? 270).map (·.size)=I 5:=AL
theorem reg_yes(w:Aa)(n:Int)(h0:0≤n)(h1:n<16):At Tryz.prog 235 #[J U n] w λe w'=>e=Ax (Ap Ag)∧w=w':=by
 have a1:=QS;have a2:decide (n<16)=Ag:=Dh;exact CP
def AskPost(w:Aa)(i:HI)(e:AY)(w':Aa):Prop:=e=Ax (AF #[A9 (hA i),Ap Ag])∧Fr Aj w w'
theorem QT(w:Aa)(a c:Obj)(cs:AO)(t:AN):Blk (((w.alloc a).alloc (.cells cs t)).alloc c) (↑w+1) t cs:=by
 have:=(AI (w.alloc a) t cs).alloc c;rwa[show(w.alloc a).heap.size=w.heap.size+1 by simp] at this
theorem nF(w:Aa)(i:HI)(h:HOk i):At Tryz.prog 234 #[A9 (hA i)] w (AskPost w i):=by
 have ho:=Mn h;have hz:=XS h;clear h;obtain⟨op,rd,ra,rb,imm⟩:=i;unfold zeros at hz;dsimp only at ho hz;obtain⟨z1,z2,z3,z4,z5,z6,z7⟩:=hz;rcases ho with rfl|rfl|rfl|rfl|rfl|rfl|rfl|rfl|rfl|rfl|rfl|rfl|rfl|rfl|rfl|rfl|rfl|rfl;·obtain⟨rfl,rfl⟩:=z1 rfl;exact KO
 ·obtain⟨rfl,rfl⟩:=z2 rfl;exact KO
 ·exact Ih
 ·exact Ih
 ·exact Ih
 ·exact Ih
 ·exact Ih
 ·exact Ih
 ·exact Ih
 ·exact Ih
 ·exact Ih
 ·exact Ih
 ·exact Ih
 ·obtain rfl:=z4 rfl;exact KO
 ·obtain rfl:=z5 rfl;exact KO
 ·obtain⟨rfl,rfl⟩:=z6 (Af rfl);exact KO
 ·obtain⟨rfl,rfl⟩:=z6 (Ah rfl);exact KO
 ·obtain⟨rfl,rfl,rfl⟩:=z7 rfl;clear z1 z2 z3 z4 z5 z6 z7;go_in;go_wp2_with fail;exact Bt (Ca.results_ct rfl _ _ (w.heap.size+1) 270 (hA _) _ (Ap Ag) rfl rfl (QT w _ _ _ _) Tryz.underlying270 rfl szH) rfl ⟨rfl,(((Ao _ w).alloc _).alloc _).alloc _⟩
end Hc
namespace Hc
open Gs Tr Em
theorem right_yes(w:Aa)(i:HI)(h:HOk i):At Tryz.prog 206 #[A9 (hA i)] w λe w'=>e=Ax (Ap Ag)∧Fr Aj w w':=by
 have f0:Fr Aj w (w.alloc (.cells (hA i) 270)):=(Ao _ w).alloc _;have Ha:=T (nF (w.alloc (.cells (hA i) 270)) i h);have b0:=AI w 270 (hA i);have h1:=h.rd;have h2:=h.ra;have h3:=h.rb;have B0:=T b0;have F0:=T f0;clear h b0 f0;go_in;go_wp2_with fail;refine Az Ha ?_;rintro e w1 ⟨rfl,f1⟩;have b1:=B0.out.fr f1 id;have c0:=b1.cell 0;have c1:=b1.cell 1;have c2:=b1.cell 2;have c3:=b1.cell 3;have c4:=b1.cell 4;have hlt:=b1.lt;have F1:=T (F0.out.tr f1);clear b1 f1;go_wp2_with (first
  |((with_reducible refine(reg_yes _ _ O O).mono ?_);rintro e w' ⟨rfl,rfl⟩))
 go_ret;exact⟨rfl,F1.out.alloc _⟩
def encH(i:HI):List Int:=[(i.op:Int),(i.rd:Int),(i.ra:Int),(i.rb:Int),i.imm%256,i.imm/256%256,i.imm/65536%256,i.imm/16777216]
def encL(l:List HI):List Int:=l.flatMap encH
theorem encL_len: ∀l:List HI,(encL l).length=8*l.length
 |[]=>rfl
 |i::l=>by
  have:=encL_len l;simp only[encL,List.flatMap_cons,Cq,D8] at this⊢;rw[this];simp[encH];omega
theorem nG(l:List HI)(i:HI):encL (l++[i])=encL l++encH i:=by simp[encL]
def dHI:HI:=⟨0,0,0,0,0⟩
def at_(l:List HI)(k:Nat):HI:=l.getD k dHI
variable{l:List HI}
theorem Mo{k:Nat}(h:k<l.length):at_ l k∈l:=by
 unfold at_;rw[AS,BK h];exact CE h
theorem XT{k:Nat}(h:k<l.length):l.take (k+1)=l.take k++[at_ l k]:=by
 unfold at_;exact QU
theorem hcs_at: ∀(l:List HI) (k:Nat),k<l.length→ ∀j,j<5→(hcs l)[k*5+j]?=(hA (at_ l k))[j]?
 |i::l,0,_,j,hj=>by
  show(hc i++hcs l)[0*5+j]?=_;rw[Ff Oe];have e:0*5+j=j:=O;rw[e];simp[hc,at_]
 |i::l,k+1,h,j,hj=>by
  show(hc i++hcs l)[(k+1)*5+j]?=_;rw[Ex Oe];have e:(k+1)*5+j -(hc i).length=k*5+j:=Oe;rw[e,hcs_at l k D7 j hj];rfl
def At5(w:Aa)(B:Nat)(A:Aw)(l:List HI):Prop:= ∀k,k<l.length→ ∃b off,A=I ⟨b,off,G⟩∧b<B∧w.cell? ⟨b,off+k*5,G⟩=I (J U (at_ l k).op)∧w.cell? ⟨b,off+k*5+1,G⟩=I (J U (at_ l k).rd)∧w.cell? ⟨b,off+k*5+2,G⟩=I (J U (at_ l k).ra)∧w.cell? ⟨b,off+k*5+3,G⟩=I (J U (at_ l k).rb)∧w.cell? ⟨b,off+k*5+4,G⟩=I (J V (at_ l k).imm)
theorem At5.of{w:Aa}{base n c:Nat}{A:Aw}(h:w.ownsRow base 270 5 (Z A n c) l.length (hcs l)):At5 w ↑w A l:=by
 intro k hk;rcases h.2 with⟨e,h0⟩|⟨g,cap,cur,hv,hg,hb,hc,hm,hs,ht⟩;·omega
 ·injection hv with e1 e2 e3;subst e1;have hb:Blk w g 270 cur:=hb;have key: ∀j,j<5→w.cell? ⟨g,k*5+j,G⟩=(hA (at_ l k))[j]?:=λj hj=>by
   rw[hb.cell,←hcs_at l k hk j hj,←ht];exact XU
  exact XV
theorem At5.fr{w w':Aa}{B:Nat}{A:Aw}{S:AE}(h:At5 w B A l)(f:Fr S w w')(hB:B≤↑w)(hs: ∀k,k<B→ ¬S k):At5 w' B A l:=λk hk=>XW
theorem info8':(Tryz.prog.info? 5).map (λi=>(i.zero,i.size,i.bytes))=I (I (J AB 0),1,1):=AL
def GivesB(w:Aa)(zs:List Int)(k:Int)(e:AY)(w':Aa):Prop:= ∃A c,e=Ax (AF #[Z A zs.length c,J U k])∧w'.ownsRow ↑w 5 1 (Z A zs.length c) zs.length (zs.map (J AB))∧Fr Aj w w'
theorem join_yes(w:Aa)(B n c:Nat)(A:Aw)(l:List HI)(hl:l.length=n)(h:At5 w B A l)(hB:B≤↑w)(ho:HAll l)(hn:n≤100000):At Tryz.prog 151 #[Z A n c] w (GivesB w (encL l) 0):=by
 obtain⟨i0,hi0,hz0,hz1,hz2⟩:=Cj info8';have H:=T h;have HO:=T ho;have HL:=T hl;clear h ho hl;go_in;go_wp2_with fail;go_loopw [4,9] (λv i wr=> ∃(k:Nat) (A':Aw) (c':Nat),k≤n∧i=J U k∧v=Z A' (8*k) c'∧Hid (wr.ownsRow ↑w 5 1 (Z A' (8*k) c') (8*k) ((encL (l.take k)).map (J AB)))∧Hid (Fr Aj w wr)) (λ_ i _=>n -(AM i).toNat)
 case atStart=>exact⟨0,G,0,O,rfl,rfl,T ⟨rfl,Af ⟨rfl,rfl⟩⟩,T (Ao _ _)⟩
 case round=>
  obtain⟨k,A',c',hk,rfl,rfl,hR,hF⟩:=hrel;by_cases hlt:k<n
  ·have hkl:k<l.length:=by rw[HL.out];exact hlt
   obtain⟨b,off,rfl,hb,c0,c1,c2,c3,c4⟩:=(H.out.fr hF.out hB (λ_ _ e=>e)) k hkl;have hok:=HO.out _ (Mo hkl);have Hsn:=T (XT hkl);obtain⟨i,hi⟩:=A8 (at_ l k);rw[hi] at c0 c1 c2 c3 c4 hok Hsn;have hbl:b<↑wr:=QV;have hwz:=hF.out.size;have m1:=hok.rd;have m2:=hok.ra;have m3:=hok.rb;have m4:=hok.imm.1;have m5:=hok.imm.2;have m0:i.op<20:=by have:=Mn hok;omega
   have Hy:=T (λW=>right_yes W i hok);clear hi hkl hok;obtain⟨op,rd,ra,rb,imm⟩:=i;dsimp only at c0 c1 c2 c3 c4 m0 m1 m2 m3 m4 m5;go_wp2_with fail;refine(Hy.out _).mono ?_;rintro e w1 ⟨rfl,f1⟩;have bx:Blk w1 ↑wr 270 (hA ⟨op,rd,ra,rb,imm⟩):=(AI wr 270 _).fr f1 id;have x0:=bx.cell 0;have x1:=bx.cell 1;have x2:=bx.cell 2;have x3:=bx.cell 3;have x4:=bx.cell 4;have hlx:=bx.lt;have hown:=AR (hR.out.alloc (.cells (hA ⟨op,rd,ra,rb,imm⟩) 270)) f1 (λ_ _ e=>e);have HF1:=T ((hF.out.alloc (.cells (hA ⟨op,rd,ra,rb,imm⟩) 270)).tr f1);clear bx f1 c0 c1 c2 c3 c4;have ho2:=T (DU hown (.cells (((encH ⟨op,rd,ra,rb,imm⟩).map (J AB)).toArray) 5));have hrd2:Hid (Reads (w1.alloc (.cells (((encH ⟨op,rd,ra,rb,imm⟩).map (J AB)).toArray) 5)) (↑w1+1) 1 (I ⟨↑w1,0,G⟩) 8 ((encH ⟨op,rd,ra,rb,imm⟩).map (J AB))):=T (Do (AI w1 5 _) (by simp[encH]));have HF2:=T (HF1.out.alloc (.cells (((encH ⟨op,rd,ra,rb,imm⟩).map (J AB)).toArray) 5));clear hown;go_wp2_with
    (at_builtin
     refine CU _ rfl (.tmp 16) (.tmp 44) _ rfl w.heap.size 5 i0 _ 1 1 CI hi0 hz0 hz1 hz2 rfl O (Z A' (8*k) c') (8*k) ((encL (l.take k)).map (J AB)) rfl ho2.out (w1.heap.size+1) (I ⟨w1.heap.size,0,G⟩) 8 8 ((encH ⟨op,rd,ra,rb,imm⟩).map (J AB)) rfl hrd2.out GW Cc O AA ?_
     intro v1 w3 hown1 hg1 hat1
     obtain⟨A1,c1,rfl⟩:=Et hown1
     have HX:=T (Ay hown1 (HF2.out.grown hg1 (λq hq=> Ah (Cn hR.out q hq))))
     clear hown1 hg1 hat1)
   go_roundw;case rel=>
    refine⟨k+1,A1,c1,O,Bn,rfl,T ?_,T HX.out.2⟩;rw[Hsn.out,nG,FH];exact HX.out.1
   case measure=>simp[AM];omega
  ·obtain rfl:k=n:=O;have e2:l.take k=l:=List.take_of_length_le (by rw[HL.out];exact AD _);have hE:=encL_len l;have HX:=T (Ay e2 hE);clear e2 hE hlt
   go_wp2
   go_ret2;obtain⟨e2,hE⟩:=HX.out;have e3:(encL l).length=8*k:=by rw[hE,HL.out]
   refine⟨A',c',by rw[e3];rfl, ?_,hF.out⟩;rw[e3];have:=hR.out;rwa[e2] at this
end Hc
namespace Hc
open Gs Tr Em
theorem nH(w:Aa)(B c:Nat)(A:Aw)(i:HI)(h:IntsAt AB w B A 8 (encH i))(hB:B≤↑w)(ho:HOk i)(hc:8≤c):At Tryz.prog 207 #[Z A 8 c] w λe w'=>e=Ax (AF #[A9 (hA i),J U 0])∧Fr Aj w w':=by
 obtain⟨b,off,rfl,hb,hcell⟩:=h.2.2 O;have Hy:=T (λW=>right_yes W i ho);have m4:=ho.imm.1;have m5:=ho.imm.2;have m0:i.op<20:=by have:=Mn ho;omega
 have m1:=ho.rd;have m2:=ho.ra;have m3:=ho.rb;obtain⟨op,rd,ra,rb,imm⟩:=i;dsimp only at m0 m1 m2 m3 m4 m5;have c0:w.cell? ⟨b,off,G⟩=I (J AB (op:Int)):=by have:=hcell 0 (by omega);rw[Nat.add_zero] at this;exact this
 have c1:w.cell? ⟨b,off+1,G⟩=I (J AB (rd:Int)):=hcell 1 O;have c2:w.cell? ⟨b,off+2,G⟩=I (J AB (ra:Int)):=hcell 2 O;have c3:w.cell? ⟨b,off+3,G⟩=I (J AB (rb:Int)):=hcell 3 O;have c4:w.cell? ⟨b,off+4,G⟩=I (J AB (imm%256)):=hcell 4 O;have c5:w.cell? ⟨b,off+5,G⟩=I (J AB (imm/256%256)):=hcell 5 O;have c6:w.cell? ⟨b,off+6,G⟩=I (J AB (imm/65536%256)):=hcell 6 O;have c7:w.cell? ⟨b,off+7,G⟩=I (J AB (imm/16777216)):=hcell 7 O;have p4:0≤imm%256∧imm%256≤255:=O;have p5:0≤imm/256%256∧imm/256%256≤255:=O;have p6:0≤imm/65536%256∧imm/65536%256≤255:=O;have p7:0≤imm/16777216∧imm/16777216≤255:=O;have hlt:b<↑w:=O;obtain⟨x4,e4⟩:=A8 (imm%256);obtain⟨x5,e5⟩:=A8 (imm/256%256);obtain⟨x6,e6⟩:=A8 (imm/65536%256);obtain⟨x7,e7⟩:=A8 (imm/16777216);rw[e4] at c4 p4;rw[e5] at c5 p5;rw[e6] at c6 p6;rw[e7] at c7 p7;have HE:=T (Ay e4 (Ay e5 (Ay e6 e7)));have HJ:Hid (Bv BinOp.or IntKind.u32 (Bv BinOp.or IntKind.u32 (Bv BinOp.or IntKind.u32 x4 (x5*256)) (x6*65536)) (x7*16777216)=imm):=T (by
  rw[bits_join_low V 32 Ak wraps_u32 8 x4 (x5*256) O O O O O O];rw[bits_join_low V 32 Ak wraps_u32 16 _ (x6*65536) O O O O O O];rw[bits_join_low V 32 Ak wraps_u32 24 _ (x7*16777216) O O O O O O];omega)
 obtain⟨p40,p41⟩:=p4;obtain⟨p50,p51⟩:=p5;obtain⟨p60,p61⟩:=p6;obtain⟨p70,p71⟩:=p7;clear h hcell ho e4 e5 e6 e7;go_in;go_wp2_with fail;go_region_held (λW=>W.cell? ⟨b,off,G⟩=I (J AB (op:Int))∧W.cell? ⟨b,off+1,G⟩=I (J AB (rd:Int))∧W.cell? ⟨b,off+2,G⟩=I (J AB (ra:Int))∧W.cell? ⟨b,off+3,G⟩=I (J AB (rb:Int))∧W.cell? ⟨b,off+4,G⟩=I (J AB x4)∧W.cell? ⟨b,off+5,G⟩=I (J AB x5)∧W.cell? ⟨b,off+6,G⟩=I (J AB x6)∧W.cell? ⟨b,off+7,G⟩=I (J AB x7)) (go_keep) (fail)
 all_goals
  go_wp2_with fail;rw[HJ.out];refine(Hy.out _).mono ?_;rintro e w1 ⟨rfl,f1⟩;have b2:Blk w1 ↑w 270 #[J U 0,J U 0,J U 0,J U 0,J V 0]:=((AI w 270 _).alloc _).drew.fr f1 id;have b4:Blk w1 (↑w+1) 270 (hA ⟨op,rd,ra,rb,imm⟩):=(CK (w.alloc (.cells #[J U 0,J U 0,J U 0,J U 0,J V 0] 270)) 270 (hA ⟨op,rd,ra,rb,imm⟩) AC).drew.fr f1 id;have F1:Hid (Fr Aj w w1):=T (((((Ao _ w).alloc _).alloc _).drew).tr f1);have d0:=b2.cell 0;have d1:=b2.cell 1;have d2:=b2.cell 2;have d3:=b2.cell 3;have d4:=b2.cell 4;have y0:=b2.frozen 0;have y1:=b2.frozen 1;have y2:=b2.frozen 2;have y3:=b2.frozen 3;have y4:=b2.frozen 4;have k0:=b4.cell 0;have k1:=b4.cell 1;have k2:=b4.cell 2;have k3:=b4.cell 3;have k4:=b4.cell 4;have hl4:=b4.lt;have B2:=T b2;clear b2 b4 f1 Hy HJ HE;go_wp2_with fail;have b5:=((((B2.out.set_ 0 (J U (op:Int))).set_ 1 (J U (rd:Int))).set_ 2 (J U (ra:Int))).set_ 3 (J U (rb:Int))).set_ 4 (J V imm);have b6:Blk _ ↑w 270 (hA ⟨op,rd,ra,rb,imm⟩):=b5;exact Bt (Ca.results_ct rfl _ _ w.heap.size 270 (hA ⟨op,rd,ra,rb,imm⟩) _ (J U 0) rfl rfl b6 Tryz.underlying270 rfl szH) rfl ⟨rfl,((((F1.out.setCell (p:=⟨↑w,0,G⟩) (Ah (AD _)) _).setCell (p:=⟨↑w,1,G⟩) (Ah (AD _)) _).setCell (p:=⟨↑w,2,G⟩) (Ah (AD _)) _).setCell (p:=⟨↑w,3,G⟩) (Ah (AD _)) _).setCell (p:=⟨↑w,4,G⟩) (Ah (AD _)) _⟩
end Hc
namespace Hc
open Gs Tr Em
theorem ints_drop{k:IntKind}{w:Aa}{B n m b off:Nat}{zs:List Int}(h:IntsAt k w B (I ⟨b,off,G⟩) n zs)(hm:m≤n):IntsAt k w B (I ⟨b,off+m,G⟩) (n -m) (zs.drop m):=by
 have hg: ∀i,(zs.drop m).getD i 0=zs.getD (m+i) 0:=λi=>by simp[AS,List.getElem?_drop]
 refine⟨by have:=h.1;simp;omega,λi hi=>by rw[hg];exact h.2.1 _ (by omega),λhn=>?_⟩;obtain⟨b',off',e,hb,hc⟩:=h.2.2 O;injection e with e;injection e with e1 e2;subst e1 e2;refine⟨b,off+m,rfl,hb,λi hi=>?_⟩;rw[hg,←hc (m+i) O];rw[Nat.add_assoc]
theorem enc_drop{l:List HI}{k:Nat}(h:k<l.length):encL (l.drop k)=encH (at_ l k)++encL (l.drop (k+1)):=by
 have e:l.drop k=at_ l k::l.drop (k+1):=by
  unfold at_;rw[AS,BK h];exact(List.getElem_cons_drop h).symm
 rw[e];rfl
def GivesH(w:Aa)(l:List HI)(e:AY)(w':Aa):Prop:= ∃A c,e=Ax (AF #[Z A l.length c,J U 0])∧w'.ownsRow ↑w 270 5 (Z A l.length c) l.length (hcs l)∧Fr Aj w w'
theorem all_yes(w:Aa)(B n c:Nat)(A:Aw)(l:List HI)(h:IntsAt AB w B A n (encL l))(hn:n=8*l.length)(hc:n≤c)(hB:B≤↑w)(ho:HAll l)(h64:l.length≤10000):At Tryz.prog 156 #[Z A n c] w (GivesH w l):=by
 obtain⟨i0,hi0,hz0,hz1,hz2⟩:=Cj info5;have H:=T h;have HO:=T ho;obtain⟨m,hm⟩:=A8 l.length;rw[hm] at hn h64;have HM:=T hm;have HC:=T hc;have HN:=T hn;clear h ho hm hc hn;go_in;go_wp2_with fail;go_loopw [0,4] (λb v wr=> ∃(k r:Nat) (A1:Aw) (c1:Nat) (A2:Aw) (c2:Nat),k≤m∧r+8*k=8*m∧r≤c1∧b=Z A1 r c1∧v=Z A2 k c2∧Hid (IntsAt AB wr B A1 r (encL (l.drop k)))∧Hid (wr.ownsRow ↑w 270 5 (Z A2 k c2) k (hcs (l.take k)))∧Hid (Fr Aj w wr)) (λb _ _=>match b with|Z _ r _=>r|_=>0)
 case atStart=>exact⟨0,n,A,c,G,0,O,by have:=HN.out;omega,HC.out,rfl,rfl,H.out,T ⟨rfl,Af ⟨rfl,rfl⟩⟩,T (Ao _ _)⟩
 case round=>
  obtain⟨k,r,A1,c1,A2,c2,hk,hr,hrc,rfl,rfl,hI,hR,hF⟩:=hrel;by_cases hlt:k<m
  ·have hkl:k<l.length:=by rw[HM.out];exact hlt
   have h8:8≤r:=O;obtain⟨b,off,rfl,hb,_⟩:=hI.out.2.2 O;have hE:=enc_drop hkl;have hok:=HO.out _ (Mo hkl);have Hsn:=T (XT hkl);have hI8:IntsAt AB wr B (I ⟨b,off,G⟩) 8 (encH (at_ l k)):=by
    have:=hI.out.take h8;rwa[hE,List.take_left' (by simp[encH])] at this
   have hDr:Hid (IntsAt AB wr B (I ⟨b,off+8,G⟩) (r -8) (encL (l.drop (k+1)))):=T (by
    have:=ints_drop hI.out h8;rwa[hE,List.drop_left' (by simp[encH])] at this)
   have hwz:=hF.out.size;have Hd:=T (nH wr B c1 (I ⟨b,off,G⟩) (at_ l k) hI8 O hok O);obtain⟨i,hi⟩:=A8 (at_ l k);rw[hi] at Hd Hsn;have g1: ¬((r:Int)<8):=O;have g2:decide ((r:Int)>0)=Ag:=AA;obtain⟨op,rd,ra,rb,imm⟩:=i;clear hi hkl hok hE hI8;go_wp2_with fail;refine Az Hd ?_;rintro e w1 ⟨rfl,f1⟩;have hown:=AR hR.out f1 (λ_ _ e=>e);have ho2:=T (DU (DU hown (.cells (hA ⟨op,rd,ra,rb,imm⟩) 270)) (.cells (hA ⟨op,rd,ra,rb,imm⟩) 270));have bk:Blk ((w1.alloc (.cells (hA ⟨op,rd,ra,rb,imm⟩) 270)).alloc (.cells (hA ⟨op,rd,ra,rb,imm⟩) 270)) (↑w1+1) 270 (hA ⟨op,rd,ra,rb,imm⟩):=CK _ _ _ AC;have hrd2:Hid (Reads ((w1.alloc (.cells (hA ⟨op,rd,ra,rb,imm⟩) 270)).alloc (.cells (hA ⟨op,rd,ra,rb,imm⟩) 270)) (↑w1+1+1) 5 (I ⟨↑w1+1,0,G⟩) 1 (hcs [⟨op,rd,ra,rb,imm⟩])):=T (by
    have:=Do (size:=5) (n:=1) bk AC;simpa[hcs,hc] using this)
   have hs1:=f1.size;have HF2:=T ((((hF.out.tr f1).alloc (.cells (hA ⟨op,rd,ra,rb,imm⟩) 270)).alloc (.cells (hA ⟨op,rd,ra,rb,imm⟩) 270)));have hb1:B≤↑w1:=O;have hDr2:=T (hDr.out.fr f1 O (λ_ _ e=>e));clear hown bk f1;by_cases h8c:c1=8
   ·have hr8:r=8:=O;go_wp2_with
     (at_builtin
      refine CU _ rfl (.tmp 22) (.tmp 24) _ rfl w.heap.size 270 i0 _ 5 40 Tryz.underlying260 hi0 hz0 hz1 hz2 rfl O (Z A2 k c2) k (hcs (l.take k)) rfl ho2.out (w1.heap.size+1+1) (I ⟨w1.heap.size+1,0,G⟩) 1 1 (hcs [⟨op,rd,ra,rb,imm⟩]) rfl hrd2.out (QQ _) Cc O AA ?_
      intro v1 w3 hown1 hg1 hat1
      obtain⟨A3,c3,rfl⟩:=Et hown1
      have HX:=T (Ay hown1 (Ay (HF2.out.grown hg1 (λq hq=> Ah (Cn hR.out q hq))) hg1))
      clear hown1 hg1 hat1)
    go_roundw;case rel=>
     refine⟨k+1,0,I ⟨b,off,G⟩,0,A3,c3,O,O,O,rfl,rfl,T ?_,T ?_,T HX.out.2.1⟩
     ·have e:encL (l.drop (k+1))=[]:=by
       have:=hDr.out.1;rw[hr8] at this;exact List.eq_nil_of_length_eq_zero this
      rw[e];exact Nc _ _ _ _
     ·rw[Hsn.out,QR];exact HX.out.1
    case measure=>
     show 0<r;omega
   ·have g3: ¬(c1=8):=h8c;have g4:8≤c1:=O;go_wp2_with
     (at_builtin
      refine CU _ rfl (.tmp 22) (.tmp 24) _ rfl w.heap.size 270 i0 _ 5 40 Tryz.underlying260 hi0 hz0 hz1 hz2 rfl O (Z A2 k c2) k (hcs (l.take k)) rfl ho2.out (w1.heap.size+1+1) (I ⟨w1.heap.size+1,0,G⟩) 1 1 (hcs [⟨op,rd,ra,rb,imm⟩]) rfl hrd2.out (QQ _) Cc O AA ?_
      intro v1 w3 hown1 hg1 hat1
      obtain⟨A3,c3,rfl⟩:=Et hown1
      have HX:=T (Ay hown1 (Ay (HF2.out.grown hg1 (λq hq=> Ah (Cn hR.out q hq))) hg1))
      clear hown1 hg1 hat1)
    go_roundw;go_roundw
    case rel=>exact k+1
    ·refine⟨r -8,I ⟨b,off+8,G⟩,c1 -8,A3,c3,O,O,O,rfl,rfl,T ?_,T ?_,T HX.out.2.1⟩;·exact hDr2.out.fr ((((Ao (λq=>w.heap.size≤q) w1).alloc _).alloc _).grown HX.out.2.2 (λq hq=> Af (Cn hR.out q hq))) O (λq hq e=>O)
     ·rw[Hsn.out,QR];exact HX.out.1
    ·show r -8<r;omega
  ·obtain rfl:k=m:=O;obtain rfl:r=0:=O;have e2:l.take k=l:=List.take_of_length_le XX;have HE2:=T e2;clear e2 hlt
   go_wp2
   go_ret2;refine⟨A2,c2,by rw[HM.out];rfl, ?_,hF.out⟩;rw[HM.out];have:=hR.out;rwa[HE2.out] at this
end Hc
namespace Hh
open Gs Tr Em Hc
structure Mh where
 g:Nat→Int
 m:Nat→Int
 at_:Int
 l:List HI
structure Mp where
 gm:Nat
 gw:Nat
 A:Aw
 c:Nat
def Mp.its(p:Mp)(k:Nat):Prop:=k=p.gm∨k=p.gw
def mhF(p:Mp)(s:Mh):Nat→As:=λi=>if i<16 then J AP (s.g i) else if i=16 then Z (I ⟨p.gw,0,G⟩) 256 256 else if i=17 then Z p.A s.l.length p.c else J U s.at_
def U64(x:Int):Prop:=0≤x∧x≤18446744073709551615
def U32(x:Int):Prop:=0≤x∧x≤4294967295
structure Mk(w:Aa)(p:Mp)(s:Mh):Prop where
 b:Cells w p.gm 275 19 (mhF p s)
 m:Cells w p.gw 22 256 (λj=> J V (s.m j))
 code:w.ownsRow 0 270 5 (Z p.A s.l.length p.c) s.l.length (hcs s.l)
 gb: ∀k,U64 (s.g k)
 mb: ∀j,U32 (s.m j)
section
variable {w w':Aa} {p:Mp} {s:Mh} {S:AE}
theorem Mk.ne(h:Mk w p s):p.gm≠p.gw:=λe=>by
 obtain⟨cs,hb,_⟩:=h.b;obtain⟨ds,hm,_⟩:=h.m;rw[←e] at hm;exact absurd rfl (Blk.ne_ hb hm Ak)
theorem Mk.nA(h:Mk w p s): ∀k,ab p.A=I k→k≠p.gm∧k≠p.gw:=λk e=>by
 obtain⟨cs,hb,_⟩:=h.b;obtain⟨ds,hm,_⟩:=h.m;have h1:=AZ h.code hb Ak;have h2:=AZ h.code hm Ak;rw[ab_own h.code e] at h1 h2;exact⟨λe=>h1 (by rw[e]),λe=>h2 (by rw[e])⟩
theorem Mk.fr(h:Mk w p s)(f:Fr S w w')(h1: ¬S p.gm)(h2: ¬S p.gw)(h3: ∀k,ab p.A=I k→ ¬S k):Mk w' p s:=
 ⟨h.b.fr f h1,h.m.fr f h2,AR h.code f (λk hk=>h3 k (own_ab hk)),h.gb,h.mb⟩
theorem Mk.fr0(h:Mk w p s)(f:Fr Aj w w'):Mk w' p s:=h.fr f id id (λ_ _ e=>e)
def setM(s:Mh)(j:Nat)(v:Int):Mh:={s with m:=upZ s.m j v}
def Jt(s:Mh)(i:Nat)(v:Int):Mh:={s with g:=upZ s.g i v}
def Dj(s:Mh)(v:Int):Mh:={s with at_:=v}
theorem Mk.word(h:Mk w p s)(j:Nat)(v:Int)(hv:U32 v):Mk (w.setCell ⟨p.gw,j,G⟩ (J V v)) p (setM s j v)∧Fr p.its w (w.setCell ⟨p.gw,j,G⟩ (J V v)):=by
 have f:Fr (· =p.gw) w (w.setCell ⟨p.gw,j,G⟩ (J V v)):=Br _ _ _ _;refine⟨⟨h.b.fr f h.ne,(h.m.set_ j _).congr (λi _=>?_),AR h.code f (λk hk=>(h.nA k (own_ab hk)).2),h.gb,λi=>?_⟩,f.mono (λk _ e=> Ah e)⟩;·show Bz _ j _ i=J V (upZ s.m j v i);unfold Bz upZ;split<;>rfl
 ·show U32 (upZ s.m j v i);unfold upZ;split;·exact hv
  ·exact h.mb i
theorem Mk.reg(h:Mk w p s)(j:Nat)(hj:j<16)(v:Int)(hv:U64 v):Mk (w.setCell ⟨p.gm,j,G⟩ (J AP v)) p (Jt s j v)∧Fr p.its w (w.setCell ⟨p.gm,j,G⟩ (J AP v)):=by
 have f:Fr (· =p.gm) w (w.setCell ⟨p.gm,j,G⟩ (J AP v)):=Br _ _ _ _;refine⟨⟨(h.b.set_ j _).congr (λi _=>?_),h.m.fr f (λe=>h.ne e.symm),AR h.code f (λk hk=>(h.nA k (own_ab hk)).1),λi=>?_,h.mb⟩,f.mono (λk _ e=> Af e)⟩
 ·show Bz (mhF p s) j _ i=mhF p (Jt s j v) i;unfold Bz mhF Jt upZ;by_cases e:i=j;·subst e;simp[hj]
  ·simp[e]
 ·show U64 (upZ s.g j v i);unfold upZ;split;·exact hv
  ·exact h.gb i
theorem Mk.place(h:Mk w p s)(v:Int):Mk (w.setCell ⟨p.gm,18,G⟩ (J U v)) p (Dj s v)∧Fr p.its w (w.setCell ⟨p.gm,18,G⟩ (J U v)):=by
 have f:Fr (· =p.gm) w (w.setCell ⟨p.gm,18,G⟩ (J U v)):=Br _ _ _ _;refine⟨⟨(h.b.set_ 18 _).congr (λi hi=>?_),h.m.fr f (λe=>h.ne e.symm),AR h.code f (λk hk=>(h.nA k (own_ab hk)).1),h.gb,h.mb⟩,f.mono (λk _ e=> Af e)⟩;show Bz (mhF p s) 18 _ i=mhF p (Dj s v) i;unfold Bz mhF Dj;by_cases e:i=18;·subst e;simp
 ·by_cases e1:i<16;·simp[e,e1]
  ·by_cases e2:i=16;·simp[e,e2]
   ·have e3:i=17:=O;simp[e3]
theorem Mk.c16(h:Mk w p s):w.cell? ⟨p.gm,16,G⟩=I (Z (I ⟨p.gw,0,G⟩) 256 256):=h.b.cell 16 O
theorem Mk.c17(h:Mk w p s):w.cell? ⟨p.gm,17,G⟩=I (Z p.A s.l.length p.c):=h.b.cell 17 O
theorem Mk.c18(h:Mk w p s):w.cell? ⟨p.gm,18,G⟩=I (J U s.at_):=h.b.cell 18 O
theorem Mk.creg(h:Mk w p s)(j:Nat)(hj:j<16):w.cell? ⟨p.gm,j,G⟩=I (J AP (s.g j)):=by
 rw[h.b.cell j O];unfold mhF;rw[An hj]
theorem Mk.cw(h:Mk w p s)(j:Nat)(hj:j<256):w.cell? ⟨p.gw,j,G⟩=I (J V (s.m j)):=h.m.cell j hj
theorem Mk.lt(h:Mk w p s):p.gm<↑w∧p.gw<↑w:=⟨h.b.lt,h.m.lt⟩
end
section
variable (w:Aa) (p:Mp) (s:Mh) (h:Mk w p s)
include h
theorem QW:At Tryz.prog 153 #[↑p.gm] w λe w'=>e=Ax (J U 256)∧w=w':=by
 have c16:=h.c16;exact CP
theorem GI(j:Nat)(hj:j<256):At Tryz.prog 158 #[↑p.gm,J U j] w λe w'=>e=Ax (J V (s.m j))∧w=w':=by
 have c16:=h.c16;have cj:=h.cw j hj;have b1:=(h.mb j).1;have b2:=(h.mb j).2;have g1:decide ((j:Int)<0)=Ac:=AC;have g2:decide ((j:Int)≥256)=Ac:=AA;generalize s.m j=v at*;exact VU
theorem JZ(j:Nat)(hj:j<256)(v:Int)(hv:U32 v):At Tryz.prog 154 #[↑p.gm,J U j,J V v] w λe w'=>e=Ax (Ap Ag)∧Mk w' p (setM s j v)∧Fr p.its w w':=by
 have c16:=h.c16;have cj:=h.cw j hj;have yj:=h.m.frozen j;have g1:decide ((j:Int)<0)=Ac:=AC;have g2:decide ((j:Int)≥256)=Ac:=AA;have HX:=T (h.word j v hv);generalize s.m j=x at*;clear h;go_in
 go_wp2
 go_ret;exact⟨rfl,HX.out.1,HX.out.2⟩
end
theorem nI(w:Aa)(b:Bool):At Tryz.prog 236 #[Ap b] w λe w'=>e=Ax (J AP (if b=Ag then 1 else 0))∧w=w':=T2
def Ju:AO:=CH #[J V 0] 256
theorem nJ(w:Aa):(Fp 36 (J .i64 256) (J .i64 256)).run Tryz.prog w=.ok (Z (I ⟨↑w,0,G⟩) 256 256) (w.alloc (.cells Ju 22)):=by
 obtain⟨i0,hi0,hz0,hz1,hz2⟩:=Cj Sv.info32;have hr:=run_make (P:=Tryz.prog) w 36 22 i0 (J V 0) Tryz.underlying36 hi0 hz0 U U 256 256 O O N3 O;simp only[hz1,Nat.mul_one] at hr;exact hr
theorem cellsZ(w:Aa)(n:Nat):Cells (w.alloc (.cells (CH #[J V 0] n) 22)) ↑w 22 n (λ_=> J V 0):=by
 have e:(CH #[J V 0] n).toList=DL n (J V 0):=QX;exact Ny
theorem cells256(w:Aa):Cells (w.alloc (.cells Ju 22)) ↑w 22 256 (λ_=> J V 0):=cellsZ w 256
abbrev mh0(gw:Nat):AO:=#[J AP 0,J AP 0,J AP 0,J AP 0,J AP 0,J AP 0,J AP 0,J AP 0,J AP 0,J AP 0,J AP 0,J AP 0,J AP 0,J AP 0,J AP 0,J AP 0,Z (I ⟨gw,0,G⟩) 256 256,Z G 0 0,J U 0]
theorem mh0_at(p:Mp): ∀i,i<19→(mh0 p.gw)[i]?=I (mhF ⟨p.gm,p.gw,G,0⟩ ⟨λ_=>0,λ_=>0,0,[]⟩ i):=by
 intro i hi;have h:i=0∨i=1∨i=2∨i=3∨i=4∨i=5∨i=6∨i=7∨i=8∨i=9∨i=10∨i=11∨i=12∨i=13∨i=14∨i=15∨i=16∨i=17∨i=18:=O;rcases h with rfl|rfl|rfl|rfl|rfl|rfl|rfl|rfl|rfl|rfl|rfl|rfl|rfl|rfl|rfl|rfl|rfl|rfl|rfl<;>rfl
theorem new_any(w:Aa):At Tryz.prog 120 #[J U 256] w λe w'=> ∃p:Mp,e=Ax (AF #[↑p.gm,J U 0])∧Mk w' p ⟨λ_=>0,λ_=>0,0,[]⟩∧↑w≤p.gm∧↑w≤p.gw∧Fr Aj w w':=by
 have hmk: ∀W,(Fp 36 (J .i64 256) (J .i64 256)).run Tryz.prog W=.ok (Z (I ⟨↑W,0,G⟩) 256 256) (W.alloc (.cells Ju 22)):=nJ;go_in
 go_wp2
 go_ret2;have hz:(w.alloc (.cells Ju 22)).heap.size=w.heap.size+1:=AC;have f1:Fr Aj (w.alloc (.cells Ju 22)) ((w.alloc (.cells Ju 22)).alloc (.cells (mh0 ↑w) 275)):=(Ao _ _).alloc _;have b1:Cells ((w.alloc (.cells Ju 22)).alloc (.cells (mh0 ↑w) 275)) (↑w+1) 275 19 (mhF ⟨↑w+1,w.heap.size,G,0⟩ ⟨λ_=>0,λ_=>0,0,[]⟩):=by
  have:=Cells.new (w.alloc (.cells Ju 22)) 275 (mh0 ↑w) _ (mh0_at ⟨↑w+1,w.heap.size,G,0⟩);rwa[hz] at this
 exact⟨⟨↑w+1,w.heap.size,G,0⟩,rfl,⟨b1,(cells256 w).fr f1 id,⟨rfl,Af ⟨rfl,rfl⟩⟩,λk=>⟨KM,by show(0:Int)≤_;omega⟩,λk=>⟨KM,by show(0:Int)≤_;omega⟩⟩,by show w.heap.size≤w.heap.size+1;omega,AD _,((Ao _ w).alloc _).tr f1⟩
end Hh
namespace Ar
open Gs Tr
end Ar
namespace Hh
open Gs Tr Em Hc
theorem load_any(w:Aa)(p:Mp)(s:Mh)(h:Mk w p s)(B n c:Nat)(A:Aw)(l:List HI)(hr:IntsAt AB w B A n (encL l))(hn:n=8*l.length)(hc:n≤c)(hB:B≤↑w)(ho:HAll l)(hl:l.length≤10000):At Tryz.prog 122 #[↑p.gm,Z A n c] w λe w'=> ∃A' c',e=Ax (J .i64 0)∧Mk w' ⟨p.gm,p.gw,A',c'⟩ ⟨s.g,s.m,0,l⟩∧Fr p.its w w':=by
 have Ha:=T (all_yes w B n c A l hr hn hc hB ho hl);have H:=T h;clear h hr hn hc hB ho;go_in;go_wp2_with fail;refine Az Ha ?_;rintro e w1 ⟨A',c',rfl,o1,f1⟩;have h1:=H.out.fr0 f1;have c17:=h1.c17;have c18:=h1.c18;have y17:=h1.b.frozen 17;have y18:=h1.b.frozen 18;have hlt:=h1.lt.1;have HX:=T (Ay o1 (Ay f1 h1));clear o1 f1 h1
 go_wp2
 go_ret;obtain⟨o1,f1,h1⟩:=HX.out;have f2:Fr (· =p.gm) w1 ((w1.setCell ⟨p.gm,17,G⟩ (Z A' l.length c')).setCell ⟨p.gm,18,G⟩ (J .i64 0)):=((Ao (λq=>q=p.gm) w1).setCell (p:=⟨p.gm,17,G⟩) (.inl rfl) _).setCell (p:=⟨p.gm,18,G⟩) (.inl rfl) _;have nA: ∀k,ab A'=I k→k≠p.gm:=λk e e2=>by
  have:=Cn o1 k (ab_own o1 e);have:=H.out.lt.1;omega
 refine⟨A',c',rfl,⟨?_,h1.m.fr f2 (λe=>h1.ne e.symm),AR (Ca.own_low o1 (Bj _)) f2 (λk hk e=>nA k (own_ab hk) e),h1.gb,h1.mb⟩,(f1.mono (λ_ _ e=>e.elim)).tr (f2.mono (λk _ e=> .inl e))⟩;refine((h1.b.set_ 17 (Z A' l.length c')).set_ 18 (J .i64 0)).congr (λi hi=>?_);unfold Bz mhF;by_cases e:i=18;·subst e;simp
 ·by_cases e2:i=17;·subst e2;simp
  ·by_cases e1:i<16;·simp[e,e2,e1]
   ·have e3:i=16:=O;simp[e3]
theorem big_shl(x y:Int)(h:64≤y):Op.shift .shl AP x AP y=pure (J AP 0):=by
 have hm:min y.toNat 64=64:=O;have hw:IntKind.u64.wrap (x*18446744073709551616)=0:=Mq;have hm2:min y.toNat IntKind.u64.bits=64:=hm;simp[Op.shift,hm2,hw];omega
theorem big_shr(x y:Int)(h:64≤y)(x0:0≤x)(x1:x≤18446744073709551615):Op.shift .shr AP x AP y=pure (J AP 0):=by
 have hm:min y.toNat 64=64:=O;have hm2:min y.toNat IntKind.u64.bits=64:=hm;have hd:x/18446744073709551616=0:=O;simp[Op.shift,hm2,hd,Int.fdiv_eq_ediv_of_nonneg];omega
theorem nK(w:Aa)(op:Nat)(a b:Int)(h0:2≤op)(h1:op≤13)(ha:U64 a)(hb:U64 b):At Tryz.prog 208 #[J U op,J AP a,J AP b] w λe w'=>e=Ax (J AP (Ck op a b))∧w=w':=by
 have hc:op=2∨op=3∨op=4∨op=5∨op=6∨op=7∨op=8∨op=9∨op=10∨op=11∨op=12∨op=13:=O;obtain⟨a0,a1⟩:=ha;obtain⟨b0,b1⟩:=hb;have wa:IntKind.u64.wrap (a+b)=(a+b)%18446744073709551616:=Gg _;have ws:IntKind.u64.wrap (a -b)=(a -b)%18446744073709551616:=Gg _;have wm:IntKind.u64.wrap (a*b)=a*b%18446744073709551616:=Gg _;clear h0 h1;rcases hc with rfl|rfl|rfl|rfl|rfl|rfl|rfl|rfl|rfl|rfl|rfl|rfl;·exact Of
 ·clear ws wm;rw[show Ck 3 a b=(a+b)%18446744073709551616 from rfl];generalize(a+b)%18446744073709551616=v at*;exact CP
 ·clear wa wm;rw[show Ck 4 a b=(a -b)%18446744073709551616 from rfl];generalize(a -b)%18446744073709551616=v at*;exact CP
 ·exact Of
 ·exact Of
 ·exact Of
 ·clear wa ws wm;by_cases hb:64≤b;·rw[show Ck 8 a b=0 by unfold Ck;simp[hb]];have hs:=big_shl a b hb;exact Mr
  ·rw[show Ck 8 a b=a*2^b.toNat%18446744073709551616 by unfold Ck;simp[hb]];have hs:Op.shift .shl AP a AP b=pure (J AP (IntKind.u64.wrap (a*2^b.toNat))):=shift_shl_u64 _ _ _ b0 O;rw[Gg] at hs;generalize a*2^b.toNat%18446744073709551616=v at*;exact Mr
 ·clear wa ws wm;by_cases hb:64≤b;·rw[show Ck 9 a b=0 by unfold Ck;simp[hb]];have hs:=big_shr a b hb a0 a1;exact Mr
  ·rw[show Ck 9 a b=a/2^b.toNat by unfold Ck;simp[hb]];have hs:Op.shift .shr AP a AP b=pure (J AP (a/2^b.toNat)):=shift_shr_u64 _ _ _ b0 O;generalize a/2^b.toNat=v at*;exact Mr
 ·clear wa ws;rw[show Ck 10 a b=a*b%18446744073709551616 from rfl];generalize a*b%18446744073709551616=v at*;exact CP
 ·clear wa ws wm;by_cases hb:b=0;·rw[show Ck 11 a b=0 by unfold Ck;simp[hb]];have hz:(b==0)=Ag:=LS;exact Mr
  ·rw[show Ck 11 a b=a/b by unfold Ck;simp[hb]];have hz:(b==0)=Ac:=LS;exact CP
 ·clear wa ws wm;rw[show Ck 12 a b=if decide (a<b)=Ag then 1 else 0 by unfold Ck;simp];obtain⟨q,hq⟩:=A8 (decide (a<b));exact XY
 ·clear wa ws wm;rw[show Ck 13 a b=if(a==b)=Ag then 1 else 0 by unfold Ck;simp];obtain⟨q,hq⟩:=A8 (a==b);exact XY
end Hh
end Go.Proofs.YtdfegdoeebaagaaGreatDoor
