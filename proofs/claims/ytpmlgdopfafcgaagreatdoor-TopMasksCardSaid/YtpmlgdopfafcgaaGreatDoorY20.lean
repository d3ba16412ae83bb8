import Derived.Test.YtpmlgdopfafcgaaGreatDoorY19
open Go.Value renaming int→J,slice→U,bool→Ap,tuple→AD,ownBlock→Bp,agg→AA,pointer→Bi
open Option renaming some→I,none→G
open Go.IntKind renaming i64→Z,u32→V,u64→AM,u8→AC,wrap_u64→Dk,wrap_u32→DH
open Bool renaming false→Aa,true→Af,false_ne_true→Da,false_and→D7
open Go renaming World→Ac,Value→As,Calls→At,bodyPost_ret→Bf,TypeId→AK,wp_region_held_drew→BY,info_parts→BH,Ending→AT,madeCells→Cb,maxLen→Br,Program→BW,undef→Bt,wpList→BL,bits→Bb,run_underlying→CX
open List renaming getD_eq_getElem?_getD→AN,getElem?_eq_getElem→Bj,length_append→BJ,append_assoc→BM,mem_map→Bo,getElem?_take_of_lt→Cw,replicate→BK,range→Bm,getElem?_append_right→CB,getElem_mem→BU,mem_append→BZ,getElem?_append_left→CO,getElem?_map→C7,cons_append→CC,mem_filter→C8,length_pos_iff→CP,length_cons→CK,mem_cons→Cy,getLastD_eq_getLast?→Dg,nil_append→CI,getElem?_eq_none→De,dropLast_concat→Do,mem_singleton→Dv,map_append→Df,length_map→Di,getElem_of_mem→DD,length_nil→Dp,concat_eq_append→DI,getElem?_range→DL,range_succ→DB,getElem?_replicate→DW,singleton_append→DV,map_cons→D6,map_map→D8,setIfInBounds_toArray→Eb
open Go.Ending renaming returned→Ax
open And renaming intro→A9
open Nat renaming le_refl→AE,lt_of_lt_of_le→AW,le_trans→AS,zero_le→AU,zero_add→Bn,eq_zero_or_pos→Dm,reduceEqDiff→Dq
open Or renaming inl→Ag,inr→Ah
open Go.Proofs.Tryz renaming underlying41→AP,underlying31→CF,underlying22→CV,underlying215→Dl,underlying26→DN
open Go.RowKit renaming intOf→AJ
open Int renaming eq_ofNat_of_zero_le→CM,toNat_natCast→C4,emod_eq_of_lt→CZ
open Go.Builtin renaming zeroCells→CG,delete_→Eh
open Array renaming getElem?_toList→CN,getElem?_eq_some_iff→DX
open Go.Region renaming wanted→CA
open Go.Result renaming andThen→CT
open Option.some renaming inj→Ds
open Go.MapKept renaming run_getObj_map→DJ,run_setObj_map→Ef
open Go.Instr renaming makeSlice→Dj,mapUpdate→DK
open Go.IntWalk renaming i64_in→Du
open Go.Lit renaming int→C9
open Go.Sem renaming run_bind→D5
set_option linter.all false
set_option maxHeartbeats 40000000
set_option maxRecDepth 1000000
open Go Go.RowKit
namespace Go.Proofs.YtpmlgdopfafcgaaGreatDoor
namespace Al
open Gs Sv Tr Em Ip Lf
def RowC(w:Ac)(g N:Nat)(pl:Nat→Int):Prop:=Cells w g 3 N (λi=> J Z (pl i))
variable{g:Nat}{pl:Nat→Int}
theorem RowC.set_{w:Ac}{N:Nat}(h:RowC w g N pl)(i:Nat)(v:Int):RowC (w.setCell ⟨g,i,G⟩ (J Z v)) g N (upZ pl i v):=
 (Cells.set_ h i (J Z v)).congr (λj _=>by
  unfold putV upZ;by_cases e:j=i;·simp[e]
  ·simp[e])
theorem RowC.i{w:Ac}{N:Nat}(h:RowC w g N pl):RowI w g N pl:=⟨h.lt,λi hi=>h.cell i hi⟩
theorem RowC.fr{w w':Ac}{N:Nat}{S:AG}(h:RowC w g N pl)(f:Fr S w w')(hs: ¬S g):RowC w' g N pl:=Cells.fr h f hs
structure Sp where
 gs:Nat
 gR:Nat
 gS:Nat
 gi:Nat
 cI:Nat
structure Sc(w:Ac)(p:Sp)(N:Nat)(reg slot:Nat→Int)(sl:Nat)(tt:Nat→Nat):Prop where
 b:Blk w p.gs 309 #[U (I ⟨p.gR,0,G⟩) N N,U (I ⟨p.gS,0,G⟩) N N,J Z sl,U (I ⟨p.gi,0,G⟩) N p.cI]
 r:RowC w p.gR N reg
 s:RowC w p.gS N slot
 i:IvC w p.gi p.cI N tt
 n1:p.gR≠p.gS
 n2:p.gs≠p.gR
 n3:p.gs≠p.gS
 n4:p.gi≠p.gs
 n5:p.gi≠p.gR
 n6:p.gi≠p.gS
def Sp.its(p:Sp)(k:Nat):Prop:=k=p.gs∨k=p.gR∨k=p.gS
section
variable {w w':Ac} {p:Sp} {N sl:Nat} {reg slot:Nat→Int} {tt:Nat→Nat} {S:AG}
theorem Sc.fr0(h:Sc w p N reg slot sl tt)(f:Fr Aj w w'):Sc w' p N reg slot sl tt:=
 ⟨h.b.fr f id,h.r.fr f id,h.s.fr f id,h.i.fr f id,h.n1,h.n2,h.n3,h.n4,h.n5,h.n6⟩
theorem Sc.setR(h:Sc w p N reg slot sl tt)(i:Nat)(v:Int):Sc (w.setCell ⟨p.gR,i,G⟩ (J Z v)) p N (upZ reg i v) slot sl tt:=
 ⟨h.b.fr (Bc w p.gR i _) h.n2,h.r.set_ i v,h.s.fr (Bc w p.gR i _) (λe=>h.n1 e.symm),h.i.fr (Bc w p.gR i _) h.n5,h.n1,h.n2,h.n3,h.n4,h.n5,h.n6⟩
theorem Sc.setS(h:Sc w p N reg slot sl tt)(i:Nat)(v:Int):Sc (w.setCell ⟨p.gS,i,G⟩ (J Z v)) p N reg (upZ slot i v) sl tt:=
 ⟨h.b.fr (Bc w p.gS i _) h.n3,h.r.fr (Bc w p.gS i _) h.n1,h.s.set_ i v,h.i.fr (Bc w p.gS i _) h.n6,h.n1,h.n2,h.n3,h.n4,h.n5,h.n6⟩
theorem Sc.setL(h:Sc w p N reg slot sl tt)(v:Nat):Sc (w.setCell ⟨p.gs,2,G⟩ (J Z v)) p N reg slot v tt:=
 ⟨h.b.set_ 2 _,h.r.fr (Bc w p.gs 2 _) (λe=>h.n2 e.symm),h.s.fr (Bc w p.gs 2 _) (λe=>h.n3 e.symm),h.i.fr (Bc w p.gs 2 _) h.n4,h.n1,h.n2,h.n3,h.n4,h.n5,h.n6⟩
end
theorem QK(w:Ac)(p:Sp)(N sl q:Nat)(reg slot:Nat→Int)(tt:Nat→Nat)(h:Sc w p N reg slot sl tt)(hq:q<N)(hN:N≤64)(hsl:sl≤65):At Tryz.prog 189 #[↑p.gs,J Z q] w λe w'=>e=Ax (AD #[])∧ ∃k:Nat,k≤N∧tkB tt slot q k N=Aa∧Sc w' p N (upZ reg q (-1)) (upZ slot q k) (max sl (k+1)) tt∧Fr p.its w w':=by
 have HS1:=T (h.setR q (-1));have c0:=h.b.cell 0;have hl0:=h.b.lt;have y0:=h.r.frozen q;have r0:w.cell? ⟨p.gR,q,G⟩=I (J Z (reg q)):=Cells.cell h.r q hq;have F1:=T (Bc w p.gR q (J Z (-1)));clear h;go_in;go_wp2_with fail;generalize w.setCell ⟨p.gR,q,G⟩ (J Z (-1))=w1 at*;clear c0 y0 r0 hl0;have c0:=HS1.out.b.cell 0;have c1:=HS1.out.b.cell 1;have c3:=HS1.out.b.cell 3;have hl0:=HS1.out.b.lt;have hn3:=HS1.out.n3;have Hf:Hid (∀W,Fr (λk=>k=p.gS) w1 W→Sc W p N (upZ reg q (-1)) slot sl tt→At Tryz.prog 187 #[↑p.gs,U (I ⟨p.gS,0,G⟩) N N,J Z q] W λe w'=> ∃k:Nat,e=Ax (J .i64 k)∧k≤N∧tkB tt slot q k N=Aa∧Fr Aj W w'):=T (λW f hs=>free_any W p.gs p.gi p.cI p.gS N N q tt slot hq hN (AE _) hs.b.lt (hs.b.cell 3) hs.i hs.s.i);refine BY (S:=Fr (λk=>k=p.gS) w1) AI ((Ao (λk=>k=p.gS) w1).drew) (λhH=>?_);refine Av 0 rfl hH Dc ?_;refine Av 1 rfl hH Dc ?_;refine Av 2 rfl hH Dc ?_
 try simp only[AF]
 refine Av 3 rfl hH Dc ?_;refine Av 4 rfl hH Dc ?_;refine Av 5 rfl hH Dc ?_
 try simp only[AF]
 refine Av 6 rfl hH Dc ?_;refine Av 7 rfl hH Dc ?_;refine Av 8 rfl hH Dc ?_
 try simp only[AF]
 refine Av 9 rfl hH Dc ?_;refine Av 10 rfl hH Dc ?_;refine Av 11 rfl hH Dc ?_
 try simp only[AF]
 refine Av 12 rfl hH Dc ?_
 try simp only[AF]
 refine AQ [13] ?_;refine AO (λK hK=>?_) ?_
 ·go_simp;go_wp2_with (refine(Hf.out _ (Ao _ w1).drew (HS1.out.fr0 (Ao Aj w1).drew)).mono ?_;rintro e w3 ⟨k,rfl,hk,hk2,f3⟩;have h3:=HS1.out.fr0 ((Ao Aj w1).drew.tr f3);have y3:=h3.s.frozen q;have s3:w3.cell? ⟨p.gS,q,G⟩=I (J Z (slot q)):=Cells.cell h3.s q hq;have HX3:=T (A9 h3 (A9 hk2 f3));clear h3 hk2 f3);refine hK.out _ _ (hH.tr (HX3.out.2.2.mono (λ_ _ e=>e.elim))) λhH=>?_;clear hK K;refine Av 14 rfl hH Dc ?_
  try simp only[AF]
  refine AQ [15] ?_;refine AO (λK hK=>?_) ?_
  ·go_simp;refine hK.out _ _ (hH.setCell (Ag rfl) _) λhH=>?_;clear hK K;refine Cg ?_;have h4:=HX3.out.1.setS q k;have F4:=T (((Ao (λk=>k=p.gS) w1).drew.tr (HX3.out.2.2.mono (λ_ _ e=>e.elim))).setCell (p:=⟨p.gS,q,G⟩) (Ag rfl) (J Z (k:Int)));generalize w3.setCell ⟨p.gS,q,G⟩ (J Z (k:Int))=w4 at*;clear c0 c1 c3 hl0 y3 s3;have c1:=h4.b.cell 1;have c2:=h4.b.cell 2;have y2:=h4.b.frozen 2;have hl4:=h4.b.lt;have s4:w4.cell? ⟨p.gS,q,G⟩=I (J Z (k:Int)):=(Cells.cell h4.s q hq).trans FV;have H4:=T h4;clear h4;go_wp2_with fail;go_still_tail 19,AI;go_wp2_with fail
   all_goals
    go_end0;refine⟨rfl,k,hk,HX3.out.2.1, ?_,(((F1.out.mono (S':=p.its) (λ_ _ e=>Or.inr (Or.inl e))).tr (F4.out.mono (S':=p.its) (λ_ _ e=>Or.inr (Or.inr e)))).setCell (p:=⟨p.gs,2,G⟩) (Or.inl (Or.inl rfl)) _).drew⟩;have hx:=(H4.out.setL (max sl (k+1))).fr0 (Ao Aj _).drew
    first
     |(have e:max sl (k+1)=sl:=O;rw[e] at hx⊢;exact hx)
     |(have e:max sl (k+1)=k+1:=O;rw[e] at hx⊢;exact hx)
     |(exfalso;have W1:IntKind.i64.wrap ((k:Int)+1)=(k:Int)+1:=(by first|go_num|(simp[IntKind.wrap];omega));omega)
  exact AR
 exact AR
end Al
namespace Al
open Gs Sv Tr Em Ip Lf
theorem Vu(w:Ac)(y:Nat)(hy:y≤64):At Tryz.prog 243 #[J AM 1,J AM y] w λe w'=>e=Ax (AD #[J AM 0,J AM y])∧w=w':=by
 have hm:Bb .and AM (y:Int) 4294967295=(y:Int):=by
  have h:=bits_and_u64_nat y 4294967295 O O;have e:y&&&4294967295=y%4294967296:=Nat.and_two_pow_sub_one_eq_mod y 32;rw[e,Nat.mod_eq_of_lt O] at h;exact h
 go_in;go_wp2_with fail;have m1:Bb .and AM 1 4294967295=1:=Db;have m0:Bb .and AM 0 4294967295=0:=Db;have d0:(y:Int)/4294967296=0:=O;have wy:=QL;have w0:IntKind.u64.wrap 0=0:=Db;simp only[m1,d0,Int.one_mul,Int.mul_zero,wy,w0,m0,Int.add_zero,Int.zero_ediv];go_ret2;exact⟨rfl,rfl⟩
theorem mul_one(w:Ac)(y:Nat)(hy:y≤64):At Tryz.prog 222 #[J AM 1,J AM y] w λe w'=>e=Ax (AD #[J AM 0,J AM y])∧w=w':=by
 have wy:=QL;have Hm:=T (λW=>Vu W y hy);go_in;go_wp2_with ((with_reducible refine(Hm.out _).mono ?_);rintro e w' ⟨rfl,rfl⟩);go_ret2;exact⟨rfl,rfl⟩
end Al
namespace Al
open Gs Sv Tr Em Ip Lf
theorem run_mkI(n:Nat)(hn:n≤1000)(w:Ac):(Dj 22 (J Z (n:Int)) (J Z (n:Int))).run Tryz.prog w=.ok (U (I ⟨↑w,0,G⟩) n n) (w.alloc (.cells (Cb #[J Z 0] n) 3)):=by
 obtain⟨i0,hi0,hz0,hz1,hz2⟩:=BH infoI;exact MQ
theorem cellsI(n:Nat)(w:Ac):Cells (w.alloc (.cells (Cb #[J Z 0] n) 3)) ↑w 3 n (λ_=> J Z 0):=by
 have e:(Cb #[J Z 0] n).toList=BK n (J Z 0):=JN;exact QM
theorem szI1:(Tryz.prog.info? 3).map (·.size)=I 1:=by
 obtain⟨i0,hi0,hz0,hz1,hz2⟩:=BH infoI;rw[hi0];simp[hz1]
def negs(n:Nat):List Int:=BK n (-1)
theorem negs_at(n i:Nat)(h:i<n):(negs n).getD i 0= -1:=by
 simp[negs,AN,DW,h]
def Ones(w:Ac)(g N k:Nat):Prop:= ∃f,Cells w g 3 N f∧ ∀i,i<k→f i=J Z (-1)
theorem Ones.ints{w:Ac}{g N k n:Nat}(h:Ones w g N k)(hn:n≤k)(hk:k≤N):IntsAt Z w (g+1) (I ⟨g,0,G⟩) n (negs n):=by
 obtain⟨f,hc,hf⟩:=h;refine⟨by simp[negs],λi hi=>by rw[negs_at n i hi];exact EQ (by omega) (by omega),λ_=>⟨g,0,rfl,O,λi hi=>?_⟩⟩;rw[negs_at n i hi,Bn,hc.cell i O,hf i O]
theorem Ones.put{w:Ac}{g N k n:Nat}{f:Nat→As}(hf: ∀i,i<k→f i=J Z (-1))(h:Cells w g 3 N (Go.Proofs.YtpmlgdopfafcgaaGreatDoor.putR f k ((negs n).map (J Z)))):Ones w g N (k+n):=by
 refine⟨_,h,λi hi=>?_⟩;unfold Go.Proofs.YtpmlgdopfafcgaaGreatDoor.putR;have hl:((negs n).map (J Z)).length=n:=by simp[negs]
 rw[hl];by_cases c:k≤i∧i<k+n;·rw[An c,AN,C7];simp[negs,DW,show i -k<n by omega]
 ·rw[Ae c];exact hf i O
theorem Ko(w:Ac)(g0 N:Nat)(hb:Blk w g0 3 #[J Z (-1)])(hN:N≤64):At Tryz.prog 185 #[U (I ⟨g0,0,G⟩) 1 1,J Z N] w λe w'=> ∃g,e=Ax (U (I ⟨g,0,G⟩) N N)∧w.heap.size≤g∧RowC w' g N (λ_=> -1)∧Fr Aj w w':=by
 have hmk: ∀W,(Dj 22 (J Z (N:Int)) (J Z (N:Int))).run Tryz.prog W=.ok (U (I ⟨↑W,0,G⟩) N N) (W.alloc (.cells (Cb #[J Z 0] N) 3)):=λW=>run_mkI N O W;have Hm:=T (λW=>mul_one W N hN);have wy:IntKind.u64.wrap (N:Int)=N:=FY;have wz:IntKind.i64.wrap (N:Int)=N:=Is;have HC0:=T (cellsI N w);have f0:Fr Aj w (w.alloc (.cells (Cb #[J Z 0] N) 3)):=(Ao _ w).alloc _;have hbl:=hb.lt;have HZ0:Hid (IntsAt Z (w.alloc (.cells (Cb #[J Z 0] N) 3)) (g0+1) (I ⟨g0,0,G⟩) (min 1 N) (negs (min 1 N))):=T (by
  have hc1:Cells w g0 3 1 (λ_=> J Z (-1)):=⟨_,hb,rfl,λi hi=>by
   obtain rfl:i=0:=O;rfl⟩
  have h1:Ones (w.alloc (.cells (Cb #[J Z 0] N) 3)) g0 1 1:=⟨λ_=> J Z (-1),Fv hc1 _,λ_ _=>rfl⟩;exact h1.ints O O)
 have HF0:=T f0;have hsz:=szI1;have g1:decide ((N:Int)<0)=Aa:=AB;have g2:decide ((9223372036854775807:Int)<(N:Int))=Aa:=A8;clear hb f0;go_in;go_wp2_with
  (first
   |((with_reducible refine(Hm.out _).mono ?_);rintro e w' ⟨rfl,rfl⟩)
   |(refine GL rfl (.tmp 31) (.tmp 32) 22 22 rfl 3 CV hsz w.heap.size 0 N N (I ⟨g0,0,G⟩) 1 1 rfl rfl 3 N _ HC0.out Z (g0+1) (min 1 N) (negs (min 1 N)) O HZ0.out O ?_;intro w2 hc2 f2;have HO:Hid (Ones w2 ↑w N (min 1 N)):=T (by have:=Ones.put (k:=0) (λi hi=>absurd hi (by omega)) hc2;rwa[Bn] at this);have HF2:Hid (Fr Aj w w2):=T (HF0.out.trans f2 (λi hi e=>by have:=e;omega));clear hc2 f2))
 trace "A"
 go_loopw [8] (λi wr=> ∃k:Nat,k≤N∧min 1 N≤k∧i=J Z k∧Hid (Ones wr ↑w N k)∧Hid (Fr Aj w wr)) (λi _=>N -(AJ i).toNat)
 case atStart=>exact⟨min 1 N,O,AE _,by first|rfl|(simp[goInt]),HO,HF2⟩
 case round=>
  obtain⟨k,hk,hk1,rfl,hO,hF⟩:=hrel;by_cases hlt:k<N
  ·obtain⟨f,hc,hf⟩:=hO.out;have hcd:=hc.drew;have hod:Ones wr.drew ↑w N k:=⟨f,hcd,hf⟩;have HZ:=T (Ones.ints (n:=min k (N -k)) hod O hk);have HC:=T hcd;have hgl:=hc.lt;have hne: ¬N=k:=O;have wk:IntKind.i64.wrap ((k:Int)+((min k (N -k):Nat):Int))=((k+min k (N -k):Nat):Int):=Is;clear hc hcd hod;go_wp2_with fail;go_region_law (
    refine Nm rfl (.tmp 41) (.tmp 44) 22 22 rfl 3 CV hsz w.heap.size k (N -k) (N -k) (I ⟨w.heap.size,0,G⟩) k N (by simp[Act.eval,Act.put,hne]) (by simp[Act.eval,Act.put,hne]) 3 N f HC.out Z (w.heap.size+1) (min k (N -k)) (negs (min k (N -k))) rfl HZ.out O ?_
    intro w3 hc3 f3
    have HO3:Hid (Ones w3 ↑w N (k+min k (N -k))):=T (Ones.put hf hc3)
    have HF3:Hid (Fr Aj w w3):=T (hF.out.drew.trans f3 (λi hi e=>by have:=e;omega))
    clear hc3 f3)
   all_goals
    simp only[AF]
    go_wp2
    go_roundw
    case rel=>exact⟨k+min k (N -k),O,O,rfl,HO3,HF3⟩
    case measure=>simp[AJ,goInt];omega
  ·obtain rfl:k=N:=O
   go_wp2
   go_ret;obtain⟨f,hc,hf⟩:=hO.out;exact⟨_,rfl,AE _,hc.congr (λi hi=>hf i hi),hF.out⟩
end Al
end Go.Proofs.YtpmlgdopfafcgaaGreatDoor
