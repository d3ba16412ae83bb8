import Derived.Test.YtpmlgdopfafcgaaGreatDoorY30
import Derived.Test.YtpmlgdopfafcgaaGreatDoorY31
open Go.Value renaming int→J,slice→U,bool→Ap,tuple→AD,ownBlock→Bp,agg→AA,pointer→Bi
open Option renaming some→I,none→G
open Go.IntKind renaming i64→Z,u32→V,u64→AM,u8→AC,wrap_u64→Dk,wrap_u32→DH
open Bool renaming false→Aa,true→Af,false_ne_true→Da,false_and→D7
open Go renaming World→Ac,Value→As,Calls→At,bodyPost_ret→Bf,TypeId→AK,wp_region_held_drew→BY,info_parts→BH,Ending→AT,madeCells→Cb,maxLen→Br,Program→BW,undef→Bt,wpList→BL,bits→Bb,run_underlying→CX
open List renaming getD_eq_getElem?_getD→AN,getElem?_eq_getElem→Bj,length_append→BJ,append_assoc→BM,mem_map→Bo,getElem?_take_of_lt→Cw,replicate→BK,range→Bm,getElem?_append_right→CB,getElem_mem→BU,mem_append→BZ,getElem?_append_left→CO,getElem?_map→C7,cons_append→CC,mem_filter→C8,length_pos_iff→CP,length_cons→CK,mem_cons→Cy,getLastD_eq_getLast?→Dg,nil_append→CI,getElem?_eq_none→De,dropLast_concat→Do,mem_singleton→Dv,map_append→Df,length_map→Di,getElem_of_mem→DD,length_nil→Dp,concat_eq_append→DI,getElem?_range→DL,range_succ→DB,getElem?_replicate→DW,singleton_append→DV,map_cons→D6,map_map→D8,setIfInBounds_toArray→Eb
open Go.Ending renaming returned→Ax
open And renaming intro→A9
open Nat renaming le_refl→AE,lt_of_lt_of_le→AW,le_trans→AS,zero_le→AU,zero_add→Bn,eq_zero_or_pos→Dm,reduceEqDiff→Dq
open Or renaming inl→Ag,inr→Ah
open Go.Proofs.Tryz renaming underlying41→AP,underlying31→CF,underlying22→CV,underlying215→Dl,underlying26→DN
open Go.RowKit renaming intOf→AJ
open Int renaming eq_ofNat_of_zero_le→CM,toNat_natCast→C4,emod_eq_of_lt→CZ
open Go.Builtin renaming zeroCells→CG,delete_→Eh
open Array renaming getElem?_toList→CN,getElem?_eq_some_iff→DX
open Go.Region renaming wanted→CA
open Go.Result renaming andThen→CT
open Option.some renaming inj→Ds
open Go.MapKept renaming run_getObj_map→DJ,run_setObj_map→Ef
open Go.Instr renaming makeSlice→Dj,mapUpdate→DK
open Go.IntWalk renaming i64_in→Du
open Go.Lit renaming int→C9
open Go.Sem renaming run_bind→D5
set_option linter.all false
set_option maxHeartbeats 40000000
set_option maxRecDepth 1000000
open Go Go.RowKit
namespace Go.Proofs.YtpmlgdopfafcgaaGreatDoor
namespace Bl
open Fm Nt Rm By Wk Gs Bs Mu Sv Gm Gc Rn Eg
abbrev gtc(gp:Nat)(a:Ab)(A:Au)(ge:Nat)(s:St)(X Y:As):AL:=
 #[↑a.gB,↑a.am.gm,↑gp,J Z 0,↑A.gU,↑ge,J V s.pc,X,Y,J V s.fl,Ap s.su,Ap s.pg,Ap s.ie,J V s.rt,J V s.ve,J V s.ep,J V s.ca,J V s.ad,Ap s.es,Ap s.ei,J AM s.ct,Ap s.ha,Ap Aa]
theorem othG:Oth 50:=⟨Ak,Ak,Ak,Ak⟩
theorem gtc_mid(gp:Nat)(a:Ab)(A:Au)(ge:Nat)(s:St)(X Y:As): ∀j v,(stc s X Y).toList[j]?=I v→(gtc gp a A ge s X Y)[6+j]?=I v:=λj v h=>by
 match j with
 |0=>exact h
 |1=>exact h
 |2=>exact h
 |3=>exact h
 |4=>exact h
 |5=>exact h
 |6=>exact h
 |7=>exact h
 |8=>exact h
 |9=>exact h
 |10=>exact h
 |11=>exact h
 |12=>exact h
 |13=>exact h
 |14=>exact h
 |15=>exact h
 |j+16=>simp[stc] at h
structure Gt(w:Ac)(K:AG)(gg:Nat)(a:Ab)(A:Au)(ge:Nat)(e:Eo)(s:St)(g:Mc):Prop where
 ex: ∃gp X c Y d,Blk w gg 50 (gtc gp a A ge s (U X s.d.length c) (U Y s.r.length d))∧StV w 0 s (U X s.d.length c) (U Y s.r.length d)∧(∀k,ab X=I k→ab Y≠I k)∧
  ∃P,(∀k,ab X=I k∨ab Y=I k→P k)∧(∀k,e.own ge k→P k∧k≠0)∧P gg∧(∀k,K k→P k)∧Mch w P a A g
 en:En w ge e
 rk:Rk s
 own: ∀k,K k→ ¬e.own ge k∧k≠gg
section
variable {w w':Ac} {K K':AG} {gg:Nat} {a:Ab} {A:Au} {ge:Nat} {e:Eo} {s:St} {g:Mc} {S:AG}
theorem Gt.lt(h:Gt w K gg a A ge e s g):gg<↑w∧ ∀k,K k→k<w.heap.size:=by
 obtain⟨gp,X,c,Y,d,hb,hS,hne,P,p1,p2,p3,p4,hM⟩:=h.ex;exact⟨hb.lt,λk hk=>hM.pl k (p4 k hk)⟩
theorem Gt.fr(h:Gt w K gg a A ge e s g)(f:Fr S w w')(hs: ∀k,S k→K k)(h0: ¬S 0)(hr: ∀k t,S k→Ca.srt w k=I (I t)→t≠24):Gt w' K gg a A ge e s g:=by
 obtain⟨gp,X,c,Y,d,hb,hS,hne,P,p1,p2,p3,p4,hM⟩:=h.ex;have row: ∀{v:As} {n:Nat} {xs:List As},w.ownsRow 0 24 1 v n xs→ ∀k,v.ownBlock=I k→ ¬S k:=λhv k hk q=>by
  rcases hv.2 with⟨e2,_⟩|⟨g',cap,cur,e2,_,hb,_⟩;·rw[e2] at hk;simp[Bp] at hk
  ·rw[e2] at hk;have:g'=k:=RX;subst this;exact hr _ _ q (Ca.srt_blk hb) rfl
 exact⟨⟨gp,X,c,Y,d,hb.fr f (λq=>(h.own _ (hs _ q)).2 rfl),hS.fr f (row hS.d) (row hS.r),hne,P,p1,p2,p3,p4,hM.fr f (λk hk=>p4 k (hs k hk)) h0⟩,h.en.fr f (λk hk q=>(h.own k (hs k q)).1 hk),h.rk,h.own⟩
theorem Gt.fr0(h:Gt w K gg a A ge e s g)(f:Fr Aj w w'):Gt w' K gg a A ge e s g:=h.fr f (λ_ q=>q.elim) (λq=>q) (λ_ _ q=>q.elim)
theorem Gt.less(h:Gt w K gg a A ge e s g)(hk: ∀k,K' k→K k):Gt w K' gg a A ge e s g:=by
 obtain⟨gp,X,c,Y,d,hb,hS,hne,P,p1,p2,p3,p4,hM⟩:=h.ex;exact⟨⟨gp,X,c,Y,d,hb,hS,hne,P,p1,p2,p3,λk q=>p4 k (hk k q),hM⟩,h.en,h.rk,λk q=>h.own k (hk k q)⟩
end
theorem wpL_ldG{w:Ac}{gp gg:Nat}{a:Ab}{A:Au}{ge:Nat}{s:St}{X Y:As}(h:Blk w gg 50 (gtc gp a A ge s X Y)){ops:Array Oper}{rest:List Oper}{ac:Act}{Q:Exit→Act→Ac→Prop}{dst:Option Tmp}{t2:AK}{pos:String}{af:Array Edge}{x:Operand}(hx:ac.eval x=Bi (I ⟨gg,6,G⟩))(hk:BL Tryz.prog ops Q rest (ac.put dst (AA (stc s X Y))) w):BL Tryz.prog ops Q (⟨dst,.load 41 x,t2,pos,af,G⟩::rest) ac w:=by
 refine wpList_load_mid rfl 41 x rfl gg 6 hx (stc s X Y).toList _ (λj v hv=>Se) AP rfl (by rw[sz16];rfl) ?_;simpa using hk
theorem KG(w:Ac)(K:AG)(gg:Nat)(a:Ab)(A:Au)(ge:Nat)(e:Eo)(s:St)(g:Mc)(h:Gt w K gg a A ge e s g):At Tryz.prog 13 #[↑gg] w (GivesS w s):=by
 obtain⟨gp,X,c,Y,d,hb,hS,hne,_⟩:=h.ex;have hk:=h.rk;have b1:=hb.fr ((Ao Aj w).alloc (.cells z16 41)) id;have b2:=AH w 41 z16;have f1:=(Ao Aj w).alloc (.cells z16 41);have hz1:(w.alloc (.cells z16 41)).heap.size=w.heap.size+1:=AB;have S1:=hS.fr0 f1;generalize hW1:w.alloc (.cells z16 41)=W1 at*;have HW:=T hW1;have HB2:=T b2;have HF1:=T f1;have HZ1:=T hz1;have Hc:=T (copy_any W1 0 s _ _ S1 KI KJ);clear hb hS hne hk b2 f1 hz1 S1 hW1;go_in;go_upto_region 1 with(fail);rw[HW.out];have kl:=b1.lt;go_wp2_with ((with_reducible refine wpL_ldG b1 ?q1 ?_);(case q1=>rfl));refine Ay Hc ?_;rintro e2 w2 ⟨A2,c2,B2,d2,rfl,h2,ne2,f2⟩;have b3:=HB2.out.fr f2 id;have o2:=one16 s (U A2 s.d.length c2) (U B2 s.r.length d2) rfl rfl;have HG:=T (A9 h2 (A9 ne2 f2));clear h2 ne2 f2 b1 Hc;go_wp2_with (((with_reducible refine wpL_sq (cs':=stc s (U A2 s.d.length c2) (U B2 s.r.length d2)) b3 sz16 o2 ?_);intro W7 b7 f7;have HB7:=T b7;have HF7:=T f7;clear b7 f7 b3 o2));refine Bf (CJ rfl _ _ w.heap.size 41 _ _ rfl HB7.out AP rfl sz16) rfl ?_;obtain⟨h2,ne2,f2⟩:=HG.out;have e1: ∀k,w.heap.size+1≤k→ ¬k=w.heap.size:=λk hk=>O;refine⟨A2,c2,B2,d2,rfl, ?_,ne2,((HF1.out.tr f2).trans HF7.out (λk hk q=>O))⟩;refine(h2.fr HF7.out (λk hk q=>e1 k ?_ q) (λk hk q=>e1 k ?_ q)).low (by rw[HZ1.out];omega);·have:=h2.d.ge k hk;rw[HZ1.out] at this;exact this
 ·have:=h2.r.ge k hk;rw[HZ1.out] at this;exact this
end Bl
namespace Bl
open Fm Nt Rm By Wk Gs Bs Mu Sv Gm Gc Rn Eg
theorem pages_any(w:Ac)(n:Nat)(hn:n≤1000000000):At Tryz.prog 30 #[J Z n] w λe w'=>e=Ax (J Z ((n+63)/64:Nat))∧w=w':=by
 go_in
 go_wp2
 go_ret;refine⟨?_,rfl⟩;show Ending.returned (J Z (((n:Int)+64 -1)/64))=_;rw[show((n:Int)+64 -1)/64=(((n+63)/64:Nat):Int) by omega]
theorem ints_up{k:IntKind}{w:Ac}{B B2 n:Nat}{A:Aw}{zs:List Int}(h:IntsAt k w B A n zs)(hB:B≤B2):IntsAt k w B2 A n zs:=
 ⟨h.1,h.2.1,λhn=>by
  obtain⟨g,off,h1,h2,h3⟩:=h.2.2 hn;exact⟨g,off,h1,O,h3⟩⟩
theorem puts_tu(m:Ms)(zs:List Int)(p:Nat)(h:m.tu p=Aa): ∀k,k≤p*64→(m.puts 0 zs k).tu p=Aa
 |0,_=>h
 |k+1,hk=>by
  show updB (m.puts 0 zs k).tu ((0+k)/64) Af p=Aa;unfold updB;rw[Ae O];exact puts_tu m zs p h k O
theorem load_tu(n:Nat)(zs:List Int)(h:zs.length≤n*64): ∀k,((Ms.new n).load zs).n≤k→k<64→((Ms.new n).load zs).tu k=Aa:=λk hk _=>by
 have e:=Sq;rw[e] at hk⊢;rw[puts_n] at hk;have hk:n≤k:=hk;exact puts_tu _ zs k rfl zs.length (AS h (Nat.mul_le_mul_right 64 hk))
abbrev gtc0(gp:Nat)(a:Ab)(A:Au)(v:As)(s:St)(X Y:As):AL:=
 #[↑a.gB,↑a.am.gm,↑gp,J Z 0,↑A.gU,v,J V s.pc,X,Y,J V s.fl,Ap s.su,Ap s.pg,Ap s.ie,J V s.rt,J V s.ve,J V s.ep,J V s.ca,J V s.ad,Ap s.es,Ap s.ei,J AM s.ct,Ap s.ha,Ap Aa]
def GNew(w:Ac)(n:Nat)(bs ds:List Int)(v:Nat→As)(e:AT)(w':Ac):Prop:=
 ∃gg a A ge eo,e=Ax (v gg)∧Gt w' (λk=>k<w.heap.size) gg a A ge eo St.new (mc0 n bs ds)∧eo.s.fl=0∧Fr Aj w w'
theorem rk_new:Rk St.new:=⟨⟨Ak,Ak,Ak,Ak,Ak,Ak,Ak,Ak,λz hz=>absurd hz Gr,λz hz=>absurd hz Gr⟩,Ak,Ak,Ak⟩
theorem st_new(w:Ac):StV w 0 St.new (U G 0 0) (U G 0 0):=⟨⟨rfl,Ag ⟨rfl,rfl⟩⟩,⟨rfl,Ag ⟨rfl,rfl⟩⟩,rk_new.1⟩
theorem gnew_end{w W0 w4 w5 w6 w7 w8 w9:Ac}{b:Am}{a:Ab}{A:Au}{F:AG}{n:Nat}{bs ds:List Int}{gg ge gc gm gm2:Nat}(hT:Iq.Tab w)(f0:Fr Aj w W0)(h4:FreshM w b ((Ms.new n).load bs) w4)(hal:a.am=b)(hB:Bus w5 F a (Sb.new ((Ms.new n).load bs) ds)∧(∀k,a.wr F k∨k=a.gd→w4.heap.size≤k∨b.own k)∧Fr Aj w4 w5)(hU:A.am=b∧Un w6 A ⟨(Ms.new n).load bs,Mu.noL⟩∧↑w5≤A.gU∧↑w5≤A.gB∧Fr Aj w5 w6)(f7:Fr Aj w6 w7)(hG:Fr Aj w7 w8∧↑w7=gg)(hg8:gg<↑w8)(hE:En w9 ge (Eo.new 32 gc gm gm2)∧(∀q,(Eo.new 32 gc gm gm2).own ge q→w8.heap.size≤q)∧Fr Aj w8 w9)(hb:Blk w9 gg 50 (gtc0 ↑w a A (.pointer G) St.new (U G 0 0) (U G 0 0))):GNew w n bs ds (λgg=> AD #[Bi (I ⟨gg,0,G⟩),J Z 0]) (Ax (AD #[Bi (I ⟨gg,0,G⟩),J Z 0])) (w9.setCell ⟨gg,5,G⟩ ↑ge):=by
 obtain⟨hM,hown4,hf4⟩:=h4;obtain⟨hbu,hwr,f5⟩:=hB;obtain⟨hAm,hun,hgU,hgB,f6⟩:=hU;obtain⟨fG,rfl⟩:=hG;obtain⟨hen,hown,f9⟩:=hE;have F69:=(f7.tr fG).tr f9;have s4:=hf4.size;have s5:=f5.size;have s6:=f6.size;have s7:=f7.size;have s8:=fG.size;have s9:=f9.size;have hul:=hun.lt;have hlb:=hbu.lt;have hbl:=hb.lt;have g8:w7.heap.size<w8.heap.size:=hg8;have Fw9:Fr Aj w w9:=((hf4.tr f5).tr f6).tr F69;have fS:Fr (λq=>q=w7.heap.size) w9 (w9.setCell ⟨↑w7,5,G⟩ ↑ge):=(Ao (λq=>q=w7.heap.size) w9).setCell (p:=⟨↑w7,5,G⟩) (Ag rfl) _;have h0:=hT.1;have hMc:Mch w9 (λk=>k<w.heap.size∨(Eo.new 32 gc gm gm2).own ge k∨k=w7.heap.size) a A (mc0 n bs ds):=by
  refine⟨⟨F,hbu.fr0 (f6.tr F69),λk hk=>?_⟩,hun.fr0 F69,by rw[hAm,hal],⟨?_, ?_⟩,tab_fr hT Fw9 id,Ag h0,λk hk=>?_⟩
  ·have hl:=hlb k hk;have hlo:↑w≤k:=by
    rcases hwr k hk with q|q;·omega
    ·exact hown4 k q
   refine⟨λq=>?_,O,O⟩;rcases q with q|q|q;·omega
   ·have:=hown k q;omega
   ·omega
  ·intro q;have:=hul _ (Ag rfl);exact S6
  ·intro q;have:=hul _ (Ah (Ag rfl));exact S6
  ·rcases hk with q|q|q;·have:=Fw9.size;omega
   ·exact hen.own_lt k q
   ·omega
 have hn0: ∀k:Nat,(G:Aw).bind (λa=>I a.block)=I k→False:=λk e=>EW;refine⟨↑w7,a,A,ge,Eo.new 32 gc gm gm2,rfl,⟨⟨↑w,G,0,G,0,hb.set_ 5 _,st_new _,λk e=>?_,λk=>k<w.heap.size∨(Eo.new 32 gc gm gm2).own ge k∨k=w7.heap.size,λk e=>?_,λk e=>⟨Ah (Ag e),by have:=hown k e;omega⟩,Ah (Ah rfl),λk e=> Ag e,hMc.fr fS (λk e=> Ah (Ah e)) (λe=>by have e:0=w7.heap.size:=e;omega)⟩,hen.fr fS (λk hk e=>by have:=hown k hk;have e:k=w7.heap.size:=e;omega),rk_new,λk hk=>⟨λq=>by have:=hown k q;omega,O⟩⟩,rfl,Fw9.trans fS (λk hk e=>O)⟩;·simp[ab] at e
 ·rcases e with e|e;·simp[ab] at e
  ·simp[ab] at e
set_option maxRecDepth 1000000 in
theorem gnew_any(w W:Ac)(f1:Fr Aj w W)(hP:Pool W ↑w Pl.new)(hT:Iq.Tab w)(n:Nat)(hn0:1≤n)(hn1:n≤64)(A1:Aw)(n1 c1:Nat)(bs:List Int)(h1:IntsAt AC w ↑w A1 n1 bs)(l1:n1≤n*64)(A2:Aw)(n2 c2:Nat)(ds:List Int)(h2:IntsAt AC w ↑w A2 n2 ds)(l2:n2≤1024):At Tryz.prog 21 #[Bi (I ⟨↑w,0,G⟩),J Z 0,AA #[U A1 n1 c1,U A2 n2 c2,J Z n],Ap Af] W (GNew w n bs ds (λgg=> AD #[Bi (I ⟨gg,0,G⟩),J Z 0])):=by
 have g1:decide (((n1+63)/64:Nat)>(n:Int))=Aa:=A8;have g2:decide ((n2:Int)>1024)=Aa:=A8;have Hpg:=T (λW=>pages_any W n1 O);have Hpr:=T (promRN (o:=0) (n:=n) O O hn1);have f0:Fr Aj W (W.alloc (.cells #[U A1 n1 c1,U A2 n2 c2,J Z n] 36)):=(Ao _ _).alloc _;have b6:=AH W 36 #[U A1 n1 c1,U A2 n2 c2,J Z n];have F0:=T (f1.tr f0);have hf1s:=f1.size;have B6:=T b6;have HP0:Hid (Pool (W.alloc (.cells #[U A1 n1 c1,U A2 n2 c2,J Z n] 36)) ↑w Pl.new):=T (hP.fr f0 id);generalize hW0:W.alloc (.cells #[U A1 n1 c1,U A2 n2 c2,J Z n] 36)=W0 at*;have HW:=T hW0;have HWl0:Hid (w.heap.size≤W.heap.size∧w.heap.size≠W.heap.size):=T ⟨hf1s,by have:=hP.lt;omega⟩;have k0:W0.cell? ⟨↑W,0,G⟩=I (U A1 n1 c1):=b6.cell 0;have k1:W0.cell? ⟨↑W,1,G⟩=I (U A2 n2 c2):=b6.cell 1;have k2:W0.cell? ⟨↑W,2,G⟩=I (J .i64 n):=b6.cell 2;have kl:=b6.lt;have HT:=T hT;have HI:=T (A9 h1 h2);clear f0 b6 hP f1 hW0 hT h1 h2 hf1s;go_in;go_upto_region 1 with(fail);rw[HW.out];go_upto_region 3 with(fail);go_cut [22] (λv wx=>v=Ap Aa∧Hid (Fr Aj W0 wx));case first=>
  refine BY (S:=λX=>X.cell? ⟨↑W,0,G⟩=I (U A1 n1 c1)∧X.cell? ⟨↑W,1,G⟩=I (U A2 n2 c2)∧X.cell? ⟨↑W,2,G⟩=I (J .i64 n)∧W.heap.size<X.heap.size) AI (⟨k0,k1,k2,kl⟩) (λhH=>?_);have HF:=T ((Ao Aj W0).drew);generalize W0.drew=wv at hH HF⊢;refine Av 0 rfl hH Dy ?_;refine Av 1 rfl hH Dy ?_;refine Av 2 rfl hH Dy ?_
  try simp only[AF]
  refine Av 4 rfl hH Dy ?_;refine Av 5 rfl hH Dy ?_
  try simp only[AF]
  refine AQ [3,6] ?_;refine AO (λK hK=>?_) ?_
  ·go_simp;go_wp2_with ((with_reducible refine(Hpg.out _).mono ?_);rintro e w1 ⟨rfl,rfl⟩);refine hK.out _ _ hH λhH=>?_;clear hK K;refine AQ [6] ?_;refine AO (λK hK=>?_) ?_;·go_simp;exact S7
   exact AR
  refine AO (λK hK=>?_) ?_
  ·go_simp;refine hK.out _ _ hH λhH=>?_;clear hK K;refine AQ [3] ?_;refine AO (λK hK=>?_) ?_;·go_simp;go_wp2_with ((with_reducible refine(Hpg.out _).mono ?_);rintro e w1 ⟨rfl,rfl⟩);exact S7
   exact AR
  exact AR
 case rest=>
  obtain⟨rfl,HF3⟩:=hcut;obtain⟨w1,rfl⟩: ∃y,y=wc:=⟨_,rfl⟩;have x0:=HF3.out.cell k0 kl id;have x1:=HF3.out.cell k1 kl id;have x2:=HF3.out.cell k2 kl id;have xl:=AW kl HF3.out.size;have HWl:Hid (w.heap.size≤W.heap.size∧w.heap.size≠W.heap.size):=T HWl0.out;have HX:=T (A9 x0 (A9 x1 xl));clear k0 k1 k2 kl g1 g2;go_wp2_with fail;refine(Nt.new_yes w1 ↑w Pl.new 0 n (HP0.out.fr HF3.out id) new_ok O O hn0 hn1 Hpr.out).mono ?_;rintro e w2 ⟨ad,rfl,ha,hTb,hP2,hbl,f2⟩;have hB:=born (w:=w) (w1:=w1) O O hn0 hn1 ha hTb hP2 hbl (F0.out.tr HF3.out) f2;have hB2:=hB;obtain⟨s,hPs,_,hI,_,_⟩:=hB2;have hnw:=Rm.new_any w2 ad s n 0 hPs hTb hI;rw[ha] at hnw;have Hnw:=T hnw;have HB:=T hB;have hno: ¬Am.own ⟨ad,w2.heap.size⟩ W.heap.size:=λr=>by
   have h1:=f2.size;rcases r with r|r|r;·have r:W.heap.size=w2.heap.size:=r;omega
   ·have:=hbl _ r;omega
   ·have r:↑W=ad.gp:=r;have:=HWl.out.2;omega
  have HNO:=T hno;clear hno;have y0:=f2.cell HX.out.1 HX.out.2.2 (λe=>HWl.out.2 e.symm);have y1:=f2.cell HX.out.2.1 HX.out.2.2 (λe=>HWl.out.2 e.symm);have yl:=AW HX.out.2.2 f2.size;clear hnw hB ha hTb hP2 hbl f2 hPs hI x0 x1 x2 xl HX HP0;go_wp2_with fail;refine Ay Hnw ?_;rintro e w3 ⟨rfl,hM,f3⟩;have hF:=born_mem HB.out hM f3;have z0:=f3.cell y0 yl id;have z1:=f3.cell y1 yl id;have zl:=AW yl f3.size;clear y0 y1 yl;generalize hga:(⟨ad,w2.heap.size⟩:Am)=b at*;have hgm:↑w2=b.gm:=by rw[←hga]
  have hld:=Rm.load_any w3 b (Ms.new n) hM A1 n1 c1 ↑w bs (HI.out.1.fr hF.2.2 (AE _) (λ_ _ e=>e)) hF.2.2.size (λhn b' off e ho=>by have:=By.IntsAt.lt_ HI.out.1 b' off e hn;have:=hF.2.1 b' ho;omega) Bu;rw[show loadE (Ms.new n) n1=0 by rw[loadE,An (by show n1≤n*64;exact l1)],←hgm] at hld;have Hld:=T hld;have HF:=T hF;have Hgm:=T hgm;have Bg:=T (A9 z1 zl);clear hld hF hga hM f3 HB Hnw;rw[hgm] at*;clear hgm;go_wp2_with fail;refine Ay Hld ?_;rintro e w4 ⟨rfl,hM4,f4⟩;have HF4:=T (HF.out.fr hM4 f4);have u1:=f4.cell Bg.out.1 Bg.out.2 HNO.out;have ul:=AW Bg.out.2 f4.size;clear z0 z1 zl hM4 f4 Hld;go_wp2_with fail;obtain⟨hM4,hown4,hf4⟩:=HF4.out;have htu: ∀k,((Ms.new n).load bs).n≤k→k<64→((Ms.new n).load bs).tu k=Aa:=load_tu n bs (by rw[HI.out.1.1];exact l1);have Hbn:=T (Bs.new_any w4 b _ hM4 htu A2 n2 c2 ds (ints_up (HI.out.2.fr hf4 (AE _) (λ_ _ e=>e)) hf4.size) l2);have HTU:=T htu;clear hM4 hown4 hf4 htu u1 ul HNO Bg HF;refine Ay Hbn ?_;rintro e w5 ⟨a,F,rfl,hal,hbu,hwr,f5⟩;have HM5:=T (HF4.out.1.fr0 f5);have HBU:=T (A9 hbu (A9 hwr f5));have Hun:=T (unew_any w5 b _ HM5.out);have HGM:Hid (b.gm=a.am.gm):=T (by rw[hal]);have HAL:=T hal;clear hal hbu hwr f5 Hbn;go_wp2_with fail;refine Ay Hun ?_;rintro e w6 ⟨A,rfl,hAm,hun,hgU,hgB,f6⟩;have HU:=T (A9 hAm (A9 hun (A9 hgU (A9 hgB f6))));clear hAm hun hgU hgB f6 Hun;go_upto_region 12 with(fail);go_wp2_with fail;refine(Sv.new_any w6).mono ?_;rintro e w7 ⟨rfl,f7⟩;have HF7:=T f7;clear f7;rw[HGM.out];have bG:=AH w7 50 (gtc0 ↑w a A (.pointer G) St.new (U G 0 0) (U G 0 0));have fG:Fr Aj w7 (w7.alloc (.cells (gtc0 ↑w a A (.pointer G) St.new (U G 0 0) (U G 0 0)) 50)):=(Ao _ _).alloc _;go_upto_region 13 with(fail);generalize w7.alloc (.cells (gtc0 w.heap.size a A (.pointer G) St.new (U G 0 0) (U G 0 0)) 50)=w8 at*;obtain⟨gg,hgg⟩:=Az w7.heap.size;rw[hgg] at bG⊢;have HBG:=T bG;have HFG:=T (A9 fG hgg);have He:=T (enew_any w8 32 O O);clear bG fG hgg;go_wp2_with fail;refine Ay He ?_;rintro e w9 ⟨ge,gc,gm,gm2,rfl,hen,hown,f9⟩;have b9:=HBG.out.fr f9 id;have HB9:=T b9;have t5:=b9.cell 5;have v5:=b9.frozen 5;have tl:=b9.lt;have HE:=T (A9 hen (A9 hown f9));clear b9 hen hown f9 He
  go_wp2
  go_ret2;exact gnew_end HT.out F0.out HF4.out HAL.out HBU.out HU.out HF7.out HFG.out HBG.out.lt HE.out HB9.out
end Bl
namespace Bl
open Fm Nt Rm By Wk Gs Bs Mu Sv Gm Gc Rn Eg
theorem S8(w:Ac)(hT:Iq.Tab w)(n:Nat)(hn0:1≤n)(hn1:n≤64)(A1:Aw)(n1 c1:Nat)(bs:List Int)(h1:IntsAt AC w ↑w A1 n1 bs)(l1:n1≤n*64)(A2:Aw)(n2 c2:Nat)(ds:List Int)(h2:IntsAt AC w ↑w A2 n2 ds)(l2:n2≤1024):At Tryz.prog 11 #[AA #[U A1 n1 c1,U A2 n2 c2,J Z n],Ap Af] w (GNew w n bs ds (λgg=> Bi (I ⟨gg,0,G⟩))):=by
 have f0:Fr Aj w (w.alloc (.cells #[U A1 n1 c1,U A2 n2 c2,J Z n] 36)):=(Ao _ _).alloc _;have b2:=AH w 36 #[U A1 n1 c1,U A2 n2 c2,J Z n];have hz:(w.alloc (.cells #[U A1 n1 c1,U A2 n2 c2,J Z n] 36)).heap.size=w.heap.size+1:=AB;generalize hW0:w.alloc (.cells #[U A1 n1 c1,U A2 n2 c2,J Z n] 36)=W0 at*;have HW:=T hW0;have F0:=T f0;have HB:=T b2;have HZ:=T hz;have HT:=T (tab_fr hT f0 id);have H1:=T (h1.fr f0 (AE _) (λ_ _ e=>e));have H2:=T (h2.fr f0 (AE _) (λ_ _ e=>e));clear hW0 f0 b2 hT h1 h2 hz;go_in;go_upto_region 1 with(fail);rw[HW.out];go_wp2_with fail;refine(Fm.new_any W0).mono ?_;rintro e w1 ⟨rfl,hP,f1⟩;have b3:=HB.out.fr f1 id;have k0:=b3.cell 0;have k1:=b3.cell 1;have k2:=b3.cell 2;have kl:=b3.lt;have Hg:=T (gnew_any W0 w1 f1 hP HT.out n hn0 hn1 A1 n1 c1 bs (ints_up H1.out (by rw[HZ.out];omega)) l1 A2 n2 c2 ds (ints_up H2.out (by rw[HZ.out];omega)) l2);clear b3 hP f1;go_wp2_with fail;refine Ay Hg ?_;rintro e w2 ⟨gg,a,A,ge,eo,rfl,hG,hfl,f2⟩;have HX:=T (A9 hG (A9 hfl f2));clear hG hfl f2 Hg k0 k1 k2 kl
 go_wp2
 go_ret;obtain⟨hG,hfl,f2⟩:=HX.out;exact⟨gg,a,A,ge,eo,rfl,hG.less (λk hk=>by have:=HZ.out;omega),hfl,F0.out.tr f2⟩
end Bl
section
section
variable {P:BW} {md:Region.Mode} {ops:Array Oper} {Q:Exit→Act→Ac→Prop} {S:Ac→Prop} {fuel:Nat} {listed:Array Bool} {a:Act} {w:Ac} {o:Oper}
theorem tuR(i:Nat)(v:As)(hS:S w)(hy: ∀w,S w→(execOp a.eval o).run P w=.ok (.value v) w)(h:wpAnyH P md ops Q S fuel (listed.setIfInBounds i Af) (a.put o.dst v) w)(hi:ops[i]?=I o:=by rfl)(hg:o.guard=G:=by rfl)(hr:(Region.ready md ops listed).contains i=Af:=by kernel_rfl)(hs:Region.noSelect ops=Af:=by kernel_rfl)(hf:Region.free md ops listed i=Af:=by kernel_rfl)(hQ: ∀c a' w',Q (.panic c) (a'.put o.dst v) w'→Q (.panic c) a' w':=by exact λ_ _ _ h=>h):wpAnyH P md ops Q S (fuel+1) listed a w:=wpAnyH_take hi hs hf hr hQ (Ag ⟨by simp[CA,hg],hy⟩) hS h
structure Tag(n:Nat)(p:Prop):Prop where
 out:p
theorem tgI(n:Nat){p:Prop}(h:Tag n p):p:=h.out
theorem tgR(n:Nat){p:Prop}(h:p):Tag n p:=⟨h⟩
theorem rdR{rs:List Nat}(h:AllReadyH P md ops Q S fuel listed a w rs)(hr:Region.ready md ops listed=rs:=by kernel_rfl)(hne:rs≠[]:=by simp):wpAnyH P md ops Q S (fuel+1) listed a w:=wpAnyH_ready hr hne h
theorem cTR{rs:List Nat}(i s:Nat)(h: ∀K':Act→Ac→Prop,Shut (∀a w,S w→(S w→Tag s (wpAnyH P md ops Q S fuel (listed.setIfInBounds i Af) a w))→K' a w)→Tag i (if CA o (yielded ops a.tmps)=Af then Oper.wp P o a w K' Q else K' (a.put o.dst Bt) w))(hs:AllReadyH P md ops Q S fuel listed a w rs)(ho:ops[i]?=I o:=by rfl):AllReadyH P md ops Q S fuel listed a w (i::rs):=
 AllReadyH.cons ho (λK' hK=>(h K' (λa w h1 h2=>hK.out a w h1 (λh=>(h2 h).out))).out) hs
theorem dnR(h:Tag 9999 (Q .normal a w))(hr:Region.ready md ops listed=[]:=by kernel_rfl):wpAnyH P md ops Q S fuel listed a w:=wpAnyH_done hr h.out fuel
theorem nzR:(∀(l:List Oper) (i:Nat) (h:i<l.toArray.size),l.toArray[i]=l[i]'(by simpa using h))∧(∀(l:List As) (i:Nat) (h:i<l.toArray.size),l.toArray[i]=l[i]'(by simpa using h))∧(∀(x:Oper) (l:List Oper) (h:0<(x::l).length),(x::l)[0]'h=x)∧(∀(x:Oper) (l:List Oper) (i:Nat) (h:i+1<(x::l).length),(x::l)[i+1]'h=l[i]'(Nat.lt_of_succ_lt_succ h))∧(∀(l:List As) (i:Nat) (v:As),l.toArray.setIfInBounds i v=(l.set i v).toArray)∧(∀(x v:As) (l:List As),(x::l).set 0 v=v::l)∧(∀(x v:As) (l:List As) (i:Nat),(x::l).set (i+1) v=x::l.set i v):=
 ⟨λ_ _ _=>rfl,λ_ _ _=>rfl,λ_ _ _=>rfl,λ_ _ _ _=>rfl,λ_ _ _=>AB,λ_ _ _=>rfl,λ_ _ _ _=>rfl⟩
end
end
end Go.Proofs.YtpmlgdopfafcgaaGreatDoor
