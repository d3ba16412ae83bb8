import Derived.Test.YtdfegdoeebaagaaGreatDoorX33
import Derived.Test.YtdfegdoeebaagaaGreatDoorX34
open Go.Value renaming slice→Z,int→J,bool→Ap,tuple→AF,ownBlock→Cb,agg→A9,pointer→Bm
open Option renaming some→I,none→G
open Go.IntKind renaming i64→U,u32→V,u8→AB,u64→AP
open Go renaming World→Aa,Value→As,Calls→At,bodyPost_ret→Bt,TypeId→AN,wp_region_held_drew→C7,Ending→AY,maxLen→BQ,wpList→Cy,Program→CF,undef→BY,Oper→BM,Operand→De
open Bool renaming false→Ac,true→Ag
open Go.Ending renaming returned→Ax
open And renaming intro→Ay
open Nat renaming le_refl→AD,lt_of_lt_of_le→Bg,le_trans→Bf
open Or renaming inl→Af,inr→Ah
open Go.Proofs.Tryz renaming underlying39→AQ
open Go.Region renaming wanted→Dm
open Go.Oper renaming wp→EP
set_option linter.all false
set_option maxHeartbeats 40000000
set_option maxRecDepth 1000000
open Go Go.RowKit
namespace Go.Proofs.YtdfegdoeebaagaaGreatDoor
namespace Bl
open Fm Nt Rm By Wk Gs Bs Mu Sv Gm Gc Rn Eg
abbrev gtc(gp:Nat)(a:Ab)(A:Au)(ge:Nat)(s:St)(X Y:As):AO:=
 #[↑a.gB,↑a.am.gm,↑gp,J U 0,↑A.gU,↑ge,J V s.pc,X,Y,J V s.fl,Ap s.su,Ap s.pg,Ap s.ie,J V s.rt,J V s.ve,J V s.ep,J V s.ca,J V s.ad,Ap s.es,Ap s.ei,J AP s.ct,Ap s.ha,Ap Ac]
theorem othG:Oth 54:=⟨Ak,Ak,Ak,Ak⟩
theorem gtc_mid(gp:Nat)(a:Ab)(A:Au)(ge:Nat)(s:St)(X Y:As): ∀j v,(stc s X Y).toList[j]?=I v→(gtc gp a A ge s X Y)[6+j]?=I v:=λj v h=>by
 match j with
 |0=>exact h
 |1=>exact h
 |2=>exact h
 |3=>exact h
 |4=>exact h
 |5=>exact h
 |6=>exact h
 |7=>exact h
 |8=>exact h
 |9=>exact h
 |10=>exact h
 |11=>exact h
 |12=>exact h
 |13=>exact h
 |14=>exact h
 |15=>exact h
 |j+16=>simp[stc] at h
structure Gt(w:Aa)(K:AE)(gg:Nat)(a:Ab)(A:Au)(ge:Nat)(e:Eo)(s:St)(g:Mc):Prop where
 ex: ∃gp X c Y d,Blk w gg 54 (gtc gp a A ge s (Z X s.d.length c) (Z Y s.r.length d))∧StV w 0 s (Z X s.d.length c) (Z Y s.r.length d)∧(∀k,ab X=I k→ab Y≠I k)∧
  ∃P,(∀k,ab X=I k∨ab Y=I k→P k)∧(∀k,e.own ge k→P k∧k≠0)∧P gg∧(∀k,K k→P k)∧Mch w P a A g
 en:En w ge e
 rk:Rk s
 own: ∀k,K k→ ¬e.own ge k∧k≠gg
section
variable {w w':Aa} {K K':AE} {gg:Nat} {a:Ab} {A:Au} {ge:Nat} {e:Eo} {s:St} {g:Mc} {S:AE}
theorem Gt.lt(h:Gt w K gg a A ge e s g):gg<↑w∧ ∀k,K k→k<w.heap.size:=by
 obtain⟨gp,X,c,Y,d,hb,hS,hne,P,p1,p2,p3,p4,hM⟩:=h.ex;exact⟨hb.lt,λk hk=>hM.pl k (p4 k hk)⟩
theorem Gt.fr(h:Gt w K gg a A ge e s g)(f:Fr S w w')(hs: ∀k,S k→K k)(h0: ¬S 0)(hr: ∀k t,S k→Ca.srt w k=I (I t)→t≠22):Gt w' K gg a A ge e s g:=by
 obtain⟨gp,X,c,Y,d,hb,hS,hne,P,p1,p2,p3,p4,hM⟩:=h.ex;have row: ∀{v:As} {n:Nat} {xs:List As},w.ownsRow 0 22 1 v n xs→ ∀k,v.ownBlock=I k→ ¬S k:=λhv k hk q=>by
  rcases hv.2 with⟨e2,_⟩|⟨g',cap,cur,e2,_,hb,_⟩;·exact So
  ·rw[e2] at hk;have:=Sr;subst this;exact hr _ _ q (Ca.srt_blk hb) rfl
 exact⟨⟨gp,X,c,Y,d,hb.fr f (λq=>(h.own _ (hs _ q)).2 rfl),hS.fr f (row hS.d) (row hS.r),hne,P,p1,p2,p3,p4,hM.fr f (λk hk=>p4 k (hs k hk)) h0⟩,h.en.fr f (λk hk q=>(h.own k (hs k q)).1 hk),h.rk,h.own⟩
theorem Gt.fr0(h:Gt w K gg a A ge e s g)(f:Fr Aj w w'):Gt w' K gg a A ge e s g:=h.fr f (λ_ q=>q.elim) (λq=>q) (λ_ _ q=>q.elim)
theorem Gt.more(h:Gt w K gg a A ge e s g)(f:Fr Aj w w')(hk: ∀k,K' k→K k∨(w.heap.size≤k∧k<w'.heap.size)):Gt w' K' gg a A ge e s g:=by
 have h2:=h.fr0 f;have hl:=h.lt;have ho: ∀k,e.own ge k→k<w.heap.size:=λk q=>h.en.own_lt k q;obtain⟨gp,X,c,Y,d,hb,hS,hne,P,p1,p2,p3,p4,hM⟩:=h.ex;refine⟨⟨gp,X,c,Y,d,hb.fr f (λq=>q),hS.fr0 f,hne,λk=>P k∨(w.heap.size≤k∧k<w'.heap.size),λk hk=> Af (p1 k hk),λk hk=>⟨Af (p2 k hk).1,(p2 k hk).2⟩,Af p3,λk q=>?_,hM.more f (λk q=>q) (Af hM.p0)⟩,h2.en,h.rk,λk q=>?_⟩
 ·rcases hk k q with r|r;·exact Af (p4 k r)
  ·exact Ah r
 ·rcases hk k q with r|r;·exact h.own k r
  ·exact⟨λt=>by have:=ho k t;omega,O⟩
theorem Gt.less(h:Gt w K gg a A ge e s g)(hk: ∀k,K' k→K k):Gt w K' gg a A ge e s g:=by
 obtain⟨gp,X,c,Y,d,hb,hS,hne,P,p1,p2,p3,p4,hM⟩:=h.ex;exact⟨⟨gp,X,c,Y,d,hb,hS,hne,P,p1,p2,p3,λk q=>p4 k (hk k q),hM⟩,h.en,h.rk,λk q=>h.own k (hk k q)⟩
end
theorem wpL_ldG{w:Aa}{gp gg:Nat}{a:Ab}{A:Au}{ge:Nat}{s:St}{X Y:As}(h:Blk w gg 54 (gtc gp a A ge s X Y)){ops:Array BM}{rest:List BM}{ac:Act}{Q:Exit→Act→Aa→Prop}{dst:Option Tmp}{t2:AN}{pos:String}{af:Array Edge}{x:De}(hx:ac.eval x=Bm (I ⟨gg,6,G⟩))(hk:Cy Tryz.prog ops Q rest (ac.put dst (A9 (stc s X Y))) w):Cy Tryz.prog ops Q (⟨dst,.load 39 x,t2,pos,af,G⟩::rest) ac w:=by
 refine wpList_load_mid rfl 39 x rfl gg 6 hx (stc s X Y).toList _ (λj v hv=>cE) AQ rfl Ln ?_;simpa using hk
theorem Sy(w:Aa)(K:AE)(gg:Nat)(a:Ab)(A:Au)(ge:Nat)(e:Eo)(s:St)(g:Mc)(h:Gt w K gg a A ge e s g):At Tryz.prog 14 #[↑gg] w (J8 w s):=by
 obtain⟨gp,X,c,Y,d,hb,hS,hne,_⟩:=h.ex;have hk:=h.rk;have b1:=hb.fr ((Ao Aj w).alloc (.cells z16 39)) id;have b2:=AI w 39 z16;have f1:=(Ao Aj w).alloc (.cells z16 39);have hz1:=cF;have S1:=hS.fr0 f1;generalize hW1:w.alloc (.cells z16 39)=W1 at*;have HW:=T hW1;have HB2:=T b2;have HF1:=T f1;have HZ1:=T hz1;have Hc:=T (Gr W1 0 s _ _ S1 Lq Ls);clear hb hS hne hk b2 f1 hz1 S1 hW1;go_in;go_upto_region 1 with(fail);rw[HW.out];have kl:=b1.lt;go_wp2_with ((with_reducible refine wpL_ldG b1 ?q1 ?_);(case q1=>rfl));exact cG
end Bl
namespace Bl
open Fm Nt Rm By Wk Gs Bs Mu Sv Gm Gc Rn Eg
theorem pages_any(w:Aa)(n:Nat)(hn:n≤1000000000):At Tryz.prog 40 #[J U n] w λe w'=>e=Ax (J U ((n+63)/64:Nat))∧w=w':=by
 go_in
 go_wp2
 go_ret;refine⟨?_,rfl⟩;show Ending.returned (J U (((n:Int)+64 -1)/64))=_;rw[show((n:Int)+64 -1)/64=(((n+63)/64:Nat):Int) by omega]
theorem GN{k:IntKind}{w:Aa}{B B2 n:Nat}{A:Aw}{zs:List Int}(h:IntsAt k w B A n zs)(hB:B≤B2):IntsAt k w B2 A n zs:=
 ⟨h.1,h.2.1,λhn=>by
  obtain⟨g,off,h1,h2,h3⟩:=h.2.2 hn;exact⟨g,off,h1,O,h3⟩⟩
theorem puts_tu(m:Ms)(zs:List Int)(p:Nat)(h:m.tu p=Ac): ∀k,k≤p*64→(m.puts 0 zs k).tu p=Ac
 |0,_=>h
 |k+1,hk=>by
  show EE (m.puts 0 zs k).tu ((0+k)/64) Ag p=Ac;unfold EE;rw[Ae O];exact puts_tu m zs p h k O
theorem load_tu(n:Nat)(zs:List Int)(h:zs.length≤n*64): ∀k,((Ms.new n).load zs).n≤k→k<64→((Ms.new n).load zs).tu k=Ac:=λk hk _=>by
 have e:=cS;rw[e] at hk⊢;rw[LR] at hk;have hk:n≤k:=hk;exact puts_tu _ zs k rfl zs.length (Bf h (Nat.mul_le_mul_right 64 hk))
abbrev Ee(gp:Nat)(a:Ab)(A:Au)(v:As)(s:St)(X Y:As):AO:=
 #[↑a.gB,↑a.am.gm,↑gp,J U 0,↑A.gU,v,J V s.pc,X,Y,J V s.fl,Ap s.su,Ap s.pg,Ap s.ie,J V s.rt,J V s.ve,J V s.ep,J V s.ca,J V s.ad,Ap s.es,Ap s.ei,J AP s.ct,Ap s.ha,Ap Ac]
def GNew(w:Aa)(n:Nat)(bs ds:List Int)(v:Nat→As)(e:AY)(w':Aa):Prop:=
 ∃gg a A ge eo,e=Ax (v gg)∧Gt w' (λk=>k<w.heap.size) gg a A ge eo St.new (mc0 n bs ds)∧eo.s.fl=0∧Fr Aj w w'
theorem SI:Rk St.new:=⟨⟨Ak,Ak,Ak,Ak,Ak,Ak,Ak,Ak,λz hz=>absurd hz (by simp[St.new]),λz hz=>absurd hz (by simp[St.new])⟩,Ak,Ak,Ak⟩
theorem st_new(w:Aa):StV w 0 St.new (Z G 0 0) (Z G 0 0):=⟨⟨rfl,Af ⟨rfl,rfl⟩⟩,⟨rfl,Af ⟨rfl,rfl⟩⟩,SI.1⟩
theorem gnew_end{w W0 w4 w5 w6 w7 w8 w9:Aa}{b:Am}{a:Ab}{A:Au}{F:AE}{n:Nat}{bs ds:List Int}{gg ge gc gm gm2:Nat}(hT:Iq.Tab w)(f0:Fr Aj w W0)(h4:FreshM w b ((Ms.new n).load bs) w4)(hal:a.am=b)(hB:Bus w5 F a (Sb.new ((Ms.new n).load bs) ds)∧(∀k,a.wr F k∨k=a.gd→w4.heap.size≤k∨b.own k)∧Fr Aj w4 w5)(hU:A.am=b∧Un w6 A ⟨(Ms.new n).load bs,Mu.noL⟩∧↑w5≤A.gU∧↑w5≤A.gB∧Fr Aj w5 w6)(f7:Fr Aj w6 w7)(hG:Fr Aj w7 w8∧↑w7=gg)(hg8:gg<↑w8)(hE:En w9 ge (Eo.new 32 gc gm gm2)∧(∀q,(Eo.new 32 gc gm gm2).own ge q→w8.heap.size≤q)∧Fr Aj w8 w9)(hb:Blk w9 gg 54 (Ee ↑w a A (.pointer G) St.new (Z G 0 0) (Z G 0 0))):GNew w n bs ds (λgg=> AF #[Bm (I ⟨gg,0,G⟩),J U 0]) (Ax (AF #[Bm (I ⟨gg,0,G⟩),J U 0])) (w9.setCell ⟨gg,5,G⟩ ↑ge):=by
 obtain⟨hM,hown4,hf4⟩:=h4;obtain⟨hbu,hwr,f5⟩:=hB;obtain⟨hAm,hun,hgU,hgB,f6⟩:=hU;obtain⟨fG,rfl⟩:=hG;obtain⟨hen,hown,f9⟩:=hE;have F69:=(f7.tr fG).tr f9;have s4:=hf4.size;have s5:=f5.size;have s6:=f6.size;have s7:=f7.size;have s8:=fG.size;have s9:=f9.size;have hul:=hun.lt;have hlb:=hbu.lt;have hbl:=hb.lt;have g8:w7.heap.size<w8.heap.size:=hg8;have Fw9:Fr Aj w w9:=((hf4.tr f5).tr f6).tr F69;have fS:Fr (λq=>q=w7.heap.size) w9 (w9.setCell ⟨↑w7,5,G⟩ ↑ge):=(Ao (λq=>q=w7.heap.size) w9).setCell (p:=⟨↑w7,5,G⟩) (Af rfl) _;have h0:=hT.1;have hMc:Mch w9 (λk=>k<w.heap.size∨(Eo.new 32 gc gm gm2).own ge k∨k=w7.heap.size) a A (mc0 n bs ds):=by
  refine⟨⟨F,hbu.fr0 (f6.tr F69),λk hk=>?_⟩,hun.fr0 F69,by rw[hAm,hal],⟨?_, ?_⟩,Ft hT Fw9 id,Af h0,λk hk=>?_⟩
  ·have hl:=hlb k hk;have hlo:↑w≤k:=dH;refine⟨λq=>?_,O,O⟩;rcases q with q|q|q;·omega
   ·have:=hown k q;omega
   ·omega
  ·intro q;have:=hul _ (Af rfl);exact dI
  ·intro q;have:=hul _ (Ah (Af rfl));exact dI
  ·rcases hk with q|q|q;·have:=Fw9.size;omega
   ·exact hen.own_lt k q
   ·omega
 have hn0: ∀k:Nat,(G:Aw).bind (λa=>I a.block)=I k→False:=λk e=>KB;refine⟨↑w7,a,A,ge,Eo.new 32 gc gm gm2,rfl,⟨⟨↑w,G,0,G,0,hb.set_ 5 _,st_new _,λk e=>?_,λk=>k<w.heap.size∨(Eo.new 32 gc gm gm2).own ge k∨k=w7.heap.size,λk e=>?_,λk e=>⟨Ah (Af e),by have:=hown k e;omega⟩,Ah (Ah rfl),λk e=> Af e,hMc.fr fS (λk e=> Ah (Ah e)) (λe=>by have e:0=w7.heap.size:=e;omega)⟩,hen.fr fS (λk hk e=>by have:=hown k hk;have e:k=w7.heap.size:=e;omega),SI,λk hk=>⟨λq=>by have:=hown k q;omega,O⟩⟩,rfl,Fw9.trans fS (λk hk e=>O)⟩;·simp[ab] at e
 ·exact dJ
set_option maxRecDepth 1000000 in
theorem gnew_any(w W:Aa)(f1:Fr Aj w W)(hP:Pool W ↑w Pl.new)(hT:Iq.Tab w)(n:Nat)(hn0:1≤n)(hn1:n≤64)(A1:Aw)(n1 c1:Nat)(bs:List Int)(h1:IntsAt AB w ↑w A1 n1 bs)(l1:n1≤n*64)(A2:Aw)(n2 c2:Nat)(ds:List Int)(h2:IntsAt AB w ↑w A2 n2 ds)(l2:n2≤1024):At Tryz.prog 30 #[Bm (I ⟨↑w,0,G⟩),J U 0,A9 #[Z A1 n1 c1,Z A2 n2 c2,J U n],Ap Ag] W (GNew w n bs ds (λgg=> AF #[Bm (I ⟨gg,0,G⟩),J U 0])):=by
 have g1:=dK;have g2:decide ((n2:Int)>1024)=Ac:=AA;have Hpg:=T (λW=>pages_any W n1 O);have Hpr:=T (PX (o:=0) (n:=n) O O hn1);have f0:=dL;have b6:=AI W 35 #[Z A1 n1 c1,Z A2 n2 c2,J U n];have F0:=T (f1.tr f0);have hf1s:=f1.size;have B6:=T b6;have HP0:=dM;generalize hW0:W.alloc (.cells #[Z A1 n1 c1,Z A2 n2 c2,J U n] 35)=W0 at*;have HW:=T hW0;have HWl0:=dN;have k0:=dO;have k1:=dP;have k2:=dQ;have kl:=b6.lt;have HT:=T hT;have HI:=T (Ay h1 h2);clear f0 b6 hP f1 hW0 hT h1 h2 hf1s;go_in;go_upto_region 1 with(fail);rw[HW.out];go_upto_region 3 with(fail);go_cut [22] (λv wx=>v=Ap Ac∧Hid (Fr Aj W0 wx));case first=>
  exact dR
 case rest=>
  obtain⟨rfl,HF3⟩:=hcut;obtain⟨w1,rfl⟩: ∃y,y=wc:=⟨_,rfl⟩;have x0:=HF3.out.cell k0 kl id;have x1:=HF3.out.cell k1 kl id;have x2:=HF3.out.cell k2 kl id;have xl:=Bg kl HF3.out.size;have HWl:=dS;have HX:=T (Ay x0 (Ay x1 xl));clear k0 k1 k2 kl g1 g2;go_wp2_with fail;refine(Nt.new_yes w1 ↑w Pl.new 0 n (HP0.out.fr HF3.out id) new_ok O O hn0 hn1 Hpr.out).mono ?_;rintro e w2 ⟨ad,rfl,ha,hTb,hP2,hbl,f2⟩;have hB:=born (w:=w) (w1:=w1) O O hn0 hn1 ha hTb hP2 hbl (F0.out.tr HF3.out) f2;have hB2:=hB;obtain⟨s,hPs,_,hI,_,_⟩:=hB2;have hnw:=Rm.new_any w2 ad s n 0 hPs hTb hI;rw[ha] at hnw;have Hnw:=T hnw;have HB:=T hB;have hno:=dU;have HNO:=T hno;clear hno;have y0:=f2.cell HX.out.1 HX.out.2.2 (λe=>HWl.out.2 e.symm);have y1:=f2.cell HX.out.2.1 HX.out.2.2 (λe=>HWl.out.2 e.symm);have yl:=Bg HX.out.2.2 f2.size;clear hnw hB ha hTb hP2 hbl f2 hPs hI x0 x1 x2 xl HX HP0;go_wp2_with fail;refine Az Hnw ?_;rintro e w3 ⟨rfl,hM,f3⟩;have hF:=Vo HB.out hM f3;have z0:=f3.cell y0 yl id;have z1:=f3.cell y1 yl id;have zl:=Bg yl f3.size;clear y0 y1 yl;generalize hga:(⟨ad,w2.heap.size⟩:Am)=b at*;have hgm:↑w2=b.gm:=by rw[←hga]
  have hld:=Rm.load_any w3 b (Ms.new n) hM A1 n1 c1 ↑w bs (HI.out.1.fr hF.2.2 (AD _) (λ_ _ e=>e)) hF.2.2.size (λhn b' off e ho=>dV) Cc;rw[show IJ (Ms.new n) n1=0 by rw[IJ,An (by show n1≤n*64;exact l1)],←hgm] at hld;have Hld:=T hld;have HF:=T hF;have Hgm:=T hgm;have Bh:=T (Ay z1 zl);clear hld hF hga hM f3 HB Hnw;rw[hgm] at*;clear hgm;go_wp2_with fail;refine Az Hld ?_;rintro e w4 ⟨rfl,hM4,f4⟩;have HF4:=T (HF.out.fr hM4 f4);have u1:=f4.cell Bh.out.1 Bh.out.2 HNO.out;have ul:=Bg Bh.out.2 f4.size;clear z0 z1 zl hM4 f4 Hld;go_wp2_with fail;obtain⟨hM4,hown4,hf4⟩:=HF4.out;have htu:=dX;have Hbn:=T (Bs.new_any w4 b _ hM4 htu A2 n2 c2 ds (GN (HI.out.2.fr hf4 (AD _) (λ_ _ e=>e)) hf4.size) l2);have HTU:=T htu;clear hM4 hown4 hf4 htu u1 ul HNO Bh HF;refine Az Hbn ?_;rintro e w5 ⟨a,F,rfl,hal,hbu,hwr,f5⟩;have HM5:=T (HF4.out.1.fr0 f5);have HBU:=T (Ay hbu (Ay hwr f5));have Hun:=T (Vm w5 b _ HM5.out);have HGM:Hid (b.gm=a.am.gm):=T (by rw[hal]);have HAL:=T hal;clear hal hbu hwr f5 Hbn;go_wp2_with fail;refine Az Hun ?_;rintro e w6 ⟨A,rfl,hAm,hun,hgU,hgB,f6⟩;have HU:=T (Ay hAm (Ay hun (Ay hgU (Ay hgB f6))));clear hAm hun hgU hgB f6 Hun;go_upto_region 12 with(fail);go_wp2_with fail;refine(Sv.new_any w6).mono ?_;rintro e w7 ⟨rfl,f7⟩;have HF7:=T f7;clear f7;rw[HGM.out];have bG:=AI w7 54 (Ee ↑w a A (.pointer G) St.new (Z G 0 0) (Z G 0 0));have fG:=dY;go_upto_region 13 with(fail);generalize w7.alloc (.cells (Ee w.heap.size a A (.pointer G) St.new (Z G 0 0) (Z G 0 0)) 54)=w8 at*;obtain⟨gg,hgg⟩:=A8 w7.heap.size;rw[hgg] at bG⊢;have HBG:=T bG;have HFG:=T (Ay fG hgg);have He:=T (enew_any w8 32 O O);clear bG fG hgg;go_wp2_with fail;refine Az He ?_;rintro e w9 ⟨ge,gc,gm,gm2,rfl,hen,hown,f9⟩;have b9:=HBG.out.fr f9 id;have HB9:=T b9;have t5:=b9.cell 5;have v5:=b9.frozen 5;have tl:=b9.lt;have HE:=T (Ay hen (Ay hown f9));clear b9 hen hown f9 He
  go_wp2
  go_ret2;exact gnew_end HT.out F0.out HF4.out HAL.out HBU.out HU.out HF7.out HFG.out HBG.out.lt HE.out HB9.out
end Bl
namespace Bl
open Fm Nt Rm By Wk Gs Bs Mu Sv Gm Gc Rn Eg
theorem dZ(w:Aa)(hT:Iq.Tab w)(n:Nat)(hn0:1≤n)(hn1:n≤64)(A1:Aw)(n1 c1:Nat)(bs:List Int)(h1:IntsAt AB w ↑w A1 n1 bs)(l1:n1≤n*64)(A2:Aw)(n2 c2:Nat)(ds:List Int)(h2:IntsAt AB w ↑w A2 n2 ds)(l2:n2≤1024):At Tryz.prog 17 #[A9 #[Z A1 n1 c1,Z A2 n2 c2,J U n],Ap Ag] w (GNew w n bs ds (λgg=> Bm (I ⟨gg,0,G⟩))):=by
 have f0:=eA;have b2:=AI w 35 #[Z A1 n1 c1,Z A2 n2 c2,J U n];have hz:=eE;generalize hW0:w.alloc (.cells #[Z A1 n1 c1,Z A2 n2 c2,J U n] 35)=W0 at*;have HW:=T hW0;have F0:=T f0;have HB:=T b2;have HZ:=T hz;have HT:=T (Ft hT f0 id);have H1:=T (h1.fr f0 (AD _) (λ_ _ e=>e));have H2:=T (h2.fr f0 (AD _) (λ_ _ e=>e));clear hW0 f0 b2 hT h1 h2 hz;go_in;go_upto_region 1 with(fail);rw[HW.out];go_wp2_with fail;refine(Fm.new_any W0).mono ?_;rintro e w1 ⟨rfl,hP,f1⟩;have b3:=HB.out.fr f1 id;have k0:=b3.cell 0;have k1:=b3.cell 1;have k2:=b3.cell 2;have kl:=b3.lt;have Hg:=T (gnew_any W0 w1 f1 hP HT.out n hn0 hn1 A1 n1 c1 bs (GN H1.out OG) l1 A2 n2 c2 ds (GN H2.out OG) l2);clear b3 hP f1;go_wp2_with fail;refine Az Hg ?_;rintro e w2 ⟨gg,a,A,ge,eo,rfl,hG,hfl,f2⟩;have HX:=T (Ay hG (Ay hfl f2));clear hG hfl f2 Hg k0 k1 k2 kl
 go_wp2
 go_ret;obtain⟨hG,hfl,f2⟩:=HX.out;exact⟨gg,a,A,ge,eo,rfl,hG.less (λk hk=>by have:=HZ.out;omega),hfl,F0.out.tr f2⟩
end Bl
namespace Bl
open Fm Nt Rm By Wk Gs Bs Mu Sv Gm Gc Rn Eg
structure Gt0(w:Aa)(K:AE)(gg:Nat)(a:Ab)(A:Au)(s:St)(g:Mc):Prop where
 ex: ∃gp X c Y d,Blk w gg 54 (Ee gp a A (.pointer G) s (Z X s.d.length c) (Z Y s.r.length d))∧StV w 0 s (Z X s.d.length c) (Z Y s.r.length d)∧(∀k,ab X=I k→ab Y≠I k)∧
  ∃P,(∀k,ab X=I k∨ab Y=I k→P k)∧P gg∧(∀k,K k→P k)∧Mch w P a A g
 rk:Rk s
 own: ∀k,K k→k≠gg
section
variable {w w':Aa} {K K':AE} {gg:Nat} {a:Ab} {A:Au} {s:St} {g:Mc} {S:AE}
theorem Gt0.fr0(h:Gt0 w K gg a A s g)(f:Fr Aj w w'):Gt0 w' K gg a A s g:=by
 obtain⟨gp,X,c,Y,d,hb,hS,hne,P,p1,p3,p4,hM⟩:=h.ex;exact⟨⟨gp,X,c,Y,d,hb.fr f (λq=>q),hS.fr0 f,hne,P,p1,p3,p4,hM.fr f (λk q=>q.elim) (λq=>q)⟩,h.rk,h.own⟩
end
structure New0(w:Aa)(base gg:Nat)(a:Ab)(A:Au)(g:Mc):Prop where
 ex: ∃gp,Blk w gg 54 (Ee gp a A (.pointer G) St.new (Z G 0 0) (Z G 0 0))
 mc:Mch w (λk=>k<base∨k=gg) a A g
 lo:base≤gg
theorem New0.less{w:Aa}{base b2 gg:Nat}{a:Ab}{A:Au}{g:Mc}(h:New0 w base gg a A g)(hb:b2≤base)(h0:0<b2):New0 w b2 gg a A g:=
 ⟨h.ex,h.mc.more (Ao _ _) (λk q=> Af (q.imp (λr=>Bg r hb) id)) (Af h0),Bf hb h.lo⟩
def GNew0(w:Aa)(n:Nat)(bs ds:List Int)(v:Nat→As)(e:AY)(w':Aa):Prop:=
 ∃gg a A,e=Ax (v gg)∧New0 w' ↑w gg a A (mc0 n bs ds)∧Fr Aj w w'
theorem pK{w W0 w4 w5 w6 w7 w8:Aa}{b:Am}{a:Ab}{A:Au}{F:AE}{n:Nat}{bs ds:List Int}{gg:Nat}(hT:Iq.Tab w)(f0:Fr Aj w W0)(h4:FreshM w b ((Ms.new n).load bs) w4)(hal:a.am=b)(hB:Bus w5 F a (Sb.new ((Ms.new n).load bs) ds)∧(∀k,a.wr F k∨k=a.gd→w4.heap.size≤k∨b.own k)∧Fr Aj w4 w5)(hU:A.am=b∧Un w6 A ⟨(Ms.new n).load bs,Mu.noL⟩∧↑w5≤A.gU∧↑w5≤A.gB∧Fr Aj w5 w6)(f7:Fr Aj w6 w7)(hG:Fr Aj w7 w8∧↑w7=gg)(hg8:gg<↑w8)(hb:Blk w8 gg 54 (Ee ↑w a A (.pointer G) St.new (Z G 0 0) (Z G 0 0))):GNew0 w n bs ds (λgg=> AF #[Bm (I ⟨gg,0,G⟩),J U 0]) (Ax (AF #[Bm (I ⟨gg,0,G⟩),J U 0])) w8:=by
 obtain⟨hM,hown4,hf4⟩:=h4;obtain⟨hbu,hwr,f5⟩:=hB;obtain⟨hAm,hun,hgU,hgB,f6⟩:=hU;obtain⟨fG,rfl⟩:=hG;have F68:=f7.tr fG;have s4:=hf4.size;have s5:=f5.size;have s6:=f6.size;have s7:=f7.size;have s8:=fG.size;have hul:=hun.lt;have hlb:=hbu.lt;have g8:w7.heap.size<w8.heap.size:=hg8;have Fw8:Fr Aj w w8:=((hf4.tr f5).tr f6).tr F68;have h0:=hT.1;have hMc:Mch w8 (λk=>k<w.heap.size∨k=w7.heap.size) a A (mc0 n bs ds):=by
  refine⟨⟨F,hbu.fr0 (f6.tr F68),λk hk=>?_⟩,hun.fr0 F68,by rw[hAm,hal],⟨?_, ?_⟩,Ft hT Fw8 id,Af h0,λk hk=>?_⟩;·have hl:=hlb k hk;have hlo:↑w≤k:=dH;refine⟨λq=>?_,O,O⟩;exact SJ
  ·intro q;have:=hul _ (Af rfl);exact SJ
  ·intro q;have:=hul _ (Ah (Af rfl));exact SJ
  ·rcases hk with q|q;·have:=Fw8.size;omega
   ·omega
 exact⟨↑w7,a,A,rfl,⟨⟨_,hb⟩,hMc,O⟩,Fw8⟩
set_option maxRecDepth 1000000 in
theorem pL(w W:Aa)(f1:Fr Aj w W)(hP:Pool W ↑w Pl.new)(hT:Iq.Tab w)(n:Nat)(hn0:1≤n)(hn1:n≤64)(A1:Aw)(n1 c1:Nat)(bs:List Int)(h1:IntsAt AB w ↑w A1 n1 bs)(l1:n1≤n*64)(A2:Aw)(n2 c2:Nat)(ds:List Int)(h2:IntsAt AB w ↑w A2 n2 ds)(l2:n2≤1024):At Tryz.prog 30 #[Bm (I ⟨↑w,0,G⟩),J U 0,A9 #[Z A1 n1 c1,Z A2 n2 c2,J U n],Ap Ac] W (GNew0 w n bs ds (λgg=> AF #[Bm (I ⟨gg,0,G⟩),J U 0])):=by
 have g1:=dK;have g2:decide ((n2:Int)>1024)=Ac:=AA;have Hpg:=T (λW=>pages_any W n1 O);have Hpr:=T (PX (o:=0) (n:=n) O O hn1);have f0:=dL;have b6:=AI W 35 #[Z A1 n1 c1,Z A2 n2 c2,J U n];have F0:=T (f1.tr f0);have hf1s:=f1.size;have B6:=T b6;have HP0:=dM;generalize hW0:W.alloc (.cells #[Z A1 n1 c1,Z A2 n2 c2,J U n] 35)=W0 at*;have HW:=T hW0;have HWl0:=dN;have k0:=dO;have k1:=dP;have k2:=dQ;have kl:=b6.lt;have HT:=T hT;have HI:=T (Ay h1 h2);clear f0 b6 hP f1 hW0 hT h1 h2 hf1s;go_in;go_upto_region 1 with(fail);rw[HW.out];go_upto_region 3 with(fail);go_cut [22] (λv wx=>v=Ap Ac∧Hid (Fr Aj W0 wx));case first=>
  exact dR
 case rest=>
  obtain⟨rfl,HF3⟩:=hcut;obtain⟨w1,rfl⟩: ∃y,y=wc:=⟨_,rfl⟩;have x0:=HF3.out.cell k0 kl id;have x1:=HF3.out.cell k1 kl id;have x2:=HF3.out.cell k2 kl id;have xl:=Bg kl HF3.out.size;have HWl:=dS;have HX:=T (Ay x0 (Ay x1 xl));clear k0 k1 k2 kl g1 g2;go_wp2_with fail;refine(Nt.new_yes w1 ↑w Pl.new 0 n (HP0.out.fr HF3.out id) new_ok O O hn0 hn1 Hpr.out).mono ?_;rintro e w2 ⟨ad,rfl,ha,hTb,hP2,hbl,f2⟩;have hB:=born (w:=w) (w1:=w1) O O hn0 hn1 ha hTb hP2 hbl (F0.out.tr HF3.out) f2;have hB2:=hB;obtain⟨s,hPs,_,hI,_,_⟩:=hB2;have hnw:=Rm.new_any w2 ad s n 0 hPs hTb hI;rw[ha] at hnw;have Hnw:=T hnw;have HB:=T hB;have hno:=dU;have HNO:=T hno;clear hno;have y0:=f2.cell HX.out.1 HX.out.2.2 (λe=>HWl.out.2 e.symm);have y1:=f2.cell HX.out.2.1 HX.out.2.2 (λe=>HWl.out.2 e.symm);have yl:=Bg HX.out.2.2 f2.size;clear hnw hB ha hTb hP2 hbl f2 hPs hI x0 x1 x2 xl HX HP0;go_wp2_with fail;refine Az Hnw ?_;rintro e w3 ⟨rfl,hM,f3⟩;have hF:=Vo HB.out hM f3;have z0:=f3.cell y0 yl id;have z1:=f3.cell y1 yl id;have zl:=Bg yl f3.size;clear y0 y1 yl;generalize hga:(⟨ad,w2.heap.size⟩:Am)=b at*;have hgm:↑w2=b.gm:=by rw[←hga]
  have hld:=Rm.load_any w3 b (Ms.new n) hM A1 n1 c1 ↑w bs (HI.out.1.fr hF.2.2 (AD _) (λ_ _ e=>e)) hF.2.2.size (λhn b' off e ho=>dV) Cc;rw[show IJ (Ms.new n) n1=0 by rw[IJ,An (by show n1≤n*64;exact l1)],←hgm] at hld;have Hld:=T hld;have HF:=T hF;have Hgm:=T hgm;have Bh:=T (Ay z1 zl);clear hld hF hga hM f3 HB Hnw;rw[hgm] at*;clear hgm;go_wp2_with fail;refine Az Hld ?_;rintro e w4 ⟨rfl,hM4,f4⟩;have HF4:=T (HF.out.fr hM4 f4);have u1:=f4.cell Bh.out.1 Bh.out.2 HNO.out;have ul:=Bg Bh.out.2 f4.size;clear z0 z1 zl hM4 f4 Hld;go_wp2_with fail;obtain⟨hM4,hown4,hf4⟩:=HF4.out;have htu:=dX;have Hbn:=T (Bs.new_any w4 b _ hM4 htu A2 n2 c2 ds (GN (HI.out.2.fr hf4 (AD _) (λ_ _ e=>e)) hf4.size) l2);have HTU:=T htu;clear hM4 hown4 hf4 htu u1 ul HNO Bh HF;refine Az Hbn ?_;rintro e w5 ⟨a,F,rfl,hal,hbu,hwr,f5⟩;have HM5:=T (HF4.out.1.fr0 f5);have HBU:=T (Ay hbu (Ay hwr f5));have Hun:=T (Vm w5 b _ HM5.out);have HGM:Hid (b.gm=a.am.gm):=T (by rw[hal]);have HAL:=T hal;clear hal hbu hwr f5 Hbn;go_wp2_with fail;refine Az Hun ?_;rintro e w6 ⟨A,rfl,hAm,hun,hgU,hgB,f6⟩;have HU:=T (Ay hAm (Ay hun (Ay hgU (Ay hgB f6))));clear hAm hun hgU hgB f6 Hun;go_upto_region 12 with(fail);go_wp2_with fail;refine(Sv.new_any w6).mono ?_;rintro e w7 ⟨rfl,f7⟩;have HF7:=T f7;clear f7;rw[HGM.out];have bG:=AI w7 54 (Ee ↑w a A (.pointer G) St.new (Z G 0 0) (Z G 0 0));have fG:=dY;go_wp2_with fail;generalize w7.alloc (.cells (Ee w.heap.size a A (.pointer G) St.new (Z G 0 0) (Z G 0 0)) 54)=w8 at*;obtain⟨gg,hgg⟩:=A8 w7.heap.size;rw[hgg] at bG⊢;have HBG:=T bG;have HFG:=T (Ay fG hgg);clear bG fG hgg;go_ret2;exact pK HT.out F0.out HF4.out HAL.out HBU.out HU.out HF7.out HFG.out HBG.out.lt HBG.out
theorem pM(w:Aa)(hT:Iq.Tab w)(n:Nat)(hn0:1≤n)(hn1:n≤64)(A1:Aw)(n1 c1:Nat)(bs:List Int)(h1:IntsAt AB w ↑w A1 n1 bs)(l1:n1≤n*64)(A2:Aw)(n2 c2:Nat)(ds:List Int)(h2:IntsAt AB w ↑w A2 n2 ds)(l2:n2≤1024):At Tryz.prog 17 #[A9 #[Z A1 n1 c1,Z A2 n2 c2,J U n],Ap Ac] w (GNew0 w n bs ds (λgg=> Bm (I ⟨gg,0,G⟩))):=by
 have f0:=eA;have b2:=AI w 35 #[Z A1 n1 c1,Z A2 n2 c2,J U n];have hz:=eE;have hT0:=hT.1;generalize hW0:w.alloc (.cells #[Z A1 n1 c1,Z A2 n2 c2,J U n] 35)=W0 at*;have HW:=T hW0;have F0:=T f0;have HB:=T b2;have HZ:=T hz;have HT:=T (Ft hT f0 id);have H1:=T (h1.fr f0 (AD _) (λ_ _ e=>e));have H2:=T (h2.fr f0 (AD _) (λ_ _ e=>e));clear hW0 f0 b2 hT h1 h2 hz;go_in;go_upto_region 1 with(fail);rw[HW.out];go_wp2_with fail;refine(Fm.new_any W0).mono ?_;rintro e w1 ⟨rfl,hP,f1⟩;have b3:=HB.out.fr f1 id;have k0:=b3.cell 0;have k1:=b3.cell 1;have k2:=b3.cell 2;have kl:=b3.lt;have Hg:=T (pL W0 w1 f1 hP HT.out n hn0 hn1 A1 n1 c1 bs (GN H1.out OG) l1 A2 n2 c2 ds (GN H2.out OG) l2);clear b3 hP f1;go_wp2_with fail;refine Az Hg ?_;rintro e w2 ⟨gg,a,A,rfl,hG,f2⟩;have HX:=T (Ay hG f2);clear hG f2 Hg k0 k1 k2 kl
 go_wp2
 go_ret;obtain⟨hG,f2⟩:=HX.out;exact⟨gg,a,A,rfl,hG.less (by have:=HZ.out;omega) hT0,F0.out.tr f2⟩
end Bl
section
section
variable {P:CF} {md:Region.Mode} {ops:Array BM} {Q:Exit→Act→Aa→Prop} {S:Aa→Prop} {fuel:Nat} {listed:Array Bool} {a:Act} {w:Aa} {o:BM}
theorem tuR(i:Nat)(v:As)(hS:S w)(hy: ∀w,S w→(execOp a.eval o).run P w=.ok (.value v) w)(h:wpAnyH P md ops Q S fuel (listed.setIfInBounds i Ag) (a.put o.dst v) w)(hi:ops[i]?=I o:=by rfl)(hg:o.guard=G:=by rfl)(hr:(Region.ready md ops listed).contains i=Ag:=by kernel_rfl)(hs:Region.noSelect ops=Ag:=by kernel_rfl)(hf:Region.free md ops listed i=Ag:=by kernel_rfl)(hQ: ∀c a' w',Q (.panic c) (a'.put o.dst v) w'→Q (.panic c) a' w':=by exact λ_ _ _ h=>h):wpAnyH P md ops Q S (fuel+1) listed a w:=wpAnyH_take hi hs hf hr hQ (Af ⟨by simp[Dm,hg],hy⟩) hS h
structure Tag(n:Nat)(p:Prop):Prop where
 out:p
theorem tgI(n:Nat){p:Prop}(h:Tag n p):p:=h.out
theorem tgR(n:Nat){p:Prop}(h:p):Tag n p:=⟨h⟩
theorem rdR{rs:List Nat}(h:AllReadyH P md ops Q S fuel listed a w rs)(hr:Region.ready md ops listed=rs:=by kernel_rfl)(hne:rs≠[]:=by simp):wpAnyH P md ops Q S (fuel+1) listed a w:=wpAnyH_ready hr hne h
theorem cTR{rs:List Nat}(i s:Nat)(h: ∀K':Act→Aa→Prop,Shut (∀a w,S w→(S w→Tag s (wpAnyH P md ops Q S fuel (listed.setIfInBounds i Ag) a w))→K' a w)→Tag i (if Dm o (yielded ops a.tmps)=Ag then EP P o a w K' Q else K' (a.put o.dst BY) w))(hs:AllReadyH P md ops Q S fuel listed a w rs)(ho:ops[i]?=I o:=by rfl):AllReadyH P md ops Q S fuel listed a w (i::rs):=
 AllReadyH.cons ho (λK' hK=>(h K' (λa w h1 h2=>hK.out a w h1 (λh=>(h2 h).out))).out) hs
theorem dnR(h:Tag 9999 (Q .normal a w))(hr:Region.ready md ops listed=[]:=by kernel_rfl):wpAnyH P md ops Q S fuel listed a w:=wpAnyH_done hr h.out fuel
theorem nzR:(∀(l:List BM) (i:Nat) (h:i<l.toArray.size),l.toArray[i]=l[i]'(by simpa using h))∧(∀(l:List As) (i:Nat) (h:i<l.toArray.size),l.toArray[i]=l[i]'(by simpa using h))∧(∀(x:BM) (l:List BM) (h:0<(x::l).length),(x::l)[0]'h=x)∧(∀(x:BM) (l:List BM) (i:Nat) (h:i+1<(x::l).length),(x::l)[i+1]'h=l[i]'(Nat.lt_of_succ_lt_succ h))∧(∀(l:List As) (i:Nat) (v:As),l.toArray.setIfInBounds i v=(l.set i v).toArray)∧(∀(x v:As) (l:List As),(x::l).set 0 v=v::l)∧(∀(x v:As) (l:List As) (i:Nat),(x::l).set (i+1) v=x::l.set i v):=
 ⟨λ_ _ _=>rfl,λ_ _ _=>rfl,λ_ _ _=>rfl,λ_ _ _ _=>rfl,λ_ _ _=>AC,λ_ _ _=>rfl,λ_ _ _ _=>rfl⟩
end
end
end Go.Proofs.YtdfegdoeebaagaaGreatDoor
