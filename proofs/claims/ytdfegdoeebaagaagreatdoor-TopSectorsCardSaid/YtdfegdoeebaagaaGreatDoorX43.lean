import Derived.Test.YtdfegdoeebaagaaGreatDoorX42
open Go.Value renaming slice→Z,int→J,bool→Ap,ownBlock→Cb,agg→A9,pointer→Bm,oneCell'→Ir
open Option renaming some→I,none→G
open Go.IntKind renaming i64→U,u32→V,u8→AB,u64→AP,wrap_u64→Gg
open Go renaming World→Aa,Value→As,Calls→At,bodyPost_ret→Bt,TypeId→AN,wp_region_held_drew→C7,Ending→AY,info_parts→Cj,maxLen→BQ,wpList→Cy,undef→BY,Oper→BM,Operand→De
open Bool renaming false→Ac,true→Ag
open List renaming getElem?_eq_getElem→BK,length_append→Cq,mem_map→BS,range→Cl,mem_append→Da,mem_cons→Dv,map_append→FH,range_succ→Ic,setIfInBounds_toArray→Jd
open Go.Ending renaming returned→Ax
open And renaming intro→Ay
open Nat renaming le_refl→AD,lt_of_lt_of_le→Bg,le_trans→Bf,zero_le→Bj,lt_or_ge→DG
open Or renaming inl→Af,inr→Ah
open Go.Proofs.Tryz renaming underlying39→AQ,underlying23→CI,underlying27→I3
open Go.RowKit renaming intOf→AM
open Go.AllReadyH renaming nil→CB
open Go.Region renaming wanted→Dm
open Go.Oper renaming wp→EP
set_option linter.all false
set_option maxHeartbeats 40000000
set_option maxRecDepth 1000000
open Go Go.RowKit
namespace Go.Proofs.YtdfegdoeebaagaaGreatDoor
namespace Bl
open Fm Nt Rm By Wk Gs Bs Mu Sv Gm Gc Rn Eg
theorem gtc0_mid(gp:Nat)(a:Ab)(A:Au)(s:St)(X Y:As): ∀j v,(stc s X Y).toList[j]?=I v→(Ee gp a A (Bm G) s X Y)[6+j]?=I v:=λj v h=>by
 match j with
 |0=>exact h
 |1=>exact h
 |2=>exact h
 |3=>exact h
 |4=>exact h
 |5=>exact h
 |6=>exact h
 |7=>exact h
 |8=>exact h
 |9=>exact h
 |10=>exact h
 |11=>exact h
 |12=>exact h
 |13=>exact h
 |14=>exact h
 |15=>exact h
 |j+16=>simp[stc] at h
variable{w:Aa}{gp gg:Nat}{a:Ab}{A:Au}{s:St}{X Y:As}{ops:Array BM}{ac:Act}{x:De}
theorem wpL_ldG0(h:Blk w gg 54 (Ee gp a A (Bm G) s X Y)){rest:List BM}{Q:Exit→Act→Aa→Prop}{dst:Option Tmp}{t2:AN}{pos:String}{af:Array Edge}(hx:ac.eval x=Bm (I ⟨gg,6,G⟩))(hk:Cy Tryz.prog ops Q rest (ac.put dst (A9 (stc s X Y))) w):Cy Tryz.prog ops Q (⟨dst,.load 39 x,t2,pos,af,G⟩::rest) ac w:=by
 refine wpList_load_mid rfl 39 x rfl gg 6 hx (stc s X Y).toList _ (λj v hv=>jE) AQ rfl Ln ?_;simpa using hk
theorem jF(w:Aa)(K:AE)(gg:Nat)(a:Ab)(A:Au)(s:St)(g:Mc)(h:Gt0 w K gg a A s g):At Tryz.prog 14 #[↑gg] w (J8 w s):=by
 obtain⟨gp,X,c,Y,d,hb,hS,hne,_⟩:=h.ex;have hk:=h.rk;have b1:=hb.fr ((Ao Aj w).alloc (.cells z16 39)) id;have b2:=AI w 39 z16;have f1:=(Ao Aj w).alloc (.cells z16 39);have hz1:=cF;have S1:=hS.fr0 f1;generalize hW1:w.alloc (.cells z16 39)=W1 at*;have HW:=T hW1;have HB2:=T b2;have HF1:=T f1;have HZ1:=T hz1;have Hc:=T (Gr W1 0 s _ _ S1 Lq Ls);clear hb hS hne hk b2 f1 hz1 S1 hW1;go_in;go_upto_region 1 with(fail);rw[HW.out];have kl:=b1.lt;go_wp2_with ((with_reducible refine wpL_ldG0 b1 ?q1 ?_);(case q1=>rfl));exact cG
theorem gtc0_set(gp:Nat)(a:Ab)(A:Au)(s s2:St)(X Y X2 Y2:As):Dp (Ee gp a A (Bm G) s X Y) 6 (stc s2 X2 Y2).toList=Ee gp a A (Bm G) s2 X2 Y2:=by
 simp only[stc,Ee,Dp,Jd,List.set_cons_zero,List.set_cons_succ]
theorem pU{s2:St}{X2 Y2:As}(h:Blk w gg 54 (Ee gp a A (Bm G) s X Y))(hX:X2.oneCell'=Ag)(hY:Y2.oneCell'=Ag){o:BM}{Q:Act→Aa→Prop}{Q2:Exit→Act→Aa→Prop}{E:Prop}{y:De}(ho:o.op=.store 39 x y)(hg:o.guard=G)(hx:ac.eval x=Bm (I ⟨gg,6,G⟩))(hy:ac.eval y=A9 (stc s2 X2 Y2))(hk: ∀W,Blk W gg 54 (Ee gp a A (Bm G) s2 X2 Y2)→Fr (· =gg) w W→Q (ac.put o.dst BY) W):if Dm o (yielded ops ac.tmps)=Ag then EP Tryz.prog o ac w Q Q2 else E:=by
 have hw:=ON;rw[An hw];refine wp_store_mid 39 x y ho gg 6 (stc s2 X2 Y2) hx hy (λj hj=>?_) Ln (Ce s2 X2 Y2 hX hY) (hk _ ?_ (Fr.setCells _ _ (Ao _ _) (Af rfl)));·exact iY
 ·have hz:=h.setCells (stc s2 X2 Y2).toList 6;rwa[gtc0_set] at hz
theorem pV(h:Blk w gg 54 (Ee gp a A (Bm G) s X Y)){o:BM}{Q:Act→Aa→Prop}{Q2:Exit→Act→Aa→Prop}{E:Prop}(ho:o.op=.load 39 x)(hg:o.guard=G)(hx:ac.eval x=Bm (I ⟨gg,6,G⟩))(hk:Q (ac.put o.dst (A9 (stc s X Y))) w):if Dm o (yielded ops ac.tmps)=Ag then EP Tryz.prog o ac w Q Q2 else E:=by
 have hw:=ON;rw[An hw];refine wp_load_mid 39 x ho gg 6 hx (stc s X Y).toList _ (λj v hv=>jE) AQ rfl Ln ?_;simpa using hk
def GRun0(w:Aa)(K:AE)(gg:Nat)(a:Ab)(A:Au)(s:St)(g:Mc)(n:Int)(ed:AY)(w':Aa):Prop:=
 ∃j,ed=Ax (J U ((AH j s g).s.ct -s.ct))∧Gt0 w' K gg a A (AH j s g).s (AH j s g).g∧RunTo n s g j∧Fr (λk=> ¬K k) w w'
theorem pW{w7 W9:Aa}{K P:AE}{s2:St}{g g2:Mc}{n:Int}{j:Nat}{X2 Y2:Aw}{c2 d2:Nat}(h:Gt0 w K gg a A s g)(p3:P gg)(p4: ∀k,K k→P k)(hx:Stp w w7 P a A s2 g2 X2 Y2 c2 d2)(hj:AH j s g=⟨s2,g2⟩)(hr:RunTo n s g j)(hk:Rk s2)(hb:Blk W9 gg 54 (Ee gp a A (.pointer G) s2 (Z X2 s2.d.length c2) (Z Y2 s2.r.length d2)))(f:Fr (λq=>q=gg) w7 W9):GRun0 w K gg a A s g n (Ax (J U (s2.ct -s.ct))) W9:=by
 obtain⟨P',q1,q2,q3,q4,q7⟩:=hx.mc;have hrow: ∀{v:As} {m:Nat} {xs:List As},w7.ownsRow 0 22 1 v m xs→ ∀k,v.ownBlock=I k→ ¬k=gg:=λ{v m xs} hv k hk e=>by
  obtain⟨gp',X,c,Y,d,hb0,_⟩:=h.ex;have hb7:=hb0.fr hx.f (λr=>r p3);exact iZ
 refine⟨j,by rw[hj], ?_,hr,(hx.f.mono (S':=λk=> ¬K k) (λk hk q hK=>q (p4 k hK))).trans f (λk hk q hK=>h.own k hK q)⟩;rw[hj];refine⟨⟨gp,X2,c2,Y2,d2,hb,hx.st.fr f (λk hk q=>hrow hx.st.d k hk q) (λk hk q=>hrow hx.st.r k hk q),hx.ne,P',q3,q1 _ p3,λk hk=>q1 k (p4 k hk),q7.fr f (λk hk=>j4) (λe0=>?_)⟩,hk,h.own⟩;obtain⟨gp',X,c,Y,d,hb0,_,_,P0,_,_,_,hM0⟩:=h.ex;exact j7
theorem pX(w:Aa)(K:AE)(gg:Nat)(a:Ab)(A:Au)(s:St)(g:Mc)(h:Gt0 w K gg a A s g)(n:Int)(n0: -1000≤n)(n1:n≤1000)(hct:s.ct≤1000000000)(ho:g.b.outs.length≤900000)(hok: ∀k,(∀i,i≤k→goB s.ct n (AH i s g).s=Ag)→okB (AH k s g).s (AH k s g).g):At Tryz.prog 25 #[↑gg,J U n] w (GRun0 w K gg a A s g n):=by
 obtain⟨gp,X,c,Y,d,hb,hS,hne,P,p1,p3,p4,hM⟩:=h.ex;have HG:=T h;have HB:=T hb;have x22:=hb.cell 22;have x20:=jA;have x5:=hb.cell 5;have xl:=hb.lt;have HP:=T (Ay p3 p4);have HO:=T (Ay n0 (Ay n1 hct));have HRn:Hid (∀W,Fr Aj w W→At Tryz.prog 37 #[A9 (stc s (Z X s.d.length c) (Z Y s.r.length d)),↑A.gU,↑a.gB,J U n] W (λed w'=> ∃j s2 g2 X2 c2 Y2 d2,AH j s g=⟨s2,g2⟩∧ed=Ax (A9 (stc s2 (Z X2 s2.d.length c2) (Z Y2 s2.r.length d2)))∧Stp w w' P a A s2 g2 X2 Y2 c2 d2∧RunTo n s g j)):=T (λW f=>by
  refine(brun_any W s X c Y d P a A g (hS.fr0 f) p1 hne (hM.fr f (λk q=>q.elim) (λq=>q)) h.rk n n0 n1 hct ho hok).mono (λed w' hh=>?_);obtain⟨X2,c2,Y2,d2,j,rfl,hx,hr⟩:=hh;obtain⟨P',q1,q2,q3,q4,q7⟩:=hx.mc;exact⟨j,_,_,X2,c2,Y2,d2,rfl,rfl,⟨hx.st,hx.ne,(f.mono (λk _ q=>q.elim)).tr hx.f,P',q1,λk hk=>(q2 k hk).imp id (Bf f.size),q3,λk hk=>(q4 k hk).imp id (Bf f.size),q7⟩,hr⟩)
 have y0:=hb.cell 0;have y4:=hb.cell 4;have SK:Hid (w.cell? ⟨gg,0,G⟩=I ↑a.gB∧w.cell? ⟨gg,4,G⟩=I ↑A.gU∧gg<↑w):=T ⟨y0,y4,xl⟩;clear hS hne p1 p3 p4 hM h n0 n1 hct ho hb y0 y4 hok;go_in;go_upto_region 7 with(fail);refine C7 (S:=λW=>W.cell? ⟨gg,0,G⟩=I ↑a.gB∧W.cell? ⟨gg,4,G⟩=I ↑A.gU∧gg<↑W) AL (SK.out) (λhH=>?_);have HF:=T ((Ao Aj w).drew);generalize w.drew=wv at hH HF⊢;refine tgI 1000 ?_
 repeat' first
  |(refine tgR 4 ?_;refine pV (HB.out.fr HF.out id) rfl rfl BC ?_;refine hK.out _ _ ?_ (λhH=>?_);(exact hH);clear hK K)
  |(refine tgR 14 ?_;go_simp;go_wp2_with ((with_reducible refine(HRn.out _ HF.out).mono ?_);rintro e7 w7 ⟨j,s2,g2,X2,c2,Y2,d2,hj,rfl,hx7,hr7⟩;have HX7:=T (Ay hx7 (Ay hr7 hj));have B7:=T (HB.out.fr hx7.f (λr=>r HP.out.1));have hS7:=(⟨B7.out.cell 0,B7.out.cell 4,B7.out.lt⟩:_∧_∧_);clear hx7 hr7 hj);refine hK.out _ _ ?_ (λhH=>?_);(exact hS7);clear hK K)
  |(refine tgR 17 ?_;refine pU (s2:=s2) (X2:=Z X2 s2.d.length c2) (Y2:=Z Y2 s2.r.length d2) B7.out rfl rfl rfl rfl BC BC ?_;intro W9 k9 f9;refine hK.out _ _ ?_ (λhH=>?_);(exact⟨k9.cell 0,k9.cell 4,k9.lt⟩);clear hK K;have K9:=T k9;have x20b:W9.cell? ⟨gg,20,G⟩=I (J AP s2.ct):=k9.cell 20;have xlb:=k9.lt;have HF9:=T f9;clear k9 f9 hH)
  |(intro W hSw;obtain⟨r0,r4,q0⟩:=hSw;go_simp;try with_reducible rfl)
  |simp only[Act.put,nzR]
  |(refine tgR 1000 ?_;refine tuR 0 ?_ hH ?_ (tuR 1 ?_ hH ?_ (tuR 2 ?_ hH ?_ (tuR 3 ?_ hH ?_ (tuR 5 ?_ hH ?_ (tuR 6 ?_ hH ?_ (tgI 1001 ?_)))))))
  |(refine tgR 1001 ?_;refine tuR 7 ?_ hH ?_ (tuR 8 ?_ hH ?_ (tuR 9 ?_ hH ?_ (tuR 10 ?_ hH ?_ (tuR 11 ?_ hH ?_ (tuR 12 ?_ hH ?_ (tgI 1002 ?_)))))))
  |(refine tgR 1002 ?_;refine tuR 13 ?_ hH ?_ (rdR (cTR 4 1003 (λK hK=>?_) CB)))
  |(refine tgR 1003 ?_;refine rdR (cTR 14 1004 (λK hK=>?_) CB))
  |(refine tgR 1004 ?_;refine tuR 15 ?_ hH ?_ (tuR 16 ?_ hH ?_ (rdR (cTR 17 1005 (λK hK=>?_) CB))))
  |(refine tgR 1005 ?_;refine dnR ?_)
 all_goals
  refine tgR 9999 ?_;go_wp2_with fail;obtain⟨hx,hr,hj⟩:=HX7.out;have hs0:0≤s.ct:=HG.out.rk.1.ct.1;obtain⟨h1,h2,h3⟩:=HO.out;have he:=hr.ends h3 O;have hbd:=Ko hr.go hr.rk h3 O j (AD _);have hrj:=hr.rk j (AD _);rw[hj] at he hbd hrj;dsimp only at he hbd hrj;have hD:s2.ct -s.ct<2000:=jB;have hw:=jC;rw[hw];go_ret;exact pW HG.out HP.out.1 HP.out.2 hx hj hr hrj K9.out HF9.out
end Bl
namespace Bl
open Fm Nt Rm By Wk Gs Bs Mu Sv Gm Gc Rn Eg
section
variable {w w':Aa} {P Q S:AE} {base gg:Nat} {a:Ab} {A:Au} {g:Mc}
theorem Mch_keep(h:Mch w P a A g)(f:Fr S w w')(hs: ∀k,k<w.heap.size→S k→P k)(h0: ¬S 0)(hp: ∀k,Q k→P k∨(w.heap.size≤k∧k<w'.heap.size))(q0:Q 0):Mch w' Q a A g:=by
 have f':Fr (λk=>k<w.heap.size∧S k) w w':=f.mono (λk hk q=>⟨hk,q⟩);have h1:Mch w' P a A g:=h.fr f' (λk q=>hs k q.1 q.2) (λq=>h0 q.2);obtain⟨F,b1,b2,b3⟩:=h.lt;have hl:=h.un.lt;refine⟨⟨F,b1.fr f' (λk hk e=>(b2 k hk).1 (hs k e.1 e.2)),λk hk=>⟨λe=>?_,(b2 k hk).2⟩⟩,h1.un,h.am,⟨λe=>?_,λe=>?_⟩,h1.tab,q0,λk hk=>?_⟩;·exact VN
 ·exact N7
 ·exact N9
 ·rcases hp k hk with e|e;·exact h1.pl k e
  ·exact e.2
theorem New0.later(h:New0 w base gg a A g): ∃AU:Nat→Prop,(∀k,AU k→Nk w k∧base≤k∧k<w.heap.size∧k≠gg)∧ ∀w' S,Fr S w w'→(∀k,AU k∨k=gg→ ¬S k)→ ¬S 0→Gt0 w' (λk=>k<w'.heap.size∧ ¬AU k∧k≠gg) gg a A St.new g:=by
 obtain⟨AU,o1,o2⟩:=h.mc.least;obtain⟨gp,hb⟩:=h.ex;refine⟨AU,λk hk=>⟨(o1 k hk).1, ?_,(o1 k hk).2.2,λe=>(o1 k hk).2.1 (Ah e)⟩,λw' S f hs h0=>?_⟩
 ·rcases DG k base with q|q;·exact absurd (Af q) (o1 k hk).2.1
  ·exact q
 have z0:=h.mc.pl 0 h.mc.p0;have n0: ¬AU 0:=λe=>(o1 0 e).2.1 h.mc.p0;have ng: ¬AU gg:=λe=>(o1 gg e).2.1 (Ah rfl);have fs:=f.size;have bl:=hb.lt;have M0:=o2 (λk=>k<w.heap.size∧ ¬AU k) ⟨z0,n0⟩ (λk q=>q);have M1:Mch w' (λk=>k<w'.heap.size∧ ¬AU k) a A g:=Mch_keep M0 f (λk hk q=>⟨hk,λe=>hs k (Af e) q⟩) h0 (λk q=>by
  rcases DG k ↑w with r|r;·exact Af ⟨r,q.2⟩
  ·exact Ah ⟨r,q.1⟩) ⟨O,n0⟩
 refine⟨⟨gp,G,0,G,0,hb.fr f (hs _ (Ah rfl)),st_new _,λk e=>?_,_,λk e=>?_,⟨O,ng⟩,λk q=>⟨q.1,q.2.1⟩,M1⟩,SI,λk q=>q.2.2⟩;·simp[ab] at e
 ·exact dJ
end
end Bl
namespace Kd
open Gs Sv Gc Bl
theorem pY(w:Aa)(op:Int)(h:Dd op=Ag):At Tryz.prog 39 #[J U op] w λe w'=>e=Ax (J U (AK op))∧w=w':=by
 rcases Ql h with rfl|rfl|rfl|rfl|rfl|rfl|rfl|rfl|rfl|rfl|rfl|rfl|rfl|rfl|rfl|rfl|rfl|rfl|rfl|rfl|rfl|rfl|rfl|rfl|rfl|rfl|rfl|rfl|rfl|rfl|rfl|rfl|rfl|rfl|rfl|rfl|rfl|rfl|rfl|rfl<;>
 (clear h;go_enter Tryz.func39,Tryz.ntmps39;go_wp2;go_ret;exact⟨rfl,rfl⟩)
def IZ(i:Ins)(k:Nat):List Int:=i.op::(Cl k).map (λk=>i.n/2^(8*k)%256)
def Gl(i:Ins):List Int:=IZ i ((AK i.op).toNat -1)
theorem pZ(i:Ins)(k:Nat):IZ i (k+1)=IZ i k++[i.n/2^(8*k)%256]:=by
 unfold IZ;rw[Ic,FH];rfl
theorem jG(i:Ins)(k:Nat):(IZ i k).length=k+1:=by simp[IZ]
theorem qA(w:Aa)(op n:Int)(h:Dd op=Ag)(n0:0≤n)(n1:n≤4294967295):At Tryz.prog 28 #[A9 #[J U op,J V n]] w λe w'=> ∃A c,e=Ax (Z A (Gl ⟨op,n⟩).length c)∧w'.ownsRow ↑w 5 1 (Z A (Gl ⟨op,n⟩).length c) (Gl ⟨op,n⟩).length ((Gl ⟨op,n⟩).map (J AB))∧Fr Aj w w':=by
 obtain⟨i0,hi0,hz0,hz1,hz2⟩:=Cj Co.info8;have hop:0≤op∧op≤69:=by simp[Dd] at h;omega
 have hsz:1≤AK op∧AK op≤5:=by
  have hs:AK op≠0:=by unfold AK;split<;>(try split)<;>(try split)<;>simp_all
  exact Gm.size_pos hs
 obtain⟨sz,hs⟩: ∃sz:Nat,AK op=sz:=⟨(AK op).toNat,O⟩;rw[hs] at hsz;have Hz:=T (λW=>pY W op h);rw[hs] at Hz;have hw8:IntKind.u8.wrap op=op:=by rw[IntKind.wrap_u8];omega
 have b1:=AI w 27 #[J U op,J V n];have f0:Fr Aj w (w.alloc (.cells #[J U op,J V n] 27)):=(Ao _ _).alloc _;generalize hW0:w.alloc (.cells #[J U op,J V n] 27)=W0 at*;have HW:=T hW0;have HB:=T b1;have F0:=T f0;have k0:=b1.cell 0;have kl:=b1.lt;have HS:=T hs;clear hs h hW0 b1 f0;go_in;go_upto_region 1 with(fail);rw[HW.out];go_upto_region 2 with(fail);have hrow:(W0.alloc (.cells #[J AB op] 5)).ownsRow ↑w 5 1 (Z (I ⟨↑W0,0,G⟩) 1 1) 1 ([op].map (J AB)):=⟨rfl,Ah ⟨↑W0,1,#[J AB op],rfl,F0.out.size,AI _ _ _,AD _,Jc,rfl,rfl⟩⟩;have Fa:=T (F0.out.alloc (.cells #[J AB op] 5));have HBa:=T (HB.out.alloc (.cells #[J AB op] 5));have HR:=T hrow;clear hrow k0 kl hw8;generalize W0.alloc (.cells #[J AB op] 5)=W1 at*;go_wp2_with fail;go_loopw [3,4] (λbv kv wr=> ∃(k:Nat) (A:Aw) (c:Nat),k+1≤sz∧bv=Z A (k+1) c∧kv=J U ((k+1:Nat):Int)∧Hid (wr.ownsRow ↑w 5 1 (Z A (k+1) c) (k+1) ((IZ ⟨op,n⟩ k).map (J AB)))∧Hid (Fr Aj w wr)∧Hid (Blk wr ↑w 27 #[J U op,J V n])) (λ_ kv _=>sz -(AM kv).toNat)
 case atStart=>exact⟨0,_,_,O,rfl,rfl,HR,Fa,HBa⟩
 case round=>
  obtain⟨k,A,c,hk,rfl,rfl,hR,hF,hB⟩:=hrel;have k0:=hB.out.cell 0;have k1:=hB.out.cell 1;have kl:=hB.out.lt;by_cases hlt:k+1<sz
  ·have HRa:=T (hR.out.alloc (.cells #[J AB (n/2^(8*k)%256)] 5));have hrd:=T (Do (size:=1) (n:=1) (AI wr 5 #[J AB (n/2^(8*k)%256)]) rfl);have hsw:=hF.out.size;have hk5:k≤5:=O;go_upto_region 5 with((with_reducible refine(Hz.out _).mono ?_);rintro e w1 ⟨rfl,rfl⟩);go_wp2_with
    (at_builtin
     refine CU _ rfl (.tmp 16) (.tmp 25) _ rfl w.heap.size 5 i0 _ 1 1 CI hi0 hz0 hz1 hz2 rfl O (Z A (k+1) c) (k+1) _ rfl HRa.out (wr.heap.size+1) (I ⟨wr.heap.size,0,G⟩) 1 1 [J AB (n/2^(8*k)%256)] rfl hrd.out Ei Cc O AA ?_
     intro v1 w3 hown1 hg1 hat1
     obtain⟨A3,c3,rfl⟩:=Ca.slice_form hown1
     have f3:Fr (λq=>(Z A (k+1) c).ownBlock=I q) wr w3:=((Ao _ wr).alloc _).grown hg1 (λq hq=> Af hq)
     have HX:=T (Ay hown1 f3)
     clear hown1 hg1 hat1 f3)
   go_roundw;case rel=>
    obtain⟨hown1,f3⟩:=HX.out;refine⟨k+1,A3,c3,O,rfl,Bn,T ?_,T (hF.out.trans f3 (λq hq e=>?_)),T (hB.out.fr f3 (λe=>AZ hR.out hB.out Ak e))⟩;·rw[pZ,FH];exact hown1
    ·obtain⟨g,cap,cur,hv,hg,_⟩:=EQ hR.out O;rw[hv] at e;have:g=q:=by simpa[Cb] using e
     omega
   case measure=>simp[AM];omega
  ·obtain rfl:sz=k+1:=O;go_wp2_with ((with_reducible refine(Hz.out _).mono ?_);rintro e w1 ⟨rfl,rfl⟩);go_ret;have he:Gl ⟨op,n⟩=IZ ⟨op,n⟩ k:=by
    unfold Gl;rw[show(AK op).toNat -1=k by rw[HS.out];omega]
   rw[he,jG];exact⟨A,c,rfl,hR.out,hF.out⟩
def CL:List Ins→List Int
 |[]=>[]
 |i::l=>Gl i++CL l
theorem qB(l m:List Ins):CL (l++m)=CL l++CL m:=by
 induction l with
 |nil=>rfl
 |cons i l ih=>simp[CL,ih]
def Kr(i:Ins):Prop:=Dd i.op=Ag∧0≤i.n∧i.n≤4294967295
theorem qC(w:Aa)(g:Nat)(cs:AO)(c0:Nat)(l:List Ins)(hl: ∀i∈l,Kr i)(hb:Blk w g 27 cs)(hc: ∀(i:Nat) (x:Ins),l[i]?=I x→cs[i*2]?=I (J U x.op)∧cs[i*2+1]?=I (J V x.n))(hlen:l.length≤100000):At Tryz.prog 16 #[Z (I ⟨g,0,G⟩) l.length c0] w λe w'=> ∃A c,e=Ax (Z A (CL l).length c)∧w'.ownsRow ↑w 5 1 (Z A (CL l).length c) (CL l).length ((CL l).map (J AB))∧Fr Aj w w':=by
 obtain⟨i0,hi0,hz0,hz1,hz2⟩:=Cj Co.info8;have HB:=T hb;have HC:=T hc;have HL:=T hl;have HN:=T hlen;obtain⟨N,hN⟩:=A8 l.length;rw[hN];have HNN:=T hN;clear hb hl hc hlen hN;go_in;go_upto_region 3 with(fail);go_loopw [3,4] (λbv kv wr=> ∃(k m:Nat) (A:Aw) (c:Nat),k≤N∧Hid ((CL (l.take k)).length=m)∧m≤5*k∧bv=Z A m c∧kv=J U (k:Int)∧Hid (wr.ownsRow ↑w 5 1 (Z A m c) m ((CL (l.take k)).map (J AB)))∧Hid (Fr Aj w wr)) (λ_ kv _=>N -(AM kv).toNat)
 case atStart=>exact⟨0,0,G,0,Bj _,T (by simp[CL]),AD _,rfl,rfl,T (by simp[CL];exact⟨rfl,Af ⟨rfl,rfl⟩⟩),T (Ao _ _)⟩
 case round=>
  obtain⟨k,m,A,c,hk,hm,hm5,rfl,rfl,hR,hF⟩:=hrel;by_cases hlt:k<N
  ·have hN:=HN.out;rw[HNN.out] at hN;have hkl:k<l.length:=by rw[HNN.out];exact hlt
   obtain⟨x,hx⟩: ∃x,l[k]?=I x:=⟨_,BK hkl⟩;obtain⟨op,n⟩:=x;obtain⟨x0,x1⟩:=HC.out k _ hx;have hb:=HB.out.fr hF.out id;have k0:wr.cell? ⟨g,k*2,G⟩=I (J U op):=(hb.cell _).trans x0;have k1:wr.cell? ⟨g,k*2+1,G⟩=I (J V n):=(hb.cell _).trans x1;have kl:=hb.lt;obtain⟨o1,o2,o3⟩:=HL.out ⟨op,n⟩ (List.mem_of_getElem? hx);have hle:(Gl ⟨op,n⟩).length≤5:=by
    have:(AK op).toNat≤5:=by unfold AK;split<;>(try split)<;>(try split)<;>omega
    simp only[Gl,jG];omega
   obtain⟨ne,hne⟩:=A8 ((Gl ⟨op,n⟩).length);have He:=T (qA wr op n o1 o2 o3);rw[hne] at He hle;have HX:=T (Ay hx hne);have hsw:=hF.out.size;clear hx x0 x1 hb hkl o1 o2 o3 hne;go_upto_region 5 with(fail);go_wp2_with fail;refine Az He ?_;rintro e w1 ⟨A2,c2,rfl,ho,f1⟩;have HO:=T (Ay ho f1);have HR1:=T (AR hR.out f1 (λ_ _ e=>e));have hs1:=f1.size;have hoc: ∀u∈(Gl ⟨op,n⟩).map (J AB),u.oneCell'=Ag:=λu hu=>by
    obtain⟨z,_,rfl⟩:=BS.1 hu;rfl
   have HOC:=T hoc;clear ho f1 hoc He k0 k1 kl;go_wp2_with
    (at_builtin
     refine CU _ rfl (.tmp 11) (.tmp 16) _ rfl w.heap.size 5 i0 _ 1 1 CI hi0 hz0 hz1 hz2 rfl O (Z A m c) m _ rfl HR1.out w1.heap.size A2 ne c2 _ rfl (Reads.of_own HO.out.1) HOC.out Cc O O ?_
     intro v1 w3 hown1 hg1 hat1
     obtain⟨A3,c3,rfl⟩:=Ca.slice_form hown1
     have f3:Fr (λq=>(Z A m c).ownBlock=I q) w1 w3:=(Ao _ w1).grown hg1 (λq hq=> Af hq)
     have HY:=T (Ay hown1 f3)
     clear hown1 hg1 hat1 f3)
   go_roundw;case rel=>
    obtain⟨hown1,f3⟩:=HY.out;have ht:CL (l.take (k+1))=CL (l.take k)++Gl ⟨op,n⟩:=by
     rw[List.take_add_one,HX.out.1,qB];simp[CL]
    refine⟨k+1,m+ne,A3,c3,O,T ?_,O,rfl,Bn,T ?_,T ((hF.out.tr HO.out.2).trans f3 (λq hq e=>?_))⟩;·rw[ht,Cq,hm.out,HX.out.2]
    ·rw[ht,FH];exact hown1
    ·by_cases hm0:0<m;·obtain⟨g',cap,cur,hv,hg,_⟩:=EQ hR.out hm0;exact jH
     ·rcases hR.out.2 with⟨hv,_⟩|⟨g',cap,cur,hv,hg,_⟩;·rw[hv] at e;simp[Cb] at e
      ·exact jH
   case measure=>simp[AM];omega
  ·obtain rfl:k=N:=O
   go_wp2
   go_ret;have ht:l.take k=l:=List.take_of_length_le (by rw[HNN.out];exact AD _);have hm':=hm.out;have hR':=hR.out;rw[ht] at hm' hR';rw[hm'];exact⟨A,c,rfl,hR',hF.out⟩
end Kd
namespace Bl
open Fm Nt Rm By Wk Gs Bs Mu Sv Gm Gc Rn Eg Kd
theorem GP(w:Aa)(n:Int):At Tryz.prog 8 #[J V n] w λe w'=>e=Ax (A9 #[J U 2,J V n])∧Fr Aj w w':=by
 go_in;go_wp2_with fail;refine Bt (CV rfl _ _ w.heap.size 27 _ _ rfl (AI w 27 #[J U 2,J V n]) I3 rfl AL) rfl ?_;exact SY
theorem GQ(w:Aa)(n:Int):At Tryz.prog 9 #[J U n] w λe w'=>e=Ax (A9 #[J U n,J V 0])∧Fr Aj w w':=by
 go_in;go_wp2_with fail;refine Bt (CV rfl _ _ w.heap.size 27 _ _ rfl (AI w 27 #[J U n,J V 0]) I3 rfl AL) rfl ?_;exact SY
theorem IA(w:Aa)(o n:Int):At Tryz.prog 10 #[J U o,J V n] w λe w'=>e=Ax (A9 #[J U o,J V n])∧Fr Aj w w':=by
 go_in;go_wp2_with fail;refine Bt (CV rfl _ _ w.heap.size 27 _ _ rfl (AI w 27 #[J U o,J V n]) I3 rfl AL) rfl ?_;exact SY
def CodeP(w:Aa)(l:List Ins)(e:AY)(w':Aa):Prop:= ∃A c,e=Ax (Z A (CL l).length c)∧w'.ownsRow ↑w 5 1 (Z A (CL l).length c) (CL l).length ((CL l).map (J AB))∧Fr Aj w w'
theorem code_any(w:Aa)(g:Nat)(cs:AO)(c0 n0:Nat)(l:List Ins)(hn:l.length=n0)(hl: ∀i∈l,Kr i)(hb:Blk w g 27 cs)(hc: ∀(i:Nat) (x:Ins),l[i]?=I x→cs[i*2]?=I (J U x.op)∧cs[i*2+1]?=I (J V x.n))(hlen:l.length≤100000):At Tryz.prog 7 #[Z (I ⟨g,0,G⟩) n0 c0] w (CodeP w l):=by
 have H:=T (qC w g cs c0 l hl hb hc hlen);rw[hn] at H;clear hb hc hl;go_in;go_wp2_with fail;refine Az H ?_;rintro e w1 ⟨A,c,rfl,ho,f⟩;have HX:=T (Ay ho f);clear ho f
 go_wp2
 go_ret;exact⟨A,c,rfl,HX.out.1,HX.out.2⟩
theorem code_bd{l:List Ins}(h: ∀i∈l,Kr i): ∀z∈CL l,0≤z∧z<256:=by
 induction l with
 |nil=>intro z hz;cases hz
 |cons i l ih=>
  intro z hz;rcases Da.1 hz with q|q
  ·have hi:=h i AC;have hk:=hi.1;simp[Dd] at hk;unfold Gl IZ at q;rcases Dv.1 q with rfl|q;·omega
   ·obtain⟨k,_,rfl⟩:=BS.1 q;omega
  ·exact ih (λj hj=>h j FJ) z q
theorem SZ{w:Aa}{base c n:Nat}{A:Aw}{l:List Ins}(h: ∀i∈l,Kr i)(ho:w.ownsRow base 5 1 (Z A n c) n ((CL l).map (J AB))):IntsAt AB w ↑w A n (CL l):=
 Bk.own_ints (k:=AB) ho (λz hz=>by have:=code_bd h z hz;exact J7 this.1 (by omega))
theorem qD(w:Aa)(K:AE)(gg:Nat)(a:Ab)(A:Au)(ge:Nat)(e:Eo)(s:St)(g:Mc)(h:Gt w K gg a A ge e s g)(ho:g.b.outs.length≤1000000):w.cell? ⟨gg,0,G⟩=I ↑a.gB∧gg<↑w∧w.cell? ⟨a.gB,2,G⟩=I ↑a.gk∧a.gB<↑w∧ At Tryz.prog 15 #[↑a.gk] w (λe w'=> ∃Bh c,e=Ax (Z Bh g.b.outs.length c)∧IntsAt AB w' ↑w' Bh g.b.outs.length g.b.outs∧Fr Aj w w'):=by
 obtain⟨gp,X,c,Y,d,hb,hS,hne,P,p1,p2,p3,p4,hM⟩:=h.ex;obtain⟨F,hbu,_⟩:=hM.bus;refine⟨hb.cell 0,hb.lt,hbu.b.cell 2,hbu.b.lt, ?_⟩;refine(Co.output_any w 0 a.gk F g.b.outs g.b.ins hbu.k O 0 (Bj _)).mono ?_;rintro e w' ⟨v,rfl,ho,f,hk⟩;obtain⟨Bh,c,rfl⟩:=Co.own_any ho;exact⟨Bh,c,rfl,Bk.own_ints ho (λz hz=>J7 (n:=z) (hbu.ok.outs z hz).1 (by have:=(hbu.ok.outs z hz).2;omega)),f⟩
def MW:List Ins:=[⟨2,72⟩,⟨2,32784⟩,⟨49,0⟩,⟨69,0⟩]
theorem qE:CL MW=awakeL:=Ak
theorem jI: ∀i∈MW,Kr i:=by
 intro i hi;simp[MW] at hi;rcases hi with rfl|rfl|rfl|rfl<;>exact⟨Ak,Ak,Ak⟩
theorem OO(s:St)(X Y:As): ∀w:Aa,(Instr.field 39 (A9 (stc s X Y)) 15).run Tryz.prog w=.ok (Ap s.ha) w:=λ_=>AL
theorem qF(w:Aa)(hT:Iq.Tab w):At Tryz.prog 13 #[] w λe w'=>e=Ax (Ap Ag)∧Fr Aj w w':=by
 have HT:=T hT;clear hT;go_in;go_upto_region 1 with(fail);go_wp2_with fail;refine(GP w 72).mono ?_;rintro e w1 ⟨rfl,f1⟩;go_wp2_with fail;refine(GP w1 32784).mono ?_;rintro e w2 ⟨rfl,f2⟩;go_wp2_with fail;refine(GQ w2 49).mono ?_;rintro e w3 ⟨rfl,f3⟩;go_wp2_with fail;refine(GQ w3 69).mono ?_;rintro e w4 ⟨rfl,f4⟩;have F4:=T (((f1.tr f2).tr f3).tr f4);clear f1 f2 f3 f4;go_wp2_with fail;have b5:=AI w4 27 #[J U 2,J V 72,J U 2,J V 32784,J U 49,J V 0,J U 69,J V 0];have F5:=T (F4.out.alloc (.cells #[J U 2,J V 72,J U 2,J V 32784,J U 49,J V 0,J U 69,J V 0] 27));generalize w4.alloc (.cells #[J U 2,J V 72,J U 2,J V 32784,J U 49,J V 0,J U 69,J V 0] 27)=w5 at*;refine(code_any w5 ↑w4 _ 4 4 MW rfl jI b5 (λi x hx=>by
  match i,hx with
  |0,hx=>cases hx;exact⟨rfl,rfl⟩
  |1,hx=>cases hx;exact⟨rfl,rfl⟩
  |2,hx=>cases hx;exact⟨rfl,rfl⟩
  |3,hx=>cases hx;exact⟨rfl,rfl⟩
  |i+4,hx=>simp[MW] at hx) Ak).mono ?_
 rintro e w6 ⟨A1,c1,rfl,ho,f6⟩;have h6:=SZ jI ho;rw[qE] at h6⊢;have h6:IntsAt AB w6 ↑w6 A1 12 awakeL:=h6;have F6:=T (F5.out.tr f6);have Hf:=T (dZ w6 (Ft HT.out F6.out id) 1 O O A1 12 c1 awakeL h6 O G 0 0 [] (Nc _ _ _ _) O);rw[show awakeL.length=12 from rfl];clear b5 ho f6 h6 F4 F5;go_wp2_with fail;refine Az Hf ?_;rintro e w7 ⟨gg,a,A,ge,eo,rfl,hG,hfl,f7⟩;have HG:=T hG;have F7:=T (F6.out.tr f7);have Hr:=T (j9 w7 _ gg a A ge eo St.new (mc0 1 awakeL []) hG 9 O O Ak Ak O awake_ok);clear hG hfl f7 Hf;go_wp2_with fail;refine Az Hr ?_;rintro e w8 ⟨e2,j,rfl,hG2,hr,hfl2,f8⟩;obtain⟨r1,r2,r3⟩:=pJ hr;obtain⟨⟨s2,g2⟩,hq⟩: ∃q,AH j St.new (mc0 1 awakeL [])=q:=⟨_,rfl⟩;rw[hq] at r1 r2 r3 hG2⊢;dsimp only at r1 r2 r3 hG2⊢;have e4:s2.ct -St.new.ct=4:=by rw[r1];rfl
 rw[e4];have F8:=T (F7.out.trans f8 (λk hk e=>e (Bg hk F6.out.size)));obtain⟨x0,x1,x2,x3,ho⟩:=qD w8 _ gg a A ge e2 s2 g2 hG2 (by rw[r3];decide);rw[r3] at ho;have HO:=T ho;have HG2:=T hG2;have R2:=T r2;clear hr hfl2 f8 hq r1 r2 r3 ho hG2 Hr e4;go_wp2_with fail;refine Az HO ?_;rintro e w9 ⟨Bh,c9,rfl,hz,f9⟩;have hz1:IntsAt AB w9 ↑w9 Bh 1 [72]:=hz;have hs:=Fs (c:=c9) hz1;have HG9:=T (HG2.out.fr0 f9);have F9:=T (F8.out.tr f9);have Hs:=T (Sy w9 _ gg a A ge e2 s2 g2 HG9.out);clear x0 x1 x2 x3 hz hz1 f9 HO;have hs2:(str [72])=⟨#[72]⟩:=Ak;rw[hs2] at hs;go_wp2_with fail;refine Az Hs ?_;rintro e w10 ⟨X,c,Y,d,rfl,_,_,f10⟩;have F10:=T (F9.out.tr f10);have hfd:=OO s2 (Z X s2.d.length c) (Z Y s2.r.length d);rw[R2.out] at hfd;clear f10 hs Hs
 go_wp2
 go_ret;exact⟨rfl,F10.out⟩
end Bl
namespace Bl
open Fm Nt Rm By Wk Gs Bs Mu Sv Gm Gc Rn Eg
def Leg(Fy:Nat→Aa→St→Mc→Prop)(K:AE)(m:Nat)(w:Aa)(s:St)(g:Mc)(ed:AY)(w':Aa):Prop:=
 ∃j,ed=Ax (J U ((AH j s g).s.ct -s.ct))∧Fy (m+j) w' (AH j s g).s (AH j s g).g∧RunTo 8 s g j∧Fr (λk=> ¬K k) w w'
def Until(Fy:Nat→Aa→St→Mc→Prop)(K:AE)(w:Aa)(x:Sg)(ed:AY)(w':Aa):Prop:=
 ed=Ax (Ap Ag)∧(∃m,Fy m w' x.s x.g)∧Fr (λk=> ¬K k) w w'
structure Runs(Fy:Nat→Aa→St→Mc→Prop)(K:AE)(gg:Nat):Prop where
 st: ∀m w s g,Fy m w s g→At Tryz.prog 14 #[↑gg] w (J8 w s)
 fr: ∀m w w' s g,Fy m w s g→Fr Aj w w'→Fy m w' s g
 run: ∀m w s g,Fy m w s g→m≤900000→s.ct≤1000000000→g.b.outs.length≤900000→(∀k,(∀i,i≤k→goB s.ct 8 (AH i s g).s=Ag)→okB (AH k s g).s (AH k s g).g)→
  At Tryz.prog 25 #[↑gg,J U 8] w (Leg Fy K m w s g)
set_option maxRecDepth 1000000 in
theorem jJ(Fy:Nat→Aa→St→Mc→Prop)(K:AE)(gg:Nat)(hX:Runs Fy K gg)(w:Aa)(s:St)(g:Mc)(n Ci:Nat)(hG:Fy 0 w s g)(hn:n≤1000)(hJ:Ci≤100000)(hct:s.ct≤1000)(h:Halts n s g Ci):At Tryz.prog 18 #[↑gg,J U n] w (Until Fy K w (AH Ci s g)):=by
 have HX:=T hX;have HG:=T hG;have HH:=T h;have F0:=T (Ao (λk=> ¬K k) w);have H0:Hid (0<Ci→s.ct+8*(0:Nat)≤(AH 0 s g).s.ct):=T (λ_=>by show s.ct+8*(0:Nat)≤s.ct;omega);clear hX hG h;go_in;go_wp2_with fail;go_loopw [5] (λkv wr=> ∃(i j m:Nat),i≤n∧kv=J U i∧j≤Ci∧m≤j∧Hid (Fy m wr (AH j s g).s (AH j s g).g)∧Hid (j<Ci→s.ct+8*i≤(AH j s g).s.ct)∧Hid (Fr (λk=> ¬K k) w wr)) (λkv _=>n -(AM kv).toNat)
 case atStart=>exact⟨0,0,0,Bj _,rfl,Bj _,AD _,HG,H0,F0⟩
 case round=>
  obtain⟨i,j,m,hi,rfl,hj,hm,hG,hc,hF⟩:=hrel;clear HG H0 F0;by_cases hlt:i<n
  ·have h0:decide ((i:Int)<n)=Ag:=AA;have Hs:=T (HX.out.st m wr _ _ hG.out);go_wp2_with fail;refine Az Hs ?_;rintro e w1 ⟨X,c,Y,d,rfl,_,_,f1⟩;have HG1:=T (HX.out.fr m _ _ _ _ hG.out f1);have HF1:=T (hF.out.tr f1.none);have hfd:=OO (AH j s g).s (Z X (AH j s g).s.d.length c) (Z Y (AH j s g).s.r.length d);clear f1 Hs hF hG;rcases DG j Ci with hq|hq
   ·have hgo:=HH.out.go j hq;rw[hgo.1] at hfd;have Hr:=T (HX.out.run m w1 _ _ HG1.out O O (HH.out.ou j (Nat.le_of_lt hq)) (λk hk=>HH.out.oks (Nat.le_of_lt hq) k hk));clear hgo;go_wp2_with fail;refine Az Hr ?_;rintro e w2 ⟨jr,rfl,hG2,hr,f2⟩;have hl:=HH.out.leg hq O hr;rw[←MX] at hG2⊢;obtain⟨D,hD⟩:=A8 ((AH (j+jr) s g).s.ct -(AH j s g).s.ct);have HL:=T hl;have hD0:(D==0)=Ac:=by rw[←hD];simp;omega
    have HG2:=T hG2;have HF2:=T (HF1.out.tr f2);have HC:Hid (j+jr<Ci→s.ct+8*(i+1:Nat)≤(AH (j+jr) s g).s.ct):=T (λq=>by have:=hc.out hq;have:=hl.2.2.2 q;omega);rw[hD];clear hl hD hG2 hr f2 Hr hc HG1 HF1;go_wp2_with fail;exact⟨⟨i+1,j+jr,m+jr,O,Bn,HL.out.1,O,HG2,HC,HF2⟩,N6⟩
   ·obtain rfl:j=Ci:=O;rw[HH.out.ha] at hfd;have Hs:=T (HX.out.st m w1 _ _ HG1.out);go_wp2_with fail;refine Az Hs ?_;rintro e w2 ⟨X2,c2,Y2,d2,rfl,_,_,f2⟩;have HG2:=T (HX.out.fr m _ _ _ _ HG1.out f2);have HF2:=T (HF1.out.tr f2.none);have hfd:=OO (AH j s g).s (Z X2 (AH j s g).s.d.length c2) (Z Y2 (AH j s g).s.r.length d2);rw[HH.out.ha] at hfd;clear f2 Hs;exact jK
  ·have h0:decide ((i:Int)<n)=Ac:=AA;obtain rfl:j=Ci:=by
    rcases DG j Ci with q|q;·have:=hc.out q;have:=(HH.out.go j q).2;omega
    ·omega
   have Hs:=T (HX.out.st m wr _ _ hG.out);go_wp2_with fail;refine Az Hs ?_;rintro e w2 ⟨X2,c2,Y2,d2,rfl,_,_,f2⟩;have HG2:=T (HX.out.fr m _ _ _ _ hG.out f2);have HF2:=T (hF.out.tr f2.none);have hfd:=OO (AH j s g).s (Z X2 (AH j s g).s.d.length c2) (Z Y2 (AH j s g).s.r.length d2);rw[HH.out.ha] at hfd;clear f2 Hs hG hF;exact jK
theorem runs1(K:AE)(gg:Nat)(a:Ab)(A:Au)(ge:Nat):Runs (λm w s g=> ∃e,Gt w K gg a A ge e s g∧e.s.fl≤m) K gg:=by
 refine⟨λm w s g h=>?_,λm w w' s g h f=>?_,λm w s g h h1 h2 h3 h4=>?_⟩;·obtain⟨e,h,_⟩:=h;exact Sy w K gg a A ge e s g h
 ·obtain⟨e,h,q⟩:=h;exact⟨e,h.fr0 f,q⟩
 ·obtain⟨e,h,q⟩:=h;refine(j9 w K gg a A ge e s g h 8 O O h2 h3 O h4).mono ?_;rintro ed w' ⟨e2,j,rfl,hG,hr,hf,f⟩;exact⟨j,rfl,⟨e2,hG,O⟩,hr,f⟩
theorem runs0(K:AE)(gg:Nat)(a:Ab)(A:Au):Runs (λm w s g=>Gt0 w K gg a A s g) K gg:=by
 refine⟨λm w s g h=>jF w K gg a A s g h,λm w w' s g h f=>h.fr0 f,λm w s g h h1 h2 h3 h4=>?_⟩;refine(pX w K gg a A s g h 8 O O h2 h3 h4).mono ?_;rintro ed w' ⟨j,rfl,hG,hr,f⟩;exact⟨j,rfl,hG,hr,f⟩
end Bl
end Go.Proofs.YtdfegdoeebaagaaGreatDoor
