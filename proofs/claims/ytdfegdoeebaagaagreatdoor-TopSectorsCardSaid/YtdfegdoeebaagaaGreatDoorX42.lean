import Derived.Test.YtdfegdoeebaagaaGreatDoorX39
import Derived.Test.YtdfegdoeebaagaaGreatDoorX41
open Go.Value renaming slice→Z,int→J,agg→A9,pointer→Bm
open Option renaming some→I,none→G
open Go.IntKind renaming i64→U,u64→AP,wrap_u64→Gg
open Go renaming World→Aa,Value→As,Calls→At,wp_region_held_drew→C7,Ending→AY,undef→BY,Oper→BM,Operand→De
open Bool renaming true→Ag
open List renaming mem_map→BS,mem_filter→DF,setIfInBounds_toArray→Jd
open Go.Ending renaming returned→Ax
open And renaming intro→Ay
open Nat renaming le_refl→AD,zero_le→Bj
open Or renaming inl→Af,inr→Ah
open Go.Proofs.Tryz renaming underlying39→AQ
open Go.AllReadyH renaming nil→CB
open Go.Region renaming wanted→Dm
open Go.Oper renaming wp→EP
set_option linter.all false
set_option maxHeartbeats 40000000
set_option maxRecDepth 1000000
open Go Go.RowKit
namespace Go.Proofs.YtdfegdoeebaagaaGreatDoor
namespace Bl
open Fm Nt Rm By Wk Gs Bs Mu Sv Gm Gc Rn Eg
def GRun(w:Aa)(K:AE)(gg:Nat)(a:Ab)(A:Au)(ge:Nat)(e:Eo)(s:St)(g:Mc)(n:Int)(ed:AY)(w':Aa):Prop:=
 ∃e' j,ed=Ax (J U ((AH j s g).s.ct -s.ct))∧Gt w' K gg a A ge e' (AH j s g).s (AH j s g).g∧RunTo n s g j∧e'.s.fl≤e.s.fl+j∧Fr (λk=> ¬K k) w w'
theorem gtc_set(gp:Nat)(a:Ab)(A:Au)(ge:Nat)(s s2:St)(X Y X2 Y2:As):Dp (gtc gp a A ge s X Y) 6 (stc s2 X2 Y2).toList=gtc gp a A ge s2 X2 Y2:=by
 simp only[stc,gtc,Dp,Jd,List.set_cons_zero,List.set_cons_succ]
variable{w:Aa}{gp gg:Nat}{a:Ab}{A:Au}{ge:Nat}{s:St}
theorem step_stG{s2:St}{X Y X2 Y2:As}(h:Blk w gg 54 (gtc gp a A ge s X Y))(hX:X2.oneCell'=Ag)(hY:Y2.oneCell'=Ag){ops:Array BM}{o:BM}{ac:Act}{Q:Act→Aa→Prop}{Q2:Exit→Act→Aa→Prop}{E:Prop}{x y:De}(ho:o.op=.store 39 x y)(hg:o.guard=G)(hx:ac.eval x=Bm (I ⟨gg,6,G⟩))(hy:ac.eval y=A9 (stc s2 X2 Y2))(hk: ∀W,Blk W gg 54 (gtc gp a A ge s2 X2 Y2)→Fr (· =gg) w W→Q (ac.put o.dst BY) W):if Dm o (yielded ops ac.tmps)=Ag then EP Tryz.prog o ac w Q Q2 else E:=by
 have hw:=ON;rw[An hw];refine wp_store_mid 39 x y ho gg 6 (stc s2 X2 Y2) hx hy (λj hj=>?_) Ln (Ce s2 X2 Y2 hX hY) (hk _ ?_ (Fr.setCells _ _ (Ao _ _) (Af rfl)));·exact iY
 ·have hz:=h.setCells (stc s2 X2 Y2).toList 6;rwa[gtc_set] at hz
theorem step_ldG{X Y:As}(h:Blk w gg 54 (gtc gp a A ge s X Y)){ops:Array BM}{o:BM}{ac:Act}{Q:Act→Aa→Prop}{Q2:Exit→Act→Aa→Prop}{E:Prop}{x:De}(ho:o.op=.load 39 x)(hg:o.guard=G)(hx:ac.eval x=Bm (I ⟨gg,6,G⟩))(hk:Q (ac.put o.dst (A9 (stc s X Y))) w):if Dm o (yielded ops ac.tmps)=Ag then EP Tryz.prog o ac w Q Q2 else E:=by
 have hw:=ON;rw[An hw];refine wp_load_mid 39 x ho gg 6 hx (stc s X Y).toList _ (λj v hv=>cE) AQ rfl Ln ?_;simpa using hk
theorem grun_end{w7 W9:Aa}{K P:AE}{e e3:Eo}{s2:St}{g g2:Mc}{n:Int}{j:Nat}{X2 Y2:Aw}{c2 d2:Nat}(h:Gt w K gg a A ge e s g)(p3:P gg)(p4: ∀k,K k→P k)(hng: ¬e.own ge gg)(hx:Sx w w7 P Aj a A s2 g2 X2 Y2 c2 d2 ge e e3 j)(hj:AH j s g=⟨s2,g2⟩)(hr:RunTo n s g j)(hk:Rk s2)(hb:Blk W9 gg 54 (gtc gp a A ge s2 (Z X2 s2.d.length c2) (Z Y2 s2.r.length d2)))(f:Fr (λq=>q=gg) w7 W9):GRun w K gg a A ge e s g n (Ax (J U (s2.ct -s.ct))) W9:=by
 have hl:=h.lt;obtain⟨P',q1,q2,q3,q4,q5,q6,q7⟩:=hx.mc;have hs:=hx.f.size;have h7:Blk w7 gg 54 (gtc gp a A ge s2 (Z X2 s2.d.length c2) (Z Y2 s2.r.length d2))∨True:=Ah trivial;have hgg:gg<↑w:=hl.1;have hn3: ¬e3.own ge gg:=λr=>by
  rcases hx.own gg r with r|r;·exact hng r
  ·omega
 have hrow: ∀{v:As} {m:Nat} {xs:List As},w7.ownsRow 0 22 1 v m xs→ ∀k,v.ownBlock=I k→ ¬k=gg:=λ{v m xs} hv k hk e=>by
  obtain⟨gp',X,c,Y,d,hb0,_⟩:=h.ex;have hb7:=hb0.fr hx.f (λr=>r.elim (λr=>r p3) hng);exact iZ
 refine⟨e3,j,by rw[hj], ?_,hr,hx.fl,(hx.f.mono (S':=λk=> ¬K k) (λk hk q hK=>q.elim (λr=>r (p4 k hK)) (λr=>(h.own k hK).1 r))).trans f (λk hk q hK=>(h.own k hK).2 q)⟩
 ·rw[hj];refine⟨⟨gp,X2,c2,Y2,d2,hb,hx.st.fr f (λk hk q=>hrow hx.st.d k hk q) (λk hk q=>hrow hx.st.r k hk q),hx.ne,P',q3,λk hk=>⟨q6 k hk,λe0=>?_⟩,q1 _ p3,λk hk=>q1 k (p4 k hk),q7.fr f (λk hk=>j4) (λe0=>?_)⟩,hx.en.fr f (λk hk q=>hn3 (by rw[←show k=gg from q];exact hk)),hk,λk hk=>⟨λr=>?_,(h.own k hk).2⟩⟩
  ·obtain⟨gp',X,c,Y,d,hb0,_,_,P0,_,r2,_⟩:=h.ex;rcases hx.own k hk with r|r;·exact(r2 k r).2 e0
   ·omega
  ·obtain⟨gp',X,c,Y,d,hb0,_,_,P0,_,_,_,_,hM0⟩:=h.ex;exact j7
  ·rcases hx.own k r with r|r;·exact(h.own k hk).1 r
   ·have:=hl.2 k hk;omega
theorem j9(w:Aa)(K:AE)(gg:Nat)(a:Ab)(A:Au)(ge:Nat)(e:Eo)(s:St)(g:Mc)(h:Gt w K gg a A ge e s g)(n:Int)(n0: -1000≤n)(n1:n≤1000)(hct:s.ct≤1000000000)(ho:g.b.outs.length≤900000)(hfl:e.s.fl≤900000)(hok: ∀k,(∀i,i≤k→goB s.ct n (AH i s g).s=Ag)→okB (AH k s g).s (AH k s g).g):At Tryz.prog 25 #[↑gg,J U n] w (GRun w K gg a A ge e s g n):=by
 obtain⟨gp,X,c,Y,d,hb,hS,hne,P,p1,p2,p3,p4,hM⟩:=h.ex;have HG:=T h;have HOK:=T hok;clear hok;have HB:=T hb;have x22:=hb.cell 22;have x20:=jA;have x5:=hb.cell 5;have x1:=hb.cell 1;have xl:=hb.lt;have HX:=T (Sx.start hS p1 hne hM h.en p2);have HP:=T (Ay p3 p4);have HO:=T (Ay n0 (Ay n1 (Ay hct (Ay ho hfl))));have HNG:Hid (¬e.own ge gg):=T (EO h.en hb othG Ak);have hmem:=hM.un.M;rw[hM.am] at hmem;have Htu:=T (λW (f:Fr Aj w W)=>Rm.turned_any W a.am g.b.ms (hmem.fr0 f) 0 (Bj _));clear hS hne p1 p2 p3 p4 hM h n0 n1 hct ho hfl hmem hb;go_in;go_upto_region 5 with(fail);have HTd:Hid (∀W,Fr Aj w W→ ∀(Bh:Aw) (m:Nat),W.ownsRow 0 3 1 (Z Bh (turnN g.b.ms 64).length m) (turnN g.b.ms 64).length (JH (turnN g.b.ms 64))→At Tryz.prog 34 #[↑ge,Z Bh (turnN g.b.ms 64).length m] W (bV W ge e)):=T (λW f Bh m ho=>Eg.turned_any W ge e (HG.out.en.fr0 f) (turnN g.b.ms 64) _ m Bh ho (λz hz=>by
  obtain⟨i,hi,rfl⟩:=BS.1 hz;have:=List.mem_range.1 (DF.1 hi).1;exact Lx (by show -9223372036854775808≤(i:Int);omega) (by show(i:Int)≤9223372036854775807;omega)) (turnN_le _ _))
 go_cut [] (λwx=> ∃e2,Hid (Elk w wx ge e e2 0));case first=>
  refine C7 (S:=λW=>Blk W gg 54 (gtc gp a A ge s (Z X s.d.length c) (Z Y s.r.length d))) AL (HB.out.drew) (λhH=>?_);have HF:=T ((Ao Aj w).drew);generalize w.drew=wv at hH HF⊢;refine tgI 1000 ?_
  repeat' first
   |(refine tgR 8 ?_;go_simp;go_wp2_with ((with_reducible refine(Htu.out _ HF.out).mono ?_);rintro e3 w3 ⟨v3,rfl,ho3,f3,n3⟩;obtain⟨Z3,c3,hv3⟩:=Co.own_any ho3;subst hv3;have HF3:=T (HF.out.tr f3);have HO3:=T ho3;have hS3:=hH.fr f3 id;clear ho3 n3 f3);refine hK.out _ _ ?_ (λhH=>?_);(exact hS3);clear hK K)
   |(refine tgR 9 ?_;go_simp;go_wp2_with ((with_reducible refine(HTd.out _ HF3.out _ _ HO3.out).mono ?_);rintro e4 w4 ⟨rfl,e2,hE⟩;have HE:=T hE;clear hE;have hS4:=HE.out.blk hH othG);refine hK.out _ _ ?_ (λhH=>?_);(exact hS4);clear hK K)
   |(intro W hSw;have r5:=hSw.cell 5;have r1:=hSw.cell 1;have q0:=hSw.lt;go_simp;try with_reducible rfl)
   |simp only[Act.put,nzR]
   |(refine tgR 1000 ?_;refine tuR 0 ?_ hH ?_ (tuR 1 ?_ hH ?_ (tuR 2 ?_ hH ?_ (tuR 3 ?_ hH ?_ (tuR 4 ?_ hH ?_ (tuR 5 ?_ hH ?_ (tgI 1001 ?_)))))))
   |(refine tgR 1001 ?_;refine tuR 6 ?_ hH ?_ (tuR 7 ?_ hH ?_ (rdR (cTR 8 1002 (λK hK=>?_) CB))))
   |(refine tgR 1002 ?_;refine rdR (cTR 9 1003 (λK hK=>?_) CB))
   |(refine tgR 1003 ?_;refine dnR ?_)
  all_goals
   refine tgR 9999 ?_
   go_wp2
   go_meet;exact⟨e2,T (Elk.from0 HF3.out HG.out.en HE.out)⟩
 case rest=>
  obtain⟨e2,HE⟩:=hcut;obtain⟨w5,rfl⟩: ∃y,y=wc:=⟨_,rfl⟩;have HX5:=T (HX.out.eng HE.out);have HB5:=T (HE.out.blk HB.out othG);have HRn:Hid (∀W,Fr Aj w5 W→At Tryz.prog 36 #[↑ge,A9 (stc s (Z X s.d.length c) (Z Y s.r.length d)),↑A.gU,↑a.gB,J U n] W (λed w'=> ∃j s2 g2 X2 c2 Y2 d2 e3,AH j s g=⟨s2,g2⟩∧ed=Ax (A9 (stc s2 (Z X2 s2.d.length c2) (Z Y2 s2.r.length d2)))∧Sx w w' P Aj a A s2 g2 X2 Y2 c2 d2 ge e e3 j∧RunTo n s g j)):=T (λW f=>by
   obtain⟨P7,np7,M7,ow7,up7⟩:=(HX5.out.fr0 f).tr;obtain⟨h1,h2,h3,h4,h5⟩:=HO.out;have hf:=HE.out.fl;refine(erun_any W s X c Y d P7 a A g ge e2 (HX5.out.fr0 f).st (λk q=>np7 k (Ah q)) (HX5.out.fr0 f).ne M7 HG.out.rk (HX5.out.fr0 f).en ow7 n h1 h2 h3 h4 O HOK.out).mono (λed w' hh=>?_);obtain⟨X2,c2,Y2,d2,e3,j,rfl,hx,hr⟩:=hh;exact⟨j,_,_,X2,c2,Y2,d2,e3,rfl,rfl,(up7 hx).up O,hr⟩)
  have y0:=HB5.out.cell 0;have y4:=HB5.out.cell 4;have y5:=HB5.out.cell 5;have yl:=HB5.out.lt;have SK:Hid (w5.cell? ⟨gg,0,G⟩=I ↑a.gB∧w5.cell? ⟨gg,4,G⟩=I ↑A.gU∧w5.cell? ⟨gg,5,G⟩=I ↑ge∧gg<↑w5):=T ⟨y0,y4,y5,yl⟩;clear y0 y4 y5 yl;go_upto_region 6 with(fail);refine C7 (S:=λW=>W.cell? ⟨gg,0,G⟩=I ↑a.gB∧W.cell? ⟨gg,4,G⟩=I ↑A.gU∧W.cell? ⟨gg,5,G⟩=I ↑ge∧gg<↑W) AL (SK.out) (λhH=>?_);have HF:=T ((Ao Aj w5).drew);generalize w5.drew=wv at hH HF⊢;refine tgI 1000 ?_
  repeat' first
   |(refine tgR 8 ?_;refine step_ldG (HB5.out.fr HF.out id) rfl rfl BC ?_;refine hK.out _ _ ?_ (λhH=>?_);(exact hH);clear hK K)
   |(refine tgR 18 ?_;go_simp;go_wp2_with ((with_reducible refine(HRn.out _ HF.out).mono ?_);rintro e7 w7 ⟨j,s2,g2,X2,c2,Y2,d2,e3,hj,rfl,hx7,hr7⟩;have HX7:=T (Ay hx7 (Ay hr7 hj));have B7:=T (HB.out.fr hx7.f (λr=>r.elim (λr=>r HP.out.1) HNG.out));have hS7:=(⟨B7.out.cell 0,B7.out.cell 4,B7.out.cell 5,B7.out.lt⟩:_∧_∧_∧_);clear hx7 hr7 hj);refine hK.out _ _ ?_ (λhH=>?_);(exact hS7);clear hK K)
   |(refine tgR 21 ?_;refine step_stG (s2:=s2) (X2:=Z X2 s2.d.length c2) (Y2:=Z Y2 s2.r.length d2) B7.out rfl rfl rfl rfl BC BC ?_;intro W9 k9 f9;refine hK.out _ _ ?_ (λhH=>?_);(exact⟨k9.cell 0,k9.cell 4,k9.cell 5,k9.lt⟩);clear hK K;have K9:=T k9;have x20b:W9.cell? ⟨gg,20,G⟩=I (J AP s2.ct):=k9.cell 20;have xlb:=k9.lt;have HF9:=T f9;clear k9 f9 hH)
   |(intro W hSw;obtain⟨r0,r4,r5,q0⟩:=hSw;go_simp;try with_reducible rfl)
   |simp only[Act.put,nzR]
   |(refine tgR 1000 ?_;refine tuR 0 ?_ hH ?_ (tuR 1 ?_ hH ?_ (tuR 2 ?_ hH ?_ (tuR 3 ?_ hH ?_ (tuR 4 ?_ hH ?_ (tuR 5 ?_ hH ?_ (tgI 1001 ?_)))))))
   |(refine tgR 1001 ?_;refine tuR 6 ?_ hH ?_ (tuR 7 ?_ hH ?_ (tuR 9 ?_ hH ?_ (tuR 10 ?_ hH ?_ (tuR 11 ?_ hH ?_ (tuR 12 ?_ hH ?_ (tgI 1002 ?_)))))))
   |(refine tgR 1002 ?_;refine tuR 13 ?_ hH ?_ (tuR 14 ?_ hH ?_ (tuR 15 ?_ hH ?_ (tuR 16 ?_ hH ?_ (tuR 17 ?_ hH ?_ (rdR (cTR 8 1003 (λK hK=>?_) CB)))))))
   |(refine tgR 1003 ?_;refine rdR (cTR 18 1004 (λK hK=>?_) CB))
   |(refine tgR 1004 ?_;refine tuR 19 ?_ hH ?_ (tuR 20 ?_ hH ?_ (rdR (cTR 21 1005 (λK hK=>?_) CB))))
   |(refine tgR 1005 ?_;refine dnR ?_)
  all_goals
   refine tgR 9999 ?_;go_wp2_with fail;obtain⟨hx,hr,hj⟩:=HX7.out;have hs0:0≤s.ct:=HG.out.rk.1.ct.1;obtain⟨h1,h2,h3,h4,h5⟩:=HO.out;have he:=hr.ends h3 O;have hbd:=Ko hr.go hr.rk h3 O j (AD _);have hrj:=hr.rk j (AD _);rw[hj] at he hbd hrj;dsimp only at he hbd hrj;have hD:s2.ct -s.ct<2000:=jB;have hw:=jC;rw[hw];go_ret;exact grun_end HG.out HP.out.1 HP.out.2 HNG.out hx hj hr hrj K9.out HF9.out
end Bl
end Go.Proofs.YtdfegdoeebaagaaGreatDoor
