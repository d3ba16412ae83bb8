import Derived.Test.YtdfegdoeebaagaaGreatDoorX35
open Go.Value renaming slice→Z,int→J,bool→Ap,tuple→AF,agg→A9,oneCell'→Ir
open Option renaming some→I,none→G
open Go.IntKind renaming i64→U,u32→V,u8→AB
open Go renaming World→Aa,Value→As,Calls→At,bodyPost_ret→Bt,TypeId→AN,wp_region_held_drew→C7,Ending→AY,Program→CF,undef→BY,Oper→BM,Operand→De
open Bool renaming false→Ac,true→Ag
open List renaming getD_eq_getElem?_getD→AS,getElem?_map→DP,getElem?_range→IL
open Go.Ending renaming returned→Ax
open And renaming intro→Ay
open Nat renaming le_refl→AD,lt_of_lt_of_le→Bg,le_trans→Bf,zero_add→BW
open Or renaming inl→Af,inr→Ah
open Go.Proofs.Tryz renaming underlying39→AQ
open Go.Region renaming wanted→Dm
open Go.Oper renaming wp→EP
set_option linter.all false
set_option maxHeartbeats 40000000
set_option maxRecDepth 1000000
open Go Go.RowKit
namespace Go.Proofs.YtdfegdoeebaagaaGreatDoor
namespace Bl
open Fm Nt Rm By Wk Gs Bs Mu Sv Gm Gc Rn Eg
theorem pP{w:Aa}{gp:Nat}{m:Ms}{p:Int}(hc:Cells w gp 5 64 (λk=> J AB (m.mem ((p/64).toNat*64+k))))(p0:0≤p)(hlt:p<(m.n:Int)*64)(hbd: ∀j,j<m.n*64→0≤m.mem j∧m.mem j<256):IntsAt AB w (gp+1) (I ⟨gp,(p%64).toNat,G⟩) (64 -(p%64).toNat) (C3 m p):=by
 have hg: ∀i,i<64 -(p%64).toNat→(C3 m p).getD i 0=m.mem ((p/64).toNat*64+((p%64).toNat+i)):=λi hi=>by
  unfold C3;rw[AS,DP,IL hi];show m.mem (p.toNat+i)=_;congr 1;omega
 refine⟨by simp[C3],λi hi=>?_,λ_=>⟨_,_,rfl,O,λi hi=>?_⟩⟩;·rw[hg i hi];have:=hbd ((p/64).toNat*64+((p%64).toNat+i)) O;exact OE
 ·rw[hg i hi];exact hc.cell ((p%64).toNat+i) O
section
variable {w w3:Aa} {S:AE}
theorem fr4(f:Fr S w w3){g:Nat}{a0 a1 a2 a3:As}(h:S g∨↑w≤g):Fr S w ((((w3.setCell ⟨g,0,G⟩ a0).setCell ⟨g,1,G⟩ a1).setCell ⟨g,2,G⟩ a2).setCell ⟨g,3,G⟩ a3):=
 (((f.setCell (p:=⟨g,0,G⟩) h _).setCell (p:=⟨g,1,G⟩) h _).setCell (p:=⟨g,2,G⟩) h _).setCell (p:=⟨g,3,G⟩) h _
theorem fr2(f:Fr S w w3){g:Nat}{a0 a1:As}(h:S g∨↑w≤g):Fr S w ((w3.setCell ⟨g,0,G⟩ a0).setCell ⟨g,1,G⟩ a1):=
 (f.setCell (p:=⟨g,0,G⟩) h _).setCell (p:=⟨g,1,G⟩) h _
end
variable{wc:Aa}{ge:Nat}{e e2:Eo}
theorem J1{w3:Aa}{g:Nat}(h:Elk wc w3 ge e e2 1)(hn: ¬e.own ge g)(hl:g<↑wc): ¬e2.own ge g:=λr=>by
 rcases h.own g r with r|r;·exact hn r
 ·omega
variable{w2:Aa}
theorem J2(h:Elk w2 wc ge e e2 1): ¬e2.own ge wc.heap.size:=λr=>Nat.lt_irrefl _ (h.en.own_lt _ r)
theorem J3{S:AE}(h:Fr S w2 wc):w2.heap.size≤wc.heap.size:=h.size
theorem srt_ne{w:Aa}{q:Nat}{t:AN}{cs:AO}(h:Blk w q t cs)(ht:t≠5):Ca.srt w q≠I (I 5):=λr=>by
 rw[Ca.srt_blk h] at r;simp at r;exact ht r
theorem IX:Oth 158:=⟨Ak,Ak,Ak,Ak⟩
theorem J4{P:CF}{w:Aa}{g:Nat}{ty:AN}{cs cs':AO}{n:Nat}(h:Blk w g ty cs)(hi:(P.info? ty).map (·.size)=I n)(hs:cs'.size=cs.size)(hn:cs'.size=n)(h1:cs'.all (·.oneCell')=Ag){ops:Array BM}{o:BM}{a:Act}{K:Act→Aa→Prop}{Q:Exit→Act→Aa→Prop}{E:Prop}{x y:De}(ho:o.op=.store ty x y)(hg:o.guard=G)(hx:a.eval x=↑g)(hy:a.eval y=A9 cs')(hk: ∀W,Blk W g ty cs'→Fr (· =g) w W→K (a.put o.dst BY) W):if Dm o (yielded ops a.tmps)=Ag then EP P o a w K Q else E:=by
 have hw:=NR;rw[An hw];refine wp_store_mid ty x y ho g 0 cs' hx hy (λj hj=>?_) (by rw[hi,hn]) h1 (hk _ (Tz h hs) (Fr.setCells _ _ (Ao _ _) (Af rfl)));exact Wm
structure Td(wz W:Aa)(g8 gS g15 g14:Nat)(SV RV BV:AO):Prop where
 f:Fr (λq=>q=g8∨q=g8+1) wz W
 s:Blk W gS 39 SV
 r:Blk W g15 158 RV
 x:Blk W g14 149 BV
 b8: ∃c,c.size=16∧Blk W g8 39 c
 b9: ∃c,c.size=2∧Blk W (g8+1) 158 c
 n8:gS≠g8
 n9:g15≠g8+1
variable{wz W:Aa}{g8 gS g15 g14:Nat}{SV RV BV:AO}
theorem Td.drew(h:Td wz W g8 gS g15 g14 SV RV BV):Td wz W.drew g8 gS g15 g14 SV RV BV:=by
 obtain⟨c8,z8,b8⟩:=h.b8;obtain⟨c9,z9,b9⟩:=h.b9;exact⟨h.f.drew,h.s.drew,h.r.drew,h.x.drew,⟨c8,z8,b8.drew⟩,⟨c9,z9,b9.drew⟩,h.n8,h.n9⟩
theorem Td.go8{W2:Aa}{c:AO}(h:Td wz W g8 gS g15 g14 SV RV BV)(f:Fr (λq=>q=g8) W W2)(hb:Blk W2 g8 39 c)(hc:c.size=16):Td wz W2 g8 gS g15 g14 SV RV BV:=by
 obtain⟨c8,z8,b8⟩:=h.b8;obtain⟨c9,z9,b9⟩:=h.b9;exact⟨h.f.trans f (λq _ e=> Af e),h.s.fr f h.n8,h.r.fr f (λe=>h.r.ne_ b8 Ak e),h.x.fr f (λe=>h.x.ne_ b8 Ak e),⟨c,hc,hb⟩,⟨c9,z9,b9.fr f (λe=>by have:g8+1=g8:=e;omega)⟩,h.n8,h.n9⟩
theorem Td.go9{W2:Aa}{c:AO}(h:Td wz W g8 gS g15 g14 SV RV BV)(f:Fr (λq=>q=g8+1) W W2)(hb:Blk W2 (g8+1) 158 c)(hc:c.size=2):Td wz W2 g8 gS g15 g14 SV RV BV:=by
 obtain⟨c8,z8,b8⟩:=h.b8;obtain⟨c9,z9,b9⟩:=h.b9;exact⟨h.f.trans f (λq _ e=> Ah e),h.s.fr f (λe=>h.s.ne_ b9 Ak e),h.r.fr f h.n9,h.x.fr f (λe=>h.x.ne_ b9 Ak e),⟨c8,z8,b8.fr f (λe=>by have:g8=g8+1:=e;omega)⟩,⟨c,hc,hb⟩,h.n8,h.n9⟩
theorem Sx.wroteS{w w':Aa}{P L S:AE}{a:Ab}{A:Au}{g:Mc}{s:St}{X Y:Aw}{c d:Nat}{e':Eo}{D:Nat}(h:Sx w w' P L a A s g X Y c d ge e e' D)(hq: ∀q,S q→L q)(hx: ∀q,S q→ab X≠I q∧ab Y≠I q)(he: ∀q,S q→ ¬e'.own ge q)(f:Fr S w' w2):Sx w w2 P L a A s g X Y c d ge e e' D:=by
 obtain⟨P',p1,p2,p3,p4,p5,p6,p7⟩:=h.mc;have hz:=h.z.2.1 0 h.z.1;exact⟨h.st.fr f (λk hk r=>(hx k r).1 (Rn.own_ab hk)) (λk hk r=>(hx k r).2 (Rn.own_ab hk)),h.ne,h.f.trans f (λk hk r=>by have:=h.z.2.2.2 k (hq k r);omega),h.z,h.en.fr f (λk hk r=>he k r hk),h.gc,h.fl,h.own,P',p1,p2,p3,p4,p5,p6,p7.fr f (λk hk=>p5 k (hq k hk)) (λr=>by have:=h.z.2.2.2 0 (hq 0 r);omega)⟩
theorem SQ{w:Aa}{P L:AE}{a:Ab}{A:Au}{g:Mc}{s:St}{X Y:Aw}{c d:Nat}{e':Eo}{D:Nat}(h:Sx w wz P L a A s g X Y c d ge e e' D)(t0:Td wz wz g8 gS g15 g14 SV RV BV)(t:Td wz W g8 gS g15 g14 SV RV BV)(hL:L g8∧L (g8+1)):Sx w W P Aj a A s g X Y c d ge e e' D:=by
 obtain⟨c8,z8,b8⟩:=t0.b8;obtain⟨c9,z9,b9⟩:=t0.b9;refine(h.wroteS (λq hq=>?_) (λq hq=>?_) (λq hq=>?_) t.f).none
 ·rcases hq with rfl|rfl;·exact hL.1
  ·exact hL.2
 ·rcases hq with rfl|rfl;·exact⟨λe=>AZ h.st.d b8 Ak (ab_own h.st.d e),λe=>AZ h.st.r b8 Ak (ab_own h.st.r e)⟩
  ·exact⟨λe=>AZ h.st.d b9 Ak (ab_own h.st.d e),λe=>AZ h.st.r b9 Ak (ab_own h.st.r e)⟩
 ·rcases hq with rfl|rfl;·exact EO h.en b8 CC Ak
  ·exact EO h.en b9 IX Ak
theorem lk_cells{wv w5:Aa}{gk:Nat}{e3:Eo}{x y:As}(h:Elk wv w5 ge e2 e3 0)(hla:e3.la=e2.la)(hH:(wv.cell? ⟨ge,0,G⟩=I ↑e2.gc∧wv.cell? ⟨ge,2,G⟩=I (J V e2.la.1)∧wv.cell? ⟨ge,3,G⟩=I (J V e2.la.2)∧ge<↑wv)∧wv.cell? ⟨gk,0,G⟩=I x∧wv.cell? ⟨gk,1,G⟩=I y∧gk<↑wv)(nk: ¬e2.own ge gk):(w5.cell? ⟨ge,0,G⟩=I ↑e2.gc∧w5.cell? ⟨ge,2,G⟩=I (J V e2.la.1)∧w5.cell? ⟨ge,3,G⟩=I (J V e2.la.2)∧ge<↑w5)∧w5.cell? ⟨gk,0,G⟩=I x∧w5.cell? ⟨gk,1,G⟩=I y∧gk<↑w5:=by
 have hs:=h.f.size;refine⟨⟨?_, ?_, ?_,h.en.b.lt⟩,h.f.cell hH.2.1 hH.2.2.2 nk,h.f.cell hH.2.2.1 hH.2.2.2 nk,O⟩;·rw[←h.gc];exact h.en.b.cell 0
 ·rw[←hla];exact h.en.b.cell 2
 ·rw[←hla];exact h.en.b.cell 3
def TrPost(w:Aa)(P:AE)(a:Ab)(A:Au)(s:St)(p:Int)(g:Mc)(ge:Nat)(e:Eo)(ed:AY)(w':Aa):Prop:=
 ∃(X:Aw) (c:Nat) (Y:Aw) (d:Nat) (e':Eo) (A2:Aw) (n2 c2:Nat) (en:Bool) (n:Nat) (s2:St) (g2:Mc),ed=Ax (AF #[A9 (stc s2 (Z X s2.d.length c) (Z Y s2.r.length d)),A9 #[Z A2 n2 c2,Ap en],J U n])∧
  Sx w w' P Aj a A s2 g2 X Y c d ge e e' 1∧((n=0∧s2=s∧g2=g)∨ ∃l bs,n=l.length∧Plr l bs∧CG s l=I s2∧g2=g.calm∧bs<+:C3 g.b.ms p∧n2=bs.length∧en=endsB (l.getLastD ⟨0,0⟩).op)
theorem pQ(w:Aa)(s:St)(A0:Aw)(c0:Nat)(B0:Aw)(d0:Nat)(P:AE)(a:Ab)(A:Au)(g:Mc)(ge:Nat)(e:Eo)(hS:StV w 0 s (Z A0 s.d.length c0) (Z B0 s.r.length d0))(hp: ∀k,ab A0=I k∨ab B0=I k→P k)(hne: ∀k,ab A0=I k→ab B0≠I k)(hM:Mch w P a A g)(hk:Rk s)(hE:En w ge e)(hown: ∀k,e.own ge k→P k∧k≠0)(p:Int)(p0:0≤p)(p1:p<(g.b.ms.n:Int)*64)(hfl:e.s.fl≤999999):At Tryz.prog 77 #[↑ge,A9 (stc s (Z A0 s.d.length c0) (Z B0 s.r.length d0)),J V p,↑A.gU] w (TrPost w P a A s p g ge e):=by
 obtain⟨b5,b8,f0⟩:=Ds w (stc s (Z A0 s.d.length c0) (Z B0 s.r.length d0)) z16 39 39;have hz1:=OJ;generalize hW1:(w.alloc (.cells (stc s (Z A0 s.d.length c0) (Z B0 s.r.length d0)) 39)).alloc (.cells z16 39)=W1 at*;have b9:Blk (W1.alloc (.cells zR 158)) (↑w+1+1) 158 zR:=CK _ _ _ O;have f1:=(Ao Aj W1).alloc (.cells zR 158);have b5:=b5.fr f1 id;have b8:=b8.fr f1 id;have f0:=f0.tr f1;have hz0:(W1.alloc (.cells zR 158)).heap.size=w.heap.size+3:=by simp[hz1]
 have l0:=(Sx.start hS hp hne hM hE hown).more f0 (L':=λk=>k=w.heap.size∨k=w.heap.size+1∨k=w.heap.size+1+1) (λk q=>by
  right;rw[hz0];omega)
 subst hW1;generalize hW0:((w.alloc (.cells (stc s (Z A0 s.d.length c0) (Z B0 s.r.length d0)) 39)).alloc (.cells z16 39)).alloc (.cells zR 158)=W0 at*;have L0:=T l0;have B5:=T b5;have B8:=T b8;have B9:=T b9;have HW:=T hW0;have HK:=T hk;have HAO:Hid (∀k,a.am.own k→k<w.heap.size):=T (by
  obtain⟨F,_,_,h3⟩:=hM.lt;exact λk hk=>h3 k (Af (Ah (Ah (Ah (Ah (Af hk)))))))
 have HZ0:=T hz0;obtain⟨P1,M1,np1,_,_⟩:=l0.call;have hmem:=M1.un.M;rw[M1.am] at hmem;have HMem:Hid (Mem W0 a.am g.b.ms):=T hmem;have HMt:=T (Mu.memory_t W0 A g.u M1.un);have HAM:=T M1.am;have HPg:=T (page_in W0 a.am g.b.ms HMem.out (p/64) O O);obtain⟨hn1,hn2⟩:=HMem.out.n0;have hd1:p.tdiv 64%4294967296=p/64:=by rw[Int.tdiv_eq_ediv_of_nonneg p0];omega
 have hd2:p.tdiv 64=p/64:=Int.tdiv_eq_ediv_of_nonneg p0;have hd3:p/64%4294967296=p/64:=O;have HFL:=T hfl;have HKy:Hid (Ca.Ky.Ok (s.pc,p)):=T ⟨hk.1.pc,p0,by show p≤4294967295;omega⟩;have hd4:p.tmod 64=p%64:=Int.tmod_eq_emod_of_nonneg p0;have hd5:p%64%4294967296=p%64:=O;have hs1:0≤p%64:=O;have hs2:p%64≤64:=O;have hs3: ¬(64=(p%64).toNat):=O;clear hS hp hne hM hz1 f0 f1 b5 b8 b9 hk hE hown l0 hW0 hz0 M1 np1 hmem;go_in;go_upto_region 1 with(fail);rw[HW.out];go_cut [11] (λv11 wx=>v11=Z (I ⟨↑W0,0,G⟩) 64 64∧Hid (Cells wx ↑W0 5 64 (λk=> J AB (g.b.ms.mem ((p/64).toNat*64+k))))∧Hid (Fr Aj W0 wx));case first=>
  go_wp2_with (first
   |((with_reducible refine Az HMt ?_);rintro e2 w2 ⟨rfl,rfl⟩;rw[HAM.out])
   |((with_reducible refine Az HPg ?_);rintro e3 w3 ⟨rfl,hc,f3⟩;have HC:=T hc;have HF3:=T f3;clear hc f3))
  go_meet;exact⟨rfl,HC.out,HF3.out⟩
 case rest=>
  obtain⟨rfl,HC,HF1⟩:=hcut;obtain⟨w1,rfl⟩: ∃w1,w1=wc:=⟨_,rfl⟩;have HB5:=T (B5.out.fr HF1.out id);have c0:w1.cell? ⟨↑w,0,G⟩=I (J V s.pc):=HB5.out.cell 0;have cl:=HB5.out.lt;go_upto_region 3 with(fail);have fk:=(Ao Aj w1).alloc (.cells #[J V s.pc,J V p] 122);have bk:=AI w1 122 #[J V s.pc,J V p];obtain⟨gk,hgk⟩:=A8 w1.heap.size;rw[hgk] at bk⊢;generalize w1.alloc (.cells #[J V s.pc,J V p] 122)=w2 at*;have HBk:=T bk;have HF2:=T (HF1.out.tr fk);have HL2:=T (L0.out.fr0 HF2.out);have HC2:=T (HC.out.fr fk id);have HGK:=T hgk;have HF12:=T fk;have HFd:Hid (∀W,Fr Aj w2 W→At Tryz.prog 97 #[↑ge,A9 #[J V s.pc,J V p],Z (I ⟨↑W0,(p%64).toNat,G⟩) (64 -(p%64).toNat) (64 -(p%64).toNat)] W (SM W ge e (s.pc,p) (C3 g.b.ms p))):=T (λW f=>by
   obtain⟨cs,hcs,_⟩:=(HC2.out.fr f id);have hz:=(pP (HC2.out.fr f id) p0 p1 HMem.out.bd);exact find_any W ge e (HL2.out.en.fr0 f) (s.pc,p) HKy.out (↑W0+1) _ _ _ _ _ hz (Nat.succ_le_of_lt hcs.lt) O O (AD _) ⟨cs,hcs⟩ HFL.out)
  have k0:w2.cell? ⟨gk,0,G⟩=I (J V s.pc):=bk.cell 0;have k1:w2.cell? ⟨gk,1,G⟩=I (J .u32 p):=bk.cell 1;have kl:=bk.lt;have HNO:Hid (∀q,w.heap.size≤q→ ¬e.own ge q):=T (λq hq r=>by have:=HL2.out.z.2.1 q (HL2.out.z.2.2.1 q r).1;omega);have nk: ¬e.own ge gk:=HNO.out gk (by have:=HF1.out.size;have:=HZ0.out;omega);have HN2:Hid (∀q,w2.heap.size≤q→ ¬e.own ge q):=T (λq hq=>HNO.out q (by have:=HF2.out.size;have:=HZ0.out;omega));clear c0 cl fk bk hgk;go_cut [14,15,16] (λv14 v15 v16 wx=> ∃(g14 g15:Nat) (pc pl:Int) (C:Aw) (nC cC:Nat) (ct:Int) (A2:Aw) (n2 c2:Nat) (en ok:Bool) (e2:Eo),v14=↑g14∧v15=↑g15∧v16=Ap ok∧Hid (Blk wx g14 149 #[J V pc,J V pl,Z C nC cC,J U ct])∧Hid (Blk wx g15 158 #[Z A2 n2 c2,Ap en])∧Hid (↑w2≤g14∧↑w2≤g15∧ ¬e2.own ge g14∧ ¬e2.own ge g15)∧Hid (Elk w2 wx ge e e2 1)∧Hid (ok=Ag→HitOk wx (s.pc,p) (C3 g.b.ms p) C nC cC ct n2 en));case first=>
   refine C7 (S:=Fr (e.own ge) w2) AL ((Ao (e.own ge) w2).drew) (λhH=>?_);have HF:=T ((Ao Aj w2).drew);generalize w2.drew=wc at hH HF⊢;refine Av 0 rfl hH Dc ?_;refine Av 1 rfl hH Dc ?_;refine Av 2 rfl hH Dc ?_
   try simp only[AG]
   refine Av 3 rfl hH Dc ?_;refine Av 4 rfl hH Dc ?_;refine Av 5 rfl hH Dc ?_
   try simp only[AG]
   refine Bb [6,11,12] ?_;refine AT (λK hK=>?_) ?_
   ·go_simp;go_wp2_with ((with_reducible refine(HFd.out _ HF.out).mono ?_);rintro e3 w3 ⟨pc,pl,C,nC,cC,ct,A2,n2,c2,en,ok,e2,rfl,hel,hhit⟩;have HE:=T (Elk.from0 HF.out HL2.out.en hel);have HHIT:=T hhit;have hS3:=hH.tr hel.f;(try(have N14:=T (J1 hel (HN2.out _ L14.out) B14.out.lt);replace B14:=T (B14.out.fr hel.f (HN2.out _ L14.out))));(try(have N15:=T (J1 hel (HN2.out _ L15.out) B15.out.lt);replace B15:=T (B15.out.fr hel.f (HN2.out _ L15.out))));clear hel hhit HF);refine hK.out _ _ (hS3) λhH=>?_;clear hK K;clear hS3;obtain⟨wc,rfl⟩: ∃wz,wz=w3:=⟨_,rfl⟩;refine Av 7 rfl hH Dc ?_;refine Av 8 rfl hH Dc ?_;refine Av 9 rfl hH Dc ?_
    try simp only[AG]
    refine Av 10 rfl hH Dc ?_
    try simp only[AG]
    refine Bb [11,12] ?_;refine AT (λK hK=>?_) ?_
    ·have hH':=hH;go_simp;refine hK.out _ _ (hH'.alloc _) λhH=>?_;clear hK K;have f0:=OK;have B14:=T (AI wc 149 zB);have L14:=T (J3 hH')
     try have N14:=T (J2 HE.out)
     try replace B15:=T (B15.out.fr f0 id)
     try replace HF:=T (HF.out.tr f0)
     try(replace HE:=T (HE.out.then0 f0);replace HHIT:=T (λq=>(HHIT.out q).fr f0 (λ_ e=>e.elim)))
     obtain⟨g14,hg⟩:=A8 wc.heap.size;rw[hg] at B14 L14⊢
     try rw[hg] at N14
     clear hg;generalize wc.alloc (.cells zB 149)=wd at*;clear f0 hH';obtain⟨wc,rfl⟩: ∃wz,wz=wd:=⟨_,rfl⟩;exact gG
    refine AT (λK hK=>?_) ?_
    ·have hH':=hH;go_simp;refine hK.out _ _ (hH'.alloc _) λhH=>?_;clear hK K;have f0:=OL;have B15:=T (AI wc 158 zR);have L15:=T (J3 hH')
     try have N15:=T (J2 HE.out)
     try replace B14:=T (B14.out.fr f0 id)
     try replace HF:=T (HF.out.tr f0)
     try(replace HE:=T (HE.out.then0 f0);replace HHIT:=T (λq=>(HHIT.out q).fr f0 (λ_ e=>e.elim)))
     obtain⟨g15,hg⟩:=A8 wc.heap.size;rw[hg] at B15 L15⊢
     try rw[hg] at N15
     clear hg;generalize wc.alloc (.cells zR 158)=wd at*;clear f0 hH';obtain⟨wc,rfl⟩: ∃wz,wz=wd:=⟨_,rfl⟩;exact gH
    exact Bc
   refine AT (λK hK=>?_) ?_
   ·have hH':=hH;go_simp;refine hK.out _ _ (hH'.alloc _) λhH=>?_;clear hK K;have f0:=OK;have B14:=T (AI wc 149 zB);have L14:=T (J3 hH')
    try have N14:=T (J2 HE.out)
    try replace B15:=T (B15.out.fr f0 id)
    try replace HF:=T (HF.out.tr f0)
    try(replace HE:=T (HE.out.then0 f0);replace HHIT:=T (λq=>(HHIT.out q).fr f0 (λ_ e=>e.elim)))
    obtain⟨g14,hg⟩:=A8 wc.heap.size;rw[hg] at B14 L14⊢
    try rw[hg] at N14
    clear hg;generalize wc.alloc (.cells zB 149)=wd at*;clear f0 hH';obtain⟨wc,rfl⟩: ∃wz,wz=wd:=⟨_,rfl⟩;refine Bb [6,12] ?_;refine AT (λK hK=>?_) ?_
    ·go_simp;go_wp2_with ((with_reducible refine(HFd.out _ HF.out).mono ?_);rintro e3 w3 ⟨pc,pl,C,nC,cC,ct,A2,n2,c2,en,ok,e2,rfl,hel,hhit⟩;have HE:=T (Elk.from0 HF.out HL2.out.en hel);have HHIT:=T hhit;have hS3:=hH.tr hel.f;(try(have N14:=T (J1 hel (HN2.out _ L14.out) B14.out.lt);replace B14:=T (B14.out.fr hel.f (HN2.out _ L14.out))));(try(have N15:=T (J1 hel (HN2.out _ L15.out) B15.out.lt);replace B15:=T (B15.out.fr hel.f (HN2.out _ L15.out))));clear hel hhit HF);refine hK.out _ _ (hS3) λhH=>?_;clear hK K;clear hS3;obtain⟨wc,rfl⟩: ∃wz,wz=w3:=⟨_,rfl⟩;refine Av 7 rfl hH Dc ?_;refine Av 8 rfl hH Dc ?_;refine Av 9 rfl hH Dc ?_
     try simp only[AG]
     refine Av 10 rfl hH Dc ?_
     try simp only[AG]
     exact gG
    refine AT (λK hK=>?_) ?_
    ·have hH':=hH;go_simp;refine hK.out _ _ (hH'.alloc _) λhH=>?_;clear hK K;have f0:=OL;have B15:=T (AI wc 158 zR);have L15:=T (J3 hH')
     try have N15:=T (J2 HE.out)
     try replace B14:=T (B14.out.fr f0 id)
     try replace HF:=T (HF.out.tr f0)
     try(replace HE:=T (HE.out.then0 f0);replace HHIT:=T (λq=>(HHIT.out q).fr f0 (λ_ e=>e.elim)))
     obtain⟨g15,hg⟩:=A8 wc.heap.size;rw[hg] at B15 L15⊢
     try rw[hg] at N15
     clear hg;generalize wc.alloc (.cells zR 158)=wd at*;exact gI
    exact Bc
   refine AT (λK hK=>?_) ?_
   ·have hH':=hH;go_simp;refine hK.out _ _ (hH'.alloc _) λhH=>?_;clear hK K;have f0:=OL;have B15:=T (AI wc 158 zR);have L15:=T (J3 hH')
    try have N15:=T (J2 HE.out)
    try replace B14:=T (B14.out.fr f0 id)
    try replace HF:=T (HF.out.tr f0)
    try(replace HE:=T (HE.out.then0 f0);replace HHIT:=T (λq=>(HHIT.out q).fr f0 (λ_ e=>e.elim)))
    obtain⟨g15,hg⟩:=A8 wc.heap.size;rw[hg] at B15 L15⊢
    try rw[hg] at N15
    clear hg;generalize wc.alloc (.cells zR 158)=wd at*;clear f0 hH';obtain⟨wc,rfl⟩: ∃wz,wz=wd:=⟨_,rfl⟩;refine Bb [6,11] ?_;refine AT (λK hK=>?_) ?_
    ·go_simp;go_wp2_with ((with_reducible refine(HFd.out _ HF.out).mono ?_);rintro e3 w3 ⟨pc,pl,C,nC,cC,ct,A2,n2,c2,en,ok,e2,rfl,hel,hhit⟩;have HE:=T (Elk.from0 HF.out HL2.out.en hel);have HHIT:=T hhit;have hS3:=hH.tr hel.f;(try(have N14:=T (J1 hel (HN2.out _ L14.out) B14.out.lt);replace B14:=T (B14.out.fr hel.f (HN2.out _ L14.out))));(try(have N15:=T (J1 hel (HN2.out _ L15.out) B15.out.lt);replace B15:=T (B15.out.fr hel.f (HN2.out _ L15.out))));clear hel hhit HF);refine hK.out _ _ (hS3) λhH=>?_;clear hK K;clear hS3;obtain⟨wc,rfl⟩: ∃wz,wz=w3:=⟨_,rfl⟩;refine Av 7 rfl hH Dc ?_;refine Av 8 rfl hH Dc ?_;refine Av 9 rfl hH Dc ?_
     try simp only[AG]
     refine Av 10 rfl hH Dc ?_
     try simp only[AG]
     exact gH
    refine AT (λK hK=>?_) ?_
    ·have hH':=hH;go_simp;refine hK.out _ _ (hH'.alloc _) λhH=>?_;clear hK K;have f0:=OK;have B14:=T (AI wc 149 zB);have L14:=T (J3 hH')
     try have N14:=T (J2 HE.out)
     try replace B15:=T (B15.out.fr f0 id)
     try replace HF:=T (HF.out.tr f0)
     try(replace HE:=T (HE.out.then0 f0);replace HHIT:=T (λq=>(HHIT.out q).fr f0 (λ_ e=>e.elim)))
     obtain⟨g14,hg⟩:=A8 wc.heap.size;rw[hg] at B14 L14⊢
     try rw[hg] at N14
     clear hg;generalize wc.alloc (.cells zB 149)=wd at*;exact gI
    exact Bc
   exact Bc
  case rest=>
   obtain⟨g14,g15,pc,pl,C,nC,cC,ct,A2,n2,c2,en,ok,e2,rfl,rfl,rfl,HB14,HB15,HN,HE,HHIT⟩:=hcut;obtain⟨wz,rfl⟩: ∃wz,wz=wc:=⟨_,rfl⟩;have HL3:=T (HL2.out.eng HE.out);have HV5:=T (HE.out.blk (B5.out.fr HF2.out id) CC);have HV8:=T (HE.out.blk (B8.out.fr HF2.out id) CC);have HV9:=T (HE.out.blk (B9.out.fr HF2.out id) IX);have HVk:=T (HBk.out.fr HE.out.f nk);have NE8:w.heap.size≠w.heap.size+1:=O;have NE9:g15≠↑w+1+1:=by have:=HN.out;have:=HF2.out.size;have:=HZ0.out;omega
   have oS:=Ce s (Z A0 s.d.length c0) (Z B0 s.r.length d0) rfl rfl;have TD:Hid (Td wz wz (↑w+1) ↑w g15 g14 (stc s (Z A0 s.d.length c0) (Z B0 s.r.length d0)) (#[Z A2 n2 c2,Ap en]) (#[J V pc,J V pl,Z C nC cC,J U ct])):=T ⟨Ao _ _,HV5.out,HB15.out,HB14.out,⟨_,rfl,HV8.out⟩,⟨_,rfl,HV9.out⟩,NE8,NE9⟩;clear k0 k1 kl
   cases ok
   ·go_upto_region 5 with(fail);refine C7 (S:=λW=>Td wz W (↑w+1) ↑w g15 g14 (stc s (Z A0 s.d.length c0) (Z B0 s.r.length d0)) (#[Z A2 n2 c2,Ap en]) (#[J V pc,J V pl,Z C nC cC,J U ct])) AL (TD.out.drew) (λhH=>?_);have HX:=T TD.out.drew;generalize wz.drew=wv at hH HX⊢;refine CJ 0 (A9 ((stc s (Z A0 s.d.length c0) (Z B0 s.r.length d0)))) rfl hH SR ?_;refine Av 1 rfl hH J5 ?_
    try simp only[AG]
    refine Bb [2] ?_;refine AT (λK hK=>?_) ?_
    ·have hHo:=hH;obtain⟨c8,z8,b8⟩:=hH.b8;refine J4 (cs':=(stc s (Z A0 s.d.length c0) (Z B0 s.r.length d0))) b8 AJ z8.symm Fu oS rfl rfl BC BC ?_;intro W9 k8 f8;refine hK.out _ _ (hHo.go8 f8 k8 rfl) λhH=>?_;clear hK K;have K8:=T k8
     try replace K9:=T (K9.out.fr f8 (λq=>K9.out.ne_ b8 Ak q))
     replace HX:=T (HX.out.go8 f8 k8 rfl);clear hHo k8 f8 b8 z8 c8;obtain⟨wv,rfl⟩: ∃wy,wy=W9:=⟨_,rfl⟩;refine Bb [3] ?_;refine AT (λK hK=>?_) ?_
     ·have hHo:=hH;obtain⟨c9,z9,b9⟩:=hH.b9;refine J4 (cs':=#[Z A2 n2 c2,Ap en]) b9 Il z9.symm Fu Ei rfl rfl BC BC ?_;intro W9 k9 f9;refine hK.out _ _ (hHo.go9 f9 k9 rfl) λhH=>?_;clear hK K;have K9:=T k9
      try replace K8:=T (K8.out.fr f9 (λq=>K8.out.ne_ b9 Ak q))
      replace HX:=T (HX.out.go9 f9 k9 rfl);clear hHo k9 f9 b9 z9 c9;obtain⟨wv,rfl⟩: ∃wy,wy=W9:=⟨_,rfl⟩;refine Av 4 rfl hH J5 ?_;refine CT ?_;go_wp2_with fail;refine Bt (Lt rfl _ _ (w.heap.size+1) (w.heap.size+1+1) 39 158 _ _ _ _ (J U 0) rfl rfl K8.out AQ rfl AJ rfl K9.out Tryz.underlying158 rfl Il) rfl ?_;exact⟨A0,c0,B0,d0,e2,A2,n2,c2,en,0,s,g,rfl,SQ HL3.out TD.out HX.out ⟨Ah (Af rfl),Ah (Ah rfl)⟩,Af ⟨rfl,rfl,rfl⟩⟩
     exact Bc
    exact Bc
   ·obtain⟨l,bs,code,htr,hpre,hrow,hnC,rfl,hn2,hen⟩:=HHIT.out rfl;have HTRL:=T (Ay htr (Ay hpre (Ay hn2 hen)));have hI:=Bk.own_ints (k:=AB) hrow (λz hz=>by have:=fT htr.ok z hz;exact J7 this.1 (by omega));have HRun:=T (Er.run_any wz s A0 B0 c0 d0 HL3.out.st HK.out C nC cC ↑wz code hI (by rw[hnC,Hc.encL_len]) (Sw.own_cap hrow) (AD _) htr.ok htr.len);have b5:=HV5.out;have x2:=HB14.out.cell 2;have xl:=HB14.out.lt;clear htr hpre hrow hnC hn2 hen hI HHIT TD;go_upto_region 6 with(fail);go_wp2_with ((with_reducible refine wpL_lq b5 AQ AJ ?_));refine Az HRun ?_;rintro e4 w3 ⟨cs,how,rfl,f3,⟨zcs,o16⟩,hdone⟩;have HD:=T hdone;have b17:=AI w3 39 z16;have F3:=T (f3.alloc (.cells z16 39));have s3:=f3.size;clear hdone b5 x2 xl HRun f3;go_upto_region 7 with(((with_reducible refine OY (cs':=cs) b17 AJ ?q1 ?q2 o16 ?q3 ?q4 ?_);(case q1=>exact zcs);(case q2=>exact zcs);(case q3=>rfl);(case q4=>rfl);intro W4 k17 f17;have HB17:=T k17;have HF17:=T f17;clear k17 f17 b17 o16));obtain⟨g17,hg17⟩:=A8 w3.heap.size;rw[hg17] at HB17 HF17 s3⊢;have F4:Hid (Fr Aj wz W4):=T (F3.out.trans HF17.out (λk hk e=>O));have F34:Hid (Fr Aj w3 W4):=T (((Ao Aj w3).alloc (.cells z16 39)).trans HF17.out (λk hk e=>O));have HL4:=T (HL3.out.fr0 F4.out);have HW5:=T (HV5.out.fr F4.out id);have HW8:=T (HV8.out.fr F4.out id);have HW9:=T (HV9.out.fr F4.out id);have HWk:=T (HVk.out.fr F4.out id);have HW14:=T (HB14.out.fr F4.out id);have HW15:=T (HB15.out.fr F4.out id);have NK:Hid (¬e2.own ge gk∧gk<↑wz):=T ⟨λr=>by
     rcases HE.out.own gk r with r|r;·exact nk r
     ·have:=HBk.out.lt;omega,HVk.out.lt⟩
    have NG:Hid (g17≠↑w+1∧↑w≤g14∧↑w≤g15∧↑w≤g17∧↑w≤gk∧g14<↑wz):=T (by
     have h1:=HN.out;have h2:=HF2.out.size;have h3:=HZ0.out;have h4:=HE.out.f.size;have h5:=HF1.out.size;have h6:=HGK.out;have h7:=HB14.out.lt;omega)
    clear HV5 HV8 HV9 HVk HB14 HB15 F3 HF17 s3 hg17;by_cases h1:how=1
    ·subst h1;obtain⟨m,σ,A3,c3,B3,d3,hr,hm,hu,hgm,rfl,hS3,hne3⟩:=HD.out rfl;have HTR:=T (Ay HTRL.out.1.run (Ay (HTRL.out.1.done HK.out hm hr) HTRL.out.2));obtain⟨s2,hs2⟩:=A8 (Er.getS s σ.m);rw[hs2] at HTR hS3 HB17 zcs;have hS4:StV W4 ↑wz s2 (Z A3 s2.d.length c3) (Z B3 s2.r.length d3):=hS3.fr0 F34.out;have HL5:=T (HL3.out.give hS4 hne3 F4.out);obtain⟨P4,M4,np4,_,upm⟩:=HL5.out.call;have HMt4:=T (Mu.memory_t W4 A g.u M4.un);have hmem4:=M4.un.M;rw[HAM.out] at hmem4;have HCa:=T (Rm.calm_any W4 a.am g.b.ms hmem4);clear hmem4 np4 hr hm hu hgm hS3 hS4 hne3 HD zcs hs2;go_upto_region 10 with(first
      |((with_reducible refine Az HMt4 ?_);rintro e5 w5 ⟨rfl,rfl⟩;rw[HAM.out])
      |((with_reducible refine Az HCa ?_);rintro e6 w6 ⟨rfl,hm6,f6⟩;have HM6:=T (Ay hm6 f6);clear hm6 f6))
     obtain⟨m6,f36⟩:=M4.memPost HM6.out.1 HM6.out.2 (λk _ _=>rfl);have HL6:Hid (Sx w w6 P (λk=>k=w.heap.size∨k=w.heap.size+1∨k=w.heap.size+1+1) a A s2 g.calm A3 B3 c3 d3 ge e e2 (0+1)):=T (upm m6 f36);have HQ:Hid (∀q,w.heap.size≤q→ ¬a.am.own q):=T (λq hq r=>by have:=HAO.out q r;omega);have HX8:=T (HW8.out.fr HM6.out.2 (HQ.out _ O));have HX9:=T (HW9.out.fr HM6.out.2 (HQ.out _ O));have HXk:=T (HWk.out.fr HM6.out.2 (HQ.out _ NG.out.2.2.2.2.1));have HX14:=T (HW14.out.fr HM6.out.2 (HQ.out _ NG.out.2.1));have HX15:=T (HW15.out.fr HM6.out.2 (HQ.out _ NG.out.2.2.1));have HX17:=T (HB17.out.fr HM6.out.2 (HQ.out _ NG.out.2.2.2.1));have H46:Hid (wz.heap.size≤w6.heap.size):=T (Bf F4.out.size HM6.out.2.size);clear HW8 HW9 HWk HW14 HW15 HB17 HM6 m6 f36 upm M4 HMt4 HCa HL5 HL4 HL3 HW5;have k6:w6.cell? ⟨ge,6,G⟩=I (Ap e2.be):=HL6.out.en.b.cell 6;have kge:=HL6.out.en.b.lt;obtain⟨be,hbe⟩: ∃be,e2.be=be:=⟨_,rfl⟩;rw[hbe] at k6;clear hbe
     go_upto_if 64 with(fail)
     go_cut [] (λwx=> ∃e3,Hid (Elk w6 wx ge e2 e3 0));case first=>
      cases be
      ·go_wp2
       go_meet;exact⟨e2,T (Elk.refl HL6.out.en)⟩
      ·have SK:Hid ((w6.cell? ⟨ge,0,G⟩=I ↑e2.gc∧w6.cell? ⟨ge,2,G⟩=I (J V e2.la.1)∧w6.cell? ⟨ge,3,G⟩=I (J V e2.la.2)∧ge<↑w6)∧w6.cell? ⟨gk,0,G⟩=I (J V s.pc)∧w6.cell? ⟨gk,1,G⟩=I (J V p)∧gk<↑w6):=T ⟨⟨HL6.out.en.b.cell 0,HL6.out.en.b.cell 2,HL6.out.en.b.cell 3,HL6.out.en.b.lt⟩,HXk.out.cell 0,HXk.out.cell 1,HXk.out.lt⟩;have HLk:Hid (∀W,Fr Aj w6 W→At Tryz.prog 100 #[↑e2.gc,A9 #[J V e2.la.1,J V e2.la.2],A9 #[J V s.pc,J V p]] W (λed w'=>(∃t,ed=Ax (Ap t))∧ ∃e',Elk W w' ge e2 e' 0∧e'.la=e2.la)):=T (λW f=>(Ca.link_any W e2.gc e2.s (HL6.out.en.fr0 f).c e2.la (s.pc,p) HL6.out.en.la HKy.out).mono (λed w' hh=>by
        obtain⟨t,e',h1,_,_,h4,_⟩:=link_elk (HL6.out.en.fr0 f) hh;exact⟨t,e',h1,h4⟩))
       clear k6 kge;go_upto_region 11 with(fail);refine C7 (S:=(λW:Aa=>(W.cell? ⟨ge,0,G⟩=I ↑e2.gc∧W.cell? ⟨ge,2,G⟩=I (J V e2.la.1)∧W.cell? ⟨ge,3,G⟩=I (J V e2.la.2)∧ge<↑W)∧W.cell? ⟨gk,0,G⟩=I (J V s.pc)∧W.cell? ⟨gk,1,G⟩=I (J V p)∧gk<↑W)) AL (SK.out) (λhH=>?_);have HF:=T ((Ao Aj w6).drew);generalize w6.drew=wv at hH HF⊢;refine Av 0 rfl hH IY ?_;refine Av 1 rfl hH IY ?_;refine Av 2 rfl hH IY ?_
       try simp only[AG]
       refine Av 3 rfl hH IY ?_;refine Av 4 rfl hH IY ?_;refine Av 5 rfl hH IY ?_
       try simp only[AG]
       refine Av 6 rfl hH IY ?_;refine Av 7 rfl hH IY ?_;refine Av 8 rfl hH IY ?_
       try simp only[AG]
       refine Bb [9] ?_;refine AT (λK hK=>?_) ?_
       ·go_simp;go_wp2_with ((with_reducible refine(HLk.out _ HF.out).mono ?_);rintro e5 w5 ⟨⟨tb,rfl⟩,e3,hE3,hla⟩;have HE3:=T hE3;clear hE3);refine hK.out _ _ (lk_cells HE3.out hla hH NK.out.1) λhH=>?_;clear hK K;refine CT ?_
        go_wp2
        go_meet;exact⟨e3,T (Elk.from0 HF.out HL6.out.en HE3.out)⟩
       exact Bc
     case rest=>
      obtain⟨e3,HE3⟩:=hcut;obtain⟨w7,rfl⟩: ∃y,y=wc:=⟨_,rfl⟩;have HL7:=T (HL6.out.eng HE3.out);have HY8:=T (HE3.out.blk HX8.out CC);have HY9:=T (HE3.out.blk HX9.out IX);have HY15:=T (HE3.out.blk HX15.out IX);have HY17:=T (HE3.out.blk HX17.out CC);have HYk:=T (HXk.out.fr HE3.out.f NK.out.1);have HY14:=T (HX14.out.fr HE3.out.f HN.out.2.2.1);clear HX8 HX9 HXk HX14 HX15 HX17 HL6 k6 kge;have hb:=HL7.out.en.b;have j0:=HYk.out.cell 0;have j1:=HYk.out.cell 1;have jl:=HYk.out.lt;have c2:=hb.cell 2;have c3:=hb.cell 3;have c6:=hb.cell 6;have y2:=hb.frozen 2;have y3:=hb.frozen 3;have y6:=hb.frozen 6;have cl:=hb.lt;clear hb;go_upto_region 13 with(fail);have fs:Fr (λq=>q=ge) w7 (((w7.setCell ⟨ge,2,G⟩ (J V s.pc)).setCell ⟨ge,3,G⟩ (J V p)).setCell ⟨ge,6,G⟩ (Ap Ag)):=(((Ao (λq=>q=ge) w7).setCell (p:=⟨ge,2,G⟩) (Af rfl) _).setCell (p:=⟨ge,3,G⟩) (Af rfl) _).setCell (p:=⟨ge,6,G⟩) (Af rfl) _;have ek:=En.self (e2:={e3 with la:=(s.pc,p),be:=Ag}) HL7.out.en rfl rfl rfl rfl HKy.out (((HL7.out.en.b.set_ 2 _).set_ 3 _).set_ 6 _) fs;have HL8:=T (HL7.out.eng ek);have HZ8:=T (ek.blk HY8.out CC);have HZ9:=T (ek.blk HY9.out IX);have HZ15:=T (ek.blk HY15.out IX);have HZ17:=T (ek.blk HY17.out CC);have HZ14:=T (HY14.out.fr fs (λq=>HY14.out.ne_ HL7.out.en.b Ak q));generalize((w7.setCell ⟨ge,2,G⟩ (J V s.pc)).setCell ⟨ge,3,G⟩ (J V p)).setCell ⟨ge,6,G⟩ (Ap Ag)=w8 at*;clear fs ek HY8 HY9 HY15 HY17 HYk HY14 HL7 j0 j1 jl c2 c3 c6 y2 y3 y6 cl;have hb:=HL8.out.en.b;have c4:w8.cell? ⟨ge,4,G⟩=I (J U e3.fa):=hb.cell 4;have y4:=hb.frozen 4;have cl:=hb.lt;have k3:=HZ14.out.cell 3;have kl:=HZ14.out.lt;clear hb
      go_region
      all_goals go_upto_region 14 with(fail)
      obtain⟨fv,hfv⟩:=A8 (wrap64 (e3.fa+(l.length:Int)));rw[hfv];have fs:Fr (λq=>q=ge) w8 (w8.setCell ⟨ge,4,G⟩ (J .i64 fv)).drew:=((Ao (λq=>q=ge) w8).setCell (p:=⟨ge,4,G⟩) (.inl rfl) _).drew;have ek:=En.self (e2:={e3 with la:=(s.pc,p),be:=Ag,fa:=fv}) HL8.out.en rfl rfl rfl rfl HKy.out ((HL8.out.en.b.set_ 4 _).drew) fs;have HL9:=T (HL8.out.eng ek);have HU8:=T (ek.blk HZ8.out CC);have HU9:=T (ek.blk HZ9.out IX);have HU15:=T (ek.blk HZ15.out IX);have HU17:=T (ek.blk HZ17.out CC);have HU14:=T (HZ14.out.fr fs (λq=>HZ14.out.ne_ HL8.out.en.b Ak q));generalize(w8.setCell ⟨ge,4,G⟩ (J .i64 fv)).drew=w9 at*;clear fs ek HZ8 HZ9 HZ15 HZ17 HZ14 HL8 c4 y4 cl k3 kl hfv oS;have oS:=Ce s2 (Z A3 s2.d.length c3) (Z B3 s2.r.length d3) rfl rfl;obtain⟨wz,rfl⟩: ∃wy,wy=w9:=⟨_,rfl⟩;have TD:Hid (Td wz wz (↑w+1) g17 g15 g14 (stc s2 (Z A3 s2.d.length c3) (Z B3 s2.r.length d3)) (#[Z A2 n2 c2,Ap en]) (#[J V pc,J V pl,Z C nC cC,J U l.length])):=T ⟨Ao _ _,HU17.out,HU15.out,HU14.out,⟨_,rfl,HU8.out⟩,⟨_,rfl,HU9.out⟩,NG.out.1,NE9⟩;refine C7 (S:=λW=>Td wz W (↑w+1) g17 g15 g14 (stc s2 (Z A3 s2.d.length c3) (Z B3 s2.r.length d3)) (#[Z A2 n2 c2,Ap en]) (#[J V pc,J V pl,Z C nC cC,J U l.length])) AL (TD.out.drew) (λhH=>?_);have HX:=T TD.out.drew;generalize wz.drew=wv at hH HX⊢;refine CJ 0 (A9 ((stc s2 (Z A3 s2.d.length c3) (Z B3 s2.r.length d3)))) rfl hH SR ?_;refine Av 1 rfl hH J5 ?_;refine Av 2 rfl hH J5 ?_
      try simp only[AG]
      refine Av 3 rfl hH J5 ?_
      try simp only[AG]
      refine Bb [4] ?_;refine AT (λK hK=>?_) ?_
      ·have hHo:=hH;obtain⟨c8,z8,b8⟩:=hH.b8;refine J4 (cs':=(stc s2 (Z A3 s2.d.length c3) (Z B3 s2.r.length d3))) b8 AJ z8.symm Fu oS rfl rfl BC BC ?_;intro W9 k8 f8;refine hK.out _ _ (hHo.go8 f8 k8 rfl) λhH=>?_;clear hK K;have K8:=T k8
       try replace K9:=T (K9.out.fr f8 (λq=>K9.out.ne_ b8 Ak q))
       replace HX:=T (HX.out.go8 f8 k8 rfl);clear hHo k8 f8 b8 z8 c8;obtain⟨wv,rfl⟩: ∃wy,wy=W9:=⟨_,rfl⟩;refine Bb [5] ?_;refine AT (λK hK=>?_) ?_
       ·have hHo:=hH;obtain⟨c9,z9,b9⟩:=hH.b9;refine J4 (cs':=#[Z A2 n2 c2,Ap en]) b9 Il z9.symm Fu Ei rfl rfl BC BC ?_;intro W9 k9 f9;refine hK.out _ _ (hHo.go9 f9 k9 rfl) λhH=>?_;clear hK K;have K9:=T k9
        try replace K8:=T (K8.out.fr f9 (λq=>K8.out.ne_ b9 Ak q))
        replace HX:=T (HX.out.go9 f9 k9 rfl);clear hHo k9 f9 b9 z9 c9;obtain⟨wv,rfl⟩: ∃wy,wy=W9:=⟨_,rfl⟩;refine Av 6 rfl hH J5 ?_;refine CT ?_;go_wp2_with fail;refine Bt (Lt rfl _ _ (w.heap.size+1) (w.heap.size+1+1) 39 158 _ _ _ _ (J U l.length) rfl rfl K8.out AQ rfl AJ rfl K9.out Tryz.underlying158 rfl Il) rfl ?_;exact⟨A3,c3,B3,d3,_,A2,n2,c2,en,l.length,s2,g.calm,rfl,SQ HL9.out TD.out HX.out ⟨Ah (Af rfl),Ah (Ah rfl)⟩,Ah ⟨l,bs,rfl,HTR.out.1,HTR.out.2.1,rfl,HTR.out.2.2.1,HTR.out.2.2.2.1,HTR.out.2.2.2.2⟩⟩
       exact Bc
      exact Bc
    ·have hcb:(how==1)=Ac:=Dh;have hcb2:(how !=1)=Ag:=Dh;have hcb3:decide (how=1)=Ac:=Dh;obtain⟨wz,rfl⟩: ∃wy,wy=W4:=⟨_,rfl⟩;have TD:Hid (Td wz wz (↑w+1) ↑w g15 g14 (stc s (Z A0 s.d.length c0) (Z B0 s.r.length d0)) (#[Z A2 n2 c2,Ap en]) (#[J V pc,J V pl,Z C nC cC,J U l.length])):=T ⟨Ao _ _,HW5.out,HW15.out,HW14.out,⟨_,rfl,HW8.out⟩,⟨_,rfl,HW9.out⟩,NE8,NE9⟩;clear h1 HD zcs HB17;go_upto_region 8 with(fail);refine C7 (S:=λW=>Td wz W (↑w+1) ↑w g15 g14 (stc s (Z A0 s.d.length c0) (Z B0 s.r.length d0)) (#[Z A2 n2 c2,Ap en]) (#[J V pc,J V pl,Z C nC cC,J U l.length])) AL (TD.out.drew) (λhH=>?_);have HX:=T TD.out.drew;generalize wz.drew=wv at hH HX⊢;refine CJ 0 (A9 ((stc s (Z A0 s.d.length c0) (Z B0 s.r.length d0)))) rfl hH SR ?_;refine Av 1 rfl hH J5 ?_
     try simp only[AG]
     refine Bb [2] ?_;refine AT (λK hK=>?_) ?_
     ·have hHo:=hH;obtain⟨c8,z8,b8⟩:=hH.b8;refine J4 (cs':=(stc s (Z A0 s.d.length c0) (Z B0 s.r.length d0))) b8 AJ z8.symm Fu oS rfl rfl BC BC ?_;intro W9 k8 f8;refine hK.out _ _ (hHo.go8 f8 k8 rfl) λhH=>?_;clear hK K;have K8:=T k8
      try replace K9:=T (K9.out.fr f8 (λq=>K9.out.ne_ b8 Ak q))
      replace HX:=T (HX.out.go8 f8 k8 rfl);clear hHo k8 f8 b8 z8 c8;obtain⟨wv,rfl⟩: ∃wy,wy=W9:=⟨_,rfl⟩;refine Bb [3] ?_;refine AT (λK hK=>?_) ?_
      ·have hHo:=hH;obtain⟨c9,z9,b9⟩:=hH.b9;refine J4 (cs':=#[Z A2 n2 c2,Ap en]) b9 Il z9.symm Fu Ei rfl rfl BC BC ?_;intro W9 k9 f9;refine hK.out _ _ (hHo.go9 f9 k9 rfl) λhH=>?_;clear hK K;have K9:=T k9
       try replace K8:=T (K8.out.fr f9 (λq=>K8.out.ne_ b9 Ak q))
       replace HX:=T (HX.out.go9 f9 k9 rfl);clear hHo k9 f9 b9 z9 c9;obtain⟨wv,rfl⟩: ∃wy,wy=W9:=⟨_,rfl⟩;refine Av 4 rfl hH J5 ?_;refine CT ?_;go_wp2_with fail;refine Bt (Lt rfl _ _ (w.heap.size+1) (w.heap.size+1+1) 39 158 _ _ _ _ (J U 0) rfl rfl K8.out AQ rfl AJ rfl K9.out Tryz.underlying158 rfl Il) rfl ?_;exact⟨A0,c0,B0,d0,e2,A2,n2,c2,en,0,s,g,rfl,SQ HL4.out TD.out HX.out ⟨Ah (Af rfl),Ah (Ah rfl)⟩,Af ⟨rfl,rfl,rfl⟩⟩
      exact Bc
     exact Bc
end Bl
namespace Eg
open Mz Go.Maps Ca
theorem size_any(w:Aa)(A:Aw)(n c:Nat)(en:Bool)(m:Int):At Tryz.prog 79 #[A9 #[Z A n c,Ap en],J U m] w λe w'=>e=Ax (J U (if m=0 then 0 else(n:Int)))∧Fr Aj w w':=by
 by_cases h:m=0;·have hd:decide (m=0)=Ag:=D7;rw[An h];exact gJ
 ·have hd:decide (m=0)=Ac:=D7;rw[Ae h];exact gJ
end Eg
end Go.Proofs.YtdfegdoeebaagaaGreatDoor
