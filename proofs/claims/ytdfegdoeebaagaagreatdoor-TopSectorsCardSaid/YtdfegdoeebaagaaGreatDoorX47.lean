import Derived.Test.YtdfegdoeebaagaaGreatDoorX40
import Derived.Test.YtdfegdoeebaagaaGreatDoorX46
open Go.Value renaming slice→Z,int→J
open Option renaming some→I,none→G
open Go.IntKind renaming i64→U,u32→V,u8→AB,wrap_u32→Gu
open Go renaming World→Aa,Calls→At,wp_region_held_drew→C7,maxLen→BQ
open Bool renaming true→Ag
open List renaming getD_eq_getElem?_getD→AS,mem_map→BS
open Go.Ending renaming returned→Ax
open And renaming intro→Ay
open Nat renaming le_refl→AD,lt_of_lt_of_le→Bg,zero_le→Bj,lt_or_ge→DG
open Go.Proofs.Tryz renaming underlying23→CI
open Go.AllReadyH renaming nil→CB
open Go.Instr renaming makeSlice→Fp
open Go.Lit renaming int→DT
set_option linter.all false
set_option maxHeartbeats 40000000
set_option maxRecDepth 1000000
open Go Go.RowKit
namespace Go.Proofs.YtdfegdoeebaagaaGreatDoor
namespace topSectors
open Fm Nt Rm By Wk Gs Bs Mu Sv Gm Gc Rn Eg Kd Bl
def aI(K:Int):List Ins:=[⟨2,K⟩,⟨2,32800⟩,⟨49,0⟩,⟨2,192⟩,⟨2,32804⟩,⟨49,0⟩,⟨1,2⟩,⟨2,32808⟩,⟨49,0⟩,⟨2,64⟩,⟨40,0⟩]
def bI:List Ins:=[⟨2,256⟩,⟨2,32804⟩,⟨49,0⟩,⟨1,1⟩,⟨2,32808⟩,⟨49,0⟩,⟨2,32812⟩,⟨48,0⟩,⟨69,0⟩]
theorem aI_ok(K:Nat)(h:K<16): ∀i∈aI K,Kr i:=by
 intro i hi;simp[aI] at hi;rcases hi with rfl|rfl|rfl|rfl|rfl|rfl|rfl|rfl|rfl|rfl|rfl
 all_goals first
  |exact⟨Ak,Ak,Ak⟩
  |exact⟨rfl,by dsimp only;omega,by dsimp only;omega⟩
theorem bI_ok: ∀i∈bI,Kr i:=by
 intro i hi;simp[bI] at hi;rcases hi with rfl|rfl|rfl|rfl|rfl|rfl|rfl|rfl|rfl<;>exact⟨Ak,Ak,Ak⟩
theorem jT: ∀K:Nat,K<16→CL (aI K)=Ev K:=Ak
theorem qL(K:Nat)(bb:List Int)(hK:K<16)(hb:bb.length=64):Halts 60 St.new (mc0 5 (EZ K bb) []) 8:=by
 obtain⟨⟨g8,e8,h8⟩,h5⟩:=jR K bb hK hb;have e8:AH 8 St.new (mc0 5 (EZ K bb) [])=_:=e8;refine⟨λi hi=>⟨(h5 i hi).1,by have:=(h5 i hi).2.1;show _<(0:Int)+8*(60:Nat);exact this⟩,λi hi=>(h5 i hi).2.2.1,λi hi=>?_,by rw[e8]⟩;rcases DG i 8 with q|q;·have e:=(h5 i q).2.2.2;have e:(AH i St.new (mc0 5 (EZ K bb) [])).g.b.outs=[]:=e;rw[e];exact Bj _
 ·obtain rfl:i=8:=O;rw[e8,h8.sc.o];exact Bj _
theorem jU{k:IntKind}{w:Aa}{B n b off lo m:Nat}{zs ys:List Int}(h:IntsAt k w B (I ⟨b,off,G⟩) n zs)(h1:lo+m≤n)(hy:ys.length=m)(he: ∀i,i<m→zs.getD (lo+i) 0=ys.getD i 0):IntsAt k w B (I ⟨b,off+lo,G⟩) m ys:=by
 refine⟨hy,λi hi=>?_,λhm=>?_⟩;·rw[←he i hi];exact h.2.1 (lo+i) O
 ·obtain⟨b',off',e,hb,hc⟩:=h.2.2 O
  cases e
  exact⟨_,_,rfl,hb,λi hi=>by rw[←he i hi,Nat.add_assoc];exact hc (lo+i) (by omega)⟩
theorem secF_bd(K:Nat)(bb:List Int)(hK:K<16)(hb: ∀z∈bb,0≤z∧z<256)(i:Nat):0≤J6 K bb i∧J6 K bb i<256:=by
 have key: ∀(l:List Int) (k:Nat),(∀z∈l,0≤z∧z<256)→0≤l.getD k 0∧l.getD k 0<256:=λl k hl=>by
  rw[AS]
  cases h:l[k]? with
  |none=>exact⟨Ak,Ak⟩
  |some x=>exact hl x (List.mem_of_getElem? h)
 unfold J6 lay;split;·exact key _ _ hb
 split;·exact key _ _ Ak
 split;·refine key _ _ (λz hz=>?_);simp[Ev] at hz;omega
 ·exact⟨Int.le_refl _,by show(0:Int)<256;omega⟩
set_option maxRecDepth 1000000 in
theorem walk(w:Aa)(hT:Iq.Tab w)(x:Int)(hx:(DT .u32 x).wf=Ag)(A:Aw)(len cap:Nat)(hc:len≤cap)(zs:List Int)(hz:IntsAt AB w ↑w A len zs)(hm:len≤BQ):At Tryz.prog 3 #[J V x,Z A len cap] w λe w'=>e=Ax (.bool Ag)∧Fr Aj w w':=by
 obtain⟨x0,x1⟩:=wf_u32 hx;obtain⟨K,hK⟩: ∃K:Nat,x%16=K:=⟨(x%16).toNat,O⟩;have hK9:K<16:=O;have hrem:x.tmod 16=K:=by rw[Int.tmod_eq_emod_of_nonneg x0];exact hK
 have HT:=T hT;have HS:=T (qK w A len cap ↑w zs hz (AD _) 64 O);obtain⟨bb,hbb⟩:=A8 (lst (Ks zs) 64);have hbl:bb.length=64:=by rw[←hbb];exact LY _ _
 have hbd: ∀z∈bb,0≤z∧z<256:=λz hz'=>by
  rw[←hbb] at hz';obtain⟨i,_,rfl⟩:=BS.1 hz';exact jS hz i
 have HBB:=T (Ay hbb (Ay hbl (Ay hbd (λk=>jS hz k))));have hmk: ∀W,(Fp 23 (J .i64 320) (J .i64 320)).run Tryz.prog W=.ok (Z (I ⟨↑W,0,G⟩) 320 320) (W.alloc (.cells (zU 320) 5)):=λW=>LU U 320 O W;clear hx hK hT hz hbb hbl hbd;go_in;go_wp2_with fail;refine Az HS ?_;rintro e w1 ⟨rfl,hc1,f1⟩;have HC1:=T (Ay hc1 f1);clear hc1 f1 HS hrem x0 x1;go_upto_region 4 with(fail);clear hmk;have hcl:=cellsU w1 320 rfl;have fz:Fr Aj w1 (w1.alloc (.cells (zU 320) 5)):=(Ao _ _).alloc _;have HCL:=T hcl;have hlt:w.heap.size<w1.heap.size:=by
  obtain⟨cs,hcs,_⟩:=HC1.out.1;exact hcs.lt
 have HCS:=T (HC1.out.1.fr fz id);have HF:=T (HC1.out.2.tr fz);obtain⟨gm,hgm⟩:=A8 w1.heap.size;have HGM:Hid (↑w<gm):=T (by rw[←hgm];exact hlt);rw[hgm] at HCL⊢;generalize w1.alloc (.cells (zU 320) 5)=w2 at*;clear hcl fz hgm hlt HC1;have HG:=T (Ao Aj w2);go_wp2_with (first
  |((with_reducible refine(GP _ _).mono ?_);rintro _ wq ⟨rfl,fq⟩;replace HG:=T (HG.out.tr fq);clear fq)
  |((with_reducible refine(GQ _ _).mono ?_);rintro _ wq ⟨rfl,fq⟩;replace HG:=T (HG.out.tr fq);clear fq)
  |((with_reducible refine(IA _ _ _).mono ?_);rintro _ wq ⟨rfl,fq⟩;replace HG:=T (HG.out.tr fq);clear fq))
 have b5:=AI wq 27 (IB (aI K)).toArray;have F5:=T (HG.out.alloc (.cells (IB (aI K)).toArray 27));have hcode:=code_any (wq.alloc (.cells (IB (aI K)).toArray 27)) ↑wq _ 11 11 (aI K) rfl (aI_ok K hK9) b5 (jO _) (by simp[aI]);have Hc:=T hcode;clear hcode b5 HG;refine Az Hc ?_;rintro e w6 ⟨A1,c1,rfl,ho,f6⟩;have h6:=SZ (aI_ok K hK9) ho;have eL:(CL (aI K)).length=36:=by rw[jT K hK9];rfl
 rw[eL] at h6⊢;rw[jT K hK9] at h6;have H6:=T h6;have F6:=T (F5.out.tr f6);have HC6:=T (HCL.out.fr F6.out id);have hsz:=Dr.szU;clear ho f6 h6 F5 Hc eL;go_upto_region 5 with
  (refine KC rfl (.tmp 16) (.tmp 30) 23 23 rfl 5 CI hsz gm 0 320 320 A1 36 c1 rfl rfl 5 320 _ HC6.out AB w6.heap.size 36 _ O H6.out O ?_
   intro w7 hc7 f7
   have HC7:=T hc7
   have HF7:=T f7
   clear hc7 f7)
 have F7:=T (HF.out.trans (F6.out.none (S:=λk=>k=gm)|>.tr HF7.out) (λk hk e=>Te));have HS7:=T (HCS.out.fr (F6.out.none (S:=λk=>k=gm)|>.tr HF7.out) (λe=>Tf));clear HCL HCS HF H6 F6 HC6 HF7 hsz;go_frame;refine C7 (S:=λ_=>True) AL (True.intro) (λhH=>?_);have HG:=T ((Ao Aj w7).drew);generalize w7.drew=wv at hH HG⊢;refine tgI 1000 ?_
 repeat' first
  |(refine tgR 2 ?_;go_simp;go_wp2_with ((first|((with_reducible refine(GP _ _).mono ?_);rintro _ wq ⟨rfl,fq⟩;replace HG:=T (HG.out.tr fq);clear fq)|((with_reducible refine(GQ _ _).mono ?_);rintro _ wq ⟨rfl,fq⟩;replace HG:=T (HG.out.tr fq);clear fq)|((with_reducible refine(IA _ _ _).mono ?_);rintro _ wq ⟨rfl,fq⟩;replace HG:=T (HG.out.tr fq);clear fq)));refine hK.out _ _ ?_ (λhH=>?_);(trivial);clear hK K)
  |(refine tgR 3 ?_;go_simp;go_wp2_with ((first|((with_reducible refine(GP _ _).mono ?_);rintro _ wq ⟨rfl,fq⟩;replace HG:=T (HG.out.tr fq);clear fq)|((with_reducible refine(GQ _ _).mono ?_);rintro _ wq ⟨rfl,fq⟩;replace HG:=T (HG.out.tr fq);clear fq)|((with_reducible refine(IA _ _ _).mono ?_);rintro _ wq ⟨rfl,fq⟩;replace HG:=T (HG.out.tr fq);clear fq)));refine hK.out _ _ ?_ (λhH=>?_);(trivial);clear hK K)
  |(refine tgR 4 ?_;go_simp;go_wp2_with ((first|((with_reducible refine(GP _ _).mono ?_);rintro _ wq ⟨rfl,fq⟩;replace HG:=T (HG.out.tr fq);clear fq)|((with_reducible refine(GQ _ _).mono ?_);rintro _ wq ⟨rfl,fq⟩;replace HG:=T (HG.out.tr fq);clear fq)|((with_reducible refine(IA _ _ _).mono ?_);rintro _ wq ⟨rfl,fq⟩;replace HG:=T (HG.out.tr fq);clear fq)));refine hK.out _ _ ?_ (λhH=>?_);(trivial);clear hK K)
  |(refine tgR 5 ?_;go_simp;go_wp2_with ((first|((with_reducible refine(GP _ _).mono ?_);rintro _ wq ⟨rfl,fq⟩;replace HG:=T (HG.out.tr fq);clear fq)|((with_reducible refine(GQ _ _).mono ?_);rintro _ wq ⟨rfl,fq⟩;replace HG:=T (HG.out.tr fq);clear fq)|((with_reducible refine(IA _ _ _).mono ?_);rintro _ wq ⟨rfl,fq⟩;replace HG:=T (HG.out.tr fq);clear fq)));refine hK.out _ _ ?_ (λhH=>?_);(trivial);clear hK K)
  |(refine tgR 6 ?_;go_simp;go_wp2_with ((first|((with_reducible refine(GP _ _).mono ?_);rintro _ wq ⟨rfl,fq⟩;replace HG:=T (HG.out.tr fq);clear fq)|((with_reducible refine(GQ _ _).mono ?_);rintro _ wq ⟨rfl,fq⟩;replace HG:=T (HG.out.tr fq);clear fq)|((with_reducible refine(IA _ _ _).mono ?_);rintro _ wq ⟨rfl,fq⟩;replace HG:=T (HG.out.tr fq);clear fq)));refine hK.out _ _ ?_ (λhH=>?_);(trivial);clear hK K)
  |(refine tgR 7 ?_;go_simp;go_wp2_with ((first|((with_reducible refine(GP _ _).mono ?_);rintro _ wq ⟨rfl,fq⟩;replace HG:=T (HG.out.tr fq);clear fq)|((with_reducible refine(GQ _ _).mono ?_);rintro _ wq ⟨rfl,fq⟩;replace HG:=T (HG.out.tr fq);clear fq)|((with_reducible refine(IA _ _ _).mono ?_);rintro _ wq ⟨rfl,fq⟩;replace HG:=T (HG.out.tr fq);clear fq)));refine hK.out _ _ ?_ (λhH=>?_);(trivial);clear hK K)
  |(refine tgR 8 ?_;go_simp;go_wp2_with ((first|((with_reducible refine(GP _ _).mono ?_);rintro _ wq ⟨rfl,fq⟩;replace HG:=T (HG.out.tr fq);clear fq)|((with_reducible refine(GQ _ _).mono ?_);rintro _ wq ⟨rfl,fq⟩;replace HG:=T (HG.out.tr fq);clear fq)|((with_reducible refine(IA _ _ _).mono ?_);rintro _ wq ⟨rfl,fq⟩;replace HG:=T (HG.out.tr fq);clear fq)));refine hK.out _ _ ?_ (λhH=>?_);(trivial);clear hK K)
  |(refine tgR 9 ?_;go_simp;go_wp2_with ((first|((with_reducible refine(GP _ _).mono ?_);rintro _ wq ⟨rfl,fq⟩;replace HG:=T (HG.out.tr fq);clear fq)|((with_reducible refine(GQ _ _).mono ?_);rintro _ wq ⟨rfl,fq⟩;replace HG:=T (HG.out.tr fq);clear fq)|((with_reducible refine(IA _ _ _).mono ?_);rintro _ wq ⟨rfl,fq⟩;replace HG:=T (HG.out.tr fq);clear fq)));refine hK.out _ _ ?_ (λhH=>?_);(trivial);clear hK K)
  |(refine tgR 10 ?_;go_simp;go_wp2_with ((first|((with_reducible refine(GP _ _).mono ?_);rintro _ wq ⟨rfl,fq⟩;replace HG:=T (HG.out.tr fq);clear fq)|((with_reducible refine(GQ _ _).mono ?_);rintro _ wq ⟨rfl,fq⟩;replace HG:=T (HG.out.tr fq);clear fq)|((with_reducible refine(IA _ _ _).mono ?_);rintro _ wq ⟨rfl,fq⟩;replace HG:=T (HG.out.tr fq);clear fq)));refine hK.out _ _ ?_ (λhH=>?_);(trivial);clear hK K)
  |(refine tgR 11 ?_;go_simp;refine hK.out _ _ ?_ (λhH=>?_);(trivial);clear hK K;have BN:=AI wq 27 (IB bI).toArray;have FN:=T (HG.out.alloc (.cells (IB bI).toArray 27));have Hc:=T (code_any (wq.alloc (.cells (IB bI).toArray 27)) ↑wq _ 9 9 bI rfl bI_ok BN (jO _) Ak);clear BN HG)
  |(refine tgR 12 ?_;go_simp;go_wp2_with ((refine Az Hc ?_);rintro e wk ⟨A5,c5,rfl,ho5,f5⟩;have HI5:Hid (IntsAt AB wk ↑wk A5 26 secB):=T (SZ bI_ok ho5);have FK:=T (FN.out.tr f5);have HC5:=T (HC7.out.fr (FN.out.tr f5) id);clear ho5 f5 Hc);refine hK.out _ _ ?_ (λhH=>?_);(trivial);clear hK K)
  |(refine tgR 13 ?_;refine Vu rfl (.tmp 33) (.tmp 44) 23 23 rfl 5 CI Dr.szU gm 64 256 256 A5 26 c5 BC (by simp[Act.eval,Act.put];rfl) 5 320 _ HC5.out AB ↑wk 26 secB O HI5.out O ?_;intro w8 hc8 f8;refine hK.out _ _ ?_ (λhH=>?_);(trivial);clear hK K)
  |(intro W _;go_simp;try with_reducible rfl)
  |simp only[Act.put,nzR]
  |(refine tgR 1000 ?_;refine tuR 0 ?_ hH ?_ (tuR 1 ?_ hH ?_ (rdR (cTR 2 1001 (λK hK=>?_) CB))))
  |(refine tgR 1001 ?_;refine rdR (cTR 3 1002 (λK hK=>?_) CB))
  |(refine tgR 1002 ?_;refine rdR (cTR 4 1003 (λK hK=>?_) CB))
  |(refine tgR 1003 ?_;refine rdR (cTR 5 1004 (λK hK=>?_) CB))
  |(refine tgR 1004 ?_;refine rdR (cTR 6 1005 (λK hK=>?_) CB))
  |(refine tgR 1005 ?_;refine rdR (cTR 7 1006 (λK hK=>?_) CB))
  |(refine tgR 1006 ?_;refine rdR (cTR 8 1007 (λK hK=>?_) CB))
  |(refine tgR 1007 ?_;refine rdR (cTR 9 1008 (λK hK=>?_) CB))
  |(refine tgR 1008 ?_;refine rdR (cTR 10 1009 (λK hK=>?_) CB))
  |(refine tgR 1009 ?_;refine rdR (cTR 11 1010 (λK hK=>?_) CB))
  |(refine tgR 1010 ?_;refine rdR (cTR 12 1011 (λK hK=>?_) CB))
  |(refine tgR 1011 ?_;refine rdR (cTR 13 1012 (λK hK=>?_) CB))
  |(refine tgR 1012 ?_;refine dnR ?_)
 all_goals
  refine tgR 9999 ?_;have HC8:=T hc8;have F8:=T (F7.out.trans (FK.out.none (S:=λk=>k=gm)|>.tr f8) (λk hk e=>Te));have HS8:=T (HS7.out.fr (FK.out.none (S:=λk=>k=gm)|>.tr f8) (λe=>Tf));clear hc8 f8 HC5 HC7 HI5 FK FN F7 HS7;go_upto_region 6 with(fail);have HIb:=T (By.cells_ints HS8.out (λk _=>HBB.out.2.2.2 k));rw[HBB.out.1] at HIb;have hsz:=Dr.szU;go_upto_region 7 with
   (refine KC rfl (.tmp 47) (.tmp 48) 23 23 rfl 5 CI hsz gm 192 128 128 (I ⟨w.heap.size,0,G⟩) 64 64 rfl rfl 5 320 _ HC8.out AB (w.heap.size+1) 64 bb O HIb.out O ?_
    intro w9 hc9 f9
    have HC9:=T hc9
    have HF9:=T f9
    clear hc9 f9)
  have F9:=T (F8.out.trans HF9.out (λk hk e=>Te));have HS9:=T (HS8.out.fr HF9.out (λe=>Tf));clear HC8 HS8 HIb HF9 F8 hsz;have hI:IntsAt AB w9 ↑w9 (I ⟨gm,0,G⟩) 320 (EZ K bb):=qJ HC9.out (λi hi=>by
   have e:(λ_:Nat=>J AB 0)=λi=>J AB ((λ_=>(0:Int)) i):=rfl;rw[e,funext (λi=>Tb AB (λ_=>0) 0 (Ev K) i),funext (λi=>Tb AB (lay (λ_=>0) 0 (Ev K)) 64 secB i)];exact Tb AB _ 192 bb i) (λi hi=>secF_bd K bb hK9 HBB.out.2.2.1 i)
  have Hb:=T (both_any w9 (Ft HT.out F9.out id) 5 O O (I ⟨gm,0,G⟩) 320 320 (EZ K bb) hI O G 0 0 [] (Nc _ _ _ _) O 60 8 O O (qL K bb hK9 HBB.out.2.1));obtain⟨⟨g8,e8,h8⟩,_⟩:=jR K bb hK9 HBB.out.2.1;have e8:AH 8 St.new (mc0 5 (EZ K bb) [])=_:=e8;rw[e8] at Hb;have H8:=T h8;clear hI HC9 e8 h8;go_frame;go_wp2_with fail;refine Az Hb ?_;rintro e w10 ⟨gg,a,A',ge,eo,rfl,hG,f10⟩;have F10:=T (F9.out.tr f10);have HS10:=T (HS9.out.fr f10 id);have Hv:=T (Ta w10 gg a _ _ (hG.seen (by show g8.b.outs.length≤1000000;rw[H8.out.sc.o];exact Bj _)));clear hG f10 Hb F9 HS9;go_wp2_with fail;refine Az Hv ?_;rintro e w11 ⟨cs,rfl,hv,f11⟩;obtain⟨X,c,Y,d,_,_,_,_,rfl,hst,⟨Mz,c1,rfl,hm1,_,hl1⟩,⟨Oz,c2,rfl,_⟩,⟨Iz,c3,rfl,_⟩,⟨Dz,c4,rfl,hd1,_,hl4⟩⟩:=hv;have hn:g8.b.ms.n=5:=H8.out.sc.n;have hp:g8.b.p=4:=H8.out.p;dsimp only at hm1 hl1 hst⊢;rw[hn] at hm1 hl1⊢;rw[hp];have hX:IntsAt V w11 ↑w11 X 1 [0]:=MY hst.d hst.ok.d;obtain⟨xb,xo,rfl,hxb,hxc⟩:=hX.at_ (i:=0) O;obtain⟨mb,mo,rfl,hmb,_⟩:=hm1.2.2 O;obtain⟨db,d0,rfl,hdb,_⟩:=hd1.2.2 O;have hs1:=By.cells_ints (HS10.out.fr f11 id) (λk _=>HBB.out.2.2.2 k);rw[HBB.out.1] at hs1;have hmm:IntsAt AB w11 ↑w11 (I ⟨mb,mo+256,G⟩) 64 bb:=jU hm1 O HBB.out.2.1 (λi hi=>by rw[JL _ (by omega)];exact(H8.out.me (by decide)).2 i hi);have hdd:IntsAt AB w11 ↑w11 (I ⟨db,d0+K*64,G⟩) 64 bb:=jU hd1 O HBB.out.2.1 (λi hi=>by rw[JL _ (by omega)];exact H8.out.dr (by decide) i hi);have bz:=AI w11 41 vwz;have fz:Fr Aj w11 (w11.alloc (.cells vwz 41)):=(Ao _ _).alloc _;have F11:=T (F10.out.tr f11);have FZ:=T fz;have o23:=one23 {ss 90 [0] 20 with ha:=Ag} (Z (I ⟨xb,xo,G⟩) 1 c) (Z Y 0 d) (Z (I ⟨mb,mo,G⟩) 320 c1) (Z Oz g8.b.outs.length c2) (Z Iz g8.b.ins.length c3) (Z (I ⟨db,d0,G⟩) 1024 c4) 4 g8.b.m rfl rfl rfl rfl rfl rfl;have HLS:=T (Bg HS10.out.lt f11.size);obtain⟨L,hL⟩:=A8 (K*64);obtain⟨H,hH⟩:=A8 (K*64+64);have HLH:=T (Ay hL hH);have hne1:(c1=256)=False:=AA;have hne2:(c4=L)=False:=AA;have hne3:(H≤c4)=True:=AA;have hne4:(L≤H)=True:=AA;have hne5:H -L=64:=O;rw[hL] at hdd;have HN:=T (Ay hxc (Ay hxb (Ay hs1 (Ay hmm hdd))));clear hL hH hm1 hd1 hst hX hs1 hmm hdd hxc hxb hmb hdb hn hp f11 fz Hv hl1 hl4 F10 HS10;go_upto_region 11 with(((with_reducible refine BL (cs':=vwc {ss 90 [0] 20 with ha:=Ag} (Z (I ⟨xb,xo,G⟩) 1 c) (Z Y 0 d) (Z (I ⟨mb,mo,G⟩) 320 c1) (Z Oz g8.b.outs.length c2) (Z Iz g8.b.ins.length c3) (Z (I ⟨db,d0,G⟩) 1024 c4) 4 g8.b.m) bz szV o23 ?_);intro W12 b12 f12;have HB12:=T b12;have HF12:=T f12;clear b12 f12 bz o23));have FW:=T (F11.out.trans (FZ.out.none (S:=λk=>k=w11.heap.size)|>.tr HF12.out) (λk hk e=>by have e:k=w11.heap.size:=e;have:=F11.out.size;omega));obtain⟨Cv,hU⟩:=A8 (str bb);have HSx:Hid (∀X,Fr Aj W12 X→X.cell? ⟨↑w11,16,G⟩=I (Z (I ⟨mb,mo,G⟩) 320 c1)∧X.cell? ⟨↑w11,19,G⟩=I (Z (I ⟨db,d0,G⟩) 1024 c4)∧X.cell? ⟨↑w11,20,G⟩=I (J .u32 4)∧X.cell? ⟨xb,xo,G⟩=I (J .u32 0)∧w11.heap.size<X.heap.size∧xb<↑X∧
   (convert 23 9 (Z (I ⟨mb,mo+256,G⟩) 64 (c1 -256))).run Tryz.prog X=.ok (.string Cv) X∧(convert 23 9 (Z (I ⟨↑w,0,G⟩) 64 64)).run Tryz.prog X=.ok (.string Cv) X∧(convert 23 9 (Z (I ⟨db,d0+L,G⟩) 64 (c4 -L))).run Tryz.prog X=.ok (.string Cv) X):=T (λX f=>by
   have g:Fr (λk=>k=w11.heap.size) w11 X:=(FZ.out.none.tr HF12.out).tr f.none
   have hb:=HB12.out.fr f id
   obtain⟨n1,n2,n3,n4,n5⟩:=HN.out
   have lo: ∀i,i<w11.heap.size→ ¬i=w11.heap.size:=λi hi e=>O
   have ls:w.heap.size+1≤w11.heap.size:=HLS.out
   have t1:=Fs (c:=c1 -256) (n4.fr g (AD _) lo)
   have t2:=Fs (c:=64) (n3.fr g ls (λi hi=>lo i O))
   have t3:=Fs (c:=c4 -L) (n5.fr g (AD _) lo)
   rw[hU] at t1 t2 t3
   exact⟨hb.cell 16,hb.cell 19,hb.cell 20,g.cell n1 n2 (lo _ n2),hb.lt,Bg n2 g.size,t1,t2,t3⟩)
  have k1:W12.cell? ⟨↑w11,1,G⟩=I (Z (I ⟨xb,xo,G⟩) 1 c):=HB12.out.cell 1;have kl:=HB12.out.lt;clear hU HN FZ HF12 F11;go_upto_region 12 with(fail);clear k1 kl HB12;refine C7 (S:=λX=>Fr Aj W12 X) AL ((Ao Aj W12).drew) (λhH=>?_);generalize W12.drew=wv2 at hH⊢;refine Av 0 rfl hH BJ ?_;refine Av 1 rfl hH BJ ?_;refine Av 2 rfl hH BJ ?_
  try simp only[AG]
  refine Av 3 rfl hH BJ ?_;refine Av 4 rfl hH BJ ?_;refine Av 5 rfl hH BJ ?_
  try simp only[AG]
  refine Av 6 rfl hH BJ ?_;refine Av 7 rfl hH BJ ?_;refine Av 8 rfl hH BJ ?_
  try simp only[AG]
  refine Av 9 rfl hH BJ ?_;refine Av 10 rfl hH BJ ?_;refine Av 11 rfl hH BJ ?_
  try simp only[AG]
  refine Av 12 rfl hH BJ ?_;refine Av 13 rfl hH BJ ?_;refine Av 14 rfl hH BJ ?_
  try simp only[AG]
  refine Av 15 rfl hH BJ ?_;refine Av 16 rfl hH BJ ?_;refine Av 17 rfl hH BJ ?_
  try simp only[AG]
  refine Av 18 rfl hH BJ ?_;refine Av 19 rfl hH BJ ?_;refine Av 20 rfl hH BJ ?_
  try simp only[AG]
  refine Av 21 rfl hH BJ ?_;refine Av 22 rfl hH BJ ?_;refine CJ 23 (J V (L:Int)) rfl hH Tg ?_
  try simp only[AG]
  refine Av 24 rfl hH BJ ?_;refine CJ 25 (J V (L:Int)) rfl hH Tg ?_;refine CJ 26 (J V (H:Int)) rfl hH Tg ?_
  try simp only[AG]
  refine Av 27 rfl hH BJ ?_;refine Av 28 rfl hH BJ ?_;refine Av 29 rfl hH BJ ?_
  try simp only[AG]
  refine Av 30 rfl hH BJ ?_;refine Av 31 rfl hH BJ ?_;refine Av 32 rfl hH BJ ?_
  try simp only[AG]
  refine Av 33 rfl hH BJ ?_;refine Av 34 rfl hH BJ ?_;refine Av 35 rfl hH BJ ?_
  try simp only[AG]
  refine Av 36 rfl hH BJ ?_;refine Av 37 rfl hH BJ ?_;refine Av 38 rfl hH BJ ?_
  try simp only[AG]
  refine Av 39 rfl hH BJ ?_;refine Av 40 rfl hH BJ ?_;refine Av 41 rfl hH BJ ?_
  try simp only[AG]
  refine Av 42 rfl hH BJ ?_;refine Av 43 rfl hH BJ ?_;refine Av 44 rfl hH BJ ?_
  try simp only[AG]
  refine Av 45 rfl hH BJ ?_;refine Av 46 rfl hH BJ ?_;refine Av 47 rfl hH BJ ?_
  try simp only[AG]
  refine Av 48 rfl hH BJ ?_;refine Av 49 rfl hH BJ ?_
  try simp only[AG]
  refine Bb [50] ?_;refine AT (λK hK=>?_) ?_
  ·go_simp;go_wp2_with ((with_reducible refine(qF _ (Ft HT.out (FW.out.tr hH) id)).mono ?_);rintro e13 w13 ⟨rfl,f13⟩;have hX:=hH.tr f13);refine hK.out _ _ (hX) λhH=>?_;clear hK K;refine Av 51 rfl hH BJ ?_;refine Av 52 rfl hH BJ ?_;refine CT ?_
   go_wp2
   go_ret;exact⟨rfl,FW.out.tr hH⟩
  exact Bc
end topSectors
end Go.Proofs.YtdfegdoeebaagaaGreatDoor
