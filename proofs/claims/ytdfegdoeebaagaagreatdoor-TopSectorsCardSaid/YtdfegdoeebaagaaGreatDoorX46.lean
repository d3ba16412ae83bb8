import Derived.Test.YtdfegdoeebaagaaGreatDoorX45
open Go.Value renaming slice→Z,int→J,bool→Ap,tuple→AF,agg→A9,pointer→Bm
open Option renaming some→I,none→G
open Go.IntKind renaming i64→U,u32→V,u8→AB
open Go renaming World→Aa,Value→As,Calls→At,wp_region_held_drew→C7,Ending→AY,info_parts→Cj
open Bool renaming true→Ag
open List renaming getD_eq_getElem?_getD→AS,length_map→Fo,length_take→Iv
open Go.Ending renaming returned→Ax
open And renaming intro→Ay
open Nat renaming le_refl→AD,lt_of_lt_of_le→Bg
open Or renaming inl→Af,inr→Ah
open Go.Proofs.Tryz renaming underlying23→CI
open Go.AllReadyH renaming nil→CB
open Go.Instr renaming makeSlice→Fp
set_option linter.all false
set_option maxHeartbeats 40000000
set_option maxRecDepth 1000000
open Go Go.RowKit
namespace Go.Proofs.YtdfegdoeebaagaaGreatDoor
namespace Bl
open Fm Nt Rm By Wk Gs Bs Mu Sv Gm Gc Rn Eg
def Ka(n:Nat)(AU:AE)(gb:Nat)(k:Nat):Prop:=k<n∨AU k∨k=gb
def Kb(n:Nat)(AU:AE)(gb:Nat)(k:Nat):Prop:=k<n∧ ¬AU k∧k≠gb
structure Two(n:Nat)(AU:AE)(w2:Aa)(ga:Nat)(a:Ab)(A:Au)(ge:Nat)(eo:Eo)(gb:Nat)(b:Ab)(B:Au)(g:Mc):Prop where
 n0:0<n
 le:n≤↑w2
 O1: ∀k,AU k→Nk w2 k∧n≤k
 lo:n≤gb
 sec: ∀w' S,Fr S w2 w'→(∀k,AU k∨k=gb→ ¬S k)→ ¬S 0→Gt0 w' (Kb ↑w' AU gb) gb b B St.new g
 fst:Gt w2 (Ka n AU gb) ga a A ge eo St.new g
 fl:eo.s.fl=0
theorem two_new{w0 w1 w2:Aa}{ga ge gb:Nat}{a b:Ab}{A B:Au}{eo:Eo}{g:Mc}(hA:Gt w1 (λk=>k<w0.heap.size) ga a A ge eo St.new g)(hfl:eo.s.fl=0)(f1:Fr Aj w0 w1)(hB:New0 w2 ↑w1 gb b B g)(f2:Fr Aj w1 w2)(h0:0<w0.heap.size): ∃AU,Two ↑w0 AU w2 ga a A ge eo gb b B g:=by
 obtain⟨AU,o1,o2⟩:=hB.later;have s1:=f1.size;have s2:=f2.size;have hlo:=hB.lo;have hbl:gb<↑w2:=by
  obtain⟨gp,hb⟩:=hB.ex;exact hb.lt
 refine⟨AU,h0,O,λk hk=>⟨(o1 k hk).1,by have:=(o1 k hk).2.1;omega⟩,O,o2,hA.more f2 (λk hk=>?_),hfl⟩;rcases hk with q|q|rfl;·exact Af q
 ·exact Ah ⟨(o1 k q).2.1,(o1 k q).2.2.1⟩
 ·exact Ah ⟨hlo,hbl⟩
section
variable {n:Nat} {AU:AE} {w2 w3 w4:Aa} {ga ge gb:Nat} {a b:Ab} {A B:Au} {eo e3:Eo} {g:Mc} {x y:Sg}
theorem Two.second(h:Two n AU w2 ga a A ge eo gb b B g)(f:Fr (λk=> ¬Ka n AU gb k) w2 w3):Gt0 w3 (Kb ↑w3 AU gb) gb b B St.new g:=
 h.sec w3 _ f (λk hk q=>q (Ah hk)) (λq=>q (Af h.n0))
theorem Two.stay(h:Two n AU w2 ga a A ge eo gb b B g)(f:Fr (λk=> ¬Ka n AU gb k) w2 w3)(ha:Gt w3 (Ka n AU gb) ga a A ge e3 x.s x.g)(f2:Fr (λk=> ¬Kb ↑w3 AU gb k) w3 w4):Gt w4 (Ka n AU gb) ga a A ge e3 x.s x.g:=by
 have hb:=h.second f;obtain⟨gp,X,c,Y,d,hbk,_⟩:=hb.ex;have f3:Fr (λk=>AU k∨k=gb) w3 w4:=f2.mono (λk hk q=>by
  by_cases hO:AU k;·exact Af hO
  ·by_cases hg:k=gb;·exact Ah hg
   ·exact absurd ⟨hk,hO,hg⟩ q)
 refine ha.fr f3 (λk q=> Ah q) (λq=>?_) (λk t q e=>?_)
 ·have:=h.n0;rcases q with q|q;·have:=(h.O1 0 q).2;omega
  ·have:=h.lo;omega
 ·rcases q with q|rfl;·obtain⟨t2,cs,hk,hne⟩:=(h.O1 k q).1.fr f (λr=>r (Ah (Af q)));rw[Ca.srt_blk hk] at e;simp at e;subst e;exact hne
  ·rw[Ca.srt_blk hbk] at e;simp at e;subst e;decide
theorem Two.frame{w:Aa}(h:Two n AU w2 ga a A ge eo gb b B g)(hw:↑w≤n)(f0:Fr Aj w w2)(f:Fr (λk=> ¬Ka n AU gb k) w2 w3)(f2:Fr (λk=> ¬Kb ↑w3 AU gb k) w3 w4):Fr Aj w w4:=by
 have s0:=f0.size;have s1:=f.size;refine(f0.trans f (λk hk q=>q (Af O))).trans f2 (λk hk q=>q ⟨O,λr=>?_,λr=>?_⟩);·have:=(h.O1 k r).2;omega
 ·have:=h.lo;omega
end
def Both(w:Aa)(x:Sg)(ed:AY)(w':Aa):Prop:=
 ∃gg a A ge eo,ed=Ax (AF #[Bm (I ⟨gg,0,G⟩),Ap Ag])∧Gt w' (λk=>k<w.heap.size) gg a A ge eo x.s x.g∧Fr Aj w w'
set_option maxRecDepth 1000000 in
theorem both_any(w:Aa)(hT:Iq.Tab w)(np:Nat)(hn0:1≤np)(hn1:np≤64)(A1:Aw)(n1 c1:Nat)(bs:List Int)(h1:IntsAt AB w ↑w A1 n1 bs)(l1:n1≤np*64)(A2:Aw)(n2 c2:Nat)(ds:List Int)(h2:IntsAt AB w ↑w A2 n2 ds)(l2:n2≤1024)(n Ci:Nat)(hn:n≤1000)(hJ:Ci≤100000)(hH:Halts n St.new (mc0 np bs ds) Ci):At Tryz.prog 11 #[A9 #[Z A1 n1 c1,Z A2 n2 c2,J U np],J U n] w (Both w (AH Ci St.new (mc0 np bs ds))):=by
 have f0:Fr Aj w (w.alloc (.cells #[Z A1 n1 c1,Z A2 n2 c2,J U np] 35)):=(Ao _ _).alloc _;have b2:=AI w 35 #[Z A1 n1 c1,Z A2 n2 c2,J U np];generalize hW0:w.alloc (.cells #[Z A1 n1 c1,Z A2 n2 c2,J U np] 35)=W0 at*;have i1:=h1.fr f0 (AD _) (λ_ _ e=>e);have i2:=h2.fr f0 (AD _) (λ_ _ e=>e);have i1:=GN i1 f0.size;have i2:=GN i2 f0.size;have hT0:=Ft hT f0 id;have HW:=T hW0;have F0:=T f0;have HB:=T b2;have HH:=T hH;have hou:(AH Ci St.new (mc0 np bs ds)).g.b.outs.length≤1000000:=by have:=hH.ou Ci (AD _);omega
 have HOu:=T hou;have HFa:=T (λW (f:Fr Aj W0 W)=>dZ W (Ft hT0 f id) np hn0 hn1 A1 n1 c1 bs (GN (i1.fr f (AD _) (λ_ _ e=>e)) f.size) l1 A2 n2 c2 ds (GN (i2.fr f (AD _) (λ_ _ e=>e)) f.size) l2);have HFb:=T (λW (f:Fr Aj W0 W)=>pM W (Ft hT0 f id) np hn0 hn1 A1 n1 c1 bs (GN (i1.fr f (AD _) (λ_ _ e=>e)) f.size) l1 A2 n2 c2 ds (GN (i2.fr f (AD _) (λ_ _ e=>e)) f.size) l2);have H00:=T hT0.1;have SK:Hid (W0.cell? ⟨↑w,0,G⟩=I (Z A1 n1 c1)∧W0.cell? ⟨↑w,1,G⟩=I (Z A2 n2 c2)∧W0.cell? ⟨↑w,2,G⟩=I (J .i64 np)∧w.heap.size<W0.heap.size):=T ⟨b2.cell 0,b2.cell 1,b2.cell 2,b2.lt⟩;clear hT hn0 hn1 h1 l1 h2 l2 hH f0 b2 hW0 i1 i2 hT0 hou;go_in;go_upto_region 1 with(fail);rw[HW.out];refine C7 (S:=λX=>X.cell? ⟨↑w,0,G⟩=I (Z A1 n1 c1)∧X.cell? ⟨↑w,1,G⟩=I (Z A2 n2 c2)∧X.cell? ⟨↑w,2,G⟩=I (J .i64 np)∧w.heap.size<X.heap.size) AL (SK.out) (λhH=>?_);have HF:=T ((Ao Aj W0).drew);generalize W0.drew=wv at hH HF⊢;refine tgI 1000 ?_
 repeat' first
  |(refine tgR 1 ?_;go_simp;go_wp2_with ((with_reducible refine(HFa.out _ HF.out).mono ?_);rintro e1 w1 ⟨ga,a,A,ge,eo,rfl,hA,hfl,f1⟩;have HA:=T (Ay hA (Ay hfl f1));have hX:=(⟨f1.cell hH.1 hH.2.2.2 id,f1.cell hH.2.1 hH.2.2.2 id,f1.cell hH.2.2.1 hH.2.2.2 id,Bg hH.2.2.2 f1.size⟩:_∧_∧_∧_);have HF1:=T (HF.out.tr f1);clear hA hfl f1);refine hK.out _ _ ?_ (λhH=>?_);(exact hX);clear hK K)
  |(refine tgR 3 ?_;go_simp;go_wp2_with ((with_reducible refine(HFb.out _ HF1.out).mono ?_);rintro e2 w2 ⟨gb,b,B,rfl,hB,f2⟩;have HB2:=T (Ay hB f2);have hX:=(⟨f2.cell hH.1 hH.2.2.2 id,f2.cell hH.2.1 hH.2.2.2 id,f2.cell hH.2.2.1 hH.2.2.2 id,Bg hH.2.2.2 f2.size⟩:_∧_∧_∧_);clear hB f2);refine hK.out _ _ ?_ (λhH=>?_);(exact hX);clear hK K)
  |(intro X hSw;obtain⟨r0,r1,r2,q0⟩:=hSw;go_simp;try with_reducible rfl)
  |simp only[Act.put,nzR]
  |(refine tgR 1000 ?_;refine tuR 0 ?_ hH ?_ (tuR 2 ?_ hH ?_ (rdR (cTR 1 1001 (λK hK=>?_) CB))))
  |(refine tgR 1001 ?_;refine rdR (cTR 3 1002 (λK hK=>?_) CB))
  |(refine tgR 1002 ?_;refine tuR 4 ?_ hH ?_ (tuR 5 ?_ hH ?_ (dnR ?_)))
 all_goals
  refine tgR 9999 ?_;go_wp2_with fail;obtain⟨hA,hfl,f1⟩:=HA.out;obtain⟨hB,f2⟩:=HB2.out;have hw0:w.heap.size≤wv.heap.size:=(F0.out.tr HF.out).size;have fw:=((F0.out.tr HF.out).tr f1).tr f2;obtain⟨AU,hX⟩:=two_new hA hfl f1 hB f2 (Bg H00.out HF.out.size);have HX:=T hX;have HWn:=T (Ay hw0 fw);have Hua:=T (jJ _ _ ga (runs1 (Ka ↑wv AU gb) ga a A ge) w2 St.new (mc0 np bs ds) n Ci ⟨eo,hX.fst,by rw[hfl];exact Int.le_refl _⟩ hn hJ Ak HH.out);clear hA hfl f1 hB f2 hw0 fw hX HA HB2 HFa HFb SK HF hH;go_wp2_with fail;refine Az Hua ?_;rintro e3 w3 ⟨rfl,⟨m3,e3,hA3,_⟩,f3⟩;have hB3:=HX.out.second f3;have Hub:=T (jJ _ _ gb (runs0 (Kb ↑w3 AU gb) gb b B) w3 St.new (mc0 np bs ds) n Ci hB3 hn hJ Ak HH.out);have HA3:=T (Ay hA3 f3);clear hA3 f3 hB3 Hua;go_wp2_with fail;refine Az Hub ?_;rintro e4 w4 ⟨rfl,⟨m4,hB4⟩,f4⟩;have hA4:=HX.out.stay HA3.out.2 HA3.out.1 f4;have F4:=T (HX.out.frame HWn.out.1 HWn.out.2 HA3.out.2 f4);have HA4:=T hA4;have HB4:=T hB4;have Hva:=T (Ta w4 ga a _ _ (hA4.seen HOu.out));clear hA4 hB4 f4 Hub HA3;go_wp2_with fail;refine Az Hva ?_;rintro e5 w5 ⟨cs,rfl,hv5,f5⟩;have HV5:=T hv5;have HA5:=T (HA4.out.fr0 f5);have hB5:=HB4.out.fr0 f5;have F5:=T (F4.out.tr f5);have Hvb:=T (Ta w5 gb b _ _ (hB5.seen HOu.out));have HRk:=T hB5.rk;clear hv5 f5 hB5 Hva HA4 HB4 F4;go_wp2_with fail;refine Az Hvb ?_;rintro e6 w6 ⟨ds2,rfl,hv6,f6⟩;have Hkv:=T (qI w6 _ _ _ _ (HV5.out.fr0 f6) hv6 HRk.out);have HA6:=T (HA5.out.fr0 f6);have F6:=T (F5.out.tr f6);clear hv6 f6 Hvb HA5 F5;go_wp2_with fail;refine Az Hkv ?_;rintro e7 w7 ⟨rfl,f7⟩;have HA7:=T (HA6.out.fr0 f7);have F7:=T (F6.out.tr f7);clear f7 Hkv HA6 F6
  go_wp2
  go_ret2;exact⟨ga,a,A,ge,e3,rfl,HA7.out.less (λk hk=> Af (Bg hk HWn.out.1)),F7.out⟩
end Bl
namespace Bl
open Fm Nt Rm By Wk Gs Bs Mu Sv Gm Gc Rn Eg Kd
def IB(l:List Ins):List As:=(l.map (λi=>[J U i.op,J V i.n])).flatten
theorem jO(l:List Ins): ∀(i:Nat) (x:Ins),l[i]?=I x→(IB l).toArray[i*2]?=I (J U x.op)∧(IB l).toArray[i*2+1]?=I (J V x.n):=by
 induction l with
 |nil=>intro i x h;simp at h
 |cons y l ih=>
  intro i x h
  match i,h with
  |0,h=>simp at h;subst h;exact⟨rfl,rfl⟩
  |i+1,h=>
   obtain⟨h1,h2⟩:=ih i x D7;have e1:(i+1)*2=i*2+1+1:=O;rw[e1];exact⟨by simpa[IB] using h1,by simpa[IB] using h2⟩
end Bl
namespace By
open Fm Nt Rm
def Ks(zs:List Int)(i:Nat):Int:=if i<zs.length then zs.getD i 0 else 0
theorem jS{w:Aa}{B n:Nat}{A:Aw}{zs:List Int}(h:IntsAt AB w B A n zs)(i:Nat):0≤Ks zs i∧Ks zs i<256:=by
 unfold Ks;split
 ·rename_i hi
  exact PS h (by rw[←h.1];exact hi)
 ·omega
theorem szU8:(Tryz.prog.info? 5).map (·.size)=I 1:=Vv
set_option maxRecDepth 100000 in
theorem qK(w:Aa)(A:Aw)(len cap B:Nat)(zs:List Int)(hz:IntsAt AB w B A len zs)(hB:B≤↑w)(n:Nat)(hn:n≤1000000):At Tryz.prog 6 #[Z A len cap,J U n] w λe w'=>e=Ax (Z (I ⟨↑w,0,G⟩) n n)∧Cells w' ↑w 5 n (λk=> J AB (Ks zs k))∧Fr Aj w w':=by
 have hmk: ∀W,(Fp 23 (J U (n:Int)) (J U (n:Int))).run Tryz.prog W=.ok (Z (I ⟨↑W,0,G⟩) n n) (W.alloc (.cells (zU n) 5)):=λW=>LU U n hn W;have hc0:=cellsU w n rfl;have f0:=(Ao Aj w).alloc (.cells (zU n) 5);have hz0:=(hz.take (show min len n≤len from Nat.min_le_left _ _)).fr f0 hB (λ_ _ e=>e);have hlz:=T hz.1;have HC0:=T hc0;have HF0:=T f0;have HZ0:=T hz0;have hsz:=szU8;clear hc0 f0 hz0;go_in;go_wp2_with
  (refine KC rfl (.tmp 8) (.tmp 9) 23 23 rfl 5 CI hsz w.heap.size 0 n n A len cap rfl rfl 5 n _ HC0.out AB B (min len n) (zs.take (min len n)) rfl HZ0.out O ?_
   intro w2 hc2 f2)
 have hc3:Cells w2 ↑w 5 n (λk=> J AB (Ks zs k)):=Cells.congr hc2 (λi hi=>by
  unfold putR Ks;rw[Fo,Iv,hlz.out];by_cases h:i<len;·rw[An O,An h,Nat.sub_zero];have:=hlz.out;simp[AS,List.getElem?_take,show i<zs.length by omega];rw[An O];rfl
  ·rw[Ae O,Ae h])
 have HC3:=T hc3;have HFN:=T (HF0.out.trans (S:=λ_=>False) f2 (λi hi e=>O));clear hc2 hc3
 go_wp2
 go_ret;exact⟨rfl,HC3.out,HFN.out⟩
end By
end Go.Proofs.YtdfegdoeebaagaaGreatDoor
