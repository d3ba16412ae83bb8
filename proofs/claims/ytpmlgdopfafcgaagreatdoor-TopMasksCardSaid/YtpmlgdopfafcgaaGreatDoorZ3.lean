import Derived.Test.YtpmlgdopfafcgaaGreatDoorZ2
import Derived.Test.YtpmlgdopfafcgaaGreatDoorChecked
open Go.Value renaming int→J,slice→U,bool→Ap,tuple→AD,ownBlock→Bp,agg→AA,pointer→Bi
open Option renaming some→I,none→G
open Go.IntKind renaming i64→Z,u32→V,u64→AM,u8→AC,wrap_u64→Dk,wrap_u32→DH
open Bool renaming false→Aa,true→Af,false_ne_true→Da,false_and→D7
open Go renaming World→Ac,Value→As,Calls→At,bodyPost_ret→Bf,TypeId→AK,wp_region_held_drew→BY,info_parts→BH,Ending→AT,madeCells→Cb,maxLen→Br,Program→BW,undef→Bt,wpList→BL,bits→Bb,run_underlying→CX
open List renaming getD_eq_getElem?_getD→AN,getElem?_eq_getElem→Bj,length_append→BJ,append_assoc→BM,mem_map→Bo,getElem?_take_of_lt→Cw,replicate→BK,range→Bm,getElem?_append_right→CB,getElem_mem→BU,mem_append→BZ,getElem?_append_left→CO,getElem?_map→C7,cons_append→CC,mem_filter→C8,length_pos_iff→CP,length_cons→CK,mem_cons→Cy,getLastD_eq_getLast?→Dg,nil_append→CI,getElem?_eq_none→De,dropLast_concat→Do,mem_singleton→Dv,map_append→Df,length_map→Di,getElem_of_mem→DD,length_nil→Dp,concat_eq_append→DI,getElem?_range→DL,range_succ→DB,getElem?_replicate→DW,singleton_append→DV,map_cons→D6,map_map→D8,setIfInBounds_toArray→Eb
open Go.Ending renaming returned→Ax
open And renaming intro→A9
open Nat renaming le_refl→AE,lt_of_lt_of_le→AW,le_trans→AS,zero_le→AU,zero_add→Bn,eq_zero_or_pos→Dm,reduceEqDiff→Dq
open Or renaming inl→Ag,inr→Ah
open Go.Proofs.Tryz renaming underlying41→AP,underlying31→CF,underlying22→CV,underlying215→Dl,underlying26→DN
open Go.RowKit renaming intOf→AJ
open Int renaming eq_ofNat_of_zero_le→CM,toNat_natCast→C4,emod_eq_of_lt→CZ
open Go.Builtin renaming zeroCells→CG,delete_→Eh
open Array renaming getElem?_toList→CN,getElem?_eq_some_iff→DX
open Go.Region renaming wanted→CA
open Go.Result renaming andThen→CT
open Option.some renaming inj→Ds
open Go.MapKept renaming run_getObj_map→DJ,run_setObj_map→Ef
open Go.Instr renaming makeSlice→Dj,mapUpdate→DK
open Go.IntWalk renaming i64_in→Du
open Go.Lit renaming int→C9
open Go.Sem renaming run_bind→D5
set_option linter.unusedVariables false
set_option linter.unusedSimpArgs false
set_option linter.defProp false
set_option maxHeartbeats 40000000
set_option maxRecDepth 1000000
open Go Go.RowKit
namespace Go.Proofs.YtpmlgdopfafcgaaGreatDoor
namespace Rm
open Fm Nt
def zU(n:Nat):AL:=Cb #[J AC 0] n
theorem infoU8:(Tryz.prog.info? 5).map (λi=>(i.zero,i.size,i.bytes))=I (I (J AC 0),1,1):=AI
theorem Jg(k:IntKind)(n:Nat)(hn:n≤1000000)(w:Ac):(Dj 31 (J k (n:Int)) (J k (n:Int))).run Tryz.prog w=.ok (U (I ⟨↑w,0,G⟩) n n) (w.alloc (.cells (zU n) 5)):=by
 obtain⟨i0,hi0,hz0,hz1,hz2⟩:=BH infoU8;have hr:=run_make (P:=Tryz.prog) w 31 5 i0 (J AC 0) CF hi0 hz0 k k n n O O GK O;simp only[C4,hz1,Nat.mul_one] at hr;exact hr
theorem cellsU(w:Ac)(n:Nat){g:Nat}(hg:↑w=g):Cells (w.alloc (.cells (zU n) 5)) g 5 n (λ_=> J AC 0):=by
 subst hg;have e:(zU n).toList=BK n (J AC 0):=by rw[zU,toList_madeCells_one]
 exact GJ
def part(z:Nat→Int)(r:Nat)(j:Nat):As:=J AC (if j<r then z j else 0)
theorem part_set{w:Ac}{g n:Nat}{z:Nat→Int}{r:Nat}(h:Cells w g 5 n (part z r))(hr:r<n):Cells (w.setCell ⟨g,r,G⟩ (J AC (z r))) g 5 n (part z (r+1)):=
 Cells.congr (Cells.set_ h r _) λj hj=>by
  unfold putV part;by_cases e:j=r;·subst e;rw[An rfl,An O]
  ·rw[Ae e];by_cases h1:j<r;·rw[An h1,An O]
   ·rw[Ae h1,Ae O]
set_option maxRecDepth 100000 in
theorem page_in(w:Ac)(a:Am)(m:Ms)(h:Mem w a m)(n:Int)(n0:0≤n)(n1:n<m.n):At Tryz.prog 86 #[↑a.gm,J Z n] w λe w'=>e=Ax (AD #[U (I ⟨↑w,0,G⟩) 64 64,Ap Af])∧Cells w' ↑w 5 64 (λk=> J AC (m.mem (n.toNat*64+k)))∧Fr Aj w w':=by
 have hn:=h.n0;have hpg:=Je;have Hpg:=T hpg;have c1:=Jf;obtain⟨p,rfl⟩: ∃i:Nat,n=i:=⟨n.toNat,O⟩;rw[show(p:Int).toNat=p from rfl];have d1:decide (m.n≤p)=Aa:=A8;have d2:decide ((p:Int)<0)=Aa:=AB;have hmk: ∀W,(Dj 31 (J .i64 64) (J .i64 64)).run Tryz.prog W=.ok (U (I ⟨↑W,0,G⟩) 64 64) (W.alloc (.cells (zU 64) 5)):=λW=>Jg Z 64 O W;have hc0:Cells (w.alloc (.cells (zU 64) 5)) ↑w 5 64 (part (λk=>m.mem (p*64+k)) 0):=Cells.congr (cellsU w 64 rfl) (λj hj=>by simp[part]);have hM0:Mem (w.alloc (.cells (zU 64) 5)) a m:=h.alloc _;have hf0:=(Ao Aj w).alloc (.cells (zU 64) 5);clear hpg;go_in;go_wp2_with fail;refine Ay Hpg ?_;rintro e w' ⟨rfl,rfl⟩;go_wp2_with fail;clear hmk;generalize w.alloc (.cells (zU 64) 5)=wz at*;go_loopw [22] (λk wr=> ∃r:Nat,r≤64∧k=J Z r∧Mem wr a m∧Cells wr ↑w 5 64 (part (λk=>m.mem (p*64+k)) r)∧Fr Aj w wr) (λk _=>64 -(AJ k).toNat)
 case atStart=>exact⟨0,O,rfl,hM0,hc0,hf0⟩
 case round=>
  clear hM0 hc0 hf0;obtain⟨r,hr,rfl,hM,hc,fr⟩:=hrel;by_cases hlt:r<64
  ·have hg:=get_any wr a m hM ((p:Int)*64+r) O O;rw[show((p:Int)*64+r).toNat=p*64+r by omega] at hg;have Hg:=T hg;have cz:=hc.cell r hlt;have zz:=Cells.frozen hc r;have hc2:=part_set hc hlt;have hM2:=hM.fr0 (w':=wr) (Ao _ _);have fr2:=fr.setCell (p:=⟨↑w,r,G⟩) (Ah (AE _)) (J AC (m.mem (p*64+r)));have hM3:=hM.fr (Bc wr ↑w r (J AC (m.mem (p*64+r)))) (λk hk e=>by have:=h.lt k hk;omega);have HC:=T hc2;have HF:=T fr2;have HM:=T hM3;clear hg hc2 fr2 hM3 hM2;simp only[part] at cz;go_wp2_with fail;refine Ay Hg ?_;rintro e w' ⟨rfl,rfl⟩
   go_wp2
   go_roundw
   case rel=>exact⟨r+1,O,AX,HM.out,HC.out,HF.out⟩
   case measure=>simp[AJ];omega
  ·have hfin:Cells wr ↑w 5 64 (λk=> J AC (m.mem (p*64+k))):=Cells.congr hc (λj hj=>by rw[part,An (by omega)]);have HC:=T hfin;clear hfin
   go_wp2
   go_ret2;exact⟨rfl,HC.out,fr⟩
theorem page_out(w:Ac)(a:Am)(m:Ms)(h:Mem w a m)(n:Int)(hn2: ¬(0≤n∧n<m.n)):At Tryz.prog 86 #[↑a.gm,J Z n] w λe w'=>e=Ax (AD #[U G 0 0,Ap Aa])∧w=w':=by
 have hn:=h.n0;have hpg:=Je;have Hpg:=T hpg;have c1:=Jf;clear hpg;by_cases n0:0≤n;·have n1:(m.n:Int)≤n:=O;clear hn2;go_in;go_wp2_with fail;refine Ay Hpg ?_;exact MM
 ·clear hn2;exact Jc
def turnN(m:Ms)(k:Nat):List Int:=((Bm k).filter λp=>m.tu p).map Int.ofNat
theorem turnN_le(m:Ms)(k:Nat):(turnN m k).length≤k:=by
 unfold turnN;exact My
theorem Uq(m:Ms)(k:Nat)(h:m.tu k=Af):turnN m (k+1)=turnN m k++[(k:Int)]:=Nb
theorem turnN_no(m:Ms)(k:Nat)(h:m.tu k=Aa):turnN m (k+1)=turnN m k:=Nb
def tuV(m:Ms):List As:=(Bm 64).map (λk=>Value.bool (m.tu k))
theorem tuV_len(m:Ms):(tuV m).length=64:=by simp[tuV]
theorem tuV_at(m:Ms)(k:Nat)(hk:k<64):(tuV m)[k]?=I (Ap (m.tu k)):=by simp[tuV,hk]
theorem tu_range{w:Ac}{a:Am}{m:Ms}(h:Mem w a m):w.rangeAt a.gm 2 (tuV m):=by
 obtain⟨s,t,hC⟩:=h;exact Cells.rangeAt hC.2.2.1 2 _ (by rw[tuV_len];omega) (λj hj=>by
  rw[tuV_len] at hj;rw[tuV_at m j hj,mcell,Ae O,Ae O,An O,show 2+j -2=j by omega])
set_option maxRecDepth 100000 in
theorem turned_any(w:Ac)(a:Am)(m:Ms)(h:Mem w a m)(base:Nat)(hb:base≤↑w):At Tryz.prog 23 #[↑a.gm] w (GivesI w base (turnN m 64)):=by
 obtain⟨i0,hi0,hz0,hz1,hz2⟩:=BH info64;have hr:=tu_range h;have hix: ∀(j:Nat),j<64→ ∀w,(Instr.index 106 (AA (tuV m).toArray) (J Z (j:Int))).run Tryz.prog w=.ok (Ap (m.tu j)) w:=λj hj w=>
  Mt w _ 4 64 _ j _ _ Tryz.underlying106 hj Tryz.underlying4 rfl AI (tuV_at m j hj) Z
 have Hix:=T hix;have hinf:(Tryz.prog.info? 106).map (·.size)=I (tuV m).length:=by rw[tuV_len];kernel_rfl
 clear hix;go_in;go_wp2_with (refine wpList_load_mid rfl 106 (.tmp 8) rfl a.gm 2 rfl _ _ hr Tryz.underlying106 rfl hinf ?_);clear hr hinf;go_loopw [3,10] (λv i wr=> ∃k:Nat,k≤64∧i=J Z k∧wr.ownsRow base 3 1 v (turnN m k).length (by64 (turnN m k))∧Fr Aj w wr∧(∀b,v.ownBlock=I b→w.heap.size≤b)) (λ_ i _=>64 -(AJ i).toNat)
 case atStart=>exact⟨0,O,rfl,⟨rfl,Ag ⟨rfl,rfl⟩⟩,Ao _ _,λk hk=>Ew⟩
 case round=>
  obtain⟨k,hk,rfl,hown,fr,hat⟩:=hrel;by_cases hlt:k<64
  ·have hi:=Hix.out k hlt;have hle:=turnN_le m k;have hbs:=AS hb fr.size
   cases ho:m.tu k
   ·rw[ho] at hi;have Hs:=T (turnN_no m k ho);clear ho;generalize turnN m k=l at*;exact MC
   ·rw[ho] at hi;have Hs:=T (Uq m k ho);have hown':=CH hown (.cells #[J Z (k:Int)] 3);clear ho;generalize turnN m k=l at*;go_wp2_with
     (at_builtin
      refine Ce _ rfl (.tmp 15) (.tmp 17) _ rfl base 3 i0 _ 1 8 CV hi0 hz0 hz1 hz2 rfl O u3 l.length (by64 l) rfl hown' (wr.heap.size+1) (I ⟨wr.heap.size,0,G⟩) 1 1 [J Z (k:Int)] rfl (Cn (AH _ _ _) rfl) CL Bu O A8 ?_
      intro v1 w1 hown1 hg1 hat1)
    exact MB
  ·have e:k=64:=O;subst e;have hG:GivesI w base (turnN m 64) (Ax u3) wr:=⟨_,rfl,hown,fr,hat⟩;exact MD
def zb64:AL:=(BK 64 (Value.bool Aa)).toArray
theorem zeroB64:(Tryz.prog.info? 106).bind (·.zero)=I (AA zb64):=AI
theorem Ur(W:Ac):(zeroValue 106).run Tryz.prog W=.ok (AA zb64) W:=by
 have h:=zeroB64
 cases hi:Tryz.prog.info? 106 with
 |none=>rw[hi] at h;cases h
 |some i=>
  rw[hi] at h;have h':i.zero=I (AA zb64):=h;exact IX
set_option maxRecDepth 100000 in
theorem calm_any(w:Ac)(a:Am)(m:Ms)(h:Mem w a m):At Tryz.prog 89 #[↑a.gm] w λe w'=>e=Ax (AD #[])∧Mem w' a m.calm∧Fr a.own w w':=by
 have hM:Mem (w.setCells a.gm 2 zb64.toList) a m.calm:=by
  obtain⟨s,t,hC⟩:=h;have ff:=Fr.setRow (a:=w) (S:=(· =a.gm)) zb64.toList 2 (Ao _ w) (Ag rfl);refine⟨s,t,hC.1.fr ff (λe=>hC.neT _ (Ah rfl) e),hC.2.1.fr ff (λk hk e=>hC.neT _ (Ag hk) e),Cells.congr (Cells.setCells _ 2 hC.2.2.1) (λi hi=>?_),hC.2.2.2.turn _⟩;have hl:zb64.toList.length=64:=by simp[zb64]
  unfold putR mcell;rw[hl];by_cases e0:i=0;·rw[Ae O,An e0,An e0]
  ·by_cases e1:i=1;·rw[Ae O,Ae e0,An e1,Ae e0,An e1]
   ·by_cases e2:i<66;·rw[An O,Ae e0,Ae e1,An e2];have:i -2<64:=O;show(BK 64 (Value.bool Aa)).getD (i -2) Bt=Value.bool Aa;rw[AN,DW,An this];rfl
    ·rw[Ae O,Ae e0,Ae e1,Ae e2,Ae e0,Ae e1,Ae e2]
 have fr:Fr a.own w (w.setCells a.gm 2 zb64.toList):=Fr.setRow _ _ (Ao _ _) (Ag (Ag rfl));have hsz:zb64.size=64:=by simp[zb64]
 have hth:w.there a.gm 2 zb64.size:=by
  obtain⟨s,t,hC⟩:=h;exact Cells.there hC.2.2.1 2 zb64.size O
 have hinf:(Tryz.prog.info? 106).map (·.size)=I zb64.size:=by rw[hsz];kernel_rfl
 have hone:zb64.all (·.oneCell')=Af:=all_oneCell_toArray (λv hv=>MI);have hz:=Ur;have HM:=T hM;have FR:=T fr;clear hsz hM fr;go_in;go_wp2_with (refine wpList_store_mid rfl 106 (.tmp 5) (.tmp 3) rfl a.gm 2 zb64 rfl rfl hth hinf hone ?_);go_end0;exact Jd
end Rm
namespace Rm
open Fm Nt
def rz:AL:=([Value.pointer G,Value.pointer G]++BK 65 (Value.bool Aa)).toArray
theorem zeroM:(Tryz.prog.info? 108).bind (·.zero)=I (AA rz):=AI
theorem Ut(W:Ac):(zeroValue 108).run Tryz.prog W=.ok (AA rz) W:=by
 have h:=zeroM
 cases hi:Tryz.prog.info? 108 with
 |none=>rw[hi] at h;cases h
 |some i=>
  rw[hi] at h;have h':i.zero=I (AA rz):=h;exact IX
theorem cellsM(w:Ac)(a:Ad)(m:Ms)(hm: ∀k,m.tu k=Aa):Cells (w.alloc (.cells ((rz.setIfInBounds 0 ↑a.gp).setIfInBounds 1 ↑a.gt) 108)) ↑w 108 67 (mcell ⟨a,w.heap.size⟩ m):=by
 refine⟨_,AH _ _ _,by simp[rz],λi hi=>?_⟩;rw[Array.getElem?_setIfInBounds];unfold mcell;by_cases e1:i=1;·subst e1;simp[rz]
 ·rw[Ae (λe=>e1 e.symm),Array.getElem?_setIfInBounds];by_cases e0:i=0;·subst e0;simp[rz]
  ·rw[Ae (λe=>e0 e.symm),Ae e0,Ae e1];have hz:rz[i]?=I (Ap Aa):=by
    show(([Value.pointer G,Value.pointer G]++BK 65 (Value.bool Aa)).toArray)[i]?=_;rw[List.getElem?_toArray,CB A8,DW,An A8]
   rw[hz];split;·rw[hm]
   ·rfl
set_option maxRecDepth 100000 in
theorem new_any(w:Ac)(a:Ad)(s:Pl)(n:Nat)(o:Int)(hP:Pool w a.gp s)(hT:Tab w a (Ts.new n o))(hI:TInv s (Ts.new n o)):At Tryz.prog 32 #[↑a.gp,↑a.gt] w λe w'=>e=Ax (AD #[Bi (I ⟨↑w,0,G⟩),J Z 0])∧Mem w' ⟨a,w.heap.size⟩ (Ms.new n)∧Fr Aj w w':=by
 have hz:=Ut;have hc:=cellsM w a (Ms.new n) (λ_=>rfl);have hM:Mem (w.alloc (.cells ((rz.setIfInBounds 0 ↑a.gp).setIfInBounds 1 ↑a.gt) 108)) ⟨a,w.heap.size⟩ (Ms.new n):=⟨s,_,hP.alloc _,hT.alloc _,hc,Sees.new hI⟩;have fr:=(Ao Aj w).alloc (.cells ((rz.setIfInBounds 0 ↑a.gp).setIfInBounds 1 ↑a.gt) 108);have HM:=T hM;have FR:=T fr;clear hc hM fr;go_in
 go_wp2
 go_ret2;exact Jd
theorem sumN0:sumP Pl.new 4=0:=Ak
theorem promRN{o:Int}{n:Nat}(h0:0≤o)(h1:o<4)(hn:n≤64):promR Pl.new o n=0:=by
 unfold promR;rw[sumN0];have hb:isO o=Af:=by simp[isO,h0,h1]
 rw[Ae (by rw[hb];simp;omega),Ae (by simp[Pl.new]),Ae O]
def FreshM(w:Ac)(a:Am)(m:Ms)(w':Ac):Prop:=Mem w' a m∧(∀k,a.own k→w.heap.size≤k)∧Fr Aj w w'
theorem FreshM.fr{w w1 w2:Ac}{a:Am}{m m2:Ms}(h:FreshM w a m w1)(hM:Mem w2 a m2)(f:Fr a.own w1 w2):FreshM w a m2 w2:=
 ⟨hM,h.2.1,h.2.2.trans f (λi hi e=>by have:=h.2.1 i e;omega)⟩
section
variable {w:Ac} {a:Am} {m:Ms}
end
end Rm
namespace Bk
theorem within_any(w:Ac)(n lo hi:Int)(h0: -9223372036854775808≤n)(h1:n≤9223372036854775807)(hl0: -1000000≤lo)(hl1:lo≤hi)(hh:hi≤1000000):At Tryz.prog 6 #[J Z n,J Z lo,J Z hi] w λe w'=>e=Ax (J Z (lo+n%(hi -lo+1)))∧w=w':=by
 have hm:0<hi -lo+1:=O;by_cases hn:0≤n;·have ht:n.tmod (hi -lo+1)=n%(hi -lo+1):=Int.tmod_eq_emod_of_nonneg hn;have hb0:0≤n%(hi -lo+1):=Int.emod_nonneg _ O;have hb1:n%(hi -lo+1)<hi -lo+1:=Int.emod_lt_of_pos _ hm;clear ht;exact Cr
 ·have ht:n.tmod (hi -lo+1)= -((-n)%(hi -lo+1)):=by
   have e:n= -(-n):=O;rw[e,Int.neg_tmod,Int.tmod_eq_emod_of_nonneg O];simp
  have hb0:0≤(-n)%(hi -lo+1):=Int.emod_nonneg _ O;have hb1:(-n)%(hi -lo+1)<hi -lo+1:=Int.emod_lt_of_pos _ hm;have hfin:(-n)%(hi -lo+1)=0∧n%(hi -lo+1)=0∨0<(-n)%(hi -lo+1)∧n%(hi -lo+1)=hi -lo+1 -(-n)%(hi -lo+1):=by
   have e1:=Int.mul_ediv_add_emod (-n) (hi -lo+1);have e2:=Int.mul_ediv_add_emod n (hi -lo+1);have e3:=Int.neg_emod (a:=n) (b:=hi -lo+1);have e4:((hi -lo+1).natAbs:Int)=hi -lo+1:=O;rw[e4] at e3;by_cases hd:(hi -lo+1)∣n;·left;rw[An hd] at e3;exact⟨e3,Int.emod_eq_zero_of_dvd hd⟩
   ·right;rw[Ae hd] at e3;have:=Int.emod_nonneg n (show hi -lo+1≠0 by omega);have h5:=Int.emod_lt_of_pos n hm;exact DC
  have Hfin:=T hfin;clear hfin;generalize hg:(-n)%(hi -lo+1)=r at*;clear hg;by_cases hr:r=0
  ·subst hr;go_in
   go_wp2
   go_ret;exact⟨by have:=Hfin.out;rw[show n%(hi -lo+1)=0 by omega];simp,rfl⟩
  ·have hr':0<r:=O;have hneg: -r<0:=O;go_in
   go_wp2
   go_ret;exact⟨by have:=Hfin.out;rw[show n%(hi -lo+1)=hi -lo+1 -r by omega];simp;omega,rfl⟩
end Bk
namespace By
def str(ns:List Int):ByteArray:=ns.foldl (λr n=>r.push (UInt8.ofNat n.toNat)) ByteArray.empty
theorem run_str(w:Ac)(B:Nat)(A:Aw)(n c:Nat)(zs:List Int)(h:Reads w B 1 A n (zs.map (J AC))):(convert 31 9 (U A n c)).run Tryz.prog w=.ok (.string (str zs)) w:=by
 have hl:zs.length=n:=by have:=h.1;simpa using this
 rw[run_convert_bytes_string w 31 9 5 A n c CF Tryz.underlying5 Tryz.underlying9];rcases A with _|a
 ·have hn:n=0:=by
   rcases Dm n with h0|h0;·exact h0
   ·obtain⟨ad,e,_⟩:=h.2 h0
    cases e
  subst hn;have:zs=[]:=List.length_eq_zero_iff.1 hl;subst this;simp[Conv.bytesToString,str]
 ·refine run_bytesToString w a n c zs ?_;have:=run_loadCells_list (P:=Tryz.prog) w a (zs.map (J AC)) (by
   intro j u hu;rcases Dm n with h0|h0;·subst h0;have:zs=[]:=List.length_eq_zero_iff.1 hl;subst this;simp at hu
   ·obtain⟨ad,e,_,hc⟩:=h.2 h0;injection e with e;subst e;exact hc j u hu)
  rw[Di,hl] at this;exact this
variable{w:Ac}
theorem Jh{B n c:Nat}{A:Aw}{zs:List Int}(h:IntsAt AC w B A n zs):(convert 31 9 (U A n c)).run Tryz.prog w=.ok (.string (str zs)) w:=run_str w B A n c zs (Gz h)
def lst(z:Nat→Int)(N:Nat):List Int:=(Bm N).map z
theorem lst_len(z:Nat→Int)(N:Nat):(lst z N).length=N:=by simp[lst]
theorem lst_at(z:Nat→Int){N k:Nat}(h:k<N):(lst z N).getD k 0=z k:=by simp[lst,AN,h]
theorem cells_ints{g N:Nat}{z:Nat→Int}(h:Cells w g 5 N (λk=> J AC (z k)))(hb: ∀k,k<N→0≤z k∧z k<256):IntsAt AC w (g+1) (I ⟨g,0,G⟩) N (lst z N):=by
 refine⟨lst_len z N,λi hi=>?_,λhn=>⟨g,0,rfl,O,λi hi=>?_⟩⟩;·rw[lst_at z hi];have:=hb i hi;exact wf_u8_mk O O
 ·rw[lst_at z hi,Bn];exact h.cell i hi
theorem IntsAt.lt_{k:IntKind}{B n:Nat}{A:Aw}{zs:List Int}(h:IntsAt k w B A n zs): ∀b off,A=I ⟨b,off,G⟩→0<n→b<B:=λb off e hn=>by
 obtain⟨b',off',e',hb,_⟩:=h.2.2 hn;rw[e] at e';injection e' with e';injection e' with e1 e2;omega
end By
namespace Wk
end Wk
namespace Mu
open Fm Nt Rm By
structure Us where
 m:Ms
 l:Unit
structure Sp where
 pg:Bool
 su:Bool
 rt:Int
structure Pr where
 p:Int
 c:Int
 a:Int
 u:Us
def devB(p:Int):Bool:=decide (32768≤p)&&decide (p<33024)
def thereB(m:Ms)(p k:Int):Bool:=decide (p<(m.n:Int)*64)||(decide (k≠1)&&devB p)
def placeR(u:Us)(s:Sp)(va k:Int):Pr:=if thereB u.m va k then⟨va,0,0,u⟩ else⟨0,10,va,u⟩
structure Us.Ok(u:Us):Prop where
 n0:1≤u.m.n∧u.m.n≤64
 bd: ∀i,i<u.m.n*64→0≤u.m.mem i∧u.m.mem i<256
end Mu
namespace Mu
open Fm Nt Rm By Wk
structure Au where
 gU:Nat
 gB:Nat
 am:Am
structure Un(w:Ac)(A:Au)(u:Us):Prop where
 b:Blk w A.gU 130 #[↑A.am.gm,↑A.gB]
 M:Mem w A.am u.m
 B:A.gB<↑w∧A.gU≠A.gB
 sep: ∀k,A.am.own k→k≠A.gU∧k≠A.gB
def Au.wr(A:Au)(k:Nat):Prop:=k=A.gB∨A.am.own k
section
variable {w w':Ac} {A:Au} {u:Us} {S:AG}
theorem Un.fr0(h:Un w A u)(f:Fr Aj w w'):Un w' A u:=⟨h.b.fr f id,h.M.fr0 f,⟨AW h.B.1 f.size,h.B.2⟩,h.sep⟩
theorem Un.fr(h:Un w A u)(f:Fr S w w')(hs: ∀k,k=A.gU∨A.wr k→ ¬S k):Un w' A u:=⟨h.b.fr f (hs _ (Ag rfl)),h.M.fr f (λk hk=>hs k (Ah (Ah hk))),⟨AW h.B.1 f.size,h.B.2⟩,h.sep⟩
theorem Un.setM(h:Un w A u){m':Ms}(hM:Mem w' A.am m')(f:Fr A.am.own w w'):Un w' A ⟨m',u.l⟩:=⟨h.b.fr f (λe=>(h.sep _ e).1 rfl),hM,⟨AW h.B.1 f.size,h.B.2⟩,h.sep⟩
theorem Un.lt(h:Un w A u): ∀k,k=A.gU∨A.wr k→k<w.heap.size:=by
 rintro k (rfl|rfl|hk);·exact h.b.lt
 ·exact h.B.1
 ·exact h.M.lt k hk
theorem Un.c0(h:Un w A u):w.cell? ⟨A.gU,0,G⟩=I ↑A.am.gm:=h.b.cell 0
end
abbrev spv(s:Sp):As:=AA #[Ap s.pg,Ap s.su,J V s.rt]
abbrev trv(c a:Int):As:=AA #[J Z c,J V a]
theorem Uu(w:Ac)(p:Int)(h0:0≤p)(h1:p≤4294967295):At Tryz.prog 103 #[J V p] w λe w'=>e=Ax (Ap (devB p))∧w=w':=by
 unfold devB;by_cases a:32768≤p
 ·by_cases b:p<33024
  ·have e:(decide (32768≤p)&&decide (p<33024))=Af:=by simp[a,b]
   exact GI
  ·have e:(decide (32768≤p)&&decide (p<33024))=Aa:=by simp[b]
   have b':decide (p<33024)=Aa:=by simpa using b
   rw[e];clear e b;exact Cr
 ·have e:(decide (32768≤p)&&decide (p<33024))=Aa:=by simp[a]
  have a':decide (32768≤p)=Aa:=by simpa using a
  rw[e];clear e a;exact Cr
theorem results_tc{P:BW}{fn:Func}{p q:Tmp}{ty':AK}(h:fn.results=#[.tmp p,.cell q ty'])(tmps:AL)(w:Ac)(g':Nat)(t':AK)(cs':AL)(d':TypeDesc)(v:As)(hp:tmps.getD p Bt=v)(hq:tmps.getD q Bt=↑g')(hg':Blk w g' t' cs')(hu':P.underlying ty'=I d')(hd':(match d' with|.struct _|.array _ _=>Af|_=>Aa)=Af)(hi':(P.info? ty').map (·.size)=I cs'.size):(results fn tmps).run P w=.ok (AD #[v,AA cs']) w:=GE
theorem boxed(w:Ac)(x t:AL):Blk ((w.alloc (.cells x 189)).alloc (.cells t 185)) ↑w 189 x∧Blk ((w.alloc (.cells x 189)).alloc (.cells t 185)) (↑w+1) 185 t∧Fr Aj w ((w.alloc (.cells x 189)).alloc (.cells t 185)):=by
 refine⟨(AH w 189 x).alloc _, ?_,((Ao _ w).alloc _).alloc _⟩;have:=AH (w.alloc (.cells x 189)) 185 t;rwa[show(w.alloc (.cells x 189)).heap.size=w.heap.size+1 by simp] at this
theorem Un.drew{w:Ac}{A:Au}{u:Us}(h:Un w A u):Un w.drew A u:=⟨h.b,h.M,h.B,h.sep⟩
theorem trap_in{w w3:Ac}{A:Au}{u:Us}{g:Nat}{x0 x1:As}(b3:Blk w3 g 185 #[x0,x1])(H3:Un w3 A u)(f:Fr A.wr w w3)(hl: ∀k,k=A.gU∨A.wr k→k<w.heap.size)(hg:↑w≤g)(y0 y1:As):Blk ((w3.setCell ⟨g,0,G⟩ y0).setCell ⟨g,1,G⟩ y1) g 185 #[y0,y1]∧Un ((w3.setCell ⟨g,0,G⟩ y0).setCell ⟨g,1,G⟩ y1) A u∧Fr A.wr w ((w3.setCell ⟨g,0,G⟩ y0).setCell ⟨g,1,G⟩ y1):=by
 have f2:Fr (· =g) w3 ((w3.setCell ⟨g,0,G⟩ y0).setCell ⟨g,1,G⟩ y1):=(Bc w3 g 0 y0).setCell (p:=⟨g,1,G⟩) (Ag rfl) y1;exact⟨(b3.set_ 0 y0).set_ 1 y1,H3.fr f2 (λk hk e=>by have:=hl k hk;omega),f.trans f2 (λi hi e=>O)⟩
def PPost(w:Ac)(A:Au)(r:Pr)(e:AT)(w':Ac):Prop:=e=Ax (AD #[J V r.p,trv r.c r.a])∧Un w' A r.u∧Fr A.wr w w'
end Mu
namespace Mu
open Fm Nt Rm By Wk
def flt(k:Int):Int:=if k=1 then 7 else if k=2 then 8 else if k=3 then 9 else 0
theorem Uv(w:Ac)(k:Int)(hk:k=1∨k=2∨k=3):At Tryz.prog 101 #[J Z k] w λe w'=>e=Ax (J Z (flt k))∧w=w':=by
 rcases hk with rfl|rfl|rfl
 all_goals
  go_in
  go_wp2
  go_ret;exact⟨rfl,rfl⟩
theorem szT:(Tryz.prog.info? 185).map (·.size)=I 2:=AI
theorem turned_any(w:Ac)(A:Au)(u:Us)(h:Un w A u)(s:Sp)(hp:s.pg=Aa)(va k c a:Int)(hc:c=0)(ha:a=0):At Tryz.prog 102 #[↑A.gU,spv s,J V va,J Z k] w (PPost w A ⟨va,c,a,u⟩):=by
 subst hc ha;obtain⟨pg,su,rt⟩:=s;dsimp only at hp;subst hp;have hUlt:=h.b.lt;obtain⟨b1,b2,fx⟩:=boxed w #[Ap Aa,Ap su,J V rt] #[J Z 0,J V 0];have H:=T (h.fr0 fx);have B2:=T b2;have FX:=T fx;clear h fx b1 b2;go_in;go_wp2_with fail
 try simp only[Exit.inBlock,Exit.then]
 exact Bf (results_tc rfl _ _ (w.heap.size+1) 185 _ _ _ rfl rfl B2.out Tryz.underlying185 rfl szT) rfl ⟨rfl,H.out,FX.out.none⟩
set_option maxRecDepth 100000 in
theorem place_any(w:Ac)(A:Au)(u:Us)(h:Un w A u)(s:Sp)(hp:s.pg=Aa)(va k:Int)(v0:0≤va)(v1:va≤4294967295)(hk:k=1∨k=2∨k=3):At Tryz.prog 84 #[↑A.gU,spv s,J V va,J Z k] w (PPost w A (placeR u s va k)):=by
 have hl:=h.lt;obtain⟨b1,b2,fx⟩:=boxed w #[Ap s.pg,Ap s.su,J V s.rt] #[J Z 0,J V 0];have b3:=Cc ((w.alloc (.cells #[Ap s.pg,Ap s.su,J V s.rt] 189)).alloc (.cells #[J Z 0,J V 0] 185)) 185 #[J Z 10,J V va] (n:=w.heap.size+2) AB;have b1:=b1.alloc (.cells #[J Z 10,J V va] 185);have b2:=b2.alloc (.cells #[J Z 10,J V va] 185);have fx:=fx.alloc (.cells #[J Z 10,J V va] 185);generalize hw1:((w.alloc (.cells #[Ap s.pg,Ap s.su,J V s.rt] 189)).alloc (.cells #[J Z 0,J V 0] 185)).alloc (.cells #[J Z 10,J V va] 185)=w1 at*;have H1:=T (h.fr0 fx);have B2:=T b2;have B3:=T b3;have FX:=T fx;have HF:=T (λW=>Uv W k hk);have hs1:w1.heap.size=w.heap.size+3:=by rw[←hw1];simp
 have s0:w1.cell? ⟨↑w,0,G⟩=I (Ap s.pg):=b1.cell 0;have s1:w1.cell? ⟨↑w,1,G⟩=I (Ap s.su):=b1.cell 1;have s2:w1.cell? ⟨↑w,2,G⟩=I (J V s.rt):=b1.cell 2;have e0:=b3.cell 0;have e1:=b3.cell 1;have e2:=b2.cell 0;have e3:=b2.cell 1;have e4:=b2.frozen 0;have e5:=b2.frozen 1;simp only[List.getElem?_toArray,List.getElem?_cons_succ,List.getElem?_cons_zero] at e0 e1 e2 e3;obtain⟨res,hres⟩:=Az (placeR u s va k);rw[hres];have HRES:=T hres;have HL:=T h;clear hres h b1 b2 b3 fx;have hf0:(flt k==0)=Aa:=by rcases hk with rfl|rfl|rfl<;>decide
 obtain⟨c,hc⟩: ∃c:Int,c=0:=⟨_,rfl⟩;obtain⟨a,ha⟩: ∃a:Int,a=0:=⟨_,rfl⟩;have Htn:=T (turned_any w1 A u H1.out s hp va k c a hc ha);have HCA:=T (A9 hc ha);clear hc ha;have Hr1:Hid (res=if thereB u.m va k then⟨va,0,0,u⟩ else⟨0,10,va,u⟩):=T (by rw[←HRES.out];rfl);clear hk HRES hp;generalize flt k=fk at*;go_in;go_wp2_with fail;refine(HF.out _).mono ?_;rintro e w' ⟨rfl,rfl⟩;go_wp2_with fail;refine Ay Htn ?_;rintro e w2 ⟨rfl,hU2,f2⟩;dsimp only at hU2⊢;have f2x:=FX.out.none.trans f2 (S:=A.wr) (λi hi e=>e);have g2:=B2.out.fr f2 (λe=>by have:=hl _ (Ah e);omega);have g3:=B3.out.fr f2 (λe=>by have:=hl _ (Ah e);omega);have hs2:=f2.size;have fy:Fr Aj w2 (w2.alloc (.cells #[J Z c,J V a] 185)):=(Ao _ _).alloc _;have b4:=AH w2 185 #[J Z c,J V a];have H3:=hU2.fr0 fy;have g2:=g2.fr fy id;have g3:=g3.fr fy id;have F3:=f2x.tr fy.none;generalize hw3:w2.alloc (.cells #[J Z c,J V a] 185)=w3 at*;have hs3:w3.heap.size=w2.heap.size+1:=by rw[←hw3];simp
 clear e0 e1 e2 e3 e4 e5 s0 s1 s2 f2 f2x fy hU2;have e0:=g3.cell 0;have e1:=g3.cell 1;have e2:=g2.cell 0;have e3:=g2.cell 1;have e4:=g2.frozen 0;have e5:=g2.frozen 1;have x0:=b4.cell 0;have x1:=b4.cell 1;have hU0:=H3.c0;simp only[List.getElem?_toArray,List.getElem?_cons_succ,List.getElem?_cons_zero] at e0 e1 e2 e3 x0 x1;have HEnd:Hid (∀y0 y1,Blk ((w3.drew.setCell ⟨↑w+1,0,G⟩ y0).setCell ⟨↑w+1,1,G⟩ y1) (↑w+1) 185 #[y0,y1]∧Un ((w3.drew.setCell ⟨↑w+1,0,G⟩ y0).setCell ⟨↑w+1,1,G⟩ y1) A u∧Fr A.wr w ((w3.drew.setCell ⟨↑w+1,0,G⟩ y0).setCell ⟨↑w+1,1,G⟩ y1)):=T (λy0 y1=>trap_in g2.drew H3.drew F3.drew hl (Nat.le_succ _) y0 y1);have HS:=T (size_any w3 A.am u.m H3.M);have hnn:=H3.M.n0;have HDv:=T (λW=>Uu W va v0 v1);clear g2 g3 b4 H3 F3;go_upto_region 5 with(fail);obtain⟨rfl,rfl⟩:=HCA.out;unfold thereB at Hr1;by_cases hp:va<(u.m.n:Int)*64
 ·obtain rfl:res=⟨va,0,0,u⟩:=by rw[Hr1.out,An (by simp[hp])]
  go_wp2_with fail;refine Ay HS ?_;exact Nc
 ·by_cases hk1:k=1
  ·subst hk1;obtain rfl:res=⟨0,10,va,u⟩:=by rw[Hr1.out,Ae (by simp[hp])]
   have hp':=Nd;clear hp;go_wp2_with fail;refine Ay HS ?_;exact Nf
  ·have hk1':(k !=1)=Af:=by simpa using hk1
   have hp':=Nd
   cases hd:devB va
   ·obtain rfl:res=⟨0,10,va,u⟩:=by rw[Hr1.out,Ae (by simp[hp,hd])]
    rw[hd] at HDv;clear hp hk1 hd;go_wp2_with fail;refine Ay HS ?_;rintro e w' ⟨rfl,rfl⟩;go_wp2_with fail;refine(HDv.out _).mono ?_;exact Nf
   ·obtain rfl:res=⟨va,0,0,u⟩:=by rw[Hr1.out,An (by simp[hk1,hd])]
    rw[hd] at HDv;clear hp hk1 hd;go_wp2_with fail;refine Ay HS ?_;rintro e w' ⟨rfl,rfl⟩;go_wp2_with fail;refine(HDv.out _).mono ?_;exact Nc
end Mu
namespace Mu
open Fm Nt Rm By Wk
theorem Un.ok{w:Ac}{A:Au}{u:Us}(h:Un w A u):u.Ok:=⟨h.M.n0,h.M.bd⟩
section
variable {u:Us} {s:Sp} {va k n v:Int}
theorem place_u:(placeR u s va k).u=u:=by unfold placeR;split<;>rfl
end
end Mu
namespace Mu
open Fm Nt Rm By Wk
def noL:Unit:=()
theorem tlb_any(w:Ac):At Tryz.prog 54 #[] w λe w'=>e=Ax (Bi (I ⟨↑w,0,G⟩))∧w.heap.size<w'.heap.size∧Fr Aj w w':=by
 go_in
 go_wp2
 go_ret;exact⟨rfl,AB,(Ao _ _).alloc _⟩
theorem unew_any(w:Ac)(am:Am)(m:Ms)(hM:Mem w am m):At Tryz.prog 35 #[↑am.gm] w λe w'=> ∃A:Au,e=Ax (AD #[↑A.gU,J Z 0])∧A.am=am∧Un w' A ⟨m,noL⟩∧↑w≤A.gU∧↑w≤A.gB∧Fr Aj w w':=by
 have HM:=T hM;have Hlt:=T hM.lt;clear hM;go_in;go_wp2_with fail;refine(tlb_any w).mono ?_;rintro e w1 ⟨rfl,hB,f1⟩;have hs1:=f1.size;have hBl:=hB;have f2:Fr Aj w1 (w1.alloc (.cells #[↑am.gm,Bi (I ⟨↑w,0,G⟩)] 130)):=(Ao _ _).alloc _;have HX:Hid (∃A:Au,(⟨↑w1,w.heap.size,am⟩:Au)=A∧A.am=am∧Un (w1.alloc (.cells #[↑am.gm,Bi (I ⟨↑w,0,G⟩)] 130)) A ⟨m,noL⟩∧↑w≤A.gU∧↑w≤A.gB∧Fr Aj w (w1.alloc (.cells #[↑am.gm,Bi (I ⟨↑w,0,G⟩)] 130))):=T
  ⟨_,rfl,rfl,⟨AH _ _ _,HM.out.fr0 (f1.tr f2),⟨AW hB f2.size,by show w1.heap.size≠w.heap.size;omega⟩,λk hk=>by have:=Hlt.out k hk;exact⟨by show k≠w1.heap.size;omega,by show k≠w.heap.size;omega⟩⟩,hs1,AE _,f1.tr f2⟩
 clear hB f1 f2
 go_wp2
 go_ret2;obtain⟨A,rfl,h⟩:=HX.out;exact⟨_,rfl,h⟩
theorem memory_t(w:Ac)(A:Au)(u:Us)(h:Un w A u):At Tryz.prog 85 #[↑A.gU] w λe w'=>e=Ax ↑A.am.gm∧w=w':=by
 have c0:=h.c0;exact Cr
section
variable {u:Us} {s:Sp} {va k n v:Int}
end
def TuOk(m:Ms):Prop:= ∀k,m.n≤k→k<64→m.tu k=Aa
theorem tu_place{u:Us}{s:Sp}{va k:Int}(h:TuOk u.m):TuOk (placeR u s va k).u.m:=by rw[place_u];exact h
end Mu
namespace Bk
open Fm
theorem own_ints{k:IntKind}{w:Ac}{base n:Nat}{e:AK}{A:Aw}{c:Nat}{l:List Int}(h:w.ownsRow base e 1 (U A n c) n (l.map (J k)))(hw: ∀z∈l,(C9 k z).wf=Af):IntsAt k w ↑w A n l:=by
 have hr:=Reads.of_own h;have hl:l.length=n:=by simpa using hr.1
 refine⟨hl,λi hi=>?_,λhn=>?_⟩;·have e:l.getD i 0=l[i]' O:=Ng;rw[e];exact hw _ (BU _)
 ·obtain⟨ad,e,hb,hc⟩:=hr.2 hn;have h0:=hc 0 (J k (l.getD 0 0)) (by simp[show 0<l.length by omega]);obtain⟨b,off,spot⟩:=ad;have hspot:spot=G:=by simpa[Addr.add] using World.cell?_spot h0
  subst hspot;refine⟨b,off,e,hb,λi hi=>?_⟩;have:=hc i (J k (l.getD i 0)) Ng;rw[←this];exact I9
end Bk
namespace By
end By
namespace Rm
open Fm Nt
def Born(w:Ac)(a:Ad)(n:Nat)(o:Int)(w2:Ac):Prop:= ∃s,Pool w2 a.gp s∧Tab w2 a (Ts.new n o)∧TInv s (Ts.new n o)∧(∀k,a.own k∨k=a.gp→w.heap.size≤k)∧Fr Aj w w2
theorem born{w w1 w2:Ac}{a:Ad}{n:Nat}{o:Int}(h0:0≤o)(h1:o<4)(hn0:1≤n)(hn1:n≤64)(ha:a.gp=↑w)(hT:Tab w2 a (Ts.new n o))(hP:Pool w2 ↑w (Pl.new.promise o n))(hbl: ∀k,a.own k→w1.heap.size≤k)(f1:Fr Aj w w1)(f2:Fr (· =w.heap.size) w1 w2):Born w a n o w2:=
 ⟨_,by rw[ha];exact hP,hT,TInv.new h0 h1 hn0 hn1 PInv.new rfl (promRN h0 h1 hn1),λk hk=>by
  rcases hk with hk|hk;·have:=hbl k hk;have:=f1.size;omega
  ·omega,f1.trans f2 (λi hi e=>O)⟩
theorem born_mem{w w2 w3:Ac}{a:Ad}{n:Nat}{o:Int}(h:Born w a n o w2)(hM:Mem w3 ⟨a,w2.heap.size⟩ (Ms.new n))(f:Fr Aj w2 w3):FreshM w ⟨a,w2.heap.size⟩ (Ms.new n) w3:=by
 obtain⟨s,_,_,_,hb,f2⟩:=h;refine⟨hM,λk hk=>?_,f2.tr f⟩;rcases hk with rfl|hk|hk;·exact f2.size
 ·exact hb k (Ag hk)
 ·exact hb k (Ah hk)
end Rm
theorem GL{P:BW}{w:Ac}{ops:Array Oper}{rest:List Oper}{o:Oper}{a:Act}{Q:Exit→Act→Ac→Prop}(hgd:o.guard=G)(d s:Operand)(dT sT:AK)(ho:o.op=.call {callee:=.builtin .copy,args:=#[d,s],argTypes:=#[dT,sT]})(elem:AK)(hu:P.underlying dT=I (.slice elem))(hsz:(P.info? elem).map (·.size)=I 1)(g off dLen dCap:Nat)(A:Aw)(sLen sCap:Nat)(hd:a.eval d=.slice (I ⟨g,off,G⟩) dLen dCap)(hs:a.eval s=.slice A sLen sCap)(t:AK)(N:Nat)(f:Nat→As)(hC:Cells w g t N f)(k:IntKind)(B n:Nat)(zs:List Int)(hn:n=min sLen dLen)(hz:IntsAt k w B A n zs)(hfit:off+n≤N)(h: ∀w',Cells w' g t N (putR f off (zs.map (J k)))→Fr (· =g) w w'→BL P ops Q rest (a.put o.dst (goInt n)) w'):BL P ops Q (o::rest) a w:=by
 have hr:=Gz hz;have hlz:zs.length=n:=hz.1;by_cases h0:n=0;·refine wpList_copy_nothing hgd d s dT sT ho elem hu hsz _ _ dLen dCap sLen sCap hd hs (by show min sLen dLen=0;omega) ?_;exact Nh
 ·obtain⟨ad,rfl,_,hsrc⟩:=hr.2 O;obtain⟨cs,hb,hsize,hat⟩:=hC;have hl:=Ni;refine wpList_copy_own hgd d s dT sT ho elem hu hsz g off dLen dCap ad sLen sCap hd hs cs t hb (zs.map (J k)) (by rw[hl];exact hn) hsrc FC DR ?_;rw[hl];refine h _ ⟨_,setRow_heap w g cs _ t (0,0) hb,A8,λi hi=>?_⟩ ⟨rfl,rfl,rfl,by simp[World.setRow],λj _ hj=>setRow_other w g j _ hj⟩;have hti:=Nj;have hcs:=Nk;rw[List.getElem?_toArray];exact Nl
theorem Nm{P:BW}{w:Ac}{ops:Array Oper}{o:Oper}{a:Act}{K:Act→Ac→Prop}{Q:Exit→Act→Ac→Prop}{E:Prop}(hgd:o.guard=G)(d s:Operand)(dT sT:AK)(ho:o.op=.call {callee:=.builtin .copy,args:=#[d,s],argTypes:=#[dT,sT]})(elem:AK)(hu:P.underlying dT=I (.slice elem))(hsz:(P.info? elem).map (·.size)=I 1)(g off dLen dCap:Nat)(A:Aw)(sLen sCap:Nat)(hd:a.eval d=.slice (I ⟨g,off,G⟩) dLen dCap)(hs:a.eval s=.slice A sLen sCap)(t:AK)(N:Nat)(f:Nat→As)(hC:Cells w g t N f)(k:IntKind)(B n:Nat)(zs:List Int)(hn:n=min sLen dLen)(hz:IntsAt k w B A n zs)(hfit:off+n≤N)(h: ∀w',Cells w' g t N (putR f off (zs.map (J k)))→Fr (· =g) w w'→K (a.put o.dst (goInt n)) w'):if CA o (yielded ops a.tmps)=Af then Oper.wp P o a w K Q else E:=by
 have hw:=Ll;rw[An hw];have hr:=Gz hz;have hlz:zs.length=n:=hz.1;by_cases h0:n=0;·have hrun:=run_copy_none (P:=P) w dT sT o.type elem (I ⟨g,off,G⟩) A dLen dCap sLen sCap hu hsz (by show min sLen dLen=0;omega);unfold Oper.wp;simp[execOp,ho,resolve,invoke,builtin,hd,hs,hrun,CT];exact Nh
 ·obtain⟨ad,rfl,_,hsrc⟩:=hr.2 O;obtain⟨cs,hb,hsize,hat⟩:=hC;have hl:=Ni;have hrun:=run_copy_row (P:=P) w dT sT o.type elem g off dLen dCap ad sLen sCap cs t (zs.map (J k)) hu hsz hb (by rw[hl];exact hn) hsrc FC DR;unfold Oper.wp;simp only[execOp,ho,resolve,invoke,builtin,D5,Sem.run_pure,Result.andThen_ok,List.map_toArray,D6,List.map_nil,hd,hs,hrun];rw[hl];refine h _ ⟨_,setRow_heap w g cs _ t (0,0) hb,A8,λi hi=>?_⟩ ⟨rfl,rfl,rfl,by simp[World.setRow],λj _ hj=>setRow_other w g j _ hj⟩;have hti:=Nj;have hcs:=Nk;rw[List.getElem?_toArray,BM];exact Nl
namespace Dr
open Fm Nt Rm By
structure Drv(w:Ac)(gd gb:Nat)(d:Nat→Int):Prop where
 b:Blk w gd 167 #[U (I ⟨gb,0,G⟩) 1024 1024]
 c:Cells w gb 5 1024 (λi=> J AC (d i))
 bd: ∀i,i<1024→0≤d i∧d i<256
variable{w:Ac}{gd gb:Nat}{d:Nat→Int}
theorem Drv.fr{w':Ac}{S:AG}(h:Drv w gd gb d)(f:Fr S w w')(h1: ¬S gd)(h2: ¬S gb):Drv w' gd gb d:=⟨h.b.fr f h1,h.c.fr f h2,h.bd⟩
theorem Drv.lt(h:Drv w gd gb d):gd<↑w∧gb<↑w:=⟨h.b.lt,h.c.lt⟩
theorem Drv.ne(h:Drv w gd gb d):gd≠gb:=by
 obtain⟨cs,hcs,_⟩:=h.c;exact Blk.ne_ h.b hcs Ak
def dinit(zs:List Int)(i:Nat):Int:=if i<zs.length then zs.getD i 0 else 0
theorem szU:(Tryz.prog.info? 5).map (·.size)=I 1:=by
 obtain⟨i0,hi0,hz0,hz1,hz2⟩:=BH infoU8;rw[hi0];simp[hz1]
def NewD(w:Ac)(zs:List Int)(e:AT)(w':Ac):Prop:= ∃gd gb,e=Ax (AD #[Bi (I ⟨gd,0,G⟩),J Z 0])∧Drv w' gd gb (dinit zs)∧w.heap.size≤gd∧w.heap.size≤gb∧Fr Aj w w'
set_option maxRecDepth 100000 in
theorem new_any(w:Ac)(A:Aw)(len cap:Nat)(zs:List Int)(hz:IntsAt AC w ↑w A len zs)(hl:len≤1024):At Tryz.prog 50 #[U A len cap] w (NewD w zs):=by
 have hmk: ∀W,(Dj 31 (J .i64 1024) (J .i64 1024)).run Tryz.prog W=.ok (U (I ⟨↑W,0,G⟩) 1024 1024) (W.alloc (.cells (zU 1024) 5)):=λW=>Jg Z 1024 O W;have hc0:=(cellsU w 1024 rfl).alloc (.cells #[U (I ⟨↑w,0,G⟩) 1024 1024] 167);have hb0:=AH (w.alloc (.cells (zU 1024) 5)) 167 #[U (I ⟨↑w,0,G⟩) 1024 1024];have f0:=((Ao Aj w).alloc (.cells (zU 1024) 5)).alloc (.cells #[U (I ⟨↑w,0,G⟩) 1024 1024] 167);have hz0:=hz.fr f0 (AE _) (λ_ _ e=>e);have hlz:=T hz.1;have HC0:=T hc0;have HB0:=T hb0;have HF0:=T f0;have HZ0:=T hz0;have hsz:=szU;clear hc0 hb0 f0 hz0;go_in;go_wp2_with
  (refine GL rfl (.tmp 14) (.tmp 15) 31 31 rfl 5 CF hsz w.heap.size 0 1024 1024 A len cap rfl rfl 5 1024 _ HC0.out AC w.heap.size len zs O HZ0.out O ?_
   intro w2 hc2 f2)
 have hfin:NewD w zs (Ax (AD #[Bi (I ⟨↑w+1,0,G⟩),J Z 0])) w2:=by
  have hbb:=HB0.out;rw[show(w.alloc (.cells (zU 1024) 5)).heap.size=w.heap.size+1 by simp] at hbb;refine⟨↑w+1,w.heap.size,rfl,⟨hbb.fr f2 O,Cells.congr hc2 (λi hi=>?_),λi hi=>?_⟩,O,O,HF0.out.trans f2 (λi hi e=>O)⟩
  ·unfold putR dinit;rw[Di,hlz.out];by_cases h:i<len;·rw[An O,An h,Nat.sub_zero];have:=hlz.out;simp[AN,show i<zs.length by omega]
   ·rw[Ae O,Ae h]
  ·unfold dinit;split
   ·rename_i h
    have:=wf_u8 (hz.2.1 i (by rw[hlz.out] at h;exact h));omega
   ·omega
 have HFN:=T hfin;clear hfin hc2
 go_wp2
 go_ret2;exact HFN.out
end Dr
namespace Dr
open Fm Nt Rm By
def doB(m:Ms)(s at_ c:Int):Bool:=decide (s<16∧at_%64=0∧at_<(m.n:Int)*64∧(c=1∨c=2))
def sect(d:Nat→Int)(s:Nat):List Int:=lst (λk=>d (s*64+k)) 64
def doD(d:Nat→Int)(m:Ms)(s at_ c:Int):Nat→Int:=if doB m s at_ c=Af∧c=2 then λi=>if s.toNat*64≤i∧i<s.toNat*64+64 then m.mem (at_.toNat+(i -s.toNat*64)) else d i else d
def doM(d:Nat→Int)(m:Ms)(s at_ c:Int):Ms:=if doB m s at_ c=Af∧c=1 then m.puts at_.toNat (sect d s.toNat) 64 else m
theorem run_sect(gb s:Nat)(hs:s<16)(W:Ac):(Instr.slice 31 (U (I ⟨gb,0,G⟩) 1024 1024) (I (J V ((s:Int)*64))) (I (J V (((s:Int)+1)*64))) G).run Tryz.prog W=.ok (U (I ⟨gb,s*64,G⟩) 64 (1024 -s*64)) W:=by
 obtain⟨i0,hi0,hz0,hz1,hz2⟩:=BH infoU8;have he:Tryz.prog.elem 31=5:=AI;rw[run_slice_lh W 31 (I ⟨gb,0,G⟩) 1024 1024 (by rw[he];exact CF) V V ((s:Int)*64) (((s:Int)+1)*64) O O O];have e1:((s:Int)*64).toNat=s*64:=O;have e2:(((s:Int)+1)*64).toNat=s*64+64:=O;have e3: ¬(1024=s*64):=O;have e4:s*64+64 -s*64=64:=O;simp[sizeOf,typeInfo,he,hi0,hz1,CT,sliced,e1,e2,e3,e4,Addr.add];intro h;omega
set_option maxRecDepth 100000 in
theorem do_any(w:Ac)(gd gb:Nat)(d:Nat→Int)(a:Am)(m:Ms)(hD:Drv w gd gb d)(hM:Mem w a m)(hdis: ∀k,a.own k→k≠gd∧k≠gb)(s at_ c:Int)(s0:0≤s)(s1:s≤4294967295)(a0:0≤at_)(a1:at_≤4294967295)(c0:0≤c)(c1:c≤4294967295):At Tryz.prog 239 #[↑gd,↑a.gm,J V s,J V at_,J V c] w λe w'=>e=Ax (Ap (doB m s at_ c))∧Drv w' gd gb (doD d m s at_ c)∧Mem w' a (doM d m s at_ c)∧Fr (λk=>k=gb∨a.own k) w w':=by
 have hsz:=T (size_any w a m hM);have hn:=hM.n0;have cb:=hD.b.cell 0;by_cases hs:s<16
 ·by_cases ha:at_%64=0
  ·by_cases hr:at_<(m.n:Int)*64
   ·obtain⟨k,rfl⟩: ∃k:Nat,s=k:=⟨s.toNat,O⟩;obtain⟨p,hp⟩: ∃p:Nat,at_/64=p:=⟨(at_/64).toNat,O⟩;have hap:at_=(p:Int)*64:=O;have hat:at_.toNat=p*64:=O;have hsl:=λW=>run_sect gb k O W;have hp1:p<m.n:=O;have hr1: ¬(m.n:Int)*64≤at_:=O;by_cases hc1:c=1
    ·subst hc1;have hb:doB m k at_ 1=Af:=by simp[doB,hs,ha,hr]
     have eD:doD d m k at_ 1=d:=by rw[doD,Ae (by omega)]
     have eM:doM d m k at_ 1=m.puts (p*64) (sect d k) 64:=by rw[doM,An ⟨hb,rfl⟩,hat];rfl
     rw[hb,eD,eM];have hI:IntsAt AC w ↑w (I ⟨gb,k*64,G⟩) 64 (sect d k):=by
      refine⟨lst_len _ _,λi hi=>?_,λ_=>⟨gb,k*64,rfl,hD.lt.2,λi hi=>?_⟩⟩;·rw[sect,lst_at _ hi];have:=hD.bd (k*64+i) O;exact wf_u8_mk O O
      ·rw[sect,lst_at _ hi];exact hD.c.cell (k*64+i) O
     have hpp:=Up w a m hM (p:Int) (I ⟨gb,k*64,G⟩) 64 (1024 -k*64) ↑w (sect d k) hI (AE _) (λ_ b off e ho=>by
      injection e with e;injection e with e1 e2;have:=(hdis b ho).2;omega) DT
     have hpg:pgB m p 64=Af:=by simp[pgB,hp1]
     have epp:m.putP p (sect d k)=m.puts (p*64) (sect d k) 64:=by rw[Ms.putP,sect,lst_len,An hpg];rfl
     rw[hpg,epp,←hp] at hpp;have Hpp:=T hpp;have hdg:=T hdis;clear hpp hI hb eD eM hpg epp hap hat hr hp;go_in;go_wp2_with fail;refine Ay hsz ?_;rintro e w' ⟨rfl,rfl⟩;go_wp2_with fail;refine Ay Hpp ?_;rintro e w2 ⟨rfl,hM2,f2⟩;have hD2:=hD.fr f2 (λe=>(hdg.out _ e).1 rfl) (λe=>(hdg.out _ e).2 rfl);have fr2:Fr (λk=>k=gb∨a.own k) w w2:=f2.mono (λ_ _ e=> Ah e)
     go_wp2
     go_ret;exact⟨rfl,hD2,hM2,fr2⟩
    ·by_cases hc2:c=2
     ·subst hc2;have hb:doB m k at_ 2=Af:=by simp[doB,hs,ha,hr]
      have eD:doD d m k at_ 2=λi=>if k*64≤i∧i<k*64+64 then m.mem (p*64+(i -k*64)) else d i:=by rw[doD,An ⟨hb,rfl⟩,hat];rfl
      have eM:doM d m k at_ 2=m:=by rw[doM,Ae (by omega)]
      rw[hb,eD,eM];have hpg:=page_in w a m hM (p:Int) O O;rw[←hp,show(at_/64).toNat=p by omega] at hpg;have Hpg:=T hpg;have hbd:=hM.bd;have Hbd:=T (λi (hi:i<64)=>hbd (p*64+i) O);have hszU:=szU;clear hpg hb eD eM hap hat hr hp hbd hc1;go_in;go_wp2_with fail;refine Ay hsz ?_;rintro e w' ⟨rfl,rfl⟩;go_wp2_with fail;refine Ay Hpg ?_;rintro e w2 ⟨rfl,hc2,f2⟩;have hD2:=hD.fr f2 id id;have hM2:=hM.fr0 f2;have hI:=cells_ints hc2 Hbd.out;have HI:=T hI;have HC:=T hD2.c;clear hc2 hI;go_wp2_with
       (refine GL rfl (.tmp 60) (.tmp 61) 31 31 rfl 5 CF hszU gb (k*64) 64 (1024 -k*64) (I ⟨w.heap.size,0,G⟩) 64 64 rfl rfl 5 1024 _ HC.out AC (w.heap.size+1) 64 _ rfl HI.out O ?_
        intro w3 hc3 f3)
      have hD3:Drv w3 gd gb (λi=>if k*64≤i∧i<k*64+64 then m.mem (p*64+(i -k*64)) else d i):=⟨hD2.b.fr f3 (λe=>hD2.ne e),Cells.congr hc3 (λi hi=>by
       unfold putR;rw[Di,lst_len];by_cases h:k*64≤i∧i<k*64+64;·rw[An h,An h];have h64:i -k*64<64:=O;simp[lst,AN,h64]
       ·rw[Ae h,Ae h]),λi hi=>by
       split;·exact Hbd.out _ O
       ·exact hD.bd i hi⟩
      have hM3:=hM2.fr f3 (λj hj e=>(hdis j hj).2 e);have fr3:Fr (λk=>k=gb∨a.own k) w w3:=(f2.none).tr (f3.mono (λ_ _ e=> Ag e));have HD3:=T hD3;clear hD3 hc3
      go_wp2
      go_ret;exact⟨rfl,HD3.out,hM3,fr3⟩
     ·have hb:doB m k at_ c=Aa:=by simp[doB,hc1,hc2]
      have eD:doD d m k at_ c=d:=by rw[doD,Ae (by rw[hb];simp)]
      have eM:doM d m k at_ c=m:=by rw[doM,Ae (by rw[hb];simp)]
      rw[hb,eD,eM];have q1:(c==1)=Aa:=by simpa using hc1
      have q2:(c==2)=Aa:=by simpa using hc2
      clear hb eD eM hap hat hr hp hc1 hc2;exact Nn
   ·have hb:doB m s at_ c=Aa:=by simp[doB,hr]
    have eD:=Ji;have eM:=Jj;rw[hb,eD,eM];have hr1:(m.n:Int)*64≤at_:=O;have hs1: ¬16≤s:=O;clear hb eD eM hr;exact Nn
  ·have hb:doB m s at_ c=Aa:=by simp[doB,ha]
   have eD:=Ji;have eM:=Jj;rw[hb,eD,eM];have q1:(at_%64==0)=Aa:=by simpa using ha
   have q2:(at_%64 !=0)=Af:=by simpa using ha
   clear hb eD eM ha;exact Np
 ·have hb:doB m s at_ c=Aa:=by simp[doB,hs]
  have eD:=Ji;have eM:=Jj;rw[hb,eD,eM];have hs1:16≤s:=O;clear hb eD eM hs;exact Np
end Dr
namespace Tm
def Tmr(w:Ac)(g:Nat)(a:Int):Prop:=Blk w g 169 #[J V a]
theorem Tmr.fr{w w':Ac}{g:Nat}{a:Int}{S:AG}(h:Tmr w g a)(f:Fr S w w')(hn: ¬S g):Tmr w' g a:=Blk.fr h f hn
theorem Tmr.lt{w:Ac}{g:Nat}{a:Int}(h:Tmr w g a):g<↑w:=Blk.lt h
theorem new_any(w:Ac):At Tryz.prog 52 #[] w λe w'=>e=Ax (Bi (I ⟨↑w,0,G⟩))∧Tmr w' ↑w 0∧Fr Aj w w':=Nq
theorem set_any(w:Ac)(g:Nat)(a x:Int)(h:Tmr w g a):At Tryz.prog 237 #[↑g,J V x] w λe w'=>e=Ax (AD #[])∧Tmr w' g x∧Fr (· =g) w w':=by
 have c:=Blk.cell h 0;have f:=Blk.frozen h 0;exact Nr
def dueB(a n:Int):Bool:=(a !=0)&&decide (a≤n%4294967296)
def dueAt(a n:Int):Int:=if dueB a n then 0 else a
theorem due_any(w:Ac)(g:Nat)(a n:Int)(h:Tmr w g a):At Tryz.prog 99 #[↑g,J AM n] w λe w'=>e=Ax (Ap (dueB a n))∧Tmr w' g (dueAt a n)∧Fr (· =g) w w':=by
 have c:=Blk.cell h 0;have f:=Blk.frozen h 0;by_cases ha:a=0
 ·have hd:dueB a n=Aa:=by simp[dueB,ha]
  have hs:dueAt a n=a:=by simp[dueAt,hd]
  rw[hd,hs];subst ha;exact Ns
 ·by_cases hl:n%4294967296<a
  ·have hd:dueB a n=Aa:=by simp[dueB];omega
   have hs:dueAt a n=a:=by simp[dueAt,hd]
   rw[hd,hs];exact Ns
  ·have hd:dueB a n=Af:=by simp[dueB];omega
   have hs:dueAt a n=0:=by simp[dueAt,hd]
   rw[hd,hs];clear hd hs;go_in
   go_wp2
   go_ret;exact Nu
end Tm
namespace Iq
def tab:List Int:=[0,1,28,2,29,14,24,3,30,22,20,15,25,17,4,8,31,27,13,23,21,19,16,7,26,12,18,6,11,5,10,9]
def Tab(w:Ac):Prop:=0<w.heap.size∧ ∀i,i<32→w.cell? ⟨0,i,G⟩=I (J AC (tab.getD i 0))
variable{w:Ac}
theorem Tab.fr{w':Ac}{S:AG}(h:Tab w)(f:Fr S w w')(hn: ¬S 0):Tab w':=⟨AW h.1 f.size,λi hi=>f.cell (h.2 i hi) h.1 hn⟩
def low(n:Nat):Nat:=((Bm 8).find? (λi=>n.testBit i)).getD 0
theorem low_tab: ∀x,x<256→0<x→tab.getD ((x&&&(4294967296 -x))*125613361%4294967296/134217728) 0=(low x:Int):=by decide+kernel
theorem tz_any(w:Ac)(x:Nat)(hT:Tab w)(h0:0<x)(h1:x<256):At Tryz.prog 100 #[J V x] w λe w'=>e=Ax (J Z (low x))∧w=w':=by
 have hx0:((x:Int)==0)=Aa:=A8;obtain⟨L,hL,hc⟩: ∃L:Nat,Bb .and V (x:Int) (-(x:Int)%4294967296)=(L:Int)∧w.cell? ⟨0,L*125613361%4294967296/134217728,G⟩=I (J AC (low x)):=by
  have e:(-(x:Int)%4294967296)=((4294967296 -x:Nat):Int):=O;refine⟨x&&&(4294967296 -x), ?_, ?_⟩;·rw[e];exact u32_and_nat _ _ O O
  ·rw[hT.2 _ O,low_tab x h1 h0]
 have hlo:(low x:Int)≤8:=by
  have: ∀x,x<256→low x≤8:=by decide+kernel
  have:=this x h1;omega
 clear hT;generalize low x=lx at*;exact Cr
def Ctl(w:Ac)(g p m:Nat):Prop:=Blk w g 77 #[J V (p:Int),J V (m:Int)]
theorem Ctl.fr{w':Ac}{g p m:Nat}{S:AG}(h:Ctl w g p m)(f:Fr S w w')(hn: ¬S g):Ctl w' g p m:=Blk.fr h f hn
theorem Ctl.lt{g p m:Nat}(h:Ctl w g p m):g<↑w:=Blk.lt h
theorem new_any(w:Ac):At Tryz.prog 51 #[] w λe w'=>e=Ax (Bi (I ⟨↑w,0,G⟩))∧Ctl w' ↑w 0 0∧Fr Aj w w':=Nq
theorem setMask_any(w:Ac)(g p m b:Nat)(h:Ctl w g p m)(hb:b<4294967296):At Tryz.prog 236 #[↑g,J V (b:Int)] w λe w'=>e=Ax (AD #[])∧Ctl w' g p (b%256)∧Fr (· =g) w w':=by
 have c:=Blk.cell h 1;have f:=Blk.frozen h 1;have hm:Bb .and V (b:Int) 255=((b%256:Nat):Int):=by rw[←nat_mask8];exact u32_and_nat b 255 hb (by omega)
 go_in
 go_wp2
 go_end0;exact⟨rfl,Blk.set_ h 1 _,Bc _ _ _ _⟩
theorem clear_any(w:Ac)(g p m b:Nat)(h:Ctl w g p m)(hp:p<4294967296)(hb:b<4294967296):At Tryz.prog 235 #[↑g,J V (b:Int)] w λe w'=>e=Ax (AD #[])∧Ctl w' g (p&&&(4294967295 -b)) m∧Fr (· =g) w w':=by
 have c:=Blk.cell h 0;have f:=Blk.frozen h 0;have hm:Bb .andNot V (p:Int) (b:Int)=((p&&&(4294967295 -b):Nat):Int):=u32_andNot_nat p b hp hb;exact Nr
def nextN(p m:Nat):Nat:=low (p&&&m)
def nextB(p m:Nat):Bool:=p&&&m !=0
theorem next_any(w:Ac)(g p m:Nat)(hT:Tab w)(h:Ctl w g p m)(hp:p<4294967296)(hm:m<256):At Tryz.prog 82 #[↑g] w λe w'=>e=Ax (AD #[J Z (nextN p m),Ap (nextB p m)])∧Ctl w' g p m∧Fr Aj w w':=by
 have c0:=Blk.cell h 0;have c1:=Blk.cell h 1;have hl:p&&&m<256:=Nat.lt_of_le_of_lt Nat.and_le_right hm;have ha:Bb .and V (p:Int) (m:Int)=((p&&&m:Nat):Int):=u32_and_nat p m hp O;have h1:nextN p m=low (p&&&m):=rfl;have h2:nextB p m=(p&&&m !=0):=rfl;rw[h1,h2];clear h1 h2;generalize p&&&m=x at*;by_cases hx:x=0;·subst hx;go_in;go_wp2_with fail;go_quiet (fail);exact Nv
 ·have hx':((x:Int)==0)=Aa:=A8;have hx2:(x !=0)=Af:=A8;rw[hx2];go_in;go_wp2_with fail;go_quiet (fail);go_wp2_with fail;refine(tz_any _ x (hT.fr ((Ao Aj _).drewN _) id) O hl).mono ?_;rintro e w1 ⟨rfl,rfl⟩;exact Nv
def okAll(zs:List Int):Bool:=zs.all λz=>decide (0≤z)&&decide (z<8)
def orAll(zs:List Int):Nat:=zs.foldl (λa z=>a|||2^z.toNat) 0
theorem Uw(zs:List Int)(z:Int):orAll (zs++[z])=orAll zs|||2^z.toNat:=by simp[orAll]
theorem Uy(zs:List Int)(z:Int):okAll (zs++[z])=(okAll zs&&(decide (0≤z)&&decide (z<8))):=by simp[okAll]
theorem orAll_lt(zs:List Int)(h:okAll zs=Af):orAll zs<256:=by
 have: ∀(l:List Int) (a:Nat),a<256→(∀z∈l,0≤z∧z<8)→l.foldl (λa z=>a|||2^z.toNat) a<256:=by
  intro l
  induction l with
  |nil=>intro a ha _;simpa using ha
  |cons z r ih=>
   intro a ha hz;have h1:=hz z AB;refine ih _ ?_ (λy hy=>hz y (by simp[hy]));have h2:2^z.toNat<2^8:=Nat.pow_lt_pow_right O O;exact Nat.or_lt_two_pow (n:=8) ha h2
 refine this zs 0 O ?_;simpa[okAll] using h
theorem take_snoc{zs:List Int}{k:Nat}(h:k<zs.length):zs.take (k+1)=zs.take k++[zs.getD k 0]:=by
 rw[List.take_succ_eq_append_getElem h];simp[h]
def raised(zs:List Int)(p:Nat):Nat:=if okAll zs then p|||orAll zs else p
theorem raise_any(w:Ac)(g p m:Nat)(h:Ctl w g p m)(hp:p<256)(B:Nat)(A:Aw)(len cap:Nat)(zs:List Int)(hl:IntsAt Z w B A len zs)(hm:len≤Br):At Tryz.prog 14 #[↑g,U A len cap] w λe w'=>e=Ax (Ap (okAll zs))∧Ctl w' g (raised zs p) m∧Fr (· =g) w w':=by
 have c:=Blk.cell h 0;have f:=Blk.frozen h 0;unfold Br at hm;have hlen:=hl.1;have Hlen:=T hlen;clear hlen;go_in;go_wp2_with fail
 go_loop [5,10] (λmore i=> ∃k:Nat,k≤len∧i=J Z k∧okAll (zs.take k)=Af∧more=J V (orAll (zs.take k):Int)) (λ_ i=>len -(AJ i).toNat)
 case atStart=>exact⟨0,AU _,rfl,rfl,rfl⟩
 case round=>
  obtain⟨k,hk,rfl,hok,rfl⟩:=hrel;have Hok:=T hok;have hor:=orAll_lt _ hok;clear hok;by_cases hlt:k<len
  ·obtain⟨b,off,rfl,hb,hc⟩:=hl.at_ hlt;have hs:=Uy (zs.take k) (zs.getD k 0);have hs2:=Uw (zs.take k) (zs.getD k 0);rw[←take_snoc (by rw[Hlen.out];exact hlt)] at hs hs2;have Hs:=T hs;have Hs2:=T hs2;clear hs hs2;generalize zs.getD k 0=z at*;by_cases hz:0≤z∧z<8
   ·obtain⟨hz0,hz1⟩:=hz;have hpw:(2:Int)^z.toNat%4294967296=((2^z.toNat:Nat):Int):=by
     have:z.toNat<8:=O;generalize z.toNat=q at*
     match q,this with
     |0,_|1,_|2,_|3,_|4,_|5,_|6,_|7,_=>rfl
    have hpl:2^z.toNat<4294967296:=Nat.lt_trans (Nat.pow_lt_pow_right (a:=2) O (show z.toNat<8 by omega)) O;have hbo:Bb .or V (orAll (zs.take k):Int) ((2:Int)^z.toNat%4294967296)=((orAll (zs.take (k+1)):Nat):Int):=by
     rw[hpw,Hs2.out];exact u32_or_nat _ _ O hpl
    have Hbo:=T hbo;clear hbo hpw hpl;go_wp2_with fail;exact⟨⟨k+1,O,AX,by rw[Hs.out,Hok.out];simp;omega,by rw[Hbo.out]⟩,by simp[AJ];omega⟩
   ·have hbad:okAll zs=Aa:=by
     rw[←List.take_append_drop (k+1) zs];have e:okAll (zs.take (k+1))=Aa:=by rw[Hs.out,Hok.out];simp;omega
     unfold okAll at e⊢;rw[List.all_append,e];rfl
    have Hbad:=T hbad;clear hbad;by_cases hz0:z<0;·exact Nw
    ·have hz8:8≤z:=O;exact Nw
  ·have hk2:k=len:=O;subst hk2;have hzs:zs.take k=zs:=List.take_of_length_le (by rw[Hlen.out];omega);have hbo:Bb .or V (p:Int) (orAll (zs.take k):Int)=((p|||orAll (zs.take k):Nat):Int):=u32_or_nat _ _ O O;have Hzs:=T hzs;clear hzs
   go_wp2
   go_ret;rw[Hzs.out] at Hok⊢;rw[show raised zs p=p|||orAll zs by unfold raised;rw[Hok.out];rfl,Hok.out];exact Nu
end Iq
namespace Co
theorem info8:(Tryz.prog.info? 5).map (λi=>(i.zero,i.size,i.bytes))=I (I (J AC 0),1,1):=AI
theorem Uz(w:Ac):At Tryz.prog 44 #[U G 0 0] w λe w'=>e=Ax (U G 0 0)∧w=w':=by
 have hq:=λw=>Lib.run_eql_slice_nil (P:=Tryz.prog) w 31 5 G 0 0 0 0 CF;exact Cr
def Gives(w:Ac)(base:Nat)(n:Nat)(news:List As)(e:AT)(w':Ac):Prop:=
 ∃v,e=Ax v∧w'.ownsRow base 5 1 v n news∧Fr Aj w w'∧(∀k,v.ownBlock=I k→w.heap.size≤k)
theorem U0(w:Ac)(base:Nat)(ad:Addr)(n c B:Nat)(news:List As)(hr:Reads w B 1 (I ad) n news)(hB:B≤↑w)(h1: ∀u∈news,u.oneCell'=Af)(hn:n≤1099511627776)(hb:base≤↑w):At Tryz.prog 44 #[U (I ad) n c] w (Gives w base n news):=by
 obtain⟨i0,hi0,hz0,hz1,hz2⟩:=BH info8;have hq:=λw=>Lib.run_eql_slice_nil (P:=Tryz.prog) w 31 5 (I ad) n c 0 0 CF;have ho:(w.alloc (.cells #[] 5)).ownsRow base 5 1 (U (I ⟨↑w,0,G⟩) 0 0) 0 []:=⟨rfl,Ah ⟨↑w,0,#[],rfl,hb,AH _ _ _,AE _,DT,rfl,rfl⟩⟩;have hr1:=hr.alloc hB (.cells #[] 5);clear hr;go_in;go_wp2_with
  (at_builtin
   refine Ce _ rfl (.tmp 5) (.tmp 6) _ rfl base 5 i0 _ 1 1 CF hi0 hz0 hz1 hz2 rfl O (U (I ⟨w.heap.size,0,G⟩) 0 0) 0 [] rfl ho B (I ad) n c news rfl hr1 h1 Bu O A8 ?_
   intro v1 w1 hown1 hg1 hat1)
 go_ret;rw[Bn,CI] at hown1;refine⟨v1,rfl,hown1,((Ao _ _).alloc _).grown hg1 (λk hk=>?_),λk hk=>?_⟩;·exact Lt
 ·rcases hat1 with e|e;·rw[e] at hk;have e:=Jk;omega
  ·rw[e] at hk;have e:↑w+1=k:=by simpa using hk
   omega
def by8(l:List Int):List As:=l.map (J AC)
theorem by8_len(l:List Int):(by8 l).length=l.length:=by simp[by8]
def Con(w:Ac)(base g:Nat)(F:AG)(outs ins:List Int):Prop:=
 ∃vo vi,Blk w g 114 #[vo,vi]∧w.ownsRow base 5 1 vo outs.length (by8 outs)∧w.ownsRow base 5 1 vi ins.length (by8 ins)∧
  (∀k,vo.ownBlock=I k→vi.ownBlock≠I k)∧F g∧(∀k,vo.ownBlock=I k→F k)∧(∀k,vi.ownBlock=I k→F k)∧(∀k,F k→base≤k∧k<w.heap.size)
variable{w:Ac}{base:Nat}
theorem Con.fr{w':Ac}{g:Nat}{F S:AG}{outs ins:List Int}(h:Con w base g F outs ins)(f:Fr S w w')(hs: ∀k,F k→ ¬S k):Con w' base g F outs ins:=by
 obtain⟨vo,vi,h1,h2,h3,h4,h5,h6,h7,h8⟩:=h;exact⟨vo,vi,h1.fr f (hs g h5),own_fr h2 f (λk hk=>hs k (h6 k hk)),own_fr h3 f (λk hk=>hs k (h7 k hk)),h4,h5,h6,h7,λk hk=>⟨(h8 k hk).1,AW (h8 k hk).2 f.size⟩⟩
def Turns(w:Ac)(base g:Nat)(F:AG)(outs ins:List Int)(v:As)(e:AT)(w':Ac):Prop:=
 e=Ax v∧ ∃F':Nat→Prop,Con w' base g F' outs ins∧Fr F w w'∧(∀k,F' k→F k∨w.heap.size≤k)
theorem new_any(w:Ac)(base:Nat)(hb:base≤↑w):At Tryz.prog 53 #[] w λe w'=>e=Ax (Bi (I ⟨↑w,0,G⟩))∧Con w' base ↑w (· =w.heap.size) [] []∧Fr Aj w w':=by
 go_in
 go_wp2
 go_ret;exact⟨rfl,⟨U G 0 0,U G 0 0,AH _ _ _,⟨rfl,Ag ⟨rfl,rfl⟩⟩,⟨rfl,Ag ⟨rfl,rfl⟩⟩,λk hk=>Ew,rfl,λk hk=>Ew,λk hk=>Ew,λk hk=>by subst hk;simp;exact hb⟩,(Ao _ _).alloc _⟩
variable{n:Nat}{e:AK}{v:As}{xs:List As}
theorem own_val(h:w.ownsRow base e 1 v n xs):(v=U G 0 0∧n=0∧xs=[])∨ ∃g cap,v=U (I ⟨g,0,G⟩) n cap∧n≤cap∧cap≤Br:=by
 rcases h.2 with⟨rfl,rfl⟩|⟨g,cap,cur,rfl,_,_,h1,h2,_⟩;·exact Ag ⟨rfl,rfl,List.length_eq_zero_iff.1 (by simpa using h.1)⟩
 ·exact Ah ⟨g,cap,rfl,h1,h2⟩
theorem own_pos(h:w.ownsRow base e 1 v n xs)(hn:0<n): ∃g cap,v=U (I ⟨g,0,G⟩) n cap:=by
 rcases own_val h with⟨_,h0,_⟩|⟨g,cap,e,_⟩;·omega
 ·exact⟨g,cap,e⟩
theorem write_any(w:Ac)(base g:Nat)(F:AG)(outs ins:List Int)(b:Int)(h:Con w base g F outs ins)(ho:outs.length≤1099511627776)(hbase:base≤↑w):At Tryz.prog 238 #[↑g,J AC b] w (Turns w base g F (outs++[b]) ins (AD #[])):=by
 obtain⟨vo,vi,h1,h2,h3,h4,h5,h6,h7,h8⟩:=h;obtain⟨i0,hi0,hz0,hz1,hz2⟩:=BH info8;have c0:=h1.cell 0;have a2:=h2.alloc (.cells #[J AC b] 5);go_in;go_wp2_with
  (at_builtin
   refine Ce _ rfl (.tmp 8) (.tmp 10) _ rfl base 5 i0 _ 1 1 CF hi0 hz0 hz1 hz2 rfl O vo outs.length (by8 outs) rfl a2 (w.heap.size+1) (I ⟨w.heap.size,0,G⟩) 1 1 [J AC b] rfl (Cn (AH _ _ _) rfl) CL Bu O A8 ?_
   intro v1 w1 hown1 hg1 hat1
   have hgne:I g≠vo.ownBlock:=λe=>AZ h2 h1 Ak e.symm
   have k1:=(h1.alloc (.cells #[J AC b] 5)).grown hg1 hgne
   have k2:=k1.cell 0
   have k3:=k1.frozen 0
   obtain⟨g1,cap1,hv⟩:=own_pos hown1 O
   subst hv)
 go_end0;have hs:=k1.set_ 0 (U (I ⟨g1,0,G⟩) (outs.length+1) cap1);have f2:Fr F w w1:=((Ao _ _).alloc _).grown hg1 (λk hk=> Ag (h6 k hk));have hgl:=h1.lt;have hg1w:g1<↑w1:=own_lt hown1 g1 rfl;have hg1b:base≤g1:=own_base hown1 g1 rfl;have hne1:g1≠g:=by rintro rfl;exact AZ hown1 k1 (by decide) rfl
 refine⟨rfl,λk=>F k∨k=g1,⟨_,vi,hs, ?_, ?_, ?_,Ag h5, ?_, ?_, ?_⟩,f2.setCell (p:=⟨g,0,G⟩) (Ag h5) _, ?_⟩
 ·have:=own_fr hown1 (Bc w1 g 0 (U (I ⟨g1,0,G⟩) (outs.length+1) cap1)) (λk hk=>by
   have e:=Jl;omega)
  simpa[by8] using this
 ·refine own_fr (own_fr (h3.alloc _) (S:=λk=>I k=vo.ownBlock) ⟨hg1.os,hg1.tape,hg1.output,hg1.size,hg1.block⟩ (λk hk e=>h4 k e.symm hk)) (Bc w1 g 0 _) (λk hk=>?_);rintro rfl;exact AZ h3 h1 Ak hk
 ·intro k hk;have e:=Jl;subst e;rcases hat1 with e|e;·exact h4 _ e.symm
  ·intro hk';have:=own_lt h3 _ hk';simp[Bp] at e;omega
 ·intro k hk;have e:=Jl;exact Ah e.symm
 ·intro k hk;exact Ag (h7 k hk)
 ·intro k hk;have hsz:(w1.setCell ⟨g,0,G⟩ (U (I ⟨g1,0,G⟩) (outs.length+1) cap1)).heap.size=w1.heap.size:=EX;have hsz2:w.heap.size≤w1.heap.size:=f2.size;rw[hsz];rcases hk with hk|rfl;·have:=h8 k hk;omega
  ·omega
 ·intro k hk;rcases hk with hk|rfl;·exact Ag hk
  ·rcases hat1 with e|e;·exact Ag (h6 _ e.symm)
   ·simp[Bp] at e;omega
theorem own_any(h:w.ownsRow base e 1 v n xs): ∃A cap,v=U A n cap:=by
 rcases own_val h with⟨e,h0,_⟩|⟨g,cap,e,_⟩;·exact⟨G,0,by rw[e,h0]⟩
 ·exact⟨_,cap,e⟩
theorem output_any(w:Ac)(base g:Nat)(F:AG)(outs ins:List Int)(h:Con w base g F outs ins)(ho:outs.length≤1099511627776)(b2:Nat)(hb2:b2≤↑w):At Tryz.prog 27 #[↑g] w (Gives w b2 outs.length (by8 outs)):=by
 obtain⟨vo,vi,h1,h2,h3,h4,h5,h6,h7,h8⟩:=h;have c0:=h1.cell 0;rcases own_val h2 with⟨rfl,h0,hz⟩|⟨go,cap,rfl,hnc,hcm⟩
 ·have hG:Gives w b2 outs.length (by8 outs) (Ax (U G 0 0)) w:=⟨_,rfl,⟨by rw[by8_len,Nat.mul_one],Ag ⟨rfl,h0⟩⟩,Ao _ _,λk hk=>Ew⟩;have HG:=T hG;clear hG h0 hz;go_in;go_wp2_with fail;refine(Uz w).mono ?_;rintro e w1 ⟨rfl,rfl⟩
  go_wp2
  go_ret;exact HG.out
 ·have hr:=Reads.of_own h2;go_in;go_wp2_with fail;refine(U0 w b2 _ _ _ _ _ hr (AE _) DR ho hb2).mono ?_;rintro e w1 ⟨v,rfl,ho1,f1,hk1⟩
  go_wp2
  go_ret;exact⟨v,rfl,ho1,f1,hk1⟩
end Co
namespace Bs
open Fm Nt Rm By Dr
structure Sb where
 p:Nat
 m:Nat
 tm:Int
 outs:List Int
 ins:List Int
 d:Nat→Int
 ms:Ms
 sec:Int
 pl:Int
 st:Int
structure Ab where
 gB:Nat
 gc:Nat
 gt:Nat
 gk:Nat
 gd:Nat
 ge:Nat
 am:Am
structure Sb.Ok(s:Sb):Prop where
 p:s.p<256
 m:s.m<256
 tm:0≤s.tm∧s.tm≤4294967295
 len:s.ins.length≤64
 ins: ∀z∈s.ins,0≤z∧z<256
 outs: ∀z∈s.outs,0≤z∧z<256
 sec:0≤s.sec∧s.sec≤4294967295
 pl:0≤s.pl∧s.pl≤4294967295
 st:s.st=0∨s.st=1
 tu: ∀k,s.ms.n≤k→k<64→s.ms.tu k=Aa
def busCells(a:Ab)(s:Sb):AL:=#[↑a.gc,↑a.gt,↑a.gk,↑a.gd,↑a.am.gm,J V s.sec,J V s.pl,J V s.st]
structure Bus(w:Ac)(F:AG)(a:Ab)(s:Sb):Prop where
 b:Blk w a.gB 56 (busCells a s)
 c:Iq.Ctl w a.gc s.p s.m
 t:Tm.Tmr w a.gt s.tm
 k:Co.Con w 0 a.gk F s.outs s.ins
 d:Drv w a.gd a.ge s.d
 M:Mem w a.am s.ms
 sepF: ∀k,F k→k≠a.gB∧k≠a.gc∧k≠a.gt∧k≠a.gd∧k≠a.ge∧ ¬a.am.own k
 sepM: ∀k,a.am.own k→k≠a.gB∧k≠a.gc∧k≠a.gt∧k≠a.gd∧k≠a.ge
 ok:s.Ok
def Ab.wr(a:Ab)(F:AG)(k:Nat):Prop:=k=a.gB∨k=a.gc∨k=a.gt∨k=a.ge∨a.am.own k∨F k
theorem con_lt{w:Ac}{g:Nat}{F:AG}{o i:List Int}(h:Co.Con w 0 g F o i): ∀k,F k→k<w.heap.size:=by
 obtain⟨_,_,_,_,_,_,_,_,_,h8⟩:=h;exact λk hk=>(h8 k hk).2
section
variable {w w':Ac} {F F':AG} {a:Ab} {s:Sb} {S:AG}
theorem Bus.nBc(h:Bus w F a s):a.gB≠a.gc:=Blk.ne_ h.b h.c Ak
theorem Bus.nBt(h:Bus w F a s):a.gB≠a.gt:=Blk.ne_ h.b h.t Ak
theorem Bus.nBd(h:Bus w F a s):a.gB≠a.gd:=Blk.ne_ h.b h.d.b Ak
theorem Bus.nct(h:Bus w F a s):a.gc≠a.gt:=Blk.ne_ h.c h.t Ak
theorem Bus.ncd(h:Bus w F a s):a.gc≠a.gd:=Blk.ne_ h.c h.d.b Ak
theorem Bus.ntd(h:Bus w F a s):a.gt≠a.gd:=Blk.ne_ h.t h.d.b Ak
theorem Bus.nBe(h:Bus w F a s):a.gB≠a.ge:=by
 obtain⟨cs,hcs,_⟩:=h.d.c;exact Blk.ne_ h.b hcs Ak
theorem Bus.nce(h:Bus w F a s):a.gc≠a.ge:=by
 obtain⟨cs,hcs,_⟩:=h.d.c;exact Blk.ne_ h.c hcs Ak
theorem Bus.nte(h:Bus w F a s):a.gt≠a.ge:=by
 obtain⟨cs,hcs,_⟩:=h.d.c;exact Blk.ne_ h.t hcs Ak
theorem Bus.lt(h:Bus w F a s): ∀k,a.wr F k∨k=a.gd→k<w.heap.size:=by
 intro k hk;rcases hk with(e|e|e|e|e|e)|e;·rw[e];exact h.b.lt
 ·rw[e];exact h.c.lt
 ·rw[e];exact h.t.lt
 ·rw[e];exact h.d.c.lt
 ·exact h.M.lt k e
 ·exact con_lt h.k k e
 ·rw[e];exact h.d.b.lt
theorem Bus.fr0(h:Bus w F a s)(f:Fr Aj w w'):Bus w' F a s:=
 ⟨h.b.fr f id,h.c.fr f id,h.t.fr f id,h.k.fr f (λ_ _ e=>e),h.d.fr f id id,h.M.fr0 f,h.sepF,h.sepM,h.ok⟩
theorem Bus.fr(h:Bus w F a s)(f:Fr S w w')(hs: ∀k,a.wr F k∨k=a.gd→ ¬S k):Bus w' F a s:=
 ⟨h.b.fr f (hs _ (Ag (Ag rfl))),h.c.fr f (hs _ (Ag (Ah (Ag rfl)))),h.t.fr f (hs _ (Ag (Ah (Ah (Ag rfl))))),h.k.fr f (λk hk=>hs k (Ag (Ah (Ah (Ah (Ah (Ah hk))))))),h.d.fr f (hs _ (Ah rfl)) (hs _ (Ag (Ah (Ah (Ah (Ag rfl)))))),h.M.fr f (λk hk=>hs k (Ag (Ah (Ah (Ah (Ah (Ag hk))))))),h.sepF,h.sepM,h.ok⟩
theorem Bus.cells(h:Bus w F a s):w.cell? ⟨a.gB,0,G⟩=I ↑a.gc∧w.cell? ⟨a.gB,1,G⟩=I ↑a.gt∧w.cell? ⟨a.gB,2,G⟩=I ↑a.gk∧w.cell? ⟨a.gB,3,G⟩=I ↑a.gd∧w.cell? ⟨a.gB,4,G⟩=I ↑a.am.gm∧w.cell? ⟨a.gB,5,G⟩=I (J V s.sec)∧w.cell? ⟨a.gB,6,G⟩=I (J V s.pl)∧w.cell? ⟨a.gB,7,G⟩=I (J V s.st):=
 ⟨h.b.cell 0,h.b.cell 1,h.b.cell 2,h.b.cell 3,h.b.cell 4,h.b.cell 5,h.b.cell 6,h.b.cell 7⟩
theorem Bus.setC(h:Bus w F a s){p m:Nat}(hc:Iq.Ctl w' a.gc p m)(f:Fr (· =a.gc) w w')(hp:p<256)(hm:m<256):Bus w' F a {s with p:=p,m:=m}:=
 ⟨h.b.fr f h.nBc,hc,h.t.fr f (λe=>h.nct e.symm),h.k.fr f (λk hk e=>(h.sepF k hk).2.1 e),h.d.fr f (λe=>h.ncd e.symm) (λe=>h.nce e.symm),h.M.fr f (λk hk e=>(h.sepM k hk).2.1 e),h.sepF,h.sepM,⟨hp,hm,h.ok.tm,h.ok.len,h.ok.ins,h.ok.outs,h.ok.sec,h.ok.pl,h.ok.st,h.ok.tu⟩⟩
theorem Bus.setT(h:Bus w F a s){tm:Int}(ht:Tm.Tmr w' a.gt tm)(f:Fr (· =a.gt) w w')(h0:0≤tm)(h1:tm≤4294967295):Bus w' F a {s with tm:=tm}:=
 ⟨h.b.fr f h.nBt,h.c.fr f h.nct,ht,h.k.fr f (λk hk e=>(h.sepF k hk).2.2.1 e),h.d.fr f (λe=>h.ntd e.symm) (λe=>h.nte e.symm),h.M.fr f (λk hk e=>(h.sepM k hk).2.2.1 e),h.sepF,h.sepM,⟨h.ok.p,h.ok.m,⟨h0,h1⟩,h.ok.len,h.ok.ins,h.ok.outs,h.ok.sec,h.ok.pl,h.ok.st,h.ok.tu⟩⟩
theorem Bus.setK(h:Bus w F a s){outs ins:List Int}(hk:Co.Con w' 0 a.gk F' outs ins)(f:Fr F w w')(hF: ∀k,F' k→F k∨w.heap.size≤k)(hl:ins.length≤64)(hi: ∀z∈ins,0≤z∧z<256)(ho: ∀z∈outs,0≤z∧z<256):Bus w' F' a {s with outs:=outs,ins:=ins}:=
 ⟨h.b.fr f (λe=>(h.sepF _ e).1 rfl),h.c.fr f (λe=>(h.sepF _ e).2.1 rfl),h.t.fr f (λe=>(h.sepF _ e).2.2.1 rfl),hk,h.d.fr f (λe=>(h.sepF _ e).2.2.2.1 rfl) (λe=>(h.sepF _ e).2.2.2.2.1 rfl),h.M.fr f (λk hk e=>(h.sepF k e).2.2.2.2.2 hk),λk hk'=>by
  rcases hF k hk' with e|e;·exact h.sepF k e
  ·have hlt:=h.lt;refine⟨λe2=>?_,λe2=>?_,λe2=>?_,λe2=>?_,λe2=>?_,λe2=>?_⟩;·have:=hlt k (Ag (Ag e2));omega
   ·have:=hlt k (Ag (Ah (Ag e2)));omega
   ·have:=hlt k (Ag (Ah (Ah (Ag e2))));omega
   ·have:=hlt k (Ah e2);omega
   ·have:=hlt k (Ag (Ah (Ah (Ah (Ag e2)))));omega
   ·have:=hlt k (Ag (Ah (Ah (Ah (Ah (Ag e2))))));omega,
  h.sepM,⟨h.ok.p,h.ok.m,h.ok.tm,hl,hi,ho,h.ok.sec,h.ok.pl,h.ok.st,h.ok.tu⟩⟩
theorem Bus.setD(h:Bus w F a s){d:Nat→Int}{ms:Ms}(hd:Drv w' a.gd a.ge d)(hM:Mem w' a.am ms)(f:Fr (λk=>k=a.ge∨a.am.own k) w w')(htu: ∀k,ms.n≤k→k<64→ms.tu k=Aa):Bus w' F a {s with d:=d,ms:=ms}:=
 ⟨h.b.fr f (λe=>by rcases e with e|e;exact h.nBe e;exact(h.sepM _ e).1 rfl),h.c.fr f (λe=>by rcases e with e|e;exact h.nce e;exact(h.sepM _ e).2.1 rfl),h.t.fr f (λe=>by rcases e with e|e;exact h.nte e;exact(h.sepM _ e).2.2.1 rfl),h.k.fr f (λk hk e=>by rcases e with e|e;exact(h.sepF k hk).2.2.2.2.1 e;exact(h.sepF k hk).2.2.2.2.2 e),hd,hM,h.sepF,h.sepM,⟨h.ok.p,h.ok.m,h.ok.tm,h.ok.len,h.ok.ins,h.ok.outs,h.ok.sec,h.ok.pl,h.ok.st,htu⟩⟩
theorem Bus.setB(h:Bus w F a s){sec pl st:Int}(hb:Blk w' a.gB 56 (busCells a {s with sec:=sec,pl:=pl,st:=st}))(f:Fr (· =a.gB) w w')(h1:0≤sec∧sec≤4294967295)(h2:0≤pl∧pl≤4294967295)(h3:st=0∨st=1):Bus w' F a {s with sec:=sec,pl:=pl,st:=st}:=
 ⟨hb,h.c.fr f (λe=>h.nBc e.symm),h.t.fr f (λe=>h.nBt e.symm),h.k.fr f (λk hk e=>(h.sepF k hk).1 e),h.d.fr f (λe=>h.nBd e.symm) (λe=>h.nBe e.symm),h.M.fr f (λk hk e=>(h.sepM k hk).1 e),h.sepF,h.sepM,⟨h.ok.p,h.ok.m,h.ok.tm,h.ok.len,h.ok.ins,h.ok.outs,h1,h2,h3,h.ok.tu⟩⟩
end
def BPost(w:Ac)(F:AG)(a:Ab)(s':Sb)(v:As)(e:AT)(w':Ac):Prop:=
 e=Ax v∧ ∃F',Bus w' F' a s'∧(∀k,F' k→F k∨w.heap.size≤k)∧Fr (a.wr F) w w'
theorem BPost.same{w w':Ac}{F:AG}{a:Ab}{s:Sb}{v:As}(h:Bus w' F a s)(f:Fr (a.wr F) w w'):BPost w F a s v (Ax v) w':=⟨rfl,F,h,λk hk=> Ag hk,f⟩
def offO(at_:Int):Int:=(at_ -32768)%4294967296
def loadB(at_:Int):Bool:=decide (offO at_=0∨offO at_=4∨offO at_=8∨offO at_=12∨offO at_=16∨offO at_=20∨offO at_=24∨offO at_=32∨offO at_=36∨offO at_=40∨offO at_=44)
theorem U1(at_:Int):offO at_=0∨offO at_=4∨offO at_=8∨offO at_=12∨offO at_=16∨offO at_=20∨offO at_=24∨offO at_=32∨offO at_=36∨offO at_=40∨offO at_=44∨loadB at_=Aa:=by
 cases h:loadB at_
 ·simp
 ·rw[loadB] at h;have:=of_decide_eq_true h;omega
end Bs
namespace Bs
open Fm Nt Rm By Dr
theorem or_256{p z:Nat}(hp:p<256)(hz:z<8):p|||2^z<256:=by
 have h1:2^z<2^8:=Nat.pow_lt_pow_right O hz;exact Nat.or_lt_two_pow (n:=8) O h1
theorem raise1{w:Ac}{F:AG}{a:Ab}{s:Sb}(h:Bus w F a s)(z:Nat)(hz:z<8):At Tryz.prog 14 #[↑a.gc,U (I ⟨↑w,0,G⟩) 1 1] (w.alloc (.cells #[J Z (z:Int)] 3)) λe w'=>e=Ax (.bool Af)∧Bus w' F a {s with p:=s.p|||2^z}∧Fr (· =a.gc) w w':=by
 have f0:=(Ao (· =a.gc) w).alloc (.cells #[J Z (z:Int)] 3);have h0:=h.fr0 ((Ao Aj w).alloc (.cells #[J Z (z:Int)] 3));refine(Iq.raise_any _ a.gc s.p s.m h0.c h0.ok.p (↑w+1) (I ⟨↑w,0,G⟩) 1 1 [(z:Int)] (IA [(z:Int)] (AH _ _ _) (λi hi=>by
  have:i=0:=Ez;subst this;exact EQ (n:=(z:Int)) O O)) DT).mono ?_
 rintro e w' ⟨rfl,hc,f⟩;have e1:Iq.okAll [(z:Int)]=Af:=by simp[Iq.okAll];omega
 have e2:Iq.raised [(z:Int)] s.p=s.p|||2^z:=by
  rw[Iq.raised,An e1];simp[Iq.orAll]
 rw[e2] at hc;exact⟨by rw[e1],h0.setC hc f (or_256 h.ok.p hz) h.ok.m,f0.tr f⟩
def Sb.storeO(s:Sb)(o v:Int):Sb:=
 if o=0 then{s with p:=s.p&&&(4294967295 -v.toNat)} else if o=4 then{s with m:=v.toNat%256} else if o=8 then{s with tm:=v} else if o=16 then{s with outs:=s.outs++[v%256]}
 else if o=32 then{s with sec:=v} else if o=36 then{s with pl:=v}
 else if o=40 then{s with d:=doD s.d s.ms s.sec s.pl v,ms:=doM s.d s.ms s.sec s.pl v,st:=if doB s.ms s.sec s.pl v then 0 else 1,p:=s.p|||4} else s
def Sb.store(s:Sb)(at_ v:Int):Sb:=s.storeO (offO at_) v
theorem doM_n(d:Nat→Int)(m:Ms)(s at_ c:Int):(doM d m s at_ c).n=m.n:=by
 unfold doM;split;·exact puts_n _ _ _ _
 ·rfl
theorem doM_tu(d:Nat→Int)(m:Ms)(s at_ c:Int)(a0:0≤at_)(ht: ∀k,m.n≤k→k<64→m.tu k=Aa): ∀k,(doM d m s at_ c).n≤k→k<64→(doM d m s at_ c).tu k=Aa:=by
 intro k h1 h2;rw[doM_n] at h1;unfold doM;split
 ·rename_i h
  have hb:=h.1;simp only[doB,decide_eq_true_eq] at hb;rw[puts_tu,ht k h1 h2,Bool.false_or];unfold hits;exact decide_eq_false (by rintro⟨j,h3,h4⟩;omega)
 ·exact ht k h1 h2
set_option maxRecDepth 100000 in
theorem U2(w:Ac)(F:AG)(a:Ab)(s:Sb)(h:Bus w F a s)(at_:Int)(vn:Nat)(cnt:Int)(hw:IntKind.u32.wrap (at_ -32768)=40)(v0:(0:Int)≤vn)(v1:(vn:Int)≤4294967295):At Tryz.prog 212 #[↑a.gB,J V at_,J V (vn:Int),J AM cnt] w (BPost w F a (s.storeO 40 (vn:Int)) (Ap Af)):=by
 obtain⟨c0,c1,c2,c3,c4,c5,c6,c7⟩:=h.cells;have z5:=h.b.frozen 5;have z6:=h.b.frozen 6;have z7:=h.b.frozen 7;have H:=T h;clear h;have hB1:=H.out.setB (sec:=s.sec) (pl:=s.pl) (st:=1) (H.out.b.set_ 7 (J V 1)) (Bc w a.gB 7 (J V 1)) H.out.ok.sec H.out.ok.pl (Ah rfl);have f1:=(Bc w a.gB 7 (J V 1)).mono (S':=a.wr F) (λk _ e=> Ag e);have hsz:w.heap.size=(w.setCell ⟨a.gB,7,G⟩ (J V 1)).heap.size:=EX;have es:s.storeO 40 (vn:Int)={s with d:=doD s.d s.ms s.sec s.pl vn,ms:=doM s.d s.ms s.sec s.pl vn,st:=if doB s.ms s.sec s.pl vn then 0 else 1,p:=s.p|||4}:=rfl;rw[es];go_in;go_upto_region 17 with(fail);generalize w.setCell ⟨a.gB,7,G⟩ (J V 1)=w1 at*;obtain⟨b0,b1,b2,b3,b4,b5,b6,b7⟩:=hB1.cells;have k3:w1.drew.cell? ⟨a.gB,3,G⟩=I ↑a.gd:=b3;have k4:w1.drew.cell? ⟨a.gB,4,G⟩=I ↑a.am.gm:=b4;have k5:w1.drew.cell? ⟨a.gB,5,G⟩=I (J V s.sec):=b5;have k6:w1.drew.cell? ⟨a.gB,6,G⟩=I (J V s.pl):=b6;have Hd:=T (do_any w1.drew a.gd a.ge s.d a.am s.ms (hB1.d.fr ((Ao Aj w1).drew) id id) (hB1.M.fr0 ((Ao Aj w1).drew)) (λk hk=>⟨(hB1.sepM k hk).2.2.2.1,(hB1.sepM k hk).2.2.2.2⟩) s.sec s.pl (vn:Int) H.out.ok.sec.1 H.out.ok.sec.2 H.out.ok.pl.1 H.out.ok.pl.2 v0 v1);have Htu:=T (doM_tu s.d s.ms s.sec s.pl vn H.out.ok.pl.1 H.out.ok.tu);have HB1:=T (hB1.fr0 ((Ao Aj w1).drew));have F1:=T f1.drew;clear hB1 f1 es c0 c1 c2 c3 c4 c5 c6 c7 z5 z6 z7 b0 b1 b2 b3 b4 b5 b6 b7;generalize doB s.ms s.sec s.pl vn=bb at*;generalize doD s.d s.ms s.sec s.pl vn=d' at*;generalize doM s.d s.ms s.sec s.pl vn=m' at*
 go_region_held3 (λW=>W.cell? ⟨a.gB,3,G⟩=I ↑a.gd∧W.cell? ⟨a.gB,4,G⟩=I ↑a.am.gm∧W.cell? ⟨a.gB,5,G⟩=I (J V s.sec)∧W.cell? ⟨a.gB,6,G⟩=I (J V s.pl)) (first|exact⟨k3,k4,k5,k6⟩|exact⟨l3,l4,l5,l6⟩)
  (first
  |(go_at_call 239;refine Ay Hd ?_;rintro e w2 ⟨rfl,hD2,hM2,f2⟩;have hB2:=HB1.out.setD hD2 hM2 f2 Htu.out;obtain⟨l0,l1,l2,l3,l4,l5,l6,l7⟩:=hB2.cells))
 all_goals
  have F2:=F1.out.trans f2 (λk hk e=>by rcases e with e|e;exact Ah (Ah (Ah (Ag e)));exact Ah (Ah (Ah (Ah (Ag e)))));have z7:=hB2.b.frozen 7
  cases bb
  ·have Hr:=T (raise1 hB2 2 O);clear f2 hD2 hM2;go_wp2_with fail;refine Ay Hr ?_;rintro e w3 ⟨rfl,hB3,f3⟩
   go_wp2
   go_ret;exact⟨rfl,F,hB3,λk hk=> Ag hk,F2.trans f3 (λk hk e=> Ah (Ag e))⟩
  ·have hB2':=hB2.setB (sec:=s.sec) (pl:=s.pl) (st:=0) (hB2.b.set_ 7 (J V 0)) (Bc w2 a.gB 7 (J V 0)) H.out.ok.sec H.out.ok.pl (Ag rfl);have F3:=F2.trans (Bc w2 a.gB 7 (J V 0)) (λk hk e=> Ag e);clear f2 hD2 hM2;go_upto_region 19 with(fail);generalize w2.setCell ⟨a.gB,7,G⟩ (J V 0)=w4 at*;obtain⟨m0,m1,m2,m3,m4,m5,m6,m7⟩:=hB2'.cells;have Hr:=T (raise1 hB2' 2 O);go_wp2_with fail;refine Ay Hr ?_;rintro e w3 ⟨rfl,hB3,f3⟩
   go_wp2
   go_ret;exact⟨rfl,F,hB3,λk hk=> Ag hk,F3.trans f3 (λk hk e=> Ah (Ag e))⟩
set_option maxRecDepth 100000 in
theorem store_any(w:Ac)(F:AG)(a:Ab)(s:Sb)(h:Bus w F a s)(at_ v cnt:Int)(a0:0≤at_)(a1:at_≤4294967295)(v0:0≤v)(v1:v≤4294967295)(hlo:s.outs.length≤1000000):At Tryz.prog 212 #[↑a.gB,J V at_,J V v,J AM cnt] w (BPost w F a (s.store at_ v) (Ap (loadB at_))):=by
 have hw:IntKind.u32.wrap (at_ -32768)=offO at_:=DH _;obtain⟨c0,c1,c2,c3,c4,c5,c6,c7⟩:=h.cells;have z5:=h.b.frozen 5;have z6:=h.b.frozen 6;have z7:=h.b.frozen 7;have H:=T h;have hcase:=U1 at_;have e1:s.store at_ v=s.storeO (offO at_) v:=rfl;have e3:loadB at_=decide (offO at_=0∨offO at_=4∨offO at_=8∨offO at_=12∨offO at_=16∨offO at_=20∨offO at_=24∨offO at_=32∨offO at_=36∨offO at_=40∨offO at_=44):=rfl;rw[e1];rw[e3] at hcase⊢;clear e1 e3 h;generalize offO at_=o at*;obtain⟨vn,rfl⟩: ∃k:Nat,v=k:=⟨v.toNat,O⟩;rcases hcase with rfl|rfl|rfl|rfl|rfl|rfl|rfl|rfl|rfl|rfl|rfl|hno
 ·have Hp:=T (Iq.clear_any w a.gc s.p s.m vn H.out.c (by have:=H.out.ok.p;omega) O);go_in;go_wp2_with fail;refine Ay Hp ?_;rintro e w' ⟨rfl,hc,f⟩
  go_wp2
  go_ret;exact⟨rfl,F,H.out.setC hc f (Nat.lt_of_le_of_lt Nat.and_le_left H.out.ok.p) H.out.ok.m,λk hk=> Ag hk,f.mono (λk _ e=> Ah (Ag e))⟩
 ·have Hp:=T (Iq.setMask_any w a.gc s.p s.m vn H.out.c O);go_in;go_wp2_with fail;refine Ay Hp ?_;rintro e w' ⟨rfl,hc,f⟩
  go_wp2
  go_ret;exact⟨rfl,F,H.out.setC hc f H.out.ok.p (Nat.mod_lt _ O),λk hk=> Ag hk,f.mono (λk _ e=> Ah (Ag e))⟩
 ·have Hp:=T (Tm.set_any w a.gt s.tm (vn:Int) H.out.t);go_in;go_wp2_with fail;refine Ay Hp ?_;rintro e w' ⟨rfl,hc,f⟩
  go_wp2
  go_ret;exact⟨rfl,F,H.out.setT hc f v0 v1,λk hk=> Ag hk,f.mono (λk _ e=> Ah (Ah (Ag e)))⟩
 ·exact FG
 ·have hb8:IntKind.u8.wrap (vn:Int)=(vn:Int)%256:=IntKind.wrap_u8 _;have Hp:=T (Co.write_any w 0 a.gk F s.outs s.ins ((vn:Int)%256) H.out.k O (AU _));have es:s.storeO 16 (vn:Int)={s with outs:=s.outs++[(vn:Int)%256]}:=rfl;have HB:=T (λw' F' (hk':Co.Con w' 0 a.gk F' (s.outs++[(vn:Int)%256]) s.ins) (f:Fr F w w') (hF: ∀k,F' k→F k∨w.heap.size≤k)=>H.out.setK hk' f hF H.out.ok.len H.out.ok.ins (λz hz=>by
   rcases BZ.1 hz with e|e;·exact H.out.ok.outs z e
   ·have:z=(vn:Int)%256:=EY;omega))
  rw[es];clear es;generalize(vn:Int)%256=bv at*;go_in;go_wp2_with fail;refine Ay Hp ?_;rintro e w' ⟨rfl,F',hk',f',hF'⟩;have hB':=HB.out w' F' hk' f' hF'
  go_wp2
  go_ret;exact⟨rfl,F',hB',hF',f'.mono (λk _ e=> Ah (Ah (Ah (Ah (Ah e)))))⟩
 ·exact FG
 ·exact FG
 ·have HB:=T (H.out.setB (sec:=(vn:Int)) (pl:=s.pl) (st:=s.st) (H.out.b.set_ 5 (J V (vn:Int))) (Bc w a.gB 5 (J V (vn:Int))) ⟨v0,v1⟩ H.out.ok.pl H.out.ok.st);go_in
  go_wp2
  go_ret;exact⟨rfl,F,HB.out,λk hk=> Ag hk,(Bc w a.gB 5 (J V (vn:Int))).mono (λk _ e=> Ag e)⟩
 ·have HB:=T (H.out.setB (sec:=s.sec) (pl:=(vn:Int)) (st:=s.st) (H.out.b.set_ 6 (J V (vn:Int))) (Bc w a.gB 6 (J V (vn:Int))) H.out.ok.sec ⟨v0,v1⟩ H.out.ok.st);go_in
  go_wp2
  go_ret;exact⟨rfl,F,HB.out,λk hk=> Ag hk,(Bc w a.gB 6 (J V (vn:Int))).mono (λk _ e=> Ag e)⟩
 ·exact U2 w F a s H.out at_ vn cnt hw v0 v1
 ·exact FG
 ·rw[hno];have hn:=of_decide_eq_false hno;have n0:(o==0)=Aa:=A8;have n4:(o==4)=Aa:=A8;have n8:(o==8)=Aa:=A8;have n12:(o==12)=Aa:=A8;have n16:(o==16)=Aa:=A8;have n20:(o==20)=Aa:=A8;have n24:(o==24)=Aa:=A8;have n32:(o==32)=Aa:=A8;have n36:(o==36)=Aa:=A8;have n40:(o==40)=Aa:=A8;have n44:(o==44)=Aa:=A8;have el:s.storeO o (vn:Int)=s:=by
   unfold Sb.storeO;rw[Ae O,Ae O,Ae O,Ae O,Ae O,Ae O,Ae O]
  rw[el];clear hno hn el;exact FG
def Sb.tick(s:Sb)(n:Int):Sb:=if Tm.dueB s.tm n then{s with tm:=0,p:=s.p|||1} else s
set_option maxRecDepth 100000 in
theorem tick_any(w:Ac)(F:AG)(a:Ab)(s:Sb)(h:Bus w F a s)(cnt:Int):At Tryz.prog 81 #[↑a.gB,J AM cnt] w (BPost w F a (s.tick cnt) (AD #[])):=by
 obtain⟨c0,c1,c2,c3,c4,c5,c6,c7⟩:=h.cells;have Hd:=T (Tm.due_any w a.gt s.tm cnt h.t);have H:=T h;have hda:Tm.dueAt s.tm cnt=if Tm.dueB s.tm cnt then 0 else s.tm:=rfl;have hti:s.tick cnt=if Tm.dueB s.tm cnt then{s with tm:=0,p:=s.p|||1} else s:=rfl;rw[hda] at Hd;rw[hti];clear h hda hti;generalize Tm.dueB s.tm cnt=bb at*
 cases bb
 ·rw[Ae Da] at Hd⊢;go_in;go_wp2_with fail;refine Ay Hd ?_;rintro e w1 ⟨rfl,ht,f1⟩;have h1:=H.out.setT ht f1 H.out.ok.tm.1 H.out.ok.tm.2
  go_wp2
  go_end0;exact⟨rfl,F,h1,λk hk=> Ag hk,f1.mono (λk _ e=> Ah (Ah (Ag e)))⟩
 ·rw[An rfl] at Hd⊢;go_in;go_wp2_with fail;refine Ay Hd ?_;rintro e w1 ⟨rfl,ht,f1⟩;have h1:=H.out.setT ht f1 (Int.le_refl _) O;obtain⟨m0,m1,m2,m3,m4,m5,m6,m7⟩:=h1.cells;have Hr:=T (raise1 h1 0 O);go_wp2_with fail;refine Ay Hr ?_;rintro e w3 ⟨rfl,hB3,f3⟩
  go_wp2
  go_end0;exact⟨rfl,F,hB3,λk hk=> Ag hk,(f1.mono (S':=a.wr F) (λk _ e=> Ah (Ah (Ag e)))).trans f3 (λk hk e=> Ah (Ag e))⟩
def Sb.new(ms:Ms)(zs:List Int):Sb:=⟨0,0,0,[],[],dinit zs,ms,0,0,0⟩
def NewB(w:Ac)(am:Am)(ms:Ms)(zs:List Int)(e:AT)(w':Ac):Prop:=
 ∃(a:Ab) (F:AG),e=Ax (AD #[↑a.gB,J Z 0])∧a.am=am∧Bus w' F a (Sb.new ms zs)∧(∀k,a.wr F k∨k=a.gd→w.heap.size≤k∨am.own k)∧Fr Aj w w'
set_option maxRecDepth 100000 in
theorem new_any(w:Ac)(am:Am)(ms:Ms)(hM:Mem w am ms)(htu: ∀k,ms.n≤k→k<64→ms.tu k=Aa)(A:Aw)(len cap:Nat)(zs:List Int)(hz:IntsAt AC w ↑w A len zs)(hl:len≤1024):At Tryz.prog 34 #[↑am.gm,U A len cap] w (NewB w am ms zs):=by
 have HM:=T hM;have Hown:=T hM.lt;have Htu:=T htu;clear hM htu;have Hn:=T (Dr.new_any w A len cap zs hz hl);clear hz;go_in;go_wp2_with fail;refine Ay Hn ?_;rintro e w1 ⟨gd,ge,rfl,hD,hgd,hge,f1⟩;go_wp2_with fail;refine(Iq.new_any w1).mono ?_;rintro e w2 ⟨rfl,hc,f2⟩;go_wp2_with fail;refine(Tm.new_any w2).mono ?_;rintro e w3 ⟨rfl,ht,f3⟩;go_wp2_with fail;refine(Co.new_any w3 0 (AU _)).mono ?_;rintro e w4 ⟨rfl,hk,f4⟩;have s1:=f1.size;have s2:=f2.size;have s3:=f3.size;have s4:=f4.size;have l1:=hD.lt;have l2:=Iq.Ctl.lt hc;have l3:=Tm.Tmr.lt ht;have l4:=con_lt hk _ rfl;have hfin:NewB w am ms zs (Ax (AD #[Bi (I ⟨↑w4,0,G⟩),J Z 0])) (w4.alloc (.cells #[Bi (I ⟨↑w1,0,G⟩),Bi (I ⟨↑w2,0,G⟩),Bi (I ⟨↑w3,0,G⟩),↑gd,↑am.gm,J V 0,J V 0,J V 0] 56)):=by
  have g4:=f4.alloc (.cells #[Bi (I ⟨↑w1,0,G⟩),Bi (I ⟨↑w2,0,G⟩),Bi (I ⟨↑w3,0,G⟩),↑gd,↑am.gm,J V 0,J V 0,J V 0] 56);have g5:=(Ao Aj w4).alloc (.cells #[Bi (I ⟨↑w1,0,G⟩),Bi (I ⟨↑w2,0,G⟩),Bi (I ⟨↑w3,0,G⟩),↑gd,↑am.gm,J V 0,J V 0,J V 0] 56);have gg:=f2.tr (f3.tr g4);refine⟨⟨↑w4,w1.heap.size,w2.heap.size,w3.heap.size,gd,ge,am⟩,(· =w3.heap.size),rfl,rfl,⟨AH _ _ _,hc.fr (f3.tr g4) id,ht.fr g4 id,hk.fr g5 (λ_ _ e=>e),hD.fr gg id id,HM.out.fr0 (f1.tr gg), ?_, ?_,⟨by show 0<256;omega,by show 0<256;omega,⟨Int.le_refl _,FH⟩,by show 0≤64;omega,(λz hz=>by cases hz),(λz hz=>by cases hz),⟨Int.le_refl _,FH⟩,⟨Int.le_refl _,FH⟩,Ag rfl,Htu.out⟩⟩, ?_,f1.tr gg⟩;·rintro k rfl;refine⟨by show w3.heap.size≠w4.heap.size;omega,by show w3.heap.size≠w1.heap.size;omega,by show w3.heap.size≠w2.heap.size;omega,by show ↑w3≠gd;omega,by show ↑w3≠ge;omega,λe=>?_⟩;have:=Hown.out _ e;omega
  ·intro k hk';have:=Hown.out k hk';exact⟨by show k≠↑w4;omega,by show k≠↑w1;omega,by show k≠↑w2;omega,by show k≠gd;omega,by show k≠ge;omega⟩
  ·intro k hk';rcases hk' with(e|e|e|e|e|e)|e;·left;have e:k=↑w4:=e;omega
   ·left;have e:k=↑w1:=e;omega
   ·left;have e:k=↑w2:=e;omega
   ·left;have e:k=ge:=e;omega
   ·exact Ah e
   ·left;omega
   ·left;have e:k=gd:=e;omega
 have HF:=T hfin;clear hfin hk ht hc hD
 go_wp2
 go_ret2;exact HF.out
end Bs
namespace Gm
open Fm Nt Rm By Wk Gs
structure Mc where
 b:Bs.Sb
 l:Unit
def Mc.u(g:Mc):Mu.Us:=⟨g.b.ms,g.l⟩
def Mc.setU(g:Mc)(u:Mu.Us):Mc:=⟨{g.b with ms:=u.m},u.l⟩
def Mc.calm(g:Mc):Mc:=⟨{g.b with ms:=g.b.ms.calm},g.l⟩
def spS(s:St):Mu.Sp:=⟨s.pg,s.su,s.rt⟩
structure Rn where
 s:St
 c:Int
 a:Int
 dv:Bool
 g:Mc
def pop1(s:St):St:={s with d:=s.d.dropLast}
def pop2(s:St):St:={s with d:=s.d.dropLast.dropLast}
def push1(s:St)(v:Int):St:={s with d:=s.d++[v]}
def usedB(op:Int):Bool:=([0,1,2,32,49,66,67,69]:List Int).contains op
def devOk(at_:Int):Bool:=decide (at_%4=0)&&Mu.devB at_&&Bs.loadB at_
structure Ux(s:St)(op n:Int):Prop where
 uo:usedB op=Af
 pg:s.pg=Aa
 st:op=49→devOk (top1 s.d)=Af
 rw:op=67→n≠1∧n≠2
def stR(s:St)(cnt:Int)(g:Mc):Rn:=⟨pop2 s,0,0,Af,⟨g.b.store (top1 s.d) (top2 s.d),g.l⟩⟩
def otherR(s:St)(cnt:Int)(i:Ins)(g:Mc):Rn:=
 if i.op=49 then stR s cnt g else
 if i.op=66 then⟨push1 s (getV {s with ct:=cnt} i.n),0,0,Aa,g⟩ else
 if i.op=67 then⟨setS (pop1 s) i.n (top1 s.d),0,0,Aa,g⟩ else
 ⟨{s with ha:=Af},0,0,Aa,g⟩
def runR(s:St)(cnt:Int)(i:Ins)(g:Mc):Rn:=
 if stackB i.op then⟨stackS s i,0,0,Aa,g⟩
 else if reckB i.op then⟨reckS s i,0,0,Aa,g⟩
 else otherR s cnt i g
structure Rz where
 s:St
 tr:Bool
 dv:Bool
 pg:List Int
 g:Mc
def St.up(s:St):St:={s with ct:=(s.ct+1)%18446744073709551616}
def doR(s:St)(i:Ins)(g:Mc):Rz:=
 let x:=runR (s.next i) s.ct i g.calm
 ⟨x.s,Aa,x.dv,turnN x.g.b.ms 64,x.g⟩
structure Be where
 s:St
 p:Int
 on:Bool
 g:Mc
def irqS(s:St)(g:Mc):St:=if Iq.nextB g.b.p g.b.m&&s.ie then s.trap (16+(Iq.nextN g.b.p g.b.m:Int)) 0 else s
def beginR(s:St)(g:Mc):Be:=
 if s.right=Aa∨s.ha=Af then⟨s,0,Aa,g⟩
 else
  let g1:Mc:=⟨g.b.tick s.ct,g.l⟩
  let s1:=irqS s g1
  let r:=Mu.placeR g1.u (spS s1) s1.pc 1
  if r.c≠0 then⟨(St.up s1).trap r.c r.a,0,Aa,g1.setU r.u⟩ else⟨s1,r.p,Af,g1.setU r.u⟩
def pageL(m:Ms)(p:Int):List Int:=(Bm (64 -(p%64).toNat)).map (λk=>m.mem (p.toNat+k))
def fetchR(m:Ms)(p:Int):Option (Ins×Nat):=if p<(m.n:Int)*64 then decI (pageL m p) else G
def nextB_(i:Ins)(r:Rz)(page:Int)(was:Int):Bool:=
 if endsB i.op||r.tr||r.dv||r.s.ha||r.pg.contains page then Aa else decide (r.s.pc/64=was/64)
structure Sg where
 s:St
 g:Mc
def restR(s:St)(p:Int)(page:Int)(g:Mc):Nat→Sg
 |0=>⟨s,g⟩
 |k+1=>
  match fetchR g.b.ms p with
  |none=>⟨(St.up s).trap 1 0,g⟩
  |some (i,n)=>
   let r:=doR s i g
   if nextB_ i r page s.pc then restR r.s ((p+(n:Int))%4294967296) page r.g k else⟨r.s,r.g⟩
def blockR(s:St)(g:Mc):Sg:=
 if(beginR s g).on then restR (beginR s g).s (beginR s g).p ((beginR s g).p/64) (beginR s g).g 8 else⟨(beginR s g).s,(beginR s g).g⟩
end Gm
namespace Gm
open Fm Nt Rm By Wk Gs Bs Mu
structure Mch(w:Ac)(P:AG)(a:Ab)(A:Au)(g:Mc):Prop where
 bus: ∃F,Bus w F a g.b∧ ∀k,a.wr F k∨k=a.gd→ ¬P k∧k≠A.gU∧k≠A.gB
 un:Un w A g.u
 am:A.am=a.am
 uP: ¬P A.gU∧ ¬P A.gB
 tab:Iq.Tab w
 p0:P 0
 pl: ∀k,P k→k<w.heap.size
section
variable {w w':Ac} {P P' S:AG} {a:Ab} {A:Au} {g g':Mc}
theorem Mch.ok(h:Mch w P a A g):g.u.Ok:=Un.ok h.un
theorem Mch.bok(h:Mch w P a A g):g.b.Ok:=by
 obtain⟨F,h1,_⟩:=h.bus;exact h1.ok
theorem Mch.tu(h:Mch w P a A g):TuOk g.b.ms:=h.bok.tu
theorem tab_fr(h:Iq.Tab w)(f:Fr S w w')(hs: ¬S 0):Iq.Tab w':=
 ⟨AW h.1 f.size,λi hi=>f.cell (h.2 i hi) h.1 hs⟩
theorem Mch.fr(h:Mch w P a A g)(f:Fr S w w')(hs: ∀k,S k→P k)(h0: ¬S 0):Mch w' P a A g:=by
 obtain⟨F,h1,h2⟩:=h.bus;refine⟨⟨F,h1.fr f (λk hk e=>(h2 k hk).1 (hs k e)),h2⟩,h.un.fr f (λk hk e=>?_),h.am,h.uP,tab_fr h.tab f h0,h.p0,λk hk=>AW (h.pl k hk) f.size⟩;rcases hk with rfl|rfl|hk;·exact h.uP.1 (hs _ e)
 ·exact h.uP.2 (hs _ e)
 ·rw[h.am] at hk;exact(h2 k (Ag (Ah (Ah (Ah (Ah (Ag hk))))))).1 (hs _ e)
theorem Mch.fr0(h:Mch w P a A g)(f:Fr Aj w w'):Mch w' P a A g:=h.fr f (λ_ e=>e.elim) id
theorem Mch.lt(h:Mch w P a A g): ∃F,Bus w F a g.b∧(∀k,a.wr F k∨k=a.gd→ ¬P k∧k≠A.gU∧k≠A.gB)∧ ∀k,a.wr F k∨k=a.gd→k<w.heap.size:=by
 obtain⟨F,h1,h2⟩:=h.bus;exact⟨F,h1,h2,h1.lt⟩
theorem Mch.more(h:Mch w P a A g)(f:Fr Aj w w')(hp: ∀k,P' k→P k∨(w.heap.size≤k∧k<w'.heap.size))(h0:P' 0):Mch w' P' a A g:=by
 obtain⟨F,h1,h2,h3⟩:=h.lt;have hl:=h.un.lt;refine⟨⟨F,h1.fr0 f,λk hk=>⟨λe=>?_,(h2 k hk).2⟩⟩,h.un.fr0 f,h.am,⟨λe=>?_,λe=>?_⟩,tab_fr h.tab f id,h0,λk hk=>by
  rcases hp k hk with e|e;·exact AW (h.pl k e) f.size
  ·exact e.2⟩
 ·exact Nx
 ·exact Jm
 ·exact Jn
theorem Mch.less(h:Mch w P a A g)(hp: ∀k,P' k→P k)(h0:P' 0):Mch w P' a A g:=by
 obtain⟨F,h1,h2⟩:=h.bus;exact⟨⟨F,h1,λk hk=>⟨λe=>(h2 k hk).1 (hp k e),(h2 k hk).2⟩⟩,h.un,h.am,⟨λe=>h.uP.1 (hp _ e),λe=>h.uP.2 (hp _ e)⟩,h.tab,h0,λk hk=>h.pl k (hp k hk)⟩
theorem Mch.busPost(h:Mch w P a A g){F:AG}(h1:Bus w F a g.b)(h2: ∀k,a.wr F k∨k=a.gd→ ¬P k∧k≠A.gU∧k≠A.gB){s':Sb}{v:As}{e:AT}(hp:BPost w F a s' v e w'):e=Ax v∧Mch w' P a A ⟨s',g.l⟩∧Fr (λk=> ¬P k) w w':=by
 obtain⟨he,F',hB,hF,f⟩:=hp;have hl:=h.un.lt;have hsize:=f.size;have f2:Fr (λk=> ¬P k) w w':=f.mono (λk _ e=>(h2 k (Ag e)).1);refine⟨he,⟨⟨F',hB,λk hk=>?_⟩, ?_,h.am,h.uP,tab_fr h.tab f2 (λe=>e h.p0),h.p0,λk hk=>AW (h.pl k hk) f.size⟩,f2⟩
 ·have key:(a.wr F k∨k=a.gd)∨↑w≤k:=by
   rcases hk with(e|e|e|e|e|e)|e;·exact FI
   ·exact Jo
   ·exact GM
   ·exact Ag (Ag (Ah (Ah (Ah (Ag e)))))
   ·exact Ag (Ag (Ah (Ah (Ah (Ah (Ag e))))))
   ·rcases hF k e with e|e;·exact Ag (Ag (Ah (Ah (Ah (Ah (Ah e))))))
    ·exact Ah e
   ·exact Ag (Ah e)
  rcases key with e|e;·exact h2 k e
  ·refine⟨λq=>?_, ?_, ?_⟩;·have:=h.pl k q;omega
   ·have:=hl _ (Ag rfl);omega
   ·have:=hl _ (Ah (Ag rfl));omega
 ·have hM:=hB.M;refine⟨h.un.b.fr f (λe=>(h2 _ (Ag e)).2.1 rfl), ?_,⟨AW h.un.B.1 f.size,h.un.B.2⟩,h.un.sep⟩;rw[h.am];exact hM
theorem Mch.unPost(h:Mch w P a A g){u':Us}(hU:Un w' A u')(f:Fr A.wr w w')(htu:TuOk u'.m):Mch w' P a A (g.setU u')∧Fr (λk=> ¬P k) w w':=by
 obtain⟨F,h1,h2⟩:=h.bus;have hs: ∀k,A.wr k→(k=A.gB∨a.am.own k):=λk e=>by
  rcases e with e|e;·exact Ag e
  ·rw[h.am] at e;exact Ah e
 have f2:Fr (λk=> ¬P k) w w':=f.mono (λk _ e=>by
  rcases hs k e with e|e;·rw[e];exact h.uP.2
  ·exact(h2 k (Ag (Ah (Ah (Ah (Ah (Ag e))))))).1)
 have hM:Mem w' a.am u'.m:=by rw[←h.am];exact hU.M
 refine⟨⟨⟨F, ?_,h2⟩,hU,h.am,h.uP,tab_fr h.tab f2 (λe=>e h.p0),h.p0,λk hk=>AW (h.pl k hk) f.size⟩,f2⟩;have nn: ∀k,(a.wr F k∨k=a.gd)→ ¬a.am.own k→ ¬A.wr k:=λk hk hn e=>by
  rcases hs k e with e|e;·exact(h2 k hk).2.2 e
  ·exact hn e
 have sM:=h1.sepM;exact⟨h1.b.fr f (nn _ (Ag (Ag rfl)) (λe=>(sM _ e).1 rfl)),h1.c.fr f (nn _ (Ag (Ah (Ag rfl))) (λe=>(sM _ e).2.1 rfl)),h1.t.fr f (nn _ (Ag (Ah (Ah (Ag rfl)))) (λe=>(sM _ e).2.2.1 rfl)),h1.k.fr f (λk hk=>nn k (Ag (Ah (Ah (Ah (Ah (Ah hk)))))) (h1.sepF k hk).2.2.2.2.2),h1.d.fr f (nn _ (Ah rfl) (λe=>(sM _ e).2.2.2.1 rfl)) (nn _ (Ag (Ah (Ah (Ah (Ag rfl))))) (λe=>(sM _ e).2.2.2.2 rfl)),hM,h1.sepF,h1.sepM,⟨h1.ok.p,h1.ok.m,h1.ok.tm,h1.ok.len,h1.ok.ins,h1.ok.outs,h1.ok.sec,h1.ok.pl,h1.ok.st,htu⟩⟩
theorem Mch.memPost(h:Mch w P a A g){m':Ms}(hM:Mem w' a.am m')(f:Fr a.am.own w w')(htu:TuOk m'):Mch w' P a A ⟨{g.b with ms:=m'},g.l⟩∧Fr (λk=> ¬P k) w w':=by
 have hM2:Mem w' A.am m':=by rw[h.am];exact hM
 have f2:Fr A.am.own w w':=by rw[h.am];exact f
 exact h.unPost (h.un.setM hM2 f2) (f2.mono (λk _ e=> Ah e)) htu
end
end Gm
namespace Gm
open Fm Nt Rm By Wk Gs
def Bd(z:Int):Prop:=0≤z∧z≤4294967295
def Bl(l:List Int):Prop:= ∀z∈l,Bd z
variable{l:List Int}
theorem Bl.drop(h:Bl l):Bl l.dropLast:=λz hz=>h z (List.dropLast_subset _ hz)
theorem Bl.app{m:List Int}(h:Bl l)(h2:Bl m):Bl (l++m):=λz hz=>by
 rcases BZ.1 hz with e|e;·exact h z e
 ·exact h2 z e
theorem Bl.cons{z:Int}(h:Bd z)(h2:Bl l):Bl (z::l):=λy hy=>by
 rcases Cy.1 hy with e|e;·rw[e];exact h
 ·exact h2 y e
theorem Bl.nil:Bl []:=λz hz=>absurd hz AB
theorem Bl.top(h:Bl l):Bd (top1 l):=by
 unfold top1;rw[Dg]
 cases e:l.getLast? with
 |none=>exact⟨AB,AB⟩
 |some z=>exact h z (List.mem_of_getLast? e)
theorem Bl.top2(h:Bl l):Bd (top2 l):=h.drop.top
theorem bd0:Bd 0:=⟨O,O⟩
def Rk(s:St):Prop:=s.Ok∧s.d.length≤16∧s.r.length≤16∧s.fl≤15
variable{s:St}
theorem Rk.right(h:Rk s):s.right=Af:=by
 obtain⟨_,h1,h2,h3⟩:=h;simp[St.right,h1,h2,h3]
theorem Rk.trap(h:Rk s)(c a:Int)(hc:Bd c)(ha:Bd a):Rk (s.trap c a):=by
 obtain⟨o,h1,h2,h3⟩:=h;exact⟨⟨o.ve,o.fl,o.rt,o.ve,o.pc,hc,ha,o.ct,o.d,o.r⟩,h1,h2,h3⟩
theorem Rk.up(h:Rk s):Rk (St.up s):=by
 obtain⟨o,h1,h2,h3⟩:=h;exact⟨⟨o.pc,o.fl,o.rt,o.ve,o.ep,o.ca,o.ad,Ny,o.d,o.r⟩,h1,h2,h3⟩
theorem Rk.next(h:Rk s)(i:Ins):Rk (s.next i):=by
 obtain⟨o,h1,h2,h3⟩:=h;exact⟨⟨by show 0≤(s.pc+sizeI i.op)%4294967296∧(s.pc+sizeI i.op)%4294967296≤4294967295;omega,o.fl,o.rt,o.ve,o.ep,o.ca,o.ad,Ny,o.d,o.r⟩,h1,h2,h3⟩
theorem Rk.stacks(h:Rk s){d r:List Int}(hd:Bl d)(hr:Bl r)(ld:d.length≤16)(lr:r.length≤16):Rk {s with d:=d,r:=r}:=by
 obtain⟨o,h1,h2,h3⟩:=h;exact⟨⟨o.pc,o.fl,o.rt,o.ve,o.ep,o.ca,o.ad,o.ct,hd,hr⟩,ld,lr,h3⟩
theorem Rk.setPc(h:Rk s){p:Int}(hp:Bd p):Rk {s with pc:=p}:=by
 obtain⟨o,h1,h2,h3⟩:=h;exact⟨⟨hp,o.fl,o.rt,o.ve,o.ep,o.ca,o.ad,o.ct,o.d,o.r⟩,h1,h2,h3⟩
theorem Rk.setFl(h:Rk s){p:Int}(hp:0≤p∧p≤15):Rk {s with fl:=p}:=by
 obtain⟨o,h1,h2,h3⟩:=h;exact⟨⟨o.pc,⟨hp.1,by show p≤4294967295;omega⟩,o.rt,o.ve,o.ep,o.ca,o.ad,o.ct,o.d,o.r⟩,h1,h2,hp.2⟩
variable{i:Ins}
theorem Nz(h:check s i=0):rightI i=Af∧Gs.takeD i.op≤s.d.length∧Gs.takeR i.op≤s.r.length∧s.d.length -Gs.takeD i.op+Gs.putD i.op≤16∧s.r.length -Gs.takeR i.op+Gs.putR i.op≤16:=by
 unfold check at h;split at h;·cases h
 ·rename_i h1
  split at h;·cases h
  ·split at h;·cases h
   ·split at h;·cases h
    ·split at h;·cases h
     ·rename_i h5
      split at h;·cases h
      ·rename_i h6
       refine⟨Cp,O,O,O,O⟩
theorem Rk.stackS(h:Rk s)(hn:Bd i.n)(f1:Gs.takeD i.op≤s.d.length)(f2:Gs.takeR i.op≤s.r.length)(f3:s.d.length -Gs.takeD i.op+Gs.putD i.op≤16)(f4:s.r.length -Gs.takeR i.op+Gs.putR i.op≤16):Rk (stackS s i):=by
 have hd:Bl s.d:=h.1.d;have hr:Bl s.r:=h.1.r;have h2:=h.2.1;have h3:=h.2.2.1;obtain⟨op,n⟩:=i;have hn:Bd n:=hn;unfold Gs.stackS;simp only[] at f1 f2 f3 f4⊢;by_cases c:op=1∨op=2
 ·rw[An c];have e:Gs.takeD op=0∧Gs.putD op=1:=by rcases c with rfl|rfl<;>decide
  exact h.stacks (hd.app (Bl.nil.cons hn)) hr A8 h3
 rw[Ae c];clear c;by_cases c:op=3;·rw[An c];subst c;have e:Gs.takeD 3=1∧Gs.putD 3=2:=Ak;exact h.stacks (hd.drop.app ((Bl.nil.cons hd.top).cons hd.top)) hr A8 h3
 rw[Ae c];clear c;by_cases c:op=4;·rw[An c];exact h.stacks hd.drop hr A8 h3
 rw[Ae c];clear c;by_cases c:op=5;·rw[An c];subst c;have e:Gs.takeD 5=2∧Gs.putD 5=2:=Ak;exact h.stacks (hd.drop.drop.app ((Bl.nil.cons hd.top2).cons hd.top)) hr A8 h3
 rw[Ae c];clear c;by_cases c:op=6;·rw[An c];subst c;have e:Gs.takeD 6=2∧Gs.putD 6=3:=Ak;exact h.stacks (hd.drop.drop.app (((Bl.nil.cons hd.top2).cons hd.top).cons hd.top2)) hr A8 h3
 rw[Ae c];clear c;by_cases c:op=7;·rw[An c];subst c;have e:Gs.takeR 7=0∧Gs.putR 7=1:=Ak;exact h.stacks hd.drop (hr.app (Bl.nil.cons hd.top)) A8 A8
 rw[Ae c];clear c;by_cases c:op=8;·rw[An c];subst c;have e:Gs.takeD 8=0∧Gs.putD 8=1:=Ak;exact h.stacks (hd.app (Bl.nil.cons hr.top)) hr.drop A8 A8
 rw[Ae c];exact h
theorem sign_bd(p n:Int):Bd ((p+signI n)%4294967296):=⟨O,O⟩
theorem Rk.reckS(h:Rk s)(f1:Gs.takeD i.op≤s.d.length)(f2:Gs.takeR i.op≤s.r.length)(f3:s.d.length -Gs.takeD i.op+Gs.putD i.op≤16)(f4:s.r.length -Gs.takeR i.op+Gs.putR i.op≤16):Rk (reckS s i):=by
 have hd:Bl s.d:=h.1.d;have hr:Bl s.r:=h.1.r;have h2:=h.2.1;have h3:=h.2.2.1;obtain⟨op,n⟩:=i;unfold Gs.reckS;simp only[] at f1 f2 f3 f4⊢;by_cases c:16≤op∧op≤25
 ·rw[An c];have hf:=aluF_bd op (top2 s.d) (top1 s.d);have ha:=hd.top2;have hb:=hd.top;have hv:=Tr.aluV_bd op (top2 s.d) (top1 s.d) ha.1 (by have:=ha.2;omega) hb.1 (by have:=hb.2;omega);have hv:Bd (aluV op (top2 s.d) (top1 s.d)):=⟨hv.1,O⟩;by_cases c2:op=25;·rw[An c2];exact(h.setFl (p:=aluF op (top2 s.d) (top1 s.d)) ⟨hf.1,O⟩).stacks hd.drop.drop hr A8 h3
  ·rw[Ae c2];have e1:Gs.takeD op=2:=by unfold takeD;rw[Ae (by omega),An (by omega)]
   have e2:Gs.putD op=1:=by unfold putD;rw[An (by omega)]
   exact(h.setFl (p:=aluF op (top2 s.d) (top1 s.d)) ⟨hf.1,O⟩).stacks (hd.drop.drop.app (Bl.nil.cons hv)) hr A8 h3
 rw[Ae c];clear c;by_cases c:op=38;·rw[An c];subst c;have e:Gs.takeR 38=0∧Gs.putR 38=1:=Ak;exact(h.stacks hd (hr.app (Bl.nil.cons h.1.pc)) h2 A8).setPc (sign_bd _ _)
 rw[Ae c];clear c;by_cases c:op=32;·rw[An c];exact h.setPc (sign_bd _ _)
 rw[Ae c];clear c;by_cases c:op=39;·rw[An c];exact(h.stacks hd hr.drop h2 A8).setPc hr.top
 rw[Ae c];clear c;by_cases c:op=40;·rw[An c];exact(h.stacks hd.drop hr A8 h3).setPc hd.top
 rw[Ae c];split;·exact h.setPc (sign_bd _ _)
 ·exact h
theorem nb_bd(b:Bool):Bd (nb b):=by cases b<;>exact⟨by decide,by decide⟩
theorem getV_bd(h:Rk s)(reg:Int):Bd (getV s reg):=by
 obtain⟨o,h1,h2,h3⟩:=h;unfold getV;split;·exact nb_bd _
 split;·exact nb_bd _
 split;·exact o.rt
 split;·exact o.ve
 split;·exact o.ep
 split;·exact o.ca
 split;·exact o.ad
 split;·exact nb_bd _
 split;·exact nb_bd _
 split;·exact DC
 split;·exact o.fl
 ·exact bd0
theorem Rk.setS(h:Rk s)(reg v:Int)(hv:Bd v):Rk (setS s reg v):=by
 obtain⟨o,h1,h2,h3⟩:=h;have hv0:=hv.1;have hv1:=hv.2;unfold Gs.setS;split;·exact FJ
 split;·exact FJ
 split;·exact⟨⟨o.pc,o.fl,by show 0≤v/64*64∧v/64*64≤4294967295;omega,o.ve,o.ep,o.ca,o.ad,o.ct,o.d,o.r⟩,h1,h2,h3⟩
 split;·exact⟨⟨o.pc,o.fl,o.rt,hv,o.ep,o.ca,o.ad,o.ct,o.d,o.r⟩,h1,h2,h3⟩
 split;·exact⟨⟨o.pc,o.fl,o.rt,o.ve,hv,o.ca,o.ad,o.ct,o.d,o.r⟩,h1,h2,h3⟩
 split;·exact⟨⟨o.pc,o.fl,o.rt,o.ve,o.ep,hv,o.ad,o.ct,o.d,o.r⟩,h1,h2,h3⟩
 split;·exact⟨⟨o.pc,o.fl,o.rt,o.ve,o.ep,o.ca,hv,o.ct,o.d,o.r⟩,h1,h2,h3⟩
 split;·exact FJ
 split;·exact FJ
 split;·exact⟨⟨o.pc,by show 0≤v%16∧v%16≤4294967295;omega,o.rt,o.ve,o.ep,o.ca,o.ad,o.ct,o.d,o.r⟩,h1,h2,by show v%16≤15;omega⟩
 ·exact⟨o,h1,h2,h3⟩
end Gm
namespace Rn
open Gs Sv
structure Rs where
 s:St
 cnt:Int
 c:Int
 a:Int
 dv:Bool
structure Rp where
 g:Nat
 A:Aw
 ca:Nat
 B:Aw
 cb:Nat
def ab(A:Aw):Option Nat:=A.map (·.block)
def Rp.its(p:Rp)(k:Nat):Prop:=k=p.g∨ab p.A=I k∨ab p.B=I k
abbrev rc(x:Rs)(D R Bw Bz:As):AL:=#[J V x.s.pc,D,R,J V x.s.fl,Ap x.s.su,Ap x.s.pg,Ap x.s.ie,J V x.s.rt,J V x.s.ve,J V x.s.ep,J V x.s.ca,J V x.s.ad,Ap x.s.es,Ap x.s.ei,J AM x.s.ct,Ap x.s.ha,J AM x.cnt,Bw,Bz,J Z x.c,J V x.a,Ap x.dv]
structure RunC(w:Ac)(p:Rp)(x:Rs)(Bw Bz:As):Prop where
 b:Blk w p.g 234 (rc x (U p.A x.s.d.length p.ca) (U p.B x.s.r.length p.cb) Bw Bz)
 d:Rw w 0 (U p.A x.s.d.length p.ca) x.s.d
 r:Rw w 0 (U p.B x.s.r.length p.cb) x.s.r
 ne: ∀k,ab p.A=I k→ab p.B≠I k
 cs:x.s.d.length≤1000∧x.s.r.length≤1000
theorem own_ab{A:Aw}{n c:Nat}{k:Nat}(h:(U A n c).ownBlock=I k):ab A=I k:=N1
section
variable {w w':Ac} {p:Rp} {x:Rs} {Bw Bz:As} {S:AG} {base:Nat} {A:Aw} {n c:Nat} {zs:List Int}
theorem ab_own(h:Rw w base (U A n c) zs){k:Nat}(e:ab A=I k):(U A n c).ownBlock=I k:=by
 cases A
 ·simp[ab] at e
 ·simpa[Bp,ab] using e
theorem RunC.gA(h:RunC w p x Bw Bz):ab p.A≠I p.g:=λe=>by
 have h1:=ab_own h.d e;have:=AZ h.d h.b Ak;exact this h1
theorem RunC.gB(h:RunC w p x Bw Bz):ab p.B≠I p.g:=λe=>by
 have h1:=ab_own h.r e;have:=AZ h.r h.b Ak;exact this h1
theorem RunC.lt(h:RunC w p x Bw Bz): ∀k,p.its k→k<w.heap.size:=by
 rintro k (rfl|e|e);·exact h.b.lt
 ·exact h.d.lt k (ab_own h.d e)
 ·exact h.r.lt k (ab_own h.r e)
theorem RunC.fr(h:RunC w p x Bw Bz)(f:Fr S w w')(hs: ∀k,p.its k→ ¬S k):RunC w' p x Bw Bz:=
 ⟨h.b.fr f (hs _ (Ag rfl)),h.d.fr f (λk hk=>hs k (Ah (Ag (own_ab hk)))),h.r.fr f (λk hk=>hs k (Ah (Ah (own_ab hk)))),h.ne,h.cs⟩
theorem RunC.fr0(h:RunC w p x Bw Bz)(f:Fr Aj w w'):RunC w' p x Bw Bz:=h.fr f (λ_ _ e=>e)
theorem Rw.pop(h:Rw w base (U A n c) zs)(hz:zs≠[]):Rw w base (U A zs.dropLast.length c) zs.dropLast:=by
 obtain⟨rfl,_,_⟩:=h.reads;have hp:=CP.2 hz;obtain⟨h1,h2⟩:=h;refine⟨AB, ?_⟩;rcases h2 with⟨_,h0⟩|⟨g,cap,cur,hv,hg,hb,hc,hm,hs,ht⟩;·omega
 ·injection hv with e1 e2 e3;subst e1 e3;refine Ah ⟨g,c,cur,rfl,hg,hb,A8,hm,hs, ?_⟩;rw[List.length_dropLast,Nat.mul_one,List.map_dropLast,←ht,Nat.mul_one,List.dropLast_eq_take,List.take_take,List.length_take];congr 1;have:cur.toList.length=cur.size:=AB;omega
end
def RPost(w:Ac)(p:Rp)(x':Rs)(Bw Bz v:As)(e:AT)(w':Ac):Prop:=
 e=Ax v∧ ∃p',p'.g=p.g∧RunC w' p' x' Bw Bz∧(∀k,p'.its k→p.its k∨w.heap.size≤k)∧Fr p.its w w'
theorem last_at(zs:List Int)(hz:zs≠[]):zs.getD (zs.length -1) 0=top1 zs:=by
 unfold top1;exact N2
theorem Rw.last{w:Ac}{base n c:Nat}{A:Aw}{zs:List Int}(h:Rw w base (U A n c) zs)(hz:zs≠[]): ∃g,A=I ⟨g,0,G⟩∧g<w.heap.size∧w.cell? ⟨g,zs.length -1,G⟩=I (J V (top1 zs)):=by
 have hp:=CP.2 hz;obtain⟨_,hr,_⟩:=h.reads;obtain⟨ad,u,e,hb,hu,hc⟩:=hr.at_ (k:=zs.length -1) O;rcases h.none_ with⟨_,_,_,e2⟩|⟨g,e2⟩;·exact absurd e2 hz
 ·rw[e2] at e;injection e with e;subst e;refine⟨g,e2,hb, ?_⟩;have e3:(⟨g,0,G⟩:Addr).add (zs.length -1)=⟨g,zs.length -1,G⟩:=by
   unfold Addr.add;split;·rename_i h0;rw[h0]
   ·rw[Bn]
  rw[e3] at hc;rw[hc,←hu,←last_at zs hz];simp[AN];rw[Bj O];rfl
theorem Rw.cap{w:Ac}{base n c:Nat}{A:Aw}{zs:List Int}(h:Rw w base (U A n c) zs):zs.length≤c∧c≤Br:=by
 rcases h.2 with⟨e,h0⟩|⟨g,cap,cur,hv,hg,hb,hc,hm,_⟩;·injection e with _ _ e3;rw[e3];exact⟨O,AU _⟩
 ·injection hv with _ _ e3;rw[e3];exact⟨hc,hm⟩
theorem pop_keep(w:Ac)(p:Rp)(x:Rs)(Bw Bz:As)(h:RunC w p x Bw Bz)(hd:x.s.d≠[]):At Tryz.prog 160 #[↑p.g] w λe w'=>e=Ax (J V (top1 x.s.d))∧RunC w' p {x with s:=Gm.pop1 x.s} Bw Bz∧Fr p.its w w':=by
 obtain⟨gd,hA,hg,hc⟩:=Rw.last h.d hd;obtain⟨m,hm⟩: ∃m,x.s.d.length=m+1:=⟨x.s.d.length -1,by have:=CP.2 hd;omega⟩;have k1:=h.b.cell 1;have z1:=h.b.frozen 1;have hlen:=h.cs.1;have HP:Hid (RunC (w.setCell ⟨p.g,1,G⟩ (U p.A m p.ca)) p {x with s:=Gm.pop1 x.s} Bw Bz∧Fr p.its w (w.setCell ⟨p.g,1,G⟩ (U p.A m p.ca))):=by
  have f:Fr (· =p.g) w (w.setCell ⟨p.g,1,G⟩ (U p.A m p.ca)):=Bc _ _ _ _;have e:m=x.s.d.dropLast.length:=A8;refine T ⟨⟨?_, ?_, ?_,h.ne,⟨?_, ?_⟩⟩,f.mono (λk _ e=> .inl e)⟩;·have h1:=h.b.set_ 1 (U p.A m p.ca);rw[e] at h1⊢;simpa only[rc,Eb,List.set_cons_zero,List.set_cons_succ,Gm.pop1] using h1
  ·exact Rn.Rw.pop (h.d.fr f (λk hk e=>h.gA BO)) hd
  ·exact h.r.fr f (λk hk e=>h.gB BO)
  ·show x.s.d.dropLast.length≤1000;omega
  ·exact h.cs.2
 obtain⟨hcap,hcap2⟩:=Rw.cap h.d;rw[hm] at k1 hc hlen hcap;unfold Br at hcap2;have hcap1:m≤p.ca:=O;have hmm:m+1 -1=m:=O;rw[hmm] at hc;have hlen2:m≤1000:=O;have HA:=T hA;generalize top1 x.s.d=v at*;generalize p.A=A at*;subst hA;have HM:=T hm;clear h hd hm hmm hlen HA;go_in
 go_wp2
 go_ret;exact⟨rfl,HP.out.1,HP.out.2⟩
theorem pop_any(w:Ac)(p:Rp)(x:Rs)(Bw Bz:As)(h:RunC w p x Bw Bz)(hd:x.s.d≠[]):At Tryz.prog 160 #[↑p.g] w (RPost w p {x with s:=Gm.pop1 x.s} Bw Bz (J V (top1 x.s.d))):=
 (pop_keep w p x Bw Bz h hd).mono λ_ _ ⟨h1,h2,h3⟩=>⟨h1,p,rfl,h2,λ_ hk=> Ag hk,h3⟩
end Rn
namespace Rn
open Gs Sv
def pushL(s:St)(zs:List Int):St:={s with d:=s.d++zs}
theorem push_any(w:Ac)(p:Rp)(x:Rs)(Bw Bz:As)(h:RunC w p x Bw Bz)(B:Nat)(A':Aw)(m c':Nat)(zs:List Int)(hr:Reads w B 1 A' m (zs.map (J V)))(hl:x.s.d.length+zs.length≤1000):At Tryz.prog 159 #[↑p.g,U A' m c'] w (RPost w p {x with s:=pushL x.s zs} Bw Bz (AD #[])):=by
 obtain⟨i0,hi0,hz0,hz1,hz2⟩:=BH info32;have hm:zs.length=m:=by have:=hr.1;simpa using this
 have k1:=h.b.cell 1;have hown:w.ownsRow 0 24 1 (U p.A x.s.d.length p.ca) x.s.d.length (x.s.d.map (J V)):=h.d;have H:=T h;obtain⟨n,hn⟩:=Az x.s.d.length;rw[hn] at hown k1;have HN:=T hn;have HM:=T hm;have hl2:n+m≤1000:=O;clear h hn hm hl;go_in;go_wp2_with
  (at_builtin
   refine Ce _ rfl (.tmp 9) (.tmp 10) _ rfl 0 24 i0 _ 1 4 Tryz.underlying38 hi0 hz0 hz1 hz2 rfl O (U p.A n p.ca) n (x.s.d.map (J V)) rfl hown B A' m c' (zs.map (J V)) rfl hr DR Bu O O ?_
   intro v1 w1 hown1 hg1 hat1
   have hgg:(U p.A n p.ca).ownBlock≠I p.g:=(λe=>H.out.gA (own_ab e))
   have b1:=H.out.b.grown hg1 (λe=>hgg e.symm)
   have hv1:Rw w1 0 v1 (x.s.d++zs):=by
    have e:(x.s.d++zs).length=n+m:=by rw[BJ,HN.out,HM.out]
    unfold Rw;rw[e,Df];exact hown1
   obtain⟨A1,c1,rfl⟩:=hv1.form
   have hr1:Rw w1 0 (U p.B x.s.r.length p.cb) x.s.r:=World.ownsRow.kept H.out.r hg1 (by
    by_cases q:(U p.B x.s.r.length p.cb).ownBlock=G;·exact Ag q
    ·right;intro e;obtain⟨k,hk⟩:=Option.ne_none_iff_exists'.1 q;rw[hk] at e;exact H.out.ne k (own_ab e.symm) (own_ab hk))
   have z1:=b1.frozen 1
   have kk1:=b1.cell 1
   have HB:=T b1
   have HR:=T hr1
   have HV:=T hv1
   have HG:=T hg1
   have HA:=T hat1
   clear b1 hr1 hv1 hg1 hat1 hown1 hgg hown k1 hr)
 go_end0;have f1:Fr p.its w w1:=(Ao _ w).grown HG.out (λk hk=> Ag (Ah (Ag (own_ab hk))));have f2:Fr (· =p.g) w1 (w1.setCell ⟨p.g,1,G⟩ (U A1 (x.s.d.length+zs.length) c1)):=Bc _ _ _ _;have hgl:=H.out.b.lt;have hA1: ∀k,ab A1=I k→ab p.A=I k∨k=w.heap.size:=λk hk=>by
  have hk2:=ab_own HV.out hk;rcases HA.out with e|e;·exact Ag (own_ab (e.symm.trans hk2))
  ·rw[hk2] at e;injection e with e;exact Ah e
 have g1:ab A1≠I p.g:=λe=>by
  rcases hA1 _ e with e|e;·exact H.out.gA e
  ·omega
 refine⟨rfl,⟨p.g,A1,c1,p.B,p.cb⟩,rfl,⟨?_, ?_, ?_,λk hk hk2=>?_, ?_⟩,λk hk=>?_,f1.trans f2 (λi hi e=> .inl e)⟩;·have h1:=HB.out.set_ 1 (U A1 (x.s.d.length+zs.length) c1);simpa only[BJ,rc,Eb,List.set_cons_zero,List.set_cons_succ,pushL] using h1
 ·exact HV.out.fr f2 (λk hk e=>g1 BO)
 ·exact HR.out.fr f2 (λk hk e=>H.out.gB BO)
 ·have hk2:ab p.B=I k:=hk2;rcases hA1 _ hk with e|e;·exact H.out.ne k e hk2
  ·have:=H.out.lt k (Ah (Ah hk2));omega
 ·refine⟨?_,H.out.cs.2⟩;show(x.s.d++zs).length≤1000;rw[BJ,HN.out,HM.out];exact hl2
 ·rcases hk with e|e|e;·exact Ee
  ·rcases hA1 k e with e|e;·exact EA
   ·exact CQ
  ·exact Ag (Ah (Ah e))
theorem szS:(Tryz.prog.info? 189).map (·.size)=I 3:=AI
theorem U3(w:Ac)(p:Rp)(x:Rs)(Bw Bz:As)(h:RunC w p x Bw Bz):At Tryz.prog 214 #[↑p.g] w λe w'=>e=Ax (Mu.spv (Gm.spS x.s))∧Fr Aj w w':=by
 have f1:=(Ao Aj w).alloc (.cells #[Ap Aa,Ap Aa,J V 0] 189);have b1:=(h.fr0 f1).b;have k4:=h.b.cell 4;have k5:=h.b.cell 5;have k7:=h.b.cell 7;have hg:=h.b.lt;clear b1 f1 h;go_in;go_wp2_with fail;have b2:Blk (w.alloc (.cells #[Ap Aa,Ap Aa,J V 0] 189)) ↑w 189 #[Ap Aa,Ap Aa,J V 0]:=AH _ _ _;have B2:=T b2;have z0:=b2.frozen 0;have z1:=b2.frozen 1;have z2:=b2.frozen 2;clear b2
 go_region_held3 (λW=>W.cell? ⟨p.g,4,G⟩=I (Ap x.s.su)∧W.cell? ⟨p.g,5,G⟩=I (Ap x.s.pg)∧W.cell? ⟨p.g,7,G⟩=I (J V x.s.rt)) (go_keep) (fail)
 go_wp2_with fail;refine Bf (CJ rfl _ _ w.heap.size 189 #[Ap x.s.pg,Ap x.s.su,J V x.s.rt] _ rfl (AH _ _ _).drew Tryz.underlying189 rfl szS) rfl ⟨rfl, ?_⟩;exact((Ao _ w).alloc _).drew
end Rn
namespace Rn
open Gs Sv Gm
theorem _root_.Go.Proofs.YtpmlgdopfafcgaaGreatDoor.Gm.Mch.frMore{w w':Ac}{P P' S:AG}{a:Bs.Ab}{A:Mu.Au}{g:Mc}(h:Mch w P a A g)(f:Fr S w w')(hs: ∀k,S k→P k)(h0: ¬S 0)(hp: ∀k,P' k→P k∨(w.heap.size≤k∧k<w'.heap.size))(h1:P' 0):Mch w' P' a A g:=by
 obtain⟨F,b1,b2,b3⟩:=h.lt;have hl:=h.un.lt;have h2:=h.fr f hs h0;refine⟨⟨F,b1.fr f (λk hk e=>(b2 k hk).1 (hs k e)),λk hk=>⟨λe=>?_,(b2 k hk).2⟩⟩,h2.un,h2.am,⟨λe=>?_,λe=>?_⟩,h2.tab,h1,λk hk=>?_⟩
 ·rcases hp k e with e|e;·exact(b2 k hk).1 e
  ·have:=b3 k hk;omega
 ·exact Jm
 ·exact Jn
 ·exact N3
structure Dn(w:Ac)(p:Rp)(x:Rs)(P:AG)(a:Bs.Ab)(A:Mu.Au)(g:Mc):Prop where
 rn:RunC w p x ↑A.gU ↑a.gB
 mc:Mch w P a A g
 ip: ∀k,p.its k→P k
 n0: ¬p.its 0
structure Lk(w w':Ac)(p p':Rp)(P P':AG):Prop where
 g:p'.g=p.g
 up: ∀k,P k→P' k
 dn: ∀k,P' k→P k∨w.heap.size≤k
 it: ∀k,p'.its k→p.its k∨w.heap.size≤k
 f:Fr (λk=>p.its k∨ ¬P k) w w'
theorem Lk.tr{w w1 w2:Ac}{p p1 p2:Rp}{P P1 P2:AG}(h:Lk w w1 p p1 P P1)(k:Lk w1 w2 p1 p2 P1 P2):Lk w w2 p p2 P P2:=by
 have hs:=h.f.size;refine⟨k.g.trans h.g,λi hi=>k.up i (h.up i hi),λi hi=>?_,λi hi=>?_,h.f.trans k.f (λi hi e=>?_)⟩
 ·rcases k.dn i hi with e|e;·exact h.dn i e
  ·exact CQ
 ·exact N4
 ·rcases e with e|e
  ·rcases h.it i e with e|e;·exact Ag e
   ·omega
  ·exact Ah (λq=>e (h.up i q))
theorem Lk.fr0{w w':Ac}{p:Rp}{P:AG}(f:Fr Aj w w'):Lk w w' p p P P:=⟨rfl,λ_ h=>h,λ_ h=> Ag h,λ_ h=> Ag h,f.mono (λ_ _ e=>e.elim)⟩
theorem Lk.frP{w w':Ac}{p:Rp}{P:AG}(f:Fr (λk=> ¬P k) w w'):Lk w w' p p P P:=⟨rfl,λ_ h=>h,λ_ h=> Ag h,λ_ h=> Ag h,f.mono (λ_ _ e=> Ah e)⟩
theorem Lk.frI{w w':Ac}{p:Rp}{P:AG}(f:Fr p.its w w'):Lk w w' p p P P:=⟨rfl,λ_ h=>h,λ_ h=> Ag h,λ_ h=> Ag h,f.mono (λ_ _ e=> Ag e)⟩
def DPost(w:Ac)(p:Rp)(P:AG)(a:Bs.Ab)(A:Mu.Au)(x':Rs)(g':Mc)(v:As)(e:AT)(w':Ac):Prop:=
 e=Ax v∧ ∃p' P',Lk w w' p p' P P'∧Dn w' p' x' P' a A g'
section
variable {w w' w2:Ac} {p:Rp} {x x':Rs} {P:AG} {a:Bs.Ab} {A:Mu.Au} {g g' g2:Mc} {v:As} {e:AT}
theorem Dn.fr0(h:Dn w p x P a A g)(f:Fr Aj w w'):Dn w' p x P a A g:=⟨h.rn.fr0 f,h.mc.fr0 f,h.ip,h.n0⟩
theorem Dn.ofR(h:Dn w p x P a A g)(hr:RPost w p x' ↑A.gU ↑a.gB v e w'):DPost w p P a A x' g v e w':=by
 obtain⟨he,p',hg,hR,hi,f⟩:=hr;refine⟨he,p',λk=>P k∨p'.its k,⟨hg,λk hk=> Ag hk,λk hk=>?_,hi,f.mono (λk _ e=> Ag e)⟩,⟨hR, ?_,λk hk=> Ah hk,λe0=>?_⟩⟩
 ·rcases hk with e|e;·exact Ag e
  ·rcases hi k e with e|e;·exact Ag (h.ip k e)
   ·exact Ah e
 ·refine h.mc.frMore f h.ip h.n0 (λk hk=>?_) (Ag h.mc.p0);rcases hk with e|e;·exact Ag e
  ·rcases hi k e with e2|e2;·exact Ag (h.ip k e2)
   ·exact Ah ⟨e2,hR.lt k e⟩
 ·rcases hi 0 e0 with e1|e1;·exact h.n0 e1
  ·have:=h.mc.tab.1;omega
theorem DPost.tr{p':Rp}{P':AG}{v':As}(l:Lk w w' p p' P P')(h:DPost w' p' P' a A x' g' v' e w2):DPost w p P a A x' g' v' e w2:=by
 obtain⟨he,p2,P2,l2,d⟩:=h;exact⟨he,p2,P2,l.tr l2,d⟩
end
theorem Dn.placed{w W2 w3 W:Ac}{p:Rp}{x:Rs}{P:AG}{a:Bs.Ab}{A:Mu.Au}{g:Mc}{u':Mu.Us}{gt:Nat}(H:Dn w p x P a A g)(F:Fr Aj w W2)(hU:Mu.Un w3 A u')(f3:Fr A.wr W2 w3)(htu:Mu.TuOk u'.m)(hg:↑w≤gt)(hg2:gt<↑W2)(ft:Fr (· =gt) w3 W):Dn W p x (λk=>P k∨k=gt) a A (g.setU u')∧Fr (λk=> ¬P k) w W:=by
 have hne: ∀k,p.its k→k≠gt:=λk hk e=>by have:=H.rn.lt k hk;omega
 have hP: ∀k,P k→k≠gt:=λk hk e=>by have:=H.mc.pl k hk;omega
 have M2:Mch W2 (λk=>P k∨k=gt) a A g:=H.mc.more F (λk hk=>by rcases hk with e|e;exact Ag e;exact Ah ⟨by omega,by omega⟩) (Ag H.mc.p0);obtain⟨M3,f4⟩:=M2.unPost hU f3 htu;have g0: ¬(0:Nat)=gt:=hP 0 H.mc.p0;have R2:=H.rn.fr0 F;have R3:=R2.fr f4 (λk hk e=>e (Ag (H.ip k hk)));refine⟨⟨R3.fr ft hne,M3.fr ft (λk e=> Ah e) g0,λk hk=> Ag (H.ip k hk),H.n0⟩, ?_⟩;refine((F.mono (S':=λk=> ¬P k) (λ_ _ e=>e.elim)).trans f4 (λi hi e q=>e (Ag q))).trans ft (λi hi e q=>?_);exact hP i q e
theorem Dn.placed2{w W2 w3:Ac}{p:Rp}{x:Rs}{P:AG}{a:Bs.Ab}{A:Mu.Au}{g:Mc}{u':Mu.Us}(o:Obj)(H:Dn w p x P a A g)(F:Fr Aj w W2)(hU:Mu.Un w3 A u')(f3:Fr A.wr W2 w3)(htu:Mu.TuOk u'.m):Dn (w3.alloc o) p x (λk=>P k∨k=w3.heap.size) a A (g.setU u')∧Fr (λk=> ¬P k) w (w3.alloc o):=by
 have M2:Mch W2 P a A g:=H.mc.fr0 F;obtain⟨M3,f4⟩:=M2.unPost hU f3 htu;have R3:=(H.rn.fr0 F).fr f4 (λk hk e=>e (H.ip k hk));have fa:Fr Aj w3 (w3.alloc o):=(Ao _ _).alloc _;refine⟨⟨R3.fr0 fa,M3.more fa (λk hk=>?_) (Ag M3.p0),λk hk=> Ag (H.ip k hk),H.n0⟩,((F.mono (S':=λk=> ¬P k) (λ_ _ e=>e.elim)).trans f4 (λi hi e=>e)).trans fa (λi hi e=>e.elim)⟩;rcases hk with e|e;·exact Ag e
 ·exact Ah ⟨O,A8⟩
theorem Dn.laidT{W:Ac}{p:Rp}{x:Rs}{P:AG}{a:Bs.Ab}{A:Mu.Au}{g:Mc}(H:Dn W p x P a A g)(c ad:Int)(dv:Bool):Dn (((W.setCell ⟨p.g,19,G⟩ (J Z c)).setCell ⟨p.g,20,G⟩ (J V ad)).setCell ⟨p.g,21,G⟩ (Ap dv)) p {x with c:=c,a:=ad,dv:=dv} P a A g∧Fr p.its W (((W.setCell ⟨p.g,19,G⟩ (J Z c)).setCell ⟨p.g,20,G⟩ (J V ad)).setCell ⟨p.g,21,G⟩ (Ap dv)):=by
 have f:Fr (· =p.g) W (((W.setCell ⟨p.g,19,G⟩ (J Z c)).setCell ⟨p.g,20,G⟩ (J V ad)).setCell ⟨p.g,21,G⟩ (Ap dv)):=(((Ao _ W).at_ 19 _).at_ 20 _).at_ 21 _;refine⟨⟨⟨?_,H.rn.d.fr f (λk hk e=>H.rn.gA BO),H.rn.r.fr f (λk hk e=>H.rn.gB BO),H.rn.ne,H.rn.cs⟩,H.mc.fr f (λk e=>H.ip k (Ag e)) (λe=>H.n0 (Ag e)),H.ip,H.n0⟩,f.mono (λk _ e=> Ag e)⟩;have h1:=((H.rn.b.set_ 19 (J Z c)).set_ 20 (J V ad)).set_ 21 (Ap dv);exact GN
theorem Dn.sepU{w:Ac}{p:Rp}{x:Rs}{P:AG}{a:Bs.Ab}{A:Mu.Au}{g:Mc}(H:Dn w p x P a A g): ∀k,p.its k→ ¬A.wr k:=λk hk e=>by
 have hP:=H.ip k hk;rcases e with e|e;·exact H.mc.uP.2 (e▸hP)
 ·obtain⟨F,_,h2⟩:=H.mc.bus;rw[H.mc.am] at e;exact(h2 k (Ag (Ah (Ah (Ah (Ah (Ag e))))))).1 hP
theorem cell_far{w:Ac}{p q:Addr}{v:As}{u:As}(h:w.cell? q=I v)(ne:q.block≠p.block):(w.setCell p u).cell? q=I v:=(World.cell?_setCell_other w p q u (λe=>ne (by rw[e]))).trans h
theorem U4(w:Ac)(p:Rp)(x:Rs)(P:AG)(a:Bs.Ab)(A:Mu.Au)(g:Mc)(h:Dn w p x P a A g)(hpg:x.s.pg=Aa)(at_ k:Int)(hd:devOk at_=Af)(hk:k=2∨k=3):At Tryz.prog 209 #[↑p.g,J V at_,J Z k] w (DPost w p P a A {x with c:=0,a:=0,dv:=Af} g (AD #[J V at_,Ap Af])):=by
 simp only[devOk,Mu.devB,Bool.and_eq_true,decide_eq_true_eq] at hd;obtain⟨⟨hal,hp8,hp9⟩,_⟩:=hd;obtain⟨r,hr⟩:=Az (Mu.placeR g.u (spS x.s) at_ k);have er:r=⟨at_,0,0,g.u⟩:=by
  rw[←hr];unfold Mu.placeR Mu.thereB Mu.devB;rw[An (by rcases hk with rfl|rfl<;>simp[hp8,hp9])]
 have htu:Mu.TuOk r.u.m:=by rw[er];exact h.mc.tu
 have Hs:=T (λW (f:Fr Aj w W)=>U3 W p x _ _ (h.fr0 f).rn);have Hp:=T (λW (f:Fr Aj w W)=>Mu.place_any W A g.u (h.fr0 f).mc.un (spS x.s) hpg at_ k O O (Ah hk));rw[hr] at Hp;have hrm:(at_%4 !=0)=Aa:=by simp[hal]
 have ku:=h.rn.b.cell 17;have kb:=h.rn.b.cell 18;have H:=T h;have HTU:=T htu;have hgl:=h.rn.b.lt;have ER:=T er;have a0:0≤at_:=O;have a1:at_≤4294967295:=O;have hcb:(r.c==0)=Af:=by rw[er];rfl
 have hpb:decide (32768≤r.p)=Af:=by rw[er];simp[hp8]
 clear h er hal htu hr hk hpg hp8 hp9;go_in;go_upto_region 7 with(fail);go_region_held (λW=>W.cell? ⟨p.g,17,G⟩=I ↑A.gU) (first|exact s2|exact s3|go_keep|exact cell_far (cell_far s3 N5) N5)
  (first
  |((refine(Hs.out _ (by first|exact(Ao _ w).drew|exact((Ao _ w).drew).alloc _)).mono ?_);rintro e w2 ⟨rfl,f2⟩;have F2:Hid (Fr Aj w w2):=T (by first|exact(Ao _ w).drew.tr f2|exact(((Ao _ w).drew).alloc _).tr f2);have D2:=T (H.out.fr0 F2.out);have s2:=D2.out.rn.b.cell 17;have hs2:=F2.out.size;have hs3:p.g≠↑w2:=O;have G2:=T f2;clear f2)
  |((refine(Hp.out _ (by first|exact F2.out|exact F2.out.alloc _)).mono ?_);rintro e w3 ⟨rfl,hU,f3⟩;have HM:=T (A9 hU f3);have RR3:Hid (RunC w3 p x ↑A.gU ↑a.gB):=T (by first|exact D2.out.rn.fr f3 D2.out.sepU|exact(D2.out.rn.fr0 ((Ao _ w2).alloc _)).fr f3 D2.out.sepU);have s3:=RR3.out.b.cell 17;(first|(have bx:Blk w3 ↑w 185 #[J Z 0,J V 0]:=((AH w.drew 185 #[J Z 0,J V 0]).fr G2.out id).fr f3 (λe=>by have:=H.out.mc.un.lt _ (Ah e);simp at this);have zx0:=bx.frozen 0;have zx1:=bx.frozen 1;have zc0:=bx.cell 0;have zc1:=bx.cell 1;have BX:=T bx;clear bx)|(have bx:Blk w3 ↑w2 185 #[J Z 0,J V 0]:=(AH w2 185 #[J Z 0,J V 0]).fr f3 (λe=>by have:=D2.out.mc.un.lt _ (Ah e);simp at this);have zx0:=bx.frozen 0;have zx1:=bx.frozen 1;have zc0:=bx.cell 0;have zc1:=bx.cell 1;have BX:=T bx;clear bx)|skip);clear hU f3))
 ·have bt:Blk (w3.alloc (.cells #[J Z r.c,J V r.a] 185)) ↑w3 185 #[J Z r.c,J V r.a]:=AH _ _ _;have hD:Dn (w3.alloc (.cells #[J Z r.c,J V r.a] 185)) p x (λk=>P k∨k=w3.heap.size) a A (g.setU r.u)∧Fr (λk=> ¬P k) w (w3.alloc (.cells #[J Z r.c,J V r.a] 185)):=H.out.placed2 _ F2.out HM.out.1 HM.out.2 HTU.out;have y19:=RR3.out.b.frozen 19;have y20:=RR3.out.b.frozen 20;have y21:=RR3.out.b.frozen 21;have x19:=RR3.out.b.cell 19;have x20:=RR3.out.b.cell 20;have x21:=RR3.out.b.cell 21;have hg3:=RR3.out.b.lt;have hng:p.g≠↑w3:=by have:=HM.out.2.size;omega
  have hs23:w2.heap.size≤w3.heap.size:=HM.out.2.size;have HD:=T hD;clear hD s2 s3 HM bt;go_wp2_with fail;go_quiet (fail)
  go_wp2
  go_ret2;have hL:=HD.out.1.laidT r.c r.a Af;rw[World.setCell_alloc_past _ _ _ _ hg3,World.setCell_alloc_past _ _ _ _ (by simpa using hg3),World.setCell_alloc_past _ _ _ _ (by simpa using hg3)] at hL;obtain rfl:=ER.out;refine⟨rfl,p,λk=>P k∨k=w3.heap.size,⟨rfl,λk hk=> Ag hk,λk hk=>?_,λk hk=> Ag hk, ?_⟩, ?_⟩
  ·rcases hk with e|e;·exact Ag e
   ·exact Ah (by rw[e];exact AS hs2 (hs23))
  ·exact Jp
  ·exact Jq
 ·have bt:Blk ((w3.setCell ⟨↑w2,0,G⟩ (J Z r.c)).setCell ⟨↑w2,1,G⟩ (J V r.a)) ↑w2 185 #[J Z r.c,J V r.a]:=(BX.out.set_ 0 (J Z r.c)).set_ 1 (J V r.a);have hD:Dn ((w3.setCell ⟨↑w2,0,G⟩ (J Z r.c)).setCell ⟨↑w2,1,G⟩ (J V r.a)) p x (λk=>P k∨k=w2.heap.size) a A (g.setU r.u)∧Fr (λk=> ¬P k) w ((w3.setCell ⟨↑w2,0,G⟩ (J Z r.c)).setCell ⟨↑w2,1,G⟩ (J V r.a)):=H.out.placed (gt:=w2.heap.size) (F2.out.alloc _) HM.out.1 HM.out.2 HTU.out hs2 AB (((Ao _ _).at_ 0 _).at_ 1 _);have y19:=RR3.out.b.frozen 19;have y20:=RR3.out.b.frozen 20;have y21:=RR3.out.b.frozen 21;have x19:=RR3.out.b.cell 19;have x20:=RR3.out.b.cell 20;have x21:=RR3.out.b.cell 21;have hg3:=RR3.out.b.lt;have hng:p.g≠↑w2:=by exact hs3
  have HD:=T hD;clear hD s2 s3 HM bt;go_wp2_with fail;go_quiet (fail)
  go_wp2
  go_ret2;have hL:=HD.out.1.laidT r.c r.a Af;obtain rfl:=ER.out;refine⟨rfl,p,λk=>P k∨k=w2.heap.size,⟨rfl,λk hk=> Ag hk,λk hk=>?_,λk hk=> Ag hk, ?_⟩, ?_⟩
  ·rcases hk with e|e;·exact Ag e
   ·exact Ah (by rw[e];exact hs2)
  ·exact Jp
  ·exact Jq
 ·have bt:Blk ((w3.setCell ⟨↑w,0,G⟩ (J Z r.c)).setCell ⟨↑w,1,G⟩ (J V r.a)) ↑w 185 #[J Z r.c,J V r.a]:=(BX.out.set_ 0 (J Z r.c)).set_ 1 (J V r.a);have hD:Dn ((w3.setCell ⟨↑w,0,G⟩ (J Z r.c)).setCell ⟨↑w,1,G⟩ (J V r.a)) p x (λk=>P k∨k=w.heap.size) a A (g.setU r.u)∧Fr (λk=> ¬P k) w ((w3.setCell ⟨↑w,0,G⟩ (J Z r.c)).setCell ⟨↑w,1,G⟩ (J V r.a)):=H.out.placed (gt:=w.heap.size) F2.out HM.out.1 HM.out.2 HTU.out (AE _) (by have:=G2.out.size;simp at this;omega) (((Ao _ _).at_ 0 _).at_ 1 _);have y19:=RR3.out.b.frozen 19;have y20:=RR3.out.b.frozen 20;have y21:=RR3.out.b.frozen 21;have x19:=RR3.out.b.cell 19;have x20:=RR3.out.b.cell 20;have x21:=RR3.out.b.cell 21;have hg3:=RR3.out.b.lt;have hng:p.g≠↑w:=O;have HD:=T hD;clear hD s2 s3 HM bt;go_wp2_with fail;go_quiet (fail)
  go_wp2
  go_ret2;have hL:=HD.out.1.laidT r.c r.a Af;obtain rfl:=ER.out;refine⟨rfl,p,λk=>P k∨k=w.heap.size,⟨rfl,λk hk=> Ag hk,λk hk=>?_,λk hk=> Ag hk, ?_⟩, ?_⟩
  ·rcases hk with e|e;·exact Ag e
   ·exact Ah (by rw[e];exact AE _)
  ·exact Jp
  ·exact Jq
end Rn
namespace Rn
open Gs Sv Gm Rm
def toRs(r:Gm.Rn)(cnt:Int):Rs:=⟨r.s,cnt,r.c,r.a,r.dv⟩
structure Ready(x:Rs):Prop where
 c:x.c=0
 a:x.a=0
 dv:x.dv=Aa
 k:Rk x.s
 cnt:0≤x.cnt∧x.cnt≤18446744073709551615
theorem Jr(w:Ac)(p:Rp)(x:Rs)(Bw Bz:As)(h:RunC w p x Bw Bz)(g:Nat)(v:Int)(hb:Blk w g 24 #[J V v])(hl:x.s.d.length≤999):At Tryz.prog 159 #[↑p.g,U (I ⟨g,0,G⟩) 1 1] w (RPost w p {x with s:=push1 x.s v} Bw Bz (AD #[])):=
 push_any w p x Bw Bz h (g+1) _ 1 1 [v] (Cn (size:=1) (n:=1) hb rfl) (by simpa using hl)
end Rn
end Go.Proofs.YtpmlgdopfafcgaaGreatDoor
