import Derived.Test.YtdfegdoeebaagaaGreatDoorX21
open Go.Value renaming slice→Z,int→J,bool→Ap,tuple→AF,oneCell'→Ir
open Option renaming some→I,none→G
open Go.IntKind renaming i64→U
open Go renaming World→Aa,Value→As,Calls→At,TypeId→AN,Ending→AY,info_parts→Cj,maxLen→BQ
open Bool renaming false→Ac,true→Ag
open List renaming getD_eq_getElem?_getD→AS,getElem?_eq_getElem→BK,getElem?_take_of_lt→Dq,getElem_mem→CE,getElem?_append_right→Ex,getElem?_map→DP,getElem?_append_left→Ff,length_map→Fo
open Go.Ending renaming returned→Ax
open And renaming intro→Ay
open Nat renaming lt_of_lt_of_le→Bg,zero_add→BW
open Or renaming inl→Af,inr→Ah
open Go.Proofs.Tryz renaming underlying85→FV
open Go.RowKit renaming intOf→AM
open Array renaming getElem?_toList→DV
open Int renaming toNat_natCast→Du
set_option linter.all false
set_option maxHeartbeats 40000000
set_option maxRecDepth 1000000
open Go Go.RowKit
namespace Go.Proofs.YtdfegdoeebaagaaGreatDoor
namespace Sw
open Gs Sv Tr Em Ip Lo
def EM(u:Nat→Bool)(zs:List Int):Nat→Bool:=zs.foldl Fg u
theorem Zv(u:Nat→Bool)(l:List Nat):EM u (l.map λ(n:Nat)=>(n:Int))=Gy u l:=by
 unfold EM Gy;rw[List.foldl_map];congr 1
def RowZ(w:Aa)(gu:Nat)(A:Aw)(n:Nat)(zs:List Int):Prop:=0<n→ ∃b o,A=I ⟨b,o,G⟩∧b≠gu∧b<w.heap.size∧ ∀i,i<n→w.cell? ⟨b,o+i,G⟩=I (J U (zs.getD i 0))
variable{w:Aa}{n:Nat}{A:Aw}
theorem RowZ.fr{w':Aa}{gu:Nat}{zs:List Int}(h:RowZ w gu A n zs)(f:Fr (· =gu) w w'):RowZ w' gu A n zs:=λhn=>by
 obtain⟨b,o,e,hb,hl,hc⟩:=h hn;exact⟨b,o,e,hb,Bg hl f.size,λi hi=>f.cell (hc i hi) hl hb⟩
variable{c:Nat}
theorem RowZ.of64{B gu:Nat}{f:Nat→Int}{zs:List Int}(h:At64 w B (Z A n c) n f)(hB:B≤↑w)(hg:B≤gu)(e: ∀i,i<n→f i=zs.getD i 0):RowZ w gu A n zs:=λhn=>by
 obtain⟨b,o,c',e2,_,hb,hc⟩:=h hn;injection e2 with e3;exact⟨b,o,e3,O,O,λi hi=>by rw[hc i hi,e i hi]⟩
theorem oA(u:Nat→Bool)(zs:List Int)(k:Nat)(h:k<zs.length):EM u (zs.take (k+1))=Fg (EM u (zs.take k)) (zs.getD k 0):=by
 have e:zs.take (k+1)=zs.take k++[zs.getD k 0]:=by
  rw[AS,BK h,List.take_succ_eq_append_getElem h];rfl
 rw[e];unfold EM;rw[List.foldl_append];rfl
theorem MD(w:Aa)(gv gu N c0:Nat)(u:Nat→Bool)(A:Aw)(n c:Nat)(zs:List Int)(hv:w.cell? ⟨gv,0,G⟩=I (Z (I ⟨gu,0,G⟩) N c0))(hvl:gv<↑w)(hne:gv≠gu)(hu:Cells w gu 4 N (λi=> Ap (u i)))(hz:RowZ w gu A n zs)(hn:zs.length=n)(hb: ∀z∈zs,z= -1∨(0≤z∧z<N))(h64:n≤100)(hN:N≤c0)(hN2:N≤1000):At Tryz.prog 187 #[Z A n c,↑gv] w λe w'=>e=Ax (AF #[])∧Cells w' gu 4 N (λi=> Ap (EM u zs i))∧Fr (· =gu) w w':=by
 have HZ:=T hz;have HU:=T hu;have HB:=T hb;have HN:=T hn;have HV:=T hv;clear hz hu hb hn hv;go_in;go_wp2_with fail;go_loopw [7] (λi wr=> ∃k:Nat,k≤n∧i=J U k∧Hid (Cells wr gu 4 N (λi=> Ap (EM u (zs.take k) i)))∧Hid (Fr (· =gu) w wr)) (λi _=>n -(AM i).toNat)
 case atStart=>exact⟨0,O,rfl,T HU.out,T (Ao _ _)⟩
 case round=>
  obtain⟨k,hk,rfl,hC,hF⟩:=hrel;by_cases hlt:k<n
  ·obtain⟨b,o,rfl,hbg,hbl,hcell⟩:=(HZ.out.fr hF.out) O;have ck:=hcell k hlt;have hkl:k<zs.length:=ME;have hzk:=HB.out (zs.getD k 0) Lj;have HS:Hid (EM u (zs.take (k+1))=Fg (EM u (zs.take k)) (zs.getD k 0)):=T (oA u zs k hkl);have cv:wr.cell? ⟨gv,0,G⟩=I (Z (I ⟨gu,0,G⟩) N c0):=hF.out.cell HV.out hvl hne;have hvl2:gv<↑wr:=Bg hvl hF.out.size;clear hcell hkl;obtain⟨z,hz⟩:=A8 (zs.getD k 0);rw[hz] at ck hzk HS;clear hz;rcases hzk with rfl|⟨z0,z1⟩
   ·go_wp2
    go_roundw
    case rel=>exact⟨k+1,O,Bn,T (by rw[HS.out];exact hC.out),hF⟩
    case measure=>simp[AM];omega
   ·obtain⟨q,rfl⟩: ∃q:Nat,z=q:=⟨z.toNat,O⟩;have hq:q<N:=O;have hne2:=RG;have hne3:=RH;have cq:=hC.out.cell q hq;have yq:=hC.out.frozen q;have hul:=hC.out.lt
    go_wp2
    go_roundw;case rel=>
     refine⟨k+1,O,Bn,T ?_,T (hF.out.setCell (p:=⟨gu,q,G⟩) (Af rfl) _)⟩;rw[HS.out];refine(hC.out.set_ q (Ap Ag)).congr (λi hi=>?_);have h1:Fg (EM u (zs.take k)) (q:Int)=upB (EM u (zs.take k)) q:=by unfold Fg;rw[Ae (by omega),Du]
     rw[h1];unfold Bz upB;by_cases e:i=q;·simp[e]
     ·simp[e]
    case measure=>simp[AM];omega
  ·obtain rfl:k=n:=O
   go_wp2
   go_end0;refine⟨rfl, ?_,hF.out⟩;have:=hC.out;rwa[←HN.out,List.take_length] at this
theorem iis_at: ∀(l:List IIn) (k:Nat),k<l.length→ ∀j,j<5→(iis l)[k*5+j]?=(iiA (Tr.at_ l k))[j]?
 |i::l,0,_,j,hj=>by
  show((iiA i).toList++iis l)[0*5+j]?=_;rw[Ff AA];have e:0*5+j=j:=O;rw[e];simp[Tr.at_]
 |i::l,k+1,h,j,hj=>by
  show((iiA i).toList++iis l)[(k+1)*5+j]?=_;rw[Ex AA];have e:(k+1)*5+j -(iiA i).toList.length=k*5+j:=AA;rw[e,iis_at l k D7 j hj];rfl
variable{base:Nat}
theorem AtI.of{l:List IIn}(h:w.ownsRow base 266 5 (Z A n c) l.length (iis l)):AtI w ↑w A l:=by
 intro k hk;rcases h.2 with⟨e,h0⟩|⟨g,cap,cur,hv,hg,hb,hc,hm,hs,ht⟩;·omega
 ·injection hv with e1 e2 e3;subst e1;have hb:Blk w g 266 cur:=hb;have key: ∀j,j<5→w.cell? ⟨g,k*5+j,G⟩=(iiA (Tr.at_ l k))[j]?:=λj hj=>by
   rw[hb.cell,←iis_at l k hk j hj,←ht];exact XU
  exact XV
theorem own_cap{s:Nat}{t:AN}{xs:List As}(h:w.ownsRow base t s (Z A n c) n xs):n≤c:=by
 rcases h.2 with⟨e,h0⟩|⟨g,cap,cur,hv,hg,hb,hc,hm,hs,ht⟩;·omega
 ·injection hv with e1 e2 e3;omega
theorem At64.of{l:List Nat}(h:w.ownsRow base 3 1 (Z A n c) n (fxV l))(hl:l.length=n):At64 w ↑w (Z A n c) n (λi=>(l.getD i 0:Nat)):=λh0=>by
 obtain⟨g,cap,cur,hv,hg,hb,hc,hm,hs,ht⟩:=EQ h h0;refine⟨g,0,cap,hv,hc,hb.lt,λi hi=>?_⟩;rw[BW,hb.cell i,←DV,←Dq (show i<n*1 by omega),ht];show _=I (J U ((l.getD i 0:Nat):Int));unfold fxV;rw[DP,BK (show i<l.length by omega),AS,BK (show i<l.length by omega)];rfl
def O0(w:Aa)(l:List Nat)(e:AY)(w':Aa):Prop:= ∃A c,e=Ax (Z A l.length c)∧w'.ownsRow ↑w 3 1 (Z A l.length c) l.length (fxV l)∧Fr Aj w w'
theorem oB(w:Aa)(B gv gp N c0:Nat)(pl:Nat→Nat)(A:Aw)(c:Nat)(l:List Nat)(hv:w.cell? ⟨gv,0,G⟩=I (Z (I ⟨gp,0,G⟩) N c0))(hvl:gv<↑w)(hp:Cells w gp 3 N (λi=> J U (pl i:Nat)))(hl:At64 w B (Z A l.length c) l.length (λi=>(l.getD i 0:Nat)))(hB:B≤↑w)(hb: ∀z∈l,z<N)(h64:l.length≤100)(hN:N≤c0)(hN2:N≤1000):At Tryz.prog 188 #[Z A l.length c,↑gv] w (O0 w (l.map pl)):=by
 obtain⟨i0,hi0,hz0,hz1,hz2⟩:=Cj I0;have HZ:=T hl;have HU:=T hp;have HB:=T hb;have HV:=T hv;obtain⟨n,hn⟩:=A8 l.length;have HN:=T hn;rw[hn] at h64⊢;clear hl hp hb hv hn;go_in;go_wp2_with fail;go_loopw [9,4] (λi v wr=> ∃(k:Nat) (A':Aw) (c':Nat),k≤n∧i=J U k∧v=Z A' k c'∧Hid (wr.ownsRow ↑w 3 1 (Z A' k c') k (fxV ((l.map pl).take k)))∧Hid (Fr Aj w wr)) (λi _ _=>n -(AM i).toNat)
 case atStart=>exact⟨0,G,0,O,rfl,rfl,T ⟨rfl,Af ⟨rfl,rfl⟩⟩,T (Ao _ _)⟩
 case round=>
  obtain⟨k,A',c',hk,rfl,rfl,hO,hF⟩:=hrel;by_cases hlt:k<n
  ·have hkl:k<l.length:=ME;obtain⟨b,o,c2,e2,_,hbB,hcell⟩:=(HZ.out.fr hF.out hB (λ_ _ e=>e)) O;have e3:A=I ⟨b,o,G⟩:=by injection e2
   clear e2;subst e3;have ck:=hcell k hkl;have hbl:b<↑wr:=QV;have hzk:=HB.out (l.getD k 0) Lj;have HS:Hid ((l.map pl).take (k+1)=(l.map pl).take k++[pl (l.getD k 0)]):=T (by
    rw[List.take_succ_eq_append_getElem (by simpa using hkl),List.getElem_map,AS,BK hkl];rfl)
   have cv:wr.cell? ⟨gv,0,G⟩=I (Z (I ⟨gp,0,G⟩) N c0):=hF.out.cell HV.out hvl id;have hvl2:gv<↑wr:=Bg hvl hF.out.size;have hP:=HU.out.fr hF.out id;obtain⟨q,hq⟩:=A8 (l.getD k 0);dsimp only at ck;rw[hq] at ck hzk HS;have cq:=hP.cell q hzk;have hpl:=hP.lt;have HO:=T (DU hO.out (.cells #[J U (pl q:Nat)] 3));have hrd:Hid (Reads (wr.alloc (.cells #[J U (pl q:Nat)] 3)) (↑wr+1) 1 (I ⟨↑wr,0,G⟩) 1 [J U (pl q:Nat)]):=T (Do (AI wr 3 #[J U (pl q:Nat)]) rfl);have hsz:=hF.out.size;clear hcell hkl hP hq;go_wp2_with
    (at_builtin
     refine CU _ rfl (.tmp 13) (.tmp 18) _ rfl w.heap.size 3 i0 _ 1 8 FV hi0 hz0 hz1 hz2 rfl O (Z A' k c') k (fxV ((l.map pl).take k)) rfl HO.out (wr.heap.size+1) (I ⟨wr.heap.size,0,G⟩) 1 1 [J U (pl q:Nat)] rfl hrd.out Ei Cc O AA ?_
     intro v1 w3 hown1 hg1 hat1
     obtain⟨A3,c3,rfl⟩:=Et hown1
     have HX:=T (Ay hown1 hg1)
     clear hown1 hg1 hat1)
   go_roundw;case rel=>
    refine⟨k+1,A3,c3,O,Bn,rfl,T ?_,T ((hF.out.alloc _).grown HX.out.2 (λq hq=> Ah (Cn hO.out q hq)))⟩;have e:fxV ((l.map pl).take (k+1))=fxV ((l.map pl).take k)++[J U (pl q:Nat)]:=by rw[HS.out];simp[fxV]
    rw[e];exact HX.out.1
   case measure=>simp[AM];omega
  ·obtain rfl:k=n:=O
   go_wp2
   go_ret;have hm:(l.map pl).length=k:=by rw[Fo,HN.out]
   refine⟨A',c',by rw[hm];rfl, ?_,hF.out⟩;rw[hm];have:=hO.out;rwa[←hm,List.take_length,hm] at this
end Sw
end Go.Proofs.YtdfegdoeebaagaaGreatDoor
