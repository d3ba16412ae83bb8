import Derived.Test.YtpmlgdopfafcgaaGreatDoorY30
import Derived.Test.YtpmlgdopfafcgaaGreatDoorY31
open Go.Value renaming int→J,slice→U,bool→Ap,tuple→AD,ownBlock→Bp,agg→AA,pointer→Bi
open Option renaming some→I,none→G
open Go.IntKind renaming i64→Z,u32→V,u64→AM,u8→AC,wrap_u64→Dk,wrap_u32→DH
open Bool renaming false→Aa,true→Af,false_ne_true→Da,false_and→D7
open Go renaming World→Ac,Value→As,Calls→At,bodyPost_ret→Bf,TypeId→AK,wp_region_held_drew→BY,info_parts→BH,Ending→AT,madeCells→Cb,maxLen→Br,Program→BW,undef→Bt,wpList→BL,bits→Bb,run_underlying→CX
open List renaming getD_eq_getElem?_getD→AN,getElem?_eq_getElem→Bj,length_append→BJ,append_assoc→BM,mem_map→Bo,getElem?_take_of_lt→Cw,replicate→BK,range→Bm,getElem?_append_right→CB,getElem_mem→BU,mem_append→BZ,getElem?_append_left→CO,getElem?_map→C7,cons_append→CC,mem_filter→C8,length_pos_iff→CP,length_cons→CK,mem_cons→Cy,getLastD_eq_getLast?→Dg,nil_append→CI,getElem?_eq_none→De,dropLast_concat→Do,mem_singleton→Dv,map_append→Df,length_map→Di,getElem_of_mem→DD,length_nil→Dp,concat_eq_append→DI,getElem?_range→DL,range_succ→DB,getElem?_replicate→DW,singleton_append→DV,map_cons→D6,map_map→D8,setIfInBounds_toArray→Eb
open Go.Ending renaming returned→Ax
open And renaming intro→A9
open Nat renaming le_refl→AE,lt_of_lt_of_le→AW,le_trans→AS,zero_le→AU,zero_add→Bn,eq_zero_or_pos→Dm,reduceEqDiff→Dq
open Or renaming inl→Ag,inr→Ah
open Go.Proofs.Tryz renaming underlying41→AP,underlying31→CF,underlying22→CV,underlying215→Dl,underlying26→DN
open Go.RowKit renaming intOf→AJ
open Int renaming eq_ofNat_of_zero_le→CM,toNat_natCast→C4,emod_eq_of_lt→CZ
open Go.Builtin renaming zeroCells→CG,delete_→Eh
open Array renaming getElem?_toList→CN,getElem?_eq_some_iff→DX
open Go.Region renaming wanted→CA
open Go.Result renaming andThen→CT
open Option.some renaming inj→Ds
open Go.MapKept renaming run_getObj_map→DJ,run_setObj_map→Ef
open Go.Instr renaming makeSlice→Dj,mapUpdate→DK
open Go.IntWalk renaming i64_in→Du
open Go.Lit renaming int→C9
open Go.Sem renaming run_bind→D5
set_option linter.all false
set_option maxHeartbeats 40000000
set_option maxRecDepth 1000000
open Go Go.RowKit
namespace Go.Proofs.YtpmlgdopfafcgaaGreatDoor
namespace Eg
open Mz Go.Maps Ca
theorem size_any(w:Ac)(A:Aw)(n c:Nat)(en:Bool)(m:Int):At Tryz.prog 66 #[AA #[U A n c,Ap en],J Z m] w λe w'=>e=Ax (J Z (if m=0 then 0 else(n:Int)))∧Fr Aj w w':=by
 by_cases h:m=0;·have hd:decide (m=0)=Af:=C3;rw[An h];exact Tf
 ·have hd:decide (m=0)=Aa:=C3;rw[Ae h];exact Tf
end Eg
namespace Bl
open Fm Nt Rm By Wk Gs Bs Mu Sv Gm Gc Rn Eg
def ERest(w:Ac)(P:AG)(a:Ab)(A:Au)(ge:Nat)(e:Eo)(D:Nat)(r:Sg)(ed:AT)(w':Ac):Prop:=
 ∃X c Y d e',ed=Ax (AA (stc r.s (U X r.s.d.length c) (U Y r.s.r.length d)))∧Sx w w' P Aj a A r.s r.g X Y c d ge e e' D∧Rk r.s
theorem VZ(w:Ac)(s:St)(A0:Aw)(c0:Nat)(B0:Aw)(d0:Nat)(P:AG)(a:Ab)(A:Au)(g:Mc)(ge:Nat)(e:Eo)(hS:StV w 0 s (U A0 s.d.length c0) (U B0 s.r.length d0))(hp: ∀k,ab A0=I k∨ab B0=I k→P k)(hne: ∀k,ab A0=I k→ab B0≠I k)(hM:Mch w P a A g)(hk:Rk s)(hE:En w ge e)(hown: ∀k,e.own ge k→P k∧k≠0)(p:Int)(p0:0≤p)(p1:p≤4294967295)(m:Nat)(m8:m≤8)(ho:g.b.outs.length≤999990)(hok:okR s p (p/64) g m):At Tryz.prog 65 #[↑ge,AA (stc s (U A0 s.d.length c0) (U B0 s.r.length d0)),J V p,J Z m,↑A.gU,↑a.gB] w (ERest w P a A ge e 0 (restR s p (p/64) g m)):=by
 obtain⟨b5,b10,f0⟩:=boxed2 w (stc s (U A0 s.d.length c0) (U B0 s.r.length d0)) z16 41 41;have l0:=(Sx.start hS hp hne hM hE hown).more f0 (L':=λk=>k=w.heap.size∨k=w.heap.size+1) (λk q=>by
  right;simp;omega)
 generalize hW0:(w.alloc (.cells (stc s (U A0 s.d.length c0) (U B0 s.r.length d0)) 41)).alloc (.cells z16 41)=W0 at*;have L0:=T l0;have HOK:=T hok;have B5:=T b5;have B10:=T b10;have HW:=T hW0;have HK:=T hk;have HO:=T ho;clear hok;clear hS hp hne hM l0 f0 b5 b10 hW0 hk ho hE hown;go_in;go_upto_region 1 with(fail);rw[HW.out];go_wp2_with fail;go_loopw [23,2] (λiv pv wr=> ∃(k:Nat) (s':St) (p':Int) (g':Mc) (X:Aw) (c:Nat) (Y:Aw) (d:Nat) (e':Eo),k≤m∧iv=J Z k∧pv=J V p'∧0≤p'∧p'≤4294967295∧Hid (restR s p (p/64) g m=restR s' p' (p/64) g' (m -k)∧okR s' p' (p/64) g' (m -k))∧Hid (Sx w wr P (λk=>k=w.heap.size∨k=w.heap.size+1) a A s' g' X Y c d ge e e' 0)∧
  Hid (Rk s'∧g'.b.outs.length≤g.b.outs.length+k)∧Hid (Blk wr (↑w+1) 41 z16)∧Hid (Blk wr ↑w 41 (stc s' (U X s'.d.length c) (U Y s'.r.length d)))) (λi _ _=>m -(AJ i).toNat)
 case atStart=>exact⟨0,s,p,g,A0,c0,B0,d0,e,AU _,rfl,rfl,p0,p1,T ⟨rfl,HOK.out⟩,L0,T ⟨HK.out,AE _⟩,B10,B5⟩
 case round=>
  obtain⟨k,s',p',g',X,c,Y,d,e',hkm,rfl,rfl,q0,q1,hR,hL,hK,hB,hG⟩:=hrel;by_cases hlt:k<m
  ·have c5:=hL.out.en.b.cell 5;have y5:=hL.out.en.b.frozen 5;have cl:=hL.out.en.b.lt;go_upto_region 5 with(fail);obtain⟨sv,hsv⟩:=Az (wrap64 (e'.sl+1));rw[hsv];have fs:Fr (λq=>q=ge) wr (wr.setCell ⟨ge,5,G⟩ (J Z sv)):=(Ao (λq=>q=ge) wr).setCell (p:=⟨ge,5,G⟩) (Ag rfl) _;have ek:=En.self (e2:={e' with sl:=sv}) hL.out.en rfl rfl rfl rfl hL.out.en.la (hL.out.en.b.set_ 5 _) fs;have La:=T (hL.out.eng ek);have Ba:=T (ek.blk hB.out othS);have Ga:=T (ek.blk hG.out othS);generalize wr.setCell ⟨ge,5,G⟩ (J Z sv)=wa at*;clear c5 y5 cl fs ek hsv;obtain⟨P1,M1,np1,_,_⟩:=La.out.call;have Hf:=T (VO wa P1 a A g' M1 p' q0 q1);have HFB:=T (λi n=>fetch_bd M1 q0 (i:=i) (n:=n));clear M1 np1;obtain⟨o,hof⟩:=Az (fetchR g'.b.ms p');rw[hof] at Hf HFB;have HOF:=T hof;clear hof
   cases o with
   |none=>
    exact absurd hR.out.2 (by
     obtain⟨j,hj⟩: ∃j,m -k=j+1:=⟨m -k -1,O⟩;rw[hj];rintro⟨i,n',h2,_⟩;rw[HOF.out] at h2
     cases h2)
   |some x=>
    obtain⟨⟨op,n⟩,sz⟩:=x;have Hf2:Hid (At Tryz.prog 91 #[↑A.gU,J V p'] wa λe w'=>(e=Ax (AD #[AA #[J Z op,J V n],J Z sz,Ap Af]))∧Fr Aj wa w'):=T ((Hf.out).mono (λe w' h=>by
     obtain⟨⟨i,n,rfl,hi⟩,f1⟩:=h;obtain⟨rfl,rfl⟩:=hi _ rfl;exact⟨rfl,f1⟩))
    clear Hf;go_wp2_with fail;refine Ay Hf2 ?_;rintro e w1 ⟨rfl,f1⟩;have fa:Fr Aj wa (w1.alloc (.cells #[J Z op,J V n] 26)):=f1.trans ((Ao Aj w1).alloc _) (λ_ _ e=>e);have L2:=T (La.out.more fa (L':=λk=>(k=w.heap.size∨k=w.heap.size+1)∨k=w1.heap.size) (λk e=>by
     rcases e with e|e;·exact Ag e
     ·right;have:=f1.size;subst e;simp;omega))
    have B2:=T (Ba.out.fr fa id);have G2:=T (Ga.out.fr fa id);have bi:=AH w1 26 #[J Z op,J V n];go_upto_region 9 with(fail);generalize w1.alloc (.cells #[J Z op,J V n] 26)=w2 at*;obtain⟨gi,hgi⟩:=Az w1.heap.size;rw[hgi] at bi L2⊢;obtain⟨P2,M2,in2,up2,_⟩:=L2.out.call;have hk':=hK.out.1;have hout:=hK.out.2;have hgo:=HO.out;obtain⟨⟨n0,n1⟩,s1,s5⟩:=HFB.out _ _ rfl;have HUX:Hid (Us s' ⟨op,n⟩∧(nextB_ ⟨op,n⟩ (doR s' ⟨op,n⟩ g') (p/64) s'.pc=Af→okR (doR s' ⟨op,n⟩ g').s ((p'+(sz:Int))%4294967296) (p/64) (doR s' ⟨op,n⟩ g').g (m -(k+1)))):=T (by
     have h1:=hR.out.2;obtain⟨j,hj⟩: ∃j,m -k=j+1:=⟨m -k -1,O⟩;rw[hj] at h1;obtain⟨i,n',h2,h3,h4⟩:=h1;rw[HOF.out] at h2;injection h2 with h2;injection h2 with e1 e2;subst e1 e2;rw[show m -(k+1)=j by omega];exact⟨h3,h4⟩)
    have Hd:=T (do_any w2 s' X c Y d P2 a A g' L2.out.st (λk e=>in2 k (Ah e)) M2 hk' ⟨op,n⟩ n0 n1 HUX.out.1 O);have hrk:Rk (doR s' ⟨op,n⟩ g').s:=do_rk hk' M2.bok M2.ok ⟨op,n⟩ ⟨n0,n1⟩ HUX.out.1.ch;have hro:=do_outs s' ⟨op,n⟩ g';obtain⟨r,hr⟩:=Az (doR s' ⟨op,n⟩ g');have HRR:Hid ((restR s p (p/64) g m=if nextB_ ⟨op,n⟩ r (p/64) s'.pc then restR r.s ((p'+(sz:Int))%4294967296) (p/64) r.g (m -(k+1)) else⟨r.s,r.g⟩)∧(nextB_ ⟨op,n⟩ r (p/64) s'.pc=Af→okR r.s ((p'+(sz:Int))%4294967296) (p/64) r.g (m -(k+1)))):=T (by
     refine⟨?_,λh=>by have:=HUX.out.2 (by rw[hr];exact h);rwa[hr] at this⟩;rw[hR.out.1];obtain⟨j,hj⟩: ∃j,m -k=j+1:=⟨m -k -1,O⟩;rw[hj,restR,HOF.out];dsimp only;rw[hr,show m -(k+1)=j by omega])
    rw[hr] at Hd hrk hro;have b2:=G2.out;have i0:=bi.cell 0;have i1:=bi.cell 1;have il:=bi.lt;clear hr M2;go_wp2_with ((with_reducible refine wpL_lq b2 AP sz16 ?_));refine Ay Hd ?_;rintro e w3 ⟨X2,c2,Y2,d2,Bg,nz,mz,rfl,hst,hz,hnm,hn64,hzo⟩;have bw:=AH w3 201 z19;have fw:Fr Aj w3 (w3.alloc (.cells z19 201)):=(Ao _ _).alloc _;have oR:(resc r.s (U X2 r.s.d.length c2) (U Y2 r.s.r.length d2) r.tr r.dv (U Bg nz mz)).all (·.oneCell')=Af:=CL;have L3:=T (up2 hst);have HZ:=T (A9 hz hzo);have BI3:=T (bi.fr hst.f (λe=>e (in2 gi (Ag (.inr rfl)))));have G3:=T (b2.fr hst.f (λe=>e (in2 ↑w (Ag (Ag (.inl rfl))))));have B3:=T (B2.out.fr hst.f (λe=>e (in2 (↑w+1) (Ag (Ag (.inr rfl))))));clear hst hz hzo i0 i1 b2 bi il Hd in2 up2 L2 B2 G2;go_upto_region 10 with(((with_reducible refine wpL_sq (cs':=resc r.s (U X2 r.s.d.length c2) (U Y2 r.s.r.length d2) r.tr r.dv (U Bg nz mz)) bw szR oR ?_);intro W4 b4 f4;have HB4:=T b4;have HF4:=T f4;clear b4 f4 bw oR));obtain⟨gr,hgr⟩:=Az w3.heap.size;have F34:Hid (Fr Aj w3 W4):=T (fw.trans HF4.out (λk hk e=>O));rw[hgr] at HB4 HF4⊢;have L4:=T (L3.out.fr0 F34.out);have G4:=T (G3.out.fr F34.out id);have B4:=T (B3.out.fr F34.out id);have I4:=T (BI3.out.fr F34.out id);have Htu:=T (Eg.turned_any W4 ge _ L4.out.en r.pg nz mz Bg (Sw.own_low (own_fr HZ.out.2 F34.out (λ_ _ e=>e)) (AU _)) (λz hz=>by
     obtain⟨i,hi,rfl⟩:=DD hz;have:=HZ.out.1.2.1 i (by rw[←HZ.out.1.1];exact hi);rwa[AN,Bj hi] at this) hn64)
    have c18:=HB4.out.cell 18;have c18l:=HB4.out.lt;clear fw HF4 L3 BI3 G3 B3 hgr;go_upto_region 11 with((with_reducible refine Ay Htu ?_);rintro e9 W5 ⟨rfl,e5,hE5⟩;have HE5:=T hE5;clear hE5 c18 c18l);have hst4:=L4.out.st;have L5:=T (L4.out.eng HE5.out);have G5:=T (HE5.out.blk G4.out othS);have B5:=T (HE5.out.blk B4.out othS);have I5:=T (HE5.out.blk I4.out othI);have R5:=T (HE5.out.blk HB4.out othR);have z4:=own_fr HZ.out.2 F34.out (λ_ _ e=>e);have Z5:=T (HE5.out.row z4 othZ);have hl34:w3.heap.size≤W5.heap.size:=AS F34.out.size HE5.out.f.size;clear L4 G4 B4 I4 HB4 z4 F34 Htu HE5 hst4;have b24:=G5.out;have b4:=R5.out;have k0:W5.cell? ⟨↑w,0,G⟩=I (J V s'.pc):=b24.cell 0;have kl:=b24.lt;have o4:=one16 r.s (U X2 r.s.d.length c2) (U Y2 r.s.r.length d2) rfl rfl;have hrh:=VY r.s (U X2 r.s.d.length c2) (U Y2 r.s.r.length d2) r.tr r.dv (U Bg nz mz);have HRH:=T hrh;clear hrh;go_upto_region 13 with(first
     |((with_reducible refine wpL_ldm (stc r.s (U X2 r.s.d.length c2) (U Y2 r.s.r.length d2)) b4 AP sz16 ?q1 ?q2 HRH.out ?q3 ?_);(case q1=>rfl);(case q2=>rfl);(case q3=>rfl))
     |((with_reducible refine wpL_sq (cs':=stc r.s (U X2 r.s.d.length c2) (U Y2 r.s.r.length d2)) b24 sz16 o4 ?_);intro W6 b6 f6;have HB6:=T b6;have HF6:=T f6;clear b6 f6 b24 o4 k0 kl))
    have hS5:=L5.out.st;have L6:=T ((L5.out.wrote (Ag (Ag rfl)) ⟨λe=>AZ hS5.d G5.out Ak (ab_own hS5.d e),λe=>AZ hS5.r G5.out Ak (ab_own hS5.r e)⟩ (own_kind L5.out.en G5.out othS Ak) HF6.out).less (L':=λk=>k=w.heap.size∨k=w.heap.size+1) (λk e=> Ag e));have b65:=R5.out.fr HF6.out (R5.out.ne_ G5.out Ak);have i65:=I5.out.fr HF6.out (I5.out.ne_ G5.out Ak);have B6:=T (B5.out.fr HF6.out EM);have hz6:=VJ (own_fr Z5.out HF6.out (λk hk e=>AZ Z5.out G5.out Ak (by rw[hk,show k=w.heap.size from e]))) HZ.out.1.2.1;have hpc:=hrk.1.pc;have hpc':=hk'.1.pc;have Hn:=T (next_any W6 ⟨op,n⟩ r X2 Y2 Bg c2 d2 nz mz ↑W6 (p/64) s'.pc hz6 (AE _) hn64 hpc'.1 hpc'.2 hpc.1 hpc.2);obtain⟨nx,hnx⟩:=Az (nextB_ ⟨op,n⟩ r (p/64) s'.pc);rw[hnx] at Hn HRR;have i0:=i65.cell 0;have i1:=i65.cell 1;have il:=i65.lt;have hsw:=Tl;have HRK:=T (A9 hrk (show r.g.b.outs.length≤g.b.outs.length+(k+1) by omega));clear hz6 i65 hrk hro hpc hpc' hk' hnx hS5 L5 G5 B5 I5 R5 Z5
    cases nx
    ·go_upto_region 16 with(first
      |((with_reducible refine wpL_lq b65 Tryz.underlying201 szR ?_))
      |((with_reducible refine Ay Hn ?_);rintro e w7 ⟨rfl,f7⟩;have L7:=T (L6.out.fr0 f7);have B7:=T (B6.out.fr f7 id);have G7:=T (HB6.out.fr f7 id);clear f7))
     have bs:=G7.out;have bt:=B7.out;have o6:=one16 r.s (U X2 r.s.d.length c2) (U Y2 r.s.r.length d2) rfl rfl;go_wp2_with (first
      |((with_reducible refine wpL_lq bs AP sz16 ?_))
      |((with_reducible refine wpL_sq (cs':=stc r.s (U X2 r.s.d.length c2) (U Y2 r.s.r.length d2)) bt sz16 o6 ?_);intro W7 b7 f7;have HB7:=T b7;have HF7:=T f7;clear b7 f7 bt bs o6))
     refine Bf (CJ rfl _ _ (w.heap.size+1) 41 _ _ rfl HB7.out AP rfl sz16) rfl ?_;rw[HRR.out.1,Ae Ak];have hS:=L7.out.st;exact⟨X2,c2,Y2,d2,_,rfl,(L7.out.wrote (Ah rfl) ⟨λe=>AZ hS.d B7.out Ak (ab_own hS.d e),λe=>AZ hS.r B7.out Ak (ab_own hS.r e)⟩ (own_kind L7.out.en B7.out othS Ak) HF7.out).none,HRK.out.1⟩
    ·go_wp2_with (first
      |((with_reducible refine wpL_lq b65 Tryz.underlying201 szR ?_))
      |((with_reducible refine Ay Hn ?_);rintro e w7 ⟨rfl,f7⟩;have L7:=T (L6.out.fr0 f7);have B7:=T (B6.out.fr f7 id);have G7:=T (HB6.out.fr f7 id);clear f7))
     go_roundw;case rel=>
      exact⟨k+1,r.s,(p'+(sz:Int))%4294967296,r.g,X2,c2,Y2,d2,_,O,AX,rfl,O,O,T ⟨by rw[HRR.out.1];exact An trivial,HRR.out.2 trivial⟩,L7,HRK,B7,G7⟩
     case measure=>simp[AJ];omega
  ·obtain rfl:k=m:=O;have HS:Hid (restR s p (p/64) g k=⟨s',g'⟩):=T (by rw[hR.out.1,Nat.sub_self];rfl);have bs:=hG.out;have bt:=hB.out;have o6:=one16 s' (U X s'.d.length c) (U Y s'.r.length d) rfl rfl;go_wp2_with (first
    |((with_reducible refine wpL_lq bs AP sz16 ?_))
    |((with_reducible refine wpL_sq (cs':=stc s' (U X s'.d.length c) (U Y s'.r.length d)) bt sz16 o6 ?_);intro W7 b7 f7;have HB7:=T b7;have HF7:=T f7;clear b7 f7 bt bs o6))
   refine Bf (CJ rfl _ _ (w.heap.size+1) 41 _ _ rfl HB7.out AP rfl sz16) rfl ?_;rw[HS.out];have hS:=hL.out.st;exact⟨X,c,Y,d,_,rfl,(hL.out.wrote (Ah rfl) ⟨λe=>AZ hS.d hB.out Ak (ab_own hS.d e),λe=>AZ hS.r hB.out Ak (ab_own hS.r e)⟩ (own_kind hL.out.en hB.out othS Ak) HF7.out).none,hK.out.1⟩
end Bl
end Go.Proofs.YtpmlgdopfafcgaaGreatDoor
