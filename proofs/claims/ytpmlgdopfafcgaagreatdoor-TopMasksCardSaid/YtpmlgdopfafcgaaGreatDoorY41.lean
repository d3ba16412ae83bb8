import Derived.Test.YtpmlgdopfafcgaaGreatDoorY40
open Go.Value renaming int→J,slice→U,bool→Ap,tuple→AD,ownBlock→Bp,agg→AA,pointer→Bi
open Option renaming some→I,none→G
open Go.IntKind renaming i64→Z,u32→V,u64→AM,u8→AC,wrap_u64→Dk,wrap_u32→DH
open Bool renaming false→Aa,true→Af,false_ne_true→Da,false_and→D7
open Go renaming World→Ac,Value→As,Calls→At,bodyPost_ret→Bf,TypeId→AK,wp_region_held_drew→BY,info_parts→BH,Ending→AT,madeCells→Cb,maxLen→Br,Program→BW,undef→Bt,wpList→BL,bits→Bb,run_underlying→CX
open List renaming getD_eq_getElem?_getD→AN,getElem?_eq_getElem→Bj,length_append→BJ,append_assoc→BM,mem_map→Bo,getElem?_take_of_lt→Cw,replicate→BK,range→Bm,getElem?_append_right→CB,getElem_mem→BU,mem_append→BZ,getElem?_append_left→CO,getElem?_map→C7,cons_append→CC,mem_filter→C8,length_pos_iff→CP,length_cons→CK,mem_cons→Cy,getLastD_eq_getLast?→Dg,nil_append→CI,getElem?_eq_none→De,dropLast_concat→Do,mem_singleton→Dv,map_append→Df,length_map→Di,getElem_of_mem→DD,length_nil→Dp,concat_eq_append→DI,getElem?_range→DL,range_succ→DB,getElem?_replicate→DW,singleton_append→DV,map_cons→D6,map_map→D8,setIfInBounds_toArray→Eb
open Go.Ending renaming returned→Ax
open And renaming intro→A9
open Nat renaming le_refl→AE,lt_of_lt_of_le→AW,le_trans→AS,zero_le→AU,zero_add→Bn,eq_zero_or_pos→Dm,reduceEqDiff→Dq
open Or renaming inl→Ag,inr→Ah
open Go.Proofs.Tryz renaming underlying41→AP,underlying31→CF,underlying22→CV,underlying215→Dl,underlying26→DN
open Go.RowKit renaming intOf→AJ
open Int renaming eq_ofNat_of_zero_le→CM,toNat_natCast→C4,emod_eq_of_lt→CZ
open Go.Builtin renaming zeroCells→CG,delete_→Eh
open Array renaming getElem?_toList→CN,getElem?_eq_some_iff→DX
open Go.Region renaming wanted→CA
open Go.Result renaming andThen→CT
open Option.some renaming inj→Ds
open Go.MapKept renaming run_getObj_map→DJ,run_setObj_map→Ef
open Go.Instr renaming makeSlice→Dj,mapUpdate→DK
open Go.IntWalk renaming i64_in→Du
open Go.Lit renaming int→C9
open Go.Sem renaming run_bind→D5
set_option linter.all false
set_option maxHeartbeats 40000000
set_option maxRecDepth 1000000
open Go Go.RowKit
namespace Go.Proofs.YtpmlgdopfafcgaaGreatDoor
namespace Kd
open Gs Sv Gc Bl
theorem Wb(w:Ac)(op:Int)(h:knownB op=Af):At Tryz.prog 46 #[J Z op] w λe w'=>e=Ax (J Z (sizeI op))∧w=w':=by
 rcases Js h with rfl|rfl|rfl|rfl|rfl|rfl|rfl|rfl|rfl|rfl|rfl|rfl|rfl|rfl|rfl|rfl|rfl|rfl|rfl|rfl|rfl|rfl|rfl|rfl|rfl|rfl|rfl|rfl|rfl|rfl|rfl|rfl|rfl|rfl|rfl|rfl|rfl|rfl|rfl|rfl<;>
 (clear h;go_enter Tryz.func46,Tryz.ntmps46;go_wp2;go_ret;exact⟨rfl,rfl⟩)
def enc1(i:Ins)(k:Nat):List Int:=i.op::(Bm k).map (λk=>i.n/2^(8*k)%256)
def encI(i:Ins):List Int:=enc1 i ((sizeI i.op).toNat -1)
theorem Wc(i:Ins)(k:Nat):enc1 i (k+1)=enc1 i k++[i.n/2^(8*k)%256]:=by
 unfold enc1;rw[DB,Df];rfl
theorem enc1_len(i:Ins)(k:Nat):(enc1 i k).length=k+1:=by simp[enc1]
theorem We(w:Ac)(op n:Int)(h:knownB op=Af)(n0:0≤n)(n1:n≤4294967295):At Tryz.prog 29 #[AA #[J Z op,J V n]] w λe w'=> ∃A c,e=Ax (U A (encI ⟨op,n⟩).length c)∧w'.ownsRow ↑w 5 1 (U A (encI ⟨op,n⟩).length c) (encI ⟨op,n⟩).length ((encI ⟨op,n⟩).map (J AC))∧Fr Aj w w':=by
 obtain⟨i0,hi0,hz0,hz1,hz2⟩:=BH Co.info8;have hop:0≤op∧op≤69:=by simp[knownB] at h;omega
 have hsz:1≤sizeI op∧sizeI op≤5:=by
  have hs:sizeI op≠0:=by unfold sizeI;split<;>(try split)<;>(try split)<;>simp_all
  exact Gm.size_pos hs
 obtain⟨sz,hs⟩: ∃sz:Nat,sizeI op=sz:=⟨(sizeI op).toNat,O⟩;rw[hs] at hsz;have Hz:=T (λW=>Wb W op h);rw[hs] at Hz;have hw8:IntKind.u8.wrap op=op:=by rw[IntKind.wrap_u8];omega
 have b1:=AH w 26 #[J Z op,J V n];have f0:Fr Aj w (w.alloc (.cells #[J Z op,J V n] 26)):=(Ao _ _).alloc _;generalize hW0:w.alloc (.cells #[J Z op,J V n] 26)=W0 at*;have HW:=T hW0;have HB:=T b1;have F0:=T f0;have k0:=b1.cell 0;have kl:=b1.lt;have HS:=T hs;clear hs h hW0 b1 f0;go_in;go_upto_region 1 with(fail);rw[HW.out];go_upto_region 2 with(fail);have hrow:(W0.alloc (.cells #[J AC op] 5)).ownsRow ↑w 5 1 (U (I ⟨↑W0,0,G⟩) 1 1) 1 ([op].map (J AC)):=⟨rfl,Ah ⟨↑W0,1,#[J AC op],rfl,F0.out.size,AH _ _ _,AE _,DT,rfl,rfl⟩⟩;have Fa:=T (F0.out.alloc (.cells #[J AC op] 5));have HBa:=T (HB.out.alloc (.cells #[J AC op] 5));have HR:=T hrow;clear hrow k0 kl hw8;generalize W0.alloc (.cells #[J AC op] 5)=W1 at*;go_wp2_with fail;go_loopw [3,4] (λbv kv wr=> ∃(k:Nat) (A:Aw) (c:Nat),k+1≤sz∧bv=U A (k+1) c∧kv=J Z ((k+1:Nat):Int)∧Hid (wr.ownsRow ↑w 5 1 (U A (k+1) c) (k+1) ((enc1 ⟨op,n⟩ k).map (J AC)))∧Hid (Fr Aj w wr)∧Hid (Blk wr ↑w 26 #[J Z op,J V n])) (λ_ kv _=>sz -(AJ kv).toNat)
 case atStart=>exact⟨0,_,_,O,rfl,rfl,HR,Fa,HBa⟩
 case round=>
  obtain⟨k,A,c,hk,rfl,rfl,hR,hF,hB⟩:=hrel;have k0:=hB.out.cell 0;have k1:=hB.out.cell 1;have kl:=hB.out.lt;by_cases hlt:k+1<sz
  ·have HRa:=T (hR.out.alloc (.cells #[J AC (n/2^(8*k)%256)] 5));have hrd:=T (Cn (size:=1) (n:=1) (AH wr 5 #[J AC (n/2^(8*k)%256)]) rfl);have hsw:=hF.out.size;have hk5:k≤5:=O;go_upto_region 5 with((with_reducible refine(Hz.out _).mono ?_);rintro e w1 ⟨rfl,rfl⟩);go_wp2_with
    (at_builtin
     refine Ce _ rfl (.tmp 16) (.tmp 25) _ rfl w.heap.size 5 i0 _ 1 1 CF hi0 hz0 hz1 hz2 rfl O (U A (k+1) c) (k+1) _ rfl HRa.out (wr.heap.size+1) (I ⟨wr.heap.size,0,G⟩) 1 1 [J AC (n/2^(8*k)%256)] rfl hrd.out CL Bu O A8 ?_
     intro v1 w3 hown1 hg1 hat1
     obtain⟨A3,c3,rfl⟩:=Ca.slice_form hown1
     have f3:Fr (λq=>(U A (k+1) c).ownBlock=I q) wr w3:=((Ao _ wr).alloc _).grown hg1 (λq hq=> Ag hq)
     have HX:=T (A9 hown1 f3)
     clear hown1 hg1 hat1 f3)
   go_roundw;case rel=>
    obtain⟨hown1,f3⟩:=HX.out;refine⟨k+1,A3,c3,O,rfl,AX,T ?_,T (hF.out.trans f3 (λq hq e=>?_)),T (hB.out.fr f3 (λe=>AZ hR.out hB.out Ak e))⟩;·rw[Wc,Df];exact hown1
    ·obtain⟨g,cap,cur,hv,hg,_⟩:=own_blk hR.out O;rw[hv] at e;have:g=q:=by simpa[Bp] using e
     omega
   case measure=>simp[AJ];omega
  ·obtain rfl:sz=k+1:=O;go_wp2_with ((with_reducible refine(Hz.out _).mono ?_);rintro e w1 ⟨rfl,rfl⟩);go_ret;have he:encI ⟨op,n⟩=enc1 ⟨op,n⟩ k:=by
    unfold encI;rw[show(sizeI op).toNat -1=k by rw[HS.out];omega]
   rw[he,enc1_len];exact⟨A,c,rfl,hR.out,hF.out⟩
def codeL:List Ins→List Int
 |[]=>[]
 |i::l=>encI i++codeL l
theorem KT(l m:List Ins):codeL (l++m)=codeL l++codeL m:=by
 induction l with
 |nil=>rfl
 |cons i l ih=>simp[codeL,ih]
def InsOk(i:Ins):Prop:=knownB i.op=Af∧0≤i.n∧i.n≤4294967295
theorem Wg(w:Ac)(g:Nat)(cs:AL)(c0:Nat)(l:List Ins)(hl: ∀i∈l,InsOk i)(hb:Blk w g 26 cs)(hc: ∀(i:Nat) (x:Ins),l[i]?=I x→cs[i*2]?=I (J Z x.op)∧cs[i*2+1]?=I (J V x.n))(hlen:l.length≤100000):At Tryz.prog 19 #[U (I ⟨g,0,G⟩) l.length c0] w λe w'=> ∃A c,e=Ax (U A (codeL l).length c)∧w'.ownsRow ↑w 5 1 (U A (codeL l).length c) (codeL l).length ((codeL l).map (J AC))∧Fr Aj w w':=by
 obtain⟨i0,hi0,hz0,hz1,hz2⟩:=BH Co.info8;have HB:=T hb;have HC:=T hc;have HL:=T hl;have HN:=T hlen;obtain⟨N,hN⟩:=Az l.length;rw[hN];have HNN:=T hN;clear hb hl hc hlen hN;go_in;go_upto_region 3 with(fail);go_loopw [3,4] (λbv kv wr=> ∃(k m:Nat) (A:Aw) (c:Nat),k≤N∧Hid ((codeL (l.take k)).length=m)∧m≤5*k∧bv=U A m c∧kv=J Z (k:Int)∧Hid (wr.ownsRow ↑w 5 1 (U A m c) m ((codeL (l.take k)).map (J AC)))∧Hid (Fr Aj w wr)) (λ_ kv _=>N -(AJ kv).toNat)
 case atStart=>exact⟨0,0,G,0,AU _,T (by simp[codeL]),AE _,rfl,rfl,T (by simp[codeL];exact⟨rfl,Ag ⟨rfl,rfl⟩⟩),T (Ao _ _)⟩
 case round=>
  obtain⟨k,m,A,c,hk,hm,hm5,rfl,rfl,hR,hF⟩:=hrel;by_cases hlt:k<N
  ·have hN:=HN.out;rw[HNN.out] at hN;have hkl:k<l.length:=by rw[HNN.out];exact hlt
   obtain⟨x,hx⟩: ∃x,l[k]?=I x:=⟨_,Bj hkl⟩;obtain⟨op,n⟩:=x;obtain⟨x0,x1⟩:=HC.out k _ hx;have hb:=HB.out.fr hF.out id;have k0:wr.cell? ⟨g,k*2,G⟩=I (J Z op):=(hb.cell _).trans x0;have k1:wr.cell? ⟨g,k*2+1,G⟩=I (J V n):=(hb.cell _).trans x1;have kl:=hb.lt;obtain⟨o1,o2,o3⟩:=HL.out ⟨op,n⟩ (List.mem_of_getElem? hx);have hle:(encI ⟨op,n⟩).length≤5:=by
    have:(sizeI op).toNat≤5:=by unfold sizeI;split<;>(try split)<;>(try split)<;>omega
    simp only[encI,enc1_len];omega
   obtain⟨ne,hne⟩:=Az ((encI ⟨op,n⟩).length);have He:=T (We wr op n o1 o2 o3);rw[hne] at He hle;have HX:=T (A9 hx hne);have hsw:=hF.out.size;clear hx x0 x1 hb hkl o1 o2 o3 hne;go_upto_region 5 with(fail);go_wp2_with fail;refine Ay He ?_;rintro e w1 ⟨A2,c2,rfl,ho,f1⟩;have HO:=T (A9 ho f1);have HR1:=T (own_fr hR.out f1 (λ_ _ e=>e));have hs1:=f1.size;have hoc: ∀u∈(encI ⟨op,n⟩).map (J AC),u.oneCell'=Af:=λu hu=>by
    obtain⟨z,_,rfl⟩:=Bo.1 hu;rfl
   have HOC:=T hoc;clear ho f1 hoc He k0 k1 kl;go_wp2_with
    (at_builtin
     refine Ce _ rfl (.tmp 11) (.tmp 16) _ rfl w.heap.size 5 i0 _ 1 1 CF hi0 hz0 hz1 hz2 rfl O (U A m c) m _ rfl HR1.out w1.heap.size A2 ne c2 _ rfl (Reads.of_own HO.out.1) HOC.out Bu O O ?_
     intro v1 w3 hown1 hg1 hat1
     obtain⟨A3,c3,rfl⟩:=Ca.slice_form hown1
     have f3:Fr (λq=>(U A m c).ownBlock=I q) w1 w3:=(Ao _ w1).grown hg1 (λq hq=> Ag hq)
     have HY:=T (A9 hown1 f3)
     clear hown1 hg1 hat1 f3)
   go_roundw;case rel=>
    obtain⟨hown1,f3⟩:=HY.out;have ht:codeL (l.take (k+1))=codeL (l.take k)++encI ⟨op,n⟩:=by
     rw[List.take_add_one,HX.out.1,KT];simp[codeL]
    refine⟨k+1,m+ne,A3,c3,O,T ?_,O,rfl,AX,T ?_,T ((hF.out.tr HO.out.2).trans f3 (λq hq e=>?_))⟩;·rw[ht,BJ,hm.out,HX.out.2]
    ·rw[ht,Df];exact hown1
    ·by_cases hm0:0<m;·obtain⟨g',cap,cur,hv,hg,_⟩:=own_blk hR.out hm0;exact Tu
     ·rcases hR.out.2 with⟨hv,_⟩|⟨g',cap,cur,hv,hg,_⟩;·rw[hv] at e;simp[Bp] at e
      ·exact Tu
   case measure=>simp[AJ];omega
  ·obtain rfl:k=N:=O
   go_wp2
   go_ret;have ht:l.take k=l:=List.take_of_length_le (by rw[HNN.out];exact AE _);have hm':=hm.out;have hR':=hR.out;rw[ht] at hm' hR';rw[hm'];exact⟨A,c,rfl,hR',hF.out⟩
end Kd
namespace Bl
open Fm Nt Rm By Wk Gs Bs Mu Sv Gm Gc Rn Eg Kd
theorem lit_any(w:Ac)(n:Int):At Tryz.prog 7 #[J V n] w λe w'=>e=Ax (AA #[J Z 2,J V n])∧Fr Aj w w':=by
 go_in;go_wp2_with fail;refine Bf (CJ rfl _ _ w.heap.size 26 _ _ rfl (AH w 26 #[J Z 2,J V n]) DN rfl AI) rfl ?_;exact KU
theorem in_any(w:Ac)(n:Int):At Tryz.prog 9 #[J Z n] w λe w'=>e=Ax (AA #[J Z n,J V 0])∧Fr Aj w w':=by
 go_in;go_wp2_with fail;refine Bf (CJ rfl _ _ w.heap.size 26 _ _ rfl (AH w 26 #[J Z n,J V 0]) DN rfl AI) rfl ?_;exact KU
theorem with_any(w:Ac)(o n:Int):At Tryz.prog 8 #[J Z o,J V n] w λe w'=>e=Ax (AA #[J Z o,J V n])∧Fr Aj w w':=by
 go_in;go_wp2_with fail;refine Bf (CJ rfl _ _ w.heap.size 26 _ _ rfl (AH w 26 #[J Z o,J V n]) DN rfl AI) rfl ?_;exact KU
def CodeP(w:Ac)(l:List Ins)(e:AT)(w':Ac):Prop:= ∃A c,e=Ax (U A (codeL l).length c)∧w'.ownsRow ↑w 5 1 (U A (codeL l).length c) (codeL l).length ((codeL l).map (J AC))∧Fr Aj w w'
theorem code_any(w:Ac)(g:Nat)(cs:AL)(c0 n0:Nat)(l:List Ins)(hn:l.length=n0)(hl: ∀i∈l,InsOk i)(hb:Blk w g 26 cs)(hc: ∀(i:Nat) (x:Ins),l[i]?=I x→cs[i*2]?=I (J Z x.op)∧cs[i*2+1]?=I (J V x.n))(hlen:l.length≤100000):At Tryz.prog 10 #[U (I ⟨g,0,G⟩) n0 c0] w (CodeP w l):=by
 have H:=T (Wg w g cs c0 l hl hb hc hlen);rw[hn] at H;clear hb hc hl;go_in;go_wp2_with fail;refine Ay H ?_;rintro e w1 ⟨A,c,rfl,ho,f⟩;have HX:=T (A9 ho f);clear ho f
 go_wp2
 go_ret;exact⟨A,c,rfl,HX.out.1,HX.out.2⟩
theorem code_bd{l:List Ins}(h: ∀i∈l,InsOk i): ∀z∈codeL l,0≤z∧z<256:=by
 induction l with
 |nil=>intro z hz;cases hz
 |cons i l ih=>
  intro z hz;rcases BZ.1 hz with q|q
  ·have hi:=h i AB;have hk:=hi.1;simp[knownB] at hk;unfold encI enc1 at q;rcases Cy.1 q with rfl|q;·omega
   ·obtain⟨k,_,rfl⟩:=Bo.1 q;omega
  ·exact ih (λj hj=>h j Dh) z q
theorem KV{w:Ac}{base c n:Nat}{A:Aw}{l:List Ins}(h: ∀i∈l,InsOk i)(ho:w.ownsRow base 5 1 (U A n c) n ((codeL l).map (J AC))):IntsAt AC w ↑w A n (codeL l):=
 Bk.own_ints (k:=AC) ho (λz hz=>by have:=code_bd h z hz;exact wf_u8_mk this.1 (by omega))
theorem Tv(w:Ac)(K:AG)(gg:Nat)(a:Ab)(A:Au)(ge:Nat)(e:Eo)(s:St)(g:Mc)(h:Gt w K gg a A ge e s g)(ho:g.b.outs.length≤1000000):w.cell? ⟨gg,0,G⟩=I ↑a.gB∧gg<↑w∧w.cell? ⟨a.gB,2,G⟩=I ↑a.gk∧a.gB<↑w∧ At Tryz.prog 27 #[↑a.gk] w (λe w'=> ∃Bg c,e=Ax (U Bg g.b.outs.length c)∧IntsAt AC w' ↑w' Bg g.b.outs.length g.b.outs∧Fr Aj w w'):=by
 obtain⟨gp,X,c,Y,d,hb,hS,hne,P,p1,p2,p3,p4,hM⟩:=h.ex;obtain⟨F,hbu,_⟩:=hM.bus;refine⟨hb.cell 0,hb.lt,hbu.b.cell 2,hbu.b.lt, ?_⟩;refine(Co.output_any w 0 a.gk F g.b.outs g.b.ins hbu.k O 0 (AU _)).mono ?_;rintro e w' ⟨v,rfl,ho,f,hk⟩;obtain⟨Bg,c,rfl⟩:=Co.own_any ho;exact⟨Bg,c,rfl,Bk.own_ints ho (λz hz=>wf_u8_mk (n:=z) (hbu.ok.outs z hz).1 (by have:=(hbu.ok.outs z hz).2;omega)),f⟩
def awakeI:List Ins:=[⟨2,72⟩,⟨2,32784⟩,⟨49,0⟩,⟨69,0⟩]
theorem Wh:codeL awakeI=awakeL:=Ak
theorem Tw: ∀i∈awakeI,InsOk i:=by
 intro i hi;simp[awakeI] at hi;rcases hi with rfl|rfl|rfl|rfl<;>exact⟨Ak,Ak,Ak⟩
theorem fld_ha(s:St)(X Y:As): ∀w:Ac,(Instr.field 41 (AA (stc s X Y)) 15).run Tryz.prog w=.ok (Ap s.ha) w:=λ_=>AI
theorem Wi(w:Ac)(hT:Iq.Tab w):At Tryz.prog 15 #[] w λe w'=>e=Ax (Ap Af)∧Fr Aj w w':=by
 have HT:=T hT;clear hT;go_in;go_upto_region 1 with(fail);go_wp2_with fail;refine(lit_any w 72).mono ?_;rintro e w1 ⟨rfl,f1⟩;go_wp2_with fail;refine(lit_any w1 32784).mono ?_;rintro e w2 ⟨rfl,f2⟩;go_wp2_with fail;refine(in_any w2 49).mono ?_;rintro e w3 ⟨rfl,f3⟩;go_wp2_with fail;refine(in_any w3 69).mono ?_;rintro e w4 ⟨rfl,f4⟩;have F4:=T (((f1.tr f2).tr f3).tr f4);clear f1 f2 f3 f4;go_wp2_with fail;have b5:=AH w4 26 #[J Z 2,J V 72,J Z 2,J V 32784,J Z 49,J V 0,J Z 69,J V 0];have F5:=T (F4.out.alloc (.cells #[J Z 2,J V 72,J Z 2,J V 32784,J Z 49,J V 0,J Z 69,J V 0] 26));generalize w4.alloc (.cells #[J Z 2,J V 72,J Z 2,J V 32784,J Z 49,J V 0,J Z 69,J V 0] 26)=w5 at*;refine(code_any w5 ↑w4 _ 4 4 awakeI rfl Tw b5 (λi x hx=>by
  match i,hx with
  |0,hx=>cases hx;exact⟨rfl,rfl⟩
  |1,hx=>cases hx;exact⟨rfl,rfl⟩
  |2,hx=>cases hx;exact⟨rfl,rfl⟩
  |3,hx=>cases hx;exact⟨rfl,rfl⟩
  |i+4,hx=>simp[awakeI] at hx) Ak).mono ?_
 rintro e w6 ⟨A1,c1,rfl,ho,f6⟩;have h6:=KV Tw ho;rw[Wh] at h6⊢;have h6:IntsAt AC w6 ↑w6 A1 12 awakeL:=h6;have F6:=T (F5.out.tr f6);have Hf:=T (S8 w6 (tab_fr HT.out F6.out id) 1 O O A1 12 c1 awakeL h6 O G 0 0 [] (Gy _ _ _ _) O);rw[show awakeL.length=12 from rfl];clear b5 ho f6 h6 F4 F5;go_wp2_with fail;refine Ay Hf ?_;rintro e w7 ⟨gg,a,A,ge,eo,rfl,hG,hfl,f7⟩;have HG:=T hG;have F7:=T (F6.out.tr f7);have Hr:=T (grun_any w7 _ gg a A ge eo St.new (mc0 1 awakeL []) hG 9 O O Ak Ak O awake_ok);clear hG hfl f7 Hf;go_wp2_with fail;refine Ay Hr ?_;rintro e w8 ⟨e2,j,rfl,hG2,hr,hfl2,f8⟩;obtain⟨r1,r2,r3⟩:=VS hr;obtain⟨⟨s2,g2⟩,hq⟩: ∃q,blkN j St.new (mc0 1 awakeL [])=q:=⟨_,rfl⟩;rw[hq] at r1 r2 r3 hG2⊢;dsimp only at r1 r2 r3 hG2⊢;have e4:s2.ct -St.new.ct=4:=by rw[r1];rfl
 rw[e4];have F8:=T (F7.out.trans f8 (λk hk e=>e (AW hk F6.out.size)));obtain⟨x0,x1,x2,x3,ho⟩:=Tv w8 _ gg a A ge e2 s2 g2 hG2 (by rw[r3];decide);rw[r3] at ho;have HO:=T ho;have HG2:=T hG2;have R2:=T r2;clear hr hfl2 f8 hq r1 r2 r3 ho hG2 Hr e4;go_wp2_with fail;refine Ay HO ?_;rintro e w9 ⟨Bg,c9,rfl,hz,f9⟩;have hz1:IntsAt AC w9 ↑w9 Bg 1 [72]:=hz;have hs:=Jh (c:=c9) hz1;have HG9:=T (HG2.out.fr0 f9);have F9:=T (F8.out.tr f9);have Hs:=T (KG w9 _ gg a A ge e2 s2 g2 HG9.out);clear x0 x1 x2 x3 hz hz1 f9 HO;have hs2:(str [72])=⟨#[72]⟩:=Ak;rw[hs2] at hs;go_wp2_with fail;refine Ay Hs ?_;rintro e w10 ⟨X,c,Y,d,rfl,_,_,f10⟩;have F10:=T (F9.out.tr f10);have hfd:=fld_ha s2 (U X s2.d.length c) (U Y s2.r.length d);rw[R2.out] at hfd;clear f10 hs Hs
 go_wp2
 go_ret;exact⟨rfl,F10.out⟩
end Bl
namespace Bl
open Fm Nt Rm By Wk Gs Bs Mu Sv Gm Gc Rn Eg
theorem Wm(w:Ac)(K:AG)(gg:Nat)(a:Ab)(A:Au)(ge:Nat)(e:Eo)(s:St)(g:Mc)(h:Gt w K gg a A ge e s g)(B n c:Nat)(Bg:Aw)(zs:List Int)(hz:IntsAt Z w B Bg n zs)(hn:n≤Br)(hp:Iq.raised zs g.b.p<256):w.cell? ⟨gg,0,G⟩=I ↑a.gB∧gg<↑w∧w.cell? ⟨a.gB,0,G⟩=I ↑a.gc∧a.gB<↑w∧ At Tryz.prog 14 #[↑a.gc,U Bg n c] w (λed w'=>ed=Ax (Ap (Iq.okAll zs))∧Gt w' K gg a A ge e s ⟨{g.b with p:=Iq.raised zs g.b.p},g.l⟩∧Fr (λk=> ¬K k) w w'):=by
 have h':=h;obtain⟨gp,X,x,Y,y,hb,hS,hne,P,p1,p2,p3,p4,hM⟩:=h.ex;obtain⟨F,hbu,h2,h3⟩:=hM.lt;refine⟨hb.cell 0,hb.lt,hbu.b.cell 0,hbu.b.lt, ?_⟩;refine(Iq.raise_any _ a.gc g.b.p g.b.m hbu.c hbu.ok.p B Bg n c zs hz hn).mono ?_;rintro ed w' ⟨rfl,hc,f⟩;have hB':=hbu.setC hc f hp hbu.ok.m;obtain⟨_,hM',f2⟩:=hM.busPost hbu h2 (v:=Ap Af) (e:=Ax (Ap Af)) ⟨rfl,F,hB',λk hk=> Ag hk,f.mono (S':=a.wr F) (λk _ e=> Ah (Ag e))⟩;have hgc: ¬P a.gc:=(h2 a.gc (Ag (Ah (Ag rfl)))).1;exact⟨rfl,⟨⟨gp,X,x,Y,y,hb.fr f (λq=>hgc (by rw[←show gg=a.gc from q];exact p3)),hS.fr f (λk hk q=>hgc (by rw[←show k=a.gc from q];exact p1 k (Ag (Rn.own_ab hk)))) (λk hk q=>hgc (by rw[←show k=a.gc from q];exact p1 k (Ah (Rn.own_ab hk)))),hne,P,p1,p2,p3,p4,hM'⟩,h'.en.fr f (λk hk q=>hgc (by rw[←show k=a.gc from q];exact(p2 k hk).1)),h'.rk,h'.own⟩,f2.mono (λk _ q hK=>q (p4 k hK))⟩
end Bl
end Go.Proofs.YtpmlgdopfafcgaaGreatDoor
