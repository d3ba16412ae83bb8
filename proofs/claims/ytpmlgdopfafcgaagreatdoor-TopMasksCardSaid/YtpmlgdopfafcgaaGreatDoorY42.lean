import Derived.Test.YtpmlgdopfafcgaaGreatDoorY41
open Go.Value renaming int→J,slice→U,bool→Ap,tuple→AD,ownBlock→Bp,agg→AA,pointer→Bi
open Option renaming some→I,none→G
open Go.IntKind renaming i64→Z,u32→V,u64→AM,u8→AC,wrap_u64→Dk,wrap_u32→DH
open Bool renaming false→Aa,true→Af,false_ne_true→Da,false_and→D7
open Go renaming World→Ac,Value→As,Calls→At,bodyPost_ret→Bf,TypeId→AK,wp_region_held_drew→BY,info_parts→BH,Ending→AT,madeCells→Cb,maxLen→Br,Program→BW,undef→Bt,wpList→BL,bits→Bb,run_underlying→CX
open List renaming getD_eq_getElem?_getD→AN,getElem?_eq_getElem→Bj,length_append→BJ,append_assoc→BM,mem_map→Bo,getElem?_take_of_lt→Cw,replicate→BK,range→Bm,getElem?_append_right→CB,getElem_mem→BU,mem_append→BZ,getElem?_append_left→CO,getElem?_map→C7,cons_append→CC,mem_filter→C8,length_pos_iff→CP,length_cons→CK,mem_cons→Cy,getLastD_eq_getLast?→Dg,nil_append→CI,getElem?_eq_none→De,dropLast_concat→Do,mem_singleton→Dv,map_append→Df,length_map→Di,getElem_of_mem→DD,length_nil→Dp,concat_eq_append→DI,getElem?_range→DL,range_succ→DB,getElem?_replicate→DW,singleton_append→DV,map_cons→D6,map_map→D8,setIfInBounds_toArray→Eb
open Go.Ending renaming returned→Ax
open And renaming intro→A9
open Nat renaming le_refl→AE,lt_of_lt_of_le→AW,le_trans→AS,zero_le→AU,zero_add→Bn,eq_zero_or_pos→Dm,reduceEqDiff→Dq
open Or renaming inl→Ag,inr→Ah
open Go.Proofs.Tryz renaming underlying41→AP,underlying31→CF,underlying22→CV,underlying215→Dl,underlying26→DN
open Go.RowKit renaming intOf→AJ
open Int renaming eq_ofNat_of_zero_le→CM,toNat_natCast→C4,emod_eq_of_lt→CZ
open Go.Builtin renaming zeroCells→CG,delete_→Eh
open Array renaming getElem?_toList→CN,getElem?_eq_some_iff→DX
open Go.Region renaming wanted→CA
open Go.Result renaming andThen→CT
open Option.some renaming inj→Ds
open Go.MapKept renaming run_getObj_map→DJ,run_setObj_map→Ef
open Go.Instr renaming makeSlice→Dj,mapUpdate→DK
open Go.IntWalk renaming i64_in→Du
open Go.Lit renaming int→C9
open Go.Sem renaming run_bind→D5
set_option linter.all false
set_option maxHeartbeats 40000000
set_option maxRecDepth 1000000
open Go Go.RowKit
namespace Go.Proofs.YtpmlgdopfafcgaaGreatDoor
namespace Gm
open Fm Nt Rm By Wk Gs Kd
def lay(f:Nat→Int)(o:Nat)(zs:List Int):Nat→Int:=λj=>if o≤j∧j<o+zs.length then zs.getD (j -o) 0 else f j
theorem putR_lay(k:IntKind)(f:Nat→Int)(o:Nat)(zs:List Int)(j:Nat):Go.Proofs.YtpmlgdopfafcgaaGreatDoor.putR (λi=>J k (f i)) o (zs.map (J k)) j=J k (lay f o zs j):=by
 unfold Go.Proofs.YtpmlgdopfafcgaaGreatDoor.putR lay;rw[Di];split
 ·rename_i h
  rw[AN,C7,AN,Bj O];rfl
 ·rfl
theorem cells_ints{w:Ac}{g n:Nat}{t:AK}{f:Nat→As}{h:Nat→Int}(hc:Cells w g t n f)(he: ∀i,i<n→f i=J AC (h i))(hb: ∀i,i<n→0≤h i∧h i<256):IntsAt AC w ↑w (I ⟨g,0,G⟩) n ((Bm n).map h):=by
 have hg: ∀i,i<n→((Bm n).map h).getD i 0=h i:=λi hi=>by
  rw[AN,C7,DL hi];rfl
 refine⟨AB,λi hi=>?_,λhn=>⟨g,0,rfl,hc.lt,λi hi=>?_⟩⟩;·rw[hg i hi];have:=hb i hi;exact Iz
 ·rw[hg i hi,Bn,hc.cell i hi,he i hi]
def irqH(b0 b1 b2 b3:Int):List Int:=[2,128,0,0,0,67,3,2,b0,b1,b2,b3,2,4,128,0,0,49,1,1,67,0]
def irqF(b0 b1 b2 b3:Int)(j:Nat):Nat→Int:=lay (lay (λ_=>0) 0 (irqH b0 b1 b2 b3++(BK j 0++[32,254]))) 128 [66,5,69]
variable{b0 b1 b2 b3:Int}{j i:Nat}
theorem irqF_lo(hj:j≤12)(hi:i<24+j):irqF b0 b1 b2 b3 j i=(irqH b0 b1 b2 b3++(BK j 0++[32,254])).getD i 0:=by
 unfold irqF lay;rw[Ae A8,An ⟨AU _,by simp[irqH];omega⟩];rfl
theorem irqF_h(hj:j≤12)(hi:i<22):irqF b0 b1 b2 b3 j i=(irqH b0 b1 b2 b3).getD i 0:=by
 rw[irqF_lo hj O,AN,CO (by simp[irqH];omega),←AN]
theorem irqF_t(hj:j≤12)(hi:i<j+2):irqF b0 b1 b2 b3 j (22+i)=(BK j 0++[32,254]:List Int).getD i 0:=by
 have e:(irqH b0 b1 b2 b3).length=22:=rfl;rw[irqF_lo hj O,AN,CB ET,e,Nat.add_sub_cancel_left,←AN]
theorem irqF_bd(h0:0≤b0∧b0<256)(h1:0≤b1∧b1<256)(h2:0≤b2∧b2<256)(h3:0≤b3∧b3<256)(j i:Nat):0≤irqF b0 b1 b2 b3 j i∧irqF b0 b1 b2 b3 j i<256:=by
 have key: ∀(l:List Int) (k:Nat),(∀z∈l,0≤z∧z<256)→0≤l.getD k 0∧l.getD k 0<256:=λl k hl=>by
  rw[AN]
  cases h:l[k]? with
  |none=>exact⟨Ak,Ak⟩
  |some x=>exact hl x (List.mem_of_getElem? h)
 unfold irqF lay;split;·exact key _ _ Ak
 ·split
  ·refine key _ _ (λz hz=>?_);rcases BZ.1 hz with hz|hz;·simp[irqH] at hz;omega
   ·rcases BZ.1 hz with hz|hz;·have:=(List.mem_replicate.1 hz).2;omega
    ·simp at hz;omega
  ·exact⟨Int.le_refl _,by show(0:Int)<256;omega⟩
theorem irq_im(hj:j≤12)(ds:List Int):Im (mc0 3 ((Bm 192).map (irqF b0 b1 b2 b3 j)) ds).b.ms (b0+256*(b1+256*(b2+256*b3))) j:=by
 obtain⟨hm,hn⟩:=mc0_mem (n:=3) (bs:=(Bm 192).map (irqF b0 b1 b2 b3 j)) ds AB;have hg: ∀i,i<192→(mc0 3 ((Bm 192).map (irqF b0 b1 b2 b3 j)) ds).b.ms.mem i=irqF b0 b1 b2 b3 j i:=λi hi=>by
  rw[hm i,AN,C7,DL hi];rfl
 have h22: ∀i,i<22→(mc0 3 ((Bm 192).map (irqF b0 b1 b2 b3 j)) ds).b.ms.mem i=(irqH b0 b1 b2 b3).getD i 0:=λi hi=>by rw[hg i (by omega),irqF_h hj hi]
 refine⟨hn,λi hi=>?_, ?_,λi hi=>?_,λi hi=>?_, ?_, ?_,⟨?_, ?_, ?_⟩,hj⟩
 ·rw[h22 i O]
  match i,hi with
  |0,_=>rfl
  |1,_=>rfl
  |2,_=>rfl
  |3,_=>rfl
  |4,_=>rfl
  |5,_=>rfl
  |6,_=>rfl
  |7,_=>rfl
  |i+8,hi=>omega
 ·rw[h22 8 O,h22 9 O,h22 10 O,h22 11 O];rfl
 ·rw[h22 (12+i) O]
  match i,hi with
  |0,_=>rfl
  |1,_=>rfl
  |2,_=>rfl
  |3,_=>rfl
  |4,_=>rfl
  |5,_=>rfl
  |6,_=>rfl
  |7,_=>rfl
  |8,_=>rfl
  |9,_=>rfl
  |i+10,hi=>omega
 ·rw[hg _ O,irqF_t hj O,AN,CO Ez,DW,An hi];rfl
 ·rw[hg _ O,irqF_t hj O,AN,CB AB];simp
 ·rw[hg _ O,show 23+j=22+(j+1) by omega,irqF_t hj O,AN,CB AB];simp
 ·rw[hg 128 O];rfl
 ·rw[hg 129 O];rfl
 ·rw[hg 130 O];rfl
end Gm
end Go.Proofs.YtpmlgdopfafcgaaGreatDoor
