import Derived.Test.YtpmlgdopfafcgaaGreatDoorY11
open Go.Value renaming int→J,slice→U,bool→Ap,tuple→AD,ownBlock→Bp,agg→AA,pointer→Bi
open Option renaming some→I,none→G
open Go.IntKind renaming i64→Z,u32→V,u64→AM,u8→AC,wrap_u64→Dk,wrap_u32→DH
open Bool renaming false→Aa,true→Af,false_ne_true→Da,false_and→D7
open Go renaming World→Ac,Value→As,Calls→At,bodyPost_ret→Bf,TypeId→AK,wp_region_held_drew→BY,info_parts→BH,Ending→AT,madeCells→Cb,maxLen→Br,Program→BW,undef→Bt,wpList→BL,bits→Bb,run_underlying→CX
open List renaming getD_eq_getElem?_getD→AN,getElem?_eq_getElem→Bj,length_append→BJ,append_assoc→BM,mem_map→Bo,getElem?_take_of_lt→Cw,replicate→BK,range→Bm,getElem?_append_right→CB,getElem_mem→BU,mem_append→BZ,getElem?_append_left→CO,getElem?_map→C7,cons_append→CC,mem_filter→C8,length_pos_iff→CP,length_cons→CK,mem_cons→Cy,getLastD_eq_getLast?→Dg,nil_append→CI,getElem?_eq_none→De,dropLast_concat→Do,mem_singleton→Dv,map_append→Df,length_map→Di,getElem_of_mem→DD,length_nil→Dp,concat_eq_append→DI,getElem?_range→DL,range_succ→DB,getElem?_replicate→DW,singleton_append→DV,map_cons→D6,map_map→D8,setIfInBounds_toArray→Eb
open Go.Ending renaming returned→Ax
open And renaming intro→A9
open Nat renaming le_refl→AE,lt_of_lt_of_le→AW,le_trans→AS,zero_le→AU,zero_add→Bn,eq_zero_or_pos→Dm,reduceEqDiff→Dq
open Or renaming inl→Ag,inr→Ah
open Go.Proofs.Tryz renaming underlying41→AP,underlying31→CF,underlying22→CV,underlying215→Dl,underlying26→DN
open Go.RowKit renaming intOf→AJ
open Int renaming eq_ofNat_of_zero_le→CM,toNat_natCast→C4,emod_eq_of_lt→CZ
open Go.Builtin renaming zeroCells→CG,delete_→Eh
open Array renaming getElem?_toList→CN,getElem?_eq_some_iff→DX
open Go.Region renaming wanted→CA
open Go.Result renaming andThen→CT
open Option.some renaming inj→Ds
open Go.MapKept renaming run_getObj_map→DJ,run_setObj_map→Ef
open Go.Instr renaming makeSlice→Dj,mapUpdate→DK
open Go.IntWalk renaming i64_in→Du
open Go.Lit renaming int→C9
open Go.Sem renaming run_bind→D5
set_option linter.all false
set_option maxHeartbeats 40000000
set_option maxRecDepth 1000000
open Go Go.RowKit
namespace Go.Proofs.YtpmlgdopfafcgaaGreatDoor
namespace Tr
open Gs
def tkB(tt:Nat→Nat)(pl:Nat→Int)(n:Nat)(k:Int):Nat→Bool
 |0=>Aa
 |j+1=>tkB tt pl n k j||(decide (pl j=k)&&meetB tt j n)
variable{tt:Nat→Nat}{pl:Nat→Int}{n:Nat}
theorem tkB_no{k:Int}: ∀{j:Nat},tkB tt pl n k j=Aa→ ∀i,i<j→pl i=k→meetB tt i n=Aa
 |0,_,i,hi,_=>absurd hi O
 |j+1,h,i,hi,e=>by
  simp only[tkB,Bool.or_eq_false_iff] at h;by_cases e2:i=j;·subst e2;have:=h.2;simpa[e] using this
  ·exact tkB_no h.1 i O e
theorem tkB_of{k:Int}: ∀{j:Nat},(∀i,i<j→pl i≠k)→tkB tt pl n k j=Aa
 |0,_=>rfl
 |j+1,h=>by
  simp only[tkB,Bool.or_eq_false_iff];exact⟨tkB_of (λi hi=>h i O),by simp[h j (by omega)]⟩
theorem pigL: ∀(n:Nat) (l:List Int),l.length=n→ ∃k:Nat,k≤n∧(k:Int)∉l
 |0,l,h=>⟨0,AE _,by rw[List.eq_nil_of_length_eq_zero h];simp⟩
 |n+1,l,h=>by
  by_cases hm:((n+1:Nat):Int)∈l;·obtain⟨k,hk,hn⟩:=pigL n (l.erase ((n+1:Nat):Int)) (by rw[List.length_erase_of_mem hm,h];rfl);refine⟨k,O,λhc=>hn ?_⟩;exact(List.mem_erase_of_ne O).2 hc
  ·exact⟨n+1,AE _,hm⟩
theorem free_is(tt:Nat→Nat)(pl:Nat→Int)(n N:Nat): ∃m:Nat,m≤N∧tkB tt pl n m N=Aa:=by
 obtain⟨k,hk,hn⟩:=pigL N ((Bm N).map pl) AB;refine⟨k,hk,tkB_of (λi hi e=>hn ?_)⟩;rw[←e];exact Bo.2 ⟨i,List.mem_range.2 hi,rfl⟩
theorem free_r{N:Nat}{k:Nat}(h:tkB tt pl n k N=Aa)(hp: ∀i,N≤i→pl i= -1):FreeR tt pl n k:=
 ⟨O,λi e=>by
  by_cases hi:i<N;·exact tkB_no h i hi e
  ·have:=hp i O;omega⟩
end Tr
end Go.Proofs.YtpmlgdopfafcgaaGreatDoor
