import Derived.Test.YtpmlgdopfafcgaaGreatDoorY28
open Go.Value renaming int→J,slice→U,bool→Ap,tuple→AD,ownBlock→Bp,agg→AA,pointer→Bi
open Option renaming some→I,none→G
open Go.IntKind renaming i64→Z,u32→V,u64→AM,u8→AC,wrap_u64→Dk,wrap_u32→DH
open Bool renaming false→Aa,true→Af,false_ne_true→Da,false_and→D7
open Go renaming World→Ac,Value→As,Calls→At,bodyPost_ret→Bf,TypeId→AK,wp_region_held_drew→BY,info_parts→BH,Ending→AT,madeCells→Cb,maxLen→Br,Program→BW,undef→Bt,wpList→BL,bits→Bb,run_underlying→CX
open List renaming getD_eq_getElem?_getD→AN,getElem?_eq_getElem→Bj,length_append→BJ,append_assoc→BM,mem_map→Bo,getElem?_take_of_lt→Cw,replicate→BK,range→Bm,getElem?_append_right→CB,getElem_mem→BU,mem_append→BZ,getElem?_append_left→CO,getElem?_map→C7,cons_append→CC,mem_filter→C8,length_pos_iff→CP,length_cons→CK,mem_cons→Cy,getLastD_eq_getLast?→Dg,nil_append→CI,getElem?_eq_none→De,dropLast_concat→Do,mem_singleton→Dv,map_append→Df,length_map→Di,getElem_of_mem→DD,length_nil→Dp,concat_eq_append→DI,getElem?_range→DL,range_succ→DB,getElem?_replicate→DW,singleton_append→DV,map_cons→D6,map_map→D8,setIfInBounds_toArray→Eb
open Go.Ending renaming returned→Ax
open And renaming intro→A9
open Nat renaming le_refl→AE,lt_of_lt_of_le→AW,le_trans→AS,zero_le→AU,zero_add→Bn,eq_zero_or_pos→Dm,reduceEqDiff→Dq
open Or renaming inl→Ag,inr→Ah
open Go.Proofs.Tryz renaming underlying41→AP,underlying31→CF,underlying22→CV,underlying215→Dl,underlying26→DN
open Go.RowKit renaming intOf→AJ
open Int renaming eq_ofNat_of_zero_le→CM,toNat_natCast→C4,emod_eq_of_lt→CZ
open Go.Builtin renaming zeroCells→CG,delete_→Eh
open Array renaming getElem?_toList→CN,getElem?_eq_some_iff→DX
open Go.Region renaming wanted→CA
open Go.Result renaming andThen→CT
open Option.some renaming inj→Ds
open Go.MapKept renaming run_getObj_map→DJ,run_setObj_map→Ef
open Go.Instr renaming makeSlice→Dj,mapUpdate→DK
open Go.IntWalk renaming i64_in→Du
open Go.Lit renaming int→C9
open Go.Sem renaming run_bind→D5
set_option linter.all false
set_option maxHeartbeats 40000000
set_option maxRecDepth 1000000
open Go Go.RowKit
namespace Go.Proofs.YtpmlgdopfafcgaaGreatDoor
namespace Rn
open Gs Sv Gm Gc
theorem do_any(w:Ac)(s:St)(A0:Aw)(c0:Nat)(B0:Aw)(d0:Nat)(P:AG)(a:Bs.Ab)(A:Mu.Au)(g:Mc)(hS:StV w 0 s (U A0 s.d.length c0) (U B0 s.r.length d0))(hp: ∀k,ab A0=I k∨ab B0=I k→P k)(hM:Mch w P a A g)(hk:Rk s)(i:Ins)(n0:0≤i.n)(n1:i.n≤4294967295)(hu:Us s i)(ho:g.b.outs.length≤1000000):At Tryz.prog 92 #[AA (stc s (U A0 s.d.length c0) (U B0 s.r.length d0)),insV i,↑A.gU,↑a.gB] w (ResPost w P a A (doR s i g)):=
 do_good w s A0 c0 B0 d0 P a A g hS hp hM hk i n0 n1 hu.ch hu.ux ho
end Rn
end Go.Proofs.YtpmlgdopfafcgaaGreatDoor
