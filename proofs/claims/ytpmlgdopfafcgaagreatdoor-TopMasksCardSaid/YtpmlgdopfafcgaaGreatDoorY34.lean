import Derived.Test.YtpmlgdopfafcgaaGreatDoorY30
open Go.Value renaming int→J,slice→U,bool→Ap,tuple→AD,ownBlock→Bp,agg→AA,pointer→Bi
open Option renaming some→I,none→G
open Go.IntKind renaming i64→Z,u32→V,u64→AM,u8→AC,wrap_u64→Dk,wrap_u32→DH
open Bool renaming false→Aa,true→Af,false_ne_true→Da,false_and→D7
open Go renaming World→Ac,Value→As,Calls→At,bodyPost_ret→Bf,TypeId→AK,wp_region_held_drew→BY,info_parts→BH,Ending→AT,madeCells→Cb,maxLen→Br,Program→BW,undef→Bt,wpList→BL,bits→Bb,run_underlying→CX
open List renaming getD_eq_getElem?_getD→AN,getElem?_eq_getElem→Bj,length_append→BJ,append_assoc→BM,mem_map→Bo,getElem?_take_of_lt→Cw,replicate→BK,range→Bm,getElem?_append_right→CB,getElem_mem→BU,mem_append→BZ,getElem?_append_left→CO,getElem?_map→C7,cons_append→CC,mem_filter→C8,length_pos_iff→CP,length_cons→CK,mem_cons→Cy,getLastD_eq_getLast?→Dg,nil_append→CI,getElem?_eq_none→De,dropLast_concat→Do,mem_singleton→Dv,map_append→Df,length_map→Di,getElem_of_mem→DD,length_nil→Dp,concat_eq_append→DI,getElem?_range→DL,range_succ→DB,getElem?_replicate→DW,singleton_append→DV,map_cons→D6,map_map→D8,setIfInBounds_toArray→Eb
open Go.Ending renaming returned→Ax
open And renaming intro→A9
open Nat renaming le_refl→AE,lt_of_lt_of_le→AW,le_trans→AS,zero_le→AU,zero_add→Bn,eq_zero_or_pos→Dm,reduceEqDiff→Dq
open Or renaming inl→Ag,inr→Ah
open Go.Proofs.Tryz renaming underlying41→AP,underlying31→CF,underlying22→CV,underlying215→Dl,underlying26→DN
open Go.RowKit renaming intOf→AJ
open Int renaming eq_ofNat_of_zero_le→CM,toNat_natCast→C4,emod_eq_of_lt→CZ
open Go.Builtin renaming zeroCells→CG,delete_→Eh
open Array renaming getElem?_toList→CN,getElem?_eq_some_iff→DX
open Go.Region renaming wanted→CA
open Go.Result renaming andThen→CT
open Option.some renaming inj→Ds
open Go.MapKept renaming run_getObj_map→DJ,run_setObj_map→Ef
open Go.Instr renaming makeSlice→Dj,mapUpdate→DK
open Go.IntWalk renaming i64_in→Du
open Go.Lit renaming int→C9
open Go.Sem renaming run_bind→D5
set_option linter.all false
set_option maxHeartbeats 40000000
set_option maxRecDepth 1000000
open Go Go.RowKit
namespace Go.Proofs.YtpmlgdopfafcgaaGreatDoor
namespace Eg
open Mz Go.Maps Ca
theorem KO{w w':Ac}{ge:Nat}{e:Eo}(h:En w ge e){s':Cs}(hc:Cch w' e.gc s')(f:Fr (e.s.wr e.gc) w w')(hbl:s'.bl=e.s.bl)(hgm:s'.gm=e.s.gm)(hfl:s'.fl=e.s.fl)(ho: ∀q,s'.own e.gc q→e.s.own e.gc q∨w.heap.size≤q):Elk w w' ge e {e with s:=s'} 0:=by
 obtain⟨q1,q2,q3,q4,q5⟩:=h.ges;obtain⟨bs,clock,hm⟩:=h.m;have hf:Fr (e.wr ge) w w':=f.mono (λq _ r=> Ah (Ag r));refine Elk.of h ⟨h.b.fr f (λq=>q4 (Ag q)),hc,⟨bs,clock,hm.fr f (λq=>q5 (Ag q))⟩,λp hp=>h.row hf (h.r p hp) oth8,λq=>h.ne (q.trans hgm),λb hb=>h.ok b (by rw[←hbl];exact hb),h.ko,h.la⟩ rfl (by show s'.fl≤_;rw[hfl];omega) (λk hk=>?_) hf;rcases hk with q|q|q|q;·exact Ag (Ag q)
 ·rcases ho k q with q|q;·exact Ag (Ah (Ag q))
  ·exact Ah q
 ·exact KD
 ·exact Ag (Ah (Ah (Ah q)))
theorem link_elk{w w':Ac}{ge:Nat}{e:Eo}{a b:Ky}{ed:AT}(h:En w ge e)(hl:LinkPost w e.gc e.s a b ed w'):(∃t,ed=Ax (Ap t))∧ ∃e',Elk w w' ge e e' 0∧e'.fa=e.fa∧e'.sl=e.sl∧e'.la=e.la∧e'.be=e.be:=by
 unfold LinkPost at hl;split at hl
 ·obtain⟨rfl,f,hl⟩:=hl;refine⟨⟨_,rfl⟩, ?_⟩;split at hl;·exact⟨_,KO h hl f rfl rfl rfl (λq hq=> Ag hq),rfl,rfl,rfl,rfl⟩
  ·obtain⟨A,c,hc,ho⟩:=hl;exact⟨_,KO h hc f rfl rfl rfl ho,rfl,rfl,rfl,rfl⟩
 ·obtain⟨rfl,f,hc⟩:=hl;exact⟨⟨_,rfl⟩,_,KO h hc f rfl rfl rfl (λq hq=> Ag hq),rfl,rfl,rfl,rfl⟩
end Eg
end Go.Proofs.YtpmlgdopfafcgaaGreatDoor
