import Derived.Test.YtpmlgdopfafcgaaGreatDoorY23
import Derived.Test.YtpmlgdopfafcgaaGreatDoorY31
open Go.Value renaming int→J,slice→U,bool→Ap,tuple→AD,ownBlock→Bp,agg→AA,pointer→Bi
open Option renaming some→I,none→G
open Go.IntKind renaming i64→Z,u32→V,u64→AM,u8→AC,wrap_u64→Dk,wrap_u32→DH
open Bool renaming false→Aa,true→Af,false_ne_true→Da,false_and→D7
open Go renaming World→Ac,Value→As,Calls→At,bodyPost_ret→Bf,TypeId→AK,wp_region_held_drew→BY,info_parts→BH,Ending→AT,madeCells→Cb,maxLen→Br,Program→BW,undef→Bt,wpList→BL,bits→Bb,run_underlying→CX
open List renaming getD_eq_getElem?_getD→AN,getElem?_eq_getElem→Bj,length_append→BJ,append_assoc→BM,mem_map→Bo,getElem?_take_of_lt→Cw,replicate→BK,range→Bm,getElem?_append_right→CB,getElem_mem→BU,mem_append→BZ,getElem?_append_left→CO,getElem?_map→C7,cons_append→CC,mem_filter→C8,length_pos_iff→CP,length_cons→CK,mem_cons→Cy,getLastD_eq_getLast?→Dg,nil_append→CI,getElem?_eq_none→De,dropLast_concat→Do,mem_singleton→Dv,map_append→Df,length_map→Di,getElem_of_mem→DD,length_nil→Dp,concat_eq_append→DI,getElem?_range→DL,range_succ→DB,getElem?_replicate→DW,singleton_append→DV,map_cons→D6,map_map→D8,setIfInBounds_toArray→Eb
open Go.Ending renaming returned→Ax
open And renaming intro→A9
open Nat renaming le_refl→AE,lt_of_lt_of_le→AW,le_trans→AS,zero_le→AU,zero_add→Bn,eq_zero_or_pos→Dm,reduceEqDiff→Dq
open Or renaming inl→Ag,inr→Ah
open Go.Proofs.Tryz renaming underlying41→AP,underlying31→CF,underlying22→CV,underlying215→Dl,underlying26→DN
open Go.RowKit renaming intOf→AJ
open Int renaming eq_ofNat_of_zero_le→CM,toNat_natCast→C4,emod_eq_of_lt→CZ
open Go.Builtin renaming zeroCells→CG,delete_→Eh
open Array renaming getElem?_toList→CN,getElem?_eq_some_iff→DX
open Go.Region renaming wanted→CA
open Go.Result renaming andThen→CT
open Option.some renaming inj→Ds
open Go.MapKept renaming run_getObj_map→DJ,run_setObj_map→Ef
open Go.Instr renaming makeSlice→Dj,mapUpdate→DK
open Go.IntWalk renaming i64_in→Du
open Go.Lit renaming int→C9
open Go.Sem renaming run_bind→D5
set_option linter.all false
set_option maxHeartbeats 40000000
set_option maxRecDepth 1000000
open Go Go.RowKit
namespace Go.Proofs.YtpmlgdopfafcgaaGreatDoor
namespace Lw_
open Gs Sv Tr Em Ip Lo Sw
theorem one14:z14.all (·.oneCell')=Af:=by simp[z14,Value.oneCell']
theorem lower_nil(w:Ac)(pc:Int)(A:Aw)(c:Nat):At Tryz.prog 107 #[J V pc,U A 0 c] w λe w'=>e=Ax (AD #[AA z14,J Z 12])∧Fr Aj w w':=by
 have b:=AH w 215 z14;have o:=one14;have f0:Fr Aj w (w.alloc (.cells z14 215)):=(Ao _ w).alloc _;have F0:=T f0;clear f0;go_in;go_wp2_with ((with_reducible refine wpL_sq (cs':=z14) b sz14 o ?_);intro W1 b1 f1;have HB1:=T b1;have HF1:=T f1;clear b1 f1 b o);refine Bf (results_ct rfl _ _ w.heap.size 215 _ _ (J Z 12) rfl rfl HB1.out Dl rfl sz14) rfl ⟨rfl,F0.out.trans HF1.out (λk hk e=>by have e:k=w.heap.size:=e;omega)⟩
end Lw_
namespace Gm
open Fm Nt Rm By Wk Gs
structure Im(ms:Ms)(mk:Int)(pad:Nat):Prop where
 n:ms.n=3
 hd: ∀i,i<8→ms.mem i=[2,128,0,0,0,67,3,2].getD i 0
 lw:ms.mem 8+256*(ms.mem 9+256*(ms.mem 10+256*ms.mem 11))=mk
 tl: ∀i,i<10→ms.mem (12+i)=[2,4,128,0,0,49,1,1,67,0].getD i 0
 nops: ∀i,i<pad→ms.mem (22+i)=0
 j0:ms.mem (22+pad)=32
 j1:ms.mem (23+pad)=254
 h:ms.mem 128=66∧ms.mem 129=5∧ms.mem 130=69
 pad:pad≤12
variable{mk:Int}{pad:Nat}
theorem Im.calm{ms:Ms}(h:Im ms mk pad):Im ms.calm mk pad:=⟨h.n,h.hd,h.lw,h.tl,h.nops,h.j0,h.j1,h.h,h.pad⟩
structure Idle(g:Mc)(p m:Nat):Prop where
 tm:g.b.tm=0
 p:g.b.p=p
 m:g.b.m=m
variable{g:Mc}{p m:Nat}
theorem Idle.calm(h:Idle g p m):Idle g.calm p m:=⟨h.tm,h.p,h.m⟩
theorem due0(h:Idle g p m)(c:Int):Tm.dueB g.b.tm c=Aa:=by rw[h.tm];rfl
def atS(pc ct:Int):St:={St.new with pc:=pc,ve:=128,ie:=Af,ct:=ct}
theorem irq_1(h:Im g.b.ms mk pad)(i:Idle g p 0):BB St.new g ⟨{St.new with pc:=7,ve:=128,ct:=2},g.calm⟩:=by
 have hf1:fetchR g.b.ms 0=I (⟨2,128⟩,5):=fetch5 Ak EP Ak (h.hd 0 Ak) (h.hd 1 Ak) (h.hd 2 Ak) (h.hd 3 Ak) (h.hd 4 Ak) Ak;have hf2:fetchR g.calm.b.ms 5=I (⟨67,3⟩,2):=fetch2 Ak (by show(5:Int)<(g.b.ms.n:Int)*64;rw[h.n];decide) Ak (h.hd 5 Ak) (h.hd 6 Ak) Ak;have h2:RR {St.new with pc:=5,d:=[128],ct:=1} 5 0 g.calm 7 ⟨{St.new with pc:=7,ve:=128,ct:=2},g.calm⟩:=rr_ends hf2 (us_csrw (l:=[]) (v:=128) rfl Ak Ak rfl rfl (Ah rfl)) (do_csrw (l:=[]) (v:=128) rfl Ak Ak rfl Ak) rfl;have h1:=rr_plain (s:=St.new) (page:=0) hf1 (us_p Ak rfl) Ak Ak rfl Ak rfl rfl h2;exact block_rr Ak rfl (due0 i 0) Gr rfl EP h1
theorem irq_2(h:Im g.b.ms mk pad)(i:Idle g p 0)(m0:0≤mk)(m1:mk≤4294967295): ∃g',BB {St.new with pc:=7,ve:=128,ct:=2} g ⟨{St.new with pc:=18,ve:=128,ct:=5},g'⟩∧g'.b={g.b with m:=mk.toNat%256,ms:=g.b.ms.calm}∧g'.l=g.l:=by
 have hf1:fetchR g.b.ms 7=I (⟨2,mk⟩,5):=fetch5 Ak EP Ak (h.hd 7 Ak) rfl rfl rfl rfl h.lw;have hf2:fetchR g.calm.b.ms 12=I (⟨2,32772⟩,5):=fetch5 Ak (by show(12:Int)<(g.b.ms.n:Int)*64;rw[h.n];decide) Ak (h.tl 0 Ak) (h.tl 1 Ak) (h.tl 2 Ak) (h.tl 3 Ak) (h.tl 4 Ak) Ak;have hf3:fetchR g.calm.calm.b.ms 17=I (⟨49,0⟩,1):=fetch1 Ak (by show(17:Int)<(g.b.ms.n:Int)*64;rw[h.n];decide) (h.tl 5 Ak) Ak;have h3:RR {St.new with pc:=17,ve:=128,d:=[mk,32772],ct:=4} 17 0 g.calm.calm 6 ⟨{St.new with pc:=18,ve:=128,ct:=5},⟨g.calm.calm.calm.b.store 32772 mk,g.l⟩⟩:=rr_ends hf3 (us_st (l:=[]) (v:=mk) (at_:=32772) rfl Ak (AU _) rfl Ak) (Ss (l:=[]) (v:=mk) (at_:=32772) rfl Ak (AU _) rfl Ak Ak Ak Ak) rfl;have h2:=rr_plain (s:={St.new with pc:=12,ve:=128,d:=[mk],ct:=3}) (page:=0) hf2 (us_p rfl rfl) rfl rfl rfl rfl rfl rfl h3;have h1:=rr_plain (s:={St.new with pc:=7,ve:=128,ct:=2}) (page:=0) hf1 (us_p rfl rfl) rfl rfl rfl rfl rfl rfl h2;refine⟨_,block_rr Ak rfl (due0 i _) Gr rfl EP h1, ?_,rfl⟩;have e:Bs.offO 32772=4:=Ak;dsimp only;unfold Bs.Sb.store Bs.Sb.storeO;rw[e];rfl
theorem irq_3(h:Im g.b.ms mk pad)(i:Idle g p m):BB {St.new with pc:=18,ve:=128,ct:=5} g ⟨atS 22 7,g.calm⟩:=by
 have hf1:fetchR g.b.ms 18=I (⟨1,1⟩,2):=fetch2 Ak EP Ak (h.tl 6 Ak) (h.tl 7 Ak) Ak;have hf2:fetchR g.calm.b.ms 20=I (⟨67,0⟩,2):=fetch2 Ak (by show(20:Int)<(g.b.ms.n:Int)*64;rw[h.n];decide) Ak (h.tl 8 Ak) (h.tl 9 Ak) Ak;have h2:RR {St.new with pc:=20,ve:=128,d:=[1],ct:=6} 20 0 g.calm 7 ⟨atS 22 7,g.calm⟩:=rr_ends hf2 (us_csrw (l:=[]) (v:=1) rfl Ak Ak rfl rfl (Ag rfl)) (do_csrw (l:=[]) (v:=1) rfl Ak Ak rfl Ak) rfl;have h1:=rr_plain (s:={St.new with pc:=18,ve:=128,ct:=5}) (page:=0) hf1 (us_p Ak rfl) Ak Ak rfl Ak rfl rfl h2;exact block_rr Ak rfl (due0 i _) Gr rfl EP h1
theorem atS_nop(x ct:Int)(c0:0≤ct)(c1:ct≤1000000)(x0:0≤x)(x1:x≤1000):plainS (atS x ct) ⟨0,0⟩=atS (x+1) (ct+1):=by
 show({St.new with pc:=(x+1)%4294967296,ve:=128,ie:=Af,ct:=(ct+1)%18446744073709551616}:St)=_;rw[CZ O O,CZ O O];rfl
theorem nops: ∀(m:Nat) {g:Mc} {mk:Int} {pad:Nat} (h:Im g.b.ms mk pad) (j k:Nat) (ct:Int) (c0:0≤ct) (c1:ct+m≤1000000) (hj:j+m≤pad) {x:Sg},RR (atS (22+(j+m:Nat)) (ct+m)) (22+(j+m:Nat)) 0 (if m=0 then g else g.calm) k x→RR (atS (22+j) ct) (22+j) 0 g (k+m) x
 |0,g,mk,pad,h,j,k,ct,c0,c1,hj,x,hx=>by simpa using hx
 |m+1,g,mk,pad,h,j,k,ct,c0,c1,hj,x,hx=>by
  have hp:=h.pad;have hf1:fetchR g.b.ms (22+j)=I (⟨0,0⟩,1):=fetch1 O (by rw[h.n];omega) (by have:=h.nops j (by omega);rwa[show((22:Int)+j).toNat=22+j by omega]) Ak;have ih:=nops m (g:=g.calm) (mk:=mk) (pad:=pad) h.calm (j+1) k (ct+1) O O O (x:=x);have e1:((22:Int)+(j+1:Nat))=22+j+1:=O;have e2:(if m=0 then g.calm else g.calm.calm)=g.calm:=by split<;>rfl
  rw[e1,e2,show j+1+m=j+(m+1) by omega,show ct+1+(m:Int)=ct+((m+1:Nat):Int) by omega] at ih;rw[Ae O] at hx;refine rr_plain (s':=atS (22+j+1) (ct+1)) (q:=22+j+1) hf1 (us_p rfl rfl) Ak Ak rfl ?_ (atS_nop _ _ c0 O O O) ?_ (ih hx);·show((22:Int)+j+1)%4294967296/64=(22+j)/64;omega
  ·show((22:Int)+j+((1:Nat):Int))%4294967296=_;omega
theorem wait_1(h:Im g.b.ms mk pad)(k:Nat)(ct:Int)(c0:0≤ct)(c1:ct≤1000000):RR (atS (22+pad) ct) (22+pad) 0 g (k+1) ⟨atS (22+pad) (ct+1),g.calm⟩:=by
 have hp:=h.pad;have hf:fetchR g.b.ms (22+pad)=I (⟨32,254⟩,2):=fetch2 O (by rw[h.n];omega) O (by have:=h.j0;rwa[show((22:Int)+pad).toNat=22+pad by omega]) (by have:=h.j1;rwa[show((22:Int)+pad).toNat+1=23+pad by omega]) Ak;refine rr_jump hf (us_p rfl rfl) Ak Ak ?_;show({St.new with pc:=((22+(pad:Int)+2)%4294967296+4294967294)%4294967296,ve:=128,ie:=Af,ct:=(ct+1)%18446744073709551616}:St)=_;rw[show((22+(pad:Int)+2)%4294967296+4294967294)%4294967296=22+pad by omega,CZ O O];rfl
theorem at_right(x ct:Int):(atS x ct).right=Af:=rfl
variable{x ct:Int}
theorem block_at(h:Im g.b.ms mk pad)(i:Idle g p m)(hi:Iq.nextB p m=Aa)(x0:x<64){y:Sg}(hy:RR (atS x ct) x (x/64) g 8 y):BB (atS x ct) g y:=
 block_rr rfl rfl (due0 i _) (by rw[i.p,i.m,hi];rfl) rfl (by rw[h.n];show x<192;omega) hy
theorem wait_blk(h:Im g.b.ms mk pad)(i:Idle g p m)(hi:Iq.nextB p m=Aa)(c0:0≤ct)(c1:ct≤1000000):BB (atS (22+pad) ct) g ⟨atS (22+pad) (ct+1),g.calm⟩:=by
 have hp:=h.pad;have:=wait_1 h 7 ct c0 c1;exact block_at h i hi O (by rw[show((22:Int)+pad)/64=0 by omega];exact this)
theorem wait_run(h:Im g.b.ms mk pad)(i:Idle g p m)(hi:Iq.nextB p m=Aa)(hc:g.calm=g): ∀(k:Nat) (ct:Int) (c0:0≤ct) (c1:ct+k≤1000000),blkN k (atS (22+pad) ct) g=⟨atS (22+pad) (ct+k),g⟩
 |0,ct,_,_=>by simp[blkN]
 |k+1,ct,c0,c1=>by
  have ih:=wait_run h i hi hc k ct c0 O;show blockR (blkN k _ g).s (blkN k _ g).g=_;rw[ih];have:=wait_blk h i hi (ct:=ct+k) O O;rw[hc] at this;rw[this.1,show ct+(k:Int)+1=ct+((k+1:Nat):Int) by omega]
theorem irq_blk(h:Im g.b.ms mk pad)(i:Idle g p m)(hi:Iq.nextB p m=Af)(c0:0≤ct)(c1:ct≤1000000):BB (atS x ct) g ⟨{(atS x ct).trap (16+(Iq.nextN p m:Int)) 0 with pc:=130,d:=[16+(Iq.nextN p m:Int)],ct:=ct+1},g.calm⟩:=by
 obtain⟨N,hN⟩:=Az (16+(Iq.nextN p m:Int):Int);have hs:irqS (atS x ct) ⟨g.b,g.l⟩=(atS x ct).trap N 0:=by
  unfold irqS;show(if Iq.nextB g.b.p g.b.m&&Af then(atS x ct).trap (16+(Iq.nextN g.b.p g.b.m:Int)) 0 else atS x ct)=_;rw[i.p,i.m,hi,hN];rfl
 have hb:beginR (atS x ct) g=⟨(atS x ct).trap N 0,128,Af,g⟩:=by
  unfold beginR;rw[Ae (by rw[at_right];simp;rfl)];have e:g.b.tick (atS x ct).ct=g.b:=by unfold Bs.Sb.tick;rw[due0 i];rfl
  rw[e];dsimp only;rw[hs];have e3:Mu.placeR (⟨g.b,g.l⟩:Mc).u (spS ((atS x ct).trap N 0)) ((atS x ct).trap N 0).pc 1=⟨128,0,0,g.u⟩:=by
   unfold Mu.placeR Mu.thereB;rw[An (by rw[show(g.u).m.n=g.b.ms.n from rfl,h.n];rfl)];rfl
  rw[e3];rfl
 have hf:fetchR g.b.ms 128=I (⟨66,5⟩,2):=fetch2 Ak EP Ak h.h.1 h.h.2.1 Ak;have hd:=do_csrr (s:=(atS x ct).trap N 0) (g:=g) (n:=5) (AU _) (AU _) rfl Ak;have hr:=rr_ends (p:=128) (page:=128/64) (k:=7) hf (us_csrr (AU _) (AU _) rfl rfl Ak) hd rfl;refine⟨?_,rfl,λ_=>by rw[hb];exact hr.2⟩;unfold blockR;rw[hb,An rfl,hN];dsimp only;rw[hr.1];show(⟨{(atS x ct).trap N 0 with pc:=130,d:=[]++[N],ct:=(ct+1)%18446744073709551616},g.calm⟩:Sg)=_;rw[CZ O O];rfl
variable{s:St}
theorem halt_blk(h:Im g.b.ms mk pad)(i:Idle g p m)(hp:s.pc=130)(hr:s.right=Af)(hie:s.ie=Aa)(hpg:s.pg=Aa)(hh:s.ha=Aa)(hs:s.su=Af):BB s g ⟨{s.next ⟨69,0⟩ with ha:=Af},g.calm⟩:=by
 have hf:fetchR g.b.ms s.pc=I (⟨69,0⟩,1):=by rw[hp];exact fetch1 (by decide) (by rw[h.n];decide) h.h.2.2 (by decide)
 have hr':=hr;simp[St.right] at hr';exact block_rr hr hh (due0 i _) (by rw[hie];simp) hpg (by rw[hp,h.n];decide) (rr_ends hf (us_halt hr'.1.1 hr'.1.2 hs hpg) (do_halt hr'.1.1 hr'.1.2 hs) (by show(Af||_)=Af;rfl))
theorem blkN_add(a:Nat)(s:St)(g:Mc): ∀b,blkN (a+b) s g=blkN b (blkN a s g).s (blkN a s g).g
 |0=>rfl
 |b+1=>by
  show blockR (blkN (a+b) s g).s (blkN (a+b) s g).g=blockR (blkN b (blkN a s g).s (blkN a s g).g).s (blkN b (blkN a s g).s (blkN a s g).g).g;rw[blkN_add a s g b]
theorem Tx(h:Im g.b.ms mk pad)(i:Idle g p 0)(m0:0≤mk)(m1:mk≤4294967295): ∃Bv g1 g2,blkN 1 St.new g=⟨{St.new with pc:=7,ve:=128,ct:=2},g1⟩∧blkN 2 St.new g=⟨{St.new with pc:=18,ve:=128,ct:=5},g2⟩∧blkN 3 St.new g=⟨atS 22 7,Bv⟩∧Im Bv.b.ms mk pad∧Idle Bv p (mk.toNat%256)∧Bv.calm=Bv∧Bv.b.outs=g.b.outs∧ ∀k,k<3→okB (blkN k St.new g).s (blkN k St.new g).g:=by
 have e1:=irq_1 h i;obtain⟨g2,e2,b2,l2⟩:=irq_2 (g:=g.calm) h.calm i.calm m0 m1;have h2:Im g2.b.ms mk pad:=by rw[b2];exact h.calm
 have i2:Idle g2 p (mk.toNat%256):=by
  refine⟨?_, ?_, ?_⟩;·rw[b2];exact i.tm
  ·rw[b2];exact i.p
  ·rw[b2]
 have e3:=irq_3 h2 i2;have b1:blkN 1 St.new g=_:=e1.1;have b2':blkN 2 St.new g=⟨{St.new with pc:=18,ve:=128,ct:=5},g2⟩:=by
  show blockR (blkN 1 St.new g).s (blkN 1 St.new g).g=_;rw[b1];exact e2.1
 refine⟨g2.calm,g.calm,g2,b1,b2', ?_,h2.calm,i2.calm,rfl, ?_,λk hk=>?_⟩;·show blockR (blkN 2 St.new g).s (blkN 2 St.new g).g=_;rw[b2'];exact e3.1
 ·show g2.b.outs=_;rw[b2];rfl
 ·match k,hk with
  |0,_=>exact e1.2
  |1,_=>rw[b1];exact e2.2
  |2,_=>rw[b2'];exact e3.2
theorem irq_wait(h:Im g.b.ms mk pad)(i:Idle g p m)(hi:Iq.nextB p m=Aa)(hc:g.calm=g):∃M,1≤M∧blkN M (atS 22 7) g=⟨atS (22+pad) (8+pad),g⟩∧ ∀k,k<M→(blkN k (atS 22 7) g).s.ha=Aa∧0≤(blkN k (atS 22 7) g).s.ct∧(blkN k (atS 22 7) g).s.ct≤30∧okB (blkN k (atS 22 7) g).s (blkN k (atS 22 7) g).g:=by
 have hp:=h.pad;have hcc: ∀q:Prop,[Decidable q]→(if q then g else g.calm)=g:=λq _=>by rw[hc];split<;>rfl
 by_cases h8:pad≤7
 ·obtain⟨k,hk⟩: ∃k,8=(k+1)+pad:=⟨7 -pad,O⟩;have w1:=wait_1 h k (7+pad) O O;rw[hc] at w1;have e:=nops pad h 0 (k+1) 7 O O O (x:=⟨atS (22+pad) (7+pad+1),g⟩) (by rw[hcc,Bn];exact w1);rw[show(k+1)+pad=8 by omega] at e;have eb:BB (atS 22 7) g _:=block_at h i hi O e;refine⟨1,AE _, ?_,λj hj=>?_⟩;·show blockR (atS 22 7) g=_;rw[eb.1,show(7:Int)+pad+1=8+pad by omega]
  ·obtain rfl:j=0:=O;exact⟨rfl,by show(0:Int)≤7;omega,by show(7:Int)≤30;omega,eb.2⟩
 ·have e:=nops 8 h 0 0 7 O O O (x:=⟨atS 30 15,g⟩) (by rw[hcc];exact⟨rfl,trivial⟩);have eb:BB (atS 22 7) g ⟨atS 30 15,g⟩:=block_at h i hi O e;obtain⟨k,hk⟩: ∃k,8=(k+1)+(pad -8):=⟨7 -(pad -8),O⟩;have w1:=wait_1 h k (15+(pad -8:Nat)) O O;rw[hc] at w1;have e2:=nops (pad -8) h 8 (k+1) 15 O O O (x:=⟨atS (22+pad) (15+(pad -8:Nat)+1),g⟩) (by rw[hcc,show 8+(pad -8)=pad by omega];exact w1);rw[show(k+1)+(pad -8)=8 by omega] at e2;have eb2:BB (atS 30 15) g _:=block_at h i hi O e2;refine⟨2,O, ?_,λj hj=>?_⟩;·show blockR (blockR (atS 22 7) g).s (blockR (atS 22 7) g).g=_;rw[eb.1];dsimp only;rw[eb2.1,show(15:Int)+((pad -8:Nat):Int)+1=8+pad by omega]
  ·match j,hj with
   |0,_=>exact⟨rfl,by show(0:Int)≤7;omega,by show(7:Int)≤30;omega,eb.2⟩
   |1,_=>
    have e1:blkN 1 (atS 22 7) g=⟨atS 30 15,g⟩:=eb.1;rw[e1];exact⟨rfl,by show(0:Int)≤15;omega,by show(15:Int)≤30;omega,eb2.2⟩
variable{n:Int}
theorem go_at{f:Int}(h1:0<n)(h2:s.ha=Aa)(h3:0≤s.ct -f)(h4:s.ct -f<n)(h5:n≤1000000):goB f n s=Af:=by
 unfold goB;rw[h2,CZ h3 O];simp[h1,h4]
theorem stop_at{f:Int}(h:n≤0∨s.ha=Af∨(0≤s.ct -f∧n≤s.ct -f∧s.ct -f≤1000000)):goB f n s=Aa:=by
 unfold goB;rcases h with h|h|⟨h1,h2,h3⟩;·simp;omega
 ·simp[h]
 ·rw[CZ h1 O];simp;omega
theorem wait_to{j:Nat}(h:Im g.b.ms mk pad)(i:Idle g p m)(hi:Iq.nextB p m=Aa)(hc:g.calm=g)(c0:0≤ct)(c1:ct≤1000)(n0:0≤n)(n1:n≤1000)(hr:RunTo n (atS (22+pad) ct) g j):blkN j (atS (22+pad) ct) g=⟨atS (22+pad) (ct+n),g⟩:=by
 have hw:=λk (hk:k≤1000)=>wait_run h i hi hc k ct c0 O;obtain rfl:=hr.at n.toNat (λk hk=>by
  rw[hw k O];exact go_at O rfl (by show 0≤ct+(k:Int) -ct;omega) (by show ct+(k:Int) -ct<n;omega) O) (by
  rw[hw _ O];refine stop_at ?_;by_cases q:n=0;·exact Ag O
  ·refine Ah (Ah ⟨?_, ?_, ?_⟩);·show 0≤ct+((n.toNat:Nat):Int) -ct;omega
   ·show n≤ct+((n.toNat:Nat):Int) -ct;omega
   ·show ct+((n.toNat:Nat):Int) -ct≤1000000;omega)
 rw[hw _ O,show((n.toNat:Nat):Int)=n by omega]
theorem Wj{j:Nat}(h:Im g.b.ms mk pad)(i:Idle g p 0)(m0:0≤mk)(m1:mk≤4294967295)(hi:Iq.nextB p (mk.toNat%256)=Aa)(hr:RunTo 40 St.new g j):∃Bv,blkN j St.new g=⟨atS (22+pad) 40,Bv⟩∧Im Bv.b.ms mk pad∧Idle Bv p (mk.toNat%256)∧Bv.calm=Bv∧Bv.b.outs=g.b.outs:=by
 obtain⟨Bv,g1,g2,b1,b2,b3,hG,iG,hc,ho,_⟩:=Tx h i m0 m1;obtain⟨M,hM,eM,hlt⟩:=irq_wait hG iG hi hc;have hp:=h.pad;have h3:=Ty;have hMk:=Tz;refine⟨Bv, ?_,hG,iG,hc,ho⟩;obtain rfl:=hr.at (3+(M+(32 -pad))) (λk hk=>by
  match k with
  |0=>rfl
  |1=>rw[b1];rfl
  |2=>rw[b2];rfl
  |k+3=>
   by_cases q:k<M;·obtain⟨q1,q2,q3,_⟩:=hlt k q;rw[show k+3=3+k by omega,h3];exact go_at O q1 (by show 0≤_ -(0:Int);omega) (by show _ -(0:Int)<40;omega) O
   ·rw[show k+3=3+(M+(k -M)) by omega,hMk _ O];exact go_at O rfl (by show 0≤8+(pad:Int)+((k -M:Nat):Int) -0;omega) (by show 8+(pad:Int)+((k -M:Nat):Int) -0<40;omega) O) (by
  rw[hMk _ O];exact stop_at (Ah (Ah ⟨by show 0≤8+(pad:Int)+((32 -pad:Nat):Int) -0;omega,by show 40≤8+(pad:Int)+((32 -pad:Nat):Int) -0;omega,by show 8+(pad:Int)+((32 -pad:Nat):Int) -0≤1000000;omega⟩)))
 rw[hMk _ O,show 8+(pad:Int)+((32 -pad:Nat):Int)=40 by omega]
theorem Wl(h:Im g.b.ms mk pad)(i:Idle g p 0)(m0:0≤mk)(m1:mk≤4294967295)(hi:Iq.nextB p (mk.toNat%256)=Aa)(k:Nat)(hk: ∀i,i≤k→goB 0 40 (blkN i St.new g).s=Af):okB (blkN k St.new g).s (blkN k St.new g).g:=by
 obtain⟨Bv,g1,g2,b1,b2,b3,hG,iG,hc,ho,o3⟩:=Tx h i m0 m1;obtain⟨M,hM,eM,hlt⟩:=irq_wait hG iG hi hc;have hp:=h.pad;have h3:=Ty;have hMk:=Tz;by_cases q3:k<3;·exact o3 k q3
 by_cases q:k -3<M;·have:=(hlt (k -3) q).2.2.2;rw[←h3,show 3+(k -3)=k by omega] at this;exact this
 by_cases q4:k -3 -M≤1000;·have e:=hMk (k -3 -M) q4;rw[show 3+(M+(k -3 -M))=k by omega] at e;rw[e];exact(wait_blk hG iG hi O O).2
 ·have:=hk (3+(M+40)) O;rw[hMk _ O,stop_at (Ah (Ah ⟨by show 0≤8+(pad:Int)+((40:Nat):Int) -0;omega,by show 40≤8+(pad:Int)+((40:Nat):Int) -0;omega,by show 8+(pad:Int)+((40:Nat):Int) -0≤1000000;omega⟩))] at this
  cases this
theorem wait_ok(h:Im g.b.ms mk pad)(i:Idle g p m)(hi:Iq.nextB p m=Aa)(hc:g.calm=g)(c0:0≤ct)(c1:ct≤1000)(n1:n≤1000)(k:Nat)(hk: ∀i,i≤k→goB ct n (blkN i (atS (22+pad) ct) g).s=Af):okB (blkN k (atS (22+pad) ct) g).s (blkN k (atS (22+pad) ct) g).g:=by
 by_cases q:k≤1000;·rw[wait_run h i hi hc k ct c0 O];exact(wait_blk h i hi O O).2
 ·have:=hk 1000 O;rw[wait_run h i hi hc 1000 ct c0 O,stop_at (Ah (Ah ⟨by show 0≤ct+((1000:Nat):Int) -ct;omega,by show n≤ct+((1000:Nat):Int) -ct;omega,by show ct+((1000:Nat):Int) -ct≤1000000;omega⟩))] at this
  cases this
theorem irq_told(h:Im g.b.ms mk pad)(i:Idle g p m)(hi:Iq.nextB p m=Af)(c0:0≤ct)(c1:ct≤10000): ∃g1 g2 s1 s2,blkN 1 (atS x ct) g=⟨s1,g1⟩∧blkN 2 (atS x ct) g=⟨s2,g2⟩∧s1.ha=Aa∧s1.ct=ct+1∧s2.ha=Af∧s2.ct=ct+2∧s2.d=[16+(Iq.nextN p m:Int)]∧s2.ep=x∧g2.b.p=p:=by
 have e1:=irq_blk (x:=x) h i hi c0 O;have e2:=halt_blk (g:=g.calm) h.calm i.calm (s:={(atS x ct).trap (16+(Iq.nextN p m:Int)) 0 with pc:=130,d:=[16+(Iq.nextN p m:Int)],ct:=ct+1}) rfl rfl rfl rfl rfl rfl;have e3:blkN 2 (atS x ct) g=_:=(show blockR (blockR (atS x ct) g).s (blockR (atS x ct) g).g=_ from by rw[e1.1]).trans e2.1;refine⟨_,_,_,_,e1.1,e3,rfl,rfl,rfl, ?_,rfl,rfl,i.p⟩;show(ct+1+1)%18446744073709551616=ct+2;omega
theorem told_ok(h:Im g.b.ms mk pad)(i:Idle g p m)(hi:Iq.nextB p m=Af)(c0:0≤ct)(c1:ct≤10000)(f:Int)(k:Nat)(hk: ∀i,i≤k→goB f n (blkN i (atS x ct) g).s=Af):okB (blkN k (atS x ct) g).s (blkN k (atS x ct) g).g:=by
 have e1:=irq_blk (x:=x) h i hi c0 O;have e2:=halt_blk (g:=g.calm) h.calm i.calm (s:={(atS x ct).trap (16+(Iq.nextN p m:Int)) 0 with pc:=130,d:=[16+(Iq.nextN p m:Int)],ct:=ct+1}) rfl rfl rfl rfl rfl rfl;have b1:blkN 1 (atS x ct) g=_:=e1.1
 match k with
 |0=>exact e1.2
 |1=>rw[b1];exact e2.2
 |k+2=>
  obtain⟨g1,g2,s1,s2,q1,q2,q3,q4,q5,_⟩:=irq_told h i hi c0 c1 (x:=x);have:=hk 2 O;rw[q2,stop_at (Ah (Ag q5))] at this
  cases this
end Gm
end Go.Proofs.YtpmlgdopfafcgaaGreatDoor
