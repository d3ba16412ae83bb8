import Derived.Test.YtpmlgdopfafcgaaGreatDoorY23
import Derived.Test.YtpmlgdopfafcgaaGreatDoorY25
import Derived.Test.YtpmlgdopfafcgaaGreatDoorY27
open Go.Value renaming int→J,slice→U,bool→Ap,tuple→AD,ownBlock→Bp,agg→AA,pointer→Bi
open Option renaming some→I,none→G
open Go.IntKind renaming i64→Z,u32→V,u64→AM,u8→AC,wrap_u64→Dk,wrap_u32→DH
open Bool renaming false→Aa,true→Af,false_ne_true→Da,false_and→D7
open Go renaming World→Ac,Value→As,Calls→At,bodyPost_ret→Bf,TypeId→AK,wp_region_held_drew→BY,info_parts→BH,Ending→AT,madeCells→Cb,maxLen→Br,Program→BW,undef→Bt,wpList→BL,bits→Bb,run_underlying→CX
open List renaming getD_eq_getElem?_getD→AN,getElem?_eq_getElem→Bj,length_append→BJ,append_assoc→BM,mem_map→Bo,getElem?_take_of_lt→Cw,replicate→BK,range→Bm,getElem?_append_right→CB,getElem_mem→BU,mem_append→BZ,getElem?_append_left→CO,getElem?_map→C7,cons_append→CC,mem_filter→C8,length_pos_iff→CP,length_cons→CK,mem_cons→Cy,getLastD_eq_getLast?→Dg,nil_append→CI,getElem?_eq_none→De,dropLast_concat→Do,mem_singleton→Dv,map_append→Df,length_map→Di,getElem_of_mem→DD,length_nil→Dp,concat_eq_append→DI,getElem?_range→DL,range_succ→DB,getElem?_replicate→DW,singleton_append→DV,map_cons→D6,map_map→D8,setIfInBounds_toArray→Eb
open Go.Ending renaming returned→Ax
open And renaming intro→A9
open Nat renaming le_refl→AE,lt_of_lt_of_le→AW,le_trans→AS,zero_le→AU,zero_add→Bn,eq_zero_or_pos→Dm,reduceEqDiff→Dq
open Or renaming inl→Ag,inr→Ah
open Go.Proofs.Tryz renaming underlying41→AP,underlying31→CF,underlying22→CV,underlying215→Dl,underlying26→DN
open Go.RowKit renaming intOf→AJ
open Int renaming eq_ofNat_of_zero_le→CM,toNat_natCast→C4,emod_eq_of_lt→CZ
open Go.Builtin renaming zeroCells→CG,delete_→Eh
open Array renaming getElem?_toList→CN,getElem?_eq_some_iff→DX
open Go.Region renaming wanted→CA
open Go.Result renaming andThen→CT
open Option.some renaming inj→Ds
open Go.MapKept renaming run_getObj_map→DJ,run_setObj_map→Ef
open Go.Instr renaming makeSlice→Dj,mapUpdate→DK
open Go.IntWalk renaming i64_in→Du
open Go.Lit renaming int→C9
open Go.Sem renaming run_bind→D5
set_option linter.all false
set_option maxHeartbeats 40000000
set_option maxRecDepth 1000000
open Go Go.RowKit
namespace Go.Proofs.YtpmlgdopfafcgaaGreatDoor
namespace Eg
open Fm Nt Rm By Wk Gs Tr Gm
def inC(i:Ins):List As:=[J Z i.op,J V i.n]
def inCs(l:List Ins):List As:=l.flatMap inC
theorem inCs_one(l:List Ins): ∀u∈inCs l,u.oneCell'=Af:=by
 intro u hu;obtain⟨i,_,hi⟩:=List.mem_flatMap.1 hu;simp only[inC,Cy,List.not_mem_nil,or_false] at hi;rcases hi with rfl|rfl<;>rfl
theorem inCs_app(l m:List Ins):inCs (l++m)=inCs l++inCs m:=by simp[inCs]
theorem inCs_at: ∀(l:List Ins) (k:Nat),k<l.length→(inCs l)[k*2]?=I (J Z (l.getD k ⟨0,0⟩).op)∧(inCs l)[k*2+1]?=I (J V (l.getD k ⟨0,0⟩).n)
 |i::l,0,_=>⟨rfl,rfl⟩
 |i::l,k+1,h=>by
  have ih:=inCs_at l k C3;have e:inCs (i::l)=[J Z i.op,J V i.n]++inCs l:=rfl;rw[e,CB A8,CB A8];have e1:(k+1)*2 -[J IntKind.i64 i.op,J IntKind.u32 i.n].length=k*2:=A8;have e2:(k+1)*2+1 -[J IntKind.i64 i.op,J IntKind.u32 i.n].length=k*2+1:=A8;rw[e1,e2];exact ih
variable{w:Ac}
theorem atN_of{base c:Nat}{A:Aw}{l:List Ins}(h:w.ownsRow base 26 2 (U A l.length c) l.length (inCs l)):Lw_.AtN w ↑w A l:=by
 intro k hk;obtain⟨g,cap,cur,hv,hg,hb,hc,hm,hs,ht⟩:=own_blk h O;injection hv with e1 e2 e3;refine⟨g,0,e1,hb.lt, ?_, ?_⟩;·rw[Bn,hb.cell,←CN,←Cw (show k*2<l.length*2 by omega),ht];exact(inCs_at l k hk).1
 ·rw[Bn,hb.cell,←CN,←Cw (show k*2+1<l.length*2 by omega),ht];exact(inCs_at l k hk).2
def PlnPost(w:Ac)(b:List Int)(e:AT)(w':Ac):Prop:=
 ∃(l:List Ins) (size:Nat) (ends:Bool) (A:Aw) (c:Nat) (A2:Aw) (c2:Nat),Pn b l size ends∧l.length≤8∧e=Ax (AD #[U A l.length c,AA #[U A2 (b.take size).length c2,Ap ends]])∧
  w'.ownsRow ↑w 26 2 (U A l.length c) l.length (inCs l)∧w'.ownsRow ↑w 5 1 (U A2 (b.take size).length c2) (b.take size).length ((b.take size).map (J AC))∧Fr Aj w w'
theorem infoIn:(Tryz.prog.info? 26).map (λi=>(i.zero,i.size,i.bytes))=I (I (AA #[J Z 0,J V 0]),2,16):=AI
theorem szRun:(Tryz.prog.info? 145).map (·.size)=I 2:=AI
theorem ints_drop{k:IntKind}{B n bb off:Nat}{zs:List Int}(h:IntsAt k w B (I ⟨bb,off,G⟩) n zs){m:Nat}(hm:m≤n):IntsAt k w B (I ⟨bb,off+m,G⟩) (n -m) (zs.drop m):=by
 have hg: ∀i,(zs.drop m).getD i 0=zs.getD (m+i) 0:=λi=>by
  rw[AN,AN,List.getElem?_drop]
 refine⟨by rw[List.length_drop,h.1],λi hi=>?_,λh0=>?_⟩;·rw[hg];exact h.2.1 _ O
 ·obtain⟨b2,o2,e,hb,hc⟩:=h.2.2 O;injection e with e;injection e with e1 e2;subst e1 e2;exact⟨bb,off+m,rfl,hb,λi hi=>by rw[hg,Nat.add_assoc];exact hc _ (by omega)⟩
structure Pl2(w wr:Ac)(b:List Int)(l:List Ins)(A:Aw)(c size:Nat)(ends:Bool):Prop where
 pn:Pn b l size ends
 own:wr.ownsRow ↑w 26 2 (U A l.length c) l.length (inCs l)
 b5:Blk wr (↑w+1) 145 #[U G 0 0,Ap ends]
 b3:Blk wr ↑w 145 #[U G 0 0,Ap Aa]
 f:Fr Aj w wr
theorem Pl2.fr0{wr w2:Ac}{b:List Int}{l:List Ins}{A:Aw}{c size:Nat}{ends:Bool}(h:Pl2 w wr b l A c size ends)(f:Fr Aj wr w2):Pl2 w w2 b l A c size ends:=
 ⟨h.pn,own_fr h.own f (λ_ _ e=>e),h.b5.fr f id,h.b3.fr f id,h.f.tr f⟩
theorem plain_any(w:Ac)(B n c bb off:Nat)(b:List Int)(h:IntsAt AC w B (I ⟨bb,off,G⟩) n b)(hB:B≤↑w)(hn:n≤64)(hc:n≤c)(hn0:0<n):At Tryz.prog 106 #[U (I ⟨bb,off,G⟩) n c] w (PlnPost w b):=by
 obtain⟨i0,hi0,hz0,hz1,hz2⟩:=BH infoIn;have H:=T h;have hbb:bb<↑w:=by
  obtain⟨b2,o2,e,hb,_⟩:=h.2.2 hn0;injection e with e;injection e with e1 e2;omega
 have b3:Blk ((w.alloc (.cells #[U G 0 0,Ap Aa] 145)).alloc (.cells #[U G 0 0,Ap Aa] 145)) ↑w 145 #[U G 0 0,Ap Aa]:=(AH _ _ _).alloc _;have b5:Blk ((w.alloc (.cells #[U G 0 0,Ap Aa] 145)).alloc (.cells #[U G 0 0,Ap Aa] 145)) (↑w+1) 145 #[U G 0 0,Ap Aa]:=Cc _ _ _ AB;have f0:Fr Aj w ((w.alloc (.cells #[U G 0 0,Ap Aa] 145)).alloc (.cells #[U G 0 0,Ap Aa] 145)):=((Ao _ w).alloc _).alloc _;have HP0:Hid (Pl2 w ((w.alloc (.cells #[U G 0 0,Ap Aa] 145)).alloc (.cells #[U G 0 0,Ap Aa] 145)) b [] G 0 0 Aa):=T ⟨Pn.start b,⟨rfl,Ag ⟨rfl,rfl⟩⟩,b5,b3,f0⟩;clear h b3 b5 f0;go_in;go_upto_block 0 with(fail);go_cut [4,6] (λlv sv wx=> ∃(l:List Ins) (A:Aw) (c2 size:Nat) (ends:Bool),l.length≤8∧lv=U A l.length c2∧sv=J Z size∧Hid (Pl2 w wx b l A c2 size ends));case first=>
  go_wp2_with fail;go_loopw [4,6] (λlv sv wr=> ∃(l:List Ins) (A:Aw) (c2 size:Nat) (ends:Bool),l.length≤8∧lv=U A l.length c2∧sv=J Z size∧Hid (Pl2 w wr b l A c2 size ends)) (λlv _ _=>match lv with|U _ n _=>8 -n|_=>0)
  case atStart=>exact⟨[],G,0,0,Aa,AU _,rfl,rfl,HP0⟩
  case round=>
   obtain⟨l,A,c2,size,ends,h8,rfl,rfl,hP⟩:=hrel;by_cases hlt:l.length<8
   ·have k1:=hP.out.b5.cell 1;have kl:=hP.out.b5.lt
    cases ends
    ·have hsz:=Rj;have hsc:size≤c:=O;have hzd:=T ((ints_drop H.out hsz).fr hP.out.f hB (λ_ _ e=>e)|>.more (AS hB hP.out.f.size));have hml:n -size≤Br:=Bu;rcases Nat.lt_or_ge size c with hlc|hlc;rotate_left
     ·have e1:b.drop size=[]:=List.drop_eq_nil_of_le (by rw[H.out.1];omega);have hz2:IntsAt AC wr ↑wr (I ⟨bb,off,G⟩) (n -size) (b.drop size):=⟨hzd.out.1,hzd.out.2.1,λh0=>absurd h0 O⟩;rw[show n -size=0 by omega] at hz2 hml;have Hd:Hid (At Tryz.prog 117 #[U (I ⟨bb,off,G⟩) 0 0] wr λe w'=>(∃er:Int,(er==0)=Aa∧(er !=0)=Af∧e=Ax (AD #[AA #[J Z 0,J V 0],J Z 0,J Z er]))∧Fr Aj wr w'):=T ((Gc.dec_no wr _ _ 0 _ hz2 (by rw[e1];rfl) hml).mono (λe w' h=>by
       obtain⟨er,h1,_,rfl,f⟩:=h;exact⟨⟨er,Cp,Cp,rfl⟩,f⟩))
      obtain rfl:size=c:=O;clear e1 hz2;go_wp2_with ((with_reducible refine Ay Hd ?_);rintro e w1 ⟨⟨er,her,her2,rfl⟩,f1⟩;have F1:=T f1;clear f1);exact Kw
     cases hd:decI (b.drop size) with
     |none=>
      have Hd:Hid (∀c',At Tryz.prog 117 #[U (I ⟨bb,off+size,G⟩) (n -size) c'] wr λe w'=>(∃er:Int,(er==0)=Aa∧(er !=0)=Af∧e=Ax (AD #[AA #[J Z 0,J V 0],J Z 0,J Z er]))∧Fr Aj wr w'):=T (λc'=>(Gc.dec_no wr _ _ c' _ hzd.out hd hml).mono (λe w' h=>by
       obtain⟨er,h1,_,rfl,f⟩:=h;exact⟨⟨er,Cp,Cp,rfl⟩,f⟩))
      clear hd;go_wp2_with ((with_reducible refine(Hd.out _).mono ?_);rintro e w1 ⟨⟨er,her,her2,rfl⟩,f1⟩;have F1:=T f1;clear f1);exact Kw
     |some x=>
      obtain⟨⟨op,nn⟩,k⟩:=x;have hen:=dec_enc hd;have hkn:size+k≤n:=by have:=hen.1;rw[List.length_drop,H.out.1] at this;omega
      have Hd:Hid (∀c',At Tryz.prog 117 #[U (I ⟨bb,off+size,G⟩) (n -size) c'] wr λe w'=>e=Ax (AD #[AA #[J Z op,J V nn],J Z k,J Z 0])∧Fr Aj wr w'):=T (λc'=>(Gc.dec_yes wr _ _ c' _ hzd.out ⟨op,nn⟩ k hd hml).mono (λe w' h=>h));obtain⟨pb,hpb⟩:=Az (plainB op);have Hp:Hid (∀W,At Tryz.prog 131 #[J Z op] W λe w'=>e=Ax (.bool pb)∧W=w'):=T (λW=>by have:=Gc.plain_any W op;rw[hpb] at this;exact this);have He:Hid (∀W,At Tryz.prog 123 #[J Z op] W λe w'=>e=Ax (Ap (endsB op))∧W=w'):=T (λW=>Gc.ends_any W op);have HD:=T hd;have HPB:=T hpb;clear hd hpb hen
      cases pb
      ·go_wp2_with (first
        |((with_reducible refine(Hd.out _).mono ?_);rintro e w1 ⟨rfl,f1⟩;have F1:=T f1;clear f1)
        |((with_reducible refine(Hp.out _).mono ?_);rintro e w1 ⟨rfl,rfl⟩))
       exact Kw
      ·go_upto_region 7 with(first
        |((with_reducible refine(Hd.out _).mono ?_);rintro e w1 ⟨rfl,f1⟩;have F1:=T f1;clear f1)
        |((with_reducible refine(Hp.out _).mono ?_);rintro e w1 ⟨rfl,rfl⟩))
       have PW:=T (hP.out.fr0 (F1.out.trans ((Ao Aj w1).alloc (.cells #[J Z op,J V nn] 26)) (λ_ _ e=>e)));have bx:=AH w1 26 #[J Z op,J V nn];have hw1:wr.heap.size≤w1.heap.size:=F1.out.size;generalize w1.alloc (.cells #[J Z op,J V nn] 26)=w2 at*;obtain⟨gx,hgx⟩:=Az w1.heap.size;rw[hgx] at bx hw1⊢;have hrd:Hid (Reads (w2.alloc (.cells #[J Z op,J V nn] 26)) (↑w2+1) 2 (I ⟨↑w2,0,G⟩) 1 (inCs [⟨op,nn⟩])):=T (by
        have:=Cn (size:=2) (n:=1) (AH w2 26 #[J Z op,J V nn]) AB;simpa[inCs,inC] using this)
       have hnx: ¬(U A l.length c2).ownBlock=I gx:=λe=>by have:=own_lt hP.out.own gx e;omega
       have hn5:=AZ PW.out.own PW.out.b5 Ak;have hn3:=AZ PW.out.own PW.out.b3 Ak;have HO:=T (CH PW.out.own (.cells #[J Z op,J V nn] 26));have BX:=T bx;have x0:=bx.cell 0;have x1:=bx.cell 1;have xl:=bx.lt;have hww:=PW.out.f.size;clear bx hgx k1 kl;go_wp2_with (first
        |(at_builtin;refine Ce _ rfl (.tmp 34) (.tmp 36) _ rfl w.heap.size 26 i0 _ 2 16 Tryz.underlying30 hi0 hz0 hz1 hz2 rfl O (U A l.length c2) l.length (inCs l) rfl HO.out (w2.heap.size+1) (I ⟨w2.heap.size,0,G⟩) 1 1 (inCs [⟨op,nn⟩]) rfl hrd.out (inCs_one _) Bu O A8 ?_;intro v1 w3 hown1 hg1 hat1;obtain⟨A3,c3,rfl⟩:=Ca.slice_form hown1;have f3:Fr (λq=>(U A l.length c2).ownBlock=I q) w2 w3:=((Ao _ w2).alloc _).grown hg1 (λq hq=> .inl hq);have b3x:=BX.out.fr f3 hnx;have z0:=b3x.cell 0;have zl:=b3x.lt;have b53:=PW.out.b5.fr f3 hn5;have z51:=b53.cell 1;have y51:=b53.frozen 1;have z5l:=b53.lt;have HX:=T (A9 hown1 (A9 f3 b53));clear hown1 hg1 hat1 f3 b3x b53)
        |((with_reducible refine(He.out _).mono ?_);rintro e w4 ⟨rfl,rfl⟩))
       go_roundw;case rel=>
        obtain⟨o3,f3,b53⟩:=HX.out;have fs:Fr (λq=>q=w.heap.size+1) w3 (w3.setCell ⟨↑w+1,1,G⟩ (Ap (endsB op))):=(Ao (λq=>q=w.heap.size+1) w3).setCell (p:=⟨↑w+1,1,G⟩) (Ag rfl) _;have hle:(l++[(⟨op,nn⟩:Ins)]).length=l.length+1:=AB;refine⟨l++[⟨op,nn⟩],A3,c3,size+k,endsB op,O,by rw[hle],AX,T ⟨Pn.step hP.out.pn HD.out HPB.out (bytes_of H.out), ?_,b53.set_ 1 _, ?_, ?_⟩⟩;·rw[hle,inCs_app];exact own_fr o3 fs (λq hq e=>by have e:q=w.heap.size+1:=e;rw[e] at hq;exact AZ o3 b53 (by decide) hq)
        ·exact(PW.out.b3.fr f3 hn3).fr fs Rl
        ·exact(PW.out.f.trans f3 (λq hq e=>by have:=own_base PW.out.own q e;omega)).trans fs (λq hq e=>Ro)
       case measure=>simp;omega
    ·go_wp2
     go_meet;exact⟨l,A,c2,size,Af,h8,rfl,rfl,hP⟩
   ·have g1:decide ((l.length:Int)<8)=Aa:=A8
    go_wp2
    go_meet;exact⟨l,A,c2,size,ends,h8,rfl,rfl,hP⟩
 case rest=>
  obtain⟨l,A,c2,size,ends,h8,rfl,rfl,hP⟩:=hcut;have hsz:=Rj;have hsc:size≤c:=O;have hz:=(H.out.take hsz).fr hP.out.f hB (λ_ _ e=>e);have Hc:=T (λc'=>UN wc ⟨bb,off,G⟩ size c' B _ (Gz hz) (AS hB hP.out.f.size) DR O);have k0:=hP.out.b5.cell 0;have y0:=hP.out.b5.frozen 0;have kl:=hP.out.b5.lt;clear hz;go_upto_region 11 with((with_reducible refine(Hc.out _).mono ?_);rintro e w1 ⟨A1,c1,rfl,o1,f1⟩;have b5:=hP.out.b5.fr f1 id;have k0:=b5.cell 0;have y0:=b5.frozen 0;have kl:=b5.lt;have HO:=T (A9 o1 f1);clear o1 f1 b5);obtain⟨o1,f1⟩:=HO.out;have b53:=hP.out.b5.fr f1 id;have b33:=hP.out.b3.fr f1 id;have fs:Fr (λq=>q=w.heap.size+1) w1 (w1.setCell ⟨↑w+1,0,G⟩ (U A1 size c1)):=(Ao (λq=>q=w.heap.size+1) w1).setCell (p:=⟨↑w+1,0,G⟩) (.inl rfl) _;have b54:Blk (w1.setCell ⟨↑w+1,0,G⟩ (U A1 size c1)) (↑w+1) 145 #[U A1 size c1,Ap ends]:=b53.set_ 0 _;have b34:=b33.fr fs Rl;have ol:=own_fr (own_fr hP.out.own f1 (λ_ _ e=>e)) fs (λq hq e=>by have e:q=w.heap.size+1:=e;rw[e] at hq;exact AZ (own_fr hP.out.own f1 (λ_ _ e=>e)) b53 (by decide) hq);have ob:=own_fr o1 fs (λq hq e=>by have e:q=w.heap.size+1:=e;rw[e] at hq;exact AZ o1 b53 (by decide) hq);have ft:Fr Aj w (w1.setCell ⟨↑w+1,0,G⟩ (U A1 size c1)):=(hP.out.f.tr f1).trans fs (λq hq e=>Ro);have hwc:w.heap.size≤wc.heap.size:=hP.out.f.size;generalize w1.setCell ⟨w.heap.size+1,0,G⟩ (U A1 size c1)=w2 at*;have HB3:=T b34;have HR:=T (A9 ol (A9 ob ft));have m0:=b54.cell 0;have m1:=b54.cell 1;have ml:=b54.lt;have n0:=b34.cell 0;have n1:=b34.cell 1;have j0:=b34.frozen 0;have j1:=b34.frozen 1;have nl:=b34.lt;clear o1 f1 b53 b33 fs b54 b34 ol ob ft k0 y0 kl HO
  go_region
  all_goals go_wp2_with fail
  obtain⟨ol,ob,ft⟩:=HR.out;have hbl:(b.take size).length=size:=by rw[List.length_take,H.out.1];omega
  have fe:Fr (λq=>q=w.heap.size) w2 ((w2.setCell ⟨↑w,0,G⟩ (U A1 size c1)).setCell ⟨↑w,1,G⟩ (.bool ends)).drew:=(((Ao (λq=>q=w.heap.size) w2).setCell (p:=⟨↑w,0,G⟩) (.inl rfl) _).setCell (p:=⟨↑w,1,G⟩) (.inl rfl) _).drew;have b3e:Blk ((w2.setCell ⟨↑w,0,G⟩ (U A1 size c1)).setCell ⟨↑w,1,G⟩ (.bool ends)).drew ↑w 145 #[U A1 size c1,Ap ends]:=((HB3.out.set_ 0 _).set_ 1 _).drew;refine Bf (Mu.results_tc rfl _ _ w.heap.size 145 _ _ _ rfl rfl b3e Tryz.underlying145 rfl szRun) rfl ?_;refine⟨l,size,ends,A,c2,A1,c1,hP.out.pn,h8,by rw[hbl];rfl, ?_, ?_,ft.trans fe (λq hq e=>Gn)⟩;·exact own_fr ol fe (λq hq e=>by have e:q=w.heap.size:=e;rw[e] at hq;exact AZ ol HB3.out (by decide) hq)
  ·rw[hbl];exact(Sw.own_low (own_fr ob fe (λq hq e=>by have e:q=w.heap.size:=e;rw[e] at hq;exact AZ ob HB3.out (by decide) hq)) hwc)
end Eg
namespace Mz
open Go.Maps
open Go.ChangeMaps (setBlock)
section
variable {κ:Type} [DecidableEq κ] {P:BW} {k:AK} {mk:κ→As} {w w':Ac} {g:Nat} {L:List (κ×As)} {bs:List Nat} {clock:Nat}
theorem MapL.drop2(h:MapL P k mk w g L bs clock)(K:Keyed P k)(inj: ∀a b,mk a=mk b→a=b){t e:AK}(ht:P.underlying t=I (.map k e)){x:κ}{l:Lit}(hx:keyOf P k (mk x)=I l):∃w' bs',(∀ty,(Eh #[t,k] ty #[.map (I g),mk x]).run P w=.ok (AD #[]) w')∧MapL P k mk w' g (del L x) bs' clock∧Fr (· =g) w w'∧ ∀y∈bs',y∈bs:=by
 rcases h.find K inj w hx with⟨h1,h2⟩|⟨j,hj,h1,h3,h2⟩;·obtain⟨s1,s2⟩:=set_heap ⟨_,_,h.b⟩ (.map (ents mk L bs).toArray clock);rw[del_no h1];refine⟨setBlock w g (.map (ents mk L bs).toArray clock),bs,λty=>?_,⟨s1,h.len,h.nd,h.lt,h.keys,h.kd⟩,s2,λy hy=>hy⟩;exact NZ
 ·have hd:=Oa;rw[hd];obtain⟨s1,s2⟩:=set_heap ⟨_,_,h.b⟩ (.map (ents mk (L.eraseIdx j) (bs.eraseIdx j)).toArray clock);refine⟨setBlock w g (.map (ents mk (L.eraseIdx j) (bs.eraseIdx j)).toArray clock),bs.eraseIdx j,λty=>?_,⟨s1, ?_,h.nd.sublist (List.eraseIdx_sublist _ _),λy hy=>h.lt y (List.mem_of_mem_eraseIdx hy),λp hp=>h.keys p (List.mem_of_mem_eraseIdx hp), ?_⟩,s2,λy hy=>List.mem_of_mem_eraseIdx hy⟩;·exact Ob
  ·exact Oc
  ·exact Od
end
end Mz
namespace Eg
open Mz Go.Maps Ca
structure Rr where
 b:List Int
 A:Aw
 c:Nat
 e:Bool
structure Eo where
 gc:Nat
 gm:Nat
 s:Cs
 L:List (Ky×Rr)
 la:Ky
 fa:Int
 sl:Int
 be:Bool
abbrev rval(r:Rr):As:=AA #[U r.A r.b.length r.c,Ap r.e]
def rent(p:Ky×Rr):Ky×As:=(p.1,rval p.2)
def RunRow(w:Ac)(r:Rr):Prop:=w.ownsRow 0 5 1 (U r.A r.b.length r.c) r.b.length (r.b.map (J AC))
def KeptOk(L:List (Ky×Rr))(b:Bk):Prop:= ∃r l code,(b.k,r)∈L∧Gm.Trl b.pc l r.b code∧b.code=Hc.encL code∧b.ct=(l.length:Int)∧r.e=Gs.endsB (l.getLastD ⟨0,0⟩).op∧(∀z∈r.b,0≤z∧z<256)∧r.b.length≤64
def Eo.wr(e:Eo)(ge k:Nat):Prop:=k=ge∨e.s.wr e.gc k∨k=e.gm
def Eo.own(e:Eo)(ge k:Nat):Prop:=k=ge∨e.s.own e.gc k∨k=e.gm∨ ∃p∈e.L,ab p.2.A=I k
abbrev enC(e:Eo):AL:=#[↑e.gc,.map (I e.gm),J V e.la.1,J V e.la.2,J Z e.fa,J Z e.sl,Ap e.be]
structure En(w:Ac)(ge:Nat)(e:Eo):Prop where
 b:Blk w ge 105 (enC e)
 c:Cch w e.gc e.s
 m: ∃bs clock,MapL Tryz.prog 103 kyv w e.gm (e.L.map rent) bs clock
 r: ∀p∈e.L,RunRow w p.2
 ne:e.gm≠e.s.gm
 ok: ∀b∈e.s.bl,KeptOk e.L b
 ko: ∀p∈e.L,p.1.Ok
 la:e.la.Ok
section
variable {w w':Ac} {ge:Nat} {e:Eo} {S:AG}
theorem run_ab{A:Aw}{n c k:Nat}(h:(U A n c).ownBlock=I k):ab A=I k:=by
 cases A with
 |none=>simp[Bp] at h
 |some a=>simpa[Bp,ab] using h
theorem RunRow.fr{r:Rr}(h:RunRow w r)(f:Fr S w w')(hs: ∀k,ab r.A=I k→ ¬S k):RunRow w' r:=own_fr h f (λk hk=>hs k (run_ab hk))
theorem En.fr(h:En w ge e)(f:Fr S w w')(hs: ∀k,e.own ge k→ ¬S k):En w' ge e:=by
 obtain⟨bs,clock,hm⟩:=h.m;exact⟨h.b.fr f (hs _ (Ag rfl)),h.c.fr f (λk hk=>hs k (Ah (Ag hk))),⟨bs,clock,hm.fr f (hs _ (Ah (Ah (Ag rfl))))⟩,λp hp=>(h.r p hp).fr f (λk hk=>hs k (Ah (Ah (Ah ⟨p,hp,hk⟩)))),h.ne,h.ok,h.ko,h.la⟩
theorem En.fr0(h:En w ge e)(f:Fr Aj w w'):En w' ge e:=h.fr f (λ_ _ x=>x)
theorem RunRow.srt{r:Rr}(h:RunRow w r){q:Nat}(e:ab r.A=I q):Ca.srt w q=I (I 5):=by
 unfold RunRow at h;exact R8
theorem En.kind(h:En w ge e){k:Nat}(hk:e.wr ge k):Ca.srt w k=I (I 105)∨Ca.srt w k=I (I 139)∨Ca.srt w k=I G∨Ca.srt w k=I (I 136)∨Ca.srt w k=I (I 103):=by
 obtain⟨t1,t2,t3,t4,t5⟩:=h.c.srt;obtain⟨bs,clock,hm⟩:=h.m;rcases hk with rfl|(rfl|hk|rfl|⟨p,hp,hk⟩)|rfl;·exact Ag (srt_blk h.b)
 ·exact Ah (Ag t1)
 ·exact Ah (Ah (Ah (Ag (t3 k hk))))
 ·exact Ah (Ah (Ag t2))
 ·exact Ah (Ah (Ah (Ah (t5 p hp k hk))))
 ·exact Ah (Ah (Ag (srt_map hm.b)))
theorem En.apart(h:En w ge e){k:Nat}{t:AK}(hk:e.wr ge k)(ht:Ca.srt w k=I (I t))(h1:t≠105)(h2:t≠139)(h3:t≠136)(h4:t≠103):False:=by
 rcases h.kind hk with q|q|q|q|q
 all_goals rw[ht] at q;simp at q;try(first|exact h1 q|exact h2 q|exact h3 q|exact h4 q)
theorem En.ges(h:En w ge e):ge≠e.gc∧ge≠e.gm∧e.gc≠e.gm∧ ¬e.s.own e.gc ge∧ ¬e.s.own e.gc e.gm:=by
 obtain⟨t1,t2,t3,t4,t5⟩:=h.c.srt;obtain⟨bs,clock,hm⟩:=h.m;have a1:=srt_blk h.b;have a2:=srt_map hm.b;refine⟨λq=>by rw[q,t1] at a1;simp at a1,λq=>by rw[q,a2] at a1;simp at a1,λq=>by rw[q,a2] at t1;simp at t1,λq=>?_,λq=>?_⟩
 ·rcases q with(q|q|q|⟨p,hp,q⟩)|⟨b,hb,q⟩;·rw[q,t1] at a1;simp at a1
  ·rw[t3 _ q] at a1;simp at a1
  ·rw[q,t2] at a1;simp at a1
  ·rw[t5 p hp _ q] at a1;simp at a1
  ·rw[t4 b hb _ q] at a1;simp at a1
 ·rcases q with(q|q|q|⟨p,hp,q⟩)|⟨b,hb,q⟩;·rw[q,t1] at a2;simp at a2
  ·rw[t3 _ q] at a2;simp at a2
  ·exact h.ne q
  ·rw[t5 p hp _ q] at a2;simp at a2
  ·rw[t4 b hb _ q] at a2;simp at a2
end
theorem findB(w:Ac)(g:Nat)(s:Cs)(h:Cch w g s)(k:Ky):At Tryz.prog 62 #[↑g,AA #[J V k.1,J V k.2]] w λe w'=>(∃a b A n c d,e=Ax (AD #[AA #[J V a,J V b,U A n c,J Z d],Ap (decide (0≤idx k s.bl))]))∧Fr Aj w w':=by
 by_cases hk:idx k s.bl<0
 ·have e:decide (0≤idx k s.bl)=Aa:=A8;rw[e];exact(find_no w g s h k hk).mono (λe w' hh=>by
   obtain⟨rfl,f⟩:=hh;exact⟨⟨_,_,_,_,_,_,rfl⟩,f⟩)
 ·have e:decide (0≤idx k s.bl)=Af:=A8;rw[e];exact(find_yes w g s h k (idx k s.bl).toNat O).mono (λe w' hh=>by
   obtain⟨A,c,rfl,_,f⟩:=hh;exact⟨⟨_,_,_,_,_,_,rfl⟩,f⟩)
theorem keep_any(w:Ac)(ge gb:Nat)(g:Nat)(s:Cs)(h:Cch w g s)(h1:w.cell? ⟨gb,0,G⟩=I ↑ge)(h2:w.cell? ⟨ge,0,G⟩=I ↑g)(l1:gb<↑w)(l2:ge<↑w)(k:Ky)(r:Rr):At Tryz.prog 61 #[AA #[J V k.1,J V k.2],rval r,↑gb] w λe w'=>e=Ax (Ap (!decide (0≤idx k s.bl)))∧Fr Aj w w':=by
 have bk:Blk ((w.alloc (.cells #[J V k.1,J V k.2] 103)).alloc (.cells #[U r.A r.b.length r.c,Ap r.e] 145)) ↑w 103 #[J V k.1,J V k.2]:=(AH _ _ _).alloc _;have f0:Fr Aj w ((w.alloc (.cells #[J V k.1,J V k.2] 103)).alloc (.cells #[U r.A r.b.length r.c,Ap r.e] 145)):=((Ao _ w).alloc _).alloc _;go_in;go_upto_region 1 with(fail);have HFi:=T (λW (f:Fr Aj w W)=>findB W g s (h.fr0 f) k);have F0:=T f0;have s0:=f0.cell h1 l1 id;have s1:=f0.cell h2 l2 id;have s2:=bk.cell 0;have s3:=bk.cell 1;have k0:=AW l1 f0.size;have k1:=AW l2 f0.size;have k2:=bk.lt;generalize(w.alloc (.cells #[J V k.1,J V k.2] 103)).alloc (.cells #[U r.A r.b.length r.c,Ap r.e] 145)=W1 at*;clear f0 h1 h2 l1 l2 bk h;refine BY (S:=Fr Aj W1) AI ((Ao Aj W1).drew) (λhH=>?_);refine Av 0 rfl hH Dx ?_;refine Av 1 rfl hH Dx ?_;refine Av 2 rfl hH Dx ?_
 try simp only[AF]
 refine Av 3 rfl hH Dx ?_;refine Av 4 rfl hH Dx ?_
 try simp only[AF]
 refine AQ [5,9] ?_;refine AO (λK hK=>?_) ?_
 ·go_simp;go_wp2_with ((with_reducible refine(HFi.out _ (F0.out.tr hH)).mono ?_);rintro e w2 ⟨⟨a,b,A,n,c,d,rfl⟩,f2⟩;have hf:=hH.tr f2;have hz:=hf.size;try(have bz:=((AH W1 136 #[J V 0,J V 0,U G 0 0,J Z 0]).drew).fr f2 id;have z0:=bz.cell 0;have z1:=bz.cell 1;have z2:=bz.cell 2;have z3:=bz.cell 3;have y0:=bz.frozen 0;have y1:=bz.frozen 1;have y2:=bz.frozen 2;have y3:=bz.frozen 3;have zl:=bz.lt));refine hK.out _ _ (hf) λhH=>?_;clear hK K;refine Av 6 rfl hH Dx ?_;refine Av 7 rfl hH Dx ?_;refine Av 8 rfl hH Dx ?_
  try simp only[AF]
  refine AQ [9] ?_;refine AO (λK hK=>?_) ?_;·go_simp;refine hK.out _ _ (hH.alloc _) λhH=>?_;clear hK K;exact RS
  exact AR
 refine AO (λK hK=>?_) ?_
 ·go_simp;refine hK.out _ _ (hH.alloc _) λhH=>?_;clear hK K;refine AQ [5] ?_;refine AO (λK hK=>?_) ?_
  ·go_simp;go_wp2_with ((with_reducible refine(HFi.out _ (F0.out.tr hH)).mono ?_);rintro e w2 ⟨⟨a,b,A,n,c,d,rfl⟩,f2⟩;have hf:=hH.tr f2;have hz:=hf.size;try(have bz:=((AH W1 136 #[J V 0,J V 0,U G 0 0,J Z 0]).drew).fr f2 id;have z0:=bz.cell 0;have z1:=bz.cell 1;have z2:=bz.cell 2;have z3:=bz.cell 3;have y0:=bz.frozen 0;have y1:=bz.frozen 1;have y2:=bz.frozen 2;have y3:=bz.frozen 3;have zl:=bz.lt));refine hK.out _ _ (hf) λhH=>?_;clear hK K;refine Av 6 rfl hH Dx ?_;refine Av 7 rfl hH Dx ?_;refine Av 8 rfl hH Dx ?_
   try simp only[AF]
   exact RS
  exact AR
 exact AR
end Eg
namespace Eg
open Mz Go.Maps Ca
theorem VI{P:BW}{ops:Array Oper}{rest:List Oper}{a:Act}{w:Ac}{Q:Exit→Act→Ac→Prop}{dst:Option Tmp}{t2:AK}{pos:String}{af:Array Edge}(m k:Operand)(t kt:AK){w':Ac}(hrun: ∀ty,(Eh #[t,kt] ty #[a.eval m,a.eval k]).run P w=.ok (AD #[]) w')(hK:BL P ops Q rest (a.put dst (AD #[])) w'):BL P ops Q (⟨dst,.call {callee:=.builtin .delete,args:=#[m,k],argTypes:=#[t,kt]},t2,pos,af,G⟩::rest) a w:=by
 have hw:CA (⟨dst,.call {callee:=.builtin .delete,args:=#[m,k],argTypes:=#[t,kt]},t2,pos,af,G⟩:Oper) (yielded ops a.tmps)=Af:=by simp[CA]
 unfold BL;rw[An hw];left;have:=Ry (ops:=ops) (o:=(⟨dst,.call {callee:=.builtin .delete,args:=#[m,k],argTypes:=#[t,kt]},t2,pos,af,G⟩:Oper)) (Q:=Q) (E:=False) rfl m k t kt rfl hrun hK;rwa[An hw] at this
def TR(w:Ac)(e:Eo)(bs:List Nat)(clock gi:Nat)(seen:Array Nat)(wr:Ac):Prop:=
 ∃(L':List (Ky×Rr)) (bs':List Nat),MapL Tryz.prog 103 kyv wr e.gm (L'.map rent) bs' clock∧wr.heap[gi]?=I (.mapIter (I e.gm) clock seen clock)∧(∀p∈L',p∈e.L)∧(∀p∈e.L,0≤idx p.1 e.s.bl→p∈L')∧(∀x∈bs',x∈bs)∧Fr (· =e.gm) w wr
def TidyM(w:Ac)(e:Eo)(w':Ac):Prop:= ∃(L':List (Ky×Rr)) (bs:List Nat) (clock:Nat),MapL Tryz.prog 103 kyv w' e.gm (L'.map rent) bs clock∧(∀p∈L',p∈e.L)∧(∀p∈e.L,0≤idx p.1 e.s.bl→p∈L')∧Fr (· =e.gm) w w'
theorem dfun_any(w:Ac)(ge gb:Nat)(e:Eo)(h:En w ge e)(hb:Blk w gb 48 #[↑ge]):At Tryz.prog 60 #[.map (I e.gm),.func (.func 61) #[] #[↑gb]] w λed w'=>ed=Ax (AD #[])∧TidyM w e w':=by
 obtain⟨bs,clock,hm⟩:=h.m;have hrg:=hm.range Tryz.underlying101;have hgl:e.gm<↑w:=hm.bound;have HM:=T hm;have HE:=T h;have HB:=T hb;have h0:Hid (TR w e bs clock ↑w #[] (w.alloc (.mapIter (I e.gm) clock #[] clock))):=T ⟨e.L,bs,hm.fr ((Ao Aj w).alloc _) id,heap_alloc_new w _,λp hp=>hp,λp hp _=>hp,λx hx=>hx,(Ao _ w).alloc _⟩;clear hm h hb;go_in;go_wp2_with fail;go_loopw [4] (λ_ wr=> ∃seen:Array Nat,Hid (TR w e bs clock ↑w seen wr)) (λ_ wr=>leftW bs ↑w wr)
 case atStart=>exact⟨#[],h0⟩
 case round=>
  obtain⟨seen,hT⟩:=hrel;obtain⟨L',bs',hm,hi,h1,h2,h3,hf⟩:=hT.out;rcases hm.next hi with⟨hdone,hnx⟩|⟨i,hiL,hbL,hns,w4,hnx,hi4,f4,hen⟩
  ·have HR:Hid (TidyM w e wr):=T ⟨L',bs',clock,hm,h1,h2,hf⟩;clear hm hi h1 h2 h3 hf hdone hT h0 HM
   go_wp2
   go_end0;exact⟨rfl,HR.out⟩
  ·have hiL2:i<L'.length:=by simpa using hiL
   have hcur:(L'.map rent)[i]=rent L'[i]:=AB;rw[hcur] at hnx hen;have hmem:L'[i]∈L':=BU hiL2;obtain⟨p,hp⟩:=Az (L'[i]);rw[hp] at hnx hen hmem;obtain⟨x,r⟩:=p;replace hnx: ∀ty,(Instr.next (Bi (I ⟨↑w,0,G⟩)) Aa ty).run Tryz.prog wr=.ok (AD #[Ap Af,AA #[J V x.1,J V x.2],rval r]) w4:=hnx;replace hen:(Instr.entry (Bi (I ⟨↑w,0,G⟩))).run Tryz.prog w4=.ok (AD #[AA #[J V x.1,J V x.2],rval r]) w4:=hen;have hx:x.Ok:=HE.out.ko _ (h1 _ hmem);obtain⟨lx,hlx⟩:=keyOf_ky x hx;have hmb:bs'[i]∈bs:=h3 _ (BU hbL);have hgm2:e.gm≠↑w:=O;have hsz4:w.heap.size≤w4.heap.size:=AS hf.size f4.size;have hi5: ∀W,Fr (λq=>q=e.gm) w4 W→W.heap[w.heap.size]?=I (.mapIter (I e.gm) clock (seen.push bs'[i]) clock):=λW fW=>(fW.block _ (DX.1 hi4).1 (by show ¬↑w=e.gm;omega)).trans hi4;have hlt: ∀W,Fr (λq=>q=e.gm) w4 W→leftW bs ↑w W<leftW bs ↑w wr:=λW fW=>by
    rw[leftW_at (hi5 W fW),leftW_at hi];exact leftN_lt hmb hns
   have hf4:Fr (λq=>q=e.gm) w w4:=hf.trans f4 (λq hq e=>Gn);have hm4:=hm.fr f4 (by show ¬e.gm=↑w;exact hgm2);obtain⟨q1,q2,q3,q4,q5⟩:=HE.out.ges;have hc4:=HE.out.c.fr hf4 (λk hk e2=>q5 RT);have hgb: ¬gb=e.gm:=λq=>by have a1:=srt_blk HB.out;rw[q,srt_map HM.out.b] at a1;simp at a1
   have hb4:=HB.out.fr hf4 hgb;have he4:=HE.out.b.fr hf4 q2;have bk5:Blk ((w4.alloc (.cells #[J V x.1,J V x.2] 103)).alloc (.cells #[U r.A r.b.length r.c,Ap r.e] 145)) ↑w4 103 #[J V x.1,J V x.2]:=(AH _ _ _).alloc _;have br5:Blk ((w4.alloc (.cells #[J V x.1,J V x.2] 103)).alloc (.cells #[U r.A r.b.length r.c,Ap r.e] 145)) (↑w4+1) 145 #[U r.A r.b.length r.c,Ap r.e]:=Cc _ _ _ AB;have f5:Fr Aj w4 ((w4.alloc (.cells #[J V x.1,J V x.2] 103)).alloc (.cells #[U r.A r.b.length r.c,Ap r.e] 145)):=((Ao _ w4).alloc _).alloc _;obtain⟨kb,hkb⟩:=Az (decide (0≤idx x e.s.bl));have Hk:=T (keep_any _ ge gb e.gc e.s (hc4.fr0 f5) ((hb4.fr f5 id).cell 0) ((he4.fr f5 id).cell 0) (hb4.fr f5 id).lt (he4.fr f5 id).lt x r);rw[hkb] at Hk;have HKB:=T hkb;have HM4:=T hm4;have HF4:=T hf4;have HI5:=T hi5;have HLT:=T hlt;have H123:=T (A9 h1 (A9 h2 h3));have HX:=T hlx;obtain⟨sn,hsn⟩:=Az (bs'[i]);rw[hsn] at HI5;clear hsn hkb hm4 hf4 hi5 hlt h1 h2 h3 hlx hmb hm hi hf hc4 hb4 he4 q1 q2 q3 q4 q5 hgb hi4 f4 hmem hp hns hiL hiL2 hcur;go_upto_region 3 with(fail);generalize(w4.alloc (.cells #[J V x.1,J V x.2] 103)).alloc (.cells #[U r.A r.b.length r.c,Ap r.e] 145)=w5 at*;have F5:=T f5;have BK5:=T bk5;have k0:=bk5.cell 0;have k1:=bk5.cell 1;have kl:=bk5.lt;have r0:=br5.cell 0;have r1:=br5.cell 1;have rl:=br5.lt;clear f5 bk5 br5 hnx hen
   cases kb
   ·go_upto_region 4 with((with_reducible refine Ay Hk ?_);rintro e6 w6 ⟨rfl,f6⟩;have b6:=BK5.out.fr f6 id;have k0:=b6.cell 0;have k1:=b6.cell 1;have kl:=b6.lt;have F6:=T f6;clear b6 f6);have f46:=RU;have hm6:=HM4.out.fr (F5.out.trans F6.out (λ_ _ e=>e)) id;obtain⟨w7,bs7,hdel,hm7,f7,hsub⟩:=hm6.drop2 keyLaw kyv_inj Tryz.underlying101 HX.out;replace hdel: ∀ty,(Eh #[101,103] ty #[.map (I e.gm),AA #[J V x.1,J V x.2]]).run Tryz.prog w6=.ok (AD #[]) w7:=hdel;have hdl:Mz.del (L'.map rent) x=(L'.filter (λp=> !decide (p.1=x))).map rent:=by
     unfold Mz.del;rw[List.filter_map];rfl
    rw[hdl] at hm7;have HT7:Hid (TR w e bs clock ↑w (seen.push sn) w7∧leftW bs ↑w w7<leftW bs ↑w wr):=T ⟨⟨_,bs7,hm7,HI5.out w7 (f46.tr f7),λp hp=>H123.out.1 p (C8.1 hp).1,λp hp hk=>C8.2 ⟨H123.out.2.1 p hp hk,by
     have: ¬p.1=x:=λq=>by
      have h9:=HKB.out;rw[←q] at h9;simp at h9;omega
     simpa using this⟩,λy hy=>H123.out.2.2 y (hsub y hy),HF4.out.tr (f46.tr f7)⟩,HLT.out w7 (f46.tr f7)⟩
    clear hm6 hm7 hdl f7 hsub f46;go_wp2_with (refine VI (.tmp 17) (.tmp 18) 101 103 hdel ?_);go_roundw
    case rel=>exact⟨_,_,_,_,_,_,_,_,_,_,_,_,_,⟨_,T HT7.out.1⟩,rfl⟩
    case measure=>exact HT7.out.2
   ·go_wp2_with ((with_reducible refine Ay Hk ?_);rintro e6 w6 ⟨rfl,f6⟩;have F6:=T f6;clear f6);have f46:=RU;go_roundw
    case rel=>exact⟨seen.push sn,T ⟨L',bs',HM4.out.fr (F5.out.trans F6.out (λ_ _ e=>e)) id,HI5.out w6 f46,H123.out.1,H123.out.2.1,H123.out.2.2,HF4.out.tr f46⟩⟩
    case measure=>exact HLT.out w6 f46
theorem idx_ge{b:Bk}{l:List Bk}(hb:b∈l):0≤idx b.k l:=by
 rcases Int.lt_or_le (idx b.k l) 0 with h|h;·exact absurd (List.mem_map_of_mem hb) (idx_none b.k l h)
 ·exact h
def TidyPost(w:Ac)(ge:Nat)(e:Eo)(ed:AT)(w':Ac):Prop:=ed=Ax (AD #[])∧ ∃L',En w' ge {e with L:=L'}∧(∀p∈L',p∈e.L)∧Fr (λk=>k=e.gm) w w'
theorem tidy_en{w w0 w':Ac}{ge:Nat}{e:Eo}(h:En w ge e)(f0:Fr Aj w w0)(ht:TidyM w0 e w'): ∃L',En w' ge {e with L:=L'}∧(∀p∈L',p∈e.L)∧Fr (λk=>k=e.gm) w w':=by
 obtain⟨L',bs,clock,hm,h1,h2,f⟩:=ht;have f':Fr (λk=>k=e.gm) w w':=(f0.mono (λ_ _ e=>e.elim)).tr f;obtain⟨q1,q2,q3,q4,q5⟩:=h.ges;have hgm: ∀p∈e.L,ab p.2.A≠I e.gm:=λp hp q=>by
  obtain⟨bs,clock,hm⟩:=h.m;have a1:=(h.r p hp).srt q;rw[srt_map hm.b] at a1;simp at a1
 refine⟨L',⟨h.b.fr f' q2,h.c.fr f' (λk hk e2=>q5 RT),⟨bs,clock,hm⟩,λp hp=>(h.r p (h1 p hp)).fr f' (λk hk e2=>hgm p (h1 p hp) (by rw[hk,show k=e.gm from e2])),h.ne,λb hb=>?_,λp hp=>h.ko p (h1 p hp),h.la⟩,h1,f'⟩;obtain⟨r,l,code,a1,a2⟩:=h.ok b hb;exact⟨r,l,code,h2 _ a1 (idx_ge hb),a2⟩
theorem tidy_any(w:Ac)(ge:Nat)(e:Eo)(h:En w ge e):At Tryz.prog 39 #[↑ge] w (TidyPost w ge e):=by
 have hb:=AH w 48 #[↑ge];have f0:Fr Aj w (w.alloc (.cells #[↑ge] 48)):=(Ao _ w).alloc _;have Hd:=T (dfun_any _ ge ↑w e (h.fr0 f0) hb);have he:=(h.fr0 f0).b;have c1:=he.cell 1;have cl:=he.lt;have H:=T h;have F0:=T f0;have hmf:=Kk;clear h f0 he hb;go_in;go_wp2_with ((with_reducible refine Ay Hd ?_);rintro ed w1 ⟨rfl,ht⟩;have HT:=T ht;clear ht);go_end0;exact⟨rfl,tidy_en H.out F0.out HT.out⟩
end Eg
namespace Eg
open Mz Go.Maps Ca
variable{w:Ac}{k:Nat}
theorem srt_lt{x:Option AK}(h:Ca.srt w k=I x):k<↑w:=by
 unfold Ca.srt at h
 cases hh:w.heap[k]? with
 |none=>rw[hh] at h;cases h
 |some o=>exact(DX.1 hh).1
variable{w':Ac}
theorem srt_eq(h:w'.heap[k]?=w.heap[k]?):Ca.srt w' k=Ca.srt w k:=by unfold Ca.srt;rw[h]
def Oth(t:AK):Prop:=t≠105∧t≠139∧t≠136∧t≠103
variable{e:Eo}{ge:Nat}
theorem wr_own(h:e.wr ge k):e.own ge k:=by
 rcases h with h|h|h;·exact Ag h
 ·exact Ah (Ag (Ag h))
 ·exact Ah (Ah (Ag h))
theorem cch_lt{g:Nat}{s:Cs}(h:Cch w g s): ∀k,s.own g k→k<w.heap.size:=by
 obtain⟨t1,t2,t3,t4,t5⟩:=h.srt;rintro k ((rfl|q|rfl|⟨p,hp,q⟩)|⟨b,hb,q⟩);·exact srt_lt t1
 ·exact srt_lt (t3 k q)
 ·exact srt_lt t2
 ·exact srt_lt (t5 p hp k q)
 ·exact srt_lt (t4 b hb k q)
theorem En.own_lt(h:En w ge e): ∀k,e.own ge k→k<w.heap.size:=by
 obtain⟨bs,clock,hm⟩:=h.m;rintro k (rfl|hk|rfl|⟨p,hp,hk⟩);·exact h.b.lt
 ·exact cch_lt h.c k hk
 ·exact hm.bound
 ·exact srt_lt ((h.r p hp).srt hk)
structure Elk(w w':Ac)(ge:Nat)(e e':Eo)(d:Nat):Prop where
 en:En w' ge e'
 gc:e'.gc=e.gc
 fl:e'.s.fl≤e.s.fl+d
 own: ∀k,e'.own ge k→e.own ge k∨w.heap.size≤k
 f:Fr (e.own ge) w w'
 kp: ∀k t,Ca.srt w k=I (I t)→Oth t→w'.heap[k]?=w.heap[k]?
theorem En.kp(h:En w ge e)(f:Fr (e.wr ge) w w'): ∀k t,Ca.srt w k=I (I t)→Oth t→w'.heap[k]?=w.heap[k]?:=
 λk t hk ho=>f.block k (srt_lt hk) (λq=>h.apart q hk ho.1 ho.2.1 ho.2.2.1 ho.2.2.2)
variable{e':Eo}{d:Nat}
theorem Elk.of(h:En w ge e)(he:En w' ge e')(hgc:e'.gc=e.gc)(hfl:e'.s.fl≤e.s.fl+d)(ho: ∀k,e'.own ge k→e.own ge k∨w.heap.size≤k)(f:Fr (e.wr ge) w w'):Elk w w' ge e e' d:=
 ⟨he,hgc,hfl,ho,f.mono (λ_ _ q=>wr_own q),h.kp f⟩
theorem Elk.fr0(h:En w ge e)(f:Fr Aj w w'):Elk w w' ge e e 0:=
 Elk.of h (h.fr0 f) rfl O (λk hk=> Ag hk) (f.mono (λ_ _ e=>e.elim))
theorem Elk.refl(h:En w ge e):Elk w w ge e e 0:=Elk.fr0 h (Ao _ _)
variable{w2:Ac}
theorem Elk.tr{e2:Eo}{d2:Nat}(h:Elk w w' ge e e' d)(k:Elk w' w2 ge e' e2 d2):Elk w w2 ge e e2 (d+d2):=by
 have hs:=h.f.size;refine⟨k.en,k.gc.trans h.gc,RW,λq hq=>?_,h.f.trans k.f (λq hq e3=>?_),λq t hq ho=>?_⟩
 ·rcases k.own q hq with e3|e3;·exact h.own q e3
  ·exact CQ
 ·rcases h.own q e3 with e4|e4;·exact e4
  ·omega
 ·have a:=h.kp q t hq ho;rw[k.kp q t (by rw[srt_eq a];exact hq) ho,a]
theorem Elk.then0(h:Elk w w' ge e e' d)(f:Fr Aj w' w2):Elk w w2 ge e e' d:=h.tr (Elk.fr0 h.en f)
theorem Elk.from0(f:Fr Aj w w')(h0:En w ge e)(h:Elk w' w2 ge e e' d):Elk w w2 ge e e' d:=by
 have:=(Elk.fr0 h0 f).tr h;rwa[Bn] at this
theorem Elk.blk(h:Elk w w' ge e e' d){q:Nat}{t:AK}{cs:AL}(hb:Blk w q t cs)(ho:Oth t):Blk w' q t cs:=by
 have:=h.kp q t (srt_blk hb) ho;unfold Blk at hb⊢;rw[this,hb]
theorem Elk.row(h:Elk w w' ge e e' d){base n s:Nat}{t:AK}{v:As}{xs:List As}(hr:w.ownsRow base t s v n xs)(ho:Oth t):w'.ownsRow base t s v n xs:=by
 obtain⟨h1,h2⟩:=hr;refine⟨h1, ?_⟩;rcases h2 with h2|⟨g,cap,cur,hv,hg,hb,r⟩;·exact Ag h2
 ·exact Ah ⟨g,cap,cur,hv,hg,h.blk hb ho,r⟩
theorem Elk.less{d2:Nat}(h:Elk w w' ge e e' d)(hd:d≤d2):Elk w w' ge e e' d2:=⟨h.en,h.gc,by have:=h.fl;omega,h.own,h.f,h.kp⟩
theorem drop_en(h:En w ge e)(ps:List Int)(hc:Cch w' e.gc (e.s.drop ps))(f:Fr (e.s.wr e.gc) w w')(ho: ∀q,(e.s.drop ps).own e.gc q→e.s.own e.gc q):En w' ge {e with s:=e.s.drop ps}:=by
 obtain⟨q1,q2,q3,q4,q5⟩:=h.ges;obtain⟨bs,clock,hm⟩:=h.m;obtain⟨t1,t2,t3,t4,t5⟩:=h.c.srt;refine⟨h.b.fr f (λq=>q4 (Ag q)),hc,⟨bs,clock,hm.fr f (λq=>q5 (Ag q))⟩,λp hp=>(h.r p hp).fr f (λk hk q=>?_),λq=>q5 (ho _ (Ag (Ah (Ah (Ag q))))),λb hb=>h.ok b (C8.1 hb).1,h.ko,h.la⟩;have a1:=(h.r p hp).srt hk;rcases q with q|q|q|⟨p2,hp2,q⟩;·rw[q,t1] at a1;simp at a1
 ·rw[t3 _ q] at a1;simp at a1
 ·rw[q,t2] at a1;simp at a1
 ·rw[t5 p2 hp2 _ q] at a1;simp at a1
theorem drop_own{ps:List Int}(ho: ∀q,(e.s.drop ps).own e.gc q→e.s.own e.gc q): ∀k,({e with s:=e.s.drop ps}:Eo).own ge k→e.own ge k:=λk hk=>by
 rcases hk with q|q|q|q;·exact Ag q
 ·exact Ah (Ag (ho k q))
 ·exact Ah (Ah (Ag q))
 ·exact Ah (Ah (Ah q))
theorem tidy_elk{ed:AT}(h:En w ge e)(ht:TidyPost w ge e ed w'):ed=Ax (AD #[])∧ ∃e',Elk w w' ge e e' 0∧e'.s=e.s:=by
 obtain⟨rfl,L',h1,h2,f⟩:=ht;refine⟨rfl,{e with L:=L'},Elk.of h h1 rfl (by show e.s.fl≤_;omega) (λk hk=>?_) (f.mono (λk _ q=> Ah (Ah q))),rfl⟩;rcases hk with q|q|q|⟨p,hp,q⟩;·exact Ag (Ag q)
 ·exact Ag (Ah (Ag q))
 ·exact KD
 ·exact Ag (Ah (Ah (Ah ⟨p,h2 p hp,q⟩)))
def TurnPost(w:Ac)(ge:Nat)(e:Eo)(ed:AT)(w':Ac):Prop:=ed=Ax (AD #[])∧ ∃e',Elk w w' ge e e' 0
theorem turned_any(w:Ac)(ge:Nat)(e:Eo)(h:En w ge e)(ps:List Int)(np pc:Nat)(pA:Aw)(hp:w.ownsRow 0 3 1 (U pA np pc) np (ps.map (J Z)))(hw: ∀z∈ps,(C9 .i64 z).wf=Af)(hm:np≤64):At Tryz.prog 22 #[↑ge,U pA np pc] w (TurnPost w ge e):=by
 have hI: ∀W,Fr e.s.sx w W→IntsAt Z W ↑w pA np ps:=λW f=>by
  have ho:W.ownsRow 0 3 1 (U pA np pc) np (ps.map (J Z)):=own_fr hp f (λk hk q=>by
   have a1:Ca.srt w k=I (I 3):=by
    rcases hp.2 with⟨e2,_⟩|⟨g',cap,cur,e2,_,hb,_⟩;·rw[e2] at hk;simp[Bp] at hk
    ·rw[e2] at hk;have:g'=k:=RX;exact KE
   exact h.apart (Ah (Ag (sx_wr q))) a1 Ak Ak Ak Ak)
  have hlt:=own_lt hp;refine⟨by have:=hp.1;simpa using this,λi hi=>?_,λhn=>?_⟩
  ·have hl:i<ps.length:=by have:=hp.1;simp at this;omega
   rw[AN,Bj hl];exact hw _ (BU hl)
  ·obtain⟨g',cap,cur,e2,hg,hb,hc,_,hs,ht⟩:=own_blk ho hn;injection e2 with e2;have hgl:g'<↑w:=by
    refine hlt g' ?_;rw[e2];rfl
   refine⟨g',0,e2,hgl,λi hi=>?_⟩;rw[Bn,hb.cell i,←CN,←Cw (show i<np*1 by omega),ht];have hl:i<ps.length:=by have:=hp.1;simp at this;omega
   rw[C7,Bj hl,AN,Bj hl];rfl
 have Hd:=T (drop_any w e.gc e.s h.c ps ↑w np pc pA hI Bu (AE _));have H:=T h;have c0:=h.b.cell 0;have cl:=h.b.lt;clear hI hp hw h;rcases Dm np with h0|h0
 ·have g1:decide ((np:Int)>0)=Aa:=A8;go_in
  go_wp2
  go_end0;exact⟨rfl,e,Elk.refl H.out⟩
 ·have g1:decide ((np:Int)>0)=Af:=A8;obtain⟨cg,hcg⟩:=Az (cntG ps e.s.bl);have Hd2:Hid (At Tryz.prog 38 #[↑e.gc,U pA np pc] w λed w'=>ed=Ax (J Z (cg:Nat))∧ ∃e',Elk w w' ge e e' 0):=T ((Hd.out).mono (λed w' hh=>by
   obtain⟨rfl,hc,f,ho⟩:=hh;exact⟨by rw[hcg],{e with s:=e.s.drop ps},Elk.of H.out (drop_en H.out ps hc f ho) rfl (by show e.s.fl≤e.s.fl+((0:Nat):Int);omega) (λk hk=> Ag (drop_own ho k hk)) (f.mono (λk _ q=> Ah (Ag q)))⟩))
  clear Hd hcg;rcases Dm cg with hg|hg;·have g2:decide ((cg:Int)>0)=Aa:=A8;go_in;go_wp2_with ((with_reducible refine Ay Hd2 ?_);rintro ed w1 ⟨rfl,e',hE⟩;have HE:=T hE;clear hE);go_end0;exact⟨rfl,e',HE.out⟩
  ·have g2:decide ((cg:Int)>0)=Af:=A8;go_in;go_wp2_with (first
    |((with_reducible refine Ay Hd2 ?_);rintro ed w1 ⟨rfl,e',hE⟩;have Ht:=T (tidy_any w1 ge e' hE.en);have HE:=T hE;clear hE)
    |((with_reducible refine Ay Ht ?_);rintro ed w2 ht;obtain⟨rfl,e2,hE2,_⟩:=tidy_elk HE.out.en ht;have HE2:=T hE2;clear hE2 ht))
   go_end0;exact⟨rfl,e2,HE.out.tr HE2.out⟩
end Eg
namespace Gm
open Fm Nt Rm By Wk Gs Bs Mu
theorem Mch.eng{w w':Ac}{P P' S:AG}{a:Ab}{A:Au}{g:Mc}(h:Mch w P a A g)(f:Fr S w w')(hs: ∀k,S k→P k)(h0: ¬S 0)(hp: ∀k,P' k→P k∨(w.heap.size≤k∧k<w'.heap.size))(hz:P' 0):Mch w' P' a A g:=by
 obtain⟨F,h1,h2,h3⟩:=h.lt;have hl:=h.un.lt;have h4:=h.fr f hs h0;refine⟨⟨F,h1.fr f (λk hk e=>(h2 k hk).1 (hs k e)),λk hk=>⟨λe=>?_,(h2 k hk).2⟩⟩,h4.un,h.am,⟨λe=>?_,λe=>?_⟩,h4.tab,hz,λk hk=>?_⟩;·exact Nx
 ·exact Jm
 ·exact Jn
 ·exact N3
end Gm
namespace Bl
open Fm Nt Rm By Wk Gs Bs Mu Sv Gm Gc Rn Eg
structure Sx(w w':Ac)(P L:AG)(a:Ab)(A:Au)(s:St)(g:Mc)(X Y:Aw)(c d:Nat)(ge:Nat)(e e':Eo)(D:Nat):Prop where
 st:StV w' 0 s (U X s.d.length c) (U Y s.r.length d)
 ne: ∀k,ab X=I k→ab Y≠I k
 f:Fr (λk=> ¬P k∨e.own ge k) w w'
 z:P 0∧(∀k,P k→k<w.heap.size)∧(∀k,e.own ge k→P k∧k≠0)∧ ∀k,L k→w.heap.size≤k
 en:En w' ge e'
 gc:e'.gc=e.gc
 fl:e'.s.fl≤e.s.fl+D
 own: ∀k,e'.own ge k→e.own ge k∨w.heap.size≤k
 mc: ∃P',(∀k,P k→P' k)∧(∀k,P' k→P k∨w.heap.size≤k)∧(∀k,ab X=I k∨ab Y=I k→P' k)∧(∀k,ab X=I k∨ab Y=I k→P k∨w.heap.size≤k)∧(∀k,L k→P' k)∧(∀k,e'.own ge k→P' k)∧Mch w' P' a A g
section
variable {w w' w2:Ac} {P L L':AG} {a:Ab} {A:Au} {g g2:Mc} {s s2:St} {X Y X2 Y2:Aw} {c d c2 d2:Nat} {ge:Nat} {e e' e2:Eo} {D D2:Nat}
theorem Sx.start(hS:StV w 0 s (U X s.d.length c) (U Y s.r.length d))(hp: ∀k,ab X=I k∨ab Y=I k→P k)(hne: ∀k,ab X=I k→ab Y≠I k)(hM:Mch w P a A g)(hE:En w ge e)(ho: ∀k,e.own ge k→P k∧k≠0):Sx w w P Aj a A s g X Y c d ge e e 0:=
 ⟨hS,hne,Ao _ _,⟨hM.p0,hM.pl,ho,λ_ e=>e.elim⟩,hE,rfl,O,λk hk=> Ag hk,P,λk hk=>hk,λk hk=> Ag hk,hp,λk hk=> Ag (hp k hk),λ_ e=>e.elim,λk hk=>(ho k hk).1,hM⟩
theorem Sx.less(h:Sx w w' P L a A s g X Y c d ge e e' D)(hl: ∀k,L' k→L k):Sx w w' P L' a A s g X Y c d ge e e' D:=by
 obtain⟨P',p1,p2,p3,p4,p5,p6,p7⟩:=h.mc;exact⟨h.st,h.ne,h.f,⟨h.z.1,h.z.2.1,h.z.2.2.1,λk hk=>h.z.2.2.2 k (hl k hk)⟩,h.en,h.gc,h.fl,h.own,P',p1,p2,p3,p4,λk hk=>p5 k (hl k hk),p6,p7⟩
theorem Sx.fr0(h:Sx w w' P L a A s g X Y c d ge e e' D)(f:Fr Aj w' w2):Sx w w2 P L a A s g X Y c d ge e e' D:=by
 obtain⟨P',p1,p2,p3,p4,p5,p6,p7⟩:=h.mc;exact⟨h.st.fr0 f,h.ne,h.f.trans f (λ_ _ e=>e.elim),h.z,h.en.fr0 f,h.gc,h.fl,h.own,P',p1,p2,p3,p4,p5,p6,p7.fr0 f⟩
theorem Sx.more(h:Sx w w' P L a A s g X Y c d ge e e' D)(f:Fr Aj w' w2)(hl: ∀k,L' k→L k∨(w'.heap.size≤k∧k<w2.heap.size)):Sx w w2 P L' a A s g X Y c d ge e e' D:=by
 obtain⟨P',p1,p2,p3,p4,p5,p6,p7⟩:=h.mc;have hs:=h.f.size;refine⟨h.st.fr0 f,h.ne,h.f.trans f (λ_ _ e=>e.elim),⟨h.z.1,h.z.2.1,h.z.2.2.1,λk hk=>?_⟩,h.en.fr0 f,h.gc,h.fl,h.own,λk=>P' k∨(w'.heap.size≤k∧k<w2.heap.size),λk hk=> Ag (p1 k hk),λk hk=>?_,λk hk=> Ag (p3 k hk),p4,λk hk=>(hl k hk).imp (p5 k) id,λk hk=> Ag (p6 k hk),p7.more f (λk hk=>hk) (Ag p7.p0)⟩
 ·rcases hl k hk with q|q;·exact h.z.2.2.2 k q
  ·omega
 ·rcases hk with q|q;·exact p2 k q
  ·exact CQ
theorem Sx.call(h:Sx w w' P L a A s g X Y c d ge e e' D): ∃P',Mch w' P' a A g∧(∀k,L k∨ab X=I k∨ab Y=I k→P' k)∧(∀{w2 s2 g2 X2 Y2 c2 d2},Stp w' w2 P' a A s2 g2 X2 Y2 c2 d2→Sx w w2 P L a A s2 g2 X2 Y2 c2 d2 ge e e' D)∧(∀{w2 g2},Mch w2 P' a A g2→Fr (λk=> ¬P' k) w' w2→Sx w w2 P L a A s g2 X Y c d ge e e' D):=by
 obtain⟨P',p1,p2,p3,p4,p5,p6,p7⟩:=h.mc;have hs:=h.f.size;refine⟨P',p7,λk hk=>hk.elim (p5 k) (p3 k),λ{w2 s2 g2 X2 Y2 c2 d2} hn=>?_,λ{w2 g2} hm f=>?_⟩
 ·obtain⟨Q,q1,q2,q3,q4,q5⟩:=hn.mc;refine⟨hn.st,hn.ne,h.f.trans hn.f (λk hk q=> Ag (λr=>q (p1 k r))),h.z,h.en.fr hn.f (λk hk q=>q (p6 k hk)),h.gc,h.fl,h.own,Q,λk hk=>q1 k (p1 k hk),λk hk=>?_,q3,λk hk=>?_,λk hk=>q1 k (p5 k hk),λk hk=>q1 k (p6 k hk),q5⟩;·exact RY
  ·exact RZ
 ·exact⟨h.st.fr f (λk hk q=>q (p3 k (Ag (Rn.own_ab hk)))) (λk hk q=>q (p3 k (Ah (Rn.own_ab hk)))),h.ne,h.f.trans f (λk hk q=> Ag (λr=>q (p1 k r))),h.z,h.en.fr f (λk hk q=>q (p6 k hk)),h.gc,h.fl,h.own,P',p1,p2,p3,p4,p5,p6,hm⟩
theorem Sx.eng(h:Sx w w' P L a A s g X Y c d ge e e' D)(k:Elk w' w2 ge e' e2 D2):Sx w w2 P L a A s g X Y c d ge e e2 (D+D2):=by
 obtain⟨P',p1,p2,p3,p4,p5,p6,p7⟩:=h.mc;have hs:=h.f.size;have hu:Oth 24:=⟨Ak,Ak,Ak,Ak⟩;have h0: ∀q,e'.own ge q→q≠0:=λq hq=>Sa;refine⟨⟨k.row h.st.d hu,k.row h.st.r hu,h.st.ok⟩,h.ne,h.f.trans k.f (λq hq r=>?_),h.z,k.en,k.gc.trans h.gc,RW,λq hq=>?_,λq=>P' q∨(w'.heap.size≤q∧q<w2.heap.size),λq hq=> Ag (p1 q hq),λq hq=>?_,λq hq=> Ag (p3 q hq),p4,λq hq=> Ag (p5 q hq),λq hq=>?_,p7.eng k.f p6 (λr=>h0 0 r rfl) (λq hq=>hq) (Ag p7.p0)⟩
 ·rcases h.own q r with t|t;·exact Ah t
  ·omega
 ·rcases k.own q hq with r|r;·exact h.own q r
  ·exact CQ
 ·rcases hq with r|r;·exact p2 q r
  ·exact CQ
 ·rcases k.own q hq with r|r;·exact Ag (p6 q r)
  ·exact Ah ⟨r,k.en.own_lt q hq⟩
theorem Sx.wrote(h:Sx w w' P L a A s g X Y c d ge e e' D){q:Nat}(hq:L q)(hx:ab X≠I q∧ab Y≠I q)(he: ¬e'.own ge q)(f:Fr (λk=>k=q) w' w2):Sx w w2 P L a A s g X Y c d ge e e' D:=by
 obtain⟨P',p1,p2,p3,p4,p5,p6,p7⟩:=h.mc;have hq2:=h.z.2.2.2 q hq;have hz:=h.z.2.1 0 h.z.1;exact⟨h.st.fr f (λk hk r=>hx.1 Sd) (λk hk r=>hx.2 Sd),h.ne,h.f.trans f (λk hk r=>by have r:k=q:=r;omega),h.z,h.en.fr f (λk hk r=>he (by rw[←show k=q from r];exact hk)),h.gc,h.fl,h.own,P',p1,p2,p3,p4,p5,p6,p7.fr f (λk hk=>by rw[show k=q from hk];exact p5 q hq) (λr=>O)⟩
theorem Sx.give(h:Sx w w' P L a A s g X Y c d ge e e' D)(hn:StV w2 ↑w' s2 (U X2 s2.d.length c2) (U Y2 s2.r.length d2))(hne: ∀k,ab X2=I k→ab Y2≠I k)(f:Fr Aj w' w2):Sx w w2 P L a A s2 g X2 Y2 c2 d2 ge e e' D:=by
 obtain⟨P',p1,p2,p3,p4,p5,p6,p7⟩:=h.mc;have hs:=h.f.size;have hx: ∀k,ab X2=I k∨ab Y2=I k→w'.heap.size≤k∧k<w2.heap.size:=λk hk=>by
  rcases hk with r|r;·exact⟨hn.d.ge k (ab_own hn.d r),hn.d.lt k (ab_own hn.d r)⟩
  ·exact⟨hn.r.ge k (ab_own hn.r r),hn.r.lt k (ab_own hn.r r)⟩
 refine⟨hn.low (AU _),hne,h.f.trans f (λ_ _ e=>e.elim),h.z,h.en.fr0 f,h.gc,h.fl,h.own,λk=>P' k∨(w'.heap.size≤k∧k<w2.heap.size),λk hk=> Ag (p1 k hk),λk hk=>?_,λk hk=> Ah (hx k hk),λk hk=> Ah KF,λk hk=> Ag (p5 k hk),λk hk=> Ag (p6 k hk),p7.more f (λk hk=>hk) (Ag p7.p0)⟩;rcases hk with r|r;·exact p2 k r
 ·exact CQ
theorem Sx.tr(h:Sx w w' P L a A s g X Y c d ge e e' D): ∃P',(∀k,L k∨ab X=I k∨ab Y=I k→P' k)∧Mch w' P' a A g∧(∀k,e'.own ge k→P' k∧k≠0)∧ ∀{w2 s2 g2 X2 Y2 c2 d2 e2 D2},Sx w' w2 P' Aj a A s2 g2 X2 Y2 c2 d2 ge e' e2 D2→Sx w w2 P L a A s2 g2 X2 Y2 c2 d2 ge e e2 (D+D2):=by
 obtain⟨P',p1,p2,p3,p4,p5,p6,p7⟩:=h.mc;have hs:=h.f.size;have h0: ∀q,e'.own ge q→q≠0:=λq hq=>Sa;refine⟨P',λk hk=>hk.elim (p5 k) (p3 k),p7,λk hk=>⟨p6 k hk,h0 k hk⟩,λ{w2 s2 g2 X2 Y2 c2 d2 e2 D2} hn=>?_⟩;obtain⟨Q,q1,q2,q3,q4,q5,q6,q7⟩:=hn.mc;refine⟨hn.st,hn.ne,h.f.trans hn.f (λk hk r=>?_),h.z,hn.en,hn.gc.trans h.gc,by have:=h.fl;have:=hn.fl;push_cast;omega,λk hk=>?_,Q,λk hk=>q1 k (p1 k hk),λk hk=>?_,q3,λk hk=>?_,λk hk=>q1 k (p5 k hk),q6,q7⟩
 ·rcases r with r|r;·exact Ag (λt=>r (p1 k t))
  ·rcases h.own k r with t|t;·exact Ah t
   ·omega
 ·rcases hn.own k hk with r|r;·exact h.own k r
  ·exact CQ
 ·exact RY
 ·exact RZ
theorem Sx.none(h:Sx w w' P L a A s g X Y c d ge e e' D):Sx w w' P Aj a A s g X Y c d ge e e' D:=h.less (λ_ e=>e.elim)
end
end Bl
namespace Bl
open Fm Nt Rm By Wk Gs Bs Mu Sv Gm Gc Rn Eg
theorem othS:Oth 41:=⟨Ak,Ak,Ak,Ak⟩
theorem othI:Oth 26:=⟨Ak,Ak,Ak,Ak⟩
theorem othR:Oth 201:=⟨Ak,Ak,Ak,Ak⟩
theorem othZ:Oth 3:=⟨Ak,Ak,Ak,Ak⟩
variable{w:Ac}
theorem En.self{w':Ac}{ge:Nat}{e e2:Eo}(h:En w ge e)(h1:e2.gc=e.gc)(h2:e2.gm=e.gm)(h3:e2.s=e.s)(h4:e2.L=e.L)(h5:e2.la.Ok)(hb:Blk w' ge 105 (enC e2))(f:Fr (λq=>q=ge) w w'):Elk w w' ge e e2 0:=by
 obtain⟨q1,q2,q3,q4,q5⟩:=h.ges;obtain⟨bs,clock,hm⟩:=h.m;have hr: ∀p∈e.L,Ca.ab p.2.A≠I ge:=λp hp q=>by
  have a1:=(h.r p hp).srt q;rw[Ca.srt_blk h.b] at a1;simp at a1
 have hE:En w' ge e2:=by
  refine⟨hb, ?_,⟨bs,clock, ?_⟩,λp hp=>?_, ?_, ?_, ?_,h5⟩;·rw[h1,h3];exact h.c.fr f (λk hk r=>q4 (by rw[←show k=ge from r];exact hk))
  ·rw[h2,h4];exact hm.fr f (λr=>q2 r.symm)
  ·rw[h4] at hp;exact(h.r p hp).fr f (λk hk r=>hr p hp (by rw[hk,show k=ge from r]))
  ·rw[h2,h3];exact h.ne
  ·rw[h3,h4];exact h.ok
  ·rw[h4];exact h.ko
 refine Elk.of h hE h1 (by rw[h3];omega) (λk hk=> Ag ?_) (f.mono (λk _ r=> Ag r));unfold Eo.own at hk⊢;rw[h1,h2,h3,h4] at hk;exact hk
theorem own_kind{ge q:Nat}{e:Eo}{t:AK}{cs:AL}(h:En w ge e)(hb:Blk w q t cs)(ho:Oth t)(h8:t≠5): ¬e.own ge q:=λr=>by
 have a1:=Ca.srt_blk hb;obtain⟨t1,t2,t3,t4,t5⟩:=h.c.srt;rcases r with r|(r|⟨b,hb2,r⟩)|r|⟨p,hp,r⟩;·exact h.apart (Ag r) a1 ho.1 ho.2.1 ho.2.2.1 ho.2.2.2
 ·exact h.apart (Ah (Ag r)) a1 ho.1 ho.2.1 ho.2.2.1 ho.2.2.2
 ·rw[t4 b hb2 q r] at a1;simp at a1;exact h8 a1.symm
 ·exact h.apart (Ah (Ah r)) a1 ho.1 ho.2.1 ho.2.2.1 ho.2.2.2
 ·rw[(h.r p hp).srt r] at a1;simp at a1;exact h8 a1.symm
theorem VJ{base n c:Nat}{A:Aw}{zs:List Int}(h:w.ownsRow base 3 1 (U A n c) n (zs.map (J Z)))(hw: ∀i,i<n→(C9 Z (zs.getD i 0)).wf=Af):IntsAt Z w ↑w A n zs:=by
 have hl:zs.length=n:=by have:=h.1;simpa using this
 refine⟨hl,hw,λhn=>?_⟩;obtain⟨g',cap,cur,e2,hg,hb,hc,_,hs,ht⟩:=own_blk h hn;injection e2 with e2;refine⟨g',0,e2,hb.lt,λi hi=>?_⟩;rw[Bn,hb.cell i,←CN,←Cw (show i<n*1 by omega),ht];have hl2:i<zs.length:=O;rw[C7,Bj hl2,AN,Bj hl2];rfl
end Bl
namespace Eg
open Mz Go.Maps Ca
def Eo.new(n:Int)(gc gm gm2:Nat):Eo:=⟨gc,gm,Cs.new n gm2,[],(0,0),0,0,Aa⟩
def ENewPost(w:Ac)(n:Int)(e:AT)(w':Ac):Prop:=
 ∃ge gc gm gm2,e=Ax (AD #[Bi (I ⟨ge,0,G⟩),J Z 0])∧En w' ge (Eo.new n gc gm gm2)∧(∀q,(Eo.new n gc gm gm2).own ge q→w.heap.size≤q)∧Fr Aj w w'
theorem enew_any(w:Ac)(n:Int)(h0:1≤n)(h1:n≤1024):At Tryz.prog 37 #[J Z n] w (ENewPost w n):=by
 have hmm:= @run_makeMap Tryz.prog;have Hn:=T (new_yes w n h0 h1);go_in;go_wp2_with ((with_reducible refine Ay Hn ?_);rintro e2 w2 ⟨gc,gm2,rfl,hc,l1,l2,l3,l4,f2⟩;have HC:=T hc;have HF2:=T f2;clear hc f2);go_ret2;have hm:=MapL.made (P:=Tryz.prog) (k:=103) (mk:=kyv) w2;have f3:=(Ao Aj w2).alloc (.map #[] 0);have hsz:(w2.alloc (.map #[] 0)).heap.size=w2.heap.size+1:=AB;have bb:=AH (w2.alloc (.map #[] 0)) 105 (enC (Eo.new n gc w2.heap.size gm2));rw[hsz] at bb;have f4:=f3.alloc (.cells (enC (Eo.new n gc w2.heap.size gm2)) 105);have hs2:=HF2.out.size;refine⟨w2.heap.size+1,gc,w2.heap.size,gm2,AB,⟨bb,HC.out.fr f4 (λ_ _ e=>e),⟨[],0,hm.fr ((Ao Aj _).alloc _) id⟩,λp hp=>absurd hp EO, ?_,λb hb=>absurd hb KL,λp hp=>absurd hp EO,⟨⟨EO,EO⟩,⟨EO,EO⟩⟩⟩,λq hq=>?_,HF2.out.tr f4⟩;·show w2.heap.size≠gm2;omega
 ·rcases hq with q1|(q1|⟨b,hb,q1⟩)|q1|⟨p,hp,q1⟩;·omega
  ·rcases q1 with q1|q1|q1|⟨p,hp,q1⟩;·have q1:q=gc:=q1;omega
   ·simp[Eo.new,Cs.new,ab] at q1
   ·have q1:q=gm2:=q1;omega
   ·exact absurd hp KL
  ·exact absurd hb KL
  ·have q1:q=w2.heap.size:=q1;omega
  ·exact absurd hp EO
end Eg
namespace Eg
open Mz Go.Maps Ca
def FoundB(w':Ac)(base:Nat)(s:Cs)(k:Ky)(A:Aw)(n c:Nat)(ct:Int):Prop:=
 ∃b∈s.bl,b.k=k∧n=b.code.length∧ct=b.ct∧w'.ownsRow base 5 1 (U A n c) n (b.code.map (J AC))
theorem findC(w:Ac)(g:Nat)(s:Cs)(h:Cch w g s)(k:Ky)(kb:Bool)(hkb:decide (0≤idx k s.bl)=kb):At Tryz.prog 62 #[↑g,AA #[J V k.1,J V k.2]] w λe w'=>(∃pc pl A n c ct,e=Ax (AD #[AA #[J V pc,J V pl,U A n c,J Z ct],Ap kb])∧(kb=Af→FoundB w' ↑w s k A n c ct))∧Fr Aj w w':=by
 by_cases hk:idx k s.bl<0
 ·have e:kb=Aa:=by rw[←hkb];simp;omega
  subst e;exact(find_no w g s h k hk).mono (λe w' hh=>by
   obtain⟨rfl,f⟩:=hh;exact⟨⟨_,_,_,_,_,_,rfl,λe=>EW⟩,f⟩)
 ·have e:kb=Af:=by rw[←hkb];simp;omega
  subst e;obtain⟨i,hi⟩: ∃i:Nat,idx k s.bl=i:=⟨(idx k s.bl).toNat,O⟩;obtain⟨hil,hik⟩:=idx_spec k s.bl i hi;exact(find_yes w g s h k i hi).mono (λe w' hh=>by
   obtain⟨A,c,rfl,ho,f⟩:=hh;exact⟨⟨_,_,_,_,_,_,rfl,λ_=>⟨nthB s.bl i,O6,hik,rfl,rfl,ho⟩⟩,f⟩)
theorem SQ{α β:Type}{l:List (α×β)}(h:(l.map (·.1)).Nodup){k:α}{a b:β}(ha:(k,a)∈l)(hb:(k,b)∈l):a=b:=by
 induction l with
 |nil=>cases ha
 |cons x l ih=>
  rw[D6,List.nodup_cons] at h;rcases Cy.1 ha with e1|e1
  ·rcases Cy.1 hb with e2|e2;·have:=e1.trans e2.symm;injection this
   ·exact absurd (Bo.2 ⟨(k,b),e2,by rw[←e1]⟩) h.1
  ·rcases Cy.1 hb with e2|e2;·exact absurd (Bo.2 ⟨(k,a),e1,by rw[←e2]⟩) h.1
   ·exact ih h.2 e1 e2
theorem look_run{w:Ac}{g:Nat}{L:List (Ky×Rr)}{bs:List Nat}{clock:Nat}(hm:MapL Tryz.prog 103 kyv w g (L.map rent) bs clock)(k:Ky)(hk:k.Ok): ∃(A:Aw) (n c:Nat) (en:Bool),(∀W,Fr Aj w W→(Instr.lookup 101 (.map (I g)) (AA #[J V k.1,J V k.2]) Aa).run Tryz.prog W=.ok (AA #[U A n c,Ap en]) W)∧ ∀r,(k,r)∈L→A=r.A∧n=r.b.length∧c=r.c∧en=r.e:=by
 obtain⟨l,hl⟩:=keyOf_ky k hk;have hz: ∀W,(zeroValue 145).run Tryz.prog W=.ok (AA #[U G 0 0,Ap Aa]) W:=λW=>rfl;have hlook: ∀W,Fr Aj w W→(Instr.lookup 101 (.map (I g)) (kyv k) Aa).run Tryz.prog W=.ok ((lk (L.map rent) k).getD (AA #[U G 0 0,Ap Aa])) W:=λW f=>(hm.fr f id).look keyLaw kyv_inj Tryz.underlying101 (hz W) hl Aa;have hnd:(L.map (·.1)).Nodup:=by have:=hm.kd;rwa[D8] at this
 cases hf:(L.map rent).find? (λp=>decide (p.1=k)) with
 |none=>
  refine⟨G,0,0,Aa,λW f=>?_,λr hr=>?_⟩;·exact SR
  ·exfalso;have:=List.find?_eq_none.1 hf (rent (k,r)) (List.mem_map_of_mem hr);simp[rent] at this
 |some p=>
  have h1:=List.find?_some hf;have h2:=List.mem_of_find?_eq_some hf;obtain⟨⟨k2,r2⟩,hq,rfl⟩:=Bo.1 h2;have hk2:k2=k:=of_decide_eq_true h1;subst hk2;refine⟨r2.A,r2.b.length,r2.c,r2.e,λW f=>?_,λr hr=>?_⟩;·exact SR
  ·have:r=r2:=by
    have h3:=SQ hnd hr hq;exact h3
   subst this;exact⟨rfl,rfl,rfl,rfl⟩
end Eg
namespace Eg
open Mz Go.Maps Ca
theorem put_mem{s:Cs}{b:Bk}{A:Aw}{c gm:Nat}{x:Bk}(h:x∈(s.put b A c gm).bl):x=b∨x∈s.bl:=by
 unfold Cs.put at h;split at h
 ·rcases List.mem_or_eq_of_mem_set h with e|e;·exact Ah e
  ·exact Ag e
 ·split at h;·have h:x∈[]++[b]:=h;simp at h;exact Ag h
  ·have h:x∈s.bl++[b]:=h;rcases BZ.1 h with e|e;·exact Ah e
   ·exact JY
theorem put_in(s:Cs)(b:Bk)(A:Aw)(c gm:Nat):b∈(s.put b A c gm).bl:=by
 unfold Cs.put;split
 ·rename_i h
  obtain⟨i,hi⟩: ∃i:Nat,idx b.k s.bl=i:=⟨(idx b.k s.bl).toNat,O⟩;obtain⟨h1,_⟩:=idx_spec _ _ _ hi;have e:=Kz;show b∈s.bl.set (idx b.k s.bl).toNat b;rw[e];exact List.mem_set h1 b
 ·split;·show b∈[]++[b];simp
  ·show b∈s.bl++[b];simp
theorem put_fl(s:Cs)(b:Bk)(A:Aw)(c gm:Nat):(s.put b A c gm).fl≤s.fl+(1:Nat):=by
 unfold Cs.put;split;·show s.fl≤_;omega
 ·split;·show s.fl+1≤_;omega
  ·show s.fl≤_;omega
theorem nodup_k{l:List Bk}(h:(l.map Bk.k).Nodup){x y:Bk}(hx:x∈l)(hy:y∈l)(e:x.k=y.k):x=y:=by
 have h2:((l.map (λb=>(b.k,b))).map (·.1)).Nodup:=by rw[D8];exact h
 exact SQ h2 (k:=x.k) (Bo.2 ⟨x,hx,rfl⟩) (Bo.2 ⟨y,hy,by rw[e]⟩)
theorem has_rent{L:List (Ky×Rr)}{k:Ky}(h:Mz.has (L.map rent) k=Af): ∃r,(k,r)∈L:=by
 unfold Mz.has at h;rw[List.any_eq_true] at h;obtain⟨p,hp,e⟩:=h;obtain⟨⟨k2,r⟩,hq,rfl⟩:=Bo.1 hp;have e:k2=k:=of_decide_eq_true e;subst e;exact⟨r,hq⟩
variable{w:Ac}
theorem VT{g:Nat}{L:List (Ky×Rr)}{bs:List Nat}{clock:Nat}(hm:MapL Tryz.prog 103 kyv w g (L.map rent) bs clock)(k:Ky)(hk:k.Ok)(r:Rr):∃(L':List (Ky×Rr)) (w':Ac),(DK 101 (.map (I g)) (AA #[J V k.1,J V k.2]) (AA #[U r.A r.b.length r.c,Ap r.e])).run Tryz.prog w=.ok () w'∧(∃bs2 clock2,MapL Tryz.prog 103 kyv w' g (L'.map rent) bs2 clock2)∧Fr (· =g) w w'∧(k,r)∈L'∧(∀p∈L',p=(k,r)∨p∈L)∧ ∀p∈L,p.1≠k→p∈L':=by
 obtain⟨l,hl⟩:=keyOf_ky k hk
 cases hh:Mz.has (L.map rent) k
 ·obtain⟨w',h1,h2,f⟩:=hm.store_new keyLaw kyv_inj Tryz.underlying101 hl hh (rval r);refine⟨L++[(k,r)],w',h1,⟨bs++[clock],clock+1, ?_⟩,f,AB,λp hp=>?_,λp hp _=>by simp[hp]⟩
  ·have e:(L++[(k,r)]).map rent=L.map rent++[(k,rval r)]:=by simp[rent]
   rw[e];exact h2
  ·rcases BZ.1 hp with e|e;·exact Ah e
   ·exact JY
 ·obtain⟨w',h1,h2,f⟩:=hm.store_old keyLaw kyv_inj Tryz.underlying101 hl hh (rval r);obtain⟨r0,hr0⟩:=has_rent hh;refine⟨L.map (λp=>if p.1=k then(k,r) else p),w',h1,⟨bs,clock, ?_⟩,f,Bo.2 ⟨(k,r0),hr0,AB⟩,λp hp=>?_,λp hp hn=>Bo.2 ⟨p,hp,by rw[Ae hn]⟩⟩
  ·have e:(L.map (λp=>if p.1=k then(k,r) else p)).map rent=Mz.rep (L.map rent) k (rval r):=by
    unfold Mz.rep;rw[D8,D8];refine List.map_congr_left (λp _=>?_);show rent (if p.1=k then(k,r) else p)=if(rent p).1=k then _ else rent p;by_cases hp:p.1=k;·have hp2:(rent p).1=k:=hp;rw[An hp,An hp2];subst hp;rfl
    ·have hp2: ¬(rent p).1=k:=hp;rw[Ae hp,Ae hp2]
   rw[e];exact h2
  ·obtain⟨q,hq,rfl⟩:=Bo.1 hp;split;·exact Ag rfl
   ·exact Ah hq
structure NewOk(k:Ky)(l:List Gs.Ins)(bs:List Int)(code:List Tr.HI)(e:Bool):Prop where
 t:Gm.Trl k.1 l bs code
 e:e=Gs.endsB (l.getLastD ⟨0,0⟩).op
 bd: ∀z∈bs,0≤z∧z<256
 n:bs.length≤64
theorem En.row{w':Ac}{ge:Nat}{e:Eo}(h:En w ge e)(f:Fr (e.wr ge) w w'){base n s:Nat}{t:AK}{v:As}{xs:List As}(hr:w.ownsRow base t s v n xs)(ho:Oth t):w'.ownsRow base t s v n xs:=by
 obtain⟨h1,h2⟩:=hr;refine⟨h1, ?_⟩;rcases h2 with h2|⟨g,cap,cur,hv,hg,hb,r⟩;·exact Ag h2
 ·refine Ah ⟨g,cap,cur,hv,hg, ?_,r⟩;have:=h.kp f g t (srt_blk hb) ho;rw[this];exact hb
theorem oth8:Oth 5:=by unfold Oth;decide
theorem encH_bd{i:Tr.HI}(h:Tr.HOk i): ∀z∈Hc.encH i,0≤z∧z<256:=by
 obtain⟨h1,h2,h3,h4,h5⟩:=h;intro z hz;simp only[Hc.encH,Cy,List.not_mem_nil,or_false] at hz;rcases hz with rfl|rfl|rfl|rfl|rfl|rfl|rfl|rfl<;>omega
theorem encL_bd{l:List Tr.HI}(h:Tr.HAll l): ∀z∈Hc.encL l,0≤z∧z<256:=by
 intro z hz;obtain⟨i,hi,hz⟩:=List.mem_flatMap.1 hz;exact encH_bd (h i hi) z hz
theorem put_en{w1 wa:Ac}{ge:Nat}{e:Eo}(h:En w ge e){k:Ky}(hk:k.Ok){l:List Gs.Ins}{code:List Tr.HI}{A' A2:Aw}{c' c2 gm2:Nat}{r:Rr}(hn:NewOk k l r.b code r.e){b:Bk}(hb:b=⟨k.1,k.2,Hc.encL code,l.length,A',c'⟩)(hc:Cch w1 e.gc (e.s.put b A2 c2 gm2))(f1:Fr (e.s.wr e.gc) w w1){m:Nat}(hm:↑w≤m)(ho: ∀q,(e.s.put b A2 c2 gm2).own e.gc q→e.s.own e.gc q∨m≤q){base:Nat}(hr:w1.ownsRow base 5 1 (U r.A r.b.length r.c) r.b.length (r.b.map (J AC)))(hrl:↑w≤base)(f2:Fr Aj w1 wa):∃w3 e',(DK 101 (.map (I e.gm)) (AA #[J V k.1,J V k.2]) (AA #[U r.A r.b.length r.c,Ap r.e])).run Tryz.prog wa=.ok () w3∧Fr (· =e.gm) wa w3∧Elk w w3 ge e e' 1∧ ∀q,e'.own ge q→e.own ge q∨m≤q∨ab r.A=I q:=by
 obtain⟨q1,q2,q3,q4,q5⟩:=h.ges;obtain⟨bs,clock,hm0⟩:=h.m;have hsz:=f1.size;have hgm:=hm0.bound;have hmo: ¬(e.s.put b A2 c2 gm2).own e.gc e.gm:=λq=>by
  rcases ho _ q with q|q;·exact q5 q
  ·omega
 have hm2:MapL Tryz.prog 103 kyv wa e.gm (e.L.map rent) bs clock:=(hm0.fr f1 (λq=>q5 (Ag q))).fr f2 id;obtain⟨L',w3,hrun,hm3,f3,i1,i2,i3⟩:=VT hm2 k hk r;have f4:Fr (λq=>e.s.wr e.gc q∨q=e.gm) w w3:=((f1.mono (λ_ _ q=> Ag q)).tr (f2.mono (λ_ _ e=>e.elim))).tr (f3.mono (λ_ _ q=> Ah q));have hrow: ∀r,RunRow w r→RunRow w3 r:=λr hr=>h.row (f4.mono (λq _ r=> Ah r)) hr oth8;have hr0:RunRow w1 r:=Sw.own_low hr (AU _);have hr3:RunRow w3 r:=(hr0.fr f2 (λ_ _ e=>e)).fr f3 (λq hq e2=>by
  have a1:=hr0.srt hq;have a2:=srt_map (hm0.fr f1 (λq=>q5 (Ag q))).b;rw[e2,a2] at a1;simp at a1)
 have hrb: ∀q,ab r.A=I q→w.heap.size≤q:=λq hq=>by
  have:=own_base hr q (by
   cases hA:r.A with
   |none=>rw[hA] at hq;cases hq
   |some a=>rw[hA] at hq;simpa[Bp,ab] using hq)
  omega
 have hen:En w3 ge {e with s:=e.s.put b A2 c2 gm2,L:=L'}:=by
  refine⟨?_, ?_,hm3,λp hp=>?_,λq=>?_,λx hx=>?_,λp hp=>?_,h.la⟩
  ·exact h.b.fr f4 (λq=>by
    rcases q with q|q;·exact q4 (Ag q)
    ·exact q2 q)
  ·exact(hc.fr f2 (λ_ _ e=>e)).fr f3 (λq hq e=>hmo (e▸hq))
  ·rcases i2 p hp with rfl|hp;·exact hr3
   ·exact hrow _ (h.r p hp)
  ·have q:e.gm=(e.s.put b A2 c2 gm2).gm:=q;exact hmo (Ag (Ah (Ah (Ag q))))
  ·have hx:x∈(e.s.put b A2 c2 gm2).bl:=hx;by_cases e1:x=b;·subst e1;subst hb;exact⟨r,l,code,i1,hn.t,rfl,rfl,hn.e,hn.bd,hn.n⟩
   ·rcases put_mem hx with e2|e2;·exact absurd e2 e1
    ·obtain⟨r1,l1,cd1,j1,j2⟩:=h.ok x e2;refine⟨r1,l1,cd1,i3 _ j1 (λe3=>e1 ?_),j2⟩;exact nodup_k hc.ok.kd hx (put_in _ _ _ _ _) (by rw[hb];exact e3)
  ·rcases i2 p hp with rfl|hp;·exact hk
   ·exact h.ko p hp
 have hown: ∀q,Eo.own {e with s:=e.s.put b A2 c2 gm2,L:=L'} ge q→e.own ge q∨m≤q∨ab r.A=I q:=λq hq=>by
  rcases hq with q|q|q|⟨p,hp,q⟩;·exact Ag (Ag q)
  ·rcases ho _ q with q|q;·exact Ag (Ah (Ag q))
   ·exact Ah (Ag q)
  ·exact KD
  ·rcases i2 p hp with rfl|hp;·exact Ah (Ah q)
   ·exact Ag (Ah (Ah (Ah ⟨p,hp,q⟩)))
 refine⟨w3,_,hrun,f3,Elk.of h hen rfl (put_fl _ _ _ _ _) (λq hq=>?_) (f4.mono (λq _ r=> Ah r)),hown⟩;rcases hown q hq with q|q|q;·exact Ag q
 ·exact CQ
 ·exact Ah (hrb _ q)
end Eg
end Go.Proofs.YtpmlgdopfafcgaaGreatDoor
