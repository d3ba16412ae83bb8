import Derived.Test.YtdfegdoeebaagaaGreatDoorX9
import Derived.Test.YtdfegdoeebaagaaGreatDoorX29
import Derived.Test.YtdfegdoeebaagaaGreatDoorX30
import Derived.Test.YtdfegdoeebaagaaGreatDoorX32
open Go.Value renaming slice→Z,int→J,bool→Ap,tuple→AF,ownBlock→Cb,agg→A9,pointer→Bm
open Option renaming some→I,none→G
open Go.IntKind renaming i64→U,u32→V,u8→AB
open Go renaming World→Aa,Value→As,Calls→At,bodyPost_ret→Bt,TypeId→AN,wp_region_held_drew→C7,Ending→AY,info_parts→Cj,maxLen→BQ,wpList→Cy,Program→CF,run_underlying→Fe,Oper→BM,Operand→De
open Bool renaming false→Ac,true→Ag
open List renaming getD_eq_getElem?_getD→AS,getElem?_eq_getElem→BK,mem_map→BS,getElem?_take_of_lt→Dq,getElem_mem→CE,getElem?_append_right→Ex,mem_append→Da,getElem?_map→DP,mem_filter→DF,mem_cons→Dv,length_take→Iv,map_cons→GU,map_map→GZ
open Go.Ending renaming returned→Ax
open And renaming intro→Ay
open Nat renaming le_refl→AD,lt_of_lt_of_le→Bg,le_trans→Bf,zero_le→Bj,zero_add→BW,lt_or_ge→DG,eq_zero_or_pos→Gq
open Or renaming inl→Af,inr→Ah
open Array renaming getElem?_toList→DV,getElem?_eq_some_iff→IK
open Go.Builtin renaming delete_→Jq
open Go.Region renaming wanted→Dm
open Go.Result renaming andThen→ES
open Go.Instr renaming mapUpdate→Ix
open Go.MapKept renaming run_getObj_map→Iw,run_setObj_map→Jp
open Go.Lit renaming int→DT
set_option linter.all false
set_option maxHeartbeats 40000000
set_option maxRecDepth 1000000
open Go Go.RowKit
namespace Go.Proofs.YtdfegdoeebaagaaGreatDoor
namespace Eg
open Fm Nt Rm By Wk Gs Tr Gm
def inC(i:Ins):List As:=[J U i.op,J V i.n]
def Eu(l:List Ins):List As:=l.flatMap inC
theorem inCs_one(l:List Ins): ∀u∈Eu l,u.oneCell'=Ag:=by
 intro u hu;obtain⟨i,_,hi⟩:=List.mem_flatMap.1 hu;simp only[inC,Dv,List.not_mem_nil,or_false] at hi;rcases hi with rfl|rfl<;>rfl
theorem inCs_app(l m:List Ins):Eu (l++m)=Eu l++Eu m:=by simp[Eu]
theorem RZ: ∀(l:List Ins) (k:Nat),k<l.length→(Eu l)[k*2]?=I (J U (l.getD k ⟨0,0⟩).op)∧(Eu l)[k*2+1]?=I (J V (l.getD k ⟨0,0⟩).n)
 |i::l,0,_=>⟨rfl,rfl⟩
 |i::l,k+1,h=>by
  have ih:=RZ l k D7;have e:Eu (i::l)=[J U i.op,J V i.n]++Eu l:=rfl;rw[e,Ex AA,Ex AA];have e1:(k+1)*2 -[J IntKind.i64 i.op,J IntKind.u32 i.n].length=k*2:=AA;have e2:(k+1)*2+1 -[J IntKind.i64 i.op,J IntKind.u32 i.n].length=k*2+1:=AA;rw[e1,e2];exact ih
variable{w:Aa}
theorem atN_of{base c:Nat}{A:Aw}{l:List Ins}(h:w.ownsRow base 27 2 (Z A l.length c) l.length (Eu l)):Lw_.AtN w ↑w A l:=by
 intro k hk;obtain⟨g,cap,cur,hv,hg,hb,hc,hm,hs,ht⟩:=EQ h O;injection hv with e1 e2 e3;refine⟨g,0,e1,hb.lt, ?_, ?_⟩;·rw[BW,hb.cell,←DV,←Dq (show k*2<l.length*2 by omega),ht];exact(RZ l k hk).1
 ·rw[BW,hb.cell,←DV,←Dq (show k*2+1<l.length*2 by omega),ht];exact(RZ l k hk).2
def PlnPost(w:Aa)(b:List Int)(e:AY)(w':Aa):Prop:=
 ∃(l:List Ins) (size:Nat) (ends:Bool) (A:Aw) (c:Nat) (A2:Aw) (c2:Nat),Pn b l size ends∧l.length≤8∧e=Ax (AF #[Z A l.length c,A9 #[Z A2 (b.take size).length c2,Ap ends]])∧
  w'.ownsRow ↑w 27 2 (Z A l.length c) l.length (Eu l)∧w'.ownsRow ↑w 5 1 (Z A2 (b.take size).length c2) (b.take size).length ((b.take size).map (J AB))∧Fr Aj w w'
theorem infoIn:(Tryz.prog.info? 27).map (λi=>(i.zero,i.size,i.bytes))=I (I (A9 #[J U 0,J V 0]),2,16):=AL
theorem Il:(Tryz.prog.info? 158).map (·.size)=I 2:=AL
theorem ints_drop{k:IntKind}{B n bb off:Nat}{zs:List Int}(h:IntsAt k w B (I ⟨bb,off,G⟩) n zs){m:Nat}(hm:m≤n):IntsAt k w B (I ⟨bb,off+m,G⟩) (n -m) (zs.drop m):=by
 have hg: ∀i,(zs.drop m).getD i 0=zs.getD (m+i) 0:=λi=>by
  rw[AS,AS,List.getElem?_drop]
 refine⟨by rw[List.length_drop,h.1],λi hi=>?_,λh0=>?_⟩;·rw[hg];exact h.2.1 _ O
 ·obtain⟨b2,o2,e,hb,hc⟩:=h.2.2 O;injection e with e;injection e with e1 e2;subst e1 e2;exact⟨bb,off+m,rfl,hb,λi hi=>by rw[hg,Nat.add_assoc];exact hc _ (by omega)⟩
structure Pl2(w wr:Aa)(b:List Int)(l:List Ins)(A:Aw)(c size:Nat)(ends:Bool):Prop where
 pn:Pn b l size ends
 own:wr.ownsRow ↑w 27 2 (Z A l.length c) l.length (Eu l)
 b5:Blk wr (↑w+1) 158 #[Z G 0 0,Ap ends]
 b3:Blk wr ↑w 158 #[Z G 0 0,Ap Ac]
 f:Fr Aj w wr
theorem Pl2.fr0{wr w2:Aa}{b:List Int}{l:List Ins}{A:Aw}{c size:Nat}{ends:Bool}(h:Pl2 w wr b l A c size ends)(f:Fr Aj wr w2):Pl2 w w2 b l A c size ends:=
 ⟨h.pn,AR h.own f (λ_ _ e=>e),h.b5.fr f id,h.b3.fr f id,h.f.tr f⟩
theorem plain_any(w:Aa)(B n c bb off:Nat)(b:List Int)(h:IntsAt AB w B (I ⟨bb,off,G⟩) n b)(hB:B≤↑w)(hn:n≤64)(hc:n≤c)(hn0:0<n):At Tryz.prog 115 #[Z (I ⟨bb,off,G⟩) n c] w (PlnPost w b):=by
 obtain⟨i0,hi0,hz0,hz1,hz2⟩:=Cj infoIn;have H:=T h;have hbb:bb<↑w:=by
  obtain⟨b2,o2,e,hb,_⟩:=h.2.2 hn0;injection e with e;injection e with e1 e2;omega
 have b3:Blk ((w.alloc (.cells #[Z G 0 0,Ap Ac] 158)).alloc (.cells #[Z G 0 0,Ap Ac] 158)) ↑w 158 #[Z G 0 0,Ap Ac]:=(AI _ _ _).alloc _;have b5:Blk ((w.alloc (.cells #[Z G 0 0,Ap Ac] 158)).alloc (.cells #[Z G 0 0,Ap Ac] 158)) (↑w+1) 158 #[Z G 0 0,Ap Ac]:=CK _ _ _ AC;have f0:Fr Aj w ((w.alloc (.cells #[Z G 0 0,Ap Ac] 158)).alloc (.cells #[Z G 0 0,Ap Ac] 158)):=((Ao _ w).alloc _).alloc _;have HP0:Hid (Pl2 w ((w.alloc (.cells #[Z G 0 0,Ap Ac] 158)).alloc (.cells #[Z G 0 0,Ap Ac] 158)) b [] G 0 0 Ac):=T ⟨Pn.start b,⟨rfl,Af ⟨rfl,rfl⟩⟩,b5,b3,f0⟩;clear h b3 b5 f0;go_in;go_upto_block 0 with(fail);go_cut [4,6] (λlv sv wx=> ∃(l:List Ins) (A:Aw) (c2 size:Nat) (ends:Bool),l.length≤8∧lv=Z A l.length c2∧sv=J U size∧Hid (Pl2 w wx b l A c2 size ends));case first=>
  go_wp2_with fail;go_loopw [4,6] (λlv sv wr=> ∃(l:List Ins) (A:Aw) (c2 size:Nat) (ends:Bool),l.length≤8∧lv=Z A l.length c2∧sv=J U size∧Hid (Pl2 w wr b l A c2 size ends)) (λlv _ _=>match lv with|Z _ n _=>8 -n|_=>0)
  case atStart=>exact⟨[],G,0,0,Ac,Bj _,rfl,rfl,HP0⟩
  case round=>
   obtain⟨l,A,c2,size,ends,h8,rfl,rfl,hP⟩:=hrel;by_cases hlt:l.length<8
   ·have k1:=hP.out.b5.cell 1;have kl:=hP.out.b5.lt
    cases ends
    ·have hsz:=aA;have hsc:size≤c:=O;have hzd:=T ((ints_drop H.out hsz).fr hP.out.f hB (λ_ _ e=>e)|>.more (Bf hB hP.out.f.size));have hml:n -size≤BQ:=Cc;rcases DG size c with hlc|hlc;rotate_left
     ·have e1:b.drop size=[]:=List.drop_eq_nil_of_le (by rw[H.out.1];omega);have hz2:IntsAt AB wr ↑wr (I ⟨bb,off,G⟩) (n -size) (b.drop size):=⟨hzd.out.1,hzd.out.2.1,λh0=>absurd h0 O⟩;rw[show n -size=0 by omega] at hz2 hml;have Hd:Hid (At Tryz.prog 126 #[Z (I ⟨bb,off,G⟩) 0 0] wr λe w'=>(∃er:Int,(er==0)=Ac∧(er !=0)=Ag∧e=Ax (AF #[A9 #[J U 0,J V 0],J U 0,J U er]))∧Fr Aj wr w'):=T ((Gc.dec_no wr _ _ 0 _ hz2 (by rw[e1];rfl) hml).mono (λe w' h=>by
       obtain⟨er,h1,_,rfl,f⟩:=h;exact⟨⟨er,Dh,Dh,rfl⟩,f⟩))
      obtain rfl:size=c:=O;clear e1 hz2;go_wp2_with ((with_reducible refine Az Hd ?_);rintro e w1 ⟨⟨er,her,her2,rfl⟩,f1⟩;have F1:=T f1;clear f1);exact Sa
     cases hd:Dl (b.drop size) with
     |none=>
      have Hd:Hid (∀c',At Tryz.prog 126 #[Z (I ⟨bb,off+size,G⟩) (n -size) c'] wr λe w'=>(∃er:Int,(er==0)=Ac∧(er !=0)=Ag∧e=Ax (AF #[A9 #[J U 0,J V 0],J U 0,J U er]))∧Fr Aj wr w'):=T (λc'=>(Gc.dec_no wr _ _ c' _ hzd.out hd hml).mono (λe w' h=>by
       obtain⟨er,h1,_,rfl,f⟩:=h;exact⟨⟨er,Dh,Dh,rfl⟩,f⟩))
      clear hd;go_wp2_with ((with_reducible refine(Hd.out _).mono ?_);rintro e w1 ⟨⟨er,her,her2,rfl⟩,f1⟩;have F1:=T f1;clear f1);exact Sa
     |some x=>
      obtain⟨⟨op,nn⟩,k⟩:=x;have hen:=KR hd;have hkn:size+k≤n:=by have:=hen.1;rw[List.length_drop,H.out.1] at this;omega
      have Hd:Hid (∀c',At Tryz.prog 126 #[Z (I ⟨bb,off+size,G⟩) (n -size) c'] wr λe w'=>e=Ax (AF #[A9 #[J U op,J V nn],J U k,J U 0])∧Fr Aj wr w'):=T (λc'=>(Gc.dec_yes wr _ _ c' _ hzd.out ⟨op,nn⟩ k hd hml).mono (λe w' h=>h));obtain⟨pb,hpb⟩:=A8 (BZ op);have Hp:Hid (∀W,At Tryz.prog 138 #[J U op] W λe w'=>e=Ax (.bool pb)∧W=w'):=T (λW=>by have:=Gc.plain_any W op;rw[hpb] at this;exact this);have He:Hid (∀W,At Tryz.prog 132 #[J U op] W λe w'=>e=Ax (Ap (endsB op))∧W=w'):=T (λW=>Gc.ends_any W op);have HD:=T hd;have HPB:=T hpb;clear hd hpb hen
      cases pb
      ·go_wp2_with (first
        |((with_reducible refine(Hd.out _).mono ?_);rintro e w1 ⟨rfl,f1⟩;have F1:=T f1;clear f1)
        |((with_reducible refine(Hp.out _).mono ?_);rintro e w1 ⟨rfl,rfl⟩))
       exact Sa
      ·go_upto_region 7 with(first
        |((with_reducible refine(Hd.out _).mono ?_);rintro e w1 ⟨rfl,f1⟩;have F1:=T f1;clear f1)
        |((with_reducible refine(Hp.out _).mono ?_);rintro e w1 ⟨rfl,rfl⟩))
       have PW:=T (hP.out.fr0 (F1.out.trans ((Ao Aj w1).alloc (.cells #[J U op,J V nn] 27)) (λ_ _ e=>e)));have bx:=AI w1 27 #[J U op,J V nn];have hw1:wr.heap.size≤w1.heap.size:=F1.out.size;generalize w1.alloc (.cells #[J U op,J V nn] 27)=w2 at*;obtain⟨gx,hgx⟩:=A8 w1.heap.size;rw[hgx] at bx hw1⊢;have hrd:Hid (Reads (w2.alloc (.cells #[J U op,J V nn] 27)) (↑w2+1) 2 (I ⟨↑w2,0,G⟩) 1 (Eu [⟨op,nn⟩])):=T (by
        have:=Do (size:=2) (n:=1) (AI w2 27 #[J U op,J V nn]) AC;simpa[Eu,inC] using this)
       have hnx: ¬(Z A l.length c2).ownBlock=I gx:=λe=>by have:=own_lt hP.out.own gx e;omega
       have hn5:=AZ PW.out.own PW.out.b5 Ak;have hn3:=AZ PW.out.own PW.out.b3 Ak;have HO:=T (DU PW.out.own (.cells #[J U op,J V nn] 27));have BX:=T bx;have x0:=bx.cell 0;have x1:=bx.cell 1;have xl:=bx.lt;have hww:=PW.out.f.size;clear bx hgx k1 kl;go_wp2_with (first
        |(at_builtin;refine CU _ rfl (.tmp 34) (.tmp 36) _ rfl w.heap.size 27 i0 _ 2 16 Tryz.underlying62 hi0 hz0 hz1 hz2 rfl O (Z A l.length c2) l.length (Eu l) rfl HO.out (w2.heap.size+1) (I ⟨w2.heap.size,0,G⟩) 1 1 (Eu [⟨op,nn⟩]) rfl hrd.out (inCs_one _) Cc O AA ?_;intro v1 w3 hown1 hg1 hat1;obtain⟨A3,c3,rfl⟩:=Ca.slice_form hown1;have f3:Fr (λq=>(Z A l.length c2).ownBlock=I q) w2 w3:=((Ao _ w2).alloc _).grown hg1 (λq hq=> .inl hq);have b3x:=BX.out.fr f3 hnx;have z0:=b3x.cell 0;have zl:=b3x.lt;have b53:=PW.out.b5.fr f3 hn5;have z51:=b53.cell 1;have y51:=b53.frozen 1;have z5l:=b53.lt;have HX:=T (Ay hown1 (Ay f3 b53));clear hown1 hg1 hat1 f3 b3x b53)
        |((with_reducible refine(He.out _).mono ?_);rintro e w4 ⟨rfl,rfl⟩))
       go_roundw;case rel=>
        obtain⟨o3,f3,b53⟩:=HX.out;have fs:Fr (λq=>q=w.heap.size+1) w3 (w3.setCell ⟨↑w+1,1,G⟩ (Ap (endsB op))):=(Ao (λq=>q=w.heap.size+1) w3).setCell (p:=⟨↑w+1,1,G⟩) (Af rfl) _;have hle:(l++[(⟨op,nn⟩:Ins)]).length=l.length+1:=AC;refine⟨l++[⟨op,nn⟩],A3,c3,size+k,endsB op,O,by rw[hle],Bn,T ⟨Pn.step hP.out.pn HD.out HPB.out (QI H.out), ?_,b53.set_ 1 _, ?_, ?_⟩⟩;·rw[hle,inCs_app];exact AR o3 fs (λq hq e=>by have e:q=w.heap.size+1:=e;rw[e] at hq;exact AZ o3 b53 (by decide) hq)
        ·exact(PW.out.b3.fr f3 hn3).fr fs aB
        ·exact(PW.out.f.trans f3 (λq hq e=>by have:=Cn PW.out.own q e;omega)).trans fs (λq hq e=>aC)
       case measure=>simp;omega
    ·go_wp2
     go_meet;exact⟨l,A,c2,size,Ag,h8,rfl,rfl,hP⟩
   ·have g1:decide ((l.length:Int)<8)=Ac:=AA
    go_wp2
    go_meet;exact⟨l,A,c2,size,ends,h8,rfl,rfl,hP⟩
 case rest=>
  obtain⟨l,A,c2,size,ends,h8,rfl,rfl,hP⟩:=hcut;have hsz:=aA;have hsc:size≤c:=O;have hz:=(H.out.take hsz).fr hP.out.f hB (λ_ _ e=>e);have Hc:=T (λc'=>mT wc ⟨bb,off,G⟩ size c' B _ (Ly hz) (Bf hB hP.out.f.size) GW O);have k0:=hP.out.b5.cell 0;have y0:=hP.out.b5.frozen 0;have kl:=hP.out.b5.lt;clear hz;go_upto_region 11 with((with_reducible refine(Hc.out _).mono ?_);rintro e w1 ⟨A1,c1,rfl,o1,f1⟩;have b5:=hP.out.b5.fr f1 id;have k0:=b5.cell 0;have y0:=b5.frozen 0;have kl:=b5.lt;have HO:=T (Ay o1 f1);clear o1 f1 b5);obtain⟨o1,f1⟩:=HO.out;have b53:=hP.out.b5.fr f1 id;have b33:=hP.out.b3.fr f1 id;have fs:Fr (λq=>q=w.heap.size+1) w1 (w1.setCell ⟨↑w+1,0,G⟩ (Z A1 size c1)):=(Ao (λq=>q=w.heap.size+1) w1).setCell (p:=⟨↑w+1,0,G⟩) (.inl rfl) _;have b54:Blk (w1.setCell ⟨↑w+1,0,G⟩ (Z A1 size c1)) (↑w+1) 158 #[Z A1 size c1,Ap ends]:=b53.set_ 0 _;have b34:=b33.fr fs aB;have ol:=AR (AR hP.out.own f1 (λ_ _ e=>e)) fs (λq hq e=>by have e:q=w.heap.size+1:=e;rw[e] at hq;exact AZ (AR hP.out.own f1 (λ_ _ e=>e)) b53 (by decide) hq);have ob:=AR o1 fs (λq hq e=>by have e:q=w.heap.size+1:=e;rw[e] at hq;exact AZ o1 b53 (by decide) hq);have ft:Fr Aj w (w1.setCell ⟨↑w+1,0,G⟩ (Z A1 size c1)):=(hP.out.f.tr f1).trans fs (λq hq e=>aC);have hwc:w.heap.size≤wc.heap.size:=hP.out.f.size;generalize w1.setCell ⟨w.heap.size+1,0,G⟩ (Z A1 size c1)=w2 at*;have HB3:=T b34;have HR:=T (Ay ol (Ay ob ft));have m0:=b54.cell 0;have m1:=b54.cell 1;have ml:=b54.lt;have n0:=b34.cell 0;have n1:=b34.cell 1;have j0:=b34.frozen 0;have j1:=b34.frozen 1;have nl:=b34.lt;clear o1 f1 b53 b33 fs b54 b34 ol ob ft k0 y0 kl HO
  go_region
  all_goals go_wp2_with fail
  obtain⟨ol,ob,ft⟩:=HR.out;have hbl:(b.take size).length=size:=by rw[Iv,H.out.1];omega
  have fe:Fr (λq=>q=w.heap.size) w2 ((w2.setCell ⟨↑w,0,G⟩ (Z A1 size c1)).setCell ⟨↑w,1,G⟩ (.bool ends)).drew:=(((Ao (λq=>q=w.heap.size) w2).setCell (p:=⟨↑w,0,G⟩) (.inl rfl) _).setCell (p:=⟨↑w,1,G⟩) (.inl rfl) _).drew;have b3e:Blk ((w2.setCell ⟨↑w,0,G⟩ (Z A1 size c1)).setCell ⟨↑w,1,G⟩ (.bool ends)).drew ↑w 158 #[Z A1 size c1,Ap ends]:=((HB3.out.set_ 0 _).set_ 1 _).drew;refine Bt (Mu.results_tc rfl _ _ w.heap.size 158 _ _ _ rfl rfl b3e Tryz.underlying158 rfl Il) rfl ?_;refine⟨l,size,ends,A,c2,A1,c1,hP.out.pn,h8,by rw[hbl];rfl, ?_, ?_,ft.trans fe (λq hq e=>MJ)⟩;·exact AR ol fe (λq hq e=>by have e:q=w.heap.size:=e;rw[e] at hq;exact AZ ol HB3.out (by decide) hq)
  ·rw[hbl];exact(Sw.own_low (AR ob fe (λq hq e=>by have e:q=w.heap.size:=e;rw[e] at hq;exact AZ ob HB3.out (by decide) hq)) hwc)
end Eg
namespace Mz
open Go.Maps
open Go.ChangeMaps (setBlock)
section
variable {κ:Type} [DecidableEq κ] {P:CF} {k:AN} {mk:κ→As} {w w':Aa} {g:Nat} {L:List (κ×As)} {bs:List Nat} {clock:Nat}
theorem MapL.drop2(h:MapL P k mk w g L bs clock)(K:Keyed P k)(inj: ∀a b,mk a=mk b→a=b){t e:AN}(ht:P.underlying t=I (.map k e)){x:κ}{l:Lit}(hx:keyOf P k (mk x)=I l):∃w' bs',(∀ty,(Jq #[t,k] ty #[.map (I g),mk x]).run P w=.ok (AF #[]) w')∧MapL P k mk w' g (del L x) bs' clock∧Fr (· =g) w w'∧ ∀y∈bs',y∈bs:=by
 rcases h.find K inj w hx with⟨h1,h2⟩|⟨j,hj,h1,h3,h2⟩;·obtain⟨s1,s2⟩:=Jo ⟨_,_,h.b⟩ (.map (Bi mk L bs).toArray clock);rw[del_no h1];refine⟨setBlock w g (.map (Bi mk L bs).toArray clock),bs,λty=>?_,⟨s1,h.len,h.nd,h.lt,h.keys,h.kd⟩,s2,λy hy=>hy⟩;exact WA
 ·have hd:=WB;rw[hd];obtain⟨s1,s2⟩:=Jo ⟨_,_,h.b⟩ (.map (Bi mk (L.eraseIdx j) (bs.eraseIdx j)).toArray clock);refine⟨setBlock w g (.map (Bi mk (L.eraseIdx j) (bs.eraseIdx j)).toArray clock),bs.eraseIdx j,λty=>?_,⟨s1, ?_,h.nd.sublist (List.eraseIdx_sublist _ _),λy hy=>h.lt y (List.mem_of_mem_eraseIdx hy),λp hp=>h.keys p (List.mem_of_mem_eraseIdx hp), ?_⟩,s2,λy hy=>List.mem_of_mem_eraseIdx hy⟩;·exact WC
  ·exact WE
  ·exact WG
end
end Mz
namespace Eg
open Mz Go.Maps Ca
structure Rr where
 b:List Int
 A:Aw
 c:Nat
 e:Bool
structure Eo where
 gc:Nat
 gm:Nat
 s:Cs
 L:List (Ky×Rr)
 la:Ky
 fa:Int
 sl:Int
 be:Bool
abbrev rval(r:Rr):As:=A9 #[Z r.A r.b.length r.c,Ap r.e]
def rent(p:Ky×Rr):Ky×As:=(p.1,rval p.2)
def RunRow(w:Aa)(r:Rr):Prop:=w.ownsRow 0 5 1 (Z r.A r.b.length r.c) r.b.length (r.b.map (J AB))
def KeptOk(L:List (Ky×Rr))(b:Bk):Prop:= ∃r l code,(b.k,r)∈L∧Gm.Trl b.pc l r.b code∧b.code=Hc.encL code∧b.ct=(l.length:Int)∧r.e=Gs.endsB (l.getLastD ⟨0,0⟩).op∧(∀z∈r.b,0≤z∧z<256)∧r.b.length≤64
def Eo.wr(e:Eo)(ge k:Nat):Prop:=k=ge∨e.s.wr e.gc k∨k=e.gm
def Eo.own(e:Eo)(ge k:Nat):Prop:=k=ge∨e.s.own e.gc k∨k=e.gm∨ ∃p∈e.L,ab p.2.A=I k
abbrev enC(e:Eo):AO:=#[↑e.gc,.map (I e.gm),J V e.la.1,J V e.la.2,J U e.fa,J U e.sl,Ap e.be]
structure En(w:Aa)(ge:Nat)(e:Eo):Prop where
 b:Blk w ge 124 (enC e)
 c:Cch w e.gc e.s
 m: ∃bs clock,MapL Tryz.prog 122 kyv w e.gm (e.L.map rent) bs clock
 r: ∀p∈e.L,RunRow w p.2
 ne:e.gm≠e.s.gm
 ok: ∀b∈e.s.bl,KeptOk e.L b
 ko: ∀p∈e.L,p.1.Ok
 la:e.la.Ok
section
variable {w w':Aa} {ge:Nat} {e:Eo} {S:AE}
theorem run_ab{A:Aw}{n c k:Nat}(h:(Z A n c).ownBlock=I k):ab A=I k:=by
 cases A with
 |none=>simp[Cb] at h
 |some a=>simpa[Cb,ab] using h
theorem RunRow.fr{r:Rr}(h:RunRow w r)(f:Fr S w w')(hs: ∀k,ab r.A=I k→ ¬S k):RunRow w' r:=AR h f (λk hk=>hs k (run_ab hk))
theorem En.fr(h:En w ge e)(f:Fr S w w')(hs: ∀k,e.own ge k→ ¬S k):En w' ge e:=by
 obtain⟨bs,clock,hm⟩:=h.m;exact⟨h.b.fr f (hs _ (Af rfl)),h.c.fr f (λk hk=>hs k (Ah (Af hk))),⟨bs,clock,hm.fr f (hs _ (Ah (Ah (Af rfl))))⟩,λp hp=>(h.r p hp).fr f (λk hk=>hs k (Ah (Ah (Ah ⟨p,hp,hk⟩)))),h.ne,h.ok,h.ko,h.la⟩
theorem En.fr0(h:En w ge e)(f:Fr Aj w w'):En w' ge e:=h.fr f (λ_ _ x=>x)
theorem RunRow.srt{r:Rr}(h:RunRow w r){q:Nat}(e:ab r.A=I q):Ca.srt w q=I (I 5):=by
 unfold RunRow at h;exact aN
theorem En.kind(h:En w ge e){k:Nat}(hk:e.wr ge k):Ca.srt w k=I (I 124)∨Ca.srt w k=I (I 152)∨Ca.srt w k=I G∨Ca.srt w k=I (I 149)∨Ca.srt w k=I (I 122):=by
 obtain⟨t1,t2,t3,t4,t5⟩:=h.c.srt;obtain⟨bs,clock,hm⟩:=h.m;rcases hk with rfl|(rfl|hk|rfl|⟨p,hp,hk⟩)|rfl;·exact Af (srt_blk h.b)
 ·exact Ah (Af t1)
 ·exact Ah (Ah (Ah (Af (t3 k hk))))
 ·exact Ah (Ah (Af t2))
 ·exact Ah (Ah (Ah (Ah (t5 p hp k hk))))
 ·exact Ah (Ah (Af (IW hm.b)))
theorem En.apart(h:En w ge e){k:Nat}{t:AN}(hk:e.wr ge k)(ht:Ca.srt w k=I (I t))(h1:t≠124)(h2:t≠152)(h3:t≠149)(h4:t≠122):False:=by
 rcases h.kind hk with q|q|q|q|q
 all_goals rw[ht] at q;simp at q;try(first|exact h1 q|exact h2 q|exact h3 q|exact h4 q)
theorem En.ges(h:En w ge e):ge≠e.gc∧ge≠e.gm∧e.gc≠e.gm∧ ¬e.s.own e.gc ge∧ ¬e.s.own e.gc e.gm:=by
 obtain⟨t1,t2,t3,t4,t5⟩:=h.c.srt;obtain⟨bs,clock,hm⟩:=h.m;have a1:=srt_blk h.b;have a2:=IW hm.b;refine⟨λq=>by rw[q,t1] at a1;simp at a1,λq=>by rw[q,a2] at a1;simp at a1,λq=>by rw[q,a2] at t1;simp at t1,λq=>?_,λq=>?_⟩
 ·rcases q with(q|q|q|⟨p,hp,q⟩)|⟨b,hb,q⟩;·rw[q,t1] at a1;simp at a1
  ·rw[t3 _ q] at a1;simp at a1
  ·rw[q,t2] at a1;simp at a1
  ·rw[t5 p hp _ q] at a1;simp at a1
  ·rw[t4 b hb _ q] at a1;simp at a1
 ·rcases q with(q|q|q|⟨p,hp,q⟩)|⟨b,hb,q⟩;·rw[q,t1] at a2;simp at a2
  ·rw[t3 _ q] at a2;simp at a2
  ·exact h.ne q
  ·rw[t5 p hp _ q] at a2;simp at a2
  ·rw[t4 b hb _ q] at a2;simp at a2
end
theorem findB(w:Aa)(g:Nat)(s:Cs)(h:Cch w g s)(k:Ky):At Tryz.prog 75 #[↑g,A9 #[J V k.1,J V k.2]] w λe w'=>(∃a b A n c d,e=Ax (AF #[A9 #[J V a,J V b,Z A n c,J U d],Ap (decide (0≤idx k s.bl))]))∧Fr Aj w w':=by
 by_cases hk:idx k s.bl<0
 ·have e:decide (0≤idx k s.bl)=Ac:=AA;rw[e];exact(Xg w g s h k hk).mono (λe w' hh=>by
   obtain⟨rfl,f⟩:=hh;exact⟨⟨_,_,_,_,_,_,rfl⟩,f⟩)
 ·have e:decide (0≤idx k s.bl)=Ag:=AA;rw[e];exact(Xj w g s h k (idx k s.bl).toNat O).mono (λe w' hh=>by
   obtain⟨A,c,rfl,_,f⟩:=hh;exact⟨⟨_,_,_,_,_,_,rfl⟩,f⟩)
theorem keep_any(w:Aa)(ge gb:Nat)(g:Nat)(s:Cs)(h:Cch w g s)(h1:w.cell? ⟨gb,0,G⟩=I ↑ge)(h2:w.cell? ⟨ge,0,G⟩=I ↑g)(l1:gb<↑w)(l2:ge<↑w)(k:Ky)(r:Rr):At Tryz.prog 74 #[A9 #[J V k.1,J V k.2],rval r,↑gb] w λe w'=>e=Ax (Ap (!decide (0≤idx k s.bl)))∧Fr Aj w w':=by
 have bk:Blk ((w.alloc (.cells #[J V k.1,J V k.2] 122)).alloc (.cells #[Z r.A r.b.length r.c,Ap r.e] 158)) ↑w 122 #[J V k.1,J V k.2]:=(AI _ _ _).alloc _;have f0:Fr Aj w ((w.alloc (.cells #[J V k.1,J V k.2] 122)).alloc (.cells #[Z r.A r.b.length r.c,Ap r.e] 158)):=((Ao _ w).alloc _).alloc _;go_in;go_upto_region 1 with(fail);have HFi:=T (λW (f:Fr Aj w W)=>findB W g s (h.fr0 f) k);have F0:=T f0;have s0:=f0.cell h1 l1 id;have s1:=f0.cell h2 l2 id;have s2:=bk.cell 0;have s3:=bk.cell 1;have k0:=Bg l1 f0.size;have k1:=Bg l2 f0.size;have k2:=bk.lt;generalize(w.alloc (.cells #[J V k.1,J V k.2] 122)).alloc (.cells #[Z r.A r.b.length r.c,Ap r.e] 158)=W1 at*;clear f0 h1 h2 l1 l2 bk h;refine C7 (S:=Fr Aj W1) AL ((Ao Aj W1).drew) (λhH=>?_);refine Av 0 rfl hH GM ?_;refine Av 1 rfl hH GM ?_;refine Av 2 rfl hH GM ?_
 try simp only[AG]
 refine Av 3 rfl hH GM ?_;refine Av 4 rfl hH GM ?_
 try simp only[AG]
 refine Bb [5,9] ?_;refine AT (λK hK=>?_) ?_
 ·go_simp;go_wp2_with ((with_reducible refine(HFi.out _ (F0.out.tr hH)).mono ?_);rintro e w2 ⟨⟨a,b,A,n,c,d,rfl⟩,f2⟩;have hf:=hH.tr f2;have hz:=hf.size;try(have bz:=((AI W1 149 #[J V 0,J V 0,Z G 0 0,J U 0]).drew).fr f2 id;have z0:=bz.cell 0;have z1:=bz.cell 1;have z2:=bz.cell 2;have z3:=bz.cell 3;have y0:=bz.frozen 0;have y1:=bz.frozen 1;have y2:=bz.frozen 2;have y3:=bz.frozen 3;have zl:=bz.lt));refine hK.out _ _ (hf) λhH=>?_;clear hK K;refine Av 6 rfl hH GM ?_;refine Av 7 rfl hH GM ?_;refine Av 8 rfl hH GM ?_
  try simp only[AG]
  refine Bb [9] ?_;refine AT (λK hK=>?_) ?_;·go_simp;refine hK.out _ _ (hH.alloc _) λhH=>?_;clear hK K;exact bQ
  exact Bc
 refine AT (λK hK=>?_) ?_
 ·go_simp;refine hK.out _ _ (hH.alloc _) λhH=>?_;clear hK K;refine Bb [5] ?_;refine AT (λK hK=>?_) ?_
  ·go_simp;go_wp2_with ((with_reducible refine(HFi.out _ (F0.out.tr hH)).mono ?_);rintro e w2 ⟨⟨a,b,A,n,c,d,rfl⟩,f2⟩;have hf:=hH.tr f2;have hz:=hf.size;try(have bz:=((AI W1 149 #[J V 0,J V 0,Z G 0 0,J U 0]).drew).fr f2 id;have z0:=bz.cell 0;have z1:=bz.cell 1;have z2:=bz.cell 2;have z3:=bz.cell 3;have y0:=bz.frozen 0;have y1:=bz.frozen 1;have y2:=bz.frozen 2;have y3:=bz.frozen 3;have zl:=bz.lt));refine hK.out _ _ (hf) λhH=>?_;clear hK K;refine Av 6 rfl hH GM ?_;refine Av 7 rfl hH GM ?_;refine Av 8 rfl hH GM ?_
   try simp only[AG]
   exact bQ
  exact Bc
 exact Bc
end Eg
namespace Eg
open Mz Go.Maps Ca
theorem pB{P:CF}{ops:Array BM}{rest:List BM}{a:Act}{w:Aa}{Q:Exit→Act→Aa→Prop}{dst:Option Tmp}{t2:AN}{pos:String}{af:Array Edge}(m k:De)(t kt:AN){w':Aa}(hrun: ∀ty,(Jq #[t,kt] ty #[a.eval m,a.eval k]).run P w=.ok (AF #[]) w')(hK:Cy P ops Q rest (a.put dst (AF #[])) w'):Cy P ops Q (⟨dst,.call {callee:=.builtin .delete,args:=#[m,k],argTypes:=#[t,kt]},t2,pos,af,G⟩::rest) a w:=by
 have hw:Dm (⟨dst,.call {callee:=.builtin .delete,args:=#[m,k],argTypes:=#[t,kt]},t2,pos,af,G⟩:BM) (yielded ops a.tmps)=Ag:=by simp[Dm]
 unfold Cy;rw[An hw];left;have:=aK (ops:=ops) (o:=(⟨dst,.call {callee:=.builtin .delete,args:=#[m,k],argTypes:=#[t,kt]},t2,pos,af,G⟩:BM)) (Q:=Q) (E:=False) rfl m k t kt rfl hrun hK;rwa[An hw] at this
def TR(w:Aa)(e:Eo)(bs:List Nat)(clock gi:Nat)(seen:Array Nat)(wr:Aa):Prop:=
 ∃(L':List (Ky×Rr)) (bs':List Nat),MapL Tryz.prog 122 kyv wr e.gm (L'.map rent) bs' clock∧wr.heap[gi]?=I (.mapIter (I e.gm) clock seen clock)∧(∀p∈L',p∈e.L)∧(∀p∈e.L,0≤idx p.1 e.s.bl→p∈L')∧(∀x∈bs',x∈bs)∧Fr (· =e.gm) w wr
def TidyM(w:Aa)(e:Eo)(w':Aa):Prop:= ∃(L':List (Ky×Rr)) (bs:List Nat) (clock:Nat),MapL Tryz.prog 122 kyv w' e.gm (L'.map rent) bs clock∧(∀p∈L',p∈e.L)∧(∀p∈e.L,0≤idx p.1 e.s.bl→p∈L')∧Fr (· =e.gm) w w'
theorem dfun_any(w:Aa)(ge gb:Nat)(e:Eo)(h:En w ge e)(hb:Blk w gb 52 #[↑ge]):At Tryz.prog 73 #[.map (I e.gm),.func (.func 74) #[] #[↑gb]] w λed w'=>ed=Ax (AF #[])∧TidyM w e w':=by
 obtain⟨bs,clock,hm⟩:=h.m;have hrg:=hm.range Tryz.underlying120;have hgl:e.gm<↑w:=hm.bound;have HM:=T hm;have HE:=T h;have HB:=T hb;have h0:Hid (TR w e bs clock ↑w #[] (w.alloc (.mapIter (I e.gm) clock #[] clock))):=T ⟨e.L,bs,hm.fr ((Ao Aj w).alloc _) id,heap_alloc_new w _,λp hp=>hp,λp hp _=>hp,λx hx=>hx,(Ao _ w).alloc _⟩;clear hm h hb;go_in;go_wp2_with fail;go_loopw [4] (λ_ wr=> ∃seen:Array Nat,Hid (TR w e bs clock ↑w seen wr)) (λ_ wr=>GL bs ↑w wr)
 case atStart=>exact⟨#[],h0⟩
 case round=>
  obtain⟨seen,hT⟩:=hrel;obtain⟨L',bs',hm,hi,h1,h2,h3,hf⟩:=hT.out;rcases hm.next hi with⟨hdone,hnx⟩|⟨i,hiL,hbL,hns,w4,hnx,hi4,f4,hen⟩
  ·have HR:Hid (TidyM w e wr):=T ⟨L',bs',clock,hm,h1,h2,hf⟩;clear hm hi h1 h2 h3 hf hdone hT h0 HM
   go_wp2
   go_end0;exact⟨rfl,HR.out⟩
  ·have hiL2:i<L'.length:=by simpa using hiL
   have hcur:(L'.map rent)[i]=rent L'[i]:=AC;rw[hcur] at hnx hen;have hmem:L'[i]∈L':=CE hiL2;obtain⟨p,hp⟩:=A8 (L'[i]);rw[hp] at hnx hen hmem;obtain⟨x,r⟩:=p;replace hnx: ∀ty,(Instr.next (Bm (I ⟨↑w,0,G⟩)) Ac ty).run Tryz.prog wr=.ok (AF #[Ap Ag,A9 #[J V x.1,J V x.2],rval r]) w4:=hnx;replace hen:(Instr.entry (Bm (I ⟨↑w,0,G⟩))).run Tryz.prog w4=.ok (AF #[A9 #[J V x.1,J V x.2],rval r]) w4:=hen;have hx:x.Ok:=HE.out.ko _ (h1 _ hmem);obtain⟨lx,hlx⟩:=JT x hx;have hmb:bs'[i]∈bs:=h3 _ (CE hbL);have hgm2:e.gm≠↑w:=O;have hsz4:w.heap.size≤w4.heap.size:=Bf hf.size f4.size;have hi5: ∀W,Fr (λq=>q=e.gm) w4 W→W.heap[w.heap.size]?=I (.mapIter (I e.gm) clock (seen.push bs'[i]) clock):=λW fW=>(fW.block _ (IK.1 hi4).1 (by show ¬↑w=e.gm;omega)).trans hi4;have hlt: ∀W,Fr (λq=>q=e.gm) w4 W→GL bs ↑w W<GL bs ↑w wr:=λW fW=>by
    rw[O8 (hi5 W fW),O8 hi];exact aG hmb hns
   have hf4:Fr (λq=>q=e.gm) w w4:=hf.trans f4 (λq hq e=>MJ);have hm4:=hm.fr f4 (by show ¬e.gm=↑w;exact hgm2);obtain⟨q1,q2,q3,q4,q5⟩:=HE.out.ges;have hc4:=HE.out.c.fr hf4 (λk hk e2=>q5 bR);have hgb: ¬gb=e.gm:=λq=>by have a1:=srt_blk HB.out;rw[q,IW HM.out.b] at a1;simp at a1
   have hb4:=HB.out.fr hf4 hgb;have he4:=HE.out.b.fr hf4 q2;have bk5:Blk ((w4.alloc (.cells #[J V x.1,J V x.2] 122)).alloc (.cells #[Z r.A r.b.length r.c,Ap r.e] 158)) ↑w4 122 #[J V x.1,J V x.2]:=(AI _ _ _).alloc _;have br5:Blk ((w4.alloc (.cells #[J V x.1,J V x.2] 122)).alloc (.cells #[Z r.A r.b.length r.c,Ap r.e] 158)) (↑w4+1) 158 #[Z r.A r.b.length r.c,Ap r.e]:=CK _ _ _ AC;have f5:Fr Aj w4 ((w4.alloc (.cells #[J V x.1,J V x.2] 122)).alloc (.cells #[Z r.A r.b.length r.c,Ap r.e] 158)):=((Ao _ w4).alloc _).alloc _;obtain⟨kb,hkb⟩:=A8 (decide (0≤idx x e.s.bl));have Hk:=T (keep_any _ ge gb e.gc e.s (hc4.fr0 f5) ((hb4.fr f5 id).cell 0) ((he4.fr f5 id).cell 0) (hb4.fr f5 id).lt (he4.fr f5 id).lt x r);rw[hkb] at Hk;have HKB:=T hkb;have HM4:=T hm4;have HF4:=T hf4;have HI5:=T hi5;have HLT:=T hlt;have H123:=T (Ay h1 (Ay h2 h3));have HX:=T hlx;obtain⟨sn,hsn⟩:=A8 (bs'[i]);rw[hsn] at HI5;clear hsn hkb hm4 hf4 hi5 hlt h1 h2 h3 hlx hmb hm hi hf hc4 hb4 he4 q1 q2 q3 q4 q5 hgb hi4 f4 hmem hp hns hiL hiL2 hcur;go_upto_region 3 with(fail);generalize(w4.alloc (.cells #[J V x.1,J V x.2] 122)).alloc (.cells #[Z r.A r.b.length r.c,Ap r.e] 158)=w5 at*;have F5:=T f5;have BK5:=T bk5;have k0:=bk5.cell 0;have k1:=bk5.cell 1;have kl:=bk5.lt;have r0:=br5.cell 0;have r1:=br5.cell 1;have rl:=br5.lt;clear f5 bk5 br5 hnx hen
   cases kb
   ·go_upto_region 4 with((with_reducible refine Az Hk ?_);rintro e6 w6 ⟨rfl,f6⟩;have b6:=BK5.out.fr f6 id;have k0:=b6.cell 0;have k1:=b6.cell 1;have kl:=b6.lt;have F6:=T f6;clear b6 f6);have f46:=bS;have hm6:=HM4.out.fr (F5.out.trans F6.out (λ_ _ e=>e)) id;obtain⟨w7,bs7,hdel,hm7,f7,hsub⟩:=hm6.drop2 IN IM Tryz.underlying120 HX.out;replace hdel: ∀ty,(Jq #[120,122] ty #[.map (I e.gm),A9 #[J V x.1,J V x.2]]).run Tryz.prog w6=.ok (AF #[]) w7:=hdel;have hdl:Mz.del (L'.map rent) x=(L'.filter (λp=> !decide (p.1=x))).map rent:=by
     unfold Mz.del;rw[List.filter_map];rfl
    rw[hdl] at hm7;have HT7:Hid (TR w e bs clock ↑w (seen.push sn) w7∧GL bs ↑w w7<GL bs ↑w wr):=T ⟨⟨_,bs7,hm7,HI5.out w7 (f46.tr f7),λp hp=>H123.out.1 p (DF.1 hp).1,λp hp hk=>DF.2 ⟨H123.out.2.1 p hp hk,by
     have: ¬p.1=x:=λq=>by
      have h9:=HKB.out;rw[←q] at h9;simp at h9;omega
     simpa using this⟩,λy hy=>H123.out.2.2 y (hsub y hy),HF4.out.tr (f46.tr f7)⟩,HLT.out w7 (f46.tr f7)⟩
    clear hm6 hm7 hdl f7 hsub f46;go_wp2_with (refine pB (.tmp 17) (.tmp 18) 120 122 hdel ?_);go_roundw
    case rel=>exact⟨_,_,_,_,_,_,_,_,_,_,_,_,_,⟨_,T HT7.out.1⟩,rfl⟩
    case measure=>exact HT7.out.2
   ·go_wp2_with ((with_reducible refine Az Hk ?_);rintro e6 w6 ⟨rfl,f6⟩;have F6:=T f6;clear f6);have f46:=bS;go_roundw
    case rel=>exact⟨seen.push sn,T ⟨L',bs',HM4.out.fr (F5.out.trans F6.out (λ_ _ e=>e)) id,HI5.out w6 f46,H123.out.1,H123.out.2.1,H123.out.2.2,HF4.out.tr f46⟩⟩
    case measure=>exact HLT.out w6 f46
theorem idx_ge{b:Bk}{l:List Bk}(hb:b∈l):0≤idx b.k l:=by
 rcases Int.lt_or_le (idx b.k l) 0 with h|h;·exact absurd (List.mem_map_of_mem hb) (O9 b.k l h)
 ·exact h
def Sl(w:Aa)(ge:Nat)(e:Eo)(ed:AY)(w':Aa):Prop:=ed=Ax (AF #[])∧ ∃L',En w' ge {e with L:=L'}∧(∀p∈L',p∈e.L)∧Fr (λk=>k=e.gm) w w'
theorem tidy_en{w w0 w':Aa}{ge:Nat}{e:Eo}(h:En w ge e)(f0:Fr Aj w w0)(ht:TidyM w0 e w'): ∃L',En w' ge {e with L:=L'}∧(∀p∈L',p∈e.L)∧Fr (λk=>k=e.gm) w w':=by
 obtain⟨L',bs,clock,hm,h1,h2,f⟩:=ht;have f':Fr (λk=>k=e.gm) w w':=(f0.mono (λ_ _ e=>e.elim)).tr f;obtain⟨q1,q2,q3,q4,q5⟩:=h.ges;have hgm: ∀p∈e.L,ab p.2.A≠I e.gm:=λp hp q=>by
  obtain⟨bs,clock,hm⟩:=h.m;have a1:=(h.r p hp).srt q;rw[IW hm.b] at a1;simp at a1
 refine⟨L',⟨h.b.fr f' q2,h.c.fr f' (λk hk e2=>q5 bR),⟨bs,clock,hm⟩,λp hp=>(h.r p (h1 p hp)).fr f' (λk hk e2=>hgm p (h1 p hp) (by rw[hk,show k=e.gm from e2])),h.ne,λb hb=>?_,λp hp=>h.ko p (h1 p hp),h.la⟩,h1,f'⟩;obtain⟨r,l,code,a1,a2⟩:=h.ok b hb;exact⟨r,l,code,h2 _ a1 (idx_ge hb),a2⟩
theorem bT(w:Aa)(ge:Nat)(e:Eo)(h:En w ge e):At Tryz.prog 54 #[↑ge] w (Sl w ge e):=by
 have hb:=AI w 52 #[↑ge];have f0:Fr Aj w (w.alloc (.cells #[↑ge] 52)):=(Ao _ w).alloc _;have Hd:=T (dfun_any _ ge ↑w e (h.fr0 f0) hb);have he:=(h.fr0 f0).b;have c1:=he.cell 1;have cl:=he.lt;have H:=T h;have F0:=T f0;have hmf:=RI;clear h f0 he hb;go_in;go_wp2_with ((with_reducible refine Az Hd ?_);rintro ed w1 ⟨rfl,ht⟩;have HT:=T ht;clear ht);go_end0;exact⟨rfl,tidy_en H.out F0.out HT.out⟩
end Eg
namespace Eg
open Mz Go.Maps Ca
variable{w:Aa}{k:Nat}
theorem Jz{x:Option AN}(h:Ca.srt w k=I x):k<↑w:=by
 unfold Ca.srt at h
 cases hh:w.heap[k]? with
 |none=>rw[hh] at h;cases h
 |some o=>exact(IK.1 hh).1
variable{w':Aa}
theorem srt_eq(h:w'.heap[k]?=w.heap[k]?):Ca.srt w' k=Ca.srt w k:=by unfold Ca.srt;rw[h]
def Oth(t:AN):Prop:=t≠124∧t≠152∧t≠149∧t≠122
variable{e:Eo}{ge:Nat}
theorem wr_own(h:e.wr ge k):e.own ge k:=by
 rcases h with h|h|h;·exact Af h
 ·exact Ah (Af (Af h))
 ·exact Ah (Ah (Af h))
theorem cch_lt{g:Nat}{s:Cs}(h:Cch w g s): ∀k,s.own g k→k<w.heap.size:=by
 obtain⟨t1,t2,t3,t4,t5⟩:=h.srt;rintro k ((rfl|q|rfl|⟨p,hp,q⟩)|⟨b,hb,q⟩);·exact Jz t1
 ·exact Jz (t3 k q)
 ·exact Jz t2
 ·exact Jz (t5 p hp k q)
 ·exact Jz (t4 b hb k q)
theorem En.own_lt(h:En w ge e): ∀k,e.own ge k→k<w.heap.size:=by
 obtain⟨bs,clock,hm⟩:=h.m;rintro k (rfl|hk|rfl|⟨p,hp,hk⟩);·exact h.b.lt
 ·exact cch_lt h.c k hk
 ·exact hm.bound
 ·exact Jz ((h.r p hp).srt hk)
structure Elk(w w':Aa)(ge:Nat)(e e':Eo)(d:Nat):Prop where
 en:En w' ge e'
 gc:e'.gc=e.gc
 fl:e'.s.fl≤e.s.fl+d
 own: ∀k,e'.own ge k→e.own ge k∨w.heap.size≤k
 f:Fr (e.own ge) w w'
 kp: ∀k t,Ca.srt w k=I (I t)→Oth t→w'.heap[k]?=w.heap[k]?
theorem En.kp(h:En w ge e)(f:Fr (e.wr ge) w w'): ∀k t,Ca.srt w k=I (I t)→Oth t→w'.heap[k]?=w.heap[k]?:=
 λk t hk ho=>f.block k (Jz hk) (λq=>h.apart q hk ho.1 ho.2.1 ho.2.2.1 ho.2.2.2)
variable{e':Eo}{d:Nat}
theorem Elk.of(h:En w ge e)(he:En w' ge e')(hgc:e'.gc=e.gc)(hfl:e'.s.fl≤e.s.fl+d)(ho: ∀k,e'.own ge k→e.own ge k∨w.heap.size≤k)(f:Fr (e.wr ge) w w'):Elk w w' ge e e' d:=
 ⟨he,hgc,hfl,ho,f.mono (λ_ _ q=>wr_own q),h.kp f⟩
theorem Elk.fr0(h:En w ge e)(f:Fr Aj w w'):Elk w w' ge e e 0:=
 Elk.of h (h.fr0 f) rfl O (λk hk=> Af hk) (f.mono (λ_ _ e=>e.elim))
theorem Elk.refl(h:En w ge e):Elk w w ge e e 0:=Elk.fr0 h (Ao _ _)
variable{w2:Aa}
theorem Elk.tr{e2:Eo}{d2:Nat}(h:Elk w w' ge e e' d)(k:Elk w' w2 ge e' e2 d2):Elk w w2 ge e e2 (d+d2):=by
 have hs:=h.f.size;refine⟨k.en,k.gc.trans h.gc,bU,λq hq=>?_,h.f.trans k.f (λq hq e3=>?_),λq t hq ho=>?_⟩
 ·rcases k.own q hq with e3|e3;·exact h.own q e3
  ·exact EJ
 ·rcases h.own q e3 with e4|e4;·exact e4
  ·omega
 ·have a:=h.kp q t hq ho;rw[k.kp q t (by rw[srt_eq a];exact hq) ho,a]
theorem Elk.then0(h:Elk w w' ge e e' d)(f:Fr Aj w' w2):Elk w w2 ge e e' d:=h.tr (Elk.fr0 h.en f)
theorem Elk.from0(f:Fr Aj w w')(h0:En w ge e)(h:Elk w' w2 ge e e' d):Elk w w2 ge e e' d:=by
 have:=(Elk.fr0 h0 f).tr h;rwa[BW] at this
theorem Elk.blk(h:Elk w w' ge e e' d){q:Nat}{t:AN}{cs:AO}(hb:Blk w q t cs)(ho:Oth t):Blk w' q t cs:=by
 have:=h.kp q t (srt_blk hb) ho;unfold Blk at hb⊢;rw[this,hb]
theorem Elk.row(h:Elk w w' ge e e' d){base n s:Nat}{t:AN}{v:As}{xs:List As}(hr:w.ownsRow base t s v n xs)(ho:Oth t):w'.ownsRow base t s v n xs:=by
 obtain⟨h1,h2⟩:=hr;refine⟨h1, ?_⟩;rcases h2 with h2|⟨g,cap,cur,hv,hg,hb,r⟩;·exact Af h2
 ·exact Ah ⟨g,cap,cur,hv,hg,h.blk hb ho,r⟩
theorem Elk.less{d2:Nat}(h:Elk w w' ge e e' d)(hd:d≤d2):Elk w w' ge e e' d2:=⟨h.en,h.gc,by have:=h.fl;omega,h.own,h.f,h.kp⟩
theorem drop_en(h:En w ge e)(ps:List Int)(hc:Cch w' e.gc (e.s.drop ps))(f:Fr (e.s.wr e.gc) w w')(ho: ∀q,(e.s.drop ps).own e.gc q→e.s.own e.gc q):En w' ge {e with s:=e.s.drop ps}:=by
 obtain⟨q1,q2,q3,q4,q5⟩:=h.ges;obtain⟨bs,clock,hm⟩:=h.m;obtain⟨t1,t2,t3,t4,t5⟩:=h.c.srt;refine⟨h.b.fr f (λq=>q4 (Af q)),hc,⟨bs,clock,hm.fr f (λq=>q5 (Af q))⟩,λp hp=>(h.r p hp).fr f (λk hk q=>?_),λq=>q5 (ho _ (Af (Ah (Ah (Af q))))),λb hb=>h.ok b (DF.1 hb).1,h.ko,h.la⟩;have a1:=(h.r p hp).srt hk;rcases q with q|q|q|⟨p2,hp2,q⟩;·rw[q,t1] at a1;simp at a1
 ·rw[t3 _ q] at a1;simp at a1
 ·rw[q,t2] at a1;simp at a1
 ·rw[t5 p2 hp2 _ q] at a1;simp at a1
theorem drop_own{ps:List Int}(ho: ∀q,(e.s.drop ps).own e.gc q→e.s.own e.gc q): ∀k,({e with s:=e.s.drop ps}:Eo).own ge k→e.own ge k:=λk hk=>by
 rcases hk with q|q|q|q;·exact Af q
 ·exact Ah (Af (ho k q))
 ·exact Ah (Ah (Af q))
 ·exact Ah (Ah (Ah q))
theorem Sm{ed:AY}(h:En w ge e)(ht:Sl w ge e ed w'):ed=Ax (AF #[])∧ ∃e',Elk w w' ge e e' 0∧e'.s=e.s:=by
 obtain⟨rfl,L',h1,h2,f⟩:=ht;refine⟨rfl,{e with L:=L'},Elk.of h h1 rfl (by show e.s.fl≤_;omega) (λk hk=>?_) (f.mono (λk _ q=> Ah (Ah q))),rfl⟩;rcases hk with q|q|q|⟨p,hp,q⟩;·exact Af (Af q)
 ·exact Af (Ah (Af q))
 ·exact Sn
 ·exact Af (Ah (Ah (Ah ⟨p,h2 p hp,q⟩)))
def bV(w:Aa)(ge:Nat)(e:Eo)(ed:AY)(w':Aa):Prop:=ed=Ax (AF #[])∧ ∃e',Elk w w' ge e e' 0
theorem turned_any(w:Aa)(ge:Nat)(e:Eo)(h:En w ge e)(ps:List Int)(np pc:Nat)(pA:Aw)(hp:w.ownsRow 0 3 1 (Z pA np pc) np (ps.map (J U)))(hw: ∀z∈ps,(DT .i64 z).wf=Ag)(hm:np≤64):At Tryz.prog 34 #[↑ge,Z pA np pc] w (bV w ge e):=by
 have hI: ∀W,Fr e.s.sx w W→IntsAt U W ↑w pA np ps:=λW f=>by
  have ho:W.ownsRow 0 3 1 (Z pA np pc) np (ps.map (J U)):=AR hp f (λk hk q=>by
   have a1:Ca.srt w k=I (I 3):=by
    rcases hp.2 with⟨e2,_⟩|⟨g',cap,cur,e2,_,hb,_⟩;·exact So
    ·rw[e2] at hk;have:=Sr;exact Ss
   exact h.apart (Ah (Af (sx_wr q))) a1 Ak Ak Ak Ak)
  have hlt:=own_lt hp;refine⟨by have:=hp.1;simpa using this,λi hi=>?_,λhn=>?_⟩
  ·have hl:i<ps.length:=by have:=hp.1;simp at this;omega
   rw[AS,BK hl];exact hw _ (CE hl)
  ·obtain⟨g',cap,cur,e2,hg,hb,hc,_,hs,ht⟩:=EQ ho hn;injection e2 with e2;have hgl:g'<↑w:=by
    refine hlt g' ?_;rw[e2];rfl
   refine⟨g',0,e2,hgl,λi hi=>?_⟩;rw[BW,hb.cell i,←DV,←Dq (show i<np*1 by omega),ht];have hl:i<ps.length:=by have:=hp.1;simp at this;omega
   rw[DP,BK hl,AS,BK hl];rfl
 have Hd:=T (drop_any w e.gc e.s h.c ps ↑w np pc pA hI Cc (AD _));have H:=T h;have c0:=h.b.cell 0;have cl:=h.b.lt;clear hI hp hw h;rcases Gq np with h0|h0
 ·have g1:decide ((np:Int)>0)=Ac:=AA;go_in
  go_wp2
  go_end0;exact⟨rfl,e,Elk.refl H.out⟩
 ·have g1:decide ((np:Int)>0)=Ag:=AA;obtain⟨cg,hcg⟩:=A8 (I7 ps e.s.bl);have Hd2:Hid (At Tryz.prog 53 #[↑e.gc,Z pA np pc] w λed w'=>ed=Ax (J U (cg:Nat))∧ ∃e',Elk w w' ge e e' 0):=T ((Hd.out).mono (λed w' hh=>by
   obtain⟨rfl,hc,f,ho⟩:=hh;exact⟨by rw[hcg],{e with s:=e.s.drop ps},Elk.of H.out (drop_en H.out ps hc f ho) rfl (by show e.s.fl≤e.s.fl+((0:Nat):Int);omega) (λk hk=> Af (drop_own ho k hk)) (f.mono (λk _ q=> Ah (Af q)))⟩))
  clear Hd hcg;rcases Gq cg with hg|hg;·have g2:decide ((cg:Int)>0)=Ac:=AA;go_in;go_wp2_with ((with_reducible refine Az Hd2 ?_);rintro ed w1 ⟨rfl,e',hE⟩;have HE:=T hE;clear hE);go_end0;exact⟨rfl,e',HE.out⟩
  ·have g2:decide ((cg:Int)>0)=Ag:=AA;go_in;go_wp2_with (first
    |((with_reducible refine Az Hd2 ?_);rintro ed w1 ⟨rfl,e',hE⟩;have Ht:=T (bT w1 ge e' hE.en);have HE:=T hE;clear hE)
    |((with_reducible refine Az Ht ?_);rintro ed w2 ht;obtain⟨rfl,e2,hE2,_⟩:=Sm HE.out.en ht;have HE2:=T hE2;clear hE2 ht))
   go_end0;exact⟨rfl,e2,HE.out.tr HE2.out⟩
end Eg
namespace Gm
open Fm Nt Rm By Wk Gs Bs Mu
theorem Mch.eng{w w':Aa}{P P' S:AE}{a:Ab}{A:Au}{g:Mc}(h:Mch w P a A g)(f:Fr S w w')(hs: ∀k,S k→P k)(h0: ¬S 0)(hp: ∀k,P' k→P k∨(w.heap.size≤k∧k<w'.heap.size))(hz:P' 0):Mch w' P' a A g:=by
 obtain⟨F,h1,h2,h3⟩:=h.lt;have hl:=h.un.lt;have h4:=h.fr f hs h0;refine⟨⟨F,h1.fr f (λk hk e=>(h2 k hk).1 (hs k e)),λk hk=>⟨λe=>?_,(h2 k hk).2⟩⟩,h4.un,h.am,⟨λe=>?_,λe=>?_⟩,h4.tab,hz,λk hk=>?_⟩;·exact VI
 ·exact N7
 ·exact N9
 ·exact VO
end Gm
namespace Bl
open Fm Nt Rm By Wk Gs Bs Mu Sv Gm Gc Rn Eg
structure Sx(w w':Aa)(P L:AE)(a:Ab)(A:Au)(s:St)(g:Mc)(X Y:Aw)(c d:Nat)(ge:Nat)(e e':Eo)(D:Nat):Prop where
 st:StV w' 0 s (Z X s.d.length c) (Z Y s.r.length d)
 ne: ∀k,ab X=I k→ab Y≠I k
 f:Fr (λk=> ¬P k∨e.own ge k) w w'
 z:P 0∧(∀k,P k→k<w.heap.size)∧(∀k,e.own ge k→P k∧k≠0)∧ ∀k,L k→w.heap.size≤k
 en:En w' ge e'
 gc:e'.gc=e.gc
 fl:e'.s.fl≤e.s.fl+D
 own: ∀k,e'.own ge k→e.own ge k∨w.heap.size≤k
 mc: ∃P',(∀k,P k→P' k)∧(∀k,P' k→P k∨w.heap.size≤k)∧(∀k,ab X=I k∨ab Y=I k→P' k)∧(∀k,ab X=I k∨ab Y=I k→P k∨w.heap.size≤k)∧(∀k,L k→P' k)∧(∀k,e'.own ge k→P' k)∧Mch w' P' a A g
section
variable {w w' w2:Aa} {P L L':AE} {a:Ab} {A:Au} {g g2:Mc} {s s2:St} {X Y X2 Y2:Aw} {c d c2 d2:Nat} {ge:Nat} {e e' e2:Eo} {D D2:Nat}
theorem Sx.start(hS:StV w 0 s (Z X s.d.length c) (Z Y s.r.length d))(hp: ∀k,ab X=I k∨ab Y=I k→P k)(hne: ∀k,ab X=I k→ab Y≠I k)(hM:Mch w P a A g)(hE:En w ge e)(ho: ∀k,e.own ge k→P k∧k≠0):Sx w w P Aj a A s g X Y c d ge e e 0:=
 ⟨hS,hne,Ao _ _,⟨hM.p0,hM.pl,ho,λ_ e=>e.elim⟩,hE,rfl,O,λk hk=> Af hk,P,λk hk=>hk,λk hk=> Af hk,hp,λk hk=> Af (hp k hk),λ_ e=>e.elim,λk hk=>(ho k hk).1,hM⟩
theorem Sx.less(h:Sx w w' P L a A s g X Y c d ge e e' D)(hl: ∀k,L' k→L k):Sx w w' P L' a A s g X Y c d ge e e' D:=by
 obtain⟨P',p1,p2,p3,p4,p5,p6,p7⟩:=h.mc;exact⟨h.st,h.ne,h.f,⟨h.z.1,h.z.2.1,h.z.2.2.1,λk hk=>h.z.2.2.2 k (hl k hk)⟩,h.en,h.gc,h.fl,h.own,P',p1,p2,p3,p4,λk hk=>p5 k (hl k hk),p6,p7⟩
theorem Sx.fr0(h:Sx w w' P L a A s g X Y c d ge e e' D)(f:Fr Aj w' w2):Sx w w2 P L a A s g X Y c d ge e e' D:=by
 obtain⟨P',p1,p2,p3,p4,p5,p6,p7⟩:=h.mc;exact⟨h.st.fr0 f,h.ne,h.f.trans f (λ_ _ e=>e.elim),h.z,h.en.fr0 f,h.gc,h.fl,h.own,P',p1,p2,p3,p4,p5,p6,p7.fr0 f⟩
theorem Sx.more(h:Sx w w' P L a A s g X Y c d ge e e' D)(f:Fr Aj w' w2)(hl: ∀k,L' k→L k∨(w'.heap.size≤k∧k<w2.heap.size)):Sx w w2 P L' a A s g X Y c d ge e e' D:=by
 obtain⟨P',p1,p2,p3,p4,p5,p6,p7⟩:=h.mc;have hs:=h.f.size;refine⟨h.st.fr0 f,h.ne,h.f.trans f (λ_ _ e=>e.elim),⟨h.z.1,h.z.2.1,h.z.2.2.1,λk hk=>?_⟩,h.en.fr0 f,h.gc,h.fl,h.own,λk=>P' k∨(w'.heap.size≤k∧k<w2.heap.size),λk hk=> Af (p1 k hk),λk hk=>?_,λk hk=> Af (p3 k hk),p4,λk hk=>(hl k hk).imp (p5 k) id,λk hk=> Af (p6 k hk),p7.more f (λk hk=>hk) (Af p7.p0)⟩
 ·rcases hl k hk with q|q;·exact h.z.2.2.2 k q
  ·omega
 ·rcases hk with q|q;·exact p2 k q
  ·exact EJ
theorem Sx.call(h:Sx w w' P L a A s g X Y c d ge e e' D): ∃P',Mch w' P' a A g∧(∀k,L k∨ab X=I k∨ab Y=I k→P' k)∧(∀{w2 s2 g2 X2 Y2 c2 d2},Stp w' w2 P' a A s2 g2 X2 Y2 c2 d2→Sx w w2 P L a A s2 g2 X2 Y2 c2 d2 ge e e' D)∧(∀{w2 g2},Mch w2 P' a A g2→Fr (λk=> ¬P' k) w' w2→Sx w w2 P L a A s g2 X Y c d ge e e' D):=by
 obtain⟨P',p1,p2,p3,p4,p5,p6,p7⟩:=h.mc;have hs:=h.f.size;refine⟨P',p7,λk hk=>hk.elim (p5 k) (p3 k),λ{w2 s2 g2 X2 Y2 c2 d2} hn=>?_,λ{w2 g2} hm f=>?_⟩
 ·obtain⟨Q,q1,q2,q3,q4,q5⟩:=hn.mc;refine⟨hn.st,hn.ne,h.f.trans hn.f (λk hk q=> Af (λr=>q (p1 k r))),h.z,h.en.fr hn.f (λk hk q=>q (p6 k hk)),h.gc,h.fl,h.own,Q,λk hk=>q1 k (p1 k hk),λk hk=>?_,q3,λk hk=>?_,λk hk=>q1 k (p5 k hk),λk hk=>q1 k (p6 k hk),q5⟩;·exact bX
  ·exact bY
 ·exact⟨h.st.fr f (λk hk q=>q (p3 k (Af (Rn.own_ab hk)))) (λk hk q=>q (p3 k (Ah (Rn.own_ab hk)))),h.ne,h.f.trans f (λk hk q=> Af (λr=>q (p1 k r))),h.z,h.en.fr f (λk hk q=>q (p6 k hk)),h.gc,h.fl,h.own,P',p1,p2,p3,p4,p5,p6,hm⟩
theorem Sx.eng(h:Sx w w' P L a A s g X Y c d ge e e' D)(k:Elk w' w2 ge e' e2 D2):Sx w w2 P L a A s g X Y c d ge e e2 (D+D2):=by
 obtain⟨P',p1,p2,p3,p4,p5,p6,p7⟩:=h.mc;have hs:=h.f.size;have hu:Oth 22:=⟨Ak,Ak,Ak,Ak⟩;have h0: ∀q,e'.own ge q→q≠0:=λq hq=>bZ;refine⟨⟨k.row h.st.d hu,k.row h.st.r hu,h.st.ok⟩,h.ne,h.f.trans k.f (λq hq r=>?_),h.z,k.en,k.gc.trans h.gc,bU,λq hq=>?_,λq=>P' q∨(w'.heap.size≤q∧q<w2.heap.size),λq hq=> Af (p1 q hq),λq hq=>?_,λq hq=> Af (p3 q hq),p4,λq hq=> Af (p5 q hq),λq hq=>?_,p7.eng k.f p6 (λr=>h0 0 r rfl) (λq hq=>hq) (Af p7.p0)⟩
 ·rcases h.own q r with t|t;·exact Ah t
  ·omega
 ·rcases k.own q hq with r|r;·exact h.own q r
  ·exact EJ
 ·rcases hq with r|r;·exact p2 q r
  ·exact EJ
 ·rcases k.own q hq with r|r;·exact Af (p6 q r)
  ·exact Ah ⟨r,k.en.own_lt q hq⟩
theorem Sx.wrote(h:Sx w w' P L a A s g X Y c d ge e e' D){q:Nat}(hq:L q)(hx:ab X≠I q∧ab Y≠I q)(he: ¬e'.own ge q)(f:Fr (λk=>k=q) w' w2):Sx w w2 P L a A s g X Y c d ge e e' D:=by
 obtain⟨P',p1,p2,p3,p4,p5,p6,p7⟩:=h.mc;have hq2:=h.z.2.2.2 q hq;have hz:=h.z.2.1 0 h.z.1;exact⟨h.st.fr f (λk hk r=>hx.1 cA) (λk hk r=>hx.2 cA),h.ne,h.f.trans f (λk hk r=>by have r:k=q:=r;omega),h.z,h.en.fr f (λk hk r=>he (by rw[←show k=q from r];exact hk)),h.gc,h.fl,h.own,P',p1,p2,p3,p4,p5,p6,p7.fr f (λk hk=>by rw[show k=q from hk];exact p5 q hq) (λr=>O)⟩
theorem Sx.give(h:Sx w w' P L a A s g X Y c d ge e e' D)(hn:StV w2 ↑w' s2 (Z X2 s2.d.length c2) (Z Y2 s2.r.length d2))(hne: ∀k,ab X2=I k→ab Y2≠I k)(f:Fr Aj w' w2):Sx w w2 P L a A s2 g X2 Y2 c2 d2 ge e e' D:=by
 obtain⟨P',p1,p2,p3,p4,p5,p6,p7⟩:=h.mc;have hs:=h.f.size;have hx: ∀k,ab X2=I k∨ab Y2=I k→w'.heap.size≤k∧k<w2.heap.size:=λk hk=>by
  rcases hk with r|r;·exact⟨hn.d.ge k (ab_own hn.d r),hn.d.lt k (ab_own hn.d r)⟩
  ·exact⟨hn.r.ge k (ab_own hn.r r),hn.r.lt k (ab_own hn.r r)⟩
 refine⟨hn.low (Bj _),hne,h.f.trans f (λ_ _ e=>e.elim),h.z,h.en.fr0 f,h.gc,h.fl,h.own,λk=>P' k∨(w'.heap.size≤k∧k<w2.heap.size),λk hk=> Af (p1 k hk),λk hk=>?_,λk hk=> Ah (hx k hk),λk hk=> Ah Su,λk hk=> Af (p5 k hk),λk hk=> Af (p6 k hk),p7.more f (λk hk=>hk) (Af p7.p0)⟩;rcases hk with r|r;·exact p2 k r
 ·exact EJ
theorem Sx.tr(h:Sx w w' P L a A s g X Y c d ge e e' D): ∃P',(∀k,L k∨ab X=I k∨ab Y=I k→P' k)∧Mch w' P' a A g∧(∀k,e'.own ge k→P' k∧k≠0)∧ ∀{w2 s2 g2 X2 Y2 c2 d2 e2 D2},Sx w' w2 P' Aj a A s2 g2 X2 Y2 c2 d2 ge e' e2 D2→Sx w w2 P L a A s2 g2 X2 Y2 c2 d2 ge e e2 (D+D2):=by
 obtain⟨P',p1,p2,p3,p4,p5,p6,p7⟩:=h.mc;have hs:=h.f.size;have h0: ∀q,e'.own ge q→q≠0:=λq hq=>bZ;refine⟨P',λk hk=>hk.elim (p5 k) (p3 k),p7,λk hk=>⟨p6 k hk,h0 k hk⟩,λ{w2 s2 g2 X2 Y2 c2 d2 e2 D2} hn=>?_⟩;obtain⟨Q,q1,q2,q3,q4,q5,q6,q7⟩:=hn.mc;refine⟨hn.st,hn.ne,h.f.trans hn.f (λk hk r=>?_),h.z,hn.en,hn.gc.trans h.gc,by have:=h.fl;have:=hn.fl;push_cast;omega,λk hk=>?_,Q,λk hk=>q1 k (p1 k hk),λk hk=>?_,q3,λk hk=>?_,λk hk=>q1 k (p5 k hk),q6,q7⟩
 ·rcases r with r|r;·exact Af (λt=>r (p1 k t))
  ·rcases h.own k r with t|t;·exact Ah t
   ·omega
 ·rcases hn.own k hk with r|r;·exact h.own k r
  ·exact EJ
 ·exact bX
 ·exact bY
theorem Sx.none(h:Sx w w' P L a A s g X Y c d ge e e' D):Sx w w' P Aj a A s g X Y c d ge e e' D:=h.less (λ_ e=>e.elim)
end
end Bl
namespace Bl
open Fm Nt Rm By Wk Gs Bs Mu Sv Gm Gc Rn Eg
theorem CC:Oth 39:=⟨Ak,Ak,Ak,Ak⟩
theorem othI:Oth 27:=⟨Ak,Ak,Ak,Ak⟩
theorem othR:Oth 206:=⟨Ak,Ak,Ak,Ak⟩
theorem othZ:Oth 3:=⟨Ak,Ak,Ak,Ak⟩
variable{w:Aa}
theorem En.self{w':Aa}{ge:Nat}{e e2:Eo}(h:En w ge e)(h1:e2.gc=e.gc)(h2:e2.gm=e.gm)(h3:e2.s=e.s)(h4:e2.L=e.L)(h5:e2.la.Ok)(hb:Blk w' ge 124 (enC e2))(f:Fr (λq=>q=ge) w w'):Elk w w' ge e e2 0:=by
 obtain⟨q1,q2,q3,q4,q5⟩:=h.ges;obtain⟨bs,clock,hm⟩:=h.m;have hr: ∀p∈e.L,Ca.ab p.2.A≠I ge:=λp hp q=>by
  have a1:=(h.r p hp).srt q;rw[Ca.srt_blk h.b] at a1;simp at a1
 have hE:En w' ge e2:=by
  refine⟨hb, ?_,⟨bs,clock, ?_⟩,λp hp=>?_, ?_, ?_, ?_,h5⟩;·rw[h1,h3];exact h.c.fr f (λk hk r=>q4 (by rw[←show k=ge from r];exact hk))
  ·rw[h2,h4];exact hm.fr f (λr=>q2 r.symm)
  ·rw[h4] at hp;exact(h.r p hp).fr f (λk hk r=>hr p hp (by rw[hk,show k=ge from r]))
  ·rw[h2,h3];exact h.ne
  ·rw[h3,h4];exact h.ok
  ·rw[h4];exact h.ko
 refine Elk.of h hE h1 (by rw[h3];omega) (λk hk=> Af ?_) (f.mono (λk _ r=> Af r));unfold Eo.own at hk⊢;rw[h1,h2,h3,h4] at hk;exact hk
theorem EO{ge q:Nat}{e:Eo}{t:AN}{cs:AO}(h:En w ge e)(hb:Blk w q t cs)(ho:Oth t)(h8:t≠5): ¬e.own ge q:=λr=>by
 have a1:=Ca.srt_blk hb;obtain⟨t1,t2,t3,t4,t5⟩:=h.c.srt;rcases r with r|(r|⟨b,hb2,r⟩)|r|⟨p,hp,r⟩;·exact h.apart (Af r) a1 ho.1 ho.2.1 ho.2.2.1 ho.2.2.2
 ·exact h.apart (Ah (Af r)) a1 ho.1 ho.2.1 ho.2.2.1 ho.2.2.2
 ·rw[t4 b hb2 q r] at a1;simp at a1;exact h8 a1.symm
 ·exact h.apart (Ah (Ah r)) a1 ho.1 ho.2.1 ho.2.2.1 ho.2.2.2
 ·rw[(h.r p hp).srt r] at a1;simp at a1;exact h8 a1.symm
theorem pC{base n c:Nat}{A:Aw}{zs:List Int}(h:w.ownsRow base 3 1 (Z A n c) n (zs.map (J U)))(hw: ∀i,i<n→(DT U (zs.getD i 0)).wf=Ag):IntsAt U w ↑w A n zs:=by
 have hl:zs.length=n:=by have:=h.1;simpa using this
 refine⟨hl,hw,λhn=>?_⟩;obtain⟨g',cap,cur,e2,hg,hb,hc,_,hs,ht⟩:=EQ h hn;injection e2 with e2;refine⟨g',0,e2,hb.lt,λi hi=>?_⟩;rw[BW,hb.cell i,←DV,←Dq (show i<n*1 by omega),ht];have hl2:i<zs.length:=O;rw[DP,BK hl2,AS,BK hl2];rfl
end Bl
namespace Eg
open Mz Go.Maps Ca
def Eo.new(n:Int)(gc gm gm2:Nat):Eo:=⟨gc,gm,Cs.new n gm2,[],(0,0),0,0,Ac⟩
def ENewPost(w:Aa)(n:Int)(e:AY)(w':Aa):Prop:=
 ∃ge gc gm gm2,e=Ax (AF #[Bm (I ⟨ge,0,G⟩),J U 0])∧En w' ge (Eo.new n gc gm gm2)∧(∀q,(Eo.new n gc gm gm2).own ge q→w.heap.size≤q)∧Fr Aj w w'
theorem enew_any(w:Aa)(n:Int)(h0:1≤n)(h1:n≤1024):At Tryz.prog 47 #[J U n] w (ENewPost w n):=by
 have hmm:= @run_makeMap Tryz.prog;have Hn:=T (new_yes w n h0 h1);go_in;go_wp2_with ((with_reducible refine Az Hn ?_);rintro e2 w2 ⟨gc,gm2,rfl,hc,l1,l2,l3,l4,f2⟩;have HC:=T hc;have HF2:=T f2;clear hc f2);go_ret2;have hm:=MapL.made (P:=Tryz.prog) (k:=122) (mk:=kyv) w2;have f3:=(Ao Aj w2).alloc (.map #[] 0);have hsz:(w2.alloc (.map #[] 0)).heap.size=w2.heap.size+1:=AC;have bb:=AI (w2.alloc (.map #[] 0)) 124 (enC (Eo.new n gc w2.heap.size gm2));rw[hsz] at bb;have f4:=f3.alloc (.cells (enC (Eo.new n gc w2.heap.size gm2)) 124);have hs2:=HF2.out.size;refine⟨w2.heap.size+1,gc,w2.heap.size,gm2,AC,⟨bb,HC.out.fr f4 (λ_ _ e=>e),⟨[],0,hm.fr ((Ao Aj _).alloc _) id⟩,λp hp=>absurd hp Kn, ?_,λb hb=>absurd hb Sz,λp hp=>absurd hp Kn,⟨⟨Kn,Kn⟩,⟨Kn,Kn⟩⟩⟩,λq hq=>?_,HF2.out.tr f4⟩;·show w2.heap.size≠gm2;omega
 ·rcases hq with q1|(q1|⟨b,hb,q1⟩)|q1|⟨p,hp,q1⟩;·omega
  ·rcases q1 with q1|q1|q1|⟨p,hp,q1⟩;·have q1:q=gc:=q1;omega
   ·simp[Eo.new,Cs.new,ab] at q1
   ·have q1:q=gm2:=q1;omega
   ·exact absurd hp Sz
  ·exact absurd hb Sz
  ·have q1:q=w2.heap.size:=q1;omega
  ·exact absurd hp Kn
end Eg
namespace Eg
open Mz Go.Maps Ca
def Kp(w':Aa)(base:Nat)(s:Cs)(k:Ky)(A:Aw)(n c:Nat)(ct:Int):Prop:=
 ∃b∈s.bl,b.k=k∧n=b.code.length∧ct=b.ct∧w'.ownsRow base 5 1 (Z A n c) n (b.code.map (J AB))
theorem findC(w:Aa)(g:Nat)(s:Cs)(h:Cch w g s)(k:Ky)(kb:Bool)(hkb:decide (0≤idx k s.bl)=kb):At Tryz.prog 75 #[↑g,A9 #[J V k.1,J V k.2]] w λe w'=>(∃pc pl A n c ct,e=Ax (AF #[A9 #[J V pc,J V pl,Z A n c,J U ct],Ap kb])∧(kb=Ag→Kp w' ↑w s k A n c ct))∧Fr Aj w w':=by
 by_cases hk:idx k s.bl<0
 ·have e:kb=Ac:=by rw[←hkb];simp;omega
  subst e;exact(Xg w g s h k hk).mono (λe w' hh=>by
   obtain⟨rfl,f⟩:=hh;exact⟨⟨_,_,_,_,_,_,rfl,λe=>KB⟩,f⟩)
 ·have e:kb=Ag:=by rw[←hkb];simp;omega
  subst e;obtain⟨i,hi⟩: ∃i:Nat,idx k s.bl=i:=⟨(idx k s.bl).toNat,O⟩;obtain⟨hil,hik⟩:=Kk k s.bl i hi;exact(Xj w g s h k i hi).mono (λe w' hh=>by
   obtain⟨A,c,rfl,ho,f⟩:=hh;exact⟨⟨_,_,_,_,_,_,rfl,λ_=>⟨Ch s.bl i,Xk,hik,rfl,rfl,ho⟩⟩,f⟩)
theorem fP{α β:Type}{l:List (α×β)}(h:(l.map (·.1)).Nodup){k:α}{a b:β}(ha:(k,a)∈l)(hb:(k,b)∈l):a=b:=by
 induction l with
 |nil=>cases ha
 |cons x l ih=>
  rw[GU,List.nodup_cons] at h;rcases Dv.1 ha with e1|e1
  ·rcases Dv.1 hb with e2|e2;·have:=e1.trans e2.symm;injection this
   ·exact absurd (BS.2 ⟨(k,b),e2,by rw[←e1]⟩) h.1
  ·rcases Dv.1 hb with e2|e2;·exact absurd (BS.2 ⟨(k,a),e1,by rw[←e2]⟩) h.1
   ·exact ih h.2 e1 e2
theorem look_run{w:Aa}{g:Nat}{L:List (Ky×Rr)}{bs:List Nat}{clock:Nat}(hm:MapL Tryz.prog 122 kyv w g (L.map rent) bs clock)(k:Ky)(hk:k.Ok): ∃(A:Aw) (n c:Nat) (en:Bool),(∀W,Fr Aj w W→(Instr.lookup 120 (.map (I g)) (A9 #[J V k.1,J V k.2]) Ac).run Tryz.prog W=.ok (A9 #[Z A n c,Ap en]) W)∧ ∀r,(k,r)∈L→A=r.A∧n=r.b.length∧c=r.c∧en=r.e:=by
 obtain⟨l,hl⟩:=JT k hk;have hz: ∀W,(zeroValue 158).run Tryz.prog W=.ok (A9 #[Z G 0 0,Ap Ac]) W:=λW=>rfl;have hlook: ∀W,Fr Aj w W→(Instr.lookup 120 (.map (I g)) (kyv k) Ac).run Tryz.prog W=.ok ((lk (L.map rent) k).getD (A9 #[Z G 0 0,Ap Ac])) W:=λW f=>(hm.fr f id).look IN IM Tryz.underlying120 (hz W) hl Ac;have hnd:(L.map (·.1)).Nodup:=by have:=hm.kd;rwa[GZ] at this
 cases hf:(L.map rent).find? (λp=>decide (p.1=k)) with
 |none=>
  refine⟨G,0,0,Ac,λW f=>?_,λr hr=>?_⟩;·exact fQ
  ·exfalso;have:=List.find?_eq_none.1 hf (rent (k,r)) (List.mem_map_of_mem hr);simp[rent] at this
 |some p=>
  have h1:=List.find?_some hf;have h2:=List.mem_of_find?_eq_some hf;obtain⟨⟨k2,r2⟩,hq,rfl⟩:=BS.1 h2;have hk2:k2=k:=of_decide_eq_true h1;subst hk2;refine⟨r2.A,r2.b.length,r2.c,r2.e,λW f=>?_,λr hr=>?_⟩;·exact fQ
  ·have:r=r2:=by
    have h3:=fP hnd hr hq;exact h3
   subst this;exact⟨rfl,rfl,rfl,rfl⟩
end Eg
namespace Eg
open Mz Go.Maps Ca
theorem put_mem{s:Cs}{b:Bk}{A:Aw}{c gm:Nat}{x:Bk}(h:x∈(s.put b A c gm).bl):x=b∨x∈s.bl:=by
 unfold Cs.put at h;split at h
 ·rcases List.mem_or_eq_of_mem_set h with e|e;·exact Ah e
  ·exact Af e
 ·split at h;·have h:x∈[]++[b]:=h;simp at h;exact Af h
  ·have h:x∈s.bl++[b]:=h;rcases Da.1 h with e|e;·exact Ah e
   ·exact Ru
theorem put_in(s:Cs)(b:Bk)(A:Aw)(c gm:Nat):b∈(s.put b A c gm).bl:=by
 unfold Cs.put;split
 ·rename_i h
  obtain⟨i,hi⟩: ∃i:Nat,idx b.k s.bl=i:=⟨(idx b.k s.bl).toNat,O⟩;obtain⟨h1,_⟩:=Kk _ _ _ hi;have e:=Se;show b∈s.bl.set (idx b.k s.bl).toNat b;rw[e];exact List.mem_set h1 b
 ·split;·show b∈[]++[b];simp
  ·show b∈s.bl++[b];simp
theorem put_fl(s:Cs)(b:Bk)(A:Aw)(c gm:Nat):(s.put b A c gm).fl≤s.fl+(1:Nat):=by
 unfold Cs.put;split;·show s.fl≤_;omega
 ·split;·show s.fl+1≤_;omega
  ·show s.fl≤_;omega
theorem nodup_k{l:List Bk}(h:(l.map Bk.k).Nodup){x y:Bk}(hx:x∈l)(hy:y∈l)(e:x.k=y.k):x=y:=by
 have h2:((l.map (λb=>(b.k,b))).map (·.1)).Nodup:=by rw[GZ];exact h
 exact fP h2 (k:=x.k) (BS.2 ⟨x,hx,rfl⟩) (BS.2 ⟨y,hy,by rw[e]⟩)
theorem has_rent{L:List (Ky×Rr)}{k:Ky}(h:Mz.has (L.map rent) k=Ag): ∃r,(k,r)∈L:=by
 unfold Mz.has at h;rw[List.any_eq_true] at h;obtain⟨p,hp,e⟩:=h;obtain⟨⟨k2,r⟩,hq,rfl⟩:=BS.1 hp;have e:k2=k:=of_decide_eq_true e;subst e;exact⟨r,hq⟩
variable{w:Aa}
theorem pN{g:Nat}{L:List (Ky×Rr)}{bs:List Nat}{clock:Nat}(hm:MapL Tryz.prog 122 kyv w g (L.map rent) bs clock)(k:Ky)(hk:k.Ok)(r:Rr):∃(L':List (Ky×Rr)) (w':Aa),(Ix 120 (.map (I g)) (A9 #[J V k.1,J V k.2]) (A9 #[Z r.A r.b.length r.c,Ap r.e])).run Tryz.prog w=.ok () w'∧(∃bs2 clock2,MapL Tryz.prog 122 kyv w' g (L'.map rent) bs2 clock2)∧Fr (· =g) w w'∧(k,r)∈L'∧(∀p∈L',p=(k,r)∨p∈L)∧ ∀p∈L,p.1≠k→p∈L':=by
 obtain⟨l,hl⟩:=JT k hk
 cases hh:Mz.has (L.map rent) k
 ·obtain⟨w',h1,h2,f⟩:=hm.store_new IN IM Tryz.underlying120 hl hh (rval r);refine⟨L++[(k,r)],w',h1,⟨bs++[clock],clock+1, ?_⟩,f,AC,λp hp=>?_,λp hp _=>by simp[hp]⟩
  ·have e:(L++[(k,r)]).map rent=L.map rent++[(k,rval r)]:=by simp[rent]
   rw[e];exact h2
  ·rcases Da.1 hp with e|e;·exact Ah e
   ·exact Ru
 ·obtain⟨w',h1,h2,f⟩:=hm.store_old IN IM Tryz.underlying120 hl hh (rval r);obtain⟨r0,hr0⟩:=has_rent hh;refine⟨L.map (λp=>if p.1=k then(k,r) else p),w',h1,⟨bs,clock, ?_⟩,f,BS.2 ⟨(k,r0),hr0,AC⟩,λp hp=>?_,λp hp hn=>BS.2 ⟨p,hp,by rw[Ae hn]⟩⟩
  ·have e:(L.map (λp=>if p.1=k then(k,r) else p)).map rent=Mz.rep (L.map rent) k (rval r):=by
    unfold Mz.rep;rw[GZ,GZ];refine List.map_congr_left (λp _=>?_);show rent (if p.1=k then(k,r) else p)=if(rent p).1=k then _ else rent p;by_cases hp:p.1=k;·have hp2:(rent p).1=k:=hp;rw[An hp,An hp2];subst hp;rfl
    ·have hp2: ¬(rent p).1=k:=hp;rw[Ae hp,Ae hp2]
   rw[e];exact h2
  ·obtain⟨q,hq,rfl⟩:=BS.1 hp;split;·exact Af rfl
   ·exact Ah hq
structure NewOk(k:Ky)(l:List Gs.Ins)(bs:List Int)(code:List Tr.HI)(e:Bool):Prop where
 t:Gm.Trl k.1 l bs code
 e:e=Gs.endsB (l.getLastD ⟨0,0⟩).op
 bd: ∀z∈bs,0≤z∧z<256
 n:bs.length≤64
theorem En.row{w':Aa}{ge:Nat}{e:Eo}(h:En w ge e)(f:Fr (e.wr ge) w w'){base n s:Nat}{t:AN}{v:As}{xs:List As}(hr:w.ownsRow base t s v n xs)(ho:Oth t):w'.ownsRow base t s v n xs:=by
 obtain⟨h1,h2⟩:=hr;refine⟨h1, ?_⟩;rcases h2 with h2|⟨g,cap,cur,hv,hg,hb,r⟩;·exact Af h2
 ·refine Ah ⟨g,cap,cur,hv,hg, ?_,r⟩;have:=h.kp f g t (srt_blk hb) ho;rw[this];exact hb
theorem oth8:Oth 5:=by unfold Oth;decide
theorem encH_bd{i:Tr.HI}(h:Tr.HOk i): ∀z∈Hc.encH i,0≤z∧z<256:=by
 obtain⟨h1,h2,h3,h4,h5⟩:=h;intro z hz;simp only[Hc.encH,Dv,List.not_mem_nil,or_false] at hz;rcases hz with rfl|rfl|rfl|rfl|rfl|rfl|rfl|rfl<;>omega
theorem fT{l:List Tr.HI}(h:Tr.HAll l): ∀z∈Hc.encL l,0≤z∧z<256:=by
 intro z hz;obtain⟨i,hi,hz⟩:=List.mem_flatMap.1 hz;exact encH_bd (h i hi) z hz
theorem put_en{w1 wa:Aa}{ge:Nat}{e:Eo}(h:En w ge e){k:Ky}(hk:k.Ok){l:List Gs.Ins}{code:List Tr.HI}{A' A2:Aw}{c' c2 gm2:Nat}{r:Rr}(hn:NewOk k l r.b code r.e){b:Bk}(hb:b=⟨k.1,k.2,Hc.encL code,l.length,A',c'⟩)(hc:Cch w1 e.gc (e.s.put b A2 c2 gm2))(f1:Fr (e.s.wr e.gc) w w1){m:Nat}(hm:↑w≤m)(ho: ∀q,(e.s.put b A2 c2 gm2).own e.gc q→e.s.own e.gc q∨m≤q){base:Nat}(hr:w1.ownsRow base 5 1 (Z r.A r.b.length r.c) r.b.length (r.b.map (J AB)))(hrl:↑w≤base)(f2:Fr Aj w1 wa):∃w3 e',(Ix 120 (.map (I e.gm)) (A9 #[J V k.1,J V k.2]) (A9 #[Z r.A r.b.length r.c,Ap r.e])).run Tryz.prog wa=.ok () w3∧Fr (· =e.gm) wa w3∧Elk w w3 ge e e' 1∧ ∀q,e'.own ge q→e.own ge q∨m≤q∨ab r.A=I q:=by
 obtain⟨q1,q2,q3,q4,q5⟩:=h.ges;obtain⟨bs,clock,hm0⟩:=h.m;have hsz:=f1.size;have hgm:=hm0.bound;have hmo: ¬(e.s.put b A2 c2 gm2).own e.gc e.gm:=λq=>by
  rcases ho _ q with q|q;·exact q5 q
  ·omega
 have hm2:MapL Tryz.prog 122 kyv wa e.gm (e.L.map rent) bs clock:=(hm0.fr f1 (λq=>q5 (Af q))).fr f2 id;obtain⟨L',w3,hrun,hm3,f3,i1,i2,i3⟩:=pN hm2 k hk r;have f4:Fr (λq=>e.s.wr e.gc q∨q=e.gm) w w3:=((f1.mono (λ_ _ q=> Af q)).tr (f2.mono (λ_ _ e=>e.elim))).tr (f3.mono (λ_ _ q=> Ah q));have hrow: ∀r,RunRow w r→RunRow w3 r:=λr hr=>h.row (f4.mono (λq _ r=> Ah r)) hr oth8;have hr0:RunRow w1 r:=Sw.own_low hr (Bj _);have hr3:RunRow w3 r:=(hr0.fr f2 (λ_ _ e=>e)).fr f3 (λq hq e2=>by
  have a1:=hr0.srt hq;have a2:=IW (hm0.fr f1 (λq=>q5 (Af q))).b;rw[e2,a2] at a1;simp at a1)
 have hrb: ∀q,ab r.A=I q→w.heap.size≤q:=λq hq=>by
  have:=Cn hr q (by
   cases hA:r.A with
   |none=>rw[hA] at hq;cases hq
   |some a=>rw[hA] at hq;simpa[Cb,ab] using hq)
  omega
 have hen:En w3 ge {e with s:=e.s.put b A2 c2 gm2,L:=L'}:=by
  refine⟨?_, ?_,hm3,λp hp=>?_,λq=>?_,λx hx=>?_,λp hp=>?_,h.la⟩
  ·exact h.b.fr f4 (λq=>by
    rcases q with q|q;·exact q4 (Af q)
    ·exact q2 q)
  ·exact(hc.fr f2 (λ_ _ e=>e)).fr f3 (λq hq e=>hmo (e▸hq))
  ·rcases i2 p hp with rfl|hp;·exact hr3
   ·exact hrow _ (h.r p hp)
  ·have q:e.gm=(e.s.put b A2 c2 gm2).gm:=q;exact hmo (Af (Ah (Ah (Af q))))
  ·have hx:x∈(e.s.put b A2 c2 gm2).bl:=hx;by_cases e1:x=b;·subst e1;subst hb;exact⟨r,l,code,i1,hn.t,rfl,rfl,hn.e,hn.bd,hn.n⟩
   ·rcases put_mem hx with e2|e2;·exact absurd e2 e1
    ·obtain⟨r1,l1,cd1,j1,j2⟩:=h.ok x e2;refine⟨r1,l1,cd1,i3 _ j1 (λe3=>e1 ?_),j2⟩;exact nodup_k hc.ok.kd hx (put_in _ _ _ _ _) (by rw[hb];exact e3)
  ·rcases i2 p hp with rfl|hp;·exact hk
   ·exact h.ko p hp
 have hown: ∀q,Eo.own {e with s:=e.s.put b A2 c2 gm2,L:=L'} ge q→e.own ge q∨m≤q∨ab r.A=I q:=λq hq=>by
  rcases hq with q|q|q|⟨p,hp,q⟩;·exact Af (Af q)
  ·rcases ho _ q with q|q;·exact Af (Ah (Af q))
   ·exact Ah (Af q)
  ·exact Sn
  ·rcases i2 p hp with rfl|hp;·exact Ah (Ah q)
   ·exact Af (Ah (Ah (Ah ⟨p,hp,q⟩)))
 refine⟨w3,_,hrun,f3,Elk.of h hen rfl (put_fl _ _ _ _ _) (λq hq=>?_) (f4.mono (λq _ r=> Ah r)),hown⟩;rcases hown q hq with q|q|q;·exact Af q
 ·exact EJ
 ·exact Ah (hrb _ q)
end Eg
end Go.Proofs.YtdfegdoeebaagaaGreatDoor
