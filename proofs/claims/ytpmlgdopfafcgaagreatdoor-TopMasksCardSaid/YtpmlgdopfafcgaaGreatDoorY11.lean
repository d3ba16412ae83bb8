import Derived.Test.YtpmlgdopfafcgaaGreatDoorY10
open Go.Value renaming int→J,slice→U,bool→Ap,tuple→AD,ownBlock→Bp,agg→AA,pointer→Bi
open Option renaming some→I,none→G
open Go.IntKind renaming i64→Z,u32→V,u64→AM,u8→AC,wrap_u64→Dk,wrap_u32→DH
open Bool renaming false→Aa,true→Af,false_ne_true→Da,false_and→D7
open Go renaming World→Ac,Value→As,Calls→At,bodyPost_ret→Bf,TypeId→AK,wp_region_held_drew→BY,info_parts→BH,Ending→AT,madeCells→Cb,maxLen→Br,Program→BW,undef→Bt,wpList→BL,bits→Bb,run_underlying→CX
open List renaming getD_eq_getElem?_getD→AN,getElem?_eq_getElem→Bj,length_append→BJ,append_assoc→BM,mem_map→Bo,getElem?_take_of_lt→Cw,replicate→BK,range→Bm,getElem?_append_right→CB,getElem_mem→BU,mem_append→BZ,getElem?_append_left→CO,getElem?_map→C7,cons_append→CC,mem_filter→C8,length_pos_iff→CP,length_cons→CK,mem_cons→Cy,getLastD_eq_getLast?→Dg,nil_append→CI,getElem?_eq_none→De,dropLast_concat→Do,mem_singleton→Dv,map_append→Df,length_map→Di,getElem_of_mem→DD,length_nil→Dp,concat_eq_append→DI,getElem?_range→DL,range_succ→DB,getElem?_replicate→DW,singleton_append→DV,map_cons→D6,map_map→D8,setIfInBounds_toArray→Eb
open Go.Ending renaming returned→Ax
open And renaming intro→A9
open Nat renaming le_refl→AE,lt_of_lt_of_le→AW,le_trans→AS,zero_le→AU,zero_add→Bn,eq_zero_or_pos→Dm,reduceEqDiff→Dq
open Or renaming inl→Ag,inr→Ah
open Go.Proofs.Tryz renaming underlying41→AP,underlying31→CF,underlying22→CV,underlying215→Dl,underlying26→DN
open Go.RowKit renaming intOf→AJ
open Int renaming eq_ofNat_of_zero_le→CM,toNat_natCast→C4,emod_eq_of_lt→CZ
open Go.Builtin renaming zeroCells→CG,delete_→Eh
open Array renaming getElem?_toList→CN,getElem?_eq_some_iff→DX
open Go.Region renaming wanted→CA
open Go.Result renaming andThen→CT
open Option.some renaming inj→Ds
open Go.MapKept renaming run_getObj_map→DJ,run_setObj_map→Ef
open Go.Instr renaming makeSlice→Dj,mapUpdate→DK
open Go.IntWalk renaming i64_in→Du
open Go.Lit renaming int→C9
open Go.Sem renaming run_bind→D5
set_option linter.all false
set_option maxHeartbeats 40000000
set_option maxRecDepth 1000000
open Go Go.RowKit
namespace Go.Proofs.YtpmlgdopfafcgaaGreatDoor
namespace Gm
open Fm Nt Rm By Wk Gs Tr
variable{m:Nat→Int}
theorem take_of{f:Nat}{l:List Int}(h: ∀j,j<l.length→m (f+j)=l.getD j 0):Er.takeW m f l.length=l:=by
 apply List.ext_getElem?;intro j;unfold Er.takeW;rw[C7];by_cases hj:j<l.length;·rw[DL hj,Option.map_some,h j hj,AN,Bj hj];rfl
 ·rw[De A8,De O];rfl
variable{s:St}{σ:Hm}
theorem Vm{p:Pg}{vs:List Int}(h:FM (left p s vs) p.ct σ):Er.getS s σ.m=left p s vs:=by
 unfold Er.getS;rw[h.pc,h.fl,h.ct,h.dn,h.rn,C4,C4,take_of h.d,take_of h.r];rfl
structure Plr(l:List Ins)(bs:List Int):Prop where
 enc:Enc l bs
 ne:l≠[]
 h8:l.length≤8
 all: ∀i∈l,rightI i=Af∧plainB i.op=Af∧0≤i.n∧i.n≤4294967295
 ends: ∀i∈l.dropLast,endsB i.op=Aa
variable{bs:List Int}
theorem Plr.wf{l:List Ins}(h:Plr l bs)(pc:Int)(p0:0≤pc)(p1:pc≤4294967295):WF (lower0 pc l):=
 lower_wf pc l ⟨p0,p1⟩ h.ne h.h8 (λi hi=>⟨(h.all i hi).2.1,(h.all i hi).2.2⟩) h.ends
variable{n:Nat}
theorem trans_ok{l:List Ins}{pl:Tr.Pl}{tt:Nat→Nat}(h:Plr l bs)(hp:PO (sweepP (lower0 s.pc l)) pl tt)(hk:Rk s)(hm: ∀j,j<64→m j=putW s j)(hr:hrun (codeC (sweepP (lower0 s.pc l)) pl) n 0 ⟨λ_=>0,m⟩=⟨1,1,σ⟩):plainAll s l=I (Er.getS s σ.m):=by
 have hw0:=h.wf s.pc hk.1.pc.1 hk.1.pc.2;obtain⟨hw,e⟩:=sweep_ok hw0 s;obtain⟨F,hF⟩:=emit_ok hw hp hk.1 hk.right (λ_=>rfl) hm hr;rw[Vm hF,e];exact lower_ok s l h.ne (λi hi=>⟨(h.all i hi).1,(h.all i hi).2.1⟩) h.ends ⟨F.d,F.r,F.hd,F.hr⟩
structure Trl(pc:Int)(l:List Ins)(bs:List Int)(code:List HI):Prop where
 run:Plr l bs
 cd: ∃pl tt,PO (sweepP (lower0 pc l)) pl tt∧code=codeC (sweepP (lower0 pc l)) pl
 ok:HAll code
 len:code.length≤10000
theorem Trl.done{l:List Ins}{code:List HI}(h:Trl s.pc l bs code)(hk:Rk s)(hm: ∀j,j<64→m j=putW s j)(hr:hrun code n 0 ⟨λ_=>0,m⟩=⟨1,1,σ⟩):plainAll s l=I (Er.getS s σ.m):=by
 obtain⟨pl,tt,hp,rfl⟩:=h.cd;exact trans_ok h.run hp hk hm hr
theorem Plr.behind{l:List Ins}(h:Plr l bs){c:St}{p:Int}{g:Mc}(hc:plainAll s l=I c)(hpre:bs<+:pageL g.b.ms p)(p0:0≤p)(p1:p<(g.b.ms.n:Int)*64)(hn:g.b.ms.n≤64)(pc0:0≤s.pc)(pc1:s.pc≤4294967295)(hpc:s.pc%64=p%64)(ha:s.ha=Aa)(page:Int):restR s p page g 8=behind c s.pc (endsB (l.getLastD ⟨0,0⟩).op) (p+bs.length) page g.calm (8 -l.length)∧c.ha=Aa:=
 rest_run page l bs s c p g 8 h.enc h.ne (λi hi=>(h.all i hi).2.1) h.ends hc hpre p0 p1 hn pc0 pc1 hpc ha h.h8
variable{i:Ins}{b:List Int}
theorem Enc.snoc{l:List Ins}(h:Enc l bs)(hb:IsEnc i b):Enc (l++[i]) (bs++b):=by
 induction h with
 |nil=>simpa using Enc.cons hb Enc.nil
 |cons h1 h2 ih=>rw[CC,BM];exact Enc.cons h1 ih
theorem PB(h:decI b=I (i,n))(hb: ∀z∈b,0≤z∧z<256):rightI i=Af∧0≤i.n∧i.n≤4294967295:=by
 cases b with
 |nil=>simp[decI] at h
 |cons o l=>
  rw[decI] at h;by_cases h0:sizeI o=0;·rw[An h0] at h;cases h
  ·rw[Ae h0] at h;by_cases h1:(l.length:Int)+1<sizeI o;·rw[An h1] at h;cases h
   ·rw[Ae h1] at h;injection h with h;injection h with hi hn;subst hi;have hs:sizeI o=1∨sizeI o=2∨sizeI o=5:=by
     unfold sizeI at h0⊢;split;·omega
     split;·omega
     split;·omega
     ·rename_i a1 a2 a3
      rw[Ae a1,Ae a2,Ae a3] at h0;exact absurd rfl h0
    have hl: ∀z∈l,0≤z∧z<256:=λz hz=>hb z (List.mem_cons_of_mem _ hz);have key:rightI ⟨o,leV (l.take ((sizeI o).toNat -1))⟩=(if sizeI o=0 then Aa else if sizeI o=1 then decide (leV (l.take ((sizeI o).toNat -1))=0) else if sizeI o=2 then decide (leV (l.take ((sizeI o).toNat -1))≤255) else Af):=rfl;rw[key];rcases hs with e|e|e;·rw[e];simp[leV]
    ·rw[e] at h1;rw[e]
     match l,h1,hl with
     |[],h1,_=>simp at h1
     |a::l,_,hl=>
      have ha:=hl a AB;simp[leV];omega
    ·rw[e] at h1;rw[e]
     match l,h1,hl with
     |a::b::c::d::l,_,hl=>
      have ha:=hl a AB;have hb:=hl b AB;have hc:=hl c AB;have hd:=hl d AB;simp[leV];omega
     |[],h1,_=>simp at h1
     |[_],h1,_=>simp at h1
     |[_,_],h1,_=>simp at h1
     |[_,_,_],h1,_=>simp at h1
theorem PC(m:List Ins)(q:Ins):(m++[q]).getLastD ⟨0,0⟩=q:=by
 rw[Dg,List.getLast?_concat];rfl
structure Pn(b:List Int)(l:List Ins)(size:Nat)(ends:Bool):Prop where
 enc:Enc l (b.take size)
 le:size≤b.length
 all: ∀i∈l,rightI i=Af∧plainB i.op=Af∧0≤i.n∧i.n≤4294967295
 init: ∀i∈l.dropLast,endsB i.op=Aa
 last:l≠[]→ends=endsB (l.getLastD ⟨0,0⟩).op
 nil:l=[]→ends=Aa∧size=0
theorem Pn.start(b:List Int):Pn b [] 0 Aa:=⟨by simpa using Enc.nil,AU _,λi hi=>absurd hi AB,λi hi=>absurd hi AB,λh=>absurd rfl h,λ_=>⟨rfl,rfl⟩⟩
theorem Pn.step{l:List Ins}{size:Nat}(h:Pn b l size Aa)(hd:decI (b.drop size)=I (i,n))(hp:plainB i.op=Af)(hb: ∀z∈b,0≤z∧z<256):Pn b (l++[i]) (size+n) (endsB i.op):=by
 obtain⟨n1,n2,n3,n4,n5⟩:=dec_enc hd;obtain⟨r1,r2⟩:=PB hd (λz hz=>hb z (List.mem_of_mem_drop hz));have hle:=h.le;rw[List.length_drop] at n1;refine⟨?_,O,λj hj=>?_,λj hj=>?_,λ_=>?_,λe=>absurd e AB⟩
 ·have e:b.take (size+n)=b.take size++(b.drop size).take n:=by rw[List.take_add]
  rw[e];exact h.enc.snoc n2
 ·rcases BZ.1 hj with e|e;·exact h.all j e
  ·obtain rfl:=Dv.1 e;exact⟨r1,hp,r2⟩
 ·rw[Do] at hj;rcases l.eq_nil_or_concat with e|⟨m,q,e⟩;·rw[e] at hj;exact absurd hj AB
  ·rw[DI] at e;have hlast:=h.last CY;have hinit:=h.init;rw[e] at hj hlast hinit;rw[Do] at hinit;rw[PC] at hlast;rcases BZ.1 hj with c|c;·exact hinit j c
   ·rw[Dv.1 c];exact hlast.symm
 ·rw[PC]
theorem Pn.run{l:List Ins}{size:Nat}{ends:Bool}(h:Pn b l size ends)(hl:l≠[])(h8:l.length≤8):Plr l (b.take size):=⟨h.enc,hl,h8,h.all,h.init⟩
end Gm
namespace Em
open Gs Tr
section
variable (w:Ac) (base:Nat) (p:Ep) (s:Es) (Q:Nat→As) (B:Nat)
theorem li_any(h:Em w base p s Q B)(hB:B≤90000)(rd:Nat)(v:Int):At Tryz.prog 138 #[↑p.g,J Z rd,J V v] w (EPost w base p ⟨s.l++[li rd v],s.fx⟩ Q (B+1) (AD #[])):=by
 have H:=T h;clear h;go_in;go_wp2_with fail;refine(add_one w base p s Q B (li rd v) _ rfl H.out hB).mono ?_;exact Ih
theorem op_any(h:Em w base p s Q B)(hB:B≤90000)(op rd ra rb:Nat):At Tryz.prog 191 #[↑p.g,J Z op,J Z rd,J Z ra,J Z rb] w (EPost w base p ⟨s.l++[hop op rd ra rb],s.fx⟩ Q (B+1) (AD #[])):=by
 have H:=T h;clear h;go_in;go_wp2_with fail;refine(add_one w base p s Q B (hop op rd ra rb) _ rfl H.out hB).mono ?_;exact Ih
theorem ld_any(h:Em w base p s Q B)(hB:B≤90000)(rd ra:Nat)(v:Int):At Tryz.prog 190 #[↑p.g,J Z rd,J Z ra,J V v] w (EPost w base p ⟨s.l++[hld rd ra v],s.fx⟩ Q (B+1) (AD #[])):=by
 have H:=T h;clear h;go_in;go_wp2_with fail;refine(add_one w base p s Q B (hld rd ra v) _ rfl H.out hB).mono ?_;exact Ih
theorem st_any(h:Em w base p s Q B)(hB:B≤90000)(ra:Nat)(v:Int)(rb:Nat):At Tryz.prog 198 #[↑p.g,J Z ra,J V v,J Z rb] w (EPost w base p ⟨s.l++[hst ra v rb],s.fx⟩ Q (B+1) (AD #[])):=by
 have H:=T h;clear h;go_in;go_wp2_with fail;refine(add_one w base p s Q B (hst ra v rb) _ rfl H.out hB).mono ?_;exact Ih
end
theorem epost_le{w w':Ac}{base:Nat}{p:Ep}{l l':List HI}{fx:List Nat}{Q:Nat→As}{B B':Nat}{v:As}{e:AT}(h:EPost w base p ⟨l,fx⟩ Q B v e w')(hl:l=l')(hb:B≤B'):EPost w base p ⟨l',fx⟩ Q B' v e w':=hl▸h.le hb
section
variable (w:Ac) (base:Nat) (p:Ep) (l:List HI) (fx:List Nat) (Q:Nat→As) (B:Nat)
theorem low_any(h:Em w base p ⟨l,fx⟩ Q B)(hB:B≤85000)(r:Nat):At Tryz.prog 225 #[↑p.g,J Z r] w (EPost w base p ⟨l++lowC r,fx⟩ Q (B+2) (AD #[])):=by
 have H:=T h;clear h;go_in;go_wp2_with fail;refine ego (li_any _ base p _ Q _ H.out O 12 4294967295) ?_;intro w1 L1 lc1 X1 xc1 K1 E1;go_wp2_with fail;refine ego (op_any _ base _ _ Q _ E1.out O 5 r r 12) ?_;exact PD
theorem bit_any(h:Em w base p ⟨l,fx⟩ Q B)(hB:B≤85000)(r:Nat)(up:Int):At Tryz.prog 227 #[↑p.g,J Z r,J V up] w (EPost w base p ⟨l++bitC r up,fx⟩ Q (B+3) (AD #[])):=by
 have H:=T h;clear h;go_in;go_wp2_with fail;refine ego (li_any _ base p _ Q _ H.out O 12 up) ?_;intro w1 L1 lc1 X1 xc1 K1 E1;go_wp2_with fail;refine ego (op_any _ base _ _ Q _ E1.out O 8 r r 12) ?_;intro w2 L2 lc2 X2 xc2 K2 E2;replace K2:=T (K1.out.tr K2.out);go_wp2_with fail;refine ego (op_any _ base _ _ Q _ E2.out O 6 10 10 r) ?_;intro w3 L3 lc3 X3 xc3 K3 E3;replace K3:=T (K2.out.tr K3.out)
 go_wp2
 go_end0;exact epost_le (EPost.of K3.out E3.out) Ge O
theorem Gf(h:Em w base p ⟨l,fx⟩ Q B)(hB:B≤85000)(rd r:Nat):At Tryz.prog 226 #[↑p.g,J Z rd,J Z r] w (EPost w base p ⟨l++signC rd r,fx⟩ Q (B+2) (AD #[])):=by
 have H:=T h;clear h;go_in;go_wp2_with fail;refine ego (li_any _ base p _ Q _ H.out O 12 31) ?_;intro w1 L1 lc1 X1 xc1 K1 E1;go_wp2_with fail;refine ego (op_any _ base _ _ Q _ E1.out O 9 rd r 12) ?_;exact PD
theorem host_any(op:Int)(h0:16≤op)(h1:op≤25)(h2:op≠24):At Tryz.prog 224 #[J V op] w λe w'=>e=Ax (J Z (hostO op))∧w=w':=by
 have hc:=PE;clear h0 h1 h2;rcases hc with rfl|rfl|rfl|rfl|rfl|rfl|rfl|rfl|rfl
 all_goals
  go_in
  go_wp2
  go_ret;exact⟨rfl,rfl⟩
theorem alu_any(h:Em w base p ⟨l,fx⟩ Q B)(hB:B≤80000)(op:Int)(h0:16≤op)(h1:op≤25)(h2:op≠24)(rd a b:Nat):At Tryz.prog 195 #[↑p.g,J V op,J Z rd,J Z a,J Z b] w (EPost w base p ⟨l++aluC op rd a b,fx⟩ Q (B+3) (AD #[])):=by
 have H:=T h;clear h;have hc:=PE;clear h0 h1 h2;rcases hc with rfl|rfl|rfl|rfl|rfl|rfl|rfl|rfl|rfl
 all_goals
  go_in;go_wp2_with fail;refine(host_any _ _ O O O).mono ?_;rintro e w1 ⟨rfl,rfl⟩
 ·skip
  go_wp2_with fail;refine ego (op_any _ base p _ Q _ H.out O 3 rd a b) ?_;exact JV
 ·skip
  exact PF
 ·skip
  go_wp2_with fail;refine ego (op_any _ base p _ Q _ H.out O 5 rd a b) ?_;exact Ii
 ·skip
  go_wp2_with fail;refine ego (op_any _ base p _ Q _ H.out O 6 rd a b) ?_;exact Ii
 ·skip
  go_wp2_with fail;refine ego (op_any _ base p _ Q _ H.out O 7 rd a b) ?_;exact Ii
 ·skip
  go_wp2_with fail;refine ego (op_any _ base p _ Q _ H.out O 8 rd a b) ?_;exact JV
 ·skip
  go_wp2_with fail;refine ego (op_any _ base p _ Q _ H.out O 9 rd a b) ?_;exact Ii
 ·skip
  go_wp2_with fail;refine ego (op_any _ base p _ Q _ H.out O 10 rd a b) ?_;exact JV
 ·skip
  exact PF
end
end Em
namespace Em
open Gs Tr
def At64(w:Ac)(base:Nat)(v:As)(N:Nat)(f:Nat→Int):Prop:=0<N→ ∃b o c,v=U (I ⟨b,o,G⟩) N c∧N≤c∧b<base∧ ∀i,i<N→w.cell? ⟨b,o+i,G⟩=I (J Z (f i))
theorem At64.fr{w w':Ac}{base N:Nat}{v:As}{f:Nat→Int}{S:AG}(h:At64 w base v N f)(k:Fr S w w')(hb:base≤↑w)(hs: ∀q,q<base→ ¬S q):At64 w' base v N f:=λhN=>by
 obtain⟨b,o,c,e,hc,hlt,hf⟩:=h hN;exact⟨b,o,c,e,hc,hlt,λi hi=>k.cell (hf i hi) (by show b<↑w;omega) (hs b hlt)⟩
structure Pln(w:Ac)(base N:Nat)(Q:Nat→As)(pl:Pl):Prop where
 reg:At64 w base (Q 14) N pl.reg
 slot:At64 w base (Q 15) N pl.slot
 form: ∀n,n<N→Plc pl n
 n64:N≤64
section
variable {w w':Ac} {base N B:Nat} {p p':Ep} {s s':Es} {Q:Nat→As} {pl:Pl}
theorem Pln.fr0(h:Pln w base N Q pl)(f:Fr Aj w w')(hb:base≤↑w):Pln w' base N Q pl:=⟨h.reg.fr f hb (λ_ _ e=>e),h.slot.fr f hb (λ_ _ e=>e),h.form,h.n64⟩
theorem Pln.lk(h:Pln w base N Q pl)(hE:Em w base p s Q B)(k:Elk w w' p p'):Pln w' base N Q pl:=by
 have hb:base≤↑w:=Nat.le_of_lt (Nat.lt_of_le_of_lt hE.g0 hE.b.lt);exact⟨h.reg.fr k.f hb (λq hq e=>by have:=hE.ge q e;omega),h.slot.fr k.f hb (λq hq e=>by have:=hE.ge q e;omega),h.form,h.n64⟩
end
section
variable (w:Ac) (base:Nat) (p:Ep) (l:List HI) (fx:List Nat) (Q:Nat→As) (B:Nat)
theorem PG(h:Em w base p ⟨l,fx⟩ Q B)(hB:B≤80000)(r:Nat):At Tryz.prog 192 #[↑p.g,J Z r] w (EPost w base p ⟨l++[⟨17,0,r,0,0⟩],fx++[l.length]⟩ Q (B+2) (AD #[])):=by
 obtain⟨i0,hi0,hz0,hz1,hz2⟩:=BH infoI;have c17:w.cell? ⟨p.g,17,G⟩=I (U p.L l.length p.lc):=h.b.cell 17 O;have c18:w.cell? ⟨p.g,18,G⟩=I (U p.X fx.length p.xc):=h.b.cell 18 O;have y18:=h.b.frozen 18;have hlen:=h.len;have hb:=JW;have hgl:=h.b.lt;dsimp only at hlen;have hx:w.ownsRow base 3 1 (U p.X fx.length p.xc) fx.length (fxV fx):=h.x;have H:=T h;have hgX:=T h.gX;generalize hm:l.length=m at*;generalize hk:fx.length=k at*;have HM:=T hm;have HK:=T hk;obtain⟨w0,hw0⟩: ∃w0,w0=(w.drew.alloc (.cells #[J Z (m:Int)] 3)):=⟨_,rfl⟩;have hx0:=T (CH (w:=w.drew) hx (.cells #[J Z (m:Int)] 3));have hrd:Hid (Reads (w.drew.alloc (.cells #[J Z (m:Int)] 3)) (↑w+1) 1 (I ⟨↑w,0,G⟩) 1 [J Z (m:Int)]):=T (Cn (AH w.drew 3 #[J Z (m:Int)]) rfl);have B0:=T (h.b.drew.alloc (.cells #[J Z (m:Int)] 3));clear h hm hk hx hw0 w0;go_in;go_wp2_with fail;go_region_law (
  refine DP _ rfl (.tmp 8) (.tmp 14) 22 rfl base 3 i0 _ 1 8 CV hi0 hz0 hz1 hz2 rfl O (U p.X k p.xc) k (fxV fx) Bh hx0.out (w.heap.size+1) (I ⟨w.heap.size,0,G⟩) 1 1 [J Z (m:Int)] Bh hrd.out CL Bu O A8 ?_
  intro v1 w1 hown1 hg1 hat1
  obtain⟨A1,c1,rfl⟩:=own_form hown1
  have b1:=B0.out.fr (S:=λq=>ab p.X=I q) ((Ao _ _).grown hg1 (λq hq=> Ag (own_ab hq))) (λe=>hgX.out e)
  have y18:=b1.frozen 18
  have k18:=b1.cell 18 O
  have hgl1:=b1.lt)
 all_goals
  have f01:Fr Aj w (w.drew.alloc (.cells #[J Z (m:Int)] 3)):=((Ao _ w).drew).alloc _;have fg:Fr (λq=>ab p.X=I q) w w1:=(f01.mono (λ_ _ e=>e.elim)).grown hg1 (λq hq=> Ag (own_ab hq));have f2:Fr (· =p.g) w1 (w1.setCell ⟨p.g,18,G⟩ (U A1 (k+1) c1)):=Bc _ _ _ _;have hsz:w.heap.size+1≤w1.heap.size:=by have:=hg1.size;simpa using this
  have hnew: ∀q,ab A1=I q→ab p.X=I q∨w.heap.size≤q:=λq hq=>by
   have e:=ab_own hown1 hq;rcases hat1 with e2|e2;·exact HH
   ·rw[e2] at e;exact Ah (by have:↑w+1=q:=(by simpa using e);omega)
  have hgA:ab A1≠I p.g:=λe=>by
   rcases hnew _ e with e|e;·exact hgX.out e
   ·omega
  have em:(fx++[l.length]).length=k+1:=by rw[BJ,HK.out];rfl
  have E7:Hid (Em (w1.setCell ⟨p.g,18,G⟩ (U A1 (k+1) c1)) base ⟨p.g,p.L,p.lc,A1,c1⟩ ⟨l,fx++[l.length]⟩ Q (B+1)):=T (by
   refine⟨?_,own_fr (own_fr H.out.l fg (λq hq e=>H.out.LX q (own_ab hq) e)) f2 (λq hq e=>H.out.gL EH), ?_,H.out.g0,⟨by show l.length≤B+1;have:=H.out.len.1;dsimp only at this;omega,by show(fx++[l.length]).length≤B+1;rw[em];have:=H.out.len.2;dsimp only at this;rw[HK.out] at this;omega⟩⟩;·show Cells _ p.g 261 19 (emF Q (U p.L l.length p.lc) (U A1 (fx++[l.length]).length c1));rw[em];exact(b1.set_ 18 _).congr (emF18 _)
   ·show World.ownsRow _ base 3 1 (U A1 (fx++[l.length]).length c1) (fx++[l.length]).length (fxV (fx++[l.length]));rw[em];have e2:fxV (fx++[l.length])=fxV fx++[J Z (m:Int)]:=by rw[←HM.out];simp[fxV]
    rw[e2];exact own_fr hown1 f2 (λq hq e=>hgA EH))
  have K7:Hid (Elk w (w1.setCell ⟨p.g,18,G⟩ (U A1 (k+1) c1)) p ⟨p.g,p.L,p.lc,A1,c1⟩):=T ⟨rfl,λq hq=>by
   rcases hq with e|e|e;·exact Ee
   ·exact EA
   ·rcases hnew q e with e|e;·exact Ag (Ah (Ah e))
    ·exact Ah e,(fg.mono (λq _ e=> Ah (Ah e))).trans f2 (λq _ e=> Ag e)⟩
  clear f01 fg f2 hsz hnew hgA em hown1 hg1 hat1 b1 y18 k18 hgl1 c17 c18 hx0 hrd B0;generalize hW:w1.setCell ⟨p.g,18,G⟩ (U A1 (k+1) c1)=W at*;clear hW;go_wp2_with fail;refine(add_one W base ⟨p.g,p.L,p.lc,A1,c1⟩ ⟨l,fx++[l.length]⟩ Q (B+1) ⟨17,0,r,0,0⟩ _ rfl E7.out O).mono ?_;rintro e w' ⟨rfl,HQ⟩
  go_wp2
  go_end0;rw[←HM.out];exact EPost.then K7.out HQ.out
theorem At64.cell{w:Ac}{base N:Nat}{v:As}{f:Nat→Int}(h:At64 w base v N f){n:Nat}(hn:n<N): ∃b o c,v=U (I ⟨b,o,G⟩) N c∧N≤c∧w.cell? ⟨b,o+n,G⟩=I (J Z (f n)):=by
 obtain⟨b,o,c,e,hc,_,hf⟩:=h O;exact⟨b,o,c,e,hc,hf n hn⟩
theorem to_any(N:Nat)(pl:Pl)(h:Em w base p ⟨l,fx⟩ Q B)(hP:Pln w base N Q pl)(n:Nat)(hn:n<N):At Tryz.prog 193 #[↑p.g,J Z n] w λe w'=>e=Ax (J Z (getR pl n 9))∧w=w':=by
 obtain⟨b,o,c,e,hc,hf⟩:=hP.reg.cell hn;have h64:=hP.n64;have c14:=JX;rw[e] at c14;have hform:=hP.form n hn;clear h hP e;by_cases hr:0≤pl.reg n;·have e1:((getR pl n 9:Nat):Int)=pl.reg n:=PH;rw[e1];have hb:decide (pl.reg n≥0)=Af:=EK;exact PJ
 ·have e1:getR pl n 9=9:=by unfold getR;rw[Ae hr]
  rw[e1];have hb:decide (pl.reg n≥0)=Aa:=EK;exact PJ
theorem get_any(N:Nat)(pl:Pl)(h:Em w base p ⟨l,fx⟩ Q B)(hB:B≤80000)(hP:Pln w base N Q pl)(n:Nat)(hn:n<N)(into:Nat):At Tryz.prog 194 #[↑p.g,J Z n,J Z into] w (EPost w base p ⟨l++getC pl n into,fx⟩ Q (B+1) (J Z (getR pl n into))):=by
 obtain⟨b,o,c,e,hc,hf⟩:=hP.reg.cell hn;obtain⟨b2,o2,c2,e2,hc2,hf2⟩:=hP.slot.cell hn;have h64:=hP.n64;have c14:=JX;have c15:=PK;rw[e] at c14;rw[e2] at c15;have hform:=hP.form n hn;have H:=T h;clear h hP e e2;by_cases hr:0≤pl.reg n
 ·have e1:((getR pl n into:Nat):Int)=pl.reg n:=PH;have e2:getC pl n into=[]:=by unfold getC;rw[An hr]
  rw[e1,e2];have hb:decide (pl.reg n≥0)=Af:=EK;generalize pl.reg n=x at*;clear e1 e2 hf2 c15 hform;go_in
  go_wp2
  go_ret;exact PM
 ·have e1:getR pl n into=into:=by unfold getR;rw[Ae hr]
  have e2:getC pl n into=[hld into 15 (slotA pl n)]:=by unfold getC;rw[Ae hr]
  rw[e1,e2];have hb:decide (pl.reg n≥0)=Aa:=EK;have hs:=PN;have hw:=PP;have hs0:=hs.1;have hs1:=hs.2;have hwi:64+pl.slot n=slotA pl n:=JH;generalize pl.reg n=x at*;clear e1 e2 hform hs;go_in;go_wp2_with fail;refine(ld_any _ base p _ Q _ H.out O into 15 (slotA pl n)).mono ?_;intro e w1 hq;obtain⟨rfl,p1,k1,e1⟩:=hq.elim;have HX:=T (A9 k1 e1);clear hq k1 e1
  go_wp2
  go_ret;exact EPost.of HX.out.1 HX.out.2
theorem keep_any(N:Nat)(pl:Pl)(h:Em w base p ⟨l,fx⟩ Q B)(hB:B≤80000)(hP:Pln w base N Q pl)(n:Nat)(hn:n<N)(r:Nat):At Tryz.prog 197 #[↑p.g,J Z n,J Z r] w (EPost w base p ⟨l++keepC pl n r,fx⟩ Q (B+1) (AD #[])):=by
 obtain⟨b,o,c,e,hc,hf⟩:=hP.reg.cell hn;obtain⟨b2,o2,c2,e2,hc2,hf2⟩:=hP.slot.cell hn;have h64:=hP.n64;have c14:=JX;have c15:=PK;rw[e] at c14;rw[e2] at c15;have hform:=hP.form n hn;have H:=T h;clear h hP e e2;by_cases hr:0≤pl.reg n
 ·have e2:keepC pl n r=[]:=by unfold keepC;rw[Ae (by omega)]
  rw[e2];have hb:decide (pl.reg n<0)=Aa:=EK;generalize pl.reg n=x at*;clear e2 hf2 c15 hform;go_in
  go_wp2
  go_end0;exact PM
 ·have e2:keepC pl n r=[hst 15 (slotA pl n) r]:=by unfold keepC;rw[An (by omega)]
  rw[e2];have hb:decide (pl.reg n<0)=Af:=A8;have hs:=PN;have hw:=PP;have hs0:=hs.1;have hs1:=hs.2;have hwi:64+pl.slot n=slotA pl n:=JH;generalize pl.reg n=x at*;clear e2 hform hs;go_in;go_wp2_with fail;refine(st_any _ base p _ Q _ H.out O 15 (slotA pl n) r).mono ?_;intro e w1 hq;obtain⟨rfl,p1,k1,e1⟩:=hq.elim;have HX:=T (A9 k1 e1);clear hq k1 e1
  go_wp2
  go_end0;exact EPost.of HX.out.1 HX.out.2
end
end Em
namespace Em
open Gs Tr
section
variable (w:Ac) (base:Nat) (p:Ep) (l:List HI) (fx:List Nat) (Q:Nat→As) (B:Nat)
theorem flag_any(h:Em w base p ⟨l,fx⟩ Q B)(hB:B≤70000)(op:Int)(h0:16≤op)(h1:op≤25)(h2:op≠24)(a b:Nat):At Tryz.prog 196 #[↑p.g,J V op,J Z a,J Z b] w (EPost w base p ⟨l++flagC op a b,fx⟩ Q (B+40) (AD #[])):=by
 have H:=T h;clear h;by_cases c16:op=16
 ·subst c16;go_in;go_wp2_with fail;refine ego (alu_any _ base p _ _ Q _ H.out O 16 O O O 9 a b) ?_;intro w1 L1 lc1 X1 xc1 K1 E1;go_wp2_with fail;refine ego (op_any _ base _ _ Q _ E1.out O 13 10 9 15) ?_;intro w2 L2 lc2 X2 xc2 K2 E2;replace K2:=T (K1.out.tr K2.out);go_wp2_with fail;refine ego (Gf _ base _ _ _ Q _ E2.out O 11 9) ?_;intro w3 L3 lc3 X3 xc3 K3 E3;replace K3:=T (K2.out.tr K3.out);go_wp2_with fail;refine ego (bit_any _ base _ _ _ Q _ E3.out O 11 1) ?_;intro w4 L4 lc4 X4 xc4 K4 E4;replace K4:=T (K3.out.tr K4.out);go_wp2_with fail;refine ego (op_any _ base _ _ Q _ E4.out O 12 11 9 a) ?_;intro w5 L5 lc5 X5 xc5 K5 E5;replace K5:=T (K4.out.tr K5.out);go_wp2_with fail;refine ego (bit_any _ base _ _ _ Q _ E5.out O 11 2) ?_;intro w6 L6 lc6 X6 xc6 K6 E6;replace K6:=T (K5.out.tr K6.out);go_wp2_with fail;refine ego (op_any _ base _ _ Q _ E6.out O 7 11 a 9) ?_;intro w7 L7 lc7 X7 xc7 K7 E7;replace K7:=T (K6.out.tr K7.out);go_wp2_with fail;refine ego (op_any _ base _ _ Q _ E7.out O 7 12 b 9) ?_;intro w8 L8 lc8 X8 xc8 K8 E8;replace K8:=T (K7.out.tr K8.out);go_wp2_with fail;refine ego (op_any _ base _ _ Q _ E8.out O 5 11 11 12) ?_;intro w9 L9 lc9 X9 xc9 K9 E9;replace K9:=T (K8.out.tr K9.out);go_wp2_with fail;refine ego (Gf _ base _ _ _ Q _ E9.out O 11 11) ?_;intro w10 L10 lc10 X10 xc10 K10 E10;replace K10:=T (K9.out.tr K10.out);go_wp2_with fail;refine ego (bit_any _ base _ _ _ Q _ E10.out O 11 3) ?_;intro w11 L11 lc11 X11 xc11 K11 E11;replace K11:=T (K10.out.tr K11.out)
  go_wp2
  go_end0;exact epost_le (EPost.of K11.out E11.out) PR O
 by_cases c17:op=17;·subst c17;go_in;go_wp2_with fail;refine ego (alu_any _ base p _ _ Q _ H.out O 17 O O O 9 a b) ?_;exact PS
 by_cases c25:op=25;·subst c25;go_in;go_wp2_with fail;refine ego (alu_any _ base p _ _ Q _ H.out O 25 O O O 9 a b) ?_;exact PS
 ·have n16:(op==16)=Aa:=by simpa using c16
  have n17:(op==17)=Aa:=by simpa using c17
  have n25:(op==25)=Aa:=by simpa using c25
  have HC:=T (A9 c16 (A9 c17 c25));clear c16 c17 c25;go_in;go_wp2_with fail;refine ego (alu_any _ base p _ _ Q _ H.out O op O O O 9 a b) ?_;intro w1 L1 lc1 X1 xc1 K1 E1;go_wp2_with fail;refine ego (op_any _ base _ _ Q _ E1.out O 13 10 9 15) ?_;intro w2 L2 lc2 X2 xc2 K2 E2;replace K2:=T (K1.out.tr K2.out);go_wp2_with fail;refine ego (Gf _ base _ _ _ Q _ E2.out O 11 9) ?_;intro w3 L3 lc3 X3 xc3 K3 E3;replace K3:=T (K2.out.tr K3.out);go_wp2_with fail;refine ego (bit_any _ base _ _ _ Q _ E3.out O 11 1) ?_;intro w4 L4 lc4 X4 xc4 K4 E4;replace K4:=T (K3.out.tr K4.out)
  go_wp2
  go_end0;obtain⟨c16,c17,c25⟩:=HC.out;exact epost_le (EPost.of K4.out E4.out) (by simp[flagC,c16,c17,c25]) O
end
end Em
namespace Em
open Gs Tr
theorem Vn{w w':Ac}{base:Nat}{p:Ep}{l l':List HI}{fx fx':List Nat}{Q:Nat→As}{B B':Nat}{v:As}{e:AT}(h:EPost w base p ⟨l,fx⟩ Q B v e w')(hl:l=l')(hf:fx=fx')(hb:B≤B'):EPost w base p ⟨l',fx'⟩ Q B' v e w':=hf▸hl▸h.le hb
section
variable (w:Ac) (base:Nat) (p:Ep) (l:List HI) (fx:List Nat) (Q:Nat→As) (B:Nat)
theorem room_yes(h:Em w base p ⟨l,fx⟩ Q B)(hB:B≤70000)(bs:Nat)(word:Int)(need high out:Nat)(h1:need≤16)(h2:high≤16)(h3:out≤64)(hm: ¬mostV high need out<need):At Tryz.prog 139 #[↑p.g,J Z bs,J V word,J Z need,J Z high,J Z out] w (EPost w base p ⟨l++roomC bs word need (mostV high need out) 0,fx++[l.length+3,l.length+6]⟩ Q (B+20) (Ap Af)):=by
 have H:=T h;clear h;by_cases hq:16+(need:Int) -out<16 -(high:Int);·have em:=PT;rw[em] at hm⊢;have hlt:decide (16+(need:Int) -out<(need:Int))=Aa:=FU;have hm0:0≤16+(need:Int) -out:=O;have hm1:16+(need:Int) -out≤100:=O;have hwr:IntKind.u32.wrap (16+(need:Int) -out)=16+(need:Int) -out:=CU;exact PU
 ·have em:=PV;rw[em] at hm⊢;have hlt:decide (16 -(high:Int)<(need:Int))=Aa:=FU;have hm0:0≤16 -(high:Int):=O;have hm1:16 -(high:Int)≤100:=O;have hwr:IntKind.u32.wrap (16 -(high:Int))=16 -(high:Int):=CU;exact PU
theorem room_no(h:Em w base p ⟨l,fx⟩ Q B)(bs:Nat)(word:Int)(need high out:Nat)(h1:need≤16)(h2:high≤16)(h3:out≤64)(hm:mostV high need out<need):At Tryz.prog 139 #[↑p.g,J Z bs,J V word,J Z need,J Z high,J Z out] w λe w'=>e=Ax (Ap Aa)∧w=w':=by
 clear h;by_cases hq:16+(need:Int) -out<16 -(high:Int);·have em:=PT;rw[em] at hm;have hlt:decide (16+(need:Int) -out<(need:Int))=Af:=FU;exact PX
 ·have em:=PV;rw[em] at hm;have hlt:decide (16 -(high:Int)<(need:Int))=Af:=FU;exact PX
end
end Em
namespace Em
open Gs Tr
abbrev iiA(x:IIn):AL:=#[J Z x.op,J Z x.dst,J Z x.a,J Z x.b,J V x.imm]
structure Pq(Q:Nat→As)(pg:Pg):Prop where
 nd:Q 1=J Z pg.nd
 nr:Q 2=J Z pg.nr
 hd:Q 3=J Z pg.hd
 hr:Q 4=J Z pg.hr
 fl:Q 7=J Z pg.fl
 nx:Q 8=J V pg.nx
 tg:Q 9=J Z pg.tg
 br:Q 10=J Z pg.br
 tk:Q 11=J V pg.tk
 ct:Q 12=J Z pg.ct
section
variable (w:Ac) (base:Nat) (p:Ep) (l:List HI) (fx:List Nat) (Q:Nat→As) (B:Nat) (N:Nat) (pl:Pl) (pg:Pg)
theorem get_k(k:Int)(h:Em w base p ⟨l,fx⟩ Q B)(hB:B≤80000)(hP:Pln w base N Q pl)(n:Nat)(hn:n<N)(into:Nat)(hk:(into:Int)=k):At Tryz.prog 194 #[↑p.g,J Z n,J Z k] w (EPost w base p ⟨l++getC pl n into,fx⟩ Q (B+1) (J Z (getR pl n into))):=by
 subst hk;exact get_any w base p l fx Q B N pl h hB hP n hn into
theorem one_04(h:Em w base p ⟨l,fx⟩ Q B)(hB:B≤60000)(hP:Pln w base N Q pl)(hQ:Pq Q pg)(n:Nat)(hn:n<N)(x:IIn)(hm:MadeOk pg.nd pg.nr x n)(hnd:pg.nd≤16)(hnr:pg.nr≤16)(hx:x.op=0∨x.op=1∨x.op=2∨x.op=3∨x.op=4):At Tryz.prog 140 #[↑p.g,J Z n,AA (iiA x)] w (EPost w base p ⟨l++oneC pg pl n x,fx⟩ Q (B+60) (AD #[])):=by
 have hb:=JW;have hgl:=h.b.lt;have hn64:n<64:=AW hn hP.n64;obtain⟨xop,dst,xa,xb,imm⟩:=x;have f0:Fr Aj w (w.alloc (.cells (iiA ⟨xop,dst,xa,xb,imm⟩) 265)):=(Ao _ w).alloc _;have HBX:Hid (∀W,Fr p.its (w.alloc (.cells (iiA ⟨xop,dst,xa,xb,imm⟩) 265)) W→Blk W ↑w 265 (iiA ⟨xop,dst,xa,xb,imm⟩)):=T (λW f=>(AH w 265 (iiA ⟨xop,dst,xa,xb,imm⟩)).fr f (λe=>by have:=h.lt _ e;omega));have H:=T (h.fr0 f0);have HP:=T (hP.fr0 f0 hb);have HQ:=T hQ;have F0:=T f0;have him0:=hm.imm.1;have him1:=hm.imm.2;have HM:=T hm;dsimp only at him0 him1;have hb0:=AH w 265 (iiA ⟨xop,dst,xa,xb,imm⟩);have c0:=hb0.cell 0;have c4:=hb0.cell 4;have hH:=T h;clear h hP hQ f0 hm;obtain⟨rd,hrd⟩:=Az (getR pl n 9);have HRD:=T hrd;have Hto:=T (to_any _ base p l fx Q B N pl H.out HP.out n hn);rw[hrd] at Hto;clear hrd;dsimp only at hx;rcases hx with rfl|rfl|rfl|rfl|rfl
 ·go_in;go_wp2_with fail;refine Ay Hto ?_;rintro e w1 ⟨rfl,rfl⟩;go_wp2_with fail;refine ego (li_any _ base p _ Q _ H.out O rd imm) ?_;intro w2 L2 lc2 X2 xc2 K2 E2;have bx2:=HBX.out _ K2.out.f;go_wp2_with fail;refine ego (keep_any _ base _ _ _ Q _ N pl E2.out O (HP.out.lk H.out K2.out) n hn rd) ?_;intro w9 L9 lc9 X9 xc9 K9 E9;replace K9:=T (K2.out.tr K9.out)
  go_wp2
  go_end0;exact epost_le (EPost.of (Elk.from0 F0.out K9.out) E9.out) Gg O
 ·have hlt:imm<pg.nd:=(HM.out.arg rfl).2;have c1:(w.alloc (.cells (iiA ⟨1,dst,xa,xb,imm⟩) 265)).cell? ⟨p.g,1,G⟩=I (J Z pg.nd):=by rw[←HQ.out.nd];exact H.out.b.cell 1 (by omega)
  have hnd0:(0:Int)≤pg.nd:=O;have hnd1:(pg.nd:Int)≤16:=O;have W1:IntKind.i64.wrap (4+(pg.nd:Int))=4+pg.nd:=Du _ O;have W2:IntKind.i64.wrap (4+(pg.nd:Int) -1)=4+pg.nd -1:=Du _ O;have W3:=PY;have W4:IntKind.i64.wrap (4+(pg.nd:Int) -1 -imm)=4+pg.nd -1 -imm:=Du _ O;have W5:IntKind.u32.wrap (4+(pg.nd:Int) -1 -imm)=4+pg.nd -1 -imm:=CU;have q0:0≤4+(pg.nd:Int) -1 -imm:=O;have HQ1:=T HQ.out.nd;go_in;go_wp2_with fail;refine Ay Hto ?_;rintro e w1 ⟨rfl,rfl⟩;go_upto_region 6 with(fail);go_region_held (λW=>W.cell? ⟨p.g,1,G⟩=I (J Z pg.nd)∧W.cell? ⟨↑w,4,G⟩=I (J V imm)) (first|exact⟨c1,c4⟩|exact⟨s1,s4⟩)
   ((refine(ld_any _ base p _ Q _ (H.out.fr0 (Ao Aj _).drew) O rd 14 _).mono ?_;intro e w2 hq;obtain⟨rfl,⟨g2,L2,lc2,X2,xc2⟩,k2,e2⟩:=hq.elim;obtain rfl:g2=p.g:=k2.g;have K2:=T (Elk.from0 (Ao Aj _).drew k2);have E2:=T e2;have bx2:=HBX.out _ K2.out.f;clear hq k2 e2;have s1:w2.cell? ⟨p.g,1,G⟩=I (J Z pg.nd):=(by rw[←HQ1.out];exact E2.out.b.cell 1 (by omega));have s4:w2.cell? ⟨↑w,4,G⟩=I (J V imm):=bx2.cell 4))
  all_goals
   skip
   go_wp2_with fail;refine ego (keep_any _ base _ _ _ Q _ N pl E2.out O (HP.out.lk H.out K2.out) n hn rd) ?_;intro w9 L9 lc9 X9 xc9 K9 E9;replace K9:=T (K2.out.tr K9.out)
   go_wp2
   go_end0;exact epost_le (EPost.of (Elk.from0 F0.out K9.out) E9.out) Gg O
 ·have hlt:imm<pg.nr:=(HM.out.ret rfl).2;have c1:(w.alloc (.cells (iiA ⟨2,dst,xa,xb,imm⟩) 265)).cell? ⟨p.g,2,G⟩=I (J Z pg.nr):=by rw[←HQ.out.nr];exact H.out.b.cell 2 (by omega)
  have hnr0:(0:Int)≤pg.nr:=O;have hnr1:(pg.nr:Int)≤16:=O;have W1:IntKind.i64.wrap (20+(pg.nr:Int))=20+pg.nr:=Du _ O;have W2:IntKind.i64.wrap (20+(pg.nr:Int) -1)=20+pg.nr -1:=Du _ O;have W3:=PY;have W4:IntKind.i64.wrap (20+(pg.nr:Int) -1 -imm)=20+pg.nr -1 -imm:=Du _ O;have W5:IntKind.u32.wrap (20+(pg.nr:Int) -1 -imm)=20+pg.nr -1 -imm:=CU;have q0:0≤20+(pg.nr:Int) -1 -imm:=O;have HQ1:=T HQ.out.nr;go_in;go_wp2_with fail;refine Ay Hto ?_;rintro e w1 ⟨rfl,rfl⟩;go_upto_region 8 with(fail);go_region_held (λW=>W.cell? ⟨p.g,2,G⟩=I (J Z pg.nr)∧W.cell? ⟨↑w,4,G⟩=I (J V imm)) (first|exact⟨c1,c4⟩|exact⟨s1,s4⟩)
   ((refine(ld_any _ base p _ Q _ (H.out.fr0 (Ao Aj _).drew) O rd 13 _).mono ?_;intro e w2 hq;obtain⟨rfl,⟨g2,L2,lc2,X2,xc2⟩,k2,e2⟩:=hq.elim;obtain rfl:g2=p.g:=k2.g;have K2:=T (Elk.from0 (Ao Aj _).drew k2);have E2:=T e2;have bx2:=HBX.out _ K2.out.f;clear hq k2 e2;have s1:w2.cell? ⟨p.g,2,G⟩=I (J Z pg.nr):=(by rw[←HQ1.out];exact E2.out.b.cell 2 (by omega));have s4:w2.cell? ⟨↑w,4,G⟩=I (J V imm):=bx2.cell 4))
  all_goals
   skip
   go_wp2_with fail;refine ego (keep_any _ base _ _ _ Q _ N pl E2.out O (HP.out.lk H.out K2.out) n hn rd) ?_;intro w9 L9 lc9 X9 xc9 K9 E9;replace K9:=T (K2.out.tr K9.out)
   go_wp2
   go_end0;exact epost_le (EPost.of (Elk.from0 F0.out K9.out) E9.out) Gg O
 ·have hab:=HM.out.ab (by show 3≤3;omega);have hopx:=HM.out.alu rfl;dsimp only at hab hopx;have ha:xa<N:=O;have hb2:xb<N:=O;have c2:(w.alloc (.cells (iiA ⟨3,dst,xa,xb,imm⟩) 265)).drew.cell? ⟨↑w,2,G⟩=I (J Z xa):=hb0.drew.cell 2;have c3:(w.alloc (.cells (iiA ⟨3,dst,xa,xb,imm⟩) 265)).drew.cell? ⟨↑w,3,G⟩=I (J Z xb):=hb0.drew.cell 3;have hbz:base≤(w.alloc (.cells (iiA ⟨3,dst,xa,xb,imm⟩) 265)).heap.size:=A8;have Hg1:=T (get_k (w.alloc (.cells (iiA ⟨3,dst,xa,xb,imm⟩) 265)).drew base p l fx Q B N pl 7 (H.out.fr0 (Ao Aj _).drew) O (HP.out.fr0 (Ao Aj _).drew hbz) xa ha 7 rfl);go_in;go_wp2_with fail;refine Ay Hto ?_;rintro e w1 ⟨rfl,rfl⟩;go_upto_region 10 with(fail);go_region_held (λW=>W.cell? ⟨↑w,2,G⟩=I (J Z xa)∧W.cell? ⟨↑w,3,G⟩=I (J Z xb)) (first|with_reducible exact⟨c2,c3⟩|with_reducible exact⟨s2,s3⟩|with_reducible exact⟨t2,t3⟩)
   (first
   |((with_reducible refine Ay Hg1 ?_);intro e w2 hq;obtain⟨rfl,⟨g2,L2,lc2,X2,xc2⟩,k2,e2⟩:=hq.elim;obtain rfl:g2=p.g:=k2.g;have K2:=T (Elk.from0 (Ao Aj _).drew k2);have E2:=T e2;have bx2:=HBX.out _ K2.out.f;clear hq k2 e2;have s2:w2.cell? ⟨↑w,2,G⟩=I (J Z xa):=bx2.cell 2;have s3:w2.cell? ⟨↑w,3,G⟩=I (J Z xb):=bx2.cell 3)
   |((with_reducible refine(get_k _ base _ _ _ Q _ N pl 8 E2.out O (HP.out.lk H.out K2.out) xb hb2 8 rfl).mono ?_);intro e w3 hq;obtain⟨rfl,⟨g3,L3,lc3,X3,xc3⟩,k3,e3⟩:=hq.elim;obtain rfl:g3=p.g:=k3.g;have K3:=T (K2.out.tr k3);have E3:=T e3;have bx3:=HBX.out _ K3.out.f;clear hq k3 e3;have t2:w3.cell? ⟨↑w,2,G⟩=I (J Z xa):=bx3.cell 2;have t3:w3.cell? ⟨↑w,3,G⟩=I (J Z xb):=bx3.cell 3;have t4:w3.cell? ⟨↑w,4,G⟩=I (J V imm):=bx3.cell 4))
  all_goals
   skip
   go_wp2_with fail;refine ego (alu_any _ base _ _ _ Q _ E3.out O imm O O O rd (getR pl xa 7) (getR pl xb 8)) ?_;intro w4 L4 lc4 X4 xc4 K4 E4;replace K4:=T (K3.out.tr K4.out);have bx4:=HBX.out _ K4.out.f;go_wp2_with fail;refine ego (keep_any _ base _ _ _ Q _ N pl E4.out O (HP.out.lk H.out K4.out) n hn rd) ?_;intro w9 L9 lc9 X9 xc9 K9 E9;replace K9:=T (K4.out.tr K9.out)
   go_wp2
   go_end0;exact epost_le (EPost.of (Elk.from0 F0.out K9.out) E9.out) Gg O
 ·have hab:=HM.out.ab (by show 3≤4;omega);have hopx:=HM.out.flg rfl;dsimp only at hab hopx;have ha:xa<N:=O;have hb2:xb<N:=O;have c2:(w.alloc (.cells (iiA ⟨4,dst,xa,xb,imm⟩) 265)).drew.cell? ⟨↑w,2,G⟩=I (J Z xa):=hb0.drew.cell 2;have c3:(w.alloc (.cells (iiA ⟨4,dst,xa,xb,imm⟩) 265)).drew.cell? ⟨↑w,3,G⟩=I (J Z xb):=hb0.drew.cell 3;have hbz:base≤(w.alloc (.cells (iiA ⟨4,dst,xa,xb,imm⟩) 265)).heap.size:=A8;have Hg1:=T (get_k (w.alloc (.cells (iiA ⟨4,dst,xa,xb,imm⟩) 265)).drew base p l fx Q B N pl 7 (H.out.fr0 (Ao Aj _).drew) O (HP.out.fr0 (Ao Aj _).drew hbz) xa ha 7 rfl);go_in;go_wp2_with fail;refine Ay Hto ?_;rintro e w1 ⟨rfl,rfl⟩;go_upto_region 13 with(fail);go_region_held (λW=>W.cell? ⟨↑w,2,G⟩=I (J Z xa)∧W.cell? ⟨↑w,3,G⟩=I (J Z xb)) (first|with_reducible exact⟨c2,c3⟩|with_reducible exact⟨s2,s3⟩|with_reducible exact⟨t2,t3⟩)
   (first
   |((with_reducible refine Ay Hg1 ?_);intro e w2 hq;obtain⟨rfl,⟨g2,L2,lc2,X2,xc2⟩,k2,e2⟩:=hq.elim;obtain rfl:g2=p.g:=k2.g;have K2:=T (Elk.from0 (Ao Aj _).drew k2);have E2:=T e2;have bx2:=HBX.out _ K2.out.f;clear hq k2 e2;have s2:w2.cell? ⟨↑w,2,G⟩=I (J Z xa):=bx2.cell 2;have s3:w2.cell? ⟨↑w,3,G⟩=I (J Z xb):=bx2.cell 3)
   |((with_reducible refine(get_k _ base _ _ _ Q _ N pl 8 E2.out O (HP.out.lk H.out K2.out) xb hb2 8 rfl).mono ?_);intro e w3 hq;obtain⟨rfl,⟨g3,L3,lc3,X3,xc3⟩,k3,e3⟩:=hq.elim;obtain rfl:g3=p.g:=k3.g;have K3:=T (K2.out.tr k3);have E3:=T e3;have bx3:=HBX.out _ K3.out.f;clear hq k3 e3;have t2:w3.cell? ⟨↑w,2,G⟩=I (J Z xa):=bx3.cell 2;have t3:w3.cell? ⟨↑w,3,G⟩=I (J Z xb):=bx3.cell 3;have t4:w3.cell? ⟨↑w,4,G⟩=I (J V imm):=bx3.cell 4))
  all_goals
   skip
   go_wp2_with fail;refine ego (flag_any _ base _ _ _ Q _ E3.out O imm O O O (getR pl xa 7) (getR pl xb 8)) ?_;intro w4 L4 lc4 X4 xc4 K4 E4;replace K4:=T (K3.out.tr K4.out);have bx4:=HBX.out _ K4.out.f;go_wp2_with fail;refine(add_one _ base _ _ Q _ (hop 2 rd 10 0) _ rfl E4.out O).mono ?_;rintro e w5 ⟨rfl,HQ5⟩;obtain⟨_,⟨g5,L5,lc5,X5,xc5⟩,k5,e5⟩:=HQ5.out.elim;obtain rfl:g5=p.g:=k5.g;have K5:=T (K4.out.tr k5);have E5:=T e5;clear HQ5 k5 e5;go_wp2_with fail;refine ego (keep_any _ base _ _ _ Q _ N pl E5.out O (HP.out.lk H.out K5.out) n hn rd) ?_;intro w9 L9 lc9 X9 xc9 K9 E9;replace K9:=T (K5.out.tr K9.out)
   go_wp2
   go_end0;exact epost_le (EPost.of (Elk.from0 F0.out K9.out) E9.out) Gg O
end
end Em
namespace Tr
open Gs
def meetB(tt:Nat→Nat)(a b:Nat):Bool:=(decide (a<tt b)&&decide (b<tt a))||decide (a=b)
theorem Qf(tt:Nat→Nat)(a b:Nat):meetB tt a b=meetB tt b a:=by
 by_cases h1:a<tt b<;>by_cases h2:b<tt a<;>by_cases h3:a=b<;>simp[meetB,h1,h2,h3,eq_comm]
structure PI(tt:Nat→Nat)(k:Nat)(reg slot:Nat→Int):Prop where
 form: ∀n,n<k→(0≤reg n∧reg n<7∧slot n= -1)∨(reg n= -1∧0≤slot n∧slot n≤64)
 none: ∀n,k≤n→reg n= -1∧slot n= -1
 reg: ∀a b,a≠b→a<k→b<k→meetB tt a b=Af→0≤reg b→reg a≠reg b
 slot: ∀a b,a≠b→a<k→b<k→meetB tt a b=Af→0≤slot b→slot a≠slot b
def FreeR(tt:Nat→Nat)(place:Nat→Int)(n:Nat)(r:Int):Prop:=0≤r∧ ∀i,place i=r→meetB tt i n=Aa
theorem PI.start(tt:Nat→Nat):PI tt 0 (λ_=> -1) (λ_=> -1):=
 ⟨λn h=>absurd h O,λ_ _=>⟨rfl,rfl⟩,λa b _ _ h=>absurd h O,λa b _ _ h=>absurd h O⟩
section
variable {tt:Nat→Nat} {k:Nat} {reg slot:Nat→Int} {r:Int}
theorem upZ_same(f:Nat→Int)(n:Nat)(v:Int):upZ f n v n=v:=FV
theorem Cf(f:Nat→Int){n m:Nat}(v:Int)(h:m≠n):upZ f n v m=f m:=by simp[upZ,h]
theorem PI.inReg(h:PI tt k reg slot)(hf:FreeR tt reg k r)(hr:r<7):PI tt (k+1) (upZ reg k r) slot:=by
 refine⟨λn hn=>?_,λn hn=>?_,λa b hab ha hb hm hp=>?_,λa b hab ha hb hm hp=>?_⟩
 ·by_cases e:n=k;·subst e;rw[upZ_same];exact Ag ⟨hf.1,hr,(h.none n (AE _)).2⟩
  ·rw[Cf _ _ e];exact h.form n O
 ·rw[Cf _ _ O];exact h.none n O
 ·by_cases eb:b=k;·exact JZ
  ·rw[Cf _ _ eb] at hp⊢;by_cases ea:a=k;·exact Ka
   ·exact Qg
 ·by_cases eb:b=k;·subst eb;have:=(h.none b (AE _)).2;omega
  ·by_cases ea:a=k;·subst ea;have:=(h.none a (AE _)).2;omega
   ·exact Kb
theorem PI.inSlot(h:PI tt k reg slot)(hf:FreeR tt slot k r)(hr:r≤64):PI tt (k+1) (upZ reg k (-1)) (upZ slot k r):=by
 refine⟨λn hn=>?_,λn hn=>?_,λa b hab ha hb hm hp=>?_,λa b hab ha hb hm hp=>?_⟩
 ·by_cases e:n=k;·exact Qi
  ·rw[Cf _ _ e,Cf _ _ e];exact h.form n O
 ·rw[Cf _ _ O,Cf _ _ O];exact h.none n O
 ·by_cases eb:b=k;·subst eb;rw[upZ_same] at hp;omega
  ·rw[Cf _ _ eb] at hp⊢;by_cases ea:a=k;·subst ea;rw[upZ_same];omega
   ·exact Qg
 ·by_cases eb:b=k;·exact JZ
  ·rw[Cf _ _ eb] at hp⊢;by_cases ea:a=k;·exact Ka
   ·rw[Cf _ _ ea];exact Kb
theorem PI.swap(h:PI tt k reg slot){q:Nat}(hq:q<k)(hrq:reg q≠ -1)(hmq:meetB tt k q=Af)(hf:FreeR tt slot q r)(hr:r≤64)(hto: ∀i,i≤tt i):PI tt (k+1) (upZ (upZ reg k (reg q)) q (-1)) (upZ slot q r):=by
 have hq0:0≤reg q∧reg q<7:=by
  rcases h.form q hq with e|e;·exact⟨e.1,e.2.1⟩
  ·exact absurd e.1 hrq
 have hkq:k≠q:=O;have hmk:k<tt q:=by
  unfold meetB at hmq;simp only[Bool.or_eq_true,Bool.and_eq_true,decide_eq_true_eq] at hmq;omega
 refine⟨λn hn=>?_,λn hn=>?_,λa b hab ha hb hm hp=>?_,λa b hab ha hb hm hp=>?_⟩
 ·by_cases e:n=q;·exact Qi
  ·rw[Cf _ _ e,Cf _ _ e];by_cases e2:n=k;·subst e2;rw[upZ_same];exact Ag ⟨hq0.1,hq0.2,(h.none n (AE _)).2⟩
   ·rw[Cf _ _ e2];exact h.form n O
 ·rw[Cf _ _ O,Cf _ _ O,Cf _ _ O];exact h.none n O
 ·have key: ∀a,a≠k→a≠q→a<k→meetB tt a k=Af→reg a≠reg q:=λa e1 e2 e3 e4 e5=>by
   have h1:meetB tt a q=Af:=by
    unfold meetB at e4⊢;simp only[Bool.or_eq_true,Bool.and_eq_true,decide_eq_true_eq] at e4⊢;have:=hto q;have:=hto a;left;omega
   exact h.reg a q e2 e3 hq h1 hq0.1 e5
  by_cases eb:b=q;·subst eb;rw[upZ_same] at hp;omega
  ·rw[Cf _ _ eb] at hp⊢;by_cases ea:a=q;·subst ea;rw[upZ_same];omega
   ·rw[Cf _ _ ea];by_cases eb2:b=k;·subst eb2;rw[upZ_same,Cf _ _ hab];exact key a hab ea O hm
    ·rw[Cf _ _ eb2] at hp⊢;by_cases ea2:a=k;·subst ea2;rw[upZ_same];intro e;exact key b eb2 eb O (by rw[Qf];exact hm) e.symm
     ·rw[Cf _ _ ea2];exact h.reg a b hab O O hm hp
 ·by_cases eb:b=q;·exact JZ
  ·rw[Cf _ _ eb] at hp⊢;by_cases ea:a=q;·exact Ka
   ·rw[Cf _ _ ea];by_cases eb2:b=k;·subst eb2;have:=(h.none b (AE _)).2;omega
    ·by_cases ea2:a=k;·subst ea2;have:=(h.none a (AE _)).2;omega
     ·exact Kb
end
structure LV(p:Pg)(tt:Nat→Nat):Prop where
 lo: ∀n,n≤tt n
 use: ∀i,i<p.code.length→3≤(at_ p.code i).op→i≤tt (at_ p.code i).a∧i≤tt (at_ p.code i).b
 od: ∀n∈p.od,p.code.length≤tt n
 or: ∀n∈p.or,p.code.length≤tt n
 fl:0≤p.fl→p.code.length≤tt p.fl.toNat
 tg:0≤p.tg→p.code.length≤tt p.tg.toNat
theorem PI.po{p:Pg}{tt:Nat→Nat}{reg slot:Nat→Int}(h:PI tt p.code.length reg slot)(hl:LV p tt):PO p ⟨reg,slot⟩ tt:=by
 have hm: ∀a b,a<b→b<tt a→meetB tt a b=Af:=λa b h1 h2=>by
  have:=hl.lo b;simp only[meetB,Bool.or_eq_true,Bool.and_eq_true,decide_eq_true_eq];left;omega
 refine⟨λn hn=>?_,λa b h1 h2 h3 h4=>h.reg a b O O h2 (hm a b h1 h3) h4,λa b h1 h2 h3 h4 h5=>h.slot a b O O h2 (hm a b h1 h3) ?_,hl.use,hl.od,hl.or,hl.fl,hl.tg⟩
 ·rcases h.form n hn with e|e;·exact Ag ⟨e.1,e.2.1⟩
  ·exact Ah e
 ·have h5:reg b= -1:=h5;rcases h.form b h2 with e|e;·omega
  ·exact e.2.1
end Tr
namespace Em
open Gs Tr
theorem SA(pl:Pl)(bs:Nat)(n:Nat): ∀(l:List Nat) (f:Int),putsC pl bs f (l++[n])=putsC pl bs f l++(getC pl n 7++[hst bs (f+l.length) (getR pl n 7)])
 |[],f=>by simp[putsC]
 |m::l,f=>by
  show getC pl m 7++(hst bs f (getR pl m 7)::putsC pl bs (f+1) (l++[n]))=_;rw[SA pl bs n l (f+1)];show _=(getC pl m 7++(hst bs f (getR pl m 7)::putsC pl bs (f+1) l))++_;have e:f+1+(l.length:Int)=f+((m::l).length:Int):=A8;rw[e];simp
theorem take_snoc{l:List Nat}{k:Nat}(h:k<l.length):l.take (k+1)=l.take k++[l.getD k 0]:=JK
section
variable (w:Ac) (base:Nat) (p:Ep) (l:List HI) (fx:List Nat) (Q:Nat→As) (B:Nat) (N:Nat) (pl:Pl)
theorem SB(h:Em w base p ⟨l,fx⟩ Q B)(hB:B≤60000)(hP:Pln w base N Q pl)(bs:Nat)(from_ word:Int)(f0:0≤from_)(f1:from_≤100)(A:Aw)(c:Nat)(out:List Nat)(ho:At64 w base (U A out.length c) out.length (λi=>(out.getD i 0:Nat)))(hn: ∀n∈out,n<N)(h64:out.length≤64):At Tryz.prog 141 #[↑p.g,J Z bs,J V from_,J V word,U A out.length c] w (EPost w base p ⟨l++stackC pl bs from_ word out,fx⟩ Q (B+200) (AD #[])):=by
 have hb:=JW;have HN:=T hn;have H:=T h;have HP:=T hP;have HO:=T ho;obtain⟨m,hm⟩:=Az out.length;rw[hm] at h64⊢;have HM:=T hm;clear h hP ho hn hm;go_in;go_wp2_with fail;go_loopw [14] (λi wr=> ∃(k:Nat) (L:Aw) (lc:Nat) (X:Aw) (xc:Nat),k≤m∧i=J Z k∧Hid (Elk w wr p ⟨p.g,L,lc,X,xc⟩)∧Hid (Em wr base ⟨p.g,L,lc,X,xc⟩ ⟨l++putsC pl bs from_ (out.take k),fx⟩ Q (B+2*k))) (λi _=>m -(AJ i).toNat)
 case atStart=>exact⟨0,p.L,p.lc,p.X,p.xc,O,rfl,T (Elk.refl w p),T (by simpa[putsC] using H.out)⟩
 case round=>
  obtain⟨k,L,lc,X,xc,hk,rfl,hK,hE⟩:=hrel;by_cases hlt:k<m
  ·have hkl:k<out.length:=by rw[HM.out];exact hlt
   obtain⟨b,o,c',e,hc,hcell⟩:=HO.out.cell hkl;injection e with e1 e2 e3;subst e1 e3;have hbl: ∀q,q<base→ ¬p.its q:=λq hq e=>by have:=H.out.ge q e;omega
   have hcr:wr.cell? ⟨b,o+k,G⟩=I (J Z (out.getD k 0:Nat)):=by
    obtain⟨b',o',c'',e',_,hb',_⟩:=HO.out O;injection e' with e4;injection e4 with e4;injection e4 with e5;exact hK.out.f.cell hcell (by show b<↑w;omega) (hbl b O)
   have hnn:out.getD k 0<N:=HN.out _ Fl;have hwf:=SC;have hws:IntKind.u32.wrap (from_+(k:Int))=from_+(k:Int):=CU;have HC:=T (A9 hcell (A9 hc hbl));have Hsn:=T (take_snoc hkl);have HKL:=T hkl;clear hcell hc hbl e2 hkl;obtain⟨n,hnv⟩:=Az (out.getD k 0);rw[hnv] at hcr hnn Hsn;clear hnv;go_wp2_with fail;refine ego (get_k _ base _ _ _ Q _ N pl 7 hE.out O (HP.out.lk H.out hK.out) n hnn 7 rfl) ?_;intro w1 L1 lc1 X1 xc1 K1 E1;replace K1:=T (hK.out.tr K1.out);go_wp2_with fail;refine ego (st_any _ base _ _ Q _ E1.out O bs _ (getR pl n 7)) ?_;intro w2 L2 lc2 X2 xc2 K2 E2;replace K2:=T (K1.out.tr K2.out)
   go_wp2
   go_roundw;case rel=>
    refine⟨k+1,L2,lc2,X2,xc2,O,AX,K2,T ?_⟩;rw[Hsn.out,SA,List.length_take,Nat.min_eq_left (by have:=HKL.out;omega)];have:=E2.out.le (B':=B+2*(k+1)) O;simpa using this
   case measure=>simp[AJ];omega
  ·obtain rfl:k=m:=O;have hE2:Hid (Em wr base ⟨p.g,L,lc,X,xc⟩ ⟨l++putsC pl bs from_ out,fx⟩ Q (B+2*k)):=T (by
    have:=hE.out;rwa[List.take_of_length_le Pe] at this)
   have hwf:=SC;clear hE hlt;go_wp2_with fail;refine ego (li_any _ base _ _ Q _ hE2.out O 11 _) ?_;intro w1 L1 lc1 X1 xc1 K1 E1;replace K1:=T (hK.out.tr K1.out);go_wp2_with fail;refine ego (op_any _ base _ _ Q _ E1.out O 3 11 11 bs) ?_;intro w2 L2 lc2 X2 xc2 K2 E2;replace K2:=T (K1.out.tr K2.out);go_wp2_with fail;refine ego (st_any _ base _ _ Q _ E2.out O 15 word 11) ?_;intro w3 L3 lc3 X3 xc3 K3 E3;replace K3:=T (K2.out.tr K3.out)
   go_wp2
   go_end0;exact epost_le (EPost.of K3.out E3.out) (by simp[stackC,HM.out]) O
end
end Em
namespace Em
open Gs Tr
theorem SD(w:Ac)(br:Int)(h0:33≤br)(h1:br≤37):At Tryz.prog 199 #[J Z br] w λe w'=>e=Ax (AD #[J V (jumpV br),Ap (!decide (br=34))])∧w=w':=by
 have hc:br=33∨br=34∨br=35∨br=36∨br=37:=O;clear h0 h1;rcases hc with rfl|rfl|rfl|rfl|rfl
 all_goals
  go_in
  go_wp2
  go_ret2;exact⟨rfl,rfl⟩
theorem add_one2(w:Ac)(base:Nat)(p:Ep)(s:Es)(Q:Nat→As)(B:Nat)(i:HI)(o:Obj)(W:Ac)(q:Nat)(hW:W=(w.alloc o).alloc (.cells (hc i).toArray 269))(hq:q=↑w+1)(h:Em w base p s Q B)(hB:B≤90000):At Tryz.prog 143 #[↑p.g,U (I ⟨q,0,G⟩) 1 1] W (λe w'=>e=Ax (AD #[])∧Hid (EPost w base p ⟨s.l++[i],s.fx⟩ Q (B+1) (AD #[]) (Ax (AD #[])) w')):=by
 have hf:Fr Aj w (w.alloc o):=(Ao _ w).alloc _;have e:q=(w.alloc o).heap.size:=by rw[hq];simp
 subst e;exact(add_one (w.alloc o) base p s Q B i W hW (h.fr0 hf) hB).mono λe w' hq=>by
  obtain⟨rfl,hq⟩:=hq;obtain⟨_,p',k1,k2⟩:=hq.out.elim;exact⟨rfl,T (EPost.of (Elk.from0 hf k1) k2)⟩
section
variable (w:Ac) (base:Nat) (p:Ep) (l:List HI) (fx:List Nat) (Q:Nat→As) (B:Nat) (N:Nat) (pl:Pl) (pg:Pg)
theorem end_any(h:Em w base p ⟨l,fx⟩ Q B)(hB:B≤60000)(hP:Pln w base N Q pl)(hQ:Pq Q pg)(hfl:pg.fl= -1∨(0≤pg.fl∧pg.fl<N))(htg:pg.tg= -1∨(0≤pg.tg∧pg.tg<N))(hbr:pg.br=0∨(33≤pg.br∧pg.br≤37))(hct:pg.ct≤8):At Tryz.prog 142 #[↑p.g] w (EPost w base p ⟨l++endC pg pl l.length,fx⟩ Q (B+60) (AD #[])):=by
 have c7:w.cell? ⟨p.g,7,G⟩=I (J Z pg.fl):=by rw[←hQ.fl];exact h.b.cell 7 (by omega)
 have H:=T h;have HP:=T hP;have HQ:=T hQ;have n64:=hP.n64;have K0:=T (Elk.refl w p);have E0:=T h;clear h hP hQ;obtain⟨b1,hb1⟩:=Az (decide (pg.fl≥0));obtain⟨b2,hb2⟩:=Az (pg.br !=0);obtain⟨b3,hb3⟩:=Az (decide (pg.tg≥0));go_in
 go_upto_if 10 with(fail)
 go_cut [] (λwx=> ∃(L:Aw) (lc:Nat) (X:Aw) (xc:Nat),Hid (Elk w wx p ⟨p.g,L,lc,X,xc⟩)∧Hid (Em wx base ⟨p.g,L,lc,X,xc⟩ ⟨l++flsC pg pl,fx⟩ Q (B+8)));case first=>
  cases b1
  ·have e: ¬0≤pg.fl:=Kt;have HE:Hid (flsC pg pl=[]):=T (by unfold flsC;rw[Ae (by omega)]);clear e
   go_wp2
   go_meet;exact⟨p.L,p.lc,p.X,p.xc,K0,T (by rw[HE.out,List.append_nil];exact E0.out.le (by omega))⟩
  ·have e:0≤pg.fl:=Kt;obtain⟨f,hf⟩: ∃f:Nat,pg.fl=f:=⟨pg.fl.toNat,O⟩;have HE:Hid (flsC pg pl=li 11 15::(getC pl f 7++[hop 5 11 11 (getR pl f 7),hst 15 1 11])):=T (by unfold flsC;rw[An (by omega),hf];rfl);have hfN:f<N:=O;have HF:=T hf;rw[hf] at c7;clear hf e;go_wp2_with fail;refine ego (li_any _ base _ _ Q _ E0.out O 11 15) ?_;intro w1 L1 lc1 X1 xc1 K1 E1;replace K1:=T (K0.out.tr K1.out);have c7:w1.cell? ⟨p.g,7,G⟩=I (J Z (f:Int)):=by rw[←HF.out,←HQ.out.fl];exact E1.out.b.cell 7 (by omega)
   go_wp2_with fail;refine ego (get_k _ base _ _ _ Q _ N pl 7 E1.out O (HP.out.lk H.out K1.out) f hfN 7 rfl) ?_;intro w2 L2 lc2 X2 xc2 K2 E2;replace K2:=T (K1.out.tr K2.out);go_wp2_with fail;refine ego (op_any _ base _ _ Q _ E2.out O 5 11 11 (getR pl f 7)) ?_;intro w3 L3 lc3 X3 xc3 K3 E3;replace K3:=T (K2.out.tr K3.out);go_wp2_with fail;refine ego (st_any _ base _ _ Q _ E3.out O 15 1 11) ?_;intro w4 L4 lc4 X4 xc4 K4 E4;replace K4:=T (K3.out.tr K4.out)
   go_wp2
   go_meet;exact⟨L4,lc4,X4,xc4,K4,T (by rw[HE.out];have:=E4.out.le (B':=B+8) (by omega);simpa using this)⟩
 case rest=>
  obtain⟨L5,lc5,X5,xc5,K5,E5⟩:=hcut;obtain⟨w5,hw5⟩: ∃w5,w5=wc:=⟨_,rfl⟩;subst hw5;have c8:w5.cell? ⟨p.g,8,G⟩=I (J V pg.nx):=by rw[←HQ.out.nx];exact E5.out.b.cell 8 (by omega)
  clear c7;go_wp2_with fail;refine ego (li_any _ base _ _ Q _ E5.out O 9 _) ?_;intro w6 L6 lc6 X6 xc6 K6 E6;replace K6:=T (K5.out.tr K6.out);have c10:w6.cell? ⟨p.g,10,G⟩=I (J Z pg.br):=by rw[←HQ.out.br];exact E6.out.b.cell 10 (by omega)
  clear c8
  go_upto_if 36 with(fail)
  go_cut [] (λwx=> ∃(L:Aw) (lc:Nat) (X:Aw) (xc:Nat),Hid (Elk w wx p ⟨p.g,L,lc,X,xc⟩)∧Hid (Em wx base ⟨p.g,L,lc,X,xc⟩ ⟨l++(flsC pg pl++(li 9 pg.nx::brC pg ((l.length+(flsC pg pl).length+6:Nat):Int))),fx⟩ Q (B+20)));case first=>
   cases b2
   ·have e:pg.br=0:=by simpa using hb2
    have HE:Hid (brC pg ((l.length+(flsC pg pl).length+6:Nat):Int)=[]):=T (by unfold brC;rw[An e]);clear e
    go_wp2
    go_meet;exact⟨L6,lc6,X6,xc6,K6,T (by rw[HE.out];have:=E6.out.le (B':=B+20) (by omega);simpa using this)⟩
   ·have e:pg.br≠0:=by simpa using hb2
    have e0:33≤pg.br:=O;have e1:pg.br≤37:=O;clear e;by_cases h34:pg.br=34
    ·have Hj:=T (SD w6 pg.br e0 e1);rw[show(!decide (pg.br=34))=Aa by simp[h34]] at Hj;have H34:=T h34;clear h34;go_wp2_with fail;refine Ay Hj ?_;rintro e w7 ⟨rfl,rfl⟩;go_wp2_with fail;refine ego (ld_any _ base _ _ Q _ E6.out O 11 15 1) ?_;intro w7 L7 lc7 X7 xc7 K7 E7;replace K7:=T (K6.out.tr K7.out);go_wp2_with fail;refine ego (li_any _ base _ _ Q _ E7.out O 12 _) ?_;intro w8 L8 lc8 X8 xc8 K8 E8;replace K8:=T (K7.out.tr K8.out);go_wp2_with fail;refine ego (op_any _ base _ _ Q _ E8.out O 5 11 11 12) ?_;intro w9 L9 lc9 X9 xc9 K9 E9;replace K9:=T (K8.out.tr K9.out);obtain⟨len9,hlen9⟩:=Az ((l++flsC pg pl++[li 9 pg.nx]++[hld 11 15 1]++[li 12 (jumpV pg.br)]++[hop 5 11 11 12]).length);have c17:=SE;have hb9:=SF;have HL9:=T hlen9;have hgl9:=E9.out.b.lt;have HE:=SG;have HI9:=SH;have hwr:=SI;clear hlen9;go_wp2_with fail;refine(add_one2 w9 base _ _ Q _ ⟨17,0,11,0,(len9:Int)+2⟩ _ _ _ rfl rfl E9.out O).mono ?_;rintro e w10 ⟨rfl,HQ10⟩;obtain⟨_,⟨g10,L10,lc10,X10,xc10⟩,k10,e10⟩:=HQ10.out.elim;obtain rfl:g10=p.g:=k10.g;have K10:=T (K9.out.tr k10);have E10:=T e10;clear HQ10 k10 e10;have c11:=SJ;go_wp2_with fail;refine ego (li_any _ base _ _ Q _ E10.out O 9 _) ?_;intro w11 L11 lc11 X11 xc11 K11 E11;replace K11:=T (K10.out.tr K11.out)
     go_wp2
     go_meet;exact⟨L11,lc11,X11,xc11,K11,T (by rw[HE.out,HI9.out,An H34.out];have:=E11.out.le (B':=B+20) (by omega);simpa using this)⟩
    ·have Hj:=T (SD w6 pg.br e0 e1);rw[show(!decide (pg.br=34))=Af by simp[h34]] at Hj;have H34:=T h34;clear h34;go_wp2_with fail;refine Ay Hj ?_;rintro e w7 ⟨rfl,rfl⟩;go_wp2_with fail;refine ego (ld_any _ base _ _ Q _ E6.out O 11 15 1) ?_;intro w7 L7 lc7 X7 xc7 K7 E7;replace K7:=T (K6.out.tr K7.out);go_wp2_with fail;refine ego (li_any _ base _ _ Q _ E7.out O 12 _) ?_;intro w8 L8 lc8 X8 xc8 K8 E8;replace K8:=T (K7.out.tr K8.out);go_wp2_with fail;refine ego (op_any _ base _ _ Q _ E8.out O 5 11 11 12) ?_;intro w9 L9 lc9 X9 xc9 K9 E9;replace K9:=T (K8.out.tr K9.out);obtain⟨len9,hlen9⟩:=Az ((l++flsC pg pl++[li 9 pg.nx]++[hld 11 15 1]++[li 12 (jumpV pg.br)]++[hop 5 11 11 12]).length);have c17:=SE;have hb9:=SF;have HL9:=T hlen9;have hgl9:=E9.out.b.lt;have HE:=SG;have HI9:=SH;have hwr:=SI;clear hlen9;go_wp2_with fail;refine(add_one2 w9 base _ _ Q _ ⟨16,0,11,0,(len9:Int)+2⟩ _ _ _ rfl rfl E9.out O).mono ?_;rintro e w10 ⟨rfl,HQ10⟩;obtain⟨_,⟨g10,L10,lc10,X10,xc10⟩,k10,e10⟩:=HQ10.out.elim;obtain rfl:g10=p.g:=k10.g;have K10:=T (K9.out.tr k10);have E10:=T e10;clear HQ10 k10 e10;have c11:=SJ;go_wp2_with fail;refine ego (li_any _ base _ _ Q _ E10.out O 9 _) ?_;intro w11 L11 lc11 X11 xc11 K11 E11;replace K11:=T (K10.out.tr K11.out)
     go_wp2
     go_meet;exact⟨L11,lc11,X11,xc11,K11,T (by rw[HE.out,HI9.out,Ae H34.out];have:=E11.out.le (B':=B+20) (by omega);simpa using this)⟩
  case rest=>
   clear K6 E6 c10;obtain⟨L20,lc20,X20,xc20,K20,E20⟩:=hcut;obtain⟨w20,hw20⟩: ∃w20,w20=wc:=⟨_,rfl⟩;subst hw20;have c9:w20.cell? ⟨p.g,9,G⟩=I (J Z pg.tg):=by rw[←HQ.out.tg];exact E20.out.b.cell 9 (by omega)
   go_upto_if 80 with(fail)
   go_cut [] (λwx=> ∃(L:Aw) (lc:Nat) (X:Aw) (xc:Nat),Hid (Elk w wx p ⟨p.g,L,lc,X,xc⟩)∧Hid (Em wx base ⟨p.g,L,lc,X,xc⟩ ⟨l++(flsC pg pl++(li 9 pg.nx::(brC pg ((l.length+(flsC pg pl).length+6:Nat):Int)++tgC pg pl))),fx⟩ Q (B+30)));case first=>
    cases b3
    ·have e: ¬0≤pg.tg:=Iw;have HE:Hid (tgC pg pl=[]):=T (by unfold tgC;rw[Ae (by omega)]);clear e
     go_wp2
     go_meet;exact⟨L20,lc20,X20,xc20,K20,T (by rw[HE.out,List.append_nil];exact E20.out.le (by omega))⟩
    ·have e:0≤pg.tg:=Iw;obtain⟨f,hf⟩: ∃f:Nat,pg.tg=f:=⟨pg.tg.toNat,O⟩;have HE:Hid (tgC pg pl=getC pl f 7++[hop 2 9 (getR pl f 7) 0]):=T (by unfold tgC;rw[An (by omega),hf];rfl);have hfN:f<N:=O;rw[hf] at c9;clear hf e;go_wp2_with fail;refine ego (get_k _ base _ _ _ Q _ N pl 7 E20.out O (HP.out.lk H.out K20.out) f hfN 7 rfl) ?_;intro w21 L21 lc21 X21 xc21 K21 E21;replace K21:=T (K20.out.tr K21.out);go_wp2_with fail;refine(add_one _ base _ _ Q _ (hop 2 9 (getR pl f 7) 0) _ rfl E21.out O).mono ?_;rintro e w22 ⟨rfl,HQ22⟩;obtain⟨_,⟨g22,L22,lc22,X22,xc22⟩,k22,e22⟩:=HQ22.out.elim;obtain rfl:g22=p.g:=k22.g;have K22:=T (K21.out.tr k22);have E22:=T e22;clear HQ22 k22 e22
     go_wp2
     go_meet;exact⟨L22,lc22,X22,xc22,K22,T (by rw[HE.out];have:=E22.out.le (B':=B+30) (by omega);simpa using this)⟩
   case rest=>
    clear K20 E20 c9;obtain⟨L30,lc30,X30,xc30,K30,E30⟩:=hcut;obtain⟨w30,hw30⟩: ∃w30,w30=wc:=⟨_,rfl⟩;subst hw30;go_wp2_with fail;refine ego (st_any _ base _ _ Q _ E30.out O 15 0 9) ?_;intro w31 L31 lc31 X31 xc31 K31 E31;replace K31:=T (K30.out.tr K31.out);have c12:w31.cell? ⟨p.g,12,G⟩=I (J Z pg.ct):=by rw[←HQ.out.ct];exact E31.out.b.cell 12 (by omega)
    have hwc:IntKind.u32.wrap (pg.ct:Int)=(pg.ct:Int):=CU;go_wp2_with fail;refine ego (li_any _ base _ _ Q _ E31.out O 11 _) ?_;intro w32 L32 lc32 X32 xc32 K32 E32;replace K32:=T (K31.out.tr K32.out);clear c12 hwc;go_wp2_with fail;refine ego (st_any _ base _ _ Q _ E32.out O 15 36 11) ?_;intro w33 L33 lc33 X33 xc33 K33 E33;replace K33:=T (K32.out.tr K33.out);go_wp2_with fail;refine(add_one _ base _ _ Q _ ⟨19,0,0,0,1⟩ _ rfl E33.out O).mono ?_;rintro e w34 ⟨rfl,HQ34⟩;obtain⟨_,⟨g34,L34,lc34,X34,xc34⟩,k34,e34⟩:=HQ34.out.elim;obtain rfl:g34=p.g:=k34.g;have K34:=T (K33.out.tr k34);have E34:=T e34;clear HQ34 k34 e34
    go_wp2
    go_end0;exact epost_le (EPost.of K34.out E34.out) (by simp[endC,lastC]) O
end
end Em
end Go.Proofs.YtpmlgdopfafcgaaGreatDoor
