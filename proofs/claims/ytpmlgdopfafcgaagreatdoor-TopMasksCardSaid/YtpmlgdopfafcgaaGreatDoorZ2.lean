import Derived.Test.YtpmlgdopfafcgaaGreatDoorZ1
import Derived.Test.YtpmlgdopfafcgaaGreatDoorChecked
open Go.Value renaming int→J,slice→U,bool→Ap,tuple→AD,ownBlock→Bp,agg→AA,pointer→Bi
open Option renaming some→I,none→G
open Go.IntKind renaming i64→Z,u32→V,u64→AM,u8→AC,wrap_u64→Dk,wrap_u32→DH
open Bool renaming false→Aa,true→Af,false_ne_true→Da,false_and→D7
open Go renaming World→Ac,Value→As,Calls→At,bodyPost_ret→Bf,TypeId→AK,wp_region_held_drew→BY,info_parts→BH,Ending→AT,madeCells→Cb,maxLen→Br,Program→BW,undef→Bt,wpList→BL,bits→Bb,run_underlying→CX
open List renaming getD_eq_getElem?_getD→AN,getElem?_eq_getElem→Bj,length_append→BJ,append_assoc→BM,mem_map→Bo,getElem?_take_of_lt→Cw,replicate→BK,range→Bm,getElem?_append_right→CB,getElem_mem→BU,mem_append→BZ,getElem?_append_left→CO,getElem?_map→C7,cons_append→CC,mem_filter→C8,length_pos_iff→CP,length_cons→CK,mem_cons→Cy,getLastD_eq_getLast?→Dg,nil_append→CI,getElem?_eq_none→De,dropLast_concat→Do,mem_singleton→Dv,map_append→Df,length_map→Di,getElem_of_mem→DD,length_nil→Dp,concat_eq_append→DI,getElem?_range→DL,range_succ→DB,getElem?_replicate→DW,singleton_append→DV,map_cons→D6,map_map→D8,setIfInBounds_toArray→Eb
open Go.Ending renaming returned→Ax
open And renaming intro→A9
open Nat renaming le_refl→AE,lt_of_lt_of_le→AW,le_trans→AS,zero_le→AU,zero_add→Bn,eq_zero_or_pos→Dm,reduceEqDiff→Dq
open Or renaming inl→Ag,inr→Ah
open Go.Proofs.Tryz renaming underlying41→AP,underlying31→CF,underlying22→CV,underlying215→Dl,underlying26→DN
open Go.RowKit renaming intOf→AJ
open Int renaming eq_ofNat_of_zero_le→CM,toNat_natCast→C4,emod_eq_of_lt→CZ
open Go.Builtin renaming zeroCells→CG,delete_→Eh
open Array renaming getElem?_toList→CN,getElem?_eq_some_iff→DX
open Go.Region renaming wanted→CA
open Go.Result renaming andThen→CT
open Option.some renaming inj→Ds
open Go.MapKept renaming run_getObj_map→DJ,run_setObj_map→Ef
open Go.Instr renaming makeSlice→Dj,mapUpdate→DK
open Go.IntWalk renaming i64_in→Du
open Go.Lit renaming int→C9
open Go.Sem renaming run_bind→D5
set_option linter.unusedVariables false
set_option linter.unusedSimpArgs false
set_option linter.defProp false
set_option maxHeartbeats 40000000
set_option maxRecDepth 1000000
open Go Go.RowKit
namespace Go.Proofs.YtpmlgdopfafcgaaGreatDoor
namespace Tr
open Gs
structure HI where
 op:Nat
 rd:Nat
 ra:Nat
 rb:Nat
 imm:Int
structure Hm where
 g:Nat→Int
 m:Nat→Int
def upZ(f:Nat→Int)(n:Nat)(v:Int):Nat→Int:=λk=>if k=n then v else f k
def reckV(op:Nat)(a b:Int):Int:=
 if op=2 then a else if op=3 then(a+b)%18446744073709551616 else if op=4 then(a -b)%18446744073709551616 else if op=5 then Bb .and AM a b else if op=6 then Bb .or AM a b else if op=7 then Bb .xor AM a b
 else if op=8 then(if 64≤b then 0 else a*2^b.toNat%18446744073709551616) else if op=9 then(if 64≤b then 0 else a/2^b.toNat) else if op=10 then a*b%18446744073709551616
 else if op=11 then(if b=0 then 0 else a/b) else if op=12 then(if a<b then 1 else 0) else(if a=b then 1 else 0)
def hplace(i:HI)(s:Hm):Int:=(s.g i.ra+i.imm)%18446744073709551616
def hstep(i:HI)(s:Hm):Option Hm:=
 if i.op=0 then I s else if i.op=1 then I ⟨upZ s.g i.rd i.imm,s.m⟩
 else if i.op=14 then(if 256≤hplace i s then G else I ⟨upZ s.g i.rd (s.m (hplace i s).toNat),s.m⟩)
 else if i.op=15 then(if 256≤hplace i s then G else I ⟨s.g,upZ s.m (hplace i s).toNat (s.g i.rb%4294967296)⟩)
 else I ⟨upZ s.g i.rd (reckV i.op (s.g i.ra) (s.g i.rb)),s.m⟩
structure Hr where
 why:Int
 imm:Int
 s:Hm
def hrun(code:List HI):Nat→Int→Hm→Hr
 |0,_,s=>⟨5,0,s⟩
 |n+1,at_,s=>
  if at_<0∨(code.length:Int)≤at_ then⟨2,0,s⟩
  else
   let i:=code.getD at_.toNat ⟨0,0,0,0,0⟩
   if i.op=16 then hrun code n (if s.g i.ra=0 then i.imm else at_+1) s
   else if i.op=17 then hrun code n (if s.g i.ra=0 then at_+1 else i.imm) s
   else if i.op=18 then hrun code n i.imm s
   else if i.op=19 then⟨1,i.imm,s⟩
   else match hstep i s with
    |none=>⟨4,0,s⟩
    |some s'=>hrun code n (at_+1) s'
def hseq:List HI→Hm→Option Hm
 |[],s=>I s
 |i::l,s=>match hstep i s with
  |none=>G
  |some s'=>hseq l s'
variable{code:List HI}
theorem at_code{pre:List HI}{i:HI}{post:List HI}(e:code=pre++i::post):code.getD ((pre.length:Int)).toNat ⟨0,0,0,0,0⟩=i∧ ¬(((pre.length:Int)<0)∨(code.length:Int)≤pre.length):=by
 subst e;refine⟨by simp[AN], ?_⟩;simp;omega
theorem run_seg: ∀(seg pre post:List HI) (n:Nat) (s s':Hm),code=pre++seg++post→(∀i∈seg,i.op≤15)→hrun code n pre.length s=⟨1,1,s'⟩→
 ∃s1 m,hseq seg s=I s1∧hrun code m ((pre.length+seg.length:Nat):Int) s1=⟨1,1,s'⟩
 |[],pre,post,n,s,s',_,_,h=>⟨s,n,rfl,C3⟩
 |i::seg,pre,post,n,s,s',e,hs,h=>by
  have e2:code=pre++i::(seg++post):=CY;obtain⟨a1,a2⟩:=at_code e2;have hi:=hs i AB
  cases n with
  |zero=>rw[hrun] at h;simp at h
  |succ n=>
   rw[hrun,Ae a2,a1] at h;simp only[] at h;rw[Ae O,Ae O,Ae O,Ae O] at h;rw[hseq]
   cases hst:hstep i s with
   |none=>rw[hst] at h;simp at h
   |some s1=>
    rw[hst] at h;simp only[] at h;have e3:code=(pre++[i])++seg++post:=CY;have h':hrun code n ((pre++[i]).length:Nat) s1=⟨1,1,s'⟩:=C3;obtain⟨s2,m,q1,q2⟩:=run_seg seg (pre++[i]) post n s1 s' e3 (λj hj=>hs j Dh) h';refine⟨s2,m,q1, ?_⟩;simpa[Nat.add_assoc,Nat.add_comm 1] using q2
theorem run_bnez{pre post:List HI}{n:Nat}{s s':Hm}{r:Nat}{E:Int}(e:code=pre++⟨17,0,r,0,E⟩::post)(hE: ∀m s,hrun code m E s≠⟨1,1,s'⟩)(h:hrun code n pre.length s=⟨1,1,s'⟩):s.g r=0∧ ∃m,hrun code m ((pre.length+1:Nat):Int) s=⟨1,1,s'⟩:=by
 obtain⟨a1,a2⟩:=at_code e
 cases n with
 |zero=>rw[hrun] at h;simp at h
 |succ n=>
  rw[hrun,Ae a2,a1] at h;simp only[] at h;rw[Ae Ak,An Ak] at h;by_cases hz:s.g r=0;·rw[An hz] at h;exact⟨hz,n,C3⟩
  ·rw[Ae hz] at h;exact absurd h (hE _ _)
structure Pl where
 reg:Nat→Int
 slot:Nat→Int
def li(rd:Nat)(v:Int):HI:=⟨1,rd,0,0,v⟩
def hop(op rd ra rb:Nat):HI:=⟨op,rd,ra,rb,0⟩
def hld(rd ra:Nat)(at_:Int):HI:=⟨14,rd,ra,0,at_⟩
def hst(ra:Nat)(at_:Int)(rb:Nat):HI:=⟨15,0,ra,rb,at_⟩
def slotA(pl:Pl)(n:Nat):Int:=(64+pl.slot n)%4294967296
def getR(pl:Pl)(n into:Nat):Nat:=if 0≤pl.reg n then(pl.reg n).toNat else into
def getC(pl:Pl)(n into:Nat):List HI:=if 0≤pl.reg n then[] else[hld into 15 (slotA pl n)]
def keepC(pl:Pl)(n r:Nat):List HI:=if pl.reg n<0 then[hst 15 (slotA pl n) r] else[]
def roomC(base:Nat)(word need most E:Int):List HI:=[hld base 15 word,li 11 need,hop 12 12 base 11,⟨17,0,12,0,E⟩,li 12 most,hop 12 12 12 base,⟨17,0,12,0,E⟩,hop 4 base base 11]
def lowC(r:Nat):List HI:=[li 12 4294967295,hop 5 r r 12]
def hostO(op:Int):Nat:=if op=16 then 3 else if op=18 then 5 else if op=19 then 6 else if op=20 then 7 else if op=21 then 8 else if op=22 then 9 else if op=23 then 10 else 4
def aluC(op:Int)(rd a b:Nat):List HI:=hop (hostO op) rd a b::(if op=18∨op=19∨op=20∨op=22 then[] else lowC rd)
def bitC(r:Nat)(up:Int):List HI:=[li 12 up,hop 8 r r 12,hop 6 10 10 r]
def signC(rd r:Nat):List HI:=[li 12 31,hop 9 rd r 12]
def overC(x1 x2 y1 y2:Nat):List HI:=[hop 7 11 x1 x2,hop 7 12 y1 y2]++([hop 5 11 11 12]++(signC 11 11++bitC 11 3))
def flagC(op:Int)(a b:Nat):List HI:=
 aluC op 9 a b++([hop 13 10 9 15]++(signC 11 9++(bitC 11 1++
  (if op=16 then[hop 12 11 9 a]++(bitC 11 2++overC a 9 b 9) else if op=17∨op=25 then[hop 12 11 a b]++(bitC 11 2++overC a b a 9) else[]))))
def makeC(p:Pg)(pl:Pl)(rd:Nat)(x:IIn):List HI:=
 if x.op=0 then[li rd x.imm] else if x.op=1 then[hld rd 14 (4+p.nd -1 -x.imm)] else if x.op=2 then[hld rd 13 (20+p.nr -1 -x.imm)]
 else if x.op=3 then getC pl x.a 7++(getC pl x.b 8++aluC x.imm rd (getR pl x.a 7) (getR pl x.b 8))
 else getC pl x.a 7++(getC pl x.b 8++(flagC x.imm (getR pl x.a 7) (getR pl x.b 8)++[hop 2 rd 10 0]))
def oneC(p:Pg)(pl:Pl)(n:Nat)(x:IIn):List HI:=makeC p pl (getR pl n 9) x++keepC pl n (getR pl n 9)
def onesC(p:Pg)(pl:Pl):Nat→List IIn→List HI
 |_,[]=>[]
 |n,x::l=>oneC p pl n x++onesC p pl (n+1) l
def putsC(pl:Pl)(base:Nat):Int→List Nat→List HI
 |_,[]=>[]
 |k,n::l=>getC pl n 7++(hst base k (getR pl n 7)::putsC pl base (k+1) l)
def stackC(pl:Pl)(base:Nat)(from_ word:Int)(out:List Nat):List HI:=putsC pl base from_ out++[li 11 out.length,hop 3 11 11 base,hst 15 word 11]
def jumpV(br:Int):Int:=if br=33 then 1 else if br=34 then 1 else if br=35 then 4 else if br=36 then 2 else 8
def flsC(p:Pg)(pl:Pl):List HI:=if 0≤p.fl then li 11 15::(getC pl p.fl.toNat 7++[hop 5 11 11 (getR pl p.fl.toNat 7),hst 15 1 11]) else[]
def brC(p:Pg)(at_:Int):List HI:=if p.br=0 then[] else[hld 11 15 1,li 12 (jumpV p.br),hop 5 11 11 12,⟨if p.br=34 then 17 else 16,0,11,0,at_⟩,li 9 p.tk]
def tgC(p:Pg)(pl:Pl):List HI:=if 0≤p.tg then getC pl p.tg.toNat 7++[hop 2 9 (getR pl p.tg.toNat 7) 0] else[]
def lastC(p:Pg):List HI:=[hst 15 0 9,li 11 p.ct,hst 15 36 11,⟨19,0,0,0,1⟩]
def endC(p:Pg)(pl:Pl)(len:Nat):List HI:=flsC p pl++(li 9 p.nx::(brC p ((len+(flsC p pl).length+6:Nat):Int)++(tgC p pl++lastC p)))
def mostV(high need out:Nat):Int:=min (16 -(high:Int)) (16+(need:Int) -out)
def valsC(p:Pg)(pl:Pl):List HI:=onesC p pl 0 p.code++(stackC pl 14 4 2 p.od++stackC pl 13 20 3 p.or)
def roomsC(p:Pg)(E:Int):List HI:=roomC 14 2 p.nd (mostV p.hd p.nd p.od.length) E++roomC 13 3 p.nr (mostV p.hr p.nr p.or.length) E
def bodyC(p:Pg)(pl:Pl)(E:Int):List HI:=
 if mostV p.hd p.nd p.od.length<p.nd then[li 15 0]
 else if mostV p.hr p.nr p.or.length<p.nr then li 15 0::roomC 14 2 p.nd (mostV p.hd p.nd p.od.length) E
 else li 15 0::(roomsC p E++(valsC p pl++endC p pl (17+(valsC p pl).length)))
def codeC(p:Pg)(pl:Pl):List HI:=bodyC p pl (bodyC p pl 0).length++[⟨19,0,0,0,2⟩]
end Tr
namespace Tr
open Gs
theorem b64_and(x y:Int)(x0:0≤x)(x1:x<4294967296)(y0:0≤y)(y1:y<4294967296):Bb .and AM x y=Bb .and V x y:=by
 obtain⟨a,rfl⟩:=CM x0;obtain⟨b,rfl⟩:=CM y0;rw[u64_and_nat a b O O,u32_and_nat a b O O]
theorem b64_or(x y:Int)(x0:0≤x)(x1:x<4294967296)(y0:0≤y)(y1:y<4294967296):Bb .or AM x y=Bb .or V x y:=by
 obtain⟨a,rfl⟩:=CM x0;obtain⟨b,rfl⟩:=CM y0;rw[u64_or_nat a b O O,u32_or_nat a b O O]
theorem b64_xor(x y:Int)(x0:0≤x)(x1:x<4294967296)(y0:0≤y)(y1:y<4294967296):Bb .xor AM x y=Bb .xor V x y:=by
 obtain⟨a,rfl⟩:=CM x0;obtain⟨b,rfl⟩:=CM y0;rw[u64_xor_nat a b O O,u32_xor_nat a b O O]
theorem and_bd(x y:Int)(x0:0≤x)(x1:x<4294967296)(y0:0≤y)(y1:y<4294967296):0≤Bb .and V x y∧Bb .and V x y<4294967296:=by
 obtain⟨a,rfl⟩:=CM x0;obtain⟨b,rfl⟩:=CM y0;rw[u32_and_nat a b O O];have:a&&&b<2^32:=Nat.and_lt_two_pow a O;omega
theorem or_bd(x y:Int)(x0:0≤x)(x1:x<4294967296)(y0:0≤y)(y1:y<4294967296):0≤Bb .or V x y∧Bb .or V x y<4294967296:=by
 obtain⟨a,rfl⟩:=CM x0;obtain⟨b,rfl⟩:=CM y0;rw[u32_or_nat a b O O];have:a|||b<2^32:=Nat.or_lt_two_pow O O;omega
theorem xor_bd(x y:Int)(x0:0≤x)(x1:x<4294967296)(y0:0≤y)(y1:y<4294967296):0≤Bb .xor V x y∧Bb .xor V x y<4294967296:=by
 obtain⟨a,rfl⟩:=CM x0;obtain⟨b,rfl⟩:=CM y0;rw[u32_xor_nat a b O O];have:a^^^b<2^32:=Nat.xor_lt_two_pow O O;omega
theorem mask32(v:Int)(h0:0≤v)(h1:v<18446744073709551616):Bb .and AM v 4294967295=v%4294967296:=by
 obtain⟨a,rfl⟩:=CM h0;have:=u64_and_nat a 4294967295 O O;have e:((4294967295:Nat):Int)=4294967295:=rfl;rw[e] at this;rw[this,show(4294967295:Nat)=2^32 -1 by rfl,Nat.and_two_pow_sub_one_eq_mod];omega
def aluH(op a b:Int):Int:=if op=25 then(a -b)%4294967296 else aluV op a b
theorem aluH_bd(op x y:Int)(x0:0≤x)(x1:x<4294967296)(y0:0≤y)(y1:y<4294967296):0≤aluH op x y∧aluH op x y<4294967296:=by
 unfold aluH;split;·omega
 unfold aluV;split;·omega
 split;·omega
 split;·exact and_bd x y x0 x1 y0 y1
 split;·exact or_bd x y x0 x1 y0 y1
 split;·exact xor_bd x y x0 x1 y0 y1
 split
 ·unfold movedV;split;·omega
  ·simp only[if_true];omega
 split
 ·unfold movedV;split;·omega
  ·simp only[Bool.false_eq_true,if_false];have hp:(0:Int)<2^y.toNat:=Int.pow_pos Ak;have h1:=Int.ediv_nonneg x0 (Int.le_of_lt hp);have h2:=Int.ediv_le_self (2^y.toNat) x0;omega
 split;·omega
 split;·have h1:=Int.ediv_nonneg x0 y0;have h2:=Int.ediv_le_self y x0;omega
 ·omega
theorem aluV_bd(op x y:Int)(x0:0≤x)(x1:x<4294967296)(y0:0≤y)(y1:y<4294967296):0≤aluV op x y∧aluV op x y<4294967296:=by
 by_cases e:op=25;·subst e;simp[aluV]
 ·have:=aluH_bd op x y x0 x1 y0 y1;unfold aluH at this;rwa[Ae e] at this
theorem hseq_li(rd:Nat)(v:Int)(rest:List HI)(s:Hm):hseq (li rd v::rest) s=hseq rest ⟨upZ s.g rd v,s.m⟩:=rfl
theorem hseq_hop(op rd ra rb:Nat)(rest:List HI)(s:Hm)(h:2≤op∧op≤13):hseq (hop op rd ra rb::rest) s=hseq rest ⟨upZ s.g rd (reckV op (s.g ra) (s.g rb)),s.m⟩:=by
 rw[hseq];have:hstep (hop op rd ra rb) s=I ⟨upZ s.g rd (reckV op (s.g ra) (s.g rb)),s.m⟩:=by
  unfold hstep;have e:(hop op rd ra rb).op=op:=rfl;rw[Ae ET,Ae ET,Ae ET,Ae ET];rfl
 rw[this]
theorem shr_bd(x y:Int)(x0:0≤x)(x1:x<4294967296)(y0:32≤y):x/2^y.toNat=0:=by
 apply Int.ediv_eq_zero_of_lt x0;have h:(2:Int)^32≤2^y.toNat:=by
  have:(2:Nat)^32≤2^y.toNat:=Nat.pow_le_pow_right Ak O
  exact_mod_cast this
 have:(2:Int)^32=4294967296:=Ak;omega
theorem aluC_ok(op:Int)(rd a b:Nat)(rest:List HI)(s s':Hm)(x y:Int)(h0:16≤op)(h1:op≤25)(h24:op≠24)(hrd:rd≠12)(hx:s.g a=x)(hy:s.g b=y)(x0:0≤x)(x1:x<4294967296)(y0:0≤y)(y1:y<4294967296)(h:hseq (aluC op rd a b++rest) s=I s'): ∃s1,hseq rest s1=I s'∧s1.g rd=aluH op x y∧s1.m=s.m∧ ∀k,k≠rd→k≠12→s1.g k=s.g k:=by
 have hO:2≤hostO op∧hostO op≤13:=by unfold hostO;(repeat' split);all_goals omega
 unfold aluC at h;rw[CC,hseq_hop _ _ _ _ _ _ hO,hx,hy] at h;by_cases hd:op=18∨op=19∨op=20∨op=22
 ·rw[An hd,CI] at h;refine⟨_,h, ?_,rfl,λk hk _=>by simp[upZ,hk]⟩;simp only[upZ,if_true];rcases hd with rfl|rfl|rfl|rfl;·exact b64_and x y x0 x1 y0 y1
  ·exact b64_or x y x0 x1 y0 y1
  ·exact b64_xor x y x0 x1 y0 y1
  ·show(if 64≤y then 0 else x/2^y.toNat)=movedV x y Aa;unfold movedV;by_cases q:64≤y;·rw[An q,An O]
   ·rw[Ae q];by_cases q2:32≤y;·rw[An q2,shr_bd x y x0 x1 q2]
    ·rw[Ae q2];rfl
 ·rw[Ae hd] at h;unfold lowC at h;rw[CC,CC,hseq_li,hseq_hop _ _ _ _ _ _ Ak,CI] at h;refine⟨_,h, ?_,rfl,λk hk hk2=>by simp[upZ,hk,hk2]⟩;have hrd2: ¬rd=12:=hrd;have hrd3: ¬12=rd:=λe=>hrd e.symm;simp only[upZ,if_true,Ae hrd2];have hV:0≤reckV (hostO op) x y∧reckV (hostO op) x y<18446744073709551616∧reckV (hostO op) x y%4294967296=aluH op x y:=by
   have hc:op=16∨op=17∨op=21∨op=23∨op=25:=O;rcases hc with rfl|rfl|rfl|rfl|rfl;·show 0≤(x+y)%18446744073709551616∧(x+y)%18446744073709551616<18446744073709551616∧(x+y)%18446744073709551616%4294967296=(x+y)%4294967296;omega
   ·exact Mi
   ·show 0≤(if 64≤y then 0 else x*2^y.toNat%18446744073709551616)∧(if 64≤y then 0 else x*2^y.toNat%18446744073709551616)<18446744073709551616∧(if 64≤y then 0 else x*2^y.toNat%18446744073709551616)%4294967296=movedV x y Af;unfold movedV;by_cases q:64≤y;·rw[An q,An O];decide
    ·rw[Ae q];by_cases q2:32≤y
     ·rw[An q2];obtain⟨j,hj⟩: ∃j,y.toNat=32+j:=⟨y.toNat -32,O⟩;have e:x*2^y.toNat=(x*2^j)*4294967296:=by rw[hj,Int.pow_add];rw[show(2:Int)^32=4294967296 by decide];rw[Int.mul_comm 4294967296,←Int.mul_assoc]
      rw[e];omega
     ·rw[Ae q2];simp only[if_true];generalize x*2^y.toNat=z;omega
   ·show 0≤x*y%18446744073709551616∧x*y%18446744073709551616<18446744073709551616∧x*y%18446744073709551616%4294967296=x*y%4294967296;generalize x*y=z;omega
   ·exact Mi
  show Bb .and AM _ 4294967295=_;rw[mask32 _ hV.1 hV.2.1];exact hV.2.2
theorem div31(r:Int)(h0:0≤r)(h1:r<4294967296):r/2147483648=if 2147483648≤r then 1 else 0:=by
 split<;>omega
theorem sign1(rest:List HI)(s s':Hm)(r f:Int)(hr:s.g 9=r)(r0:0≤r)(r1:r<4294967296)(h10:s.g 10=f)(hf:f=0∨f=1)(h:hseq (signC 11 9++(bitC 11 1++rest)) s=I s'):∃s1,hseq rest s1=I s'∧s1.g 10=f+(if 2147483648≤r then 2 else 0)∧s1.m=s.m∧ ∀k,k≠10→k≠11→k≠12→s1.g k=s.g k:=by
 simp only[signC,bitC,CC,CI,hseq_li] at h;rw[hseq_hop _ _ _ _ _ _ Ak,hseq_li,hseq_hop _ _ _ _ _ _ Ak,hseq_hop _ _ _ _ _ _ Ak] at h;refine⟨_,h, ?_,rfl,λk h1 h2 h3=>IN⟩;have e1:reckV 9 r 31=if 2147483648≤r then 1 else 0:=by
  show(if(64:Int)≤31 then 0 else r/2^(31:Int).toNat)=_;rw[Ae Ak,←div31 r r0 r1];rfl
 simp only[upZ,if_true,Dq,if_false,hr,e1,h10];by_cases q:2147483648≤r;·rw[An q,An q];rcases hf with rfl|rfl<;>decide
 ·rw[Ae q,Ae q];rcases hf with rfl|rfl<;>decide
theorem bit2(rest:List HI)(s s':Hm)(t f:Int)(ht:s.g 11=t)(t0:t=0∨t=1)(h10:s.g 10=f)(hf:0≤f∧f<4)(h:hseq (bitC 11 2++rest) s=I s'):∃s1,hseq rest s1=I s'∧s1.g 10=f+t*4∧s1.m=s.m∧ ∀k,k≠10→k≠11→k≠12→s1.g k=s.g k:=by
 simp only[bitC,CC,CI,hseq_li] at h;rw[hseq_hop _ _ _ _ _ _ Ak,hseq_hop _ _ _ _ _ _ Ak] at h;refine⟨_,h, ?_,rfl,λk h1 h2 h3=>IN⟩;simp only[upZ,if_true,Dq,if_false,ht,h10];have hf':f=0∨f=1∨f=2∨f=3:=O;rcases hf' with rfl|rfl|rfl|rfl<;>rcases t0 with rfl|rfl<;>decide
theorem bit3(rest:List HI)(s s':Hm)(t f:Int)(ht:s.g 11=t)(t0:t=0∨t=1)(h10:s.g 10=f)(hf:0≤f∧f<8)(h:hseq (bitC 11 3++rest) s=I s'):∃s1,hseq rest s1=I s'∧s1.g 10=f+t*8∧s1.m=s.m∧ ∀k,k≠10→k≠11→k≠12→s1.g k=s.g k:=by
 simp only[bitC,CC,CI,hseq_li] at h;rw[hseq_hop _ _ _ _ _ _ Ak,hseq_hop _ _ _ _ _ _ Ak] at h;refine⟨_,h, ?_,rfl,λk h1 h2 h3=>IN⟩;simp only[upZ,if_true,Dq,if_false,ht,h10];have hf':f=0∨f=1∨f=2∨f=3∨f=4∨f=5∨f=6∨f=7:=O;rcases hf' with rfl|rfl|rfl|rfl|rfl|rfl|rfl|rfl<;>rcases t0 with rfl|rfl<;>decide
theorem over_ok(rest:List HI)(s s':Hm)(x1 x2 y1 y2:Nat)(a b c d f:Int)(ha:s.g x1=a)(hb:s.g x2=b)(hc:s.g y1=c)(hd:s.g y2=d)(hy1:y1≠11)(hy2:y2≠11)(a0:0≤a∧a<4294967296)(b0:0≤b∧b<4294967296)(c0:0≤c∧c<4294967296)(d0:0≤d∧d<4294967296)(h10:s.g 10=f)(hf:0≤f∧f<8)(h:hseq (overC x1 x2 y1 y2++rest) s=I s'):∃s1,hseq rest s1=I s'∧s1.g 10=f+(if topB (Bb .xor V a b) (Bb .xor V c d) then 8 else 0)∧s1.m=s.m∧ ∀k,k≠10→k≠11→k≠12→s1.g k=s.g k:=by
 have p1:=xor_bd a b a0.1 a0.2 b0.1 b0.2;have p2:=xor_bd c d c0.1 c0.2 d0.1 d0.2;have q1:=b64_xor a b a0.1 a0.2 b0.1 b0.2;have q2:=b64_xor c d c0.1 c0.2 d0.1 d0.2;unfold overC at h;simp only[CC,CI,BM] at h;rw[hseq_hop _ _ _ _ _ _ Ak,hseq_hop _ _ _ _ _ _ Ak,hseq_hop _ _ _ _ _ _ Ak] at h;simp only[signC,CC,CI,hseq_li] at h;rw[hseq_hop _ _ _ _ _ _ Ak] at h;have e7: ∀u v:Int,reckV 7 u v=Bb .xor AM u v:=λ_ _=>rfl;have e5: ∀u v:Int,reckV 5 u v=Bb .and AM u v:=λ_ _=>rfl;have e9: ∀u:Int,reckV 9 u 31=u/2147483648:=λu=>by
  show(if(64:Int)≤31 then 0 else u/2^(31:Int).toNat)=_;rw[Ae Ak];rfl
 have r1:=and_bd (Bb .xor V a b) (Bb .xor V c d) p1.1 p1.2 p2.1 p2.2;have r2:=b64_and (Bb .xor V a b) (Bb .xor V c d) p1.1 p1.2 p2.1 p2.2;generalize hT:Bb .and V (Bb .xor V a b) (Bb .xor V c d)=Ed at*;obtain⟨s1,k1,k2,k3,k4⟩:=bit3 rest _ s' (if 2147483648≤Ed then 1 else 0) f (by
  simp only[upZ,if_true,Dq,if_false,hy1,hy2,ha,hb,hc,hd,e7,e5,e9,q1,q2,r2];exact div31 Ed r1.1 r1.2) EU (by simp only[upZ,Dq,if_false];exact h10) hf h
 refine⟨s1,k1, ?_,k3,λk h1 h2 h3=>by rw[k4 k h1 h2 h3];simp[upZ,h1,h2,h3]⟩;rw[k2];unfold topB;rw[hT];by_cases q:2147483648≤Ed;·rw[An q];simp[q]
 ·rw[Ae q];simp[q]
theorem flagC_ok(op:Int)(a b:Nat)(rest:List HI)(s s':Hm)(x y:Int)(h0:16≤op)(h1:op≤25)(h24:op≠24)(ha:a<9)(hb:b<9)(hz:s.g 15=0)(hx:s.g a=x)(hy:s.g b=y)(x0:0≤x)(x1:x<4294967296)(y0:0≤y)(y1:y<4294967296)(h:hseq (flagC op a b++rest) s=I s'): ∃s1,hseq rest s1=I s'∧s1.g 10=aluF op x y∧s1.m=s.m∧ ∀k,k≠9→k≠10→k≠11→k≠12→s1.g k=s.g k:=by
 unfold flagC at h;rw[BM] at h;obtain⟨s1,h,v9,m1,k1⟩:=aluC_ok op 9 a b _ s s' x y h0 h1 h24 Ak hx hy x0 x1 y0 y1 h;have rb:=aluH_bd op x y x0 x1 y0 y1;have hB:aluB op y=Af:=by simp[aluB];omega
 generalize hr:aluH op x y=r at*;rw[BM,DV,hseq_hop _ _ _ _ _ _ Ak] at h;have z1:s1.g 15=0:=by rw[k1 15 (by decide) (by decide)];exact hz
 rw[BM,BM] at h;obtain⟨s2,h,v2,m2,k2⟩:=sign1 _ _ s' r (if r=0 then 1 else 0) (by simp only[upZ,Dq,if_false];exact v9) rb.1 rb.2 (by
  simp only[upZ,if_true,v9,z1];show(if r=0 then(1:Int) else 0)=_;rfl) EU h
 have kk: ∀k,k≠9→k≠10→k≠11→k≠12→s2.g k=s.g k:=λk c1 c2 c3 c4=>by
  rw[k2 k c2 c3 c4];simp only[upZ,Ae c2];exact k1 k c1 c4
 have v2':s2.g 10=plainF r:=v2;have v9':s2.g 9=r:=by rw[k2 9 (by decide) (by decide) (by decide)];simp only[upZ,Dq,if_false];exact v9
 have hx2:s2.g a=x:=by rw[kk a (by omega) (by omega) (by omega) (by omega)];exact hx
 have hy2:s2.g b=y:=by rw[kk b (by omega) (by omega) (by omega) (by omega)];exact hy
 have hm2:s2.m=s.m:=by rw[m2];exact m1
 have hP:=Gx r;by_cases e16:op=16
 ·rw[An e16] at h;rw[BM,DV,hseq_hop _ _ _ _ _ _ Ak,BM] at h;have hr':(x+y)%4294967296=r:=by rw[←hr,e16];rfl
  obtain⟨s3,h,v3,m3,k3⟩:=bit2 _ _ s' (if r<x then 1 else 0) (plainF r) (by
   simp only[upZ,if_true,v9',hx2];rfl) EU Mj hP h
  have k3':=Ml;obtain⟨s4,h,v4,m4,k4⟩:=over_ok rest s3 s' a 9 b 9 x r y r (plainF r+(if r<x then 1 else 0)*4) IP IQ Mm IQ O O ⟨x0,x1⟩ rb ⟨y0,y1⟩ rb v3 (by split<;>omega) h
  refine⟨s4,h, ?_,by rw[m4,m3];exact hm2,λk c1 c2 c3 c4=>Mn⟩;rw[v4];unfold aluF;rw[hB,Ae (show ¬(Af=Aa) by decide),An e16];unfold moreF;rw[hr'];congr 2;split<;>simp
 ·rw[Ae e16] at h;by_cases e17:op=17∨op=25
  ·rw[An e17] at h;rw[BM,DV,hseq_hop _ _ _ _ _ _ Ak,BM] at h;have hr':(x -y)%4294967296=r:=by
    rw[←hr];rcases e17 with rfl|rfl<;>rfl
   obtain⟨s3,h,v3,m3,k3⟩:=bit2 _ _ s' (if x<y then 1 else 0) (plainF r) (by
    simp only[upZ,if_true,hx2,hy2];rfl) EU Mj hP h
   have k3':=Ml;obtain⟨s4,h,v4,m4,k4⟩:=over_ok rest s3 s' a b a 9 x y x r (plainF r+(if x<y then 1 else 0)*4) IP Mm IP IQ O O ⟨x0,x1⟩ ⟨y0,y1⟩ ⟨x0,x1⟩ rb v3 (by split<;>omega) h
   refine⟨s4,h, ?_,by rw[m4,m3];exact hm2,λk c1 c2 c3 c4=>Mn⟩;rw[v4];have eF:aluF op x y=lessF x y:=by
    unfold aluF;rw[hB,Ae (show ¬(Af=Aa) by decide),Ae e16];rcases e17 with e|e;·rw[An e]
    ·rw[Ae O,An e]
   rw[eF];unfold lessF;rw[hr'];congr 2;split<;>simp
  ·rw[Ae e17,CI] at h;refine⟨s2,h, ?_,hm2,kk⟩;rw[v2'];unfold aluF;rw[hB,Ae (show ¬(Af=Aa) by decide),Ae e16,Ae (λe=>e17 (Ag e)),Ae (λe=>e17 (Ah e)),←hr];unfold aluH;rw[Ae (λe=>e17 (Ah e))]
end Tr
namespace Sv
open Gs
theorem IR{P:BW}{fn:Func}{p q:Tmp}{ty':AK}(h:fn.results=#[.cell q ty',.tmp p])(tmps:AL)(w:Ac)(g':Nat)(t':AK)(cs':AL)(d':TypeDesc)(v:As)(hp:tmps.getD p Bt=v)(hq:tmps.getD q Bt=↑g')(hg':Blk w g' t' cs')(hu':P.underlying ty'=I d')(hd':(match d' with|.struct _|.array _ _=>Af|_=>Aa)=Af)(hi':(P.info? ty').map (·.size)=I cs'.size):(results fn tmps).run P w=.ok (AD #[AA cs',v]) w:=GE
def GivesSB(w:Ac)(s:St)(b:Bool)(e:AT)(w':Ac):Prop:=
 ∃A c B d,e=Ax (AD #[AA (stc s (U A s.d.length c) (U B s.r.length d)),Ap b])∧StV w' ↑w s (U A s.d.length c) (U B s.r.length d)∧(∀k,(U A s.d.length c).ownBlock=I k→(U B s.r.length d).ownBlock≠I k)∧Fr Aj w w'
theorem ended2{w w1 w2 W4 W5:Ac}{g1 g2:Nat}{s t:St}{A B:Aw}{c d:Nat}(b:Bool)(f0:Fr Aj w w1)(h1:↑w≤g1)(l1:g1<↑w1)(h2:↑w≤g2)(l2:g2<↑w1)(f1:Fr Aj w1 w2)(hS:StV w2 ↑w1 s (U A s.d.length c) (U B s.r.length d))(hne: ∀k,(U A s.d.length c).ownBlock=I k→(U B s.r.length d).ownBlock≠I k)(f2:Fr (· =g1) w2 W4)(f3:Fr (· =g2) W4 W5)(ht:t.Ok)(hd:t.d=s.d)(hr:t.r=s.r):GivesSB w t b (Ax (AD #[AA (stc t (U A s.d.length c) (U B s.r.length d)),Ap b])) W5:=by
 obtain⟨A',c',B',d',e,h3,h4,h5⟩:=ended f0 h1 l1 h2 l2 f1 hS hne f2 f3 ht hd hr;have e:Value.agg (stc t (U A s.d.length c) (U B s.r.length d))=Value.agg (stc t (U A' t.d.length c') (U B' t.r.length d')):=by injection e
 exact⟨A',c',B',d',by rw[e],h3,h4,h5⟩
theorem TV(v:Int)(h0:0≤v)(h1:v≤4294967295):Bb .andNot V v 63=v/64*64:=by
 obtain⟨a,rfl⟩:=CM h0;have ha:a<4294967296:=O;have h:=u32_andNot_nat a 63 ha O;have e:((63:Nat):Int)=63:=rfl;rw[e] at h;rw[h];have k:a&&&(4294967295 -63)=a/64*64:=by
  apply Nat.eq_of_testBit_eq;intro i;rw[show(4294967295 -63:Nat)=(2^26 -1)<<<6 by rfl,show a/64*64=(a>>>6)<<<6 by rw[Nat.shiftLeft_eq,Nat.shiftRight_eq_div_pow],Nat.testBit_and,Nat.testBit_shiftLeft,Nat.testBit_shiftLeft,Nat.testBit_two_pow_sub_one,Nat.testBit_shiftRight];by_cases q:6≤i
  ·have q2:6+(i -6)=i:=O;rw[q2];by_cases q3:i -6<26;·simp[q,q3]
   ·have:a.testBit i=Aa:=Nat.testBit_lt_two_pow (AW ha (by rw[show(4294967296:Nat)=2^32 by rfl];exact Nat.pow_le_pow_right (by decide) (by omega)));simp[this]
  ·simp[q]
 omega
theorem and_15u(v:Int)(h0:0≤v)(h1:v≤4294967295):Bb .and V v 15=v%16:=by
 obtain⟨a,rfl⟩:=CM h0;have:=u32_and_nat a 15 O O;have e:((15:Nat):Int)=15:=rfl;rw[e] at this;rw[this,show(15:Nat)=2^4 -1 by rfl,Nat.and_two_pow_sub_one_eq_mod];omega
theorem set_any(w:Ac)(base:Nat)(s:St)(A B:Aw)(c d:Nat)(h:StV w base s (U A s.d.length c) (U B s.r.length d))(hd:s.d.length≤100000)(hr:s.r.length≤100000)(reg v:Int)(v0:0≤v)(v1:v≤4294967295):At Tryz.prog 156 #[AA (stc s (U A s.d.length c) (U B s.r.length d)),J Z reg,J V v] w (GivesSB w (setS s reg v) (setB reg)):=by
 have hc:(reg=0∨reg=1∨reg=2∨reg=3∨reg=4∨reg=5∨reg=6∨reg=7∨reg=8∨reg=10)∨setB reg=Aa∧(reg<0∨10<reg∨reg=9):=by
  simp[setB];omega
 obtain⟨b1,b2,f0⟩:=boxed2 w (stc s (U A s.d.length c) (U B s.r.length d)) z16 41 41;have Hc:=T (copy_any _ base s _ _ (h.fr0 f0) hd hr);have HT:Hid ((setS s reg v).Ok∧(setS s reg v).d=s.d∧(setS s reg v).r=s.r):=T (by
  obtain⟨h1,h2,h3,h4,h5,h6,h7,h8,h9,h10⟩:=h.ok;rcases hc with(rfl|rfl|rfl|rfl|rfl|rfl|rfl|rfl|rfl|rfl)|hc
  iterate 10 exact⟨⟨by first|exact h1|omega,by first|exact h2|(show 0≤v%16∧v%16≤_;omega),by first|exact h3|(show 0≤v/64*64∧v/64*64≤_;omega),by first|exact h4|exact⟨v0,v1⟩,by first|exact h5|exact⟨v0,v1⟩,by first|exact h6|exact⟨v0,v1⟩,by first|exact h7|exact⟨v0,v1⟩,h8,h9,h10⟩,rfl,rfl⟩
  unfold setS
  repeat rw[Ae O]
  exact⟨h.ok,rfl,rfl⟩)
 have F0:=T f0;have B2:=T b2;have HV:=T (A9 (TV v v0 v1) (and_15u v v0 v1));clear h f0 b2;go_in;go_wp2_with ((with_reducible refine wpL_lq b1 AP sz16 ?_));refine Ay Hc ?_;rintro e w2 ⟨A1,c1',B1',d1',rfl,hS,hne,f1⟩;have b12:=b1.fr f1 id;have B22:=T (B2.out.fr f1 id);have HS:=T hS;have F1:=T f1;have HN:=T hne;have o1:=one16 s (U A1 s.d.length c1') (U B1' s.r.length d1') rfl rfl;clear hS f1 b1 hne Hc;go_upto_block 0 with(((with_reducible refine wpL_sq (cs':=stc s (U A1 s.d.length c1') (U B1' s.r.length d1')) b12 sz16 o1 ?_);intro W3 b3 f3;have B3:=T b3;have F3:=T f3;have B23:=T (B22.out.fr f3 (λe=>O));clear b3 f3 b12 o1));go_cut [] (λwx=>setB reg=Af∧Hid (Blk wx ↑w 41 (stc (setS s reg v) (U A1 s.d.length c1') (U B1' s.r.length d1'))∧Fr (· =w.heap.size) W3 wx));case first=>
  rcases hc with hc|⟨hb,hn⟩
  ·obtain⟨k0,k1,k2,k3,k4,k5,k6,k7,k8,k9,k10,k11,k12,k13,k14,k15⟩:=cells16 B3.out;have kl:=B3.out.lt;have ks:=B3.out.frozen;have hv:(v !=0)= !decide (v=0):=by simp[bne,BEq.beq]
   obtain⟨hv1,hv2⟩:=HV.out;rcases hc with rfl|rfl|rfl|rfl|rfl|rfl|rfl|rfl|rfl|rfl
   iterate 10 (go_wp2_with fail;go_meet;exact⟨rfl,T ⟨B3.out.set_ _ _,(Ao _ _).at_ _ _⟩⟩)
  ·have HQ:Hid (Blk W3 ↑w 41 (stc (setS s reg v) (U A1 s.d.length c1') (U B1' s.r.length d1'))∧Fr (· =w.heap.size) W3 W3):=T ⟨by
    unfold setS
    repeat rw[Ae O]
    exact B3.out,Ao _ _⟩
   obtain⟨n0,n1,n2,n3,n4,n5,n6,n7,n8,n9⟩:(reg==0)=Aa∧(reg==1)=Aa∧(reg==2)=Aa∧(reg==3)=Aa∧(reg==4)=Aa∧(reg==5)=Aa∧(reg==6)=Aa∧(reg==7)=Aa∧(reg==8)=Aa∧(reg==10)=Aa:=by
    simp;omega
   go_upto_region 3 with(fail);exact Mo
 case rest=>
  obtain⟨hb,HQ⟩:=hcut;exact Mo
end Sv
section
def Cells(w:Ac)(g:Nat)(t:AK)(n:Nat)(f:Nat→As):Prop:= ∃cs,Blk w g t cs∧cs.size=n∧ ∀i,i<n→cs[i]?=I (f i)
def putV(f:Nat→As)(i:Nat)(v:As):Nat→As:=λj=>if j=i then v else f j
def putR(f:Nat→As)(o:Nat)(vs:List As):Nat→As:=λj=>if o≤j∧j<o+vs.length then vs.getD (j -o) Bt else f j
section
variable {w w':Ac} {g n:Nat} {t:AK} {f f':Nat→As}
theorem Cells.lt(h:Cells w g t n f):g<↑w:=by obtain⟨_,h,_⟩:=h;exact h.lt
theorem Cells.cell(h:Cells w g t n f)(i:Nat)(hi:i<n):w.cell? ⟨g,i,G⟩=I (f i):=by
 obtain⟨cs,h1,_,h3⟩:=h;rw[h1.cell i];exact h3 i hi
theorem Cells.frozen(h:Cells w g t n f)(i:Nat):w.frozen? ⟨g,i,G⟩=Aa:=by
 obtain⟨cs,h1,_⟩:=h;exact h1.frozen i
theorem Cells.drew(h:Cells w g t n f):Cells w.drew g t n f:=h
theorem Cells.alloc(h:Cells w g t n f)(o:Obj):Cells (w.alloc o) g t n f:=by
 obtain⟨cs,h1,h2⟩:=h;exact⟨cs,h1.alloc o,h2⟩
theorem Cells.far(h:Cells w g t n f){p:Addr}(hp:g≠p.block)(u:As):Cells (w.setCell p u) g t n f:=by
 obtain⟨cs,h1,h2⟩:=h;exact⟨cs,h1.far hp u,h2⟩
theorem Cells.fr{S:AG}(h:Cells w g t n f)(k:Fr S w w')(hn: ¬S g):Cells w' g t n f:=by
 obtain⟨cs,h1,h2⟩:=h;exact⟨cs,h1.fr k hn,h2⟩
theorem Cells.congr(h:Cells w g t n f)(e: ∀i,i<n→f i=f' i):Cells w g t n f':=by
 obtain⟨cs,h1,h2,h3⟩:=h;exact⟨cs,h1,h2,λi hi=>by rw[h3 i hi,e i hi]⟩
theorem Cells.set_(h:Cells w g t n f)(i:Nat)(v:As):Cells (w.setCell ⟨g,i,G⟩ v) g t n (putV f i v):=by
 obtain⟨cs,h1,h2,h3⟩:=h;refine⟨_,h1.set_ i v,by simp[h2],λj hj=>?_⟩;rw[Array.getElem?_setIfInBounds];by_cases e:i=j;·subst e;simp[putV,h2,hj]
 ·rw[Ae e,h3 j hj,putV,Ae (λh=>e h.symm)]
theorem Mq(w:Ac)(g o:Nat)(v:As)(vs:List As):w.setCells g o (v::vs)=(w.setCell ⟨g,o,G⟩ v).setCells g (o+1) vs:=rfl
theorem TW(f:Nat→As)(o:Nat)(v:As)(vs:List As):putR (putV f o v) (o+1) vs=putR f o (v::vs):=by
 funext j;unfold putR putV;by_cases e:j=o;·subst e;rw[Ae O,An rfl,An AB];simp
 ·by_cases h:o+1≤j∧j<o+1+vs.length;·rw[An h,An A8,show j -o=(j -(o+1))+1 by omega];simp
  ·rw[Ae h,Ae e,Ae A8]
theorem Cells.setCells(vs:List As): ∀{w:Ac} {f:Nat→As} (o:Nat),Cells w g t n f→Cells (w.setCells g o vs) g t n (putR f o vs):=by
 induction vs with
 |nil=>intro w f o h;exact h.congr (λi _=>Mr)
 |cons v vs ih=>
  intro w f o h;rw[Mq,←TW];exact ih (o+1) (h.set_ o v)
theorem Fr.setRow{S:AG}{a:Ac}{g:Nat}(vs:List As): ∀{w:Ac} (o:Nat),Fr S a w→S g∨↑a≤g→Fr S a (w.setCells g o vs):=by
 induction vs with
 |nil=>intro w o h _;exact h
 |cons v vs ih=>
  intro w o h hg;rw[Mq];exact ih (o+1) (h.setCell (p:=⟨g,o,G⟩) hg v) hg
theorem Cells.rangeAt(h:Cells w g t n f)(o:Nat)(vs:List As)(hn:o+vs.length≤n)(e: ∀j,j<vs.length→vs[j]?=I (f (o+j))):w.rangeAt g o vs:=λj v hv=>by
 have hj:j<vs.length:=(List.getElem?_eq_some_iff.1 hv).1;rw[h.cell (o+j) O,←hv,e j hj]
theorem Cells.there(h:Cells w g t n f)(o k:Nat)(hn:o+k≤n):w.there g o k:=λj hj=>
 ⟨by rw[h.cell (o+j) (by omega)];rfl,h.frozen _⟩
theorem Cells.new(w:Ac)(t:AK)(cs:AL)(f:Nat→As)(h: ∀i,i<cs.size→cs[i]?=I (f i)):Cells (w.alloc (.cells cs t)) ↑w t cs.size f:=⟨cs,AH _ _ _,rfl,h⟩
theorem Cells.new'(w:Ac)(t:AK)(cs:AL)(n:Nat)(f:Nat→As)(h:cs.toList=(Bm n).map f):Cells (w.alloc (.cells cs t)) ↑w t n f:=by
 refine⟨cs,AH _ _ _,by rw[←Array.length_toList,h];simp,λi hi=>?_⟩;rw[←CN,h];simp[hi]
theorem Cells.ne{g' n':Nat}{t':AK}{f':Nat→As}(h:Cells w g t n f)(h':Cells w g' t' n' f')(hne:t≠t'):g≠g':=by
 rintro rfl;obtain⟨cs,h1,_⟩:=h;obtain⟨cs',h1',_⟩:=h';unfold Blk at h1 h1';rw[h1] at h1';injection h1' with e;injection e with _ e2;exact hne e2
end
theorem Mt{P:BW}(w:Ac)(t e:AK)(n:Nat)(cs:List As)(i:Nat)(v:As)(d:TypeDesc)(h:P.underlying t=I (.array n e))(hi:i<n)(hu:P.underlying e=I d)(hd:d.isRow=Aa)(hs:(P.info? e).map (·.size)=I 1)(hv:cs[i]?=I v)(k:IntKind):(Instr.index t (AA cs.toArray) (J k (i:Int))).run P w=.ok v w:=by
 cases hq:P.info? e with
 |none=>simp[hq] at hs
 |some inf=>
  have hs':inf.size=1:=by simpa[hq] using hs
  have hagg:(isAgg e).run P w=.ok Aa w:=by
   unfold isAgg;rw[D5,CX hu w]
   cases d<;>simp_all
  simp[Instr.index,CX h,asIntOf,hi,part,D5,hagg,sizeOf,typeInfo,hq,hs',hv]
def Fv:=@Cells.alloc
end
section
section
variable {S:AG} {w w':Ac} {t:AK} {g:Nat} {a b c d x y:As}
end
theorem Fr.inl2{a b:Nat}{w w':Ac}(f:Fr (· =a) w w'):Fr (λk=>k=a∨k=b) w w':=f.mono λ_ _ e=> Ag e
theorem Fr.none{S:AG}{w w':Ac}(f:Fr Aj w w'):Fr S w w':=f.mono λ_ _ e=>e.elim
end
namespace Fm
structure Pl where
 own:Nat→Int
 prom:Nat→Int
 byt:Nat→Int
def pcell(s:Pl)(i:Nat):As:=if i<16384 then J AC (s.byt i) else if i<16640 then J Z (s.own (i -16384)) else J Z (s.prom (i -16640))
def updI(f:Nat→Int)(k:Nat)(v:Int):Nat→Int:=λj=>if j=k then v else f j
theorem Fw(f:Nat→Int)(k:Nat)(v:Int):updI f k v k=v:=by simp[updI]
theorem IS(f:Nat→Int){k j:Nat}(v:Int)(h:j≠k):updI f k v j=f j:=by simp[updI,h]
def Pl.setOwn(s:Pl)(f:Nat)(o:Int):Pl:={s with own:=updI s.own f o}
def Pl.setProm(s:Pl)(o:Nat)(n:Int):Pl:={s with prom:=updI s.prom o n}
def Pl.setByt(s:Pl)(i:Nat)(b:Int):Pl:={s with byt:=updI s.byt i b}
def Pl.wipe(s:Pl)(f:Nat):Pl:={s with byt:=λi=>if f*64≤i∧i<f*64+64 then 0 else s.byt i}
def Pl.new:Pl:=⟨λ_=> -1,λ_=> -1,λ_=>0⟩
structure Pl.Ok(s:Pl):Prop where
 own: ∀f,f<256→ -1≤s.own f∧s.own f<4
 prom: ∀o,o<4→ -1≤s.prom o∧s.prom o≤64
def Pool(w:Ac)(g:Nat)(s:Pl):Prop:=Cells w g 86 16644 (pcell s)
section
variable {w w':Ac} {g:Nat} {s:Pl} {S:AG}
theorem Pool.fr(h:Pool w g s)(f:Fr S w w')(hn: ¬S g):Pool w' g s:=Cells.fr h f hn
theorem Pool.lt(h:Pool w g s):g<↑w:=Cells.lt h
theorem Pool.drew(h:Pool w g s):Pool w.drew g s:=h
theorem Pool.alloc(h:Pool w g s)(o:Obj):Pool (w.alloc o) g s:=Fv h o
theorem Pool.cOwn(h:Pool w g s)(f:Nat)(hf:f<256):w.cell? ⟨g,16384+f,G⟩=I (J Z (s.own f)):=by
 rw[Cells.cell h _ O,pcell,Ae O,An O,show 16384+f -16384=f by omega]
theorem Pool.cProm(h:Pool w g s)(o:Nat)(ho:o<4):w.cell? ⟨g,16640+o,G⟩=I (J Z (s.prom o)):=by
 rw[Cells.cell h _ O,pcell,Ae O,Ae O,show 16640+o -16640=o by omega]
theorem Pool.cByt(h:Pool w g s)(i:Nat)(hi:i<16384):w.cell? ⟨g,i,G⟩=I (J AC (s.byt i)):=by
 rw[Cells.cell h _ O,pcell,An hi]
theorem Pool.setOwn(h:Pool w g s)(f:Nat)(hf:f<256)(o:Int):Pool (w.setCell ⟨g,16384+f,G⟩ (J Z o)) g (s.setOwn f o):=by
 refine Cells.congr (Cells.set_ h _ _) (λi hi=>?_);unfold putV pcell Pl.setOwn updI;by_cases e:i=16384+f;·rw[An e,Ae O,An O];dsimp only;rw[An O]
 ·rw[Ae e];by_cases h1:i<16384;·rw[An h1,An h1]
  ·by_cases h2:i<16640;·rw[Ae h1,An h2,Ae h1,An h2];dsimp only;exact GF
   ·rw[Ae h1,Ae h2,Ae h1,Ae h2]
theorem Pool.setProm(h:Pool w g s)(o:Nat)(ho:o<4)(n:Int):Pool (w.setCell ⟨g,16640+o,G⟩ (J Z n)) g (s.setProm o n):=by
 refine Cells.congr (Cells.set_ h _ _) (λi hi=>?_);unfold putV pcell Pl.setProm updI;by_cases e:i=16640+o;·rw[An e,Ae O,Ae O];dsimp only;rw[An O]
 ·rw[Ae e];by_cases h1:i<16384;·rw[An h1,An h1]
  ·by_cases h2:i<16640;·rw[Ae h1,An h2,Ae h1,An h2]
   ·rw[Ae h1,Ae h2,Ae h1,Ae h2];dsimp only;exact GF
theorem Pool.setByt(h:Pool w g s)(j:Nat)(hj:j<16384)(b:Int):Pool (w.setCell ⟨g,j,G⟩ (J AC b)) g (s.setByt j b):=by
 refine Cells.congr (Cells.set_ h _ _) (λi hi=>?_);unfold putV pcell Pl.setByt updI;by_cases e:i=j;·rw[An e,An O];dsimp only;rw[An e]
 ·exact Mv
theorem Pool.wipe(h:Pool w g s)(f:Nat)(hf:f<256):Pool (w.setCells g (f*64) (BK 64 (J AC 0))) g (s.wipe f):=by
 refine Cells.congr (Cells.setCells _ _ h) (λi hi=>?_);unfold putR pcell Pl.wipe;rw[List.length_replicate];by_cases e:f*64≤i∧i<f*64+64;·rw[An e,An O];dsimp only;rw[An e,AN,DW,An O];rfl
 ·exact Mv
end
def isO(o:Int):Bool:=decide (0≤o∧o<4)
def isF(f:Int):Bool:=decide (16≤f∧f<256)
theorem is_any(w:Ac)(o:Int):At Tryz.prog 69 #[J Z o] w λe w'=>e=Ax (Ap (isO o))∧w=w':=by
 by_cases h0:0≤o
 ·by_cases h1:o<4
  ·have hb:isO o=Af:=by simp[isO,h0,h1]
   exact EV
  ·have hb:isO o=Aa:=by simp[isO,h1]
   have h1':decide (o<4)=Aa:=Cp;exact EV
 ·have hb:isO o=Aa:=by simp[isO,h0]
  have h0':decide (0≤o)=Aa:=Ev;exact EV
theorem frame_any(w:Ac)(f:Int):At Tryz.prog 171 #[J Z f] w λe w'=>e=Ax (Ap (isF f))∧w=w':=by
 by_cases h0:16≤f
 ·by_cases h1:f<256
  ·have hb:isF f=Af:=by simp[isF,h0,h1]
   exact EV
  ·have hb:isF f=Aa:=by simp[isF,h1]
   have h1':decide (f<256)=Aa:=Cp;exact EV
 ·have hb:isF f=Aa:=by simp[isF,h0]
  have h0':decide (16≤f)=Aa:=Ev;exact EV
def ownB(s:Pl)(f:Int):Bool:=isF f&&(s.own f.toNat != -1)
def ownV(s:Pl)(f:Int):Int:=if ownB s f then s.own f.toNat else 0
theorem TX(w:Ac)(g:Nat)(s:Pl)(f:Int)(h:Pool w g s):At Tryz.prog 125 #[↑g,J Z f] w λe w'=>e=Ax (AD #[J Z (ownV s f),Ap (ownB s f)])∧w=w':=by
 have hf:=λw=>frame_any w f;have Hf:=T hf;clear hf;by_cases h1:isF f=Af
 ·obtain⟨h2,h3⟩:16≤f∧f<256:=by simpa[isF] using h1
  obtain⟨k,rfl⟩: ∃k:Nat,f=k:=⟨f.toNat,O⟩;have c:=h.cOwn k O;rw[h1] at Hf;by_cases h4:s.own k= -1
  ·have e1:ownB s k=Aa:=by simp[ownB,h4]
   have e2:ownV s k=0:=by simp[ownV,e1]
   rw[e1,e2];clear e1 e2 h1;rw[h4] at c;exact IT
  ·have e1:ownB s k=Af:=by simp[ownB,h4,h1]
   have e2:ownV s k=s.own k:=by simp[ownV,e1]
   rw[e1,e2];have h4':(s.own k== -1)=Aa:=by simpa using h4
   clear e1 e2 h1 h4;exact IT
 ·have h1:isF f=Aa:=Cp;have e1:ownB s f=Aa:=by simp[ownB,h1]
  have e2:ownV s f=0:=by simp[ownV,e1]
  rw[e1,e2];rw[h1] at Hf;clear e1 e2 h1;exact IT
end Fm
namespace Fm
def hereB(s:Pl)(f a:Int):Bool:=ownB s f&&decide (0≤a∧a<64)
theorem ownB_in{s:Pl}{f:Int}(h:ownB s f=Af):16≤f∧f<256:=by
 simp[ownB,isF] at h;exact h.1
theorem here_any(w:Ac)(g:Nat)(s:Pl)(f a:Int)(h:Pool w g s):At Tryz.prog 96 #[↑g,J Z f,J Z a] w λe w'=>e=Ax (Ap (hereB s f a))∧w=w':=by
 have ho:=T (TX w g s f h)
 cases hb:ownB s f
 ·have e1:hereB s f a=Aa:=by simp[hereB,hb]
  rw[e1];have hv:=ho.out;rw[hb] at hv;have Hv:=T hv;clear hv hb e1 ho;go_in;go_wp2_with fail;refine Ay Hv ?_;exact Fx
 ·have hv:=ho.out;rw[hb] at hv;have Hv:=T hv;clear hv ho;by_cases h0:0≤a
  ·by_cases h1:a<64
   ·have e1:hereB s f a=Af:=by simp[hereB,hb,h0,h1]
    exact IU
   ·have e1:hereB s f a=Aa:=by simp[hereB,h1]
    have h1':decide (a<64)=Aa:=Cp;exact IU
  ·have e1:hereB s f a=Aa:=by simp[hereB,h0]
   have h0':decide (0≤a)=Aa:=Ev;exact IU
theorem hereB_at{s:Pl}{f a:Int}(h:hereB s f a=Af): ∃k j:Nat,f=k∧a=j∧16≤k∧k<256∧j<64:=by
 simp[hereB] at h;obtain⟨h1,h2,h3⟩:=h;have:=ownB_in h1;exact⟨f.toNat,a.toNat,O,O,O,O,O⟩
def bytV(s:Pl)(f a:Int):Int:=if hereB s f a then s.byt (f.toNat*64+a.toNat) else 0
theorem byte_any(w:Ac)(g:Nat)(s:Pl)(f a:Int)(h:Pool w g s):At Tryz.prog 129 #[↑g,J Z f,J Z a] w λe w'=>e=Ax (AD #[J AC (bytV s f a),Ap (hereB s f a)])∧w=w':=by
 have hh:=T (here_any w g s f a h)
 cases hb:hereB s f a
 ·have e1:bytV s f a=0:=by simp[bytV,hb]
  rw[e1];have hv:=hh.out;rw[hb] at hv;have Hv:=T hv;exact Mw
 ·have e1:bytV s f a=s.byt (f.toNat*64+a.toNat):=by simp[bytV,hb]
  rw[e1];have hv:=hh.out;rw[hb] at hv;have Hv:=T hv;obtain⟨k,j,rfl,rfl,h1,h2,h3⟩:=hereB_at hb;have c:=h.cByt (k*64+j) O;exact Mw
def Pl.putB(s:Pl)(f a b:Int):Pl:=if hereB s f a then s.setByt (f.toNat*64+a.toNat) b else s
theorem put_any(w:Ac)(g:Nat)(s:Pl)(f a b:Int)(h:Pool w g s):At Tryz.prog 75 #[↑g,J Z f,J Z a,J AC b] w λe w'=>e=Ax (Ap (hereB s f a))∧Pool w' g (s.putB f a b)∧Fr (· =g) w w':=by
 have hh:=T (here_any w g s f a h)
 cases hb:hereB s f a
 ·have e1:s.putB f a b=s:=by simp[Pl.putB,hb]
  rw[e1];have hv:=hh.out;rw[hb] at hv;have Hv:=T hv;clear hv hb e1 hh;go_in;go_wp2_with fail;refine Ay Hv ?_;exact IW
 ·have e1:s.putB f a b=s.setByt (f.toNat*64+a.toNat) b:=by simp[Pl.putB,hb]
  rw[e1];have hv:=hh.out;rw[hb] at hv;have Hv:=T hv;obtain⟨k,j,rfl,rfl,h1,h2,h3⟩:=hereB_at hb;have c:=h.cByt (k*64+j) O;have z:=Cells.frozen h (k*64+j);have hp:=h.setByt (k*64+j) O b;clear hv hb e1 hh;go_in;go_wp2_with fail;refine Ay Hv ?_;rintro e w' ⟨rfl,rfl⟩
  go_wp2
  go_ret;exact⟨rfl,hp,Bc _ _ _ _⟩
end Fm
namespace Fm
def pz:List As:=BK 16384 (J AC 0)++BK 260 (J Z 0)
def pza:AL:=pz.toArray
set_option maxRecDepth 1000000 in
theorem zeroPool:(Tryz.prog.info? 86).bind (·.zero)=I (AA pza):=AI
theorem TY(W:Ac):(zeroValue 86).run Tryz.prog W=.ok (AA pza) W:=by
 have h:=zeroPool
 cases hi:Tryz.prog.info? 86 with
 |none=>rw[hi] at h;cases h
 |some i=>
  rw[hi] at h;have h':i.zero=I (AA pza):=h;exact IX
def new1(k:Nat):Pl:=⟨λj=>if j<k then -1 else 0,λ_=>0,λ_=>0⟩
def new2(k:Nat):Pl:=⟨λ_=> -1,λj=>if j<k then -1 else 0,λ_=>0⟩
theorem pool0(w:Ac):Pool (w.alloc (.cells pza 86)) ↑w (new1 0):=by
 refine⟨pza,AH _ _ _,by unfold pza pz;rw[List.size_toArray,BJ,List.length_replicate,List.length_replicate],λi hi=>?_⟩;unfold pza pz pcell new1;rw[List.getElem?_toArray];by_cases h1:i<16384;·rw[An h1,CO (by rw[List.length_replicate];exact h1),DW,An h1]
 ·rw[Ae h1,CB (by rw[List.length_replicate];omega),List.length_replicate,DW,An O];have e0: ∀j:Nat,(if j<0 then(-1:Int) else 0)=0:=λj=>by rw[Ae (Nat.not_lt_zero j)]
  simp only[e0];by_cases h2:i<16640;·rw[An h2]
  ·rw[Ae h2]
theorem TZ(k:Nat):(new1 k).setOwn k (-1)=new1 (k+1):=by
 unfold new1 Pl.setOwn updI;exact IY
theorem Ua(k:Nat):(new2 k).setProm k (-1)=new2 (k+1):=by
 unfold new2 Pl.setProm updI;exact IY
theorem Pool.congr{w:Ac}{g:Nat}{s s':Pl}(h:Pool w g s)(h1: ∀f,f<256→s.own f=s'.own f)(h2: ∀o,o<4→s.prom o=s'.prom o)(h3: ∀i,i<16384→s.byt i=s'.byt i):Pool w g s':=by
 refine Cells.congr h (λi hi=>?_);unfold pcell;by_cases e1:i<16384;·rw[An e1,An e1,h3 i e1]
 ·by_cases e2:i<16640;·rw[Ae e1,An e2,Ae e1,An e2,h1 _ O]
  ·rw[Ae e1,Ae e2,Ae e1,Ae e2,h2 _ O]
set_option maxRecDepth 100000 in
theorem new_any(w:Ac):At Tryz.prog 20 #[] w λe w'=>e=Ax (Bi (I ⟨↑w,0,G⟩))∧Pool w' ↑w Pl.new∧Fr Aj w w':=by
 have hz:=TY;go_in;go_wp2_with fail;clear hz;go_loopw [2,6] (λ_ i wr=> ∃k:Nat,k≤256∧i=J Z k∧Pool wr ↑w (new1 k)∧Fr Aj w wr) (λ_ i _=>256 -(AJ i).toNat)
 case atStart=>exact⟨0,O,rfl,pool0 w,(Ao _ _).alloc _⟩
 case round=>
  obtain⟨k,hk,rfl,hP,fr⟩:=hrel;by_cases hlt:k<256;·have c:=hP.cOwn k hlt;have z:=Cells.frozen hP (16384+k);have hp:=hP.setOwn k hlt (-1);rw[TZ] at hp;have fr2:=fr.setCell (p:=⟨↑w,16384+k,G⟩) (Ah (AE _)) (J Z (-1));exact Mx
  ·have e:k=256:=O;subst e;have hP:Pool wr ↑w (new2 0):=hP.congr (λf hf=>by simp[new1,new2,hf]) (λo ho=>by simp[new1,new2]) (λi hi=>rfl);go_wp2_with fail;go_loopw [3,15] (λ_ i wr=> ∃k:Nat,k≤4∧i=J Z k∧Pool wr ↑w (new2 k)∧Fr Aj w wr) (λ_ i _=>4 -(AJ i).toNat)
   case atStart=>exact⟨0,O,rfl,hP,fr⟩
   case round=>
    clear hP fr;obtain⟨k,hk,rfl,hP,fr⟩:=hrel;by_cases hlt:k<4;·have c:=hP.cProm k hlt;have z:=Cells.frozen hP (16640+k);have hp:=hP.setProm k hlt (-1);rw[Ua] at hp;have fr2:=fr.setCell (p:=⟨↑w,16640+k,G⟩) (Ah (AE _)) (J Z (-1));exact Mx
    ·have e:k=4:=O;subst e
     go_wp2
     go_ret;exact⟨rfl,hP.congr (λf hf=>rfl) (λo ho=>by simp[new2,Pl.new,ho]) (λi hi=>rfl),fr⟩
theorem new_ok:Pl.new.Ok:=⟨λf hf=>by simp[Pl.new],λo ho=>by simp[Pl.new]⟩
def heldN(s:Pl)(o:Int)(k:Nat):List Int:=((Bm k).filter λf=>s.own f==o).map Int.ofNat
theorem heldN_le(s:Pl)(o:Int)(k:Nat):(heldN s o k).length≤k:=by
 unfold heldN;exact My
theorem Ub(s:Pl)(o:Int)(k:Nat)(h:s.own k=o):heldN s o (k+1)=heldN s o k++[(k:Int)]:=MA
theorem heldN_no(s:Pl)(o:Int)(k:Nat)(h: ¬s.own k=o):heldN s o (k+1)=heldN s o k:=MA
def held(s:Pl)(o:Int):List Int:=if isO o then heldN s o 256 else[]
def by64(l:List Int):List As:=l.map (J Z)
theorem info64:(Tryz.prog.info? 3).map (λi=>(i.zero,i.size,i.bytes))=I (I (J Z 0),1,8):=AI
def GivesI(w:Ac)(base:Nat)(l:List Int)(e:AT)(w':Ac):Prop:=
 ∃v,e=Ax v∧w'.ownsRow base 3 1 v l.length (by64 l)∧Fr Aj w w'∧(∀k,v.ownBlock=I k→w.heap.size≤k)
set_option maxRecDepth 100000 in
theorem held_any(w:Ac)(g:Nat)(s:Pl)(o:Int)(h:Pool w g s)(base:Nat)(hb:base≤↑w):At Tryz.prog 124 #[↑g,J Z o] w (GivesI w base (held s o)):=by
 obtain⟨i0,hi0,hz0,hz1,hz2⟩:=BH info64;have hf:=λw=>is_any w o;have Hf:=T hf;clear hf
 cases hb:isO o
 ·have hG:GivesI w base (held s o) (Ax (U G 0 0)) w:=by
   have e:held s o=[]:=by simp[held,hb]
   rw[e];exact⟨_,rfl,⟨rfl,Ag ⟨rfl,rfl⟩⟩,Ao _ _,λk hk=>Ew⟩
  rw[hb] at Hf;have HG:=T hG;clear hb hG;go_in;go_wp2_with fail;refine(Hf.out _).mono ?_;rintro e w' ⟨rfl,rfl⟩
  go_wp2
  go_ret;exact HG.out
 ·have he:held s o=heldN s o 256:=by simp[held,hb]
  rw[he];rw[hb] at Hf;clear hb he;go_in;go_wp2_with fail;refine(Hf.out _).mono ?_;rintro e w' ⟨rfl,rfl⟩;go_wp2_with fail;go_loopw [5,11] (λv i wr=> ∃k:Nat,k≤256∧i=J Z k∧wr.ownsRow base 3 1 v (heldN s o k).length (by64 (heldN s o k))∧Fr Aj w wr∧(∀b,v.ownBlock=I b→w.heap.size≤b)) (λ_ i _=>256 -(AJ i).toNat)
  case atStart=>exact⟨0,O,rfl,⟨rfl,Ag ⟨rfl,rfl⟩⟩,Ao _ _,λk hk=>Ew⟩
  case round=>
   obtain⟨k,hk,rfl,hown,fr,hat⟩:=hrel;by_cases hlt:k<256
   ·have c:=(h.fr fr id).cOwn k hlt;have hle:=heldN_le s o k;have hbs:=AS hb fr.size;by_cases ho:s.own k=o
    ·have Hs:=T (Ub s o k ho);rw[ho] at c;have hown':=CH hown (.cells #[J Z (k:Int)] 3);clear ho;generalize heldN s o k=l at*;go_wp2_with
      (at_builtin
       refine Ce _ rfl (.tmp 22) (.tmp 24) _ rfl base 3 i0 _ 1 8 CV hi0 hz0 hz1 hz2 rfl O u5 l.length (by64 l) rfl hown' (wr.heap.size+1) (I ⟨wr.heap.size,0,G⟩) 1 1 [J Z (k:Int)] rfl (Cn (AH _ _ _) rfl) CL Bu O A8 ?_
       intro v1 w1 hown1 hg1 hat1)
     exact MB
    ·have Hs:=T (heldN_no s o k ho);have ho':(s.own k==o)=Aa:=by simpa using ho
     clear ho;generalize heldN s o k=l at*;exact MC
   ·have e:k=256:=O;subst e;have hG:GivesI w base (heldN s o 256) (Ax u5) wr:=⟨_,rfl,hown,fr,hat⟩;exact MD
end Fm
namespace Fm
def sumP(s:Pl):Nat→Int
 |0=>0
 |k+1=>sumP s k+max (s.prom k) 0
theorem sumP_bd{s:Pl}(h:s.Ok): ∀k,k≤4→0≤sumP s k∧sumP s k≤64*k:=by
 intro k
 induction k with
 |zero=>intro _;simp[sumP]
 |succ k ih=>
  intro hk;have:=ih O;have:=h.prom k O;rw[sumP];omega
def promR(s:Pl)(o n:Int):Int:=
 if isO o=Aa∨n<0∨64<n then 1 else if s.prom o.toNat≠ -1 then 24 else if 240<n+sumP s 4 then 13 else 0
def Pl.promise(s:Pl)(o n:Int):Pl:=if promR s o n=0 then s.setProm o.toNat n else s
theorem Uc{s:Pl}(h:s.Ok)(o n:Int):(s.promise o n).Ok:=by
 unfold Pl.promise;split
 ·rename_i hr
  have hn:isO o=Af∧0≤n∧n≤64:=by
   unfold promR at hr;split at hr;·omega
   ·rename_i hh;simp at hh;exact hh
  refine⟨h.own,λk hk=>?_⟩;unfold Pl.setProm updI;dsimp only;split;·omega
  ·exact h.prom k hk
 ·exact h
def proms(s:Pl):List As:=[J Z (s.prom 0),J Z (s.prom 1),J Z (s.prom 2),J Z (s.prom 3)]
theorem proms_at(s:Pl)(k:Nat)(hk:k<4):(proms s)[k]?=I (J Z (s.prom k)):=by
 rcases(by omega:k=0∨k=1∨k=2∨k=3) with rfl|rfl|rfl|rfl<;>rfl
set_option maxRecDepth 100000 in
theorem Ud(w:Ac)(g:Nat)(s:Pl)(o n:Int)(h:Pool w g s)(hok:s.Ok)(hn0: -9223372036854775808≤n)(hn1:n≤9223372036854775807):At Tryz.prog 47 #[↑g,J Z o,J Z n] w λe w'=>e=Ax (J Z (promR s o n))∧Pool w' g (s.promise o n)∧Fr (· =g) w w':=by
 have hf:=λw=>is_any w o;have Hf:=T hf;clear hf
 cases hb:isO o
 ·have e1:promR s o n=1:=by simp[promR,hb]
  have e2:=IZ;rw[e1,e2];rw[hb] at Hf;exact ME
 ·rw[hb] at Hf;by_cases hn:n<0
  ·have e1:promR s o n=1:=by simp[promR,hn]
   have e2:=IZ;rw[e1,e2];exact ME
  ·by_cases hn2:64<n
   ·have e1:promR s o n=1:=by simp[promR,hn2]
    have e2:=IZ;rw[e1,e2];have hn':=Ja;clear hb e1 e2 hn;exact MF
   ·obtain⟨ho1,ho2⟩:0≤o∧o<4:=by simpa[isO] using hb
    obtain⟨k,rfl⟩: ∃k:Nat,o=k:=⟨o.toNat,O⟩;have hk4:k<4:=O;have c:=h.cProm k hk4;have z:=Cells.frozen h (16640+k);by_cases hp:s.prom k= -1
    ·have hr:w.rangeAt g 16640 (proms s):=Cells.rangeAt h 16640 _ (by simp[proms]) (λj hj=>by
      have hj4:j<4:=by simpa[proms] using hj
      rw[proms_at s j hj4,pcell,Ae O,Ae O,show 16640+j -16640=j by omega])
     have hix: ∀(j:Nat),j<4→ ∀w,(Instr.index 84 (AA (proms s).toArray) (J Z (j:Int))).run Tryz.prog w=.ok (J Z (s.prom j)) w:=λj hj w=>
      Mt w _ 3 4 _ j _ _ Tryz.underlying84 hj Tryz.underlying3 rfl AI (proms_at s j hj) Z
     have Hix:=T hix;have hinf:(Tryz.prog.info? 84).map (·.size)=I (proms s).length:=AI;have hbd:=sumP_bd hok;have Hbd:=T hbd;have hpw:=h.setProm k hk4 n;have Hpw:=T hpw;have e1:promR s k n=if 240<n+sumP s 4 then 13 else 0:=by simp[promR,hb,hn,hn2,hp]
     have E1:=T e1;have E2:=T (show s.promise k n=if 240<n+sumP s 4 then s else s.setProm k n by
      unfold Pl.promise;rw[e1];by_cases hh:240<n+sumP s 4;·rw[An hh,An hh,Ae O]
      ·rw[Ae hh,Ae hh,An rfl];rfl)
     have hn':=Ja;have hn2':decide (64<n)=Aa:=by simpa using hn2
     have hn3:0≤n:=O;have hn4:n≤64:=O;rw[hp] at c;clear hix hbd hpw e1 hp hb hn hn2;go_in;go_wp2_with fail;refine(Hf.out _).mono ?_;rintro e w' ⟨rfl,rfl⟩;go_wp2_with (refine wpList_load_mid rfl 84 (.tmp 33) rfl g 16640 rfl _ _ hr Tryz.underlying84 rfl hinf ?_);clear hr hinf
     go_loop [7,35] (λa i=> ∃j:Nat,j≤4∧i=J Z j∧a=J Z (n+sumP s j)) (λ_ i=>4 -(AJ i).toNat)
     case atStart=>exact⟨0,O,rfl,by simp[sumP]⟩
     case round=>
      obtain⟨j,hj,rfl,rfl⟩:=hrel;by_cases hlt:j<4
      ·have hi:=Hix.out j hlt;obtain⟨hb0,hb1⟩:=Hbd.out j hj;have hpj:=hok.prom j hlt;have Hs:=T (show sumP s (j+1)=sumP s j+max (s.prom j) 0 from rfl);generalize sumP s j=sj at*;generalize s.prom j=pj at*;go_wp2_with fail
       all_goals
        go_round
        case rel=>exact⟨j+1,O,AX,by rw[Hs.out];congr 1;omega⟩
        case measure=>simp[AJ];omega
      ·have e4:j=4:=O;subst e4;obtain⟨hb0,hb1⟩:=Hbd.out 4 O;generalize sumP s 4=s4 at*;by_cases hh:240<n+s4
       ·have H1:=T (E1.out.trans (An hh));have H2:=T (E2.out.trans (An hh))
        go_wp2
        go_ret;exact⟨by rw[H1.out];rfl,by rw[H2.out];exact h,Ao _ _⟩
       ·have H1:=T (E1.out.trans (Ae hh));have H2:=T (E2.out.trans (Ae hh))
        go_wp2
        go_ret;exact⟨by rw[H1.out];rfl,by rw[H2.out];exact Hpw.out,Bc _ _ _ _⟩
    ·have e1:promR s k n=24:=by simp[promR,hb,hn,hn2,hp]
     have e2:s.promise k n=s:=by simp[Pl.promise,e1]
     rw[e1,e2];have hn':=Ja;have hn2':decide (64<n)=Aa:=by simpa using hn2
     have hp':(s.prom k != -1)=Af:=Fy;clear hb e1 e2 hn hn2 hp;exact MF
end Fm
namespace Fm
theorem ownI_any{w:Ac}{base n:Nat}{e:AK}{v:As}{xs:List As}(h:w.ownsRow base e 1 v n xs): ∃A cap,v=U A n cap:=by
 rcases h.2 with⟨rfl,rfl⟩|⟨g,cap,cur,rfl,_⟩;·exact⟨G,0,rfl⟩
 ·exact⟨_,cap,rfl⟩
def NoFree(s:Pl)(k:Nat):Prop:= ∀j,16≤j→j<k→s.own j≠ -1
def takeN(s:Pl):Option Nat:=(Bm 256).find? λf=>decide (16≤f)&&s.own f== -1
variable{s:Pl}
theorem Ue{k:Nat}(h:NoFree s k)(h16:16≤k)(hk:k<256)(ho:s.own k= -1):takeN s=I k:=by
 unfold takeN;rw[List.find?_range_eq_some];refine⟨by simp[h16,ho],by simpa using hk,λj hj=>?_⟩;by_cases h1:16≤j;·have:=h j h1 hj;simp[this]
 ·simp[h1]
theorem Uf(h:NoFree s 256):takeN s=G:=by
 unfold takeN;rw[List.find?_eq_none];intro j hj;have hj2:j<256:=by simpa using hj
 by_cases h1:16≤j;·have:=h j h1 hj2;simp[this]
 ·simp[h1]
theorem Ug{k:Nat}(h:takeN s=I k):16≤k∧k<256∧s.own k= -1∧NoFree s k:=by
 unfold takeN at h;rw[List.find?_range_eq_some] at h;obtain⟨h1,h2,h3⟩:=h;simp at h1 h2;refine⟨h1.1,h2,h1.2,λj h16 hj=>?_⟩;have:=h3 j hj;simpa[h16] using this
def mayTake(s:Pl)(o:Int):Bool:=isO o&&decide (((held s o).length:Int)<s.prom o.toNat)
def takeF(s:Pl)(o:Int):Option Nat:=if mayTake s o then takeN s else G
def takeE(s:Pl)(o:Int):Int:=if isO o=Aa then 1 else if(takeF s o).isSome then 0 else 13
def Pl.take(s:Pl)(o:Int):Pl:=match takeF s o with
 |some f=>(s.setOwn f o).wipe f
 |none=>s
def takeV(s:Pl)(o:Int):Int:=match takeF s o with
 |some f=>(f:Int)
 |none=>0
theorem take_ok(h:s.Ok)(o:Int):(s.take o).Ok:=by
 unfold Pl.take;split
 ·rename_i f hf
  have ho:0≤o∧o<4:=by
   unfold takeF at hf;split at hf
   ·rename_i hm
    simp[mayTake,isO] at hm;exact hm.1
   ·cases hf
  refine⟨λk hk=>?_,h.prom⟩;unfold Pl.wipe Pl.setOwn updI;dsimp only;split;·omega
  ·exact h.own k hk
 ·exact h
def z64:AL:=(BK 64 (J AC 0)).toArray
theorem held_len(s:Pl)(o:Int):(held s o).length≤256:=by
 unfold held;split;·exact heldN_le s o 256
 ·simp
set_option maxRecDepth 100000 in
theorem take_any(w:Ac)(g:Nat)(s:Pl)(o:Int)(h:Pool w g s)(hok:s.Ok):At Tryz.prog 95 #[↑g,J Z o] w λe w'=>e=Ax (AD #[J Z (takeV s o),J Z (takeE s o)])∧Pool w' g (s.take o)∧Fr (· =g) w w':=by
 have hf:=λw=>is_any w o;have Hf:=T hf;clear hf
 cases hb:isO o
 ·have e0:takeF s o=G:=by simp[takeF,mayTake,hb]
  have e1:takeV s o=0:=GG;have e2:takeE s o=1:=by simp[takeE,hb]
  have e3:s.take o=s:=GH;rw[e1,e2,e3];rw[hb] at Hf;clear hb e0 e1 e2 e3;go_in;go_wp2_with fail;refine(Hf.out _).mono ?_;rintro e w' ⟨rfl,rfl⟩
  go_wp2
  go_ret2;exact⟨rfl,h,Ao _ _⟩
 ·rw[hb] at Hf;obtain⟨ho1,ho2⟩:0≤o∧o<4:=by simpa[isO] using hb
  obtain⟨m,rfl⟩: ∃k:Nat,o=k:=⟨o.toNat,O⟩;have hm4:m<4:=O;have c:=h.cProm m hm4;have hlt:=h.lt;have hheld:=T (held_any w.drew g s m (h.drew) ↑w (AE _));have hhl:=held_len s m;have hmt:mayTake s m=decide (((held s m).length:Int)<s.prom m):=by simp[mayTake,hb]
  have hpm:=hok.prom m hm4;obtain⟨hp0,hp1⟩:=hpm;by_cases hfull:((held s m).length:Int)<s.prom m
  ·have hmt:mayTake s m=Af:=by rw[hmt];simpa using hfull
   have eF:takeF s m=takeN s:=by rw[takeF,An hmt]
   have EF:=T eF;have HB:=T hb;clear eF hmt hb;generalize hq:(held s m).length=hn at*;have Hhl:=T hq;clear hq;go_in;go_wp2_with fail;refine(Hf.out _).mono ?_;rintro e w' ⟨rfl,rfl⟩;go_wp2_with fail
   go_region_with ((go_at_call 124;refine Ay hheld ?_;rintro e w1 ⟨v,rfl,ho5,f5,k5⟩;rw[Hhl.out] at ho5;have c5:=f5.cell (w:=w.drew) c hlt id;obtain⟨A5,cap5,hv5⟩:=ownI_any ho5;subst hv5))
   all_goals
    have hP1:Pool w1 g s:=h.drew.fr f5 id;have fr1:=MH;go_wp2_with fail
    go_loop [6] (λi=> ∃k:Nat,16≤k∧k≤256∧i=J Z k∧NoFree s k) (λi=>256 -(AJ i).toNat)
    case atStart=>exact⟨16,O,O,rfl,λj h1 h2=>O⟩
    case round=>
     obtain⟨k,h16,hk,rfl,hNF⟩:=hrel;by_cases hlt2:k<256
     ·have c:=hP1.cOwn k hlt2;by_cases ho:s.own k= -1
      ·have z:=Cells.frozen hP1 (16384+k);have hp1:=hP1.setOwn k hlt2 m;have hth:=Cells.there hp1 (k*64) z64.size (by simp[z64];omega);have hinf:(Tryz.prog.info? 81).map (·.size)=I z64.size:=AI;have hone:z64.all (·.oneCell')=Af:=all_oneCell_toArray (λv hv=>MI);have hp2:=hp1.wipe k hlt2;have fr2:=Fr.setRow (BK 64 (J AC 0)) (k*64) (fr1.setCell (p:=⟨g,16384+k,G⟩) (Ag rfl) (J Z m)) (Ag rfl);have e0:takeF s m=I k:=(EF.out).trans (Ue hNF h16 hlt2 ho);have e1:takeV s m=k:=GG;have e2:takeE s m=0:=by simp[takeE,e0,HB.out]
       have e3:s.take m=(s.setOwn k m).wipe k:=GH;have HP2:=T hp2;have FR2:=T fr2;have E1:=T e1;have E2:=T e2;have E3:=T e3;have hz:z64.toList=BK 64 (J AC 0):=by simp[z64]
       have HZ:=T hz;rw[ho] at c;clear hp1 hp2 fr2 e0 e1 e2 e3 ho hz;go_wp2_with (refine wpList_store_mid rfl 81 (.tmp 45) (.tmp 42) rfl g (k*64) z64 rfl rfl hth hinf hone ?_);go_ret2;rw[HZ.out];exact⟨by rw[E1.out,E2.out];rfl,by rw[E3.out];exact HP2.out,FR2.out⟩
      ·have ho':(s.own k== -1)=Aa:=by simpa using ho
       have hNF2:NoFree s (k+1):=λj h1 h2=>by
        by_cases e:j=k;·rw[e];exact ho
        ·exact hNF j h1 O
       clear ho;go_wp2_with fail
       go_round
       case rel=>exact⟨k+1,O,O,AX,hNF2⟩
       case measure=>simp[AJ];omega
     ·have e:k=256:=O;subst e;have e0:takeF s m=G:=(EF.out).trans (Uf hNF);have e1:takeV s m=0:=GG;have e2:takeE s m=13:=by simp[takeE,e0,HB.out]
      have e3:s.take m=s:=GH;have E1:=T e1;have E2:=T e2;have E3:=T e3;clear e0 e1 e2 e3
      go_wp2
      go_ret2;exact⟨by rw[E1.out,E2.out];rfl,by rw[E3.out];exact hP1,fr1⟩
  ·have hmt:mayTake s m=Aa:=by rw[hmt];simpa using hfull
   have e0:takeF s m=G:=by simp[takeF,hmt]
   have e1:takeV s m=0:=GG;have e2:takeE s m=13:=by simp[takeE,e0,hb]
   have e3:s.take m=s:=GH;rw[e1,e2,e3];clear e0 e1 e2 e3 hmt hb;generalize hq:(held s m).length=hn at*;have Hhl:=T hq;have hfull':s.prom m≤(hn:Int):=O;clear hq hfull;go_in;go_wp2_with fail;refine(Hf.out _).mono ?_;rintro e w' ⟨rfl,rfl⟩;go_wp2_with fail
   go_region_with ((go_at_call 124;refine Ay hheld ?_;rintro e w1 ⟨v,rfl,ho5,f5,k5⟩;rw[Hhl.out] at ho5;have c5:=f5.cell (w:=w.drew) c hlt id;obtain⟨A5,cap5,hv5⟩:=ownI_any ho5;subst hv5))
   all_goals
    have hP1:Pool w1 g s:=h.drew.fr f5 id;have fr1:=MH
    go_wp2
    go_ret2;exact⟨rfl,hP1,fr1⟩
end Fm
namespace Fm
end Fm
namespace Fm
end Fm
namespace Fm
def cnt(p:Nat→Bool):Nat→Nat
 |0=>0
 |k+1=>cnt p k+if p k then 1 else 0
theorem cnt_le(p:Nat→Bool)(k:Nat):cnt p k≤k:=by
 induction k with
 |zero=>simp[cnt]
 |succ k ih=>simp only[cnt];split<;>omega
variable{p:Nat→Bool}
theorem MJ{q:Nat→Bool}: ∀{k:Nat},(∀j,j<k→p j=q j)→cnt p k=cnt q k:=by
 intro k
 induction k with
 |zero=>intro _;rfl
 |succ k ih=>
  intro h;rw[cnt,cnt,ih (λj hj=>h j O),h k O]
variable{f:Nat}
theorem cnt_gain{q:Nat→Bool}(hp:p f=Aa)(hq:q f=Af)(ho: ∀j,j≠f→q j=p j): ∀{k:Nat},f<k→cnt q k=cnt p k+1:=by
 intro k
 induction k with
 |zero=>intro h;omega
 |succ k ih=>
  intro h;rw[cnt,cnt];by_cases e:f=k;·subst e;rw[MJ (λj hj=>ho j O),hp,hq];simp
  ·rw[ih O,ho k (λe2=>e e2.symm)];omega
theorem cnt_lt(hp:p f=Aa): ∀{k:Nat},f<k→cnt p k<k:=by
 intro k
 induction k with
 |zero=>intro h;omega
 |succ k ih=>
  intro h;rw[cnt];by_cases e:f=k;·subst e;rw[hp];have:=cnt_le p f;simp;omega
  ·have:=ih O;split<;>omega
theorem cnt_pos: ∀{k:Nat},0<cnt p k→ ∃f,f<k∧p f=Af:=by
 intro k
 induction k with
 |zero=>intro h;simp[cnt] at h
 |succ k ih=>
  intro h;by_cases e:p k=Af;·exact⟨k,O,e⟩
  ·rw[cnt,Ae e] at h;obtain⟨f,h1,h2⟩:=ih O;exact⟨f,O,h2⟩
theorem Uh(p:Nat→Bool)(k:Nat):((Bm k).filter p).length=cnt p k:=by
 induction k with
 |zero=>rfl
 |succ k ih=>
  rw[DB,List.filter_append,BJ,ih,cnt];congr 1;by_cases e:p k=Af;·simp[e]
  ·simp[e]
def hN(s:Pl)(o:Int)(k:Nat):Nat:=cnt (λf=>s.own f==o) k
def fN(s:Pl)(k:Nat):Nat:=cnt (λf=>decide (16≤f)&&s.own f== -1) k
theorem Ui(s:Pl)(o:Int)(k:Nat):(heldN s o k).length=hN s o k:=by
 unfold heldN hN;rw[Di,Uh]
variable{s:Pl}
theorem Uj{o:Int}(h:isO o=Af):(held s o).length=hN s o 256:=by
 unfold held;rw[An h,Ui]
structure PInv(s:Pl):Prop where
 ok:s.Ok
 low: ∀f,f<16→s.own f= -1
 held: ∀o:Nat,o<4→(hN s o 256:Int)≤max (s.prom o) 0
 sum:sumP s 4≤240
theorem all_sum(h:s.Ok)(hl: ∀f,f<16→s.own f= -1): ∀k,k≤256→fN s k+(hN s 0 k+hN s 1 k+hN s 2 k+hN s 3 k)+min k 16=k:=by
 intro k
 induction k with
 |zero=>intro _;rfl
 |succ k ih=>
  intro hk;have:=ih O;obtain⟨h1,h2⟩:=h.own k O;unfold fN hN at*;simp only[cnt];by_cases e:k<16;·have e2:=hl k e;simp[show ¬16≤k by omega,e2];omega
  ·rcases(by omega:s.own k= -1∨s.own k=0∨s.own k=1∨s.own k=2∨s.own k=3) with e1|e1|e1|e1|e1<;>simp[show 16≤k by omega,e1]<;>omega
theorem sumP4(s:Pl):sumP s 4=max (s.prom 0) 0+max (s.prom 1) 0+max (s.prom 2) 0+max (s.prom 3) 0:=by
 simp[sumP]
theorem PInv.total(h:PInv s):fN s 256+(hN s 0 256+hN s 1 256+hN s 2 256+hN s 3 256)=240:=by
 have:=all_sum h.ok h.low 256 O;omega
theorem PInv.new:PInv Pl.new:=by
 refine⟨new_ok,λf _=>rfl,λo ho=>?_,Ak⟩;have:hN Pl.new o 256=0:=by
  rcases Dm (hN Pl.new o 256) with h|h;·exact h
  ·obtain⟨f,_,hf⟩:=cnt_pos h;simp[Pl.new] at hf
 rw[this];show((0:Nat):Int)≤max (-1) 0;omega
theorem PInv.room(h:PInv s){o:Nat}(ho:o<4)(hr:(hN s o 256:Int)<s.prom o):0<fN s 256:=by
 have ht:=h.total;have h0:=h.held 0 O;have h1:=h.held 1 O;have h2:=h.held 2 O;have h3:=h.held 3 O;have hs:=h.sum;rw[sumP4] at hs;rcases(by omega:o=0∨o=1∨o=2∨o=3) with rfl|rfl|rfl|rfl<;>simp at* <;>omega
theorem Uk(h:0<fN s 256): ∃f,takeN s=I f:=by
 obtain⟨f,hf,hp⟩:=cnt_pos h
 cases ht:takeN s with
 |some g=>exact⟨g,rfl⟩
 |none=>
  unfold takeN at ht;rw[List.find?_eq_none] at ht;have:=ht f (by simpa using hf);simp at this hp;exact absurd hp.2 (this hp.1)
theorem PInv.takes(h:PInv s){o:Nat}(ho:o<4)(hr:(hN s o 256:Int)<s.prom o): ∃f,takeF s o=I f∧takeN s=I f∧16≤f∧f<256∧s.own f= -1∧takeE s o=0∧takeV s o=f∧s.take o=(s.setOwn f o).wipe f:=by
 obtain⟨f,hf⟩:=Uk (h.room ho hr);have hO:isO (o:Int)=Af:=by simp[isO];omega
 have hm:mayTake s o=Af:=MK;have e:takeF s o=I f:=by rw[takeF,An hm,hf]
 obtain⟨h1,h2,h3,_⟩:=Ug hf;refine⟨f,e,hf,h1,h2,h3,by simp[takeE,e,hO],by simp[takeV,e],by simp[Pl.take,e]⟩
theorem take_not{o:Nat}(ho:o<4)(hr:s.prom o≤(hN s o 256:Int)):takeE s o=13∧takeV s o=0∧s.take o=s:=by
 have hO:isO (o:Int)=Af:=by simp[isO];omega
 have hm:mayTake s o=Aa:=MK;have e:takeF s o=G:=by rw[takeF,Ae (by simp[hm])]
 exact⟨by simp[takeE,e,hO],by simp[takeV,e],by simp[Pl.take,e]⟩
theorem ML(hf:f<256)(ho:s.own f= -1)(o q:Nat):hN ((s.setOwn f o).wipe f) q 256=if q=o then hN s q 256+1 else hN s q 256:=by
 unfold hN;by_cases e:q=o
 ·subst e;rw[An rfl];refine cnt_gain (f:=f) ?_ ?_ (λj hj=>?_) hf;·rw[ho];simp
  ·simp[Pl.wipe,Pl.setOwn,updI]
  ·simp[Pl.wipe,Pl.setOwn,updI,hj]
 ·rw[Ae e];refine MJ λj hj=>?_;by_cases e2:j=f;·subst e2;rw[ho];have h1:((o:Int)==(q:Int))=Aa:=A8;have h2:((-1:Int)==(q:Int))=Aa:=AB;simp only[Pl.wipe,Pl.setOwn,updI,if_true];rw[h1,h2]
  ·simp[Pl.wipe,Pl.setOwn,updI,e2]
theorem PInv.take(h:PInv s)(o:Int):PInv (s.take o):=by
 have hok:=take_ok h.ok o;by_cases hO:isO o=Af
 ·obtain⟨h0,h1⟩:0≤o∧o<4:=by simpa[isO] using hO
  obtain⟨m,rfl⟩: ∃k:Nat,o=k:=⟨o.toNat,O⟩;have hm:m<4:=O;rcases Int.lt_or_le (hN s m 256:Int) (s.prom m) with hr|hr
  ·obtain⟨f,_,_,f1,f2,f3,_,_,e⟩:=h.takes hm hr;rw[e] at hok⊢;refine⟨hok,λj hj=>?_,λq hq=>?_,h.sum⟩;·simp only[Pl.wipe,Pl.setOwn,updI];rw[Ae O];exact h.low j hj
   ·rw[ML f2 f3];have:=h.held q hq;show _≤max (s.prom q) 0;split;·rename_i e;subst e;omega
    ·exact this
  ·rw[(take_not hm hr).2.2];exact h
 ·have:s.take o=s:=by
   have hm:mayTake s o=Aa:=by simp[mayTake,hO]
   simp[Pl.take,takeF,hm]
  rw[this];exact h
theorem PInv.promise(h:PInv s)(o n:Int):PInv (s.promise o n):=by
 have hok:=Uc h.ok o n;unfold Pl.promise at*;split
 ·rename_i hr
  rw[An hr] at hok;unfold promR at hr;split at hr;·omega
  ·rename_i hq
   split at hr;·omega
   ·rename_i hp
    split at hr;·omega
    ·rename_i hs
     have hp:s.prom o.toNat= -1:=Fy;simp[isO] at hq;obtain⟨⟨ho0,ho1⟩,hn0,hn1⟩:=hq;obtain⟨m,rfl⟩: ∃k:Nat,o=k:=⟨o.toNat,O⟩;have hm:m<4:=O;rw[show(m:Int).toNat=m from rfl] at*;refine⟨hok,h.low,λq hq=>?_, ?_⟩
     ·have:=h.held q hq;show(hN s q 256:Int)≤max (updI s.prom m n q) 0;unfold updI;split;·rename_i e;subst e;rw[hp] at this;omega
      ·exact this
     ·rw[sumP4] at*;unfold Pl.setProm updI;dsimp only;rcases(by omega:m=0∨m=1∨m=2∨m=3) with rfl|rfl|rfl|rfl<;>simp<;>omega
 ·exact h
theorem PInv.putB(h:PInv s)(f a b:Int):PInv (s.putB f a b):=by
 unfold Pl.putB;split;·exact⟨⟨h.ok.own,h.ok.prom⟩,h.low,h.held,h.sum⟩
 ·exact h
end Fm
namespace Nt
open Fm
structure Ad where
 gp:Nat
 gt:Nat
 gf:Nat
 gg:Nat
structure Ts where
 n:Nat
 o:Int
 fr:Nat→Int
 gd:Nat→Bool
def Tab(w:Ac)(a:Ad)(t:Ts):Prop:=
 Blk w a.gt 120 #[↑a.gp,J Z t.o,U (I ⟨a.gf,0,G⟩) t.n t.n,U (I ⟨a.gg,0,G⟩) t.n t.n]∧
 Cells w a.gf 3 t.n (λi=> J Z (t.fr i))∧Cells w a.gg 4 t.n (λi=> Ap (t.gd i))∧(1≤t.n∧t.n≤64)
def Ad.own(a:Ad)(k:Nat):Prop:=k=a.gt∨k=a.gf∨k=a.gg
variable{w:Ac}{a:Ad}{t:Ts}
theorem Tab.fr{w':Ac}{S:AG}(h:Tab w a t)(f:Fr S w w')(hn: ∀k,a.own k→ ¬S k):Tab w' a t:=
 ⟨h.1.fr f (hn _ (Ag rfl)),h.2.1.fr f (hn _ (Ah (Ag rfl))),h.2.2.1.fr f (hn _ (Ah (Ah rfl))),h.2.2.2⟩
theorem Tab.drew(h:Tab w a t):Tab w.drew a t:=h
theorem Tab.alloc(h:Tab w a t)(o:Obj):Tab (w.alloc o) a t:=⟨h.1.alloc o,h.2.1.alloc o,h.2.2.1.alloc o,h.2.2.2⟩
theorem Tab.ne1(h:Tab w a t):a.gt≠a.gf:=Blk.ne_ h.1 h.2.1.choose_spec.1 Ak
theorem Tab.ne3(h:Tab w a t):a.gf≠a.gg:=Cells.ne h.2.1 h.2.2.1 Ak
theorem Tab.lt(h:Tab w a t): ∀k,a.own k→k<w.heap.size:=by
 rintro k (rfl|rfl|rfl);·exact h.1.lt
 ·exact h.2.1.lt
 ·exact h.2.2.1.lt
theorem Tab.pool{s:Pl}(h:Tab w a t)(hp:Pool w a.gp s): ∀k,a.own k→ ¬k=a.gp:=by
 obtain⟨cs,hcs,_⟩:=hp;rintro k (rfl|rfl|rfl) e;·exact Blk.ne_ h.1 (e▸hcs) Ak rfl
 ·exact Blk.ne_ h.2.1.choose_spec.1 (e▸hcs) Ak rfl
 ·exact Blk.ne_ h.2.2.1.choose_spec.1 (e▸hcs) Ak rfl
def inP(t:Ts)(p:Int):Bool:=decide (0≤p∧p<t.n)
theorem is_any(w:Ac)(a:Ad)(t:Ts)(p:Int)(h:Tab w a t):At Tryz.prog 94 #[↑a.gt,J Z p] w λe w'=>e=Ax (Ap (inP t p))∧w=w':=by
 obtain⟨hb,hf,hg,hn0,hn1⟩:=h;have c2:=hb.cell 2;by_cases h0:0≤p
 ·by_cases h1:p<t.n
  ·have e:inP t p=Af:=by simp[inP,h0,h1]
   exact GI
  ·have e:inP t p=Aa:=by simp[inP,h1]
   have h1':decide (p<(t.n:Int))=Aa:=Cp;exact GI
 ·have e:inP t p=Aa:=by simp[inP,h0]
  have h0':decide (0≤p)=Aa:=Ev;exact GI
theorem pages_any(w:Ac)(a:Ad)(t:Ts)(h:Tab w a t):At Tryz.prog 70 #[↑a.gt] w λe w'=>e=Ax (J Z t.n)∧w=w':=by
 obtain⟨hb,hf,hg,hn0,hn1⟩:=h;have c2:=hb.cell 2;exact Cr
def frB(t:Ts)(p:Int):Bool:=inP t p&&(t.fr p.toNat != -1)
def frV(t:Ts)(p:Int):Int:=if frB t p then t.fr p.toNat else 0
theorem inP_at{p:Int}(h:inP t p=Af): ∃k:Nat,p=k∧k<t.n:=by
 simp[inP] at h;exact⟨p.toNat,O,O⟩
theorem frame_any(w:Ac)(a:Ad)(t:Ts)(p:Int)(h:Tab w a t):At Tryz.prog 73 #[↑a.gt,J Z p] w λe w'=>e=Ax (AD #[J Z (frV t p),Ap (frB t p)])∧w=w':=by
 have hi:=T (is_any w a t p h);obtain⟨hb,hf,hg,hn0,hn1⟩:=h;have c2:=hb.cell 2
 cases hp:inP t p
 ·have hv:=hi.out;rw[hp] at hv;have Hv:=T hv;have e1:frB t p=Aa:=by simp[frB,hp]
  have e2:frV t p=0:=by simp[frV,e1]
  rw[e1,e2];clear hv hp e1 e2 hi;go_in;go_wp2_with fail;refine Ay Hv ?_;exact MM
 ·have hv:=hi.out;rw[hp] at hv;have Hv:=T hv;obtain⟨k,rfl,hk⟩:=inP_at hp;have c:=hf.cell k hk;by_cases hx:t.fr k= -1
  ·have e1:frB t k=Aa:=by simp[frB,hx]
   have e2:frV t k=0:=by simp[frV,e1]
   rw[e1,e2];rw[hx] at c;exact MN
  ·have e1:frB t k=Af:=by simp[frB,hx,hp]
   have e2:frV t k=t.fr k:=by simp[frV,e1]
   rw[e1,e2];have hx':(t.fr k== -1)=Aa:=by simpa using hx
   exact MN
end Nt
namespace Nt
open Fm
def updB(f:Nat→Bool)(k:Nat)(v:Bool):Nat→Bool:=λj=>if j=k then v else f j
def Ts.setFr(t:Ts)(k:Nat)(f:Int):Ts:={t with fr:=updI t.fr k f}
theorem Tab.setFr{w:Ac}{a:Ad}{t:Ts}(h:Tab w a t)(k:Nat)(v:Int):Tab (w.setCell ⟨a.gf,k,G⟩ (J Z v)) a (t.setFr k v):=by
 refine⟨h.1.far (p:=⟨a.gf,k,G⟩) h.ne1 _,Cells.congr (Cells.set_ h.2.1 k _) (λi hi=>?_),Cells.far h.2.2.1 (p:=⟨a.gf,k,G⟩) (λe=>h.ne3 e.symm) _,h.2.2.2⟩;unfold putV Ts.setFr updI;dsimp only;split<;>rfl
end Nt
namespace Nt
open Fm
def needB(t:Ts)(p:Int):Bool:=inP t p&& !frB t p
def mapE(s:Pl)(t:Ts)(p:Int):Int:=if needB t p then takeE s t.o else if inP t p then 0 else 22
def mapV(s:Pl)(t:Ts)(p:Int):Int:=if needB t p then takeV s t.o else frV t p
def mapS(s:Pl)(t:Ts)(p:Int):Pl:=if needB t p then s.take t.o else s
def Ts.map(t:Ts)(s:Pl)(p:Int):Ts:=if needB t p&&(takeE s t.o==0) then t.setFr p.toNat (takeV s t.o) else t
set_option maxRecDepth 100000 in
theorem map_any(w:Ac)(a:Ad)(s:Pl)(t:Ts)(p:Int)(hP:Pool w a.gp s)(h:Tab w a t)(hok:s.Ok):At Tryz.prog 74 #[↑a.gt,J Z p] w λe w'=>e=Ax (AD #[J Z (mapV s t p),J Z (mapE s t p)])∧Pool w' a.gp (mapS s t p)∧Tab w' a (t.map s p)∧Fr (λk=>k=a.gp∨k=a.gf) w w':=by
 have hi:=T (is_any w a t p h);have hfr:=T (frame_any w a t p h);have hne:=h.pool hP
 cases hp:inP t p
 ·have e0:needB t p=Aa:=by simp[needB,hp]
  have e1:frB t p=Aa:=by simp[frB,hp]
  have e2:mapE s t p=22:=by simp[mapE,e0,hp]
  have e3:mapV s t p=0:=by simp[mapV,e0,frV,e1]
  have e4:mapS s t p=s:=by simp[mapS,e0]
  have e5:t.map s p=t:=Jb;rw[e2,e3,e4,e5];have hv:=hi.out;rw[hp] at hv;have Hv:=T hv;clear hv hp e0 e1 e2 e3 e4 e5 hi hfr;go_in;go_wp2_with fail;refine Ay Hv ?_;exact MO
 ·have hv:=hi.out;rw[hp] at hv;have Hv:=T hv
  cases hq:frB t p
  ·have hx:=hfr.out;have e6:frV t p=0:=by simp[frV,hq]
   rw[hq,e6] at hx;have Hx:=T hx;have e0:needB t p=Af:=by simp[needB,hp,hq]
   have e2:mapE s t p=takeE s t.o:=by simp[mapE,e0]
   have e3:mapV s t p=takeV s t.o:=by simp[mapV,e0]
   have e4:mapS s t p=s.take t.o:=by simp[mapS,e0]
   have e5:t.map s p=if takeE s t.o=0 then t.setFr p.toNat (takeV s t.o) else t:=Jb;rw[e2,e3,e4,e5];obtain⟨k,rfl,hk⟩:=inP_at hp;have h':=h;obtain⟨hb,hf,hg,hn0,hn1⟩:=h';have c0:=hb.cell 0;have c1:=hb.cell 1;have htk:=T (take_any w.drew a.gp s t.o hP.drew hok);clear hv hx hp hq e0 e2 e3 e4 e5 e6 hi hfr;by_cases hE:takeE s t.o=0
   ·rw[An hE];have ht:=htk.out;rw[hE] at ht;have Ht:=T ht;rw[hE];clear ht htk hE;generalize takeV s t.o=fv at*;go_in;go_wp2_with fail;refine Ay Hv ?_;rintro e w' ⟨rfl,rfl⟩;go_wp2_with fail;refine Ay Hx ?_;rintro e w' ⟨rfl,rfl⟩;go_wp2_with fail
    go_region_with ((go_at_call 95;refine Ay Ht ?_;rintro e w1 ⟨rfl,hP1,f1⟩))
    all_goals
     have h1:=MP;have d2:=h1.1.cell 2;have c:=h1.2.1.cell k hk;have z:=Cells.frozen h1.2.1 k;have hs:=T (h1.setFr k fv);have hP2:=T (Cells.far hP1 (p:=⟨a.gf,k,G⟩) (λe=>hne a.gf (Ah (Ag rfl)) e.symm) (J Z fv));have fr2:=T (((Fr.drew (Ao (λk=>k=a.gp∨k=a.gf) w)).tr f1.inl2).setCell (p:=⟨a.gf,k,G⟩) (Ag (Ah rfl)) (J Z fv))
     go_wp2
     go_ret2;exact⟨rfl,hP2.out,hs.out,fr2.out⟩
   ·rw[Ae hE];have hE':(takeE s t.o==0)=Aa:=by simpa using hE
    clear hE;generalize takeV s t.o=fv at*;generalize takeE s t.o=fe at*;go_in;go_wp2_with fail;refine Ay Hv ?_;rintro e w' ⟨rfl,rfl⟩;go_wp2_with fail;refine Ay Hx ?_;rintro e w' ⟨rfl,rfl⟩;go_wp2_with fail
    go_region_with ((go_at_call 95;refine Ay htk ?_;rintro e w1 ⟨rfl,hP1,f1⟩))
    all_goals
     have h1:=MP
     go_wp2
     go_ret2;exact⟨rfl,hP1,h1,(Fr.drew (Ao (λk=>k=a.gp∨k=a.gf) w)).tr f1.inl2⟩
  ·have hx:=hfr.out;rw[hq] at hx;have Hx:=T hx;have e0:needB t p=Aa:=by simp[needB,hq]
   have e2:mapE s t p=0:=by simp[mapE,e0,hp]
   have e3:mapV s t p=frV t p:=by simp[mapV,e0]
   have e4:mapS s t p=s:=by simp[mapS,e0]
   have e5:t.map s p=t:=Jb;rw[e2,e3,e4,e5];clear hv hx hp hq e0 e2 e3 e4 e5 hi hfr;go_in;go_wp2_with fail;refine Ay Hv ?_;rintro e w' ⟨rfl,rfl⟩;go_wp2_with fail;refine Ay Hx ?_;exact MO
end Nt
namespace Nt
open Fm
end Nt
namespace Nt
open Fm
def zI(n:Nat):AL:=Cb #[J Z 0] n
def zB(n:Nat):AL:=Cb #[Ap Aa] n
theorem infoB:(Tryz.prog.info? 4).map (λi=>(i.zero,i.size,i.bytes))=I (I (Ap Aa),1,1):=AI
theorem Ul(n:Nat)(hn:n≤1000000)(w:Ac):(Dj 22 (J Z (n:Int)) (J Z (n:Int))).run Tryz.prog w=.ok (U (I ⟨↑w,0,G⟩) n n) (w.alloc (.cells (zI n) 3)):=by
 obtain⟨i0,hi0,hz0,hz1,hz2⟩:=BH info64;exact MQ
theorem Um(n:Nat)(hn:n≤1000000)(w:Ac):(Dj 118 (J Z (n:Int)) (J Z (n:Int))).run Tryz.prog w=.ok (U (I ⟨↑w,0,G⟩) n n) (w.alloc (.cells (zB n) 4)):=by
 obtain⟨i0,hi0,hz0,hz1,hz2⟩:=BH infoB;exact MR
theorem cellsI(w:Ac)(n:Nat){g:Nat}(hg:↑w=g):Cells (w.alloc (.cells (zI n) 3)) g 3 n (λ_=> J Z 0):=by
 subst hg;have e:(zI n).toList=BK n (J Z 0):=by rw[zI,toList_madeCells_one]
 exact GJ
theorem cellsB(w:Ac)(n:Nat){g:Nat}(hg:↑w=g):Cells (w.alloc (.cells (zB n) 4)) g 4 n (λ_=> Ap Aa):=by
 subst hg;have e:(zB n).toList=BK n (Ap Aa):=by rw[zB,toList_madeCells_one]
 exact GJ
end Nt
namespace Nt
open Fm
def Ts.new(n:Nat)(o:Int):Ts:=⟨n,o,λ_=> -1,λ_=>Aa⟩
def newT(n:Nat)(o:Int)(k:Nat):Ts:=⟨n,o,λj=>if j<k then -1 else 0,λ_=>Aa⟩
theorem MS(n:Nat)(o:Int)(k:Nat):(newT n o k).setFr k (-1)=newT n o (k+1):=by
 unfold newT Ts.setFr updI;exact IY
theorem MT(w:Ac)(a:Ad)(n:Nat)(o:Int)(h0:1≤n)(h1:n≤64)(hb:Blk w a.gt 120 #[↑a.gp,J Z o,U (I ⟨a.gf,0,G⟩) n n,U (I ⟨a.gg,0,G⟩) n n])(hf:Cells w a.gf 3 n (λ_=> J .i64 0))(hg:Cells w a.gg 4 n (λ_=> .bool Aa)):Tab w a (newT n o 0):=
 ⟨hb,Cells.congr hf (λi hi=>by simp[newT]),hg,h0,h1⟩
theorem newT_end{w:Ac}{a:Ad}{n:Nat}{o:Int}(h:Tab w a (newT n o n)):Tab w a (Ts.new n o):=
 ⟨h.1,Cells.congr h.2.1 (λi hi=>by have hi:i<n:=hi;simp[newT,Ts.new,hi]),h.2.2.1,h.2.2.2⟩
def NewP(w:Ac)(gp:Nat)(s:Pl)(o:Int)(n:Nat)(e:AT)(w':Ac):Prop:=
 ∃a:Ad,e=Ax (AD #[↑a.gt,J Z 0])∧a.gp=gp∧Tab w' a (Ts.new n o)∧Pool w' gp (s.promise o n)∧(∀k,a.own k→w.heap.size≤k)∧Fr (· =gp) w w'
set_option maxRecDepth 100000 in
theorem new_yes(w:Ac)(gp:Nat)(s:Pl)(o:Int)(n:Nat)(hP:Pool w gp s)(hok:s.Ok)(ho0:0≤o)(ho1:o<4)(hn0:1≤n)(hn1:n≤64)(hR:promR s o n=0):At Tryz.prog 31 #[↑gp,J Z o,J Z n] w (NewP w gp s o n):=by
 have hpr:=Ud w gp s o n hP hok O O;rw[hR] at hpr;have Hpr:=T hpr;have hm1:=λW=>Ul n O W;have hm2:=λW=>Um n O W;have hltp:=hP.lt;have d1:decide (o<0)=Aa:=A8;have d2:decide (4≤o)=Aa:=A8;have d3:decide ((n:Int)<1)=Aa:=A8;have d4:decide ((64:Int)<(n:Int))=Aa:=A8;clear hpr hR;go_in;go_wp2_with fail;refine Ay Hpr ?_;rintro e w1 ⟨rfl,hP1,f1⟩;go_wp2_with fail
 go_region
 ·have hT:Tab ((((w1.alloc (.cells (zI n) 3)).alloc (.cells (zB n) 4)).alloc (.cells #[↑gp,J Z o,U (I ⟨↑w1,0,G⟩) n n,U (I ⟨(↑w1+1),0,G⟩) n n] 120)).drew) ⟨gp,w1.heap.size+1+1,w1.heap.size,(↑w1+1)⟩ (newT n o 0):=
   MT _ ⟨gp,w1.heap.size+1+1,w1.heap.size,(↑w1+1)⟩ n o hn0 hn1 (Blk.drew (Cc _ _ _ AB)) (Cells.drew (((cellsI w1 n rfl).alloc _).alloc _)) (Cells.drew ((cellsB _ n AB).alloc _))
  have hPz:=Pool.drew (((hP1.alloc (.cells (zI n) 3)).alloc (.cells (zB n) 4)).alloc (.cells #[↑gp,J Z o,U (I ⟨↑w1,0,G⟩) n n,U (I ⟨(↑w1+1),0,G⟩) n n] 120));have frz:=(((f1.alloc (.cells (zI n) 3)).alloc (.cells (zB n) 4)).alloc (.cells #[↑gp,J Z o,U (I ⟨↑w1,0,G⟩) n n,U (I ⟨(↑w1+1),0,G⟩) n n] 120)).drew;have hbl: ∀k,Ad.own ⟨gp,w1.heap.size+1+1,w1.heap.size,(↑w1+1)⟩ k→w.heap.size≤k:=by
   have:=f1.size;rintro k (rfl|rfl|rfl);·show w.heap.size≤w1.heap.size+1+1;omega
   ·show w.heap.size≤w1.heap.size;omega
   ·show w.heap.size≤(↑w1+1);omega
  have hne: ∀k,Ad.own ⟨gp,w1.heap.size+1+1,w1.heap.size,(↑w1+1)⟩ k→ ¬k=gp:=λk hk e=>by have:=hbl k hk;omega
  have Hbl:=T hbl;have Hne:=T hne;clear hbl hne hm1 hm2;generalize((((w1.alloc (.cells (zI n) 3)).alloc (.cells (zB n) 4)).alloc (.cells #[↑gp,J Z o,U (I ⟨w1.heap.size,0,G⟩) n n,U (I ⟨(w1.heap.size+1),0,G⟩) n n] 120)).drew)=wz at*;have c2:=hT.1.cell 2;go_wp2_with fail;go_loopw [10,49] (λ_ i wr=> ∃k:Nat,k≤n∧i=J Z k∧Tab wr ⟨gp,w1.heap.size+1+1,w1.heap.size,(↑w1+1)⟩ (newT n o k)∧Pool wr gp (s.promise o n)∧Fr (· =gp) w wr) (λ_ i _=>n -(AJ i).toNat)
  case atStart=>exact⟨0,O,rfl,hT,hPz,frz⟩
  case round=>
   clear hT hPz frz c2;obtain⟨k,hk,rfl,hT,hPz,frz⟩:=hrel;by_cases hlt:k<n;·have c2:=hT.1.cell 2;have c:=hT.2.1.cell k hlt;have z:=Cells.frozen hT.2.1 k;have hT2:=hT.setFr k (-1);rw[MS] at hT2;have HT2:=T hT2;have HP2:=T (Cells.far hPz (p:=⟨↑w1,k,G⟩) (λe=>Hne.out ↑w1 (Ah (Ag rfl)) e.symm) (J Z (-1)));have FR2:=T (frz.setCell (p:=⟨↑w1,k,G⟩) (Ah (Hbl.out ↑w1 (Ah (Ag rfl)))) (J Z (-1)));exact MU
   ·exact MV
 ·have hT:Tab ((((w1.alloc (.cells (zB n) 4)).alloc (.cells (zI n) 3)).alloc (.cells #[↑gp,J Z o,U (I ⟨(↑w1+1),0,G⟩) n n,U (I ⟨↑w1,0,G⟩) n n] 120)).drew) ⟨gp,w1.heap.size+1+1,(↑w1+1),w1.heap.size⟩ (newT n o 0):=
   MT _ ⟨gp,w1.heap.size+1+1,(↑w1+1),w1.heap.size⟩ n o hn0 hn1 (Blk.drew (Cc _ _ _ AB)) (Cells.drew ((cellsI _ n AB).alloc _)) (Cells.drew (((cellsB w1 n rfl).alloc _).alloc _))
  have hPz:=Pool.drew (((hP1.alloc (.cells (zB n) 4)).alloc (.cells (zI n) 3)).alloc (.cells #[↑gp,J Z o,U (I ⟨(↑w1+1),0,G⟩) n n,U (I ⟨↑w1,0,G⟩) n n] 120));have frz:=(((f1.alloc (.cells (zB n) 4)).alloc (.cells (zI n) 3)).alloc (.cells #[↑gp,J Z o,U (I ⟨(↑w1+1),0,G⟩) n n,U (I ⟨↑w1,0,G⟩) n n] 120)).drew;have hbl: ∀k,Ad.own ⟨gp,w1.heap.size+1+1,(↑w1+1),w1.heap.size⟩ k→w.heap.size≤k:=by
   have:=f1.size;rintro k (rfl|rfl|rfl);·show w.heap.size≤w1.heap.size+1+1;omega
   ·show w.heap.size≤(↑w1+1);omega
   ·show w.heap.size≤w1.heap.size;omega
  have hne: ∀k,Ad.own ⟨gp,w1.heap.size+1+1,(↑w1+1),w1.heap.size⟩ k→ ¬k=gp:=λk hk e=>by have:=hbl k hk;omega
  have Hbl:=T hbl;have Hne:=T hne;clear hbl hne hm1 hm2;generalize((((w1.alloc (.cells (zB n) 4)).alloc (.cells (zI n) 3)).alloc (.cells #[↑gp,J Z o,U (I ⟨(w1.heap.size+1),0,G⟩) n n,U (I ⟨w1.heap.size,0,G⟩) n n] 120)).drew)=wz at*;have c2:=hT.1.cell 2;go_wp2_with fail;go_loopw [10,49] (λ_ i wr=> ∃k:Nat,k≤n∧i=J Z k∧Tab wr ⟨gp,w1.heap.size+1+1,(↑w1+1),w1.heap.size⟩ (newT n o k)∧Pool wr gp (s.promise o n)∧Fr (· =gp) w wr) (λ_ i _=>n -(AJ i).toNat)
  case atStart=>exact⟨0,O,rfl,hT,hPz,frz⟩
  case round=>
   clear hT hPz frz c2;obtain⟨k,hk,rfl,hT,hPz,frz⟩:=hrel;by_cases hlt:k<n;·have c2:=hT.1.cell 2;have c:=hT.2.1.cell k hlt;have z:=Cells.frozen hT.2.1 k;have hT2:=hT.setFr k (-1);rw[MS] at hT2;have HT2:=T hT2;have HP2:=T (Cells.far hPz (p:=⟨(↑w1+1),k,G⟩) (λe=>Hne.out (↑w1+1) (Ah (Ag rfl)) e.symm) (J Z (-1)));have FR2:=T (frz.setCell (p:=⟨(↑w1+1),k,G⟩) (Ah (Hbl.out (↑w1+1) (Ah (Ag rfl)))) (J Z (-1)));exact MU
   ·exact MV
end Nt
namespace Nt
open Fm
def mN(t:Ts)(k:Nat):Nat:=cnt (λp=>t.fr p != -1) k
structure TInv(s:Pl)(t:Ts):Prop where
 pi:PInv s
 n0:1≤t.n
 n1:t.n≤64
 o0:0≤t.o
 o1:t.o<4
 pr:s.prom t.o.toNat=t.n
 at_: ∀k,k<t.n→t.fr k= -1∨(16≤t.fr k∧t.fr k<256∧s.own (t.fr k).toNat=t.o)
 inj: ∀j k,j<t.n→k<t.n→t.fr j=t.fr k→t.fr j≠ -1→j=k
 cn:hN s t.o 256=mN t t.n
 gd: ∀k,k<t.n→t.gd k=Af→ ¬t.fr k= -1
theorem TInv.own{s:Pl}{t:Ts}(h:TInv s t): ∃m:Nat,t.o=m∧m<4:=⟨t.o.toNat,by have:=h.o0;omega,by have:=h.o0;have:=h.o1;omega⟩
section
variable {s:Pl} {t:Ts}
theorem TInv.new{o:Int}{n:Nat}(h0:0≤o)(h1:o<4)(hn0:1≤n)(hn1:n≤64){s:Pl}(hs:PInv s)(hp:s.prom o.toNat= -1)(hr:promR s o n=0):TInv (s.promise o n) (Ts.new n o):=by
 have hi:=hs.promise o n;have hh:s.promise o n=s.setProm o.toNat n:=by rw[Pl.promise,An hr]
 rw[hh] at hi⊢;refine⟨hi,hn0,hn1,h0,h1, ?_,λk hk=> Ag rfl,λj k _ _ _ e=>absurd rfl e, ?_,λk hk e=>EW⟩;·show updI s.prom o.toNat n o.toNat=n;exact Fw _ _ _
 ·obtain⟨m,rfl⟩: ∃k:Nat,o=k:=⟨o.toNat,O⟩;have e1:hN s m 256=0:=by
   have:=hs.held m O;rw[show(m:Int).toNat=m from rfl] at hp;rw[hp] at this;omega
  have e2:mN (Ts.new n m) n=0:=by
   rcases Dm (mN (Ts.new n m) n) with h|h;·exact h
   ·obtain⟨f,_,hf⟩:=cnt_pos h;simp[Ts.new] at hf
  show hN s m 256=mN (Ts.new n m) n;omega
variable{k:Nat}
theorem frB_iff(t:Ts)(hk:k<t.n):frB t k=(t.fr k != -1):=by
 have:inP t k=Af:=by simp[inP,hk]
 simp[frB,this]
theorem frV_eq(t:Ts)(h:frB t k=Af):frV t k=t.fr k:=by simp[frV,h]
theorem inP_iff(t:Ts)(k:Nat):inP t k=decide (k<t.n):=by simp[inP]
theorem TInv.mapNew(h:TInv s t)(hk:k<t.n)(hx:t.fr k= -1): ∃f:Nat,16≤f∧f<256∧s.own f= -1∧takeN s=I f∧mapE s t k=0∧mapV s t k=f∧mapS s t k=(s.setOwn f t.o).wipe f∧t.map s k=t.setFr k f:=by
 obtain⟨m,hm,hm4⟩:=h.own;have hlt:mN t t.n<t.n:=cnt_lt (f:=k) (by simp[hx]) hk;have hpr:=h.pr;have hcn:=h.cn;rw[hm] at hpr hcn;have hr:(hN s m 256:Int)<s.prom m:=by
  rw[show(m:Int).toNat=m from rfl] at hpr;rw[hpr];omega
 obtain⟨f,_,f0,f1,f2,f3,f4,f5,f6⟩:=h.pi.takes hm4 hr;have hq:needB t k=Af:=by simp[needB,inP_iff,hk,frB_iff t hk,hx]
 refine⟨f,f1,f2,f3,f0, ?_, ?_, ?_, ?_⟩;·rw[mapE,An hq,hm,f4]
 ·rw[mapV,An hq,hm,f5]
 ·rw[mapS,An hq,hm,f6]
 ·rw[Ts.map,An (by rw[hm,hq,f4];rfl),hm,f5];rfl
theorem mapOld(hk:k<t.n)(hx: ¬t.fr k= -1):mapE s t k=0∧mapV s t k=t.fr k∧mapS s t k=s∧t.map s k=t:=by
 have hb:frB t k=Af:=by simp[frB_iff t hk,hx]
 have hq:needB t k=Aa:=by simp[needB,hb]
 have hi:inP t k=Af:=by simp[inP_iff,hk]
 refine⟨by simp[mapE,hq,hi],by simp[mapV,hq,frV,hb],by simp[mapS,hq],by simp[Ts.map,hq]⟩
theorem mapOut{p:Int}(h:inP t p=Aa):mapE s t p=22∧mapV s t p=0∧mapS s t p=s∧t.map s p=t:=by
 have hb:frB t p=Aa:=by simp[frB,h]
 have hq:needB t p=Aa:=by simp[needB,h]
 refine⟨by simp[mapE,hq,h],by simp[mapV,hq,frV,hb],by simp[mapS,hq],by simp[Ts.map,hq]⟩
theorem TInv.setNew(h:TInv s t){f:Nat}(hk:k<t.n)(hx:t.fr k= -1)(f1:16≤f)(f2:f<256)(f3:s.own f= -1)(hp:PInv ((s.setOwn f t.o).wipe f)):TInv ((s.setOwn f t.o).wipe f) (t.setFr k f):=by
 obtain⟨m,hm,hm4⟩:=h.own;have hne: ∀j,j<t.n→t.fr j≠(f:Int):=λj hj e=>by
  rcases h.at_ j hj with e1|⟨_,_,e1⟩;·omega
  ·rw[e,show(f:Int).toNat=f from rfl,f3] at e1;have:=h.o0;omega
 refine⟨hp,h.n0,h.n1,h.o0,h.o1,h.pr,λj hj=>?_,λi j hi hj=>?_, ?_,λj hj hg=>?_⟩
 ·have hj:j<t.n:=hj;show updI t.fr k f j= -1∨16≤updI t.fr k f j∧updI t.fr k f j<256∧updI s.own f t.o (updI t.fr k f j).toNat=t.o;unfold updI;split;·right;exact⟨O,O,AB⟩
  ·rcases h.at_ j hj with e1|⟨e1,e2,e3⟩;·exact Ag e1
   ·right;refine⟨e1,e2, ?_⟩;split;·rfl
    ·exact e3
 ·have hi:i<t.n:=hi;have hj:j<t.n:=hj;show updI t.fr k f i=updI t.fr k f j→updI t.fr k f i≠ -1→i=j;unfold updI;intro e1 e2;split at e1
  ·rename_i ei
   split at e1;·rename_i ej;rw[ei,ej]
   ·exact absurd e1.symm (hne j hj)
  ·rename_i ei
   split at e1;·exact absurd e1 (hne i hi)
   ·rw[Ae ei] at e2;exact h.inj i j hi hj e1 e2
 ·show hN ((s.setOwn f t.o).wipe f) t.o 256=mN (t.setFr k f) t.n;rw[hm,ML f2 f3,An rfl];have:=h.cn;rw[hm] at this;rw[this];unfold mN;symm;refine cnt_gain (f:=k) (by simp[hx]) ?_ (λj hj=>?_) hk;·show(updI t.fr k f k != -1)=Af;rw[Fw];simp
  ·show(updI t.fr k f j != -1)=_;rw[IS _ _ hj]
 ·show ¬updI t.fr k f j= -1;unfold updI;split;·omega
  ·exact h.gd j hj hg
theorem TInv.map(h:TInv s t)(p:Int):TInv (mapS s t p) (t.map s p):=by
 cases hi:inP t p
 ·obtain⟨_,_,e1,e2⟩:=mapOut (s:=s) hi;rw[e1,e2];exact h
 ·obtain⟨k,rfl,hk⟩:=inP_at hi;by_cases hx:t.fr k= -1
  ·obtain⟨f,f1,f2,f3,_,_,_,e1,e2⟩:=h.mapNew hk hx;have hp:PInv (mapS s t k):=by
    unfold mapS;split;·exact h.pi.take _
    ·exact h.pi
   rw[e1,e2];rw[e1] at hp;exact h.setNew hk hx f1 f2 f3 hp
  ·obtain⟨_,_,e1,e2⟩:=mapOld (s:=s) hk hx;rw[e1,e2];exact h
theorem TInv.putB(h:TInv s t)(f a b:Int):TInv (s.putB f a b) t:=by
 have hp:=h.pi.putB f a b;unfold Pl.putB at*;split
 ·rename_i hh
  rw[An hh] at hp;exact⟨hp,h.n0,h.n1,h.o0,h.o1,h.pr,h.at_,h.inj,h.cn,h.gd⟩
 ·exact h
end
end Nt
namespace Rm
open Fm Nt
structure Am where
 a:Ad
 gm:Nat
structure Ms where
 n:Nat
 mem:Nat→Int
 mp:Nat→Bool
 tu:Nat→Bool
def mcell(a:Am)(m:Ms)(i:Nat):As:=if i=0 then ↑a.a.gp else if i=1 then ↑a.a.gt else if i<66 then Ap (m.tu (i -2)) else Ap Aa
def Am.own(a:Am)(k:Nat):Prop:=k=a.gm∨a.a.own k∨k=a.a.gp
def byteAt(s:Pl)(t:Ts)(i:Nat):Int:=if t.fr (i/64)= -1 then 0 else s.byt ((t.fr (i/64)).toNat*64+i%64)
structure Sees(m:Ms)(s:Pl)(t:Ts):Prop where
 inv:TInv s t
 n:t.n=m.n
 mp: ∀k,k<m.n→m.mp k=(t.fr k != -1)
 mem: ∀i,i<m.n*64→m.mem i=byteAt s t i
 bd: ∀i,i<m.n*64→0≤m.mem i∧m.mem i<256
def Ms.put(m:Ms)(i:Nat)(b:Int):Ms:={m with mem:=updI m.mem i b,mp:=if b=0 then m.mp else updB m.mp (i/64) Af,tu:=updB m.tu (i/64) Af}
def Ms.calm(m:Ms):Ms:={m with tu:=λ_=>Aa}
def Ms.new(n:Nat):Ms:=⟨n,λ_=>0,λ_=>Aa,λ_=>Aa⟩
section
variable {m:Ms} {s:Pl} {t:Ts}
variable{i:Nat}
theorem Sees.lt(h:Sees m s t)(hi:i<m.n*64):i/64<t.n:=by rw[h.n];omega
variable{f:Nat}
theorem Ex{s:Pl}{t:Ts}(h:t.fr (i/64)=f):byteAt s t i=s.byt (f*64+i%64):=by
 unfold byteAt;rw[h,Ae O];rfl
theorem Ey{s:Pl}{t:Ts}(h:t.fr (i/64)= -1):byteAt s t i=0:=by
 unfold byteAt;rw[An h]
theorem Sees.map(h:Sees m s t){k:Nat}(hk:k<m.n)(hx:t.fr k= -1):Sees {m with mp:=updB m.mp k Af} (mapS s t k) (t.map s k):=by
 have hk':k<t.n:=by rw[h.n];exact hk
 have hI:=h.inv.map k;obtain⟨f,f1,f2,f3,_,_,_,e1,e2⟩:=h.inv.mapNew hk' hx;rw[e1,e2] at hI;rw[e1,e2];refine⟨hI,h.n,λj hj=>?_,λi hi=>?_,h.bd⟩
 ·have hj:j<m.n:=hj;show updB m.mp k Af j=(updI t.fr k f j != -1);unfold updB updI;split;·simp
  ·exact h.mp j hj
 ·have hi:i<m.n*64:=hi;show m.mem i=_;rw[h.mem i hi];by_cases e:i/64=k
  ·have h1:(t.setFr k f).fr (i/64)=f:=by show updI t.fr k f (i/64)=f;rw[e,Fw]
   rw[Ey (e▸hx),Ex h1];show 0=if f*64≤f*64+i%64∧f*64+i%64<f*64+64 then 0 else _;rw[An O]
  ·have h1:(t.setFr k f).fr (i/64)=t.fr (i/64):=IS _ _ e;by_cases hm:t.fr (i/64)= -1;·rw[Ey hm,Ey (h1.trans hm)]
   ·rcases h.inv.at_ (i/64) (h.lt hi) with q|⟨q1,q2,q3⟩;·exact absurd q hm
    ·obtain⟨g,hg⟩: ∃g:Nat,t.fr (i/64)=g:=⟨(t.fr (i/64)).toNat,O⟩;rw[Ex hg,Ex (h1.trans hg)];have hgf:g≠f:=by
      rintro rfl;rw[hg,show(g:Int).toNat=g from rfl,f3] at q3;have:=h.inv.o0;omega
     show _=if f*64≤g*64+i%64∧g*64+i%64<f*64+64 then 0 else s.byt (g*64+i%64);exact GF
theorem Sees.frame(h:Sees m s t){k:Nat}(hk:k<m.n)(hx: ¬t.fr k= -1): ∃f:Nat,t.fr k=f∧16≤f∧f<256∧s.own f=t.o:=by
 rcases h.inv.at_ k (by rw[h.n];exact hk) with e|⟨e1,e2,e3⟩;·exact absurd e hx
 ·obtain⟨f,hf⟩: ∃f:Nat,t.fr k=f:=⟨(t.fr k).toNat,O⟩;rw[hf] at e1 e2 e3;exact⟨f,hf,O,O,e3⟩
theorem here_of{s:Pl}{o:Int}{a:Nat}(h1:16≤f)(h2:f<256)(h3:s.own f=o)(h4:0≤o)(ha:a<64):hereB s f a=Af:=by
 have e1:ownB s f=Af:=by
  have: ¬s.own f= -1:=O;simp[ownB,isF,this];omega
 simp[hereB,e1];omega
theorem Sees.putF(h:Sees m s t)(hi:i<m.n*64)(hf:t.fr (i/64)=f)(b:Int)(b0:0≤b)(b1:b<256):hereB s f (i%64:Nat)=Af∧Sees {m with mem:=updI m.mem i b} (s.putB f (i%64:Nat) b) t:=by
 have hlt:=h.lt hi;obtain⟨f',hf',f1,f2,f3⟩:=h.frame (k:=i/64) O O;have:f'=f:=O;subst this;have hh:=here_of (a:=i%64) f1 f2 f3 h.inv.o0 O;have hI:=h.inv.putB f' (i%64:Nat) b;have e1:s.putB f' (i%64:Nat) b=s.setByt (f'*64+i%64) b:=by
  rw[Pl.putB,An hh];rfl
 rw[e1] at hI⊢;refine⟨hh,hI,h.n,h.mp,λj hj=>?_,λj hj=>?_⟩
 ·have hj:j<m.n*64:=hj;show updI m.mem i b j=_;unfold updI;by_cases e:j=i;·subst e;rw[An rfl,Ex hf];show b=updI s.byt _ b _;rw[Fw]
  ·rw[Ae e,h.mem j hj];by_cases hm:t.fr (j/64)= -1;·rw[Ey hm,Ey hm]
   ·obtain⟨g,hg,g1,g2,_⟩:=h.frame (k:=j/64) O hm;rw[Ex hg,Ex hg];show _=updI s.byt _ b _;rw[IS];intro e2;by_cases e3:j/64=i/64;·rw[e3,hf] at hg;omega
    ·have:g≠f':=λe4=>e3 (h.inv.inj _ _ (h.lt hj) hlt (by rw[hg,hf,e4]) O);omega
 ·show 0≤updI m.mem i b j∧updI m.mem i b j<256;unfold updI;split;·omega
  ·exact h.bd j hj
theorem Sees.turn(h:Sees m s t)(tu:Nat→Bool):Sees {m with tu:=tu} s t:=⟨h.inv,h.n,h.mp,h.mem,h.bd⟩
theorem Sees.congr(h:Sees m s t){m':Ms}(hn:m'.n=m.n)(h1: ∀k,k<m.n→m'.mp k=m.mp k)(h2: ∀i,i<m.n*64→m'.mem i=m.mem i):Sees m' s t:=
 ⟨h.inv,h.n.trans hn.symm,λk hk=>(h1 k (hn▸hk)).trans (h.mp k (hn▸hk)),λi hi=>(h2 i (hn▸hi)).trans (h.mem i (hn▸hi)),λi hi=>by rw[h2 i (hn▸hi)];exact h.bd i (hn▸hi)⟩
theorem Sees.put0(h:Sees m s t)(hi:i<m.n*64)(hx:t.fr (i/64)= -1):Sees (m.put i 0) s t:=by
 refine h.congr rfl (λk hk=>by simp[Ms.put]) (λj hj=>?_);show updI m.mem i 0 j=m.mem j;unfold updI;split
 ·rename_i e
  subst e;rw[h.mem j hi,Ey hx]
 ·rfl
theorem Sees.new{n:Nat}{o:Int}(h:TInv s (Ts.new n o)):Sees (Ms.new n) s (Ts.new n o):=
 ⟨h,rfl,λk hk=>rfl,λi hi=>rfl,λi hi=>by show(0:Int)≤0∧(0:Int)<256;omega⟩
end
def MemC(w:Ac)(a:Am)(m:Ms)(s:Pl)(t:Ts):Prop:=Pool w a.a.gp s∧Tab w a.a t∧Cells w a.gm 108 67 (mcell a m)∧Sees m s t
def Mem(w:Ac)(a:Am)(m:Ms):Prop:= ∃s t,MemC w a m s t
section
variable {w w':Ac} {a:Am} {m:Ms} {s:Pl} {t:Ts} {S:AG}
theorem MemC.fr(h:MemC w a m s t)(f:Fr S w w')(hn: ∀k,a.own k→ ¬S k):MemC w' a m s t:=
 ⟨h.1.fr f (hn _ (Ah (Ah rfl))),h.2.1.fr f (λk hk=>hn k (Ah (Ag hk))),h.2.2.1.fr f (hn _ (Ag rfl)),h.2.2.2⟩
theorem Mem.fr(h:Mem w a m)(f:Fr S w w')(hn: ∀k,a.own k→ ¬S k):Mem w' a m:=by
 obtain⟨s,t,h⟩:=h;exact⟨s,t,h.fr f hn⟩
theorem Mem.fr0(h:Mem w a m)(f:Fr Aj w w'):Mem w' a m:=h.fr f (λ_ _ e=>e)
theorem Mem.alloc(h:Mem w a m)(o:Obj):Mem (w.alloc o) a m:=h.fr0 ((Ao _ w).alloc o)
theorem MemC.ne1(h:MemC w a m s t):a.gm≠a.a.gp:=Cells.ne h.2.2.1 h.1 Ak
theorem MemC.ne2(h:MemC w a m s t):a.gm≠a.a.gt:=by
 obtain⟨cs,hcs,_⟩:=h.2.2.1;exact Blk.ne_ hcs h.2.1.1 Ak
theorem MemC.ne3(h:MemC w a m s t):a.gm≠a.a.gf:=Cells.ne h.2.2.1 h.2.1.2.1 Ak
theorem MemC.ne4(h:MemC w a m s t):a.gm≠a.a.gg:=Cells.ne h.2.2.1 h.2.1.2.2.1 Ak
theorem MemC.neT(h:MemC w a m s t): ∀k,a.a.own k∨k=a.a.gp→ ¬k=a.gm:=by
 rintro k ((rfl|rfl|rfl)|rfl) e;·exact h.ne2 e.symm
 ·exact h.ne3 e.symm
 ·exact h.ne4 e.symm
 ·exact h.ne1 e.symm
theorem Mem.lt(h:Mem w a m): ∀k,a.own k→k<w.heap.size:=by
 obtain⟨s,t,h⟩:=h;rintro k (rfl|hk|rfl);·exact Cells.lt h.2.2.1
 ·exact h.2.1.lt k hk
 ·exact h.1.lt
theorem Mem.n0(h:Mem w a m):1≤m.n∧m.n≤64:=by
 obtain⟨s,t,h⟩:=h;have:=h.2.2.2.inv.n0;have:=h.2.2.2.inv.n1;have:=h.2.2.2.n;omega
theorem Mem.bd(h:Mem w a m): ∀i,i<m.n*64→0≤m.mem i∧m.mem i<256:=by
 obtain⟨s,t,h⟩:=h;exact h.2.2.2.bd
theorem MemC.c0(h:MemC w a m s t):w.cell? ⟨a.gm,0,G⟩=I ↑a.a.gp:=Cells.cell h.2.2.1 0 O
theorem MemC.c1(h:MemC w a m s t):w.cell? ⟨a.gm,1,G⟩=I ↑a.a.gt:=Cells.cell h.2.2.1 1 O
theorem MemC.cT(h:MemC w a m s t)(k:Nat)(hk:k<64):w.cell? ⟨a.gm,2+k,G⟩=I (Ap (m.tu k)):=by
 rw[Cells.cell h.2.2.1 _ O,mcell,Ae O,Ae O,An O,show 2+k -2=k by omega]
theorem MemC.cC(h:MemC w a m s t):w.cell? ⟨a.gm,66,G⟩=I (Ap Aa):=Cells.cell h.2.2.1 66 O
theorem MemC.setT(h:MemC w a m s t)(k:Nat)(hk:k<64)(b:Bool):MemC (w.setCell ⟨a.gm,2+k,G⟩ (Ap b)) a {m with tu:=updB m.tu k b} s t:=by
 have ff:=Bc w a.gm (2+k) (Ap b);refine⟨h.1.fr ff (λe=>h.neT _ (Ah rfl) e),h.2.1.fr ff (λk hk e=>h.neT _ (Ag hk) e),Cells.congr (Cells.set_ h.2.2.1 _ _) (λi hi=>?_),h.2.2.2.turn _⟩;unfold putV mcell;dsimp only;by_cases e:i=2+k;·rw[An e,Ae O,Ae O,An O,show i -2=k by omega];simp[updB]
 ·rw[Ae e];by_cases e0:i=0;·rw[An e0,An e0]
  ·by_cases e1:i=1;·rw[Ae e0,An e1,Ae e0,An e1]
   ·by_cases e2:i<66;·rw[Ae e0,Ae e1,An e2,Ae e0,Ae e1,An e2];rw[updB,Ae O]
    ·rw[Ae e0,Ae e1,Ae e2,Ae e0,Ae e1,Ae e2]
end
end Rm
namespace Rm
open Fm Nt
theorem size_any(w:Ac)(a:Am)(m:Ms)(h:Mem w a m):At Tryz.prog 48 #[↑a.gm] w λe w'=>e=Ax (J V ((m.n:Int)*64))∧w=w':=by
 have hn:=h.n0;obtain⟨s,t,hC⟩:=h;have c1:=hC.c1;have hp:=pages_any w a.a t hC.2.1;rw[hC.2.2.2.n] at hp;have Hp:=T hp;clear hp;go_in;go_wp2_with fail;refine Ay Hp ?_;exact Fx
theorem MW(w:Ac)(at_:Int)(h0:0≤at_)(h1:at_≤4294967295):At Tryz.prog 72 #[J V at_] w λe w'=>e=Ax (AD #[J Z (at_/64),J Z (at_%64)])∧w=w':=Jc
def inB(m:Ms)(at_ k:Int):Bool:=decide (at_+k≤(m.n:Int)*64)
theorem is_any(w:Ac)(a:Am)(m:Ms)(h:Mem w a m)(at_ k:Int)(h0:0≤at_)(h1:at_≤4294967295)(hk0:0≤k)(hk1:k≤1000):At Tryz.prog 71 #[↑a.gm,J V at_,J Z k] w λe w'=>e=Ax (Ap (inB m at_ k))∧w=w':=by
 have hs:=T (size_any w a m h);have hn:=h.n0;have hI:Hid (inB m at_ k=decide (at_+k≤(m.n:Int)*64)):=rfl;clear h;generalize inB m at_ k=r at*;generalize hq:(m.n:Int)*64=q at*;have hq0:0≤q:=O;have hq1:q≤4096:=O;clear hq;go_in;go_wp2_with fail;refine Ay hs ?_;rintro e w' ⟨rfl,rfl⟩
 go_wp2
 go_ret;exact⟨by rw[hI.out];rfl,rfl⟩
theorem get_any(w:Ac)(a:Am)(m:Ms)(h:Mem w a m)(at_:Int)(h0:0≤at_)(h1:at_<(m.n:Int)*64):At Tryz.prog 104 #[↑a.gm,J V at_] w λe w'=>e=Ax (J AC (m.mem at_.toNat))∧w=w':=by
 have hn:=h.n0;obtain⟨s,t,hC⟩:=h;obtain⟨i,rfl⟩: ∃i:Nat,at_=i:=⟨at_.toNat,O⟩;rw[show(i:Int).toNat=i from rfl];have hi:i<m.n*64:=O;have c0:=hC.c0;have c1:=hC.c1;have hsp:=T (MW w i h0 O);have hme:=hC.2.2.2.mem i hi;have hf:=frame_any w a.a t ((i/64:Nat):Int) hC.2.1;have e1:((i/64:Nat):Int)=(i:Int)/64:=O;have hlt:=hC.2.2.2.lt hi;by_cases hx:t.fr (i/64)= -1;·have q1:=MX;have q2:=MY;rw[Ey hx] at hme;rw[q1,q2,e1] at hf;have Hf:=T hf;rw[hme];clear hme hf e1 q1 q2 hx hC;go_in;go_wp2_with fail;refine Ay hsp ?_;rintro e w' ⟨rfl,rfl⟩;go_wp2_with fail;refine Ay Hf ?_;exact Fx
 ·have q1:=MZ;obtain⟨f,hff,f1,f2,f3⟩:=hC.2.2.2.frame (k:=i/64) O hx;have q2:frV t ((i/64:Nat):Int)=f:=by rw[frV_eq t q1,hff]
  have hh:=here_of (s:=s) (a:=i%64) f1 f2 f3 hC.2.2.2.inv.o0 O;have hb:=byte_any w a.a.gp s f ((i%64:Nat):Int) hC.1;have e2:((i%64:Nat):Int)=(i:Int)%64:=O;have q3:bytV s f ((i%64:Nat):Int)=m.mem i:=by
   rw[hme,Ex hff,bytV,An hh];rfl
  rw[hh,q3,e2] at hb;rw[q1,q2,e1] at hf;have Hf:=T hf;have Hb:=T hb;clear hme hf hb e1 e2 q1 q2 q3 hx hC hh hff f3;generalize m.mem i=b at*;go_in;go_wp2_with fail;refine Ay hsp ?_;rintro e w' ⟨rfl,rfl⟩;go_wp2_with fail;refine Ay Hf ?_;rintro e w' ⟨rfl,rfl⟩;go_wp2_with fail;refine Ay Hb ?_;exact Fx
def Ms.putI(m:Ms)(at_ b:Int):Ms:=if inB m at_ 1 then m.put at_.toNat b else m
set_option maxRecDepth 100000 in
theorem put_any(w:Ac)(a:Am)(m:Ms)(h:Mem w a m)(at_ b:Int)(h0:0≤at_)(h1:at_≤4294967295)(b0:0≤b)(b1:b<256):At Tryz.prog 49 #[↑a.gm,J V at_,J AC b] w λe w'=>e=Ax (Ap (inB m at_ 1))∧Mem w' a (m.putI at_ b)∧Fr a.own w w':=by
 have hn:=h.n0;have his:=is_any w a m h at_ 1 h0 h1 O O
 cases hb:inB m at_ 1
 ·have e1:m.putI at_ b=m:=by simp[Ms.putI,hb]
  rw[hb] at his;rw[e1];have His:=T his;clear his hb e1;go_in;go_wp2_with fail;refine Ay His ?_;exact IW
 ·have e1:m.putI at_ b=m.put at_.toNat b:=by simp[Ms.putI,hb]
  rw[hb] at his;rw[e1];have His:=T his;have hat:at_<(m.n:Int)*64:=by simp[inB] at hb;omega
  clear his hb e1;obtain⟨s,t,hC⟩:=h;obtain⟨i,rfl⟩: ∃i:Nat,at_=i:=⟨at_.toNat,O⟩;rw[show(i:Int).toNat=i from rfl];have hi:i<m.n*64:=O;have c0:=hC.c0;have c1:=hC.c1;have cC:=hC.cC;have cT:=hC.cT (i/64) O;have zT:=Cells.frozen hC.2.2.1 (2+i/64);have hsp:=T (MW w i h0 O);have hf:=frame_any w a.a t ((i/64:Nat):Int) hC.2.1;have ed:((i/64:Nat):Int)=(i:Int)/64:=O;have em:((i%64:Nat):Int)=(i:Int)%64:=O;have hlt:=hC.2.2.2.lt hi;have hS:=hC.2.2.2;have i64:i/64<64:=O;by_cases hx:t.fr (i/64)= -1
  ·have q1:=MX;have q2:=MY;rw[q1,q2,ed] at hf;have Hf:=T hf;by_cases hb0:b=0
   ·subst hb0;have hM:Mem (w.setCell ⟨a.gm,2+i/64,G⟩ (Ap Af)) a (m.put i 0):=⟨s,t,(hC.setT _ i64 Af).1,(hC.setT _ i64 Af).2.1,(hC.setT _ i64 Af).2.2.1,hS.put0 hi hx⟩;have fr1:=(Ao a.own w).setCell (p:=⟨a.gm,2+i/64,G⟩) (Ag (Ag rfl)) (Ap Af);have HM:=T hM;have FR:=T fr1;clear hM fr1 hf q1 q2 hx hS hC;go_in;go_wp2_with fail;refine Ay His ?_;rintro e w' ⟨rfl,rfl⟩;go_wp2_with fail;refine Ay hsp ?_;rintro e w' ⟨rfl,rfl⟩;go_wp2_with fail;refine Ay Hf ?_;rintro e w' ⟨rfl,rfl⟩
    go_wp2
    go_ret;exact Jd
   ·obtain⟨f,f1,f2,f3,_,g1,g2,g3,g4⟩:=hS.inv.mapNew hlt hx;have hmp:=map_any w a.a s t ((i/64:Nat):Int) hC.1 hC.2.1 hS.inv.pi.ok;rw[g1,g2,ed] at hmp;have hS2:=hS.map (k:=i/64) O hx;have hfr2:(t.map s ((i/64:Nat):Int)).fr (i/64)=f:=by rw[g4];exact Fw _ _ _
    obtain⟨hh,hS3⟩:=hS2.putF (i:=i) (f:=f) hi hfr2 b b0 b1;have hpt:=λW (h:Pool W a.a.gp (mapS s t ((i/64:Nat):Int)))=>Fm.put_any W a.a.gp _ f ((i%64:Nat):Int) b h;rw[hh] at hpt;rw[ed,em] at hpt hS3;rw[ed] at hS2;have Hmp:=T hmp;have Hpt:=T hpt;have hbne:(b !=0)=Af:=by simpa using hb0
    have hbeq:(b==0)=Aa:=by simpa using hb0
    have HB0:=T hb0;have hC':=T hC;have hne:=T hC.neT;clear hmp hpt hf q1 q2 hx hS hC hb0 g1 g2 g3 g4 hfr2 hh;generalize mapS s t ((i:Int)/64)=s2 at*;generalize t.map s ((i:Int)/64)=t2 at*;go_in;go_wp2_with fail;refine Ay His ?_;rintro e w' ⟨rfl,rfl⟩;go_wp2_with fail;refine Ay hsp ?_;rintro e w' ⟨rfl,rfl⟩;go_wp2_with fail;refine Ay Hf ?_;rintro e w' ⟨rfl,rfl⟩;go_wp2_with fail;refine Ay Hmp ?_;rintro e w2 ⟨rfl,hP2,hT2,f2⟩;have hC2:MemC w2 a {m with mp:=updB m.mp (i/64) Af} s2 t2:=⟨hP2,hT2,Cells.congr (hC'.out.2.2.1.fr f2 (λe=>by
     rcases e with e|e;·exact hne.out _ (Ah rfl) e.symm
     ·exact hne.out _ (Ag (Ah (Ag rfl))) e.symm)) (λj hj=>rfl),hS2⟩
    have fr2:Fr a.own w w2:=f2.mono (λk _ e=>by
     rcases e with e|e;·exact Ah (Ah e)
     ·exact Ah (Ag (Ah (Ag e))))
    have c0':=hC2.c0;have cT':=hC2.cT (i/64) i64;have zT':=Cells.frozen hC2.2.2.1 (2+i/64);have hC3:=hC2.setT (i/64) i64 Af;have fr3:=fr2.setCell (p:=⟨a.gm,2+i/64,G⟩) (Ag (Ag rfl)) (Ap Af);have HP3:=T (Hpt.out _ hC3.1);have HC3:=T hC3;have FR3:=T fr3;have c0'':=hC3.c0;clear hC3 fr3 fr2 hC2;go_wp2_with fail;refine Ay HP3 ?_;rintro e w4 ⟨rfl,hP4,f4⟩;have fr4:=FR3.out.tr (f4.mono (λk _ e=> Ah (Ah e)));have hC3:=HC3.out;have hM:Mem w4 a (m.put i b):=⟨_,t2,hP4,hC3.2.1.fr f4 (λk hk e=>hC3.2.1.pool hC3.1 k hk e),Cells.congr (hC3.2.2.1.fr f4 (λe=>hne.out _ (Ah rfl) e.symm)) (λj hj=>rfl),hS3.congr rfl (λk hk=>by
     show(if b=0 then m.mp else updB m.mp (i/64) Af) k=_;rw[Ae HB0.out]) (λj hj=>rfl)⟩
    clear c0'' cT' c0' hC3
    go_wp2
    go_ret;exact⟨rfl,hM,fr4⟩
  ·have q1:=MZ;obtain⟨f,hff,f1,f2,f3⟩:=hS.frame (k:=i/64) O hx;have q2:frV t ((i/64:Nat):Int)=f:=by rw[frV_eq t q1,hff]
   obtain⟨hh,hS3⟩:=hS.putF hi hff b b0 b1;have hpt:=λW (h:Pool W a.a.gp s)=>Fm.put_any W a.a.gp _ f ((i%64:Nat):Int) b h;rw[hh] at hpt;rw[em] at hpt hS3;rw[q1,q2,ed] at hf;have Hf:=T hf;have Hpt:=T hpt;have hC3:=hC.setT (i/64) i64 Af;have fr3:=(Ao a.own w).setCell (p:=⟨a.gm,2+i/64,G⟩) (Ag (Ag rfl)) (Ap Af);have HP3:=T (Hpt.out _ hC3.1);have HC3:=T hC3;have FR3:=T fr3;have hne:=T hC.neT;have hmp:=T (show m.mp (i/64)=Af from by rw[hS.mp _ (by omega)];simpa using hx);have c0'':=hC3.c0;clear hf hpt q1 q2 hx hS hC hff hh hC3 fr3 f3;go_in;go_wp2_with fail;refine Ay His ?_;rintro e w' ⟨rfl,rfl⟩;go_wp2_with fail;refine Ay hsp ?_;rintro e w' ⟨rfl,rfl⟩;go_wp2_with fail;refine Ay Hf ?_;rintro e w' ⟨rfl,rfl⟩;go_wp2_with fail;refine Ay HP3 ?_;rintro e w4 ⟨rfl,hP4,f4⟩;have fr4:=FR3.out.tr (f4.mono (λk _ e=> Ah (Ah e)));have hC3:=HC3.out;have hM:Mem w4 a (m.put i b):=⟨_,t,hP4,hC3.2.1.fr f4 (λk hk e=>hC3.2.1.pool hC3.1 k hk e),Cells.congr (hC3.2.2.1.fr f4 (λe=>hne.out _ (Ah rfl) e.symm)) (λj hj=>rfl),hS3.congr rfl (λk hk=>by
    show(if b=0 then m.mp else updB m.mp (i/64) Af) k=m.mp k;split;·rfl
    ·unfold updB;split;·rename_i e;rw[e,hmp.out]
     ·rfl) (λj hj=>rfl)⟩
   clear c0'' hC3
   go_wp2
   go_ret;exact⟨rfl,hM,fr4⟩
end Rm
namespace Rm
open Fm Nt
theorem or8(x y:Int)(h0:0≤x)(h1:x%256=0)(h2:x<4294967296)(h3:0≤y)(h4:y<256):Bb .or V x y=x+y:=
 bits_join V 32 Ak wraps_u32 8 x y h0 h1 h2 h3 h4 O
def wrd(m:Ms)(i:Nat):Nat→Int
 |0=>0
 |r+1=>wrd m i r*256+m.mem (i+(3 -r))
def Ms.puts(m:Ms)(i:Nat)(zs:List Int):Nat→Ms
 |0=>m
 |r+1=>(m.puts i zs r).put (i+r) (zs.getD r 0)
section
variable (m:Ms) (i:Nat) (zs:List Int)
theorem puts_n(r:Nat):(m.puts i zs r).n=m.n:=by
 induction r with
 |zero=>rfl
 |succ r ih=>exact ih
def hits(i r k:Nat):Bool:=decide (∃j,j<r∧(i+j)/64=k)
theorem Uo(i r k:Nat):hits i (r+1) k=(hits i r k||decide ((i+r)/64=k)):=by
 unfold hits;rw[Bool.eq_iff_iff];simp only[Bool.or_eq_true,decide_eq_true_eq];constructor
 ·rintro⟨j,h1,h2⟩;by_cases e:j=r;·subst e;exact Ah h2
  ·exact Ag ⟨j,O,h2⟩
 ·rintro(⟨j,h1,h2⟩|h);·exact⟨j,O,h2⟩
  ·exact⟨r,O,h⟩
theorem puts_tu(r k:Nat):(m.puts i zs r).tu k=(m.tu k||hits i r k):=by
 induction r with
 |zero=>simp[Ms.puts,hits]
 |succ r ih=>
  show updB (m.puts i zs r).tu ((i+r)/64) Af k=_;rw[Uo];unfold updB;by_cases e:k=(i+r)/64;·rw[An e,decide_eq_true e.symm];simp
  ·rw[Ae e,ih,decide_eq_false (λh=>e h.symm)];simp
end
end Rm
namespace Rm
open Fm Nt
theorem put_in(w:Ac)(a:Am)(m:Ms)(h:Mem w a m)(at_ b:Int)(h0:0≤at_)(h1:at_<(m.n:Int)*64)(b0:0≤b)(b1:b<256):At Tryz.prog 49 #[↑a.gm,J V at_,J AC b] w λe w'=>e=Ax (Ap Af)∧Mem w' a (m.put at_.toNat b)∧Fr a.own w w':=by
 have hn:=h.n0;have hp:=put_any w a m h at_ b h0 O b0 b1;have e:inB m at_ 1=Af:=by simp[inB];omega
 rw[e,Ms.putI,An e] at hp;exact hp
def pgB(m:Ms)(n:Int)(len:Nat):Bool:=decide (0≤n∧n<m.n∧len=64)
def Ms.putP(m:Ms)(n:Int)(zs:List Int):Ms:=if pgB m n zs.length then m.puts (n.toNat*64) zs 64 else m
theorem byte_of{w:Ac}{B n:Nat}{A:Aw}{zs:List Int}(h:IntsAt AC w B A n zs){k:Nat}(hk:k<n):0≤zs.getD k 0∧zs.getD k 0<256:=by
 have:=wf_u8 (h.2.1 k hk);omega
theorem ints_own{k:IntKind}{w w':Ac}{B n:Nat}{A:Aw}{zs:List Int}{S:AG}(h:IntsAt k w B A n zs)(f:Fr S w w')(hB:B≤↑w)(hA:0<n→ ∀b off,A=I ⟨b,off,G⟩→ ¬S b):IntsAt k w' B A n zs:=
 ⟨h.1,h.2.1,λhn=>by
  obtain⟨b,off,e,hb,hc⟩:=h.2.2 hn;exact⟨b,off,e,hb,λi hi=>(World.cell?_of_block (w:=w) (a:=⟨b,off+i,G⟩) (f.block b O (hA hn b off e))).trans (hc i hi)⟩⟩
set_option maxRecDepth 100000 in
theorem Up(w:Ac)(a:Am)(m:Ms)(h:Mem w a m)(n:Int)(A:Aw)(len cap B:Nat)(zs:List Int)(hz:IntsAt AC w B A len zs)(hB:B≤↑w)(hA:0<len→ ∀b off,A=I ⟨b,off,G⟩→ ¬a.own b)(hm:len≤Br):At Tryz.prog 245 #[↑a.gm,J Z n,U A len cap] w λe w'=>e=Ax (Ap (pgB m n len))∧Mem w' a (m.putP n zs)∧Fr a.own w w':=by
 unfold Br at hm;have hn:=h.n0;have hlz:=T hz.1;have hpg:=Je;have Hpg:=T hpg;have c1:=Jf;clear hpg;by_cases hb:pgB m n len=Af
 ·have e1:m.putP n zs=m.puts (n.toNat*64) zs 64:=by rw[Ms.putP,hlz.out,An hb]
  rw[hb,e1];obtain⟨n0,n1,hl64⟩:0≤n∧n<m.n∧len=64:=by simpa[pgB] using hb
  have hl2:((len:Int) !=64)=Aa:=A8;have l0:64≤len:=O;have l1:len≤64:=O;clear hl64;obtain⟨p,rfl⟩: ∃i:Nat,n=i:=⟨n.toNat,O⟩;rw[show(p:Int).toNat=p from rfl];have hM0:Mem w a (m.puts (p*64) zs 0):=h;have d1:decide (m.n≤p)=Aa:=A8;have d2:decide ((p:Int)<0)=Aa:=AB;clear hb e1;go_in;go_wp2_with fail;refine Ay Hpg ?_;rintro e w' ⟨rfl,rfl⟩;go_wp2_with fail;go_loopw [7,28] (λok k wr=> ∃r:Nat,r≤len∧k=J Z r∧ok=Ap Af∧Mem wr a (m.puts (p*64) zs r)∧Fr a.own w wr) (λ_ k _=>len -(AJ k).toNat)
  case atStart=>exact⟨0,O,rfl,rfl,hM0,Ao _ _⟩
  case round=>
   clear hM0;obtain⟨r,hr,rfl,rfl,hM,fr⟩:=hrel;by_cases hlt:r<len
   ·obtain⟨b,off,rfl,hbb,hc⟩:=(ints_own hz fr hB hA).at_ hlt;obtain⟨b0,b1⟩:=byte_of hz hlt;have hp:=put_in wr a _ hM ((p:Int)*64+r) (zs.getD r 0) O (by rw[puts_n];omega) b0 b1;rw[show((p:Int)*64+r).toNat=p*64+r by omega] at hp;have Hp:Hid (At Tryz.prog 49 #[↑a.gm,J V ((p:Int)*64+r),J AC (zs.getD r 0)] wr λe w'=>e=Ax (Ap Af)∧Mem w' a (m.puts (p*64) zs (r+1))∧Fr a.own wr w'):=hp;clear hp;generalize zs.getD r 0=z at*;go_wp2_with fail;refine Ay Hp ?_;rintro e w2 ⟨rfl,hM2,f2⟩;have fr2:=fr.tr f2
    go_wp2
    go_roundw
    case rel=>exact⟨r+1,O,AX,rfl,hM2,fr2⟩
    case measure=>simp[AJ];omega
   ·have e:r=64:=O;rw[e] at hM;clear e
    go_wp2
    go_ret;exact⟨rfl,hM,fr⟩
 ·have hb:pgB m n len=Aa:=Fz;have e1:m.putP n zs=m:=by rw[Ms.putP,hlz.out,Ae (by rw[hb];exact Da)]
  rw[hb,e1];have hno: ¬(0≤n∧n<m.n∧len=64):=by simpa[pgB] using hb
  clear hb e1;by_cases n0:0≤n
  ·by_cases n1:n<m.n;·have hl:((len:Int) !=64)=Af:=A8;exact Na
   ·exact Na
  ·clear hno;go_in
   go_wp2
   go_ret;exact⟨rfl,h,Ao _ _⟩
def Ms.load(m:Ms)(zs:List Int):Ms:=if zs.length≤m.n*64 then m.puts 0 zs zs.length else m
def loadE(m:Ms)(len:Nat):Int:=if len≤m.n*64 then 0 else 3
set_option maxRecDepth 100000 in
theorem load_any(w:Ac)(a:Am)(m:Ms)(h:Mem w a m)(A:Aw)(len cap B:Nat)(zs:List Int)(hz:IntsAt AC w B A len zs)(hB:B≤↑w)(hA:0<len→ ∀b off,A=I ⟨b,off,G⟩→ ¬a.own b)(hm:len≤Br):At Tryz.prog 33 #[↑a.gm,U A len cap] w λe w'=>e=Ax (J Z (loadE m len))∧Mem w' a (m.load zs)∧Fr a.own w w':=by
 unfold Br at hm;have hn:=h.n0;have hlz:=T hz.1;have hsz:=T (size_any w a m h);by_cases hb:len≤m.n*64
 ·have e1:m.load zs=m.puts 0 zs len:=by rw[Ms.load,hlz.out,An hb]
  have e2:loadE m len=0:=by rw[loadE,An hb]
  rw[e1,e2];have hM0:Mem w a (m.puts 0 zs 0):=h;have hbi: ¬((m.n:Int)*64<(len:Int)):=O;clear e1 e2;go_in;go_wp2_with fail;refine Ay hsz ?_;rintro e w' ⟨rfl,rfl⟩;go_wp2_with fail;go_loopw [15] (λk wr=> ∃r:Nat,r≤len∧k=J Z r∧Mem wr a (m.puts 0 zs r)∧Fr a.own w wr) (λk _=>len -(AJ k).toNat)
  case atStart=>exact⟨0,O,rfl,hM0,Ao _ _⟩
  case round=>
   clear hM0;obtain⟨r,hr,rfl,hM,fr⟩:=hrel;by_cases hlt:r<len
   ·obtain⟨b,off,rfl,hbb,hc⟩:=(ints_own hz fr hB hA).at_ hlt;obtain⟨b0,b1⟩:=byte_of hz hlt;have hp:=put_in wr a _ hM (r:Int) (zs.getD r 0) O (by rw[puts_n];omega) b0 b1;have ep:m.puts 0 zs (r+1)=(m.puts 0 zs r).put r (zs.getD r 0):=by rw[Ms.puts,Bn]
    rw[show((r:Int)).toNat=r from rfl,←ep] at hp;have Hp:=T hp;clear hp ep;generalize zs.getD r 0=z at*;go_wp2_with fail;refine Ay Hp ?_;rintro e w2 ⟨rfl,hM2,f2⟩;have fr2:=fr.tr f2
    go_wp2
    go_roundw
    case rel=>exact⟨r+1,O,AX,hM2,fr2⟩
    case measure=>simp[AJ];omega
   ·have e:r=len:=O;subst e
    go_wp2
    go_ret;exact⟨rfl,hM,fr⟩
 ·have e1:m.load zs=m:=by rw[Ms.load,hlz.out,Ae hb]
  have e2:loadE m len=3:=by rw[loadE,Ae hb]
  rw[e1,e2];have hbi:(m.n:Int)*64<(len:Int):=O;clear e1 e2;go_in;go_wp2_with fail;refine Ay hsz ?_;exact IW
end Rm
end Go.Proofs.YtpmlgdopfafcgaaGreatDoor
