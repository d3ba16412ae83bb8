import Derived.Test.YtdfegdoeebaagaaGreatDoorX1
open Option renaming some→I,none→G
open Go.IntKind renaming u32→V,u64→AP
open Go renaming bits→Bv
open Bool renaming false→Ac,true→Ag
open List renaming getD_eq_getElem?_getD→AS,getElem?_eq_getElem→BK,append_assoc→C9,getElem?_take_of_lt→Dq,getElem?_append_right→Ex,mem_append→Da,length_cons→D8,getElem?_map→DP,getElem?_eq_none→Ew,getElem?_append_left→Ff,cons_append→DI,nil_append→DH,mem_cons→Dv,length_nil→Gx,singleton_append→IF
open Nat renaming zero_le→Bj,lt_or_ge→DG,reduceEqDiff→GA
open Or renaming inl→Af,inr→Ah
open Int renaming eq_ofNat_of_zero_le→Eh,toNat_natCast→Du
open Option.some renaming inj→GG
set_option linter.all false
set_option maxHeartbeats 40000000
set_option maxRecDepth 1000000
open Go Go.RowKit
namespace Go.Proofs.YtdfegdoeebaagaaGreatDoor
namespace Tr
open Gs
structure HI where
 op:Nat
 rd:Nat
 ra:Nat
 rb:Nat
 imm:Int
structure Hm where
 g:Nat→Int
 m:Nat→Int
def upZ(f:Nat→Int)(n:Nat)(v:Int):Nat→Int:=λk=>if k=n then v else f k
def Ck(op:Nat)(a b:Int):Int:=
 if op=2 then a else if op=3 then(a+b)%18446744073709551616 else if op=4 then(a -b)%18446744073709551616 else if op=5 then Bv .and AP a b else if op=6 then Bv .or AP a b else if op=7 then Bv .xor AP a b
 else if op=8 then(if 64≤b then 0 else a*2^b.toNat%18446744073709551616) else if op=9 then(if 64≤b then 0 else a/2^b.toNat) else if op=10 then a*b%18446744073709551616
 else if op=11 then(if b=0 then 0 else a/b) else if op=12 then(if a<b then 1 else 0) else(if a=b then 1 else 0)
def Jf(i:HI)(s:Hm):Int:=(s.g i.ra+i.imm)%18446744073709551616
def hstep(i:HI)(s:Hm):Option Hm:=
 if i.op=0 then I s else if i.op=1 then I ⟨upZ s.g i.rd i.imm,s.m⟩
 else if i.op=14 then(if 256≤Jf i s then G else I ⟨upZ s.g i.rd (s.m (Jf i s).toNat),s.m⟩)
 else if i.op=15 then(if 256≤Jf i s then G else I ⟨s.g,upZ s.m (Jf i s).toNat (s.g i.rb%4294967296)⟩)
 else I ⟨upZ s.g i.rd (Ck i.op (s.g i.ra) (s.g i.rb)),s.m⟩
structure Hr where
 why:Int
 imm:Int
 s:Hm
def hrun(code:List HI):Nat→Int→Hm→Hr
 |0,_,s=>⟨5,0,s⟩
 |n+1,at_,s=>
  if at_<0∨(code.length:Int)≤at_ then⟨2,0,s⟩
  else
   let i:=code.getD at_.toNat ⟨0,0,0,0,0⟩
   if i.op=16 then hrun code n (if s.g i.ra=0 then i.imm else at_+1) s
   else if i.op=17 then hrun code n (if s.g i.ra=0 then at_+1 else i.imm) s
   else if i.op=18 then hrun code n i.imm s
   else if i.op=19 then⟨1,i.imm,s⟩
   else match hstep i s with
    |none=>⟨4,0,s⟩
    |some s'=>hrun code n (at_+1) s'
def BU:List HI→Hm→Option Hm
 |[],s=>I s
 |i::l,s=>match hstep i s with
  |none=>G
  |some s'=>BU l s'
variable{code:List HI}
theorem Nr{pre:List HI}{i:HI}{post:List HI}(e:code=pre++i::post):code.getD ((pre.length:Int)).toNat ⟨0,0,0,0,0⟩=i∧ ¬(((pre.length:Int)<0)∨(code.length:Int)≤pre.length):=by
 subst e;refine⟨by simp[AS], ?_⟩;simp;omega
theorem IG: ∀(seg pre post:List HI) (n:Nat) (s s':Hm),code=pre++seg++post→(∀i∈seg,i.op≤15)→hrun code n pre.length s=⟨1,1,s'⟩→
 ∃s1 m,BU seg s=I s1∧hrun code m ((pre.length+seg.length:Nat):Int) s1=⟨1,1,s'⟩
 |[],pre,post,n,s,s',_,_,h=>⟨s,n,rfl,D7⟩
 |i::seg,pre,post,n,s,s',e,hs,h=>by
  have e2:code=pre++i::(seg++post):=EV;obtain⟨a1,a2⟩:=Nr e2;have hi:=hs i AC
  cases n with
  |zero=>rw[hrun] at h;simp at h
  |succ n=>
   rw[hrun,Ae a2,a1] at h;simp only[] at h;rw[Ae O,Ae O,Ae O,Ae O] at h;rw[BU]
   cases hst:hstep i s with
   |none=>rw[hst] at h;simp at h
   |some s1=>
    rw[hst] at h;simp only[] at h;have e3:code=(pre++[i])++seg++post:=EV;have h':hrun code n ((pre++[i]).length:Nat) s1=⟨1,1,s'⟩:=D7;obtain⟨s2,m,q1,q2⟩:=IG seg (pre++[i]) post n s1 s' e3 (λj hj=>hs j FJ) h';refine⟨s2,m,q1, ?_⟩;simpa[Nat.add_assoc,Nat.add_comm 1] using q2
theorem Ui{pre post:List HI}{n:Nat}{s s':Hm}{r:Nat}{E:Int}(e:code=pre++⟨17,0,r,0,E⟩::post)(hE: ∀m s,hrun code m E s≠⟨1,1,s'⟩)(h:hrun code n pre.length s=⟨1,1,s'⟩):s.g r=0∧ ∃m,hrun code m ((pre.length+1:Nat):Int) s=⟨1,1,s'⟩:=by
 obtain⟨a1,a2⟩:=Nr e
 cases n with
 |zero=>rw[hrun] at h;simp at h
 |succ n=>
  rw[hrun,Ae a2,a1] at h;simp only[] at h;rw[Ae Ak,An Ak] at h;by_cases hz:s.g r=0;·rw[An hz] at h;exact⟨hz,n,D7⟩
  ·rw[Ae hz] at h;exact absurd h (hE _ _)
structure Pl where
 reg:Nat→Int
 slot:Nat→Int
def li(rd:Nat)(v:Int):HI:=⟨1,rd,0,0,v⟩
def hop(op rd ra rb:Nat):HI:=⟨op,rd,ra,rb,0⟩
def hld(rd ra:Nat)(at_:Int):HI:=⟨14,rd,ra,0,at_⟩
def hst(ra:Nat)(at_:Int)(rb:Nat):HI:=⟨15,0,ra,rb,at_⟩
def Ez(pl:Pl)(n:Nat):Int:=(64+pl.slot n)%4294967296
def BI(pl:Pl)(n into:Nat):Nat:=if 0≤pl.reg n then(pl.reg n).toNat else into
def CO(pl:Pl)(n into:Nat):List HI:=if 0≤pl.reg n then[] else[hld into 15 (Ez pl n)]
def H7(pl:Pl)(n r:Nat):List HI:=if pl.reg n<0 then[hst 15 (Ez pl n) r] else[]
def Dg(base:Nat)(word need most E:Int):List HI:=[hld base 15 word,li 11 need,hop 12 12 base 11,⟨17,0,12,0,E⟩,li 12 most,hop 12 12 12 base,⟨17,0,12,0,E⟩,hop 4 base base 11]
def lowC(r:Nat):List HI:=[li 12 4294967295,hop 5 r r 12]
def Fi(op:Int):Nat:=if op=16 then 3 else if op=18 then 5 else if op=19 then 6 else if op=20 then 7 else if op=21 then 8 else if op=22 then 9 else if op=23 then 10 else 4
def It(op:Int)(rd a b:Nat):List HI:=hop (Fi op) rd a b::(if op=18∨op=19∨op=20∨op=22 then[] else lowC rd)
def Fj(r:Nat)(up:Int):List HI:=[li 12 up,hop 8 r r 12,hop 6 10 10 r]
def IH(rd r:Nat):List HI:=[li 12 31,hop 9 rd r 12]
def Jg(x1 x2 y1 y2:Nat):List HI:=[hop 7 11 x1 x2,hop 7 12 y1 y2]++([hop 5 11 11 12]++(IH 11 11++Fj 11 3))
def Ia(op:Int)(a b:Nat):List HI:=
 It op 9 a b++([hop 13 10 9 15]++(IH 11 9++(Fj 11 1++
  (if op=16 then[hop 12 11 9 a]++(Fj 11 2++Jg a 9 b 9) else if op=17∨op=25 then[hop 12 11 a b]++(Fj 11 2++Jg a b a 9) else[]))))
def Kw(p:Pg)(pl:Pl)(rd:Nat)(x:IIn):List HI:=
 if x.op=0 then[li rd x.imm] else if x.op=1 then[hld rd 14 (4+p.nd -1 -x.imm)] else if x.op=2 then[hld rd 13 (20+p.nr -1 -x.imm)]
 else if x.op=3 then CO pl x.a 7++(CO pl x.b 8++It x.imm rd (BI pl x.a 7) (BI pl x.b 8))
 else CO pl x.a 7++(CO pl x.b 8++(Ia x.imm (BI pl x.a 7) (BI pl x.b 8)++[hop 2 rd 10 0]))
def G8(p:Pg)(pl:Pl)(n:Nat)(x:IIn):List HI:=Kw p pl (BI pl n 9) x++H7 pl n (BI pl n 9)
def Dx(p:Pg)(pl:Pl):Nat→List IIn→List HI
 |_,[]=>[]
 |n,x::l=>G8 p pl n x++Dx p pl (n+1) l
def Fk(pl:Pl)(base:Nat):Int→List Nat→List HI
 |_,[]=>[]
 |k,n::l=>CO pl n 7++(hst base k (BI pl n 7)::Fk pl base (k+1) l)
def DK(pl:Pl)(base:Nat)(from_ word:Int)(out:List Nat):List HI:=Fk pl base from_ out++[li 11 out.length,hop 3 11 11 base,hst 15 word 11]
def EA(br:Int):Int:=if br=33 then 1 else if br=34 then 1 else if br=35 then 4 else if br=36 then 2 else 8
def Cr(p:Pg)(pl:Pl):List HI:=if 0≤p.fl then li 11 15::(CO pl p.fl.toNat 7++[hop 5 11 11 (BI pl p.fl.toNat 7),hst 15 1 11]) else[]
def brC(p:Pg)(at_:Int):List HI:=if p.br=0 then[] else[hld 11 15 1,li 12 (EA p.br),hop 5 11 11 12,⟨if p.br=34 then 17 else 16,0,11,0,at_⟩,li 9 p.tk]
def tgC(p:Pg)(pl:Pl):List HI:=if 0≤p.tg then CO pl p.tg.toNat 7++[hop 2 9 (BI pl p.tg.toNat 7) 0] else[]
def Jh(p:Pg):List HI:=[hst 15 0 9,li 11 p.ct,hst 15 36 11,⟨19,0,0,0,1⟩]
def FL(p:Pg)(pl:Pl)(len:Nat):List HI:=Cr p pl++(li 9 p.nx::(brC p ((len+(Cr p pl).length+6:Nat):Int)++(tgC p pl++Jh p)))
def Cu(high need out:Nat):Int:=min (16 -(high:Int)) (16+(need:Int) -out)
def Cw(p:Pg)(pl:Pl):List HI:=Dx p pl 0 p.code++(DK pl 14 4 2 p.od++DK pl 13 20 3 p.or)
def DX(p:Pg)(E:Int):List HI:=Dg 14 2 p.nd (Cu p.hd p.nd p.od.length) E++Dg 13 3 p.nr (Cu p.hr p.nr p.or.length) E
def BO(p:Pg)(pl:Pl)(E:Int):List HI:=
 if Cu p.hd p.nd p.od.length<p.nd then[li 15 0]
 else if Cu p.hr p.nr p.or.length<p.nr then li 15 0::Dg 14 2 p.nd (Cu p.hd p.nd p.od.length) E
 else li 15 0::(DX p E++(Cw p pl++FL p pl (17+(Cw p pl).length)))
def codeC(p:Pg)(pl:Pl):List HI:=BO p pl (BO p pl 0).length++[⟨19,0,0,0,2⟩]
end Tr
namespace Tr
open Gs
theorem Uj(x y:Int)(x0:0≤x)(x1:x<4294967296)(y0:0≤y)(y1:y<4294967296):Bv .and AP x y=Bv .and V x y:=by
 obtain⟨a,rfl⟩:=Eh x0;obtain⟨b,rfl⟩:=Eh y0;rw[u64_and_nat a b O O,u32_and_nat a b O O]
theorem b64_or(x y:Int)(x0:0≤x)(x1:x<4294967296)(y0:0≤y)(y1:y<4294967296):Bv .or AP x y=Bv .or V x y:=by
 obtain⟨a,rfl⟩:=Eh x0;obtain⟨b,rfl⟩:=Eh y0;rw[u64_or_nat a b O O,u32_or_nat a b O O]
theorem Pu(x y:Int)(x0:0≤x)(x1:x<4294967296)(y0:0≤y)(y1:y<4294967296):Bv .xor AP x y=Bv .xor V x y:=by
 obtain⟨a,rfl⟩:=Eh x0;obtain⟨b,rfl⟩:=Eh y0;rw[u64_xor_nat a b O O,u32_xor_nat a b O O]
theorem and_bd(x y:Int)(x0:0≤x)(x1:x<4294967296)(y0:0≤y)(y1:y<4294967296):0≤Bv .and V x y∧Bv .and V x y<4294967296:=by
 obtain⟨a,rfl⟩:=Eh x0;obtain⟨b,rfl⟩:=Eh y0;rw[u32_and_nat a b O O];have:a&&&b<2^32:=Nat.and_lt_two_pow a O;omega
theorem or_bd(x y:Int)(x0:0≤x)(x1:x<4294967296)(y0:0≤y)(y1:y<4294967296):0≤Bv .or V x y∧Bv .or V x y<4294967296:=by
 obtain⟨a,rfl⟩:=Eh x0;obtain⟨b,rfl⟩:=Eh y0;rw[u32_or_nat a b O O];have:a|||b<2^32:=Nat.or_lt_two_pow O O;omega
theorem Pw(x y:Int)(x0:0≤x)(x1:x<4294967296)(y0:0≤y)(y1:y<4294967296):0≤Bv .xor V x y∧Bv .xor V x y<4294967296:=by
 obtain⟨a,rfl⟩:=Eh x0;obtain⟨b,rfl⟩:=Eh y0;rw[u32_xor_nat a b O O];have:a^^^b<2^32:=Nat.xor_lt_two_pow O O;omega
theorem mask32(v:Int)(h0:0≤v)(h1:v<18446744073709551616):Bv .and AP v 4294967295=v%4294967296:=by
 obtain⟨a,rfl⟩:=Eh h0;have:=u64_and_nat a 4294967295 O O;have e:((4294967295:Nat):Int)=4294967295:=rfl;rw[e] at this;rw[this,show(4294967295:Nat)=2^32 -1 by rfl,Nat.and_two_pow_sub_one_eq_mod];omega
def II(op a b:Int):Int:=if op=25 then(a -b)%4294967296 else FG op a b
theorem Uk(op x y:Int)(x0:0≤x)(x1:x<4294967296)(y0:0≤y)(y1:y<4294967296):0≤II op x y∧II op x y<4294967296:=by
 unfold II;split;·omega
 unfold FG;split;·omega
 split;·omega
 split;·exact and_bd x y x0 x1 y0 y1
 split;·exact or_bd x y x0 x1 y0 y1
 split;·exact Pw x y x0 x1 y0 y1
 split
 ·unfold Ja;split;·omega
  ·simp only[if_true];omega
 split
 ·unfold Ja;split;·omega
  ·simp only[Bool.false_eq_true,if_false];have hp:(0:Int)<2^y.toNat:=Int.pow_pos Ak;have h1:=Int.ediv_nonneg x0 (Int.le_of_lt hp);have h2:=Int.ediv_le_self (2^y.toNat) x0;omega
 split;·omega
 split;·have h1:=Int.ediv_nonneg x0 y0;have h2:=Int.ediv_le_self y x0;omega
 ·omega
theorem aluV_bd(op x y:Int)(x0:0≤x)(x1:x<4294967296)(y0:0≤y)(y1:y<4294967296):0≤FG op x y∧FG op x y<4294967296:=by
 by_cases e:op=25;·subst e;simp[FG]
 ·have:=Uk op x y x0 x1 y0 y1;unfold II at this;rwa[Ae e] at this
theorem FU(rd:Nat)(v:Int)(rest:List HI)(s:Hm):BU (li rd v::rest) s=BU rest ⟨upZ s.g rd v,s.m⟩:=rfl
theorem CW(op rd ra rb:Nat)(rest:List HI)(s:Hm)(h:2≤op∧op≤13):BU (hop op rd ra rb::rest) s=BU rest ⟨upZ s.g rd (Ck op (s.g ra) (s.g rb)),s.m⟩:=by
 rw[BU];have:hstep (hop op rd ra rb) s=I ⟨upZ s.g rd (Ck op (s.g ra) (s.g rb)),s.m⟩:=by
  unfold hstep;have e:(hop op rd ra rb).op=op:=rfl;rw[Ae LF,Ae LF,Ae LF,Ae LF];rfl
 rw[this]
theorem shr_bd(x y:Int)(x0:0≤x)(x1:x<4294967296)(y0:32≤y):x/2^y.toNat=0:=by
 apply Int.ediv_eq_zero_of_lt x0;have h:(2:Int)^32≤2^y.toNat:=by
  have:(2:Nat)^32≤2^y.toNat:=Nat.pow_le_pow_right Ak O
  exact_mod_cast this
 have:(2:Int)^32=4294967296:=Ak;omega
theorem Ul(op:Int)(rd a b:Nat)(rest:List HI)(s s':Hm)(x y:Int)(h0:16≤op)(h1:op≤25)(h24:op≠24)(hrd:rd≠12)(hx:s.g a=x)(hy:s.g b=y)(x0:0≤x)(x1:x<4294967296)(y0:0≤y)(y1:y<4294967296)(h:BU (It op rd a b++rest) s=I s'): ∃s1,BU rest s1=I s'∧s1.g rd=II op x y∧s1.m=s.m∧ ∀k,k≠rd→k≠12→s1.g k=s.g k:=by
 have hO:2≤Fi op∧Fi op≤13:=by unfold Fi;(repeat' split);all_goals omega
 unfold It at h;rw[DI,CW _ _ _ _ _ _ hO,hx,hy] at h;by_cases hd:op=18∨op=19∨op=20∨op=22
 ·rw[An hd,DH] at h;refine⟨_,h, ?_,rfl,λk hk _=>by simp[upZ,hk]⟩;simp only[upZ,if_true];rcases hd with rfl|rfl|rfl|rfl;·exact Uj x y x0 x1 y0 y1
  ·exact b64_or x y x0 x1 y0 y1
  ·exact Pu x y x0 x1 y0 y1
  ·show(if 64≤y then 0 else x/2^y.toNat)=Ja x y Ac;unfold Ja;by_cases q:64≤y;·rw[An q,An O]
   ·rw[Ae q];by_cases q2:32≤y;·rw[An q2,shr_bd x y x0 x1 q2]
    ·rw[Ae q2];rfl
 ·rw[Ae hd] at h;unfold lowC at h;rw[DI,DI,FU,CW _ _ _ _ _ _ Ak,DH] at h;refine⟨_,h, ?_,rfl,λk hk hk2=>by simp[upZ,hk,hk2]⟩;have hrd2: ¬rd=12:=hrd;have hrd3: ¬12=rd:=λe=>hrd e.symm;simp only[upZ,if_true,Ae hrd2];have hV:0≤Ck (Fi op) x y∧Ck (Fi op) x y<18446744073709551616∧Ck (Fi op) x y%4294967296=II op x y:=by
   have hc:op=16∨op=17∨op=21∨op=23∨op=25:=O;rcases hc with rfl|rfl|rfl|rfl|rfl;·show 0≤(x+y)%18446744073709551616∧(x+y)%18446744073709551616<18446744073709551616∧(x+y)%18446744073709551616%4294967296=(x+y)%4294967296;omega
   ·exact Um
   ·show 0≤(if 64≤y then 0 else x*2^y.toNat%18446744073709551616)∧(if 64≤y then 0 else x*2^y.toNat%18446744073709551616)<18446744073709551616∧(if 64≤y then 0 else x*2^y.toNat%18446744073709551616)%4294967296=Ja x y Ag;unfold Ja;by_cases q:64≤y;·rw[An q,An O];decide
    ·rw[Ae q];by_cases q2:32≤y
     ·rw[An q2];obtain⟨j,hj⟩: ∃j,y.toNat=32+j:=⟨y.toNat -32,O⟩;have e:x*2^y.toNat=(x*2^j)*4294967296:=by rw[hj,Int.pow_add];rw[show(2:Int)^32=4294967296 by decide];rw[Int.mul_comm 4294967296,←Int.mul_assoc]
      rw[e];omega
     ·rw[Ae q2];simp only[if_true];generalize x*2^y.toNat=z;omega
   ·show 0≤x*y%18446744073709551616∧x*y%18446744073709551616<18446744073709551616∧x*y%18446744073709551616%4294967296=x*y%4294967296;generalize x*y=z;omega
   ·exact Um
  show Bv .and AP _ 4294967295=_;rw[mask32 _ hV.1 hV.2.1];exact hV.2.2
theorem div31(r:Int)(h0:0≤r)(h1:r<4294967296):r/2147483648=if 2147483648≤r then 1 else 0:=by
 split<;>omega
theorem sign1(rest:List HI)(s s':Hm)(r f:Int)(hr:s.g 9=r)(r0:0≤r)(r1:r<4294967296)(h10:s.g 10=f)(hf:f=0∨f=1)(h:BU (IH 11 9++(Fj 11 1++rest)) s=I s'):∃s1,BU rest s1=I s'∧s1.g 10=f+(if 2147483648≤r then 2 else 0)∧s1.m=s.m∧ ∀k,k≠10→k≠11→k≠12→s1.g k=s.g k:=by
 simp only[IH,Fj,DI,DH,FU] at h;rw[CW _ _ _ _ _ _ Ak,FU,CW _ _ _ _ _ _ Ak,CW _ _ _ _ _ _ Ak] at h;refine⟨_,h, ?_,rfl,λk h1 h2 h3=>Px⟩;have e1:Ck 9 r 31=if 2147483648≤r then 1 else 0:=by
  show(if(64:Int)≤31 then 0 else r/2^(31:Int).toNat)=_;rw[Ae Ak,←div31 r r0 r1];rfl
 simp only[upZ,if_true,GA,if_false,hr,e1,h10];by_cases q:2147483648≤r;·rw[An q,An q];rcases hf with rfl|rfl<;>decide
 ·rw[Ae q,Ae q];rcases hf with rfl|rfl<;>decide
theorem bit2(rest:List HI)(s s':Hm)(t f:Int)(ht:s.g 11=t)(t0:t=0∨t=1)(h10:s.g 10=f)(hf:0≤f∧f<4)(h:BU (Fj 11 2++rest) s=I s'):∃s1,BU rest s1=I s'∧s1.g 10=f+t*4∧s1.m=s.m∧ ∀k,k≠10→k≠11→k≠12→s1.g k=s.g k:=by
 simp only[Fj,DI,DH,FU] at h;rw[CW _ _ _ _ _ _ Ak,CW _ _ _ _ _ _ Ak] at h;refine⟨_,h, ?_,rfl,λk h1 h2 h3=>Px⟩;simp only[upZ,if_true,GA,if_false,ht,h10];have hf':f=0∨f=1∨f=2∨f=3:=O;rcases hf' with rfl|rfl|rfl|rfl<;>rcases t0 with rfl|rfl<;>decide
theorem bit3(rest:List HI)(s s':Hm)(t f:Int)(ht:s.g 11=t)(t0:t=0∨t=1)(h10:s.g 10=f)(hf:0≤f∧f<8)(h:BU (Fj 11 3++rest) s=I s'):∃s1,BU rest s1=I s'∧s1.g 10=f+t*8∧s1.m=s.m∧ ∀k,k≠10→k≠11→k≠12→s1.g k=s.g k:=by
 simp only[Fj,DI,DH,FU] at h;rw[CW _ _ _ _ _ _ Ak,CW _ _ _ _ _ _ Ak] at h;refine⟨_,h, ?_,rfl,λk h1 h2 h3=>Px⟩;simp only[upZ,if_true,GA,if_false,ht,h10];have hf':f=0∨f=1∨f=2∨f=3∨f=4∨f=5∨f=6∨f=7:=O;rcases hf' with rfl|rfl|rfl|rfl|rfl|rfl|rfl|rfl<;>rcases t0 with rfl|rfl<;>decide
theorem Uo(rest:List HI)(s s':Hm)(x1 x2 y1 y2:Nat)(a b c d f:Int)(ha:s.g x1=a)(hb:s.g x2=b)(hc:s.g y1=c)(hd:s.g y2=d)(hy1:y1≠11)(hy2:y2≠11)(a0:0≤a∧a<4294967296)(b0:0≤b∧b<4294967296)(c0:0≤c∧c<4294967296)(d0:0≤d∧d<4294967296)(h10:s.g 10=f)(hf:0≤f∧f<8)(h:BU (Jg x1 x2 y1 y2++rest) s=I s'):∃s1,BU rest s1=I s'∧s1.g 10=f+(if topB (Bv .xor V a b) (Bv .xor V c d) then 8 else 0)∧s1.m=s.m∧ ∀k,k≠10→k≠11→k≠12→s1.g k=s.g k:=by
 have p1:=Pw a b a0.1 a0.2 b0.1 b0.2;have p2:=Pw c d c0.1 c0.2 d0.1 d0.2;have q1:=Pu a b a0.1 a0.2 b0.1 b0.2;have q2:=Pu c d c0.1 c0.2 d0.1 d0.2;unfold Jg at h;simp only[DI,DH,C9] at h;rw[CW _ _ _ _ _ _ Ak,CW _ _ _ _ _ _ Ak,CW _ _ _ _ _ _ Ak] at h;simp only[IH,DI,DH,FU] at h;rw[CW _ _ _ _ _ _ Ak] at h;have e7: ∀u v:Int,Ck 7 u v=Bv .xor AP u v:=λ_ _=>rfl;have e5: ∀u v:Int,Ck 5 u v=Bv .and AP u v:=λ_ _=>rfl;have e9: ∀u:Int,Ck 9 u 31=u/2147483648:=λu=>by
  show(if(64:Int)≤31 then 0 else u/2^(31:Int).toNat)=_;rw[Ae Ak];rfl
 have r1:=and_bd (Bv .xor V a b) (Bv .xor V c d) p1.1 p1.2 p2.1 p2.2;have r2:=Uj (Bv .xor V a b) (Bv .xor V c d) p1.1 p1.2 p2.1 p2.2;generalize hT:Bv .and V (Bv .xor V a b) (Bv .xor V c d)=Ji at*;obtain⟨s1,k1,k2,k3,k4⟩:=bit3 rest _ s' (if 2147483648≤Ji then 1 else 0) f (by
  simp only[upZ,if_true,GA,if_false,hy1,hy2,ha,hb,hc,hd,e7,e5,e9,q1,q2,r2];exact div31 Ji r1.1 r1.2) Kx (by simp only[upZ,GA,if_false];exact h10) hf h
 refine⟨s1,k1, ?_,k3,λk h1 h2 h3=>by rw[k4 k h1 h2 h3];simp[upZ,h1,h2,h3]⟩;rw[k2];unfold topB;rw[hT];by_cases q:2147483648≤Ji;·rw[An q];simp[q]
 ·rw[Ae q];simp[q]
theorem flagC_ok(op:Int)(a b:Nat)(rest:List HI)(s s':Hm)(x y:Int)(h0:16≤op)(h1:op≤25)(h24:op≠24)(ha:a<9)(hb:b<9)(hz:s.g 15=0)(hx:s.g a=x)(hy:s.g b=y)(x0:0≤x)(x1:x<4294967296)(y0:0≤y)(y1:y<4294967296)(h:BU (Ia op a b++rest) s=I s'): ∃s1,BU rest s1=I s'∧s1.g 10=Fb op x y∧s1.m=s.m∧ ∀k,k≠9→k≠10→k≠11→k≠12→s1.g k=s.g k:=by
 unfold Ia at h;rw[C9] at h;obtain⟨s1,h,v9,m1,k1⟩:=Ul op 9 a b _ s s' x y h0 h1 h24 Ak hx hy x0 x1 y0 y1 h;have rb:=Uk op x y x0 x1 y0 y1;have hB:aluB op y=Ag:=by simp[aluB];omega
 generalize hr:II op x y=r at*;rw[C9,IF,CW _ _ _ _ _ _ Ak] at h;have z1:s1.g 15=0:=by rw[k1 15 (by decide) (by decide)];exact hz
 rw[C9,C9] at h;obtain⟨s2,h,v2,m2,k2⟩:=sign1 _ _ s' r (if r=0 then 1 else 0) (by simp only[upZ,GA,if_false];exact v9) rb.1 rb.2 (by
  simp only[upZ,if_true,v9,z1];show(if r=0 then(1:Int) else 0)=_;rfl) Kx h
 have kk: ∀k,k≠9→k≠10→k≠11→k≠12→s2.g k=s.g k:=λk c1 c2 c3 c4=>by
  rw[k2 k c2 c3 c4];simp only[upZ,Ae c2];exact k1 k c1 c4
 have v2':s2.g 10=GS r:=v2;have v9':s2.g 9=r:=by rw[k2 9 (by decide) (by decide) (by decide)];simp only[upZ,GA,if_false];exact v9
 have hx2:s2.g a=x:=by rw[kk a (by omega) (by omega) (by omega) (by omega)];exact hx
 have hy2:s2.g b=y:=by rw[kk b (by omega) (by omega) (by omega) (by omega)];exact hy
 have hm2:s2.m=s.m:=by rw[m2];exact m1
 have hP:=Na r;by_cases e16:op=16
 ·rw[An e16] at h;rw[C9,IF,CW _ _ _ _ _ _ Ak,C9] at h;have hr':(x+y)%4294967296=r:=by rw[←hr,e16];rfl
  obtain⟨s3,h,v3,m3,k3⟩:=bit2 _ _ s' (if r<x then 1 else 0) (GS r) (by
   simp only[upZ,if_true,v9',hx2];rfl) Kx Up hP h
  have k3':=Uq;obtain⟨s4,h,v4,m4,k4⟩:=Uo rest s3 s' a 9 b 9 x r y r (GS r+(if r<x then 1 else 0)*4) Py Pz Ur Pz O O ⟨x0,x1⟩ rb ⟨y0,y1⟩ rb v3 (by split<;>omega) h
  refine⟨s4,h, ?_,by rw[m4,m3];exact hm2,λk c1 c2 c3 c4=>Ut⟩;rw[v4];unfold Fb;rw[hB,Ae (show ¬(Ag=Ac) by decide),An e16];unfold moreF;rw[hr'];congr 2;split<;>simp
 ·rw[Ae e16] at h;by_cases e17:op=17∨op=25
  ·rw[An e17] at h;rw[C9,IF,CW _ _ _ _ _ _ Ak,C9] at h;have hr':(x -y)%4294967296=r:=by
    rw[←hr];rcases e17 with rfl|rfl<;>rfl
   obtain⟨s3,h,v3,m3,k3⟩:=bit2 _ _ s' (if x<y then 1 else 0) (GS r) (by
    simp only[upZ,if_true,hx2,hy2];rfl) Kx Up hP h
   have k3':=Uq;obtain⟨s4,h,v4,m4,k4⟩:=Uo rest s3 s' a b a 9 x y x r (GS r+(if x<y then 1 else 0)*4) Py Ur Py Pz O O ⟨x0,x1⟩ ⟨y0,y1⟩ ⟨x0,x1⟩ rb v3 (by split<;>omega) h
   refine⟨s4,h, ?_,by rw[m4,m3];exact hm2,λk c1 c2 c3 c4=>Ut⟩;rw[v4];have eF:Fb op x y=Ku x y:=by
    unfold Fb;rw[hB,Ae (show ¬(Ag=Ac) by decide),Ae e16];rcases e17 with e|e;·rw[An e]
    ·rw[Ae O,An e]
   rw[eF];unfold Ku;rw[hr'];congr 2;split<;>simp
  ·rw[Ae e17,DH] at h;refine⟨s2,h, ?_,hm2,kk⟩;rw[v2'];unfold Fb;rw[hB,Ae (show ¬(Ag=Ac) by decide),Ae e16,Ae (λe=>e17 (Af e)),Ae (λe=>e17 (Ah e)),←hr];unfold II;rw[Ae (λe=>e17 (Ah e))]
end Tr
namespace Tr
open Gs
structure PO(p:Pg)(pl:Pl)(tt:Nat→Nat):Prop where
 form: ∀n,n<p.code.length→(0≤pl.reg n∧pl.reg n<7)∨(pl.reg n= -1∧0≤pl.slot n∧pl.slot n≤64)
 reg: ∀a b,a<b→b<p.code.length→b<tt a→0≤pl.reg b→pl.reg a≠pl.reg b
 slot: ∀a b,a<b→b<p.code.length→b<tt a→pl.reg a= -1→pl.reg b= -1→pl.slot a≠pl.slot b
 use: ∀i,i<p.code.length→3≤(at_ p.code i).op→i≤tt (at_ p.code i).a∧i≤tt (at_ p.code i).b
 od: ∀n∈p.od,p.code.length≤tt n
 or: ∀n∈p.or,p.code.length≤tt n
 fl:0≤p.fl→p.code.length≤tt p.fl.toNat
 tg:0≤p.tg→p.code.length≤tt p.tg.toNat
def Holds(pl:Pl)(s:Hm)(n:Nat)(v:Int):Prop:=if 0≤pl.reg n then s.g (pl.reg n).toNat=v else s.m (64+pl.slot n).toNat=v
def GH(s:St)(j:Nat):Int:=
 if j=0 then s.pc else if j=1 then s.fl else if j=2 then s.d.length else if j=3 then s.r.length else if j<20 then s.d.getD (j -4) 0 else if j<36 then s.r.getD (j -20) 0 else 0
theorem Ml{rd ra:Nat}{x:Int}{rest:List HI}{s s':Hm}(h:BU (hld rd ra x::rest) s=I s'):(s.g ra+x)%18446744073709551616<256∧BU rest ⟨upZ s.g rd (s.m ((s.g ra+x)%18446744073709551616).toNat),s.m⟩=I s':=by
 rw[BU] at h;have e:hstep (hld rd ra x) s=if 256≤(s.g ra+x)%18446744073709551616 then G else I ⟨upZ s.g rd (s.m ((s.g ra+x)%18446744073709551616).toNat),s.m⟩:=rfl;exact Xm
theorem KI{ra rb:Nat}{x:Int}{rest:List HI}{s s':Hm}(h:BU (hst ra x rb::rest) s=I s'):(s.g ra+x)%18446744073709551616<256∧BU rest ⟨s.g,upZ s.m ((s.g ra+x)%18446744073709551616).toNat (s.g rb%4294967296)⟩=I s':=by
 rw[BU] at h;have e:hstep (hst ra x rb) s=if 256≤(s.g ra+x)%18446744073709551616 then G else I ⟨s.g,upZ s.m ((s.g ra+x)%18446744073709551616).toNat (s.g rb%4294967296)⟩:=rfl;exact Xm
section
variable {p:Pg} {pl:Pl} {tt:Nat→Nat} {s:St} {rest:List HI} {σ σ':Hm}
theorem Holds.keep{n:Nat}{v:Int}(h:Holds pl σ n v)(hf:(0≤pl.reg n∧pl.reg n<7)∨(pl.reg n= -1∧0≤pl.slot n∧pl.slot n≤64))(hg: ∀k,k<7→σ'.g k=σ.g k)(hm: ∀k,64≤k→σ'.m k=σ.m k):Holds pl σ' n v:=by
 unfold Holds at h⊢;by_cases q:0≤pl.reg n;·rw[An q] at h⊢;rw[hg _ O];exact h
 ·rw[Ae q] at h⊢;rw[hm _ O];exact h
theorem JV{n into:Nat}{v:Int}(hf:(0≤pl.reg n∧pl.reg n<7)∨(pl.reg n= -1∧0≤pl.slot n∧pl.slot n≤64))(hz:σ.g 15=0)(hv:Holds pl σ n v)(h:BU (CO pl n into++rest) σ=I σ'):∃s1,BU rest s1=I σ'∧s1.g (BI pl n into)=v∧s1.m=σ.m∧(∀k,k≠into→s1.g k=σ.g k)∧(BI pl n into<7∨BI pl n into=into):=by
 unfold CO at h;unfold BI;unfold Holds at hv;by_cases q:0≤pl.reg n;·rw[An q] at h hv⊢;exact⟨σ,h,hv,rfl,λ_ _=>rfl,Af O⟩
 ·rw[Ae q] at h hv⊢;obtain⟨h1,h2⟩:=Ml h;refine⟨_,h2, ?_,rfl,λk hk=>by simp[upZ,hk],Ah rfl⟩;simp only[upZ,if_true,hz];rw[show((0:Int)+Ez pl n)%18446744073709551616=64+pl.slot n by unfold Ez;omega];exact hv
structure EI(p:Pg)(pl:Pl)(tt:Nat→Nat)(s:St)(k:Nat)(σ:Hm):Prop where
 z:σ.g 15=0
 d:σ.g 14=(s.d.length:Int) -p.nd
 r:σ.g 13=(s.r.length:Int) -p.nr
 m: ∀j,j<64→σ.m j=GH s j
 v: ∀n,n<k→k≤tt n→Holds pl σ n (val s p.code n)
theorem KJ(hw:WF p)(hs:s.Ok): ∀n,0≤val s p.code n∧val s p.code n<4294967296:=by
 intro n
 induction n using Nat.strongRecOn with
 |ind n ih=>
  by_cases hn:n<p.code.length
  ·have M:=hw.code n hn;rw[Pp s p.code n hn M.ab];unfold DW;by_cases c0:(at_ p.code n).op=0;·rw[An c0];have:=M.imm;omega
   rw[Ae c0];by_cases c1:(at_ p.code n).op=1
   ·rw[An c1,AS]
    cases e:s.d[s.d.length -1 -(at_ p.code n).imm.toNat]? with
    |none=>simp
    |some z=>have:=hs.d z (List.mem_of_getElem? e);simp only[Option.getD_some];omega
   rw[Ae c1];by_cases c2:(at_ p.code n).op=2
   ·rw[An c2,AS]
    cases e:s.r[s.r.length -1 -(at_ p.code n).imm.toNat]? with
    |none=>simp
    |some z=>have:=hs.r z (List.mem_of_getElem? e);simp only[Option.getD_some];omega
   rw[Ae c2];obtain⟨ha,hb⟩:=M.ab O;have va:=ih _ ha;have vb:=ih _ hb;unfold val at va vb;by_cases c3:(at_ p.code n).op=3;·rw[An c3];exact aluV_bd _ _ _ va.1 va.2 vb.1 vb.2
   ·rw[Ae c3];have:=Nb (at_ p.code n).imm ((evs s p.code).getD (at_ p.code n).a 0) ((evs s p.code).getD (at_ p.code n).b 0);omega
  ·have:val s p.code n=0:=by
    unfold val;rw[AS,Ew (by rw[Pb];omega)];rfl
   omega
theorem makeC_ok(hw:WF p)(hp:PO p pl tt)(hs:s.Ok)(hsd:s.d.length≤16)(hsr:s.r.length≤16)(hnd:p.nd≤s.d.length)(hnr:p.nr≤s.r.length){k:Nat}(hk:k<p.code.length)(E:EI p pl tt s k σ){rd:Nat}(hrd:rd<7∨rd=9)(h:BU (Kw p pl rd (at_ p.code k)++rest) σ=I σ'): ∃s1,BU rest s1=I σ'∧s1.g rd=val s p.code k∧s1.m=σ.m∧ ∀j,j≠rd→ ¬(7≤j∧j≤12)→s1.g j=σ.g j:=by
 have M:=hw.code k hk;have hv:=Pp s p.code k hk M.ab;rw[hv];have hop:(at_ p.code k).op=0∨(at_ p.code k).op=1∨(at_ p.code k).op=2∨(at_ p.code k).op=3∨(at_ p.code k).op=4:=by have:=M.op;omega
 unfold Kw at h;unfold DW;rcases hop with c|c|c|c|c;·rw[An c] at h⊢;rw[IF,FU] at h;exact⟨_,h,Mm,rfl,λj hj _=>by simp[upZ,hj]⟩
 ·rw[Ae O,An c] at h⊢;rw[IF] at h;obtain⟨h1,h2⟩:=Ml h;have hi:=M.arg c;refine⟨_,h2, ?_,rfl,λj hj _=>by simp[upZ,hj]⟩;have e:(σ.g 14+(4+(p.nd:Int) -1 -(at_ p.code k).imm))%18446744073709551616=((4+(s.d.length -1 -(at_ p.code k).imm.toNat):Nat):Int):=by rw[E.d];omega
  simp only[upZ,if_true];rw[e,Du,E.m _ O];exact Xn
 ·rw[Ae O,Ae O,An c] at h⊢;rw[IF] at h;obtain⟨h1,h2⟩:=Ml h;have hi:=M.ret c;refine⟨_,h2, ?_,rfl,λj hj _=>by simp[upZ,hj]⟩;have e:(σ.g 13+(20+(p.nr:Int) -1 -(at_ p.code k).imm))%18446744073709551616=((20+(s.r.length -1 -(at_ p.code k).imm.toNat):Nat):Int):=by rw[E.r];omega
  simp only[upZ,if_true];rw[e,Du,E.m _ O];exact Xo
 all_goals
  obtain⟨ha,hb⟩:=M.ab O;obtain⟨ua,ub⟩:=hp.use k hk O;have fa:=hp.form _ (Nat.lt_trans ha hk);have fb:=hp.form _ (Nat.lt_trans hb hk);have ba:=KJ hw hs (at_ p.code k).a;have bb:=KJ hw hs (at_ p.code k).b
 ·rw[Ae O,Ae O,Ae O,An c] at h⊢;rw[C9,C9] at h;obtain⟨s1,h1,g1,m1,k1,r1⟩:=JV fa E.z (E.v _ ha ua) h;have Hb:=Xp;obtain⟨s2,h2,g2,m2,k2,r2⟩:=JV fb ((k1 15 Ak).trans E.z) Hb h1;have g1':=Xq;have hi:=M.alu c;obtain⟨s3,h3,g3,m3,k3⟩:=Ul (at_ p.code k).imm rd _ _ rest s2 σ' _ _ hi.1 O O O g1' g2 ba.1 ba.2 bb.1 bb.2 h2;refine⟨s3,h3, ?_,by rw[m3,m2,m1],λj hj hj2=>by rw[k3 j hj (by omega),k2 j (by omega),k1 j (by omega)]⟩;rw[g3];unfold II;rw[Ae O];rfl
 ·rw[Ae O,Ae O,Ae O,Ae O] at h⊢;rw[C9,C9,C9] at h;obtain⟨s1,h1,g1,m1,k1,r1⟩:=JV fa E.z (E.v _ ha ua) h;have Hb:=Xp;obtain⟨s2,h2,g2,m2,k2,r2⟩:=JV fb ((k1 15 Ak).trans E.z) Hb h1;have g1':=Xq;have hi:=M.flg c;obtain⟨s3,h3,g3,m3,k3⟩:=flagC_ok (at_ p.code k).imm _ _ _ s2 σ' _ _ O O O O O (by rw[k2 15 (by decide),k1 15 (by decide)];exact E.z) g1' g2 ba.1 ba.2 bb.1 bb.2 h2;rw[IF,CW _ _ _ _ _ _ Ak] at h3;refine⟨_,h3, ?_,by rw[←m1,←m2,←m3],λj hj hj2=>?_⟩;·simp only[upZ,if_true];show s3.g 10=_;rw[g3];rfl
  ·simp only[upZ,Ae hj];rw[k3 j O O O O,k2 j O,k1 j O]
theorem oneC_ok(hw:WF p)(hp:PO p pl tt)(hs:s.Ok)(hsd:s.d.length≤16)(hsr:s.r.length≤16)(hnd:p.nd≤s.d.length)(hnr:p.nr≤s.r.length){k:Nat}(hk:k<p.code.length)(E:EI p pl tt s k σ)(h:BU (G8 p pl k (at_ p.code k)++rest) σ=I σ'): ∃s1,BU rest s1=I σ'∧EI p pl tt s (k+1) s1:=by
 unfold G8 at h;rw[C9] at h;have fk:=hp.form k hk;have hrd:BI pl k 9<7∨BI pl k 9=9:=by
  unfold BI;split;·left;omega
  ·right;rfl
 obtain⟨s1,h1,g1,m1,k1⟩:=makeC_ok hw hp hs hsd hsr hnd hnr hk E hrd h;have bk:=KJ hw hs k;unfold H7 at h1;by_cases q:0≤pl.reg k
 ·rw[Ae O,DH] at h1;have eR:BI pl k 9=(pl.reg k).toNat:=by unfold BI;rw[An q]
  rw[eR] at g1 k1;refine⟨s1,h1,Xr,by rw[k1 14 (by omega) (by omega)];exact E.d,by rw[k1 13 (by omega) (by omega)];exact E.r,λj hj=>by rw[m1];exact E.m j hj,λn hn ht=>?_⟩;by_cases en:n=k;·subst en;unfold Holds;rw[An q];exact g1
  ·have Hn:=E.v n O O;have fn:=hp.form n O;unfold Holds at Hn⊢;by_cases qn:0≤pl.reg n;·rw[An qn] at Hn⊢;have:=hp.reg n k O hk O q;rw[k1 _ O O];exact Hn
   ·rw[Ae qn] at Hn⊢;rw[m1];exact Hn
 ·rw[An O,IF] at h1;have eR:BI pl k 9=9:=by unfold BI;rw[Ae q]
  rw[eR] at g1 k1 h1;obtain⟨h2,h3⟩:=KI h1;have z1:s1.g 15=0:=Xr;have ep:(s1.g 15+Ez pl k)%18446744073709551616=64+pl.slot k:=by rw[z1];unfold Ez;omega
  rw[ep,g1,Int.emod_eq_of_lt bk.1 bk.2] at h3;refine⟨_,h3,z1,by show s1.g 14=_;rw[k1 14 (by omega) (by omega)];exact E.d,by show s1.g 13=_;rw[k1 13 (by omega) (by omega)];exact E.r,λj hj=>?_,λn hn ht=>?_⟩;·show upZ s1.m _ _ j=_;unfold upZ;rw[Ae O,m1];exact E.m j hj
  ·by_cases en:n=k;·subst en;unfold Holds;rw[Ae q];simp[upZ]
   ·have Hn:=E.v n O O;have fn:=hp.form n O;unfold Holds at Hn⊢;by_cases qn:0≤pl.reg n;·rw[An qn] at Hn⊢;show s1.g _=_;rw[k1 _ O O];exact Hn
    ·rw[Ae qn] at Hn⊢;have:=hp.slot n k O hk O O O;show upZ s1.m _ _ _=_;unfold upZ;rw[Ae O,m1];exact Hn
theorem Xs(hw:WF p)(hp:PO p pl tt)(hs:s.Ok)(hsd:s.d.length≤16)(hsr:s.r.length≤16)(hnd:p.nd≤s.d.length)(hnr:p.nr≤s.r.length): ∀(l:List IIn) (k:Nat) (σ:Hm),p.code.drop k=l→k≤p.code.length→EI p pl tt s k σ→
 BU (Dx p pl k l++rest) σ=I σ'→ ∃s1,BU rest s1=I σ'∧EI p pl tt s p.code.length s1
 |[],k,σ,e,hk,E,h=>by
  have:k=p.code.length:=by have:=List.drop_eq_nil_iff.1 e;omega
  subst this;exact⟨σ,h,E⟩
 |x::l,k,σ,e,hk,E,h=>by
  have hk2:k<p.code.length:=by
   rcases DG k p.code.length with q|q;·exact q
   ·rw[List.drop_eq_nil_iff.2 q] at e;cases e
  have e2:=List.drop_eq_getElem_cons hk2;rw[e] at e2;obtain⟨ex,el⟩:=List.cons.inj e2;have ex2:x=at_ p.code k:=by rw[ex,at_,AS,BK hk2];rfl
  rw[Dx,C9,ex2] at h;obtain⟨s1,h1,E1⟩:=oneC_ok hw hp hs hsd hsr hnd hnr hk2 E h;exact Xs hw hp hs hsd hsr hnd hnr l (k+1) s1 el.symm hk2 E1 h1
theorem Xt(hw:WF p)(hs:s.Ok)(base:Nat)(hb:base=13∨base=14)(bs:Int)(b0:0≤bs): ∀(l:List Nat) (k:Int) (σ:Hm),(∀n∈l,((0≤pl.reg n∧pl.reg n<7)∨(pl.reg n= -1∧0≤pl.slot n∧pl.slot n≤64))∧Holds pl σ n (val s p.code n))→
 σ.g 15=0→σ.g base=bs→0≤k→k+bs+l.length≤64→BU (Fk pl base k l++rest) σ=I σ'→
 ∃s1,BU rest s1=I σ'∧(∀j,j≠7→s1.g j=σ.g j)∧ ∀j:Nat,s1.m j=if k+bs≤j∧(j:Int)<k+bs+l.length then val s p.code (l.getD (j -(k+bs).toNat) 0) else σ.m j
 |[],k,σ,hv,hz,hg,k0,k1,h=>⟨σ,h,λ_ _=>rfl,λj=>by rw[Ae (by simp only[Gx];omega)]⟩
 |n::l,k,σ,hv,hz,hg,k0,k1,h=>by
  obtain⟨fn,Hn⟩:=hv n AC;rw[Fk,C9,DI] at h;obtain⟨s1,h1,g1,m1,kk,r1⟩:=JV fn hz Hn h;obtain⟨h2,h3⟩:=KI h1;have bn:=KJ hw hs n;simp only[D8] at k1;have ep:(s1.g base+k)%18446744073709551616=k+bs:=by rw[kk base (by omega),hg];omega
  rw[ep,g1,Int.emod_eq_of_lt bn.1 bn.2] at h3;obtain⟨s2,q1,q2,q3⟩:=Xt hw hs base hb bs b0 l (k+1) ⟨s1.g,upZ s1.m (k+bs).toNat (val s p.code n)⟩ (λm hm=>⟨(hv m (by simp[hm])).1,(hv m (by simp[hm])).2.keep (hv m (by simp[hm])).1 (λj hj=>kk j O) (λj hj=>by
   show upZ s1.m _ _ j=_;unfold upZ;rw[Ae O,m1])⟩) ((kk 15 Ak).trans hz) ((kk base O).trans hg) O O h3
  refine⟨s2,q1,λj hj=>by rw[q2 j hj];exact kk j hj,λj=>?_⟩;rw[q3 j];by_cases c:(j:Int)=k+bs;·rw[Ae O,An QJ];have:j -(k+bs).toNat=0:=O;rw[this];show upZ s1.m _ _ j=_;unfold upZ;rw[An O];rfl
  ·by_cases c2:k+bs≤j∧(j:Int)<k+bs+(l.length+1:Nat);·rw[An O,An QJ];have:j -(k+bs).toNat=(j -(k+1+bs).toNat)+1:=O;rw[this];rfl
   ·rw[Ae O,Ae QJ];show upZ s1.m _ _ j=_;unfold upZ;rw[Ae O,m1]
end
end Tr
namespace Tr
open Gs
def Str(l:List HI):Prop:= ∀i∈l,i.op≤15
theorem Str.nil:Str []:=λ_ h=>by simp at h
theorem Str.cons{i:HI}{l:List HI}(h:i.op≤15)(hl:Str l):Str (i::l):=λj hj=>by
 rcases Dv.1 hj with e|e;·rw[e];exact h
 ·exact hl j e
theorem Str.app{a b:List HI}(ha:Str a)(hb:Str b):Str (a++b):=λj hj=>by
 rcases Da.1 hj with e|e;·exact ha j e
 ·exact hb j e
theorem Ge(rd:Nat)(v:Int):(li rd v).op≤15:=by simp[li]
theorem QK(rd ra:Nat)(v:Int):(hld rd ra v).op≤15:=by simp[hld]
theorem KL(ra:Nat)(v:Int)(rb:Nat):(hst ra v rb).op≤15:=by simp[hst]
theorem Eb{op rd ra rb:Nat}(h:op≤15):(hop op rd ra rb).op≤15:=h
theorem JW(pl:Pl)(n into:Nat):Str (CO pl n into):=by
 unfold CO;split;·exact Str.nil
 ·exact QL
theorem mU(pl:Pl)(n r:Nat):Str (H7 pl n r):=by
 unfold H7;split;·exact Str.nil.cons (KL _ _ _)
 ·exact Str.nil
theorem Xu(op:Int)(rd a b:Nat):Str (It op rd a b):=by
 have hO:Fi op≤15:=by
  unfold Fi
  repeat' split
  all_goals omega
 unfold It;refine Str.cons (Eb hO) ?_;split;·exact Str.nil
 ·exact(Str.nil.cons (Eb Ak)).cons (Ge _ _)
theorem Xv(a b:Nat):Str (IH a b):=(Str.nil.cons (Eb Ak)).cons (Ge _ _)
theorem QM(a:Nat)(b:Int):Str (Fj a b):=((Str.nil.cons (Eb Ak)).cons (Eb Ak)).cons (Ge _ _)
theorem mV(a b c d:Nat):Str (Jg a b c d):=Str.app ((Str.nil.cons (Eb Ak)).cons (Eb Ak)) (Str.app (Str.nil.cons (Eb Ak)) (Str.app (Xv _ _) (QM _ _)))
theorem mW(op:Int)(a b:Nat):Str (Ia op a b):=by
 unfold Ia;refine Str.app (Xu _ _ _ _) (Str.app (Str.nil.cons (Eb Ak)) (Str.app (Xv _ _) (Str.app (QM _ _) ?_)));split;·exact Xw
 split;·exact Xw
 ·exact Str.nil
theorem str_oneC(p:Pg)(pl:Pl)(n:Nat)(x:IIn):Str (G8 p pl n x):=by
 unfold G8 Kw;refine Str.app ?_ (mU _ _ _);split;·exact Str.nil.cons (Ge _ _)
 split;·exact QL
 split;·exact QL
 split;·exact Str.app (JW _ _ _) (Str.app (JW _ _ _) (Xu _ _ _ _))
 ·exact Str.app (JW _ _ _) (Str.app (JW _ _ _) (Str.app (mW _ _ _) (Str.nil.cons (Eb Ak))))
theorem Xx(p:Pg)(pl:Pl): ∀(l:List IIn) (n:Nat),Str (Dx p pl n l)
 |[],n=>Str.nil
 |x::l,n=>Str.app (str_oneC p pl n x) (Xx p pl l (n+1))
theorem Xy(pl:Pl)(base:Nat): ∀(l:List Nat) (k:Int),Str (Fk pl base k l)
 |[],k=>Str.nil
 |n::l,k=>Str.app (JW _ _ _) ((Xy pl base l (k+1)).cons (KL _ _ _))
theorem Xz(pl:Pl)(base:Nat)(f w:Int)(l:List Nat):Str (DK pl base f w l):=
 Str.app (Xy _ _ _ _) (((Str.nil.cons (KL _ _ _)).cons (Eb Ak)).cons (Ge _ _))
theorem mX(p:Pg)(pl:Pl):Str (Cw p pl):=Str.app (Xx _ _ _ _) (Str.app (Xz _ _ _ _ _) (Xz _ _ _ _ _))
theorem str_flsC(p:Pg)(pl:Pl):Str (Cr p pl):=by
 unfold Cr;split;·exact(Str.app (JW _ _ _) ((Str.nil.cons (KL _ _ _)).cons (Eb Ak))).cons (Ge _ _)
 ·exact Str.nil
theorem str_tgC(p:Pg)(pl:Pl):Str (tgC p pl):=by
 unfold tgC;split;·exact Str.app (JW _ _ _) (Str.nil.cons (Eb Ak))
 ·exact Str.nil
variable{code:List HI}
theorem DD{m a b:Nat}{s:Hm}{r:Hr}(h:hrun code m ((a:Nat):Int) s=r)(e:a=b):hrun code m ((b:Nat):Int) s=r:=e▸h
variable{pre post:List HI}{n:Nat}{s':Hm}
theorem run_over{s:Hm}{op r:Nat}{tk:Int}(hop_:op=16∨op=17)(e:code=pre++⟨op,0,r,0,((pre.length+2:Nat):Int)⟩::li 9 tk::post)(h:hrun code n pre.length s=⟨1,1,s'⟩):∃m,hrun code m ((pre.length+2:Nat):Int) (if(s.g r=0)=(op=16) then s else⟨upZ s.g 9 tk,s.m⟩)=⟨1,1,s'⟩:=by
 obtain⟨a1,a2⟩:=Nr e
 cases n with
 |zero=>rw[hrun] at h;simp at h
 |succ n=>
  rw[hrun,Ae a2,a1] at h;simp only[] at h;have key: ∀m,hrun code m ((pre.length+1:Nat):Int) s=⟨1,1,s'⟩→ ∃m,hrun code m ((pre.length+2:Nat):Int) ⟨upZ s.g 9 tk,s.m⟩=⟨1,1,s'⟩:=by
   intro m hm;have e2:code=(pre++[⟨op,0,r,0,((pre.length+2:Nat):Int)⟩])++[li 9 tk]++post:=EV;obtain⟨s1,m',q1,q2⟩:=IG [li 9 tk] (pre++[⟨op,0,r,0,((pre.length+2:Nat):Int)⟩]) post m s s' e2 (Str.nil.cons (Ge _ _)) (DD hm AC);have:s1=⟨upZ s.g 9 tk,s.m⟩:=by
    have q1:I (⟨upZ s.g 9 tk,s.m⟩:Hm)=I s1:=q1;exact(GG q1).symm
   rw[this] at q2;exact⟨m',DD q2 AC⟩
  rcases hop_ with e16|e17
  ·subst e16;rw[An rfl] at h;by_cases q:s.g r=0;·rw[An q] at h;exact XA
   ·rw[Ae q] at h;exact XB
  ·subst e17;rw[Ae Ak,An rfl] at h;by_cases q:s.g r=0;·rw[An q] at h;exact XB
   ·rw[Ae q] at h;exact XA
theorem NT{s:Hm}{v:Int}(e:code=pre++⟨19,0,0,0,v⟩::post)(h:hrun code n pre.length s=⟨1,1,s'⟩):v=1∧s=s':=by
 obtain⟨a1,a2⟩:=Nr e
 cases n with
 |zero=>rw[hrun] at h;simp at h
 |succ n=>
  rw[hrun,Ae a2,a1] at h;simp only[] at h;rw[Ae Ak,Ae Ak,Ae Ak,An Ak] at h;injection h with h1 h2 h3;exact⟨h2,h3⟩
theorem QN{s:Hm}{base:Nat}{word need most E len:Int}(hb:base=13∨base=14)(e:code=pre++Dg base word need most E++post)(hE: ∀m s,hrun code m E s≠⟨1,1,s'⟩)(hz:s.g 15=0)(hw:0≤word∧word<256)(hl:s.m word.toNat=len)(l0:0≤len∧len≤16)(n0:0≤need∧need≤16)(h:hrun code n pre.length s=⟨1,1,s'⟩):need≤len∧len≤most∧ ∃s1 m,hrun code m ((pre.length+8:Nat):Int) s1=⟨1,1,s'⟩∧s1.m=s.m∧s1.g base=len -need∧ ∀k,k≠base→k≠11→k≠12→s1.g k=s.g k:=by
 have e1:code=pre++[hld base 15 word,li 11 need,hop 12 12 base 11]++(⟨17,0,12,0,E⟩::[li 12 most,hop 12 12 12 base,⟨17,0,12,0,E⟩,hop 4 base base 11]++post):=by rw[e];simp[Dg]
 obtain⟨s1,m1,q1,q2⟩:=IG _ pre _ n s s' e1 (((Str.nil.cons (Eb Ak)).cons (Ge _ _)).cons (QK _ _ _)) h;obtain⟨h1,h2⟩:=Ml q1;have ep:(s.g 15+word)%18446744073709551616=word:=by rw[hz];omega
 rw[ep,hl,FU,CW _ _ _ _ _ _ Ak] at h2;have h2:=(GG h2).symm;have e2:code=(pre++[hld base 15 word,li 11 need,hop 12 12 base 11])++⟨17,0,12,0,E⟩::([li 12 most,hop 12 12 12 base,⟨17,0,12,0,E⟩,hop 4 base base 11]++post):=NU;obtain⟨z1,m2,q3⟩:=Ui e2 hE (DD q2 AC);have g1:s1.g 12=if len<need then 1 else 0:=by
  rw[h2];have: ¬base=11:=O;simp only[upZ,if_true,Ae this];rfl
 have c1:need≤len:=by
  rcases Int.lt_or_le len need with q|q;·rw[g1,An q] at z1;cases z1
  ·exact q
 have e3:code=(pre++[hld base 15 word,li 11 need,hop 12 12 base 11,⟨17,0,12,0,E⟩])++[li 12 most,hop 12 12 12 base]++(⟨17,0,12,0,E⟩::([hop 4 base base 11]++post)):=NU;obtain⟨s2,m3,q4,q5⟩:=IG _ _ _ m2 s1 s' e3 ((Str.nil.cons (Eb Ak)).cons (Ge _ _)) (DD q3 AC);rw[FU,CW _ _ _ _ _ _ Ak] at q4;have h4:=(GG q4).symm;have e4:code=(pre++[hld base 15 word,li 11 need,hop 12 12 base 11,⟨17,0,12,0,E⟩,li 12 most,hop 12 12 12 base])++⟨17,0,12,0,E⟩::([hop 4 base base 11]++post):=NU;obtain⟨z2,m4,q6⟩:=Ui e4 hE (DD q5 AC);have gb1:s1.g base=len:=by
  rw[h2];have t1: ¬base=11:=O;have t2: ¬base=12:=O;simp only[upZ,if_true,Ae t1,Ae t2]
 have g2:s2.g 12=if most<len then 1 else 0:=by
  rw[h4];have t2: ¬base=12:=O;simp only[upZ,if_true,Ae t2,gb1];rfl
 have c2:len≤most:=by
  rcases Int.lt_or_le most len with q|q;·rw[g2,An q] at z2;cases z2
  ·exact q
 have e5:code=(pre++[hld base 15 word,li 11 need,hop 12 12 base 11,⟨17,0,12,0,E⟩,li 12 most,hop 12 12 12 base,⟨17,0,12,0,E⟩])++[hop 4 base base 11]++post:=NU;obtain⟨s3,m5,q7,q8⟩:=IG _ _ _ m4 s2 s' e5 (Str.nil.cons (Eb Ak)) (DD q6 AC);rw[CW _ _ _ _ _ _ Ak] at q7;have h5:=(GG q7).symm;have t1: ¬base=11:=O;have t2: ¬base=12:=O;have t3: ¬11=base:=O;refine⟨c1,c2,s3,m5,DD q8 AC,by rw[h5,h4,h2], ?_,λk k1 k2 k3=>?_⟩;·rw[h5];simp only[upZ,if_true];rw[h4];simp only[upZ,Ae t2];rw[gb1,h2];simp only[upZ,if_true,Ae t3,GA,if_false];show(len -need)%18446744073709551616=_;omega
 ·rw[h5];simp only[upZ,Ae k1];rw[h4];simp only[upZ,Ae k3];rw[h2];simp only[upZ,Ae k1,Ae k2,Ae k3]
variable{p:Pg}{pl:Pl}{rest:List HI}{σ σ':Hm}
theorem XC{s:St}(hw:WF p)(hs:s.Ok)(base:Nat)(hb:base=13∨base=14)(bs:Int)(b0:0≤bs)(l:List Nat)(k word:Int)(hv: ∀n∈l,((0≤pl.reg n∧pl.reg n<7)∨(pl.reg n= -1∧0≤pl.slot n∧pl.slot n≤64))∧Holds pl σ n (val s p.code n))(hz:σ.g 15=0)(hg:σ.g base=bs)(k0:4≤k)(k1:k+bs+l.length≤64)(hwd:word=2∨word=3)(h:BU (DK pl base k word l++rest) σ=I σ'):∃s1,BU rest s1=I σ'∧(∀j,j≠7→j≠11→s1.g j=σ.g j)∧ ∀j:Nat,s1.m j=if(j:Int)=word then bs+l.length else if k+bs≤j∧(j:Int)<k+bs+l.length then val s p.code (l.getD (j -(k+bs).toNat) 0) else σ.m j:=by
 unfold DK at h;rw[C9] at h;obtain⟨s1,h1,g1,m1⟩:=Xt hw hs base hb bs b0 l k σ hv hz hg O k1 h;simp only[DI,DH] at h1;rw[FU,CW _ _ _ _ _ _ Ak] at h1;obtain⟨h2,h3⟩:=KI h1;have gb:s1.g base=bs:=by rw[g1 base (by omega)];exact hg
 have gz:s1.g 15=0:=by rw[g1 15 (by decide)];exact hz
 have t1: ¬base=11:=O;simp only[upZ,if_true,Ae t1,gb,gz,GA,if_false] at h3;have ep:(0+word)%18446744073709551616=word:=O;have ev:Ck 3 (l.length:Int) bs=(l.length:Int)+bs:=by
  show((l.length:Int)+bs)%18446744073709551616=_;omega
 rw[ep,ev] at h3;refine⟨_,h3,λj j1 j2=>?_,λj=>?_⟩;·simp only[upZ,Ae j2];exact g1 j j1
 ·show upZ s1.m word.toNat _ j=_;unfold upZ;by_cases q:(j:Int)=word;·rw[An O,An q];omega
  ·rw[Ae O,Ae q];exact m1 j
theorem mY(p:Pg)(pl:Pl)(E E':Int):(BO p pl E).length=(BO p pl E').length:=by
 unfold BO;split;·rfl
 split;·simp[Dg]
 ·simp[DX,Dg]
theorem flag_bit(fl:Int)(h0:0≤fl)(h1:fl<16)(br:Int)(hb:33≤br∧br≤37):(Bv .and AP fl (EA br)=0)=((if br=34 then 17 else 16:Nat)=16)↔ ¬Gp br fl=Ag:=by
 obtain⟨a,rfl⟩:=Eh h0;have h:a=0∨a=1∨a=2∨a=3∨a=4∨a=5∨a=6∨a=7∨a=8∨a=9∨a=10∨a=11∨a=12∨a=13∨a=14∨a=15:=O;have hb':br=33∨br=34∨br=35∨br=36∨br=37:=O;rcases hb' with rfl|rfl|rfl|rfl|rfl<;>rcases h with rfl|rfl|rfl|rfl|rfl|rfl|rfl|rfl|rfl|rfl|rfl|rfl|rfl|rfl|rfl|rfl<;>decide
theorem and_15(v:Int)(h0:0≤v)(h1:v<4294967296):Bv .and AP 15 v=v%16:=by
 obtain⟨a,rfl⟩:=Eh h0;have:=u64_and_nat 15 a O O;have e:((15:Nat):Int)=15:=rfl;rw[e] at this;rw[this,Nat.and_comm,show(15:Nat)=2^4 -1 by rfl,Nat.and_two_pow_sub_one_eq_mod];omega
structure FM(t:St)(ct:Int)(σ:Hm):Prop where
 pc:σ.m 0=t.pc
 fl:σ.m 1=t.fl
 dn:σ.m 2=t.d.length
 rn:σ.m 3=t.r.length
 d: ∀j,j<t.d.length→σ.m (4+j)=t.d.getD j 0
 r: ∀j,j<t.r.length→σ.m (20+j)=t.r.getD j 0
 ct:σ.m 36=ct
theorem flsC_ok{s:St}(hw:WF p)(hs:s.Ok)(hf:0≤p.fl→((0≤pl.reg p.fl.toNat∧pl.reg p.fl.toNat<7)∨(pl.reg p.fl.toNat= -1∧0≤pl.slot p.fl.toNat∧pl.slot p.fl.toNat≤64))∧Holds pl σ p.fl.toNat (val s p.code p.fl.toNat))(hz:σ.g 15=0)(h1:σ.m 1=s.fl)(h:BU (Cr p pl++rest) σ=I σ'):∃s1,BU rest s1=I σ'∧(∀j,j≠7→j≠11→s1.g j=σ.g j)∧s1.m 1=(if p.fl= -1 then s.fl else vat (evs s p.code) p.fl%16)∧ ∀j,j≠1→s1.m j=σ.m j:=by
 unfold Cr at h;by_cases q:0≤p.fl
 ·obtain⟨f1,f2⟩:=hf q;rw[An q] at h;simp only[DI,DH,C9] at h;rw[FU] at h;have H1:Holds pl ⟨upZ σ.g 11 15,σ.m⟩ p.fl.toNat (val s p.code p.fl.toNat):=f2.keep f1 (λk hk=>by show upZ _ _ _ k=_;unfold upZ;rw[Ae (by omega)]) (λ_ _=>rfl);obtain⟨s1,h2,g1,m1,k1,r1⟩:=JV (σ:=⟨upZ σ.g 11 15,σ.m⟩) f1 (show upZ σ.g 11 15 15=0 from by unfold upZ;rw[Ae (by decide)];exact hz) H1 h;rw[CW _ _ _ _ _ _ Ak] at h2;obtain⟨h3,h4⟩:=KI h2;have z1:s1.g 15=0:=by rw[k1 15 (by decide)];show upZ σ.g 11 15 15=0;unfold upZ;rw[Ae (by decide)];exact hz
  have g11:s1.g 11=15:=by rw[k1 11 (by decide)];show upZ σ.g 11 15 11=15;simp[upZ]
  have bn:=KJ hw hs p.fl.toNat;have ev:Ck 5 15 (val s p.code p.fl.toNat)=val s p.code p.fl.toNat%16:=and_15 _ bn.1 bn.2;simp only[upZ,if_true,GA,if_false,z1,g11,g1,ev] at h4;refine⟨_,h4,λj j1 j2=>?_, ?_,λj j1=>?_⟩;·simp only[upZ,Ae j2];rw[k1 j j1];show upZ σ.g 11 15 j=_;unfold upZ;rw[Ae j2]
  ·rw[Ae O];show upZ s1.m ((0+1)%18446744073709551616:Int).toNat (val s p.code p.fl.toNat%16%4294967296) 1=_;unfold upZ;rw[An Ak];show(val s p.code p.fl.toNat%16)%4294967296=val s p.code p.fl.toNat%16;omega
  ·show upZ s1.m ((0+1)%18446744073709551616:Int).toNat (val s p.code p.fl.toNat%16%4294967296) j=_;unfold upZ;rw[Ae (by show ¬j=1;exact j1),m1]
 ·rw[Ae q,DH] at h;have:p.fl= -1:=by have:=hw.fl;omega
  exact⟨σ,h,λ_ _ _=>rfl,by rw[An this];exact h1,λ_ _=>rfl⟩
theorem tgC_ok{s:St}{x:Int}(hw:WF p)(hs:s.Ok)(hf:0≤p.tg→((0≤pl.reg p.tg.toNat∧pl.reg p.tg.toNat<7)∨(pl.reg p.tg.toNat= -1∧0≤pl.slot p.tg.toNat∧pl.slot p.tg.toNat≤64))∧Holds pl σ p.tg.toNat (val s p.code p.tg.toNat))(hz:σ.g 15=0)(h1:σ.g 9=x)(h:BU (tgC p pl++rest) σ=I σ'):∃s1,BU rest s1=I σ'∧s1.g 15=0∧s1.g 9=(if p.tg≠ -1 then vat (evs s p.code) p.tg else x)∧s1.m=σ.m:=by
 unfold tgC at h;by_cases q:0≤p.tg
 ·obtain⟨f1,f2⟩:=hf q;rw[An q] at h;simp only[DI,DH,C9] at h;obtain⟨s1,h2,g1,m1,k1,r1⟩:=JV f1 hz f2 h;rw[CW _ _ _ _ _ _ Ak] at h2;refine⟨_,h2, ?_, ?_,m1⟩;·show upZ s1.g 9 (Ck 2 (s1.g (BI pl p.tg.toNat 7)) (s1.g 0)) 15=_;unfold upZ;rw[Ae Ak,k1 15 Ak];exact hz
  ·rw[An O];show upZ s1.g 9 (Ck 2 (s1.g (BI pl p.tg.toNat 7)) (s1.g 0)) 9=_;unfold upZ;rw[An rfl];show s1.g _=_;rw[g1];rfl
 ·rw[Ae q,DH] at h;have:p.tg= -1:=NV;exact⟨σ,h,hz,by rw[Ae (by simp[this])];exact h1,rfl⟩
end Tr
namespace Tr
open Gs
theorem XD(D:List Int)(k:Nat)(hk:k≤D.length)(l:List Nat)(f:Nat→Int)(j:Nat)(hj:j<k+l.length):(D.take k++l.map f).getD j 0=if j<k then D.getD j 0 else f (l.getD (j -k) 0):=by
 have hl:(D.take k).length=k:=AA;by_cases c:j<k;·rw[An c,AS,Ff O,Dq c,AS]
 ·rw[Ae c,AS,Ex O,hl,DP,AS,BK O];rfl
theorem vals_ok{p:Pg}{pl:Pl}{tt:Nat→Nat}{s:St}{σ s4:Hm}(hw:WF p)(hp:PO p pl tt)(hs:s.Ok)(hsd:s.d.length≤16)(hsr:s.r.length≤16)(hnd:p.nd≤s.d.length)(hnr:p.nr≤s.r.length)
 (hmd:(s.d.length:Int) -p.nd+p.od.length≤16) (hmr:(s.r.length:Int) -p.nr+p.or.length≤16) (z:σ.g 15=0) (d:σ.g 14=(s.d.length:Int) -p.nd) (r:σ.g 13=(s.r.length:Int) -p.nr) (m: ∀j,j<64→σ.m j=GH s j)
 (h:BU (Cw p pl++(Cr p pl++[li 9 p.nx])) σ=I s4):
 s4.g 15=0∧s4.g 9=p.nx∧(0≤p.tg→Holds pl s4 p.tg.toNat (val s p.code p.tg.toNat))∧s4.m 1=(left p s (evs s p.code)).fl∧s4.m 2=(left p s (evs s p.code)).d.length∧s4.m 3=(left p s (evs s p.code)).r.length∧
  (∀j,j<(left p s (evs s p.code)).d.length→s4.m (4+j)=(left p s (evs s p.code)).d.getD j 0)∧(∀j,j<(left p s (evs s p.code)).r.length→s4.m (20+j)=(left p s (evs s p.code)).r.getD j 0):=by
 unfold Cw at h
 rw[C9,C9] at h
 have E0:EI p pl tt s 0 σ:=⟨z,d,r,m,λn hn=>absurd hn O⟩
 obtain⟨s1,h1,E1⟩:=Xs hw hp hs hsd hsr hnd hnr p.code 0 σ rfl (Bj _) E0 h
 have hv1: ∀n,n<p.code.length→p.code.length≤tt n→((0≤pl.reg n∧pl.reg n<7)∨(pl.reg n= -1∧0≤pl.slot n∧pl.slot n≤64))∧Holds pl s1 n (val s p.code n):=λn hn ht=>⟨hp.form n hn,E1.v n hn ht⟩
 obtain⟨s2,h2,g2,m2⟩:=XC hw hs 14 (Ah rfl) ((s.d.length:Int) -p.nd) O p.od 4 2 (λn hn=>hv1 n (hw.od n hn) (hp.od n hn)) E1.z E1.d O O (Af rfl) h1
 have hv2: ∀n,n<p.code.length→p.code.length≤tt n→((0≤pl.reg n∧pl.reg n<7)∨(pl.reg n= -1∧0≤pl.slot n∧pl.slot n≤64))∧Holds pl s2 n (val s p.code n):=λn hn ht=>
  ⟨hp.form n hn,(hv1 n hn ht).2.keep (hp.form n hn) (λk hk=>g2 k O O) (λk hk=>by rw[m2 k,Ae (by omega),Ae (by omega)])⟩
 obtain⟨s3,h3,g3,m3⟩:=XC hw hs 13 (Af rfl) ((s.r.length:Int) -p.nr) O p.or 20 3 (λn hn=>hv2 n (hw.or n hn) (hp.or n hn)) ((g2 15 Ak Ak).trans E1.z) ((g2 13 Ak Ak).trans E1.r) O O (Ah rfl) h2
 have hv3: ∀n,n<p.code.length→p.code.length≤tt n→((0≤pl.reg n∧pl.reg n<7)∨(pl.reg n= -1∧0≤pl.slot n∧pl.slot n≤64))∧Holds pl s3 n (val s p.code n):=λn hn ht=>
  ⟨hp.form n hn,(hv2 n hn ht).2.keep (hp.form n hn) (λk hk=>g3 k O O) (λk hk=>by rw[m3 k,Ae (by omega),Ae (by omega)])⟩
 have hz3:s3.g 15=0:=by rw[g3 15 (by decide) (by decide),g2 15 (by decide) (by decide)];exact E1.z
 have hm1:s3.m 1=s.fl:=by
  rw[m3 1,Ae Ak,Ae O,m2 1,Ae Ak,Ae O,E1.m 1 Ak];rfl
 obtain⟨s5,h5,g5,f5,m5⟩:=flsC_ok hw hs (λq=>hv3 p.fl.toNat (by have:=hw.fl;omega) (hp.fl q)) hz3 hm1 h3
 have h6:I (⟨upZ s5.g 9 p.nx,s5.m⟩:Hm)=I s4:=h5
 have h6:=(GG h6).symm
 have ld:=XE
 have lr:=XF
 refine⟨?_, ?_,λq=>?_, ?_, ?_, ?_,λj hj=>?_,λj hj=>?_⟩
 ·rw[h6];show upZ s5.g 9 p.nx 15=0;unfold upZ;rw[Ae Ak,g5 15 Ak Ak];exact hz3
 ·rw[h6];show upZ s5.g 9 p.nx 9=_;simp[upZ]
 ·have:=hv3 p.tg.toNat NV (hp.tg q);refine this.2.keep this.1 (λk hk=>?_) (λk hk=>?_);·rw[h6];show upZ s5.g 9 p.nx k=_;unfold upZ;rw[Ae O];exact g5 k O O
  ·rw[h6];exact m5 k O
 ·rw[h6];exact f5
 ·rw[h6,ld];show s5.m 2=_;rw[m5 2 Ak,m3 2,Ae Ak,Ae O,m2 2,An Ak];omega
 ·rw[h6,lr];show s5.m 3=_;rw[m5 3 Ak,m3 3,An Ak];omega
 ·rw[h6];show s5.m (4+j)=_;rw[ld] at hj;have eg:(left p s (evs s p.code)).d.getD j 0=if j<s.d.length -p.nd then s.d.getD j 0 else val s p.code (p.od.getD (j -(s.d.length -p.nd)) 0):=XD s.d (s.d.length -p.nd) O p.od (λn=>(evs s p.code).getD n 0) j hj;rw[eg,m5 _ O,m3 _,Ae O,Ae O,m2 _,Ae O];by_cases c:j<s.d.length -p.nd;·rw[Ae O,An c,E1.m _ O];exact Xn
  ·exact XG
 ·rw[h6];show s5.m (20+j)=_;rw[lr] at hj;have eg:(left p s (evs s p.code)).r.getD j 0=if j<s.r.length -p.nr then s.r.getD j 0 else val s p.code (p.or.getD (j -(s.r.length -p.nr)) 0):=XD s.r (s.r.length -p.nr) O p.or (λn=>(evs s p.code).getD n 0) j hj;rw[eg,m5 _ O,m3 _,Ae O];by_cases c:j<s.r.length -p.nr;·rw[Ae O,An c,m2 _,Ae O,Ae O,E1.m _ O];exact Xo
  ·exact XG
theorem emit_ok{p:Pg}{pl:Pl}{tt:Nat→Nat}{s:St}{σ σ':Hm}{n:Nat}(hw:WF p)(hp:PO p pl tt)(hs:s.Ok)(hr:s.right=Ag)(hg: ∀k,σ.g k=0)(hm: ∀j,j<64→σ.m j=GH s j)(h:hrun (codeC p pl) n 0 σ=⟨1,1,σ'⟩):Fits p s∧FM (left p s (evs s p.code)) p.ct σ':=by
 have hr':s.d.length≤16∧s.r.length≤16∧s.fl≤15:=by simpa[St.right,and_assoc] using hr
 obtain⟨hsd,hsr,hfl⟩:=hr';have hfl0:=hs.fl;generalize hE0:(BO p pl 0).length=L at*;have hL:(BO p pl (L:Int)).length=L:=(mY p pl _ 0).trans hE0;have hC:codeC p pl=BO p pl (L:Int)++[⟨19,0,0,0,2⟩]:=by unfold codeC;rw[hE0]
 generalize hcode:codeC p pl=code at*;have hE: ∀m s,hrun code m (L:Int) s≠⟨1,1,σ'⟩:=λm s hh=>by
  rw[←hL] at hh;have e:code=BO p pl (L:Int)++⟨19,0,0,0,2⟩::[]:=hC;rw[hL] at hh;have:=(NT e (DD hh hL.symm)).1
  cases this
 have hli:Str [li 15 0]:=Str.nil.cons (Ge _ _);have g0:σ.m 2=s.d.length:=by rw[hm 2 (by decide)];rfl
 have g1:σ.m 3=s.r.length:=by rw[hm 3 (by decide)];rfl
 have w1:=hw.nd;have w2:=hw.nr;have fin: ∀post,code=[]++[li 15 0]++post→ ∃m,hrun code m ((1:Nat):Int) ⟨upZ σ.g 15 0,σ.m⟩=⟨1,1,σ'⟩:=by
  intro post e;obtain⟨s1,m1,q1,q2⟩:=IG [li 15 0] [] post n σ σ' e hli h;have:s1=⟨upZ σ.g 15 0,σ.m⟩:=by
   have q1:I (⟨upZ σ.g 15 0,σ.m⟩:Hm)=I s1:=q1;exact(GG q1).symm
  rw[this] at q2;exact⟨m1,DD q2 AC⟩
 have hz1:upZ σ.g 15 0 15=0:=Mm;by_cases c1:Cu p.hd p.nd p.od.length<p.nd
 ·exfalso;have e:BO p pl (L:Int)=[li 15 0]:=by unfold BO;rw[An c1]
  rw[e] at hC;obtain⟨m,hm1⟩:=fin [⟨19,0,0,0,2⟩] hC;have e2:code=[li 15 0]++⟨19,0,0,0,2⟩::[]:=hC;have:=(NT e2 (DD hm1 AC)).1
  cases this
 by_cases c2:Cu p.hr p.nr p.or.length<p.nr
 ·exfalso;have e:BO p pl (L:Int)=li 15 0::Dg 14 2 p.nd (Cu p.hd p.nd p.od.length) (L:Int):=by unfold BO;rw[Ae c1,An c2]
  rw[e] at hC;obtain⟨m,hm1⟩:=fin (Dg 14 2 p.nd (Cu p.hd p.nd p.od.length) (L:Int)++[⟨19,0,0,0,2⟩]) (by rw[hC];rfl);obtain⟨_,_,s1,m2,q,_⟩:=QN (pre:=[li 15 0]) (post:=[⟨19,0,0,0,2⟩]) (Ah rfl) (by rw[hC];rfl) hE hz1 Ak g0 O O (DD hm1 AC);have e2:code=(li 15 0::Dg 14 2 p.nd (Cu p.hd p.nd p.od.length) (L:Int))++⟨19,0,0,0,2⟩::[]:=hC;have:=(NT e2 (DD q NW)).1
  cases this
 have e:BO p pl (L:Int)=li 15 0::(DX p (L:Int)++(Cw p pl++FL p pl (17+(Cw p pl).length))):=by unfold BO;rw[Ae c1,Ae c2]
 rw[e] at hC;unfold DX at hC;generalize hA:Dg 14 2 p.nd (Cu p.hd p.nd p.od.length) (L:Int)=A at*;generalize hB:Dg 13 3 p.nr (Cu p.hr p.nr p.or.length) (L:Int)=B at*;have lA:A.length=8:=by rw[←hA];rfl
 have lB:B.length=8:=by rw[←hB];rfl
 generalize hT:FL p pl (17+(Cw p pl).length)=Ji at*;obtain⟨m,hm1⟩:=fin (A++(B++(Cw p pl++Ji))++[⟨19,0,0,0,2⟩]) (by rw[hC];simp);obtain⟨a1,a2,s1,m2,q1,q2,q3,q4⟩:=QN (pre:=[li 15 0]) (post:=B++(Cw p pl++Ji)++[⟨19,0,0,0,2⟩]) (Ah rfl) (by rw[hC,hA];simp) hE hz1 Ak g0 O O (DD hm1 AC);have q2:s1.m=σ.m:=q2;have zs1:s1.g 15=0:=by rw[q4 15 (by decide) (by decide) (by decide)];exact hz1
 obtain⟨b1,b2,s2,m3,p1,p2,p3,p4⟩:=QN (pre:=[li 15 0]++A) (post:=Cw p pl++Ji++[⟨19,0,0,0,2⟩]) (word:=3) (len:=s.r.length) (Af rfl) (by rw[hC,hB];simp) hE zs1 Ak (show s1.m 3=_ from by rw[q2];exact g1) O O (DD q1 (by simp[lA]));have zs2:s2.g 15=0:=by rw[p4 15 (by decide) (by decide) (by decide)];exact zs1
 have ds2:s2.g 14=(s.d.length:Int) -p.nd:=by rw[p4 14 (by decide) (by decide) (by decide)];exact q3
 unfold Cu at a2 b2 c1 c2;have hmn: ∀a b c:Int,a≤min b c→a≤b∧a≤c:=λa b c hh=>O;obtain⟨a3,a4⟩:=hmn _ _ _ a2;obtain⟨b3,b4⟩:=hmn _ _ _ b2;refine⟨⟨O,O,O,O⟩, ?_⟩;have eT:Ji=Cr p pl++(li 9 p.nx::(brC p ((17+(Cw p pl).length+(Cr p pl).length+6:Nat):Int)++(tgC p pl++Jh p))):=by rw[←hT];rfl
 have hC2:code=([li 15 0]++A++B)++(Cw p pl++(Cr p pl++[li 9 p.nx]))++(brC p ((17+(Cw p pl).length+(Cr p pl).length+6:Nat):Int)++(tgC p pl++Jh p)++[⟨19,0,0,0,2⟩]):=by rw[hC,eT];simp
 obtain⟨s4,m4,r1,r2⟩:=IG _ _ _ m3 s2 σ' hC2 (Str.app (mX _ _) (Str.app (str_flsC _ _) (Str.nil.cons (Ge _ _)))) (DD p1 (by simp[lA,lB]));obtain⟨v1,v2,v3,v4,v5,v6,v7,v8⟩:=vals_ok hw hp hs hsd hsr O O O O zs2 ds2 p3 (λj hj=>by rw[p2,q2];exact hm j hj) r1;have hflb:0≤(left p s (evs s p.code)).fl∧(left p s (evs s p.code)).fl<16:=by
  unfold left;simp only[];split<;>omega
 generalize hcut:([li 15 0]++A++B)++(Cw p pl++(Cr p pl++[li 9 p.nx]))=pre4 at*;have lpre:pre4.length=18+(Cw p pl).length+(Cr p pl).length:=by rw[←hcut];simp[lA,lB];omega
 obtain⟨pre5,s5,m5,hC5,t1,t2,t3,t4,t5⟩: ∃pre5 s5 m5,code=pre5++((tgC p pl++Jh p)++[⟨19,0,0,0,2⟩])∧hrun code m5 ((pre5.length:Nat):Int) s5=⟨1,1,σ'⟩∧s5.m=s4.m∧s5.g 15=0∧(∀k,k<7→s5.g k=s4.g k)∧
  s5.g 9=if p.br≠0∧Gp p.br (left p s (evs s p.code)).fl=Ag then p.tk else p.nx:=by
  by_cases hb:p.br=0
  ·have eb:brC p ((17+(Cw p pl).length+(Cr p pl).length+6:Nat):Int)=[]:=by unfold brC;rw[An hb]
   rw[eb] at hC2;exact⟨pre4,s4,m4,by rw[hC2];simp,DD r2 (by rw[lpre];simp[lA,lB];omega),rfl,v1,λ_ _=>rfl,by rw[Ae (λq=>q.1 hb)];exact v2⟩
  ·have hbr:33≤p.br∧p.br≤37∧p.tg= -1:=by have:=hw.br;omega
   have eb:brC p ((17+(Cw p pl).length+(Cr p pl).length+6:Nat):Int)=[hld 11 15 1,li 12 (EA p.br),hop 5 11 11 12,⟨if p.br=34 then 17 else 16,0,11,0,((17+(Cw p pl).length+(Cr p pl).length+6:Nat):Int)⟩,li 9 p.tk]:=by unfold brC;rw[Ae hb]
   rw[eb] at hC2;have hC3:code=pre4++[hld 11 15 1,li 12 (EA p.br),hop 5 11 11 12]++(⟨if p.br=34 then 17 else 16,0,11,0,((17+(Cw p pl).length+(Cr p pl).length+6:Nat):Int)⟩::li 9 p.tk::((tgC p pl++Jh p)++[⟨19,0,0,0,2⟩])):=by rw[hC2];simp
   obtain⟨s6,m6,u1,u2⟩:=IG _ pre4 _ m4 s4 σ' hC3 (((Str.nil.cons (Eb Ak)).cons (Ge _ _)).cons (QK _ _ _)) (DD r2 (by rw[lpre];simp[lA,lB];omega));obtain⟨x1,x2⟩:=Ml u1;have ep:(s4.g 15+1)%18446744073709551616=1:=by rw[v1];rfl
   rw[ep,FU,CW _ _ _ _ _ _ Ak] at x2;have x3:=(GG x2).symm;have hC4:code=(pre4++[hld 11 15 1,li 12 (EA p.br),hop 5 11 11 12])++⟨if p.br=34 then 17 else 16,0,11,0,(((pre4++[hld 11 15 1,li 12 (EA p.br),hop 5 11 11 12]).length+2:Nat):Int)⟩::li 9 p.tk::((tgC p pl++Jh p)++[⟨19,0,0,0,2⟩]):=by
    have el:(pre4++[hld 11 15 1,li 12 (EA p.br),hop 5 11 11 12]).length+2=17+(Cw p pl).length+(Cr p pl).length+6:=by simp[lpre];omega
    rw[el];exact hC3
   obtain⟨m7,y⟩:=run_over Kx hC4 (DD u2 AC);have g11:s6.g 11=Bv .and AP (left p s (evs s p.code)).fl (EA p.br):=by
    rw[x3];simp only[upZ,if_true,GA,if_false];show Ck 5 (s4.m 1) _=_;rw[v4];rfl
   have hk6: ∀k,k≠11→k≠12→s6.g k=s4.g k:=λk k1 k2=>by rw[x3];simp only[upZ,Ae k1,Ae k2]
   have hm6:s6.m=s4.m:=by rw[x3]
   have hfb:=flag_bit _ hflb.1 hflb.2 p.br ⟨hbr.1,hbr.2.1⟩;rw[←g11] at hfb;generalize(if p.br=34 then 17 else 16:Nat)=jop at*;refine⟨pre4++[hld 11 15 1,li 12 (EA p.br),hop 5 11 11 12,⟨jop,0,11,0,((17+(Cw p pl).length+(Cr p pl).length+6:Nat):Int)⟩,li 9 p.tk],_,m7,by rw[hC3];simp,DD y AC, ?_, ?_,λk hk=>?_, ?_⟩
   ·split;·exact hm6
    ·exact hm6
   ·split;·rw[hk6 15 Ak Ak];exact v1
    ·show upZ s6.g 9 p.tk 15=0;unfold upZ;rw[Ae Ak,hk6 15 Ak Ak];exact v1
   ·split;·exact hk6 k O O
    ·show upZ s6.g 9 p.tk k=_;unfold upZ;rw[Ae O];exact hk6 k O O
   ·by_cases hh:Gp p.br (left p s (evs s p.code)).fl=Ag;·rw[Ae (λq=>(hfb.1 q) hh),An ⟨hb,hh⟩];show upZ s6.g 9 p.tk 9=_;simp[upZ]
    ·rw[An (hfb.2 hh),Ae (λq=>hh q.2),hk6 9 Ak Ak];exact v2
 have hC6:code=pre5++(tgC p pl++[hst 15 0 9,li 11 p.ct,hst 15 36 11])++(⟨19,0,0,0,1⟩::[⟨19,0,0,0,2⟩]):=by rw[hC5];simp[Jh]
 obtain⟨s6,m6,u1,u2⟩:=IG _ pre5 _ m5 s5 σ' hC6 (Str.app (str_tgC _ _) (((Str.nil.cons (KL _ _ _)).cons (Ge _ _)).cons (KL _ _ _))) t1;obtain⟨s7,w3,w4,w5,w6⟩:=tgC_ok hw hs (λq=>⟨hp.form p.tg.toNat NV,(v3 q).keep (hp.form p.tg.toNat NV) t4 (λk _=>by rw[t2])⟩) t3 t5 u1;obtain⟨x1,x2⟩:=KI w3;rw[FU] at x2;obtain⟨x3,x4⟩:=KI x2;have x5:=(GG x4).symm;have hC7:code=(pre5++(tgC p pl++[hst 15 0 9,li 11 p.ct,hst 15 36 11]))++⟨19,0,0,0,1⟩::[⟨19,0,0,0,2⟩]:=hC6;have x6:=(NT hC7 (DD u2 AC)).2;have hpc:s7.g 9=(left p s (evs s p.code)).pc:=by
  rw[w5];rfl
 have bpc:0≤s7.g 9∧s7.g 9<4294967296:=by
  rw[w5];have b0:=hw.nx;have b1:=hw.tk;have b2:=KJ hw hs p.tg.toNat;split;·exact b2
  ·split<;>omega
 have hct:=hw.ct;have hmem: ∀j,σ'.m j=if j=36 then(p.ct:Int) else if j=0 then(left p s (evs s p.code)).pc else s4.m j:=by
  intro j;rw[←x6,x5];have e1:(s7.g 15+0)%18446744073709551616=0:=by rw[w4];rfl
  have e2:(upZ s7.g 11 (p.ct:Int) 15+36)%18446744073709551616=36:=by
   have:upZ s7.g 11 (p.ct:Int) 15=0:=by unfold upZ;rw[Ae (by decide)];exact w4
   rw[this];rfl
  have e3:upZ s7.g 11 (p.ct:Int) 11%4294967296=p.ct:=by
   have:upZ s7.g 11 (p.ct:Int) 11=p.ct:=Mm;rw[this];omega
  simp only[e1,e2,e3];rw[Int.emod_eq_of_lt bpc.1 bpc.2,hpc];show upZ (upZ s7.m (0:Int).toNat (left p s (evs s p.code)).pc) (36:Int).toNat (p.ct:Int) j=_;unfold upZ;by_cases j36:j=36;·rw[An (by rw[j36];rfl),An j36]
  ·rw[Ae (by show ¬j=36;exact j36),Ae j36];by_cases j0:j=0;·rw[An (by rw[j0];rfl),An j0]
   ·rw[Ae (by show ¬j=0;exact j0),Ae j0,w6,t2]
 have ld:=XE;have lr:=XF;exact⟨by rw[hmem 0,Ae (by decide),An rfl],by rw[hmem 1,Ae (by decide),Ae (by decide)];exact v4,by rw[hmem 2,Ae (by decide),Ae (by decide)];exact v5,by rw[hmem 3,Ae (by decide),Ae (by decide)];exact v6,λj hj=>by rw[hmem _,Ae (by omega),Ae (by omega)];exact v7 j hj,λj hj=>by rw[hmem _,Ae (by omega),Ae (by omega)];exact v8 j hj,by rw[hmem 36,An rfl]⟩
end Tr
namespace Tr
open Gs
structure HOk(i:HI):Prop where
 rd:i.rd<16
 ra:i.ra<16
 rb:i.rb<16
 imm:0≤i.imm∧i.imm≤4294967295
 form:(i.op=1∧i.ra=0∧i.rb=0)∨(i.op=2∧i.rb=0∧i.imm=0)∨(3≤i.op∧i.op≤13∧i.imm=0)∨(i.op=14∧i.rb=0)∨(i.op=15∧i.rd=0)∨((i.op=16∨i.op=17)∧i.rd=0∧i.rb=0)∨(i.op=19∧i.rd=0∧i.ra=0∧i.rb=0)
def HAll(l:List HI):Prop:= ∀i∈l,HOk i
theorem HAll.nil:HAll []:=λi h=>absurd h AC
theorem HAll.cons{i:HI}{l:List HI}(h:HOk i)(k:HAll l):HAll (i::l):=λj hj=>by
 rcases Dv.1 hj with e|e;·rw[e];exact h
 ·exact k j e
theorem HAll.app{l m:List HI}(h:HAll l)(k:HAll m):HAll (l++m):=λj hj=>by
 rcases Da.1 hj with e|e;·exact h j e
 ·exact k j e
variable{v:Int}
theorem Ek{rd:Nat}(h:rd<16)(v0:0≤v)(v1:v≤4294967295):HOk (li rd v):=⟨h,Iy,Iy,⟨v0,v1⟩,Af ⟨rfl,rfl,rfl⟩⟩
variable{ra:Nat}
theorem El{op rd rb:Nat}(h0:3≤op)(h1:op≤13)(hd:rd<16)(ha:ra<16)(hb:rb<16):HOk (hop op rd ra rb):=⟨hd,ha,hb,⟨KM,Mf⟩,Ah (Ah (Af ⟨h0,h1,rfl⟩))⟩
theorem ok_mov{rd:Nat}(hd:rd<16)(ha:ra<16):HOk (hop 2 rd ra 0):=⟨hd,ha,Iy,⟨KM,Mf⟩,Ah (Af ⟨rfl,rfl,rfl⟩)⟩
theorem NX{rd:Nat}(hd:rd<16)(ha:ra<16)(v0:0≤v)(v1:v≤4294967295):HOk (hld rd ra v):=⟨hd,ha,Iy,⟨v0,v1⟩,Ah (Ah (Ah (Af ⟨rfl,rfl⟩)))⟩
theorem KN{rb:Nat}(ha:ra<16)(hb:rb<16)(v0:0≤v)(v1:v≤4294967295):HOk (hst ra v rb):=⟨Iy,ha,hb,⟨v0,v1⟩,Ah (Ah (Ah (Ah (Af ⟨rfl,rfl⟩))))⟩
theorem ok_br{op r:Nat}(h:op=16∨op=17)(hr:r<16)(v0:0≤v)(v1:v≤4294967295):HOk ⟨op,0,r,0,v⟩:=⟨Iy,hr,Iy,⟨v0,v1⟩,Ah (Ah (Ah (Ah (Ah (Af ⟨h,rfl,rfl⟩)))))⟩
theorem NY(v0:0≤v)(v1:v≤4294967295):HOk ⟨19,0,0,0,v⟩:=⟨Iy,Iy,Iy,⟨v0,v1⟩,Ah (Ah (Ah (Ah (Ah (Ah ⟨rfl,rfl,rfl,rfl⟩)))))⟩
def Plc(pl:Pl)(n:Nat):Prop:=(0≤pl.reg n∧pl.reg n<7)∨(pl.reg n= -1∧0≤pl.slot n∧pl.slot n≤64)
section
variable {pl:Pl} {n into rd a b:Nat} {op:Int}
theorem NZ(pl:Pl)(n:Nat):0≤Ez pl n∧Ez pl n≤4294967295:=QO
theorem Js(h:Plc pl n)(hi:into<16):BI pl n into<16:=by
 unfold BI;split
 ·rcases h with h|h;·omega
  ·omega
 ·exact hi
theorem JX(hi:into<16):HAll (CO pl n into):=by
 unfold CO;split;·exact HAll.nil
 ·exact HAll.nil.cons (NX hi O (NZ pl n).1 (NZ pl n).2)
theorem mZ(hr:rd<16):HAll (H7 pl n rd):=by
 unfold H7;split;·exact HAll.nil.cons (KN O hr (NZ pl n).1 (NZ pl n).2)
 ·exact HAll.nil
theorem XH(op:Int):3≤Fi op∧Fi op≤13:=by
 unfold Fi
 repeat' split
 all_goals omega
theorem all_lowC(hr:rd<16):HAll (lowC rd):=(HAll.nil.cons (El O O hr hr O)).cons (Ek O O O)
theorem XI(hr:rd<16)(ha:a<16)(hb:b<16):HAll (It op rd a b):=by
 unfold It;refine HAll.cons (El (XH op).1 (XH op).2 hr ha hb) ?_;split;·exact HAll.nil
 ·exact all_lowC hr
theorem Oa(ha:a<16){up:Int}(h0:0≤up)(h1:up≤4294967295):HAll (Fj a up):=((HAll.nil.cons (El O O O O ha)).cons (El O O ha ha O)).cons (Ek O h0 h1)
theorem XJ(hr:rd<16)(ha:a<16):HAll (IH rd a):=(HAll.nil.cons (El O O hr ha O)).cons (Ek O O O)
theorem XK{x1 x2 y1 y2:Nat}(h1:x1<16)(h2:x2<16)(h3:y1<16)(h4:y2<16):HAll (Jg x1 x2 y1 y2):=
 HAll.app ((HAll.nil.cons (El O O O h3 h4)).cons (El O O O h1 h2))
  (HAll.app (HAll.nil.cons (El O O O O O)) (HAll.app (XJ O O) (Oa O O O)))
theorem nB(ha:a<16)(hb:b<16):HAll (Ia op a b):=by
 unfold Ia;refine(XI O ha hb).app (HAll.app (HAll.nil.cons (El O O O O O)) ((XJ O O).app ((Oa O O O).app ?_)));split;·exact HAll.app (HAll.nil.cons (El O O O O ha)) ((Oa O O O).app (XK ha O hb O))
 split;·exact HAll.app (HAll.nil.cons (El O O O ha hb)) ((Oa O O O).app (XK ha hb ha O))
 ·exact HAll.nil
end
section
variable {p:Pg} {pl:Pl}
theorem all_oneC(hw:WF p)(hp: ∀n,n<p.code.length→Plc pl n){n:Nat}(hn:n<p.code.length){x:IIn}(hx:x=at_ p.code n):HAll (G8 p pl n x):=by
 have hm:=hw.code n hn;rw[←hx] at hm;have hr:BI pl n 9<16:=Js (hp n hn) O;unfold G8;refine HAll.app ?_ (mZ hr);have him:=hm.imm;have hnd:=hw.nd;have hnr:=hw.nr;unfold Kw;split;·exact HAll.nil.cons (Ek hr him.1 him.2)
 split
 ·rename_i h1
  have:=hm.arg h1;exact XL
 split
 ·rename_i h1
  have:=hm.ret h1;exact XL
 have hab:3≤x.op→x.a<p.code.length∧x.b<p.code.length:=λh=>by have:=hm.ab h;omega
 have hop:=hm.op;split
 ·rename_i h0 h1 h2 h3
  have:=hab O;exact(JX O).app ((JX O).app (XI hr (Js (hp _ this.1) O) (Js (hp _ this.2) O)))
 ·rename_i h0 h1 h2 h3
  have:=hab O;exact(JX O).app ((JX O).app ((nB (Js (hp _ this.1) O) (Js (hp _ this.2) O)).app (HAll.nil.cons (ok_mov hr O))))
theorem XM(hw:WF p)(hp: ∀n,n<p.code.length→Plc pl n): ∀(l:List IIn) (n:Nat),n+l.length=p.code.length→p.code.drop n=l→HAll (Dx p pl n l)
 |[],_,_,_=>HAll.nil
 |x::l,n,hl,hd=>by
  have hn:n<p.code.length:=by simp at hl;omega
  have hx:x=at_ p.code n:=by
   have h1:p.code[n]?=I x:=by rw[←List.head?_drop,hd];rfl
   unfold at_;rw[AS,h1];rfl
  refine(all_oneC hw hp hn hx).app (XM hw hp l (n+1) (by simp at hl;omega) ?_);rw[←List.drop_drop,hd];rfl
variable{base:Nat}
theorem XN(hp: ∀n,n<p.code.length→Plc pl n)(hb:base<16): ∀(out:List Nat) (k:Int),0≤k→k+out.length≤1000→(∀n∈out,n<p.code.length)→HAll (Fk pl base k out)
 |[],_,_,_,_=>HAll.nil
 |n::l,k,h0,h1,h=>by
  refine(JX O).app (HAll.cons (KN hb (Js (hp n (h n AC)) O) h0 (by simp at h1;omega)) (XN hp hb l (k+1) O (by simp at h1⊢;omega) (λj hj=>h j FJ)))
theorem XO(hp: ∀n,n<p.code.length→Plc pl n)(hb:base<16){k word:Int}{out:List Nat}(h0:0≤k)(h1:k+out.length≤1000)(hw:0≤word∧word≤100)(h: ∀n∈out,n<p.code.length):HAll (DK pl base k word out):=
 (XN hp hb out k h0 h1 h).app (((HAll.nil.cons (KN O O hw.1 O)).cons (El O O O O hb)).cons (Ek O O O))
theorem Ob(hb:base<16){word need most E:Int}(hw:0≤word∧word≤100)(hn:0≤need∧need≤100)(hm:0≤most∧most≤100)(hE:0≤E∧E≤4294967295):HAll (Dg base word need most E):=
 (((((((HAll.nil.cons (El O O hb hb O)).cons (ok_br (Ah rfl) O hE.1 hE.2)).cons (El O O O O hb)).cons (Ek O hm.1 O)).cons (ok_br (Ah rfl) O hE.1 hE.2)).cons (El O O O hb O)).cons (Ek O hn.1 O)).cons (NX hb O hw.1 O)
theorem all_endC(hw:WF p)(hp: ∀n,n<p.code.length→Plc pl n)(len:Nat)(hl:len≤100000):HAll (FL p pl len):=by
 have hf:=hw.fl;have ht:=hw.tg;have hnx:=hw.nx;have htk:=hw.tk;have hct:=hw.ct;have hfl:(Cr p pl).length≤10:=by
  unfold Cr CO
  repeat' split
  all_goals simp
 unfold FL;refine HAll.app ?_ (HAll.cons (Ek O hnx.1 hnx.2) (HAll.app ?_ (HAll.app ?_ ?_)))
 ·unfold Cr;split;·refine HAll.cons (Ek O O O) ((JX O).app ((HAll.nil.cons (KN O O O O)).cons (El O O O O (Js (hp _ O) O))))
  ·exact HAll.nil
 ·unfold brC;split;·exact HAll.nil
  ·have hj:0≤EA p.br∧EA p.br≤100:=by
    unfold EA
    repeat' split
    all_goals omega
   exact((((HAll.nil.cons (Ek O htk.1 htk.2)).cons (ok_br Kx O O O)).cons (El O O O O O)).cons (Ek O hj.1 O)).cons (NX O O O O)
 ·unfold tgC;split;·exact(JX O).app (HAll.nil.cons (ok_mov O (Js (hp _ O) O)))
  ·exact HAll.nil
 ·exact(((HAll.nil.cons (NY O O)).cons (KN O O O O)).cons (Ek O O O)).cons (KN O O O O)
theorem nD{tt:Nat→Nat}(hw:WF p)(hp:PO p pl tt)(hl:(Cw p pl).length≤10000)(hb:(BO p pl 0).length≤100000):HAll (codeC p pl):=by
 have hpl: ∀n,n<p.code.length→Plc pl n:=hp.form;have hnd:=hw.nd;have hnr:=hw.nr;have h1:=hw.odl;have h2:=hw.orl;unfold codeC;refine HAll.app ?_ (HAll.nil.cons (NY O O));generalize hE:(((BO p pl 0).length:Nat):Int)=E;have hE:0≤E∧E≤4294967295:=O;unfold BO;split;·exact HAll.nil.cons (Ek O O O)
 rename_i hd
 split;·exact HAll.cons (Ek O O O) (Ob O O O QP hE)
 rename_i hr
 refine HAll.cons (Ek O O O) (HAll.app ?_ (HAll.app ?_ (all_endC hw hpl _ O)));·exact(Ob O O O QP hE).app (Ob O O O QP hE)
 ·exact(XM hw hpl p.code 0 AC rfl).app ((XO hpl O O O O hw.od).app (XO hpl O O O O hw.or))
end
end Tr
namespace Tr
open Gs
def atH(l:List HI)(i:Nat):HI:=l.getD i ⟨0,0,0,0,0⟩
def Gf(E:Int)(l:List HI)(i:Nat):List HI:=l.set i {atH l i with imm:=E}
def Fv(E:Int)(fx:List Nat)(l:List HI):List HI:=fx.foldl (Gf E) l
theorem Oc(E:Int)(l:List HI)(i:Nat):(Gf E l i).length=l.length:=by simp[Gf]
theorem XP(E:Int): ∀(fx:List Nat) (l:List HI),(Fv E fx l).length=l.length
 |[],l=>rfl
 |i::fx,l=>by
  show(Fv E fx (Gf E l i)).length=l.length;rw[XP E fx,Oc]
theorem nE(E:Int)(fx:List Nat)(i:Nat)(l:List HI):Fv E (fx++[i]) l=Gf E (Fv E fx l) i:=by
 unfold Fv;rw[List.foldl_append];rfl
def fxP(p:Pg):List Nat:=
 if Cu p.hd p.nd p.od.length<p.nd then[] else if Cu p.hr p.nr p.or.length<p.nr then[4,7] else[4,7,12,15]
theorem fix_ok(p:Pg)(pl:Pl)(E:Int):Fv E (fxP p) (BO p pl 0)=BO p pl E:=by
 unfold fxP BO;by_cases h1:Cu p.hd p.nd p.od.length<p.nd;·rw[An h1,An h1,An h1];rfl
 ·rw[Ae h1,Ae h1,Ae h1];by_cases h2:Cu p.hr p.nr p.or.length<p.nr;·rw[An h2,An h2,An h2];rfl
  ·rw[Ae h2,Ae h2,Ae h2];generalize Cw p pl++FL p pl (17+(Cw p pl).length)=X;rfl
theorem fix_code(p:Pg)(pl:Pl):Fv ((BO p pl 0).length:Nat) (fxP p) (BO p pl 0)++[⟨19,0,0,0,2⟩]=codeC p pl:=by
 rw[fix_ok];rfl
end Tr
end Go.Proofs.YtdfegdoeebaagaaGreatDoor
