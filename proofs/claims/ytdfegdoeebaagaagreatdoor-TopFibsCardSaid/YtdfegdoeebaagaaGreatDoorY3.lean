import Derived.Test.YtdfegdoeebaagaaGreatDoorY1
open Option renaming some→I,none→G
open Go.IntKind renaming u32→V,u64→AQ
open Go renaming bits→AX
open Bool renaming false→Ac,true→Ag
open List renaming getD_eq_getElem?_getD→AU,getElem?_eq_getElem→BM,append_assoc→C8,getElem?_take_of_lt→Ea,getElem?_append_right→EK,mem_append→Dc,length_cons→DD,getElem?_append_left→Fo,cons_append→DO,nil_append→DN,mem_cons→Dx,getElem?_map→EA,getElem?_eq_none→FL,length_nil→Fs,singleton_append→IF
open Nat renaming zero_le→Bn,lt_or_ge→DL,reduceEqDiff→Gz
open Or renaming inl→Af,inr→Ah
open Int renaming eq_ofNat_of_zero_le→DT,toNat_natCast→DE
open Option.some renaming inj→GE
set_option linter.all false
set_option maxHeartbeats 40000000
set_option maxRecDepth 1000000
open Go Go.RowKit
namespace Go.Proofs.YtdfegdoeebaagaaGreatDoor
namespace Tr
open Gs
structure HI where
 op:Nat
 rd:Nat
 ra:Nat
 rb:Nat
 imm:Int
structure Hm where
 g:Nat→Int
 m:Nat→Int
def upZ(f:Nat→Int)(n:Nat)(v:Int):Nat→Int:=λk=>if k=n then v else f k
def Cl(op:Nat)(a b:Int):Int:=
 if op=2 then a else if op=3 then(a+b)%18446744073709551616 else if op=4 then(a -b)%18446744073709551616 else if op=5 then AX .and AQ a b else if op=6 then AX .or AQ a b else if op=7 then AX .xor AQ a b
 else if op=8 then(if 64≤b then 0 else a*2^b.toNat%18446744073709551616) else if op=9 then(if 64≤b then 0 else a/2^b.toNat) else if op=10 then a*b%18446744073709551616
 else if op=11 then(if b=0 then 0 else a/b) else if op=12 then(if a<b then 1 else 0) else(if a=b then 1 else 0)
def Jf(i:HI)(s:Hm):Int:=(s.g i.ra+i.imm)%18446744073709551616
def hstep(i:HI)(s:Hm):Option Hm:=
 if i.op=0 then I s else if i.op=1 then I ⟨upZ s.g i.rd i.imm,s.m⟩
 else if i.op=14 then(if 256≤Jf i s then G else I ⟨upZ s.g i.rd (s.m (Jf i s).toNat),s.m⟩)
 else if i.op=15 then(if 256≤Jf i s then G else I ⟨s.g,upZ s.m (Jf i s).toNat (s.g i.rb%4294967296)⟩)
 else I ⟨upZ s.g i.rd (Cl i.op (s.g i.ra) (s.g i.rb)),s.m⟩
structure Hr where
 why:Int
 imm:Int
 s:Hm
def hrun(code:List HI):Nat→Int→Hm→Hr
 |0,_,s=>⟨5,0,s⟩
 |n+1,at_,s=>
  if at_<0∨(code.length:Int)≤at_ then⟨2,0,s⟩
  else
   let i:=code.getD at_.toNat ⟨0,0,0,0,0⟩
   if i.op=16 then hrun code n (if s.g i.ra=0 then i.imm else at_+1) s
   else if i.op=17 then hrun code n (if s.g i.ra=0 then at_+1 else i.imm) s
   else if i.op=18 then hrun code n i.imm s
   else if i.op=19 then⟨1,i.imm,s⟩
   else match hstep i s with
    |none=>⟨4,0,s⟩
    |some s'=>hrun code n (at_+1) s'
def BU:List HI→Hm→Option Hm
 |[],s=>I s
 |i::l,s=>match hstep i s with
  |none=>G
  |some s'=>BU l s'
variable{code:List HI}
theorem Nm{pre:List HI}{i:HI}{post:List HI}(e:code=pre++i::post):code.getD ((pre.length:Int)).toNat ⟨0,0,0,0,0⟩=i∧ ¬(((pre.length:Int)<0)∨(code.length:Int)≤pre.length):=by
 subst e;refine⟨by simp[AU], ?_⟩;simp;omega
theorem IG: ∀(seg pre post:List HI) (n:Nat) (s s':Hm),code=pre++seg++post→(∀i∈seg,i.op≤15)→hrun code n pre.length s=⟨1,1,s'⟩→
 ∃s1 m,BU seg s=I s1∧hrun code m ((pre.length+seg.length:Nat):Int) s1=⟨1,1,s'⟩
 |[],pre,post,n,s,s',_,_,h=>⟨s,n,rfl,DC⟩
 |i::seg,pre,post,n,s,s',e,hs,h=>by
  have e2:code=pre++i::(seg++post):=Fq;obtain⟨a1,a2⟩:=Nm e2;have hi:=hs i AB
  cases n with
  |zero=>rw[hrun] at h;simp at h
  |succ n=>
   rw[hrun,Ae a2,a1] at h;simp only[] at h;rw[Ae O,Ae O,Ae O,Ae O] at h;rw[BU]
   cases hst:hstep i s with
   |none=>rw[hst] at h;simp at h
   |some s1=>
    rw[hst] at h;simp only[] at h;have e3:code=(pre++[i])++seg++post:=Fq;have h':hrun code n ((pre++[i]).length:Nat) s1=⟨1,1,s'⟩:=DC;obtain⟨s2,m,q1,q2⟩:=IG seg (pre++[i]) post n s1 s' e3 (λj hj=>hs j FV) h';refine⟨s2,m,q1, ?_⟩;simpa[Nat.add_assoc,Nat.add_comm 1] using q2
theorem Uk{pre post:List HI}{n:Nat}{s s':Hm}{r:Nat}{E:Int}(e:code=pre++⟨17,0,r,0,E⟩::post)(hE: ∀m s,hrun code m E s≠⟨1,1,s'⟩)(h:hrun code n pre.length s=⟨1,1,s'⟩):s.g r=0∧ ∃m,hrun code m ((pre.length+1:Nat):Int) s=⟨1,1,s'⟩:=by
 obtain⟨a1,a2⟩:=Nm e
 cases n with
 |zero=>rw[hrun] at h;simp at h
 |succ n=>
  rw[hrun,Ae a2,a1] at h;simp only[] at h;rw[Ae Ap,An Ap] at h;by_cases hz:s.g r=0;·rw[An hz] at h;exact⟨hz,n,DC⟩
  ·rw[Ae hz] at h;exact absurd h (hE _ _)
structure Pl where
 reg:Nat→Int
 slot:Nat→Int
def li(rd:Nat)(v:Int):HI:=⟨1,rd,0,0,v⟩
def hop(op rd ra rb:Nat):HI:=⟨op,rd,ra,rb,0⟩
def hld(rd ra:Nat)(at_:Int):HI:=⟨14,rd,ra,0,at_⟩
def hst(ra:Nat)(at_:Int)(rb:Nat):HI:=⟨15,0,ra,rb,at_⟩
def EN(pl:Pl)(n:Nat):Int:=(64+pl.slot n)%4294967296
def BJ(pl:Pl)(n into:Nat):Nat:=if 0≤pl.reg n then(pl.reg n).toNat else into
def CO(pl:Pl)(n into:Nat):List HI:=if 0≤pl.reg n then[] else[hld into 15 (EN pl n)]
def GW(pl:Pl)(n r:Nat):List HI:=if pl.reg n<0 then[hst 15 (EN pl n) r] else[]
def Dj(base:Nat)(word need most E:Int):List HI:=[hld base 15 word,li 11 need,hop 12 12 base 11,⟨17,0,12,0,E⟩,li 12 most,hop 12 12 12 base,⟨17,0,12,0,E⟩,hop 4 base base 11]
def lowC(r:Nat):List HI:=[li 12 4294967295,hop 5 r r 12]
def Fv(op:Int):Nat:=if op=16 then 3 else if op=18 then 5 else if op=19 then 6 else if op=20 then 7 else if op=21 then 8 else if op=22 then 9 else if op=23 then 10 else 4
def Is(op:Int)(rd a b:Nat):List HI:=hop (Fv op) rd a b::(if op=18∨op=19∨op=20∨op=22 then[] else lowC rd)
def Fw(r:Nat)(up:Int):List HI:=[li 12 up,hop 8 r r 12,hop 6 10 10 r]
def IH(rd r:Nat):List HI:=[li 12 31,hop 9 rd r 12]
def Jg(x1 x2 y1 y2:Nat):List HI:=[hop 7 11 x1 x2,hop 7 12 y1 y2]++([hop 5 11 11 12]++(IH 11 11++Fw 11 3))
def GX(op:Int)(a b:Nat):List HI:=
 Is op 9 a b++([hop 13 10 9 15]++(IH 11 9++(Fw 11 1++
  (if op=16 then[hop 12 11 9 a]++(Fw 11 2++Jg a 9 b 9) else if op=17∨op=25 then[hop 12 11 a b]++(Fw 11 2++Jg a b a 9) else[]))))
def KB(p:Pg)(pl:Pl)(rd:Nat)(x:IIn):List HI:=
 if x.op=0 then[li rd x.imm] else if x.op=1 then[hld rd 14 (4+p.nd -1 -x.imm)] else if x.op=2 then[hld rd 13 (20+p.nr -1 -x.imm)]
 else if x.op=3 then CO pl x.a 7++(CO pl x.b 8++Is x.imm rd (BJ pl x.a 7) (BJ pl x.b 8))
 else CO pl x.a 7++(CO pl x.b 8++(GX x.imm (BJ pl x.a 7) (BJ pl x.b 8)++[hop 2 rd 10 0]))
def Gy(p:Pg)(pl:Pl)(n:Nat)(x:IIn):List HI:=KB p pl (BJ pl n 9) x++GW pl n (BJ pl n 9)
def Dz(p:Pg)(pl:Pl):Nat→List IIn→List HI
 |_,[]=>[]
 |n,x::l=>Gy p pl n x++Dz p pl (n+1) l
def Fx(pl:Pl)(base:Nat):Int→List Nat→List HI
 |_,[]=>[]
 |k,n::l=>CO pl n 7++(hst base k (BJ pl n 7)::Fx pl base (k+1) l)
def DR(pl:Pl)(base:Nat)(from_ word:Int)(out:List Nat):List HI:=Fx pl base from_ out++[li 11 out.length,hop 3 11 11 base,hst 15 word 11]
def EO(br:Int):Int:=if br=33 then 1 else if br=34 then 1 else if br=35 then 4 else if br=36 then 2 else 8
def Cu(p:Pg)(pl:Pl):List HI:=if 0≤p.fl then li 11 15::(CO pl p.fl.toNat 7++[hop 5 11 11 (BJ pl p.fl.toNat 7),hst 15 1 11]) else[]
def brC(p:Pg)(at_:Int):List HI:=if p.br=0 then[] else[hld 11 15 1,li 12 (EO p.br),hop 5 11 11 12,⟨if p.br=34 then 17 else 16,0,11,0,at_⟩,li 9 p.tk]
def tgC(p:Pg)(pl:Pl):List HI:=if 0≤p.tg then CO pl p.tg.toNat 7++[hop 2 9 (BJ pl p.tg.toNat 7) 0] else[]
def Jh(p:Pg):List HI:=[hst 15 0 9,li 11 p.ct,hst 15 36 11,⟨19,0,0,0,1⟩]
def FY(p:Pg)(pl:Pl)(len:Nat):List HI:=Cu p pl++(li 9 p.nx::(brC p ((len+(Cu p pl).length+6:Nat):Int)++(tgC p pl++Jh p)))
def Cv(high need out:Nat):Int:=min (16 -(high:Int)) (16+(need:Int) -out)
def Cy(p:Pg)(pl:Pl):List HI:=Dz p pl 0 p.code++(DR pl 14 4 2 p.od++DR pl 13 20 3 p.or)
def Ed(p:Pg)(E:Int):List HI:=Dj 14 2 p.nd (Cv p.hd p.nd p.od.length) E++Dj 13 3 p.nr (Cv p.hr p.nr p.or.length) E
def BQ(p:Pg)(pl:Pl)(E:Int):List HI:=
 if Cv p.hd p.nd p.od.length<p.nd then[li 15 0]
 else if Cv p.hr p.nr p.or.length<p.nr then li 15 0::Dj 14 2 p.nd (Cv p.hd p.nd p.od.length) E
 else li 15 0::(Ed p E++(Cy p pl++FY p pl (17+(Cy p pl).length)))
def codeC(p:Pg)(pl:Pl):List HI:=BQ p pl (BQ p pl 0).length++[⟨19,0,0,0,2⟩]
end Tr
namespace Tr
open Gs
theorem Ul(x y:Int)(x0:0≤x)(x1:x<4294967296)(y0:0≤y)(y1:y<4294967296):AX .and AQ x y=AX .and V x y:=by
 obtain⟨a,rfl⟩:=DT x0;obtain⟨b,rfl⟩:=DT y0;rw[u64_and_nat a b O O,u32_and_nat a b O O]
theorem b64_or(x y:Int)(x0:0≤x)(x1:x<4294967296)(y0:0≤y)(y1:y<4294967296):AX .or AQ x y=AX .or V x y:=by
 obtain⟨a,rfl⟩:=DT x0;obtain⟨b,rfl⟩:=DT y0;rw[u64_or_nat a b O O,u32_or_nat a b O O]
theorem Pu(x y:Int)(x0:0≤x)(x1:x<4294967296)(y0:0≤y)(y1:y<4294967296):AX .xor AQ x y=AX .xor V x y:=by
 obtain⟨a,rfl⟩:=DT x0;obtain⟨b,rfl⟩:=DT y0;rw[u64_xor_nat a b O O,u32_xor_nat a b O O]
theorem Nn(x y:Int)(x0:0≤x)(x1:x<4294967296)(y0:0≤y)(y1:y<4294967296):0≤AX .and V x y∧AX .and V x y<4294967296:=by
 obtain⟨a,rfl⟩:=DT x0;obtain⟨b,rfl⟩:=DT y0;rw[u32_and_nat a b O O];have:a&&&b<2^32:=Nat.and_lt_two_pow a O;omega
theorem or_bd(x y:Int)(x0:0≤x)(x1:x<4294967296)(y0:0≤y)(y1:y<4294967296):0≤AX .or V x y∧AX .or V x y<4294967296:=by
 obtain⟨a,rfl⟩:=DT x0;obtain⟨b,rfl⟩:=DT y0;rw[u32_or_nat a b O O];have:a|||b<2^32:=Nat.or_lt_two_pow O O;omega
theorem JI(x y:Int)(x0:0≤x)(x1:x<4294967296)(y0:0≤y)(y1:y<4294967296):0≤AX .xor V x y∧AX .xor V x y<4294967296:=by
 obtain⟨a,rfl⟩:=DT x0;obtain⟨b,rfl⟩:=DT y0;rw[u32_xor_nat a b O O];have:a^^^b<2^32:=Nat.xor_lt_two_pow O O;omega
theorem mask32(v:Int)(h0:0≤v)(h1:v<18446744073709551616):AX .and AQ v 4294967295=v%4294967296:=by
 obtain⟨a,rfl⟩:=DT h0;have:=u64_and_nat a 4294967295 O O;have e:((4294967295:Nat):Int)=4294967295:=rfl;rw[e] at this;rw[this,show(4294967295:Nat)=2^32 -1 by rfl,Nat.and_two_pow_sub_one_eq_mod];omega
def II(op a b:Int):Int:=if op=25 then(a -b)%4294967296 else Cn op a b
theorem Um(op x y:Int)(x0:0≤x)(x1:x<4294967296)(y0:0≤y)(y1:y<4294967296):0≤II op x y∧II op x y<4294967296:=by
 unfold II;split;·omega
 unfold Cn;split;·omega
 split;·omega
 split;·exact Nn x y x0 x1 y0 y1
 split;·exact or_bd x y x0 x1 y0 y1
 split;·exact JI x y x0 x1 y0 y1
 split
 ·unfold Gq;split;·omega
  ·simp only[if_true];omega
 split
 ·unfold Gq;split;·omega
  ·simp only[Bool.false_eq_true,if_false];have hp:(0:Int)<2^y.toNat:=Int.pow_pos Ap;have h1:=Int.ediv_nonneg x0 (Int.le_of_lt hp);have h2:=Int.ediv_le_self (2^y.toNat) x0;omega
 split;·omega
 split;·have h1:=Int.ediv_nonneg x0 y0;have h2:=Int.ediv_le_self y x0;omega
 ·omega
theorem aluV_bd(op x y:Int)(x0:0≤x)(x1:x<4294967296)(y0:0≤y)(y1:y<4294967296):0≤Cn op x y∧Cn op x y<4294967296:=by
 by_cases e:op=25;·subst e;simp[Cn]
 ·have:=Um op x y x0 x1 y0 y1;unfold II at this;rwa[Ae e] at this
theorem Gb(rd:Nat)(v:Int)(rest:List HI)(s:Hm):BU (li rd v::rest) s=BU rest ⟨upZ s.g rd v,s.m⟩:=rfl
theorem CV(op rd ra rb:Nat)(rest:List HI)(s:Hm)(h:2≤op∧op≤13):BU (hop op rd ra rb::rest) s=BU rest ⟨upZ s.g rd (Cl op (s.g ra) (s.g rb)),s.m⟩:=by
 rw[BU];have:hstep (hop op rd ra rb) s=I ⟨upZ s.g rd (Cl op (s.g ra) (s.g rb)),s.m⟩:=by
  unfold hstep;have e:(hop op rd ra rb).op=op:=rfl;rw[Ae LP,Ae LP,Ae LP,Ae LP];rfl
 rw[this]
theorem shr_bd(x y:Int)(x0:0≤x)(x1:x<4294967296)(y0:32≤y):x/2^y.toNat=0:=by
 apply Int.ediv_eq_zero_of_lt x0;have h:(2:Int)^32≤2^y.toNat:=by
  have:(2:Nat)^32≤2^y.toNat:=Nat.pow_le_pow_right Ap O
  exact_mod_cast this
 have:(2:Int)^32=4294967296:=Ap;omega
theorem Uo(op:Int)(rd a b:Nat)(rest:List HI)(s s':Hm)(x y:Int)(h0:16≤op)(h1:op≤25)(h24:op≠24)(hrd:rd≠12)(hx:s.g a=x)(hy:s.g b=y)(x0:0≤x)(x1:x<4294967296)(y0:0≤y)(y1:y<4294967296)(h:BU (Is op rd a b++rest) s=I s'): ∃s1,BU rest s1=I s'∧s1.g rd=II op x y∧s1.m=s.m∧ ∀k,k≠rd→k≠12→s1.g k=s.g k:=by
 have hO:2≤Fv op∧Fv op≤13:=by unfold Fv;(repeat' split);all_goals omega
 unfold Is at h;rw[DO,CV _ _ _ _ _ _ hO,hx,hy] at h;by_cases hd:op=18∨op=19∨op=20∨op=22
 ·rw[An hd,DN] at h;refine⟨_,h, ?_,rfl,λk hk _=>by simp[upZ,hk]⟩;simp only[upZ,if_true];rcases hd with rfl|rfl|rfl|rfl;·exact Ul x y x0 x1 y0 y1
  ·exact b64_or x y x0 x1 y0 y1
  ·exact Pu x y x0 x1 y0 y1
  ·show(if 64≤y then 0 else x/2^y.toNat)=Gq x y Ac;unfold Gq;by_cases q:64≤y;·rw[An q,An O]
   ·rw[Ae q];by_cases q2:32≤y;·rw[An q2,shr_bd x y x0 x1 q2]
    ·rw[Ae q2];rfl
 ·rw[Ae hd] at h;unfold lowC at h;rw[DO,DO,Gb,CV _ _ _ _ _ _ Ap,DN] at h;refine⟨_,h, ?_,rfl,λk hk hk2=>by simp[upZ,hk,hk2]⟩;have hrd2: ¬rd=12:=hrd;have hrd3: ¬12=rd:=λe=>hrd e.symm;simp only[upZ,if_true,Ae hrd2];have hV:0≤Cl (Fv op) x y∧Cl (Fv op) x y<18446744073709551616∧Cl (Fv op) x y%4294967296=II op x y:=by
   have hc:op=16∨op=17∨op=21∨op=23∨op=25:=O;rcases hc with rfl|rfl|rfl|rfl|rfl;·show 0≤(x+y)%18446744073709551616∧(x+y)%18446744073709551616<18446744073709551616∧(x+y)%18446744073709551616%4294967296=(x+y)%4294967296;omega
   ·exact Up
   ·show 0≤(if 64≤y then 0 else x*2^y.toNat%18446744073709551616)∧(if 64≤y then 0 else x*2^y.toNat%18446744073709551616)<18446744073709551616∧(if 64≤y then 0 else x*2^y.toNat%18446744073709551616)%4294967296=Gq x y Ag;unfold Gq;by_cases q:64≤y;·rw[An q,An O];decide
    ·rw[Ae q];by_cases q2:32≤y
     ·rw[An q2];obtain⟨j,hj⟩: ∃j,y.toNat=32+j:=⟨y.toNat -32,O⟩;have e:x*2^y.toNat=(x*2^j)*4294967296:=by rw[hj,Int.pow_add];rw[show(2:Int)^32=4294967296 by decide];rw[Int.mul_comm 4294967296,←Int.mul_assoc]
      rw[e];omega
     ·rw[Ae q2];simp only[if_true];generalize x*2^y.toNat=z;omega
   ·show 0≤x*y%18446744073709551616∧x*y%18446744073709551616<18446744073709551616∧x*y%18446744073709551616%4294967296=x*y%4294967296;generalize x*y=z;omega
   ·exact Up
  show AX .and AQ _ 4294967295=_;rw[mask32 _ hV.1 hV.2.1];exact hV.2.2
theorem div31(r:Int)(h0:0≤r)(h1:r<4294967296):r/2147483648=if 2147483648≤r then 1 else 0:=by
 split<;>omega
theorem sign1(rest:List HI)(s s':Hm)(r f:Int)(hr:s.g 9=r)(r0:0≤r)(r1:r<4294967296)(h10:s.g 10=f)(hf:f=0∨f=1)(h:BU (IH 11 9++(Fw 11 1++rest)) s=I s'):∃s1,BU rest s1=I s'∧s1.g 10=f+(if 2147483648≤r then 2 else 0)∧s1.m=s.m∧ ∀k,k≠10→k≠11→k≠12→s1.g k=s.g k:=by
 simp only[IH,Fw,DO,DN,Gb] at h;rw[CV _ _ _ _ _ _ Ap,Gb,CV _ _ _ _ _ _ Ap,CV _ _ _ _ _ _ Ap] at h;refine⟨_,h, ?_,rfl,λk h1 h2 h3=>Pw⟩;have e1:Cl 9 r 31=if 2147483648≤r then 1 else 0:=by
  show(if(64:Int)≤31 then 0 else r/2^(31:Int).toNat)=_;rw[Ae Ap,←div31 r r0 r1];rfl
 simp only[upZ,if_true,Gz,if_false,hr,e1,h10];by_cases q:2147483648≤r;·rw[An q,An q];rcases hf with rfl|rfl<;>decide
 ·rw[Ae q,Ae q];rcases hf with rfl|rfl<;>decide
theorem bit2(rest:List HI)(s s':Hm)(t f:Int)(ht:s.g 11=t)(t0:t=0∨t=1)(h10:s.g 10=f)(hf:0≤f∧f<4)(h:BU (Fw 11 2++rest) s=I s'):∃s1,BU rest s1=I s'∧s1.g 10=f+t*4∧s1.m=s.m∧ ∀k,k≠10→k≠11→k≠12→s1.g k=s.g k:=by
 simp only[Fw,DO,DN,Gb] at h;rw[CV _ _ _ _ _ _ Ap,CV _ _ _ _ _ _ Ap] at h;refine⟨_,h, ?_,rfl,λk h1 h2 h3=>Pw⟩;simp only[upZ,if_true,Gz,if_false,ht,h10];have hf':f=0∨f=1∨f=2∨f=3:=O;rcases hf' with rfl|rfl|rfl|rfl<;>rcases t0 with rfl|rfl<;>decide
theorem bit3(rest:List HI)(s s':Hm)(t f:Int)(ht:s.g 11=t)(t0:t=0∨t=1)(h10:s.g 10=f)(hf:0≤f∧f<8)(h:BU (Fw 11 3++rest) s=I s'):∃s1,BU rest s1=I s'∧s1.g 10=f+t*8∧s1.m=s.m∧ ∀k,k≠10→k≠11→k≠12→s1.g k=s.g k:=by
 simp only[Fw,DO,DN,Gb] at h;rw[CV _ _ _ _ _ _ Ap,CV _ _ _ _ _ _ Ap] at h;refine⟨_,h, ?_,rfl,λk h1 h2 h3=>Pw⟩;simp only[upZ,if_true,Gz,if_false,ht,h10];have hf':f=0∨f=1∨f=2∨f=3∨f=4∨f=5∨f=6∨f=7:=O;rcases hf' with rfl|rfl|rfl|rfl|rfl|rfl|rfl|rfl<;>rcases t0 with rfl|rfl<;>decide
theorem Uq(rest:List HI)(s s':Hm)(x1 x2 y1 y2:Nat)(a b c d f:Int)(ha:s.g x1=a)(hb:s.g x2=b)(hc:s.g y1=c)(hd:s.g y2=d)(hy1:y1≠11)(hy2:y2≠11)(a0:0≤a∧a<4294967296)(b0:0≤b∧b<4294967296)(c0:0≤c∧c<4294967296)(d0:0≤d∧d<4294967296)(h10:s.g 10=f)(hf:0≤f∧f<8)(h:BU (Jg x1 x2 y1 y2++rest) s=I s'):∃s1,BU rest s1=I s'∧s1.g 10=f+(if Kw (AX .xor V a b) (AX .xor V c d) then 8 else 0)∧s1.m=s.m∧ ∀k,k≠10→k≠11→k≠12→s1.g k=s.g k:=by
 have p1:=JI a b a0.1 a0.2 b0.1 b0.2;have p2:=JI c d c0.1 c0.2 d0.1 d0.2;have q1:=Pu a b a0.1 a0.2 b0.1 b0.2;have q2:=Pu c d c0.1 c0.2 d0.1 d0.2;unfold Jg at h;simp only[DO,DN,C8] at h;rw[CV _ _ _ _ _ _ Ap,CV _ _ _ _ _ _ Ap,CV _ _ _ _ _ _ Ap] at h;simp only[IH,DO,DN,Gb] at h;rw[CV _ _ _ _ _ _ Ap] at h;have e7: ∀u v:Int,Cl 7 u v=AX .xor AQ u v:=λ_ _=>rfl;have e5: ∀u v:Int,Cl 5 u v=AX .and AQ u v:=λ_ _=>rfl;have e9: ∀u:Int,Cl 9 u 31=u/2147483648:=λu=>by
  show(if(64:Int)≤31 then 0 else u/2^(31:Int).toNat)=_;rw[Ae Ap];rfl
 have r1:=Nn (AX .xor V a b) (AX .xor V c d) p1.1 p1.2 p2.1 p2.2;have r2:=Ul (AX .xor V a b) (AX .xor V c d) p1.1 p1.2 p2.1 p2.2;generalize hT:AX .and V (AX .xor V a b) (AX .xor V c d)=Ji at*;obtain⟨s1,k1,k2,k3,k4⟩:=bit3 rest _ s' (if 2147483648≤Ji then 1 else 0) f (by
  simp only[upZ,if_true,Gz,if_false,hy1,hy2,ha,hb,hc,hd,e7,e5,e9,q1,q2,r2];exact div31 Ji r1.1 r1.2) KC (by simp only[upZ,Gz,if_false];exact h10) hf h
 refine⟨s1,k1, ?_,k3,λk h1 h2 h3=>by rw[k4 k h1 h2 h3];simp[upZ,h1,h2,h3]⟩;rw[k2];unfold Kw;rw[hT];by_cases q:2147483648≤Ji;·rw[An q];simp[q]
 ·rw[Ae q];simp[q]
theorem flagC_ok(op:Int)(a b:Nat)(rest:List HI)(s s':Hm)(x y:Int)(h0:16≤op)(h1:op≤25)(h24:op≠24)(ha:a<9)(hb:b<9)(hz:s.g 15=0)(hx:s.g a=x)(hy:s.g b=y)(x0:0≤x)(x1:x<4294967296)(y0:0≤y)(y1:y<4294967296)(h:BU (GX op a b++rest) s=I s'): ∃s1,BU rest s1=I s'∧s1.g 10=Bv op x y∧s1.m=s.m∧ ∀k,k≠9→k≠10→k≠11→k≠12→s1.g k=s.g k:=by
 unfold GX at h;rw[C8] at h;obtain⟨s1,h,v9,m1,k1⟩:=Uo op 9 a b _ s s' x y h0 h1 h24 Ap hx hy x0 x1 y0 y1 h;have rb:=Um op x y x0 x1 y0 y1;have hB:Db op y=Ag:=by simp[Db];omega
 generalize hr:II op x y=r at*;rw[C8,IF,CV _ _ _ _ _ _ Ap] at h;have z1:s1.g 15=0:=by rw[k1 15 (by decide) (by decide)];exact hz
 rw[C8,C8] at h;obtain⟨s2,h,v2,m2,k2⟩:=sign1 _ _ s' r (if r=0 then 1 else 0) (by simp only[upZ,Gz,if_false];exact v9) rb.1 rb.2 (by
  simp only[upZ,if_true,v9,z1];show(if r=0 then(1:Int) else 0)=_;rfl) KC h
 have kk: ∀k,k≠9→k≠10→k≠11→k≠12→s2.g k=s.g k:=λk c1 c2 c3 c4=>by
  rw[k2 k c2 c3 c4];simp only[upZ,Ae c2];exact k1 k c1 c4
 have v2':s2.g 10=CF r:=v2;have v9':s2.g 9=r:=by rw[k2 9 (by decide) (by decide) (by decide)];simp only[upZ,Gz,if_false];exact v9
 have hx2:s2.g a=x:=by rw[kk a (by omega) (by omega) (by omega) (by omega)];exact hx
 have hy2:s2.g b=y:=by rw[kk b (by omega) (by omega) (by omega) (by omega)];exact hy
 have hm2:s2.m=s.m:=by rw[m2];exact m1
 have hP:=Kz r;by_cases e16:op=16
 ·rw[An e16] at h;rw[C8,IF,CV _ _ _ _ _ _ Ap,C8] at h;have hr':(x+y)%4294967296=r:=by rw[←hr,e16];rfl
  obtain⟨s3,h,v3,m3,k3⟩:=bit2 _ _ s' (if r<x then 1 else 0) (CF r) (by
   simp only[upZ,if_true,v9',hx2];rfl) KC Ur hP h
  have k3':=Ut;obtain⟨s4,h,v4,m4,k4⟩:=Uq rest s3 s' a 9 b 9 x r y r (CF r+(if r<x then 1 else 0)*4) Px Py Uu Py O O ⟨x0,x1⟩ rb ⟨y0,y1⟩ rb v3 (by split<;>omega) h
  refine⟨s4,h, ?_,by rw[m4,m3];exact hm2,λk c1 c2 c3 c4=>Uv⟩;rw[v4];unfold Bv;rw[hB,Ae (show ¬(Ag=Ac) by decide),An e16];unfold Kx;rw[hr'];congr 2;split<;>simp
 ·rw[Ae e16] at h;by_cases e17:op=17∨op=25
  ·rw[An e17] at h;rw[C8,IF,CV _ _ _ _ _ _ Ap,C8] at h;have hr':(x -y)%4294967296=r:=by
    rw[←hr];rcases e17 with rfl|rfl<;>rfl
   obtain⟨s3,h,v3,m3,k3⟩:=bit2 _ _ s' (if x<y then 1 else 0) (CF r) (by
    simp only[upZ,if_true,hx2,hy2];rfl) KC Ur hP h
   have k3':=Ut;obtain⟨s4,h,v4,m4,k4⟩:=Uq rest s3 s' a b a 9 x y x r (CF r+(if x<y then 1 else 0)*4) Px Uu Px Py O O ⟨x0,x1⟩ ⟨y0,y1⟩ ⟨x0,x1⟩ rb v3 (by split<;>omega) h
   refine⟨s4,h, ?_,by rw[m4,m3];exact hm2,λk c1 c2 c3 c4=>Uv⟩;rw[v4];have eF:Bv op x y=Gp x y:=by
    unfold Bv;rw[hB,Ae (show ¬(Ag=Ac) by decide),Ae e16];rcases e17 with e|e;·rw[An e]
    ·rw[Ae O,An e]
   rw[eF];unfold Gp;rw[hr'];congr 2;split<;>simp
  ·rw[Ae e17,DN] at h;refine⟨s2,h, ?_,hm2,kk⟩;rw[v2'];unfold Bv;rw[hB,Ae (show ¬(Ag=Ac) by decide),Ae e16,Ae (λe=>e17 (Af e)),Ae (λe=>e17 (Ah e)),←hr];unfold II;rw[Ae (λe=>e17 (Ah e))]
end Tr
namespace Tr
open Gs
structure PO(p:Pg)(pl:Pl)(tt:Nat→Nat):Prop where
 form: ∀n,n<p.code.length→(0≤pl.reg n∧pl.reg n<7)∨(pl.reg n= -1∧0≤pl.slot n∧pl.slot n≤64)
 reg: ∀a b,a<b→b<p.code.length→b<tt a→0≤pl.reg b→pl.reg a≠pl.reg b
 slot: ∀a b,a<b→b<p.code.length→b<tt a→pl.reg a= -1→pl.reg b= -1→pl.slot a≠pl.slot b
 use: ∀i,i<p.code.length→3≤(at_ p.code i).op→i≤tt (at_ p.code i).a∧i≤tt (at_ p.code i).b
 od: ∀n∈p.od,p.code.length≤tt n
 or: ∀n∈p.or,p.code.length≤tt n
 fl:0≤p.fl→p.code.length≤tt p.fl.toNat
 tg:0≤p.tg→p.code.length≤tt p.tg.toNat
def Holds(pl:Pl)(s:Hm)(n:Nat)(v:Int):Prop:=if 0≤pl.reg n then s.g (pl.reg n).toNat=v else s.m (64+pl.slot n).toNat=v
def GF(s:St)(j:Nat):Int:=
 if j=0 then s.pc else if j=1 then s.fl else if j=2 then s.d.length else if j=3 then s.r.length else if j<20 then s.d.getD (j -4) 0 else if j<36 then s.r.getD (j -20) 0 else 0
theorem Mm{rd ra:Nat}{x:Int}{rest:List HI}{s s':Hm}(h:BU (hld rd ra x::rest) s=I s'):(s.g ra+x)%18446744073709551616<256∧BU rest ⟨upZ s.g rd (s.m ((s.g ra+x)%18446744073709551616).toNat),s.m⟩=I s':=by
 rw[BU] at h;have e:hstep (hld rd ra x) s=if 256≤(s.g ra+x)%18446744073709551616 then G else I ⟨upZ s.g rd (s.m ((s.g ra+x)%18446744073709551616).toNat),s.m⟩:=rfl;exact Xy
theorem KO{ra rb:Nat}{x:Int}{rest:List HI}{s s':Hm}(h:BU (hst ra x rb::rest) s=I s'):(s.g ra+x)%18446744073709551616<256∧BU rest ⟨s.g,upZ s.m ((s.g ra+x)%18446744073709551616).toNat (s.g rb%4294967296)⟩=I s':=by
 rw[BU] at h;have e:hstep (hst ra x rb) s=if 256≤(s.g ra+x)%18446744073709551616 then G else I ⟨s.g,upZ s.m ((s.g ra+x)%18446744073709551616).toNat (s.g rb%4294967296)⟩:=rfl;exact Xy
section
variable {p:Pg} {pl:Pl} {tt:Nat→Nat} {s:St} {rest:List HI} {σ σ':Hm}
theorem Holds.keep{n:Nat}{v:Int}(h:Holds pl σ n v)(hf:(0≤pl.reg n∧pl.reg n<7)∨(pl.reg n= -1∧0≤pl.slot n∧pl.slot n≤64))(hg: ∀k,k<7→σ'.g k=σ.g k)(hm: ∀k,64≤k→σ'.m k=σ.m k):Holds pl σ' n v:=by
 unfold Holds at h⊢;by_cases q:0≤pl.reg n;·rw[An q] at h⊢;rw[hg _ O];exact h
 ·rw[Ae q] at h⊢;rw[hm _ O];exact h
theorem JY{n into:Nat}{v:Int}(hf:(0≤pl.reg n∧pl.reg n<7)∨(pl.reg n= -1∧0≤pl.slot n∧pl.slot n≤64))(hz:σ.g 15=0)(hv:Holds pl σ n v)(h:BU (CO pl n into++rest) σ=I σ'):∃s1,BU rest s1=I σ'∧s1.g (BJ pl n into)=v∧s1.m=σ.m∧(∀k,k≠into→s1.g k=σ.g k)∧(BJ pl n into<7∨BJ pl n into=into):=by
 unfold CO at h;unfold BJ;unfold Holds at hv;by_cases q:0≤pl.reg n;·rw[An q] at h hv⊢;exact⟨σ,h,hv,rfl,λ_ _=>rfl,Af O⟩
 ·rw[Ae q] at h hv⊢;obtain⟨h1,h2⟩:=Mm h;refine⟨_,h2, ?_,rfl,λk hk=>by simp[upZ,hk],Ah rfl⟩;simp only[upZ,if_true,hz];rw[show((0:Int)+EN pl n)%18446744073709551616=64+pl.slot n by unfold EN;omega];exact hv
structure EI(p:Pg)(pl:Pl)(tt:Nat→Nat)(s:St)(k:Nat)(σ:Hm):Prop where
 z:σ.g 15=0
 d:σ.g 14=(s.d.length:Int) -p.nd
 r:σ.g 13=(s.r.length:Int) -p.nr
 m: ∀j,j<64→σ.m j=GF s j
 v: ∀n,n<k→k≤tt n→Holds pl σ n (val s p.code n)
theorem KQ(hw:WF p)(hs:s.Ok): ∀n,0≤val s p.code n∧val s p.code n<4294967296:=by
 intro n
 induction n using Nat.strongRecOn with
 |ind n ih=>
  by_cases hn:n<p.code.length
  ·have M:=hw.code n hn;rw[Pp s p.code n hn M.ab];unfold Ec;by_cases c0:(at_ p.code n).op=0;·rw[An c0];have:=M.imm;omega
   rw[Ae c0];by_cases c1:(at_ p.code n).op=1
   ·rw[An c1,AU]
    cases e:s.d[s.d.length -1 -(at_ p.code n).imm.toNat]? with
    |none=>simp
    |some z=>have:=hs.d z (List.mem_of_getElem? e);simp only[Option.getD_some];omega
   rw[Ae c1];by_cases c2:(at_ p.code n).op=2
   ·rw[An c2,AU]
    cases e:s.r[s.r.length -1 -(at_ p.code n).imm.toNat]? with
    |none=>simp
    |some z=>have:=hs.r z (List.mem_of_getElem? e);simp only[Option.getD_some];omega
   rw[Ae c2];obtain⟨ha,hb⟩:=M.ab O;have va:=ih _ ha;have vb:=ih _ hb;unfold val at va vb;by_cases c3:(at_ p.code n).op=3;·rw[An c3];exact aluV_bd _ _ _ va.1 va.2 vb.1 vb.2
   ·rw[Ae c3];have:=J8 (at_ p.code n).imm ((evs s p.code).getD (at_ p.code n).a 0) ((evs s p.code).getD (at_ p.code n).b 0);omega
  ·have:val s p.code n=0:=by
    unfold val;rw[AU,FL (by rw[Pb];omega)];rfl
   omega
theorem makeC_ok(hw:WF p)(hp:PO p pl tt)(hs:s.Ok)(hsd:s.d.length≤16)(hsr:s.r.length≤16)(hnd:p.nd≤s.d.length)(hnr:p.nr≤s.r.length){k:Nat}(hk:k<p.code.length)(E:EI p pl tt s k σ){rd:Nat}(hrd:rd<7∨rd=9)(h:BU (KB p pl rd (at_ p.code k)++rest) σ=I σ'): ∃s1,BU rest s1=I σ'∧s1.g rd=val s p.code k∧s1.m=σ.m∧ ∀j,j≠rd→ ¬(7≤j∧j≤12)→s1.g j=σ.g j:=by
 have M:=hw.code k hk;have hv:=Pp s p.code k hk M.ab;rw[hv];have hop:(at_ p.code k).op=0∨(at_ p.code k).op=1∨(at_ p.code k).op=2∨(at_ p.code k).op=3∨(at_ p.code k).op=4:=by have:=M.op;omega
 unfold KB at h;unfold Ec;rcases hop with c|c|c|c|c;·rw[An c] at h⊢;rw[IF,Gb] at h;exact⟨_,h,Mn,rfl,λj hj _=>by simp[upZ,hj]⟩
 ·rw[Ae O,An c] at h⊢;rw[IF] at h;obtain⟨h1,h2⟩:=Mm h;have hi:=M.arg c;refine⟨_,h2, ?_,rfl,λj hj _=>by simp[upZ,hj]⟩;have e:(σ.g 14+(4+(p.nd:Int) -1 -(at_ p.code k).imm))%18446744073709551616=((4+(s.d.length -1 -(at_ p.code k).imm.toNat):Nat):Int):=by rw[E.d];omega
  simp only[upZ,if_true];rw[e,DE,E.m _ O];exact Xz
 ·rw[Ae O,Ae O,An c] at h⊢;rw[IF] at h;obtain⟨h1,h2⟩:=Mm h;have hi:=M.ret c;refine⟨_,h2, ?_,rfl,λj hj _=>by simp[upZ,hj]⟩;have e:(σ.g 13+(20+(p.nr:Int) -1 -(at_ p.code k).imm))%18446744073709551616=((20+(s.r.length -1 -(at_ p.code k).imm.toNat):Nat):Int):=by rw[E.r];omega
  simp only[upZ,if_true];rw[e,DE,E.m _ O];exact XA
 all_goals
  obtain⟨ha,hb⟩:=M.ab O;obtain⟨ua,ub⟩:=hp.use k hk O;have fa:=hp.form _ (Nat.lt_trans ha hk);have fb:=hp.form _ (Nat.lt_trans hb hk);have ba:=KQ hw hs (at_ p.code k).a;have bb:=KQ hw hs (at_ p.code k).b
 ·rw[Ae O,Ae O,Ae O,An c] at h⊢;rw[C8,C8] at h;obtain⟨s1,h1,g1,m1,k1,r1⟩:=JY fa E.z (E.v _ ha ua) h;have Hb:=XB;obtain⟨s2,h2,g2,m2,k2,r2⟩:=JY fb ((k1 15 Ap).trans E.z) Hb h1;have g1':=XC;have hi:=M.alu c;obtain⟨s3,h3,g3,m3,k3⟩:=Uo (at_ p.code k).imm rd _ _ rest s2 σ' _ _ hi.1 O O O g1' g2 ba.1 ba.2 bb.1 bb.2 h2;refine⟨s3,h3, ?_,by rw[m3,m2,m1],λj hj hj2=>by rw[k3 j hj (by omega),k2 j (by omega),k1 j (by omega)]⟩;rw[g3];unfold II;rw[Ae O];rfl
 ·rw[Ae O,Ae O,Ae O,Ae O] at h⊢;rw[C8,C8,C8] at h;obtain⟨s1,h1,g1,m1,k1,r1⟩:=JY fa E.z (E.v _ ha ua) h;have Hb:=XB;obtain⟨s2,h2,g2,m2,k2,r2⟩:=JY fb ((k1 15 Ap).trans E.z) Hb h1;have g1':=XC;have hi:=M.flg c;obtain⟨s3,h3,g3,m3,k3⟩:=flagC_ok (at_ p.code k).imm _ _ _ s2 σ' _ _ O O O O O (by rw[k2 15 (by decide),k1 15 (by decide)];exact E.z) g1' g2 ba.1 ba.2 bb.1 bb.2 h2;rw[IF,CV _ _ _ _ _ _ Ap] at h3;refine⟨_,h3, ?_,by rw[←m1,←m2,←m3],λj hj hj2=>?_⟩;·simp only[upZ,if_true];show s3.g 10=_;rw[g3];rfl
  ·simp only[upZ,Ae hj];rw[k3 j O O O O,k2 j O,k1 j O]
theorem oneC_ok(hw:WF p)(hp:PO p pl tt)(hs:s.Ok)(hsd:s.d.length≤16)(hsr:s.r.length≤16)(hnd:p.nd≤s.d.length)(hnr:p.nr≤s.r.length){k:Nat}(hk:k<p.code.length)(E:EI p pl tt s k σ)(h:BU (Gy p pl k (at_ p.code k)++rest) σ=I σ'): ∃s1,BU rest s1=I σ'∧EI p pl tt s (k+1) s1:=by
 unfold Gy at h;rw[C8] at h;have fk:=hp.form k hk;have hrd:BJ pl k 9<7∨BJ pl k 9=9:=by
  unfold BJ;split;·left;omega
  ·right;rfl
 obtain⟨s1,h1,g1,m1,k1⟩:=makeC_ok hw hp hs hsd hsr hnd hnr hk E hrd h;have bk:=KQ hw hs k;unfold GW at h1;by_cases q:0≤pl.reg k
 ·rw[Ae O,DN] at h1;have eR:BJ pl k 9=(pl.reg k).toNat:=by unfold BJ;rw[An q]
  rw[eR] at g1 k1;refine⟨s1,h1,XD,by rw[k1 14 (by omega) (by omega)];exact E.d,by rw[k1 13 (by omega) (by omega)];exact E.r,λj hj=>by rw[m1];exact E.m j hj,λn hn ht=>?_⟩;by_cases en:n=k;·subst en;unfold Holds;rw[An q];exact g1
  ·have Hn:=E.v n O O;have fn:=hp.form n O;unfold Holds at Hn⊢;by_cases qn:0≤pl.reg n;·rw[An qn] at Hn⊢;have:=hp.reg n k O hk O q;rw[k1 _ O O];exact Hn
   ·rw[Ae qn] at Hn⊢;rw[m1];exact Hn
 ·rw[An O,IF] at h1;have eR:BJ pl k 9=9:=by unfold BJ;rw[Ae q]
  rw[eR] at g1 k1 h1;obtain⟨h2,h3⟩:=KO h1;have z1:s1.g 15=0:=XD;have ep:(s1.g 15+EN pl k)%18446744073709551616=64+pl.slot k:=by rw[z1];unfold EN;omega
  rw[ep,g1,Int.emod_eq_of_lt bk.1 bk.2] at h3;refine⟨_,h3,z1,by show s1.g 14=_;rw[k1 14 (by omega) (by omega)];exact E.d,by show s1.g 13=_;rw[k1 13 (by omega) (by omega)];exact E.r,λj hj=>?_,λn hn ht=>?_⟩;·show upZ s1.m _ _ j=_;unfold upZ;rw[Ae O,m1];exact E.m j hj
  ·by_cases en:n=k;·subst en;unfold Holds;rw[Ae q];simp[upZ]
   ·have Hn:=E.v n O O;have fn:=hp.form n O;unfold Holds at Hn⊢;by_cases qn:0≤pl.reg n;·rw[An qn] at Hn⊢;show s1.g _=_;rw[k1 _ O O];exact Hn
    ·rw[Ae qn] at Hn⊢;have:=hp.slot n k O hk O O O;show upZ s1.m _ _ _=_;unfold upZ;rw[Ae O,m1];exact Hn
theorem XE(hw:WF p)(hp:PO p pl tt)(hs:s.Ok)(hsd:s.d.length≤16)(hsr:s.r.length≤16)(hnd:p.nd≤s.d.length)(hnr:p.nr≤s.r.length): ∀(l:List IIn) (k:Nat) (σ:Hm),p.code.drop k=l→k≤p.code.length→EI p pl tt s k σ→
 BU (Dz p pl k l++rest) σ=I σ'→ ∃s1,BU rest s1=I σ'∧EI p pl tt s p.code.length s1
 |[],k,σ,e,hk,E,h=>by
  have:k=p.code.length:=by have:=List.drop_eq_nil_iff.1 e;omega
  subst this;exact⟨σ,h,E⟩
 |x::l,k,σ,e,hk,E,h=>by
  have hk2:k<p.code.length:=by
   rcases DL k p.code.length with q|q;·exact q
   ·rw[List.drop_eq_nil_iff.2 q] at e;cases e
  have e2:=List.drop_eq_getElem_cons hk2;rw[e] at e2;obtain⟨ex,el⟩:=List.cons.inj e2;have ex2:x=at_ p.code k:=by rw[ex,at_,AU,BM hk2];rfl
  rw[Dz,C8,ex2] at h;obtain⟨s1,h1,E1⟩:=oneC_ok hw hp hs hsd hsr hnd hnr hk2 E h;exact XE hw hp hs hsd hsr hnd hnr l (k+1) s1 el.symm hk2 E1 h1
theorem XF(hw:WF p)(hs:s.Ok)(base:Nat)(hb:base=13∨base=14)(bs:Int)(b0:0≤bs): ∀(l:List Nat) (k:Int) (σ:Hm),(∀n∈l,((0≤pl.reg n∧pl.reg n<7)∨(pl.reg n= -1∧0≤pl.slot n∧pl.slot n≤64))∧Holds pl σ n (val s p.code n))→
 σ.g 15=0→σ.g base=bs→0≤k→k+bs+l.length≤64→BU (Fx pl base k l++rest) σ=I σ'→
 ∃s1,BU rest s1=I σ'∧(∀j,j≠7→s1.g j=σ.g j)∧ ∀j:Nat,s1.m j=if k+bs≤j∧(j:Int)<k+bs+l.length then val s p.code (l.getD (j -(k+bs).toNat) 0) else σ.m j
 |[],k,σ,hv,hz,hg,k0,k1,h=>⟨σ,h,λ_ _=>rfl,λj=>by rw[Ae (by simp only[Fs];omega)]⟩
 |n::l,k,σ,hv,hz,hg,k0,k1,h=>by
  obtain⟨fn,Hn⟩:=hv n AB;rw[Fx,C8,DO] at h;obtain⟨s1,h1,g1,m1,kk,r1⟩:=JY fn hz Hn h;obtain⟨h2,h3⟩:=KO h1;have bn:=KQ hw hs n;simp only[DD] at k1;have ep:(s1.g base+k)%18446744073709551616=k+bs:=by rw[kk base (by omega),hg];omega
  rw[ep,g1,Int.emod_eq_of_lt bn.1 bn.2] at h3;obtain⟨s2,q1,q2,q3⟩:=XF hw hs base hb bs b0 l (k+1) ⟨s1.g,upZ s1.m (k+bs).toNat (val s p.code n)⟩ (λm hm=>⟨(hv m (by simp[hm])).1,(hv m (by simp[hm])).2.keep (hv m (by simp[hm])).1 (λj hj=>kk j O) (λj hj=>by
   show upZ s1.m _ _ j=_;unfold upZ;rw[Ae O,m1])⟩) ((kk 15 Ap).trans hz) ((kk base O).trans hg) O O h3
  refine⟨s2,q1,λj hj=>by rw[q2 j hj];exact kk j hj,λj=>?_⟩;rw[q3 j];by_cases c:(j:Int)=k+bs;·rw[Ae O,An QM];have:j -(k+bs).toNat=0:=O;rw[this];show upZ s1.m _ _ j=_;unfold upZ;rw[An O];rfl
  ·by_cases c2:k+bs≤j∧(j:Int)<k+bs+(l.length+1:Nat);·rw[An O,An QM];have:j -(k+bs).toNat=(j -(k+1+bs).toNat)+1:=O;rw[this];rfl
   ·rw[Ae O,Ae QM];show upZ s1.m _ _ j=_;unfold upZ;rw[Ae O,m1]
end
end Tr
namespace Tr
open Gs
def Str(l:List HI):Prop:= ∀i∈l,i.op≤15
theorem Str.nil:Str []:=λ_ h=>by simp at h
theorem Str.cons{i:HI}{l:List HI}(h:i.op≤15)(hl:Str l):Str (i::l):=λj hj=>by
 rcases Dx.1 hj with e|e;·rw[e];exact h
 ·exact hl j e
theorem Str.app{a b:List HI}(ha:Str a)(hb:Str b):Str (a++b):=λj hj=>by
 rcases Dc.1 hj with e|e;·exact ha j e
 ·exact hb j e
theorem Gh(rd:Nat)(v:Int):(li rd v).op≤15:=by simp[li]
theorem QN(rd ra:Nat)(v:Int):(hld rd ra v).op≤15:=by simp[hld]
theorem KR(ra:Nat)(v:Int)(rb:Nat):(hst ra v rb).op≤15:=by simp[hst]
theorem Ei{op rd ra rb:Nat}(h:op≤15):(hop op rd ra rb).op≤15:=h
theorem JZ(pl:Pl)(n into:Nat):Str (CO pl n into):=by
 unfold CO;split;·exact Str.nil
 ·exact QO
theorem nM(pl:Pl)(n r:Nat):Str (GW pl n r):=by
 unfold GW;split;·exact Str.nil.cons (KR _ _ _)
 ·exact Str.nil
theorem XG(op:Int)(rd a b:Nat):Str (Is op rd a b):=by
 have hO:Fv op≤15:=by
  unfold Fv
  repeat' split
  all_goals omega
 unfold Is;refine Str.cons (Ei hO) ?_;split;·exact Str.nil
 ·exact(Str.nil.cons (Ei Ap)).cons (Gh _ _)
theorem XH(a b:Nat):Str (IH a b):=(Str.nil.cons (Ei Ap)).cons (Gh _ _)
theorem QP(a:Nat)(b:Int):Str (Fw a b):=((Str.nil.cons (Ei Ap)).cons (Ei Ap)).cons (Gh _ _)
theorem nO(a b c d:Nat):Str (Jg a b c d):=Str.app ((Str.nil.cons (Ei Ap)).cons (Ei Ap)) (Str.app (Str.nil.cons (Ei Ap)) (Str.app (XH _ _) (QP _ _)))
theorem nP(op:Int)(a b:Nat):Str (GX op a b):=by
 unfold GX;refine Str.app (XG _ _ _ _) (Str.app (Str.nil.cons (Ei Ap)) (Str.app (XH _ _) (Str.app (QP _ _) ?_)));split;·exact XI
 split;·exact XI
 ·exact Str.nil
theorem str_oneC(p:Pg)(pl:Pl)(n:Nat)(x:IIn):Str (Gy p pl n x):=by
 unfold Gy KB;refine Str.app ?_ (nM _ _ _);split;·exact Str.nil.cons (Gh _ _)
 split;·exact QO
 split;·exact QO
 split;·exact Str.app (JZ _ _ _) (Str.app (JZ _ _ _) (XG _ _ _ _))
 ·exact Str.app (JZ _ _ _) (Str.app (JZ _ _ _) (Str.app (nP _ _ _) (Str.nil.cons (Ei Ap))))
theorem XJ(p:Pg)(pl:Pl): ∀(l:List IIn) (n:Nat),Str (Dz p pl n l)
 |[],n=>Str.nil
 |x::l,n=>Str.app (str_oneC p pl n x) (XJ p pl l (n+1))
theorem XK(pl:Pl)(base:Nat): ∀(l:List Nat) (k:Int),Str (Fx pl base k l)
 |[],k=>Str.nil
 |n::l,k=>Str.app (JZ _ _ _) ((XK pl base l (k+1)).cons (KR _ _ _))
theorem XL(pl:Pl)(base:Nat)(f w:Int)(l:List Nat):Str (DR pl base f w l):=
 Str.app (XK _ _ _ _) (((Str.nil.cons (KR _ _ _)).cons (Ei Ap)).cons (Gh _ _))
theorem nQ(p:Pg)(pl:Pl):Str (Cy p pl):=Str.app (XJ _ _ _ _) (Str.app (XL _ _ _ _ _) (XL _ _ _ _ _))
theorem str_flsC(p:Pg)(pl:Pl):Str (Cu p pl):=by
 unfold Cu;split;·exact(Str.app (JZ _ _ _) ((Str.nil.cons (KR _ _ _)).cons (Ei Ap))).cons (Gh _ _)
 ·exact Str.nil
theorem str_tgC(p:Pg)(pl:Pl):Str (tgC p pl):=by
 unfold tgC;split;·exact Str.app (JZ _ _ _) (Str.nil.cons (Ei Ap))
 ·exact Str.nil
variable{code:List HI}
theorem DH{m a b:Nat}{s:Hm}{r:Hr}(h:hrun code m ((a:Nat):Int) s=r)(e:a=b):hrun code m ((b:Nat):Int) s=r:=e▸h
variable{pre post:List HI}{n:Nat}{s':Hm}
theorem run_over{s:Hm}{op r:Nat}{tk:Int}(hop_:op=16∨op=17)(e:code=pre++⟨op,0,r,0,((pre.length+2:Nat):Int)⟩::li 9 tk::post)(h:hrun code n pre.length s=⟨1,1,s'⟩):∃m,hrun code m ((pre.length+2:Nat):Int) (if(s.g r=0)=(op=16) then s else⟨upZ s.g 9 tk,s.m⟩)=⟨1,1,s'⟩:=by
 obtain⟨a1,a2⟩:=Nm e
 cases n with
 |zero=>rw[hrun] at h;simp at h
 |succ n=>
  rw[hrun,Ae a2,a1] at h;simp only[] at h;have key: ∀m,hrun code m ((pre.length+1:Nat):Int) s=⟨1,1,s'⟩→ ∃m,hrun code m ((pre.length+2:Nat):Int) ⟨upZ s.g 9 tk,s.m⟩=⟨1,1,s'⟩:=by
   intro m hm;have e2:code=(pre++[⟨op,0,r,0,((pre.length+2:Nat):Int)⟩])++[li 9 tk]++post:=Fq;obtain⟨s1,m',q1,q2⟩:=IG [li 9 tk] (pre++[⟨op,0,r,0,((pre.length+2:Nat):Int)⟩]) post m s s' e2 (Str.nil.cons (Gh _ _)) (DH hm AB);have:s1=⟨upZ s.g 9 tk,s.m⟩:=by
    have q1:I (⟨upZ s.g 9 tk,s.m⟩:Hm)=I s1:=q1;exact(GE q1).symm
   rw[this] at q2;exact⟨m',DH q2 AB⟩
  rcases hop_ with e16|e17
  ·subst e16;rw[An rfl] at h;by_cases q:s.g r=0;·rw[An q] at h;exact XM
   ·rw[Ae q] at h;exact XN
  ·subst e17;rw[Ae Ap,An rfl] at h;by_cases q:s.g r=0;·rw[An q] at h;exact XN
   ·rw[Ae q] at h;exact XM
theorem NW{s:Hm}{v:Int}(e:code=pre++⟨19,0,0,0,v⟩::post)(h:hrun code n pre.length s=⟨1,1,s'⟩):v=1∧s=s':=by
 obtain⟨a1,a2⟩:=Nm e
 cases n with
 |zero=>rw[hrun] at h;simp at h
 |succ n=>
  rw[hrun,Ae a2,a1] at h;simp only[] at h;rw[Ae Ap,Ae Ap,Ae Ap,An Ap] at h;injection h with h1 h2 h3;exact⟨h2,h3⟩
theorem QQ{s:Hm}{base:Nat}{word need most E len:Int}(hb:base=13∨base=14)(e:code=pre++Dj base word need most E++post)(hE: ∀m s,hrun code m E s≠⟨1,1,s'⟩)(hz:s.g 15=0)(hw:0≤word∧word<256)(hl:s.m word.toNat=len)(l0:0≤len∧len≤16)(n0:0≤need∧need≤16)(h:hrun code n pre.length s=⟨1,1,s'⟩):need≤len∧len≤most∧ ∃s1 m,hrun code m ((pre.length+8:Nat):Int) s1=⟨1,1,s'⟩∧s1.m=s.m∧s1.g base=len -need∧ ∀k,k≠base→k≠11→k≠12→s1.g k=s.g k:=by
 have e1:code=pre++[hld base 15 word,li 11 need,hop 12 12 base 11]++(⟨17,0,12,0,E⟩::[li 12 most,hop 12 12 12 base,⟨17,0,12,0,E⟩,hop 4 base base 11]++post):=by rw[e];simp[Dj]
 obtain⟨s1,m1,q1,q2⟩:=IG _ pre _ n s s' e1 (((Str.nil.cons (Ei Ap)).cons (Gh _ _)).cons (QN _ _ _)) h;obtain⟨h1,h2⟩:=Mm q1;have ep:(s.g 15+word)%18446744073709551616=word:=by rw[hz];omega
 rw[ep,hl,Gb,CV _ _ _ _ _ _ Ap] at h2;have h2:=(GE h2).symm;have e2:code=(pre++[hld base 15 word,li 11 need,hop 12 12 base 11])++⟨17,0,12,0,E⟩::([li 12 most,hop 12 12 12 base,⟨17,0,12,0,E⟩,hop 4 base base 11]++post):=NX;obtain⟨z1,m2,q3⟩:=Uk e2 hE (DH q2 AB);have g1:s1.g 12=if len<need then 1 else 0:=by
  rw[h2];have: ¬base=11:=O;simp only[upZ,if_true,Ae this];rfl
 have c1:need≤len:=by
  rcases Int.lt_or_le len need with q|q;·rw[g1,An q] at z1;cases z1
  ·exact q
 have e3:code=(pre++[hld base 15 word,li 11 need,hop 12 12 base 11,⟨17,0,12,0,E⟩])++[li 12 most,hop 12 12 12 base]++(⟨17,0,12,0,E⟩::([hop 4 base base 11]++post)):=NX;obtain⟨s2,m3,q4,q5⟩:=IG _ _ _ m2 s1 s' e3 ((Str.nil.cons (Ei Ap)).cons (Gh _ _)) (DH q3 AB);rw[Gb,CV _ _ _ _ _ _ Ap] at q4;have h4:=(GE q4).symm;have e4:code=(pre++[hld base 15 word,li 11 need,hop 12 12 base 11,⟨17,0,12,0,E⟩,li 12 most,hop 12 12 12 base])++⟨17,0,12,0,E⟩::([hop 4 base base 11]++post):=NX;obtain⟨z2,m4,q6⟩:=Uk e4 hE (DH q5 AB);have gb1:s1.g base=len:=by
  rw[h2];have t1: ¬base=11:=O;have t2: ¬base=12:=O;simp only[upZ,if_true,Ae t1,Ae t2]
 have g2:s2.g 12=if most<len then 1 else 0:=by
  rw[h4];have t2: ¬base=12:=O;simp only[upZ,if_true,Ae t2,gb1];rfl
 have c2:len≤most:=by
  rcases Int.lt_or_le most len with q|q;·rw[g2,An q] at z2;cases z2
  ·exact q
 have e5:code=(pre++[hld base 15 word,li 11 need,hop 12 12 base 11,⟨17,0,12,0,E⟩,li 12 most,hop 12 12 12 base,⟨17,0,12,0,E⟩])++[hop 4 base base 11]++post:=NX;obtain⟨s3,m5,q7,q8⟩:=IG _ _ _ m4 s2 s' e5 (Str.nil.cons (Ei Ap)) (DH q6 AB);rw[CV _ _ _ _ _ _ Ap] at q7;have h5:=(GE q7).symm;have t1: ¬base=11:=O;have t2: ¬base=12:=O;have t3: ¬11=base:=O;refine⟨c1,c2,s3,m5,DH q8 AB,by rw[h5,h4,h2], ?_,λk k1 k2 k3=>?_⟩;·rw[h5];simp only[upZ,if_true];rw[h4];simp only[upZ,Ae t2];rw[gb1,h2];simp only[upZ,if_true,Ae t3,Gz,if_false];show(len -need)%18446744073709551616=_;omega
 ·rw[h5];simp only[upZ,Ae k1];rw[h4];simp only[upZ,Ae k3];rw[h2];simp only[upZ,Ae k1,Ae k2,Ae k3]
variable{p:Pg}{pl:Pl}{rest:List HI}{σ σ':Hm}
theorem XO{s:St}(hw:WF p)(hs:s.Ok)(base:Nat)(hb:base=13∨base=14)(bs:Int)(b0:0≤bs)(l:List Nat)(k word:Int)(hv: ∀n∈l,((0≤pl.reg n∧pl.reg n<7)∨(pl.reg n= -1∧0≤pl.slot n∧pl.slot n≤64))∧Holds pl σ n (val s p.code n))(hz:σ.g 15=0)(hg:σ.g base=bs)(k0:4≤k)(k1:k+bs+l.length≤64)(hwd:word=2∨word=3)(h:BU (DR pl base k word l++rest) σ=I σ'):∃s1,BU rest s1=I σ'∧(∀j,j≠7→j≠11→s1.g j=σ.g j)∧ ∀j:Nat,s1.m j=if(j:Int)=word then bs+l.length else if k+bs≤j∧(j:Int)<k+bs+l.length then val s p.code (l.getD (j -(k+bs).toNat) 0) else σ.m j:=by
 unfold DR at h;rw[C8] at h;obtain⟨s1,h1,g1,m1⟩:=XF hw hs base hb bs b0 l k σ hv hz hg O k1 h;simp only[DO,DN] at h1;rw[Gb,CV _ _ _ _ _ _ Ap] at h1;obtain⟨h2,h3⟩:=KO h1;have gb:s1.g base=bs:=by rw[g1 base (by omega)];exact hg
 have gz:s1.g 15=0:=by rw[g1 15 (by decide)];exact hz
 have t1: ¬base=11:=O;simp only[upZ,if_true,Ae t1,gb,gz,Gz,if_false] at h3;have ep:(0+word)%18446744073709551616=word:=O;have ev:Cl 3 (l.length:Int) bs=(l.length:Int)+bs:=by
  show((l.length:Int)+bs)%18446744073709551616=_;omega
 rw[ep,ev] at h3;refine⟨_,h3,λj j1 j2=>?_,λj=>?_⟩;·simp only[upZ,Ae j2];exact g1 j j1
 ·show upZ s1.m word.toNat _ j=_;unfold upZ;by_cases q:(j:Int)=word;·rw[An O,An q];omega
  ·rw[Ae O,Ae q];exact m1 j
theorem nR(p:Pg)(pl:Pl)(E E':Int):(BQ p pl E).length=(BQ p pl E').length:=by
 unfold BQ;split;·rfl
 split;·simp[Dj]
 ·simp[Ed,Dj]
theorem flag_bit(fl:Int)(h0:0≤fl)(h1:fl<16)(br:Int)(hb:33≤br∧br≤37):(AX .and AQ fl (EO br)=0)=((if br=34 then 17 else 16:Nat)=16)↔ ¬Dg br fl=Ag:=by
 obtain⟨a,rfl⟩:=DT h0;have h:=Wv;have hb':br=33∨br=34∨br=35∨br=36∨br=37:=O;rcases hb' with rfl|rfl|rfl|rfl|rfl<;>rcases h with rfl|rfl|rfl|rfl|rfl|rfl|rfl|rfl|rfl|rfl|rfl|rfl|rfl|rfl|rfl|rfl<;>decide
theorem and_15(v:Int)(h0:0≤v)(h1:v<4294967296):AX .and AQ 15 v=v%16:=by
 obtain⟨a,rfl⟩:=DT h0;have:=u64_and_nat 15 a O O;have e:((15:Nat):Int)=15:=rfl;rw[e] at this;rw[this,Nat.and_comm,show(15:Nat)=2^4 -1 by rfl,Nat.and_two_pow_sub_one_eq_mod];omega
structure FM(t:St)(ct:Int)(σ:Hm):Prop where
 pc:σ.m 0=t.pc
 fl:σ.m 1=t.fl
 dn:σ.m 2=t.d.length
 rn:σ.m 3=t.r.length
 d: ∀j,j<t.d.length→σ.m (4+j)=t.d.getD j 0
 r: ∀j,j<t.r.length→σ.m (20+j)=t.r.getD j 0
 ct:σ.m 36=ct
theorem flsC_ok{s:St}(hw:WF p)(hs:s.Ok)(hf:0≤p.fl→((0≤pl.reg p.fl.toNat∧pl.reg p.fl.toNat<7)∨(pl.reg p.fl.toNat= -1∧0≤pl.slot p.fl.toNat∧pl.slot p.fl.toNat≤64))∧Holds pl σ p.fl.toNat (val s p.code p.fl.toNat))(hz:σ.g 15=0)(h1:σ.m 1=s.fl)(h:BU (Cu p pl++rest) σ=I σ'):∃s1,BU rest s1=I σ'∧(∀j,j≠7→j≠11→s1.g j=σ.g j)∧s1.m 1=(if p.fl= -1 then s.fl else vat (evs s p.code) p.fl%16)∧ ∀j,j≠1→s1.m j=σ.m j:=by
 unfold Cu at h;by_cases q:0≤p.fl
 ·obtain⟨f1,f2⟩:=hf q;rw[An q] at h;simp only[DO,DN,C8] at h;rw[Gb] at h;have H1:Holds pl ⟨upZ σ.g 11 15,σ.m⟩ p.fl.toNat (val s p.code p.fl.toNat):=f2.keep f1 (λk hk=>by show upZ _ _ _ k=_;unfold upZ;rw[Ae (by omega)]) (λ_ _=>rfl);obtain⟨s1,h2,g1,m1,k1,r1⟩:=JY (σ:=⟨upZ σ.g 11 15,σ.m⟩) f1 (show upZ σ.g 11 15 15=0 from by unfold upZ;rw[Ae (by decide)];exact hz) H1 h;rw[CV _ _ _ _ _ _ Ap] at h2;obtain⟨h3,h4⟩:=KO h2;have z1:s1.g 15=0:=by rw[k1 15 (by decide)];show upZ σ.g 11 15 15=0;unfold upZ;rw[Ae (by decide)];exact hz
  have g11:s1.g 11=15:=by rw[k1 11 (by decide)];show upZ σ.g 11 15 11=15;simp[upZ]
  have bn:=KQ hw hs p.fl.toNat;have ev:Cl 5 15 (val s p.code p.fl.toNat)=val s p.code p.fl.toNat%16:=and_15 _ bn.1 bn.2;simp only[upZ,if_true,Gz,if_false,z1,g11,g1,ev] at h4;refine⟨_,h4,λj j1 j2=>?_, ?_,λj j1=>?_⟩;·simp only[upZ,Ae j2];rw[k1 j j1];show upZ σ.g 11 15 j=_;unfold upZ;rw[Ae j2]
  ·rw[Ae O];show upZ s1.m ((0+1)%18446744073709551616:Int).toNat (val s p.code p.fl.toNat%16%4294967296) 1=_;unfold upZ;rw[An Ap];show(val s p.code p.fl.toNat%16)%4294967296=val s p.code p.fl.toNat%16;omega
  ·show upZ s1.m ((0+1)%18446744073709551616:Int).toNat (val s p.code p.fl.toNat%16%4294967296) j=_;unfold upZ;rw[Ae (by show ¬j=1;exact j1),m1]
 ·rw[Ae q,DN] at h;have:p.fl= -1:=by have:=hw.fl;omega
  exact⟨σ,h,λ_ _ _=>rfl,by rw[An this];exact h1,λ_ _=>rfl⟩
theorem tgC_ok{s:St}{x:Int}(hw:WF p)(hs:s.Ok)(hf:0≤p.tg→((0≤pl.reg p.tg.toNat∧pl.reg p.tg.toNat<7)∨(pl.reg p.tg.toNat= -1∧0≤pl.slot p.tg.toNat∧pl.slot p.tg.toNat≤64))∧Holds pl σ p.tg.toNat (val s p.code p.tg.toNat))(hz:σ.g 15=0)(h1:σ.g 9=x)(h:BU (tgC p pl++rest) σ=I σ'):∃s1,BU rest s1=I σ'∧s1.g 15=0∧s1.g 9=(if p.tg≠ -1 then vat (evs s p.code) p.tg else x)∧s1.m=σ.m:=by
 unfold tgC at h;by_cases q:0≤p.tg
 ·obtain⟨f1,f2⟩:=hf q;rw[An q] at h;simp only[DO,DN,C8] at h;obtain⟨s1,h2,g1,m1,k1,r1⟩:=JY f1 hz f2 h;rw[CV _ _ _ _ _ _ Ap] at h2;refine⟨_,h2, ?_, ?_,m1⟩;·show upZ s1.g 9 (Cl 2 (s1.g (BJ pl p.tg.toNat 7)) (s1.g 0)) 15=_;unfold upZ;rw[Ae Ap,k1 15 Ap];exact hz
  ·rw[An O];show upZ s1.g 9 (Cl 2 (s1.g (BJ pl p.tg.toNat 7)) (s1.g 0)) 9=_;unfold upZ;rw[An rfl];show s1.g _=_;rw[g1];rfl
 ·rw[Ae q,DN] at h;have:p.tg= -1:=NY;exact⟨σ,h,hz,by rw[Ae (by simp[this])];exact h1,rfl⟩
end Tr
namespace Tr
open Gs
theorem XP(D:List Int)(k:Nat)(hk:k≤D.length)(l:List Nat)(f:Nat→Int)(j:Nat)(hj:j<k+l.length):(D.take k++l.map f).getD j 0=if j<k then D.getD j 0 else f (l.getD (j -k) 0):=by
 have hl:(D.take k).length=k:=AA;by_cases c:j<k;·rw[An c,AU,Fo O,Ea c,AU]
 ·rw[Ae c,AU,EK O,hl,EA,AU,BM O];rfl
theorem vals_ok{p:Pg}{pl:Pl}{tt:Nat→Nat}{s:St}{σ s4:Hm}(hw:WF p)(hp:PO p pl tt)(hs:s.Ok)(hsd:s.d.length≤16)(hsr:s.r.length≤16)(hnd:p.nd≤s.d.length)(hnr:p.nr≤s.r.length)
 (hmd:(s.d.length:Int) -p.nd+p.od.length≤16) (hmr:(s.r.length:Int) -p.nr+p.or.length≤16) (z:σ.g 15=0) (d:σ.g 14=(s.d.length:Int) -p.nd) (r:σ.g 13=(s.r.length:Int) -p.nr) (m: ∀j,j<64→σ.m j=GF s j)
 (h:BU (Cy p pl++(Cu p pl++[li 9 p.nx])) σ=I s4):
 s4.g 15=0∧s4.g 9=p.nx∧(0≤p.tg→Holds pl s4 p.tg.toNat (val s p.code p.tg.toNat))∧s4.m 1=(left p s (evs s p.code)).fl∧s4.m 2=(left p s (evs s p.code)).d.length∧s4.m 3=(left p s (evs s p.code)).r.length∧
  (∀j,j<(left p s (evs s p.code)).d.length→s4.m (4+j)=(left p s (evs s p.code)).d.getD j 0)∧(∀j,j<(left p s (evs s p.code)).r.length→s4.m (20+j)=(left p s (evs s p.code)).r.getD j 0):=by
 unfold Cy at h
 rw[C8,C8] at h
 have E0:EI p pl tt s 0 σ:=⟨z,d,r,m,λn hn=>absurd hn O⟩
 obtain⟨s1,h1,E1⟩:=XE hw hp hs hsd hsr hnd hnr p.code 0 σ rfl (Bn _) E0 h
 have hv1: ∀n,n<p.code.length→p.code.length≤tt n→((0≤pl.reg n∧pl.reg n<7)∨(pl.reg n= -1∧0≤pl.slot n∧pl.slot n≤64))∧Holds pl s1 n (val s p.code n):=λn hn ht=>⟨hp.form n hn,E1.v n hn ht⟩
 obtain⟨s2,h2,g2,m2⟩:=XO hw hs 14 (Ah rfl) ((s.d.length:Int) -p.nd) O p.od 4 2 (λn hn=>hv1 n (hw.od n hn) (hp.od n hn)) E1.z E1.d O O (Af rfl) h1
 have hv2: ∀n,n<p.code.length→p.code.length≤tt n→((0≤pl.reg n∧pl.reg n<7)∨(pl.reg n= -1∧0≤pl.slot n∧pl.slot n≤64))∧Holds pl s2 n (val s p.code n):=λn hn ht=>
  ⟨hp.form n hn,(hv1 n hn ht).2.keep (hp.form n hn) (λk hk=>g2 k O O) (λk hk=>by rw[m2 k,Ae (by omega),Ae (by omega)])⟩
 obtain⟨s3,h3,g3,m3⟩:=XO hw hs 13 (Af rfl) ((s.r.length:Int) -p.nr) O p.or 20 3 (λn hn=>hv2 n (hw.or n hn) (hp.or n hn)) ((g2 15 Ap Ap).trans E1.z) ((g2 13 Ap Ap).trans E1.r) O O (Ah rfl) h2
 have hv3: ∀n,n<p.code.length→p.code.length≤tt n→((0≤pl.reg n∧pl.reg n<7)∨(pl.reg n= -1∧0≤pl.slot n∧pl.slot n≤64))∧Holds pl s3 n (val s p.code n):=λn hn ht=>
  ⟨hp.form n hn,(hv2 n hn ht).2.keep (hp.form n hn) (λk hk=>g3 k O O) (λk hk=>by rw[m3 k,Ae (by omega),Ae (by omega)])⟩
 have hz3:s3.g 15=0:=by rw[g3 15 (by decide) (by decide),g2 15 (by decide) (by decide)];exact E1.z
 have hm1:s3.m 1=s.fl:=by
  rw[m3 1,Ae Ap,Ae O,m2 1,Ae Ap,Ae O,E1.m 1 Ap];rfl
 obtain⟨s5,h5,g5,f5,m5⟩:=flsC_ok hw hs (λq=>hv3 p.fl.toNat (by have:=hw.fl;omega) (hp.fl q)) hz3 hm1 h3
 have h6:I (⟨upZ s5.g 9 p.nx,s5.m⟩:Hm)=I s4:=h5
 have h6:=(GE h6).symm
 have ld:=XQ
 have lr:=XR
 refine⟨?_, ?_,λq=>?_, ?_, ?_, ?_,λj hj=>?_,λj hj=>?_⟩
 ·rw[h6];show upZ s5.g 9 p.nx 15=0;unfold upZ;rw[Ae Ap,g5 15 Ap Ap];exact hz3
 ·rw[h6];show upZ s5.g 9 p.nx 9=_;simp[upZ]
 ·have:=hv3 p.tg.toNat NY (hp.tg q);refine this.2.keep this.1 (λk hk=>?_) (λk hk=>?_);·rw[h6];show upZ s5.g 9 p.nx k=_;unfold upZ;rw[Ae O];exact g5 k O O
  ·rw[h6];exact m5 k O
 ·rw[h6];exact f5
 ·rw[h6,ld];show s5.m 2=_;rw[m5 2 Ap,m3 2,Ae Ap,Ae O,m2 2,An Ap];omega
 ·rw[h6,lr];show s5.m 3=_;rw[m5 3 Ap,m3 3,An Ap];omega
 ·rw[h6];show s5.m (4+j)=_;rw[ld] at hj;have eg:(left p s (evs s p.code)).d.getD j 0=if j<s.d.length -p.nd then s.d.getD j 0 else val s p.code (p.od.getD (j -(s.d.length -p.nd)) 0):=XP s.d (s.d.length -p.nd) O p.od (λn=>(evs s p.code).getD n 0) j hj;rw[eg,m5 _ O,m3 _,Ae O,Ae O,m2 _,Ae O];by_cases c:j<s.d.length -p.nd;·rw[Ae O,An c,E1.m _ O];exact Xz
  ·exact XS
 ·rw[h6];show s5.m (20+j)=_;rw[lr] at hj;have eg:(left p s (evs s p.code)).r.getD j 0=if j<s.r.length -p.nr then s.r.getD j 0 else val s p.code (p.or.getD (j -(s.r.length -p.nr)) 0):=XP s.r (s.r.length -p.nr) O p.or (λn=>(evs s p.code).getD n 0) j hj;rw[eg,m5 _ O,m3 _,Ae O];by_cases c:j<s.r.length -p.nr;·rw[Ae O,An c,m2 _,Ae O,Ae O,E1.m _ O];exact XA
  ·exact XS
theorem emit_ok{p:Pg}{pl:Pl}{tt:Nat→Nat}{s:St}{σ σ':Hm}{n:Nat}(hw:WF p)(hp:PO p pl tt)(hs:s.Ok)(hr:s.right=Ag)(hg: ∀k,σ.g k=0)(hm: ∀j,j<64→σ.m j=GF s j)(h:hrun (codeC p pl) n 0 σ=⟨1,1,σ'⟩):Fits p s∧FM (left p s (evs s p.code)) p.ct σ':=by
 have hr':s.d.length≤16∧s.r.length≤16∧s.fl≤15:=by simpa[St.right,and_assoc] using hr
 obtain⟨hsd,hsr,hfl⟩:=hr';have hfl0:=hs.fl;generalize hE0:(BQ p pl 0).length=L at*;have hL:(BQ p pl (L:Int)).length=L:=(nR p pl _ 0).trans hE0;have hC:codeC p pl=BQ p pl (L:Int)++[⟨19,0,0,0,2⟩]:=by unfold codeC;rw[hE0]
 generalize hcode:codeC p pl=code at*;have hE: ∀m s,hrun code m (L:Int) s≠⟨1,1,σ'⟩:=λm s hh=>by
  rw[←hL] at hh;have e:code=BQ p pl (L:Int)++⟨19,0,0,0,2⟩::[]:=hC;rw[hL] at hh;have:=(NW e (DH hh hL.symm)).1
  cases this
 have hli:Str [li 15 0]:=Str.nil.cons (Gh _ _);have g0:σ.m 2=s.d.length:=by rw[hm 2 (by decide)];rfl
 have g1:σ.m 3=s.r.length:=by rw[hm 3 (by decide)];rfl
 have w1:=hw.nd;have w2:=hw.nr;have fin: ∀post,code=[]++[li 15 0]++post→ ∃m,hrun code m ((1:Nat):Int) ⟨upZ σ.g 15 0,σ.m⟩=⟨1,1,σ'⟩:=by
  intro post e;obtain⟨s1,m1,q1,q2⟩:=IG [li 15 0] [] post n σ σ' e hli h;have:s1=⟨upZ σ.g 15 0,σ.m⟩:=by
   have q1:I (⟨upZ σ.g 15 0,σ.m⟩:Hm)=I s1:=q1;exact(GE q1).symm
  rw[this] at q2;exact⟨m1,DH q2 AB⟩
 have hz1:upZ σ.g 15 0 15=0:=Mn;by_cases c1:Cv p.hd p.nd p.od.length<p.nd
 ·exfalso;have e:BQ p pl (L:Int)=[li 15 0]:=by unfold BQ;rw[An c1]
  rw[e] at hC;obtain⟨m,hm1⟩:=fin [⟨19,0,0,0,2⟩] hC;have e2:code=[li 15 0]++⟨19,0,0,0,2⟩::[]:=hC;have:=(NW e2 (DH hm1 AB)).1
  cases this
 by_cases c2:Cv p.hr p.nr p.or.length<p.nr
 ·exfalso;have e:BQ p pl (L:Int)=li 15 0::Dj 14 2 p.nd (Cv p.hd p.nd p.od.length) (L:Int):=by unfold BQ;rw[Ae c1,An c2]
  rw[e] at hC;obtain⟨m,hm1⟩:=fin (Dj 14 2 p.nd (Cv p.hd p.nd p.od.length) (L:Int)++[⟨19,0,0,0,2⟩]) (by rw[hC];rfl);obtain⟨_,_,s1,m2,q,_⟩:=QQ (pre:=[li 15 0]) (post:=[⟨19,0,0,0,2⟩]) (Ah rfl) (by rw[hC];rfl) hE hz1 Ap g0 O O (DH hm1 AB);have e2:code=(li 15 0::Dj 14 2 p.nd (Cv p.hd p.nd p.od.length) (L:Int))++⟨19,0,0,0,2⟩::[]:=hC;have:=(NW e2 (DH q NZ)).1
  cases this
 have e:BQ p pl (L:Int)=li 15 0::(Ed p (L:Int)++(Cy p pl++FY p pl (17+(Cy p pl).length))):=by unfold BQ;rw[Ae c1,Ae c2]
 rw[e] at hC;unfold Ed at hC;generalize hA:Dj 14 2 p.nd (Cv p.hd p.nd p.od.length) (L:Int)=A at*;generalize hB:Dj 13 3 p.nr (Cv p.hr p.nr p.or.length) (L:Int)=B at*;have lA:A.length=8:=by rw[←hA];rfl
 have lB:B.length=8:=by rw[←hB];rfl
 generalize hT:FY p pl (17+(Cy p pl).length)=Ji at*;obtain⟨m,hm1⟩:=fin (A++(B++(Cy p pl++Ji))++[⟨19,0,0,0,2⟩]) (by rw[hC];simp);obtain⟨a1,a2,s1,m2,q1,q2,q3,q4⟩:=QQ (pre:=[li 15 0]) (post:=B++(Cy p pl++Ji)++[⟨19,0,0,0,2⟩]) (Ah rfl) (by rw[hC,hA];simp) hE hz1 Ap g0 O O (DH hm1 AB);have q2:s1.m=σ.m:=q2;have zs1:s1.g 15=0:=by rw[q4 15 (by decide) (by decide) (by decide)];exact hz1
 obtain⟨b1,b2,s2,m3,p1,p2,p3,p4⟩:=QQ (pre:=[li 15 0]++A) (post:=Cy p pl++Ji++[⟨19,0,0,0,2⟩]) (word:=3) (len:=s.r.length) (Af rfl) (by rw[hC,hB];simp) hE zs1 Ap (show s1.m 3=_ from by rw[q2];exact g1) O O (DH q1 (by simp[lA]));have zs2:s2.g 15=0:=by rw[p4 15 (by decide) (by decide) (by decide)];exact zs1
 have ds2:s2.g 14=(s.d.length:Int) -p.nd:=by rw[p4 14 (by decide) (by decide) (by decide)];exact q3
 unfold Cv at a2 b2 c1 c2;have hmn: ∀a b c:Int,a≤min b c→a≤b∧a≤c:=λa b c hh=>O;obtain⟨a3,a4⟩:=hmn _ _ _ a2;obtain⟨b3,b4⟩:=hmn _ _ _ b2;refine⟨⟨O,O,O,O⟩, ?_⟩;have eT:Ji=Cu p pl++(li 9 p.nx::(brC p ((17+(Cy p pl).length+(Cu p pl).length+6:Nat):Int)++(tgC p pl++Jh p))):=by rw[←hT];rfl
 have hC2:code=([li 15 0]++A++B)++(Cy p pl++(Cu p pl++[li 9 p.nx]))++(brC p ((17+(Cy p pl).length+(Cu p pl).length+6:Nat):Int)++(tgC p pl++Jh p)++[⟨19,0,0,0,2⟩]):=by rw[hC,eT];simp
 obtain⟨s4,m4,r1,r2⟩:=IG _ _ _ m3 s2 σ' hC2 (Str.app (nQ _ _) (Str.app (str_flsC _ _) (Str.nil.cons (Gh _ _)))) (DH p1 (by simp[lA,lB]));obtain⟨v1,v2,v3,v4,v5,v6,v7,v8⟩:=vals_ok hw hp hs hsd hsr O O O O zs2 ds2 p3 (λj hj=>by rw[p2,q2];exact hm j hj) r1;have hflb:0≤(left p s (evs s p.code)).fl∧(left p s (evs s p.code)).fl<16:=by
  unfold left;simp only[];split<;>omega
 generalize hcut:([li 15 0]++A++B)++(Cy p pl++(Cu p pl++[li 9 p.nx]))=pre4 at*;have lpre:pre4.length=18+(Cy p pl).length+(Cu p pl).length:=by rw[←hcut];simp[lA,lB];omega
 obtain⟨pre5,s5,m5,hC5,t1,t2,t3,t4,t5⟩: ∃pre5 s5 m5,code=pre5++((tgC p pl++Jh p)++[⟨19,0,0,0,2⟩])∧hrun code m5 ((pre5.length:Nat):Int) s5=⟨1,1,σ'⟩∧s5.m=s4.m∧s5.g 15=0∧(∀k,k<7→s5.g k=s4.g k)∧
  s5.g 9=if p.br≠0∧Dg p.br (left p s (evs s p.code)).fl=Ag then p.tk else p.nx:=by
  by_cases hb:p.br=0
  ·have eb:brC p ((17+(Cy p pl).length+(Cu p pl).length+6:Nat):Int)=[]:=by unfold brC;rw[An hb]
   rw[eb] at hC2;exact⟨pre4,s4,m4,by rw[hC2];simp,DH r2 (by rw[lpre];simp[lA,lB];omega),rfl,v1,λ_ _=>rfl,by rw[Ae (λq=>q.1 hb)];exact v2⟩
  ·have hbr:33≤p.br∧p.br≤37∧p.tg= -1:=by have:=hw.br;omega
   have eb:brC p ((17+(Cy p pl).length+(Cu p pl).length+6:Nat):Int)=[hld 11 15 1,li 12 (EO p.br),hop 5 11 11 12,⟨if p.br=34 then 17 else 16,0,11,0,((17+(Cy p pl).length+(Cu p pl).length+6:Nat):Int)⟩,li 9 p.tk]:=by unfold brC;rw[Ae hb]
   rw[eb] at hC2;have hC3:code=pre4++[hld 11 15 1,li 12 (EO p.br),hop 5 11 11 12]++(⟨if p.br=34 then 17 else 16,0,11,0,((17+(Cy p pl).length+(Cu p pl).length+6:Nat):Int)⟩::li 9 p.tk::((tgC p pl++Jh p)++[⟨19,0,0,0,2⟩])):=by rw[hC2];simp
   obtain⟨s6,m6,u1,u2⟩:=IG _ pre4 _ m4 s4 σ' hC3 (((Str.nil.cons (Ei Ap)).cons (Gh _ _)).cons (QN _ _ _)) (DH r2 (by rw[lpre];simp[lA,lB];omega));obtain⟨x1,x2⟩:=Mm u1;have ep:(s4.g 15+1)%18446744073709551616=1:=by rw[v1];rfl
   rw[ep,Gb,CV _ _ _ _ _ _ Ap] at x2;have x3:=(GE x2).symm;have hC4:code=(pre4++[hld 11 15 1,li 12 (EO p.br),hop 5 11 11 12])++⟨if p.br=34 then 17 else 16,0,11,0,(((pre4++[hld 11 15 1,li 12 (EO p.br),hop 5 11 11 12]).length+2:Nat):Int)⟩::li 9 p.tk::((tgC p pl++Jh p)++[⟨19,0,0,0,2⟩]):=by
    have el:(pre4++[hld 11 15 1,li 12 (EO p.br),hop 5 11 11 12]).length+2=17+(Cy p pl).length+(Cu p pl).length+6:=by simp[lpre];omega
    rw[el];exact hC3
   obtain⟨m7,y⟩:=run_over KC hC4 (DH u2 AB);have g11:s6.g 11=AX .and AQ (left p s (evs s p.code)).fl (EO p.br):=by
    rw[x3];simp only[upZ,if_true,Gz,if_false];show Cl 5 (s4.m 1) _=_;rw[v4];rfl
   have hk6: ∀k,k≠11→k≠12→s6.g k=s4.g k:=λk k1 k2=>by rw[x3];simp only[upZ,Ae k1,Ae k2]
   have hm6:s6.m=s4.m:=by rw[x3]
   have hfb:=flag_bit _ hflb.1 hflb.2 p.br ⟨hbr.1,hbr.2.1⟩;rw[←g11] at hfb;generalize(if p.br=34 then 17 else 16:Nat)=jop at*;refine⟨pre4++[hld 11 15 1,li 12 (EO p.br),hop 5 11 11 12,⟨jop,0,11,0,((17+(Cy p pl).length+(Cu p pl).length+6:Nat):Int)⟩,li 9 p.tk],_,m7,by rw[hC3];simp,DH y AB, ?_, ?_,λk hk=>?_, ?_⟩
   ·split;·exact hm6
    ·exact hm6
   ·split;·rw[hk6 15 Ap Ap];exact v1
    ·show upZ s6.g 9 p.tk 15=0;unfold upZ;rw[Ae Ap,hk6 15 Ap Ap];exact v1
   ·split;·exact hk6 k O O
    ·show upZ s6.g 9 p.tk k=_;unfold upZ;rw[Ae O];exact hk6 k O O
   ·by_cases hh:Dg p.br (left p s (evs s p.code)).fl=Ag;·rw[Ae (λq=>(hfb.1 q) hh),An ⟨hb,hh⟩];show upZ s6.g 9 p.tk 9=_;simp[upZ]
    ·rw[An (hfb.2 hh),Ae (λq=>hh q.2),hk6 9 Ap Ap];exact v2
 have hC6:code=pre5++(tgC p pl++[hst 15 0 9,li 11 p.ct,hst 15 36 11])++(⟨19,0,0,0,1⟩::[⟨19,0,0,0,2⟩]):=by rw[hC5];simp[Jh]
 obtain⟨s6,m6,u1,u2⟩:=IG _ pre5 _ m5 s5 σ' hC6 (Str.app (str_tgC _ _) (((Str.nil.cons (KR _ _ _)).cons (Gh _ _)).cons (KR _ _ _))) t1;obtain⟨s7,w3,w4,w5,w6⟩:=tgC_ok hw hs (λq=>⟨hp.form p.tg.toNat NY,(v3 q).keep (hp.form p.tg.toNat NY) t4 (λk _=>by rw[t2])⟩) t3 t5 u1;obtain⟨x1,x2⟩:=KO w3;rw[Gb] at x2;obtain⟨x3,x4⟩:=KO x2;have x5:=(GE x4).symm;have hC7:code=(pre5++(tgC p pl++[hst 15 0 9,li 11 p.ct,hst 15 36 11]))++⟨19,0,0,0,1⟩::[⟨19,0,0,0,2⟩]:=hC6;have x6:=(NW hC7 (DH u2 AB)).2;have hpc:s7.g 9=(left p s (evs s p.code)).pc:=by
  rw[w5];rfl
 have bpc:0≤s7.g 9∧s7.g 9<4294967296:=by
  rw[w5];have b0:=hw.nx;have b1:=hw.tk;have b2:=KQ hw hs p.tg.toNat;split;·exact b2
  ·split<;>omega
 have hct:=hw.ct;have hmem: ∀j,σ'.m j=if j=36 then(p.ct:Int) else if j=0 then(left p s (evs s p.code)).pc else s4.m j:=by
  intro j;rw[←x6,x5];have e1:(s7.g 15+0)%18446744073709551616=0:=by rw[w4];rfl
  have e2:(upZ s7.g 11 (p.ct:Int) 15+36)%18446744073709551616=36:=by
   have:upZ s7.g 11 (p.ct:Int) 15=0:=by unfold upZ;rw[Ae (by decide)];exact w4
   rw[this];rfl
  have e3:upZ s7.g 11 (p.ct:Int) 11%4294967296=p.ct:=by
   have:upZ s7.g 11 (p.ct:Int) 11=p.ct:=Mn;rw[this];omega
  simp only[e1,e2,e3];rw[Int.emod_eq_of_lt bpc.1 bpc.2,hpc];show upZ (upZ s7.m (0:Int).toNat (left p s (evs s p.code)).pc) (36:Int).toNat (p.ct:Int) j=_;unfold upZ;by_cases j36:j=36;·rw[An (by rw[j36];rfl),An j36]
  ·rw[Ae (by show ¬j=36;exact j36),Ae j36];by_cases j0:j=0;·rw[An (by rw[j0];rfl),An j0]
   ·rw[Ae (by show ¬j=0;exact j0),Ae j0,w6,t2]
 have ld:=XQ;have lr:=XR;exact⟨by rw[hmem 0,Ae (by decide),An rfl],by rw[hmem 1,Ae (by decide),Ae (by decide)];exact v4,by rw[hmem 2,Ae (by decide),Ae (by decide)];exact v5,by rw[hmem 3,Ae (by decide),Ae (by decide)];exact v6,λj hj=>by rw[hmem _,Ae (by omega),Ae (by omega)];exact v7 j hj,λj hj=>by rw[hmem _,Ae (by omega),Ae (by omega)];exact v8 j hj,by rw[hmem 36,An rfl]⟩
end Tr
namespace Tr
open Gs
structure HOk(i:HI):Prop where
 rd:i.rd<16
 ra:i.ra<16
 rb:i.rb<16
 imm:0≤i.imm∧i.imm≤4294967295
 form:(i.op=1∧i.ra=0∧i.rb=0)∨(i.op=2∧i.rb=0∧i.imm=0)∨(3≤i.op∧i.op≤13∧i.imm=0)∨(i.op=14∧i.rb=0)∨(i.op=15∧i.rd=0)∨((i.op=16∨i.op=17)∧i.rd=0∧i.rb=0)∨(i.op=19∧i.rd=0∧i.ra=0∧i.rb=0)
def HAll(l:List HI):Prop:= ∀i∈l,HOk i
theorem HAll.nil:HAll []:=λi h=>absurd h AB
theorem HAll.cons{i:HI}{l:List HI}(h:HOk i)(k:HAll l):HAll (i::l):=λj hj=>by
 rcases Dx.1 hj with e|e;·rw[e];exact h
 ·exact k j e
theorem HAll.app{l m:List HI}(h:HAll l)(k:HAll m):HAll (l++m):=λj hj=>by
 rcases Dc.1 hj with e|e;·exact h j e
 ·exact k j e
variable{v:Int}
theorem EB{rd:Nat}(h:rd<16)(v0:0≤v)(v1:v≤4294967295):HOk (li rd v):=⟨h,Iz,Iz,⟨v0,v1⟩,Af ⟨rfl,rfl,rfl⟩⟩
variable{ra:Nat}
theorem EC{op rd rb:Nat}(h0:3≤op)(h1:op≤13)(hd:rd<16)(ha:ra<16)(hb:rb<16):HOk (hop op rd ra rb):=⟨hd,ha,hb,⟨KS,Mi⟩,Ah (Ah (Af ⟨h0,h1,rfl⟩))⟩
theorem ok_mov{rd:Nat}(hd:rd<16)(ha:ra<16):HOk (hop 2 rd ra 0):=⟨hd,ha,Iz,⟨KS,Mi⟩,Ah (Af ⟨rfl,rfl,rfl⟩)⟩
theorem Oa{rd:Nat}(hd:rd<16)(ha:ra<16)(v0:0≤v)(v1:v≤4294967295):HOk (hld rd ra v):=⟨hd,ha,Iz,⟨v0,v1⟩,Ah (Ah (Ah (Af ⟨rfl,rfl⟩)))⟩
theorem KT{rb:Nat}(ha:ra<16)(hb:rb<16)(v0:0≤v)(v1:v≤4294967295):HOk (hst ra v rb):=⟨Iz,ha,hb,⟨v0,v1⟩,Ah (Ah (Ah (Ah (Af ⟨rfl,rfl⟩))))⟩
theorem ok_br{op r:Nat}(h:op=16∨op=17)(hr:r<16)(v0:0≤v)(v1:v≤4294967295):HOk ⟨op,0,r,0,v⟩:=⟨Iz,hr,Iz,⟨v0,v1⟩,Ah (Ah (Ah (Ah (Ah (Af ⟨h,rfl,rfl⟩)))))⟩
theorem Ob(v0:0≤v)(v1:v≤4294967295):HOk ⟨19,0,0,0,v⟩:=⟨Iz,Iz,Iz,⟨v0,v1⟩,Ah (Ah (Ah (Ah (Ah (Ah ⟨rfl,rfl,rfl,rfl⟩)))))⟩
def Plc(pl:Pl)(n:Nat):Prop:=(0≤pl.reg n∧pl.reg n<7)∨(pl.reg n= -1∧0≤pl.slot n∧pl.slot n≤64)
section
variable {pl:Pl} {n into rd a b:Nat} {op:Int}
theorem Oc(pl:Pl)(n:Nat):0≤EN pl n∧EN pl n≤4294967295:=QR
theorem Ju(h:Plc pl n)(hi:into<16):BJ pl n into<16:=by
 unfold BJ;split
 ·rcases h with h|h;·omega
  ·omega
 ·exact hi
theorem Kc(hi:into<16):HAll (CO pl n into):=by
 unfold CO;split;·exact HAll.nil
 ·exact HAll.nil.cons (Oa hi O (Oc pl n).1 (Oc pl n).2)
theorem nS(hr:rd<16):HAll (GW pl n rd):=by
 unfold GW;split;·exact HAll.nil.cons (KT O hr (Oc pl n).1 (Oc pl n).2)
 ·exact HAll.nil
theorem XT(op:Int):3≤Fv op∧Fv op≤13:=by
 unfold Fv
 repeat' split
 all_goals omega
theorem all_lowC(hr:rd<16):HAll (lowC rd):=(HAll.nil.cons (EC O O hr hr O)).cons (EB O O O)
theorem XU(hr:rd<16)(ha:a<16)(hb:b<16):HAll (Is op rd a b):=by
 unfold Is;refine HAll.cons (EC (XT op).1 (XT op).2 hr ha hb) ?_;split;·exact HAll.nil
 ·exact all_lowC hr
theorem Od(ha:a<16){up:Int}(h0:0≤up)(h1:up≤4294967295):HAll (Fw a up):=((HAll.nil.cons (EC O O O O ha)).cons (EC O O ha ha O)).cons (EB O h0 h1)
theorem XV(hr:rd<16)(ha:a<16):HAll (IH rd a):=(HAll.nil.cons (EC O O hr ha O)).cons (EB O O O)
theorem XW{x1 x2 y1 y2:Nat}(h1:x1<16)(h2:x2<16)(h3:y1<16)(h4:y2<16):HAll (Jg x1 x2 y1 y2):=
 HAll.app ((HAll.nil.cons (EC O O O h3 h4)).cons (EC O O O h1 h2))
  (HAll.app (HAll.nil.cons (EC O O O O O)) (HAll.app (XV O O) (Od O O O)))
theorem nT(ha:a<16)(hb:b<16):HAll (GX op a b):=by
 unfold GX;refine(XU O ha hb).app (HAll.app (HAll.nil.cons (EC O O O O O)) ((XV O O).app ((Od O O O).app ?_)));split;·exact HAll.app (HAll.nil.cons (EC O O O O ha)) ((Od O O O).app (XW ha O hb O))
 split;·exact HAll.app (HAll.nil.cons (EC O O O ha hb)) ((Od O O O).app (XW ha hb ha O))
 ·exact HAll.nil
end
section
variable {p:Pg} {pl:Pl}
theorem all_oneC(hw:WF p)(hp: ∀n,n<p.code.length→Plc pl n){n:Nat}(hn:n<p.code.length){x:IIn}(hx:x=at_ p.code n):HAll (Gy p pl n x):=by
 have hm:=hw.code n hn;rw[←hx] at hm;have hr:BJ pl n 9<16:=Ju (hp n hn) O;unfold Gy;refine HAll.app ?_ (nS hr);have him:=hm.imm;have hnd:=hw.nd;have hnr:=hw.nr;unfold KB;split;·exact HAll.nil.cons (EB hr him.1 him.2)
 split
 ·rename_i h1
  have:=hm.arg h1;exact XX
 split
 ·rename_i h1
  have:=hm.ret h1;exact XX
 have hab:3≤x.op→x.a<p.code.length∧x.b<p.code.length:=λh=>by have:=hm.ab h;omega
 have hop:=hm.op;split
 ·rename_i h0 h1 h2 h3
  have:=hab O;exact(Kc O).app ((Kc O).app (XU hr (Ju (hp _ this.1) O) (Ju (hp _ this.2) O)))
 ·rename_i h0 h1 h2 h3
  have:=hab O;exact(Kc O).app ((Kc O).app ((nT (Ju (hp _ this.1) O) (Ju (hp _ this.2) O)).app (HAll.nil.cons (ok_mov hr O))))
theorem XY(hw:WF p)(hp: ∀n,n<p.code.length→Plc pl n): ∀(l:List IIn) (n:Nat),n+l.length=p.code.length→p.code.drop n=l→HAll (Dz p pl n l)
 |[],_,_,_=>HAll.nil
 |x::l,n,hl,hd=>by
  have hn:n<p.code.length:=by simp at hl;omega
  have hx:x=at_ p.code n:=by
   have h1:p.code[n]?=I x:=by rw[←List.head?_drop,hd];rfl
   unfold at_;rw[AU,h1];rfl
  refine(all_oneC hw hp hn hx).app (XY hw hp l (n+1) (by simp at hl;omega) ?_);rw[←List.drop_drop,hd];rfl
variable{base:Nat}
theorem XZ(hp: ∀n,n<p.code.length→Plc pl n)(hb:base<16): ∀(out:List Nat) (k:Int),0≤k→k+out.length≤1000→(∀n∈out,n<p.code.length)→HAll (Fx pl base k out)
 |[],_,_,_,_=>HAll.nil
 |n::l,k,h0,h1,h=>by
  refine(Kc O).app (HAll.cons (KT hb (Ju (hp n (h n AB)) O) h0 (by simp at h1;omega)) (XZ hp hb l (k+1) O (by simp at h1⊢;omega) (λj hj=>h j FV)))
theorem Ya(hp: ∀n,n<p.code.length→Plc pl n)(hb:base<16){k word:Int}{out:List Nat}(h0:0≤k)(h1:k+out.length≤1000)(hw:0≤word∧word≤100)(h: ∀n∈out,n<p.code.length):HAll (DR pl base k word out):=
 (XZ hp hb out k h0 h1 h).app (((HAll.nil.cons (KT O O hw.1 O)).cons (EC O O O O hb)).cons (EB O O O))
theorem Oe(hb:base<16){word need most E:Int}(hw:0≤word∧word≤100)(hn:0≤need∧need≤100)(hm:0≤most∧most≤100)(hE:0≤E∧E≤4294967295):HAll (Dj base word need most E):=
 (((((((HAll.nil.cons (EC O O hb hb O)).cons (ok_br (Ah rfl) O hE.1 hE.2)).cons (EC O O O O hb)).cons (EB O hm.1 O)).cons (ok_br (Ah rfl) O hE.1 hE.2)).cons (EC O O O hb O)).cons (EB O hn.1 O)).cons (Oa hb O hw.1 O)
theorem all_endC(hw:WF p)(hp: ∀n,n<p.code.length→Plc pl n)(len:Nat)(hl:len≤100000):HAll (FY p pl len):=by
 have hf:=hw.fl;have ht:=hw.tg;have hnx:=hw.nx;have htk:=hw.tk;have hct:=hw.ct;have hfl:(Cu p pl).length≤10:=by
  unfold Cu CO
  repeat' split
  all_goals simp
 unfold FY;refine HAll.app ?_ (HAll.cons (EB O hnx.1 hnx.2) (HAll.app ?_ (HAll.app ?_ ?_)))
 ·unfold Cu;split;·refine HAll.cons (EB O O O) ((Kc O).app ((HAll.nil.cons (KT O O O O)).cons (EC O O O O (Ju (hp _ O) O))))
  ·exact HAll.nil
 ·unfold brC;split;·exact HAll.nil
  ·have hj:0≤EO p.br∧EO p.br≤100:=by
    unfold EO
    repeat' split
    all_goals omega
   exact((((HAll.nil.cons (EB O htk.1 htk.2)).cons (ok_br KC O O O)).cons (EC O O O O O)).cons (EB O hj.1 O)).cons (Oa O O O O)
 ·unfold tgC;split;·exact(Kc O).app (HAll.nil.cons (ok_mov O (Ju (hp _ O) O)))
  ·exact HAll.nil
 ·exact(((HAll.nil.cons (Ob O O)).cons (KT O O O O)).cons (EB O O O)).cons (KT O O O O)
theorem nU{tt:Nat→Nat}(hw:WF p)(hp:PO p pl tt)(hl:(Cy p pl).length≤10000)(hb:(BQ p pl 0).length≤100000):HAll (codeC p pl):=by
 have hpl: ∀n,n<p.code.length→Plc pl n:=hp.form;have hnd:=hw.nd;have hnr:=hw.nr;have h1:=hw.odl;have h2:=hw.orl;unfold codeC;refine HAll.app ?_ (HAll.nil.cons (Ob O O));generalize hE:(((BQ p pl 0).length:Nat):Int)=E;have hE:0≤E∧E≤4294967295:=O;unfold BQ;split;·exact HAll.nil.cons (EB O O O)
 rename_i hd
 split;·exact HAll.cons (EB O O O) (Oe O O O QS hE)
 rename_i hr
 refine HAll.cons (EB O O O) (HAll.app ?_ (HAll.app ?_ (all_endC hw hpl _ O)));·exact(Oe O O O QS hE).app (Oe O O O QS hE)
 ·exact(XY hw hpl p.code 0 AB rfl).app ((Ya hpl O O O O hw.od).app (Ya hpl O O O O hw.or))
end
end Tr
namespace Tr
open Gs
def atH(l:List HI)(i:Nat):HI:=l.getD i ⟨0,0,0,0,0⟩
def Gi(E:Int)(l:List HI)(i:Nat):List HI:=l.set i {atH l i with imm:=E}
def FH(E:Int)(fx:List Nat)(l:List HI):List HI:=fx.foldl (Gi E) l
theorem Of(E:Int)(l:List HI)(i:Nat):(Gi E l i).length=l.length:=by simp[Gi]
theorem Yb(E:Int): ∀(fx:List Nat) (l:List HI),(FH E fx l).length=l.length
 |[],l=>rfl
 |i::fx,l=>by
  show(FH E fx (Gi E l i)).length=l.length;rw[Yb E fx,Of]
theorem nV(E:Int)(fx:List Nat)(i:Nat)(l:List HI):FH E (fx++[i]) l=Gi E (FH E fx l) i:=by
 unfold FH;rw[List.foldl_append];rfl
def fxP(p:Pg):List Nat:=
 if Cv p.hd p.nd p.od.length<p.nd then[] else if Cv p.hr p.nr p.or.length<p.nr then[4,7] else[4,7,12,15]
theorem fix_ok(p:Pg)(pl:Pl)(E:Int):FH E (fxP p) (BQ p pl 0)=BQ p pl E:=by
 unfold fxP BQ;by_cases h1:Cv p.hd p.nd p.od.length<p.nd;·rw[An h1,An h1,An h1];rfl
 ·rw[Ae h1,Ae h1,Ae h1];by_cases h2:Cv p.hr p.nr p.or.length<p.nr;·rw[An h2,An h2,An h2];rfl
  ·rw[Ae h2,Ae h2,Ae h2];generalize Cy p pl++FY p pl (17+(Cy p pl).length)=X;rfl
theorem fix_code(p:Pg)(pl:Pl):FH ((BQ p pl 0).length:Nat) (fxP p) (BQ p pl 0)++[⟨19,0,0,0,2⟩]=codeC p pl:=by
 rw[fix_ok];rfl
end Tr
end Go.Proofs.YtdfegdoeebaagaaGreatDoor
