import Derived.Test.YtdfegdoeebaagaaGreatDoorX15
open Go.Value renaming slice→Z,int→J
open Option renaming some→I,none→G
open Go.IntKind renaming i64→U,u32→V,u64→AP,wrap_u64→Gg,wrap_u32→Gu
open Go renaming World→Aa,Value→As,Calls→At,Ending→AY,bits→Bv
open Bool renaming false→Ac,true→Ag
open Go.Ending renaming returned→Ax
open And renaming intro→Ay
open Nat renaming lt_of_lt_of_le→Bg
open Int renaming toNat_natCast→Du
set_option linter.all false
set_option maxHeartbeats 40000000
set_option maxRecDepth 1000000
open Go Go.RowKit
namespace Go.Proofs.YtdfegdoeebaagaaGreatDoor
namespace Hh
open Gs Tr Em Hc
structure Ho where
 why:Int
 s:Mh
def hoV(s:Mh)(k:Int)(i:HI):Ho:=
 if i.op=16 then⟨0,Dj s (if s.g i.ra=0 then i.imm else k+1)⟩
 else if i.op=17 then⟨0,Dj s (if s.g i.ra=0 then k+1 else i.imm)⟩
 else if i.op=18 then⟨0,Dj s i.imm⟩
 else if i.op=19 then⟨1,s⟩
 else match hstep i ⟨s.g,s.m⟩ with
  |none=>⟨4,s⟩
  |some t=>⟨0,⟨t.g,t.m,k+1,s.l⟩⟩
def hone(s:Mh):Ho:=if s.at_<0∨(s.l.length:Int)≤s.at_ then⟨2,s⟩ else hoV s s.at_ (at_ s.l s.at_.toNat)
theorem ho_li(s:Mh)(k:Int)(rd ra rb:Nat)(imm:Int):hoV s k ⟨1,rd,ra,rb,imm⟩=⟨0,Dj (Jt s rd imm) (k+1)⟩:=rfl
theorem ho_reck(s:Mh)(k:Int)(op rd ra rb:Nat)(imm:Int)(h0:2≤op)(h1:op≤13):hoV s k ⟨op,rd,ra,rb,imm⟩=⟨0,Dj (Jt s rd (Ck op (s.g ra) (s.g rb))) (k+1)⟩:=by
 unfold hoV hstep;dsimp only;rw[Ae O,Ae O,Ae O,Ae O,Ae O,Ae O,Ae O,Ae O];rfl
theorem ho_ld(s:Mh)(k:Int)(rd ra rb:Nat)(imm:Int):hoV s k ⟨14,rd,ra,rb,imm⟩=if 256≤(s.g ra+imm)%18446744073709551616 then⟨4,s⟩ else⟨0,Dj (Jt s rd (s.m ((s.g ra+imm)%18446744073709551616).toNat)) (k+1)⟩:=by
 by_cases hq:256≤(s.g ra+imm)%18446744073709551616;·simp[hoV,hstep,Jf,hq]
 ·simp[hoV,hstep,Jf,hq,Dj,Jt]
theorem ho_st(s:Mh)(k:Int)(rd ra rb:Nat)(imm:Int):hoV s k ⟨15,rd,ra,rb,imm⟩=if 256≤(s.g ra+imm)%18446744073709551616 then⟨4,s⟩ else⟨0,Dj (setM s ((s.g ra+imm)%18446744073709551616).toNat (s.g rb%4294967296)) (k+1)⟩:=by
 by_cases hq:256≤(s.g ra+imm)%18446744073709551616;·simp[hoV,hstep,Jf,hq]
 ·simp[hoV,hstep,Jf,hq,Dj,setM]
theorem ho_bz(s:Mh)(k:Int)(rd ra rb:Nat)(imm:Int):hoV s k ⟨16,rd,ra,rb,imm⟩=⟨0,Dj s (if s.g ra=0 then imm else k+1)⟩:=rfl
theorem ho_bnz(s:Mh)(k:Int)(rd ra rb:Nat)(imm:Int):hoV s k ⟨17,rd,ra,rb,imm⟩=⟨0,Dj s (if s.g ra=0 then k+1 else imm)⟩:=rfl
theorem ho_exit(s:Mh)(k:Int)(rd ra rb:Nat)(imm:Int):hoV s k ⟨19,rd,ra,rb,imm⟩=⟨1,s⟩:=rfl
variable{w:Aa}
theorem cell_far{p q:Addr}{v:As}{u:As}(h:w.cell? q=I v)(ne:q.block≠p.block):(w.setCell p u).cell? q=I v:=(World.cell?_setCell_other w p q u (λe=>ne (by rw[e]))).trans h
def QY(w:Aa)(p:Mp)(o:Ho)(e:AY)(w':Aa):Prop:=e=Ax (J U o.why)∧Mk w' p o.s∧Fr p.its w w'
theorem step_out(w:Aa)(p:Mp)(s:Mh)(h:Mk w p s)(ha:s.at_<0∨(s.l.length:Int)≤s.at_)(hl:s.l.length≤10000):At Tryz.prog 157 #[↑p.gm] w (QY w p (hone s)):=by
 have e:hone s=⟨2,s⟩:=by unfold hone;rw[An ha]
 rw[e];have c17:=h.c17;have c18:=h.c18;have H:=T h;clear h e;by_cases h0:s.at_<0;·have g0:decide (s.at_<0)=Ag:=JE;exact XZ
 ·have g0:decide (s.at_<0)=Ac:=JE;have g1:decide (s.at_≥(s.l.length:Int))=Ag:=AA;exact XZ
theorem wrapU(x:Int):U64 (IntKind.u64.wrap x):=by
 rw[Gg];exact Gh
theorem reckV_bd(op:Nat)(a b:Int)(ha:U64 a)(hb:U64 b):U64 (Ck op a b):=by
 obtain⟨a0,a1⟩:=ha;obtain⟨b0,b1⟩:=hb;have hb': ∀o,U64 (Bv o AP a b):=λo=>by
  unfold Bv;exact wrapU _
 unfold Ck;split;·exact⟨a0,a1⟩
 split;·exact Gh
 split;·exact Gh
 split;·exact hb' _
 split;·exact hb' _
 split;·exact hb' _
 split
 ·split;·exact Gh
  ·exact Gh
 split
 ·split;·exact Gh
  ·have hp:(0:Int)<2^b.toNat:=Int.pow_pos O;refine⟨Int.ediv_nonneg a0 O,Int.le_trans (Int.ediv_le_self _ a0) a1⟩
 split;·exact Gh
 split
 ·split;·exact Gh
  ·refine⟨Int.ediv_nonneg a0 b0,Int.le_trans (Int.ediv_le_self _ a0) a1⟩
 split;·split<;>exact⟨O,O⟩
 ·split<;>exact⟨O,O⟩
variable{W:Aa}{s:Mh}
theorem Kc{w2:Aa}{p:Mp}(f:Fr Aj w w2)(h:Mk W p s∧Fr p.its w2 W):Mk W p s∧Fr p.its w W:=⟨h.1,(f.mono (λ_ _ e=>e.elim)).tr h.2⟩
theorem Og{w2 W':Aa}{p:Mp}{s':Mh}(h:Mk W p s∧Fr p.its w2 W)(k:Mk W' p s'∧Fr p.its W W'):Mk W' p s'∧Fr p.its w2 W':=⟨k.1,h.2.tr k.2⟩
theorem doneD{p:Mp}(h:Mk W p s∧Fr p.its w W):Mk W.drew p s∧Fr p.its w W.drew:=⟨h.1.fr0 (Ao _ _).drew,h.2.drew⟩
theorem step_in(w:Aa)(p:Mp)(s:Mh)(h:Mk w p s)(k:Nat)(hk:s.at_=k)(hkl:k<s.l.length)(hl:s.l.length≤10000)(ho:HAll s.l):At Tryz.prog 157 #[↑p.gm] w (QY w p (hone s)):=by
 have c17:=h.c17;have c18:=h.c18;obtain⟨b,off,hA',hb,c0,c1,c2,c3,c4⟩:=(At5.of h.code) k hkl;have hok:=ho _ (Mo hkl);have hnot: ¬(s.at_<0∨(s.l.length:Int)≤s.at_):=O;have hone_:hone s=hoV s k (at_ s.l k):=by
  unfold hone;rw[Ae hnot,hk,Du]
 rw[hone_];obtain⟨i,hi⟩:=A8 (at_ s.l k);rw[hi] at c0 c1 c2 c3 c4 hok⊢;rw[hk] at c18;rw[hA'] at c17;have H:=T h;have hop:=Mn hok;have hz:=XS hok;have m1:=hok.rd;have m2:=hok.ra;have m3:=hok.rb;have m4:=hok.imm.1;have m5:=hok.imm.2;obtain⟨op,rd,ra,rb,imm⟩:=i;dsimp only at c0 c1 c2 c3 c4 hop hz m1 m2 m3 m4 m5;have ca:=h.creg ra m2;have cb:=h.creg rb m3;have ba:=h.gb ra;have bb:=h.gb rb;have hgm:=h.lt.1;have g0:decide ((k:Int)<0)=Ac:=AC;have HK:=T (Ay hk (Ay hkl hl));obtain⟨n,hn⟩:=A8 s.l.length;rw[hn] at c17 hkl hl;have g1:decide (n≤k)=Ac:=AA;have g2:decide ((k:Int)≥(n:Int))=Ac:=AA;obtain⟨xa,hxa⟩:=A8 (s.g ra);obtain⟨xb,hxb⟩:=A8 (s.g rb);rw[hxa] at ca ba;rw[hxb] at cb bb;have HV:=T (Ay hxa (Ay hxb (Ay ba bb)));obtain⟨a0,a1⟩:=ba;obtain⟨b0,b1⟩:=bb;have HN:=T hn;have HZ:=T hz;have HOK:=T hop;clear h hk hi hok hone_ hnot hA' hn hxa hxb hz hop;go_in;go_wp2_with fail;go_quiet (fail);go_upto_region 3 with(fail);have F1:Hid (Fr Aj w (w.drewN nq)):=T ((Ao _ w).drewN nq);obtain⟨w1,hw1⟩:=A8 (w.drewN nq);rw[hw1] at F1⊢;have hbl:b<↑w:=hb;have c17:=F1.out.cell c17 hgm id;have c18:=F1.out.cell c18 hgm id;have c0:=F1.out.cell c0 hbl id;have c1:=F1.out.cell c1 hbl id;have c2:=F1.out.cell c2 hbl id;have c3:=F1.out.cell c3 hbl id;have c4:=F1.out.cell c4 hbl id;have ca:=F1.out.cell ca hgm id;have cb:=F1.out.cell cb hgm id;have hgm:=Bg hgm F1.out.size;have hbl:=Bg hbl F1.out.size;clear hw1;go_region_held (λW=>W.cell? ⟨p.gm,17,G⟩=I (Z (I ⟨b,off,G⟩) n p.c)∧W.cell? ⟨p.gm,18,G⟩=I (J U (k:Int))∧W.cell? ⟨b,off+k*5,G⟩=I (J U (op:Int))∧W.cell? ⟨b,off+k*5+1,G⟩=I (J U (rd:Int))∧W.cell? ⟨b,off+k*5+2,G⟩=I (J U (ra:Int))∧W.cell? ⟨b,off+k*5+3,G⟩=I (J U (rb:Int))∧W.cell? ⟨b,off+k*5+4,G⟩=I (J .u32 imm)) (first|with_reducible exact⟨c17,c18,c0,c1,c2,c3,c4⟩|go_keep) (fail);go_wp2_with fail;go_quiet (fail);have F2:Hid (Fr Aj w ((w1.alloc (.cells (hA ⟨op,rd,ra,rb,imm⟩) 270)).drew.drewN nq)):=T (((F1.out.alloc _).drew).drewN _);have bx:=((AI w1 270 (hA ⟨op,rd,ra,rb,imm⟩)).drew).drewN nq;obtain⟨gt,hgt⟩:=A8 w1.heap.size;obtain⟨w2,hw2⟩:=A8 ((w1.alloc (.cells (hA ⟨op,rd,ra,rb,imm⟩) 270)).drew.drewN nq);have hgt0:↑w≤gt:=by rw[←hgt];exact F1.out.size
 rw[hw2] at F2 bx⊢;rw[hgt] at bx⊢;have hpl:IntKind.u64.wrap (xa+imm)=(xa+imm)%18446744073709551616:=Gg _;obtain⟨pl,hplv⟩:=A8 ((xa+imm)%18446744073709551616);rw[hplv] at hpl;have pl0:0≤pl:=O;have pl1:pl≤18446744073709551615:=O;have H2:=T (H.out.fr0 F2.out);have c18:=H2.out.c18;rw[HK.out.1] at c18;have y18:=H2.out.b.frozen 18;have c16:=H2.out.c16;have x0:=bx.cell 0;have x1:=bx.cell 1;have x2:=bx.cell 2;have x3:=bx.cell 3;have x4:=bx.cell 4;have hlx:=bx.lt;have hgm:=H2.out.lt.1;have hgw:=H2.out.lt.2;have BX:=T bx;have HPL:=T hplv;clear hw2 hgt bx c17 c0 c1 c2 c3 c4 ca cb hbl F1 hplv g0 g1 g2;go_upto_block 0 with(fail);have hne:gt≠p.gm:=by have:=H.out.lt.1;omega
 have hr18: ¬(rd:Nat)=18:=O;rcases(show op=1∨(2≤op∧op≤13)∨op=14∨op=15∨op=16∨op=17∨op=19 by have:=HOK.out;omega) with rfl|⟨o1,o2⟩|rfl|rfl|rfl|rfl|rfl
 ·have yr:=H2.out.b.frozen rd;have cr:=H2.out.creg rd m1;have k1:(w2.setCell ⟨p.gm,rd,G⟩ (J AP imm)).drew.cell? ⟨gt,1,G⟩=I (J U (rd:Int)):=cell_far x1 hne;have k4:(w2.setCell ⟨p.gm,rd,G⟩ (J AP imm)).drew.cell? ⟨gt,4,G⟩=I (J V imm):=cell_far x4 hne;have x1d:=QZ;have x4d:w2.drew.cell? ⟨gt,4,G⟩=I (J V imm):=x4;go_wp2_with fail;go_region_held (λW=>W.cell? ⟨gt,1,G⟩=I (J U (rd:Int))∧W.cell? ⟨gt,4,G⟩=I (J V imm)) (first|with_reducible exact⟨x1d,x4d⟩|with_reducible exact⟨k1,k4⟩) (fail)
  all_goals
   go_wp2
   go_ret;rw[ho_li];have hM:=H2.out.reg rd m1 imm ⟨m4,O⟩;exact⟨rfl,doneD (Kc F2.out (Og hM (hM.1.place ((k:Int)+1))))⟩
 ·obtain⟨v,hv⟩:=A8 (Ck op xa xb);have hr:=T (nK w2.drew op xa xb o1 o2 HV.out.2.2.1 HV.out.2.2.2);have vb:=reckV_bd op xa xb HV.out.2.2.1 HV.out.2.2.2;rw[hv] at hr vb;have yr:=H2.out.b.frozen rd;have cr:=H2.out.creg rd m1;have n0:((op:Int)==0)=Ac:=AA;have n1:((op:Int)==1)=Ac:=AA;have n14:((op:Int)==14)=Ac:=AA;have n15:((op:Int)==15)=Ac:=AA;have n16:((op:Int)==16)=Ac:=AA;have n17:((op:Int)==17)=Ac:=AA;have n18:((op:Int)==18)=Ac:=AA;have n19:((op:Int)==19)=Ac:=AA;have k0:(w2.setCell ⟨p.gm,rd,G⟩ (J AP v)).drew.cell? ⟨gt,0,G⟩=I (J U (op:Int)):=cell_far x0 hne;have k1:=Ya;have x0d:w2.drew.cell? ⟨gt,0,G⟩=I (J U (op:Int)):=x0;have x1d:=QZ;have HVV:=T hv;clear hv;go_upto_region 8 with(fail);go_region_held (λW=>W.cell? ⟨gt,0,G⟩=I (J U (op:Int))∧W.cell? ⟨gt,1,G⟩=I (J U (rd:Int))) (first|with_reducible exact⟨x0d,x1d⟩|with_reducible exact⟨k0,k1⟩) ((refine Az hr ?_;rintro e w' ⟨rfl,rfl⟩))
  all_goals
   go_wp2
   go_ret;rw[ho_reck _ _ _ _ _ _ _ o1 o2,HV.out.1,HV.out.2.1,HVV.out];have hM:=H2.out.reg rd m1 v vb;exact⟨rfl,doneD (Kc F2.out (Og hM (hM.1.place ((k:Int)+1))))⟩
 ·
  have hraw:hoV s k ⟨14,rd,ra,rb,imm⟩=if 256≤pl then⟨4,s⟩ else⟨0,Dj (Jt s rd (s.m pl.toNat)) (k+1)⟩:=by rw[ho_ld,HV.out.1,HPL.out]
  have HR:=T hraw;clear hraw;by_cases hq:256≤pl;·exact Yb
  ·have g5:decide (pl≥256)=Ac:=KQ;obtain⟨j,hj⟩: ∃j:Nat,pl=j:=⟨pl.toNat,O⟩;have hj256:j<256:=O;have cj:=H2.out.cw j hj256;have bj:=H2.out.mb j;obtain⟨v,hv⟩:=A8 (s.m j);rw[hv] at cj bj;have v0:=bj.1;have v1:=bj.2;have HJ:=T (Ay hj hv);have yr:=H2.out.b.frozen rd;have cr:=H2.out.creg rd m1;have hpw:p.gw≠p.gm:=λe=>H2.out.ne e.symm;subst hj;have k1:=Ya;have k2:(w2.setCell ⟨p.gm,rd,G⟩ (J .u64 v)).drew.cell? ⟨p.gm,16,G⟩=I (Z (I ⟨p.gw,0,G⟩) 256 256):=(H2.out.reg rd m1 v ⟨v0,O⟩).1.c16;have k3:(w2.setCell ⟨p.gm,rd,G⟩ (J .u64 v)).drew.cell? ⟨p.gw,j,G⟩=I (J .u32 v):=cell_far cj hpw;have x1d:=QZ;have c16d:w2.drew.cell? ⟨p.gm,16,G⟩=I (Z (I ⟨p.gw,0,G⟩) 256 256):=c16;have cjd:w2.drew.cell? ⟨p.gw,j,G⟩=I (J .u32 v):=cj;clear hv bj;go_upto_region 17 with(fail);go_region_held (λW=>W.cell? ⟨gt,1,G⟩=I (J U (rd:Int))∧W.cell? ⟨p.gm,16,G⟩=I (Z (I ⟨p.gw,0,G⟩) 256 256)∧W.cell? ⟨p.gw,j,G⟩=I (J .u32 v)) (first|with_reducible exact⟨x1d,c16d,cjd⟩|with_reducible exact⟨k1,k2,k3⟩) (fail)
   all_goals
    go_wp2
    go_ret;rw[HR.out,Ae O,Du,HJ.out.2];have hM:=H2.out.reg rd m1 v ⟨v0,O⟩;exact⟨rfl,doneD (Kc F2.out (Og hM (hM.1.place ((k:Int)+1))))⟩
 ·
  have hraw:hoV s k ⟨15,rd,ra,rb,imm⟩=if 256≤pl then⟨4,s⟩ else⟨0,Dj (setM s pl.toNat (xb%4294967296)) (k+1)⟩:=by rw[ho_st,HV.out.1,HPL.out,HV.out.2.1]
  have HR:=T hraw;clear hraw;by_cases hq:256≤pl;·exact Yb
  ·have g5:decide (pl≥256)=Ac:=KQ;obtain⟨j,hj⟩: ∃j:Nat,pl=j:=⟨pl.toNat,O⟩;have hj256:j<256:=O;have cj:=H2.out.cw j hj256;have yj:=H2.out.m.frozen j;have hwv:IntKind.u32.wrap xb=xb%4294967296:=Gu _;obtain⟨v,hv⟩:=A8 (xb%4294967296);rw[hv] at hwv;have v0:0≤v:=O;have v1:v≤4294967295:=O;have HJ:=T (Ay hj hv);subst hj;clear hv;have hpw: ¬p.gw=p.gm:=λe=>H2.out.ne e.symm;have hmw: ¬p.gm=p.gw:=H2.out.ne
   go_wp2
   go_ret;rw[HR.out,Ae O,Du,HJ.out.2];have hM:=H2.out.word j v ⟨v0,v1⟩;exact⟨rfl,Kc F2.out (Og hM (hM.1.place ((k:Int)+1)))⟩
 ·
  rcases Int.decEq xa 0 with hz|hz
  ·have g5:(xa==0)=Ac:=Oh;have e:hoV s k ⟨16,rd,ra,rb,imm⟩=⟨0,Dj s (k+1)⟩:=by rw[ho_bz,HV.out.1,Ae hz]
   exact Oi
  ·have g5:(xa==0)=Ag:=Oh;have e:hoV s k ⟨16,rd,ra,rb,imm⟩=⟨0,Dj s imm⟩:=by rw[ho_bz,HV.out.1,An hz]
   exact Oi
 ·rcases Int.decEq xa 0 with hz|hz
  ·have g5:(xa==0)=Ac:=Oh;have e:hoV s k ⟨17,rd,ra,rb,imm⟩=⟨0,Dj s imm⟩:=by rw[ho_bnz,HV.out.1,Ae hz]
   exact Oi
  ·have g5:(xa==0)=Ag:=Oh;have e:hoV s k ⟨17,rd,ra,rb,imm⟩=⟨0,Dj s (k+1)⟩:=by rw[ho_bnz,HV.out.1,An hz]
   exact Oi
 ·go_wp2
  go_ret;rw[ho_exit];exact⟨rfl,Kc F2.out ⟨H2.out,Ao _ _⟩⟩
theorem step_any(w:Aa)(p:Mp)(s:Mh)(h:Mk w p s)(hl:s.l.length≤10000)(ho:HAll s.l):At Tryz.prog 157 #[↑p.gm] w (QY w p (hone s)):=by
 by_cases hc:s.at_<0∨(s.l.length:Int)≤s.at_;·exact step_out w p s h hc hl
 ·exact step_in w p s h s.at_.toNat O O hl ho
end Hh
end Go.Proofs.YtdfegdoeebaagaaGreatDoor
