import Derived.Test.YtdfegdoeebaagaaGreatDoorX44
open Go.Value renaming slice→Z,int→J,bool→Ap,agg→A9
open Option renaming some→I,none→G
open Go.IntKind renaming i64→U,u32→V
open Go renaming World→Aa,Value→As,Calls→At,Ending→AY
open Bool renaming true→Ag
open Go.Ending renaming returned→Ax
open And renaming intro→Ay
open Nat renaming le_refl→AD
open Go.Proofs.Tryz renaming underlying39→AQ
open Go.RowKit renaming intOf→AM
set_option linter.all false
set_option maxHeartbeats 40000000
set_option maxRecDepth 1000000
open Go Go.RowKit
namespace Go.Proofs.YtdfegdoeebaagaaGreatDoor
namespace Bl
open Fm Nt Rm By Wk Gs Bs Mu Sv Gm Gc Rn Eg
theorem jM(w:Aa)(n:Nat)(X Y:Aw)(c d:Nat)(xs:List Int)(hA:IntsAt V w ↑w X n xs)(hA':IntsAt V w ↑w Y n xs)(hm:n≤1000000):At Tryz.prog 66 #[Z X n c,Z Y n d] w λe w'=>e=Ax (.bool Ag)∧Fr Aj w w':=by
 go_in;go_wp2_with fail;go_loopw [5] (λi wr=> ∃k:Nat,k≤n∧i=J U k∧Fr Aj w wr) (λi _=>n -(AM i).toNat)
 case atStart=>exact⟨0,O,rfl,Ao _ _⟩
 case round=>
  obtain⟨k,hk,rfl,fr⟩:=hrel;by_cases hlt:k<n;·obtain⟨b,off,rfl,hb,hc⟩:=(hA.fr fr (AD _) (λ_ _ e=>e)).at_ hlt;obtain⟨b',off',rfl,hb',hc'⟩:=(hA'.fr fr (AD _) (λ_ _ e=>e)).at_ hlt;have h0:(0:Int)≤(k:Int):=O;have h1:(k:Int)<(n:Int):=O;generalize xs.getD k 0=z at*;go_wp2_with fail;go_quiet (fail);go_wp2_with fail;exact⟨⟨k+1,O,Bn,fr.drewN _⟩,N6⟩
  ·go_wp2
   go_ret;exact⟨rfl,fr⟩
theorem MY{w:Aa}{base c:Nat}{X:Aw}{zs:List Int}(h:Rw w base (Z X zs.length c) zs)(hb: ∀z∈zs,0≤z∧z≤4294967295):IntsAt V w ↑w X zs.length zs:=
 Bk.own_ints h (λz hz=>OU (n:=z) (hb z hz).1 (hb z hz).2)
def RT(w:Aa)(e:AY)(w':Aa):Prop:=e=Ax (Ap Ag)∧Fr Aj w w'
theorem qG(w:Aa)(s:St)(X Y X2 Y2:Aw)(c d c2 d2:Nat)(h1:StV w 0 s (Z X s.d.length c) (Z Y s.r.length d))(h2:StV w 0 s (Z X2 s.d.length c2) (Z Y2 s.r.length d2))(hk:Rk s):At Tryz.prog 48 #[A9 (stc s (Z X s.d.length c) (Z Y s.r.length d)),A9 (stc s (Z X2 s.d.length c2) (Z Y2 s.r.length d2))] w (RT w):=by
 obtain⟨b1,b2,f0⟩:=Ds w (stc s (Z X s.d.length c) (Z Y s.r.length d)) (stc s (Z X2 s.d.length c2) (Z Y2 s.r.length d2)) 39 39;have HD:=T (λW (f:Fr Aj w W)=>jM W s.d.length X X2 c c2 s.d (MY (h1.fr0 f).d hk.1.d) (MY (h2.fr0 f).d hk.1.d) Lq);have HR:=T (λW (f:Fr Aj w W)=>jM W s.r.length Y Y2 d d2 s.r (MY (h1.fr0 f).r hk.1.r) (MY (h2.fr0 f).r hk.1.r) Ls);have HB1:=T b1;have HB2:=T b2;have F0:=T f0;clear h1 h2 hk b1 b2 f0;go_in;go_wp2_with ((with_reducible refine(HD.out _ F0.out).mono ?_);rintro e1 w1 ⟨rfl,f1⟩;have F1:=T (F0.out.tr f1);have B1:=T (HB1.out.fr f1 id);have B2:=T (HB2.out.fr f1 id);have p2:=B1.out.cell 2;have q2:=B2.out.cell 2;have pl:=B1.out.lt;have ql:=B2.out.lt;clear f1);refine(HR.out _ F1.out).mono ?_;rintro e2 w2 ⟨rfl,f2⟩;have F2:=T (F1.out.tr f2);obtain⟨p0,p1,p2,p3,p4,p5,p6,p7,p8,p9,p10,p11,p12,p13,p14,p15⟩:=Ng (B1.out.fr f2 id);obtain⟨q0,q1,q2,q3,q4,q5,q6,q7,q8,q9,q10,q11,q12,q13,q14,q15⟩:=Ng (B2.out.fr f2 id);have pl:=(B1.out.fr f2 id).lt;have ql:=(B2.out.fr f2 id).lt;clear f2
 go_wp2
 exact NM
theorem qH(w:Aa)(s:St)(X Y X2 Y2:Aw)(c d c2 d2:Nat)(h1:StV w 0 s (Z X s.d.length c) (Z Y s.r.length d))(h2:StV w 0 s (Z X2 s.d.length c2) (Z Y2 s.r.length d2))(hk:Rk s):At Tryz.prog 31 #[A9 (stc s (Z X s.d.length c) (Z Y s.r.length d)),A9 (stc s (Z X2 s.d.length c2) (Z Y2 s.r.length d2))] w (RT w):=by
 obtain⟨b1,b2,f0⟩:=Ds w (stc s (Z X s.d.length c) (Z Y s.r.length d)) (stc s (Z X2 s.d.length c2) (Z Y2 s.r.length d2)) 39 39;have HS:=T (λW (f:Fr Aj w W)=>qG W s X Y X2 Y2 c d c2 d2 (h1.fr0 f) (h2.fr0 f) hk);generalize hW0:(w.alloc (.cells (stc s (Z X s.d.length c) (Z Y s.r.length d)) 39)).alloc (.cells (stc s (Z X2 s.d.length c2) (Z Y2 s.r.length d2)) 39)=W0 at*;have HW:=T hW0;have F0:=T f0;clear h1 h2 hk f0 hW0;go_in;go_upto_region 1 with(fail);rw[HW.out];go_wp2_with (first|((with_reducible refine wpL_lq b1 AQ AJ ?_))|((with_reducible refine wpL_lq b2 AQ AJ ?_)));refine(HS.out _ F0.out).mono ?_;rintro e1 w1 ⟨rfl,f1⟩;have F1:=T (F0.out.tr f1);clear f1;exact Lz
theorem jN(s:St)(X Y M AU Bw D:As)(p m:Int): ∀j,j<(stc s X Y).size→(vwc s X Y M AU Bw D p m)[j]?=(stc s X Y)[j]?:=λj hj=>by
 have hj:j<16:=hj
 match j,hj with
 |0,_=>rfl
 |1,_=>rfl
 |2,_=>rfl
 |3,_=>rfl
 |4,_=>rfl
 |5,_=>rfl
 |6,_=>rfl
 |7,_=>rfl
 |8,_=>rfl
 |9,_=>rfl
 |10,_=>rfl
 |11,_=>rfl
 |12,_=>rfl
 |13,_=>rfl
 |14,_=>rfl
 |15,_=>rfl
 |j+16,h=>omega
theorem qI(w:Aa)(s:St)(g:Mc)(cs ds:AO)(h1:Vw w s g cs)(h2:Vw w s g ds)(hk:Rk s):At Tryz.prog 19 #[A9 cs,A9 ds] w (RT w):=by
 obtain⟨X,c,Y,d,_,_,_,_,rfl,s1,⟨M,c1,rfl,m1,_⟩,⟨AU,c3,rfl,o1,_⟩,⟨Bw,c4,rfl,i1,_⟩,⟨D,c5,rfl,d1,_⟩⟩:=h1;obtain⟨X2,e,Y2,f,_,_,_,_,rfl,s2,⟨M2,e1,rfl,m2,_⟩,⟨O2,e3,rfl,o2,_⟩,⟨I2,e4,rfl,i2,_⟩,⟨D2,e5,rfl,d2,_⟩⟩:=h2;obtain⟨b1,b2,f0⟩:=Ds w (vwc s (Z X s.d.length c) (Z Y s.r.length d) (Z M (g.b.ms.n*64) c1) (Z AU g.b.outs.length c3) (Z Bw g.b.ins.length c4) (Z D 1024 c5) g.b.p g.b.m) (vwc s (Z X2 s.d.length e) (Z Y2 s.r.length f) (Z M2 (g.b.ms.n*64) e1) (Z O2 g.b.outs.length e3) (Z I2 g.b.ins.length e4) (Z D2 1024 e5) g.b.p g.b.m) 41 41;have HS:=T (λW (q:Fr Aj w W)=>qH W s X Y X2 Y2 c d e f (s1.fr0 q) (s2.fr0 q) hk);have St:=T (λW (q:Fr Aj w W)=>Ay (Fs (c:=c1) (m1.fr q (AD _) (λ_ _ e=>e))) (Ay (Fs (c:=e1) (m2.fr q (AD _) (λ_ _ e=>e))) (Ay (Fs (c:=c3) (o1.fr q (AD _) (λ_ _ e=>e))) (Ay (Fs (c:=e3) (o2.fr q (AD _) (λ_ _ e=>e))) (Ay (Fs (c:=c4) (i1.fr q (AD _) (λ_ _ e=>e))) (Ay (Fs (c:=e4) (i2.fr q (AD _) (λ_ _ e=>e))) (Ay (Fs (c:=c5) (d1.fr q (AD _) (λ_ _ e=>e))) (Fs (c:=e5) (d2.fr q (AD _) (λ_ _ e=>e))))))))));generalize hW0:(w.alloc (.cells (vwc s (Z X s.d.length c) (Z Y s.r.length d) (Z M (g.b.ms.n*64) c1) (Z AU g.b.outs.length c3) (Z Bw g.b.ins.length c4) (Z D 1024 c5) g.b.p g.b.m) 41)).alloc (.cells (vwc s (Z X2 s.d.length e) (Z Y2 s.r.length f) (Z M2 (g.b.ms.n*64) e1) (Z O2 g.b.outs.length e3) (Z I2 g.b.ins.length e4) (Z D2 1024 e5) g.b.p g.b.m) 41)=W0 at*;have HW:=T hW0;have F0:=T f0;have v1:=jN s (Z X s.d.length c) (Z Y s.r.length d) (Z M (g.b.ms.n*64) c1) (Z AU g.b.outs.length c3) (Z Bw g.b.ins.length c4) (Z D 1024 c5) g.b.p g.b.m;have v2:=jN s (Z X2 s.d.length e) (Z Y2 s.r.length f) (Z M2 (g.b.ms.n*64) e1) (Z O2 g.b.outs.length e3) (Z I2 g.b.ins.length e4) (Z D2 1024 e5) g.b.p g.b.m;clear m1 o1 i1 d1 m2 o2 i2 d2 s1 s2 hk f0 hW0;go_in;go_upto_region 1 with(fail);rw[HW.out];go_wp2_with (first|((with_reducible refine wpL_ldm (stc s (Z X s.d.length c) (Z Y s.r.length d)) b1 AQ AJ ?q1 ?q2 v1 ?q3 ?_);(case q1=>rfl);(case q2=>rfl);(case q3=>rfl))|((with_reducible refine wpL_ldm (stc s (Z X2 s.d.length e) (Z Y2 s.r.length f)) b2 AQ AJ ?q1 ?q2 v2 ?q3 ?_);(case q1=>rfl);(case q2=>rfl);(case q3=>rfl)));refine(HS.out _ F0.out).mono ?_;rintro x1 w1 ⟨rfl,f1⟩;have F1:=T (F0.out.tr f1);have B1:=b1.fr f1 id;have B2:=b2.fr f1 id;have p1:=B1.cell 16;have p2:=B1.cell 17;have p3:=B1.cell 18;have p4:=B1.cell 19;have p5:w1.cell? ⟨↑w,20,G⟩=I (J V g.b.p):=B1.cell 20;have p6:w1.cell? ⟨↑w,21,G⟩=I (J V g.b.m):=B1.cell 21;have p7:=B1.cell 22;have pl:=B1.lt;have q1:=B2.cell 16;have q2:=B2.cell 17;have q3:=B2.cell 18;have q4:=B2.cell 19;have q5:w1.cell? ⟨↑w+1,20,G⟩=I (J V g.b.p):=B2.cell 20;have q6:w1.cell? ⟨↑w+1,21,G⟩=I (J V g.b.m):=B2.cell 21;have q7:=B2.cell 22;have ql:=B2.lt;obtain⟨t1,t2,t3,t4,t5,t6,t7,t8⟩:=St.out _ F1.out;obtain⟨u1,hu1⟩:=A8 (str (lst g.b.ms.mem (g.b.ms.n*64)));obtain⟨u2,hu2⟩:=A8 (str g.b.outs);obtain⟨u3,hu3⟩:=A8 (str g.b.ins);obtain⟨u4,hu4⟩:=A8 (str (lst g.b.d 1024));rw[hu1] at t1 t2;rw[hu2] at t3 t4;rw[hu3] at t5 t6;rw[hu4] at t7 t8;clear f1 b1 b2 B1 B2 v1 v2 hu1 hu2 hu3 hu4;exact Lz
end Bl
end Go.Proofs.YtdfegdoeebaagaaGreatDoor
