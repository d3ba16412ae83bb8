import Derived.Test.YtdfegdoeebaagaaGreatDoorY40
import Derived.Test.YtdfegdoeebaagaaGreatDoorY46
open Go.Value renaming slice→Z,int→J,bool→Ao,agg→A8
open Option renaming some→I,none→G
open Go.IntKind renaming u32→V,wrap_u32→EH
open Go renaming World→Aa,Calls→As,Value→At
open Bool renaming false→Ac,true→Ag
open Go.Ending renaming returned→Av
open Nat renaming zero_le→Bn,lt_or_ge→DL
open And renaming intro→Az
open Go.RowKit renaming intOf→AM
open Go.Lit renaming int→Ew
set_option linter.all false
set_option maxHeartbeats 40000000
set_option maxRecDepth 1000000
open Go Go.RowKit
namespace Go.Proofs.YtdfegdoeebaagaaGreatDoor
namespace topFibs
open Fm Nt Rm By Wk Gs Bs Mu Sv Gm Gc Rn Eg Kd Bl
def Jc(K:Int):List Ins:=[⟨2,0⟩,⟨2,1⟩,⟨2,K⟩,⟨3,0⟩,⟨2,0⟩,⟨25,0⟩,⟨33,13⟩,⟨2,1⟩,⟨17,0⟩,⟨7,0⟩,⟨5,0⟩,⟨6,0⟩,⟨16,0⟩,⟨8,0⟩,⟨32,234⟩,⟨4,0⟩,⟨4,0⟩,⟨69,0⟩]
theorem kD(K:Nat)(h:K<40): ∀i∈Jc K,LD i:=by
 intro i hi;simp[Jc] at hi;rcases hi with rfl|rfl|rfl|rfl|rfl|rfl|rfl|rfl|rfl|rfl|rfl|rfl|rfl|rfl|rfl|rfl|rfl
 all_goals first
  |exact⟨Ap,Ap,Ap⟩
  |exact⟨rfl,by dsimp only;omega,by dsimp only;omega⟩
theorem kE: ∀K:Nat,K<40→CL (Jc K)=DB K:=Ap
theorem qY(K:Nat)(hK:K≤39):Halts 200 St.new (mc0 1 (DB K) []) (2*K+2):=by
 obtain⟨h1,h2,h3,h4,h5⟩:=kC K hK;refine⟨λi hi=>⟨(h5 i hi).1,by have:=(h5 i hi).2.1;show _<(0:Int)+8*(200:Nat);exact this⟩,λi hi=>(h5 i hi).2.2.1,λi hi=>?_,h1⟩;rcases DL i (2*K+2) with q|q;·have e:=(h5 i q).2.2.2;have e:(AG i St.new (mc0 1 (DB K) [])).g.b.outs=[]:=e;rw[e];exact Bn _
 ·obtain rfl:i=2*K+2:=O;have e:(AG (2*K+2) St.new (mc0 1 (DB K) [])).g.b.outs=[]:=h4;rw[e];exact Bn _
theorem fld_d(s:St)(X Y:At): ∀w:Aa,(Instr.field 39 (A8 (stc s X Y)) 1).run Tryz.prog w=.ok X w:=λ_=>AL
theorem fld_r(s:St)(X Y:At): ∀w:Aa,(Instr.field 39 (A8 (stc s X Y)) 2).run Tryz.prog w=.ok Y w:=λ_=>AL
set_option maxRecDepth 1000000 in
theorem walk(w:Aa)(hT:Iq.Tab w)(x:Int)(hx:(Ew V x).wf=Ag):As Tryz.prog 4 #[J V x] w λe w'=>e=Av (Ao Ag)∧Fr Aj w w':=by
 obtain⟨x0,x1⟩:=wf_u32 hx;obtain⟨K,hK⟩: ∃K:Nat,x%40=K:=⟨(x%40).toNat,O⟩;have hK9:K≤39:=O;have hrem:x.tmod 40=K:=by rw[Int.tmod_eq_emod_of_nonneg x0];exact hK
 have HT:=T hT;have HF:=T (Ak Aj w);clear hx hK hT;go_in;go_upto_region 2 with(fail);clear hrem x0 x1;go_wp2_with (first
  |((with_reducible refine(Tb _ _).mono ?_);rintro _ w1 ⟨rfl,f1⟩;replace HF:=T (HF.out.tr f1);clear f1)
  |((with_reducible refine(Te _ _).mono ?_);rintro _ w1 ⟨rfl,f1⟩;replace HF:=T (HF.out.tr f1);clear f1)
  |((with_reducible refine(with_any _ _ _).mono ?_);rintro _ w1 ⟨rfl,f1⟩;replace HF:=T (HF.out.tr f1);clear f1))
 have b5:=AI w1 27 (Ku (Jc K)).toArray;have F5:=T (HF.out.alloc (.cells (Ku (Jc K)).toArray 27));have hcode:=code_any (w1.alloc (.cells (Ku (Jc K)).toArray 27)) ↑w1 _ 18 18 (Jc K) rfl (kD K O) b5 (rowI_at _) (by simp[Jc]);have Hc:=T hcode;clear hcode b5 HF;refine Ax Hc ?_;rintro e w6 ⟨A1,c1,rfl,ho,f6⟩;have h6:=jT (kD K O) ho;have eL:(CL (Jc K)).length=40:=by rw[kE K (by omega)];rfl
 rw[eL] at h6⊢;rw[kE K O] at h6;have F6:=T (F5.out.tr f6);have Hb:=T (both_any w6 (FC HT.out F6.out id) 1 O O A1 40 c1 (DB K) h6 O G 0 0 [] (OT _ _ _ _) O 200 (2*K+2) O O (qY K hK9));obtain⟨r1,r2,r3,r4,_⟩:=kC K hK9;have r2:(AG (2*K+2) St.new (mc0 1 (DB K) [])).s.d=[DK K]:=r2;have r3:(AG (2*K+2) St.new (mc0 1 (DB K) [])).s.r=[]:=r3;generalize AG (2*K+2) St.new (mc0 1 (DB K) [])=q at*;obtain⟨s2,g2⟩:=q;dsimp only at r2 r3;have R2:=T (Az r2 r3);clear ho f6 h6 F5 Hc eL r1 r2 r3 r4;go_wp2_with fail;refine Ax Hb ?_;rintro e w7 ⟨gg,a,A,ge,eo,rfl,hG,f7⟩;have HG:=T hG;have F7:=T (F6.out.tr f7);clear hG f7 Hb F6;go_wp2_with fail;go_loopw [7,8,9] (λav bv iv wr=> ∃i:Nat,i≤K∧av=J V (DK i)∧bv=J V (DK (i+1))∧iv=J V i∧wr=w7) (λ_ _ iv _=>K -(AM iv).toNat)
 case atStart=>exact⟨0,Bn _,rfl,rfl,rfl,rfl⟩
 case round=>
  obtain⟨i,hi,rfl,rfl,rfl,rfl⟩:=hrel;by_cases hlt:i<K
  ·have h0:decide ((i:Int)<(K:Int))=Ag:=AA;have h1:IntKind.u32.wrap (DK i+DK (i+1))=DK (i+2):=EH _;have h2:IntKind.u32.wrap ((i:Int)+1)=((i+1:Nat):Int):=EJ
   go_wp2
   go_roundw
   case rel=>exact⟨i+1,O,rfl,by first|rfl|rw[h1],by first|rfl|rw[h2]|go_num,by first|trivial|rfl⟩
   case measure=>simp[AM];omega
  ·obtain rfl:i=K:=O;have h0:decide ((i:Int)<(i:Int))=Ac:=AB;have Hs:=T (MS wr _ gg a A ge eo s2 g2 HG.out);go_wp2_with fail;refine Ax Hs ?_;rintro e w8 ⟨X,c,Y,d,rfl,hst,_,f8⟩;have hX:IntsAt V w8 ↑w8 X 1 [DK i]:=by
    have:=MZ hst.d hst.ok.d;rw[R2.out.1] at this;exact this
   have HG8:=T (HG.out.fr0 f8);have F8:=T (F7.out.tr f8);have hfd:=fld_d s2 (Z X s2.d.length c) (Z Y s2.r.length d);have e1:s2.d.length=1:=by rw[R2.out.1];rfl
   rw[e1] at hfd⊢;obtain⟨b,off,rfl,hb,hc⟩:=hX.at_ (i:=0) O;have hc:w8.cell? ⟨b,off,G⟩=I (J V (DK i)):=hc;have Hs8:=T (MS w8 _ gg a A ge eo s2 g2 HG8.out);clear hst f8 hX Hs e1;go_wp2_with fail;refine Ax Hs8 ?_;rintro e w9 ⟨X2,c2,Y2,d2,rfl,_,_,f9⟩;have hfr:=fld_r s2 (Z X2 s2.d.length c2) (Z Y2 s2.r.length d2);have e2:s2.r.length=0:=by rw[R2.out.2];rfl
   rw[e2] at hfr⊢;have F9:=T (F8.out.tr f9);have Haw:=T (qU w9 (FC HT.out F9.out id));clear f9 Hs8 e2 hfd hc hb;go_wp2_with fail;refine Ax Haw ?_;rintro e w10 ⟨rfl,f10⟩;have F10:=T (F9.out.tr f10);clear f10 Haw
   go_wp2
   go_ret;exact⟨rfl,F10.out⟩
end topFibs
end Go.Proofs.YtdfegdoeebaagaaGreatDoor
