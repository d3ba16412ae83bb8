/- MasksP, TopMasks, behind the merged chain. -/
import Derived.Test.YtpmlgdopfafcgaaGreatDoorY42
open Go Go.RowKit
set_option linter.all false
set_option maxHeartbeats 40000000
set_option maxRecDepth 1000000
namespace Go.Proofs.YtpmlgdopfafcgaaGreatDoor
open Go.RowKit
theorem wf_u32 {n:Int} (h:(Lit.int .u32 n).wf=true):0≤n∧n≤4294967295:=by simpa[Lit.wf,IntKind.min,IntKind.max,IntKind.signed,IntKind.bits] using h
end Go.Proofs.YtpmlgdopfafcgaaGreatDoor
namespace Go.Proofs.YtpmlgdopfafcgaaGreatDoor.Iq
open Go.RowKit
theorem pending_any (w:World) (g p m:Nat) (h:Ctl w g p m):Calls Tryz.prog 16 #[.pointer (some ⟨g,0,none⟩)] w fun e w'=>e=.returned (.int .u32 p)∧w=w':=by
 have c:=Blk.cell h 0
 go_enter Tryz.func16,Tryz.ntmps16
 go_wp2
 go_ret
 exact⟨rfl,rfl⟩
end Go.Proofs.YtpmlgdopfafcgaaGreatDoor.Iq
namespace Go.Proofs.YtpmlgdopfafcgaaGreatDoor.Gm
open Go.RowKit Fm Nt Rm By Wk Gs
def wantF (c:Nat→Bool):Nat→Int
 |0=> -1
 |j+1=>if c (7 -j) then((7 -j:Nat):Int) else wantF c j
theorem want_low (n:Nat) (h:n<256):(n=0→wantF (fun k=>n.testBit k) 8= -1)∧(n≠0→wantF (fun k=>n.testBit k) 8=(Iq.low n:Int)):=by
 have key: ∀n,n<256→(n=0→wantF (fun k=>n.testBit k) 8= -1)∧(n≠0→wantF (fun k=>n.testBit k) 8=(Iq.low n:Int)):=by decide+kernel
 exact key n h
theorem want_congr {c d:Nat→Bool} (h: ∀k,k<8→c k=d k): ∀j,wantF c j=wantF d j
 |0=>rfl
 |j+1=>by
  rw[wantF,wantF,h (7 -j) (by omega),want_congr h j]
def lineB (x y mk k:Nat):Bool:=(decide (k=x)||decide (k=y))&&mk.testBit k
theorem line_bit {x y mk k:Nat} (hx:x<8) (hy:y<8) (hk:k<8):lineB x y mk k=((2^x|||2^y)&&&(mk%256)).testBit k:=by
 unfold lineB
 rw[Nat.testBit_and,Nat.testBit_or,Nat.testBit_two_pow,Nat.testBit_two_pow,show 256=2^8 from rfl,Nat.testBit_mod_two_pow,decide_eq_true hk,Bool.true_and]
 rw[show decide (k=x)=decide (x=k) from decide_eq_decide.2 eq_comm,show decide (k=y)=decide (y=k) from decide_eq_decide.2 eq_comm]
theorem two_lt {x y:Nat} (hx:x<8) (hy:y<8):(2^x|||2^y)<256:=Nat.or_lt_two_pow (n:=8) (Nat.pow_lt_pow_right (by decide) hx) (Nat.pow_lt_pow_right (by decide) hy)
theorem want_line {x y mk:Nat} (hx:x<8) (hy:y<8):(Iq.nextB (2^x|||2^y) (mk%256)=false→wantF (lineB x y mk) 8= -1)∧(Iq.nextB (2^x|||2^y) (mk%256)=true→wantF (lineB x y mk) 8=(Iq.nextN (2^x|||2^y) (mk%256):Int)):=by
 have h:=want_low ((2^x|||2^y)&&&(mk%256)) (Nat.lt_of_le_of_lt Nat.and_le_left (two_lt hx hy))
 rw[←want_congr (fun k hk=>line_bit hx hy hk) 8] at h
 unfold Iq.nextB Iq.nextN
 exact⟨fun q=>h.1 (by simpa using q),fun q=>h.2 (by simpa using q)⟩
theorem two_lines {x y:Nat} (hx:x<8) (hy:y<8):Iq.okAll [(x:Int),(y:Int)]=true∧Iq.raised [(x:Int),(y:Int)] 0=(2^x|||2^y):=by
 have h:Iq.okAll [(x:Int),(y:Int)]=true:=by simp[Iq.okAll];omega
 refine⟨h, ?_⟩
 unfold Iq.raised
 rw[if_pos h]
 simp[Iq.orAll]
theorem mask_told {g:Mc} {mk:Int} {p j:Nat} (h:Im g.b.ms mk 0) (i:Idle g p 0) (m0:0≤mk) (m1:mk≤4294967295) (hi:Iq.nextB p (mk.toNat%256)=true) (hr:RunTo 40 St.new g j):
 ∃s2 g2,blkN j St.new g=⟨s2,g2⟩∧s2.ha=true∧s2.ct=9∧s2.d=[16+(Iq.nextN p (mk.toNat%256):Int)]∧g2.b.p=p:=by
 obtain⟨G,g1,g2,b1,b2,b3,hG,iG,hc,ho,_⟩:=Tx h i m0 m1
 obtain⟨a1,a2,s1,s2,e1,e2,q1,q2,q3,q4,q5,q6,q7⟩:=irq_told (x:=22) (ct:=7) hG iG hi (by decide) (by decide)
 have h3: ∀k,blkN (3+k) St.new g=blkN k (atS 22 7) G:=fun k=>by rw[blkN_add,b3]
 have h4:blkN 4 St.new g=⟨s1,a1⟩:=(h3 1).trans e1
 have h5:blkN 5 St.new g=⟨s2,a2⟩:=(h3 2).trans e2
 have e:=hr.at 5 (fun k hk=>by
  match k,hk with
  |0,_=>exact go_at (by decide) rfl (by show(0:Int)≤0 -0;decide) (by show(0:Int) -0<40;decide) (by decide)
  |1,_=>rw[b1];exact go_at (by decide) rfl (by show(0:Int)≤2 -0;decide) (by show(2:Int) -0<40;decide) (by decide)
  |2,_=>rw[b2];exact go_at (by decide) rfl (by show(0:Int)≤5 -0;decide) (by show(5:Int) -0<40;decide) (by decide)
  |3,_=>rw[b3];exact go_at (by decide) rfl (by show(0:Int)≤7 -0;decide) (by show(7:Int) -0<40;decide) (by decide)
  |4,_=>rw[h4];exact go_at (by decide) q1 (by show 0≤s1.ct -0;omega) (by show s1.ct -0<40;omega) (by decide)) (by rw[h5];exact stop_at (.inr (.inl q3)))
 subst e
 exact⟨s2,a2,h5,q3,q4,q5,q7⟩
theorem mask_ok {g:Mc} {mk:Int} {p:Nat} (h:Im g.b.ms mk 0) (i:Idle g p 0) (m0:0≤mk) (m1:mk≤4294967295) (hi:Iq.nextB p (mk.toNat%256)=true) (k:Nat) (hk: ∀i,i≤k→goB 0 40 (blkN i St.new g).s=true):okB (blkN k St.new g).s (blkN k St.new g).g:=by
 obtain⟨G,g1,g2,b1,b2,b3,hG,iG,hc,ho,o3⟩:=Tx h i m0 m1
 have h3: ∀k,blkN (3+k) St.new g=blkN k (atS 22 7) G:=fun k=>by rw[blkN_add,b3]
 by_cases q:k<3
 ·exact o3 k q
 ·have:=told_ok (x:=22) (ct:=7) (n:=40) hG iG hi (by decide) (by decide) 0 (k -3) (fun i hi=>by
   have:=hk (3+i) (by omega)
   rwa[h3] at this)
  rw[←h3,show 3+(k -3)=k by omega] at this
  exact this
end Go.Proofs.YtpmlgdopfafcgaaGreatDoor.Gm
namespace Go.Proofs.YtpmlgdopfafcgaaGreatDoor.topMasks
open Go.RowKit Fm Nt Rm By Wk Gs Bs Mu Sv Gm Gc Rn Eg Kd Bl
def rowI (l:List Ins):List Value:=(l.map (fun i=>[Value.int .i64 i.op,Value.int .u32 i.n])).flatten
theorem rowI_len (l:List Ins):(rowI l).length=l.length*2:=by
 induction l with
 |nil=>rfl
 |cons i l ih=>simp[rowI] at ih⊢;omega
theorem rowI_app (l m:List Ins):rowI (l++m)=rowI l++rowI m:=by simp[rowI]
theorem rowI_at (l:List Ins): ∀(i:Nat) (x:Ins),l[i]?=some x→(rowI l)[i*2]?=some (.int .i64 x.op)∧(rowI l)[i*2+1]?=some (.int .u32 x.n):=by
 induction l with
 |nil=>intro i x h;simp at h
 |cons y l ih=>
  intro i x h
  match i,h with
  |0,h=>simp at h;subst h;exact⟨rfl,rfl⟩
  |i+1,h=>
   obtain⟨h1,h2⟩:=ih i x (by simpa using h)
   have e1:(i+1)*2=i*2+1+1:=by omega
   rw[e1]
   exact⟨by simpa[rowI] using h1,by simpa[rowI] using h2⟩
theorem one_cells (l:List Ins): ∀u∈rowI l,u.oneCell'=true:=fun u hu=>by
 unfold rowI at hu
 rw[List.mem_flatten] at hu
 obtain⟨q,hq,hu⟩:=hu
 obtain⟨i,_,rfl⟩:=List.mem_map.1 hq
 simp at hu
 rcases hu with rfl|rfl<;>rfl
def headM (mk:Int):List Ins:=[⟨2,128⟩,⟨67,3⟩,⟨2,mk⟩,⟨2,32772⟩,⟨49,0⟩,⟨1,1⟩,⟨67,0⟩,⟨32,254⟩]
def byM (mk:Int) (k:Nat):Int:=mk/2^(8*k)%256
theorem byM_bd (mk:Int) (k:Nat):0≤byM mk k∧byM mk k<256:=by unfold byM;omega
theorem byM_sum {mk:Int} (h0:0≤mk) (h1:mk≤4294967295):byM mk 0+256*(byM mk 1+256*(byM mk 2+256*byM mk 3))=mk:=by
 unfold byM
 rw[show(2:Int)^(8*0)=1 from rfl,show(2:Int)^(8*1)=256 from rfl,show(2:Int)^(8*2)=65536 from rfl,show(2:Int)^(8*3)=16777216 from rfl]
 omega
theorem mask_code (mk:Int):codeL (headM mk)=irqH (byM mk 0) (byM mk 1) (byM mk 2) (byM mk 3)++(List.replicate 0 0++[32,254]):=rfl
theorem mask_insok {mk:Int} (h0:0≤mk) (h1:mk≤4294967295): ∀i∈headM mk,InsOk i:=by
 intro i hi
 simp[headM] at hi
 rcases hi with rfl|rfl|rfl|rfl|rfl|rfl|rfl|rfl
 ·exact⟨by decide,by decide,by decide⟩
 ·exact⟨by decide,by decide,by decide⟩
 ·exact⟨rfl,h0,h1⟩
 all_goals exact⟨by decide,by decide,by decide⟩
theorem gpend_any (w:World) (K:Nat→Prop) (gg:Nat) (a:Ab) (A:Au) (ge:Nat) (e:Eo) (s:St) (g:Mc) (h:Gt w K gg a A ge e s g):
 w.cell? ⟨gg,0,none⟩=some (.pointer (some ⟨a.gB,0,none⟩))∧gg<w.heap.size∧w.cell? ⟨a.gB,0,none⟩=some (.pointer (some ⟨a.gc,0,none⟩))∧a.gB<w.heap.size∧
 Calls Tryz.prog 16 #[.pointer (some ⟨a.gc,0,none⟩)] w (fun ed w'=>ed=.returned (.int .u32 g.b.p)∧w=w'):=by
 obtain⟨gp,X,x,Y,y,hb,hS,hne,P,p1,p2,p3,p4,hM⟩:=h.ex
 obtain⟨F,hbu,h2,h3⟩:=hM.lt
 exact⟨hb.cell 0,hb.lt,hbu.b.cell 0,hbu.b.lt,Iq.pending_any w a.gc g.b.p g.b.m hbu.c⟩
theorem hand_ok: ∀i∈([⟨66,5⟩,⟨69,0⟩]:List Ins),InsOk i:=by
 intro i hi
 simp at hi
 rcases hi with rfl|rfl<;>exact⟨by decide,by decide,by decide⟩
theorem hand_at: ∀(i:Nat) (x:Ins),([⟨66,5⟩,⟨69,0⟩]:List Ins)[i]?=some x→(#[.int .i64 66,.int .u32 5,.int .i64 69,.int .u32 0]:Array Value)[i*2]?=some (.int .i64 x.op)∧(#[.int .i64 66,.int .u32 5,.int .i64 69,.int .u32 0]:Array Value)[i*2+1]?=some (.int .u32 x.n):=fun i x hx=>by
 match i,hx with
 |0,hx=>cases hx;exact⟨rfl,rfl⟩
 |1,hx=>cases hx;exact⟨rfl,rfl⟩
 |i+2,hx=>simp at hx
theorem hand_code:codeL [⟨66,5⟩,⟨69,0⟩]=[66,5,69]:=by decide
theorem own_ge_ {w:World} {base n s q:Nat} {e:TypeId} {v:Value} {xs:List Value} (h:w.ownsRow base e s v n xs) (hn:0<n) (hq:v.ownBlock=some q):base≤q:=by
 obtain⟨g',cap,cur,hv,hg,_⟩:=own_blk h hn
 rw[hv] at hq
 have:g'=q:=by simpa[Value.ownBlock] using hq
 omega
theorem gbus_0 {w:World} {K:Nat→Prop} {gg:Nat} {a:Ab} {A:Au} {ge:Nat} {e:Eo} {s:St} {g:Mc} (h:Gt w K gg a A ge e s g):w.cell? ⟨a.gB,0,none⟩=some (.pointer (some ⟨a.gc,0,none⟩)):=by
 obtain⟨gp,X,c,Y,d,hb,hS,hne,P,p1,p2,p3,p4,hM⟩:=h.ex
 obtain⟨F,hbu,_⟩:=hM.bus
 exact hbu.b.cell 0
theorem state_top {w W:World} {base q:Nat} {s:St} {X Y:Option Addr} {c d:Nat} {v:Int} {cs:Array Value} (h:StV w base s (.slice X s.d.length c) (.slice Y s.r.length d)) (hb:Blk w q 41 cs) (f:Fr (· =q) w W) (hd:s.d=[v]): ∃gd,X=some ⟨gd,0,none⟩∧W.cell? ⟨gd,0,none⟩=some (.int .u32 v)∧gd<W.heap.size:=by
 have hr:=h.d
 unfold Rw at hr
 have hn:0<s.d.length:=by rw[hd];exact Nat.zero_lt_one
 obtain⟨g',cap,cur,hv,hbase,hbk,hnc,hcm,hcs,htk⟩:=own_blk hr hn
 injection hv with hv _ _
 subst hv
 have hl:=hbk.lt
 refine⟨g',rfl, ?_,Nat.lt_of_lt_of_le hl f.size⟩
 have hne: ¬g'=q:=Blk.ne_ hbk hb (by decide)
 refine f.cell ?_ hl hne
 rw[hbk.cell 0,←Array.getElem?_toList,←List.getElem?_take_of_lt (show 0<s.d.length*1 by omega),htk,hd]
 rfl
theorem or_two {x y:Nat} (hx:x<8) (hy:y<8):((2^x|||2^y:Nat):Int)=bits BinOp.or IntKind.u32 (2^x%4294967296) (2^y%4294967296):=by
 have: ∀x,x<8→ ∀y,y<8→((2^x|||2^y:Nat):Int)=bits BinOp.or IntKind.u32 (2^x%4294967296) (2^y%4294967296):=by decide+kernel
 exact this x hx y hy
theorem line_pick {x y K:Nat} {mk:Int} (h0:0≤mk):lineB x y mk.toNat K=((decide ((K:Int)=x)||decide ((K:Int)=y))&&decide (mk/2^K%2=1)):=by
 obtain⟨m,rfl⟩:=Int.eq_ofNat_of_zero_le h0
 unfold lineB
 rw[show((m:Int)).toNat=m from rfl,Nat.testBit_eq_decide_div_mod_eq]
 have e1:decide (K=x)=decide ((K:Int)=x):=decide_eq_decide.2 (by omega)
 have e2:decide (K=y)=decide ((K:Int)=y):=decide_eq_decide.2 (by omega)
 have e3:decide (m/2^K%2=1)=decide ((m:Int)/2^K%2=1):=decide_eq_decide.2 (by
  rw[show((2:Int)^K)=((2^K:Nat):Int) by push_cast;rfl]
  omega)
 rw[e1,e2,e3]
set_option maxRecDepth 1000000 in
theorem walk (w:World) (hT:Iq.Tab w) (la:Int) (hla:(Lit.int .i64 la).wf=true) (lb:Int) (hlb:(Lit.int .i64 lb).wf=true) (mk:Int) (hmk:(Lit.int .u32 mk).wf=true):
 Calls Tryz.prog 4 #[.int .i64 la,.int .i64 lb,.int .u32 mk] w fun e w'=>e=.returned (.bool true)∧Fr (fun _=>False) w w':=by
 obtain⟨la0,la1⟩:=wf_i64 hla
 obtain⟨lb0,lb1⟩:=wf_i64 hlb
 obtain⟨mk0,mk1⟩:=wf_u32 hmk
 have HT:=Lib.hid hT
 clear hT
 obtain⟨x,hx⟩: ∃x:Nat,la%8=x:=⟨(la%8).toNat,by omega⟩
 obtain⟨y,hy⟩: ∃y:Nat,lb%8=y:=⟨(lb%8).toNat,by omega⟩
 have hx8:x<8:=by omega
 have hy8:y<8:=by omega
 have HW1:=Lib.hid (fun W=>by have:=Bk.within_any W la 0 7 la0 la1 (by omega) (by omega) (by omega);rw[show(0:Int)+la%(7 -0+1)=x by omega] at this;exact this)
 have HW2:=Lib.hid (fun W=>by have:=Bk.within_any W lb 0 7 lb0 lb1 (by omega) (by omega) (by omega);rw[show(0:Int)+lb%(7 -0+1)=y by omega] at this;exact this)
 have HMK:=Lib.hid (fun W=>Jg .i64 192 (by omega) W)
 clear hla hlb hmk la0 la1 lb0 lb1 hx hy
 go_enter Tryz.func4,Tryz.ntmps4
 go_wp2_with fail
 refine(HW1.out w).mono ?_
 rintro e w0 ⟨rfl,rfl⟩
 clear HW1
 go_wp2_with fail
 refine(HW2.out w).mono ?_
 rintro e w0 ⟨rfl,rfl⟩
 clear HW2
 have hmk: ∀W,(Instr.makeSlice 31 (.int .i64 192) (.int .i64 192)).run Tryz.prog W=.ok (.slice (some ⟨W.heap.size,0,none⟩) 192 192) (W.alloc (.cells (zU 192) 5)):=HMK.out
 go_upto_region 3 with(fail)
 clear hmk
 have hcl:=cellsU w 192 rfl
 have fz:Fr (fun _=>False) w (w.alloc (.cells (zU 192) 5)):=(Fr.refl _ _).alloc _
 have F1:=Lib.hid fz
 have HCL:=Lib.hid hcl
 obtain⟨gm,hgm⟩: ∃gm,w.heap.size=gm:=⟨_,rfl⟩
 have HGM:Hid (w.heap.size≤gm):=Lib.hid (by omega)
 rw[hgm] at HCL⊢
 generalize w.alloc (.cells (zU 192) 5)=w0 at*
 clear hcl fz hgm
 go_wp2_with fail
 refine(lit_any w0 128).mono ?_
 rintro e w1 ⟨rfl,f1⟩
 go_wp2_with fail
 refine(with_any w1 67 3).mono ?_
 rintro e w2 ⟨rfl,f2⟩
 go_wp2_with fail
 refine(lit_any w2 mk).mono ?_
 rintro e w3 ⟨rfl,f3⟩
 go_wp2_with fail
 refine(lit_any w3 32772).mono ?_
 rintro e w4 ⟨rfl,f4⟩
 go_wp2_with fail
 refine(in_any w4 49).mono ?_
 rintro e w5 ⟨rfl,f5⟩
 go_wp2_with fail
 refine(with_any w5 1 1).mono ?_
 rintro e w6 ⟨rfl,f6⟩
 go_wp2_with fail
 refine(with_any w6 67 0).mono ?_
 rintro e w7 ⟨rfl,f7⟩
 go_wp2_with fail
 refine(with_any w7 32 254).mono ?_
 rintro e w8 ⟨rfl,f8⟩
 have f08:=((((((f1.tr f2).tr f3).tr f4).tr f5).tr f6).tr f7).tr f8
 have b9:=Blk.new w8 26 #[.int .i64 2,.int .u32 128,.int .i64 67,.int .u32 3,.int .i64 2,.int .u32 mk,.int .i64 2,.int .u32 32772,.int .i64 49,.int .u32 0,.int .i64 1,.int .u32 1,.int .i64 67,.int .u32 0,.int .i64 32,.int .u32 254]
 have f9:=f08.alloc (.cells #[.int .i64 2,.int .u32 128,.int .i64 67,.int .u32 3,.int .i64 2,.int .u32 mk,.int .i64 2,.int .u32 32772,.int .i64 49,.int .u32 0,.int .i64 1,.int .u32 1,.int .i64 67,.int .u32 0,.int .i64 32,.int .u32 254] 26)
 have F9:=Lib.hid f9
 have Hco:=Lib.hid (fun c0=>code_any (w8.alloc (.cells #[.int .i64 2,.int .u32 128,.int .i64 67,.int .u32 3,.int .i64 2,.int .u32 mk,.int .i64 2,.int .u32 32772,.int .i64 49,.int .u32 0,.int .i64 1,.int .u32 1,.int .i64 67,.int .u32 0,.int .i64 32,.int .u32 254] 26)) w8.heap.size _ c0 8 (headM mk) rfl (mask_insok mk0 mk1) b9 (fun i q hq=>by
  match i,hq with
  |0,hq=>cases hq;exact⟨rfl,rfl⟩
  |1,hq=>cases hq;exact⟨rfl,rfl⟩
  |2,hq=>cases hq;exact⟨rfl,rfl⟩
  |3,hq=>cases hq;exact⟨rfl,rfl⟩
  |4,hq=>cases hq;exact⟨rfl,rfl⟩
  |5,hq=>cases hq;exact⟨rfl,rfl⟩
  |6,hq=>cases hq;exact⟨rfl,rfl⟩
  |7,hq=>cases hq;exact⟨rfl,rfl⟩
  |i+8,hq=>simp[headM] at hq) (show 8≤100000 by omega))
 clear f1 f2 f3 f4 f5 f6 f7 f8 f08 f9 b9
 go_wp2_with fail
 refine(Hco.out _).mono ?_
 rintro e w13 ⟨A4,c4,rfl,ho4,f13⟩
 have HI4:=Lib.hid (KV (mask_insok mk0 mk1) ho4)
 have F13:=Lib.hid (F9.out.tr f13)
 have HC13:=Lib.hid (HCL.out.fr F13.out (fun e=>e))
 have FW:=Lib.hid (F1.out.tr F13.out)
 rw[show(codeL (headM mk)).length=24 from rfl] at HI4⊢
 have hsz:=Dr.szU
 clear ho4 f13 Hco HCL F9 F13
 go_upto_region 4 with
  (refine GL rfl (.tmp 19) (.tmp 30) 31 31 rfl 5 Tryz.underlying31 hsz gm 0 192 192 A4 24 c4 rfl rfl 5 192 _ HC13.out .u8 w13.heap.size 24 _ (by omega) HI4.out (by omega) ?_
   intro w14 hc14 f14
   have HC14:=Lib.hid hc14
   have HF14:=Lib.hid f14
   clear hc14 f14)
 have F14:Hid (Fr (fun _=>False) w w14):=Lib.hid (FW.out.trans HF14.out (fun k hk e=>by have:=HGM.out;omega))
 clear HC13 HI4 FW HF14 hsz
 go_frame
 go_cut [] (fun wx=>Hid (Cells wx gm 5 192 (putR (putR (fun _=>Value.int .u8 0) 0 ((codeL (headM mk)).map (Value.int .u8))) 128 ([66,5,69].map (Value.int .u8))))∧Hid (Fr (fun _=>False) w wx))
 case first=>
  refine wp_region_held_drew (S:=fun _=>True) (by kernel_rfl) (True.intro) (fun hH=> ?_)
  have HFd:=Lib.hid ((Fr.refl (fun _=>False) w14).drew)
  generalize w14.drew=wv at hH HFd⊢
  refine wpAnyH_take (i:=0) (v:= ?_) rfl (by kernel_rfl) (by kernel_rfl) (by kernel_rfl) (fun _ _ _ h=>h) (Or.inl ⟨by kernel_rfl, ?_⟩) hH ?_
  rotate_left
  ·(intro W _;go_simp;try with_reducible rfl)
  refine wpAnyH_take (i:=1) (v:= ?_) rfl (by kernel_rfl) (by kernel_rfl) (by kernel_rfl) (fun _ _ _ h=>h) (Or.inl ⟨by kernel_rfl, ?_⟩) hH ?_
  rotate_left
  ·(intro W _;go_simp;try with_reducible rfl)
  try simp only[Act.put,List.getElem_toArray,List.getElem_cons_zero,List.getElem_cons_succ,List.setIfInBounds_toArray,List.set_cons_zero,List.set_cons_succ]
  refine wpAnyH_ready (rs:=[2]) (by kernel_rfl) (by simp) ?_
  refine AllReadyH.cons rfl (fun K hK=> ?_) ?_
  ·go_simp
   go_wp2_with ((with_reducible refine(with_any _ 66 5).mono ?_);rintro e wa ⟨rfl,fa⟩;have FA:=Lib.hid (HFd.out.tr fa);clear fa)
   refine hK.out _ _ ?_ (fun hH=> ?_)
   ·trivial
   clear hK K
   refine wpAnyH_ready (rs:=[3]) (by kernel_rfl) (by simp) ?_
   refine AllReadyH.cons rfl (fun K hK=> ?_) ?_
   ·go_simp
    go_wp2_with ((with_reducible refine(in_any _ 69).mono ?_);rintro e wb ⟨rfl,fb⟩;have FB:=Lib.hid (FA.out.tr fb);clear fb)
    refine hK.out _ _ ?_ (fun hH=> ?_)
    ·trivial
    clear hK K
    refine wpAnyH_ready (rs:=[4]) (by kernel_rfl) (by simp) ?_
    refine AllReadyH.cons rfl (fun K hK=> ?_) ?_
    ·go_simp
     refine hK.out _ _ ?_ (fun hH=> ?_)
     ·trivial
     clear hK K
     have BN:=Blk.new wb 26 #[.int .i64 66,.int .u32 5,.int .i64 69,.int .u32 0]
     have FN:=Lib.hid (FB.out.alloc (.cells #[.int .i64 66,.int .u32 5,.int .i64 69,.int .u32 0] 26))
     generalize wb.alloc (.cells #[.int .i64 66,.int .u32 5,.int .i64 69,.int .u32 0] 26)=wn at*
     have HBN:=Lib.hid BN
     clear BN
     refine wpAnyH_ready (rs:=[5]) (by kernel_rfl) (by simp) ?_
     refine AllReadyH.cons rfl (fun K hK=> ?_) ?_
     ·go_simp
      go_wp2_with ((refine(code_any wn wb.heap.size _ _ 2 [⟨66,5⟩,⟨69,0⟩] rfl hand_ok HBN.out hand_at (by decide)).mono ?_);rintro e wk ⟨A5,c5,rfl,ho5,f5⟩;have HI5:=Lib.hid (KV hand_ok ho5);have FK:=Lib.hid (FN.out.tr f5);have HC5:=Lib.hid (HC14.out.fr (FN.out.tr f5) (fun e=>e));clear ho5 f5)
      refine hK.out _ _ ?_ (fun hH=> ?_)
      ·trivial
      clear hK K
      refine wpAnyH_ready (rs:=[6]) (by kernel_rfl) (by simp) ?_
      refine AllReadyH.cons rfl (fun K hK=> ?_) ?_
      ·have hz5:IntsAt .u8 wk wk.heap.size A5 3 [66,5,69]:=HI5.out
       refine Nm rfl (.tmp 33) (.tmp 37) 31 31 rfl 5 Tryz.underlying31 Dr.szU gm 128 64 64 A5 3 c5 (by simp[Act.eval,Act.put]) (by simp[Act.eval,Act.put];rfl) 5 192 _ HC5.out .u8 wk.heap.size 3 [66,5,69] (by omega) hz5 (by omega) ?_
       intro wz hcz fz
       refine hK.out _ _ ?_ (fun hH=> ?_)
       ·trivial
       clear hK K
       refine wpAnyH_done (by kernel_rfl) ?_ _
       go_wp2_with fail
       go_meet
       exact⟨Lib.hid hcz,Lib.hid ((F14.out.tr FK.out).trans fz (fun k hk e=>by have:=HGM.out;omega))⟩
      exact AllReadyH.nil
     exact AllReadyH.nil
    exact AllReadyH.nil
   exact AllReadyH.nil
  exact AllReadyH.nil
 case rest=>
  obtain⟨HC,F15⟩:=hcut
  obtain⟨w15,rfl⟩: ∃y,y=wc:=⟨_,rfl⟩
  obtain⟨hxy1,hxy2⟩:=two_lines hx8 hy8
  have hlt:=two_lt hx8 hy8
  have hwl:=want_line (mk:=mk.toNat) hx8 hy8
  have hI:IntsAt .u8 w15 w15.heap.size (some ⟨gm,0,none⟩) 192 ((List.range 192).map (irqF (byM mk 0) (byM mk 1) (byM mk 2) (byM mk 3) 0)):=cells_ints HC.out (fun i hi=>by
   rw[mask_code]
   have e:(fun _:Nat=>Value.int .u8 0)=fun i=>Value.int .u8 ((fun _=>(0:Int)) i):=rfl
   rw[e,show Go.Proofs.YtpmlgdopfafcgaaGreatDoor.putR (fun i=>Value.int .u8 ((fun _=>(0:Int)) i)) 0 ((irqH (byM mk 0) (byM mk 1) (byM mk 2) (byM mk 3)++(List.replicate 0 0++[32,254]):List Int).map (Value.int .u8))=(fun i=>Value.int .u8 (lay (fun _=>0) 0 (irqH (byM mk 0) (byM mk 1) (byM mk 2) (byM mk 3)++(List.replicate 0 0++[32,254])) i)) from funext (fun i=>putR_lay .u8 _ 0 _ i)]
   exact putR_lay .u8 _ 128 [66,5,69] i) (fun i hi=>irqF_bd (byM_bd mk 0) (byM_bd mk 1) (byM_bd mk 2) (byM_bd mk 3) 0 i)
  have hIm:Im (mc0 3 ((List.range 192).map (irqF (byM mk 0) (byM mk 1) (byM mk 2) (byM mk 3) 0)) []).b.ms mk 0:=by
   have:=irq_im (b0:=byM mk 0) (b1:=byM mk 1) (b2:=byM mk 2) (b3:=byM mk 3) (j:=0) (by omega) []
   rwa[byM_sum mk0 mk1] at this
  obtain⟨BS,hBS⟩: ∃BS,(List.range 192).map (irqF (byM mk 0) (byM mk 1) (byM mk 2) (byM mk 3) 0)=BS:=⟨_,rfl⟩
  rw[hBS] at hI hIm
  have Hf:=Lib.hid (S8 w15 (tab_fr HT.out F15.out (fun e=>e)) 3 (by omega) (by omega) (some ⟨gm,0,none⟩) 192 192 BS hI (by omega) none 0 0 [] (Gy _ _ _ _) (by omega))
  have HIM:=Lib.hid hIm
  have HXY:=Lib.hid (And.intro hxy1 (And.intro hxy2 (And.intro hlt hwl)))
  clear hI hIm hBS HC hxy1 hxy2 hlt hwl
  go_wp2_with fail
  refine(Hf.out).mono ?_
  rintro e w16 ⟨gg,a,A',ge,eo,rfl,hG,hfl,f16⟩
  have HG:=Lib.hid hG
  have HFL:=Lib.hid hfl
  have F16:=Lib.hid (F15.out.tr f16)
  have hzK:IntsAt .i64 (w16.alloc (.cells #[.int .i64 (x:Int),.int .i64 (y:Int)] 3)) (w16.heap.size+1) (some ⟨w16.heap.size,0,none⟩) 2 [(x:Int),(y:Int)]:=IA [(x:Int),(y:Int)] (Blk.new _ _ _) (fun i hi=>by
   have:i=0∨i=1:=by simp at hi;omega
   rcases this with rfl|rfl
   ·exact EQ (n:=(x:Int)) (by omega) (by omega)
   ·exact EQ (n:=(y:Int)) (by omega) (by omega))
  have fK:Fr (fun _=>False) w16 (w16.alloc (.cells #[.int .i64 (x:Int),.int .i64 (y:Int)] 3)):=(Fr.refl _ _).alloc _
  obtain⟨x0,x1,x2,x3,hra⟩:=Wm (w16.alloc (.cells #[.int .i64 (x:Int),.int .i64 (y:Int)] 3)) _ gg a A' ge eo _ _ (HG.out.fr0 fK) _ 2 2 _ [(x:Int),(y:Int)] hzK (by simp[maxLen]) (by show Iq.raised _ 0<256;rw[HXY.out.2.1];exact HXY.out.2.2.1)
  obtain⟨y0,y1,y2,y3,_⟩:=gpend_any w16 _ gg a A' ge eo _ _ HG.out
  rw[HXY.out.1] at hra
  have Hra:=Lib.hid hra
  have FK:=Lib.hid (F16.out.tr fK)
  clear x0 x1 x2 x3 hra hzK fK hG hfl f16 Hf
  go_wp2_with fail
  refine(Hra.out).mono ?_
  rintro e w17 ⟨rfl,hG5,f17⟩
  obtain⟨P,hP⟩: ∃P,(2^x|||2^y:Nat)=P:=⟨_,rfl⟩
  have hid:Idle (⟨{(mc0 3 BS []).b with p:=Iq.raised [(x:Int),(y:Int)] (mc0 3 BS []).b.p},(mc0 3 BS []).l⟩:Mc) P 0:=⟨rfl,by show Iq.raised _ 0=P;rw[HXY.out.2.1,hP],rfl⟩
  have him:Im (⟨{(mc0 3 BS []).b with p:=Iq.raised [(x:Int),(y:Int)] (mc0 3 BS []).b.p},(mc0 3 BS []).l⟩:Mc).b.ms mk 0:=HIM.out
  have hou:(⟨{(mc0 3 BS []).b with p:=Iq.raised [(x:Int),(y:Int)] (mc0 3 BS []).b.p},(mc0 3 BS []).l⟩:Mc).b.outs=[]:=rfl
  obtain⟨g5,hg5⟩: ∃g5:Mc,⟨{(mc0 3 BS []).b with p:=Iq.raised [(x:Int),(y:Int)] (mc0 3 BS []).b.p},(mc0 3 BS []).l⟩=g5:=⟨_,rfl⟩
  rw[hg5] at hG5 hid him hou
  have F17:=Lib.hid (FK.out.trans f17 (fun k hk e=>e (Nat.lt_of_lt_of_le hk F15.out.size)))
  have hw:=HXY.out.2.2.2
  rw[hP] at hw
  obtain⟨nb,hnb⟩: ∃nb,Iq.nextB P (mk.toNat%256)=nb:=⟨_,rfl⟩
  obtain⟨nn,hnn⟩: ∃nn,Iq.nextN P (mk.toNat%256)=nn:=⟨_,rfl⟩
  have HN8:Hid (nn<8):=Lib.hid (by rw[←hnn];have:=Bl.low_le (P&&&(mk.toNat%256));unfold Iq.nextN;omega)
  have hfl0:=HFL.out
  have Hr:Hid (Calls Tryz.prog 12 #[.pointer (some ⟨gg,0,none⟩),.int .i64 40] w17 fun ed w'=> ∃e' s2 g2,ed=.returned (.int .i64 s2.ct)∧Gt w' (fun k=>k<w15.heap.size) gg a A' ge e' s2 g2∧g2.b.p=P∧(nb=false∧s2.ha=false∧s2.ie=true∧s2.d=[]∨nb=true∧s2.ha=true∧s2.d=[16+(nn:Int)])∧Fr (fun k=> ¬k<w15.heap.size) w17 w'):=Lib.hid (by
   cases nb
   ·refine(grun_any w17 _ gg a A' ge eo St.new g5 hG5 40 (by omega) (by omega) (by decide) (by rw[hou];decide) (by omega) (Wl him hid mk0 mk1 hnb)).mono ?_
    rintro ed w' ⟨e',j,rfl,h1,h2,_,h3⟩
    obtain⟨G,hq,hIm,hId,hcm,ho⟩:=Wj him hid mk0 mk1 hnb h2
    rw[hq] at h1⊢
    exact⟨e',_,_,rfl,h1,hId.p,.inl ⟨rfl,rfl,rfl,rfl⟩,h3⟩
   ·refine(grun_any w17 _ gg a A' ge eo St.new g5 hG5 40 (by omega) (by omega) (by decide) (by rw[hou];decide) (by omega) (mask_ok him hid mk0 mk1 hnb)).mono ?_
    rintro ed w' ⟨e',j,rfl,h1,h2,_,h3⟩
    obtain⟨s2,g2,hq,h4,h5,h6,h7⟩:=mask_told him hid mk0 mk1 hnb h2
    rw[hq] at h1⊢
    refine⟨e',s2,g2, ?_,h1,h7,.inr ⟨rfl,h4,by rw[h6,hnn]⟩,h3⟩
    show Ending.returned (.int .i64 (s2.ct -0))=_
    rw[Int.sub_zero])
  have HWL:Hid ((nb=false→wantF (lineB x y mk.toNat) 8= -1)∧(nb=true→wantF (lineB x y mk.toNat) 8=(nn:Int))):=Lib.hid (by rw[←hnb,←hnn];exact hw)
  clear hG5 f17 hid him hou hg5 hw hnb hnn hfl0 Hra FK y0 y1 y2 y3 HFL HG
  go_wp2_with fail
  refine(Hr.out).mono ?_
  rintro e w18 ⟨e2,s2,g2,rfl,hG2,hp2,hcase,f18⟩
  have HG2:=Lib.hid hG2
  have HC2:=Lib.hid (And.intro hp2 hcase)
  have F18:=Lib.hid (F17.out.trans f18 (fun k hk e=>e (Nat.lt_of_lt_of_le hk F15.out.size)))
  have Hs:=Lib.hid (KG w18 _ gg a A' ge e2 s2 g2 hG2)
  clear hG2 hp2 hcase f18 Hr
  go_wp2_with fail
  refine(Hs.out).mono ?_
  rintro e w19 ⟨X,cx,Y,cy,rfl,hst,_,f19⟩
  have bw:=Blk.new w19 41 z16
  have ow:=one16 s2 (.slice X s2.d.length cx) (.slice Y s2.r.length cy) rfl rfl
  have fw:Fr (fun _=>False) w19 (w19.alloc (.cells z16 41)):=(Fr.refl _ _).alloc _
  have F19:=Lib.hid (f19.tr fw)
  have HST:=Lib.hid (hst.fr0 fw)
  have HBW:=Lib.hid bw
  have hs19:=f19.size
  clear f19 fw Hs hst
  go_upto_region 10 with(((with_reducible refine wpL_st (cs':=stc s2 (.slice X s2.d.length cx) (.slice Y s2.r.length cy)) bw sz16 ?q1 ?q2 ow ?q3 ?q4 ?_);(case q1=>rfl);(case q2=>rfl);(case q3=>rfl);(case q4=>rfl);intro W20 k20 f20;have HB20:=Lib.hid k20;have HF20:=Lib.hid f20;clear k20 f20 bw ow))
  have F20:Hid (Fr (fun _=>False) w18 W20):=Lib.hid (F19.out.trans HF20.out (fun k hk e=>by omega))
  have G20:=Lib.hid (HG2.out.fr0 F20.out)
  have FX:=Lib.hid (F18.out.tr F20.out)
  have HST2:=Lib.hid (And.intro HST.out (And.intro HBW.out HF20.out))
  clear HG2 HST HBW HF20 F19 F18
  go_upto_block 0 with(fail)
  go_cut [12] (fun v wx=>v=.int .i64 (wantF (lineB x y mk.toNat) 8)∧wx=W20)
  case first=>
   go_wp2_with fail
   go_loopw [12,13] (fun wv kv wr=> ∃(j:Nat) (v:Int),j≤8∧v=7 -(j:Int)∧wv=.int .i64 (wantF (lineB x y mk.toNat) j)∧kv=.int .i64 v∧wr=W20) (fun _ kv _=>(intOf kv+1).toNat)
   case atStart=>exact⟨0,7,by omega,by omega,rfl,rfl,rfl⟩
   case round=>
    obtain⟨j,v,hj,hv,rfl,rfl,hwr⟩:=hrel
    subst hwr
    by_cases hlt:j<8
    ·obtain⟨K,hK⟩: ∃K:Nat,7 -j=K:=⟨_,rfl⟩
     obtain rfl:v=(K:Int):=by omega
     have hwn:wantF (lineB x y mk.toNat) (j+1)=if lineB x y mk.toNat K then(K:Int) else wantF (lineB x y mk.toNat) j:=by rw[wantF,hK]
     obtain⟨W,hW⟩: ∃W,wantF (lineB x y mk.toNat) j=W:=⟨_,rfl⟩
     rw[hW] at hwn⊢
     have HWN:=Lib.hid hwn
     have h0:decide ((K:Int)≥0)=true:=by simp
     have hs:Op.shift .shr .u32 mk .u64 (K:Int)=pure (.int .u32 (mk/2^K)):=shift_shr_u32 _ _ _ (by omega) (by omega)
     have HV:=Lib.hid (And.intro hv hlt)
     have q0:0≤mk/2^K:=Int.ediv_nonneg mk0 (Int.le_of_lt (Int.pow_pos (by omega)))
     have hK31:(K:Int)≤7:=by omega
     clear hW hwn hv hK hlt
     go_wp2_with fail
     all_goals
      go_roundw
      case rel=>
       refine⟨j+1,_,by have:=HV.out;omega, ?_, ?_,rfl,trivial⟩
       ·have:=HV.out;push_cast;omega
       ·rw[HWN.out,line_pick mk0,show mk/2^K%2=(mk/2^K).tmod 2 from(Int.tmod_eq_emod_of_nonneg q0).symm]
        clear HWN HV hs q0 h0
        first
         |(obtain rfl:K=x:=(by omega);rename_i h1;simp at h1;simp[h1];done)
         |(obtain rfl:K=y:=(by omega);rename_i h2 _ h1;simp at h1 h2;simp[h1,h2];done)
         |(rename_i h2 h1;rw[decide_eq_false h1,decide_eq_false h2];rfl)
      case measure=>simp[intOf]<;>omega
    ·obtain rfl:j=8:=by omega
     have h0:decide (v≥0)=false:=by simp;omega
     go_wp2_with fail
     go_meet
     exact⟨rfl,rfl⟩
  case rest=>
   obtain⟨rfl,rfl⟩:=hcut
   have hwl:=HWL.out
   obtain⟨wt,hwt⟩: ∃wt,wantF (lineB x y mk.toNat) 8=wt:=⟨_,rfl⟩
   rw[hwt] at hwl⊢
   obtain⟨hp2,hcase⟩:=HC2.out
   have k15:wc.cell? ⟨w19.heap.size,15,none⟩=some (.bool s2.ha):=HB20.out.cell 15
   have k6:wc.cell? ⟨w19.heap.size,6,none⟩=some (.bool s2.ie):=HB20.out.cell 6
   have k1:wc.cell? ⟨w19.heap.size,1,none⟩=some (.slice X s2.d.length cx):=HB20.out.cell 1
   have kl:=HB20.out.lt
   obtain⟨y0,y1,y2,y3,hpe⟩:=gpend_any wc _ gg a A' ge e2 s2 g2 G20.out
   rw[hp2] at hpe
   have Hpe:=Lib.hid hpe
   have hpq:((P:Int)==bits BinOp.or IntKind.u32 (2^x%4294967296) (2^y%4294967296))=true:=by rw[←hP,or_two hx8 hy8];simp
   have Haw:=Lib.hid (fun W (f:Fr (fun _=>False) wc W)=>Wi W (tab_fr HT.out (FX.out.tr f) (fun e=>e)))
   clear hpe hP hp2 hwt
   rcases hcase with⟨rfl,ha,hie,hd⟩|⟨rfl,ha,hd⟩
   ·have hw0:wt= -1:=hwl.1 rfl
    rw[ha] at k15
    rw[hie] at k6
    rw[hd] at k1
    have h0:decide (wt<0)=true:=by simp;omega
    clear hwl ha hie hd hw0
    go_wp2_with fail
    refine(Hpe.out).mono ?_
    rintro e w' ⟨rfl,rfl⟩
    go_wp2_with fail
    refine(Haw.out _ (Fr.refl _ _)).mono ?_
    rintro e w' ⟨rfl,f25⟩
    have F25:=Lib.hid (FX.out.tr f25)
    clear f25
    go_wp2_with fail
    go_ret
    exact⟨rfl,F25.out⟩
   ·have hw0:wt=(nn:Int):=hwl.2 rfl
    rw[ha] at k15
    have h0:decide (wt<0)=false:=by simp;omega
    obtain⟨hst,hbw,hf20⟩:=HST2.out
    obtain⟨gd,rfl,d0,d1⟩:=state_top hst hbw hf20 hd
    have k1b:wc.cell? ⟨w19.heap.size,1,none⟩=some (.slice (some ⟨gd,0,none⟩) 1 cx):=k1.trans (by rw[hd];rfl)
    clear k1
    have hn8:nn<8:=HN8.out
    subst hw0
    clear hwl ha hst hbw hf20 hd
    go_wp2_with fail
    refine(Hpe.out).mono ?_
    rintro e w' ⟨rfl,rfl⟩
    go_wp2_with fail
    refine(Haw.out _ (Fr.refl _ _)).mono ?_
    rintro e w' ⟨rfl,f25⟩
    have F25:=Lib.hid (FX.out.tr f25)
    clear f25
    go_wp2_with fail
    go_ret
    exact⟨rfl,F25.out⟩
end Go.Proofs.YtpmlgdopfafcgaaGreatDoor.topMasks
