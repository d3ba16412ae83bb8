import Derived.Test.YtdfegdoeebaagaaGreatDoorX33
open Go.Value renaming slice→Z,int→J,bool→Ap,tuple→AF,ownBlock→Cb,agg→A9
open Option renaming some→I,none→G
open Go.IntKind renaming i64→U,u32→V,u8→AB
open Go renaming World→Aa,Value→As,Calls→At,bodyPost_ret→Bt,TypeId→AN,wp_region_held_drew→C7,Ending→AY,maxLen→BQ,Program→CF,undef→BY
open Bool renaming false→Ac,true→Ag
open List renaming getD_eq_getElem?_getD→AS,getElem?_eq_getElem→BK,getElem?_take_of_lt→Dq,getElem_mem→CE,getElem?_map→DP,length_pos_iff→Ef,getElem_of_mem→GC,length_take→Iv
open Go.Ending renaming returned→Ax
open And renaming intro→Ay
open Nat renaming le_refl→AD,lt_of_lt_of_le→Bg,le_trans→Bf,zero_le→Bj,zero_add→BW
open Or renaming inl→Af,inr→Ah
open Go.Proofs.Tryz renaming underlying218→Gi
open Array renaming getElem?_toList→DV
open Go.Result renaming andThen→ES
open Go.Instr renaming mapUpdate→Ix
open Go.Sem renaming run_bind→GT
set_option linter.all false
set_option maxHeartbeats 40000000
set_option maxRecDepth 1000000
open Go Go.RowKit
namespace Go.Proofs.YtdfegdoeebaagaaGreatDoor
namespace Eg
open Mz Go.Maps Ca
open Sw (z14)
open Ip (Ec pgA PgR)
theorem Lt{P:CF}{fn:Func}{p q r:Tmp}{ty ty':AN}(h:fn.results=#[.cell p ty,.cell q ty',.tmp r])(tmps:AO)(w:Aa)(g g':Nat)(t t':AN)(cs cs':AO)(d d':TypeDesc)(v:As)(hr:tmps.getD r BY=v)(hp:tmps.getD p BY=↑g)(hg:Blk w g t cs)(hu:P.underlying ty=I d)(hd:(match d with|.struct _|.array _ _=>Ag|_=>Ac)=Ag)(hi:(P.info? ty).map (·.size)=I cs.size)(hq:tmps.getD q BY=↑g')(hg':Blk w g' t' cs')(hu':P.underlying ty'=I d')(hd':(match d' with|.struct _|.array _ _=>Ag|_=>Ac)=Ag)(hi':(P.info? ty').map (·.size)=I cs'.size):(results fn tmps).run P w=.ok (AF #[A9 cs,A9 cs',v]) w:=by
 have hr':tmps[r]?.getD BY=v:=Kf;have hp':tmps[p]?.getD BY=↑g:=LM;have hq':=Ni;simp[results,h,hr',hp',hq',asAddr,run_loadVar_row w g t ty cs (0,0) d hg hu hd hi,run_loadVar_row w g' t' ty' cs' (0,0) d' hg' hu' hd' hi',GT,ES]
def HitOk(w':Aa)(k:Ky)(b:List Int)(A:Aw)(n c:Nat)(ct:Int)(n2:Nat)(en:Bool):Prop:=
 ∃l bs code,Gm.Trl k.1 l bs code∧bs<+:b∧w'.ownsRow 0 5 1 (Z A n c) n ((Hc.encL code).map (J AB))∧n=(Hc.encL code).length∧ct=(l.length:Int)∧n2=bs.length∧en=Gs.endsB (l.getLastD ⟨0,0⟩).op
def SM(w:Aa)(ge:Nat)(e:Eo)(k:Ky)(b:List Int)(ed:AY)(w':Aa):Prop:=
 ∃(pc pl:Int) (A:Aw) (n c:Nat) (ct:Int) (A2:Aw) (n2 c2:Nat) (en ok:Bool) (e':Eo),ed=Ax (AF #[A9 #[J V pc,J V pl,Z A n c,J U ct],A9 #[Z A2 n2 c2,Ap en],Ap ok])∧Elk w w' ge e e' 1∧(ok=Ag→HitOk w' k b A n c ct n2 en)
abbrev zB:AO:=#[J V 0,J V 0,Z G 0 0,J U 0]
abbrev zR:AO:=#[Z G 0 0,Ap Ac]
theorem szBk:(Tryz.prog.info? 149).map (·.size)=I 4:=AL
variable{w:Aa}{k:Ky}{A:Aw}{n c:Nat}{ct:Int}
theorem fU{w':Aa}{base:Nat}{s:Cs}(h:Kp w base s k A n c ct)(f:Fr Aj w w'):Kp w' 0 s k A n c ct:=by
 obtain⟨b,h1,h2,h3,h4,h5⟩:=h;exact⟨b,h1,h2,h3,h4,Sw.own_low (AR h5 f (λ_ _ e=>e)) (Bj _)⟩
theorem pO{base:Nat}{s:Cs}{g:Nat}{x0 x1 x2 x3:As}{cs:AO}(h:Kp w base s k A n c ct)(hb:Blk w g 149 cs):Kp ((((w.setCell ⟨g,0,G⟩ x0).setCell ⟨g,1,G⟩ x1).setCell ⟨g,2,G⟩ x2).setCell ⟨g,3,G⟩ x3) 0 s k A n c ct:=by
 obtain⟨b,h1,h2,h3,h4,h5⟩:=h;have f:Fr (λq=>q=g) w ((((w.setCell ⟨g,0,G⟩ x0).setCell ⟨g,1,G⟩ x1).setCell ⟨g,2,G⟩ x2).setCell ⟨g,3,G⟩ x3):=((((Ao (λq=>q=g) w).setCell (p:=⟨g,0,G⟩) (Af rfl) _).setCell (p:=⟨g,1,G⟩) (Af rfl) _).setCell (p:=⟨g,2,G⟩) (Af rfl) _).setCell (p:=⟨g,3,G⟩) (Af rfl) _;exact⟨b,h1,h2,h3,h4,Sw.own_low (AR h5 f (λk hk e=>AZ h5 hb Ak (by rw[hk,show k=g from e]))) (Bj _)⟩
variable{wz:Aa}{ge:Nat}{e e':Eo}{S:AE}
theorem Elk.loc{Wf:Aa}{D:Nat}(h:Elk w wz ge e e' D)(f:Fr S wz Wf)(hs: ∀q,S q→w.heap.size≤q∧ ¬e'.own ge q):Elk w Wf ge e e' D:=by
 have hz:=h.f.size;refine⟨h.en.fr f (λk hk q=>(hs k q).2 hk),h.gc,h.fl,h.own,h.f.trans f (λk hk q=>by have:=(hs k q).1;omega),λk t hk ho=>?_⟩;have hl:=Jz hk;rw[←h.kp k t hk ho];exact f.block k O (λq=>by have:=(hs k q).1;omega)
theorem Elk.away{D:Nat}(h:Elk w wz ge e e' D){q:Nat}(hq:q<↑w)(hn: ¬e.own ge q): ¬e'.own ge q:=λr=>by
 rcases h.own q r with r|r;·exact hn r
 ·omega
variable{b:List Int}{n2:Nat}{en:Bool}
theorem HitOk.fr(h:HitOk w k b A n c ct n2 en)(f:Fr S w wz)(hs: ∀q,S q→Ca.srt w q≠I (I 5)):HitOk wz k b A n c ct n2 en:=by
 obtain⟨l,bs,code,h1,h2,h3,h4⟩:=h;refine⟨l,bs,code,h1,h2,AR h3 f (λq hq r=>hs q r ?_),h4⟩;rcases h3.2 with⟨e2,_⟩|⟨g',cap,cur,e2,_,hb,_⟩;·rw[e2] at hq;simp[Cb] at hq
 ·rw[e2] at hq;have:g'=q:=by simpa[Cb] using hq
  exact Ss
theorem SN{g6 g7:Nat}{pc pl:Int}{A2:Aw}{c2:Nat}{ok:Bool}{c6 c7:AO}(h:Elk w wz ge e e' 1)(h6:Blk wz g6 149 c6)(h7:Blk wz g7 158 c7)(l6:↑w≤g6∧ ¬e'.own ge g6)(l7:↑w≤g7∧ ¬e'.own ge g7)(hok:ok=Ag→HitOk wz k b A n c ct n2 en){Wf:Aa}(hW:Wf=((((((wz.setCell ⟨g6,0,G⟩ (J .u32 pc)).setCell ⟨g6,1,G⟩ (J .u32 pl)).setCell ⟨g6,2,G⟩ (Z A n c)).setCell ⟨g6,3,G⟩ (J .i64 ct)).setCell ⟨g7,0,G⟩ (Z A2 n2 c2)).setCell ⟨g7,1,G⟩ (.bool en)).drew):SM w ge e k b (Ax (AF #[A9 #[J V pc,J V pl,Z A n c,J U ct],A9 #[Z A2 n2 c2,Ap en],Ap ok])) Wf:=by
 have f:Fr (λq=>q=g6∨q=g7) wz Wf:=by
  rw[hW];exact(((((((Ao (λq=>q=g6∨q=g7) wz).setCell (p:=⟨g6,0,G⟩) (Af (Af rfl)) _).setCell (p:=⟨g6,1,G⟩) (Af (Af rfl)) _).setCell (p:=⟨g6,2,G⟩) (Af (Af rfl)) _).setCell (p:=⟨g6,3,G⟩) (Af (Af rfl)) _).setCell (p:=⟨g7,0,G⟩) (Af (Ah rfl)) _).setCell (p:=⟨g7,1,G⟩) (Af (Ah rfl)) _).drew
 refine⟨pc,pl,A,n,c,ct,A2,n2,c2,en,ok,e',rfl,h.loc f (λq hq=>?_),λq=>(hok q).fr f (λq hq r=>?_)⟩
 ·rcases hq with rfl|rfl;·exact l6
  ·exact l7
 ·rcases hq with rfl|rfl;·rw[srt_blk h6] at r;simp at r
  ·rw[srt_blk h7] at r;simp at r
theorem SO{g6 g7:Nat}{a0 a1 a2 a3 x0 x1 x2 x3 b0 b1 y0 y1:As}(h6:Blk wz g6 149 #[a0,a1,a2,a3])(h7:Blk wz g7 158 #[b0,b1])(hne:g6≠g7):Blk ((((((wz.setCell ⟨g6,0,G⟩ x0).setCell ⟨g6,1,G⟩ x1).setCell ⟨g6,2,G⟩ x2).setCell ⟨g6,3,G⟩ x3).setCell ⟨g7,0,G⟩ y0).setCell ⟨g7,1,G⟩ y1).drew g6 149 #[x0,x1,x2,x3]∧ Blk ((((((wz.setCell ⟨g6,0,G⟩ x0).setCell ⟨g6,1,G⟩ x1).setCell ⟨g6,2,G⟩ x2).setCell ⟨g6,3,G⟩ x3).setCell ⟨g7,0,G⟩ y0).setCell ⟨g7,1,G⟩ y1).drew g7 158 #[y0,y1]:=
 ⟨((((((h6.set_ 0 x0).set_ 1 x1).set_ 2 x2).set_ 3 x3).far (p:=⟨g7,0,G⟩) hne y0).far (p:=⟨g7,1,G⟩) hne y1).drew,((((((h7.far (p:=⟨g6,0,G⟩) hne.symm x0).far (p:=⟨g6,1,G⟩) hne.symm x1).far (p:=⟨g6,2,G⟩) hne.symm x2).far (p:=⟨g6,3,G⟩) hne.symm x3).set_ 0 y0).set_ 1 y1).drew⟩
structure Fa(w wx:Aa)(g9:Nat)(pc pl:Int)(A:Aw)(n c:Nat)(ct:Int)(k:Ky):Prop where
 b4:Blk wx ↑w 122 #[J V k.1,J V k.2]
 b6:Blk wx (↑w+1) 149 zB
 b7:Blk wx (↑w+2) 158 zR
 b9:Blk wx g9 149 #[J V pc,J V pl,Z A n c,J U ct]
 n9:↑w+3≤g9
 f:Fr Aj w wx
theorem ints_bd{B:Nat}{zs:List Int}(h:IntsAt AB w B A n zs): ∀z∈zs,0≤z∧z<256:=by
 intro z hz;obtain⟨i,hi,rfl⟩:=GC hz;have hn:=h.1;have:=Jb (h.2.1 i O);rw[AS,BK hi] at this;have e:(I zs[i]).getD 0=zs[i]:=rfl;rw[e] at this;omega
structure P5(w2 wx:Aa)(b:List Int)(l:List Gs.Ins)(N size:Nat)(ends:Bool)(A1:Aw)(c1:Nat)(A3:Aw)(n3 c3 g13:Nat):Prop where
 pn:Gm.Pn b l size ends
 l8:l.length≤8
 nl:l.length=N
 nb:(b.take size).length=n3
 i:wx.ownsRow ↑w2 27 2 (Z A1 l.length c1) l.length (Eu l)
 r:wx.ownsRow ↑w2 5 1 (Z A3 (b.take size).length c3) (b.take size).length ((b.take size).map (J AB))
 b13:Blk wx g13 158 #[Z A3 n3 c3,Ap ends]
 n13:↑w2≤g13
 f:Fr Aj w2 wx
variable{w2 wx wy:Aa}{l:List Gs.Ins}{N size:Nat}{ends:Bool}{A1:Aw}{c1:Nat}{A3:Aw}{n3 c3 g13:Nat}
theorem P5.fr0(h:P5 w2 wx b l N size ends A1 c1 A3 n3 c3 g13)(f:Fr Aj wx wy):P5 w2 wy b l N size ends A1 c1 A3 n3 c3 g13:=
 ⟨h.pn,h.l8,h.nl,h.nb,AR h.i f (λ_ _ e=>e),AR h.r f (λ_ _ e=>e),h.b13.fr f id,h.n13,h.f.tr f⟩
theorem told{w6:Aa}(h:P5 w2 w6 b l N size ends A1 c1 A3 n3 c3 g13)(hl:l≠[]){pl:Tr.Pl}{tt:Nat→Nat}(hp:Tr.PO (Tr.sweepP (Tr.lower0 k.1 l)) pl tt)(ho:Tr.HAll (Tr.codeC (Tr.sweepP (Tr.lower0 k.1 l)) pl))(hn:(Tr.codeC (Tr.sweepP (Tr.lower0 k.1 l)) pl).length≤10000)(hb: ∀z∈b,0≤z∧z<256)(hb64:b.length≤64):NewOk k l (b.take size) (Tr.codeC (Tr.sweepP (Tr.lower0 k.1 l)) pl) ends:=by
 refine⟨⟨h.pn.run hl h.l8,⟨pl,tt,hp,rfl⟩,ho,hn⟩,h.pn.last hl,λz hz=>hb z (List.mem_of_mem_take hz), ?_⟩;have:=h.pn.le;rw[Iv];omega
structure Bx(w wx:Aa)(n3 c3 g13 g9:Nat)(A3:Aw)(ends:Bool)(k:Ky)(C:Aw)(nC cC N:Nat):Prop where
 b4:Blk wx ↑w 122 #[J V k.1,J V k.2]
 b6:Blk wx (↑w+1) 149 zB
 b7:Blk wx (↑w+2) 158 zR
 b9:Blk wx g9 149 #[J V k.1,J V k.2,Z C nC cC,J U N]
 b13:Blk wx g13 158 #[Z A3 n3 c3,Ap ends]
 n9:↑w+3≤g9
 n13:↑w+3≤g13
variable{g9:Nat}{C:Aw}{nC cC:Nat}
theorem Bx.fr(h:Bx w wx n3 c3 g13 g9 A3 ends k C nC cC N)(f:Fr S wx wy)(hs: ∀q,w.heap.size≤q→q<wx.heap.size→S q→srt wx q=I (I 5)∨False):Bx w wy n3 c3 g13 g9 A3 ends k C nC cC N:=
 ⟨h.b4.fr f (λe=>by
  rcases hs _ O h.b4.lt e with e|e;·rw[srt_blk h.b4] at e;simp at e
  ·exact e),
  h.b6.fr f (λe=>by
   rcases hs _ O h.b6.lt e with e|e;·rw[srt_blk h.b6] at e;simp at e
   ·exact e),
  h.b7.fr f (λe=>by
   rcases hs _ O h.b7.lt e with e|e;·rw[srt_blk h.b7] at e;simp at e
   ·exact e),
  h.b9.fr f (λe=>by
   rcases hs _ (by have:=h.n9;omega) h.b9.lt e with e|e;·rw[srt_blk h.b9] at e;simp at e
   ·exact e),
  h.b13.fr f (λe=>by
   rcases hs _ (by have:=h.n13;omega) h.b13.lt e with e|e;·rw[srt_blk h.b13] at e;simp at e
   ·exact e),h.n9,h.n13⟩
structure P12(w w2 wx:Aa)(ge:Nat)(e:Eo)(b:List Int)(l:List Gs.Ins)(N size:Nat)(ends:Bool)(A3:Aw)(n3 c3 g13 g9:Nat)(k:Ky)(C:Aw)(nC cC:Nat)(code:List Tr.HI):Prop where
 bx:Bx w wx n3 c3 g13 g9 A3 ends k C nC cC N
 en:En wx ge e
 nl:l.length=N
 nb:(b.take size).length=n3
 r:wx.ownsRow ↑w2 5 1 (Z A3 (b.take size).length c3) (b.take size).length ((b.take size).map (J AB))
 rc:wx.ownsRow ↑w2 5 1 (Z C nC cC) nC ((Hc.encL code).map (J AB))
 nc:(Hc.encL code).length=nC
 ok:NewOk k l (b.take size) code ends
 lo:w.heap.size≤w2.heap.size
 f:Fr Aj w wx
theorem p12_mk{w6:Aa}(he:En w ge e)(h:P5 w2 w6 b l N size ends A1 c1 A3 n3 c3 g13){code:List Tr.HI}(hf:Fr Aj w w2)(h4:Blk w2 ↑w 122 #[J V k.1,J V k.2])(h6:Blk w2 (↑w+1) 149 zB)(h7:Blk w2 (↑w+2) 158 zR){v0 v1 v2 v3:As}(h9:Blk w2 g9 149 #[v0,v1,v2,v3])(n9:↑w+3≤g9)(hrc:w6.ownsRow ↑w2 5 1 (Z C nC cC) nC ((Hc.encL code).map (J AB)))(hnc:(Hc.encL code).length=nC)(hok:NewOk k l (b.take size) code ends):P12 w w2 ((((w6.setCell ⟨g9,0,G⟩ (J V k.1)).setCell ⟨g9,1,G⟩ (J V k.2)).setCell ⟨g9,2,G⟩ (Z C nC cC)).setCell ⟨g9,3,G⟩ (J .i64 N)) ge e b l N size ends A3 n3 c3 g13 g9 k C nC cC code:=by
 have f:Fr (λq=>q=g9) w6 ((((w6.setCell ⟨g9,0,G⟩ (J V k.1)).setCell ⟨g9,1,G⟩ (J V k.2)).setCell ⟨g9,2,G⟩ (Z C nC cC)).setCell ⟨g9,3,G⟩ (J .i64 N)):=
  ((((Ao (λq=>q=g9) w6).setCell (p:=⟨g9,0,G⟩) (Af rfl) _).setCell (p:=⟨g9,1,G⟩) (Af rfl) _).setCell (p:=⟨g9,2,G⟩) (Af rfl) _).setCell (p:=⟨g9,3,G⟩) (Af rfl) _
 have h9':=h9.fr h.f id;have b9:Blk ((((w6.setCell ⟨g9,0,G⟩ (J V k.1)).setCell ⟨g9,1,G⟩ (J V k.2)).setCell ⟨g9,2,G⟩ (Z C nC cC)).setCell ⟨g9,3,G⟩ (J .i64 N)) g9 149 #[J V k.1,J V k.2,Z C nC cC,J U N]:=(((h9'.set_ 0 _).set_ 1 _).set_ 2 _).set_ 3 _;have hl9:=h9.lt;have hlo:=hf.size;have f6:=hf.tr h.f;have l7:=h7.lt;have n13:=h.n13;have hrow: ∀{base n s:Nat} {t:AN} {v:As} {xs:List As},w6.ownsRow base t s v n xs→↑w2≤base→ ∀q,v.ownBlock=I q→q≠g9:=λhr hb q hq e2=>by
  have:=Cn hr q hq;omega
 refine⟨⟨(h4.fr h.f id).fr f (λe=>O),(h6.fr h.f id).fr f (λe=>O),(h7.fr h.f id).fr f (λe=>O),b9,h.b13.fr f (λe=>O),n9,O⟩,(he.fr0 f6).fr f (λq hq e2=>?_),h.nl,h.nb,AR h.r f (hrow h.r (AD _)),AR hrc f (hrow hrc (AD _)),hnc,hok,hlo,f6.trans f (λq hq e2=>by have e2:q=g9:=e2;omega)⟩;have:=he.own_lt q hq;omega
structure P13(w w2 w7 wx:Aa)(ge:Nat)(e:Eo)(b:List Int)(l:List Gs.Ins)(N size:Nat)(ends:Bool)(A3:Aw)(n3 c3 g13 g9:Nat)(k:Ky)(C:Aw)(nC cC:Nat)(code:List Tr.HI)(bk:Bk)(A2:Aw)(c2 gm2:Nat):Prop where
 p:P12 w w2 w7 ge e b l N size ends A3 n3 c3 g13 g9 k C nC cC code
 c:Cch wx e.gc (e.s.put bk A2 c2 gm2)
 f:Fr (e.s.wr e.gc) w7 wx
 own: ∀q,(e.s.put bk A2 c2 gm2).own e.gc q→e.s.own e.gc q∨w7.heap.size≤q
structure P14(w w7 wx:Aa)(ge:Nat)(e e':Eo)(b:List Int)(ends:Bool)(A3:Aw)(n3 c3 g13 g9:Nat)(k:Ky)(C:Aw)(nC cC N:Nat):Prop where
 bx:Bx w wx n3 c3 g13 g9 A3 ends k C nC cC N
 el:Elk w wx ge e e' 1
 o6: ¬e'.own ge (↑w+1)
 o7: ¬e'.own ge (↑w+2)
 o9: ¬e'.own ge g9
 o13: ¬e'.own ge g13
 hit:HitOk wx k b C nC cC N n3 ends
variable{w7:Aa}
theorem P14.fr0(h:P14 w w7 wx ge e e' b ends A3 n3 c3 g13 g9 k C nC cC N)(f:Fr Aj wx wy):P14 w w7 wy ge e e' b ends A3 n3 c3 g13 g9 k C nC cC N:=
 ⟨h.bx.fr f (λ_ _ _ e=>e.elim),h.el.then0 f,h.o6,h.o7,h.o9,h.o13,h.hit.fr f (λ_ e=>e.elim)⟩
theorem HitOk.elk{w':Aa}{d:Nat}(h:HitOk w k b A n c ct n2 en)(hl:Elk w w' ge e e' d):HitOk w' k b A n c ct n2 en:=by
 obtain⟨l,bs,code,h1,h2,h3,h4⟩:=h;exact⟨l,bs,code,h1,h2,hl.row h3 oth8,h4⟩
theorem P14.tidied(h:P14 w w7 wx ge e e' b ends A3 n3 c3 g13 g9 k C nC cC N){ed:AY}(ht:Sl wx ge e' ed wy): ∃e2,P14 w w7 wy ge e e2 b ends A3 n3 c3 g13 g9 k C nC cC N:=by
 obtain⟨_,e2,hel,_⟩:=Sm h.el.en ht;have hb:=h.bx;refine⟨e2,⟨⟨hb.b4.fr ht.2.choose_spec.2.2 ?_,hb.b6.fr ht.2.choose_spec.2.2 ?_,hb.b7.fr ht.2.choose_spec.2.2 ?_,hb.b9.fr ht.2.choose_spec.2.2 ?_,hb.b13.fr ht.2.choose_spec.2.2 ?_,hb.n9,hb.n13⟩,h.el.tr hel,hel.away hb.b6.lt h.o6,hel.away hb.b7.lt h.o7,hel.away hb.b9.lt h.o9,hel.away hb.b13.lt h.o13,h.hit.elk hel⟩⟩
 all_goals intro q
 all_goals obtain⟨bs,clock,hm⟩:=h.el.en.m
 all_goals have a2:=IW hm.b
 ·rw[←q,srt_blk hb.b4] at a2;simp at a2
 ·rw[←q,srt_blk hb.b6] at a2;simp at a2
 ·rw[←q,srt_blk hb.b7] at a2;simp at a2
 ·rw[←q,srt_blk hb.b9] at a2;simp at a2
 ·rw[←q,srt_blk hb.b13] at a2;simp at a2
theorem p14_mk{w8 w9:Aa}{code:List Tr.HI}(he:En w ge e)(hk:k.Ok)(hgm:e.gm<↑w)(h:P12 w w2 w7 ge e b l N size ends A3 n3 c3 g13 g9 k C nC cC code)(hb:Bx w w8 n3 c3 g13 g9 A3 ends k C nC cC N)(hrc:w8.ownsRow ↑w2 5 1 (Z C nC cC) nC ((Hc.encL code).map (J AB)))(f:Fr (· =e.gm) w8 w9)(hel:Elk w w9 ge e e' 1)(ho: ∀q,e'.own ge q→e.own ge q∨w7.heap.size≤q∨ab A3=I q):P14 w w7 w9 ge e e' b ends A3 n3 c3 g13 g9 k C nC cC N:=by
 have hlo:=h.lo;have hA: ∀q,ab A3=I q→Ca.srt w7 q=I (I 5):=λq hq=>by
  exact RunRow.srt (r:=⟨b.take size,A3,c3,ends⟩) (Sw.own_low h.r (Bj _)) hq
 have hno: ∀{q:Nat} {t:AN} {cs:AO},Blk w7 q t cs→↑w≤q→t≠5→ ¬e'.own ge q:=λhq hl ht r=>by
  rcases ho _ r with r|r|r;·have:=he.own_lt _ r;omega
  ·have:=hq.lt;omega
  ·have:=hA _ r;rw[srt_blk hq] at this;simp at this;exact ht this
 refine⟨hb.fr f (λq h1 _ h3=> Ah (by have h3:q=e.gm:=h3;omega)),hel,hno h.bx.b6 O Ak,hno h.bx.b7 O Ak,hno h.bx.b9 (by have:=h.bx.n9;omega) Ak,hno h.bx.b13 (by have:=h.bx.n13;omega) Ak,l,b.take size,code,h.ok.t,List.take_prefix _ _,Sw.own_low (AR hrc f (λq hq e2=>?_)) (Bj _),h.nc.symm,by rw[h.nl],h.nb.symm,h.ok.e⟩;have:=Cn hrc q hq;have e2:q=e.gm:=e2;omega
theorem find_any(w:Aa)(ge:Nat)(e:Eo)(h:En w ge e)(k:Ky)(hk:k.Ok)(B n0 c0 bb off:Nat)(b:List Int)(hb:IntsAt AB w B (I ⟨bb,off,G⟩) n0 b)(hB:B≤↑w)(hn0:0<n0)(hn64:n0≤64)(hnc:n0≤c0)(hbk: ∃cs,Blk w bb 5 cs)(hfl:e.s.fl≤999999):At Tryz.prog 97 #[↑ge,A9 #[J V k.1,J V k.2],Z (I ⟨bb,off,G⟩) n0 c0] w (SM w ge e k b):=by
 have b4:Blk (((w.alloc (.cells #[J V k.1,J V k.2] 122)).alloc (.cells zB 149)).alloc (.cells zR 158)) ↑w 122 #[J V k.1,J V k.2]:=((AI _ _ _).alloc _).alloc _;have b6:Blk (((w.alloc (.cells #[J V k.1,J V k.2] 122)).alloc (.cells zB 149)).alloc (.cells zR 158)) (↑w+1) 149 zB:=(CK _ _ _ AC).alloc _;have b7:Blk (((w.alloc (.cells #[J V k.1,J V k.2] 122)).alloc (.cells zB 149)).alloc (.cells zR 158)) (↑w+2) 158 zR:=CK _ _ _ AC;have f0:Fr Aj w (((w.alloc (.cells #[J V k.1,J V k.2] 122)).alloc (.cells zB 149)).alloc (.cells zR 158)):=(((Ao _ w).alloc _).alloc _).alloc _;have hz0:(((w.alloc (.cells #[J V k.1,J V k.2] 122)).alloc (.cells zB 149)).alloc (.cells zR 158)).heap.size=w.heap.size+3:=AC;generalize hW0:((w.alloc (.cells #[J V k.1,J V k.2] 122)).alloc (.cells zB 149)).alloc (.cells zR 158)=W0 at*;have HW:=T hW0;have H:=T h;have HBI:=T hb;have HBK:=T hbk;have HK:=T hk;obtain⟨kb,hkb⟩:=A8 (decide (0≤idx k e.s.bl));have HFi:=T (λW (f:Fr Aj w W)=>findC W e.gc e.s (h.c.fr0 f) k kb hkb);have HKB:=T hkb;obtain⟨bs,clock,hm⟩:=h.m;obtain⟨A2,n2,c2,en,hlk,hlr⟩:=look_run hm k hk;have HLK:=T hlk;have HLR:=T hlr;have he0:=(h.fr0 f0).b;have s0:=he0.cell 0;have s1:=he0.cell 1;have sl:=he0.lt;have k0:=b4.cell 0;have k1:=b4.cell 1;have kl:=b4.lt;have F0:=T f0;have HB4:=T b4;have HB6:=T b6;have HB7:=T b7;have HZ0:=T hz0;clear b4 b6 b7 f0 hW0 h hb hbk hkb hm hlk hlr he0 hz0;go_in;go_upto_region 1 with(fail);rw[HW.out];go_cut [9,10] (λv9 v10 wx=> ∃(g9:Nat) (pc pl:Int) (A:Aw) (n c:Nat) (ct:Int),v9=↑g9∧v10=Ap kb∧Hid (Fa w wx g9 pc pl A n c ct k)∧Hid (kb=Ag→Kp wx 0 e.s k A n c ct)∧Hid (Fr Aj W0 wx));case first=>
  refine C7 (S:=Fr Aj W0) AL ((Ao Aj W0).drew) (λhH=>?_);refine Av 0 rfl hH GO ?_;refine Av 1 rfl hH GO ?_;refine Av 2 rfl hH GO ?_
  try simp only[AG]
  refine Av 3 rfl hH GO ?_;refine Av 4 rfl hH GO ?_
  try simp only[AG]
  refine Bb [5,9] ?_;refine AT (λK hK=>?_) ?_
  ·go_simp;go_wp2_with ((with_reducible refine(HFi.out _ (F0.out.tr hH)).mono ?_);rintro e2 w2 ⟨⟨pc,pl,A,n,c,ct,rfl,hfo⟩,f2⟩;have hf:=hH.tr f2;have hz:=hf.size;have HFO:=T hfo;have F2:=T f2;clear hfo;try(have bz:=((AI W0 149 #[J V 0,J V 0,Z G 0 0,J U 0]).drew).fr f2 id;have z0:=bz.cell 0;have z1:=bz.cell 1;have z2:=bz.cell 2;have z3:=bz.cell 3;have y0:=bz.frozen 0;have y1:=bz.frozen 1;have y2:=bz.frozen 2;have y3:=bz.frozen 3;have zl:=bz.lt;have HBZ:=T bz));refine hK.out _ _ (hf) λhH=>?_;clear hK K;refine Av 6 rfl hH GO ?_;refine Av 7 rfl hH GO ?_;refine Av 8 rfl hH GO ?_
   try simp only[AG]
   refine Bb [9] ?_;refine AT (λK hK=>?_) ?_;·go_simp;refine hK.out _ _ (hH.alloc _) λhH=>?_;clear hK K;exact fV
   exact Bc
  refine AT (λK hK=>?_) ?_
  ·go_simp;refine hK.out _ _ (hH.alloc _) λhH=>?_;clear hK K;refine Bb [5] ?_;refine AT (λK hK=>?_) ?_
   ·go_simp;go_wp2_with ((with_reducible refine(HFi.out _ (F0.out.tr hH)).mono ?_);rintro e2 w2 ⟨⟨pc,pl,A,n,c,ct,rfl,hfo⟩,f2⟩;have hf:=hH.tr f2;have hz:=hf.size;have HFO:=T hfo;have F2:=T f2;clear hfo;try(have bz:=((AI W0 149 #[J V 0,J V 0,Z G 0 0,J U 0]).drew).fr f2 id;have z0:=bz.cell 0;have z1:=bz.cell 1;have z2:=bz.cell 2;have z3:=bz.cell 3;have y0:=bz.frozen 0;have y1:=bz.frozen 1;have y2:=bz.frozen 2;have y3:=bz.frozen 3;have zl:=bz.lt;have HBZ:=T bz));refine hK.out _ _ (hf) λhH=>?_;clear hK K;refine Av 6 rfl hH GO ?_;refine Av 7 rfl hH GO ?_;refine Av 8 rfl hH GO ?_
    try simp only[AG]
    exact fV
   exact Bc
  exact Bc
 case rest=>
  obtain⟨g9,pc,pl,A,n,c,ct,rfl,rfl,HFa,HFo,HFr⟩:=hcut;obtain⟨w1,rfl⟩: ∃w1,w1=wc:=⟨_,rfl⟩;have he1:=H.out.fr0 HFa.out.f;have t0:w1.cell? ⟨ge,1,G⟩=I (.map (I e.gm)):=he1.b.cell 1;have tl:ge<↑w1:=he1.b.lt;have u0:w1.cell? ⟨↑w,0,G⟩=I (J V k.1):=HFa.out.b4.cell 0;have u1:w1.cell? ⟨↑w,1,G⟩=I (J V k.2):=HFa.out.b4.cell 1;have ul:=HFa.out.b4.lt;clear he1 s0 s1 sl k0 k1 kl HFi;go_upto_region 2 with(fail);go_cut [11] (λv11 wx=> ∃g11:Nat,v11=↑g11∧Hid (Blk wx g11 158 #[Z A2 n2 c2,Ap en])∧Hid (Fr Aj w1 wx));case first=>
   refine C7 (S:=Fr Aj w1) AL ((Ao Aj w1).drew) (λhH=>?_);refine Av 0 rfl hH MT ?_;refine Av 1 rfl hH MT ?_;refine Av 2 rfl hH MT ?_
   try simp only[AG]
   refine Av 3 rfl hH MT ?_;refine Av 4 rfl hH MT ?_
   try simp only[AG]
   refine Bb [5,6] ?_;refine AT (λK hK=>?_) ?_
   ·have hl:=HLK.out _ (HFa.out.f.tr hH);go_simp;refine hK.out _ _ hH λhH=>?_;clear hK K;refine Bb [6] ?_;refine AT (λK hK=>?_) ?_;·go_simp;refine hK.out _ _ (hH.alloc _) λhH=>?_;exact fY
    exact Bc
   refine AT (λK hK=>?_) ?_
   ·go_simp;refine hK.out _ _ (hH.alloc _) λhH=>?_;clear hK K;refine Bb [5] ?_;refine AT (λK hK=>?_) ?_;·have hl:=HLK.out _ (HFa.out.f.tr hH);go_simp;refine hK.out _ _ hH λhH=>?_;exact fY
    exact Bc
   exact Bc
  case rest=>
   obtain⟨g11,rfl,HB11,HF11⟩:=hcut;obtain⟨w2,rfl⟩: ∃w2,w2=wc:=⟨_,rfl⟩;have HF2:=T (HFa.out.f.tr HF11.out);have H2:=T (H.out.fr0 HF2.out);have B4:=T (HFa.out.b4.fr HF11.out id);have B6:=T (HFa.out.b6.fr HF11.out id);have B7:=T (HFa.out.b7.fr HF11.out id);have B9:=T (HFa.out.b9.fr HF11.out id);have HN9:Hid (↑w+3≤g9):=T HFa.out.n9;have HFO2:Hid (kb=Ag→Kp w2 0 e.s k A n c ct):=T (λq=>fU (HFo.out q) HF11.out);clear t0 tl u0 u1 ul HFa HFo HFr HF11;go_upto_region 3 with(fail);go_cut [38] (λv wx=> ∃hit:Bool,v=Ap hit∧wx=w2∧Hid (hit=Ag→HitOk w2 k b A n c ct n2 en));case first=>
    cases kb
    ·go_wp2
     go_meet;exact⟨Ac,rfl,rfl,T (λq=>by cases q)⟩
    ·obtain⟨bk,hbm,hkk,hn,hct,ho⟩:=HFO2.out rfl;obtain⟨r,l,code,hin,htrl,hcode,hctl,hre,hrb,hr64⟩:=H2.out.ok bk hbm;rw[hkk] at hin;obtain⟨rA,rn,rc,re⟩:=HLR.out r hin;have hrow:=H2.out.r _ hin;have hir:IntsAt AB w2 ↑w2 r.A r.b.length r.b:=by
      refine⟨rfl,λi hi=>?_,λh0=>?_⟩;·have:=hrb (r.b.getD i 0) (by rw[AS,BK hi];exact CE hi);exact OE
      ·obtain⟨g',cap,cur,e2,hg,hbb,hcc,_,hs,htt⟩:=EQ hrow h0;injection e2 with e2;refine⟨g',0,e2,hbb.lt,λi hi=>?_⟩;rw[BW,hbb.cell i,←DV,←Dq (show i<r.b.length*1 by omega),htt];rw[DP,BK hi,AS,BK hi];rfl
     rw[←rA,←rn] at hir;have hbi:=fZ;have Hpf:=T (mS w2 ↑w2 n0 n2 c0 c2 (I ⟨bb,off,G⟩) A2 b r.b hbi hir hnc (by rw[rn];simp only[BQ];omega) Cc);have HIT:Hid (decide (r.b<+:b)=Ag→HitOk w2 k b A n c ct n2 en):=T (λq=>⟨l,r.b,code,by rw[←hkk];exact htrl,of_decide_eq_true q,by rw[←hcode];exact ho,by rw[hn,hcode],by rw[hct,hctl],rn,by rw[re,hre]⟩);obtain⟨pf,hpf⟩:=A8 (decide (r.b<+:b));rw[hpf] at Hpf HIT;have v0:w2.cell? ⟨g11,0,G⟩=I (Z A2 n2 c2):=HB11.out.cell 0;have vl:=HB11.out.lt;clear hpf hbm hkk hn hct ho hin htrl hcode hctl hre hrb hr64 rA rn rc re hrow hir hbi;go_wp2_with ((with_reducible refine Az Hpf ?_);rintro e3 w3 ⟨rfl,rfl⟩);go_meet;exact⟨pf,rfl,rfl,HIT⟩
   case rest=>
    obtain⟨hit,rfl,rfl,HIT⟩:=hcut;obtain⟨w2,rfl⟩: ∃w2,w2=wc:=⟨_,rfl⟩;have m9:=B9.out;have x0:=m9.cell 0;have x1:=m9.cell 1;have x2:=m9.cell 2;have x3:=m9.cell 3;have xl:=m9.lt;have m11:=HB11.out;have v0:=m11.cell 0;have v1:=m11.cell 1;have vl:=m11.lt;have m6:=B6.out;have y0:w2.cell? ⟨↑w+1,0,G⟩=I (J .u32 0):=m6.cell 0;have y1:w2.cell? ⟨↑w+1,1,G⟩=I (J .u32 0):=m6.cell 1;have y2:w2.cell? ⟨↑w+1,2,G⟩=I (Z G 0 0):=m6.cell 2;have y3:w2.cell? ⟨↑w+1,3,G⟩=I (J .i64 0):=m6.cell 3;have z0:=m6.frozen 0;have z1:=m6.frozen 1;have z2:=m6.frozen 2;have z3:=m6.frozen 3;have yl:=m6.lt;have m7:=B7.out;have q0:w2.cell? ⟨↑w+1+1,0,G⟩=I (Z G 0 0):=m7.cell 0;have q1:w2.cell? ⟨↑w+1+1,1,G⟩=I (.bool Ac):=m7.cell 1;have p0:w2.frozen? ⟨↑w+1+1,0,G⟩=Ac:=m7.frozen 0;have p1:w2.frozen? ⟨↑w+1+1,1,G⟩=Ac:=m7.frozen 1;have ql:w.heap.size+1+1<w2.heap.size:=m7.lt;have r1:g11≠↑w+1:=HB11.out.ne_ B6.out Ak;have r2:g9≠↑w+1:=OI;have r3:g9≠↑w+1+1:=OI;clear m9 m11 m6 m7
    cases hit
    ·clear x0 x1 x2 x3 xl v0 v1 vl y0 y1 y2 y3 z0 z1 z2 z3 yl q0 q1 p0 p1 ql r1 r2 r3 HIT HFO2 HLR HKB HB11;have hbi:=fZ;have hb2: ∀z∈b,0≤z∧z<256:=ints_bd hbi;have hb6:b.length≤64:=by rw[hbi.1];exact hn64
     have HBB:=T (Ay hb2 hb6);have HPl:=T (plain_any w2 ↑w2 n0 c0 bb off b hbi (AD _) hn64 hnc hn0);clear hbi hb2 hb6;go_upto_region 5 with(fail);go_cut [12,13] (λv12 v13 wx=> ∃(l:List Gs.Ins) (N size:Nat) (ends:Bool) (A1:Aw) (c1:Nat) (A3:Aw) (n3 c3 g13:Nat),v12=Z A1 N c1∧v13=↑g13∧Hid (P5 w2 wx b l N size ends A1 c1 A3 n3 c3 g13));case first=>
      go_wp2_with ((with_reducible refine Az HPl ?_);rintro e3 w3 ⟨l,size,ends,A1,c1,A3,c3,hpn,hl8,rfl,hi,hr,f3⟩;have HP3:=T (Ay hpn (Ay hl8 (Ay hi (Ay hr f3))));clear hpn hl8 hi hr f3;obtain⟨N,hN⟩: ∃N,l.length=N:=⟨_,rfl⟩;obtain⟨n3,hn3⟩: ∃n3,(b.take size).length=n3:=⟨_,rfl⟩;simp only[hN,hn3];have HN:=T hN;have HN3:=T hn3;clear hN hn3);go_meet;obtain⟨hpn,hl8,hi,hr,f3⟩:=HP3.out;have fa:=(Ao Aj w3).alloc (.cells #[Z A3 n3 c3,Ap ends] 158);exact⟨l,N,size,ends,A1,c1,A3,n3,c3,_,rfl,rfl,T ⟨hpn,hl8,HN.out,HN3.out,AR hi fa (λ_ _ e=>e),AR hr fa (λ_ _ e=>e),AI _ _ _,f3.size,f3.tr fa⟩⟩
     case rest=>
      obtain⟨l,N,size,ends,A1,c1,A3,n3,c3,g13,rfl,rfl,HP5⟩:=hcut;obtain⟨w3,rfl⟩: ∃w3,w3=wc:=⟨_,rfl⟩;have u4:=B4.out.fr HP5.out.f id;have u0:w3.cell? ⟨↑w,0,G⟩=I (J V k.1):=u4.cell 0;have ul:=u4.lt;clear u4;by_cases hl:l=[]
      ·have hN0:N=0:=by rw[←HP5.out.nl,hl];rfl
       subst hN0;have HLo:=T (Lw_.lower_nil w3 k.1 A1 c1);go_upto_region 8 with((with_reducible refine Az HLo ?_);rintro e4 w4 ⟨rfl,f4⟩;have HF4:=T f4;clear f4);have HFz:=T (HF4.out.alloc (.cells z14 218));generalize w4.alloc (.cells z14 218)=W5 at*;have m6:=(B6.out.fr HP5.out.f id).fr HFz.out id;have m7:=(B7.out.fr HP5.out.f id).fr HFz.out id;have m9:=(B9.out.fr HP5.out.f id).fr HFz.out id;have m13:=HP5.out.b13.fr HFz.out id;have y0:W5.cell? ⟨↑w+1,0,G⟩=I (J .u32 0):=m6.cell 0;have y1:W5.cell? ⟨↑w+1,1,G⟩=I (J .u32 0):=m6.cell 1;have y2:W5.cell? ⟨↑w+1,2,G⟩=I (Z G 0 0):=m6.cell 2;have y3:W5.cell? ⟨↑w+1,3,G⟩=I (J .i64 0):=m6.cell 3;have z0:=m6.frozen 0;have z1:=m6.frozen 1;have z2:=m6.frozen 2;have z3:=m6.frozen 3;have yl:=m6.lt;have q0:W5.cell? ⟨↑w+1+1,0,G⟩=I (Z G 0 0):=m7.cell 0;have q1:W5.cell? ⟨↑w+1+1,1,G⟩=I (.bool Ac):=m7.cell 1;have p0:W5.frozen? ⟨↑w+1+1,0,G⟩=Ac:=m7.frozen 0;have p1:W5.frozen? ⟨↑w+1+1,1,G⟩=Ac:=m7.frozen 1;have ql:w.heap.size+1+1<W5.heap.size:=m7.lt;have x0:=m9.cell 0;have x1:=m9.cell 1;have x2:=m9.cell 2;have x3:=m9.cell 3;have xl:=m9.lt;have v0:=m13.cell 0;have v1:=m13.cell 1;have vl:=m13.lt;have r1:g13≠↑w+1:=m13.ne_ m6 Ak;have r2:g9≠↑w+1:=OI;have r3:g9≠↑w+1+1:=OI;have r4:g13≠↑w+1+1:=by have:=HP5.out.n13;have:=B7.out.lt;omega
       have M6:=T m6;have M7:=T m7;clear m6 m7 m9 m13
       go_region
       all_goals go_wp2_with fail
       obtain⟨k6,k7⟩:=SO (x0:=J .u32 pc) (x1:=J .u32 pl) (x2:=Z A n c) (x3:=J .i64 ct) (y0:=Z A3 n3 c3) (y1:=.bool ends) M6.out M7.out O;refine Bt (Lt rfl _ _ (w.heap.size+1) (w.heap.size+2) 149 158 _ _ _ _ (.bool Ac) rfl rfl k6 Tryz.underlying149 rfl szBk rfl k7 Tryz.underlying158 rfl Il) rfl ?_;have hol:=gE;exact SN ((Elk.fr0 H.out ((HF2.out.tr HP5.out.f).tr HFz.out)).less O) M6.out M7.out ⟨O,hol _ O⟩ ⟨O,hol _ O⟩ (λe=>KB) rfl
      ·have hne:1≤N:=by rw[←HP5.out.nl];exact Ef.2 hl
       have HLo:Hid (At Tryz.prog 116 #[J V k.1,Z A1 N c1] w3 (Lw_.LowPost w3 (Tr.sweepP (Tr.lower0 k.1 l)))):=T (by
        have:=Lw_.lower_any w3 k.1 HK.out.1.1 HK.out.1.2 A1 c1 ↑w3 l (atN_of HP5.out.i) (AD _) HP5.out.pn.all hl HP5.out.l8 HP5.out.pn.init;rwa[HP5.out.nl] at this)
       have hwf:Tr.WF (Tr.sweepP (Tr.lower0 k.1 l)):=(Tr.sweep_ok (Tr.lower_wf k.1 l HK.out.1 hl HP5.out.l8 (λi hi=>⟨(HP5.out.pn.all i hi).2.1,(HP5.out.pn.all i hi).2.2⟩) HP5.out.pn.init) Gs.St.new).1;have HCo:Hid (∀W B v,PgR W B (Tr.sweepP (Tr.lower0 k.1 l)) v→At Tryz.prog 117 #[A9 (pgA (Tr.sweepP (Tr.lower0 k.1 l)) v)] W (Cd.CodePost W (Tr.sweepP (Tr.lower0 k.1 l)))):=T (λW B v h=>Cd.code_any W B _ v h hwf);have HNE:=T hl;clear hwf hl;go_upto_region 9 with((with_reducible refine Az HLo ?_);rintro e4 w4 ⟨v,rfl,hv,f4⟩;have HF4:=T f4;have HV:=T hv;clear f4 hv);have f35:=(Ao Aj w4).alloc (.cells (pgA (Tr.sweepP (Tr.lower0 k.1 l)) v) 218);have HPg:=T (HV.out.pgr.fr0 f35);have HFz:=T (HF4.out.tr f35);have b14:=AI w4 218 (pgA (Tr.sweepP (Tr.lower0 k.1 l)) v);clear f35;generalize w4.alloc (.cells (pgA (Tr.sweepP (Tr.lower0 k.1 l)) v) 218)=W5 at*;clear u0 ul;go_cut [15,16] (λv15 v16 wx=> ∃(C:Aw) (nC cC:Nat) (code:List Tr.HI),v15=J U 0∧v16=Z C nC cC∧Hid (NewOk k l (b.take size) code ends∧(Hc.encL code).length=nC∧wx.ownsRow ↑w2 5 1 (Z C nC cC) nC ((Hc.encL code).map (J AB))∧Fr Aj W5 wx));case first=>
        go_wp2_with (first
         |((with_reducible refine Sv.wpL_lq b14 Gi Ec ?_);clear b14)
         |((with_reducible refine(HCo.out _ _ _ HPg.out).mono ?_);rintro e6 w6 ⟨pl,tt,hpo,hall,hln,C,cC,rfl,hrc,f6⟩;have HK6:=T (Ay hpo (Ay hall (Ay hln (Ay hrc f6))));clear hpo hall hln hrc f6))
        go_meet;obtain⟨hpo,hall,hln,hrc,f6⟩:=HK6.out;exact⟨C,_,cC,_,rfl,rfl,T ⟨told HP5.out HNE.out hpo hall hln HBB.out.1 HBB.out.2,rfl,Sw.own_low hrc (by have:=HP5.out.f.size;have:=HFz.out.size;omega),f6⟩⟩
       case rest=>
        obtain⟨C,nC,cC,code,rfl,rfl,HK6⟩:=hcut;obtain⟨w6,rfl⟩: ∃w6,w6=wc:=⟨_,rfl⟩;have HP56:=T ((HP5.out.fr0 HFz.out).fr0 HK6.out.2.2.2);have f26:=HP56.out.f;have m4:=B4.out.fr f26 id;have u0:w6.cell? ⟨↑w,0,G⟩=I (J V k.1):=m4.cell 0;have u1:w6.cell? ⟨↑w,1,G⟩=I (J V k.2):=m4.cell 1;have ul:=m4.lt;have m9:=B9.out.fr f26 id;have x0:=m9.cell 0;have x1:=m9.cell 1;have x2:=m9.cell 2;have x3:=m9.cell 3;have z0:=m9.frozen 0;have z1:=m9.frozen 1;have z2:=m9.frozen 2;have z3:=m9.frozen 3;have xl:=m9.lt;clear f26 m4 m9 b14;go_upto_region 13 with(fail);clear x0 x1 x2 x3 xl z0 z1 z2 z3 u0 u1 ul;have HP12:=T (p12_mk (g9:=g9) H.out HP56.out HF2.out B4.out B6.out B7.out B9.out HN9.out HK6.out.2.2.1 HK6.out.2.1 HK6.out.1);generalize((((w6.setCell ⟨g9,0,G⟩ (J V k.1)).setCell ⟨g9,1,G⟩ (J V k.2)).setCell ⟨g9,2,G⟩ (Z C nC cC)).setCell ⟨g9,3,G⟩ (J .i64 N))=w7 at*;have HHA:=T HP12.out.ok.t.ok;have HLN:=T HP12.out.nl;have l8:=HP5.out.l8;have HPut:Hid (At Tryz.prog 118 #[↑e.gc,A9 #[J V k.1,J V k.2,Z C nC cC,J U N]] w7.drew (fJ w7.drew e.gc e.s λA' c'=>⟨k.1,k.2,Hc.encL code,(l.length:Int),A',c'⟩)):=T (by
         have hrd:=Reads.of_own HP12.out.rc;rw[←HP12.out.nc] at hrd⊢;rw[←HP12.out.nl];have hcn:code≠[]:=by
          obtain⟨pl,tt,_,hcd⟩:=HP12.out.ok.t.cd;rw[hcd];simp[Tr.codeC]
         have hlen:=HP12.out.ok.t.len;refine put_any _ _ _ (HP12.out.en.c.fr ((Ao Aj w7).drew) (λ_ _ e=>e)) _ _ (Hc.encL code) _ C cC ↑w7 hrd (AD _) hk ⟨by have:=HP12.out.nl;omega,O⟩ ⟨λe=>?_,by rw[Hc.encL_len];omega,fT HHA.out⟩ O;have e2:=Hc.encL_len code;rw[e] at e2;have:=Ef.2 hcn;simp at e2;omega)
        have he:=HP12.out.en.b;have s0:w7.cell? ⟨ge,0,G⟩=I ↑e.gc:=he.cell 0;have sl:=he.lt;have m9:=HP12.out.bx.b9;have x0:w7.cell? ⟨g9,0,G⟩=I (J V k.1):=m9.cell 0;have x1:w7.cell? ⟨g9,1,G⟩=I (J V k.2):=m9.cell 1;have x2:w7.cell? ⟨g9,2,G⟩=I (Z C nC cC):=m9.cell 2;have x3:w7.cell? ⟨g9,3,G⟩=I (J .i64 N):=m9.cell 3;have xl:=m9.lt;have n0: ¬e.s.wr e.gc ge:=λq=>H.out.ges.2.2.2.1 (.inl q);have n9: ¬e.s.wr e.gc g9:=λq=>by have:=H.out.own_lt g9 (Ah (Af (.inl q)));have:=HN9.out;omega
        clear he m9;go_cut [9] (λv9 wx=>v9=↑g9∧ ∃(A':Aw) (c':Nat) (A2:Aw) (c2 gm2:Nat),Hid (P13 w w2 w7 wx ge e b l N size ends A3 n3 c3 g13 g9 k C nC cC code ⟨k.1,k.2,Hc.encL code,(l.length:Int),A',c'⟩ A2 c2 gm2));case first=>
         refine C7 (S:=Fr (e.s.wr e.gc) w7) AL ((Ao (e.s.wr e.gc) w7).drew) (λhH=>?_);refine Av 0 rfl hH MU ?_;refine Av 1 rfl hH MU ?_;refine Av 2 rfl hH MU ?_
         try simp only[AG]
         refine Av 3 rfl hH MU ?_;refine Av 4 rfl hH MU ?_
         try simp only[AG]
         refine Bb [5] ?_;refine AT (λK hK=>?_) ?_
         ·go_simp;go_wp2_with ((with_reducible refine Az HPut ?_);rintro e8 w8 ⟨A',c',A2,c2,gm2,rfl,hc8,f8,ho8⟩;have HC8:=T hc8;have HF8:=T f8;have HO8:=T ho8;clear hc8 f8 ho8);refine hK.out _ _ (hH.tr HF8.out) λhH=>?_;clear hK K;refine CT ?_
          go_wp2
          go_meet;exact⟨rfl,A',c',A2,c2,gm2,T ⟨HP12.out,HC8.out,hH,HO8.out⟩⟩
         exact Bc
        case rest=>
         obtain⟨rfl,A',c',A2,c2,gm2,HP13⟩:=hcut;obtain⟨w8,rfl⟩: ∃w8,w8=wc:=⟨_,rfl⟩;clear s0 sl x0 x1 x2 x3 xl n0 n9 HPut l8;have HE7:=T HP12.out.en;have HGM:=T (H.out.own_lt e.gm (Ah (Ah (.inl rfl))));have HGE:=T H.out.ges;have F8:Hid (Fr (e.wr ge) w7 w8):=T (HP13.out.f.mono (λq _ r=> Ah (.inl r)));have HNO:Hid (∀q,w.heap.size≤q→ ¬e.own ge q):=T (λq hq r=>by have:=H.out.own_lt q r;omega);have HBX8:=T (HP12.out.bx.fr F8.out (λq hq _ r=> Ah (HNO.out q hq (wr_own r))));have HR8:=T (HE7.out.row F8.out HP12.out.r oth8);have HRC8:=T (HE7.out.row F8.out HP12.out.rc oth8);have HUP:=T (put_en (r:=⟨b.take size,A3,c3,ends⟩) (wa:=w8.drew) H.out hk HP12.out.ok rfl HP13.out.c ((HP12.out.f.mono (λ_ _ e=>e.elim)).tr HP13.out.f) (m:=w7.heap.size) HP12.out.f.size HP13.out.own HR8.out HP12.out.lo ((Ao Aj w8).drew));have he:=HE7.out.b.fr HP13.out.f (λq=>HGE.out.2.2.2.1 (.inl q));have s1:w8.cell? ⟨ge,1,G⟩=I (.map (I e.gm)):=he.cell 1;have sl:=he.lt;have u0:w8.cell? ⟨↑w,0,G⟩=I (J V k.1):=HBX8.out.b4.cell 0;have u1:w8.cell? ⟨↑w,1,G⟩=I (J V k.2):=HBX8.out.b4.cell 1;have ul:=HBX8.out.b4.lt;have v0:w8.cell? ⟨g13,0,G⟩=I (Z A3 n3 c3):=HBX8.out.b13.cell 0;have v1:w8.cell? ⟨g13,1,G⟩=I (.bool ends):=HBX8.out.b13.cell 1;have vl:=HBX8.out.b13.lt;have n0: ¬(ge=e.gm):=HGE.out.2.1;have n4: ¬(↑w=e.gm):=by have:=HGM.out;omega
         have n13: ¬(g13=e.gm):=by have:=HGM.out;have:=HBX8.out.n13;omega
         have HUP2:Hid (∃w3 e',(Ix 120 (.map (I e.gm)) (A9 #[J V k.1,J V k.2]) (A9 #[Z A3 n3 c3,Ap ends])).run Tryz.prog w8.drew=.ok () w3∧Fr (· =e.gm) w8.drew w3∧Elk w w3 ge e e' 1∧ ∀q,e'.own ge q→e.own ge q∨w7.heap.size≤q∨ab A3=I q):=T (by
          obtain⟨w3,e',j1,j2⟩:=HUP.out;have nb:=HP12.out.nb;rw[←nb];exact⟨w3,e',j1,j2⟩)
         clear he HUP;go_upto_region 14 with(fail);go_cut [9] (λv9 wx=>v9=↑g9∧ ∃e',Hid (P14 w w7 wx ge e e' b ends A3 n3 c3 g13 g9 k C nC cC N));case first=>
          refine C7 (S:=Fr (· =e.gm) w8) AL ((Ao (· =e.gm) w8).drew) (λhH=>?_);refine Av 0 rfl hH Lu ?_;refine Av 1 rfl hH Lu ?_;refine Av 2 rfl hH Lu ?_
          try simp only[AG]
          refine Av 3 rfl hH Lu ?_;refine Av 4 rfl hH Lu ?_;refine Av 5 rfl hH Lu ?_
          try simp only[AG]
          refine Bb [6] ?_;refine AT (λK hK=>?_) ?_
          ·obtain⟨w9,e9,hup,f9,hel,hown⟩:=HUP2.out;have HEL:=T hel;have HF9:=T f9;have HOW:=T hown;clear f9 hel hown;go_simp;refine hK.out _ _ (hH.tr HF9.out) λhH=>?_;clear hK K;refine CT ?_
           go_wp2
           go_meet;exact⟨rfl,e9,T (p14_mk H.out hk HGM.out HP12.out HBX8.out HRC8.out hH HEL.out HOW.out)⟩
          exact Bc
         case rest=>
          obtain⟨rfl,e',HP14⟩:=hcut;obtain⟨w9,rfl⟩: ∃w9,w9=wc:=⟨_,rfl⟩;clear s1 sl u0 u1 ul v0 v1 vl n0 n4 n13 HUP2;have he:=HP14.out.el.en.b;have s0:w9.cell? ⟨ge,0,G⟩=I ↑e'.gc:=he.cell 0;have s1:w9.cell? ⟨ge,1,G⟩=I (.map (I e'.gm)):=he.cell 1;have sl:=he.lt;obtain⟨bs,clock,hm⟩:=HP14.out.el.en.m;have HLm:Hid (∃n:Nat,∀W,Fr Aj w9 W→ ∀ty,(Builtin.len_ #[120] ty #[.map (I e'.gm)]).run Tryz.prog W=.ok (J U n) W):=T ⟨_,λW f ty=>run_len_map (w:=W) _ ty e'.gm _ clock Tryz.underlying120 (hm.fr f id).b⟩;obtain⟨nm,hlm⟩:=HLm.out;have HLm:=T hlm;have HLen:=T (λW (f:Fr Aj w9 W)=>len_any W e'.gc e'.s (HP14.out.el.en.c.fr f (λ_ _ e=>e)));clear he hm hlm;go_upto_region 15 with(fail);go_cut [93] (λv wx=> ∃t:Bool,v=Ap t∧Hid (Fr Aj w9 wx));case first=>
           refine C7 (S:=Fr Aj w9) AL ((Ao Aj w9).drew) (λhH=>?_);refine Av 0 rfl hH I9 ?_;refine Av 1 rfl hH I9 ?_;refine Av 2 rfl hH I9 ?_
           try simp only[AG]
           refine Av 3 rfl hH I9 ?_;refine Av 4 rfl hH I9 ?_;refine Av 5 rfl hH I9 ?_
           try simp only[AG]
           refine Av 6 rfl hH I9 ?_;refine Av 7 rfl hH I9 ?_;refine Av 8 rfl hH I9 ?_
           try simp only[AG]
           refine Bb [9] ?_;refine AT (λK hK=>?_) ?_
           ·go_simp;go_wp2_with ((with_reducible refine(HLen.out _ hH).mono ?_);rintro e9 w10 ⟨rfl,rfl⟩);refine hK.out _ _ hH λhH=>?_;clear hK K;refine Av 10 rfl hH I9 ?_;refine CT ?_
            go_wp2
            go_meet;exact⟨_,rfl,T hH⟩
           exact Bc
          case rest=>
           obtain⟨t,rfl,HF10⟩:=hcut;obtain⟨w10,rfl⟩: ∃w10,w10=wc:=⟨_,rfl⟩;have HTd:=T (bT w10 ge e' (HP14.out.el.en.fr0 HF10.out));clear s0 s1 sl HLm HLen;have HQ:Hid (P14 w w7 w10 ge e e' b ends A3 n3 c3 g13 g9 k C nC cC N):=T (HP14.out.fr0 HF10.out)
           cases t
           ·go_upto_region 17 with(fail);have m6:=HQ.out.bx.b6;have m7:=HQ.out.bx.b7;have m9:=HQ.out.bx.b9;have m13:=HQ.out.bx.b13;have y0:w10.cell? ⟨↑w+1,0,G⟩=I (J .u32 0):=m6.cell 0;have y1:w10.cell? ⟨↑w+1,1,G⟩=I (J .u32 0):=m6.cell 1;have y2:w10.cell? ⟨↑w+1,2,G⟩=I (Z G 0 0):=m6.cell 2;have y3:w10.cell? ⟨↑w+1,3,G⟩=I (J .i64 0):=m6.cell 3;have z0:=m6.frozen 0;have z1:=m6.frozen 1;have z2:=m6.frozen 2;have z3:=m6.frozen 3;have yl:=m6.lt;have q0:w10.cell? ⟨↑w+1+1,0,G⟩=I (Z G 0 0):=m7.cell 0;have q1:w10.cell? ⟨↑w+1+1,1,G⟩=I (.bool Ac):=m7.cell 1;have p0:w10.frozen? ⟨↑w+1+1,0,G⟩=Ac:=m7.frozen 0;have p1:w10.frozen? ⟨↑w+1+1,1,G⟩=Ac:=m7.frozen 1;have ql:w.heap.size+1+1<w10.heap.size:=m7.lt;exact gF
           ·go_upto_region 17 with((with_reducible refine Az HTd ?_);rintro e11 w11 htd;obtain⟨rfl,HQ2⟩:=(⟨(Sm HQ.out.el.en htd).1,T (HQ.out.tidied htd)⟩:e11=_∧Hid (∃e2,P14 w w7 w11 ge e e2 b ends A3 n3 c3 g13 g9 k C nC cC N));clear htd);obtain⟨e2,hq2⟩:=HQ2.out;have HQ:=T hq2;clear hq2;have m6:=HQ.out.bx.b6;have m7:=HQ.out.bx.b7;have m9:=HQ.out.bx.b9;have m13:=HQ.out.bx.b13;have y0:w11.cell? ⟨↑w+1,0,G⟩=I (J .u32 0):=m6.cell 0;have y1:w11.cell? ⟨↑w+1,1,G⟩=I (J .u32 0):=m6.cell 1;have y2:w11.cell? ⟨↑w+1,2,G⟩=I (Z G 0 0):=m6.cell 2;have y3:w11.cell? ⟨↑w+1,3,G⟩=I (J .i64 0):=m6.cell 3;have z0:=m6.frozen 0;have z1:=m6.frozen 1;have z2:=m6.frozen 2;have z3:=m6.frozen 3;have yl:=m6.lt;have q0:w11.cell? ⟨↑w+1+1,0,G⟩=I (Z G 0 0):=m7.cell 0;have q1:w11.cell? ⟨↑w+1+1,1,G⟩=I (.bool Ac):=m7.cell 1;have p0:w11.frozen? ⟨↑w+1+1,0,G⟩=Ac:=m7.frozen 0;have p1:w11.frozen? ⟨↑w+1+1,1,G⟩=Ac:=m7.frozen 1;have ql:w.heap.size+1+1<w11.heap.size:=m7.lt;exact gF
    ·go_upto_region 4 with(fail)
     go_region
     all_goals go_wp2_with fail
     obtain⟨k6,k7⟩:=SO (x0:=J .u32 pc) (x1:=J .u32 pl) (x2:=Z A n c) (x3:=J .i64 ct) (y0:=Z A2 n2 c2) (y1:=.bool en) B6.out B7.out O;refine Bt (Lt rfl _ _ (w.heap.size+1) (w.heap.size+2) 149 158 _ _ _ _ (.bool Ag) rfl rfl k6 Tryz.underlying149 rfl szBk rfl k7 Tryz.underlying158 rfl Il) rfl ?_;have hol:=gE;exact SN ((Elk.fr0 H.out HF2.out).less O) B6.out B7.out ⟨O,hol _ O⟩ ⟨O,hol _ O⟩ (λ_=>HIT.out trivial) rfl
end Eg
namespace Eg
open Mz Go.Maps Ca
theorem SP{w w':Aa}{ge:Nat}{e:Eo}(h:En w ge e){s':Cs}(hc:Cch w' e.gc s')(f:Fr (e.s.wr e.gc) w w')(hbl:s'.bl=e.s.bl)(hgm:s'.gm=e.s.gm)(hfl:s'.fl=e.s.fl)(ho: ∀q,s'.own e.gc q→e.s.own e.gc q∨w.heap.size≤q):Elk w w' ge e {e with s:=s'} 0:=by
 obtain⟨q1,q2,q3,q4,q5⟩:=h.ges;obtain⟨bs,clock,hm⟩:=h.m;have hf:Fr (e.wr ge) w w':=f.mono (λq _ r=> Ah (Af r));refine Elk.of h ⟨h.b.fr f (λq=>q4 (Af q)),hc,⟨bs,clock,hm.fr f (λq=>q5 (Af q))⟩,λp hp=>h.row hf (h.r p hp) oth8,λq=>h.ne (q.trans hgm),λb hb=>h.ok b (by rw[←hbl];exact hb),h.ko,h.la⟩ rfl (by show s'.fl≤_;rw[hfl];omega) (λk hk=>?_) hf;rcases hk with q|q|q|q;·exact Af (Af q)
 ·rcases ho k q with q|q;·exact Af (Ah (Af q))
  ·exact Ah q
 ·exact Sn
 ·exact Af (Ah (Ah (Ah q)))
theorem link_elk{w w':Aa}{ge:Nat}{e:Eo}{a b:Ky}{ed:AY}(h:En w ge e)(hl:Kl w e.gc e.s a b ed w'):(∃t,ed=Ax (Ap t))∧ ∃e',Elk w w' ge e e' 0∧e'.fa=e.fa∧e'.sl=e.sl∧e'.la=e.la∧e'.be=e.be:=by
 unfold Kl at hl;split at hl
 ·obtain⟨rfl,f,hl⟩:=hl;refine⟨⟨_,rfl⟩, ?_⟩;split at hl;·exact⟨_,SP h hl f rfl rfl rfl (λq hq=> Af hq),rfl,rfl,rfl,rfl⟩
  ·obtain⟨A,c,hc,ho⟩:=hl;exact⟨_,SP h hc f rfl rfl rfl ho,rfl,rfl,rfl,rfl⟩
 ·obtain⟨rfl,f,hc⟩:=hl;exact⟨⟨_,rfl⟩,_,SP h hc f rfl rfl rfl (λq hq=> Af hq),rfl,rfl,rfl,rfl⟩
end Eg
end Go.Proofs.YtdfegdoeebaagaaGreatDoor
