/- A part of the proof of the laws of the top: TpNodeF, TpNodeG. No condition. -/
import Derived.Test.YtbbhinehcncmeaaGreatG23
import Derived.Test.YtbbhinehcncmeaaGreatG24
namespace Go.Proofs.YtbbhinehcncmeaaGreat
open Go.RowKit
set_option linter.unusedSimpArgs false
set_option linter.unusedVariables false
set_option linter.unusedSectionVars false
set_option maxRecDepth 100000
set_option maxHeartbeats 4000000
section
theorem dV {w w':World}{v:Value}(hg:w.grownBy w' v.ownBlock):∃G,aC (· =G) w w'/\(v.ownBlock=some G\/G=w.heap.size):=by
 cases hv:v.ownBlock with
 |none=>exact⟨w.heap.size,aC.of_grown (row:=v.ownBlock) hg (fun g e=>by rw[hv]at e;cases e),.inr rfl⟩
 |some G=>exact⟨G,aC.of_grown (row:=v.ownBlock) hg (fun g e=>by rw[hv]at e;cases e;rfl),.inl rfl⟩
theorem Tp.jY {C:Tp.Cf}{k:Tp.Nw}{o:Tp.Off}{r:List Tp.Off}(h:k.n.tick%3=2\/o.slot≠k.slot\/o.who≠Tp.mG C k.slot):Tp.aY C k (o::r)=Tp.aY C k r:=by
 show(if _ then _ else _)=_
 rw[if_pos h]
theorem Tp.vT {C:Tp.Cf}{k:Tp.Nw}{o:Tp.Off}{r:List Tp.Off}(h:¬(k.n.tick%3=2\/o.slot≠k.slot\/o.who≠Tp.mG C k.slot))(h8:k.n.o.length=8):Tp.aY C k (o::r)=Tp.aY C (Tp.setFull k) r:=by
 show(if _ then _ else(if _ then _ else _))=_
 rw[if_neg h,if_pos h8]
theorem Tp.zZ {C:Tp.Cf}{k:Tp.Nw}{o:Tp.Off}{r:List Tp.Off}(h:¬(k.n.tick%3=2\/o.slot≠k.slot\/o.who≠Tp.mG C k.slot))(h8:k.n.o.length≠8):Tp.aY C k (o::r)=Tp.aY C (Tp.setO k (k.n.o++[o])) r:=by
 show(if _ then _ else(if _ then _ else _))=_
 rw[if_neg h,if_neg h8]
variable [Forb]
structure pD (X:Nat) (aw:Option Addr) (nw cw:Nat) (C:Tp.Cf) (w3:World) (k3:Tp.Nw) (al:List Tp.Off) (tot:Tp.Nw) (j:Nat) (r:RN) (os:List (RO×Tp.Vw)) (ta:Option Addr) (tn tc:Nat) (ts:List (RO×Tp.Vw)) (k:Tp.Nw) (wr:World):Prop where
 wk:NW wr X aw nw cw C r os ta tn tc ts k
 own:OwnL offC 9 112 wr w3.heap.size (m63 r.oa r.on r.oc) (os.map Prod.fst)
 sep:∀g,(Value.slice r.oa r.on r.oc).ownBlock=some g->∀p∈os,p.1.v.Off g
 far:∀g,w3.heap.size<=g->r.v.Off g/\r.inn.Off g/\fR aw nw g/\dM ta tn ts g
 kp:aC (· =X) w3 wr
 tot:tot=Tp.aY C k (al.drop j)
 tick:k.n.tick=k3.n.tick
 slot:k.slot=k3.slot
 len:os.length<=8
 hb3:∀b,Forb.bad b->b<w3.heap.size
theorem pD.keep {X:Nat}{aw:Option Addr}{nw cw:Nat}{C:Tp.Cf}{w3:World}{k3:Tp.Nw}{al:List Tp.Off}{tot:Tp.Nw}{j:Nat}{r:RN}{os:List (RO×Tp.Vw)}{ta:Option Addr}{tn tc:Nat}{ts:List (RO×Tp.Vw)}{k:Tp.Nw}{wr w':World}(h:pD X aw nw cw C w3 k3 al tot j r os ta tn tc ts k wr)(hb:Below wr.heap.size wr w'){i:Nat}(ht:tot=Tp.aY C k (al.drop i)):pD X aw nw cw C w3 k3 al tot i r os ta tn tc ts k w':=
 ⟨h.wk.keep hb,h.own.keep hb,h.sep,h.far,h.kp.thenB (hb.mono h.kp.size),ht,h.tick,h.slot,h.len,h.hb3⟩
theorem pD.fullT {X:Nat}{aw:Option Addr}{nw cw:Nat}{C:Tp.Cf}{w3:World}{k3:Tp.Nw}{al:List Tp.Off}{tot:Tp.Nw}{j:Nat}{r:RN}{os:List (RO×Tp.Vw)}{ta:Option Addr}{tn tc:Nat}{ts:List (RO×Tp.Vw)}{k:Tp.Nw}{wr w7:World}(h:pD X aw nw cw C w3 k3 al tot j r os ta tn tc ts k wr)(hX:X<w3.heap.size)(hb:Below wr.heap.size wr w7){i:Nat}(ht':tot=Tp.aY C (Tp.setFull k) (al.drop i)):
  pD X aw nw cw C w3 k3 al tot i { r with full:=true } os ta tn tc ts (Tp.setFull k) (w7.setCell ⟨X,11,none⟩ (.bool true)):=by
 have h7:=h.keep hb (i:=j) h.tot
 have T:=cM [.bool true] 11 _ _ h7.wk.box (by show(12:Nat)<=19;omega)
 have n7:=h7.wk.nd
 have nt:NW (w7.setCell ⟨X,11,none⟩ (.bool true)) X aw nw cw C { r with full:=true } os ta tn tc ts (Tp.setFull k):=h7.wk.turn T ⟨n7.v,n7.inn,n7.o,n7.ko,n7.no,n7.tick,n7.c,rfl⟩ ⟨h7.wk.noff.v,h7.wk.noff.inn,h7.wk.noff.o⟩ h7.wk.told h7.wk.toff h7.wk.kt (fun b e=>⟨⟨(h7.wk.fr b e).1.v,(h7.wk.fr b e).1.inn,(h7.wk.fr b e).1.o⟩,(h7.wk.fr b e).2⟩)
 exact⟨nt,h7.own.turn T hX,h7.sep,h7.far,h7.kp.trans (cL T rfl),ht',h7.tick,h7.slot,h7.len,h7.hb3⟩
theorem pD.push {X:Nat}{aw:Option Addr}{nw cw:Nat}{C:Tp.Cf}{w3:World}{k3:Tp.Nw}{al:List Tp.Off}{tot:Tp.Nw}{j:Nat}{r:RN}{os:List (RO×Tp.Vw)}{ta:Option Addr}{tn tc:Nat}{ts:List (RO×Tp.Vw)}{k:Tp.Nw}{wr w7 w8:World}(h:pD X aw nw cw C w3 k3 al tot j r os ta tn tc ts k wr)(hX:X<w3.heap.size)(hb:Below wr.heap.size wr w7){ro:RO}{x:Tp.Vw}{t:RV}(ht:VwR w7 t x)(htn:t.New wr.heap.size)(hU:ro.b.U){g cap:Nat}(hown:w8.ownsRow w3.heap.size 112 9 (.slice (some (m00 g)) ((os.map Prod.fst).length+1) cap) ((os.map Prod.fst).length+1) ((os.map Prod.fst).flatMap offC++offC { ro with v:=t }))(hg:w7.grownBy w8 (Value.slice r.oa r.on r.oc).ownBlock)(hat:(Value.slice r.oa r.on r.oc).ownBlock=some g\/g=w7.heap.size)(hl:os.length<=7){i:Nat}(ht':tot=Tp.aY C (Tp.setO k (k.n.o++[aS (ro,x)])) (al.drop i)):
  pD X aw nw cw C w3 k3 al tot i { r with oa:=some ⟨g,0,none⟩,on:=(os.map Prod.fst).length+1,oc:=cap } (os++[({ ro with v:=t },x)]) ta tn tc ts (Tp.setO k (k.n.o++[aS (ro,x)])) (w8.setCell (m39 X) (.slice (some (m00 g)) ((os.map Prod.fst).length+1) cap))/\w8.heap[X]?=some (.cells (uQ aw nw cw C r k.slot ta tn tc).toArray 116 (0,0)):=by
 have h7:=h.wk.keep hb
 obtain⟨G,kG,hG⟩:=dV hg
 have hwr3:w3.heap.size<=wr.heap.size:=h.kp.size
 have hw7:wr.heap.size<=w7.heap.size:=hb.size
 have hG3:w3.heap.size<=G:=by
  rcases hG with e|e
  ·exact(h.own.lt G e).1
  ·omega
 have hXG:X≠G:=by omega
 obtain⟨f1,f2,f3,f4⟩:=h.far G hG3
 have fo:∀p∈os,p.1.v.Off G:=fun p hp=>by
  rcases hG with e|e
  ·exact h.sep G e p hp
  ·exact(h7.nd.o.vw p hp).away (by omega)
 have ft:t.Off G:=by
  rcases hG with e|e
  ·exact htn.off (h.own.lt G e).2
  ·exact ht.away (by omega)
 have bx8:=(kG.block X (Nat.lt_of_lt_of_le h.wk.lt hb.size) hXG).trans h7.box
 have T:=cM [.slice (some (m00 g)) ((os.map Prod.fst).length+1) cap] 6 _ _ bx8 (by show(7:Nat)<=19;omega)
 have hS:=OwnL.snoc (l:=os.map Prod.fst) (x:={ ro with v:=t }) hown rfl
 rw[show os.map Prod.fst++[{ ro with v:=t }]=(os++[({ ro with v:=t },x)]).map Prod.fst from by rw[List.map_append];rfl]at hS
 have hS9:=hS.turn T hX
 have sl9:=cP dW hS9
 have kT:=cL (S:=(· =X)) T rfl
 have hg3:w3.heap.size<=g:=by
  rcases hat with e|e
  ·exact(h.own.lt g e).1
  ·omega
 have hoX:fR (some ⟨g,0,none⟩) ((os.map Prod.fst).length+1) X:=.inr fun b off e=>by injection e with e;injection e with e1 e2 e3;omega
 have hlen:(os.map Prod.fst).length=os.length:=List.length_map ..
 refine⟨⟨⟨T.new,(h7.conf.keepS kG f3).keepS kT h.wk.coff,h.wk.coff,⟨(h7.nd.v.keepS kG f1).keepS kT h.wk.noff.v,(h7.nd.inn.keepS kG f2).keepS kT h.wk.noff.inn,⟨sl9.1,sl9.2,?_,?_,(by show(os.map Prod.fst).length+1<=1000000;rw[hlen];omega)⟩,?_,h7.nd.no,h7.nd.tick,h7.nd.c,h7.nd.full⟩,⟨h.wk.noff.v,h.wk.noff.inn,⟨hoX,?_⟩⟩,(h7.told.keepS kG f4).keepS kT h.wk.toff,h.wk.toff,h.wk.kt,?_,?_⟩,hS9,?_,h.far,?_,ht',h.tick,h.slot,by rw[List.length_append];show os.length+1<=8;omega,h.hb3⟩,bx8⟩
 ·intro p hp
  rcases List.mem_append.1 hp with hp|hp
  ·exact((h7.nd.o.vw p hp).keepS kG (fo p hp)).keepS kT (h.wk.noff.o.2 p hp)
  ·rw[List.mem_singleton.1 hp]
   exact(ht.keepS kG ft).keepS kT (htn.off h.wk.lt)
 ·intro p hp
  rcases List.mem_append.1 hp with hp|hp
  ·exact h7.nd.o.u p hp
  ·rw[List.mem_singleton.1 hp]
   exact hU
 ·show k.n.o++[aS (ro,x)]=_
  rw[h7.nd.ko,List.map_append]
  try rfl
 ·intro p hp
  rcases List.mem_append.1 hp with hp|hp
  ·exact h.wk.noff.o.2 p hp
  ·rw[List.mem_singleton.1 hp]
   exact htn.off h.wk.lt
 ·intro b e
  have:=h.hb3 b e
  have:=kG.size
  simp only[World.size_setCell]
  omega
 ·intro y hy
  have h3:=h.hb3 y hy
  refine⟨⟨(h.wk.fr y hy).1.v,(h.wk.fr y hy).1.inn,⟨.inr fun b off e=>by injection e with e;injection e with e1 e2 e3;omega,fun p hp=>?_⟩⟩,(h.wk.fr y hy).2⟩
  rcases List.mem_append.1 hp with hp|hp
  ·exact(h.wk.fr y hy).1.o.2 p hp
  ·rw[List.mem_singleton.1 hp]
   exact htn.off (h.wk.hi y hy)
 ·intro g' hg' p hp
  obtain rfl:g=g':=by simpa[Value.ownBlock]using hg'
  rcases List.mem_append.1 hp with hp|hp
  ·rcases hat with e|e
   ·exact h.sep g e p hp
   ·exact(h7.nd.o.vw p hp).away (by omega)
  ·rw[List.mem_singleton.1 hp]
   rcases hat with e|e
   ·exact htn.off (h.own.lt g e).2
   ·exact ht.away (by omega)
 ·exact((h.kp.thenB (hb.mono h.kp.size)).thenB (kG.below (by omega) (fun j e=>by rw[e];exact hG3))).trans kT
theorem aGv (X:Nat)(aw:Option Addr)(nw cw:Nat)(C:Tp.Cf)(k:Tp.Nw)(a:Option Addr)(n c:Nat)(ol:List (RO×Tp.Vw))(w:World)(hh:NWe w X aw nw cw C k)(ho:dD w a n c ol)(hof:dM a n ol X)(ht:0<=k.n.tick/\k.n.tick<=1000000):
  Calls Tryz.prog 65 #[.pointer (some (m00 X)),.slice a n c] w fun e w'=>e=.returned (.tuple #[])/\NWe w' X aw nw cw C (Tp.hear C k (ol.map aS))/\aC (· =X) w w':=by
 obtain⟨tot,htot⟩:∃t,Tp.hear C k (ol.map aS)=t:=⟨_,rfl⟩
 rw[htot]
 have HTOT:=zH htot
 clear htot
 obtain⟨r,os,ta,tn,tc,ts,h⟩:=hh
 have hX:=h.lt
 have x6:w.cell? (m39 X)=some (.slice r.oa r.on r.oc):=cA h.box 6
 have hb1:Below w.heap.size w (w.alloc (.cells (m52 r.oa r.on r.oc a n c) 30)):=(Below.refl _ _).alloc nr _
 have hr1:(w.alloc (.cells (m52 r.oa r.on r.oc a n c) 30)).heap[w.heap.size]?=some (.cells (m52 r.oa r.on r.oc a n c) 30 (0,0)):=by rw[cF,if_pos rfl]
 have hs1:w.heap.size<(w.alloc (.cells (m52 r.oa r.on r.oc a n c) 30)).heap.size:=by simp
 go_enter Tryz.func65,Tryz.ntmps65
 go_wp2_with fail
 generalize w.alloc (.cells (m52 r.oa r.on r.oc a n c) 30)=w1 at hb1 hr1 hs1⊢
 have H0:=zH h
 have HO:=zH ho
 have h1:=h.keep hb1
 have ho1:=ho.keep hb1
 refine(rT w.heap.size r.oa r.on r.oc (os.map Prod.fst) a n c (ol.map Prod.fst) w1 (cA hr1 0) (cA hr1 1) hs1 h1.nd.o.sl h1.nd.o.nil ho1.sl ho1.nil h1.nd.o.bd ho1.bd).mono ?_
 rintro e w2 ⟨v,rfl,own,hb2⟩
 rw[<-List.map_append]at own
 obtain⟨al,hal⟩:∃l,os++ol=l:=⟨_,rfl⟩
 rw[hal]at own
 obtain⟨aa,ac,hv,asl,az⟩:=own.sl0 dW
 have hlm:(al.map Prod.fst).length=al.length:=List.length_map ..
 obtain⟨m,hm⟩:∃m,al.length=m:=⟨_,rfl⟩
 rw[hlm,hm]at hv asl az
 subst hv
 have hb12:=bS hb1 hb2
 have h2:=h.keep hb12
 have xx:=h2.box
 have y6:w2.cell? (m39 X)=some (.slice r.oa r.on r.oc):=cA h2.box 6
 have f6:=cH h2.box 6
 have T:=cM [.slice none 0 0] 6 _ _ h2.box (by show(7:Nat)<=19;omega)
 have h3:NW (w2.setCell (m39 X) (m48)) X aw nw cw C { r with oa:=none,on:=0,oc:=0 } [] ta tn tc ts (Tp.setO k []):=h2.turn T ⟨h2.nd.v,h2.nd.inn,dD.none _,rfl,h2.nd.no,h2.nd.tick,h2.nd.c,h2.nd.full⟩ ⟨h2.noff.v,h2.noff.inn,⟨.inl rfl,fun p hp=>(by cases hp)⟩⟩ h2.told h2.toff h2.kt (fun b e=>⟨⟨(h2.fr b e).1.v,(h2.fr b e).1.inn,⟨.inl rfl,fun p hp=>(by cases hp)⟩⟩,(h2.fr b e).2⟩)
 have hw1:w.heap.size<=w1.heap.size:=hb1.size
 have all3:SlV offC 9 (w2.setCell (m39 X) (m48)) aa m ac (al.map Prod.fst):=asl.keepS (cL T rfl) (.inr fun b off e=>by have:=own.new b off e;omega)
 have vw3:∀p∈al,VwR (w2.setCell (m39 X) (m48)) p.1.v p.2/\p.1.b.U/\p.1.v.Off X:=fun p hp=>by
  rw[<-hal]at hp
  rcases List.mem_append.1 hp with hp|hp
  ·exact⟨(h2.nd.o.vw p hp).keepS (cL T rfl) (h2.noff.o.2 p hp),h2.nd.o.u p hp,h2.noff.o.2 p hp⟩
  ·exact⟨((ho.keep hb12).vw p hp).keepS (cL T rfl) (hof.2 p hp),ho.u p hp,hof.2 p hp⟩
 have K3:aC (· =X) w (w2.setCell (m39 X) (m48)):=(cQ (S:=fun j=>j=X) hb12).trans (cL T rfl)
 have hsz3:w.heap.size<=(w2.setCell (m39 X) (m48)).heap.size:=K3.size
 have hln:m<=2000000:=by rw[<-hm,<-hal,List.length_append,h2.nd.o.len,ho.len];have:=h2.nd.o.bd;have:=ho.bd;omega
 have HH:Hid (tot=Tp.aY C (Tp.setO k []) (al.map aS)):=zH (by rw[<-HTOT.out,<-hal];unfold Tp.hear;rw[h.nd.ko,List.map_append])
 have HA3:=zH (And.intro all3 (And.intro vw3 (show fR aa m X from .inr fun b off e=>by have:=own.new b off e;omega)))
 have HN3:=zH (And.intro h3 K3)
 have HX:=zH (And.intro hX hsz3)
 have HFAR:=zH (show ∀g,(w2.setCell (m39 X) (m48)).heap.size<=g->r.v.Off g/\r.inn.Off g/\fR aw nw g/\dM ta tn ts g from fun g hg=>have hg:=Nat.le_trans hsz3 hg;⟨h.nd.v.away hg,h.nd.inn.away hg,h.conf.away hg,h.told.away hg⟩)
 clear asl az own x6 hb1 hr1 hs1 h ho h1 ho1 hb12 h2 xx T h3 hb2 all3 vw3 K3 H0 HO hof hw1
 go_wp2_with fail
 generalize w2.setCell (m39 X) (m48)=w3 at HA3 HN3 HX HFAR⊢
 clear hal hlm
 have hk3:(Tp.setO k []).n.tick=k.n.tick/\(Tp.setO k []).slot=k.slot:=⟨rfl,rfl⟩
 go_loopw [21] (fun i wr=>∃(j:Nat) (r:RN) (os:List (RO×Tp.Vw)) (ta:Option Addr) (tn tc:Nat) (ts:List (RO×Tp.Vw)) (kj:Tp.Nw),j<=m/\i=.int .i64 j/\pD X aw nw cw C w3 k (al.map aS) tot j r os ta tn tc ts kj wr) (fun i _=>m-(intOf i).toNat)
 case atStart=>exact⟨0,_,_,_,_,_,_,_,Nat.zero_le _,rfl,HN3.out.1,OwnL.nil _ _ _ _ _,(fun g hg p hp=>(by cases hp)),HFAR.out,aC.refl _ _,HH.out,rfl,rfl,Nat.zero_le _,HN3.out.1.hi⟩
 case round=>
  have HK3:=zH HN3.out.2
  clear HN3 HFAR y6 f6
  obtain⟨j,r1,os1,ta1,tn1,tc1,ts1,kj,hj,rfl,hR⟩:=hrel
  by_cases hjn:j<m
  case neg=>
   obtain rfl:j=m:=by omega
   have HR:=zH hR
   have HK:=zH (HK3.out.trans HR.out.kp)
   have HZ:Hid (kj=tot):=zH (by rw[HR.out.tot,List.drop_of_length_le (by rw[List.length_map,hm];exact Nat.le_refl _)];rfl)
   clear hR
   go_wp2_with fail
   refine bodyPost_end (v:=.tuple #[]) (results_none rfl _ _ _) rfl ⟨rfl,⟨_,_,_,_,_,_,HZ.out▸HR.out.wk⟩,HK.out⟩
  have hjl:j<al.length:=by rw[hm];exact hjn
  obtain⟨⟨ro,x⟩,hp⟩:∃p,al[j]=p:=⟨_,rfl⟩
  have hdrop:(al.map aS).drop j=aS (ro,x)::(al.map aS).drop (j+1):=by
   rw[List.drop_eq_getElem_cons (by rw[List.length_map];exact hjl),List.getElem_map,hp]
  obtain⟨o0,o1,⟨b0,b1,b2,b3,b4⟩,⟨xb,mb,kb,xv,mv,kv⟩⟩:=ro
  obtain⟨b,o,rfl,hlt,hc⟩:∃b o,aa=some ⟨b,o,none⟩/\b<w3.heap.size/\∀i,i<9->wr.cell? (m09 b (o+j*9+i))=(offC ⟨o0,o1,⟨b0,b1,b2,b3,b4⟩,⟨xb,mb,kb,xv,mv,kv⟩⟩)[i]?:=by
   rcases HA3.out.1.rows with h0|⟨b,o,rfl,hlt,hc⟩
   ·rw[List.length_map]at h0;omega
   ·rcases HA3.out.2.2 with h0|ha
    ·omega
    ·refine⟨b,o,rfl,hlt,fun i hi=>?_⟩
     have:=hc j (by rw[List.length_map];exact hjl) i hi
     rw[List.getElem_map,hp]at this
     exact(World.cell?_of_block (a:=⟨b,_,none⟩) (hR.kp.block b hlt (ha b o rfl))).trans this
  have hvx:VwR wr ⟨xb,mb,kb,xv,mv,kv⟩ x/\Tp.B.U ⟨b0,b1,b2,b3,b4⟩:=by
   have:=HA3.out.2.1 _ (List.getElem_mem hjl)
   rw[hp]at this
   exact⟨this.1.keepS hR.kp this.2.2,this.2.1⟩
  have c0:wr.cell? (m09 b (o+j*9))=some (.int .i64 o0):=hc 0 (by omega)
  have c1:wr.cell? (m09 b (o+j*9+1))=some (.int .i64 o1):=hc 1 (by omega)
  have c2:wr.cell? (m09 b (o+j*9+2))=some (.int .i64 b0):=hc 2 (by omega)
  have c3:wr.cell? (m09 b (o+j*9+3))=some (.int .i64 b1):=hc 3 (by omega)
  have c4:wr.cell? (m09 b (o+j*9+4))=some (.int .u64 b2):=hc 4 (by omega)
  have c5:wr.cell? (m09 b (o+j*9+5))=some (.int .u64 b3):=hc 5 (by omega)
  have c6:wr.cell? (m09 b (o+j*9+6))=some (.int .u64 b4):=hc 6 (by omega)
  have c7:wr.cell? (m09 b (o+j*9+7))=some (.slice xb mb kb):=hc 7 (by omega)
  have c8:wr.cell? (m09 b (o+j*9+8))=some (.slice xv mv kv):=hc 8 (by omega)
  have j0:(0:Int)<=j:=by omega
  have j1:(j:Int)<m:=by omega
  have hbN:=cG (N:=wr.heap.size) (w:=wr) (w':=wr.alloc (.cells (m13 o0 o1 b0 b1 b2 b3 b4 xb mb kb xv mv kv) 112)) ((Below.refl _ _).alloc nr _) hR.wk.lt hR.wk.box
  have x1:(wr.alloc (.cells (m13 o0 o1 b0 b1 b2 b3 b4 xb mb kb xv mv kv) 112)).cell? (m15 X)=some (.int .i64 r1.tick):=cA hbN 1
  have x6:(wr.alloc (.cells (m13 o0 o1 b0 b1 b2 b3 b4 xb mb kb xv mv kv) 112)).cell? (m39 X)=some (.slice r1.oa r1.on r1.oc):=cA hbN 6
  have x12:(wr.alloc (.cells (m13 o0 o1 b0 b1 b2 b3 b4 xb mb kb xv mv kv) 112)).cell? (m59 X)=some (.slice aw nw cw):=cA hbN 12
  have x13:(wr.alloc (.cells (m13 o0 o1 b0 b1 b2 b3 b4 xb mb kb xv mv kv) 112)).cell? ⟨X,13,none⟩=some (.int .u64 C.sd):=cA hbN 13
  have x14:(wr.alloc (.cells (m13 o0 o1 b0 b1 b2 b3 b4 xb mb kb xv mv kv) 112)).cell? ⟨X,14,none⟩=some (.int .i64 C.ep):=cA hbN 14
  have x15:(wr.alloc (.cells (m13 o0 o1 b0 b1 b2 b3 b4 xb mb kb xv mv kv) 112)).cell? ⟨X,15,none⟩=some (.int .i64 C.nu):=cA hbN 15
  have x16:(wr.alloc (.cells (m13 o0 o1 b0 b1 b2 b3 b4 xb mb kb xv mv kv) 112)).cell? ⟨X,16,none⟩=some (.int .i64 C.de):=cA hbN 16
  have x17:(wr.alloc (.cells (m13 o0 o1 b0 b1 b2 b3 b4 xb mb kb xv mv kv) 112)).cell? (m47 X)=some (.int .i64 kj.slot):=cA hbN 17
  have HR:=zH hR
  have HP:=zH (And.intro hp hvx)
  have HD:=zH hdrop
  clear hc hp hvx hdrop hbN hR
  have hst:r1.tick=kj.n.tick:=HR.out.wk.nd.tick
  have hti:0<=r1.tick/\r1.tick<=1000000:=by rw[hst,HR.out.tick];exact ht
  have hal1:Below wr.heap.size wr (wr.alloc (.cells (m13 o0 o1 b0 b1 b2 b3 b4 xb mb kb xv mv kv) 112)):=(Below.refl _ _).alloc nr _
  have HAL:=zH hal1
  have htm:Int.tmod r1.tick 3=r1.tick%3:=Int.tmod_eq_emod_of_nonneg hti.1
  have HST:=zH hst
  have HTI:=zH hti
  clear hst hti hal1
  by_cases hm2:kj.n.tick%3=2
  ·have hT:(Int.tmod r1.tick 3==2)=true:=by rw[htm,HST.out];simp[hm2]
   have HSK:Hid (tot=Tp.aY C kj ((al.map aS).drop (j+1))):=zH (by rw[HR.out.tot,HD.out];exact Tp.jY (.inl hm2))
   clear hm2 htm
   go_wp2_with fail
   exact⟨⟨j+1,r1,os1,ta1,tn1,tc1,ts1,kj,by omega,by go_num,HR.out.keep HAL.out HSK.out⟩,by simp[intOf];omega⟩
  have hT:(Int.tmod r1.tick 3==2)=false:=by rw[htm,HST.out];simp[hm2]
  have HM2:=zH hm2
  clear hm2 htm
  have d0:(wr.alloc (.cells (m13 o0 o1 b0 b1 b2 b3 b4 xb mb kb xv mv kv) 112)).cell? (m07 wr)=some (.int .i64 o0):=cA (heap_alloc_new wr _) 0
  have d1:(wr.alloc (.cells (m13 o0 o1 b0 b1 b2 b3 b4 xb mb kb xv mv kv) 112)).cell? (m14 wr)=some (.int .i64 o1):=cA (heap_alloc_new wr _) 1
  by_cases hs0:o0=kj.slot
  case neg=>
   have hS:(o0 != kj.slot)=true:=by simp[hs0]
   have HSK:Hid (tot=Tp.aY C kj ((al.map aS).drop (j+1))):=zH (by rw[HR.out.tot,HD.out];exact Tp.jY (.inr (.inl hs0)))
   go_wp2_with fail
   generalize wr.alloc (.cells (m13 o0 o1 b0 b1 b2 b3 b4 xb mb kb xv mv kv) 112)=w4 at HAL d0 d1 x1 x6 x12 x13 x14 x15 x16 x17⊢
   go_region_held3 (fun W=>W.cell? (m07 wr)=some (.int .i64 o0)/\W.cell? (m47 X)=some (.int .i64 kj.slot)) (first|exact⟨d0,x17⟩) (fail)
   go_wp2_with fail
   exact⟨⟨j+1,r1,os1,ta1,tn1,tc1,ts1,kj,by omega,by go_num,HR.out.keep HAL.out.drew HSK.out⟩,by simp[intOf];omega⟩
  have hS:(o0 != kj.slot)=false:=by simp[hs0]
  have HS0:=zH hs0
  clear hs0
  obtain⟨pr,hpr⟩:∃z,Tp.mG C kj.slot=z:=⟨_,rfl⟩
  have HPR:=zH hpr
  clear hpr
  have HKX:=zH (HR.out.wk.keep HAL.out)
  have hX2:X<wr.heap.size:=HR.out.wk.lt
  have hN2:wr.heap.size<(wr.alloc (.cells (m13 o0 o1 b0 b1 b2 b3 b4 xb mb kb xv mv kv) 112)).heap.size:=by simp
  have hbo:(wr.alloc (.cells (m13 o0 o1 b0 b1 b2 b3 b4 xb mb kb xv mv kv) 112)).heap[wr.heap.size]?=some (.cells (m13 o0 o1 b0 b1 b2 b3 b4 xb mb kb xv mv kv) 112 (0,0)):=heap_alloc_new wr _
  by_cases hw0:o1=pr
  case neg=>
   have hW:(o1 != pr)=true:=by simp[hw0]
   have HSK:Hid (tot=Tp.aY C kj ((al.map aS).drop (j+1))):=zH (by rw[HR.out.tot,HD.out];exact Tp.jY (.inr (.inr (by rw[HPR.out];exact hw0))))
   clear hw0
   go_wp2_with fail
   generalize wr.alloc (.cells (m13 o0 o1 b0 b1 b2 b3 b4 xb mb kb xv mv kv) 112)=w4 at HAL HKX d0 d1 x1 x6 x12 x13 x14 x15 x16 x17 hN2 hbo⊢
   go_region_held3 (fun W=>W.cell? (m07 wr)=some (.int .i64 o0)/\W.cell? (m47 X)=some (.int .i64 kj.slot)) (first|exact⟨d0,x17⟩) (fail)
   have HKD:=zH (HKX.out.keep ((Below.refl w4.heap.size w4).drew.drew))
   go_wp2_with fail
   go_region_held3 (fun W=>W.cell? (m14 wr)=some (.int .i64 o1)/\W.cell? (m59 X)=some (.slice aw nw cw)/\W.cell? ⟨X,13,none⟩=some (.int .u64 C.sd)/\W.cell? ⟨X,14,none⟩=some (.int .i64 C.ep)/\W.cell? ⟨X,15,none⟩=some (.int .i64 C.nu)/\W.cell? ⟨X,16,none⟩=some (.int .i64 C.de)/\W.cell? (m47 X)=some (.int .i64 kj.slot)) (first|exact⟨d1,x12,x13,x14,x15,x16,x17⟩|exact hx5)
    (first
     |(go_at_call 49;refine(gA aw nw cw C.W C.sd C.ep C.nu C.de kj.slot _ HKD.out.conf.len HKD.out.conf.max HKD.out.conf.seed HKD.out.conf.ints).mono ?_;rintro e w5 ⟨rfl,hb5⟩;rw[show Tp.aCm C.W C.sd C.ep C.nu C.de kj.slot=pr from HPR.out];have hb5b:=bS ((Below.refl w4.heap.size w4).drew.drew) hb5;have bx5:=cG hb5b HKX.out.lt HKX.out.box;have bo5:=cG hb5b hN2 hbo;have hx5:=(⟨cA bo5 1,cA bx5 12,cA bx5 13,cA bx5 14,cA bx5 15,cA bx5 16,cA bx5 17⟩:w5.cell? (m14 wr)=some (.int .i64 o1)/\w5.cell? (m59 X)=some (.slice aw nw cw)/\w5.cell? ⟨X,13,none⟩=some (.int .u64 C.sd)/\w5.cell? ⟨X,14,none⟩=some (.int .i64 C.ep)/\w5.cell? ⟨X,15,none⟩=some (.int .i64 C.nu)/\w5.cell? ⟨X,16,none⟩=some (.int .i64 C.de)/\w5.cell? (m47 X)=some (.int .i64 kj.slot))))
   have HB5:=zH (bS HAL.out.drew.drew hb5)
   go_wp2_with fail
   exact⟨⟨j+1,r1,os1,ta1,tn1,tc1,ts1,kj,by omega,by go_num,HR.out.keep HB5.out HSK.out⟩,by simp[intOf];omega⟩
  have hW:(o1 != pr)=false:=by simp[hw0]
  have HNO:Hid (¬(kj.n.tick%3=2\/(aS (⟨o0,o1,⟨b0,b1,b2,b3,b4⟩,⟨xb,mb,kb,xv,mv,kv⟩⟩,x)).slot≠kj.slot\/(aS (⟨o0,o1,⟨b0,b1,b2,b3,b4⟩,⟨xb,mb,kb,xv,mv,kv⟩⟩,x)).who≠Tp.mG C kj.slot)):=zH (by rintro(h|h|h);exact HM2.out h;exact h HS0.out;exact h (hw0.trans HPR.out.symm))
  clear hw0
  have hlo:r1.on=os1.length:=HR.out.wk.nd.o.len.symm
  have hlk:kj.n.o.length=os1.length:=by rw[HR.out.wk.nd.ko,List.length_map]
  by_cases h8:os1.length=8
  ·have hE:((r1.on:Int)==8)=true:=by rw[hlo,h8];rfl
   have HSK:Hid (tot=Tp.aY C (Tp.setFull kj) ((al.map aS).drop (j+1))):=zH (by rw[HR.out.tot,HD.out];exact Tp.vT HNO.out (by rw[hlk];exact h8))
   clear h8 hlo hlk
   go_wp2_with fail
   generalize wr.alloc (.cells (m13 o0 o1 b0 b1 b2 b3 b4 xb mb kb xv mv kv) 112)=w4 at HAL HKX d0 d1 x1 x6 x12 x13 x14 x15 x16 x17 hN2 hbo⊢
   go_region_held3 (fun W=>W.cell? (m07 wr)=some (.int .i64 o0)/\W.cell? (m47 X)=some (.int .i64 kj.slot)) (first|exact⟨d0,x17⟩) (fail)
   have HKD:=zH (HKX.out.keep ((Below.refl w4.heap.size w4).drew.drew))
   go_wp2_with fail
   go_region_held3 (fun W=>W.cell? (m14 wr)=some (.int .i64 o1)/\W.cell? (m59 X)=some (.slice aw nw cw)/\W.cell? ⟨X,13,none⟩=some (.int .u64 C.sd)/\W.cell? ⟨X,14,none⟩=some (.int .i64 C.ep)/\W.cell? ⟨X,15,none⟩=some (.int .i64 C.nu)/\W.cell? ⟨X,16,none⟩=some (.int .i64 C.de)/\W.cell? (m47 X)=some (.int .i64 kj.slot)) (first|exact⟨d1,x12,x13,x14,x15,x16,x17⟩|exact hx5)
    (first
     |(go_at_call 49;refine(gA aw nw cw C.W C.sd C.ep C.nu C.de kj.slot _ HKD.out.conf.len HKD.out.conf.max HKD.out.conf.seed HKD.out.conf.ints).mono ?_;rintro e w5 ⟨rfl,hb5⟩;rw[show Tp.aCm C.W C.sd C.ep C.nu C.de kj.slot=pr from HPR.out];have hb5b:=bS ((Below.refl w4.heap.size w4).drew.drew) hb5;have bx5:=cG hb5b HKX.out.lt HKX.out.box;have bo5:=cG hb5b hN2 hbo;have hx5:=(⟨cA bo5 1,cA bx5 12,cA bx5 13,cA bx5 14,cA bx5 15,cA bx5 16,cA bx5 17⟩:w5.cell? (m14 wr)=some (.int .i64 o1)/\w5.cell? (m59 X)=some (.slice aw nw cw)/\w5.cell? ⟨X,13,none⟩=some (.int .u64 C.sd)/\w5.cell? ⟨X,14,none⟩=some (.int .i64 C.ep)/\w5.cell? ⟨X,15,none⟩=some (.int .i64 C.nu)/\w5.cell? ⟨X,16,none⟩=some (.int .i64 C.de)/\w5.cell? (m47 X)=some (.int .i64 kj.slot))))
   have HB5:=zH (bS HAL.out.drew.drew hb5)
   have hxx:=HR.out.wk.keep HB5.out
   have y6:w5.cell? (m39 X)=some (.slice r1.oa r1.on r1.oc):=cA hxx.box 6
   have y11:w5.cell? ⟨X,11,none⟩=some (.bool r1.full):=cA hxx.box 11
   have f11:=cH hxx.box 11
   have hfin:=zH (HR.out.fullT (Nat.lt_of_lt_of_le HX.out.1 HX.out.2) HB5.out HSK.out)
   clear hxx
   go_wp2_with fail
   exact⟨⟨j+1,_,os1,ta1,tn1,tc1,ts1,_,by omega,by go_num,hfin.out⟩,by simp[intOf];omega⟩
  ·have hE:((r1.on:Int)==8)=false:=by rw[hlo];simp;omega
   have hl7:os1.length<=7:=by have:=HR.out.len;omega
   have HSK:Hid (tot=Tp.aY C (Tp.setO kj (kj.n.o++[aS (⟨o0,o1,⟨b0,b1,b2,b3,b4⟩,⟨xb,mb,kb,xv,mv,kv⟩⟩,x)])) ((al.map aS).drop (j+1))):=zH (by rw[HR.out.tot,HD.out];exact Tp.zZ HNO.out (by rw[hlk];exact h8))
   clear h8 hlo hlk
   go_wp2_with fail
   generalize wr.alloc (.cells (m13 o0 o1 b0 b1 b2 b3 b4 xb mb kb xv mv kv) 112)=w4 at HAL HKX d0 d1 x1 x6 x12 x13 x14 x15 x16 x17 hN2 hbo⊢
   go_region_held3 (fun W=>W.cell? (m07 wr)=some (.int .i64 o0)/\W.cell? (m47 X)=some (.int .i64 kj.slot)) (first|exact⟨d0,x17⟩) (fail)
   have HKD:=zH (HKX.out.keep ((Below.refl w4.heap.size w4).drew.drew))
   go_wp2_with fail
   go_region_held3 (fun W=>W.cell? (m14 wr)=some (.int .i64 o1)/\W.cell? (m59 X)=some (.slice aw nw cw)/\W.cell? ⟨X,13,none⟩=some (.int .u64 C.sd)/\W.cell? ⟨X,14,none⟩=some (.int .i64 C.ep)/\W.cell? ⟨X,15,none⟩=some (.int .i64 C.nu)/\W.cell? ⟨X,16,none⟩=some (.int .i64 C.de)/\W.cell? (m47 X)=some (.int .i64 kj.slot)) (first|exact⟨d1,x12,x13,x14,x15,x16,x17⟩|exact hx5)
    (first
     |(go_at_call 49;refine(gA aw nw cw C.W C.sd C.ep C.nu C.de kj.slot _ HKD.out.conf.len HKD.out.conf.max HKD.out.conf.seed HKD.out.conf.ints).mono ?_;rintro e w5 ⟨rfl,hb5⟩;rw[show Tp.aCm C.W C.sd C.ep C.nu C.de kj.slot=pr from HPR.out];have hb5b:=bS ((Below.refl w4.heap.size w4).drew.drew) hb5;have bx5:=cG hb5b HKX.out.lt HKX.out.box;have bo5:=cG hb5b hN2 hbo;have hx5:=(⟨cA bo5 1,cA bx5 12,cA bx5 13,cA bx5 14,cA bx5 15,cA bx5 16,cA bx5 17⟩:w5.cell? (m14 wr)=some (.int .i64 o1)/\w5.cell? (m59 X)=some (.slice aw nw cw)/\w5.cell? ⟨X,13,none⟩=some (.int .u64 C.sd)/\w5.cell? ⟨X,14,none⟩=some (.int .i64 C.ep)/\w5.cell? ⟨X,15,none⟩=some (.int .i64 C.nu)/\w5.cell? ⟨X,16,none⟩=some (.int .i64 C.de)/\w5.cell? (m47 X)=some (.int .i64 kj.slot))))
   have HB5:=zH (bS HAL.out.drew.drew hb5)
   have hxx:=HR.out.wk.keep HB5.out
   have y6:w5.cell? (m39 X)=some (.slice r1.oa r1.on r1.oc):=cA hxx.box 6
   clear hxx
   go_wp2_with fail
   obtain⟨i0,hi,hz0,hz1,hz2⟩:=info_parts lK
   refine cN [(5,fun W=>W.cell? (m39 X)=some (.slice r1.oa r1.on r1.oc)),(6,fun W=>W.cell? (m07 wr)=some (.int .i64 o0)/\W.cell? (m14 wr)=some (.int .i64 o1)/\W.cell? (m17 wr)=some (.int .i64 b0)/\W.cell? (m19 wr)=some (.int .i64 b1)/\W.cell? (m27 wr)=some (.int .u64 b2)/\W.cell? (m61 wr)=some (.int .u64 b3)/\W.cell? ⟨wr.heap.size,6,none⟩=some (.int .u64 b4)/\W.cell? (m51 wr)=some (.slice xb mb kb)/\W.cell? (m62 wr)=some (.slice xv mv kv))] (by kernel_rfl) ?_
   show aB _ _ _ _ _ _ _ _ w5.drew
   have hb6:=HB5.out.drew
   have hd6:=(Below.refl w5.heap.size w5).drew
   have bo6:=cG hd6 (Nat.lt_of_lt_of_le hN2 (Nat.le_trans hb5b.size nr)) bo5
   clear bo5 bx5 hx5 hb5 hb5b hd6
   generalize w5.drew=w6 at hb6 bo6⊢
   have HR6:=zH (HR.out.keep hb6 (i:=j) HR.out.tot)
   have HB6:=zH hb6
   have HV6:=zH (HP.out.2.1.keep hb6)
   have hq5:(fun W:World=>W.cell? (m39 X)=some (.slice r1.oa r1.on r1.oc)) w6:=cA HR6.out.wk.box 6
   have hq6:(fun W:World=>W.cell? (m07 wr)=some (.int .i64 o0)/\W.cell? (m14 wr)=some (.int .i64 o1)/\W.cell? (m17 wr)=some (.int .i64 b0)/\W.cell? (m19 wr)=some (.int .i64 b1)/\W.cell? (m27 wr)=some (.int .u64 b2)/\W.cell? (m61 wr)=some (.int .u64 b3)/\W.cell? ⟨wr.heap.size,6,none⟩=some (.int .u64 b4)/\W.cell? (m51 wr)=some (.slice xb mb kb)/\W.cell? (m62 wr)=some (.slice xv mv kv)) w6:=⟨cA bo6 0,cA bo6 1,cA bo6 2,cA bo6 3,cA bo6 4,cA bo6 5,cA bo6 6,cA bo6 7,cA bo6 8⟩
   have hs6:wr.heap.size<w6.heap.size:=(gS bo6)
   clear hb6 y6 d0 d1 x1 x6 x12 x13 x14 x15 x16 x17 hbo hN2
   refine wX 0 rfl ?_
   refine wX 1 rfl ?_
   refine wX 2 rfl ?_
   refine wX 3 rfl ?_
   refine wX 4 rfl ?_
   refine aZ 5 (v:=?_) (List.Mem.head _) rfl (by kernel_rfl) (by kernel_rfl) (by kernel_rfl) (fun _ _ _ h=>h) (Or.inl ⟨by rfl,?_⟩) ?_ ?_
   rotate_left
   ·(intro w' hSw;(try dsimp only at hSw);(try go_split_ands);go_simp;try with_reducible rfl)
   ·(try dsimp only);(try go_split_ands);first|assumption|(refine⟨?_,?_⟩<;>assumption)|(simp only[*];done)|(refine⟨?_,?_,?_,?_,?_⟩<;>assumption)|(refine⟨?_,?_,?_,?_,?_,?_,?_,?_,?_⟩<;>assumption)
   try simp only[Act.put,pA,pB,pC]
   refine aZ 6 (v:=?_) (List.Mem.tail _ (List.Mem.head _)) rfl (by kernel_rfl) (by kernel_rfl) (by kernel_rfl) (fun _ _ _ h=>h) (Or.inl ⟨by rfl,?_⟩) ?_ ?_
   rotate_left
   ·(intro w' hSw;(try dsimp only at hSw);(try go_split_ands);go_simp;try with_reducible rfl)
   ·(try dsimp only);(try go_split_ands);first|assumption|(refine⟨?_,?_⟩<;>assumption)|(simp only[*];done)|(refine⟨?_,?_,?_,?_,?_⟩<;>assumption)|(refine⟨?_,?_,?_,?_,?_,?_,?_,?_,?_⟩<;>assumption)
   try simp only[Act.put,pA,pB,pC]
   refine cK 7 (by kernel_rfl) rfl (fun K hK=>?_)
   go_simp
   refine(qB ⟨o0,o1,⟨b0,b1,b2,b3,b4⟩,⟨xb,mb,kb,xv,mv,kv⟩⟩ x w6 HV6.out).mono ?_
   rintro e w7 ⟨⟨tb,mt,kt,tv,nt,lt⟩,rfl,ht7,htn7,hb7⟩
   have HT7:=zH (And.intro ht7 (htn7.lower HB6.out.size))
   have HB7:=zH (bS HB6.out hb7)
   have bo7:=cG hb7 hs6 bo6
   have HR7:=zH (HR.out.keep HB7.out (i:=j) HR.out.tot)
   have hq57:(fun W:World=>W.cell? (m39 X)=some (.slice r1.oa r1.on r1.oc)) w7:=cA HR7.out.wk.box 6
   have hq67:(fun W:World=>W.cell? (m07 wr)=some (.int .i64 o0)/\W.cell? (m14 wr)=some (.int .i64 o1)/\W.cell? (m17 wr)=some (.int .i64 b0)/\W.cell? (m19 wr)=some (.int .i64 b1)/\W.cell? (m27 wr)=some (.int .u64 b2)/\W.cell? (m61 wr)=some (.int .u64 b3)/\W.cell? ⟨wr.heap.size,6,none⟩=some (.int .u64 b4)/\W.cell? (m51 wr)=some (.slice xb mb kb)/\W.cell? (m62 wr)=some (.slice xv mv kv)) w7:=⟨cA bo7 0,cA bo7 1,cA bo7 2,cA bo7 3,cA bo7 4,cA bo7 5,cA bo7 6,cA bo7 7,cA bo7 8⟩
   simp only[RO.val,offC]
   clear ht7 htn7 hb7
   refine hK.out _ _ ?_ ?_
   ·exact⟨.inl hq57,.inl hq67,trivial⟩
   clear hK K;try simp only[Act.put,pA,pB,pC]
   refine cK 8 (by kernel_rfl) rfl (fun K hK=>?_)
   go_simp
   have hal8:Below w7.heap.size w7 (w7.alloc (.cells (m13 o0 o1 b0 b1 b2 b3 b4 tb mt kt tv nt lt) 112)):=(Below.refl _ _).alloc nr _
   have HB8:=zH (bS HB7.out hal8)
   have HT8:=zH (And.intro (HT7.out.1.keep hal8) HT7.out.2)
   have HR8:=zH (HR.out.keep HB8.out (i:=j) HR.out.tot)
   have bo8:=bK hal8 bo7
   have hq58:(fun W:World=>W.cell? (m39 X)=some (.slice r1.oa r1.on r1.oc)) (w7.alloc (.cells (m13 o0 o1 b0 b1 b2 b3 b4 tb mt kt tv nt lt) 112)):=cA HR8.out.wk.box 6
   have hq68:(fun W:World=>W.cell? (m07 wr)=some (.int .i64 o0)/\W.cell? (m14 wr)=some (.int .i64 o1)/\W.cell? (m17 wr)=some (.int .i64 b0)/\W.cell? (m19 wr)=some (.int .i64 b1)/\W.cell? (m27 wr)=some (.int .u64 b2)/\W.cell? (m61 wr)=some (.int .u64 b3)/\W.cell? ⟨wr.heap.size,6,none⟩=some (.int .u64 b4)/\W.cell? (m51 wr)=some (.slice xb mb kb)/\W.cell? (m62 wr)=some (.slice xv mv kv)) (w7.alloc (.cells (m13 o0 o1 b0 b1 b2 b3 b4 tb mt kt tv nt lt) 112)):=⟨cA bo8 0,cA bo8 1,cA bo8 2,cA bo8 3,cA bo8 4,cA bo8 5,cA bo8 6,cA bo8 7,cA bo8 8⟩
   clear hal8
   refine hK.out _ _ ?_ ?_
   ·exact⟨.inl hq58,.inl hq68,trivial⟩
   clear hK K;try simp only[Act.put,pA,pB,pC]
   refine cK 9 (by kernel_rfl) rfl (fun K hK=>?_)
   rw[if_pos (by rfl)]
   refine wp_append_lies _ (.tmp 30) (.tmp 33) 30 (by rfl) w3.heap.size 112 i0 (.agg (m24)) 9 104 Tryz.underlying30 hi hz0 hz1 hz2 rfl (by decide) _ (os1.map Prod.fst).length ((os1.map Prod.fst).flatMap offC) (by rfl) HR8.out.own (m07 w7) 1 1 (offC ⟨o0,o1,⟨b0,b1,b2,b3,b4⟩,⟨tb,mt,kt,tv,nt,lt⟩⟩) (by rfl) rfl (bE _ _ _ _ rfl) (lI _) (by decide) (by rw[List.length_map];unfold maxLen;omega) (by rw[List.length_map];omega) (Nat.le_trans HR.out.kp.size HB8.out.size) (w7.heap.size+1) (by simp) ?_
   intro g cap w9 hown9 hg9 hat9 hlt9
   have HP9:=zH (HR.out.push (Nat.lt_of_lt_of_le HX.out.1 HX.out.2) HB8.out HT8.out.1 HT8.out.2 HP.out.2.2 hown9 hg9 (hat9.imp id (fun e=>e.trans (by simp))) hl7 HSK.out)
   have p6:w9.cell? (m39 X)=some (.slice r1.oa r1.on r1.oc):=cA HP9.out.2 6
   have q6:=cH HP9.out.2 6
   have hne9:(fun W:World=>W.cell? (m07 wr)=some (.int .i64 o0)/\W.cell? (m14 wr)=some (.int .i64 o1)/\W.cell? (m17 wr)=some (.int .i64 b0)/\W.cell? (m19 wr)=some (.int .i64 b1)/\W.cell? (m27 wr)=some (.int .u64 b2)/\W.cell? (m61 wr)=some (.int .u64 b3)/\W.cell? ⟨wr.heap.size,6,none⟩=some (.int .u64 b4)/\W.cell? (m51 wr)=some (.slice xb mb kb)/\W.cell? (m62 wr)=some (.slice xv mv kv)) w9:=by
    obtain⟨G,kG,hG⟩:=dV hg9
    have hNG:wr.heap.size≠G:=by
     rcases hG with e|e
     ·have:=(HR.out.own.lt G e).2;omega
     ·have:=HB8.out.size;have:=(gS bo8);omega
    have bo9:=(kG.block _ (gS bo8) hNG).trans bo8
    exact⟨cA bo9 0,cA bo9 1,cA bo9 2,cA bo9 3,cA bo9 4,cA bo9 5,cA bo9 6,cA bo9 7,cA bo9 8⟩
   clear hown9 hg9 hat9 hlt9
   refine hK.out _ _ ?_ ?_
   ·exact⟨.inr (by kernel_rfl),.inl hne9,trivial⟩
   clear hK K;try simp only[Act.put,pA,pB,pC]
   refine wX 10 rfl ?_
   refine wX 11 rfl ?_
   refine wX 12 rfl ?_
   refine cK 13 (by kernel_rfl) rfl (fun K hK=>?_)
   go_simp
   refine hK.out _ _ ?_ ?_
   ·exact⟨.inr (by kernel_rfl),.inr (by kernel_rfl),trivial⟩
   clear hK K;try simp only[Act.put,pA,pB,pC]
   refine cO (by kernel_rfl) ?_ _
   go_wp2_with fail
   have hp9:=HP9.out.1
   simp only[List.length_map]at hp9
   exact⟨⟨j+1,_,_,ta1,tn1,tc1,ts1,_,by omega,by go_num,hp9⟩,by simp[intOf];omega⟩
end
section
theorem Tp.aJz (b:Tp.B):Mx.InU (Tp.name b):=Mx.take_in _ _
theorem Tp.tQ (W:List Int)(ep nu de:Int)(l:List Tp.B)(vs:List Tp.V):∀(f:Nat) (id:Int×Int),Mx.InU id->Mx.InU (Tp.iX W ep nu de l vs f id)
 |0,id,h=>h
 |f+1,id,h=>by
  unfold Tp.iX
  by_cases hb:0<=(Tp.best W ep nu de l vs id).n
  ·rw[if_pos hb]
   obtain⟨m,i,-,-,hk,-⟩:=Tp.xQ (Tp.yK hb)
   exact Tp.tQ W ep nu de l vs f _ (hk▸Tp.aJz _)
  ·rw[if_neg hb]
   exact h
theorem Tp.xV (C:Tp.Cf)(x:Tp.Vw)(s:Int):Mx.InU (Tp.aL C x s):=Tp.tQ _ _ _ _ _ _ _ _ (by unfold Mx.InU;omega)
theorem Tp.aDk (C:Tp.Cf)(k:Tp.Nw):(Tp.lJ C k).U:=⟨(Tp.xV C k.n.v (k.slot-1)).1,(Tp.xV C k.n.v (k.slot-1)).2,(Int.le_refl 0:(0:Int)<=(0:Int)),(by show(0:Int)<=18446744073709551615;omega)⟩
variable [Forb]
structure FtR (w1:World) (al:Option Nat) (W:World):Prop where
 bel:Below w1.heap.size w1 W
 aa:∀g,al=some g->W.heap[g]?=some (.cells (m53) 56 (0,0))/\w1.heap.size<=g
section
variable {w1 W W':World}{al:Option Nat}
theorem FtR.start :FtR w1 none w1.drew:=⟨(Below.refl _ _).drew,fun _ h=>(by cases h)⟩
theorem FtR.keep (h:FtR w1 al W)(hb:Below W.heap.size W W'):FtR w1 al W':=
 ⟨bS h.bel hb,fun g he=>⟨cG hb (gS (h.aa g he).1) (h.aa g he).1,(h.aa g he).2⟩⟩
theorem FtR.m (h:FtR w1 none W):FtR w1 (some W.heap.size) (W.alloc (.cells (m53) 56)):=by
 have h2:=h.keep (W':=W.alloc (.cells (m53) 56)) ((Below.refl _ _).alloc nr _)
 refine⟨h2.bel,fun g he=>?_⟩
 cases he
 exact⟨heap_alloc_new W _,h.bel.size⟩
theorem FtR.c1 {X:Nat}{aw:Option Addr}{nw cw:Nat}{C:Tp.Cf}{k:Tp.Nw}(hN:NWe w1 X aw nw cw C k)(h:FtR w1 al W)(slot:Int):Calls Tryz.prog 97 #[.pointer (some (m00 X)),.int .i64 slot] W fun e W'=>e=.returned (.agg #[.int .u64 (Tp.aL C k.n.v slot).1,.int .u64 (Tp.aL C k.n.v slot).2])/\FtR w1 al W':=by
 obtain⟨r,os,ta,tn,tc,ts,hN⟩:=hN
 refine(mS X aw nw cw C k slot W ⟨r,os,ta,tn,tc,ts,hN.keep h.bel⟩).mono ?_
 rintro e W' ⟨rfl,hb⟩
 exact⟨rfl,h.keep hb⟩
end
abbrev aDz :Array Oper:=#[⟨some 29,.move (.tmp 0),114,"node.go:95",#[],none⟩,
 ⟨some 30,.nilCheck (.tmp 29),0,"node.go:95",#[⟨0,.data⟩],none⟩,
 ⟨some 31,.fieldAddr 116 (.tmp 30) 2,0,"node.go:95",#[⟨1,.data⟩],none⟩,
 ⟨some 32,.load 3 (.tmp 31),3,"node.go:95",#[⟨2,.data⟩],none⟩,
 ⟨some 33,.move (.tmp 0),114,"node.go:95",#[],none⟩,
 ⟨some 34,.nilCheck (.tmp 33),0,"node.go:95",#[⟨4,.data⟩],none⟩,
 ⟨some 35,.fieldAddr 116 (.tmp 34) 0,0,"node.go:95",#[⟨5,.data⟩],none⟩,
 ⟨some 36,.fieldAddr 44 (.tmp 35) 0,0,"node.go:95",#[⟨6,.data⟩],none⟩,
 ⟨some 37,.load 3 (.tmp 36),3,"node.go:95",#[⟨7,.data⟩],none⟩,
 ⟨some 38,.move (.tmp 0),114,"node.go:95",#[],none⟩,
 ⟨some 39,.move (.tmp 0),114,"node.go:95",#[],none⟩,
 ⟨some 40,.nilCheck (.tmp 39),0,"node.go:95",#[⟨10,.data⟩],none⟩,
 ⟨some 41,.fieldAddr 116 (.tmp 40) 2,0,"node.go:95",#[⟨11,.data⟩],none⟩,
 ⟨some 42,.load 3 (.tmp 41),3,"node.go:95",#[⟨12,.data⟩],none⟩,
 ⟨some 43,.binOp .sub 3 (.tmp 42) (.const (.int .i64 1)) 3,3,"node.go:95",#[⟨13,.data⟩],none⟩,
 ⟨some 44,.call ⟨.value (.func 97),#[.tmp 38,.tmp 43],#[114,3]⟩,40,"node.go:95",#[⟨9,.data⟩,⟨14,.data⟩],none⟩,
 ⟨some 45,.build 56 #[(0,.tmp 32),(1,.tmp 37),(2,.tmp 44)],56,"node.go:95",#[⟨3,.data⟩,⟨8,.data⟩,⟨15,.data⟩],none⟩,
 ⟨some 2,.alloc 56,0,"node.go:95",#[],none⟩,
 ⟨none,.store 56 (.tmp 2) (.tmp 45),0,"node.go:95",#[⟨17,.data⟩,⟨16,.data⟩,⟨15,.chain⟩,⟨0,.phase⟩,⟨1,.phase⟩,⟨2,.phase⟩,⟨3,.phase⟩,⟨4,.phase⟩,⟨5,.phase⟩,⟨6,.phase⟩,⟨7,.phase⟩,⟨8,.phase⟩,⟨9,.phase⟩,⟨10,.phase⟩,⟨11,.phase⟩,⟨12,.phase⟩,⟨13,.phase⟩,⟨14,.phase⟩,⟨15,.phase⟩,⟨16,.phase⟩,⟨17,.phase⟩],none⟩]
abbrev ftSL (X:Nat) (aw:Option Addr) (nw cw:Nat) (C:Tp.Cf) (k:Tp.Nw) (u3 u4 u5 u6 u7 u8 u9 u10 u11 u12 u13 u14 u15 u16 u17 u18 u19 u20 u21 u22 u23 u24 u25 u26 u27 u28:Value) (w1:World) (HN:Hid (NWe w1 X aw nw cw C k)) (hsl:0<=k.slot/\k.slot<=1000000) (hc:∀W:World,Below w1.heap.size w1 W->W.cell? (m47 X)=some (.int .i64 k.slot)/\W.cell? (m00 X)=some (.int .i64 k.n.no)):List (Nat×(World->Prop)):=[(3,fun W=>W.cell? (m47 X)=some (.int .i64 k.slot)),(8,fun W=>W.cell? (m00 X)=some (.int .i64 k.n.no)),(13,fun W=>W.cell? (m47 X)=some (.int .i64 k.slot))]
section
variable (Q:Exit->Act->World->Prop)(hQp:∀(c:_) (a:Act) (d:Option Tmp) (v:Value) (w:World),Q (.panic c) (a.put d v) w->Q (.panic c) a w)(X:Nat)(aw:Option Addr)(nw cw:Nat)(C:Tp.Cf)(k:Tp.Nw)(u3 u4 u5 u6 u7 u8 u9 u10 u11 u12 u13 u14 u15 u16 u17 u18 u19 u20 u21 u22 u23 u24 u25 u26 u27 u28:Value)(w1:World)(HN:Hid (NWe w1 X aw nw cw C k))(hsl:0<=k.slot/\k.slot<=1000000)(hc:∀W:World,Below w1.heap.size w1 W->W.cell? (m47 X)=some (.int .i64 k.slot)/\W.cell? (m00 X)=some (.int .i64 k.n.no))(hQ:∀g W,FtR w1 (some g) W->Q .normal { tmps:=#[.pointer (some (m00 X)),undef,.pointer (some (m00 g)),u3,u4,u5,u6,u7,u8,u9,u10,u11,u12,u13,u14,u15,u16,u17,u18,u19,u20,u21,u22,u23,u24,u25,u26,u27,u28,.pointer (some (m00 X)),.pointer (some (m00 X)),.pointer (some (m47 X)),.int .i64 k.slot,.pointer (some (m00 X)),.pointer (some (m00 X)),.pointer (some (m00 X)),.pointer (some (m00 X)),.int .i64 k.n.no,.pointer (some (m00 X)),.pointer (some (m00 X)),.pointer (some (m00 X)),.pointer (some (m47 X)),.int .i64 k.slot,.int .i64 (k.slot-1),.agg #[.int .u64 (Tp.aL C k.n.v (k.slot-1)).1,.int .u64 (Tp.aL C k.n.v (k.slot-1)).2],.agg #[.int .i64 k.slot,.int .i64 k.n.no,.int .u64 (Tp.aL C k.n.v (k.slot-1)).1,.int .u64 (Tp.aL C k.n.v (k.slot-1)).2,.int .u64 0],undef,undef,undef,undef,undef,undef,undef,undef,undef,undef,undef,undef,undef,undef,undef,undef,undef,undef,undef,undef,undef,undef,undef,undef,undef],defers:=[] } (((((W.setCell (m00 g) (m30 k.slot)).setCell (m15 g) (m30 k.n.no)).setCell (m25 g) (.int .u64 (Tp.aL C k.n.v (k.slot-1)).1)).setCell (m33 g) (.int .u64 (Tp.aL C k.n.v (k.slot-1)).2)).setCell (m35 g) (.int .u64 0)))
include Q hQp X aw nw cw C k u3 u4 u5 u6 u7 u8 u9 u10 u11 u12 u13 u14 u15 u16 u17 u18 u19 u20 u21 u22 u23 u24 u25 u26 u27 u28 w1 HN hsl hc hQ
theorem tS (g:Nat)(W:World)(hR:FtR w1 (some g) W):
  aB Tryz.prog .any aDz Q (ftSL X aw nw cw C k u3 u4 u5 u6 u7 u8 u9 u10 u11 u12 u13 u14 u15 u16 u17 u18 u19 u20 u21 u22 u23 u24 u25 u26 u27 u28 w1 HN hsl hc) 1 #[true,true,true,true,true,true,true,true,true,true,true,true,true,true,true,true,true,true,false] { tmps:=#[.pointer (some (m00 X)),undef,.pointer (some (m00 g)),u3,u4,u5,u6,u7,u8,u9,u10,u11,u12,u13,u14,u15,u16,u17,u18,u19,u20,u21,u22,u23,u24,u25,u26,u27,u28,.pointer (some (m00 X)),.pointer (some (m00 X)),.pointer (some (m47 X)),.int .i64 k.slot,.pointer (some (m00 X)),.pointer (some (m00 X)),.pointer (some (m00 X)),.pointer (some (m00 X)),.int .i64 k.n.no,.pointer (some (m00 X)),.pointer (some (m00 X)),.pointer (some (m00 X)),.pointer (some (m47 X)),.int .i64 k.slot,.int .i64 (k.slot-1),.agg #[.int .u64 (Tp.aL C k.n.v (k.slot-1)).1,.int .u64 (Tp.aL C k.n.v (k.slot-1)).2],.agg #[.int .i64 k.slot,.int .i64 k.n.no,.int .u64 (Tp.aL C k.n.v (k.slot-1)).1,.int .u64 (Tp.aL C k.n.v (k.slot-1)).2,.int .u64 0],undef,undef,undef,undef,undef,undef,undef,undef,undef,undef,undef,undef,undef,undef,undef,undef,undef,undef,undef,undef,undef,undef,undef,undef,undef],defers:=[] } W:=by
 refine cK 18 (by kernel_rfl) rfl (fun K hK=>?_)
 have c0:W.cell? (m00 g)=some (.int .i64 0):=cA (hR.aa _ rfl).1 0
 have c1:W.cell? (m15 g)=some (.int .i64 0):=cA (hR.aa _ rfl).1 1
 have c2:W.cell? (m25 g)=some (.int .u64 0):=cA (hR.aa _ rfl).1 2
 have c3:W.cell? (m33 g)=some (.int .u64 0):=cA (hR.aa _ rfl).1 3
 have c4:W.cell? (m35 g)=some (.int .u64 0):=cA (hR.aa _ rfl).1 4
 have f0:=cH (hR.aa _ rfl).1 0
 have f1:=cH (hR.aa _ rfl).1 1
 have f2:=cH (hR.aa _ rfl).1 2
 have f3:=cH (hR.aa _ rfl).1 3
 have f4:=cH (hR.aa _ rfl).1 4
 go_simp
 refine hK.out _ _ ?_ ?_
 ·exact⟨.inl (hc _ ((((((hR.bel).setCell (p:=(m00 g)) (hR.aa _ rfl).2 _).setCell (p:=(m15 g)) (hR.aa _ rfl).2 _).setCell (p:=(m25 g)) (hR.aa _ rfl).2 _).setCell (p:=(m33 g)) (hR.aa _ rfl).2 _).setCell (p:=(m35 g)) (hR.aa _ rfl).2 _)).1,.inl (hc _ ((((((hR.bel).setCell (p:=(m00 g)) (hR.aa _ rfl).2 _).setCell (p:=(m15 g)) (hR.aa _ rfl).2 _).setCell (p:=(m25 g)) (hR.aa _ rfl).2 _).setCell (p:=(m33 g)) (hR.aa _ rfl).2 _).setCell (p:=(m35 g)) (hR.aa _ rfl).2 _)).2,.inl (hc _ ((((((hR.bel).setCell (p:=(m00 g)) (hR.aa _ rfl).2 _).setCell (p:=(m15 g)) (hR.aa _ rfl).2 _).setCell (p:=(m25 g)) (hR.aa _ rfl).2 _).setCell (p:=(m33 g)) (hR.aa _ rfl).2 _).setCell (p:=(m35 g)) (hR.aa _ rfl).2 _)).1,trivial⟩
 clear hK K
 try simp only[Act.put,pA,pB,pC]
 refine cO (by kernel_rfl) ?_ _
 exact hQ g W hR
theorem aMi (W:World)(hR:FtR w1 none W):
  aB Tryz.prog .any aDz Q (ftSL X aw nw cw C k u3 u4 u5 u6 u7 u8 u9 u10 u11 u12 u13 u14 u15 u16 u17 u18 u19 u20 u21 u22 u23 u24 u25 u26 u27 u28 w1 HN hsl hc) 2 #[true,true,true,true,true,true,true,true,true,true,true,true,true,true,true,true,true,false,false] { tmps:=#[.pointer (some (m00 X)),undef,undef,u3,u4,u5,u6,u7,u8,u9,u10,u11,u12,u13,u14,u15,u16,u17,u18,u19,u20,u21,u22,u23,u24,u25,u26,u27,u28,.pointer (some (m00 X)),.pointer (some (m00 X)),.pointer (some (m47 X)),.int .i64 k.slot,.pointer (some (m00 X)),.pointer (some (m00 X)),.pointer (some (m00 X)),.pointer (some (m00 X)),.int .i64 k.n.no,.pointer (some (m00 X)),.pointer (some (m00 X)),.pointer (some (m00 X)),.pointer (some (m47 X)),.int .i64 k.slot,.int .i64 (k.slot-1),.agg #[.int .u64 (Tp.aL C k.n.v (k.slot-1)).1,.int .u64 (Tp.aL C k.n.v (k.slot-1)).2],.agg #[.int .i64 k.slot,.int .i64 k.n.no,.int .u64 (Tp.aL C k.n.v (k.slot-1)).1,.int .u64 (Tp.aL C k.n.v (k.slot-1)).2,.int .u64 0],undef,undef,undef,undef,undef,undef,undef,undef,undef,undef,undef,undef,undef,undef,undef,undef,undef,undef,undef,undef,undef,undef,undef,undef,undef],defers:=[] } W:=by
 have hmk:=@run_makeMap Tryz.prog
 refine cJ [17] (by kernel_rfl) (by simp) ?_
 refine cD 17 rfl (fun K hK=>?_) ?_
 ·go_simp
  have hR2:=hR.m
  replace hR:=hR2
  clear hR2
  refine hK.out _ _ ?_ ?_
  ·exact⟨.inl (hc _ (hR.bel)).1,.inl (hc _ (hR.bel)).2,.inl (hc _ (hR.bel)).1,trivial⟩
  clear hK K hmk
  try simp only[Act.put,pA,pB,pC]
  exact tS Q hQp X aw nw cw C k u3 u4 u5 u6 u7 u8 u9 u10 u11 u12 u13 u14 u15 u16 u17 u18 u19 u20 u21 u22 u23 u24 u25 u26 u27 u28 w1 HN hsl hc hQ _ _ hR
 exact cE
theorem aMh (g:Nat)(W:World)(hR:FtR w1 (some g) W):
  aB Tryz.prog .any aDz Q (ftSL X aw nw cw C k u3 u4 u5 u6 u7 u8 u9 u10 u11 u12 u13 u14 u15 u16 u17 u18 u19 u20 u21 u22 u23 u24 u25 u26 u27 u28 w1 HN hsl hc) 3 #[true,true,true,true,true,true,true,true,true,true,true,true,true,true,true,false,false,true,false] { tmps:=#[.pointer (some (m00 X)),undef,.pointer (some (m00 g)),u3,u4,u5,u6,u7,u8,u9,u10,u11,u12,u13,u14,u15,u16,u17,u18,u19,u20,u21,u22,u23,u24,u25,u26,u27,u28,.pointer (some (m00 X)),.pointer (some (m00 X)),.pointer (some (m47 X)),.int .i64 k.slot,.pointer (some (m00 X)),.pointer (some (m00 X)),.pointer (some (m00 X)),.pointer (some (m00 X)),.int .i64 k.n.no,.pointer (some (m00 X)),.pointer (some (m00 X)),.pointer (some (m00 X)),.pointer (some (m47 X)),.int .i64 k.slot,.int .i64 (k.slot-1),undef,undef,undef,undef,undef,undef,undef,undef,undef,undef,undef,undef,undef,undef,undef,undef,undef,undef,undef,undef,undef,undef,undef,undef,undef,undef,undef],defers:=[] } W:=by
 have hmk:=@run_makeMap Tryz.prog
 refine cJ [15] (by kernel_rfl) (by simp) ?_
 refine cD 15 rfl (fun K hK=>?_) ?_
 ·go_simp
  refine(FtR.c1 HN.out hR (k.slot-1)).mono ?_;rintro e W2 ⟨rfl,hR2⟩
  replace hR:=hR2
  clear hR2
  refine hK.out _ _ ?_ ?_
  ·exact⟨.inl (hc _ (hR.bel)).1,.inl (hc _ (hR.bel)).2,.inl (hc _ (hR.bel)).1,trivial⟩
  clear hK K hmk
  try simp only[Act.put,pA,pB,pC]
  refine wX 16 (oi:=⟨some 45,.build 56 #[(0,.tmp 32),(1,.tmp 37),(2,.tmp 44)],56,"node.go:95",#[⟨3,.data⟩,⟨8,.data⟩,⟨15,.data⟩],none⟩) rfl ?_ (hQ:=fun _ _ _=>hQp _ _ _ _ _)
  exact tS Q hQp X aw nw cw C k u3 u4 u5 u6 u7 u8 u9 u10 u11 u12 u13 u14 u15 u16 u17 u18 u19 u20 u21 u22 u23 u24 u25 u26 u27 u28 w1 HN hsl hc hQ g _ hR
 exact cE
theorem ft_ (W:World)(hR:FtR w1 none W):
  aB Tryz.prog .any aDz Q (ftSL X aw nw cw C k u3 u4 u5 u6 u7 u8 u9 u10 u11 u12 u13 u14 u15 u16 u17 u18 u19 u20 u21 u22 u23 u24 u25 u26 u27 u28 w1 HN hsl hc) 4 #[true,true,true,true,true,true,true,true,true,true,true,true,true,true,true,false,false,false,false] { tmps:=#[.pointer (some (m00 X)),undef,undef,u3,u4,u5,u6,u7,u8,u9,u10,u11,u12,u13,u14,u15,u16,u17,u18,u19,u20,u21,u22,u23,u24,u25,u26,u27,u28,.pointer (some (m00 X)),.pointer (some (m00 X)),.pointer (some (m47 X)),.int .i64 k.slot,.pointer (some (m00 X)),.pointer (some (m00 X)),.pointer (some (m00 X)),.pointer (some (m00 X)),.int .i64 k.n.no,.pointer (some (m00 X)),.pointer (some (m00 X)),.pointer (some (m00 X)),.pointer (some (m47 X)),.int .i64 k.slot,.int .i64 (k.slot-1),undef,undef,undef,undef,undef,undef,undef,undef,undef,undef,undef,undef,undef,undef,undef,undef,undef,undef,undef,undef,undef,undef,undef,undef,undef,undef,undef],defers:=[] } W:=by
 have hmk:=@run_makeMap Tryz.prog
 refine cJ [15,17] (by kernel_rfl) (by simp) ?_
 refine cD 15 rfl (fun K hK=>?_) ?_
 ·go_simp
  refine(FtR.c1 HN.out hR (k.slot-1)).mono ?_;rintro e W2 ⟨rfl,hR2⟩
  replace hR:=hR2
  clear hR2
  refine hK.out _ _ ?_ ?_
  ·exact⟨.inl (hc _ (hR.bel)).1,.inl (hc _ (hR.bel)).2,.inl (hc _ (hR.bel)).1,trivial⟩
  clear hK K hmk
  try simp only[Act.put,pA,pB,pC]
  refine wX 16 (oi:=⟨some 45,.build 56 #[(0,.tmp 32),(1,.tmp 37),(2,.tmp 44)],56,"node.go:95",#[⟨3,.data⟩,⟨8,.data⟩,⟨15,.data⟩],none⟩) rfl ?_ (hQ:=fun _ _ _=>hQp _ _ _ _ _)
  exact aMi Q hQp X aw nw cw C k u3 u4 u5 u6 u7 u8 u9 u10 u11 u12 u13 u14 u15 u16 u17 u18 u19 u20 u21 u22 u23 u24 u25 u26 u27 u28 w1 HN hsl hc hQ _ hR
 refine cD 17 rfl (fun K hK=>?_) ?_
 ·go_simp
  have hR2:=hR.m
  replace hR:=hR2
  clear hR2
  refine hK.out _ _ ?_ ?_
  ·exact⟨.inl (hc _ (hR.bel)).1,.inl (hc _ (hR.bel)).2,.inl (hc _ (hR.bel)).1,trivial⟩
  clear hK K hmk
  try simp only[Act.put,pA,pB,pC]
  exact aMh Q hQp X aw nw cw C k u3 u4 u5 u6 u7 u8 u9 u10 u11 u12 u13 u14 u15 u16 u17 u18 u19 u20 u21 u22 u23 u24 u25 u26 u27 u28 w1 HN hsl hc hQ _ _ hR
 exact cE
theorem aDy (hR:FtR w1 none w1.drew):(Code.region 2 aDz true).wp Tryz.prog Q { tmps:=#[.pointer (some (m00 X)),undef,undef,u3,u4,u5,u6,u7,u8,u9,u10,u11,u12,u13,u14,u15,u16,u17,u18,u19,u20,u21,u22,u23,u24,u25,u26,u27,u28,undef,undef,undef,undef,undef,undef,undef,undef,undef,undef,undef,undef,undef,undef,undef,undef,undef,undef,undef,undef,undef,undef,undef,undef,undef,undef,undef,undef,undef,undef,undef,undef,undef,undef,undef,undef,undef,undef,undef,undef,undef,undef],defers:=[] } w1:=by
 refine cN (ftSL X aw nw cw C k u3 u4 u5 u6 u7 u8 u9 u10 u11 u12 u13 u14 u15 u16 u17 u18 u19 u20 u21 u22 u23 u24 u25 u26 u27 u28 w1 HN hsl hc) (by kernel_rfl) ?_
 generalize w1.drew=W at hR⊢
 have hwr:IntKind.i64.wrap (k.slot-1)=k.slot-1:=by rw[IntKind.wrap_i64];omega
 obtain⟨hsl1,hsl2⟩:=hsl
 show aB _ _ _ _ _ 19 #[false,false,false,false,false,false,false,false,false,false,false,false,false,false,false,false,false,false,false] _ _
 refine wX 0 (oi:=⟨some 29,.move (.tmp 0),114,"node.go:95",#[],none⟩) rfl ?_ (hQ:=fun _ _ _=>hQp _ _ _ _ _)
 refine wX 1 (oi:=⟨some 30,.nilCheck (.tmp 29),0,"node.go:95",#[⟨0,.data⟩],none⟩) rfl ?_ (hQ:=fun _ _ _=>hQp _ _ _ _ _)
 refine wX 2 (oi:=⟨some 31,.fieldAddr 116 (.tmp 30) 2,0,"node.go:95",#[⟨1,.data⟩],none⟩) rfl ?_ (hQ:=fun _ _ _=>hQp _ _ _ _ _)
 refine wY 0 3 (oi:=⟨some 32,.load 3 (.tmp 31),3,"node.go:95",#[⟨2,.data⟩],none⟩) rfl rfl ((hc _ hR.bel).1) ?_ (hQ:=fun _ _ _=>hQp _ _ _ _ _)
 refine wX 4 (oi:=⟨some 33,.move (.tmp 0),114,"node.go:95",#[],none⟩) rfl ?_ (hQ:=fun _ _ _=>hQp _ _ _ _ _)
 refine wX 5 (oi:=⟨some 34,.nilCheck (.tmp 33),0,"node.go:95",#[⟨4,.data⟩],none⟩) rfl ?_ (hQ:=fun _ _ _=>hQp _ _ _ _ _)
 refine wX 6 (oi:=⟨some 35,.fieldAddr 116 (.tmp 34) 0,0,"node.go:95",#[⟨5,.data⟩],none⟩) rfl ?_ (hQ:=fun _ _ _=>hQp _ _ _ _ _)
 refine wX 7 (oi:=⟨some 36,.fieldAddr 44 (.tmp 35) 0,0,"node.go:95",#[⟨6,.data⟩],none⟩) rfl ?_ (hQ:=fun _ _ _=>hQp _ _ _ _ _)
 refine wY 1 8 (oi:=⟨some 37,.load 3 (.tmp 36),3,"node.go:95",#[⟨7,.data⟩],none⟩) rfl rfl ((hc _ hR.bel).2) ?_ (hQ:=fun _ _ _=>hQp _ _ _ _ _)
 refine wX 9 (oi:=⟨some 38,.move (.tmp 0),114,"node.go:95",#[],none⟩) rfl ?_ (hQ:=fun _ _ _=>hQp _ _ _ _ _)
 refine wX 10 (oi:=⟨some 39,.move (.tmp 0),114,"node.go:95",#[],none⟩) rfl ?_ (hQ:=fun _ _ _=>hQp _ _ _ _ _)
 refine wX 11 (oi:=⟨some 40,.nilCheck (.tmp 39),0,"node.go:95",#[⟨10,.data⟩],none⟩) rfl ?_ (hQ:=fun _ _ _=>hQp _ _ _ _ _)
 refine wX 12 (oi:=⟨some 41,.fieldAddr 116 (.tmp 40) 2,0,"node.go:95",#[⟨11,.data⟩],none⟩) rfl ?_ (hQ:=fun _ _ _=>hQp _ _ _ _ _)
 refine wY 2 13 (oi:=⟨some 42,.load 3 (.tmp 41),3,"node.go:95",#[⟨12,.data⟩],none⟩) rfl rfl ((hc _ hR.bel).1) ?_ (hQ:=fun _ _ _=>hQp _ _ _ _ _)
 refine wX 14 (oi:=⟨some 43,.binOp .sub 3 (.tmp 42) (.const (.int .i64 1)) 3,3,"node.go:95",#[⟨13,.data⟩],none⟩) rfl ?_ (hQ:=fun _ _ _=>hQp _ _ _ _ _)
 exact ft_ Q hQp X aw nw cw C k u3 u4 u5 u6 u7 u8 u9 u10 u11 u12 u13 u14 u15 u16 u17 u18 u19 u20 u21 u22 u23 u24 u25 u26 u27 u28 w1 HN ⟨hsl1,hsl2⟩ hc hQ _ hR
end
end
end Go.Proofs.YtbbhinehcncmeaaGreat
