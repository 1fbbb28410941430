/- A part of the proof of the laws of the top: TpNetA, TpOwn. No condition. -/
import Derived.Test.YtbbhinehcncmeaaGreatG28
namespace Go.Proofs.YtbbhinehcncmeaaGreat
open Go.RowKit
set_option linter.unusedSimpArgs false
set_option linter.unusedVariables false
set_option linter.unusedSectionVars false
set_option maxRecDepth 100000
set_option maxHeartbeats 2000000
theorem zQ {w:World}{X:Nat}{r:RN}{t:TypeId}(h:w.heap[X]?=some (.cells (aT r).toArray t (0,0))):w.cell? (m00 X)=some (.int .i64 r.no)/\w.cell? (m15 X)=some (.int .i64 r.tick)/\w.cell? (m25 X)=some (.slice r.v.ab r.v.nb r.v.cb)/\w.cell? (m33 X)=some (.slice r.v.av r.v.nv r.v.cv)/\w.cell? (m35 X)=some (.slice r.inn.ab r.inn.nb r.inn.cb)/\w.cell? (m65 X)=some (.slice r.inn.av r.inn.nv r.inn.cv)/\w.cell? (m39 X)=some (.slice r.oa r.on r.oc)/\w.cell? (m36 X)=some (.int .u64 r.p)/\w.cell? (m60 X)=some (.int .u64 r.q)/\w.cell? ⟨X,9,none⟩=some (.int .i64 r.sl)/\w.cell? ⟨X,10,none⟩=some (.int .i64 r.rev)/\w.cell? ⟨X,11,none⟩=some (.bool r.full):=
 ⟨cA h 0,cA h 1,cA h 2,cA h 3,cA h 4,cA h 5,cA h 6,cA h 7,cA h 8,cA h 9,cA h 10,cA h 11⟩
theorem yR {w:World}{G:Nat}{r t:RV}{x:Tp.Vw}(hG:w.heap[G]?=some (.cells (m01 r) 38 (0,0)))(ht:VwR w t x)(ho:t.Off G):
  cT G (.cells (m01 t) 38 (0,0)) w ((w.setCell (m00 G) (m41 t)).setCell (m15 G) (m42 t))/\VwR ((w.setCell (m00 G) (m41 t)).setCell (m15 G) (m42 t)) t x:=by
 have T:=set2 w G _ _ (m41 t) (m42 t) _ hG
 exact⟨T,ht.keepS (cL T rfl) ho⟩
theorem aHr (G:Nat)(r:RN)(rx:RV)(x y z:Tp.Vw)(w:World)(hG:w.heap[G]?=some (.cells (m01 rx) 38 (0,0)))(hx:VwR w rx x)(hxo:rx.Off G)(hy:VwR w r.v y)(hz:VwR w r.inn z)(h1:(Tp.join y z).b.length<=1000000/\(Tp.join y z).v.length<=1000000)(h2:(Tp.join x (Tp.join y z)).b.length<=1000000/\(Tp.join x (Tp.join y z)).v.length<=1000000):
  Calls Tryz.prog 84 #[.agg (aT r).toArray,.pointer (some (m00 G))] w fun e w'=>e=.returned (.tuple #[])/\∃t:RV,w'.heap[G]?=some (.cells (m01 t) 38 (0,0))/\VwR w' t (Tp.join x (Tp.join y z))/\t.New w.heap.size/\aC (· =G) w w':=by
 have hGs:=(gS hG)
 obtain⟨w1,ew1_⟩:∃z,Hid (z=w.alloc (.cells (m03 r.no r.tick r.v r.inn r.oa r.on r.oc r.p r.q r.sl r.rev r.full) 44)):=⟨_,zH rfl⟩
 have hal:Below w.heap.size w w1:=by cases ew1_.out;exact(Below.refl _ _).alloc nr _
 have hbo:w1.heap[w.heap.size]?=some (.cells (m03 r.no r.tick r.v r.inn r.oa r.on r.oc r.p r.q r.sl r.rev r.full) 44 (0,0)):=by cases ew1_.out;exact heap_alloc_new w _
 simp only[aT]
 go_enter Tryz.func84,Tryz.ntmps84
 go_wp2_with fail
 rw[<-ew1_.out]
 refine cN [(0,fun W=>W.cell? (m00 G)=some (.slice rx.ab rx.nb rx.cb)/\W.cell? (m15 G)=some (.slice rx.av rx.nv rx.cv)),(1,fun W=>W.cell? (m07 w)=some (.int .i64 r.no)/\W.cell? (m14 w)=some (.int .i64 r.tick)/\W.cell? (m17 w)=some (.slice r.v.ab r.v.nb r.v.cb)/\W.cell? (m19 w)=some (.slice r.v.av r.v.nv r.v.cv)/\W.cell? (m27 w)=some (.slice r.inn.ab r.inn.nb r.inn.cb)/\W.cell? (m61 w)=some (.slice r.inn.av r.inn.nv r.inn.cv)/\W.cell? ⟨w.heap.size,6,none⟩=some (.slice r.oa r.on r.oc)/\W.cell? (m51 w)=some (.int .u64 r.p)/\W.cell? (m62 w)=some (.int .u64 r.q)/\W.cell? ⟨w.heap.size,9,none⟩=some (.int .i64 r.sl)/\W.cell? ⟨w.heap.size,10,none⟩=some (.int .i64 r.rev)/\W.cell? ⟨w.heap.size,11,none⟩=some (.bool r.full))] (by kernel_rfl) ?_
 show aB _ _ _ _ _ _ _ _ w1.drew
 have hb2:=hal.drew
 have hbo2:=cG (Below.refl w1.heap.size w1).drew (gS hbo) hbo
 generalize w1.drew=w2 at hb2 hbo2⊢
 clear hal hbo
 have HQ:Hid (∀W:World,W.heap[G]?=some (.cells (m01 rx) 38 (0,0))->W.heap[w.heap.size]?=some (.cells (m03 r.no r.tick r.v r.inn r.oa r.on r.oc r.p r.q r.sl r.rev r.full) 44 (0,0))->(W.cell? (m00 G)=some (.slice rx.ab rx.nb rx.cb)/\W.cell? (m15 G)=some (.slice rx.av rx.nv rx.cv))/\(W.cell? (m07 w)=some (.int .i64 r.no)/\W.cell? (m14 w)=some (.int .i64 r.tick)/\W.cell? (m17 w)=some (.slice r.v.ab r.v.nb r.v.cb)/\W.cell? (m19 w)=some (.slice r.v.av r.v.nv r.v.cv)/\W.cell? (m27 w)=some (.slice r.inn.ab r.inn.nb r.inn.cb)/\W.cell? (m61 w)=some (.slice r.inn.av r.inn.nv r.inn.cv)/\W.cell? ⟨w.heap.size,6,none⟩=some (.slice r.oa r.on r.oc)/\W.cell? (m51 w)=some (.int .u64 r.p)/\W.cell? (m62 w)=some (.int .u64 r.q)/\W.cell? ⟨w.heap.size,9,none⟩=some (.int .i64 r.sl)/\W.cell? ⟨w.heap.size,10,none⟩=some (.int .i64 r.rev)/\W.cell? ⟨w.heap.size,11,none⟩=some (.bool r.full))):=zH (fun W e1 e2=>⟨⟨cA e1 0,cA e1 1⟩,cA e2 0,cA e2 1,cA e2 2,cA e2 3,cA e2 4,cA e2 5,cA e2 6,cA e2 7,cA e2 8,cA e2 9,cA e2 10,cA e2 11⟩)
 have hG2:=cG hb2 hGs hG
 have hq:=HQ.out w2 hG2 hbo2
 have HB2:=zH hb2
 have HX:=zH (And.intro hx (And.intro hy (And.intro hz (And.intro h1 (And.intro h2 hxo)))))
 clear hb2 hx hy hz h1 h2 hxo hG
 refine wY 0 0 rfl rfl (hq.1) ?_
 refine wY 1 1 rfl rfl (hq.2) ?_
 refine cK 2 (by kernel_rfl) rfl (fun K hK=>?_)
 go_simp
 refine(aDp r y z w2 (HX.out.2.1.keep HB2.out) (HX.out.2.2.1.keep HB2.out) HX.out.2.2.2.1.1 HX.out.2.2.2.1.2).mono ?_
 rintro e w3 ⟨t3,rfl,ht3,htn3,hb3⟩
 have HB3:=zH (bS HB2.out hb3)
 have hG3:=bK hb3 hG2
 have hbo3:=bK hb3 hbo2
 have hq3:=HQ.out w3 hG3 hbo3
 have HT3:=zH ht3
 clear ht3 htn3 hb3
 refine hK.out _ _ ?_ ?_
 ·exact(hl2 hq3)
 clear hK K;try simp only[Act.put,pA,pB,pC]
 refine cK 3 (by kernel_rfl) rfl (fun K hK=>?_)
 go_simp
 refine(dY rx t3 x (Tp.join y z) w3 (HX.out.1.keep HB3.out) HT3.out HX.out.2.2.2.2.1.1 HX.out.2.2.2.2.1.2).mono ?_
 rintro e w4 ⟨t4,rfl,ht4,htn4,hb4⟩
 have HB4:=zH (bS HB3.out hb4)
 have hG4:=bK hb4 hG3
 have hbo4:=bK hb4 hbo3
 have hq4:=HQ.out w4 hG4 hbo4
 have HO4:=zH (htn4.off (Nat.lt_of_lt_of_le hGs HB3.out.size))
 obtain⟨T,hT6⟩:=yR hG4 ht4 HO4.out
 have HT6:=zH hT6
 have f0:=cH hG4 0;have f1:=cH hG4 1
 have z0:=hq4.1.1;have z1:=hq4.1.2
 have HN4:=zH (htn4.lower HB3.out.size)
 clear ht4 htn4 hb4 hT6
 refine hK.out _ _ ?_ ?_
 ·exact(hl2 hq4)
 clear hK K;try simp only[Act.put,pA,pB,pC]
 refine cK 4 (by kernel_rfl) rfl (fun K hK=>?_)
 go_simp
 refine hK.out _ _ ?_ ?_
 ·exact⟨.inr (by kernel_rfl),.inr (by kernel_rfl),trivial⟩
 clear hK K;try simp only[Act.put,pA,pB,pC]
 refine cO (by kernel_rfl) ?_ _
 have HG6:=zH T.new
 have HK6:=zH ((cQ (S:=fun j=>j=G) HB4.out).trans (cL T rfl))
 clear T
 try dsimp only
 go_wp2_with fail
 exact bodyPost_end (v:=.tuple #[]) (results_none rfl _ _ _) rfl ⟨rfl,t4,HG6.out,HT6.out,HN4.out,HK6.out⟩
structure EaR (G B:Nat) (w:World) (l:List NE) (tot:Tp.Vw) (j:Nat) (t:RV) (x:Tp.Vw) (wr:World):Prop where
 bx:wr.heap[G]?=some (.cells (m01 t) 38 (0,0))
 vw:VwR wr t x
 off:t.Off G
 kp:aC (· =G) w wr
 eq:x=tot
 new:t.New B
theorem aHa (G B:Nat)(a:Option Addr)(n c:Nat)(l:List NE)(rx:RV)(x:Tp.Vw)(w:World)(hG:w.heap[G]?=some (.cells (m01 rx) 38 (0,0)))(hx:VwR w rx x)(hxo:rx.Off G)(hxn:rx.New B)(hB:B<=w.heap.size)(hl:eE w a n c l)(hlo:mP a n l G)(h1:∀p∈l,(Tp.gH p.k).b.length<=1000000/\(Tp.gH p.k).v.length<=1000000)(h2:∀j,(Tp.eT x ((l.take j).map NE.k)).b.length<=1000000/\(Tp.eT x ((l.take j).map NE.k)).v.length<=1000000):
  Calls Tryz.prog 83 #[.slice a n c,.func (.func 84) #[] (m46 G)] w fun e w'=>e=.returned (.tuple #[])/\∃t:RV,w'.heap[G]?=some (.cells (m01 t) 38 (0,0))/\VwR w' t (Tp.eT x (l.map NE.k))/\t.New B/\t.Off G/\aC (· =G) w w':=by
 have hln:=hl.len
 have hbd:=hl.bd
 have HL:=zH (And.intro hl (And.intro hlo (And.intro h1 h2)))
 have HX:=zH (And.intro hG (And.intro hx hxo))
 have HXN:=zH hxn
 clear hl hlo h1 h2 hG hx hxo hxn
 go_enter Tryz.func83,Tryz.ntmps83
 go_wp2_with fail
 go_loopw [8] (fun i wr=>∃(j:Nat) (t:RV) (y:Tp.Vw),j<=n/\i=.int .i64 j/\EaR G B w l (Tp.eT x ((l.take j).map NE.k)) j t y wr) (fun i _=>n-(intOf i).toNat)
 case atStart=>exact⟨0,rx,_,Nat.zero_le _,rfl,HX.out.1,HX.out.2.1,HX.out.2.2,aC.refl _ _,rfl,HXN.out⟩
 case round=>
  obtain⟨j,t,y,hj,rfl,hR⟩:=hrel
  by_cases hjn:j<n
  case neg=>
   obtain rfl:j=n:=by omega
   have HZ:Hid (y=Tp.eT x (l.map NE.k)):=zH (by rw[hR.eq,List.take_of_length_le (by omega)])
   have HR:=zH hR
   clear hR
   go_wp2_with fail
   exact bodyPost_end (v:=.tuple #[]) (results_none rfl _ _ _) rfl ⟨rfl,t,HR.out.bx,HZ.out▸HR.out.vw,HR.out.new,HR.out.off,HR.out.kp⟩
  have hjl:j<l.length:=by omega
  obtain⟨p,hp⟩:∃p,l[j]=p:=⟨_,rfl⟩
  have hmem:p∈l:=hp▸List.getElem_mem hjl
  obtain⟨b,o,rfl,hlt,hc⟩:=HL.out.1.cells hjl hp
  have hbG:b≠G:=by
   rcases HL.out.2.1.1 with h|h
   ·omega
   ·exact h b o rfl
  have hcc:∀i,i<12->wr.cell? (m09 b (o+j*12+i))=(aT p.r)[i]?:=fun i hi=>(World.cell?_of_block (a:=⟨b,_,none⟩) (hR.kp.block b hlt hbG)).trans (hc i hi)
  have c0:wr.cell? (m09 b (o+j*12))=some (.int .i64 p.r.no):=hcc 0 (by omega)
  have c1:wr.cell? (m09 b (o+j*12+1))=some (.int .i64 p.r.tick):=hcc 1 (by omega)
  have c2:wr.cell? (m09 b (o+j*12+2))=some (.slice p.r.v.ab p.r.v.nb p.r.v.cb):=hcc 2 (by omega)
  have c3:wr.cell? (m09 b (o+j*12+3))=some (.slice p.r.v.av p.r.v.nv p.r.v.cv):=hcc 3 (by omega)
  have c4:wr.cell? (m09 b (o+j*12+4))=some (.slice p.r.inn.ab p.r.inn.nb p.r.inn.cb):=hcc 4 (by omega)
  have c5:wr.cell? (m09 b (o+j*12+5))=some (.slice p.r.inn.av p.r.inn.nv p.r.inn.cv):=hcc 5 (by omega)
  have c6:wr.cell? (m09 b (o+j*12+6))=some (.slice p.r.oa p.r.on p.r.oc):=hcc 6 (by omega)
  have c7:wr.cell? (m09 b (o+j*12+7))=some (.int .u64 p.r.p):=hcc 7 (by omega)
  have c8:wr.cell? (m09 b (o+j*12+8))=some (.int .u64 p.r.q):=hcc 8 (by omega)
  have c9:wr.cell? (m09 b (o+j*12+9))=some (.int .i64 p.r.sl):=hcc 9 (by omega)
  have c10:wr.cell? (m09 b (o+j*12+10))=some (.int .i64 p.r.rev):=hcc 10 (by omega)
  have c11:wr.cell? (m09 b (o+j*12+11))=some (.bool p.r.full):=hcc 11 (by omega)
  have j0:(0:Int)<=j:=by omega
  have j1:(j:Int)<n:=by omega
  obtain⟨w4,ew4_⟩:∃z,Hid (z=wr.alloc (.cells (m03 p.r.no p.r.tick p.r.v p.r.inn p.r.oa p.r.on p.r.oc p.r.p p.r.q p.r.sl p.r.rev p.r.full) 44)):=⟨_,zH rfl⟩
  have hal:Below wr.heap.size wr w4:=by cases ew4_.out;exact(Below.refl _ _).alloc nr _
  have hbo:w4.heap[wr.heap.size]?=some (.cells (m03 p.r.no p.r.tick p.r.v p.r.inn p.r.oa p.r.on p.r.oc p.r.p p.r.q p.r.sl p.r.rev p.r.full) 44 (0,0)):=by cases ew4_.out;exact heap_alloc_new wr _
  have hGr:=(gS hR.bx)
  have HR:=zH hR
  have hsn:(l.take (j+1)).map NE.k=(l.take j).map NE.k++[p.k]:=by rw[List.take_succ_eq_append_getElem hjl,List.map_append,hp];rfl
  have HE:Hid (Tp.join y (Tp.gH p.k)=Tp.eT x ((l.take (j+1)).map NE.k)):=zH (by rw[hsn,hR.eq];unfold Tp.eT;rw[List.foldl_append];rfl)
  have HP:=zH (And.intro hmem (And.intro ((HL.out.1.nd p hmem).keepS hR.kp (HL.out.2.1.2 p hmem)) (HL.out.2.2.1 p hmem)))
  have HD:=zH (HL.out.2.2.2 (j+1))
  clear hc hcc hmem hR hsn
  go_wp2_with fail
  clear c0 c1 c2 c3 c4 c5 c6 c7 c8 c9 c10 c11
  rw[<-ew4_.out]
  have HB4:=zH hal
  have H4:=zH (HP.out.2.1.keep hal)
  have e0:=zQ (r:=p.r) hbo
  clear hal
  try dsimp only
  go_wp2_with fail
  refine(aHr G p.r t y p.k.v p.k.inn w4 (cG HB4.out hGr HR.out.bx) (HR.out.vw.keep HB4.out) HR.out.off H4.out.v H4.out.inn HP.out.2.2 (by rw[show Tp.join y (Tp.join p.k.v p.k.inn)=_ from HE.out];exact HD.out)).mono ?_
  rintro e w5 ⟨rfl,t5,g5,v5,o5,k5⟩
  have HF:=zH (show EaR G B w l (Tp.eT x ((l.take (j+1)).map NE.k)) (j+1) t5 (Tp.join y (Tp.gH p.k)) w5 from⟨g5,v5,o5.off (Nat.lt_of_lt_of_le hGr HB4.out.size),(HR.out.kp.thenB (HB4.out.mono HR.out.kp.size)).trans k5,HE.out,o5.lower (Nat.le_trans hB (Nat.le_trans HR.out.kp.size HB4.out.size))⟩)
  clear g5 v5 o5 k5 e0
  try dsimp only
  go_wp2_with fail
  exact⟨⟨j+1,t5,_,by omega,by go_num,HF.out⟩,by simp[intOf];omega⟩
theorem wQ (a:Option Addr)(n c:Nat)(l:List NE)(w:World)(hl:eE w a n c l)(h1:∀p∈l,(Tp.gH p.k).b.length<=1000000/\(Tp.gH p.k).v.length<=1000000)(h2:∀j,(Tp.all ((l.take j).map NE.k)).b.length<=1000000/\(Tp.all ((l.take j).map NE.k)).v.length<=1000000):
  Calls Tryz.prog 48 #[.slice a n c] w fun e w'=>∃t:RV,e=.returned (.agg (m01 t))/\VwR w' t (Tp.all (l.map NE.k))/\t.New w.heap.size/\Below w.heap.size w w':=by
 have hal:Below w.heap.size w (w.alloc (m56)):=(Below.refl _ _).alloc nr _
 have hbo:(w.alloc (m56)).heap[w.heap.size]?=some (.cells (m18) 38 (0,0)):=heap_alloc_new w _
 go_enter Tryz.func48,Tryz.ntmps48
 go_wp2_with fail
 have hGs:=(gS hbo)
 generalize w.alloc (m56)=w1 at hal hbo hGs⊢
 refine(aHa w.heap.size w.heap.size a n c l ⟨none,0,0,none,0,0⟩ ⟨[],[]⟩ w1 hbo ⟨⟨SlV.nil _,SlV.nil _,fun y hy=>(by cases hy),Nat.zero_le _,Nat.zero_le _⟩,fun _=>⟨rfl,rfl⟩,fun _=>⟨rfl,rfl⟩⟩ ⟨.inl rfl,.inl rfl⟩ ⟨fun b o e=>(by cases e),fun b o e=>(by cases e)⟩ hal.size (hl.keep hal) (hl.away nr) h1 h2).mono ?_
 rintro e w2 ⟨rfl,t,g2,v2,n2,o2,k2⟩
 obtain⟨c0,c1⟩:=kc2 g2
 obtain⟨f0,f1⟩:=kf2 g2
 have T:=set2 w2 w.heap.size _ _ (m41 t) (m42 t) _ g2
 have HF:=zH (And.intro (v2.keepS (cL T rfl) o2) (And.intro n2 ((hal.trans (k2.below hal.size (fun j e=>by rw[e];exact Nat.le_refl _))).trans (T.below nr))))
 have g3:=T.new
 clear T v2 n2 o2 k2 hal hbo g2 hl h1 h2
 try dsimp only
 go_wp2_with fail
 generalize(w2.setCell (m07 w) (m41 t)).setCell (m14 w) (m42 t)=w3 at HF g3⊢
 obtain⟨d0,d1⟩:=kc2 g3
 refine bodyPost_ret (v:=.agg (m01 t)) ?_ rfl ⟨t,rfl,HF.out.1,HF.out.2.1,HF.out.2.2⟩
 simp[results,Tryz.results48,go_sem,d0,d1]
theorem oL (w:World):Calls Tryz.prog 60 #[.slice none 0 0] w fun e w'=>e=.returned (m48)/\w=w':=by
 have qn (W:World) (a:Option Addr) (n c n' c':Nat):=Lib.run_eql_slice_nil (P:=Tryz.prog) W 30 112 a n c n' c' Tryz.underlying30
 go_enter Tryz.func60,Tryz.ntmps60
 go_wp2
 go_ret
 exact⟨rfl,rfl⟩
theorem oM (w:World):Calls Tryz.prog 81 #[.slice none 0 0] w fun e w'=>e=.returned (m48)/\w=w':=by
 have qn (W:World) (a:Option Addr) (n c n' c':Nat):=Lib.run_eql_slice_nil (P:=Tryz.prog) W 35 56 a n c n' c' Tryz.underlying35
 go_enter Tryz.func81,Tryz.ntmps81
 go_wp2
 go_ret
 exact⟨rfl,rfl⟩
theorem oX (w:World):Calls Tryz.prog 82 #[.slice none 0 0] w fun e w'=>e=.returned (m48)/\w=w':=by
 have qn (W:World) (a:Option Addr) (n c n' c':Nat):=Lib.run_eql_slice_nil (P:=Tryz.prog) W 36 84 a n c n' c' Tryz.underlying36
 go_enter Tryz.func82,Tryz.ntmps82
 go_wp2
 go_ret
 exact⟨rfl,rfl⟩
theorem fY {w:World}{b i:Nat}{v:Value}(h:w.cell? (m09 b i)=some v):w.setCell (m09 b i) v=w:=by
 have hh:(w.setCell (m09 b i) v).heap=w.heap:=by
  apply Array.ext_getElem?
  intro k
  by_cases hk:k=b
  ·subst hk
   unfold World.cell? at h
   simp only[World.setCell,Array.getElem?_modify,if_true]
   cases e:w.heap[k]? with
   |none=>rfl
   |some o=>
    rw[e]at h
    cases o with
    |cells c t z=>
     simp only[Option.isSome_none,Bool.false_eq_true,if_false]at h
     obtain⟨hi,hv⟩:=Array.getElem?_eq_some_iff.1 h
     simp only[Option.map_some,Option.isSome_none,Bool.false_eq_true,if_false]
     congr 2
     rw[<-hv]
     refine Array.ext (by simp) (fun q h1 h2=>?_)
     rw[Array.getElem_setIfInBounds h2]
     split
     ·rename_i e3;subst e3;rfl
     ·rfl
    |_=>rfl
  ·rw[Below.heap_setCell _ _ _ _ hk]
 have e:w.setCell (m09 b i) v={ w with heap:=(w.setCell (m09 b i) v).heap }:=rfl
 rw[e,hh]
theorem nL (w:World):Calls Tryz.prog 46 #[.slice none 0 0] w fun e w'=>e=.returned (m48)/\w=w':=by
 go_enter Tryz.func46,Tryz.ntmps46
 go_wp2_with (go_at_call 60;refine(oL _).mono ?_;rintro e w1 ⟨rfl,rfl⟩)
 go_loopw [8] (fun i_ wr=>i_=.int .i64 0/\wr=w) (fun i_ _=>0)
 case atStart=>exact⟨rfl,rfl⟩
 case round=>
  obtain⟨rfl,rfl⟩:=hrel
  go_wp2
  go_ret
  exact⟨rfl,rfl⟩
theorem oK (w:World):Calls Tryz.prog 47 #[.agg (m18)] w fun e w'=>e=.returned (.agg (m18))/\Below w.heap.size w w':=by
 obtain⟨w1,ew1_⟩:∃z,Hid (z=((w.alloc (m56)).alloc (m56))):=⟨_,zH rfl⟩
 have hb2:Below w.heap.size w w1:=by cases ew1_.out;exact cR _ _
 have hr:w1.heap[w.heap.size]?=some (.cells (m18) 38 (0,0)):=by cases ew1_.out;rw[cF,if_neg (by simp),cF,if_pos rfl]
 have hr2:w1.heap[w.heap.size+1]?=some (.cells (m18) 38 (0,0)):=by cases ew1_.out;rw[cF,if_pos (by simp)]
 go_enter Tryz.func47,Tryz.ntmps47
 go_wp2_with fail
 rw[<-ew1_.out]
 obtain⟨x0,x1⟩:=kc2 hr
 obtain⟨y0,y1⟩:=kc2 hr2
 have HB2:=zH hb2
 have f0:=cH hr2 0
 have f1:=cH hr2 1
 have es:(w1.setCell (m22 w) (m48)).setCell (m29 w) (m48)=w1:=by rw[fY y0,fY y1]
 clear hb2
 go_region_held3 (fun w'=>w'.cell? (m07 w)=some (.slice none 0 0)/\w'.cell? (m14 w)=some (.slice none 0 0))
  (exact⟨x0,x1⟩)
  (first
   |(go_at_call 81;refine(oM _).mono ?_;rintro e wB ⟨rfl,rfl⟩)
   |(go_at_call 82;refine(oX _).mono ?_;rintro e wB ⟨rfl,rfl⟩))
 have z0:w1.drew.cell? (m22 w)=some (.slice none 0 0):=y0
 have z1:w1.drew.cell? (m29 w)=some (.slice none 0 0):=y1
 have HF:=zH (HB2.out.drew)
 clear es x0 x1 y0 y1 f0 f1 hr hr2
 generalize w1.drew=w2 at *
 go_wp2_with fail
 refine bodyPost_ret (v:=.agg (m18)) ?_ rfl ⟨rfl,HF.out⟩
 simp[results,Tryz.results47,go_sem,z0,z1]
theorem aJn (w:World):Calls Tryz.prog 17 #[] w fun e w'=>∃a,e=.returned (.agg #[.slice a 1 1,.int .u64 0,.int .i64 1,.int .i64 1,.int .i64 4])/\aP w' a 1 [1] 0/\Below w.heap.size w w':=by
 obtain⟨w1,ew1_⟩:∃z,Hid (z=((w.alloc (.cells #[.slice (some (m22 w)) 1 1,.int .u64 0,.int .i64 1,.int .i64 1,.int .i64 4] 25)).alloc (.cells #[.int .i64 1] 3))):=⟨_,zH rfl⟩
 have hal:Below w.heap.size w w1:=by cases ew1_.out;exact cR _ _
 have hb0:w1.heap[w.heap.size]?=some (.cells #[.slice (some (m22 w)) 1 1,.int .u64 0,.int .i64 1,.int .i64 1,.int .i64 4] 25 (0,0)):=by cases ew1_.out;rw[cF,if_neg (by simp),cF,if_pos rfl]
 have hb1:w1.heap[w.heap.size+1]?=some (.cells #[.int .i64 1] 3 (0,0)):=by cases ew1_.out;rw[cF,if_pos (by simp)]
 go_enter Tryz.func17,Tryz.ntmps17
 go_wp2_with fail
 rw[<-ew1_.out]
 obtain⟨c0,c1,c2,c3,c4⟩:=kc5 hb0
 refine bodyPost_ret (v:=.agg #[.slice (some (m22 w)) 1 1,.int .u64 0,.int .i64 1,.int .i64 1,.int .i64 4]) ?_ rfl ⟨_,rfl,⟨rfl,by omega,by omega,.inr ⟨w.heap.size+1,0,rfl,(gS hb1),fun i hi=>?_⟩⟩,hal⟩
 ·simp[results,Tryz.results17,go_sem,c0,c1,c2,c3,c4]
 ·have hi2:i=0:=by simpa using hi
  subst hi2
  exact cA hb1 0
end Go.Proofs.YtbbhinehcncmeaaGreat
