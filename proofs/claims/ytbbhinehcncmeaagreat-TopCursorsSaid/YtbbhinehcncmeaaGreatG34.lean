/- A part of the proof of the laws of the top: TpOwnB, TpPlayJ, TpRun. No condition. -/
import Derived.Test.YtbbhinehcncmeaaGreatG33
namespace Go.Proofs.YtbbhinehcncmeaaGreat
open Go.RowKit
set_option linter.unusedSimpArgs false
set_option linter.unusedVariables false
set_option linter.unusedSectionVars false
set_option maxRecDepth 100000
set_option maxHeartbeats 8000000
theorem aHd (k:Tp.Wd)(al:List Tp.Ac)(j:Nat)(n:Tp.Nd)(h:k.n[j]?=some n):(Tp.doN k al).take (j+1)=(Tp.doN k al).take j++[(Tp.eX k al j n).1]:=by
 have hj:j<k.n.length:=(List.getElem?_eq_some_iff.1 h).1
 have hl:j<(Tp.doN k al).length:=by unfold Tp.doN;rw[List.length_mapIdx];exact hj
 have e:(Tp.doN k al)[j]'hl=(Tp.eX k al j n).1:=by simp[Tp.doN,(List.getElem?_eq_some_iff.1 h).2]
 rw[List.take_succ_eq_append_getElem hl,e]
theorem aHc (k:Tp.Wd)(al:List Tp.Ac)(j:Nat)(n:Tp.Nd)(h:k.n[j]?=some n):Tp.doO k al (j+1)=Tp.doO k al j++(Tp.eX k al j n).2:=by
 have hj:j<k.n.length:=(List.getElem?_eq_some_iff.1 h).1
 unfold Tp.doO
 rw[List.take_succ_eq_append_getElem (by rw[List.length_mapIdx];exact hj),List.flatten_append,List.getElem_mapIdx,(List.getElem?_eq_some_iff.1 h).2]
 simp
theorem tY [Old](r:RW)(ns:List NE)(os:List (RO×Tp.Vw))(k:Tp.Wd)(a:Option Addr)(n c:Nat)(al:List (RA×Tp.Vw))(w:World)(hW:WdR w r ns os k)(hA:iK w a n c al)(hD:DoIn k (al.map toAc))(hX:∀b,Old.bad b->b<w.heap.size/\lS r ns os b):
  Calls Tryz.prog 9 #[.agg (aR r k.c).toArray,.slice a n c] w fun e w'=>∃r' ns' os',e=.returned (.agg (aR r' k.c).toArray)/\WdR w' r' ns' os' (Tp.doW k (al.map toAc))/\(∀b,Old.bad b->lS r' ns' os' b)/\Below w.heap.size w w':=by
 have htk:r.tick=k.tick:=hW.tick
 have ht1:3<=r.tick:=by rw[htk];exact hD.tick.1
 have ht2:r.tick<=1000000:=by rw[htk];exact hD.tick.2
 have hnn:ns.length=r.nn:=hW.n.len
 have hn50:r.nn<=50:=by have:=hD.nn;rw[hW.kn,List.length_map]at this;omega
 have HW:=zH hW
 have HA:=zH hA
 have HD:=zH hD
 have HX:=zH hX
 have HTK:=zH htk
 have hb2:Below w.heap.size w ((w.alloc (.cells (m10 r.aw r.nw r.cw k.c r.ba r.bn r.bc r.tick r.na r.nn r.nc r.oa r.on r.oc) 32)).alloc (.cells (m21) 32)):=cR _ _
 have hbw:((w.alloc (.cells (m10 r.aw r.nw r.cw k.c r.ba r.bn r.bc r.tick r.na r.nn r.nc r.oa r.on r.oc) 32)).alloc (.cells (m21) 32)).heap[w.heap.size]?=some (.cells (m10 r.aw r.nw r.cw k.c r.ba r.bn r.bc r.tick r.na r.nn r.nc r.oa r.on r.oc) 32 (0,0)):=by rw[cF,if_neg (by simp),cF,if_pos rfl]
 have hb4:((w.alloc (.cells (m10 r.aw r.nw r.cw k.c r.ba r.bn r.bc r.tick r.na r.nn r.nc r.oa r.on r.oc) 32)).alloc (.cells (m21) 32)).heap[w.heap.size+1]?=some (.cells (m21) 32 (0,0)):=by rw[cF,if_pos (by simp)]
 clear hW hA hD hX htk
 simp only[aR]
 go_enter Tryz.func9,Tryz.ntmps9
 go_wp2_with fail
 generalize((w.alloc (.cells (m10 r.aw r.nw r.cw k.c r.ba r.bn r.bc r.tick r.na r.nn r.nc r.oa r.on r.oc) 32)).alloc (.cells (m21) 32))=w2 at hb2 hbw hb4⊢
 have HB2:=zH hb2
 have HBW:=zH hbw
 have HB4:=zH hb4
 clear hb2 hbw hb4
 refine(dB r.aw r.nw r.cw k.c.W k.c.sd k.c.ep k.c.nu k.c.de w2 HW.out.conf.len HW.out.conf.max (HW.out.conf.keep HB2.out).ints).mono ?_
 rintro e w3 ⟨rfl,hb3⟩
 rw[HD.out.may]
 have hbw:=bK hb3 HBW.out
 have D3:=zH (bS HB2.out hb3)
 have hb4:=bK hb3 HB4.out
 obtain⟨x0,x1,x2,x3,x4,x5,x6,x7,x8⟩:=kc9 hbw
 have HB3:=zH (And.intro hbw hb4)
 clear hbw hb4 hb3
 try dsimp only
 go_wp2_with fail
 have hpo:=aJk r ns os k a n c al w3 (HW.out.keep D3.out) (HA.out.keep D3.out) ⟨HD.out.tick.1,by have:=HD.out.tick.2;omega⟩ ⟨fun p hp=>HD.out.all1 p.k (by rw[HW.out.kn];exact List.mem_map_of_mem hp),fun j=>by rw[List.map_take,<-HW.out.kn];exact HD.out.all2 j⟩
 simp only[aR]at hpo
 refine hpo.mono ?_
 clear hpo
 rintro e w4 ⟨Bw,B6,B5,ra,ca,cn,cc,cl,rfl,hM,hb4⟩
 simp only[rB]
 have hal:Below w4.heap.size w4 (w4.alloc (.cells (m44 r.aw r.nw r.cw k.c r.ba r.bn r.bc r.tick r.na r.nn r.nc r.oa r.on r.oc ra (Tp.sC k) (Tp.nS k) B6 B5 (k.tick/3) ca cn cc) 67)):=(Below.refl _ _).alloc nr _
 have hbm:(w4.alloc (.cells (m44 r.aw r.nw r.cw k.c r.ba r.bn r.bc r.tick r.na r.nn r.nc r.oa r.on r.oc ra (Tp.sC k) (Tp.nS k) B6 B5 (k.tick/3) ca cn cc) 67)).heap[w4.heap.size]?=some (.cells (m44 r.aw r.nw r.cw k.c r.ba r.bn r.bc r.tick r.na r.nn r.nc r.oa r.on r.oc ra (Tp.sC k) (Tp.nS k) B6 B5 (k.tick/3) ca cn cc) 67 (0,0)):=heap_alloc_new w4 _
 have HM:=zH (hM.keep hal)
 have D4:=zH (bS D3.out hb4)
 have D34:=zH (bS hb4 hal)
 clear hM hb4 x0 x1 x2 x3 x4 x5 x6 x7 x8
 try dsimp only
 go_wp2_with fail
 generalize hBm:w4.heap.size=Bm at hal hbm⊢
 generalize w4.alloc (.cells (m44 r.aw r.nw r.cw k.c r.ba r.bn r.bc r.tick r.na r.nn r.nc r.oa r.on r.oc ra (Tp.sC k) (Tp.nS k) B6 B5 (k.tick/3) ca cn cc) 67)=w5 at hal hbm HM D34⊢
 have D5:=zH ((show Below w.heap.size w w5 from bS D3.out D34.out))
 have HBM:=zH hbm
 have hbw5:=bK D34.out HB3.out.1
 have HBW5:=zH hbw5
 have HB45:=zH (bK D34.out HB3.out.2)
 clear hal hbm hBm hbw5
 refine aEh (M:=w.heap.size) (M4:=w.heap.size+1) (M5:=Bm) (r:=r) (k:=k) ⟨fun _ _ d _ _ h=>by cases d<;>exact h,zH ⟨HW.out.bad.below D5.out nr,HW.out.badm,HW.out.bad0⟩,⟨ht1,by omega⟩,fun W hb=>by
  have e:=bK hb HBW5.out
  exact⟨⟨cA e 0,cA e 1,cA e 2,cA e 3,cA e 4⟩,cA e 5,cA e 6⟩,?_⟩ DmR.start
 intro G6 ba bn bc W hR
 have hgg:=hR.aa G6 rfl
 have hcl:=hR.cl _ rfl
 have T:=cM [.slice r.aw r.nw r.cw,.int .u64 k.c.sd,.int .i64 k.c.ep,.int .i64 k.c.nu,.int .i64 k.c.de,.slice ba bn bc,.int .i64 (r.tick+1),.slice none 0 0,.slice none 0 0] 0 _ _ hgg.1 (by show(9:Nat)<=9;omega)
 have hg6:w5.heap.size<=G6:=hgg.2
 have l5:=(gS HB45.out)
 have lm:=(gS HBM.out)
 have BX:Hid (((((m06 W G6 r.aw r.nw r.cw k.c ba bn bc:World).setCell (m39 G6) (m30 (r.tick+1))).setCell (m36 G6) (m48)).setCell (m60 G6) (m48)).heap[G6]?=some (.cells (outC r k ba bn bc none 0 0 none 0 0).toArray 32 (0,0))):=zH T.new
 have D56:Hid (Below w5.heap.size w5 ((((m06 W G6 r.aw r.nw r.cw k.c ba bn bc:World).setCell (m39 G6) (m30 (r.tick+1))).setCell (m36 G6) (m48)).setCell (m60 G6) (m48))):=zH (hR.bel.trans (T.below hg6))
 have HOB:=zH (show OwnL intC 1 3 ((((m06 W G6 r.aw r.nw r.cw k.c ba bn bc:World).setCell (m39 G6) (m30 (r.tick+1))).setCell (m36 G6) (m48)).setCell (m60 G6) (m48)) w5.heap.size (m63 ba bn bc) k.bad from hcl.1.turnNe T (hcl.2 G6 rfl))
 have HBN:Hid ((Value.slice ba bn bc).ownBlock≠some G6/\∀g,(Value.slice ba bn bc).ownBlock=some g->w5.heap.size<=g):=zH ⟨hcl.2 G6 rfl,fun g e=>(hcl.1.lt g e).1⟩
 have hl6:G6<((((m06 W G6 r.aw r.nw r.cw k.c ba bn bc:World).setCell (m39 G6) (m30 (r.tick+1))).setCell (m36 G6) (m48)).setCell (m60 G6) (m48)).heap.size:=(gS BX.out)
 clear hR hgg hcl T
 generalize((((m06 W G6 r.aw r.nw r.cw k.c ba bn bc:World).setCell (m39 G6) (m30 (r.tick+1))).setCell (m36 G6) (m48)).setCell (m60 G6) (m48))=w6 at BX D56 HOB hl6⊢
 have D6_:=zH (bS D5.out D56.out)
 have HBW6:=zH (bK D56.out HBW5.out)
 have HB46:=zH (cG D56.out l5 HB45.out)
 have HBM6:=zH (cG D56.out lm HBM.out)
 have HM6:=zH (HM.out.keep D56.out)
 have l46:w.heap.size+1<w6.heap.size:=(gS HB46.out)
 have x7:w6.cell? (m51 w)=some (.slice r.na r.nn r.nc):=cA HBW6.out 7
 have HS:Hid (DoR w6 G6 (w.heap.size+1) r k (al.map toAc) ba bn bc 0 none 0 0 [] none 0 0 [] w6):=zH ⟨aC.refl _ _,BX.out,⟨hl6,l46⟩,OwnL.nil _ _ _ _ _,OwnL.nil _ _ _ _ _,fun g e=>(by cases e),fun p hp=>(by cases hp),fun p hp=>(by cases hp),rfl,rfl,fun b e=>by have:=(HX.out b e).1;omega⟩
 try dsimp only
 go_wp2_with fail
 clear x7
 go_loopw [43] (fun i_ wr=>∃(j:Nat) (na:Option Addr) (nn nc:Nat) (ls:List NE) (oa:Option Addr) (on_ oc:Nat) (lo:List (RO×Tp.Vw)),j<=r.nn/\i_=.int .i64 j/\DoR w6 G6 (w.heap.size+1) r k (al.map toAc) ba bn bc j na nn nc ls oa on_ oc lo wr) (fun i_ _=>r.nn-(intOf i_).toNat)
 case atStart=>exact⟨0,_,_,_,_,_,_,_,_,Nat.zero_le _,rfl,HS.out⟩
 case round=>
  clear HS
  obtain⟨j,na,nn,nc,ls,oa,on_,oc,lo,hj,rfl,hR⟩:=hrel
  by_cases hjn:j<r.nn
  case neg=>
   obtain rfl:j=r.nn:=by omega
   have HR:=zH hR
   have hb46:=(hR.kp.block (w.heap.size+1) l46 (fun e=>by have:=hg6;omega)).trans HB46.out
   obtain⟨o0,o1,o2,o3,o4,o5,o6,o7,o8⟩:=kc9 hR.box
   obtain⟨z0,z1,z2,z3,z4,z5,z6,z7,z8⟩:=kc9 hb46
   obtain⟨f0,f1,f2,f3,f4,f5,f6,f7,f8⟩:=kf9 hb46
   have T:=cM [.slice r.aw r.nw r.cw,.int .u64 k.c.sd,.int .i64 k.c.ep,.int .i64 k.c.nu,.int .i64 k.c.de,.slice ba bn bc,.int .i64 (r.tick+1),.slice na nn nc,.slice oa on_ oc] 0 _ _ hb46 (by show(9:Nat)<=9;omega)
   have kT:=cL (S:=(· =w.heap.size+1)) T rfl
   have g9:((((m50 wr w r.aw r.nw r.cw k.c ba bn bc:World).setCell ⟨w.heap.size+1,6,none⟩ (m30 (r.tick+1))).setCell ⟨w.heap.size+1,7,none⟩ (m63 na nn nc)).setCell ⟨w.heap.size+1,8,none⟩ (m63 oa on_ oc)).heap[w.heap.size+1]?=some (.cells (aR ⟨r.aw,r.nw,r.cw,ba,bn,bc,r.tick+1,na,nn,nc,oa,on_,oc⟩ k.c).toArray 32 (0,0)):=T.new
   have hw5:w.heap.size<=w5.heap.size:=D5.out.size
   have hbr:Below w.heap.size w wr:=D6_.out.trans (hR.kp.below D6_.out.size (fun j e=>by rw[e];omega))
   have hln:(Tp.doN k (al.map toAc)).length=r.nn:=by unfold Tp.doN;rw[List.length_mapIdx,HW.out.kn,List.length_map,hnn]
   have sN:=cP cS (hR.ownN.turnNe T (fun e=>by have:=(hR.ownN.lt _ e).1;omega))
   have sO:=cP dW (hR.ownO.turnNe T (fun e=>by have:=(hR.ownO.lt _ e).1;omega))
   have sB:=cP (f:=intC) (k:=1) (fun _=>rfl) ((HOB.out.keepS hR.kp (fun e=>HBN.out.1 e)).turnNe T (fun e=>by have:=HBN.out.2 _ e;omega))
   have hlN:ls.length=nn:=by have:=sN.1.len;rwa [List.length_map]at this
   have hlO:lo.length=on_:=by have:=sO.1.len;rwa [List.length_map]at this
   have hN1:FB G6 (w.heap.size+1) (m63 na nn nc) (m63 oa on_ oc) (w.heap.size+1):=.inr (.inl rfl)
   have HF:Hid (WdR ((((m50 wr w r.aw r.nw r.cw k.c ba bn bc:World).setCell ⟨w.heap.size+1,6,none⟩ (m30 (r.tick+1))).setCell ⟨w.heap.size+1,7,none⟩ (m63 na nn nc)).setCell ⟨w.heap.size+1,8,none⟩ (m63 oa on_ oc)) ⟨r.aw,r.nw,r.cw,ba,bn,bc,r.tick+1,na,nn,nc,oa,on_,oc⟩ ls lo (Tp.doW k (al.map toAc))):=zH ⟨(HW.out.conf.below hbr nr).keepS kT (HW.out.conf.away (Nat.le_succ _)),sB.1,sB.2,by
     show bn<=1000000
     have h1:=sB.1.len
     have h2:=HW.out.bad.len
     have h3:=HW.out.badm
     omega,⟨sN.1,sN.2,fun p hp=>(hR.nd p hp).1.keepS kT ((hR.nd p hp).2 _ hN1),by
      show nn<=1000000
      have h1:=congrArg List.length hR.eqN
      rw[List.length_map,List.length_take]at h1
      omega⟩,by
     show Tp.doN k (al.map toAc)=ls.map NE.k
     rw[hR.eqN,List.take_of_length_le (by omega)],⟨sO.1,sO.2,fun p hp=>(hR.of p hp).1.keepS kT ((hR.of p hp).2.2 _ hN1),fun p hp=>(hR.of p hp).2.1,by
      show on_<=1000000
      have h1:=congrArg List.length hR.eqO
      rw[List.length_map]at h1
      have h2:=HD.out.out r.nn
      omega⟩,by
     show Tp.doO k (al.map toAc) k.n.length=lo.map aS
     rw[hR.eqO,HW.out.kn,List.length_map,hnn],by
     show r.tick+1=k.tick+1
     rw[HTK.out]⟩
   have HOF:Hid (∀b,Old.bad b->lS ⟨r.aw,r.nw,r.cw,ba,bn,bc,r.tick+1,na,nn,nc,oa,on_,oc⟩ ls lo b):=zH (fun b e=>by
    have hb1:=(HX.out b e).1
    have hfb:FB G6 (w.heap.size+1) (m63 na nn nc) (m63 oa on_ oc) b:=.inr (.inr (.inr (.inr e)))
    refine⟨(HX.out b e).2.1,.inr fun b' o e2=>?_,⟨.inr fun b' o e2=>?_,fun p hp=>(hR.nd p hp).2 b hfb⟩,⟨.inr fun b' o e2=>?_,fun p hp=>(hR.of p hp).2.2 b hfb⟩⟩
    ·have e3:ba=some ⟨b',o,none⟩:=e2
     have:=HBN.out.2 b' (by rw[e3];rfl);omega
    ·have e3:na=some ⟨b',o,none⟩:=e2
     have:=(hR.ownN.lt b' (by rw[e3];rfl)).1;omega
    ·have e3:oa=some ⟨b',o,none⟩:=e2
     have:=(hR.ownO.lt b' (by rw[e3];rfl)).1;omega)
   have HBF:Hid (Below w.heap.size w ((((m50 wr w r.aw r.nw r.cw k.c ba bn bc:World).setCell ⟨w.heap.size+1,6,none⟩ (m30 (r.tick+1))).setCell ⟨w.heap.size+1,7,none⟩ (m63 na nn nc)).setCell ⟨w.heap.size+1,8,none⟩ (m63 oa on_ oc))):=zH (hbr.trans (T.below (Nat.le_succ _)))
   have G9:=zH g9
   clear hR T kT g9 sN sO sB hlN hlO hN1 hbr hln hb46
   try dsimp only
   go_wp2_with fail
   generalize((((m50 wr w r.aw r.nw r.cw k.c ba bn bc:World).setCell ⟨w.heap.size+1,6,none⟩ (m30 (r.tick+1))).setCell ⟨w.heap.size+1,7,none⟩ (m63 na nn nc)).setCell ⟨w.heap.size+1,8,none⟩ (m63 oa on_ oc))=W9 at HF HBF G9⊢
   have g9:=G9.out
   obtain⟨e0,e1,e2,e3,e4,e5,e6,e7,e8⟩:=kc9 g9
   clear g9
   refine bodyPost_ret (v:=.agg (m10 r.aw r.nw r.cw k.c ba bn bc (r.tick+1) na nn nc oa on_ oc)) ?_ rfl ⟨⟨r.aw,r.nw,r.cw,ba,bn,bc,r.tick+1,na,nn,nc,oa,on_,oc⟩,ls,lo,rfl,HF.out,HOF.out,HBF.out⟩
   simp[results,Tryz.results9,go_sem,e0,e1,e2,e3,e4,e5,e6,e7,e8]
  have hjl:j<ns.length:=by omega
  obtain⟨⟨rn,osn,nd⟩,hp⟩:∃p,ns[j]=p:=⟨_,rfl⟩
  have hmem:=hp▸List.getElem_mem hjl
  have hkj:k.n[j]?=some nd:=by rw[HW.out.kn,List.getElem?_map,List.getElem?_eq_getElem hjl,hp];rfl
  have HST:=zH (HD.out.st j nd hkj)
  have HKJ:=zH hkj
  obtain⟨nb,no,hna,hnlt,hnc⟩:=HW.out.n.cells hjl hp
  have HNA:=zH (And.intro hna (And.intro hnlt hnc))
  have HND:=zH (HW.out.n.nd _ hmem)
  have HNX:Hid (∀b,Old.bad b->gU rn osn b):=zH (fun b e=>(HX.out b e).2.2.2.1.2 _ hmem)
  have hG6:w5.heap.size<=G6:=hg6
  have HR:=zH hR
  have hold:∀(Y:Nat) (o:Obj),Y<w5.heap.size->w6.heap[Y]?=some o->wr.heap[Y]?=some o:=fun Y o h1 h2=>(HR.out.kp.block Y (gS h2) (by omega)).trans h2
  have HOLD:=zH hold
  have hw5:w.heap.size<=w5.heap.size:=D5.out.size
  have HBR:Hid (Below w.heap.size w wr):=zH (D6_.out.trans (HR.out.kp.below D6_.out.size (fun j e=>by rw[e];omega)))
  have HMR:Hid (oZ wr w3.heap.size r k al Bw B6 B5 ra ca cn cc cl):=zH (HM.out.below (B:=w5.heap.size) (D56.out.trans (HR.out.kp.below D56.out.size (fun j e=>by rw[e];omega))) nr)
  have hbm6:=HOLD.out Bm _ lm HBM6.out
  obtain⟨m0,m1,m2,m3,m4,m5,m6,m7,m8,m9,m10,m11,m12,m13,m14,m15⟩:=kc16 hbm6
  clear hbm6
  clear hR hkj hold hna hnlt hnc hmem hp
  try dsimp only
  go_wp2_with fail
  refine(aLk r ns os k al w3.heap.size Bw B6 B5 ra ca cn cc cl j wr (HW.out.below HBR.out nr) HMR.out (by omega) (HD.out.to2 j) (fun q=>by rw[HMR.out.cl];exact HD.out.to1 j q)).mono ?_
  rintro e w7 ⟨t,oa2,on2,oc2,ol,rfl,ht,hof,hol,hb7⟩
  have hal8:Below w7.heap.size w7 (w7.alloc (m49 t)):=(Below.refl _ _).alloc nr _
  have hb8:(w7.alloc (m49 t)).heap[w7.heap.size]?=some (.cells (m01 t) 38 (0,0)):=heap_alloc_new w7 _
  have D8:=zH (bS hb7 hal8)
  have HT8:=zH (And.intro (ht.keep hal8) (And.intro (hof.keep hal8) hol))
  clear m0 m1 m2 m3 m4 m5 m6 m7 m8 m9 m10 m11 m12 m13 m14 m15 ht hof hol hb7
  try dsimp only
  go_wp2_with fail
  generalize hB8:w7.heap.size=B8 at hal8 hb8⊢
  generalize w7.alloc (m49 t)=w8 at hal8 hb8 D8 HT8⊢
  clear hB8 hal8
  have HR8:=zH (HR.out.keep D8.out)
  have HBW8:Hid (Below w.heap.size w w8):=zH (HBR.out.trans (D8.out.mono HBR.out.size))
  have hbw8:=cG D8.out (gS (HOLD.out w.heap.size _ (Nat.lt_of_succ_lt l5) HBW6.out)) (HOLD.out w.heap.size _ (Nat.lt_of_succ_lt l5) HBW6.out)
  have HC8:=zH (And.intro hbw8 hb8)
  clear hbw8 hb8
  have hFB:∀b,(FB G6 (w.heap.size+1) (m63 na nn nc) (m63 oa on_ oc)) b->gU rn osn b:=by
   rintro b (e|e|e|e|e)
   ·exact HND.out.away (by omega)
   ·exact HND.out.away (by omega)
   ·exact HND.out.away (by have:=(HR.out.ownN.lt b e).1;have:=D6_.out.size;omega)
   ·exact HND.out.away (by have:=(HR.out.ownO.lt b e).1;have:=D6_.out.size;omega)
   ·exact HNX.out b e
  have HFB:=zH hFB
  clear hFB
  refine aEf (M:=w.heap.size) (M4:=w.heap.size+1) (M5:=Bm) (G6:=G6) (B8:=B8) (nb:=nb) (no:=no) (j:=j) (r:=r) (k:=k) (F:=(FB G6 (w.heap.size+1) (m63 na nn nc) (m63 oa on_ oc))) (rn:=rn) (os:=osn) (nd:=nd) (t:=t) (inn:=(Tp.eY k (al.map toAc) j).1) (oa:=oa2) (on_:=on2) (oc:=oc2) (ol:=ol) ⟨fun _ _ d _ _ h=>by cases d<;>exact h,zH ⟨HW.out.conf.below HBW8.out nr,HND.out.below HBW8.out nr,HT8.out.1,HT8.out.2.1,HD.out.may,HST.out.1,HST.out.2.1,HST.out.2.2.1,by rw[HT8.out.2.2];exact HST.out.2.2.2,HR8.out.lt,HFB.out⟩,hjn,fun W hb=>by
   have e:=bK hb HC8.out.1
   have e8:=bK hb HC8.out.2
   have hbW:Below w.heap.size w W:=HBW8.out.trans (hb.mono HBW8.out.size)
   have hq:∀q,q<12->W.cell? (m09 nb (no+j*12+q))=(aT rn)[q]?:=fun q hq=>(World.cell?_of_block (a:=⟨nb,_,none⟩) (hbW.block nb HNA.out.2.1)).trans (HNA.out.2.2 q hq)
   exact⟨⟨cA e 0,cA e 1,cA e 2,cA e 3,cA e 4⟩,HNA.out.1▸cA e 7,⟨hq 0 (by omega),hq 1 (by omega),hq 2 (by omega),hq 3 (by omega),hq 4 (by omega),hq 5 (by omega),hq 6 (by omega),hq 7 (by omega),hq 8 (by omega),hq 9 (by omega),hq 10 (by omega),hq 11 (by omega)⟩,cA e8 0,cA e8 1⟩,?_⟩ DnR.start
  intro g s W hR9
  have hgg:=hR9.aa g rfl
  have hss:=hR9.st s rfl
  have T:=cM [.int .i64 s.r.no,.int .i64 s.r.tick,.slice s.r.v.ab s.r.v.nb s.r.v.cb,.slice s.r.v.av s.r.v.nv s.r.v.cv,.slice s.r.inn.ab s.r.inn.nb s.r.inn.cb,.slice s.r.inn.av s.r.inn.nv s.r.inn.cv,.slice s.r.oa s.r.on s.r.oc,.int .u64 s.r.p,.int .u64 s.r.q,.int .i64 s.r.sl,.int .i64 s.r.rev,.bool s.r.full] 0 _ _ hgg.1 (by show(12:Nat)<=12;omega)
  have HR9:=zH (show DoR w6 G6 (w.heap.size+1) r k (al.map toAc) ba bn bc j na nn nc ls oa on_ oc lo (m16 W g s.r.no s.r.tick s.r.v s.r.inn s.r.oa s.r.on s.r.oc s.r.p s.r.q s.r.sl s.r.rev s.r.full)from(HR8.out.keep hR9.bel).keep0 T hgg.2 HR8.out.lt (fun p hp=>(HR8.out.nd p hp).1.away hgg.2) (fun p hp=>(HR8.out.of p hp).1.away hgg.2) HR8.out.kp.size)
  have HS9:Hid (SrR (FB G6 (w.heap.size+1) (m63 na nn nc) (m63 oa on_ oc)) (m16 W g s.r.no s.r.tick s.r.v s.r.inn s.r.oa s.r.on s.r.oc s.r.p s.r.q s.r.sl s.r.rev s.r.full) (Tp.eX k (al.map toAc) j nd) s):=zH (by
   have h2:=hss.store T
   rw[HT8.out.2.2]at h2
   exact h2)
  have HG9:Hid ((m16 W g s.r.no s.r.tick s.r.v s.r.inn s.r.oa s.r.on s.r.oc s.r.p s.r.q s.r.sl s.r.rev s.r.full:World).heap[g]?=some (.cells (aT s.r).toArray 44 (0,0))):=zH T.new
  have hgl:w8.heap.size<=g:=hgg.2
  clear hR9 hgg hss T
  generalize(m16 W g s.r.no s.r.tick s.r.v s.r.inn s.r.oa s.r.on s.r.oc s.r.p s.r.q s.r.sl s.r.rev s.r.full:World)=W9 at HR9 HS9 HG9⊢
  try dsimp only
  go_wp2_with fail
  obtain⟨i0,hi0,hz0,hz1,hz2⟩:=info_parts rF
  obtain⟨i1,hi1,hy0,hy1,hy2⟩:=info_parts lK
  refine cN [(1,fun W=>W.cell? (m36 G6)=some (.slice na nn nc)),(2,fun W=>W.cell? (m00 g)=some (.int .i64 s.r.no)/\W.cell? (m15 g)=some (.int .i64 s.r.tick)/\W.cell? (m25 g)=some (m41 s.r.v:Value)/\W.cell? (m33 g)=some (m42 s.r.v:Value)/\W.cell? (m35 g)=some (m41 s.r.inn:Value)/\W.cell? (m65 g)=some (m42 s.r.inn:Value)/\W.cell? (m39 g)=some (.slice s.r.oa s.r.on s.r.oc)/\W.cell? (m36 g)=some (.int .u64 s.r.p)/\W.cell? (m60 g)=some (.int .u64 s.r.q)/\W.cell? ⟨g,9,none⟩=some (.int .i64 s.r.sl)/\W.cell? ⟨g,10,none⟩=some (.int .i64 s.r.rev)/\W.cell? ⟨g,11,none⟩=some (.bool s.r.full)),(6,fun W=>W.cell? (m60 G6)=some (.slice oa on_ oc))] (by kernel_rfl) ?_
  show aB _ _ _ _ _ _ _ _ W9.drew
  have hd10:=(Below.refl W9.heap.size W9).drew
  have HR10:=zH (HR9.out.keep hd10)
  have HS10:=zH (HS9.out.keep hd10)
  have HG10:=zH (bK hd10 HG9.out)
  clear hd10
  generalize W9.drew=w10 at HR10 HS10 HG10⊢
  have HQ:Hid (∀W:World,W.heap[G6]?=w10.heap[G6]?->W.heap[g]?=w10.heap[g]?->(W.cell? (m36 G6)=some (.slice na nn nc))/\(W.cell? (m00 g)=some (.int .i64 s.r.no)/\W.cell? (m15 g)=some (.int .i64 s.r.tick)/\W.cell? (m25 g)=some (m41 s.r.v:Value)/\W.cell? (m33 g)=some (m42 s.r.v:Value)/\W.cell? (m35 g)=some (m41 s.r.inn:Value)/\W.cell? (m65 g)=some (m42 s.r.inn:Value)/\W.cell? (m39 g)=some (.slice s.r.oa s.r.on s.r.oc)/\W.cell? (m36 g)=some (.int .u64 s.r.p)/\W.cell? (m60 g)=some (.int .u64 s.r.q)/\W.cell? ⟨g,9,none⟩=some (.int .i64 s.r.sl)/\W.cell? ⟨g,10,none⟩=some (.int .i64 s.r.rev)/\W.cell? ⟨g,11,none⟩=some (.bool s.r.full))/\(W.cell? (m60 G6)=some (.slice oa on_ oc))):=zH (fun W e1 e2=>by
   have h1:=e1.trans HR10.out.box
   have h2:=e2.trans HG10.out
   exact⟨cA h1 7,⟨cA h2 0,cA h2 1,cA h2 2,cA h2 3,cA h2 4,cA h2 5,cA h2 6,cA h2 7,cA h2 8,cA h2 9,cA h2 10,cA h2 11⟩,cA h1 8⟩)
  have hq:=HQ.out w10 rfl rfl
  have hls:ls.length<=50:=by
   have h1:=congrArg List.length HR10.out.eqN
   rw[List.length_map,List.length_take]at h1
   omega
  have hlo:lo.length<=900000:=by
   have h1:=congrArg List.length HR10.out.eqO
   rw[List.length_map]at h1
   rw[h1]
   exact HD.out.out j
  have htn:s.tn<=1000000:=HS10.out.told.bd
  have hg10:g<w10.heap.size:=(gS HG10.out)
  have hG10:G6<w10.heap.size:=(gS HR10.out.box)
  have hgG:g≠G6:=by have:=HR8.out.lt G6 (.inl rfl);omega
  have hgN:∀b,(Value.slice na nn nc).ownBlock=some b->g≠b:=fun b e=>by have:=HR8.out.lt b (.inr (.inr (.inl e)));omega
  have hgO:∀b,(Value.slice oa on_ oc).ownBlock=some b->g≠b:=fun b e=>by have:=HR8.out.lt b (.inr (.inr (.inr (.inl e))));omega
  refine wX 0 rfl ?_
  refine wY 0 1 rfl rfl (hq.1) ?_
  refine wY 1 2 rfl rfl (hq.2.1) ?_
  refine wX 5 rfl ?_
  refine wY 2 6 rfl rfl (hq.2.2) ?_
  refine wX 7 rfl ?_
  refine cK 3 (by kernel_rfl) rfl (fun K hK=>?_)
  go_simp
  have hal11:Below w10.heap.size w10 (w10.alloc (.cells (m03 s.r.no s.r.tick s.r.v s.r.inn s.r.oa s.r.on s.r.oc s.r.p s.r.q s.r.sl s.r.rev s.r.full) 44)):=(Below.refl _ _).alloc nr _
  have hn11:(w10.alloc (.cells (m03 s.r.no s.r.tick s.r.v s.r.inn s.r.oa s.r.on s.r.oc s.r.p s.r.q s.r.sl s.r.rev s.r.full) 44)).heap[w10.heap.size]?=some (.cells (aT s.r).toArray 44 (0,0)):=heap_alloc_new w10 _
  have hs11:w10.heap.size<(w10.alloc (.cells (m03 s.r.no s.r.tick s.r.v s.r.inn s.r.oa s.r.on s.r.oc s.r.p s.r.q s.r.sl s.r.rev s.r.full) 44)).heap.size:=by simp
  generalize w10.alloc (.cells (m03 s.r.no s.r.tick s.r.v s.r.inn s.r.oa s.r.on s.r.oc s.r.p s.r.q s.r.sl s.r.rev s.r.full) 44)=w11 at hal11 hn11 hs11⊢
  have HR11:=zH (HR10.out.keep hal11)
  have HS11:=zH (HS10.out.keep hal11)
  have hq11:=HQ.out w11 (hal11.block _ hG10) (hal11.block _ hg10)
  refine hK.out _ _ ?_ ?_
  ·exact(hl3 hq11)
  clear hK K;try simp only[Act.put,pA,pB,pC]
  refine cK 4 (by kernel_rfl) rfl (fun K hK=>?_)
  rw[if_pos (by rfl)]
  refine dN (f:=aT) (k:=12) (.tmp 66) (.tmp 68) 29 (by rfl) w6.heap.size 44 i0 (.agg (m20)) 176 Tryz.underlying29 hi0 hz0 hz1 hz2 rfl (by decide) cS qW _ (ls.map NE.r) [s.r] (some (m07 w10:Addr)) 1 1 (by rfl) HR11.out.ownN (by rfl) (SlV.one cS hs11 hn11 (by omega)) (fun e=>by cases e) (by rw[List.length_map];unfold maxLen;omega) (by rw[List.length_map];omega) HR11.out.kp.size ?_
  intro vN w12 hN gN aN
  obtain⟨GN,kN,hGN⟩:=dV gN
  have b6N:w12.heap[G6]?=w10.heap[G6]?:=(kN.block G6 (Nat.lt_of_lt_of_le hG10 hal11.size) (fun e=>hGN.elim (fun e2=>by have:=(HR11.out.ownN.lt _ e2).1;have:=HR11.out.g6.1;omega) (fun e2=>by omega))).trans (hal11.block _ hG10)
  have bgN:w12.heap[g]?=w10.heap[g]?:=(kN.block g (Nat.lt_of_lt_of_le hg10 hal11.size) (fun e=>hGN.elim (fun e2=>hgN GN e2 e) (fun e2=>by omega))).trans (hal11.block _ hg10)
  have hq12:=HQ.out w12 b6N bgN
  refine hK.out _ _ ?_ ?_
  ·exact⟨.inr (by kernel_rfl),.inl hq12.2.1,.inl hq12.2.2,trivial⟩
  clear hK K;try simp only[Act.put,pA,pB,pC]
  refine wX 9 rfl ?_
  refine cK 8 (by kernel_rfl) rfl (fun K hK=>?_)
  rw[if_pos (by rfl)]
  have hnoN:(Value.slice oa on_ oc).ownBlock≠some GN:=fun e=>hGN.elim (fun e2=>HR11.out.ne GN e2 e) (fun e2=>by have:=(HR11.out.ownO.lt GN e).2;omega)
  have htoff:dM s.ta s.tn s.ts GN:=hGN.elim (fun e2=>(HS11.out.off GN (.inr (.inr (.inl e2)))).2) (fun e2=>HS11.out.told.away (by omega))
  have htl:=HS11.out.told.keepS kN htoff
  refine dN (f:=offC) (k:=9) (.tmp 71) (.tmp 72) 30 (by rfl) w6.heap.size 112 i1 (.agg (m24)) 104 Tryz.underlying30 hi1 hy0 hy1 hy2 rfl (by decide) dW lI _ (lo.map Prod.fst) (s.ts.map Prod.fst) s.ta s.tn s.tc (by rfl) (HR11.out.ownO.keepS kN hnoN) (by rfl) htl.sl htl.nil (by rw[List.length_map];unfold maxLen;omega) (by rw[List.length_map];omega) (Nat.le_trans HR11.out.kp.size kN.size) ?_
  intro vO w13 hO gO aO
  obtain⟨GO,kO,hGO⟩:=dV gO
  have b6O:w13.heap[G6]?=w10.heap[G6]?:=(kO.block G6 (Nat.lt_of_lt_of_le (Nat.lt_of_lt_of_le hG10 hal11.size) kN.size) (fun e=>hGO.elim (fun e2=>by have:=(HR11.out.ownO.lt _ e2).1;have:=HR11.out.g6.1;omega) (fun e2=>by have:=kN.size;have:=hal11.size;omega))).trans b6N
  have bgO:w13.heap[g]?=w10.heap[g]?:=(kO.block g (Nat.lt_of_lt_of_le (Nat.lt_of_lt_of_le hg10 hal11.size) kN.size) (fun e=>hGO.elim (fun e2=>hgO GO e2 e) (fun e2=>by have:=kN.size;have:=hal11.size;omega))).trans bgN
  have hq13:=HQ.out w13 b6O bgO
  obtain⟨na',nn',nc',oa',on',oc',rfl,rfl,hbx,hDD⟩:=HR10.out.push HS10.out hal11 hN gN aN hO gO aO (aHd k _ j nd HKJ.out) (aHc k _ j nd HKJ.out)
  have HDD:=zH hDD
  have z7:w13.cell? (m36 G6)=some (.slice na nn nc):=cA hbx 7
  have z8:w13.cell? (m60 G6)=some (.slice oa on_ oc):=cA hbx 8
  have f7:=cH hbx 7;have f8:=cH hbx 8
  clear hDD hbx
  refine hK.out _ _ ?_ ?_
  ·exact⟨.inl hq13.1,.inl hq13.2.1,.inr (by kernel_rfl),trivial⟩
  clear hK K;try simp only[Act.put,pA,pB,pC]
  refine cK 10 (by kernel_rfl) rfl (fun K hK=>?_)
  go_simp
  refine hK.out _ _ ?_ ?_
  ·exact⟨.inr (by kernel_rfl),.inr (by kernel_rfl),.inr (by kernel_rfl),trivial⟩
  clear hK K;try simp only[Act.put,pA,pB,pC]
  refine wX 11 rfl ?_
  refine cK 12 (by kernel_rfl) rfl (fun K hK=>?_)
  go_simp
  refine hK.out _ _ ?_ ?_
  ·exact⟨.inr (by kernel_rfl),.inr (by kernel_rfl),.inr (by kernel_rfl),trivial⟩
  clear hK K;try simp only[Act.put,pA,pB,pC]
  refine cO (by kernel_rfl) ?_ _
  try dsimp only
  go_wp2_with fail
  exact⟨⟨j+1,na',nn',nc',_,oa',on',oc',_,by omega,by go_num,HDD.out⟩,by simp[intOf];omega⟩
theorem aKt {W:World}{g:Nat}{cur:Array Value}{t:TypeId}(h:W.heap[g]?=some (.cells cur t (0,0)))(i:Nat):W.cell? (m09 g i)=cur[i]?:=by simp[World.cell?,h]
theorem aJl (aw:Option Addr)(nw cw:Nat)(ba:Option Addr)(bn bc:Nat)(tick:Int)(na:Option Addr)(nn nc:Nat)(k:Tp.Wd)(w:World)(hW:WdR w ⟨aw,nw,cw,ba,bn,bc,tick,na,nn,nc,none,0,0⟩ [newE 0] [] k):
  Calls Tryz.prog 26 #[.agg #[.slice aw nw cw,.int .u64 k.c.sd,.int .i64 k.c.ep,.int .i64 k.c.nu,.int .i64 k.c.de,.slice ba bn bc,.int .i64 tick,.slice na nn nc,.slice none 0 0]] w fun e w'=>∃r',e=.returned (.agg (aR r' k.c).toArray)/\WdR w' r' [newE 0] [] k/\(∀b,b<w.heap.size->fR aw nw b->lS r' [newE 0] [] b)/\Below w.heap.size w w':=by
 have hal:Below w.heap.size w ((w.alloc (.cells #[.slice aw nw cw,.int .u64 k.c.sd,.int .i64 k.c.ep,.int .i64 k.c.nu,.int .i64 k.c.de,.slice ba bn bc,.int .i64 tick,.slice na nn nc,.slice none 0 0] 32)).alloc (.cells (m21) 32)):=cR _ _
 have hb0:((w.alloc (.cells #[.slice aw nw cw,.int .u64 k.c.sd,.int .i64 k.c.ep,.int .i64 k.c.nu,.int .i64 k.c.de,.slice ba bn bc,.int .i64 tick,.slice na nn nc,.slice none 0 0] 32)).alloc (.cells (m21) 32)).heap[w.heap.size]?=some (.cells #[.slice aw nw cw,.int .u64 k.c.sd,.int .i64 k.c.ep,.int .i64 k.c.nu,.int .i64 k.c.de,.slice ba bn bc,.int .i64 tick,.slice na nn nc,.slice none 0 0] 32 (0,0)):=by rw[cF,if_neg (by simp),cF,if_pos rfl]
 have hb1:((w.alloc (.cells #[.slice aw nw cw,.int .u64 k.c.sd,.int .i64 k.c.ep,.int .i64 k.c.nu,.int .i64 k.c.de,.slice ba bn bc,.int .i64 tick,.slice na nn nc,.slice none 0 0] 32)).alloc (.cells (m21) 32)).heap[w.heap.size+1]?=some (.cells (m21) 32 (0,0)):=by rw[cF,if_pos (by simp)]
 have HC0:=zH hW.conf
 have HW:=zH (hW.keep hal.drew)
 clear hW
 go_enter Tryz.func26,Tryz.ntmps26
 go_wp2_with fail
 generalize((w.alloc (.cells #[.slice aw nw cw,.int .u64 k.c.sd,.int .i64 k.c.ep,.int .i64 k.c.nu,.int .i64 k.c.de,.slice ba bn bc,.int .i64 tick,.slice na nn nc,.slice none 0 0] 32)).alloc (.cells (m21) 32))=w2 at hal hb0 hb1 HW⊢
 refine cN [(1,fun W=>W.cell? (m61 w)=some (.slice ba bn bc)),(4,fun W=>W.cell? (m51 w)=some (.slice na nn nc)),(7,fun W=>W.cell? (m62 w)=some (m48:Value))] (by kernel_rfl) ?_
 show aB _ _ _ _ _ _ _ _ w2.drew
 have D3:=zH hal.drew
 have hd:=(Below.refl w2.heap.size w2).drew
 have HB3:=zH (And.intro (bK hd hb0) (bK hd hb1))
 clear hal hb0 hb1 hd
 generalize w2.drew=w3 at D3 HB3 HW⊢
 have HQ:Hid (∀W:World,Below w3.heap.size w3 W->(W.cell? (m61 w)=some (.slice ba bn bc))/\(W.cell? (m51 w)=some (.slice na nn nc))/\(W.cell? (m62 w)=some (m48:Value))):=zH (fun W hb=>by
  have e:=bK hb HB3.out.1
  exact⟨cA e 5,cA e 7,cA e 8⟩)
 have hq:=HQ.out w3 (Below.refl _ _)
 refine wX 0 rfl ?_
 refine wY 0 1 rfl rfl (hq.1) ?_
 refine wX 3 rfl ?_
 refine wY 1 4 rfl rfl (hq.2.1) ?_
 refine wX 6 rfl ?_
 refine wY 2 7 rfl rfl (hq.2.2) ?_
 refine cK 2 (by kernel_rfl) rfl (fun K hK=>?_)
 go_simp
 refine(eZ ba bn bc k.bad w3 HW.out.bad HW.out.badm HW.out.bad0).mono ?_
 rintro e w4 ⟨v,rfl,ov,hb4⟩
 obtain⟨b1,c1,rfl,hs1,h01⟩:=OwnL.sl0 (f:=intC) (k:=1) (fun _=>rfl) ov
 have hq4:=HQ.out w4 hb4
 have B4:=zH hb4
 have OB:=zH (And.intro ov h01)
 clear ov h01 hs1 hb4
 refine hK.out _ _ ?_ ?_
 ·exact(hl3 hq4)
 clear hK K;try simp only[Act.put,pA,pB,pC]
 refine wX 9 rfl ?_
 refine cK 5 (by kernel_rfl) rfl (fun K hK=>?_)
 go_simp
 refine(rU na nn nc [(newE 0).r] w4 (HW.out.n.sl.keep B4.out) HW.out.n.bd HW.out.n.nil).mono ?_
 rintro e w5 ⟨v,rfl,on_,hb5⟩
 obtain⟨n1,nc1,hv1,hs1,h01⟩:=OwnL.sl0 cS on_
 have hv2:v=.slice n1 1 nc1:=hv1
 subst hv2
 have hq5:=HQ.out w5 (bS B4.out hb5)
 have B5:=zH (bS B4.out hb5)
 have OB5:=zH (OB.out.1.keep hb5)
 have ON:=zH on_
 clear hv1 hs1 h01 on_ hb5
 refine hK.out _ _ ?_ ?_
 ·exact(hl3 hq5)
 clear hK K;try simp only[Act.put,pA,pB,pC]
 refine cK 8 (by kernel_rfl) rfl (fun K hK=>?_)
 go_simp
 refine(nL w5).mono ?_
 rintro e w6 ⟨rfl,rfl⟩
 refine hK.out _ _ ?_ ?_
 ·exact(hl3 hq5)
 clear hK K;try simp only[Act.put,pA,pB,pC]
 refine cK 10 (by kernel_rfl) rfl (fun K hK=>?_)
 have g5:=bK B5.out HB3.out.1
 have c5:w5.cell? (m61 w)=some (.slice ba bn bc):=cA g5 5
 have f5:=cH g5 5
 go_simp
 refine hK.out _ _ ?_ ?_
 ·exact⟨.inr (by kernel_rfl),.inr (by kernel_rfl),.inr (by kernel_rfl),trivial⟩
 clear hK K;try simp only[Act.put,pA,pB,pC]
 refine wX 11 rfl ?_
 refine cK 12 (by kernel_rfl) rfl (fun K hK=>?_)
 have T6:=cM [.slice b1 k.bad.length c1] 5 _ _ g5 (by show(6:Nat)<=9;omega)
 have g6:(w5.setCell (m61 w) (m63 b1 k.bad.length c1)).heap[w.heap.size]?=some (.cells #[.slice aw nw cw,.int .u64 k.c.sd,.int .i64 k.c.ep,.int .i64 k.c.nu,.int .i64 k.c.de,.slice b1 k.bad.length c1,.int .i64 tick,.slice na nn nc,.slice none 0 0] 32 (0,0)):=T6.new
 have K6:aC (· =w.heap.size) w5 (w5.setCell (m61 w) (m63 b1 k.bad.length c1)):=cL T6 rfl
 clear g5 c5 f5 T6
 generalize w5.setCell (m61 w) (m63 b1 k.bad.length c1)=w6 at g6 K6⊢
 have c7:w6.cell? (m51 w)=some (.slice na nn nc):=cA g6 7
 have f7:=cH g6 7
 go_simp
 refine hK.out _ _ ?_ ?_
 ·exact⟨.inr (by kernel_rfl),.inr (by kernel_rfl),.inr (by kernel_rfl),trivial⟩
 clear hK K;try simp only[Act.put,pA,pB,pC]
 refine wX 13 rfl ?_
 refine cK 14 (by kernel_rfl) rfl (fun K hK=>?_)
 have T7:=cM [.slice n1 1 nc1] 7 _ _ g6 (by show(8:Nat)<=9;omega)
 have g7:(w6.setCell (m51 w) (.slice n1 1 nc1)).heap[w.heap.size]?=some (.cells #[.slice aw nw cw,.int .u64 k.c.sd,.int .i64 k.c.ep,.int .i64 k.c.nu,.int .i64 k.c.de,.slice b1 k.bad.length c1,.int .i64 tick,.slice n1 1 nc1,.slice none 0 0] 32 (0,0)):=T7.new
 have K7:aC (· =w.heap.size) w5 (w6.setCell (m51 w) (.slice n1 1 nc1)):=K6.trans (cL T7 rfl)
 clear g6 c7 f7 T7 K6
 generalize w6.setCell (m51 w) (.slice n1 1 nc1)=w7 at g7 K7⊢
 have c8:w7.cell? (m62 w)=some (m48:Value):=cA g7 8
 have f8:=cH g7 8
 go_simp
 rw[fY c8]
 refine hK.out _ _ ?_ ?_
 ·exact⟨.inr (by kernel_rfl),.inr (by kernel_rfl),.inr (by kernel_rfl),trivial⟩
 clear hK K;try simp only[Act.put,pA,pB,pC]
 refine cO (by kernel_rfl) ?_ _
 try dsimp only
 clear hq4 hq5 hq c8 f8
 have s3:w.heap.size+1<w3.heap.size:=(gS HB3.out.2)
 have s5:=B5.out.size
 have s4:=B4.out.size
 have OB7:=zH (OB5.out.keepS K7 (fun e=>by have:=(OB5.out.lt _ e).1;omega))
 have ON7:=zH (ON.out.keepS K7 (fun e=>by have:=(ON.out.lt _ e).1;omega))
 have h17:=(K7.block (w.heap.size+1) (by omega) (by omega)).trans (bK B5.out HB3.out.2)
 have D7:=zH ((D3.out.trans (B5.out.mono D3.out.size)).trans (K7.below (by omega) (fun j e=>by rw[e];exact Nat.le_refl _)))
 have HH7:=zH (And.intro g7 h17)
 clear K7 g7 h17
 obtain⟨g,cur,rfl,HG⟩:∃g cur,n1=some (m00 g:Addr)/\Hid (w7.heap[g]?=some (.cells cur 44 (0,0))/\∀i,i<12->cur[i]?=(aT (newE 0).r)[i]?):=by
  rcases ON7.out.2 with⟨_,h0⟩|⟨g,cap,cur,hv,_,hg,_,_,hs,ht⟩
  ·cases h0
  ·simp only[Value.slice.injEq]at hv
   refine⟨g,cur,hv.1,zH ⟨hg,fun i hi=>?_⟩⟩
   have h2:(cur.toList.take 12)[i]?=([(newE 0).r].flatMap aT)[i]?:=congrArg (fun l:List Value=>l[i]?) ht
   rw[List.getElem?_take_of_lt hi,Array.getElem?_toList]at h2
   exact h2
 have HC:Hid (∀W:World,W.heap[g]?=some (.cells cur 44 (0,0))->∀i,i<12->W.cell? (m09 g i)=(aT (newE 0).r)[i]?):=zH (fun W h i hi=>(aKt h i).trans (HG.out.2 i hi))
 have sg:g<w7.heap.size:=(gS HG.out.1)
 have s7:w.heap.size+1<w7.heap.size:=(gS HH7.out.2)
 have x7:w7.cell? (m51 w)=some (.slice (some (m00 g)) 1 nc1):=cA HH7.out.1 7
 go_wp2_with fail
 clear x7
 go_loopw [20] (fun i_ wr=>∃j:Nat,j<=1/\i_=.int .i64 j/\Below w7.heap.size w7 wr) (fun i_ _=>1-(intOf i_).toNat)
 case atStart=>exact⟨0,by omega,rfl,Below.refl _ _⟩
 case round=>
  obtain⟨j,hj,rfl,hb⟩:=hrel
  have HB:=zH hb
  have hk0:=cG hb (by omega) HH7.out.1
  by_cases hj1:j<1
  case neg=>
   obtain rfl:j=1:=by omega
   have hk1:=cG hb s7 HH7.out.2
   obtain⟨e0,e1,e2,e3,e4,e5,e6,e7,e8⟩:=kc9 hk0
   obtain⟨z0,z1,z2,z3,z4,z5,z6,z7,z8⟩:=kc9 hk1
   obtain⟨f0,f1,f2,f3,f4,f5,f6,f7,f8⟩:=kf9 hk1
   have T:=cM [.slice aw nw cw,.int .u64 k.c.sd,.int .i64 k.c.ep,.int .i64 k.c.nu,.int .i64 k.c.de,.slice b1 k.bad.length c1,.int .i64 tick,.slice (some (m00 g)) 1 nc1,.slice none 0 0] 0 _ _ hk1 (by show(9:Nat)<=9;omega)
   have g9:((((m50 wr w aw nw cw k.c b1 k.bad.length c1:World).setCell ⟨w.heap.size+1,6,none⟩ (m30 tick)).setCell ⟨w.heap.size+1,7,none⟩ (.slice (some (m00 g)) 1 nc1)).setCell ⟨w.heap.size+1,8,none⟩ (m48)).heap[w.heap.size+1]?=some (.cells #[.slice aw nw cw,.int .u64 k.c.sd,.int .i64 k.c.ep,.int .i64 k.c.nu,.int .i64 k.c.de,.slice b1 k.bad.length c1,.int .i64 tick,.slice (some (m00 g)) 1 nc1,.slice none 0 0] 32 (0,0)):=T.new
   have kT:=cL (S:=(· =w.heap.size+1)) T rfl
   have hbf:Below w.heap.size w ((((m50 wr w aw nw cw k.c b1 k.bad.length c1:World).setCell ⟨w.heap.size+1,6,none⟩ (m30 tick)).setCell ⟨w.heap.size+1,7,none⟩ (.slice (some (m00 g)) 1 nc1)).setCell ⟨w.heap.size+1,8,none⟩ (m48)):=(bS D7.out hb).trans (T.below (by omega))
   have HF:Hid (WdR ((((m50 wr w aw nw cw k.c b1 k.bad.length c1:World).setCell ⟨w.heap.size+1,6,none⟩ (m30 tick)).setCell ⟨w.heap.size+1,7,none⟩ (.slice (some (m00 g)) 1 nc1)).setCell ⟨w.heap.size+1,8,none⟩ (m48)) ⟨aw,nw,cw,b1,k.bad.length,c1,tick,some (m00 g:Addr),1,nc1,none,0,0⟩ [newE 0] [] k):=zH ⟨HC0.out.keep hbf,(cP (f:=intC) (k:=1) (fun _=>rfl) ((OB7.out.keep hb).turnNe T (fun e=>by have:=(OB7.out.lt _ e).1;omega))).1,OB.out.2,(by show k.bad.length<=1000000;have h1:=HW.out.bad.len;have h2:=HW.out.badm;simp only at h1 h2;omega),⟨(cP cS ((ON7.out.keep hb).turnNe T (fun e=>by have:=(ON7.out.lt _ e).1;omega))).1,fun e=>(by cases e),fun p hp=>(by rw[List.mem_singleton.1 hp];exact aDc 0 _),(by show(1:Nat)<=1000000;omega)⟩,HW.out.kn,dD.none _,HW.out.ko,HW.out.tick⟩
   have HBF:=zH hbf
   have HOF:Hid (∀b,b<w.heap.size->fR aw nw b->lS ⟨aw,nw,cw,b1,k.bad.length,c1,tick,some (m00 g:Addr),1,nc1,none,0,0⟩ [newE 0] [] b):=zH (fun b hb1 ha=>by
    refine⟨ha,.inr fun b' o e2=>?_,⟨.inr fun b' o e2=>?_,fun p hp=>?_⟩,⟨.inl rfl,fun p hp=>(by cases hp)⟩⟩
    ·have e3:b1=some ⟨b',o,none⟩:=e2
     have:=(OB7.out.lt b' (by rw[e3];rfl)).1;omega
    ·have:=(ON7.out.lt g rfl).1
     injection e2 with e2;injection e2 with e3 e4 e5
     omega
    ·rw[List.mem_singleton.1 hp]
     exact⟨⟨.inl rfl,.inl rfl⟩,⟨.inl rfl,.inl rfl⟩,⟨.inl rfl,fun p hp=>(by cases hp)⟩⟩)
   have G9:=zH g9
   clear hb hbf hk0 hk1 T g9 kT
   go_wp2_with fail
   generalize((((m50 wr w aw nw cw k.c b1 k.bad.length c1:World).setCell ⟨w.heap.size+1,6,none⟩ (m30 tick)).setCell ⟨w.heap.size+1,7,none⟩ (.slice (some (m00 g)) 1 nc1)).setCell ⟨w.heap.size+1,8,none⟩ (m48))=W9 at HF HBF G9⊢
   have g9:=G9.out
   obtain⟨r0,r1,r2,r3,r4,r5,r6,r7,r8⟩:=kc9 g9
   refine bodyPost_ret (v:=.agg #[.slice aw nw cw,.int .u64 k.c.sd,.int .i64 k.c.ep,.int .i64 k.c.nu,.int .i64 k.c.de,.slice b1 k.bad.length c1,.int .i64 tick,.slice (some (m00 g)) 1 nc1,.slice none 0 0]) ?_ rfl ⟨⟨aw,nw,cw,b1,k.bad.length,c1,tick,some (m00 g:Addr),1,nc1,none,0,0⟩,rfl,HF.out,HOF.out,HBF.out⟩
   simp[results,Tryz.results26,go_sem,r0,r1,r2,r3,r4,r5,r6,r7,r8]
  obtain rfl:j=0:=by omega
  have x7:wr.cell? (m51 w)=some (.slice (some (m00 g)) 1 nc1):=cA hk0 7
  go_wp2_with fail
  refine cN [(6,fun W=>W.cell? (m25 g)=some (m48:Value)/\W.cell? (m33 g)=some (m48:Value)),(11,fun W=>W.cell? (m35 g)=some (m48:Value)/\W.cell? (m65 g)=some (m48:Value)),(16,fun W=>W.cell? (m39 g)=some (m48:Value))] (by kernel_rfl) ?_
  show aB _ _ _ _ _ _ _ _ wr.drew
  have G9:=zH (cG (Below.refl wr.heap.size wr).drew (by have:=hb.size;omega) (cG hb sg HG.out.1))
  have D9:=zH hb.drew
  clear hb hk0 x7
  generalize wr.drew=w9 at G9 D9⊢
  have HQ2:Hid (∀W:World,Below w9.heap.size w9 W->(W.cell? (m25 g)=some (m48:Value)/\W.cell? (m33 g)=some (m48:Value))/\(W.cell? (m35 g)=some (m48:Value)/\W.cell? (m65 g)=some (m48:Value))/\(W.cell? (m39 g)=some (m48:Value))):=zH (fun W hb=>by
   have e:=HC.out W (bK hb G9.out)
   exact⟨⟨e 2 (by omega),e 3 (by omega)⟩,⟨e 4 (by omega),e 5 (by omega)⟩,e 6 (by omega)⟩)
  have hqq:=HQ2.out w9 (Below.refl _ _)
  refine wX 0 rfl ?_
  refine wX 1 rfl ?_
  refine wX 2 rfl ?_
  refine wX 3 rfl ?_
  refine wX 4 rfl ?_
  refine wX 5 rfl ?_
  refine wY 0 6 rfl rfl (hqq.1) ?_
  refine wX 8 rfl ?_
  refine wX 9 rfl ?_
  refine wX 10 rfl ?_
  refine wY 1 11 rfl rfl (hqq.2.1) ?_
  refine wX 13 rfl ?_
  refine wX 14 rfl ?_
  refine wX 15 rfl ?_
  refine wY 2 16 rfl rfl (hqq.2.2) ?_
  refine cK 7 (by kernel_rfl) rfl (fun K hK=>?_)
  go_simp
  refine(oK w9).mono ?_
  rintro e w10 ⟨rfl,hb10⟩
  have hq10:=HQ2.out w10 hb10
  have B10:=zH hb10
  clear hb10
  refine hK.out _ _ ?_ ?_
  ·exact(hl3 hq10)
  clear hK K;try simp only[Act.put,pA,pB,pC]
  refine cK 12 (by kernel_rfl) rfl (fun K hK=>?_)
  go_simp
  refine(oK w10).mono ?_
  rintro e w11 ⟨rfl,hb11⟩
  have hq11:=HQ2.out w11 (bS B10.out hb11)
  have B11:=zH (bS B10.out hb11)
  clear hb11
  refine hK.out _ _ ?_ ?_
  ·exact(hl3 hq11)
  clear hK K;try simp only[Act.put,pA,pB,pC]
  refine cK 17 (by kernel_rfl) rfl (fun K hK=>?_)
  go_simp
  refine(nL w11).mono ?_
  rintro e w12 ⟨rfl,rfl⟩
  have G11:=bK B11.out G9.out
  refine hK.out _ _ ?_ ?_
  ·exact(hl3 hq11)
  clear hK K;try simp only[Act.put,pA,pB,pC]
  refine wX 18 rfl ?_
  refine wX 19 rfl ?_
  refine cK 20 (by kernel_rfl) rfl (fun K hK=>?_)
  have f2:=cH G11 2;have f3:=cH G11 3;have y2:w11.cell? (m25 g)=some (m48:Value):=HC.out w11 G11 2 (by omega);have y3:w11.cell? (m33 g)=some (m48:Value):=HC.out w11 G11 3 (by omega)
  go_simp
  rw[fY y2,fY y3]
  refine hK.out _ _ ?_ ?_
  ·exact⟨.inr (by kernel_rfl),.inr (by kernel_rfl),.inr (by kernel_rfl),trivial⟩
  clear hK K;try simp only[Act.put,pA,pB,pC]
  refine wX 21 rfl ?_
  refine wX 22 rfl ?_
  refine cK 23 (by kernel_rfl) rfl (fun K hK=>?_)
  have f4:=cH G11 4;have f5:=cH G11 5;have y4:w11.cell? (m35 g)=some (m48:Value):=HC.out w11 G11 4 (by omega);have y5:w11.cell? (m65 g)=some (m48:Value):=HC.out w11 G11 5 (by omega)
  go_simp
  rw[fY y4,fY y5]
  refine hK.out _ _ ?_ ?_
  ·exact⟨.inr (by kernel_rfl),.inr (by kernel_rfl),.inr (by kernel_rfl),trivial⟩
  clear hK K;try simp only[Act.put,pA,pB,pC]
  refine wX 24 rfl ?_
  refine wX 25 rfl ?_
  refine cK 26 (by kernel_rfl) rfl (fun K hK=>?_)
  have f6:=cH G11 6;have y6:w11.cell? (m39 g)=some (m48:Value):=HC.out w11 G11 6 (by omega)
  go_simp
  rw[fY y6]
  refine hK.out _ _ ?_ ?_
  ·exact⟨.inr (by kernel_rfl),.inr (by kernel_rfl),.inr (by kernel_rfl),trivial⟩
  clear hK K;try simp only[Act.put,pA,pB,pC]
  refine cO (by kernel_rfl) ?_ _
  try dsimp only
  go_wp2_with fail
  exact⟨⟨1,by omega,rfl,bS D9.out B11.out⟩,by simp[intOf]⟩
theorem yM (w:World):iK w none 0 0 []:=⟨SlV.nil _,fun p hp=>(by cases hp),by omega,fun p hp=>(by cases hp)⟩
structure RunR (C:Tp.Cf) (f:Nat->Tp.Wd) (w:World) (j:Nat) (r:RW) (ns:List NE) (os:List (RO×Tp.Vw)) (wr:World):Prop where
 wd:WdR wr r ns os (f j)
 o0:lS r ns os (w.heap.size)
 o1:lS r ns os (w.heap.size+1)
 b0:wr.heap[w.heap.size]?=some (.cells (m10 r.aw r.nw r.cw C r.ba r.bn r.bc r.tick r.na r.nn r.nc r.oa r.on r.oc) 32 (0,0))
 b1:wr.heap[w.heap.size+1]?=some (.cells (m21) 32 (0,0))
 bel:Below w.heap.size w wr
theorem RunR.of {C:Tp.Cf}{f:Nat->Tp.Wd}{w w7:World}{j:Nat}{r:RW}{ns:List NE}{os:List (RO×Tp.Vw)}(h:WdR w7 r ns os (f j))(o0:lS r ns os (w.heap.size))(o1:lS r ns os (w.heap.size+1))(h1:w7.heap[w.heap.size+1]?=some (.cells (m21) 32 (0,0)))(hb:Below w.heap.size w w7)(T:cT w.heap.size (.cells (m10 r.aw r.nw r.cw C r.ba r.bn r.bc r.tick r.na r.nn r.nc r.oa r.on r.oc) 32 (0,0)) w7 (((((((((w7.setCell (m07 w) (m63 r.aw r.nw r.cw)).setCell (m14 w) (m68 C.sd)).setCell (m17 w) (m30 C.ep)).setCell (m19 w) (m30 C.nu)).setCell (m27 w) (m30 C.de)).setCell (m61 w) (m63 r.ba r.bn r.bc)).setCell ⟨w.heap.size,6,none⟩ (m30 r.tick)).setCell (m51 w) (m63 r.na r.nn r.nc)).setCell (m62 w) (m63 r.oa r.on r.oc))):RunR C f w j r ns os (((((((((w7.setCell (m07 w) (m63 r.aw r.nw r.cw)).setCell (m14 w) (m68 C.sd)).setCell (m17 w) (m30 C.ep)).setCell (m19 w) (m30 C.nu)).setCell (m27 w) (m30 C.de)).setCell (m61 w) (m63 r.ba r.bn r.bc)).setCell ⟨w.heap.size,6,none⟩ (m30 r.tick)).setCell (m51 w) (m63 r.na r.nn r.nc)).setCell (m62 w) (m63 r.oa r.on r.oc)):=
 ⟨h.keepS (cL T rfl) o0,o0,o1,T.new,(T.block _ (by omega)).trans h1,hb.trans (T.below nr)⟩
theorem aCe (C:Tp.Cf)(f:Nat->Tp.Wd)(aw:Option Addr)(nw cw:Nat)(ba:Option Addr)(bn bc:Nat)(tick:Int)(na:Option Addr)(nn nc:Nat)(w:World)(hW:WdR w ⟨aw,nw,cw,ba,bn,bc,tick,na,nn,nc,none,0,0⟩ [newE 0] [] (f 0))(hf:∀j,f (j+1)=Tp.doW (f j) [])(hd:∀j,j<3->DoIn (f j) [])(hc:∀j,(f j).c=C):
  Calls Tryz.prog 16 #[.agg #[.slice aw nw cw,.int .u64 C.sd,.int .i64 C.ep,.int .i64 C.nu,.int .i64 C.de,.slice ba bn bc,.int .i64 tick,.slice na nn nc,.slice none 0 0],.slice none 0 0,.int .i64 3] w fun e w'=>∃r' ns' os',e=.returned (.agg (aR r' C).toArray)/\WdR w' r' ns' os' (f 3)/\Below w.heap.size w w':=by
 have hal:Below w.heap.size w ((w.alloc (.cells #[.slice aw nw cw,.int .u64 C.sd,.int .i64 C.ep,.int .i64 C.nu,.int .i64 C.de,.slice ba bn bc,.int .i64 tick,.slice na nn nc,.slice none 0 0] 32)).alloc (.cells (m21) 32)):=cR _ _
 have hb0:((w.alloc (.cells #[.slice aw nw cw,.int .u64 C.sd,.int .i64 C.ep,.int .i64 C.nu,.int .i64 C.de,.slice ba bn bc,.int .i64 tick,.slice na nn nc,.slice none 0 0] 32)).alloc (.cells (m21) 32)).heap[w.heap.size]?=some (.cells #[.slice aw nw cw,.int .u64 C.sd,.int .i64 C.ep,.int .i64 C.nu,.int .i64 C.de,.slice ba bn bc,.int .i64 tick,.slice na nn nc,.slice none 0 0] 32 (0,0)):=by rw[cF,if_neg (by simp),cF,if_pos rfl]
 have hb1:((w.alloc (.cells #[.slice aw nw cw,.int .u64 C.sd,.int .i64 C.ep,.int .i64 C.nu,.int .i64 C.de,.slice ba bn bc,.int .i64 tick,.slice na nn nc,.slice none 0 0] 32)).alloc (.cells (m21) 32)).heap[w.heap.size+1]?=some (.cells (m21) 32 (0,0)):=by rw[cF,if_pos (by simp)]
 have HW:=zH (hW.keep hal)
 have HA:=zH (And.intro (hW.conf.away (X:=w.heap.size) nr) (hW.conf.away (X:=w.heap.size+1) (Nat.le_succ _)))
 have HF:=zH hf
 have HD:=zH hd
 have HCC:=zH hc
 clear hW hf hd hc
 go_enter Tryz.func16,Tryz.ntmps16
 go_wp2_with fail
 generalize((w.alloc (.cells #[.slice aw nw cw,.int .u64 C.sd,.int .i64 C.ep,.int .i64 C.nu,.int .i64 C.de,.slice ba bn bc,.int .i64 tick,.slice na nn nc,.slice none 0 0] 32)).alloc (.cells (m21) 32))=w2 at hal hb0 hb1 HW⊢
 have s1:w.heap.size+1<w2.heap.size:=(gS hb1)
 have D2:=zH hal
 have HB:=zH (And.intro hb0 hb1)
 obtain⟨c0,c1,c2,c3,c4,c5,c6,c7,c8⟩:=kc9 hb0
 clear hal hb0 hb1
 go_wp2_with fail
 have ho:=aJl aw nw cw ba bn bc tick na nn nc (f 0) w2 HW.out
 rw[HCC.out 0]at ho
 refine ho.mono ?_
 clear ho
 rintro e w3 ⟨r1,rfl,hW3,hO3,hb3⟩
 simp only[aR]
 clear c0 c1 c2 c3 c4 c5 c6 c7 c8
 have g0:=cG hb3 (by omega) HB.out.1
 have g1:=cG hb3 s1 HB.out.2
 obtain⟨d0,d1,d2,d3,d4,d5,d6,d7,d8⟩:=kc9 g0
 obtain⟨f0,f1,f2,f3,f4,f5,f6,f7,f8⟩:=kf9 g0
 have T:=cM [.slice r1.aw r1.nw r1.cw,.int .u64 C.sd,.int .i64 C.ep,.int .i64 C.nu,.int .i64 C.de,.slice r1.ba r1.bn r1.bc,.int .i64 r1.tick,.slice r1.na r1.nn r1.nc,.slice r1.oa r1.on r1.oc] 0 _ _ g0 (by show(9:Nat)<=9;omega)
 have HR:Hid (RunR C f w 0 r1 [newE 0] [] (((((((((w3.setCell (m07 w) (m63 r1.aw r1.nw r1.cw)).setCell (m14 w) (m68 C.sd)).setCell (m17 w) (m30 C.ep)).setCell (m19 w) (m30 C.nu)).setCell (m27 w) (m30 C.de)).setCell (m61 w) (m63 r1.ba r1.bn r1.bc)).setCell ⟨w.heap.size,6,none⟩ (m30 r1.tick)).setCell (m51 w) (m63 r1.na r1.nn r1.nc)).setCell (m62 w) (m63 r1.oa r1.on r1.oc))):=zH (RunR.of hW3 (hO3 _ (by omega) HA.out.1) (hO3 _ s1 HA.out.2) g1 (bS D2.out hb3) T)
 clear hW3 hO3 hb3 g0 g1 T
 have hmin:min (3:Int) 300=3:=by decide
 try dsimp only
 go_wp2_with fail
 clear d0 d1 d2 d3 d4 d5 d6 d7 d8 f0 f1 f2 f3 f4 f5 f6 f7 f8
 generalize(((((((((w3.setCell (m07 w) (m63 r1.aw r1.nw r1.cw)).setCell (m14 w) (m68 C.sd)).setCell (m17 w) (m30 C.ep)).setCell (m19 w) (m30 C.nu)).setCell (m27 w) (m30 C.de)).setCell (m61 w) (m63 r1.ba r1.bn r1.bc)).setCell ⟨w.heap.size,6,none⟩ (m30 r1.tick)).setCell (m51 w) (m63 r1.na r1.nn r1.nc)).setCell (m62 w) (m63 r1.oa r1.on r1.oc))=w4 at HR⊢
 go_loopw [11] (fun i_ wr=>∃(j:Nat) (r:RW) (ns:List NE) (os:List (RO×Tp.Vw)),j<=3/\i_=.int .i64 j/\RunR C f w j r ns os wr) (fun i_ _=>3-(intOf i_).toNat)
 case atStart=>exact⟨0,_,_,_,by omega,rfl,HR.out⟩
 case round=>
  clear HR
  obtain⟨j,r,ns,os,hj,rfl,hR⟩:=hrel
  by_cases hj3:j<3
  case neg=>
   obtain rfl:j=3:=by omega
   have g0:=hR.b0
   have g1:=hR.b1
   obtain⟨d0,d1,d2,d3,d4,d5,d6,d7,d8⟩:=kc9 g0
   obtain⟨z0,z1,z2,z3,z4,z5,z6,z7,z8⟩:=kc9 g1
   obtain⟨f0,f1,f2,f3,f4,f5,f6,f7,f8⟩:=kf9 g1
   have T:=cM [.slice r.aw r.nw r.cw,.int .u64 C.sd,.int .i64 C.ep,.int .i64 C.nu,.int .i64 C.de,.slice r.ba r.bn r.bc,.int .i64 r.tick,.slice r.na r.nn r.nc,.slice r.oa r.on r.oc] 0 _ _ g1 (by show(9:Nat)<=9;omega)
   have HW9:Hid (WdR ((((m50 wr w r.aw r.nw r.cw C r.ba r.bn r.bc:World).setCell ⟨w.heap.size+1,6,none⟩ (m30 r.tick)).setCell ⟨w.heap.size+1,7,none⟩ (m63 r.na r.nn r.nc)).setCell ⟨w.heap.size+1,8,none⟩ (m63 r.oa r.on r.oc)) r ns os (f 3)):=zH (hR.wd.keepS (cL T rfl) hR.o1)
   have HB9:Hid (Below w.heap.size w ((((m50 wr w r.aw r.nw r.cw C r.ba r.bn r.bc:World).setCell ⟨w.heap.size+1,6,none⟩ (m30 r.tick)).setCell ⟨w.heap.size+1,7,none⟩ (m63 r.na r.nn r.nc)).setCell ⟨w.heap.size+1,8,none⟩ (m63 r.oa r.on r.oc))):=zH (hR.bel.trans (T.below (by omega)))
   have G9:Hid (((((m50 wr w r.aw r.nw r.cw C r.ba r.bn r.bc:World).setCell ⟨w.heap.size+1,6,none⟩ (m30 r.tick)).setCell ⟨w.heap.size+1,7,none⟩ (m63 r.na r.nn r.nc)).setCell ⟨w.heap.size+1,8,none⟩ (m63 r.oa r.on r.oc)).heap[w.heap.size+1]?=some (.cells (m10 r.aw r.nw r.cw C r.ba r.bn r.bc r.tick r.na r.nn r.nc r.oa r.on r.oc) 32 (0,0))):=zH T.new
   clear hR g0 g1 T
   go_wp2_with fail
   clear d0 d1 d2 d3 d4 d5 d6 d7 d8 z0 z1 z2 z3 z4 z5 z6 z7 z8 f0 f1 f2 f3 f4 f5 f6 f7 f8
   generalize((((m50 wr w r.aw r.nw r.cw C r.ba r.bn r.bc:World).setCell ⟨w.heap.size+1,6,none⟩ (m30 r.tick)).setCell ⟨w.heap.size+1,7,none⟩ (m63 r.na r.nn r.nc)).setCell ⟨w.heap.size+1,8,none⟩ (m63 r.oa r.on r.oc))=W9 at HW9 HB9 G9⊢
   have g9:=G9.out
   obtain⟨y0,y1,y2,y3,y4,y5,y6,y7,y8⟩:=kc9 g9
   refine bodyPost_ret (v:=.agg (m10 r.aw r.nw r.cw C r.ba r.bn r.bc r.tick r.na r.nn r.nc r.oa r.on r.oc)) ?_ rfl ⟨r,ns,os,rfl,HW9.out,HB9.out⟩
   simp[results,Tryz.results16,go_sem,y0,y1,y2,y3,y4,y5,y6,y7,y8]
  have HR:=zH hR
  have g0:=hR.b0
  have sr:w.heap.size+1<wr.heap.size:=(gS hR.b1)
  obtain⟨c0,c1,c2,c3,c4,c5,c6,c7,c8⟩:=kc9 g0
  clear hR g0
  have j1:(j:Int)<3:=by omega
  go_wp2_with fail
  have ho:=@tY ⟨fun b=>b=w.heap.size\/b=w.heap.size+1⟩ r ns os (f j) none 0 0 [] wr HR.out.wd (yM _) (HD.out j hj3) (by
   rintro b (rfl|rfl)
   ·exact⟨by omega,HR.out.o0⟩
   ·exact⟨sr,HR.out.o1⟩)
  rw[HCC.out j]at ho
  simp only[aR]at ho
  refine ho.mono ?_
  clear ho
  rintro e w7 ⟨r7,ns7,os7,rfl,hW7,hO7,hb7⟩
  have hW8:WdR w7 r7 ns7 os7 (f (j+1)):=by rw[HF.out j];exact hW7
  clear c0 c1 c2 c3 c4 c5 c6 c7 c8
  have g0:=cG hb7 (by omega) HR.out.b0
  have g1:=cG hb7 sr HR.out.b1
  obtain⟨d0,d1,d2,d3,d4,d5,d6,d7,d8⟩:=kc9 g0
  obtain⟨f0,f1,f2,f3,f4,f5,f6,f7,f8⟩:=kf9 g0
  have T:=cM [.slice r7.aw r7.nw r7.cw,.int .u64 C.sd,.int .i64 C.ep,.int .i64 C.nu,.int .i64 C.de,.slice r7.ba r7.bn r7.bc,.int .i64 r7.tick,.slice r7.na r7.nn r7.nc,.slice r7.oa r7.on r7.oc] 0 _ _ g0 (by show(9:Nat)<=9;omega)
  have HR7:Hid (RunR C f w (j+1) r7 ns7 os7 (((((((((w7.setCell (m07 w) (m63 r7.aw r7.nw r7.cw)).setCell (m14 w) (m68 C.sd)).setCell (m17 w) (m30 C.ep)).setCell (m19 w) (m30 C.nu)).setCell (m27 w) (m30 C.de)).setCell (m61 w) (m63 r7.ba r7.bn r7.bc)).setCell ⟨w.heap.size,6,none⟩ (m30 r7.tick)).setCell (m51 w) (m63 r7.na r7.nn r7.nc)).setCell (m62 w) (m63 r7.oa r7.on r7.oc))):=zH (RunR.of hW8 (hO7 _ (.inl rfl)) (hO7 _ (.inr rfl)) g1 (bS HR.out.bel hb7) T)
  clear hW7 hW8 hO7 hb7 g0 g1 T
  try dsimp only
  go_wp2_with fail
  exact⟨⟨j+1,_,_,_,by omega,by go_num,HR7.out⟩,by simp[intOf];omega⟩
end Go.Proofs.YtbbhinehcncmeaaGreat
