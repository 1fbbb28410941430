/- A part of the proof of the laws of the top: TpNodeJ, TpNodeK, TpWorld0. No condition. -/
import Derived.Test.YtbbhinehcncmeaaGreatG26
import Derived.Test.YtbbhinehcncmeaaGreatG27
namespace Go.Proofs.YtbbhinehcncmeaaGreat
open Go.RowKit
set_option linter.unusedSimpArgs false
set_option linter.unusedVariables false
set_option linter.unusedSectionVars false
set_option maxRecDepth 100000
set_option maxHeartbeats 4000000
section
section
variable {P:Program}{ops:Array Oper}{Q:Exit->Act->World->Prop}{md:Region.Mode}{SL:List (Nat×(World->Prop))}
theorem wI0 (i:Nat){oi:Oper}{v:Value}{fuel:Nat}{listed:Array Bool}{a:Act}{w:World}(hi:ops[i]?=some oi)(hv:∀w,True->(execOp a.eval oi).run P w=.ok (.value v) w)(h:aB P md ops Q SL fuel (listed.setIfInBounds i true) (a.put oi.dst v) w)(hw:Region.wanted oi (yielded ops a.tmps)=true:=by rfl)(hs:Region.noSelect ops=true:=by kernel_rfl)(hf:Region.free md ops listed i=true:=by kernel_rfl)(hr:(Region.ready md ops listed).contains i=true:=by kernel_rfl)(hQ:∀c a w,Q (.panic c) (a.put oi.dst v) w->Q (.panic c) a w:=by exact fun _ _ _ h=>h):aB P md ops Q SL (fuel+1) listed a w:=
 bH i hi hs hf hr hQ (.inl ⟨hw,hv⟩) h
theorem wIL (k i:Nat){oi:Oper}{v:Value}{S:World->Prop}{fuel:Nat}{listed:Array Bool}{a:Act}{w:World}(hm:SL[k]?=some (i,S))(hi:ops[i]?=some oi)(hv:∀w,S w->(execOp a.eval oi).run P w=.ok (.value v) w)(hS:S w)(h:aB P md ops Q SL fuel (listed.setIfInBounds i true) (a.put oi.dst v) w)(hw:Region.wanted oi (yielded ops a.tmps)=true:=by rfl)(hs:Region.noSelect ops=true:=by kernel_rfl)(hf:Region.free md ops listed i=true:=by kernel_rfl)(hr:(Region.ready md ops listed).contains i=true:=by kernel_rfl)(hQ:∀c a w,Q (.panic c) (a.put oi.dst v) w->Q (.panic c) a w:=by exact fun _ _ _ h=>h):aB P md ops Q SL (fuel+1) listed a w:=
 aZ i (List.mem_of_getElem? hm) hi hs hf hr hQ (.inl ⟨hw,hv⟩) hS h
end
attribute [local irreducible] Tp.take Tp.fF Tp.countL Tp.join in
theorem Tp.iA (C:Tp.Cf)(k:Tp.Nw)(o:Tp.Off)(r:List Tp.Off):Tp.cX C k (o::r)=Tp.cX C (Tp.lH (Tp.fF C k (Tp.join o.v (Tp.lone o.b))) (Tp.join k.n.inn (Tp.countL C k (Tp.join o.v (Tp.lone o.b))))) r:=rfl
attribute [local irreducible] Tp.take Tp.fF Tp.countL Tp.join in
theorem Tp.sT (C:Tp.Cf)(k:Tp.Nw):Tp.cX C k []=k:=rfl
theorem Tp.aJo {w:World}{g:Nat}{v:Tp.V}{e:TypeId}(hg:g<w.heap.size)(hb:w.heap[g]?=some (.cells (aH v).toArray e (0,0))):VwR w ⟨none,0,0,some ⟨g,0,none⟩,1,1⟩ (Tp.oneV v):=
 ⟨⟨SlV.nil w,SlV.one cW hg hb (by omega),fun y hy=>(by cases hy),Nat.zero_le _,(by show(1:Nat)<=1000000;omega)⟩,fun _=>⟨rfl,rfl⟩,fun e=>(by cases e)⟩
variable [Forb]
structure SecR (X:Nat) (aw:Option Addr) (nw cw:Nat) (C:Tp.Cf) (w:World) (r0:RN) (os:List (RO×Tp.Vw)) (tot:Tp.Nw) (j:Nat) (r:RN) (ta:Option Addr) (tn tc:Nat) (ts:List (RO×Tp.Vw)) (k:Tp.Nw) (wr:World):Prop where
 wk:NW wr X aw nw cw C r os ta tn tc ts k
 oa:r.oa=r0.oa/\r.on=r0.on/\r.oc=r0.oc
 kp:aC (· =X) w wr
 tot:tot=Tp.cX C k ((os.map aS).drop j)
 bd:k.n.inn.b.length<=100000+j*20000/\k.n.inn.v.length<=100000+j*20000
theorem zG (X:Nat)(aw:Option Addr)(nw cw:Nat)(C:Tp.Cf)(k:Tp.Nw)(w:World)(hh:NWe w X aw nw cw C k)(hsl:0<=k.slot/\k.slot<=1000000)(hlen:k.n.o.length<=8)(hin:k.n.inn.b.length<=100000/\k.n.inn.v.length<=100000)(hob:∀o∈k.n.o,o.v.b.length<=10000/\o.v.v.length<=10000):
  Calls Tryz.prog 67 (m46 X) w fun e w'=>e=.returned (.tuple #[])/\NWe w' X aw nw cw C (Tp.second C k)/\aC (· =X) w w':=by
 obtain⟨fin,hfin⟩:∃t,Tp.second C k=t:=⟨_,rfl⟩
 rw[hfin]
 have HFIN:=zH hfin
 clear hfin
 obtain⟨tot,htot⟩:∃t,Tp.cX C k k.n.o=t:=⟨_,rfl⟩
 have HTOT:=zH htot
 clear htot
 obtain⟨r,os,ta,tn,tc,ts,h⟩:=hh
 have hX:=h.lt
 have hn:os.length=r.on:=h.nd.o.len
 have hl8:os.length<=8:=by rw[h.nd.ko,List.length_map]at hlen;exact hlen
 obtain⟨oa,hoa⟩:∃z,r.oa=z:=⟨_,rfl⟩
 have x6:w.cell? (m39 X)=some (.slice oa r.on r.oc):=hoa▸cA h.box 6
 have HW:=zH h
 have HOB:=zH (show ∀p∈os,p.2.b.length<=10000/\p.2.v.length<=10000 from fun p hp=>hob (aS p) (by rw[h.nd.ko];exact List.mem_map_of_mem hp))
 have HSL:=zH hsl
 clear h hob hsl
 go_enter Tryz.func67,Tryz.ntmps67
 go_wp2_with fail
 go_loopw [11] (fun i wr=>∃(j:Nat) (r1:RN) (ta1:Option Addr) (tn1 tc1:Nat) (ts1:List (RO×Tp.Vw)) (kj:Tp.Nw),j<=r.on/\i=.int .i64 j/\SecR X aw nw cw C w r os tot j r1 ta1 tn1 tc1 ts1 kj wr/\kj.slot=k.slot/\kj.n.no=k.n.no) (fun i _=>r.on-(intOf i).toNat)
 case atStart=>exact⟨0,_,_,_,_,_,_,Nat.zero_le _,rfl,⟨HW.out,⟨rfl,rfl,rfl⟩,aC.refl _ _,by rw[<-HTOT.out,HW.out.nd.ko];rfl,by omega⟩,rfl,rfl⟩
 case round=>
  clear x6
  obtain⟨j,r1,ta1,tn1,tc1,ts1,kj,hj,rfl,hR,hks⟩:=hrel
  by_cases hjn:j<r.on
  case neg=>
   obtain rfl:j=r.on:=by omega
   have HZ:Hid (Tp.iB C k=Tp.setO kj []):=zH (by unfold Tp.iB;rw[HTOT.out,hR.tot,List.drop_of_length_le (by rw[List.length_map,hn];exact Nat.le_refl _)];exact congrArg (fun z=>Tp.setO z []) (Tp.sT C kj))
   obtain⟨h3,K3⟩:=hR.wk.storeO
   have f6:=cH hR.wk.box 6
   have y6:wr.cell? (m39 X)=some (.slice r1.oa r1.on r1.oc):=cA hR.wk.box 6
   have K3:=zH (hR.kp.trans K3)
   have HBD:=zH hR.bd
   have HKS:=zH hks
   have H3:=zH h3
   clear h3 hR
   go_wp2_with fail
   generalize wr.setCell (m39 X) (m48)=w3 at H3 K3⊢
   obtain⟨k1,hk1⟩:∃z,Tp.setO kj []=z:=⟨_,rfl⟩
   have hs1:0<=k1.slot/\k1.slot<=1000000:=by rw[<-hk1];show 0<=kj.slot/\kj.slot<=1000000;rw[hks.1];exact HSL.out
   have HBI:Hid (k1.n.inn.b.length<=900000/\k1.n.inn.v.length<=900000):=zH (by rw[<-hk1];have:=HBD.out;show kj.n.inn.b.length<=_/\kj.n.inn.v.length<=_;omega)
   have HC1:Hid (k1.slot=k.slot/\k1.n.no=k.n.no):=zH (by rw[<-hk1];exact hks)
   rw[hk1]at H3 HZ
   clear hk1 hks f6 y6
   generalize({ r1 with oa:=none,on:=0,oc:=0 }:RN)=r3 at H3
   obtain⟨inn,hinn⟩:∃z,Tp.inC C.W C.sd C.ep C.nu C.de k1.slot k1.n.no=z:=⟨_,rfl⟩
   have HIN:=zH hinn
   have HFE:Hid (fin=if inn=true then Tp.lH k1 (Tp.join k1.n.inn (Tp.oneV (Tp.tI C k1)))else k1):=zH (by
    rw[<-HFIN.out]
    unfold Tp.second
    rw[<-HC1.out.1,<-HC1.out.2,HIN.out,HZ.out])
   clear hinn
   have hno:r3.no=k1.n.no:=H3.out.nd.no
   have bx:=H3.out.box
   have x0:w3.cell? (m00 X)=some (.int .i64 k1.n.no):=hno▸cA bx 0
   have x12:w3.cell? (m59 X)=some (.slice aw nw cw):=cA bx 12
   have x13:w3.cell? ⟨X,13,none⟩=some (.int .u64 C.sd):=cA bx 13
   have x14:w3.cell? ⟨X,14,none⟩=some (.int .i64 C.ep):=cA bx 14
   have x15:w3.cell? ⟨X,15,none⟩=some (.int .i64 C.nu):=cA bx 15
   have x16:w3.cell? ⟨X,16,none⟩=some (.int .i64 C.de):=cA bx 16
   have x17:w3.cell? (m47 X)=some (.int .i64 k1.slot):=cA bx 17
   clear bx hno
   go_region_held3 (fun W=>W.cell? (m00 X)=some (.int .i64 k1.n.no)/\W.cell? (m59 X)=some (.slice aw nw cw)/\W.cell? ⟨X,13,none⟩=some (.int .u64 C.sd)/\W.cell? ⟨X,14,none⟩=some (.int .i64 C.ep)/\W.cell? ⟨X,15,none⟩=some (.int .i64 C.nu)/\W.cell? ⟨X,16,none⟩=some (.int .i64 C.de)/\W.cell? (m47 X)=some (.int .i64 k1.slot)) (first|exact⟨x0,x12,x13,x14,x15,x16,x17⟩|exact hx5)
    (first
     |(go_at_call 99;refine(aIg aw nw cw C.W C.sd C.ep C.nu C.de k1.slot k1.n.no _ H3.out.conf.len H3.out.conf.max H3.out.conf.seed (H3.out.conf.ints.keep (Below.refl _ w3).drew)).mono ?_;rintro e w4 ⟨rfl,hb1⟩;rw[show Tp.inC C.W C.sd C.ep C.nu C.de k1.slot k1.n.no=inn from HIN.out];have hb1b:=bS ((Below.refl w3.heap.size w3).drew) hb1;have bx1:=cG hb1b H3.out.lt H3.out.box;have hx5:=(⟨H3.out.nd.no▸cA bx1 0,cA bx1 12,cA bx1 13,cA bx1 14,cA bx1 15,cA bx1 16,cA bx1 17⟩:w4.cell? (m00 X)=some (.int .i64 k1.n.no)/\w4.cell? (m59 X)=some (.slice aw nw cw)/\w4.cell? ⟨X,13,none⟩=some (.int .u64 C.sd)/\w4.cell? ⟨X,14,none⟩=some (.int .i64 C.ep)/\w4.cell? ⟨X,15,none⟩=some (.int .i64 C.nu)/\w4.cell? ⟨X,16,none⟩=some (.int .i64 C.de)/\w4.cell? (m47 X)=some (.int .i64 k1.slot))))
   have H4:=zH (H3.out.keep hb1b)
   have K4:=zH (K3.out.thenB (hb1b.mono K3.out.size))
   clear x0 x12 x13 x14 x15 x16 x17 hx5 hb1 hb1b bx1
   cases inn
   case false=>
    have HF:=zH (show fin=k1 from HFE.out)
    go_wp2_with fail
    exact bodyPost_end (v:=.tuple #[]) (results_none rfl _ _ _) rfl ⟨rfl,⟨_,_,_,_,_,_,HF.out▸H4.out⟩,K4.out⟩
   have HF:=zH (show fin=Tp.lH k1 (Tp.join k1.n.inn (Tp.oneV (Tp.tI C k1)))from HFE.out)
   go_wp2_with fail
   refine aBt _ (fun _ _ d _ _ h=>by cases d<;>exact h) X aw nw cw C k1 _ _ _ _ _ _ _ _ _ _ _ _ _ _ _ _ _ _ _ _ _ _ _ _ _ _ _ _ _ _ _ _ _ _ _ _ _ _ _ _ _ _ _ _ _ _ _ _ w4 (zH ⟨_,_,_,_,_,_,H4.out⟩) hs1 ?_ ?_ StR.start
   ·intro W hb
    have hbx:=cG hb H4.out.lt H4.out.box
    exact⟨H4.out.nd.no▸cA hbx 0,cA hbx 17⟩
   intro g W hR
   have hgs:=(hR.aa g rfl).2
   obtain⟨W5,eW5_⟩:∃z,Hid (z=((((W.setCell (m00 g) (m30 k1.n.no)).setCell (m15 g) (m30 k1.slot)).setCell (m25 g) (.int .u64 (Tp.aL C k1.n.v (k1.slot-1)).1)).setCell (m33 g) (.int .u64 (Tp.aL C k1.n.v (k1.slot-1)).2))):=⟨_,zH rfl⟩
   have T:cT g (.cells #[.int .i64 k1.n.no,.int .i64 k1.slot,.int .u64 (Tp.aL C k1.n.v (k1.slot-1)).1,.int .u64 (Tp.aL C k1.n.v (k1.slot-1)).2] 84 (0,0)) W W5:=by cases eW5_.out;exact cM [.int .i64 k1.n.no,.int .i64 k1.slot,.int .u64 (Tp.aL C k1.n.v (k1.slot-1)).1,.int .u64 (Tp.aL C k1.n.v (k1.slot-1)).2] 0 _ _ (hR.aa g rfl).1 (by show(4:Nat)<=4;omega)
   have hXg:X≠g:=by have:=H4.out.lt;omega
   have H5:=zH ((NW.below H4.out hR.bel).far T hXg (H4.out.nd.away hgs) (H4.out.conf.away hgs) (H4.out.told.away hgs))
   have B5:=zH (hR.bel.trans (T.below hgs))
   have G5:=zH T.new
   clear hR
   rw[<-eW5_.out]
   clear T
   dsimp only
   go_wp2_with fail
   have hd6:=(Below.refl W5.heap.size W5).drew
   have H6:=zH (H5.out.keep hd6)
   have B6:=zH B5.out.drew
   have G6:=zH (bK hd6 G5.out)
   clear hd6
   refine cN [(5,fun W=>W.cell? (m35 X)=some (.slice r3.inn.ab r3.inn.nb r3.inn.cb)/\W.cell? (m65 X)=some (.slice r3.inn.av r3.inn.nv r3.inn.cv)),(6,fun W=>W.cell? (m00 g)=some (.int .i64 k1.n.no)/\W.cell? (m15 g)=some (.int .i64 k1.slot)/\W.cell? (m25 g)=some (.int .u64 (Tp.aL C k1.n.v (k1.slot-1)).1)/\W.cell? (m33 g)=some (.int .u64 (Tp.aL C k1.n.v (k1.slot-1)).2))] (by kernel_rfl) ?_
   show aB _ _ _ _ _ _ _ _ W5.drew
   generalize W5.drew=w6 at H6 B6 G6⊢
   have HQ:Hid (∀W:World,W.heap[X]?=some (.cells (uQ aw nw cw C r3 k1.slot ta1 tn1 tc1).toArray 116 (0,0))->W.heap[g]?=some (.cells #[.int .i64 k1.n.no,.int .i64 k1.slot,.int .u64 (Tp.aL C k1.n.v (k1.slot-1)).1,.int .u64 (Tp.aL C k1.n.v (k1.slot-1)).2] 84 (0,0))->(W.cell? (m35 X)=some (.slice r3.inn.ab r3.inn.nb r3.inn.cb)/\W.cell? (m65 X)=some (.slice r3.inn.av r3.inn.nv r3.inn.cv))/\(W.cell? (m00 g)=some (.int .i64 k1.n.no)/\W.cell? (m15 g)=some (.int .i64 k1.slot)/\W.cell? (m25 g)=some (.int .u64 (Tp.aL C k1.n.v (k1.slot-1)).1)/\W.cell? (m33 g)=some (.int .u64 (Tp.aL C k1.n.v (k1.slot-1)).2))):=zH (fun W e1 e2=>⟨⟨cA e1 4,cA e1 5⟩,⟨cA e2 0,cA e2 1,cA e2 2,cA e2 3⟩⟩)
   have hq:=HQ.out w6 H6.out.box G6.out
   refine wX 0 rfl ?_
   refine wX 1 rfl ?_
   refine wX 2 rfl ?_
   refine wX 3 rfl ?_
   refine wX 4 rfl ?_
   refine wY 0 5 rfl rfl (hq.1) ?_
   refine wY 1 6 rfl rfl (hq.2) ?_
   refine cK 7 (by kernel_rfl) rfl (fun K hK=>?_)
   go_simp
   obtain⟨w7,ew7_⟩:∃z,Hid (z=w6.alloc (.cells #[.int .i64 k1.n.no,.int .i64 k1.slot,.int .u64 (Tp.aL C k1.n.v (k1.slot-1)).1,.int .u64 (Tp.aL C k1.n.v (k1.slot-1)).2] 84)):=⟨_,zH rfl⟩
   have hal7:Below w6.heap.size w6 w7:=by cases ew7_.out;exact(Below.refl _ _).alloc nr _
   have H7:=zH (H6.out.keep hal7)
   have hg7:w7.heap[w6.heap.size]?=some (.cells (aH (Tp.tI C k1)).toArray 84 (0,0)):=by cases ew7_.out;exact heap_alloc_new w6 _
   have hq7:=HQ.out _ H7.out.box (bK hal7 G6.out)
   have hs7:w6.heap.size<w7.heap.size:=by cases ew7_.out;simp
   have HV7:=zH (Tp.aJo hs7 hg7)
   have HB7:=zH hal7
   clear hal7 hg7 hs7
   rw[<-ew7_.out]
   refine hK.out _ _ ?_ ?_
   ·exact(hl2 hq7)
   clear hK K;try simp only[Act.put,pA,pB,pC]
   refine wX 8 rfl ?_
   refine cK 9 (by kernel_rfl) rfl (fun K hK=>?_)
   go_simp
   have hjl:=Tp.mM k1.n.inn (Tp.oneV (Tp.tI C k1))
   refine(dY r3.inn ⟨none,0,0,some ⟨w6.heap.size,0,none⟩,1,1⟩ k1.n.inn (Tp.oneV (Tp.tI C k1)) w7 H7.out.nd.inn HV7.out (Nat.le_trans hjl.1 (by show _+0<=1000000;have:=HBI.out;omega)) (Nat.le_trans hjl.2 (by show _+1<=1000000;have:=HBI.out;omega))).mono ?_
   rintro e w8 ⟨t,rfl,ht,htn,hb8⟩
   have H8:=zH (H7.out.keep hb8)
   have hq8:=HQ.out w8 H8.out.box (cG (bS HB7.out hb8) (gS G6.out) G6.out)
   obtain⟨h9,K9⟩:=H8.out.storeIn ht (H7.out.newOff htn)
   have H9:=zH h9
   have K9:=zH ((cQ (S:=fun j=>j=X) (bS HB7.out hb8)).trans K9)
   have f4:=cH H8.out.box 4;have f5:=cH H8.out.box 5
   clear h9 ht htn hb8 hjl
   refine hK.out _ _ ?_ ?_
   ·exact(hl2 hq8)
   clear hK K;try simp only[Act.put,pA,pB,pC]
   refine wX 10 rfl ?_
   refine wX 11 rfl ?_
   refine wX 12 rfl ?_
   refine cK 13 (by kernel_rfl) rfl (fun K hK=>?_)
   have z4:=hq8.1.1;have z5:=hq8.1.2
   go_simp
   refine hK.out _ _ ?_ ?_
   ·exact⟨.inr (by kernel_rfl),.inr (by kernel_rfl),trivial⟩
   clear hK K;try simp only[Act.put,pA,pB,pC]
   refine cO (by kernel_rfl) ?_ _
   have HKZ:=zH ((K4.out.thenB (B6.out.mono K4.out.size)).trans K9.out)
   go_wp2_with fail
   exact bodyPost_end (v:=.tuple #[]) (results_none rfl _ _ _) rfl ⟨rfl,⟨_,_,_,_,_,_,HF.out▸H9.out⟩,HKZ.out⟩
  have hjl:j<os.length:=by rw[hn];exact hjn
  obtain⟨⟨ro,x⟩,hp⟩:∃p,os[j]=p:=⟨_,rfl⟩
  have hdrop:(os.map aS).drop j=aS (ro,x)::(os.map aS).drop (j+1):=by
   rw[List.drop_eq_getElem_cons (by rw[List.length_map];exact hjl),List.getElem_map,hp]
  have hmem:((ro,x):RO×Tp.Vw)∈os:=hp▸List.getElem_mem hjl
  have hvx:=hR.wk.nd.o.vw _ hmem
  have hU:=hR.wk.nd.o.u _ hmem
  have HOX:=zH (HOB.out _ hmem)
  have HT:Hid (tot=Tp.cX C (Tp.lH (Tp.fF C kj (Tp.join x (Tp.lone ro.b))) (Tp.join kj.n.inn (Tp.countL C kj (Tp.join x (Tp.lone ro.b))))) ((os.map aS).drop (j+1))):=zH (by rw[hR.tot,hdrop,Tp.iA];rfl)
  obtain⟨o0,o1,⟨b0,b1,b2,b3,b4⟩,⟨xb,mb,kb,xv,mv,kv⟩⟩:=ro
  obtain⟨b,o,rfl,hlt,hc⟩:∃b o,oa=some ⟨b,o,none⟩/\b<wr.heap.size/\∀i,i<9->wr.cell? (m09 b (o+j*9+i))=(offC ⟨o0,o1,⟨b0,b1,b2,b3,b4⟩,⟨xb,mb,kb,xv,mv,kv⟩⟩)[i]?:=by
   rcases hR.wk.nd.o.sl.rows with h0|⟨b,o,ho,hlt,hc⟩
   ·rw[List.length_map]at h0;omega
   ·refine⟨b,o,hoa.symm.trans (hR.oa.1.symm.trans ho),hlt,fun i hi=>?_⟩
    have:=hc j (by rw[List.length_map];exact hjl) i hi
    rw[List.getElem_map,hp]at this
    exact this
  have c0:wr.cell? (m09 b (o+j*9))=some (.int .i64 o0):=hc 0 (by omega)
  have c1:wr.cell? (m09 b (o+j*9+1))=some (.int .i64 o1):=hc 1 (by omega)
  have c2:wr.cell? (m09 b (o+j*9+2))=some (.int .i64 b0):=hc 2 (by omega)
  have c3:wr.cell? (m09 b (o+j*9+3))=some (.int .i64 b1):=hc 3 (by omega)
  have c4:wr.cell? (m09 b (o+j*9+4))=some (.int .u64 b2):=hc 4 (by omega)
  have c5:wr.cell? (m09 b (o+j*9+5))=some (.int .u64 b3):=hc 5 (by omega)
  have c6:wr.cell? (m09 b (o+j*9+6))=some (.int .u64 b4):=hc 6 (by omega)
  have c7:wr.cell? (m09 b (o+j*9+7))=some (.slice xb mb kb):=hc 7 (by omega)
  have c8:wr.cell? (m09 b (o+j*9+8))=some (.slice xv mv kv):=hc 8 (by omega)
  have j0:(0:Int)<=j:=by omega
  have j1:(j:Int)<r.on:=by omega
  obtain⟨w4,ew4_⟩:∃z,Hid (z=wr.alloc (.cells (m13 o0 o1 b0 b1 b2 b3 b4 xb mb kb xv mv kv) 112)):=⟨_,zH rfl⟩
  have hal:Below wr.heap.size wr w4:=by cases ew4_.out;exact(Below.refl _ _).alloc nr _
  have hbo:w4.heap[wr.heap.size]?=some (.cells (m13 o0 o1 b0 b1 b2 b3 b4 xb mb kb xv mv kv) 112 (0,0)):=by cases ew4_.out;exact heap_alloc_new wr _
  have hN:wr.heap.size<w4.heap.size:=by cases ew4_.out;simp
  have hXN:X<wr.heap.size:=hR.wk.lt
  clear hc hdrop hmem
  have HR:=zH hR
  have HVX:=zH (And.intro hvx hU)
  have HKS:=zH hks
  clear hR hvx hU hks
  go_wp2_with fail
  rw[<-ew4_.out]
  refine cN [(5,fun W=>W.cell? (m35 X)=some (.slice r1.inn.ab r1.inn.nb r1.inn.cb)/\W.cell? (m65 X)=some (.slice r1.inn.av r1.inn.nv r1.inn.cv)),(8,fun W=>W.cell? (m51 wr)=some (.slice xb mb kb)/\W.cell? (m62 wr)=some (.slice xv mv kv)),(10,fun W=>W.cell? (m17 wr)=some (.int .i64 b0)/\W.cell? (m19 wr)=some (.int .i64 b1)/\W.cell? (m27 wr)=some (.int .u64 b2)/\W.cell? (m61 wr)=some (.int .u64 b3)/\W.cell? ⟨wr.heap.size,6,none⟩=some (.int .u64 b4))] (by kernel_rfl) ?_
  show aB _ _ _ _ _ _ _ _ w4.drew
  have HQ:Hid (∀W:World,W.heap[wr.heap.size]?=some (.cells (m13 o0 o1 b0 b1 b2 b3 b4 xb mb kb xv mv kv) 112 (0,0))->W.cell? (m35 X)=some (.slice r1.inn.ab r1.inn.nb r1.inn.cb)->W.cell? (m65 X)=some (.slice r1.inn.av r1.inn.nv r1.inn.cv)->(W.cell? (m35 X)=some (.slice r1.inn.ab r1.inn.nb r1.inn.cb)/\W.cell? (m65 X)=some (.slice r1.inn.av r1.inn.nv r1.inn.cv))/\(W.cell? (m51 wr)=some (.slice xb mb kb)/\W.cell? (m62 wr)=some (.slice xv mv kv))/\(W.cell? (m17 wr)=some (.int .i64 b0)/\W.cell? (m19 wr)=some (.int .i64 b1)/\W.cell? (m27 wr)=some (.int .u64 b2)/\W.cell? (m61 wr)=some (.int .u64 b3)/\W.cell? ⟨wr.heap.size,6,none⟩=some (.int .u64 b4))):=zH (fun W e1 e2 e3=>⟨⟨e2,e3⟩,⟨cA e1 7,cA e1 8⟩,⟨cA e1 2,cA e1 3,cA e1 4,cA e1 5,cA e1 6⟩⟩)
  have hd5:=(Below.refl w4.heap.size w4).drew
  have HB5:=zH (hal.drew)
  have hbo5:=cG hd5 hN hbo
  clear hd5 hbo hN hal c0 c1 c2 c3 c4 c5 c6 c7 c8
  generalize w4.drew=w5 at HB5 hbo5⊢
  have H5:=zH (HR.out.wk.keep HB5.out)
  have hq:=HQ.out w5 hbo5 (cA H5.out.box 4) (cA H5.out.box 5)
  refine wX 0 rfl ?_
  refine wX 1 rfl ?_
  refine wX 2 rfl ?_
  refine wX 3 rfl ?_
  refine wX 4 rfl ?_
  refine wY 0 5 rfl rfl (hq.1) ?_
  refine wX 6 rfl ?_
  refine wX 7 rfl ?_
  refine wY 1 8 rfl rfl (hq.2.1) ?_
  refine wX 9 rfl ?_
  refine wY 2 10 rfl rfl (hq.2.2) ?_
  refine cK 11 (by kernel_rfl) rfl (fun K hK=>?_)
  go_simp
  refine(xO ⟨b0,b1,b2,b3,b4⟩ w5).mono ?_
  rintro e w6 ⟨u,rfl,hu,hun,hb6⟩
  have H6:=zH (H5.out.keep hb6)
  have hbo6:=bK hb6 hbo5
  have hq6:=HQ.out w6 hbo6 (cA H6.out.box 4) (cA H6.out.box 5)
  have HU6:=zH (And.intro (hu HVX.out.2) (HVX.out.1.keep (bS HB5.out hb6)))
  have HB6:=zH (bS HB5.out hb6)
  clear hu hun hb6
  refine hK.out _ _ ?_ ?_
  ·exact(hl3 hq6)
  clear hK K;try simp only[Act.put,pA,pB,pC]
  refine cK 12 (by kernel_rfl) rfl (fun K hK=>?_)
  go_simp
  have hjl1:=Tp.mM x (Tp.lone ⟨b0,b1,b2,b3,b4⟩)
  refine(dY ⟨xb,mb,kb,xv,mv,kv⟩ u x (Tp.lone ⟨b0,b1,b2,b3,b4⟩) w6 HU6.out.2 HU6.out.1 (Nat.le_trans hjl1.1 (by show _+1<=1000000;have:=HOX.out.1;omega)) (Nat.le_trans hjl1.2 (by show _+0<=1000000;have:=HOX.out.2;omega))).mono ?_
  rintro e w7 ⟨t1,rfl,ht1,htn1,hb7⟩
  have H7:=zH (H6.out.keep hb7)
  have hbo7:=bK hb7 hbo6
  have hq7:=HQ.out w7 hbo7 (cA H7.out.box 4) (cA H7.out.box 5)
  have HT1:=zH ht1
  have HB7:=zH (bS HB6.out hb7)
  clear ht1 htn1 hb7
  refine hK.out _ _ ?_ ?_
  ·exact(hl3 hq7)
  clear hK K;try simp only[Act.put,pA,pB,pC]
  refine cK 13 (by kernel_rfl) rfl (fun K hK=>?_)
  go_simp
  refine(yD X aw nw cw C r1 os ta1 tn1 tc1 ts1 kj t1 (Tp.join x (Tp.lone ⟨b0,b1,b2,b3,b4⟩)) w7 H7.out HT1.out).mono ?_
  rintro e w8 ⟨t2,p2,rfl,ht2,htn2,h8,K8⟩
  have H8:=zH h8
  have K8:=zH K8
  have hbo8:=(K8.out.block wr.heap.size (gS hbo7) (by omega)).trans hbo7
  have hq8:=HQ.out w8 hbo8 (cA H8.out.box 4) (cA H8.out.box 5)
  have HT2:=zH ht2
  clear ht2 htn2 h8
  refine hK.out _ _ ?_ ?_
  ·exact(hl3 hq8)
  clear hK K;try simp only[Act.put,pA,pB,pC]
  refine cK 14 (by kernel_rfl) rfl (fun K hK=>?_)
  go_simp
  have hcl:=Tp.aAd C kj (Tp.join x (Tp.lone ⟨b0,b1,b2,b3,b4⟩))
  have hjl2:=Tp.mM kj.n.inn (Tp.countL C kj (Tp.join x (Tp.lone ⟨b0,b1,b2,b3,b4⟩)))
  have hLB:(Tp.join kj.n.inn (Tp.countL C kj (Tp.join x (Tp.lone ⟨b0,b1,b2,b3,b4⟩)))).b.length<=100000+(j+1)*20000/\(Tp.join kj.n.inn (Tp.countL C kj (Tp.join x (Tp.lone ⟨b0,b1,b2,b3,b4⟩)))).v.length<=100000+(j+1)*20000:=by
   have e1:=HR.out.bd;have e2:=HOX.out;have e3:=hjl1.1;have e4:=hjl1.2;change _<=_+1 at e3;change _<=_+0 at e4;have e5:=hcl.1;have e6:=hcl.2;have e7:=hjl2.1;have e8:=hjl2.2;omega
  have HLB:=zH hLB
  have hj8:j+1<=8:=by omega
  refine(dY r1.inn t2 kj.n.inn (Tp.countL C kj (Tp.join x (Tp.lone ⟨b0,b1,b2,b3,b4⟩))) w8 H8.out.nd.inn HT2.out (Nat.le_trans hLB.1 (by omega)) (Nat.le_trans hLB.2 (by omega))).mono ?_
  rintro e w9 ⟨t3,rfl,ht3,htn3,hb9⟩
  have H9:=zH (H8.out.keep hb9)
  have hbo9:=bK hb9 hbo8
  have hq9:=HQ.out w9 hbo9 (cA H9.out.box 4) (cA H9.out.box 5)
  obtain⟨h10,K10⟩:=H9.out.storeIn ht3 (H8.out.newOff htn3)
  have H10:=zH h10
  have K10:=zH ((((HR.out.kp.thenB (HB7.out.mono HR.out.kp.size)).trans K8.out).trans (cQ (S:=fun j=>j=X) hb9)).trans K10)
  have f4:=cH H9.out.box 4;have f5:=cH H9.out.box 5
  clear h10 ht3 htn3 hb9 hcl hjl2 hLB
  refine hK.out _ _ ?_ ?_
  ·exact(hl3 hq9)
  clear hK K;try simp only[Act.put,pA,pB,pC]
  refine wX 15 rfl ?_
  refine wX 16 rfl ?_
  refine wX 17 rfl ?_
  refine cK 18 (by kernel_rfl) rfl (fun K hK=>?_)
  have z4:=hq9.1.1;have z5:=hq9.1.2
  go_simp
  refine hK.out _ _ ?_ ?_
  ·exact⟨.inr (by kernel_rfl),.inr (by kernel_rfl),.inr (by kernel_rfl),trivial⟩
  clear hK K;try simp only[Act.put,pA,pB,pC]
  refine cO (by kernel_rfl) ?_ _
  go_wp2_with fail
  exact⟨⟨j+1,_,ta1,tn1,tc1,ts1,_,by omega,by go_num,⟨H10.out,HR.out.oa,K10.out,HT.out,HLB.out⟩,HKS.out⟩,by simp[intOf];omega⟩
end
section
structure AlR (zs:List Value) (ty:TypeId) (w1:World) (al:Option Nat) (W:World):Prop where
 bel:Below w1.heap.size w1 W
 aa:∀g,al=some g->W.heap[g]?=some (.cells zs.toArray ty (0,0))/\w1.heap.size<=g
section
variable {zs:List Value}{ty:TypeId}{w1 W W':World}{al:Option Nat}
theorem AlR.start :AlR zs ty w1 none w1.drew:=⟨(Below.refl _ _).drew,fun _ h=>(by cases h)⟩
theorem AlR.keep (h:AlR zs ty w1 al W)(hb:Below W.heap.size W W'):AlR zs ty w1 al W':=
 ⟨bS h.bel hb,fun g he=>⟨cG hb (gS (h.aa g he).1) (h.aa g he).1,(h.aa g he).2⟩⟩
theorem AlR.m (h:AlR zs ty w1 none W):AlR zs ty w1 (some W.heap.size) (W.alloc (.cells zs.toArray ty)):=by
 have h2:=h.keep (W':=W.alloc (.cells zs.toArray ty)) ((Below.refl _ _).alloc nr _)
 refine⟨h2.bel,fun g he=>?_⟩
 cases he
 exact⟨heap_alloc_new W _,h.bel.size⟩
end
variable [Forb]
abbrev thO0 :Oper:=⟨some 27,.move (.tmp 0),114,"node.go:117",#[],none⟩
abbrev thO1 :Oper:=⟨some 28,.nilCheck (.tmp 27),0,"node.go:117",#[⟨0,.data⟩],none⟩
abbrev thO2 :Oper:=⟨some 29,.fieldAddr 116 (.tmp 28) 1,0,"node.go:117",#[⟨1,.data⟩],none⟩
abbrev thO3 :Oper:=⟨some 30,.load 25 (.tmp 29),25,"node.go:117",#[⟨2,.data⟩],none⟩
abbrev thO4 :Oper:=⟨some 31,.move (.tmp 0),114,"node.go:117",#[],none⟩
abbrev thO5 :Oper:=⟨some 32,.nilCheck (.tmp 31),0,"node.go:117",#[⟨4,.data⟩],none⟩
abbrev thO6 :Oper:=⟨some 33,.fieldAddr 116 (.tmp 32) 0,0,"node.go:117",#[⟨5,.data⟩],none⟩
abbrev thO7 :Oper:=⟨some 34,.fieldAddr 44 (.tmp 33) 2,0,"node.go:117",#[⟨6,.data⟩],none⟩
abbrev thO8 :Oper:=⟨some 35,.load 38 (.tmp 34),38,"node.go:117",#[⟨7,.data⟩],none⟩
abbrev thO9 :Oper:=⟨some 36,.move (.tmp 0),114,"node.go:117",#[],none⟩
abbrev aLr :Oper:=⟨some 37,.nilCheck (.tmp 36),0,"node.go:117",#[⟨9,.data⟩],none⟩
abbrev aLq :Oper:=⟨some 38,.fieldAddr 116 (.tmp 37) 2,0,"node.go:117",#[⟨10,.data⟩],none⟩
abbrev aLp :Oper:=⟨some 39,.load 3 (.tmp 38),3,"node.go:117",#[⟨11,.data⟩],none⟩
abbrev aLo :Oper:=⟨some 40,.load 40 (.tmp 2),40,"node.go:117",#[],none⟩
abbrev aNf :Oper:=⟨some 41,.call ⟨.value (.func 100),#[.tmp 30,.tmp 35,.tmp 39,.tmp 40],#[25,38,3,40]⟩,153,"node.go:117",#[⟨3,.data⟩,⟨8,.data⟩,⟨12,.data⟩,⟨13,.data⟩],none⟩
abbrev aJa :Oper:=⟨some 26,.move (.tmp 41),153,"node.go:117",#[⟨14,.data⟩],none⟩
abbrev aIz :Oper:=⟨some 42,.extract (.tmp 26) 0,40,"node.go:117",#[⟨15,.data⟩],none⟩
abbrev aIy :Oper:=⟨some 43,.extract (.tmp 26) 1,4,"node.go:117",#[⟨15,.data⟩,⟨19,.gcOnly .lateStores⟩],none⟩
abbrev aNe :Oper:=⟨some 3,.alloc 40,0,"node.go:117",#[],none⟩
abbrev aNd :Oper:=⟨none,.store 40 (.tmp 3) (.tmp 42),0,"node.go:117",#[⟨18,.data⟩,⟨16,.data⟩,⟨14,.chain⟩,⟨0,.phase⟩,⟨1,.phase⟩,⟨2,.phase⟩,⟨3,.phase⟩,⟨4,.phase⟩,⟨5,.phase⟩,⟨6,.phase⟩,⟨7,.phase⟩,⟨8,.phase⟩,⟨9,.phase⟩,⟨10,.phase⟩,⟨11,.phase⟩,⟨12,.phase⟩,⟨13,.phase⟩,⟨14,.phase⟩,⟨15,.phase⟩,⟨16,.phase⟩,⟨17,.textOnly .lateStores⟩,⟨18,.phase⟩],none⟩
abbrev aLn :Oper:=⟨some 4,.assign (.tmp 43),4,"node.go:117",#[⟨17,.data⟩,⟨19,.chain⟩,⟨0,.phase⟩,⟨1,.phase⟩,⟨2,.phase⟩,⟨3,.phase⟩,⟨4,.phase⟩,⟨5,.phase⟩,⟨6,.phase⟩,⟨7,.phase⟩,⟨8,.phase⟩,⟨9,.phase⟩,⟨10,.phase⟩,⟨11,.phase⟩,⟨12,.phase⟩,⟨13,.phase⟩,⟨14,.phase⟩,⟨15,.phase⟩,⟨16,.phase⟩,⟨17,.phase⟩,⟨18,.phase⟩,⟨19,.phase⟩],none⟩
abbrev aBp :Array Oper:=#[thO0,thO1,thO2,thO3,thO4,thO5,thO6,thO7,thO8,thO9,aLr,aLq,aLp,aLo,aNf,aJa,aIz,aIy,aNe,aNd,aLn]
abbrev thSL (X:Nat) (aw:Option Addr) (nw cw:Nat) (C:Tp.Cf) (r:RN) (os:List (RO×Tp.Vw)) (ta:Option Addr) (tn tc:Nat) (ts:List (RO×Tp.Vw)) (k:Tp.Nw) (gh:Nat) (h0 h1 f0 f1:Int) (fi:Bool) (u5 u6 u7 u8 u9 u10 u11 u12 u13 u14 u15 u16 u17 u18 u19 u20 u21 u22 u23 u24 u25:Value) (w1:World):List (Nat×(World->Prop)):=[(3,fun W=>W.cell? (m59 X)=some (.slice aw nw cw)/\W.cell? ⟨X,13,none⟩=some (.int .u64 C.sd)/\W.cell? ⟨X,14,none⟩=some (.int .i64 C.ep)/\W.cell? ⟨X,15,none⟩=some (.int .i64 C.nu)/\W.cell? ⟨X,16,none⟩=some (.int .i64 C.de)),(8,fun W=>W.cell? (m25 X)=some (.slice r.v.ab r.v.nb r.v.cb)/\W.cell? (m33 X)=some (.slice r.v.av r.v.nv r.v.cv)),(12,fun W=>W.cell? (m47 X)=some (.int .i64 k.slot)),(13,fun W=>W.cell? (m00 gh)=some (.int .u64 h0)/\W.cell? (m15 gh)=some (.int .u64 h1))]
structure thP (Q:Exit->Act->World->Prop) (X:Nat) (aw:Option Addr) (nw cw:Nat) (C:Tp.Cf) (r:RN) (os:List (RO×Tp.Vw)) (ta:Option Addr) (tn tc:Nat) (ts:List (RO×Tp.Vw)) (k:Tp.Nw) (gh:Nat) (h0 h1 f0 f1:Int) (fi:Bool) (u5 u6 u7 u8 u9 u10 u11 u12 u13 u14 u15 u16 u17 u18 u19 u20 u21 u22 u23 u24 u25:Value) (w1:World):Prop where
 hQp:∀(c:_) (a:Act) (d:Option Tmp) (v:Value) (w:World),Q (.panic c) (a.put d v) w->Q (.panic c) a w
 HN:Hid (NW w1 X aw nw cw C r os ta tn tc ts k)
 hm:Tp.mayC C.W C.ep C.nu C.de=true
 hF:Tp.bQ C k.n.v k.slot (h0,h1)=((f0,f1),fi)
 hc:∀W:World,Below w1.heap.size w1 W->(W.cell? (m59 X)=some (.slice aw nw cw)/\W.cell? ⟨X,13,none⟩=some (.int .u64 C.sd)/\W.cell? ⟨X,14,none⟩=some (.int .i64 C.ep)/\W.cell? ⟨X,15,none⟩=some (.int .i64 C.nu)/\W.cell? ⟨X,16,none⟩=some (.int .i64 C.de))/\(W.cell? (m25 X)=some (.slice r.v.ab r.v.nb r.v.cb)/\W.cell? (m33 X)=some (.slice r.v.av r.v.nv r.v.cv))/\(W.cell? (m47 X)=some (.int .i64 k.slot))/\(W.cell? (m00 gh)=some (.int .u64 h0)/\W.cell? (m15 gh)=some (.int .u64 h1))
 hQ:∀g W,AlR [.int .u64 0,.int .u64 0] 40 w1 (some g) W->Q .normal { tmps:=#[.pointer (some (m00 X)),undef,.pointer (some (m00 gh)),.pointer (some (m00 g)),.bool fi,u5,u6,u7,u8,u9,u10,u11,u12,u13,u14,u15,u16,u17,u18,u19,u20,u21,u22,u23,u24,u25,.tuple #[.agg (m08 f0 f1),.bool fi],.pointer (some (m00 X)),.pointer (some (m00 X)),.pointer (some (m59 X)),.agg (m02 aw nw cw C),.pointer (some (m00 X)),.pointer (some (m00 X)),.pointer (some (m00 X)),.pointer (some (m25 X)),.agg (m01 r.v),.pointer (some (m00 X)),.pointer (some (m00 X)),.pointer (some (m47 X)),.int .i64 k.slot,.agg (m08 h0 h1),.tuple #[.agg (m08 f0 f1),.bool fi],.agg (m08 f0 f1),.bool fi,undef,undef,undef,undef,undef,undef,undef,undef,undef,undef,undef,undef,undef,undef,undef,undef,undef,undef,undef,undef,undef,undef,undef],defers:=[] } ((W.setCell (m00 g) (m68 f0)).setCell (m15 g) (m68 f1))
section
variable {Q:Exit->Act->World->Prop}{X:Nat}{aw:Option Addr}{nw cw:Nat}{C:Tp.Cf}{r:RN}{os:List (RO×Tp.Vw)}{ta:Option Addr}{tn tc:Nat}{ts:List (RO×Tp.Vw)}{k:Tp.Nw}{gh:Nat}{h0 h1 f0 f1:Int}{fi:Bool}{u5 u6 u7 u8 u9 u10 u11 u12 u13 u14 u15 u16 u17 u18 u19 u20 u21 u22 u23 u24 u25:Value}{w1:World}
theorem sL (PP:thP Q X aw nw cw C r os ta tn tc ts k gh h0 h1 f0 f1 fi u5 u6 u7 u8 u9 u10 u11 u12 u13 u14 u15 u16 u17 u18 u19 u20 u21 u22 u23 u24 u25 w1)(g:Nat)(W:World)(hR:AlR [.int .u64 0,.int .u64 0] 40 w1 (some g) W):
  aB Tryz.prog .any aBp Q (thSL X aw nw cw C r os ta tn tc ts k gh h0 h1 f0 f1 fi u5 u6 u7 u8 u9 u10 u11 u12 u13 u14 u15 u16 u17 u18 u19 u20 u21 u22 u23 u24 u25 w1) 2 #[true,true,true,true,true,true,true,true,true,true,true,true,true,true,true,true,true,true,true,false,false] { tmps:=#[.pointer (some (m00 X)),undef,.pointer (some (m00 gh)),.pointer (some (m00 g)),undef,u5,u6,u7,u8,u9,u10,u11,u12,u13,u14,u15,u16,u17,u18,u19,u20,u21,u22,u23,u24,u25,.tuple #[.agg (m08 f0 f1),.bool fi],.pointer (some (m00 X)),.pointer (some (m00 X)),.pointer (some (m59 X)),.agg (m02 aw nw cw C),.pointer (some (m00 X)),.pointer (some (m00 X)),.pointer (some (m00 X)),.pointer (some (m25 X)),.agg (m01 r.v),.pointer (some (m00 X)),.pointer (some (m00 X)),.pointer (some (m47 X)),.int .i64 k.slot,.agg (m08 h0 h1),.tuple #[.agg (m08 f0 f1),.bool fi],.agg (m08 f0 f1),.bool fi,undef,undef,undef,undef,undef,undef,undef,undef,undef,undef,undef,undef,undef,undef,undef,undef,undef,undef,undef,undef,undef,undef,undef],defers:=[] } W:=by
 obtain⟨hQp,HN,hm,hF,hc,hQ⟩:=PP
 refine cK 19 (by kernel_rfl) rfl (fun K hK=>?_)
 have c0:W.cell? (m00 g)=some (.int .u64 0):=cA (hR.aa _ rfl).1 0
 have c1:W.cell? (m15 g)=some (.int .u64 0):=cA (hR.aa _ rfl).1 1
 have f0:=cH (hR.aa _ rfl).1 0
 have f1:=cH (hR.aa _ rfl).1 1
 go_simp
 refine hK.out _ _ ?_ ?_
 ·exact⟨.inr (by kernel_rfl),.inr (by kernel_rfl),.inr (by kernel_rfl),.inr (by kernel_rfl),trivial⟩
 clear hK K
 try simp only[Act.put,pA,pB,pC]
 refine wI0 20 (oi:=aLn) (v:=?_) rfl ?_ ?_ (hQ:=by exact fun _ _ _ h=>hQp _ _ _ _ _ h)
 rotate_left
 ·intro w' _;go_simp;try with_reducible rfl
 try simp only[Act.put,pA,pB,pC]
 refine cO (by kernel_rfl) ?_ _
 exact hQ g W hR
theorem aLm (PP:thP Q X aw nw cw C r os ta tn tc ts k gh h0 h1 f0 f1 fi u5 u6 u7 u8 u9 u10 u11 u12 u13 u14 u15 u16 u17 u18 u19 u20 u21 u22 u23 u24 u25 w1)(W:World)(hR:AlR [.int .u64 0,.int .u64 0] 40 w1 none W):
  aB Tryz.prog .any aBp Q (thSL X aw nw cw C r os ta tn tc ts k gh h0 h1 f0 f1 fi u5 u6 u7 u8 u9 u10 u11 u12 u13 u14 u15 u16 u17 u18 u19 u20 u21 u22 u23 u24 u25 w1) 3 #[true,true,true,true,true,true,true,true,true,true,true,true,true,true,true,true,true,true,false,false,false] { tmps:=#[.pointer (some (m00 X)),undef,.pointer (some (m00 gh)),undef,undef,u5,u6,u7,u8,u9,u10,u11,u12,u13,u14,u15,u16,u17,u18,u19,u20,u21,u22,u23,u24,u25,.tuple #[.agg (m08 f0 f1),.bool fi],.pointer (some (m00 X)),.pointer (some (m00 X)),.pointer (some (m59 X)),.agg (m02 aw nw cw C),.pointer (some (m00 X)),.pointer (some (m00 X)),.pointer (some (m00 X)),.pointer (some (m25 X)),.agg (m01 r.v),.pointer (some (m00 X)),.pointer (some (m00 X)),.pointer (some (m47 X)),.int .i64 k.slot,.agg (m08 h0 h1),.tuple #[.agg (m08 f0 f1),.bool fi],.agg (m08 f0 f1),.bool fi,undef,undef,undef,undef,undef,undef,undef,undef,undef,undef,undef,undef,undef,undef,undef,undef,undef,undef,undef,undef,undef,undef,undef],defers:=[] } W:=by
 obtain⟨hQp,HN,hm,hF,hc,hQ⟩:=PP
 refine cJ [18] (by kernel_rfl) (by simp) ?_
 refine cD 18 rfl (fun K hK=>?_) ?_
 ·go_simp
  have hR2:=hR.m
  replace hR:=hR2
  clear hR2
  refine hK.out _ _ ?_ ?_
  ·exact(hl4 (hc _ (hR.bel)))
  clear hK K
  try simp only[Act.put,pA,pB,pC]
  exact sL ⟨hQp,HN,hm,hF,hc,hQ⟩ _ _ hR
 exact cE
theorem aLl (PP:thP Q X aw nw cw C r os ta tn tc ts k gh h0 h1 f0 f1 fi u5 u6 u7 u8 u9 u10 u11 u12 u13 u14 u15 u16 u17 u18 u19 u20 u21 u22 u23 u24 u25 w1)(g:Nat)(W:World)(hR:AlR [.int .u64 0,.int .u64 0] 40 w1 (some g) W):
  aB Tryz.prog .any aBp Q (thSL X aw nw cw C r os ta tn tc ts k gh h0 h1 f0 f1 fi u5 u6 u7 u8 u9 u10 u11 u12 u13 u14 u15 u16 u17 u18 u19 u20 u21 u22 u23 u24 u25 w1) 6 #[true,true,true,true,true,true,true,true,true,true,true,true,true,true,false,false,false,false,true,false,false] { tmps:=#[.pointer (some (m00 X)),undef,.pointer (some (m00 gh)),.pointer (some (m00 g)),undef,u5,u6,u7,u8,u9,u10,u11,u12,u13,u14,u15,u16,u17,u18,u19,u20,u21,u22,u23,u24,u25,undef,.pointer (some (m00 X)),.pointer (some (m00 X)),.pointer (some (m59 X)),.agg (m02 aw nw cw C),.pointer (some (m00 X)),.pointer (some (m00 X)),.pointer (some (m00 X)),.pointer (some (m25 X)),.agg (m01 r.v),.pointer (some (m00 X)),.pointer (some (m00 X)),.pointer (some (m47 X)),.int .i64 k.slot,.agg (m08 h0 h1),undef,undef,undef,undef,undef,undef,undef,undef,undef,undef,undef,undef,undef,undef,undef,undef,undef,undef,undef,undef,undef,undef,undef,undef,undef,undef],defers:=[] } W:=by
 obtain⟨hQp,HN,hm,hF,hc,hQ⟩:=PP
 refine cJ [14] (by kernel_rfl) (by simp) ?_
 refine cD 14 rfl (fun K hK=>?_) ?_
 ·go_simp
  refine(xK aw nw cw C r.v k.n.v k.slot h0 h1 W (HN.out.conf.keep hR.bel) (HN.out.nd.v.keep hR.bel) hm).mono ?_;rintro e W2 ⟨rfl,hb⟩
  rw[hF]
  have hR2:=hR.keep hb
  replace hR:=hR2
  clear hR2 hb
  refine hK.out _ _ ?_ ?_
  ·exact(hl4 (hc _ (hR.bel)))
  clear hK K
  try simp only[Act.put,pA,pB,pC]
  refine wI0 15 (oi:=aJa) (v:=?_) rfl ?_ ?_ (hQ:=by exact fun _ _ _ h=>hQp _ _ _ _ _ h)
  rotate_left
  ·intro w' _;go_simp;try with_reducible rfl
  try simp only[Act.put,pA,pB,pC]
  refine wI0 16 (oi:=aIz) (v:=?_) rfl ?_ ?_ (hQ:=by exact fun _ _ _ h=>hQp _ _ _ _ _ h)
  rotate_left
  ·intro w' _;go_simp;try with_reducible rfl
  try simp only[Act.put,pA,pB,pC]
  refine wI0 17 (oi:=aIy) (v:=?_) rfl ?_ ?_ (hQ:=by exact fun _ _ _ h=>hQp _ _ _ _ _ h)
  rotate_left
  ·intro w' _;go_simp;try with_reducible rfl
  try simp only[Act.put,pA,pB,pC]
  exact sL ⟨hQp,HN,hm,hF,hc,hQ⟩ g _ hR
 exact cE
theorem th_ (PP:thP Q X aw nw cw C r os ta tn tc ts k gh h0 h1 f0 f1 fi u5 u6 u7 u8 u9 u10 u11 u12 u13 u14 u15 u16 u17 u18 u19 u20 u21 u22 u23 u24 u25 w1)(W:World)(hR:AlR [.int .u64 0,.int .u64 0] 40 w1 none W):
  aB Tryz.prog .any aBp Q (thSL X aw nw cw C r os ta tn tc ts k gh h0 h1 f0 f1 fi u5 u6 u7 u8 u9 u10 u11 u12 u13 u14 u15 u16 u17 u18 u19 u20 u21 u22 u23 u24 u25 w1) 7 #[true,true,true,true,true,true,true,true,true,true,true,true,true,true,false,false,false,false,false,false,false] { tmps:=#[.pointer (some (m00 X)),undef,.pointer (some (m00 gh)),undef,undef,u5,u6,u7,u8,u9,u10,u11,u12,u13,u14,u15,u16,u17,u18,u19,u20,u21,u22,u23,u24,u25,undef,.pointer (some (m00 X)),.pointer (some (m00 X)),.pointer (some (m59 X)),.agg (m02 aw nw cw C),.pointer (some (m00 X)),.pointer (some (m00 X)),.pointer (some (m00 X)),.pointer (some (m25 X)),.agg (m01 r.v),.pointer (some (m00 X)),.pointer (some (m00 X)),.pointer (some (m47 X)),.int .i64 k.slot,.agg (m08 h0 h1),undef,undef,undef,undef,undef,undef,undef,undef,undef,undef,undef,undef,undef,undef,undef,undef,undef,undef,undef,undef,undef,undef,undef,undef,undef,undef],defers:=[] } W:=by
 obtain⟨hQp,HN,hm,hF,hc,hQ⟩:=PP
 refine cJ [14,18] (by kernel_rfl) (by simp) ?_
 refine cD 14 rfl (fun K hK=>?_) ?_
 ·go_simp
  refine(xK aw nw cw C r.v k.n.v k.slot h0 h1 W (HN.out.conf.keep hR.bel) (HN.out.nd.v.keep hR.bel) hm).mono ?_;rintro e W2 ⟨rfl,hb⟩
  rw[hF]
  have hR2:=hR.keep hb
  replace hR:=hR2
  clear hR2 hb
  refine hK.out _ _ ?_ ?_
  ·exact(hl4 (hc _ (hR.bel)))
  clear hK K
  try simp only[Act.put,pA,pB,pC]
  refine wI0 15 (oi:=aJa) (v:=?_) rfl ?_ ?_ (hQ:=by exact fun _ _ _ h=>hQp _ _ _ _ _ h)
  rotate_left
  ·intro w' _;go_simp;try with_reducible rfl
  try simp only[Act.put,pA,pB,pC]
  refine wI0 16 (oi:=aIz) (v:=?_) rfl ?_ ?_ (hQ:=by exact fun _ _ _ h=>hQp _ _ _ _ _ h)
  rotate_left
  ·intro w' _;go_simp;try with_reducible rfl
  try simp only[Act.put,pA,pB,pC]
  refine wI0 17 (oi:=aIy) (v:=?_) rfl ?_ ?_ (hQ:=by exact fun _ _ _ h=>hQp _ _ _ _ _ h)
  rotate_left
  ·intro w' _;go_simp;try with_reducible rfl
  try simp only[Act.put,pA,pB,pC]
  exact aLm ⟨hQp,HN,hm,hF,hc,hQ⟩ _ hR
 refine cD 18 rfl (fun K hK=>?_) ?_
 ·go_simp
  have hR2:=hR.m
  replace hR:=hR2
  clear hR2
  refine hK.out _ _ ?_ ?_
  ·exact(hl4 (hc _ (hR.bel)))
  clear hK K
  try simp only[Act.put,pA,pB,pC]
  exact aLl ⟨hQp,HN,hm,hF,hc,hQ⟩ _ _ hR
 exact cE
theorem aBo (PP:thP Q X aw nw cw C r os ta tn tc ts k gh h0 h1 f0 f1 fi u5 u6 u7 u8 u9 u10 u11 u12 u13 u14 u15 u16 u17 u18 u19 u20 u21 u22 u23 u24 u25 w1)(hR:AlR [.int .u64 0,.int .u64 0] 40 w1 none w1.drew):(Code.region 3 aBp true).wp Tryz.prog Q { tmps:=#[.pointer (some (m00 X)),undef,.pointer (some (m00 gh)),undef,undef,u5,u6,u7,u8,u9,u10,u11,u12,u13,u14,u15,u16,u17,u18,u19,u20,u21,u22,u23,u24,u25,undef,undef,undef,undef,undef,undef,undef,undef,undef,undef,undef,undef,undef,undef,undef,undef,undef,undef,undef,undef,undef,undef,undef,undef,undef,undef,undef,undef,undef,undef,undef,undef,undef,undef,undef,undef,undef,undef,undef,undef,undef],defers:=[] } w1:=by
 obtain⟨hQp,HN,hm,hF,hc,hQ⟩:=PP
 refine cN (thSL X aw nw cw C r os ta tn tc ts k gh h0 h1 f0 f1 fi u5 u6 u7 u8 u9 u10 u11 u12 u13 u14 u15 u16 u17 u18 u19 u20 u21 u22 u23 u24 u25 w1) (by kernel_rfl) ?_
 generalize w1.drew=W at hR⊢
 show aB _ _ _ _ _ 21 #[false,false,false,false,false,false,false,false,false,false,false,false,false,false,false,false,false,false,false,false,false] _ _
 refine wI0 0 (oi:=thO0) (v:=?_) rfl ?_ ?_ (hQ:=by exact fun _ _ _ h=>hQp _ _ _ _ _ h)
 rotate_left
 ·intro w' _;go_simp;try with_reducible rfl
 try simp only[Act.put,pA,pB,pC]
 refine wI0 1 (oi:=thO1) (v:=?_) rfl ?_ ?_ (hQ:=by exact fun _ _ _ h=>hQp _ _ _ _ _ h)
 rotate_left
 ·intro w' _;go_simp;try with_reducible rfl
 try simp only[Act.put,pA,pB,pC]
 refine wI0 2 (oi:=thO2) (v:=?_) rfl ?_ ?_ (hQ:=by exact fun _ _ _ h=>hQp _ _ _ _ _ h)
 rotate_left
 ·intro w' _;go_simp;try with_reducible rfl
 try simp only[Act.put,pA,pB,pC]
 refine wIL 0 3 (oi:=thO3) (v:=?_) rfl rfl ?_ ?_ ?_ (hQ:=by exact fun _ _ _ h=>hQp _ _ _ _ _ h)
 rotate_left
 ·intro w' hSw;(try dsimp only at hSw);go_simp;try with_reducible rfl
 ·exact(hc _ hR.bel).1
 try simp only[Act.put,pA,pB,pC]
 refine wI0 4 (oi:=thO4) (v:=?_) rfl ?_ ?_ (hQ:=by exact fun _ _ _ h=>hQp _ _ _ _ _ h)
 rotate_left
 ·intro w' _;go_simp;try with_reducible rfl
 try simp only[Act.put,pA,pB,pC]
 refine wI0 5 (oi:=thO5) (v:=?_) rfl ?_ ?_ (hQ:=by exact fun _ _ _ h=>hQp _ _ _ _ _ h)
 rotate_left
 ·intro w' _;go_simp;try with_reducible rfl
 try simp only[Act.put,pA,pB,pC]
 refine wI0 6 (oi:=thO6) (v:=?_) rfl ?_ ?_ (hQ:=by exact fun _ _ _ h=>hQp _ _ _ _ _ h)
 rotate_left
 ·intro w' _;go_simp;try with_reducible rfl
 try simp only[Act.put,pA,pB,pC]
 refine wI0 7 (oi:=thO7) (v:=?_) rfl ?_ ?_ (hQ:=by exact fun _ _ _ h=>hQp _ _ _ _ _ h)
 rotate_left
 ·intro w' _;go_simp;try with_reducible rfl
 try simp only[Act.put,pA,pB,pC]
 refine wIL 1 8 (oi:=thO8) (v:=?_) rfl rfl ?_ ?_ ?_ (hQ:=by exact fun _ _ _ h=>hQp _ _ _ _ _ h)
 rotate_left
 ·intro w' hSw;(try dsimp only at hSw);go_simp;try with_reducible rfl
 ·exact(hc _ hR.bel).2.1
 try simp only[Act.put,pA,pB,pC]
 refine wI0 9 (oi:=thO9) (v:=?_) rfl ?_ ?_ (hQ:=by exact fun _ _ _ h=>hQp _ _ _ _ _ h)
 rotate_left
 ·intro w' _;go_simp;try with_reducible rfl
 try simp only[Act.put,pA,pB,pC]
 refine wI0 10 (oi:=aLr) (v:=?_) rfl ?_ ?_ (hQ:=by exact fun _ _ _ h=>hQp _ _ _ _ _ h)
 rotate_left
 ·intro w' _;go_simp;try with_reducible rfl
 try simp only[Act.put,pA,pB,pC]
 refine wI0 11 (oi:=aLq) (v:=?_) rfl ?_ ?_ (hQ:=by exact fun _ _ _ h=>hQp _ _ _ _ _ h)
 rotate_left
 ·intro w' _;go_simp;try with_reducible rfl
 try simp only[Act.put,pA,pB,pC]
 refine wIL 2 12 (oi:=aLp) (v:=?_) rfl rfl ?_ ?_ ?_ (hQ:=by exact fun _ _ _ h=>hQp _ _ _ _ _ h)
 rotate_left
 ·intro w' hSw;(try dsimp only at hSw);go_simp;try with_reducible rfl
 ·exact(hc _ hR.bel).2.2.1
 try simp only[Act.put,pA,pB,pC]
 refine wIL 3 13 (oi:=aLo) (v:=?_) rfl rfl ?_ ?_ ?_ (hQ:=by exact fun _ _ _ h=>hQp _ _ _ _ _ h)
 rotate_left
 ·intro w' hSw;(try dsimp only at hSw);go_simp;try with_reducible rfl
 ·exact(hc _ hR.bel).2.2.2
 try simp only[Act.put,pA,pB,pC]
 exact th_ ⟨hQp,HN,hm,hF,hc,hQ⟩ _ hR
end
section
variable {w w':World}{X:Nat}{aw:Option Addr}{nw cw:Nat}{C:Tp.Cf}{r:RN}{os:List (RO×Tp.Vw)}{ta:Option Addr}{tn tc:Nat}{ts:List (RO×Tp.Vw)}{k:Tp.Nw}
theorem NW.storeC (h:NW w X aw nw cw C r os ta tn tc ts k)(c:Tp.Cur):
  NW ((((w.setCell (m36 X) (m68 c.p)).setCell (m60 X) (m68 c.q)).setCell ⟨X,9,none⟩ (m30 c.sl)).setCell ⟨X,10,none⟩ (m30 c.rev)) X aw nw cw C { r with p:=c.p,q:=c.q,sl:=c.sl,rev:=c.rev } os ta tn tc ts { k with n:={ k.n with c:=c } }/\aC (· =X) w ((((w.setCell (m36 X) (m68 c.p)).setCell (m60 X) (m68 c.q)).setCell ⟨X,9,none⟩ (m30 c.sl)).setCell ⟨X,10,none⟩ (m30 c.rev)):=by
 have T:=cM [.int .u64 c.p,.int .u64 c.q,.int .i64 c.sl,.int .i64 c.rev] 7 _ _ h.box (by show(11:Nat)<=19;omega)
 exact⟨h.turn (r':={ r with p:=c.p,q:=c.q,sl:=c.sl,rev:=c.rev }) (k':={ k with n:={ k.n with c:=c } }) T ⟨h.nd.v,h.nd.inn,h.nd.o,h.nd.ko,h.nd.no,h.nd.tick,rfl,h.nd.full⟩ ⟨h.noff.v,h.noff.inn,h.noff.o⟩ h.told h.toff h.kt (fun b e=>⟨⟨(h.fr b e).1.v,(h.fr b e).1.inn,(h.fr b e).1.o⟩,(h.fr b e).2⟩),cL T rfl⟩
end
theorem aBm (X:Nat)(aw:Option Addr)(nw cw:Nat)(C:Tp.Cf)(k:Tp.Nw)(w:World)(hh:NWe w X aw nw cw C k)(hm:Tp.mayC C.W C.ep C.nu C.de=true)(hrev:0<=k.n.c.rev/\k.n.c.rev<=1000000000):
  Calls Tryz.prog 68 (m46 X) w fun e w'=>e=.returned (.tuple #[])/\NWe w' X aw nw cw C (Tp.eG C k)/\aC (· =X) w w':=by
 obtain⟨fin,hfin⟩:∃t,Tp.eG C k=t:=⟨_,rfl⟩
 rw[hfin]
 have HFIN:=zH hfin
 clear hfin
 obtain⟨r,os,ta,tn,tc,ts,h⟩:=hh
 have hX:=h.lt
 have x4:w.cell? (m35 X)=some (.slice r.inn.ab r.inn.nb r.inn.cb):=cA h.box 4
 have x5:w.cell? (m65 X)=some (.slice r.inn.av r.inn.nv r.inn.cv):=cA h.box 5
 have H1:=zH h
 clear h
 go_enter Tryz.func68,Tryz.ntmps68
 go_wp2_with fail
 refine(oF X aw nw cw C k r.inn k.n.inn w ⟨_,_,_,_,_,_,H1.out⟩ H1.out.nd.inn).mono ?_
 rintro e w2 ⟨t,rfl,ht,htn,⟨r2,os2,ta2,tn2,tc2,ts2,h2⟩,K2⟩
 obtain⟨h3,K3⟩:=h2.storeIn ht (H1.out.newOff htn)
 have y4:w2.cell? (m35 X)=some (.slice r2.inn.ab r2.inn.nb r2.inn.cb):=cA h2.box 4
 have y5:w2.cell? (m65 X)=some (.slice r2.inn.av r2.inn.nv r2.inn.cv):=cA h2.box 5
 have f4:=cH h2.box 4
 have f5:=cH h2.box 5
 obtain⟨h4,K4⟩:=h3.storeO
 have y6:((w2.setCell (m35 X) (m41 t)).setCell (m65 X) (m42 t)).cell? (m39 X)=some (.slice r2.oa r2.on r2.oc):=cA h3.box 6
 have f6:=cH h3.box 6
 have y17:(((w2.setCell (m35 X) (m41 t)).setCell (m65 X) (m42 t)).setCell (m39 X) (m48)).cell? (m47 X)=some (.int .i64 k.slot):=cA h4.box 17
 have H4:=zH h4
 have K4:=zH ((K2.trans K3).trans K4)
 clear h2 h3 h4 K2 K3 ht htn x4 x5
 try dsimp only
 go_wp2_with fail
 generalize((w2.setCell (m35 X) (m41 t)).setCell (m65 X) (m42 t)).setCell (m39 X) (m48)=w4 at H4 K4⊢
 clear y4 y5 f4 f5 y6 f6 y17
 have H4:Hid (∃r3,NW w4 X aw nw cw C r3 [] ta2 tn2 tc2 ts2 (Tp.bP C k)):=zH ⟨_,H4.out⟩
 have hc1:(Tp.bP C k).n.c=k.n.c/\(Tp.bP C k).slot=k.slot:=⟨rfl,rfl⟩
 obtain⟨k1,hk1⟩:∃z,Tp.bP C k=z:=⟨_,rfl⟩
 have HFE:Hid (fin={ k1 with n:={ k1.n with c:=Tp.move k1.n.c k1.n.v.b (Tp.aL C k1.n.v k1.slot) (Tp.bQ C k1.n.v k1.slot (Tp.aL C k1.n.v k1.slot)).1 (Tp.bQ C k1.n.v k1.slot (Tp.aL C k1.n.v k1.slot)).2 k1.slot } }):=zH (by rw[<-HFIN.out,<-hk1];rfl)
 rw[hk1]at H4 hc1
 have hrev1:0<=k1.n.c.rev/\k1.n.c.rev<=1000000000:=by rw[hc1.1];exact hrev
 have HKS:=zH hc1.2
 clear hk1 hc1 HFIN
 obtain⟨r3,h4⟩:=H4.out
 have H4:=zH h4
 clear h4
 obtain⟨⟨h0,h1⟩,hh⟩:∃z,Tp.aL C k1.n.v k1.slot=z:=⟨_,rfl⟩
 rw[hh]at HFE
 obtain⟨⟨⟨f0,f1⟩,fi⟩,hf⟩:∃z,Tp.bQ C k1.n.v k1.slot (h0,h1)=z:=⟨_,rfl⟩
 rw[hf]at HFE
 have HH:=zH hh
 have HF:=zH hf
 clear hh hf
 rw[show k.slot=k1.slot from HKS.out.symm]
 refine(mS X aw nw cw C k1 k1.slot _ ⟨_,_,_,_,_,_,H4.out⟩).mono ?_
 rintro e w5 ⟨rfl,hb5⟩
 rw[HH.out]
 try dsimp only
 go_wp2_with fail
 have hal6:Below w5.heap.size w5 (w5.alloc (m40 h0 h1)):=(Below.refl _ _).alloc nr _
 have GH:=zH (heap_alloc_new w5 (m40 h0 h1))
 have H6:=zH ((H4.out.keep hb5).keep hal6)
 have B6:=zH (bS hb5 hal6)
 have hX5:X<w5.heap.size:=Nat.lt_of_lt_of_le H4.out.lt hb5.size
 generalize hgh:w5.heap.size=gh at GH hX5⊢
 clear hgh hal6 hb5
 generalize w5.alloc (m40 h0 h1)=w6 at GH H6 B6⊢
 refine aBo (r:=r3) (os:=[]) (ta:=ta2) (tn:=tn2) (tc:=tc2) (ts:=ts2) (aw:=aw) (nw:=nw) (cw:=cw) (C:=C) (k:=k1) (f0:=f0) (f1:=f1) (fi:=fi) ⟨fun _ _ d _ _ h=>by cases d<;>exact h,H6,hm,HF.out,?_,?_⟩ AlR.start
 ·intro W hb
  have e1:=cG hb H6.out.lt H6.out.box
  have e2:=bK hb GH.out
  exact⟨⟨cA e1 12,cA e1 13,cA e1 14,cA e1 15,cA e1 16⟩,⟨cA e1 2,cA e1 3⟩,cA e1 17,⟨cA e2 0,cA e2 1⟩⟩
 intro g W hR
 have hgs:=(hR.aa g rfl).2
 have T:cT g (.cells (m08 f0 f1) 40 (0,0)) W ((W.setCell (m00 g) (m68 f0)).setCell (m15 g) (m68 f1)):=cM [.int .u64 f0,.int .u64 f1] 0 _ _ (hR.aa g rfl).1 (by show(2:Nat)<=2;omega)
 have hXg:X≠g:=by have:=H6.out.lt;omega
 have hhg:gh≠g:=by have:=(gS GH.out);omega
 have H7:=zH ((NW.below H6.out hR.bel).far T hXg (H6.out.nd.away hgs) (H6.out.conf.away hgs) (H6.out.told.away hgs))
 have B7:=zH (B6.out.trans ((hR.bel.trans (T.below hgs)).mono B6.out.size))
 have G7:=zH T.new
 have GH7:=zH ((T.block gh hhg).trans (bK hR.bel GH.out))
 clear hR
 generalize(W.setCell (m00 g) (m68 f0)).setCell (m15 g) (m68 f1)=W7 at T H7 B7 G7 GH7⊢
 clear T
 try dsimp only
 go_wp2_with fail
 have hd6:=(Below.refl W7.heap.size W7).drew
 have H6:=zH (H7.out.keep hd6)
 have B6:=zH (bS B7.out hd6)
 have G6:=zH (bK hd6 G7.out)
 have GH6:=zH (bK hd6 GH7.out)
 clear hd6
 refine cN [(5,fun W=>W.cell? (m36 X)=some (.int .u64 k1.n.c.p)/\W.cell? (m60 X)=some (.int .u64 k1.n.c.q)/\W.cell? ⟨X,9,none⟩=some (.int .i64 k1.n.c.sl)/\W.cell? ⟨X,10,none⟩=some (.int .i64 k1.n.c.rev)),(11,fun W=>W.cell? (m25 X)=some (.slice r3.v.ab r3.v.nb r3.v.cb)),(12,fun W=>W.cell? (m00 gh)=some (.int .u64 h0)/\W.cell? (m15 gh)=some (.int .u64 h1)),(13,fun W=>W.cell? (m00 g)=some (.int .u64 f0)/\W.cell? (m15 g)=some (.int .u64 f1)),(18,fun W=>W.cell? (m47 X)=some (.int .i64 k1.slot))] (by kernel_rfl) ?_
 show aB _ _ _ _ _ _ _ _ W7.drew
 generalize W7.drew=w6 at H6 B6 G6 GH6⊢
 obtain⟨mv,hmv⟩:∃z,Tp.move k1.n.c k1.n.v.b (h0,h1) (f0,f1) fi k1.slot=z:=⟨_,rfl⟩
 have HMV:=zH hmv
 have HFE:Hid (fin={ k1 with n:={ k1.n with c:=mv } }):=zH (by rw[<-hmv];exact HFE.out)
 clear hmv
 have hcc:(⟨r3.p,r3.q,r3.sl,r3.rev⟩:Tp.Cur)=k1.n.c:=H6.out.nd.c.symm
 have HQ:Hid (∀W:World,W.heap[X]?=some (.cells (uQ aw nw cw C r3 k1.slot ta2 tn2 tc2).toArray 116 (0,0))->W.heap[gh]?=some (.cells (m08 h0 h1) 40 (0,0))->W.heap[g]?=some (.cells (m08 f0 f1) 40 (0,0))->(W.cell? (m36 X)=some (.int .u64 k1.n.c.p)/\W.cell? (m60 X)=some (.int .u64 k1.n.c.q)/\W.cell? ⟨X,9,none⟩=some (.int .i64 k1.n.c.sl)/\W.cell? ⟨X,10,none⟩=some (.int .i64 k1.n.c.rev))/\(W.cell? (m25 X)=some (.slice r3.v.ab r3.v.nb r3.v.cb))/\(W.cell? (m00 gh)=some (.int .u64 h0)/\W.cell? (m15 gh)=some (.int .u64 h1))/\(W.cell? (m00 g)=some (.int .u64 f0)/\W.cell? (m15 g)=some (.int .u64 f1))/\(W.cell? (m47 X)=some (.int .i64 k1.slot))):=zH (fun W e1 e2 e3=>⟨⟨congrArg Tp.Cur.p hcc▸cA e1 7,congrArg Tp.Cur.q hcc▸cA e1 8,congrArg Tp.Cur.sl hcc▸cA e1 9,congrArg Tp.Cur.rev hcc▸cA e1 10⟩,cA e1 2,⟨cA e2 0,cA e2 1⟩,⟨cA e3 0,cA e3 1⟩,cA e1 17⟩)
 have hq:=HQ.out w6 H6.out.box GH6.out G6.out
 refine wX 0 rfl ?_
 refine wX 1 rfl ?_
 refine wX 2 rfl ?_
 refine wX 3 rfl ?_
 refine wX 4 rfl ?_
 refine wY 0 5 rfl rfl (hq.1) ?_
 refine wX 6 rfl ?_
 refine wX 7 rfl ?_
 refine wX 8 rfl ?_
 refine wX 9 rfl ?_
 refine wX 10 rfl ?_
 refine wY 1 11 rfl rfl (hq.2.1) ?_
 refine wY 2 12 rfl rfl (hq.2.2.1) ?_
 refine wY 3 13 rfl rfl (hq.2.2.2.1) ?_
 refine wX 14 rfl ?_
 refine wX 15 rfl ?_
 refine wX 16 rfl ?_
 refine wX 17 rfl ?_
 refine wY 4 18 rfl rfl (hq.2.2.2.2) ?_
 refine cK 19 (by kernel_rfl) rfl (fun K hK=>?_)
 go_simp
 refine(aGn k1.n.c.p k1.n.c.q k1.n.c.sl k1.n.c.rev r3.v.ab r3.v.nb r3.v.cb k1.n.v.b h0 h1 f0 f1 fi k1.slot w6 H6.out.nd.v.ok.b.len H6.out.nd.v.ok.bm H6.out.nd.v.ok.u H6.out.nd.v.ok.b.rows.blks hrev1).mono ?_
 rintro e w7 ⟨rfl,hb7⟩
 have hmv:Tp.move ⟨k1.n.c.p,k1.n.c.q,k1.n.c.sl,k1.n.c.rev⟩ k1.n.v.b (h0,h1) (f0,f1) fi k1.slot=mv:=HMV.out
 rw[hmv]
 have H7:=zH (H6.out.keep hb7)
 have hq7:=HQ.out w7 H7.out.box (bK hb7 GH6.out) (bK hb7 G6.out)
 obtain⟨h8,K8⟩:=H7.out.storeC mv
 have H8:=zH h8
 have K8:=zH ((cQ (S:=fun j=>j=X) hb7).trans K8)
 have f7:=cH H7.out.box 7;have f8:=cH H7.out.box 8;have f9:=cH H7.out.box 9;have f10:=cH H7.out.box 10
 clear h8 hb7 hmv
 refine hK.out _ _ ?_ ?_
 ·exact(hl5 hq7)
 clear hK K;try simp only[Act.put,pA,pB,pC]
 refine wX 20 rfl ?_
 refine wX 21 rfl ?_
 refine wX 22 rfl ?_
 refine cK 23 (by kernel_rfl) rfl (fun K hK=>?_)
 obtain⟨z7,z8,z9,z10⟩:=hq7.1
 go_simp
 refine hK.out _ _ ?_ ?_
 ·exact⟨.inr (by kernel_rfl),.inr (by kernel_rfl),.inr (by kernel_rfl),.inr (by kernel_rfl),.inr (by kernel_rfl),trivial⟩
 clear hK K;try simp only[Act.put,pA,pB,pC]
 refine cO (by kernel_rfl) ?_ _
 have HKZ:=zH ((K4.out.thenB (B6.out.mono K4.out.size)).trans K8.out)
 try dsimp only
 go_wp2_with fail
 exact bodyPost_end (v:=.tuple #[]) (results_none rfl _ _ _) rfl ⟨rfl,⟨_,_,_,_,_,_,HFE.out▸H8.out⟩,HKZ.out⟩
end
namespace Tp
structure Ac where
 tick:Int
 dest:Int
 offer:Bool
 v:Vw
structure Wd where
 c:Cf
 bad:List Int
 tick:Int
 n:List Nd
 o:List Off
def gH (n:Nd):Vw:=join n.v n.inn
def eT (x:Vw) (l:List Nd):Vw:=l.foldl (fun w n=>join w (gH n)) x
def all (l:List Nd):Vw:=eT ⟨[],[]⟩ l
def sC (w:Wd):Int:=mG w.c (w.tick/3)
def nS (w:Wd):Bool:=has w.bad (sC w)
def calls (w:Wd) (l:List Ac):List Ac:=l.filter (fun a=>decide (a.tick=w.tick)&&decide (0<=a.dest))
def fine (w:Wd) (a:Ac):Vw:=⟨a.v.b.filter (fun b=>has w.bad b.who||has (all w.n).b b),a.v.v.filter (fun v=>has w.bad v.who||has (all w.n).v v)⟩
def pX (d:Int) (i:Nat):Bool:=decide (d/2 ^ i%2≠0)
def dH (w:Wd) (i:Nat) (io:Vw×List Off) (a:Ac):Vw×List Off:=
 if pX a.dest i then
  if a.offer then
   match (fine w a).b with
   | []=>io
   |b::r=>if nS w then(io.1,io.2++[⟨w.tick/3,sC w,b,⟨r,(fine w a).v⟩⟩])else io
  else(join io.1 (fine w a),io.2)
 else io
def eY (w:Wd) (l:List Ac) (i:Nat):Vw×List Off:=(calls w l).foldl (dH w i) (all w.n,w.o)
def eX (w:Wd) (l:List Ac) (i:Nat) (n:Nd):Nd×List Off:=step w.c n (eY w l i).1 (eY w l i).2
def doN (w:Wd) (l:List Ac):List Nd:=w.n.mapIdx (fun i n=>(eX w l i n).1)
def doO (w:Wd) (l:List Ac) (j:Nat):List Off:=((w.n.mapIdx (fun i n=>(eX w l i n).2)).take j).flatten
def doW (w:Wd) (l:List Ac):Wd:=⟨w.c,w.bad,w.tick+1,doN w l,doO w l w.n.length⟩
def newN (i:Int):Nd:=⟨i,3,⟨[],[]⟩,⟨[],[]⟩,[],⟨0,0,0,0⟩,false⟩
def newW (c:Cf) (bad:List Int):Wd:=⟨c,bad,3,((List.range c.W.length).filter (fun i:Nat=>!has bad (i:Int))).map (fun i:Nat=>newN (i:Int)),[]⟩
def gF (x:Vw) (o:List Off):Vw:=o.foldl (fun x o=>join (join x o.v) (lone o.b)) x
def mF (x:Vw) (l:List Ac):Vw:=l.foldl (fun x a=>join x a.v) x
def seen (w:Wd) (l:List Ac):Vw:=mF (gF (all w.n) w.o) l
end Tp
structure NE where
 r:RN
 os:List (RO×Tp.Vw)
 k:Tp.Nd
structure eE (w:World) (a:Option Addr) (n c:Nat) (l:List NE):Prop where
 sl:SlV aT 12 w a n c (l.map NE.r)
 nil:a=none->n=0/\c=0
 nd:∀p∈l,NdR w p.r p.os p.k
 bd:n<=1000000
def mP (a:Option Addr) (n:Nat) (l:List NE) (X:Nat):Prop:=fR a n X/\∀p∈l,gU p.r p.os X
theorem eE.below {w w':World}{a:Option Addr}{n c B:Nat}{l:List NE}(h:eE w a n c l)(hb:Below B w w')(hB:w.heap.size<=B):eE w' a n c l:=⟨h.sl.below hb hB,h.nil,fun p hp=>(h.nd p hp).below hb hB,h.bd⟩
theorem eE.keep {w w':World}{a:Option Addr}{n c:Nat}{l:List NE}(h:eE w a n c l)(hb:Below w.heap.size w w'):eE w' a n c l:=h.below hb nr
theorem eE.keepS {w w':World}{a:Option Addr}{n c X:Nat}{l:List NE}(h:eE w a n c l)(hk:aC (· =X) w w')(ho:mP a n l X):eE w' a n c l:=⟨h.sl.keepS hk ho.1,h.nil,fun p hp=>(h.nd p hp).keepS hk (ho.2 p hp),h.bd⟩
theorem eE.away {w:World}{a:Option Addr}{n c X:Nat}{l:List NE}(h:eE w a n c l)(hX:w.heap.size<=X):mP a n l X:=⟨h.sl.away hX,fun p hp=>(h.nd p hp).away hX⟩
theorem eE.len {w:World}{a:Option Addr}{n c:Nat}{l:List NE}(h:eE w a n c l):l.length=n:=by have:=h.sl.len;rwa [List.length_map]at this
theorem eE.cells {w:World}{a:Option Addr}{n c:Nat}{l:List NE}(h:eE w a n c l){j:Nat}(hj:j<l.length){p:NE}(hp:l[j]=p):∃b o,a=some ⟨b,o,none⟩/\b<w.heap.size/\∀i,i<12->w.cell? (m09 b (o+j*12+i))=(aT p.r)[i]?:=by
 rcases h.sl.rows with h0|⟨b,o,ho,hlt,hc⟩
 ·rw[List.length_map]at h0;omega
 ·refine⟨b,o,ho,hlt,fun i hi=>?_⟩
  have:=hc j (by rw[List.length_map];exact hj) i hi
  rw[List.getElem_map,hp]at this
  exact this
end Go.Proofs.YtbbhinehcncmeaaGreat
