/- A part of the proof of the laws of the top: TpCursors. No condition. -/
import Derived.Test.YtbbhinehcncmeaaGreatG37
import Derived.Test.YtbbhinehcncmeaaGreatG42
namespace Go.Proofs.YtbbhinehcncmeaaGreat
open Go.RowKit
set_option linter.unusedSimpArgs false
set_option linter.unusedVariables false
set_option linter.unusedSectionVars false
set_option maxRecDepth 100000
set_option maxHeartbeats 8000000
theorem aNr (p q sl rev:Int)(w:World):(Op.equalIn 10000 42 (.agg (m37 p q sl rev)) (.agg (m37 p q sl rev))).run Tryz.prog w=.ok true w:=by
 have ht:Tryz.prog.underlying 42=some (.struct (Tryz.prog.fieldsOf 42)):=by kernel_rfl
 have hp:Tryz.prog.stoodInHeld 42=false:=by kernel_rfl
 have hf:(Tryz.prog.fieldsOf 42).toList.map (fun f=>(f.name,f.type,f.offset))=[("ID",40,0),("Slot",3,2),("Revoked",3,3)]:=by kernel_rfl
 rw[show(10000:Nat)=9999+1 from rfl,run_equalIn_struct w 9999 _ _ _ ht hp]
 generalize(Tryz.prog.fieldsOf 42).toList=fs at hf
 obtain⟨f0,f1,f2,rfl,h0,h1,h2⟩:=wG hf
 simp only[Prod.mk.injEq]at h0 h1 h2
 obtain⟨n0,t0,o0⟩:=h0
 obtain⟨n1,t1,o1⟩:=h1
 obtain⟨n2,t2,o2⟩:=h2
 have uE:=Tryz.underlying3
 have aE:=Tryz.isAgg3
 have aI:=Tryz.isAgg40
 have e:=fun w=>eqID 9997 p q p q w
 simp only[Op.eqFields,n0,n1,n2,t0,t1,t2,o0,o1,o2]
 go_simp
structure CurF (C:Tp.Cf) (t:Nat) (a b:RN) (y:Tp.Vw):Prop where
 c:t%3≠2->b.p=a.p/\b.q=a.q/\b.sl=a.sl/\b.rev=a.rev
 lo:a.rev<=b.rev
 hi:b.rev<=a.rev+1
 sl:b.sl<=(t:Int)/3
 un:t%3=2->(b.rev==a.rev)=Tp.sI y.b (a.p,a.q) (Tp.aL C y (Tp.dA b.tick))
 ch:Tp.chain y.b (b.p,b.q)≠[]
 tk:1<=b.tick/\b.tick<=1000000
 rv:0<=a.rev/\a.rev<=t
theorem LawR.curF {C:Tp.Cf}{ca:Option Addr}{cn cc:Nat}{acts:List Tp.Ac}{w wr w7:World}{G t i:Nat}{r r7:RW}{ns ns7:List NE}{os os7:List (RO×Tp.Vw)}{k:Tp.Wd}(h:LawR C ca cn cc acts w G t r ns os k wr)(hW:WdR w7 r7 ns7 os7 (Tp.doW k acts))(ht:t<1000){pa pb:NE}(hi:i<ns.length)(hi7:i<ns7.length)(ha:ns[i]=pa)(hb:ns7[i]=pb):
  CurF C t pa.r pb.r pb.k.v:=by
 have hk:k.n[i]?=some pa.k:=by rw[h.wd.kn,List.getElem?_map,List.getElem?_eq_getElem hi,ha];rfl
 obtain⟨h1,Q⟩:=h.ok.cur hk
 rw[hW.kn,List.getElem?_map,List.getElem?_eq_getElem hi7,hb]at h1
 have e:pb.k=(Tp.eX k acts i pa.k).1:=by simpa using h1
 rw[<-e]at Q
 have na:=h.wd.n.nd pa (ha▸List.getElem_mem hi)
 have nb:=hW.n.nd pb (hb▸List.getElem_mem hi7)
 have ca:=na.c
 have cb:=nb.c
 have tb:=nb.tick
 have htk:=h.tk
 have e3:(t:Int)%3=2↔t%3=2:=by omega
 refine⟨fun h2=>?_,?_,?_,?_,fun h2=>?_,?_,?_,?_⟩
 ·have:=Q.c (by rw[htk];omega)
  rw[ca,cb]at this
  simpa using this
 ·have:=Q.lo;rw[ca,cb]at this;exact this
 ·have:=Q.hi;rw[ca,cb]at this;exact this
 ·have:=Q.sl;rw[cb,htk]at this;exact this
 ·have:=Q.un (by rw[htk];omega)
  rw[ca,cb,h.c,htk]at this
  have hs:Tp.dA pb.r.tick=(t:Int)/3:=by
   unfold Tp.dA
   rw[tb,Q.tk,htk,if_pos (by omega)]
   omega
  rw[hs,<-this]
  try rfl
 ·have:=Q.ch;rw[cb]at this;exact this
 ·rw[tb,Q.tk,htk];omega
 ·have:=Q.rv;rw[ca,htk]at this;exact this
theorem uA (ca:Option Addr)(cn cc:Nat)(C:Tp.Cf)(ba:Option Addr)(bn bc:Nat)(bad:List Int)(a:Option Addr)(n c:Nat)(al:List (RA×Tp.Vw))(slots:Int)(w:World)(hC:aP w ca cn C.W C.sd)(hB:SlV intC 1 w ba bn bc bad)(hB0:ba=none->bn=0/\bc=0)(hA:SlV actC 5 w a n c (al.map Prod.fst))(hQ:∀p∈al,aHx w p):
  Calls Tryz.prog 3 #[.agg (m02 ca cn cc C),.slice ba bn bc,.slice a n c,.int .i64 slots] w fun e w'=>e=.returned (.bool true)/\Below w.heap.size w w':=by
 have HC0:=zH hC
 have HB0:=zH (And.intro hB hB0)
 have HA0:=zH hA
 have HQ0:=zH hQ
 have hbn:bn<=9223372036854775807:=Nat.le_trans hB.cap hB.top
 have HBN:=zH hbn
 have hal:Below w.heap.size w (w.alloc (.cells (m02 ca cn cc C) 25)):=(Below.refl _ _).alloc nr _
 have hb0:(w.alloc (.cells (m02 ca cn cc C) 25)).heap[w.heap.size]?=some (.cells (m02 ca cn cc C) 25 (0,0)):=heap_alloc_new w _
 obtain⟨few,hfew⟩:∃z,wE C.W C.ep C.nu C.de cn bn (al.map Prod.fst) slots=z:=⟨_,rfl⟩
 have HFEW:=zH hfew
 clear hC hB hB0 hA hQ hfew hbn
 go_enter Tryz.func3,Tryz.ntmps3
 go_wp2_with fail
 generalize(w.alloc (.cells (m02 ca cn cc C) 25))=w1 at hal hb0⊢
 have D1:=zH hal
 have HBX:=zH hb0
 clear hal hb0
 refine(oO w1).mono ?_
 rintro e w2 ⟨rfl,hb2⟩
 have hbx2:=bK hb2 HBX.out
 have D2:=zH (bS D1.out hb2)
 have HBX2:=zH hbx2
 obtain⟨c0,c1,c2,c3,c4⟩:=kc5 hbx2
 clear hbx2 hb2
 try dsimp only
 go_wp2_with fail
 refine(jK ca cn cc C.W C.sd C.ep C.nu C.de ba bn bc a n c (al.map Prod.fst) slots w2 (HC0.out.keep D2.out) (HA0.out.keep D2.out) HBN.out).mono ?_
 rintro e w3 ⟨rfl,hb3⟩
 rw[HFEW.out]
 have hbx3:=bK hb3 HBX2.out
 have D3:=zH (bS D2.out hb3)
 have HBX3:=zH hbx3
 clear c0 c1 c2 c3 c4
 obtain⟨c0,c1,c2,c3,c4⟩:=kc5 hbx3
 clear hbx3 hb3
 cases few with
 |false=>
  try dsimp only
  go_wp2_with fail
  go_ret
  exact⟨rfl,D3.out⟩
 |true=>
  have HF:=zH (oC HFEW.out)
  have HAC:=zH (wR HA0.out HQ0.out HF.out.2.2.2.2.2.1 HF.out.2.2.2.2.2.2)
  have HOK:Hid (Tp.WOk (al.map toAc) (Tp.newW C bad)):=zH (Tp.qY HF.out.1 HAC.out.2.1 HAC.out.2.2)
  have hs1:=HF.out.2.2.2.1
  have hs2:=HF.out.2.2.2.2.1
  try dsimp only
  go_wp2_with fail
  refine(qX ca cn cc C ba bn bc bad w3 (HC0.out.keep D3.out) HF.out.1 (Nat.le_trans HF.out.2.1 (by omega)) (HB0.out.1.keep D3.out) (Nat.le_trans HF.out.2.2.1 (by omega)) HB0.out.2).mono ?_
  rintro e w4 ⟨r,ns,rfl,hW4,-,hb4⟩
  simp only[aR]
  have hbx4:=bK hb4 HBX3.out
  have HR:Hid (LawR C ca cn cc (al.map toAc) w w4.heap.size 3 r ns [] (Tp.newW C bad) (w4.alloc (.cells (m10 r.aw r.nw r.cw C r.ba r.bn r.bc r.tick r.na r.nn r.nc r.oa r.on r.oc) 32))):=zH (LawR.start hW4 (bS D3.out hb4) hbx4 HOK.out)
  clear c0 c1 c2 c3 c4 hW4 hb4 hbx4
  try dsimp only
  go_wp2_with fail
  generalize w4.alloc (.cells (m10 r.aw r.nw r.cw C r.ba r.bn r.bc r.tick r.na r.nn r.nc r.oa r.on r.oc) 32)=w5 at HR⊢
  generalize w4.heap.size=G at HR⊢
  go_loopw [12] (fun i_ wr=>∃(t:Nat) (r:RW) (ns:List NE) (os:List (RO×Tp.Vw)) (k:Tp.Wd),(t:Int)<=3*slots+3/\i_=.int .i64 t/\LawR C ca cn cc (al.map toAc) w G t r ns os k wr) (fun i_ _=>15-(intOf i_).toNat)
  case atStart=>exact⟨3,_,_,_,_,by omega,rfl,HR.out⟩
  case round=>
   clear HR
   obtain⟨t,r,ns,os,k,ht,rfl,hR⟩:=hrel
   have HR:=zH hR
   by_cases hlt:(t:Int)<3*slots+3
   case neg=>
    clear hR
    go_wp2_with fail
    go_ret
    exact⟨rfl,HR.out.bel⟩
   have hkt:k.tick=t:=HR.out.tk
   have HST:=zH (HR.out.ok.step (al':=al.map toAc) (.inl rfl) (by rw[hkt];omega))
   clear hkt
   obtain⟨d0,d1,d2,d3,d4,d5,d6,d7,d8⟩:=kc9 hR.box
   clear hR
   go_wp2_with fail
   have ho:=@tY ⟨fun b=>b=G⟩ r ns os k a n c al wr HR.out.wd (HAC.out.1.below HR.out.bel nr) HST.out.2.1 (by
    rintro b rfl
    exact⟨(gS HR.out.box),HR.out.off⟩)
   rw[HR.out.c]at ho
   simp only[aR]at ho
   refine ho.mono ?_
   clear ho
   rintro e w7 ⟨⟨a7,n7,c7,b7,bn7,bc7,tk7,na7,nn7,nc7,oa7,on7,oc7⟩,ns7,os7,rfl,hW7,hO7,hb7⟩
   have htk:tk7=(t:Int)+1:=hW7.tick.trans (by show k.tick+1=_;rw[HR.out.tk])
   subst htk
   clear d0 d1 d2 d3 d4 d5 d6 d7 d8
   have H8:=zH (And.intro (hW7.keep (show Below w7.heap.size w7 (w7.alloc (.cells (m10 a7 n7 c7 C b7 bn7 bc7 (t+1) na7 nn7 nc7 oa7 on7 oc7) 32))from(Below.refl _ _).alloc nr _)) (show(w7.alloc (.cells (m10 a7 n7 c7 C b7 bn7 bc7 (t+1) na7 nn7 nc7 oa7 on7 oc7) 32)).heap[w7.heap.size]?=some (.cells (m10 a7 n7 c7 C b7 bn7 bc7 (t+1) na7 nn7 nc7 oa7 on7 oc7) 32 (0,0))from heap_alloc_new w7 _))
   have HB8:Hid (Below wr.heap.size wr (w7.alloc (.cells (m10 a7 n7 c7 C b7 bn7 bc7 (t+1) na7 nn7 nc7 oa7 on7 oc7) 32))):=zH (bS hb7 ((Below.refl _ _).alloc nr _))
   have HO7:=zH (hO7 G rfl)
   have hnn:nn7<=1000000:=hW7.n.bd
   clear hW7 hO7 hb7
   try dsimp only
   go_wp2_with fail
   generalize(w7.alloc (.cells (m10 a7 n7 c7 C b7 bn7 bc7 (t+1) na7 nn7 nc7 oa7 on7 oc7) 32))=w8 at H8 HB8⊢
   generalize w7.heap.size=H at H8⊢
   go_loopw [14] (fun i_ wr=>∃i:Nat,i<=nn7/\i_=.int .i64 i/\Below w8.heap.size w8 wr) (fun i_ _=>nn7-(intOf i_).toNat)
   case atStart=>exact⟨0,by omega,rfl,Below.refl _ _⟩
   case round=>
    obtain⟨i,hi,rfl,hb⟩:=hrel
    have HBI:=zH hb
    have HL:=zH (HR.out.keep (bS HB8.out hb))
    have HN:=zH (H8.out.1.keep hb)
    have HX:=zH (bK hb H8.out.2)
    clear hb
    by_cases hin:i<nn7
    case neg=>
     have hbG:=HL.out.box
     have hbH:=HX.out
     obtain⟨e0,e1,e2,e3,e4,e5,e6,e7,e8⟩:=kc9 hbH
     have d0:=cH hbG 0
     have z0:wr.cell? (m00 G)=some (.slice r.aw r.nw r.cw):=cA hbG 0
     have d1:=cH hbG 1
     have z1:wr.cell? (m15 G)=some (.int .u64 C.sd):=cA hbG 1
     have d2:=cH hbG 2
     have z2:wr.cell? (m25 G)=some (.int .i64 C.ep):=cA hbG 2
     have d3:=cH hbG 3
     have z3:wr.cell? (m33 G)=some (.int .i64 C.nu):=cA hbG 3
     have d4:=cH hbG 4
     have z4:wr.cell? (m35 G)=some (.int .i64 C.de):=cA hbG 4
     have d5:=cH hbG 5
     have z5:wr.cell? (m65 G)=some (.slice r.ba r.bn r.bc):=cA hbG 5
     have d6:=cH hbG 6
     have z6:wr.cell? (m39 G)=some (.int .i64 r.tick):=cA hbG 6
     have d7:=cH hbG 7
     have z7:wr.cell? (m36 G)=some (.slice r.na r.nn r.nc):=cA hbG 7
     have d8:=cH hbG 8
     have z8:wr.cell? (m60 G)=some (.slice r.oa r.on r.oc):=cA hbG 8
     have T9:=cM [.slice a7 n7 c7,.int .u64 C.sd,.int .i64 C.ep,.int .i64 C.nu,.int .i64 C.de,.slice b7 bn7 bc7,.int .i64 (t+1),.slice na7 nn7 nc7,.slice oa7 on7 oc7] 0 _ _ hbG (by show(9:Nat)<=9;omega)
     have HL9:Hid (LawR C ca cn cc (al.map toAc) w G (t+1) ⟨a7,n7,c7,b7,bn7,bc7,t+1,na7,nn7,nc7,oa7,on7,oc7⟩ ns7 os7 (Tp.doW k (al.map toAc)) ((((m06 wr G a7 n7 c7 C b7 bn7 bc7:World).setCell (m39 G) (m30 (t+1))).setCell (m36 G) (m63 na7 nn7 nc7)).setCell (m60 G) (m63 oa7 on7 oc7))):=zH (HL.out.next (Below.refl _ _) HN.out HO7.out (.inl rfl) (by omega) T9)
     have y7:wr.cell? (m36 H)=some (.slice na7 nn7 nc7):=cA hbH 7
     clear hbG hbH T9
     go_wp2_with fail
     exact⟨⟨t+1,_,_,_,_,by omega,by go_num,HL9.out⟩,by simp[intOf];omega⟩
    have hlen:ns.length=ns7.length:=by
     have h1:=congrArg List.length HN.out.kn
     have h2:=congrArg List.length HL.out.wd.kn
     rw[List.length_map]at h1 h2
     rw[<-h1,<-h2]
     show k.n.length=(k.n.mapIdx _).length
     rw[List.length_mapIdx]
    have hil7:i<ns7.length:=by rw[HN.out.n.len];exact hin
    have hil:i<ns.length:=by omega
    obtain⟨pa,hpa⟩:∃p,ns[i]=p:=⟨_,rfl⟩
    obtain⟨pb,hpb⟩:∃p,ns7[i]=p:=⟨_,rfl⟩
    have HCU:=zH (HL.out.curF HN.out (by omega) hil hil7 hpa hpb)
    have i0:(0:Int)<=i:=by omega
    have i1:(i:Int)<nn7:=by omega
    have i2:(i:Int)<r.nn:=by have:=HL.out.wd.n.len;omega
    obtain⟨b0,o0,hna,hlta,hca⟩:=HL.out.wd.n.cells hil hpa
    obtain⟨b1,o1,hnb,hltb,hcb⟩:=HN.out.n.cells hil7 hpb
    have hnb2:na7=some ⟨b1,o1,none⟩:=hnb
    have HCB:Hid (b1<wr.heap.size/\∀q,q<12->wr.cell? (m09 b1 (o1+i*12+q))=(aT pb.r)[q]?):=zH ⟨hltb,hcb⟩
    have x7:wr.cell? (m36 G)=some (.slice (some (m09 b0 o0)) r.nn r.nc):=by rw[<-hna];exact cA HL.out.box 7
    have HY7:=zH (show wr.heap[H]?=some (.cells #[.slice a7 n7 c7,.int .u64 C.sd,.int .i64 C.ep,.int .i64 C.nu,.int .i64 C.de,.slice b7 bn7 bc7,.int .i64 (t+1),.slice (some (m09 b1 o1)) nn7 nc7,.slice oa7 on7 oc7] 32 (0,0)) by rw[<-hnb2];exact HX.out)
    have y70:wr.cell? (m36 H)=some (.slice (some (m09 b1 o1)) nn7 nc7):=cA HY7.out 7
    have hal9:Below wr.heap.size wr (wr.alloc (.cells (m37 pa.r.p pa.r.q pa.r.sl pa.r.rev) 42)):=(Below.refl _ _).alloc nr _
    have y7:(wr.alloc (.cells (m37 pa.r.p pa.r.q pa.r.sl pa.r.rev) 42)).cell? (m36 H)=some (.slice (some (m09 b1 o1)) nn7 nc7):=cA (bK hal9 HY7.out) 7
    have ma7:wr.cell? (m09 b0 (o0+i*12+7))=some (.int .u64 pa.r.p):=hca 7 (by omega)
    have ma8:wr.cell? (m09 b0 (o0+i*12+8))=some (.int .u64 pa.r.q):=hca 8 (by omega)
    have ma9:wr.cell? (m09 b0 (o0+i*12+9))=some (.int .i64 pa.r.sl):=hca 9 (by omega)
    have ma10:wr.cell? (m09 b0 (o0+i*12+10))=some (.int .i64 pa.r.rev):=hca 10 (by omega)
    have mb7:(wr.alloc (.cells (m37 pa.r.p pa.r.q pa.r.sl pa.r.rev) 42)).cell? (m09 b1 (o1+i*12+7))=some (.int .u64 pb.r.p):=(hal9.cell (p:=(m09 b1 (o1+i*12+7))) hltb).trans (hcb 7 (by omega))
    have mb8:(wr.alloc (.cells (m37 pa.r.p pa.r.q pa.r.sl pa.r.rev) 42)).cell? (m09 b1 (o1+i*12+8))=some (.int .u64 pb.r.q):=(hal9.cell (p:=(m09 b1 (o1+i*12+8))) hltb).trans (hcb 8 (by omega))
    have mb9:(wr.alloc (.cells (m37 pa.r.p pa.r.q pa.r.sl pa.r.rev) 42)).cell? (m09 b1 (o1+i*12+9))=some (.int .i64 pb.r.sl):=(hal9.cell (p:=(m09 b1 (o1+i*12+9))) hltb).trans (hcb 9 (by omega))
    have mb10:(wr.alloc (.cells (m37 pa.r.p pa.r.q pa.r.sl pa.r.rev) 42)).cell? (m09 b1 (o1+i*12+10))=some (.int .i64 pb.r.rev):=(hal9.cell (p:=(m09 b1 (o1+i*12+10))) hltb).trans (hcb 10 (by omega))
    have hnd:=HN.out.n.nd pb (hpb▸List.getElem_mem hil7)
    have HND:=zH hnd
    have hva:Below wr.heap.size wr ((wr.alloc (.cells (m37 pa.r.p pa.r.q pa.r.sl pa.r.rev) 42)).alloc (.cells (m37 pb.r.p pb.r.q pb.r.sl pb.r.rev) 42)):=cR _ _
    have hbA:((wr.alloc (.cells (m37 pa.r.p pa.r.q pa.r.sl pa.r.rev) 42)).alloc (.cells (m37 pb.r.p pb.r.q pb.r.sl pb.r.rev) 42)).heap[wr.heap.size]?=some (.cells (m37 pa.r.p pa.r.q pa.r.sl pa.r.rev) 42 (0,0)):=by rw[cF,if_neg (by simp),cF,if_pos rfl]
    have hbB:((wr.alloc (.cells (m37 pa.r.p pa.r.q pa.r.sl pa.r.rev) 42)).alloc (.cells (m37 pb.r.p pb.r.q pb.r.sl pb.r.rev) 42)).heap[wr.heap.size+1]?=some (.cells (m37 pb.r.p pb.r.q pb.r.sl pb.r.rev) 42 (0,0)):=by rw[cF,if_pos (by simp)]
    obtain⟨⟨g0,g1⟩,hg⟩:∃z,Tp.aL C pb.k.v (Tp.dA pb.r.tick)=z:=⟨_,rfl⟩
    obtain⟨ub,hub⟩:∃z,Tp.sI pb.k.v.b (pa.r.p,pa.r.q) (g0,g1)=z:=⟨_,rfl⟩
    have HG:=zH hg
    have HU:=zH hub
    have HUN:Hid (t%3=2->(pb.r.rev==pa.r.rev)=ub):=zH (fun h2=>by rw[HCU.out.un h2,hg,hub])
    have HLN:Hid ((Tp.chain pb.k.v.b (pb.r.p,pb.r.q)).length≠0):=zH (fun e=>HCU.out.ch (List.length_eq_zero_iff.1 e))
    have r0:=HCU.out.rv.1
    have r1:=HCU.out.rv.2
    have q1:decide (pb.r.rev<pa.r.rev)=false:=decide_eq_false (by have:=HCU.out.lo;omega)
    have q2:decide (pa.r.rev+1<pb.r.rev)=false:=decide_eq_false (by have:=HCU.out.hi;omega)
    have q3:decide ((t:Int)/3<pb.r.sl)=false:=decide_eq_false (by have:=HCU.out.sl;omega)
    have hdv:IntKind.i64.wrap ((t:Int).tdiv 3)=(t:Int)/3:=by rw[IntKind.wrap_i64,Int.tdiv_eq_ediv_of_nonneg (by omega)];omega
    have tmd:Int.tmod (t:Int) 3=((t%3:Nat):Int):=by rw[Int.tmod_eq_emod_of_nonneg (by omega)];omega
    clear hal9 hpa hpb hna hnb hnb2 hlta hltb hca hcb hnd hg hub hlen hil hil7 hi
    have he:t%3≠2->∀w,(Op.equalIn 10000 42 (.agg (m37 pa.r.p pa.r.q pa.r.sl pa.r.rev)) (.agg (m37 pb.r.p pb.r.q pb.r.sl pb.r.rev))).run Tryz.prog w=.ok true w:=fun h2 w=>by
     obtain⟨e1,e2,e3,e4⟩:=HCU.out.c h2
     rw[e1,e2,e3,e4]
     exact aNr _ _ _ _ w
    by_cases h2:t%3=2
    ·have hT:((t:Int)%3==2)=true:=by simp;omega
     have hT2:((t:Int)%3 != 2)=false:=by simp;omega
     have HE:=zH (HUN.out h2)
     have hT3:(Int.tmod (t:Int) 3==2)=true:=by rw[tmd,h2];rfl
     clear tmd he h2
     go_wp2_with fail
     generalize((wr.alloc (.cells (m37 pa.r.p pa.r.q pa.r.sl pa.r.rev) 42)).alloc (.cells (m37 pb.r.p pb.r.q pb.r.sl pb.r.rev) 42))=w10 at hva hbA hbB⊢
     generalize hA:wr.heap.size=A at hbA hbB⊢
     refine cN [(1,fun W=>W.cell? (m36 H)=some (.slice (some (m09 b1 o1)) nn7 nc7)),(6,fun W=>W.cell? (m09 b1 (o1+i*12+2))=some (m41 pb.r.v:Value)),(8,fun W=>W.cell? (m00 A)=some (.int .u64 pa.r.p)/\W.cell? (m15 A)=some (.int .u64 pa.r.q)),(9,fun W=>W.cell? (m07 w)=some (.slice ca cn cc)/\W.cell? (m14 w)=some (.int .u64 C.sd)/\W.cell? (m17 w)=some (.int .i64 C.ep)/\W.cell? (m19 w)=some (.int .i64 C.nu)/\W.cell? (m27 w)=some (.int .i64 C.de)),(11,fun W=>W.cell? (m36 H)=some (.slice (some (m09 b1 o1)) nn7 nc7)),(14,fun W=>W.cell? (m09 b1 (o1+i*12))=some (.int .i64 pb.r.no)/\W.cell? (m09 b1 (o1+i*12+1))=some (.int .i64 pb.r.tick)/\W.cell? (m09 b1 (o1+i*12+2))=some (m41 pb.r.v:Value)/\W.cell? (m09 b1 (o1+i*12+3))=some (m42 pb.r.v:Value)/\W.cell? (m09 b1 (o1+i*12+4))=some (m41 pb.r.inn:Value)/\W.cell? (m09 b1 (o1+i*12+5))=some (m42 pb.r.inn:Value)/\W.cell? (m09 b1 (o1+i*12+6))=some (.slice pb.r.oa pb.r.on pb.r.oc)/\W.cell? (m09 b1 (o1+i*12+7))=some (.int .u64 pb.r.p)/\W.cell? (m09 b1 (o1+i*12+8))=some (.int .u64 pb.r.q)/\W.cell? (m09 b1 (o1+i*12+9))=some (.int .i64 pb.r.sl)/\W.cell? (m09 b1 (o1+i*12+10))=some (.int .i64 pb.r.rev)/\W.cell? (m09 b1 (o1+i*12+11))=some (.bool pb.r.full))] (by kernel_rfl) ?_
     show aB _ _ _ _ _ _ _ _ w10.drew
     have hd10:=(Below.refl w10.heap.size w10).drew
     have hbA11:=bK hd10 hbA
     have hbB11:=bK hd10 hbB
     have D11:=zH hva.drew
     clear hva hbA hbB hd10
     generalize w10.drew=w11 at D11 hbA11 hbB11⊢
     have HAB:=zH (And.intro hbA11 hbB11)
     have HV:=zH (And.intro (HND.out.v.keep D11.out) (HND.out.v.keep D11.out).ok)
     have HCF:=zH (HC0.out.below (HL.out.bel.trans (D11.out.mono HL.out.bel.size)) nr)
     have HQ:Hid (∀W:World,Below w11.heap.size w11 W->(W.cell? (m36 H)=some (.slice (some (m09 b1 o1)) nn7 nc7))/\(W.cell? (m09 b1 (o1+i*12+2))=some (m41 pb.r.v:Value))/\(W.cell? (m00 A)=some (.int .u64 pa.r.p)/\W.cell? (m15 A)=some (.int .u64 pa.r.q))/\(W.cell? (m07 w)=some (.slice ca cn cc)/\W.cell? (m14 w)=some (.int .u64 C.sd)/\W.cell? (m17 w)=some (.int .i64 C.ep)/\W.cell? (m19 w)=some (.int .i64 C.nu)/\W.cell? (m27 w)=some (.int .i64 C.de))/\(W.cell? (m09 b1 (o1+i*12))=some (.int .i64 pb.r.no)/\W.cell? (m09 b1 (o1+i*12+1))=some (.int .i64 pb.r.tick)/\W.cell? (m09 b1 (o1+i*12+2))=some (m41 pb.r.v:Value)/\W.cell? (m09 b1 (o1+i*12+3))=some (m42 pb.r.v:Value)/\W.cell? (m09 b1 (o1+i*12+4))=some (m41 pb.r.inn:Value)/\W.cell? (m09 b1 (o1+i*12+5))=some (m42 pb.r.inn:Value)/\W.cell? (m09 b1 (o1+i*12+6))=some (.slice pb.r.oa pb.r.on pb.r.oc)/\W.cell? (m09 b1 (o1+i*12+7))=some (.int .u64 pb.r.p)/\W.cell? (m09 b1 (o1+i*12+8))=some (.int .u64 pb.r.q)/\W.cell? (m09 b1 (o1+i*12+9))=some (.int .i64 pb.r.sl)/\W.cell? (m09 b1 (o1+i*12+10))=some (.int .i64 pb.r.rev)/\W.cell? (m09 b1 (o1+i*12+11))=some (.bool pb.r.full))/\(W.cell? (m33 A)=some (.int .i64 pa.r.rev))/\(W.cell? ⟨A+1,3,none⟩=some (.int .i64 pb.r.rev))/\(W.cell? (m66 A)=some (.int .u64 pb.r.p)/\W.cell? ⟨A+1,1,none⟩=some (.int .u64 pb.r.q))):=zH (fun W hb=>by
      have hb2:=bS D11.out hb
      have eA:=bK hb HAB.out.1
      have eB:=bK hb HAB.out.2
      have eH:=bK hb2 HY7.out
      have eK:=bK hb2 HL.out.kb
      have en:∀q,q<12->W.cell? (m09 b1 (o1+i*12+q))=(aT pb.r)[q]?:=fun q hq=>(hb2.cell (p:=(m09 b1 (o1+i*12+q))) HCB.out.1).trans (HCB.out.2 q hq)
      exact⟨cA eH 7,en 2 (by omega),⟨cA eA 0,cA eA 1⟩,⟨cA eK 0,cA eK 1,cA eK 2,cA eK 3,cA eK 4⟩,⟨en 0 (by omega),en 1 (by omega),en 2 (by omega),en 3 (by omega),en 4 (by omega),en 5 (by omega),en 6 (by omega),en 7 (by omega),en 8 (by omega),en 9 (by omega),en 10 (by omega),en 11 (by omega)⟩,cA eA 3,cA eB 3,cA eB 0,cA eB 1⟩)
     have hq:=HQ.out w11 (Below.refl _ _)
     clear hbA11 hbB11
     refine wX 0 rfl ?_
     refine wY 0 1 rfl rfl (hq.1) ?_
     refine wX 2 rfl ?_
     refine wX 3 rfl ?_
     refine wX 4 rfl ?_
     refine wX 5 rfl ?_
     refine wY 1 6 rfl rfl (hq.2.1) ?_
     refine wX 7 rfl ?_
     refine wY 2 8 rfl rfl (hq.2.2.1) ?_
     refine wY 3 9 rfl rfl (hq.2.2.2.1) ?_
     refine wX 10 rfl ?_
     refine wY 4 11 rfl rfl (hq.1) ?_
     refine wX 12 rfl ?_
     refine wX 13 rfl ?_
     refine wY 5 14 rfl rfl (hq.2.2.2.2.1) ?_
     refine cK 15 (by kernel_rfl) rfl (fun K hK=>?_)
     go_simp
     have hh:=iT ca cn cc C pb.r pb.k.v w11 HCF.out HV.out.1 HCU.out.tk
     simp only[aT]at hh
     refine hh.mono ?_
     clear hh
     rintro e w12 ⟨rfl,hb12⟩
     have B12:=zH hb12
     have hq12:=HQ.out w12 hb12
     rw[HG.out]
     clear hb12
     refine hK.out _ _ ?_ ?_
     ·exact⟨.inl hq12.1,.inl hq12.2.1,.inl hq12.2.2.1,.inl hq12.2.2.2.1,.inl hq12.1,.inl hq12.2.2.2.2.1,trivial⟩
     clear hK K;try simp only[Act.put,pA,pB,pC]
     refine cK 16 (by kernel_rfl) rfl (fun K hK=>?_)
     go_simp
     have hv12:=HV.out.2.keep B12.out
     refine(mX pb.r.v.ab pb.r.v.nb pb.r.v.cb pb.k.v.b pa.r.p pa.r.q g0 g1 w12 hv12.b.len hv12.bm hv12.u hv12.b.rows.blks).mono ?_
     rintro e w13 ⟨rfl,hb13⟩
     have B13:=zH (bS B12.out hb13)
     have hq13:=HQ.out w13 (bS B12.out hb13)
     rw[HU.out]
     clear hb13 hv12
     refine hK.out _ _ ?_ ?_
     ·exact⟨.inl hq13.1,.inl hq13.2.1,.inl hq13.2.2.1,.inl hq13.2.2.2.1,.inl hq13.1,.inl hq13.2.2.2.2.1,trivial⟩
     clear hK K;try simp only[Act.put,pA,pB,pC]
     refine wX 17 (oi:=⟨some 17,.assign (.tmp 109),4,"top21.go:318",#[⟨16,.data⟩,⟨16,.chain⟩,⟨0,.phase⟩,⟨1,.phase⟩,⟨2,.phase⟩,⟨3,.phase⟩,⟨4,.phase⟩,⟨5,.phase⟩,⟨6,.phase⟩,⟨7,.phase⟩,⟨8,.phase⟩,⟨9,.phase⟩,⟨10,.phase⟩,⟨11,.phase⟩,⟨12,.phase⟩,⟨13,.phase⟩,⟨14,.phase⟩,⟨15,.phase⟩,⟨16,.phase⟩],none⟩) rfl ?_
     refine cO (by kernel_rfl) ?_ _
     try dsimp only
     clear hq hq12
     go_wp2_with fail
     obtain⟨e1,he1⟩:∃z,(pb.r.rev==pa.r.rev)=z:=⟨_,rfl⟩
     have hub2:ub=e1:=by rw[<-HE.out,he1]
     subst hub2
     have hbb:(ub != ub)=false:=by cases ub<;>rfl
     refine cN [(5,fun W=>W.cell? ⟨A+1,3,none⟩=some (.int .i64 pb.r.rev)),(7,fun W=>W.cell? (m33 A)=some (.int .i64 pa.r.rev)),(14,fun W=>W.cell? (m36 H)=some (.slice (some (m09 b1 o1)) nn7 nc7)),(19,fun W=>W.cell? (m09 b1 (o1+i*12+2))=some (m41 pb.r.v:Value)),(21,fun W=>W.cell? (m66 A)=some (.int .u64 pb.r.p)/\W.cell? ⟨A+1,1,none⟩=some (.int .u64 pb.r.q))] (by kernel_rfl) ?_
     show aB _ _ _ _ _ _ _ _ w13.drew
     have B14:=zH (B13.out.drew)
     have hq14:=HQ.out w13.drew B14.out
     clear hq13
     generalize w13.drew=w14 at B14 hq14⊢
     refine wX 0 (oi:=⟨some 110,.move (.tmp 12),3,"top21.go:319",#[],none⟩) rfl ?_
     refine wX 1 (oi:=⟨some 111,.binOp .rem 3 (.tmp 110) (.const (.int .i64 3)) 3,3,"top21.go:319",#[⟨0,.data⟩],none⟩) rfl ?_
     refine wX 2 (oi:=⟨some 112,.binOp .eql 3 (.tmp 111) (.const (.int .i64 2)) 3,4,"top21.go:319",#[⟨1,.data⟩],none⟩) rfl ?_
     refine wX 3 (oi:=⟨some 113,.move (.tmp 112),4,"top21.go:319",#[⟨2,.data⟩],none⟩) rfl ?_
     refine wX 4 (oi:=⟨some 114,.fieldAddr 42 (.tmp 16) 2,0,"top21.go:319",#[⟨3,.guard⟩],some (3,true)⟩) rfl ?_ (hw:=by kernel_rfl)
     refine wY 0 5 (oi:=⟨some 115,.load 3 (.tmp 114),3,"top21.go:319",#[⟨4,.data⟩,⟨3,.guard⟩],some (3,true)⟩) rfl rfl (hq14.2.2.2.2.2.2.1) ?_ (hw:=by kernel_rfl)
     refine wX 6 (oi:=⟨some 116,.fieldAddr 42 (.tmp 15) 2,0,"top21.go:319",#[⟨3,.guard⟩],some (3,true)⟩) rfl ?_ (hw:=by kernel_rfl)
     refine wY 1 7 (oi:=⟨some 117,.load 3 (.tmp 116),3,"top21.go:319",#[⟨6,.data⟩,⟨3,.guard⟩],some (3,true)⟩) rfl rfl (hq14.2.2.2.2.2.1) ?_ (hw:=by kernel_rfl)
     refine wX 8 (oi:=⟨some 118,.binOp .eql 3 (.tmp 115) (.tmp 117) 3,4,"top21.go:319",#[⟨5,.data⟩,⟨7,.data⟩,⟨3,.guard⟩],some (3,true)⟩) rfl ?_ (hw:=by kernel_rfl)
     refine wX 9 (oi:=⟨some 119,.move (.tmp 17),4,"top21.go:319",#[⟨3,.guard⟩],some (3,true)⟩) rfl ?_ (hw:=by kernel_rfl)
     refine wX 10 (oi:=⟨some 120,.binOp .neq 4 (.tmp 118) (.tmp 119) 4,4,"top21.go:319",#[⟨8,.data⟩,⟨9,.data⟩,⟨3,.guard⟩],some (3,true)⟩) rfl ?_ (hw:=by kernel_rfl)
     refine wX 11 (oi:=⟨some 121,.pick (.tmp 113) (.tmp 120) (.const (.bool false)),4,"top21.go:319",#[⟨3,.data⟩,⟨10,.data⟩],none⟩) rfl ?_
     refine wX 12 (oi:=⟨some 122,.move (.tmp 121),4,"top21.go:319",#[⟨11,.data⟩,⟨3,.chain⟩],none⟩) rfl ?_
     refine wX 13 (oi:=⟨some 123,.fieldAddr 32 (.tmp 13) 3,0,"top21.go:319",#[⟨12,.guard⟩],some (12,false)⟩) rfl ?_ (hw:=by kernel_rfl)
     refine wY 2 14 (oi:=⟨some 124,.load 29 (.tmp 123),29,"top21.go:319",#[⟨13,.data⟩,⟨12,.guard⟩],some (12,false)⟩) rfl rfl (hq14.1) ?_ (hw:=by kernel_rfl)
     refine wX 15 (oi:=⟨some 125,.move (.tmp 14),3,"top21.go:319",#[⟨12,.guard⟩],some (12,false)⟩) rfl ?_ (hw:=by kernel_rfl)
     refine wX 16 (oi:=⟨some 126,.indexAddr 29 (.tmp 124) (.tmp 125),0,"top21.go:319",#[⟨14,.data⟩,⟨15,.data⟩,⟨12,.guard⟩],some (12,false)⟩) rfl ?_ (hw:=by kernel_rfl)
     refine wX 17 (oi:=⟨some 127,.fieldAddr 44 (.tmp 126) 2,0,"top21.go:319",#[⟨16,.data⟩,⟨12,.guard⟩],some (12,false)⟩) rfl ?_ (hw:=by kernel_rfl)
     refine wX 18 (oi:=⟨some 128,.fieldAddr 38 (.tmp 127) 0,0,"top21.go:319",#[⟨17,.data⟩,⟨12,.guard⟩],some (12,false)⟩) rfl ?_ (hw:=by kernel_rfl)
     refine wY 3 19 (oi:=⟨some 129,.load 35 (.tmp 128),35,"top21.go:319",#[⟨18,.data⟩,⟨12,.guard⟩],some (12,false)⟩) rfl rfl (hq14.2.1) ?_ (hw:=by kernel_rfl)
     refine wX 20 (oi:=⟨some 130,.fieldAddr 42 (.tmp 16) 0,0,"top21.go:319",#[⟨12,.guard⟩],some (12,false)⟩) rfl ?_ (hw:=by kernel_rfl)
     refine wY 4 21 (oi:=⟨some 131,.load 40 (.tmp 130),40,"top21.go:319",#[⟨20,.data⟩,⟨12,.guard⟩],some (12,false)⟩) rfl rfl (hq14.2.2.2.2.2.2.2) ?_ (hw:=by kernel_rfl)
     refine cK 22 (by kernel_rfl) rfl (fun K hK=>?_)
     go_simp
     have hv14:=HV.out.2.keep B14.out
     refine(gR pb.r.v.ab pb.r.v.nb pb.r.v.cb pb.k.v.b pb.r.p pb.r.q w14 hv14.b.len hv14.bm hv14.u hv14.b.rows.blks).mono ?_
     rintro e w15 ⟨vc,rfl,ovc,hb15⟩
     obtain⟨ka,kc,rfl,-,-⟩:=OwnL.sl0 (f:=idC) (k:=2) (fun _=>rfl) ovc
     have hq15:=HQ.out w15 (bS B14.out hb15)
     have B15:=zH (bS B14.out hb15)
     obtain⟨ln,hln⟩:∃z,(Tp.chain pb.k.v.b (pb.r.p,pb.r.q)).length=z:=⟨_,rfl⟩
     rw[hln]
     have hz:(((ln:Nat):Int)==0)=false:=by have:=HLN.out;rw[hln]at this;simp;omega
     clear hb15 hv14 ovc hln
     refine hK.out _ _ ?_ ?_
     ·exact⟨.inl hq15.2.2.2.2.2.2.1,.inl hq15.2.2.2.2.2.1,.inl hq15.1,.inl hq15.2.1,.inl hq15.2.2.2.2.2.2.2,trivial⟩
     clear hK K;try simp only[Act.put,pA,pB,pC]
     refine wX 23 (oi:=⟨some 133,.call ⟨.builtin .len,#[.tmp 132],#[47]⟩,3,"top21.go:319",#[⟨22,.data⟩,⟨12,.guard⟩],some (12,false)⟩) rfl ?_ (hw:=by kernel_rfl)
     refine wX 24 (oi:=⟨some 134,.binOp .eql 3 (.tmp 133) (.const (.int .i64 0)) 3,4,"top21.go:319",#[⟨23,.data⟩,⟨12,.guard⟩],some (12,false)⟩) rfl ?_ (hw:=by kernel_rfl)
     refine wX 25 (oi:=⟨some 135,.pick (.tmp 122) (.const (.bool true)) (.tmp 134),4,"top21.go:319",#[⟨12,.data⟩,⟨24,.data⟩],none⟩) rfl ?_
     refine cO (by kernel_rfl) ?_ _
     try dsimp only
     clear hq14 hq15
     go_wp2_with fail
     exact⟨⟨i+1,by omega,by go_num,bS HBI.out (bS D11.out B15.out)⟩,by simp[intOf];omega⟩
    ·have hT:((t:Int)%3==2)=false:=by simp;omega
     have hT2:((t:Int)%3 != 2)=true:=by simp;omega
     have he2:=he h2
     have hT3:(Int.tmod (t:Int) 3==2)=false:=by rw[tmd];simp;omega
     clear tmd he h2
     go_wp2_with fail
     generalize((wr.alloc (.cells (m37 pa.r.p pa.r.q pa.r.sl pa.r.rev) 42)).alloc (.cells (m37 pb.r.p pb.r.q pb.r.sl pb.r.rev) 42))=w10 at hva hbA hbB⊢
     generalize hA:wr.heap.size=A at hbA hbB⊢
     refine cN [(1,fun W=>W.cell? (m36 H)=some (.slice (some (m09 b1 o1)) nn7 nc7)),(6,fun W=>W.cell? (m09 b1 (o1+i*12+2))=some (m41 pb.r.v:Value)),(8,fun W=>W.cell? (m00 A)=some (.int .u64 pa.r.p)/\W.cell? (m15 A)=some (.int .u64 pa.r.q)),(9,fun W=>W.cell? (m07 w)=some (.slice ca cn cc)/\W.cell? (m14 w)=some (.int .u64 C.sd)/\W.cell? (m17 w)=some (.int .i64 C.ep)/\W.cell? (m19 w)=some (.int .i64 C.nu)/\W.cell? (m27 w)=some (.int .i64 C.de)),(11,fun W=>W.cell? (m36 H)=some (.slice (some (m09 b1 o1)) nn7 nc7)),(14,fun W=>W.cell? (m09 b1 (o1+i*12))=some (.int .i64 pb.r.no)/\W.cell? (m09 b1 (o1+i*12+1))=some (.int .i64 pb.r.tick)/\W.cell? (m09 b1 (o1+i*12+2))=some (m41 pb.r.v:Value)/\W.cell? (m09 b1 (o1+i*12+3))=some (m42 pb.r.v:Value)/\W.cell? (m09 b1 (o1+i*12+4))=some (m41 pb.r.inn:Value)/\W.cell? (m09 b1 (o1+i*12+5))=some (m42 pb.r.inn:Value)/\W.cell? (m09 b1 (o1+i*12+6))=some (.slice pb.r.oa pb.r.on pb.r.oc)/\W.cell? (m09 b1 (o1+i*12+7))=some (.int .u64 pb.r.p)/\W.cell? (m09 b1 (o1+i*12+8))=some (.int .u64 pb.r.q)/\W.cell? (m09 b1 (o1+i*12+9))=some (.int .i64 pb.r.sl)/\W.cell? (m09 b1 (o1+i*12+10))=some (.int .i64 pb.r.rev)/\W.cell? (m09 b1 (o1+i*12+11))=some (.bool pb.r.full))] (by kernel_rfl) ?_
     show aB _ _ _ _ _ _ _ _ w10.drew
     have hd10:=(Below.refl w10.heap.size w10).drew
     have hbA11:=bK hd10 hbA
     have hbB11:=bK hd10 hbB
     have D11:=zH hva.drew
     clear hva hbA hbB hd10
     generalize w10.drew=w11 at D11 hbA11 hbB11⊢
     have HAB:=zH (And.intro hbA11 hbB11)
     have HV:=zH (And.intro (HND.out.v.keep D11.out) (HND.out.v.keep D11.out).ok)
     have HCF:=zH (HC0.out.below (HL.out.bel.trans (D11.out.mono HL.out.bel.size)) nr)
     have HQ:Hid (∀W:World,Below w11.heap.size w11 W->(W.cell? (m36 H)=some (.slice (some (m09 b1 o1)) nn7 nc7))/\(W.cell? (m09 b1 (o1+i*12+2))=some (m41 pb.r.v:Value))/\(W.cell? (m00 A)=some (.int .u64 pa.r.p)/\W.cell? (m15 A)=some (.int .u64 pa.r.q))/\(W.cell? (m07 w)=some (.slice ca cn cc)/\W.cell? (m14 w)=some (.int .u64 C.sd)/\W.cell? (m17 w)=some (.int .i64 C.ep)/\W.cell? (m19 w)=some (.int .i64 C.nu)/\W.cell? (m27 w)=some (.int .i64 C.de))/\(W.cell? (m09 b1 (o1+i*12))=some (.int .i64 pb.r.no)/\W.cell? (m09 b1 (o1+i*12+1))=some (.int .i64 pb.r.tick)/\W.cell? (m09 b1 (o1+i*12+2))=some (m41 pb.r.v:Value)/\W.cell? (m09 b1 (o1+i*12+3))=some (m42 pb.r.v:Value)/\W.cell? (m09 b1 (o1+i*12+4))=some (m41 pb.r.inn:Value)/\W.cell? (m09 b1 (o1+i*12+5))=some (m42 pb.r.inn:Value)/\W.cell? (m09 b1 (o1+i*12+6))=some (.slice pb.r.oa pb.r.on pb.r.oc)/\W.cell? (m09 b1 (o1+i*12+7))=some (.int .u64 pb.r.p)/\W.cell? (m09 b1 (o1+i*12+8))=some (.int .u64 pb.r.q)/\W.cell? (m09 b1 (o1+i*12+9))=some (.int .i64 pb.r.sl)/\W.cell? (m09 b1 (o1+i*12+10))=some (.int .i64 pb.r.rev)/\W.cell? (m09 b1 (o1+i*12+11))=some (.bool pb.r.full))/\(W.cell? (m33 A)=some (.int .i64 pa.r.rev))/\(W.cell? ⟨A+1,3,none⟩=some (.int .i64 pb.r.rev))/\(W.cell? (m66 A)=some (.int .u64 pb.r.p)/\W.cell? ⟨A+1,1,none⟩=some (.int .u64 pb.r.q))):=zH (fun W hb=>by
      have hb2:=bS D11.out hb
      have eA:=bK hb HAB.out.1
      have eB:=bK hb HAB.out.2
      have eH:=bK hb2 HY7.out
      have eK:=bK hb2 HL.out.kb
      have en:∀q,q<12->W.cell? (m09 b1 (o1+i*12+q))=(aT pb.r)[q]?:=fun q hq=>(hb2.cell (p:=(m09 b1 (o1+i*12+q))) HCB.out.1).trans (HCB.out.2 q hq)
      exact⟨cA eH 7,en 2 (by omega),⟨cA eA 0,cA eA 1⟩,⟨cA eK 0,cA eK 1,cA eK 2,cA eK 3,cA eK 4⟩,⟨en 0 (by omega),en 1 (by omega),en 2 (by omega),en 3 (by omega),en 4 (by omega),en 5 (by omega),en 6 (by omega),en 7 (by omega),en 8 (by omega),en 9 (by omega),en 10 (by omega),en 11 (by omega)⟩,cA eA 3,cA eB 3,cA eB 0,cA eB 1⟩)
     have hq:=HQ.out w11 (Below.refl _ _)
     clear hbA11 hbB11
     refine wX 0 rfl ?_
     refine wY 0 1 rfl rfl (hq.1) ?_
     refine wX 2 rfl ?_
     refine wX 3 rfl ?_
     refine wX 4 rfl ?_
     refine wX 5 rfl ?_
     refine wY 1 6 rfl rfl (hq.2.1) ?_
     refine wX 7 rfl ?_
     refine wY 2 8 rfl rfl (hq.2.2.1) ?_
     refine wY 3 9 rfl rfl (hq.2.2.2.1) ?_
     refine wX 10 rfl ?_
     refine wY 4 11 rfl rfl (hq.1) ?_
     refine wX 12 rfl ?_
     refine wX 13 rfl ?_
     refine wY 5 14 rfl rfl (hq.2.2.2.2.1) ?_
     refine cK 15 (by kernel_rfl) rfl (fun K hK=>?_)
     go_simp
     have hh:=iT ca cn cc C pb.r pb.k.v w11 HCF.out HV.out.1 HCU.out.tk
     simp only[aT]at hh
     refine hh.mono ?_
     clear hh
     rintro e w12 ⟨rfl,hb12⟩
     have B12:=zH hb12
     have hq12:=HQ.out w12 hb12
     rw[HG.out]
     clear hb12
     refine hK.out _ _ ?_ ?_
     ·exact⟨.inl hq12.1,.inl hq12.2.1,.inl hq12.2.2.1,.inl hq12.2.2.2.1,.inl hq12.1,.inl hq12.2.2.2.2.1,trivial⟩
     clear hK K;try simp only[Act.put,pA,pB,pC]
     refine cK 16 (by kernel_rfl) rfl (fun K hK=>?_)
     go_simp
     have hv12:=HV.out.2.keep B12.out
     refine(mX pb.r.v.ab pb.r.v.nb pb.r.v.cb pb.k.v.b pa.r.p pa.r.q g0 g1 w12 hv12.b.len hv12.bm hv12.u hv12.b.rows.blks).mono ?_
     rintro e w13 ⟨rfl,hb13⟩
     have B13:=zH (bS B12.out hb13)
     have hq13:=HQ.out w13 (bS B12.out hb13)
     rw[HU.out]
     clear hb13 hv12
     refine hK.out _ _ ?_ ?_
     ·exact⟨.inl hq13.1,.inl hq13.2.1,.inl hq13.2.2.1,.inl hq13.2.2.2.1,.inl hq13.1,.inl hq13.2.2.2.2.1,trivial⟩
     clear hK K;try simp only[Act.put,pA,pB,pC]
     refine wX 17 (oi:=⟨some 17,.assign (.tmp 109),4,"top21.go:318",#[⟨16,.data⟩,⟨16,.chain⟩,⟨0,.phase⟩,⟨1,.phase⟩,⟨2,.phase⟩,⟨3,.phase⟩,⟨4,.phase⟩,⟨5,.phase⟩,⟨6,.phase⟩,⟨7,.phase⟩,⟨8,.phase⟩,⟨9,.phase⟩,⟨10,.phase⟩,⟨11,.phase⟩,⟨12,.phase⟩,⟨13,.phase⟩,⟨14,.phase⟩,⟨15,.phase⟩,⟨16,.phase⟩],none⟩) rfl ?_
     refine cO (by kernel_rfl) ?_ _
     try dsimp only
     clear hq hq12
     go_wp2_with fail
     refine cN [(5,fun W=>W.cell? ⟨A+1,3,none⟩=some (.int .i64 pb.r.rev)),(7,fun W=>W.cell? (m33 A)=some (.int .i64 pa.r.rev)),(14,fun W=>W.cell? (m36 H)=some (.slice (some (m09 b1 o1)) nn7 nc7)),(19,fun W=>W.cell? (m09 b1 (o1+i*12+2))=some (m41 pb.r.v:Value)),(21,fun W=>W.cell? (m66 A)=some (.int .u64 pb.r.p)/\W.cell? ⟨A+1,1,none⟩=some (.int .u64 pb.r.q))] (by kernel_rfl) ?_
     show aB _ _ _ _ _ _ _ _ w13.drew
     have B14:=zH (B13.out.drew)
     have hq14:=HQ.out w13.drew B14.out
     clear hq13
     generalize w13.drew=w14 at B14 hq14⊢
     refine wX 0 (oi:=⟨some 110,.move (.tmp 12),3,"top21.go:319",#[],none⟩) rfl ?_
     refine wX 1 (oi:=⟨some 111,.binOp .rem 3 (.tmp 110) (.const (.int .i64 3)) 3,3,"top21.go:319",#[⟨0,.data⟩],none⟩) rfl ?_
     refine wX 2 (oi:=⟨some 112,.binOp .eql 3 (.tmp 111) (.const (.int .i64 2)) 3,4,"top21.go:319",#[⟨1,.data⟩],none⟩) rfl ?_
     refine wX 3 (oi:=⟨some 113,.move (.tmp 112),4,"top21.go:319",#[⟨2,.data⟩],none⟩) rfl ?_
     refine bH 4 (oi:=⟨some 114,.fieldAddr 42 (.tmp 16) 2,0,"top21.go:319",#[⟨3,.guard⟩],some (3,true)⟩) (v:=undef) rfl (by kernel_rfl) (by kernel_rfl) (by kernel_rfl) (fun _ _ _ h=>h) (Or.inr ⟨by kernel_rfl,rfl⟩) ?_
     try simp only[Act.put,pA,pB,pC]
     refine bH 5 (oi:=⟨some 115,.load 3 (.tmp 114),3,"top21.go:319",#[⟨4,.data⟩,⟨3,.guard⟩],some (3,true)⟩) (v:=undef) rfl (by kernel_rfl) (by kernel_rfl) (by kernel_rfl) (fun _ _ _ h=>h) (Or.inr ⟨by kernel_rfl,rfl⟩) ?_
     try simp only[Act.put,pA,pB,pC]
     refine bH 6 (oi:=⟨some 116,.fieldAddr 42 (.tmp 15) 2,0,"top21.go:319",#[⟨3,.guard⟩],some (3,true)⟩) (v:=undef) rfl (by kernel_rfl) (by kernel_rfl) (by kernel_rfl) (fun _ _ _ h=>h) (Or.inr ⟨by kernel_rfl,rfl⟩) ?_
     try simp only[Act.put,pA,pB,pC]
     refine bH 7 (oi:=⟨some 117,.load 3 (.tmp 116),3,"top21.go:319",#[⟨6,.data⟩,⟨3,.guard⟩],some (3,true)⟩) (v:=undef) rfl (by kernel_rfl) (by kernel_rfl) (by kernel_rfl) (fun _ _ _ h=>h) (Or.inr ⟨by kernel_rfl,rfl⟩) ?_
     try simp only[Act.put,pA,pB,pC]
     refine bH 8 (oi:=⟨some 118,.binOp .eql 3 (.tmp 115) (.tmp 117) 3,4,"top21.go:319",#[⟨5,.data⟩,⟨7,.data⟩,⟨3,.guard⟩],some (3,true)⟩) (v:=undef) rfl (by kernel_rfl) (by kernel_rfl) (by kernel_rfl) (fun _ _ _ h=>h) (Or.inr ⟨by kernel_rfl,rfl⟩) ?_
     try simp only[Act.put,pA,pB,pC]
     refine bH 9 (oi:=⟨some 119,.move (.tmp 17),4,"top21.go:319",#[⟨3,.guard⟩],some (3,true)⟩) (v:=undef) rfl (by kernel_rfl) (by kernel_rfl) (by kernel_rfl) (fun _ _ _ h=>h) (Or.inr ⟨by kernel_rfl,rfl⟩) ?_
     try simp only[Act.put,pA,pB,pC]
     refine bH 10 (oi:=⟨some 120,.binOp .neq 4 (.tmp 118) (.tmp 119) 4,4,"top21.go:319",#[⟨8,.data⟩,⟨9,.data⟩,⟨3,.guard⟩],some (3,true)⟩) (v:=undef) rfl (by kernel_rfl) (by kernel_rfl) (by kernel_rfl) (fun _ _ _ h=>h) (Or.inr ⟨by kernel_rfl,rfl⟩) ?_
     try simp only[Act.put,pA,pB,pC]
     refine wX 11 (oi:=⟨some 121,.pick (.tmp 113) (.tmp 120) (.const (.bool false)),4,"top21.go:319",#[⟨3,.data⟩,⟨10,.data⟩],none⟩) rfl ?_
     refine wX 12 (oi:=⟨some 122,.move (.tmp 121),4,"top21.go:319",#[⟨11,.data⟩,⟨3,.chain⟩],none⟩) rfl ?_
     refine wX 13 (oi:=⟨some 123,.fieldAddr 32 (.tmp 13) 3,0,"top21.go:319",#[⟨12,.guard⟩],some (12,false)⟩) rfl ?_ (hw:=by kernel_rfl)
     refine wY 2 14 (oi:=⟨some 124,.load 29 (.tmp 123),29,"top21.go:319",#[⟨13,.data⟩,⟨12,.guard⟩],some (12,false)⟩) rfl rfl (hq14.1) ?_ (hw:=by kernel_rfl)
     refine wX 15 (oi:=⟨some 125,.move (.tmp 14),3,"top21.go:319",#[⟨12,.guard⟩],some (12,false)⟩) rfl ?_ (hw:=by kernel_rfl)
     refine wX 16 (oi:=⟨some 126,.indexAddr 29 (.tmp 124) (.tmp 125),0,"top21.go:319",#[⟨14,.data⟩,⟨15,.data⟩,⟨12,.guard⟩],some (12,false)⟩) rfl ?_ (hw:=by kernel_rfl)
     refine wX 17 (oi:=⟨some 127,.fieldAddr 44 (.tmp 126) 2,0,"top21.go:319",#[⟨16,.data⟩,⟨12,.guard⟩],some (12,false)⟩) rfl ?_ (hw:=by kernel_rfl)
     refine wX 18 (oi:=⟨some 128,.fieldAddr 38 (.tmp 127) 0,0,"top21.go:319",#[⟨17,.data⟩,⟨12,.guard⟩],some (12,false)⟩) rfl ?_ (hw:=by kernel_rfl)
     refine wY 3 19 (oi:=⟨some 129,.load 35 (.tmp 128),35,"top21.go:319",#[⟨18,.data⟩,⟨12,.guard⟩],some (12,false)⟩) rfl rfl (hq14.2.1) ?_ (hw:=by kernel_rfl)
     refine wX 20 (oi:=⟨some 130,.fieldAddr 42 (.tmp 16) 0,0,"top21.go:319",#[⟨12,.guard⟩],some (12,false)⟩) rfl ?_ (hw:=by kernel_rfl)
     refine wY 4 21 (oi:=⟨some 131,.load 40 (.tmp 130),40,"top21.go:319",#[⟨20,.data⟩,⟨12,.guard⟩],some (12,false)⟩) rfl rfl (hq14.2.2.2.2.2.2.2) ?_ (hw:=by kernel_rfl)
     refine cK 22 (by kernel_rfl) rfl (fun K hK=>?_)
     go_simp
     have hv14:=HV.out.2.keep B14.out
     refine(gR pb.r.v.ab pb.r.v.nb pb.r.v.cb pb.k.v.b pb.r.p pb.r.q w14 hv14.b.len hv14.bm hv14.u hv14.b.rows.blks).mono ?_
     rintro e w15 ⟨vc,rfl,ovc,hb15⟩
     obtain⟨ka,kc,rfl,-,-⟩:=OwnL.sl0 (f:=idC) (k:=2) (fun _=>rfl) ovc
     have hq15:=HQ.out w15 (bS B14.out hb15)
     have B15:=zH (bS B14.out hb15)
     obtain⟨ln,hln⟩:∃z,(Tp.chain pb.k.v.b (pb.r.p,pb.r.q)).length=z:=⟨_,rfl⟩
     rw[hln]
     have hz:(((ln:Nat):Int)==0)=false:=by have:=HLN.out;rw[hln]at this;simp;omega
     clear hb15 hv14 ovc hln
     refine hK.out _ _ ?_ ?_
     ·exact⟨.inl hq15.2.2.2.2.2.2.1,.inl hq15.2.2.2.2.2.1,.inl hq15.1,.inl hq15.2.1,.inl hq15.2.2.2.2.2.2.2,trivial⟩
     clear hK K;try simp only[Act.put,pA,pB,pC]
     refine wX 23 (oi:=⟨some 133,.call ⟨.builtin .len,#[.tmp 132],#[47]⟩,3,"top21.go:319",#[⟨22,.data⟩,⟨12,.guard⟩],some (12,false)⟩) rfl ?_ (hw:=by kernel_rfl)
     refine wX 24 (oi:=⟨some 134,.binOp .eql 3 (.tmp 133) (.const (.int .i64 0)) 3,4,"top21.go:319",#[⟨23,.data⟩,⟨12,.guard⟩],some (12,false)⟩) rfl ?_ (hw:=by kernel_rfl)
     refine wX 25 (oi:=⟨some 135,.pick (.tmp 122) (.const (.bool true)) (.tmp 134),4,"top21.go:319",#[⟨12,.data⟩,⟨24,.data⟩],none⟩) rfl ?_
     refine cO (by kernel_rfl) ?_ _
     try dsimp only
     clear hq14 hq15
     go_wp2_with fail
     exact⟨⟨i+1,by omega,by go_num,bS HBI.out (bS D11.out B15.out)⟩,by simp[intOf];omega⟩
end Go.Proofs.YtbbhinehcncmeaaGreat
