/- A part of the proof of the laws of the top: TpMeets. No condition. -/
import Derived.Test.YtbbhinehcncmeaaGreatG42
import Derived.Test.YtbbhinehcncmeaaGreatM05
namespace Go.Proofs.YtbbhinehcncmeaaGreat
open Go.RowKit
set_option linter.unusedSimpArgs false
set_option linter.unusedVariables false
set_option linter.unusedSectionVars false
set_option maxRecDepth 100000
set_option maxHeartbeats 8000000
theorem zT (ca:Option Addr)(cn cc:Nat)(C:Tp.Cf)(ba:Option Addr)(bn bc:Nat)(bad:List Int)(a:Option Addr)(n c:Nat)(al:List (RA×Tp.Vw))(slots:Int)(w:World)(hC:aP w ca cn C.W C.sd)(hB:SlV intC 1 w ba bn bc bad)(hB0:ba=none->bn=0/\bc=0)(hA:SlV actC 5 w a n c (al.map Prod.fst))(hQ:∀p∈al,aHx w p):
  Calls Tryz.prog 5 #[.agg (m02 ca cn cc C),.slice ba bn bc,.slice a n c,.int .i64 slots] w fun e w'=>e=.returned (.bool true)/\Below w.heap.size w w':=by
 have HC0:=zH hC
 have HB0:=zH (And.intro hB hB0)
 have HA0:=zH hA
 have HQ0:=zH hQ
 have hbn:bn<=9223372036854775807:=Nat.le_trans hB.cap hB.top
 have HBN:=zH hbn
 have hal:Below w.heap.size w (w.alloc (.cells (m02 ca cn cc C) 25)):=(Below.refl _ _).alloc nr _
 have hb0:(w.alloc (.cells (m02 ca cn cc C) 25)).heap[w.heap.size]?=some (.cells (m02 ca cn cc C) 25 (0,0)):=heap_alloc_new w _
 obtain⟨few,hfew⟩:∃z,wE C.W C.ep C.nu C.de cn bn (al.map Prod.fst) slots=z:=⟨_,rfl⟩
 have HFEW:=zH hfew
 clear hC hB hB0 hA hQ hfew hbn
 go_enter Tryz.func5,Tryz.ntmps5
 go_wp2_with fail
 generalize(w.alloc (.cells (m02 ca cn cc C) 25))=w1 at hal hb0⊢
 have D1:=zH hal
 have HBX:=zH hb0
 clear hal hb0
 refine(oO w1).mono ?_
 rintro e w2 ⟨rfl,hb2⟩
 have hbx2:=bK hb2 HBX.out
 have D2:=zH (bS D1.out hb2)
 have HBX2:=zH hbx2
 obtain⟨c0,c1,c2,c3,c4⟩:=kc5 hbx2
 clear hbx2 hb2
 try dsimp only
 go_wp2_with fail
 refine(jK ca cn cc C.W C.sd C.ep C.nu C.de ba bn bc a n c (al.map Prod.fst) slots w2 (HC0.out.keep D2.out) (HA0.out.keep D2.out) HBN.out).mono ?_
 rintro e w3 ⟨rfl,hb3⟩
 rw[HFEW.out]
 have hbx3:=bK hb3 HBX2.out
 have D3:=zH (bS D2.out hb3)
 have HBX3:=zH hbx3
 clear c0 c1 c2 c3 c4
 obtain⟨c0,c1,c2,c3,c4⟩:=kc5 hbx3
 clear hbx3 hb3
 cases few with
 |false=>
  try dsimp only
  go_wp2_with fail
  go_ret
  exact⟨rfl,D3.out⟩
 |true=>
  have HF:=zH (oC HFEW.out)
  have HAC:=zH (wR HA0.out HQ0.out HF.out.2.2.2.2.2.1 HF.out.2.2.2.2.2.2)
  have HOK:Hid (Tp.WOk (al.map toAc) (Tp.newW C bad)):=zH (Tp.qY HF.out.1 HAC.out.2.1 HAC.out.2.2)
  have hs1:=HF.out.2.2.2.1
  have hs2:=HF.out.2.2.2.2.1
  try dsimp only
  go_wp2_with fail
  refine(qX ca cn cc C ba bn bc bad w3 (HC0.out.keep D3.out) HF.out.1 (Nat.le_trans HF.out.2.1 (by omega)) (HB0.out.1.keep D3.out) (Nat.le_trans HF.out.2.2.1 (by omega)) HB0.out.2).mono ?_
  rintro e w4 ⟨r,ns,rfl,hW4,-,hb4⟩
  simp only[aR]
  have hbx4:=bK hb4 HBX3.out
  have HR:Hid (LawR C ca cn cc (al.map toAc) w w4.heap.size 3 r ns [] (Tp.newW C bad) (w4.alloc (.cells (m10 r.aw r.nw r.cw C r.ba r.bn r.bc r.tick r.na r.nn r.nc r.oa r.on r.oc) 32))):=zH (LawR.start hW4 (bS D3.out hb4) hbx4 HOK.out)
  clear c0 c1 c2 c3 c4 hW4 hb4 hbx4
  try dsimp only
  go_wp2_with fail
  generalize w4.alloc (.cells (m10 r.aw r.nw r.cw C r.ba r.bn r.bc r.tick r.na r.nn r.nc r.oa r.on r.oc) 32)=w5 at HR⊢
  generalize w4.heap.size=G at HR⊢
  go_loopw [12] (fun i_ wr=>∃(t:Nat) (r:RW) (ns:List NE) (os:List (RO×Tp.Vw)) (k:Tp.Wd),(t:Int)<=3*slots+3/\i_=.int .i64 t/\LawR C ca cn cc (al.map toAc) w G t r ns os k wr) (fun i_ _=>15-(intOf i_).toNat)
  case atStart=>exact⟨3,_,_,_,_,by omega,rfl,HR.out⟩
  case round=>
   clear HR
   obtain⟨t,r,ns,os,k,ht,rfl,hR⟩:=hrel
   have HR:=zH hR
   by_cases hlt:(t:Int)<3*slots+3
   case neg=>
    clear hR
    go_wp2_with fail
    go_ret
    exact⟨rfl,HR.out.bel⟩
   have tmd:Int.tmod (t:Int) 3=((t%3:Nat):Int):=by rw[Int.tmod_eq_emod_of_nonneg (by omega)];omega
   by_cases h2:t%3=2
   ·have hT:((t:Int)%3==2)=true:=by simp;omega
    have hT2:(Int.tmod (t:Int) 3==2)=true:=by rw[tmd,h2];rfl
    have hkt:k.tick=t:=HR.out.tk
    have HST:=zH (HR.out.ok.step (al':=[]) (.inr rfl) (by rw[hkt];omega))
    clear hkt
    obtain⟨d0,d1,d2,d3,d4,d5,d6,d7,d8⟩:=kc9 hR.box
    clear hR
    go_wp2_with fail
    have ho:=@tY ⟨fun b=>b=G⟩ r ns os k none 0 0 [] wr HR.out.wd (yM _) HST.out.2.1 (by
     rintro b rfl
     exact⟨(gS HR.out.box),HR.out.off⟩)
    rw[HR.out.c]at ho
    simp only[aR]at ho
    refine ho.mono ?_
    clear ho
    rintro e w7 ⟨⟨a7,n7,c7,b7,bn7,bc7,tk7,na7,nn7,nc7,oa7,on7,oc7⟩,ns7,os7,rfl,hW7,hO7,hb7⟩
    have htk:tk7=(t:Int)+1:=hW7.tick.trans (by show k.tick+1=_;rw[HR.out.tk])
    subst htk
    have hW7:WdR w7 _ ns7 os7 (Tp.doW k []):=hW7
    clear d0 d1 d2 d3 d4 d5 d6 d7 d8
    have hbx7:=bK hb7 HR.out.box
    obtain⟨d0,d1,d2,d3,d4,d5,d6,d7,d8⟩:=kc9 hbx7
    obtain⟨f0,f1,f2,f3,f4,f5,f6,f7,f8⟩:=kf9 hbx7
    have T7:=cM [.slice a7 n7 c7,.int .u64 C.sd,.int .i64 C.ep,.int .i64 C.nu,.int .i64 C.de,.slice b7 bn7 bc7,.int .i64 (t+1),.slice na7 nn7 nc7,.slice oa7 on7 oc7] 0 _ _ hbx7 (by show(9:Nat)<=9;omega)
    have HL7:Hid (LawR C ca cn cc (al.map toAc) w G (t+1) ⟨a7,n7,c7,b7,bn7,bc7,t+1,na7,nn7,nc7,oa7,on7,oc7⟩ ns7 os7 (Tp.doW k ([])) ((((m06 w7 G a7 n7 c7 C b7 bn7 bc7:World).setCell (m39 G) (m30 (t+1))).setCell (m36 G) (m63 na7 nn7 nc7)).setCell (m60 G) (m63 oa7 on7 oc7))):=zH (HR.out.next hb7 hW7 (hO7 G rfl) (.inr rfl) (by omega) T7)
    clear hW7 hO7 hb7 hbx7 T7
    try dsimp only
    go_wp2_with fail
    generalize((((m06 w7 G a7 n7 c7 C b7 bn7 bc7:World).setCell (m39 G) (m30 (t+1))).setCell (m36 G) (m63 na7 nn7 nc7)).setCell (m60 G) (m63 oa7 on7 oc7))=w8 at HL7⊢
    clear f0 f1 f2 f3 f4 f5 f6 f7 f8
    have hoo:=aDb ⟨a7,n7,c7,b7,bn7,bc7,t+1,na7,nn7,nc7,oa7,on7,oc7⟩ ns7 os7 (Tp.doW k ([])) a n c al w8 HL7.out.wd (HAC.out.1.below HL7.out.bel nr) HST.out.2.2
    rw[HL7.out.c]at hoo
    obtain⟨tod,htod⟩:∃z,Tp.odd (Tp.doW k ([])) (al.map toAc)=z:=⟨_,rfl⟩
    rw[htod]at hoo
    have HOD:=zH htod
    clear htod
    simp only[aR]at hoo
    refine hoo.mono ?_
    clear hoo
    rintro e w9 ⟨rfl,hb9⟩
    have HL9:=zH (HL7.out.keep hb9)
    clear hb9
    cases tod with
    |true=>
     try dsimp only
     go_wp2_with fail
     go_ret
     exact⟨rfl,HL9.out.bel⟩
    |false=>
     have HME:=zH (HR.out.ok.meets (by rw[HR.out.tk];omega) (by rw[HR.out.tk];omega) HOD.out)
     have hnn:nn7<=1000000:=HL9.out.wd.n.bd
     try dsimp only
     go_wp2_with fail
     go_loopw [15] (fun i_ wr=>∃i:Nat,1<=i/\(i:Int)<=nn7+1/\i_=.int .i64 i/\Below w9.heap.size w9 wr) (fun i_ _=>nn7+1-(intOf i_).toNat)
     case atStart=>exact⟨1,by omega,by omega,rfl,Below.refl _ _⟩
     case round=>
      obtain⟨i,hi1,hi,rfl,hb⟩:=hrel
      have HBI:=zH hb
      have HL:=zH (HL9.out.keep hb)
      clear hb
      by_cases hin:i<nn7
      case neg=>
       have x7:wr.cell? (m36 G)=some (.slice na7 nn7 nc7):=cA HL.out.box 7
       go_wp2_with fail
       exact⟨⟨t+1,_,_,_,_,by omega,by go_num,HL.out⟩,by simp[intOf];omega⟩
      have hlen:=HL.out.wd.n.len
      have hil:i<ns7.length:=by rw[hlen];exact hin
      have hil0:0<ns7.length:=by omega
      obtain⟨pa,hpa⟩:∃p,ns7[0]=p:=⟨_,rfl⟩
      obtain⟨pb,hpb⟩:∃p,ns7[i]=p:=⟨_,rfl⟩
      have i0:(0:Int)<=i:=by omega
      have i1:(i:Int)<nn7:=by omega
      have i2:(0:Int)<nn7:=by omega
      have i3:0<nn7:=by omega
      have hma:=hpa▸List.getElem_mem hil0
      have hmb:=hpb▸List.getElem_mem hil
      have hka:pa.k∈(Tp.doW k []).n:=by rw[HL.out.wd.kn];exact List.mem_map_of_mem hma
      have hkb:pb.k∈(Tp.doW k []).n:=by rw[HL.out.wd.kn];exact List.mem_map_of_mem hmb
      have HMT:=zH (HME.out pa.k hka pb.k hkb)
      obtain⟨b1,o1,hna,hlta,hca⟩:=HL.out.wd.n.cells hil0 hpa
      obtain⟨b2,o2,hnb,hltb,hcb⟩:=HL.out.wd.n.cells hil hpb
      have hna2:na7=some ⟨b1,o1,none⟩:=hna
      have hnb2:na7=some ⟨b2,o2,none⟩:=hnb
      rw[hna2]at hnb2
      injection hnb2 with hnb3
      injection hnb3 with hnb4 hnb5
      subst hnb4 hnb5
      have HCB:Hid (b1<wr.heap.size/\(∀q,q<12->wr.cell? (m09 b1 (o1+0*12+q))=(aT pa.r)[q]?)/\∀q,q<12->wr.cell? (m09 b1 (o1+i*12+q))=(aT pb.r)[q]?):=zH ⟨hlta,hca,hcb⟩
      have HY7:=zH (show wr.heap[G]?=some (.cells #[.slice a7 n7 c7,.int .u64 C.sd,.int .i64 C.ep,.int .i64 C.nu,.int .i64 C.de,.slice b7 bn7 bc7,.int .i64 (t+1),.slice (some (m09 b1 o1)) nn7 nc7,.slice oa7 on7 oc7] 32 (0,0)) by rw[<-hna2];exact HL.out.box)
      have x7:wr.cell? (m36 G)=some (.slice (some (m09 b1 o1)) nn7 nc7):=cA HY7.out 7
      have ndA:=HL.out.wd.n.nd pa hma
      have ndB:=HL.out.wd.n.nd pb hmb
      have HV:=zH (And.intro ndA ndB)
      have tka:pa.r.tick=(t:Int)+1:=by have h1:=(HL.out.ok.room.n pa.k hka).1;have h2:=HL.out.tk;have h3:=ndA.tick;omega
      have tkb:pb.r.tick=(t:Int)+1:=by have h1:=(HL.out.ok.room.n pb.k hkb).1;have h2:=HL.out.tk;have h3:=ndB.tick;omega
      have HTK:Hid ((1<=pa.r.tick/\pa.r.tick<=1000000)/\(1<=pb.r.tick/\pb.r.tick<=1000000)):=zH (by omega)
      obtain⟨⟨g0,g1⟩,hg⟩:∃z,Tp.aL C pa.k.v (Tp.dA pa.r.tick)=z:=⟨_,rfl⟩
      have hg2:Tp.aL C pb.k.v (Tp.dA pb.r.tick)=(g0,g1):=by
       rw[tkb,<-tka,<-hg]
       have:=HMT.out.2 (Tp.dA pa.r.tick)
       rw[HR.out.c]at this
       exact this.symm
      have HG:=zH (And.intro hg hg2)
      have he:=tX g0 g1 g0 g1
      clear hpa hpb hma hmb hka hkb hna hnb hna2 hlta hltb hca hcb ndA ndB tka tkb hg hg2 hlen hil hil0
      go_wp2_with fail
      refine cN [(1,fun W=>W.cell? (m36 G)=some (.slice (some (m09 b1 o1)) nn7 nc7)),(4,fun W=>W.cell? (m09 b1 (o1+2))=some (m41 pa.r.v:Value)/\W.cell? (m09 b1 (o1+3))=some (m42 pa.r.v:Value)),(6,fun W=>W.cell? (m36 G)=some (.slice (some (m09 b1 o1)) nn7 nc7)),(10,fun W=>W.cell? (m09 b1 (o1+i*12+2))=some (m41 pb.r.v:Value)/\W.cell? (m09 b1 (o1+i*12+3))=some (m42 pb.r.v:Value))] (by kernel_rfl) ?_
      show aB _ _ _ _ _ _ _ _ wr.drew
      have D11:=zH (Below.refl wr.heap.size wr).drew
      clear x7
      generalize wr.drew=w11 at D11⊢
      have HQ:Hid (∀W:World,Below w11.heap.size w11 W->(W.cell? (m36 G)=some (.slice (some (m09 b1 o1)) nn7 nc7))/\(W.cell? (m09 b1 (o1+2))=some (m41 pa.r.v:Value)/\W.cell? (m09 b1 (o1+3))=some (m42 pa.r.v:Value))/\(W.cell? (m09 b1 (o1+i*12+2))=some (m41 pb.r.v:Value)/\W.cell? (m09 b1 (o1+i*12+3))=some (m42 pb.r.v:Value))/\(W.cell? (m07 w)=some (.slice ca cn cc)/\W.cell? (m14 w)=some (.int .u64 C.sd)/\W.cell? (m17 w)=some (.int .i64 C.ep)/\W.cell? (m19 w)=some (.int .i64 C.nu)/\W.cell? (m27 w)=some (.int .i64 C.de))/\(W.cell? (m09 b1 o1)=some (.int .i64 pa.r.no)/\W.cell? (m09 b1 (o1+1))=some (.int .i64 pa.r.tick)/\W.cell? (m09 b1 (o1+2))=some (m41 pa.r.v:Value)/\W.cell? (m09 b1 (o1+3))=some (m42 pa.r.v:Value)/\W.cell? (m09 b1 (o1+4))=some (m41 pa.r.inn:Value)/\W.cell? (m09 b1 (o1+5))=some (m42 pa.r.inn:Value)/\W.cell? (m09 b1 (o1+6))=some (.slice pa.r.oa pa.r.on pa.r.oc)/\W.cell? (m09 b1 (o1+7))=some (.int .u64 pa.r.p)/\W.cell? (m09 b1 (o1+8))=some (.int .u64 pa.r.q)/\W.cell? (m09 b1 (o1+9))=some (.int .i64 pa.r.sl)/\W.cell? (m09 b1 (o1+10))=some (.int .i64 pa.r.rev)/\W.cell? (m09 b1 (o1+11))=some (.bool pa.r.full))/\(W.cell? (m09 b1 (o1+i*12))=some (.int .i64 pb.r.no)/\W.cell? (m09 b1 (o1+i*12+1))=some (.int .i64 pb.r.tick)/\W.cell? (m09 b1 (o1+i*12+2))=some (m41 pb.r.v:Value)/\W.cell? (m09 b1 (o1+i*12+3))=some (m42 pb.r.v:Value)/\W.cell? (m09 b1 (o1+i*12+4))=some (m41 pb.r.inn:Value)/\W.cell? (m09 b1 (o1+i*12+5))=some (m42 pb.r.inn:Value)/\W.cell? (m09 b1 (o1+i*12+6))=some (.slice pb.r.oa pb.r.on pb.r.oc)/\W.cell? (m09 b1 (o1+i*12+7))=some (.int .u64 pb.r.p)/\W.cell? (m09 b1 (o1+i*12+8))=some (.int .u64 pb.r.q)/\W.cell? (m09 b1 (o1+i*12+9))=some (.int .i64 pb.r.sl)/\W.cell? (m09 b1 (o1+i*12+10))=some (.int .i64 pb.r.rev)/\W.cell? (m09 b1 (o1+i*12+11))=some (.bool pb.r.full))):=zH (fun W hb=>by
       have hb2:=bS D11.out hb
       have eH:=bK hb2 HY7.out
       have eK:=bK hb2 HL.out.kb
       have ea:∀q,q<12->W.cell? (m09 b1 (o1+q))=(aT pa.r)[q]?:=fun q hq=>by
        have:=(hb2.cell (p:=(m09 b1 (o1+0*12+q))) HCB.out.1).trans (HCB.out.2.1 q hq)
        rwa [Nat.zero_mul,Nat.add_zero]at this
       have en:∀q,q<12->W.cell? (m09 b1 (o1+i*12+q))=(aT pb.r)[q]?:=fun q hq=>(hb2.cell (p:=(m09 b1 (o1+i*12+q))) HCB.out.1).trans (HCB.out.2.2 q hq)
       exact⟨cA eH 7,⟨ea 2 (by omega),ea 3 (by omega)⟩,⟨en 2 (by omega),en 3 (by omega)⟩,⟨cA eK 0,cA eK 1,cA eK 2,cA eK 3,cA eK 4⟩,⟨ea 0 (by omega),ea 1 (by omega),ea 2 (by omega),ea 3 (by omega),ea 4 (by omega),ea 5 (by omega),ea 6 (by omega),ea 7 (by omega),ea 8 (by omega),ea 9 (by omega),ea 10 (by omega),ea 11 (by omega)⟩,⟨en 0 (by omega),en 1 (by omega),en 2 (by omega),en 3 (by omega),en 4 (by omega),en 5 (by omega),en 6 (by omega),en 7 (by omega),en 8 (by omega),en 9 (by omega),en 10 (by omega),en 11 (by omega)⟩⟩)
      have hq:=HQ.out w11 (Below.refl _ _)
      refine wX 0 (oi:=⟨some 63,.fieldAddr 32 (.tmp 11) 3,0,"top21.go:270",#[],none⟩) rfl ?_
      refine wY 0 1 (oi:=⟨some 64,.load 29 (.tmp 63),29,"top21.go:270",#[⟨0,.data⟩],none⟩) rfl rfl (hq.1) ?_
      refine wX 2 (oi:=⟨some 65,.indexAddr 29 (.tmp 64) (.const (.int .i64 0)),0,"top21.go:270",#[⟨1,.data⟩],none⟩) rfl ?_
      refine wX 3 (oi:=⟨some 66,.fieldAddr 44 (.tmp 65) 2,0,"top21.go:270",#[⟨2,.data⟩],none⟩) rfl ?_
      refine wY 1 4 (oi:=⟨some 67,.load 38 (.tmp 66),38,"top21.go:270",#[⟨3,.data⟩],none⟩) rfl rfl (hq.2.1) ?_
      refine wX 5 (oi:=⟨some 68,.fieldAddr 32 (.tmp 11) 3,0,"top21.go:270",#[],none⟩) rfl ?_
      refine wY 2 6 (oi:=⟨some 69,.load 29 (.tmp 68),29,"top21.go:270",#[⟨5,.data⟩],none⟩) rfl rfl (hq.1) ?_
      refine wX 7 (oi:=⟨some 70,.move (.tmp 15),3,"top21.go:270",#[],none⟩) rfl ?_
      refine wX 8 (oi:=⟨some 71,.indexAddr 29 (.tmp 69) (.tmp 70),0,"top21.go:270",#[⟨6,.data⟩,⟨7,.data⟩],none⟩) rfl ?_
      refine wX 9 (oi:=⟨some 72,.fieldAddr 44 (.tmp 71) 2,0,"top21.go:270",#[⟨8,.data⟩],none⟩) rfl ?_
      refine wY 3 10 (oi:=⟨some 73,.load 38 (.tmp 72),38,"top21.go:270",#[⟨9,.data⟩],none⟩) rfl rfl (hq.2.2.1) ?_
      refine cK 11 (by kernel_rfl) rfl (fun K hK=>?_)
      go_simp
      refine(aFe pa.r.v pb.r.v pa.k.v pb.k.v w11 (HV.out.1.v.keep D11.out) (HV.out.2.v.keep D11.out) HMT.out.1).mono ?_
      rintro e w12 ⟨rfl,hb12⟩
      have B12:=zH hb12
      have hq12:=HQ.out w12 hb12
      clear hb12
      refine hK.out _ _ ?_ ?_
      ·exact⟨.inl hq12.1,.inl hq12.2.1,.inl hq12.1,.inl hq12.2.2.1,trivial⟩
      clear hK K;try simp only[Act.put,pA,pB,pC]
      refine wX 12 (oi:=⟨some 16,.assign (.tmp 74),4,"top21.go:270",#[⟨11,.data⟩,⟨11,.chain⟩,⟨0,.phase⟩,⟨1,.phase⟩,⟨2,.phase⟩,⟨3,.phase⟩,⟨4,.phase⟩,⟨5,.phase⟩,⟨6,.phase⟩,⟨7,.phase⟩,⟨8,.phase⟩,⟨9,.phase⟩,⟨10,.phase⟩,⟨11,.phase⟩],none⟩) rfl ?_
      refine cO (by kernel_rfl) ?_ _
      try dsimp only
      clear hq hq12
      go_wp2_with fail
      refine cN [(3,fun W=>W.cell? (m07 w)=some (.slice ca cn cc)/\W.cell? (m14 w)=some (.int .u64 C.sd)/\W.cell? (m17 w)=some (.int .i64 C.ep)/\W.cell? (m19 w)=some (.int .i64 C.nu)/\W.cell? (m27 w)=some (.int .i64 C.de)),(5,fun W=>W.cell? (m36 G)=some (.slice (some (m09 b1 o1)) nn7 nc7)),(7,fun W=>W.cell? (m09 b1 o1)=some (.int .i64 pa.r.no)/\W.cell? (m09 b1 (o1+1))=some (.int .i64 pa.r.tick)/\W.cell? (m09 b1 (o1+2))=some (m41 pa.r.v:Value)/\W.cell? (m09 b1 (o1+3))=some (m42 pa.r.v:Value)/\W.cell? (m09 b1 (o1+4))=some (m41 pa.r.inn:Value)/\W.cell? (m09 b1 (o1+5))=some (m42 pa.r.inn:Value)/\W.cell? (m09 b1 (o1+6))=some (.slice pa.r.oa pa.r.on pa.r.oc)/\W.cell? (m09 b1 (o1+7))=some (.int .u64 pa.r.p)/\W.cell? (m09 b1 (o1+8))=some (.int .u64 pa.r.q)/\W.cell? (m09 b1 (o1+9))=some (.int .i64 pa.r.sl)/\W.cell? (m09 b1 (o1+10))=some (.int .i64 pa.r.rev)/\W.cell? (m09 b1 (o1+11))=some (.bool pa.r.full)),(9,fun W=>W.cell? (m07 w)=some (.slice ca cn cc)/\W.cell? (m14 w)=some (.int .u64 C.sd)/\W.cell? (m17 w)=some (.int .i64 C.ep)/\W.cell? (m19 w)=some (.int .i64 C.nu)/\W.cell? (m27 w)=some (.int .i64 C.de)),(11,fun W=>W.cell? (m36 G)=some (.slice (some (m09 b1 o1)) nn7 nc7)),(14,fun W=>W.cell? (m09 b1 (o1+i*12))=some (.int .i64 pb.r.no)/\W.cell? (m09 b1 (o1+i*12+1))=some (.int .i64 pb.r.tick)/\W.cell? (m09 b1 (o1+i*12+2))=some (m41 pb.r.v:Value)/\W.cell? (m09 b1 (o1+i*12+3))=some (m42 pb.r.v:Value)/\W.cell? (m09 b1 (o1+i*12+4))=some (m41 pb.r.inn:Value)/\W.cell? (m09 b1 (o1+i*12+5))=some (m42 pb.r.inn:Value)/\W.cell? (m09 b1 (o1+i*12+6))=some (.slice pb.r.oa pb.r.on pb.r.oc)/\W.cell? (m09 b1 (o1+i*12+7))=some (.int .u64 pb.r.p)/\W.cell? (m09 b1 (o1+i*12+8))=some (.int .u64 pb.r.q)/\W.cell? (m09 b1 (o1+i*12+9))=some (.int .i64 pb.r.sl)/\W.cell? (m09 b1 (o1+i*12+10))=some (.int .i64 pb.r.rev)/\W.cell? (m09 b1 (o1+i*12+11))=some (.bool pb.r.full))] (by kernel_rfl) ?_
      show aB _ _ _ _ _ _ _ _ w12.drew
      have B14:=zH (B12.out.drew)
      have hq14:=HQ.out w12.drew B14.out
      generalize w12.drew=w14 at B14 hq14⊢
      refine wX 0 (oi:=⟨some 75,.move (.tmp 16),4,"top21.go:271",#[],none⟩) rfl ?_
      refine wX 1 (oi:=⟨some 76,.unOp .not 4 (.tmp 75),4,"top21.go:271",#[⟨0,.data⟩],none⟩) rfl ?_
      refine wX 2 (oi:=⟨some 77,.move (.tmp 76),4,"top21.go:271",#[⟨1,.data⟩],none⟩) rfl ?_
      refine wY 0 3 (oi:=⟨some 78,.load 25 (.tmp 4),25,"top21.go:271",#[⟨2,.guard⟩],some (2,false)⟩) rfl rfl (hq14.2.2.2.1) ?_ (hw:=by kernel_rfl)
      refine wX 4 (oi:=⟨some 79,.fieldAddr 32 (.tmp 11) 3,0,"top21.go:271",#[⟨2,.guard⟩],some (2,false)⟩) rfl ?_ (hw:=by kernel_rfl)
      refine wY 1 5 (oi:=⟨some 80,.load 29 (.tmp 79),29,"top21.go:271",#[⟨4,.data⟩,⟨2,.guard⟩],some (2,false)⟩) rfl rfl (hq14.1) ?_ (hw:=by kernel_rfl)
      refine wX 6 (oi:=⟨some 81,.indexAddr 29 (.tmp 80) (.const (.int .i64 0)),0,"top21.go:271",#[⟨5,.data⟩,⟨2,.guard⟩],some (2,false)⟩) rfl ?_ (hw:=by kernel_rfl)
      refine wY 2 7 (oi:=⟨some 82,.load 44 (.tmp 81),44,"top21.go:271",#[⟨6,.data⟩,⟨2,.guard⟩],some (2,false)⟩) rfl rfl (hq14.2.2.2.2.1) ?_ (hw:=by kernel_rfl)
      refine wY 3 9 (oi:=⟨some 84,.load 25 (.tmp 4),25,"top21.go:271",#[⟨2,.guard⟩],some (2,false)⟩) rfl rfl (hq14.2.2.2.1) ?_ (hw:=by kernel_rfl)
      refine wX 10 (oi:=⟨some 85,.fieldAddr 32 (.tmp 11) 3,0,"top21.go:271",#[⟨2,.guard⟩],some (2,false)⟩) rfl ?_ (hw:=by kernel_rfl)
      refine wY 4 11 (oi:=⟨some 86,.load 29 (.tmp 85),29,"top21.go:271",#[⟨10,.data⟩,⟨2,.guard⟩],some (2,false)⟩) rfl rfl (hq14.1) ?_ (hw:=by kernel_rfl)
      refine wX 12 (oi:=⟨some 87,.move (.tmp 15),3,"top21.go:271",#[⟨2,.guard⟩],some (2,false)⟩) rfl ?_ (hw:=by kernel_rfl)
      refine wX 13 (oi:=⟨some 88,.indexAddr 29 (.tmp 86) (.tmp 87),0,"top21.go:271",#[⟨11,.data⟩,⟨12,.data⟩,⟨2,.guard⟩],some (2,false)⟩) rfl ?_ (hw:=by kernel_rfl)
      refine wY 5 14 (oi:=⟨some 89,.load 44 (.tmp 88),44,"top21.go:271",#[⟨13,.data⟩,⟨2,.guard⟩],some (2,false)⟩) rfl rfl (hq14.2.2.2.2.2) ?_ (hw:=by kernel_rfl)
      refine cK 8 (by kernel_rfl) rfl (fun K hK=>?_)
      go_simp
      have hh:=iT ca cn cc C pa.r pa.k.v w14 (HC0.out.below (HL.out.bel.trans ((bS D11.out B14.out).mono HL.out.bel.size)) nr) (HV.out.1.v.keep (bS D11.out B14.out)) HTK.out.1
      simp only[aT]at hh
      refine hh.mono ?_
      clear hh
      rintro e w15 ⟨rfl,hbw15⟩
      have B15:=zH (bS B14.out hbw15)
      have hq15:=HQ.out w15 B15.out
      rw[HG.out.1]
      clear hbw15
      refine hK.out _ _ ?_ ?_
      ·exact⟨.inl hq15.2.2.2.1,.inl hq15.1,.inl hq15.2.2.2.2.1,.inl hq15.2.2.2.1,.inl hq15.1,.inl hq15.2.2.2.2.2,trivial⟩
      clear hK K;try simp only[Act.put,pA,pB,pC]
      refine cK 15 (by kernel_rfl) rfl (fun K hK=>?_)
      go_simp
      have hh:=iT ca cn cc C pb.r pb.k.v w15 (HC0.out.below (HL.out.bel.trans ((bS D11.out B15.out).mono HL.out.bel.size)) nr) (HV.out.2.v.keep (bS D11.out B15.out)) HTK.out.2
      simp only[aT]at hh
      refine hh.mono ?_
      clear hh
      rintro e w16 ⟨rfl,hbw16⟩
      have B16:=zH (bS B15.out hbw16)
      have hq16:=HQ.out w16 B16.out
      rw[HG.out.2]
      clear hbw16
      refine hK.out _ _ ?_ ?_
      ·exact⟨.inl hq16.2.2.2.1,.inl hq16.1,.inl hq16.2.2.2.2.1,.inl hq16.2.2.2.1,.inl hq16.1,.inl hq16.2.2.2.2.2,trivial⟩
      clear hK K;try simp only[Act.put,pA,pB,pC]
      refine wX 16 (oi:=⟨some 91,.binOp .neq 40 (.tmp 83) (.tmp 90) 40,4,"top21.go:271",#[⟨8,.data⟩,⟨15,.data⟩,⟨2,.guard⟩],some (2,false)⟩) rfl ?_ (hw:=by kernel_rfl)
      refine wX 17 (oi:=⟨some 92,.pick (.tmp 77) (.const (.bool true)) (.tmp 91),4,"top21.go:271",#[⟨2,.data⟩,⟨16,.data⟩],none⟩) rfl ?_
      refine cO (by kernel_rfl) ?_ _
      try dsimp only
      clear hq14 hq15 hq16
      go_wp2_with fail
      exact⟨⟨i+1,by omega,by omega,by go_num,bS HBI.out (bS D11.out B16.out)⟩,by simp[intOf];omega⟩
   ·have hT:((t:Int)%3==2)=false:=by simp;omega
    have hT2:(Int.tmod (t:Int) 3==2)=false:=by rw[tmd];simp;omega
    have hkt:k.tick=t:=HR.out.tk
    have HST:=zH (HR.out.ok.step (al':=al.map toAc) (.inl rfl) (by rw[hkt];omega))
    clear hkt
    obtain⟨d0,d1,d2,d3,d4,d5,d6,d7,d8⟩:=kc9 hR.box
    clear hR
    go_wp2_with fail
    have ho:=@tY ⟨fun b=>b=G⟩ r ns os k a n c al wr HR.out.wd (HAC.out.1.below HR.out.bel nr) HST.out.2.1 (by
     rintro b rfl
     exact⟨(gS HR.out.box),HR.out.off⟩)
    rw[HR.out.c]at ho
    simp only[aR]at ho
    refine ho.mono ?_
    clear ho
    rintro e w7 ⟨⟨a7,n7,c7,b7,bn7,bc7,tk7,na7,nn7,nc7,oa7,on7,oc7⟩,ns7,os7,rfl,hW7,hO7,hb7⟩
    have htk:tk7=(t:Int)+1:=hW7.tick.trans (by show k.tick+1=_;rw[HR.out.tk])
    subst htk
    clear d0 d1 d2 d3 d4 d5 d6 d7 d8
    have hbx7:=bK hb7 HR.out.box
    obtain⟨d0,d1,d2,d3,d4,d5,d6,d7,d8⟩:=kc9 hbx7
    obtain⟨f0,f1,f2,f3,f4,f5,f6,f7,f8⟩:=kf9 hbx7
    have T7:=cM [.slice a7 n7 c7,.int .u64 C.sd,.int .i64 C.ep,.int .i64 C.nu,.int .i64 C.de,.slice b7 bn7 bc7,.int .i64 (t+1),.slice na7 nn7 nc7,.slice oa7 on7 oc7] 0 _ _ hbx7 (by show(9:Nat)<=9;omega)
    have HL7:Hid (LawR C ca cn cc (al.map toAc) w G (t+1) ⟨a7,n7,c7,b7,bn7,bc7,t+1,na7,nn7,nc7,oa7,on7,oc7⟩ ns7 os7 (Tp.doW k (al.map toAc)) ((((m06 w7 G a7 n7 c7 C b7 bn7 bc7:World).setCell (m39 G) (m30 (t+1))).setCell (m36 G) (m63 na7 nn7 nc7)).setCell (m60 G) (m63 oa7 on7 oc7))):=zH (HR.out.next hb7 hW7 (hO7 G rfl) (.inl rfl) (by omega) T7)
    clear hW7 hO7 hb7 hbx7 T7
    try dsimp only
    go_wp2_with fail
    generalize((((m06 w7 G a7 n7 c7 C b7 bn7 bc7:World).setCell (m39 G) (m30 (t+1))).setCell (m36 G) (m63 na7 nn7 nc7)).setCell (m60 G) (m63 oa7 on7 oc7))=w8 at HL7⊢
    clear f0 f1 f2 f3 f4 f5 f6 f7 f8
    have hoo:=aDb ⟨a7,n7,c7,b7,bn7,bc7,t+1,na7,nn7,nc7,oa7,on7,oc7⟩ ns7 os7 (Tp.doW k (al.map toAc)) a n c al w8 HL7.out.wd (HAC.out.1.below HL7.out.bel nr) HST.out.2.2
    rw[HL7.out.c]at hoo
    obtain⟨tod,htod⟩:∃z,Tp.odd (Tp.doW k (al.map toAc)) (al.map toAc)=z:=⟨_,rfl⟩
    rw[htod]at hoo
    have HOD:=zH htod
    clear htod
    simp only[aR]at hoo
    refine hoo.mono ?_
    clear hoo
    rintro e w9 ⟨rfl,hb9⟩
    have HL9:=zH (HL7.out.keep hb9)
    clear hb9
    cases tod with
    |true=>
     try dsimp only
     go_wp2_with fail
     go_ret
     exact⟨rfl,HL9.out.bel⟩
    |false=>
     try dsimp only
     go_wp2_with fail
     go_loopw [15] (fun i_ wr=>i_=.int .i64 1/\wr=w9) (fun i_ _=>0)
     case atStart=>exact⟨rfl,rfl⟩
     case round=>
      obtain⟨rfl,rfl⟩:=hrel
      have x7:wr.cell? (m36 G)=some (.slice na7 nn7 nc7):=cA HL9.out.box 7
      by_cases hin:(1:Int)<nn7
      ·go_wp2_with fail
       exact⟨⟨t+1,_,_,_,_,by omega,by go_num,HL9.out⟩,by simp[intOf];omega⟩
      ·go_wp2_with fail
       exact⟨⟨t+1,_,_,_,_,by omega,by go_num,HL9.out⟩,by simp[intOf];omega⟩
end Go.Proofs.YtbbhinehcncmeaaGreat
