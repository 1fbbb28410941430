/- A part of the proof of the laws of the top: TpRoom. No condition. -/
import Derived.Test.YtbbhinehcncmeaaGreatG37
import Derived.Test.YtbbhinehcncmeaaGreatG42
namespace Go.Proofs.YtbbhinehcncmeaaGreat
open Go.RowKit
set_option linter.unusedSimpArgs false
set_option linter.unusedVariables false
set_option linter.unusedSectionVars false
set_option maxRecDepth 100000
set_option maxHeartbeats 8000000
theorem aCf (ca:Option Addr)(cn cc:Nat)(C:Tp.Cf)(ba:Option Addr)(bn bc:Nat)(bad:List Int)(a:Option Addr)(n c:Nat)(al:List (RA×Tp.Vw))(slots:Int)(w:World)(hC:aP w ca cn C.W C.sd)(hB:SlV intC 1 w ba bn bc bad)(hB0:ba=none->bn=0/\bc=0)(hA:SlV actC 5 w a n c (al.map Prod.fst))(hQ:∀p∈al,aHx w p):
  Calls Tryz.prog 4 #[.agg (m02 ca cn cc C),.slice ba bn bc,.slice a n c,.int .i64 slots] w fun e w'=>e=.returned (.bool true)/\Below w.heap.size w w':=by
 have HC0:=zH hC
 have HB0:=zH (And.intro hB hB0)
 have HA0:=zH hA
 have HQ0:=zH hQ
 have hbn:bn<=9223372036854775807:=Nat.le_trans hB.cap hB.top
 have HBN:=zH hbn
 have hal:Below w.heap.size w (w.alloc (.cells (m02 ca cn cc C) 25)):=(Below.refl _ _).alloc nr _
 have hb0:(w.alloc (.cells (m02 ca cn cc C) 25)).heap[w.heap.size]?=some (.cells (m02 ca cn cc C) 25 (0,0)):=heap_alloc_new w _
 obtain⟨few,hfew⟩:∃z,wE C.W C.ep C.nu C.de cn bn (al.map Prod.fst) slots=z:=⟨_,rfl⟩
 have HFEW:=zH hfew
 clear hC hB hB0 hA hQ hfew hbn
 go_enter Tryz.func4,Tryz.ntmps4
 go_wp2_with fail
 generalize(w.alloc (.cells (m02 ca cn cc C) 25))=w1 at hal hb0⊢
 have D1:=zH hal
 have HBX:=zH hb0
 clear hal hb0
 refine(oO w1).mono ?_
 rintro e w2 ⟨rfl,hb2⟩
 have hbx2:=bK hb2 HBX.out
 have D2:=zH (bS D1.out hb2)
 have HBX2:=zH hbx2
 obtain⟨c0,c1,c2,c3,c4⟩:=kc5 hbx2
 clear hbx2 hb2
 try dsimp only
 go_wp2_with fail
 refine(jK ca cn cc C.W C.sd C.ep C.nu C.de ba bn bc a n c (al.map Prod.fst) slots w2 (HC0.out.keep D2.out) (HA0.out.keep D2.out) HBN.out).mono ?_
 rintro e w3 ⟨rfl,hb3⟩
 rw[HFEW.out]
 have hbx3:=bK hb3 HBX2.out
 have D3:=zH (bS D2.out hb3)
 have HBX3:=zH hbx3
 clear c0 c1 c2 c3 c4
 obtain⟨c0,c1,c2,c3,c4⟩:=kc5 hbx3
 clear hbx3 hb3
 cases few with
 |false=>
  try dsimp only
  go_wp2_with fail
  go_ret
  exact⟨rfl,D3.out⟩
 |true=>
  have HF:=zH (oC HFEW.out)
  have HAC:=zH (wR HA0.out HQ0.out HF.out.2.2.2.2.2.1 HF.out.2.2.2.2.2.2)
  have HOK:Hid (Tp.WOk (al.map toAc) (Tp.newW C bad)):=zH (Tp.qY HF.out.1 HAC.out.2.1 HAC.out.2.2)
  have hs1:=HF.out.2.2.2.1
  have hs2:=HF.out.2.2.2.2.1
  try dsimp only
  go_wp2_with fail
  refine(qX ca cn cc C ba bn bc bad w3 (HC0.out.keep D3.out) HF.out.1 (Nat.le_trans HF.out.2.1 (by omega)) (HB0.out.1.keep D3.out) (Nat.le_trans HF.out.2.2.1 (by omega)) HB0.out.2).mono ?_
  rintro e w4 ⟨r,ns,rfl,hW4,-,hb4⟩
  simp only[aR]
  have hbx4:=bK hb4 HBX3.out
  have HR:Hid (LawR C ca cn cc (al.map toAc) w w4.heap.size 3 r ns [] (Tp.newW C bad) (w4.alloc (.cells (m10 r.aw r.nw r.cw C r.ba r.bn r.bc r.tick r.na r.nn r.nc r.oa r.on r.oc) 32))):=zH (LawR.start hW4 (bS D3.out hb4) hbx4 HOK.out)
  clear c0 c1 c2 c3 c4 hW4 hb4 hbx4
  try dsimp only
  go_wp2_with fail
  generalize w4.alloc (.cells (m10 r.aw r.nw r.cw C r.ba r.bn r.bc r.tick r.na r.nn r.nc r.oa r.on r.oc) 32)=w5 at HR⊢
  generalize w4.heap.size=G at HR⊢
  go_loopw [12] (fun i_ wr=>∃(t:Nat) (r:RW) (ns:List NE) (os:List (RO×Tp.Vw)) (k:Tp.Wd),(t:Int)<=3*slots+3/\i_=.int .i64 t/\LawR C ca cn cc (al.map toAc) w G t r ns os k wr) (fun i_ _=>15-(intOf i_).toNat)
  case atStart=>exact⟨3,_,_,_,_,by omega,rfl,HR.out⟩
  case round=>
   clear HR
   obtain⟨t,r,ns,os,k,ht,rfl,hR⟩:=hrel
   have HR:=zH hR
   by_cases hlt:(t:Int)<3*slots+3
   case neg=>
    clear hR
    go_wp2_with fail
    go_ret
    exact⟨rfl,HR.out.bel⟩
   have hkt:k.tick=t:=HR.out.tk
   have HST:=zH (HR.out.ok.step (al':=al.map toAc) (.inl rfl) (by rw[hkt];omega))
   clear hkt
   obtain⟨d0,d1,d2,d3,d4,d5,d6,d7,d8⟩:=kc9 hR.box
   clear hR
   go_wp2_with fail
   have ho:=@tY ⟨fun b=>b=G⟩ r ns os k a n c al wr HR.out.wd (HAC.out.1.below HR.out.bel nr) HST.out.2.1 (by
    rintro b rfl
    exact⟨(gS HR.out.box),HR.out.off⟩)
   rw[HR.out.c]at ho
   simp only[aR]at ho
   refine ho.mono ?_
   clear ho
   rintro e w7 ⟨⟨a7,n7,c7,b7,bn7,bc7,tk7,na7,nn7,nc7,oa7,on7,oc7⟩,ns7,os7,rfl,hW7,hO7,hb7⟩
   have htk:tk7=(t:Int)+1:=hW7.tick.trans (by show k.tick+1=_;rw[HR.out.tk])
   subst htk
   clear d0 d1 d2 d3 d4 d5 d6 d7 d8
   have hbx7:=bK hb7 HR.out.box
   obtain⟨d0,d1,d2,d3,d4,d5,d6,d7,d8⟩:=kc9 hbx7
   obtain⟨f0,f1,f2,f3,f4,f5,f6,f7,f8⟩:=kf9 hbx7
   have T7:=cM [.slice a7 n7 c7,.int .u64 C.sd,.int .i64 C.ep,.int .i64 C.nu,.int .i64 C.de,.slice b7 bn7 bc7,.int .i64 (t+1),.slice na7 nn7 nc7,.slice oa7 on7 oc7] 0 _ _ hbx7 (by show(9:Nat)<=9;omega)
   have HL7:Hid (LawR C ca cn cc (al.map toAc) w G (t+1) ⟨a7,n7,c7,b7,bn7,bc7,t+1,na7,nn7,nc7,oa7,on7,oc7⟩ ns7 os7 (Tp.doW k (al.map toAc)) ((((m06 w7 G a7 n7 c7 C b7 bn7 bc7:World).setCell (m39 G) (m30 (t+1))).setCell (m36 G) (m63 na7 nn7 nc7)).setCell (m60 G) (m63 oa7 on7 oc7))):=zH (HR.out.next hb7 hW7 (hO7 G rfl) (.inl rfl) (by omega) T7)
   clear hW7 hO7 hb7 hbx7 T7
   have HRM:=zH HL7.out.ok.room
   have ho1:decide ((1:Int)<(on7:Int))=false:=decide_eq_false (by
    have h1:=HL7.out.wd.o.len
    have h2:=HRM.out.o
    rw[HL7.out.wd.ko,List.length_map,h1]at h2
    have h3:on7<=1:=h2
    omega)
   try dsimp only
   go_wp2_with fail
   generalize((((m06 w7 G a7 n7 c7 C b7 bn7 bc7:World).setCell (m39 G) (m30 (t+1))).setCell (m36 G) (m63 na7 nn7 nc7)).setCell (m60 G) (m63 oa7 on7 oc7))=w8 at HL7⊢
   clear d0 d1 d2 d3 d4 d5 d6 d7 d8 f0 f1 f2 f3 f4 f5 f6 f7 f8 ho1
   have hnn:nn7<=1000000:=HL7.out.wd.n.bd
   go_loopw [13] (fun i_ wr=>∃i:Nat,i<=nn7/\i_=.int .i64 i/\Below w8.heap.size w8 wr) (fun i_ _=>nn7-(intOf i_).toNat)
   case atStart=>exact⟨0,by omega,rfl,Below.refl _ _⟩
   case round=>
    obtain⟨i,hi,rfl,hb⟩:=hrel
    have HL:=zH (HL7.out.keep hb)
    have HBI:=zH hb
    have x7:wr.cell? (m36 G)=some (.slice na7 nn7 nc7):=cA HL.out.box 7
    clear hb
    by_cases hin:i<nn7
    case neg=>
     go_wp2_with fail
     exact⟨⟨t+1,_,_,_,_,by omega,by go_num,HL.out⟩,by simp[intOf];omega⟩
    have hil:i<ns7.length:=by rw[HL.out.wd.n.len];exact hin
    obtain⟨p,hp⟩:∃p,ns7[i]=p:=⟨_,rfl⟩
    have hmem:=hp▸List.getElem_mem hil
    obtain⟨b,o,hna,hlt2,hc⟩:=HL.out.wd.n.cells hil hp
    have hna2:na7=some ⟨b,o,none⟩:=hna
    have hnd:=HL.out.wd.n.nd p hmem
    have hk:p.k∈(Tp.doW k (al.map toAc)).n:=by rw[HL.out.wd.kn];exact List.mem_map_of_mem hmem
    have hrm:=HRM.out.n p.k hk
    have htk:p.r.tick=(t:Int)+1:=by
     have h1:=HL.out.tk
     have h2:=hnd.tick
     have h3:=hrm.1
     omega
    have hc':∀q,q<12->wr.cell? (m09 b (o+i*12+q))=(aT p.r)[q]?:=hc
    have m0:wr.cell? (m09 b (o+i*12))=some (.int .i64 p.r.no):=hc' 0 (by omega)
    have m1:wr.cell? (m09 b (o+i*12+1))=some (.int .i64 (t+1)):=(hc' 1 (by omega)).trans (by show some (Value.int .i64 p.r.tick)=_;rw[htk])
    have m2:wr.cell? (m09 b (o+i*12+2))=some (m41 p.r.v:Value):=hc' 2 (by omega)
    have m3:wr.cell? (m09 b (o+i*12+3))=some (m42 p.r.v:Value):=hc' 3 (by omega)
    have m4:wr.cell? (m09 b (o+i*12+4))=some (m41 p.r.inn:Value):=hc' 4 (by omega)
    have m5:wr.cell? (m09 b (o+i*12+5))=some (m42 p.r.inn:Value):=hc' 5 (by omega)
    have m6:wr.cell? (m09 b (o+i*12+6))=some (.slice p.r.oa p.r.on p.r.oc):=hc' 6 (by omega)
    have m7:wr.cell? (m09 b (o+i*12+7))=some (.int .u64 p.r.p):=hc' 7 (by omega)
    have m8:wr.cell? (m09 b (o+i*12+8))=some (.int .u64 p.r.q):=hc' 8 (by omega)
    have m9:wr.cell? (m09 b (o+i*12+9))=some (.int .i64 p.r.sl):=hc' 9 (by omega)
    have m10:wr.cell? (m09 b (o+i*12+10))=some (.int .i64 p.r.rev):=hc' 10 (by omega)
    have m11:wr.cell? (m09 b (o+i*12+11))=some (.bool p.r.full):=hc' 11 (by omega)
    have q1:decide ((60:Int)<(p.r.v.nb:Int))=false:=decide_eq_false (by have:=hnd.v.ok.b.len;omega)
    have q2:decide ((240:Int)<(p.r.v.nv:Int))=false:=decide_eq_false (by have:=hnd.v.ok.v.len;omega)
    have q3:decide ((8:Int)<(p.r.on:Int))=false:=decide_eq_false (by have h1:=hnd.o.len;have h2:=hrm.2.2.2.1;rw[hnd.ko,List.length_map]at h2;omega)
    have hal:Below wr.heap.size wr (wr.alloc (.cells (m03 p.r.no (t+1) p.r.v p.r.inn p.r.oa p.r.on p.r.oc p.r.p p.r.q p.r.sl p.r.rev p.r.full) 44)):=(Below.refl _ _).alloc nr _
    have HV:=zH (hnd.v.keep hal).ok
    have HAL:=zH hal
    have HMAY:Hid (Tp.may p.k.v.b=true):=zH hrm.2.2.2.2
    have i0:(0:Int)<=i:=by omega
    have i1:(i:Int)<nn7:=by omega
    clear hp hmem hna hlt2 hc hc' hnd hk hrm htk hal
    subst hna2
    go_wp2_with (go_at_call 13;refine(hZ p.r.v.ab p.r.v.nb p.r.v.cb p.k.v.b _ HV.out.b.len (Nat.le_trans HV.out.bm (by omega)) HV.out.u HV.out.b.rows.blks).mono ?_;rintro e w9 ⟨rfl,hb9⟩;rw[HMAY.out])
    exact⟨⟨i+1,by omega,by go_num,bS HBI.out (bS HAL.out hb9)⟩,by simp[intOf];omega⟩
end Go.Proofs.YtbbhinehcncmeaaGreat
