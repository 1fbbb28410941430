/- A part of the proof of the laws of the top: TpLawB. No condition. -/
import Derived.Test.YtbbhinehcncmeaaGreatM00
import Derived.Test.YtbbhinehcncmeaaGreatM01
namespace Go.Proofs.YtbbhinehcncmeaaGreat
open Go.RowKit
set_option linter.unusedSimpArgs false
set_option linter.unusedVariables false
set_option linter.unusedSectionVars false
set_option maxRecDepth 100000
set_option maxHeartbeats 2000000
def Tp.odd (k:Tp.Wd) (al:List Tp.Ac):Bool:=Tp.vZ k.n||Tp.oY (Tp.seen k al).b
theorem aDb (r:RW)(ns:List NE)(os:List (RO×Tp.Vw))(k:Tp.Wd)(a:Option Addr)(n c:Nat)(al:List (RA×Tp.Vw))(w:World)(hW:WdR w r ns os k)(hA:iK w a n c al)(hS:SeIn k (al.map toAc)):
  Calls Tryz.prog 14 #[.agg (aR r k.c).toArray,.slice a n c] w fun e w'=>e=.returned (.bool (Tp.odd k (al.map toAc)))/\Below w.heap.size w w':=by
 have hal:Below w.heap.size w (w.alloc (.cells (m10 r.aw r.nw r.cw k.c r.ba r.bn r.bc r.tick r.na r.nn r.nc r.oa r.on r.oc) 32)):=(Below.refl _ _).alloc nr _
 have hbx:(w.alloc (.cells (m10 r.aw r.nw r.cw k.c r.ba r.bn r.bc r.tick r.na r.nn r.nc r.oa r.on r.oc) 32)).heap[w.heap.size]?=some (.cells (m10 r.aw r.nw r.cw k.c r.ba r.bn r.bc r.tick r.na r.nn r.nc r.oa r.on r.oc) 32 (0,0)):=heap_alloc_new w _
 have hbs:w.heap.size<(w.alloc (.cells (m10 r.aw r.nw r.cw k.c r.ba r.bn r.bc r.tick r.na r.nn r.nc r.oa r.on r.oc) 32)).heap.size:=by simp
 have HW:=zH (hW.keep hal)
 have HA:=zH (hA.keep hal)
 have HS:=zH hS
 have HAL:=zH hal
 have HBX:=zH hbx
 obtain⟨t1,ht1⟩:∃z,Tp.vZ k.n=z:=⟨_,rfl⟩
 obtain⟨t2,ht2⟩:∃z,Tp.oY (Tp.seen k (al.map toAc)).b=z:=⟨_,rfl⟩
 have HT1:Hid (Tp.vZ (ns.map NE.k)=t1):=zH (by rw[<-hW.kn];exact ht1)
 have HT2:=zH ht2
 unfold Tp.odd
 rw[ht1,ht2]
 clear hW hA hS ht1 ht2 hbx hal
 simp only[aR]
 go_enter Tryz.func14,Tryz.ntmps14
 cases t1 with
 |true=>
  go_wp2_with (go_at_call 33;refine(xW r.na r.nn r.nc ns _ HW.out.n).mono ?_;rintro e w2 ⟨rfl,hb2⟩;rw[HT1.out])
  go_ret
  exact⟨rfl,bS HAL.out hb2⟩
 |false=>
  go_wp2_with (go_at_call 33;refine(xW r.na r.nn r.nc ns _ HW.out.n).mono ?_;rintro e w2 ⟨rfl,hb2⟩;rw[HT1.out];have e2:=cG hb2 hbs HBX.out;have x0:w2.cell? (m07 w)=some (.slice r.aw r.nw r.cw):=cA e2 0;have x1:w2.cell? (m14 w)=some (.int .u64 k.c.sd):=cA e2 1;have x2:w2.cell? (m17 w)=some (.int .i64 k.c.ep):=cA e2 2;have x3:w2.cell? (m19 w)=some (.int .i64 k.c.nu):=cA e2 3;have x4:w2.cell? (m27 w)=some (.int .i64 k.c.de):=cA e2 4;have x5:w2.cell? (m61 w)=some (.slice r.ba r.bn r.bc):=cA e2 5;have x6:w2.cell? ⟨w.heap.size,6,none⟩=some (.int .i64 r.tick):=cA e2 6;have x7:w2.cell? (m51 w)=some (.slice r.na r.nn r.nc):=cA e2 7;have x8:w2.cell? (m62 w)=some (.slice r.oa r.on r.oc):=cA e2 8;have HB2:=zH hb2;clear e2)
  have HW2:=zH (HW.out.keep HB2.out)
  have hse:=aGe r ns os k a n c al w2 HW2.out (HA.out.keep HB2.out) HS.out
  simp only[aR]at hse
  refine hse.mono ?_
  clear hse
  rintro e w3 ⟨t,rfl,ht,hb3⟩
  have HT:=zH ht
  clear ht
  try dsimp only
  go_wp2_with fail
  refine(aEs t _ w3 HT.out).mono ?_
  rintro e w4 ⟨rfl,hb4⟩
  rw[HT2.out]
  have HF:=zH (bS (bS (bS HAL.out HB2.out) hb3) hb4)
  clear hb3 hb4
  try dsimp only
  go_wp2_with fail
  go_ret
  exact⟨rfl,HF.out⟩
theorem aAz (r:RV)(x:Tp.Vw)(x0 x1 x2 x3:Int)(w:World)(hx:VwR w r x):
  Calls Tryz.prog 36 #[.agg (m01 r),.agg (m12 x0 x1 x2 x3)] w fun e w'=>e=.returned (.bool (Tp.has x.v ⟨x0,x1,x2,x3⟩))/\Below w.heap.size w w':=by
 obtain⟨w2,ew2_⟩:∃z,Hid (z=((w.alloc (m49 r)).alloc (.cells (m12 x0 x1 x2 x3) 84))):=⟨_,zH rfl⟩
 have hb2:Below w.heap.size w w2:=by cases ew2_.out;exact cR _ _
 have hbr:w2.heap[w.heap.size]?=some (.cells (m01 r) 38 (0,0)):=by cases ew2_.out;rw[cF,if_neg (by simp),cF,if_pos rfl]
 have hbv:w2.heap[w.heap.size+1]?=some (.cells (m12 x0 x1 x2 x3) 84 (0,0)):=by cases ew2_.out;rw[cF,if_pos (by simp)]
 have HX:=zH hx
 have hln:x.v.length=r.nv:=hx.ok.v.len
 have hvm:=hx.ok.vm
 clear hx
 go_enter Tryz.func36,Tryz.ntmps36
 go_wp2_with fail
 rw[<-ew2_.out]
 have HB2:=zH hb2
 have HBR:=zH (And.intro hbr hbv)
 clear hb2 hbr hbv
 obtain⟨va,hva⟩:∃z,r.av=z:=⟨_,rfl⟩
 have HVA:=zH hva
 clear hva
 go_loopw [5] (fun i_ wr=>∃j:Nat,j<=r.nv/\i_=.int .i64 j/\Tp.has x.v ⟨x0,x1,x2,x3⟩=Tp.has (x.v.drop j) ⟨x0,x1,x2,x3⟩/\Below w2.heap.size w2 wr) (fun i_ _=>r.nv-(intOf i_).toNat)
 case atStart=>exact⟨0,Nat.zero_le _,rfl,rfl,Below.refl _ _⟩
 case round=>
  obtain⟨j,hj,rfl,hall,hb⟩:=hrel
  have hbb:=bK hb HBR.out.1
  have hbv:=bK hb HBR.out.2
  have n1:wr.cell? (m14 w)=some (.slice va r.nv r.cv):=HVA.out▸cA hbb 1
  have HBW:Hid (Below w.heap.size w wr):=zH (bS HB2.out hb)
  have HB:=zH hb
  by_cases hjn:j<r.nv
  case neg=>
   obtain rfl:j=r.nv:=by omega
   have HF:Hid (Tp.has x.v ⟨x0,x1,x2,x3⟩=false):=zH (by rw[hall,List.drop_of_length_le (by omega)];rfl)
   clear hall hbb hbv hb
   go_wp2
   go_ret
   exact⟨by rw[HF.out];rfl,HBW.out⟩
  have hjl:j<x.v.length:=by omega
  obtain⟨⟨y0,y1,y2,y3⟩,hy⟩:∃z,x.v[j]=z:=⟨_,rfl⟩
  obtain⟨b,o,hav,hlt,hc⟩:∃b o,va=some ⟨b,o,none⟩/\b<wr.heap.size/\∀i,i<4->wr.cell? (m09 b (o+j*4+i))=(aH ⟨y0,y1,y2,y3⟩)[i]?:=by
   rcases(HX.out.ok.v.below HBW.out nr).rows with h0|⟨b,o,ho,hlt,hc⟩
   ·omega
   ·refine⟨b,o,HVA.out.symm.trans ho,hlt,fun i hi=>?_⟩
    have:=hc j hjl i hi
    rw[hy]at this
    exact this
  subst hav
  have c0:wr.cell? (m09 b (o+j*4))=some (.int .i64 y0):=hc 0 (by omega)
  have c1:wr.cell? (m09 b (o+j*4+1))=some (.int .i64 y1):=hc 1 (by omega)
  have c2:wr.cell? (m09 b (o+j*4+2))=some (.int .u64 y2):=hc 2 (by omega)
  have c3:wr.cell? (m09 b (o+j*4+3))=some (.int .u64 y3):=hc 3 (by omega)
  obtain⟨v0,v1,v2,v3⟩:=kc4 hbv
  have j0:(0:Int)<=j:=by omega
  have j1:(j:Int)<r.nv:=by omega
  have he:=eqV ⟨y0,y1,y2,y3⟩ ⟨x0,x1,x2,x3⟩
  have hmem:(⟨y0,y1,y2,y3⟩:Tp.V)∈x.v:=hy▸List.getElem_mem hjl
  have hdr:x.v.drop j=⟨y0,y1,y2,y3⟩::x.v.drop (j+1):=by rw[List.drop_eq_getElem_cons hjl,hy]
  by_cases e:(Tp.V.mk y0 y1 y2 y3)=⟨x0,x1,x2,x3⟩
  ·rw[decide_eq_true e]at he
   simp only[kE]at he
   have HF:Hid (Tp.has x.v ⟨x0,x1,x2,x3⟩=true):=zH ((Tp.fO _ _).2 (e▸hmem))
   clear e hall hbb hbv hb hc hy hmem hdr
   go_wp2
   go_quiet (fail)
   go_wp2
   go_ret
   exact⟨by rw[HF.out];rfl,HBW.out.trans (cV _ _ _)⟩
  ·have HF:Hid (Tp.has x.v ⟨x0,x1,x2,x3⟩=Tp.has (x.v.drop (j+1)) ⟨x0,x1,x2,x3⟩):=zH (by
    rw[hall,Bool.eq_iff_iff,Tp.fO,Tp.fO,hdr]
    exact⟨fun h=>(List.mem_cons.1 h).elim (fun h2=>absurd h2.symm e) id,fun h=>List.mem_cons_of_mem _ h⟩)
   rw[decide_eq_false e]at he
   simp only[kE]at he
   clear e hall hbb hbv hb hc hy hmem hdr
   go_wp2
   go_quiet (fail)
   go_wp2
   exact⟨⟨j+1,by omega,by go_num,HF.out,HB.out.trans (cV _ _ _)⟩,by simp[intOf];omega⟩
end Go.Proofs.YtbbhinehcncmeaaGreat
