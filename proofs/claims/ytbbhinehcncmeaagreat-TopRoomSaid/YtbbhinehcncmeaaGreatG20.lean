/- A part of the proof of the laws of the top: TpLen, TpTake2. No condition. -/
import Derived.Test.YtbbhinehcncmeaaGreatG19
import Derived.Laws.EntriesVeiled
import Derived.Lib.AppendZerosOnto
namespace Go.Proofs.YtbbhinehcncmeaaGreat
open Go.RowKit
set_option linter.unusedSimpArgs false
set_option linter.unusedVariables false
set_option linter.unusedSectionVars false
set_option maxRecDepth 100000
set_option maxHeartbeats 16000000
theorem iL (f:Nat)(n:Int)(k:Tp.Wk)(l:Tp.Vw):Tp.aV (f+1) n k l=if n=(k.size:Int)then(k,l)else Tp.aV f k.size (Tp.delV (Tp.delB k l.b).2 l.v).2 ⟨(Tp.delB k l.b).1,(Tp.delV (Tp.delB k l.b).2 l.v).1⟩:=rfl
def TkS (w0 N2 N3:Nat) (j:Nat):Prop:=(w0+6<=j/\j<N2)\/N3<=j
structure aFg (w:World) (aw:Option Addr) (nw cw:Nat) (C:Tp.Cf) (r s:RV) (X N2 B:Nat) (tot:Tp.Wk×Tp.Vw) (n:Int) (k:Tp.Wk) (l:Tp.Vw) (ab:Option Addr) (nb cb:Nat) (av:Option Addr) (nv cv:Nat) (wr:World):Prop where
 tot:∃f:Nat,(f:Int)≥301-n/\tot=Tp.aV f n k l
 lo:-1<=n
 le:n<=k.size
 ok:k.Ok
 u:∀x∈l.b,x.U
 wk:WkAt wr X (TkS w.heap.size N2 (B+1)) k
 lb:LfB wr N2 (B+1) ab nb cb l.b
 lv:LfV wr N2 (B+1) av nv cv l.v
 box:wr.heap[B]?=some (.cells (m52 ab nb cb av nv cv) 38 (0,0))
 tk:TkB w aw nw cw C r s wr
 bel:Below w.heap.size w wr
 bm:nb<=1000000
 vm:nv<=1000000
theorem aFg.sz {w:World}{aw:Option Addr}{nw cw:Nat}{C:Tp.Cf}{r s:RV}{X N2 B:Nat}{tot:Tp.Wk×Tp.Vw}{n:Int}{k:Tp.Wk}{l:Tp.Vw}{ab:Option Addr}{nb cb:Nat}{av:Option Addr}{nv cv:Nat}{wr:World}(h:aFg w aw nw cw C r s X N2 B tot n k l ab nb cb av nv cv wr):B<wr.heap.size:=(gS h.box)
theorem yX (aw:Option Addr)(nw cw:Nat)(C:Tp.Cf)(r s:RV)(x y:Tp.Vw)(slot:Int)(w:World)(hC:aP w aw nw C.W C.sd)(hx:VwR w r x)(hy:VwR w s y)(hyes:Tp.aQ C x=true):
  Calls Tryz.prog 114 #[.agg (m02 aw nw cw C),.agg (m01 r),.agg (m01 s),.int .i64 slot] w fun e w'=>
   ∃(p q:RV) (k:Tp.Wk) (l:Tp.Vw),(k,l)=Tp.aV 302 (-1) (Tp.wkOf x slot) (Tp.only C y)/\e=.returned (.tuple #[.agg (m01 p),.agg (m01 q),.bool k.full])/\VwR w' p ⟨k.b,k.v⟩/\VwR w' q l/\p.New w.heap.size/\q.New w.heap.size/\Below w.heap.size w w':=by
 have hb5:=xX (w:=w) (.cells (m02 aw nw cw C) 25) (m49 r) (m49 s) (m56) (m56)
 have hT:=TkB.start w aw nw cw C r s
 have HNO:=zH hyes
 have HOK:=zH (Tp.aIs (slot:=slot) hyes hx.ok.u)
 clear hyes
 go_enter Tryz.func114,Tryz.ntmps114
 go_wp2_with fail
 have hs1:(((((w.alloc (.cells (m02 aw nw cw C) 25)).alloc (m49 r)).alloc (m49 s)).alloc (m56)).alloc (m56)).heap.size=w.heap.size+5:=by simp
 generalize((((w.alloc (.cells (m02 aw nw cw C) 25)).alloc (m49 r)).alloc (m49 s)).alloc (m56)).alloc (m56)=w1 at hb5 hT hs1⊢
 have HC:=zH (hC.keep hb5)
 have HX:=zH (hx.keep hb5)
 have HY:=zH (hy.keep hb5)
 have HB5:=zH hb5
 have hsz:=hT.sz
 have HT:=zH hT
 have HS1:=zH hs1
 clear hC hx hy hb5 hT hs1
 refine(uS r x slot w1 HX.out).mono ?_
 rintro e w2 ⟨X,rfl,hW2,hb2⟩
 have hT2:=HT.out.below hb2
 obtain⟨c0,c1,c2,c3,c4⟩:=kc5 hT2.cf
 obtain⟨d0,d1⟩:=kc2 hT2.v1
 have HT2:=zH hT2
 have HW2:=zH hW2
 have HB2:=zH hb2
 clear hT2 hW2 hb2
 go_wp2_with fail
 refine(xC aw nw cw C r x w2 (HC.out.keep HB2.out) (HX.out.keep HB2.out)).mono ?_
 rintro e w3 ⟨rfl,hb3⟩
 rw[HNO.out]
 have hT3:=HT2.out.below hb3
 have hW3:=HW2.out.wide (S':=fun j=>w.heap.size+6<=j/\j<w3.heap.size) (fun j hj hl=>⟨by have:=HS1.out;omega,Nat.lt_of_lt_of_le hl hb3.size⟩) |>.below hb3
 have hb13:=bS HB2.out hb3
 obtain⟨e0,e1,e2,e3,e4⟩:=kc5 hT3.cf
 obtain⟨g0,g1⟩:=kc2 hT3.v2
 have HT3:=zH hT3
 have HW3:=zH hW3
 have HB13:=zH hb13
 clear hT3 hW3 hb13 hb3 c0 c1 c2 c3 c4 d0 d1
 go_wp2_with fail
 refine(qT aw nw cw C s y w3 (HC.out.keep HB13.out) (HY.out.keep HB13.out)).mono ?_
 rintro e w4 ⟨t,rfl,ob,ov,hb4⟩
 clear e0 e1 e2 e3 e4 g0 g1
 have hb5:Below w3.heap.size w3 (w4.alloc (m49 t)):=hb4.alloc hb4.size _
 have hbx5:(w4.alloc (m49 t)).heap[w4.heap.size]?=some (.cells (m01 t) 38 (0,0)):=heap_alloc_new w4 _
 have hR0:aFg w aw nw cw C r s X w3.heap.size w4.heap.size (Tp.aV 302 (-1) (Tp.wkOf x slot) (Tp.only C y)) (-1) (Tp.wkOf x slot) (Tp.only C y) t.ab t.nb t.cb t.av t.nv t.cv (w4.alloc (m49 t)):=by
  have lb:=(cP cY ob).1.len
  have lv:=(cP cW ov).1.len
  refine⟨⟨302,by omega,rfl⟩,by omega,by omega,HOK.out,?_,?_,?_,?_,hbx5,HT3.out.below hb5,bS (bS HB5.out HB13.out) hb5,?_,?_⟩
  ·intro z hz
   exact HY.out.ok.u z (List.mem_filter.1 hz).1
  ·exact(HW3.out.below hb5).wide (fun j hj _=>.inl hj)
  ·exact LfB.of_own (ob.keep ((Below.refl _ _).alloc nr _)) (by simp)
  ·exact LfV.of_own (ov.keep ((Below.refl _ _).alloc nr _)) (by simp)
  ·rw[<-lb]
   refine Nat.le_trans (List.length_filter_le _ _) ?_
   rw[HY.out.ok.b.len]
   exact HY.out.ok.bm
  ·rw[<-lv]
   refine Nat.le_trans (List.length_filter_le _ _) ?_
   rw[HY.out.ok.v.len]
   exact HY.out.ok.vm
 have hN23:w3.heap.size<=w4.heap.size:=hb4.size
 obtain⟨tot,htot⟩:∃z,Tp.aV 302 (-1) (Tp.wkOf x slot) (Tp.only C y)=z:=⟨_,rfl⟩
 rw[htot]at hR0
 have HTOT:=zH htot
 have HR0:=zH hR0
 have hX6:w.heap.size+6<=X/\X<w3.heap.size:=by
  obtain⟨_,_,_,_,_,_,h⟩:=HW3.out
  exact h.sx
 clear hb5 hbx5 hR0 htot ob ov hb4
 go_wp2_with fail
 generalize w4.alloc (m49 t)=w5 at HR0⊢
 obtain⟨B,hBe⟩:∃B,w4.heap.size=B:=⟨_,rfl⟩
 obtain⟨N2,hNe⟩:∃B,w3.heap.size=B:=⟨_,rfl⟩
 rw[hBe,hNe]at HR0
 rw[hNe]at hX6 hN23
 rw[hBe]at hN23⊢
 clear hBe hNe HW3 HB13 HT3 HB2 HW2 HT2
 go_loopw [15] (fun i wr=>∃(n:Int) (k:Tp.Wk) (l:Tp.Vw) (ab:Option Addr) (nb cb:Nat) (av:Option Addr) (nv cv:Nat),i=.int .i64 n/\aFg w aw nw cw C r s X N2 B tot n k l ab nb cb av nv cv wr) (fun i _=>(301-intOf i).toNat)
 case atStart=>exact⟨_,_,_,_,_,_,_,_,_,rfl,HR0.out⟩
 case round=>
  obtain⟨n,k,l,ab,nb,cb,av,nv,cv,rfl,hR⟩:=hrel
  obtain⟨xa,xv,xca,xcv,xmb,xhb,hC⟩:=hR.wk
  have kb60:=hR.ok.b
  have kv240:=hR.ok.v
  have hlo:=hR.lo
  have hle:=hR.le
  have hBsz:=hR.sz
  have sw:IntKind.i64.wrap ((k.b.length:Int)+k.v.length)=k.b.length+k.v.length:=IntWalk.i64_in _ (by omega)
  have hks:(k.size:Int)=k.b.length+k.v.length:=by simp[Tp.Wk.size]
  have hrd:∀W:World,W.heap=wr.heap->W.cell? (m00 X)=some (.slice xa k.b.length xca)/\W.cell? (m15 X)=some (.slice xv k.v.length xcv)/\W.cell? (m65 X)=some (.bool k.full)/\W.cell? (m00 B)=some (.slice ab nb cb)/\W.cell? (m15 B)=some (.slice av nv cv):=by
   intro W hW
   have hx:=hC.box
   have hb:=hR.box
   rw[<-hW]at hx hb
   exact⟨cA hx 0,cA hx 1,cA hx 5,cA hb 0,cA hb 1⟩
  have HRD:=zH hrd
  have HR:=zH hR
  have HC3:=zH hC
  have HKS:=zH hks
  clear hrd hR hC hle
  by_cases hn:n=(k.b.length:Int)+k.v.length
  case neg=>
   have en:(n != (k.b.length:Int)+k.v.length)=true:=bne_iff_ne.2 hn
   have HN:=zH hn
   clear hn
   go_wp2_with fail
   go_region_held3 (fun W=>W.cell? (m00 X)=some (.slice xa k.b.length xca)/\W.cell? (m15 X)=some (.slice xv k.v.length xcv))
    (exact⟨(HRD.out _ rfl).1,(HRD.out _ rfl).2.1⟩)
    (fail)
   go_wp2_with fail
   go_region_held3 (fun W=>W.cell? (m00 X)=some (.slice xa k.b.length xca)/\W.cell? (m15 X)=some (.slice xv k.v.length xcv))
    (exact⟨(HRD.out _ rfl).1,(HRD.out _ rfl).2.1⟩)
    (fail)
   have b0:wr.cell? (m00 B)=some (.slice ab nb cb):=(HRD.out _ rfl).2.2.2.1
   have hS:∀j,B+1<=j->TkS w.heap.size N2 (B+1) j:=fun j h=>.inr h
   have hS2:∀j,N2<=j->j<B+1->¬TkS w.heap.size N2 (B+1) j:=fun j h1 h2 h=>by unfold TkS at h;omega
   have HS:=zH hS
   have HS2:=zH hS2
   clear hS hS2
   go_wp2_with fail
   refine(aEp X (TkS w.heap.size N2 (B+1)) k N2 (B+1) ab nb cb l.b wr.drew.drew (HR.out.lb.keep fun _ _ _ _=>rfl) (HR.out.wk.keep fun _ _ _=>rfl) HR.out.ok HR.out.u HS.out HS2.out HR.out.sz).mono ?_
   rintro e w6 ⟨m,rfl,lb6,wk6,kp6⟩
   have hBn:¬(TkS w.heap.size N2 (B+1) B\/ab=some ⟨B,0,none⟩):=by
    rintro(h|h)
    ·exact HS2.out B hN23 (Nat.lt_succ_self _) h
    ·obtain⟨cur,hc⟩:=HR.out.lb.ty h
     rw[HR.out.box]at hc
     cases hc
   have hbx6:w6.heap[B]?=some (.cells (m52 ab nb cb av nv cv) 38 (0,0)):=(kp6.block B HR.out.sz hBn).trans HR.out.box
   have lv6:LfV w6 N2 (B+1) av nv cv l.v:=HR.out.lv.keep fun j h1 h2 hex=>by
    refine kp6.block j (Nat.lt_of_lt_of_le h2 HR.out.sz) ?_
    rintro(h|h)
    ·exact HS2.out j h1 h2 h
    ·obtain⟨cur,hc⟩:=HR.out.lb.ty h
     obtain⟨cur2,hc2⟩:=hex
     rw[hc]at hc2
     cases hc2
   have hlow6:∀j,j<w.heap.size+5->w6.heap[j]?=wr.heap[j]?:=fun j hj=>by
    refine kp6.block j (Nat.lt_of_lt_of_le hj HR.out.tk.sz) ?_
    rintro(h|h)
    ·unfold TkS at h;omega
    ·obtain⟨rb,cur,ha,h2,-⟩:=HR.out.lb.row.resolve_left (fun h0=>by rw[h0.1]at h;cases h)
     rw[ha]at h
     cases h
     omega
   have tk6:=HR.out.tk.keep hlow6 kp6.size
   have bel6:Below w.heap.size w w6:=HR.out.bel.trans ⟨kp6.os,kp6.tape,kp6.output,kp6.size,fun j hj=>hlow6 j (by omega)⟩
   have k0:w6.cell? (m00 B)=some (.slice ab nb cb):=cA hbx6 0
   have fz0:=cH hbx6 0
   have T1:=iN (i:=0) (v:=.slice ab m cb) hbx6 (by simp)
   have hbx7:(w6.setCell (m00 B) (m63 ab m cb)).heap[B]?=some (.cells (m52 ab m cb av nv cv) 38 (0,0)):=T1.new
   have lb7:LfB (w6.setCell (m00 B) (m63 ab m cb)) N2 (B+1) ab m cb (Tp.delB k l.b).1:=lb6.keep fun j _ _ hex=>T1.block j fun e=>by
    obtain⟨cur,hc⟩:=hex
    rw[e,hbx6]at hc
    cases hc
   have lv7:LfV (w6.setCell (m00 B) (m63 ab m cb)) N2 (B+1) av nv cv l.v:=lv6.keep fun j _ _ hex=>T1.block j fun e=>by
    obtain⟨cur,hc⟩:=hex
    rw[e,hbx6]at hc
    cases hc
   have hBS:¬TkS w.heap.size N2 (B+1) B:=HS2.out B hN23 (Nat.lt_succ_self _)
   have wk7:WkAt (w6.setCell (m00 B) (m63 ab m cb)) X (TkS w.heap.size N2 (B+1)) (Tp.delB k l.b).2:=wk6.keep fun j hj _=>T1.block j fun e=>hBS (e▸hj)
   have tk7:=tk6.keep (W':=w6.setCell (m00 B) (m63 ab m cb)) (fun j hj=>T1.block j (by omega)) (by rw[T1.size];exact Nat.le_refl _)
   have bel7:Below w.heap.size w (w6.setCell (m00 B) (m63 ab m cb)):=bel6.trans (T1.below (by omega))
   have b1:w6.cell? (m15 B)=some (.slice av nv cv):=cA hbx6 1
   have hz7:(w6.setCell (m00 B) (m63 ab m cb)).heap.size=w6.heap.size:=T1.size
   have hz6:B+1<=w6.heap.size:=Nat.le_trans HR.out.sz kp6.size
   have dok:=Tp.aEo l.b HR.out.ok HR.out.u
   have HLB7:=zH lb7
   have HLV7:=zH lv7
   have HWK7:=zH wk7
   have HTK7:=zH tk7
   have HBEL7:=zH bel7
   have HBX7:=zH hbx7
   have HZ7:=zH (show B+1<=(w6.setCell (m00 B) (m63 ab m cb)).heap.size by omega)
   have HDOK:=zH dok
   clear lb6 wk6 kp6 hbx6 lv6 hlow6 tk6 bel6 T1 hbx7 lb7 lv7 wk7 tk7 bel7 hz7 dok hBn b0
   go_wp2_with fail
   generalize w6.setCell (m00 B) (m63 ab m cb)=w7 at HLB7 HLV7 HWK7 HTK7 HBEL7 HBX7 HZ7⊢
   refine(aEm X (TkS w.heap.size N2 (B+1)) (Tp.delB k l.b).2 N2 (B+1) av nv cv l.v w7 HLV7.out HWK7.out HDOK.out.1 HS.out HS2.out HZ7.out).mono ?_
   rintro e w8 ⟨m2,rfl,lv8,wk8,kp8⟩
   have hBn:¬(TkS w.heap.size N2 (B+1) B\/av=some ⟨B,0,none⟩):=by
    rintro(h|h)
    ·exact HS2.out B hN23 (Nat.lt_succ_self _) h
    ·obtain⟨cur,hc⟩:=HLV7.out.ty h
     rw[HBX7.out]at hc
     cases hc
   have hbx8:=(kp8.block B HZ7.out hBn).trans HBX7.out
   have lb8:LfB w8 N2 (B+1) ab m cb (Tp.delB k l.b).1:=HLB7.out.keep fun j h1 h2 hex=>by
    refine kp8.block j (Nat.lt_of_lt_of_le h2 HZ7.out) ?_
    rintro(h|h)
    ·exact HS2.out j h1 h2 h
    ·obtain⟨cur,hc⟩:=HLV7.out.ty h
     obtain⟨cur2,hc2⟩:=hex
     rw[hc]at hc2
     cases hc2
   have hlow8:∀j,j<w.heap.size+5->w8.heap[j]?=w7.heap[j]?:=fun j hj=>by
    refine kp8.block j (Nat.lt_of_lt_of_le hj HTK7.out.sz) ?_
    rintro(h|h)
    ·unfold TkS at h;omega
    ·obtain⟨rb,cur,ha,h2,-⟩:=HLV7.out.row.resolve_left (fun h0=>by rw[h0.1]at h;cases h)
     rw[ha]at h
     cases h
     omega
   have tk8:=HTK7.out.keep hlow8 kp8.size
   have bel8:Below w.heap.size w w8:=HBEL7.out.trans ⟨kp8.os,kp8.tape,kp8.output,kp8.size,fun j hj=>hlow8 j (by omega)⟩
   have k1:w8.cell? (m15 B)=some (.slice av nv cv):=cA hbx8 1
   have fz1:=cH hbx8 1
   have T2:=iN (i:=1) (v:=.slice av m2 cv) hbx8 (by simp)
   have hbx9:(w8.setCell (m15 B) (m63 av m2 cv)).heap[B]?=some (.cells (m52 ab m cb av m2 cv) 38 (0,0)):=T2.new
   have lb9:LfB (w8.setCell (m15 B) (m63 av m2 cv)) N2 (B+1) ab m cb (Tp.delB k l.b).1:=lb8.keep fun j _ _ hex=>T2.block j fun e=>by
    obtain⟨cur,hc⟩:=hex
    rw[e,hbx8]at hc
    cases hc
   have lv9:LfV (w8.setCell (m15 B) (m63 av m2 cv)) N2 (B+1) av m2 cv (Tp.delV (Tp.delB k l.b).2 l.v).1:=lv8.keep fun j _ _ hex=>T2.block j fun e=>by
    obtain⟨cur,hc⟩:=hex
    rw[e,hbx8]at hc
    cases hc
   have wk9:WkAt (w8.setCell (m15 B) (m63 av m2 cv)) X (TkS w.heap.size N2 (B+1)) (Tp.delV (Tp.delB k l.b).2 l.v).2:=wk8.keep fun j hj _=>T2.block j fun e=>hBS (e▸hj)
   have tk9:=tk8.keep (W':=w8.setCell (m15 B) (m63 av m2 cv)) (fun j hj=>T2.block j (by omega)) (by rw[T2.size];exact Nat.le_refl _)
   have bel9:Below w.heap.size w (w8.setCell (m15 B) (m63 av m2 cv)):=bel8.trans (T2.below (by omega))
   have vok:=Tp.aEl l.v HDOK.out.1
   have hR9:aFg w aw nw cw C r s X N2 B tot ((k.b.length:Int)+k.v.length) (Tp.delV (Tp.delB k l.b).2 l.v).2 ⟨(Tp.delB k l.b).1,(Tp.delV (Tp.delB k l.b).2 l.v).1⟩ ab m cb av m2 cv (w8.setCell (m15 B) (m63 av m2 cv)):=by
    obtain⟨f,hf,htot⟩:=HR.out.tot
    have hle:=HR.out.le
    have hks:=HKS.out
    refine⟨?_,by omega,?_,vok.1,fun z hz=>HR.out.u z (Tp.aHf _ _ _ hz),wk9,lb9,lv9,hbx9,tk9,bel9,?_,?_⟩
    ·obtain⟨g,rfl⟩:∃g,f=g+1:=⟨f-1,by have:=HN.out;omega⟩
     refine⟨g,?_,?_⟩
     ·have:=HN.out
      omega
     ·rw[htot,iL,if_neg (by rw[hks];exact HN.out),hks]
    ·have h1:=HDOK.out.2
     have h2:=vok.2
     omega
    ·rw[<-lb9.len]
     refine Nat.le_trans (Tp.rR _ _) ?_
     rw[HR.out.lb.len]
     exact HR.out.bm
    ·rw[<-lv9.len]
     refine Nat.le_trans (Tp.rO _ _) ?_
     rw[HR.out.lv.len]
     exact HR.out.vm
   have HR9:=zH hR9
   have hle:=HR.out.le
   have hks:=HKS.out
   have hn9:=HN.out
   clear lv8 wk8 kp8 hbx8 lb8 hlow8 tk8 bel8 T2 hbx9 lb9 lv9 wk9 tk9 bel9 vok hR9 hBn
   go_wp2
   exact⟨⟨_,_,_,_,_,_,_,_,_,rfl,HR9.out⟩,by simp only[intOf];omega⟩
  have en:(n != (k.b.length:Int)+k.v.length)=false:=by rw[hn];simp
  have hfin:tot=(k,l):=by
   obtain⟨f,hf,htot⟩:=HR.out.tot
   have hks:=HKS.out
   obtain⟨g,rfl⟩:∃g,f=g+1:=⟨f-1,by omega⟩
   rw[htot,iL,if_pos (by rw[hks];exact hn)]
  have HFIN:=zH hfin
  clear hn hfin
  go_wp2_with fail
  go_region_held3 (fun W=>W.cell? (m00 X)=some (.slice xa k.b.length xca)/\W.cell? (m15 X)=some (.slice xv k.v.length xcv))
   (exact⟨(HRD.out _ rfl).1,(HRD.out _ rfl).2.1⟩)
   (fail)
  go_wp2_with fail
  have hTV:=HR.out.tk
  have T8:=set2 wr.drew.drew (w.heap.size+3) _ _ (m63 xa k.b.length xca) (m63 xv k.v.length xcv) _ hTV.r8
  have r90:=(T8.block (w.heap.size+4) (by omega)).trans hTV.r9
  have T9:=set2 _ (w.heap.size+4) _ _ (m63 ab nb cb) (m63 av nv cv) _ r90
  obtain⟨e80,e81⟩:=kc2 hTV.r8
  have f80:wr.frozen? ⟨w.heap.size+3,0,none⟩=false:=cH hTV.r8 0
  have f81:wr.frozen? ⟨w.heap.size+3,1,none⟩=false:=cH hTV.r8 1
  obtain⟨e90,e91⟩:=kc2 hTV.r9
  have f90:wr.frozen? ⟨w.heap.size+4,0,none⟩=false:=cH hTV.r9 0
  have f91:wr.frozen? ⟨w.heap.size+4,1,none⟩=false:=cH hTV.r9 1
  have hB5:w.heap.size+6<=B:=by omega
  have hsame:∀W:World,(∀j,j≠w.heap.size+3->j≠w.heap.size+4->W.heap[j]?=wr.heap[j]?)->(W.cell? (m00 X)=some (.slice xa k.b.length xca)/\W.cell? (m15 X)=some (.slice xv k.v.length xcv)/\W.cell? (m65 X)=some (.bool k.full)/\W.cell? (m00 B)=some (.slice ab nb cb)/\W.cell? (m15 B)=some (.slice av nv cv)):=fun W hW=>by
   have hS0:=HRD.out wr rfl
   exact⟨(World.cell?_of_block (w:=wr) (hW X (by omega) (by omega))).trans hS0.1,(World.cell?_of_block (w:=wr) (hW X (by omega) (by omega))).trans hS0.2.1,(World.cell?_of_block (w:=wr) (hW X (by omega) (by omega))).trans hS0.2.2.1,(World.cell?_of_block (w:=wr) (hW B (by omega) (by omega))).trans hS0.2.2.2.1,(World.cell?_of_block (w:=wr) (hW B (by omega) (by omega))).trans hS0.2.2.2.2⟩
  have hS1:=hsame _ (fun j h1 h2=>T8.block j h1)
  have hS2:=hsame _ (fun j h1 h2=>(T9.block j h2).trans (T8.block j h1))
  have HT8:=zH T8
  have HT9:=zH T9
  have HS1:=zH hS1
  have HS2:=zH hS2
  clear hsame T8 T9 hTV r90 hS1 hS2
  go_region_held3 (fun W=>W.cell? (m00 X)=some (.slice xa k.b.length xca)/\W.cell? (m15 X)=some (.slice xv k.v.length xcv)/\W.cell? (m65 X)=some (.bool k.full)/\W.cell? (m00 B)=some (.slice ab nb cb)/\W.cell? (m15 B)=some (.slice av nv cv))
   (first|exact HRD.out _ rfl|exact HS1.out|exact HS2.out)
   (fail)
  go_wp2
  have t8:=HT8.out
  have t9:=HT9.out
  have hxo:=((HC3.out.ob.keep (w':=wr.drew.drew) ((Below.refl _ wr).drew.drew)).far t8 (fun g hg=>by have:=HC3.out.sb g hg;unfold TkS at this;omega)).far t9 (fun g hg=>by have:=HC3.out.sb g hg;unfold TkS at this;omega)
  have hvo:=((HC3.out.ov.keep (w':=wr.drew.drew) ((Below.refl _ wr).drew.drew)).far t8 (fun g hg=>by have:=HC3.out.sv g hg;unfold TkS at this;omega)).far t9 (fun g hg=>by have:=HC3.out.sv g hg;unfold TkS at this;omega)
  have hp:VwR _ ⟨xa,k.b.length,xca,xv,k.v.length,xcv⟩ ⟨k.b,k.v⟩:=VwR.of_own (hxo.lower nr) (hvo.lower nr) HR.out.ok.u (by show k.b.length<=1000000;omega) (by show k.v.length<=1000000;omega)
  have hq0:VwR wr.drew.drew ⟨ab,nb,cb,av,nv,cv⟩ l:=⟨⟨HR.out.lb.sl.same rfl,HR.out.lv.sl.same rfl,HR.out.u,HR.out.bm,HR.out.vm⟩,HR.out.lb.nil,HR.out.lv.nil⟩
  have hfar:∀b off,ab=some ⟨b,off,none⟩\/av=some ⟨b,off,none⟩->N2<=b:=by
   intro b off h
   rcases h with h|h
   ·rcases HR.out.lb.row with⟨h0,-⟩|⟨rb,cur,ha,h2,-⟩
    ·rw[h0]at h;cases h
    ·rw[ha]at h;cases h;exact h2
   ·rcases HR.out.lv.row with⟨h0,-⟩|⟨rb,cur,ha,h2,-⟩
    ·rw[h0]at h;cases h
    ·rw[ha]at h;cases h;exact h2
  have hq:=(hq0.far t8 (fun b off h=>by have:=hfar b off h;omega)).far t9 (fun b off h=>by have:=hfar b off h;omega)
  have hpn:(⟨xa,k.b.length,xca,xv,k.v.length,xcv⟩:RV).New w.heap.size:=⟨fun b o e=>by have:=HC3.out.sb b (by rw[show xa=some ⟨b,o,none⟩from e];exact kQ (by rw[show some ((m09 b o):Addr)=xa from e.symm];exact HC3.out.ob));unfold TkS at this;omega,fun b o e=>by have:=HC3.out.sv b (by rw[show xv=some ⟨b,o,none⟩from e];exact kQ (by rw[show some ((m09 b o):Addr)=xv from e.symm];exact HC3.out.ov));unfold TkS at this;omega⟩
  have hqn:(⟨ab,nb,cb,av,nv,cv⟩:RV).New w.heap.size:=⟨fun b o e=>by have:=hfar b o (.inl e);omega,fun b o e=>by have:=hfar b o (.inr e);omega⟩
  have hbl:Below w.heap.size w _:=(HR.out.bel.trans ((Below.refl _ wr).drew.drew)).trans ((t8.below (by omega)).trans (t9.below (by omega)))
  refine bodyPost_ret (v:=.tuple #[.agg (m52 xa k.b.length xca xv k.v.length xcv),.agg (m52 ab nb cb av nv cv),.bool k.full]) ?_ rfl ⟨_,_,k,l,by rw[HTOT.out,HFIN.out],rfl,hp,hq,hpn,hqn,hbl⟩
  simp[results,Tryz.results114,go_sem,e80,e81,e90,e91]
theorem aBb (aw:Option Addr)(nw cw:Nat)(C:Tp.Cf)(r s:RV)(x y:Tp.Vw)(slot:Int)(w:World)(hC:aP w aw nw C.W C.sd)(hx:VwR w r x)(hy:VwR w s y):
  Calls Tryz.prog 114 #[.agg (m02 aw nw cw C),.agg (m01 r),.agg (m01 s),.int .i64 slot] w fun e w'=>
   ∃p q:RV,e=.returned (.tuple #[.agg (m01 p),.agg (m01 q),.bool (Tp.take C x y slot).2.2])/\VwR w' p (Tp.take C x y slot).1/\VwR w' q (Tp.take C x y slot).2.1/\p.New w.heap.size/\q.New w.heap.size/\Below w.heap.size w w':=by
 cases hm:Tp.aQ C x with
 |false=>
  have ht:Tp.take C x y slot=(x,y,false):=by unfold Tp.take;rw[hm];rfl
  rw[ht]
  exact vC aw nw cw C r s x y slot w hC hx hy hm
 |true=>
  refine(yX aw nw cw C r s x y slot w hC hx hy hm).mono ?_
  rintro e w' ⟨p,q,k,l,hkl,rfl,h1,h2,h3,h4,h5⟩
  have ht:Tp.take C x y slot=(⟨k.b,k.v⟩,l,k.full):=by
   unfold Tp.take
   rw[hm,<-hkl]
   try rfl
  rw[ht]
  exact⟨p,q,rfl,h1,h2,h3,h4,h5⟩
namespace Tp
theorem nA :∀(f:Nat) (n:Int) (k:Wk) (l:Vw),(aV f n k l).2.b.length<=l.b.length/\(aV f n k l).2.v.length<=l.v.length
 |0,n,k,l=>⟨Nat.le_refl _,Nat.le_refl _⟩
 |f+1,n,k,l=>by
  rw[iL]
  by_cases h:n=(k.size:Int)
  ·rw[if_pos h];exact⟨Nat.le_refl _,Nat.le_refl _⟩
  ·rw[if_neg h]
   have ih:=nA f k.size (delV (delB k l.b).2 l.v).2 ⟨(delB k l.b).1,(delV (delB k l.b).2 l.v).1⟩
   exact⟨Nat.le_trans ih.1 (rR _ _),Nat.le_trans ih.2 (rO _ _)⟩
theorem mM (x y:Vw):(join x y).b.length<=x.b.length+y.b.length/\(join x y).v.length<=x.v.length+y.v.length:=⟨kD _ _,kD _ _⟩
theorem aAd (C:Cf)(k:Nw)(y:Vw):(countL C k y).b.length<=y.b.length/\(countL C k y).v.length<=y.v.length:=by
 unfold countL take
 split
 ·have h:=nA 302 (-1) (wkOf k.n.v k.slot) (only C y)
  exact⟨Nat.le_trans h.1 (List.length_filter_le _ _),Nat.le_trans h.2 (List.length_filter_le _ _)⟩
 ·simp
end Tp
end Go.Proofs.YtbbhinehcncmeaaGreat
