/- A part of the proof of the laws of the top: TpHolds, TpOpen. No condition. -/
import Derived.Test.YtbbhinehcncmeaaGreatG33
import Derived.Below
import Derived.ChangeOld
import Derived.Deep.Slices
import Derived.OpenShut
import Derived.ProofKit
import Derived.ShutString
namespace Go.Proofs.YtbbhinehcncmeaaGreat
open Go.RowKit
set_option linter.unusedSimpArgs false
set_option linter.unusedVariables false
set_option linter.unusedSectionVars false
set_option maxRecDepth 100000
set_option maxHeartbeats 2000000
def Tp.stands (k:Tp.Wd) (id:Int×Int) (n:Tp.Nd):Bool:=Tp.sI n.v.b id (Tp.aL k.c n.v (Tp.dA n.tick))
def Tp.holds (k:Tp.Wd) (id:Int×Int):Bool:=!(k.n.any (fun n=>!Tp.stands k id n))
theorem zX (B1 B2:Nat)(r:RW)(k:Tp.Wd)(i0 i1:Int)(rn:RN)(os:List (RO×Tp.Vw))(nd:Tp.Nd)(w:World)(h1:w.heap[B1]?=some (.cells (m08 i0 i1) 40 (0,0)))(h2:w.heap[B2]?=some (.cells (aR r k.c).toArray 32 (0,0)))(hC:aP w r.aw r.nw k.c.W k.c.sd)(hn:NdR w rn os nd)(ht:1<=nd.tick/\nd.tick<=1000000):
  Calls Tryz.prog 39 #[.agg (aT rn).toArray,.pointer (some (m00 B1)),.pointer (some (m00 B2))] w fun e w'=>e=.returned (.bool (!Tp.stands k (i0,i1) nd))/\Below w.heap.size w w':=by
 obtain⟨w1,ew1_⟩:∃z,Hid (z=(w.alloc (.cells (m03 rn.no rn.tick rn.v rn.inn rn.oa rn.on rn.oc rn.p rn.q rn.sl rn.rev rn.full) 44))):=⟨_,zH rfl⟩
 have hal:Below w.heap.size w w1:=by cases ew1_.out;exact(Below.refl _ _).alloc nr _
 have hb0:w1.heap[w.heap.size]?=some (.cells (m03 rn.no rn.tick rn.v rn.inn rn.oa rn.on rn.oc rn.p rn.q rn.sl rn.rev rn.full) 44 (0,0)):=by cases ew1_.out;exact heap_alloc_new w _
 have HC:=zH hC
 have HN:=zH hn
 have H12:=zH (And.intro h1 h2)
 have htk:rn.tick=nd.tick:=hn.tick
 have HT:=zH (show 1<=rn.tick/\rn.tick<=1000000 by rw[htk];exact ht)
 obtain⟨⟨g0,g1⟩,hg⟩:∃z,Tp.aL k.c nd.v (Tp.dA nd.tick)=z:=⟨_,rfl⟩
 obtain⟨ub,hub⟩:∃z,Tp.sI nd.v.b (i0,i1) (g0,g1)=z:=⟨_,rfl⟩
 have HG:Hid (Tp.aL k.c nd.v (Tp.dA rn.tick)=(g0,g1)):=zH (by rw[htk];exact hg)
 have HU:=zH hub
 have hst:Tp.stands k (i0,i1) nd=ub:=by unfold Tp.stands;rw[hg];exact hub
 rw[hst]
 clear h1 h2 hC hn ht hg hub hst htk
 simp only[aT]
 go_enter Tryz.func39,Tryz.ntmps39
 go_wp2_with fail
 rw[<-ew1_.out]
 refine cN [(2,fun W=>W.cell? (m17 w)=some (.slice rn.v.ab rn.v.nb rn.v.cb)),(3,fun W=>W.cell? (m00 B1)=some (.int .u64 i0)/\W.cell? (m15 B1)=some (.int .u64 i1)),(5,fun W=>W.cell? (m00 B2)=some (.slice r.aw r.nw r.cw)/\W.cell? (m15 B2)=some (.int .u64 k.c.sd)/\W.cell? (m25 B2)=some (.int .i64 k.c.ep)/\W.cell? (m33 B2)=some (.int .i64 k.c.nu)/\W.cell? (m35 B2)=some (.int .i64 k.c.de)),(6,fun W=>W.cell? (m07 w)=some (.int .i64 rn.no)/\W.cell? (m14 w)=some (.int .i64 rn.tick)/\W.cell? (m17 w)=some (.slice rn.v.ab rn.v.nb rn.v.cb)/\W.cell? (m19 w)=some (.slice rn.v.av rn.v.nv rn.v.cv)/\W.cell? (m27 w)=some (.slice rn.inn.ab rn.inn.nb rn.inn.cb)/\W.cell? (m61 w)=some (.slice rn.inn.av rn.inn.nv rn.inn.cv)/\W.cell? ⟨w.heap.size,6,none⟩=some (.slice rn.oa rn.on rn.oc)/\W.cell? (m51 w)=some (.int .u64 rn.p)/\W.cell? (m62 w)=some (.int .u64 rn.q)/\W.cell? ⟨w.heap.size,9,none⟩=some (.int .i64 rn.sl)/\W.cell? ⟨w.heap.size,10,none⟩=some (.int .i64 rn.rev)/\W.cell? ⟨w.heap.size,11,none⟩=some (.bool rn.full))] (by kernel_rfl) ?_
 show aB _ _ _ _ _ _ _ _ w1.drew
 have D2:=zH hal.drew
 have hb2:=cG (Below.refl w1.heap.size w1).drew (gS hb0) hb0
 clear hal hb0
 generalize w1.drew=w2 at D2 hb2⊢
 have HB2:=zH hb2
 have HQ:Hid (∀W:World,Below w2.heap.size w2 W->(W.cell? (m17 w)=some (.slice rn.v.ab rn.v.nb rn.v.cb))/\(W.cell? (m00 B1)=some (.int .u64 i0)/\W.cell? (m15 B1)=some (.int .u64 i1))/\(W.cell? (m00 B2)=some (.slice r.aw r.nw r.cw)/\W.cell? (m15 B2)=some (.int .u64 k.c.sd)/\W.cell? (m25 B2)=some (.int .i64 k.c.ep)/\W.cell? (m33 B2)=some (.int .i64 k.c.nu)/\W.cell? (m35 B2)=some (.int .i64 k.c.de))/\(W.cell? (m07 w)=some (.int .i64 rn.no)/\W.cell? (m14 w)=some (.int .i64 rn.tick)/\W.cell? (m17 w)=some (.slice rn.v.ab rn.v.nb rn.v.cb)/\W.cell? (m19 w)=some (.slice rn.v.av rn.v.nv rn.v.cv)/\W.cell? (m27 w)=some (.slice rn.inn.ab rn.inn.nb rn.inn.cb)/\W.cell? (m61 w)=some (.slice rn.inn.av rn.inn.nv rn.inn.cv)/\W.cell? ⟨w.heap.size,6,none⟩=some (.slice rn.oa rn.on rn.oc)/\W.cell? (m51 w)=some (.int .u64 rn.p)/\W.cell? (m62 w)=some (.int .u64 rn.q)/\W.cell? ⟨w.heap.size,9,none⟩=some (.int .i64 rn.sl)/\W.cell? ⟨w.heap.size,10,none⟩=some (.int .i64 rn.rev)/\W.cell? ⟨w.heap.size,11,none⟩=some (.bool rn.full))):=zH (fun W hb=>by
  have e:=bK hb HB2.out
  have e1:=cG (bS D2.out hb) (gS H12.out.1) H12.out.1
  have e2:=cG (bS D2.out hb) (gS H12.out.2) H12.out.2
  exact⟨cA e 2,⟨cA e1 0,cA e1 1⟩,⟨cA e2 0,cA e2 1,cA e2 2,cA e2 3,cA e2 4⟩,⟨cA e 0,cA e 1,cA e 2,cA e 3,cA e 4,cA e 5,cA e 6,cA e 7,cA e 8,cA e 9,cA e 10,cA e 11⟩⟩)
 have hq:=HQ.out w2 (Below.refl _ _)
 clear hb2
 refine wX 0 rfl ?_
 refine wX 1 rfl ?_
 refine wY 0 2 rfl rfl (hq.1) ?_
 refine wY 1 3 rfl rfl (hq.2.1) ?_
 refine wX 4 rfl ?_
 refine wY 2 5 rfl rfl (hq.2.2.1) ?_
 refine wY 3 6 rfl rfl (hq.2.2.2) ?_
 refine cK 7 (by kernel_rfl) rfl (fun K hK=>?_)
 go_simp
 have hnh:=iT r.aw r.nw r.cw k.c rn nd.v w2 (HC.out.keep D2.out) (HN.out.v.keep D2.out) HT.out
 simp only[aT]at hnh
 refine hnh.mono ?_
 clear hnh
 rintro e w3 ⟨rfl,hb3⟩
 rw[HG.out]
 have HB3:=zH hb3
 have hq3:=HQ.out w3 hb3
 clear hb3
 refine hK.out _ _ ?_ ?_
 ·exact(hl4 hq3)
 clear hK K;try simp only[Act.put,pA,pB,pC]
 refine cK 8 (by kernel_rfl) rfl (fun K hK=>?_)
 go_simp
 have hv3:=(HN.out.v.keep (bS D2.out HB3.out)).ok
 refine(mX rn.v.ab rn.v.nb rn.v.cb nd.v.b i0 i1 g0 g1 w3 hv3.b.len hv3.bm hv3.u hv3.b.rows.blks).mono ?_
 rintro e w4 ⟨rfl,hb4⟩
 rw[HU.out]
 have hq4:=HQ.out w4 (bS HB3.out hb4)
 have HF:=zH (bS (bS D2.out HB3.out) hb4)
 clear hb4 hv3
 refine hK.out _ _ ?_ ?_
 ·exact(hl4 hq4)
 clear hK K;try simp only[Act.put,pA,pB,pC]
 refine wX 9 (oi:=⟨some 14,.unOp .not 4 (.tmp 13),4,"audit.go:80",#[⟨8,.data⟩],none⟩) rfl ?_
 refine wX 10 (oi:=⟨some 4,.assign (.tmp 14),4,"audit.go:80",#[⟨9,.data⟩,⟨8,.chain⟩,⟨0,.phase⟩,⟨1,.phase⟩,⟨2,.phase⟩,⟨3,.phase⟩,⟨4,.phase⟩,⟨5,.phase⟩,⟨6,.phase⟩,⟨7,.phase⟩,⟨8,.phase⟩,⟨9,.phase⟩],none⟩) rfl ?_
 refine cO (by kernel_rfl) ?_ _
 try dsimp only
 go_wp2_with fail
 refine bodyPost_ret (v:=.bool (!ub)) ?_ rfl ⟨rfl,HF.out⟩
 simp[results,Tryz.results39,go_sem]
theorem aDw (r:RW)(n0:NE)(os:List (RO×Tp.Vw))(k:Tp.Wd)(i0 i1:Int)(w:World)(hW:WdR w r [n0] os k)(ht:1<=n0.k.tick/\n0.k.tick<=1000000):
  Calls Tryz.prog 19 #[.agg (aR r k.c).toArray,.agg (m08 i0 i1)] w fun e w'=>e=.returned (.bool (Tp.stands k (i0,i1) n0.k))/\Below w.heap.size w w':=by
 have hal:Below w.heap.size w ((w.alloc (.cells (m10 r.aw r.nw r.cw k.c r.ba r.bn r.bc r.tick r.na r.nn r.nc r.oa r.on r.oc) 32)).alloc (m40 i0 i1)):=cR _ _
 have hb0:((w.alloc (.cells (m10 r.aw r.nw r.cw k.c r.ba r.bn r.bc r.tick r.na r.nn r.nc r.oa r.on r.oc) 32)).alloc (m40 i0 i1)).heap[w.heap.size]?=some (.cells (m10 r.aw r.nw r.cw k.c r.ba r.bn r.bc r.tick r.na r.nn r.nc r.oa r.on r.oc) 32 (0,0)):=by rw[cF,if_neg (by simp),cF,if_pos rfl]
 have hb1:((w.alloc (.cells (m10 r.aw r.nw r.cw k.c r.ba r.bn r.bc r.tick r.na r.nn r.nc r.oa r.on r.oc) 32)).alloc (m40 i0 i1)).heap[w.heap.size+1]?=some (.cells (m08 i0 i1) 40 (0,0)):=by rw[cF,if_pos (by simp)]
 have HW:=zH (hW.keep hal)
 have HB:=zH (And.intro hb0 hb1)
 have HAL:=zH hal
 obtain⟨t,ht0⟩:∃z,Tp.stands k (i0,i1) n0.k=z:=⟨_,rfl⟩
 have HT:=zH ht0
 have HA:Hid ((([n0]:List NE).map NE.r).any (fun _=>!t)=!t):=zH (by simp)
 rw[ht0]
 clear hW hal hb0 hb1 ht0
 simp only[aR]
 go_enter Tryz.func19,Tryz.ntmps19
 go_wp2_with (go_at_call 38;refine(lZ 39 #[] #[.pointer (some (m22 w)),.pointer (some (m07 w))] r.na r.nn r.nc ([n0].map NE.r) (fun _=>!t) _ HW.out.n.sl ⟨fun _ _=>rfl,fun x hx W hb=>by
  have hx2:x=n0.r:=by simpa using hx
  subst hx2
  rw[<-HT.out]
  exact zX (w.heap.size+1) w.heap.size r k i0 i1 n0.r n0.os n0.k W (bK hb HB.out.2) (bK hb HB.out.1) (HW.out.conf.keep hb) ((HW.out.n.nd n0 (List.mem_singleton.2 rfl)).keep hb) ht⟩).mono ?_;rintro e w' ⟨rfl,hb⟩;rw[HA.out])
 refine bodyPost_ret (v:=.bool t) ?_ rfl ⟨rfl,bS HAL.out hb⟩
 cases t<;>simp[results,Tryz.results19,go_sem]
section
open Go.ChangeShapes Go.WideShapes Go.ChangeAt Go.RowKit
theorem own :ownKnob Tryz.prog.godebug=none:=by kernel_rfl
theorem fB :laidOutB Tryz.prog=true:=by kernel_rfl
theorem rV :Tryz.prog.cellsOf 23=1:=by kernel_rfl
theorem eC :Tryz.prog.cellsOf 3=1:=by kernel_rfl
theorem aEw :Tryz.prog.cellsOf 4=1:=by kernel_rfl
theorem aEu :Tryz.prog.cellsOf 40=2:=by kernel_rfl
theorem qC :Tryz.prog.cellsOf 56=5:=by kernel_rfl
theorem uG :Tryz.prog.cellsOf 84=4:=by kernel_rfl
theorem yE :Tryz.prog.cellsOf 102=5:=by kernel_rfl
theorem aEv :Tryz.prog.cellsOf 25=5:=by kernel_rfl
theorem aEt :Tryz.prog.cellsOf 22=1:=by kernel_rfl
theorem wN :Tryz.prog.cellsOf 35=1:=by kernel_rfl
theorem aAf :Tryz.prog.cellsOf 36=1:=by kernel_rfl
def IsI (x:Int):Prop:=-9223372036854775808<=x/\x<=9223372036854775807
theorem fs3 {α β:Type}{g:α->β}{l:List α}{a b c:β}(h:l.map g=[a,b,c]):∃x y z,l=[x,y,z]/\g x=a/\g y=b/\g z=c:=by
 match l,h with
 | [x,y,z],h=>simp at h;exact⟨x,y,z,rfl,h⟩
theorem fs4 {α β:Type}{g:α->β}{l:List α}{a b c d:β}(h:l.map g=[a,b,c,d]):∃x y z u,l=[x,y,z,u]/\g x=a/\g y=b/\g z=c/\g u=d:=by
 match l,h with
 | [x,y,z,u],h=>simp at h;exact⟨x,y,z,u,rfl,h⟩
theorem fs5 {α β:Type}{g:α->β}{l:List α}{a b c d e:β}(h:l.map g=[a,b,c,d,e]):∃x y z u v,l=[x,y,z,u,v]/\g x=a/\g y=b/\g z=c/\g u=d/\g v=e:=by
 match l,h with
 | [x,y,z,u,v],h=>simp at h;exact⟨x,y,z,u,v,rfl,h⟩
theorem len4 {α:Type}{l:List α}(h:l.length=4):∃a b c d,l=[a,b,c,d]:=by
 match l,h with
 | [a,b,c,d],_=>exact⟨a,b,c,d,rfl⟩
theorem len5 {α:Type}{l:List α}(h:l.length=5):∃a b c d e,l=[a,b,c,d,e]:=by
 match l,h with
 | [a,b,c,d,e],_=>exact⟨a,b,c,d,e,rfl⟩
section
variable {H:Type}{enc:TypeId×Value->H}{W:World}{base b0:Nat}{sp:Nat->Bool}{held:Bool}{r:Reach}{v:Value}{d:DataW H}{ps:List MemPlace}
theorem nI (hval:Value.okWide Tryz.prog W r base 3 v)(h:DataW.Trod enc Tryz.prog W b0 sp held 3 v d ps):∃x:Int,v=.int .i64 x/\IsI x:=by
 obtain⟨x,rfl,rfl,rfl,w0⟩:=open_int Tryz.underlying3 hval h
 exact⟨x,rfl,bounds_i64 w0⟩
theorem aBd {c0 c1:Value}{fuel:Nat}{x:DataW H×List MemPlace}(hf:DataW.trod enc Tryz.prog W b0 sp held fuel 40 [c0,c1]=some x):∃p q:Int,c0=.int .u64 p/\c1=.int .u64 q/\IsU p/\IsU q:=by
 have hu:Tryz.prog.underlying 40=some (.array 2 23):=by kernel_rfl
 obtain⟨xs,m,_,hx,_,hlen,hi⟩:=DataW.trod_array hu hf
 have h0:=hi 0 (by decide)
 have h1:=hi 1 (by decide)
 rw[rV]at h0 h1
 rw[List.getElem?_eq_getElem (by omega)]at h0 h1
 obtain⟨x0,e0,_,w0⟩:=DataW.trod_int Tryz.underlying23 h0
 obtain⟨x1,e1,_,w1⟩:=DataW.trod_int Tryz.underlying23 h1
 simp at e0 e1
 exact⟨x0,x1,e0,e1,bounds_u64 w0,bounds_u64 w1⟩
theorem aBc {cs:List Value}{fuel:Nat}{x:DataW H×List MemPlace}(hf:DataW.trod enc Tryz.prog W b0 sp held fuel 84 cs=some x):∃v:Tp.V,cs=aH v/\True:=by
 have hu:Tryz.prog.underlying 84=some (.struct (Tryz.prog.fieldsOf 84)):=by kernel_rfl
 have hfs:(Tryz.prog.fieldsOf 84).toList.map (fun f=>(f.type,f.offset))=[(3,0),(3,1),(40,2)]:=by kernel_rfl
 obtain⟨xs,m,_,hx,hcl,hlen,hi⟩:=DataW.trod_struct hu hf
 rw[uG]at hcl
 obtain⟨c0,c1,c2,c3,rfl⟩:=len4 hcl
 generalize Tryz.prog.fieldsOf 84=fs at hfs hi hlen
 obtain⟨fs⟩:=fs
 obtain⟨f0,f1,f2,rfl,h0,h1,h2⟩:=fs3 hfs
 simp only[Prod.mk.injEq]at h0 h1 h2
 have k0:=hi 0 f0 rfl
 have k1:=hi 1 f1 rfl
 have k2:=hi 2 f2 rfl
 rw[h0.1,h0.2,eC,List.getElem?_eq_getElem (by simp at hlen;omega)]at k0
 rw[h1.1,h1.2,eC,List.getElem?_eq_getElem (by simp at hlen;omega)]at k1
 rw[h2.1,h2.2,aEu,List.getElem?_eq_getElem (by simp at hlen;omega)]at k2
 obtain⟨x0,e0,_,w0⟩:=DataW.trod_int Tryz.underlying3 k0
 obtain⟨x1,e1,_,w1⟩:=DataW.trod_int Tryz.underlying3 k1
 obtain⟨p,q,rfl,rfl,hp,hq⟩:=aBd k2
 simp at e0 e1
 subst e0 e1
 exact⟨⟨x0,x1,p,q⟩,rfl,trivial⟩
theorem yS {cs:List Value}{fuel:Nat}{x:DataW H×List MemPlace}(hf:DataW.trod enc Tryz.prog W b0 sp held fuel 56 cs=some x):∃v:Tp.B,cs=aK v/\v.U:=by
 have hu:Tryz.prog.underlying 56=some (.struct (Tryz.prog.fieldsOf 56)):=by kernel_rfl
 have hfs:(Tryz.prog.fieldsOf 56).toList.map (fun f=>(f.type,f.offset))=[(3,0),(3,1),(40,2),(23,4)]:=by kernel_rfl
 obtain⟨xs,m,_,hx,hcl,hlen,hi⟩:=DataW.trod_struct hu hf
 rw[qC]at hcl
 obtain⟨c0,c1,c2,c3,c4,rfl⟩:=len5 hcl
 generalize Tryz.prog.fieldsOf 56=fs at hfs hi hlen
 obtain⟨fs⟩:=fs
 obtain⟨f0,f1,f2,f3,rfl,h0,h1,h2,h3⟩:=fs4 hfs
 simp only[Prod.mk.injEq]at h0 h1 h2 h3
 have k0:=hi 0 f0 rfl
 have k1:=hi 1 f1 rfl
 have k2:=hi 2 f2 rfl
 have k3:=hi 3 f3 rfl
 rw[h0.1,h0.2,eC,List.getElem?_eq_getElem (by simp at hlen;omega)]at k0
 rw[h1.1,h1.2,eC,List.getElem?_eq_getElem (by simp at hlen;omega)]at k1
 rw[h2.1,h2.2,aEu,List.getElem?_eq_getElem (by simp at hlen;omega)]at k2
 rw[h3.1,h3.2,rV,List.getElem?_eq_getElem (by simp at hlen;omega)]at k3
 obtain⟨x0,e0,_,w0⟩:=DataW.trod_int Tryz.underlying3 k0
 obtain⟨x1,e1,_,w1⟩:=DataW.trod_int Tryz.underlying3 k1
 obtain⟨p,q,rfl,rfl,hp,hq⟩:=aBd k2
 obtain⟨x4,e4,_,w4⟩:=DataW.trod_int Tryz.underlying23 k3
 simp at e0 e1 e4
 subst e0 e1 e4
 exact⟨⟨x0,x1,p,q,x4⟩,rfl,hp,hq,bounds_u64 w4⟩
theorem xD {cs:List Value}{fuel:Nat}{x:DataW H×List MemPlace}(hf:DataW.trod enc Tryz.prog W b0 sp held fuel 3 cs=some x):∃v:Int,cs=intC v/\True:=by
 obtain⟨x0,e0,_,w0⟩:=DataW.trod_int Tryz.underlying3 hf
 exact⟨x0,e0,trivial⟩
theorem iS {α:Type} [Inhabited α] {f:α->List Value}{k:Nat}{t e:TypeId}{Q:α->Prop} (hk:∀x,(f x).length=k) (ht:Tryz.prog.underlying t=some (.slice e)) (hc:Tryz.prog.cellsOf e=k) (h0:0<k)
  (hel:∀(fuel:Nat) (cs:List Value) (x:DataW H×List MemPlace),DataW.trod enc Tryz.prog W b0 sp held fuel e cs=some x->∃r,cs=f r/\Q r) {cs:List Value}{fuel:Nat}{x:DataW H×List MemPlace} (hf:DataW.trod enc Tryz.prog W b0 sp held fuel t cs=some x):
  ∃(a:Option Addr) (n c:Nat) (l:List α),cs=[.slice a n c]/\SlV f k W a n c l/\(a=none->n=0/\c=0)/\∀y∈l,Q y:=by
 rcases Go.Deep.open_slice ht hf with⟨rfl,_⟩|⟨a,len,cap,m,n,D,Pl,rfl,hb,hl,hm,hmm,_,hx⟩
 ·exact⟨none,0,0,[],rfl,SlV.nil W,fun _=>⟨rfl,rfl⟩,fun y hy=>by cases hy⟩
 ·have hlm:len<=m:=by rw[hmm];split<;>omega
  obtain⟨V,hV⟩:=Go.Deep.choose_lt (α:=α) (n:=len) (p:=fun i y=>Q y/\∀j,j<k->W.cell? ((a.add (i*k)).add j)=(f y)[j]?) (fun i hi=>by
   obtain⟨cs',h1,h2⟩:=hx i (by omega)
   obtain⟨y,rfl,hq⟩:=hel _ _ _ h2
   rw[hc]at h1
   exact⟨y,hq,(World.cells?_some h1).2.2⟩)
  refine⟨some a,len,cap,(List.range len).map V,rfl,⟨by simp,hl,by unfold maxLen at hm;omega,?_⟩,fun e=>(by cases e),fun y hy=>?_⟩
  ·rcases Nat.eq_zero_or_pos len with hz|hz
   ·exact .inl (by simp[hz])
   ·right
    have c0:=(hV 0 hz).2 0 h0
    obtain⟨b,o,s⟩:=a
    have hlt:0<(f (V 0)).length:=by rw[hk];exact h0
    rw[List.getElem?_eq_getElem hlt]at c0
    have hs:s=none:=by simpa[Addr.add]using World.cell?_spot c0
    subst hs
    have e1:∀i j,(((m09 b o):Addr).add (i*k)).add j=(m09 b (o+i*k+j)):=fun i j=>by rw[Go.WideShapes.add_plain,Go.WideShapes.add_plain]
    refine⟨b,o,rfl,?_,fun i hi j hj=>?_⟩
    ·rw[e1]at c0
     exact World.block_lt_of_cell? _ _ c0
    ·have:=(hV i (by simpa using hi)).2 j hj
     rw[e1]at this
     simpa using this
  ·obtain⟨i,hi,rfl⟩:=List.mem_map.1 hy
   exact(hV i (List.mem_range.1 hi)).1
structure ActQ (W:World) (p:RA×Tp.Vw):Prop where
 b:SlV aK 5 W p.1.v.ab p.1.v.nb p.1.v.cb p.2.b
 v:SlV aH 4 W p.1.v.av p.1.v.nv p.1.v.cv p.2.v
 u:∀x∈p.2.b,x.U
 b0:p.1.v.ab=none->p.1.v.nb=0/\p.1.v.cb=0
 v0:p.1.v.av=none->p.1.v.nv=0/\p.1.v.cv=0
 rng:p.1.dest<=9223372036854775807
instance:Inhabited Tp.B:=⟨Tp.zB⟩
instance:Inhabited Tp.V:=⟨⟨0,0,0,0⟩⟩
instance:Inhabited (RA×Tp.Vw):=⟨⟨0,0,false,⟨none,0,0,none,0,0⟩⟩,⟨[],[]⟩⟩
theorem aFq {cs:List Value}{fuel:Nat}{x:DataW H×List MemPlace}(hf:DataW.trod enc Tryz.prog W b0 sp held fuel 102 cs=some x):∃p:RA×Tp.Vw,cs=actC p.1/\ActQ W p:=by
 have hu:Tryz.prog.underlying 102=some (.struct (Tryz.prog.fieldsOf 102)):=by kernel_rfl
 have hfs:(Tryz.prog.fieldsOf 102).toList.map (fun f=>(f.type,f.offset))=[(3,0),(3,1),(4,2),(35,3),(36,4)]:=by kernel_rfl
 obtain⟨xs,m,_,hx,hcl,hlen,hi⟩:=DataW.trod_struct hu hf
 rw[yE]at hcl
 obtain⟨c0,c1,c2,c3,c4,rfl⟩:=len5 hcl
 generalize Tryz.prog.fieldsOf 102=fs at hfs hi hlen
 obtain⟨fs⟩:=fs
 obtain⟨f0,f1,f2,f3,f4,rfl,h0,h1,h2,h3,h4⟩:=fs5 hfs
 simp only[Prod.mk.injEq]at h0 h1 h2 h3 h4
 have k0:=hi 0 f0 rfl
 have k1:=hi 1 f1 rfl
 have k2:=hi 2 f2 rfl
 have k3:=hi 3 f3 rfl
 have k4:=hi 4 f4 rfl
 rw[h0.1,h0.2,eC,List.getElem?_eq_getElem (by simp at hlen;omega)]at k0
 rw[h1.1,h1.2,eC,List.getElem?_eq_getElem (by simp at hlen;omega)]at k1
 rw[h2.1,h2.2,aEw,List.getElem?_eq_getElem (by simp at hlen;omega)]at k2
 rw[h3.1,h3.2,wN,List.getElem?_eq_getElem (by simp at hlen;omega)]at k3
 rw[h4.1,h4.2,aAf,List.getElem?_eq_getElem (by simp at hlen;omega)]at k4
 obtain⟨x0,e0,_,w0⟩:=DataW.trod_int Tryz.underlying3 k0
 obtain⟨x1,e1,_,w1⟩:=DataW.trod_int Tryz.underlying3 k1
 obtain⟨x2,e2,_⟩:=DataW.trod_bool Tryz.underlying4 k2
 obtain⟨ab,nb,cb,lb,e3,s3,z3,u3⟩:=iS (f:=aK) (k:=5) (Q:=fun y:Tp.B=>y.U) (fun _=>rfl) Tryz.underlying35 qC (by decide) (fun _ _ _ h=>yS h) k3
 obtain⟨av,nv,cv,lv,e4,s4,z4,_⟩:=iS (f:=aH) (k:=4) (Q:=fun _:Tp.V=>True) (fun _=>rfl) Tryz.underlying36 uG (by decide) (fun _ _ _ h=>aBc h) k4
 simp at e0 e1 e2 e3 e4
 subst e0 e1 e2 e3 e4
 exact⟨(⟨x0,x1,x2,⟨ab,nb,cb,av,nv,cv⟩⟩,⟨lb,lv⟩),rfl,s3,s4,u3,z3,z4,(bounds_i64 w1).2⟩
theorem nK (hval:Value.okWide Tryz.prog W r base 26 v)(h:DataW.Trod enc Tryz.prog W b0 sp held 26 v d ps):
  ∃(a:Option Addr) (n c:Nat) (l:List (RA×Tp.Vw)),v=.slice a n c/\SlV actC 5 W a n c (l.map Prod.fst)/\∀p∈l,ActQ W p:=by
 obtain⟨a,n,c,rfl⟩:=okWide_slice Tryz.underlying26 hval
 obtain⟨fuel,hf⟩:=h
 obtain⟨a',n',c',l,e,s,z,q⟩:=iS (f:=fun p:RA×Tp.Vw=>actC p.1) (k:=5) (Q:=fun p=>ActQ W p) (fun _=>rfl) Tryz.underlying26 yE (by decide) (fun _ _ _ h=>aFq h) hf
 simp[Value.cells]at e
 obtain⟨rfl,rfl,rfl⟩:=e
 refine⟨a,n,c,l,rfl,⟨by rw[List.length_map];exact s.len,s.cap,s.top,?_⟩,q⟩
 rcases s.rows with h0|⟨b,o,e,hlt,hc⟩
 ·exact .inl (by rw[List.length_map];exact h0)
 ·refine .inr ⟨b,o,e,hlt,fun i hi j hj=>?_⟩
  rw[hc i (by simpa using hi) j hj,List.getElem_map]
theorem qR (hval:Value.okWide Tryz.prog W r base 22 v)(h:DataW.Trod enc Tryz.prog W b0 sp held 22 v d ps):
  ∃(a:Option Addr) (n c:Nat) (l:List Int),v=.slice a n c/\SlV intC 1 W a n c l/\(a=none->n=0/\c=0):=by
 obtain⟨a,n,c,rfl⟩:=okWide_slice Tryz.underlying22 hval
 obtain⟨fuel,hf⟩:=h
 obtain⟨a',n',c',l,e,s,z,q⟩:=iS (f:=intC) (k:=1) (Q:=fun _=>True) (fun _=>rfl) Tryz.underlying22 eC (by decide) (fun _ _ _ h=>let ⟨v,e,_⟩:=xD h;⟨v,e,trivial⟩) hf
 simp[Value.cells]at e
 obtain⟨rfl,rfl,rfl⟩:=e
 exact⟨a,n,c,l,rfl,s,z⟩
theorem zV {a:Option Addr}{n c:Nat}{l:List Int}(s:SlV intC 1 W a n c l):Ints W a l:=by
 rcases s.rows with h0|⟨b,o,e,hlt,hc⟩
 ·exact .inl h0
 ·refine .inr ⟨b,o,e,hlt,fun i hi=>?_⟩
  have:=hc i hi 0 (by omega)
  rw[Nat.mul_one,Nat.add_zero]at this
  rw[this]
  show some (Value.int .i64 l[i])=_
  unfold Mx.nth
  rw[List.getElem?_eq_getElem hi]
  try rfl
theorem nJ (hval:Value.okWide Tryz.prog W r base 25 v)(h:DataW.Trod enc Tryz.prog W b0 sp held 25 v d ps):
  ∃(a:Option Addr) (n c:Nat) (C:Tp.Cf),v=.agg (m02 a n c C)/\aP W a n C.W C.sd:=by
 have hu:Tryz.prog.underlying 25=some (.struct (Tryz.prog.fieldsOf 25)):=by kernel_rfl
 have hfs:(Tryz.prog.fieldsOf 25).toList.map (fun f=>(f.type,f.offset))=[(22,0),(23,1),(3,2),(3,3),(3,4)]:=by kernel_rfl
 obtain⟨cs,rfl,hsz,_⟩:∃cs,v=.agg cs/\cs.size=Tryz.prog.cellsOf 25/\Row.okWide Tryz.prog W r base 25 cs:=by
  simpa[Value.okWide,hu]using hval
 rw[aEv]at hsz
 obtain⟨l⟩:=cs
 obtain⟨c0,c1,c2,c3,c4,rfl⟩:=len5 (show l.length=5 from hsz)
 obtain⟨fuel,hf⟩:=h
 obtain⟨xs,m,_,hx,_,hlen,hi⟩:=DataW.trod_struct hu hf
 generalize Tryz.prog.fieldsOf 25=fs at hfs hi hlen
 obtain⟨fs⟩:=fs
 obtain⟨f0,f1,f2,f3,f4,rfl,h0,h1,h2,h3,h4⟩:=fs5 hfs
 simp only[Prod.mk.injEq]at h0 h1 h2 h3 h4
 have k0:=hi 0 f0 rfl
 have k1:=hi 1 f1 rfl
 have k2:=hi 2 f2 rfl
 have k3:=hi 3 f3 rfl
 have k4:=hi 4 f4 rfl
 rw[h0.1,h0.2,aEt,List.getElem?_eq_getElem (by simp at hlen;omega)]at k0
 rw[h1.1,h1.2,rV,List.getElem?_eq_getElem (by simp at hlen;omega)]at k1
 rw[h2.1,h2.2,eC,List.getElem?_eq_getElem (by simp at hlen;omega)]at k2
 rw[h3.1,h3.2,eC,List.getElem?_eq_getElem (by simp at hlen;omega)]at k3
 rw[h4.1,h4.2,eC,List.getElem?_eq_getElem (by simp at hlen;omega)]at k4
 obtain⟨a,n,c,lw,e0,s,z,q⟩:=iS (f:=intC) (k:=1) (Q:=fun _=>True) (fun _=>rfl) Tryz.underlying22 eC (by decide) (fun _ _ _ h=>let ⟨v,e,_⟩:=xD h;⟨v,e,trivial⟩) k0
 obtain⟨x1,e1,_,w1⟩:=DataW.trod_int Tryz.underlying23 k1
 obtain⟨x2,e2,_,w2⟩:=DataW.trod_int Tryz.underlying3 k2
 obtain⟨x3,e3,_,w3⟩:=DataW.trod_int Tryz.underlying3 k3
 obtain⟨x4,e4,_,w4⟩:=DataW.trod_int Tryz.underlying3 k4
 simp[Value.cells]at e0 e1 e2 e3 e4
 subst e0 e1 e2 e3 e4
 exact⟨a,n,c,⟨lw,x1,x2,x3,x4⟩,rfl,s.len,Nat.le_trans s.cap s.top,bounds_u64 w1,zV s⟩
end
end
end Go.Proofs.YtbbhinehcncmeaaGreat
