/- A part of the proof of the laws of the top: TpPlayA, TpPlayB. No condition. -/
import Derived.Test.YtbbhinehcncmeaaGreatG28
namespace Go.Proofs.YtbbhinehcncmeaaGreat
open Go.RowKit
set_option linter.unusedSimpArgs false
set_option linter.unusedVariables false
set_option linter.unusedSectionVars false
set_option maxRecDepth 100000
set_option maxHeartbeats 4000000
theorem vI (g:Nat)(pre post:Array Value)(p:RA->Bool)(a:Option Addr)(n c:Nat)(l:List RA)(w:World)(h:SlV actC 5 w a n c l)(hm:n<=1000000)(hcall:(∀args w,(callFunc g args).run Tryz.prog w=.ok (.enter g args) w)/\
   ∀x∈l,∀W,Below w.heap.size w W->Calls Tryz.prog g (pre.push (.agg (actC x).toArray)++post) W fun e W'=>e=.returned (.bool (p x))/\Below W.heap.size W W'):
  Calls Tryz.prog 50 #[.slice a n c,.func (.func g) pre post] w fun e w'=>∃v,e=.returned v/\OwnL actC 5 102 w' w.heap.size v (l.filter p)/\Below w.heap.size w w':=by
 obtain⟨i0,hi,hz0,hz1,hz2⟩:=info_parts aKh
 have H2:=zH h
 have HC:=zH hcall
 have hcf:=hcall.1
 clear h hcall
 go_enter Tryz.func50,Tryz.ntmps50
 go_wp2_with fail
 go_loopw [5,10] (fun v i wr=>∃j:Nat,j<=n/\i=.int .i64 j/\OwnL actC 5 102 wr w.heap.size v ((l.take j).filter p)/\Below w.heap.size w wr) (fun _ i _=>n-(intOf i).toNat)
 case atStart=>exact⟨0,Nat.zero_le _,rfl,OwnL.nil _ _ _ _ _,Below.refl _ _⟩
 case round=>
  obtain⟨j,hj,rfl,hown,hbel⟩:=hrel
  have HB:=zH hbel
  clear hbel
  by_cases hjn:j<n
  case neg=>
   obtain rfl:j=n:=by omega
   have hfin:l.take j=l:=List.take_of_length_le (by rw[H2.out.len];exact Nat.le_refl _)
   rw[hfin]at hown
   go_wp2
   go_ret
   exact⟨_,rfl,hown,HB.out⟩
  have hjl:j<l.length:=by rw[H2.out.len];exact hjn
  have hsn:=dS p l j hjl
  rcases H2.out.rows with h0|⟨b,o,rfl,hlt,hc⟩
  ·omega
  have hx:∀i,i<5->wr.cell? (m09 b (o+j*5+i))=(actC l[j])[i]?:=fun i hi=>(HB.out.cell (p:=⟨b,_,none⟩) hlt).trans (hc j hjl i hi)
  have hmem:=List.getElem_mem hjl
  obtain⟨⟨tk,d,f,⟨xa,xb,xc,xd,xe,xf⟩⟩,hX⟩:∃x,l[j]=x:=⟨_,rfl⟩
  rw[hX]at hx hsn hmem
  have c0:wr.cell? (m09 b (o+j*5))=some (.int .i64 tk):=hx 0 (by omega)
  have c1:wr.cell? (m09 b (o+j*5+1))=some (.int .i64 d):=hx 1 (by omega)
  have c2:wr.cell? (m09 b (o+j*5+2))=some (.bool f):=hx 2 (by omega)
  have c3:wr.cell? (m09 b (o+j*5+3))=some (.slice xa xb xc):=hx 3 (by omega)
  have c4:wr.cell? (m09 b (o+j*5+4))=some (.slice xd xe xf):=hx 4 (by omega)
  have hln:((l.take j).filter p).length<=1000000:=bL _ _ _ _ (by omega)
  obtain⟨fl,hfl⟩:∃x,(l.take j).filter p=x:=⟨_,rfl⟩
  rw[hfl]at hown hsn hln
  obtain⟨t_,ht⟩:∃t,p ⟨tk,d,f,⟨xa,xb,xc,xd,xe,xf⟩⟩=t:=⟨_,rfl⟩
  rw[ht]at hsn
  have HS:=zH hsn
  have HT:=zH ht
  have HO:=zH hown
  have k0:(0:Int)<=j:=by omega
  have k1:(j:Int)<n:=by omega
  have bel1:Below w.heap.size w (wr.alloc (.cells #[.int .i64 tk,.int .i64 d,.bool f,.slice xa xb xc,.slice xd xe xf] 102)):=HB.out.alloc HB.out.size _
  have HCJ:=zH (HC.out.2 _ hmem _ bel1)
  have HB1:=zH bel1
  clear hx hX hsn ht hc hfl hown bel1 hmem
  cases t_ with
  |false=>
   go_wp2_with (refine HCJ.out.mono ?_;rintro e w2 ⟨rfl,hb2⟩;rw[HT.out])
   refine⟨⟨j+1,by omega,by go_num,?_,HB1.out.trans (hb2.mono HB1.out.size)⟩,by simp[intOf];omega⟩
   rw[HS.out]
   simp only[Bool.false_eq_true,if_false,List.append_nil]
   exact(HO.out.keep ((Below.refl _ wr).alloc nr _)).keep hb2
  |true=>
   go_wp2_with (first
    |(refine HCJ.out.mono ?_;rintro e w2 ⟨rfl,hb2⟩;rw[HT.out];have own2:=(HO.out.keep ((Below.refl _ wr).alloc nr _)).keep hb2;have bx2:w2.heap[wr.heap.size]?=some (.cells #[.int .i64 tk,.int .i64 d,.bool f,.slice xa xb xc,.slice xd xe xf] 102 (0,0)):=cG hb2 (by simp) (heap_alloc_new wr _);have e0:w2.cell? (m07 wr)=some (.int .i64 tk):=cA bx2 0;have e1:w2.cell? (m14 wr)=some (.int .i64 d):=cA bx2 1;have e2:w2.cell? (m17 wr)=some (.bool f):=cA bx2 2;have e3:w2.cell? (m19 wr)=some (.slice xa xb xc):=cA bx2 3;have e4:w2.cell? (m27 wr)=some (.slice xd xe xf):=cA bx2 4;have bel2:=zH (HB1.out.trans (hb2.mono HB1.out.size));have hsz2:w.heap.size<=w2.heap.size:=bel2.out.size)
    |(at_builtin;refine wpList_append_own _ rfl (.tmp 17) (.tmp 19) 26 rfl w.heap.size 102 i0 (.agg #[.int .i64 0,.int .i64 0,.bool false,.slice none 0 0,.slice none 0 0]) 5 72 Tryz.underlying26 hi hz0 hz1 hz2 rfl (by decide) _ _ _ rfl (own2.alloc _) (m07 w2) 1 1 (actC ⟨tk,d,f,⟨xa,xb,xc,xd,xe,xf⟩⟩) rfl rfl (bE w2 _ _ _ rfl) (aLc _) (by unfold maxLen;omega) (by omega) (by simp only[World.size_alloc];omega) ?_;intro v3 w3 hown3 hg3 _))
   refine⟨⟨j+1,by omega,by go_num,?_,OwnL.grown own2 bel2.out nr hsz2 hg3⟩,by simp[intOf];omega⟩
   rw[HS.out]
   simp only[if_true]
   exact OwnL.snoc hown3 rfl
theorem qU (g:Nat)(pre post:Array Value)(p:Tp.B->Bool)(a:Option Addr)(n c:Nat)(l:List Tp.B)(w:World)(h:SlV aK 5 w a n c l)(hm:n<=1000000)(hcall:(∀args w,(callFunc g args).run Tryz.prog w=.ok (.enter g args) w)/\
   ∀x∈l,∀W,Below w.heap.size w W->Calls Tryz.prog g (pre.push (.agg (aK x).toArray)++post) W fun e W'=>e=.returned (.bool (p x))/\Below W.heap.size W W'):
  Calls Tryz.prog 54 #[.slice a n c,.func (.func g) pre post] w fun e w'=>∃v,e=.returned v/\OwnL aK 5 56 w' w.heap.size v (l.filter p)/\Below w.heap.size w w':=by
 obtain⟨i0,hi,hz0,hz1,hz2⟩:=info_parts iW
 have H2:=zH h
 have HC:=zH hcall
 have hcf:=hcall.1
 clear h hcall
 go_enter Tryz.func54,Tryz.ntmps54
 go_wp2_with fail
 go_loopw [5,10] (fun v i wr=>∃j:Nat,j<=n/\i=.int .i64 j/\OwnL aK 5 56 wr w.heap.size v ((l.take j).filter p)/\Below w.heap.size w wr) (fun _ i _=>n-(intOf i).toNat)
 case atStart=>exact⟨0,Nat.zero_le _,rfl,OwnL.nil _ _ _ _ _,Below.refl _ _⟩
 case round=>
  obtain⟨j,hj,rfl,hown,hbel⟩:=hrel
  have HB:=zH hbel
  clear hbel
  by_cases hjn:j<n
  case neg=>
   obtain rfl:j=n:=by omega
   have hfin:l.take j=l:=List.take_of_length_le (by rw[H2.out.len];exact Nat.le_refl _)
   rw[hfin]at hown
   go_wp2
   go_ret
   exact⟨_,rfl,hown,HB.out⟩
  have hjl:j<l.length:=by rw[H2.out.len];exact hjn
  have hsn:=dS p l j hjl
  rcases H2.out.rows with h0|⟨b,o,rfl,hlt,hc⟩
  ·omega
  have hx:∀i,i<5->wr.cell? (m09 b (o+j*5+i))=(aK l[j])[i]?:=fun i hi=>(HB.out.cell (p:=⟨b,_,none⟩) hlt).trans (hc j hjl i hi)
  have hmem:=List.getElem_mem hjl
  obtain⟨⟨x0,x1,x2,x3,x4⟩,hX⟩:∃x,l[j]=x:=⟨_,rfl⟩
  rw[hX]at hx hsn hmem
  have c0:wr.cell? (m09 b (o+j*5))=some (.int .i64 x0):=hx 0 (by omega)
  have c1:wr.cell? (m09 b (o+j*5+1))=some (.int .i64 x1):=hx 1 (by omega)
  have c2:wr.cell? (m09 b (o+j*5+2))=some (.int .u64 x2):=hx 2 (by omega)
  have c3:wr.cell? (m09 b (o+j*5+3))=some (.int .u64 x3):=hx 3 (by omega)
  have c4:wr.cell? (m09 b (o+j*5+4))=some (.int .u64 x4):=hx 4 (by omega)
  have hln:((l.take j).filter p).length<=1000000:=bL _ _ _ _ (by omega)
  obtain⟨fl,hfl⟩:∃x,(l.take j).filter p=x:=⟨_,rfl⟩
  rw[hfl]at hown hsn hln
  obtain⟨t_,ht⟩:∃t,p ⟨x0,x1,x2,x3,x4⟩=t:=⟨_,rfl⟩
  rw[ht]at hsn
  have HS:=zH hsn
  have HT:=zH ht
  have HO:=zH hown
  have k0:(0:Int)<=j:=by omega
  have k1:(j:Int)<n:=by omega
  have bel1:Below w.heap.size w (wr.alloc (.cells (m11 x0 x1 x2 x3 x4) 56)):=HB.out.alloc HB.out.size _
  have HCJ:=zH (HC.out.2 _ hmem _ bel1)
  have HB1:=zH bel1
  clear hx hX hsn ht hc hfl hown bel1 hmem
  cases t_ with
  |false=>
   go_wp2_with (refine HCJ.out.mono ?_;rintro e w2 ⟨rfl,hb2⟩;rw[HT.out])
   refine⟨⟨j+1,by omega,by go_num,?_,HB1.out.trans (hb2.mono HB1.out.size)⟩,by simp[intOf];omega⟩
   rw[HS.out]
   simp only[Bool.false_eq_true,if_false,List.append_nil]
   exact(HO.out.keep ((Below.refl _ wr).alloc nr _)).keep hb2
  |true=>
   go_wp2_with (first
    |(refine HCJ.out.mono ?_;rintro e w2 ⟨rfl,hb2⟩;rw[HT.out];have own2:=(HO.out.keep ((Below.refl _ wr).alloc nr _)).keep hb2;have bx2:w2.heap[wr.heap.size]?=some (.cells (m11 x0 x1 x2 x3 x4) 56 (0,0)):=cG hb2 (by simp) (heap_alloc_new wr _);have e0:w2.cell? (m07 wr)=some (.int .i64 x0):=cA bx2 0;have e1:w2.cell? (m14 wr)=some (.int .i64 x1):=cA bx2 1;have e2:w2.cell? (m17 wr)=some (.int .u64 x2):=cA bx2 2;have e3:w2.cell? (m19 wr)=some (.int .u64 x3):=cA bx2 3;have e4:w2.cell? (m27 wr)=some (.int .u64 x4):=cA bx2 4;have bel2:=zH (HB1.out.trans (hb2.mono HB1.out.size));have hsz2:w.heap.size<=w2.heap.size:=bel2.out.size)
    |(at_builtin;refine wpList_append_own _ rfl (.tmp 17) (.tmp 19) 35 rfl w.heap.size 56 i0 (.agg (m53)) 5 40 Tryz.underlying35 hi hz0 hz1 hz2 rfl (by decide) _ _ _ rfl (own2.alloc _) (m07 w2) 1 1 (aK ⟨x0,x1,x2,x3,x4⟩) rfl rfl (bE w2 _ _ _ rfl) (jB _) (by unfold maxLen;omega) (by omega) (by simp only[World.size_alloc];omega) ?_;intro v3 w3 hown3 hg3 _))
   refine⟨⟨j+1,by omega,by go_num,?_,OwnL.grown own2 bel2.out nr hsz2 hg3⟩,by simp[intOf];omega⟩
   rw[HS.out]
   simp only[if_true]
   exact OwnL.snoc hown3 rfl
theorem sZ (g:Nat)(pre post:Array Value)(p:Tp.V->Bool)(a:Option Addr)(n c:Nat)(l:List Tp.V)(w:World)(h:SlV aH 4 w a n c l)(hm:n<=1000000)(hcall:(∀args w,(callFunc g args).run Tryz.prog w=.ok (.enter g args) w)/\
   ∀x∈l,∀W,Below w.heap.size w W->Calls Tryz.prog g (pre.push (.agg (aH x).toArray)++post) W fun e W'=>e=.returned (.bool (p x))/\Below W.heap.size W W'):
  Calls Tryz.prog 57 #[.slice a n c,.func (.func g) pre post] w fun e w'=>∃v,e=.returned v/\OwnL aH 4 84 w' w.heap.size v (l.filter p)/\Below w.heap.size w w':=by
 obtain⟨i0,hi,hz0,hz1,hz2⟩:=info_parts jI
 have H2:=zH h
 have HC:=zH hcall
 have hcf:=hcall.1
 clear h hcall
 go_enter Tryz.func57,Tryz.ntmps57
 go_wp2_with fail
 go_loopw [5,10] (fun v i wr=>∃j:Nat,j<=n/\i=.int .i64 j/\OwnL aH 4 84 wr w.heap.size v ((l.take j).filter p)/\Below w.heap.size w wr) (fun _ i _=>n-(intOf i).toNat)
 case atStart=>exact⟨0,Nat.zero_le _,rfl,OwnL.nil _ _ _ _ _,Below.refl _ _⟩
 case round=>
  obtain⟨j,hj,rfl,hown,hbel⟩:=hrel
  have HB:=zH hbel
  clear hbel
  by_cases hjn:j<n
  case neg=>
   obtain rfl:j=n:=by omega
   have hfin:l.take j=l:=List.take_of_length_le (by rw[H2.out.len];exact Nat.le_refl _)
   rw[hfin]at hown
   go_wp2
   go_ret
   exact⟨_,rfl,hown,HB.out⟩
  have hjl:j<l.length:=by rw[H2.out.len];exact hjn
  have hsn:=dS p l j hjl
  rcases H2.out.rows with h0|⟨b,o,rfl,hlt,hc⟩
  ·omega
  have hx:∀i,i<4->wr.cell? (m09 b (o+j*4+i))=(aH l[j])[i]?:=fun i hi=>(HB.out.cell (p:=⟨b,_,none⟩) hlt).trans (hc j hjl i hi)
  have hmem:=List.getElem_mem hjl
  obtain⟨⟨x0,x1,x2,x3⟩,hX⟩:∃x,l[j]=x:=⟨_,rfl⟩
  rw[hX]at hx hsn hmem
  have c0:wr.cell? (m09 b (o+j*4))=some (.int .i64 x0):=hx 0 (by omega)
  have c1:wr.cell? (m09 b (o+j*4+1))=some (.int .i64 x1):=hx 1 (by omega)
  have c2:wr.cell? (m09 b (o+j*4+2))=some (.int .u64 x2):=hx 2 (by omega)
  have c3:wr.cell? (m09 b (o+j*4+3))=some (.int .u64 x3):=hx 3 (by omega)
  have hln:((l.take j).filter p).length<=1000000:=bL _ _ _ _ (by omega)
  obtain⟨fl,hfl⟩:∃x,(l.take j).filter p=x:=⟨_,rfl⟩
  rw[hfl]at hown hsn hln
  obtain⟨t_,ht⟩:∃t,p ⟨x0,x1,x2,x3⟩=t:=⟨_,rfl⟩
  rw[ht]at hsn
  have HS:=zH hsn
  have HT:=zH ht
  have HO:=zH hown
  have k0:(0:Int)<=j:=by omega
  have k1:(j:Int)<n:=by omega
  have bel1:Below w.heap.size w (wr.alloc (.cells (m12 x0 x1 x2 x3) 84)):=HB.out.alloc HB.out.size _
  have HCJ:=zH (HC.out.2 _ hmem _ bel1)
  have HB1:=zH bel1
  clear hx hX hsn ht hc hfl hown bel1 hmem
  cases t_ with
  |false=>
   go_wp2_with (refine HCJ.out.mono ?_;rintro e w2 ⟨rfl,hb2⟩;rw[HT.out])
   refine⟨⟨j+1,by omega,by go_num,?_,HB1.out.trans (hb2.mono HB1.out.size)⟩,by simp[intOf];omega⟩
   rw[HS.out]
   simp only[Bool.false_eq_true,if_false,List.append_nil]
   exact(HO.out.keep ((Below.refl _ wr).alloc nr _)).keep hb2
  |true=>
   go_wp2_with (first
    |(refine HCJ.out.mono ?_;rintro e w2 ⟨rfl,hb2⟩;rw[HT.out];have own2:=(HO.out.keep ((Below.refl _ wr).alloc nr _)).keep hb2;have bx2:w2.heap[wr.heap.size]?=some (.cells (m12 x0 x1 x2 x3) 84 (0,0)):=cG hb2 (by simp) (heap_alloc_new wr _);have e0:w2.cell? (m07 wr)=some (.int .i64 x0):=cA bx2 0;have e1:w2.cell? (m14 wr)=some (.int .i64 x1):=cA bx2 1;have e2:w2.cell? (m17 wr)=some (.int .u64 x2):=cA bx2 2;have e3:w2.cell? (m19 wr)=some (.int .u64 x3):=cA bx2 3;have bel2:=zH (HB1.out.trans (hb2.mono HB1.out.size));have hsz2:w.heap.size<=w2.heap.size:=bel2.out.size)
    |(at_builtin;refine wpList_append_own _ rfl (.tmp 17) (.tmp 19) 36 rfl w.heap.size 84 i0 (.agg (m58)) 4 32 Tryz.underlying36 hi hz0 hz1 hz2 rfl (by decide) _ _ _ rfl (own2.alloc _) (m07 w2) 1 1 (aH ⟨x0,x1,x2,x3⟩) rfl rfl (bE w2 _ _ _ rfl) (gY _) (by unfold maxLen;omega) (by omega) (by simp only[World.size_alloc];omega) ?_;intro v3 w3 hown3 hg3 _))
   refine⟨⟨j+1,by omega,by go_num,?_,OwnL.grown own2 bel2.out nr hsz2 hg3⟩,by simp[intOf];omega⟩
   rw[HS.out]
   simp only[if_true]
   exact OwnL.snoc hown3 rfl
structure RW where
 aw:Option Addr
 nw:Nat
 cw:Nat
 ba:Option Addr
 bn:Nat
 bc:Nat
 tick:Int
 na:Option Addr
 nn:Nat
 nc:Nat
 oa:Option Addr
 on:Nat
 oc:Nat
def aR (r:RW) (C:Tp.Cf):List Value:=[.slice r.aw r.nw r.cw,.int .u64 C.sd,.int .i64 C.ep,.int .i64 C.nu,.int .i64 C.de,.slice r.ba r.bn r.bc,.int .i64 r.tick,.slice r.na r.nn r.nc,.slice r.oa r.on r.oc]
structure WdR (w:World) (r:RW) (ns:List NE) (os:List (RO×Tp.Vw)) (k:Tp.Wd):Prop where
 conf:aP w r.aw r.nw k.c.W k.c.sd
 bad:SlV intC 1 w r.ba r.bn r.bc k.bad
 bad0:r.ba=none->r.bn=0/\r.bc=0
 badm:r.bn<=1000000
 n:eE w r.na r.nn r.nc ns
 kn:k.n=ns.map NE.k
 o:dD w r.oa r.on r.oc os
 ko:k.o=os.map aS
 tick:r.tick=k.tick
theorem WdR.below {w w':World}{r:RW}{ns:List NE}{os:List (RO×Tp.Vw)}{k:Tp.Wd}{B:Nat}(h:WdR w r ns os k)(hb:Below B w w')(hB:w.heap.size<=B):WdR w' r ns os k:=⟨h.conf.below hb hB,h.bad.below hb hB,h.bad0,h.badm,h.n.below hb hB,h.kn,h.o.below hb hB,h.ko,h.tick⟩
theorem WdR.keep {w w':World}{r:RW}{ns:List NE}{os:List (RO×Tp.Vw)}{k:Tp.Wd}(h:WdR w r ns os k)(hb:Below w.heap.size w w'):WdR w' r ns os k:=h.below hb nr
structure iK (w:World) (a:Option Addr) (n c:Nat) (l:List (RA×Tp.Vw)):Prop where
 sl:SlV actC 5 w a n c (l.map Prod.fst)
 vw:∀p∈l,VwR w p.1.v p.2
 bd:n<=1000000
 rng:∀p∈l,p.1.dest<=9223372036854775807
def toAc (p:RA×Tp.Vw):Tp.Ac:=⟨p.1.tick,p.1.dest,p.1.offer,p.2⟩
theorem iK.below {w w':World}{a:Option Addr}{n c B:Nat}{l:List (RA×Tp.Vw)}(h:iK w a n c l)(hb:Below B w w')(hB:w.heap.size<=B):iK w' a n c l:=⟨h.sl.below hb hB,fun p hp=>(h.vw p hp).below hb hB,h.bd,h.rng⟩
theorem iK.keep {w w':World}{a:Option Addr}{n c:Nat}{l:List (RA×Tp.Vw)}(h:iK w a n c l)(hb:Below w.heap.size w w'):iK w' a n c l:=h.below hb nr
theorem iK.len {w:World}{a:Option Addr}{n c:Nat}{l:List (RA×Tp.Vw)}(h:iK w a n c l):l.length=n:=by have:=h.sl.len;rwa [List.length_map]at this
def rB (r:RW) (C:Tp.Cf) (ra:RV) (who:Int) (mean:Bool) (fine:Value) (slot:Int) (ca:Option Addr) (cn cc:Nat):List Value:=[.slice r.aw r.nw r.cw,.int .u64 C.sd,.int .i64 C.ep,.int .i64 C.nu,.int .i64 C.de,.slice r.ba r.bn r.bc,.int .i64 r.tick,.slice r.na r.nn r.nc,.slice r.oa r.on r.oc,.slice ra.ab ra.nb ra.cb,.slice ra.av ra.nv ra.cv,.int .i64 who,.bool mean,fine,.int .i64 slot,.slice ca cn cc]
structure jT (w:World) (Bw B6 B5:Nat) (r:RW) (k:Tp.Wd) (ra:RV):Prop where
 bw:w.heap[Bw]?=some (.cells (aR r k.c).toArray 32 (0,0))
 b6:w.heap[B6]?=some (.cells #[.func (.func 52) #[] (m46 Bw)] 104 (0,0))
 b5:∃who mean fine slot ca cn cc,w.heap[B5]?=some (.cells (rB r k.c ra who mean fine slot ca cn cc).toArray 67 (0,0))
 bad:SlV intC 1 w r.ba r.bn r.bc k.bad
 all:VwR w ra (Tp.all k.n)
theorem jT.below {w w':World}{Bw B6 B5:Nat}{r:RW}{k:Tp.Wd}{ra:RV}{B:Nat}(h:jT w Bw B6 B5 r k ra)(hb:Below B w w')(hB:w.heap.size<=B):jT w' Bw B6 B5 r k ra:=by
 have kp:∀j o,w.heap[j]?=some o->w'.heap[j]?=some o:=fun j o e=>(hb.block j (Nat.lt_of_lt_of_le (gS e) hB)).trans e
 obtain⟨who,mean,fine,slot,ca,cn,cc,e⟩:=h.b5
 exact⟨kp _ _ h.bw,kp _ _ h.b6,⟨who,mean,fine,slot,ca,cn,cc,kp _ _ e⟩,h.bad.below hb hB,h.all.below hb hB⟩
theorem jT.keep {w w':World}{Bw B6 B5:Nat}{r:RW}{k:Tp.Wd}{ra:RV}(h:jT w Bw B6 B5 r k ra)(hb:Below w.heap.size w w'):jT w' Bw B6 B5 r k ra:=h.below hb nr
theorem qV (Bw:Nat)(r:RW)(C:Tp.Cf)(bad:List Int)(who:Int)(w:World)(hbx:w.heap[Bw]?=some (.cells (aR r C).toArray 32 (0,0)))(hb:SlV intC 1 w r.ba r.bn r.bc bad):
  Calls Tryz.prog 52 #[.int .i64 who,.pointer (some (m00 Bw))] w fun e w'=>e=.returned (.bool (Tp.has bad who))/\w=w':=by
 have c5:w.cell? (m65 Bw)=some (.slice r.ba r.bn r.bc):=cA hbx 5
 have HB:=zH hb
 clear hbx hb
 obtain⟨t,ht⟩:∃t,Tp.has bad who=t:=⟨_,rfl⟩
 rw[ht]
 have HT:=zH ht
 clear ht
 go_enter Tryz.func52,Tryz.ntmps52
 go_wp2_with (go_at_call 24;refine(bW r.ba r.bn r.bc bad who _ HB.out).mono ?_;rintro e w' ⟨rfl,rfl⟩;rw[HT.out])
 go_ret
 exact⟨rfl,rfl⟩
theorem aJt (Bw:Nat)(r:RW)(C:Tp.Cf)(a:RA)(w:World)(hbx:w.heap[Bw]?=some (.cells (aR r C).toArray 32 (0,0))):
  Calls Tryz.prog 51 #[.agg (actC a).toArray,.pointer (some (m00 Bw))] w fun e w'=>e=.returned (.bool (decide (a.tick=r.tick)&&decide (0<=a.dest)))/\Below w.heap.size w w':=by
 have hal:Below w.heap.size w (w.alloc (.cells #[.int .i64 a.tick,.int .i64 a.dest,.bool a.offer,.slice a.v.ab a.v.nb a.v.cb,.slice a.v.av a.v.nv a.v.cv] 102)):=(Below.refl _ _).alloc nr _
 have c6:(w.alloc (.cells #[.int .i64 a.tick,.int .i64 a.dest,.bool a.offer,.slice a.v.ab a.v.nb a.v.cb,.slice a.v.av a.v.nv a.v.cv] 102)).cell? (m39 Bw)=some (.int .i64 r.tick):=cA (bK hal hbx) 6
 clear hbx
 simp only[actC]
 go_enter Tryz.func51,Tryz.ntmps51
 by_cases h:a.tick=r.tick
 ·have e:(a.tick==r.tick)=true:=by simp[h]
  have e2:(decide (a.tick=r.tick)&&decide (0<=a.dest))=decide (0<=a.dest):=by simp[h]
  rw[e2]
  clear h e2
  go_wp2
  go_ret
  exact⟨rfl,hal⟩
 ·have e:(a.tick==r.tick)=false:=by simp[h]
  have e2:(decide (a.tick=r.tick)&&decide (0<=a.dest))=false:=by simp[h]
  rw[e2]
  clear h e2
  go_wp2
  go_ret
  exact⟨rfl,hal⟩
theorem aGk (Bw B6 B5:Nat)(r:RW)(k:Tp.Wd)(ra:RV)(x:Tp.B)(w:World)(hM:jT w Bw B6 B5 r k ra):
  Calls Tryz.prog 55 #[.agg (aK x).toArray,.pointer (some (m00 B6)),.pointer (some (m00 B5))] w fun e w'=>e=.returned (.bool (Tp.has k.bad x.who||Tp.has (Tp.all k.n).b x))/\Below w.heap.size w w':=by
 obtain⟨x0,x1,x2,x3,x4⟩:=x
 have hal:Below w.heap.size w (w.alloc (.cells (m11 x0 x1 x2 x3 x4) 56)):=(Below.refl _ _).alloc nr _
 have HM:=zH (hM.keep hal)
 have HAL:=zH hal
 have c0:(w.alloc (.cells (m11 x0 x1 x2 x3 x4) 56)).cell? (m00 B6)=some (.func (.func 52) #[] (m46 Bw)):=cA HM.out.b6 0
 have c9:(w.alloc (.cells (m11 x0 x1 x2 x3 x4) 56)).cell? ⟨B5,9,none⟩=some (.slice ra.ab ra.nb ra.cb):=by obtain⟨_,_,_,_,_,_,_,e⟩:=HM.out.b5;exact cA e 9
 clear hM hal
 obtain⟨t1,ht1⟩:∃t,Tp.has k.bad x1=t:=⟨_,rfl⟩
 obtain⟨t2,ht2⟩:∃t,Tp.has (Tp.all k.n).b ⟨x0,x1,x2,x3,x4⟩=t:=⟨_,rfl⟩
 show Calls _ _ _ _ fun e w'=>e=.returned (.bool (Tp.has k.bad x1||Tp.has (Tp.all k.n).b ⟨x0,x1,x2,x3,x4⟩))/\_
 rw[ht1,ht2]
 have HT1:=zH ht1
 have HT2:=zH ht2
 clear ht1 ht2
 simp only[aK]
 go_enter Tryz.func55,Tryz.ntmps55
 cases t1 with
 |true=>
  go_wp2_with (go_at_call 52;refine(qV Bw r k.c k.bad x1 _ HM.out.bw HM.out.bad).mono ?_;rintro e w' ⟨rfl,rfl⟩;rw[HT1.out])
  go_ret
  exact⟨rfl,HAL.out⟩
 |false=>
  go_wp2_with (first
   |(go_at_call 52;refine(qV Bw r k.c k.bad x1 _ HM.out.bw HM.out.bad).mono ?_;rintro e w' ⟨rfl,rfl⟩;rw[HT1.out])
   |(go_at_call 56;refine(eR ra.ab ra.nb ra.cb (Tp.all k.n).b x0 x1 x2 x3 x4 _ HM.out.all.ok.b).mono ?_;rintro e w2 ⟨rfl,hb2⟩;rw[HT2.out]))
  go_ret
  exact⟨rfl,bS HAL.out hb2⟩
theorem aGj (Bw B6 B5:Nat)(r:RW)(k:Tp.Wd)(ra:RV)(x:Tp.V)(w:World)(hM:jT w Bw B6 B5 r k ra):
  Calls Tryz.prog 58 #[.agg (aH x).toArray,.pointer (some (m00 B6)),.pointer (some (m00 B5))] w fun e w'=>e=.returned (.bool (Tp.has k.bad x.who||Tp.has (Tp.all k.n).v x))/\Below w.heap.size w w':=by
 obtain⟨x0,x1,x2,x3⟩:=x
 have hal:Below w.heap.size w (w.alloc (.cells (m12 x0 x1 x2 x3) 84)):=(Below.refl _ _).alloc nr _
 have HM:=zH (hM.keep hal)
 have HAL:=zH hal
 have c0:(w.alloc (.cells (m12 x0 x1 x2 x3) 84)).cell? (m00 B6)=some (.func (.func 52) #[] (m46 Bw)):=cA HM.out.b6 0
 have c9:(w.alloc (.cells (m12 x0 x1 x2 x3) 84)).cell? ⟨B5,10,none⟩=some (.slice ra.av ra.nv ra.cv):=by obtain⟨_,_,_,_,_,_,_,e⟩:=HM.out.b5;exact cA e 10
 clear hM hal
 obtain⟨t1,ht1⟩:∃t,Tp.has k.bad x0=t:=⟨_,rfl⟩
 obtain⟨t2,ht2⟩:∃t,Tp.has (Tp.all k.n).v ⟨x0,x1,x2,x3⟩=t:=⟨_,rfl⟩
 show Calls _ _ _ _ fun e w'=>e=.returned (.bool (Tp.has k.bad x0||Tp.has (Tp.all k.n).v ⟨x0,x1,x2,x3⟩))/\_
 rw[ht1,ht2]
 have HT1:=zH ht1
 have HT2:=zH ht2
 clear ht1 ht2
 simp only[aH]
 go_enter Tryz.func58,Tryz.ntmps58
 cases t1 with
 |true=>
  go_wp2_with (go_at_call 52;refine(qV Bw r k.c k.bad x0 _ HM.out.bw HM.out.bad).mono ?_;rintro e w' ⟨rfl,rfl⟩;rw[HT1.out])
  go_ret
  exact⟨rfl,HAL.out⟩
 |false=>
  go_wp2_with (first
   |(go_at_call 52;refine(qV Bw r k.c k.bad x0 _ HM.out.bw HM.out.bad).mono ?_;rintro e w' ⟨rfl,rfl⟩;rw[HT1.out])
   |(go_at_call 59;refine(fD ra.av ra.nv ra.cv (Tp.all k.n).v x0 x1 x2 x3 _ HM.out.all.ok.v).mono ?_;rintro e w2 ⟨rfl,hb2⟩;rw[HT2.out]))
  go_ret
  exact⟨rfl,bS HAL.out hb2⟩
theorem aJs (Bw B6 B5:Nat)(r:RW)(k:Tp.Wd)(ra:RV)(a:RA)(x:Tp.Vw)(w:World)(hM:jT w Bw B6 B5 r k ra)(hx:VwR w a.v x):
  Calls Tryz.prog 53 #[.agg (actC a).toArray,.pointer (some (m00 B6)),.pointer (some (m00 B5))] w fun e w'=>∃t:RV,e=.returned (.agg (m01 t))/\VwR w' t (Tp.fine k (toAc (a,x)))/\t.New w.heap.size/\Below w.heap.size w w':=by
 obtain⟨w1,ew1_⟩:∃z,Hid (z=((w.alloc (.cells #[.int .i64 a.tick,.int .i64 a.dest,.bool a.offer,.slice a.v.ab a.v.nb a.v.cb,.slice a.v.av a.v.nv a.v.cv] 102)).alloc (m56))):=⟨_,zH rfl⟩
 have hal:Below w.heap.size w w1:=by cases ew1_.out;exact cR _ _
 have hN:w1.heap[w.heap.size]?=some (.cells #[.int .i64 a.tick,.int .i64 a.dest,.bool a.offer,.slice a.v.ab a.v.nb a.v.cb,.slice a.v.av a.v.nv a.v.cv] 102 (0,0)):=by cases ew1_.out;rw[cF,if_neg (by simp),cF,if_pos rfl]
 have hR:w1.heap[w.heap.size+1]?=some (.cells (m18) 38 (0,0)):=by cases ew1_.out;rw[cF,if_pos (by simp)]
 have HM:=zH hM
 have HX:=zH hx
 clear hM hx
 simp only[actC]
 go_enter Tryz.func53,Tryz.ntmps53
 go_wp2_with fail
 rw[<-ew1_.out]
 refine cN [(1,fun W=>W.cell? (m19 w)=some (.slice a.v.ab a.v.nb a.v.cb)),(5,fun W=>W.cell? (m27 w)=some (.slice a.v.av a.v.nv a.v.cv))] (by kernel_rfl) ?_
 show aB _ _ _ _ _ _ _ _ w1.drew
 have hb2:=hal.drew
 have hd:=(Below.refl w1.heap.size w1).drew
 have hN2:=bK hd hN
 have hR2:=bK hd hR
 generalize w1.drew=w2 at hb2 hN2 hR2⊢
 have HB2:=zH hb2
 have HQ:Hid (∀W:World,W.heap[w.heap.size]?=some (.cells #[.int .i64 a.tick,.int .i64 a.dest,.bool a.offer,.slice a.v.ab a.v.nb a.v.cb,.slice a.v.av a.v.nv a.v.cv] 102 (0,0))->(W.cell? (m19 w)=some (.slice a.v.ab a.v.nb a.v.cb))/\(W.cell? (m27 w)=some (.slice a.v.av a.v.nv a.v.cv))):=zH (fun W e=>⟨cA e 3,cA e 4⟩)
 have hq:=HQ.out w2 hN2
 clear hal hd hb2 hN hR
 refine wX 0 rfl ?_
 refine wY 0 1 rfl rfl (hq.1) ?_
 refine wX 2 rfl ?_
 refine wX 4 rfl ?_
 refine wY 1 5 rfl rfl (hq.2) ?_
 refine wX 6 rfl ?_
 refine cK 3 (by kernel_rfl) rfl (fun K hK=>?_)
 go_simp
 refine(qU 55 #[] (m23 B6 B5) (fun b=>Tp.has k.bad b.who||Tp.has (Tp.all k.n).b b) a.v.ab a.v.nb a.v.cb x.b w2 (HX.out.keep HB2.out).ok.b HX.out.ok.bm ⟨fun _ _=>rfl,fun y _ W hW=>aGk Bw B6 B5 r k ra y W ((HM.out.keep HB2.out).keep hW)⟩).mono ?_
 rintro e w3 ⟨v3,rfl,own3,hb3⟩
 have HB3:=zH (bS HB2.out hb3)
 have HO3:=zH own3;have hs23:=hb3.size
 have hN3:=bK hb3 hN2
 have hR3:=bK hb3 hR2
 have hq3:=HQ.out w3 hN3
 clear own3 hb3
 refine hK.out _ _ ?_ ?_
 ·exact(hl2 hq3)
 clear hK K;try simp only[Act.put,pA,pB,pC]
 refine cK 7 (by kernel_rfl) rfl (fun K hK=>?_)
 go_simp
 refine(sZ 58 #[] (m23 B6 B5) (fun v=>Tp.has k.bad v.who||Tp.has (Tp.all k.n).v v) a.v.av a.v.nv a.v.cv x.v w3 (HX.out.keep HB3.out).ok.v HX.out.ok.vm ⟨fun _ _=>rfl,fun y _ W hW=>aGj Bw B6 B5 r k ra y W ((HM.out.keep HB3.out).keep hW)⟩).mono ?_
 rintro e w4 ⟨v4,rfl,own4,hb4⟩
 have HB4:=zH (bS HB3.out hb4)
 have ob:=HO3.out.keep hb4
 have ov:=OwnL.lower (base':=w2.heap.size) own4 hs23
 obtain⟨ab,cb,hv3,-,-⟩:=ob.sl0 cY
 obtain⟨nb,hnb⟩:∃z,(Tp.fine k (toAc (a,x))).b.length=z:=⟨_,rfl⟩
 replace hv3:v3=.slice ab nb cb:=by rw[<-hnb];exact hv3
 subst hv3
 obtain⟨av,cv,hv4,-,-⟩:=ov.sl0 cW
 obtain⟨nv,hnv⟩:∃z,(Tp.fine k (toAc (a,x))).v.length=z:=⟨_,rfl⟩
 replace hv4:v4=.slice av nv cv:=by rw[<-hnv];exact hv4
 subst hv4
 have hR4:=bK hb4 hR3
 have hN4:=bK hb4 hN3
 have hq4:=HQ.out w4 hN4
 have T:=set2 w4 (w.heap.size+1) _ _ (m63 ab nb cb) (m63 av nv cv) _ hR4
 obtain⟨z0,z1⟩:=kc2 hR4
 have f0:=cH hR4 0;have f1:=cH hR4 1
 have hs2:w.heap.size+1<w2.heap.size:=(gS hR2)
 have HF:=zH (And.intro (VwR.of_own (t:=⟨ab,nb,cb,av,nv,cv⟩) (x:=Tp.fine k (toAc (a,x))) (ob.turn T hs2) (ov.turn T hs2) (fun y hy=>HX.out.ok.u y (List.mem_filter.1 hy).1) (Nat.le_trans (List.length_filter_le _ _) (by show x.b.length<=_;rw[HX.out.ok.b.len];exact HX.out.ok.bm)) (Nat.le_trans (List.length_filter_le _ _) (by show x.v.length<=_;rw[HX.out.ok.v.len];exact HX.out.ok.vm))) (And.intro (show(⟨ab,nb,cb,av,nv,cv⟩:RV).New w.heap.size from⟨fun b o e=>Nat.le_trans HB2.out.size (ob.new b o e),fun b o e=>Nat.le_trans HB2.out.size (ov.new b o e)⟩) (HB4.out.trans (T.below (Nat.le_add_right _ 1)))))
 have hR6:=T.new
 clear T ob ov own4 hb4 hnb hnv
 refine hK.out _ _ ?_ ?_
 ·exact(hl2 hq4)
 clear hK K;try simp only[Act.put,pA,pB,pC]
 refine wX 8 rfl ?_
 refine cK 9 (by kernel_rfl) rfl (fun K hK=>?_)
 go_simp
 refine hK.out _ _ ?_ ?_
 ·exact⟨.inr (by kernel_rfl),.inr (by kernel_rfl),trivial⟩
 clear hK K;try simp only[Act.put,pA,pB,pC]
 refine cO (by kernel_rfl) ?_ _
 generalize((w4.setCell (m22 w) (m63 ab nb cb)).setCell (m29 w) (m63 av nv cv))=w5 at HF hR6⊢
 clear z0 z1 f0 f1 hq hq3 hq4
 try dsimp only
 go_wp2_with fail
 obtain⟨d0,d1⟩:=kc2 hR6
 refine bodyPost_ret (v:=.agg (m52 ab nb cb av nv cv)) ?_ rfl ⟨_,rfl,HF.out.1,HF.out.2.1,HF.out.2.2⟩
 simp[results,Tryz.results53,go_sem,d0,d1]
end Go.Proofs.YtbbhinehcncmeaaGreat
