/- A part of the proof of the laws of the top: TpCursor, TpNodeB. No condition. -/
import Derived.Test.YtbbhinehcncmeaaGreatG22
namespace Go.Proofs.YtbbhinehcncmeaaGreat
open Go.RowKit
set_option linter.unusedSimpArgs false
set_option linter.unusedVariables false
set_option linter.unusedSectionVars false
set_option maxRecDepth 100000
set_option maxHeartbeats 8000000
theorem aGy (w:World)(o1 o2 o3 o4:Obj):(((((w.alloc o1).alloc o2).alloc o3).alloc o4).heap[w.heap.size]?=some o1)/\(((((w.alloc o1).alloc o2).alloc o3).alloc o4).heap[w.heap.size+1]?=some o2)/\(((((w.alloc o1).alloc o2).alloc o3).alloc o4).heap[w.heap.size+2]?=some o3)/\(((((w.alloc o1).alloc o2).alloc o3).alloc o4).heap[w.heap.size+3]?=some o4):=by
 refine⟨?_,?_,?_,?_⟩
 ·rw[cF,if_neg (by simp only[World.size_alloc];omega),cF,if_neg (by simp only[World.size_alloc];omega),cF,if_neg (by simp),cF,if_pos rfl]
 ·rw[cF,if_neg (by simp only[World.size_alloc];omega),cF,if_neg (by simp only[World.size_alloc];omega),cF,if_pos (by simp)]
 ·rw[cF,if_neg (by simp only[World.size_alloc];omega),cF,if_pos (by simp)]
 ·rw[cF,if_pos (by simp)]
theorem rL {w:World}(o1 o2 o3 o4:Obj):Below w.heap.size w ((((w.alloc o1).alloc o2).alloc o3).alloc o4):=(dO _ _ _).alloc (by simp only[World.size_alloc];omega) _
theorem set4 (w:World)(B:Nat)(c0 c1 c2 c3 x y z u:Value)(t:TypeId)(hb:w.heap[B]?=some (.cells #[c0,c1,c2,c3] t (0,0))):
  cT B (.cells #[x,y,z,u] t (0,0)) w ((((w.setCell (m00 B) x).setCell (m15 B) y).setCell (m25 B) z).setCell (m33 B) u):=by
 refine⟨rfl,rfl,rfl,by simp[World.setCell],?_,?_⟩
 ·simp[World.setCell,Array.getElem?_modify,hb]
 ·intro k hk
  rw[Below.heap_setCell _ _ _ _ hk,Below.heap_setCell _ _ _ _ hk,Below.heap_setCell _ _ _ _ hk,Below.heap_setCell _ _ _ _ hk]
theorem aBy (w:World)(B:Nat)(c0 c1 c2 c3 x y z:Value)(t:TypeId)(hb:w.heap[B]?=some (.cells #[c0,c1,c2,c3] t (0,0))):
  cT B (.cells #[x,y,z,c3] t (0,0)) w (((w.setCell (m00 B) x).setCell (m15 B) y).setCell (m25 B) z):=by
 refine⟨rfl,rfl,rfl,by simp[World.setCell],?_,?_⟩
 ·simp[World.setCell,Array.getElem?_modify,hb]
 ·intro k hk
  rw[Below.heap_setCell _ _ _ _ hk,Below.heap_setCell _ _ _ _ hk,Below.heap_setCell _ _ _ _ hk]
theorem aGn (p q sl rev:Int)(a:Option Addr)(n c:Nat)(l:List Tp.B)(h0 h1 f0 f1:Int)(is:Bool)(slot:Int)(w:World)(hn:l.length=n)(hm:n<=1000000)(hU:∀x∈l,x.U)(hl:Blks w a l)(hrev:0<=rev/\rev<=1000000000):
  Calls Tryz.prog 101 #[.agg (m37 p q sl rev),.slice a n c,.agg (m08 h0 h1),.agg (m08 f0 f1),.bool is,.int .i64 slot] w fun e w'=>
   e=.returned (.agg #[.int .u64 (Tp.move ⟨p,q,sl,rev⟩ l (h0,h1) (f0,f1) is slot).p,.int .u64 (Tp.move ⟨p,q,sl,rev⟩ l (h0,h1) (f0,f1) is slot).q,.int .i64 (Tp.move ⟨p,q,sl,rev⟩ l (h0,h1) (f0,f1) is slot).sl,.int .i64 (Tp.move ⟨p,q,sl,rev⟩ l (h0,h1) (f0,f1) is slot).rev])/\Below w.heap.size w w':=by
 obtain⟨ch,hch⟩:∃z,Tp.chain l (h0,h1)=z:=⟨_,rfl⟩
 obtain⟨ia,hia⟩:∃z,Tp.aF ch 0 (p,q)=z:=⟨_,rfl⟩
 obtain⟨jf,hif⟩:∃z,Tp.aF ch 0 (f0,f1)=z:=⟨_,rfl⟩
 have hdef:Tp.move ⟨p,q,sl,rev⟩ l (h0,h1) (f0,f1) is slot=(if is&&decide (0<=jf)&&decide (jf<(if ia<0 then(ch.length:Int)-1 else ia))then { (if ia<0 then(⟨0,0,slot,rev+1⟩:Tp.Cur)else⟨p,q,sl,rev⟩)with p:=f0,q:=f1,sl:=slot }else(if ia<0 then⟨0,0,slot,rev+1⟩else⟨p,q,sl,rev⟩)):=by
  unfold Tp.move
  simp only[hch,hia,hif]
 have hb4:=rL (w:=w) (.cells (m37 p q sl rev) 42) (m40 h0 h1) (m40 f0 f1) (.cells #[.int .u64 0,.int .u64 0,.int .i64 0,.int .i64 0] 42)
 have hg4:=aGy w (.cells (m37 p q sl rev) 42) (m40 h0 h1) (m40 f0 f1) (.cells #[.int .u64 0,.int .u64 0,.int .i64 0,.int .i64 0] 42)
 have hs4:((((w.alloc (.cells (m37 p q sl rev) 42)).alloc (m40 h0 h1)).alloc (m40 f0 f1)).alloc (.cells #[.int .u64 0,.int .u64 0,.int .i64 0,.int .i64 0] 42)).heap.size=w.heap.size+4:=by simp
 go_enter Tryz.func101,Tryz.ntmps101
 go_wp2_with fail
 generalize(((w.alloc (.cells (m37 p q sl rev) 42)).alloc (m40 h0 h1)).alloc (m40 f0 f1)).alloc (.cells #[.int .u64 0,.int .u64 0,.int .i64 0,.int .i64 0] 42)=w1 at hb4 hg4 hs4⊢
 refine(gR a n c l h0 h1 w1 hn hm hU (hl.keep hb4)).mono ?_
 rintro e w2 ⟨v,rfl,own,hb2⟩
 rw[hch]at own
 obtain⟨ca,cc,rfl,cs⟩:=own.sl gI
 obtain⟨g0,g1,g2,g3⟩:=hg4
 have k0:=cG hb2 (by rw[hs4];omega) g0
 have k2:=cG hb2 (by rw[hs4];omega) g2
 have k3:=cG hb2 (by rw[hs4];omega) g3
 obtain⟨p0,p1⟩:=kc2 k0
 have hsz2:w.heap.size+4<=w2.heap.size:=by have:=hb2.size;omega
 have HBL:=zH (bS hb4 hb2)
 have HCS:=zH cs
 have HOWN:=zH own
 have HK0:=zH k0
 have HK2:=zH k2
 have HK3:=zH k3
 have HIA:=zH hia
 have HIF:=zH hif
 have HD:=zH hdef
 have chl:(ch.length:Int)<=9223372036854775807:=by have h1:=cs.cap;have h2:=cs.top;omega
 clear hb4 g0 g1 g2 g3 k0 k2 k3 hb2 own cs hia hif hdef hch hl hU hn
 go_wp2_with fail
 refine(iF ca ch.length cc ch p q w2 HCS.out).mono ?_
 rintro e w3 ⟨rfl,hb3⟩
 rw[HIA.out]
 have k0:=cG hb3 (by omega) HK0.out
 have k2:=cG hb3 (by omega) HK2.out
 have k3:=cG hb3 (by omega) HK3.out
 obtain⟨q0,q1,q2,q3⟩:=kc4 k0
 obtain⟨fr0,fr1,fr2,fr3⟩:=kf4 k0
 obtain⟨r0,r1⟩:=kc2 k2
 have hsz3:w.heap.size+4<=w3.heap.size:=by have:=hb3.size;omega
 have HB3:=zH (bS HBL.out hb3)
 have HOWN3:=zH (HOWN.out.keep hb3)
 have HW1:=zH hs4
 have HL0:=zH k0
 have HL2:=zH k2
 have HL3:=zH k3
 clear hb3 k0 k2 k3 HK0 HK2 HK3 p0 p1 HIA hsz2 hs4
 by_cases hia0:ia<0
 ·have d1:decide (ia<0)=true:=decide_eq_true hia0
  have hd2:=HD.out
  rw[if_pos hia0,if_pos hia0]at hd2
  have HM0:=zH hd2
  have T:=set4 w3 w.heap.size _ _ _ _ (.int .u64 0) (.int .u64 0) (m30 slot) (m30 (rev+1)) _ HL0.out
  have CS4:=zH ((cP gI (HOWN3.out.far T (fun k hk=>by have:=(HOWN3.out.lt k hk).1;have:=HW1.out;omega))).1)
  have N0:=zH T.new
  have N2:=zH ((T.block (w.heap.size+2) (by omega)).trans HL2.out)
  have N3:=zH ((T.block (w.heap.size+3) (by omega)).trans HL3.out)
  have HB4:=zH (HB3.out.trans (T.below (N:=w.heap.size) nr))
  have hsz4:=T.size
  obtain⟨hr0,hr1⟩:=hrev
  clear T hd2 hia0
  go_wp2_with fail
  refine(iF ca ch.length cc ch f0 f1 _ CS4.out).mono ?_
  rintro e w5 ⟨rfl,hb5⟩
  rw[HIF.out]
  have m0:=cG hb5 (by omega) N0.out
  have m2:=cG hb5 (by omega) N2.out
  have m3:=cG hb5 (by omega) N3.out
  obtain⟨u0,u1,u2,u3⟩:=kc4 m0
  obtain⟨y0,y1,y2⟩:=kf3 m0
  obtain⟨v0,v1⟩:=kc2 m2
  obtain⟨s0,s1,s2,s3⟩:=kc4 m3
  obtain⟨z0,z1,z2,z3⟩:=kf4 m3
  have HB5:=zH (bS HB4.out hb5)
  clear hb5 m2
  obtain⟨b1,g1⟩:∃b,decide (0<=jf)=b:=⟨_,rfl⟩
  have k1:decide (jf≥0)=b1:=g1
  obtain⟨b2,g2⟩:∃b,decide (jf<(ch.length:Int)-1)=b:=⟨_,rfl⟩
  have hm:=HM0.out
  rw[g1,g2]at hm
  clear g1 HM0
  cases is with
  |false=>
   have HM:=zH (show Tp.move ⟨p,q,sl,rev⟩ l (h0,h1) (f0,f1) false slot=⟨0,0,slot,rev+1⟩from hm)
   clear hm
   have T9:=set4 w5 (w.heap.size+3) _ _ _ _ (.int .u64 0) (.int .u64 0) (m30 slot) (m30 (rev+1)) _ m3
   have HBF:=zH (HB5.out.trans (T9.below (N:=w.heap.size) (by omega)))
   clear T9
   go_wp2
   refine bodyPost_ret (v:=.agg #[.int .u64 0,.int .u64 0,.int .i64 slot,.int .i64 (rev+1)]) ?_ rfl ⟨by rw[HM.out],HBF.out⟩
   simp[results,Tryz.results101,go_sem,s0,s1,s2,s3]
  |true=>
   cases b1 with
   |false=>
    have HM:=zH (show Tp.move ⟨p,q,sl,rev⟩ l (h0,h1) (f0,f1) true slot=⟨0,0,slot,rev+1⟩from hm)
    clear hm
    have T9:=set4 w5 (w.heap.size+3) _ _ _ _ (.int .u64 0) (.int .u64 0) (m30 slot) (m30 (rev+1)) _ m3
    have HBF:=zH (HB5.out.trans (T9.below (N:=w.heap.size) (by omega)))
    clear T9
    go_wp2
    refine bodyPost_ret (v:=.agg #[.int .u64 0,.int .u64 0,.int .i64 slot,.int .i64 (rev+1)]) ?_ rfl ⟨by rw[HM.out],HBF.out⟩
    simp[results,Tryz.results101,go_sem,s0,s1,s2,s3]
   |true=>
    cases b2 with
    |false=>
     have HM:=zH (show Tp.move ⟨p,q,sl,rev⟩ l (h0,h1) (f0,f1) true slot=⟨0,0,slot,rev+1⟩from hm)
     clear hm
     have T9:=set4 w5 (w.heap.size+3) _ _ _ _ (.int .u64 0) (.int .u64 0) (m30 slot) (m30 (rev+1)) _ m3
     have HBF:=zH (HB5.out.trans (T9.below (N:=w.heap.size) (by omega)))
     clear T9
     go_wp2
     refine bodyPost_ret (v:=.agg #[.int .u64 0,.int .u64 0,.int .i64 slot,.int .i64 (rev+1)]) ?_ rfl ⟨by rw[HM.out],HBF.out⟩
     simp[results,Tryz.results101,go_sem,s0,s1,s2,s3]
    |true=>
     have HM:=zH (show Tp.move ⟨p,q,sl,rev⟩ l (h0,h1) (f0,f1) true slot=⟨f0,f1,slot,(rev+1)⟩from hm)
     clear hm
     have T5:=aBy w5 w.heap.size _ _ _ _ (m68 f0) (m68 f1) (m30 slot) _ m0
     have m0':=T5.new
     have m3':=(T5.block (w.heap.size+3) (by omega)).trans m3
     have T9:=set4 _ (w.heap.size+3) _ _ _ _ (m68 f0) (m68 f1) (m30 slot) (m30 (rev+1)) _ m3'
     have HBF:=zH ((HB5.out.trans (T5.below (N:=w.heap.size) nr)).trans (T9.below (N:=w.heap.size) (by omega)))
     clear T9 T5 m0' m3'
     go_wp2
     refine bodyPost_ret (v:=.agg (m37 f0 f1 slot (rev+1))) ?_ rfl ⟨by rw[HM.out],HBF.out⟩
     simp[results,Tryz.results101,go_sem,s0,s1,s2,s3]
 ·have d1:decide (ia<0)=false:=decide_eq_false hia0
  have hd2:=HD.out
  rw[if_neg hia0,if_neg hia0]at hd2
  have HM0:=zH hd2
  have CS4:=zH ((cP gI HOWN3.out).1)
  have N0:=HL0
  have N2:=HL2
  have N3:=HL3
  have HB4:=HB3
  clear hd2 hia0
  go_wp2_with fail
  refine(iF ca ch.length cc ch f0 f1 _ CS4.out).mono ?_
  rintro e w5 ⟨rfl,hb5⟩
  rw[HIF.out]
  have m0:=cG hb5 (by omega) N0.out
  have m2:=cG hb5 (by omega) N2.out
  have m3:=cG hb5 (by omega) N3.out
  obtain⟨u0,u1,u2,u3⟩:=kc4 m0
  obtain⟨y0,y1,y2⟩:=kf3 m0
  obtain⟨v0,v1⟩:=kc2 m2
  obtain⟨s0,s1,s2,s3⟩:=kc4 m3
  obtain⟨z0,z1,z2,z3⟩:=kf4 m3
  have HB5:=zH (bS HB4.out hb5)
  clear hb5 m2
  obtain⟨b1,g1⟩:∃b,decide (0<=jf)=b:=⟨_,rfl⟩
  have k1:decide (jf≥0)=b1:=g1
  obtain⟨b2,g2⟩:∃b,decide (jf<ia)=b:=⟨_,rfl⟩
  have hm:=HM0.out
  rw[g1,g2]at hm
  clear g1 HM0
  cases is with
  |false=>
   have HM:=zH (show Tp.move ⟨p,q,sl,rev⟩ l (h0,h1) (f0,f1) false slot=⟨p,q,sl,rev⟩from hm)
   clear hm
   have T9:=set4 w5 (w.heap.size+3) _ _ _ _ (m68 p) (m68 q) (m30 sl) (m30 rev) _ m3
   have HBF:=zH (HB5.out.trans (T9.below (N:=w.heap.size) (by omega)))
   clear T9
   go_wp2
   refine bodyPost_ret (v:=.agg (m37 p q sl rev)) ?_ rfl ⟨by rw[HM.out],HBF.out⟩
   simp[results,Tryz.results101,go_sem,s0,s1,s2,s3]
  |true=>
   cases b1 with
   |false=>
    have HM:=zH (show Tp.move ⟨p,q,sl,rev⟩ l (h0,h1) (f0,f1) true slot=⟨p,q,sl,rev⟩from hm)
    clear hm
    have T9:=set4 w5 (w.heap.size+3) _ _ _ _ (m68 p) (m68 q) (m30 sl) (m30 rev) _ m3
    have HBF:=zH (HB5.out.trans (T9.below (N:=w.heap.size) (by omega)))
    clear T9
    go_wp2
    refine bodyPost_ret (v:=.agg (m37 p q sl rev)) ?_ rfl ⟨by rw[HM.out],HBF.out⟩
    simp[results,Tryz.results101,go_sem,s0,s1,s2,s3]
   |true=>
    cases b2 with
    |false=>
     have HM:=zH (show Tp.move ⟨p,q,sl,rev⟩ l (h0,h1) (f0,f1) true slot=⟨p,q,sl,rev⟩from hm)
     clear hm
     have T9:=set4 w5 (w.heap.size+3) _ _ _ _ (m68 p) (m68 q) (m30 sl) (m30 rev) _ m3
     have HBF:=zH (HB5.out.trans (T9.below (N:=w.heap.size) (by omega)))
     clear T9
     go_wp2
     refine bodyPost_ret (v:=.agg (m37 p q sl rev)) ?_ rfl ⟨by rw[HM.out],HBF.out⟩
     simp[results,Tryz.results101,go_sem,s0,s1,s2,s3]
    |true=>
     have HM:=zH (show Tp.move ⟨p,q,sl,rev⟩ l (h0,h1) (f0,f1) true slot=⟨f0,f1,slot,rev⟩from hm)
     clear hm
     have T5:=aBy w5 w.heap.size _ _ _ _ (m68 f0) (m68 f1) (m30 slot) _ m0
     have m0':=T5.new
     have m3':=(T5.block (w.heap.size+3) (by omega)).trans m3
     have T9:=set4 _ (w.heap.size+3) _ _ _ _ (m68 f0) (m68 f1) (m30 slot) (m30 rev) _ m3'
     have HBF:=zH ((HB5.out.trans (T5.below (N:=w.heap.size) nr)).trans (T9.below (N:=w.heap.size) (by omega)))
     clear T9 T5 m0' m3'
     go_wp2
     refine bodyPost_ret (v:=.agg (m37 f0 f1 slot rev)) ?_ rfl ⟨by rw[HM.out],HBF.out⟩
     simp[results,Tryz.results101,go_sem,s0,s1,s2,s3]
theorem jS (a:Option Addr)(n c:Nat)(l:List RO)(w:World)(h:SlV offC 9 w a n c l)(hm:n<=1000000)(h0:a=none->n=0/\c=0):
  Calls Tryz.prog 60 #[.slice a n c] w fun e w'=>∃v,e=.returned v/\OwnL offC 9 112 w' w.heap.size v l/\Below w.heap.size w w':=by
 obtain⟨i0,hi,hz0,hz1,hz2⟩:=info_parts lK
 have qn (W:World) (a:Option Addr) (n c n' c':Nat):=Lib.run_eql_slice_nil (P:=Tryz.prog) W 30 112 a n c n' c' Tryz.underlying30
 cases a with
 |none=>
  obtain⟨rfl,rfl⟩:=h0 rfl
  obtain rfl:l=[]:=List.length_eq_zero_iff.1 h.len
  go_enter Tryz.func60,Tryz.ntmps60
  go_wp2
  go_ret
  exact⟨_,rfl,OwnL.nil _ _ _ _ _,Below.refl _ _⟩
 |some ad=>
  have hnews:∀(j:Nat) u,(l.flatMap offC)[j]?=some u->(w.alloc (.cells #[] 112)).cell? (ad.add j)=some u:=by
   intro j u hj
   rcases Nat.eq_zero_or_pos l.length with e|e
   ·obtain rfl:l=[]:=List.length_eq_zero_iff.1 e
    simp at hj
   ·have h2:=(h.alloc (.cells #[] 112)).rows
    obtain⟨b,o,rfl⟩:=h2.addr e
    exact Rws.flat dW (by decide) h2.cells j u hj
  have hlen:=bR dW l
  rw[h.len]at hlen
  have HL:=zH h.len
  clear h h0
  have hown:(w.alloc (.cells #[] 112)).ownsRow w.heap.size 112 9 (.slice (some (m07 w)) 0 0) 0 []:=World.ownsRow_made w #[] 0 nr (by unfold maxLen;omega) rfl
  have bel0:Below w.heap.size w (w.alloc (.cells #[] 112)):=(Below.refl _ w).alloc nr _
  go_enter Tryz.func60,Tryz.ntmps60
  go_wp2_with (first
   |(at_builtin;refine wpList_append_own _ rfl (.tmp 5) (.tmp 6) 30 rfl w.heap.size 112 i0 (.agg (m24)) 9 104 Tryz.underlying30 hi hz0 hz1 hz2 rfl (by decide) _ _ _ rfl hown ad n c (l.flatMap offC) rfl hlen hnews (eV lI l) (by unfold maxLen;omega) (by omega) (by simp) ?_;intro v2 w2 hown2 hg2 _;have bel2:=bel0.grown hg2 (by simp) (fun k hk=>(hown.lt k hk).1);have own2:OwnL offC 9 112 w2 w.heap.size v2 l:=(by unfold OwnL;rw[HL.out];rw[Nat.zero_add,List.nil_append]at hown2;exact hown2)))
  go_ret
  exact⟨_,rfl,own2,bel2⟩
theorem rU (a:Option Addr)(n c:Nat)(l:List RN)(w:World)(h:SlV aT 12 w a n c l)(hm:n<=1000000)(h0:a=none->n=0/\c=0):
  Calls Tryz.prog 45 #[.slice a n c] w fun e w'=>∃v,e=.returned v/\OwnL aT 12 44 w' w.heap.size v l/\Below w.heap.size w w':=by
 obtain⟨i0,hi,hz0,hz1,hz2⟩:=info_parts rF
 have qn (W:World) (a:Option Addr) (n c n' c':Nat):=Lib.run_eql_slice_nil (P:=Tryz.prog) W 29 44 a n c n' c' Tryz.underlying29
 cases a with
 |none=>
  obtain⟨rfl,rfl⟩:=h0 rfl
  obtain rfl:l=[]:=List.length_eq_zero_iff.1 h.len
  go_enter Tryz.func45,Tryz.ntmps45
  go_wp2
  go_ret
  exact⟨_,rfl,OwnL.nil _ _ _ _ _,Below.refl _ _⟩
 |some ad=>
  have hnews:∀(j:Nat) u,(l.flatMap aT)[j]?=some u->(w.alloc (.cells #[] 44)).cell? (ad.add j)=some u:=by
   intro j u hj
   rcases Nat.eq_zero_or_pos l.length with e|e
   ·obtain rfl:l=[]:=List.length_eq_zero_iff.1 e
    simp at hj
   ·have h2:=(h.alloc (.cells #[] 44)).rows
    obtain⟨b,o,rfl⟩:=h2.addr e
    exact Rws.flat cS (by decide) h2.cells j u hj
  have hlen:=bR cS l
  rw[h.len]at hlen
  have HL:=zH h.len
  clear h h0
  have hown:(w.alloc (.cells #[] 44)).ownsRow w.heap.size 44 12 (.slice (some (m07 w)) 0 0) 0 []:=World.ownsRow_made w #[] 0 nr (by unfold maxLen;omega) rfl
  have bel0:Below w.heap.size w (w.alloc (.cells #[] 44)):=(Below.refl _ w).alloc nr _
  go_enter Tryz.func45,Tryz.ntmps45
  go_wp2_with (first
   |(at_builtin;refine wpList_append_own _ rfl (.tmp 5) (.tmp 6) 29 rfl w.heap.size 44 i0 (.agg (m20)) 12 176 Tryz.underlying29 hi hz0 hz1 hz2 rfl (by decide) _ _ _ rfl hown ad n c (l.flatMap aT) rfl hlen hnews (eV qW l) (by unfold maxLen;omega) (by omega) (by simp) ?_;intro v2 w2 hown2 hg2 _;have bel2:=bel0.grown hg2 (by simp) (fun k hk=>(hown.lt k hk).1);have own2:OwnL aT 12 44 w2 w.heap.size v2 l:=(by unfold OwnL;rw[HL.out];rw[Nat.zero_add,List.nil_append]at hown2;exact hown2)))
  go_ret
  exact⟨_,rfl,own2,bel2⟩
theorem fT {α:Type}{f:α->List Value}{k:Nat}{P:Program}{w:World}{ops:Array Oper}{rest:List Oper}{o:Oper}{a:Act}{Q:Exit->Act->World->Prop}(hgd:o.guard=none)(s x:Operand)(t:TypeId)(ho:o.op=.call { callee:=.builtin .append,args:=#[s,x],argTypes:=#[t,t] })(base:Nat)(e:TypeId)(i:TypeInfo)(z:Value)(bytes:Nat)(ht:P.underlying t=some (.slice e))(hi:P.info? e=some i)(hz:i.zero=some z)(hsize:i.size=k)(hby:i.bytes=bytes)(hzs:z.cells.size=k)(hsz:0<k)(hk:∀x,(f x).length=k)(hone:∀x,∀u∈f x,u.oneCell'=true)(v:Value)(l m:List α)(ad:Option Addr)(n c:Nat)(hs:a.eval s=v)(hown:OwnL f k e w base v l)(hx:a.eval x=.slice ad n c)(hm:SlV f k w ad n c m)(h0:ad=none->n=0/\c=0)(h63:l.length+n<=maxLen)(hbytes:(l.length+n)*bytes<=140737488355328)(hbase:base<=w.heap.size)(h:∀v' w',OwnL f k e w' base v' (l++m)->w.grownBy w' v.ownBlock->wpList P ops Q rest (a.put o.dst v') w'):wpList P ops Q (o::rest) a w:=by
 cases ad with
 |none=>
  obtain⟨rfl,rfl⟩:=h0 rfl
  obtain rfl:m=[]:=List.length_eq_zero_iff.1 hm.len
  refine Go.wpList_append_own_none hgd s x t ho base e i k ht hi v l.length (l.flatMap f) hs hown hx (h v w ?_ ⟨rfl,rfl,rfl,Nat.le_refl _,fun _ _ _=>rfl⟩)
  rw[List.append_nil]
  exact hown
 |some ad=>
  have hnews:∀(j:Nat) u,(m.flatMap f)[j]?=some u->w.cell? (ad.add j)=some u:=by
   intro j u hj
   rcases Nat.eq_zero_or_pos m.length with e|e
   ·obtain rfl:m=[]:=List.length_eq_zero_iff.1 e
    simp at hj
   ·have h2:=hm.rows
    obtain⟨b,o,rfl⟩:=h2.addr e
    exact Rws.flat hk hsz h2.cells j u hj
  have hlen:=bR hk m
  rw[hm.len]at hlen
  refine wpList_append_own w hgd s x t ho base e i z k bytes ht hi hz hsize hby hzs hsz v l.length (l.flatMap f) hs hown ad n c (m.flatMap f) hx hlen hnews (eV hone m) h63 hbytes hbase ?_
  intro v' w' h1 h2 _
  refine h v' w' ?_ h2
  unfold OwnL
  rw[List.length_append,hm.len,List.flatMap_append]
  exact h1
theorem vU (n:Nat)(w:World)(hn:n<=10000000):
  Calls Tryz.prog 113 #[.slice none 0 0,.int .i64 n] w fun e w'=>∃v,e=.returned v/\OwnL offC 9 112 w' w.heap.size v ([]:List RO)/\Below w.heap.size w w':=by
 obtain⟨i0,hi,hz0,hz1,hz2⟩:=info_parts lK
 have h1:¬((n:Int)<0):=by omega
 by_cases h0:n=0
 ·subst h0
  go_enter Tryz.func113,Tryz.ntmps113
  go_wp2
  go_ret
  exact⟨_,rfl,OwnL.nil _ _ _ _ _,Below.refl _ _⟩
 have h2:(n:Int)>0:=by omega
 have z25:∀w,(Go.sizeOf 112).run Tryz.prog w=.ok 9 w:=fun w=>by simp[Go.sizeOf,typeInfo,hi,hz1]
 have hold:(Builtin.firstCells i0.size 0 (m48)).run Tryz.prog w.drew=.ok (#[]:Array Value) w.drew:=run_firstCells_none w.drew i0.size 0 0 0
 have hrz:∀ty,(Builtin.append_ #[30,3] ty #[.slice none 0 0,.int .i64 (n:Int)]).run Tryz.prog w=
   .ok (.slice (some (m07 w)) (0+n) (grownCap w (0+n) 0 112)) (w.drew.alloc (.cells (([]:List Value).toArray++Builtin.zeroCells (Value.cells (.agg (m24))) n++Builtin.zeroCells (Value.cells (.agg (m24))) (grownCap w (0+n) 0 112-(0+n))) 112)):=fun ty=>
  Lib.run_append_grow_zeros w 30 3 ty 112 i0 _ .i64 .i64 Tryz.underlying30 Tryz.underlying3 hi hz0 none 0 0 [] hold n (by omega) (by rw[hz1];decide) (by omega) (by omega) (by rw[hz2];omega)
   (growslice_fits (by omega) (by rw[hz2];omega))
 have hGn:0+n<=grownCap w (0+n) 0 112:=grownCap_ge w _ _ _
 have hG63:=grownCap_le_maxLen w (0+n) 0 112 (by unfold maxLen;omega)
 obtain⟨G,hG⟩:∃G,G=grownCap w (0+n) 0 112:=⟨_,rfl⟩
 rw[<-hG]at hrz hGn hG63
 have hG2:G<=9223372036854775807:=by unfold maxLen at hG63;omega
 rw[Nat.zero_add]at hrz hGn
 obtain⟨cs,hcs⟩:∃cs,(([]:List Value).toArray++Builtin.zeroCells (Value.cells (.agg (m24))) n++Builtin.zeroCells (Value.cells (.agg (m24))) (G-n))=cs:=⟨_,rfl⟩
 have hsz:cs.size=G*9:=by rw[<-hcs];simp[Builtin.zeroCells,Value.cells];omega
 rw[hcs]at hrz
 have hown:OwnL offC 9 112 (w.drew.alloc (.cells cs 112)) w.heap.size (.slice (some (m07 w)) 0 G) ([]:List RO):=World.ownsRow_made w.drew cs G nr hG63 hsz
 have hbel:Below w.heap.size w (w.drew.alloc (.cells cs 112)):=((Below.refl _ w).drew).alloc nr _
 have HO:=zH hown
 have HB:=zH hbel
 clear hold hG hcs hsz hown hbel
 go_enter Tryz.func113,Tryz.ntmps113
 go_wp2_with (at_builtin;refine Lib.wpList_append_run _ rfl _ _ _ _ rfl _ _ rfl rfl _ _ (hrz _) ?_)
 go_ret
 exact⟨_,rfl,HO.out,HB.out⟩
theorem rT (b:Nat)(a1:Option Addr)(n1 c1:Nat)(l1:List RO)(a2:Option Addr)(n2 c2:Nat)(l2:List RO)(w:World)(h0:w.cell? (m00 b)=some (.slice a1 n1 c1))(h1:w.cell? (m15 b)=some (.slice a2 n2 c2))(hb:b<w.heap.size)(s1:SlV offC 9 w a1 n1 c1 l1)(z1:a1=none->n1=0/\c1=0)(s2:SlV offC 9 w a2 n2 c2 l2)(z2:a2=none->n2=0/\c2=0)(m1:n1<=1000000)(m2:n2<=1000000):
  Calls Tryz.prog 95 #[.slice (some (m00 b)) 2 2] w fun e w'=>∃v,e=.returned v/\OwnL offC 9 112 w' w.heap.size v (l1++l2)/\Below w.heap.size w w':=by
 obtain⟨i0,hi,hz0,hz1,hz2⟩:=info_parts lK
 have HS1:=zH (And.intro s1 z1)
 have HS2:=zH (And.intro s2 z2)
 have q2:IntKind.i64.wrap ((n1:Int)+n2)=(n1:Int)+n2:=by rw[IntKind.wrap_i64];omega
 have q3:¬((n1:Int)+n2<0):=by omega
 clear s1 z1 s2 z2
 go_enter Tryz.func95,Tryz.ntmps95
 go_wp2_with fail
 go_loopw [11,3] (fun i z wr=>w=wr/\((i=.int .i64 0/\z=.int .i64 0)\/(i=.int .i64 1/\z=.int .i64 n1)\/(i=.int .i64 2/\z=.int .i64 ((n1:Int)+n2)))) (fun i z _=>2-(intOf i).toNat)
 case atStart=>exact⟨rfl,.inl ⟨rfl,rfl⟩⟩
 case round=>
  obtain⟨rfl,⟨rfl,rfl⟩|⟨rfl,rfl⟩|⟨rfl,rfl⟩⟩:=hrel
  ·go_wp2
   exact⟨⟨trivial,.inr (.inl ⟨rfl,rfl⟩)⟩,by simp[intOf]⟩
  ·go_wp2
   exact⟨⟨trivial,.inr (.inr ⟨rfl,rfl⟩)⟩,by simp[intOf]⟩
  ·rw[show((n1:Int)+n2)=((n1+n2:Nat):Int)from by omega]
   clear q2 q3
   go_wp2_with fail
   refine(vU (n1+n2) w (by omega)).mono ?_
   rintro e w2 ⟨v0,rfl,own,bel⟩
   have H0:=zH (And.intro own bel)
   clear own bel
   have hbase:w.heap.size<=w2.heap.size:=H0.out.2.size
   go_wp2_with fail
   go_loopw [27,6] (fun i v wr=>Below w.heap.size w wr/\w.heap.size<=wr.heap.size/\((i=.int .i64 0/\OwnL offC 9 112 wr w.heap.size v ([]:List RO))\/(i=.int .i64 1/\OwnL offC 9 112 wr w.heap.size v l1)\/(i=.int .i64 2/\OwnL offC 9 112 wr w.heap.size v (l1++l2)))) (fun i v _=>2-(intOf i).toNat)
   case atStart=>exact⟨H0.out.2,hbase,.inl ⟨rfl,H0.out.1⟩⟩
   case round=>
    obtain⟨hbel,hsz,⟨rfl,own⟩|⟨rfl,own⟩|⟨rfl,own⟩⟩:=hrel
    ·have d0:wr.cell? (m00 b)=some (.slice a1 n1 c1):=(hbel.cell (p:=(m00 b)) hb).trans h0
     have HB:=zH hbel
     have HO:=zH own
     clear hbel own
     have A1:=zH (HS1.out.1.keep HB.out)
     have A2:Hid (([]:List RO).length+n1<=maxLen):=zH (by unfold maxLen;show 0+n1<=_;omega)
     have A3:Hid ((([]:List RO).length+n1)*104<=140737488355328):=zH (by show(0+n1)*104<=_;omega)
     go_wp2_with (at_builtin;refine fT rfl (.tmp 31) (.tmp 32) 30 rfl w.heap.size 112 i0 (.agg (m24)) 104 Tryz.underlying30 hi hz0 hz1 hz2 rfl (by decide) dW lI _ ([]:List RO) l1 a1 n1 c1 rfl HO.out rfl A1.out HS1.out.2 A2.out A3.out hsz ?_;intro v2 w2 hown2 hg2;have bel2:=HB.out.grown hg2 hsz (fun k hk=>(HO.out.lt k hk).1))
     exact⟨⟨bel2,bel2.size,.inr (.inl ⟨rfl,hown2⟩)⟩,by simp[intOf]⟩
    ·have d0:wr.cell? (m15 b)=some (.slice a2 n2 c2):=(hbel.cell (p:=(m15 b)) hb).trans h1
     have HB:=zH hbel
     have HO:=zH own
     clear hbel own
     have A1:=zH (HS2.out.1.keep HB.out)
     have A2:Hid (l1.length+n2<=maxLen):=zH (by unfold maxLen;rw[HS1.out.1.len];omega)
     have A3:Hid ((l1.length+n2)*104<=140737488355328):=zH (by rw[HS1.out.1.len];omega)
     go_wp2_with (at_builtin;refine fT rfl (.tmp 31) (.tmp 32) 30 rfl w.heap.size 112 i0 (.agg (m24)) 104 Tryz.underlying30 hi hz0 hz1 hz2 rfl (by decide) dW lI _ l1 l2 a2 n2 c2 rfl HO.out rfl A1.out HS2.out.2 A2.out A3.out hsz ?_;intro v2 w2 hown2 hg2;have bel2:=HB.out.grown hg2 hsz (fun k hk=>(HO.out.lt k hk).1))
     exact⟨⟨bel2,bel2.size,.inr (.inr ⟨rfl,hown2⟩)⟩,by simp[intOf]⟩
    ·have HB:=zH hbel
     have HO:=zH own
     clear hbel own
     go_wp2_with fail
     go_ret
     exact⟨_,rfl,HO.out,HB.out⟩
end Go.Proofs.YtbbhinehcncmeaaGreat
