/- A part of the proof of the laws of the top: TpWeigh, TpWeighB. No condition. -/
import Derived.Test.YtbbhinehcncmeaaGreatG33
namespace Go.Proofs.YtbbhinehcncmeaaGreat
open Go.RowKit
set_option linter.unusedSimpArgs false
set_option linter.unusedVariables false
set_option linter.unusedSectionVars false
set_option maxRecDepth 100000
set_option maxHeartbeats 4000000
theorem pK (Bb:Nat)(ba:Option Addr)(bn bc:Nat)(bad:List Int)(who:Int)(w:World)(hbx:w.cell? (m00 Bb)=some (.slice ba bn bc))(hb:SlV intC 1 w ba bn bc bad):
  Calls Tryz.prog 79 #[.int .i64 who,.pointer (some (m00 Bb))] w fun e w'=>e=.returned (.bool (Tp.has bad who))/\w=w':=by
 have HB:=zH hb
 obtain⟨t,ht⟩:∃t,Tp.has bad who=t:=⟨_,rfl⟩
 rw[ht]
 have HT:=zH ht
 clear ht hb
 go_enter Tryz.func79,Tryz.ntmps79
 go_wp2_with (go_at_call 24;refine(bW ba bn bc bad who _ HB.out).mono ?_;rintro e w' ⟨rfl,rfl⟩;rw[HT.out])
 go_ret
 exact⟨rfl,rfl⟩
structure PaR (w2:World) (N1:Nat) (ga:Option Addr) (gn gc:Nat) (gl:List Int) (ba:Option Addr) (bn bc:Nat) (bl:List Int) (wr:World):Prop where
 kp:aC (· =N1) w2 wr
 box:wr.heap[N1]?=some (.cells (m52 ga gn gc ba bn bc) 131 (0,0))
 n1:N1<w2.heap.size
 og:OwnL intC 1 3 wr w2.heap.size (m63 ga gn gc) gl
 ob:OwnL intC 1 3 wr w2.heap.size (m63 ba bn bc) bl
 ne:∀g,(Value.slice ga gn gc).ownBlock=some g->(Value.slice ba bn bc).ownBlock≠some g
theorem PaR.pushB {w2 wr w7 w8:World}{N1:Nat}{ga:Option Addr}{gn gc:Nat}{gl:List Int}{ba:Option Addr}{bn bc:Nat}{bl:List Int}{x:Int}(h:PaR w2 N1 ga gn gc gl ba bn bc bl wr)(hb:Below wr.heap.size wr w7){v:Value}(hv:OwnL intC 1 3 w8 w2.heap.size v (bl++[x]))(hg:w7.grownBy w8 (Value.slice ba bn bc).ownBlock)(ha:v.ownBlock=(Value.slice ba bn bc).ownBlock\/v.ownBlock=some w7.heap.size):
  ∃ba' bn' bc',v=.slice ba' bn' bc'/\w8.heap[N1]?=some (.cells (m52 ga gn gc ba bn bc) 131 (0,0))/\PaR w2 N1 ga gn gc gl ba' bn' bc' (bl++[x]) (w8.setCell (m15 N1) v):=by
 obtain⟨G,kG,hG⟩:=dV hg
 have s1:=h.kp.size
 have s2:=hb.size
 have hGw:w2.heap.size<=G:=hG.elim (fun e=>(h.ob.lt G e).1) (fun e=>by omega)
 have bx8:w8.heap[N1]?=some (.cells (m52 ga gn gc ba bn bc) 131 (0,0)):=(kG.block N1 (by have:=h.n1;omega) (by have:=h.n1;omega)).trans (bK hb h.box)
 have T:=cM [v] 1 _ _ bx8 (by show(2:Nat)<=2;omega)
 have og8:=((h.og.keep hb).keepS kG (fun e=>hG.elim (fun e2=>h.ne G e e2) (fun e2=>by have:=(h.og.lt G e).2;omega))).turnNe T (fun e=>by have:=(h.og.lt _ e).1;have:=h.n1;omega)
 have ob8:=hv.turnNe T (fun e=>by have:=(hv.lt _ e).1;have:=h.n1;omega)
 have kp8:=(((h.kp.thenB (hb.mono s1)).thenB (kG.below (by omega) (fun j e=>by rw[e];exact hGw))).trans (cL (S:=(· =N1)) T rfl))
 have hbx:=T.new
 have hne:∀g,(Value.slice ga gn gc).ownBlock=some g->v.ownBlock≠some g:=fun g e1 e2=>by
  rcases ha with e|e
  ·exact h.ne g e1 (e▸e2)
  ·rw[e]at e2;injection e2 with e2;have:=(h.og.lt g e1).2;omega
 obtain⟨ba',bc',hvv,-,-⟩:=OwnL.sl0 (f:=intC) (k:=1) (fun _=>rfl) hv
 obtain⟨bn',hbn'⟩:∃z,(bl++[x]).length=z:=⟨_,rfl⟩
 rw[hbn']at hvv
 subst hvv
 exact⟨ba',bn',bc',rfl,bx8,kp8,hbx,h.n1,og8,ob8,hne⟩
theorem PaR.pushG {w2 wr w7 w8:World}{N1:Nat}{ga:Option Addr}{gn gc:Nat}{gl:List Int}{ba:Option Addr}{bn bc:Nat}{bl:List Int}{x:Int}(h:PaR w2 N1 ga gn gc gl ba bn bc bl wr)(hb:Below wr.heap.size wr w7){v:Value}(hv:OwnL intC 1 3 w8 w2.heap.size v (gl++[x]))(hg:w7.grownBy w8 (Value.slice ga gn gc).ownBlock)(ha:v.ownBlock=(Value.slice ga gn gc).ownBlock\/v.ownBlock=some w7.heap.size):
  ∃ga' gn' gc',v=.slice ga' gn' gc'/\w8.heap[N1]?=some (.cells (m52 ga gn gc ba bn bc) 131 (0,0))/\PaR w2 N1 ga' gn' gc' (gl++[x]) ba bn bc bl (w8.setCell (m00 N1) v):=by
 obtain⟨G,kG,hG⟩:=dV hg
 have s1:=h.kp.size
 have s2:=hb.size
 have hGw:w2.heap.size<=G:=hG.elim (fun e=>(h.og.lt G e).1) (fun e=>by omega)
 have bx8:w8.heap[N1]?=some (.cells (m52 ga gn gc ba bn bc) 131 (0,0)):=(kG.block N1 (by have:=h.n1;omega) (by have:=h.n1;omega)).trans (bK hb h.box)
 have T:=cM [v] 0 _ _ bx8 (by show(1:Nat)<=2;omega)
 have ob8:=((h.ob.keep hb).keepS kG (fun e=>hG.elim (fun e2=>h.ne G e2 e) (fun e2=>by have:=(h.ob.lt G e).2;omega))).turnNe T (fun e=>by have:=(h.ob.lt _ e).1;have:=h.n1;omega)
 have og8:=hv.turnNe T (fun e=>by have:=(hv.lt _ e).1;have:=h.n1;omega)
 have kp8:=(((h.kp.thenB (hb.mono s1)).thenB (kG.below (by omega) (fun j e=>by rw[e];exact hGw))).trans (cL (S:=(· =N1)) T rfl))
 have hbx:=T.new
 have hne:∀g,v.ownBlock=some g->(Value.slice ba bn bc).ownBlock≠some g:=fun g e1 e2=>by
  rcases ha with e|e
  ·exact h.ne g (e▸e1) e2
  ·rw[e]at e1;injection e1 with e1;have:=(h.ob.lt g e2).2;omega
 obtain⟨ga',gc',hvv,-,-⟩:=OwnL.sl0 (f:=intC) (k:=1) (fun _=>rfl) hv
 obtain⟨gn',hgn'⟩:∃z,(gl++[x]).length=z:=⟨_,rfl⟩
 rw[hgn']at hvv
 subst hvv
 exact⟨ga',gn',gc',rfl,bx8,kp8,hbx,h.n1,og8,ob8,hne⟩
theorem zL (Bb:Nat)(ba:Option Addr)(bn bc:Nat)(bad:List Int)(a:Option Addr)(n c:Nat)(l:List Int)(w:World)(h:SlV intC 1 w a n c l)(hm:n<=1000000)(hbx:w.cell? (m00 Bb)=some (.slice ba bn bc))(hBb:Bb<w.heap.size)(hb:SlV intC 1 w ba bn bc bad):
  Calls Tryz.prog 77 #[.slice a n c,.func (.func 79) #[] (m46 Bb)] w fun e w'=>∃(ga:Option Addr) (gn gc:Nat) (ya:Option Addr) (yn yc:Nat),e=.returned (.agg (m52 ga gn gc ya yn yc))/\SlV intC 1 w' ga gn gc (l.filter (fun x=>!Tp.has bad x))/\SlV intC 1 w' ya yn yc (l.filter (fun x=>Tp.has bad x))/\Below w.heap.size w w':=by
 obtain⟨i0,hi0,hz0,hz1,hz2⟩:=info_parts nW
 have H2:=zH h
 have HB:=zH hb
 obtain⟨w2,ew2_⟩:∃z,Hid (z=(w.alloc (.cells (m18) 131)).alloc (.cells (m18) 131)):=⟨_,zH rfl⟩
 have hb2:Below w.heap.size w (w2):=by cases ew2_.out;exact cR _ _
 have h4:(w2).heap[w.heap.size]?=some (.cells (m18) 131 (0,0)):=by cases ew2_.out;rw[cF,if_neg (by simp),cF,if_pos rfl]
 have h5:(w2).heap[w.heap.size+1]?=some (.cells (m18) 131 (0,0)):=by cases ew2_.out;rw[cF,if_pos (by simp)]
 have hs5:w.heap.size+1<(w2).heap.size:=by cases ew2_.out;simp
 clear h hb
 go_enter Tryz.func77,Tryz.ntmps77
 go_wp2_with fail
 rw[<-ew2_.out]
 have D2:=zH hb2
 have H4:=zH h4
 have HS:Hid (PaR w2 (w.heap.size+1) none 0 0 [] none 0 0 [] w2):=zH ⟨aC.refl _ _,h5,hs5,OwnL.nil _ _ _ _ _,OwnL.nil _ _ _ _ _,fun g e=>(by cases e)⟩
 clear hb2 h4 h5
 go_loopw [10] (fun i_ wr=>∃(j:Nat) (ga:Option Addr) (gn gc:Nat) (ya:Option Addr) (yn yc:Nat),j<=n/\i_=.int .i64 j/\PaR w2 (w.heap.size+1) ga gn gc ((l.take j).filter (fun x=>!Tp.has bad x)) ya yn yc ((l.take j).filter (fun x=>Tp.has bad x)) wr) (fun i_ _=>n-(intOf i_).toNat)
 case atStart=>exact⟨0,none,0,0,none,0,0,Nat.zero_le _,rfl,HS.out⟩
 case round=>
  clear HS
  obtain⟨j,ga,gn,gc,ya,yn,yc,hj,rfl,hR⟩:=hrel
  have hbr:Below w.heap.size w wr:=D2.out.trans (hR.kp.below D2.out.size (fun j e=>by rw[e];omega))
  have HBR:=zH hbr
  have HR:=zH hR
  by_cases hjn:j<n
  case neg=>
   obtain rfl:j=n:=by omega
   have hfin:l.take j=l:=List.take_of_length_le (by rw[H2.out.len];exact Nat.le_refl _)
   rw[hfin]at hR
   obtain⟨c0,c1⟩:=kc2 hR.box
   have h46:=(hR.kp.block w.heap.size (by omega) (by omega)).trans H4.out
   obtain⟨z0,z1⟩:=kc2 h46
   obtain⟨f0,f1⟩:=kf2 h46
   have T:=set2 wr w.heap.size _ _ (m63 ga gn gc) (m63 ya yn yc) _ h46
   have HF:=zH (And.intro (cP (f:=intC) (k:=1) (fun _=>rfl) (hR.og.turnNe T (fun e=>by have:=(hR.og.lt _ e).1;omega))).1 (And.intro (cP (f:=intC) (k:=1) (fun _=>rfl) (hR.ob.turnNe T (fun e=>by have:=(hR.ob.lt _ e).1;omega))).1 (hbr.trans (T.below nr))))
   have g9:=T.new
   clear hR HR T hbr h46 hfin
   go_wp2_with fail
   generalize(wr.setCell (m07 w) (m63 ga gn gc)).setCell (m14 w) (m63 ya yn yc)=W9 at HF g9⊢
   obtain⟨e0,e1⟩:=kc2 g9
   refine bodyPost_ret (v:=.agg (m52 ga gn gc ya yn yc)) ?_ rfl ⟨ga,gn,gc,ya,yn,yc,rfl,HF.out.1,HF.out.2.1,HF.out.2.2⟩
   simp[results,Tryz.results77,go_sem,e0,e1]
  have hjl:j<l.length:=by rw[H2.out.len];exact hjn
  have hs1:=dS (fun x=>!Tp.has bad x) l j hjl
  have hs2:=dS (fun x=>Tp.has bad x) l j hjl
  obtain⟨x,hX⟩:∃x,l[j]=x:=⟨_,rfl⟩
  obtain⟨b,o,hav,hlt,hc⟩:∃b o,a=some ⟨b,o,none⟩/\b<wr.heap.size/\wr.cell? (m09 b (o+j))=some (.int .i64 x):=by
   rcases(H2.out.below hbr nr).rows with h0|⟨b,o,ho,hlt,hc⟩
   ·omega
   ·refine⟨b,o,ho,hlt,?_⟩
    have:=hc j hjl 0 (by omega)
    rw[hX,Nat.mul_one,Nat.add_zero]at this
    exact this
  subst hav
  have j0:(0:Int)<=j:=by omega
  have j1:(j:Int)<n:=by omega
  obtain⟨c0,c1⟩:=kc2 hR.box
  obtain⟨t,ht⟩:∃t,Tp.has bad x=t:=⟨_,rfl⟩
  rw[hX]at hs1 hs2
  simp only[ht]at hs1 hs2
  have HT:=zH ht
  have HS1:=zH hs1
  have HS2:=zH hs2
  have HW1:=zH (And.intro ((hbr.cell (p:=(m00 Bb)) hBb).trans hbx) (HB.out.below hbr nr))
  have hl1:((l.take j).filter (fun x=>!Tp.has bad x)).length<=1000000:=bL _ _ _ _ (by omega)
  have hl2:((l.take j).filter (fun x=>Tp.has bad x)).length<=1000000:=bL _ _ _ _ (by omega)
  clear hR ht hs1 hs2 hX
  have hal:Below wr.heap.size wr (wr.alloc (.cells #[.int .i64 x] 3)):=(Below.refl _ _).alloc nr _
  have hb7:(wr.alloc (.cells #[.int .i64 x] 3)).heap[wr.heap.size]?=some (.cells (intC x).toArray 3 (0,0)):=heap_alloc_new wr _
  have hs7:wr.heap.size<(wr.alloc (.cells #[.int .i64 x] 3)).heap.size:=by simp
  have HAL:=zH hal
  have HS7:=zH (SlV.one (f:=intC) (q:=1) (x:=x) (fun _=>rfl) hs7 hb7 (by omega))
  clear hal hb7 hs7
  have hsz2:w2.heap.size<=(wr.alloc (.cells #[.int .i64 x] 3)).heap.size:=Nat.le_trans HR.out.kp.size HAL.out.size
  cases t with
  |true=>
   simp only[Bool.not_true,Bool.false_eq_true,if_false,List.append_nil,if_true]at HS1 HS2
   go_wp2_with (first
    |(go_at_call 79;refine(pK Bb ba bn bc bad x _ HW1.out.1 HW1.out.2).mono ?_;rintro e w' ⟨rfl,rfl⟩;rw[HT.out])
    |(at_builtin;refine wpList_plain rfl (fun K hK=>?_);refine dN (f:=intC) (k:=1) (.tmp 18) (.tmp 20) 22 rfl w2.heap.size 3 i0 (.int .i64 0) 8 Tryz.underlying22 hi0 hz0 hz1 hz2 rfl (by decide) (fun _=>rfl) rE _ ((l.take j).filter (fun x=>Tp.has bad x)) [x] (some ⟨wr.heap.size,0,none⟩) 1 1 rfl (HR.out.ob.keep HAL.out) rfl HS7.out (fun e=>by cases e) (by unfold maxLen;omega) (by omega) hsz2 ?_;intro v w8 hv hg ha;refine hK _ _ ?_;obtain⟨ya',yn',yc',rfl,hbx,hD⟩:=HR.out.pushB HAL.out hv hg ha;have HD:=zH hD;have z0:w8.cell? (m22 w)=some (.slice ga gn gc):=cA hbx 0;have z1:w8.cell? (m29 w)=some (.slice ya yn yc):=cA hbx 1;have f1:=cH hbx 1;clear hD hbx hv hg ha))
   exact⟨⟨j+1,ga,gn,gc,ya',yn',yc',by omega,by go_num,by rw[HS1.out,HS2.out];exact HD.out⟩,by simp[intOf];omega⟩
  |false=>
   simp only[Bool.not_false,Bool.false_eq_true,if_false,List.append_nil,if_true]at HS1 HS2
   go_wp2_with (first
    |(go_at_call 79;refine(pK Bb ba bn bc bad x _ HW1.out.1 HW1.out.2).mono ?_;rintro e w' ⟨rfl,rfl⟩;rw[HT.out])
    |(at_builtin;refine wpList_plain rfl (fun K hK=>?_);refine dN (f:=intC) (k:=1) (.tmp 24) (.tmp 26) 22 rfl w2.heap.size 3 i0 (.int .i64 0) 8 Tryz.underlying22 hi0 hz0 hz1 hz2 rfl (by decide) (fun _=>rfl) rE _ ((l.take j).filter (fun x=>!Tp.has bad x)) [x] (some ⟨wr.heap.size,0,none⟩) 1 1 rfl (HR.out.og.keep HAL.out) rfl HS7.out (fun e=>by cases e) (by unfold maxLen;omega) (by omega) hsz2 ?_;intro v w8 hv hg ha;refine hK _ _ ?_;obtain⟨ya',yn',yc',rfl,hbx,hD⟩:=HR.out.pushG HAL.out hv hg ha;have HD:=zH hD;have z0:w8.cell? (m22 w)=some (.slice ga gn gc):=cA hbx 0;have z1:w8.cell? (m29 w)=some (.slice ya yn yc):=cA hbx 1;have f0:=cH hbx 0;clear hD hbx hv hg ha))
   exact⟨⟨j+1,ya',yn',yc',ya,yn,yc,by omega,by go_num,by rw[HS1.out,HS2.out];exact HD.out⟩,by simp[intOf];omega⟩
def Tp.pI (l:List Int) (sd ep nu de:Int) (bad:List Int) (s:Int):Int:=Tp.fU l ep nu de ((Tp.bT l sd ep nu de s).filter (fun x=>!Tp.has bad x))
def Tp.pJ (l:List Int) (sd ep nu de:Int) (bad:List Int) (s:Int):Int:=Tp.fU l ep nu de ((Tp.bT l sd ep nu de s).filter (fun x=>Tp.has bad x))
theorem aAy (a:Option Addr)(n c:Nat)(l:List Int)(sd ep nu de s:Int)(ba:Option Addr)(bn bc:Nat)(bad:List Int)(w:World)(hn:l.length=n)(hm:n<=9223372036854775807)(hsd:0<=sd/\sd<=18446744073709551615)(hl:Ints w a l)(hb:SlV intC 1 w ba bn bc bad)(hk:(Tp.bT l sd ep nu de s).length<=1000000):
  Calls Tryz.prog 40 #[.agg (m05 a n c sd ep nu de),.slice ba bn bc,.int .i64 s] w fun e w'=>e=.returned (.tuple #[.int .i64 (Tp.pI l sd ep nu de bad s),.int .i64 (Tp.pJ l sd ep nu de bad s)])/\Below w.heap.size w w':=by
 obtain⟨K,hK⟩:∃z,Tp.bT l sd ep nu de s=z:=⟨_,rfl⟩
 obtain⟨g1,hg1⟩:∃z,Tp.fU l ep nu de (K.filter (fun x=>!Tp.has bad x))=z:=⟨_,rfl⟩
 obtain⟨g2,hg2⟩:∃z,Tp.fU l ep nu de (K.filter (fun x=>Tp.has bad x))=z:=⟨_,rfl⟩
 have hw1:Tp.pI l sd ep nu de bad s=g1:=by unfold Tp.pI;rw[hK];exact hg1
 have hw2:Tp.pJ l sd ep nu de bad s=g2:=by unfold Tp.pJ;rw[hK];exact hg2
 rw[hw1,hw2]
 have HK:=zH (And.intro hK (show K.length<=1000000 from hK▸hk))
 have HG:=zH (And.intro hg1 hg2)
 have HL:=zH (And.intro hn (And.intro hm (And.intro hsd hl)))
 have HB:=zH hb
 obtain⟨w2,ew2_⟩:∃z,Hid (z=((m28 w a n c sd ep nu de:World).alloc (.cells #[.slice ba bn bc] 22))):=⟨_,zH rfl⟩
 have hal:Below w.heap.size w w2:=by cases ew2_.out;exact cR _ _
 have hb0:w2.heap[w.heap.size]?=some (.cells (m05 a n c sd ep nu de) 25 (0,0)):=by cases ew2_.out;rw[cF,if_neg (by simp),cF,if_pos rfl]
 have hb1:w2.heap[w.heap.size+1]?=some (.cells #[.slice ba bn bc] 22 (0,0)):=by cases ew2_.out;rw[cF,if_pos (by simp)]
 clear hn hm hsd hl hb hk hw1 hw2 hg1 hg2 hK
 go_enter Tryz.func40,Tryz.ntmps40
 go_wp2_with fail
 rw[<-ew2_.out]
 have D2:=zH hal
 have H0:=zH hb0
 have H1:=zH hb1
 obtain⟨x0,x1,x2,x3,x4⟩:=kc5 hb0
 clear hal hb0 hb1
 go_wp2_with fail
 refine(bZ a n c l sd ep nu de s w2 HL.out.1 HL.out.2.1 HL.out.2.2.1 (HL.out.2.2.2.keep D2.out)).mono ?_
 rintro e w3 ⟨v,rfl,hv,hb3⟩
 rw[HK.out.1]at hv
 obtain⟨ka,kc,rfl,hks,-⟩:=OwnL.sl0 (f:=intC) (k:=1) (fun _=>rfl) hv
 have D3:=zH (bS D2.out hb3)
 have HKS:=zH hks
 have H03:=zH (bK hb3 H0.out)
 have H13:=zH (bK hb3 H1.out)
 clear hv hb3 hks x0 x1 x2 x3 x4
 try dsimp only
 go_wp2_with fail
 refine(zL (w.heap.size+1) ba bn bc bad ka K.length kc K w3 HKS.out HK.out.2 (cA H13.out 0) (gS H13.out) (HB.out.keep D3.out)).mono ?_
 rintro e w4 ⟨ga,gn,gc,ya,yn,yc,rfl,h1,h2,hb4⟩
 have D4:=zH (bS D3.out hb4)
 have H04:=zH (bK hb4 H03.out)
 have HP:=zH (And.intro h1 h2)
 clear h1 h2 hb4
 try dsimp only
 go_wp2_with fail
 have hag:∃G,w4.heap.size=G:=⟨_,rfl⟩
 obtain⟨G,hG⟩:=hag
 have hal:Below w4.heap.size w4 (w4.alloc (.cells (m52 ga gn gc ya yn yc) 131)):=(Below.refl _ _).alloc nr _
 have hbG:(w4.alloc (.cells (m52 ga gn gc ya yn yc) 131)).heap[G]?=some (.cells (m52 ga gn gc ya yn yc) 131 (0,0)):=by rw[<-hG];exact heap_alloc_new w4 _
 rw[hG]
 have D5:=zH (bS D4.out hal)
 have P5:=zH (And.intro (HP.out.1.keep hal) (HP.out.2.keep hal))
 have H05:=zH (bK hal H04.out)
 clear hG hal
 generalize(w4.alloc (.cells (m52 ga gn gc ya yn yc) 131))=w5 at D5 P5 H05 hbG⊢
 refine cN [(0,fun W=>W.cell? (m07 w)=some (.slice a n c)/\W.cell? (m14 w)=some (.int .u64 sd)/\W.cell? (m17 w)=some (.int .i64 ep)/\W.cell? (m19 w)=some (.int .i64 nu)/\W.cell? (m27 w)=some (.int .i64 de)),(2,fun W=>W.cell? (m00 G)=some (.slice ga gn gc)),(4,fun W=>W.cell? (m07 w)=some (.slice a n c)/\W.cell? (m14 w)=some (.int .u64 sd)/\W.cell? (m17 w)=some (.int .i64 ep)/\W.cell? (m19 w)=some (.int .i64 nu)/\W.cell? (m27 w)=some (.int .i64 de)),(6,fun W=>W.cell? (m15 G)=some (.slice ya yn yc))] (by kernel_rfl) ?_
 show aB _ _ _ _ _ _ _ _ w5.drew
 have D6:=zH D5.out.drew
 have P6:=zH (And.intro (P5.out.1.keep (Below.refl _ _).drew) (P5.out.2.keep (Below.refl _ _).drew))
 have hb6:=cG (Below.refl w5.heap.size w5).drew (gS hbG) hbG
 have h06:=cG (Below.refl w5.heap.size w5).drew (gS H05.out) H05.out
 clear hbG
 generalize w5.drew=w6 at D6 P6 hb6 h06⊢
 have HB6:=zH (And.intro hb6 h06)
 have HQ:Hid (∀W:World,Below w6.heap.size w6 W->(W.cell? (m07 w)=some (.slice a n c)/\W.cell? (m14 w)=some (.int .u64 sd)/\W.cell? (m17 w)=some (.int .i64 ep)/\W.cell? (m19 w)=some (.int .i64 nu)/\W.cell? (m27 w)=some (.int .i64 de))/\(W.cell? (m00 G)=some (.slice ga gn gc))/\(W.cell? (m15 G)=some (.slice ya yn yc))):=zH (fun W hb=>by
  have e:=bK hb HB6.out.1
  have e1:=bK hb HB6.out.2
  exact⟨⟨cA e1 0,cA e1 1,cA e1 2,cA e1 3,cA e1 4⟩,cA e 0,cA e 1⟩)
 have hq:=HQ.out w6 (Below.refl _ _)
 clear hb6 h06
 refine wY 0 0 rfl rfl (hq.1) ?_
 refine wX 1 rfl ?_
 refine wY 1 2 rfl rfl (hq.2.1) ?_
 refine wY 2 4 rfl rfl (hq.1) ?_
 refine wX 5 rfl ?_
 refine wY 3 6 rfl rfl (hq.2.2) ?_
 refine cK 3 (by kernel_rfl) rfl (fun K hK=>?_)
 go_simp
 refine(jE a n c l sd ep nu de ga gn gc _ w6 HL.out.1 HL.out.2.1 (HL.out.2.2.2.keep D6.out) P6.out.1).mono ?_
 rintro e w7 ⟨rfl,hb7⟩
 rw[HG.out.1]
 have HB7:=zH hb7
 have hq7:=HQ.out w7 hb7
 clear hb7
 refine hK.out _ _ ?_ ?_
 ·exact⟨.inl hq7.1,.inl hq7.2.1,.inl hq7.1,.inl hq7.2.2,trivial⟩
 clear hK K;try simp only[Act.put,pA,pB,pC]
 refine cK 7 (by kernel_rfl) rfl (fun K hK=>?_)
 go_simp
 refine(jE a n c l sd ep nu de ya yn yc _ w7 HL.out.1 HL.out.2.1 (HL.out.2.2.2.keep (bS D6.out HB7.out)) (P6.out.2.keep HB7.out)).mono ?_
 rintro e w8 ⟨rfl,hb8⟩
 rw[HG.out.2]
 have hq8:=HQ.out w8 (bS HB7.out hb8)
 have HF:=zH (bS (bS D6.out HB7.out) hb8)
 clear hb8
 refine hK.out _ _ ?_ ?_
 ·exact⟨.inl hq8.1,.inl hq8.2.1,.inl hq8.1,.inl hq8.2.2,trivial⟩
 clear hK K;try simp only[Act.put,pA,pB,pC]
 refine wX 8 (oi:=⟨some 6,.assign (.tmp 17),3,"audit.go:37",#[⟨3,.data⟩,⟨7,.chain⟩,⟨0,.phase⟩,⟨1,.phase⟩,⟨2,.phase⟩,⟨3,.phase⟩,⟨4,.textOnly .lateStores⟩,⟨5,.textOnly .lateStores⟩,⟨6,.textOnly .lateStores⟩,⟨7,.textOnly .lateStoresUnsure⟩],none⟩) rfl ?_
 refine wX 9 (oi:=⟨some 7,.assign (.tmp 21),3,"audit.go:37",#[⟨7,.data⟩,⟨8,.chain⟩,⟨0,.phase⟩,⟨1,.phase⟩,⟨2,.phase⟩,⟨3,.phase⟩,⟨4,.phase⟩,⟨5,.phase⟩,⟨6,.phase⟩,⟨7,.phase⟩,⟨8,.phase⟩],none⟩) rfl ?_
 refine cO (by kernel_rfl) ?_ _
 try dsimp only
 go_wp2_with fail
 refine bodyPost_ret (v:=.tuple #[.int .i64 g1,.int .i64 g2]) ?_ rfl ⟨rfl,HF.out⟩
 simp[results,Tryz.results40,go_sem]
end Go.Proofs.YtbbhinehcncmeaaGreat
