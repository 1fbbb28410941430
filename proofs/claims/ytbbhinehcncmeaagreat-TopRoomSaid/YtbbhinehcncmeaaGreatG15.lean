/- A part of the proof of the laws of the top: TpBlock, TpGold, TpGoldHead, TpKeep, TpMacB, TpStamp, TpTail, TpView1, TpView2, TpWork, TpWork2. No condition. -/
import Derived.Test.YtbbhinehcncmeaaGreatG13
import Derived.Test.YtbbhinehcncmeaaGreatG14
import Derived.Deep.AppendLies
import Derived.Deep.DeepCutAuto
namespace Go.Proofs.YtbbhinehcncmeaaGreat
open Go.RowKit
set_option linter.unusedSimpArgs false
set_option linter.unusedVariables false
set_option linter.unusedSectionVars false
set_option maxRecDepth 100000
set_option maxHeartbeats 8000000
theorem rH (p:Option Addr)(c:Nat)(fv:Value)(w:World):
  Calls Tryz.prog 122 #[.slice p 0 c,fv] w fun e w'=>e=.returned (m30 (-1))/\w=w':=by
 go_enter Tryz.func122,Tryz.ntmps122
 go_wp2_with fail
 go_loopw [8] (fun i wr=>i=.int .i64 0/\w=wr) (fun i _=>0)
 case atStart=>exact⟨rfl,rfl⟩
 case round=>
  obtain⟨rfl,rfl⟩:=hrel
  go_wp2
  go_ret
  exact⟨rfl,rfl⟩
theorem oW (p:Option Addr)(c:Nat)(fv:Value)(w:World):
  Calls Tryz.prog 149 #[.slice p 0 c,fv] w fun e w'=>e=.returned (m30 (-1))/\w=w':=by
 go_enter Tryz.func149,Tryz.ntmps149
 go_wp2_with fail
 go_loopw [8] (fun i wr=>i=.int .i64 0/\w=wr) (fun i _=>0)
 case atStart=>exact⟨rfl,rfl⟩
 case round=>
  obtain⟨rfl,rfl⟩:=hrel
  go_wp2
  go_ret
  exact⟨rfl,rfl⟩
theorem iZ (p:Option Addr)(c:Nat)(fv:Value)(w:World):
  Calls Tryz.prog 105 #[.slice p 0 c,fv] w fun e w'=>e=.returned (.slice p 0 c)/\w=w':=by
 go_enter Tryz.func105,Tryz.ntmps105
 go_wp2_with (go_at_call 122;refine(rH _ _ _ _).mono ?_;rintro e w1 ⟨rfl,rfl⟩)
 go_ret
 exact⟨rfl,rfl⟩
theorem rP (p:Option Addr)(c:Nat)(fv:Value)(w:World):
  Calls Tryz.prog 132 #[.slice p 0 c,fv] w fun e w'=>e=.returned (.slice p 0 c)/\w=w':=by
 go_enter Tryz.func132,Tryz.ntmps132
 go_wp2_with (go_at_call 149;refine(oW _ _ _ _).mono ?_;rintro e w1 ⟨rfl,rfl⟩)
 go_ret
 exact⟨rfl,rfl⟩
theorem Tp.vR {α:Type}(p:α->Bool)(r:Nat->Bool):∀(l:List α) (i:Nat),(∀k (h:k<l.length),r (i+k)=p l[k])->Tp.kept r i l=l.filter (fun x=>!p x):=by
 intro l
 induction l with
 |nil=>intro i _;rfl
 |cons x xs ih=>
  intro i h
  have h0:=h 0 (by simp)
  rw[Nat.add_zero,List.getElem_cons_zero]at h0
  rw[Tp.kept,h0,List.filter_cons,ih (i+1) (fun k hk=>by
   have:=h (k+1) (by simpa using hk)
   rw[List.getElem_cons_succ]at this
   rw[<-this]
   congr 1
   omega)]
  cases p x<;>rfl
theorem aGx (a:Option Addr)(n c:Nat)(com:List Int)(who sl p q:Int)(w:World)(h:SlV intC 1 w a n c com):
  Calls Tryz.prog 104 #[.slice a n c,.agg (m12 who sl p q)] w fun e w'=>e=.returned (.bool (!Tp.has com who))/\Below w.heap.size w w':=by
 have h1:=h.alloc (.cells (m12 who sl p q) 84)
 have hb1:Below w.heap.size w (w.alloc (.cells (m12 who sl p q) 84)):=(Below.refl _ _).alloc nr _
 go_enter Tryz.func104,Tryz.ntmps104
 go_wp2_with (go_at_call 121;refine(lN a n c com who _ h1).mono ?_;rintro e w2 ⟨rfl,rfl⟩)
 go_ret
 exact⟨rfl,hb1⟩
theorem OwnL.other {α:Type}{f:α->List Value}{k:Nat}{e:TypeId}{w w':World}{base rb:Nat}{v:Value}{l:List α}(h:OwnL f k e w base v l)(hb:rb<base)(hg:w.grownBy w' (some rb)):OwnL f k e w' base v l:=
 ⟨h.1,h.2.imp id (fun⟨g,cap,cur,hv,hgb,hh,r⟩=>⟨g,cap,cur,hv,hgb,by
  have hlt:=(gS hh)
  rw[mN hg hlt (by rw[ne_eq,Option.some.injEq];omega)]
  exact hh,r⟩)⟩
theorem OwnL.row {α:Type}{f:α->List Value}{k:Nat}{e:TypeId}{w:World}{base:Nat}{v:Value}{l:List α}(h:OwnL f k e w base v l)(h0:0<l.length):
  ∃g cap cur,v=.slice (some (m00 g)) l.length cap/\base<=g/\w.heap[g]?=some (.cells cur e (0,0))/\l.length<=cap/\cap<=maxLen/\cur.size=cap*k/\cur.toList.take (l.length*k)=l.flatMap f:=by
 rcases h.2 with⟨_,h1⟩|h1
 ·omega
 ·exact h1
theorem Tp.mU (vs:List Tp.V)(slot:Int):(Tp.dR vs slot).length<=vs.length:=by
 unfold Tp.dR
 rw[(Tp.eL _).length_eq]
 exact Nat.le_trans (Tp.qQ _ _ _) (Tp.yI _)
def Tp.gM (W:List Int) (sd ep nu de:Int) (vs:List Tp.V) (slot:Int):List Tp.V:=(Tp.dR vs slot).filter (fun v=>Tp.has (Tp.bT W sd ep nu de slot) v.who)
theorem nZ (w0:World)(X rb c n cw nw:Nat)(aw:Option Addr)(com:List Int)(l:List Tp.V)(cur:Array Value)(w:World)(hn:l.length=n)(hc:n<=c)(hcm:c<=9223372036854775807)(hrow:w.heap[rb]?=some (.cells cur 84 (0,0)))(hcur:cur.toList.take (n*4)=l.flatMap aH)(hown:OwnL intC 1 3 w X (m63 aw nw cw) com)(hrb:rb<X)(hX:X<=w.heap.size)(hb0:w0.heap.size<=rb)(hbel:Below w0.heap.size w0 w):
  Calls Tryz.prog 105 #[.slice (some (m00 rb)) n c,.func (.func 104) #[.slice aw nw cw] #[]] w fun e w'=>
   ∃m,e=.returned (.slice (some (m00 rb)) m c)/\SlV aH 4 w' (some ⟨rb,0,none⟩) m c (l.filter (fun v=>Tp.has com v.who))/\Below w0.heap.size w0 w':=by
 have eg:∀args w,(callFunc 104 args).run Tryz.prog w=.ok (.enter 104 args) w:=enters_of Tryz.func104 (by kernel_rfl) rfl
 have hrl:=(gS hrow)
 have hk:=Tp.vR (fun v:Tp.V=>!Tp.has com v.who) (fun k=>!Tp.has com ((l[k]?.map Tp.V.who).getD 0)) l 0 (fun k h=>by rw[Nat.zero_add,List.getElem?_eq_getElem h];rfl)
 simp only[Bool.not_not]at hk
 refine(oE 104 #[.slice aw nw cw] #[] rb c n l cur _ (fun _ W=>OwnL intC 1 3 W X (m63 aw nw cw) com/\Below w0.heap.size w0 W/\X<=W.heap.size) (fun k=>!Tp.has com ((l[k]?.map Tp.V.who).getD 0)) w ⟨eg,?_⟩ ?_ hn hc hcm hrow hcur ⟨hown,hbel,hX⟩).mono ?_
 ·intro k hkl W hI
  obtain⟨⟨who,sl,p,q⟩,hX⟩:∃x,l[k]=x:=⟨_,rfl⟩
  obtain⟨a',c',he,hs⟩:=hI.1.sl dQ
  obtain⟨rfl,rfl,rfl⟩:=Value.slice.inj he
  simp only[List.getElem?_eq_getElem hkl,hX,Option.map_some,Option.getD_some]
  refine(aGx _ _ _ com who sl p q W hs).mono ?_
  rintro e W' ⟨rfl,hb⟩
  refine⟨rfl,⟨hI.1.keep hb,hI.2.1.trans (hb.mono hI.2.1.size),Nat.le_trans hI.2.2 hb.size⟩,hb.block rb (by omega),hb.size,?_⟩
  rintro W0 o rfl _
  exact(hb.block _ (by simp)).trans (heap_alloc_new W0 o)
 ·intro k W W' hI hg
  exact⟨hI.1.other hrb hg,hI.2.1.trans (iG hg hI.2.1.size (fun k e=>by cases e;exact hb0)),Nat.le_trans hI.2.2 (eQ hg)⟩
 ·rintro e w' ⟨cur',rfl,h1,h2,h3,h4,h5⟩
  rw[hk]at h3⊢
  refine⟨_,rfl,⟨rfl,?_,hcm,.inr ⟨rb,0,rfl,by omega,fun i hi j hj=>?_⟩⟩,h4.2.1⟩
  ·refine Nat.le_trans (List.length_filter_le _ _) (by omega)
  ·rw[Nat.zero_add,cA h1]
   have e1:=dZ (fun x=>cW x) _ i j hi hj
   rw[<-h3,List.getElem?_take_of_lt (by omega),Array.getElem?_toList]at e1
   exact e1
theorem aAc (aw:Option Addr)(nw cw:Nat)(W:List Int)(sd ep nu de:Int)(av:Option Addr)(nv cv:Nat)(vs:List Tp.V)(slot:Int)(w:World)(hw:W.length=nw)(hwm:nw<=9223372036854775807)(hsd:0<=sd/\sd<=18446744073709551615)(hW:Ints w aw W)(hv:SlV aH 4 w av nv cv vs)(hnv:nv<=1000000):
  Calls Tryz.prog 71 #[.agg (m05 aw nw cw sd ep nu de),.slice av nv cv,.int .i64 slot] w fun e w'=>
   ∃a m c,e=.returned (m63 a m c)/\SlV aH 4 w' a m c (Tp.gM W sd ep nu de vs slot)/\m<=nv/\Below w.heap.size w w':=by
 have hb0:Below w.heap.size w (m28 w aw nw cw sd ep nu de):=(Below.refl _ w).alloc nr _
 have hcf:CBox w.heap.size aw nw cw sd ep nu de (m28 w aw nw cw sd ep nu de):=CBox.at_ (heap_alloc_new w _)
 have hs0:w.heap.size<(m28 w aw nw cw sd ep nu de:World).heap.size:=by simp
 have HB:=zH hb0
 have HV:=zH (hv.keep hb0)
 have HW:=zH (hW.keep hb0)
 have HWN:=zH hw
 have HCF:=zH hcf
 clear hb0 hv hW hw hcf
 unfold Tp.gM
 obtain⟨com,hcom⟩:∃x,Tp.bT W sd ep nu de slot=x:=⟨_,rfl⟩
 obtain⟨vo,hvo⟩:∃x,Tp.dR vs slot=x:=⟨_,rfl⟩
 have hvl:vo.length<=nv:=by rw[<-hvo,<-HV.out.len];exact Tp.mU vs slot
 rw[hcom,hvo]
 have HCOM:=zH hcom
 have HVO:=zH hvo
 clear hcom hvo
 rcases Nat.eq_zero_or_pos vo.length with h0|h0
 ·have hvo0:vo=[]:=List.length_eq_zero_iff.1 h0
  subst hvo0
  go_enter Tryz.func71,Tryz.ntmps71
  go_wp2_with (first
   |(go_at_call 103;refine(qH av nv cv vs slot _ HV.out hnv).mono ?_;rintro e w1 ⟨v,rfl,own,hb1⟩;rw[HVO.out]at own;obtain⟨va,vc0,rfl,vsl⟩:=own.sl cW;obtain⟨x0,x1,x2,x3,x4⟩:=HCF.out.below hb1 hs0;have hz1:=Nat.lt_of_lt_of_le hs0 hb1.size;have hcp:=Nat.le_trans vsl.cap vsl.top)
   |(go_at_call 78;refine(bZ aw nw cw W sd ep nu de slot _ HWN.out hwm hsd (HW.out.below hb1 nr)).mono ?_;rintro e w2 ⟨vc,rfl,ownc,hb2⟩;rw[HCOM.out]at ownc;obtain⟨ca,cc,rfl,cs⟩:=ownc.sl dQ)
   |(go_at_call 105;refine(iZ _ _ _ _).mono ?_;rintro e w3 ⟨rfl,rfl⟩))
  go_ret
  exact⟨_,_,_,rfl,⟨rfl,Nat.le_refl _,by omega,.inl rfl⟩,Nat.zero_le _,bS HB.out (hb1.trans (hb2.mono hb1.size))⟩
 ·have HVL:=zH hvl
  go_enter Tryz.func71,Tryz.ntmps71
  go_wp2_with (first
   |(go_at_call 103;refine(qH av nv cv vs slot _ HV.out hnv).mono ?_;rintro e w1 ⟨v,rfl,own,hb1⟩;rw[HVO.out]at own;obtain⟨g,cap,cur,rfl,hg,hh,hnc,hcm,hsz,htk⟩:=own.row h0;obtain⟨x0,x1,x2,x3,x4⟩:=HCF.out.below hb1 hs0;have hz1:=Nat.lt_of_lt_of_le hs0 hb1.size;have hgl:=(gS hh);have hcp:cap<=9223372036854775807:=hcm;have hgs:=Nat.lt_of_lt_of_le hs0 hg)
   |(go_at_call 78;refine(bZ aw nw cw W sd ep nu de slot _ HWN.out hwm hsd (HW.out.below hb1 nr)).mono ?_;rintro e w2 ⟨vc,rfl,ownc,hb2⟩;rw[HCOM.out]at ownc;obtain⟨ca,cc,rfl,cs⟩:=ownc.sl dQ)
   |(go_at_call 105;refine(nZ w w1.heap.size g vo.length vo.length cc com.length ca com vo cur _ rfl nr (by omega) ((hb2.block g hgl).trans hh) htk ownc hgl hb2.size (Nat.le_of_lt hgs) (bS HB.out (hb1.trans (hb2.mono hb1.size)))).mono ?_;rintro e w3 ⟨m,rfl,hs3,hb3⟩))
  go_ret
  exact⟨_,_,_,rfl,hs3,Nat.le_trans (by rw[<-hs3.len];exact List.length_filter_le _ _) HVL.out,hb3⟩
def kC (N:Nat) (aw:Option Addr) (nw cw:Nat) (sd ep nu de:Int) (ab:Option Addr) (nb cb:Nat) (av:Option Addr) (nv cv:Nat) (w:World):Prop:=
 w.cell? (m00 N)=some (.slice aw nw cw)/\w.cell? (m15 N)=some (.int .u64 sd)/\w.cell? (m25 N)=some (.int .i64 ep)/\w.cell? (m33 N)=some (.int .i64 nu)/\w.cell? (m35 N)=some (.int .i64 de)/\w.cell? (m66 N)=some (.slice ab nb cb)/\w.cell? ⟨N+1,1,none⟩=some (.slice av nv cv)
theorem kC.below {N M:Nat}{aw:Option Addr}{nw cw:Nat}{sd ep nu de:Int}{ab:Option Addr}{nb cb:Nat}{av:Option Addr}{nv cv:Nat}{w w':World}(h:kC N aw nw cw sd ep nu de ab nb cb av nv cv w)(hb:Below M w w')(hM:N+1<M):kC N aw nw cw sd ep nu de ab nb cb av nv cv w':=
 ⟨(hb.cell (p:=(m00 N)) (Nat.lt_of_succ_lt hM)).trans h.1,(hb.cell (p:=(m15 N)) (Nat.lt_of_succ_lt hM)).trans h.2.1,(hb.cell (p:=(m25 N)) (Nat.lt_of_succ_lt hM)).trans h.2.2.1,(hb.cell (p:=(m33 N)) (Nat.lt_of_succ_lt hM)).trans h.2.2.2.1,(hb.cell (p:=(m35 N)) (Nat.lt_of_succ_lt hM)).trans h.2.2.2.2.1,(hb.cell (p:=(m66 N)) hM).trans h.2.2.2.2.2.1,(hb.cell (p:=⟨N+1,1,none⟩) hM).trans h.2.2.2.2.2.2⟩
structure aP (w:World) (aw:Option Addr) (nw:Nat) (W:List Int) (sd:Int):Prop where
 len:W.length=nw
 max:nw<=9223372036854775807
 seed:0<=sd/\sd<=18446744073709551615
 ints:Ints w aw W
theorem aP.below {w w':World}{aw:Option Addr}{nw:Nat}{W:List Int}{sd:Int}{B:Nat}(h:aP w aw nw W sd)(hb:Below B w w')(hB:w.heap.size<=B):aP w' aw nw W sd:=⟨h.len,h.max,h.seed,h.ints.below hb hB⟩
theorem aP.keep {w w':World}{aw:Option Addr}{nw:Nat}{W:List Int}{sd:Int}(h:aP w aw nw W sd)(hb:Below w.heap.size w w'):aP w' aw nw W sd:=h.below hb nr
structure mD (w:World) (ab:Option Addr) (nb cb:Nat) (l:List Tp.B) (av:Option Addr) (nv cv:Nat) (vs:List Tp.V):Prop where
 b:SlV aK 5 w ab nb cb l
 v:SlV aH 4 w av nv cv vs
 u:∀x∈l,x.U
 bm:nb<=1000000
 vm:nv<=1000000
theorem mD.below {w w':World}{ab:Option Addr}{nb cb:Nat}{l:List Tp.B}{av:Option Addr}{nv cv:Nat}{vs:List Tp.V}{B:Nat}(h:mD w ab nb cb l av nv cv vs)(hb:Below B w w')(hB:w.heap.size<=B):mD w' ab nb cb l av nv cv vs:=⟨h.b.below hb hB,h.v.below hb hB,h.u,h.bm,h.vm⟩
theorem mD.keep {w w':World}{ab:Option Addr}{nb cb:Nat}{l:List Tp.B}{av:Option Addr}{nv cv:Nat}{vs:List Tp.V}(h:mD w ab nb cb l av nv cv vs)(hb:Below w.heap.size w w'):mD w' ab nb cb l av nv cv vs:=h.below hb nr
theorem dO {w:World}(o1 o2 o3:Obj):Below w.heap.size w (((w.alloc o1).alloc o2).alloc o3):=(cR _ _).alloc (by simp only[World.size_alloc];omega) _
def Tp.iH (W:List Int) (sd ep nu de:Int) (l:List Tp.B) (vs:List Tp.V) (slot:Int):Int×Int:=Tp.head W ep nu de l (Tp.gM W sd ep nu de vs slot)
theorem iY (aw:Option Addr)(nw cw:Nat)(W:List Int)(sd ep nu de:Int)(ab:Option Addr)(nb cb:Nat)(l:List Tp.B)(av:Option Addr)(nv cv:Nat)(vs:List Tp.V)(slot:Int)(w:World)(hC:aP w aw nw W sd)(hV:mD w ab nb cb l av nv cv vs):
  Calls Tryz.prog 31 #[.agg (m05 aw nw cw sd ep nu de),.agg (m52 ab nb cb av nv cv),.int .i64 slot] w fun e w'=>
   e=.returned (.agg #[.int .u64 (Tp.iH W sd ep nu de l vs slot).1,.int .u64 (Tp.iH W sd ep nu de l vs slot).2])/\Below w.heap.size w w':=by
 unfold Tp.iH
 obtain⟨gl,hgl⟩:∃g,Tp.gM W sd ep nu de vs slot=g:=⟨_,rfl⟩
 obtain⟨⟨h0,h1⟩,hh⟩:∃x,Tp.head W ep nu de l gl=x:=⟨_,rfl⟩
 rw[hgl,hh]
 have HGL:=zH hgl
 have HH:=zH hh
 clear hgl hh
 have hb3:Below w.heap.size w (((m28 w aw nw cw sd ep nu de:World).alloc (.cells (m52 ab nb cb av nv cv) 38)).alloc (.cells (m26) 40)):=dO _ _ _
 have hs3:w.heap.size+2<(((m28 w aw nw cw sd ep nu de:World).alloc (.cells (m52 ab nb cb av nv cv) 38)).alloc (.cells (m26) 40)).heap.size:=by simp
 have hx:kC w.heap.size aw nw cw sd ep nu de ab nb cb av nv cv (((m28 w aw nw cw sd ep nu de:World).alloc (.cells (m52 ab nb cb av nv cv) 38)).alloc (.cells (m26) 40)):=
  ⟨cU w _ _ _ _ 0,cU w _ _ _ _ 1,cU w _ _ _ _ 2,cU w _ _ _ _ 3,cU w _ _ _ _ 4,fE w _ _ _ _ 0,fE w _ _ _ _ 1⟩
 have hr:(((m28 w aw nw cw sd ep nu de:World).alloc (.cells (m52 ab nb cb av nv cv) 38)).alloc (.cells (m26) 40)).heap[w.heap.size+2]?=some (.cells (m26) 40 (0,0)):=by rw[cF,if_pos (by simp)]
 go_enter Tryz.func31,Tryz.ntmps31
 go_wp2_with fail
 generalize((m28 w aw nw cw sd ep nu de:World).alloc (.cells (m52 ab nb cb av nv cv) 38)).alloc (.cells (m26) 40)=w1 at hb3 hs3 hx hr⊢
 obtain⟨x0,x1,x2,x3,x4,x5,x6⟩:=id hx
 have HC:=zH (hC.keep hb3.drew)
 have HV:=zH (hV.keep hb3.drew)
 have HB3:=zH hb3
 clear hC hV hb3
 go_region_held3 (fun w'=>w'.cell? (m07 w)=some (.slice aw nw cw)/\w'.cell? (m14 w)=some (.int .u64 sd)/\w'.cell? (m17 w)=some (.int .i64 ep)/\w'.cell? (m19 w)=some (.int .i64 nu)/\w'.cell? (m27 w)=some (.int .i64 de)/\w'.cell? (m22 w)=some (.slice ab nb cb)/\w'.cell? (m29 w)=some (.slice av nv cv))
  (first|exact hx|exact hx2|exact hx3|exact hx4 _ _)
  (first
   |(go_at_call 71;refine(aAc aw nw cw W sd ep nu de av nv cv vs slot _ HC.out.len HC.out.max HC.out.seed HC.out.ints HV.out.v HV.out.vm).mono ?_;rintro e w2 ⟨ga,gm,gc,rfl,gs,gmv,hb2⟩;rw[HGL.out]at gs;have hx2:kC w.heap.size aw nw cw sd ep nu de ab nb cb av nv cv w2:=kC.below (w:=w1.drew) hx hb2 (Nat.lt_of_succ_lt hs3))
   |(go_at_call 70;refine(aGw aw nw cw W sd ep nu de ab nb cb l ga gm gc gl _ HC.out.len HC.out.max (HC.out.ints.keep hb2) HV.out.b.len HV.out.bm HV.out.u (HV.out.b.rows.blks.keep hb2) gs (Nat.le_trans gmv HV.out.vm)).mono ?_;rintro e w3 ⟨rfl,hb3⟩;rw[HH.out];have hbx:=hb2.trans (hb3.mono hb2.size);have hx3:kC w.heap.size aw nw cw sd ep nu de ab nb cb av nv cv w3:=kC.below (w:=w1.drew) hx hbx (Nat.lt_of_succ_lt hs3);have hr3:=cG hbx hs3 hr;have r0:w3.cell? (m45 w)=some (.int .u64 0):=cA hr3 0;have r1:w3.cell? (m54 w)=some (.int .u64 0):=cA hr3 1;have f0:=cH hr3 0;have f1:=cH hr3 1;have hx4:∀x y,kC w.heap.size aw nw cw sd ep nu de ab nb cb av nv cv ((w3.setCell (m45 w) x).setCell (m54 w) y):=fun x y=>kC.below (M:=w.heap.size+2) (w:=w3) hx3 (((Below.refl _ w3).setCell (p:=(m45 w)) nr x).setCell (p:=(m54 w)) nr y) (Nat.lt_succ_self _)))
 go_wp2
 have T:=set2 w3 (w.heap.size+2) _ _ (m68 h0) (m68 h1) _ hr3
 refine bodyPost_ret (v:=.agg (m08 h0 h1)) ?_ rfl ⟨rfl,(bS HB3.out.drew hbx).trans (T.below (Nat.le_add_right _ _))⟩
 simp[results,Tryz.results31,go_sem,r0,r1]
namespace Tp
structure Cf where
 W:List Int
 sd:Int
 ep:Int
 nu:Int
 de:Int
def dL {α:Type} [DecidableEq α] (a b:List α):List α:=b.foldl (fun o x=>if has o x then o else o++[x]) a
theorem pH {α:Type} [DecidableEq α] (a b:List α) (j:Nat) (h:j<b.length):dL a (b.take (j+1))=if has (dL a (b.take j)) b[j]then dL a (b.take j)else dL a (b.take j)++[b[j]]:=by
 unfold dL
 rw[List.take_succ_eq_append_getElem h,List.foldl_append]
 try rfl
theorem kD {α:Type} [DecidableEq α] (b:List α):∀a:List α,(dL a b).length<=a.length+b.length:=by
 induction b with
 |nil=>intro a;exact Nat.le_refl _
 |cons x r ih=>
  intro a
  show(dL _ r).length<=_
  refine Nat.le_trans (ih _) ?_
  rw[List.length_cons]
  show(if has a x then a else a++[x]).length+r.length<=_
  split
  ·omega
  ·rw[List.length_append];simp only[List.length_cons,List.length_nil];omega
def bM (c:Cf) (b:B):Bool:=(decide (0<=aCm c.W c.sd c.ep c.nu c.de b.slot)&&decide (aCm c.W c.sd c.ep c.nu c.de b.slot=b.who))&& !decide (name b=(0,0))
def dE (c:Cf) (v:V):Bool:=inC c.W c.sd c.ep c.nu c.de v.slot v.who
end Tp
theorem dS {α:Type}(p:α->Bool)(l:List α)(j:Nat)(h:j<l.length):(l.take (j+1)).filter p=(l.take j).filter p++(if p l[j]then[l[j]]else[]):=by
 rw[List.take_succ_eq_append_getElem h,List.filter_append]
 congr 1
 by_cases e:p l[j]=true<;>simp[e]
theorem bL {α:Type}(p:α->Bool)(l:List α)(j n:Nat)(h:j<=n):((l.take j).filter p).length<=n:=Nat.le_trans (List.length_filter_le _ _) (Nat.le_trans (by rw[List.length_take];omega) h)
theorem pL (aw:Option Addr)(nw cw:Nat)(W:List Int)(sd ep nu de:Int)(s f p q t:Int)(w:World)(hC:aP w aw nw W sd)(hU:Tp.B.U ⟨s,f,p,q,t⟩):
  Calls Tryz.prog 92 #[.agg (m05 aw nw cw sd ep nu de),.agg (m11 s f p q t)] w fun e w'=>e=.returned (.bool (Tp.bM ⟨W,sd,ep,nu,de⟩ ⟨s,f,p,q,t⟩))/\Below w.heap.size w w':=by
 have hb2:Below w.heap.size w ((m28 w aw nw cw sd ep nu de:World).alloc (.cells (m11 s f p q t) 56)):=cR _ _
 have HC:=zH (hC.keep hb2)
 have HB:=zH hb2
 have bx:=mY w (.cells (m05 aw nw cw sd ep nu de) 25) (.cells (m11 s f p q t) 56) (.cells #[] 0)
 have hbx:((m28 w aw nw cw sd ep nu de:World).alloc (.cells (m11 s f p q t) 56)).heap[w.heap.size+1]?=some (.cells (m11 s f p q t) 56 (0,0)):=by rw[cF,if_pos (by simp)]
 have HX:=zH hbx
 clear hC hb2 bx hbx
 obtain⟨⟨x,y⟩,hxy⟩:∃y,Tp.name ⟨s,f,p,q,t⟩=y:=⟨_,rfl⟩
 obtain⟨r,hr⟩:∃r,Tp.aCm W sd ep nu de s=r:=⟨_,rfl⟩
 have hdef:Tp.bM ⟨W,sd,ep,nu,de⟩ ⟨s,f,p,q,t⟩=((decide (0<=r)&&decide (r=f))&& !(decide (x=0)&&decide (y=0))):=by
  unfold Tp.bM
  simp only[hr,hxy,Prod.mk.injEq,Bool.decide_and]
 rw[hdef]
 have HXY:=zH hxy
 have HR:=zH hr
 clear hdef hxy hr
 obtain⟨b1,g1⟩:∃b,decide (0<=r)=b:=⟨_,rfl⟩
 have k1:decide (r≥0)=b1:=g1
 obtain⟨b2,g2⟩:∃b,decide (r=f)=b:=⟨_,rfl⟩
 have k2:(r==f)=b2:=by rw[<-g2];rfl
 obtain⟨b3,g3⟩:∃b,decide (x=0)=b:=⟨_,rfl⟩
 have k3:(x==0)=b3:=by rw[<-g3];rfl
 obtain⟨b4,g4⟩:∃b,decide (y=0)=b:=⟨_,rfl⟩
 have k4:(y==0)=b4:=by rw[<-g4];rfl
 rw[g1,g2,g3,g4]
 have e:=fun w=>tX x y 0 0 w
 rw[k3,k4]at e
 go_enter Tryz.func92,Tryz.ntmps92
 cases b1 with
 |false=>
  go_wp2_with (go_at_call 49;refine(gA aw nw cw W sd ep nu de s _ HC.out.len HC.out.max HC.out.seed HC.out.ints).mono ?_;rintro e w1 ⟨rfl,hb1⟩;rw[HR.out];have bel:=bS HB.out hb1)
  go_ret
  exact⟨rfl,bel⟩
 |true=>
  cases b2 with
  |false=>
   go_wp2_with (go_at_call 49;refine(gA aw nw cw W sd ep nu de s _ HC.out.len HC.out.max HC.out.seed HC.out.ints).mono ?_;rintro e w1 ⟨rfl,hb1⟩;rw[HR.out];have bel:=bS HB.out hb1;have bx1:=cG hb1 (by simp) HX.out;have c1:w1.cell? (m29 w)=some (.int .i64 f):=cA bx1 1)
   go_ret
   exact⟨rfl,bel⟩
  |true=>
   go_wp2_with (first
    |(go_at_call 49;refine(gA aw nw cw W sd ep nu de s _ HC.out.len HC.out.max HC.out.seed HC.out.ints).mono ?_;rintro e w1 ⟨rfl,hb1⟩;rw[HR.out];have bel:=bS HB.out hb1;have bx1:=cG hb1 (by simp) HX.out;have c0:w1.cell? (m22 w)=some (.int .i64 s):=cA bx1 0;have c1:w1.cell? (m29 w)=some (.int .i64 f):=cA bx1 1;have c2:w1.cell? ⟨w.heap.size+1,2,none⟩=some (.int .u64 p):=cA bx1 2;have c3:w1.cell? ⟨w.heap.size+1,3,none⟩=some (.int .u64 q):=cA bx1 3;have c4:w1.cell? ⟨w.heap.size+1,4,none⟩=some (.int .u64 t):=cA bx1 4)
    |(go_at_call 18;refine(gD s f p q t _ hU.1 hU.2.1 hU.2.2 x y HXY).mono ?_;rintro e w2 ⟨rfl,hb2⟩))
   go_ret
   exact⟨by simp,bS bel hb2⟩
theorem sH (aw:Option Addr)(nw cw:Nat)(W:List Int)(sd ep nu de:Int)(f s p q:Int)(w:World)(hC:aP w aw nw W sd):
  Calls Tryz.prog 94 #[.agg (m05 aw nw cw sd ep nu de),.agg (m12 f s p q)] w fun e w'=>e=.returned (.bool (Tp.dE ⟨W,sd,ep,nu,de⟩ ⟨f,s,p,q⟩))/\Below w.heap.size w w':=by
 have hb2:Below w.heap.size w ((m28 w aw nw cw sd ep nu de:World).alloc (.cells (m12 f s p q) 84)):=cR _ _
 have HC:=zH (hC.keep hb2)
 have HB:=zH hb2
 clear hC hb2
 unfold Tp.dE
 go_enter Tryz.func94,Tryz.ntmps94
 go_wp2_with (go_at_call 99;refine(aIg aw nw cw W sd ep nu de s f _ HC.out.len HC.out.max HC.out.seed HC.out.ints).mono ?_;rintro e w1 ⟨rfl,hb1⟩;have bel:=bS HB.out hb1)
 go_ret
 exact⟨rfl,bel⟩
theorem sA (a:Option Addr)(n c:Nat)(l:List Tp.V)(a2:Option Addr)(n2 c2:Nat)(l2:List Tp.V)(w:World)(h:SlV aH 4 w a n c l)(h0:a=none->n=0/\c=0)(h2:SlV aH 4 w a2 n2 c2 l2)(hm:n<=1000000)(hm2:n2<=1000000):
  Calls Tryz.prog 90 (m52 a n c a2 n2 c2) w fun e w'=>∃v,e=.returned v/\OwnL aH 4 84 w' w.heap.size v (Tp.dL l l2)/\Below w.heap.size w w':=by
 obtain⟨i0,hi,hz0,hz1,hz2⟩:=info_parts jI
 have HL:=zH h.len
 have H2:=zH h2
 have HC:=zH (fG a n c l w h hm h0)
 clear h h2 h0
 go_enter Tryz.func90,Tryz.ntmps90
 go_wp2_with (go_at_call 82;refine HC.out.mono ?_;rintro e w1 ⟨v0,rfl,own0,hb1⟩)
 go_loopw [5,12] (fun v i wr=>∃j:Nat,j<=n2/\i=.int .i64 j/\OwnL aH 4 84 wr w.heap.size v (Tp.dL l (l2.take j))/\Below w.heap.size w wr) (fun _ i _=>n2-(intOf i).toNat)
 case atStart=>exact⟨0,Nat.zero_le _,rfl,own0,hb1⟩
 case round=>
  obtain⟨j,hj,rfl,hown,hbel⟩:=hrel
  have HB:=zH hbel
  clear hbel
  by_cases hjn:j<n2
  case neg=>
   obtain rfl:j=n2:=by omega
   have hfin:l2.take j=l2:=List.take_of_length_le (by rw[H2.out.len];exact Nat.le_refl _)
   rw[hfin]at hown
   go_wp2
   go_ret
   exact⟨_,rfl,hown,HB.out⟩
  have hjl:j<l2.length:=by rw[H2.out.len];exact hjn
  have hsn:=Tp.pH l l2 j hjl
  rcases H2.out.rows with h0|⟨b,o,rfl,hlt,hc⟩
  ·omega
  have hx:∀i,i<4->wr.cell? (m09 b (o+j*4+i))=(aH l2[j])[i]?:=fun i hi=>(HB.out.cell (p:=⟨b,_,none⟩) hlt).trans (hc j hjl i hi)
  obtain⟨⟨x0,x1,x2,x3⟩,hX⟩:∃x,l2[j]=x:=⟨_,rfl⟩
  rw[hX]at hx hsn
  have c0:wr.cell? (m09 b (o+j*4))=some (.int .i64 x0):=hx 0 (by omega)
  have c1:wr.cell? (m09 b (o+j*4+1))=some (.int .i64 x1):=hx 1 (by omega)
  have c2:wr.cell? (m09 b (o+j*4+2))=some (.int .u64 x2):=hx 2 (by omega)
  have c3:wr.cell? (m09 b (o+j*4+3))=some (.int .u64 x3):=hx 3 (by omega)
  have hln:(Tp.dL l (l2.take j)).length<=2000000:=Nat.le_trans (Tp.kD _ _) (by rw[List.length_take,HL.out];omega)
  obtain⟨pre,hpre⟩:∃x,Tp.dL l (l2.take j)=x:=⟨_,rfl⟩
  rw[hpre]at hown hsn hln
  obtain⟨va,vc,rfl,vsl⟩:=hown.sl cW
  obtain⟨t,ht⟩:∃t,Tp.has pre (Tp.V.mk x0 x1 x2 x3)=t:=⟨_,rfl⟩
  rw[ht]at hsn
  have HS:=zH hsn
  have HT:=zH ht
  have HO:=zH hown
  have HV:=zH (vsl.alloc (.cells (m12 x0 x1 x2 x3) 84))
  have k0:(0:Int)<=j:=by omega
  have k1:(j:Int)<n2:=by omega
  have bel1:Below w.heap.size w (wr.alloc (.cells (m12 x0 x1 x2 x3) 84)):=HB.out.alloc HB.out.size _
  have HB1:=zH bel1
  clear hx hX hsn ht hc hpre hown vsl bel1
  cases t with
  |true=>
   go_wp2_with (go_at_call 59;refine(fD va pre.length vc pre x0 x1 x2 x3 _ HV.out).mono ?_;rintro e w2 ⟨rfl,hb2⟩;rw[HT.out])
   refine⟨⟨j+1,by omega,by go_num,?_,HB1.out.trans (hb2.mono HB1.out.size)⟩,by simp[intOf];omega⟩
   rw[HS.out]
   exact(HO.out.keep ((Below.refl _ wr).alloc nr _)).keep hb2
  |false=>
   go_wp2_with (first
    |(go_at_call 59;refine(fD va pre.length vc pre x0 x1 x2 x3 _ HV.out).mono ?_;rintro e w2 ⟨rfl,hb2⟩;rw[HT.out];have own2:=(HO.out.keep ((Below.refl _ wr).alloc nr _)).keep hb2;have bx2:w2.heap[wr.heap.size]?=some (.cells (m12 x0 x1 x2 x3) 84 (0,0)):=cG hb2 (by simp) (heap_alloc_new wr _);have e0:w2.cell? (m07 wr)=some (.int .i64 x0):=cA bx2 0;have e1:w2.cell? (m14 wr)=some (.int .i64 x1):=cA bx2 1;have e2:w2.cell? (m17 wr)=some (.int .u64 x2):=cA bx2 2;have e3:w2.cell? (m19 wr)=some (.int .u64 x3):=cA bx2 3;have bel2:=zH (HB1.out.trans (hb2.mono HB1.out.size));have hsz2:=bel2.out.size)
    |(at_builtin;refine wpList_append_own _ rfl (.tmp 20) (.tmp 22) 36 rfl w.heap.size 84 i0 (.agg (m58)) 4 32 Tryz.underlying36 hi hz0 hz1 hz2 rfl (by decide) _ _ _ rfl (own2.alloc _) (m07 w2) 1 1 (aH (Tp.V.mk x0 x1 x2 x3)) rfl rfl (bE w2 _ _ _ rfl) (gY _) (by unfold maxLen;omega) (by omega) (by simp only[World.size_alloc];omega) ?_;intro v3 w3 hown3 hg3 _))
   refine⟨⟨j+1,by omega,by go_num,?_,OwnL.grown own2 bel2.out nr hsz2 hg3⟩,by simp[intOf];omega⟩
   rw[HS.out]
   exact OwnL.snoc hown3 rfl
theorem qG (a:Option Addr)(n c:Nat)(l:List Tp.B)(a2:Option Addr)(n2 c2:Nat)(l2:List Tp.B)(w:World)(h:SlV aK 5 w a n c l)(h0:a=none->n=0/\c=0)(h2:SlV aK 5 w a2 n2 c2 l2)(hm:n<=1000000)(hm2:n2<=1000000):
  Calls Tryz.prog 89 (m52 a n c a2 n2 c2) w fun e w'=>∃v,e=.returned v/\OwnL aK 5 56 w' w.heap.size v (Tp.dL l l2)/\Below w.heap.size w w':=by
 obtain⟨i0,hi,hz0,hz1,hz2⟩:=info_parts iW
 have HL:=zH h.len
 have H2:=zH h2
 have HC:=zH (eW a n c l w h hm h0)
 clear h h2 h0
 go_enter Tryz.func89,Tryz.ntmps89
 go_wp2_with (go_at_call 81;refine HC.out.mono ?_;rintro e w1 ⟨v0,rfl,own0,hb1⟩)
 go_loopw [5,12] (fun v i wr=>∃j:Nat,j<=n2/\i=.int .i64 j/\OwnL aK 5 56 wr w.heap.size v (Tp.dL l (l2.take j))/\Below w.heap.size w wr) (fun _ i _=>n2-(intOf i).toNat)
 case atStart=>exact⟨0,Nat.zero_le _,rfl,own0,hb1⟩
 case round=>
  obtain⟨j,hj,rfl,hown,hbel⟩:=hrel
  have HB:=zH hbel
  clear hbel
  by_cases hjn:j<n2
  case neg=>
   obtain rfl:j=n2:=by omega
   have hfin:l2.take j=l2:=List.take_of_length_le (by rw[H2.out.len];exact Nat.le_refl _)
   rw[hfin]at hown
   go_wp2
   go_ret
   exact⟨_,rfl,hown,HB.out⟩
  have hjl:j<l2.length:=by rw[H2.out.len];exact hjn
  have hsn:=Tp.pH l l2 j hjl
  rcases H2.out.rows with h0|⟨b,o,rfl,hlt,hc⟩
  ·omega
  have hx:∀i,i<5->wr.cell? (m09 b (o+j*5+i))=(aK l2[j])[i]?:=fun i hi=>(HB.out.cell (p:=⟨b,_,none⟩) hlt).trans (hc j hjl i hi)
  obtain⟨⟨x0,x1,x2,x3,x4⟩,hX⟩:∃x,l2[j]=x:=⟨_,rfl⟩
  rw[hX]at hx hsn
  have c0:wr.cell? (m09 b (o+j*5))=some (.int .i64 x0):=hx 0 (by omega)
  have c1:wr.cell? (m09 b (o+j*5+1))=some (.int .i64 x1):=hx 1 (by omega)
  have c2:wr.cell? (m09 b (o+j*5+2))=some (.int .u64 x2):=hx 2 (by omega)
  have c3:wr.cell? (m09 b (o+j*5+3))=some (.int .u64 x3):=hx 3 (by omega)
  have c4:wr.cell? (m09 b (o+j*5+4))=some (.int .u64 x4):=hx 4 (by omega)
  have hln:(Tp.dL l (l2.take j)).length<=2000000:=Nat.le_trans (Tp.kD _ _) (by rw[List.length_take,HL.out];omega)
  obtain⟨pre,hpre⟩:∃x,Tp.dL l (l2.take j)=x:=⟨_,rfl⟩
  rw[hpre]at hown hsn hln
  obtain⟨va,vc,rfl,vsl⟩:=hown.sl cY
  obtain⟨t,ht⟩:∃t,Tp.has pre (Tp.B.mk x0 x1 x2 x3 x4)=t:=⟨_,rfl⟩
  rw[ht]at hsn
  have HS:=zH hsn
  have HT:=zH ht
  have HO:=zH hown
  have HV:=zH (vsl.alloc (.cells (m11 x0 x1 x2 x3 x4) 56))
  have k0:(0:Int)<=j:=by omega
  have k1:(j:Int)<n2:=by omega
  have bel1:Below w.heap.size w (wr.alloc (.cells (m11 x0 x1 x2 x3 x4) 56)):=HB.out.alloc HB.out.size _
  have HB1:=zH bel1
  clear hx hX hsn ht hc hpre hown vsl bel1
  cases t with
  |true=>
   go_wp2_with (go_at_call 56;refine(eR va pre.length vc pre x0 x1 x2 x3 x4 _ HV.out).mono ?_;rintro e w2 ⟨rfl,hb2⟩;rw[HT.out])
   refine⟨⟨j+1,by omega,by go_num,?_,HB1.out.trans (hb2.mono HB1.out.size)⟩,by simp[intOf];omega⟩
   rw[HS.out]
   exact(HO.out.keep ((Below.refl _ wr).alloc nr _)).keep hb2
  |false=>
   go_wp2_with (first
    |(go_at_call 56;refine(eR va pre.length vc pre x0 x1 x2 x3 x4 _ HV.out).mono ?_;rintro e w2 ⟨rfl,hb2⟩;rw[HT.out];have own2:=(HO.out.keep ((Below.refl _ wr).alloc nr _)).keep hb2;have bx2:w2.heap[wr.heap.size]?=some (.cells (m11 x0 x1 x2 x3 x4) 56 (0,0)):=cG hb2 (by simp) (heap_alloc_new wr _);have e0:w2.cell? (m07 wr)=some (.int .i64 x0):=cA bx2 0;have e1:w2.cell? (m14 wr)=some (.int .i64 x1):=cA bx2 1;have e2:w2.cell? (m17 wr)=some (.int .u64 x2):=cA bx2 2;have e3:w2.cell? (m19 wr)=some (.int .u64 x3):=cA bx2 3;have e4:w2.cell? (m27 wr)=some (.int .u64 x4):=cA bx2 4;have bel2:=zH (HB1.out.trans (hb2.mono HB1.out.size));have hsz2:=bel2.out.size)
    |(at_builtin;refine wpList_append_own _ rfl (.tmp 20) (.tmp 22) 35 rfl w.heap.size 56 i0 (.agg (m53)) 5 40 Tryz.underlying35 hi hz0 hz1 hz2 rfl (by decide) _ _ _ rfl (own2.alloc _) (m07 w2) 1 1 (aK (Tp.B.mk x0 x1 x2 x3 x4)) rfl rfl (bE w2 _ _ _ rfl) (jB _) (by unfold maxLen;omega) (by omega) (by simp only[World.size_alloc];omega) ?_;intro v3 w3 hown3 hg3 _))
   refine⟨⟨j+1,by omega,by go_num,?_,OwnL.grown own2 bel2.out nr hsz2 hg3⟩,by simp[intOf];omega⟩
   rw[HS.out]
   exact OwnL.snoc hown3 rfl
theorem qJ (aw:Option Addr)(nw cw:Nat)(W:List Int)(sd ep nu de:Int)(a:Option Addr)(n c:Nat)(l:List Tp.V)(w:World)(hC:aP w aw nw W sd)(h:SlV aH 4 w a n c l)(hm:n<=1000000)(hU:∀x∈l,True):
  Calls Tryz.prog 93 #[.agg (m05 aw nw cw sd ep nu de),.slice a n c,.func (.func 94) #[] #[]] w fun e w'=>∃v,e=.returned v/\OwnL aH 4 84 w' w.heap.size v (l.filter (Tp.dE ⟨W,sd,ep,nu,de⟩))/\Below w.heap.size w w':=by
 obtain⟨i0,hi,hz0,hz1,hz2⟩:=info_parts jI
 have H2:=zH h
 have HC:=zH hC
 have hb0:Below w.heap.size w (m28 w aw nw cw sd ep nu de):=(Below.refl _ w).alloc nr _
 have hcf:(m28 w aw nw cw sd ep nu de:World).heap[w.heap.size]?=some (.cells (m05 aw nw cw sd ep nu de) 25 (0,0)):=heap_alloc_new w _
 have HU:=zH hU
 clear h hC hU
 go_enter Tryz.func93,Tryz.ntmps93
 go_wp2_with fail
 go_loopw [7,12] (fun v i wr=>∃j:Nat,j<=n/\i=.int .i64 j/\OwnL aH 4 84 wr (w.heap.size+1) v ((l.take j).filter (Tp.dE ⟨W,sd,ep,nu,de⟩))/\Below w.heap.size w wr/\wr.heap[w.heap.size]?=some (.cells (m05 aw nw cw sd ep nu de) 25 (0,0))) (fun _ i _=>n-(intOf i).toNat)
 case atStart=>exact⟨0,Nat.zero_le _,rfl,OwnL.nil _ _ _ _ _,hb0,hcf⟩
 case round=>
  clear hb0 hcf
  obtain⟨j,hj,rfl,hown,hbel,hcf⟩:=hrel
  have HB:=zH hbel
  clear hbel
  by_cases hjn:j<n
  case neg=>
   obtain rfl:j=n:=by omega
   have hfin:l.take j=l:=List.take_of_length_le (by rw[H2.out.len];exact Nat.le_refl _)
   rw[hfin]at hown
   go_wp2
   go_ret
   exact⟨_,rfl,hown.lower (Nat.le_succ _),HB.out⟩
  have hjl:j<l.length:=by rw[H2.out.len];exact hjn
  have hsn:=dS (Tp.dE ⟨W,sd,ep,nu,de⟩) l j hjl
  rcases H2.out.rows with h0|⟨b,o,rfl,hlt,hc⟩
  ·omega
  have hx:∀i,i<4->wr.cell? (m09 b (o+j*4+i))=(aH l[j])[i]?:=fun i hi=>(HB.out.cell (p:=⟨b,_,none⟩) hlt).trans (hc j hjl i hi)
  have hUx:=HU.out _ (List.getElem_mem hjl)
  obtain⟨⟨x0,x1,x2,x3⟩,hX⟩:∃x,l[j]=x:=⟨_,rfl⟩
  rw[hX]at hx hsn
  try rw[hX]at hUx
  have c0:wr.cell? (m09 b (o+j*4))=some (.int .i64 x0):=hx 0 (by omega)
  have c1:wr.cell? (m09 b (o+j*4+1))=some (.int .i64 x1):=hx 1 (by omega)
  have c2:wr.cell? (m09 b (o+j*4+2))=some (.int .u64 x2):=hx 2 (by omega)
  have c3:wr.cell? (m09 b (o+j*4+3))=some (.int .u64 x3):=hx 3 (by omega)
  have hln:((l.take j).filter (Tp.dE ⟨W,sd,ep,nu,de⟩)).length<=1000000:=bL _ _ _ _ (by omega)
  obtain⟨pre,hpre⟩:∃x,(l.take j).filter (Tp.dE ⟨W,sd,ep,nu,de⟩)=x:=⟨_,rfl⟩
  rw[hpre]at hown hsn hln
  obtain⟨t,ht⟩:∃t,Tp.dE ⟨W,sd,ep,nu,de⟩ (Tp.V.mk x0 x1 x2 x3)=t:=⟨_,rfl⟩
  rw[show Tp.dE ⟨W,sd,ep,nu,de⟩ ⟨x0,x1,x2,x3⟩=t from ht]at hsn
  have HS:=zH hsn
  have HT:=zH ht
  have HO:=zH hown
  have k0:(0:Int)<=j:=by omega
  have k1:(j:Int)<n:=by omega
  have bel1:Below w.heap.size w (wr.alloc (.cells (m12 x0 x1 x2 x3) 84)):=HB.out.alloc HB.out.size _
  have HB1:=zH bel1
  have hlt0:w.heap.size<wr.heap.size:=(gS hcf)
  have cb:CBox w.heap.size aw nw cw sd ep nu de wr:=CBox.at_ hcf
  obtain⟨d0,d1,d2,d3,d4⟩:=cb
  have HF:=zH hcf
  have HUx:=zH hUx
  clear hx hX hsn ht hc hpre hown bel1 hcf hUx
  cases t with
  |false=>
   go_wp2_with (go_at_call 94;refine(sH aw nw cw W sd ep nu de x0 x1 x2 x3 _ (HC.out.below HB1.out nr)).mono ?_;rintro e w2 ⟨rfl,hb2⟩;rw[HT.out])
   refine⟨⟨j+1,by omega,by go_num,?_,HB1.out.trans (hb2.mono HB1.out.size),cG hb2 (by simp only[World.size_alloc];omega) ((Below.heap_alloc wr _ _ hlt0).trans HF.out)⟩,by simp[intOf];omega⟩
   rw[HS.out]
   simp only[Bool.false_eq_true,if_false,List.append_nil]
   exact(HO.out.keep ((Below.refl _ wr).alloc nr _)).keep hb2
  |true=>
   go_wp2_with (first
    |(go_at_call 94;refine(sH aw nw cw W sd ep nu de x0 x1 x2 x3 _ (HC.out.below HB1.out nr)).mono ?_;rintro e w2 ⟨rfl,hb2⟩;rw[HT.out];have own2:=(HO.out.keep ((Below.refl _ wr).alloc nr _)).keep hb2;have bx2:w2.heap[wr.heap.size]?=some (.cells (m12 x0 x1 x2 x3) 84 (0,0)):=cG hb2 (by simp) (heap_alloc_new wr _);have e0:w2.cell? (m07 wr)=some (.int .i64 x0):=cA bx2 0;have e1:w2.cell? (m14 wr)=some (.int .i64 x1):=cA bx2 1;have e2:w2.cell? (m17 wr)=some (.int .u64 x2):=cA bx2 2;have e3:w2.cell? (m19 wr)=some (.int .u64 x3):=cA bx2 3;have bel2:=zH (HB1.out.trans (hb2.mono HB1.out.size));have cf2:=zH (cG hb2 (by simp only[World.size_alloc];omega) ((Below.heap_alloc wr _ _ hlt0).trans HF.out));have hsz2:w.heap.size+1<=w2.heap.size:=(gS cf2.out))
    |(at_builtin;refine wpList_append_own _ rfl (.tmp 20) (.tmp 22) 36 rfl (w.heap.size+1) 84 i0 (.agg (m58)) 4 32 Tryz.underlying36 hi hz0 hz1 hz2 rfl (by decide) _ _ _ rfl (own2.alloc _) (m07 w2) 1 1 (aH (Tp.V.mk x0 x1 x2 x3)) rfl rfl (bE w2 _ _ _ rfl) (gY _) (by unfold maxLen;omega) (by omega) (by simp only[World.size_alloc];omega) ?_;intro v3 w3 hown3 hg3 _))
   refine⟨⟨j+1,by omega,by go_num,?_,OwnL.grown own2 bel2.out (Nat.le_succ _) hsz2 hg3,(bJ hg3 (by omega) (fK own2 (Nat.lt_succ_self _))).trans cf2.out⟩,by simp[intOf];omega⟩
   rw[HS.out]
   simp only[if_true]
   exact OwnL.snoc hown3 rfl
theorem oS (aw:Option Addr)(nw cw:Nat)(W:List Int)(sd ep nu de:Int)(a:Option Addr)(n c:Nat)(l:List Tp.B)(w:World)(hC:aP w aw nw W sd)(h:SlV aK 5 w a n c l)(hm:n<=1000000)(hU:∀x∈l,x.U):
  Calls Tryz.prog 91 #[.agg (m05 aw nw cw sd ep nu de),.slice a n c,.func (.func 92) #[] #[]] w fun e w'=>∃v,e=.returned v/\OwnL aK 5 56 w' w.heap.size v (l.filter (Tp.bM ⟨W,sd,ep,nu,de⟩))/\Below w.heap.size w w':=by
 obtain⟨i0,hi,hz0,hz1,hz2⟩:=info_parts iW
 have H2:=zH h
 have HC:=zH hC
 have hb0:Below w.heap.size w (m28 w aw nw cw sd ep nu de):=(Below.refl _ w).alloc nr _
 have hcf:(m28 w aw nw cw sd ep nu de:World).heap[w.heap.size]?=some (.cells (m05 aw nw cw sd ep nu de) 25 (0,0)):=heap_alloc_new w _
 have HU:=zH hU
 clear h hC hU
 go_enter Tryz.func91,Tryz.ntmps91
 go_wp2_with fail
 go_loopw [7,12] (fun v i wr=>∃j:Nat,j<=n/\i=.int .i64 j/\OwnL aK 5 56 wr (w.heap.size+1) v ((l.take j).filter (Tp.bM ⟨W,sd,ep,nu,de⟩))/\Below w.heap.size w wr/\wr.heap[w.heap.size]?=some (.cells (m05 aw nw cw sd ep nu de) 25 (0,0))) (fun _ i _=>n-(intOf i).toNat)
 case atStart=>exact⟨0,Nat.zero_le _,rfl,OwnL.nil _ _ _ _ _,hb0,hcf⟩
 case round=>
  clear hb0 hcf
  obtain⟨j,hj,rfl,hown,hbel,hcf⟩:=hrel
  have HB:=zH hbel
  clear hbel
  by_cases hjn:j<n
  case neg=>
   obtain rfl:j=n:=by omega
   have hfin:l.take j=l:=List.take_of_length_le (by rw[H2.out.len];exact Nat.le_refl _)
   rw[hfin]at hown
   go_wp2
   go_ret
   exact⟨_,rfl,hown.lower (Nat.le_succ _),HB.out⟩
  have hjl:j<l.length:=by rw[H2.out.len];exact hjn
  have hsn:=dS (Tp.bM ⟨W,sd,ep,nu,de⟩) l j hjl
  rcases H2.out.rows with h0|⟨b,o,rfl,hlt,hc⟩
  ·omega
  have hx:∀i,i<5->wr.cell? (m09 b (o+j*5+i))=(aK l[j])[i]?:=fun i hi=>(HB.out.cell (p:=⟨b,_,none⟩) hlt).trans (hc j hjl i hi)
  have hUx:=HU.out _ (List.getElem_mem hjl)
  obtain⟨⟨x0,x1,x2,x3,x4⟩,hX⟩:∃x,l[j]=x:=⟨_,rfl⟩
  rw[hX]at hx hsn
  try rw[hX]at hUx
  have c0:wr.cell? (m09 b (o+j*5))=some (.int .i64 x0):=hx 0 (by omega)
  have c1:wr.cell? (m09 b (o+j*5+1))=some (.int .i64 x1):=hx 1 (by omega)
  have c2:wr.cell? (m09 b (o+j*5+2))=some (.int .u64 x2):=hx 2 (by omega)
  have c3:wr.cell? (m09 b (o+j*5+3))=some (.int .u64 x3):=hx 3 (by omega)
  have c4:wr.cell? (m09 b (o+j*5+4))=some (.int .u64 x4):=hx 4 (by omega)
  have hln:((l.take j).filter (Tp.bM ⟨W,sd,ep,nu,de⟩)).length<=1000000:=bL _ _ _ _ (by omega)
  obtain⟨pre,hpre⟩:∃x,(l.take j).filter (Tp.bM ⟨W,sd,ep,nu,de⟩)=x:=⟨_,rfl⟩
  rw[hpre]at hown hsn hln
  obtain⟨t,ht⟩:∃t,Tp.bM ⟨W,sd,ep,nu,de⟩ (Tp.B.mk x0 x1 x2 x3 x4)=t:=⟨_,rfl⟩
  rw[show Tp.bM ⟨W,sd,ep,nu,de⟩ ⟨x0,x1,x2,x3,x4⟩=t from ht]at hsn
  have HS:=zH hsn
  have HT:=zH ht
  have HO:=zH hown
  have k0:(0:Int)<=j:=by omega
  have k1:(j:Int)<n:=by omega
  have bel1:Below w.heap.size w (wr.alloc (.cells (m11 x0 x1 x2 x3 x4) 56)):=HB.out.alloc HB.out.size _
  have HB1:=zH bel1
  have hlt0:w.heap.size<wr.heap.size:=(gS hcf)
  have cb:CBox w.heap.size aw nw cw sd ep nu de wr:=CBox.at_ hcf
  obtain⟨d0,d1,d2,d3,d4⟩:=cb
  have HF:=zH hcf
  have HUx:=zH hUx
  clear hx hX hsn ht hc hpre hown bel1 hcf hUx
  cases t with
  |false=>
   go_wp2_with (go_at_call 92;refine(pL aw nw cw W sd ep nu de x0 x1 x2 x3 x4 _ (HC.out.below HB1.out nr) HUx.out).mono ?_;rintro e w2 ⟨rfl,hb2⟩;rw[HT.out])
   refine⟨⟨j+1,by omega,by go_num,?_,HB1.out.trans (hb2.mono HB1.out.size),cG hb2 (by simp only[World.size_alloc];omega) ((Below.heap_alloc wr _ _ hlt0).trans HF.out)⟩,by simp[intOf];omega⟩
   rw[HS.out]
   simp only[Bool.false_eq_true,if_false,List.append_nil]
   exact(HO.out.keep ((Below.refl _ wr).alloc nr _)).keep hb2
  |true=>
   go_wp2_with (first
    |(go_at_call 92;refine(pL aw nw cw W sd ep nu de x0 x1 x2 x3 x4 _ (HC.out.below HB1.out nr) HUx.out).mono ?_;rintro e w2 ⟨rfl,hb2⟩;rw[HT.out];have own2:=(HO.out.keep ((Below.refl _ wr).alloc nr _)).keep hb2;have bx2:w2.heap[wr.heap.size]?=some (.cells (m11 x0 x1 x2 x3 x4) 56 (0,0)):=cG hb2 (by simp) (heap_alloc_new wr _);have e0:w2.cell? (m07 wr)=some (.int .i64 x0):=cA bx2 0;have e1:w2.cell? (m14 wr)=some (.int .i64 x1):=cA bx2 1;have e2:w2.cell? (m17 wr)=some (.int .u64 x2):=cA bx2 2;have e3:w2.cell? (m19 wr)=some (.int .u64 x3):=cA bx2 3;have e4:w2.cell? (m27 wr)=some (.int .u64 x4):=cA bx2 4;have bel2:=zH (HB1.out.trans (hb2.mono HB1.out.size));have cf2:=zH (cG hb2 (by simp only[World.size_alloc];omega) ((Below.heap_alloc wr _ _ hlt0).trans HF.out));have hsz2:w.heap.size+1<=w2.heap.size:=(gS cf2.out))
    |(at_builtin;refine wpList_append_own _ rfl (.tmp 20) (.tmp 22) 35 rfl (w.heap.size+1) 56 i0 (.agg (m53)) 5 40 Tryz.underlying35 hi hz0 hz1 hz2 rfl (by decide) _ _ _ rfl (own2.alloc _) (m07 w2) 1 1 (aK (Tp.B.mk x0 x1 x2 x3 x4)) rfl rfl (bE w2 _ _ _ rfl) (jB _) (by unfold maxLen;omega) (by omega) (by simp only[World.size_alloc];omega) ?_;intro v3 w3 hown3 hg3 _))
   refine⟨⟨j+1,by omega,by go_num,?_,OwnL.grown own2 bel2.out (Nat.le_succ _) hsz2 hg3,(bJ hg3 (by omega) (fK own2 (Nat.lt_succ_self _))).trans cf2.out⟩,by simp[intOf];omega⟩
   rw[HS.out]
   simp only[if_true]
   exact OwnL.snoc hown3 rfl
structure Tp.Vw where
 b:List Tp.B
 v:List Tp.V
structure RV where
 ab:Option Addr
 nb:Nat
 cb:Nat
 av:Option Addr
 nv:Nat
 cv:Nat
def RV.val (r:RV):Value:=.agg #[.slice r.ab r.nb r.cb,.slice r.av r.nv r.cv]
structure VwR (w:World) (r:RV) (x:Tp.Vw):Prop where
 ok:mD w r.ab r.nb r.cb x.b r.av r.nv r.cv x.v
 nb0:r.ab=none->r.nb=0/\r.cb=0
 nv0:r.av=none->r.nv=0/\r.cv=0
theorem VwR.below {w w':World}{r:RV}{x:Tp.Vw}{B:Nat}(h:VwR w r x)(hb:Below B w w')(hB:w.heap.size<=B):VwR w' r x:=⟨h.ok.below hb hB,h.nb0,h.nv0⟩
theorem VwR.keep {w w':World}{r:RV}{x:Tp.Vw}(h:VwR w r x)(hb:Below w.heap.size w w'):VwR w' r x:=h.below hb nr
theorem OwnL.sl0 {α:Type}{f:α->List Value}{k:Nat}{e:TypeId}{w:World}{base:Nat}{v:Value}{l:List α}(hk:∀x,(f x).length=k)(h:OwnL f k e w base v l):∃a c,v=.slice a l.length c/\SlV f k w a l.length c l/\(a=none->l.length=0/\c=0):=by
 rcases h.2 with⟨hv,h0⟩|⟨g,cap,cur,hv,hg⟩
 ·refine⟨none,0,by rw[h0];exact hv,⟨rfl,by omega,by omega,.inl h0⟩,fun _=>⟨h0,rfl⟩⟩
 ·obtain⟨a,c,hv2,hs⟩:=h.sl hk
  refine⟨a,c,hv2,hs,fun ha=>?_⟩
  rw[hv2,ha]at hv
  cases hv
theorem cP {α:Type}{f:α->List Value}{k:Nat}{e:TypeId}{w:World}{base:Nat}{a:Option Addr}{n c:Nat}{l:List α}(hk:∀x,(f x).length=k)(h:OwnL f k e w base (m63 a n c) l):SlV f k w a n c l/\(a=none->n=0/\c=0):=by
 obtain⟨a',c',hv,hs,h0⟩:=h.sl0 hk
 injection hv with h1 h2 h3
 subst h1
 subst h2
 subst h3
 exact⟨hs,h0⟩
theorem OwnL.new {α:Type}{f:α->List Value}{k:Nat}{e:TypeId}{w:World}{base:Nat}{a:Option Addr}{n c:Nat}{l:List α}(h:OwnL f k e w base (m63 a n c) l):∀b off,a=some ⟨b,off,none⟩->base<=b:=by
 intro b off ha
 rcases h.2 with⟨hv,_⟩|⟨g,cap,cur,hv,hb,_⟩
 ·rw[ha]at hv;cases hv
 ·rw[ha]at hv
  injection hv with h1 h2 h3
  injection h1 with h1
  injection h1 with h4 h5 h6
  omega
def RV.New (r:RV) (N:Nat):Prop:=(∀b off,r.ab=some ⟨b,off,none⟩->N<=b)/\(∀b off,r.av=some ⟨b,off,none⟩->N<=b)
theorem RV.New.lower {r:RV}{N M:Nat}(h:r.New N)(hM:M<=N):r.New M:=⟨fun b o e=>Nat.le_trans hM (h.1 b o e),fun b o e=>Nat.le_trans hM (h.2 b o e)⟩
theorem RV.New.of_own {r:RV}{w w':World}{N:Nat}{lb:List Tp.B}{lv:List Tp.V}(hb:OwnL aK 5 56 w N (.slice r.ab r.nb r.cb) lb)(hv:OwnL aH 4 84 w' N (.slice r.av r.nv r.cv) lv):r.New N:=⟨hb.new,hv.new⟩
theorem OwnL.vw {w:World}{base:Nat}{vb vv:Value}{x:Tp.Vw}(hb:OwnL aK 5 56 w base vb x.b)(hv:OwnL aH 4 84 w base vv x.v)(hU:∀y∈x.b,y.U)(h1:x.b.length<=1000000)(h2:x.v.length<=1000000):
  ∃r:RV,vb=.slice r.ab r.nb r.cb/\vv=.slice r.av r.nv r.cv/\VwR w r x:=by
 obtain⟨a,c,rfl,s1,z1⟩:=hb.sl0 cY
 obtain⟨a2,c2,rfl,s2,z2⟩:=hv.sl0 cW
 exact⟨⟨a,_,c,a2,_,c2⟩,rfl,rfl,⟨s1,s2,hU,h1,h2⟩,z1,z2⟩
namespace Tp
def join (x y:Vw):Vw:=⟨dL x.b y.b,dL x.v y.v⟩
def only (c:Cf) (x:Vw):Vw:=⟨x.b.filter (bM c),x.v.filter (dE c)⟩
theorem fL {α:Type} [DecidableEq α] (b:List α):∀(a:List α) (x:α),x∈dL a b↔x∈a\/x∈b:=by
 induction b with
 |nil=>intro a x;simp[dL]
 |cons y r ih=>
  intro a x
  show x∈dL _ r↔_
  rw[ih,List.mem_cons]
  show(x∈(if has a y=true then a else a++[y])\/x∈r)↔_
  by_cases h:has a y=true
  ·have:=(fO a y).1 h
   rw[if_pos h]
   constructor
   ·rintro(h1|h1)
    ·exact .inl h1
    ·exact .inr (.inr h1)
   ·rintro(h1|rfl|h1)
    ·exact .inl h1
    ·exact .inl this
    ·exact .inr h1
  ·rw[if_neg h,List.mem_append,List.mem_singleton,or_assoc]
end Tp
theorem aNa {a b:List Tp.B}(ha:∀x∈a,x.U)(hb:∀x∈b,x.U):∀x∈Tp.dL a b,x.U:=fun x hx=>((Tp.fL b a x).1 hx).elim (ha x) (hb x)
def uN (N:Nat) (r s:RV) (w:World):Prop:=
 w.cell? (m00 N)=some (.slice r.ab r.nb r.cb)/\w.cell? (m15 N)=some (.slice r.av r.nv r.cv)/\w.cell? (m66 N)=some (.slice s.ab s.nb s.cb)/\w.cell? ⟨N+1,1,none⟩=some (.slice s.av s.nv s.cv)
theorem uN.below {N M:Nat}{r s:RV}{w w':World}(h:uN N r s w)(hb:Below M w w')(hM:N+1<M):uN N r s w':=
 ⟨(hb.cell (p:=(m00 N)) (Nat.lt_of_succ_lt hM)).trans h.1,(hb.cell (p:=(m15 N)) (Nat.lt_of_succ_lt hM)).trans h.2.1,(hb.cell (p:=(m66 N)) hM).trans h.2.2.1,(hb.cell (p:=⟨N+1,1,none⟩) hM).trans h.2.2.2⟩
theorem dY (r s:RV)(x y:Tp.Vw)(w:World)(hx:VwR w r x)(hy:VwR w s y)(h1:(Tp.join x y).b.length<=1000000)(h2:(Tp.join x y).v.length<=1000000):
  Calls Tryz.prog 61 #[.agg #[.slice r.ab r.nb r.cb,.slice r.av r.nv r.cv],.agg #[.slice s.ab s.nb s.cb,.slice s.av s.nv s.cv]] w fun e w'=>
   ∃t:RV,e=.returned (.agg #[.slice t.ab t.nb t.cb,.slice t.av t.nv t.cv])/\VwR w' t (Tp.join x y)/\t.New w.heap.size/\Below w.heap.size w w':=by
 have hb3:Below w.heap.size w (((w.alloc (.cells #[.slice r.ab r.nb r.cb,.slice r.av r.nv r.cv] 38)).alloc (.cells #[.slice s.ab s.nb s.cb,.slice s.av s.nv s.cv] 38)).alloc (.cells #[.slice none 0 0,.slice none 0 0] 38)):=dO _ _ _
 have hs3:w.heap.size+2<(((w.alloc (.cells #[.slice r.ab r.nb r.cb,.slice r.av r.nv r.cv] 38)).alloc (.cells #[.slice s.ab s.nb s.cb,.slice s.av s.nv s.cv] 38)).alloc (.cells #[.slice none 0 0,.slice none 0 0] 38)).heap.size:=by simp
 have hbx:uN w.heap.size r s (((w.alloc (.cells #[.slice r.ab r.nb r.cb,.slice r.av r.nv r.cv] 38)).alloc (.cells #[.slice s.ab s.nb s.cb,.slice s.av s.nv s.cv] 38)).alloc (.cells #[.slice none 0 0,.slice none 0 0] 38)):=
  ⟨cU w _ _ _ _ 0,cU w _ _ _ _ 1,fE w _ _ _ _ 0,fE w _ _ _ _ 1⟩
 have hr:(((w.alloc (.cells #[.slice r.ab r.nb r.cb,.slice r.av r.nv r.cv] 38)).alloc (.cells #[.slice s.ab s.nb s.cb,.slice s.av s.nv s.cv] 38)).alloc (.cells #[.slice none 0 0,.slice none 0 0] 38)).heap[w.heap.size+2]?=some (.cells #[.slice none 0 0,.slice none 0 0] 38 (0,0)):=by rw[cF,if_pos (by simp)]
 go_enter Tryz.func61,Tryz.ntmps61
 go_wp2_with fail
 generalize((w.alloc (.cells #[.slice r.ab r.nb r.cb,.slice r.av r.nv r.cv] 38)).alloc (.cells #[.slice s.ab s.nb s.cb,.slice s.av s.nv s.cv] 38)).alloc (.cells #[.slice none 0 0,.slice none 0 0] 38)=w1 at hb3 hs3 hbx hr⊢
 obtain⟨x0,x1,x2,x3⟩:=id hbx
 have HX:=zH (hx.keep hb3.drew)
 have HY:=zH (hy.keep hb3.drew)
 have HB3:=zH hb3
 clear hx hy hb3
 go_region_held3 (fun w'=>w'.cell? ⟨w.heap.size,0,none⟩=some (.slice r.ab r.nb r.cb)/\w'.cell? ⟨w.heap.size,1,none⟩=some (.slice r.av r.nv r.cv)/\w'.cell? ⟨w.heap.size+1,0,none⟩=some (.slice s.ab s.nb s.cb)/\w'.cell? ⟨w.heap.size+1,1,none⟩=some (.slice s.av s.nv s.cv))
  (first|exact hbx|exact hbxB|exact hbxV|exact hbx4 _ _)
  (first
   |(go_at_call 89;refine(qG r.ab r.nb r.cb x.b s.ab s.nb s.cb y.b _ (by first|exact HX.out.ok.b|exact(HX.out.keep hbV).ok.b) HX.out.nb0 (by first|exact HY.out.ok.b|exact(HY.out.keep hbV).ok.b) HX.out.ok.bm HY.out.ok.bm).mono ?_;rintro e wB ⟨vb,rfl,ob,hbB⟩;obtain⟨ab,cb,rfl,-,-⟩:=ob.sl0 cY;have bel:=(by first|exact bS bel hbB|exact bS ((Below.refl _ w1).drew) hbB:Below w1.heap.size w1 wB);have ob:=OwnL.lower (base':=w1.heap.size) ob (by first|exact Nat.le_refl _|exact hbV.size);(try replace ov:=ov.keep hbB);have hbxB:=hbx.below bel (Nat.lt_of_succ_lt hs3);have hrB:=cG bel hs3 hr;have r0:wB.cell? ⟨w.heap.size+2,0,none⟩=some (.slice none 0 0):=cA hrB 0;have r1:wB.cell? ⟨w.heap.size+2,1,none⟩=some (.slice none 0 0):=cA hrB 1;have f0:=cH hrB 0;have f1:=cH hrB 1;have hbx4:∀p q,uN w.heap.size r s ((wB.setCell ⟨w.heap.size+2,0,none⟩ p).setCell ⟨w.heap.size+2,1,none⟩ q):=fun p q=>uN.below (M:=w.heap.size+2) (w:=wB) hbxB (((Below.refl _ wB).setCell (p:=⟨w.heap.size+2,0,none⟩) nr p).setCell (p:=⟨w.heap.size+2,1,none⟩) nr q) (Nat.lt_succ_self _))
   |(go_at_call 90;refine(sA r.av r.nv r.cv x.v s.av s.nv s.cv y.v _ (by first|exact HX.out.ok.v|exact(HX.out.keep hbB).ok.v) HX.out.nv0 (by first|exact HY.out.ok.v|exact(HY.out.keep hbB).ok.v) HX.out.ok.vm HY.out.ok.vm).mono ?_;rintro e wV ⟨vv,rfl,ov,hbV⟩;obtain⟨av,cv,rfl,-,-⟩:=ov.sl0 cW;have bel:=(by first|exact bS bel hbV|exact bS ((Below.refl _ w1).drew) hbV:Below w1.heap.size w1 wV);have ov:=OwnL.lower (base':=w1.heap.size) ov (by first|exact Nat.le_refl _|exact hbB.size);(try replace ob:=ob.keep hbV);have hbxV:=hbx.below bel (Nat.lt_of_succ_lt hs3);have hrB:=cG bel hs3 hr;have r0:wV.cell? ⟨w.heap.size+2,0,none⟩=some (.slice none 0 0):=cA hrB 0;have r1:wV.cell? ⟨w.heap.size+2,1,none⟩=some (.slice none 0 0):=cA hrB 1;have f0:=cH hrB 0;have f1:=cH hrB 1;have hbx4:∀p q,uN w.heap.size r s ((wV.setCell ⟨w.heap.size+2,0,none⟩ p).setCell ⟨w.heap.size+2,1,none⟩ q):=fun p q=>uN.below (M:=w.heap.size+2) (w:=wV) hbxV (((Below.refl _ wV).setCell (p:=⟨w.heap.size+2,0,none⟩) nr p).setCell (p:=⟨w.heap.size+2,1,none⟩) nr q) (Nat.lt_succ_self _)))
 all_goals
  have T:=set2 _ (w.heap.size+2) _ _ (.slice ab (Tp.dL x.b y.b).length cb) (.slice av (Tp.dL x.v y.v).length cv) _ hrB
  have s1:=cP cY (ob.turn T hs3)
  have s2:=cP cW (ov.turn T hs3)
  have HNEW:=zH (show(⟨ab,(Tp.dL x.b y.b).length,cb,av,(Tp.dL x.v y.v).length,cv⟩:RV).New w.heap.size from⟨fun b o e=>Nat.le_trans HB3.out.size (ob.new b o e),fun b o e=>Nat.le_trans HB3.out.size (ov.new b o e)⟩)
  have HT:=zH (show VwR _ ⟨ab,(Tp.dL x.b y.b).length,cb,av,(Tp.dL x.v y.v).length,cv⟩ (Tp.join x y)from⟨⟨s1.1,s2.1,aNa HX.out.ok.u HY.out.ok.u,h1,h2⟩,s1.2,s2.2⟩)
  have HBT:=zH ((bS HB3.out bel).trans (T.below (Nat.le_add_right _ _)))
  clear s1 s2 T
  go_wp2
  refine bodyPost_ret (v:=.agg #[.slice ab (Tp.dL x.b y.b).length cb,.slice av (Tp.dL x.v y.v).length cv]) ?_ rfl ⟨_,rfl,HT.out,HNEW.out,HBT.out⟩
  simp[results,Tryz.results61,go_sem,r0,r1]
theorem VwR.of_own {w:World}{base:Nat}{t:RV}{x:Tp.Vw}(hb:OwnL aK 5 56 w base (.slice t.ab t.nb t.cb) x.b)(hv:OwnL aH 4 84 w base (.slice t.av t.nv t.cv) x.v)(hU:∀y∈x.b,y.U)(h1:x.b.length<=1000000)(h2:x.v.length<=1000000):VwR w t x:=
 have s1:=cP cY hb
 have s2:=cP cW hv
 ⟨⟨s1.1,s2.1,hU,by rw[<-s1.1.len];exact h1,by rw[<-s2.1.len];exact h2⟩,s1.2,s2.2⟩
theorem qT (aw:Option Addr)(nw cw:Nat)(C:Tp.Cf)(r:RV)(x:Tp.Vw)(w:World)(hC:aP w aw nw C.W C.sd)(hx:VwR w r x):
  Calls Tryz.prog 64 #[.agg #[.slice aw nw cw,.int .u64 C.sd,.int .i64 C.ep,.int .i64 C.nu,.int .i64 C.de],.agg #[.slice r.ab r.nb r.cb,.slice r.av r.nv r.cv]] w fun e w'=>
   ∃t:RV,e=.returned (.agg #[.slice t.ab t.nb t.cb,.slice t.av t.nv t.cv])/\OwnL aK 5 56 w' w.heap.size (.slice t.ab t.nb t.cb) (Tp.only C x).b/\OwnL aH 4 84 w' w.heap.size (.slice t.av t.nv t.cv) (Tp.only C x).v/\Below w.heap.size w w':=by
 have hb3:Below w.heap.size w (((w.alloc (.cells #[.slice aw nw cw,.int .u64 C.sd,.int .i64 C.ep,.int .i64 C.nu,.int .i64 C.de] 25)).alloc (.cells #[.slice r.ab r.nb r.cb,.slice r.av r.nv r.cv] 38)).alloc (.cells #[.slice none 0 0,.slice none 0 0] 38)):=dO _ _ _
 have hs3:w.heap.size+2<(((w.alloc (.cells #[.slice aw nw cw,.int .u64 C.sd,.int .i64 C.ep,.int .i64 C.nu,.int .i64 C.de] 25)).alloc (.cells #[.slice r.ab r.nb r.cb,.slice r.av r.nv r.cv] 38)).alloc (.cells #[.slice none 0 0,.slice none 0 0] 38)).heap.size:=by simp
 have hbx:kC w.heap.size aw nw cw C.sd C.ep C.nu C.de r.ab r.nb r.cb r.av r.nv r.cv (((w.alloc (.cells #[.slice aw nw cw,.int .u64 C.sd,.int .i64 C.ep,.int .i64 C.nu,.int .i64 C.de] 25)).alloc (.cells #[.slice r.ab r.nb r.cb,.slice r.av r.nv r.cv] 38)).alloc (.cells #[.slice none 0 0,.slice none 0 0] 38)):=
  ⟨cU w _ _ _ _ 0,cU w _ _ _ _ 1,cU w _ _ _ _ 2,cU w _ _ _ _ 3,cU w _ _ _ _ 4,fE w _ _ _ _ 0,fE w _ _ _ _ 1⟩
 have hr:(((w.alloc (.cells #[.slice aw nw cw,.int .u64 C.sd,.int .i64 C.ep,.int .i64 C.nu,.int .i64 C.de] 25)).alloc (.cells #[.slice r.ab r.nb r.cb,.slice r.av r.nv r.cv] 38)).alloc (.cells #[.slice none 0 0,.slice none 0 0] 38)).heap[w.heap.size+2]?=some (.cells #[.slice none 0 0,.slice none 0 0] 38 (0,0)):=by rw[cF,if_pos (by simp)]
 go_enter Tryz.func64,Tryz.ntmps64
 go_wp2_with fail
 generalize((w.alloc (.cells #[.slice aw nw cw,.int .u64 C.sd,.int .i64 C.ep,.int .i64 C.nu,.int .i64 C.de] 25)).alloc (.cells #[.slice r.ab r.nb r.cb,.slice r.av r.nv r.cv] 38)).alloc (.cells #[.slice none 0 0,.slice none 0 0] 38)=w1 at hb3 hs3 hbx hr⊢
 obtain⟨x0,x1,x2,x3,x4,x5,x6⟩:=id hbx
 have HX:=zH (hx.keep hb3.drew)
 have HC:=zH (hC.keep hb3.drew)
 have HB3:=zH hb3
 clear hx hC hb3
 go_region_held3 (fun w'=>w'.cell? ⟨w.heap.size,0,none⟩=some (.slice aw nw cw)/\w'.cell? ⟨w.heap.size,1,none⟩=some (.int .u64 C.sd)/\w'.cell? ⟨w.heap.size,2,none⟩=some (.int .i64 C.ep)/\w'.cell? ⟨w.heap.size,3,none⟩=some (.int .i64 C.nu)/\w'.cell? ⟨w.heap.size,4,none⟩=some (.int .i64 C.de)/\w'.cell? ⟨w.heap.size+1,0,none⟩=some (.slice r.ab r.nb r.cb)/\w'.cell? ⟨w.heap.size+1,1,none⟩=some (.slice r.av r.nv r.cv))
  (first|exact hbx|exact hbxB|exact hbxV|exact hbx4 _ _)
  (first
   |(go_at_call 91;refine(oS aw nw cw C.W C.sd C.ep C.nu C.de r.ab r.nb r.cb x.b _ (by first|exact HC.out|exact HC.out.keep hbV) (by first|exact HX.out.ok.b|exact(HX.out.keep hbV).ok.b) HX.out.ok.bm HX.out.ok.u).mono ?_;rintro e wB ⟨vB,rfl,ob,hbB⟩;obtain⟨ab,cb,rfl,-,-⟩:=ob.sl0 cY;have bel:=(by first|exact bS bel hbB|exact bS ((Below.refl _ w1).drew) hbB:Below w1.heap.size w1 wB);have ob:=OwnL.lower (base':=w1.heap.size) ob (by first|exact Nat.le_refl _|exact hbV.size);(try replace ov:=ov.keep hbB);have hbxB:=hbx.below bel (Nat.lt_of_succ_lt hs3);have hrB:=cG bel hs3 hr;have r0:wB.cell? ⟨w.heap.size+2,0,none⟩=some (.slice none 0 0):=cA hrB 0;have r1:wB.cell? ⟨w.heap.size+2,1,none⟩=some (.slice none 0 0):=cA hrB 1;have f0:=cH hrB 0;have f1:=cH hrB 1;have hbx4:∀p q,kC w.heap.size aw nw cw C.sd C.ep C.nu C.de r.ab r.nb r.cb r.av r.nv r.cv ((wB.setCell ⟨w.heap.size+2,0,none⟩ p).setCell ⟨w.heap.size+2,1,none⟩ q):=fun p q=>kC.below (M:=w.heap.size+2) (w:=wB) hbxB (((Below.refl _ wB).setCell (p:=⟨w.heap.size+2,0,none⟩) nr p).setCell (p:=⟨w.heap.size+2,1,none⟩) nr q) (Nat.lt_succ_self _))
   |(go_at_call 93;refine(qJ aw nw cw C.W C.sd C.ep C.nu C.de r.av r.nv r.cv x.v _ (by first|exact HC.out|exact HC.out.keep hbB) (by first|exact HX.out.ok.v|exact(HX.out.keep hbB).ok.v) HX.out.ok.vm (fun _ _=>trivial)).mono ?_;rintro e wV ⟨vV,rfl,ov,hbV⟩;obtain⟨av,cv,rfl,-,-⟩:=ov.sl0 cW;have bel:=(by first|exact bS bel hbV|exact bS ((Below.refl _ w1).drew) hbV:Below w1.heap.size w1 wV);have ov:=OwnL.lower (base':=w1.heap.size) ov (by first|exact Nat.le_refl _|exact hbB.size);(try replace ob:=ob.keep hbV);have hbxV:=hbx.below bel (Nat.lt_of_succ_lt hs3);have hrB:=cG bel hs3 hr;have r0:wV.cell? ⟨w.heap.size+2,0,none⟩=some (.slice none 0 0):=cA hrB 0;have r1:wV.cell? ⟨w.heap.size+2,1,none⟩=some (.slice none 0 0):=cA hrB 1;have f0:=cH hrB 0;have f1:=cH hrB 1;have hbx4:∀p q,kC w.heap.size aw nw cw C.sd C.ep C.nu C.de r.ab r.nb r.cb r.av r.nv r.cv ((wV.setCell ⟨w.heap.size+2,0,none⟩ p).setCell ⟨w.heap.size+2,1,none⟩ q):=fun p q=>kC.below (M:=w.heap.size+2) (w:=wV) hbxV (((Below.refl _ wV).setCell (p:=⟨w.heap.size+2,0,none⟩) nr p).setCell (p:=⟨w.heap.size+2,1,none⟩) nr q) (Nat.lt_succ_self _)))
 all_goals
  have T:=set2 _ (w.heap.size+2) _ _ (.slice ab (x.b.filter (Tp.bM ⟨C.W,C.sd,C.ep,C.nu,C.de⟩)).length cb) (.slice av (x.v.filter (Tp.dE ⟨C.W,C.sd,C.ep,C.nu,C.de⟩)).length cv) _ hrB
  have HO1:=zH ((ob.turn T hs3).lower (base':=w.heap.size) (by omega))
  have HO2:=zH ((ov.turn T hs3).lower (base':=w.heap.size) (by omega))
  have HBT:=zH ((bS HB3.out bel).trans (T.below (Nat.le_add_right _ _)))
  clear T ob ov
  go_wp2
  refine bodyPost_ret (v:=.agg #[.slice ab (x.b.filter (Tp.bM ⟨C.W,C.sd,C.ep,C.nu,C.de⟩)).length cb,.slice av (x.v.filter (Tp.dE ⟨C.W,C.sd,C.ep,C.nu,C.de⟩)).length cv]) ?_ rfl ⟨⟨ab,_,cb,av,_,cv⟩,rfl,HO1.out,HO2.out,HBT.out⟩
  simp[results,Tryz.results64,go_sem,r0,r1]
def bU {K V:Type} (ke:K->Value) (ve:V->Value) (w:World) (b:Nat) (m:List (K×V)):Prop:=
 ∃es clock,w.heap[b]?=some (.map es clock)/\es.toList.map (fun e=>(e.key,e.val))=m.map (fun p=>(ke p.1,ve p.2))/\∀e∈es.toList,e.born<clock
section
variable {K V:Type}{ke:K->Value}{ve:V->Value}
theorem bU.map {w:World}{b:Nat}{m:List (K×V)}(h:bU ke ve w b m):bD ke ve w b m:=by
 obtain⟨es,c,h1,h2,_⟩:=h
 exact⟨es,c,h1,h2⟩
theorem bU.lt {w:World}{b:Nat}{m:List (K×V)}(h:bU ke ve w b m):b<w.heap.size:=h.map.lt
theorem bU.same {w w':World}{b:Nat}{m:List (K×V)}(h:bU ke ve w b m)(hs:w'.heap[b]?=w.heap[b]?):bU ke ve w' b m:=by
 obtain⟨es,c,h1,h2⟩:=h
 exact⟨es,c,hs.trans h1,h2⟩
theorem bU.keep {w w':World}{b:Nat}{m:List (K×V)}(h:bU ke ve w b m)(hb:Below w.heap.size w w'):bU ke ve w' b m:=h.same (hb.block b h.lt)
theorem bU.below {w w':World}{b N:Nat}{m:List (K×V)}(h:bU ke ve w b m)(hb:Below N w w')(hN:b<N):bU ke ve w' b m:=h.same (hb.block b hN)
theorem bU.alloc {w:World}{b:Nat}{m:List (K×V)}(h:bU ke ve w b m)(o:Obj):bU ke ve (w.alloc o) b m:=h.keep ((Below.refl _ _).alloc nr _)
theorem bU.drewN {w:World}{b:Nat}{m:List (K×V)}(h:bU ke ve w b m)(n:Nat):bU ke ve (w.drewN n) b m:=h.same rfl
theorem bU.made (w:World):bU ke ve (w.alloc (.map #[] 0)) w.heap.size ([]:List (K×V)):=
 ⟨#[],0,heap_alloc_new w _,rfl,fun e h=>by cases h⟩
variable [DecidableEq K]{P:Program}{kt et t:TypeId}
theorem bU.store {w:World}{b:Nat}{m:List (K×V)}(h:bU ke ve w b m)(T:KeyT P kt ke)(ht:P.underlying t=some (.map kt et))(k:K)(v:V):
  ∃o,(Instr.mapUpdate t (m43 b) (ke k) (ve v)).run P w=.ok () { w with heap:=w.heap.setIfInBounds b o }/\bU ke ve { w with heap:=w.heap.setIfInBounds b o } b (Tp.put m k v):=by
 have hlt:=h.lt
 obtain⟨es,c,hb,hm,hc⟩:=h
 have hl:es.toList.length=m.length:=by simpa using congrArg List.length hm
 unfold Instr.mapUpdate
 simp only[Sem.run_bind,run_underlying ht,Result.andThen_ok,MapKept.run_getObj_map hb,T.chk,oB T hm,qN]
 cases hj:m.findIdx? (fun p=>decide (k=p.1))with
 |none=>
  refine⟨_,MapKept.run_setObj_map _ hb,es.push { key:=ke k,val:=ve v,born:=c },c+1,?_,?_,?_⟩
  ·simp[hlt]
  ·simp[hm]
  ·intro e he
   simp only[Array.toList_push,List.mem_append,List.mem_singleton]at he
   rcases he with he|rfl
   ·exact Nat.lt_succ_of_lt (hc e he)
   ·exact Nat.lt_succ_self _
 |some j=>
  rw[List.findIdx?_eq_some_iff_getElem]at hj
  obtain⟨hjl,hjk,-⟩:=hj
  have hk:k=m[j].1:=by simpa using hjk
  have hje:j<es.toList.length:=by omega
  have hkey:es.toList[j].key=ke k:=by
   have:=congrArg (fun l=>(l[j]?).map Prod.fst) hm
   simp only[List.getElem?_map,List.getElem?_eq_getElem hje,List.getElem?_eq_getElem hjl,Option.map_some,Option.some.injEq]at this
   rw[this,<-hk]
  have hkey':((es[j]?).map (fun e=>e.key)).getD (ke k)=ke k:=by
   rw[show es[j]?=some es.toList[j]from by rw[<-Array.getElem?_toList,List.getElem?_eq_getElem hje]]
   exact hkey
  rw[Option.bind_some,List.getElem?_eq_getElem hjl]
  simp only[Option.map_some,Sem.run_bind,hkey',Instr.keyThatStays,T.bits,if_true,Sem.run_pure,Result.andThen_ok]
  refine⟨_,MapKept.run_setObj_map _ hb,es.modify j fun e=>{ e with key:=ke k,val:=ve v },c,?_,?_,?_⟩
  ·simp[hlt]
  ·have e1:(es.toList.map (fun e=>(e.key,e.val))).set j (ke k,ve v)=(m.map (fun p=>(ke p.1,ve p.2))).set j (ke k,ve v):=by rw[hm]
   rw[<-List.map_set (f:=fun p:K×V=>(ke p.1,ve p.2)) (a:=(k,v))]at e1
   rw[<-e1,Array.toList_modify]
   apply List.ext_getElem?
   intro i
   by_cases hij:j=i
   ·subst hij
    simp[List.getElem?_modify,List.getElem?_set,List.getElem?_eq_getElem hje,hjl,hl]
   ·simp[List.getElem?_modify,List.getElem?_set,hij]
  ·intro e he
   rw[Array.toList_modify]at he
   obtain⟨i,hi,hie⟩:=List.mem_iff_getElem.1 he
   rw[List.length_modify]at hi
   rw[List.getElem_modify]at hie
   have hm2:=hc _ (List.getElem_mem hi)
   split at hie
   ·rw[<-hie];exact hm2
   ·rw[<-hie];exact hm2
theorem bU.storeT {w:World}{b:Nat}{m:List (K×V)}(h:bU ke ve w b m)(T:KeyT P kt ke)(ht:P.underlying t=some (.map kt et))(k:K)(y:V):
  ∃w',(Instr.mapUpdate t (m43 b) (ke k) (ve y)).run P w=.ok () w'/\bU ke ve w' b (Tp.put m k y)/\aW b w w':=by
 have hlt:=h.lt
 obtain⟨ob,hrun,hmap⟩:=h.store T ht k y
 exact⟨_,hrun,hmap,ob,rfl,rfl,rfl,by simp,by simp[hlt],fun j hj=>by simp[Array.getElem?_setIfInBounds,Ne.symm hj]⟩
theorem bU.entry {w:World}{b:Nat}{m:List (K×V)}(h:bU ke ve w b m)(T:KeyT P kt ke)(ht:P.underlying t=some (.map kt et)){z:Value}(hz:∀w:World,(zeroValue et).run P w=.ok z w)(k:K)(v:V)(hno:Tp.at_ m k=none):
  ∃(st:Nat) (w1 w2:World),(Instr.mapEntry t (m43 b) (ke k)).run P w=.ok (.tuple #[z,goInt st]) w1/\(Instr.entryStore t (m43 b) (goInt st) (ve v)).run P w1=.ok () w2/\aW b w w1/\aW b w w2/\bU ke ve w2 b (Tp.put m k v):=by
 have hlt:=h.lt
 obtain⟨es,c,hb,hm,hc⟩:=h
 have hj:m.findIdx? (fun p=>decide (k=p.1))=none:=by
  cases hj:m.findIdx? (fun p=>decide (k=p.1))with
  |none=>rfl
  |some j=>
   rw[aIk,hj]at hno
   rw[List.findIdx?_eq_some_iff_getElem]at hj
   obtain⟨hjl,-,-⟩:=hj
   simp[List.getElem?_eq_getElem hjl]at hno
 have hT:∀(o:Obj),aW b w { w with heap:=w.heap.setIfInBounds b o }:=fun o=>⟨o,rfl,rfl,rfl,by simp,by simp[hlt],fun j hj=>by simp[Array.getElem?_setIfInBounds,Ne.symm hj]⟩
 refine⟨c,{ w with heap:=w.heap.setIfInBounds b (.map (es.push { key:=ke k,val:=z,born:=c }) (c+1)) },{ w with heap:=w.heap.setIfInBounds b (.map (es.push { key:=ke k,val:=ve v,born:=c }) (c+1)) },?_,?_,hT _,hT _,?_⟩
 ·unfold Instr.mapEntry
  simp only[Sem.run_bind,run_underlying ht,Result.andThen_ok,MapKept.run_getObj_map hb,T.chk,oB T hm,hj]
  simp[hz,MapKept.run_setObj_map _ hb,Result.andThen]
 ·have hb2:({ w with heap:=w.heap.setIfInBounds b (.map (es.push { key:=ke k,val:=z,born:=c }) (c+1)) }:World).heap[b]?=some (.map (es.push { key:=ke k,val:=z,born:=c }) (c+1)):=by simp[hlt]
  have hidx:(es.push { key:=ke k,val:=z,born:=c }).findIdx? (fun e=>(e.born:Int)==(c:Int))=some es.size:=by
   rw[Array.findIdx?_eq_some_iff_getElem]
   refine⟨by simp,by simp,fun j hj=>?_⟩
   have hlt2:j<es.toList.length:=by simpa using hj
   have:=hc _ (List.getElem_mem hlt2)
   rw[Array.getElem_push_lt hj]
   simp only[Array.getElem_toList]at this
   simp
   omega
  unfold Instr.entryStore
  simp only[Sem.run_bind,MapKept.run_getObj_map hb2,Result.andThen_ok,asInt,asIntOf,goInt,hidx,Sem.run_pure]
  rw[MapKept.run_setObj_map _ hb2]
  congr 2
  simp only[Array.setIfInBounds_setIfInBounds]
  congr 2
  apply Array.ext
  ·simp
  ·intro i h1 h2
   rw[Array.getElem_modify]
   by_cases hi:i<es.size
   ·rw[Array.getElem_push_lt hi,Array.getElem_push_lt hi];rw[if_neg (by omega)]
   ·simp only[Array.size_push]at h2
    obtain rfl:i=es.size:=by omega
    simp
 ·refine⟨es.push { key:=ke k,val:=ve v,born:=c },c+1,by simp[hlt],?_,?_⟩
  ·rw[qN,hj];simp[hm]
  ·intro e he
   simp only[Array.toList_push,List.mem_append,List.mem_singleton]at he
   rcases he with he|rfl
   ·exact Nat.lt_succ_of_lt (hc e he)
   ·exact Nat.lt_succ_self _
end
def m01 (x0:RV):M 1 x0:=⟨⟩
noncomputable instance {x0:RV}:CoeOut (M 1 x0) (Array Value):=⟨fun _=>#[.slice x0.ab x0.nb x0.cb,.slice x0.av x0.nv x0.cv]⟩
def m02 (x0:Option Addr) (x1:Nat) (x2:Nat) (x3:Tp.Cf):M 2 (x0,x1,x2,x3):=⟨⟩
noncomputable instance {x0:Option Addr}{x1:Nat}{x2:Nat}{x3:Tp.Cf}:CoeOut (M 2 (x0,x1,x2,x3)) (Array Value):=⟨fun _=>#[.slice x0 x1 x2,.int .u64 x3.sd,.int .i64 x3.ep,.int .i64 x3.nu,.int .i64 x3.de]⟩
def m03 (x0:Int) (x1:Int) (x2:RV) (x3:RV) (x4:Option Addr) (x5:Nat) (x6:Nat) (x7:Int) (x8:Int) (x9:Int) (x10:Int) (x11:Bool):M 3 (x0,x1,x2,x3,x4,x5,x6,x7,x8,x9,x10,x11):=⟨⟩
noncomputable instance {x0:Int}{x1:Int}{x2:RV}{x3:RV}{x4:Option Addr}{x5:Nat}{x6:Nat}{x7:Int}{x8:Int}{x9:Int}{x10:Int}{x11:Bool}:CoeOut (M 3 (x0,x1,x2,x3,x4,x5,x6,x7,x8,x9,x10,x11)) (Array Value):=⟨fun _=>#[.int .i64 x0,.int .i64 x1,.slice x2.ab x2.nb x2.cb,.slice x2.av x2.nv x2.cv,.slice x3.ab x3.nb x3.cb,.slice x3.av x3.nv x3.cv,.slice x4 x5 x6,.int .u64 x7,.int .u64 x8,.int .i64 x9,.int .i64 x10,.bool x11]⟩
def m04 (x0:World) (x1:World) (x2:Int) (x3:Int) (x4:RV) (x5:RV) (x6:Option Addr) (x7:Nat) (x8:Nat) (x9:Int) (x10:Int) (x11:Int) (x12:Int) (x13:Bool):M 4 (x0,x1,x2,x3,x4,x5,x6,x7,x8,x9,x10,x11,x12,x13):=⟨⟩
noncomputable instance {x0:World}{x1:World}{x2:Int}{x3:Int}{x4:RV}{x5:RV}{x6:Option Addr}{x7:Nat}{x8:Nat}{x9:Int}{x10:Int}{x11:Int}{x12:Int}{x13:Bool}:CoeOut (M 4 (x0,x1,x2,x3,x4,x5,x6,x7,x8,x9,x10,x11,x12,x13)) World:=⟨fun _=>((((((((((((x0.setCell ⟨x1.heap.size+1+1+1,0,none⟩ (.int .i64 x2)).setCell ⟨x1.heap.size+1+1+1,1,none⟩ (.int .i64 x3)).setCell ⟨x1.heap.size+1+1+1,2,none⟩ (.slice x4.ab x4.nb x4.cb)).setCell ⟨x1.heap.size+1+1+1,3,none⟩ (.slice x4.av x4.nv x4.cv)).setCell ⟨x1.heap.size+1+1+1,4,none⟩ (.slice x5.ab x5.nb x5.cb)).setCell ⟨x1.heap.size+1+1+1,5,none⟩ (.slice x5.av x5.nv x5.cv)).setCell ⟨x1.heap.size+1+1+1,6,none⟩ (.slice x6 x7 x8)).setCell ⟨x1.heap.size+1+1+1,7,none⟩ (.int .u64 x9)).setCell ⟨x1.heap.size+1+1+1,8,none⟩ (.int .u64 x10)).setCell ⟨x1.heap.size+1+1+1,9,none⟩ (.int .i64 x11)).setCell ⟨x1.heap.size+1+1+1,10,none⟩ (.int .i64 x12)).setCell ⟨x1.heap.size+1+1+1,11,none⟩ (.bool x13))⟩
def m06 (x0:World) (x1:Nat) (x2:Option Addr) (x3:Nat) (x4:Nat) (x5:Tp.Cf) (x6:Option Addr) (x7:Nat) (x8:Nat):M 6 (x0,x1,x2,x3,x4,x5,x6,x7,x8):=⟨⟩
noncomputable instance {x0:World}{x1:Nat}{x2:Option Addr}{x3:Nat}{x4:Nat}{x5:Tp.Cf}{x6:Option Addr}{x7:Nat}{x8:Nat}:CoeOut (M 6 (x0,x1,x2,x3,x4,x5,x6,x7,x8)) World:=⟨fun _=>((((((x0.setCell (m00 x1) (.slice x2 x3 x4)).setCell ⟨x1,1,none⟩ (.int .u64 x5.sd)).setCell ⟨x1,2,none⟩ (.int .i64 x5.ep)).setCell ⟨x1,3,none⟩ (.int .i64 x5.nu)).setCell ⟨x1,4,none⟩ (.int .i64 x5.de)).setCell ⟨x1,5,none⟩ (.slice x6 x7 x8))⟩
def m10 (x0:Option Addr) (x1:Nat) (x2:Nat) (x3:Tp.Cf) (x4:Option Addr) (x5:Nat) (x6:Nat) (x7:Int) (x8:Option Addr) (x9:Nat) (x10:Nat) (x11:Option Addr) (x12:Nat) (x13:Nat):M 10 (x0,x1,x2,x3,x4,x5,x6,x7,x8,x9,x10,x11,x12,x13):=⟨⟩
noncomputable instance {x0:Option Addr}{x1:Nat}{x2:Nat}{x3:Tp.Cf}{x4:Option Addr}{x5:Nat}{x6:Nat}{x7:Int}{x8:Option Addr}{x9:Nat}{x10:Nat}{x11:Option Addr}{x12:Nat}{x13:Nat}:CoeOut (M 10 (x0,x1,x2,x3,x4,x5,x6,x7,x8,x9,x10,x11,x12,x13)) (Array Value):=⟨fun _=>#[.slice x0 x1 x2,.int .u64 x3.sd,.int .i64 x3.ep,.int .i64 x3.nu,.int .i64 x3.de,.slice x4 x5 x6,.int .i64 x7,.slice x8 x9 x10,.slice x11 x12 x13]⟩
def m16 (x0:World) (x1:Nat) (x2:Int) (x3:Int) (x4:RV) (x5:RV) (x6:Option Addr) (x7:Nat) (x8:Nat) (x9:Int) (x10:Int) (x11:Int) (x12:Int) (x13:Bool):M 16 (x0,x1,x2,x3,x4,x5,x6,x7,x8,x9,x10,x11,x12,x13):=⟨⟩
noncomputable instance {x0:World}{x1:Nat}{x2:Int}{x3:Int}{x4:RV}{x5:RV}{x6:Option Addr}{x7:Nat}{x8:Nat}{x9:Int}{x10:Int}{x11:Int}{x12:Int}{x13:Bool}:CoeOut (M 16 (x0,x1,x2,x3,x4,x5,x6,x7,x8,x9,x10,x11,x12,x13)) World:=⟨fun _=>((((((((((((x0.setCell (m00 x1) (.int .i64 x2)).setCell (m15 x1) (.int .i64 x3)).setCell ⟨x1,2,none⟩ (.slice x4.ab x4.nb x4.cb)).setCell ⟨x1,3,none⟩ (.slice x4.av x4.nv x4.cv)).setCell ⟨x1,4,none⟩ (.slice x5.ab x5.nb x5.cb)).setCell ⟨x1,5,none⟩ (.slice x5.av x5.nv x5.cv)).setCell ⟨x1,6,none⟩ (.slice x6 x7 x8)).setCell ⟨x1,7,none⟩ (.int .u64 x9)).setCell ⟨x1,8,none⟩ (.int .u64 x10)).setCell ⟨x1,9,none⟩ (.int .i64 x11)).setCell ⟨x1,10,none⟩ (.int .i64 x12)).setCell ⟨x1,11,none⟩ (.bool x13))⟩
def m41 (x0:RV):M 41 x0:=⟨⟩
noncomputable instance {x0:RV}:CoeOut (M 41 x0) Value:=⟨fun _=>(.slice x0.ab x0.nb x0.cb)⟩
def m42 (x0:RV):M 42 x0:=⟨⟩
noncomputable instance {x0:RV}:CoeOut (M 42 x0) Value:=⟨fun _=>(.slice x0.av x0.nv x0.cv)⟩
def m44 (x0:Option Addr) (x1:Nat) (x2:Nat) (x3:Tp.Cf) (x4:Option Addr) (x5:Nat) (x6:Nat) (x7:Int) (x8:Option Addr) (x9:Nat) (x10:Nat) (x11:Option Addr) (x12:Nat) (x13:Nat) (x14:RV) (x15:Int) (x16:Bool) (x17:Nat) (x18:Nat) (x19:Int) (x20:Option Addr) (x21:Nat) (x22:Nat):M 44 (x0,x1,x2,x3,x4,x5,x6,x7,x8,x9,x10,x11,x12,x13,x14,x15,x16,x17,x18,x19,x20,x21,x22):=⟨⟩
noncomputable instance {x0:Option Addr}{x1:Nat}{x2:Nat}{x3:Tp.Cf}{x4:Option Addr}{x5:Nat}{x6:Nat}{x7:Int}{x8:Option Addr}{x9:Nat}{x10:Nat}{x11:Option Addr}{x12:Nat}{x13:Nat}{x14:RV}{x15:Int}{x16:Bool}{x17:Nat}{x18:Nat}{x19:Int}{x20:Option Addr}{x21:Nat}{x22:Nat}:CoeOut (M 44 (x0,x1,x2,x3,x4,x5,x6,x7,x8,x9,x10,x11,x12,x13,x14,x15,x16,x17,x18,x19,x20,x21,x22)) (Array Value):=⟨fun _=>#[.slice x0 x1 x2,.int .u64 x3.sd,.int .i64 x3.ep,.int .i64 x3.nu,.int .i64 x3.de,.slice x4 x5 x6,.int .i64 x7,.slice x8 x9 x10,.slice x11 x12 x13,.slice x14.ab x14.nb x14.cb,.slice x14.av x14.nv x14.cv,.int .i64 x15,.bool x16,.func (.func 53) #[] (m23 x17 x18),.int .i64 x19,.slice x20 x21 x22]⟩
def m49 (x0:RV):M 49 x0:=⟨⟩
noncomputable instance {x0:RV}:CoeOut (M 49 x0) Obj:=⟨fun _=>(.cells (m01 x0) 38)⟩
def m50 (x0:World) (x1:World) (x2:Option Addr) (x3:Nat) (x4:Nat) (x5:Tp.Cf) (x6:Option Addr) (x7:Nat) (x8:Nat):M 50 (x0,x1,x2,x3,x4,x5,x6,x7,x8):=⟨⟩
noncomputable instance {x0:World}{x1:World}{x2:Option Addr}{x3:Nat}{x4:Nat}{x5:Tp.Cf}{x6:Option Addr}{x7:Nat}{x8:Nat}:CoeOut (M 50 (x0,x1,x2,x3,x4,x5,x6,x7,x8)) World:=⟨fun _=>((((((x0.setCell (m22 x1) (.slice x2 x3 x4)).setCell (m29 x1) (.int .u64 x5.sd)).setCell ⟨x1.heap.size+1,2,none⟩ (m30 x5.ep)).setCell ⟨x1.heap.size+1,3,none⟩ (m30 x5.nu)).setCell ⟨x1.heap.size+1,4,none⟩ (m30 x5.de)).setCell ⟨x1.heap.size+1,5,none⟩ (.slice x6 x7 x8))⟩
namespace Tp
structure Wk where
 b:List B
 v:List V
 slot:List ((Int×Int)×Int)
 has:List (V×Bool)
 upto:Int
 full:Bool
def aJ (l:List B):List ((Int×Int)×Int):=l.foldl (fun m b=>put m (name b) b.slot) [((0,0),0)]
def fP (l:List V):List (V×Bool):=l.foldl (fun m v=>put m v true) []
def wkOf (x:Vw) (upto:Int):Wk:=⟨x.b,x.v,aJ x.b,fP x.v,upto,false⟩
theorem sS (l:List B)(j:Nat)(h:j<l.length):aJ (l.take (j+1))=put (aJ (l.take j)) (name l[j]) l[j].slot:=by
 unfold aJ
 rw[List.take_succ_eq_append_getElem h,List.foldl_append]
 try rfl
theorem aAb (l:List V)(j:Nat)(h:j<l.length):fP (l.take (j+1))=put (fP (l.take j)) l[j] true:=by
 unfold fP
 rw[List.take_succ_eq_append_getElem h,List.foldl_append]
 try rfl
end Tp
structure WkC (w:World) (X:Nat) (S:Nat->Prop) (k:Tp.Wk) (ab av:Option Addr) (cb cv mb hb:Nat):Prop where
 box:w.heap[X]?=some (.cells #[.slice ab k.b.length cb,.slice av k.v.length cv,.map (some mb),.map (some hb),.int .i64 k.upto,.bool k.full] 218 (0,0))
 ob:OwnL aK 5 56 w 0 (m63 ab k.b.length cb) k.b
 ov:OwnL aH 4 84 w 0 (m63 av k.v.length cv) k.v
 om:bU idV intV w mb k.slot
 oh:bU kE bY w hb k.has
 ne:mb≠hb
 sx:S X
 sm:S mb
 sh:S hb
 sb:∀g,(Value.slice ab k.b.length cb).ownBlock=some g->S g
 sv:∀g,(Value.slice av k.v.length cv).ownBlock=some g->S g
def WkAt (w:World) (X:Nat) (S:Nat->Prop) (k:Tp.Wk):Prop:=∃ab av cb cv mb hb,WkC w X S k ab av cb cv mb hb
theorem OwnL.same {α:Type}{f:α->List Value}{k:Nat}{e:TypeId}{w w':World}{base:Nat}{v:Value}{l:List α}(h:OwnL f k e w base v l)(hs:∀g,v.ownBlock=some g->w'.heap[g]?=w.heap[g]?):OwnL f k e w' base v l:=
 ⟨h.1,h.2.imp id (fun⟨g,cap,cur,hv,hg,hh,r⟩=>⟨g,cap,cur,hv,hg,(hs g (by rw[hv];rfl)).trans hh,r⟩)⟩
theorem WkC.keep {w w':World}{X:Nat}{S:Nat->Prop}{k:Tp.Wk}{ab av:Option Addr}{cb cv mb hb:Nat}(h:WkC w X S k ab av cb cv mb hb)(hs:∀j,S j->j<w.heap.size->w'.heap[j]?=w.heap[j]?):WkC w' X S k ab av cb cv mb hb:=
 ⟨(hs X h.sx (gS h.box)).trans h.box,h.ob.same (fun g hg=>hs g (h.sb g hg) (h.ob.lt g hg).2),h.ov.same (fun g hg=>hs g (h.sv g hg) (h.ov.lt g hg).2),h.om.same (hs mb h.sm h.om.lt),h.oh.same (hs hb h.sh h.oh.lt),h.ne,h.sx,h.sm,h.sh,h.sb,h.sv⟩
theorem WkAt.keep {w w':World}{X:Nat}{S:Nat->Prop}{k:Tp.Wk}(h:WkAt w X S k)(hs:∀j,S j->j<w.heap.size->w'.heap[j]?=w.heap[j]?):WkAt w' X S k:=by
 obtain⟨ab,av,cb,cv,mb,hb,h⟩:=h
 exact⟨ab,av,cb,cv,mb,hb,h.keep hs⟩
theorem WkAt.below {w w':World}{X:Nat}{S:Nat->Prop}{k:Tp.Wk}(h:WkAt w X S k)(hb:Below w.heap.size w w'):WkAt w' X S k:=h.keep fun j _ hj=>hb.block j hj
theorem WkAt.wide {w:World}{X:Nat}{S S':Nat->Prop}{k:Tp.Wk}(h:WkAt w X S k)(hs:∀j,S j->j<w.heap.size->S' j):WkAt w X S' k:=by
 obtain⟨ab,av,cb,cv,mb,hb,h⟩:=h
 exact⟨ab,av,cb,cv,mb,hb,h.box,h.ob,h.ov,h.om,h.oh,h.ne,hs _ h.sx (gS h.box),hs _ h.sm h.om.lt,hs _ h.sh h.oh.lt,fun g hg=>hs g (h.sb g hg) (h.ob.lt g hg).2,fun g hg=>hs g (h.sv g hg) (h.ov.lt g hg).2⟩
theorem OwnL.map_turn {α:Type}{f:α->List Value}{k:Nat}{e:TypeId}{w w':World}{base mb:Nat}{v:Value}{l:List α}(h:OwnL f k e w base v l)(hm:∃es c,w.heap[mb]?=some (.map es c))(ht:aW mb w w'):OwnL f k e w' base v l:=by
 obtain⟨es,c,hm⟩:=hm
 exact h.same fun g hg=>ht.other g fun he=>pQ h hm (by rw[hg,he])
theorem bU.has {K V:Type}{ke:K->Value}{ve:V->Value}{w:World}{b:Nat}{m:List (K×V)}(h:bU ke ve w b m):∃es c,w.heap[b]?=some (.map es c):=by
 obtain⟨es,c,h,_⟩:=h
 exact⟨es,c,h⟩
theorem WkC.putSlot {w:World}{X:Nat}{S:Nat->Prop}{k:Tp.Wk}{ab av:Option Addr}{cb cv mb hb:Nat}(h:WkC w X S k ab av cb cv mb hb){m':List ((Int×Int)×Int)}{w':World}(hm:bU idV intV w' mb m')(ht:aW mb w w'):WkC w' X S { k with slot:=m' } ab av cb cv mb hb:=by
 obtain⟨es,c,hmm⟩:=h.om.has
 refine⟨(ht.other X fun e=>?_).trans h.box,h.ob.map_turn h.om.has ht,h.ov.map_turn h.om.has ht,hm,h.oh.same (ht.other hb (Ne.symm h.ne)),h.ne,h.sx,h.sm,h.sh,h.sb,h.sv⟩
 subst e
 rw[h.box]at hmm
 cases hmm
theorem WkC.putHas {w:World}{X:Nat}{S:Nat->Prop}{k:Tp.Wk}{ab av:Option Addr}{cb cv mb hb:Nat}(h:WkC w X S k ab av cb cv mb hb){m':List (Tp.V×Bool)}{w':World}(hm:bU kE bY w' hb m')(ht:aW hb w w'):WkC w' X S { k with has:=m' } ab av cb cv mb hb:=by
 obtain⟨es,c,hmm⟩:=h.oh.has
 refine⟨(ht.other X fun e=>?_).trans h.box,h.ob.map_turn h.oh.has ht,h.ov.map_turn h.oh.has ht,h.om.same (ht.other mb h.ne),hm,h.ne,h.sx,h.sm,h.sh,h.sb,h.sv⟩
 subst e
 rw[h.box]at hmm
 cases hmm
structure OfR (w1:World) (x:Tp.Vw) (vb vv:Option Value) (mb:Option (Nat×Bool)) (hb:Option Nat) (W:World):Prop where
 bel:Below w1.heap.size w1 W
 ob:∀v,vb=some v->OwnL aK 5 56 W w1.heap.size v x.b
 ov:∀v,vv=some v->OwnL aH 4 84 W w1.heap.size v x.v
 om:∀b f,mb=some (b,f)->bU idV intV W b (if f=true then[((0,0),0)]else[])/\w1.heap.size<=b
 oh:∀b,hb=some b->bU kE bY W b []/\w1.heap.size<=b
 ne:∀b f c,mb=some (b,f)->hb=some c->b≠c
section
variable {w1 W W':World}{x:Tp.Vw}{vb vv:Option Value}{mb:Option (Nat×Bool)}{hb:Option Nat}
theorem OfR.start (w1:World)(x:Tp.Vw):OfR w1 x none none none none w1.drew:=
 ⟨(Below.refl _ _).drew,fun _ h=>(by cases h),fun _ h=>(by cases h),fun _ _ h=>(by cases h),fun _ h=>(by cases h),fun _ _ _ h=>(by cases h)⟩
theorem OfR.keep (h:OfR w1 x vb vv mb hb W)(hb2:Below W.heap.size W W'):OfR w1 x vb vv mb hb W':=
 ⟨bS h.bel hb2,fun v hv=>(h.ob v hv).keep hb2,fun v hv=>(h.ov v hv).keep hb2,fun b f he=>⟨(h.om b f he).1.keep hb2,(h.om b f he).2⟩,fun b he=>⟨(h.oh b he).1.keep hb2,(h.oh b he).2⟩,h.ne⟩
theorem OfR.m1 (h:OfR w1 x vb vv none hb W):OfR w1 x vb vv (some (W.heap.size,false)) hb (W.alloc (.map #[] 0)):=by
 have h2:=h.keep (W':=W.alloc (.map #[] 0)) ((Below.refl _ _).alloc nr _)
 refine⟨h2.bel,h2.ob,h2.ov,?_,h2.oh,?_⟩
 ·intro b f he
  cases he
  exact⟨bU.made W,h.bel.size⟩
 ·intro b f c he hc
  cases he
  have:=(h.oh c hc).1.lt
  omega
theorem OfR.m2 (h:OfR w1 x vb vv mb none W):OfR w1 x vb vv mb (some W.heap.size) (W.alloc (.map #[] 0)):=by
 have h2:=h.keep (W':=W.alloc (.map #[] 0)) ((Below.refl _ _).alloc nr _)
 refine⟨h2.bel,h2.ob,h2.ov,h2.om,?_,?_⟩
 ·intro b he
  cases he
  exact⟨bU.made W,h.bel.size⟩
 ·intro b f c hc he
  cases he
  have:=(h.om b f hc).1.lt
  omega
theorem OfR.ins {b:Nat}(h:OfR w1 x vb vv (some (b,false)) hb W):∃W',(Instr.mapUpdate 75 (m43 b) (.agg (m26)) (.int .i64 0)).run Tryz.prog W=.ok () W'/\OfR w1 x vb vv (some (b,true)) hb W':=by
 obtain⟨hm,hlo⟩:=h.om b false rfl
 obtain⟨W',hrun,hm2,ht⟩:=hm.storeT fC Tryz.underlying75 (0,0) 0
 refine⟨W',hrun,h.bel.trans (ht.below hlo),fun v hv=>(h.ob v hv).map_turn hm.has ht,fun v hv=>(h.ov v hv).map_turn hm.has ht,?_,?_,?_⟩
 ·intro b2 f he
  cases he
  exact⟨hm2,hlo⟩
 ·intro c hc
  exact⟨(h.oh c hc).1.same (ht.other c (Ne.symm (h.ne b false c rfl hc))),(h.oh c hc).2⟩
 ·intro b2 f c he hc
  cases he
  exact h.ne b false c rfl hc
theorem OfR.c1 {r:RV}(hx:VwR w1 r x)(h:OfR w1 x none vv mb hb W):Calls Tryz.prog 81 #[.slice r.ab r.nb r.cb] W fun e W'=>∃a c,e=.returned (m63 a x.b.length c)/\OfR w1 x (some (.slice a x.b.length c)) vv mb hb W':=by
 refine(eW r.ab r.nb r.cb x.b W (hx.below h.bel nr).ok.b hx.ok.bm hx.nb0).mono ?_
 rintro e W' ⟨v,rfl,own,hb2⟩
 obtain⟨a,c,rfl,-,-⟩:=own.sl0 cY
 have h2:=h.keep hb2
 exact⟨a,c,rfl,h2.bel,fun v hv=>by cases hv;exact own.lower h.bel.size,h2.ov,h2.om,h2.oh,h2.ne⟩
theorem OfR.c2 {r:RV}(hx:VwR w1 r x)(h:OfR w1 x vb none mb hb W):Calls Tryz.prog 82 #[.slice r.av r.nv r.cv] W fun e W'=>∃a c,e=.returned (m63 a x.v.length c)/\OfR w1 x vb (some (.slice a x.v.length c)) mb hb W':=by
 refine(fG r.av r.nv r.cv x.v W (hx.below h.bel nr).ok.v hx.ok.vm hx.nv0).mono ?_
 rintro e W' ⟨v,rfl,own,hb2⟩
 obtain⟨a,c,rfl,-,-⟩:=own.sl0 cW
 have h2:=h.keep hb2
 exact⟨a,c,rfl,h2.bel,h2.ob,fun v hv=>by cases hv;exact own.lower h.bel.size,h2.om,h2.oh,h2.ne⟩
theorem OfR.done {a c:Option Addr}{n m cb cv b d:Nat}(h:OfR w1 x (some (.slice a n cb)) (some (.slice c m cv)) (some (b,true)) (some d) W)(hn:n=x.b.length)(hm:m=x.v.length)(upto:Int)(S:Nat->Prop)(hS:∀j,w1.heap.size<=j->S j):
  WkAt (W.alloc (.cells #[.slice a n cb,.slice c m cv,.map (some b),.map (some d),.int .i64 upto,.bool false] 218)) W.heap.size S ⟨x.b,x.v,[((0,0),0)],[],upto,false⟩:=by
 subst hn
 subst hm
 have h2:=h.keep (W':=W.alloc (.cells #[.slice a x.b.length cb,.slice c x.v.length cv,.map (some b),.map (some d),.int .i64 upto,.bool false] 218)) ((Below.refl _ _).alloc nr _)
 exact⟨a,c,cb,cv,b,d,heap_alloc_new W _,(h2.ob _ rfl).lower (Nat.zero_le _),(h2.ov _ rfl).lower (Nat.zero_le _),(h2.om b true rfl).1,(h2.oh d rfl).1,h.ne b true d rfl rfl,hS _ h.bel.size,hS _ (h2.om b true rfl).2,hS _ (h2.oh d rfl).2,fun g hg=>hS g ((h2.ob _ rfl).lt g hg).1,fun g hg=>hS g ((h2.ov _ rfl).lt g hg).1⟩
end
abbrev iD :Array Oper:=#[⟨some 10,.fieldAddr 38 (.tmp 2) 0,0,"view.go:62",#[],none⟩,
 ⟨some 11,.load 35 (.tmp 10),35,"view.go:62",#[⟨0,.data⟩],none⟩,
 ⟨some 12,.call ⟨.value (.func 81),#[.tmp 11],#[35]⟩,35,"view.go:62",#[⟨1,.data⟩],none⟩,
 ⟨some 13,.fieldAddr 38 (.tmp 2) 1,0,"view.go:62",#[],none⟩,
 ⟨some 14,.load 36 (.tmp 13),36,"view.go:62",#[⟨3,.data⟩],none⟩,
 ⟨some 15,.call ⟨.value (.func 82),#[.tmp 14],#[36]⟩,36,"view.go:62",#[⟨4,.data⟩,⟨2,.chain⟩],none⟩,
 ⟨some 16,.build 38 #[(0,.tmp 12),(1,.tmp 15)],38,"view.go:62",#[⟨2,.data⟩,⟨5,.data⟩],none⟩,
 ⟨some 17,.makeMap 75 none,75,"view.go:62",#[],none⟩,
 ⟨some 18,.build 40 #[],40,"view.go:62",#[],none⟩,
 ⟨none,.insert 75 (.tmp 17) (.tmp 18) (.const (.int .i64 0)),0,"view.go:62",#[⟨7,.data⟩,⟨8,.data⟩],none⟩,
 ⟨some 19,.move (.tmp 17),75,"view.go:62",#[⟨7,.data⟩,⟨8,.data⟩,⟨9,.data⟩],none⟩,
 ⟨some 20,.makeMap 216 none,216,"view.go:62",#[],none⟩,
 ⟨some 21,.move (.tmp 1),3,"view.go:62",#[],none⟩,
 ⟨some 22,.build 218 #[(0,.tmp 16),(1,.tmp 19),(2,.tmp 20),(3,.tmp 21)],218,"view.go:62",#[⟨6,.data⟩,⟨10,.data⟩,⟨11,.data⟩,⟨12,.data⟩],none⟩,
 ⟨some 23,.box 218 (.tmp 22),213,"view.go:62",#[⟨13,.data⟩],none⟩,
 ⟨some 5,.assign (.tmp 23),213,"view.go:62",#[⟨14,.data⟩,⟨5,.chain⟩,⟨0,.phase⟩,⟨1,.phase⟩,⟨2,.phase⟩,⟨3,.phase⟩,⟨4,.phase⟩,⟨5,.phase⟩,⟨6,.phase⟩,⟨7,.phase⟩,⟨8,.phase⟩,⟨9,.phase⟩,⟨10,.phase⟩,⟨11,.phase⟩,⟨12,.phase⟩,⟨13,.phase⟩,⟨14,.phase⟩],none⟩]
abbrev ofSL (N:Nat) (r:RV):List (Nat×(World->Prop)):=[(1,fun W=>W.cell? (m00 N)=some (.slice r.ab r.nb r.cb)),(4,fun W=>W.cell? (m15 N)=some (.slice r.av r.nv r.cv))]
section
variable (Q:Exit->Act->World->Prop)(hQp:∀(c:_) (a:Act) (d:Option Tmp) (v:Value) (w:World),Q (.panic c) (a.put d v) w->Q (.panic c) a w)(r:RV)(x:Tp.Vw)(up:Int)(N:Nat)(w1:World)(HX:Hid (VwR w1 r x))(hc0:∀W,Below w1.heap.size w1 W->W.cell? (m00 N)=some (.slice r.ab r.nb r.cb))(hc1:∀W,Below w1.heap.size w1 W->W.cell? (m15 N)=some (.slice r.av r.nv r.cv))(hQ:∀ba bc va vc mb hb W,OfR w1 x (some (.slice ba x.b.length bc)) (some (.slice va x.v.length vc)) (some (mb,true)) (some hb) W->Q .normal { tmps:=#[.agg (m01 r),.int .i64 up,.pointer (some (m00 N)),undef,.pointer none,.pointer (some (m07 W)),undef,undef,undef,undef,.pointer (some (m00 N)),.slice r.ab r.nb r.cb,.slice ba x.b.length bc,.pointer (some (m15 N)),.slice r.av r.nv r.cv,.slice va x.v.length vc,.agg (m52 ba x.b.length bc va x.v.length vc),.map (some mb),.agg (m26),.map (some mb),.map (some hb),.int .i64 up,.agg #[.slice ba x.b.length bc,.slice va x.v.length vc,.map (some mb),.map (some hb),.int .i64 up,.bool false],.pointer (some (m07 W)),undef,undef,undef,undef,undef,undef,undef,undef,undef,undef,undef,undef,undef,undef,undef,undef,undef,undef,undef,undef,undef,undef,undef,undef,undef,undef,undef,undef,undef,undef],defers:=[] } (W.alloc (.cells #[.slice ba x.b.length bc,.slice va x.v.length vc,.map (some mb),.map (some hb),.int .i64 up,.bool false] 218)))
include Q hQp r x up N w1 HX hc0 hc1 hQ
theorem uT (ba:Option Addr)(bc:Nat)(va:Option Addr)(vc:Nat)(mb:Nat)(hb:Nat)(W:World)(hR:OfR w1 x (some (.slice ba x.b.length bc)) (some (.slice va x.v.length vc)) (some (mb,true)) (some hb) W):
  aB Tryz.prog .any iD Q (ofSL N r) 3 #[true,true,true,true,true,true,true,true,true,true,true,true,true,false,false,false] { tmps:=#[.agg (m01 r),.int .i64 up,.pointer (some (m00 N)),undef,.pointer none,undef,undef,undef,undef,undef,.pointer (some (m00 N)),.slice r.ab r.nb r.cb,.slice ba x.b.length bc,.pointer (some (m15 N)),.slice r.av r.nv r.cv,.slice va x.v.length vc,.agg (m52 ba x.b.length bc va x.v.length vc),.map (some mb),.agg (m26),.map (some mb),.map (some hb),.int .i64 up,undef,undef,undef,undef,undef,undef,undef,undef,undef,undef,undef,undef,undef,undef,undef,undef,undef,undef,undef,undef,undef,undef,undef,undef,undef,undef,undef,undef,undef,undef,undef,undef],defers:=[] } W:=by
 have hE:=hQ ba bc va vc mb hb W hR
 refine wX 13 rfl ?_ (hQ:=fun _ _ _=>hQp _ _ _ _ _)
 refine cK 14 (by kernel_rfl) rfl (fun K hK=>?_)
 go_simp
 refine hK.out _ _ ?_ ?_
 ·exact⟨.inl (hc0 _ (hR.bel.alloc hR.bel.size _)),.inl (hc1 _ (hR.bel.alloc hR.bel.size _)),trivial⟩
 clear hK K
 simp only[Act.put,pA,pB,pC]
 refine wX 15 rfl ?_ (hQ:=fun _ _ _=>hQp _ _ _ _ _)
 refine cO (by kernel_rfl) ?_ _
 exact hE
theorem uW (ba:Option Addr)(bc:Nat)(mb:Nat)(hb:Nat)(W:World)(hR:OfR w1 x (some (.slice ba x.b.length bc)) none (some (mb,true)) (some hb) W):
  aB Tryz.prog .any iD Q (ofSL N r) 5 #[true,true,true,true,true,false,false,true,true,true,true,true,true,false,false,false] { tmps:=#[.agg (m01 r),.int .i64 up,.pointer (some (m00 N)),undef,.pointer none,undef,undef,undef,undef,undef,.pointer (some (m00 N)),.slice r.ab r.nb r.cb,.slice ba x.b.length bc,.pointer (some (m15 N)),.slice r.av r.nv r.cv,undef,undef,.map (some mb),.agg (m26),.map (some mb),.map (some hb),.int .i64 up,undef,undef,undef,undef,undef,undef,undef,undef,undef,undef,undef,undef,undef,undef,undef,undef,undef,undef,undef,undef,undef,undef,undef,undef,undef,undef,undef,undef,undef,undef,undef,undef],defers:=[] } W:=by
 have hmk:=@run_makeMap Tryz.prog
 refine cJ [5] (by kernel_rfl) (by simp) ?_
 refine cD 5 rfl (fun K hK=>?_) ?_
 ·go_simp
  refine(OfR.c2 HX.out hR).mono ?_;rintro e W2 ⟨va,vc,rfl,hR2⟩
  replace hR:=hR2
  clear hR2
  refine hK.out _ _ ?_ ?_
  ·exact⟨.inl (hc0 _ hR.bel),.inl (hc1 _ hR.bel),trivial⟩
  clear hK K hmk
  simp only[Act.put,pA,pB,pC]
  refine wX 6 rfl ?_ (hQ:=fun _ _ _=>hQp _ _ _ _ _)
  exact uT Q hQp r x up N w1 HX hc0 hc1 hQ ba bc va vc mb hb _ hR
 exact cE
theorem uV (ba:Option Addr)(bc:Nat)(va:Option Addr)(vc:Nat)(mb:Nat)(hb:Nat)(W:World)(hR:OfR w1 x (some (.slice ba x.b.length bc)) (some (.slice va x.v.length vc)) (some (mb,false)) (some hb) W):
  aB Tryz.prog .any iD Q (ofSL N r) 5 #[true,true,true,true,true,true,true,true,true,false,false,true,true,false,false,false] { tmps:=#[.agg (m01 r),.int .i64 up,.pointer (some (m00 N)),undef,.pointer none,undef,undef,undef,undef,undef,.pointer (some (m00 N)),.slice r.ab r.nb r.cb,.slice ba x.b.length bc,.pointer (some (m15 N)),.slice r.av r.nv r.cv,.slice va x.v.length vc,.agg (m52 ba x.b.length bc va x.v.length vc),.map (some mb),.agg (m26),undef,.map (some hb),.int .i64 up,undef,undef,undef,undef,undef,undef,undef,undef,undef,undef,undef,undef,undef,undef,undef,undef,undef,undef,undef,undef,undef,undef,undef,undef,undef,undef,undef,undef,undef,undef,undef,undef],defers:=[] } W:=by
 have hmk:=@run_makeMap Tryz.prog
 refine cJ [9] (by kernel_rfl) (by simp) ?_
 refine cD 9 rfl (fun K hK=>?_) ?_
 ·obtain⟨W2,hrun,hR2⟩:=hR.ins
  go_simp
  replace hR:=hR2
  clear hR2 hrun
  refine hK.out _ _ ?_ ?_
  ·exact⟨.inl (hc0 _ hR.bel),.inl (hc1 _ hR.bel),trivial⟩
  clear hK K hmk
  simp only[Act.put,pA,pB,pC]
  refine wX 10 rfl ?_ (hQ:=fun _ _ _=>hQp _ _ _ _ _)
  exact uT Q hQp r x up N w1 HX hc0 hc1 hQ ba bc va vc mb hb _ hR
 exact cE
theorem aAp (ba:Option Addr)(bc:Nat)(va:Option Addr)(vc:Nat)(mb:Nat)(W:World)(hR:OfR w1 x (some (.slice ba x.b.length bc)) (some (.slice va x.v.length vc)) (some (mb,true)) none W):
  aB Tryz.prog .any iD Q (ofSL N r) 4 #[true,true,true,true,true,true,true,true,true,true,true,false,true,false,false,false] { tmps:=#[.agg (m01 r),.int .i64 up,.pointer (some (m00 N)),undef,.pointer none,undef,undef,undef,undef,undef,.pointer (some (m00 N)),.slice r.ab r.nb r.cb,.slice ba x.b.length bc,.pointer (some (m15 N)),.slice r.av r.nv r.cv,.slice va x.v.length vc,.agg (m52 ba x.b.length bc va x.v.length vc),.map (some mb),.agg (m26),.map (some mb),undef,.int .i64 up,undef,undef,undef,undef,undef,undef,undef,undef,undef,undef,undef,undef,undef,undef,undef,undef,undef,undef,undef,undef,undef,undef,undef,undef,undef,undef,undef,undef,undef,undef,undef,undef],defers:=[] } W:=by
 have hmk:=@run_makeMap Tryz.prog
 refine cJ [11] (by kernel_rfl) (by simp) ?_
 refine cD 11 rfl (fun K hK=>?_) ?_
 ·go_simp
  have hR2:=hR.m2
  replace hR:=hR2
  clear hR2
  refine hK.out _ _ ?_ ?_
  ·exact⟨.inl (hc0 _ hR.bel),.inl (hc1 _ hR.bel),trivial⟩
  clear hK K hmk
  simp only[Act.put,pA,pB,pC]
  exact uT Q hQp r x up N w1 HX hc0 hc1 hQ ba bc va vc mb _ _ hR
 exact cE
theorem aAv (mb:Nat)(hb:Nat)(W:World)(hR:OfR w1 x none none (some (mb,true)) (some hb) W):
  aB Tryz.prog .any iD Q (ofSL N r) 6 #[true,true,false,true,true,false,false,true,true,true,true,true,true,false,false,false] { tmps:=#[.agg (m01 r),.int .i64 up,.pointer (some (m00 N)),undef,.pointer none,undef,undef,undef,undef,undef,.pointer (some (m00 N)),.slice r.ab r.nb r.cb,undef,.pointer (some (m15 N)),.slice r.av r.nv r.cv,undef,undef,.map (some mb),.agg (m26),.map (some mb),.map (some hb),.int .i64 up,undef,undef,undef,undef,undef,undef,undef,undef,undef,undef,undef,undef,undef,undef,undef,undef,undef,undef,undef,undef,undef,undef,undef,undef,undef,undef,undef,undef,undef,undef,undef,undef],defers:=[] } W:=by
 have hmk:=@run_makeMap Tryz.prog
 refine cJ [2] (by kernel_rfl) (by simp) ?_
 refine cD 2 rfl (fun K hK=>?_) ?_
 ·go_simp
  refine(OfR.c1 HX.out hR).mono ?_;rintro e W2 ⟨ba,bc,rfl,hR2⟩
  replace hR:=hR2
  clear hR2
  refine hK.out _ _ ?_ ?_
  ·exact⟨.inl (hc0 _ hR.bel),.inl (hc1 _ hR.bel),trivial⟩
  clear hK K hmk
  simp only[Act.put,pA,pB,pC]
  exact uW Q hQp r x up N w1 HX hc0 hc1 hQ ba bc mb hb _ hR
 exact cE
theorem uX (ba:Option Addr)(bc:Nat)(mb:Nat)(hb:Nat)(W:World)(hR:OfR w1 x (some (.slice ba x.b.length bc)) none (some (mb,false)) (some hb) W):
  aB Tryz.prog .any iD Q (ofSL N r) 7 #[true,true,true,true,true,false,false,true,true,false,false,true,true,false,false,false] { tmps:=#[.agg (m01 r),.int .i64 up,.pointer (some (m00 N)),undef,.pointer none,undef,undef,undef,undef,undef,.pointer (some (m00 N)),.slice r.ab r.nb r.cb,.slice ba x.b.length bc,.pointer (some (m15 N)),.slice r.av r.nv r.cv,undef,undef,.map (some mb),.agg (m26),undef,.map (some hb),.int .i64 up,undef,undef,undef,undef,undef,undef,undef,undef,undef,undef,undef,undef,undef,undef,undef,undef,undef,undef,undef,undef,undef,undef,undef,undef,undef,undef,undef,undef,undef,undef,undef,undef],defers:=[] } W:=by
 have hmk:=@run_makeMap Tryz.prog
 refine cJ [5,9] (by kernel_rfl) (by simp) ?_
 refine cD 5 rfl (fun K hK=>?_) ?_
 ·go_simp
  refine(OfR.c2 HX.out hR).mono ?_;rintro e W2 ⟨va,vc,rfl,hR2⟩
  replace hR:=hR2
  clear hR2
  refine hK.out _ _ ?_ ?_
  ·exact⟨.inl (hc0 _ hR.bel),.inl (hc1 _ hR.bel),trivial⟩
  clear hK K hmk
  simp only[Act.put,pA,pB,pC]
  refine wX 6 rfl ?_ (hQ:=fun _ _ _=>hQp _ _ _ _ _)
  exact uV Q hQp r x up N w1 HX hc0 hc1 hQ ba bc va vc mb hb _ hR
 refine cD 9 rfl (fun K hK=>?_) ?_
 ·obtain⟨W2,hrun,hR2⟩:=hR.ins
  go_simp
  replace hR:=hR2
  clear hR2 hrun
  refine hK.out _ _ ?_ ?_
  ·exact⟨.inl (hc0 _ hR.bel),.inl (hc1 _ hR.bel),trivial⟩
  clear hK K hmk
  simp only[Act.put,pA,pB,pC]
  refine wX 10 rfl ?_ (hQ:=fun _ _ _=>hQp _ _ _ _ _)
  exact uW Q hQp r x up N w1 HX hc0 hc1 hQ ba bc mb hb _ hR
 exact cE
theorem aAs (ba:Option Addr)(bc:Nat)(mb:Nat)(W:World)(hR:OfR w1 x (some (.slice ba x.b.length bc)) none (some (mb,true)) none W):
  aB Tryz.prog .any iD Q (ofSL N r) 6 #[true,true,true,true,true,false,false,true,true,true,true,false,true,false,false,false] { tmps:=#[.agg (m01 r),.int .i64 up,.pointer (some (m00 N)),undef,.pointer none,undef,undef,undef,undef,undef,.pointer (some (m00 N)),.slice r.ab r.nb r.cb,.slice ba x.b.length bc,.pointer (some (m15 N)),.slice r.av r.nv r.cv,undef,undef,.map (some mb),.agg (m26),.map (some mb),undef,.int .i64 up,undef,undef,undef,undef,undef,undef,undef,undef,undef,undef,undef,undef,undef,undef,undef,undef,undef,undef,undef,undef,undef,undef,undef,undef,undef,undef,undef,undef,undef,undef,undef,undef],defers:=[] } W:=by
 have hmk:=@run_makeMap Tryz.prog
 refine cJ [5,11] (by kernel_rfl) (by simp) ?_
 refine cD 5 rfl (fun K hK=>?_) ?_
 ·go_simp
  refine(OfR.c2 HX.out hR).mono ?_;rintro e W2 ⟨va,vc,rfl,hR2⟩
  replace hR:=hR2
  clear hR2
  refine hK.out _ _ ?_ ?_
  ·exact⟨.inl (hc0 _ hR.bel),.inl (hc1 _ hR.bel),trivial⟩
  clear hK K hmk
  simp only[Act.put,pA,pB,pC]
  refine wX 6 rfl ?_ (hQ:=fun _ _ _=>hQp _ _ _ _ _)
  exact aAp Q hQp r x up N w1 HX hc0 hc1 hQ ba bc va vc mb _ hR
 refine cD 11 rfl (fun K hK=>?_) ?_
 ·go_simp
  have hR2:=hR.m2
  replace hR:=hR2
  clear hR2
  refine hK.out _ _ ?_ ?_
  ·exact⟨.inl (hc0 _ hR.bel),.inl (hc1 _ hR.bel),trivial⟩
  clear hK K hmk
  simp only[Act.put,pA,pB,pC]
  exact uW Q hQp r x up N w1 HX hc0 hc1 hQ ba bc mb _ _ hR
 exact cE
theorem aAr (ba:Option Addr)(bc:Nat)(va:Option Addr)(vc:Nat)(hb:Nat)(W:World)(hR:OfR w1 x (some (.slice ba x.b.length bc)) (some (.slice va x.v.length vc)) none (some hb) W):
  aB Tryz.prog .any iD Q (ofSL N r) 6 #[true,true,true,true,true,true,true,false,true,false,false,true,true,false,false,false] { tmps:=#[.agg (m01 r),.int .i64 up,.pointer (some (m00 N)),undef,.pointer none,undef,undef,undef,undef,undef,.pointer (some (m00 N)),.slice r.ab r.nb r.cb,.slice ba x.b.length bc,.pointer (some (m15 N)),.slice r.av r.nv r.cv,.slice va x.v.length vc,.agg (m52 ba x.b.length bc va x.v.length vc),undef,.agg (m26),undef,.map (some hb),.int .i64 up,undef,undef,undef,undef,undef,undef,undef,undef,undef,undef,undef,undef,undef,undef,undef,undef,undef,undef,undef,undef,undef,undef,undef,undef,undef,undef,undef,undef,undef,undef,undef,undef],defers:=[] } W:=by
 have hmk:=@run_makeMap Tryz.prog
 refine cJ [7] (by kernel_rfl) (by simp) ?_
 refine cD 7 rfl (fun K hK=>?_) ?_
 ·go_simp
  have hR2:=hR.m1
  replace hR:=hR2
  clear hR2
  refine hK.out _ _ ?_ ?_
  ·exact⟨.inl (hc0 _ hR.bel),.inl (hc1 _ hR.bel),trivial⟩
  clear hK K hmk
  simp only[Act.put,pA,pB,pC]
  exact uV Q hQp r x up N w1 HX hc0 hc1 hQ ba bc va vc _ hb _ hR
 exact cE
theorem aAq (ba:Option Addr)(bc:Nat)(va:Option Addr)(vc:Nat)(mb:Nat)(W:World)(hR:OfR w1 x (some (.slice ba x.b.length bc)) (some (.slice va x.v.length vc)) (some (mb,false)) none W):
  aB Tryz.prog .any iD Q (ofSL N r) 6 #[true,true,true,true,true,true,true,true,true,false,false,false,true,false,false,false] { tmps:=#[.agg (m01 r),.int .i64 up,.pointer (some (m00 N)),undef,.pointer none,undef,undef,undef,undef,undef,.pointer (some (m00 N)),.slice r.ab r.nb r.cb,.slice ba x.b.length bc,.pointer (some (m15 N)),.slice r.av r.nv r.cv,.slice va x.v.length vc,.agg (m52 ba x.b.length bc va x.v.length vc),.map (some mb),.agg (m26),undef,undef,.int .i64 up,undef,undef,undef,undef,undef,undef,undef,undef,undef,undef,undef,undef,undef,undef,undef,undef,undef,undef,undef,undef,undef,undef,undef,undef,undef,undef,undef,undef,undef,undef,undef,undef],defers:=[] } W:=by
 have hmk:=@run_makeMap Tryz.prog
 refine cJ [9,11] (by kernel_rfl) (by simp) ?_
 refine cD 9 rfl (fun K hK=>?_) ?_
 ·obtain⟨W2,hrun,hR2⟩:=hR.ins
  go_simp
  replace hR:=hR2
  clear hR2 hrun
  refine hK.out _ _ ?_ ?_
  ·exact⟨.inl (hc0 _ hR.bel),.inl (hc1 _ hR.bel),trivial⟩
  clear hK K hmk
  simp only[Act.put,pA,pB,pC]
  refine wX 10 rfl ?_ (hQ:=fun _ _ _=>hQp _ _ _ _ _)
  exact aAp Q hQp r x up N w1 HX hc0 hc1 hQ ba bc va vc mb _ hR
 refine cD 11 rfl (fun K hK=>?_) ?_
 ·go_simp
  have hR2:=hR.m2
  replace hR:=hR2
  clear hR2
  refine hK.out _ _ ?_ ?_
  ·exact⟨.inl (hc0 _ hR.bel),.inl (hc1 _ hR.bel),trivial⟩
  clear hK K hmk
  simp only[Act.put,pA,pB,pC]
  exact uV Q hQp r x up N w1 HX hc0 hc1 hQ ba bc va vc mb _ _ hR
 exact cE
theorem aAw (mb:Nat)(hb:Nat)(W:World)(hR:OfR w1 x none none (some (mb,false)) (some hb) W):
  aB Tryz.prog .any iD Q (ofSL N r) 8 #[true,true,false,true,true,false,false,true,true,false,false,true,true,false,false,false] { tmps:=#[.agg (m01 r),.int .i64 up,.pointer (some (m00 N)),undef,.pointer none,undef,undef,undef,undef,undef,.pointer (some (m00 N)),.slice r.ab r.nb r.cb,undef,.pointer (some (m15 N)),.slice r.av r.nv r.cv,undef,undef,.map (some mb),.agg (m26),undef,.map (some hb),.int .i64 up,undef,undef,undef,undef,undef,undef,undef,undef,undef,undef,undef,undef,undef,undef,undef,undef,undef,undef,undef,undef,undef,undef,undef,undef,undef,undef,undef,undef,undef,undef,undef,undef],defers:=[] } W:=by
 have hmk:=@run_makeMap Tryz.prog
 refine cJ [2,9] (by kernel_rfl) (by simp) ?_
 refine cD 2 rfl (fun K hK=>?_) ?_
 ·go_simp
  refine(OfR.c1 HX.out hR).mono ?_;rintro e W2 ⟨ba,bc,rfl,hR2⟩
  replace hR:=hR2
  clear hR2
  refine hK.out _ _ ?_ ?_
  ·exact⟨.inl (hc0 _ hR.bel),.inl (hc1 _ hR.bel),trivial⟩
  clear hK K hmk
  simp only[Act.put,pA,pB,pC]
  exact uX Q hQp r x up N w1 HX hc0 hc1 hQ ba bc mb hb _ hR
 refine cD 9 rfl (fun K hK=>?_) ?_
 ·obtain⟨W2,hrun,hR2⟩:=hR.ins
  go_simp
  replace hR:=hR2
  clear hR2 hrun
  refine hK.out _ _ ?_ ?_
  ·exact⟨.inl (hc0 _ hR.bel),.inl (hc1 _ hR.bel),trivial⟩
  clear hK K hmk
  simp only[Act.put,pA,pB,pC]
  refine wX 10 rfl ?_ (hQ:=fun _ _ _=>hQp _ _ _ _ _)
  exact aAv Q hQp r x up N w1 HX hc0 hc1 hQ mb hb _ hR
 exact cE
theorem aIo (mb:Nat)(W:World)(hR:OfR w1 x none none (some (mb,true)) none W):
  aB Tryz.prog .any iD Q (ofSL N r) 7 #[true,true,false,true,true,false,false,true,true,true,true,false,true,false,false,false] { tmps:=#[.agg (m01 r),.int .i64 up,.pointer (some (m00 N)),undef,.pointer none,undef,undef,undef,undef,undef,.pointer (some (m00 N)),.slice r.ab r.nb r.cb,undef,.pointer (some (m15 N)),.slice r.av r.nv r.cv,undef,undef,.map (some mb),.agg (m26),.map (some mb),undef,.int .i64 up,undef,undef,undef,undef,undef,undef,undef,undef,undef,undef,undef,undef,undef,undef,undef,undef,undef,undef,undef,undef,undef,undef,undef,undef,undef,undef,undef,undef,undef,undef,undef,undef],defers:=[] } W:=by
 have hmk:=@run_makeMap Tryz.prog
 refine cJ [2,11] (by kernel_rfl) (by simp) ?_
 refine cD 2 rfl (fun K hK=>?_) ?_
 ·go_simp
  refine(OfR.c1 HX.out hR).mono ?_;rintro e W2 ⟨ba,bc,rfl,hR2⟩
  replace hR:=hR2
  clear hR2
  refine hK.out _ _ ?_ ?_
  ·exact⟨.inl (hc0 _ hR.bel),.inl (hc1 _ hR.bel),trivial⟩
  clear hK K hmk
  simp only[Act.put,pA,pB,pC]
  exact aAs Q hQp r x up N w1 HX hc0 hc1 hQ ba bc mb _ hR
 refine cD 11 rfl (fun K hK=>?_) ?_
 ·go_simp
  have hR2:=hR.m2
  replace hR:=hR2
  clear hR2
  refine hK.out _ _ ?_ ?_
  ·exact⟨.inl (hc0 _ hR.bel),.inl (hc1 _ hR.bel),trivial⟩
  clear hK K hmk
  simp only[Act.put,pA,pB,pC]
  exact aAv Q hQp r x up N w1 HX hc0 hc1 hQ mb _ _ hR
 exact cE
theorem aAu (ba:Option Addr)(bc:Nat)(hb:Nat)(W:World)(hR:OfR w1 x (some (.slice ba x.b.length bc)) none none (some hb) W):
  aB Tryz.prog .any iD Q (ofSL N r) 8 #[true,true,true,true,true,false,false,false,true,false,false,true,true,false,false,false] { tmps:=#[.agg (m01 r),.int .i64 up,.pointer (some (m00 N)),undef,.pointer none,undef,undef,undef,undef,undef,.pointer (some (m00 N)),.slice r.ab r.nb r.cb,.slice ba x.b.length bc,.pointer (some (m15 N)),.slice r.av r.nv r.cv,undef,undef,undef,.agg (m26),undef,.map (some hb),.int .i64 up,undef,undef,undef,undef,undef,undef,undef,undef,undef,undef,undef,undef,undef,undef,undef,undef,undef,undef,undef,undef,undef,undef,undef,undef,undef,undef,undef,undef,undef,undef,undef,undef],defers:=[] } W:=by
 have hmk:=@run_makeMap Tryz.prog
 refine cJ [5,7] (by kernel_rfl) (by simp) ?_
 refine cD 5 rfl (fun K hK=>?_) ?_
 ·go_simp
  refine(OfR.c2 HX.out hR).mono ?_;rintro e W2 ⟨va,vc,rfl,hR2⟩
  replace hR:=hR2
  clear hR2
  refine hK.out _ _ ?_ ?_
  ·exact⟨.inl (hc0 _ hR.bel),.inl (hc1 _ hR.bel),trivial⟩
  clear hK K hmk
  simp only[Act.put,pA,pB,pC]
  refine wX 6 rfl ?_ (hQ:=fun _ _ _=>hQp _ _ _ _ _)
  exact aAr Q hQp r x up N w1 HX hc0 hc1 hQ ba bc va vc hb _ hR
 refine cD 7 rfl (fun K hK=>?_) ?_
 ·go_simp
  have hR2:=hR.m1
  replace hR:=hR2
  clear hR2
  refine hK.out _ _ ?_ ?_
  ·exact⟨.inl (hc0 _ hR.bel),.inl (hc1 _ hR.bel),trivial⟩
  clear hK K hmk
  simp only[Act.put,pA,pB,pC]
  exact uX Q hQp r x up N w1 HX hc0 hc1 hQ ba bc _ hb _ hR
 exact cE
theorem aAt (ba:Option Addr)(bc:Nat)(mb:Nat)(W:World)(hR:OfR w1 x (some (.slice ba x.b.length bc)) none (some (mb,false)) none W):
  aB Tryz.prog .any iD Q (ofSL N r) 8 #[true,true,true,true,true,false,false,true,true,false,false,false,true,false,false,false] { tmps:=#[.agg (m01 r),.int .i64 up,.pointer (some (m00 N)),undef,.pointer none,undef,undef,undef,undef,undef,.pointer (some (m00 N)),.slice r.ab r.nb r.cb,.slice ba x.b.length bc,.pointer (some (m15 N)),.slice r.av r.nv r.cv,undef,undef,.map (some mb),.agg (m26),undef,undef,.int .i64 up,undef,undef,undef,undef,undef,undef,undef,undef,undef,undef,undef,undef,undef,undef,undef,undef,undef,undef,undef,undef,undef,undef,undef,undef,undef,undef,undef,undef,undef,undef,undef,undef],defers:=[] } W:=by
 have hmk:=@run_makeMap Tryz.prog
 refine cJ [5,9,11] (by kernel_rfl) (by simp) ?_
 refine cD 5 rfl (fun K hK=>?_) ?_
 ·go_simp
  refine(OfR.c2 HX.out hR).mono ?_;rintro e W2 ⟨va,vc,rfl,hR2⟩
  replace hR:=hR2
  clear hR2
  refine hK.out _ _ ?_ ?_
  ·exact⟨.inl (hc0 _ hR.bel),.inl (hc1 _ hR.bel),trivial⟩
  clear hK K hmk
  simp only[Act.put,pA,pB,pC]
  refine wX 6 rfl ?_ (hQ:=fun _ _ _=>hQp _ _ _ _ _)
  exact aAq Q hQp r x up N w1 HX hc0 hc1 hQ ba bc va vc mb _ hR
 refine cD 9 rfl (fun K hK=>?_) ?_
 ·obtain⟨W2,hrun,hR2⟩:=hR.ins
  go_simp
  replace hR:=hR2
  clear hR2 hrun
  refine hK.out _ _ ?_ ?_
  ·exact⟨.inl (hc0 _ hR.bel),.inl (hc1 _ hR.bel),trivial⟩
  clear hK K hmk
  simp only[Act.put,pA,pB,pC]
  refine wX 10 rfl ?_ (hQ:=fun _ _ _=>hQp _ _ _ _ _)
  exact aAs Q hQp r x up N w1 HX hc0 hc1 hQ ba bc mb _ hR
 refine cD 11 rfl (fun K hK=>?_) ?_
 ·go_simp
  have hR2:=hR.m2
  replace hR:=hR2
  clear hR2
  refine hK.out _ _ ?_ ?_
  ·exact⟨.inl (hc0 _ hR.bel),.inl (hc1 _ hR.bel),trivial⟩
  clear hK K hmk
  simp only[Act.put,pA,pB,pC]
  exact uX Q hQp r x up N w1 HX hc0 hc1 hQ ba bc mb _ _ hR
 exact cE
theorem aIm (ba:Option Addr)(bc:Nat)(va:Option Addr)(vc:Nat)(W:World)(hR:OfR w1 x (some (.slice ba x.b.length bc)) (some (.slice va x.v.length vc)) none none W):
  aB Tryz.prog .any iD Q (ofSL N r) 7 #[true,true,true,true,true,true,true,false,true,false,false,false,true,false,false,false] { tmps:=#[.agg (m01 r),.int .i64 up,.pointer (some (m00 N)),undef,.pointer none,undef,undef,undef,undef,undef,.pointer (some (m00 N)),.slice r.ab r.nb r.cb,.slice ba x.b.length bc,.pointer (some (m15 N)),.slice r.av r.nv r.cv,.slice va x.v.length vc,.agg (m52 ba x.b.length bc va x.v.length vc),undef,.agg (m26),undef,undef,.int .i64 up,undef,undef,undef,undef,undef,undef,undef,undef,undef,undef,undef,undef,undef,undef,undef,undef,undef,undef,undef,undef,undef,undef,undef,undef,undef,undef,undef,undef,undef,undef,undef,undef],defers:=[] } W:=by
 have hmk:=@run_makeMap Tryz.prog
 refine cJ [7,11] (by kernel_rfl) (by simp) ?_
 refine cD 7 rfl (fun K hK=>?_) ?_
 ·go_simp
  have hR2:=hR.m1
  replace hR:=hR2
  clear hR2
  refine hK.out _ _ ?_ ?_
  ·exact⟨.inl (hc0 _ hR.bel),.inl (hc1 _ hR.bel),trivial⟩
  clear hK K hmk
  simp only[Act.put,pA,pB,pC]
  exact aAq Q hQp r x up N w1 HX hc0 hc1 hQ ba bc va vc _ _ hR
 refine cD 11 rfl (fun K hK=>?_) ?_
 ·go_simp
  have hR2:=hR.m2
  replace hR:=hR2
  clear hR2
  refine hK.out _ _ ?_ ?_
  ·exact⟨.inl (hc0 _ hR.bel),.inl (hc1 _ hR.bel),trivial⟩
  clear hK K hmk
  simp only[Act.put,pA,pB,pC]
  exact aAr Q hQp r x up N w1 HX hc0 hc1 hQ ba bc va vc _ _ hR
 exact cE
theorem aIq (hb:Nat)(W:World)(hR:OfR w1 x none none none (some hb) W):
  aB Tryz.prog .any iD Q (ofSL N r) 9 #[true,true,false,true,true,false,false,false,true,false,false,true,true,false,false,false] { tmps:=#[.agg (m01 r),.int .i64 up,.pointer (some (m00 N)),undef,.pointer none,undef,undef,undef,undef,undef,.pointer (some (m00 N)),.slice r.ab r.nb r.cb,undef,.pointer (some (m15 N)),.slice r.av r.nv r.cv,undef,undef,undef,.agg (m26),undef,.map (some hb),.int .i64 up,undef,undef,undef,undef,undef,undef,undef,undef,undef,undef,undef,undef,undef,undef,undef,undef,undef,undef,undef,undef,undef,undef,undef,undef,undef,undef,undef,undef,undef,undef,undef,undef],defers:=[] } W:=by
 have hmk:=@run_makeMap Tryz.prog
 refine cJ [2,7] (by kernel_rfl) (by simp) ?_
 refine cD 2 rfl (fun K hK=>?_) ?_
 ·go_simp
  refine(OfR.c1 HX.out hR).mono ?_;rintro e W2 ⟨ba,bc,rfl,hR2⟩
  replace hR:=hR2
  clear hR2
  refine hK.out _ _ ?_ ?_
  ·exact⟨.inl (hc0 _ hR.bel),.inl (hc1 _ hR.bel),trivial⟩
  clear hK K hmk
  simp only[Act.put,pA,pB,pC]
  exact aAu Q hQp r x up N w1 HX hc0 hc1 hQ ba bc hb _ hR
 refine cD 7 rfl (fun K hK=>?_) ?_
 ·go_simp
  have hR2:=hR.m1
  replace hR:=hR2
  clear hR2
  refine hK.out _ _ ?_ ?_
  ·exact⟨.inl (hc0 _ hR.bel),.inl (hc1 _ hR.bel),trivial⟩
  clear hK K hmk
  simp only[Act.put,pA,pB,pC]
  exact aAw Q hQp r x up N w1 HX hc0 hc1 hQ _ hb _ hR
 exact cE
theorem aIp (mb:Nat)(W:World)(hR:OfR w1 x none none (some (mb,false)) none W):
  aB Tryz.prog .any iD Q (ofSL N r) 9 #[true,true,false,true,true,false,false,true,true,false,false,false,true,false,false,false] { tmps:=#[.agg (m01 r),.int .i64 up,.pointer (some (m00 N)),undef,.pointer none,undef,undef,undef,undef,undef,.pointer (some (m00 N)),.slice r.ab r.nb r.cb,undef,.pointer (some (m15 N)),.slice r.av r.nv r.cv,undef,undef,.map (some mb),.agg (m26),undef,undef,.int .i64 up,undef,undef,undef,undef,undef,undef,undef,undef,undef,undef,undef,undef,undef,undef,undef,undef,undef,undef,undef,undef,undef,undef,undef,undef,undef,undef,undef,undef,undef,undef,undef,undef],defers:=[] } W:=by
 have hmk:=@run_makeMap Tryz.prog
 refine cJ [2,9,11] (by kernel_rfl) (by simp) ?_
 refine cD 2 rfl (fun K hK=>?_) ?_
 ·go_simp
  refine(OfR.c1 HX.out hR).mono ?_;rintro e W2 ⟨ba,bc,rfl,hR2⟩
  replace hR:=hR2
  clear hR2
  refine hK.out _ _ ?_ ?_
  ·exact⟨.inl (hc0 _ hR.bel),.inl (hc1 _ hR.bel),trivial⟩
  clear hK K hmk
  simp only[Act.put,pA,pB,pC]
  exact aAt Q hQp r x up N w1 HX hc0 hc1 hQ ba bc mb _ hR
 refine cD 9 rfl (fun K hK=>?_) ?_
 ·obtain⟨W2,hrun,hR2⟩:=hR.ins
  go_simp
  replace hR:=hR2
  clear hR2 hrun
  refine hK.out _ _ ?_ ?_
  ·exact⟨.inl (hc0 _ hR.bel),.inl (hc1 _ hR.bel),trivial⟩
  clear hK K hmk
  simp only[Act.put,pA,pB,pC]
  refine wX 10 rfl ?_ (hQ:=fun _ _ _=>hQp _ _ _ _ _)
  exact aIo Q hQp r x up N w1 HX hc0 hc1 hQ mb _ hR
 refine cD 11 rfl (fun K hK=>?_) ?_
 ·go_simp
  have hR2:=hR.m2
  replace hR:=hR2
  clear hR2
  refine hK.out _ _ ?_ ?_
  ·exact⟨.inl (hc0 _ hR.bel),.inl (hc1 _ hR.bel),trivial⟩
  clear hK K hmk
  simp only[Act.put,pA,pB,pC]
  exact aAw Q hQp r x up N w1 HX hc0 hc1 hQ mb _ _ hR
 exact cE
theorem aIn (ba:Option Addr)(bc:Nat)(W:World)(hR:OfR w1 x (some (.slice ba x.b.length bc)) none none none W):
  aB Tryz.prog .any iD Q (ofSL N r) 9 #[true,true,true,true,true,false,false,false,true,false,false,false,true,false,false,false] { tmps:=#[.agg (m01 r),.int .i64 up,.pointer (some (m00 N)),undef,.pointer none,undef,undef,undef,undef,undef,.pointer (some (m00 N)),.slice r.ab r.nb r.cb,.slice ba x.b.length bc,.pointer (some (m15 N)),.slice r.av r.nv r.cv,undef,undef,undef,.agg (m26),undef,undef,.int .i64 up,undef,undef,undef,undef,undef,undef,undef,undef,undef,undef,undef,undef,undef,undef,undef,undef,undef,undef,undef,undef,undef,undef,undef,undef,undef,undef,undef,undef,undef,undef,undef,undef],defers:=[] } W:=by
 have hmk:=@run_makeMap Tryz.prog
 refine cJ [5,7,11] (by kernel_rfl) (by simp) ?_
 refine cD 5 rfl (fun K hK=>?_) ?_
 ·go_simp
  refine(OfR.c2 HX.out hR).mono ?_;rintro e W2 ⟨va,vc,rfl,hR2⟩
  replace hR:=hR2
  clear hR2
  refine hK.out _ _ ?_ ?_
  ·exact⟨.inl (hc0 _ hR.bel),.inl (hc1 _ hR.bel),trivial⟩
  clear hK K hmk
  simp only[Act.put,pA,pB,pC]
  refine wX 6 rfl ?_ (hQ:=fun _ _ _=>hQp _ _ _ _ _)
  exact aIm Q hQp r x up N w1 HX hc0 hc1 hQ ba bc va vc _ hR
 refine cD 7 rfl (fun K hK=>?_) ?_
 ·go_simp
  have hR2:=hR.m1
  replace hR:=hR2
  clear hR2
  refine hK.out _ _ ?_ ?_
  ·exact⟨.inl (hc0 _ hR.bel),.inl (hc1 _ hR.bel),trivial⟩
  clear hK K hmk
  simp only[Act.put,pA,pB,pC]
  exact aAt Q hQp r x up N w1 HX hc0 hc1 hQ ba bc _ _ hR
 refine cD 11 rfl (fun K hK=>?_) ?_
 ·go_simp
  have hR2:=hR.m2
  replace hR:=hR2
  clear hR2
  refine hK.out _ _ ?_ ?_
  ·exact⟨.inl (hc0 _ hR.bel),.inl (hc1 _ hR.bel),trivial⟩
  clear hK K hmk
  simp only[Act.put,pA,pB,pC]
  exact aAu Q hQp r x up N w1 HX hc0 hc1 hQ ba bc _ _ hR
 exact cE
theorem aIr (W:World)(hR:OfR w1 x none none none none W):
  aB Tryz.prog .any iD Q (ofSL N r) 10 #[true,true,false,true,true,false,false,false,true,false,false,false,true,false,false,false] { tmps:=#[.agg (m01 r),.int .i64 up,.pointer (some (m00 N)),undef,.pointer none,undef,undef,undef,undef,undef,.pointer (some (m00 N)),.slice r.ab r.nb r.cb,undef,.pointer (some (m15 N)),.slice r.av r.nv r.cv,undef,undef,undef,.agg (m26),undef,undef,.int .i64 up,undef,undef,undef,undef,undef,undef,undef,undef,undef,undef,undef,undef,undef,undef,undef,undef,undef,undef,undef,undef,undef,undef,undef,undef,undef,undef,undef,undef,undef,undef,undef,undef],defers:=[] } W:=by
 have hmk:=@run_makeMap Tryz.prog
 refine cJ [2,7,11] (by kernel_rfl) (by simp) ?_
 refine cD 2 rfl (fun K hK=>?_) ?_
 ·go_simp
  refine(OfR.c1 HX.out hR).mono ?_;rintro e W2 ⟨ba,bc,rfl,hR2⟩
  replace hR:=hR2
  clear hR2
  refine hK.out _ _ ?_ ?_
  ·exact⟨.inl (hc0 _ hR.bel),.inl (hc1 _ hR.bel),trivial⟩
  clear hK K hmk
  simp only[Act.put,pA,pB,pC]
  exact aIn Q hQp r x up N w1 HX hc0 hc1 hQ ba bc _ hR
 refine cD 7 rfl (fun K hK=>?_) ?_
 ·go_simp
  have hR2:=hR.m1
  replace hR:=hR2
  clear hR2
  refine hK.out _ _ ?_ ?_
  ·exact⟨.inl (hc0 _ hR.bel),.inl (hc1 _ hR.bel),trivial⟩
  clear hK K hmk
  simp only[Act.put,pA,pB,pC]
  exact aIp Q hQp r x up N w1 HX hc0 hc1 hQ _ _ hR
 refine cD 11 rfl (fun K hK=>?_) ?_
 ·go_simp
  have hR2:=hR.m2
  replace hR:=hR2
  clear hR2
  refine hK.out _ _ ?_ ?_
  ·exact⟨.inl (hc0 _ hR.bel),.inl (hc1 _ hR.bel),trivial⟩
  clear hK K hmk
  simp only[Act.put,pA,pB,pC]
  exact aIq Q hQp r x up N w1 HX hc0 hc1 hQ _ _ hR
 exact cE
theorem yP (hR:OfR w1 x none none none none w1.drew):(Code.region 1 iD true).wp Tryz.prog Q { tmps:=#[.agg (m01 r),.int .i64 up,.pointer (some (m00 N)),undef,.pointer none,undef,undef,undef,undef,undef,undef,undef,undef,undef,undef,undef,undef,undef,undef,undef,undef,undef,undef,undef,undef,undef,undef,undef,undef,undef,undef,undef,undef,undef,undef,undef,undef,undef,undef,undef,undef,undef,undef,undef,undef,undef,undef,undef,undef,undef,undef,undef,undef,undef],defers:=[] } w1:=by
 refine cN (ofSL N r) (by kernel_rfl) ?_
 generalize w1.drew=W0 at hR⊢
 show aB _ _ _ _ _ 16 #[false,false,false,false,false,false,false,false,false,false,false,false,false,false,false,false] _ _
 refine wX 0 rfl ?_ (hQ:=fun _ _ _=>hQp _ _ _ _ _)
 refine wY 0 1 rfl rfl (hc0 _ hR.bel) ?_ (hQ:=fun _ _ _=>hQp _ _ _ _ _)
 refine wX 3 rfl ?_ (hQ:=fun _ _ _=>hQp _ _ _ _ _)
 refine wY 1 4 rfl rfl (hc1 _ hR.bel) ?_ (hQ:=fun _ _ _=>hQp _ _ _ _ _)
 refine wX 8 rfl ?_ (hQ:=fun _ _ _=>hQp _ _ _ _ _)
 refine wX 12 rfl ?_ (hQ:=fun _ _ _=>hQp _ _ _ _ _)
 exact aIr Q hQp r x up N w1 HX hc0 hc1 hQ _ hR
end
theorem WkC.c2 {w:World}{X:Nat}{S:Nat->Prop}{k:Tp.Wk}{ab av:Option Addr}{cb cv mb hb:Nat}(h:WkC w X S k ab av cb cv mb hb):
  w.cell? (m00 X)=some (.slice ab k.b.length cb)/\w.cell? (m15 X)=some (.slice av k.v.length cv)/\w.cell? (m25 X)=some (.map (some mb))/\w.cell? (m33 X)=some (.map (some hb))/\w.cell? (m35 X)=some (.int .i64 k.upto)/\w.cell? (m65 X)=some (.bool k.full):=
 ⟨cA h.box 0,cA h.box 1,cA h.box 2,cA h.box 3,cA h.box 4,cA h.box 5⟩
def OfS (X mb B:Nat) (x0 x1 x2 x3 x4:Int) (w:World):Prop:=
 w.cell? (m25 X)=some (.map (some mb))/\w.cell? (m00 B)=some (.int .i64 x0)/\w.cell? (m15 B)=some (.int .i64 x1)/\w.cell? (m25 B)=some (.int .u64 x2)/\w.cell? (m33 B)=some (.int .u64 x3)/\w.cell? (m35 B)=some (.int .u64 x4)
theorem OfS.mk' {X mb B:Nat}{x0 x1 x2 x3 x4:Int}{w:World}{S:Nat->Prop}{k:Tp.Wk}{ab av:Option Addr}{cb cv hb:Nat}(h:WkC w X S k ab av cb cv mb hb)(hB:w.heap[B]?=some (.cells (m11 x0 x1 x2 x3 x4) 56 (0,0))):OfS X mb B x0 x1 x2 x3 x4 w:=
 ⟨h.c2.2.2.1,cA hB 0,cA hB 1,cA hB 2,cA hB 3,cA hB 4⟩
def OfS2 (X hb B:Nat) (x0 x1 x2 x3:Int) (w:World):Prop:=
 w.cell? (m33 X)=some (.map (some hb))/\w.cell? (m00 B)=some (.int .i64 x0)/\w.cell? (m15 B)=some (.int .i64 x1)/\w.cell? (m25 B)=some (.int .u64 x2)/\w.cell? (m33 B)=some (.int .u64 x3)
theorem OfS2.mk' {X mb B:Nat}{x0 x1 x2 x3:Int}{w:World}{S:Nat->Prop}{k:Tp.Wk}{ab av:Option Addr}{cb cv hb:Nat}(h:WkC w X S k ab av cb cv mb hb)(hB:w.heap[B]?=some (.cells (m12 x0 x1 x2 x3) 84 (0,0))):OfS2 X hb B x0 x1 x2 x3 w:=
 ⟨h.c2.2.2.2.1,cA hB 0,cA hB 1,cA hB 2,cA hB 3⟩
theorem aW.box {w w':World}{b B:Nat}{o:Obj}(h:aW b w w')(hne:B≠b)(hB:w.heap[B]?=some o):w'.heap[B]?=some o:=(h.other B hne).trans hB
structure OfL (w:World) (X:Nat) (r:RV) (k:Tp.Wk) (wr:World):Prop where
 bel:Below w.heap.size w wr
 box:wr.heap[w.heap.size]?=some (.cells (m01 r) 38 (0,0))
 wk:WkAt wr X (fun j=>w.heap.size+1<=j) k
theorem uS (r:RV)(x:Tp.Vw)(up:Int)(w:World)(hx:VwR w r x):
  Calls Tryz.prog 128 #[.agg (m01 r),.int .i64 up] w fun e w'=>
   ∃X,e=.returned (.pointer (some (m00 X)))/\WkAt w' X (fun j=>w.heap.size+1<=j) (Tp.wkOf x up)/\Below w.heap.size w w':=by
 have hb1:Below w.heap.size w (w.alloc (m49 r)):=(Below.refl _ w).alloc nr _
 have hs1:w.heap.size+1<=(w.alloc (m49 r)).heap.size:=by simp
 have hbx:(w.alloc (m49 r)).heap[w.heap.size]?=some (.cells (m01 r) 38 (0,0)):=heap_alloc_new w _
 go_enter Tryz.func128,Tryz.ntmps128
 go_upto_region 1 with fail
 generalize w.alloc (m49 r)=w1 at hb1 hs1 hbx⊢
 have HX:=zH (hx.keep hb1)
 have HXW:=zH hx
 have bm:=hx.ok.bm
 have vm:=hx.ok.vm
 have HX0:=zH (fun(W:World) (h:Below w1.heap.size w1 W)=>cG h hs1 hbx)
 clear hx
 have HB1:=zH hb1
 clear hb1 hbx
 go_cut [5] (fun s5 wx=>∃X,s5=.pointer (some (m00 X))/\OfL w X r ⟨x.b,x.v,[((0,0),0)],[],up,false⟩ wx)
 case first=>
  refine yP _ (fun _ _ d _ _ h=>by cases d<;>exact h) r x up w.heap.size w1 HX (fun W h=>cA (HX0.out W h) 0) (fun W h=>cA (HX0.out W h) 1) ?_ (OfR.start w1 x)
  intro ba bc va vc mb hb W hR
  have hD:=hR.done rfl rfl up (fun j=>w.heap.size+1<=j) (fun j hj=>Nat.le_trans hs1 hj)
  go_wp2_with fail
  go_meet
  exact⟨_,rfl,(bS HB1.out hR.bel).alloc (Nat.le_trans HB1.out.size hR.bel.size) _,HX0.out _ (hR.bel.alloc hR.bel.size _),hD⟩
 case rest=>
  obtain⟨X,rfl,hL⟩:=hcut
  have vb0:wc.cell? (m07 w)=some (.slice r.ab r.nb r.cb):=cA hL.box 0
  have HL:=zH hL
  clear hL
  go_wp2_with fail
  clear vb0
  go_loopw [27] (fun i wr=>∃j:Nat,j<=r.nb/\i=.int .i64 j/\OfL w X r ⟨x.b,x.v,Tp.aJ (x.b.take j),[],up,false⟩ wr) (fun i _=>r.nb-(intOf i).toNat)
  case atStart=>exact⟨0,Nat.zero_le _,rfl,HL.out⟩
  case round=>
   obtain⟨j,hj,rfl,hL⟩:=hrel
   by_cases hjn:j<r.nb
   case neg=>
    obtain rfl:j=r.nb:=by omega
    have hfin:x.b.take r.nb=x.b:=List.take_of_length_le (by rw[HXW.out.ok.b.len];exact Nat.le_refl _)
    rw[hfin]at hL
    clear hfin
    have vb1:wr.cell? (m14 w)=some (.slice r.av r.nv r.cv):=cA hL.box 1
    have HL2:=zH hL
    clear hL
    go_wp2_with fail
    clear vb1
    go_loopw [43] (fun i wr=>∃j:Nat,j<=r.nv/\i=.int .i64 j/\OfL w X r ⟨x.b,x.v,Tp.aJ x.b,Tp.fP (x.v.take j),up,false⟩ wr) (fun i _=>r.nv-(intOf i).toNat)
    case atStart=>exact⟨0,Nat.zero_le _,rfl,HL2.out⟩
    case round=>
     obtain⟨j,hj,rfl,hL⟩:=hrel
     by_cases hjn:j<r.nv
     case neg=>
      obtain rfl:j=r.nv:=by omega
      have hfin:x.v.take r.nv=x.v:=List.take_of_length_le (by rw[HXW.out.ok.v.len];exact Nat.le_refl _)
      rw[hfin]at hL
      have HL3:=zH hL
      clear hL hfin
      go_wp2
      go_ret
      exact⟨_,rfl,HL3.out.wk,HL3.out.bel⟩
     have hjl:j<x.v.length:=by rw[HXW.out.ok.v.len];exact hjn
     have hsn:=Tp.aAb x.v j hjl
     obtain⟨b,o,ha,hlt,hc⟩:∃b o,r.av=some ⟨b,o,none⟩/\b<w.heap.size/\∀i (hi:i<x.v.length) j,j<4->w.cell? (m09 b (o+i*4+j))=(aH x.v[i])[j]?:=by
      rcases HXW.out.ok.v.rows with h0|h0
      ·omega
      ·exact h0
     have hx:∀i,i<4->wr.cell? (m09 b (o+j*4+i))=(aH x.v[j])[i]?:=fun i hi=>(hL.bel.cell (p:=⟨b,_,none⟩) hlt).trans (hc j hjl i hi)
     obtain⟨⟨xf,xs,xp,xq⟩,hX⟩:∃u,x.v[j]=u:=⟨_,rfl⟩
     rw[hX]at hx hsn
     have y0:wr.cell? (m09 b (o+j*4))=some (.int .i64 xf):=hx 0 (by omega)
     have y1:wr.cell? (m09 b (o+j*4+1))=some (.int .i64 xs):=hx 1 (by omega)
     have y2:wr.cell? (m09 b (o+j*4+2))=some (.int .u64 xp):=hx 2 (by omega)
     have y3:wr.cell? (m09 b (o+j*4+3))=some (.int .u64 xq):=hx 3 (by omega)
     have HS:=zH hsn
     have HA:=zH ha
     have k0:(0:Int)<=j:=by omega
     have k1:(j:Int)<r.nv:=by omega
     obtain⟨ab,av,cb,cv,mb,hb,hC⟩:=hL.wk
     have hC1:=hC.keep (w':=(wr.alloc (.cells (m12 xf xs xp xq) 84)).drew) (fun j _ hj=>Below.heap_alloc wr _ j hj)
     have hB1:(wr.alloc (.cells (m12 xf xs xp xq) 84)).drew.heap[wr.heap.size]?=some (.cells (m12 xf xs xp xq) 84 (0,0)):=heap_alloc_new wr _
     have hsz:w.heap.size+1<=wr.heap.size:=(gS hL.box)
     have hbel1:Below w.heap.size w (wr.alloc (.cells (m12 xf xs xp xq) 84)).drew:=(hL.bel.alloc hL.bel.size _).drew
     have hbox1:(wr.alloc (.cells (m12 xf xs xp xq) 84)).drew.heap[w.heap.size]?=some (.cells (m01 r) 38 (0,0)):=(Below.heap_alloc wr _ w.heap.size hsz).trans hL.box
     have hhb:hb<wr.heap.size:=hC.oh.lt
     have hS1:=zH (OfS2.mk' hC1 hB1)
     obtain⟨w4,hrun4,hm4,ht4⟩:=hC1.oh.storeT vQ Tryz.underlying216 ⟨xf,xs,xp,xq⟩ true
     have hrun5:(Instr.mapUpdate 216 (m43 hb) (.agg (m12 xf xs xp xq)) (.bool true)).run Tryz.prog (wr.alloc (.cells (m12 xf xs xp xq) 84)).drew=.ok () w4:=hrun4
     have hC4:=hC1.putHas hm4 ht4
     have hS4:=zH (OfS2.mk' hC4 (ht4.box (by omega) hB1))
     have hL4:OfL w X r ⟨x.b,x.v,Tp.aJ x.b,Tp.fP (x.v.take (j+1)),up,false⟩ w4:=⟨hbel1.trans (ht4.below (Nat.le_trans (Nat.le_succ _) hC1.sh)),ht4.box (by have:=hC1.sh;omega) hbox1,⟨ab,av,cb,cv,mb,hb,by rw[HS.out];exact hC4⟩⟩
     have HL4:=zH hL4
     clear hx hX hsn ha hc hL hC hC1 hB1 hbel1 hbox1 hrun4 hm4 ht4 hC4 hL4
     rw[HA.out]
     go_wp2_with fail
     go_region_held3 (fun w'=>w'.cell? (m33 X)=some (.map (some hb))/\w'.cell? (m07 wr)=some (.int .i64 xf)/\w'.cell? (m14 wr)=some (.int .i64 xs)/\w'.cell? (m17 wr)=some (.int .u64 xp)/\w'.cell? (m19 wr)=some (.int .u64 xq))
      (first|exact hS1.out|exact hS4.out)
      (fail)
     go_wp2
     exact⟨⟨j+1,by omega,by go_num,HL4.out⟩,by simp[intOf];omega⟩
   have hjl:j<x.b.length:=by rw[HXW.out.ok.b.len];exact hjn
   have hsn:=Tp.sS x.b j hjl
   obtain⟨b,o,ha,hlt,hc⟩:∃b o,r.ab=some ⟨b,o,none⟩/\b<w.heap.size/\∀i (hi:i<x.b.length) j,j<5->w.cell? (m09 b (o+i*5+j))=(aK x.b[i])[j]?:=by
    rcases HXW.out.ok.b.rows with h0|h0
    ·omega
    ·exact h0
   have hx:∀i,i<5->wr.cell? (m09 b (o+j*5+i))=(aK x.b[j])[i]?:=fun i hi=>(hL.bel.cell (p:=⟨b,_,none⟩) hlt).trans (hc j hjl i hi)
   have hU:=HXW.out.ok.u _ (List.getElem_mem hjl)
   obtain⟨⟨xs,xf,xp,xq,xt⟩,hX⟩:∃u,x.b[j]=u:=⟨_,rfl⟩
   rw[hX]at hx hsn hU
   have y0:wr.cell? (m09 b (o+j*5))=some (.int .i64 xs):=hx 0 (by omega)
   have y1:wr.cell? (m09 b (o+j*5+1))=some (.int .i64 xf):=hx 1 (by omega)
   have y2:wr.cell? (m09 b (o+j*5+2))=some (.int .u64 xp):=hx 2 (by omega)
   have y3:wr.cell? (m09 b (o+j*5+3))=some (.int .u64 xq):=hx 3 (by omega)
   have y4:wr.cell? (m09 b (o+j*5+4))=some (.int .u64 xt):=hx 4 (by omega)
   obtain⟨⟨z0,z1⟩,hz⟩:∃y,Tp.name ⟨xs,xf,xp,xq,xt⟩=y:=⟨_,rfl⟩
   rw[hz]at hsn
   have HZ:=zH hz
   have HS:=zH hsn
   have HA:=zH ha
   have k0:(0:Int)<=j:=by omega
   have k1:(j:Int)<r.nb:=by omega
   obtain⟨ab,av,cb,cv,mb,hb,hC⟩:=hL.wk
   have hC1:=hC.keep (w':=(wr.alloc (.cells (m11 xs xf xp xq xt) 56)).drew) (fun j _ hj=>Below.heap_alloc wr _ j hj)
   have hB1:(wr.alloc (.cells (m11 xs xf xp xq xt) 56)).drew.heap[wr.heap.size]?=some (.cells (m11 xs xf xp xq xt) 56 (0,0)):=heap_alloc_new wr _
   have hsz:w.heap.size+1<=wr.heap.size:=(gS hL.box)
   have hbel1:Below w.heap.size w (wr.alloc (.cells (m11 xs xf xp xq xt) 56)).drew:=(hL.bel.alloc hL.bel.size _).drew
   have hbox1:(wr.alloc (.cells (m11 xs xf xp xq xt) 56)).drew.heap[w.heap.size]?=some (.cells (m01 r) 38 (0,0)):=(Below.heap_alloc wr _ w.heap.size hsz).trans hL.box
   have hmb:mb<wr.heap.size:=hC.om.lt
   have hS1:=zH (OfS.mk' hC1 hB1)
   have HC1:=zH hC1
   have HB1':=zH hB1
   have HBEL1:=zH hbel1
   have HBOX1:=zH hbox1
   clear hx hX hsn ha hc hL hC hC1 hB1 hbel1 hbox1 hz
   rw[HA.out]
   go_wp2_with fail
   generalize wr.alloc (.cells (m11 xs xf xp xq xt) 56)=w5 at HC1 HB1' HBEL1 HBOX1 hS1⊢
   go_region_held3 (fun w'=>w'.cell? (m25 X)=some (.map (some mb))/\w'.cell? (m07 wr)=some (.int .i64 xs)/\w'.cell? (m14 wr)=some (.int .i64 xf)/\w'.cell? (m17 wr)=some (.int .u64 xp)/\w'.cell? (m19 wr)=some (.int .u64 xq)/\w'.cell? (m27 wr)=some (.int .u64 xt))
    (first|exact hS1.out|exact hS2.out|exact hS4.out)
    (first
     |(go_at_call 18;refine(gD xs xf xp xq xt _ hU.1 hU.2.1 hU.2.2 z0 z1 HZ).mono ?_;rintro e w2 ⟨rfl,hb2⟩;have hC2:=HC1.out.keep (w':=w2) (fun j _ hj=>hb2.block j hj);have hB2:=bK hb2 HB1'.out;have hS2:=zH (OfS.mk' hC2 hB2);obtain⟨w4,hrun4,hm4,ht4⟩:=hC2.om.storeT fC Tryz.underlying75 (z0,z1) xs;have hrun5:(Instr.mapUpdate 75 (m43 mb) (m67 z0 z1) (m30 xs)).run Tryz.prog w2=.ok () w4:=hrun4;have hC4:=hC2.putSlot hm4 ht4;have hS4:=zH (OfS.mk' hC4 (ht4.box (by omega) hB2));have HL4:Hid (OfL w X r ⟨x.b,x.v,Tp.aJ (x.b.take (j+1)),[],up,false⟩ w4):=zH ⟨(HBEL1.out.trans (hb2.mono HBEL1.out.size)).trans (ht4.below (Nat.le_trans (Nat.le_succ _) hC2.sm)),ht4.box (by have:=hC2.sm;omega) (bK hb2 HBOX1.out),⟨ab,av,cb,cv,mb,hb,by rw[HS.out];exact hC4⟩⟩;clear hC2 hB2 hrun4 hm4 ht4 hC4))
   go_wp2
   exact⟨⟨j+1,by omega,by go_num,HL4.out⟩,by simp[intOf];omega⟩
structure aC (S:Nat->Prop) (w w':World):Prop where
 os:w'.os=w.os
 tape:w'.tape=w.tape
 output:w'.output=w.output
 size:w.heap.size<=w'.heap.size
 block:∀j,j<w.heap.size->¬S j->w'.heap[j]?=w.heap[j]?
theorem aC.refl (S:Nat->Prop)(w:World):aC S w w:=⟨rfl,rfl,rfl,Nat.le_refl _,fun _ _ _=>rfl⟩
theorem aC.trans {S:Nat->Prop}{a b c:World}(h:aC S a b)(k:aC S b c):aC S a c:=
 ⟨k.os.trans h.os,k.tape.trans h.tape,k.output.trans h.output,Nat.le_trans h.size k.size,fun j hj hn=>(k.block j (Nat.lt_of_lt_of_le hj h.size) hn).trans (h.block j hj hn)⟩
theorem cQ {S:Nat->Prop}{w w':World}(h:Below w.heap.size w w'):aC S w w':=⟨h.os,h.tape,h.output,h.size,fun j hj _=>h.block j hj⟩
theorem aC.of_grown {S:Nat->Prop}{w w':World}{row:Option Nat}(h:w.grownBy w' row)(hr:∀g,row=some g->S g):aC S w w':=
 ⟨h.1,h.2,h.3,h.4,fun j hj hn=>h.5 j hj (fun e=>hn (hr j e.symm))⟩
theorem aC.of_turn {S:Nat->Prop}{w w':World}{b:Nat}(h:aW b w w')(hb:S b):aC S w w':=by
 obtain⟨o,h⟩:=h
 exact aC.of_grown (row:=some b) h.grown (fun g e=>by cases e;exact hb)
theorem cL {S:Nat->Prop}{w w':World}{b:Nat}{o:Obj}(h:cT b o w w')(hb:S b):aC S w w':=aC.of_turn ⟨o,h⟩ hb
theorem aC.below {S:Nat->Prop}{w w':World}{N:Nat}(h:aC S w w')(hN:N<=w.heap.size)(hS:∀j,S j->N<=j):Below N w w':=
 ⟨h.os,h.tape,h.output,h.size,fun j hj=>h.block j (Nat.lt_of_lt_of_le hj hN) (fun hs=>by have:=hS j hs;omega)⟩
theorem aC.wide {S S':Nat->Prop}{w w':World}(h:aC S w w')(hs:∀j,S j->S' j):aC S' w w':=⟨h.os,h.tape,h.output,h.size,fun j hj hn=>h.block j hj (fun h2=>hn (hs j h2))⟩
theorem OwnL.ty {α:Type}{f:α->List Value}{k:Nat}{e:TypeId}{w:World}{base:Nat}{v:Value}{l:List α}(h:OwnL f k e w base v l){g:Nat}(hg:v.ownBlock=some g):∃cur,w.heap[g]?=some (.cells cur e (0,0)):=by
 rcases h.2 with⟨rfl,_⟩|⟨g2,cap,cur,rfl,_,hh,_⟩
 ·cases hg
 ·simp only[Value.ownBlock,Option.some.injEq]at hg
  subst hg
  exact⟨cur,hh⟩
theorem iN {w:World}{X i:Nat}{cs:Array Value}{t:TypeId}{v:Value}(hb:w.heap[X]?=some (.cells cs t (0,0)))(hi:i<cs.size):
  cT X (.cells (cs.setIfInBounds i v) t (0,0)) w (w.setCell (m09 X i) v):=by
 have hX:=(gS hb)
 refine⟨rfl,rfl,rfl,by simp[World.setCell],?_,?_⟩
 ·simp only[World.setCell,Array.getElem?_modify,hb]
  simp
 ·intro k hk
  rw[Below.heap_setCell _ _ _ _ hk]
theorem WkC.pushB {w:World}{X:Nat}{S:Nat->Prop}{k:Tp.Wk}{ab av:Option Addr}{cb cv mb hb:Nat}(h:WkC w X S k ab av cb cv mb hb)(hS:∀j,w.heap.size<=j->S j){o:Obj}{g cap:Nat}{w5:World}(x:Tp.B)(hown:w5.ownsRow 0 56 5 (.slice (some (m00 g)) (k.b.length+1) cap) (k.b.length+1) (k.b.flatMap aK++aK x))(hg:(w.alloc o).grownBy w5 (Value.slice ab k.b.length cb).ownBlock)(hat:(Value.slice ab k.b.length cb).ownBlock=some g\/g=w.heap.size+1):
  WkC (w5.setCell (m00 X) (.slice (some (m00 g)) (k.b.length+1) cap)) X S { k with b:=k.b++[x] } (some ⟨g,0,none⟩) av cap cv mb hb/\aC S w (w5.setCell (m00 X) (.slice (some (m00 g)) (k.b.length+1) cap)):=by
 have hSg:S g:=hat.elim (fun e=>h.sb g e) (fun e=>hS g (by omega))
 have hne:∀j,j<w.heap.size->(∀cur,w.heap[j]?≠some (.cells cur 56 (0,0)))->w5.heap[j]?=w.heap[j]?:=fun j hj hn=>
  bJ hg hj (fun e=>by obtain⟨cur,hc⟩:=h.ob.ty e.symm;exact hn cur hc)
 have hXl:=(gS h.box)
 have hbox5:=(hne X hXl (fun cur e=>by rw[h.box]at e;cases e)).trans h.box
 have T:=iN (i:=0) (v:=.slice (some (m00 g)) (k.b.length+1) cap) hbox5 (by simp)
 have hXg:X≠g:=fun e=>by
  subst e
  have hh:=OwnL.ty (f:=aK) (k:=5) (l:=k.b++[x]) (OwnL.snoc hown rfl) rfl
  obtain⟨cur,hc⟩:=hh
  rw[hbox5]at hc
  cases hc
 have hoth:∀j,j<w.heap.size->j≠X->(∀cur,w.heap[j]?≠some (.cells cur 56 (0,0)))->(w5.setCell (m00 X) (.slice (some (m00 g)) (k.b.length+1) cap)).heap[j]?=w.heap[j]?:=fun j hj hjX hn=>(T.block j hjX).trans (hne j hj hn)
 obtain⟨es,c,hm⟩:=h.om.has
 obtain⟨es2,c2,hh2⟩:=h.oh.has
 refine⟨⟨?_,?_,?_,?_,?_,h.ne,h.sx,h.sm,h.sh,?_,h.sv⟩,?_⟩
 ·refine(T.new).trans ?_
  simp
 ·have:=OwnL.snoc (l:=k.b) (x:=x) hown rfl
  rw[show(k.b++[x]).length=k.b.length+1 from by simp]
  exact this.same fun j hj=>T.block j (fun e=>hXg (by simp only[Value.ownBlock,Option.some.injEq]at hj;omega))
 ·refine h.ov.same fun j hj=>hoth j (h.ov.lt j hj).2 ?_ ?_
  ·intro e
   obtain⟨cur,hc⟩:=h.ov.ty hj
   rw[e,h.box]at hc
   cases hc
  ·intro cur e
   obtain⟨cur2,hc⟩:=h.ov.ty hj
   rw[e]at hc
   cases hc
 ·refine h.om.same (hoth mb h.om.lt ?_ ?_)
  ·intro e;rw[e,h.box]at hm;cases hm
  ·intro cur e;rw[e]at hm;cases hm
 ·refine h.oh.same (hoth hb h.oh.lt ?_ ?_)
  ·intro e;rw[e,h.box]at hh2;cases hh2
  ·intro cur e;rw[e]at hh2;cases hh2
 ·intro j hj
  simp only[Value.ownBlock,Option.some.injEq]at hj
  subst hj
  exact hSg
 ·exact((cQ ((Below.refl _ _).alloc nr _)).trans (aC.of_grown hg h.sb)).trans (cL T h.sx)
theorem WkC.pushV {w:World}{X:Nat}{S:Nat->Prop}{k:Tp.Wk}{ab av:Option Addr}{cb cv mb hb:Nat}(h:WkC w X S k ab av cb cv mb hb)(hS:∀j,w.heap.size<=j->S j){o:Obj}{g cap:Nat}{w5:World}(x:Tp.V)(hown:w5.ownsRow 0 84 4 (.slice (some (m00 g)) (k.v.length+1) cap) (k.v.length+1) (k.v.flatMap aH++aH x))(hg:(w.alloc o).grownBy w5 (Value.slice av k.v.length cv).ownBlock)(hat:(Value.slice av k.v.length cv).ownBlock=some g\/g=w.heap.size+1):
  WkC (w5.setCell (m15 X) (.slice (some (m00 g)) (k.v.length+1) cap)) X S { k with v:=k.v++[x] } ab (some ⟨g,0,none⟩) cb cap mb hb/\aC S w (w5.setCell (m15 X) (.slice (some (m00 g)) (k.v.length+1) cap)):=by
 have hSg:S g:=hat.elim (fun e=>h.sv g e) (fun e=>hS g (by omega))
 have hne:∀j,j<w.heap.size->(∀cur,w.heap[j]?≠some (.cells cur 84 (0,0)))->w5.heap[j]?=w.heap[j]?:=fun j hj hn=>
  bJ hg hj (fun e=>by obtain⟨cur,hc⟩:=h.ov.ty e.symm;exact hn cur hc)
 have hXl:=(gS h.box)
 have hbox5:=(hne X hXl (fun cur e=>by rw[h.box]at e;cases e)).trans h.box
 have T:=iN (i:=1) (v:=.slice (some (m00 g)) (k.v.length+1) cap) hbox5 (by simp)
 have hXg:X≠g:=fun e=>by
  subst e
  have hh:=OwnL.ty (f:=aH) (k:=4) (l:=k.v++[x]) (OwnL.snoc hown rfl) rfl
  obtain⟨cur,hc⟩:=hh
  rw[hbox5]at hc
  cases hc
 have hoth:∀j,j<w.heap.size->j≠X->(∀cur,w.heap[j]?≠some (.cells cur 84 (0,0)))->(w5.setCell (m15 X) (.slice (some (m00 g)) (k.v.length+1) cap)).heap[j]?=w.heap[j]?:=fun j hj hjX hn=>(T.block j hjX).trans (hne j hj hn)
 obtain⟨es,c,hm⟩:=h.om.has
 obtain⟨es2,c2,hh2⟩:=h.oh.has
 refine⟨⟨?_,?_,?_,?_,?_,h.ne,h.sx,h.sm,h.sh,h.sb,?_⟩,?_⟩
 ·refine(T.new).trans ?_
  simp
 ·refine h.ob.same fun j hj=>hoth j (h.ob.lt j hj).2 ?_ ?_
  ·intro e
   obtain⟨cur,hc⟩:=h.ob.ty hj
   rw[e,h.box]at hc
   cases hc
  ·intro cur e
   obtain⟨cur2,hc⟩:=h.ob.ty hj
   rw[e]at hc
   cases hc
 ·have:=OwnL.snoc (l:=k.v) (x:=x) hown rfl
  rw[show(k.v++[x]).length=k.v.length+1 from by simp]
  exact this.same fun j hj=>T.block j (fun e=>hXg (by simp only[Value.ownBlock,Option.some.injEq]at hj;omega))
 ·refine h.om.same (hoth mb h.om.lt ?_ ?_)
  ·intro e;rw[e,h.box]at hm;cases hm
  ·intro cur e;rw[e]at hm;cases hm
 ·refine h.oh.same (hoth hb h.oh.lt ?_ ?_)
  ·intro e;rw[e,h.box]at hh2;cases hh2
  ·intro cur e;rw[e]at hh2;cases hh2
 ·intro j hj
  simp only[Value.ownBlock,Option.some.injEq]at hj
  subst hj
  exact hSg
 ·exact((cQ ((Below.refl _ _).alloc nr _)).trans (aC.of_grown hg h.sv)).trans (cL T h.sx)
theorem WkC.setFull {w:World}{X:Nat}{S:Nat->Prop}{k:Tp.Wk}{ab av:Option Addr}{cb cv mb hb:Nat}(h:WkC w X S k ab av cb cv mb hb)(f:Bool):
  WkC (w.setCell (m65 X) (.bool f)) X S { k with full:=f } ab av cb cv mb hb/\aC S w (w.setCell (m65 X) (.bool f)):=by
 have T:=iN (i:=5) (v:=.bool f) h.box (by simp)
 obtain⟨es,c,hm⟩:=h.om.has
 obtain⟨es2,c2,hh2⟩:=h.oh.has
 refine⟨⟨?_,h.ob.same fun j hj=>T.block j ?_,h.ov.same fun j hj=>T.block j ?_,h.om.same (T.block mb ?_),h.oh.same (T.block hb ?_),h.ne,h.sx,h.sm,h.sh,h.sb,h.sv⟩,cL T h.sx⟩
 ·refine(T.new).trans ?_
  simp
 ·intro e
  obtain⟨cur,hc⟩:=h.ob.ty hj
  rw[e,h.box]at hc
  cases hc
 ·intro e
  obtain⟨cur,hc⟩:=h.ov.ty hj
  rw[e,h.box]at hc
  cases hc
 ·intro e;rw[e,h.box]at hm;cases hm
 ·intro e;rw[e,h.box]at hh2;cases hh2
namespace Tp
def aG (k:Wk) (b:B):Bool×Wk:=
 if(at_ k.slot (name b)).isSome then(true,k)else
 match at_ k.slot (b.p,b.q)with
 |none=>(false,k)
 |some s=>if b.slot<=s then(true,k)else if k.upto<b.slot then(false,k)else if 60<=k.b.length then(false,{ k with full:=true })
  else(true,{ k with b:=k.b++[b],slot:=put k.slot (name b) b.slot })
def aM (k:Wk) (v:V):Bool×Wk:=
 if(at_ k.has v).getD false then(true,k)else
 match at_ k.slot (v.p,v.q)with
 |none=>(false,k)
 |some s=>if v.slot<s then(true,k)else if k.upto<v.slot then(false,k)else if 240<=k.v.length then(false,{ k with full:=true })
  else(true,{ k with v:=k.v++[v],has:=put k.has v true })
def Wk.T (k:Wk):Prop:=∀v b,at_ k.has v=some b->b=true
end Tp
theorem mK (X:Nat)(S:Nat->Prop)(k:Tp.Wk)(n m:Int)(w:World)(h:WkAt w X S k):
  Calls Tryz.prog 148 #[.pointer (some (m00 X)),.int .i64 n,.int .i64 m] w fun e w'=>e=.returned (.bool (decide (n<m)))/\w'=w.setCell (m65 X) (.bool (k.full||decide (m<=n))):=by
 obtain⟨ab,av,cb,cv,mb,hb,hC⟩:=h
 obtain⟨-,-,-,-,-,c5⟩:=hC.c2
 have f5:=cH hC.box 5
 clear hC
 obtain⟨fl,hfl⟩:∃f,k.full=f:=⟨_,rfl⟩
 rw[hfl]at c5⊢
 clear hfl
 obtain⟨b,hb1⟩:∃b,decide (m<=n)=b:=⟨_,rfl⟩
 have hb2:decide (n≥m)=b:=hb1
 rw[hb1]
 cases fl
 all_goals
  go_enter Tryz.func148,Tryz.ntmps148
  go_wp2
  go_ret
  exact⟨rfl,by simp⟩
def BkS (X B N mb:Nat) (x0 x1 x2 x3 x4 z0 z1 up:Int) (v1 v2:Value) (W:World):Prop:=
 W.cell? (m25 X)=some (.map (some mb))/\W.cell? (m35 X)=some (.int .i64 up)/\W.cell? (m00 B)=some (.int .i64 x0)/\W.cell? (m15 B)=some (.int .i64 x1)/\W.cell? (m25 B)=some (.int .u64 x2)/\W.cell? (m33 B)=some (.int .u64 x3)/\W.cell? (m35 B)=some (.int .u64 x4)/\W.cell? (m00 N)=some (.int .u64 z0)/\W.cell? (m15 N)=some (.int .u64 z1)/\
 (Instr.lookup 75 (m43 mb) (m67 z0 z1) true).run Tryz.prog W=.ok v1 W/\(Instr.lookup 75 (m43 mb) (m67 x2 x3) true).run Tryz.prog W=.ok v2 W
def rC (o:Option Int):Value:=.tuple #[(o.map intV).getD (.int .i64 0),.bool o.isSome]
theorem BkS.mk' {w:World}{X:Nat}{S:Nat->Prop}{k:Tp.Wk}{ab av:Option Addr}{cb cv mb hb:Nat}(h:WkC w X S k ab av cb cv mb hb){B N:Nat}{x0 x1 x2 x3 x4 z0 z1:Int}(hB:w.heap[B]?=some (.cells (m11 x0 x1 x2 x3 x4) 56 (0,0)))(hN:w.heap[N]?=some (.cells (m08 z0 z1) 40 (0,0))):
  BkS X B N mb x0 x1 x2 x3 x4 z0 z1 k.upto (rC (Tp.at_ k.slot (z0,z1))) (rC (Tp.at_ k.slot (x2,x3))) w:=
 ⟨h.c2.2.2.1,h.c2.2.2.2.2.1,cA hB 0,cA hB 1,cA hB 2,cA hB 3,cA hB 4,cA hN 0,cA hN 1,(h.om.map.look fC Tryz.underlying75 (dK _) (z0,z1) true),(h.om.map.look fC Tryz.underlying75 (dK _) (x2,x3) true)⟩
def BkQ (X B N mb:Nat) (x0 x1 x2 x3 x4 z0 z1:Int) (W:World):Prop:=W.cell? (m25 X)=some (.map (some mb))/\(W.cell? (m00 N)=some (.int .u64 z0)/\W.cell? (m15 N)=some (.int .u64 z1))/\(W.cell? (m00 B)=some (.int .i64 x0)/\W.cell? (m15 B)=some (.int .i64 x1)/\W.cell? (m25 B)=some (.int .u64 x2)/\W.cell? (m33 B)=some (.int .u64 x3)/\W.cell? (m35 B)=some (.int .u64 x4))/\W.cell? (m00 B)=some (.int .i64 x0)
theorem BkQ.mk' {w:World}{X:Nat}{S:Nat->Prop}{k:Tp.Wk}{ab av:Option Addr}{cb cv mb hb:Nat}(h:WkC w X S k ab av cb cv mb hb){B N:Nat}{x0 x1 x2 x3 x4 z0 z1:Int}(hB:w.heap[B]?=some (.cells (m11 x0 x1 x2 x3 x4) 56 (0,0)))(hN:w.heap[N]?=some (.cells (m08 z0 z1) 40 (0,0))):BkQ X B N mb x0 x1 x2 x3 x4 z0 z1 w:=
 ⟨h.c2.2.2.1,⟨cA hN 0,cA hN 1⟩,⟨cA hB 0,cA hB 1,cA hB 2,cA hB 3,cA hB 4⟩,cA hB 0⟩
def VtQ (X B hb:Nat) (x0 x1 x2 x3:Int) (W:World):Prop:=W.cell? (m33 X)=some (.map (some hb))/\(W.cell? (m00 B)=some (.int .i64 x0)/\W.cell? (m15 B)=some (.int .i64 x1)/\W.cell? (m25 B)=some (.int .u64 x2)/\W.cell? (m33 B)=some (.int .u64 x3))/\(W.cell? (m00 B)=some (.int .i64 x0)/\W.cell? (m15 B)=some (.int .i64 x1)/\W.cell? (m25 B)=some (.int .u64 x2)/\W.cell? (m33 B)=some (.int .u64 x3))
theorem VtQ.mk' {w:World}{X:Nat}{S:Nat->Prop}{k:Tp.Wk}{ab av:Option Addr}{cb cv mb hb:Nat}(h:WkC w X S k ab av cb cv mb hb){B:Nat}{x0 x1 x2 x3:Int}(hB:w.heap[B]?=some (.cells (m12 x0 x1 x2 x3) 84 (0,0))):VtQ X B hb x0 x1 x2 x3 w:=
 ⟨h.c2.2.2.2.1,⟨cA hB 0,cA hB 1,cA hB 2,cA hB 3⟩,⟨cA hB 0,cA hB 1,cA hB 2,cA hB 3⟩⟩
theorem aKv {w3:World}{X:Nat}{S:Nat->Prop}{k:Tp.Wk}{ab av:Option Addr}{cb cv mb hb:Nat}(h:WkC w3 X S k ab av cb cv mb hb)(hS:∀j,w3.heap.size<=j->S j){B N:Nat}{x0 x1 x2 x3 x4 z0 z1:Int}(hBS:¬S B)(hNS:¬S N)(hB:w3.heap[B]?=some (.cells (m11 x0 x1 x2 x3 x4) 56 (0,0)))(hN:w3.heap[N]?=some (.cells (m08 z0 z1) 40 (0,0)))(hno:Tp.at_ k.slot (z0,z1)=none){o:Obj}{g cap:Nat}{w5:World}(hown:w5.ownsRow 0 56 5 (.slice (some (m00 g)) (k.b.length+1) cap) (k.b.length+1) (k.b.flatMap aK++aK ⟨x0,x1,x2,x3,x4⟩))(hg:(w3.alloc o).grownBy w5 (Value.slice ab k.b.length cb).ownBlock)(hat:(Value.slice ab k.b.length cb).ownBlock=some g\/g=w3.heap.size+1):
  ∃(st:Nat) (w7 w8:World),(WkC w8 X S { k with b:=k.b++[⟨x0,x1,x2,x3,x4⟩],slot:=Tp.put k.slot (z0,z1) x0 } (some ⟨g,0,none⟩) av cap cv mb hb/\aC S w3 w8)/\
   (Instr.mapEntry 75 (m43 mb) (m67 z0 z1)).run Tryz.prog (w5.setCell (m00 X) (.slice (some (m00 g)) (k.b.length+1) cap))=.ok (.tuple #[.int .i64 0,.int .i64 st]) w7/\
   (Instr.entryStore 75 (m43 mb) (m30 st) (m30 x0)).run Tryz.prog w7=.ok () w8/\
   BkQ X B N mb x0 x1 x2 x3 x4 z0 z1 w5/\BkQ X B N mb x0 x1 x2 x3 x4 z0 z1 (w5.setCell (m00 X) (.slice (some (m00 g)) (k.b.length+1) cap))/\BkQ X B N mb x0 x1 x2 x3 x4 z0 z1 w7/\BkQ X B N mb x0 x1 x2 x3 x4 z0 z1 w8/\
   w5.cell? (m00 X)=some (.slice ab k.b.length cb)/\w5.frozen? (m00 X)=false:=by
 obtain⟨hC6,hK6⟩:=h.pushB hS ⟨x0,x1,x2,x3,x4⟩ hown hg hat
 obtain⟨st,w7,w8,hr1,hr2,ht7,ht8,hm8⟩:=hC6.om.entry fC Tryz.underlying75 dK (z0,z1) x0 hno
 have hC8:=hC6.putSlot hm8 ht8
 have hK8:=hK6.trans (aC.of_turn ht8 hC6.sm)
 have hK7:=hK6.trans (aC.of_turn ht7 hC6.sm)
 have hK5:aC S w3 w5:=(cQ ((Below.refl _ _).alloc nr _)).trans (aC.of_grown hg h.sb)
 have hX5:w5.heap[X]?=w3.heap[X]?:=bJ hg (gS h.box) (fun e=>by
  obtain⟨cur,hc⟩:=h.ob.ty e.symm
  rw[h.box]at hc
  cases hc)
 have hbox5:=hX5.trans h.box
 have hBl:=(gS hB)
 have hNl:=(gS hN)
 have b5:=(hK5.block B hBl hBS).trans hB
 have n5:=(hK5.block N hNl hNS).trans hN
 have b6:=(hK6.block B hBl hBS).trans hB
 have n6:=(hK6.block N hNl hNS).trans hN
 have b7:=(hK7.block B hBl hBS).trans hB
 have n7:=(hK7.block N hNl hNS).trans hN
 have b8:=(hK8.block B hBl hBS).trans hB
 have n8:=(hK8.block N hNl hNS).trans hN
 have x7:w7.cell? (m25 X)=some (.map (some mb)):=by
  rw[ht7.cell (m25 X) (fun e=>by
   obtain⟨es,c,hmm⟩:=hC6.om.has
   have e2:X=mb:=e
   rw[<-e2,hC6.box]at hmm
   cases hmm)]
  exact hC6.c2.2.2.1
 exact⟨st,w7,w8,⟨hC8,hK8⟩,hr1,hr2,⟨cA hbox5 2,⟨cA n5 0,cA n5 1⟩,⟨cA b5 0,cA b5 1,cA b5 2,cA b5 3,cA b5 4⟩,cA b5 0⟩,BkQ.mk' hC6 b6 n6,
  ⟨x7,⟨cA n7 0,cA n7 1⟩,⟨cA b7 0,cA b7 1,cA b7 2,cA b7 3,cA b7 4⟩,cA b7 0⟩,BkQ.mk' hC8 b8 n8,cA hbox5 0,cH hbox5 0⟩
theorem aIt {w3:World}{X:Nat}{S:Nat->Prop}{k:Tp.Wk}{ab av:Option Addr}{cb cv mb hb:Nat}(h:WkC w3 X S k ab av cb cv mb hb)(hS:∀j,w3.heap.size<=j->S j){B:Nat}{x0 x1 x2 x3:Int}(hBS:¬S B)(hB:w3.heap[B]?=some (.cells (m12 x0 x1 x2 x3) 84 (0,0)))(hno:Tp.at_ k.has ⟨x0,x1,x2,x3⟩=none){o:Obj}{g cap:Nat}{w5:World}(hown:w5.ownsRow 0 84 4 (.slice (some (m00 g)) (k.v.length+1) cap) (k.v.length+1) (k.v.flatMap aH++aH ⟨x0,x1,x2,x3⟩))(hg:(w3.alloc o).grownBy w5 (Value.slice av k.v.length cv).ownBlock)(hat:(Value.slice av k.v.length cv).ownBlock=some g\/g=w3.heap.size+1):
  ∃(st:Nat) (w7 w8:World),(WkC w8 X S { k with v:=k.v++[⟨x0,x1,x2,x3⟩],has:=Tp.put k.has ⟨x0,x1,x2,x3⟩ true } ab (some ⟨g,0,none⟩) cb cap mb hb/\aC S w3 w8)/\
   (Instr.mapEntry 216 (m43 hb) (.agg (m12 x0 x1 x2 x3))).run Tryz.prog (w5.setCell (m15 X) (.slice (some (m00 g)) (k.v.length+1) cap))=.ok (.tuple #[.bool false,.int .i64 st]) w7/\
   (Instr.entryStore 216 (m43 hb) (m30 st) (.bool true)).run Tryz.prog w7=.ok () w8/\
   VtQ X B hb x0 x1 x2 x3 w5/\VtQ X B hb x0 x1 x2 x3 (w5.setCell (m15 X) (.slice (some (m00 g)) (k.v.length+1) cap))/\VtQ X B hb x0 x1 x2 x3 w7/\VtQ X B hb x0 x1 x2 x3 w8/\
   w5.cell? (m15 X)=some (.slice av k.v.length cv)/\w5.frozen? (m15 X)=false:=by
 obtain⟨hC6,hK6⟩:=h.pushV hS ⟨x0,x1,x2,x3⟩ hown hg hat
 obtain⟨st,w7,w8,hr1,hr2,ht7,ht8,hm8⟩:=hC6.oh.entry vQ Tryz.underlying216 jD ⟨x0,x1,x2,x3⟩ true hno
 have hC8:=hC6.putHas hm8 ht8
 have hK8:=hK6.trans (aC.of_turn ht8 hC6.sh)
 have hK7:=hK6.trans (aC.of_turn ht7 hC6.sh)
 have hK5:aC S w3 w5:=(cQ ((Below.refl _ _).alloc nr _)).trans (aC.of_grown hg h.sv)
 have hX5:w5.heap[X]?=w3.heap[X]?:=bJ hg (gS h.box) (fun e=>by
  obtain⟨cur,hc⟩:=h.ov.ty e.symm
  rw[h.box]at hc
  cases hc)
 have hbox5:=hX5.trans h.box
 have hBl:=(gS hB)
 have b5:=(hK5.block B hBl hBS).trans hB
 have b6:=(hK6.block B hBl hBS).trans hB
 have b7:=(hK7.block B hBl hBS).trans hB
 have b8:=(hK8.block B hBl hBS).trans hB
 have x7:w7.cell? (m33 X)=some (.map (some hb)):=by
  rw[ht7.cell (m33 X) (fun e=>by
   obtain⟨es,c,hmm⟩:=hC6.oh.has
   have e2:X=hb:=e
   rw[<-e2,hC6.box]at hmm
   cases hmm)]
  exact hC6.c2.2.2.2.1
 exact⟨st,w7,w8,⟨hC8,hK8⟩,hr1,hr2,⟨cA hbox5 3,⟨cA b5 0,cA b5 1,cA b5 2,cA b5 3⟩,⟨cA b5 0,cA b5 1,cA b5 2,cA b5 3⟩⟩,VtQ.mk' hC6 b6,
  ⟨x7,⟨cA b7 0,cA b7 1,cA b7 2,cA b7 3⟩,⟨cA b7 0,cA b7 1,cA b7 2,cA b7 3⟩⟩,VtQ.mk' hC8 b8,cA hbox5 1,cH hbox5 1⟩
theorem aC.same {S:Nat->Prop}{w w':World}(h1:w'.os=w.os)(h2:w'.tape=w.tape)(h3:w'.output=w.output)(h4:w'.heap=w.heap):aC S w w':=⟨h1,h2,h3,by rw[h4];exact Nat.le_refl _,fun j _ _=>by rw[h4]⟩
theorem yQ (X:Nat)(S:Nat->Prop)(k:Tp.Wk)(x0 x1 x2 x3 x4:Int)(w:World)(hW:WkAt w X S k)(hS:∀j,w.heap.size<=j->S j)(hU:Tp.B.U ⟨x0,x1,x2,x3,x4⟩)(hlen:k.b.length<=1000000):
  Calls Tryz.prog 130 #[.pointer (some (m00 X)),.agg (m11 x0 x1 x2 x3 x4)] w fun e w'=>
   e=.returned (.bool (Tp.aG k ⟨x0,x1,x2,x3,x4⟩).1)/\WkAt w' X S (Tp.aG k ⟨x0,x1,x2,x3,x4⟩).2/\aC S w w':=by
 obtain⟨i0,hi,hz0,hz1,hz2⟩:=info_parts iW
 obtain⟨⟨z0,z1⟩,hz⟩:∃y,Tp.name ⟨x0,x1,x2,x3,x4⟩=y:=⟨_,rfl⟩
 have hstep:Tp.aG k ⟨x0,x1,x2,x3,x4⟩=if(Tp.at_ k.slot (z0,z1)).isSome then(true,k)else
   match Tp.at_ k.slot (x2,x3)with
   |none=>(false,k)
   |some s=>if x0<=s then(true,k)else if k.upto<x0 then(false,k)else if 60<=k.b.length then(false,{ k with full:=true })
    else(true,{ k with b:=k.b++[⟨x0,x1,x2,x3,x4⟩],slot:=Tp.put k.slot (z0,z1) x0 }):=by
  unfold Tp.aG
  rw[hz]
  try rfl
 have HST:=zH hstep
 have HZ:=zH hz
 clear hstep hz
 have hB0:(w.alloc (.cells (m11 x0 x1 x2 x3 x4) 56)).heap[w.heap.size]?=some (.cells (m11 x0 x1 x2 x3 x4) 56 (0,0)):=heap_alloc_new w _
 have hs0:w.heap.size<(w.alloc (.cells (m11 x0 x1 x2 x3 x4) 56)).heap.size:=by simp
 have hb0:Below w.heap.size w (w.alloc (.cells (m11 x0 x1 x2 x3 x4) 56)):=(Below.refl _ w).alloc nr _
 have HB0:=zH hB0
 have HBL:=zH hb0
 have HW:=zH hW
 clear hB0 hb0 hW
 go_enter Tryz.func130,Tryz.ntmps130
 go_wp2_with (go_at_call 18;refine(gD x0 x1 x2 x3 x4 _ hU.1 hU.2.1 hU.2.2 z0 z1 HZ).mono ?_;rintro e w2 ⟨rfl,hb2⟩)
 have hbel:Below w.heap.size w (w2.alloc (m40 z0 z1)):=(HBL.out.trans (hb2.mono HBL.out.size)).alloc (Nat.le_trans HBL.out.size hb2.size) _
 have hW3:WkAt (w2.alloc (m40 z0 z1)) X (fun j=>(S j/\j<w.heap.size)\/w2.heap.size+1<=j) k:=(HW.out.wide (S':=fun j=>(S j/\j<w.heap.size)\/w2.heap.size+1<=j) (fun j hs hj=>.inl ⟨hs,hj⟩)).below hbel
 have hB3:(w2.alloc (m40 z0 z1)).heap[w.heap.size]?=some (.cells (m11 x0 x1 x2 x3 x4) 56 (0,0)):=(Below.heap_alloc w2 _ _ (Nat.lt_of_lt_of_le hs0 hb2.size)).trans (cG hb2 hs0 HB0.out)
 have hN3:(w2.alloc (m40 z0 z1)).heap[w2.heap.size]?=some (.cells (m08 z0 z1) 40 (0,0)):=heap_alloc_new w2 _
 have hsz3:(w2.alloc (m40 z0 z1)).heap.size=w2.heap.size+1:=by simp
 have hsz2:w.heap.size<w2.heap.size:=Nat.lt_of_lt_of_le hs0 hb2.size
 obtain⟨N,hNe⟩:∃N,w2.heap.size=N:=⟨_,rfl⟩
 rw[hNe]at hW3 hN3 hsz3 hsz2⊢
 clear hb2 hs0
 generalize w2.alloc (m40 z0 z1)=w3 at hbel hW3 hB3 hN3 hsz3⊢
 clear hNe
 have hfin:∀(W:World) (k':Tp.Wk),WkAt W X (fun j=>(S j/\j<w.heap.size)\/N+1<=j) k'->aC (fun j=>(S j/\j<w.heap.size)\/N+1<=j) w3 W->WkAt W X S k'/\aC S w W:=by
  intro W k' h1 h2
  refine⟨h1.wide fun j hj _=>hj.elim And.left (fun h=>hS j (by omega)),?_⟩
  exact(cQ hbel).trans (h2.wide fun j hj=>hj.elim And.left (fun h=>hS j (by omega)))
 have hSup:∀(W:World),w3.heap.size<=W.heap.size->∀j,W.heap.size<=j->(S j/\j<w.heap.size)\/N+1<=j:=fun W h j hj=>.inr (by omega)
 have hBS:¬((S w.heap.size/\w.heap.size<w.heap.size)\/N+1<=w.heap.size):=by omega
 have hNS:¬((S N/\N<w.heap.size)\/N+1<=N):=by omega
 obtain⟨ab,av,cb,cv,mb,hb,hC3⟩:=hW3
 have hrd:∀W:World,W.heap=w3.heap->BkS X w.heap.size N mb x0 x1 x2 x3 x4 z0 z1 k.upto (rC (Tp.at_ k.slot (z0,z1))) (rC (Tp.at_ k.slot (x2,x3))) W:=fun W hW=>BkS.mk' (hC3.keep fun j _ _=>by rw[hW]) (by rw[hW];exact hB3) (by rw[hW];exact hN3)
 have hsame:∀W:World,W.heap=w3.heap->WkAt W X (fun j=>(S j/\j<w.heap.size)\/N+1<=j) k:=fun W hW=>⟨ab,av,cb,cv,mb,hb,hC3.keep fun j _ _=>by rw[hW]⟩
 have HFIN:=zH hfin
 have HRD:=zH hrd
 have HSAME:=zH hsame
 have HC3:=zH hC3
 have HB3:=zH hB3
 have HN3:=zH hN3
 have HSUP:=zH hSup
 have HBS:=zH hBS
 have HNS:=zH hNS
 have HBEL:=zH hbel
 have b0:w3.cell? (m07 w)=some (.int .i64 x0):=cA hB3 0
 obtain⟨xc0,-,-,-,-,-⟩:=hC3.c2
 clear hfin hrd hsame hC3 hB3 hN3 hSup hBS hNS hbel hS
 cases hat:Tp.at_ k.slot (z0,z1)with
 |some y=>
  have hres:Tp.aG k ⟨x0,x1,x2,x3,x4⟩=(true,k):=by rw[HST.out,hat];rfl
  have HRES:=zH hres
  obtain⟨u,kn,hv2⟩:∃u kn,rC (Tp.at_ k.slot (x2,x3))=.tuple #[u,.bool kn]:=⟨_,_,rfl⟩
  have hR:∀W:World,W.heap=w3.heap->BkS X w.heap.size N mb x0 x1 x2 x3 x4 z0 z1 k.upto (m34 y) (.tuple #[u,.bool kn]) W:=fun W hW=>by
   have:=HRD.out W hW
   rw[hat,hv2]at this
   exact this
  have HR:=zH hR
  clear hres hat hv2 hR
  go_region_held3 (fun W=>W.cell? (m25 X)=some (.map (some mb))/\W.cell? (m35 X)=some (.int .i64 k.upto)/\W.cell? (m07 w)=some (.int .i64 x0)/\W.cell? (m14 w)=some (.int .i64 x1)/\W.cell? (m17 w)=some (.int .u64 x2)/\W.cell? (m19 w)=some (.int .u64 x3)/\W.cell? (m27 w)=some (.int .u64 x4)/\W.cell? (m00 N)=some (.int .u64 z0)/\W.cell? (m15 N)=some (.int .u64 z1)/\(Instr.lookup 75 (m43 mb) (m67 z0 z1) true).run Tryz.prog W=.ok (m34 y) W/\(Instr.lookup 75 (m43 mb) (m67 x2 x3) true).run Tryz.prog W=.ok (.tuple #[u,.bool kn]) W)
   (exact HR.out _ rfl)
   (fail)
  go_wp2_with fail
  go_region_held3 (fun W=>W.cell? (m25 X)=some (.map (some mb))/\W.cell? (m35 X)=some (.int .i64 k.upto)/\W.cell? (m07 w)=some (.int .i64 x0)/\W.cell? (m14 w)=some (.int .i64 x1)/\W.cell? (m17 w)=some (.int .u64 x2)/\W.cell? (m19 w)=some (.int .u64 x3)/\W.cell? (m27 w)=some (.int .u64 x4)/\W.cell? (m00 N)=some (.int .u64 z0)/\W.cell? (m15 N)=some (.int .u64 z1)/\(Instr.lookup 75 (m43 mb) (m67 z0 z1) true).run Tryz.prog W=.ok (m34 y) W/\(Instr.lookup 75 (m43 mb) (m67 x2 x3) true).run Tryz.prog W=.ok (.tuple #[u,.bool kn]) W)
   (exact HR.out _ rfl)
   (fail)
  go_wp2
  go_ret
  rw[HRES.out]
  exact⟨rfl,HFIN.out _ _ (HSAME.out _ rfl) (aC.same rfl rfl rfl rfl)⟩
 |none=>
  have HAT:=zH hat
  clear hat
  cases hpt:Tp.at_ k.slot (x2,x3)with
  |none=>
   have hres:Tp.aG k ⟨x0,x1,x2,x3,x4⟩=(false,k):=by rw[HST.out,HAT.out,hpt];rfl
   have HRES:=zH hres
   have hR:∀W:World,W.heap=w3.heap->BkS X w.heap.size N mb x0 x1 x2 x3 x4 z0 z1 k.upto (m38) (m38) W:=fun W hW=>by
    have:=HRD.out W hW
    rw[HAT.out,hpt]at this
    exact this
   have HR:=zH hR
   clear hres hpt hR
   go_region_held3 (fun W=>W.cell? (m25 X)=some (.map (some mb))/\W.cell? (m35 X)=some (.int .i64 k.upto)/\W.cell? (m07 w)=some (.int .i64 x0)/\W.cell? (m14 w)=some (.int .i64 x1)/\W.cell? (m17 w)=some (.int .u64 x2)/\W.cell? (m19 w)=some (.int .u64 x3)/\W.cell? (m27 w)=some (.int .u64 x4)/\W.cell? (m00 N)=some (.int .u64 z0)/\W.cell? (m15 N)=some (.int .u64 z1)/\(Instr.lookup 75 (m43 mb) (m67 z0 z1) true).run Tryz.prog W=.ok (m38) W/\(Instr.lookup 75 (m43 mb) (m67 x2 x3) true).run Tryz.prog W=.ok (m38) W)
    (exact HR.out _ rfl)
    (fail)
   go_wp2_with fail
   go_region_held3 (fun W=>W.cell? (m25 X)=some (.map (some mb))/\W.cell? (m35 X)=some (.int .i64 k.upto)/\W.cell? (m07 w)=some (.int .i64 x0)/\W.cell? (m14 w)=some (.int .i64 x1)/\W.cell? (m17 w)=some (.int .u64 x2)/\W.cell? (m19 w)=some (.int .u64 x3)/\W.cell? (m27 w)=some (.int .u64 x4)/\W.cell? (m00 N)=some (.int .u64 z0)/\W.cell? (m15 N)=some (.int .u64 z1)/\(Instr.lookup 75 (m43 mb) (m67 z0 z1) true).run Tryz.prog W=.ok (m38) W/\(Instr.lookup 75 (m43 mb) (m67 x2 x3) true).run Tryz.prog W=.ok (m38) W)
    (exact HR.out _ rfl)
    (fail)
   go_wp2
   go_ret
   rw[HRES.out]
   exact⟨rfl,HFIN.out _ _ (HSAME.out _ rfl) (aC.same rfl rfl rfl rfl)⟩
  |some s=>
   have hR:∀W:World,W.heap=w3.heap->BkS X w.heap.size N mb x0 x1 x2 x3 x4 z0 z1 k.upto (m38) (m34 s) W:=fun W hW=>by
    have:=HRD.out W hW
    rw[HAT.out,hpt]at this
    exact this
   have HR:=zH hR
   clear hR
   by_cases h1:x0<=s
   ·have hres:Tp.aG k ⟨x0,x1,x2,x3,x4⟩=(true,k):=by rw[HST.out,HAT.out,hpt];simp[h1]
    have HRES:=zH hres
    have d1:decide (s≥x0)=true:=decide_eq_true h1
    clear hres hpt h1
    go_region_held3 (fun W=>W.cell? (m25 X)=some (.map (some mb))/\W.cell? (m35 X)=some (.int .i64 k.upto)/\W.cell? (m07 w)=some (.int .i64 x0)/\W.cell? (m14 w)=some (.int .i64 x1)/\W.cell? (m17 w)=some (.int .u64 x2)/\W.cell? (m19 w)=some (.int .u64 x3)/\W.cell? (m27 w)=some (.int .u64 x4)/\W.cell? (m00 N)=some (.int .u64 z0)/\W.cell? (m15 N)=some (.int .u64 z1)/\(Instr.lookup 75 (m43 mb) (m67 z0 z1) true).run Tryz.prog W=.ok (m38) W/\(Instr.lookup 75 (m43 mb) (m67 x2 x3) true).run Tryz.prog W=.ok (m34 s) W)
     (exact HR.out _ rfl)
     (fail)
    go_wp2_with fail
    go_region_held3 (fun W=>W.cell? (m25 X)=some (.map (some mb))/\W.cell? (m35 X)=some (.int .i64 k.upto)/\W.cell? (m07 w)=some (.int .i64 x0)/\W.cell? (m14 w)=some (.int .i64 x1)/\W.cell? (m17 w)=some (.int .u64 x2)/\W.cell? (m19 w)=some (.int .u64 x3)/\W.cell? (m27 w)=some (.int .u64 x4)/\W.cell? (m00 N)=some (.int .u64 z0)/\W.cell? (m15 N)=some (.int .u64 z1)/\(Instr.lookup 75 (m43 mb) (m67 z0 z1) true).run Tryz.prog W=.ok (m38) W/\(Instr.lookup 75 (m43 mb) (m67 x2 x3) true).run Tryz.prog W=.ok (m34 s) W)
     (exact HR.out _ rfl)
     (fail)
    go_wp2
    go_ret
    rw[HRES.out]
    exact⟨rfl,HFIN.out _ _ (HSAME.out _ rfl) (aC.same rfl rfl rfl rfl)⟩
   ·have d1:decide (s≥x0)=false:=decide_eq_false h1
    by_cases h2:k.upto<x0
    ·have hres:Tp.aG k ⟨x0,x1,x2,x3,x4⟩=(false,k):=by rw[HST.out,HAT.out,hpt];simp[h1,h2]
     have HRES:=zH hres
     have d2:decide (x0>k.upto)=true:=decide_eq_true h2
     clear hres hpt h1 h2
     go_region_held3 (fun W=>W.cell? (m25 X)=some (.map (some mb))/\W.cell? (m35 X)=some (.int .i64 k.upto)/\W.cell? (m07 w)=some (.int .i64 x0)/\W.cell? (m14 w)=some (.int .i64 x1)/\W.cell? (m17 w)=some (.int .u64 x2)/\W.cell? (m19 w)=some (.int .u64 x3)/\W.cell? (m27 w)=some (.int .u64 x4)/\W.cell? (m00 N)=some (.int .u64 z0)/\W.cell? (m15 N)=some (.int .u64 z1)/\(Instr.lookup 75 (m43 mb) (m67 z0 z1) true).run Tryz.prog W=.ok (m38) W/\(Instr.lookup 75 (m43 mb) (m67 x2 x3) true).run Tryz.prog W=.ok (m34 s) W)
      (exact HR.out _ rfl)
      (fail)
     go_wp2_with fail
     go_region_held3 (fun W=>W.cell? (m25 X)=some (.map (some mb))/\W.cell? (m35 X)=some (.int .i64 k.upto)/\W.cell? (m07 w)=some (.int .i64 x0)/\W.cell? (m14 w)=some (.int .i64 x1)/\W.cell? (m17 w)=some (.int .u64 x2)/\W.cell? (m19 w)=some (.int .u64 x3)/\W.cell? (m27 w)=some (.int .u64 x4)/\W.cell? (m00 N)=some (.int .u64 z0)/\W.cell? (m15 N)=some (.int .u64 z1)/\(Instr.lookup 75 (m43 mb) (m67 z0 z1) true).run Tryz.prog W=.ok (m38) W/\(Instr.lookup 75 (m43 mb) (m67 x2 x3) true).run Tryz.prog W=.ok (m34 s) W)
      (exact HR.out _ rfl)
      (fail)
     go_wp2_with fail
     go_region_held3 (fun W=>W.cell? (m25 X)=some (.map (some mb))/\W.cell? (m35 X)=some (.int .i64 k.upto)/\W.cell? (m07 w)=some (.int .i64 x0)/\W.cell? (m14 w)=some (.int .i64 x1)/\W.cell? (m17 w)=some (.int .u64 x2)/\W.cell? (m19 w)=some (.int .u64 x3)/\W.cell? (m27 w)=some (.int .u64 x4)/\W.cell? (m00 N)=some (.int .u64 z0)/\W.cell? (m15 N)=some (.int .u64 z1)/\(Instr.lookup 75 (m43 mb) (m67 z0 z1) true).run Tryz.prog W=.ok (m38) W/\(Instr.lookup 75 (m43 mb) (m67 x2 x3) true).run Tryz.prog W=.ok (m34 s) W)
      (exact HR.out _ rfl)
      (fail)
     go_wp2
     go_ret
     rw[HRES.out]
     exact⟨rfl,HFIN.out _ _ (HSAME.out _ rfl) (aC.same rfl rfl rfl rfl)⟩
    ·have d2:decide (x0>k.upto)=false:=decide_eq_false h2
     by_cases h3:60<=k.b.length
     ·have hres:Tp.aG k ⟨x0,x1,x2,x3,x4⟩=(false,{ k with full:=true }):=by rw[HST.out,HAT.out,hpt];simp[h1,h2,h3]
      have HRES:=zH hres
      have d3:decide ((k.b.length:Int)<60)=false:=decide_eq_false (by omega)
      have d4:decide ((60:Int)<=k.b.length)=true:=decide_eq_true (by omega)
      have D4:=zH d4
      clear hres hpt h1 h2 h3 d4
      go_region_held3 (fun W=>W.cell? (m25 X)=some (.map (some mb))/\W.cell? (m35 X)=some (.int .i64 k.upto)/\W.cell? (m07 w)=some (.int .i64 x0)/\W.cell? (m14 w)=some (.int .i64 x1)/\W.cell? (m17 w)=some (.int .u64 x2)/\W.cell? (m19 w)=some (.int .u64 x3)/\W.cell? (m27 w)=some (.int .u64 x4)/\W.cell? (m00 N)=some (.int .u64 z0)/\W.cell? (m15 N)=some (.int .u64 z1)/\(Instr.lookup 75 (m43 mb) (m67 z0 z1) true).run Tryz.prog W=.ok (m38) W/\(Instr.lookup 75 (m43 mb) (m67 x2 x3) true).run Tryz.prog W=.ok (m34 s) W)
       (exact HR.out _ rfl)
       (fail)
      go_wp2_with fail
      go_region_held3 (fun W=>W.cell? (m25 X)=some (.map (some mb))/\W.cell? (m35 X)=some (.int .i64 k.upto)/\W.cell? (m07 w)=some (.int .i64 x0)/\W.cell? (m14 w)=some (.int .i64 x1)/\W.cell? (m17 w)=some (.int .u64 x2)/\W.cell? (m19 w)=some (.int .u64 x3)/\W.cell? (m27 w)=some (.int .u64 x4)/\W.cell? (m00 N)=some (.int .u64 z0)/\W.cell? (m15 N)=some (.int .u64 z1)/\(Instr.lookup 75 (m43 mb) (m67 z0 z1) true).run Tryz.prog W=.ok (m38) W/\(Instr.lookup 75 (m43 mb) (m67 x2 x3) true).run Tryz.prog W=.ok (m34 s) W)
       (exact HR.out _ rfl)
       (fail)
      go_wp2_with fail
      go_region_held3 (fun W=>W.cell? (m25 X)=some (.map (some mb))/\W.cell? (m35 X)=some (.int .i64 k.upto)/\W.cell? (m07 w)=some (.int .i64 x0)/\W.cell? (m14 w)=some (.int .i64 x1)/\W.cell? (m17 w)=some (.int .u64 x2)/\W.cell? (m19 w)=some (.int .u64 x3)/\W.cell? (m27 w)=some (.int .u64 x4)/\W.cell? (m00 N)=some (.int .u64 z0)/\W.cell? (m15 N)=some (.int .u64 z1)/\(Instr.lookup 75 (m43 mb) (m67 z0 z1) true).run Tryz.prog W=.ok (m38) W/\(Instr.lookup 75 (m43 mb) (m67 x2 x3) true).run Tryz.prog W=.ok (m34 s) W)
       (exact HR.out _ rfl)
       (fail)
      go_wp2_with (go_at_call 148;refine(mK X _ k _ _ w3.drew.drew.drew (HSAME.out _ rfl)).mono ?_;rintro e w4 ⟨rfl,hw4⟩;rw[D4.out,Bool.or_true]at hw4;have HW4:=zH hw4;clear hw4)
      go_ret
      rw[HRES.out,HW4.out]
      have hf:=(HC3.out.keep (w':=w3.drew.drew.drew) (fun j _ _=>rfl)).setFull true
      exact⟨rfl,HFIN.out _ _ ⟨ab,av,cb,cv,mb,hb,hf.1⟩ ((aC.same (w:=w3) (w':=w3.drew.drew.drew) rfl rfl rfl rfl).trans hf.2)⟩
     ·have hres:Tp.aG k ⟨x0,x1,x2,x3,x4⟩=(true,{ k with b:=k.b++[⟨x0,x1,x2,x3,x4⟩],slot:=Tp.put k.slot (z0,z1) x0 }):=by rw[HST.out,HAT.out,hpt];simp[h1,h2,h3]
      have HRES:=zH hres
      have d3:decide ((k.b.length:Int)<60)=true:=decide_eq_true (by omega)
      have d4:decide ((60:Int)<=k.b.length)=false:=decide_eq_false (by omega)
      have D4:=zH d4
      have hlen2:k.b.length<60:=by omega
      clear hres hpt h1 h2 h3 d4
      go_region_held3 (fun W=>W.cell? (m25 X)=some (.map (some mb))/\W.cell? (m35 X)=some (.int .i64 k.upto)/\W.cell? (m07 w)=some (.int .i64 x0)/\W.cell? (m14 w)=some (.int .i64 x1)/\W.cell? (m17 w)=some (.int .u64 x2)/\W.cell? (m19 w)=some (.int .u64 x3)/\W.cell? (m27 w)=some (.int .u64 x4)/\W.cell? (m00 N)=some (.int .u64 z0)/\W.cell? (m15 N)=some (.int .u64 z1)/\(Instr.lookup 75 (m43 mb) (m67 z0 z1) true).run Tryz.prog W=.ok (m38) W/\(Instr.lookup 75 (m43 mb) (m67 x2 x3) true).run Tryz.prog W=.ok (m34 s) W)
       (exact HR.out _ rfl)
       (fail)
      go_wp2_with fail
      go_region_held3 (fun W=>W.cell? (m25 X)=some (.map (some mb))/\W.cell? (m35 X)=some (.int .i64 k.upto)/\W.cell? (m07 w)=some (.int .i64 x0)/\W.cell? (m14 w)=some (.int .i64 x1)/\W.cell? (m17 w)=some (.int .u64 x2)/\W.cell? (m19 w)=some (.int .u64 x3)/\W.cell? (m27 w)=some (.int .u64 x4)/\W.cell? (m00 N)=some (.int .u64 z0)/\W.cell? (m15 N)=some (.int .u64 z1)/\(Instr.lookup 75 (m43 mb) (m67 z0 z1) true).run Tryz.prog W=.ok (m38) W/\(Instr.lookup 75 (m43 mb) (m67 x2 x3) true).run Tryz.prog W=.ok (m34 s) W)
       (exact HR.out _ rfl)
       (fail)
      go_wp2_with fail
      go_region_held3 (fun W=>W.cell? (m25 X)=some (.map (some mb))/\W.cell? (m35 X)=some (.int .i64 k.upto)/\W.cell? (m07 w)=some (.int .i64 x0)/\W.cell? (m14 w)=some (.int .i64 x1)/\W.cell? (m17 w)=some (.int .u64 x2)/\W.cell? (m19 w)=some (.int .u64 x3)/\W.cell? (m27 w)=some (.int .u64 x4)/\W.cell? (m00 N)=some (.int .u64 z0)/\W.cell? (m15 N)=some (.int .u64 z1)/\(Instr.lookup 75 (m43 mb) (m67 z0 z1) true).run Tryz.prog W=.ok (m38) W/\(Instr.lookup 75 (m43 mb) (m67 x2 x3) true).run Tryz.prog W=.ok (m34 s) W)
       (exact HR.out _ rfl)
       (fail)
      go_wp2_with (go_at_call 148;refine(mK X _ k _ _ w3.drew.drew.drew (HSAME.out _ rfl)).mono ?_;rintro e w4 ⟨rfl,hw4⟩;rw[D4.out,Bool.or_false]at hw4;have HW4:=zH hw4;clear hw4)
      have hf:=(HC3.out.keep (w':=w3.drew.drew.drew) (fun j _ _=>rfl)).setFull k.full
      rw[<-HW4.out]at hf
      have hK4:aC (fun j=>(S j/\j<w.heap.size)\/N+1<=j) w3 w4:=(aC.same (w:=w3) (w':=w3.drew.drew.drew) rfl rfl rfl rfl).trans hf.2
      have hC4:WkC w4.drew X (fun j=>(S j/\j<w.heap.size)\/N+1<=j) k ab av cb cv mb hb:=hf.1.keep (fun j _ _=>rfl)
      have hB4:w4.drew.heap[w.heap.size]?=some (.cells (m11 x0 x1 x2 x3 x4) 56 (0,0)):=(hK4.block _ (gS HB3.out) HBS.out).trans HB3.out
      have hN4:w4.drew.heap[N]?=some (.cells (m08 z0 z1) 40 (0,0)):=(hK4.block _ (gS HN3.out) HNS.out).trans HN3.out
      have hS4:=HSUP.out w4.drew hK4.size
      have hK4d:aC (fun j=>(S j/\j<w.heap.size)\/N+1<=j) w3 w4.drew:=hK4.trans (aC.same rfl rfl rfl rfl)
      clear hf
      have HC4:=zH hC4
      have HB4:=zH hB4
      have HN4:=zH hN4
      have HS4:=zH hS4
      have HK4:=zH hK4d
      clear hC4 hB4 hN4 hS4 hK4d hK4
      refine cN [(4,fun W=>W.cell? (m25 X)=some (.map (some mb))),(5,fun W=>W.cell? (m00 N)=some (.int .u64 z0)/\W.cell? (m15 N)=some (.int .u64 z1)),(10,fun W=>W.cell? (m00 X)=some (.slice ab k.b.length cb)),(11,fun W=>W.cell? (m07 w)=some (.int .i64 x0)/\W.cell? (m14 w)=some (.int .i64 x1)/\W.cell? (m17 w)=some (.int .u64 x2)/\W.cell? (m19 w)=some (.int .u64 x3)/\W.cell? (m27 w)=some (.int .u64 x4)),(15,fun W=>W.cell? (m07 w)=some (.int .i64 x0))] (by kernel_rfl) ?_
      generalize w4.drew=w5 at HC4 HB4 HN4 HS4 HK4⊢
      have q0:=zH (BkQ.mk' HC4.out HB4.out HN4.out)
      have q1:Hid (BkQ X w.heap.size N mb x0 x1 x2 x3 x4 z0 z1 (w5.alloc (.cells (m11 x0 x1 x2 x3 x4) 56))):=zH (BkQ.mk' (HC4.out.keep fun j _ hj=>Below.heap_alloc w5 _ j hj) ((Below.heap_alloc w5 _ _ (gS HB4.out)).trans HB4.out) ((Below.heap_alloc w5 _ _ (gS HN4.out)).trans HN4.out))
      have hC41:=HC4.out.keep (w':=(w5.alloc (.cells (m11 x0 x1 x2 x3 x4) 56))) (fun j _ hj=>Below.heap_alloc w5 _ j hj)
      have k1:=zH (hC41.c2.1)
      have k0:=zH (HC4.out.c2.1)
      have HO:Hid ((w5.alloc (.cells (m11 x0 x1 x2 x3 x4) 56)).ownsRow 0 56 5 (m63 ab k.b.length cb) k.b.length (k.b.flatMap aK)):=zH hC41.ob
      clear hC41
      refine wX 0 rfl ?_
      refine wX 1 rfl ?_
      refine wX 2 rfl ?_
      refine wX 3 rfl ?_
      refine wY 0 4 rfl rfl (q0.out.1) ?_
      refine wY 1 5 rfl rfl (q0.out.2.1) ?_
      refine wX 6 rfl ?_
      refine wX 7 rfl ?_
      refine wX 8 rfl ?_
      refine wX 9 rfl ?_
      refine wY 2 10 rfl rfl (k0.out) ?_
      refine wY 3 11 rfl rfl (q0.out.2.2.1) ?_
      refine wX 14 rfl ?_
      refine wY 4 15 rfl rfl (q0.out.2.2.2) ?_
      refine cK 12 (by kernel_rfl) rfl (fun K hK=>?_)
      go_simp
      refine hK.out _ _ ?_ ?_
      ·exact⟨.inl q1.out.1,.inl q1.out.2.1,.inl k1.out,.inl q1.out.2.2.1,.inl q1.out.2.2.2,trivial⟩
      clear hK K;try simp only[Act.put,pA,pB,pC]
      refine cK 13 (by kernel_rfl) rfl (fun K hK=>?_)
      rw[if_pos (by rfl)]
      refine wp_append_lies _ (.tmp 69) (.tmp 71) 35 (by rfl) 0 56 i0 (.agg (m53)) 5 40 Tryz.underlying35 hi hz0 hz1 hz2 rfl (by decide) _ k.b.length (k.b.flatMap aK) (by rfl) HO.out (m07 w5) 1 1 (aK ⟨x0,x1,x2,x3,x4⟩) (by rfl) rfl (bE _ _ _ _ rfl) (jB _) (by decide) (by unfold maxLen;omega) (by omega) (Nat.zero_le _) (w5.heap.size+1) (by simp) ?_
      intro g cap w6 hown5 hg5 hat5 hlt5
      obtain⟨st,w7,w8,hP,hrun1,hrun2,q5,q6,q7,q8,c6,f6⟩:=aKv HC4.out HS4.out HBS.out HNS.out HB4.out HN4.out HAT.out hown5 hg5 hat5
      have HP:=zH hP
      have Q5:=zH q5
      have Q6:=zH q6
      have Q7:=zH q7
      have Q8:=zH q8
      clear hP q5 q6 q7 q8 hown5 hg5 hat5 hlt5
      refine hK.out _ _ ?_ ?_
      ·exact⟨.inl Q5.out.1,.inl Q5.out.2.1,.inl c6,.inl Q5.out.2.2.1,.inl Q5.out.2.2.2,trivial⟩
      clear hK K;try simp only[Act.put,pA,pB,pC]
      refine wX 16 rfl ?_
      refine wX 17 rfl ?_
      refine wX 18 rfl ?_
      refine cK 19 (by kernel_rfl) rfl (fun K hK=>?_)
      go_simp
      refine hK.out _ _ ?_ ?_
      ·exact⟨.inl Q6.out.1,.inl Q6.out.2.1,.inr (by kernel_rfl),.inl Q6.out.2.2.1,.inl Q6.out.2.2.2,trivial⟩
      clear hK K;try simp only[Act.put,pA,pB,pC]
      refine cK 20 (by kernel_rfl) rfl (fun K hK=>?_)
      go_simp
      refine hK.out _ _ ?_ ?_
      ·exact⟨.inl Q7.out.1,.inl Q7.out.2.1,.inr (by kernel_rfl),.inl Q7.out.2.2.1,.inl Q7.out.2.2.2,trivial⟩
      clear hK K;try simp only[Act.put,pA,pB,pC]
      refine wX 21 rfl ?_
      refine cK 22 (by kernel_rfl) rfl (fun K hK=>?_)
      go_simp
      refine hK.out _ _ ?_ ?_
      ·exact⟨.inl Q8.out.1,.inl Q8.out.2.1,.inr (by kernel_rfl),.inl Q8.out.2.2.1,.inl Q8.out.2.2.2,trivial⟩
      clear hK K;try simp only[Act.put,pA,pB,pC]
      refine cO (by kernel_rfl) ?_ _
      go_wp2
      go_ret
      rw[HRES.out]
      exact⟨rfl,HFIN.out _ _ ⟨_,_,_,_,_,_,HP.out.1⟩ (HK4.out.trans HP.out.2)⟩
end Go.Proofs.YtbbhinehcncmeaaGreat
