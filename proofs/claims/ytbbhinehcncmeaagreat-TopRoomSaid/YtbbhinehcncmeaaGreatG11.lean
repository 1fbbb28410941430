/- A part of the proof of the laws of the top: TpGhost, TpIter, TpOn, TpSort, TpWeight. No condition. -/
import Derived.Test.YtbbhinehcncmeaaGreatG09
import Derived.Test.YtbbhinehcncmeaaGreatG10
import Derived.Maps.RangeRun
import Derived.Shelf.RegionOpen
namespace Go.Proofs.YtbbhinehcncmeaaGreat
open Go.RowKit
set_option linter.unusedSimpArgs false
set_option linter.unusedVariables false
set_option linter.unusedSectionVars false
set_option maxRecDepth 100000
set_option maxHeartbeats 4000000
section
open Go.RowKit Go.Shelf
attribute [local go_sem] Oper.semAt_some
structure SeqW (w:World) (C I x1 nn cc:Nat) (a:Option Addr) (p:Nat->Bool):Prop where
 few:nn<=12
 is_:∀(j:Nat) (W:World),j<nn->Below w.heap.size w W->Calls Tryz.prog 112 #[.int .i64 j,.pointer (some (m00 x1))] W fun e W'=>e=.returned (.bool (p j))/\Below W.heap.size W W'
 hC:C<w.heap.size
 hI:I<w.heap.size
 cC:w.cell? (m00 C)=some (.slice a nn cc)
 cI:w.cell? (m00 I)=some (.func (.func 112) #[] (m46 x1))
def Tp.aFk (l:List Int) {n:Nat} (s:List (Fin n)):Int:=s.foldl (fun acc i=>acc+Mx.nth l i.1) 0
theorem Tp.aBq (l:List Int){n:Nat}(s:List (Fin n))(x:Fin n):Tp.aFk l (s++[x])=Tp.aFk l s+Mx.nth l x.1:=by
 unfold Tp.aFk
 rw[List.foldl_append]
 rfl
theorem Tp.aFw (l:List Int){n:Nat}(h:∀i,i<n->0<=Mx.nth l i/\Mx.nth l i<=1099511627776):∀(s:List (Fin n)) (acc:Int),acc<=s.foldl (fun acc i=>acc+Mx.nth l i.1) acc/\s.foldl (fun acc i=>acc+Mx.nth l i.1) acc<=acc+s.length*1099511627776:=by
 intro s
 induction s with
 |nil=>intro acc;simp
 |cons x r ih=>
  intro acc
  rw[List.foldl_cons,List.length_cons]
  have h1:=h x.1 x.2
  have h2:=ih (acc+Mx.nth l x.1)
  omega
theorem Tp.aBr (l:List Int){n:Nat}(h:∀i,i<n->0<=Mx.nth l i/\Mx.nth l i<=1099511627776)(s:List (Fin n)):0<=Tp.aFk l s/\Tp.aFk l s<=s.length*1099511627776:=by
 have:=Tp.aFw l h s 0
 unfold Tp.aFk
 omega
theorem aLt (m:Nat)(hm3:3<=m)(C I x1 n cc:Nat)(a:Option Addr)(p:Nat->Bool)(l:List Int)(sd ep nu de:Int)(w:World)(hn:l.length=n)(hl:Ints w a l)(hmay:Tp.mayC l ep nu de=true)(h:SeqW w C I x1 n cc a p):
  CallsIn Fence.wide m Tryz.prog 111 #[.agg (m05 a n cc sd ep nu de),.func (.func 127) #[] (m23 C I)] w fun e W'=>e=.returned (m30 (Tp.aFk l (Tp.iO p n n)))/\Below w.heap.size w W':=by
 have h1:1<=m:=by omega
 have hF:Fence.wide.fn 127:=trivial
 have hF2:Fence.wide.fn 23:=trivial
 have hW:∀i,i<n->0<=Mx.nth l i/\Mx.nth l i<=1099511627776:=by
  intro i hi
  unfold Tp.mayC at hmay
  simp only[Bool.and_eq_true,decide_eq_true_eq,List.all_eq_true]at hmay
  obtain⟨⟨⟨⟨⟨⟨⟨⟨-,-⟩,g⟩,-⟩,-⟩,-⟩,-⟩,-⟩,-⟩:=hmay
  exact g _ (Tp.vK l i (by omega))
 have hcell:∀i,i<n->∃b o,a=some ⟨b,o,none⟩/\b<w.heap.size/\w.cell? (m09 b (o+i))=some (.int .i64 (Mx.nth l i)):=by
  intro i hi
  rcases hl with h0|⟨b,o,h,hlt,hc⟩
  ·omega
  ·exact⟨b,o,h,hlt,hc i (by omega)⟩
 have hb0:Below w.heap.size w ((m28 w a n cc sd ep nu de:World).alloc (.cells #[.int .i64 0] 3)):=cR _ _
 have g0:((m28 w a n cc sd ep nu de:World).alloc (.cells #[.int .i64 0] 3)).heap[w.heap.size]?=some (.cells (m05 a n cc sd ep nu de) 25 (0,0)):=by
  rw[cF,if_neg (by simp),cF,if_pos rfl]
 have g1:((m28 w a n cc sd ep nu de:World).alloc (.cells #[.int .i64 0] 3)).heap[w.heap.size+1]?=some (.cells #[.int .i64 0] 3 (0,0)):=by
  rw[cF,if_pos (by simp)]
 have hs0:w.heap.size+1<((m28 w a n cc sd ep nu de:World).alloc (.cells #[.int .i64 0] 3)).heap.size:=by simp
 have hl1:=zH (hl.keep hb0)
 have HN:=zH hn
 refine callsIn_of_wp_marks Tryz.func111 rfl trivial ?_ rfl
 simp only[Tryz.ntmps111,List.size_toArray,List.length_cons,List.length_nil,Nat.reduceAdd,Nat.reduceSub,Array.replicate_succ,Array.replicate_zero,List.push_toArray,List.append_toArray,List.nil_append,List.cons_append]
 gi_wp2_with fail
 refine(callsIn_wide.2 (dB a n cc l sd ep nu de _ HN.out (by have:=h.few;omega) hl1.out)).mono ?_
 rintro e w1 ⟨rfl,hb⟩
 rw[hmay]
 have bel:=bS hb0 hb
 have c0:=cG hb (show w.heap.size<_ by omega) g0
 have c1:=cG hb hs0 g1
 clear hb g0 g1 hl1
 gi_wp2
 have e0:w1.cell? (m07 w)=some (.slice a n cc):=cA c0 0
 have e1:w1.cell? (m22 w)=some (.int .i64 0):=cA c1 0
 have e2:w1.frozen? (m22 w)=false:=cH c1 0
 have hsz:w.heap.size+1<w1.heap.size:=(gS c1)
 have hst:SeqStopsK Fence.wide (m-1) Tryz.prog 127 (m23 C I) (fun x:Fin n=>#[Value.int .i64 ((x.1:Nat):Int)]) (Below w.heap.size) (fun ys=>ys=Tp.iO p n n) (fun pre=>pre <+:Tp.iO p n n) (Tp.iO p n n).length w1:=fun l' J Jx W hW2 hJ _ hY h0=>
  yV (m-1) (by omega) l' C I w.heap.size n cc a x1 p w rfl (by have:=h.few;omega) J Jx _ hJ h.is_ hY W (bel.trans (hW2.mono bel.size)) h.hC h.hI h.cC h.cI h0
 refine wpIn_rangeFunc_ownF rfl h1 (gf:=127) (lb:=(m23 C I)) rfl hF (enters_of Tryz.func127 (by kernel_rfl) rfl)
  hst belowK_t (belowK_b (by omega)) (Below.refl _ _) (fun _=>rfl)
  (fun pre W=>(W.cell? (m22 w)=some (.int .i64 (Tp.aFk l pre))/\W.frozen? (m22 w)=false/\W.cell? (m07 w)=some (.slice a n cc))/\Below w.heap.size w W)
  (fun _ _ _=>False)
  (OwnFrom.and (Own.from (fun s A B row hs hg hr=>⟨cell_kept hs.1 hg hr,(frozen_kept hs.1 hg hr).trans hs.2.1,cell_kept hs.2.2 hg hr⟩) _) (ownFrom_below nr (by omega)))
  (fun _ _ _ _ _ hs _ _=>hs)
  ⟨⟨e1,e2,e0⟩,bel⟩
  (fun x=>{ tmps:=#[.agg (m05 a n cc sd ep nu de),.func (.func 127) #[] (m23 C I),.pointer (some (m07 w)),undef,.int .i64 0,.pointer (some (m22 w)),.int .i64 ((x.1:Nat):Int),.agg (m05 a n cc sd ep nu de),.bool true,.bool false,undef,.func (.func 127) #[] (m23 C I),.int .i64 ((x.1:Nat):Int),undef,undef,undef,undef,undef,undef,undef,undef],defers:=[] }) ?assign ?body ?done ?stop
 case assign=>
  intro l x W K hK
  gi_wp2
  exact hK
 case body=>
  rintro l' pre x W ⟨⟨hc,hf,hsl⟩,hB⟩ hlt
  obtain⟨b,o,rfl,hbl,hx⟩:=hcell x.1 x.2
  have hx2:=(hB.cell (p:=(m09 b (o+x.1))) hbl).trans hx
  have h0:=hW x.1 x.2
  have hsn:=Tp.aBq l pre x
  have hin:=Tp.aBr l hW pre
  have hlen:=Tp.xI p n n
  have hfew:=h.few
  have j0:(0:Int)<=((x.1:Nat):Int):=by omega
  have j1:((x.1:Nat):Int)<n:=by have:=x.2;omega
  obtain⟨y,hy⟩:∃y,Mx.nth l x.1=y:=⟨_,rfl⟩
  obtain⟨acc,hacc⟩:∃y,Tp.aFk l pre=y:=⟨_,rfl⟩
  obtain⟨k,hk⟩:∃k,x.1=k:=⟨_,rfl⟩
  rw[hy]at hx2 h0 hsn
  rw[hacc]at hc hin hsn
  rw[hk]at hx2 j0 j1
  have ww:IntKind.i64.wrap (acc+y)=acc+y:=IntWalk.i64_in _ (by omega)
  have HSN:=zH hsn
  have hbW:b<w.heap.size:=hbl
  clear hx hcell hl hsn hy hacc hlen
  simp only[hk]
  have hmx:Tryz.prog.follows .mixedOrders=true:=by kernel_rfl
  gi_wp2
  gi_region_with_o (fail)
  all_goals gi_wp2
  all_goals exact⟨(KeepsOthers.setCell _ _ _).trans (KeepsOthers.drew _),((Below.refl w.heap.size W).setCell (p:=(m22 w)) (Nat.le_succ _) _).drew,⟨by rw[HSN.out];exact World.cell?_setCell_same' _ _ _ (by rw[hc];rfl),by rw[frozen_drew_own,World.frozen?_setCell];exact hf,(World.cell?_setCell_other _ _ _ _ (by intro e1;have:=congrArg Addr.block e1;simp at this)).trans hsl⟩,(hB.setCell (p:=(m22 w)) (Nat.le_succ _) _).drew⟩
 case done=>
  rintro D ys W hD rfl ⟨⟨hc,_,_⟩,hB⟩ hK
  gi_wp2
  refine⟨by simp,.inl ⟨_,_,rfl,run_takeDeferred hK,?_⟩⟩
  exact⟨_,results_tmp rfl _ _ _,rfl,hB.trans (belowK_b (w:=w) nr W D _ _ (by omega) hK rfl rfl)⟩
 case stop=>
  rintro D c pre W _ _ h _
  exact h.elim
theorem yZ (f:Value)(n cc:Nat)(a:Option Addr)(l:List Int)(sd ep nu de:Int)(w:World)(hn:l.length=n)(hm:n<=9223372036854775807)(hf:f.cells=#[f])(hl:Ints w a l)(hmay:Tp.mayC l ep nu de=false):
  Calls Tryz.prog 111 #[.agg (m05 a n cc sd ep nu de),f] w fun e W'=>e=.returned (.int .i64 0)/\Below w.heap.size w W':=by
 have hb0:Below w.heap.size w ((m28 w a n cc sd ep nu de:World).alloc (.cells #[.int .i64 0] 3)):=cR _ _
 have g1:((m28 w a n cc sd ep nu de:World).alloc (.cells #[.int .i64 0] 3)).heap[w.heap.size+1]?=some (.cells #[.int .i64 0] 3 (0,0)):=by
  rw[cF,if_pos (by simp)]
 have hs0:w.heap.size+1<((m28 w a n cc sd ep nu de:World).alloc (.cells #[.int .i64 0] 3)).heap.size:=by simp
 have hl1:=zH (hl.keep hb0)
 have HN:=zH hn
 have HB:=zH hb0
 have HM:=zH hmay
 clear hl hmay hb0
 go_enter Tryz.func111,Tryz.ntmps111
 go_wp2_with (go_at_call 23;(refine(dB a n cc l sd ep nu de _ HN.out hm hl1.out).mono ?_);rintro e w1 ⟨rfl,hb⟩;rw[HM.out];have bel:=bS HB.out hb;have c1:=cG hb hs0 g1;have e1:w1.cell? (m22 w)=some (.int .i64 0):=cA c1 0)
 go_ret
 exact⟨rfl,bel⟩
def nT (x:Int):Value:=.int .i64 x
def bY (b:Bool):Value:=.bool b
theorem jD (w:World):(zeroValue 4).run Tryz.prog w=.ok (.bool false) w:=by kernel_rfl
theorem aIl (j:Int)(x1 mb:Nat)(m:List (Int×Bool))(w:World)(hb:w.cell? (m00 x1)=some (.map (some mb)))(h:bD nT bY w mb m):
  Calls Tryz.prog 112 #[.int .i64 j,.pointer (some (m00 x1))] w fun e w'=>e=.returned (.bool ((Tp.at_ m j).getD false))/\Below w.heap.size w w':=by
 go_enter Tryz.func112,Tryz.ntmps112
 go_wp2_with (at_lookup;refine cZ _ rfl _ _ _ false rfl aIe Tryz.underlying165 (.bool false) (jD _) mb m rfl h j rfl (.bool ((Tp.at_ m j).getD false)) (by cases Tp.at_ m j<;>rfl) ?_)
 go_ret
 exact⟨rfl,Below.refl _ _⟩
def Tp.fU (l:List Int) (ep nu de:Int) (ids:List Int):Int:=
 if Tp.mayC l ep nu de then Tp.aFk l (Tp.iO (fun j=>Tp.has ids (j:Int)) l.length l.length)else 0
structure aMu (w:World) (ob:Obj) (ids:List Int) (k:Nat) (wr:World):Prop where
 bel:Below w.heap.size w wr
 box:wr.heap[w.heap.size]?=some ob
 mbx:wr.heap[w.heap.size+2]?=some (.cells #[.map (some (w.heap.size+1))] 165 (0,0))
 lt:w.heap.size+2<wr.heap.size
 map:∃m,bD nT bY wr (w.heap.size+1) m/\∀j,(Tp.at_ m j).getD false=Tp.has (ids.take k) j
theorem rJ (ids:List Int)(k:Nat)(h:k<ids.length)(j:Int):Tp.has (ids.take (k+1)) j=(decide (j=ids[k])||Tp.has (ids.take k) j):=by
 rw[Bool.eq_iff_iff,Tp.fO,List.take_succ_eq_append_getElem h,List.mem_append,Bool.or_eq_true,Tp.fO,List.mem_singleton,decide_eq_true_eq]
 exact Or.comm
theorem aJc {Wf:World}{x1 mb n c:Nat}{a:Option Addr}{sd ep nu de:Int}{m:List (Int×Bool)}{p:Nat->Bool}(hn:n<=12)(hb:Wf.cell? (m00 x1)=some (.map (some mb)))(hx:x1<Wf.heap.size)(hm:bD nT bY Wf mb m)(hp:∀j:Nat,(Tp.at_ m (j:Int)).getD false=p j):
  SeqW ((m28 Wf a n c sd ep nu de:World).alloc (.cells #[.func (.func 112) #[] (m46 x1)] 104))
   Wf.heap.size (Wf.heap.size+1) x1 n c a p:=by
 refine⟨hn,fun j W hj hb2=>?_,by simp only[World.size_alloc];omega,by simp,?_,?_⟩
 ·have hbw:Below Wf.heap.size Wf W:=(cR _ _).trans (hb2.mono (by simp only[World.size_alloc];omega))
  have:=aIl j x1 mb m W ((hbw.cell (p:=(m00 x1)) hx).trans hb) (hm.keep hbw)
  rw[hp]at this
  exact this
 ·have e:((m28 Wf a n c sd ep nu de:World).alloc (.cells #[.func (.func 112) #[] (m46 x1)] 104)).heap[Wf.heap.size]?=some (.cells (m05 a n c sd ep nu de) 25 (0,0)):=by
   rw[cF,if_neg (by simp),cF,if_pos rfl]
  exact cA e 0
 ·have e:((m28 Wf a n c sd ep nu de:World).alloc (.cells #[.func (.func 112) #[] (m46 x1)] 104)).heap[Wf.heap.size+1]?=some (.cells #[.func (.func 112) #[] (m46 x1)] 104 (0,0)):=by
   rw[cF,if_pos (by simp)]
  exact cA e 0
theorem aFv (x1 mb n c:Nat)(a:Option Addr)(l:List Int)(sd ep nu de:Int)(ids:List Int)(m:List (Int×Bool))(Wf:World)(hn:l.length=n)(hm:n<=9223372036854775807)(hl:Ints Wf a l)(hb:Wf.cell? (m00 x1)=some (.map (some mb)))(hx:x1<Wf.heap.size)(hmap:bD nT bY Wf mb m)(hp:∀j,(Tp.at_ m j).getD false=Tp.has ids j):
  Calls Tryz.prog 111 #[.agg (m05 a n c sd ep nu de),.func (.func 127) #[] #[.pointer (some (m07 Wf)),.pointer (some (m22 Wf))]]
   ((m28 Wf a n c sd ep nu de:World).alloc (.cells #[.func (.func 112) #[] (m46 x1)] 104))
   fun e W'=>e=.returned (m30 (Tp.fU l ep nu de ids))/\Below Wf.heap.size Wf W':=by
 have hl2:=hl.keep (cR (w:=Wf) (.cells (m05 a n c sd ep nu de) 25) (.cells #[.func (.func 112) #[] (m46 x1)] 104))
 cases hmay:Tp.mayC l ep nu de with
 |false=>
  refine(yZ _ n c a l sd ep nu de _ hn hm rfl hl2 hmay).mono ?_
  rintro e W' ⟨rfl,hb'⟩
  refine⟨?_,bS (cR _ _) hb'⟩
  unfold Tp.fU
  rw[hmay,if_neg (by simp)]
 |true=>
  have h12:n<=12:=by
   unfold Tp.mayC at hmay
   simp only[Bool.and_eq_true,decide_eq_true_eq]at hmay
   omega
  refine(callsIn_wide.1 (aLt 3 nr _ _ x1 n c a (fun j=>Tp.has ids (j:Int)) l sd ep nu de _ hn hl2 hmay (aJc h12 hb hx hmap (fun j=>hp _)))).mono ?_
  rintro e W' ⟨rfl,hb'⟩
  refine⟨?_,bS (cR _ _) hb'⟩
  unfold Tp.fU
  rw[hmay,if_pos rfl,hn]
def CBox (N:Nat) (a:Option Addr) (n c:Nat) (sd ep nu de:Int) (w:World):Prop:=
 w.cell? (m00 N)=some (.slice a n c)/\w.cell? (m15 N)=some (.int .u64 sd)/\w.cell? (m25 N)=some (.int .i64 ep)/\w.cell? (m33 N)=some (.int .i64 nu)/\w.cell? (m35 N)=some (.int .i64 de)
theorem CBox.below {N M:Nat}{a:Option Addr}{n c:Nat}{sd ep nu de:Int}{w w':World}(h:CBox N a n c sd ep nu de w)(hb:Below M w w')(hM:N<M):CBox N a n c sd ep nu de w':=
 ⟨(hb.cell (p:=(m00 N)) hM).trans h.1,(hb.cell (p:=(m15 N)) hM).trans h.2.1,(hb.cell (p:=(m25 N)) hM).trans h.2.2.1,(hb.cell (p:=(m33 N)) hM).trans h.2.2.2.1,(hb.cell (p:=(m35 N)) hM).trans h.2.2.2.2⟩
theorem CBox.at_ {N:Nat}{a:Option Addr}{n c:Nat}{sd ep nu de:Int}{w:World}{t:TypeId}(h:w.heap[N]?=some (.cells (m05 a n c sd ep nu de) t (0,0))):CBox N a n c sd ep nu de w:=
 ⟨cA h 0,cA h 1,cA h 2,cA h 3,cA h 4⟩
theorem jE (a:Option Addr)(n c:Nat)(l:List Int)(sd ep nu de:Int)(a2:Option Addr)(n2 c2:Nat)(ids:List Int)(w:World)(hn:l.length=n)(hm:n<=9223372036854775807)(hl:Ints w a l)(h2:SlV intC 1 w a2 n2 c2 ids):
  Calls Tryz.prog 80 #[.agg (m05 a n c sd ep nu de),.slice a2 n2 c2] w fun e w'=>e=.returned (m30 (Tp.fU l ep nu de ids))/\Below w.heap.size w w':=by
 have hm2:n2<=9223372036854775807:=Nat.le_trans h2.cap h2.top
 have H2:=zH h2
 have HL:=zH hl
 have HN:=zH hn
 have r0:aMu w (.cells (m05 a n c sd ep nu de) 25 (0,0)) ids 0 (((m28 w a n c sd ep nu de:World).alloc (.map #[] 0)).alloc (.cells #[.map (some (w.heap.size+1))] 165)):=by
  refine⟨(cR _ _).alloc (by simp only[World.size_alloc];omega) _,?_,?_,by simp,[],?_,fun j=>rfl⟩
  ·rw[cF,if_neg (by simp only[World.size_alloc];omega),cF,if_neg (by simp),cF,if_pos rfl]
  ·rw[cF,if_pos (by simp)]
  ·have:=bD.made nT bY (m28 w a n c sd ep nu de)
   rw[World.size_alloc]at this
   exact this.alloc _
 clear hl h2 hn
 go_enter Tryz.func80,Tryz.ntmps80
 have hmm:=@run_makeMap Tryz.prog
 go_wp2_with fail
 clear hmm
 go_loopw [11] (fun i wr=>∃k:Nat,k<=n2/\i=.int .i64 k/\aMu w (.cells (m05 a n c sd ep nu de) 25 (0,0)) ids k wr) (fun i _=>n2-(intOf i).toNat)
 case atStart=>exact⟨0,Nat.zero_le _,rfl,r0⟩
 case round=>
  obtain⟨k,hk,rfl,hR⟩:=hrel
  obtain⟨m,hmap,hmh⟩:=hR.map
  have cb:wr.cell? (m45 w)=some (.map (some (w.heap.size+1))):=cA hR.mbx 0
  have HR:=zH hR
  have HMH:=zH hmh
  clear hR hmh r0
  by_cases hkn:k<n2
  ·have hkl:k<ids.length:=by rw[H2.out.len];exact hkn
   rcases H2.out.rows with h0|⟨b,o,rfl,hlt,hc⟩
   ·omega
   have cx:wr.cell? (m09 b (o+k))=some (.int .i64 ids[k]):=by
    have:=(HR.out.bel.cell (p:=(m09 b (o+k*1+0))) hlt).trans (hc k hkl 0 (by omega))
    rw[Nat.mul_one,Nat.add_zero]at this
    exact this
   have hts:=rJ ids k hkl
   obtain⟨y,hy⟩:∃y,ids[k]=y:=⟨_,rfl⟩
   rw[hy]at cx
   have HTS:=zH hts
   have HY:=zH hy
   have k0:(0:Int)<=k:=by omega
   have k1:(k:Int)<n2:=by omega
   have hsz:=HR.out.lt
   clear hc hts hy
   go_wp2_with (at_mapUpdate;refine lD _ rfl _ _ _ _ (.inl rfl) aIe Tryz.underlying165 (w.heap.size+1) m rfl hmap y rfl true rfl ?_;intro w3 hmap3 hturn3)
   refine⟨⟨k+1,by omega,by go_num,HR.out.bel.trans (hturn3.below (Nat.le_succ _)),?_,?_,?_,_,hmap3,?_⟩,by simp[intOf];omega⟩
   ·rw[hturn3.other _ (by omega)];exact HR.out.box
   ·rw[hturn3.other _ (by omega)];exact HR.out.mbx
   ·rw[hturn3.size];exact hsz
   ·intro j
    rw[Tp.dF,HTS.out,HY.out,<-HMH.out]
    by_cases h:j=y<;>simp[h]
  ·obtain rfl:k=n2:=by omega
   have hmh2:∀j,(Tp.at_ m j).getD false=Tp.has ids j:=fun j=>by rw[HMH.out,List.take_of_length_le (by rw[H2.out.len];exact Nat.le_refl _)]
   have bx:CBox w.heap.size a n c sd ep nu de wr:=CBox.at_ HR.out.box
   have bx2:CBox w.heap.size a n c sd ep nu de ((m28 wr a n c sd ep nu de:World).alloc (.cells #[.func (.func 112) #[] #[.pointer (some (m45 w))]] 104)).drew:=bx.below (M:=wr.heap.size) (cR _ _).drew (by have:=HR.out.lt;omega)
   obtain⟨b0,b1,b2,b3,b4⟩:=id bx
   have HLT:=zH HR.out.lt
   have HF:=zH hmh2
   clear hmh2
   have hsum:=aFv (w.heap.size+2) (w.heap.size+1) n c a l sd ep nu de ids m wr.drew HN.out hm ((HL.out.below HR.out.bel nr).keep (Below.refl _ _).drew) cb HR.out.lt (hmap.drewN 1) HF.out
   have HS:=zH hsum
   clear hsum
   go_wp2
   go_region_held3 (fun w'=>w'.cell? (m07 w)=some (.slice a n c)/\w'.cell? (m14 w)=some (.int .u64 sd)/\w'.cell? (m17 w)=some (.int .i64 ep)/\w'.cell? (m19 w)=some (.int .i64 nu)/\w'.cell? (m27 w)=some (.int .i64 de))
    (first|exact bx|exact bx2|exact bx5)
    (first
     |(go_at_call 109;refine(sK a n c sd ep nu de _ rfl rfl _).mono ?_;rintro e w4 ⟨rfl,rfl⟩)
     |(go_at_call 111;refine HS.out.mono ?_;rintro e w5 ⟨rfl,hb5⟩;have bx5:CBox w.heap.size a n c sd ep nu de w5:=CBox.below (w:=wr.drew) bx hb5 (Nat.lt_of_succ_lt (Nat.lt_of_succ_lt HLT.out));have bel5:=bS HR.out.bel.drew hb5))
   go_wp2
   go_ret
   exact⟨rfl,bel5⟩
end
structure lC (w0:World) (ob:Option Obj) (a:Option Addr) (n c:Nat) (l:List Tp.B) (t:Int×Int) (W:World):Prop where
 bel:Below w0.heap.size w0 W
 conf:W.heap[w0.heap.size]?=ob
 b1:W.heap[w0.heap.size+4]?=some (.cells #[.map (some (w0.heap.size+3))] 126 (0,0))
 b2:W.heap[w0.heap.size+1]?=some (.cells #[.slice a n c] 35 (0,0))
 b3:W.heap[w0.heap.size+2]?=some (.cells #[.int .u64 t.1,.int .u64 t.2] 40 (0,0))
 map:∃m,bD idV bY W (w0.heap.size+3) m/\∀k b,Tp.at_ m k=some b->b=Tp.has (Tp.chain l k) t
theorem lC.lt {w0:World}{ob:Option Obj}{a:Option Addr}{n c:Nat}{l:List Tp.B}{t:Int×Int}{W:World}(h:lC w0 ob a n c l t W):w0.heap.size+4<W.heap.size:=(gS h.b1)
theorem lC.grown {w0:World}{ob:Option Obj}{a:Option Addr}{n c:Nat}{l:List Tp.B}{t:Int×Int}{W W':World}{row:Option Nat}(h:lC w0 ob a n c l t W)(hg:W.grownBy W' row)(hr:∀k,row=some k->w0.heap.size+5<=k):lC w0 ob a n c l t W':=by
 have hlt:=h.lt
 have hk:∀k,k<w0.heap.size+5->W'.heap[k]?=W.heap[k]?:=fun k hk=>by
  obtain⟨_,_,_,_,h5⟩:=hg
  exact h5 k (by omega) (fun e=>by have:=hr k e.symm;omega)
 obtain⟨m,hm,hh⟩:=h.map
 exact⟨h.bel.trans (iG hg (by omega) (fun k e=>by have:=hr k e;omega)),(hk _ (by omega)).trans h.conf,(hk _ (by omega)).trans h.b1,(hk _ (by omega)).trans h.b2,(hk _ (by omega)).trans h.b3,m,hm.same (hk _ (by omega)),hh⟩
theorem lC.below {w0:World}{ob:Option Obj}{a:Option Addr}{n c:Nat}{l:List Tp.B}{t:Int×Int}{W W':World}(h:lC w0 ob a n c l t W)(hb:Below W.heap.size W W'):lC w0 ob a n c l t W':=h.grown (fA hb none) (fun _ e=>by cases e)
theorem eQ {w w':World}{row:Option Nat}(h:w.grownBy w' row):w.heap.size<=w'.heap.size:=by
 obtain⟨_,_,_,h4,_⟩:=h
 exact h4
theorem mN {w w':World}{row:Option Nat}{k:Nat}(h:w.grownBy w' row)(hk:k<w.heap.size)(hne:some k≠row):w'.heap[k]?=w.heap[k]?:=by
 obtain⟨_,_,_,_,h5⟩:=h
 exact h5 k hk hne
theorem OwnL.map_call {α:Type}{f:α->List Value}{k:Nat}{e:TypeId}{w w':World}{base mb:Nat}{o:Obj}{v:Value}{l:List α}(h:OwnL f k e w base v l)(hs:base<=w.heap.size)(hb:mb<base)(hg:(w.alloc o).grownBy w' (some mb)):OwnL f k e w' base v l:=
 ⟨h.1,h.2.imp id (fun⟨g,cap,cur,hv,hgb,hh,r⟩=>⟨g,cap,cur,hv,hgb,by
  have hlt:=(gS hh)
  rw[mN hg (by simp only[World.size_alloc];omega) (by rw[ne_eq,Option.some.injEq];omega),Below.heap_alloc _ _ _ hlt]
  exact hh,r⟩)⟩
def OnC (N B:Nat) (a:Option Addr) (n c:Nat) (t0 t1 p q:Int) (w:World):Prop:=
 w.cell? (m66 N)=some (.slice a n c)/\w.cell? (m25 B)=some (.int .u64 p)/\w.cell? (m33 B)=some (.int .u64 q)/\w.cell? ⟨N+2,0,none⟩=some (.int .u64 t0)/\w.cell? ⟨N+2,1,none⟩=some (.int .u64 t1)
theorem OnC.below {N B M:Nat}{a:Option Addr}{n c:Nat}{t0 t1 p q:Int}{w w':World}(h:OnC N B a n c t0 t1 p q w)(hb:Below M w w')(h1:N+2<M)(h2:B<M):OnC N B a n c t0 t1 p q w':=
 ⟨(hb.cell (p:=(m66 N)) (show N+1<M by omega)).trans h.1,(hb.cell (p:=(m25 B)) h2).trans h.2.1,(hb.cell (p:=(m33 B)) h2).trans h.2.2.1,(hb.cell (p:=⟨N+2,0,none⟩) h1).trans h.2.2.2.1,(hb.cell (p:=⟨N+2,1,none⟩) h1).trans h.2.2.2.2⟩
theorem aCx (w0:World)(ob:Option Obj)(a:Option Addr)(n c:Nat)(l:List Tp.B)(t0 t1:Int)(who sl p q:Int)(w:World)(hn:l.length=n)(hm:n<=1000000)(hU:∀x∈l,x.U)(hl:Blks w0 a l)(h:lC w0 ob a n c l (t0,t1) w):
  Calls Tryz.prog 136 #[.agg (m12 who sl p q),.pointer (some ⟨w0.heap.size+4,0,none⟩),.pointer (some (m22 w0)),.pointer (some (m45 w0))] w fun e w'=>
   e=.returned (.bool (Tp.has (Tp.chain l (p,q)) (t0,t1)))/\lC w0 ob a n c l (t0,t1) w'/\w.grownBy w' (some (w0.heap.size+3)):=by
 obtain⟨m,hmap,hmh⟩:=h.map
 have k1:w.cell? ⟨w0.heap.size+4,0,none⟩=some (.map (some (w0.heap.size+3))):=cA h.b1 0
 have hlt:=h.lt
 have HI:=zH h
 have HL:=zH hl
 have HN:=zH hn
 have HU:=zH hU
 clear h hl hn hU
 cases hat:Tp.at_ m (p,q)with
 |some b=>
  have hb:=hmh _ _ hat
  rw[<-hb]
  clear hmh hb
  go_enter Tryz.func136,Tryz.ntmps136
  go_wp2_with (at_lookup;refine cZ _ rfl _ _ _ true rfl fC Tryz.underlying126 (.bool false) (jD _) (w0.heap.size+3) m rfl (hmap.alloc _) (p,q) rfl (.tuple #[.bool b,.bool true]) (by rw[hat];rfl) ?_)
  go_ret
  exact⟨rfl,HI.out.below ((Below.refl _ _).alloc nr _),fA ((Below.refl _ _).alloc nr _) _⟩
 |none=>
  have HMH:=zH hmh
  clear hmh
  go_enter Tryz.func136,Tryz.ntmps136
  go_wp2_with (at_lookup;refine cZ _ rfl _ _ _ true rfl fC Tryz.underlying126 (.bool false) (jD _) (w0.heap.size+3) m rfl (hmap.alloc _) (p,q) rfl (.tuple #[.bool false,.bool false]) (by rw[hat];rfl) ?_)
  have w1b:Below w.heap.size w (w.alloc (.cells (m12 who sl p q) 84)):=(Below.refl _ _).alloc nr _
  have w1n:=heap_alloc_new w (.cells (m12 who sl p q) 84)
  have w1s:w.heap.size<(w.alloc (.cells (m12 who sl p q) 84)).heap.size:=by simp
  generalize w.alloc (.cells (m12 who sl p q) 84)=w1 at w1b w1n w1s⊢
  have hI1:=HI.out.below w1b
  have hC:OnC w0.heap.size w.heap.size a n c t0 t1 p q w1:=⟨cA hI1.b2 0,cA w1n 2,cA w1n 3,cA hI1.b3 0,cA hI1.b3 1⟩
  obtain⟨d1,d2,d3,d4,d5⟩:=id hC
  have HI1:=zH hI1
  have hL1:=zH ((HL.out.below hI1.bel nr).keep (Below.refl _ _).drew)
  clear hI1
  go_region_held3 (fun w'=>w'.cell? (m22 w0)=some (.slice a n c)/\w'.cell? (m17 w)=some (.int .u64 p)/\w'.cell? (m19 w)=some (.int .u64 q)/\w'.cell? (m45 w0)=some (.int .u64 t0)/\w'.cell? (m54 w0)=some (.int .u64 t1))
   (first|exact hC|exact hC2|exact hC3)
   (first
    |(go_at_call 12;refine(gR a n c l p q _ HN.out hm HU.out hL1.out).mono ?_;rintro e w2 ⟨v,rfl,own,hb2⟩;obtain⟨va,vc,rfl,vs⟩:=own.sl gI;have hC2:OnC w0.heap.size w.heap.size a n c t0 t1 p q w2:=OnC.below (w:=w1.drew) hC hb2 (show _<w1.heap.size by omega) (show _<w1.heap.size by omega))
    |(go_at_call 30;refine(jR va _ vc _ t0 t1 _ vs).mono ?_;rintro e w3 ⟨rfl,hb3⟩;have hC3:OnC w0.heap.size w.heap.size a n c t0 t1 p q w3:=OnC.below (w:=w2) (by assumption) hb3 (Nat.lt_of_lt_of_le (show _<w1.heap.size by omega) hb2.size) (Nat.lt_of_lt_of_le (show _<w1.heap.size by omega) hb2.size)))
  have hI3:=(HI1.out.below (Below.refl _ _).drew).below (hb2.trans (hb3.mono hb2.size))
  have hbw3:Below w.heap.size w w3:=(w1b.drew).trans ((hb2.trans (hb3.mono hb2.size)).mono (Nat.le_of_lt w1s))
  have hmap3:=(hmap.keep w1b).keep (w':=w3) ((Below.refl _ w1).drew.trans (hb2.trans (hb3.mono hb2.size)))
  have h1:w3.cell? ⟨w0.heap.size+4,0,none⟩=some (.map (some (w0.heap.size+3))):=cA hI3.b1 0
  obtain⟨g1,g2,g3,g4,g5⟩:=id hC3
  have HI3:=zH hI3
  clear hI3
  go_wp2_with (at_mapUpdate;refine lD _ rfl _ _ _ _ (.inl rfl) fC Tryz.underlying126 (w0.heap.size+3) m rfl hmap3 (p,q) rfl (Tp.has (Tp.chain l (p,q)) (t0,t1)) rfl ?_;intro w4 hmap4 hturn4)
  go_ret
  refine⟨rfl,⟨HI3.out.bel.trans (hturn4.below (by omega)),(hturn4.other _ (by omega)).trans HI3.out.conf,(hturn4.other _ (by omega)).trans HI3.out.b1,(hturn4.other _ (by omega)).trans HI3.out.b2,(hturn4.other _ (by omega)).trans HI3.out.b3,_,hmap4,?_⟩,?_⟩
  ·intro k b hk
   rw[Tp.dF]at hk
   by_cases e:k=(p,q)
   ·rw[if_pos e]at hk
    rw[e]
    exact(Option.some.inj hk).symm
   ·rw[if_neg e]at hk
    exact HMH.out k b hk
  ·obtain⟨o,ht⟩:=hturn4
   exact eP (fA hbw3 _) ht.grown
theorem aJr (who sl p q:Int)(w:World):
  Calls Tryz.prog 138 #[.agg (m12 who sl p q)] w fun e w'=>e=.returned (m30 who)/\w.alloc (.cells (m12 who sl p q) 84)=w':=by
 go_enter Tryz.func138,Tryz.ntmps138
 go_wp2
 go_ret
 exact⟨rfl,rfl⟩
theorem aEd {α β:Type}(p:α->Bool)(f:α->β)(l:List α)(j:Nat)(h:j<l.length):((l.take (j+1)).filter p).map f=((l.take j).filter p).map f++(if p l[j]then[f l[j]]else[]):=by
 rw[List.take_succ_eq_append_getElem h,List.filter_append,List.map_append]
 congr 1
 by_cases e:p l[j]=true<;>simp[e]
def Tp.onP (l:List Tp.B) (t:Int×Int) (v:Tp.V):Bool:=Tp.has (Tp.chain l (v.p,v.q)) t
def Tp.told (l:List Tp.B) (t:Int×Int) (vs:List Tp.V):List Int:=(vs.filter (Tp.onP l t)).map Tp.V.who
theorem Tp.aFr (l:List Tp.B)(t:Int×Int)(vs:List Tp.V):(Tp.told l t vs).length<=vs.length:=by
 unfold Tp.told
 rw[List.length_map]
 exact List.length_filter_le _ _
theorem aFs (w0:World)(ob:Option Obj)(a:Option Addr)(n c:Nat)(l:List Tp.B)(t0 t1:Int)(av:Option Addr)(nv cv:Nat)(vs:List Tp.V)(w:World)(hn:l.length=n)(hm:n<=1000000)(hU:∀x∈l,x.U)(hl:Blks w0 a l)(hv:SlV aH 4 w0 av nv cv vs)(hnv:nv<=1000000)(h:lC w0 ob a n c l (t0,t1) w):
  Calls Tryz.prog 137 #[.slice av nv cv,.func (.func 136) #[] #[.pointer (some ⟨w0.heap.size+4,0,none⟩),.pointer (some (m22 w0)),.pointer (some (m45 w0))],.func (.func 138) #[] #[]] w fun e w'=>
   ∃v,e=.returned v/\OwnL intC 1 3 w' w.heap.size v (Tp.told l (t0,t1) vs)/\lC w0 ob a n c l (t0,t1) w':=by
 obtain⟨i0,hi,hz0,hz1,hz2⟩:=info_parts nW
 have HL:=zH hl
 have HN:=zH hn
 have HU:=zH hU
 have HV:=zH hv
 have HI:=zH h
 have hNw:w0.heap.size+3<w.heap.size:=by have:=h.lt;omega
 have hNw5:w0.heap.size+5<=w.heap.size:=h.lt
 clear hl hn hU hv h
 go_enter Tryz.func137,Tryz.ntmps137
 go_wp2_with fail
 go_loopw [7,12] (fun v i wr=>∃j:Nat,j<=nv/\i=.int .i64 j/\OwnL intC 1 3 wr w.heap.size v (Tp.told l (t0,t1) (vs.take j))/\lC w0 ob a n c l (t0,t1) wr/\w.heap.size<=wr.heap.size) (fun _ i _=>nv-(intOf i).toNat)
 case atStart=>exact⟨0,Nat.zero_le _,rfl,OwnL.nil _ _ _ _ _,HI.out,Nat.le_refl _⟩
 case round=>
  obtain⟨j,hj,rfl,hown,hI,hsz⟩:=hrel
  have HR:=zH hI
  clear hI
  by_cases hjn:j<nv
  case neg=>
   obtain rfl:j=nv:=by omega
   have hfin:vs.take j=vs:=List.take_of_length_le (by rw[HV.out.len];exact Nat.le_refl _)
   rw[hfin]at hown
   go_wp2
   go_ret
   exact⟨_,rfl,hown,HR.out⟩
  have hjl:j<vs.length:=by rw[HV.out.len];exact hjn
  have hsn:Tp.told l (t0,t1) (vs.take (j+1))=Tp.told l (t0,t1) (vs.take j)++(if Tp.onP l (t0,t1) vs[j]then[vs[j].who]else[]):=aEd (Tp.onP l (t0,t1)) Tp.V.who vs j hjl
  rcases HV.out.rows with h0|⟨b,o,rfl,hlt,hc⟩
  ·omega
  have hx:∀i,i<4->wr.cell? (m09 b (o+j*4+i))=(aH vs[j])[i]?:=fun i hi=>(HR.out.bel.cell (p:=⟨b,_,none⟩) hlt).trans (hc j hjl i hi)
  obtain⟨⟨who,sl,p,q⟩,hX⟩:∃x,vs[j]=x:=⟨_,rfl⟩
  rw[hX]at hx hsn
  have x0:wr.cell? (m09 b (o+j*4))=some (.int .i64 who):=hx 0 (by omega)
  have x1:wr.cell? (m09 b (o+j*4+1))=some (.int .i64 sl):=hx 1 (by omega)
  have x2:wr.cell? (m09 b (o+j*4+2))=some (.int .u64 p):=hx 2 (by omega)
  have x3:wr.cell? (m09 b (o+j*4+3))=some (.int .u64 q):=hx 3 (by omega)
  obtain⟨t,ht⟩:∃t,Tp.has (Tp.chain l (p,q)) (t0,t1)=t:=⟨_,rfl⟩
  rw[show Tp.onP l (t0,t1) ⟨who,sl,p,q⟩=t from ht]at hsn
  have HS:Hid (Tp.told l (t0,t1) (vs.take (j+1))=Tp.told l (t0,t1) (vs.take j)++if t=true then[who]else[]):=zH hsn
  have HT:=zH ht
  have k0:(0:Int)<=j:=by omega
  have k1:(j:Int)<nv:=by omega
  have HSZ:=zH hsz
  clear hx hX hsn ht hc hsz
  have hln:(Tp.told l (t0,t1) (vs.take j)).length<=1000000:=Nat.le_trans (Tp.aFr _ _ _) (by rw[List.length_take];omega)
  have hNe:¬wr.heap.size=w0.heap.size+3:=by have:=HR.out.lt;omega
  cases t with
  |false=>
   go_wp2_with (go_at_call 136;refine(aCx w0 ob a n c l t0 t1 who sl p q _ HN.out hm HU.out HL.out (HR.out.below ((Below.refl _ _).alloc nr _))).mono ?_;rintro e w2 ⟨rfl,hI2,hg2⟩;rw[HT.out];have bx2:w2.heap[wr.heap.size]?=some (.cells (m12 who sl p q) 84 (0,0)):=(mN hg2 (by simp) (by rw[ne_eq,Option.some.injEq];exact hNe)).trans (heap_alloc_new wr _);have c0:w2.cell? (m07 wr)=some (.int .i64 who):=cA bx2 0;have c1:w2.cell? (m14 wr)=some (.int .i64 sl):=cA bx2 1;have c2:w2.cell? (m17 wr)=some (.int .u64 p):=cA bx2 2;have c3:w2.cell? (m19 wr)=some (.int .u64 q):=cA bx2 3;have own2:=hown.map_call HSZ.out hNw hg2)
   refine⟨⟨j+1,by omega,by go_num,?_,hI2,?_⟩,by simp[intOf];omega⟩
   ·rw[HS.out,if_neg (by simp),List.append_nil]
    exact own2
   ·obtain⟨_,_,_,h4,_⟩:=hg2
    rw[World.size_alloc]at h4
    have:=HSZ.out
    omega
  |true=>
   go_wp2_with (first
    |(go_at_call 136;refine(aCx w0 ob a n c l t0 t1 who sl p q _ HN.out hm HU.out HL.out (HR.out.below ((Below.refl _ _).alloc nr _))).mono ?_;rintro e w2 ⟨rfl,hI2,hg2⟩;rw[HT.out];have bx2:w2.heap[wr.heap.size]?=some (.cells (m12 who sl p q) 84 (0,0)):=(mN hg2 (by simp) (by rw[ne_eq,Option.some.injEq];exact hNe)).trans (heap_alloc_new wr _);have c0:w2.cell? (m07 wr)=some (.int .i64 who):=cA bx2 0;have c1:w2.cell? (m14 wr)=some (.int .i64 sl):=cA bx2 1;have c2:w2.cell? (m17 wr)=some (.int .u64 p):=cA bx2 2;have c3:w2.cell? (m19 wr)=some (.int .u64 q):=cA bx2 3;have own2:=hown.map_call HSZ.out hNw hg2)
    |(go_at_call 138;refine(aJr who sl p q _).mono ?_;rintro e w3 ⟨rfl,rfl⟩;have hsz2:=eQ hg2;rw[World.size_alloc]at hsz2;have hszw:=HSZ.out;have belw:=Below.refl w.heap.size w2)
    |(at_builtin;refine wpList_append_own _ rfl (.tmp 19) (.tmp 23) 22 rfl w.heap.size 3 i0 (.int .i64 0) 1 8 Tryz.underlying22 hi hz0 hz1 hz2 rfl (by decide) _ _ _ rfl ((own2.alloc _).alloc _) (m22 w2) 1 1 (intC who) rfl rfl (bE _ _ _ _ (by simp)) (rE who) (by unfold maxLen;omega) (by omega) (by simp only[World.size_alloc];omega) ?_;intro v3 w4 hown3 hg3 _))
   have hI4:=(hI2.below (cR _ _)).grown hg3 (fun k hk=>by have:=(OwnL.lt own2 k hk).1;omega)
   have hsz4:=eQ hg3
   simp only[World.size_alloc]at hsz4
   refine⟨⟨j+1,by omega,by go_num,?_,hI4,by omega⟩,by simp[intOf];omega⟩
   rw[HS.out]
   simp only[if_true]
   exact OwnL.snoc hown3 rfl
def Tp.on (W:List Int) (ep nu de:Int) (l:List Tp.B) (vs:List Tp.V) (t:Int×Int):Int:=Tp.fU W ep nu de (Tp.told l t vs)
theorem vJ (w:World)(aw:Option Addr)(nw cw:Nat)(sd ep nu de:Int)(a:Option Addr)(n c:Nat)(l:List Tp.B)(t0 t1:Int):
  ∀ob,(((((m28 w aw nw cw sd ep nu de:World).alloc (.cells #[.slice a n c] 35)).alloc (m40 t0 t1)).alloc (.map #[] 0)).alloc (.cells #[.map (some (w.heap.size+3))] 126)).heap[w.heap.size]?=ob->
  lC w ob a n c l (t0,t1) (((((m28 w aw nw cw sd ep nu de:World).alloc (.cells #[.slice a n c] 35)).alloc (m40 t0 t1)).alloc (.map #[] 0)).alloc (.cells #[.map (some (w.heap.size+3))] 126)):=by
 intro ob h
 refine⟨((((cR _ _).alloc (by simp only[World.size_alloc];omega) _).alloc (by simp only[World.size_alloc];omega) _).alloc (by simp only[World.size_alloc];omega) _),h,?_,?_,?_,[],?_,fun k b h=>by cases h⟩
 ·rw[cF,if_pos (by simp)]
 ·rw[cF,if_neg (by simp only[World.size_alloc];omega),cF,if_neg (by simp only[World.size_alloc];omega),cF,if_neg (by simp),cF,if_pos (by simp)]
 ·rw[cF,if_neg (by simp only[World.size_alloc];omega),cF,if_neg (by simp),cF,if_pos (by simp)]
 ·have:=bD.made idV bY (((m28 w aw nw cw sd ep nu de:World).alloc (.cells #[.slice a n c] 35)).alloc (m40 t0 t1))
  simp only[World.size_alloc]at this
  exact this.alloc _
theorem aCw (aw:Option Addr)(nw cw:Nat)(W:List Int)(sd ep nu de:Int)(a:Option Addr)(n c:Nat)(l:List Tp.B)(av:Option Addr)(nv cv:Nat)(vs:List Tp.V)(t0 t1:Int)(w:World)(hw:W.length=nw)(hwm:nw<=9223372036854775807)(hW:Ints w aw W)(hn:l.length=n)(hm:n<=1000000)(hU:∀x∈l,x.U)(hl:Blks w a l)(hv:SlV aH 4 w av nv cv vs)(hnv:nv<=1000000):
  Calls Tryz.prog 117 #[.agg (m05 aw nw cw sd ep nu de),.slice a n c,.slice av nv cv,.agg (m08 t0 t1)] w fun e w'=>
   e=.returned (m30 (Tp.on W ep nu de l vs (t0,t1)))/\Below w.heap.size w w':=by
 unfold Tp.on
 have HW:=zH hW
 have HN:=zH hn
 have HL:=zH hl
 have HU:=zH hU
 have HV:=zH hv
 have HWN:=zH hw
 clear hW hn hl hU hv hw
 have hmm:=@run_makeMap Tryz.prog
 go_enter Tryz.func117,Tryz.ntmps117
 go_wp2_with fail
 clear hmm
 have i0:=vJ w aw nw cw sd ep nu de a n c l t0 t1
 have z5:w.heap.size+4<(((((m28 w aw nw cw sd ep nu de:World).alloc (.cells #[.slice a n c] 35)).alloc (m40 t0 t1)).alloc (.map #[] 0)).alloc (.cells #[.map (some (w.heap.size+3))] 126)).heap.size:=by simp
 have g0:(((((m28 w aw nw cw sd ep nu de:World).alloc (.cells #[.slice a n c] 35)).alloc (m40 t0 t1)).alloc (.map #[] 0)).alloc (.cells #[.map (some (w.heap.size+3))] 126)).heap[w.heap.size]?=some (.cells (m05 aw nw cw sd ep nu de) 25 (0,0)):=by
  rw[cF,if_neg (by simp only[World.size_alloc];omega),cF,if_neg (by simp only[World.size_alloc];omega),cF,if_neg (by simp only[World.size_alloc];omega),cF,if_neg (by simp),cF,if_pos rfl]
 have bx:CBox w.heap.size aw nw cw sd ep nu de (((((m28 w aw nw cw sd ep nu de:World).alloc (.cells #[.slice a n c] 35)).alloc (m40 t0 t1)).alloc (.map #[] 0)).alloc (.cells #[.map (some (w.heap.size+3))] 126)):=by
  exact CBox.at_ (t:=25) g0
 generalize((((m28 w aw nw cw sd ep nu de:World).alloc (.cells #[.slice a n c] 35)).alloc (m40 t0 t1)).alloc (.map #[] 0)).alloc (.cells #[.map (some (w.heap.size+3))] 126)=w1 at i0 z5 g0 bx⊢
 obtain⟨b0,b1,b2,b3,b4⟩:=id bx
 have I1:=zH ((i0 _ g0).below (Below.refl _ _).drew)
 clear i0
 go_region_held3 (fun w'=>w'.cell? (m07 w)=some (.slice aw nw cw)/\w'.cell? (m14 w)=some (.int .u64 sd)/\w'.cell? (m17 w)=some (.int .i64 ep)/\w'.cell? (m19 w)=some (.int .i64 nu)/\w'.cell? (m27 w)=some (.int .i64 de))
  (first|exact bx|exact bx2|exact bx3)
  (first
   |(go_at_call 137;refine(aFs w _ a n c l t0 t1 av nv cv vs _ HN.out hm HU.out HL.out HV.out hnv I1.out).mono ?_;rintro e w2 ⟨v,rfl,own,hI2⟩;obtain⟨va,vc,rfl,vs2⟩:=own.sl dQ;have hb2:=hI2.bel;have bx2:CBox w.heap.size aw nw cw sd ep nu de w2:=CBox.at_ (t:=25) hI2.conf)
   |(go_at_call 80;refine(jE aw nw cw W sd ep nu de va _ vc _ _ HWN.out hwm (HW.out.below hb2 nr) vs2).mono ?_;rintro e w3 ⟨rfl,hb3⟩;have bx3:CBox w.heap.size aw nw cw sd ep nu de w3:=CBox.below (w:=w2) (by assumption) hb3 (by have:=hI2.lt;omega)))
 go_wp2
 go_ret
 exact⟨rfl,bS hb2 hb3⟩
structure Tp.R where
  n:Int
  p:Int
  q:Int
deriving DecidableEq
theorem aMl (n p q n' p' q':Int)(w:World):(Op.equalIn 10000 176 (.agg #[.int .i64 n,.int .u64 p,.int .u64 q]) (.agg #[.int .i64 n',.int .u64 p',.int .u64 q'])).run Tryz.prog w=.ok (decide (n=n')&&(decide (p=p')&&decide (q=q'))) w:=by
  have ht:Tryz.prog.underlying 176=some (.struct (Tryz.prog.fieldsOf 176)):=by kernel_rfl
  have hp:Tryz.prog.stoodInHeld 176=false:=by kernel_rfl
  have hf:(Tryz.prog.fieldsOf 176).toList.map (fun f=>(f.name,f.type,f.offset))=[("n",3,0),("id",40,1)]:=by kernel_rfl
  rw[show(10000:Nat)=9999+1 from rfl,run_equalIn_struct w 9999 _ _ _ ht hp]
  generalize(Tryz.prog.fieldsOf 176).toList=fs at hf
  obtain⟨f0,f1,rfl,h0,h1⟩:=wH hf
  simp only[Prod.mk.injEq]at h0 h1
  obtain⟨n0,t0,o0⟩:=h0
  obtain⟨n1,t1,o1⟩:=h1
  have uE:=Tryz.underlying3
  have aE:=Tryz.isAgg3
  have aI:=Tryz.isAgg40
  have e:=fun w=>eqID 9997 p q p' q' w
  simp only[Op.eqFields,n0,n1,t0,t1,o0,o1]
  go_simp
  by_cases h0:n=n'<;>by_cases h2:p=p'<;>by_cases h3:q=q'<;>simp[h0,h2,h3]
def Tp.gT (a b:Tp.R):Bool:=if a.n=b.n then !(decide (a.p=b.p)&&decide (a.q=b.q))&&Mx.less b.p b.q a.p a.q else decide (b.n<a.n)
theorem uM (n p q n' p' q':Int)(w:World):
    Calls Tryz.prog 118 #[.agg #[.int .i64 n,.int .u64 p,.int .u64 q],.agg #[.int .i64 n',.int .u64 p',.int .u64 q']] w fun e w'=>e=.returned (.bool (Tp.gT ⟨n,p,q⟩ ⟨n',p',q'⟩))/\Below w.heap.size w w':=by
  unfold Tp.gT
  have hb2:=zH (cR (w:=w) (.cells #[.int .i64 n,.int .u64 p,.int .u64 q] 176) (.cells #[.int .i64 n',.int .u64 p',.int .u64 q'] 176))
  by_cases hn:n=n'
  · subst hn
    have he:=aMl n p q n p' q'
    simp only[if_true]
    by_cases hpq:p=p'/\q=q'
    · obtain⟨rfl,rfl⟩:=hpq
      simp only[decide_true,Bool.and_self,Bool.not_true,Bool.false_and]at he⊢
      go_enter Tryz.func118,Tryz.ntmps118
      go_wp2_with fail
      go_ret
      exact⟨rfl,hb2.out⟩
    · have h1:(decide (p=p')&&decide (q=q'))=false:=by
        rw[Bool.and_eq_false_iff,decide_eq_false_iff_not,decide_eq_false_iff_not]
        exact Decidable.not_and_iff_or_not.1 hpq
      rw[h1]at he⊢
      simp only[decide_true,Bool.true_and,Bool.not_false]at he⊢
      go_enter Tryz.func118,Tryz.ntmps118
      go_wp2_with (go_at_call 139;refine(aGs p' q' p q _).mono ?_;rintro e w2 ⟨rfl,hb⟩)
      go_ret
      exact⟨rfl,bS hb2.out hb⟩
  · simp only[hn,if_false]
    have hb:(n==n')=false:=beq_eq_false_iff_ne.2 hn
    have hd:decide (n'<n)=decide (n>n'):=rfl
    clear hn
    go_enter Tryz.func118,Tryz.ntmps118
    go_wp2_with fail
    go_ret
    exact⟨rfl,hb2.out⟩
def Tp.aFl (on:Int×Int->Int) (k:Int×Int):Tp.R:=⟨on k,k.1,k.2⟩
def Tp.mC (on:Int×Int->Int) (b:Tp.R) (k:Int×Int):Tp.R:=if Tp.gT (Tp.aFl on k) b then Tp.aFl on k else b
def Tp.dC (on:Int×Int->Int) (ks:List (Int×Int)):Tp.R:=ks.foldl (Tp.mC on) ⟨-1,0,0⟩
theorem Tp.wO (on:Int×Int->Int)(ks:List (Int×Int))(j:Nat)(h:j<ks.length):Tp.dC on (ks.take (j+1))=Tp.mC on (Tp.dC on (ks.take j)) ks[j]:=by
  unfold Tp.dC
  rw[List.take_succ_eq_append_getElem h,List.foldl_append]
  rfl
def Tp.best (W:List Int) (ep nu de:Int) (l:List Tp.B) (vs:List Tp.V) (id:Int×Int):Tp.R:=Tp.dC (Tp.on W ep nu de l vs) (Tp.aAk l id)
theorem set3 (w:World)(B:Nat)(u v z x y x':Value)(t:TypeId)(hb:w.heap[B]?=some (.cells #[u,v,z] t (0,0))):
    cT B (.cells #[x,y,x'] t (0,0)) w (((w.setCell (m00 B) x).setCell (m15 B) y).setCell (m25 B) x'):=by
  refine⟨rfl,rfl,rfl,by simp[World.setCell],?_,?_⟩
  · simp[World.setCell,Array.getElem?_modify,hb]
  · intro k hk
    rw[Below.heap_setCell _ _ _ _ hk,Below.heap_setCell _ _ _ _ hk,Below.heap_setCell _ _ _ _ hk]
structure aHw (w:World) (oc:Obj) (ks:List (Int×Int)) (v:Value) (on:Int×Int->Int) (j:Nat) (wr:World):Prop where
  bel:Below w.heap.size w wr
  conf:wr.heap[w.heap.size]?=some oc
  res:wr.heap[w.heap.size+2]?=some (.cells (m26) 40 (0,0))
  best:wr.heap[w.heap.size+3]?=some (.cells #[.int .i64 (Tp.dC on (ks.take j)).n,.int .u64 (Tp.dC on (ks.take j)).p,.int .u64 (Tp.dC on (ks.take j)).q] 176 (0,0))
  row:OwnL idC 2 40 wr (w.heap.size+4) v ks
theorem aHw.lt {w:World}{oc:Obj}{ks:List (Int×Int)}{v:Value}{on:Int×Int->Int}{j:Nat}{wr:World}(h:aHw w oc ks v on j wr):w.heap.size+3<wr.heap.size:=(gS h.best)
def BsC (N B:Nat) (a:Option Addr) (n c:Nat) (sd ep nu de y0 y1:Int) (w:World):Prop:=
  w.cell? (m00 N)=some (.slice a n c)/\w.cell? (m15 N)=some (.int .u64 sd)/\w.cell? (m25 N)=some (.int .i64 ep)/\w.cell? (m33 N)=some (.int .i64 nu)/\w.cell? (m35 N)=some (.int .i64 de)/\w.cell? (m00 B)=some (.int .u64 y0)/\w.cell? (m15 B)=some (.int .u64 y1)
theorem BsC.below {N B M:Nat}{a:Option Addr}{n c:Nat}{sd ep nu de y0 y1:Int}{w w':World}(h:BsC N B a n c sd ep nu de y0 y1 w)(hb:Below M w w')(hM:N<M)(hB:B<M):BsC N B a n c sd ep nu de y0 y1 w':=
  ⟨(hb.cell (p:=(m00 N)) hM).trans h.1,(hb.cell (p:=(m15 N)) hM).trans h.2.1,(hb.cell (p:=(m25 N)) hM).trans h.2.2.1,(hb.cell (p:=(m33 N)) hM).trans h.2.2.2.1,(hb.cell (p:=(m35 N)) hM).trans h.2.2.2.2.1,(hb.cell (p:=(m00 B)) hB).trans h.2.2.2.2.2.1,(hb.cell (p:=(m15 B)) hB).trans h.2.2.2.2.2.2⟩
theorem yL (aw : Option Addr) (nw cw : Nat) (W : List Int) (sd ep nu de : Int) (a : Option Addr) (n c : Nat) (l : List Tp.B) (av : Option Addr) (nv cv : Nat) (vs : List Tp.V) (t0 t1 : Int) (w : World) (hw : W.length = nw) (hwm : nw ≤ 9223372036854775807) (hW : Ints w aw W) (hn : l.length = n) (hm : n ≤ 1000000) (hU : ∀ x ∈ l, x.U) (hl : Blks w a l) (hv : SlV aH 4 w av nv cv vs) (hnv : nv ≤ 1000000) :
    Calls Tryz.prog 102 #[.agg #[.slice aw nw cw, .int .u64 sd, .int .i64 ep, .int .i64 nu, .int .i64 de], .slice a n c, .slice av nv cv, .agg #[.int .u64 t0, .int .u64 t1]] w fun e w' =>
      e = .returned (.tuple #[.agg #[.int .u64 (Tp.best W ep nu de l vs (t0, t1)).p, .int .u64 (Tp.best W ep nu de l vs (t0, t1)).q], .bool (decide (0 ≤ (Tp.best W ep nu de l vs (t0, t1)).n))]) ∧ Below w.heap.size w w' := by
  have HW := Lib.hid hW
  have HN := Lib.hid hn
  have HL := Lib.hid hl
  have HU := Lib.hid hU
  have HV := Lib.hid hv
  have HWN := Lib.hid hw
  clear hW hn hl hU hv hw
  unfold Tp.best
  obtain ⟨on, hon⟩ : ∃ on, Tp.on W ep nu de l vs = on := ⟨_, rfl⟩
  rw [hon]
  have HON := Lib.hid hon
  clear hon
  obtain ⟨ks, hks⟩ : ∃ ks, Tp.aAk l (t0, t1) = ks := ⟨_, rfl⟩
  obtain ⟨nk, hnk⟩ : ∃ nk, ks.length = nk := ⟨_, rfl⟩
  rw [hks]
  have HKS := Lib.hid hks
  have HNK := Lib.hid hnk
  clear hks hnk
  go_enter Tryz.func102, Tryz.ntmps102
  have z4 : (((((w.alloc (.cells #[.slice aw nw cw, .int .u64 sd, .int .i64 ep, .int .i64 nu, .int .i64 de] 25)).alloc (.cells #[.int .u64 t0, .int .u64 t1] 40)).alloc (.cells #[.int .u64 0, .int .u64 0] 40))).alloc (.cells #[.int .i64 (-1), .int .u64 0, .int .u64 0] 176)).heap.size = w.heap.size + 4 := by simp
  have bel4 : Below w.heap.size w (((((w.alloc (.cells #[.slice aw nw cw, .int .u64 sd, .int .i64 ep, .int .i64 nu, .int .i64 de] 25)).alloc (.cells #[.int .u64 t0, .int .u64 t1] 40)).alloc (.cells #[.int .u64 0, .int .u64 0] 40))).alloc (.cells #[.int .i64 (-1), .int .u64 0, .int .u64 0] 176)) := ((cR _ _).alloc (by simp only [World.size_alloc]; omega) _).alloc (by simp only [World.size_alloc]; omega) _
  have q0 : (((((w.alloc (.cells #[.slice aw nw cw, .int .u64 sd, .int .i64 ep, .int .i64 nu, .int .i64 de] 25)).alloc (.cells #[.int .u64 t0, .int .u64 t1] 40)).alloc (.cells #[.int .u64 0, .int .u64 0] 40))).alloc (.cells #[.int .i64 (-1), .int .u64 0, .int .u64 0] 176)).heap[w.heap.size]? = some (.cells #[.slice aw nw cw, .int .u64 sd, .int .i64 ep, .int .i64 nu, .int .i64 de] 25 (0, 0)) := by
    rw [cF, if_neg (by simp only [World.size_alloc]; omega), cF, if_neg (by simp only [World.size_alloc]; omega), cF, if_neg (by simp), cF, if_pos rfl]
  have q2 : (((((w.alloc (.cells #[.slice aw nw cw, .int .u64 sd, .int .i64 ep, .int .i64 nu, .int .i64 de] 25)).alloc (.cells #[.int .u64 t0, .int .u64 t1] 40)).alloc (.cells #[.int .u64 0, .int .u64 0] 40))).alloc (.cells #[.int .i64 (-1), .int .u64 0, .int .u64 0] 176)).heap[w.heap.size + 2]? = some (.cells #[.int .u64 0, .int .u64 0] 40 (0, 0)) := by
    rw [cF, if_neg (by simp only [World.size_alloc]; omega), cF, if_pos (by simp)]
  have q3 : (((((w.alloc (.cells #[.slice aw nw cw, .int .u64 sd, .int .i64 ep, .int .i64 nu, .int .i64 de] 25)).alloc (.cells #[.int .u64 t0, .int .u64 t1] 40)).alloc (.cells #[.int .u64 0, .int .u64 0] 40))).alloc (.cells #[.int .i64 (-1), .int .u64 0, .int .u64 0] 176)).heap[w.heap.size + 3]? = some (.cells #[.int .i64 (-1), .int .u64 0, .int .u64 0] 176 (0, 0)) := by
    rw [cF, if_pos (by simp)]
  have Z4 := Lib.hid z4
  have BEL4 := Lib.hid bel4
  clear z4 bel4
  go_wp2_with (go_at_call 116; refine (aGt a n c l t0 t1 _ HN.out hm HU.out (HL.out.keep BEL4.out)).mono ?_; rintro e w5 ⟨v, rfl, own, hb5⟩; rw [HKS.out] at own; have r0 : aHw w (.cells #[.slice aw nw cw, .int .u64 sd, .int .i64 ep, .int .i64 nu, .int .i64 de] 25 (0, 0)) ks v on 0 w5 := ⟨below_step BEL4.out hb5, cG hb5 (by rw [Z4.out]; omega) q0, cG hb5 (by rw [Z4.out]; omega) q2, cG hb5 (by rw [Z4.out]; omega) q3, own.lower (by rw [Z4.out]; omega)⟩; obtain ⟨va, vc, rfl, vs5⟩ := own.sl gI; rw [HNK.out] at vs5 r0 ⊢; have hk9 := Nat.le_trans vs5.cap vs5.top; clear own hb5 q0 q2 q3 vs5)
  go_loopw [19] (fun i wr => ∃ j : Nat, j ≤ nk ∧ i = .int .i64 j ∧ aHw w (.cells #[.slice aw nw cw, .int .u64 sd, .int .i64 ep, .int .i64 nu, .int .i64 de] 25 (0, 0)) ks (.slice va nk vc) on j wr) (fun i _ => nk - (intOf i).toNat)
  case atStart => exact ⟨0, Nat.zero_le _, rfl, r0⟩
  case round =>
    obtain ⟨j, hj, rfl, hR⟩ := hrel
    have HR := Lib.hid hR
    have hlt := hR.lt
    obtain ⟨c20, c21⟩ := kc2 hR.res
    obtain ⟨f20, f21⟩ := kf2 hR.res
    obtain ⟨⟨bn, bp, bq⟩, hB⟩ : ∃ b, Tp.dC on (ks.take j) = b := ⟨_, rfl⟩
    have hbest := hR.best
    rw [hB] at hbest
    obtain ⟨c30, c31, c32⟩ := kc3 hbest
    have HB := Lib.hid hB
    clear hR hB r0
    by_cases hjn : j < nk
    case neg =>
      obtain rfl : j = nk := by omega
      have hfin : Hid (Tp.dC on ks = ⟨bn, bp, bq⟩) := Lib.hid (by rw [← HB.out, List.take_of_length_le (by rw [HNK.out]; exact Nat.le_refl _)])
      go_wp2
      go_region
      all_goals go_wp2
      all_goals
        refine bodyPost_ret (v := .tuple #[.agg #[.int .u64 bp, .int .u64 bq], .bool (decide (0 ≤ bn))]) ?_ rfl ⟨by rw [hfin.out], ?_⟩
        · simp [results, Tryz.results102, go_sem, c20, c21]
        · exact ((HR.out.bel.setCell (p := ⟨w.heap.size + 2, 0, none⟩) (Nat.le_add_right _ _) _).setCell (p := ⟨w.heap.size + 2, 1, none⟩) (Nat.le_add_right _ _) _).drew
    obtain ⟨va', vc', he, vs6⟩ := HR.out.row.sl gI
    obtain ⟨rfl, -, rfl⟩ := Value.slice.inj he
    have hjl : j < ks.length := by rw [HNK.out]; exact hjn
    rcases vs6.rows with h0 | ⟨b, o, rfl, hblt, hc⟩
    · omega
    obtain ⟨⟨y0, y1⟩, hy⟩ : ∃ y, ks[j] = y := ⟨_, rfl⟩
    have x0 : wr.cell? ⟨b, o + j * 2, none⟩ = some (.int .u64 y0) := (hc j hjl 0 (by omega)).trans (by rw [hy]; rfl)
    have x1 : wr.cell? ⟨b, o + j * 2 + 1, none⟩ = some (.int .u64 y1) := (hc j hjl 1 (by omega)).trans (by rw [hy]; rfl)
    have hsn := Tp.wO on ks j hjl
    rw [HB.out, hy] at hsn
    obtain ⟨yn, hyn⟩ : ∃ z, on (y0, y1) = z := ⟨_, rfl⟩
    have hsn2 : Tp.dC on (ks.take (j + 1)) = if Tp.gT ⟨yn, y0, y1⟩ ⟨bn, bp, bq⟩ then ⟨yn, y0, y1⟩ else ⟨bn, bp, bq⟩ := by
      rw [hsn, ← hyn]
      rfl
    have HSN := Lib.hid hsn2
    have HYN := Lib.hid hyn
    have k0 : (0 : Int) ≤ j := by omega
    have k1 : (j : Int) < nk := by omega
    have hcf : CBox w.heap.size aw nw cw sd ep nu de wr := CBox.at_ HR.out.conf
    clear hsn hsn2 hyn hc hy vs6
    have HLT := Lib.hid hlt
    have wb : Below wr.heap.size wr (wr.alloc (.cells #[.int .u64 y0, .int .u64 y1] 40)) := (Below.refl _ _).alloc (Nat.le_refl _) _
    have wn := heap_alloc_new wr (.cells #[.int .u64 y0, .int .u64 y1] 40)
    go_wp2
    have hS1 : wr.heap.size < (wr.alloc (.cells #[.int .u64 y0, .int .u64 y1] 40)).heap.size := by simp
    generalize wr.alloc (.cells #[.int .u64 y0, .int .u64 y1] 40) = w1 at wb wn hS1 ⊢
    obtain ⟨e0, e1, e2, e3, e4⟩ := hcf.below wb (Nat.lt_of_le_of_lt (Nat.le_add_right _ 3) HLT.out)
    have hC : BsC w.heap.size wr.heap.size aw nw cw sd ep nu de y0 y1 w1 := ⟨e0, e1, e2, e3, e4, cA wn 0, cA wn 1⟩
    obtain ⟨e5, e6⟩ := kc2 wn
    have hCa : BsC w.heap.size wr.heap.size aw nw cw sd ep nu de y0 y1 (w1.drew.alloc (.cells #[.int .i64 0, .int .u64 0, .int .u64 0] 176)) := hC.below (M := w1.heap.size) (((Below.refl _ _).drew).alloc (Nat.le_refl _) _) (by have := HLT.out; omega) hS1
    have HB1 := Lib.hid (below_step HR.out.bel wb)
    go_region_held3 (fun w' => w'.cell? ⟨w.heap.size, 0, none⟩ = some (.slice aw nw cw) ∧ w'.cell? ⟨w.heap.size, 1, none⟩ = some (.int .u64 sd) ∧ w'.cell? ⟨w.heap.size, 2, none⟩ = some (.int .i64 ep) ∧ w'.cell? ⟨w.heap.size, 3, none⟩ = some (.int .i64 nu) ∧ w'.cell? ⟨w.heap.size, 4, none⟩ = some (.int .i64 de) ∧ w'.cell? ⟨wr.heap.size, 0, none⟩ = some (.int .u64 y0) ∧ w'.cell? ⟨wr.heap.size, 1, none⟩ = some (.int .u64 y1))
      (first | exact hC | exact hCa | exact hC2 | exact hC4 _ | exact hC5 _ _ _)
      (first
        | (go_at_call 117; refine (aCw aw nw cw W sd ep nu de a n c l av nv cv vs y0 y1 _ HWN.out hwm (HW.out.below HB1.out.drew (Nat.le_refl _)) HN.out hm HU.out (HL.out.below HB1.out.drew (Nat.le_refl _)) (HV.out.below HB1.out.drew (Nat.le_refl _)) hnv).mono ?_; rintro e w2 ⟨rfl, hb2⟩; rw [HON.out, HYN.out]; have hC2 : BsC w.heap.size wr.heap.size aw nw cw sd ep nu de y0 y1 w2 := BsC.below (w := w1.drew) hC hb2 (Nat.lt_trans (Nat.lt_of_le_of_lt (Nat.le_add_right _ 3) HLT.out) hS1) hS1; have hC4 : ∀ ob, BsC w.heap.size wr.heap.size aw nw cw sd ep nu de y0 y1 (w2.alloc ob) := fun ob => BsC.below (M := w1.heap.size) (w := w2) hC2 ((Below.refl _ _).alloc hb2.size _) (Nat.lt_trans (Nat.lt_of_le_of_lt (Nat.le_add_right _ 3) HLT.out) hS1) hS1)
        | (go_at_call 117; refine (aCw aw nw cw W sd ep nu de a n c l av nv cv vs y0 y1 _ HWN.out hwm (HW.out.below (bX HB1.out.drew _) (Nat.le_refl _)) HN.out hm HU.out (HL.out.below (bX HB1.out.drew _) (Nat.le_refl _)) (HV.out.below (bX HB1.out.drew _) (Nat.le_refl _)) hnv).mono ?_; rintro e w2 ⟨rfl, hb2⟩; rw [HON.out, HYN.out]; have hC2 : BsC w.heap.size wr.heap.size aw nw cw sd ep nu de y0 y1 w2 := BsC.below (w := w1.drew) hC (below_step ((Below.refl _ _).alloc (Nat.le_refl _) _) hb2) (Nat.lt_trans (Nat.lt_of_le_of_lt (Nat.le_add_right _ 3) HLT.out) hS1) hS1; have hC5 : ∀ x y z, BsC w.heap.size wr.heap.size aw nw cw sd ep nu de y0 y1 (((w2.setCell ⟨w1.heap.size, 0, none⟩ x).setCell ⟨w1.heap.size, 1, none⟩ y).setCell ⟨w1.heap.size, 2, none⟩ z) := fun x y z => BsC.below (M := w1.heap.size) (w := w2) hC2 ((((Below.refl _ w2).setCell (p := ⟨w1.heap.size, 0, none⟩) (Nat.le_refl _) x).setCell (p := ⟨w1.heap.size, 1, none⟩) (Nat.le_refl _) y).setCell (p := ⟨w1.heap.size, 2, none⟩) (Nat.le_refl _) z) (Nat.lt_trans (Nat.lt_of_le_of_lt (Nat.le_add_right _ 3) HLT.out) hS1) hS1; have kbx := cG (k := w1.drew.heap.size) (o := .cells #[.int .i64 0, .int .u64 0, .int .u64 0] 176) hb2 (by simp) (heap_alloc_new w1.drew _); have kb0 : w2.cell? ⟨w1.heap.size, 0, none⟩ = some (.int .i64 0) := cA kbx 0; have kb1 : w2.cell? ⟨w1.heap.size, 1, none⟩ = some (.int .u64 0) := cA kbx 1; have kb2 : w2.cell? ⟨w1.heap.size, 2, none⟩ = some (.int .u64 0) := cA kbx 2; have kf0 : w2.frozen? ⟨w1.heap.size, 0, none⟩ = false := cH kbx 0; have kf1 : w2.frozen? ⟨w1.heap.size, 1, none⟩ = false := cH kbx 1; have kf2 : w2.frozen? ⟨w1.heap.size, 2, none⟩ = false := cH kbx 2))
    all_goals
      first
        | (have bF : Below wr.heap.size wr (w2.alloc (.cells #[.int .i64 yn, .int .u64 y0, .int .u64 y1] 176)) := (below_step (wb.drew) hb2).alloc (below_step (wb.drew) hb2).size _
           have hA : (w2.alloc (.cells #[.int .i64 yn, .int .u64 y0, .int .u64 y1] 176)).heap[w2.heap.size]? = some (.cells #[.int .i64 yn, .int .u64 y0, .int .u64 y1] 176 (0, 0)) := heap_alloc_new w2 _
           generalize w2.alloc (.cells #[.int .i64 yn, .int .u64 y0, .int .u64 y1] 176) = Wf at bF hA ⊢
           generalize hA2 : w2.heap.size = A at hA ⊢)
        | (have T := set3 w2 w1.heap.size _ _ _ (.int .i64 yn) (.int .u64 y0) (.int .u64 y1) _ kbx
           have hA := T.new
           have bF : Below wr.heap.size wr (((w2.setCell ⟨w1.heap.size, 0, none⟩ (.int .i64 yn)).setCell ⟨w1.heap.size, 1, none⟩ (.int .u64 y0)).setCell ⟨w1.heap.size, 2, none⟩ (.int .u64 y1)) := (below_step (bX wb.drew _) hb2).trans (T.below (Nat.le_of_lt hS1))
           clear kbx kb0 kb1 kb2 kf0 kf1 kf2 T
           generalize ((w2.setCell ⟨w1.heap.size, 0, none⟩ (.int .i64 yn)).setCell ⟨w1.heap.size, 1, none⟩ (.int .u64 y0)).setCell ⟨w1.heap.size, 2, none⟩ (.int .u64 y1) = Wf at bF hA ⊢
           generalize hA2 : w1.heap.size = A at hA ⊢)
      obtain ⟨a0, a1, a2⟩ := kc3 hA
      have gb := cG bF (show w.heap.size + 3 < wr.heap.size from HLT.out) hbest
      obtain ⟨g0, g1, g2⟩ := kc3 gb
      have hAl := (gS hA)
      have hbe := bF.size
      obtain ⟨t, ht⟩ : ∃ t, Tp.gT ⟨yn, y0, y1⟩ ⟨bn, bp, bq⟩ = t := ⟨_, rfl⟩
      have HT := Lib.hid ht
      clear ht hC hCa e0 e1 e2 e3 e4 e5 e6 x0 x1 c30 c31 c32 c20 c21 f20 f21
      cases t with
      | false =>
        go_wp2_with (go_at_call 118; refine (uM yn y0 y1 bn bp bq _).mono ?_; rintro e w6 ⟨rfl, hb6⟩; rw [HT.out]; have bel6 := below_step bF hb6)
        have hL := HLT.out
        refine ⟨⟨j + 1, by omega, by go_num, below_step HR.out.bel bel6, cG bel6 (by omega) HR.out.conf, cG bel6 (by omega) HR.out.res, ?_, HR.out.row.keep bel6⟩, by simp [intOf]; omega⟩
        rw [HSN.out, HT.out]
        exact cG bel6 (by omega) hbest
      | true =>
        go_wp2_with (go_at_call 118; refine (uM yn y0 y1 bn bp bq _).mono ?_; rintro e w6 ⟨rfl, hb6⟩; rw [HT.out]; have bel6 := below_step bF hb6; have hA6 := cG hb6 hAl hA; have gb6 := cG hb6 (Nat.lt_of_lt_of_le HLT.out hbe) gb; have a60 : w6.cell? ⟨A, 0, none⟩ = some (.int .i64 yn) := cA hA6 0; have a61 : w6.cell? ⟨A, 1, none⟩ = some (.int .u64 y0) := cA hA6 1; have a62 : w6.cell? ⟨A, 2, none⟩ = some (.int .u64 y1) := cA hA6 2; have g60 : w6.cell? ⟨w.heap.size + 3, 0, none⟩ = some (.int .i64 bn) := cA gb6 0; have g61 : w6.cell? ⟨w.heap.size + 3, 1, none⟩ = some (.int .u64 bp) := cA gb6 1; have g62 : w6.cell? ⟨w.heap.size + 3, 2, none⟩ = some (.int .u64 bq) := cA gb6 2; have k60 := cH gb6 0; have k61 := cH gb6 1; have k62 := cH gb6 2)
        have hL := HLT.out
        have T := set3 w6 (w.heap.size + 3) _ _ _ (.int .i64 yn) (.int .u64 y0) (.int .u64 y1) _ gb6
        refine ⟨⟨j + 1, by omega, by go_num, (below_step HR.out.bel bel6).trans (T.below (Nat.le_add_right _ _)), (T.block _ (by omega)).trans (cG bel6 (by omega) HR.out.conf), (T.block _ (by omega)).trans (cG bel6 (by omega) HR.out.res), ?_, (HR.out.row.keep bel6).turn T (Nat.lt_succ_self _)⟩, by simp [intOf]; omega⟩
        rw [HSN.out, HT.out]
        exact T.new
section
open Go.ChangeMaps (setBlock)
def MapB {K V:Type} (ke:K->Value) (ve:V->Value) (w:World) (b:Nat) (m:List (K×V)):Prop:=
 ∃es clock,w.heap[b]?=some (.map es clock)/\es.toList.map (fun e=>(e.key,e.val))=m.map (fun p=>(ke p.1,ve p.2))/\(es.toList.map (·.born)).Nodup/\∀x∈es.toList,x.born<clock
section
variable {P:Program}{kt et:TypeId}{K V:Type} [DecidableEq K] {ke:K->Value}{ve:V->Value}
theorem MapB.at_ {w:World}{b:Nat}{m:List (K×V)}(h:MapB ke ve w b m):bD ke ve w b m:=by
 obtain⟨es,c,h1,h2,_⟩:=h
 exact⟨es,c,h1,h2⟩
theorem MapB.lt {w:World}{b:Nat}{m:List (K×V)}(h:MapB ke ve w b m):b<w.heap.size:=h.at_.lt
theorem MapB.same {w w':World}{b:Nat}{m:List (K×V)}(h:MapB ke ve w b m)(hs:w'.heap[b]?=w.heap[b]?):MapB ke ve w' b m:=by
 obtain⟨es,c,h1,h2⟩:=h
 exact⟨es,c,hs.trans h1,h2⟩
theorem MapB.keep {w w':World}{b:Nat}{m:List (K×V)}(h:MapB ke ve w b m)(hb:Below w.heap.size w w'):MapB ke ve w' b m:=h.same (hb.block b h.lt)
theorem MapB.alloc {w:World}{b:Nat}{m:List (K×V)}(h:MapB ke ve w b m)(o:Obj):MapB ke ve (w.alloc o) b m:=h.keep ((Below.refl _ _).alloc nr _)
theorem MapB.made (ke:K->Value)(ve:V->Value)(w:World):MapB ke ve (w.alloc (.map #[] 0)) w.heap.size ([]:List (K×V)):=
 ⟨#[],0,heap_alloc_new w _,rfl,by simp,by simp⟩
theorem MapB.store {t:TypeId}(T:KeyT P kt ke)(ht:P.underlying t=some (.map kt et)){w:World}{b:Nat}{m:List (K×V)}(h:MapB ke ve w b m)(k:K)(v:V):
  ∃o,(Instr.mapUpdate t (m43 b) (ke k) (ve v)).run P w=.ok () { w with heap:=w.heap.setIfInBounds b o }/\MapB ke ve { w with heap:=w.heap.setIfInBounds b o } b (Tp.put m k v):=by
 have hlt:=h.lt
 obtain⟨es,c,hb,hm,hnd,hbc⟩:=h
 have hl:es.toList.length=m.length:=by simpa using congrArg List.length hm
 unfold Instr.mapUpdate
 simp only[Sem.run_bind,run_underlying ht,Result.andThen_ok,MapKept.run_getObj_map hb,T.chk,oB T hm,qN]
 cases hj:m.findIdx? (fun p=>decide (k=p.1))with
 |none=>
  refine⟨_,MapKept.run_setObj_map _ hb,es.push { key:=ke k,val:=ve v,born:=c },c+1,?_,?_,?_,?_⟩
  ·simp[hlt]
  ·simp[hm]
  ·rw[Array.toList_push,List.map_append,List.nodup_append]
   refine⟨hnd,by simp,?_⟩
   intro a ha b' hb'
   simp only[List.map_cons,List.map_nil,List.mem_singleton]at hb'
   rw[List.mem_map]at ha
   obtain⟨x,hx,rfl⟩:=ha
   have:=hbc x hx
   omega
  ·intro x hx
   rw[Array.toList_push,List.mem_append,List.mem_singleton]at hx
   rcases hx with hx|rfl
   ·have:=hbc x hx;omega
   ·exact Nat.lt_succ_self _
 |some j=>
  rw[List.findIdx?_eq_some_iff_getElem]at hj
  obtain⟨hjl,hjk,-⟩:=hj
  have hk:k=m[j].1:=by simpa using hjk
  have hje:j<es.toList.length:=by omega
  have hkey:es.toList[j].key=ke k:=by
   have:=congrArg (fun l=>(l[j]?).map Prod.fst) hm
   simp only[List.getElem?_map,List.getElem?_eq_getElem hje,List.getElem?_eq_getElem hjl,Option.map_some,Option.some.injEq]at this
   rw[this,<-hk]
  have hkey':((es[j]?).map (fun e=>e.key)).getD (ke k)=ke k:=by
   rw[show es[j]?=some es.toList[j]from by rw[<-Array.getElem?_toList,List.getElem?_eq_getElem hje]]
   exact hkey
  rw[Option.bind_some,List.getElem?_eq_getElem hjl]
  simp only[Option.map_some,Sem.run_bind,hkey',Instr.keyThatStays,T.bits,if_true,Sem.run_pure,Result.andThen_ok]
  have hborn:(es.modify j fun e=>{ e with key:=ke k,val:=ve v }).toList.map (·.born)=es.toList.map (·.born):=by
   rw[Array.toList_modify]
   apply List.ext_getElem?
   intro i
   rw[List.getElem?_map,List.getElem?_modify,List.getElem?_map]
   by_cases hij:j=i
   ·subst hij
    cases es.toList[j]? <;>simp
   ·simp[hij]
  refine⟨_,MapKept.run_setObj_map _ hb,es.modify j fun e=>{ e with key:=ke k,val:=ve v },c,?_,?_,by rw[hborn];exact hnd,?_⟩
  ·simp[hlt]
  ·have e1:(es.toList.map (fun e=>(e.key,e.val))).set j (ke k,ve v)=(m.map (fun p=>(ke p.1,ve p.2))).set j (ke k,ve v):=by rw[hm]
   rw[<-List.map_set (f:=fun p:K×V=>(ke p.1,ve p.2)) (a:=(k,v))]at e1
   rw[<-e1,Array.toList_modify]
   apply List.ext_getElem?
   intro i
   by_cases hij:j=i
   ·subst hij
    simp[List.getElem?_modify,List.getElem?_set,List.getElem?_eq_getElem hje,hjl,hl]
   ·simp[List.getElem?_modify,List.getElem?_set,hij]
  ·intro x hx
   have:x.born∈(es.modify j fun e=>{ e with key:=ke k,val:=ve v }).toList.map (·.born):=List.mem_map_of_mem hx
   rw[hborn,List.mem_map]at this
   obtain⟨y,hy,he⟩:=this
   rw[<-he]
   exact hbc y hy
theorem gX (w:World){ops:Array Oper}{rest:List Oper}{o:Oper}{a:Act}{Q:Exit->Act->World->Prop}(hg:o.guard=none)(m x v:Operand)(t:TypeId)(hop:o.op=Op.mapUpdate t m x v\/o.op=Op.insert t m x v)(T:KeyT P kt ke)(ht:P.underlying t=some (.map kt et))(b:Nat)(l:List (K×V))(hm:a.eval m=.map (some b))(h:MapB ke ve w b l)(k:K)(hx:a.eval x=ke k)(y:V)(hv:a.eval v=ve y)(hK:∀w',MapB ke ve w' b (Tp.put l k y)->aW b w w'->wpList P ops Q rest (a.put o.dst undef) w'):wpList P ops Q (o::rest) a w:=by
 refine wpList_plain hg fun K' hK'=>?_
 have hlt:=h.lt
 obtain⟨ob,hrun,hmap⟩:=h.store T ht k y
 have hturn:aW b w { w with heap:=w.heap.setIfInBounds b ob }:=⟨ob,rfl,rfl,rfl,by simp,by simp[hlt],fun j hj=>by simp[Array.getElem?_setIfInBounds,Ne.symm hj]⟩
 unfold Oper.wp
 rcases hop with hop|hop<;>simp[execOp,hop,hm,hx,hv,hrun,Result.andThen]
 all_goals exact hK' _ _ (hK _ hmap hturn)
theorem tW {α:Type}(f:α->Nat):∀(L:List α) (i:Nat) (hi:i<L.length),(L.map f).Nodup->L.filter (fun x=>decide (f x≠f L[i]))=L.eraseIdx i:=by
 intro L
 induction L with
 |nil=>intro i hi;simp at hi
 |cons x r ih=>
  intro i hi hn
  rw[List.map_cons,List.nodup_cons]at hn
  cases i with
  |zero=>
   rw[List.eraseIdx_zero,List.tail_cons,List.filter_cons,List.getElem_cons_zero]
   simp only[ne_eq,not_true,decide_false,Bool.false_eq_true,if_false]
   rw[List.filter_eq_self]
   intro y hy
   rw[decide_eq_true_eq]
   intro e
   exact hn.1 (by rw[<-e];exact List.mem_map_of_mem hy)
  |succ i=>
   have hi':i<r.length:=by simpa using hi
   rw[List.eraseIdx_cons_succ,List.filter_cons,List.getElem_cons_succ,if_pos,ih i hi' hn.2]
   rw[decide_eq_true_eq]
   intro e
   exact hn.1 (by rw[e];exact List.mem_map_of_mem (List.getElem_mem hi'))
theorem oI {α:Type}:∀(l:List α) (i:Nat) (h:i<l.length),(l[i]::l.eraseIdx i).Perm l:=by
 intro l
 induction l with
 |nil=>intro i h;simp at h
 |cons x r ih=>
  intro i h
  cases i with
  |zero=>exact List.Perm.refl _
  |succ i=>
   have h':i<r.length:=by simpa using h
   rw[List.eraseIdx_cons_succ,List.getElem_cons_succ]
   exact(List.Perm.swap _ _ _).trans ((ih i h').cons x)
def gV {K V:Type} (ke:K->Value) (ve:V->Value) (w:World) (r b:Nat) (m gone left:List (K×V)):Prop:=
 ∃es clock seen,w.heap[b]?=some (.map es clock)/\w.heap[r]?=some (.mapIter (some b) clock seen clock)/\es.toList.map (fun e=>(e.key,e.val))=m.map (fun p=>(ke p.1,ve p.2))/\(es.toList.map (·.born)).Nodup/\(∀x∈es.toList,x.born<clock)/\
  (leftOf es seen).toList.map (fun e=>(e.key,e.val))=left.map (fun p=>(ke p.1,ve p.2))/\(gone++left).Perm m
theorem gV.same {w w':World}{r b:Nat}{m gone left:List (K×V)}(h:gV ke ve w r b m gone left)(hb:w'.heap[b]?=w.heap[b]?)(hr:w'.heap[r]?=w.heap[r]?):gV ke ve w' r b m gone left:=by
 obtain⟨es,c,seen,h1,h2,h3⟩:=h
 exact⟨es,c,seen,hb.trans h1,hr.trans h2,h3⟩
theorem gV.lt {w:World}{r b:Nat}{m gone left:List (K×V)}(h:gV ke ve w r b m gone left):b<w.heap.size/\r<w.heap.size:=by
 obtain⟨es,c,seen,h1,h2,h3⟩:=h
 exact⟨(gS h1),(gS h2)⟩
theorem MapB.range {t:TypeId}{w:World}(ht:P.underlying t=some (.map kt et)){b:Nat}{l:List (K×V)}(h:MapB ke ve w b l):
  ∃it,(Instr.range t (m43 b)).run P w=.ok (.pointer (some (m07 w))) (w.alloc it)/\gV ke ve (w.alloc it) w.heap.size b l [] l:=by
 have hlt:=h.lt
 obtain⟨es,c,hb,hme,hnd,hbc⟩:=h
 have hrun:=run_range_map w t kt et b es c ht hb
 refine⟨_,hrun,es,c,#[],?_,heap_alloc_new w _,hme,hnd,hbc,?_,List.Perm.refl _⟩
 ·rw[Below.heap_alloc _ _ _ hlt];exact hb
 ·unfold leftOf
  rw[Array.toList_filter,List.filter_eq_self.2 (by simp)]
  exact hme
theorem gV.next {w:World}{r b:Nat}{m gone left:List (K×V)}(ty:TypeId)(hrb:r≠b)(h:gV ke ve w r b m gone left):
  (left=[]/\(Instr.next (.pointer (some (m00 r))) false ty).run P w=.ok (.tuple #[.bool false]) w)\/
  ∃(i:Nat) (hi:i<left.length) (w':World) (ob:Obj),(cT r ob w w'\/cT r ob w.drew w')/\(Instr.next (.pointer (some (m00 r))) false ty).run P w=.ok (.tuple #[.bool true,ke left[i].1,ve left[i].2]) w'/\
   gV ke ve w' r b m (gone++[left[i]]) (left.eraseIdx i)/\
   (∀W:World,W.heap[b]?=w'.heap[b]?->W.heap[r]?=w'.heap[r]?->(Instr.entry (.pointer (some (m00 r)))).run P W=.ok (.tuple #[ke left[i].1,ve left[i].2]) W):=by
 have hlt:=h.lt
 obtain⟨es,c,seen,hb,hr,hme,hnd,hbc,hle,hp⟩:=h
 rcases run_next_at (P:=P) w ty r b c c seen es c hr hb hbc nr with⟨h0,hrun⟩|⟨e,he,w1,hw1,hrun⟩
 ·refine .inl ⟨?_,hrun⟩
  have:=congrArg List.length hle
  simp only[List.length_map,Array.length_toList,h0]at this
  exact List.length_eq_zero_iff.1 this.symm
 ·have hmem0:e∈es.toList:=by
   have h1:=he
   unfold leftOf at h1
   rw[Array.toList_filter,List.mem_filter]at h1
   exact h1.1
  obtain⟨i,hi,rfl⟩:=List.getElem_of_mem he
  have hll:(leftOf es seen).toList.length=left.length:=by simpa using congrArg List.length hle
  have hil:i<left.length:=by omega
  have hkv:((leftOf es seen).toList[i].key,(leftOf es seen).toList[i].val)=(ke left[i].1,ve left[i].2):=by
   have:=congrArg (fun l=>l[i]?) hle
   simpa[List.getElem?_map,List.getElem?_eq_getElem hi,List.getElem?_eq_getElem hil]using this
  obtain⟨hk,hv⟩:=Prod.mk.inj hkv
  have hb1:w1.heap[b]?=some (.map es c):=by rcases hw1 with rfl|rfl<;>exact hb
  have hr1:r<w1.heap.size:=by rcases hw1 with rfl|rfl<;>exact hlt.2
  have hturn:cT r (.mapIter (some b) c (seen.push (leftOf es seen).toList[i].born) c) w1 (setBlock w1 r (.mapIter (some b) c (seen.push (leftOf es seen).toList[i].born) c)):=
   ⟨rfl,rfl,rfl,by simp[setBlock],by simp[setBlock,hr1],fun j hj=>by simp[setBlock,Array.getElem?_setIfInBounds,Ne.symm hj]⟩
  have hb2:=(hturn.block b hrb.symm).trans hb1
  have hleft:leftOf es (seen.push (leftOf es seen).toList[i].born)=((leftOf es seen).toList.eraseIdx i).toArray:=by
   have hnd2:((leftOf es seen).toList.map (·.born)).Nodup:=by
    unfold leftOf
    rw[Array.toList_filter]
    exact hnd.sublist (List.Sublist.map _ List.filter_sublist)
   rw[<-tW (·.born) _ i hi hnd2]
   generalize(leftOf es seen).toList[i].born=bo
   unfold leftOf
   apply Array.toList_inj.1
   simp only[Array.toList_filter]
   rw[List.filter_filter]
   apply List.filter_congr
   intro x hx
   by_cases h1:x.born=bo
   ·simp[h1]
   ·simp[h1]
  have hiter:gV ke ve (setBlock w1 r (.mapIter (some b) c (seen.push (leftOf es seen).toList[i].born) c)) r b m (gone++[left[i]]) (left.eraseIdx i):=by
   refine⟨es,c,_,hb2,hturn.new,hme,hnd,hbc,?_,?_⟩
   ·rw[hleft]
    show((leftOf es seen).toList.eraseIdx i).map (fun e=>(e.key,e.val))=_
    rw[List.eraseIdx_eq_take_drop_succ,List.eraseIdx_eq_take_drop_succ,List.map_append,List.map_append,List.map_take,List.map_drop,List.map_take,List.map_drop,hle]
   ·rw[List.append_assoc]
    exact((oI left i hil).append_left gone).trans hp
  have hent:∀W:World,W.heap[b]?=(setBlock w1 r (.mapIter (some b) c (seen.push (leftOf es seen).toList[i].born) c)).heap[b]?->W.heap[r]?=(setBlock w1 r (.mapIter (some b) c (seen.push (leftOf es seen).toList[i].born) c)).heap[r]?->(Instr.entry (.pointer (some (m00 r)))).run P W=.ok (.tuple #[ke left[i].1,ve left[i].2]) W:=by
   intro W h1 h2
   have:=run_entry_at (P:=P) W r b c seen es c (leftOf es seen).toList[i] (h2.trans hturn.new) (h1.trans hb2) hmem0 hnd
   rw[hk,hv]at this
   exact this
  have ht2:cT r (.mapIter (some b) c (seen.push (leftOf es seen).toList[i].born) c) w (setBlock w1 r (.mapIter (some b) c (seen.push (leftOf es seen).toList[i].born) c))\/cT r (.mapIter (some b) c (seen.push (leftOf es seen).toList[i].born) c) w.drew (setBlock w1 r (.mapIter (some b) c (seen.push (leftOf es seen).toList[i].born) c)):=by
   rcases hw1 with rfl|rfl
   ·exact .inl hturn
   ·exact .inr hturn
  rw[hk,hv]at hrun
  exact .inr ⟨i,hil,_,_,ht2,hrun,hiter,hent⟩
end
end
theorem vM (x:Int)(w:World):Calls Tryz.prog 155 #[.int .i64 x] w fun e w'=>e=.returned (.bool false)/\w=w':=by
 go_enter Tryz.func155,Tryz.ntmps155
 go_wp2
 go_ret
 exact⟨rfl,rfl⟩
def Tp.aFm (x y:Int):Int:=if x<y then -1 else if y<x then 1 else 0
theorem aHj (x y:Int)(w:World):Calls Tryz.prog 142 #[.int .i64 x,.int .i64 y] w fun e w'=>e=.returned (m30 (Tp.aFm x y))/\w=w':=by
 unfold Tp.aFm
 by_cases h1:x<y
 ·have d1:decide (x<y)=true:=decide_eq_true h1
  rw[if_pos h1]
  go_enter Tryz.func142,Tryz.ntmps142
  go_wp2_with (go_at_call 155;refine(vM _ _).mono ?_;rintro e w' ⟨rfl,rfl⟩)
  go_ret
  exact⟨rfl,rfl⟩
 ·rw[if_neg h1]
  by_cases h2:y<x
  ·rw[if_pos h2]
   have d1:decide (x<y)=false:=decide_eq_false h1
   have d2:decide (x>y)=true:=decide_eq_true h2
   go_enter Tryz.func142,Tryz.ntmps142
   go_wp2_with (go_at_call 155;refine(vM _ _).mono ?_;rintro e w' ⟨rfl,rfl⟩)
   go_ret
   exact⟨rfl,rfl⟩
  ·rw[if_neg h2]
   have d1:decide (x<y)=false:=decide_eq_false h1
   have d2:decide (x>y)=false:=decide_eq_false h2
   go_enter Tryz.func142,Tryz.ntmps142
   go_wp2_with (go_at_call 155;refine(vM _ _).mono ?_;rintro e w' ⟨rfl,rfl⟩)
   go_ret
   exact⟨rfl,rfl⟩
theorem vE (x y:Tp.V)(w:World):Calls Tryz.prog 141 #[.agg (aH x).toArray,.agg (aH y).toArray] w fun e w'=>e=.returned (m30 (Tp.aFm x.who y.who))/\(w.alloc (.cells (aH x).toArray 84)).alloc (.cells (aH y).toArray 84)=w':=by
 obtain⟨a,b,c,d⟩:=x
 obtain⟨a',b',c',d'⟩:=y
 simp only[aH]
 go_enter Tryz.func141,Tryz.ntmps141
 go_wp2_with (go_at_call 142;refine(aHj _ _ _).mono ?_;rintro e w' ⟨rfl,rfl⟩)
 go_ret
 exact⟨rfl,rfl⟩
end Go.Proofs.YtbbhinehcncmeaaGreat
