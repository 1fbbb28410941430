/- A part of the proof of the laws of the top: TpNetB, TpPlA, TpWorld0. No condition. -/
import Derived.Test.YtbbhinehcncmeaaGreatG35
namespace Go.Proofs.YtbbhinehcncmeaaGreat
open Go.RowKit
set_option linter.unusedSimpArgs false
set_option linter.unusedVariables false
set_option linter.unusedSectionVars false
set_option maxRecDepth 100000
set_option maxHeartbeats 2000000
namespace Tp
def vZ (l:List Nd):Bool:=l.any (fun n=>n.full)
def gC (l:List B):List ((Int×Int)×Bool):=l.foldl (fun m b=>put m (name b) true) [((0,0),true)]
def oY (l:List B):Bool:=decide ((gC l).length≠l.length+1)
end Tp
theorem aDx (r:RN)(w:World):Calls Tryz.prog 73 #[.agg (aT r).toArray] w fun e w'=>e=.returned (.bool r.full)/\Below w.heap.size w w':=by
 have hb:Below w.heap.size w (w.alloc (.cells (m03 r.no r.tick r.v r.inn r.oa r.on r.oc r.p r.q r.sl r.rev r.full) 44)):=(Below.refl _ _).alloc nr _
 simp only[aT]
 go_enter Tryz.func73,Tryz.ntmps73
 go_wp2
 go_ret
 exact⟨rfl,hb⟩
theorem kZ {α β γ:Type}(f:α->β)(g:α->γ)(p:β->Bool)(q:γ->Bool):∀l:List α,(∀x∈l,p (f x)=q (g x))->(l.map f).any p=(l.map g).any q
 | [],_=>rfl
 |x::r,h=>by
  simp only[List.map_cons,List.any_cons]
  rw[h x (List.mem_cons_self ..),kZ f g p q r (fun y hy=>h y (List.mem_cons_of_mem _ hy))]
theorem xW (a:Option Addr)(n c:Nat)(l:List NE)(w:World)(hl:eE w a n c l):
  Calls Tryz.prog 33 #[.slice a n c] w fun e w'=>e=.returned (.bool (Tp.vZ (l.map NE.k)))/\Below w.heap.size w w':=by
 have he:(l.map NE.r).any (fun r=>r.full)=Tp.vZ (l.map NE.k):=kZ _ _ _ _ l (fun p hp=>(hl.nd p hp).full)
 have HL:=zH hl
 obtain⟨t,ht⟩:∃t,Tp.vZ (l.map NE.k)=t:=⟨_,rfl⟩
 rw[ht]at he⊢
 have HE:=zH he
 clear ht he hl
 go_enter Tryz.func33,Tryz.ntmps33
 go_wp2_with (go_at_call 38;refine(lZ 73 #[] #[] a n c (l.map NE.r) (fun r=>r.full) _ HL.out.sl ⟨fun _ _=>rfl,fun x _ W _=>aDx x W⟩).mono ?_;rintro e w' ⟨rfl,hb⟩;rw[HE.out])
 go_ret
 exact⟨rfl,hb⟩
def aKu (b:Bool):Value:=.bool b
structure ClR (w:World) (r:RV) (l:List Tp.B) (j:Nat) (wr:World):Prop where
 bel:Below w.heap.size w wr
 bx:wr.heap[w.heap.size]?=some (.cells (m01 r) 38 (0,0))
 lt:w.heap.size+1<wr.heap.size
 map:bD idV aKu wr (w.heap.size+1) (Tp.gC (l.take j))
theorem Tp.zR (l:List Tp.B):(Tp.gC l).length<=l.length+1:=by
 unfold Tp.gC
 suffices h:∀(l:List Tp.B) (m:List ((Int×Int)×Bool)),(l.foldl (fun m b=>Tp.put m (Tp.name b) true) m).length<=l.length+m.length by
  have:=h l [((0,0),true)]
  simpa using this
 intro l
 induction l with
 |nil=>intro m;simp
 |cons b r ih=>
  intro m
  rw[List.foldl_cons]
  have h1:=ih (Tp.put m (Tp.name b) true)
  have h2:=Tp.jG m (Tp.name b) true
  rw[List.length_cons]
  split at h2<;>omega
theorem aEs (r:RV)(x:Tp.Vw)(w:World)(hx:VwR w r x):
  Calls Tryz.prog 34 #[.agg (m01 r)] w fun e w'=>e=.returned (.bool (Tp.oY x.b))/\Below w.heap.size w w':=by
 have hmm:=@run_makeMap Tryz.prog
 have hn:x.b.length=r.nb:=hx.ok.b.len
 have hnm:=hx.ok.bm
 have HX:=zH hx
 obtain⟨W1,hins,hR0⟩:∃W1,(Instr.mapUpdate 126 (m43 (w.heap.size+1)) (.agg (m26)) (.bool true)).run Tryz.prog ((w.alloc (m49 r)).alloc (.map #[] 0))=.ok () W1/\ClR w r x.b 0 W1:=by
  have h0:bD idV aKu ((w.alloc (m49 r)).alloc (.map #[] 0)) (w.heap.size+1) ([]:List ((Int×Int)×Bool)):=by
   have:=bD.made idV aKu (w.alloc (m49 r)) (K:=Int×Int) (V:=Bool)
   rw[World.size_alloc]at this
   exact this
  obtain⟨W1,h1,h2,h3⟩:=h0.storeT fC Tryz.underlying126 (0,0) true
  refine⟨W1,h1,?_,?_,?_,h2⟩
  ·exact((Below.refl _ w).alloc nr _ |>.alloc (by simp) _).trans (h3.below (Nat.le_succ _))
  ·rw[h3.other _ (by omega),cF,if_neg (by simp),cF,if_pos rfl]
  ·rw[h3.size];simp only[World.size_alloc];omega
 clear hx
 go_enter Tryz.func34,Tryz.ntmps34
 have cb:W1.cell? (m07 w)=some (.slice r.ab r.nb r.cb):=cA hR0.bx 0
 go_wp2_with fail
 clear cb hins hmm
 go_loopw [12] (fun i wr=>∃j:Nat,j<=r.nb/\i=.int .i64 j/\ClR w r x.b j wr) (fun i _=>r.nb-(intOf i).toNat)
 case atStart=>exact⟨0,Nat.zero_le _,rfl,hR0⟩
 case round=>
  obtain⟨j,hj,rfl,hR⟩:=hrel
  by_cases hjn:j<r.nb
  case neg=>
   obtain rfl:j=r.nb:=by omega
   obtain⟨es,cl,hes,hsz⟩:=hR.map.len
   rw[List.take_of_length_le (by omega)]at hsz
   have hle:es.size<=r.nb+1:=by rw[hsz,<-hn];exact Tp.zR _
   have hlen:=iP (ty:=3) Tryz.underlying126 hes
   have c0:wr.cell? (m07 w)=some (.slice r.ab r.nb r.cb):=cA hR.bx 0
   have HB:=zH hR.bel
   have HC:Hid (Tp.oY x.b=decide ((es.size:Int)≠(r.nb:Int)+1)):=zH (by
    unfold Tp.oY
    rw[<-hsz,hn]
    by_cases h:es.size=r.nb+1
    ·rw[decide_eq_false (by omega),decide_eq_false (by omega)]
    ·rw[decide_eq_true h,decide_eq_true (by omega)])
   clear hR hes hsz
   by_cases hq:(es.size:Int)=(r.nb:Int)+1
   ·have HD:Hid (Tp.oY x.b=false):=zH (by rw[HC.out,decide_eq_false (by omega)])
    have hbq:((es.size:Int) != (r.nb:Int)+1)=false:=by simp[hq]
    clear HC hq
    go_wp2
    go_ret
    exact⟨by rw[HD.out];rfl,HB.out⟩
   ·have HD:Hid (Tp.oY x.b=true):=zH (by rw[HC.out,decide_eq_true hq])
    have hbq:((es.size:Int) != (r.nb:Int)+1)=true:=by simp[hq]
    clear HC hq
    go_wp2
    go_ret
    exact⟨by rw[HD.out];rfl,HB.out⟩
  have hjl:j<x.b.length:=by omega
  obtain⟨⟨b0,b1,b2,b3,b4⟩,hp⟩:∃p,x.b[j]=p:=⟨_,rfl⟩
  have hU:Tp.B.U ⟨b0,b1,b2,b3,b4⟩:=HX.out.ok.u _ (hp▸List.getElem_mem hjl)
  obtain⟨b,o,hab,hlt,hc⟩:∃b o,r.ab=some ⟨b,o,none⟩/\b<w.heap.size/\∀i,i<5->wr.cell? (m09 b (o+j*5+i))=(aK ⟨b0,b1,b2,b3,b4⟩)[i]?:=by
   rcases HX.out.ok.b.rows with h0|⟨b,o,ho,hlt,hc⟩
   ·omega
   ·refine⟨b,o,ho,hlt,fun i hi=>?_⟩
    have:=hc j hjl i hi
    rw[hp]at this
    exact(World.cell?_of_block (a:=⟨b,_,none⟩) (hR.bel.block b hlt)).trans this
  have c0:wr.cell? (m09 b (o+j*5))=some (.int .i64 b0):=hc 0 (by omega)
  have c1:wr.cell? (m09 b (o+j*5+1))=some (.int .i64 b1):=hc 1 (by omega)
  have c2:wr.cell? (m09 b (o+j*5+2))=some (.int .u64 b2):=hc 2 (by omega)
  have c3:wr.cell? (m09 b (o+j*5+3))=some (.int .u64 b3):=hc 3 (by omega)
  have c4:wr.cell? (m09 b (o+j*5+4))=some (.int .u64 b4):=hc 4 (by omega)
  have j0:(0:Int)<=j:=by omega
  have j1:(j:Int)<r.nb:=by omega
  obtain⟨⟨y0,y1⟩,hy⟩:∃y,Tp.name ⟨b0,b1,b2,b3,b4⟩=y:=⟨_,rfl⟩
  have HY:=zH hy
  have hal:Below wr.heap.size wr (wr.alloc (.cells (m11 b0 b1 b2 b3 b4) 56)):=(Below.refl _ _).alloc nr _
  have hsn:Tp.gC (x.b.take (j+1))=Tp.put (Tp.gC (x.b.take j)) (y0,y1) true:=by
   unfold Tp.gC
   rw[List.take_succ_eq_append_getElem hjl,List.foldl_append,hp,<-hy]
   try rfl
  have HR:=zH hR
  have HSN:=zH hsn
  have hlt1:=hR.lt
  clear hc hR hsn hy
  rw[hab]
  go_wp2_with (go_at_call 18;refine(gD b0 b1 b2 b3 b4 _ hU.1 hU.2.1 hU.2.2 y0 y1 HY).mono ?_;rintro e w4 ⟨rfl,hb4⟩;have hbb:=hal.trans (hb4.mono hal.size);obtain⟨W5,hi5,hm5,ht5⟩:=(HR.out.map.keep hbb).storeT fC Tryz.underlying126 (y0,y1) true;have hi5:(Instr.mapUpdate 126 (m43 (w.heap.size+1)) (m67 y0 y1) (.bool true)).run Tryz.prog w4=.ok () W5:=hi5)
  exact⟨⟨j+1,by omega,by go_num,⟨(bS HR.out.bel hbb).trans (ht5.below (Nat.le_succ _)),(ht5.other _ (by omega)).trans (cG hbb (Nat.lt_of_succ_lt HR.out.lt) HR.out.bx),by rw[ht5.size];exact Nat.lt_of_lt_of_le HR.out.lt hbb.size,HSN.out▸hm5⟩⟩,by simp[intOf];omega⟩
namespace Tp
theorem aJy {l:List B}(h:may l=true){b:B}(hb:b∈l):name b≠(0,0):=by
  revert h b
  refine dT (P:=fun l=>may l=true->∀{b:B},b∈l->name b≠(0,0)) ?_ ?_ l
  · intro _ b hb;cases hb
  · intro l b ih h x hx
    obtain⟨h1,_,h3⟩:=(iE l b).1 h
    rcases List.mem_append.1 hx with hx|hx
    · exact ih h1 hx
    · rw[List.mem_singleton.1 hx]
      intro e
      rw[e,kF l h1]at h3
      cases h3
theorem aGl :∀(l:List B),may l=true->∀b∈l,∀b'∈l,name b=name b'->b=b':=by
  refine dT ?_ ?_
  · intro _ b hb;cases hb
  · intro l b ih h x hx y hy e
    obtain⟨h1,_,h3⟩:=(iE l b).1 h
    rcases List.mem_append.1 hx with hx|hx<;>rcases List.mem_append.1 hy with hy|hy
    · exact ih h1 x hx y hy e
    · rw[List.mem_singleton.1 hy]at e
      rw[<-e,jF l h1 x hx]at h3;cases h3
    · rw[List.mem_singleton.1 hx]at e
      rw[e,jF l h1 y hy]at h3;cases h3
    · rw[List.mem_singleton.1 hx,List.mem_singleton.1 hy]
theorem tE :∀(l:List B),may l=true->l.Nodup:=by
  refine dT ?_ ?_
  · intro _;exact List.nodup_nil
  · intro l b ih h
    obtain⟨h1,_,h3⟩:=(iE l b).1 h
    rw[List.nodup_append]
    refine⟨ih h1,by simp,fun x hx y hy e=>?_⟩
    rw[<-List.mem_singleton.1 hy,<-e,jF l h1 x hx]at h3
    cases h3
end Tp
end Go.Proofs.YtbbhinehcncmeaaGreat
