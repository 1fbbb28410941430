/- A part of the proof of the laws of the top: TpBook, TpHead, TpLay, TpPos, TpSorted. No condition. -/
import Derived.Test.YtbbhinehcncmeaaGreatG11
import Derived.Shelf.SlSortCmp.NoneTotal
import Derived.Shelf.SlSortCmp.WholeK
namespace Go.Proofs.YtbbhinehcncmeaaGreat
open Go.RowKit
set_option linter.unusedSimpArgs false
set_option linter.unusedVariables false
set_option linter.unusedSectionVars false
set_option maxRecDepth 100000
set_option maxHeartbeats 4000000
namespace Tp
def AllM (l:List B) (m:PM) (n:Nat):Prop:=∀k,k<n->at_ m (name (gG l k))=some (k:Int)
theorem aMt (l:List B):∀(r:List B) (i:Nat) (m m':PM),l.drop i=r->i<=l.length->AllM l m i->aX l r i m=some m'->AllM l m' l.length:=by
 intro r
 induction r with
 |nil=>
  intro i m m' hd hi hok h
  simp only[aX,Option.some.injEq]at h
  subst h
  have:l.length<=i:=List.drop_eq_nil_iff.1 hd
  obtain rfl:i=l.length:=by omega
  exact hok
 |cons b r ih=>
  intro i m m' hd hi hok h
  have hlt:i<l.length:=by
   rcases Nat.lt_or_ge i l.length with h|h
   ·exact h
   ·rw[List.drop_of_length_le h]at hd;cases hd
  have hdr:=nM l i hlt
  rw[hd]at hdr
  obtain⟨hb,hr⟩:=List.cons.inj hdr
  unfold aX at h
  split at h
  ·cases h
  ·split at h
   ·cases h
   ·split at h
    ·cases h
    ·rename_i hn
     refine ih (i+1) _ m' hr.symm hlt (fun k hk=>?_) h
     rw[dF]
     by_cases e:k=i
     ·subst e
      rw[<-hb,if_pos rfl]
     ·have:=hok k (by omega)
      rw[if_neg (fun e2=>hn (by rw[<-e2,this];rfl))]
      exact this
theorem zJ {l:List B}{m:PM}(h:places l=some m):AllM l m l.length:=
 aMt l l 0 _ m rfl (Nat.zero_le _) (fun k hk=>absurd hk (Nat.not_lt_zero _)) h
def pos (l:List B) (id:Int×Int):Nat:=
 match places l with
 |none=>0
 |some m=>(((at_ m id).getD (-1))+1).toNat
theorem xQ {l:List B}{id k:Int×Int}(h:k∈aAk l id):∃m i,places l=some m/\i<l.length/\name (gG l i)=k/\((gG l i).p,(gG l i).q)=id:=by
 unfold aAk may at h
 cases hp:places l with
 |none=>simp[hp]at h
 |some m=>
  simp only[hp,Option.isSome_some,if_true]at h
  unfold fN at h
  rw[List.mem_map]at h
  obtain⟨b,hb,rfl⟩:=h
  rw[List.mem_filter]at hb
  obtain⟨hb,hid⟩:=hb
  obtain⟨i,hi,rfl⟩:=List.getElem_of_mem hb
  have e:gG l i=l[i]:=by simp[gG,List.getElem?_eq_getElem hi]
  simp only[Bool.and_eq_true,decide_eq_true_eq]at hid
  exact⟨m,i,rfl,hi,by rw[e],by rw[e,hid.1,hid.2]⟩
theorem aJj {l:List B}{id k:Int×Int}(h:k∈aAk l id):pos l id<pos l k/\pos l k<=l.length:=by
 obtain⟨m,i,hp,hi,hk,hid⟩:=xQ h
 have h1:=zJ hp i hi
 rcases(dU hp).2 _ _ h1 with⟨h2,-⟩|⟨j,hj,-,-,z,hz,hzi,-⟩
 ·omega
 ·obtain rfl:j=i:=by omega
  unfold pos
  simp only[hp]
  rw[<-hk,h1,<-hid,hz]
  simp only[Option.getD_some]
  have:-1<=z:=by
   rcases(dU hp).2 _ _ hz with⟨h2,-⟩|⟨j,hj,-⟩<;>omega
  omega
theorem aAh (on:Int×Int->Int)(ks:List (Int×Int)):dC on ks=⟨-1,0,0⟩\/∃k∈ks,dC on ks=aFl on k:=by
 unfold dC
 suffices ∀(ks:List (Int×Int)) (b:R),ks.foldl (mC on) b=b\/∃k∈ks,ks.foldl (mC on) b=aFl on k from this ks _
 intro ks
 induction ks with
 |nil=>intro b;exact .inl rfl
 |cons k r ih=>
  intro b
  rw[List.foldl_cons]
  rcases ih (mC on b k)with h|⟨k',hk',h⟩
  ·rw[h]
   unfold mC
   split
   ·exact .inr ⟨k,List.mem_cons_self ..,rfl⟩
   ·exact .inl rfl
  ·exact .inr ⟨k',List.mem_cons_of_mem _ hk',h⟩
theorem yK {W:List Int}{ep nu de:Int}{l:List B}{vs:List V}{id:Int×Int}(h:0<=(best W ep nu de l vs id).n):((best W ep nu de l vs id).p,(best W ep nu de l vs id).q)∈aAk l id:=by
 unfold best at h⊢
 rcases aAh (on W ep nu de l vs) (aAk l id)with h1|⟨k,hk,h1⟩
 ·rw[h1]at h;simp at h
 ·rw[h1]
  exact hk
def iX (W:List Int) (ep nu de:Int) (l:List B) (vs:List V):Nat->Int×Int->Int×Int
 |0,id=>id
 |f+1,id=>if 0<=(best W ep nu de l vs id).n then iX W ep nu de l vs f ((best W ep nu de l vs id).p,(best W ep nu de l vs id).q)else id
def head (W:List Int) (ep nu de:Int) (l:List B) (vs:List V):Int×Int:=iX W ep nu de l vs (l.length+1) (0,0)
end Tp
structure aMz (w:World) (oc:Obj) (id:Int×Int) (wr:World):Prop where
 bel:Below w.heap.size w wr
 conf:wr.heap[w.heap.size]?=some oc
 res:wr.heap[w.heap.size+1]?=some (.cells #[.int .u64 id.1,.int .u64 id.2] 40 (0,0))
def yF (w:World) (B:Nat):Int×Int:=
 match w.cell? (m00 B),w.cell? (m15 B)with
 |some (.int _ p),some (.int _ q)=>(p,q)
 |_,_=>(0,0)
theorem uH {w:World}{B:Nat}{p q:Int}{t:TypeId}(h:w.heap[B]?=some (.cells (m08 p q) t (0,0))):yF w B=(p,q):=by
 obtain⟨c0,c1⟩:=kc2 h
 unfold yF
 rw[c0,c1]
theorem aGw (aw:Option Addr)(nw cw:Nat)(W:List Int)(sd ep nu de:Int)(a:Option Addr)(n c:Nat)(l:List Tp.B)(av:Option Addr)(nv cv:Nat)(vs:List Tp.V)(w:World)(hw:W.length=nw)(hwm:nw<=9223372036854775807)(hW:Ints w aw W)(hn:l.length=n)(hm:n<=1000000)(hU:∀x∈l,x.U)(hl:Blks w a l)(hv:SlV aH 4 w av nv cv vs)(hnv:nv<=1000000):
  Calls Tryz.prog 70 #[.agg (m05 aw nw cw sd ep nu de),.slice a n c,.slice av nv cv] w fun e w'=>
   e=.returned (.agg #[.int .u64 (Tp.head W ep nu de l vs).1,.int .u64 (Tp.head W ep nu de l vs).2])/\Below w.heap.size w w':=by
 have HW:=zH hW
 have HN:=zH hn
 have HL:=zH hl
 have HU:=zH hU
 have HV:=zH hv
 have HWN:=zH hw
 clear hW hn hl hU hv hw
 have r0:aMz w (.cells (m05 aw nw cw sd ep nu de) 25 (0,0)) (0,0) ((m28 w aw nw cw sd ep nu de:World).alloc (.cells (m26) 40)):=
  ⟨cR _ _,by rw[cF,if_neg (by simp),cF,if_pos rfl],by rw[cF,if_pos (by simp)]⟩
 go_enter Tryz.func70,Tryz.ntmps70
 go_wp2_with fail
 refine gW 0 (fun _ _=>False) (fun _ _=>0) rfl ?pass ?first
 case pass=>intro a w h;exact h.elim
 case first=>
  intro _
  refine wp_seq ?_
  go_step3
  go_wp2_with fail
  go_loopw [8] (fun i wr=>∃(id:Int×Int) (f:Nat),Tp.head W ep nu de l vs=Tp.iX W ep nu de l vs f id/\l.length<f+Tp.pos l id/\aMz w (.cells (m05 aw nw cw sd ep nu de) 25 (0,0)) id wr) (fun i wr=>l.length-Tp.pos l (yF wr (w.heap.size+1)))
  case atStart=>exact⟨(0,0),l.length+1,rfl,by omega,r0⟩
  case round=>
   obtain⟨⟨t0,t1⟩,f,heq,hlt,hR⟩:=hrel
   have hsz:=(gS hR.res)
   have hid:yF wr (w.heap.size+1)=(t0,t1):=uH hR.res
   obtain⟨x0,x1,x2,x3,x4⟩:=CBox.at_ hR.conf
   obtain⟨c0,c1⟩:=kc2 hR.res
   have HR:=zH hR
   have HEQ:=zH heq
   have HID:=zH hid
   have hkid:=@Tp.yK W ep nu de l vs (t0,t1)
   have hgo:∀g,f=g+1->Tp.iX W ep nu de l vs f (t0,t1)=if 0<=(Tp.best W ep nu de l vs (t0,t1)).n then Tp.iX W ep nu de l vs g ((Tp.best W ep nu de l vs (t0,t1)).p,(Tp.best W ep nu de l vs (t0,t1)).q)else(t0,t1):=fun g hg=>by rw[hg];rfl
   have hgo0:f=0->Tp.iX W ep nu de l vs f (t0,t1)=(t0,t1):=fun hg=>by rw[hg];rfl
   obtain⟨⟨bn,bp,bq⟩,hb⟩:∃b,Tp.best W ep nu de l vs (t0,t1)=b:=⟨_,rfl⟩
   rw[hb]at hkid hgo
   simp only at hkid hgo
   have HB:=zH hb
   have HK:=zH hkid
   have HGO:=zH hgo
   have HGO0:=zH hgo0
   clear r0 hR heq hid hkid hgo hgo0 hb
   by_cases hbn:0<=bn
   ·have dt:decide (0<=bn)=true:=decide_eq_true hbn
    have hp:=Tp.aJj (HK.out hbn)
    have HP:=zH hp
    clear hp
    go_wp2_with (go_at_call 102;refine(yL aw nw cw W sd ep nu de a n c l av nv cv vs t0 t1 _ HWN.out hwm (HW.out.below HR.out.bel nr) HN.out hm HU.out (HL.out.below HR.out.bel nr) (HV.out.below HR.out.bel nr) hnv).mono ?_;rintro e w2 ⟨rfl,hb2⟩;rw[HB.out,dt];have k2:=cG ((Below.refl w2.heap.size w2).alloc nr (m40 bp bq)) (Nat.lt_of_lt_of_le hsz hb2.size) (cG hb2 hsz HR.out.res);have d0:(w2.alloc (m40 bp bq)).cell? (m22 w)=some (.int .u64 t0):=cA k2 0;have d1:(w2.alloc (m40 bp bq)).cell? (m29 w)=some (.int .u64 t1):=cA k2 1;have f0:=cH k2 0;have f1:=cH k2 1;have hs2:=hb2.size)
    have T:=set2 _ (w.heap.size+1) _ _ (m68 bp) (m68 bq) _ k2
    have hcf:=(T.block w.heap.size (by omega)).trans (cG (hb2.alloc hb2.size (m40 bp bq)) (by omega) HR.out.conf)
    have hp:=HP.out
    refine⟨⟨(bp,bq),f-1,?_,by omega,((bS HR.out.bel (hb2.alloc hb2.size _)).trans (T.below (Nat.le_succ _))),hcf,T.new⟩,?_⟩
    ·rw[HEQ.out,HGO.out (f-1) (by omega),if_pos hbn]
    ·rw[uH T.new,HID.out]
     omega
   ·have dt:decide (0<=bn)=false:=decide_eq_false hbn
    have hfin:Tp.head W ep nu de l vs=(t0,t1):=by
     rw[HEQ.out]
     cases f with
     |zero=>exact HGO0.out rfl
     |succ g=>rw[HGO.out g rfl,if_neg hbn]
    have HF:=zH hfin
    clear hfin
    go_wp2_with (go_at_call 102;refine(yL aw nw cw W sd ep nu de a n c l av nv cv vs t0 t1 _ HWN.out hwm (HW.out.below HR.out.bel nr) HN.out hm HU.out (HL.out.below HR.out.bel nr) (HV.out.below HR.out.bel nr) hnv).mono ?_;rintro e w2 ⟨rfl,hb2⟩;rw[HB.out,dt];have k2:=cG ((Below.refl w2.heap.size w2).alloc nr (m40 bp bq)) (Nat.lt_of_lt_of_le hsz hb2.size) (cG hb2 hsz HR.out.res);have d0:(w2.alloc (m40 bp bq)).cell? (m22 w)=some (.int .u64 t0):=cA k2 0;have d1:(w2.alloc (m40 bp bq)).cell? (m29 w)=some (.int .u64 t1):=cA k2 1;have f0:=cH k2 0;have f1:=cH k2 1;have hs2:=hb2.size)
    have T:=set2 _ (w.heap.size+1) _ _ (m68 t0) (m68 t1) _ k2
    have e0:=cA T.new 0
    have e1:=cA T.new 1
    simp only[Exit.jump]
    refine bodyPost_ret (v:=.agg (m08 t0 t1)) ?_ rfl ⟨by rw[HF.out],(bS HR.out.bel (hb2.alloc hb2.size _)).trans (T.below (Nat.le_succ _))⟩
    simp[results,Tryz.results70,go_sem,d0,d1]
namespace Tp
abbrev HM :=List ((Int×Int)×(Int×Int))
abbrev BM :=List ((Int×Int)×Bool)
def eD (b:HM×BM) (v:V):HM×BM:=
 (put b.1 (v.who,v.slot) (v.p,v.q),
  match at_ b.1 (v.who,v.slot)with
  |none=>b.2
  |some was=>if was=(v.p,v.q)then b.2 else put b.2 (v.who,v.slot) true)
def book (l:List V):HM×BM:=l.foldl eD ([],[])
theorem aEy (l:List V)(k:Nat)(h:k<l.length):book (l.take (k+1))=eD (book (l.take k)) l[k]:=by
 unfold book
 rw[List.take_succ_eq_append_getElem h,List.foldl_append]
 rfl
end Tp
structure pE (w:World) (bk:Tp.HM×Tp.BM) (wr:World):Prop where
 bel:Below w.heap.size w wr
 res:wr.heap[w.heap.size]?=some (.cells #[.map none,.map none] 182 (0,0))
 box:wr.heap[w.heap.size+3]?=some (.cells #[.map (some (w.heap.size+1)),.map (some (w.heap.size+2))] 182 (0,0))
 heads:MapB gQ idV wr (w.heap.size+1) bk.1
 bad:MapB gQ bY wr (w.heap.size+2) bk.2
theorem pE.lt {w:World}{bk:Tp.HM×Tp.BM}{wr:World}(h:pE w bk wr):w.heap.size+3<wr.heap.size:=(gS h.box)
theorem pE.put1 {w:World}{bk:Tp.HM×Tp.BM}{wr w3:World}{o1 o2 o3:Obj}{m:Tp.HM}(h:pE w bk wr)(hm:MapB gQ idV w3 (w.heap.size+1) m)(ht:aW (w.heap.size+1) (((wr.alloc o1).alloc o2).alloc o3) w3):pE w (m,bk.2) w3:=by
 have hlt:=h.lt
 have hb3:Below wr.heap.size wr (((wr.alloc o1).alloc o2).alloc o3):=(cR _ _).alloc (by simp only[World.size_alloc];omega) _
 have hk:∀k,k<wr.heap.size->k≠w.heap.size+1->w3.heap[k]?=wr.heap[k]?:=fun k hk hne=>(ht.other k hne).trans (hb3.block k hk)
 exact⟨(h.bel.trans (hb3.mono h.bel.size)).trans (ht.below (Nat.le_succ _)),(hk _ (by omega) (by omega)).trans h.res,(hk _ hlt (by omega)).trans h.box,hm,h.bad.same (hk _ (by omega) (by omega))⟩
theorem pE.put2 {w:World}{m:Tp.HM}{b b':Tp.BM}{w3 w4:World}(h:pE w (m,b) w3)(hm:MapB gQ bY w4 (w.heap.size+2) b')(ht:aW (w.heap.size+2) w3 w4):pE w (m,b') w4:=by
 have hlt:=h.lt
 exact⟨h.bel.trans (ht.below (Nat.le_add_right _ _)),(ht.other _ (by omega)).trans h.res,(ht.other _ (by omega)).trans h.box,h.heads.same (ht.other _ (by omega)),hm⟩
theorem aAl (w:World):(zeroValue 40).run Tryz.prog w=.ok (.agg (m26)) w:=by kernel_rfl
theorem fV (w:World)(o1 o2 o3:Obj){b i:Nat}(h:b<w.heap.size):(((w.alloc o1).alloc o2).alloc o3).cell? (m09 b i)=w.cell? (m09 b i):=
 ((cR _ _).alloc (by simp only[World.size_alloc];omega) _).cell (p:=(m09 b i)) h
theorem cU (w:World)(a:Array Value)(t:TypeId)(o2 o3:Obj)(i:Nat):(((w.alloc (.cells a t)).alloc o2).alloc o3).cell? ⟨w.heap.size,i,none⟩=a[i]?:=by
 refine cA (t:=t) ?_ i
 rw[cF,if_neg (by simp only[World.size_alloc];omega),cF,if_neg (by simp),cF,if_pos rfl]
theorem fE (w:World)(a:Array Value)(t:TypeId)(o1 o3:Obj)(i:Nat):(((w.alloc o1).alloc (.cells a t)).alloc o3).cell? ⟨w.heap.size+1,i,none⟩=a[i]?:=by
 refine cA (t:=t) ?_ i
 rw[cF,if_neg (by simp),cF,if_pos (by simp)]
theorem lP (w:World)(a:Array Value)(t:TypeId)(o1 o2:Obj)(i:Nat):(((w.alloc o1).alloc o2).alloc (.cells a t)).cell? ⟨w.heap.size+2,i,none⟩=a[i]?:=by
 refine cA (t:=t) ?_ i
 rw[cF,if_pos (by simp)]
theorem aIu (av:Option Addr)(nv cv:Nat)(vs:List Tp.V)(w:World)(hv:SlV aH 4 w av nv cv vs):
  Calls Tryz.prog 119 #[.slice av nv cv] w fun e w'=>e=.returned (.agg #[.map (some (w.heap.size+1)),.map (some (w.heap.size+2))])/\
   MapB gQ idV w' (w.heap.size+1) (Tp.book vs).1/\MapB gQ bY w' (w.heap.size+2) (Tp.book vs).2/\Below w.heap.size w w':=by
 have hm9:nv<=9223372036854775807:=Nat.le_trans hv.cap hv.top
 have HV:=zH hv
 clear hv
 have hmm:=@run_makeMap Tryz.prog
 go_enter Tryz.func119,Tryz.ntmps119
 go_wp2_with fail
 clear hmm
 have r0:pE w ([],[]) ((((w.alloc (.cells #[.map none,.map none] 182)).alloc (.map #[] 0)).alloc (.map #[] 0)).alloc (.cells #[.map (some (w.heap.size+1)),.map (some (w.heap.size+2))] 182)):=by
  refine⟨((cR _ _).alloc (by simp only[World.size_alloc];omega) _).alloc (by simp only[World.size_alloc];omega) _,?_,?_,?_,?_⟩
  ·rw[cF,if_neg (by simp only[World.size_alloc];omega),cF,if_neg (by simp only[World.size_alloc];omega),cF,if_neg (by simp),cF,if_pos rfl]
  ·rw[cF,if_pos (by simp)]
  ·have:=MapB.made gQ idV (w.alloc (.cells #[.map none,.map none] 182))
   rw[World.size_alloc]at this
   exact(this.alloc _).alloc _
  ·have:=MapB.made gQ bY ((w.alloc (.cells #[.map none,.map none] 182)).alloc (.map #[] 0))
   simp only[World.size_alloc]at this
   exact this.alloc _
 go_loopw [14] (fun i wr=>∃j:Nat,j<=nv/\i=.int .i64 j/\pE w (Tp.book (vs.take j)) wr) (fun i _=>nv-(intOf i).toNat)
 case atStart=>exact⟨0,Nat.zero_le _,rfl,r0⟩
 case round=>
  obtain⟨j,hj,rfl,hR⟩:=hrel
  obtain⟨bk,hbk⟩:∃b,Tp.book (vs.take j)=b:=⟨_,rfl⟩
  have hsnoc:=fun h=>Tp.aEy vs j h
  rw[hbk]at hR hsnoc
  have HR:=zH hR
  have HBK:=zH hbk
  have hN3:=hR.lt
  have hh:=hR.heads
  have hbb:=hR.bad
  obtain⟨c0,c1⟩:=kc2 hR.box
  clear hR hbk r0
  by_cases hjn:j<nv
  case neg=>
   obtain rfl:j=nv:=by omega
   have hfin:Hid (Tp.book vs=bk):=zH (by rw[<-HBK.out,List.take_of_length_le (by rw[HV.out.len];exact Nat.le_refl _)])
   obtain⟨r0,r1⟩:=kc2 HR.out.res
   obtain⟨f0,f1⟩:=kf2 HR.out.res
   go_wp2
   have T:=set2 wr w.heap.size _ _ (m43 (w.heap.size+1)) (m43 (w.heap.size+2)) _ HR.out.res
   refine bodyPost_ret (v:=.agg #[.map (some (w.heap.size+1)),.map (some (w.heap.size+2))]) ?_ rfl ⟨rfl,?_,?_,HR.out.bel.trans (T.below nr)⟩
   ·simp[results,Tryz.results119,go_sem,r0,r1]
   ·rw[hfin.out];exact hh.same (T.block _ (by omega))
   ·rw[hfin.out];exact hbb.same (T.block _ (by omega))
  have hjl:j<vs.length:=by rw[HV.out.len];exact hjn
  have hsn:=hsnoc hjl
  rcases HV.out.rows with h0|⟨b,o,rfl,hlt,hc⟩
  ·omega
  have hx:∀i,i<4->wr.cell? (m09 b (o+j*4+i))=(aH vs[j])[i]?:=fun i hi=>(HR.out.bel.cell (p:=⟨b,_,none⟩) hlt).trans (hc j hjl i hi)
  obtain⟨⟨who,sl,p,q⟩,hX⟩:∃x,vs[j]=x:=⟨_,rfl⟩
  rw[hX]at hx hsn
  have x0:wr.cell? (m09 b (o+j*4))=some (.int .i64 who):=hx 0 (by omega)
  have x1:wr.cell? (m09 b (o+j*4+1))=some (.int .i64 sl):=hx 1 (by omega)
  have x2:wr.cell? (m09 b (o+j*4+2))=some (.int .u64 p):=hx 2 (by omega)
  have x3:wr.cell? (m09 b (o+j*4+3))=some (.int .u64 q):=hx 3 (by omega)
  have k0:(0:Int)<=j:=by omega
  have k1:(j:Int)<nv:=by omega
  clear hx hX hc hsnoc
  unfold Tp.eD at hsn
  simp only at hsn
  have c0a:((wr.alloc (.cells (m12 who sl p q) 84)).alloc (.cells #[.int .i64 who,.int .i64 sl] 185)).cell? ⟨w.heap.size+3,0,none⟩=some (.map (some (w.heap.size+1))):=((cR _ _).cell (p:=⟨w.heap.size+3,0,none⟩) hN3).trans c0
  have c0b:∀ob,(((wr.alloc (.cells (m12 who sl p q) 84)).alloc (.cells #[.int .i64 who,.int .i64 sl] 185)).alloc ob).cell? ⟨w.heap.size+3,0,none⟩=some (.map (some (w.heap.size+1))):=fun ob=>(fV _ _ _ _ hN3).trans c0
  cases hat:Tp.at_ bk.1 (who,sl)with
  |none=>
   simp only[hat]at hsn
   have HSN:=zH hsn
   clear hsn
   go_wp2_with (first|(at_lookup;refine cZ _ rfl _ _ _ true rfl iU Tryz.underlying179 (.agg (m26)) (aAl _) (w.heap.size+1) bk.1 rfl ((hh.at_.alloc _).alloc _) (who,sl) rfl (.tuple #[.agg (m26),.bool false]) (by rw[hat];rfl) ?_)|(at_mapUpdate;refine gX _ rfl _ _ _ _ (.inl rfl) iU Tryz.underlying179 (w.heap.size+1) bk.1 rfl (((hh.alloc _).alloc _).alloc _) (who,sl) rfl (p,q) rfl ?_;intro w3 hmap3 hturn3;have d3:=hturn3.cell (m17 wr) (by show wr.heap.size≠w.heap.size+1;omega);have d4:=hturn3.cell (m19 wr) (by show wr.heap.size≠w.heap.size+1;omega);have d5:=hturn3.cell (m22 wr) (by show wr.heap.size+1≠w.heap.size+1;omega);have d6:=hturn3.cell (m29 wr) (by show wr.heap.size+1≠w.heap.size+1;omega);have d7:=hturn3.cell (m45 wr) (by show wr.heap.size+2≠w.heap.size+1;omega);have d8:=hturn3.cell (m54 wr) (by show wr.heap.size+2≠w.heap.size+1;omega);have d9:=hturn3.cell ⟨w.heap.size+3,1,none⟩ (by show w.heap.size+3≠w.heap.size+1;omega);rw[cU wr _ _ _ _ 2]at d3;rw[cU wr _ _ _ _ 3]at d4;rw[fE wr _ _ _ _ 0]at d5;rw[fE wr _ _ _ _ 1]at d6;rw[lP wr _ _ _ _ 0]at d7;rw[lP wr _ _ _ _ 1]at d8;rw[fV wr _ _ _ hN3,c1]at d9;simp only[List.getElem?_toArray,List.getElem?_cons_succ,List.getElem?_cons_zero]at d3 d4 d5 d6 d7 d8))
   refine⟨⟨j+1,by omega,by go_num,?_⟩,by simp[intOf];omega⟩
   rw[HSN.out]
   exact HR.out.put1 hmap3 hturn3
  |some was=>
   obtain⟨z0,z1⟩:=was
   simp only[hat]at hsn
   have he:=tX z0 z1 p q
   by_cases hz:(z0,z1)=(p,q)
   ·obtain⟨rfl,rfl⟩:=Prod.mk.inj hz
    rw[if_pos rfl]at hsn
    simp only[beq_self_eq_true,Bool.and_self]at he
    have HSN:=zH hsn
    clear hsn hz
    go_wp2_with (first|(at_lookup;refine cZ _ rfl _ _ _ true rfl iU Tryz.underlying179 (.agg (m26)) (aAl _) (w.heap.size+1) bk.1 rfl ((hh.at_.alloc _).alloc _) (who,sl) rfl (.tuple #[.agg (m08 z0 z1),.bool true]) (by rw[hat];rfl) ?_)|(at_mapUpdate;refine gX _ rfl _ _ _ _ (.inl rfl) iU Tryz.underlying179 (w.heap.size+1) bk.1 rfl (((hh.alloc _).alloc _).alloc _) (who,sl) rfl (z0,z1) rfl ?_;intro w3 hmap3 hturn3;have d3:=hturn3.cell (m17 wr) (by show wr.heap.size≠w.heap.size+1;omega);have d4:=hturn3.cell (m19 wr) (by show wr.heap.size≠w.heap.size+1;omega);have d5:=hturn3.cell (m22 wr) (by show wr.heap.size+1≠w.heap.size+1;omega);have d6:=hturn3.cell (m29 wr) (by show wr.heap.size+1≠w.heap.size+1;omega);have d7:=hturn3.cell (m45 wr) (by show wr.heap.size+2≠w.heap.size+1;omega);have d8:=hturn3.cell (m54 wr) (by show wr.heap.size+2≠w.heap.size+1;omega);have d9:=hturn3.cell ⟨w.heap.size+3,1,none⟩ (by show w.heap.size+3≠w.heap.size+1;omega);rw[cU wr _ _ _ _ 2]at d3;rw[cU wr _ _ _ _ 3]at d4;rw[fE wr _ _ _ _ 0]at d5;rw[fE wr _ _ _ _ 1]at d6;rw[lP wr _ _ _ _ 0]at d7;rw[lP wr _ _ _ _ 1]at d8;rw[fV wr _ _ _ hN3,c1]at d9;simp only[List.getElem?_toArray,List.getElem?_cons_succ,List.getElem?_cons_zero]at d3 d4 d5 d6 d7 d8))
    refine⟨⟨j+1,by omega,by go_num,?_⟩,by simp[intOf];omega⟩
    rw[HSN.out]
    exact HR.out.put1 hmap3 hturn3
   ·rw[if_neg hz]at hsn
    have hz2:(z0==p&&z1==q)=false:=by
     rw[Bool.and_eq_false_iff,beq_eq_false_iff_ne,beq_eq_false_iff_ne]
     exact Decidable.not_and_iff_or_not.1 (fun h=>hz (by rw[h.1,h.2]))
    rw[hz2]at he
    have HSN:=zH hsn
    clear hsn hz hz2
    go_wp2_with (first|(at_lookup;refine cZ _ rfl _ _ _ true rfl iU Tryz.underlying179 (.agg (m26)) (aAl _) (w.heap.size+1) bk.1 rfl ((hh.at_.alloc _).alloc _) (who,sl) rfl (.tuple #[.agg (m08 z0 z1),.bool true]) (by rw[hat];rfl) ?_)|(at_mapUpdate;refine gX _ rfl _ _ _ _ (.inl rfl) iU Tryz.underlying179 (w.heap.size+1) bk.1 rfl (((hh.alloc _).alloc _).alloc _) (who,sl) rfl (p,q) rfl ?_;intro w3 hmap3 hturn3;have d3:=hturn3.cell (m17 wr) (by show wr.heap.size≠w.heap.size+1;omega);have d4:=hturn3.cell (m19 wr) (by show wr.heap.size≠w.heap.size+1;omega);have d5:=hturn3.cell (m22 wr) (by show wr.heap.size+1≠w.heap.size+1;omega);have d6:=hturn3.cell (m29 wr) (by show wr.heap.size+1≠w.heap.size+1;omega);have d7:=hturn3.cell (m45 wr) (by show wr.heap.size+2≠w.heap.size+1;omega);have d8:=hturn3.cell (m54 wr) (by show wr.heap.size+2≠w.heap.size+1;omega);have d9:=hturn3.cell ⟨w.heap.size+3,1,none⟩ (by show w.heap.size+3≠w.heap.size+1;omega);rw[cU wr _ _ _ _ 2]at d3;rw[cU wr _ _ _ _ 3]at d4;rw[fE wr _ _ _ _ 0]at d5;rw[fE wr _ _ _ _ 1]at d6;rw[lP wr _ _ _ _ 0]at d7;rw[lP wr _ _ _ _ 1]at d8;rw[fV wr _ _ _ hN3,c1]at d9;simp only[List.getElem?_toArray,List.getElem?_cons_succ,List.getElem?_cons_zero]at d3 d4 d5 d6 d7 d8)|(at_mapUpdate;refine gX _ rfl _ _ _ _ (.inl rfl) iU Tryz.underlying180 (w.heap.size+2) bk.2 rfl (HR.out.put1 hmap3 hturn3).bad (who,sl) rfl true rfl ?_;intro w4 hmap4 hturn4))
    refine⟨⟨j+1,by omega,by go_num,?_⟩,by simp[intOf];omega⟩
    rw[HSN.out]
    exact(HR.out.put1 hmap3 hturn3).put2 hmap4 hturn4
section
open Go.Shelf
def qK :Go.Shelf.Ren:=⟨fun|6=>140|15=>154|14=>153|28=>170|29=>171|20=>162|21=>163|22=>164|23=>165|24=>166|25=>167|26=>168|27=>169|46=>177|47=>178|48=>179|49=>180|50=>181|57=>185|n=>n,fun|22=>36|24=>84|25=>226|3=>3|39=>188|0=>0|53=>194|55=>23|4=>4|46=>247|45=>246|50=>78|5=>5|9=>9|66=>258|70=>262|76=>266|77=>89|n=>n,fun|n=>n⟩
theorem pP :Go.Proofs.SlLaysF0.n6 Tryz.prog qK:={
 mixed:=by kernel_rfl
 f6:=⟨Tryz.f140.name,by decide,Tryz.func140.trans (congrArg some (by kernel_rfl))⟩
 f14:=⟨Tryz.f153.name,by decide,Tryz.func153.trans (congrArg some (by kernel_rfl))⟩
 f15:=Tryz.func154.trans (congrArg some (by kernel_rfl))
 f20:=⟨Tryz.f162.name,by decide,Tryz.func162.trans (congrArg some (by kernel_rfl))⟩
 f21:=⟨Tryz.f163.name,by decide,Tryz.func163.trans (congrArg some (by kernel_rfl))⟩
 f22:=⟨Tryz.f164.name,by decide,Tryz.func164.trans (congrArg some (by kernel_rfl))⟩
 f23:=⟨Tryz.f165.name,by decide,Tryz.func165.trans (congrArg some (by kernel_rfl))⟩
 f24:=⟨Tryz.f166.name,by decide,Tryz.func166.trans (congrArg some (by kernel_rfl))⟩
 f25:=⟨Tryz.f167.name,by decide,Tryz.func167.trans (congrArg some (by kernel_rfl))⟩
 f26:=⟨Tryz.f168.name,by decide,Tryz.func168.trans (congrArg some (by kernel_rfl))⟩
 f27:=⟨Tryz.f169.name,by decide,Tryz.func169.trans (congrArg some (by kernel_rfl))⟩
 f28:=Tryz.func170.trans (congrArg some (by kernel_rfl))
 f29:=Tryz.func171.trans (congrArg some (by kernel_rfl))
 f46:=⟨Tryz.f177.name,by decide,Tryz.func177.trans (congrArg some (by kernel_rfl))⟩
 f47:=Tryz.func178.trans (congrArg some (by kernel_rfl))
 f48:=Tryz.func179.trans (congrArg some (by kernel_rfl))
 f49:=⟨Tryz.f180.name,by decide,Tryz.func180.trans (congrArg some (by kernel_rfl))⟩
 f50:=⟨Tryz.f181.name,by decide,Tryz.func181.trans (congrArg some (by kernel_rfl))⟩
 f57:=⟨Tryz.f185.name,by decide,Tryz.func185.trans (congrArg some (by kernel_rfl))⟩
 t0:=Tryz.underlying0
 a0:=Tryz.isAgg0
 z0:=Tryz.sizeOf0
 v0:=Tryz.zeroValue0
 t3:=Tryz.underlying3
 a3:=Tryz.isAgg3
 z3:=Tryz.sizeOf3
 v3:=Tryz.zeroValue3
 t4:=Tryz.underlying4
 a4:=Tryz.isAgg4
 z4:=Tryz.sizeOf4
 v4:=Tryz.zeroValue4
 t5:=Tryz.underlying5
 a5:=Tryz.isAgg5
 z5:=Tryz.sizeOf5
 v5:=Tryz.zeroValue5
 t9:=Tryz.underlying9
 a9:=Tryz.isAgg9
 z9:=Tryz.sizeOf9
 v9:=Tryz.zeroValue9
 t22:=Tryz.underlying36
 a22:=Tryz.isAgg36
 z22:=Tryz.sizeOf36
 v22:=Tryz.zeroValue36
 t25:=Tryz.underlying226
 a25:=Tryz.isAgg226
 z25:=Tryz.sizeOf226
 v25:=Tryz.zeroValue226
 t39:=Tryz.underlying188
 a39:=Tryz.isAgg188
 z39:=Tryz.sizeOf188
 v39:=Tryz.zeroValue188
 t45:=Tryz.underlying246
 a45:=Tryz.isAgg246
 z45:=Tryz.sizeOf246
 v45:=Tryz.zeroValue246
 t46:=Tryz.underlying247
 a46:=Tryz.isAgg247
 z46:=Tryz.sizeOf247
 v46:=Tryz.zeroValue247
 t50:=Tryz.underlying78
 a50:=Tryz.isAgg78
 z50:=Tryz.sizeOf78
 v50:=Tryz.zeroValue78
 t53:=Tryz.underlying194
 a53:=Tryz.isAgg194
 z53:=Tryz.sizeOf194
 v53:=Tryz.zeroValue194
 t55:=Tryz.underlying23
 a55:=Tryz.isAgg23
 z55:=Tryz.sizeOf23
 v55:=Tryz.zeroValue23
 t66:=Tryz.underlying258
 a66:=Tryz.isAgg258
 z66:=Tryz.sizeOf258
 v66:=Tryz.zeroValue258
 t70:=Tryz.underlying262
 a70:=Tryz.isAgg262
 z70:=Tryz.sizeOf262
 v70:=Tryz.zeroValue262
 t76:=Tryz.underlying266
 a76:=Tryz.isAgg266
 z76:=Tryz.sizeOf266
 v76:=Tryz.zeroValue266
 t77:=Tryz.underlying89
 a77:=Tryz.isAgg89
 z77:=Tryz.sizeOf89
 v77:=Tryz.zeroValue89 }
end
section
open Go.RowKit Go.Sort
namespace Tp
def ins (v:V):List V->List V
 | []=>[v]
 |x::r=>if v.who<=x.who then v::x::r else x::ins v r
def sR (l:List V):List V:=l.foldr ins []
theorem xS (v:V):∀l,(ins v l).Perm (v::l):=by
 intro l
 induction l with
 |nil=>exact List.Perm.refl _
 |cons x r ih=>
  unfold ins
  split
  ·exact List.Perm.refl _
  ·exact(ih.cons x).trans (List.Perm.swap _ _ _)
theorem eL (l:List V):(sR l).Perm l:=by
 induction l with
 |nil=>exact List.Perm.refl _
 |cons x r ih=>exact(xS x _).trans (ih.cons x)
theorem zW (v:V):∀l:List V,l.Pairwise (fun a b=>a.who<=b.who)->(ins v l).Pairwise (fun a b=>a.who<=b.who):=by
 intro l
 induction l with
 |nil=>intro _;simp[ins]
 |cons x r ih=>
  intro h
  unfold ins
  rw[List.pairwise_cons]at h
  split
  ·rename_i hv
   rw[List.pairwise_cons]
   refine⟨fun y hy=>?_,List.pairwise_cons.2 h⟩
   rcases List.mem_cons.1 hy with rfl|hy
   ·exact hv
   ·exact Int.le_trans hv (h.1 y hy)
  ·rename_i hv
   rw[List.pairwise_cons]
   refine⟨fun y hy=>?_,ih h.2⟩
   rcases List.mem_cons.1 ((xS v r).mem_iff.1 hy)with rfl|hy
   ·omega
   ·exact h.1 y hy
theorem fW (l:List V):(sR l).Pairwise (fun a b=>a.who<=b.who):=by
 induction l with
 |nil=>exact List.Pairwise.nil
 |cons x r ih=>exact zW x _ ih
theorem aAx :∀(l:List V),(l.map V.who).Nodup->∀a∈l,∀b∈l,a.who=b.who->a=b:=by
 intro l
 induction l with
 |nil=>intro _ a ha;cases ha
 |cons x r ih=>
  intro h a ha b hb e
  rw[List.map_cons,List.nodup_cons]at h
  rcases List.mem_cons.1 ha with h1|ha
  ·rcases List.mem_cons.1 hb with h2|hb
   ·rw[h1,h2]
   ·exact absurd (by rw[<-h1,e];exact List.mem_map_of_mem hb) h.1
  ·rcases List.mem_cons.1 hb with h2|hb
   ·exact absurd (by rw[<-h2,<-e];exact List.mem_map_of_mem ha) h.1
   ·exact ih h.2 a ha b hb e
theorem lU (l d:List V)(hp:d.Perm l)(hs:d.Pairwise (fun a b=>a.who<=b.who))(hn:(l.map V.who).Nodup):d=sR l:=
 List.Perm.eq_of_pairwise (le:=fun a b:V=>a.who<=b.who) (fun a b ha hb h1 h2=>aAx l hn a (hp.mem_iff.1 ha) b ((eL l).mem_iff.1 hb) (by omega)) hs (fW l) (hp.trans (eL l).symm)
end Tp
instance:Inhabited Tp.V:=⟨⟨0,0,0,0⟩⟩
theorem aHi :SWO (ltOf fun x y:Tp.V=>Tp.aFm x.who y.who):=by
 have e:∀x y:Tp.V,ltOf (fun x y:Tp.V=>Tp.aFm x.who y.who) x y=decide (x.who<y.who):=by
  intro x y
  unfold ltOf Tp.aFm
  by_cases h:x.who<y.who
  ·simp[h]
  ·by_cases h2:y.who<x.who<;>simp[h,h2]
 refine⟨fun x=>?_,fun x y z=>?_,fun x y z=>?_⟩
 ·rw[e];simp
 ·rw[e,e,e];simp only[decide_eq_true_eq];omega
 ·rw[e,e,e];simp only[decide_eq_false_iff_not];omega
theorem aKs (x y:Tp.V):ltOf (fun x y:Tp.V=>Tp.aFm x.who y.who) x y=decide (x.who<y.who):=by
 unfold ltOf Tp.aFm
 by_cases h:x.who<y.who
 ·simp[h]
 ·by_cases h2:y.who<x.who<;>simp[h,h2]
theorem aEr (blk off size:Nat)(w:World):CmpLays Tryz.prog 141 #[] aH 4 (fun x y=>Tp.aFm x.who y.who) blk off size w:=by
 intro m os dk _ x y
 refine(vE x y _).mono ?_
 rintro e w' ⟨rfl,rfl⟩
 exact⟨rfl,0,_,by rw[alloc_eq_grow,alloc_eq_grow,grow_grow];rfl⟩
theorem pY (d:Array Tp.V):(flatK aH 4 d).toList=d.toList.flatMap aH:=by
 apply List.ext_getElem?
 intro t
 rcases Nat.lt_or_ge t (d.size*4)with h|h
 ·have h1:t/4<d.size:=by omega
  have h2:=dZ (f:=aH) (k:=4) (fun x=>cW x) d.toList (t/4) (t%4) (by simpa using h1) (Nat.mod_lt _ (by omega))
  rw[show t/4*4+t%4=t by omega]at h2
  rw[h2]
  unfold flatK
  rw[Array.toList_map,List.getElem?_map,Array.toList_range,List.getElem?_range h,Option.map_some]
  have h3:t%4<(aH d[t/4]!).length:=by rw[cW];exact Nat.mod_lt _ (by omega)
  rw[getElem!_pos (aH d[t/4]!) (t%4) h3]
  have h4:d.toList[t/4]'(by simpa using h1)=d[t/4]!:=by rw[getElem!_pos d (t/4) h1];simp
  rw[h4,List.getElem?_eq_getElem h3]
 ·rw[List.getElem?_eq_none (by rw[Array.length_toList,size_flatK];exact h),List.getElem?_eq_none (by rw[bR (fun x=>cW x)];simpa using h)]
theorem qO (cur:Array Value)(d:Array Tp.V)(h:d.size*4<=cur.size):(putCells id 0 (flatK aH 4 d) cur).toList.take (d.size*4)=d.toList.flatMap aH:=by
 rw[<-pY]
 apply List.ext_getElem?
 intro t
 rcases Nat.lt_or_ge t (d.size*4)with ht|ht
 ·rw[List.getElem?_take_of_lt ht]
  have:t<cur.size:=by omega
  simp[putCells,ht,this]
 ·rw[List.getElem?_take_eq_none ht,List.getElem?_eq_none (by simpa using ht)]
theorem aGu {w:World}{g cap n:Nat}{e:TypeId}{cur:Array Value}(l:List Tp.V)(hl:l.length=n)(hg:w.heap[g]?=some (.cells cur e (0,0)))(hn:n<=cap)(hs:cur.size=cap*4)(ht:cur.toList.take (n*4)=l.flatMap aH):
  HoldsK aH 4 w g 0 l.toArray:=by
 intro j hj
 rw[size_flatK]at hj
 simp only[List.size_toArray,hl]at hj
 refine⟨?_,by rw[Nat.zero_add];exact cH hg j⟩
 have e1:=pY l.toArray
 have hj2:j<(flatK aH 4 l.toArray).size:=by rw[size_flatK];simpa[hl]using hj
 rw[Nat.zero_add,cA hg j]
 have e2:(cur.toList.take (n*4))[j]?=((flatK aH 4 l.toArray).toList)[j]?:=by rw[ht,e1]
 rw[List.getElem?_take_of_lt hj,Array.getElem?_toList,Array.getElem?_toList,Array.getElem?_eq_getElem hj2]at e2
 rw[e2,getElem!_pos (flatK aH 4 l.toArray) j hj2]
 rfl
theorem zA (v:Value)(l:List Tp.V)(base:Nat)(w:World)(h:OwnL aH 4 84 w base v l)(hb:base<=w.heap.size)(hl:l.length<=1000000)(hn:(l.map Tp.V.who).Nodup):
  Calls Tryz.prog 120 #[v] w fun e w'=>e=.returned v/\OwnL aH 4 84 w' base v (Tp.sR l)/\Below base w w':=by
 rcases h.2 with⟨rfl,h0⟩|⟨g,cap,cur,rfl,hbg,hg,hnc,hcm,hsz,htk⟩
 ·have hl0:l=[]:=List.length_eq_zero_iff.1 h0
  subst hl0
  have hcon:=AnyF.slices_SortFunc_none pP none 0 (.func (.func 141) #[] #[]) w
  change Calls Tryz.prog 140 _ _ _ at hcon
  go_enter Tryz.func120,Tryz.ntmps120
  go_wp2_with (go_at_call 140;refine hcon.mono ?_;rintro e w' ⟨rfl,rfl⟩)
  go_ret
  exact⟨rfl,h,Below.refl _ _⟩
 ·have eg:∀args w,(callFunc 141 args).run Tryz.prog w=.ok (.enter 141 args) w:=enters_of Tryz.func141 (by kernel_rfl) rfl
  have hgl:g<w.heap.size:=(gS hg)
  have hH:=aGu l rfl hg hnc hsz htk
  have hcon:=AnyQ.slices_SortFunc pP 4 Tryz.isAgg84 Tryz.sizeOf84 aH (fun _=>rfl) (fun x v hv=>gY x v hv) (fun x y=>Tp.aFm x.who y.who) aHi 141 #[] g 0 cap l.toArray w eg (aEr g 0 l.toArray.size w) hH hgl (by rw[List.size_toArray];omega)
  change Calls Tryz.prog 140 _ _ _ at hcon
  rw[List.size_toArray]at hcon
  clear hH
  have HC:=zH hcon
  clear hcon
  go_enter Tryz.func120,Tryz.ntmps120
  go_wp2_with (go_at_call 140;refine HC.out.mono ?_;rintro e w' ⟨rfl,d,m,os,hp,hs,rfl⟩)
  go_ret
  obtain⟨hds,-,hpm⟩:=hp
  have hds:d.size=l.length:=by simpa using hds
  have e1:d.extract 0 l.length=d:=by rw[<-hds];exact Array.extract_size
  have e2:l.toArray.extract 0 l.length=l.toArray:=by rw[<-List.size_toArray];exact Array.extract_size
  rw[e1,e2]at hpm
  have hsorted:d.toList.Pairwise (fun a b=>a.who<=b.who):=by
   rw[List.pairwise_iff_getElem]
   intro i j hi hj hij
   have:=hs i j (Nat.zero_le _) hij (by simpa[hds]using hj)
   rw[aKs,decide_eq_false_iff_not]at this
   have hi':i<d.size:=by simpa using hi
   have hj':j<d.size:=by simpa using hj
   rw[getElem!_pos d i hi',getElem!_pos d j hj']at this
   simp only[Array.getElem_toList]
   omega
  have hd:=Tp.lU l d.toList hpm hsorted hn
  have hheap:(sortWorldK aH 4 w g 0 m d os).heap[g]?=some (.cells (putCells id 0 (flatK aH 4 d) cur) 84 (0,0)):=by
   unfold sortWorldK putRowK
   rw[heap_grow_old _ _ (by simpa using hgl)]
   simp[putRow,mapBlock,Sort.ahead,Array.getElem?_modify,hg,onCells]
  have hlen:(Tp.sR l).length=l.length:=(Tp.eL l).length_eq
  refine⟨rfl,⟨by rw[bR (fun x=>cW x)],.inr ⟨g,cap,_,by rw[hlen],hbg,hheap,by rw[hlen];exact hnc,hcm,by simp[putCells,hsz],?_⟩⟩,?_⟩
  ·rw[hlen,<-hds,qO cur d (by rw[hds,hsz];exact Nat.mul_le_mul_right 4 hnc),hd]
  ·refine⟨rfl,rfl,rfl,?_,fun k hk=>?_⟩
   ·unfold sortWorldK
    simp[grow,putRowK]
   ·unfold sortWorldK putRowK
    rw[heap_grow_old _ _ (by simp;omega)]
    have:g≠k:=by omega
    simp[putRow,mapBlock,Sort.ahead,Array.getElem?_modify,this]
end
end Go.Proofs.YtbbhinehcncmeaaGreat
