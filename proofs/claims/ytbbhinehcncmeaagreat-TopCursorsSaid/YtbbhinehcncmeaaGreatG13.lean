/- A part of the proof of the laws of the top: TpOf, TpRatio. No condition. -/
import Derived.Test.YtbbhinehcncmeaaGreatG12
import Derived.Shelf.Bits.Mul64
namespace Go.Proofs.YtbbhinehcncmeaaGreat
open Go.RowKit
set_option linter.unusedSimpArgs false
set_option linter.unusedVariables false
set_option linter.unusedSectionVars false
set_option maxRecDepth 100000
set_option maxHeartbeats 4000000
namespace Tp
def gE (b:BM) (slot:Int) (e:(Int×Int)×(Int×Int)):Bool:=decide (e.1.2=slot)&& !((at_ b e.1).getD false)
def xB (slot:Int) (e:(Int×Int)×(Int×Int)):V:=⟨e.1.1,slot,e.2.1,e.2.2⟩
def outs (b:BM) (slot:Int) (es:HM):List V:=(es.filter (gE b slot)).map (xB slot)
theorem aCq (b:BM)(slot:Int)(es:HM)(e:(Int×Int)×(Int×Int)):outs b slot (es++[e])=outs b slot es++(if gE b slot e=true then[xB slot e]else[]):=by
 unfold outs
 rw[List.filter_append,List.map_append]
 congr 1
 by_cases h:gE b slot e=true<;>simp[h]
theorem qQ (b:BM)(slot:Int)(es:HM):(outs b slot es).length<=es.length:=by
 unfold outs
 rw[List.length_map]
 exact List.length_filter_le _ _
theorem aGf {K V:Type} [DecidableEq K] (k:K) (v:V):∀m:List (K×V),(put m k v).map (·.1)=if k∈m.map (·.1)then m.map (·.1)else m.map (·.1)++[k]:=by
 intro m
 induction m with
 |nil=>rfl
 |cons p r ih=>
  unfold put
  by_cases h:k=p.1
  ·rw[if_pos h]
   simp[h]
  ·rw[if_neg h,List.map_cons,ih,List.map_cons]
   by_cases h2:k∈r.map (·.1)
   ·rw[if_pos h2,if_pos (List.mem_cons_of_mem _ h2)]
   ·rw[if_neg h2,if_neg (by intro e;rcases List.mem_cons.1 e with e|e;exact h e;exact h2 e)]
    rfl
theorem aCl {K V:Type} [DecidableEq K] (k:K) (v:V) (m:List (K×V)) (h:(m.map (·.1)).Nodup):((put m k v).map (·.1)).Nodup:=by
 rw[aGf]
 split
 ·exact h
 ·rename_i hk
  rw[List.nodup_append]
  refine⟨h,by simp,?_⟩
  intro a ha b hb e
  simp only[List.mem_singleton]at hb
  exact hk (by rw[<-hb,<-e];exact ha)
theorem yJ (l:List V):∀b:HM×BM,(b.1.map (·.1)).Nodup->((l.foldl eD b).1.map (·.1)).Nodup/\(l.foldl eD b).1.length<=b.1.length+l.length:=by
 induction l with
 |nil=>intro b h;exact⟨h,by simp⟩
 |cons x r ih=>
  intro b h
  rw[List.foldl_cons,List.length_cons]
  obtain⟨h1,h2⟩:=ih (eD b x) (aCl _ _ _ h)
  refine⟨h1,Nat.le_trans h2 ?_⟩
  have:(eD b x).1.length<=b.1.length+1:=by
   show(put b.1 _ _).length<=_
   rw[jG]
   split<;>omega
  omega
theorem lQ (l:List V):((book l).1.map (·.1)).Nodup:=(yJ l ([],[]) (by simp)).1
theorem yI (l:List V):(book l).1.length<=l.length:=by
 have:=(yJ l ([],[]) (by simp)).2
 unfold book
 simpa using this
theorem qP (b:BM)(slot:Int)(es:HM)(h:(es.map (·.1)).Nodup):((outs b slot es).map V.who).Nodup:=by
 induction es with
 |nil=>simp[outs]
 |cons x r ih=>
  rw[List.map_cons,List.nodup_cons]at h
  unfold outs
  rw[List.filter_cons]
  split
  ·rename_i hc
   rw[List.map_cons,List.map_cons,List.nodup_cons]
   refine⟨?_,ih h.2⟩
   intro hm
   rw[List.map_map,List.mem_map]at hm
   obtain⟨y,hy,he⟩:=hm
   rw[List.mem_filter]at hy
   unfold gE at hc hy
   simp only[Bool.and_eq_true,decide_eq_true_eq]at hc hy
   apply h.1
   have e1:y.1=x.1:=Prod.ext he (by rw[hy.2.1,hc.1])
   rw[<-e1]
   exact List.mem_map_of_mem hy.1
  ·exact ih h.2
theorem aCr (b:BM)(slot:Int){es es':HM}(h:es.Perm es'):(outs b slot es).Perm (outs b slot es'):=(h.filter _).map _
def dR (vs:List V) (slot:Int):List V:=sR (outs (book vs).2 slot (book vs).1)
end Tp
theorem vH {bk:Tp.HM×Tp.BM}{slot:Int}{gone:Tp.HM}(hn:(bk.1.map (·.1)).Nodup)(hp:gone.Perm bk.1):Tp.sR (Tp.outs bk.2 slot gone)=Tp.sR (Tp.outs bk.2 slot bk.1):=
 Tp.lU _ _ ((Tp.eL _).trans (Tp.aCr _ _ hp)) (Tp.fW _) (Tp.qP _ _ _ hn)
structure aFf (w:World) (X:Nat) (slot:Int) (bk:Tp.HM×Tp.BM) (gone left:Tp.HM) (v:Value) (wr:World):Prop where
 bel:Below w.heap.size w wr
 hX:w.heap.size+2<X
 box:wr.heap[X]?=some (.cells #[.map (some (w.heap.size+1)),.map (some (w.heap.size+2))] 182 (0,0))
 it:gV gQ idV wr (X+1) (w.heap.size+1) bk.1 gone left
 bad:MapB gQ bY wr (w.heap.size+2) bk.2
 own:OwnL aH 4 84 wr (X+2) v (Tp.outs bk.2 slot gone)
def aDn (w:World) (r:Nat):Nat:=
 match w.heap[r]? with
 |some (.mapIter (some b) _ seen _)=>match w.heap[b]? with
  |some (.map es _)=>(leftOf es seen).size
  |_=>0
 |_=>0
theorem xP {K V:Type}{ke:K->Value}{ve:V->Value}{w:World}{r b:Nat}{m gone left:List (K×V)}(h:gV ke ve w r b m gone left):aDn w r=left.length:=by
 obtain⟨es,c,seen,hb,hr,-,-,-,hle,-⟩:=h
 unfold aDn
 rw[hr]
 simp only[hb]
 simpa using congrArg List.length hle
theorem qH (av:Option Addr)(nv cv:Nat)(vs:List Tp.V)(slot:Int)(w:World)(hv:SlV aH 4 w av nv cv vs)(hnv:nv<=1000000):
  Calls Tryz.prog 103 #[.slice av nv cv,.int .i64 slot] w fun e w'=>∃v,e=.returned v/\OwnL aH 4 84 w' w.heap.size v (Tp.dR vs slot)/\Below w.heap.size w w':=by
 obtain⟨i0,hi,hz0,hz1,hz2⟩:=info_parts jI
 have HV:=zH hv
 clear hv
 obtain⟨bk,hbk⟩:∃b,Tp.book vs=b:=⟨_,rfl⟩
 unfold Tp.dR
 rw[hbk]
 have HBK:=zH hbk
 have HNK:Hid ((bk.1.map (·.1)).Nodup):=zH (by rw[<-hbk];exact Tp.lQ vs)
 have HLN:Hid (bk.1.length<=1000000):=zH (by have:=Tp.yI vs;rw[hbk,HV.out.len]at this;omega)
 clear hbk
 go_enter Tryz.func103,Tryz.ntmps103
 go_wp2_with (go_at_call 119;refine(aIu av nv cv vs _ HV.out).mono ?_;rintro e w1 ⟨rfl,hh,hb,bel1⟩;rw[HBK.out]at hh hb;have hrg:=MapB.range (P:=Tryz.prog) Tryz.underlying179 (hh.alloc (.cells #[.map (some (w.heap.size+1)),.map (some (w.heap.size+2))] 182));obtain⟨ito,hrun,hiter⟩:=hrg)
 obtain⟨wi,ewi_⟩:∃z,Hid (z=(w1.alloc (.cells #[.map (some (w.heap.size+1)),.map (some (w.heap.size+2))] 182)).alloc ito):=⟨_,zH rfl⟩
 have r0:aFf w w1.heap.size slot bk [] bk.1 (m48) (wi):=by
  cases ewi_.out
  rw[World.size_alloc]at hiter
  have hl:=hh.lt
  have hl2:=hb.lt
  refine⟨(bel1.alloc bel1.size _).alloc (by simp only[World.size_alloc];have:=bel1.size;omega) _,by omega,?_,hiter,(hb.alloc _).alloc _,OwnL.nil _ _ _ _ _⟩
  rw[cF,if_neg (by simp only[World.size_alloc];omega),cF,if_pos rfl]
 generalize hXX:w1.heap.size=X at r0⊢
 rw[<-ewi_.out]
 clear hrun hiter hh hb bel1 hXX
 go_loopw [5] (fun v wr=>∃gone left:Tp.HM,aFf w X slot bk gone left v wr) (fun _ wr=>aDn wr (X+1))
 case atStart=>exact⟨[],bk.1,r0⟩
 case round=>
  obtain⟨gone,left,hR⟩:=hrel
  obtain⟨c0,c1⟩:=kc2 hR.box
  have hX:=hR.hX
  have hXl:=(gS hR.box)
  have HR:=zH hR
  have hit:=hR.it
  have hX1:X+1<wr.heap.size:=hit.lt.2
  have hown:=hR.own
  have hbd:=hR.bad.at_
  clear hR r0
  rcases gV.next (P:=Tryz.prog) 0 (by omega) hit with⟨hl0,hrun⟩|⟨i,hil,w2,ob,hturn,hrun,hit2,hent⟩
  ·subst hl0
   have hperm:gone.Perm bk.1:=by
    obtain⟨_,_,_,_,_,_,_,_,_,hp⟩:=hit
    simpa using hp
   go_wp2_with (go_at_call 120;refine(zA _ _ _ _ hown (by omega) (Nat.le_trans (Tp.qQ _ _ _) (by rw[hperm.length_eq];exact HLN.out)) (Tp.qP _ _ _ (hperm.map _ |>.nodup_iff.2 HNK.out))).mono ?_;rintro e w3 ⟨rfl,own3,hb3⟩)
   go_ret
   exact⟨_,rfl,by rw[<-vH (slot:=slot) HNK.out hperm];exact own3.lower (by omega),HR.out.bel.trans (hb3.mono (by omega))⟩
  ·have hsame:∀k,k≠X+1->w2.heap[k]?=wr.heap[k]?:=fun k hk=>by
    rcases hturn with h|h
    ·exact h.block k hk
    ·exact h.block k hk
   have hsz2:w2.heap.size=wr.heap.size:=by
    rcases hturn with h|h
    ·exact h.size
    ·exact h.size
   have hbel2:Below (X+1) wr w2:=by
    rcases hturn with h|h
    ·exact h.below nr
    ·exact((Below.refl _ wr).drew).trans (h.below nr)
   have hown2:OwnL aH 4 84 w2 (X+2) u5 (Tp.outs bk.2 slot gone):=by
    rcases hturn with h|h
    ·exact hown.turn h (by omega)
    ·exact OwnL.turn (w:=wr.drew) hown h (by omega)
   have hbox2:=(hsame X (by omega)).trans HR.out.box
   have hbad2:=HR.out.bad.same (hsame _ (by omega))
   have hentry:=hent w2 rfl rfl
   have hw2:X+1<w2.heap.size:=by omega
   have HSZ2:=zH hsz2
   clear hent hturn hsz2
   have hgl:(gone++[left[i]]).length<=1000000:=by
    obtain⟨_,_,_,_,_,_,_,_,_,hp⟩:=hit2
    have:=hp.length_eq
    rw[List.length_append]at this
    have:=HLN.out
    omega
   have hln:(Tp.outs bk.2 slot gone).length<=1000000:=Nat.le_trans (Tp.qQ _ _ _) (by rw[List.length_append]at hgl;simp only[List.length_cons,List.length_nil]at hgl;omega)
   have hout:=Tp.aCq bk.2 slot gone left[i]
   have hlN:=xP hit
   have hlN2:=fun(W:World) (h1:W.heap[w.heap.size+1]?=w2.heap[w.heap.size+1]?) (h2:W.heap[X+1]?=w2.heap[X+1]?)=>xP (hit2.same h1 h2)
   have hle:(left.eraseIdx i).length<left.length:=by rw[List.length_eraseIdx_of_lt hil];omega
   have HN1:=zH hlN
   have HN2:=zH hlN2
   have HLE:=zH hle
   have HIT:=fun(W:World) (h1:W.heap[w.heap.size+1]?=w2.heap[w.heap.size+1]?) (h2:W.heap[X+1]?=w2.heap[X+1]?)=>hit2.same h1 h2
   have HIT2:=zH HIT
   have HGL:=zH hgl
   clear hlN hlN2 hle HIT hgl hit2 hit
   generalize left[i]=e at hrun hentry hout HIT2 HGL
   obtain⟨⟨k0,k1⟩,⟨v0,v1⟩⟩:=e
   simp only[gQ,idV]at hrun hentry
   have c1b:((w2.alloc (.cells #[.int .i64 k0,.int .i64 k1] 185)).alloc (m40 v0 v1)).cell? (m15 X)=some (.map (some (w.heap.size+2))):=((cR _ _).cell (p:=(m15 X)) (by show X<w2.heap.size;omega)).trans (cA hbox2 1)
   have hbad4:=(hbad2.alloc (.cells #[.int .i64 k0,.int .i64 k1] 185)).alloc (m40 v0 v1)
   have hlk:=hbad4.at_.look iU Tryz.underlying180 (jD _) (k0,k1) false
   simp only[gQ,Bool.false_eq_true,if_false]at hlk
   have he:=aIh (k0,k1) (k0,slot)
   simp only[gQ]at he
   have hfin:∀(v:Value) (W:World),Below (X+2) w2 W->OwnL aH 4 84 W (X+2) v (Tp.outs bk.2 slot (gone++[((k0,k1),(v0,v1))]))->(∃gone left:Tp.HM,aFf w X slot bk gone left v W)/\aDn W (X+1)<aDn wr (X+1):=by
    intro v W hb hO
    have e1:=hb.block (w.heap.size+1) (by omega)
    have e2:=hb.block (X+1) (by omega)
    refine⟨⟨_,_,HR.out.bel.trans ((hbel2.mono (by omega)).trans (hb.mono (by omega))),hX,(hb.block X (by omega)).trans hbox2,HIT2.out W e1 e2,hbad2.same (hb.block _ (by omega)),hO⟩,?_⟩
    rw[HN1.out,HN2.out W e1 e2]
    exact HLE.out
   have HF:=zH hfin
   have HO:=zH hout
   clear hfin hout c0 c1
   by_cases hk:k1=slot
   ·subst hk
    simp only[decide_true]at he
    obtain⟨t,ht⟩:∃t,(Tp.at_ bk.2 (k0,k1)).getD false=t:=⟨_,rfl⟩
    have hlk2:(Instr.lookup 180 (m43 (w.heap.size+2)) (.agg #[.int .i64 k0,.int .i64 k1]) false).run Tryz.prog ((w2.alloc (.cells #[.int .i64 k0,.int .i64 k1] 185)).alloc (m40 v0 v1))=.ok (.bool t) ((w2.alloc (.cells #[.int .i64 k0,.int .i64 k1] 185)).alloc (m40 v0 v1)):=by
     rw[hlk,<-ht]
     cases Tp.at_ bk.2 (k0,k1)<;>rfl
    clear hlk
    have hout2:Tp.outs bk.2 k1 (gone++[((k0,k1),(v0,v1))])=Tp.outs bk.2 k1 gone++(if !t then[⟨k0,k1,v0,v1⟩]else[]):=by
     rw[HO.out]
     unfold Tp.gE
     simp only[decide_true,Bool.true_and,ht]
     rfl
    have HO2:=zH hout2
    clear hout2 ht
    cases t with
    |true=>
     go_wp2
     refine HF.out _ _ ((cR _ _).mono (by omega)) ?_
     rw[HO2.out]
     simp only[Bool.not_true,Bool.false_eq_true,if_false,List.append_nil]
     exact hown2.keep (cR _ _)
    |false=>
     go_wp2_with (at_builtin;refine wpList_append_own _ rfl (.tmp 32) (.tmp 38) 36 rfl (X+2) 84 i0 (.agg (m58)) 4 32 Tryz.underlying36 hi hz0 hz1 hz2 rfl (by decide) _ _ _ rfl (((hown2.keep (cR _ _)).keep ((Below.refl _ _).alloc nr _))) (m45 w2) 1 1 (aH ⟨k0,k1,v0,v1⟩) rfl rfl (bE _ _ _ _ (by simp)) (gY _) (by unfold maxLen;omega) (by omega) (by simp only[World.size_alloc];omega) ?_;intro v3 w5 hown3 hg3 _)
     refine HF.out _ _ (OwnL.grown (hown2.keep (cR _ _)) ((cR _ _).mono (show X+2<=w2.heap.size by omega)) nr (by simp only[World.size_alloc];omega) hg3) ?_
     rw[HO2.out]
     simp only[Bool.not_false,if_true]
     exact OwnL.snoc hown3 rfl
   ·have he2:decide ((k0,k1)=(k0,slot))=false:=decide_eq_false (fun h=>hk (Prod.mk.inj h).2)
    rw[he2]at he
    have hout2:Tp.outs bk.2 slot (gone++[((k0,k1),(v0,v1))])=Tp.outs bk.2 slot gone:=by
     rw[HO.out]
     unfold Tp.gE
     simp[hk]
    have HO2:=zH hout2
    clear hout2 hlk he2 hk
    go_wp2
    refine HF.out _ _ ((cR _ _).mono (by omega)) ?_
    rw[HO2.out]
    exact hown2.keep (cR _ _)
namespace Rw
theorem aKc (n:Int)(w:World):
  Calls Tryz.prog 159 #[.int .i64 n] w fun e w'=>e=.returned (.bool (Rt.mayB n))/\w=w':=by
 by_cases h:0<=n
 ·go_enter Tryz.func159,Tryz.ntmps159
  go_wp2
  go_ret
  exact⟨fZ (by simp[Rt.mayB,h]),rfl⟩
 ·go_enter Tryz.func159,Tryz.ntmps159
  go_wp2
  go_ret
  exact⟨fZ (by simp[Rt.mayB];omega),rfl⟩
theorem aEz (n:Int)(w:World):
  Calls Tryz.prog 158 #[.int .i64 n] w fun e w'=>e=.returned (.bool (!Rt.mayB n))/\w=w':=by
 go_enter Tryz.func158,Tryz.ntmps158
 go_wp2_with (refine(aKc _ _).mono ?_;rintro e w' ⟨rfl,rfl⟩)
 go_ret
 exact⟨rfl,rfl⟩
theorem aDu (b o c:Nat)(xs:List Int)(w:World)(h:∀i,i<xs.length->w.cell? (m09 b (o+i))=some (.int .i64 (Mx.nth xs i)))(hm:xs.length<=9223372036854775807):
  Calls Tryz.prog 175 #[.slice (some (m09 b o)) xs.length c,.func (.func 158) #[] #[]] w fun e w'=>e=.returned (m30 (Rt.idx 0 xs))/\w=w':=by
 go_enter Tryz.func175,Tryz.ntmps175
 go_wp2
 go_loop [5,8] (fun _ i=>∃k:Nat,k<=xs.length/\i=.int .i64 k/\Hid (Rt.idx 0 xs=Rt.idx k (xs.drop k))) (fun _ i=>xs.length-(intOf i).toNat)
 case atStart=>exact⟨0,Nat.zero_le _,rfl,zH rfl⟩
 case round=>
  obtain⟨k,hk,rfl,hc⟩:=hrel
  by_cases hlt:k<xs.length
  ·have a1:=h k hlt
   have d1:=zH (Mx.drop_at xs k hlt)
   clear h
   obtain⟨m,hmay⟩:∃m,Rt.mayB (Mx.nth xs k)=m:=⟨_,rfl⟩
   cases m
   ·have hf:Hid (Rt.idx 0 xs=k):=zH (by rw[hc.out,d1.out];simp[Rt.idx,hmay])
    go_wp2_with (refine(aEz _ _).mono ?_;rintro e w' ⟨rfl,rfl⟩)
    go_ret
    exact⟨jV hf.out.symm,rfl⟩
   ·have hf:Hid (Rt.idx 0 xs=Rt.idx (k+1) (xs.drop (k+1))):=zH (by rw[hc.out,d1.out];simp only[Rt.idx,hmay,if_true])
    go_wp2_with (refine(aEz _ _).mono ?_;rintro e w' ⟨rfl,rfl⟩)
    go_round
    case rel=>exact⟨k+1,by omega,by go_num,hf⟩
    case measure=>simp[intOf];omega
  ·clear h
   go_wp2
   go_ret
   exact⟨jV (by rw[hc.out,List.drop_of_length_le (by omega:xs.length<=k)];rfl),rfl⟩
theorem uF (b o c:Nat)(xs:List Int)(w:World)(h:∀i,i<xs.length->w.cell? (m09 b (o+i))=some (.int .i64 (Mx.nth xs i)))(hm:xs.length<=9223372036854775807):
  Calls Tryz.prog 157 #[.slice (some (m09 b o)) xs.length c,.func (.func 158) #[] #[]] w fun e w'=>e=.returned (.bool (!(xs.all Rt.mayB)))/\w=w':=by
 have hi:=zH (Rt.idx_ge xs 0)
 have H:=zH h
 clear h
 go_enter Tryz.func157,Tryz.ntmps157
 go_wp2_with (refine(aDu _ _ _ _ _ H.out hm).mono ?_;rintro e w' ⟨rfl,rfl⟩)
 go_ret
 exact⟨fZ hi.out,rfl⟩
theorem jK (b o c n:Nat)(xs:List Int)(w:World)(hn:xs.length=n)(h:∀i,i<xs.length->w.cell? (m09 b (o+i))=some (.int .i64 (Mx.nth xs i)))(hm:xs.length<=9223372036854775807):
  Calls Tryz.prog 150 #[.slice (some (m09 b o)) n c] w fun e w'=>e=.returned (.bool (xs.all Rt.mayB))/\w=w':=by
 subst hn
 have H:=zH h
 clear h
 go_enter Tryz.func150,Tryz.ntmps150
 go_wp2_with (refine(uF _ _ _ _ _ H.out hm).mono ?_;rintro e w' ⟨rfl,rfl⟩)
 go_ret
 exact⟨fZ (by simp),rfl⟩
theorem aDg (x y:Nat)(hx:x<18446744073709551616)(hy:y<18446744073709551616)(w:World):
  Calls Tryz.prog 160 (m08 x y) w fun e w'=>e=.returned (.tuple #[.int .u64 ((x*y/18446744073709551616:Nat):Int),.int .u64 ((x*y%18446744073709551616:Nat):Int)])/\w=w':=by
 obtain⟨bd,bt,bw,hhi⟩:=Lib.mul64_hi x y hx hy
 have ba:=Lib.half_mul_le (a:=x/4294967296) (b:=y/4294967296) (by omega) (by omega)
 have bb:=Lib.half_mul_le (a:=x/4294967296) (b:=y%4294967296) (by omega) (by omega)
 have bc:=Lib.half_mul_le (a:=x%4294967296) (b:=y/4294967296) (by omega) (by omega)
 have ba':x/4294967296*(y/4294967296)<18446744073709551616:=by omega
 have bb':x/4294967296*(y%4294967296)<18446744073709551616:=by omega
 have bc':x%4294967296*(y/4294967296)<18446744073709551616:=by omega
 have bh1:x/4294967296*(y/4294967296)+(x/4294967296*(y%4294967296)+x%4294967296*(y%4294967296)/4294967296)/4294967296<18446744073709551616:=by omega
 have bh:x/4294967296*(y/4294967296)+(x/4294967296*(y%4294967296)+x%4294967296*(y%4294967296)/4294967296)/4294967296+((x/4294967296*(y%4294967296)+x%4294967296*(y%4294967296)/4294967296)%4294967296+x%4294967296*(y/4294967296))/4294967296<18446744073709551616:=by omega
 go_enter Tryz.func160,Tryz.ntmps160
 go_wp2
 simp only[Mul64.maskN x hx,Mul64.maskN y hy,Mul64.divN,Mul64.mulN,Mul64.addN,Mul64.wrapN _ bd,Mul64.wrapN _ bb',Mul64.wrapN _ bt,Mul64.maskN _ bt,Mul64.wrapN _ bc',Mul64.wrapN _ bw,Mul64.wrapN _ ba',Mul64.wrapN _ bh1,Mul64.wrapN _ bh,Mul64.wrapM (x*y)]
 rw[hhi]
 go_ret2
 exact⟨rfl,rfl⟩
namespace Rt
def hi (a b:Int):Int:=a*b/18446744073709551616
def lo (a b:Int):Int:=a*b%18446744073709551616
end Rt
theorem aDf (a b:Int)(ha:0<=a/\a<=4611686018427387904)(hb:0<=b/\b<=4611686018427387904)(w:World):
  Calls Tryz.prog 160 (m08 a b) w fun e w'=>e=.returned (.tuple (m08 (Rt.hi a b) (Rt.lo a b)))/\w=w':=by
 obtain⟨x,rfl⟩:=Int.eq_ofNat_of_zero_le ha.1
 obtain⟨y,rfl⟩:=Int.eq_ofNat_of_zero_le hb.1
 have e1:Rt.hi x y=((x*y/18446744073709551616:Nat):Int):=by
  unfold Rt.hi
  rw[<-Int.natCast_mul]
  generalize x*y=p
  omega
 have e2:Rt.lo x y=((x*y%18446744073709551616:Nat):Int):=by
  unfold Rt.lo
  rw[<-Int.natCast_mul]
  generalize x*y=p
  omega
 rw[e1,e2]
 exact aDg x y (by omega) (by omega) w
theorem sJ (a b:Int)(ha:0<=a/\a<=4611686018427387904)(hb:0<=b/\b<=4611686018427387904)(w:World):
  Calls Tryz.prog 151 #[.int .i64 a,.int .i64 b] w fun e w'=>e=.returned (m67 (Rt.hi a b) (Rt.lo a b))/\Below w.heap.size w w':=by
 obtain⟨a0,a1⟩:=ha
 obtain⟨b0,b1⟩:=hb
 go_enter Tryz.func151,Tryz.ntmps151
 go_wp2_with (refine(aDf _ _ ⟨a0,a1⟩ ⟨b0,b1⟩ _).mono ?_;rintro e w' ⟨rfl,rfl⟩)
 refine bodyPost_ret (v:=.agg (m08 (Rt.hi a b) (Rt.lo a b))) ?_ rfl ⟨rfl,?_⟩
 ·simp[results,Tryz.results151,go_sem]
 ·exact(Below.refl _ _).alloc nr _
theorem cR (w:World)(a b:Int)(t:TypeId)(g:Nat)(hg:g=w.heap.size):∀i,i< [a,b].length->(w.alloc (.cells #[.int .i64 a,.int .i64 b] t)).cell? (m09 g (0+i))=some (.int .i64 (Mx.nth [a,b] i)):=by
 subst hg
 intro i hi
 match i,hi with
 |0,_=>simp[Mx.nth]
 |1,_=>simp[Mx.nth]
theorem rL (w:World)(a b c d:Int)(t:TypeId)(g:Nat)(hg:g=w.heap.size):∀i,i< [a,b,c,d].length->(w.alloc (.cells #[.int .i64 a,.int .i64 b,.int .i64 c,.int .i64 d] t)).cell? (m09 g (0+i))=some (.int .i64 (Mx.nth [a,b,c,d] i)):=by
 subst hg
 intro i hi
 match i,hi with
 |0,_=>simp[Mx.nth]
 |1,_=>simp[Mx.nth]
 |2,_=>simp[Mx.nth]
 |3,_=>simp[Mx.nth]
theorem aMk (w:World)(a b c d:Int)(t:TypeId)(g:Nat)(hg:g=w.heap.size)(m:Bool)(hm:Hid ((Rt.mayB a&&Rt.mayB b&&(Rt.mayB c&&Rt.mayB d))=m)):
  Calls Tryz.prog 150 #[.slice (some (m00 g)) 4 4] (w.alloc (.cells #[.int .i64 a,.int .i64 b,.int .i64 c,.int .i64 d] t)) fun e w'=>e=.returned (.bool m)/\w.alloc (.cells #[.int .i64 a,.int .i64 b,.int .i64 c,.int .i64 d] t)=w':=by
 refine(jK g 0 4 4 [a,b,c,d] _ rfl (rL w a b c d t g hg) (by simp)).mono fun e w' h=>?_
 rw[<-hm.out]
 simpa[Bool.and_assoc]using h
theorem yH {a b:Int}(h:(Rt.mayB a&&Rt.mayB b)=true):(0<=a/\a<=4611686018427387904)/\(0<=b/\b<=4611686018427387904):=by
 rw[Bool.and_eq_true,Rt.may_iff,Rt.may_iff]at h
 exact h
theorem aKm (a0 a1 b0 b1:Int)(w:World):
  (Op.equalIn 10000 234 (m67 a0 a1) (m67 b0 b1)).run Tryz.prog w=.ok (a0==b0&&a1==b1) w:=by
 have hu:Tryz.prog.underlying 234=some (.array 2 23):=by kernel_rfl
 obtain⟨i,hi⟩:∃i,Tryz.prog.info? 23=some i:=by
  have h:(Tryz.prog.info? 23).isSome=true:=by kernel_rfl
  exact Option.isSome_iff_exists.1 h
 have hc:Tryz.prog.cellsOf 23=1:=by kernel_rfl
 have uE:=Tryz.underlying23
 have aE:=Tryz.isAgg23
 rw[show 10000=(9998+1)+1 from rfl,run_equalIn_array w (9998+1) _ _ hu hi,hc,show List.range 2=[0,1]from rfl]
 simp only[Op.eqItems]
 go_simp
 by_cases h1:a0=b0<;>by_cases h2:a1=b1<;>simp[h1,h2]
theorem cmp2 (x0 x1 y0 y1:Int):0<Mx.cmpL [x0,x1] [y0,y1]↔y0<x0\/(x0=y0/\y1<x1):=by
 simp only[Mx.cmpL]
 by_cases h1:x0<y0
 ·simp[h1];omega
 ·by_cases h2:y0<x0
  ·simp[h1,h2]
  ·by_cases h3:x1<y1
   ·simp[h1,h2,h3];omega
   ·by_cases h4:y1<x1
    ·simp[h1,h2,h3,h4];omega
    ·simp[h1,h2,h3,h4]
theorem yO {a b c d:Int}(h:(Rt.mayB a&&Rt.mayB b&&(Rt.mayB c&&Rt.mayB d))=true):
  ((Rt.hi a b==Rt.hi c d&&Rt.lo a b==Rt.lo c d)=decide (a*b=c*d))/\(decide (0<Mx.cmpL [Rt.hi a b,Rt.lo a b] [Rt.hi c d,Rt.lo c d])=Rt.moreB a b c d)/\(a*b=c*d->Rt.moreB a b c d=false):=by
 unfold Rt.moreB
 rw[h]
 unfold Rt.hi Rt.lo
 generalize a*b=p
 generalize c*d=q
 refine⟨?_,?_,?_⟩
 ·rw[Bool.eq_iff_iff]
  simp
  omega
 ·rw[Bool.true_and]
  refine decide_eq_decide.2 ((cmp2 _ _ _ _).trans ?_)
  omega
 ·intro e
  simp[e]
theorem aDh (x0 x1 y0 y1:Int)(W:World)(g h n:Nat)(e0:W.cell? (m00 g)=some (.int .u64 x0))(e1:W.cell? (m15 g)=some (.int .u64 x1))(e2:W.cell? (m00 h)=some (.int .u64 y0))(e3:W.cell? (m15 h)=some (.int .u64 y1)):
  Calls Tryz.prog 152 #[.slice (some (m00 g)) 2 2,.slice (some (m00 h)) 2 2] (W.drewN n)
   fun e w''=>e=.returned (m30 (Mx.cmpL [x0,x1] [y0,y1]))/\∃m,w''=W.drewN m:=
 Calls.quiet_same (oJ g 0 2 h 0 2 [x0,x1] [y0,y1] _
  (fun i hi=>by
   match i,hi with
   |0,_=>simpa[Mx.nth]using e0
   |1,_=>simpa[Mx.nth]using e1)
  (fun i hi=>by
   match i,hi with
   |0,_=>simpa[Mx.nth]using e2
   |1,_=>simpa[Mx.nth]using e3)
  (by simp) (by simp))
theorem more_any (a b c d:Int)(w:World):
  Calls Tryz.prog 135 #[.int .i64 a,.int .i64 b,.int .i64 c,.int .i64 d] w fun e w'=>e=.returned (.bool (Rt.moreB a b c d))/\Below w.heap.size w w':=by
 have bel:Below w.heap.size w (w.alloc (.cells #[.int .i64 a,.int .i64 b,.int .i64 c,.int .i64 d] 3)):=(Below.refl _ _).alloc nr _
 obtain⟨m,hm⟩:∃m,(Rt.mayB a&&Rt.mayB b&&(Rt.mayB c&&Rt.mayB d))=m:=⟨_,rfl⟩
 have HM:=zH hm
 cases m
 ·have hf:Hid (Rt.moreB a b c d=false):=zH (by unfold Rt.moreB;rw[hm];rfl)
  clear hm
  go_enter Tryz.func135,Tryz.ntmps135
  go_wp2_with (refine(aMk _ _ _ _ _ _ _ rfl _ HM).mono ?_;rintro e w' ⟨rfl,rfl⟩)
  go_ret
  exact⟨fZ hf.out.symm,bel⟩
 ·have hab:(Rt.mayB a&&Rt.mayB b)=true:=by
   rw[Bool.and_eq_true]at hm;exact hm.1
  have hcd:(Rt.mayB c&&Rt.mayB d)=true:=by
   rw[Bool.and_eq_true]at hm;exact hm.2
  obtain⟨ha,hb⟩:=yH hab
  obtain⟨hc,hd⟩:=yH hcd
  obtain⟨k1,k2,k3⟩:=yO hm
  have heq:=aKm (Rt.hi a b) (Rt.lo a b) (Rt.hi c d) (Rt.lo c d)
  rw[k1]at heq
  clear hm hab hcd k1
  obtain⟨m,hm⟩:∃m,Rt.moreB a b c d=m:=⟨_,rfl⟩
  rw[hm]at k2 k3
  obtain⟨t,ht⟩:∃t,decide (a*b=c*d)=t:=⟨_,rfl⟩
  rw[ht]at heq
  have K2:=zH k2
  have K3:t=true->m=false:=by
   intro h
   rw[h]at ht
   exact k3 (by simpa using ht)
  have MM:=zH hm
  clear hm k2 k3 ht
  go_enter Tryz.func135,Tryz.ntmps135
  go_wp2_with fail
  refine(aMk _ _ _ _ _ _ _ rfl _ HM).mono ?_
  rintro e w' ⟨rfl,rfl⟩
  go_wp2_with fail
  refine(sJ a b ha hb _).mono ?_
  rintro e w1 ⟨rfl,hb1⟩
  go_wp2_with fail
  refine(sJ c d hc hd _).mono ?_
  rintro e w2 ⟨rfl,hb2⟩
  go_wp2_with fail
  have k2:=bS (bS bel hb1) hb2
  have k3:=(k2.alloc k2.size (.cells (m08 (Rt.hi a b) (Rt.lo a b)) 234)).alloc (by have:=k2.size;simp;omega) (.cells (m08 (Rt.hi c d) (Rt.lo c d)) 234)
  have e2:=fun i=>cA (heap_alloc_new (w2.alloc (.cells (m08 (Rt.hi a b) (Rt.lo a b)) 234)) (.cells (m08 (Rt.hi c d) (Rt.lo c d)) 234)) i
  have e1:=fun i=>((Below.refl _ (w2.alloc (.cells (m08 (Rt.hi a b) (Rt.lo a b)) 234))).alloc nr (.cells (m08 (Rt.hi c d) (Rt.lo c d)) 234)).cell (p:=⟨w2.heap.size,i,none⟩) (by simp)
  have c0:=(e1 0).trans (cA (heap_alloc_new w2 _) 0)
  have c1:=(e1 1).trans (cA (heap_alloc_new w2 _) 1)
  have d0:=e2 0
  have d1:=e2 1
  rw[World.size_alloc]at d0 d1
  clear e1 e2 hb1 hb2 k2 bel
  generalize(w2.alloc (.cells (m08 (Rt.hi a b) (Rt.lo a b)) 234)).alloc (.cells (m08 (Rt.hi c d) (Rt.lo c d)) 234)=W at k3 c0 c1 d0 d1⊢
  simp only[List.getElem?_toArray,List.getElem?_cons_zero,List.getElem?_cons_succ]at c0 c1 d0 d1
  cases t
  ·go_quiet ((go_at_call 152;exact aDh _ _ _ _ W _ _ _ c0 c1 d0 d1))
   go_wp2
   go_ret
   exact⟨fZ (K2.out.trans MM.out.symm),k3.trans (cV _ _ _)⟩
  ·obtain rfl:=K3 rfl
   go_quiet (fail)
   go_wp2
   go_ret
   exact⟨fZ MM.out.symm,k3.trans (cV _ _ _)⟩
end Rw
end Go.Proofs.YtbbhinehcncmeaaGreat
