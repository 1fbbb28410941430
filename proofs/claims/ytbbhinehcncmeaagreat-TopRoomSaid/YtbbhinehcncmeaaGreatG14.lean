/- A part of the proof of the laws of the top: TpDel. No condition. -/
import Derived.Test.YtbbhinehcncmeaaGreatG12
namespace Go.Proofs.YtbbhinehcncmeaaGreat
open Go.RowKit
set_option linter.unusedSimpArgs false
set_option linter.unusedVariables false
set_option linter.unusedSectionVars false
set_option maxRecDepth 100000
set_option maxHeartbeats 4000000
structure RdF (w:World) (Inv:Nat->World->Prop) (rb:Nat) (j:Nat) (wr:World):Prop where
 inv:Inv j wr
 row:wr.heap[rb]?=w.heap[rb]?
 size:w.heap.size<=wr.heap.size
def yN (g:Nat) (pre post:Array Value) (rb:Nat) (l:List Tp.V) (Inv:Nat->World->Prop) (r:Nat->Bool):Prop:=
 (∀args w,(callFunc g args).run Tryz.prog w=.ok (.enter g args) w)/\
 ∀k (hk:k<l.length) W,Inv k W->Calls Tryz.prog g (pre.push (.agg (aH l[k]).toArray)++post) W fun e W'=>e=.returned (.bool (r k))/\Inv (k+1) W'/\W'.heap[rb]?=W.heap[rb]?/\W.heap.size<=W'.heap.size/\∀W0 o,W=W0.alloc o->Inv k W0->W'.heap[W0.heap.size]?=some o
theorem tO (g:Nat)(pre post:Array Value)(rb c n:Nat)(l:List Tp.V)(cur:Array Value)(t:TypeId)(Inv:Nat->World->Prop)(r:Nat->Bool)(w:World)(hcl:yN g pre post rb l Inv r)(hn:l.length=n)(hc:n<=c)(hcm:c<=9223372036854775807)(hrow:w.heap[rb]?=some (.cells cur t (0,0)))(hcur:cur.toList.take (n*4)=l.flatMap aH)(h0:Inv 0 w):
  Calls Tryz.prog 122 #[.slice (some (m00 rb)) n c,.func (.func g) pre post] w fun e w'=>
   ∃k:Nat,k<=n/\(∀i,i<k->r i=false)/\(if k<n then r k=true/\e=.returned (m30 k)/\Inv (k+1) w' else e=.returned (m30 (-1))/\Inv k w')/\w'.heap[rb]?=w.heap[rb]?/\w.heap.size<=w'.heap.size:=by
 have hm:n<=9223372036854775807:=by omega
 obtain⟨eg,hcall⟩:=hcl
 go_enter Tryz.func122,Tryz.ntmps122
 go_wp2_with fail
 go_loopw [8] (fun i wr=>∃j:Nat,j<=n/\i=.int .i64 j/\(∀i,i<j->r i=false)/\RdF w Inv rb j wr) (fun i _=>n-(intOf i).toNat)
 case atStart=>exact⟨0,Nat.zero_le _,rfl,fun i hi=>absurd hi (Nat.not_lt_zero _),h0,rfl,Nat.le_refl _⟩
 case round=>
  obtain⟨j,hj,rfl,hpre,hR⟩:=hrel
  by_cases hjn:j<n
  ·have hjl:j<l.length:=by omega
   have hx:∀i,i<4->wr.cell? (m09 rb (j*4+i))=(aH l[j])[i]?:=by
    intro i hi
    rw[cA (hR.row.trans hrow)]
    have e1:=dZ (fun x=>cW x) l j i hjl hi
    rw[<-hcur,List.getElem?_take_of_lt (by omega),Array.getElem?_toList]at e1
    exact e1
   have hcj:=hcall j hjl wr hR.inv
   obtain⟨⟨x0,x1,x2,x3⟩,hX⟩:∃x,l[j]=x:=⟨_,rfl⟩
   rw[hX]at hx hcj
   have c0:wr.cell? (m09 rb (j*4))=some (.int .i64 x0):=hx 0 (by omega)
   have c1:wr.cell? (m09 rb (j*4+1))=some (.int .i64 x1):=hx 1 (by omega)
   have c2:wr.cell? (m09 rb (j*4+2))=some (.int .u64 x2):=hx 2 (by omega)
   have c3:wr.cell? (m09 rb (j*4+3))=some (.int .u64 x3):=hx 3 (by omega)
   have k0:(0:Int)<=j:=by omega
   have k1:(j:Int)<n:=by omega
   have HC:=zH hcj
   have HPRE:=zH hpre
   have HR:=zH hR
   clear hx hX hcj hcall hpre hR
   cases hr:r j with
   |false=>
    have hpre2:∀i,i<j+1->r i=false:=fun i hi=>by
     rcases Nat.lt_succ_iff_lt_or_eq.1 hi with h|rfl
     ·exact HPRE.out i h
     ·exact hr
    have HPRE2:=zH hpre2
    clear hpre2
    go_wp2_with (refine HC.out.mono ?_;rintro e w2 ⟨rfl,hI,hb,hs,-⟩;rw[hr])
    exact⟨⟨j+1,by omega,by go_num,HPRE2.out,hI,hb.trans HR.out.row,Nat.le_trans HR.out.size hs⟩,by simp[intOf];omega⟩
   |true=>
    go_wp2_with (refine HC.out.mono ?_;rintro e w2 ⟨rfl,hI,hb,hs,-⟩;rw[hr])
    go_ret
    refine⟨j,hj,HPRE.out,?_,hb.trans HR.out.row,Nat.le_trans HR.out.size hs⟩
    rw[if_pos hjn]
    exact⟨hr,rfl,hI⟩
  ·obtain rfl:j=n:=by omega
   go_wp2
   go_ret
   refine⟨j,Nat.le_refl _,hpre,?_,hR.row,hR.size⟩
   rw[if_neg (Nat.lt_irrefl _)]
   exact⟨rfl,hR.inv⟩
def uO (g:Nat) (pre post:Array Value) (rb:Nat) (l:List Tp.B) (Inv:Nat->World->Prop) (r:Nat->Bool):Prop:=
 (∀args w,(callFunc g args).run Tryz.prog w=.ok (.enter g args) w)/\
 ∀k (hk:k<l.length) W,Inv k W->Calls Tryz.prog g (pre.push (.agg (aK l[k]).toArray)++post) W fun e W'=>e=.returned (.bool (r k))/\Inv (k+1) W'/\W'.heap[rb]?=W.heap[rb]?/\W.heap.size<=W'.heap.size/\∀W0 o,W=W0.alloc o->Inv k W0->W'.heap[W0.heap.size]?=some o
theorem rI (g:Nat)(pre post:Array Value)(rb c n:Nat)(l:List Tp.B)(cur:Array Value)(t:TypeId)(Inv:Nat->World->Prop)(r:Nat->Bool)(w:World)(hcl:uO g pre post rb l Inv r)(hn:l.length=n)(hc:n<=c)(hcm:c<=9223372036854775807)(hrow:w.heap[rb]?=some (.cells cur t (0,0)))(hcur:cur.toList.take (n*5)=l.flatMap aK)(h0:Inv 0 w):
  Calls Tryz.prog 149 #[.slice (some (m00 rb)) n c,.func (.func g) pre post] w fun e w'=>
   ∃k:Nat,k<=n/\(∀i,i<k->r i=false)/\(if k<n then r k=true/\e=.returned (m30 k)/\Inv (k+1) w' else e=.returned (m30 (-1))/\Inv k w')/\w'.heap[rb]?=w.heap[rb]?/\w.heap.size<=w'.heap.size:=by
 have hm:n<=9223372036854775807:=by omega
 obtain⟨eg,hcall⟩:=hcl
 go_enter Tryz.func149,Tryz.ntmps149
 go_wp2_with fail
 go_loopw [8] (fun i wr=>∃j:Nat,j<=n/\i=.int .i64 j/\(∀i,i<j->r i=false)/\RdF w Inv rb j wr) (fun i _=>n-(intOf i).toNat)
 case atStart=>exact⟨0,Nat.zero_le _,rfl,fun i hi=>absurd hi (Nat.not_lt_zero _),h0,rfl,Nat.le_refl _⟩
 case round=>
  obtain⟨j,hj,rfl,hpre,hR⟩:=hrel
  by_cases hjn:j<n
  ·have hjl:j<l.length:=by omega
   have hx:∀i,i<5->wr.cell? (m09 rb (j*5+i))=(aK l[j])[i]?:=by
    intro i hi
    rw[cA (hR.row.trans hrow)]
    have e1:=dZ (fun x=>cY x) l j i hjl hi
    rw[<-hcur,List.getElem?_take_of_lt (by omega),Array.getElem?_toList]at e1
    exact e1
   have hcj:=hcall j hjl wr hR.inv
   obtain⟨⟨x0,x1,x2,x3,x4⟩,hX⟩:∃x,l[j]=x:=⟨_,rfl⟩
   rw[hX]at hx hcj
   have c0:wr.cell? (m09 rb (j*5))=some (.int .i64 x0):=hx 0 (by omega)
   have c1:wr.cell? (m09 rb (j*5+1))=some (.int .i64 x1):=hx 1 (by omega)
   have c2:wr.cell? (m09 rb (j*5+2))=some (.int .u64 x2):=hx 2 (by omega)
   have c3:wr.cell? (m09 rb (j*5+3))=some (.int .u64 x3):=hx 3 (by omega)
   have c4:wr.cell? (m09 rb (j*5+4))=some (.int .u64 x4):=hx 4 (by omega)
   have k0:(0:Int)<=j:=by omega
   have k1:(j:Int)<n:=by omega
   have HC:=zH hcj
   have HPRE:=zH hpre
   have HR:=zH hR
   clear hx hX hcj hcall hpre hR
   cases hr:r j with
   |false=>
    have hpre2:∀i,i<j+1->r i=false:=fun i hi=>by
     rcases Nat.lt_succ_iff_lt_or_eq.1 hi with h|rfl
     ·exact HPRE.out i h
     ·exact hr
    have HPRE2:=zH hpre2
    clear hpre2
    go_wp2_with (refine HC.out.mono ?_;rintro e w2 ⟨rfl,hI,hb,hs,-⟩;rw[hr])
    exact⟨⟨j+1,by omega,by go_num,HPRE2.out,hI,hb.trans HR.out.row,Nat.le_trans HR.out.size hs⟩,by simp[intOf];omega⟩
   |true=>
    go_wp2_with (refine HC.out.mono ?_;rintro e w2 ⟨rfl,hI,hb,hs,-⟩;rw[hr])
    go_ret
    refine⟨j,hj,HPRE.out,?_,hb.trans HR.out.row,Nat.le_trans HR.out.size hs⟩
    rw[if_pos hjn]
    exact⟨hr,rfl,hI⟩
  ·obtain rfl:j=n:=by omega
   go_wp2
   go_ret
   refine⟨j,Nat.le_refl _,hpre,?_,hR.row,hR.size⟩
   rw[if_neg (Nat.lt_irrefl _)]
   exact⟨rfl,hR.inv⟩
namespace Tp
def kept {α:Type} (r:Nat->Bool):Nat->List α->List α
 |_,[]=>[]
 |i,x::xs=>if r i then kept r (i+1) xs else x::kept r (i+1) xs
theorem aDr {α:Type}(r:Nat->Bool)(x:α):∀(xs:List α) (i:Nat),kept r i (xs++[x])=kept r i xs++(if r (i+xs.length)then[]else[x]):=by
 intro xs
 induction xs with
 |nil=>intro i;simp[kept]
 |cons y ys ih=>
  intro i
  rw[List.cons_append,kept,kept,ih,List.length_cons,show i+1+ys.length=i+(ys.length+1) by omega]
  split<;>rfl
theorem iV {α:Type}(r:Nat->Bool)(l:List α)(j:Nat)(h:j<l.length):kept r 0 (l.take (j+1))=kept r 0 (l.take j)++(if r j then[]else[l[j]]):=by
 rw[List.take_succ_eq_append_getElem h,aDr,List.length_take,Nat.zero_add,Nat.min_eq_left (Nat.le_of_lt h)]
theorem kS {α:Type}(r:Nat->Bool):∀(l:List α) (i:Nat),(∀k,i<=k->k<i+l.length->r k=false)->kept r i l=l:=by
 intro l
 induction l with
 |nil=>intro i _;rfl
 |cons x xs ih=>
  intro i h
  rw[kept,h i nr (by simp),ih (i+1) (fun k h1 h2=>h k (by omega) (by rw[List.length_cons];omega))]
  rfl
end Tp
theorem pZ (r:Nat->Bool):∀n,∃k,k<=n/\(∀i,i<k->r i=false)/\(k<n->r k=true):=by
 intro n
 induction n with
 |zero=>exact⟨0,Nat.le_refl _,fun i hi=>absurd hi (Nat.not_lt_zero _),fun h=>absurd h (Nat.lt_irrefl _)⟩
 |succ n ih=>
  obtain⟨k,hk,hp,ht⟩:=ih
  by_cases h:k<n
  ·exact⟨k,by omega,hp,fun _=>ht h⟩
  ·obtain rfl:k=n:=by omega
   cases hr:r k with
   |true=>exact⟨k,by omega,hp,fun _=>hr⟩
   |false=>
    refine⟨k+1,Nat.le_refl _,fun i hi=>?_,fun h=>absurd h (Nat.lt_irrefl _)⟩
    rcases Nat.lt_succ_iff_lt_or_eq.1 hi with h|rfl
    ·exact hp i h
    ·exact hr
theorem jN (b:Nat)(t:TypeId)(fr:Nat×Nat):∀(vs:List Value) (o:Nat) (w:World) (cur:Array Value),w.heap[b]?=some (.cells cur t fr)->
  ∃cur',(w.setCells b o vs).heap[b]?=some (.cells cur' t fr)/\cur'.size=cur.size/\∀i,i<o->cur'[i]?=cur[i]?:=by
 intro vs
 induction vs with
 |nil=>intro o w cur h;exact⟨cur,h,rfl,fun _ _=>rfl⟩
 |cons v r ih=>
  intro o w cur h
  have h1:(w.setCell (m09 b o) v).heap[b]?=some (.cells (cur.setIfInBounds o v) t fr):=by simp[World.setCell,Array.getElem?_modify,h]
  obtain⟨cur',h2,h3,h4⟩:=ih (o+1) _ _ h1
  refine⟨cur',h2,by rw[h3];simp,fun i hi=>?_⟩
  rw[h4 i (by omega),Array.getElem?_setIfInBounds_ne (by omega)]
theorem eU (b:Nat):∀(vs:List Value) (o:Nat) (w:World),w.grownBy (w.setCells b o vs) (some b):=by
 intro vs
 induction vs with
 |nil=>intro o w;exact⟨rfl,rfl,rfl,Nat.le_refl _,fun _ _ _=>rfl⟩
 |cons v r ih=>
  intro o w
  have h1:w.grownBy (w.setCell (m09 b o) v) (some b):=by
   refine⟨rfl,rfl,rfl,by simp[World.setCell],fun k hk hne=>?_⟩
   exact Below.heap_setCell _ _ _ _ (fun e=>hne (by rw[e]))
  exact eP h1 (ih (o+1) _)
theorem iQ {P:Program}(w:World)(t e:TypeId)(z:Value)(k:Nat)(ht:P.underlying t=some (.slice e))(hv:∀w,(zeroValue e).run P w=.ok z w)(hk:z.cells.size=k)(h1:∀v∈z.cells.toList,v.oneCell'=true)(hk0:0<k)(b o n c:Nat)(hn:0<n)(hc:∀j,j<n*k->(w.cell? (m09 b (o+j))).isSome=true)(hf:∀j,j<n*k->w.frozen? (m09 b (o+j))=false):
  ∃vs:List Value,vs.length=n*k/\∀ty,(Builtin.clear_ #[t] ty #[.slice (some (m09 b o)) n c]).run P w=.ok (.tuple #[]) (w.setCells b o vs):=by
 have hl:(Builtin.zeroCells z.cells n).toList.length=n*k:=by simp[Builtin.zeroCells,hk]
 have hst:=run_storeCells_cells (P:=P) b o (Builtin.zeroCells z.cells n).toList 0 w (by rw[hl];simpa using hc) (by rw[hl];simpa using hf) (by
  intro v hv'
  simp only[Builtin.zeroCells,Array.toList_map,List.mem_map,Array.toList_range,List.mem_range]at hv'
  obtain⟨i,hi,rfl⟩:=hv'
  have hlt:i%z.cells.size<z.cells.size:=Nat.mod_lt _ (by omega)
  rw[getElem!_pos z.cells _ hlt]
  exact h1 _ (by simp))
 simp only[Nat.add_zero]at hst
 refine⟨_,hl,fun ty=>?_⟩
 obtain⟨m,rfl⟩:∃m,n=m+1:=⟨n-1,by omega⟩
 simp[Builtin.clear_,run_underlying ht,hv,hst]
theorem aFn (w:World):(zeroValue 84).run Tryz.prog w=.ok (.agg (m58)) w:=by kernel_rfl
theorem aAm (w:World):(zeroValue 56).run Tryz.prog w=.ok (.agg (m53)) w:=by kernel_rfl
structure iI {α:Type} (f:α->List Value) (k:Nat) (l:List α) (r:Nat->Bool) (cur cur':Array Value) (i j:Nat):Prop where
 size:cur'.size=cur.size
 at_:i=(Tp.kept r 0 (l.take j)).length
 lt:i<j
 low:∀s,s<i->∀u,u<k->cur'[s*k+u]?=((Tp.kept r 0 (l.take j))[s]?).bind fun x=>(f x)[u]?
 high:∀s,j<=s->s<l.length->∀u,u<k->cur'[s*k+u]?=(l[s]?).bind fun x=>(f x)[u]?
theorem iI.skip {α:Type}{f:α->List Value}{k:Nat}{l:List α}{r:Nat->Bool}{cur cur':Array Value}{i j:Nat}(h:iI f k l r cur cur' i j)(hj:j<l.length)(hr:r j=true):iI f k l r cur cur' i (j+1):=by
 have e:Tp.kept r 0 (l.take (j+1))=Tp.kept r 0 (l.take j):=by rw[Tp.iV r l j hj,if_pos hr,List.append_nil]
 exact⟨h.size,by rw[e];exact h.at_,by have:=h.lt;omega,by rw[e];exact h.low,fun s h1 h2=>h.high s (by omega) h2⟩
theorem iI.done {α:Type}{f:α->List Value}{k:Nat}(hk:∀x,(f x).length=k)(hk0:0<k){l:List α}{r:Nat->Bool}{cur cur' cur2:Array Value}{i:Nat}(h:iI f k l r cur cur' i l.length)(h2:∀t,t<i*k->cur2[t]?=cur'[t]?):cur2.toList.take (i*k)=(Tp.kept r 0 l).flatMap f:=by
 have hl:=h.low
 have ha:=h.at_
 rw[List.take_length]at hl ha
 apply List.ext_getElem?
 intro t
 rcases Nat.lt_or_ge t (i*k)with ht|ht
 ·have h3:t/k<i:=(Nat.div_lt_iff_lt_mul hk0).2 ht
  have h4:=hl (t/k) h3 (t%k) (Nat.mod_lt _ hk0)
  have h5:t/k*k+t%k=t:=Nat.div_add_mod' t k
  have h6:t/k<(Tp.kept r 0 l).length:=by rw[<-ha];exact h3
  have h7:=dZ hk (Tp.kept r 0 l) (t/k) (t%k) h6 (Nat.mod_lt _ hk0)
  rw[h5]at h4 h7
  rw[h7,List.getElem?_take_of_lt ht,Array.getElem?_toList,h2 t ht,h4,List.getElem?_eq_getElem h6]
  rfl
 ·rw[List.getElem?_take_eq_none ht,List.getElem?_eq_none (by rw[bR hk,<-ha];exact ht)]
theorem iI.putVote {l:List Tp.V}{r:Nat->Bool}{cur cur':Array Value}{i j:Nat}(h:iI aH 4 l r cur cur' i j)(hj:j<l.length)(hs:l.length*4<=cur.size)(hr:r j=false){w:World}{rb:Nat}{t:TypeId}(hrow:w.heap[rb]?=some (.cells cur' t (0,0))):
  ∃cur2,(w.setCells rb (i*4) (aH l[j])).heap[rb]?=some (.cells cur2 t (0,0))/\iI aH 4 l r cur cur2 (i+1) (j+1):=by
 have hlt:=h.lt
 have e:Tp.kept r 0 (l.take (j+1))=Tp.kept r 0 (l.take j)++[l[j]]:=by rw[Tp.iV r l j hj,hr];rfl
 obtain⟨⟨x0,x1,x2,x3⟩,hX⟩:∃x,l[j]=x:=⟨_,rfl⟩
 rw[hX]at e⊢
 refine⟨((((cur').setIfInBounds (i*4) (m30 x0)).setIfInBounds (i*4+1) (m30 x1)).setIfInBounds (i*4+2) (m68 x2)).setIfInBounds (i*4+3) (m68 x3),by simp[aH,World.setCells,World.setCell,Array.getElem?_modify,hrow],?_⟩
 have hsz:=h.size
 refine⟨by simp[hsz],by rw[e,List.length_append,<-h.at_];rfl,by omega,?_,?_⟩
 ·intro s hs' u hu
  simp only[Array.getElem?_setIfInBounds,Array.size_setIfInBounds,hsz]
  by_cases hsi:s<i
  ·rw[e,List.getElem?_append_left (by rw[<-h.at_];exact hsi)]
   rw[if_neg (by omega),if_neg (by omega),if_neg (by omega),if_neg (by omega)]
   exact h.low s hsi u hu
  ·obtain rfl:s=i:=by omega
   rw[e,List.getElem?_append_right (by rw[<-h.at_];exact Nat.le_refl _),<-h.at_,Nat.sub_self]
   simp only[List.getElem?_cons_zero,Option.bind_some]
   match u,hu with
   |0,_=>simp[aH];omega
   |1,_=>simp[aH];omega
   |2,_=>simp[aH];omega
   |3,_=>simp[aH];omega
 ·intro s h1 h2 u hu
  simp only[Array.getElem?_setIfInBounds,Array.size_setIfInBounds,hsz]
  rw[if_neg (by omega),if_neg (by omega),if_neg (by omega),if_neg (by omega)]
  exact h.high s (by omega) h2 u hu
theorem oE (g:Nat)(pre post:Array Value)(rb c n:Nat)(l:List Tp.V)(cur:Array Value)(t:TypeId)(Inv:Nat->World->Prop)(r:Nat->Bool)(w:World)(hcl:yN g pre post rb l Inv r)(hsep:∀k W W',Inv k W->W.grownBy W' (some rb)->Inv k W')(hn:l.length=n)(hc:n<=c)(hcm:c<=9223372036854775807)(hrow:w.heap[rb]?=some (.cells cur t (0,0)))(hcur:cur.toList.take (n*4)=l.flatMap aH)(h0:Inv 0 w):
  Calls Tryz.prog 105 #[.slice (some (m00 rb)) n c,.func (.func g) pre post] w fun e w'=>
   ∃cur',e=.returned (.slice (some (m00 rb)) (Tp.kept r 0 l).length c)/\w'.heap[rb]?=some (.cells cur' t (0,0))/\cur'.size=cur.size/\cur'.toList.take ((Tp.kept r 0 l).length*4)=(Tp.kept r 0 l).flatMap aH/\Inv n w'/\w.heap.size<=w'.heap.size:=by
 have hm:n<=9223372036854775807:=by omega
 have hrl:rb<w.heap.size:=(gS hrow)
 have hcs:n*4<=cur.size:=by
  have e1:=congrArg List.length hcur
  rw[bR (fun x=>cW x),List.length_take,hn,Array.length_toList]at e1
  omega
 have hcell:∀s,s<l.length->∀u,u<4->cur[s*4+u]?=(l[s]?).bind fun x=>(aH x)[u]?:=by
  intro s hs u hu
  have e1:=dZ (fun x=>cW x) l s u hs hu
  rw[<-hcur,List.getElem?_take_of_lt (by omega),Array.getElem?_toList]at e1
  rw[e1,List.getElem?_eq_getElem hs]
  rfl
 have hidx:=tO g pre post rb c n l cur t Inv r w hcl hn hc hcm hrow hcur h0
 have HI:=zH hidx
 have HSEP:=zH hsep
 have HCELL:=zH hcell
 have HCUR:=zH hcur
 have HCL:=zH hcl.2
 have HN:=zH hn
 obtain⟨eg,-⟩:=hcl
 clear hidx hsep hcell hcur hn
 obtain⟨k,hk,hpre,hkt⟩:=pZ r n
 have hidx2:Calls Tryz.prog 122 #[.slice (some (m00 rb)) n c,.func (.func g) pre post] w fun e w'=>
   (if k<n then e=.returned (m30 k)/\Inv (k+1) w' else e=.returned (m30 (-1))/\Inv k w')/\w'.heap[rb]?=w.heap[rb]?/\w.heap.size<=w'.heap.size:=by
  refine HI.out.mono ?_
  rintro e w' ⟨k',hk',hpre',hres,h1,h2⟩
  obtain rfl:k'=k:=by
   rcases Nat.lt_trichotomy k' k with h|h|h
   ·rw[if_pos (by omega)]at hres
    rw[hpre k' h]at hres
    cases hres.1
   ·exact h
   ·rw[hpre' k h]at hkt
    cases hkt (by omega)
  refine⟨?_,h1,h2⟩
  split at hres
  ·rename_i h;rw[if_pos h];exact hres.2
  ·rename_i h;rw[if_neg h];exact hres
 have HI2:=zH hidx2
 have HPRE:=zH hpre
 have HKT:=zH hkt
 clear hidx2 hpre hkt HI
 by_cases hkn:k<n
 ·have hi2:=HI2.out
  simp only[hkn,if_true]at hi2
  have HI3:=zH hi2
  have hne:((k:Int)== -1)=false:=beq_eq_false_iff_ne.2 (by omega)
  clear hi2 HI2
  go_enter Tryz.func105,Tryz.ntmps105
  go_wp2_with (go_at_call 122;refine HI3.out.mono ?_;rintro e w1 ⟨⟨rfl,hinv⟩,hrow1,hsz1⟩)
  have hrow1b:=hrow1.trans hrow
  have hkl:Tp.kept r 0 (l.take k)=l.take k:=Tp.kS r _ 0 (fun i _ hi=>HPRE.out i (by rw[List.length_take]at hi;omega))
  have hrow0:iI aH 4 l r cur cur k (k+1):=by
   have hkl1:Tp.kept r 0 (l.take (k+1))=l.take k:=by rw[Tp.iV r l k (by rw[HN.out];exact hkn),HKT.out hkn,if_pos rfl,List.append_nil,hkl]
   refine⟨rfl,by rw[hkl1,List.length_take,HN.out];omega,Nat.lt_succ_self _,fun s hs u hu=>?_,fun s _ hs u hu=>HCELL.out s hs u hu⟩
   rw[hkl1,List.getElem?_take_of_lt hs]
   exact HCELL.out s (by rw[HN.out];omega) u hu
  have HR0:=zH hrow0
  clear hkl hrow0
  go_loopw [5,6] (fun i j wr=>∃(ii jj:Nat) (cur':Array Value),i=.int .i64 ii/\j=.int .i64 jj/\jj<=n/\wr.heap[rb]?=some (.cells cur' t (0,0))/\iI aH 4 l r cur cur' ii jj/\Inv jj wr/\w.heap.size<=wr.heap.size) (fun _ j _=>n-(intOf j).toNat)
  case atStart=>exact⟨k,k+1,cur,rfl,by go_num,by omega,hrow1b,HR0.out,hinv,hsz1⟩
  case round=>
   obtain⟨ii,j,cur',rfl,rfl,hj,hrw,hD,hinv,hsz⟩:=hrel
   have hlt:=hD.lt
   have hDs:=hD.size
   have HD:=zH hD
   clear hrow1 hrow1b hsz1
   by_cases hjn:j<n
   ·have hjl:j<l.length:=by rw[HN.out];exact hjn
    have hx:∀u,u<4->wr.cell? (m09 rb (j*4+u))=(aH l[j])[u]?:=by
     intro u hu
     rw[cA hrw,hD.high j nr hjl u hu,List.getElem?_eq_getElem hjl]
     rfl
    have hcj:=fun(o:Obj)=>HCL.out j hjl (wr.alloc o) (HSEP.out _ _ _ hinv (fA ((Below.refl _ _).alloc nr _) _))
    have hput:=fun(hr:r j=false) (W:World) (hW:W.heap[rb]?=some (.cells cur' t (0,0)))=>hD.putVote hjl (by rw[HN.out];exact hcs) hr hW
    have hskip:=fun(hr:r j=true)=>hD.skip hjl hr
    obtain⟨⟨x0,x1,x2,x3⟩,hX⟩:∃x,l[j]=x:=⟨_,rfl⟩
    rw[hX]at hx hcj hput
    have c0:wr.cell? (m09 rb (j*4))=some (.int .i64 x0):=hx 0 (by omega)
    have c1:wr.cell? (m09 rb (j*4+1))=some (.int .i64 x1):=hx 1 (by omega)
    have c2:wr.cell? (m09 rb (j*4+2))=some (.int .u64 x2):=hx 2 (by omega)
    have c3:wr.cell? (m09 rb (j*4+3))=some (.int .u64 x3):=hx 3 (by omega)
    have k0:(0:Int)<=j:=by omega
    have k1:(j:Int)<n:=by omega
    have i0:(0:Int)<=ii:=by omega
    have i1:(ii:Int)<n:=by omega
    have HC:=zH hcj
    have HP:=zH hput
    have HS:=zH hskip
    have HINV:=zH hinv
    have hrbl:rb<wr.heap.size:=(gS hrw)
    clear hx hX hcj hput hskip hD hinv
    cases hr:r j with
    |true=>
     go_wp2_with (refine(HC.out _).mono ?_;rintro e w2 ⟨rfl,hI,hb,hs,-⟩;rw[hr])
     have hb2:=hb.trans ((Below.heap_alloc wr _ rb hrbl).trans hrw)
     rw[World.size_alloc]at hs
     exact⟨⟨ii,j+1,cur',rfl,by go_num,by omega,hb2,HS.out hr,hI,by omega⟩,by simp[intOf];omega⟩
    |false=>
     have hcz:∀u,u<4->∃v,cur'[ii*4+u]?=some v:=fun u hu=>⟨_,Array.getElem?_eq_getElem (by omega)⟩
     have HCZ:=zH hcz
     clear hcz
     go_wp2_with (refine(HC.out _).mono ?_;rintro e w2 ⟨rfl,hI,hb,hs,hbx⟩;rw[hr];have bx2:=hbx wr _ rfl HINV.out;have row2:=hb.trans ((Below.heap_alloc wr _ rb hrbl).trans hrw);have b0:w2.cell? (m07 wr)=some (.int .i64 x0):=cA bx2 0;have b1:w2.cell? (m14 wr)=some (.int .i64 x1):=cA bx2 1;have b2:w2.cell? (m17 wr)=some (.int .u64 x2):=cA bx2 2;have b3:w2.cell? (m19 wr)=some (.int .u64 x3):=cA bx2 3;obtain⟨z0,hz0⟩:=HCZ.out 0 (by omega);have e0:w2.cell? (m09 rb (ii*4))=some z0:=(cA row2 _).trans hz0;have f0:w2.frozen? (m09 rb (ii*4))=false:=cH row2 _;obtain⟨z1,hz1⟩:=HCZ.out 1 (by omega);have e1:w2.cell? (m09 rb (ii*4+1))=some z1:=(cA row2 _).trans hz1;have f1:w2.frozen? (m09 rb (ii*4+1))=false:=cH row2 _;obtain⟨z2,hz2⟩:=HCZ.out 2 (by omega);have e2:w2.cell? (m09 rb (ii*4+2))=some z2:=(cA row2 _).trans hz2;have f2:w2.frozen? (m09 rb (ii*4+2))=false:=cH row2 _;obtain⟨z3,hz3⟩:=HCZ.out 3 (by omega);have e3:w2.cell? (m09 rb (ii*4+3))=some z3:=(cA row2 _).trans hz3;have f3:w2.frozen? (m09 rb (ii*4+3))=false:=cH row2 _)
     obtain⟨cur2,q1,q2⟩:=HP.out hr w2 row2
     rw[World.size_alloc]at hs
     have hg:=eU rb (aH ⟨x0,x1,x2,x3⟩) (ii*4) w2
     have hgs:=eQ hg
     exact⟨⟨ii+1,j+1,cur2,by go_num,by go_num,by omega,q1,q2,HSEP.out _ _ _ hI hg,Nat.le_trans (by omega) hgs⟩,by simp[intOf];omega⟩
   ·obtain rfl:j=n:=by omega
    have hz:∃z,(∀w,(zeroValue 84).run Tryz.prog w=.ok z w)/\z.cells.size=4/\∀v∈z.cells.toList,v.oneCell'=true:=⟨_,fun w=>aFn w,rfl,by simp[Value.cells,Value.oneCell']⟩
    obtain⟨z,hz0,hz1,hz2⟩:=hz
    obtain⟨vs,hvs,hclr⟩:=iQ (P:=Tryz.prog) wr 36 84 z 4 Tryz.underlying36 hz0 hz1 hz2 (by omega) rb (ii*4) (j-ii) (c-ii) (by omega) (fun u hu=>by rw[cA hrw,Array.getElem?_eq_getElem (by rw[hDs];have:=Nat.sub_mul j ii 4;omega)];rfl) (fun u hu=>cH hrw _)
    have i0:(0:Int)<=ii:=by omega
    have i1:(ii:Int)<j:=by omega
    obtain⟨cur2,q1,q2,q3⟩:=jN rb t (0,0) vs (ii*4) wr cur' hrw
    have hg:=eU rb vs (ii*4) wr
    have Q1:=zH q1
    have Q2:=zH q2
    have Q3:=zH q3
    have HG:=zH hg
    have HINV:=zH hinv
    clear q1 q2 q3 hg hD hinv hz0 hz1 hz2 hvs
    go_wp2
    go_ret
    have hD2:iI aH 4 l r cur cur' ii l.length:=by
     have:=HD.out
     rw[<-HN.out]at this
     exact this
    have hat:ii=(Tp.kept r 0 l).length:=by
     have:=hD2.at_
     rwa [List.take_length]at this
    refine⟨cur2,by rw[<-hat];rfl,Q1.out,Q2.out.trans hDs,?_,HSEP.out _ _ _ HINV.out HG.out,Nat.le_trans hsz (eQ HG.out)⟩
    rw[<-hat]
    exact iI.done (fun x=>cW x) (by omega) hD2 (fun t ht=>Q3.out t ht)
 ·obtain rfl:k=n:=by omega
  have hi2:=HI2.out
  simp only[Nat.lt_irrefl,if_false]at hi2
  have HI3:=zH hi2
  have hke:Tp.kept r 0 l=l:=Tp.kS r l 0 (fun i _ hi=>HPRE.out i (by rw[HN.out]at hi;omega))
  have HKE:=zH hke
  clear hi2 HI2 hke
  go_enter Tryz.func105,Tryz.ntmps105
  go_wp2_with (go_at_call 122;refine HI3.out.mono ?_;rintro e w1 ⟨⟨rfl,hinv⟩,hrow1,hsz1⟩)
  go_ret
  refine⟨cur,by rw[HKE.out,HN.out];rfl,hrow1.trans hrow,rfl,?_,hinv,hsz1⟩
  rw[HKE.out,HN.out]
  exact HCUR.out
theorem iI.putBlock {l:List Tp.B}{r:Nat->Bool}{cur cur':Array Value}{i j:Nat}(h:iI aK 5 l r cur cur' i j)(hj:j<l.length)(hs:l.length*5<=cur.size)(hr:r j=false){w:World}{rb:Nat}{t:TypeId}(hrow:w.heap[rb]?=some (.cells cur' t (0,0))):
  ∃cur2,(w.setCells rb (i*5) (aK l[j])).heap[rb]?=some (.cells cur2 t (0,0))/\iI aK 5 l r cur cur2 (i+1) (j+1):=by
 have hlt:=h.lt
 have e:Tp.kept r 0 (l.take (j+1))=Tp.kept r 0 (l.take j)++[l[j]]:=by rw[Tp.iV r l j hj,hr];rfl
 obtain⟨⟨x0,x1,x2,x3,x4⟩,hX⟩:∃x,l[j]=x:=⟨_,rfl⟩
 rw[hX]at e⊢
 refine⟨(((((cur').setIfInBounds (i*5) (m30 x0)).setIfInBounds (i*5+1) (m30 x1)).setIfInBounds (i*5+2) (m68 x2)).setIfInBounds (i*5+3) (m68 x3)).setIfInBounds (i*5+4) (m68 x4),by simp[aK,World.setCells,World.setCell,Array.getElem?_modify,hrow],?_⟩
 have hsz:=h.size
 refine⟨by simp[hsz],by rw[e,List.length_append,<-h.at_];rfl,by omega,?_,?_⟩
 ·intro s hs' u hu
  simp only[Array.getElem?_setIfInBounds,Array.size_setIfInBounds,hsz]
  by_cases hsi:s<i
  ·rw[e,List.getElem?_append_left (by rw[<-h.at_];exact hsi)]
   rw[if_neg (by omega),if_neg (by omega),if_neg (by omega),if_neg (by omega),if_neg (by omega)]
   exact h.low s hsi u hu
  ·obtain rfl:s=i:=by omega
   rw[e,List.getElem?_append_right (by rw[<-h.at_];exact Nat.le_refl _),<-h.at_,Nat.sub_self]
   simp only[List.getElem?_cons_zero,Option.bind_some]
   match u,hu with
   |0,_=>simp[aK];omega
   |1,_=>simp[aK];omega
   |2,_=>simp[aK];omega
   |3,_=>simp[aK];omega
   |4,_=>simp[aK];omega
 ·intro s h1 h2 u hu
  simp only[Array.getElem?_setIfInBounds,Array.size_setIfInBounds,hsz]
  rw[if_neg (by omega),if_neg (by omega),if_neg (by omega),if_neg (by omega),if_neg (by omega)]
  exact h.high s (by omega) h2 u hu
theorem tZ (g:Nat)(pre post:Array Value)(rb c n:Nat)(l:List Tp.B)(cur:Array Value)(t:TypeId)(Inv:Nat->World->Prop)(r:Nat->Bool)(w:World)(hcl:uO g pre post rb l Inv r)(hsep:∀k W W',Inv k W->W.grownBy W' (some rb)->Inv k W')(hn:l.length=n)(hc:n<=c)(hcm:c<=9223372036854775807)(hrow:w.heap[rb]?=some (.cells cur t (0,0)))(hcur:cur.toList.take (n*5)=l.flatMap aK)(h0:Inv 0 w):
  Calls Tryz.prog 132 #[.slice (some (m00 rb)) n c,.func (.func g) pre post] w fun e w'=>
   ∃cur',e=.returned (.slice (some (m00 rb)) (Tp.kept r 0 l).length c)/\w'.heap[rb]?=some (.cells cur' t (0,0))/\cur'.size=cur.size/\cur'.toList.take ((Tp.kept r 0 l).length*5)=(Tp.kept r 0 l).flatMap aK/\Inv n w'/\w.heap.size<=w'.heap.size:=by
 have hm:n<=9223372036854775807:=by omega
 have hrl:rb<w.heap.size:=(gS hrow)
 have hcs:n*5<=cur.size:=by
  have e1:=congrArg List.length hcur
  rw[bR (fun x=>cY x),List.length_take,hn,Array.length_toList]at e1
  omega
 have hcell:∀s,s<l.length->∀u,u<5->cur[s*5+u]?=(l[s]?).bind fun x=>(aK x)[u]?:=by
  intro s hs u hu
  have e1:=dZ (fun x=>cY x) l s u hs hu
  rw[<-hcur,List.getElem?_take_of_lt (by omega),Array.getElem?_toList]at e1
  rw[e1,List.getElem?_eq_getElem hs]
  rfl
 have hidx:=rI g pre post rb c n l cur t Inv r w hcl hn hc hcm hrow hcur h0
 have HI:=zH hidx
 have HSEP:=zH hsep
 have HCELL:=zH hcell
 have HCUR:=zH hcur
 have HCL:=zH hcl.2
 have HN:=zH hn
 obtain⟨eg,-⟩:=hcl
 clear hidx hsep hcell hcur hn
 obtain⟨k,hk,hpre,hkt⟩:=pZ r n
 have hidx2:Calls Tryz.prog 149 #[.slice (some (m00 rb)) n c,.func (.func g) pre post] w fun e w'=>
   (if k<n then e=.returned (m30 k)/\Inv (k+1) w' else e=.returned (m30 (-1))/\Inv k w')/\w'.heap[rb]?=w.heap[rb]?/\w.heap.size<=w'.heap.size:=by
  refine HI.out.mono ?_
  rintro e w' ⟨k',hk',hpre',hres,h1,h2⟩
  obtain rfl:k'=k:=by
   rcases Nat.lt_trichotomy k' k with h|h|h
   ·rw[if_pos (by omega)]at hres
    rw[hpre k' h]at hres
    cases hres.1
   ·exact h
   ·rw[hpre' k h]at hkt
    cases hkt (by omega)
  refine⟨?_,h1,h2⟩
  split at hres
  ·rename_i h;rw[if_pos h];exact hres.2
  ·rename_i h;rw[if_neg h];exact hres
 have HI2:=zH hidx2
 have HPRE:=zH hpre
 have HKT:=zH hkt
 clear hidx2 hpre hkt HI
 by_cases hkn:k<n
 ·have hi2:=HI2.out
  simp only[hkn,if_true]at hi2
  have HI3:=zH hi2
  have hne:((k:Int)== -1)=false:=beq_eq_false_iff_ne.2 (by omega)
  clear hi2 HI2
  go_enter Tryz.func132,Tryz.ntmps132
  go_wp2_with (go_at_call 149;refine HI3.out.mono ?_;rintro e w1 ⟨⟨rfl,hinv⟩,hrow1,hsz1⟩)
  have hrow1b:=hrow1.trans hrow
  have hkl:Tp.kept r 0 (l.take k)=l.take k:=Tp.kS r _ 0 (fun i _ hi=>HPRE.out i (by rw[List.length_take]at hi;omega))
  have hrow0:iI aK 5 l r cur cur k (k+1):=by
   have hkl1:Tp.kept r 0 (l.take (k+1))=l.take k:=by rw[Tp.iV r l k (by rw[HN.out];exact hkn),HKT.out hkn,if_pos rfl,List.append_nil,hkl]
   refine⟨rfl,by rw[hkl1,List.length_take,HN.out];omega,Nat.lt_succ_self _,fun s hs u hu=>?_,fun s _ hs u hu=>HCELL.out s hs u hu⟩
   rw[hkl1,List.getElem?_take_of_lt hs]
   exact HCELL.out s (by rw[HN.out];omega) u hu
  have HR0:=zH hrow0
  clear hkl hrow0
  go_loopw [5,6] (fun i j wr=>∃(ii jj:Nat) (cur':Array Value),i=.int .i64 ii/\j=.int .i64 jj/\jj<=n/\wr.heap[rb]?=some (.cells cur' t (0,0))/\iI aK 5 l r cur cur' ii jj/\Inv jj wr/\w.heap.size<=wr.heap.size) (fun _ j _=>n-(intOf j).toNat)
  case atStart=>exact⟨k,k+1,cur,rfl,by go_num,by omega,hrow1b,HR0.out,hinv,hsz1⟩
  case round=>
   obtain⟨ii,j,cur',rfl,rfl,hj,hrw,hD,hinv,hsz⟩:=hrel
   have hlt:=hD.lt
   have hDs:=hD.size
   have HD:=zH hD
   clear hrow1 hrow1b hsz1
   by_cases hjn:j<n
   ·have hjl:j<l.length:=by rw[HN.out];exact hjn
    have hx:∀u,u<5->wr.cell? (m09 rb (j*5+u))=(aK l[j])[u]?:=by
     intro u hu
     rw[cA hrw,hD.high j nr hjl u hu,List.getElem?_eq_getElem hjl]
     rfl
    have hcj:=fun(o:Obj)=>HCL.out j hjl (wr.alloc o) (HSEP.out _ _ _ hinv (fA ((Below.refl _ _).alloc nr _) _))
    have hput:=fun(hr:r j=false) (W:World) (hW:W.heap[rb]?=some (.cells cur' t (0,0)))=>hD.putBlock hjl (by rw[HN.out];exact hcs) hr hW
    have hskip:=fun(hr:r j=true)=>hD.skip hjl hr
    obtain⟨⟨x0,x1,x2,x3,x4⟩,hX⟩:∃x,l[j]=x:=⟨_,rfl⟩
    rw[hX]at hx hcj hput
    have c0:wr.cell? (m09 rb (j*5))=some (.int .i64 x0):=hx 0 (by omega)
    have c1:wr.cell? (m09 rb (j*5+1))=some (.int .i64 x1):=hx 1 (by omega)
    have c2:wr.cell? (m09 rb (j*5+2))=some (.int .u64 x2):=hx 2 (by omega)
    have c3:wr.cell? (m09 rb (j*5+3))=some (.int .u64 x3):=hx 3 (by omega)
    have c4:wr.cell? (m09 rb (j*5+4))=some (.int .u64 x4):=hx 4 (by omega)
    have k0:(0:Int)<=j:=by omega
    have k1:(j:Int)<n:=by omega
    have i0:(0:Int)<=ii:=by omega
    have i1:(ii:Int)<n:=by omega
    have HC:=zH hcj
    have HP:=zH hput
    have HS:=zH hskip
    have HINV:=zH hinv
    have hrbl:rb<wr.heap.size:=(gS hrw)
    clear hx hX hcj hput hskip hD hinv
    cases hr:r j with
    |true=>
     go_wp2_with (refine(HC.out _).mono ?_;rintro e w2 ⟨rfl,hI,hb,hs,-⟩;rw[hr])
     have hb2:=hb.trans ((Below.heap_alloc wr _ rb hrbl).trans hrw)
     rw[World.size_alloc]at hs
     exact⟨⟨ii,j+1,cur',rfl,by go_num,by omega,hb2,HS.out hr,hI,by omega⟩,by simp[intOf];omega⟩
    |false=>
     have hcz:∀u,u<5->∃v,cur'[ii*5+u]?=some v:=fun u hu=>⟨_,Array.getElem?_eq_getElem (by omega)⟩
     have HCZ:=zH hcz
     clear hcz
     go_wp2_with (refine(HC.out _).mono ?_;rintro e w2 ⟨rfl,hI,hb,hs,hbx⟩;rw[hr];have bx2:=hbx wr _ rfl HINV.out;have row2:=hb.trans ((Below.heap_alloc wr _ rb hrbl).trans hrw);have b0:w2.cell? (m07 wr)=some (.int .i64 x0):=cA bx2 0;have b1:w2.cell? (m14 wr)=some (.int .i64 x1):=cA bx2 1;have b2:w2.cell? (m17 wr)=some (.int .u64 x2):=cA bx2 2;have b3:w2.cell? (m19 wr)=some (.int .u64 x3):=cA bx2 3;have b4:w2.cell? (m27 wr)=some (.int .u64 x4):=cA bx2 4;obtain⟨z0,hz0⟩:=HCZ.out 0 (by omega);have e0:w2.cell? (m09 rb (ii*5))=some z0:=(cA row2 _).trans hz0;have f0:w2.frozen? (m09 rb (ii*5))=false:=cH row2 _;obtain⟨z1,hz1⟩:=HCZ.out 1 (by omega);have e1:w2.cell? (m09 rb (ii*5+1))=some z1:=(cA row2 _).trans hz1;have f1:w2.frozen? (m09 rb (ii*5+1))=false:=cH row2 _;obtain⟨z2,hz2⟩:=HCZ.out 2 (by omega);have e2:w2.cell? (m09 rb (ii*5+2))=some z2:=(cA row2 _).trans hz2;have f2:w2.frozen? (m09 rb (ii*5+2))=false:=cH row2 _;obtain⟨z3,hz3⟩:=HCZ.out 3 (by omega);have e3:w2.cell? (m09 rb (ii*5+3))=some z3:=(cA row2 _).trans hz3;have f3:w2.frozen? (m09 rb (ii*5+3))=false:=cH row2 _;obtain⟨z4,hz4⟩:=HCZ.out 4 (by omega);have e4:w2.cell? (m09 rb (ii*5+4))=some z4:=(cA row2 _).trans hz4;have f4:w2.frozen? (m09 rb (ii*5+4))=false:=cH row2 _)
     obtain⟨cur2,q1,q2⟩:=HP.out hr w2 row2
     rw[World.size_alloc]at hs
     have hg:=eU rb (aK ⟨x0,x1,x2,x3,x4⟩) (ii*5) w2
     have hgs:=eQ hg
     exact⟨⟨ii+1,j+1,cur2,by go_num,by go_num,by omega,q1,q2,HSEP.out _ _ _ hI hg,Nat.le_trans (by omega) hgs⟩,by simp[intOf];omega⟩
   ·obtain rfl:j=n:=by omega
    have hz:∃z,(∀w,(zeroValue 56).run Tryz.prog w=.ok z w)/\z.cells.size=5/\∀v∈z.cells.toList,v.oneCell'=true:=⟨_,fun w=>aAm w,rfl,by simp[Value.cells,Value.oneCell']⟩
    obtain⟨z,hz0,hz1,hz2⟩:=hz
    obtain⟨vs,hvs,hclr⟩:=iQ (P:=Tryz.prog) wr 35 56 z 5 Tryz.underlying35 hz0 hz1 hz2 (by omega) rb (ii*5) (j-ii) (c-ii) (by omega) (fun u hu=>by rw[cA hrw,Array.getElem?_eq_getElem (by rw[hDs];have:=Nat.sub_mul j ii 5;omega)];rfl) (fun u hu=>cH hrw _)
    have i0:(0:Int)<=ii:=by omega
    have i1:(ii:Int)<j:=by omega
    obtain⟨cur2,q1,q2,q3⟩:=jN rb t (0,0) vs (ii*5) wr cur' hrw
    have hg:=eU rb vs (ii*5) wr
    have Q1:=zH q1
    have Q2:=zH q2
    have Q3:=zH q3
    have HG:=zH hg
    have HINV:=zH hinv
    clear q1 q2 q3 hg hD hinv hz0 hz1 hz2 hvs
    go_wp2
    go_ret
    have hD2:iI aK 5 l r cur cur' ii l.length:=by
     have:=HD.out
     rw[<-HN.out]at this
     exact this
    have hat:ii=(Tp.kept r 0 l).length:=by
     have:=hD2.at_
     rwa [List.take_length]at this
    refine⟨cur2,by rw[<-hat];rfl,Q1.out,Q2.out.trans hDs,?_,HSEP.out _ _ _ HINV.out HG.out,Nat.le_trans hsz (eQ HG.out)⟩
    rw[<-hat]
    exact iI.done (fun x=>cY x) (by omega) hD2 (fun t ht=>Q3.out t ht)
 ·obtain rfl:k=n:=by omega
  have hi2:=HI2.out
  simp only[Nat.lt_irrefl,if_false]at hi2
  have HI3:=zH hi2
  have hke:Tp.kept r 0 l=l:=Tp.kS r l 0 (fun i _ hi=>HPRE.out i (by rw[HN.out]at hi;omega))
  have HKE:=zH hke
  clear hi2 HI2 hke
  go_enter Tryz.func132,Tryz.ntmps132
  go_wp2_with (go_at_call 149;refine HI3.out.mono ?_;rintro e w1 ⟨⟨rfl,hinv⟩,hrow1,hsz1⟩)
  go_ret
  refine⟨cur,by rw[HKE.out,HN.out];rfl,hrow1.trans hrow,rfl,?_,hinv,hsz1⟩
  rw[HKE.out,HN.out]
  exact HCUR.out
end Go.Proofs.YtbbhinehcncmeaaGreat
