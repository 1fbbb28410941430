/- A part of the proof of the laws of the top: TpDelW, TpTake, TpTake0. No condition. -/
import Derived.Test.YtbbhinehcncmeaaGreatG16
import Derived.Test.YtbbhinehcncmeaaGreatG17
namespace Go.Proofs.YtbbhinehcncmeaaGreat
open Go.RowKit
set_option linter.unusedSimpArgs false
set_option linter.unusedVariables false
set_option linter.unusedSectionVars false
set_option maxRecDepth 100000
set_option maxHeartbeats 8000000
namespace Tp
def Wk.size (k:Wk):Nat:=k.b.length+k.v.length
def delB (k:Wk):List B->List B×Wk
 | []=>([],k)
 |x::r=>(if(aG k x).1 then(delB (aG k x).2 r).1 else x::(delB (aG k x).2 r).1,(delB (aG k x).2 r).2)
def delV (k:Wk):List V->List V×Wk
 | []=>([],k)
 |x::r=>(if(aM k x).1 then(delV (aM k x).2 r).1 else x::(delV (aM k x).2 r).1,(delV (aM k x).2 r).2)
def aV :Nat->Int->Wk->Vw->Wk×Vw
 |0,_,k,l=>(k,l)
 |f+1,n,k,l=>if n=(k.size:Int)then(k,l)else aV f k.size (delV (delB k l.b).2 l.v).2 ⟨(delB k l.b).1,(delV (delB k l.b).2 l.v).1⟩
def take (c:Cf) (x y:Vw) (slot:Int):Vw×Vw×Bool:=
 if aQ c x then(⟨(aV 302 (-1) (wkOf x slot) (only c y)).1.b,(aV 302 (-1) (wkOf x slot) (only c y)).1.v⟩,(aV 302 (-1) (wkOf x slot) (only c y)).2,(aV 302 (-1) (wkOf x slot) (only c y)).1.full)else(x,y,false)
structure Wk.Ok (k:Wk):Prop where
 t:k.T
 b:k.b.length<=60
 v:k.v.length<=240
 u:∀x∈k.b,x.U
theorem uI {k:Wk}(h:k.Ok){x:B}(hx:x.U):(aG k x).2.Ok/\k.size<=(aG k x).2.size:=by
 unfold aG
 split
 ·exact⟨h,Nat.le_refl _⟩
 ·split
  ·exact⟨h,Nat.le_refl _⟩
  ·split
   ·exact⟨h,Nat.le_refl _⟩
   ·split
    ·exact⟨h,Nat.le_refl _⟩
    ·split
     ·exact⟨⟨h.t,h.b,h.v,h.u⟩,Nat.le_refl _⟩
     ·refine⟨⟨h.t,?_,h.v,?_⟩,?_⟩
      ·simp only[List.length_append,List.length_cons,List.length_nil];omega
      ·intro y hy
       simp only[List.mem_append,List.mem_singleton]at hy
       rcases hy with hy|rfl
       ·exact h.u y hy
       ·exact hx
      ·simp only[Wk.size,List.length_append,List.length_cons,List.length_nil];omega
theorem uY {k:Wk}(h:k.Ok)(x:V):(aM k x).2.Ok/\k.size<=(aM k x).2.size:=by
 unfold aM
 split
 ·exact⟨h,Nat.le_refl _⟩
 ·split
  ·exact⟨h,Nat.le_refl _⟩
  ·split
   ·exact⟨h,Nat.le_refl _⟩
   ·split
    ·exact⟨h,Nat.le_refl _⟩
    ·split
     ·exact⟨⟨h.t,h.b,h.v,h.u⟩,Nat.le_refl _⟩
     ·refine⟨⟨?_,h.b,?_,h.u⟩,?_⟩
      ·intro y b hy
       simp only[dF]at hy
       split at hy
       ·simp only[Option.some.injEq]at hy;exact hy.symm
       ·exact h.t y b hy
      ·simp only[List.length_append,List.length_cons,List.length_nil];omega
      ·simp only[Wk.size,List.length_append,List.length_cons,List.length_nil];omega
theorem aEo :∀(l:List B) {k:Wk},k.Ok->(∀x∈l,x.U)->(delB k l).2.Ok/\k.size<=(delB k l).2.size:=by
 intro l
 induction l with
 |nil=>intro k h _;exact⟨h,Nat.le_refl _⟩
 |cons x r ih=>
  intro k h hu
  have h1:=uI h (hu x (List.mem_cons_self ..))
  have h2:=ih h1.1 (fun y hy=>hu y (List.mem_cons_of_mem _ hy))
  exact⟨h2.1,Nat.le_trans h1.2 h2.2⟩
theorem aEl :∀(l:List V) {k:Wk},k.Ok->(delV k l).2.Ok/\k.size<=(delV k l).2.size:=by
 intro l
 induction l with
 |nil=>intro k h;exact⟨h,Nat.le_refl _⟩
 |cons x r ih=>
  intro k h
  have h1:=uY h x
  have h2:=ih h1.1
  exact⟨h2.1,Nat.le_trans h1.2 h2.2⟩
theorem aHf :∀(l:List B) (k:Wk) (x:B),x∈(delB k l).1->x∈l:=by
 intro l
 induction l with
 |nil=>intro k x h;exact h
 |cons y r ih=>
  intro k x h
  simp only[delB]at h
  split at h
  ·exact List.mem_cons_of_mem _ (ih _ x h)
  ·rcases List.mem_cons.1 h with rfl|h
   ·exact List.mem_cons_self ..
   ·exact List.mem_cons_of_mem _ (ih _ x h)
theorem rR :∀(l:List B) (k:Wk),(delB k l).1.length<=l.length:=by
 intro l
 induction l with
 |nil=>intro k;exact Nat.le_refl _
 |cons y r ih=>
  intro k
  simp only[delB]
  split
  ·exact Nat.le_succ_of_le (ih _)
  ·simp only[List.length_cons];exact Nat.succ_le_succ (ih _)
theorem rO :∀(l:List V) (k:Wk),(delV k l).1.length<=l.length:=by
 intro l
 induction l with
 |nil=>intro k;exact Nat.le_refl _
 |cons y r ih=>
  intro k
  simp only[delV]
  split
  ·exact Nat.le_succ_of_le (ih _)
  ·simp only[List.length_cons];exact Nat.succ_le_succ (ih _)
theorem aDt (r:Nat->Bool):∀(l:List B) (k:Wk) (i:Nat),(∀j (h:j<l.length),r (i+j)=(aG (delB k (l.take j)).2 l[j]).1)->kept r i l=(delB k l).1:=by
 intro l
 induction l with
 |nil=>intro k i _;rfl
 |cons x xs ih=>
  intro k i h
  have h0:=h 0 (by simp)
  rw[Nat.add_zero,List.getElem_cons_zero,List.take_zero]at h0
  have h1:=ih (aG k x).2 (i+1) (fun j hj=>by
   have:=h (j+1) (by simpa using hj)
   rw[List.getElem_cons_succ,List.take_succ_cons]at this
   rw[<-show i+(j+1)=i+1+j by omega,this]
   rfl)
  simp only[kept,delB,h0,h1]
theorem aDs (r:Nat->Bool):∀(l:List V) (k:Wk) (i:Nat),(∀j (h:j<l.length),r (i+j)=(aM (delV k (l.take j)).2 l[j]).1)->kept r i l=(delV k l).1:=by
 intro l
 induction l with
 |nil=>intro k i _;rfl
 |cons x xs ih=>
  intro k i h
  have h0:=h 0 (by simp)
  rw[Nat.add_zero,List.getElem_cons_zero,List.take_zero]at h0
  have h1:=ih (aM k x).2 (i+1) (fun j hj=>by
   have:=h (j+1) (by simpa using hj)
   rw[List.getElem_cons_succ,List.take_succ_cons]at this
   rw[<-show i+(j+1)=i+1+j by omega,this]
   rfl)
  simp only[kept,delV,h0,h1]
theorem aEn :∀(l:List B) (k:Wk) (j:Nat) (h:j<l.length),(delB k (l.take (j+1))).2=(aG (delB k (l.take j)).2 l[j]).2:=by
 intro l
 induction l with
 |nil=>intro k j h;simp at h
 |cons x xs ih=>
  intro k j h
  cases j with
  |zero=>rfl
  |succ j=>exact ih (aG k x).2 j (by simpa using h)
theorem aEk :∀(l:List V) (k:Wk) (j:Nat) (h:j<l.length),(delV k (l.take (j+1))).2=(aM (delV k (l.take j)).2 l[j]).2:=by
 intro l
 induction l with
 |nil=>intro k j h;simp at h
 |cons x xs ih=>
  intro k j h
  cases j with
  |zero=>rfl
  |succ j=>exact ih (aM k x).2 j (by simpa using h)
theorem aKj (l:List V):∀v b,at_ (fP l) v=some b->b=true:=by
 unfold fP
 have key:∀(l:List V) (m:List (V×Bool)),(∀v b,at_ m v=some b->b=true)->∀v b,at_ (l.foldl (fun m v=>put m v true) m) v=some b->b=true:=by
  intro l
  induction l with
  |nil=>intro m h;exact h
  |cons x r ih=>
   intro m h
   refine ih _ ?_
   intro v b hv
   rw[dF]at hv
   split at hv
   ·simp only[Option.some.injEq]at hv;exact hv.symm
   ·exact h v b hv
 exact key l [] (fun v b h=>by cases h)
theorem eJ {c:Cf}{x:Vw}(h:aQ c x=true):x.b.length<=60/\x.v.length<=240:=by
 unfold aQ at h
 simp only[Bool.and_eq_true,decide_eq_true_eq]at h
 exact⟨h.1.1.1.1.2,h.1.1.1.2⟩
theorem aIs {c:Cf}{x:Vw}{slot:Int}(h:aQ c x=true)(hu:∀y∈x.b,y.U):(wkOf x slot).Ok:=⟨aKj x.v,(eJ h).1,(eJ h).2,hu⟩
end Tp
structure LfB (W:World) (N2 N3:Nat) (a:Option Addr) (n c:Nat) (l:List Tp.B):Prop where
 len:l.length=n
 cap:n<=c
 top:c<=9223372036854775807
 nil:a=none->n=0/\c=0
 row:(a=none/\n=0)\/∃rb cur,a=some ⟨rb,0,none⟩/\N2<=rb/\rb<N3/\W.heap[rb]?=some (.cells cur 56 (0,0))/\cur.toList.take (n*5)=l.flatMap aK
theorem LfB.of_own {W:World}{N2 N3:Nat}{a:Option Addr}{n c:Nat}{l:List Tp.B}(h:OwnL aK 5 56 W N2 (m63 a n c) l)(h3:W.heap.size<=N3):LfB W N2 N3 a n c l:=by
 obtain⟨s,z⟩:=cP cY h
 refine⟨s.len,s.cap,s.top,z,?_⟩
 rcases h.2 with⟨hv,h0⟩|⟨g,cap,cur,hv,hb,hg,hn,hc,hsz,ht⟩
 ·injection hv with e1 e2 e3
  exact .inl ⟨e1,e2⟩
 ·injection hv with e1 e2 e3
  subst e1
  refine .inr ⟨g,cur,rfl,hb,Nat.lt_of_lt_of_le (gS hg) h3,hg,?_⟩
  rw[e2]
  exact ht
theorem LfB.keep {W W':World}{N2 N3:Nat}{a:Option Addr}{n c:Nat}{l:List Tp.B}(h:LfB W N2 N3 a n c l)(hs:∀j,N2<=j->j<N3->(∃cur,W.heap[j]?=some (.cells cur 56 (0,0)))->W'.heap[j]?=W.heap[j]?):LfB W' N2 N3 a n c l:=
 ⟨h.len,h.cap,h.top,h.nil,h.row.imp id fun⟨rb,cur,ha,h2,h3,hg,ht⟩=>⟨rb,cur,ha,h2,h3,(hs rb h2 h3 ⟨cur,hg⟩).trans hg,ht⟩⟩
theorem LfB.sl {W:World}{N2 N3:Nat}{a:Option Addr}{n c:Nat}{l:List Tp.B}(h:LfB W N2 N3 a n c l):SlV aK 5 W a n c l:=by
 refine⟨h.len,h.cap,h.top,?_⟩
 rcases h.row with⟨-,h0⟩|⟨rb,cur,ha,-,-,hg,ht⟩
 ·exact .inl (by rw[h.len];exact h0)
 ·refine .inr ⟨rb,0,ha,(gS hg),fun i hi j hj=>?_⟩
  rw[Nat.zero_add,cA hg]
  have e1:=dZ cY l i j hi hj
  rw[<-ht,h.len.symm,List.getElem?_take_of_lt (by omega),Array.getElem?_toList]at e1
  exact e1
theorem LfB.ty {W:World}{N2 N3:Nat}{a:Option Addr}{n c:Nat}{l:List Tp.B}(h:LfB W N2 N3 a n c l){j:Nat}(hj:a=some ⟨j,0,none⟩):∃cur,W.heap[j]?=some (.cells cur 56 (0,0)):=by
 rcases h.row with⟨h0,-⟩|⟨rb,cur,ha,-,-,hg,-⟩
 ·rw[h0]at hj;cases hj
 ·rw[ha]at hj
  cases hj
  exact⟨cur,hg⟩
theorem aEp (X:Nat)(S:Nat->Prop)(k:Tp.Wk)(N2 N3:Nat)(a:Option Addr)(n c:Nat)(l:List Tp.B)(w:World)(hl:LfB w N2 N3 a n c l)(hW:WkAt w X S k)(hOk:k.Ok)(hU:∀x∈l,x.U)(hS:∀j,N3<=j->S j)(hS2:∀j,N2<=j->j<N3->¬S j)(h3:N3<=w.heap.size):
  Calls Tryz.prog 132 #[.slice a n c,.func (.func 130) (m46 X) #[]] w fun e w'=>
   ∃m,e=.returned (m63 a m c)/\LfB w' N2 N3 a m c (Tp.delB k l).1/\WkAt w' X S (Tp.delB k l).2/\aC (fun j=>S j\/a=some ⟨j,0,none⟩) w w':=by
 rcases hl.row with⟨rfl,h0⟩|⟨rb,cur,rfl,hb2,hb3,hg,ht⟩
 ·subst h0
  have hl0:l=[]:=List.length_eq_zero_iff.1 hl.len
  subst hl0
  refine(rP none c _ w).mono ?_
  rintro e w' ⟨rfl,rfl⟩
  exact⟨0,rfl,hl,hW,aC.refl _ _⟩
 ·have hrS:¬S rb:=hS2 rb hb2 hb3
  have eg:∀args w,(callFunc 130 args).run Tryz.prog w=.ok (.enter 130 args) w:=enters_of Tryz.func130 (by kernel_rfl) rfl
  have hkd:Tp.kept (fun j=>(Tp.aG (Tp.delB k (l.take j)).2 (l[j]?.getD Tp.zB)).1) 0 l=(Tp.delB k l).1:=Tp.aDt _ l k 0 (fun j h=>by
   rw[Nat.zero_add,List.getElem?_eq_getElem h]
   rfl)
  refine(tZ 130 (m46 X) #[] rb c n l cur _ (fun j W=>WkAt W X S (Tp.delB k (l.take j)).2/\aC (fun j=>S j\/(some ⟨rb,0,none⟩:Option Addr)=some ⟨j,0,none⟩) w W) (fun j=>(Tp.aG (Tp.delB k (l.take j)).2 (l[j]?.getD Tp.zB)).1) w ⟨eg,?_⟩ ?_ hl.len hl.cap hl.top hg ht ⟨hW,aC.refl _ _⟩).mono ?_
  ·intro j hj W hI
   have hok:=(Tp.aEo (l.take j) hOk (fun y hy=>hU y (List.mem_of_mem_take hy))).1
   have hsn:=Tp.aEn l k j hj
   simp only[List.getElem?_eq_getElem hj,Option.getD_some]
   rw[hsn]
   have hux:=hU l[j] (List.getElem_mem hj)
   obtain⟨kk,hkk⟩:∃y,(Tp.delB k (l.take j)).2=y:=⟨_,rfl⟩
   rw[hkk]at hok hI⊢
   obtain⟨⟨x0,x1,x2,x3,x4⟩,hX⟩:∃y,l[j]=y:=⟨_,rfl⟩
   rw[hX]at hux⊢
   have hszW:=Nat.le_trans h3 hI.2.size
   have key:∀(S':Nat->Prop),(∀i,S' i->S i)->(∀i,W.heap.size<=i->S' i)->WkAt W X S' kk->Calls Tryz.prog 130 #[.pointer (some (m00 X)),.agg (aK ⟨x0,x1,x2,x3,x4⟩).toArray] W fun e W'=>
     (e=.returned (.bool (Tp.aG kk ⟨x0,x1,x2,x3,x4⟩).1)/\(WkAt W' X S (Tp.aG kk ⟨x0,x1,x2,x3,x4⟩).2/\aC (fun j=>S j\/(some ⟨rb,0,none⟩:Option Addr)=some ⟨j,0,none⟩) w W')/\W'.heap[rb]?=W.heap[rb]?/\W.heap.size<=W'.heap.size)/\aC S' W W':=by
    intro S' hs1 hs2 hw
    refine(yQ X S' kk x0 x1 x2 x3 x4 W hw hs2 hux (Nat.le_trans hok.b (by omega))).mono ?_
    rintro e W' ⟨rfl,h1,h2⟩
    exact⟨⟨rfl,⟨h1.wide fun j hj _=>hs1 j hj,hI.2.trans (h2.wide fun j hj=>.inl (hs1 j hj))⟩,h2.block rb (Nat.lt_of_lt_of_le hb3 hszW) (fun h=>hrS (hs1 rb h)),h2.size⟩,h2⟩
   by_cases hex:∃(W0:World) (o:Obj),W=W0.alloc o/\WkAt W0 X S kk
   ·obtain⟨W0,o,rfl,hw0⟩:=hex
    have hsz0:(W0.alloc o).heap.size=W0.heap.size+1:=by simp
    refine(key (fun i=>S i/\i≠W0.heap.size) (fun i h=>h.1) (fun i hi=>⟨hS i (by omega),by omega⟩) ?_).mono ?_
    ·exact(hw0.wide (S':=fun i=>S i/\i≠W0.heap.size) (fun i hi hl=>⟨hi,by omega⟩)).below ((Below.refl _ _).alloc nr _)
    ·rintro e W' ⟨⟨h1,h2,h3,h4⟩,h5⟩
     refine⟨h1,h2,h3,h4,?_⟩
     intro W0' o' he hI'
     have hs0:W0'.heap.size=W0.heap.size:=by
      have:=congrArg (fun w:World=>w.heap.size) he
      simp only[World.size_alloc]at this
      omega
     rw[hs0,h5.block _ (by omega) (fun h=>h.2 rfl),he,<-hs0]
     exact heap_alloc_new W0' o'
   ·refine(key S (fun _ h=>h) (fun i hi=>hS i (by omega)) hI.1).mono ?_
    rintro e W' ⟨⟨h1,h2,h3,h4⟩,h5⟩
    refine⟨h1,h2,h3,h4,?_⟩
    intro W0' o' he hI'
    exact absurd ⟨W0',o',he,hI'.1⟩ hex
  ·intro j W W' hI hgr
   refine⟨hI.1.keep fun i hi hlt=>hgr.5 i hlt (fun e=>hrS (by cases e;exact hi)),hI.2.trans (aC.of_grown hgr (fun g e=>by cases e;exact .inr rfl))⟩
  ·rintro e w' ⟨cur',rfl,h1,h2,h3',h4,h5⟩
   rw[hkd]at h3'⊢
   rw[List.take_of_length_le (by rw[hl.len];exact Nat.le_refl _)]at h4
   exact⟨_,rfl,⟨rfl,Nat.le_trans (Tp.rR _ _) (by rw[hl.len];exact hl.cap),hl.top,fun h=>(by cases h),.inr ⟨rb,cur',rfl,hb2,hb3,h1,h3'⟩⟩,h4.1,h4.2⟩
structure LfV (W:World) (N2 N3:Nat) (a:Option Addr) (n c:Nat) (l:List Tp.V):Prop where
 len:l.length=n
 cap:n<=c
 top:c<=9223372036854775807
 nil:a=none->n=0/\c=0
 row:(a=none/\n=0)\/∃rb cur,a=some ⟨rb,0,none⟩/\N2<=rb/\rb<N3/\W.heap[rb]?=some (.cells cur 84 (0,0))/\cur.toList.take (n*4)=l.flatMap aH
theorem LfV.of_own {W:World}{N2 N3:Nat}{a:Option Addr}{n c:Nat}{l:List Tp.V}(h:OwnL aH 4 84 W N2 (m63 a n c) l)(h3:W.heap.size<=N3):LfV W N2 N3 a n c l:=by
 obtain⟨s,z⟩:=cP cW h
 refine⟨s.len,s.cap,s.top,z,?_⟩
 rcases h.2 with⟨hv,h0⟩|⟨g,cap,cur,hv,hb,hg,hn,hc,hsz,ht⟩
 ·injection hv with e1 e2 e3
  exact .inl ⟨e1,e2⟩
 ·injection hv with e1 e2 e3
  subst e1
  refine .inr ⟨g,cur,rfl,hb,Nat.lt_of_lt_of_le (gS hg) h3,hg,?_⟩
  rw[e2]
  exact ht
theorem LfV.keep {W W':World}{N2 N3:Nat}{a:Option Addr}{n c:Nat}{l:List Tp.V}(h:LfV W N2 N3 a n c l)(hs:∀j,N2<=j->j<N3->(∃cur,W.heap[j]?=some (.cells cur 84 (0,0)))->W'.heap[j]?=W.heap[j]?):LfV W' N2 N3 a n c l:=
 ⟨h.len,h.cap,h.top,h.nil,h.row.imp id fun⟨rb,cur,ha,h2,h3,hg,ht⟩=>⟨rb,cur,ha,h2,h3,(hs rb h2 h3 ⟨cur,hg⟩).trans hg,ht⟩⟩
theorem LfV.sl {W:World}{N2 N3:Nat}{a:Option Addr}{n c:Nat}{l:List Tp.V}(h:LfV W N2 N3 a n c l):SlV aH 4 W a n c l:=by
 refine⟨h.len,h.cap,h.top,?_⟩
 rcases h.row with⟨-,h0⟩|⟨rb,cur,ha,-,-,hg,ht⟩
 ·exact .inl (by rw[h.len];exact h0)
 ·refine .inr ⟨rb,0,ha,(gS hg),fun i hi j hj=>?_⟩
  rw[Nat.zero_add,cA hg]
  have e1:=dZ cW l i j hi hj
  rw[<-ht,h.len.symm,List.getElem?_take_of_lt (by omega),Array.getElem?_toList]at e1
  exact e1
theorem LfV.ty {W:World}{N2 N3:Nat}{a:Option Addr}{n c:Nat}{l:List Tp.V}(h:LfV W N2 N3 a n c l){j:Nat}(hj:a=some ⟨j,0,none⟩):∃cur,W.heap[j]?=some (.cells cur 84 (0,0)):=by
 rcases h.row with⟨h0,-⟩|⟨rb,cur,ha,-,-,hg,-⟩
 ·rw[h0]at hj;cases hj
 ·rw[ha]at hj
  cases hj
  exact⟨cur,hg⟩
theorem aEm (X:Nat)(S:Nat->Prop)(k:Tp.Wk)(N2 N3:Nat)(a:Option Addr)(n c:Nat)(l:List Tp.V)(w:World)(hl:LfV w N2 N3 a n c l)(hW:WkAt w X S k)(hOk:k.Ok)(hS:∀j,N3<=j->S j)(hS2:∀j,N2<=j->j<N3->¬S j)(h3:N3<=w.heap.size):
  Calls Tryz.prog 105 #[.slice a n c,.func (.func 131) (m46 X) #[]] w fun e w'=>
   ∃m,e=.returned (m63 a m c)/\LfV w' N2 N3 a m c (Tp.delV k l).1/\WkAt w' X S (Tp.delV k l).2/\aC (fun j=>S j\/a=some ⟨j,0,none⟩) w w':=by
 rcases hl.row with⟨rfl,h0⟩|⟨rb,cur,rfl,hb2,hb3,hg,ht⟩
 ·subst h0
  have hl0:l=[]:=List.length_eq_zero_iff.1 hl.len
  subst hl0
  refine(iZ none c _ w).mono ?_
  rintro e w' ⟨rfl,rfl⟩
  exact⟨0,rfl,hl,hW,aC.refl _ _⟩
 ·have hrS:¬S rb:=hS2 rb hb2 hb3
  have eg:∀args w,(callFunc 131 args).run Tryz.prog w=.ok (.enter 131 args) w:=enters_of Tryz.func131 (by kernel_rfl) rfl
  have hkd:Tp.kept (fun j=>(Tp.aM (Tp.delV k (l.take j)).2 (l[j]?.getD ⟨0,0,0,0⟩)).1) 0 l=(Tp.delV k l).1:=Tp.aDs _ l k 0 (fun j h=>by
   rw[Nat.zero_add,List.getElem?_eq_getElem h]
   rfl)
  refine(oE 131 (m46 X) #[] rb c n l cur _ (fun j W=>WkAt W X S (Tp.delV k (l.take j)).2/\aC (fun j=>S j\/(some ⟨rb,0,none⟩:Option Addr)=some ⟨j,0,none⟩) w W) (fun j=>(Tp.aM (Tp.delV k (l.take j)).2 (l[j]?.getD ⟨0,0,0,0⟩)).1) w ⟨eg,?_⟩ ?_ hl.len hl.cap hl.top hg ht ⟨hW,aC.refl _ _⟩).mono ?_
  ·intro j hj W hI
   have hok:=(Tp.aEl (l.take j) hOk).1
   have hsn:=Tp.aEk l k j hj
   simp only[List.getElem?_eq_getElem hj,Option.getD_some]
   rw[hsn]
   have hux:l[j]=l[j]:=rfl
   obtain⟨kk,hkk⟩:∃y,(Tp.delV k (l.take j)).2=y:=⟨_,rfl⟩
   rw[hkk]at hok hI⊢
   obtain⟨⟨x0,x1,x2,x3⟩,hX⟩:∃y,l[j]=y:=⟨_,rfl⟩
   rw[hX]at hux⊢
   have hszW:=Nat.le_trans h3 hI.2.size
   have key:∀(S':Nat->Prop),(∀i,S' i->S i)->(∀i,W.heap.size<=i->S' i)->WkAt W X S' kk->Calls Tryz.prog 131 #[.pointer (some (m00 X)),.agg (aH ⟨x0,x1,x2,x3⟩).toArray] W fun e W'=>
     (e=.returned (.bool (Tp.aM kk ⟨x0,x1,x2,x3⟩).1)/\(WkAt W' X S (Tp.aM kk ⟨x0,x1,x2,x3⟩).2/\aC (fun j=>S j\/(some ⟨rb,0,none⟩:Option Addr)=some ⟨j,0,none⟩) w W')/\W'.heap[rb]?=W.heap[rb]?/\W.heap.size<=W'.heap.size)/\aC S' W W':=by
    intro S' hs1 hs2 hw
    refine(aAn X S' kk x0 x1 x2 x3 W hw hs2 hok.t (Nat.le_trans hok.v (by omega))).mono ?_
    rintro e W' ⟨rfl,h1,h2⟩
    exact⟨⟨rfl,⟨h1.wide fun j hj _=>hs1 j hj,hI.2.trans (h2.wide fun j hj=>.inl (hs1 j hj))⟩,h2.block rb (Nat.lt_of_lt_of_le hb3 hszW) (fun h=>hrS (hs1 rb h)),h2.size⟩,h2⟩
   by_cases hex:∃(W0:World) (o:Obj),W=W0.alloc o/\WkAt W0 X S kk
   ·obtain⟨W0,o,rfl,hw0⟩:=hex
    have hsz0:(W0.alloc o).heap.size=W0.heap.size+1:=by simp
    refine(key (fun i=>S i/\i≠W0.heap.size) (fun i h=>h.1) (fun i hi=>⟨hS i (by omega),by omega⟩) ?_).mono ?_
    ·exact(hw0.wide (S':=fun i=>S i/\i≠W0.heap.size) (fun i hi hl=>⟨hi,by omega⟩)).below ((Below.refl _ _).alloc nr _)
    ·rintro e W' ⟨⟨h1,h2,h3,h4⟩,h5⟩
     refine⟨h1,h2,h3,h4,?_⟩
     intro W0' o' he hI'
     have hs0:W0'.heap.size=W0.heap.size:=by
      have:=congrArg (fun w:World=>w.heap.size) he
      simp only[World.size_alloc]at this
      omega
     rw[hs0,h5.block _ (by omega) (fun h=>h.2 rfl),he,<-hs0]
     exact heap_alloc_new W0' o'
   ·refine(key S (fun _ h=>h) (fun i hi=>hS i (by omega)) hI.1).mono ?_
    rintro e W' ⟨⟨h1,h2,h3,h4⟩,h5⟩
    refine⟨h1,h2,h3,h4,?_⟩
    intro W0' o' he hI'
    exact absurd ⟨W0',o',he,hI'.1⟩ hex
  ·intro j W W' hI hgr
   refine⟨hI.1.keep fun i hi hlt=>hgr.5 i hlt (fun e=>hrS (by cases e;exact hi)),hI.2.trans (aC.of_grown hgr (fun g e=>by cases e;exact .inr rfl))⟩
  ·rintro e w' ⟨cur',rfl,h1,h2,h3',h4,h5⟩
   rw[hkd]at h3'⊢
   rw[List.take_of_length_le (by rw[hl.len];exact Nat.le_refl _)]at h4
   exact⟨_,rfl,⟨rfl,Nat.le_trans (Tp.rO _ _) (by rw[hl.len];exact hl.cap),hl.top,fun h=>(by cases h),.inr ⟨rb,cur',rfl,hb2,hb3,h1,h3'⟩⟩,h4.1,h4.2⟩
structure TkB (w:World) (aw:Option Addr) (nw cw:Nat) (C:Tp.Cf) (r s:RV) (W:World):Prop where
 cf:W.heap[w.heap.size]?=some (.cells (m02 aw nw cw C) 25 (0,0))
 v1:W.heap[w.heap.size+1]?=some (.cells (m01 r) 38 (0,0))
 v2:W.heap[w.heap.size+2]?=some (.cells (m01 s) 38 (0,0))
 r8:W.heap[w.heap.size+3]?=some (.cells (m18) 38 (0,0))
 r9:W.heap[w.heap.size+4]?=some (.cells (m18) 38 (0,0))
 sz:w.heap.size+5<=W.heap.size
theorem TkB.keep {w W W':World}{aw:Option Addr}{nw cw:Nat}{C:Tp.Cf}{r s:RV}(h:TkB w aw nw cw C r s W)(hk:∀j,j<w.heap.size+5->W'.heap[j]?=W.heap[j]?)(hz:W.heap.size<=W'.heap.size):TkB w aw nw cw C r s W':=
 ⟨(hk _ (by omega)).trans h.cf,(hk _ (by omega)).trans h.v1,(hk _ (by omega)).trans h.v2,(hk _ (by omega)).trans h.r8,(hk _ (by omega)).trans h.r9,Nat.le_trans h.sz hz⟩
theorem TkB.below {w W W':World}{aw:Option Addr}{nw cw:Nat}{C:Tp.Cf}{r s:RV}(h:TkB w aw nw cw C r s W)(hb:Below W.heap.size W W'):TkB w aw nw cw C r s W':=h.keep (fun j hj=>hb.block j (Nat.lt_of_lt_of_le hj h.sz)) hb.size
theorem TkB.start (w:World)(aw:Option Addr)(nw cw:Nat)(C:Tp.Cf)(r s:RV):TkB w aw nw cw C r s (((((w.alloc (.cells (m02 aw nw cw C) 25)).alloc (m49 r)).alloc (m49 s)).alloc (m56)).alloc (m56)):=by
 refine⟨?_,?_,?_,?_,?_,by simp⟩
 ·rw[cF,if_neg (by simp only[World.size_alloc];omega),cF,if_neg (by simp only[World.size_alloc];omega),cF,if_neg (by simp only[World.size_alloc];omega),cF,if_neg (by simp),cF,if_pos rfl]
 ·rw[cF,if_neg (by simp only[World.size_alloc];omega),cF,if_neg (by simp only[World.size_alloc];omega),cF,if_neg (by simp only[World.size_alloc];omega),cF,if_pos (by simp)]
 ·rw[cF,if_neg (by simp only[World.size_alloc];omega),cF,if_neg (by simp only[World.size_alloc];omega),cF,if_pos (by simp)]
 ·rw[cF,if_neg (by simp only[World.size_alloc];omega),cF,if_pos (by simp)]
 ·rw[cF,if_pos (by simp)]
theorem xX {w:World}(o1 o2 o3 o4 o5:Obj):Below w.heap.size w (((((w.alloc o1).alloc o2).alloc o3).alloc o4).alloc o5):=
 ((dO _ _ _).alloc (by simp only[World.size_alloc];omega) _).alloc (by simp only[World.size_alloc];omega) _
theorem kQ {α:Type}{f:α->List Value}{k:Nat}{e:TypeId}{w:World}{base b o n c:Nat}{l:List α}(h:OwnL f k e w base (.slice (some (m09 b o)) n c) l):(Value.slice (some (m09 b o)) n c).ownBlock=some b:=by
 rcases h.2 with⟨hv,_⟩|⟨g,cap,cur,hv,hb,_⟩
 ·cases hv
 ·injection hv with h1 h2 h3
  injection h1 with h1
  injection h1 with h4 h5 h6
  subst h4
  subst h5
  rfl
theorem OwnL.far {α:Type}{f:α->List Value}{k:Nat}{e:TypeId}{w w':World}{base B:Nat}{v:Value}{l:List α}{o:Obj}(h:OwnL f k e w base v l)(ht:cT B o w w')(hB:∀g,v.ownBlock=some g->g≠B):OwnL f k e w' base v l:=h.same fun g hg=>ht.block g (hB g hg)
theorem VwR.far {w w':World}{r:RV}{x:Tp.Vw}{B:Nat}{o:Obj}(h:VwR w r x)(ht:cT B o w w')(hB:∀b off,r.ab=some ⟨b,off,none⟩\/r.av=some ⟨b,off,none⟩->b≠B):VwR w' r x:=by
 refine⟨⟨⟨h.ok.b.len,h.ok.b.cap,h.ok.b.top,?_⟩,⟨h.ok.v.len,h.ok.v.cap,h.ok.v.top,?_⟩,h.ok.u,h.ok.bm,h.ok.vm⟩,h.nb0,h.nv0⟩
 ·rcases h.ok.b.rows with h0|⟨b,o,ha,hlt,hc⟩
  ·exact .inl h0
  ·refine .inr ⟨b,o,ha,by rw[ht.size];exact hlt,fun i hi j hj=>?_⟩
   rw[<-hc i hi j hj]
   exact World.cell?_of_block (w:=w) (ht.block b (hB b o (.inl ha)))
 ·rcases h.ok.v.rows with h0|⟨b,o,ha,hlt,hc⟩
  ·exact .inl h0
  ·refine .inr ⟨b,o,ha,by rw[ht.size];exact hlt,fun i hi j hj=>?_⟩
   rw[<-hc i hi j hj]
   exact World.cell?_of_block (w:=w) (ht.block b (hB b o (.inr ha)))
theorem vC (aw:Option Addr)(nw cw:Nat)(C:Tp.Cf)(r s:RV)(x y:Tp.Vw)(slot:Int)(w:World)(hC:aP w aw nw C.W C.sd)(hx:VwR w r x)(hy:VwR w s y)(hno:Tp.aQ C x=false):
  Calls Tryz.prog 114 #[.agg (m02 aw nw cw C),.agg (m01 r),.agg (m01 s),.int .i64 slot] w fun e w'=>
   ∃p q:RV,e=.returned (.tuple #[.agg (m01 p),.agg (m01 q),.bool false])/\VwR w' p x/\VwR w' q y/\p.New w.heap.size/\q.New w.heap.size/\Below w.heap.size w w':=by
 have hb5:=xX (w:=w) (.cells (m02 aw nw cw C) 25) (m49 r) (m49 s) (m56) (m56)
 have hT:=TkB.start w aw nw cw C r s
 have HNO:=zH hno
 clear hno
 go_enter Tryz.func114,Tryz.ntmps114
 go_wp2_with fail
 generalize((((w.alloc (.cells (m02 aw nw cw C) 25)).alloc (m49 r)).alloc (m49 s)).alloc (m56)).alloc (m56)=w1 at hb5 hT⊢
 have HC:=zH (hC.keep hb5)
 have HX:=zH (hx.keep hb5)
 have HY:=zH (hy.keep hb5)
 have HB5:=zH hb5
 have hsz:=hT.sz
 have HT:=zH hT
 clear hC hx hy hb5 hT
 refine(uS r x slot w1 HX.out).mono ?_
 rintro e w2 ⟨X,rfl,hW2,hb2⟩
 have hT2:=HT.out.below hb2
 obtain⟨c0,c1,c2,c3,c4⟩:=kc5 hT2.cf
 obtain⟨d0,d1⟩:=kc2 hT2.v1
 have HT2:=zH hT2
 have HW2:=zH hW2
 have HB2:=zH hb2
 clear hT2 hW2 hb2
 go_wp2_with fail
 refine(xC aw nw cw C r x w2 (HC.out.keep HB2.out) (HX.out.keep HB2.out)).mono ?_
 rintro e w3 ⟨rfl,hb3⟩
 rw[HNO.out]
 have hT3:=HT2.out.below hb3
 obtain⟨ab,av,cb,cv,mb,hb,hC3⟩:=HW2.out.below hb3
 have hb13:=bS HB2.out hb3
 have HT3:=zH hT3
 have HC3:=zH hC3
 have HB13:=zH hb13
 clear hT3 hC3 hb13 hb3 c0 c1 c2 c3 c4 d0 d1
 go_wp2_with fail
 have hrd:∀W:World,Below w3.heap.size w3 W->W.cell? (m00 X)=some (.slice ab (Tp.wkOf x slot).b.length cb)/\W.cell? (m15 X)=some (.slice av (Tp.wkOf x slot).v.length cv)/\W.cell? (m45 w)=some (.slice s.ab s.nb s.cb)/\W.cell? (m54 w)=some (.slice s.av s.nv s.cv):=by
  intro W hW
  have hC4:=HC3.out.keep (w':=W) fun j _ hj=>hW.block j hj
  have hT4:=HT3.out.below hW
  exact⟨cA hC4.box 0,cA hC4.box 1,cA hT4.v2 0,cA hT4.v2 1⟩
 have HRD:=zH hrd
 clear hrd
 have hX6:w.heap.size+6<=X:=by have:=HC3.out.sx;omega
 go_region_held3 (fun W=>W.cell? (m00 X)=some (.slice ab (Tp.wkOf x slot).b.length cb)/\W.cell? (m15 X)=some (.slice av (Tp.wkOf x slot).v.length cv)/\W.cell? (m45 w)=some (.slice s.ab s.nb s.cb)/\W.cell? (m54 w)=some (.slice s.av s.nv s.cv))
  (first|exact HRD.out _ ((Below.refl _ w3).drew)|exact HRD.out _ bB|exact HRD.out _ bV|exact hS1|exact hS2)
  (first
   |(go_at_call 81;refine(eW s.ab s.nb s.cb y.b w3.drew ((HY.out.keep HB13.out).keep ((Below.refl _ w3).drew)).ok.b HY.out.ok.bm HY.out.nb0).mono ?_;rintro e wB ⟨vB,rfl,ob,hbB⟩;obtain⟨pa,pc,rfl,-,-⟩:=ob.sl0 cY;have bB:=bS ((Below.refl _ w3).drew) hbB)
   |(go_at_call 82;refine(fG s.av s.nv s.cv y.v wB ((HY.out.keep HB13.out).keep bB).ok.v HY.out.ok.vm HY.out.nv0).mono ?_;rintro e wV ⟨vV,rfl,ov,hbV⟩;obtain⟨qa,qc,rfl,-,-⟩:=ov.sl0 cW;have bV:=bS bB hbV;have hTV:=HT3.out.below bV;have HTV:=zH hTV;have T8:=set2 wV (w.heap.size+3) _ _ (.slice ab (Tp.wkOf x slot).b.length cb) (.slice av (Tp.wkOf x slot).v.length cv) _ hTV.r8;have r90:=(T8.block (w.heap.size+4) (by omega)).trans hTV.r9;have T9:=set2 _ (w.heap.size+4) _ _ (m63 pa y.b.length pc) (m63 qa y.v.length qc) _ r90;have e80:wV.cell? ⟨w.heap.size+3,0,none⟩=some (.slice none 0 0):=cA hTV.r8 0;have e81:wV.cell? ⟨w.heap.size+3,1,none⟩=some (.slice none 0 0):=cA hTV.r8 1;have f80:=cH hTV.r8 0;have f81:=cH hTV.r8 1;have e90:wV.cell? ⟨w.heap.size+4,0,none⟩=some (.slice none 0 0):=cA hTV.r9 0;have e91:wV.cell? ⟨w.heap.size+4,1,none⟩=some (.slice none 0 0):=cA hTV.r9 1;have f90:=cH hTV.r9 0;have f91:=cH hTV.r9 1;have hS0:=HRD.out _ bV;have hsame:∀W:World,(∀j,j≠w.heap.size+3->j≠w.heap.size+4->W.heap[j]?=wV.heap[j]?)->(W.cell? (m00 X)=some (.slice ab (Tp.wkOf x slot).b.length cb)/\W.cell? (m15 X)=some (.slice av (Tp.wkOf x slot).v.length cv)/\W.cell? (m45 w)=some (.slice s.ab s.nb s.cb)/\W.cell? (m54 w)=some (.slice s.av s.nv s.cv)):=(fun W hW=>⟨(World.cell?_of_block (w:=wV) (hW X (by omega) (by omega))).trans hS0.1,(World.cell?_of_block (w:=wV) (hW X (by omega) (by omega))).trans hS0.2.1,(World.cell?_of_block (w:=wV) (hW (w.heap.size+2) (by omega) (by omega))).trans hS0.2.2.1,(World.cell?_of_block (w:=wV) (hW (w.heap.size+2) (by omega) (by omega))).trans hS0.2.2.2⟩);have hS1:=hsame _ (fun j h1 h2=>T8.block j h1);have hS2:=hsame _ (fun j h1 h2=>(T9.block j h2).trans (T8.block j h1));have HT8:=zH T8;have HT9:=zH T9;clear hsame T8 T9 hTV r90))
 go_wp2
 have t8:=HT8.out
 have t9:=HT9.out
 have hxo:=((HC3.out.ob.keep bV).far t8 (fun g hg=>by have:=HC3.out.sb g hg;omega)).far t9 (fun g hg=>by have:=HC3.out.sb g hg;omega)
 have hvo:=((HC3.out.ov.keep bV).far t8 (fun g hg=>by have:=HC3.out.sv g hg;omega)).far t9 (fun g hg=>by have:=HC3.out.sv g hg;omega)
 have hsz3:=HT3.out.sz
 have hbo:=((ob.keep hbV).far t8 (fun g hg=>by have:=((ob.keep hbV).lt g hg).1;have:w3.heap.size<=g:=this;omega)).far t9 (fun g hg=>by have:=((ob.keep hbV).lt g hg).1;have:w3.heap.size<=g:=this;omega)
 have hqo:=(ov.far t8 (fun g hg=>by have:=(ov.lt g hg).1;have h2:=bB.size;omega)).far t9 (fun g hg=>by have:=(ov.lt g hg).1;have h2:=bB.size;omega)
 have hp:VwR _ ⟨ab,(Tp.wkOf x slot).b.length,cb,av,(Tp.wkOf x slot).v.length,cv⟩ x:=VwR.of_own (hxo.lower nr) (hvo.lower nr) HX.out.ok.u (by rw[HX.out.ok.b.len];exact HX.out.ok.bm) (by rw[HX.out.ok.v.len];exact HX.out.ok.vm)
 have hq:VwR _ ⟨pa,y.b.length,pc,qa,y.v.length,qc⟩ y:=VwR.of_own (base:=0) (hbo.lower (Nat.zero_le _)) (hqo.lower (Nat.zero_le _)) HY.out.ok.u (by rw[HY.out.ok.b.len];exact HY.out.ok.bm) (by rw[HY.out.ok.v.len];exact HY.out.ok.vm)
 have hpn:(⟨ab,(Tp.wkOf x slot).b.length,cb,av,(Tp.wkOf x slot).v.length,cv⟩:RV).New w.heap.size:=⟨fun b o e=>by have:=HC3.out.sb b (by rw[show ab=some ⟨b,o,none⟩from e];exact kQ (by rw[show some ((m09 b o):Addr)=ab from e.symm];exact HC3.out.ob));omega,fun b o e=>by have:=HC3.out.sv b (by rw[show av=some ⟨b,o,none⟩from e];exact kQ (by rw[show some ((m09 b o):Addr)=av from e.symm];exact HC3.out.ov));omega⟩
 have hqn:(⟨pa,y.b.length,pc,qa,y.v.length,qc⟩:RV).New w.heap.size:=⟨fun b o e=>by have h1:=ob.new b o e;have h2:w3.heap.size<=b:=h1;omega,fun b o e=>by have h1:=ov.new b o e;have h2:=bB.size;omega⟩
 have g8:=(t9.block (w.heap.size+3) (by omega)).trans t8.new
 have g9:=t9.new
 have k80:=cA g8 0
 have k81:=cA g8 1
 have k90:=cA g9 0
 have k91:=cA g9 1
 have hbl:Below w.heap.size w _:=((bS HB5.out HB13.out).trans (bV.mono (by omega))).trans ((t8.below (by omega)).trans (t9.below (by omega)))
 refine bodyPost_ret (v:=.tuple #[.agg #[.slice ab (Tp.wkOf x slot).b.length cb,.slice av (Tp.wkOf x slot).v.length cv],.agg (m52 pa y.b.length pc qa y.v.length qc),.bool false]) ?_ rfl ⟨_,_,rfl,hp,hq,hpn,hqn,hbl⟩
 simp[results,Tryz.results114,go_sem,e80,e81,e90,e91]
end Go.Proofs.YtbbhinehcncmeaaGreat
