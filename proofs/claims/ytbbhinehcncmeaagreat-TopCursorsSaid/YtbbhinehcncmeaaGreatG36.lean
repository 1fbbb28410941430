/- A part of the proof of the laws of the top: TpPlB, TpPlC. No condition. -/
import Derived.Test.YtbbhinehcncmeaaGreatG33
import Derived.Test.YtbbhinehcncmeaaGreatG35
namespace Go.Proofs.YtbbhinehcncmeaaGreat
open Go.RowKit
set_option linter.unusedSimpArgs false
set_option linter.unusedVariables false
set_option linter.unusedSectionVars false
section
namespace Tp
theorem kX {l:List B}{m:PM}(hp:places l=some m):∀(f:Nat) (id:Int×Int),(at_ m id).isSome=true->∀x∈eS l m f id,(at_ m x).isSome=true
 |0,id,_,x,hx=>by cases hx
 |f+1,id,hi,x,hx=>by
  unfold eS at hx
  rcases List.mem_cons.1 hx with rfl|hx
  ·exact hi
  ·cases e:at_ m id with
   |none=>rw[e]at hx;cases hx
   |some i=>
    rw[e]at hx
    simp only at hx
    split at hx
    ·cases hx
    ·rename_i h1
     rcases(dU hp).2 id i e with⟨h2,_⟩|⟨j,h2,h3,h4,z,h5,_⟩
     ·exact absurd h2 h1
     ·refine kX hp f _ ?_ x hx
      rw[h2,Int.toNat_natCast,h5]
      try rfl
theorem fJ {l:List B}{m:PM}(hp:places l=some m)(x:Int×Int):(at_ (aJ l) x).isSome=(at_ m x).isSome:=by
 rw[iM l m hp x,Option.isSome_map]
theorem wM {l:List B}{id x:Int×Int}(hx:x∈chain l id):(at_ (aJ l) x).isSome=true:=by
 unfold chain at hx
 cases hp:places l with
 |none=>rw[hp]at hx;cases hx
 |some m=>
  rw[hp]at hx
  simp only at hx
  split at hx
  ·rw[fJ hp];exact kX hp _ _ ‹_› x hx
  ·cases hx
theorem aHn {l:List B}{id:Int×Int}(hm:may l=true)(hx:(at_ (aJ l) id).isSome=true):chain l id≠[]:=by
 unfold chain
 cases hp:places l with
 |none=>unfold may at hm;rw[hp]at hm;cases hm
 |some m=>
  rw[fJ hp]at hx
  simp only
  rw[if_pos hx]
  unfold eS
  exact List.cons_ne_nil _ _
theorem aDo {l l':List B}(hm:may l'=true)(hp:l <+:l'){x:Int×Int}(hx:(at_ (aJ l) x).isSome=true):(at_ (aJ l') x).isSome=true:=by
 obtain⟨s,hs⟩:=Option.isSome_iff_exists.1 hx
 rcases kI l hs with⟨rfl,_⟩|⟨b,hb,rfl,_⟩
 ·exact gK hm (.inl rfl)
 ·exact gK hm (.inr ⟨b,hp.subset hb,rfl⟩)
theorem aGm {c:Cur}{l:List B}{head jM:Int×Int}{is:Bool}{slot:Int}(hm:may l=true)(hk:(at_ (aJ l) (c.p,c.q)).isSome=true):
  (((move c l head jM is slot).rev=c.rev/\has (chain l head) (c.p,c.q)=true)\/((move c l head jM is slot).rev=c.rev+1/\has (chain l head) (c.p,c.q)=false))/\
  ((move c l head jM is slot).sl=c.sl\/(move c l head jM is slot).sl=slot)/\(at_ (aJ l) ((move c l head jM is slot).p,(move c l head jM is slot).q)).isSome=true:=by
 have hh:has (chain l head) (c.p,c.q)=decide (aF (chain l head) 0 (c.p,c.q)≥0):=rfl
 have hf:0<=aF (chain l head) 0 jM->(at_ (aJ l) jM).isSome=true:=fun h=>wM ((kU _ 0 jM).1 h)
 unfold move
 simp only
 rw[hh]
 by_cases h1:aF (chain l head) 0 (c.p,c.q)<0
 ·simp only[if_pos h1]
  have e:decide (aF (chain l head) 0 (c.p,c.q)≥0)=false:=by simp;omega
  rw[e]
  split
  ·rename_i h2
   simp only[Bool.and_eq_true,decide_eq_true_eq]at h2
   exact⟨.inr ⟨rfl,rfl⟩,.inr rfl,hf h2.1.2⟩
  ·exact⟨.inr ⟨rfl,rfl⟩,.inr rfl,gK hm (.inl rfl)⟩
 ·simp only[if_neg h1]
  have e:decide (aF (chain l head) 0 (c.p,c.q)≥0)=true:=by simp;omega
  rw[e]
  split
  ·rename_i h2
   simp only[Bool.and_eq_true,decide_eq_true_eq]at h2
   exact⟨.inl ⟨rfl,rfl⟩,.inr rfl,hf h2.1.2⟩
  ·exact⟨.inl ⟨rfl,rfl⟩,.inl rfl,hk⟩
structure kA (U:Vw) (o:Off):Prop where
 b:o.b∈U.b
 v:Sub o.v U
 lb:o.v.b.length<=240
 lv:o.v.v.length<=240
theorem kA.mono {U U':Vw}{o:Off}(h:kA U o)(hs:Sub U U'):kA U' o:=⟨hs.1 _ h.b,h.v.trans hs,h.lb,h.lv⟩
structure NdIn (C:Cf) (U:Vw) (t:Int) (n:Nd):Prop where
 v:Sub n.v U
 inn:Sub n.inn U
 ni:Nd2 n.inn
 may:aQ C n.v=true
 ub:∀b∈n.v.b,b.slot<=t/3
 uv:∀v∈n.v.v,v.slot<=t/3
 o:∀o∈n.o,kA U o
 o8:n.o.length<=8
 rev:0<=n.c.rev/\n.c.rev<=t
 cs:n.c.sl<=t/3
 ch:(at_ (aJ n.v.b) (n.c.p,n.c.q)).isSome=true
theorem NdIn.mono {C:Cf}{U U':Vw}{t t':Int}{n:Nd}(h:NdIn C U t n)(hs:Sub U U')(ht:t<=t'):NdIn C U' t' n:=
 ⟨h.v.trans hs,h.inn.trans hs,h.ni,h.may,fun b hb=>by have:=h.ub b hb;omega,fun b hb=>by have:=h.uv b hb;omega,fun o ho=>(h.o o ho).mono hs,h.o8,⟨h.rev.1,by have:=h.rev.2;omega⟩,by have:=h.cs;omega,h.ch⟩
attribute [local irreducible] take join
theorem oH {C:Cf}{U:Vw}{t:Int}{k:Nw}{y:Vw}(h:NdIn C U t k.n)(hs:k.slot=t/3)(hy:Sub y U):NdIn C U t (fF C k y).n:=by
 have L:=xF y (s:=k.slot) (M:=t/3) h.may h.ub h.uv (by omega)
 exact⟨xE C _ _ _ h.v hy,h.inn,h.ni,L.may,L.ub,L.uv,h.o,h.o8,h.rev,h.cs,aDo (bI L.may).2 L.pb h.ch⟩
theorem qL {C:Cf}{U:Vw}{t:Int}{k:Nw}{x:Vw}(h:NdIn C U t k.n)(hx:Sub x U)(hn:Nd2 x):NdIn C U t (lH k x).n:=⟨h.v,hx,hn,h.may,h.ub,h.uv,h.o,h.o8,h.rev,h.cs,h.ch⟩
theorem aBx {C:Cf}{U:Vw}{t:Int}{k:Nw}{l:List Off}(h:NdIn C U t k.n)(hl:∀o∈l,kA U o)(h8:l.length<=8):NdIn C U t (setO k l).n:=⟨h.v,h.inn,h.ni,h.may,h.ub,h.uv,hl,h8,h.rev,h.cs,h.ch⟩
theorem aKi {C:Cf}{U:Vw}{t:Int}{k:Nw}{l:List Off}(h:NdIn C U t k.n)(hl:∀o∈l,kA U o):NdIn C U t (hear C k l).n:=by
 have K:=eM C (k.n.o++l) (setO k [])
 have L:=gL C (k.n.o++l) (setO k []) (Nat.zero_le _)
 refine⟨?_,?_,?_,?_,?_,?_,fun o ho=>(xU ho).elim (h.o o) (hl o),L,?_,?_,?_⟩
 ·exact K.2.2.2.2.1▸h.v
 ·exact K.2.1▸h.inn
 ·exact K.2.1▸h.ni
 ·exact K.2.2.2.2.1▸h.may
 ·exact K.2.2.2.2.1▸h.ub
 ·exact K.2.2.2.2.1▸h.uv
 ·exact K.2.2.1▸h.rev
 ·exact K.2.2.1▸h.cs
 ·have e1:(hear C k l).n.v=k.n.v:=K.2.2.2.2.1
  have e2:(hear C k l).n.c=k.n.c:=K.2.2.1
  rw[e1,e2];exact h.ch
theorem tP (C:Cf)(k:Nw)(l:List Off):(hear C k l).slot=k.slot/\(hear C k l).n.inn=k.n.inn/\(hear C k l).n.c=k.n.c/\(hear C k l).n.tick=k.n.tick/\(hear C k l).n.v=k.n.v/\(hear C k l).n.no=k.n.no/\(hear C k l).told=k.told:=eM C (k.n.o++l) (setO k [])
theorem nF {C:Cf}{U:Vw}{t:Int}:∀(l:List Off) {k:Nw},NdIn C U t k.n->k.slot=t/3->(∀o∈l,kA U o)->NdIn C U t (cX C k l).n/\(cX C k l).slot=k.slot/\(cX C k l).n.no=k.n.no/\(cX C k l).n.c=k.n.c/\(cX C k l).told=k.told
 | [],k,h,hs,_=>⟨h,rfl,rfl,rfl,rfl⟩
 |o::r,k,h,hs,hl=>by
  rw[iA]
  have ho:=hl o (List.mem_cons_self ..)
  have hy:Sub (join o.v (lone o.b)) U:=ho.v.join ⟨fun b hb=>(by rw[List.mem_singleton.1 hb];exact ho.b),fun v hv=>(by cases hv)⟩
  have h1:=oH h hs hy
  have h2:NdIn C U t (lH (fF C k (join o.v (lone o.b))) (join k.n.inn (countL C k (join o.v (lone o.b))))).n:=qL h1 (h.inn.join ((qA C k _).trans hy)) (h.ni.join _)
  exact nF r h2 hs (fun x hx=>hl x (List.mem_cons_of_mem _ hx))
def mB (C:Cf) (n:Nd) (inn:Vw) (ol:List Off):B:=lJ C (gP C (hear C (fS C n inn) ol))
def mV (C:Cf) (n:Nd) (inn:Vw) (ol:List Off):V:=tI C (iB C (hear C (fS C n inn) ol))
structure aFh (C:Cf) (U':Vw) (t:Int) (n:Nd) (r:Nd×List Off):Prop where
 nd:NdIn C U' (t+1) r.1
 tick:r.1.tick=t+1
 no:r.1.no=n.no
 o:∀o∈r.2,kA U' o
 o1:r.2.length<=1
 oz:n.no≠mG C (t/3)->r.2=[]
 c:t%3≠2->r.1.c=n.c
 cs:r.1.c.sl<=t/3
 c2:(r.1.c.rev=n.c.rev/\(t%3=2->sI r.1.v.b (n.c.p,n.c.q) (aL C r.1.v (t/3))=true))\/(r.1.c.rev=n.c.rev+1/\(t%3=2->sI r.1.v.b (n.c.p,n.c.q) (aL C r.1.v (t/3))=false))
theorem aGa {C:Cf}{U:Vw}{t:Int}{n:Nd}{inn:Vw}(h:NdIn C U t n)(hi:Sub inn U):NdIn C U t (fS C n inn).n:=
 ⟨h.v,h.inn.join ((qS C inn).trans hi),h.ni.join _,h.may,h.ub,h.uv,h.o,h.o8,h.rev,h.cs,h.ch⟩
theorem tV {C:Cf}{U:Vw}{t:Int}{k:Nw}(h:NdIn C U t k.n)(hs:k.slot=t/3):NdIn C U t (gP C k).n:=
 qL (oH h hs h.inn) ((qA C k _).trans h.inn) (h.ni.countL C k)
theorem aBn {C:Cf}{U:Vw}{t:Int}{k:Nw}(h:NdIn C U t k.n)(hs:k.slot=t/3):NdIn C U t (bP C k).n:=
 aBx (tV h hs) (fun o ho=>by cases ho) (Nat.zero_le _)
theorem aEb {C:Cf}{U U':Vw}{t:Int}{k:Nw}(h:NdIn C U t k.n)(hs:k.slot=t/3)(h0:k.told=[])(hU:Sub U U')(hB:lJ C (gP C k)∈U'.b):
  NdIn C U' t (first C k).n/\(first C k).n.no=k.n.no/\(first C k).n.c=k.n.c/\(∀o∈(first C k).told,kA U' o)/\(first C k).told.length<=1/\(k.n.no≠mG C (t/3)->(first C k).told=[]):=by
 have h1:=tV h hs
 unfold first
 split
 ·rename_i e
  refine⟨?_,rfl,rfl,?_,Nat.le_refl _,fun e2=>absurd (by rw[e,hs]) e2⟩
  ·exact oH (k:=nE (gP C k) _) (h1.mono hU (Int.le_refl _)) hs ⟨fun b hb=>(by rw[List.mem_singleton.1 hb];exact hB),fun v hv=>(by cases hv)⟩
  ·intro o ho
   rw[List.mem_singleton.1 ho]
   have hl:=eJ h1.may
   exact⟨hB,h1.v.trans hU,by show _<=240;exact Nat.le_trans hl.1 (by omega),hl.2⟩
 ·exact⟨h.mono hU (Int.le_refl _),rfl,rfl,fun o ho=>(by rw[h0]at ho;cases ho),(by rw[h0];exact Nat.zero_le _),fun _=>h0⟩
theorem zF {C:Cf}{U U':Vw}{t:Int}{k:Nw}(h:NdIn C U t k.n)(hs:k.slot=t/3)(h0:k.told=[])(hU:Sub U U')(hV:tI C (iB C k)∈U'.v):
  NdIn C U' t (second C k).n/\(second C k).n.no=k.n.no/\(second C k).n.c=k.n.c/\(second C k).told=[]:=by
 have G:=nF k.n.o h hs h.o
 have h1:NdIn C U t (iB C k).n:=aBx G.1 (fun o ho=>by cases ho) (Nat.zero_le _)
 unfold second
 split
 ·refine⟨?_,G.2.2.1,G.2.2.2.1,G.2.2.2.2.trans h0⟩
  refine qL (h1.mono hU (Int.le_refl _)) ((h1.inn.trans hU).join ⟨fun b hb=>(by cases hb),fun v hv=>(by rw[List.mem_singleton.1 hv];exact hV)⟩) (h1.ni.join _)
 ·exact⟨h1.mono hU (Int.le_refl _),G.2.2.1,G.2.2.2.1,G.2.2.2.2.trans h0⟩
theorem aBl (C:Cf)(k:Nw):(eG C k).n.v=(bP C k).n.v/\(eG C k).n.inn=(bP C k).n.inn/\(eG C k).n.o=(bP C k).n.o/\(eG C k).n.no=k.n.no/\(eG C k).told=k.told/\(eG C k).n.full=(bP C k).n.full:=⟨rfl,rfl,rfl,rfl,rfl,rfl⟩
theorem aFy {C:Cf}{U U':Vw}{t:Int}{n:Nd}{inn:Vw}{ol:List Off}(h:NdIn C U t n)(ht:n.tick=t)(hi:Sub inn U)(hl:∀o∈ol,kA U o)(hU:Sub U U')(hB:mB C n inn ol∈U'.b)(hV:mV C n inn ol∈U'.v):
  aFh C U' t n (step C n inn ol):=by
 have h0:=aKi (aGa h hi) hl
 have K:=tP C (fS C n inn) ol
 have hs:(hear C (fS C n inn) ol).slot=t/3:=K.1.trans (by show n.tick/3=_;rw[ht])
 have htl:(hear C (fS C n inn) ol).told=[]:=K.2.2.2.2.2.2
 have hno:(hear C (fS C n inn) ol).n.no=n.no:=K.2.2.2.2.2.1
 have hc:(hear C (fS C n inn) ol).n.c=n.c:=K.2.2.1
 have htk:(hear C (fS C n inn) ol).n.tick=t:=K.2.2.2.1.trans ht
 unfold mB at hB
 unfold mV at hV
 unfold step nC
 rw[ht]
 generalize hear C (fS C n inn) ol=k at *
 by_cases e0:t%3=0
 ·rw[if_pos e0]
  have L:=aEb h0 hs htl hU hB
  refine⟨⟨L.1.v,L.1.inn,L.1.ni,L.1.may,?_,?_,L.1.o,L.1.o8,?_,?_,L.1.ch⟩,?_,L.2.1.trans hno,L.2.2.2.1,L.2.2.2.2.1,fun e=>L.2.2.2.2.2 (by rw[hno];exact e),fun _=>L.2.2.1.trans hc,(L.1.cs:_),.inl ⟨?_,fun e=>by omega⟩⟩
  ·intro b hb;have:=L.1.ub b hb;omega
  ·intro b hb;have:=L.1.uv b hb;omega
  ·have:=L.1.rev;exact⟨this.1,by have:=this.2;show(first C k).n.c.rev<=t+1;omega⟩
  ·have:=L.1.cs;show(first C k).n.c.sl<=(t+1)/3;omega
  ·show(first C k).n.tick+1=t+1
   rw[lM,htk]
  ·show(first C k).n.c.rev=_
   rw[L.2.2.1,hc]
 ·rw[if_neg e0]
  by_cases e1:t%3=1
  ·rw[if_pos e1]
   have L:=zF h0 hs htl hU hV
   refine⟨⟨L.1.v,L.1.inn,L.1.ni,L.1.may,?_,?_,L.1.o,L.1.o8,?_,?_,L.1.ch⟩,?_,L.2.1.trans hno,?_,?_,fun e=>L.2.2.2,fun _=>L.2.2.1.trans hc,(L.1.cs:_),.inl ⟨?_,fun e=>by omega⟩⟩
   ·intro b hb;have:=L.1.ub b hb;omega
   ·intro b hb;have:=L.1.uv b hb;omega
   ·have:=L.1.rev;exact⟨this.1,by have:=this.2;show(second C k).n.c.rev<=t+1;omega⟩
   ·have:=L.1.cs;show(second C k).n.c.sl<=(t+1)/3;omega
   ·show(second C k).n.tick+1=t+1
    rw[jU,htk]
   ·intro o ho
    have:o∈(second C k).told:=ho
    rw[L.2.2.2]at this
    cases this
   ·show(second C k).told.length<=1
    rw[L.2.2.2];exact Nat.zero_le _
   ·show(second C k).n.c.rev=_
    rw[L.2.2.1,hc]
  ·rw[if_neg e1]
   have L:=(aBn h0 hs).mono hU (Int.le_refl t)
   have E:=aBl C k
   have M:=aGm (c:=k.n.c) (l:=(bP C k).n.v.b) (head:=aL C (bP C k).n.v k.slot) (jM:=(bQ C (bP C k).n.v k.slot (aL C (bP C k).n.v k.slot)).1) (is:=(bQ C (bP C k).n.v k.slot (aL C (bP C k).n.v k.slot)).2) (slot:=k.slot) (bI L.may).2 L.ch
   have hm:(eG C k).n.c=move k.n.c (bP C k).n.v.b (aL C (bP C k).n.v k.slot) (bQ C (bP C k).n.v k.slot (aL C (bP C k).n.v k.slot)).1 (bQ C (bP C k).n.v k.slot (aL C (bP C k).n.v k.slot)).2 k.slot:=rfl
   rw[<-hm,hc,hs]at M
   have hr:=h0.rev
   have hcs:=h0.cs
   rw[hc]at hr hcs
   refine⟨⟨L.v,L.inn,L.ni,L.may,?_,?_,L.o,L.o8,?_,?_,M.2.2⟩,?_,hno,?_,?_,fun e=>?_,fun e=>?_,?_,?_⟩
   ·intro b hb;have:=L.ub b hb;omega
   ·intro b hb;have:=L.uv b hb;omega
   ·show 0<=(eG C k).n.c.rev/\(eG C k).n.c.rev<=t+1
    rcases M.1 with⟨e,_⟩|⟨e,_⟩<;>rw[e]<;>omega
   ·show(eG C k).n.c.sl<=(t+1)/3
    rcases M.2.1 with e|e<;>rw[e]<;>omega
   ·show(eG C k).n.tick+1=t+1
    rw[lF,htk]
   ·intro o ho
    have:o∈(eG C k).told:=ho
    rw[E.2.2.2.2.1,htl]at this
    cases this
   ·show(eG C k).told.length<=1
    rw[E.2.2.2.2.1,htl];exact Nat.zero_le _
   ·show(eG C k).told=[]
    rw[E.2.2.2.2.1,htl]
   ·omega
   ·show(eG C k).n.c.sl<=t/3
    rcases M.2.1 with e|e<;>rw[e]<;>omega
   ·exact M.1.imp (fun e=>⟨e.1,fun _=>e.2⟩) (fun e=>⟨e.1,fun _=>e.2⟩)
end Tp
end
section
namespace Tp
attribute [local irreducible] take join
structure eF (U:Vw) (al:List Ac):Prop where
 len:al.length<=25
 sub:∀a∈al,Sub a.v U
 lb:∀a∈al,a.v.b.length<=8/\a.v.v.length<=8
theorem eF.none (U:Vw):eF U []:=⟨Nat.zero_le _,fun a ha=>(by cases ha),fun a ha=>(by cases ha)⟩
theorem eF.mono {U U':Vw}{al:List Ac}(h:eF U al)(hs:Sub U U'):eF U' al:=⟨h.len,fun a ha=>(h.sub a ha).trans hs,h.lb⟩
structure WIn (U:Vw) (k:Wd):Prop where
 may:mayC k.c.W k.c.ep k.c.nu k.c.de=true
 tick:3<=k.tick/\k.tick<=1000
 n12:k.n.length<=12
 nd:∀n∈k.n,NdIn k.c U k.tick n
 nt:∀n∈k.n,n.tick=k.tick
 o:∀o∈k.o,kA U o
 o1:k.o.length<=1
 nos:(k.n.map Nd.no).Nodup
 ub:(U.b.length:Int)<=200+12*k.tick
 uv:(U.v.length:Int)<=200+12*k.tick
theorem WIn.u {U:Vw}{k:Wd}(h:WIn U k):U.b.length<=12200/\U.v.length<=12200:=by
 have:=h.tick.2
 have:=h.ub
 have:=h.uv
 omega
theorem qE {U:Vw}:∀(l:List Nd) (x:Vw),(∀n∈l,Sub n.v U/\Sub n.inn U)->Sub x U->Nd2 x->Sub (eT x l) U/\Nd2 (eT x l)/\Sub x (eT x l)/\∀n∈l,Sub (gH n) (eT x l)
 | [],x,_,h1,h2=>⟨h1,h2,Sub.refl _,fun n hn=>(by cases hn)⟩
 |n::r,x,hl,h1,h2=>by
  have hn:=hl n (List.mem_cons_self ..)
  have hk:Sub (gH n) U:=hn.1.join hn.2
  have ih:=qE r (join x (gH n)) (fun m hm=>hl m (List.mem_cons_of_mem _ hm)) (h1.join hk) (h2.join _)
  refine⟨ih.1,ih.2.1,(pV _ _).trans ih.2.2.1,fun m hm=>?_⟩
  rcases List.mem_cons.1 hm with rfl|hm
  ·exact(xR _ _).trans ih.2.2.1
  ·exact ih.2.2.2 m hm
theorem oQ {U:Vw}{l:List Nd}(hl:∀n∈l,Sub n.v U/\Sub n.inn U):Sub (all l) U/\Nd2 (all l)/\∀n∈l,Sub (gH n) (all l):=by
 have h:=qE l ⟨[],[]⟩ hl (Sub.nil U) Nd2.nil
 exact⟨h.1,h.2.1,h.2.2.2⟩
theorem WIn.subs {U:Vw}{k:Wd}(h:WIn U k):∀n∈k.n,Sub n.v U/\Sub n.inn U:=fun n hn=>⟨(h.nd n hn).v,(h.nd n hn).inn⟩
theorem aGz (k:Wd)(a:Ac):Sub (fine k a) a.v:=⟨fun b hb=>(List.mem_filter.1 hb).1,fun v hv=>(List.mem_filter.1 hv).1⟩
structure mE (U:Vw) (io:Vw×List Off):Prop where
 s:Sub io.1 U
 n:Nd2 io.1
 o:∀o∈io.2,kA U o
theorem aFt {U:Vw}{k:Wd}{i:Nat}{io:Vw×List Off}{a:Ac}(h:mE U io)(ha:Sub a.v U)(hl:a.v.b.length<=8/\a.v.v.length<=8):mE U (dH k i io a)/\(dH k i io a).2.length<=io.2.length+1:=by
 have hf:=(aGz k a).trans ha
 unfold dH
 split
 ·split
  ·split
   ·exact⟨h,Nat.le_succ _⟩
   ·rename_i b r e
    have hb:((fine k a).b).length<=8:=Nat.le_trans (List.length_filter_le _ _) hl.1
    have hv:((fine k a).v).length<=8:=Nat.le_trans (List.length_filter_le _ _) hl.2
    rw[e,List.length_cons]at hb
    split
    ·refine⟨⟨h.s,h.n,fun o ho=>?_⟩,by simp⟩
     rcases List.mem_append.1 ho with ho|ho
     ·exact h.o o ho
     ·rw[List.mem_singleton.1 ho]
      exact⟨hf.1 b (by rw[e];exact List.mem_cons_self ..),⟨fun x hx=>hf.1 x (by rw[e];exact List.mem_cons_of_mem _ hx),hf.2⟩,by show r.length<=240;omega,by show(fine k a).v.length<=240;omega⟩
    ·exact⟨h,Nat.le_succ _⟩
  ·exact⟨⟨h.s.join hf,h.n.join _,h.o⟩,Nat.le_succ _⟩
 ·exact⟨h,Nat.le_succ _⟩
theorem tH {U:Vw}{k:Wd}{i:Nat}:∀(l:List Ac) {io:Vw×List Off},mE U io->(∀a∈l,Sub a.v U/\a.v.b.length<=8/\a.v.v.length<=8)->mE U (l.foldl (dH k i) io)/\(l.foldl (dH k i) io).2.length<=io.2.length+l.length
 | [],io,h,_=>⟨h,Nat.le_refl _⟩
 |a::r,io,h,hl=>by
  have ha:=hl a (List.mem_cons_self ..)
  have h1:=aFt (k:=k) (i:=i) h ha.1 ha.2
  have h2:=tH (k:=k) (i:=i) r h1.1 (fun x hx=>hl x (List.mem_cons_of_mem _ hx))
  refine⟨h2.1,?_⟩
  have:=h1.2
  have:=h2.2
  show(r.foldl (dH k i) (dH k i io a)).2.length<=_
  rw[List.length_cons]
  omega
theorem WIn.mail0 {U:Vw}{k:Wd}(h:WIn U k):mE U (all k.n,k.o):=⟨(oQ h.subs).1,(oQ h.subs).2.1,h.o⟩
theorem rA {U:Vw}{k:Wd}{al:List Ac}(h:WIn U k)(ha:eF U al)(i:Nat)(l:List Ac)(hl:∀a∈l,a∈al):mE U (l.foldl (dH k i) (all k.n,k.o))/\(l.foldl (dH k i) (all k.n,k.o)).2.length<=k.o.length+l.length:=
 tH l h.mail0 (fun a x=>⟨ha.sub a (hl a x),ha.lb a (hl a x)⟩)
theorem kY {k:Wd}{al:List Ac}{a:Ac}(h:a∈calls k al):a∈al:=(List.mem_filter.1 h).1
theorem mE.len {U:Vw}{k:Wd}{io:Vw×List Off}(h:WIn U k)(m:mE U io):io.1.b.length<=12200/\io.1.v.length<=12200:=by
 have:=m.n.len m.s
 have:=h.u
 omega
theorem tJ {U:Vw}{k:Wd}(h:WIn U k){n:Nd}(hn:n∈k.n):(gH n).b.length<=1000000/\(gH n).v.length<=1000000:=by
 have h1:=mM n.v n.inn
 have h2:=eJ (h.nd n hn).may
 have h3:=(h.nd n hn).ni.len (h.nd n hn).inn
 have:=h.u
 show(join n.v n.inn).b.length<=_/\(join n.v n.inn).v.length<=_
 omega
theorem aFc {U:Vw}{k:Wd}(h:WIn U k)(j:Nat):(all (k.n.take j)).b.length<=12200/\(all (k.n.take j)).v.length<=12200:=by
 have:=oQ (U:=U) (l:=k.n.take j) (fun n hn=>h.subs n (List.mem_of_mem_take hn))
 have h2:=this.2.1.len this.1
 have:=h.u
 omega
def aGq (k:Wd) (al:List Ac) (U:Vw):Vw:=⟨U.b++k.n.mapIdx (fun i n=>mB k.c n (eY k al i).1 (eY k al i).2),U.v++k.n.mapIdx (fun i n=>mV k.c n (eY k al i).1 (eY k al i).2)⟩
theorem nU (k:Wd)(al:List Ac)(U:Vw):Sub U (aGq k al U):=⟨fun b hb=>List.mem_append_left _ hb,fun b hb=>List.mem_append_left _ hb⟩
theorem fI {U:Vw}{k:Wd}{al:List Ac}(h:WIn U k)(ha:eF U al){i:Nat}{n:Nd}(hn:k.n[i]?=some n):aFh k.c (aGq k al U) k.tick n (eX k al i n):=by
 have hm:=List.mem_of_getElem? hn
 obtain⟨hi,e⟩:=List.getElem?_eq_some_iff.1 hn
 have m:=rA h ha i (calls k al) (fun a=>kY)
 refine aFy (h.nd n hm) (h.nt n hm) m.1.s m.1.o (nU k al U) (List.mem_append_right _ ?_) (List.mem_append_right _ ?_)
 ·exact List.mem_mapIdx.2 ⟨i,hi,by rw[e]⟩
 ·exact List.mem_mapIdx.2 ⟨i,hi,by rw[e]⟩
theorem eV (p:Int):∀(l:List (Int×List Off)),(l.map Prod.fst).Nodup->(∀x∈l,x.2.length<=1/\(x.1≠p->x.2=[]))->((l.map Prod.snd).flatten).length<=1/\(p∉l.map Prod.fst->(l.map Prod.snd).flatten=[])
 | [],_,_=>⟨Nat.zero_le _,fun _=>rfl⟩
 |x::r,hn,hl=>by
  rw[List.map_cons,List.nodup_cons]at hn
  have ih:=eV p r hn.2 (fun y hy=>hl y (List.mem_cons_of_mem _ hy))
  have hx:=hl x (List.mem_cons_self ..)
  rw[List.map_cons,List.flatten_cons,List.length_append]
  by_cases e:x.1=p
  ·rw[ih.2 (fun h=>hn.1 (by rw[e];exact h))]
   refine⟨by simpa using hx.1,fun h=>absurd (by simp[e]) h⟩
  ·rw[hx.2 e]
   refine⟨by simpa using ih.1,fun h=>?_⟩
   rw[List.nil_append]
   exact ih.2 (fun h2=>h (by rw[List.map_cons];exact List.mem_cons_of_mem _ h2))
theorem aEe {U:Vw}{k:Wd}{al:List Ac}(h:WIn U k)(ha:eF U al)(j:Nat):(doO k al j).length<=1:=by
 have hh:=eV (mG k.c (k.tick/3)) (k.n.mapIdx (fun i n=>(n.no,(eX k al i n).2))) (by
  have:(k.n.mapIdx (fun i n=>(n.no,(eX k al i n).2))).map Prod.fst=k.n.map Nd.no:=by
   refine List.ext_getElem (by simp) (fun i h1 h2=>by simp)
  rw[this];exact h.nos) (fun x hx=>by
  obtain⟨i,hi,rfl⟩:=List.mem_mapIdx.1 hx
  have L:=fI h ha (List.getElem?_eq_getElem hi)
  exact⟨L.o1,L.oz⟩)
 have e:(k.n.mapIdx (fun i n=>(n.no,(eX k al i n).2))).map Prod.snd=k.n.mapIdx (fun i n=>(eX k al i n).2):=by
  refine List.ext_getElem (by simp) (fun i h1 h2=>by simp)
 rw[e]at hh
 unfold doO
 have h1:=hh.1
 rw[<-List.take_append_drop j (k.n.mapIdx (fun i n=>(eX k al i n).2)),List.flatten_append,List.length_append]at h1
 omega
theorem aMm {U:Vw}{k:Wd}{al:List Ac}(h:WIn U k)(ha:eF U al){j:Nat}:∀o∈doO k al j,kA (aGq k al U) o:=by
 intro o ho
 obtain⟨l,hl,ho⟩:=List.mem_flatten.1 ho
 obtain⟨i,hi,rfl⟩:=List.mem_mapIdx.1 (List.mem_of_mem_take hl)
 exact(fI h ha (List.getElem?_eq_getElem hi)).o o ho
theorem wI {k:Wd}{al:List Ac}{n':Nd}(h:n'∈doN k al):∃(i:Nat) (n:Nd),k.n[i]?=some n/\n'=(eX k al i n).1:=by
 obtain⟨i,hi,rfl⟩:=List.mem_mapIdx.1 h
 exact⟨i,k.n[i],List.getElem?_eq_getElem hi,rfl⟩
theorem WIn.step {U:Vw}{k:Wd}{al:List Ac}(h:WIn U k)(ha:eF U al)(ht:k.tick<1000):WIn (aGq k al U) (doW k al):=by
 refine⟨h.may,⟨by have:=h.tick.1;show 3<=k.tick+1;omega,by show k.tick+1<=1000;omega⟩,?_,?_,?_,aMm h ha,aEe h ha _,?_,?_,?_⟩
 ·show(k.n.mapIdx _).length<=12
  rw[List.length_mapIdx];exact h.n12
 ·intro n' hn'
  obtain⟨i,n,hn,rfl⟩:=wI hn'
  exact(fI h ha hn).nd
 ·intro n' hn'
  obtain⟨i,n,hn,rfl⟩:=wI hn'
  exact(fI h ha hn).tick
 ·show((doN k al).map Nd.no).Nodup
  have:(doN k al).map Nd.no=k.n.map Nd.no:=by
   unfold doN
   refine List.ext_getElem (by simp) (fun i h1 h2=>?_)
   rw[List.getElem_map,List.getElem_mapIdx,List.getElem_map]
   exact(fI h ha (List.getElem?_eq_getElem (by simpa using h2))).no
  rw[this];exact h.nos
 ·show((U.b++_:List B).length:Int)<=200+12*(k.tick+1)
  rw[List.length_append,List.length_mapIdx]
  have:=h.ub
  have:=h.n12
  omega
 ·show((U.v++_:List V).length:Int)<=200+12*(k.tick+1)
  rw[List.length_append,List.length_mapIdx]
  have:=h.uv
  have:=h.n12
  omega
theorem mJ {U:Vw}:∀(l:List Off) (x:Vw),(∀o∈l,kA U o)->Sub x U->Nd2 x->Sub (gF x l) U/\Nd2 (gF x l)/\Sub x (gF x l)
 | [],x,_,h1,h2=>⟨h1,h2,Sub.refl _⟩
 |o::r,x,hl,h1,h2=>by
  have ho:=hl o (List.mem_cons_self ..)
  have hb:Sub (lone o.b) U:=⟨fun b hb=>(by rw[List.mem_singleton.1 hb];exact ho.b),fun v hv=>(by cases hv)⟩
  have ih:=mJ r (join (join x o.v) (lone o.b)) (fun m hm=>hl m (List.mem_cons_of_mem _ hm)) ((h1.join ho.v).join hb) ((h2.join _).join _)
  exact⟨ih.1,ih.2.1,((pV _ _).trans (pV _ _)).trans ih.2.2⟩
theorem qM {U:Vw}:∀(l:List Ac) (x:Vw),(∀a∈l,Sub a.v U)->Sub x U->Nd2 x->Sub (mF x l) U/\Nd2 (mF x l)/\Sub x (mF x l)
 | [],x,_,h1,h2=>⟨h1,h2,Sub.refl _⟩
 |o::r,x,hl,h1,h2=>by
  have ho:=hl o (List.mem_cons_self ..)
  have ih:=qM r (join x o.v) (fun m hm=>hl m (List.mem_cons_of_mem _ hm)) (h1.join ho) (h2.join _)
  exact⟨ih.1,ih.2.1,(pV _ _).trans ih.2.2⟩
end Tp
theorem Tp.WIn.doIn {U:Tp.Vw}{k:Tp.Wd}{al:List Tp.Ac}(h:Tp.WIn U k)(ha:Tp.eF U al):DoIn k al:=by
 have hu:=h.u
 refine⟨h.may,⟨h.tick.1,by have:=h.tick.2;omega⟩,by have:=h.n12;omega,fun n hn=>Tp.tJ h hn,fun j=>?_,fun i j=>?_,fun i=>?_,fun i n hn=>?_,fun j=>?_⟩
 ·have:=Tp.aFc h j;omega
 ·have m:=(Tp.rA h ha i ((Tp.calls k al).take j) (fun a x=>Tp.kY (List.mem_of_mem_take x))).1.len h
  omega
 ·have m:=(Tp.rA h ha i (Tp.calls k al) (fun a=>Tp.kY)).2
  have h1:(Tp.calls k al).length<=al.length:=List.length_filter_le _ _
  have:=ha.len
  have:=h.o1
  show((Tp.calls k al).foldl (Tp.dH k i) (Tp.all k.n,k.o)).2.length<=1000000
  omega
 ·have hm:=List.mem_of_getElem? hn
  have m:=(Tp.rA h ha i (Tp.calls k al) (fun a=>Tp.kY)).1
  have N:=h.nd n hm
  have ht:=h.nt n hm
  have hk:=h.tick
  have hl:=(N.ni.join (Tp.only k.c (Tp.eY k al i).1)).len (N.inn.join ((Tp.qS k.c _).trans m.s))
  refine⟨by omega,⟨N.rev.1,by have:=N.rev.2;omega⟩,by omega,fun o ho=>?_⟩
  have hh:Tp.kA U o:=(List.mem_append.1 ho).elim (N.o o) (m.o o)
  exact⟨Nat.le_trans hh.lb (by omega),Nat.le_trans hh.lv (by omega)⟩
 ·have:=Tp.aEe h ha j;omega
theorem Tp.WIn.seIn {U:Tp.Vw}{k:Tp.Wd}{al:List Tp.Ac}(h:Tp.WIn U k)(ha:Tp.eF U al):SeIn k al:=by
 have hu:=h.u
 have A:=Tp.oQ h.subs
 refine⟨fun n hn=>Tp.tJ h hn,fun j=>?_,fun j=>?_,fun j=>?_⟩
 ·have:=Tp.aFc h j;omega
 ·have s:=Tp.mJ (k.o.take j) (Tp.all k.n) (fun o ho=>h.o o (List.mem_of_mem_take ho)) A.1 A.2.1
  have:=s.2.1.len s.1
  omega
 ·have s:=Tp.mJ k.o (Tp.all k.n) h.o A.1 A.2.1
  have s2:=Tp.qM (al.take j) _ (fun o ho=>ha.sub o (List.mem_of_mem_take ho)) s.1 s.2.1
  have:=s2.2.1.len s2.1
  omega
namespace Tp
def aLb (al:List Ac):Vw:=⟨al.flatMap (fun a=>a.v.b),al.flatMap (fun a=>a.v.v)⟩
theorem bR {α β:Type}(f:α->List β)(m:Nat):∀(l:List α),(∀a∈l,(f a).length<=m)->(l.flatMap f).length<=l.length*m
 | [],_=>Nat.zero_le _
 |a::r,h=>by
  have ih:=bR f m r (fun x hx=>h x (List.mem_cons_of_mem _ hx))
  have:=h a (List.mem_cons_self ..)
  rw[List.flatMap_cons,List.length_append,List.length_cons,Nat.succ_mul]
  omega
theorem aLa {al:List Ac}(h:al.length<=25)(hl:∀a∈al,a.v.b.length<=8/\a.v.v.length<=8):eF (aLb al) al:=
 ⟨h,fun a ha=>⟨fun b hb=>List.mem_flatMap.2 ⟨a,ha,hb⟩,fun b hb=>List.mem_flatMap.2 ⟨a,ha,hb⟩⟩,hl⟩
theorem uZ {c:Cf}(hm:mayC c.W c.ep c.nu c.de=true):aQ c ⟨[],[]⟩=true:=by
 unfold aQ
 rw[hm]
 try rfl
theorem aJw {c:Cf}{U:Vw}(hm:mayC c.W c.ep c.nu c.de=true)(i:Int):NdIn c U 3 (newN i):=
 ⟨Sub.nil U,Sub.nil U,Nd2.nil,uZ hm,fun b hb=>(by cases hb),fun b hb=>(by cases hb),fun b hb=>(by cases hb),Nat.zero_le _,⟨Int.le_refl _,by show(0:Int)<=3;omega⟩,by show(0:Int)<=3/3;omega,rfl⟩
theorem aJv {c:Cf}{bad:List Int}{al:List Ac}(hm:mayC c.W c.ep c.nu c.de=true)(h:al.length<=25)(hl:∀a∈al,a.v.b.length<=8/\a.v.v.length<=8):WIn (aLb al) (newW c bad):=by
 have hw:c.W.length<=12:=by
  unfold mayC at hm
  simp only[Bool.and_eq_true,decide_eq_true_eq]at hm
  exact hm.1.1.1.1.1.1.1.2
 refine⟨hm,⟨by show(3:Int)<=3;omega,by show(3:Int)<=1000;omega⟩,?_,?_,?_,fun o ho=>(by cases ho),Nat.zero_le _,?_,?_,?_⟩
 ·show(List.map _ _).length<=12
  rw[List.length_map]
  refine Nat.le_trans (List.length_filter_le _ _) ?_
  rw[List.length_range];exact hw
 ·intro n hn
  obtain⟨i,_,rfl⟩:=List.mem_map.1 hn
  exact aJw hm i
 ·intro n hn
  obtain⟨i,_,rfl⟩:=List.mem_map.1 hn
  rfl
 ·show((List.map _ _).map Nd.no).Nodup
  rw[List.map_map]
  refine List.Pairwise.map _ ?_ (List.nodup_range.filter _)
  intro a b hab e
  have e2:(a:Int)=b:=e
  omega
 ·have:=bR (fun a:Ac=>a.v.b) 8 al (fun a ha=>(hl a ha).1)
  show((al.flatMap (fun a=>a.v.b)).length:Int)<=200+12*3
  omega
 ·have:=bR (fun a:Ac=>a.v.v) 8 al (fun a ha=>(hl a ha).2)
  show((al.flatMap (fun a=>a.v.v)).length:Int)<=200+12*3
  omega
def WOk (al:List Ac) (k:Wd):Prop:=∃U,WIn U k/\eF U al
theorem qY {c:Cf}{bad:List Int}{al:List Ac}(hm:mayC c.W c.ep c.nu c.de=true)(h:al.length<=25)(hl:∀a∈al,a.v.b.length<=8/\a.v.v.length<=8):WOk al (newW c bad):=⟨aLb al,aJv hm h hl,aLa h hl⟩
theorem WOk.step {al al':List Ac}{k:Wd}(h:WOk al k)(hs:al'=al\/al'=[])(ht:k.tick<1000):WOk al (doW k al')/\DoIn k al'/\SeIn (doW k al') al:=by
 obtain⟨U,h1,h2⟩:=h
 have h3:eF U al':=by
  rcases hs with rfl|rfl
  ·exact h2
  ·exact eF.none U
 have h4:=h1.step h3 ht
 have h5:=h2.mono (nU k al' U)
 exact⟨⟨_,h4,h5⟩,h1.doIn h3,h4.seIn h5⟩
structure aMw (k:Wd):Prop where
 o:k.o.length<=1
 n:∀n∈k.n,n.tick=k.tick/\n.v.b.length<=60/\n.v.v.length<=240/\n.o.length<=8/\Tp.may n.v.b=true
theorem WOk.room {al:List Ac}{k:Wd}(h:WOk al k):aMw k:=by
 obtain⟨U,h1,h2⟩:=h
 exact⟨h1.o1,fun n hn=>⟨h1.nt n hn,(eJ (h1.nd n hn).may).1,(eJ (h1.nd n hn).may).2,(h1.nd n hn).o8,(bI (h1.nd n hn).may).2⟩⟩
structure aNy (C:Cf) (t:Int) (n n':Nd):Prop where
 c:t%3≠2->n'.c=n.c
 lo:n.c.rev<=n'.c.rev
 hi:n'.c.rev<=n.c.rev+1
 sl:n'.c.sl<=t/3
 un:t%3=2->decide (n'.c.rev=n.c.rev)=sI n'.v.b (n.c.p,n.c.q) (aL C n'.v (t/3))
 ch:chain n'.v.b (n'.c.p,n'.c.q)≠[]
 tk:n'.tick=t+1
 rv:0<=n.c.rev/\n.c.rev<=t
theorem WOk.cur {al:List Ac}{k:Wd}(h:WOk al k){i:Nat}{n:Nd}(hn:k.n[i]?=some n):(doW k al).n[i]?=some (eX k al i n).1/\aNy k.c k.tick n (eX k al i n).1:=by
 obtain⟨U,h1,h2⟩:=h
 have L:=fI h1 h2 hn
 have N:=h1.nd n (List.mem_of_getElem? hn)
 obtain⟨hi,e⟩:=List.getElem?_eq_some_iff.1 hn
 refine⟨?_,L.c,?_,?_,?_,fun ht=>?_,aHn (bI L.nd.may).2 L.nd.ch,L.tick,N.rev⟩
 ·show(k.n.mapIdx _)[i]?=_
  rw[List.getElem?_mapIdx,hn]
  try rfl
 ·rcases L.c2 with⟨e,_⟩|⟨e,_⟩<;>omega
 ·rcases L.c2 with⟨e,_⟩|⟨e,_⟩<;>omega
 ·exact L.cs
 ·rcases L.c2 with⟨e,f⟩|⟨e,f⟩
  ·rw[f ht];simpa using e
  ·rw[f ht]
   simp only[decide_eq_false_iff_not]
   omega
end Tp
end
end Go.Proofs.YtbbhinehcncmeaaGreat
