/- A part of the proof of the laws of the top: TpInv, TpPlA. No condition. -/
import Derived.Test.YtbbhinehcncmeaaGreatG28
namespace Go.Proofs.YtbbhinehcncmeaaGreat
open Go.RowKit
set_option linter.unusedSimpArgs false
set_option linter.unusedVariables false
set_option linter.unusedSectionVars false
namespace Tp
theorem nQ {α:Type} [DecidableEq α]:∀(l U:List α),l.Nodup->(∀x∈l,x∈U)->l.length<=U.length
 | [],_,_,_=>Nat.zero_le _
 |x::r,U,h,hs=>by
  have h1:=List.nodup_cons.1 h
  have h2:=nQ r (U.erase x) h1.2 (fun y hy=>(List.mem_erase_of_ne (a:=y) (b:=x) (fun e=>h1.1 (by rw[<-e];exact hy))).2 (hs y (List.mem_cons_of_mem _ hy)))
  have h3:=List.length_erase_of_mem (hs x (List.mem_cons_self ..))
  have h4:=List.length_pos_of_mem (hs x (List.mem_cons_self ..))
  simp only[List.length_cons]
  omega
theorem mR {α:Type} [DecidableEq α] (b:List α):∀(a:List α),a.Nodup->(dL a b).Nodup:=by
 induction b with
 |nil=>intro a h;exact h
 |cons y r ih=>
  intro a h
  show(dL (if has a y=true then a else a++[y]) r).Nodup
  by_cases e:has a y=true
  ·rw[if_pos e];exact ih a h
  ·rw[if_neg e]
   refine ih _ ?_
   rw[List.nodup_append]
   refine⟨h,by simp,fun x hx z hz e2=>?_⟩
   rw[List.mem_singleton]at hz
   subst hz
   subst e2
   exact e ((fO a x).2 hx)
def Sub (x U:Vw):Prop:=(∀b∈x.b,b∈U.b)/\∀v∈x.v,v∈U.v
def Nd2 (x:Vw):Prop:=x.b.Nodup/\x.v.Nodup
theorem Sub.refl (x:Vw):Sub x x:=⟨fun _ h=>h,fun _ h=>h⟩
theorem Sub.nil (U:Vw):Sub ⟨[],[]⟩ U:=⟨fun _ h=>(by cases h),fun _ h=>(by cases h)⟩
theorem Nd2.nil :Nd2 ⟨[],[]⟩:=⟨List.nodup_nil,List.nodup_nil⟩
theorem Sub.trans {x y z:Vw}(h:Sub x y)(h2:Sub y z):Sub x z:=⟨fun b hb=>h2.1 b (h.1 b hb),fun v hv=>h2.2 v (h.2 v hv)⟩
theorem Sub.join {x y U:Vw}(h:Sub x U)(h2:Sub y U):Sub (join x y) U:=⟨fun b hb=>((fL _ _ b).1 hb).elim (h.1 b) (h2.1 b),fun v hv=>((fL _ _ v).1 hv).elim (h.2 v) (h2.2 v)⟩
theorem pV (x y:Vw):Sub x (join x y):=⟨fun b hb=>(fL _ _ b).2 (.inl hb),fun v hv=>(fL _ _ v).2 (.inl hv)⟩
theorem xR (x y:Vw):Sub y (join x y):=⟨fun b hb=>(fL _ _ b).2 (.inr hb),fun v hv=>(fL _ _ v).2 (.inr hv)⟩
theorem Nd2.join {x:Vw}(h:Nd2 x)(y:Vw):Nd2 (join x y):=⟨mR _ _ h.1,mR _ _ h.2⟩
theorem qS (c:Cf)(x:Vw):Sub (only c x) x:=⟨fun b hb=>(List.mem_filter.1 hb).1,fun v hv=>(List.mem_filter.1 hv).1⟩
theorem Nd2.only {x:Vw}(h:Nd2 x)(c:Cf):Nd2 (only c x):=⟨h.1.filter _,h.2.filter _⟩
theorem Nd2.len {x U:Vw}(h:Nd2 x)(hs:Sub x U):x.b.length<=U.b.length/\x.v.length<=U.v.length:=⟨nQ _ _ h.1 hs.1,nQ _ _ h.2 hs.2⟩
theorem rQ :∀(l:List B) (k:Wk),((delB k l).1).Sublist l
 | [],_=>List.Sublist.refl _
 |x::r,k=>by
  have ih:=rQ r (aG k x).2
  simp only[delB]
  split
  ·exact ih.cons _
  ·exact ih.cons_cons _
theorem rN :∀(l:List V) (k:Wk),((delV k l).1).Sublist l
 | [],_=>List.Sublist.refl _
 |x::r,k=>by
  have ih:=rN r (aM k x).2
  simp only[delV]
  split
  ·exact ih.cons _
  ·exact ih.cons_cons _
theorem pN :∀(f:Nat) (n:Int) (k:Wk) (l:Vw),((aV f n k l).2.b).Sublist l.b/\((aV f n k l).2.v).Sublist l.v
 |0,_,_,_=>⟨List.Sublist.refl _,List.Sublist.refl _⟩
 |f+1,n,k,l=>by
  simp only[aV]
  split
  ·exact⟨List.Sublist.refl _,List.Sublist.refl _⟩
  ·have ih:=pN f k.size (delV (delB k l.b).2 l.v).2 ⟨(delB k l.b).1,(delV (delB k l.b).2 l.v).1⟩
   exact⟨ih.1.trans (rQ _ _),ih.2.trans (rN _ _)⟩
theorem kV (C:Cf)(k:Nw)(y:Vw):((countL C k y).b).Sublist y.b/\((countL C k y).v).Sublist y.v:=by
 unfold countL take
 split
 ·have h:=pN 302 (-1) (wkOf k.n.v k.slot) (only C y)
  exact⟨h.1.trans (List.filter_sublist ..),h.2.trans (List.filter_sublist ..)⟩
 ·exact⟨List.Sublist.refl _,List.Sublist.refl _⟩
theorem qA (C:Cf)(k:Nw)(y:Vw):Sub (countL C k y) y:=⟨fun _ h=>(kV C k y).1.subset h,fun _ h=>(kV C k y).2.subset h⟩
theorem Nd2.countL {y:Vw}(h:Nd2 y)(C:Cf)(k:Nw):Nd2 (countL C k y):=⟨h.1.sublist (kV C k y).1,h.2.sublist (kV C k y).2⟩
theorem rW (k:Wk)(x:B):(∀b∈(aG k x).2.b,b∈k.b\/b=x)/\(aG k x).2.v=k.v:=by
 unfold aG
 split
 ·exact⟨fun _ h=>.inl h,rfl⟩
 ·split
  ·exact⟨fun _ h=>.inl h,rfl⟩
  ·split
   ·exact⟨fun _ h=>.inl h,rfl⟩
   ·split
    ·exact⟨fun _ h=>.inl h,rfl⟩
    ·split
     ·exact⟨fun _ h=>.inl h,rfl⟩
     ·exact⟨fun b h=>by simpa using h,rfl⟩
theorem sF (k:Wk)(x:V):(∀b∈(aM k x).2.v,b∈k.v\/b=x)/\(aM k x).2.b=k.b:=by
 unfold aM
 split
 ·exact⟨fun _ h=>.inl h,rfl⟩
 ·split
  ·exact⟨fun _ h=>.inl h,rfl⟩
  ·split
   ·exact⟨fun _ h=>.inl h,rfl⟩
   ·split
    ·exact⟨fun _ h=>.inl h,rfl⟩
    ·split
     ·exact⟨fun _ h=>.inl h,rfl⟩
     ·exact⟨fun b h=>by simpa using h,rfl⟩
theorem yB :∀(l:List B) (k:Wk),(∀b∈(delB k l).2.b,b∈k.b\/b∈l)/\(delB k l).2.v=k.v
 | [],_=>⟨fun _ h=>.inl h,rfl⟩
 |x::r,k=>by
  have ih:=yB r (aG k x).2
  have h:=rW k x
  refine⟨fun b hb=>?_,ih.2.trans h.2⟩
  rcases ih.1 b hb with h2|h2
  ·exact(h.1 b h2).imp id (fun e=>by rw[e];exact List.mem_cons_self ..)
  ·exact .inr (List.mem_cons_of_mem _ h2)
theorem xZ :∀(l:List V) (k:Wk),(∀b∈(delV k l).2.v,b∈k.v\/b∈l)/\(delV k l).2.b=k.b
 | [],_=>⟨fun _ h=>.inl h,rfl⟩
 |x::r,k=>by
  have ih:=xZ r (aM k x).2
  have h:=sF k x
  refine⟨fun b hb=>?_,ih.2.trans h.2⟩
  rcases ih.1 b hb with h2|h2
  ·exact(h.1 b h2).imp id (fun e=>by rw[e];exact List.mem_cons_self ..)
  ·exact .inr (List.mem_cons_of_mem _ h2)
theorem mZ :∀(f:Nat) (n:Int) (k:Wk) (l:Vw),(∀b∈(aV f n k l).1.b,b∈k.b\/b∈l.b)/\∀v∈(aV f n k l).1.v,v∈k.v\/v∈l.v
 |0,_,_,_=>⟨fun _ h=>.inl h,fun _ h=>.inl h⟩
 |f+1,n,k,l=>by
  simp only[aV]
  split
  ·exact⟨fun _ h=>.inl h,fun _ h=>.inl h⟩
  ·have ih:=mZ f k.size (delV (delB k l.b).2 l.v).2 ⟨(delB k l.b).1,(delV (delB k l.b).2 l.v).1⟩
   have hB:=yB l.b k
   have hV:=xZ l.v (delB k l.b).2
   refine⟨fun b hb=>?_,fun v hv=>?_⟩
   ·rcases ih.1 b hb with h|h
    ·rw[hV.2]at h;exact hB.1 b h
    ·exact .inr ((rQ _ _).subset h)
   ·rcases ih.2 v hv with h|h
    ·have:=hV.1 v h;rwa [hB.2]at this
    ·exact .inr ((rN _ _).subset h)
theorem xE (C:Cf)(x y:Vw)(s:Int){U:Vw}(hx:Sub x U)(hy:Sub y U):Sub (take C x y s).1 U:=by
 unfold take
 split
 ·have h:=mZ 302 (-1) (wkOf x s) (only C y)
  exact⟨fun b hb=>(h.1 b hb).elim (hx.1 b) (fun h=>hy.1 b (List.mem_filter.1 h).1),fun v hv=>(h.2 v hv).elim (hx.2 v) (fun h=>hy.2 v (List.mem_filter.1 h).1)⟩
 ·exact hx
end Tp
namespace Tp
theorem dT {α:Type}{P:List α->Prop}(h0:P [])(h1:∀l x,P l->P (l++[x])):∀l,P l:=by
  intro l
  rw[<-l.reverse_reverse]
  induction l.reverse with
  |nil=>exact h0
  |cons x r ih=>rw[List.reverse_cons];exact h1 _ _ ih
theorem kM (L:List B)(b:B):∀(r:List B) (i:Nat) (m:PM),aX L (r++[b]) i m=(aX L r i m).bind (fun m'=>aX L [b] (i+r.length) m')
  | [],i,m=>rfl
  |x::r,i,m=>by
    rw[List.cons_append]
    unfold aX
    cases at_ m (x.p,x.q)with
    |none=>rfl
    |some j=>
      simp only
      split
      · rfl
      · split
        · rfl
        · rw[kM L b r (i+1),List.length_cons,show i+1+r.length=i+(r.length+1) by omega]
          try rfl
theorem jP (L L':List B):∀(r:List B) (i:Nat) (m:PM),(∀x y,at_ m x=some y->y=-1\/(0<=y/\y<(i:Int)))->(∀j,j<i+r.length->gG L j=gG L' j)->aX L r i m=aX L' r i m
  | [],i,m,_,_=>rfl
  |x::r,i,m,hm,hL=>by
    unfold aX
    cases e:at_ m (x.p,x.q)with
    |none=>rfl
    |some j=>
      have hs:dJ L j=dJ L' j:=by
        unfold dJ
        split
        · rfl
        · rename_i hj
          rcases hm _ _ e with h|⟨h0,h1⟩
          · exact absurd h hj
          · rw[hL j.toNat (by rw[List.length_cons];omega)]
      simp only[hs]
      split
      · rfl
      · split
        · rfl
        · exact jP L L' r (i+1) _ (fun a y hy=>by
            rw[dF]at hy
            split at hy
            · simp only[Option.some.injEq]at hy;omega
            · rcases hm _ _ hy with h|⟨h0,h1⟩
              · exact .inl h
              · right;omega) (fun k hk=>hL k (by rw[List.length_cons];omega))
theorem nP (l:List B)(r:List B)(j:Nat)(h:j<l.length):gG (l++r) j=gG l j:=by
  unfold gG
  rw[List.getElem?_append_left h]
theorem nH (l:List B)(b:B):places (l++[b])=(places l).bind (fun m=>match at_ m (b.p,b.q)with
    |none=>none
    |some j=>if b.slot<=dJ (l++[b]) j then none else if(at_ m (name b)).isSome then none else some (put m (name b) (l.length:Int))):=by
  unfold places
  rw[kM,jP (l++[b]) l l 0 [((0,0),-1)] (fun x y h=>by
    rw[dG,oP]at h
    split at h
    · simp only[Option.some.injEq]at h;exact .inl h.symm
    · cases h) (fun j hj=>nP l [b] j (by omega))]
  congr 1
  funext m
  unfold aX
  cases at_ m (b.p,b.q)with
  |none=>rfl
  |some j=>
    simp only[Nat.zero_add]
    rfl
theorem kJ {l:List B}{b:B}{j:Int}(h:j=-1\/(0<=j/\j<l.length)):dJ (l++[b]) j=dJ l j:=by
  unfold dJ
  split
  · rfl
  · rename_i hj
    rcases h with h|⟨h0,h1⟩
    · exact absurd h hj
    · rw[nP l [b] j.toNat (by omega)]
theorem lY {l:List B}{m:PM}(h:places l=some m){x:Int×Int}{y:Int}(hy:at_ m x=some y):y=-1\/(0<=y/\y<(l.length:Int)):=by
  rcases(dU h).2 x y hy with⟨h1,_⟩|⟨i,h1,h2,_⟩
  · exact .inl h1
  · right;omega
theorem dI (l:List B)(b:B):aJ (l++[b])=put (aJ l) (name b) b.slot:=by
  unfold aJ
  rw[List.foldl_append]
  try rfl
theorem iM :∀(l:List B) (m:PM),places l=some m->∀x,at_ (aJ l) x=(at_ m x).map (dJ l):=by
  refine dT ?_ ?_
  · intro m h x
    have:m=[((0,0),-1)]:=by
      have h2:(some [((0,0),-1)]:Option PM)=some m:=h
      exact(Option.some.inj h2).symm
    subst this
    show at_ [((0,0),(0:Int))] x=_
    rw[dG,dG,oP]
    split<;>rfl
  · intro l b ih m h x
    rw[nH]at h
    cases hp:places l with
    |none=>rw[hp]at h;cases h
    |some m0=>
      rw[hp,Option.bind_some]at h
      cases hj:at_ m0 (b.p,b.q)with
      |none=>rw[hj]at h;cases h
      |some j=>
        rw[hj]at h
        simp only at h
        split at h
        · cases h
        split at h
        · cases h
        simp only[Option.some.injEq]at h
        subst h
        rw[dI,dF,dF]
        by_cases e:x=name b
        · rw[if_pos e,if_pos e]
          show some b.slot=some (dJ (l++[b]) (l.length:Int))
          unfold dJ gG
          rw[if_neg (by omega),Int.toNat_natCast,List.getElem?_append_right nr,Nat.sub_self]
          try rfl
        · rw[if_neg e,if_neg e,ih m0 hp x]
          cases hx:at_ m0 x with
          |none=>rfl
          |some y=>
            show some (dJ l y)=some (dJ (l++[b]) y)
            rw[kJ (lY hp hx)]
theorem iE (l:List B)(b:B):may (l++[b])=true↔may l=true/\(∃s,at_ (aJ l) (b.p,b.q)=some s/\s<b.slot)/\at_ (aJ l) (name b)=none:=by
  unfold may
  rw[nH]
  cases hp:places l with
  |none=>simp
  |some m=>
    rw[Option.bind_some,iM l m hp,iM l m hp]
    cases hj:at_ m (b.p,b.q)with
    |none=>simp
    |some j=>
      simp only[kJ (b:=b) (lY hp hj),Option.map_some,Option.isSome_some,true_and,Option.some.injEq,exists_eq_left']
      by_cases h1:b.slot<=dJ l j
      · rw[if_pos h1]
        refine⟨fun h=>(by cases h),fun h=>?_⟩
        omega
      · rw[if_neg h1]
        cases hn:at_ m (name b)with
        |none=>simp;omega
        |some z=>simp
theorem kI :∀(l:List B) {x:Int×Int}{s:Int},at_ (aJ l) x=some s->(x=(0,0)/\s=0)\/∃b∈l,name b=x/\b.slot=s:=by
  refine dT ?_ ?_
  · intro x s h
    have h2:at_ [((0,0),(0:Int))] x=some s:=h
    rw[dG,oP]at h2
    split at h2
    · simp only[Option.some.injEq]at h2;exact .inl ⟨‹_›,h2.symm⟩
    · cases h2
  · intro l b ih x s h
    rw[dI,dF]at h
    split at h
    · simp only[Option.some.injEq]at h
      exact .inr ⟨b,by simp,by simp_all,h⟩
    · rcases ih h with h|⟨b',h1,h2⟩
      · exact .inl h
      · exact .inr ⟨b',List.mem_append_left _ h1,h2⟩
theorem kF :∀(l:List B),may l=true->at_ (aJ l) (0,0)=some 0:=by
  refine dT ?_ ?_
  · intro _;rfl
  · intro l b ih h
    obtain⟨h1,_,h3⟩:=(iE l b).1 h
    rw[dI,dF,if_neg (fun e=>by rw[<-e,ih h1]at h3;cases h3)]
    exact ih h1
theorem jF :∀(l:List B),may l=true->∀b∈l,at_ (aJ l) (name b)=some b.slot:=by
  refine dT ?_ ?_
  · intro _ b hb;cases hb
  · intro l b ih h x hx
    obtain⟨h1,_,h3⟩:=(iE l b).1 h
    rw[dI,dF]
    rcases List.mem_append.1 hx with hx|hx
    · rw[if_neg (fun e=>by rw[<-e,ih h1 x hx]at h3;cases h3)]
      exact ih h1 x hx
    · rw[List.mem_singleton.1 hx,if_pos rfl]
theorem gK {l:List B}(h:may l=true){x:Int×Int}(hx:x=(0,0)\/∃b∈l,name b=x):(at_ (aJ l) x).isSome=true:=by
  rcases hx with rfl|⟨b,hb,rfl⟩
  · rw[kF l h];rfl
  · rw[jF l h b hb];rfl
theorem jZ (l:List V)(v:V):fP (l++[v])=put (fP l) v true:=by
  unfold fP
  rw[List.foldl_append]
  try rfl
theorem rK :∀(l:List V) (v:V),at_ (fP l) v=if v∈l then some true else none:=by
  refine dT ?_ ?_
  · intro v;rfl
  · intro l x ih v
    rw[jZ,dF,ih v]
    by_cases e:v=x
    · rw[if_pos e,if_pos (by simp[e])]
    · rw[if_neg e]
      simp[e]
theorem nY :∀(l:List V),(fP l).length<=l.length/\((fP l).length=l.length↔l.Nodup):=by
  refine dT ?_ ?_
  · exact⟨Nat.le_refl _,by simp[fP]⟩
  · intro l x ih
    rw[jZ,jG,rK,List.length_append,List.length_singleton]
    by_cases e:x∈l
    · rw[if_pos e,if_pos (show(some true).isSome=true from rfl)]
      refine⟨Nat.le_succ_of_le ih.1,fun h=>?_,fun h=>?_⟩
      · have:=ih.1;omega
      · rw[List.nodup_append]at h
        exact absurd rfl (h.2.2 x e x (by simp))
    · rw[if_neg e,if_neg (show ¬(none:Option Bool).isSome=true by simp)]
      refine⟨Nat.succ_le_succ ih.1,fun h=>?_,fun h=>?_⟩
      · rw[List.nodup_append]
        exact⟨ih.2.1 (by omega),by simp,fun a ha b hb e2=>e (by rw[<-List.mem_singleton.1 hb,<-e2];exact ha)⟩
      · rw[ih.2.2 (List.nodup_append.1 h).1]
structure Wk.G (c:Cf) (M:Int) (k:Wk):Prop where
  may:Tp.may k.b=true
  sl:k.slot=aJ k.b
  hs:k.has=fP k.v
  lb:k.b.length<=60
  lv:k.v.length<=240
  fb:∀b∈k.b,bM c b=true
  fv:∀v∈k.v,dE c v=true
  nv:k.v.Nodup
  gv:∀v∈k.v,badV (aJ k.b) v=false
  ub:∀b∈k.b,b.slot<=M
  uv:∀v∈k.v,v.slot<=M
  um:k.upto<=M
theorem aBa {c:Cf}{x:Vw}{s M:Int}(h:aQ c x=true)(hb:∀b∈x.b,b.slot<=M)(hv:∀v∈x.v,v.slot<=M)(hs:s<=M):(wkOf x s).G c M:=by
  unfold aQ only at h
  simp only[Bool.and_eq_true,decide_eq_true_eq,List.length_filter_eq_length_iff,Bool.not_eq_true',List.any_eq_false]at h
  exact⟨h.1.1.1.1.1.2,rfl,rfl,h.1.1.1.1.2,h.1.1.1.2,h.1.1.2,h.1.2,(nY x.v).2.1 h.2.1,fun v hv=>(by have:=h.2.2 v hv;simpa[wkOf]using this),hb,hv,hs⟩
theorem aFj {c:Cf}{M:Int}{k:Wk}(hm:mayC c.W c.ep c.nu c.de=true)(h:k.G c M):aQ c ⟨k.b,k.v⟩=true:=by
  unfold aQ only
  simp only[Bool.and_eq_true,decide_eq_true_eq,List.length_filter_eq_length_iff,Bool.not_eq_true',List.any_eq_false]
  exact⟨⟨⟨⟨⟨⟨hm,h.may⟩,h.lb⟩,h.lv⟩,h.fb⟩,h.fv⟩,(nY k.v).2.2 h.nv,fun v hv=>by simpa using h.gv v hv⟩
theorem bI {c:Cf}{x:Vw}(h:aQ c x=true):mayC c.W c.ep c.nu c.de=true/\may x.b=true:=by
  unfold aQ at h
  simp only[Bool.and_eq_true]at h
  exact h.1.1.1.1.1
structure Wk.Up (k k':Wk):Prop where
  b:k.b <+:k'.b
  v:k.v <+:k'.v
  sl:∀x s,at_ k.slot x=some s->at_ k'.slot x=some s
  up:k'.upto=k.upto
  full:k.full=true->k'.full=true
theorem Wk.Up.refl (k:Wk):k.Up k:=⟨List.prefix_rfl,List.prefix_rfl,fun _ _ h=>h,rfl,id⟩
theorem Wk.Up.trans {k k' k'':Wk}(h:k.Up k')(h2:k'.Up k''):k.Up k'':=⟨h.b.trans h2.b,h.v.trans h2.v,fun x s e=>h2.sl x s (h.sl x s e),h2.up.trans h.up,fun e=>h2.full (h.full e)⟩
structure Wk.Same (k k':Wk):Prop where
  b:k'.b=k.b
  v:k'.v=k.v
  sl:k'.slot=k.slot
  hs:k'.has=k.has
  up:k'.upto=k.upto
  full:k.full=true->k'.full=true
theorem Wk.Same.refl (k:Wk):k.Same k:=⟨rfl,rfl,rfl,rfl,rfl,id⟩
theorem Wk.Same.trans {k k' k'':Wk}(h:k.Same k')(h2:k'.Same k''):k.Same k'':=⟨h2.b.trans h.b,h2.v.trans h.v,h2.sl.trans h.sl,h2.hs.trans h.hs,h2.up.trans h.up,fun e=>h2.full (h.full e)⟩
theorem Wk.Same.size {k k':Wk}(h:k.Same k'):k'.size=k.size:=by unfold Wk.size;rw[h.b,h.v]
def FinB (k:Wk) (z:B):Prop:=(at_ k.slot (name z)).isSome=true\/∃s,at_ k.slot (z.p,z.q)=some s/\z.slot<=s
def FinV (k:Wk) (v:V):Prop:=v∈k.v\/∃s,at_ k.slot (v.p,v.q)=some s/\v.slot<s
def lB (k:Wk) (z:B):Prop:=at_ k.slot (z.p,z.q)=none\/k.upto<z.slot\/k.full=true
def lA (k:Wk) (v:V):Prop:=at_ k.slot (v.p,v.q)=none\/k.upto<v.slot\/k.full=true
theorem FinB.up {k k':Wk}{z:B}(h:FinB k z)(u:k.Up k'):FinB k' z:=by
  rcases h with h|⟨s,h1,h2⟩
  · left
    obtain⟨s,hs⟩:=Option.isSome_iff_exists.1 h
    rw[u.sl _ _ hs];rfl
  · exact .inr ⟨s,u.sl _ _ h1,h2⟩
theorem FinV.up {k k':Wk}{z:V}(h:FinV k z)(u:k.Up k'):FinV k' z:=by
  rcases h with h|⟨s,h1,h2⟩
  · exact .inl (u.v.subset h)
  · exact .inr ⟨s,u.sl _ _ h1,h2⟩
theorem lB.same {k k':Wk}{z:B}(h:lB k z)(u:k.Same k'):lB k' z:=by
  unfold lB at *
  rw[u.sl,u.up]
  exact h.imp id (Or.imp id u.full)
theorem lA.same {k k':Wk}{z:V}(h:lA k z)(u:k.Same k'):lA k' z:=by
  unfold lA at *
  rw[u.sl,u.up]
  exact h.imp id (Or.imp id u.full)
theorem aFa {l:List B}{b:B}{v:V}(hn:at_ (aJ l) (name b)=none)(h:badV (aJ l) v=false):badV (aJ (l++[b])) v=false:=by
  unfold badV at *
  rw[dI,dF]
  cases e:at_ (aJ l) (v.p,v.q)with
  |none=>rw[e]at h;cases h
  |some s=>
    rw[if_neg (fun e2=>by rw[<-e2,e]at hn;cases hn)]
    rw[e]at h
    exact h
theorem rX {c:Cf}{M:Int}{k:Wk}(h:k.G c M){z:B}(hz:bM c z=true):
    (aG k z).2.G c M/\k.Up (aG k z).2/\((aG k z).1=true->FinB (aG k z).2 z)/\(k.Same (aG k z).2\/k.size<(aG k z).2.size)/\((aG k z).1=false->k.Same (aG k z).2/\lB (aG k z).2 z):=by
  unfold aG
  split
  · rename_i h1
    exact⟨h,Wk.Up.refl _,fun _=>.inl h1,.inl (Wk.Same.refl _),fun e=>(by cases e)⟩
  · rename_i h1
    have hn:at_ k.slot (name z)=none:=by simpa using h1
    split
    · rename_i h2
      exact⟨h,Wk.Up.refl _,fun e=>(by cases e),.inl (Wk.Same.refl _),fun _=>⟨Wk.Same.refl _,.inl h2⟩⟩
    · rename_i s h2
      split
      · rename_i h3
        exact⟨h,Wk.Up.refl _,fun _=>.inr ⟨s,h2,h3⟩,.inl (Wk.Same.refl _),fun e=>(by cases e)⟩
      · rename_i h3
        split
        · rename_i h4
          exact⟨h,Wk.Up.refl _,fun e=>(by cases e),.inl (Wk.Same.refl _),fun _=>⟨Wk.Same.refl _,.inr (.inl h4)⟩⟩
        · rename_i h4
          split
          · exact⟨⟨h.may,h.sl,h.hs,h.lb,h.lv,h.fb,h.fv,h.nv,h.gv,h.ub,h.uv,h.um⟩,⟨List.prefix_rfl,List.prefix_rfl,fun _ _ h=>h,rfl,fun _=>rfl⟩,fun e=>(by cases e),.inl ⟨rfl,rfl,rfl,rfl,rfl,fun _=>rfl⟩,fun _=>⟨⟨rfl,rfl,rfl,rfl,rfl,fun _=>rfl⟩,.inr (.inr rfl)⟩⟩
          · rename_i h5
            rw[h.sl]at h2 hn
            refine⟨⟨(iE k.b z).2 ⟨h.may,⟨s,h2,by omega⟩,hn⟩,?_,h.hs,?_,h.lv,?_,h.fv,h.nv,fun v hv=>aFa hn (h.gv v hv),?_,h.uv,h.um⟩,⟨List.prefix_append ..,List.prefix_rfl,fun x t e=>?_,rfl,id⟩,fun _=>.inl ?_,.inr ?_,fun e=>(by cases e)⟩
            · show put k.slot (name z) z.slot=aJ (k.b++[z])
              rw[dI,h.sl]
            · show(k.b++[z]).length<=60
              rw[List.length_append,List.length_singleton];omega
            · intro y hy
              rcases List.mem_append.1 hy with hy|hy
              · exact h.fb y hy
              · rw[List.mem_singleton.1 hy];exact hz
            · intro y hy
              rcases List.mem_append.1 hy with hy|hy
              · exact h.ub y hy
              · rw[List.mem_singleton.1 hy];have:=h.um;omega
            · show at_ (put k.slot (name z) z.slot) x=some t
              rw[dF,if_neg (fun e2=>by rw[<-h.sl,<-e2,e]at hn;cases hn)]
              exact e
            · show(at_ (put k.slot (name z) z.slot) (name z)).isSome=true
              rw[dF,if_pos rfl];rfl
            · simp only[Wk.size,List.length_append,List.length_singleton];omega
theorem sG {c:Cf}{M:Int}{k:Wk}(h:k.G c M){z:V}(hz:dE c z=true):
    (aM k z).2.G c M/\k.Up (aM k z).2/\((aM k z).1=true->FinV (aM k z).2 z)/\(k.Same (aM k z).2\/k.size<(aM k z).2.size)/\((aM k z).1=false->k.Same (aM k z).2/\lA (aM k z).2 z):=by
  unfold aM
  split
  · rename_i h1
    refine⟨h,Wk.Up.refl _,fun _=>.inl ?_,.inl (Wk.Same.refl _),fun e=>(by cases e)⟩
    rw[h.hs,rK]at h1
    split at h1
    · assumption
    · cases h1
  · rename_i h1
    have hn:z∉k.v:=by
      intro e
      rw[h.hs,rK,if_pos e]at h1
      exact h1 rfl
    split
    · rename_i h2
      exact⟨h,Wk.Up.refl _,fun e=>(by cases e),.inl (Wk.Same.refl _),fun _=>⟨Wk.Same.refl _,.inl h2⟩⟩
    · rename_i s h2
      split
      · rename_i h3
        exact⟨h,Wk.Up.refl _,fun _=>.inr ⟨s,h2,h3⟩,.inl (Wk.Same.refl _),fun e=>(by cases e)⟩
      · rename_i h3
        split
        · rename_i h4
          exact⟨h,Wk.Up.refl _,fun e=>(by cases e),.inl (Wk.Same.refl _),fun _=>⟨Wk.Same.refl _,.inr (.inl h4)⟩⟩
        · rename_i h4
          split
          · exact⟨⟨h.may,h.sl,h.hs,h.lb,h.lv,h.fb,h.fv,h.nv,h.gv,h.ub,h.uv,h.um⟩,⟨List.prefix_rfl,List.prefix_rfl,fun _ _ h=>h,rfl,fun _=>rfl⟩,fun e=>(by cases e),.inl ⟨rfl,rfl,rfl,rfl,rfl,fun _=>rfl⟩,fun _=>⟨⟨rfl,rfl,rfl,rfl,rfl,fun _=>rfl⟩,.inr (.inr rfl)⟩⟩
          · rename_i h5
            rw[h.sl]at h2
            refine⟨⟨h.may,h.sl,?_,h.lb,?_,h.fb,?_,?_,?_,h.ub,?_,h.um⟩,⟨List.prefix_rfl,List.prefix_append ..,fun x t e=>e,rfl,id⟩,fun _=>.inl (List.mem_append_right _ (List.mem_singleton.2 rfl)),.inr ?_,fun e=>(by cases e)⟩
            · show put k.has z true=fP (k.v++[z])
              rw[jZ,h.hs]
            · show(k.v++[z]).length<=240
              rw[List.length_append,List.length_singleton];omega
            · intro y hy
              rcases List.mem_append.1 hy with hy|hy
              · exact h.fv y hy
              · rw[List.mem_singleton.1 hy];exact hz
            · show(k.v++[z]).Nodup
              rw[List.nodup_append]
              exact⟨h.nv,by simp,fun a ha b hb e=>hn (by rw[<-List.mem_singleton.1 hb,<-e];exact ha)⟩
            · intro y hy
              rcases List.mem_append.1 hy with hy|hy
              · exact h.gv y hy
              · rw[List.mem_singleton.1 hy]
                show badV (aJ k.b) z=false
                unfold badV
                rw[h2]
                simpa using h3
            · intro y hy
              rcases List.mem_append.1 hy with hy|hy
              · exact h.uv y hy
              · rw[List.mem_singleton.1 hy];have:=h.um;omega
            · simp only[Wk.size,List.length_append,List.length_singleton];omega
theorem yC {c:Cf}{M:Int}:∀(l:List B) {k:Wk},k.G c M->(∀z∈l,bM c z=true)->
    (delB k l).2.G c M/\k.Up (delB k l).2/\(∀z∈l,z∈(delB k l).1\/FinB (delB k l).2 z)/\(k.Same (delB k l).2/\(∀z∈(delB k l).1,lB (delB k l).2 z)\/k.size<(delB k l).2.size)
  | [],k,h,_=>⟨h,Wk.Up.refl _,fun z hz=>(by cases hz),.inl ⟨Wk.Same.refl _,fun z hz=>(by cases hz)⟩⟩
  |x::r,k,h,hl=>by
    have s:=rX h (hl x (List.mem_cons_self ..))
    have ih:=yC r s.1 (fun z hz=>hl z (List.mem_cons_of_mem _ hz))
    have hm:k.size<=(aG k x).2.size:=by rcases s.2.2.2.1 with e|e<;>first|(rw[e.size];exact Nat.le_refl _)|omega
    have hm2:(aG k x).2.size<=(delB (aG k x).2 r).2.size:=by rcases ih.2.2.2 with e|e<;>first|(rw[e.1.size];exact Nat.le_refl _)|omega
    refine⟨ih.1,s.2.1.trans ih.2.1,fun z hz=>?_,?_⟩
    · rcases List.mem_cons.1 hz with rfl|hz
      · by_cases e:(aG k z).1=true
        · exact .inr ((s.2.2.1 e).up ih.2.1)
        · left
          simp only[delB]
          rw[if_neg e]
          exact List.mem_cons_self ..
      · rcases ih.2.2.1 z hz with e|e
        · left
          simp only[delB]
          split
          · exact e
          · exact List.mem_cons_of_mem _ e
        · exact .inr e
    · show k.Same (delB (aG k x).2 r).2/\_\/k.size<(delB (aG k x).2 r).2.size
      rcases s.2.2.2.1 with e|e
      · rcases ih.2.2.2 with e2|e2
        · refine .inl ⟨e.trans e2.1,fun z hz=>?_⟩
          simp only[delB]at hz
          split at hz
          · exact e2.2 z hz
          · rename_i hf
            rcases List.mem_cons.1 hz with rfl|hz
            · exact(s.2.2.2.2 (by simpa using hf)).2.same e2.1
            · exact e2.2 z hz
        · right;omega
      · right;omega
theorem yA {c:Cf}{M:Int}:∀(l:List V) {k:Wk},k.G c M->(∀z∈l,dE c z=true)->
    (delV k l).2.G c M/\k.Up (delV k l).2/\(∀z∈l,z∈(delV k l).1\/FinV (delV k l).2 z)/\(k.Same (delV k l).2/\(∀z∈(delV k l).1,lA (delV k l).2 z)\/k.size<(delV k l).2.size)
  | [],k,h,_=>⟨h,Wk.Up.refl _,fun z hz=>(by cases hz),.inl ⟨Wk.Same.refl _,fun z hz=>(by cases hz)⟩⟩
  |x::r,k,h,hl=>by
    have s:=sG h (hl x (List.mem_cons_self ..))
    have ih:=yA r s.1 (fun z hz=>hl z (List.mem_cons_of_mem _ hz))
    have hm:k.size<=(aM k x).2.size:=by rcases s.2.2.2.1 with e|e<;>first|(rw[e.size];exact Nat.le_refl _)|omega
    have hm2:(aM k x).2.size<=(delV (aM k x).2 r).2.size:=by rcases ih.2.2.2 with e|e<;>first|(rw[e.1.size];exact Nat.le_refl _)|omega
    refine⟨ih.1,s.2.1.trans ih.2.1,fun z hz=>?_,?_⟩
    · rcases List.mem_cons.1 hz with rfl|hz
      · by_cases e:(aM k z).1=true
        · exact .inr ((s.2.2.1 e).up ih.2.1)
        · left
          simp only[delV]
          rw[if_neg e]
          exact List.mem_cons_self ..
      · rcases ih.2.2.1 z hz with e|e
        · left
          simp only[delV]
          split
          · exact e
          · exact List.mem_cons_of_mem _ e
        · exact .inr e
    · show k.Same (delV (aM k x).2 r).2/\_\/k.size<(delV (aM k x).2 r).2.size
      rcases s.2.2.2.1 with e|e
      · rcases ih.2.2.2 with e2|e2
        · refine .inl ⟨e.trans e2.1,fun z hz=>?_⟩
          simp only[delV]at hz
          split at hz
          · exact e2.2 z hz
          · rename_i hf
            rcases List.mem_cons.1 hz with rfl|hz
            · exact(s.2.2.2.2 (by simpa using hf)).2.same e2.1
            · exact e2.2 z hz
        · right;omega
      · right;omega
theorem Wk.G.size {c:Cf}{M:Int}{k:Wk}(h:k.G c M):k.size<=300:=by
  have:=h.lb
  have:=h.lv
  unfold Wk.size
  omega
theorem nB {c:Cf}{M:Int}:∀(f:Nat) (n:Int) (k:Wk) (l:Vw),k.G c M->(∀z∈l.b,bM c z=true)->(∀z∈l.v,dE c z=true)->n<=k.size->300<(f:Int)+n->
    (n=k.size->(∀z∈l.b,lB k z)/\∀z∈l.v,lA k z)->
    (aV f n k l).1.G c M/\k.Up (aV f n k l).1/\(∀z∈l.b,FinB (aV f n k l).1 z\/lB (aV f n k l).1 z)/\∀z∈l.v,FinV (aV f n k l).1 z\/lA (aV f n k l).1 z
  |0,n,k,l,h,_,_,hn,hf,_=>by
    have:=h.size
    omega
  |f+1,n,k,l,h,hb,hv,hn,hf,hs=>by
    simp only[aV]
    split
    · rename_i e
      exact⟨h,Wk.Up.refl _,fun z hz=>.inr ((hs e).1 z hz),fun z hz=>.inr ((hs e).2 z hz)⟩
    · rename_i e
      have s1:=yC l.b h hb
      have s2:=yA l.v s1.1 hv
      have m1:k.size<=(delB k l.b).2.size:=by rcases s1.2.2.2 with e|e<;>first|(rw[e.1.size];exact Nat.le_refl _)|omega
      have m2:(delB k l.b).2.size<=(delV (delB k l.b).2 l.v).2.size:=by rcases s2.2.2.2 with e|e<;>first|(rw[e.1.size];exact Nat.le_refl _)|omega
      have ih:=nB f k.size (delV (delB k l.b).2 l.v).2 ⟨(delB k l.b).1,(delV (delB k l.b).2 l.v).1⟩ s2.1 (fun z hz=>hb z ((rQ _ _).subset hz)) (fun z hz=>hv z ((rN _ _).subset hz)) (by omega) (by omega) (fun e2=>by
        rcases s1.2.2.2 with e3|e3
        · rcases s2.2.2.2 with e4|e4
          · exact⟨fun z hz=>(e3.2 z hz).same e4.1,e4.2⟩
          · omega
        · omega)
      refine⟨ih.1,(s1.2.1.trans s2.2.1).trans ih.2.1,fun z hz=>?_,fun z hz=>?_⟩
      · rcases s1.2.2.1 z hz with e2|e2
        · exact ih.2.2.1 z e2
        · exact .inl (e2.up (s2.2.1.trans ih.2.1))
      · rcases s2.2.2.1 z hz with e2|e2
        · exact ih.2.2.2 z e2
        · exact .inl (e2.up ih.2.1)
structure aLd (c:Cf) (x y:Vw) (s M:Int) (r:Vw) (full:Bool):Prop where
  may:aQ c r=true
  pb:x.b <+:r.b
  pv:x.v <+:r.v
  ub:∀b∈r.b,b.slot<=M
  uv:∀v∈r.v,v.slot<=M
  db:full=false->∀z∈(only c y).b,z.slot<=s->(at_ (aJ r.b) (name z)).isSome=true\/(∃t,at_ (aJ r.b) (z.p,z.q)=some t/\z.slot<=t)\/at_ (aJ r.b) (z.p,z.q)=none
  dv:full=false->∀z∈(only c y).v,z.slot<=s->z∈r.v\/(∃t,at_ (aJ r.b) (z.p,z.q)=some t/\z.slot<t)\/at_ (aJ r.b) (z.p,z.q)=none
theorem xF {c:Cf}{x:Vw}(y:Vw){s M:Int}(h:aQ c x=true)(hb:∀b∈x.b,b.slot<=M)(hv:∀v∈x.v,v.slot<=M)(hs:s<=M):aLd c x y s M (take c x y s).1 (take c x y s).2.2:=by
  unfold take
  rw[if_pos h]
  have L:=nB 302 (-1) (wkOf x s) (only c y) (aBa h hb hv hs) (fun z hz=>(List.mem_filter.1 hz).2) (fun z hz=>(List.mem_filter.1 hz).2) (by omega) (by omega) (fun e=>by omega)
  generalize(aV 302 (-1) (wkOf x s) (only c y)).1=K at L
  generalize(aV 302 (-1) (wkOf x s) (only c y)).2=Y at L
  refine⟨aFj (bI h).1 L.1,L.2.1.b,L.2.1.v,L.1.ub,L.1.uv,fun hf z hz hzs=>?_,fun hf z hz hzs=>?_⟩
  · have hu:K.upto=s:=L.2.1.up
    have:=L.2.2.1 z hz
    unfold FinB lB at this
    rw[L.1.sl,hu]at this
    have hf2:K.full=false:=hf
    rw[hf2]at this
    rcases this with(h1|h1)|h1|h1|h1
    · exact .inl h1
    · exact .inr (.inl h1)
    · exact .inr (.inr h1)
    · omega
    · cases h1
  · have hu:K.upto=s:=L.2.1.up
    have:=L.2.2.2 z hz
    unfold FinV lA at this
    rw[L.1.sl,hu]at this
    have hf2:K.full=false:=hf
    rw[hf2]at this
    rcases this with(h1|h1)|h1|h1|h1
    · exact .inl h1
    · exact .inr (.inl h1)
    · exact .inr (.inr h1)
    · omega
    · cases h1
end Tp
end Go.Proofs.YtbbhinehcncmeaaGreat
