/- A part of the proof of the laws of the top: TpPlE. No condition. -/
import Derived.Test.YtbbhinehcncmeaaGreatM02
import Derived.Test.YtbbhinehcncmeaaGreatM03
namespace Go.Proofs.YtbbhinehcncmeaaGreat
open Go.RowKit
set_option linter.unusedSimpArgs false
set_option linter.unusedVariables false
set_option linter.unusedSectionVars false
section
namespace Tp
theorem nR (l:List B)(b:B):gC (l++[b])=put (gC l) (name b) true:=by
 unfold gC
 rw[List.foldl_append]
 try rfl
theorem aDd :∀(l:List B) (x:Int×Int),(at_ (gC l) x).isSome=true↔x=(0,0)\/∃b∈l,name b=x:=by
 refine dT ?_ ?_
 ·intro x
  show(at_ [((0,0),true)] x).isSome=true↔_
  rw[dG,oP]
  split
  ·rename_i e;exact⟨fun _=>.inl e,fun _=>rfl⟩
  ·rename_i e
   have e2:x≠(0,0):=e
   simp[e2]
 ·intro l b ih x
  rw[nR,dF]
  by_cases e:x=name b
  ·rw[if_pos e]
   exact⟨fun _=>.inr ⟨b,by simp,e.symm⟩,fun _=>rfl⟩
  ·rw[if_neg e,ih x]
   refine⟨fun h=>h.imp id (fun⟨y,hy,h⟩=>⟨y,List.mem_append_left _ hy,h⟩),fun h=>h.imp id (fun⟨y,hy,h⟩=>?_)⟩
   rcases List.mem_append.1 hy with hy|hy
   ·exact⟨y,hy,h⟩
   ·rw[List.mem_singleton.1 hy]at h;exact absurd h.symm e
theorem zS :∀(l:List B),(gC l).length<=l.length+1/\((gC l).length=l.length+1->∀b∈l,∀b'∈l,name b=name b'->b=b'):=by
 refine dT ?_ ?_
 ·exact⟨Nat.le_refl _,fun _ b hb=>(by cases hb)⟩
 ·intro l b ih
  rw[nR,jG,List.length_append,List.length_singleton]
  by_cases e:(at_ (gC l) (name b)).isSome=true
  ·rw[if_pos e]
   have:=ih.1
   exact⟨by omega,fun h=>by omega⟩
  ·rw[if_neg e]
   have:=ih.1
   refine⟨by omega,fun h x hx y hy hn=>?_⟩
   have nx:∀u∈l,name u≠name b:=fun u hu e2=>e ((aDd l _).2 (.inr ⟨u,hu,e2⟩))
   rcases List.mem_append.1 hx with hx|hx<;>rcases List.mem_append.1 hy with hy|hy
   ·exact ih.2 (by omega) x hx y hy hn
   ·rw[List.mem_singleton.1 hy]at hn;exact absurd hn (nx x hx)
   ·rw[List.mem_singleton.1 hx]at hn;exact absurd hn.symm (nx y hy)
   ·rw[List.mem_singleton.1 hx,List.mem_singleton.1 hy]
theorem aHk {l:List B}(h:oY l=false):∀b∈l,∀b'∈l,name b=name b'->b=b':=by
 unfold oY at h
 simp only[decide_eq_false_iff_not,ne_eq,Decidable.not_not]at h
 exact(zS l).2 h
structure aFi (C:Cf) (A:Vw) (s:Int) (x:Vw):Prop where
 may:aQ C x=true
 sub:Sub x A
 ub:∀b∈x.b,b.slot<=s
 uv:∀v∈x.v,v.slot<=s
 db:∀z∈(only C A).b,z.slot<=s->(at_ (aJ x.b) (name z)).isSome=true\/(∃t,at_ (aJ x.b) (z.p,z.q)=some t/\z.slot<=t)\/at_ (aJ x.b) (z.p,z.q)=none
 dv:∀z∈(only C A).v,z.slot<=s->z∈x.v\/(∃t,at_ (aJ x.b) (z.p,z.q)=some t/\z.slot<t)\/at_ (aJ x.b) (z.p,z.q)=none
theorem sY (C:Cf)(x y:Vw):Sub (only C x) (only C (join y (only C x))):=
 ⟨fun b hb=>List.mem_filter.2 ⟨(xR y (only C x)).1 b hb,(List.mem_filter.1 hb).2⟩,fun b hb=>List.mem_filter.2 ⟨(xR y (only C x)).2 b hb,(List.mem_filter.1 hb).2⟩⟩
theorem gZ {C:Cf}{x:Vw}(h:aQ C x=true):(∀b∈x.b,bM C b=true)/\(∀v∈x.v,dE C v=true)/\x.v.Nodup/\∀v∈x.v,badV (aJ x.b) v=false:=by
 unfold aQ only at h
 simp only[Bool.and_eq_true,decide_eq_true_eq,List.length_filter_eq_length_iff,Bool.not_eq_true',List.any_eq_false]at h
 exact⟨h.1.1.2,h.1.2,(nY x.v).2.1 h.2.1,fun v hv=>by simpa using h.2.2 v hv⟩
section
variable {C:Cf}{A:Vw}{s:Int}{x y:Vw}(hx:aFi C A s x)(hy:aFi C A s y)(hn:∀b,b∈x.b\/b∈y.b->∀b',b'∈x.b\/b'∈y.b->name b=name b'->b=b')
include hx hy hn
theorem aId :∀b∈x.b,b∈y.b:=by
 have hmx:=(bI hx.may).2
 have hmy:=(bI hy.may).2
 have hfx:=(gZ hx.may).1
 have key:∀(l:List B),may l=true->(∀b∈l,b∈x.b)->∀b∈l,b∈y.b:=by
  refine dT ?_ ?_
  ·intro _ _ b hb;cases hb
  ·intro l b ih hl hs z hz
   obtain⟨h1,⟨t,h2,h3⟩,h4⟩:=(iE l b).1 hl
   have ih2:=ih h1 (fun z hz=>hs z (List.mem_append_left _ hz))
   rcases List.mem_append.1 hz with hz|hz
   ·exact ih2 z hz
   ·rw[List.mem_singleton.1 hz]
    have hb:b∈x.b:=hs b (by simp)
    have hp:at_ (aJ y.b) (b.p,b.q)=some t:=by
     rcases kI l h2 with⟨e1,e2⟩|⟨p,hp,e1,e2⟩
     ·rw[e1,e2];exact kF y.b hmy
     ·rw[<-e1,<-e2];exact jF y.b hmy p (ih2 p hp)
    rcases hy.db b (List.mem_filter.2 ⟨hx.sub.1 b hb,hfx b hb⟩) (hx.ub b hb)with e|⟨u,e1,e2⟩|e
    ·obtain⟨u,hu⟩:=Option.isSome_iff_exists.1 e
     rcases kI y.b hu with⟨e1,_⟩|⟨b',hb',e1,_⟩
     ·exact absurd e1 (aJy hmx hb)
     ·rw[hn b (.inl hb) b' (.inr hb') e1.symm];exact hb'
    ·rw[hp]at e1
     simp only[Option.some.injEq]at e1
     omega
    ·rw[hp]at e;cases e
 exact key x.b hmx (fun b hb=>hb)
omit hn in
theorem aIc (hb:∀b∈x.b,b∈y.b):∀v∈x.v,v∈y.v:=by
 intro v hv
 have hmy:=(bI hy.may).2
 have hf:=gZ hx.may
 have hg:=hf.2.2.2 v hv
 have hp:∃t,at_ (aJ y.b) (v.p,v.q)=some t/\t<=v.slot:=by
  unfold badV at hg
  cases e:at_ (aJ x.b) (v.p,v.q)with
  |none=>rw[e]at hg;cases hg
  |some t=>
   rw[e]at hg
   simp only[decide_eq_false_iff_not]at hg
   refine⟨t,?_,by omega⟩
   rcases kI x.b e with⟨e1,e2⟩|⟨p,hp,e1,e2⟩
   ·rw[e1,e2];exact kF y.b hmy
   ·rw[<-e1,<-e2];exact jF y.b hmy p (hb p hp)
 obtain⟨t,ht,hle⟩:=hp
 rcases hy.dv v (List.mem_filter.2 ⟨hx.sub.2 v hv,hf.2.1 v hv⟩) (hx.uv v hv)with e|⟨u,e1,e2⟩|e
 ·exact e
 ·rw[ht]at e1
  simp only[Option.some.injEq]at e1
  omega
 ·rw[ht]at e;cases e
end
structure aLh (x y:Vw):Prop where
 lb:x.b.length=y.b.length
 lv:x.v.length=y.v.length
 b:∀b,b∈x.b↔b∈y.b
 v:∀v,v∈x.v↔v∈y.v
theorem meet {C:Cf}{A:Vw}{s:Int}{x y:Vw}(hx:aFi C A s x)(hy:aFi C A s y)(hn:∀b,b∈x.b\/b∈y.b->∀b',b'∈x.b\/b'∈y.b->name b=name b'->b=b'):aLh x y/\∀t,aL C x t=aL C y t:=by
 have hmx:=(bI hx.may).2
 have hmy:=(bI hy.may).2
 have hn2:∀b,b∈y.b\/b∈x.b->∀b',b'∈y.b\/b'∈x.b->name b=name b'->b=b':=fun b hb b' hb'=>hn b hb.symm b' hb'.symm
 have b1:=aId hx hy hn
 have b2:=aId hy hx hn2
 have hb:∀b,b∈x.b↔b∈y.b:=fun b=>⟨b1 b,b2 b⟩
 have hv:∀v,v∈x.v↔v∈y.v:=fun v=>⟨aIc hx hy b1 v,aIc hy hx b2 v⟩
 exact⟨⟨rD hmx hmy hb,(gB _ _ (gZ hx.may).2.2.1 (gZ hy.may).2.2.1 hv).length_eq,hb,hv⟩,fun t=>aAa hmx hmy hb hv t⟩
attribute [local irreducible] take join
theorem aIx (C:Cf)(k:Nw):(eG C k).n.v=(take C k.n.v k.n.inn k.slot).1/\(eG C k).n.full=(k.n.full||(take C k.n.v k.n.inn k.slot).2.2):=⟨rfl,rfl⟩
theorem aFx {C:Cf}{n:Nd}(h:n.tick%3=2)(inn:Vw)(ol:List Off):(step C n inn ol).1.v=(take C n.v (join n.inn (only C inn)) (n.tick/3)).1/\((step C n inn ol).1.full=false->(take C n.v (join n.inn (only C inn)) (n.tick/3)).2.2=false):=by
 have K:=tP C (fS C n inn) ol
 have V:=aIx C (hear C (fS C n inn) ol)
 unfold step nC
 rw[if_neg (by omega),if_neg (by omega)]
 have e1:(hear C (fS C n inn) ol).n.v=n.v:=K.2.2.2.2.1
 have e2:(hear C (fS C n inn) ol).n.inn=join n.inn (only C inn):=K.2.1
 have e3:(hear C (fS C n inn) ol).slot=n.tick/3:=K.1
 rw[e1,e2,e3]at V
 refine⟨V.1,fun hf=>?_⟩
 have hf2:(eG C (hear C (fS C n inn) ol)).n.full=false:=hf
 rw[V.2]at hf2
 exact(Bool.or_eq_false_iff.1 hf2).2
theorem aGd {U:Vw}{k:Wd}{al:List Ac}(h:WIn U k)(ha:eF U al):Sub (all k.n) (seen k al):=by
 have A:=oQ h.subs
 have s:=mJ k.o (all k.n) h.o A.1 A.2.1
 have s2:=qM al _ ha.sub s.1 s.2.1
 exact s.2.2.trans s2.2.2
theorem WOk.meets {al:List Ac}{k:Wd}(h:WOk al k)(h2:k.tick%3=2)(ht:k.tick<1000)(ho:odd (doW k []) al=false):∀n∈(doW k []).n,∀n'∈(doW k []).n,aLh n.v n'.v/\∀t,aL k.c n.v t=aL k.c n'.v t:=by
 obtain⟨U,h1,ha⟩:=h
 have A0:eF U []:=eF.none U
 have A:=oQ h1.subs
 have hw:=h1.step A0 ht
 have hs:=aGd hw (ha.mono (nU k [] U))
 have A2:=oQ hw.subs
 unfold odd at ho
 rw[Bool.or_eq_false_iff]at ho
 have hc:=aHk ho.2
 have key:∀n∈(doW k []).n,aFi k.c (all k.n) (k.tick/3) n.v/\∀b∈n.v.b,b∈(seen (doW k []) al).b:=by
  intro n' hn'
  obtain⟨i,n,hn,e⟩:=wI hn'
  have hm:=List.mem_of_getElem? hn
  have N:=h1.nd n hm
  have hnt:=h1.nt n hm
  have S:=aFx (C:=k.c) (n:=n) (by rw[hnt];exact h2) (all k.n) k.o
  have hm0:eY k [] i=(all k.n,k.o):=rfl
  have e1:n'=(Tp.step k.c n (all k.n) k.o).1:=by rw[e];unfold eX;rw[hm0]
  have hfull:(Tp.step k.c n (all k.n) k.o).1.full=false:=by
   rw[<-e1]
   have:=ho.1
   unfold vZ at this
   rw[List.any_eq_false]at this
   simpa using this n' hn'
  have L:=xF (join n.inn (only k.c (all k.n))) (s:=n.tick/3) (M:=k.tick/3) N.may N.ub N.uv (by rw[hnt];omega)
  have hsub:Sub (take k.c n.v (join n.inn (only k.c (all k.n))) (n.tick/3)).1 (all k.n):=by
   have hk:=A.2.2 n hm
   exact xE _ _ _ _ ((pV n.v n.inn).trans hk) (((xR n.v n.inn).trans hk).join (qS _ _))
  have hf3:=S.2 hfull
  rw[e1,S.1]
  refine⟨⟨L.may,hsub,L.ub,L.uv,fun z hz hzs=>?_,fun z hz hzs=>?_⟩,fun b hb=>?_⟩
  ·exact L.db hf3 z ((sY k.c (all k.n) n.inn).1 z hz) (by rw[hnt];exact hzs)
  ·exact L.dv hf3 z ((sY k.c (all k.n) n.inn).2 z hz) (by rw[hnt];exact hzs)
  ·have hb2:b∈n'.v.b:=by rw[e1,S.1];exact hb
   exact hs.1 b ((A2.2.2 n' hn').1 b ((pV n'.v n'.inn).1 b hb2))
 intro n hn n' hn'
 refine meet (key n hn).1 (key n' hn').1 (fun b hb b' hb' e=>?_)
 refine hc b ?_ b' ?_ e
 ·exact hb.elim ((key n hn).2 b) ((key n' hn').2 b)
 ·exact hb'.elim ((key n hn).2 b') ((key n' hn').2 b')
end Tp
end
end Go.Proofs.YtbbhinehcncmeaaGreat
