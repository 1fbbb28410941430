/- A part of the proof of the laws of the top: TpPlD. No condition. -/
import Derived.Test.YtbbhinehcncmeaaGreatG36
import Derived.Test.YtbbhinehcncmeaaGreatM00
namespace Go.Proofs.YtbbhinehcncmeaaGreat
open Go.RowKit
set_option linter.unusedSimpArgs false
set_option linter.unusedVariables false
set_option linter.unusedSectionVars false
namespace Tp
theorem gB {α:Type} [DecidableEq α]:∀(l l':List α),l.Nodup->l'.Nodup->(∀x,x∈l↔x∈l')->l.Perm l'
 | [],l',_,_,h=>by
  have:l'=[]:=List.eq_nil_iff_forall_not_mem.2 (fun x hx=>by have:=(h x).2 hx;cases this)
  rw[this]
 |x::r,l',hn,hn',h=>by
  rw[List.nodup_cons]at hn
  have hx:=(h x).1 (List.mem_cons_self ..)
  have h1:(x::l'.erase x).Perm l':=(List.perm_cons_erase hx).symm
  refine List.Perm.trans (List.Perm.cons x ?_) h1
  refine gB r (l'.erase x) hn.2 (hn'.sublist (List.erase_sublist ..)) (fun y=>?_)
  by_cases e:y=x
  ·subst e
   refine⟨fun h=>absurd h hn.1,fun h=>?_⟩
   exact absurd h (List.Nodup.not_mem_erase hn')
  ·rw[List.mem_erase_of_ne e,<-h y,List.mem_cons]
   simp[e]
theorem aIj {K V:Type} [DecidableEq K]:∀(m:List (K×V)),(m.map Prod.fst).Nodup->∀e∈m,at_ m e.1=some e.2
 | [],_,e,he=>by cases he
 |p::r,hn,e,he=>by
  rw[List.map_cons,List.nodup_cons]at hn
  rw[dG]
  rcases List.mem_cons.1 he with rfl|he
  ·rw[if_pos rfl]
  ·rw[if_neg (fun h=>hn.1 (by rw[<-h];exact List.mem_map_of_mem he))]
   exact aIj r hn.2 e he
theorem aIb {K V:Type} [DecidableEq K]:∀(m:List (K×V)) {k:K}{v:V},at_ m k=some v->(k,v)∈m
 | [],k,v,h=>by cases h
 |p::r,k,v,h=>by
  rw[dG]at h
  split at h
  ·rename_i e
   simp only[Option.some.injEq]at h
   rw[e,<-h]
   exact List.mem_cons_self ..
  ·exact List.mem_cons_of_mem _ (aIb r h)
theorem aAg (l:List V)(v:V):book (l++[v])=eD (book l) v:=by
 unfold book
 rw[List.foldl_append]
 try rfl
structure aLg (l:List V) (b:HM×BM):Prop where
 old:∀d h,at_ b.1 d=some h->∃v∈l,(v.who,v.slot)=d/\(v.p,v.q)=h
 all:∀v∈l,(at_ b.1 (v.who,v.slot)).isSome=true
 bad:∀d,(at_ b.2 d).getD false=true↔∃v∈l,∃v'∈l,(v.who,v.slot)=d/\(v'.who,v'.slot)=d/\(v.p,v.q)≠(v'.p,v'.q)
theorem aHo :∀(l:List V),aLg l (book l):=by
 refine dT ?_ ?_
 ·refine⟨fun d h e=>(by cases e),fun v hv=>(by cases hv),fun d=>⟨fun h=>(by cases h),fun⟨v,hv,_⟩=>(by cases hv)⟩⟩
 ·intro l x ih
  rw[aAg]
  refine⟨fun d h e=>?_,fun v hv=>?_,fun d=>?_⟩
  ·unfold eD at e
   simp only[dF]at e
   split at e
   ·rename_i e2
    simp only[Option.some.injEq]at e
    exact⟨x,by simp,e2.symm,e⟩
   ·obtain⟨v,hv,h1,h2⟩:=ih.old d h e
    exact⟨v,List.mem_append_left _ hv,h1,h2⟩
  ·unfold eD
   simp only[dF]
   split
   ·rfl
   ·rename_i e
    rcases List.mem_append.1 hv with hv|hv
    ·exact ih.all v hv
    ·rw[List.mem_singleton.1 hv]at e;exact absurd rfl e
  ·have up:(∃v∈l,∃v'∈l,(v.who,v.slot)=d/\(v'.who,v'.slot)=d/\(v.p,v.q)≠(v'.p,v'.q))->∃v∈l++[x],∃v'∈l++[x],(v.who,v.slot)=d/\(v'.who,v'.slot)=d/\(v.p,v.q)≠(v'.p,v'.q):=
    fun⟨v,hv,v',hv',h⟩=>⟨v,List.mem_append_left _ hv,v',List.mem_append_left _ hv',h⟩
   unfold eD
   cases e:at_ (book l).1 (x.who,x.slot)with
   |none=>
    simp only
    rw[ih.bad d]
    refine⟨up,?_⟩
    rintro⟨v,hv,v',hv',h1,h2,h3⟩
    have nx:∀u∈l,(u.who,u.slot)≠(x.who,x.slot):=fun u hu e2=>by
     have:=ih.all u hu
     rw[e2,e]at this
     cases this
    rcases List.mem_append.1 hv with hv|hv<;>rcases List.mem_append.1 hv' with hv'|hv'
    ·exact⟨v,hv,v',hv',h1,h2,h3⟩
    ·rw[List.mem_singleton.1 hv']at h2
     exact absurd (h1.trans h2.symm) (nx v hv)
    ·rw[List.mem_singleton.1 hv]at h1
     exact absurd (h2.trans h1.symm) (nx v' hv')
    ·rw[List.mem_singleton.1 hv,List.mem_singleton.1 hv']at h3
     exact absurd rfl h3
   |some was=>
    simp only
    obtain⟨u,hu,u1,u2⟩:=ih.old _ _ e
    by_cases e2:was=(x.p,x.q)
    ·rw[if_pos e2,ih.bad d]
     refine⟨up,?_⟩
     rintro⟨v,hv,v',hv',h1,h2,h3⟩
     rcases List.mem_append.1 hv with hv|hv<;>rcases List.mem_append.1 hv' with hv'|hv'
     ·exact⟨v,hv,v',hv',h1,h2,h3⟩
     ·rw[List.mem_singleton.1 hv']at h2 h3
      exact⟨v,hv,u,hu,h1,u1.trans h2,by rw[u2,e2];exact h3⟩
     ·rw[List.mem_singleton.1 hv]at h1 h3
      exact⟨u,hu,v',hv',u1.trans h1,h2,by rw[u2,e2];exact h3⟩
     ·rw[List.mem_singleton.1 hv,List.mem_singleton.1 hv']at h3
      exact absurd rfl h3
    ·rw[if_neg e2]
     rw[dF]
     by_cases e3:d=(x.who,x.slot)
     ·rw[if_pos e3]
      refine⟨fun _=>⟨u,List.mem_append_left _ hu,x,by simp,u1.trans e3.symm,e3.symm,by rw[u2];exact e2⟩,fun _=>rfl⟩
     ·rw[if_neg e3,ih.bad d]
      refine⟨up,?_⟩
      rintro⟨v,hv,v',hv',h1,h2,h3⟩
      rcases List.mem_append.1 hv with hv|hv
      ·rcases List.mem_append.1 hv' with hv'|hv'
       ·exact⟨v,hv,v',hv',h1,h2,h3⟩
       ·rw[List.mem_singleton.1 hv']at h2;exact absurd h2.symm e3
      ·rw[List.mem_singleton.1 hv]at h1;exact absurd h1.symm e3
theorem mT (l:List V)(slot:Int)(x:V):x∈dR l slot↔x.slot=slot/\x∈l/\∀y∈l,(y.who,y.slot)=(x.who,x.slot)->(y.p,y.q)=(x.p,x.q):=by
 have L:=aHo l
 unfold dR
 rw[(eL _).mem_iff]
 unfold outs
 rw[List.mem_map]
 have nb:∀d,(at_ (book l).2 d).getD false=false->∀v∈l,∀v'∈l,(v.who,v.slot)=d->(v'.who,v'.slot)=d->(v.p,v.q)=(v'.p,v'.q):=by
  intro d hd v hv v' hv' h1 h2
  by_cases e:(v.p,v.q)=(v'.p,v'.q)
  ·exact e
  ·rw[(L.bad d).2 ⟨v,hv,v',hv',h1,h2,e⟩]at hd;cases hd
 constructor
 ·rintro⟨e,he,rfl⟩
  rw[List.mem_filter]at he
  obtain⟨he,hc⟩:=he
  unfold gE at hc
  simp only[Bool.and_eq_true,decide_eq_true_eq,Bool.not_eq_true']at hc
  have ha:=aIj _ (lQ l) e he
  obtain⟨v,hv,h1,h2⟩:=L.old _ _ ha
  have hv2:v=xB slot e:=by
   obtain⟨⟨e1,e2⟩,e3,e4⟩:=e
   obtain⟨v1,v2,v3,v4⟩:=v
   simp only[Prod.mk.injEq]at h1 h2
   simp only at hc
   show _=(⟨e1,slot,e3,e4⟩:V)
   rw[h1.1,h1.2,hc.1,h2.1,h2.2]
  refine⟨rfl,hv2▸hv,fun y hy hk=>?_⟩
  refine nb e.1 hc.2 y hy _ (hv2▸hv) (hk.trans ?_) ?_
  ·rw[<-hv2];exact h1
  ·rw[<-hv2];exact h1
 ·rintro⟨h1,h2,h3⟩
  obtain⟨h,hh⟩:=Option.isSome_iff_exists.1 (L.all x h2)
  obtain⟨v,hv,u1,u2⟩:=L.old _ _ hh
  have hx:h=(x.p,x.q):=by rw[<-u2];exact h3 v hv u1
  refine⟨((x.who,x.slot),h),List.mem_filter.2 ⟨aIb _ hh,?_⟩,?_⟩
  ·unfold gE
   simp only[Bool.and_eq_true,decide_eq_true_eq,Bool.not_eq_true']
   refine⟨h1,?_⟩
   cases e:(at_ (book l).2 (x.who,x.slot)).getD false with
   |false=>rfl
   |true=>
    obtain⟨v,hv,v',hv',a1,a2,a3⟩:=(L.bad _).1 e
    exact absurd ((h3 v hv a1).trans (h3 v' hv' a2).symm) a3
  ·unfold xB
   rw[hx,<-h1]
theorem sE {l l':List V}(h:∀v,v∈l↔v∈l')(slot:Int):dR l slot=dR l' slot:=by
 have hm:∀x,x∈dR l slot↔x∈dR l' slot:=fun x=>by
  rw[mT,mT,h x]
  simp only[h]
 have nd:∀l:List V,((dR l slot).map V.who).Nodup:=fun l=>by
  have:((outs (book l).2 slot (book l).1).map V.who).Nodup:=qP _ _ _ (lQ l)
  exact((eL _).map V.who).nodup_iff.2 this
 have nd2:∀l:List V,(dR l slot).Nodup:=fun l=>(List.pairwise_map.1 (nd l)).imp (fun h e=>h (by rw[e]))
 have hp:=gB _ _ (nd2 l) (nd2 l') hm
 refine List.Perm.eq_of_pairwise (le:=fun a b:V=>a.who<=b.who) (fun a b ha hb h1 h2=>aAx _ (nd l) a ha b ((hm b).2 hb) (by omega)) (fW _) (fW _) hp
theorem vX {C:Cf}{l l':List V}(h:∀v,v∈l↔v∈l')(slot:Int):gM C.W C.sd C.ep C.nu C.de l slot=gM C.W C.sd C.ep C.nu C.de l' slot:=by
 unfold gM
 rw[sE h]
section
variable {l l':List B}(hl:may l=true)(hl':may l'=true)(h:∀b,b∈l↔b∈l')
include hl hl' h
theorem pU (x:Int×Int):(at_ (aJ l) x).isSome=(at_ (aJ l') x).isSome:=by
 have key:∀{l l':List B},may l=true->may l'=true->(∀b,b∈l↔b∈l')->(at_ (aJ l) x).isSome=true->(at_ (aJ l') x).isSome=true:=by
  intro l l' hl hl' h e
  obtain⟨s,hs⟩:=Option.isSome_iff_exists.1 e
  rcases kI l hs with⟨rfl,_⟩|⟨b,hb,rfl,_⟩
  ·exact gK hl' (.inl rfl)
  ·exact gK hl' (.inr ⟨b,(h b).1 hb,rfl⟩)
 cases e:(at_ (aJ l) x).isSome with
 |true=>rw[key hl hl' h e]
 |false=>
  cases e2:(at_ (aJ l') x).isSome with
  |false=>rfl
  |true=>rw[key hl' hl (fun b=>(h b).symm) e2]at e;cases e
theorem mA {m m':PM}(hm:places l=some m)(hm':places l'=some m'):∀(f:Nat) (id:Int×Int),(at_ m id).isSome=true->eS l m f id=eS l' m' f id
 |0,id,_=>rfl
 |f+1,id,hi=>by
  have hi':(at_ m' id).isSome=true:=by rw[<-fJ hm',<-pU hl hl' h,fJ hm];exact hi
  unfold eS
  obtain⟨i,e⟩:=Option.isSome_iff_exists.1 hi
  obtain⟨i',e'⟩:=Option.isSome_iff_exists.1 hi'
  rw[e,e']
  simp only
  rcases(dU hm).2 id i e with⟨h1,h2⟩|⟨j,h1,h2,h3,z,h4,_⟩
  ·rw[h2,(dU hm').1]at e'
   simp only[Option.some.injEq]at e'
   rw[if_pos h1,if_pos e'.symm]
  ·rcases(dU hm').2 id i' e' with⟨k1,k2⟩|⟨j',k1,k2,k3,z',k4,_⟩
   ·rw[k2,(dU hm).1]at e
    simp only[Option.some.injEq]at e
    omega
   ·have hb:gG l j=gG l' j':=aGl l' hl' _ ((h _).1 (mL l j h2)) _ (mL l' j' k2) (h3.trans k3.symm)
    rw[if_neg (by omega),if_neg (by omega),h1,k1,Int.toNat_natCast,Int.toNat_natCast,hb]
    congr 1
    exact mA hm hm' f _ (by rw[<-hb,h4];rfl)
theorem rD :l.length=l'.length:=(gB _ _ (tE l hl) (tE l' hl') h).length_eq
theorem aAe (id:Int×Int):chain l id=chain l' id:=by
 unfold chain
 cases hm:places l with
 |none=>unfold may at hl;rw[hm]at hl;cases hl
 |some m=>
  cases hm':places l' with
  |none=>unfold may at hl';rw[hm']at hl';cases hl'
  |some m'=>
   simp only
   have e:(at_ m' id).isSome=(at_ m id).isSome:=by rw[<-fJ hm',<-pU hl hl' h,fJ hm]
   rw[e,rD hl hl' h]
   split
   ·exact mA hl hl' h hm hm' _ _ ‹_›
   ·rfl
theorem aJq (W:List Int)(ep nu de:Int)(vs:List V)(t:Int×Int):on W ep nu de l vs t=on W ep nu de l' vs t:=by
 have:onP l t=onP l' t:=by
  funext v
  unfold onP
  rw[aAe hl hl' h]
 unfold on told
 rw[this]
theorem aDq (id x:Int×Int):x∈aAk l id↔x∈aAk l' id:=by
 unfold aAk fN
 rw[if_pos hl,if_pos hl',List.mem_map,List.mem_map]
 simp only[List.mem_filter,h]
end
theorem uL (a:R):gT a a=false:=by unfold gT;simp
theorem wU {a b c:R}(h:gT a b=true)(h2:gT b c=true):gT a c=true:=by
 unfold gT at *
 split at h<;>split at h2
 ·rename_i e1 e2
  rw[if_pos (e1.trans e2)]
  simp only[Bool.and_eq_true,Bool.not_eq_true',Bool.and_eq_false_iff,decide_eq_false_iff_not,Mx.less,Bool.or_eq_true,decide_eq_true_eq,beq_iff_eq]at h h2⊢
  omega
 ·rename_i e1 e2
  simp only[decide_eq_true_eq]at h2
  rw[if_neg (by omega)]
  simp only[decide_eq_true_eq]
  omega
 ·rename_i e1 e2
  simp only[decide_eq_true_eq]at h
  rw[if_neg (by omega)]
  simp only[decide_eq_true_eq]
  omega
 ·simp only[decide_eq_true_eq]at h h2
  rw[if_neg (by omega)]
  simp only[decide_eq_true_eq]
  omega
theorem wW {a b:R}(h:gT a b=false)(h2:gT b a=false):a=b:=by
 obtain⟨a1,a2,a3⟩:=a
 obtain⟨b1,b2,b3⟩:=b
 unfold gT at h h2
 simp only at h h2
 by_cases e:a1=b1
 ·rw[if_pos e]at h
  rw[if_pos e.symm]at h2
  simp only[Mx.less,Bool.and_eq_false_iff,Bool.not_eq_false',Bool.and_eq_true,decide_eq_true_eq,Bool.or_eq_false_iff,decide_eq_false_iff_not,beq_eq_false_iff_ne]at h h2
  have h3:a2=b2/\a3=b3:=by omega
  rw[e,h3.1,h3.2]
 ·rw[if_neg e]at h
  rw[if_neg (fun x=>e x.symm)]at h2
  simp only[decide_eq_false_iff_not]at h h2
  omega
theorem lR (on:Int×Int->Int):∀(ks:List (Int×Int)),(dC on ks=⟨-1,0,0⟩\/∃k∈ks,dC on ks=aFl on k)/\(∀k∈ks,gT (aFl on k) (dC on ks)=false):=by
 refine dT ?_ ?_
 ·exact⟨.inl rfl,fun k hk=>(by cases hk)⟩
 ·intro ks k ih
  have e:dC on (ks++[k])=mC on (dC on ks) k:=by unfold dC;rw[List.foldl_append];rfl
  rw[e]
  unfold mC
  by_cases h:gT (aFl on k) (dC on ks)=true
  ·rw[if_pos h]
   refine⟨.inr ⟨k,by simp,rfl⟩,fun x hx=>?_⟩
   rcases List.mem_append.1 hx with hx|hx
   ·cases e2:gT (aFl on x) (aFl on k)with
    |false=>rfl
    |true=>
     have:=ih.2 x hx
     rw[wU e2 h]at this
     cases this
   ·rw[List.mem_singleton.1 hx];exact uL _
  ·rw[if_neg h]
   refine⟨ih.1.imp id (fun⟨x,hx,e⟩=>⟨x,List.mem_append_left _ hx,e⟩),fun x hx=>?_⟩
   rcases List.mem_append.1 hx with hx|hx
   ·exact ih.2 x hx
   ·rw[List.mem_singleton.1 hx];simpa using h
theorem wP (on:Int×Int->Int)(h0:∀k,0<=on k){ks ks':List (Int×Int)}(h:∀k,k∈ks↔k∈ks'):dC on ks=dC on ks':=by
 have key:∀{ks ks':List (Int×Int)},(∀k,k∈ks↔k∈ks')->gT (dC on ks) (dC on ks')=false:=by
  intro ks ks' h
  rcases(lR on ks).1 with e|⟨k,hk,e⟩
  ·rw[e]
   rcases(lR on ks').1 with e2|⟨k',hk',e2⟩
   ·rw[e2];exact uL _
   ·rw[e2]
    unfold gT aFl
    have:=h0 k'
    simp only
    rw[if_neg (by omega)]
    simp only[decide_eq_false_iff_not]
    omega
  ·rw[e];exact(lR on ks').2 k ((h k).1 hk)
 exact wW (key h) (key (fun k=>(h k).symm))
theorem nX {W:List Int}{ep nu de:Int}{l l':List B}{vs:List V}(hb:∀id,best W ep nu de l vs id=best W ep nu de l' vs id):∀(f:Nat) (id:Int×Int),iX W ep nu de l vs f id=iX W ep nu de l' vs f id
 |0,id=>rfl
 |f+1,id=>by
  unfold iX
  rw[hb id]
  split
  ·exact nX hb f _
  ·rfl
theorem aAa {C:Cf}{x y:Vw}(hx:may x.b=true)(hy:may y.b=true)(hb:∀b,b∈x.b↔b∈y.b)(hv:∀v,v∈x.v↔v∈y.v)(s:Int):aL C x s=aL C y s:=by
 unfold aL iH head
 rw[vX hv,rD hx hy hb]
 refine nX (fun id=>?_) _ _
 unfold best
 have e:on C.W C.ep C.nu C.de x.b (gM C.W C.sd C.ep C.nu C.de y.v s)=on C.W C.ep C.nu C.de y.b (gM C.W C.sd C.ep C.nu C.de y.v s):=by
  funext t
  exact aJq hx hy hb _ _ _ _ _ t
 rw[e]
 exact wP _ (fun k=>(sD _ _ _ _ _).1) (fun k=>aDq hx hy hb id k)
end Tp
end Go.Proofs.YtbbhinehcncmeaaGreat
