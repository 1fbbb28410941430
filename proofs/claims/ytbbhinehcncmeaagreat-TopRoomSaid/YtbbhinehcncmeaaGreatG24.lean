/- A part of the proof of the laws of the top: TpNodeD, TpNodeE. No condition. -/
import Derived.Test.YtbbhinehcncmeaaGreatG20
import Derived.Test.YtbbhinehcncmeaaGreatG22
namespace Go.Proofs.YtbbhinehcncmeaaGreat
open Go.RowKit
set_option linter.unusedSimpArgs false
set_option linter.unusedVariables false
set_option linter.unusedSectionVars false
set_option maxRecDepth 100000
set_option maxHeartbeats 4000000
structure CtR (w1:World) (C:Tp.Cf) (x y:Tp.Vw) (slot:Int) (tv:Option (RV×RV)) (al bl:Option Nat) (W:World):Prop where
 bel:Below w1.heap.size w1 W
 tk:∀p q,tv=some (p,q)->∃W0 base,VwR W0 p (Tp.take C x y slot).1/\VwR W0 q (Tp.take C x y slot).2.1/\p.New base/\q.New base/\w1.heap.size<=base/\Below W0.heap.size W0 W/\∀g,al=some g\/bl=some g->g<base\/W0.heap.size<=g
 aa:∀g,al=some g->W.heap[g]?=some (.cells (m18) 38 (0,0))/\w1.heap.size<=g
 ab:∀g,bl=some g->W.heap[g]?=some (.cells (m18) 38 (0,0))/\w1.heap.size<=g
 ne:∀g h,al=some g->bl=some h->g≠h
section
variable {w1 W W':World}{C:Tp.Cf}{x y:Tp.Vw}{slot:Int}{tv:Option (RV×RV)}{al bl:Option Nat}
theorem CtR.start :CtR w1 C x y slot none none none w1.drew:=⟨(Below.refl _ _).drew,fun _ _ h=>(by cases h),fun _ h=>(by cases h),fun _ h=>(by cases h),fun _ _ h=>(by cases h)⟩
theorem CtR.keep (h:CtR w1 C x y slot tv al bl W)(hb:Below W.heap.size W W'):CtR w1 C x y slot tv al bl W':=by
 refine⟨bS h.bel hb,fun p q he=>?_,fun g he=>⟨cG hb (gS (h.aa g he).1) (h.aa g he).1,(h.aa g he).2⟩,fun g he=>⟨cG hb (gS (h.ab g he).1) (h.ab g he).1,(h.ab g he).2⟩,h.ne⟩
 obtain⟨W0,base,e1,e2,e3,e4,e5,e6,e7⟩:=h.tk p q he
 exact⟨W0,base,e1,e2,e3,e4,e5,bS e6 hb,e7⟩
theorem CtR.m (h:CtR w1 C x y slot tv none bl W):CtR w1 C x y slot tv (some W.heap.size) bl (W.alloc (m56)):=by
 have h2:=h.keep (W':=W.alloc (m56)) ((Below.refl _ _).alloc nr _)
 refine⟨h2.bel,fun p q he=>?_,fun g he=>?_,h2.ab,fun g g' he hg'=>?_⟩
 ·obtain⟨W0,base,e1,e2,e3,e4,e5,e6,e7⟩:=h.tk p q he
  refine⟨W0,base,e1,e2,e3,e4,e5,bS e6 ((Below.refl _ _).alloc nr _),fun g hg=>?_⟩
  rcases hg with hg|hg
  ·cases hg
   exact .inr e6.size
  ·exact e7 g (.inr hg)
 ·cases he
  exact⟨heap_alloc_new W _,h.bel.size⟩
 ·cases he
  have:=(gS (h.ab g' hg').1)
  omega
theorem CtR.m2 (h:CtR w1 C x y slot tv al none W):CtR w1 C x y slot tv al (some W.heap.size) (W.alloc (m56)):=by
 have h2:=h.keep (W':=W.alloc (m56)) ((Below.refl _ _).alloc nr _)
 refine⟨h2.bel,fun p q he=>?_,h2.aa,fun g he=>?_,fun g g' hg he=>?_⟩
 ·obtain⟨W0,base,e1,e2,e3,e4,e5,e6,e7⟩:=h.tk p q he
  refine⟨W0,base,e1,e2,e3,e4,e5,bS e6 ((Below.refl _ _).alloc nr _),fun g hg=>?_⟩
  rcases hg with hg|hg
  ·exact e7 g (.inl hg)
  ·cases hg
   exact .inr e6.size
 ·cases he
  exact⟨heap_alloc_new W _,h.bel.size⟩
 ·cases he
  have:=(gS (h.aa g hg).1)
  omega
theorem CtR.c1 {aw:Option Addr}{nw cw:Nat}{r s:RV}(hC:aP w1 aw nw C.W C.sd)(hx:VwR w1 r x)(hy:VwR w1 s y)(h:CtR w1 C x y slot none al bl W):Calls Tryz.prog 114 #[.agg (m02 aw nw cw C),.agg (m01 r),.agg (m01 s),.int .i64 slot] W fun e W'=>∃p q:RV,e=.returned (.tuple #[.agg (m01 p),.agg (m01 q),.bool (Tp.take C x y slot).2.2])/\CtR w1 C x y slot (some (p,q)) al bl W':=by
 refine(aBb aw nw cw C r s x y slot W (hC.below h.bel nr) (hx.below h.bel nr) (hy.below h.bel nr)).mono ?_
 rintro e W' ⟨p,q,rfl,h1,h2,h3,h4,hb⟩
 have hk:=h.keep hb
 refine⟨p,q,rfl,hk.bel,fun p' q' he=>?_,hk.aa,hk.ab,hk.ne⟩
 cases he
 refine⟨W',W.heap.size,h1,h2,h3,h4,h.bel.size,Below.refl _ _,fun g hg=>.inl ?_⟩
 rcases hg with hg|hg
 ·exact(gS (h.aa g hg).1)
 ·exact(gS (h.ab g hg).1)
theorem VwR.offNew {W0:World}{p:RV}{v:Tp.Vw}{base g:Nat}(h:VwR W0 p v)(hn:p.New base)(hg:g<base\/W0.heap.size<=g):p.Off g:=hg.elim (fun h1=>hn.off h1) (fun h1=>h.away h1)
theorem CtR.last {p q:RV}{ga gb:Nat}(h:CtR w1 C x y slot (some (p,q)) (some ga) (some gb) W){v0 v1 u0 u1:Value}:∃W4,W4=(((W.setCell (m00 ga) v0).setCell (m15 ga) v1).setCell (m00 gb) u0).setCell (m15 gb) u1/\W4.heap[ga]?=some (.cells #[v0,v1] 38 (0,0))/\W4.heap[gb]?=some (.cells #[u0,u1] 38 (0,0))/\VwR W4 p (Tp.take C x y slot).1/\VwR W4 q (Tp.take C x y slot).2.1/\Below w1.heap.size w1 W4/\p.New w1.heap.size/\q.New w1.heap.size/\w1.heap.size<=ga/\w1.heap.size<=gb:=by
 obtain⟨W0,base,e1,e2,e3,e4,e5,e6,e7⟩:=h.tk p q rfl
 have T1:=set2 W ga _ _ v0 v1 _ (h.aa ga rfl).1
 have hn:=h.ne ga gb rfl rfl
 have hb2:=(T1.block gb (Ne.symm hn)).trans (h.ab gb rfl).1
 have T2:=set2 _ gb _ _ u0 u1 _ hb2
 have o1:=e7 ga (.inl rfl)
 have o2:=e7 gb (.inr rfl)
 refine⟨_,rfl,(T2.block ga hn).trans T1.new,T2.new,?_,?_,(h.bel.trans (T1.below (h.aa ga rfl).2)).trans (T2.below (h.ab gb rfl).2),e3.lower e5,e4.lower e5,(h.aa ga rfl).2,(h.ab gb rfl).2⟩
 ·exact((e1.keep e6).keepS (cL T1 rfl) (e1.offNew e3 o1)).keepS (cL T2 rfl) (e1.offNew e3 o2)
 ·exact((e2.keep e6).keepS (cL T1 rfl) (e2.offNew e4 o1)).keepS (cL T2 rfl) (e2.offNew e4 o2)
end
abbrev rS :Array Oper:=#[⟨some 9,.move (.tmp 0),114,"node.go:52",#[],none⟩,
 ⟨some 10,.nilCheck (.tmp 9),0,"node.go:52",#[⟨0,.data⟩],none⟩,
 ⟨some 11,.fieldAddr 116 (.tmp 10) 1,0,"node.go:52",#[⟨1,.data⟩],none⟩,
 ⟨some 12,.load 25 (.tmp 11),25,"node.go:52",#[⟨2,.data⟩],none⟩,
 ⟨some 13,.move (.tmp 0),114,"node.go:52",#[],none⟩,
 ⟨some 14,.nilCheck (.tmp 13),0,"node.go:52",#[⟨4,.data⟩],none⟩,
 ⟨some 15,.fieldAddr 116 (.tmp 14) 0,0,"node.go:52",#[⟨5,.data⟩],none⟩,
 ⟨some 16,.fieldAddr 44 (.tmp 15) 2,0,"node.go:52",#[⟨6,.data⟩],none⟩,
 ⟨some 17,.load 38 (.tmp 16),38,"node.go:52",#[⟨7,.data⟩],none⟩,
 ⟨some 18,.load 38 (.tmp 3),38,"node.go:52",#[],none⟩,
 ⟨some 19,.move (.tmp 0),114,"node.go:52",#[],none⟩,
 ⟨some 20,.nilCheck (.tmp 19),0,"node.go:52",#[⟨10,.data⟩],none⟩,
 ⟨some 21,.fieldAddr 116 (.tmp 20) 2,0,"node.go:52",#[⟨11,.data⟩],none⟩,
 ⟨some 22,.load 3 (.tmp 21),3,"node.go:52",#[⟨12,.data⟩],none⟩,
 ⟨some 23,.call ⟨.value (.func 114),#[.tmp 12,.tmp 17,.tmp 18,.tmp 22],#[25,38,38,3]⟩,169,"node.go:52",#[⟨3,.data⟩,⟨8,.data⟩,⟨9,.data⟩,⟨13,.data⟩],none⟩,
 ⟨some 8,.move (.tmp 23),169,"node.go:52",#[⟨14,.data⟩],none⟩,
 ⟨some 24,.extract (.tmp 8) 0,38,"node.go:52",#[⟨15,.data⟩],none⟩,
 ⟨some 25,.extract (.tmp 8) 1,38,"node.go:52",#[⟨15,.data⟩,⟨21,.gcOnly .lateStores⟩],none⟩,
 ⟨some 26,.extract (.tmp 8) 2,4,"node.go:52",#[⟨15,.data⟩,⟨22,.gcOnly .lateStores⟩],none⟩,
 ⟨some 5,.alloc 38,0,"node.go:52",#[],none⟩,
 ⟨some 6,.alloc 38,0,"node.go:52",#[],none⟩,
 ⟨none,.store 38 (.tmp 5) (.tmp 24),0,"node.go:52",#[⟨19,.data⟩,⟨16,.data⟩,⟨14,.chain⟩,⟨0,.phase⟩,⟨1,.phase⟩,⟨2,.phase⟩,⟨3,.phase⟩,⟨4,.phase⟩,⟨5,.phase⟩,⟨6,.phase⟩,⟨7,.phase⟩,⟨8,.phase⟩,⟨9,.phase⟩,⟨10,.phase⟩,⟨11,.phase⟩,⟨12,.phase⟩,⟨13,.phase⟩,⟨14,.phase⟩,⟨15,.phase⟩,⟨16,.phase⟩,⟨17,.textOnly .lateStores⟩,⟨18,.textOnly .lateStores⟩,⟨19,.phase⟩,⟨20,.phase⟩],none⟩,
 ⟨none,.store 38 (.tmp 6) (.tmp 25),0,"node.go:52",#[⟨20,.data⟩,⟨17,.data⟩,⟨21,.chain⟩,⟨0,.phase⟩,⟨1,.phase⟩,⟨2,.phase⟩,⟨3,.phase⟩,⟨4,.phase⟩,⟨5,.phase⟩,⟨6,.phase⟩,⟨7,.phase⟩,⟨8,.phase⟩,⟨9,.phase⟩,⟨10,.phase⟩,⟨11,.phase⟩,⟨12,.phase⟩,⟨13,.phase⟩,⟨14,.phase⟩,⟨15,.phase⟩,⟨16,.phase⟩,⟨17,.phase⟩,⟨18,.textOnly .lateStores⟩,⟨19,.phase⟩,⟨20,.phase⟩,⟨21,.phase⟩],none⟩,
 ⟨some 7,.assign (.tmp 26),4,"node.go:52",#[⟨18,.data⟩,⟨22,.chain⟩,⟨0,.phase⟩,⟨1,.phase⟩,⟨2,.phase⟩,⟨3,.phase⟩,⟨4,.phase⟩,⟨5,.phase⟩,⟨6,.phase⟩,⟨7,.phase⟩,⟨8,.phase⟩,⟨9,.phase⟩,⟨10,.phase⟩,⟨11,.phase⟩,⟨12,.phase⟩,⟨13,.phase⟩,⟨14,.phase⟩,⟨15,.phase⟩,⟨16,.phase⟩,⟨17,.phase⟩,⟨18,.phase⟩,⟨19,.phase⟩,⟨20,.phase⟩,⟨21,.phase⟩,⟨22,.phase⟩],none⟩]
abbrev ctSL (aw:Option Addr) (nw cw:Nat) (C:Tp.Cf) (r s:RV) (x y:Tp.Vw) (slot:Int) (X N0 N1:Nat) (w1:World) (HC:Hid (aP w1 aw nw C.W C.sd)) (HX:Hid (VwR w1 r x)) (HY:Hid (VwR w1 s y)) (hc:∀W:World,Below w1.heap.size w1 W->(W.cell? (m59 X)=some (.slice aw nw cw)/\W.cell? ⟨X,13,none⟩=some (.int .u64 C.sd)/\W.cell? ⟨X,14,none⟩=some (.int .i64 C.ep)/\W.cell? ⟨X,15,none⟩=some (.int .i64 C.nu)/\W.cell? ⟨X,16,none⟩=some (.int .i64 C.de))/\(W.cell? (m25 X)=some (.slice r.ab r.nb r.cb)/\W.cell? (m33 X)=some (.slice r.av r.nv r.cv))/\(W.cell? (m00 N0)=some (.slice s.ab s.nb s.cb)/\W.cell? (m15 N0)=some (.slice s.av s.nv s.cv))/\(W.cell? (m47 X)=some (.int .i64 slot))):List (Nat×(World->Prop)):=[(3,fun W=>W.cell? (m59 X)=some (.slice aw nw cw)/\W.cell? ⟨X,13,none⟩=some (.int .u64 C.sd)/\W.cell? ⟨X,14,none⟩=some (.int .i64 C.ep)/\W.cell? ⟨X,15,none⟩=some (.int .i64 C.nu)/\W.cell? ⟨X,16,none⟩=some (.int .i64 C.de)),(8,fun W=>W.cell? (m25 X)=some (.slice r.ab r.nb r.cb)/\W.cell? (m33 X)=some (.slice r.av r.nv r.cv)),(9,fun W=>W.cell? (m00 N0)=some (.slice s.ab s.nb s.cb)/\W.cell? (m15 N0)=some (.slice s.av s.nv s.cv)),(13,fun W=>W.cell? (m47 X)=some (.int .i64 slot))]
section
variable (Q:Exit->Act->World->Prop)(hQp:∀(c:_) (a:Act) (d:Option Tmp) (v:Value) (w:World),Q (.panic c) (a.put d v) w->Q (.panic c) a w)(aw:Option Addr)(nw cw:Nat)(C:Tp.Cf)(r s:RV)(x y:Tp.Vw)(slot:Int)(X N0 N1:Nat)(w1:World)(HC:Hid (aP w1 aw nw C.W C.sd))(HX:Hid (VwR w1 r x))(HY:Hid (VwR w1 s y))(hc:∀W:World,Below w1.heap.size w1 W->(W.cell? (m59 X)=some (.slice aw nw cw)/\W.cell? ⟨X,13,none⟩=some (.int .u64 C.sd)/\W.cell? ⟨X,14,none⟩=some (.int .i64 C.ep)/\W.cell? ⟨X,15,none⟩=some (.int .i64 C.nu)/\W.cell? ⟨X,16,none⟩=some (.int .i64 C.de))/\(W.cell? (m25 X)=some (.slice r.ab r.nb r.cb)/\W.cell? (m33 X)=some (.slice r.av r.nv r.cv))/\(W.cell? (m00 N0)=some (.slice s.ab s.nb s.cb)/\W.cell? (m15 N0)=some (.slice s.av s.nv s.cv))/\(W.cell? (m47 X)=some (.int .i64 slot)))(hQ:∀p q ga gb W,CtR w1 C x y slot (some (p,q)) (some ga) (some gb) W->Q .normal { tmps:=#[.pointer (some (m00 X)),.agg (m01 s),undef,.pointer (some (m00 N0)),.pointer (some (m00 N1)),.pointer (some (m00 ga)),.pointer (some (m00 gb)),.bool (Tp.take C x y slot).2.2,.tuple #[.agg (m01 p),.agg (m01 q),.bool (Tp.take C x y slot).2.2],.pointer (some (m00 X)),.pointer (some (m00 X)),.pointer (some (m59 X)),.agg (m02 aw nw cw C),.pointer (some (m00 X)),.pointer (some (m00 X)),.pointer (some (m00 X)),.pointer (some (m25 X)),.agg (m01 r),.agg (m01 s),.pointer (some (m00 X)),.pointer (some (m00 X)),.pointer (some (m47 X)),.int .i64 slot,.tuple #[.agg (m01 p),.agg (m01 q),.bool (Tp.take C x y slot).2.2],.agg (m01 p),.agg (m01 q),.bool (Tp.take C x y slot).2.2,undef,undef,undef,undef,undef,undef,undef,undef,undef,undef,undef,undef,undef,undef,undef,undef,undef,undef],defers:=[] } ((((W.setCell (m00 ga) (m41 p)).setCell (m15 ga) (m42 p)).setCell (m00 gb) (m41 q)).setCell (m15 gb) (m42 q)))
include Q hQp aw nw cw C r s x y slot X N0 N1 w1 HC HX HY hc hQ
theorem jA (p q:RV)(ga:Nat)(gb:Nat)(W:World)(hR:CtR w1 C x y slot (some (p,q)) (some ga) (some gb) W):
  aB Tryz.prog .any rS Q (ctSL aw nw cw C r s x y slot X N0 N1 w1 HC HX HY hc) 3 #[true,true,true,true,true,true,true,true,true,true,true,true,true,true,true,true,true,true,true,true,true,false,false,false] { tmps:=#[.pointer (some (m00 X)),.agg (m01 s),undef,.pointer (some (m00 N0)),.pointer (some (m00 N1)),.pointer (some (m00 ga)),.pointer (some (m00 gb)),undef,.tuple #[.agg (m01 p),.agg (m01 q),.bool (Tp.take C x y slot).2.2],.pointer (some (m00 X)),.pointer (some (m00 X)),.pointer (some (m59 X)),.agg (m02 aw nw cw C),.pointer (some (m00 X)),.pointer (some (m00 X)),.pointer (some (m00 X)),.pointer (some (m25 X)),.agg (m01 r),.agg (m01 s),.pointer (some (m00 X)),.pointer (some (m00 X)),.pointer (some (m47 X)),.int .i64 slot,.tuple #[.agg (m01 p),.agg (m01 q),.bool (Tp.take C x y slot).2.2],.agg (m01 p),.agg (m01 q),.bool (Tp.take C x y slot).2.2,undef,undef,undef,undef,undef,undef,undef,undef,undef,undef,undef,undef,undef,undef,undef,undef,undef,undef],defers:=[] } W:=by
 refine cK 21 (by kernel_rfl) rfl (fun K hK=>?_)
 have c7:W.cell? (m00 ga)=some (.slice none 0 0):=cA (hR.aa _ rfl).1 0
 have f7:=cH (hR.aa _ rfl).1 0
 have c8:W.cell? (m15 ga)=some (.slice none 0 0):=cA (hR.aa _ rfl).1 1
 have f8:=cH (hR.aa _ rfl).1 1
 go_simp
 refine hK.out _ _ ?_ ?_
 ·exact⟨.inl (hc _ ((hR.bel.setCell (p:=(m00 ga)) (hR.aa _ rfl).2 _).setCell (p:=(m15 ga)) (hR.aa _ rfl).2 _)).1,.inl (hc _ ((hR.bel.setCell (p:=(m00 ga)) (hR.aa _ rfl).2 _).setCell (p:=(m15 ga)) (hR.aa _ rfl).2 _)).2.1,.inl (hc _ ((hR.bel.setCell (p:=(m00 ga)) (hR.aa _ rfl).2 _).setCell (p:=(m15 ga)) (hR.aa _ rfl).2 _)).2.2.1,.inl (hc _ ((hR.bel.setCell (p:=(m00 ga)) (hR.aa _ rfl).2 _).setCell (p:=(m15 ga)) (hR.aa _ rfl).2 _)).2.2.2,trivial⟩
 clear hK K
 try simp only[Act.put,pA,pB,pC]
 refine cK 22 (by kernel_rfl) rfl (fun K hK=>?_)
 have hb5:=((set2 W ga _ _ (m41 p) (m42 p) _ (hR.aa _ rfl).1).block gb (Ne.symm (hR.ne _ _ rfl rfl))).trans (hR.ab _ rfl).1
 obtain⟨d7,d8⟩:=kc2 hb5
 obtain⟨g7,g8⟩:=kf2 hb5
 go_simp
 refine hK.out _ _ ?_ ?_
 ·exact⟨.inl (hc _ ((((hR.bel.setCell (p:=(m00 ga)) (hR.aa _ rfl).2 _).setCell (p:=(m15 ga)) (hR.aa _ rfl).2 _).setCell (p:=(m00 gb)) (hR.ab _ rfl).2 _).setCell (p:=(m15 gb)) (hR.ab _ rfl).2 _)).1,.inl (hc _ ((((hR.bel.setCell (p:=(m00 ga)) (hR.aa _ rfl).2 _).setCell (p:=(m15 ga)) (hR.aa _ rfl).2 _).setCell (p:=(m00 gb)) (hR.ab _ rfl).2 _).setCell (p:=(m15 gb)) (hR.ab _ rfl).2 _)).2.1,.inl (hc _ ((((hR.bel.setCell (p:=(m00 ga)) (hR.aa _ rfl).2 _).setCell (p:=(m15 ga)) (hR.aa _ rfl).2 _).setCell (p:=(m00 gb)) (hR.ab _ rfl).2 _).setCell (p:=(m15 gb)) (hR.ab _ rfl).2 _)).2.2.1,.inl (hc _ ((((hR.bel.setCell (p:=(m00 ga)) (hR.aa _ rfl).2 _).setCell (p:=(m15 ga)) (hR.aa _ rfl).2 _).setCell (p:=(m00 gb)) (hR.ab _ rfl).2 _).setCell (p:=(m15 gb)) (hR.ab _ rfl).2 _)).2.2.2,trivial⟩
 clear hK K
 try simp only[Act.put,pA,pB,pC]
 refine wX 23 (oi:=⟨some 7,.assign (.tmp 26),4,"node.go:52",#[⟨18,.data⟩,⟨22,.chain⟩,⟨0,.phase⟩,⟨1,.phase⟩,⟨2,.phase⟩,⟨3,.phase⟩,⟨4,.phase⟩,⟨5,.phase⟩,⟨6,.phase⟩,⟨7,.phase⟩,⟨8,.phase⟩,⟨9,.phase⟩,⟨10,.phase⟩,⟨11,.phase⟩,⟨12,.phase⟩,⟨13,.phase⟩,⟨14,.phase⟩,⟨15,.phase⟩,⟨16,.phase⟩,⟨17,.phase⟩,⟨18,.phase⟩,⟨19,.phase⟩,⟨20,.phase⟩,⟨21,.phase⟩,⟨22,.phase⟩],none⟩) rfl ?_ (hQ:=fun _ _ _=>hQp _ _ _ _ _)
 refine cO (by kernel_rfl) ?_ _
 exact hQ p q ga gb W hR
theorem uD (p q:RV)(ga:Nat)(W:World)(hR:CtR w1 C x y slot (some (p,q)) (some ga) none W):
  aB Tryz.prog .any rS Q (ctSL aw nw cw C r s x y slot X N0 N1 w1 HC HX HY hc) 4 #[true,true,true,true,true,true,true,true,true,true,true,true,true,true,true,true,true,true,true,true,false,false,false,false] { tmps:=#[.pointer (some (m00 X)),.agg (m01 s),undef,.pointer (some (m00 N0)),.pointer (some (m00 N1)),.pointer (some (m00 ga)),undef,undef,.tuple #[.agg (m01 p),.agg (m01 q),.bool (Tp.take C x y slot).2.2],.pointer (some (m00 X)),.pointer (some (m00 X)),.pointer (some (m59 X)),.agg (m02 aw nw cw C),.pointer (some (m00 X)),.pointer (some (m00 X)),.pointer (some (m00 X)),.pointer (some (m25 X)),.agg (m01 r),.agg (m01 s),.pointer (some (m00 X)),.pointer (some (m00 X)),.pointer (some (m47 X)),.int .i64 slot,.tuple #[.agg (m01 p),.agg (m01 q),.bool (Tp.take C x y slot).2.2],.agg (m01 p),.agg (m01 q),.bool (Tp.take C x y slot).2.2,undef,undef,undef,undef,undef,undef,undef,undef,undef,undef,undef,undef,undef,undef,undef,undef,undef,undef],defers:=[] } W:=by
 have hmk:=@run_makeMap Tryz.prog
 refine cJ [20] (by kernel_rfl) (by simp) ?_
 refine cD 20 rfl (fun K hK=>?_) ?_
 ·go_simp
  have hR2:=hR.m2
  replace hR:=hR2
  clear hR2
  refine hK.out _ _ ?_ ?_
  ·exact(hl4 (hc _ (hR.bel)))
  clear hK K hmk
  try simp only[Act.put,pA,pB,pC]
  exact jA Q hQp aw nw cw C r s x y slot X N0 N1 w1 HC HX HY hc hQ p q ga _ _ hR
 exact cE
theorem uC (p q:RV)(gb:Nat)(W:World)(hR:CtR w1 C x y slot (some (p,q)) none (some gb) W):
  aB Tryz.prog .any rS Q (ctSL aw nw cw C r s x y slot X N0 N1 w1 HC HX HY hc) 4 #[true,true,true,true,true,true,true,true,true,true,true,true,true,true,true,true,true,true,true,false,true,false,false,false] { tmps:=#[.pointer (some (m00 X)),.agg (m01 s),undef,.pointer (some (m00 N0)),.pointer (some (m00 N1)),undef,.pointer (some (m00 gb)),undef,.tuple #[.agg (m01 p),.agg (m01 q),.bool (Tp.take C x y slot).2.2],.pointer (some (m00 X)),.pointer (some (m00 X)),.pointer (some (m59 X)),.agg (m02 aw nw cw C),.pointer (some (m00 X)),.pointer (some (m00 X)),.pointer (some (m00 X)),.pointer (some (m25 X)),.agg (m01 r),.agg (m01 s),.pointer (some (m00 X)),.pointer (some (m00 X)),.pointer (some (m47 X)),.int .i64 slot,.tuple #[.agg (m01 p),.agg (m01 q),.bool (Tp.take C x y slot).2.2],.agg (m01 p),.agg (m01 q),.bool (Tp.take C x y slot).2.2,undef,undef,undef,undef,undef,undef,undef,undef,undef,undef,undef,undef,undef,undef,undef,undef,undef,undef],defers:=[] } W:=by
 have hmk:=@run_makeMap Tryz.prog
 refine cJ [19] (by kernel_rfl) (by simp) ?_
 refine cD 19 rfl (fun K hK=>?_) ?_
 ·go_simp
  have hR2:=hR.m
  replace hR:=hR2
  clear hR2
  refine hK.out _ _ ?_ ?_
  ·exact(hl4 (hc _ (hR.bel)))
  clear hK K hmk
  try simp only[Act.put,pA,pB,pC]
  exact jA Q hQp aw nw cw C r s x y slot X N0 N1 w1 HC HX HY hc hQ p q _ gb _ hR
 exact cE
theorem uB (ga:Nat)(gb:Nat)(W:World)(hR:CtR w1 C x y slot none (some ga) (some gb) W):
  aB Tryz.prog .any rS Q (ctSL aw nw cw C r s x y slot X N0 N1 w1 HC HX HY hc) 8 #[true,true,true,true,true,true,true,true,true,true,true,true,true,true,false,false,false,false,false,true,true,false,false,false] { tmps:=#[.pointer (some (m00 X)),.agg (m01 s),undef,.pointer (some (m00 N0)),.pointer (some (m00 N1)),.pointer (some (m00 ga)),.pointer (some (m00 gb)),undef,undef,.pointer (some (m00 X)),.pointer (some (m00 X)),.pointer (some (m59 X)),.agg (m02 aw nw cw C),.pointer (some (m00 X)),.pointer (some (m00 X)),.pointer (some (m00 X)),.pointer (some (m25 X)),.agg (m01 r),.agg (m01 s),.pointer (some (m00 X)),.pointer (some (m00 X)),.pointer (some (m47 X)),.int .i64 slot,undef,undef,undef,undef,undef,undef,undef,undef,undef,undef,undef,undef,undef,undef,undef,undef,undef,undef,undef,undef,undef,undef],defers:=[] } W:=by
 have hmk:=@run_makeMap Tryz.prog
 refine cJ [14] (by kernel_rfl) (by simp) ?_
 refine cD 14 rfl (fun K hK=>?_) ?_
 ·go_simp
  refine(CtR.c1 HC.out HX.out HY.out hR).mono ?_;rintro e W2 ⟨p,q,rfl,hR2⟩
  replace hR:=hR2
  clear hR2
  refine hK.out _ _ ?_ ?_
  ·exact(hl4 (hc _ (hR.bel)))
  clear hK K hmk
  try simp only[Act.put,pA,pB,pC]
  refine wX 15 (oi:=⟨some 8,.move (.tmp 23),169,"node.go:52",#[⟨14,.data⟩],none⟩) rfl ?_ (hQ:=fun _ _ _=>hQp _ _ _ _ _)
  refine wX 16 (oi:=⟨some 24,.extract (.tmp 8) 0,38,"node.go:52",#[⟨15,.data⟩],none⟩) rfl ?_ (hQ:=fun _ _ _=>hQp _ _ _ _ _)
  refine wX 17 (oi:=⟨some 25,.extract (.tmp 8) 1,38,"node.go:52",#[⟨15,.data⟩,⟨21,.gcOnly .lateStores⟩],none⟩) rfl ?_ (hQ:=fun _ _ _=>hQp _ _ _ _ _)
  refine wX 18 (oi:=⟨some 26,.extract (.tmp 8) 2,4,"node.go:52",#[⟨15,.data⟩,⟨22,.gcOnly .lateStores⟩],none⟩) rfl ?_ (hQ:=fun _ _ _=>hQp _ _ _ _ _)
  exact jA Q hQp aw nw cw C r s x y slot X N0 N1 w1 HC HX HY hc hQ p q ga gb _ hR
 exact cE
theorem aMr (p q:RV)(W:World)(hR:CtR w1 C x y slot (some (p,q)) none none W):
  aB Tryz.prog .any rS Q (ctSL aw nw cw C r s x y slot X N0 N1 w1 HC HX HY hc) 5 #[true,true,true,true,true,true,true,true,true,true,true,true,true,true,true,true,true,true,true,false,false,false,false,false] { tmps:=#[.pointer (some (m00 X)),.agg (m01 s),undef,.pointer (some (m00 N0)),.pointer (some (m00 N1)),undef,undef,undef,.tuple #[.agg (m01 p),.agg (m01 q),.bool (Tp.take C x y slot).2.2],.pointer (some (m00 X)),.pointer (some (m00 X)),.pointer (some (m59 X)),.agg (m02 aw nw cw C),.pointer (some (m00 X)),.pointer (some (m00 X)),.pointer (some (m00 X)),.pointer (some (m25 X)),.agg (m01 r),.agg (m01 s),.pointer (some (m00 X)),.pointer (some (m00 X)),.pointer (some (m47 X)),.int .i64 slot,.tuple #[.agg (m01 p),.agg (m01 q),.bool (Tp.take C x y slot).2.2],.agg (m01 p),.agg (m01 q),.bool (Tp.take C x y slot).2.2,undef,undef,undef,undef,undef,undef,undef,undef,undef,undef,undef,undef,undef,undef,undef,undef,undef,undef],defers:=[] } W:=by
 have hmk:=@run_makeMap Tryz.prog
 refine cJ [19,20] (by kernel_rfl) (by simp) ?_
 refine cD 19 rfl (fun K hK=>?_) ?_
 ·go_simp
  have hR2:=hR.m
  replace hR:=hR2
  clear hR2
  refine hK.out _ _ ?_ ?_
  ·exact(hl4 (hc _ (hR.bel)))
  clear hK K hmk
  try simp only[Act.put,pA,pB,pC]
  exact uD Q hQp aw nw cw C r s x y slot X N0 N1 w1 HC HX HY hc hQ p q _ _ hR
 refine cD 20 rfl (fun K hK=>?_) ?_
 ·go_simp
  have hR2:=hR.m2
  replace hR:=hR2
  clear hR2
  refine hK.out _ _ ?_ ?_
  ·exact(hl4 (hc _ (hR.bel)))
  clear hK K hmk
  try simp only[Act.put,pA,pB,pC]
  exact uC Q hQp aw nw cw C r s x y slot X N0 N1 w1 HC HX HY hc hQ p q _ _ hR
 exact cE
theorem aMq (ga:Nat)(W:World)(hR:CtR w1 C x y slot none (some ga) none W):
  aB Tryz.prog .any rS Q (ctSL aw nw cw C r s x y slot X N0 N1 w1 HC HX HY hc) 9 #[true,true,true,true,true,true,true,true,true,true,true,true,true,true,false,false,false,false,false,true,false,false,false,false] { tmps:=#[.pointer (some (m00 X)),.agg (m01 s),undef,.pointer (some (m00 N0)),.pointer (some (m00 N1)),.pointer (some (m00 ga)),undef,undef,undef,.pointer (some (m00 X)),.pointer (some (m00 X)),.pointer (some (m59 X)),.agg (m02 aw nw cw C),.pointer (some (m00 X)),.pointer (some (m00 X)),.pointer (some (m00 X)),.pointer (some (m25 X)),.agg (m01 r),.agg (m01 s),.pointer (some (m00 X)),.pointer (some (m00 X)),.pointer (some (m47 X)),.int .i64 slot,undef,undef,undef,undef,undef,undef,undef,undef,undef,undef,undef,undef,undef,undef,undef,undef,undef,undef,undef,undef,undef,undef],defers:=[] } W:=by
 have hmk:=@run_makeMap Tryz.prog
 refine cJ [14,20] (by kernel_rfl) (by simp) ?_
 refine cD 14 rfl (fun K hK=>?_) ?_
 ·go_simp
  refine(CtR.c1 HC.out HX.out HY.out hR).mono ?_;rintro e W2 ⟨p,q,rfl,hR2⟩
  replace hR:=hR2
  clear hR2
  refine hK.out _ _ ?_ ?_
  ·exact(hl4 (hc _ (hR.bel)))
  clear hK K hmk
  try simp only[Act.put,pA,pB,pC]
  refine wX 15 (oi:=⟨some 8,.move (.tmp 23),169,"node.go:52",#[⟨14,.data⟩],none⟩) rfl ?_ (hQ:=fun _ _ _=>hQp _ _ _ _ _)
  refine wX 16 (oi:=⟨some 24,.extract (.tmp 8) 0,38,"node.go:52",#[⟨15,.data⟩],none⟩) rfl ?_ (hQ:=fun _ _ _=>hQp _ _ _ _ _)
  refine wX 17 (oi:=⟨some 25,.extract (.tmp 8) 1,38,"node.go:52",#[⟨15,.data⟩,⟨21,.gcOnly .lateStores⟩],none⟩) rfl ?_ (hQ:=fun _ _ _=>hQp _ _ _ _ _)
  refine wX 18 (oi:=⟨some 26,.extract (.tmp 8) 2,4,"node.go:52",#[⟨15,.data⟩,⟨22,.gcOnly .lateStores⟩],none⟩) rfl ?_ (hQ:=fun _ _ _=>hQp _ _ _ _ _)
  exact uD Q hQp aw nw cw C r s x y slot X N0 N1 w1 HC HX HY hc hQ p q ga _ hR
 refine cD 20 rfl (fun K hK=>?_) ?_
 ·go_simp
  have hR2:=hR.m2
  replace hR:=hR2
  clear hR2
  refine hK.out _ _ ?_ ?_
  ·exact(hl4 (hc _ (hR.bel)))
  clear hK K hmk
  try simp only[Act.put,pA,pB,pC]
  exact uB Q hQp aw nw cw C r s x y slot X N0 N1 w1 HC HX HY hc hQ ga _ _ hR
 exact cE
theorem aMp (gb:Nat)(W:World)(hR:CtR w1 C x y slot none none (some gb) W):
  aB Tryz.prog .any rS Q (ctSL aw nw cw C r s x y slot X N0 N1 w1 HC HX HY hc) 9 #[true,true,true,true,true,true,true,true,true,true,true,true,true,true,false,false,false,false,false,false,true,false,false,false] { tmps:=#[.pointer (some (m00 X)),.agg (m01 s),undef,.pointer (some (m00 N0)),.pointer (some (m00 N1)),undef,.pointer (some (m00 gb)),undef,undef,.pointer (some (m00 X)),.pointer (some (m00 X)),.pointer (some (m59 X)),.agg (m02 aw nw cw C),.pointer (some (m00 X)),.pointer (some (m00 X)),.pointer (some (m00 X)),.pointer (some (m25 X)),.agg (m01 r),.agg (m01 s),.pointer (some (m00 X)),.pointer (some (m00 X)),.pointer (some (m47 X)),.int .i64 slot,undef,undef,undef,undef,undef,undef,undef,undef,undef,undef,undef,undef,undef,undef,undef,undef,undef,undef,undef,undef,undef,undef],defers:=[] } W:=by
 have hmk:=@run_makeMap Tryz.prog
 refine cJ [14,19] (by kernel_rfl) (by simp) ?_
 refine cD 14 rfl (fun K hK=>?_) ?_
 ·go_simp
  refine(CtR.c1 HC.out HX.out HY.out hR).mono ?_;rintro e W2 ⟨p,q,rfl,hR2⟩
  replace hR:=hR2
  clear hR2
  refine hK.out _ _ ?_ ?_
  ·exact(hl4 (hc _ (hR.bel)))
  clear hK K hmk
  try simp only[Act.put,pA,pB,pC]
  refine wX 15 (oi:=⟨some 8,.move (.tmp 23),169,"node.go:52",#[⟨14,.data⟩],none⟩) rfl ?_ (hQ:=fun _ _ _=>hQp _ _ _ _ _)
  refine wX 16 (oi:=⟨some 24,.extract (.tmp 8) 0,38,"node.go:52",#[⟨15,.data⟩],none⟩) rfl ?_ (hQ:=fun _ _ _=>hQp _ _ _ _ _)
  refine wX 17 (oi:=⟨some 25,.extract (.tmp 8) 1,38,"node.go:52",#[⟨15,.data⟩,⟨21,.gcOnly .lateStores⟩],none⟩) rfl ?_ (hQ:=fun _ _ _=>hQp _ _ _ _ _)
  refine wX 18 (oi:=⟨some 26,.extract (.tmp 8) 2,4,"node.go:52",#[⟨15,.data⟩,⟨22,.gcOnly .lateStores⟩],none⟩) rfl ?_ (hQ:=fun _ _ _=>hQp _ _ _ _ _)
  exact uC Q hQp aw nw cw C r s x y slot X N0 N1 w1 HC HX HY hc hQ p q gb _ hR
 refine cD 19 rfl (fun K hK=>?_) ?_
 ·go_simp
  have hR2:=hR.m
  replace hR:=hR2
  clear hR2
  refine hK.out _ _ ?_ ?_
  ·exact(hl4 (hc _ (hR.bel)))
  clear hK K hmk
  try simp only[Act.put,pA,pB,pC]
  exact uB Q hQp aw nw cw C r s x y slot X N0 N1 w1 HC HX HY hc hQ _ gb _ hR
 exact cE
theorem ct_ (W:World)(hR:CtR w1 C x y slot none none none W):
  aB Tryz.prog .any rS Q (ctSL aw nw cw C r s x y slot X N0 N1 w1 HC HX HY hc) 10 #[true,true,true,true,true,true,true,true,true,true,true,true,true,true,false,false,false,false,false,false,false,false,false,false] { tmps:=#[.pointer (some (m00 X)),.agg (m01 s),undef,.pointer (some (m00 N0)),.pointer (some (m00 N1)),undef,undef,undef,undef,.pointer (some (m00 X)),.pointer (some (m00 X)),.pointer (some (m59 X)),.agg (m02 aw nw cw C),.pointer (some (m00 X)),.pointer (some (m00 X)),.pointer (some (m00 X)),.pointer (some (m25 X)),.agg (m01 r),.agg (m01 s),.pointer (some (m00 X)),.pointer (some (m00 X)),.pointer (some (m47 X)),.int .i64 slot,undef,undef,undef,undef,undef,undef,undef,undef,undef,undef,undef,undef,undef,undef,undef,undef,undef,undef,undef,undef,undef,undef],defers:=[] } W:=by
 have hmk:=@run_makeMap Tryz.prog
 refine cJ [14,19,20] (by kernel_rfl) (by simp) ?_
 refine cD 14 rfl (fun K hK=>?_) ?_
 ·go_simp
  refine(CtR.c1 HC.out HX.out HY.out hR).mono ?_;rintro e W2 ⟨p,q,rfl,hR2⟩
  replace hR:=hR2
  clear hR2
  refine hK.out _ _ ?_ ?_
  ·exact(hl4 (hc _ (hR.bel)))
  clear hK K hmk
  try simp only[Act.put,pA,pB,pC]
  refine wX 15 (oi:=⟨some 8,.move (.tmp 23),169,"node.go:52",#[⟨14,.data⟩],none⟩) rfl ?_ (hQ:=fun _ _ _=>hQp _ _ _ _ _)
  refine wX 16 (oi:=⟨some 24,.extract (.tmp 8) 0,38,"node.go:52",#[⟨15,.data⟩],none⟩) rfl ?_ (hQ:=fun _ _ _=>hQp _ _ _ _ _)
  refine wX 17 (oi:=⟨some 25,.extract (.tmp 8) 1,38,"node.go:52",#[⟨15,.data⟩,⟨21,.gcOnly .lateStores⟩],none⟩) rfl ?_ (hQ:=fun _ _ _=>hQp _ _ _ _ _)
  refine wX 18 (oi:=⟨some 26,.extract (.tmp 8) 2,4,"node.go:52",#[⟨15,.data⟩,⟨22,.gcOnly .lateStores⟩],none⟩) rfl ?_ (hQ:=fun _ _ _=>hQp _ _ _ _ _)
  exact aMr Q hQp aw nw cw C r s x y slot X N0 N1 w1 HC HX HY hc hQ p q _ hR
 refine cD 19 rfl (fun K hK=>?_) ?_
 ·go_simp
  have hR2:=hR.m
  replace hR:=hR2
  clear hR2
  refine hK.out _ _ ?_ ?_
  ·exact(hl4 (hc _ (hR.bel)))
  clear hK K hmk
  try simp only[Act.put,pA,pB,pC]
  exact aMq Q hQp aw nw cw C r s x y slot X N0 N1 w1 HC HX HY hc hQ _ _ hR
 refine cD 20 rfl (fun K hK=>?_) ?_
 ·go_simp
  have hR2:=hR.m2
  replace hR:=hR2
  clear hR2
  refine hK.out _ _ ?_ ?_
  ·exact(hl4 (hc _ (hR.bel)))
  clear hK K hmk
  try simp only[Act.put,pA,pB,pC]
  exact aMp Q hQp aw nw cw C r s x y slot X N0 N1 w1 HC HX HY hc hQ _ _ hR
 exact cE
theorem aEq (hR:CtR w1 C x y slot none none none w1.drew):(Code.region 1 rS true).wp Tryz.prog Q { tmps:=#[.pointer (some (m00 X)),.agg (m01 s),undef,.pointer (some (m00 N0)),.pointer (some (m00 N1)),undef,undef,undef,undef,undef,undef,undef,undef,undef,undef,undef,undef,undef,undef,undef,undef,undef,undef,undef,undef,undef,undef,undef,undef,undef,undef,undef,undef,undef,undef,undef,undef,undef,undef,undef,undef,undef,undef,undef,undef],defers:=[] } w1:=by
 refine cN (ctSL aw nw cw C r s x y slot X N0 N1 w1 HC HX HY hc) (by kernel_rfl) ?_
 generalize w1.drew=W at hR⊢
 show aB _ _ _ _ _ 24 #[false,false,false,false,false,false,false,false,false,false,false,false,false,false,false,false,false,false,false,false,false,false,false,false] _ _
 refine wX 0 (oi:=⟨some 9,.move (.tmp 0),114,"node.go:52",#[],none⟩) rfl ?_ (hQ:=fun _ _ _=>hQp _ _ _ _ _)
 refine wX 1 (oi:=⟨some 10,.nilCheck (.tmp 9),0,"node.go:52",#[⟨0,.data⟩],none⟩) rfl ?_ (hQ:=fun _ _ _=>hQp _ _ _ _ _)
 refine wX 2 (oi:=⟨some 11,.fieldAddr 116 (.tmp 10) 1,0,"node.go:52",#[⟨1,.data⟩],none⟩) rfl ?_ (hQ:=fun _ _ _=>hQp _ _ _ _ _)
 refine wY 0 3 (oi:=⟨some 12,.load 25 (.tmp 11),25,"node.go:52",#[⟨2,.data⟩],none⟩) rfl rfl ((hc _ hR.bel).1) ?_ (hQ:=fun _ _ _=>hQp _ _ _ _ _)
 refine wX 4 (oi:=⟨some 13,.move (.tmp 0),114,"node.go:52",#[],none⟩) rfl ?_ (hQ:=fun _ _ _=>hQp _ _ _ _ _)
 refine wX 5 (oi:=⟨some 14,.nilCheck (.tmp 13),0,"node.go:52",#[⟨4,.data⟩],none⟩) rfl ?_ (hQ:=fun _ _ _=>hQp _ _ _ _ _)
 refine wX 6 (oi:=⟨some 15,.fieldAddr 116 (.tmp 14) 0,0,"node.go:52",#[⟨5,.data⟩],none⟩) rfl ?_ (hQ:=fun _ _ _=>hQp _ _ _ _ _)
 refine wX 7 (oi:=⟨some 16,.fieldAddr 44 (.tmp 15) 2,0,"node.go:52",#[⟨6,.data⟩],none⟩) rfl ?_ (hQ:=fun _ _ _=>hQp _ _ _ _ _)
 refine wY 1 8 (oi:=⟨some 17,.load 38 (.tmp 16),38,"node.go:52",#[⟨7,.data⟩],none⟩) rfl rfl ((hc _ hR.bel).2.1) ?_ (hQ:=fun _ _ _=>hQp _ _ _ _ _)
 refine wY 2 9 (oi:=⟨some 18,.load 38 (.tmp 3),38,"node.go:52",#[],none⟩) rfl rfl ((hc _ hR.bel).2.2.1) ?_ (hQ:=fun _ _ _=>hQp _ _ _ _ _)
 refine wX 10 (oi:=⟨some 19,.move (.tmp 0),114,"node.go:52",#[],none⟩) rfl ?_ (hQ:=fun _ _ _=>hQp _ _ _ _ _)
 refine wX 11 (oi:=⟨some 20,.nilCheck (.tmp 19),0,"node.go:52",#[⟨10,.data⟩],none⟩) rfl ?_ (hQ:=fun _ _ _=>hQp _ _ _ _ _)
 refine wX 12 (oi:=⟨some 21,.fieldAddr 116 (.tmp 20) 2,0,"node.go:52",#[⟨11,.data⟩],none⟩) rfl ?_ (hQ:=fun _ _ _=>hQp _ _ _ _ _)
 refine wY 3 13 (oi:=⟨some 22,.load 3 (.tmp 21),3,"node.go:52",#[⟨12,.data⟩],none⟩) rfl rfl ((hc _ hR.bel).2.2.2) ?_ (hQ:=fun _ _ _=>hQp _ _ _ _ _)
 exact ct_ Q hQp aw nw cw C r s x y slot X N0 N1 w1 HC HX HY hc hQ _ hR
end
section
theorem aC.thenB {S:Nat->Prop}{a b c:World}(h:aC S a b)(k:Below a.heap.size b c):aC S a c:=⟨k.os.trans h.os,k.tape.trans h.tape,k.output.trans h.output,Nat.le_trans h.size k.size,fun j hj hn=>(k.block j hj).trans (h.block j hj hn)⟩
variable [Forb]
theorem NW.far {w w':World}{X B:Nat}{o:Obj}{aw:Option Addr}{nw cw:Nat}{C:Tp.Cf}{r:RN}{os:List (RO×Tp.Vw)}{ta:Option Addr}{tn tc:Nat}{ts:List (RO×Tp.Vw)}{k:Tp.Nw}(h:NW w X aw nw cw C r os ta tn tc ts k)(T:cT B o w w')(hB:X≠B)(hn:gU r os B)(hc:fR aw nw B)(ht:dM ta tn ts B):NW w' X aw nw cw C r os ta tn tc ts k:=
 ⟨(T.block X hB).trans h.box,h.conf.keepS (cL T rfl) hc,h.coff,h.nd.keepS (cL T rfl) hn,h.noff,h.told.keepS (cL T rfl) ht,h.toff,h.kt,fun b e=>T.size.symm▸h.hi b e,h.fr⟩
theorem yD (X:Nat)(aw:Option Addr)(nw cw:Nat)(C:Tp.Cf)(r:RN)(os:List (RO×Tp.Vw))(ta:Option Addr)(tn tc:Nat)(ts:List (RO×Tp.Vw))(k:Tp.Nw)(s:RV)(y:Tp.Vw)(w:World)(h:NW w X aw nw cw C r os ta tn tc ts k)(hy:VwR w s y):
  Calls Tryz.prog 96 #[.pointer (some (m00 X)),.agg (m01 s)] w fun e w'=>∃t p:RV,e=.returned (.agg (m01 t))/\VwR w' t (Tp.countL C k y)/\t.New w.heap.size/\NW w' X aw nw cw C { r with v:=p,full:=r.full||(Tp.take C k.n.v y k.slot).2.2 } os ta tn tc ts (Tp.fF C k y)/\aC (· =X) w w':=by
 obtain⟨w1,ew1_⟩:∃z,Hid (z=(w.alloc (m49 s)).alloc (m56)):=⟨_,zH rfl⟩
 have hb2:Below w.heap.size w (w1):=by cases ew1_.out;exact cR _ _
 have hr:(w1).heap[w.heap.size]?=some (.cells (m01 s) 38 (0,0)):=by cases ew1_.out;rw[cF,if_neg (by simp),cF,if_pos rfl]
 have hr2:(w1).heap[w.heap.size+1]?=some (.cells (m18) 38 (0,0)):=by cases ew1_.out;rw[cF,if_pos (by simp)]
 have hs2:w.heap.size+1<(w1).heap.size:=by cases ew1_.out;simp
 have hX:=h.lt
 go_enter Tryz.func96,Tryz.ntmps96
 go_wp2_with fail
 rw[<-ew1_.out]
 have HN:=zH (h.keep hb2)
 have HY:=zH (hy.keep hb2)
 have HC:=zH HN.out.conf
 have HX:=zH HN.out.nd.v
 have HB2:=zH hb2
 have hX1:X<w1.heap.size:=HN.out.lt
 have H0:=zH h
 clear h hy hb2
 refine aEq _ (fun _ _ d _ _ h=>by cases d<;>exact h) aw nw cw C r.v s k.n.v y k.slot X w.heap.size (w.heap.size+1) w1 HC HX HY ?_ ?_ CtR.start
 ·intro W hb
  have hbx:=cG hb hX1 HN.out.box
  have hbr:=cG hb (Nat.lt_of_succ_lt hs2) hr
  exact⟨⟨cA hbx 12,cA hbx 13,cA hbx 14,cA hbx 15,cA hbx 16⟩,⟨cA hbx 2,cA hbx 3⟩,⟨cA hbr 0,cA hbr 1⟩,cA hbx 17⟩
 intro p q ga gb W hR
 obtain⟨W4,hW4,g1,g2,v1,v2,bel4,n1,n2,l1,l2⟩:=hR.last (v0:=.slice p.ab p.nb p.cb) (v1:=.slice p.av p.nv p.cv) (u0:=.slice q.ab q.nb q.cb) (u1:=.slice q.av q.nv q.cv)
 rw[<-hW4]
 clear hW4 hR
 go_wp2_with fail
 have bx4:=cG bel4 hX1 HN.out.box
 have br4:=cG bel4 hs2 hr2
 have hd4:=(Below.refl W4.heap.size W4).drew
 have bx5:=bK hd4 bx4
 have ba5:=bK hd4 g1
 have bb5:=bK hd4 g2
 have br5:=bK hd4 br4
 have bel5:=bel4.drew
 have v15:=v1.keep hd4
 have v25:=v2.keep hd4
 obtain⟨rf,hrf⟩:∃b,r.full=b:=⟨_,rfl⟩
 have HRF:=zH hrf
 have HL:=zH (And.intro l1 l2)
 have hXa:X≠ga:=by omega
 have hXb:X≠gb:=by omega
 clear bx4 br4 hd4 bel4 v1 v2 g1 g2 l1 l2
 obtain⟨e0,e1⟩:=kc2 ba5
 have x2:W4.drew.cell? (m25 X)=some (.slice r.v.ab r.v.nb r.v.cb):=cA bx5 2
 have x3:W4.drew.cell? (m33 X)=some (.slice r.v.av r.v.nv r.v.cv):=cA bx5 3
 have x11:W4.drew.cell? ⟨X,11,none⟩=some (.bool rf):=hrf▸cA bx5 11
 have y2:=cH bx5 2
 have y3:=cH bx5 3
 have T1:=cM [.slice p.ab p.nb p.cb,.slice p.av p.nv p.cv] 2 _ _ bx5 (by show(4:Nat)<=19;omega)
 have z11:((W4.drew.setCell (m25 X) (m41 p)).setCell (m33 X) (m42 p)).cell? ⟨X,11,none⟩=some (.bool rf):=hrf▸cA T1.new 11
 have y11:((W4.drew.setCell (m25 X) (m41 p)).setCell (m33 X) (m42 p)).frozen? ⟨X,11,none⟩=false:=cH T1.new 11
 have T2:=cM [.bool (rf||(Tp.take C k.n.v y k.slot).2.2)] 11 _ _ T1.new (by show(12:Nat)<=19;omega)
 have TT:=T1.trans T2
 have HT:Hid (cT X (.cells (uQ aw nw cw C { r with v:=p,full:=r.full||(Tp.take C k.n.v y k.slot).2.2 } k.slot ta tn tc).toArray 116 (0,0)) W4.drew (((W4.drew.setCell (m25 X) (m41 p)).setCell (m33 X) (m42 p)).setCell ⟨X,11,none⟩ (.bool (rf||(Tp.take C k.n.v y k.slot).2.2)))):=zH (by rw[hrf];exact TT)
 have HN5:=zH (HN.out.keep bel5)
 have HV:=zH (And.intro (And.intro v15 n1) (And.intro v25 n2))
 have HBB:=zH (And.intro bb5 br5)
 have HB5:=zH bel5
 clear TT T1 T2 bx5 ba5 bb5 br5 bel5 v15 v25 n1 n2 hrf
 cases rf with
 |true=>
  refine cN [(2,fun W=>W.cell? (m00 ga)=some (.slice p.ab p.nb p.cb)/\W.cell? (m15 ga)=some (.slice p.av p.nv p.cv)),(7,fun W=>W.cell? ⟨X,11,none⟩=some (.bool true))] (by kernel_rfl) ?_
  show aB _ _ _ _ _ _ _ _ W4.drew
  generalize W4.drew=W5 at *
  refine wX 0 rfl ?_
  refine wX 1 rfl ?_
  refine aZ 2 (v:=?_) (List.Mem.head _) rfl (by kernel_rfl) (by kernel_rfl) (by kernel_rfl) (fun _ _ _ h=>h) (Or.inl ⟨by rfl,?_⟩) ?_ ?_
  rotate_left
  ·(intro w' hSw;(try dsimp only at hSw);(try go_split_ands);go_simp;try with_reducible rfl)
  ·(try dsimp only);(try go_split_ands);first|assumption|(refine⟨?_,?_⟩<;>assumption)|(simp only[*];done)|(refine⟨?_,?_,?_,?_,?_⟩<;>assumption)|(refine⟨?_,?_,?_,?_,?_,?_,?_,?_,?_⟩<;>assumption)
  try simp only[Act.put,pA,pB,pC]
  refine wX 3 rfl ?_
  refine wX 4 rfl ?_
  refine wX 5 rfl ?_
  refine wX 6 rfl ?_
  refine aZ 7 (v:=?_) (List.Mem.tail _ (List.Mem.head _)) rfl (by kernel_rfl) (by kernel_rfl) (by kernel_rfl) (fun _ _ _ h=>h) (Or.inl ⟨by rfl,?_⟩) ?_ ?_
  rotate_left
  ·(intro w' hSw;(try dsimp only at hSw);(try go_split_ands);go_simp;try with_reducible rfl)
  ·(try dsimp only);(try go_split_ands);first|assumption|(refine⟨?_,?_⟩<;>assumption)|(simp only[*];done)|(refine⟨?_,?_,?_,?_,?_⟩<;>assumption)|(refine⟨?_,?_,?_,?_,?_,?_,?_,?_,?_⟩<;>assumption)
  try simp only[Act.put,pA,pB,pC]
  refine wX 8 rfl ?_
  refine bH 9 (v:=undef) rfl (by kernel_rfl) (by kernel_rfl) (by kernel_rfl) (fun _ _ _ h=>h) (Or.inr ⟨by kernel_rfl,rfl⟩) ?_
  try simp only[Act.put,pA,pB,pC]
  refine wX 10 rfl ?_
  refine wX 11 rfl ?_
  refine wX 12 rfl ?_
  refine wX 13 rfl ?_
  refine cK 14 (by kernel_rfl) rfl (fun K hK=>?_)
  go_simp
  refine hK.out _ _ ?_ ?_
  ·exact⟨.inr (by kernel_rfl),.inr (by kernel_rfl),trivial⟩
  clear hK K;try simp only[Act.put,pA,pB,pC]
  refine wX 15 rfl ?_
  refine wX 16 rfl ?_
  refine wX 17 rfl ?_
  refine cK 18 (by kernel_rfl) rfl (fun K hK=>?_)
  go_simp
  refine hK.out _ _ ?_ ?_
  ·exact⟨.inr (by kernel_rfl),.inr (by kernel_rfl),trivial⟩
  clear hK K;try simp only[Act.put,pA,pB,pC]
  refine cO (by kernel_rfl) ?_ _
  simp only[Bool.true_or]at HT
  generalize(((W5.setCell (m25 X) (m41 p)).setCell (m33 X) (m42 p)).setCell ⟨X,11,none⟩ (.bool true))=W6 at HT⊢
  have hg6:=(HT.out.block gb (Ne.symm hXb)).trans HBB.out.1
  have hr6:=(HT.out.block (w.heap.size+1) (by omega)).trans HBB.out.2
  obtain⟨q0,q1⟩:=kc2 hg6
  obtain⟨n0,n1⟩:=kc2 hr6
  obtain⟨f0,f1⟩:=kf2 hr6
  have T:=set2 W6 (w.heap.size+1) _ _ (m41 q) (m42 q) _ hr6
  have N6:NW W6 X aw nw cw C { r with v:=p,full:=r.full||(Tp.take C k.n.v y k.slot).2.2 } os ta tn tc ts (Tp.fF C k y):=HN5.out.turn HT.out ⟨HV.out.1.1,HN5.out.nd.inn,HN5.out.nd.o,HN5.out.nd.ko,HN5.out.nd.no,HN5.out.nd.tick,HN5.out.nd.c,(by rw[HN5.out.nd.full];rfl)⟩ ⟨HV.out.1.2.off hX1,HN5.out.noff.inn,HN5.out.noff.o⟩ HN5.out.told HN5.out.toff HN5.out.kt (fun b e=>⟨⟨HV.out.1.2.off (Nat.lt_trans (H0.out.hi b e) (Nat.lt_of_succ_lt hs2)),(HN5.out.fr b e).1.inn,(HN5.out.fr b e).1.o⟩,(HN5.out.fr b e).2⟩)
  have N7:=zH (N6.far T (by omega) ⟨HV.out.1.2.off hs2,H0.out.nd.inn.away (Nat.le_succ _),H0.out.nd.o.away (Nat.le_succ _)⟩ (H0.out.conf.away (Nat.le_succ _)) (H0.out.told.away (Nat.le_succ _)))
  have V7:=zH ((HV.out.2.1.keepS (cL HT.out rfl) (HV.out.2.2.off hX1)).farN T HV.out.2.2 hs2)
  have K7:Hid (aC (· =X) w _):=zH (((cQ (S:=fun j=>j=X) (bS HB2.out HB5.out)).trans (cL HT.out rfl)).thenB (T.below (Nat.le_succ _)))
  have Q7:=zH (HV.out.2.2.lower HB2.out.size)
  clear N6 T hg6 hr6
  go_wp2_with fail
  refine bodyPost_ret (v:=.agg (m01 q)) ?_ rfl ⟨q,p,rfl,V7.out,Q7.out,N7.out,K7.out⟩
  simp[results,Tryz.results96,go_sem,n0,n1]
 |false=>
  refine cN [(2,fun W=>W.cell? (m00 ga)=some (.slice p.ab p.nb p.cb)/\W.cell? (m15 ga)=some (.slice p.av p.nv p.cv)),(7,fun W=>W.cell? ⟨X,11,none⟩=some (.bool false))] (by kernel_rfl) ?_
  show aB _ _ _ _ _ _ _ _ W4.drew
  generalize W4.drew=W5 at *
  refine wX 0 rfl ?_
  refine wX 1 rfl ?_
  refine aZ 2 (v:=?_) (List.Mem.head _) rfl (by kernel_rfl) (by kernel_rfl) (by kernel_rfl) (fun _ _ _ h=>h) (Or.inl ⟨by rfl,?_⟩) ?_ ?_
  rotate_left
  ·(intro w' hSw;(try dsimp only at hSw);(try go_split_ands);go_simp;try with_reducible rfl)
  ·(try dsimp only);(try go_split_ands);first|assumption|(refine⟨?_,?_⟩<;>assumption)|(simp only[*];done)|(refine⟨?_,?_,?_,?_,?_⟩<;>assumption)|(refine⟨?_,?_,?_,?_,?_,?_,?_,?_,?_⟩<;>assumption)
  try simp only[Act.put,pA,pB,pC]
  refine wX 3 rfl ?_
  refine wX 4 rfl ?_
  refine wX 5 rfl ?_
  refine wX 6 rfl ?_
  refine aZ 7 (v:=?_) (List.Mem.tail _ (List.Mem.head _)) rfl (by kernel_rfl) (by kernel_rfl) (by kernel_rfl) (fun _ _ _ h=>h) (Or.inl ⟨by rfl,?_⟩) ?_ ?_
  rotate_left
  ·(intro w' hSw;(try dsimp only at hSw);(try go_split_ands);go_simp;try with_reducible rfl)
  ·(try dsimp only);(try go_split_ands);first|assumption|(refine⟨?_,?_⟩<;>assumption)|(simp only[*];done)|(refine⟨?_,?_,?_,?_,?_⟩<;>assumption)|(refine⟨?_,?_,?_,?_,?_,?_,?_,?_,?_⟩<;>assumption)
  try simp only[Act.put,pA,pB,pC]
  refine wX 8 rfl ?_
  refine wX 9 rfl ?_ (hw:=by kernel_rfl)
  refine wX 10 rfl ?_
  refine wX 11 rfl ?_
  refine wX 12 rfl ?_
  refine wX 13 rfl ?_
  refine cK 14 (by kernel_rfl) rfl (fun K hK=>?_)
  go_simp
  refine hK.out _ _ ?_ ?_
  ·exact⟨.inr (by kernel_rfl),.inr (by kernel_rfl),trivial⟩
  clear hK K;try simp only[Act.put,pA,pB,pC]
  refine wX 15 rfl ?_
  refine wX 16 rfl ?_
  refine wX 17 rfl ?_
  refine cK 18 (by kernel_rfl) rfl (fun K hK=>?_)
  go_simp
  refine hK.out _ _ ?_ ?_
  ·exact⟨.inr (by kernel_rfl),.inr (by kernel_rfl),trivial⟩
  clear hK K;try simp only[Act.put,pA,pB,pC]
  refine cO (by kernel_rfl) ?_ _
  simp only[Bool.false_or]at HT
  generalize(((W5.setCell (m25 X) (m41 p)).setCell (m33 X) (m42 p)).setCell ⟨X,11,none⟩ (.bool (Tp.take C k.n.v y k.slot).2.2))=W6 at HT⊢
  have hg6:=(HT.out.block gb (Ne.symm hXb)).trans HBB.out.1
  have hr6:=(HT.out.block (w.heap.size+1) (by omega)).trans HBB.out.2
  obtain⟨q0,q1⟩:=kc2 hg6
  obtain⟨n0,n1⟩:=kc2 hr6
  obtain⟨f0,f1⟩:=kf2 hr6
  have T:=set2 W6 (w.heap.size+1) _ _ (m41 q) (m42 q) _ hr6
  have N6:NW W6 X aw nw cw C { r with v:=p,full:=r.full||(Tp.take C k.n.v y k.slot).2.2 } os ta tn tc ts (Tp.fF C k y):=HN5.out.turn HT.out ⟨HV.out.1.1,HN5.out.nd.inn,HN5.out.nd.o,HN5.out.nd.ko,HN5.out.nd.no,HN5.out.nd.tick,HN5.out.nd.c,(by rw[HN5.out.nd.full];rfl)⟩ ⟨HV.out.1.2.off hX1,HN5.out.noff.inn,HN5.out.noff.o⟩ HN5.out.told HN5.out.toff HN5.out.kt (fun b e=>⟨⟨HV.out.1.2.off (Nat.lt_trans (H0.out.hi b e) (Nat.lt_of_succ_lt hs2)),(HN5.out.fr b e).1.inn,(HN5.out.fr b e).1.o⟩,(HN5.out.fr b e).2⟩)
  have N7:=zH (N6.far T (by omega) ⟨HV.out.1.2.off hs2,H0.out.nd.inn.away (Nat.le_succ _),H0.out.nd.o.away (Nat.le_succ _)⟩ (H0.out.conf.away (Nat.le_succ _)) (H0.out.told.away (Nat.le_succ _)))
  have V7:=zH ((HV.out.2.1.keepS (cL HT.out rfl) (HV.out.2.2.off hX1)).farN T HV.out.2.2 hs2)
  have K7:Hid (aC (· =X) w _):=zH (((cQ (S:=fun j=>j=X) (bS HB2.out HB5.out)).trans (cL HT.out rfl)).thenB (T.below (Nat.le_succ _)))
  have Q7:=zH (HV.out.2.2.lower HB2.out.size)
  clear N6 T hg6 hr6
  go_wp2_with fail
  refine bodyPost_ret (v:=.agg (m01 q)) ?_ rfl ⟨q,p,rfl,V7.out,Q7.out,N7.out,K7.out⟩
  simp[results,Tryz.results96,go_sem,n0,n1]
theorem oF (X:Nat)(aw:Option Addr)(nw cw:Nat)(C:Tp.Cf)(k:Tp.Nw)(s:RV)(y:Tp.Vw)(w:World)(hh:NWe w X aw nw cw C k)(hy:VwR w s y):
  Calls Tryz.prog 96 #[.pointer (some (m00 X)),.agg (m01 s)] w fun e w'=>∃t:RV,e=.returned (.agg (m01 t))/\VwR w' t (Tp.countL C k y)/\t.New w.heap.size/\NWe w' X aw nw cw C (Tp.fF C k y)/\aC (· =X) w w':=by
 obtain⟨r,os,ta,tn,tc,ts,h⟩:=hh
 refine(yD X aw nw cw C r os ta tn tc ts k s y w h hy).mono ?_
 rintro e w' ⟨t,p,h1,h2,h3,h4,h5⟩
 exact⟨t,h1,h2,h3,⟨_,_,_,_,_,_,h4⟩,h5⟩
end
end Go.Proofs.YtbbhinehcncmeaaGreat
