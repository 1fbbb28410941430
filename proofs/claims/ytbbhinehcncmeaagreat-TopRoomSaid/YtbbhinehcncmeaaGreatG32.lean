/- A part of the proof of the laws of the top: TpPlayC, TpPlayD, TpPlayE, TpPlayF. No condition. -/
import Derived.Test.YtbbhinehcncmeaaGreatG29
import Derived.Test.YtbbhinehcncmeaaGreatG30
import Derived.Test.YtbbhinehcncmeaaGreatG31
namespace Go.Proofs.YtbbhinehcncmeaaGreat
open Go.RowKit
set_option linter.unusedSimpArgs false
set_option linter.unusedVariables false
set_option linter.unusedSectionVars false
set_option maxRecDepth 100000
set_option maxHeartbeats 4000000
structure MofR (w1:World) (k:Tp.Wd) (al:Option Nat) (tk:Option RV) (W:World):Prop where
 bel:Below w1.heap.size w1 W
 aa:∀g,al=some g->W.heap[g]?=some (.cells #[.slice none 0 0,.int .u64 0,.int .i64 0,.int .i64 0,.int .i64 0,.slice none 0 0,.int .i64 0,.slice none 0 0,.slice none 0 0,.slice none 0 0,.slice none 0 0,.int .i64 0,.bool false,.nilFunc,.int .i64 0,.slice none 0 0] 67 (0,0))/\w1.heap.size<=g
 tt:∀t,tk=some t->VwR W t (Tp.all k.n)/\t.New w1.heap.size/\∀g,al=some g->t.Off g
section
variable {w1 W W':World}{k:Tp.Wd}{al:Option Nat}{tk:Option RV}
theorem MofR.start :MofR w1 k none none w1.drew:=⟨(Below.refl _ _).drew,fun _ h=>(by cases h),fun _ h=>(by cases h)⟩
theorem MofR.keep (h:MofR w1 k al tk W)(hb:Below W.heap.size W W'):MofR w1 k al tk W':=
 ⟨bS h.bel hb,fun g he=>⟨cG hb (gS (h.aa g he).1) (h.aa g he).1,(h.aa g he).2⟩,fun t e=>⟨(h.tt t e).1.keep hb,(h.tt t e).2⟩⟩
theorem MofR.m (h:MofR w1 k none tk W):MofR w1 k (some W.heap.size) tk (W.alloc (.cells #[.slice none 0 0,.int .u64 0,.int .i64 0,.int .i64 0,.int .i64 0,.slice none 0 0,.int .i64 0,.slice none 0 0,.slice none 0 0,.slice none 0 0,.slice none 0 0,.int .i64 0,.bool false,.nilFunc,.int .i64 0,.slice none 0 0] 67)):=by
 have hb:=(Below.refl W.heap.size W).alloc nr (.cells #[.slice none 0 0,.int .u64 0,.int .i64 0,.int .i64 0,.int .i64 0,.slice none 0 0,.int .i64 0,.slice none 0 0,.slice none 0 0,.slice none 0 0,.slice none 0 0,.int .i64 0,.bool false,.nilFunc,.int .i64 0,.slice none 0 0] 67)
 refine⟨bS h.bel hb,fun g he=>?_,fun t e=>⟨(h.tt t e).1.keep hb,(h.tt t e).2.1,fun g he=>?_⟩⟩
 ·cases he
  exact⟨heap_alloc_new W _,h.bel.size⟩
 ·cases he
  exact(h.tt t e).1.away nr
theorem MofR.call {t:RV}(h:MofR w1 k al none W)(hb:Below W.heap.size W W')(hv:VwR W' t (Tp.all k.n))(hn:t.New W.heap.size):MofR w1 k al (some t) W':=
 ⟨(h.keep hb).bel,(h.keep hb).aa,fun t' e=>by cases e;exact⟨hv,hn.lower h.bel.size,fun g he=>hn.off (gS (h.aa g he).1)⟩⟩
end
abbrev omO0 :Oper:=⟨some 7,.load 32 (.tmp 2),32,"play.go:61",#[],none⟩
abbrev omO1 :Oper:=⟨some 8,.fieldAddr 32 (.tmp 2) 3,0,"play.go:61",#[],none⟩
abbrev omO2 :Oper:=⟨some 9,.load 29 (.tmp 8),29,"play.go:61",#[⟨1,.data⟩],none⟩
abbrev omO3 :Oper:=⟨some 10,.call ⟨.value (.func 48),#[.tmp 9],#[29]⟩,38,"play.go:61",#[⟨2,.data⟩],none⟩
abbrev omO4 :Oper:=⟨some 11,.fieldAddr 32 (.tmp 2) 2,0,"play.go:61",#[],none⟩
abbrev omO5 :Oper:=⟨some 12,.load 3 (.tmp 11),3,"play.go:61",#[⟨4,.data⟩],none⟩
abbrev omO6 :Oper:=⟨some 13,.binOp .quo 3 (.tmp 12) (.const (.int .i64 3)) 3,3,"play.go:61",#[⟨5,.data⟩],none⟩
abbrev omO7 :Oper:=⟨some 14,.build 67 #[(0,.tmp 7),(1,.tmp 10),(5,.tmp 13)],67,"play.go:61",#[⟨0,.data⟩,⟨3,.data⟩,⟨6,.data⟩],none⟩
abbrev omO8 :Oper:=⟨some 5,.alloc 67,0,"play.go:61",#[],none⟩
abbrev omO9 :Oper:=⟨none,.store 67 (.tmp 5) (.tmp 14),0,"play.go:61",#[⟨8,.data⟩,⟨7,.data⟩,⟨3,.chain⟩,⟨0,.phase⟩,⟨1,.phase⟩,⟨2,.phase⟩,⟨3,.phase⟩,⟨4,.phase⟩,⟨5,.phase⟩,⟨6,.phase⟩,⟨7,.phase⟩,⟨8,.phase⟩],none⟩
abbrev aDa :Array Oper:=#[omO0,omO1,omO2,omO3,omO4,omO5,omO6,omO7,omO8,omO9]
abbrev omSL (Bw B4:Nat) (r:RW) (ns:List NE) (os:List (RO×Tp.Vw)) (k:Tp.Wd) (u0 u1 u3:Value) (w1:World):List (Nat×(World->Prop)):=[(0,fun W=>W.cell? (m00 Bw)=some (.slice r.aw r.nw r.cw)/\W.cell? (m15 Bw)=some (.int .u64 k.c.sd)/\W.cell? (m25 Bw)=some (.int .i64 k.c.ep)/\W.cell? (m33 Bw)=some (.int .i64 k.c.nu)/\W.cell? (m35 Bw)=some (.int .i64 k.c.de)/\W.cell? (m65 Bw)=some (.slice r.ba r.bn r.bc)/\W.cell? (m39 Bw)=some (.int .i64 r.tick)/\W.cell? (m36 Bw)=some (.slice r.na r.nn r.nc)/\W.cell? (m60 Bw)=some (.slice r.oa r.on r.oc)),(2,fun W=>W.cell? (m36 Bw)=some (.slice r.na r.nn r.nc)),(5,fun W=>W.cell? (m39 Bw)=some (.int .i64 r.tick))]
structure omP (Q:Exit->Act->World->Prop) (Bw B4:Nat) (r:RW) (ns:List NE) (os:List (RO×Tp.Vw)) (k:Tp.Wd) (u0 u1 u3:Value) (w1:World):Prop where
 hQp:∀(c:_) (a:Act) (d:Option Tmp) (v:Value) (w:World),Q (.panic c) (a.put d v) w->Q (.panic c) a w
 HW:Hid (WdR w1 r ns os k)
 ht0:3<=r.tick/\r.tick<=1000000000
 ha:(∀p∈ns,(Tp.gH p.k).b.length<=1000000/\(Tp.gH p.k).v.length<=1000000)/\∀j,(Tp.all ((ns.take j).map NE.k)).b.length<=1000000/\(Tp.all ((ns.take j).map NE.k)).v.length<=1000000
 hc:∀W:World,Below w1.heap.size w1 W->(W.cell? (m00 Bw)=some (.slice r.aw r.nw r.cw)/\W.cell? (m15 Bw)=some (.int .u64 k.c.sd)/\W.cell? (m25 Bw)=some (.int .i64 k.c.ep)/\W.cell? (m33 Bw)=some (.int .i64 k.c.nu)/\W.cell? (m35 Bw)=some (.int .i64 k.c.de)/\W.cell? (m65 Bw)=some (.slice r.ba r.bn r.bc)/\W.cell? (m39 Bw)=some (.int .i64 r.tick)/\W.cell? (m36 Bw)=some (.slice r.na r.nn r.nc)/\W.cell? (m60 Bw)=some (.slice r.oa r.on r.oc))/\(W.cell? (m36 Bw)=some (.slice r.na r.nn r.nc))/\(W.cell? (m39 Bw)=some (.int .i64 r.tick))
 hQ:∀g t W,MofR w1 k (some g) (some t) W->Q .normal { tmps:=#[u0,u1,.pointer (some (m00 Bw)),u3,.pointer (some (m00 B4)),.pointer (some (m00 g)),undef,.agg (m10 r.aw r.nw r.cw k.c r.ba r.bn r.bc r.tick r.na r.nn r.nc r.oa r.on r.oc),.pointer (some (m36 Bw)),.slice r.na r.nn r.nc,.agg (m01 t),.pointer (some (m39 Bw)),.int .i64 r.tick,.int .i64 (r.tick/3),.agg #[.slice r.aw r.nw r.cw,.int .u64 k.c.sd,.int .i64 k.c.ep,.int .i64 k.c.nu,.int .i64 k.c.de,.slice r.ba r.bn r.bc,.int .i64 r.tick,.slice r.na r.nn r.nc,.slice r.oa r.on r.oc,.slice t.ab t.nb t.cb,.slice t.av t.nv t.cv,.int .i64 0,.bool false,.nilFunc,.int .i64 (r.tick/3),.slice none 0 0],undef,undef,undef,undef,undef,undef,undef,undef,undef,undef,undef,undef,undef,undef,undef,undef,undef,undef,undef,undef],defers:=[] } (((((((((((m06 W g r.aw r.nw r.cw k.c r.ba r.bn r.bc:World).setCell (m39 g) (m30 r.tick)).setCell (m36 g) (m63 r.na r.nn r.nc)).setCell (m60 g) (m63 r.oa r.on r.oc)).setCell ⟨g,9,none⟩ (m41 t)).setCell ⟨g,10,none⟩ (m42 t)).setCell ⟨g,11,none⟩ (.int .i64 0)).setCell (m59 g) (.bool false)).setCell ⟨g,13,none⟩ (.nilFunc)).setCell ⟨g,14,none⟩ (m30 (r.tick/3))).setCell ⟨g,15,none⟩ (m48))
section
variable {Q:Exit->Act->World->Prop}{Bw B4:Nat}{r:RW}{ns:List NE}{os:List (RO×Tp.Vw)}{k:Tp.Wd}{u0 u1 u3:Value}{w1:World}
theorem aCz (PP:omP Q Bw B4 r ns os k u0 u1 u3 w1)(t:RV)(g:Nat)(W:World)(hR:MofR w1 k (some g) (some t) W):
  aB Tryz.prog .any aDa Q (omSL Bw B4 r ns os k u0 u1 u3 w1) 1 #[true,true,true,true,true,true,true,true,true,false] { tmps:=#[u0,u1,.pointer (some (m00 Bw)),u3,.pointer (some (m00 B4)),.pointer (some (m00 g)),undef,.agg (m10 r.aw r.nw r.cw k.c r.ba r.bn r.bc r.tick r.na r.nn r.nc r.oa r.on r.oc),.pointer (some (m36 Bw)),.slice r.na r.nn r.nc,.agg (m01 t),.pointer (some (m39 Bw)),.int .i64 r.tick,.int .i64 (r.tick/3),.agg #[.slice r.aw r.nw r.cw,.int .u64 k.c.sd,.int .i64 k.c.ep,.int .i64 k.c.nu,.int .i64 k.c.de,.slice r.ba r.bn r.bc,.int .i64 r.tick,.slice r.na r.nn r.nc,.slice r.oa r.on r.oc,.slice t.ab t.nb t.cb,.slice t.av t.nv t.cv,.int .i64 0,.bool false,.nilFunc,.int .i64 (r.tick/3),.slice none 0 0],undef,undef,undef,undef,undef,undef,undef,undef,undef,undef,undef,undef,undef,undef,undef,undef,undef,undef,undef,undef],defers:=[] } W:=by
 obtain⟨hQp,HW,ht0,ha,hc,hQ⟩:=PP
 refine cK 9 (by kernel_rfl) rfl (fun K hK=>?_)
 have hgg:=(hR.aa _ rfl).1
 have c0:=cA hgg 0;have f0:=cH hgg 0
 have c1:=cA hgg 1;have f1:=cH hgg 1
 have c2:=cA hgg 2;have f2:=cH hgg 2
 have c3:=cA hgg 3;have f3:=cH hgg 3
 have c4:=cA hgg 4;have f4:=cH hgg 4
 have c5:=cA hgg 5;have f5:=cH hgg 5
 have c6:=cA hgg 6;have f6:=cH hgg 6
 have c7:=cA hgg 7;have f7:=cH hgg 7
 have c8:=cA hgg 8;have f8:=cH hgg 8
 have c9:=cA hgg 9;have f9:=cH hgg 9
 have c10:=cA hgg 10;have f10:=cH hgg 10
 have c11:=cA hgg 11;have f11:=cH hgg 11
 have c12:=cA hgg 12;have f12:=cH hgg 12
 have c13:=cA hgg 13;have f13:=cH hgg 13
 have c14:=cA hgg 14;have f14:=cH hgg 14
 have c15:=cA hgg 15;have f15:=cH hgg 15
 clear hgg
 go_simp
 refine hK.out _ _ ?_ ?_
 ·exact⟨.inr (by kernel_rfl),.inr (by kernel_rfl),.inr (by kernel_rfl),trivial⟩
 clear hK K
 try simp only[Act.put,pA,pB,pC]
 refine cO (by kernel_rfl) ?_ _
 exact hQ g t W hR
theorem aNo (PP:omP Q Bw B4 r ns os k u0 u1 u3 w1)(t:RV)(W:World)(hR:MofR w1 k none (some t) W):
  aB Tryz.prog .any aDa Q (omSL Bw B4 r ns os k u0 u1 u3 w1) 2 #[true,true,true,true,true,true,true,true,false,false] { tmps:=#[u0,u1,.pointer (some (m00 Bw)),u3,.pointer (some (m00 B4)),undef,undef,.agg (m10 r.aw r.nw r.cw k.c r.ba r.bn r.bc r.tick r.na r.nn r.nc r.oa r.on r.oc),.pointer (some (m36 Bw)),.slice r.na r.nn r.nc,.agg (m01 t),.pointer (some (m39 Bw)),.int .i64 r.tick,.int .i64 (r.tick/3),.agg #[.slice r.aw r.nw r.cw,.int .u64 k.c.sd,.int .i64 k.c.ep,.int .i64 k.c.nu,.int .i64 k.c.de,.slice r.ba r.bn r.bc,.int .i64 r.tick,.slice r.na r.nn r.nc,.slice r.oa r.on r.oc,.slice t.ab t.nb t.cb,.slice t.av t.nv t.cv,.int .i64 0,.bool false,.nilFunc,.int .i64 (r.tick/3),.slice none 0 0],undef,undef,undef,undef,undef,undef,undef,undef,undef,undef,undef,undef,undef,undef,undef,undef,undef,undef,undef,undef],defers:=[] } W:=by
 obtain⟨hQp,HW,ht0,ha,hc,hQ⟩:=PP
 refine cJ [8] (by kernel_rfl) (by simp) ?_
 refine cD 8 rfl (fun K hK=>?_) ?_
 ·go_simp
  have hR2:=hR.m
  replace hR:=hR2
  clear hR2
  refine hK.out _ _ ?_ ?_
  ·exact(hl3 (hc _ (hR.bel)))
  clear hK K
  try simp only[Act.put,pA,pB,pC]
  exact aCz ⟨hQp,HW,ht0,ha,hc,hQ⟩ t _ _ hR
 exact cE
theorem aNn (PP:omP Q Bw B4 r ns os k u0 u1 u3 w1)(g:Nat)(W:World)(hR:MofR w1 k (some g) none W):
  aB Tryz.prog .any aDa Q (omSL Bw B4 r ns os k u0 u1 u3 w1) 3 #[true,true,true,false,true,true,true,false,true,false] { tmps:=#[u0,u1,.pointer (some (m00 Bw)),u3,.pointer (some (m00 B4)),.pointer (some (m00 g)),undef,.agg (m10 r.aw r.nw r.cw k.c r.ba r.bn r.bc r.tick r.na r.nn r.nc r.oa r.on r.oc),.pointer (some (m36 Bw)),.slice r.na r.nn r.nc,undef,.pointer (some (m39 Bw)),.int .i64 r.tick,.int .i64 (r.tick/3),undef,undef,undef,undef,undef,undef,undef,undef,undef,undef,undef,undef,undef,undef,undef,undef,undef,undef,undef,undef,undef],defers:=[] } W:=by
 obtain⟨hQp,HW,ht0,ha,hc,hQ⟩:=PP
 refine cJ [3] (by kernel_rfl) (by simp) ?_
 refine cD 3 rfl (fun K hK=>?_) ?_
 ·go_simp
  refine(wQ r.na r.nn r.nc ns W (HW.out.n.below hR.bel nr) ha.1 ha.2).mono ?_;rintro e W2 ⟨t,rfl,ht,htn,hb⟩
  rw[<-HW.out.kn]at ht
  have hR2:=hR.call hb ht htn
  replace hR:=hR2
  clear hR2 hb ht htn
  refine hK.out _ _ ?_ ?_
  ·exact(hl3 (hc _ (hR.bel)))
  clear hK K
  try simp only[Act.put,pA,pB,pC]
  refine wI0 7 (oi:=omO7) (v:=?_) rfl ?_ ?_ (hQ:=by exact fun _ _ _ h=>hQp _ _ _ _ _ h)
  rotate_left
  ·intro w' _;go_simp;try with_reducible rfl
  try simp only[Act.put,pA,pB,pC]
  exact aCz ⟨hQp,HW,ht0,ha,hc,hQ⟩ t g _ hR
 exact cE
theorem om_ (PP:omP Q Bw B4 r ns os k u0 u1 u3 w1)(W:World)(hR:MofR w1 k none none W):
  aB Tryz.prog .any aDa Q (omSL Bw B4 r ns os k u0 u1 u3 w1) 4 #[true,true,true,false,true,true,true,false,false,false] { tmps:=#[u0,u1,.pointer (some (m00 Bw)),u3,.pointer (some (m00 B4)),undef,undef,.agg (m10 r.aw r.nw r.cw k.c r.ba r.bn r.bc r.tick r.na r.nn r.nc r.oa r.on r.oc),.pointer (some (m36 Bw)),.slice r.na r.nn r.nc,undef,.pointer (some (m39 Bw)),.int .i64 r.tick,.int .i64 (r.tick/3),undef,undef,undef,undef,undef,undef,undef,undef,undef,undef,undef,undef,undef,undef,undef,undef,undef,undef,undef,undef,undef],defers:=[] } W:=by
 obtain⟨hQp,HW,ht0,ha,hc,hQ⟩:=PP
 refine cJ [3,8] (by kernel_rfl) (by simp) ?_
 refine cD 3 rfl (fun K hK=>?_) ?_
 ·go_simp
  refine(wQ r.na r.nn r.nc ns W (HW.out.n.below hR.bel nr) ha.1 ha.2).mono ?_;rintro e W2 ⟨t,rfl,ht,htn,hb⟩
  rw[<-HW.out.kn]at ht
  have hR2:=hR.call hb ht htn
  replace hR:=hR2
  clear hR2 hb ht htn
  refine hK.out _ _ ?_ ?_
  ·exact(hl3 (hc _ (hR.bel)))
  clear hK K
  try simp only[Act.put,pA,pB,pC]
  refine wI0 7 (oi:=omO7) (v:=?_) rfl ?_ ?_ (hQ:=by exact fun _ _ _ h=>hQp _ _ _ _ _ h)
  rotate_left
  ·intro w' _;go_simp;try with_reducible rfl
  try simp only[Act.put,pA,pB,pC]
  exact aNo ⟨hQp,HW,ht0,ha,hc,hQ⟩ t _ hR
 refine cD 8 rfl (fun K hK=>?_) ?_
 ·go_simp
  have hR2:=hR.m
  replace hR:=hR2
  clear hR2
  refine hK.out _ _ ?_ ?_
  ·exact(hl3 (hc _ (hR.bel)))
  clear hK K
  try simp only[Act.put,pA,pB,pC]
  exact aNn ⟨hQp,HW,ht0,ha,hc,hQ⟩ _ _ hR
 exact cE
theorem aCy (PP:omP Q Bw B4 r ns os k u0 u1 u3 w1)(hR:MofR w1 k none none w1.drew):(Code.region 1 aDa true).wp Tryz.prog Q { tmps:=#[u0,u1,.pointer (some (m00 Bw)),u3,.pointer (some (m00 B4)),undef,undef,undef,undef,undef,undef,undef,undef,undef,undef,undef,undef,undef,undef,undef,undef,undef,undef,undef,undef,undef,undef,undef,undef,undef,undef,undef,undef,undef,undef],defers:=[] } w1:=by
 obtain⟨hQp,HW,ht0,ha,hc,hQ⟩:=PP
 obtain⟨ht1,ht2⟩:=ht0
 have hdv:IntKind.i64.wrap (r.tick.tdiv 3)=r.tick/3:=by rw[IntKind.wrap_i64,Int.tdiv_eq_ediv_of_nonneg (by omega)];omega
 refine cN (omSL Bw B4 r ns os k u0 u1 u3 w1) (by kernel_rfl) ?_
 generalize w1.drew=W at hR⊢
 show aB _ _ _ _ _ 10 #[false,false,false,false,false,false,false,false,false,false] _ _
 refine wIL 0 0 (oi:=omO0) (v:=?_) rfl rfl ?_ ?_ ?_ (hQ:=by exact fun _ _ _ h=>hQp _ _ _ _ _ h)
 rotate_left
 ·intro w' hSw;(try dsimp only at hSw);go_simp;try with_reducible rfl
 ·exact(hc _ hR.bel).1
 try simp only[Act.put,pA,pB,pC]
 refine wI0 1 (oi:=omO1) (v:=?_) rfl ?_ ?_ (hQ:=by exact fun _ _ _ h=>hQp _ _ _ _ _ h)
 rotate_left
 ·intro w' _;go_simp;try with_reducible rfl
 try simp only[Act.put,pA,pB,pC]
 refine wIL 1 2 (oi:=omO2) (v:=?_) rfl rfl ?_ ?_ ?_ (hQ:=by exact fun _ _ _ h=>hQp _ _ _ _ _ h)
 rotate_left
 ·intro w' hSw;(try dsimp only at hSw);go_simp;try with_reducible rfl
 ·exact(hc _ hR.bel).2.1
 try simp only[Act.put,pA,pB,pC]
 refine wI0 4 (oi:=omO4) (v:=?_) rfl ?_ ?_ (hQ:=by exact fun _ _ _ h=>hQp _ _ _ _ _ h)
 rotate_left
 ·intro w' _;go_simp;try with_reducible rfl
 try simp only[Act.put,pA,pB,pC]
 refine wIL 2 5 (oi:=omO5) (v:=?_) rfl rfl ?_ ?_ ?_ (hQ:=by exact fun _ _ _ h=>hQp _ _ _ _ _ h)
 rotate_left
 ·intro w' hSw;(try dsimp only at hSw);go_simp;try with_reducible rfl
 ·exact(hc _ hR.bel).2.2
 try simp only[Act.put,pA,pB,pC]
 refine wI0 6 (oi:=omO6) (v:=?_) rfl ?_ ?_ (hQ:=by exact fun _ _ _ h=>hQp _ _ _ _ _ h)
 rotate_left
 ·intro w' _;go_simp;try with_reducible rfl
 try simp only[Act.put,pA,pB,pC]
 exact om_ ⟨hQp,HW,⟨ht1,ht2⟩,ha,hc,hQ⟩ _ hR
end
structure oZ (w:World) (N:Nat) (r:RW) (k:Tp.Wd) (al:List (RA×Tp.Vw)) (Bw B6 B5:Nat) (ra:RV) (ca:Option Addr) (cn cc:Nat) (cl:List (RA×Tp.Vw)):Prop where
 mail:jT w Bw B6 B5 r k ra
 calls:iK w ca cn cc cl
 cl:cl.map toAc=Tp.calls k (al.map toAc)
theorem oZ.below {w w':World}{N:Nat}{r:RW}{k:Tp.Wd}{al:List (RA×Tp.Vw)}{Bw B6 B5:Nat}{ra:RV}{ca:Option Addr}{cn cc:Nat}{cl:List (RA×Tp.Vw)}{B:Nat}(h:oZ w N r k al Bw B6 B5 ra ca cn cc cl)(hb:Below B w w')(hB:w.heap.size<=B):oZ w' N r k al Bw B6 B5 ra ca cn cc cl:=⟨h.mail.below hb hB,h.calls.below hb hB,h.cl⟩
theorem oZ.keep {w w':World}{N:Nat}{r:RW}{k:Tp.Wd}{al:List (RA×Tp.Vw)}{Bw B6 B5:Nat}{ra:RV}{ca:Option Addr}{cn cc:Nat}{cl:List (RA×Tp.Vw)}(h:oZ w N r k al Bw B6 B5 ra ca cn cc cl)(hb:Below w.heap.size w w'):oZ w' N r k al Bw B6 B5 ra ca cn cc cl:=h.below hb nr
theorem wS (al:List (RA×Tp.Vw))(q:RA->Bool):(al.filter (fun p=>q p.1)).map Prod.fst=(al.map Prod.fst).filter q:=by
 rw[List.filter_map]
 try rfl
theorem aJk (r:RW)(ns:List NE)(os:List (RO×Tp.Vw))(k:Tp.Wd)(a:Option Addr)(n c:Nat)(al:List (RA×Tp.Vw))(w:World)(hW:WdR w r ns os k)(hA:iK w a n c al)(ht:3<=k.tick/\k.tick<=1000000000)(ha:(∀p∈ns,(Tp.gH p.k).b.length<=1000000/\(Tp.gH p.k).v.length<=1000000)/\∀j,(Tp.all ((ns.take j).map NE.k)).b.length<=1000000/\(Tp.all ((ns.take j).map NE.k)).v.length<=1000000):
  Calls Tryz.prog 27 #[.agg (aR r k.c).toArray,.slice a n c] w fun e w'=>∃Bw B6 B5 ra ca cn cc cl,e=.returned (.agg (rB r k.c ra (Tp.sC k) (Tp.nS k) (.func (.func 53) #[] #[.pointer (some ⟨B6,0,none⟩),.pointer (some ⟨B5,0,none⟩)]) (k.tick/3) ca cn cc).toArray)/\oZ w' w.heap.size r k al Bw B6 B5 ra ca cn cc cl/\Below w.heap.size w w':=by
 obtain⟨who,hwho⟩:∃z,Tp.sC k=z:=⟨_,rfl⟩
 obtain⟨mean,hmean⟩:∃z,Tp.nS k=z:=⟨_,rfl⟩
 have htk:r.tick=k.tick:=hW.tick
 have ht1:3<=r.tick:=by rw[htk];exact ht.1
 have ht2:r.tick<=1000000000:=by rw[htk];exact ht.2
 rw[hwho,hmean,<-htk]
 have HWHO:Hid (Tp.aCm k.c.W k.c.sd k.c.ep k.c.nu k.c.de (r.tick/3)=who):=zH (by rw[<-hwho,htk];rfl)
 have HMEAN:Hid (Tp.has k.bad who=mean):=zH (by rw[<-hmean,<-hwho];rfl)
 have HCL:Hid ((al.filter (fun p=>decide (p.1.tick=r.tick)&&decide (0<=p.1.dest))).map toAc=Tp.calls k (al.map toAc)):=zH (by unfold Tp.calls;rw[List.filter_map,htk];rfl)
 have HW:=zH hW
 have HA:=zH hA
 have HHA:=zH ha
 have hb2:Below w.heap.size w ((w.alloc (.cells #[.slice r.aw r.nw r.cw,.int .u64 k.c.sd,.int .i64 k.c.ep,.int .i64 k.c.nu,.int .i64 k.c.de,.slice r.ba r.bn r.bc,.int .i64 r.tick,.slice r.na r.nn r.nc,.slice r.oa r.on r.oc] 32)).alloc (.cells #[.slice none 0 0,.int .u64 0,.int .i64 0,.int .i64 0,.int .i64 0,.slice none 0 0,.int .i64 0,.slice none 0 0,.slice none 0 0,.slice none 0 0,.slice none 0 0,.int .i64 0,.bool false,.nilFunc,.int .i64 0,.slice none 0 0] 67)):=cR _ _
 have hbw:((w.alloc (.cells #[.slice r.aw r.nw r.cw,.int .u64 k.c.sd,.int .i64 k.c.ep,.int .i64 k.c.nu,.int .i64 k.c.de,.slice r.ba r.bn r.bc,.int .i64 r.tick,.slice r.na r.nn r.nc,.slice r.oa r.on r.oc] 32)).alloc (.cells #[.slice none 0 0,.int .u64 0,.int .i64 0,.int .i64 0,.int .i64 0,.slice none 0 0,.int .i64 0,.slice none 0 0,.slice none 0 0,.slice none 0 0,.slice none 0 0,.int .i64 0,.bool false,.nilFunc,.int .i64 0,.slice none 0 0] 67)).heap[w.heap.size]?=some (.cells #[.slice r.aw r.nw r.cw,.int .u64 k.c.sd,.int .i64 k.c.ep,.int .i64 k.c.nu,.int .i64 k.c.de,.slice r.ba r.bn r.bc,.int .i64 r.tick,.slice r.na r.nn r.nc,.slice r.oa r.on r.oc] 32 (0,0)):=by rw[cF,if_neg (by simp),cF,if_pos rfl]
 have hb4:((w.alloc (.cells #[.slice r.aw r.nw r.cw,.int .u64 k.c.sd,.int .i64 k.c.ep,.int .i64 k.c.nu,.int .i64 k.c.de,.slice r.ba r.bn r.bc,.int .i64 r.tick,.slice r.na r.nn r.nc,.slice r.oa r.on r.oc] 32)).alloc (.cells #[.slice none 0 0,.int .u64 0,.int .i64 0,.int .i64 0,.int .i64 0,.slice none 0 0,.int .i64 0,.slice none 0 0,.slice none 0 0,.slice none 0 0,.slice none 0 0,.int .i64 0,.bool false,.nilFunc,.int .i64 0,.slice none 0 0] 67)).heap[w.heap.size+1]?=some (.cells #[.slice none 0 0,.int .u64 0,.int .i64 0,.int .i64 0,.int .i64 0,.slice none 0 0,.int .i64 0,.slice none 0 0,.slice none 0 0,.slice none 0 0,.slice none 0 0,.int .i64 0,.bool false,.nilFunc,.int .i64 0,.slice none 0 0] 67 (0,0)):=by rw[cF,if_pos (by simp)]
 clear hwho hmean htk hW hA ht ha
 simp only[aR]
 go_enter Tryz.func27,Tryz.ntmps27
 go_wp2_with fail
 generalize((w.alloc (.cells #[.slice r.aw r.nw r.cw,.int .u64 k.c.sd,.int .i64 k.c.ep,.int .i64 k.c.nu,.int .i64 k.c.de,.slice r.ba r.bn r.bc,.int .i64 r.tick,.slice r.na r.nn r.nc,.slice r.oa r.on r.oc] 32)).alloc (.cells #[.slice none 0 0,.int .u64 0,.int .i64 0,.int .i64 0,.int .i64 0,.slice none 0 0,.int .i64 0,.slice none 0 0,.slice none 0 0,.slice none 0 0,.slice none 0 0,.int .i64 0,.bool false,.nilFunc,.int .i64 0,.slice none 0 0] 67))=w1 at hb2 hbw hb4⊢
 have HB1:=zH hb2
 have HBW:=zH hbw
 have hw1l:w.heap.size+1<w1.heap.size:=(gS hb4)
 have HB4:=zH hb4
 have hc:∀W:World,Below w1.heap.size w1 W->(W.cell? ⟨w.heap.size,0,none⟩=some (.slice r.aw r.nw r.cw)/\W.cell? ⟨w.heap.size,1,none⟩=some (.int .u64 k.c.sd)/\W.cell? ⟨w.heap.size,2,none⟩=some (.int .i64 k.c.ep)/\W.cell? ⟨w.heap.size,3,none⟩=some (.int .i64 k.c.nu)/\W.cell? ⟨w.heap.size,4,none⟩=some (.int .i64 k.c.de)/\W.cell? ⟨w.heap.size,5,none⟩=some (.slice r.ba r.bn r.bc)/\W.cell? ⟨w.heap.size,6,none⟩=some (.int .i64 r.tick)/\W.cell? ⟨w.heap.size,7,none⟩=some (.slice r.na r.nn r.nc)/\W.cell? ⟨w.heap.size,8,none⟩=some (.slice r.oa r.on r.oc))/\(W.cell? ⟨w.heap.size,7,none⟩=some (.slice r.na r.nn r.nc))/\(W.cell? ⟨w.heap.size,6,none⟩=some (.int .i64 r.tick)):=fun W hb=>by
  have e:=bK hb HBW.out
  exact⟨⟨cA e 0,cA e 1,cA e 2,cA e 3,cA e 4,cA e 5,cA e 6,cA e 7,cA e 8⟩,cA e 7,cA e 6⟩
 refine aCy (Bw:=w.heap.size) (B4:=w.heap.size+1) (r:=r) (ns:=ns) (os:=os) (k:=k) ⟨fun _ _ d _ _ h=>by cases d<;>exact h,zH (HW.out.keep HB1.out),⟨ht1,ht2⟩,HHA.out,hc,?_⟩ MofR.start
 intro g t W hR
 have hgg:=hR.aa g rfl
 have T:=cM [.slice r.aw r.nw r.cw,.int .u64 k.c.sd,.int .i64 k.c.ep,.int .i64 k.c.nu,.int .i64 k.c.de,.slice r.ba r.bn r.bc,.int .i64 r.tick,.slice r.na r.nn r.nc,.slice r.oa r.on r.oc,.slice t.ab t.nb t.cb,.slice t.av t.nv t.cv,.int .i64 0,.bool false,.nilFunc,.int .i64 (r.tick/3),.slice none 0 0] 0 _ _ hgg.1 (by show(16:Nat)<=16;omega)
 have hg0:w.heap.size+1<g:=Nat.lt_of_lt_of_le (gS hb4) hgg.2
 have B1:=zH ((HB1.out.trans (hR.bel.mono HB1.out.size)).trans (T.below (by omega)))
 have G1:Hid ((zD g 0 [.slice r.aw r.nw r.cw,.int .u64 k.c.sd,.int .i64 k.c.ep,.int .i64 k.c.nu,.int .i64 k.c.de,.slice r.ba r.bn r.bc,.int .i64 r.tick,.slice r.na r.nn r.nc,.slice r.oa r.on r.oc,.slice t.ab t.nb t.cb,.slice t.av t.nv t.cv,.int .i64 0,.bool false,.nilFunc,.int .i64 (r.tick/3),.slice none 0 0] W).heap[g]?=some (.cells (rB r k.c t 0 false .nilFunc (r.tick/3) none 0 0).toArray 67 (0,0))):=zH T.new
 have V1:=zH (And.intro (((hR.tt t rfl).1).keepS (cL T rfl) ((hR.tt t rfl).2.2 g rfl)) (And.intro ((hR.tt t rfl).2.2 g rfl) (hR.tt t rfl).2.1))
 have BW1:Hid ((zD g 0 [.slice r.aw r.nw r.cw,.int .u64 k.c.sd,.int .i64 k.c.ep,.int .i64 k.c.nu,.int .i64 k.c.de,.slice r.ba r.bn r.bc,.int .i64 r.tick,.slice r.na r.nn r.nc,.slice r.oa r.on r.oc,.slice t.ab t.nb t.cb,.slice t.av t.nv t.cv,.int .i64 0,.bool false,.nilFunc,.int .i64 (r.tick/3),.slice none 0 0] W).heap[w.heap.size]?=some (.cells (aR r k.c).toArray 32 (0,0))):=zH ((T.block w.heap.size (by omega)).trans (bK hR.bel hbw))
 have BF1:Hid ((zD g 0 [.slice r.aw r.nw r.cw,.int .u64 k.c.sd,.int .i64 k.c.ep,.int .i64 k.c.nu,.int .i64 k.c.de,.slice r.ba r.bn r.bc,.int .i64 r.tick,.slice r.na r.nn r.nc,.slice r.oa r.on r.oc,.slice t.ab t.nb t.cb,.slice t.av t.nv t.cv,.int .i64 0,.bool false,.nilFunc,.int .i64 (r.tick/3),.slice none 0 0] W).heap[w.heap.size+1]?=some (.cells #[.slice none 0 0,.int .u64 0,.int .i64 0,.int .i64 0,.int .i64 0,.slice none 0 0,.int .i64 0,.slice none 0 0,.slice none 0 0,.slice none 0 0,.slice none 0 0,.int .i64 0,.bool false,.nilFunc,.int .i64 0,.slice none 0 0] 67 (0,0))):=zH ((T.block (w.heap.size+1) (by omega)).trans (bK hR.bel hb4))
 clear hR hbw hb4 hc hb2
 change Hid (Below w.heap.size w ((((((((((((((((W.setCell ⟨g,0,none⟩ (.slice r.aw r.nw r.cw)).setCell ⟨g,1,none⟩ (.int .u64 k.c.sd)).setCell ⟨g,2,none⟩ (.int .i64 k.c.ep)).setCell ⟨g,3,none⟩ (.int .i64 k.c.nu)).setCell ⟨g,4,none⟩ (.int .i64 k.c.de)).setCell ⟨g,5,none⟩ (.slice r.ba r.bn r.bc)).setCell ⟨g,6,none⟩ (.int .i64 r.tick)).setCell ⟨g,7,none⟩ (.slice r.na r.nn r.nc)).setCell ⟨g,8,none⟩ (.slice r.oa r.on r.oc)).setCell ⟨g,9,none⟩ (.slice t.ab t.nb t.cb)).setCell ⟨g,10,none⟩ (.slice t.av t.nv t.cv)).setCell ⟨g,11,none⟩ (.int .i64 0)).setCell ⟨g,12,none⟩ (.bool false)).setCell ⟨g,13,none⟩ (.nilFunc)).setCell ⟨g,14,none⟩ (.int .i64 (r.tick/3))).setCell ⟨g,15,none⟩ (.slice none 0 0)))at B1
 change Hid (((((((((((((((((W.setCell ⟨g,0,none⟩ (.slice r.aw r.nw r.cw)).setCell ⟨g,1,none⟩ (.int .u64 k.c.sd)).setCell ⟨g,2,none⟩ (.int .i64 k.c.ep)).setCell ⟨g,3,none⟩ (.int .i64 k.c.nu)).setCell ⟨g,4,none⟩ (.int .i64 k.c.de)).setCell ⟨g,5,none⟩ (.slice r.ba r.bn r.bc)).setCell ⟨g,6,none⟩ (.int .i64 r.tick)).setCell ⟨g,7,none⟩ (.slice r.na r.nn r.nc)).setCell ⟨g,8,none⟩ (.slice r.oa r.on r.oc)).setCell ⟨g,9,none⟩ (.slice t.ab t.nb t.cb)).setCell ⟨g,10,none⟩ (.slice t.av t.nv t.cv)).setCell ⟨g,11,none⟩ (.int .i64 0)).setCell ⟨g,12,none⟩ (.bool false)).setCell ⟨g,13,none⟩ (.nilFunc)).setCell ⟨g,14,none⟩ (.int .i64 (r.tick/3))).setCell ⟨g,15,none⟩ (.slice none 0 0)).heap[g]?=some (.cells (rB r k.c t 0 false .nilFunc (r.tick/3) none 0 0).toArray 67 (0,0)))at G1
 change Hid (((((((((((((((((W.setCell ⟨g,0,none⟩ (.slice r.aw r.nw r.cw)).setCell ⟨g,1,none⟩ (.int .u64 k.c.sd)).setCell ⟨g,2,none⟩ (.int .i64 k.c.ep)).setCell ⟨g,3,none⟩ (.int .i64 k.c.nu)).setCell ⟨g,4,none⟩ (.int .i64 k.c.de)).setCell ⟨g,5,none⟩ (.slice r.ba r.bn r.bc)).setCell ⟨g,6,none⟩ (.int .i64 r.tick)).setCell ⟨g,7,none⟩ (.slice r.na r.nn r.nc)).setCell ⟨g,8,none⟩ (.slice r.oa r.on r.oc)).setCell ⟨g,9,none⟩ (.slice t.ab t.nb t.cb)).setCell ⟨g,10,none⟩ (.slice t.av t.nv t.cv)).setCell ⟨g,11,none⟩ (.int .i64 0)).setCell ⟨g,12,none⟩ (.bool false)).setCell ⟨g,13,none⟩ (.nilFunc)).setCell ⟨g,14,none⟩ (.int .i64 (r.tick/3))).setCell ⟨g,15,none⟩ (.slice none 0 0)).heap[w.heap.size]?=some (.cells (aR r k.c).toArray 32 (0,0)))at BW1
 change Hid (((((((((((((((((W.setCell ⟨g,0,none⟩ (.slice r.aw r.nw r.cw)).setCell ⟨g,1,none⟩ (.int .u64 k.c.sd)).setCell ⟨g,2,none⟩ (.int .i64 k.c.ep)).setCell ⟨g,3,none⟩ (.int .i64 k.c.nu)).setCell ⟨g,4,none⟩ (.int .i64 k.c.de)).setCell ⟨g,5,none⟩ (.slice r.ba r.bn r.bc)).setCell ⟨g,6,none⟩ (.int .i64 r.tick)).setCell ⟨g,7,none⟩ (.slice r.na r.nn r.nc)).setCell ⟨g,8,none⟩ (.slice r.oa r.on r.oc)).setCell ⟨g,9,none⟩ (.slice t.ab t.nb t.cb)).setCell ⟨g,10,none⟩ (.slice t.av t.nv t.cv)).setCell ⟨g,11,none⟩ (.int .i64 0)).setCell ⟨g,12,none⟩ (.bool false)).setCell ⟨g,13,none⟩ (.nilFunc)).setCell ⟨g,14,none⟩ (.int .i64 (r.tick/3))).setCell ⟨g,15,none⟩ (.slice none 0 0)).heap[w.heap.size+1]?=some (.cells #[.slice none 0 0,.int .u64 0,.int .i64 0,.int .i64 0,.int .i64 0,.slice none 0 0,.int .i64 0,.slice none 0 0,.slice none 0 0,.slice none 0 0,.slice none 0 0,.int .i64 0,.bool false,.nilFunc,.int .i64 0,.slice none 0 0] 67 (0,0)))at BF1
 change Hid (VwR ((((((((((((((((W.setCell ⟨g,0,none⟩ (.slice r.aw r.nw r.cw)).setCell ⟨g,1,none⟩ (.int .u64 k.c.sd)).setCell ⟨g,2,none⟩ (.int .i64 k.c.ep)).setCell ⟨g,3,none⟩ (.int .i64 k.c.nu)).setCell ⟨g,4,none⟩ (.int .i64 k.c.de)).setCell ⟨g,5,none⟩ (.slice r.ba r.bn r.bc)).setCell ⟨g,6,none⟩ (.int .i64 r.tick)).setCell ⟨g,7,none⟩ (.slice r.na r.nn r.nc)).setCell ⟨g,8,none⟩ (.slice r.oa r.on r.oc)).setCell ⟨g,9,none⟩ (.slice t.ab t.nb t.cb)).setCell ⟨g,10,none⟩ (.slice t.av t.nv t.cv)).setCell ⟨g,11,none⟩ (.int .i64 0)).setCell ⟨g,12,none⟩ (.bool false)).setCell ⟨g,13,none⟩ (.nilFunc)).setCell ⟨g,14,none⟩ (.int .i64 (r.tick/3))).setCell ⟨g,15,none⟩ (.slice none 0 0)) t (Tp.all k.n)/\_)at V1
 generalize((((((((((((((((W.setCell ⟨g,0,none⟩ (.slice r.aw r.nw r.cw)).setCell ⟨g,1,none⟩ (.int .u64 k.c.sd)).setCell ⟨g,2,none⟩ (.int .i64 k.c.ep)).setCell ⟨g,3,none⟩ (.int .i64 k.c.nu)).setCell ⟨g,4,none⟩ (.int .i64 k.c.de)).setCell ⟨g,5,none⟩ (.slice r.ba r.bn r.bc)).setCell ⟨g,6,none⟩ (.int .i64 r.tick)).setCell ⟨g,7,none⟩ (.slice r.na r.nn r.nc)).setCell ⟨g,8,none⟩ (.slice r.oa r.on r.oc)).setCell ⟨g,9,none⟩ (.slice t.ab t.nb t.cb)).setCell ⟨g,10,none⟩ (.slice t.av t.nv t.cv)).setCell ⟨g,11,none⟩ (.int .i64 0)).setCell ⟨g,12,none⟩ (.bool false)).setCell ⟨g,13,none⟩ (.nilFunc)).setCell ⟨g,14,none⟩ (.int .i64 (r.tick/3))).setCell ⟨g,15,none⟩ (.slice none 0 0))=W1 at T B1 G1 BW1 V1 BF1⊢
 clear T hgg
 have gl1:=(gS G1.out)
 obtain⟨x0,x1,x2,x3,x4⟩:=kc5 BW1.out
 have y14:W1.cell? ⟨g,14,none⟩=some (.int .i64 (r.tick/3)):=cA G1.out 14
 try dsimp only
 go_wp2_with fail
 refine(gA r.aw r.nw r.cw k.c.W k.c.sd k.c.ep k.c.nu k.c.de (r.tick/3) W1 HW.out.conf.len HW.out.conf.max HW.out.conf.seed (HW.out.conf.ints.below B1.out nr)).mono ?_
 rintro e W2 ⟨rfl,hb2⟩
 rw[HWHO.out]
 have G2:=cG hb2 gl1 G1.out
 have BW2:=bK hb2 BW1.out
 have BF2:=bK hb2 BF1.out
 have B2:=bS B1.out hb2
 have V2:=V1.out.1.keep hb2
 have y11:W2.cell? ⟨g,11,none⟩=some (.int .i64 0):=cA G2 11
 have f11:=cH G2 11
 have T:=cM [.int .i64 who] 11 _ _ G2 (by show(12:Nat)<=16;omega)
 have G3:Hid ((W2.setCell ⟨g,11,none⟩ (.int .i64 who)).heap[g]?=some (.cells (rB r k.c t who false .nilFunc (r.tick/3) none 0 0).toArray 67 (0,0))):=zH T.new
 have BW3:Hid ((W2.setCell ⟨g,11,none⟩ (.int .i64 who)).heap[w.heap.size]?=some (.cells (aR r k.c).toArray 32 (0,0))):=zH ((T.block w.heap.size (by omega)).trans BW2)
 have BF3:Hid ((W2.setCell ⟨g,11,none⟩ (.int .i64 who)).heap[w.heap.size+1]?=some (.cells #[.slice none 0 0,.int .u64 0,.int .i64 0,.int .i64 0,.int .i64 0,.slice none 0 0,.int .i64 0,.slice none 0 0,.slice none 0 0,.slice none 0 0,.slice none 0 0,.int .i64 0,.bool false,.nilFunc,.int .i64 0,.slice none 0 0] 67 (0,0))):=zH ((T.block (w.heap.size+1) (by omega)).trans BF2)
 have B3:Hid (Below w.heap.size w (W2.setCell ⟨g,11,none⟩ (.int .i64 who))):=zH (B2.trans (T.below (by omega)))
 have V3:Hid (VwR (W2.setCell ⟨g,11,none⟩ (.int .i64 who)) t (Tp.all k.n)):=zH (V2.keepS (cL T rfl) V1.out.2.1)
 have x5:(W2.setCell ⟨g,11,none⟩ (.int .i64 who)).cell? ⟨w.heap.size,5,none⟩=some (.slice r.ba r.bn r.bc):=cA BW3.out 5
 have z11:(W2.setCell ⟨g,11,none⟩ (.int .i64 who)).cell? ⟨g,11,none⟩=some (.int .i64 who):=cA G3.out 11
 clear G2 BW2 BF2 B2 V2 T hb2 x0 x1 x2 x3 x4 y14
 try dsimp only
 go_wp2_with fail
 refine(bW r.ba r.bn r.bc k.bad who _ (HW.out.bad.below B3.out nr)).mono ?_
 rintro e W4 ⟨rfl,rfl⟩
 rw[HMEAN.out]
 generalize(W2.setCell ⟨g,11,none⟩ (.int .i64 who))=W3 at G3 BW3 BF3 B3 V3 x5 z11⊢
 clear y11 f11 x5 z11
 have y12:W3.cell? ⟨g,12,none⟩=some (.bool false):=cA G3.out 12
 have f12:=cH G3.out 12
 have T:=cM [.bool mean] 12 _ _ G3.out (by show(13:Nat)<=16;omega)
 have G4:Hid ((W3.setCell ⟨g,12,none⟩ (.bool mean)).heap[g]?=some (.cells (rB r k.c t who mean .nilFunc (r.tick/3) none 0 0).toArray 67 (0,0))):=zH T.new
 have BW4:Hid ((W3.setCell ⟨g,12,none⟩ (.bool mean)).heap[w.heap.size]?=some (.cells (aR r k.c).toArray 32 (0,0))):=zH ((T.block w.heap.size (by omega)).trans BW3.out)
 have BF4:Hid ((W3.setCell ⟨g,12,none⟩ (.bool mean)).heap[w.heap.size+1]?=some (.cells #[.slice none 0 0,.int .u64 0,.int .i64 0,.int .i64 0,.int .i64 0,.slice none 0 0,.int .i64 0,.slice none 0 0,.slice none 0 0,.slice none 0 0,.slice none 0 0,.int .i64 0,.bool false,.nilFunc,.int .i64 0,.slice none 0 0] 67 (0,0))):=zH ((T.block (w.heap.size+1) (by omega)).trans BF3.out)
 have B4:Hid (Below w.heap.size w (W3.setCell ⟨g,12,none⟩ (.bool mean))):=zH (B3.out.trans (T.below (by omega)))
 have V4:Hid (VwR (W3.setCell ⟨g,12,none⟩ (.bool mean)) t (Tp.all k.n)):=zH (V3.out.keepS (cL T rfl) V1.out.2.1)
 clear T
 try dsimp only
 go_wp2_with fail
 generalize(W3.setCell ⟨g,12,none⟩ (.bool mean))=W4 at G4 BW4 BF4 B4 V4⊢
 clear y12 f12
 refine(vI 51 #[] #[.pointer (some ⟨w.heap.size,0,none⟩)] (fun p=>decide (p.tick=r.tick)&&decide (0<=p.dest)) a n c (al.map Prod.fst) W4 (HA.out.sl.below B4.out nr) HA.out.bd ⟨fun _ _=>rfl,fun p _ W hb=>aJt w.heap.size r k.c p W (bK hb BW4.out)⟩).mono ?_
 rintro e W5 ⟨v5,rfl,own5,hb5⟩
 rw[<-wS]at own5
 obtain⟨ca,cc,hv5,sl5,-⟩:=own5.sl0 aHt
 have HAF:Hid (iK W5 ca _ cc (al.filter (fun p=>decide (p.1.tick=r.tick)&&decide (0<=p.1.dest)))):=zH ⟨sl5,fun p hp=>(HA.out.vw p (List.mem_filter.1 hp).1).below (bS B4.out hb5) nr,by rw[List.length_map];exact Nat.le_trans (List.length_filter_le _ _) (by rw[HA.out.len];exact HA.out.bd),fun p hp=>HA.out.rng p (List.mem_filter.1 hp).1⟩
 have hca:fR ca ((al.filter (fun p=>decide (p.1.tick=r.tick)&&decide (0<=p.1.dest))).map Prod.fst).length g:=.inr fun b o e=>by
  subst e
  have h1:(v5.ownBlock)=some b:=by rw[hv5];rfl
  have h2:=(own5.lt b h1).1
  have h3:=(gS G4.out)
  omega
 have hca2:fR ca ((al.filter (fun p=>decide (p.1.tick=r.tick)&&decide (0<=p.1.dest))).map Prod.fst).length (w.heap.size+1):=.inr fun b o e=>by
  subst e
  have h1:(v5.ownBlock)=some b:=by rw[hv5];rfl
  have h2:=(own5.lt b h1).1
  have h3:=(gS BF4.out)
  omega
 generalize((al.filter (fun p=>decide (p.1.tick=r.tick)&&decide (0<=p.1.dest))).map Prod.fst).length=cn at hv5 HAF hca hca2
 have HCA:=zH hca
 have HCB:=zH hca2
 subst hv5
 have G5:=bK hb5 G4.out
 have BW5:=bK hb5 BW4.out
 have BF5:=bK hb5 BF4.out
 have B5:=bS B4.out hb5
 have V5:=V4.out.keep hb5
 have y15:W5.cell? ⟨g,15,none⟩=some (.slice none 0 0):=cA G5 15
 have f15:=cH G5 15
 have T:=cM [.slice ca cn cc] 15 _ _ G5 (by show(16:Nat)<=16;omega)
 have G6:Hid ((W5.setCell ⟨g,15,none⟩ (.slice ca cn cc)).heap[g]?=some (.cells (rB r k.c t who mean .nilFunc (r.tick/3) ca cn cc).toArray 67 (0,0))):=zH T.new
 have BW6:Hid ((W5.setCell ⟨g,15,none⟩ (.slice ca cn cc)).heap[w.heap.size]?=some (.cells (aR r k.c).toArray 32 (0,0))):=zH ((T.block w.heap.size (by omega)).trans BW5)
 have BF6:Hid ((W5.setCell ⟨g,15,none⟩ (.slice ca cn cc)).heap[w.heap.size+1]?=some (.cells #[.slice none 0 0,.int .u64 0,.int .i64 0,.int .i64 0,.int .i64 0,.slice none 0 0,.int .i64 0,.slice none 0 0,.slice none 0 0,.slice none 0 0,.slice none 0 0,.int .i64 0,.bool false,.nilFunc,.int .i64 0,.slice none 0 0] 67 (0,0))):=zH ((T.block (w.heap.size+1) (by omega)).trans BF5)
 have B6:Hid (Below w.heap.size w (W5.setCell ⟨g,15,none⟩ (.slice ca cn cc))):=zH (B5.trans (T.below (by omega)))
 have V6:Hid (VwR (W5.setCell ⟨g,15,none⟩ (.slice ca cn cc)) t (Tp.all k.n)):=zH (V5.keepS (cL T rfl) V1.out.2.1)
 have A6:Hid (iK (W5.setCell ⟨g,15,none⟩ (.slice ca cn cc)) ca cn cc _):=zH ⟨HAF.out.sl.keepS (cL T rfl) hca,fun p hp=>(HA.out.vw p (List.mem_filter.1 hp).1).below B6.out nr,HAF.out.bd,HAF.out.rng⟩
 clear T G5 BW5 BF5 B5 V5 own5 sl5 hca hca2 HAF hb5
 obtain⟨W6,hW6⟩:∃z,(W5.setCell ⟨g,15,none⟩ (.slice ca cn cc))=z:=⟨_,rfl⟩
 rw[hW6]at G6 BW6 BF6 B6 V6 A6
 have hal:Below W6.heap.size W6 (W6.alloc (.cells #[.func (.func 52) #[] #[.pointer (some ⟨w.heap.size,0,none⟩)]] 104)):=(Below.refl _ _).alloc nr _
 have g6l:=(gS G6.out)
 have G7:=cG hal g6l G6.out
 have y13:(W6.alloc (.cells #[.func (.func 52) #[] #[.pointer (some ⟨w.heap.size,0,none⟩)]] 104)).cell? ⟨g,13,none⟩=some .nilFunc:=cA G7 13
 have f13:=cH G7 13
 have N7:(W6.alloc (.cells #[.func (.func 52) #[] #[.pointer (some ⟨w.heap.size,0,none⟩)]] 104)).heap[W6.heap.size]?=some (.cells #[.func (.func 52) #[] #[.pointer (some ⟨w.heap.size,0,none⟩)]] 104 (0,0)):=heap_alloc_new W6 _
 have T:=cM [.func (.func 53) #[] #[.pointer (some ⟨W6.heap.size,0,none⟩),.pointer (some ⟨g,0,none⟩)]] 13 _ _ G7 (by show(14:Nat)<=16;omega)
 have G8:Hid (((W6.alloc (.cells #[.func (.func 52) #[] #[.pointer (some ⟨w.heap.size,0,none⟩)]] 104)).setCell ⟨g,13,none⟩ (.func (.func 53) #[] #[.pointer (some ⟨W6.heap.size,0,none⟩),.pointer (some ⟨g,0,none⟩)])).heap[g]?=some (.cells (rB r k.c t who mean (.func (.func 53) #[] #[.pointer (some ⟨W6.heap.size,0,none⟩),.pointer (some ⟨g,0,none⟩)]) (r.tick/3) ca cn cc).toArray 67 (0,0))):=zH T.new
 have BW8:Hid (((W6.alloc (.cells #[.func (.func 52) #[] #[.pointer (some ⟨w.heap.size,0,none⟩)]] 104)).setCell ⟨g,13,none⟩ (.func (.func 53) #[] #[.pointer (some ⟨W6.heap.size,0,none⟩),.pointer (some ⟨g,0,none⟩)])).heap[w.heap.size]?=some (.cells (aR r k.c).toArray 32 (0,0))):=zH ((T.block w.heap.size (by omega)).trans (bK hal BW6.out))
 have BF8:Hid (((W6.alloc (.cells #[.func (.func 52) #[] #[.pointer (some ⟨w.heap.size,0,none⟩)]] 104)).setCell ⟨g,13,none⟩ (.func (.func 53) #[] #[.pointer (some ⟨W6.heap.size,0,none⟩),.pointer (some ⟨g,0,none⟩)])).heap[w.heap.size+1]?=some (.cells #[.slice none 0 0,.int .u64 0,.int .i64 0,.int .i64 0,.int .i64 0,.slice none 0 0,.int .i64 0,.slice none 0 0,.slice none 0 0,.slice none 0 0,.slice none 0 0,.int .i64 0,.bool false,.nilFunc,.int .i64 0,.slice none 0 0] 67 (0,0))):=zH ((T.block (w.heap.size+1) (by omega)).trans (bK hal BF6.out))
 have N8:Hid (((W6.alloc (.cells #[.func (.func 52) #[] #[.pointer (some ⟨w.heap.size,0,none⟩)]] 104)).setCell ⟨g,13,none⟩ (.func (.func 53) #[] #[.pointer (some ⟨W6.heap.size,0,none⟩),.pointer (some ⟨g,0,none⟩)])).heap[W6.heap.size]?=some (.cells #[.func (.func 52) #[] #[.pointer (some ⟨w.heap.size,0,none⟩)]] 104 (0,0))):=zH ((T.block W6.heap.size (by omega)).trans N7)
 have B8:Hid (Below w.heap.size w ((W6.alloc (.cells #[.func (.func 52) #[] #[.pointer (some ⟨w.heap.size,0,none⟩)]] 104)).setCell ⟨g,13,none⟩ (.func (.func 53) #[] #[.pointer (some ⟨W6.heap.size,0,none⟩),.pointer (some ⟨g,0,none⟩)]))):=zH ((bS B6.out hal).trans (T.below (by omega)))
 have V8:Hid (VwR ((W6.alloc (.cells #[.func (.func 52) #[] #[.pointer (some ⟨w.heap.size,0,none⟩)]] 104)).setCell ⟨g,13,none⟩ (.func (.func 53) #[] #[.pointer (some ⟨W6.heap.size,0,none⟩),.pointer (some ⟨g,0,none⟩)])) t (Tp.all k.n)):=zH ((V6.out.keep hal).keepS (cL T rfl) V1.out.2.1)
 have A8:Hid (iK ((W6.alloc (.cells #[.func (.func 52) #[] #[.pointer (some ⟨w.heap.size,0,none⟩)]] 104)).setCell ⟨g,13,none⟩ (.func (.func 53) #[] #[.pointer (some ⟨W6.heap.size,0,none⟩),.pointer (some ⟨g,0,none⟩)])) ca cn cc _):=zH ⟨(A6.out.sl.keep hal).keepS (cL T rfl) HCA.out,fun p hp=>(HA.out.vw p (List.mem_filter.1 hp).1).below B8.out nr,A6.out.bd,A6.out.rng⟩
 clear T
 obtain⟨W8,hW8⟩:∃z,((W6.alloc (.cells #[.func (.func 52) #[] #[.pointer (some ⟨w.heap.size,0,none⟩)]] 104)).setCell ⟨g,13,none⟩ (.func (.func 53) #[] #[.pointer (some ⟨W6.heap.size,0,none⟩),.pointer (some ⟨g,0,none⟩)]))=z:=⟨_,rfl⟩
 rw[hW8]at G8 BW8 BF8 N8 B8 V8 A8
 obtain⟨c0,c1,c2,c3,c4,c5,c6,c7,c8,c9,c10,c11,c12,c13,c14,c15⟩:=kc16 G8.out
 obtain⟨o0,o1,o2,o3,o4,o5,o6,o7,o8,o9,o10,o11,o12,o13,o14,o15⟩:=kc16 BF8.out
 obtain⟨p0,p1,p2,p3,p4,p5,p6,p7,p8,p9,p10,p11,p12,p13,p14,p15⟩:=kf16 BF8.out
 clear G7 N7 hal
 try dsimp only
 go_wp2_with fail
 have T9:=cM [.slice r.aw r.nw r.cw,.int .u64 k.c.sd,.int .i64 k.c.ep,.int .i64 k.c.nu,.int .i64 k.c.de,.slice r.ba r.bn r.bc,.int .i64 r.tick,.slice r.na r.nn r.nc,.slice r.oa r.on r.oc,.slice t.ab t.nb t.cb,.slice t.av t.nv t.cv,.int .i64 who,.bool mean,.func (.func 53) #[] #[.pointer (some ⟨W6.heap.size,0,none⟩),.pointer (some ⟨g,0,none⟩)],.int .i64 (r.tick/3),.slice ca cn cc] 0 _ _ BF8.out (by show(16:Nat)<=16;omega)
 have N9:Hid (((((((((((((((((W8.setCell ⟨w.heap.size+1,0,none⟩ (.slice r.aw r.nw r.cw)).setCell ⟨w.heap.size+1,1,none⟩ (.int .u64 k.c.sd)).setCell ⟨w.heap.size+1,2,none⟩ (.int .i64 k.c.ep)).setCell ⟨w.heap.size+1,3,none⟩ (.int .i64 k.c.nu)).setCell ⟨w.heap.size+1,4,none⟩ (.int .i64 k.c.de)).setCell ⟨w.heap.size+1,5,none⟩ (.slice r.ba r.bn r.bc)).setCell ⟨w.heap.size+1,6,none⟩ (.int .i64 r.tick)).setCell ⟨w.heap.size+1,7,none⟩ (.slice r.na r.nn r.nc)).setCell ⟨w.heap.size+1,8,none⟩ (.slice r.oa r.on r.oc)).setCell ⟨w.heap.size+1,9,none⟩ (.slice t.ab t.nb t.cb)).setCell ⟨w.heap.size+1,10,none⟩ (.slice t.av t.nv t.cv)).setCell ⟨w.heap.size+1,11,none⟩ (.int .i64 who)).setCell ⟨w.heap.size+1,12,none⟩ (.bool mean)).setCell ⟨w.heap.size+1,13,none⟩ (.func (.func 53) #[] #[.pointer (some ⟨W6.heap.size,0,none⟩),.pointer (some ⟨g,0,none⟩)])).setCell ⟨w.heap.size+1,14,none⟩ (.int .i64 (r.tick/3))).setCell ⟨w.heap.size+1,15,none⟩ (.slice ca cn cc)).heap[w.heap.size+1]?=some (.cells #[.slice r.aw r.nw r.cw,.int .u64 k.c.sd,.int .i64 k.c.ep,.int .i64 k.c.nu,.int .i64 k.c.de,.slice r.ba r.bn r.bc,.int .i64 r.tick,.slice r.na r.nn r.nc,.slice r.oa r.on r.oc,.slice t.ab t.nb t.cb,.slice t.av t.nv t.cv,.int .i64 who,.bool mean,.func (.func 53) #[] #[.pointer (some ⟨W6.heap.size,0,none⟩),.pointer (some ⟨g,0,none⟩)],.int .i64 (r.tick/3),.slice ca cn cc] 67 (0,0))):=zH T9.new
 have hwl:=(gS BW8.out)
 have HF:Hid (oZ ((((((((((((((((W8.setCell ⟨w.heap.size+1,0,none⟩ (.slice r.aw r.nw r.cw)).setCell ⟨w.heap.size+1,1,none⟩ (.int .u64 k.c.sd)).setCell ⟨w.heap.size+1,2,none⟩ (.int .i64 k.c.ep)).setCell ⟨w.heap.size+1,3,none⟩ (.int .i64 k.c.nu)).setCell ⟨w.heap.size+1,4,none⟩ (.int .i64 k.c.de)).setCell ⟨w.heap.size+1,5,none⟩ (.slice r.ba r.bn r.bc)).setCell ⟨w.heap.size+1,6,none⟩ (.int .i64 r.tick)).setCell ⟨w.heap.size+1,7,none⟩ (.slice r.na r.nn r.nc)).setCell ⟨w.heap.size+1,8,none⟩ (.slice r.oa r.on r.oc)).setCell ⟨w.heap.size+1,9,none⟩ (.slice t.ab t.nb t.cb)).setCell ⟨w.heap.size+1,10,none⟩ (.slice t.av t.nv t.cv)).setCell ⟨w.heap.size+1,11,none⟩ (.int .i64 who)).setCell ⟨w.heap.size+1,12,none⟩ (.bool mean)).setCell ⟨w.heap.size+1,13,none⟩ (.func (.func 53) #[] #[.pointer (some ⟨W6.heap.size,0,none⟩),.pointer (some ⟨g,0,none⟩)])).setCell ⟨w.heap.size+1,14,none⟩ (.int .i64 (r.tick/3))).setCell ⟨w.heap.size+1,15,none⟩ (.slice ca cn cc)) w.heap.size r k al w.heap.size W6.heap.size g t ca cn cc _/\Below w.heap.size w ((((((((((((((((W8.setCell ⟨w.heap.size+1,0,none⟩ (.slice r.aw r.nw r.cw)).setCell ⟨w.heap.size+1,1,none⟩ (.int .u64 k.c.sd)).setCell ⟨w.heap.size+1,2,none⟩ (.int .i64 k.c.ep)).setCell ⟨w.heap.size+1,3,none⟩ (.int .i64 k.c.nu)).setCell ⟨w.heap.size+1,4,none⟩ (.int .i64 k.c.de)).setCell ⟨w.heap.size+1,5,none⟩ (.slice r.ba r.bn r.bc)).setCell ⟨w.heap.size+1,6,none⟩ (.int .i64 r.tick)).setCell ⟨w.heap.size+1,7,none⟩ (.slice r.na r.nn r.nc)).setCell ⟨w.heap.size+1,8,none⟩ (.slice r.oa r.on r.oc)).setCell ⟨w.heap.size+1,9,none⟩ (.slice t.ab t.nb t.cb)).setCell ⟨w.heap.size+1,10,none⟩ (.slice t.av t.nv t.cv)).setCell ⟨w.heap.size+1,11,none⟩ (.int .i64 who)).setCell ⟨w.heap.size+1,12,none⟩ (.bool mean)).setCell ⟨w.heap.size+1,13,none⟩ (.func (.func 53) #[] #[.pointer (some ⟨W6.heap.size,0,none⟩),.pointer (some ⟨g,0,none⟩)])).setCell ⟨w.heap.size+1,14,none⟩ (.int .i64 (r.tick/3))).setCell ⟨w.heap.size+1,15,none⟩ (.slice ca cn cc))):=zH ⟨⟨⟨(T9.block w.heap.size (by omega)).trans BW8.out,(T9.block W6.heap.size (by omega)).trans N8.out,⟨_,_,_,_,_,_,_,(T9.block g (by omega)).trans G8.out⟩,(HW.out.bad.below B8.out nr).keepS (cL T9 rfl) ((HW.out.bad.away (by omega))),V8.out.keepS (cL T9 rfl) (V1.out.2.2.off (by omega))⟩,⟨A8.out.sl.keepS (cL T9 rfl) HCB.out,fun p hp=>((HA.out.vw p (List.mem_filter.1 hp).1).below B8.out nr).keepS (cL T9 rfl) ((HA.out.vw p (List.mem_filter.1 hp).1).away (by omega)),A8.out.bd,A8.out.rng⟩,HCL.out⟩,B8.out.trans (T9.below (by omega))⟩
 clear T9
 generalize((((((((((((((((W8.setCell ⟨w.heap.size+1,0,none⟩ (.slice r.aw r.nw r.cw)).setCell ⟨w.heap.size+1,1,none⟩ (.int .u64 k.c.sd)).setCell ⟨w.heap.size+1,2,none⟩ (.int .i64 k.c.ep)).setCell ⟨w.heap.size+1,3,none⟩ (.int .i64 k.c.nu)).setCell ⟨w.heap.size+1,4,none⟩ (.int .i64 k.c.de)).setCell ⟨w.heap.size+1,5,none⟩ (.slice r.ba r.bn r.bc)).setCell ⟨w.heap.size+1,6,none⟩ (.int .i64 r.tick)).setCell ⟨w.heap.size+1,7,none⟩ (.slice r.na r.nn r.nc)).setCell ⟨w.heap.size+1,8,none⟩ (.slice r.oa r.on r.oc)).setCell ⟨w.heap.size+1,9,none⟩ (.slice t.ab t.nb t.cb)).setCell ⟨w.heap.size+1,10,none⟩ (.slice t.av t.nv t.cv)).setCell ⟨w.heap.size+1,11,none⟩ (.int .i64 who)).setCell ⟨w.heap.size+1,12,none⟩ (.bool mean)).setCell ⟨w.heap.size+1,13,none⟩ (.func (.func 53) #[] #[.pointer (some ⟨W6.heap.size,0,none⟩),.pointer (some ⟨g,0,none⟩)])).setCell ⟨w.heap.size+1,14,none⟩ (.int .i64 (r.tick/3))).setCell ⟨w.heap.size+1,15,none⟩ (.slice ca cn cc))=W9 at N9 HF⊢
 have d0:=N9.out
 obtain⟨e0,e1,e2,e3,e4,e5,e6,e7,e8,e9,e10,e11,e12,e13,e14,e15⟩:=kc16 d0
 clear d0
 refine bodyPost_ret (v:=.agg #[.slice r.aw r.nw r.cw,.int .u64 k.c.sd,.int .i64 k.c.ep,.int .i64 k.c.nu,.int .i64 k.c.de,.slice r.ba r.bn r.bc,.int .i64 r.tick,.slice r.na r.nn r.nc,.slice r.oa r.on r.oc,.slice t.ab t.nb t.cb,.slice t.av t.nv t.cv,.int .i64 who,.bool mean,.func (.func 53) #[] #[.pointer (some ⟨W6.heap.size,0,none⟩),.pointer (some ⟨g,0,none⟩)],.int .i64 (r.tick/3),.slice ca cn cc]) ?_ rfl ⟨w.heap.size,W6.heap.size,g,t,ca,cn,cc,_,rfl,HF.out.1,HF.out.2⟩
 simp[results,Tryz.results27,go_sem,e0,e1,e2,e3,e4,e5,e6,e7,e8,e9,e10,e11,e12,e13,e14,e15]
structure TmR (w1:World) (lo:List RO) (al:Option Nat) (cv:Option Value) (W:World):Prop where
 bel:Below w1.heap.size w1 W
 aa:∀g,al=some g->W.heap[g]?=some (.cells (m18) 38 (0,0))/\w1.heap.size<=g
 cl:∀v,cv=some v->OwnL offC 9 112 W w1.heap.size v lo/\∀g,al=some g->v.ownBlock≠some g
section
variable {w1 W W':World}{lo:List RO}{al:Option Nat}{cv:Option Value}
theorem TmR.start :TmR w1 lo none none w1.drew:=⟨(Below.refl _ _).drew,fun _ h=>(by cases h),fun _ h=>(by cases h)⟩
theorem TmR.keep (h:TmR w1 lo al cv W)(hb:Below W.heap.size W W'):TmR w1 lo al cv W':=
 ⟨bS h.bel hb,fun g he=>⟨cG hb (gS (h.aa g he).1) (h.aa g he).1,(h.aa g he).2⟩,fun v e=>⟨(h.cl v e).1.keep hb,(h.cl v e).2⟩⟩
theorem TmR.m (h:TmR w1 lo none cv W):TmR w1 lo (some W.heap.size) cv (W.alloc (m56)):=by
 have hb:=(Below.refl W.heap.size W).alloc nr (m56)
 refine⟨bS h.bel hb,fun g he=>?_,fun v e=>⟨(h.cl v e).1.keep hb,fun g he hv=>?_⟩⟩
 ·cases he
  exact⟨heap_alloc_new W _,h.bel.size⟩
 ·cases he
  have:=((h.cl v e).1.lt _ hv).2
  omega
theorem TmR.call {v:Value}(h:TmR w1 lo al none W)(hb:Below W.heap.size W W')(hv:OwnL offC 9 112 W' W.heap.size v lo):TmR w1 lo al (some v) W':=
 ⟨(h.keep hb).bel,(h.keep hb).aa,fun v' e=>by
  cases e
  refine⟨hv.lower h.bel.size,fun g he hg=>?_⟩
  have h1:=(hv.lt g hg).1
  have h2:=(gS (h.aa g he).1)
  omega⟩
end
abbrev tmO0 :Oper:=⟨some 11,.fieldAddr 67 (.tmp 2) 1,0,"play.go:77",#[],none⟩
abbrev tmO1 :Oper:=⟨some 12,.load 38 (.tmp 11),38,"play.go:77",#[⟨0,.data⟩],none⟩
abbrev tmO2 :Oper:=⟨some 13,.fieldAddr 67 (.tmp 2) 0,0,"play.go:77",#[],none⟩
abbrev tmO3 :Oper:=⟨some 14,.fieldAddr 32 (.tmp 13) 4,0,"play.go:77",#[⟨2,.data⟩],none⟩
abbrev tmO4 :Oper:=⟨some 15,.load 30 (.tmp 14),30,"play.go:77",#[⟨3,.data⟩],none⟩
abbrev tmO5 :Oper:=⟨some 16,.call ⟨.value (.func 60),#[.tmp 15],#[30]⟩,30,"play.go:77",#[⟨4,.data⟩],none⟩
abbrev tmO6 :Oper:=⟨some 6,.alloc 38,0,"play.go:77",#[],none⟩
abbrev tmO7 :Oper:=⟨none,.store 38 (.tmp 6) (.tmp 12),0,"play.go:77",#[⟨6,.data⟩,⟨1,.data⟩,⟨5,.chain⟩,⟨0,.phase⟩,⟨1,.phase⟩,⟨2,.textOnly .lateStores⟩,⟨3,.textOnly .lateStores⟩,⟨4,.textOnly .lateStores⟩,⟨5,.textOnly .lateStoresUnsure⟩,⟨6,.phase⟩],none⟩
abbrev tmO8 :Oper:=⟨some 7,.assign (.tmp 16),30,"play.go:77",#[⟨5,.data⟩,⟨7,.chain⟩,⟨0,.phase⟩,⟨1,.phase⟩,⟨2,.phase⟩,⟨3,.phase⟩,⟨4,.phase⟩,⟨5,.phase⟩,⟨6,.phase⟩,⟨7,.phase⟩],none⟩
abbrev aBh :Array Oper:=#[tmO0,tmO1,tmO2,tmO3,tmO4,tmO5,tmO6,tmO7,tmO8]
abbrev tmSL (M M2:Nat) (r:RW) (ra:RV) (lo:List RO) (u0 u1 u3:Value) (w1:World):List (Nat×(World->Prop)):=[(1,fun W=>W.cell? ⟨M,9,none⟩=some (.slice ra.ab ra.nb ra.cb)/\W.cell? ⟨M,10,none⟩=some (.slice ra.av ra.nv ra.cv)),(4,fun W=>W.cell? (m60 M)=some (.slice r.oa r.on r.oc))]
structure tmP (Q:Exit->Act->World->Prop) (M M2:Nat) (r:RW) (ra:RV) (lo:List RO) (u0 u1 u3:Value) (w1:World):Prop where
 hQp:∀(c:_) (a:Act) (d:Option Tmp) (v:Value) (w:World),Q (.panic c) (a.put d v) w->Q (.panic c) a w
 HO:Hid (SlV offC 9 w1 r.oa r.on r.oc lo/\r.on<=1000000/\(r.oa=none->r.on=0/\r.oc=0))
 hc:∀W:World,Below w1.heap.size w1 W->(W.cell? ⟨M,9,none⟩=some (.slice ra.ab ra.nb ra.cb)/\W.cell? ⟨M,10,none⟩=some (.slice ra.av ra.nv ra.cv))/\(W.cell? (m60 M)=some (.slice r.oa r.on r.oc))
 hQ:∀g v W,TmR w1 lo (some g) (some v) W->Q .normal { tmps:=#[u0,u1,.pointer (some (m00 M)),u3,.pointer (some (m00 M2)),.slice none 0 0,.pointer (some (m00 g)),v,undef,undef,undef,.pointer (some ⟨M,9,none⟩),.agg (m01 ra),.pointer (some (m00 M)),.pointer (some (m60 M)),.slice r.oa r.on r.oc,v,undef,undef,undef,undef,undef,undef,undef,undef,undef,undef,undef,undef,undef,undef,undef,undef,undef,undef,undef,undef,undef,undef,undef,undef,undef,undef,undef,undef,undef,undef,undef,undef,undef,undef,undef,undef,undef,undef,undef,undef,undef,undef,undef,undef,undef,undef,undef,undef,undef,undef,undef,undef,undef,undef],defers:=[] } ((W.setCell (m00 g) (m41 ra)).setCell (m15 g) (m42 ra))
section
variable {Q:Exit->Act->World->Prop}{M M2:Nat}{r:RW}{ra:RV}{lo:List RO}{u0 u1 u3:Value}{w1:World}
theorem aBg (PP:tmP Q M M2 r ra lo u0 u1 u3 w1)(v:Value)(g:Nat)(W:World)(hR:TmR w1 lo (some g) (some v) W):
  aB Tryz.prog .any aBh Q (tmSL M M2 r ra lo u0 u1 u3 w1) 2 #[true,true,true,true,true,true,true,false,false] { tmps:=#[u0,u1,.pointer (some (m00 M)),u3,.pointer (some (m00 M2)),.slice none 0 0,.pointer (some (m00 g)),undef,undef,undef,undef,.pointer (some ⟨M,9,none⟩),.agg (m01 ra),.pointer (some (m00 M)),.pointer (some (m60 M)),.slice r.oa r.on r.oc,v,undef,undef,undef,undef,undef,undef,undef,undef,undef,undef,undef,undef,undef,undef,undef,undef,undef,undef,undef,undef,undef,undef,undef,undef,undef,undef,undef,undef,undef,undef,undef,undef,undef,undef,undef,undef,undef,undef,undef,undef,undef,undef,undef,undef,undef,undef,undef,undef,undef,undef,undef,undef,undef,undef],defers:=[] } W:=by
 obtain⟨hQp,HO,hc,hQ⟩:=PP
 refine cK 7 (by kernel_rfl) rfl (fun K hK=>?_)
 have hgg:=(hR.aa _ rfl).1
 have c0:=cA hgg 0;have f0:=cH hgg 0
 have c1:=cA hgg 1;have f1:=cH hgg 1
 have h12:=hc _ (((hR.bel.setCell (p:=(m00 g)) (hR.aa _ rfl).2 (m41 ra)).setCell (p:=(m15 g)) (hR.aa _ rfl).2 (m42 ra)))
 clear hgg
 go_simp
 refine hK.out _ _ ?_ ?_
 ·exact(hl2 h12)
 clear hK K
 try simp only[Act.put,pA,pB,pC]
 refine wI0 8 (oi:=tmO8) (v:=?_) rfl ?_ ?_ (hQ:=by exact fun _ _ _ h=>hQp _ _ _ _ _ h)
 rotate_left
 ·intro w' _;go_simp;try with_reducible rfl
 try simp only[Act.put,pA,pB,pC]
 refine cO (by kernel_rfl) ?_ _
 exact hQ g v W hR
theorem aNc (PP:tmP Q M M2 r ra lo u0 u1 u3 w1)(v:Value)(W:World)(hR:TmR w1 lo none (some v) W):
  aB Tryz.prog .any aBh Q (tmSL M M2 r ra lo u0 u1 u3 w1) 3 #[true,true,true,true,true,true,false,false,false] { tmps:=#[u0,u1,.pointer (some (m00 M)),u3,.pointer (some (m00 M2)),.slice none 0 0,undef,undef,undef,undef,undef,.pointer (some ⟨M,9,none⟩),.agg (m01 ra),.pointer (some (m00 M)),.pointer (some (m60 M)),.slice r.oa r.on r.oc,v,undef,undef,undef,undef,undef,undef,undef,undef,undef,undef,undef,undef,undef,undef,undef,undef,undef,undef,undef,undef,undef,undef,undef,undef,undef,undef,undef,undef,undef,undef,undef,undef,undef,undef,undef,undef,undef,undef,undef,undef,undef,undef,undef,undef,undef,undef,undef,undef,undef,undef,undef,undef,undef,undef],defers:=[] } W:=by
 obtain⟨hQp,HO,hc,hQ⟩:=PP
 refine cJ [6] (by kernel_rfl) (by simp) ?_
 refine cD 6 rfl (fun K hK=>?_) ?_
 ·go_simp
  have hR2:=hR.m
  replace hR:=hR2
  clear hR2
  refine hK.out _ _ ?_ ?_
  ·exact(hl2 (hc _ (hR.bel)))
  clear hK K
  try simp only[Act.put,pA,pB,pC]
  exact aBg ⟨hQp,HO,hc,hQ⟩ v _ _ hR
 exact cE
theorem aNb (PP:tmP Q M M2 r ra lo u0 u1 u3 w1)(g:Nat)(W:World)(hR:TmR w1 lo (some g) none W):
  aB Tryz.prog .any aBh Q (tmSL M M2 r ra lo u0 u1 u3 w1) 3 #[true,true,true,true,true,false,true,false,false] { tmps:=#[u0,u1,.pointer (some (m00 M)),u3,.pointer (some (m00 M2)),.slice none 0 0,.pointer (some (m00 g)),undef,undef,undef,undef,.pointer (some ⟨M,9,none⟩),.agg (m01 ra),.pointer (some (m00 M)),.pointer (some (m60 M)),.slice r.oa r.on r.oc,undef,undef,undef,undef,undef,undef,undef,undef,undef,undef,undef,undef,undef,undef,undef,undef,undef,undef,undef,undef,undef,undef,undef,undef,undef,undef,undef,undef,undef,undef,undef,undef,undef,undef,undef,undef,undef,undef,undef,undef,undef,undef,undef,undef,undef,undef,undef,undef,undef,undef,undef,undef,undef,undef,undef],defers:=[] } W:=by
 obtain⟨hQp,HO,hc,hQ⟩:=PP
 refine cJ [5] (by kernel_rfl) (by simp) ?_
 refine cD 5 rfl (fun K hK=>?_) ?_
 ·go_simp
  refine(jS r.oa r.on r.oc lo W (HO.out.1.below hR.bel nr) HO.out.2.1 HO.out.2.2).mono ?_;rintro e W2 ⟨v,rfl,own,hb⟩
  have hR2:=hR.call hb own
  replace hR:=hR2
  clear hR2 hb own
  refine hK.out _ _ ?_ ?_
  ·exact(hl2 (hc _ (hR.bel)))
  clear hK K
  try simp only[Act.put,pA,pB,pC]
  exact aBg ⟨hQp,HO,hc,hQ⟩ v g _ hR
 exact cE
theorem tm_ (PP:tmP Q M M2 r ra lo u0 u1 u3 w1)(W:World)(hR:TmR w1 lo none none W):
  aB Tryz.prog .any aBh Q (tmSL M M2 r ra lo u0 u1 u3 w1) 4 #[true,true,true,true,true,false,false,false,false] { tmps:=#[u0,u1,.pointer (some (m00 M)),u3,.pointer (some (m00 M2)),.slice none 0 0,undef,undef,undef,undef,undef,.pointer (some ⟨M,9,none⟩),.agg (m01 ra),.pointer (some (m00 M)),.pointer (some (m60 M)),.slice r.oa r.on r.oc,undef,undef,undef,undef,undef,undef,undef,undef,undef,undef,undef,undef,undef,undef,undef,undef,undef,undef,undef,undef,undef,undef,undef,undef,undef,undef,undef,undef,undef,undef,undef,undef,undef,undef,undef,undef,undef,undef,undef,undef,undef,undef,undef,undef,undef,undef,undef,undef,undef,undef,undef,undef,undef,undef,undef],defers:=[] } W:=by
 obtain⟨hQp,HO,hc,hQ⟩:=PP
 refine cJ [5,6] (by kernel_rfl) (by simp) ?_
 refine cD 5 rfl (fun K hK=>?_) ?_
 ·go_simp
  refine(jS r.oa r.on r.oc lo W (HO.out.1.below hR.bel nr) HO.out.2.1 HO.out.2.2).mono ?_;rintro e W2 ⟨v,rfl,own,hb⟩
  have hR2:=hR.call hb own
  replace hR:=hR2
  clear hR2 hb own
  refine hK.out _ _ ?_ ?_
  ·exact(hl2 (hc _ (hR.bel)))
  clear hK K
  try simp only[Act.put,pA,pB,pC]
  exact aNc ⟨hQp,HO,hc,hQ⟩ v _ hR
 refine cD 6 rfl (fun K hK=>?_) ?_
 ·go_simp
  have hR2:=hR.m
  replace hR:=hR2
  clear hR2
  refine hK.out _ _ ?_ ?_
  ·exact(hl2 (hc _ (hR.bel)))
  clear hK K
  try simp only[Act.put,pA,pB,pC]
  exact aNb ⟨hQp,HO,hc,hQ⟩ _ _ hR
 exact cE
theorem aBf (PP:tmP Q M M2 r ra lo u0 u1 u3 w1)(hR:TmR w1 lo none none w1.drew):(Code.region 1 aBh true).wp Tryz.prog Q { tmps:=#[u0,u1,.pointer (some (m00 M)),u3,.pointer (some (m00 M2)),.slice none 0 0,undef,undef,undef,undef,undef,undef,undef,undef,undef,undef,undef,undef,undef,undef,undef,undef,undef,undef,undef,undef,undef,undef,undef,undef,undef,undef,undef,undef,undef,undef,undef,undef,undef,undef,undef,undef,undef,undef,undef,undef,undef,undef,undef,undef,undef,undef,undef,undef,undef,undef,undef,undef,undef,undef,undef,undef,undef,undef,undef,undef,undef,undef,undef,undef,undef],defers:=[] } w1:=by
 obtain⟨hQp,HO,hc,hQ⟩:=PP
 refine cN (tmSL M M2 r ra lo u0 u1 u3 w1) (by kernel_rfl) ?_
 generalize w1.drew=W at hR⊢
 show aB _ _ _ _ _ 9 #[false,false,false,false,false,false,false,false,false] _ _
 refine wI0 0 (oi:=tmO0) (v:=?_) rfl ?_ ?_ (hQ:=by exact fun _ _ _ h=>hQp _ _ _ _ _ h)
 rotate_left
 ·intro w' _;go_simp;try with_reducible rfl
 try simp only[Act.put,pA,pB,pC]
 refine wIL 0 1 (oi:=tmO1) (v:=?_) rfl rfl ?_ ?_ ?_ (hQ:=by exact fun _ _ _ h=>hQp _ _ _ _ _ h)
 rotate_left
 ·intro w' hSw;(try dsimp only at hSw);go_simp;try with_reducible rfl
 ·exact(hc _ hR.bel).1
 try simp only[Act.put,pA,pB,pC]
 refine wI0 2 (oi:=tmO2) (v:=?_) rfl ?_ ?_ (hQ:=by exact fun _ _ _ h=>hQp _ _ _ _ _ h)
 rotate_left
 ·intro w' _;go_simp;try with_reducible rfl
 try simp only[Act.put,pA,pB,pC]
 refine wI0 3 (oi:=tmO3) (v:=?_) rfl ?_ ?_ (hQ:=by exact fun _ _ _ h=>hQp _ _ _ _ _ h)
 rotate_left
 ·intro w' _;go_simp;try with_reducible rfl
 try simp only[Act.put,pA,pB,pC]
 refine wIL 1 4 (oi:=tmO4) (v:=?_) rfl rfl ?_ ?_ ?_ (hQ:=by exact fun _ _ _ h=>hQp _ _ _ _ _ h)
 rotate_left
 ·intro w' hSw;(try dsimp only at hSw);go_simp;try with_reducible rfl
 ·exact(hc _ hR.bel).2
 try simp only[Act.put,pA,pB,pC]
 exact tm_ ⟨hQp,HO,hc,hQ⟩ _ hR
end
theorem OwnL.turnNe {α:Type}{f:α->List Value}{q:Nat}{e:TypeId}{w w':World}{base B:Nat}{o:Obj}{v:Value}{l:List α}(h:OwnL f q e w base v l)(ht:cT B o w w')(hB:v.ownBlock≠some B):OwnL f q e w' base v l:=
 ⟨h.1,h.2.imp id (fun⟨g,cap,cur,hv,hg,hh,r⟩=>⟨g,cap,cur,hv,hg,(ht.block g (fun e=>hB (by rw[hv,<-e];rfl))).trans hh,r⟩)⟩
structure ToR (N1:Nat) (w2:World) (X6:Nat) (io:Tp.Vw×List Tp.Off) (t:RV) (v:Value) (ol:List (RO×Tp.Vw)) (wr:World):Prop where
 bel:Below w2.heap.size w2 wr
 box:wr.heap[X6]?=some (.cells (m01 t) 38 (0,0))
 x6:w2.heap.size<=X6
 vw:VwR wr t io.1
 toff:t.Off X6
 own:OwnL offC 9 112 wr w2.heap.size v (ol.map Prod.fst)
 ne6:v.ownBlock≠some X6
 olv:∀p∈ol,VwR wr p.1.v p.2/\p.1.b.U/\p.1.v.Off X6
 sep:∀g,v.ownBlock=some g->t.Off g/\∀p∈ol,p.1.v.Off g
 eq:io.2=ol.map aS
 n1:t.Off N1/\(∀p∈ol,p.1.v.Off N1)/\N1<w2.heap.size
theorem aHq (x:Int)(h0:0<=x)(h1:x<=9223372036854775807):bits BinOp.and IntKind.i64 x 1=x%2:=by
 have h:=bits_mask .i64 63 (by decide) (fun n h0 h1=>by rw[IntKind.wrap_i64];omega) 1 (by decide) x h0 (by omega)
 simpa using h
theorem aHp (d:Int)(i:Nat)(h0:0<=d)(h1:d<=9223372036854775807):(bits BinOp.and IntKind.i64 (d/2 ^ i) 1==0)=!Tp.pX d i:=by
 have h2:0<=d/2 ^ i:=Int.ediv_nonneg h0 (Int.le_of_lt (Int.pow_pos (by omega)))
 have h3:d/2 ^ i<=d:=Int.ediv_le_self _ h0
 rw[aHq _ h2 (by omega)]
 unfold Tp.pX
 by_cases h:d/2 ^ i%2=0
 ·simp[h]
 ·simp[h]
theorem aBe (k:Tp.Wd)(i:Nat)(io:Tp.Vw×List Tp.Off)(a:Tp.Ac):(Tp.dH k i io a).2.length<=io.2.length+1:=by
 unfold Tp.dH
 repeat' split
 all_goals simp
theorem pM (k:Tp.Wd)(i:Nat):∀(l:List Tp.Ac) (io:Tp.Vw×List Tp.Off),(l.foldl (Tp.dH k i) io).2.length<=io.2.length+l.length
 | [],_=>Nat.le_refl _
 |a::r,io=>by
  have h1:=pM k i r (Tp.dH k i io a)
  have h2:=aBe k i io a
  rw[List.foldl_cons,List.length_cons]
  omega
section
variable {N1:Nat}{w2 wr w':World}{X6:Nat}{io:Tp.Vw×List Tp.Off}{t:RV}{v:Value}{ol:List (RO×Tp.Vw)}
theorem ToR.keep (h:ToR N1 w2 X6 io t v ol wr)(hb:Below wr.heap.size wr w'):ToR N1 w2 X6 io t v ol w':=
 ⟨bS h.bel hb,bK hb h.box,h.x6,h.vw.keep hb,h.toff,h.own.keep hb,h.ne6,fun p hp=>⟨(h.olv p hp).1.keep hb,(h.olv p hp).2⟩,h.sep,h.eq,h.n1⟩
theorem ToR.store (h:ToR N1 w2 X6 io t v ol wr){N:Nat}{u:RV}{y:Tp.Vw}(hu:VwR wr u y)(hn:u.New N)(hN:X6<N/\∀g,v.ownBlock=some g->g<N):
  ToR N1 w2 X6 (y,io.2) u v ol ((wr.setCell (m00 X6) (m41 u)).setCell (m15 X6) (m42 u)):=by
 have ho:=hn.off hN.1
 have T:=set2 wr X6 _ _ (m41 u) (m42 u) _ h.box
 exact⟨h.bel.trans (T.below h.x6),T.new,h.x6,hu.keepS (cL T rfl) ho,ho,h.own.turnNe T h.ne6,h.ne6,fun p hp=>⟨(h.olv p hp).1.keepS (cL T rfl) (h.olv p hp).2.2,(h.olv p hp).2⟩,fun g hg=>⟨hn.off (hN.2 g hg),(h.sep g hg).2⟩,h.eq,hn.off (by have:=h.n1.2.2;have:=h.x6;have:=hN.1;omega),h.n1.2⟩
theorem ToR.push (h:ToR N1 w2 X6 io t v ol wr){W w8:World}(hb:Below wr.heap.size wr W){ro:RO}{y:Tp.Vw}(hy:VwR W ro.v y)(hn:ro.v.Off X6)(hn1:ro.v.Off N1)(hs:∀g,v.ownBlock=some g->ro.v.Off g)(hU:ro.b.U){g cap:Nat}(hown:w8.ownsRow w2.heap.size 112 9 (.slice (some (m00 g)) ((ol.map Prod.fst).length+1) cap) ((ol.map Prod.fst).length+1) ((ol.map Prod.fst).flatMap offC++offC ro))(hg:W.grownBy w8 v.ownBlock)(hat:v.ownBlock=some g\/g=W.heap.size):
  ToR N1 w2 X6 (io.1,io.2++[aS (ro,y)]) t (.slice (some (m00 g)) ((ol.map Prod.fst).length+1) cap) (ol++[(ro,y)]) w8:=by
 have h7:=h.keep hb
 obtain⟨G,kG,hG⟩:=dV hg
 have hWl:X6<W.heap.size:=(gS h7.box)
 have hXG:X6≠G:=by
  rcases hG with e|e
  ·exact fun e2=>h.ne6 (e2▸e)
  ·omega
 have tG:t.Off G:=by
  rcases hG with e|e
  ·exact(h.sep G e).1
  ·exact h7.vw.away (by omega)
 have oG:∀p∈ol,p.1.v.Off G:=fun p hp=>by
  rcases hG with e|e
  ·exact(h.sep G e).2 p hp
  ·exact(h7.olv p hp).1.away (by omega)
 have yG:ro.v.Off G:=by
  rcases hG with e|e
  ·exact hs G e
  ·exact hy.away (by omega)
 have hG2:w2.heap.size<=G:=by
  rcases hG with e|e
  ·exact(h.own.lt G e).1
  ·have:=h7.bel.size;omega
 have tg:t.Off g:=by
  rcases hat with e|e
  ·exact(h.sep g e).1
  ·exact h7.vw.away (by omega)
 have og:∀p∈ol,p.1.v.Off g:=fun p hp=>by
  rcases hat with e|e
  ·exact(h.sep g e).2 p hp
  ·exact(h7.olv p hp).1.away (by omega)
 have yg:ro.v.Off g:=by
  rcases hat with e|e
  ·exact hs g e
  ·exact hy.away (by omega)
 have hS:=OwnL.snoc (l:=ol.map Prod.fst) (x:=ro) hown rfl
 rw[show ol.map Prod.fst++[ro]=(ol++[(ro,y)]).map Prod.fst from by rw[List.map_append];rfl]at hS
 refine⟨h7.bel.trans (kG.below h7.bel.size (fun j e=>by rw[e];exact hG2)),(kG.block X6 hWl hXG).trans h7.box,h.x6,h7.vw.keepS kG tG,h.toff,?_,?_,?_,?_,?_,h.n1.1,fun p hp=>?_,h.n1.2.2⟩
 ·exact hS
 ·intro e
  have e2:g=X6:=by simpa[Value.ownBlock]using e
  rcases hat with e3|e3
  ·exact h.ne6 (e2▸e3)
  ·omega
 ·intro p hp
  rcases List.mem_append.1 hp with hp|hp
  ·exact⟨(h7.olv p hp).1.keepS kG (oG p hp),(h7.olv p hp).2⟩
  ·rw[List.mem_singleton.1 hp]
   exact⟨hy.keepS kG yG,hU,hn⟩
 ·intro g' hg'
  have e2:g=g':=by simpa[Value.ownBlock]using hg'
  subst e2
  exact⟨tg,fun p hp=>by
   rcases List.mem_append.1 hp with hp|hp
   ·exact og p hp
   ·rw[List.mem_singleton.1 hp];exact yg⟩
 ·show io.2++[aS (ro,y)]=_
  rw[h.eq,List.map_append]
  try rfl
 ·rcases List.mem_append.1 hp with hp|hp
  ·exact h.n1.2.1 p hp
  ·rw[List.mem_singleton.1 hp]
   exact hn1
end
theorem aLk (r:RW)(ns:List NE)(os:List (RO×Tp.Vw))(k:Tp.Wd)(al:List (RA×Tp.Vw))(B:Nat)(Bw B6 B5:Nat)(ra:RV)(ca:Option Addr)(cn cc:Nat)(cl:List (RA×Tp.Vw))(i:Nat)(w:World)(hW:WdR w r ns os k)(hM:oZ w B r k al Bw B6 B5 ra ca cn cc cl)(hi:i<=50)(hob:(Tp.eY k (al.map toAc) i).2.length<=1000000)(hlen:∀j,((((cl.map toAc).take j).foldl (Tp.dH k i) (Tp.all k.n,k.o)).1).b.length<=1000000/\((((cl.map toAc).take j).foldl (Tp.dH k i) (Tp.all k.n,k.o)).1).v.length<=1000000):
  Calls Tryz.prog 28 #[.agg #[.slice r.aw r.nw r.cw,.int .u64 k.c.sd,.int .i64 k.c.ep,.int .i64 k.c.nu,.int .i64 k.c.de,.slice r.ba r.bn r.bc,.int .i64 r.tick,.slice r.na r.nn r.nc,.slice r.oa r.on r.oc,.slice ra.ab ra.nb ra.cb,.slice ra.av ra.nv ra.cv,.int .i64 (Tp.sC k),.bool (Tp.nS k),.func (.func 53) #[] #[.pointer (some ⟨B6,0,none⟩),.pointer (some ⟨B5,0,none⟩)],.int .i64 (k.tick/3),.slice ca cn cc],.int .i64 i] w fun e w'=>∃t a n c ol,e=.returned (.tuple #[.agg #[.slice t.ab t.nb t.cb,.slice t.av t.nv t.cv],.slice a n c])/\VwR w' t (Tp.eY k (al.map toAc) i).1/\dD w' a n c ol/\ol.map aS=(Tp.eY k (al.map toAc) i).2/\Below w.heap.size w w':=by
 obtain⟨who,hwho⟩:∃z,Tp.sC k=z:=⟨_,rfl⟩
 obtain⟨mean,hmean⟩:∃z,Tp.nS k=z:=⟨_,rfl⟩
 obtain⟨slot,hslot⟩:∃z,k.tick/3=z:=⟨_,rfl⟩
 rw[hwho,hmean,hslot]
 have HK:=zH (And.intro hwho (And.intro hmean hslot))
 obtain⟨io,hio⟩:∃z,Tp.eY k (al.map toAc) i=z:=⟨_,rfl⟩
 rw[hio]at hob⊢
 have HIO:Hid ((cl.map toAc).foldl (Tp.dH k i) (Tp.all k.n,k.o)=io):=zH (by rw[hM.cl,<-hio];rfl)
 have hcl:=hM.calls.len
 have hcb:=hM.calls.bd
 have hb2:Below w.heap.size w ((w.alloc (.cells #[.slice r.aw r.nw r.cw,.int .u64 k.c.sd,.int .i64 k.c.ep,.int .i64 k.c.nu,.int .i64 k.c.de,.slice r.ba r.bn r.bc,.int .i64 r.tick,.slice r.na r.nn r.nc,.slice r.oa r.on r.oc,.slice ra.ab ra.nb ra.cb,.slice ra.av ra.nv ra.cv,.int .i64 who,.bool mean,.func (.func 53) #[] #[.pointer (some ⟨B6,0,none⟩),.pointer (some ⟨B5,0,none⟩)],.int .i64 slot,.slice ca cn cc] 67)).alloc (.cells #[.slice none 0 0,.slice none 0 0] 38)):=cR _ _
 have hbm:((w.alloc (.cells #[.slice r.aw r.nw r.cw,.int .u64 k.c.sd,.int .i64 k.c.ep,.int .i64 k.c.nu,.int .i64 k.c.de,.slice r.ba r.bn r.bc,.int .i64 r.tick,.slice r.na r.nn r.nc,.slice r.oa r.on r.oc,.slice ra.ab ra.nb ra.cb,.slice ra.av ra.nv ra.cv,.int .i64 who,.bool mean,.func (.func 53) #[] #[.pointer (some ⟨B6,0,none⟩),.pointer (some ⟨B5,0,none⟩)],.int .i64 slot,.slice ca cn cc] 67)).alloc (.cells #[.slice none 0 0,.slice none 0 0] 38)).heap[w.heap.size]?=some (.cells #[.slice r.aw r.nw r.cw,.int .u64 k.c.sd,.int .i64 k.c.ep,.int .i64 k.c.nu,.int .i64 k.c.de,.slice r.ba r.bn r.bc,.int .i64 r.tick,.slice r.na r.nn r.nc,.slice r.oa r.on r.oc,.slice ra.ab ra.nb ra.cb,.slice ra.av ra.nv ra.cv,.int .i64 who,.bool mean,.func (.func 53) #[] #[.pointer (some ⟨B6,0,none⟩),.pointer (some ⟨B5,0,none⟩)],.int .i64 slot,.slice ca cn cc] 67 (0,0)):=by rw[cF,if_neg (by simp),cF,if_pos rfl]
 have hbr:((w.alloc (.cells #[.slice r.aw r.nw r.cw,.int .u64 k.c.sd,.int .i64 k.c.ep,.int .i64 k.c.nu,.int .i64 k.c.de,.slice r.ba r.bn r.bc,.int .i64 r.tick,.slice r.na r.nn r.nc,.slice r.oa r.on r.oc,.slice ra.ab ra.nb ra.cb,.slice ra.av ra.nv ra.cv,.int .i64 who,.bool mean,.func (.func 53) #[] #[.pointer (some ⟨B6,0,none⟩),.pointer (some ⟨B5,0,none⟩)],.int .i64 slot,.slice ca cn cc] 67)).alloc (.cells #[.slice none 0 0,.slice none 0 0] 38)).heap[w.heap.size+1]?=some (.cells #[.slice none 0 0,.slice none 0 0] 38 (0,0)):=by rw[cF,if_pos (by simp)]
 have HW:=zH hW
 have HM:=zH hM
 have HLEN:=zH hlen
 clear hwho hmean hslot hio hW hM hlen
 go_enter Tryz.func28,Tryz.ntmps28
 go_wp2_with fail
 generalize((w.alloc (.cells #[.slice r.aw r.nw r.cw,.int .u64 k.c.sd,.int .i64 k.c.ep,.int .i64 k.c.nu,.int .i64 k.c.de,.slice r.ba r.bn r.bc,.int .i64 r.tick,.slice r.na r.nn r.nc,.slice r.oa r.on r.oc,.slice ra.ab ra.nb ra.cb,.slice ra.av ra.nv ra.cv,.int .i64 who,.bool mean,.func (.func 53) #[] #[.pointer (some ⟨B6,0,none⟩),.pointer (some ⟨B5,0,none⟩)],.int .i64 slot,.slice ca cn cc] 67)).alloc (.cells #[.slice none 0 0,.slice none 0 0] 38))=w2 at hb2 hbm hbr⊢
 have HB2:=zH hb2
 have HBM:=zH hbm
 have HBR:=zH hbr
 have HM2:=zH (HM.out.keep hb2)
 have HW2:=zH (HW.out.keep hb2)
 clear hb2 hbm hbr
 refine aBf (M:=w.heap.size) (M2:=w.heap.size+1) (r:=r) (ra:=ra) (lo:=os.map Prod.fst) ⟨fun _ _ d _ _ h=>by cases d<;>exact h,zH ⟨HW2.out.o.sl,HW2.out.o.bd,HW2.out.o.nil⟩,fun W hb=>by
  have e:=bK hb HBM.out
  exact⟨⟨cA e 9,cA e 10⟩,cA e 8⟩,?_⟩ TmR.start
 intro X6 v0 W hR
 have hgg:=hR.aa X6 rfl
 have T:=set2 W X6 _ _ (.slice ra.ab ra.nb ra.cb) (.slice ra.av ra.nv ra.cv) _ hgg.1
 have hvr:=HM2.out.mail.all
 have HS:Hid (ToR (w.heap.size+1) w2 X6 (Tp.all k.n,k.o) ra v0 os ((W.setCell ⟨X6,0,none⟩ (.slice ra.ab ra.nb ra.cb)).setCell ⟨X6,1,none⟩ (.slice ra.av ra.nv ra.cv))):=zH (by
  have hcl:=hR.cl v0 rfl
  refine⟨hR.bel.trans (T.below hgg.2),T.new,hgg.2,(hvr.below hR.bel nr).keepS (cL T rfl) (hvr.away hgg.2),hvr.away hgg.2,hcl.1.turnNe T (hcl.2 X6 rfl),hcl.2 X6 rfl,fun p hp=>⟨((HW2.out.o.vw p hp).below hR.bel nr).keepS (cL T rfl) ((HW2.out.o.vw p hp).away hgg.2),HW2.out.o.u p hp,(HW2.out.o.vw p hp).away hgg.2⟩,fun g hg=>⟨hvr.away (hcl.1.lt g hg).1,fun p hp=>(HW2.out.o.vw p hp).away (hcl.1.lt g hg).1⟩,HW2.out.ko,HM.out.mail.all.away (Nat.le_succ _),fun p hp=>(HW.out.o.vw p hp).away (Nat.le_succ _),(gS HBR.out)⟩)
 clear hR hgg T hvr
 generalize(W.setCell ⟨X6,0,none⟩ (.slice ra.ab ra.nb ra.cb)).setCell ⟨X6,1,none⟩ (.slice ra.av ra.nv ra.cv)=w3 at HS⊢
 have hm3:=bK HS.out.bel HBM.out
 have x15:w3.cell? ⟨w.heap.size,15,none⟩=some (.slice ca cn cc):=cA hm3 15
 clear hm3
 try dsimp only
 go_wp2_with fail
 clear x15
 go_loopw [7,20] (fun v i_ wr=>∃(j:Nat) (t:RV) (ol:List (RO×Tp.Vw)),j<=cn/\i_=.int .i64 j/\ToR (w.heap.size+1) w2 X6 (((cl.map toAc).take j).foldl (Tp.dH k i) (Tp.all k.n,k.o)) t v ol wr) (fun _ i_ _=>cn-(intOf i_).toNat)
 case atStart=>exact⟨0,ra,os,Nat.zero_le _,rfl,HS.out⟩
 case round=>
  clear HS
  obtain⟨j,t,ol,hj,rfl,hR⟩:=hrel
  by_cases hjn:j<cn
  case neg=>
   obtain rfl:j=cn:=by omega
   have HZ:Hid (((cl.map toAc).take j).foldl (Tp.dH k i) (Tp.all k.n,k.o)=io):=zH (by rw[List.take_of_length_le (by rw[List.length_map];omega)];exact HIO.out)
   rw[HZ.out]at hR
   have HR:=zH hR
   have x6:wr.cell? ⟨X6,0,none⟩=some (.slice t.ab t.nb t.cb):=cA hR.box 0
   have x6':wr.cell? ⟨X6,1,none⟩=some (.slice t.av t.nv t.cv):=cA hR.box 1
   have hbr:=bK hR.bel HBR.out
   obtain⟨oa,oc,hv,sl,hz⟩:=hR.own.sl0 dW
   have hll:(ol.map Prod.fst).length<=1000000:=by
    have h1:=congrArg List.length hR.eq
    rw[List.length_map]at h1⊢
    rw[<-h1]
    exact hob
   obtain⟨on_,hon_⟩:∃z,(ol.map Prod.fst).length=z:=⟨_,rfl⟩
   rw[hon_]at hv sl hz hll
   subst hv
   have HOF:=zH (show dD wr oa on_ oc ol from⟨sl,hz,fun p hp=>(hR.olv p hp).1,fun p hp=>(hR.olv p hp).2.1,hll⟩)
   have hne:w.heap.size+1<w2.heap.size:=(gS HBR.out)
   have f0:=cH hbr 0
   have f1:=cH hbr 1
   obtain⟨z0,z1⟩:=kc2 hbr
   have T:=set2 wr (w.heap.size+1) _ _ (.slice t.ab t.nb t.cb) (.slice t.av t.nv t.cv) _ hbr
   have h12:=hR.vw.keepS (cL T rfl) hR.n1.1
   have HF:Hid (VwR ((wr.setCell ⟨w.heap.size+1,0,none⟩ (.slice t.ab t.nb t.cb)).setCell ⟨w.heap.size+1,1,none⟩ (.slice t.av t.nv t.cv)) t io.1/\dD ((wr.setCell ⟨w.heap.size+1,0,none⟩ (.slice t.ab t.nb t.cb)).setCell ⟨w.heap.size+1,1,none⟩ (.slice t.av t.nv t.cv)) oa on_ oc ol/\ol.map aS=io.2/\Below w.heap.size w ((wr.setCell ⟨w.heap.size+1,0,none⟩ (.slice t.ab t.nb t.cb)).setCell ⟨w.heap.size+1,1,none⟩ (.slice t.av t.nv t.cv))):=zH ⟨h12,HOF.out.keepS (cL T rfl) ⟨.inr fun b o e=>by
    have h1:(Value.slice oa on_ oc).ownBlock=some b:=by rw[e];rfl
    have h2:=(hR.own.lt b h1).1
    omega,hR.n1.2.1⟩,hR.eq.symm,(HB2.out.trans (hR.bel.mono HB2.out.size)).trans (T.below (Nat.le_succ _))⟩
   have g3:=T.new
   clear hR sl hz T h12 hbr
   go_wp2_with fail
   generalize(wr.setCell ⟨w.heap.size+1,0,none⟩ (.slice t.ab t.nb t.cb)).setCell ⟨w.heap.size+1,1,none⟩ (.slice t.av t.nv t.cv)=w9 at HF g3⊢
   obtain⟨d0,d1⟩:=kc2 g3
   refine bodyPost_ret (v:=.tuple #[.agg #[.slice t.ab t.nb t.cb,.slice t.av t.nv t.cv],.slice oa on_ oc]) ?_ rfl ⟨t,oa,on_,oc,ol,rfl,HF.out.1,HF.out.2.1,HF.out.2.2.1,HF.out.2.2.2⟩
   simp[results,Tryz.results28,go_sem,d0,d1]
  have hjl:j<cl.length:=by omega
  obtain⟨⟨⟨tk,d,f,⟨xa,xb,xc,xd,xe,xf⟩⟩,x⟩,hp⟩:∃p,cl[j]=p:=⟨_,rfl⟩
  have hmem:=hp▸List.getElem_mem hjl
  obtain⟨b,o,hab,hlt,hc⟩:∃b o,ca=some ⟨b,o,none⟩/\b<wr.heap.size/\∀i,i<5->wr.cell? ⟨b,o+j*5+i,none⟩=(actC ⟨tk,d,f,⟨xa,xb,xc,xd,xe,xf⟩⟩)[i]?:=by
   rcases(HM2.out.calls.below hR.bel nr).sl.rows with h0|⟨b,o,ho,hlt,hc⟩
   ·rw[List.length_map]at h0;omega
   ·refine⟨b,o,ho,hlt,fun i hi=>?_⟩
    have:=hc j (by rw[List.length_map];exact hjl) i hi
    rw[List.getElem_map,hp]at this
    exact this
  subst hab
  have c0:wr.cell? ⟨b,o+j*5,none⟩=some (.int .i64 tk):=hc 0 (by omega)
  have c1:wr.cell? ⟨b,o+j*5+1,none⟩=some (.int .i64 d):=hc 1 (by omega)
  have c2:wr.cell? ⟨b,o+j*5+2,none⟩=some (.bool f):=hc 2 (by omega)
  have c3:wr.cell? ⟨b,o+j*5+3,none⟩=some (.slice xa xb xc):=hc 3 (by omega)
  have c4:wr.cell? ⟨b,o+j*5+4,none⟩=some (.slice xd xe xf):=hc 4 (by omega)
  have j0:(0:Int)<=j:=by omega
  have j1:(j:Int)<cn:=by omega
  have hmc:toAc (⟨tk,d,f,⟨xa,xb,xc,xd,xe,xf⟩⟩,x)∈Tp.calls k (al.map toAc):=HM.out.cl▸List.mem_map_of_mem hmem
  have hd0:0<=d:=by have:=(List.mem_filter.1 hmc).2;simp only[toAc,Bool.and_eq_true]at this;exact of_decide_eq_true this.2
  have hd1:d<=9223372036854775807:=HM.out.calls.rng _ hmem
  have hvx:=(HM2.out.calls.vw _ hmem).below hR.bel nr
  have hbit:=aHp d i hd0 hd1
  have hsn:((cl.map toAc).take (j+1)).foldl (Tp.dH k i) (Tp.all k.n,k.o)=Tp.dH k i (((cl.map toAc).take j).foldl (Tp.dH k i) (Tp.all k.n,k.o)) (toAc (⟨tk,d,f,⟨xa,xb,xc,xd,xe,xf⟩⟩,x)):=by
   rw[List.take_succ_eq_append_getElem (by rw[List.length_map];exact hjl),List.foldl_append,List.getElem_map,hp]
   rfl
  obtain⟨iq,hiq⟩:∃z,((cl.map toAc).take j).foldl (Tp.dH k i) (Tp.all k.n,k.o)=z:=⟨_,rfl⟩
  have hql:iq.2.length<=2000000:=by
   have h1:=pM k i ((cl.map toAc).take j) (Tp.all k.n,k.o)
   have h2:k.o.length<=1000000:=by rw[HW.out.ko,List.length_map,HW.out.o.len];exact HW.out.o.bd
   have h3:((cl.map toAc).take j).length<=j:=by rw[List.length_take];omega
   rw[hiq]at h1
   dsimp only at h1
   omega
  rw[hiq]at hR hsn
  have hal:Below wr.heap.size wr (wr.alloc (.cells #[.int .i64 tk,.int .i64 d,.bool f,.slice xa xb xc,.slice xd xe xf] 102)):=(Below.refl _ _).alloc nr _
  have hb9:(wr.alloc (.cells #[.int .i64 tk,.int .i64 d,.bool f,.slice xa xb xc,.slice xd xe xf] 102)).heap[wr.heap.size]?=some (.cells #[.int .i64 tk,.int .i64 d,.bool f,.slice xa xb xc,.slice xd xe xf] 102 (0,0)):=heap_alloc_new wr _
  have hbm:=cG (bS hR.bel hal) (gS HBM.out) HBM.out
  have HR:=zH hR
  have HSN:=zH hsn
  have HVX:=zH hvx
  clear hc hmc hmem hp hiq hsn hR hvx
  cases hgt:Tp.pX d i with
  |false=>
   have hbt:(bits BinOp.and IntKind.i64 (d/2 ^ i) 1==0)=true:=by rw[hbit,hgt];rfl
   have HS:Hid (ToR (w.heap.size+1) w2 X6 (((cl.map toAc).take (j+1)).foldl (Tp.dH k i) (Tp.all k.n,k.o)) t u7 ol (wr.alloc (.cells #[.int .i64 tk,.int .i64 d,.bool f,.slice xa xb xc,.slice xd xe xf] 102))):=zH (by
    rw[HSN.out]
    unfold Tp.dH
    rw[show Tp.pX (toAc (⟨tk,d,f,⟨xa,xb,xc,xd,xe,xf⟩⟩,x)).dest i=false from hgt]
    exact HR.out.keep hal)
   clear hbit hgt hbm hb9
   go_wp2_with fail
   exact⟨⟨j+1,t,ol,by omega,by go_num,HS.out⟩,by simp[intOf];omega⟩
  |true=>
  have hbt:(bits BinOp.and IntKind.i64 (d/2 ^ i) 1==0)=false:=by rw[hbit,hgt];rfl
  have x13:(wr.alloc (.cells #[.int .i64 tk,.int .i64 d,.bool f,.slice xa xb xc,.slice xd xe xf] 102)).cell? ⟨w.heap.size,13,none⟩=some (.func (.func 53) #[] #[.pointer (some ⟨B6,0,none⟩),.pointer (some ⟨B5,0,none⟩)]):=cA hbm 13
  have HGT:=zH hgt
  clear hbit hgt
  go_wp2_with fail
  clear x13 c0 c1 c2 c3 c4
  generalize(wr.alloc (.cells #[.int .i64 tk,.int .i64 d,.bool f,.slice xa xb xc,.slice xd xe xf] 102))=w4 at hal hb9 hbm⊢
  have HR4:=zH (HR.out.keep hal)
  refine(aJs Bw B6 B5 r k ra ⟨tk,d,f,⟨xa,xb,xc,xd,xe,xf⟩⟩ x w4 (HM2.out.mail.below HR4.out.bel nr) (HVX.out.keep hal)).mono ?_
  rintro e w5 ⟨⟨a5,n5,c5,v5,m5,e5⟩,rfl,hv5,hn5,hb5⟩
  have HS45:=zH hb5.size
  obtain⟨fx,hfx⟩:∃z,Tp.fine k (toAc (⟨tk,d,f,⟨xa,xb,xc,xd,xe,xf⟩⟩,x))=z:=⟨_,rfl⟩
  rw[hfx]at hv5
  have hal6:Below w5.heap.size w5 (w5.alloc (.cells #[.slice a5 n5 c5,.slice v5 m5 e5] 38)):=(Below.refl _ _).alloc nr _
  have hbb:Below w4.heap.size w4 (w5.alloc (.cells #[.slice a5 n5 c5,.slice v5 m5 e5] 38)):=bS hb5 hal6
  have HR6:=zH (HR4.out.keep hbb)
  have hb9:=bK hbb hb9
  have hbm:=bK hbb hbm
  have hb10:(w5.alloc (.cells #[.slice a5 n5 c5,.slice v5 m5 e5] 38)).heap[w5.heap.size]?=some (.cells #[.slice a5 n5 c5,.slice v5 m5 e5] 38 (0,0)):=heap_alloc_new w5 _
  have HT5:=zH (And.intro (hv5.keep hal6) (And.intro hn5 hbb.size))
  have x2:(w5.alloc (.cells #[.slice a5 n5 c5,.slice v5 m5 e5] 38)).cell? ⟨wr.heap.size,2,none⟩=some (.bool f):=cA hb9 2
  have x6:(w5.alloc (.cells #[.slice a5 n5 c5,.slice v5 m5 e5] 38)).cell? ⟨X6,0,none⟩=some (.slice t.ab t.nb t.cb):=cA HR6.out.box 0
  have x6':(w5.alloc (.cells #[.slice a5 n5 c5,.slice v5 m5 e5] 38)).cell? ⟨X6,1,none⟩=some (.slice t.av t.nv t.cv):=cA HR6.out.box 1
  have x10:(w5.alloc (.cells #[.slice a5 n5 c5,.slice v5 m5 e5] 38)).cell? ⟨w5.heap.size,0,none⟩=some (.slice a5 n5 c5):=cA hb10 0
  have x10':(w5.alloc (.cells #[.slice a5 n5 c5,.slice v5 m5 e5] 38)).cell? ⟨w5.heap.size,1,none⟩=some (.slice v5 m5 e5):=cA hb10 1
  have x12:(w5.alloc (.cells #[.slice a5 n5 c5,.slice v5 m5 e5] 38)).cell? ⟨w.heap.size,12,none⟩=some (.bool mean):=cA hbm 12
  have HFX:=zH hfx
  have HB10:=zH hb10
  have HBM6:=zH hbm
  have hsz4:X6<w4.heap.size:=(gS HR4.out.box)
  clear hfx hv5 hn5 hb5 hal6 hbb hb9 hbm hb10
  have HST:Hid (((cl.map toAc).take (j+1)).foldl (Tp.dH k i) (Tp.all k.n,k.o)=if f then(match fx.b with| []=>iq|b::r=>if mean then(iq.1,iq.2++[⟨slot,who,b,⟨r,fx.v⟩⟩])else iq)else(Tp.join iq.1 fx,iq.2)):=zH (by
   rw[HSN.out]
   unfold Tp.dH
   rw[show Tp.pX (toAc (⟨tk,d,f,⟨xa,xb,xc,xd,xe,xf⟩⟩,x)).dest i=true from HGT.out,HFX.out,HK.out.1,HK.out.2.1,HK.out.2.2]
   rfl)
  cases f with
  |false=>
   have HS2:Hid (((cl.map toAc).take (j+1)).foldl (Tp.dH k i) (Tp.all k.n,k.o)=(Tp.join iq.1 fx,iq.2)):=zH HST.out
   have hlj:=HLEN.out (j+1)
   rw[HS2.out]at hlj
   have HLJ:=zH hlj
   clear hlj HST
   try dsimp only
   go_wp2_with fail
   generalize(w5.alloc (.cells #[.slice a5 n5 c5,.slice v5 m5 e5] 38))=w6 at HR6 HT5 HB10 HBM6 x2 x6 x6' x10 x10' x12⊢
   refine(dY t ⟨a5,n5,c5,v5,m5,e5⟩ iq.1 fx w6 HR6.out.vw HT5.out.1 HLJ.out.1 HLJ.out.2).mono ?_
   rintro e w7 ⟨t7,rfl,ht7,hn7,hb7⟩
   have h7:=HR6.out.keep hb7
   have HS:=zH (HS2.out▸h7.store ht7 hn7 ⟨(gS HR6.out.box),fun g hg=>(HR6.out.own.lt g hg).2⟩)
   have y6:w7.cell? ⟨X6,0,none⟩=some (.slice t.ab t.nb t.cb):=cA h7.box 0
   have y6':w7.cell? ⟨X6,1,none⟩=some (.slice t.av t.nv t.cv):=cA h7.box 1
   have f6:=cH h7.box 0
   have f6':=cH h7.box 1
   clear h7 ht7 hn7 hb7 x2 x6 x6' x10 x10' x12
   try dsimp only
   go_wp2_with fail
   exact⟨⟨j+1,t7,ol,by omega,by go_num,HS.out⟩,by simp[intOf];omega⟩
  |true=>
   have hln:=HT5.out.1.ok.b.len
   rcases(show mean=false\/mean=true from by cases mean<;>simp)with hm|hm
   ·
    have HS:Hid (ToR (w.heap.size+1) w2 X6 (((cl.map toAc).take (j+1)).foldl (Tp.dH k i) (Tp.all k.n,k.o)) t u7 ol (w5.alloc (.cells #[.slice a5 n5 c5,.slice v5 m5 e5] 38))):=zH (by
     rw[HST.out,hm]
     cases hfb:fx.b with
     |nil=>exact HR6.out
     |cons b r=>exact HR6.out)
    rw[hm]at x12
    clear HST hln hm
    try dsimp only
    go_wp2_with fail
    exact⟨⟨j+1,t,ol,by omega,by go_num,HS.out⟩,by simp[intOf];omega⟩
   ·
    rw[hm]at x12
    have HMT:=zH hm
    clear hm
    cases hfb:fx.b with
    |nil=>
     have hnb:n5=0:=by rw[<-show _=n5 from hln,hfb];rfl
     have HS:Hid (ToR (w.heap.size+1) w2 X6 (((cl.map toAc).take (j+1)).foldl (Tp.dH k i) (Tp.all k.n,k.o)) t u7 ol (w5.alloc (.cells #[.slice a5 n5 c5,.slice v5 m5 e5] 38))):=zH (by
      rw[HST.out,hfb]
      exact HR6.out)
     subst hnb
     clear HST hln
     try dsimp only
     go_wp2_with fail
     exact⟨⟨j+1,t,ol,by omega,by go_num,HS.out⟩,by simp[intOf];omega⟩
    |cons b0 rest=>
     obtain⟨y0,y1,y2,y3,y4⟩:=b0
     have hv5:=HT5.out.1
     have hn5:=HT5.out.2.1
     have hb0:=hv5.ok.b
     rw[hfb]at hb0
     have hn0:rest.length+1=n5:=hb0.len
     obtain⟨bb,oo,hae,hlt5,hc5⟩:∃bb oo,a5=some ⟨bb,oo,none⟩/\bb<(w5.alloc (.cells #[.slice a5 n5 c5,.slice v5 m5 e5] 38)).heap.size/\∀q,q<5->(w5.alloc (.cells #[.slice a5 n5 c5,.slice v5 m5 e5] 38)).cell? ⟨bb,oo+q,none⟩=(aK ⟨y0,y1,y2,y3,y4⟩)[q]?:=by
      rcases hb0.rows with h0|⟨b',o',ho,hlt,hc⟩
      ·cases h0
      ·exact⟨b',o',ho,hlt,fun q hq=>by
        have:=hc 0 (Nat.succ_pos _) q hq
        rw[Nat.zero_mul,Nat.add_zero]at this
        exact this⟩
     subst hae
     have hbb5:w4.heap.size<=bb:=hn5.1 bb oo rfl
     obtain⟨pa,hpa⟩:∃z:Option Addr,(if c5=1 then some (⟨bb,oo,none⟩:Addr)else some ⟨bb,oo+5,none⟩)=z:=⟨_,rfl⟩
     have hyb:SlV aK 5 (w5.alloc (.cells #[.slice (some ⟨bb,oo,none⟩) n5 c5,.slice v5 m5 e5] 38)) pa (n5-1) (c5-1) rest:=by
      by_cases h1:c5=1
      ·have h2:n5<=c5:=hb0.cap
       have h3:c5<=9223372036854775807:=hb0.top
       exact⟨by omega,by omega,by omega,.inl (by omega)⟩
      ·rw[<-hpa,if_neg h1]
       exact hb0.tail
     have hyv:VwR (w5.alloc (.cells #[.slice (some ⟨bb,oo,none⟩) n5 c5,.slice v5 m5 e5] 38)) ⟨pa,n5-1,c5-1,v5,m5,e5⟩ ⟨rest,fx.v⟩:=⟨⟨hyb,hv5.ok.v,fun z hz=>hv5.ok.u z (by rw[hfb];exact List.mem_cons_of_mem _ hz),Nat.le_trans (Nat.sub_le _ _) hv5.ok.bm,hv5.ok.vm⟩,(fun e=>by rw[<-hpa]at e;split at e<;>cases e),hv5.nv0⟩
     have hoff:∀Y,Y<w4.heap.size->(⟨pa,n5-1,c5-1,v5,m5,e5⟩:RV).Off Y:=fun Y hY=>⟨.inr fun b' o' e=>by
      have e1:b'=bb:=by
       rw[<-hpa]at e
       split at e<;>(injection e with e;injection e with e1 e2 e3;exact e1.symm)
      omega,.inr fun b' o' e=>by have:=hn5.2 b' o' e;omega⟩
     have hUb:Tp.B.U ⟨y0,y1,y2,y3,y4⟩:=hv5.ok.u _ (by rw[hfb];exact List.mem_cons_self ..)
     have HSN2:Hid (((cl.map toAc).take (j+1)).foldl (Tp.dH k i) (Tp.all k.n,k.o)=(iq.1,iq.2++[aS ((⟨slot,who,⟨y0,y1,y2,y3,y4⟩,⟨pa,n5-1,c5-1,v5,m5,e5⟩⟩:RO),⟨rest,fx.v⟩)])):=zH (by rw[HST.out,hfb,HMT.out];rfl)
     have HY:=zH (And.intro hyv (And.intro hoff hUb))
     have k0:(w5.alloc (.cells #[.slice (some ⟨bb,oo,none⟩) n5 c5,.slice v5 m5 e5] 38)).cell? ⟨bb,oo,none⟩=some (.int .i64 y0):=hc5 0 (by omega)
     have k1:(w5.alloc (.cells #[.slice (some ⟨bb,oo,none⟩) n5 c5,.slice v5 m5 e5] 38)).cell? ⟨bb,oo+1,none⟩=some (.int .i64 y1):=hc5 1 (by omega)
     have k2:(w5.alloc (.cells #[.slice (some ⟨bb,oo,none⟩) n5 c5,.slice v5 m5 e5] 38)).cell? ⟨bb,oo+2,none⟩=some (.int .u64 y2):=hc5 2 (by omega)
     have k3:(w5.alloc (.cells #[.slice (some ⟨bb,oo,none⟩) n5 c5,.slice v5 m5 e5] 38)).cell? ⟨bb,oo+3,none⟩=some (.int .u64 y3):=hc5 3 (by omega)
     have k4:(w5.alloc (.cells #[.slice (some ⟨bb,oo,none⟩) n5 c5,.slice v5 m5 e5] 38)).cell? ⟨bb,oo+4,none⟩=some (.int .u64 y4):=hc5 4 (by omega)
     have hq:((w5.alloc (.cells #[.slice (some ⟨bb,oo,none⟩) n5 c5,.slice v5 m5 e5] 38)).cell? ⟨w.heap.size,14,none⟩=some (.int .i64 slot))/\((w5.alloc (.cells #[.slice (some ⟨bb,oo,none⟩) n5 c5,.slice v5 m5 e5] 38)).cell? ⟨w.heap.size,11,none⟩=some (.int .i64 who))/\((w5.alloc (.cells #[.slice (some ⟨bb,oo,none⟩) n5 c5,.slice v5 m5 e5] 38)).cell? ⟨w5.heap.size,0,none⟩=some (.slice (some ⟨bb,oo,none⟩) n5 c5))/\((w5.alloc (.cells #[.slice (some ⟨bb,oo,none⟩) n5 c5,.slice v5 m5 e5] 38)).cell? ⟨bb,oo,none⟩=some (.int .i64 y0)/\(w5.alloc (.cells #[.slice (some ⟨bb,oo,none⟩) n5 c5,.slice v5 m5 e5] 38)).cell? ⟨bb,oo+1,none⟩=some (.int .i64 y1)/\(w5.alloc (.cells #[.slice (some ⟨bb,oo,none⟩) n5 c5,.slice v5 m5 e5] 38)).cell? ⟨bb,oo+2,none⟩=some (.int .u64 y2)/\(w5.alloc (.cells #[.slice (some ⟨bb,oo,none⟩) n5 c5,.slice v5 m5 e5] 38)).cell? ⟨bb,oo+3,none⟩=some (.int .u64 y3)/\(w5.alloc (.cells #[.slice (some ⟨bb,oo,none⟩) n5 c5,.slice v5 m5 e5] 38)).cell? ⟨bb,oo+4,none⟩=some (.int .u64 y4))/\((w5.alloc (.cells #[.slice (some ⟨bb,oo,none⟩) n5 c5,.slice v5 m5 e5] 38)).cell? ⟨w5.heap.size,0,none⟩=some (.slice (some ⟨bb,oo,none⟩) n5 c5))/\((w5.alloc (.cells #[.slice (some ⟨bb,oo,none⟩) n5 c5,.slice v5 m5 e5] 38)).cell? ⟨w5.heap.size,1,none⟩=some (.slice v5 m5 e5)):=⟨cA HBM6.out 14,cA HBM6.out 11,x10,⟨k0,k1,k2,k3,k4⟩,x10,x10'⟩
     have hnI:(1:Int)<=(n5:Int):=by omega
     have hol:ol.length<=2000000:=by have h:=congrArg List.length HR.out.eq;rw[List.length_map]at h;omega
     have hnn:1<=n5:=by omega
     clear hv5 hn5 hb0 hc5 hyb hyv hoff hUb HST hln hn0 k0 k1 k2 k3 k4
     try dsimp only
     go_wp2_with fail
     generalize(w5.alloc (.cells #[.slice (some ⟨bb,oo,none⟩) n5 c5,.slice v5 m5 e5] 38))=w6 at HR6 HT5 HB10 HBM6 x2 x6 x6' x10 x10' x12 HY hq hlt5⊢
     clear x2 x6 x6' x10 x10' x12
     obtain⟨i0,hi0,hz0,hz1,hz2⟩:=info_parts lK
     refine cN [(2,fun W=>W.cell? ⟨w.heap.size,14,none⟩=some (.int .i64 slot)),(4,fun W=>W.cell? ⟨w.heap.size,11,none⟩=some (.int .i64 who)),(6,fun W=>W.cell? ⟨w5.heap.size,0,none⟩=some (.slice (some ⟨bb,oo,none⟩) n5 c5)),(8,fun W=>W.cell? ⟨bb,oo,none⟩=some (.int .i64 y0)/\W.cell? ⟨bb,oo+1,none⟩=some (.int .i64 y1)/\W.cell? ⟨bb,oo+2,none⟩=some (.int .u64 y2)/\W.cell? ⟨bb,oo+3,none⟩=some (.int .u64 y3)/\W.cell? ⟨bb,oo+4,none⟩=some (.int .u64 y4)),(10,fun W=>W.cell? ⟨w5.heap.size,0,none⟩=some (.slice (some ⟨bb,oo,none⟩) n5 c5)),(13,fun W=>W.cell? ⟨w5.heap.size,1,none⟩=some (.slice v5 m5 e5))] (by kernel_rfl) ?_
     show aB _ _ _ _ _ _ _ _ w6.drew
     have hd7:=(Below.refl w6.heap.size w6).drew
     have H7:=zH (And.intro (HR6.out.keep hd7) (And.intro (bK hd7 HB10.out) (And.intro (bK hd7 HBM6.out) (HY.out.1.keep hd7))))
     have hq7:(w6.drew.cell? ⟨w.heap.size,14,none⟩=some (.int .i64 slot))/\(w6.drew.cell? ⟨w.heap.size,11,none⟩=some (.int .i64 who))/\(w6.drew.cell? ⟨w5.heap.size,0,none⟩=some (.slice (some ⟨bb,oo,none⟩) n5 c5))/\(w6.drew.cell? ⟨bb,oo,none⟩=some (.int .i64 y0)/\w6.drew.cell? ⟨bb,oo+1,none⟩=some (.int .i64 y1)/\w6.drew.cell? ⟨bb,oo+2,none⟩=some (.int .u64 y2)/\w6.drew.cell? ⟨bb,oo+3,none⟩=some (.int .u64 y3)/\w6.drew.cell? ⟨bb,oo+4,none⟩=some (.int .u64 y4))/\(w6.drew.cell? ⟨w5.heap.size,0,none⟩=some (.slice (some ⟨bb,oo,none⟩) n5 c5))/\(w6.drew.cell? ⟨w5.heap.size,1,none⟩=some (.slice v5 m5 e5)):=hq
     have hlt7:bb<w6.drew.heap.size:=hlt5
     have hs45:w4.heap.size<=w6.drew.heap.size:=HT5.out.2.2
     generalize w6.drew=w7 at H7 hq7 hlt7 hs45⊢
     clear hd7 hq
     have HQ:Hid (∀W:World,W.heap[w.heap.size]?=w7.heap[w.heap.size]?->W.heap[w5.heap.size]?=w7.heap[w5.heap.size]?->W.heap[bb]?=w7.heap[bb]?->(W.cell? ⟨w.heap.size,14,none⟩=some (.int .i64 slot))/\(W.cell? ⟨w.heap.size,11,none⟩=some (.int .i64 who))/\(W.cell? ⟨w5.heap.size,0,none⟩=some (.slice (some ⟨bb,oo,none⟩) n5 c5))/\(W.cell? ⟨bb,oo,none⟩=some (.int .i64 y0)/\W.cell? ⟨bb,oo+1,none⟩=some (.int .i64 y1)/\W.cell? ⟨bb,oo+2,none⟩=some (.int .u64 y2)/\W.cell? ⟨bb,oo+3,none⟩=some (.int .u64 y3)/\W.cell? ⟨bb,oo+4,none⟩=some (.int .u64 y4))/\(W.cell? ⟨w5.heap.size,0,none⟩=some (.slice (some ⟨bb,oo,none⟩) n5 c5))/\(W.cell? ⟨w5.heap.size,1,none⟩=some (.slice v5 m5 e5))):=zH (fun W e1 e2 e3=>by
      obtain⟨h1,h2,h3,⟨h4,h5,h6,h7,h8⟩,h9,h10⟩:=hq7
      exact⟨(World.cell?_of_block (a:=⟨w.heap.size,14,none⟩) e1).trans h1,(World.cell?_of_block (a:=⟨w.heap.size,11,none⟩) e1).trans h2,(World.cell?_of_block (a:=⟨w5.heap.size,0,none⟩) e2).trans h3,⟨(World.cell?_of_block (a:=⟨bb,_,none⟩) e3).trans h4,(World.cell?_of_block (a:=⟨bb,_,none⟩) e3).trans h5,(World.cell?_of_block (a:=⟨bb,_,none⟩) e3).trans h6,(World.cell?_of_block (a:=⟨bb,_,none⟩) e3).trans h7,(World.cell?_of_block (a:=⟨bb,_,none⟩) e3).trans h8⟩,(World.cell?_of_block (a:=⟨w5.heap.size,0,none⟩) e2).trans h9,(World.cell?_of_block (a:=⟨w5.heap.size,1,none⟩) e2).trans h10⟩)
     refine wX 0 rfl ?_
     refine wX 1 rfl ?_
     refine wY 0 2 rfl rfl (hq7.1) ?_
     refine wX 3 rfl ?_
     refine wY 1 4 rfl rfl (hq7.2.1) ?_
     refine wX 5 rfl ?_
     refine wY 2 6 rfl rfl (hq7.2.2.1) ?_
     refine wX 7 rfl ?_
     refine wY 3 8 rfl rfl (hq7.2.2.2.1) ?_
     refine wX 9 rfl ?_
     refine wY 4 10 rfl rfl (hq7.2.2.2.2.1) ?_
     refine wX 11 rfl ?_
     refine wX 12 rfl ?_
     refine wY 5 13 rfl rfl (hq7.2.2.2.2.2) ?_
     refine wX 14 rfl ?_
     refine wX 15 rfl ?_
     refine cK 16 (by kernel_rfl) rfl (fun K hK=>?_)
     go_simp
     have hal8:Below w7.heap.size w7 (w7.alloc (.cells #[.int .i64 slot,.int .i64 who,.int .i64 y0,.int .i64 y1,.int .u64 y2,.int .u64 y3,.int .u64 y4,.slice pa (n5-1) (c5-1),.slice v5 m5 e5] 112)):=(Below.refl _ _).alloc nr _
     have hq8:=HQ.out (w7.alloc (.cells #[.int .i64 slot,.int .i64 who,.int .i64 y0,.int .i64 y1,.int .u64 y2,.int .u64 y3,.int .u64 y4,.slice pa (n5-1) (c5-1),.slice v5 m5 e5] 112)) (hal8.block _ (gS H7.out.2.2.1)) (hal8.block _ (gS H7.out.2.1)) (hal8.block _ hlt7)
     refine hK.out _ _ ?_ ?_
     ·exact(hl6 hq8)
     clear hK K;try simp only[Act.put,pA,pB,pC]
     refine cK 17 (by kernel_rfl) rfl (fun K hK=>?_)
     rw[if_pos (by rfl)]
     refine wp_append_lies _ (.tmp 50) (.tmp 66) 30 (by rfl) w2.heap.size 112 i0 (.agg #[.int .i64 0,.int .i64 0,.int .i64 0,.int .i64 0,.int .u64 0,.int .u64 0,.int .u64 0,.slice none 0 0,.slice none 0 0]) 9 104 Tryz.underlying30 hi0 hz0 hz1 hz2 rfl (by decide) _ (ol.map Prod.fst).length ((ol.map Prod.fst).flatMap offC) (by rfl) (H7.out.1.own.keep hal8) ⟨w7.heap.size,0,none⟩ 1 1 (offC (⟨slot,who,⟨y0,y1,y2,y3,y4⟩,⟨pa,n5-1,c5-1,v5,m5,e5⟩⟩:RO)) (by rfl) rfl (bE _ _ _ _ rfl) (lI _) (by decide) (by rw[List.length_map];unfold maxLen;omega) (by rw[List.length_map];omega) (Nat.le_trans H7.out.1.bel.size hal8.size) (w7.heap.size+1) (by simp) ?_
     intro g cap w9 hown9 hg9 hat9 hlt9
     have HP9:=zH (HSN2.out▸H7.out.1.push hal8 (ro:=(⟨slot,who,⟨y0,y1,y2,y3,y4⟩,⟨pa,n5-1,c5-1,v5,m5,e5⟩⟩:RO)) (y:=⟨rest,fx.v⟩) (H7.out.2.2.2.keep hal8) (HY.out.2.1 X6 hsz4) (HY.out.2.1 (w.heap.size+1) (by have:=H7.out.1.n1.2.2;have:=HR4.out.bel.size;omega)) (fun g hg=>HY.out.2.1 g ((HR4.out.own.lt g hg).2)) HY.out.2.2 hown9 hg9 (hat9.elim Or.inl (fun e=>Or.inr (by rw[World.size_alloc];exact e))))
     obtain⟨G,kG,hG⟩:=dV hg9
     have hGb:∀Y,Y<w7.heap.size->(∀g,u7.ownBlock=some g->Y≠g)->w9.heap[Y]?=w7.heap[Y]?:=fun Y h1 h2=>(kG.block Y (Nat.lt_of_lt_of_le h1 hal8.size) (fun e=>hG.elim (fun e2=>h2 G e2 e) (fun e2=>by have:=hal8.size;omega))).trans (hal8.block Y h1)
     have hq9:=HQ.out w9 (hGb _ (gS H7.out.2.2.1) (fun g hg=>by have:=(HR4.out.own.lt g hg).1;have:=H7.out.1.n1.2.2;omega)) (hGb _ (gS H7.out.2.1) (fun g hg=>by have:=(HR4.out.own.lt g hg).2;have:=HS45.out;omega)) (hGb _ hlt7 (fun g hg=>by have:=(HR4.out.own.lt g hg).2;omega))
     refine hK.out _ _ ?_ ?_
     ·exact(hl6 hq9)
     clear hK K;try simp only[Act.put,pA,pB,pC]
     refine wX 18 rfl ?_
     refine cO (by kernel_rfl) ?_ _
     try dsimp only
     go_wp2_with fail
     have HP10:=HP9.out
     rw[List.length_map]at HP10
     exact⟨⟨j+1,t,_,by omega,by go_num,HP10⟩,by simp[intOf];omega⟩
end Go.Proofs.YtbbhinehcncmeaaGreat
