/- A part of the proof of the laws of the top: TpNodeA, TpNodeC, TpQuick2, TpQuick3. No condition. -/
import Derived.Test.YtbbhinehcncmeaaGreatG19
import Derived.Test.YtbbhinehcncmeaaGreatG21
import Derived.Lib.AppendZerosOnto
namespace Go.Proofs.YtbbhinehcncmeaaGreat
open Go.RowKit
set_option linter.unusedSimpArgs false
set_option linter.unusedVariables false
set_option linter.unusedSectionVars false
set_option maxRecDepth 100000
set_option maxHeartbeats 8000000
theorem Tp.sD (W:List Int)(ep nu de:Int)(ids:List Int):0<=Tp.fU W ep nu de ids/\Tp.fU W ep nu de ids<=1000000000000000:=by
 unfold Tp.fU
 cases hm:Tp.mayC W ep nu de with
 |false=>simp
 |true=>
  have hm2:=hm
  unfold Tp.mayC at hm2
  simp only[Bool.and_eq_true,decide_eq_true_eq,List.all_eq_true]at hm2
  obtain⟨⟨⟨⟨⟨⟨⟨⟨-,hl⟩,g⟩,-⟩,-⟩,-⟩,-⟩,-⟩,-⟩:=hm2
  have h1:=Tp.aBr W (n:=W.length) (fun i hi=>g _ (Tp.vK W i hi)) (Tp.iO (fun j=>Tp.has ids (j:Int)) W.length W.length)
  have h2:=Tp.xI (fun j=>Tp.has ids (j:Int)) W.length W.length
  simp only[if_true]
  omega
theorem Tp.aMd (C:Tp.Cf)(x:Tp.Vw)(slot:Int)(id:Int×Int):0<=Tp.onC C x slot id/\Tp.onC C x slot id<=1000000000000000:=Tp.sD _ _ _ _ _
theorem Tp.aKd {C:Tp.Cf}(h:Tp.mayC C.W C.ep C.nu C.de=true):(0<=C.nu/\C.nu<=1000)/\(0<=C.de/\C.de<=1000):=by
 unfold Tp.mayC at h
 simp only[Bool.and_eq_true,decide_eq_true_eq]at h
 omega
structure QtpR (w1:World) (aw:Option Addr) (nw cw:Nat) (C:Tp.Cf) (r:RV) (x:Tp.Vw) (slot h0 h1:Int) (tv:Option (Nat×Nat×Nat)) (ch:Option (Option Addr×Nat×Nat)) (al:Option Nat) (W:World):Prop where
 bel:Below w1.heap.size w1 W
 tst:∀M g7 g8,tv=some (M,g7,g8)->w1.heap.size<=M/\∃W0,QtR W0 M (M+1) g7 g8 aw nw cw C r x slot/\Below W0.heap.size W0 W/\∀g,al=some g->g<M\/W0.heap.size<=g
 chn:∀a n c,ch=some (a,n,c)->∃W0 base,OwnL idC 2 40 W0 base (m63 a n c) (Tp.chain x.b (h0,h1))/\w1.heap.size<=base/\Below W0.heap.size W0 W/\∀g,al=some g->g<base\/W0.heap.size<=g
 all:∀g,al=some g->W.heap[g]?=some (.cells #[Value.nilFunc,Value.nilFunc] 173 (0,0))/\w1.heap.size<=g
section
variable {w1 W W':World}{aw:Option Addr}{nw cw:Nat}{C:Tp.Cf}{r:RV}{x:Tp.Vw}{slot h0 h1:Int}{tv:Option (Nat×Nat×Nat)}{ch:Option (Option Addr×Nat×Nat)}{al:Option Nat}
theorem QtpR.start :QtpR w1 aw nw cw C r x slot h0 h1 none none none w1.drew:=⟨(Below.refl _ _).drew,fun _ _ _ h=>(by cases h),fun _ _ _ h=>(by cases h),fun _ h=>(by cases h)⟩
theorem QtpR.keep (h:QtpR w1 aw nw cw C r x slot h0 h1 tv ch al W)(hb:Below W.heap.size W W'):QtpR w1 aw nw cw C r x slot h0 h1 tv ch al W':=by
 refine⟨bS h.bel hb,fun M g7 g8 he=>?_,fun a n c he=>?_,fun g he=>⟨cG hb (gS (h.all g he).1) (h.all g he).1,(h.all g he).2⟩⟩
 ·obtain⟨e1,W0,e2,e3,e4⟩:=h.tst M g7 g8 he
  exact⟨e1,W0,e2,bS e3 hb,e4⟩
 ·obtain⟨W0,base,e1,e2,e3,e4⟩:=h.chn a n c he
  exact⟨W0,base,e1,e2,bS e3 hb,e4⟩
theorem QtpR.m (h:QtpR w1 aw nw cw C r x slot h0 h1 tv ch none W):QtpR w1 aw nw cw C r x slot h0 h1 tv ch (some W.heap.size) (W.alloc (.cells #[Value.nilFunc,Value.nilFunc] 173)):=by
 have h2:=h.keep (W':=W.alloc (.cells #[Value.nilFunc,Value.nilFunc] 173)) ((Below.refl _ _).alloc nr _)
 refine⟨h2.bel,fun M g7 g8 he=>?_,fun a n c he=>?_,fun g he=>?_⟩
 ·obtain⟨e1,W0,e2,e3,e4⟩:=h.tst M g7 g8 he
  refine⟨e1,W0,e2,bS e3 ((Below.refl _ _).alloc nr _),fun g hg=>?_⟩
  cases hg
  exact .inr e3.size
 ·obtain⟨W0,base,e1,e2,e3,e4⟩:=h.chn a n c he
  refine⟨W0,base,e1,e2,bS e3 ((Below.refl _ _).alloc nr _),fun g hg=>?_⟩
  cases hg
  exact .inr e3.size
 ·cases he
  exact⟨heap_alloc_new W _,h.bel.size⟩
theorem QtpR.c1 (hC:aP w1 aw nw C.W C.sd)(hx:VwR w1 r x)(h:QtpR w1 aw nw cw C r x slot h0 h1 none ch al W):Calls Tryz.prog 115 #[.agg (m02 aw nw cw C),.agg (m01 r),.int .i64 slot] W fun e W'=>∃M g7 g8,e=.returned (.agg #[.func (.func 133) #[] (m31 M g7),.func (.func 134) #[] (m23 M g8)])/\QtpR w1 aw nw cw C r x slot h0 h1 (some (M,g7,g8)) ch al W':=by
 refine(aJh aw nw cw C r x slot W (hC.below h.bel nr) (hx.below h.bel nr)).mono ?_
 rintro e W' ⟨g7,g8,rfl,hq,hb⟩
 have h2:=h.keep hb
 refine⟨W.heap.size,g7,g8,rfl,h2.bel,fun M g7 g8 he=>?_,h2.chn,h2.all⟩
 cases he
 exact⟨h.bel.size,W',hq,Below.refl _ _,fun g hg=>.inl (gS (h.all g hg).1)⟩
theorem QtpR.c2 (hx:VwR w1 r x)(h:QtpR w1 aw nw cw C r x slot h0 h1 tv none al W):Calls Tryz.prog 12 #[.slice r.ab r.nb r.cb,.agg (m08 h0 h1)] W fun e W'=>∃a n c,e=.returned (m63 a n c)/\QtpR w1 aw nw cw C r x slot h0 h1 tv (some (a,n,c)) al W':=by
 have hx2:=hx.below h.bel nr
 refine(gR r.ab r.nb r.cb x.b h0 h1 W hx2.ok.b.len hx2.ok.bm hx2.ok.u hx2.ok.b.rows.blks).mono ?_
 rintro e W' ⟨v,rfl,own,hb⟩
 obtain⟨a,c,rfl,-,-⟩:=own.sl0 gI
 have h2:=h.keep hb
 refine⟨a,_,c,rfl,h2.bel,h2.tst,fun a n c he=>?_,h2.all⟩
 cases he
 exact⟨W',_,own,Nat.le_succ_of_le h.bel.size,Below.refl _ _,fun g hg=>.inl (Nat.lt_succ_of_lt (gS (h.all g hg).1))⟩
end
abbrev vG :Array Oper:=#[⟨some 12,.load 25 (.tmp 4),25,"quick.go:39",#[],none⟩,
 ⟨some 13,.load 38 (.tmp 5),38,"quick.go:39",#[],none⟩,
 ⟨some 14,.move (.tmp 2),3,"quick.go:39",#[],none⟩,
 ⟨some 15,.call ⟨.value (.func 115),#[.tmp 12,.tmp 13,.tmp 14],#[25,38,3]⟩,173,"quick.go:39",#[⟨0,.data⟩,⟨1,.data⟩,⟨2,.data⟩],none⟩,
 ⟨some 16,.fieldAddr 38 (.tmp 5) 0,0,"quick.go:39",#[],none⟩,
 ⟨some 17,.load 35 (.tmp 16),35,"quick.go:39",#[⟨4,.data⟩],none⟩,
 ⟨some 18,.load 40 (.tmp 7),40,"quick.go:39",#[],none⟩,
 ⟨some 19,.call ⟨.value (.func 12),#[.tmp 17,.tmp 18],#[35,40]⟩,47,"quick.go:39",#[⟨5,.data⟩,⟨6,.data⟩,⟨3,.chain⟩],none⟩,
 ⟨some 10,.alloc 173,0,"quick.go:39",#[],none⟩,
 ⟨none,.store 173 (.tmp 10) (.tmp 15),0,"quick.go:39",#[⟨8,.data⟩,⟨3,.data⟩,⟨7,.chain⟩,⟨0,.phase⟩,⟨1,.phase⟩,⟨2,.phase⟩,⟨3,.phase⟩,⟨4,.textOnly .lateStores⟩,⟨5,.textOnly .lateStores⟩,⟨6,.textOnly .lateStores⟩,⟨7,.textOnly .lateStoresUnsure⟩,⟨8,.phase⟩],none⟩,
 ⟨some 11,.assign (.tmp 19),47,"quick.go:39",#[⟨7,.data⟩,⟨9,.chain⟩,⟨0,.phase⟩,⟨1,.phase⟩,⟨2,.phase⟩,⟨3,.phase⟩,⟨4,.phase⟩,⟨5,.phase⟩,⟨6,.phase⟩,⟨7,.phase⟩,⟨8,.phase⟩,⟨9,.phase⟩],none⟩]
abbrev qtSL (aw:Option Addr) (nw cw:Nat) (C:Tp.Cf) (r:RV) (x:Tp.Vw) (slot h0 h1:Int) (N0 N1 N2 N3:Nat) (w1:World) (HC:Hid (aP w1 aw nw C.W C.sd)) (HX:Hid (VwR w1 r x)) (hc0:∀W,Below w1.heap.size w1 W->W.cell? (m00 N0)=some (.slice aw nw cw)/\W.cell? (m15 N0)=some (.int .u64 C.sd)/\W.cell? (m25 N0)=some (.int .i64 C.ep)/\W.cell? (m33 N0)=some (.int .i64 C.nu)/\W.cell? (m35 N0)=some (.int .i64 C.de)) (hc1:∀W,Below w1.heap.size w1 W->W.cell? (m00 N1)=some (.slice r.ab r.nb r.cb)/\W.cell? (m15 N1)=some (.slice r.av r.nv r.cv)) (hc2:∀W,Below w1.heap.size w1 W->W.cell? (m00 N2)=some (.int .u64 h0)/\W.cell? (m15 N2)=some (.int .u64 h1)):List (Nat×(World->Prop)):=[(0,fun W=>W.cell? (m00 N0)=some (.slice aw nw cw)/\W.cell? (m15 N0)=some (.int .u64 C.sd)/\W.cell? (m25 N0)=some (.int .i64 C.ep)/\W.cell? (m33 N0)=some (.int .i64 C.nu)/\W.cell? (m35 N0)=some (.int .i64 C.de)),(1,fun W=>W.cell? (m00 N1)=some (.slice r.ab r.nb r.cb)/\W.cell? (m15 N1)=some (.slice r.av r.nv r.cv)),(5,fun W=>W.cell? (m00 N1)=some (.slice r.ab r.nb r.cb)),(6,fun W=>W.cell? (m00 N2)=some (.int .u64 h0)/\W.cell? (m15 N2)=some (.int .u64 h1))]
section
variable (Q:Exit->Act->World->Prop)(hQp:∀(c:_) (a:Act) (d:Option Tmp) (v:Value) (w:World),Q (.panic c) (a.put d v) w->Q (.panic c) a w)(aw:Option Addr)(nw cw:Nat)(C:Tp.Cf)(r:RV)(x:Tp.Vw)(slot h0 h1:Int)(N0 N1 N2 N3:Nat)(w1:World)(HC:Hid (aP w1 aw nw C.W C.sd))(HX:Hid (VwR w1 r x))(hc0:∀W,Below w1.heap.size w1 W->W.cell? (m00 N0)=some (.slice aw nw cw)/\W.cell? (m15 N0)=some (.int .u64 C.sd)/\W.cell? (m25 N0)=some (.int .i64 C.ep)/\W.cell? (m33 N0)=some (.int .i64 C.nu)/\W.cell? (m35 N0)=some (.int .i64 C.de))(hc1:∀W,Below w1.heap.size w1 W->W.cell? (m00 N1)=some (.slice r.ab r.nb r.cb)/\W.cell? (m15 N1)=some (.slice r.av r.nv r.cv))(hc2:∀W,Below w1.heap.size w1 W->W.cell? (m00 N2)=some (.int .u64 h0)/\W.cell? (m15 N2)=some (.int .u64 h1))(hQ:∀M g7 g8 ca cn cc g W,QtpR w1 aw nw cw C r x slot h0 h1 (some (M,g7,g8)) (some (ca,cn,cc)) (some g) W->Q .normal { tmps:=#[.agg (m02 aw nw cw C),.agg (m01 r),.int .i64 slot,.agg (m08 h0 h1),.pointer (some (m00 N0)),.pointer (some (m00 N1)),undef,.pointer (some (m00 N2)),.pointer (some (m00 N3)),.bool false,.pointer (some (m00 g)),.slice ca cn cc,.agg (m02 aw nw cw C),.agg (m01 r),.int .i64 slot,.agg #[.func (.func 133) #[] (m31 M g7),.func (.func 134) #[] (m23 M g8)],.pointer (some (m00 N1)),.slice r.ab r.nb r.cb,.agg (m08 h0 h1),.slice ca cn cc,undef,undef,undef,undef,undef,undef,undef,undef,undef,undef,undef,undef,undef,undef,undef,undef,undef,undef],defers:=[] } ((W.setCell (m00 g) (.func (.func 133) #[] (m31 M g7))).setCell (m15 g) (.func (.func 134) #[] (m23 M g8))))
include Q hQp aw nw cw C r x slot h0 h1 N0 N1 N2 N3 w1 HC HX hc0 hc1 hc2 hQ
theorem sW (M g7 g8:Nat)(ca:Option Addr)(cn cc:Nat)(g:Nat)(W:World)(hR:QtpR w1 aw nw cw C r x slot h0 h1 (some (M,g7,g8)) (some (ca,cn,cc)) (some g) W):
  aB Tryz.prog .any vG Q (qtSL aw nw cw C r x slot h0 h1 N0 N1 N2 N3 w1 HC HX hc0 hc1 hc2) 2 #[true,true,true,true,true,true,true,true,true,false,false] { tmps:=#[.agg (m02 aw nw cw C),.agg (m01 r),.int .i64 slot,.agg (m08 h0 h1),.pointer (some (m00 N0)),.pointer (some (m00 N1)),undef,.pointer (some (m00 N2)),.pointer (some (m00 N3)),.bool false,.pointer (some (m00 g)),undef,.agg (m02 aw nw cw C),.agg (m01 r),.int .i64 slot,.agg #[.func (.func 133) #[] (m31 M g7),.func (.func 134) #[] (m23 M g8)],.pointer (some (m00 N1)),.slice r.ab r.nb r.cb,.agg (m08 h0 h1),.slice ca cn cc,undef,undef,undef,undef,undef,undef,undef,undef,undef,undef,undef,undef,undef,undef,undef,undef,undef,undef],defers:=[] } W:=by
 refine cK 9 (by kernel_rfl) rfl (fun K hK=>?_)
 have c7:W.cell? (m00 g)=some Value.nilFunc:=cA (hR.all _ rfl).1 0
 have f7:=cH (hR.all _ rfl).1 0
 have c8:W.cell? (m15 g)=some Value.nilFunc:=cA (hR.all _ rfl).1 1
 have f8:=cH (hR.all _ rfl).1 1
 go_simp
 refine hK.out _ _ ?_ ?_
 ·exact⟨.inl (hc0 _ ((hR.bel.setCell (p:=(m00 g)) (hR.all _ rfl).2 _).setCell (p:=(m15 g)) (hR.all _ rfl).2 _)),.inl (hc1 _ ((hR.bel.setCell (p:=(m00 g)) (hR.all _ rfl).2 _).setCell (p:=(m15 g)) (hR.all _ rfl).2 _)),.inl (hc1 _ ((hR.bel.setCell (p:=(m00 g)) (hR.all _ rfl).2 _).setCell (p:=(m15 g)) (hR.all _ rfl).2 _)).1,.inl (hc2 _ ((hR.bel.setCell (p:=(m00 g)) (hR.all _ rfl).2 _).setCell (p:=(m15 g)) (hR.all _ rfl).2 _)),trivial⟩
 clear hK K
 try simp only[Act.put,pA,pB,pC]
 refine wX 10 rfl ?_ (hQ:=fun _ _ _=>hQp _ _ _ _ _)
 refine cO (by kernel_rfl) ?_ _
 exact hQ M g7 g8 ca cn cc g W hR
theorem aJg (M g7 g8:Nat)(ca:Option Addr)(cn cc:Nat)(W:World)(hR:QtpR w1 aw nw cw C r x slot h0 h1 (some (M,g7,g8)) (some (ca,cn,cc)) none W):
  aB Tryz.prog .any vG Q (qtSL aw nw cw C r x slot h0 h1 N0 N1 N2 N3 w1 HC HX hc0 hc1 hc2) 3 #[true,true,true,true,true,true,true,true,false,false,false] { tmps:=#[.agg (m02 aw nw cw C),.agg (m01 r),.int .i64 slot,.agg (m08 h0 h1),.pointer (some (m00 N0)),.pointer (some (m00 N1)),undef,.pointer (some (m00 N2)),.pointer (some (m00 N3)),.bool false,undef,undef,.agg (m02 aw nw cw C),.agg (m01 r),.int .i64 slot,.agg #[.func (.func 133) #[] (m31 M g7),.func (.func 134) #[] (m23 M g8)],.pointer (some (m00 N1)),.slice r.ab r.nb r.cb,.agg (m08 h0 h1),.slice ca cn cc,undef,undef,undef,undef,undef,undef,undef,undef,undef,undef,undef,undef,undef,undef,undef,undef,undef,undef],defers:=[] } W:=by
 have hmk:=@run_makeMap Tryz.prog
 refine cJ [8] (by kernel_rfl) (by simp) ?_
 refine cD 8 rfl (fun K hK=>?_) ?_
 ·go_simp
  have hR2:=hR.m
  replace hR:=hR2
  clear hR2
  refine hK.out _ _ ?_ ?_
  ·exact⟨.inl (hc0 _ (hR.bel)),.inl (hc1 _ (hR.bel)),.inl (hc1 _ (hR.bel)).1,.inl (hc2 _ (hR.bel)),trivial⟩
  clear hK K hmk
  try simp only[Act.put,pA,pB,pC]
  exact sW Q hQp aw nw cw C r x slot h0 h1 N0 N1 N2 N3 w1 HC HX hc0 hc1 hc2 hQ M g7 g8 ca cn cc _ _ hR
 exact cE
theorem aCi (M g7 g8:Nat)(g:Nat)(W:World)(hR:QtpR w1 aw nw cw C r x slot h0 h1 (some (M,g7,g8)) none (some g) W):
  aB Tryz.prog .any vG Q (qtSL aw nw cw C r x slot h0 h1 N0 N1 N2 N3 w1 HC HX hc0 hc1 hc2) 3 #[true,true,true,true,true,true,true,false,true,false,false] { tmps:=#[.agg (m02 aw nw cw C),.agg (m01 r),.int .i64 slot,.agg (m08 h0 h1),.pointer (some (m00 N0)),.pointer (some (m00 N1)),undef,.pointer (some (m00 N2)),.pointer (some (m00 N3)),.bool false,.pointer (some (m00 g)),undef,.agg (m02 aw nw cw C),.agg (m01 r),.int .i64 slot,.agg #[.func (.func 133) #[] (m31 M g7),.func (.func 134) #[] (m23 M g8)],.pointer (some (m00 N1)),.slice r.ab r.nb r.cb,.agg (m08 h0 h1),undef,undef,undef,undef,undef,undef,undef,undef,undef,undef,undef,undef,undef,undef,undef,undef,undef,undef,undef],defers:=[] } W:=by
 have hmk:=@run_makeMap Tryz.prog
 refine cJ [7] (by kernel_rfl) (by simp) ?_
 refine cD 7 rfl (fun K hK=>?_) ?_
 ·go_simp
  refine(QtpR.c2 HX.out hR).mono ?_;rintro e W2 ⟨ca,cn,cc,rfl,hR2⟩
  replace hR:=hR2
  clear hR2
  refine hK.out _ _ ?_ ?_
  ·exact⟨.inl (hc0 _ (hR.bel)),.inl (hc1 _ (hR.bel)),.inl (hc1 _ (hR.bel)).1,.inl (hc2 _ (hR.bel)),trivial⟩
  clear hK K hmk
  try simp only[Act.put,pA,pB,pC]
  exact sW Q hQp aw nw cw C r x slot h0 h1 N0 N1 N2 N3 w1 HC HX hc0 hc1 hc2 hQ M g7 g8 ca cn cc g _ hR
 exact cE
theorem aNj (M g7 g8:Nat)(W:World)(hR:QtpR w1 aw nw cw C r x slot h0 h1 (some (M,g7,g8)) none none W):
  aB Tryz.prog .any vG Q (qtSL aw nw cw C r x slot h0 h1 N0 N1 N2 N3 w1 HC HX hc0 hc1 hc2) 4 #[true,true,true,true,true,true,true,false,false,false,false] { tmps:=#[.agg (m02 aw nw cw C),.agg (m01 r),.int .i64 slot,.agg (m08 h0 h1),.pointer (some (m00 N0)),.pointer (some (m00 N1)),undef,.pointer (some (m00 N2)),.pointer (some (m00 N3)),.bool false,undef,undef,.agg (m02 aw nw cw C),.agg (m01 r),.int .i64 slot,.agg #[.func (.func 133) #[] (m31 M g7),.func (.func 134) #[] (m23 M g8)],.pointer (some (m00 N1)),.slice r.ab r.nb r.cb,.agg (m08 h0 h1),undef,undef,undef,undef,undef,undef,undef,undef,undef,undef,undef,undef,undef,undef,undef,undef,undef,undef,undef],defers:=[] } W:=by
 have hmk:=@run_makeMap Tryz.prog
 refine cJ [7,8] (by kernel_rfl) (by simp) ?_
 refine cD 7 rfl (fun K hK=>?_) ?_
 ·go_simp
  refine(QtpR.c2 HX.out hR).mono ?_;rintro e W2 ⟨ca,cn,cc,rfl,hR2⟩
  replace hR:=hR2
  clear hR2
  refine hK.out _ _ ?_ ?_
  ·exact⟨.inl (hc0 _ (hR.bel)),.inl (hc1 _ (hR.bel)),.inl (hc1 _ (hR.bel)).1,.inl (hc2 _ (hR.bel)),trivial⟩
  clear hK K hmk
  try simp only[Act.put,pA,pB,pC]
  exact aJg Q hQp aw nw cw C r x slot h0 h1 N0 N1 N2 N3 w1 HC HX hc0 hc1 hc2 hQ M g7 g8 ca cn cc _ hR
 refine cD 8 rfl (fun K hK=>?_) ?_
 ·go_simp
  have hR2:=hR.m
  replace hR:=hR2
  clear hR2
  refine hK.out _ _ ?_ ?_
  ·exact⟨.inl (hc0 _ (hR.bel)),.inl (hc1 _ (hR.bel)),.inl (hc1 _ (hR.bel)).1,.inl (hc2 _ (hR.bel)),trivial⟩
  clear hK K hmk
  try simp only[Act.put,pA,pB,pC]
  exact aCi Q hQp aw nw cw C r x slot h0 h1 N0 N1 N2 N3 w1 HC HX hc0 hc1 hc2 hQ M g7 g8 _ _ hR
 exact cE
theorem aNi (g:Nat)(W:World)(hR:QtpR w1 aw nw cw C r x slot h0 h1 none none (some g) W):
  aB Tryz.prog .any vG Q (qtSL aw nw cw C r x slot h0 h1 N0 N1 N2 N3 w1 HC HX hc0 hc1 hc2) 4 #[true,true,true,false,true,true,true,false,true,false,false] { tmps:=#[.agg (m02 aw nw cw C),.agg (m01 r),.int .i64 slot,.agg (m08 h0 h1),.pointer (some (m00 N0)),.pointer (some (m00 N1)),undef,.pointer (some (m00 N2)),.pointer (some (m00 N3)),.bool false,.pointer (some (m00 g)),undef,.agg (m02 aw nw cw C),.agg (m01 r),.int .i64 slot,undef,.pointer (some (m00 N1)),.slice r.ab r.nb r.cb,.agg (m08 h0 h1),undef,undef,undef,undef,undef,undef,undef,undef,undef,undef,undef,undef,undef,undef,undef,undef,undef,undef,undef],defers:=[] } W:=by
 have hmk:=@run_makeMap Tryz.prog
 refine cJ [3] (by kernel_rfl) (by simp) ?_
 refine cD 3 rfl (fun K hK=>?_) ?_
 ·go_simp
  refine(QtpR.c1 HC.out HX.out hR).mono ?_;rintro e W2 ⟨M,g7,g8,rfl,hR2⟩
  replace hR:=hR2
  clear hR2
  refine hK.out _ _ ?_ ?_
  ·exact⟨.inl (hc0 _ (hR.bel)),.inl (hc1 _ (hR.bel)),.inl (hc1 _ (hR.bel)).1,.inl (hc2 _ (hR.bel)),trivial⟩
  clear hK K hmk
  try simp only[Act.put,pA,pB,pC]
  exact aCi Q hQp aw nw cw C r x slot h0 h1 N0 N1 N2 N3 w1 HC HX hc0 hc1 hc2 hQ M g7 g8 g _ hR
 exact cE
theorem qt_ (W:World)(hR:QtpR w1 aw nw cw C r x slot h0 h1 none none none W):
  aB Tryz.prog .any vG Q (qtSL aw nw cw C r x slot h0 h1 N0 N1 N2 N3 w1 HC HX hc0 hc1 hc2) 5 #[true,true,true,false,true,true,true,false,false,false,false] { tmps:=#[.agg (m02 aw nw cw C),.agg (m01 r),.int .i64 slot,.agg (m08 h0 h1),.pointer (some (m00 N0)),.pointer (some (m00 N1)),undef,.pointer (some (m00 N2)),.pointer (some (m00 N3)),.bool false,undef,undef,.agg (m02 aw nw cw C),.agg (m01 r),.int .i64 slot,undef,.pointer (some (m00 N1)),.slice r.ab r.nb r.cb,.agg (m08 h0 h1),undef,undef,undef,undef,undef,undef,undef,undef,undef,undef,undef,undef,undef,undef,undef,undef,undef,undef,undef],defers:=[] } W:=by
 have hmk:=@run_makeMap Tryz.prog
 refine cJ [3,8] (by kernel_rfl) (by simp) ?_
 refine cD 3 rfl (fun K hK=>?_) ?_
 ·go_simp
  refine(QtpR.c1 HC.out HX.out hR).mono ?_;rintro e W2 ⟨M,g7,g8,rfl,hR2⟩
  replace hR:=hR2
  clear hR2
  refine hK.out _ _ ?_ ?_
  ·exact⟨.inl (hc0 _ (hR.bel)),.inl (hc1 _ (hR.bel)),.inl (hc1 _ (hR.bel)).1,.inl (hc2 _ (hR.bel)),trivial⟩
  clear hK K hmk
  try simp only[Act.put,pA,pB,pC]
  exact aNj Q hQp aw nw cw C r x slot h0 h1 N0 N1 N2 N3 w1 HC HX hc0 hc1 hc2 hQ M g7 g8 _ hR
 refine cD 8 rfl (fun K hK=>?_) ?_
 ·go_simp
  have hR2:=hR.m
  replace hR:=hR2
  clear hR2
  refine hK.out _ _ ?_ ?_
  ·exact⟨.inl (hc0 _ (hR.bel)),.inl (hc1 _ (hR.bel)),.inl (hc1 _ (hR.bel)).1,.inl (hc2 _ (hR.bel)),trivial⟩
  clear hK K hmk
  try simp only[Act.put,pA,pB,pC]
  exact aNi Q hQp aw nw cw C r x slot h0 h1 N0 N1 N2 N3 w1 HC HX hc0 hc1 hc2 hQ _ _ hR
 exact cE
theorem aCh (hR:QtpR w1 aw nw cw C r x slot h0 h1 none none none w1.drew):(Code.region 1 vG true).wp Tryz.prog Q { tmps:=#[.agg (m02 aw nw cw C),.agg (m01 r),.int .i64 slot,.agg (m08 h0 h1),.pointer (some (m00 N0)),.pointer (some (m00 N1)),undef,.pointer (some (m00 N2)),.pointer (some (m00 N3)),.bool false,undef,undef,undef,undef,undef,undef,undef,undef,undef,undef,undef,undef,undef,undef,undef,undef,undef,undef,undef,undef,undef,undef,undef,undef,undef,undef,undef,undef],defers:=[] } w1:=by
 refine cN (qtSL aw nw cw C r x slot h0 h1 N0 N1 N2 N3 w1 HC HX hc0 hc1 hc2) (by kernel_rfl) ?_
 generalize w1.drew=W at hR⊢
 show aB _ _ _ _ _ 11 #[false,false,false,false,false,false,false,false,false,false,false] _ _
 refine wY 0 0 rfl rfl (hc0 _ hR.bel) ?_ (hQ:=fun _ _ _=>hQp _ _ _ _ _)
 refine wY 1 1 rfl rfl (hc1 _ hR.bel) ?_ (hQ:=fun _ _ _=>hQp _ _ _ _ _)
 refine wX 2 rfl ?_ (hQ:=fun _ _ _=>hQp _ _ _ _ _)
 refine wX 4 rfl ?_ (hQ:=fun _ _ _=>hQp _ _ _ _ _)
 refine wY 2 5 rfl rfl ((hc1 _ hR.bel).1) ?_ (hQ:=fun _ _ _=>hQp _ _ _ _ _)
 refine wY 3 6 rfl rfl (hc2 _ hR.bel) ?_ (hQ:=fun _ _ _=>hQp _ _ _ _ _)
 exact qt_ Q hQp aw nw cw C r x slot h0 h1 N0 N1 N2 N3 w1 HC HX hc0 hc1 hc2 hQ _ hR
end
theorem SlV.tail {α:Type}{f:α->List Value}{k:Nat}{w:World}{b o n c:Nat}{x:α}{l:List α}(h:SlV f k w (some ⟨b,o,none⟩) n c (x::l)):SlV f k w (some ⟨b,o+k,none⟩) (n-1) (c-1) l:=by
 have hl:=h.len
 have hc:=h.cap
 have ht:=h.top
 rw[List.length_cons]at hl
 refine⟨by omega,by omega,by omega,?_⟩
 rcases h.rows with h0|⟨b',o',ha,hlt,hcl⟩
 ·simp at h0
 ·cases ha
  refine .inr ⟨_,_,rfl,hlt,fun i hi j hj=>?_⟩
  have:=hcl (i+1) (by simpa using hi) j hj
  rw[List.getElem_cons_succ]at this
  rw[<-this]
  congr 2
  rw[Nat.succ_mul]
  omega
structure qF (w:World) (aw:Option Addr) (nw cw:Nat) (C:Tp.Cf) (r:RV) (x:Tp.Vw) (slot h0 h1:Int) (M g7 g8 g:Nat) (la:Option Addr) (ln lc:Nat) (l:List (Int×Int)) (wr:World):Prop where
 bel:Below w.heap.size w wr
 qt:QtR wr M (M+1) g7 g8 aw nw cw C r x slot
 bx:wr.heap[g]?=some (.cells #[.func (.func 133) #[] (m31 M g7),.func (.func 134) #[] (m23 M g8)] 173 (0,0))
 res:wr.heap[w.heap.size+3]?=some (.cells (m26) 40 (0,0))
 sl:SlV idC 2 wr la ln lc l
 tot:(Tp.bQ C x slot (h0,h1))=Tp.yT (Tp.aFu C x slot) l
theorem qF.keep {w:World}{aw:Option Addr}{nw cw:Nat}{C:Tp.Cf}{r:RV}{x:Tp.Vw}{slot h0 h1:Int}{M g7 g8 g:Nat}{la:Option Addr}{ln lc:Nat}{l:List (Int×Int)}{wr W:World}(h:qF w aw nw cw C r x slot h0 h1 M g7 g8 g la ln lc l wr)(hb:Below wr.heap.size wr W):qF w aw nw cw C r x slot h0 h1 M g7 g8 g la ln lc l W:=
 ⟨bS h.bel hb,h.qt.keep hb,bK hb h.bx,bK hb h.res,h.sl.keep hb,h.tot⟩
def TopJ (w:World) (aw:Option Addr) (nw cw:Nat) (C:Tp.Cf) (r:RV) (x:Tp.Vw) (slot h0 h1:Int) (a':Act) (w':World):Prop:=
 ∃(M g7 g8 g:Nat) (la:Option Addr) (ln lc:Nat) (l:List (Int×Int)) (u12 u13 u14 u15 u16 u17 u18 u19 u20 u21 u22 u23 u24 u25 u26 u27 u28 u29 u30 u31 u32 u33 u34 u35 u36 u37:Value),a'={ tmps:=#[.agg (m02 aw nw cw C),.agg (m01 r),.int .i64 slot,.agg (m08 h0 h1),.pointer (some (m07 w)),.pointer (some (m22 w)),undef,.pointer (some (m45 w)),.pointer (some ⟨w.heap.size+3,0,none⟩),.bool false,.pointer (some (m00 g)),.slice la ln lc,u12,u13,u14,u15,u16,u17,u18,u19,u20,u21,u22,u23,u24,u25,u26,u27,u28,u29,u30,u31,u32,u33,u34,u35,u36,u37],defers:=[] }/\qF w aw nw cw C r x slot h0 h1 M g7 g8 g la ln lc l w'
theorem xK (aw:Option Addr)(nw cw:Nat)(C:Tp.Cf)(r:RV)(x:Tp.Vw)(slot h0 h1:Int)(w:World)(hC:aP w aw nw C.W C.sd)(hx:VwR w r x)(hm:Tp.mayC C.W C.ep C.nu C.de=true):
  Calls Tryz.prog 100 #[.agg (m02 aw nw cw C),.agg (m01 r),.int .i64 slot,.agg (m08 h0 h1)] w fun e w'=>
   e=.returned (.tuple #[.agg #[.int .u64 (Tp.bQ C x slot (h0,h1)).1.1,.int .u64 (Tp.bQ C x slot (h0,h1)).1.2],.bool (Tp.bQ C x slot (h0,h1)).2])/\Below w.heap.size w w':=by
 obtain⟨hnu,hde⟩:=Tp.aKd hm
 obtain⟨w1,ew1_⟩:∃z,Hid (z=(((w.alloc (.cells (m02 aw nw cw C) 25)).alloc (m49 r)).alloc (m40 h0 h1)).alloc (.cells (m26) 40)):=⟨_,zH rfl⟩
 have hb4:Below w.heap.size w (w1):=by cases ew1_.out;exact(dO _ _ _).alloc (by simp only[World.size_alloc];omega) _
 have hs4:(w1).heap.size=w.heap.size+4:=by cases ew1_.out;simp
 have hcf:(w1).heap[w.heap.size]?=some (.cells (m02 aw nw cw C) 25 (0,0)):=by cases ew1_.out;rw[cF,if_neg (by simp only[World.size_alloc];omega),cF,if_neg (by simp only[World.size_alloc];omega),cF,if_neg (by simp),cF,if_pos rfl]
 have hvw:(w1).heap[w.heap.size+1]?=some (.cells (m01 r) 38 (0,0)):=by cases ew1_.out;rw[cF,if_neg (by simp only[World.size_alloc];omega),cF,if_neg (by simp only[World.size_alloc];omega),cF,if_pos (by simp)]
 have hhd:(w1).heap[w.heap.size+2]?=some (.cells (m08 h0 h1) 40 (0,0)):=by cases ew1_.out;rw[cF,if_neg (by simp only[World.size_alloc];omega),cF,if_pos (by simp)]
 have hrs:(w1).heap[w.heap.size+3]?=some (.cells (m26) 40 (0,0)):=by cases ew1_.out;rw[cF,if_pos (by simp)]
 go_enter Tryz.func100,Tryz.ntmps100
 go_wp2
 refine gW 0 (TopJ w aw nw cw C r x slot h0 h1) (fun a' _=>kK (a'.tmps.getD 11 undef)) rfl ?pass ?first
 case first=>
  intro hrest
  go_wp2_with fail
  rw[<-ew1_.out]
  have HC:=zH (hC.keep hb4)
  have HX:=zH (hx.keep hb4)
  have HXW:=zH hx
  have HCW:=zH hC
  have HB4:=zH hb4
  have HS4:=zH hs4
  clear hC hx hb4 hs4
  refine aCh _ (fun _ _ d _ _ h=>by cases d<;>exact h) aw nw cw C r x slot h0 h1 w.heap.size (w.heap.size+1) (w.heap.size+2) (w.heap.size+3) w1 HC HX ?_ ?_ ?_ ?_ QtpR.start
  ·intro W hb
   have hk:=cG hb (by rw[HS4.out];omega) hcf
   exact⟨cA hk 0,cA hk 1,cA hk 2,cA hk 3,cA hk 4⟩
  ·intro W hb
   have hk:=cG hb (by rw[HS4.out];omega) hvw
   exact⟨cA hk 0,cA hk 1⟩
  ·intro W hb
   have hk:=cG hb (by rw[HS4.out];omega) hhd
   exact⟨cA hk 0,cA hk 1⟩
  ·intro M g7 g8 ca cn cc g W hR
   have hgl:=(hR.all _ rfl).2
   have hsz:=HS4.out
   have T:=set2 W g _ _ (.func (.func 133) #[] (m31 M g7)) (.func (.func 134) #[] (m23 M g8)) _ (hR.all _ rfl).1
   have hbW:=hR.bel.trans (T.below hgl)
   have hbl:=bS HB4.out hbW
   obtain⟨hM,W0,hq,hb0,hsep⟩:=hR.tst _ _ _ rfl
   obtain⟨V0,base,ho,hbs,hbv,hsv⟩:=hR.chn _ _ _ rfl
   have hq2:QtR ((W.setCell (m00 g) (.func (.func 133) #[] (m31 M g7))).setCell (m15 g) (.func (.func 134) #[] (m23 M g8))) M (M+1) g7 g8 aw nw cw C r x slot:=by
    rcases hsep g rfl with h|h
    ·exact(hq.keep hb0).low T h (HCW.out.keep hbl) (HXW.out.keep hbl)
    ·exact hq.keep (hb0.trans (T.below h))
   have hs2:SlV idC 2 ((W.setCell (m00 g) (.func (.func 133) #[] (m31 M g7))).setCell (m15 g) (.func (.func 134) #[] (m23 M g8))) ca cn cc (Tp.chain x.b (h0,h1)):=by
    rcases hsv g rfl with h|h
    ·exact(cP gI ((ho.keep hbv).far T (fun k hk=>by have:=((ho.keep hbv).lt k hk).1;omega))).1
    ·exact(cP gI (ho.keep (hbv.trans (T.below h)))).1
   have hrel:qF w aw nw cw C r x slot h0 h1 M g7 g8 g ca cn cc (Tp.chain x.b (h0,h1)) ((W.setCell (m00 g) (.func (.func 133) #[] (m31 M g7))).setCell (m15 g) (.func (.func 134) #[] (m23 M g8))):=
    ⟨hbl,hq2,T.new,cG hbW (by rw[hsz];omega) hrs,hs2,rfl⟩
   have HREL:=zH hrel
   clear hgl hsz T hbW hbl hM hq hb0 hsep ho hbs hbv hsv hq2 hs2 hrel hR
   generalize(W.setCell (m00 g) (.func (.func 133) #[] (m31 M g7))).setCell (m15 g) (.func (.func 134) #[] (m23 M g8))=w5 at HREL⊢
   go_wp2_with fail
   go_step3
   rename_i hK
   refine hK _ _ (hrest _ _ ⟨M,g7,g8,g,ca,cn,cc,_,_,_,_,_,_,_,_,_,_,_,_,_,_,_,_,_,_,_,_,_,_,_,_,_,_,_,rfl,HREL.out⟩)
 case pass=>
  clear hb4 hs4 hcf hvw hhd hrs
  rintro a' wr ⟨M,g7,g8,g,la,ln,lc,l,u12,u13,u14,u15,u16,u17,u18,u19,u20,u21,u22,u23,u24,u25,u26,u27,u28,u29,u30,u31,u32,u33,u34,u35,u36,u37,rfl,hR⟩
  obtain⟨r0,r1⟩:=kc2 hR.res
  obtain⟨f0,f1⟩:=kf2 hR.res
  have hm1:ln<=9223372036854775807:=Nat.le_trans hR.sl.cap hR.sl.top
  by_cases hl2:ln<2
  ·have d1:decide ((ln:Int)<2)=true:=decide_eq_true (by omega)
   have hq:(Tp.bQ C x slot (h0,h1))=((0,0),false):=by
    rw[hR.tot]
    have:=hR.sl.len
    match l,this with
    | [],_=>rfl
    | [_],_=>rfl
    |_::_::_,h=>simp at h;omega
   have T:=set2 wr (w.heap.size+3) _ _ (.int .u64 0) (.int .u64 0) _ hR.res
   have HB:=zH (hR.bel.trans (T.below (Nat.le_add_right _ _)))
   have HQ:=zH hq
   clear hR hq T hl2
   go_wp2
   simp only[Exit.jump]
   refine bodyPost_ret (v:=.tuple #[.agg (m26),.bool false]) ?_ rfl ⟨by rw[HQ.out],HB.out⟩
   simp[results,Tryz.results100,go_sem,r0,r1]
  ·have d1:decide ((ln:Int)<2)=false:=decide_eq_false (by omega)
   obtain⟨⟨t0,t1⟩,y,rest,rfl⟩:∃(x0:Int×Int) (y:Int×Int) (rest:List (Int×Int)),l=x0::y::rest:=by
    have:=hR.sl.len
    match l,this with
    | [],h=>simp at h;omega
    | [_],h=>simp at h;omega
    |a::b::c,_=>exact⟨a,b,c,rfl⟩
   obtain⟨b,o,rfl,hlt,hc⟩:∃b o,la=some ⟨b,o,none⟩/\b<wr.heap.size/\∀i (hi:i<((t0,t1)::y::rest).length) j,j<2->wr.cell? (m09 b (o+i*2+j))=(idC ((t0,t1)::y::rest)[i])[j]?:=by
    rcases hR.sl.rows with h0|h0
    ·simp at h0
    ·exact h0
   have e0:wr.cell? (m09 b o)=some (.int .u64 t0):=hc 0 (by simp) 0 (by omega)
   have e1:wr.cell? (m09 b (o+1))=some (.int .u64 t1):=hc 0 (by simp) 1 (by omega)
   have htail:=hR.sl.tail
   have hlen:=hR.sl.len
   have hcap:=hR.sl.cap
   have htop:=hR.sl.top
   rw[List.length_cons,List.length_cons]at hlen
   have k0:(0:Int)<ln:=by omega
   have kn0:0<ln:=by omega
   have k1:(1:Int)<=ln:=by omega
   have k2:(ln:Int)<=lc:=by omega
   have hon:=Tp.aMd C x slot (t0,t1)
   obtain⟨nn,hnn⟩:∃z,Tp.onC C x slot (t0,t1)=z:=⟨_,rfl⟩
   obtain⟨sb,hsb⟩:∃z,Tp.aFu C x slot (t0,t1)=z:=⟨_,rfl⟩
   have hsu:Rt.moreB (2*nn) C.de (Tp.allC C slot) (C.de+2*C.nu)=sb:=by
    rw[<-hsb,<-hnn]
    try rfl
   rw[hnn]at hon
   have hrd:∀W,Below wr.heap.size wr W->W.cell? (m00 g)=some (.func (.func 133) #[] (m31 M g7))/\W.cell? (m15 g)=some (.func (.func 134) #[] (m23 M g8))/\W.cell? (m09 b o)=some (.int .u64 t0)/\W.cell? (m09 b (o+1))=some (.int .u64 t1):=by
    intro W hb
    have h1:=(hR.keep hb).bx
    exact⟨cA h1 0,cA h1 1,(hb.cell (p:=(m09 b o)) hlt).trans e0,(hb.cell (p:=(m09 b (o+1))) hlt).trans e1⟩
   have HRD:=zH hrd
   have HR:=zH hR
   have HNN:=zH hnn
   have HSB:=zH hsb
   have HSU:=zH hsu
   have HTL:=zH htail
   have HLEN:=zH hlen
   clear hrd hR hnn hsb hsu hc htail hlen
   go_wp2_with fail
   go_region_held3 (fun W=>W.cell? (m00 g)=some (.func (.func 133) #[] (m31 M g7))/\W.cell? (m15 g)=some (.func (.func 134) #[] (m23 M g8))/\W.cell? (m09 b o)=some (.int .u64 t0)/\W.cell? (m09 b (o+1))=some (.int .u64 t1))
    (first|exact HRD.out _ ((Below.refl _ wr).drew)|exact HRD.out _ bA|exact HRD.out _ bC)
    (first
     |(go_at_call 133;refine(aMb M (M+1) g7 g8 aw nw cw C r x slot t0 t1 wr.drew (HR.out.qt.keep ((Below.refl _ wr).drew))).mono ?_;rintro e wA ⟨rfl,hbA⟩;rw[HNN.out];have bA:=bS ((Below.refl _ wr).drew) hbA)
     |(go_at_call 134;refine(aMa M (M+1) g7 g8 aw nw cw C r x slot nn wA (HR.out.qt.keep bA) hon hnu hde).mono ?_;rintro e wC ⟨rfl,hbC⟩;rw[HSU.out];have bC:=bS bA hbC))
   have hR5:=HR.out.keep bC
   have HR5:=zH hR5
   obtain⟨s0,s1⟩:=kc2 hR5.res
   obtain⟨p0,p1⟩:=kf2 hR5.res
   have z0:wC.cell? (m09 b o)=some (.int .u64 t0):=(HRD.out _ bC).2.2.1
   have z1:wC.cell? (m09 b (o+1))=some (.int .u64 t1):=(HRD.out _ bC).2.2.2
   have T:=set2 wC (w.heap.size+3) _ _ (m68 t0) (m68 t1) _ hR5.res
   have HBT:=zH (hR5.bel.trans (T.below (Nat.le_add_right _ _)))
   clear hR5 T r0 r1 f0 f1 e0 e1
   cases sb with
   |true=>
    have hq:(Tp.bQ C x slot (h0,h1))=((t0,t1),true):=by
     rw[HR.out.tot,Tp.yT,HSB.out]
     try rfl
    have HQ:=zH hq
    clear hq
    go_wp2
    simp only[Exit.jump]
    refine bodyPost_ret (v:=.tuple #[.agg (m08 t0 t1),.bool true]) ?_ rfl ⟨by rw[HQ.out],HBT.out⟩
    simp[results,Tryz.results100,go_sem,s0,s1]
   |false=>
    have hq:(Tp.bQ C x slot (h0,h1))=Tp.yT (Tp.aFu C x slot) (y::rest):=by
     rw[HR.out.tot,Tp.yT,HSB.out]
     try rfl
    have hR6:qF w aw nw cw C r x slot h0 h1 M g7 g8 g (some ⟨b,o+2,none⟩) (ln-1) (lc-1) (y::rest) wC:=⟨HR5.out.bel,HR5.out.qt,HR5.out.bx,HR5.out.res,HTL.out.keep bC,hq⟩
    have HR6:=zH hR6
    clear hq hR6
    go_wp2_with fail
    go_step3
    refine⟨rfl,⟨M,g7,g8,g,_,_,_,_,_,_,_,_,_,_,_,_,_,_,_,_,_,_,_,_,_,_,_,_,_,_,_,_,_,_,rfl,HR6.out⟩,?_⟩
    show ln-1<ln
    omega
def RN.val (r:RN):Value:=.agg (aT r).toArray
def RO.val (r:RO):Value:=.agg (offC r).toArray
def fR (a:Option Addr) (n:Nat) (X:Nat):Prop:=n=0\/∀b off,a=some ⟨b,off,none⟩->b≠X
def RV.Off (r:RV) (X:Nat):Prop:=fR r.ab r.nb X/\fR r.av r.nv X
theorem RV.New.off {r:RV}{N X:Nat}(h:r.New N)(hX:X<N):r.Off X:=⟨.inr fun b off e=>by have:=h.1 b off e;omega,.inr fun b off e=>by have:=h.2 b off e;omega⟩
theorem SlV.away {α:Type}{f:α->List Value}{k:Nat}{w:World}{a:Option Addr}{n c X:Nat}{l:List α}(h:SlV f k w a n c l)(hX:w.heap.size<=X):fR a n X:=by
 rcases h.rows with h0|⟨b,o,rfl,hlt,hc⟩
 ·exact .inl (h.len▸h0)
 ·refine .inr fun b' off e=>?_
  injection e with e
  injection e with e1 e2 e3
  omega
theorem SlV.keepS {α:Type}{f:α->List Value}{k:Nat}{w w':World}{a:Option Addr}{n c X:Nat}{l:List α}(h:SlV f k w a n c l)(hk:aC (· =X) w w')(ha:fR a n X):SlV f k w' a n c l:=by
 refine⟨h.len,h.cap,h.top,?_⟩
 rcases h.rows with h0|⟨b,o,rfl,hlt,hc⟩
 ·exact .inl h0
 ·rcases ha with h0|ha
  ·exact .inl (h.len.trans h0)
  ·exact .inr ⟨b,o,rfl,Nat.lt_of_lt_of_le hlt hk.size,fun i hi j hj=>(World.cell?_of_block (a:=⟨b,_,none⟩) (hk.block b hlt (ha b o rfl))).trans (hc i hi j hj)⟩
theorem VwR.away {w:World}{r:RV}{x:Tp.Vw}{X:Nat}(h:VwR w r x)(hX:w.heap.size<=X):r.Off X:=⟨h.ok.b.away hX,h.ok.v.away hX⟩
theorem VwR.keepS {w w':World}{r:RV}{x:Tp.Vw}{X:Nat}(h:VwR w r x)(hk:aC (· =X) w w')(ha:r.Off X):VwR w' r x:=⟨⟨h.ok.b.keepS hk ha.1,h.ok.v.keepS hk ha.2,h.ok.u,h.ok.bm,h.ok.vm⟩,h.nb0,h.nv0⟩
theorem VwR.farN {w w':World}{r:RV}{x:Tp.Vw}{B N:Nat}{o:Obj}(h:VwR w r x)(ht:cT B o w w')(hn:r.New N)(hB:B<N):VwR w' r x:=h.keepS (cL ht rfl) (hn.off hB)
theorem vL (i:Int)(w:World):
  Calls Tryz.prog 25 #[.int .i64 i] w fun e w'=>e=.returned (RN.val ⟨i,3,⟨none,0,0,none,0,0⟩,⟨none,0,0,none,0,0⟩,none,0,0,0,0,0,0,false⟩)/\Below w.heap.size w w':=by
 have hr:(w.alloc (.cells (m57 i) 44)).heap[w.heap.size]?=some (.cells (m57 i) 44 (0,0)):=by rw[cF,if_pos rfl]
 have hb:Below w.heap.size w (w.alloc (.cells (m57 i) 44)):=(Below.refl _ _).alloc nr _
 go_enter Tryz.func25,Tryz.ntmps25
 go_wp2_with fail
 refine bodyPost_ret (v:=RN.val ⟨i,3,⟨none,0,0,none,0,0⟩,⟨none,0,0,none,0,0⟩,none,0,0,0,0,0,0,false⟩) ?_ rfl ⟨rfl,hb⟩
 simp[results,Tryz.results25,go_sem,RN.val,aT]
theorem xO (b:Tp.B)(w:World):
  Calls Tryz.prog 98 #[.agg (aK b).toArray] w fun e w'=>∃t:RV,e=.returned (.agg (m01 t))/\(b.U->VwR w' t (Tp.lone b))/\t.New w.heap.size/\Below w.heap.size w w':=by
 obtain⟨b0,b1,b2,b3,b4⟩:=b
 obtain⟨w1,ew1_⟩:∃z,Hid (z=((w.alloc (.cells (m11 b0 b1 b2 b3 b4) 56)).alloc (.cells #[.slice (some ⟨w.heap.size+1+1,0,none⟩) 1 1,.slice none 0 0] 38)).alloc (.cells (m11 b0 b1 b2 b3 b4) 56)):=⟨_,zH rfl⟩
 have hb3:Below w.heap.size w (w1):=by cases ew1_.out;exact dO _ _ _
 have hg:(w1).heap[w.heap.size+1+1]?=some (.cells (m11 b0 b1 b2 b3 b4) 56 (0,0)):=by cases ew1_.out;rw[cF,if_pos (by simp)]
 have hrr:(w1).heap[w.heap.size+1]?=some (.cells #[.slice (some ⟨w.heap.size+1+1,0,none⟩) 1 1,.slice none 0 0] 38 (0,0)):=by cases ew1_.out;rw[cF,if_neg (by simp),cF,if_pos (by simp)]
 simp only[aK]
 go_enter Tryz.func98,Tryz.ntmps98
 go_wp2_with fail
 rw[<-ew1_.out]
 have hr:w1.heap[w.heap.size+1]?=some (.cells #[.slice (some ⟨w.heap.size+1+1,0,none⟩) 1 1,.slice none 0 0] 38 (0,0)):=hrr
 obtain⟨r0,r1⟩:=kc2 hr
 have hlt:=(gS hg)
 refine bodyPost_ret (v:=.agg #[.slice (some ⟨w.heap.size+1+1,0,none⟩) 1 1,.slice none 0 0]) ?_ rfl ⟨⟨some ⟨w.heap.size+1+1,0,none⟩,1,1,none,0,0⟩,rfl,fun hU=>⟨⟨?_,⟨rfl,Nat.le_refl _,Nat.zero_le _,.inl rfl⟩,?_,(by show(1:Nat)<=1000000;omega),Nat.zero_le _⟩,(fun e=>by cases e),fun _=>⟨rfl,rfl⟩⟩,⟨?_,(fun b o e=>by cases e)⟩,hb3⟩
 ·simp[results,Tryz.results98,go_sem,r0,r1]
 ·refine⟨rfl,Nat.le_refl _,(by show(1:Nat)<=_;omega),.inr ⟨w.heap.size+1+1,0,rfl,hlt,fun j hj i hi=>?_⟩⟩
  obtain rfl:j=0:=by simp[Tp.lone]at hj;omega
  simp only[Tp.lone,List.getElem_cons_zero,aK]
  have:=cA hg i
  match i,hi with
  |0,_=>exact cA hg 0
  |1,_=>exact cA hg 1
  |2,_=>exact cA hg 2
  |3,_=>exact cA hg 3
  |4,_=>exact cA hg 4
 ·intro y hy
  simp only[Tp.lone,List.mem_singleton]at hy
  subst hy
  exact hU
 ·intro b o e
  injection e with e
  injection e with e1 e2 e3
  omega
theorem wL (r:RV)(x:Tp.Vw)(w:World)(hx:VwR w r x):
  Calls Tryz.prog 62 #[.agg (m01 r)] w fun e w'=>∃t:RV,e=.returned (.agg (m01 t))/\VwR w' t x/\t.New w.heap.size/\Below w.heap.size w w':=by
 obtain⟨w1,ew1_⟩:∃z,Hid (z=(w.alloc (m49 r)).alloc (m56)):=⟨_,zH rfl⟩
 have hb2:Below w.heap.size w (w1):=by cases ew1_.out;exact cR _ _
 have hr:(w1).heap[w.heap.size]?=some (.cells (m01 r) 38 (0,0)):=by cases ew1_.out;rw[cF,if_neg (by simp),cF,if_pos rfl]
 have hr2:(w1).heap[w.heap.size+1]?=some (.cells (m18) 38 (0,0)):=by cases ew1_.out;rw[cF,if_pos (by simp)]
 have hs2:w.heap.size+1<(w1).heap.size:=by cases ew1_.out;simp
 go_enter Tryz.func62,Tryz.ntmps62
 go_wp2_with fail
 rw[<-ew1_.out]
 obtain⟨x0,x1⟩:=kc2 hr
 have HX:=zH (hx.keep hb2.drew)
 have HB2:=zH hb2
 clear hx hb2
 go_region_held3 (fun w'=>w'.cell? (m07 w)=some (.slice r.ab r.nb r.cb)/\w'.cell? (m14 w)=some (.slice r.av r.nv r.cv))
  (first|exact⟨x0,x1⟩|exact⟨xB0,xB1⟩|exact⟨xV0,xV1⟩|exact hx4 _ _)
  (first
   |(go_at_call 81;refine(eW r.ab r.nb r.cb x.b _ HX.out.ok.b HX.out.ok.bm HX.out.nb0).mono ?_;rintro e wB ⟨vb,rfl,ob,hbB⟩;obtain⟨ab,cb,rfl,-,-⟩:=ob.sl0 cY;have hrB:=cG hbB (Nat.lt_of_succ_lt hs2) hr;have hr2B:=cG hbB hs2 hr2;have xB0:wB.cell? (m07 w)=some (.slice r.ab r.nb r.cb):=cA hrB 0;have xB1:wB.cell? (m14 w)=some (.slice r.av r.nv r.cv):=cA hrB 1)
   |(go_at_call 82;refine(fG r.av r.nv r.cv x.v _ (HX.out.keep hbB).ok.v HX.out.ok.vm HX.out.nv0).mono ?_;rintro e wV ⟨vv,rfl,ov,hbV⟩;obtain⟨av,cv,rfl,-,-⟩:=ov.sl0 cW;have ob:=ob.keep hbV;have ov:=OwnL.lower (base':=w1.heap.size) ov hbB.size;have bel:=bS hbB hbV;have hrV:=cG bel (Nat.lt_of_succ_lt hs2) hr;have hr2V:=cG bel hs2 hr2;have xV0:wV.cell? (m07 w)=some (.slice r.ab r.nb r.cb):=cA hrV 0;have xV1:wV.cell? (m14 w)=some (.slice r.av r.nv r.cv):=cA hrV 1;have r0:wV.cell? (m22 w)=some (.slice none 0 0):=cA hr2V 0;have r1:wV.cell? (m29 w)=some (.slice none 0 0):=cA hr2V 1;have f0:=cH hr2V 0;have f1:=cH hr2V 1;have hx4:∀x y,((wV.setCell (m22 w) x).setCell (m29 w) y).cell? (m07 w)=some (.slice r.ab r.nb r.cb)/\((wV.setCell (m22 w) x).setCell (m29 w) y).cell? (m14 w)=some (.slice r.av r.nv r.cv):=fun x y=>have hq:=(((Below.refl (w.heap.size+1) wV).setCell (p:=(m22 w)) nr x).setCell (p:=(m29 w)) nr y);⟨(hq.cell (p:=(m07 w)) (Nat.lt_succ_self _)).trans xV0,(hq.cell (p:=(m14 w)) (Nat.lt_succ_self _)).trans xV1⟩))
 have T:=set2 _ (w.heap.size+1) _ _ (m63 ab x.b.length cb) (m63 av x.v.length cv) _ hr2V
 have s1:=ob.turn T hs2
 have s2:=ov.turn T hs2
 have HNEW:=zH (show(⟨ab,x.b.length,cb,av,x.v.length,cv⟩:RV).New w.heap.size from⟨fun b o e=>Nat.le_trans HB2.out.size (ob.new b o e),fun b o e=>Nat.le_trans HB2.out.size (ov.new b o e)⟩)
 have HT:=zH (show VwR _ ⟨ab,x.b.length,cb,av,x.v.length,cv⟩ x from VwR.of_own s1 s2 HX.out.ok.u (by rw[HX.out.ok.b.len];exact HX.out.ok.bm) (by rw[HX.out.ok.v.len];exact HX.out.ok.vm))
 have HBT:=zH ((bS HB2.out.drew bel).trans (T.below (Nat.le_add_right _ _)))
 clear s1 s2 T
 go_wp2
 refine bodyPost_ret (v:=.agg (m52 ab x.b.length cb av x.v.length cv)) ?_ rfl ⟨_,rfl,HT.out,HNEW.out,HBT.out⟩
 simp[results,Tryz.results62,go_sem,r0,r1]
theorem aDp (n:RN)(x y:Tp.Vw)(w:World)(hx:VwR w n.v x)(hy:VwR w n.inn y)(h1:(Tp.join x y).b.length<=1000000)(h2:(Tp.join x y).v.length<=1000000):
  Calls Tryz.prog 85 #[.agg (aT n).toArray] w fun e w'=>∃t:RV,e=.returned (.agg (m01 t))/\VwR w' t (Tp.join x y)/\t.New w.heap.size/\Below w.heap.size w w':=by
 obtain⟨w1,ew1_⟩:∃z,Hid (z=(w.alloc (.cells (m03 n.no n.tick n.v n.inn n.oa n.on n.oc n.p n.q n.sl n.rev n.full) 44)).alloc (m56)):=⟨_,zH rfl⟩
 have hb2:Below w.heap.size w (w1):=by cases ew1_.out;exact cR _ _
 have hr:(w1).heap[w.heap.size]?=some (.cells (m03 n.no n.tick n.v n.inn n.oa n.on n.oc n.p n.q n.sl n.rev n.full) 44 (0,0)):=by cases ew1_.out;rw[cF,if_neg (by simp),cF,if_pos rfl]
 have hr2:(w1).heap[w.heap.size+1]?=some (.cells (m18) 38 (0,0)):=by cases ew1_.out;rw[cF,if_pos (by simp)]
 have hs2:w.heap.size+1<(w1).heap.size:=by cases ew1_.out;simp
 simp only[aT]
 go_enter Tryz.func85,Tryz.ntmps85
 go_wp2_with fail
 rw[<-ew1_.out]
 have c2:w1.cell? (m17 w)=some (.slice n.v.ab n.v.nb n.v.cb):=cA hr 2
 have c3:w1.cell? (m19 w)=some (.slice n.v.av n.v.nv n.v.cv):=cA hr 3
 have c4:w1.cell? (m27 w)=some (.slice n.inn.ab n.inn.nb n.inn.cb):=cA hr 4
 have c5:w1.cell? (m61 w)=some (.slice n.inn.av n.inn.nv n.inn.cv):=cA hr 5
 go_wp2_with fail
 refine(dY n.v n.inn x y w1 (hx.keep hb2) (hy.keep hb2) h1 h2).mono ?_
 rintro e w2 ⟨⟨tb,mb,kb,tv,mv,kv⟩,rfl,ht,htn,hb3⟩
 have hr2':=cG hb3 hs2 hr2
 obtain⟨z0,z1⟩:=kc2 hr2'
 obtain⟨f0,f1⟩:=kf2 hr2'
 have T:=set2 _ (w.heap.size+1) _ _ (m63 tb mb kb) (m63 tv mv kv) _ hr2'
 have HT:=zH (ht.farN T htn hs2)
 have HN:=zH (htn.lower (Nat.le_trans (Nat.le_succ _) (Nat.le_of_lt hs2)))
 have HB:=zH ((bS hb2 hb3).trans (T.below (Nat.le_succ _)))
 clear T ht htn hr2' hr hr2 hx hy h1 h2 hb2 hb3
 dsimp only
 go_wp2_with fail
 refine bodyPost_ret (v:=.agg (m52 tb mb kb tv mv kv)) ?_ rfl ⟨_,rfl,HT.out,HN.out,HB.out⟩
 simp[results,Tryz.results85,go_sem,z0,z1]
def Tp.dA (tick:Int):Int:=if(tick-1)%3=2 then(tick-1)/3 else(tick-1)/3-1
theorem iT (aw:Option Addr)(nw cw:Nat)(C:Tp.Cf)(n:RN)(x:Tp.Vw)(w:World)(hC:aP w aw nw C.W C.sd)(hx:VwR w n.v x)(htk:1<=n.tick/\n.tick<=1000000):
  Calls Tryz.prog 11 #[.agg (m02 aw nw cw C),.agg (aT n).toArray] w fun e w'=>
   e=.returned (.agg #[.int .u64 (Tp.aL C x (Tp.dA n.tick)).1,.int .u64 (Tp.aL C x (Tp.dA n.tick)).2])/\Below w.heap.size w w':=by
 obtain⟨w1,ew1_⟩:∃z,Hid (z=((w.alloc (.cells (m02 aw nw cw C) 25)).alloc (.cells (m03 n.no n.tick n.v n.inn n.oa n.on n.oc n.p n.q n.sl n.rev n.full) 44)).alloc (.cells (m26) 40)):=⟨_,zH rfl⟩
 have hb3:Below w.heap.size w (w1):=by cases ew1_.out;exact dO _ _ _
 have hr0:(w1).heap[w.heap.size]?=some (.cells (m02 aw nw cw C) 25 (0,0)):=by cases ew1_.out;rw[cF,if_neg (by simp only[World.size_alloc];omega),cF,if_neg (by simp),cF,if_pos rfl]
 have hr1:(w1).heap[w.heap.size+1]?=some (.cells (m03 n.no n.tick n.v n.inn n.oa n.on n.oc n.p n.q n.sl n.rev n.full) 44 (0,0)):=by cases ew1_.out;rw[cF,if_neg (by simp),cF,if_pos (by simp)]
 have hr2:(w1).heap[w.heap.size+2]?=some (.cells (m26) 40 (0,0)):=by cases ew1_.out;rw[cF,if_pos (by simp)]
 have hs3:w.heap.size+2<(w1).heap.size:=by cases ew1_.out;simp
 obtain⟨hi1,hi2⟩:=htk
 by_cases hm:(n.tick-1)%3=2
 ·have hsl:Tp.dA n.tick=(n.tick-1)/3:=if_pos hm
  rw[hsl]
  clear hsl
  simp only[aT]
  go_enter Tryz.func11,Tryz.ntmps11
  go_wp2_with fail
  rw[<-ew1_.out]
  refine(iY aw nw cw C.W C.sd C.ep C.nu C.de n.v.ab n.v.nb n.v.cb x.b n.v.av n.v.nv n.v.cv x.v _ w1 (hC.keep hb3) (hx.keep hb3).ok).mono ?_
  rintro e w2 ⟨rfl,hb2⟩
  have hr2':=cG hb2 hs3 hr2
  obtain⟨z0,z1⟩:=kc2 hr2'
  obtain⟨f0,f1⟩:=kf2 hr2'
  have T:=set2 w2 (w.heap.size+2) _ _ (.int .u64 (Tp.aL C x ((n.tick-1)/3)).1) (.int .u64 (Tp.aL C x ((n.tick-1)/3)).2) _ hr2'
  have HB:=zH ((bS hb3 hb2).trans (T.below (Nat.le_add_right _ 2)))
  change _=_ at z0
  simp only[Tp.aL]at HB⊢
  clear T hr2' hr0 hr1 hr2 hx hC hb2 hb3
  go_wp2_with fail
  refine bodyPost_ret (v:=.agg #[.int .u64 (Tp.aL C x ((n.tick-1)/3)).1,.int .u64 (Tp.aL C x ((n.tick-1)/3)).2]) ?_ rfl ⟨rfl,HB.out⟩
  simp[results,Tryz.results11,go_sem,z0,z1,Tp.aL]
 ·have hsl:Tp.dA n.tick=(n.tick-1)/3-1:=if_neg hm
  rw[hsl]
  clear hsl
  simp only[aT]
  go_enter Tryz.func11,Tryz.ntmps11
  go_wp2_with fail
  rw[<-ew1_.out]
  refine(iY aw nw cw C.W C.sd C.ep C.nu C.de n.v.ab n.v.nb n.v.cb x.b n.v.av n.v.nv n.v.cv x.v _ w1 (hC.keep hb3) (hx.keep hb3).ok).mono ?_
  rintro e w2 ⟨rfl,hb2⟩
  have hr2':=cG hb2 hs3 hr2
  obtain⟨z0,z1⟩:=kc2 hr2'
  obtain⟨f0,f1⟩:=kf2 hr2'
  have T:=set2 w2 (w.heap.size+2) _ _ (.int .u64 (Tp.aL C x ((n.tick-1)/3-1)).1) (.int .u64 (Tp.aL C x ((n.tick-1)/3-1)).2) _ hr2'
  have HB:=zH ((bS hb3 hb2).trans (T.below (Nat.le_add_right _ 2)))
  change _=_ at z0
  simp only[Tp.aL]at HB⊢
  clear T hr2' hr0 hr1 hr2 hx hC hb2 hb3
  go_wp2_with fail
  refine bodyPost_ret (v:=.agg #[.int .u64 (Tp.aL C x ((n.tick-1)/3-1)).1,.int .u64 (Tp.aL C x ((n.tick-1)/3-1)).2]) ?_ rfl ⟨rfl,HB.out⟩
  simp[results,Tryz.results11,go_sem,z0,z1,Tp.aL]
def zD (B:Nat):Nat->List Value->World->World
 |_,[],w=>w
 |k,v::r,w=>zD B (k+1) r (w.setCell (m09 B k) v)
def setL :Nat->List Value->List Value->List Value
 |_,[],l=>l
 |k,v::r,l=>setL (k+1) r (l.set k v)
theorem cM {B:Nat}{t:TypeId}:∀(vs:List Value) (k:Nat) (l:List Value) (w:World),w.heap[B]?=some (.cells l.toArray t (0,0))->k+vs.length<=l.length->cT B (.cells (setL k vs l).toArray t (0,0)) w (zD B k vs w)
 | [],k,l,w,h,_=>⟨rfl,rfl,rfl,rfl,h,fun _ _=>rfl⟩
 |v::r,k,l,w,h,hk=>by
  have hk':k+(r.length+1)<=l.length:=hk
  have T:=iN (i:=k) (v:=v) h (by simp;omega)
  rw[List.setIfInBounds_toArray]at T
  have U:=cM r (k+1) (l.set k v) (w.setCell (m09 B k) v) T.new (by simp;omega)
  exact⟨U.os.trans T.os,U.tape.trans T.tape,U.output.trans T.output,U.size.trans T.size,U.new,fun j hj=>(U.block j hj).trans (T.block j hj)⟩
theorem qB (o:RO)(x:Tp.Vw)(w:World)(hx:VwR w o.v x):
  Calls Tryz.prog 63 #[o.val] w fun e w'=>∃t:RV,e=.returned (RO.val { o with v:=t })/\VwR w' t x/\t.New w.heap.size/\Below w.heap.size w w':=by
 obtain⟨o0,o1,⟨b0,b1,b2,b3,b4⟩,⟨ab,nb,cb,av,nv,cv⟩⟩:=o
 have hb2:Below w.heap.size w ((w.alloc (.cells #[.int .i64 o0,.int .i64 o1,.int .i64 b0,.int .i64 b1,.int .u64 b2,.int .u64 b3,.int .u64 b4,.slice ab nb cb,.slice av nv cv] 112)).alloc (.cells #[.int .i64 0,.int .i64 0,.int .i64 0,.int .i64 0,.int .u64 0,.int .u64 0,.int .u64 0,.slice none 0 0,.slice none 0 0] 112)):=cR _ _
 have hr:((w.alloc (.cells #[.int .i64 o0,.int .i64 o1,.int .i64 b0,.int .i64 b1,.int .u64 b2,.int .u64 b3,.int .u64 b4,.slice ab nb cb,.slice av nv cv] 112)).alloc (.cells #[.int .i64 0,.int .i64 0,.int .i64 0,.int .i64 0,.int .u64 0,.int .u64 0,.int .u64 0,.slice none 0 0,.slice none 0 0] 112)).heap[w.heap.size]?=some (.cells #[.int .i64 o0,.int .i64 o1,.int .i64 b0,.int .i64 b1,.int .u64 b2,.int .u64 b3,.int .u64 b4,.slice ab nb cb,.slice av nv cv] 112 (0,0)):=by rw[cF,if_neg (by simp),cF,if_pos rfl]
 have hr2:((w.alloc (.cells #[.int .i64 o0,.int .i64 o1,.int .i64 b0,.int .i64 b1,.int .u64 b2,.int .u64 b3,.int .u64 b4,.slice ab nb cb,.slice av nv cv] 112)).alloc (.cells #[.int .i64 0,.int .i64 0,.int .i64 0,.int .i64 0,.int .u64 0,.int .u64 0,.int .u64 0,.slice none 0 0,.slice none 0 0] 112)).heap[w.heap.size+1]?=some (.cells #[.int .i64 0,.int .i64 0,.int .i64 0,.int .i64 0,.int .u64 0,.int .u64 0,.int .u64 0,.slice none 0 0,.slice none 0 0] 112 (0,0)):=by rw[cF,if_pos (by simp)]
 have hs2:w.heap.size+1<((w.alloc (.cells #[.int .i64 o0,.int .i64 o1,.int .i64 b0,.int .i64 b1,.int .u64 b2,.int .u64 b3,.int .u64 b4,.slice ab nb cb,.slice av nv cv] 112)).alloc (.cells #[.int .i64 0,.int .i64 0,.int .i64 0,.int .i64 0,.int .u64 0,.int .u64 0,.int .u64 0,.slice none 0 0,.slice none 0 0] 112)).heap.size:=by simp
 simp only[RO.val,offC]
 go_enter Tryz.func63,Tryz.ntmps63
 go_wp2_with fail
 generalize(w.alloc (.cells #[.int .i64 o0,.int .i64 o1,.int .i64 b0,.int .i64 b1,.int .u64 b2,.int .u64 b3,.int .u64 b4,.slice ab nb cb,.slice av nv cv] 112)).alloc (.cells #[.int .i64 0,.int .i64 0,.int .i64 0,.int .i64 0,.int .u64 0,.int .u64 0,.int .u64 0,.slice none 0 0,.slice none 0 0] 112)=w1 at hb2 hr hr2 hs2⊢
 have HX:=zH (hx.keep hb2)
 clear hx
 refine(wL ⟨ab,nb,cb,av,nv,cv⟩ x w1 HX.out).mono ?_
 rintro e w2 ⟨⟨tb,mb,kb,tv,mv,kv⟩,rfl,ht,htn,hb3⟩
 have hr':=cG hb3 (Nat.lt_of_succ_lt hs2) hr
 have hr2':=cG hb3 hs2 hr2
 have hb23:=bS hb2 hb3
 have hsz2:w.heap.size+1<w2.heap.size:=Nat.lt_of_lt_of_le hs2 hb3.size
 have T:cT w.heap.size (.cells #[.int .i64 o0,.int .i64 o1,.int .i64 b0,.int .i64 b1,.int .u64 b2,.int .u64 b3,.int .u64 b4,.slice tb mb kb,.slice tv mv kv] 112 (0,0)) w2 ((w2.setCell ⟨w.heap.size,7,none⟩ (.slice tb mb kb)).setCell ⟨w.heap.size,8,none⟩ (.slice tv mv kv)):=cM [.slice tb mb kb,.slice tv mv kv] 7 _ _ hr' (by show(9:Nat)<=9;omega)
 have p7:w2.cell? ⟨w.heap.size,7,none⟩=some (.slice ab nb cb):=cA hr' 7
 have p8:w2.cell? ⟨w.heap.size,8,none⟩=some (.slice av nv cv):=cA hr' 8
 have q7:=cH hr' 7
 have q8:=cH hr' 8
 obtain⟨c0,c1,c2,c3,c4,c5,c6,c7,c8⟩:=kc9 T.new
 have hr3:=(T.block _ (Nat.succ_ne_self w.heap.size)).trans hr2'
 obtain⟨z0,z1,z2,z3,z4,z5,z6,z7,z8⟩:=kc9 hr3
 obtain⟨f0,f1,f2,f3,f4,f5,f6,f7,f8⟩:=kf9 hr3
 have T2:=cM [.int .i64 o0,.int .i64 o1,.int .i64 b0,.int .i64 b1,.int .u64 b2,.int .u64 b3,.int .u64 b4,.slice tb mb kb,.slice tv mv kv] 0 _ _ hr3 (by show(9:Nat)<=9;omega)
 have HT:=zH T
 have HT2:=zH T2
 have HB:=zH hb23
 have HTV:=zH (And.intro ht htn)
 have HS1:=zH (And.intro hb2.size (And.intro hb3.size hs2))
 clear hb2 hr hr2 hs2 hb3 hr' hr2' T T2 hb23 ht htn hr3
 dsimp only
 have HF:=zH (show VwR (zD (w.heap.size+1) 0 [.int .i64 o0,.int .i64 o1,.int .i64 b0,.int .i64 b1,.int .u64 b2,.int .u64 b3,.int .u64 b4,.slice tb mb kb,.slice tv mv kv] ((w2.setCell ⟨w.heap.size,7,none⟩ (.slice tb mb kb)).setCell ⟨w.heap.size,8,none⟩ (.slice tv mv kv))) ⟨tb,mb,kb,tv,mv,kv⟩ x from(HTV.out.1.farN HT.out HTV.out.2 (Nat.lt_of_succ_lt HS1.out.2.2)).farN HT2.out HTV.out.2 HS1.out.2.2)
 have HBT:=zH ((HB.out.trans (HT.out.below nr)).trans (HT2.out.below (Nat.le_succ _)))
 have HNW:=zH (HTV.out.2.lower HS1.out.1)
 go_wp2_with fail
 refine bodyPost_ret (v:=.agg #[.int .i64 o0,.int .i64 o1,.int .i64 b0,.int .i64 b1,.int .u64 b2,.int .u64 b3,.int .u64 b4,.slice tb mb kb,.slice tv mv kv]) ?_ rfl ⟨⟨tb,mb,kb,tv,mv,kv⟩,rfl,HF.out,HNW.out,HBT.out⟩
 have hN:(((((((((((w2.setCell ⟨w.heap.size,7,none⟩ (.slice tb mb kb)).setCell ⟨w.heap.size,8,none⟩ (.slice tv mv kv)).setCell ⟨w.heap.size+1,0,none⟩ (.int .i64 o0)).setCell ⟨w.heap.size+1,1,none⟩ (.int .i64 o1)).setCell ⟨w.heap.size+1,2,none⟩ (.int .i64 b0)).setCell ⟨w.heap.size+1,3,none⟩ (.int .i64 b1)).setCell ⟨w.heap.size+1,4,none⟩ (.int .u64 b2)).setCell ⟨w.heap.size+1,5,none⟩ (.int .u64 b3)).setCell ⟨w.heap.size+1,6,none⟩ (.int .u64 b4)).setCell ⟨w.heap.size+1,7,none⟩ (.slice tb mb kb)).setCell ⟨w.heap.size+1,8,none⟩ (.slice tv mv kv)).heap[w.heap.size+1]?=some (.cells #[.int .i64 o0,.int .i64 o1,.int .i64 b0,.int .i64 b1,.int .u64 b2,.int .u64 b3,.int .u64 b4,.slice tb mb kb,.slice tv mv kv] 112 (0,0)):=HT2.out.new
 generalize(((((((((((w2.setCell ⟨w.heap.size,7,none⟩ (.slice tb mb kb)).setCell ⟨w.heap.size,8,none⟩ (.slice tv mv kv)).setCell ⟨w.heap.size+1,0,none⟩ (.int .i64 o0)).setCell ⟨w.heap.size+1,1,none⟩ (.int .i64 o1)).setCell ⟨w.heap.size+1,2,none⟩ (.int .i64 b0)).setCell ⟨w.heap.size+1,3,none⟩ (.int .i64 b1)).setCell ⟨w.heap.size+1,4,none⟩ (.int .u64 b2)).setCell ⟨w.heap.size+1,5,none⟩ (.int .u64 b3)).setCell ⟨w.heap.size+1,6,none⟩ (.int .u64 b4)).setCell ⟨w.heap.size+1,7,none⟩ (.slice tb mb kb)).setCell ⟨w.heap.size+1,8,none⟩ (.slice tv mv kv))=W5 at hN⊢
 obtain⟨e0,e1,e2,e3,e4,e5,e6,e7,e8⟩:=kc9 hN
 simp[results,Tryz.results63,go_sem,e0,e1,e2,e3,e4,e5,e6,e7,e8]
section
theorem Ints.keepS {w w':World}{a:Option Addr}{l:List Int}{X:Nat}(h:Ints w a l)(hk:aC (· =X) w w')(ha:fR a l.length X):Ints w' a l:=by
 rcases h with h0|⟨b,o,rfl,hlt,hc⟩
 ·exact .inl h0
 ·rcases ha with h0|ha
  ·exact .inl h0
  ·exact .inr ⟨b,o,rfl,Nat.lt_of_lt_of_le hlt hk.size,fun i hi=>(World.cell?_of_block (a:=⟨b,_,none⟩) (hk.block b hlt (ha b o rfl))).trans (hc i hi)⟩
theorem Ints.away {w:World}{a:Option Addr}{l:List Int}{X:Nat}(h:Ints w a l)(hX:w.heap.size<=X):fR a l.length X:=by
 rcases h with h0|⟨b,o,rfl,hlt,hc⟩
 ·exact .inl h0
 ·refine .inr fun b' off e=>?_
  injection e with e
  injection e with e1 e2 e3
  omega
theorem aP.keepS {w w':World}{aw:Option Addr}{nw:Nat}{W:List Int}{sd:Int}{X:Nat}(h:aP w aw nw W sd)(hk:aC (· =X) w w')(ha:fR aw nw X):aP w' aw nw W sd:=⟨h.len,h.max,h.seed,h.ints.keepS hk (h.len▸ha)⟩
theorem aP.away {w:World}{aw:Option Addr}{nw:Nat}{W:List Int}{sd:Int}{X:Nat}(h:aP w aw nw W sd)(hX:w.heap.size<=X):fR aw nw X:=h.len▸h.ints.away hX
structure dD (w:World) (a:Option Addr) (n c:Nat) (os:List (RO×Tp.Vw)):Prop where
 sl:SlV offC 9 w a n c (os.map Prod.fst)
 nil:a=none->n=0/\c=0
 vw:∀p∈os,VwR w p.1.v p.2
 u:∀p∈os,p.1.b.U
 bd:n<=1000000
def aS (p:RO×Tp.Vw):Tp.Off:=⟨p.1.slot,p.1.who,p.1.b,p.2⟩
def dM (a:Option Addr) (n:Nat) (os:List (RO×Tp.Vw)) (X:Nat):Prop:=fR a n X/\∀p∈os,p.1.v.Off X
theorem dD.below {w w':World}{a:Option Addr}{n c B:Nat}{os:List (RO×Tp.Vw)}(h:dD w a n c os)(hb:Below B w w')(hB:w.heap.size<=B):dD w' a n c os:=⟨h.sl.below hb hB,h.nil,fun p hp=>(h.vw p hp).below hb hB,h.u,h.bd⟩
theorem dD.keep {w w':World}{a:Option Addr}{n c:Nat}{os:List (RO×Tp.Vw)}(h:dD w a n c os)(hb:Below w.heap.size w w'):dD w' a n c os:=h.below hb nr
theorem dD.keepS {w w':World}{a:Option Addr}{n c X:Nat}{os:List (RO×Tp.Vw)}(h:dD w a n c os)(hk:aC (· =X) w w')(ha:dM a n os X):dD w' a n c os:=⟨h.sl.keepS hk ha.1,h.nil,fun p hp=>(h.vw p hp).keepS hk (ha.2 p hp),h.u,h.bd⟩
theorem dD.away {w:World}{a:Option Addr}{n c X:Nat}{os:List (RO×Tp.Vw)}(h:dD w a n c os)(hX:w.heap.size<=X):dM a n os X:=⟨h.sl.away hX,fun p hp=>(h.vw p hp).away hX⟩
theorem dD.len {w:World}{a:Option Addr}{n c:Nat}{os:List (RO×Tp.Vw)}(h:dD w a n c os):os.length=n:=by have:=h.sl.len;rwa [List.length_map]at this
theorem dD.none (w:World):dD w none 0 0 []:=⟨SlV.nil w,fun _=>⟨rfl,rfl⟩,fun p hp=>(by cases hp),fun p hp=>(by cases hp),Nat.zero_le _⟩
structure NdR (w:World) (r:RN) (os:List (RO×Tp.Vw)) (k:Tp.Nd):Prop where
 v:VwR w r.v k.v
 inn:VwR w r.inn k.inn
 o:dD w r.oa r.on r.oc os
 ko:k.o=os.map aS
 no:r.no=k.no
 tick:r.tick=k.tick
 c:k.c=⟨r.p,r.q,r.sl,r.rev⟩
 full:r.full=k.full
structure gU (r:RN) (os:List (RO×Tp.Vw)) (X:Nat):Prop where
 v:r.v.Off X
 inn:r.inn.Off X
 o:dM r.oa r.on os X
theorem NdR.below {w w':World}{r:RN}{os:List (RO×Tp.Vw)}{k:Tp.Nd}{B:Nat}(h:NdR w r os k)(hb:Below B w w')(hB:w.heap.size<=B):NdR w' r os k:=⟨h.v.below hb hB,h.inn.below hb hB,h.o.below hb hB,h.ko,h.no,h.tick,h.c,h.full⟩
theorem NdR.keep {w w':World}{r:RN}{os:List (RO×Tp.Vw)}{k:Tp.Nd}(h:NdR w r os k)(hb:Below w.heap.size w w'):NdR w' r os k:=h.below hb nr
theorem NdR.keepS {w w':World}{r:RN}{os:List (RO×Tp.Vw)}{k:Tp.Nd}{X:Nat}(h:NdR w r os k)(hk:aC (· =X) w w')(ho:gU r os X):NdR w' r os k:=⟨h.v.keepS hk ho.v,h.inn.keepS hk ho.inn,h.o.keepS hk ho.o,h.ko,h.no,h.tick,h.c,h.full⟩
theorem NdR.away {w:World}{r:RN}{os:List (RO×Tp.Vw)}{k:Tp.Nd}{X:Nat}(h:NdR w r os k)(hX:w.heap.size<=X):gU r os X:=⟨h.v.away hX,h.inn.away hX,h.o.away hX⟩
def uQ (aw:Option Addr) (nw cw:Nat) (C:Tp.Cf) (r:RN) (slot:Int) (ta:Option Addr) (tn tc:Nat):List Value:=
 [.int .i64 r.no,.int .i64 r.tick,.slice r.v.ab r.v.nb r.v.cb,.slice r.v.av r.v.nv r.v.cv,.slice r.inn.ab r.inn.nb r.inn.cb,.slice r.inn.av r.inn.nv r.inn.cv,.slice r.oa r.on r.oc,.int .u64 r.p,.int .u64 r.q,.int .i64 r.sl,.int .i64 r.rev,.bool r.full,.slice aw nw cw,.int .u64 C.sd,.int .i64 C.ep,.int .i64 C.nu,.int .i64 C.de,.int .i64 slot,.slice ta tn tc]
class Forb where
 bad:Nat->Prop
variable [Forb]
structure NW (w:World) (X:Nat) (aw:Option Addr) (nw cw:Nat) (C:Tp.Cf) (r:RN) (os:List (RO×Tp.Vw)) (ta:Option Addr) (tn tc:Nat) (ts:List (RO×Tp.Vw)) (k:Tp.Nw):Prop where
 box:w.heap[X]?=some (.cells (uQ aw nw cw C r k.slot ta tn tc).toArray 116 (0,0))
 conf:aP w aw nw C.W C.sd
 coff:fR aw nw X
 nd:NdR w r os k.n
 noff:gU r os X
 told:dD w ta tn tc ts
 toff:dM ta tn ts X
 kt:k.told=ts.map aS
 hi:∀b,Forb.bad b->b<w.heap.size
 fr:∀b,Forb.bad b->gU r os b/\dM ta tn ts b
section
variable {w w':World}{X:Nat}{aw:Option Addr}{nw cw:Nat}{C:Tp.Cf}{r:RN}{os:List (RO×Tp.Vw)}{ta:Option Addr}{tn tc:Nat}{ts:List (RO×Tp.Vw)}{k:Tp.Nw}
theorem NW.lt (h:NW w X aw nw cw C r os ta tn tc ts k):X<w.heap.size:=(gS h.box)
theorem NW.keep (h:NW w X aw nw cw C r os ta tn tc ts k)(hb:Below w.heap.size w w'):NW w' X aw nw cw C r os ta tn tc ts k:=
 ⟨cG hb h.lt h.box,h.conf.keep hb,h.coff,h.nd.keep hb,h.noff,h.told.keep hb,h.toff,h.kt,fun b e=>Nat.lt_of_lt_of_le (h.hi b e) hb.size,h.fr⟩
theorem NW.turn {r':RN}{os':List (RO×Tp.Vw)}{ta':Option Addr}{tn' tc':Nat}{ts':List (RO×Tp.Vw)}{k':Tp.Nw}(h:NW w X aw nw cw C r os ta tn tc ts k)(T:cT X (.cells (uQ aw nw cw C r' k'.slot ta' tn' tc').toArray 116 (0,0)) w w')(nd:NdR w r' os' k'.n)(noff:gU r' os' X)(told:dD w ta' tn' tc' ts')(toff:dM ta' tn' ts' X)(kt:k'.told=ts'.map aS)(fr:∀b,Forb.bad b->gU r' os' b/\dM ta' tn' ts' b):NW w' X aw nw cw C r' os' ta' tn' tc' ts' k':=
 ⟨T.new,h.conf.keepS (cL T rfl) h.coff,h.coff,nd.keepS (cL T rfl) noff,noff,told.keepS (cL T rfl) toff,toff,kt,fun b e=>T.size.symm▸h.hi b e,fr⟩
theorem NW.newOff (h:NW w X aw nw cw C r os ta tn tc ts k){t:RV}(htn:t.New w.heap.size):∀b,b=X\/Forb.bad b->t.Off b:=fun b hb=>htn.off (hb.elim (fun e=>e▸h.lt) (h.hi b))
end
def NWe (w:World) (X:Nat) (aw:Option Addr) (nw cw:Nat) (C:Tp.Cf) (k:Tp.Nw):Prop:=∃r os ta tn tc ts,NW w X aw nw cw C r os ta tn tc ts k
theorem NWe.keep {w w':World}{X:Nat}{aw:Option Addr}{nw cw:Nat}{C:Tp.Cf}{k:Tp.Nw}(h:NWe w X aw nw cw C k)(hb:Below w.heap.size w w'):NWe w' X aw nw cw C k:=by
 obtain⟨r,os,ta,tn,tc,ts,h⟩:=h
 exact⟨r,os,ta,tn,tc,ts,h.keep hb⟩
theorem mS (X:Nat)(aw:Option Addr)(nw cw:Nat)(C:Tp.Cf)(k:Tp.Nw)(slot:Int)(w:World)(h:NWe w X aw nw cw C k):
  Calls Tryz.prog 97 #[.pointer (some (m00 X)),.int .i64 slot] w fun e w'=>e=.returned (.agg #[.int .u64 (Tp.aL C k.n.v slot).1,.int .u64 (Tp.aL C k.n.v slot).2])/\Below w.heap.size w w':=by
 obtain⟨r,os,ta,tn,tc,ts,h⟩:=h
 obtain⟨⟨h0,h1⟩,hh⟩:∃x,Tp.aL C k.n.v slot=x:=⟨_,rfl⟩
 rw[hh]
 have HH:=zH hh
 have hb1:Below w.heap.size w (w.alloc (.cells (m26) 40)):=(Below.refl _ _).alloc nr _
 have hr:(w.alloc (.cells (m26) 40)).heap[w.heap.size]?=some (.cells (m26) 40 (0,0)):=by rw[cF,if_pos rfl]
 have hs1:w.heap.size<(w.alloc (.cells (m26) 40)).heap.size:=by simp
 have hX:=h.lt
 go_enter Tryz.func97,Tryz.ntmps97
 go_wp2_with fail
 generalize w.alloc (.cells (m26) 40)=w1 at hb1 hr hs1⊢
 have H1:=zH (h.keep hb1)
 have HB1:=zH hb1
 have hx:∀W:World,w1.heap.size<=W.heap.size->W.heap[X]?=w1.heap[X]?->W.cell? (m59 X)=some (.slice aw nw cw)/\W.cell? ⟨X,13,none⟩=some (.int .u64 C.sd)/\W.cell? ⟨X,14,none⟩=some (.int .i64 C.ep)/\W.cell? ⟨X,15,none⟩=some (.int .i64 C.nu)/\W.cell? ⟨X,16,none⟩=some (.int .i64 C.de)/\W.cell? (m25 X)=some (.slice r.v.ab r.v.nb r.v.cb)/\W.cell? (m33 X)=some (.slice r.v.av r.v.nv r.v.cv):=fun W _ e=>by
  have hbx:=e.trans H1.out.box
  exact⟨cA hbx 12,cA hbx 13,cA hbx 14,cA hbx 15,cA hbx 16,cA hbx 2,cA hbx 3⟩
 have HX:=zH hx
 obtain⟨x12,x13,x14,x15,x16,x2,x3⟩:=hx w1 nr rfl
 clear hb1 h hh hx
 go_region_held3 (fun W=>W.cell? (m59 X)=some (.slice aw nw cw)/\W.cell? ⟨X,13,none⟩=some (.int .u64 C.sd)/\W.cell? ⟨X,14,none⟩=some (.int .i64 C.ep)/\W.cell? ⟨X,15,none⟩=some (.int .i64 C.nu)/\W.cell? ⟨X,16,none⟩=some (.int .i64 C.de)/\W.cell? (m25 X)=some (.slice r.v.ab r.v.nb r.v.cb)/\W.cell? (m33 X)=some (.slice r.v.av r.v.nv r.v.cv))
  (first|exact HX.out w1 nr rfl|exact hx2|exact hx3 _ _)
  (first
   |(go_at_call 31;refine(iY aw nw cw C.W C.sd C.ep C.nu C.de r.v.ab r.v.nb r.v.cb k.n.v.b r.v.av r.v.nv r.v.cv k.n.v.v slot _ (H1.out.conf.below (Below.refl _ w1).drew nr) (H1.out.nd.v.below (Below.refl _ w1).drew nr).ok).mono ?_;rintro e w2 ⟨rfl,hb2⟩;have hq:(⟨(Tp.iH C.W C.sd C.ep C.nu C.de k.n.v.b k.n.v.v slot).1,(Tp.iH C.W C.sd C.ep C.nu C.de k.n.v.b k.n.v.v slot).2⟩:Int×Int)=(h0,h1):=HH.out;rw[(Prod.mk.inj hq).1,(Prod.mk.inj hq).2];have hx2:=HX.out w2 hb2.size (hb2.block X (Nat.lt_of_lt_of_le hX HB1.out.size));have hr2:=cG hb2 hs1 hr;have z0:w2.cell? (m07 w)=some (.int .u64 0):=cA hr2 0;have z1:w2.cell? (m14 w)=some (.int .u64 0):=cA hr2 1;have f0:=cH hr2 0;have f1:=cH hr2 1;have hx3:∀x y,_:=fun x y=>HX.out ((w2.setCell (m07 w) x).setCell (m14 w) y) (by simp only[World.size_setCell];exact hb2.size) ((((Below.refl w.heap.size w2).setCell (p:=(m07 w)) nr x).setCell (p:=(m14 w)) nr y).block X hX |>.trans (hb2.block X (Nat.lt_of_lt_of_le hX HB1.out.size)))))
 go_wp2
 have T:=set2 w2 w.heap.size _ _ (m68 h0) (m68 h1) _ hr2
 refine bodyPost_ret (v:=.agg (m08 h0 h1)) ?_ rfl ⟨rfl,(bS HB1.out.drew hb2).trans (T.below nr)⟩
 simp[results,Tryz.results97,go_sem,z0,z1]
end
end Go.Proofs.YtbbhinehcncmeaaGreat
