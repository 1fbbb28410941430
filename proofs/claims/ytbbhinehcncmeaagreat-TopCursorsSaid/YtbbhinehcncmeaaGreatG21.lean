/- A part of the proof of the laws of the top: TpQuick0, TpQuick1. No condition. -/
import Derived.Test.YtbbhinehcncmeaaGreatG18
import Derived.Laws.EntriesVeiled
namespace Go.Proofs.YtbbhinehcncmeaaGreat
open Go.RowKit
set_option linter.unusedSimpArgs false
set_option linter.unusedVariables false
set_option linter.unusedSectionVars false
set_option maxRecDepth 100000
set_option maxHeartbeats 4000000
namespace Tp
def lL (C:Cf) (vs:List V) (slot:Int):List V:=gM C.W C.sd C.ep C.nu C.de vs slot
def lO (C:Cf) (slot:Int):List Int:=bT C.W C.sd C.ep C.nu C.de slot
def allC (C:Cf) (slot:Int):Int:=fU C.W C.ep C.nu C.de (lO C slot)
end Tp
theorem vY (aw:Option Addr)(nw cw:Nat)(W:List Int)(sd ep nu de:Int)(av:Option Addr)(nv cv:Nat)(vs:List Tp.V)(slot:Int)(w:World)(hw:W.length=nw)(hwm:nw<=9223372036854775807)(hsd:0<=sd/\sd<=18446744073709551615)(hW:Ints w aw W)(hv:SlV aH 4 w av nv cv vs)(hnv:nv<=1000000):
  Calls Tryz.prog 71 #[.agg (m05 aw nw cw sd ep nu de),.slice av nv cv,.int .i64 slot] w fun e w'=>
   ∃a m c,e=.returned (m63 a m c)/\SlV aH 4 w' a m c (Tp.gM W sd ep nu de vs slot)/\m<=nv/\(m=0\/∃g,a=some ⟨g,0,none⟩/\w.heap.size<=g)/\Below w.heap.size w w':=by
 have hb0:Below w.heap.size w (m28 w aw nw cw sd ep nu de):=(Below.refl _ w).alloc nr _
 have hcf:CBox w.heap.size aw nw cw sd ep nu de (m28 w aw nw cw sd ep nu de):=CBox.at_ (heap_alloc_new w _)
 have hs0:w.heap.size<(m28 w aw nw cw sd ep nu de:World).heap.size:=by simp
 have HB:=zH hb0
 have HV:=zH (hv.keep hb0)
 have HW:=zH (hW.keep hb0)
 have HWN:=zH hw
 have HCF:=zH hcf
 clear hb0 hv hW hw hcf
 unfold Tp.gM
 obtain⟨com,hcom⟩:∃x,Tp.bT W sd ep nu de slot=x:=⟨_,rfl⟩
 obtain⟨vo,hvo⟩:∃x,Tp.dR vs slot=x:=⟨_,rfl⟩
 have hvl:vo.length<=nv:=by rw[<-hvo,<-HV.out.len];exact Tp.mU vs slot
 rw[hcom,hvo]
 have HCOM:=zH hcom
 have HVO:=zH hvo
 clear hcom hvo
 rcases Nat.eq_zero_or_pos vo.length with h0|h0
 ·have hvo0:vo=[]:=List.length_eq_zero_iff.1 h0
  subst hvo0
  go_enter Tryz.func71,Tryz.ntmps71
  go_wp2_with (first
   |(go_at_call 103;refine(qH av nv cv vs slot _ HV.out hnv).mono ?_;rintro e w1 ⟨v,rfl,own,hb1⟩;rw[HVO.out]at own;obtain⟨va,vc0,rfl,vsl⟩:=own.sl cW;obtain⟨x0,x1,x2,x3,x4⟩:=HCF.out.below hb1 hs0;have hz1:=Nat.lt_of_lt_of_le hs0 hb1.size;have hcp:=Nat.le_trans vsl.cap vsl.top)
   |(go_at_call 78;refine(bZ aw nw cw W sd ep nu de slot _ HWN.out hwm hsd (HW.out.below hb1 nr)).mono ?_;rintro e w2 ⟨vc,rfl,ownc,hb2⟩;rw[HCOM.out]at ownc;obtain⟨ca,cc,rfl,cs⟩:=ownc.sl dQ)
   |(go_at_call 105;refine(iZ _ _ _ _).mono ?_;rintro e w3 ⟨rfl,rfl⟩))
  go_ret
  exact⟨_,_,_,rfl,⟨rfl,Nat.le_refl _,by omega,.inl rfl⟩,Nat.zero_le _,.inl rfl,bS HB.out (hb1.trans (hb2.mono hb1.size))⟩
 ·have HVL:=zH hvl
  go_enter Tryz.func71,Tryz.ntmps71
  go_wp2_with (first
   |(go_at_call 103;refine(qH av nv cv vs slot _ HV.out hnv).mono ?_;rintro e w1 ⟨v,rfl,own,hb1⟩;rw[HVO.out]at own;obtain⟨g,cap,cur,rfl,hg,hh,hnc,hcm,hsz,htk⟩:=own.row h0;obtain⟨x0,x1,x2,x3,x4⟩:=HCF.out.below hb1 hs0;have hz1:=Nat.lt_of_lt_of_le hs0 hb1.size;have hgl:=(gS hh);have hcp:cap<=9223372036854775807:=hcm;have hgs:=Nat.lt_of_lt_of_le hs0 hg)
   |(go_at_call 78;refine(bZ aw nw cw W sd ep nu de slot _ HWN.out hwm hsd (HW.out.below hb1 nr)).mono ?_;rintro e w2 ⟨vc,rfl,ownc,hb2⟩;rw[HCOM.out]at ownc;obtain⟨ca,cc,rfl,cs⟩:=ownc.sl dQ)
   |(go_at_call 105;refine(nZ w w1.heap.size g vo.length vo.length cc com.length ca com vo cur _ rfl nr (by omega) ((hb2.block g hgl).trans hh) htk ownc hgl hb2.size (Nat.le_of_lt hgs) (bS HB.out (hb1.trans (hb2.mono hb1.size)))).mono ?_;rintro e w3 ⟨m,rfl,hs3,hb3⟩))
  go_ret
  exact⟨_,_,_,rfl,hs3,Nat.le_trans (by rw[<-hs3.len];exact List.length_filter_le _ _) HVL.out,.inr ⟨g,rfl,Nat.le_of_lt hgs⟩,hb3⟩
structure QfR (w1:World) (C:Tp.Cf) (r:RV) (x:Tp.Vw) (slot:Int) (gv cv:Option (Option Addr×Nat×Nat)) (g7 g8:Option Nat) (W:World):Prop where
 bel:Below w1.heap.size w1 W
 gold:∀a n c,gv=some (a,n,c)->SlV aH 4 W a n c (Tp.lL C x.v slot)/\n<=r.nv/\(n=0\/∃g,a=some ⟨g,0,none⟩/\w1.heap.size<=g/\(∀k,g7=some k->g≠k)/\(∀k,g8=some k->g≠k))
 com:∀a n c,cv=some (a,n,c)->SlV intC 1 W a n c (Tp.lO C slot)
 b7:∀g,g7=some g->W.heap[g]?=some (.cells #[.slice none 0 0] 36 (0,0))/\w1.heap.size<=g
 b8:∀g,g8=some g->W.heap[g]?=some (.cells #[.int .i64 0] 3 (0,0))/\w1.heap.size<=g
 ne:∀g h,g7=some g->g8=some h->g≠h
section
variable {w1 W W':World}{aw:Option Addr}{nw cw:Nat}{C:Tp.Cf}{r:RV}{x:Tp.Vw}{slot:Int}{gv cv:Option (Option Addr×Nat×Nat)}{g7 g8:Option Nat}
theorem QfR.start :QfR w1 C r x slot none none none none w1.drew:=⟨(Below.refl _ _).drew,fun _ _ _ h=>(by cases h),fun _ _ _ h=>(by cases h),fun _ h=>(by cases h),fun _ h=>(by cases h),fun _ _ h=>(by cases h)⟩
theorem QfR.keep (h:QfR w1 C r x slot gv cv g7 g8 W)(hb:Below W.heap.size W W'):QfR w1 C r x slot gv cv g7 g8 W':=
 ⟨bS h.bel hb,fun a n c he=>⟨(h.gold a n c he).1.keep hb,(h.gold a n c he).2⟩,fun a n c he=>(h.com a n c he).keep hb,fun g he=>⟨cG hb (gS (h.b7 g he).1) (h.b7 g he).1,(h.b7 g he).2⟩,fun g he=>⟨cG hb (gS (h.b8 g he).1) (h.b8 g he).1,(h.b8 g he).2⟩,h.ne⟩
theorem aIa {α:Type}{f:α->List Value}{k:Nat}{w:World}{g n c:Nat}{l:List α}(h:SlV f k w (some ⟨g,0,none⟩) n c l):n=0\/g<w.heap.size:=by
 rcases h.rows with h0|⟨b,o,ha,hlt,_⟩
 ·exact .inl (by rw[<-h.len];exact h0)
 ·cases ha
  exact .inr hlt
theorem QfR.m7 (h:QfR w1 C r x slot gv cv none g8 W):QfR w1 C r x slot gv cv (some W.heap.size) g8 (W.alloc (.cells #[.slice none 0 0] 36)):=by
 have h2:=h.keep (W':=W.alloc (.cells #[.slice none 0 0] 36)) ((Below.refl _ _).alloc nr _)
 refine⟨h2.bel,?_,h2.com,fun g he=>?_,h2.b8,fun g k he hk=>?_⟩
 ·intro a n c he
  obtain⟨e1,e2,e3⟩:=h2.gold a n c he
  refine⟨e1,e2,?_⟩
  rcases e3 with e3|⟨g,ha,e0,e4,e5⟩
  ·exact .inl e3
  ·subst ha
   rcases aIa (h.gold _ n c he).1 with h0|h0
   ·exact .inl h0
   ·exact .inr ⟨g,rfl,e0,fun k hk=>(by cases hk;omega),e5⟩
 ·cases he
  exact⟨heap_alloc_new W _,h.bel.size⟩
 ·cases he
  have:=(gS (h.b8 k hk).1)
  omega
theorem QfR.m8 (h:QfR w1 C r x slot gv cv g7 none W):QfR w1 C r x slot gv cv g7 (some W.heap.size) (W.alloc (.cells #[.int .i64 0] 3)):=by
 have h2:=h.keep (W':=W.alloc (.cells #[.int .i64 0] 3)) ((Below.refl _ _).alloc nr _)
 refine⟨h2.bel,?_,h2.com,h2.b7,fun g he=>?_,fun g k hk he=>?_⟩
 ·intro a n c he
  obtain⟨e1,e2,e3⟩:=h2.gold a n c he
  refine⟨e1,e2,?_⟩
  rcases e3 with e3|⟨g,ha,e0,e4,e5⟩
  ·exact .inl e3
  ·subst ha
   rcases aIa (h.gold _ n c he).1 with h0|h0
   ·exact .inl h0
   ·exact .inr ⟨g,rfl,e0,e4,fun k hk=>(by cases hk;omega)⟩
 ·cases he
  exact⟨heap_alloc_new W _,h.bel.size⟩
 ·cases he
  have:=(gS (h.b7 g hk).1)
  omega
theorem QfR.c1 (hC:aP w1 aw nw C.W C.sd)(hx:VwR w1 r x)(h:QfR w1 C r x slot none cv g7 g8 W):Calls Tryz.prog 71 #[.agg (m02 aw nw cw C),.slice r.av r.nv r.cv,.int .i64 slot] W fun e W'=>∃a n c,e=.returned (m63 a n c)/\QfR w1 C r x slot (some (a,n,c)) cv g7 g8 W':=by
 have hC2:=hC.below h.bel nr
 have hx2:=hx.below h.bel nr
 refine(vY aw nw cw C.W C.sd C.ep C.nu C.de r.av r.nv r.cv x.v slot W hC2.len hC2.max hC2.seed hC2.ints hx2.ok.v hx2.ok.vm).mono ?_
 rintro e W' ⟨a,n,c,rfl,hs,hn,hg,hb⟩
 have h2:=h.keep hb
 exact⟨a,n,c,rfl,h2.bel,fun a' n' c' he=>(by cases he;exact⟨hs,hn,hg.imp id fun⟨g,ha,hge⟩=>⟨g,ha,Nat.le_trans h.bel.size hge,fun k hk=>(by have:=(gS (h.b7 k hk).1);omega),fun k hk=>(by have:=(gS (h.b8 k hk).1);omega)⟩⟩),h2.com,h2.b7,h2.b8,h2.ne⟩
theorem QfR.c2 (hC:aP w1 aw nw C.W C.sd)(h:QfR w1 C r x slot gv none g7 g8 W):Calls Tryz.prog 78 #[.agg (m02 aw nw cw C),.int .i64 slot] W fun e W'=>∃a n c,e=.returned (m63 a n c)/\QfR w1 C r x slot gv (some (a,n,c)) g7 g8 W':=by
 have hC2:=hC.below h.bel nr
 refine(bZ aw nw cw C.W C.sd C.ep C.nu C.de slot W hC2.len hC2.max hC2.seed hC2.ints).mono ?_
 rintro e W' ⟨v,rfl,own,hb⟩
 obtain⟨a,c,rfl,hs⟩:=own.sl dQ
 have h2:=h.keep hb
 exact⟨a,_,c,rfl,h2.bel,h2.gold,fun a' n' c' he=>by cases he;exact hs,h2.b7,h2.b8,h2.ne⟩
theorem QfR.c3 {a:Option Addr}{n c:Nat}(hC:aP w1 aw nw C.W C.sd)(h:QfR w1 C r x slot gv (some (a,n,c)) g7 g8 W):Calls Tryz.prog 80 #[.agg (m02 aw nw cw C),.slice a n c] W fun e W'=>e=.returned (m30 (Tp.allC C slot))/\QfR w1 C r x slot gv (some (a,n,c)) g7 g8 W':=by
 have hC2:=hC.below h.bel nr
 refine(jE aw nw cw C.W C.sd C.ep C.nu C.de a n c (Tp.lO C slot) W hC2.len hC2.max hC2.ints (h.com a n c rfl)).mono ?_
 rintro e W' ⟨rfl,hb⟩
 exact⟨rfl,h.keep hb⟩
end
abbrev iR :Array Oper:=#[⟨some 9,.load 25 (.tmp 3),25,"quick.go:21",#[],none⟩,
 ⟨some 10,.fieldAddr 38 (.tmp 4) 1,0,"quick.go:21",#[],none⟩,
 ⟨some 11,.load 36 (.tmp 10),36,"quick.go:21",#[⟨1,.data⟩],none⟩,
 ⟨some 12,.move (.tmp 2),3,"quick.go:21",#[],none⟩,
 ⟨some 13,.call ⟨.value (.func 71),#[.tmp 9,.tmp 11,.tmp 12],#[25,36,3]⟩,36,"quick.go:21",#[⟨0,.data⟩,⟨2,.data⟩,⟨3,.data⟩],none⟩,
 ⟨some 14,.load 25 (.tmp 3),25,"quick.go:21",#[],none⟩,
 ⟨some 15,.load 25 (.tmp 3),25,"quick.go:21",#[],none⟩,
 ⟨some 16,.move (.tmp 2),3,"quick.go:21",#[],none⟩,
 ⟨some 17,.call ⟨.value (.func 78),#[.tmp 15,.tmp 16],#[25,3]⟩,22,"quick.go:21",#[⟨6,.data⟩,⟨7,.data⟩,⟨4,.chain⟩],none⟩,
 ⟨some 18,.call ⟨.value (.func 80),#[.tmp 14,.tmp 17],#[25,22]⟩,3,"quick.go:21",#[⟨5,.data⟩,⟨8,.data⟩,⟨8,.chain⟩],none⟩,
 ⟨some 7,.alloc 36,0,"quick.go:21",#[],none⟩,
 ⟨some 8,.alloc 3,0,"quick.go:21",#[],none⟩,
 ⟨none,.store 36 (.tmp 7) (.tmp 13),0,"quick.go:21",#[⟨10,.data⟩,⟨4,.data⟩,⟨9,.chain⟩,⟨0,.phase⟩,⟨1,.phase⟩,⟨2,.phase⟩,⟨3,.phase⟩,⟨4,.phase⟩,⟨5,.textOnly .lateStores⟩,⟨6,.textOnly .lateStores⟩,⟨7,.textOnly .lateStores⟩,⟨8,.textOnly .lateStoresUnsure⟩,⟨9,.textOnly .lateStoresUnsure⟩,⟨10,.phase⟩,⟨11,.phase⟩],none⟩,
 ⟨none,.store 3 (.tmp 8) (.tmp 18),0,"quick.go:21",#[⟨11,.data⟩,⟨9,.data⟩,⟨12,.chain⟩,⟨0,.phase⟩,⟨1,.phase⟩,⟨2,.phase⟩,⟨3,.phase⟩,⟨4,.phase⟩,⟨5,.phase⟩,⟨6,.phase⟩,⟨7,.phase⟩,⟨8,.phase⟩,⟨9,.phase⟩,⟨10,.phase⟩,⟨11,.phase⟩,⟨12,.phase⟩],none⟩]
abbrev qfSL (aw:Option Addr) (nw cw:Nat) (C:Tp.Cf) (r:RV) (x:Tp.Vw) (slot:Int) (N0 N1 N2:Nat) (w1:World) (HC:Hid (aP w1 aw nw C.W C.sd)) (HX:Hid (VwR w1 r x)) (hc0:∀W,Below w1.heap.size w1 W->W.cell? (m00 N0)=some (.slice aw nw cw)/\W.cell? (m15 N0)=some (.int .u64 C.sd)/\W.cell? (m25 N0)=some (.int .i64 C.ep)/\W.cell? (m33 N0)=some (.int .i64 C.nu)/\W.cell? (m35 N0)=some (.int .i64 C.de)) (hc1:∀W,Below w1.heap.size w1 W->W.cell? (m15 N1)=some (.slice r.av r.nv r.cv)):List (Nat×(World->Prop)):=[(0,fun W=>W.cell? (m00 N0)=some (.slice aw nw cw)/\W.cell? (m15 N0)=some (.int .u64 C.sd)/\W.cell? (m25 N0)=some (.int .i64 C.ep)/\W.cell? (m33 N0)=some (.int .i64 C.nu)/\W.cell? (m35 N0)=some (.int .i64 C.de)),(2,fun W=>W.cell? (m15 N1)=some (.slice r.av r.nv r.cv)),(5,fun W=>W.cell? (m00 N0)=some (.slice aw nw cw)/\W.cell? (m15 N0)=some (.int .u64 C.sd)/\W.cell? (m25 N0)=some (.int .i64 C.ep)/\W.cell? (m33 N0)=some (.int .i64 C.nu)/\W.cell? (m35 N0)=some (.int .i64 C.de)),(6,fun W=>W.cell? (m00 N0)=some (.slice aw nw cw)/\W.cell? (m15 N0)=some (.int .u64 C.sd)/\W.cell? (m25 N0)=some (.int .i64 C.ep)/\W.cell? (m33 N0)=some (.int .i64 C.nu)/\W.cell? (m35 N0)=some (.int .i64 C.de))]
section
variable (Q:Exit->Act->World->Prop)(hQp:∀(c:_) (a:Act) (d:Option Tmp) (v:Value) (w:World),Q (.panic c) (a.put d v) w->Q (.panic c) a w)(aw:Option Addr)(nw cw:Nat)(C:Tp.Cf)(r:RV)(x:Tp.Vw)(slot:Int)(N0 N1 N2:Nat)(w1:World)(HC:Hid (aP w1 aw nw C.W C.sd))(HX:Hid (VwR w1 r x))(hc0:∀W,Below w1.heap.size w1 W->W.cell? (m00 N0)=some (.slice aw nw cw)/\W.cell? (m15 N0)=some (.int .u64 C.sd)/\W.cell? (m25 N0)=some (.int .i64 C.ep)/\W.cell? (m33 N0)=some (.int .i64 C.nu)/\W.cell? (m35 N0)=some (.int .i64 C.de))(hc1:∀W,Below w1.heap.size w1 W->W.cell? (m15 N1)=some (.slice r.av r.nv r.cv))(hQ:∀ga gn gc ca cn cc g7 g8 W,QfR w1 C r x slot (some (ga,gn,gc)) (some (ca,cn,cc)) (some g7) (some g8) W->Q .normal { tmps:=#[.agg (m02 aw nw cw C),.agg (m01 r),.int .i64 slot,.pointer (some (m00 N0)),.pointer (some (m00 N1)),undef,.pointer (some (m00 N2)),.pointer (some (m00 g7)),.pointer (some (m00 g8)),.agg (m02 aw nw cw C),.pointer (some (m15 N1)),.slice r.av r.nv r.cv,.int .i64 slot,.slice ga gn gc,.agg (m02 aw nw cw C),.agg (m02 aw nw cw C),.int .i64 slot,.slice ca cn cc,.int .i64 (Tp.allC C slot),undef,undef,undef],defers:=[] } ((W.setCell (m00 g7) (m63 ga gn gc)).setCell (m00 g8) (m30 (Tp.allC C slot))))
include Q hQp aw nw cw C r x slot N0 N1 N2 w1 HC HX hc0 hc1 hQ
theorem fM (ga:Option Addr)(gn gc:Nat)(ca:Option Addr)(cn cc:Nat)(g7:Nat)(g8:Nat)(W:World)(hR:QfR w1 C r x slot (some (ga,gn,gc)) (some (ca,cn,cc)) (some g7) (some g8) W):
  aB Tryz.prog .any iR Q (qfSL aw nw cw C r x slot N0 N1 N2 w1 HC HX hc0 hc1) 2 #[true,true,true,true,true,true,true,true,true,true,true,true,false,false] { tmps:=#[.agg (m02 aw nw cw C),.agg (m01 r),.int .i64 slot,.pointer (some (m00 N0)),.pointer (some (m00 N1)),undef,.pointer (some (m00 N2)),.pointer (some (m00 g7)),.pointer (some (m00 g8)),.agg (m02 aw nw cw C),.pointer (some (m15 N1)),.slice r.av r.nv r.cv,.int .i64 slot,.slice ga gn gc,.agg (m02 aw nw cw C),.agg (m02 aw nw cw C),.int .i64 slot,.slice ca cn cc,.int .i64 (Tp.allC C slot),undef,undef,undef],defers:=[] } W:=by
 refine cK 12 (by kernel_rfl) rfl (fun K hK=>?_)
 have c7:W.cell? (m00 g7)=some (.slice none 0 0):=cA (hR.b7 _ rfl).1 0
 have f7:=cH (hR.b7 _ rfl).1 0
 have c8:W.cell? (m00 g8)=some (.int .i64 0):=cA (hR.b8 _ rfl).1 0
 have f8:=cH (hR.b8 _ rfl).1 0
 have hne:¬g8=g7:=Ne.symm (hR.ne _ _ rfl rfl)
 go_simp
 refine hK.out _ _ ?_ ?_
 ·exact⟨.inl (hc0 _ (hR.bel.setCell (p:=(m00 g7)) (hR.b7 _ rfl).2 _)),.inl (hc1 _ (hR.bel.setCell (p:=(m00 g7)) (hR.b7 _ rfl).2 _)),.inl (hc0 _ (hR.bel.setCell (p:=(m00 g7)) (hR.b7 _ rfl).2 _)),.inl (hc0 _ (hR.bel.setCell (p:=(m00 g7)) (hR.b7 _ rfl).2 _)),trivial⟩
 clear hK K
 try simp only[Act.put,pA,pB,pC]
 refine cK 13 (by kernel_rfl) rfl (fun K hK=>?_)
 go_simp
 refine hK.out _ _ ?_ ?_
 ·exact⟨.inl (hc0 _ ((hR.bel.setCell (p:=(m00 g7)) (hR.b7 _ rfl).2 _).setCell (p:=(m00 g8)) (hR.b8 _ rfl).2 _)),.inl (hc1 _ ((hR.bel.setCell (p:=(m00 g7)) (hR.b7 _ rfl).2 _).setCell (p:=(m00 g8)) (hR.b8 _ rfl).2 _)),.inl (hc0 _ ((hR.bel.setCell (p:=(m00 g7)) (hR.b7 _ rfl).2 _).setCell (p:=(m00 g8)) (hR.b8 _ rfl).2 _)),.inl (hc0 _ ((hR.bel.setCell (p:=(m00 g7)) (hR.b7 _ rfl).2 _).setCell (p:=(m00 g8)) (hR.b8 _ rfl).2 _)),trivial⟩
 clear hK K
 try simp only[Act.put,pA,pB,pC]
 refine cO (by kernel_rfl) ?_ _
 exact hQ ga gn gc ca cn cc g7 g8 W hR
theorem lX (ga:Option Addr)(gn gc:Nat)(ca:Option Addr)(cn cc:Nat)(g7:Nat)(W:World)(hR:QfR w1 C r x slot (some (ga,gn,gc)) (some (ca,cn,cc)) (some g7) none W):
  aB Tryz.prog .any iR Q (qfSL aw nw cw C r x slot N0 N1 N2 w1 HC HX hc0 hc1) 3 #[true,true,true,true,true,true,true,true,true,true,true,false,false,false] { tmps:=#[.agg (m02 aw nw cw C),.agg (m01 r),.int .i64 slot,.pointer (some (m00 N0)),.pointer (some (m00 N1)),undef,.pointer (some (m00 N2)),.pointer (some (m00 g7)),undef,.agg (m02 aw nw cw C),.pointer (some (m15 N1)),.slice r.av r.nv r.cv,.int .i64 slot,.slice ga gn gc,.agg (m02 aw nw cw C),.agg (m02 aw nw cw C),.int .i64 slot,.slice ca cn cc,.int .i64 (Tp.allC C slot),undef,undef,undef],defers:=[] } W:=by
 have hmk:=@run_makeMap Tryz.prog
 refine cJ [11] (by kernel_rfl) (by simp) ?_
 refine cD 11 rfl (fun K hK=>?_) ?_
 ·go_simp
  have hR2:=hR.m8
  replace hR:=hR2
  clear hR2
  refine hK.out _ _ ?_ ?_
  ·exact⟨.inl (hc0 _ hR.bel),.inl (hc1 _ hR.bel),.inl (hc0 _ hR.bel),.inl (hc0 _ hR.bel),trivial⟩
  clear hK K hmk
  try simp only[Act.put,pA,pB,pC]
  exact fM Q hQp aw nw cw C r x slot N0 N1 N2 w1 HC HX hc0 hc1 hQ ga gn gc ca cn cc g7 _ _ hR
 exact cE
theorem lW (ga:Option Addr)(gn gc:Nat)(ca:Option Addr)(cn cc:Nat)(g8:Nat)(W:World)(hR:QfR w1 C r x slot (some (ga,gn,gc)) (some (ca,cn,cc)) none (some g8) W):
  aB Tryz.prog .any iR Q (qfSL aw nw cw C r x slot N0 N1 N2 w1 HC HX hc0 hc1) 3 #[true,true,true,true,true,true,true,true,true,true,false,true,false,false] { tmps:=#[.agg (m02 aw nw cw C),.agg (m01 r),.int .i64 slot,.pointer (some (m00 N0)),.pointer (some (m00 N1)),undef,.pointer (some (m00 N2)),undef,.pointer (some (m00 g8)),.agg (m02 aw nw cw C),.pointer (some (m15 N1)),.slice r.av r.nv r.cv,.int .i64 slot,.slice ga gn gc,.agg (m02 aw nw cw C),.agg (m02 aw nw cw C),.int .i64 slot,.slice ca cn cc,.int .i64 (Tp.allC C slot),undef,undef,undef],defers:=[] } W:=by
 have hmk:=@run_makeMap Tryz.prog
 refine cJ [10] (by kernel_rfl) (by simp) ?_
 refine cD 10 rfl (fun K hK=>?_) ?_
 ·go_simp
  have hR2:=hR.m7
  replace hR:=hR2
  clear hR2
  refine hK.out _ _ ?_ ?_
  ·exact⟨.inl (hc0 _ hR.bel),.inl (hc1 _ hR.bel),.inl (hc0 _ hR.bel),.inl (hc0 _ hR.bel),trivial⟩
  clear hK K hmk
  try simp only[Act.put,pA,pB,pC]
  exact fM Q hQp aw nw cw C r x slot N0 N1 N2 w1 HC HX hc0 hc1 hQ ga gn gc ca cn cc _ g8 _ hR
 exact cE
theorem iC (ga:Option Addr)(gn gc:Nat)(ca:Option Addr)(cn cc:Nat)(g7:Nat)(g8:Nat)(W:World)(hR:QfR w1 C r x slot (some (ga,gn,gc)) (some (ca,cn,cc)) (some g7) (some g8) W):
  aB Tryz.prog .any iR Q (qfSL aw nw cw C r x slot N0 N1 N2 w1 HC HX hc0 hc1) 3 #[true,true,true,true,true,true,true,true,true,false,true,true,false,false] { tmps:=#[.agg (m02 aw nw cw C),.agg (m01 r),.int .i64 slot,.pointer (some (m00 N0)),.pointer (some (m00 N1)),undef,.pointer (some (m00 N2)),.pointer (some (m00 g7)),.pointer (some (m00 g8)),.agg (m02 aw nw cw C),.pointer (some (m15 N1)),.slice r.av r.nv r.cv,.int .i64 slot,.slice ga gn gc,.agg (m02 aw nw cw C),.agg (m02 aw nw cw C),.int .i64 slot,.slice ca cn cc,undef,undef,undef,undef],defers:=[] } W:=by
 have hmk:=@run_makeMap Tryz.prog
 refine cJ [9] (by kernel_rfl) (by simp) ?_
 refine cD 9 rfl (fun K hK=>?_) ?_
 ·go_simp
  refine(QfR.c3 HC.out hR).mono ?_;rintro e W2 ⟨rfl,hR2⟩
  replace hR:=hR2
  clear hR2
  refine hK.out _ _ ?_ ?_
  ·exact⟨.inl (hc0 _ hR.bel),.inl (hc1 _ hR.bel),.inl (hc0 _ hR.bel),.inl (hc0 _ hR.bel),trivial⟩
  clear hK K hmk
  try simp only[Act.put,pA,pB,pC]
  exact fM Q hQp aw nw cw C r x slot N0 N1 N2 w1 HC HX hc0 hc1 hQ ga gn gc ca cn cc g7 g8 _ hR
 exact cE
theorem aCk (ga:Option Addr)(gn gc:Nat)(ca:Option Addr)(cn cc:Nat)(W:World)(hR:QfR w1 C r x slot (some (ga,gn,gc)) (some (ca,cn,cc)) none none W):
  aB Tryz.prog .any iR Q (qfSL aw nw cw C r x slot N0 N1 N2 w1 HC HX hc0 hc1) 4 #[true,true,true,true,true,true,true,true,true,true,false,false,false,false] { tmps:=#[.agg (m02 aw nw cw C),.agg (m01 r),.int .i64 slot,.pointer (some (m00 N0)),.pointer (some (m00 N1)),undef,.pointer (some (m00 N2)),undef,undef,.agg (m02 aw nw cw C),.pointer (some (m15 N1)),.slice r.av r.nv r.cv,.int .i64 slot,.slice ga gn gc,.agg (m02 aw nw cw C),.agg (m02 aw nw cw C),.int .i64 slot,.slice ca cn cc,.int .i64 (Tp.allC C slot),undef,undef,undef],defers:=[] } W:=by
 have hmk:=@run_makeMap Tryz.prog
 refine cJ [10,11] (by kernel_rfl) (by simp) ?_
 refine cD 10 rfl (fun K hK=>?_) ?_
 ·go_simp
  have hR2:=hR.m7
  replace hR:=hR2
  clear hR2
  refine hK.out _ _ ?_ ?_
  ·exact⟨.inl (hc0 _ hR.bel),.inl (hc1 _ hR.bel),.inl (hc0 _ hR.bel),.inl (hc0 _ hR.bel),trivial⟩
  clear hK K hmk
  try simp only[Act.put,pA,pB,pC]
  exact lX Q hQp aw nw cw C r x slot N0 N1 N2 w1 HC HX hc0 hc1 hQ ga gn gc ca cn cc _ _ hR
 refine cD 11 rfl (fun K hK=>?_) ?_
 ·go_simp
  have hR2:=hR.m8
  replace hR:=hR2
  clear hR2
  refine hK.out _ _ ?_ ?_
  ·exact⟨.inl (hc0 _ hR.bel),.inl (hc1 _ hR.bel),.inl (hc0 _ hR.bel),.inl (hc0 _ hR.bel),trivial⟩
  clear hK K hmk
  try simp only[Act.put,pA,pB,pC]
  exact lW Q hQp aw nw cw C r x slot N0 N1 N2 w1 HC HX hc0 hc1 hQ ga gn gc ca cn cc _ _ hR
 exact cE
theorem pS (ga:Option Addr)(gn gc:Nat)(ca:Option Addr)(cn cc:Nat)(g7:Nat)(W:World)(hR:QfR w1 C r x slot (some (ga,gn,gc)) (some (ca,cn,cc)) (some g7) none W):
  aB Tryz.prog .any iR Q (qfSL aw nw cw C r x slot N0 N1 N2 w1 HC HX hc0 hc1) 4 #[true,true,true,true,true,true,true,true,true,false,true,false,false,false] { tmps:=#[.agg (m02 aw nw cw C),.agg (m01 r),.int .i64 slot,.pointer (some (m00 N0)),.pointer (some (m00 N1)),undef,.pointer (some (m00 N2)),.pointer (some (m00 g7)),undef,.agg (m02 aw nw cw C),.pointer (some (m15 N1)),.slice r.av r.nv r.cv,.int .i64 slot,.slice ga gn gc,.agg (m02 aw nw cw C),.agg (m02 aw nw cw C),.int .i64 slot,.slice ca cn cc,undef,undef,undef,undef],defers:=[] } W:=by
 have hmk:=@run_makeMap Tryz.prog
 refine cJ [9,11] (by kernel_rfl) (by simp) ?_
 refine cD 9 rfl (fun K hK=>?_) ?_
 ·go_simp
  refine(QfR.c3 HC.out hR).mono ?_;rintro e W2 ⟨rfl,hR2⟩
  replace hR:=hR2
  clear hR2
  refine hK.out _ _ ?_ ?_
  ·exact⟨.inl (hc0 _ hR.bel),.inl (hc1 _ hR.bel),.inl (hc0 _ hR.bel),.inl (hc0 _ hR.bel),trivial⟩
  clear hK K hmk
  try simp only[Act.put,pA,pB,pC]
  exact lX Q hQp aw nw cw C r x slot N0 N1 N2 w1 HC HX hc0 hc1 hQ ga gn gc ca cn cc g7 _ hR
 refine cD 11 rfl (fun K hK=>?_) ?_
 ·go_simp
  have hR2:=hR.m8
  replace hR:=hR2
  clear hR2
  refine hK.out _ _ ?_ ?_
  ·exact⟨.inl (hc0 _ hR.bel),.inl (hc1 _ hR.bel),.inl (hc0 _ hR.bel),.inl (hc0 _ hR.bel),trivial⟩
  clear hK K hmk
  try simp only[Act.put,pA,pB,pC]
  exact iC Q hQp aw nw cw C r x slot N0 N1 N2 w1 HC HX hc0 hc1 hQ ga gn gc ca cn cc g7 _ _ hR
 exact cE
theorem pR (ga:Option Addr)(gn gc:Nat)(ca:Option Addr)(cn cc:Nat)(g8:Nat)(W:World)(hR:QfR w1 C r x slot (some (ga,gn,gc)) (some (ca,cn,cc)) none (some g8) W):
  aB Tryz.prog .any iR Q (qfSL aw nw cw C r x slot N0 N1 N2 w1 HC HX hc0 hc1) 4 #[true,true,true,true,true,true,true,true,true,false,false,true,false,false] { tmps:=#[.agg (m02 aw nw cw C),.agg (m01 r),.int .i64 slot,.pointer (some (m00 N0)),.pointer (some (m00 N1)),undef,.pointer (some (m00 N2)),undef,.pointer (some (m00 g8)),.agg (m02 aw nw cw C),.pointer (some (m15 N1)),.slice r.av r.nv r.cv,.int .i64 slot,.slice ga gn gc,.agg (m02 aw nw cw C),.agg (m02 aw nw cw C),.int .i64 slot,.slice ca cn cc,undef,undef,undef,undef],defers:=[] } W:=by
 have hmk:=@run_makeMap Tryz.prog
 refine cJ [9,10] (by kernel_rfl) (by simp) ?_
 refine cD 9 rfl (fun K hK=>?_) ?_
 ·go_simp
  refine(QfR.c3 HC.out hR).mono ?_;rintro e W2 ⟨rfl,hR2⟩
  replace hR:=hR2
  clear hR2
  refine hK.out _ _ ?_ ?_
  ·exact⟨.inl (hc0 _ hR.bel),.inl (hc1 _ hR.bel),.inl (hc0 _ hR.bel),.inl (hc0 _ hR.bel),trivial⟩
  clear hK K hmk
  try simp only[Act.put,pA,pB,pC]
  exact lW Q hQp aw nw cw C r x slot N0 N1 N2 w1 HC HX hc0 hc1 hQ ga gn gc ca cn cc g8 _ hR
 refine cD 10 rfl (fun K hK=>?_) ?_
 ·go_simp
  have hR2:=hR.m7
  replace hR:=hR2
  clear hR2
  refine hK.out _ _ ?_ ?_
  ·exact⟨.inl (hc0 _ hR.bel),.inl (hc1 _ hR.bel),.inl (hc0 _ hR.bel),.inl (hc0 _ hR.bel),trivial⟩
  clear hK K hmk
  try simp only[Act.put,pA,pB,pC]
  exact iC Q hQp aw nw cw C r x slot N0 N1 N2 w1 HC HX hc0 hc1 hQ ga gn gc ca cn cc _ g8 _ hR
 exact cE
theorem jW (ga:Option Addr)(gn gc:Nat)(g7:Nat)(g8:Nat)(W:World)(hR:QfR w1 C r x slot (some (ga,gn,gc)) none (some g7) (some g8) W):
  aB Tryz.prog .any iR Q (qfSL aw nw cw C r x slot N0 N1 N2 w1 HC HX hc0 hc1) 4 #[true,true,true,true,true,true,true,true,false,false,true,true,false,false] { tmps:=#[.agg (m02 aw nw cw C),.agg (m01 r),.int .i64 slot,.pointer (some (m00 N0)),.pointer (some (m00 N1)),undef,.pointer (some (m00 N2)),.pointer (some (m00 g7)),.pointer (some (m00 g8)),.agg (m02 aw nw cw C),.pointer (some (m15 N1)),.slice r.av r.nv r.cv,.int .i64 slot,.slice ga gn gc,.agg (m02 aw nw cw C),.agg (m02 aw nw cw C),.int .i64 slot,undef,undef,undef,undef,undef],defers:=[] } W:=by
 have hmk:=@run_makeMap Tryz.prog
 refine cJ [8] (by kernel_rfl) (by simp) ?_
 refine cD 8 rfl (fun K hK=>?_) ?_
 ·go_simp
  refine(QfR.c2 HC.out hR).mono ?_;rintro e W2 ⟨ca,cn,cc,rfl,hR2⟩
  replace hR:=hR2
  clear hR2
  refine hK.out _ _ ?_ ?_
  ·exact⟨.inl (hc0 _ hR.bel),.inl (hc1 _ hR.bel),.inl (hc0 _ hR.bel),.inl (hc0 _ hR.bel),trivial⟩
  clear hK K hmk
  try simp only[Act.put,pA,pB,pC]
  exact iC Q hQp aw nw cw C r x slot N0 N1 N2 w1 HC HX hc0 hc1 hQ ga gn gc ca cn cc g7 g8 _ hR
 exact cE
theorem aJi (ga:Option Addr)(gn gc:Nat)(ca:Option Addr)(cn cc:Nat)(W:World)(hR:QfR w1 C r x slot (some (ga,gn,gc)) (some (ca,cn,cc)) none none W):
  aB Tryz.prog .any iR Q (qfSL aw nw cw C r x slot N0 N1 N2 w1 HC HX hc0 hc1) 5 #[true,true,true,true,true,true,true,true,true,false,false,false,false,false] { tmps:=#[.agg (m02 aw nw cw C),.agg (m01 r),.int .i64 slot,.pointer (some (m00 N0)),.pointer (some (m00 N1)),undef,.pointer (some (m00 N2)),undef,undef,.agg (m02 aw nw cw C),.pointer (some (m15 N1)),.slice r.av r.nv r.cv,.int .i64 slot,.slice ga gn gc,.agg (m02 aw nw cw C),.agg (m02 aw nw cw C),.int .i64 slot,.slice ca cn cc,undef,undef,undef,undef],defers:=[] } W:=by
 have hmk:=@run_makeMap Tryz.prog
 refine cJ [9,10,11] (by kernel_rfl) (by simp) ?_
 refine cD 9 rfl (fun K hK=>?_) ?_
 ·go_simp
  refine(QfR.c3 HC.out hR).mono ?_;rintro e W2 ⟨rfl,hR2⟩
  replace hR:=hR2
  clear hR2
  refine hK.out _ _ ?_ ?_
  ·exact⟨.inl (hc0 _ hR.bel),.inl (hc1 _ hR.bel),.inl (hc0 _ hR.bel),.inl (hc0 _ hR.bel),trivial⟩
  clear hK K hmk
  try simp only[Act.put,pA,pB,pC]
  exact aCk Q hQp aw nw cw C r x slot N0 N1 N2 w1 HC HX hc0 hc1 hQ ga gn gc ca cn cc _ hR
 refine cD 10 rfl (fun K hK=>?_) ?_
 ·go_simp
  have hR2:=hR.m7
  replace hR:=hR2
  clear hR2
  refine hK.out _ _ ?_ ?_
  ·exact⟨.inl (hc0 _ hR.bel),.inl (hc1 _ hR.bel),.inl (hc0 _ hR.bel),.inl (hc0 _ hR.bel),trivial⟩
  clear hK K hmk
  try simp only[Act.put,pA,pB,pC]
  exact pS Q hQp aw nw cw C r x slot N0 N1 N2 w1 HC HX hc0 hc1 hQ ga gn gc ca cn cc _ _ hR
 refine cD 11 rfl (fun K hK=>?_) ?_
 ·go_simp
  have hR2:=hR.m8
  replace hR:=hR2
  clear hR2
  refine hK.out _ _ ?_ ?_
  ·exact⟨.inl (hc0 _ hR.bel),.inl (hc1 _ hR.bel),.inl (hc0 _ hR.bel),.inl (hc0 _ hR.bel),trivial⟩
  clear hK K hmk
  try simp only[Act.put,pA,pB,pC]
  exact pR Q hQp aw nw cw C r x slot N0 N1 N2 w1 HC HX hc0 hc1 hQ ga gn gc ca cn cc _ _ hR
 exact cE
theorem xM (ga:Option Addr)(gn gc:Nat)(g7:Nat)(W:World)(hR:QfR w1 C r x slot (some (ga,gn,gc)) none (some g7) none W):
  aB Tryz.prog .any iR Q (qfSL aw nw cw C r x slot N0 N1 N2 w1 HC HX hc0 hc1) 5 #[true,true,true,true,true,true,true,true,false,false,true,false,false,false] { tmps:=#[.agg (m02 aw nw cw C),.agg (m01 r),.int .i64 slot,.pointer (some (m00 N0)),.pointer (some (m00 N1)),undef,.pointer (some (m00 N2)),.pointer (some (m00 g7)),undef,.agg (m02 aw nw cw C),.pointer (some (m15 N1)),.slice r.av r.nv r.cv,.int .i64 slot,.slice ga gn gc,.agg (m02 aw nw cw C),.agg (m02 aw nw cw C),.int .i64 slot,undef,undef,undef,undef,undef],defers:=[] } W:=by
 have hmk:=@run_makeMap Tryz.prog
 refine cJ [8,11] (by kernel_rfl) (by simp) ?_
 refine cD 8 rfl (fun K hK=>?_) ?_
 ·go_simp
  refine(QfR.c2 HC.out hR).mono ?_;rintro e W2 ⟨ca,cn,cc,rfl,hR2⟩
  replace hR:=hR2
  clear hR2
  refine hK.out _ _ ?_ ?_
  ·exact⟨.inl (hc0 _ hR.bel),.inl (hc1 _ hR.bel),.inl (hc0 _ hR.bel),.inl (hc0 _ hR.bel),trivial⟩
  clear hK K hmk
  try simp only[Act.put,pA,pB,pC]
  exact pS Q hQp aw nw cw C r x slot N0 N1 N2 w1 HC HX hc0 hc1 hQ ga gn gc ca cn cc g7 _ hR
 refine cD 11 rfl (fun K hK=>?_) ?_
 ·go_simp
  have hR2:=hR.m8
  replace hR:=hR2
  clear hR2
  refine hK.out _ _ ?_ ?_
  ·exact⟨.inl (hc0 _ hR.bel),.inl (hc1 _ hR.bel),.inl (hc0 _ hR.bel),.inl (hc0 _ hR.bel),trivial⟩
  clear hK K hmk
  try simp only[Act.put,pA,pB,pC]
  exact jW Q hQp aw nw cw C r x slot N0 N1 N2 w1 HC HX hc0 hc1 hQ ga gn gc g7 _ _ hR
 exact cE
theorem xL (ga:Option Addr)(gn gc:Nat)(g8:Nat)(W:World)(hR:QfR w1 C r x slot (some (ga,gn,gc)) none none (some g8) W):
  aB Tryz.prog .any iR Q (qfSL aw nw cw C r x slot N0 N1 N2 w1 HC HX hc0 hc1) 5 #[true,true,true,true,true,true,true,true,false,false,false,true,false,false] { tmps:=#[.agg (m02 aw nw cw C),.agg (m01 r),.int .i64 slot,.pointer (some (m00 N0)),.pointer (some (m00 N1)),undef,.pointer (some (m00 N2)),undef,.pointer (some (m00 g8)),.agg (m02 aw nw cw C),.pointer (some (m15 N1)),.slice r.av r.nv r.cv,.int .i64 slot,.slice ga gn gc,.agg (m02 aw nw cw C),.agg (m02 aw nw cw C),.int .i64 slot,undef,undef,undef,undef,undef],defers:=[] } W:=by
 have hmk:=@run_makeMap Tryz.prog
 refine cJ [8,10] (by kernel_rfl) (by simp) ?_
 refine cD 8 rfl (fun K hK=>?_) ?_
 ·go_simp
  refine(QfR.c2 HC.out hR).mono ?_;rintro e W2 ⟨ca,cn,cc,rfl,hR2⟩
  replace hR:=hR2
  clear hR2
  refine hK.out _ _ ?_ ?_
  ·exact⟨.inl (hc0 _ hR.bel),.inl (hc1 _ hR.bel),.inl (hc0 _ hR.bel),.inl (hc0 _ hR.bel),trivial⟩
  clear hK K hmk
  try simp only[Act.put,pA,pB,pC]
  exact pR Q hQp aw nw cw C r x slot N0 N1 N2 w1 HC HX hc0 hc1 hQ ga gn gc ca cn cc g8 _ hR
 refine cD 10 rfl (fun K hK=>?_) ?_
 ·go_simp
  have hR2:=hR.m7
  replace hR:=hR2
  clear hR2
  refine hK.out _ _ ?_ ?_
  ·exact⟨.inl (hc0 _ hR.bel),.inl (hc1 _ hR.bel),.inl (hc0 _ hR.bel),.inl (hc0 _ hR.bel),trivial⟩
  clear hK K hmk
  try simp only[Act.put,pA,pB,pC]
  exact jW Q hQp aw nw cw C r x slot N0 N1 N2 w1 HC HX hc0 hc1 hQ ga gn gc _ g8 _ hR
 exact cE
theorem sX (g7:Nat)(g8:Nat)(W:World)(hR:QfR w1 C r x slot none none (some g7) (some g8) W):
  aB Tryz.prog .any iR Q (qfSL aw nw cw C r x slot N0 N1 N2 w1 HC HX hc0 hc1) 5 #[true,true,true,true,false,true,true,true,false,false,true,true,false,false] { tmps:=#[.agg (m02 aw nw cw C),.agg (m01 r),.int .i64 slot,.pointer (some (m00 N0)),.pointer (some (m00 N1)),undef,.pointer (some (m00 N2)),.pointer (some (m00 g7)),.pointer (some (m00 g8)),.agg (m02 aw nw cw C),.pointer (some (m15 N1)),.slice r.av r.nv r.cv,.int .i64 slot,undef,.agg (m02 aw nw cw C),.agg (m02 aw nw cw C),.int .i64 slot,undef,undef,undef,undef,undef],defers:=[] } W:=by
 have hmk:=@run_makeMap Tryz.prog
 refine cJ [4] (by kernel_rfl) (by simp) ?_
 refine cD 4 rfl (fun K hK=>?_) ?_
 ·go_simp
  refine(QfR.c1 HC.out HX.out hR).mono ?_;rintro e W2 ⟨ga,gn,gc,rfl,hR2⟩
  replace hR:=hR2
  clear hR2
  refine hK.out _ _ ?_ ?_
  ·exact⟨.inl (hc0 _ hR.bel),.inl (hc1 _ hR.bel),.inl (hc0 _ hR.bel),.inl (hc0 _ hR.bel),trivial⟩
  clear hK K hmk
  try simp only[Act.put,pA,pB,pC]
  exact jW Q hQp aw nw cw C r x slot N0 N1 N2 w1 HC HX hc0 hc1 hQ ga gn gc g7 g8 _ hR
 exact cE
theorem aNk (ga:Option Addr)(gn gc:Nat)(W:World)(hR:QfR w1 C r x slot (some (ga,gn,gc)) none none none W):
  aB Tryz.prog .any iR Q (qfSL aw nw cw C r x slot N0 N1 N2 w1 HC HX hc0 hc1) 6 #[true,true,true,true,true,true,true,true,false,false,false,false,false,false] { tmps:=#[.agg (m02 aw nw cw C),.agg (m01 r),.int .i64 slot,.pointer (some (m00 N0)),.pointer (some (m00 N1)),undef,.pointer (some (m00 N2)),undef,undef,.agg (m02 aw nw cw C),.pointer (some (m15 N1)),.slice r.av r.nv r.cv,.int .i64 slot,.slice ga gn gc,.agg (m02 aw nw cw C),.agg (m02 aw nw cw C),.int .i64 slot,undef,undef,undef,undef,undef],defers:=[] } W:=by
 have hmk:=@run_makeMap Tryz.prog
 refine cJ [8,10,11] (by kernel_rfl) (by simp) ?_
 refine cD 8 rfl (fun K hK=>?_) ?_
 ·go_simp
  refine(QfR.c2 HC.out hR).mono ?_;rintro e W2 ⟨ca,cn,cc,rfl,hR2⟩
  replace hR:=hR2
  clear hR2
  refine hK.out _ _ ?_ ?_
  ·exact⟨.inl (hc0 _ hR.bel),.inl (hc1 _ hR.bel),.inl (hc0 _ hR.bel),.inl (hc0 _ hR.bel),trivial⟩
  clear hK K hmk
  try simp only[Act.put,pA,pB,pC]
  exact aJi Q hQp aw nw cw C r x slot N0 N1 N2 w1 HC HX hc0 hc1 hQ ga gn gc ca cn cc _ hR
 refine cD 10 rfl (fun K hK=>?_) ?_
 ·go_simp
  have hR2:=hR.m7
  replace hR:=hR2
  clear hR2
  refine hK.out _ _ ?_ ?_
  ·exact⟨.inl (hc0 _ hR.bel),.inl (hc1 _ hR.bel),.inl (hc0 _ hR.bel),.inl (hc0 _ hR.bel),trivial⟩
  clear hK K hmk
  try simp only[Act.put,pA,pB,pC]
  exact xM Q hQp aw nw cw C r x slot N0 N1 N2 w1 HC HX hc0 hc1 hQ ga gn gc _ _ hR
 refine cD 11 rfl (fun K hK=>?_) ?_
 ·go_simp
  have hR2:=hR.m8
  replace hR:=hR2
  clear hR2
  refine hK.out _ _ ?_ ?_
  ·exact⟨.inl (hc0 _ hR.bel),.inl (hc1 _ hR.bel),.inl (hc0 _ hR.bel),.inl (hc0 _ hR.bel),trivial⟩
  clear hK K hmk
  try simp only[Act.put,pA,pB,pC]
  exact xL Q hQp aw nw cw C r x slot N0 N1 N2 w1 HC HX hc0 hc1 hQ ga gn gc _ _ hR
 exact cE
theorem aLz (g7:Nat)(W:World)(hR:QfR w1 C r x slot none none (some g7) none W):
  aB Tryz.prog .any iR Q (qfSL aw nw cw C r x slot N0 N1 N2 w1 HC HX hc0 hc1) 6 #[true,true,true,true,false,true,true,true,false,false,true,false,false,false] { tmps:=#[.agg (m02 aw nw cw C),.agg (m01 r),.int .i64 slot,.pointer (some (m00 N0)),.pointer (some (m00 N1)),undef,.pointer (some (m00 N2)),.pointer (some (m00 g7)),undef,.agg (m02 aw nw cw C),.pointer (some (m15 N1)),.slice r.av r.nv r.cv,.int .i64 slot,undef,.agg (m02 aw nw cw C),.agg (m02 aw nw cw C),.int .i64 slot,undef,undef,undef,undef,undef],defers:=[] } W:=by
 have hmk:=@run_makeMap Tryz.prog
 refine cJ [4,11] (by kernel_rfl) (by simp) ?_
 refine cD 4 rfl (fun K hK=>?_) ?_
 ·go_simp
  refine(QfR.c1 HC.out HX.out hR).mono ?_;rintro e W2 ⟨ga,gn,gc,rfl,hR2⟩
  replace hR:=hR2
  clear hR2
  refine hK.out _ _ ?_ ?_
  ·exact⟨.inl (hc0 _ hR.bel),.inl (hc1 _ hR.bel),.inl (hc0 _ hR.bel),.inl (hc0 _ hR.bel),trivial⟩
  clear hK K hmk
  try simp only[Act.put,pA,pB,pC]
  exact xM Q hQp aw nw cw C r x slot N0 N1 N2 w1 HC HX hc0 hc1 hQ ga gn gc g7 _ hR
 refine cD 11 rfl (fun K hK=>?_) ?_
 ·go_simp
  have hR2:=hR.m8
  replace hR:=hR2
  clear hR2
  refine hK.out _ _ ?_ ?_
  ·exact⟨.inl (hc0 _ hR.bel),.inl (hc1 _ hR.bel),.inl (hc0 _ hR.bel),.inl (hc0 _ hR.bel),trivial⟩
  clear hK K hmk
  try simp only[Act.put,pA,pB,pC]
  exact sX Q hQp aw nw cw C r x slot N0 N1 N2 w1 HC HX hc0 hc1 hQ g7 _ _ hR
 exact cE
theorem aLy (g8:Nat)(W:World)(hR:QfR w1 C r x slot none none none (some g8) W):
  aB Tryz.prog .any iR Q (qfSL aw nw cw C r x slot N0 N1 N2 w1 HC HX hc0 hc1) 6 #[true,true,true,true,false,true,true,true,false,false,false,true,false,false] { tmps:=#[.agg (m02 aw nw cw C),.agg (m01 r),.int .i64 slot,.pointer (some (m00 N0)),.pointer (some (m00 N1)),undef,.pointer (some (m00 N2)),undef,.pointer (some (m00 g8)),.agg (m02 aw nw cw C),.pointer (some (m15 N1)),.slice r.av r.nv r.cv,.int .i64 slot,undef,.agg (m02 aw nw cw C),.agg (m02 aw nw cw C),.int .i64 slot,undef,undef,undef,undef,undef],defers:=[] } W:=by
 have hmk:=@run_makeMap Tryz.prog
 refine cJ [4,10] (by kernel_rfl) (by simp) ?_
 refine cD 4 rfl (fun K hK=>?_) ?_
 ·go_simp
  refine(QfR.c1 HC.out HX.out hR).mono ?_;rintro e W2 ⟨ga,gn,gc,rfl,hR2⟩
  replace hR:=hR2
  clear hR2
  refine hK.out _ _ ?_ ?_
  ·exact⟨.inl (hc0 _ hR.bel),.inl (hc1 _ hR.bel),.inl (hc0 _ hR.bel),.inl (hc0 _ hR.bel),trivial⟩
  clear hK K hmk
  try simp only[Act.put,pA,pB,pC]
  exact xL Q hQp aw nw cw C r x slot N0 N1 N2 w1 HC HX hc0 hc1 hQ ga gn gc g8 _ hR
 refine cD 10 rfl (fun K hK=>?_) ?_
 ·go_simp
  have hR2:=hR.m7
  replace hR:=hR2
  clear hR2
  refine hK.out _ _ ?_ ?_
  ·exact⟨.inl (hc0 _ hR.bel),.inl (hc1 _ hR.bel),.inl (hc0 _ hR.bel),.inl (hc0 _ hR.bel),trivial⟩
  clear hK K hmk
  try simp only[Act.put,pA,pB,pC]
  exact sX Q hQp aw nw cw C r x slot N0 N1 N2 w1 HC HX hc0 hc1 hQ _ g8 _ hR
 exact cE
theorem qf_ (W:World)(hR:QfR w1 C r x slot none none none none W):
  aB Tryz.prog .any iR Q (qfSL aw nw cw C r x slot N0 N1 N2 w1 HC HX hc0 hc1) 7 #[true,true,true,true,false,true,true,true,false,false,false,false,false,false] { tmps:=#[.agg (m02 aw nw cw C),.agg (m01 r),.int .i64 slot,.pointer (some (m00 N0)),.pointer (some (m00 N1)),undef,.pointer (some (m00 N2)),undef,undef,.agg (m02 aw nw cw C),.pointer (some (m15 N1)),.slice r.av r.nv r.cv,.int .i64 slot,undef,.agg (m02 aw nw cw C),.agg (m02 aw nw cw C),.int .i64 slot,undef,undef,undef,undef,undef],defers:=[] } W:=by
 have hmk:=@run_makeMap Tryz.prog
 refine cJ [4,10,11] (by kernel_rfl) (by simp) ?_
 refine cD 4 rfl (fun K hK=>?_) ?_
 ·go_simp
  refine(QfR.c1 HC.out HX.out hR).mono ?_;rintro e W2 ⟨ga,gn,gc,rfl,hR2⟩
  replace hR:=hR2
  clear hR2
  refine hK.out _ _ ?_ ?_
  ·exact⟨.inl (hc0 _ hR.bel),.inl (hc1 _ hR.bel),.inl (hc0 _ hR.bel),.inl (hc0 _ hR.bel),trivial⟩
  clear hK K hmk
  try simp only[Act.put,pA,pB,pC]
  exact aNk Q hQp aw nw cw C r x slot N0 N1 N2 w1 HC HX hc0 hc1 hQ ga gn gc _ hR
 refine cD 10 rfl (fun K hK=>?_) ?_
 ·go_simp
  have hR2:=hR.m7
  replace hR:=hR2
  clear hR2
  refine hK.out _ _ ?_ ?_
  ·exact⟨.inl (hc0 _ hR.bel),.inl (hc1 _ hR.bel),.inl (hc0 _ hR.bel),.inl (hc0 _ hR.bel),trivial⟩
  clear hK K hmk
  try simp only[Act.put,pA,pB,pC]
  exact aLz Q hQp aw nw cw C r x slot N0 N1 N2 w1 HC HX hc0 hc1 hQ _ _ hR
 refine cD 11 rfl (fun K hK=>?_) ?_
 ·go_simp
  have hR2:=hR.m8
  replace hR:=hR2
  clear hR2
  refine hK.out _ _ ?_ ?_
  ·exact⟨.inl (hc0 _ hR.bel),.inl (hc1 _ hR.bel),.inl (hc0 _ hR.bel),.inl (hc0 _ hR.bel),trivial⟩
  clear hK K hmk
  try simp only[Act.put,pA,pB,pC]
  exact aLy Q hQp aw nw cw C r x slot N0 N1 N2 w1 HC HX hc0 hc1 hQ _ _ hR
 exact cE
theorem aCj (hR:QfR w1 C r x slot none none none none w1.drew):(Code.region 1 iR true).wp Tryz.prog Q { tmps:=#[.agg (m02 aw nw cw C),.agg (m01 r),.int .i64 slot,.pointer (some (m00 N0)),.pointer (some (m00 N1)),undef,.pointer (some (m00 N2)),undef,undef,undef,undef,undef,undef,undef,undef,undef,undef,undef,undef,undef,undef,undef],defers:=[] } w1:=by
 refine cN (qfSL aw nw cw C r x slot N0 N1 N2 w1 HC HX hc0 hc1) (by kernel_rfl) ?_
 generalize w1.drew=W at hR⊢
 show aB _ _ _ _ _ 14 #[false,false,false,false,false,false,false,false,false,false,false,false,false,false] _ _
 refine wY 0 0 rfl rfl (hc0 _ hR.bel) ?_ (hQ:=fun _ _ _=>hQp _ _ _ _ _)
 refine wX 1 rfl ?_ (hQ:=fun _ _ _=>hQp _ _ _ _ _)
 refine wY 1 2 rfl rfl (hc1 _ hR.bel) ?_ (hQ:=fun _ _ _=>hQp _ _ _ _ _)
 refine wX 3 rfl ?_ (hQ:=fun _ _ _=>hQp _ _ _ _ _)
 refine wY 2 5 rfl rfl (hc0 _ hR.bel) ?_ (hQ:=fun _ _ _=>hQp _ _ _ _ _)
 refine wY 3 6 rfl rfl (hc0 _ hR.bel) ?_ (hQ:=fun _ _ _=>hQp _ _ _ _ _)
 refine wX 7 rfl ?_ (hQ:=fun _ _ _=>hQp _ _ _ _ _)
 exact qf_ Q hQp aw nw cw C r x slot N0 N1 N2 w1 HC HX hc0 hc1 hQ _ hR
end
structure QtR (W:World) (N0 N1 g7 g8:Nat) (aw:Option Addr) (nw cw:Nat) (C:Tp.Cf) (r:RV) (x:Tp.Vw) (slot:Int):Prop where
 cf:W.heap[N0]?=some (.cells (m02 aw nw cw C) 25 (0,0))
 vw:W.heap[N1]?=some (.cells (m01 r) 38 (0,0))
 b7:∃ga gn gc,W.heap[g7]?=some (.cells #[.slice ga gn gc] 36 (0,0))/\SlV aH 4 W ga gn gc (Tp.lL C x.v slot)/\gn<=1000000/\(gn=0\/∃g,ga=some ⟨g,0,none⟩/\N0<=g)
 b8:W.heap[g8]?=some (.cells #[.int .i64 (Tp.allC C slot)] 3 (0,0))
 conf:aP W aw nw C.W C.sd
 view:VwR W r x
 lo1:N0<=N1
 lo7:N0<=g7
 lo8:N0<=g8
theorem QtR.keep {W W':World}{N0 N1 g7 g8:Nat}{aw:Option Addr}{nw cw:Nat}{C:Tp.Cf}{r:RV}{x:Tp.Vw}{slot:Int}(h:QtR W N0 N1 g7 g8 aw nw cw C r x slot)(hb:Below W.heap.size W W'):QtR W' N0 N1 g7 g8 aw nw cw C r x slot:=by
 obtain⟨ga,gn,gc,h7,hs,hn,hlo⟩:=h.b7
 exact⟨bK hb h.cf,bK hb h.vw,⟨ga,gn,gc,bK hb h7,hs.keep hb,hn,hlo⟩,bK hb h.b8,h.conf.keep hb,h.view.keep hb,h.lo1,h.lo7,h.lo8⟩
theorem QtR.low {W W':World}{N0 N1 g7 g8 g:Nat}{o:Obj}{aw:Option Addr}{nw cw:Nat}{C:Tp.Cf}{r:RV}{x:Tp.Vw}{slot:Int}(h:QtR W N0 N1 g7 g8 aw nw cw C r x slot)(ht:cT g o W W')(hg:g<N0)(hC:aP W' aw nw C.W C.sd)(hx:VwR W' r x):QtR W' N0 N1 g7 g8 aw nw cw C r x slot:=by
 obtain⟨ga,gn,gc,h7,hs,hn,hlo⟩:=h.b7
 refine⟨(ht.block _ (by omega)).trans h.cf,(ht.block _ (by have:=h.lo1;omega)).trans h.vw,⟨ga,gn,gc,(ht.block _ (by have:=h.lo7;omega)).trans h7,?_,hn,hlo⟩,(ht.block _ (by have:=h.lo8;omega)).trans h.b8,hC,hx,h.lo1,h.lo7,h.lo8⟩
 refine⟨hs.len,hs.cap,hs.top,?_⟩
 rcases hs.rows with h0|⟨b,o,ha,hlt,hc⟩
 ·exact .inl h0
 ·rcases hlo with h0|⟨gb,hga,hge⟩
  ·exact .inl (by rw[hs.len];exact h0)
  ·rw[hga]at ha
   cases ha
   refine .inr ⟨_,_,hga,by rw[ht.size];exact hlt,fun i hi j hj=>?_⟩
   rw[<-hc i hi j hj]
   exact World.cell?_of_block (w:=W) (ht.block b (by omega))
def Tp.onC (C:Tp.Cf) (x:Tp.Vw) (slot:Int) (id:Int×Int):Int:=Tp.on C.W C.ep C.nu C.de x.b (Tp.lL C x.v slot) id
theorem aMb (N0 N1 g7 g8:Nat)(aw:Option Addr)(nw cw:Nat)(C:Tp.Cf)(r:RV)(x:Tp.Vw)(slot:Int)(t0 t1:Int)(w:World)(h:QtR w N0 N1 g7 g8 aw nw cw C r x slot):
  Calls Tryz.prog 133 #[.agg (m08 t0 t1),.pointer (some (m00 N0)),.pointer (some (m00 N1)),.pointer (some (m00 g7))] w fun e w'=>e=.returned (m30 (Tp.onC C x slot (t0,t1)))/\Below w.heap.size w w':=by
 have hb1:Below w.heap.size w (w.alloc (m40 t0 t1)):=(Below.refl _ w).alloc nr _
 have h1:=h.keep hb1
 obtain⟨ga,gn,gc,h7,hs,hn,-⟩:=h1.b7
 obtain⟨c0,c1,c2,c3,c4⟩:=kc5 h1.cf
 have c5:(w.alloc (m40 t0 t1)).cell? (m00 N1)=some (.slice r.ab r.nb r.cb):=cA h1.vw 0
 have c6:(w.alloc (m40 t0 t1)).cell? (m00 g7)=some (.slice ga gn gc):=cA h7 0
 have z0:(w.alloc (m40 t0 t1)).cell? (m07 w)=some (.int .u64 t0):=cA (heap_alloc_new w _) 0
 have z1:(w.alloc (m40 t0 t1)).cell? (m14 w)=some (.int .u64 t1):=cA (heap_alloc_new w _) 1
 have H1:=zH h1
 have HS:=zH hs
 have HB1:=zH hb1
 clear h h1 h7 hs hb1
 go_enter Tryz.func133,Tryz.ntmps133
 go_wp2_with fail
 generalize w.alloc (m40 t0 t1)=w1 at H1 HS HB1 c0 c1 c2 c3 c4 c5 c6 z0 z1⊢
 go_wp2_with (go_at_call 117;refine(aCw aw nw cw C.W C.sd C.ep C.nu C.de r.ab r.nb r.cb x.b ga gn gc (Tp.lL C x.v slot) t0 t1 w1 H1.out.conf.len H1.out.conf.max H1.out.conf.ints H1.out.view.ok.b.len H1.out.view.ok.bm H1.out.view.ok.u H1.out.view.ok.b.rows.blks HS.out hn).mono ?_;rintro e w2 ⟨rfl,hb2⟩)
 go_ret
 exact⟨rfl,bS HB1.out hb2⟩
theorem aMa (N0 N1 g7 g8:Nat)(aw:Option Addr)(nw cw:Nat)(C:Tp.Cf)(r:RV)(x:Tp.Vw)(slot:Int)(n:Int)(w:World)(h:QtR w N0 N1 g7 g8 aw nw cw C r x slot)(hn:0<=n/\n<=1000000000000000)(hnu:0<=C.nu/\C.nu<=1000)(hde:0<=C.de/\C.de<=1000):
  Calls Tryz.prog 134 #[.int .i64 n,.pointer (some (m00 N0)),.pointer (some (m00 g8))] w fun e w'=>e=.returned (.bool (Rt.moreB (2*n) C.de (Tp.allC C slot) (C.de+2*C.nu)))/\Below w.heap.size w w':=by
 have c3:w.cell? (m33 N0)=some (.int .i64 C.nu):=cA h.cf 3
 have c4:w.cell? (m35 N0)=some (.int .i64 C.de):=cA h.cf 4
 have c8:w.cell? (m00 g8)=some (.int .i64 (Tp.allC C slot)):=cA h.b8 0
 obtain⟨hn0,hn1⟩:=hn
 obtain⟨hu0,hu1⟩:=hnu
 obtain⟨hd0,hd1⟩:=hde
 clear h
 go_enter Tryz.func134,Tryz.ntmps134
 go_wp2_with (go_at_call 135;go_loud (refine(Rw.more_any (2*n) C.de (Tp.allC C slot) (C.de+2*C.nu) _).mono ?_;rintro e w2 ⟨rfl,hb2⟩))
 go_ret
 exact⟨rfl,hb2⟩
theorem aJh (aw:Option Addr)(nw cw:Nat)(C:Tp.Cf)(r:RV)(x:Tp.Vw)(slot:Int)(w:World)(hC:aP w aw nw C.W C.sd)(hx:VwR w r x):
  Calls Tryz.prog 115 #[.agg (m02 aw nw cw C),.agg (m01 r),.int .i64 slot] w fun e w'=>
   ∃g7 g8,e=.returned (.agg #[.func (.func 133) #[] #[.pointer (some (m07 w)),.pointer (some (m22 w)),.pointer (some (m00 g7))],.func (.func 134) #[] (m64 w g8)])/\
    QtR w' w.heap.size (w.heap.size+1) g7 g8 aw nw cw C r x slot/\Below w.heap.size w w':=by
 obtain⟨w1,ew1_⟩:∃z,Hid (z=((w.alloc (.cells (m02 aw nw cw C) 25)).alloc (m49 r)).alloc (.cells #[Value.nilFunc,Value.nilFunc] 173)):=⟨_,zH rfl⟩
 have hb3:Below w.heap.size w (w1):=by cases ew1_.out;exact dO _ _ _
 have hcf:(w1).heap[w.heap.size]?=some (.cells (m02 aw nw cw C) 25 (0,0)):=by cases ew1_.out;rw[cF,if_neg (by simp only[World.size_alloc];omega),cF,if_neg (by simp),cF,if_pos rfl]
 have hvw:(w1).heap[w.heap.size+1]?=some (.cells (m01 r) 38 (0,0)):=by cases ew1_.out;rw[cF,if_neg (by simp only[World.size_alloc];omega),cF,if_pos (by simp)]
 have hrs:(w1).heap[w.heap.size+2]?=some (.cells #[Value.nilFunc,Value.nilFunc] 173 (0,0)):=by cases ew1_.out;rw[cF,if_pos (by simp)]
 have hs3:(w1).heap.size=w.heap.size+3:=by cases ew1_.out;simp
 go_enter Tryz.func115,Tryz.ntmps115
 go_upto_region 1 with fail
 rw[<-ew1_.out]
 have HC:=zH (hC.keep hb3)
 have HX:=zH (hx.keep hb3)
 have HXW:=zH hx
 have HCW:=zH hC
 have HB3:=zH hb3
 have HCF:=zH hcf
 have HVW:=zH hvw
 have HRS:=zH hrs
 have HS3:=zH hs3
 clear hC hx hb3 hcf hvw hrs hs3
 refine aCj _ (fun _ _ d _ _ h=>by cases d<;>exact h) aw nw cw C r x slot w.heap.size (w.heap.size+1) (w.heap.size+2) w1 HC HX ?_ ?_ ?_ QfR.start
 ·intro W hb
  have hk:=cG hb (by rw[HS3.out];omega) HCF.out
  exact⟨cA hk 0,cA hk 1,cA hk 2,cA hk 3,cA hk 4⟩
 ·intro W hb
  exact cA (cG hb (by rw[HS3.out];omega) HVW.out) 1
 ·intro ga gn gc ca cn cc g7 g8 W hR
  have T7:=iN (i:=0) (v:=.slice ga gn gc) (hR.b7 _ rfl).1 (by simp)
  have hne:g8≠g7:=Ne.symm (hR.ne _ _ rfl rfl)
  have h8:=(T7.block g8 hne).trans (hR.b8 _ rfl).1
  have T8:=iN (i:=0) (v:=.int .i64 (Tp.allC C slot)) h8 (by simp)
  have l7:=(hR.b7 _ rfl).2
  have l8:=(hR.b8 _ rfl).2
  have hsz:=HS3.out
  obtain⟨w5,ew5_⟩:∃z,Hid (z=(W.setCell (m00 g7) (m63 ga gn gc)).setCell (m00 g8) (m30 (Tp.allC C slot))):=⟨_,zH rfl⟩
  have k7:(w5).heap[g7]?=some (.cells #[.slice ga gn gc] 36 (0,0)):=by cases ew5_.out;exact(T8.block g7 (Ne.symm hne)).trans T7.new
  have k8:(w5).heap[g8]?=some (.cells #[.int .i64 (Tp.allC C slot)] 3 (0,0)):=by cases ew5_.out;exact T8.new
  have hbW:Below w1.heap.size w1 (w5):=by cases ew5_.out;exact hR.bel.trans ((T7.below l7).trans (T8.below l8))
  have hrs:=cG hbW (by rw[hsz];omega) HRS.out
  have hcf:=cG hbW (by rw[hsz];omega) HCF.out
  have hvw:=cG hbW (by rw[hsz];omega) HVW.out
  have hg:=hR.gold _ _ _ rfl
  have hgs:SlV aH 4 (w5) ga gn gc (Tp.lL C x.v slot):=by
   cases ew5_.out
   refine⟨hg.1.len,hg.1.cap,hg.1.top,?_⟩
   rcases hg.1.rows with h0|⟨b,o,ha,hlt,hc⟩
   ·exact .inl h0
   ·rcases hg.2.2 with h0|⟨g,hga,hge,hg7,hg8⟩
    ·exact .inl (by rw[hg.1.len];exact h0)
    ·rw[hga]at ha
     cases ha
     refine .inr ⟨_,_,hga,by rw[T8.size,T7.size];exact hlt,fun i hi j hj=>?_⟩
     rw[<-hc i hi j hj]
     exact World.cell?_of_block (w:=W) ((T8.block _ (hg8 _ rfl)).trans (T7.block _ (hg7 _ rfl)))
  have HGS:=zH hgs
  have HK7:=zH k7
  have HK8:=zH k8
  have HBW:=zH hbW
  have HR2:=zH hrs
  have HC2:=zH hcf
  have HV2:=zH hvw
  have HGN:=zH hg.2.1
  have HGF:=zH (show gn=0\/∃g,ga=some ⟨g,0,none⟩/\w.heap.size+3<=g from hg.2.2.imp id fun⟨g,h1,h2,_⟩=>⟨g,h1,by omega⟩)
  have HL7:=zH (show w.heap.size+3<=g7 by omega)
  have HL8:=zH (show w.heap.size+3<=g8 by omega)
  clear T7 T8 hne h8 l7 l8 hsz k7 k8 hbW hcf hvw hg hgs hR
  rw[<-ew5_.out]
  obtain⟨r0,r1⟩:=kc2 hrs
  obtain⟨f0,f1⟩:=kf2 hrs
  have T:=set2 w5 (w.heap.size+2) _ _ (.func (.func 133) #[] #[.pointer (some (m07 w)),.pointer (some (m22 w)),.pointer (some (m00 g7))]) (.func (.func 134) #[] (m64 w g8)) _ hrs
  have HT:=zH T
  clear T hrs
  go_wp2
  have t:=HT.out
  have hbl:Below w.heap.size w ((w5.setCell (m45 w) (.func (.func 133) #[] #[.pointer (some (m07 w)),.pointer (some (m22 w)),.pointer (some (m00 g7))])).setCell (m54 w) (.func (.func 134) #[] (m64 w g8))):=(bS HB3.out HBW.out).trans (t.below (N:=w.heap.size) (by omega))
  have hgl:SlV aH 4 ((w5.setCell (m45 w) (.func (.func 133) #[] #[.pointer (some (m07 w)),.pointer (some (m22 w)),.pointer (some (m00 g7))])).setCell (m54 w) (.func (.func 134) #[] (m64 w g8))) ga gn gc (Tp.lL C x.v slot):=by
   refine⟨HGS.out.len,HGS.out.cap,HGS.out.top,?_⟩
   rcases HGS.out.rows with h0|⟨b,o,ha,hlt,hc⟩
   ·exact .inl h0
   ·rcases HGF.out with h0|⟨g,hga,hge⟩
    ·exact .inl (by rw[HGS.out.len];exact h0)
    ·rw[hga]at ha
     cases ha
     refine .inr ⟨_,_,hga,by rw[t.size];exact hlt,fun i hi j hj=>?_⟩
     rw[<-hc i hi j hj]
     exact World.cell?_of_block (w:=w5) (t.block b (by omega))
  have hq:QtR ((w5.setCell (m45 w) (.func (.func 133) #[] #[.pointer (some (m07 w)),.pointer (some (m22 w)),.pointer (some (m00 g7))])).setCell (m54 w) (.func (.func 134) #[] (m64 w g8))) w.heap.size (w.heap.size+1) g7 g8 aw nw cw C r x slot:=⟨(t.block _ (by omega)).trans HC2.out,(t.block _ (by omega)).trans HV2.out,⟨ga,gn,gc,(t.block _ (by have:=HL7.out;omega)).trans HK7.out,hgl,Nat.le_trans HGN.out HXW.out.ok.vm,HGF.out.imp id fun⟨g,h1,h2⟩=>⟨g,h1,by omega⟩⟩,(t.block _ (by have:=HL8.out;omega)).trans HK8.out,HCW.out.keep hbl,HXW.out.keep hbl,Nat.le_succ _,by have:=HL7.out;omega,by have:=HL8.out;omega⟩
  refine bodyPost_ret (v:=.agg #[.func (.func 133) #[] #[.pointer (some (m07 w)),.pointer (some (m22 w)),.pointer (some (m00 g7))],.func (.func 134) #[] (m64 w g8)]) ?_ rfl ⟨g7,g8,rfl,hq,hbl⟩
  simp[results,Tryz.results115,go_sem,r0,r1]
end Go.Proofs.YtbbhinehcncmeaaGreat
