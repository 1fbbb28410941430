/- A part of the proof of the laws of the top: TpNodeI. No condition. -/
import Derived.Test.YtbbhinehcncmeaaGreatG25
namespace Go.Proofs.YtbbhinehcncmeaaGreat
open Go.RowKit
set_option linter.unusedSimpArgs false
set_option linter.unusedVariables false
set_option linter.unusedSectionVars false
set_option maxRecDepth 100000
set_option maxHeartbeats 2000000
section
variable [Forb]
structure StR (w1:World) (al:Option Nat) (W:World):Prop where
 bel:Below w1.heap.size w1 W
 aa:∀g,al=some g->W.heap[g]?=some (.cells (m58) 84 (0,0))/\w1.heap.size<=g
section
variable {w1 W W':World}{al:Option Nat}
theorem StR.start :StR w1 none w1.drew:=⟨(Below.refl _ _).drew,fun _ h=>(by cases h)⟩
theorem StR.keep (h:StR w1 al W)(hb:Below W.heap.size W W'):StR w1 al W':=
 ⟨bS h.bel hb,fun g he=>⟨cG hb (gS (h.aa g he).1) (h.aa g he).1,(h.aa g he).2⟩⟩
theorem StR.m (h:StR w1 none W):StR w1 (some W.heap.size) (W.alloc (.cells (m58) 84)):=by
 have h2:=h.keep (W':=W.alloc (.cells (m58) 84)) ((Below.refl _ _).alloc nr _)
 refine⟨h2.bel,fun g he=>?_⟩
 cases he
 exact⟨heap_alloc_new W _,h.bel.size⟩
theorem StR.c1 {X:Nat}{aw:Option Addr}{nw cw:Nat}{C:Tp.Cf}{k:Tp.Nw}(hN:NWe w1 X aw nw cw C k)(h:StR w1 al W)(slot:Int):Calls Tryz.prog 97 #[.pointer (some (m00 X)),.int .i64 slot] W fun e W'=>e=.returned (.agg #[.int .u64 (Tp.aL C k.n.v slot).1,.int .u64 (Tp.aL C k.n.v slot).2])/\StR w1 al W':=by
 obtain⟨r,os,ta,tn,tc,ts,hN⟩:=hN
 refine(mS X aw nw cw C k slot W ⟨r,os,ta,tn,tc,ts,hN.keep h.bel⟩).mono ?_
 rintro e W' ⟨rfl,hb⟩
 exact⟨rfl,h.keep hb⟩
end
abbrev aBu :Array Oper:=#[⟨some 52,.move (.tmp 0),114,"node.go:107",#[],none⟩,
 ⟨some 53,.nilCheck (.tmp 52),0,"node.go:107",#[⟨0,.data⟩],none⟩,
 ⟨some 54,.fieldAddr 116 (.tmp 53) 0,0,"node.go:107",#[⟨1,.data⟩],none⟩,
 ⟨some 55,.fieldAddr 44 (.tmp 54) 0,0,"node.go:107",#[⟨2,.data⟩],none⟩,
 ⟨some 56,.load 3 (.tmp 55),3,"node.go:107",#[⟨3,.data⟩],none⟩,
 ⟨some 57,.move (.tmp 0),114,"node.go:107",#[],none⟩,
 ⟨some 58,.nilCheck (.tmp 57),0,"node.go:107",#[⟨5,.data⟩],none⟩,
 ⟨some 59,.fieldAddr 116 (.tmp 58) 2,0,"node.go:107",#[⟨6,.data⟩],none⟩,
 ⟨some 60,.load 3 (.tmp 59),3,"node.go:107",#[⟨7,.data⟩],none⟩,
 ⟨some 61,.move (.tmp 0),114,"node.go:107",#[],none⟩,
 ⟨some 62,.move (.tmp 0),114,"node.go:107",#[],none⟩,
 ⟨some 63,.nilCheck (.tmp 62),0,"node.go:107",#[⟨10,.data⟩],none⟩,
 ⟨some 64,.fieldAddr 116 (.tmp 63) 2,0,"node.go:107",#[⟨11,.data⟩],none⟩,
 ⟨some 65,.load 3 (.tmp 64),3,"node.go:107",#[⟨12,.data⟩],none⟩,
 ⟨some 66,.binOp .sub 3 (.tmp 65) (.const (.int .i64 1)) 3,3,"node.go:107",#[⟨13,.data⟩],none⟩,
 ⟨some 67,.call ⟨.value (.func 97),#[.tmp 61,.tmp 66],#[114,3]⟩,40,"node.go:107",#[⟨9,.data⟩,⟨14,.data⟩],none⟩,
 ⟨some 68,.build 84 #[(0,.tmp 56),(1,.tmp 60),(2,.tmp 67)],84,"node.go:107",#[⟨4,.data⟩,⟨8,.data⟩,⟨15,.data⟩],none⟩,
 ⟨some 4,.alloc 84,0,"node.go:107",#[],none⟩,
 ⟨none,.store 84 (.tmp 4) (.tmp 68),0,"node.go:107",#[⟨17,.data⟩,⟨16,.data⟩,⟨15,.chain⟩,⟨0,.phase⟩,⟨1,.phase⟩,⟨2,.phase⟩,⟨3,.phase⟩,⟨4,.phase⟩,⟨5,.phase⟩,⟨6,.phase⟩,⟨7,.phase⟩,⟨8,.phase⟩,⟨9,.phase⟩,⟨10,.phase⟩,⟨11,.phase⟩,⟨12,.phase⟩,⟨13,.phase⟩,⟨14,.phase⟩,⟨15,.phase⟩,⟨16,.phase⟩,⟨17,.phase⟩],none⟩]
abbrev stSL (X:Nat) (aw:Option Addr) (nw cw:Nat) (C:Tp.Cf) (k:Tp.Nw) (u3 u5 u6 u7 u8 u9 u10 u11 u12 u13 u14 u15 u16 u17 u18 u19 u20 u21 u22 u23 u24 u25 u26 u27 u28 u29 u30 u31 u32 u33 u34 u35 u36 u37 u38 u39 u40 u41 u42 u43 u44 u45 u46 u47 u48 u49 u50 u51:Value) (w1:World) (HN:Hid (NWe w1 X aw nw cw C k)) (hsl:0<=k.slot/\k.slot<=1000000) (hc:∀W:World,Below w1.heap.size w1 W->W.cell? (m00 X)=some (.int .i64 k.n.no)/\W.cell? (m47 X)=some (.int .i64 k.slot)):List (Nat×(World->Prop)):=[(4,fun W=>W.cell? (m00 X)=some (.int .i64 k.n.no)),(8,fun W=>W.cell? (m47 X)=some (.int .i64 k.slot)),(13,fun W=>W.cell? (m47 X)=some (.int .i64 k.slot))]
section
variable (Q:Exit->Act->World->Prop)(hQp:∀(c:_) (a:Act) (d:Option Tmp) (v:Value) (w:World),Q (.panic c) (a.put d v) w->Q (.panic c) a w)(X:Nat)(aw:Option Addr)(nw cw:Nat)(C:Tp.Cf)(k:Tp.Nw)(u3 u5 u6 u7 u8 u9 u10 u11 u12 u13 u14 u15 u16 u17 u18 u19 u20 u21 u22 u23 u24 u25 u26 u27 u28 u29 u30 u31 u32 u33 u34 u35 u36 u37 u38 u39 u40 u41 u42 u43 u44 u45 u46 u47 u48 u49 u50 u51:Value)(w1:World)(HN:Hid (NWe w1 X aw nw cw C k))(hsl:0<=k.slot/\k.slot<=1000000)(hc:∀W:World,Below w1.heap.size w1 W->W.cell? (m00 X)=some (.int .i64 k.n.no)/\W.cell? (m47 X)=some (.int .i64 k.slot))(hQ:∀g W,StR w1 (some g) W->Q .normal { tmps:=#[.pointer (some (m00 X)),undef,undef,u3,.pointer (some (m00 g)),u5,u6,u7,u8,u9,u10,u11,u12,u13,u14,u15,u16,u17,u18,u19,u20,u21,u22,u23,u24,u25,u26,u27,u28,u29,u30,u31,u32,u33,u34,u35,u36,u37,u38,u39,u40,u41,u42,u43,u44,u45,u46,u47,u48,u49,u50,u51,.pointer (some (m00 X)),.pointer (some (m00 X)),.pointer (some (m00 X)),.pointer (some (m00 X)),.int .i64 k.n.no,.pointer (some (m00 X)),.pointer (some (m00 X)),.pointer (some (m47 X)),.int .i64 k.slot,.pointer (some (m00 X)),.pointer (some (m00 X)),.pointer (some (m00 X)),.pointer (some (m47 X)),.int .i64 k.slot,.int .i64 (k.slot-1),.agg #[.int .u64 (Tp.aL C k.n.v (k.slot-1)).1,.int .u64 (Tp.aL C k.n.v (k.slot-1)).2],.agg #[.int .i64 k.n.no,.int .i64 k.slot,.int .u64 (Tp.aL C k.n.v (k.slot-1)).1,.int .u64 (Tp.aL C k.n.v (k.slot-1)).2],undef,undef,undef,undef,undef,undef,undef,undef,undef,undef,undef,undef,undef],defers:=[] } ((((W.setCell (m00 g) (m30 k.n.no)).setCell (m15 g) (m30 k.slot)).setCell (m25 g) (.int .u64 (Tp.aL C k.n.v (k.slot-1)).1)).setCell (m33 g) (.int .u64 (Tp.aL C k.n.v (k.slot-1)).2)))
include Q hQp X aw nw cw C k u3 u5 u6 u7 u8 u9 u10 u11 u12 u13 u14 u15 u16 u17 u18 u19 u20 u21 u22 u23 u24 u25 u26 u27 u28 u29 u30 u31 u32 u33 u34 u35 u36 u37 u38 u39 u40 u41 u42 u43 u44 u45 u46 u47 u48 u49 u50 u51 w1 HN hsl hc hQ
theorem sQ (g:Nat)(W:World)(hR:StR w1 (some g) W):
  aB Tryz.prog .any aBu Q (stSL X aw nw cw C k u3 u5 u6 u7 u8 u9 u10 u11 u12 u13 u14 u15 u16 u17 u18 u19 u20 u21 u22 u23 u24 u25 u26 u27 u28 u29 u30 u31 u32 u33 u34 u35 u36 u37 u38 u39 u40 u41 u42 u43 u44 u45 u46 u47 u48 u49 u50 u51 w1 HN hsl hc) 1 #[true,true,true,true,true,true,true,true,true,true,true,true,true,true,true,true,true,true,false] { tmps:=#[.pointer (some (m00 X)),undef,undef,u3,.pointer (some (m00 g)),u5,u6,u7,u8,u9,u10,u11,u12,u13,u14,u15,u16,u17,u18,u19,u20,u21,u22,u23,u24,u25,u26,u27,u28,u29,u30,u31,u32,u33,u34,u35,u36,u37,u38,u39,u40,u41,u42,u43,u44,u45,u46,u47,u48,u49,u50,u51,.pointer (some (m00 X)),.pointer (some (m00 X)),.pointer (some (m00 X)),.pointer (some (m00 X)),.int .i64 k.n.no,.pointer (some (m00 X)),.pointer (some (m00 X)),.pointer (some (m47 X)),.int .i64 k.slot,.pointer (some (m00 X)),.pointer (some (m00 X)),.pointer (some (m00 X)),.pointer (some (m47 X)),.int .i64 k.slot,.int .i64 (k.slot-1),.agg #[.int .u64 (Tp.aL C k.n.v (k.slot-1)).1,.int .u64 (Tp.aL C k.n.v (k.slot-1)).2],.agg #[.int .i64 k.n.no,.int .i64 k.slot,.int .u64 (Tp.aL C k.n.v (k.slot-1)).1,.int .u64 (Tp.aL C k.n.v (k.slot-1)).2],undef,undef,undef,undef,undef,undef,undef,undef,undef,undef,undef,undef,undef],defers:=[] } W:=by
 refine cK 18 (by kernel_rfl) rfl (fun K hK=>?_)
 have c0:W.cell? (m00 g)=some (.int .i64 0):=cA (hR.aa _ rfl).1 0
 have c1:W.cell? (m15 g)=some (.int .i64 0):=cA (hR.aa _ rfl).1 1
 have c2:W.cell? (m25 g)=some (.int .u64 0):=cA (hR.aa _ rfl).1 2
 have c3:W.cell? (m33 g)=some (.int .u64 0):=cA (hR.aa _ rfl).1 3
 have f0:=cH (hR.aa _ rfl).1 0
 have f1:=cH (hR.aa _ rfl).1 1
 have f2:=cH (hR.aa _ rfl).1 2
 have f3:=cH (hR.aa _ rfl).1 3
 go_simp
 refine hK.out _ _ ?_ ?_
 ·exact⟨.inl (hc _ (((((hR.bel).setCell (p:=(m00 g)) (hR.aa _ rfl).2 _).setCell (p:=(m15 g)) (hR.aa _ rfl).2 _).setCell (p:=(m25 g)) (hR.aa _ rfl).2 _).setCell (p:=(m33 g)) (hR.aa _ rfl).2 _)).1,.inl (hc _ (((((hR.bel).setCell (p:=(m00 g)) (hR.aa _ rfl).2 _).setCell (p:=(m15 g)) (hR.aa _ rfl).2 _).setCell (p:=(m25 g)) (hR.aa _ rfl).2 _).setCell (p:=(m33 g)) (hR.aa _ rfl).2 _)).2,.inl (hc _ (((((hR.bel).setCell (p:=(m00 g)) (hR.aa _ rfl).2 _).setCell (p:=(m15 g)) (hR.aa _ rfl).2 _).setCell (p:=(m25 g)) (hR.aa _ rfl).2 _).setCell (p:=(m33 g)) (hR.aa _ rfl).2 _)).2,trivial⟩
 clear hK K
 try simp only[Act.put,pA,pB,pC]
 refine cO (by kernel_rfl) ?_ _
 exact hQ g W hR
theorem aLv (W:World)(hR:StR w1 none W):
  aB Tryz.prog .any aBu Q (stSL X aw nw cw C k u3 u5 u6 u7 u8 u9 u10 u11 u12 u13 u14 u15 u16 u17 u18 u19 u20 u21 u22 u23 u24 u25 u26 u27 u28 u29 u30 u31 u32 u33 u34 u35 u36 u37 u38 u39 u40 u41 u42 u43 u44 u45 u46 u47 u48 u49 u50 u51 w1 HN hsl hc) 2 #[true,true,true,true,true,true,true,true,true,true,true,true,true,true,true,true,true,false,false] { tmps:=#[.pointer (some (m00 X)),undef,undef,u3,undef,u5,u6,u7,u8,u9,u10,u11,u12,u13,u14,u15,u16,u17,u18,u19,u20,u21,u22,u23,u24,u25,u26,u27,u28,u29,u30,u31,u32,u33,u34,u35,u36,u37,u38,u39,u40,u41,u42,u43,u44,u45,u46,u47,u48,u49,u50,u51,.pointer (some (m00 X)),.pointer (some (m00 X)),.pointer (some (m00 X)),.pointer (some (m00 X)),.int .i64 k.n.no,.pointer (some (m00 X)),.pointer (some (m00 X)),.pointer (some (m47 X)),.int .i64 k.slot,.pointer (some (m00 X)),.pointer (some (m00 X)),.pointer (some (m00 X)),.pointer (some (m47 X)),.int .i64 k.slot,.int .i64 (k.slot-1),.agg #[.int .u64 (Tp.aL C k.n.v (k.slot-1)).1,.int .u64 (Tp.aL C k.n.v (k.slot-1)).2],.agg #[.int .i64 k.n.no,.int .i64 k.slot,.int .u64 (Tp.aL C k.n.v (k.slot-1)).1,.int .u64 (Tp.aL C k.n.v (k.slot-1)).2],undef,undef,undef,undef,undef,undef,undef,undef,undef,undef,undef,undef,undef],defers:=[] } W:=by
 have hmk:=@run_makeMap Tryz.prog
 refine cJ [17] (by kernel_rfl) (by simp) ?_
 refine cD 17 rfl (fun K hK=>?_) ?_
 ·go_simp
  have hR2:=hR.m
  replace hR:=hR2
  clear hR2
  refine hK.out _ _ ?_ ?_
  ·exact⟨.inl (hc _ (hR.bel)).1,.inl (hc _ (hR.bel)).2,.inl (hc _ (hR.bel)).2,trivial⟩
  clear hK K hmk
  try simp only[Act.put,pA,pB,pC]
  exact sQ Q hQp X aw nw cw C k u3 u5 u6 u7 u8 u9 u10 u11 u12 u13 u14 u15 u16 u17 u18 u19 u20 u21 u22 u23 u24 u25 u26 u27 u28 u29 u30 u31 u32 u33 u34 u35 u36 u37 u38 u39 u40 u41 u42 u43 u44 u45 u46 u47 u48 u49 u50 u51 w1 HN hsl hc hQ _ _ hR
 exact cE
theorem aLu (g:Nat)(W:World)(hR:StR w1 (some g) W):
  aB Tryz.prog .any aBu Q (stSL X aw nw cw C k u3 u5 u6 u7 u8 u9 u10 u11 u12 u13 u14 u15 u16 u17 u18 u19 u20 u21 u22 u23 u24 u25 u26 u27 u28 u29 u30 u31 u32 u33 u34 u35 u36 u37 u38 u39 u40 u41 u42 u43 u44 u45 u46 u47 u48 u49 u50 u51 w1 HN hsl hc) 3 #[true,true,true,true,true,true,true,true,true,true,true,true,true,true,true,false,false,true,false] { tmps:=#[.pointer (some (m00 X)),undef,undef,u3,.pointer (some (m00 g)),u5,u6,u7,u8,u9,u10,u11,u12,u13,u14,u15,u16,u17,u18,u19,u20,u21,u22,u23,u24,u25,u26,u27,u28,u29,u30,u31,u32,u33,u34,u35,u36,u37,u38,u39,u40,u41,u42,u43,u44,u45,u46,u47,u48,u49,u50,u51,.pointer (some (m00 X)),.pointer (some (m00 X)),.pointer (some (m00 X)),.pointer (some (m00 X)),.int .i64 k.n.no,.pointer (some (m00 X)),.pointer (some (m00 X)),.pointer (some (m47 X)),.int .i64 k.slot,.pointer (some (m00 X)),.pointer (some (m00 X)),.pointer (some (m00 X)),.pointer (some (m47 X)),.int .i64 k.slot,.int .i64 (k.slot-1),undef,undef,undef,undef,undef,undef,undef,undef,undef,undef,undef,undef,undef,undef,undef],defers:=[] } W:=by
 have hmk:=@run_makeMap Tryz.prog
 refine cJ [15] (by kernel_rfl) (by simp) ?_
 refine cD 15 rfl (fun K hK=>?_) ?_
 ·go_simp
  refine(StR.c1 HN.out hR (k.slot-1)).mono ?_;rintro e W2 ⟨rfl,hR2⟩
  replace hR:=hR2
  clear hR2
  refine hK.out _ _ ?_ ?_
  ·exact⟨.inl (hc _ (hR.bel)).1,.inl (hc _ (hR.bel)).2,.inl (hc _ (hR.bel)).2,trivial⟩
  clear hK K hmk
  try simp only[Act.put,pA,pB,pC]
  refine wX 16 (oi:=⟨some 68,.build 84 #[(0,.tmp 56),(1,.tmp 60),(2,.tmp 67)],84,"node.go:107",#[⟨4,.data⟩,⟨8,.data⟩,⟨15,.data⟩],none⟩) rfl ?_ (hQ:=fun _ _ _=>hQp _ _ _ _ _)
  exact sQ Q hQp X aw nw cw C k u3 u5 u6 u7 u8 u9 u10 u11 u12 u13 u14 u15 u16 u17 u18 u19 u20 u21 u22 u23 u24 u25 u26 u27 u28 u29 u30 u31 u32 u33 u34 u35 u36 u37 u38 u39 u40 u41 u42 u43 u44 u45 u46 u47 u48 u49 u50 u51 w1 HN hsl hc hQ g _ hR
 exact cE
theorem st_ (W:World)(hR:StR w1 none W):
  aB Tryz.prog .any aBu Q (stSL X aw nw cw C k u3 u5 u6 u7 u8 u9 u10 u11 u12 u13 u14 u15 u16 u17 u18 u19 u20 u21 u22 u23 u24 u25 u26 u27 u28 u29 u30 u31 u32 u33 u34 u35 u36 u37 u38 u39 u40 u41 u42 u43 u44 u45 u46 u47 u48 u49 u50 u51 w1 HN hsl hc) 4 #[true,true,true,true,true,true,true,true,true,true,true,true,true,true,true,false,false,false,false] { tmps:=#[.pointer (some (m00 X)),undef,undef,u3,undef,u5,u6,u7,u8,u9,u10,u11,u12,u13,u14,u15,u16,u17,u18,u19,u20,u21,u22,u23,u24,u25,u26,u27,u28,u29,u30,u31,u32,u33,u34,u35,u36,u37,u38,u39,u40,u41,u42,u43,u44,u45,u46,u47,u48,u49,u50,u51,.pointer (some (m00 X)),.pointer (some (m00 X)),.pointer (some (m00 X)),.pointer (some (m00 X)),.int .i64 k.n.no,.pointer (some (m00 X)),.pointer (some (m00 X)),.pointer (some (m47 X)),.int .i64 k.slot,.pointer (some (m00 X)),.pointer (some (m00 X)),.pointer (some (m00 X)),.pointer (some (m47 X)),.int .i64 k.slot,.int .i64 (k.slot-1),undef,undef,undef,undef,undef,undef,undef,undef,undef,undef,undef,undef,undef,undef,undef],defers:=[] } W:=by
 have hmk:=@run_makeMap Tryz.prog
 refine cJ [15,17] (by kernel_rfl) (by simp) ?_
 refine cD 15 rfl (fun K hK=>?_) ?_
 ·go_simp
  refine(StR.c1 HN.out hR (k.slot-1)).mono ?_;rintro e W2 ⟨rfl,hR2⟩
  replace hR:=hR2
  clear hR2
  refine hK.out _ _ ?_ ?_
  ·exact⟨.inl (hc _ (hR.bel)).1,.inl (hc _ (hR.bel)).2,.inl (hc _ (hR.bel)).2,trivial⟩
  clear hK K hmk
  try simp only[Act.put,pA,pB,pC]
  refine wX 16 (oi:=⟨some 68,.build 84 #[(0,.tmp 56),(1,.tmp 60),(2,.tmp 67)],84,"node.go:107",#[⟨4,.data⟩,⟨8,.data⟩,⟨15,.data⟩],none⟩) rfl ?_ (hQ:=fun _ _ _=>hQp _ _ _ _ _)
  exact aLv Q hQp X aw nw cw C k u3 u5 u6 u7 u8 u9 u10 u11 u12 u13 u14 u15 u16 u17 u18 u19 u20 u21 u22 u23 u24 u25 u26 u27 u28 u29 u30 u31 u32 u33 u34 u35 u36 u37 u38 u39 u40 u41 u42 u43 u44 u45 u46 u47 u48 u49 u50 u51 w1 HN hsl hc hQ _ hR
 refine cD 17 rfl (fun K hK=>?_) ?_
 ·go_simp
  have hR2:=hR.m
  replace hR:=hR2
  clear hR2
  refine hK.out _ _ ?_ ?_
  ·exact⟨.inl (hc _ (hR.bel)).1,.inl (hc _ (hR.bel)).2,.inl (hc _ (hR.bel)).2,trivial⟩
  clear hK K hmk
  try simp only[Act.put,pA,pB,pC]
  exact aLu Q hQp X aw nw cw C k u3 u5 u6 u7 u8 u9 u10 u11 u12 u13 u14 u15 u16 u17 u18 u19 u20 u21 u22 u23 u24 u25 u26 u27 u28 u29 u30 u31 u32 u33 u34 u35 u36 u37 u38 u39 u40 u41 u42 u43 u44 u45 u46 u47 u48 u49 u50 u51 w1 HN hsl hc hQ _ _ hR
 exact cE
theorem aBt (hR:StR w1 none w1.drew):(Code.region 7 aBu true).wp Tryz.prog Q { tmps:=#[.pointer (some (m00 X)),undef,undef,u3,undef,u5,u6,u7,u8,u9,u10,u11,u12,u13,u14,u15,u16,u17,u18,u19,u20,u21,u22,u23,u24,u25,u26,u27,u28,u29,u30,u31,u32,u33,u34,u35,u36,u37,u38,u39,u40,u41,u42,u43,u44,u45,u46,u47,u48,u49,u50,u51,undef,undef,undef,undef,undef,undef,undef,undef,undef,undef,undef,undef,undef,undef,undef,undef,undef,undef,undef,undef,undef,undef,undef,undef,undef,undef,undef,undef,undef,undef],defers:=[] } w1:=by
 refine cN (stSL X aw nw cw C k u3 u5 u6 u7 u8 u9 u10 u11 u12 u13 u14 u15 u16 u17 u18 u19 u20 u21 u22 u23 u24 u25 u26 u27 u28 u29 u30 u31 u32 u33 u34 u35 u36 u37 u38 u39 u40 u41 u42 u43 u44 u45 u46 u47 u48 u49 u50 u51 w1 HN hsl hc) (by kernel_rfl) ?_
 generalize w1.drew=W at hR⊢
 have hwr:IntKind.i64.wrap (k.slot-1)=k.slot-1:=by rw[IntKind.wrap_i64];omega
 obtain⟨hsl1,hsl2⟩:=hsl
 show aB _ _ _ _ _ 19 #[false,false,false,false,false,false,false,false,false,false,false,false,false,false,false,false,false,false,false] _ _
 refine wX 0 (oi:=⟨some 52,.move (.tmp 0),114,"node.go:107",#[],none⟩) rfl ?_ (hQ:=fun _ _ _=>hQp _ _ _ _ _)
 refine wX 1 (oi:=⟨some 53,.nilCheck (.tmp 52),0,"node.go:107",#[⟨0,.data⟩],none⟩) rfl ?_ (hQ:=fun _ _ _=>hQp _ _ _ _ _)
 refine wX 2 (oi:=⟨some 54,.fieldAddr 116 (.tmp 53) 0,0,"node.go:107",#[⟨1,.data⟩],none⟩) rfl ?_ (hQ:=fun _ _ _=>hQp _ _ _ _ _)
 refine wX 3 (oi:=⟨some 55,.fieldAddr 44 (.tmp 54) 0,0,"node.go:107",#[⟨2,.data⟩],none⟩) rfl ?_ (hQ:=fun _ _ _=>hQp _ _ _ _ _)
 refine wY 0 4 (oi:=⟨some 56,.load 3 (.tmp 55),3,"node.go:107",#[⟨3,.data⟩],none⟩) rfl rfl ((hc _ hR.bel).1) ?_ (hQ:=fun _ _ _=>hQp _ _ _ _ _)
 refine wX 5 (oi:=⟨some 57,.move (.tmp 0),114,"node.go:107",#[],none⟩) rfl ?_ (hQ:=fun _ _ _=>hQp _ _ _ _ _)
 refine wX 6 (oi:=⟨some 58,.nilCheck (.tmp 57),0,"node.go:107",#[⟨5,.data⟩],none⟩) rfl ?_ (hQ:=fun _ _ _=>hQp _ _ _ _ _)
 refine wX 7 (oi:=⟨some 59,.fieldAddr 116 (.tmp 58) 2,0,"node.go:107",#[⟨6,.data⟩],none⟩) rfl ?_ (hQ:=fun _ _ _=>hQp _ _ _ _ _)
 refine wY 1 8 (oi:=⟨some 60,.load 3 (.tmp 59),3,"node.go:107",#[⟨7,.data⟩],none⟩) rfl rfl ((hc _ hR.bel).2) ?_ (hQ:=fun _ _ _=>hQp _ _ _ _ _)
 refine wX 9 (oi:=⟨some 61,.move (.tmp 0),114,"node.go:107",#[],none⟩) rfl ?_ (hQ:=fun _ _ _=>hQp _ _ _ _ _)
 refine wX 10 (oi:=⟨some 62,.move (.tmp 0),114,"node.go:107",#[],none⟩) rfl ?_ (hQ:=fun _ _ _=>hQp _ _ _ _ _)
 refine wX 11 (oi:=⟨some 63,.nilCheck (.tmp 62),0,"node.go:107",#[⟨10,.data⟩],none⟩) rfl ?_ (hQ:=fun _ _ _=>hQp _ _ _ _ _)
 refine wX 12 (oi:=⟨some 64,.fieldAddr 116 (.tmp 63) 2,0,"node.go:107",#[⟨11,.data⟩],none⟩) rfl ?_ (hQ:=fun _ _ _=>hQp _ _ _ _ _)
 refine wY 2 13 (oi:=⟨some 65,.load 3 (.tmp 64),3,"node.go:107",#[⟨12,.data⟩],none⟩) rfl rfl ((hc _ hR.bel).2) ?_ (hQ:=fun _ _ _=>hQp _ _ _ _ _)
 refine wX 14 (oi:=⟨some 66,.binOp .sub 3 (.tmp 65) (.const (.int .i64 1)) 3,3,"node.go:107",#[⟨13,.data⟩],none⟩) rfl ?_ (hQ:=fun _ _ _=>hQp _ _ _ _ _)
 exact st_ Q hQp X aw nw cw C k u3 u5 u6 u7 u8 u9 u10 u11 u12 u13 u14 u15 u16 u17 u18 u19 u20 u21 u22 u23 u24 u25 u26 u27 u28 u29 u30 u31 u32 u33 u34 u35 u36 u37 u38 u39 u40 u41 u42 u43 u44 u45 u46 u47 u48 u49 u50 u51 w1 HN ⟨hsl1,hsl2⟩ hc hQ _ hR
end
end
end Go.Proofs.YtbbhinehcncmeaaGreat
