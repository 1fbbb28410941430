/- A part of the proof of the laws of the top: TpNodeL, TpNodeM. No condition. -/
import Derived.Test.YtbbhinehcncmeaaGreatG28
namespace Go.Proofs.YtbbhinehcncmeaaGreat
open Go.RowKit
set_option linter.unusedSimpArgs false
set_option linter.unusedVariables false
set_option linter.unusedSectionVars false
set_option maxRecDepth 100000
set_option maxHeartbeats 4000000
structure SpR (X g:Nat) (w1 W:World):Prop where
 bx:W.heap[X]?=w1.heap[X]?
 bg:W.heap[g]?=w1.heap[g]?
 bel:Below w1.heap.size w1 W
theorem SpR.start {X g:Nat}{w1:World}:SpR X g w1 w1.drew:=⟨rfl,rfl,(Below.refl _ _).drew⟩
abbrev spO0 :Oper:=⟨some 109,.move (.tmp 10),114,"node.go:137",#[],none⟩
abbrev spO1 :Oper:=⟨some 110,.nilCheck (.tmp 109),0,"node.go:137",#[⟨0,.data⟩],none⟩
abbrev spO2 :Oper:=⟨some 111,.fieldAddr 116 (.tmp 110) 0,0,"node.go:137",#[⟨1,.data⟩],none⟩
abbrev spO3 :Oper:=⟨some 112,.load 44 (.tmp 111),44,"node.go:137",#[⟨2,.data⟩],none⟩
abbrev spO4 :Oper:=⟨some 113,.move (.tmp 10),114,"node.go:137",#[⟨8,.gcOnly .lateStores⟩],none⟩
abbrev spO5 :Oper:=⟨some 114,.nilCheck (.tmp 113),0,"node.go:137",#[⟨4,.data⟩,⟨8,.gcOnly .lateStores⟩],none⟩
abbrev spO6 :Oper:=⟨some 115,.fieldAddr 116 (.tmp 114) 3,0,"node.go:137",#[⟨5,.data⟩,⟨8,.gcOnly .lateStores⟩],none⟩
abbrev spO7 :Oper:=⟨some 116,.load 30 (.tmp 115),30,"node.go:137",#[⟨6,.data⟩,⟨8,.gcOnly .lateStores⟩],none⟩
abbrev spO8 :Oper:=⟨none,.store 44 (.tmp 8) (.tmp 112),0,"node.go:137",#[⟨3,.data⟩,⟨0,.phase⟩,⟨1,.phase⟩,⟨2,.phase⟩,⟨3,.phase⟩,⟨4,.textOnly .lateStores⟩,⟨5,.textOnly .lateStores⟩,⟨6,.textOnly .lateStores⟩,⟨7,.textOnly .lateStores⟩],none⟩
abbrev spO9 :Oper:=⟨some 9,.assign (.tmp 116),30,"node.go:137",#[⟨7,.data⟩,⟨8,.chain⟩,⟨0,.phase⟩,⟨1,.phase⟩,⟨2,.phase⟩,⟨3,.phase⟩,⟨4,.phase⟩,⟨5,.phase⟩,⟨6,.phase⟩,⟨7,.phase⟩,⟨8,.phase⟩],none⟩
abbrev aLw :Array Oper:=#[spO0,spO1,spO2,spO3,spO4,spO5,spO6,spO7,spO8,spO9]
abbrev spSL (X g:Nat) (r:RN) (ta:Option Addr) (tn tc:Nat) (u0 u1 u2 u3 u4 u5 u6 u7 u9 u11 u12 u13 u14 u15 u16 u17 u18 u19 u20 u21 u22 u23 u24 u25 u26 u27 u28 u29 u30 u31 u32 u33 u34 u35 u79 u80 u81 u82 u83 u84 u85 u86 u87 u88 u89 u90 u91 u92 u93 u94 u95 u96 u97 u98 u99 u100 u101 u102 u103 u104 u105 u106 u107 u108:Value) (w1:World):List (Nat×(World->Prop)):=[(3,fun W=>W.cell? (m00 X)=some (.int .i64 r.no)/\W.cell? (m15 X)=some (.int .i64 r.tick)/\W.cell? (m25 X)=some (.slice r.v.ab r.v.nb r.v.cb)/\W.cell? (m33 X)=some (.slice r.v.av r.v.nv r.v.cv)/\W.cell? (m35 X)=some (.slice r.inn.ab r.inn.nb r.inn.cb)/\W.cell? (m65 X)=some (.slice r.inn.av r.inn.nv r.inn.cv)/\W.cell? (m39 X)=some (.slice r.oa r.on r.oc)/\W.cell? (m36 X)=some (.int .u64 r.p)/\W.cell? (m60 X)=some (.int .u64 r.q)/\W.cell? ⟨X,9,none⟩=some (.int .i64 r.sl)/\W.cell? ⟨X,10,none⟩=some (.int .i64 r.rev)/\W.cell? ⟨X,11,none⟩=some (.bool r.full)),(7,fun W=>W.cell? ⟨X,18,none⟩=some (.slice ta tn tc))]
structure spP (Q:Exit->Act->World->Prop) (X g:Nat) (r:RN) (ta:Option Addr) (tn tc:Nat) (u0 u1 u2 u3 u4 u5 u6 u7 u9 u11 u12 u13 u14 u15 u16 u17 u18 u19 u20 u21 u22 u23 u24 u25 u26 u27 u28 u29 u30 u31 u32 u33 u34 u35 u79 u80 u81 u82 u83 u84 u85 u86 u87 u88 u89 u90 u91 u92 u93 u94 u95 u96 u97 u98 u99 u100 u101 u102 u103 u104 u105 u106 u107 u108:Value) (w1:World):Prop where
 hQp:∀(c:_) (a:Act) (d:Option Tmp) (v:Value) (w:World),Q (.panic c) (a.put d v) w->Q (.panic c) a w
 hXg:X≠g
 hx:∀W:World,W.heap[X]?=w1.heap[X]?->(W.cell? (m00 X)=some (.int .i64 r.no)/\W.cell? (m15 X)=some (.int .i64 r.tick)/\W.cell? (m25 X)=some (.slice r.v.ab r.v.nb r.v.cb)/\W.cell? (m33 X)=some (.slice r.v.av r.v.nv r.v.cv)/\W.cell? (m35 X)=some (.slice r.inn.ab r.inn.nb r.inn.cb)/\W.cell? (m65 X)=some (.slice r.inn.av r.inn.nv r.inn.cv)/\W.cell? (m39 X)=some (.slice r.oa r.on r.oc)/\W.cell? (m36 X)=some (.int .u64 r.p)/\W.cell? (m60 X)=some (.int .u64 r.q)/\W.cell? ⟨X,9,none⟩=some (.int .i64 r.sl)/\W.cell? ⟨X,10,none⟩=some (.int .i64 r.rev)/\W.cell? ⟨X,11,none⟩=some (.bool r.full))/\W.cell? ⟨X,18,none⟩=some (.slice ta tn tc)
 hg:∀W:World,W.heap[g]?=w1.heap[g]?->W.heap[g]?=some (.cells (m20) 44 (0,0))
 hQ:∀W,SpR X g w1 W->Q .normal { tmps:=#[u0,u1,u2,u3,u4,u5,u6,u7,.pointer (some (m00 g)),.slice ta tn tc,.pointer (some (m00 X)),u11,u12,u13,u14,u15,u16,u17,u18,u19,u20,u21,u22,u23,u24,u25,u26,u27,u28,u29,u30,u31,u32,u33,u34,u35,undef,undef,undef,undef,undef,undef,undef,undef,undef,undef,undef,undef,undef,undef,undef,undef,undef,undef,undef,undef,undef,undef,undef,undef,undef,undef,undef,undef,undef,undef,undef,undef,undef,undef,undef,undef,undef,undef,undef,undef,undef,undef,undef,u79,u80,u81,u82,u83,u84,u85,u86,u87,u88,u89,u90,u91,u92,u93,u94,u95,u96,u97,u98,u99,u100,u101,u102,u103,u104,u105,u106,u107,u108,.pointer (some (m00 X)),.pointer (some (m00 X)),.pointer (some (m00 X)),.agg (m03 r.no r.tick r.v r.inn r.oa r.on r.oc r.p r.q r.sl r.rev r.full),.pointer (some (m00 X)),.pointer (some (m00 X)),.pointer (some ⟨X,18,none⟩),.slice ta tn tc],defers:=[] } (m16 W g r.no r.tick r.v r.inn r.oa r.on r.oc r.p r.q r.sl r.rev r.full)
section
variable {Q:Exit->Act->World->Prop}{X g:Nat}{r:RN}{ta:Option Addr}{tn tc:Nat}{u0 u1 u2 u3 u4 u5 u6 u7 u9 u11 u12 u13 u14 u15 u16 u17 u18 u19 u20 u21 u22 u23 u24 u25 u26 u27 u28 u29 u30 u31 u32 u33 u34 u35 u79 u80 u81 u82 u83 u84 u85 u86 u87 u88 u89 u90 u91 u92 u93 u94 u95 u96 u97 u98 u99 u100 u101 u102 u103 u104 u105 u106 u107 u108:Value}{w1:World}
section
variable (PP:spP Q X g r ta tn tc u0 u1 u2 u3 u4 u5 u6 u7 u9 u11 u12 u13 u14 u15 u16 u17 u18 u19 u20 u21 u22 u23 u24 u25 u26 u27 u28 u29 u30 u31 u32 u33 u34 u35 u79 u80 u81 u82 u83 u84 u85 u86 u87 u88 u89 u90 u91 u92 u93 u94 u95 u96 u97 u98 u99 u100 u101 u102 u103 u104 u105 u106 u107 u108 w1)
include PP
theorem sp_ (W:World)(hR:SpR X g w1 W):
  aB Tryz.prog .any aLw Q (spSL X g r ta tn tc u0 u1 u2 u3 u4 u5 u6 u7 u9 u11 u12 u13 u14 u15 u16 u17 u18 u19 u20 u21 u22 u23 u24 u25 u26 u27 u28 u29 u30 u31 u32 u33 u34 u35 u79 u80 u81 u82 u83 u84 u85 u86 u87 u88 u89 u90 u91 u92 u93 u94 u95 u96 u97 u98 u99 u100 u101 u102 u103 u104 u105 u106 u107 u108 w1) 2 #[true,true,true,true,true,true,true,true,false,false] { tmps:=#[u0,u1,u2,u3,u4,u5,u6,u7,.pointer (some (m00 g)),u9,.pointer (some (m00 X)),u11,u12,u13,u14,u15,u16,u17,u18,u19,u20,u21,u22,u23,u24,u25,u26,u27,u28,u29,u30,u31,u32,u33,u34,u35,undef,undef,undef,undef,undef,undef,undef,undef,undef,undef,undef,undef,undef,undef,undef,undef,undef,undef,undef,undef,undef,undef,undef,undef,undef,undef,undef,undef,undef,undef,undef,undef,undef,undef,undef,undef,undef,undef,undef,undef,undef,undef,undef,u79,u80,u81,u82,u83,u84,u85,u86,u87,u88,u89,u90,u91,u92,u93,u94,u95,u96,u97,u98,u99,u100,u101,u102,u103,u104,u105,u106,u107,u108,.pointer (some (m00 X)),.pointer (some (m00 X)),.pointer (some (m00 X)),.agg (m03 r.no r.tick r.v r.inn r.oa r.on r.oc r.p r.q r.sl r.rev r.full),.pointer (some (m00 X)),.pointer (some (m00 X)),.pointer (some ⟨X,18,none⟩),.slice ta tn tc],defers:=[] } W:=by
 obtain⟨hQp,hXg,hx,hg,hQ⟩:=PP
 refine cK 8 (by kernel_rfl) rfl (fun K hK=>?_)
 have hgg:=hg _ hR.bg
 have c0:=cA hgg 0;have f0:=cH hgg 0
 have c1:=cA hgg 1;have f1:=cH hgg 1
 have c2:=cA hgg 2;have f2:=cH hgg 2
 have c3:=cA hgg 3;have f3:=cH hgg 3
 have c4:=cA hgg 4;have f4:=cH hgg 4
 have c5:=cA hgg 5;have f5:=cH hgg 5
 have c6:=cA hgg 6;have f6:=cH hgg 6
 have c7:=cA hgg 7;have f7:=cH hgg 7
 have c8:=cA hgg 8;have f8:=cH hgg 8
 have c9:=cA hgg 9;have f9:=cH hgg 9
 have c10:=cA hgg 10;have f10:=cH hgg 10
 have c11:=cA hgg 11;have f11:=cH hgg 11
 obtain⟨hx3,hx7⟩:=hx _ hR.1
 have T:=cM [.int .i64 r.no,.int .i64 r.tick,.slice r.v.ab r.v.nb r.v.cb,.slice r.v.av r.v.nv r.v.cv,.slice r.inn.ab r.inn.nb r.inn.cb,.slice r.inn.av r.inn.nv r.inn.cv,.slice r.oa r.on r.oc,.int .u64 r.p,.int .u64 r.q,.int .i64 r.sl,.int .i64 r.rev,.bool r.full] 0 _ _ hgg (by show(12:Nat)<=12;omega)
 have hx8:=(hx (m16 W g r.no r.tick r.v r.inn r.oa r.on r.oc r.p r.q r.sl r.rev r.full) ((T.block X hXg).trans hR.bx))
 clear T hgg
 go_simp
 refine hK.out _ _ ?_ ?_
 ·exact(hl2 hx8)
 clear hK K
 try simp only[Act.put,pA,pB,pC]
 refine wI0 9 (oi:=spO9) (v:=?_) rfl ?_ ?_ (hQ:=by exact fun _ _ _ h=>hQp _ _ _ _ _ h)
 rotate_left
 ·intro w' _;go_simp;try with_reducible rfl
 try simp only[Act.put,pA,pB,pC]
 refine cO (by kernel_rfl) ?_ _
 exact hQ W hR
theorem nD (hR:SpR X g w1 w1.drew):(Code.region 16 aLw true).wp Tryz.prog Q { tmps:=#[u0,u1,u2,u3,u4,u5,u6,u7,.pointer (some (m00 g)),u9,.pointer (some (m00 X)),u11,u12,u13,u14,u15,u16,u17,u18,u19,u20,u21,u22,u23,u24,u25,u26,u27,u28,u29,u30,u31,u32,u33,u34,u35,undef,undef,undef,undef,undef,undef,undef,undef,undef,undef,undef,undef,undef,undef,undef,undef,undef,undef,undef,undef,undef,undef,undef,undef,undef,undef,undef,undef,undef,undef,undef,undef,undef,undef,undef,undef,undef,undef,undef,undef,undef,undef,undef,u79,u80,u81,u82,u83,u84,u85,u86,u87,u88,u89,u90,u91,u92,u93,u94,u95,u96,u97,u98,u99,u100,u101,u102,u103,u104,u105,u106,u107,u108,undef,undef,undef,undef,undef,undef,undef,undef],defers:=[] } w1:=by
 obtain⟨hQp,hXg,hx,hg,hQ⟩:=PP
 refine cN (spSL X g r ta tn tc u0 u1 u2 u3 u4 u5 u6 u7 u9 u11 u12 u13 u14 u15 u16 u17 u18 u19 u20 u21 u22 u23 u24 u25 u26 u27 u28 u29 u30 u31 u32 u33 u34 u35 u79 u80 u81 u82 u83 u84 u85 u86 u87 u88 u89 u90 u91 u92 u93 u94 u95 u96 u97 u98 u99 u100 u101 u102 u103 u104 u105 u106 u107 u108 w1) (by kernel_rfl) ?_
 generalize w1.drew=W at hR⊢
 show aB _ _ _ _ _ 10 #[false,false,false,false,false,false,false,false,false,false] _ _
 refine wI0 0 (oi:=spO0) (v:=?_) rfl ?_ ?_ (hQ:=by exact fun _ _ _ h=>hQp _ _ _ _ _ h)
 rotate_left
 ·intro w' _;go_simp;try with_reducible rfl
 try simp only[Act.put,pA,pB,pC]
 refine wI0 1 (oi:=spO1) (v:=?_) rfl ?_ ?_ (hQ:=by exact fun _ _ _ h=>hQp _ _ _ _ _ h)
 rotate_left
 ·intro w' _;go_simp;try with_reducible rfl
 try simp only[Act.put,pA,pB,pC]
 refine wI0 2 (oi:=spO2) (v:=?_) rfl ?_ ?_ (hQ:=by exact fun _ _ _ h=>hQp _ _ _ _ _ h)
 rotate_left
 ·intro w' _;go_simp;try with_reducible rfl
 try simp only[Act.put,pA,pB,pC]
 refine wIL 0 3 (oi:=spO3) (v:=?_) rfl rfl ?_ ?_ ?_ (hQ:=by exact fun _ _ _ h=>hQp _ _ _ _ _ h)
 rotate_left
 ·intro w' hSw;(try dsimp only at hSw);go_simp;try with_reducible rfl
 ·exact(hx _ hR.bx).1
 try simp only[Act.put,pA,pB,pC]
 refine wI0 4 (oi:=spO4) (v:=?_) rfl ?_ ?_ (hQ:=by exact fun _ _ _ h=>hQp _ _ _ _ _ h)
 rotate_left
 ·intro w' _;go_simp;try with_reducible rfl
 try simp only[Act.put,pA,pB,pC]
 refine wI0 5 (oi:=spO5) (v:=?_) rfl ?_ ?_ (hQ:=by exact fun _ _ _ h=>hQp _ _ _ _ _ h)
 rotate_left
 ·intro w' _;go_simp;try with_reducible rfl
 try simp only[Act.put,pA,pB,pC]
 refine wI0 6 (oi:=spO6) (v:=?_) rfl ?_ ?_ (hQ:=by exact fun _ _ _ h=>hQp _ _ _ _ _ h)
 rotate_left
 ·intro w' _;go_simp;try with_reducible rfl
 try simp only[Act.put,pA,pB,pC]
 refine wIL 1 7 (oi:=spO7) (v:=?_) rfl rfl ?_ ?_ ?_ (hQ:=by exact fun _ _ _ h=>hQp _ _ _ _ _ h)
 rotate_left
 ·intro w' hSw;(try dsimp only at hSw);go_simp;try with_reducible rfl
 ·exact(hx _ hR.bx).2
 try simp only[Act.put,pA,pB,pC]
 exact sp_ ⟨hQp,hXg,hx,hg,hQ⟩ _ hR
end
end
theorem aEa {w:World}(o1 o2 o3 o4 o5:Obj):Below w.heap.size w (((((w.alloc o1).alloc o2).alloc o3).alloc o4).alloc o5):=((dO _ _ _).alloc (by simp only[World.size_alloc];omega) _).alloc (by simp only[World.size_alloc];omega) _
theorem aKk {w:World}(o1 o2 o3 o4 o5:Obj):let W:=((((w.alloc o1).alloc o2).alloc o3).alloc o4).alloc o5;W.heap[w.heap.size]?=some o1/\W.heap[w.heap.size+1]?=some o2/\W.heap[w.heap.size+1+1]?=some o3/\W.heap[w.heap.size+1+1+1]?=some o4/\W.heap[w.heap.size+1+1+1+1]?=some o5/\W.heap.size=w.heap.size+5:=by
 intro W
 refine⟨?_,?_,?_,?_,?_,by simp[W]⟩
 ·rw[cF,if_neg (by simp only[World.size_alloc];omega),cF,if_neg (by simp only[World.size_alloc];omega),cF,if_neg (by simp only[World.size_alloc];omega),cF,if_neg (by simp),cF,if_pos rfl]
 ·rw[cF,if_neg (by simp only[World.size_alloc];omega),cF,if_neg (by simp only[World.size_alloc];omega),cF,if_neg (by simp only[World.size_alloc];omega),cF,if_pos (by simp)]
 ·rw[cF,if_neg (by simp only[World.size_alloc];omega),cF,if_neg (by simp only[World.size_alloc];omega),cF,if_pos (by simp)]
 ·rw[cF,if_neg (by simp only[World.size_alloc];omega),cF,if_pos (by simp)]
 ·rw[cF,if_pos (by simp)]
namespace Tp
theorem eM (C:Cf):∀(l:List Off) (k:Nw),(aY C k l).slot=k.slot/\(aY C k l).n.inn=k.n.inn/\(aY C k l).n.c=k.n.c/\(aY C k l).n.tick=k.n.tick/\(aY C k l).n.v=k.n.v/\(aY C k l).n.no=k.n.no/\(aY C k l).told=k.told
 | [],k=>⟨rfl,rfl,rfl,rfl,rfl,rfl,rfl⟩
 |o::r,k=>by
  unfold aY
  split
  ·exact eM C r k
  ·split
   ·exact eM C r (setFull k)
   ·exact eM C r (setO k (k.n.o++[o]))
theorem gL (C:Cf):∀(l:List Off) (k:Nw),k.n.o.length<=8->(aY C k l).n.o.length<=8
 | [],k,h=>h
 |o::r,k,h=>by
  unfold aY
  split
  ·exact gL C r k h
  ·split
   ·exact gL C r (setFull k) h
   ·rename_i h8
    exact gL C r (setO k (k.n.o++[o])) (by show(k.n.o++[o]).length<=8;rw[List.length_append,List.length_singleton];omega)
theorem jJ (C:Cf):∀(l:List Off) (k:Nw) (o:Off),o∈(aY C k l).n.o->o∈k.n.o\/o∈l
 | [],k,o,h=>.inl h
 |x::r,k,o,h=>by
  unfold aY at h
  split at h
  ·exact(jJ C r k o h).imp id (List.mem_cons_of_mem _)
  ·split at h
   ·exact(jJ C r (setFull k) o h).imp id (List.mem_cons_of_mem _)
   ·rcases jJ C r (setO k (k.n.o++[x])) o h with h|h
    ·rcases List.mem_append.1 h with h|h
     ·exact .inl h
     ·exact .inr (List.mem_singleton.1 h▸List.mem_cons_self ..)
    ·exact .inr (List.mem_cons_of_mem _ h)
theorem xU {C:Cf}{k:Nw}{l:List Off}{o:Off}(h:o∈(hear C k l).n.o):o∈k.n.o\/o∈l:=by
 rcases jJ C _ _ o h with h|h
 ·cases h
 ·exact List.mem_append.1 h
attribute [local irreducible] take join in
theorem lM (C:Cf)(k:Nw):(first C k).n.tick=k.n.tick:=by
 unfold first
 split<;>rfl
theorem kL (C:Cf):∀(l:List Off) (k:Nw),(cX C k l).n.tick=k.n.tick
 | [],k=>rfl
 |o::r,k=>(congrArg (fun z:Nw=>z.n.tick) (iA C k o r)).trans (kL C r _)
attribute [local irreducible] take join in
theorem jU (C:Cf)(k:Nw):(second C k).n.tick=k.n.tick:=by
 have h:=kL C k.n.o k
 unfold second
 split<;>exact h
attribute [local irreducible] take join in
theorem lF (C:Cf)(k:Nw):(eG C k).n.tick=k.n.tick:=rfl
end Tp
section
variable [Forb]{w w':World}{X:Nat}{aw:Option Addr}{nw cw:Nat}{C:Tp.Cf}{r:RN}{os:List (RO×Tp.Vw)}{ta:Option Addr}{tn tc:Nat}{ts:List (RO×Tp.Vw)}{k:Tp.Nw}
theorem NW.storeTick (h:NW w X aw nw cw C r os ta tn tc ts k)(x:Int):
  NW (w.setCell (m15 X) (m30 x)) X aw nw cw C { r with tick:=x } os ta tn tc ts { k with n:={ k.n with tick:=x } }/\aC (· =X) w (w.setCell (m15 X) (m30 x)):=by
 have T:=cM [.int .i64 x] 1 _ _ h.box (by show(2:Nat)<=19;omega)
 exact⟨h.turn (r':={ r with tick:=x }) (k':={ k with n:={ k.n with tick:=x } }) T ⟨h.nd.v,h.nd.inn,h.nd.o,h.nd.ko,h.nd.no,rfl,h.nd.c,h.nd.full⟩ ⟨h.noff.v,h.noff.inn,h.noff.o⟩ h.told h.toff h.kt (fun b e=>⟨⟨(h.fr b e).1.v,(h.fr b e).1.inn,(h.fr b e).1.o⟩,(h.fr b e).2⟩),cL T rfl⟩
end
def gJ [Forb] (w:World) (C:Tp.Cf) (nd:Tp.Nd) (inn:Tp.Vw) (ol:List Tp.Off) (e:Ending) (w':World):Prop:=∃r' os' ta tn tc ts,e=.returned (.tuple #[.agg (aT r').toArray,.slice ta tn tc])/\NdR w' r' os' (Tp.step C nd inn ol).1/\dD w' ta tn tc ts/\(Tp.step C nd inn ol).2=ts.map aS/\(∀b,Forb.bad b->gU r' os' b/\dM ta tn ts b)/\Below w.heap.size w w'
theorem gJ.of [Forb]{w w14 W W':World}{X:Nat}{aw:Option Addr}{nw cw:Nat}{C:Tp.Cf}{nd:Tp.Nd}{inn:Tp.Vw}{ol:List Tp.Off}{r:RN}{os:List (RO×Tp.Vw)}{ta:Option Addr}{tn tc:Nat}{ts:List (RO×Tp.Vw)}{kk:Tp.Nw}{x:Int}{B:Nat}{o:Obj}(h:NW w14 X aw nw cw C r os ta tn tc ts { kk with n:={ kk.n with tick:=x } })(hb:Below w14.heap.size w14 W)(T:cT B o W W')(hs:Tp.step C nd inn ol=({ kk.n with tick:=x },kk.told))(hB:Forb.bad B)(hw:Below w.heap.size w w14)(hBw:w.heap.size<=B):gJ w C nd inn ol (.returned (.tuple #[.agg (aT r).toArray,.slice ta tn tc])) W':=
 ⟨r,os,ta,tn,tc,ts,rfl,by rw[hs];exact(h.nd.keep hb).keepS (cL T rfl) (h.fr B hB).1,(h.told.keep hb).keepS (cL T rfl) (h.fr B hB).2,by rw[hs];exact h.kt,h.fr,(bS hw hb).trans (T.below hBw)⟩
theorem aJb [Forb](aw:Option Addr)(nw cw:Nat)(C:Tp.Cf)(rn:RN)(os:List (RO×Tp.Vw))(nd:Tp.Nd)(s:RV)(inn:Tp.Vw)(a:Option Addr)(n c:Nat)(ol:List (RO×Tp.Vw))(w:World)(hC:aP w aw nw C.W C.sd)(hn:NdR w rn os nd)(hs:VwR w s inn)(ho:dD w a n c ol)(hm:Tp.mayC C.W C.ep C.nu C.de=true)(ht1:3<=rn.tick)(ht2:rn.tick<=1000000)(hrev:0<=nd.c.rev/\nd.c.rev<=1000000000)(hj:(Tp.join nd.inn (Tp.only C inn)).b.length<=100000/\(Tp.join nd.inn (Tp.only C inn)).v.length<=100000)(hob:∀o∈nd.o++ol.map aS,o.v.b.length<=10000/\o.v.v.length<=10000)(hb3:Forb.bad (w.heap.size+1+1+1))(hi:∀b,Forb.bad b->b<w.heap.size\/b=w.heap.size+1+1+1)(hfr:∀b,Forb.bad b->gU rn os b):
  Calls Tryz.prog 29 #[.agg #[.slice aw nw cw,.int .u64 C.sd,.int .i64 C.ep,.int .i64 C.nu,.int .i64 C.de],.agg (aT rn).toArray,.agg #[.slice s.ab s.nb s.cb,.slice s.av s.nv s.cv],.slice a n c] w fun e w'=>gJ w C nd inn (ol.map aS) e w':=by
 have htk:rn.tick=nd.tick:=hn.tick
 obtain⟨w5,h5⟩:∃z,(((((w.alloc (.cells #[.slice aw nw cw,.int .u64 C.sd,.int .i64 C.ep,.int .i64 C.nu,.int .i64 C.de] 25)).alloc (.cells #[.int .i64 rn.no,.int .i64 rn.tick,.slice rn.v.ab rn.v.nb rn.v.cb,.slice rn.v.av rn.v.nv rn.v.cv,.slice rn.inn.ab rn.inn.nb rn.inn.cb,.slice rn.inn.av rn.inn.nv rn.inn.cv,.slice rn.oa rn.on rn.oc,.int .u64 rn.p,.int .u64 rn.q,.int .i64 rn.sl,.int .i64 rn.rev,.bool rn.full] 44)).alloc (.cells #[.slice s.ab s.nb s.cb,.slice s.av s.nv s.cv] 38)).alloc (.cells #[.int .i64 0,.int .i64 0,.slice none 0 0,.slice none 0 0,.slice none 0 0,.slice none 0 0,.slice none 0 0,.int .u64 0,.int .u64 0,.int .i64 0,.int .i64 0,.bool false] 44)).alloc (.cells #[.int .i64 rn.no,.int .i64 rn.tick,.slice rn.v.ab rn.v.nb rn.v.cb,.slice rn.v.av rn.v.nv rn.v.cv,.slice rn.inn.ab rn.inn.nb rn.inn.cb,.slice rn.inn.av rn.inn.nv rn.inn.cv,.slice rn.oa rn.on rn.oc,.int .u64 rn.p,.int .u64 rn.q,.int .i64 rn.sl,.int .i64 rn.rev,.bool rn.full,.slice aw nw cw,.int .u64 C.sd,.int .i64 C.ep,.int .i64 C.nu,.int .i64 C.de,.int .i64 (rn.tick/3),.slice none 0 0] 116))=z:=⟨_,rfl⟩
 have hb5:Below w.heap.size w w5:=h5▸aEa _ _ _ _ _
 have hat:w5.heap[w.heap.size]?=some (.cells #[.slice aw nw cw,.int .u64 C.sd,.int .i64 C.ep,.int .i64 C.nu,.int .i64 C.de] 25)/\w5.heap[w.heap.size+1]?=some (.cells #[.int .i64 rn.no,.int .i64 rn.tick,.slice rn.v.ab rn.v.nb rn.v.cb,.slice rn.v.av rn.v.nv rn.v.cv,.slice rn.inn.ab rn.inn.nb rn.inn.cb,.slice rn.inn.av rn.inn.nv rn.inn.cv,.slice rn.oa rn.on rn.oc,.int .u64 rn.p,.int .u64 rn.q,.int .i64 rn.sl,.int .i64 rn.rev,.bool rn.full] 44)/\w5.heap[w.heap.size+1+1]?=some (.cells #[.slice s.ab s.nb s.cb,.slice s.av s.nv s.cv] 38)/\w5.heap[w.heap.size+1+1+1]?=some (.cells #[.int .i64 0,.int .i64 0,.slice none 0 0,.slice none 0 0,.slice none 0 0,.slice none 0 0,.slice none 0 0,.int .u64 0,.int .u64 0,.int .i64 0,.int .i64 0,.bool false] 44)/\w5.heap[w.heap.size+1+1+1+1]?=some (.cells #[.int .i64 rn.no,.int .i64 rn.tick,.slice rn.v.ab rn.v.nb rn.v.cb,.slice rn.v.av rn.v.nv rn.v.cv,.slice rn.inn.ab rn.inn.nb rn.inn.cb,.slice rn.inn.av rn.inn.nv rn.inn.cv,.slice rn.oa rn.on rn.oc,.int .u64 rn.p,.int .u64 rn.q,.int .i64 rn.sl,.int .i64 rn.rev,.bool rn.full,.slice aw nw cw,.int .u64 C.sd,.int .i64 C.ep,.int .i64 C.nu,.int .i64 C.de,.int .i64 (rn.tick/3),.slice none 0 0] 116)/\w5.heap.size=w.heap.size+5:=h5▸aKk _ _ _ _ _
 obtain⟨b0,b1,b2,b3,b4,hsz⟩:=hat
 have H5:Hid (NW w5 (w.heap.size+1+1+1+1) aw nw cw C rn os none 0 0 [] ⟨nd,nd.tick/3,[]⟩):=zH ⟨(by rw[<-htk];exact b4),hC.keep hb5,hC.away (by omega),hn.keep hb5,hn.away (by omega),dD.none _,⟨.inl rfl,fun p hp=>(by cases hp)⟩,rfl,fun b e=>by have:=hi b e;omega,fun b e=>⟨hfr b e,⟨.inl rfl,fun p hp=>(by cases hp)⟩⟩⟩
 have HAT:=zH (And.intro b0 (And.intro b1 (And.intro b2 b3)))
 have HC:=zH hC
 have HS:=zH (hs.keep hb5)
 have HO:=zH ho
 have HO5:=zH (ho.keep hb5)
 have HJ:=zH hj
 obtain⟨kh,hkh⟩:∃z,Tp.hear C (Tp.fS C nd inn) (ol.map aS)=z:=⟨_,rfl⟩
 have HKH:=zH hkh
 have HH:Hid ((kh.slot=nd.tick/3/\kh.n.inn=Tp.join nd.inn (Tp.only C inn)/\kh.n.c=nd.c/\kh.n.tick=nd.tick)/\kh.n.o.length<=8/\∀o∈kh.n.o,o.v.b.length<=10000/\o.v.v.length<=10000):=zH (by
  rw[<-hkh]
  have h:=Tp.eM C (nd.o++ol.map aS) (Tp.setO (Tp.fS C nd inn) [])
  refine⟨⟨h.1,h.2.1,h.2.2.1,h.2.2.2.1⟩,Tp.gL C _ _ (Nat.zero_le _),fun o ho=>hob o ?_⟩
  exact List.mem_append.2 (Tp.xU ho))
 clear hkh
 have HM:=zH hm
 have HB5W:=zH hb5
 have HSZ:=zH hsz
 have HTK:=zH htk
 have HQ:Hid (∀W:World,Below w5.heap.size w5 W->(W.cell? ⟨w.heap.size+1,4,none⟩=some (.slice rn.inn.ab rn.inn.nb rn.inn.cb)/\W.cell? ⟨w.heap.size+1,5,none⟩=some (.slice rn.inn.av rn.inn.nv rn.inn.cv))/\(W.cell? ⟨w.heap.size,0,none⟩=some (.slice aw nw cw)/\W.cell? ⟨w.heap.size,1,none⟩=some (.int .u64 C.sd)/\W.cell? ⟨w.heap.size,2,none⟩=some (.int .i64 C.ep)/\W.cell? ⟨w.heap.size,3,none⟩=some (.int .i64 C.nu)/\W.cell? ⟨w.heap.size,4,none⟩=some (.int .i64 C.de))/\(W.cell? ⟨w.heap.size+1+1,0,none⟩=some (.slice s.ab s.nb s.cb)/\W.cell? ⟨w.heap.size+1+1,1,none⟩=some (.slice s.av s.nv s.cv))):=zH (fun W hb=>by
  have e0:=bK hb HAT.out.1
  have e1:=bK hb HAT.out.2.1
  have e2:=bK hb HAT.out.2.2.1
  exact⟨⟨cA e1 4,cA e1 5⟩,⟨cA e0 0,cA e0 1,cA e0 2,cA e0 3,cA e0 4⟩,⟨cA e2 0,cA e2 1⟩⟩)
 have HQ1:Hid (∀W:World,Below w5.heap.size w5 W->W.cell? ⟨w.heap.size+1,1,none⟩=some (.int .i64 rn.tick)):=zH (fun W hb=>cA (bK hb HAT.out.2.1) 1)
 have HC5:=zH (hC.keep hb5)
 obtain⟨c0,c1,c2,c3,c4⟩:=kc5 b0
 clear hC hn hs ho hm hj hob hb5 b0 b1 b2 b3 b4 hsz htk
 simp only[aT]
 go_enter Tryz.func29,Tryz.ntmps29
 go_wp2_with (go_at_call 23;refine(dB aw nw cw C.W C.sd C.ep C.nu C.de _ HC5.out.len HC5.out.max HC5.out.ints).mono ?_;rintro e w6 ⟨rfl,hb6⟩;rw[HM.out];have H6:=zH (H5.out.keep hb6);have x17:w6.cell? ⟨w.heap.size+1+1+1+1,17,none⟩=some (.int .i64 (rn.tick/3)):=HTK.out▸cA H6.out.box 17;have x1:w6.cell? ⟨w.heap.size+1,1,none⟩=some (.int .i64 rn.tick):=HQ1.out w6 hb6;have B6:=zH hb6)
 clear c0 c1 c2 c3 c4 x17 x1
 refine cN [(2,fun W=>W.cell? ⟨w.heap.size+1,4,none⟩=some (.slice rn.inn.ab rn.inn.nb rn.inn.cb)/\W.cell? ⟨w.heap.size+1,5,none⟩=some (.slice rn.inn.av rn.inn.nv rn.inn.cv)),(3,fun W=>W.cell? ⟨w.heap.size,0,none⟩=some (.slice aw nw cw)/\W.cell? ⟨w.heap.size,1,none⟩=some (.int .u64 C.sd)/\W.cell? ⟨w.heap.size,2,none⟩=some (.int .i64 C.ep)/\W.cell? ⟨w.heap.size,3,none⟩=some (.int .i64 C.nu)/\W.cell? ⟨w.heap.size,4,none⟩=some (.int .i64 C.de)),(4,fun W=>W.cell? ⟨w.heap.size+1+1,0,none⟩=some (.slice s.ab s.nb s.cb)/\W.cell? ⟨w.heap.size+1+1,1,none⟩=some (.slice s.av s.nv s.cv))] (by kernel_rfl) ?_
 show aB _ _ _ _ _ _ _ _ w6.drew
 have hd7:=(Below.refl w6.heap.size w6).drew
 have H7:=zH (H6.out.keep hd7)
 have B7:=zH (bS B6.out hd7)
 clear hd7 hb6
 generalize w6.drew=w7 at H7 B7⊢
 have hq:=HQ.out w7 B7.out
 refine wX 0 rfl ?_
 refine wX 1 rfl ?_
 refine wY 0 2 rfl rfl (hq.1) ?_
 refine wY 1 3 rfl rfl (hq.2.1) ?_
 refine wY 2 4 rfl rfl (hq.2.2) ?_
 refine cK 5 (by kernel_rfl) rfl (fun K hK=>?_)
 go_simp
 refine(qT aw nw cw C s inn w7 (HC5.out.keep B7.out) (HS.out.keep B7.out)).mono ?_
 rintro e w8 ⟨t,rfl,o1,o2,hb8⟩
 have HT8:=zH (VwR.of_own o1 o2 (fun y hy=>HS.out.ok.u y (List.mem_filter.1 hy).1) (Nat.le_trans (List.length_filter_le _ _) (by rw[HS.out.ok.b.len];exact HS.out.ok.bm)) (Nat.le_trans (List.length_filter_le _ _) (by rw[HS.out.ok.v.len];exact HS.out.ok.vm)))
 have B8:=zH (bS B7.out hb8)
 have H8:=zH (H7.out.keep hb8)
 have hq8:=HQ.out w8 (B8.out)
 clear o1 o2 hb8
 refine hK.out _ _ ?_ ?_
 ·exact(hl3 hq8)
 clear hK K;try simp only[Act.put,pA,pB,pC]
 refine cK 6 (by kernel_rfl) rfl (fun K hK=>?_)
 go_simp
 refine(dY rn.inn t nd.inn (Tp.only C inn) w8 H8.out.nd.inn HT8.out (Nat.le_trans HJ.out.1 (by omega)) (Nat.le_trans HJ.out.2 (by omega))).mono ?_
 rintro e w9 ⟨t9,rfl,ht9,htn9,hb9⟩
 have B9:=zH (bS B8.out hb9)
 have H9:=zH (H8.out.keep hb9)
 have hq9:=HQ.out w9 (B9.out)
 obtain⟨h10,K10⟩:=H9.out.storeIn ht9 (H8.out.newOff htn9)
 have x4:w9.cell? ⟨w.heap.size+1+1+1+1,4,none⟩=some (.slice rn.inn.ab rn.inn.nb rn.inn.cb):=cA H9.out.box 4
 have x5:w9.cell? ⟨w.heap.size+1+1+1+1,5,none⟩=some (.slice rn.inn.av rn.inn.nv rn.inn.cv):=cA H9.out.box 5
 have f4:=cH H9.out.box 4;have f5:=cH H9.out.box 5
 have H10:=zH h10
 have K10:=zH ((cQ (S:=fun j=>j=w.heap.size+1+1+1+1) B9.out).trans K10)
 clear h10 hb9 ht9 htn9
 refine hK.out _ _ ?_ ?_
 ·exact(hl3 hq9)
 clear hK K;try simp only[Act.put,pA,pB,pC]
 refine wX 7 rfl ?_
 refine wX 8 rfl ?_
 refine wX 9 rfl ?_
 refine cK 10 (by kernel_rfl) rfl (fun K hK=>?_)
 go_simp
 refine hK.out _ _ ?_ ?_
 ·exact⟨.inr (by kernel_rfl),.inr (by kernel_rfl),.inr (by kernel_rfl),trivial⟩
 clear hK K;try simp only[Act.put,pA,pB,pC]
 refine cO (by kernel_rfl) ?_ _
 generalize((w9.setCell ⟨w.heap.size+1+1+1+1,4,none⟩ (.slice t9.ab t9.nb t9.cb)).setCell ⟨w.heap.size+1+1+1+1,5,none⟩ (.slice t9.av t9.nv t9.cv))=w10 at H10 K10⊢
 clear x4 x5 f4 f5 hq hq8 hq9
 try dsimp only
 go_wp2_with fail
 refine(aGv (w.heap.size+1+1+1+1) aw nw cw C (Tp.fS C nd inn) a n c ol w10 ⟨_,_,_,_,_,_,H10.out⟩ (HO5.out.keepS K10.out (HO.out.away (by omega))) (HO.out.away (by omega)) (by show 0<=nd.tick/\nd.tick<=1000000;rw[<-HTK.out];omega)).mono ?_
 rintro e w11 ⟨rfl,hN11,K11⟩
 rw[HKH.out]at hN11
 have H11:=zH hN11
 have K11:=zH (K10.out.trans K11)
 have hal:Below w11.heap.size w11 (w11.alloc (.cells #[.func (.func 66) #[] #[],.func (.func 67) #[] #[],.func (.func 68) #[] #[]] 121)):=(Below.refl _ _).alloc nr _
 have h13:(w11.alloc (.cells #[.func (.func 66) #[] #[],.func (.func 67) #[] #[],.func (.func 68) #[] #[]] 121)).heap[w11.heap.size]?=some (.cells #[.func (.func 66) #[] #[],.func (.func 67) #[] #[],.func (.func 68) #[] #[]] 121):=heap_alloc_new w11 _
 have b1:=cG hal (Nat.lt_of_lt_of_le (gS HAT.out.2.1) K11.out.size) ((K11.out.block (w.heap.size+1) (gS HAT.out.2.1) (by omega)).trans HAT.out.2.1)
 have b3:=cG hal (Nat.lt_of_lt_of_le (gS HAT.out.2.2.2) K11.out.size) ((K11.out.block (w.heap.size+1+1+1) (gS HAT.out.2.2.2) (by omega)).trans HAT.out.2.2.2)
 clear hN11
 have x1:(w11.alloc (.cells #[.func (.func 66) #[] #[],.func (.func 67) #[] #[],.func (.func 68) #[] #[]] 121)).cell? ⟨w.heap.size+1,1,none⟩=some (.int .i64 rn.tick):=cA b1 1
 obtain⟨y0,y1,y2⟩:=kc3 h13
 have H12:Hid (NWe (w11.alloc (.cells #[.func (.func 66) #[] #[],.func (.func 67) #[] #[],.func (.func 68) #[] #[]] 121)) (w.heap.size+1+1+1+1) aw nw cw C kh):=zH (H11.out.keep hal)
 have BB:Hid (Below w11.heap.size w11 (w11.alloc (.cells #[.func (.func 66) #[] #[],.func (.func 67) #[] #[],.func (.func 68) #[] #[]] 121))/\(w11.alloc (.cells #[.func (.func 66) #[] #[],.func (.func 67) #[] #[],.func (.func 68) #[] #[]] 121)).heap[w.heap.size+1+1+1]?=some (.cells #[.int .i64 0,.int .i64 0,.slice none 0 0,.slice none 0 0,.slice none 0 0,.slice none 0 0,.slice none 0 0,.int .u64 0,.int .u64 0,.int .i64 0,.int .i64 0,.bool false] 44)):=zH ⟨hal,b3⟩
 have hsl:0<=kh.slot/\kh.slot<=1000000:=by rw[HH.out.1.1,<-HTK.out];omega
 have HREV:=zH hrev
 clear b1 b3 h13 hrev
 have hcase:rn.tick%3=0\/rn.tick%3=1\/rn.tick%3=2:=by omega
 rcases hcase with hr|hr|hr
 ·have hm3:nd.tick%3=0:=by rw[<-HTK.out];exact hr
  have HST:Hid (Tp.step C nd inn (ol.map aS)=({ (Tp.first C kh).n with tick:=rn.tick+1 },(Tp.first C kh).told)):=zH (by
   have e:Tp.nC C nd inn (ol.map aS)=Tp.first C kh:=by unfold Tp.nC;rw[HKH.out];exact if_pos hm3
   unfold Tp.step
   rw[e,Tp.lM,HH.out.1.2.2.2,HTK.out])
  have htt:(Tp.first C kh).n.tick=rn.tick:=(Tp.lM C kh).trans (HH.out.1.2.2.2.trans HTK.out.symm)
  clear hm3
  go_wp2_with fail
  generalize(w11.alloc (.cells #[.func (.func 66) #[] #[],.func (.func 67) #[] #[],.func (.func 68) #[] #[]] 121))=w12 at H12 hal BB x1 y0 y1 y2⊢
  refine(aEc (w.heap.size+1+1+1+1) aw nw cw C kh w12 H12.out hsl).mono ?_
  rintro e w13 ⟨rfl,hN13,K13⟩
  generalize Tp.first C kh=kk at HST htt hN13
  obtain⟨r13,os13,ta,tn,tc,ts,h13'⟩:=hN13
  have hrt:r13.tick=rn.tick:=h13'.nd.tick.trans htt
  have z1:w13.cell? ⟨(w.heap.size+1+1+1+1),1,none⟩=some (.int .i64 rn.tick):=hrt▸cA h13'.box 1
  have g1:=cH h13'.box 1
  obtain⟨h14,K14⟩:=h13'.storeTick (rn.tick+1)
  have H14:=zH (And.intro h14 (((K11.out.thenB (BB.out.1.mono K11.out.size)).trans K13).trans K14))
  have G14:=zH ((K14.block (w.heap.size+1+1+1) (Nat.lt_of_lt_of_le (gS BB.out.2) K13.size) (by omega)).trans ((K13.block (w.heap.size+1+1+1) (gS BB.out.2) (by omega)).trans BB.out.2))
  clear h13' h14 K13 K14 hrt x1 y0 y1 y2 hal
  go_wp2_with fail
  generalize w13.setCell ⟨(w.heap.size+1+1+1+1),1,none⟩ (.int .i64 (rn.tick+1))=w14 at H14 G14⊢
  clear z1 g1
  obtain⟨r14,hr14⟩:∃z,({ r13 with tick:=rn.tick+1 }:RN)=z:=⟨_,rfl⟩
  rw[hr14]at H14
  clear hr14
  refine nD (X:=(w.heap.size+1+1+1+1)) (g:=w.heap.size+1+1+1) (r:=r14) (ta:=ta) (tn:=tn) (tc:=tc) ⟨fun _ _ d _ _ h=>by cases d<;>exact h,by omega,fun W e=>have b:=e.trans H14.out.1.box;⟨⟨cA b 0,cA b 1,cA b 2,cA b 3,cA b 4,cA b 5,cA b 6,cA b 7,cA b 8,cA b 9,cA b 10,cA b 11⟩,cA b 18⟩,fun W e=>e.trans G14.out,?_⟩ SpR.start
  intro W hR
  have T:=cM [.int .i64 r14.no,.int .i64 r14.tick,.slice r14.v.ab r14.v.nb r14.v.cb,.slice r14.v.av r14.v.nv r14.v.cv,.slice r14.inn.ab r14.inn.nb r14.inn.cb,.slice r14.inn.av r14.inn.nv r14.inn.cv,.slice r14.oa r14.on r14.oc,.int .u64 r14.p,.int .u64 r14.q,.int .i64 r14.sl,.int .i64 r14.rev,.bool r14.full] 0 _ _ (hR.bg.trans G14.out) (by show(12:Nat)<=12;omega)
  have HF:=zH (gJ.of H14.out.1 hR.bel T HST.out hb3 (HB5W.out.trans (H14.out.2.below HB5W.out.size (fun j e=>by rw[e];omega))) (by omega))
  have nb:=T.new
  change((((((((((((W.setCell ⟨w.heap.size+1+1+1,0,none⟩ (.int .i64 r14.no)).setCell ⟨w.heap.size+1+1+1,1,none⟩ (.int .i64 r14.tick)).setCell ⟨w.heap.size+1+1+1,2,none⟩ (.slice r14.v.ab r14.v.nb r14.v.cb)).setCell ⟨w.heap.size+1+1+1,3,none⟩ (.slice r14.v.av r14.v.nv r14.v.cv)).setCell ⟨w.heap.size+1+1+1,4,none⟩ (.slice r14.inn.ab r14.inn.nb r14.inn.cb)).setCell ⟨w.heap.size+1+1+1,5,none⟩ (.slice r14.inn.av r14.inn.nv r14.inn.cv)).setCell ⟨w.heap.size+1+1+1,6,none⟩ (.slice r14.oa r14.on r14.oc)).setCell ⟨w.heap.size+1+1+1,7,none⟩ (.int .u64 r14.p)).setCell ⟨w.heap.size+1+1+1,8,none⟩ (.int .u64 r14.q)).setCell ⟨w.heap.size+1+1+1,9,none⟩ (.int .i64 r14.sl)).setCell ⟨w.heap.size+1+1+1,10,none⟩ (.int .i64 r14.rev)).setCell ⟨w.heap.size+1+1+1,11,none⟩ (.bool r14.full)).heap[w.heap.size+1+1+1]?=some (.cells #[.int .i64 r14.no,.int .i64 r14.tick,.slice r14.v.ab r14.v.nb r14.v.cb,.slice r14.v.av r14.v.nv r14.v.cv,.slice r14.inn.ab r14.inn.nb r14.inn.cb,.slice r14.inn.av r14.inn.nv r14.inn.cv,.slice r14.oa r14.on r14.oc,.int .u64 r14.p,.int .u64 r14.q,.int .i64 r14.sl,.int .i64 r14.rev,.bool r14.full] 44 (0,0))at nb
  change gJ w C nd inn (ol.map aS) _ ((((((((((((W.setCell ⟨w.heap.size+1+1+1,0,none⟩ (.int .i64 r14.no)).setCell ⟨w.heap.size+1+1+1,1,none⟩ (.int .i64 r14.tick)).setCell ⟨w.heap.size+1+1+1,2,none⟩ (.slice r14.v.ab r14.v.nb r14.v.cb)).setCell ⟨w.heap.size+1+1+1,3,none⟩ (.slice r14.v.av r14.v.nv r14.v.cv)).setCell ⟨w.heap.size+1+1+1,4,none⟩ (.slice r14.inn.ab r14.inn.nb r14.inn.cb)).setCell ⟨w.heap.size+1+1+1,5,none⟩ (.slice r14.inn.av r14.inn.nv r14.inn.cv)).setCell ⟨w.heap.size+1+1+1,6,none⟩ (.slice r14.oa r14.on r14.oc)).setCell ⟨w.heap.size+1+1+1,7,none⟩ (.int .u64 r14.p)).setCell ⟨w.heap.size+1+1+1,8,none⟩ (.int .u64 r14.q)).setCell ⟨w.heap.size+1+1+1,9,none⟩ (.int .i64 r14.sl)).setCell ⟨w.heap.size+1+1+1,10,none⟩ (.int .i64 r14.rev)).setCell ⟨w.heap.size+1+1+1,11,none⟩ (.bool r14.full))at HF
  clear hR T
  generalize((((((((((((W.setCell ⟨w.heap.size+1+1+1,0,none⟩ (.int .i64 r14.no)).setCell ⟨w.heap.size+1+1+1,1,none⟩ (.int .i64 r14.tick)).setCell ⟨w.heap.size+1+1+1,2,none⟩ (.slice r14.v.ab r14.v.nb r14.v.cb)).setCell ⟨w.heap.size+1+1+1,3,none⟩ (.slice r14.v.av r14.v.nv r14.v.cv)).setCell ⟨w.heap.size+1+1+1,4,none⟩ (.slice r14.inn.ab r14.inn.nb r14.inn.cb)).setCell ⟨w.heap.size+1+1+1,5,none⟩ (.slice r14.inn.av r14.inn.nv r14.inn.cv)).setCell ⟨w.heap.size+1+1+1,6,none⟩ (.slice r14.oa r14.on r14.oc)).setCell ⟨w.heap.size+1+1+1,7,none⟩ (.int .u64 r14.p)).setCell ⟨w.heap.size+1+1+1,8,none⟩ (.int .u64 r14.q)).setCell ⟨w.heap.size+1+1+1,9,none⟩ (.int .i64 r14.sl)).setCell ⟨w.heap.size+1+1+1,10,none⟩ (.int .i64 r14.rev)).setCell ⟨w.heap.size+1+1+1,11,none⟩ (.bool r14.full))=W9 at nb HF⊢
  try dsimp only
  go_wp2_with fail
  obtain⟨c0,c1,c2,c3,c4,c5,c6,c7,c8,c9,c10,c11⟩:=kc12 nb
  refine bodyPost_ret (v:=.tuple #[.agg #[.int .i64 r14.no,.int .i64 r14.tick,.slice r14.v.ab r14.v.nb r14.v.cb,.slice r14.v.av r14.v.nv r14.v.cv,.slice r14.inn.ab r14.inn.nb r14.inn.cb,.slice r14.inn.av r14.inn.nv r14.inn.cv,.slice r14.oa r14.on r14.oc,.int .u64 r14.p,.int .u64 r14.q,.int .i64 r14.sl,.int .i64 r14.rev,.bool r14.full],.slice ta tn tc]) ?_ rfl HF
  simp[results,Tryz.results29,go_sem,c0,c1,c2,c3,c4,c5,c6,c7,c8,c9,c10,c11]
 ·have hm3:nd.tick%3=1:=by rw[<-HTK.out];exact hr
  have HST:Hid (Tp.step C nd inn (ol.map aS)=({ (Tp.second C kh).n with tick:=rn.tick+1 },(Tp.second C kh).told)):=zH (by
   have e:Tp.nC C nd inn (ol.map aS)=Tp.second C kh:=by unfold Tp.nC;rw[HKH.out];exact(if_neg (by omega)).trans (if_pos hm3)
   unfold Tp.step
   rw[e,Tp.jU,HH.out.1.2.2.2,HTK.out])
  have htt:(Tp.second C kh).n.tick=rn.tick:=(Tp.jU C kh).trans (HH.out.1.2.2.2.trans HTK.out.symm)
  clear hm3
  go_wp2_with fail
  generalize(w11.alloc (.cells #[.func (.func 66) #[] #[],.func (.func 67) #[] #[],.func (.func 68) #[] #[]] 121))=w12 at H12 hal BB x1 y0 y1 y2⊢
  refine(zG (w.heap.size+1+1+1+1) aw nw cw C kh w12 H12.out hsl HH.out.2.1 (by rw[HH.out.1.2.1];exact HJ.out) HH.out.2.2).mono ?_
  rintro e w13 ⟨rfl,hN13,K13⟩
  generalize Tp.second C kh=kk at HST htt hN13
  obtain⟨r13,os13,ta,tn,tc,ts,h13'⟩:=hN13
  have hrt:r13.tick=rn.tick:=h13'.nd.tick.trans htt
  have z1:w13.cell? ⟨(w.heap.size+1+1+1+1),1,none⟩=some (.int .i64 rn.tick):=hrt▸cA h13'.box 1
  have g1:=cH h13'.box 1
  obtain⟨h14,K14⟩:=h13'.storeTick (rn.tick+1)
  have H14:=zH (And.intro h14 (((K11.out.thenB (BB.out.1.mono K11.out.size)).trans K13).trans K14))
  have G14:=zH ((K14.block (w.heap.size+1+1+1) (Nat.lt_of_lt_of_le (gS BB.out.2) K13.size) (by omega)).trans ((K13.block (w.heap.size+1+1+1) (gS BB.out.2) (by omega)).trans BB.out.2))
  clear h13' h14 K13 K14 hrt x1 y0 y1 y2 hal
  go_wp2_with fail
  generalize w13.setCell ⟨(w.heap.size+1+1+1+1),1,none⟩ (.int .i64 (rn.tick+1))=w14 at H14 G14⊢
  clear z1 g1
  obtain⟨r14,hr14⟩:∃z,({ r13 with tick:=rn.tick+1 }:RN)=z:=⟨_,rfl⟩
  rw[hr14]at H14
  clear hr14
  refine nD (X:=(w.heap.size+1+1+1+1)) (g:=w.heap.size+1+1+1) (r:=r14) (ta:=ta) (tn:=tn) (tc:=tc) ⟨fun _ _ d _ _ h=>by cases d<;>exact h,by omega,fun W e=>have b:=e.trans H14.out.1.box;⟨⟨cA b 0,cA b 1,cA b 2,cA b 3,cA b 4,cA b 5,cA b 6,cA b 7,cA b 8,cA b 9,cA b 10,cA b 11⟩,cA b 18⟩,fun W e=>e.trans G14.out,?_⟩ SpR.start
  intro W hR
  have T:=cM [.int .i64 r14.no,.int .i64 r14.tick,.slice r14.v.ab r14.v.nb r14.v.cb,.slice r14.v.av r14.v.nv r14.v.cv,.slice r14.inn.ab r14.inn.nb r14.inn.cb,.slice r14.inn.av r14.inn.nv r14.inn.cv,.slice r14.oa r14.on r14.oc,.int .u64 r14.p,.int .u64 r14.q,.int .i64 r14.sl,.int .i64 r14.rev,.bool r14.full] 0 _ _ (hR.bg.trans G14.out) (by show(12:Nat)<=12;omega)
  have HF:=zH (gJ.of H14.out.1 hR.bel T HST.out hb3 (HB5W.out.trans (H14.out.2.below HB5W.out.size (fun j e=>by rw[e];omega))) (by omega))
  have nb:=T.new
  change((((((((((((W.setCell ⟨w.heap.size+1+1+1,0,none⟩ (.int .i64 r14.no)).setCell ⟨w.heap.size+1+1+1,1,none⟩ (.int .i64 r14.tick)).setCell ⟨w.heap.size+1+1+1,2,none⟩ (.slice r14.v.ab r14.v.nb r14.v.cb)).setCell ⟨w.heap.size+1+1+1,3,none⟩ (.slice r14.v.av r14.v.nv r14.v.cv)).setCell ⟨w.heap.size+1+1+1,4,none⟩ (.slice r14.inn.ab r14.inn.nb r14.inn.cb)).setCell ⟨w.heap.size+1+1+1,5,none⟩ (.slice r14.inn.av r14.inn.nv r14.inn.cv)).setCell ⟨w.heap.size+1+1+1,6,none⟩ (.slice r14.oa r14.on r14.oc)).setCell ⟨w.heap.size+1+1+1,7,none⟩ (.int .u64 r14.p)).setCell ⟨w.heap.size+1+1+1,8,none⟩ (.int .u64 r14.q)).setCell ⟨w.heap.size+1+1+1,9,none⟩ (.int .i64 r14.sl)).setCell ⟨w.heap.size+1+1+1,10,none⟩ (.int .i64 r14.rev)).setCell ⟨w.heap.size+1+1+1,11,none⟩ (.bool r14.full)).heap[w.heap.size+1+1+1]?=some (.cells #[.int .i64 r14.no,.int .i64 r14.tick,.slice r14.v.ab r14.v.nb r14.v.cb,.slice r14.v.av r14.v.nv r14.v.cv,.slice r14.inn.ab r14.inn.nb r14.inn.cb,.slice r14.inn.av r14.inn.nv r14.inn.cv,.slice r14.oa r14.on r14.oc,.int .u64 r14.p,.int .u64 r14.q,.int .i64 r14.sl,.int .i64 r14.rev,.bool r14.full] 44 (0,0))at nb
  change gJ w C nd inn (ol.map aS) _ ((((((((((((W.setCell ⟨w.heap.size+1+1+1,0,none⟩ (.int .i64 r14.no)).setCell ⟨w.heap.size+1+1+1,1,none⟩ (.int .i64 r14.tick)).setCell ⟨w.heap.size+1+1+1,2,none⟩ (.slice r14.v.ab r14.v.nb r14.v.cb)).setCell ⟨w.heap.size+1+1+1,3,none⟩ (.slice r14.v.av r14.v.nv r14.v.cv)).setCell ⟨w.heap.size+1+1+1,4,none⟩ (.slice r14.inn.ab r14.inn.nb r14.inn.cb)).setCell ⟨w.heap.size+1+1+1,5,none⟩ (.slice r14.inn.av r14.inn.nv r14.inn.cv)).setCell ⟨w.heap.size+1+1+1,6,none⟩ (.slice r14.oa r14.on r14.oc)).setCell ⟨w.heap.size+1+1+1,7,none⟩ (.int .u64 r14.p)).setCell ⟨w.heap.size+1+1+1,8,none⟩ (.int .u64 r14.q)).setCell ⟨w.heap.size+1+1+1,9,none⟩ (.int .i64 r14.sl)).setCell ⟨w.heap.size+1+1+1,10,none⟩ (.int .i64 r14.rev)).setCell ⟨w.heap.size+1+1+1,11,none⟩ (.bool r14.full))at HF
  clear hR T
  generalize((((((((((((W.setCell ⟨w.heap.size+1+1+1,0,none⟩ (.int .i64 r14.no)).setCell ⟨w.heap.size+1+1+1,1,none⟩ (.int .i64 r14.tick)).setCell ⟨w.heap.size+1+1+1,2,none⟩ (.slice r14.v.ab r14.v.nb r14.v.cb)).setCell ⟨w.heap.size+1+1+1,3,none⟩ (.slice r14.v.av r14.v.nv r14.v.cv)).setCell ⟨w.heap.size+1+1+1,4,none⟩ (.slice r14.inn.ab r14.inn.nb r14.inn.cb)).setCell ⟨w.heap.size+1+1+1,5,none⟩ (.slice r14.inn.av r14.inn.nv r14.inn.cv)).setCell ⟨w.heap.size+1+1+1,6,none⟩ (.slice r14.oa r14.on r14.oc)).setCell ⟨w.heap.size+1+1+1,7,none⟩ (.int .u64 r14.p)).setCell ⟨w.heap.size+1+1+1,8,none⟩ (.int .u64 r14.q)).setCell ⟨w.heap.size+1+1+1,9,none⟩ (.int .i64 r14.sl)).setCell ⟨w.heap.size+1+1+1,10,none⟩ (.int .i64 r14.rev)).setCell ⟨w.heap.size+1+1+1,11,none⟩ (.bool r14.full))=W9 at nb HF⊢
  try dsimp only
  go_wp2_with fail
  obtain⟨c0,c1,c2,c3,c4,c5,c6,c7,c8,c9,c10,c11⟩:=kc12 nb
  refine bodyPost_ret (v:=.tuple #[.agg #[.int .i64 r14.no,.int .i64 r14.tick,.slice r14.v.ab r14.v.nb r14.v.cb,.slice r14.v.av r14.v.nv r14.v.cv,.slice r14.inn.ab r14.inn.nb r14.inn.cb,.slice r14.inn.av r14.inn.nv r14.inn.cv,.slice r14.oa r14.on r14.oc,.int .u64 r14.p,.int .u64 r14.q,.int .i64 r14.sl,.int .i64 r14.rev,.bool r14.full],.slice ta tn tc]) ?_ rfl HF
  simp[results,Tryz.results29,go_sem,c0,c1,c2,c3,c4,c5,c6,c7,c8,c9,c10,c11]
 ·have hm3:nd.tick%3=2:=by rw[<-HTK.out];exact hr
  have HST:Hid (Tp.step C nd inn (ol.map aS)=({ (Tp.eG C kh).n with tick:=rn.tick+1 },(Tp.eG C kh).told)):=zH (by
   have e:Tp.nC C nd inn (ol.map aS)=Tp.eG C kh:=by unfold Tp.nC;rw[HKH.out];exact(if_neg (by omega)).trans (if_neg (by omega))
   unfold Tp.step
   rw[e,Tp.lF,HH.out.1.2.2.2,HTK.out])
  have htt:(Tp.eG C kh).n.tick=rn.tick:=(Tp.lF C kh).trans (HH.out.1.2.2.2.trans HTK.out.symm)
  clear hm3
  go_wp2_with fail
  generalize(w11.alloc (.cells #[.func (.func 66) #[] #[],.func (.func 67) #[] #[],.func (.func 68) #[] #[]] 121))=w12 at H12 hal BB x1 y0 y1 y2⊢
  refine(aBm (w.heap.size+1+1+1+1) aw nw cw C kh w12 H12.out HM.out (by rw[HH.out.1.2.2.1];exact HREV.out)).mono ?_
  rintro e w13 ⟨rfl,hN13,K13⟩
  generalize Tp.eG C kh=kk at HST htt hN13
  obtain⟨r13,os13,ta,tn,tc,ts,h13'⟩:=hN13
  have hrt:r13.tick=rn.tick:=h13'.nd.tick.trans htt
  have z1:w13.cell? ⟨(w.heap.size+1+1+1+1),1,none⟩=some (.int .i64 rn.tick):=hrt▸cA h13'.box 1
  have g1:=cH h13'.box 1
  obtain⟨h14,K14⟩:=h13'.storeTick (rn.tick+1)
  have H14:=zH (And.intro h14 (((K11.out.thenB (BB.out.1.mono K11.out.size)).trans K13).trans K14))
  have G14:=zH ((K14.block (w.heap.size+1+1+1) (Nat.lt_of_lt_of_le (gS BB.out.2) K13.size) (by omega)).trans ((K13.block (w.heap.size+1+1+1) (gS BB.out.2) (by omega)).trans BB.out.2))
  clear h13' h14 K13 K14 hrt x1 y0 y1 y2 hal
  go_wp2_with fail
  generalize w13.setCell ⟨(w.heap.size+1+1+1+1),1,none⟩ (.int .i64 (rn.tick+1))=w14 at H14 G14⊢
  clear z1 g1
  obtain⟨r14,hr14⟩:∃z,({ r13 with tick:=rn.tick+1 }:RN)=z:=⟨_,rfl⟩
  rw[hr14]at H14
  clear hr14
  refine nD (X:=(w.heap.size+1+1+1+1)) (g:=w.heap.size+1+1+1) (r:=r14) (ta:=ta) (tn:=tn) (tc:=tc) ⟨fun _ _ d _ _ h=>by cases d<;>exact h,by omega,fun W e=>have b:=e.trans H14.out.1.box;⟨⟨cA b 0,cA b 1,cA b 2,cA b 3,cA b 4,cA b 5,cA b 6,cA b 7,cA b 8,cA b 9,cA b 10,cA b 11⟩,cA b 18⟩,fun W e=>e.trans G14.out,?_⟩ SpR.start
  intro W hR
  have T:=cM [.int .i64 r14.no,.int .i64 r14.tick,.slice r14.v.ab r14.v.nb r14.v.cb,.slice r14.v.av r14.v.nv r14.v.cv,.slice r14.inn.ab r14.inn.nb r14.inn.cb,.slice r14.inn.av r14.inn.nv r14.inn.cv,.slice r14.oa r14.on r14.oc,.int .u64 r14.p,.int .u64 r14.q,.int .i64 r14.sl,.int .i64 r14.rev,.bool r14.full] 0 _ _ (hR.bg.trans G14.out) (by show(12:Nat)<=12;omega)
  have HF:=zH (gJ.of H14.out.1 hR.bel T HST.out hb3 (HB5W.out.trans (H14.out.2.below HB5W.out.size (fun j e=>by rw[e];omega))) (by omega))
  have nb:=T.new
  change((((((((((((W.setCell ⟨w.heap.size+1+1+1,0,none⟩ (.int .i64 r14.no)).setCell ⟨w.heap.size+1+1+1,1,none⟩ (.int .i64 r14.tick)).setCell ⟨w.heap.size+1+1+1,2,none⟩ (.slice r14.v.ab r14.v.nb r14.v.cb)).setCell ⟨w.heap.size+1+1+1,3,none⟩ (.slice r14.v.av r14.v.nv r14.v.cv)).setCell ⟨w.heap.size+1+1+1,4,none⟩ (.slice r14.inn.ab r14.inn.nb r14.inn.cb)).setCell ⟨w.heap.size+1+1+1,5,none⟩ (.slice r14.inn.av r14.inn.nv r14.inn.cv)).setCell ⟨w.heap.size+1+1+1,6,none⟩ (.slice r14.oa r14.on r14.oc)).setCell ⟨w.heap.size+1+1+1,7,none⟩ (.int .u64 r14.p)).setCell ⟨w.heap.size+1+1+1,8,none⟩ (.int .u64 r14.q)).setCell ⟨w.heap.size+1+1+1,9,none⟩ (.int .i64 r14.sl)).setCell ⟨w.heap.size+1+1+1,10,none⟩ (.int .i64 r14.rev)).setCell ⟨w.heap.size+1+1+1,11,none⟩ (.bool r14.full)).heap[w.heap.size+1+1+1]?=some (.cells #[.int .i64 r14.no,.int .i64 r14.tick,.slice r14.v.ab r14.v.nb r14.v.cb,.slice r14.v.av r14.v.nv r14.v.cv,.slice r14.inn.ab r14.inn.nb r14.inn.cb,.slice r14.inn.av r14.inn.nv r14.inn.cv,.slice r14.oa r14.on r14.oc,.int .u64 r14.p,.int .u64 r14.q,.int .i64 r14.sl,.int .i64 r14.rev,.bool r14.full] 44 (0,0))at nb
  change gJ w C nd inn (ol.map aS) _ ((((((((((((W.setCell ⟨w.heap.size+1+1+1,0,none⟩ (.int .i64 r14.no)).setCell ⟨w.heap.size+1+1+1,1,none⟩ (.int .i64 r14.tick)).setCell ⟨w.heap.size+1+1+1,2,none⟩ (.slice r14.v.ab r14.v.nb r14.v.cb)).setCell ⟨w.heap.size+1+1+1,3,none⟩ (.slice r14.v.av r14.v.nv r14.v.cv)).setCell ⟨w.heap.size+1+1+1,4,none⟩ (.slice r14.inn.ab r14.inn.nb r14.inn.cb)).setCell ⟨w.heap.size+1+1+1,5,none⟩ (.slice r14.inn.av r14.inn.nv r14.inn.cv)).setCell ⟨w.heap.size+1+1+1,6,none⟩ (.slice r14.oa r14.on r14.oc)).setCell ⟨w.heap.size+1+1+1,7,none⟩ (.int .u64 r14.p)).setCell ⟨w.heap.size+1+1+1,8,none⟩ (.int .u64 r14.q)).setCell ⟨w.heap.size+1+1+1,9,none⟩ (.int .i64 r14.sl)).setCell ⟨w.heap.size+1+1+1,10,none⟩ (.int .i64 r14.rev)).setCell ⟨w.heap.size+1+1+1,11,none⟩ (.bool r14.full))at HF
  clear hR T
  generalize((((((((((((W.setCell ⟨w.heap.size+1+1+1,0,none⟩ (.int .i64 r14.no)).setCell ⟨w.heap.size+1+1+1,1,none⟩ (.int .i64 r14.tick)).setCell ⟨w.heap.size+1+1+1,2,none⟩ (.slice r14.v.ab r14.v.nb r14.v.cb)).setCell ⟨w.heap.size+1+1+1,3,none⟩ (.slice r14.v.av r14.v.nv r14.v.cv)).setCell ⟨w.heap.size+1+1+1,4,none⟩ (.slice r14.inn.ab r14.inn.nb r14.inn.cb)).setCell ⟨w.heap.size+1+1+1,5,none⟩ (.slice r14.inn.av r14.inn.nv r14.inn.cv)).setCell ⟨w.heap.size+1+1+1,6,none⟩ (.slice r14.oa r14.on r14.oc)).setCell ⟨w.heap.size+1+1+1,7,none⟩ (.int .u64 r14.p)).setCell ⟨w.heap.size+1+1+1,8,none⟩ (.int .u64 r14.q)).setCell ⟨w.heap.size+1+1+1,9,none⟩ (.int .i64 r14.sl)).setCell ⟨w.heap.size+1+1+1,10,none⟩ (.int .i64 r14.rev)).setCell ⟨w.heap.size+1+1+1,11,none⟩ (.bool r14.full))=W9 at nb HF⊢
  try dsimp only
  go_wp2_with fail
  obtain⟨c0,c1,c2,c3,c4,c5,c6,c7,c8,c9,c10,c11⟩:=kc12 nb
  refine bodyPost_ret (v:=.tuple #[.agg #[.int .i64 r14.no,.int .i64 r14.tick,.slice r14.v.ab r14.v.nb r14.v.cb,.slice r14.v.av r14.v.nv r14.v.cv,.slice r14.inn.ab r14.inn.nb r14.inn.cb,.slice r14.inn.av r14.inn.nv r14.inn.cv,.slice r14.oa r14.on r14.oc,.int .u64 r14.p,.int .u64 r14.q,.int .i64 r14.sl,.int .i64 r14.rev,.bool r14.full],.slice ta tn tc]) ?_ rfl HF
  simp[results,Tryz.results29,go_sem,c0,c1,c2,c3,c4,c5,c6,c7,c8,c9,c10,c11]
theorem tC (F:Nat->Prop)(aw:Option Addr)(nw cw:Nat)(C:Tp.Cf)(rn:RN)(os:List (RO×Tp.Vw))(nd:Tp.Nd)(s:RV)(inn:Tp.Vw)(a:Option Addr)(n c:Nat)(ol:List (RO×Tp.Vw))(w:World)(hC:aP w aw nw C.W C.sd)(hn:NdR w rn os nd)(hs:VwR w s inn)(ho:dD w a n c ol)(hm:Tp.mayC C.W C.ep C.nu C.de=true)(ht:3<=nd.tick/\nd.tick<=1000000)(hrev:0<=nd.c.rev/\nd.c.rev<=1000000000)(hj:(Tp.join nd.inn (Tp.only C inn)).b.length<=100000/\(Tp.join nd.inn (Tp.only C inn)).v.length<=100000)(hob:∀o∈nd.o++ol.map aS,o.v.b.length<=10000/\o.v.v.length<=10000)(hi:∀b,F b->b<w.heap.size)(hfr:∀b,F b->gU rn os b):
  Calls Tryz.prog 29 #[.agg (m02 aw nw cw C),.agg (aT rn).toArray,.agg (m01 s),.slice a n c] w fun e w'=>@gJ ⟨F⟩ w C nd inn (ol.map aS) e w':=by
 refine(@aJb ⟨fun b=>F b\/b=w.heap.size+1+1+1⟩ aw nw cw C rn os nd s inn a n c ol w hC hn hs ho hm (by rw[hn.tick];exact ht.1) (by rw[hn.tick];exact ht.2) hrev hj hob (.inr rfl) (fun b e=>e.imp (hi b) id) (fun b e=>e.elim (hfr b) (fun e=>hn.away (by omega)))).mono ?_
 rintro e w' ⟨r',os',ta,tn,tc,ts,h1,h2,h3,h4,h5,h6⟩
 exact⟨r',os',ta,tn,tc,ts,h1,h2,h3,h4,fun b e=>h5 b (.inl e),h6⟩
end Go.Proofs.YtbbhinehcncmeaaGreat
