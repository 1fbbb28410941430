/- A part of the proof of the laws of the top: TpSeenA, TpSeenB. No condition. -/
import Derived.Test.YtbbhinehcncmeaaGreatG33
namespace Go.Proofs.YtbbhinehcncmeaaGreat
open Go.RowKit
set_option linter.unusedSimpArgs false
set_option linter.unusedVariables false
set_option linter.unusedSectionVars false
set_option maxRecDepth 100000
set_option maxHeartbeats 4000000
theorem Tp.aKf {w:World}{g:Nat}{b0 b1 b2 b3 b4:Int}{e:TypeId}(hb:w.heap[g]?=some (.cells (m11 b0 b1 b2 b3 b4) e (0,0)))(hU:Tp.B.U ⟨b0,b1,b2,b3,b4⟩):VwR w ⟨some ⟨g,0,none⟩,1,1,none,0,0⟩ (Tp.lone ⟨b0,b1,b2,b3,b4⟩):=
 ⟨⟨SlV.one (f:=aK) (x:=⟨b0,b1,b2,b3,b4⟩) cY (gS hb) hb (by omega),SlV.nil w,fun y hy=>(by rw[List.mem_singleton.1 hy];exact hU),(by show(1:Nat)<=1000000;omega),Nat.zero_le _⟩,fun e=>(by cases e),fun _=>⟨rfl,rfl⟩⟩
abbrev seO0 :Oper:=⟨some 20,.load 38 (.tmp 5),38,"audit.go:70",#[],none⟩
abbrev seO1 :Oper:=⟨some 21,.fieldAddr 112 (.tmp 7) 3,0,"audit.go:70",#[],none⟩
abbrev seO2 :Oper:=⟨some 22,.load 38 (.tmp 21),38,"audit.go:70",#[⟨1,.data⟩],none⟩
abbrev seO3 :Oper:=⟨some 23,.call ⟨.value (.func 61),#[.tmp 20,.tmp 22],#[38,38]⟩,38,"audit.go:70",#[⟨0,.data⟩,⟨2,.data⟩],none⟩
abbrev seO4 :Oper:=⟨some 24,.fieldAddr 112 (.tmp 7) 2,0,"audit.go:70",#[],none⟩
abbrev seO5 :Oper:=⟨some 25,.load 56 (.tmp 24),56,"audit.go:70",#[⟨4,.data⟩],none⟩
abbrev seO6 :Oper:=⟨some 26,.buildSlice 35 1 #[(0,.tmp 25)],35,"audit.go:70",#[⟨5,.data⟩],none⟩
abbrev seO7 :Oper:=⟨some 27,.build 38 #[(0,.tmp 26)],38,"audit.go:70",#[⟨6,.data⟩],none⟩
abbrev seO8 :Oper:=⟨some 28,.call ⟨.value (.func 61),#[.tmp 23,.tmp 27],#[38,38]⟩,38,"audit.go:70",#[⟨3,.data⟩,⟨7,.data⟩,⟨3,.chain⟩],none⟩
abbrev seO9 :Oper:=⟨none,.store 38 (.tmp 5) (.tmp 28),0,"audit.go:70",#[⟨8,.data⟩,⟨8,.chain⟩,⟨0,.phase⟩,⟨1,.phase⟩,⟨2,.phase⟩,⟨3,.phase⟩,⟨4,.phase⟩,⟨5,.phase⟩,⟨6,.phase⟩,⟨7,.phase⟩,⟨8,.phase⟩],none⟩
abbrev aCd :Array Oper:=#[seO0,seO1,seO2,seO3,seO4,seO5,seO6,seO7,seO8,seO9]
abbrev seSL (M M4 G g7:Nat) (t:RV) (xb:Option Addr) (mb kb:Nat) (xv:Option Addr) (mv kv:Nat) (b0 b1 b2 b3 b4:Int) (x v:Tp.Vw) (u0 u1 u3 u6 u8 u9 u10 u11 u12 u13 u14 u15 u16 u17 u18 u19 u20 u21 u22 u23 u24 u25 u26 u27 u28 u29:Value) (w1:World):List (Nat×(World->Prop)):=[(0,fun W=>W.cell? (m00 G)=some (.slice t.ab t.nb t.cb)/\W.cell? (m15 G)=some (.slice t.av t.nv t.cv)),(2,fun W=>W.cell? (m36 g7)=some (.slice xb mb kb)/\W.cell? (m60 g7)=some (.slice xv mv kv)),(5,fun W=>W.cell? (m25 g7)=some (.int .i64 b0)/\W.cell? (m33 g7)=some (.int .i64 b1)/\W.cell? (m35 g7)=some (.int .u64 b2)/\W.cell? (m65 g7)=some (.int .u64 b3)/\W.cell? (m39 g7)=some (.int .u64 b4))]
structure seP (Q:Exit->Act->World->Prop) (M M4 G g7:Nat) (t:RV) (xb:Option Addr) (mb kb:Nat) (xv:Option Addr) (mv kv:Nat) (b0 b1 b2 b3 b4:Int) (x v:Tp.Vw) (u0 u1 u3 u6 u8 u9 u10 u11 u12 u13 u14 u15 u16 u17 u18 u19 u20 u21 u22 u23 u24 u25 u26 u27 u28 u29:Value) (w1:World):Prop where
 hQp:∀(c:_) (a:Act) (d:Option Tmp) (v:Value) (w:World),Q (.panic c) (a.put d v) w->Q (.panic c) a w
 HX:Hid (VwR w1 t x/\VwR w1 ⟨xb,mb,kb,xv,mv,kv⟩ v/\Tp.B.U ⟨b0,b1,b2,b3,b4⟩/\((Tp.join x v).b.length<=1000000/\(Tp.join x v).v.length<=1000000)/\((Tp.join (Tp.join x v) (Tp.lone ⟨b0,b1,b2,b3,b4⟩)).b.length<=1000000/\(Tp.join (Tp.join x v) (Tp.lone ⟨b0,b1,b2,b3,b4⟩)).v.length<=1000000))
 hG:G<w1.heap.size
 hfree:∀W:World,Below w1.heap.size w1 W->∀i,i<2->W.frozen? (m09 G i)=false
 hc:∀W:World,Below w1.heap.size w1 W->(W.cell? (m00 G)=some (.slice t.ab t.nb t.cb)/\W.cell? (m15 G)=some (.slice t.av t.nv t.cv))/\(W.cell? (m36 g7)=some (.slice xb mb kb)/\W.cell? (m60 g7)=some (.slice xv mv kv))/\(W.cell? (m25 g7)=some (.int .i64 b0)/\W.cell? (m33 g7)=some (.int .i64 b1)/\W.cell? (m35 g7)=some (.int .u64 b2)/\W.cell? (m65 g7)=some (.int .u64 b3)/\W.cell? (m39 g7)=some (.int .u64 b4))
 hQ:∀(g:Nat) (s q:RV) W,Below w1.heap.size w1 W->VwR W q (Tp.join (Tp.join x v) (Tp.lone ⟨b0,b1,b2,b3,b4⟩))->q.New w1.heap.size->Q .normal { tmps:=#[u0,u1,.pointer (some (m00 M)),u3,.pointer (some (m00 M4)),.pointer (some (m00 G)),u6,.pointer (some (m00 g7)),u8,u9,u10,u11,u12,u13,u14,u15,u16,u17,u18,u19,.agg (m01 t),.pointer (some (m36 g7)),.agg (m52 xb mb kb xv mv kv),.agg (m01 s),.pointer (some (m25 g7)),.agg (m11 b0 b1 b2 b3 b4),.slice (some (m00 g)) 1 1,.agg #[.slice (some (m00 g)) 1 1,.slice none 0 0],.agg (m01 q),u29,undef,undef,undef,undef,undef,undef,undef,undef,undef,undef,undef,undef,undef,undef,undef],defers:=[] } ((W.setCell (m00 G) (m41 q)).setCell (m15 G) (m42 q))
section
variable {Q:Exit->Act->World->Prop}{M M4 G g7:Nat}{t:RV}{xb:Option Addr}{mb kb:Nat}{xv:Option Addr}{mv kv:Nat}{b0 b1 b2 b3 b4:Int}{x v:Tp.Vw}{u0 u1 u3 u6 u8 u9 u10 u11 u12 u13 u14 u15 u16 u17 u18 u19 u20 u21 u22 u23 u24 u25 u26 u27 u28 u29:Value}{w1:World}
theorem aCc (PP:seP Q M M4 G g7 t xb mb kb xv mv kv b0 b1 b2 b3 b4 x v u0 u1 u3 u6 u8 u9 u10 u11 u12 u13 u14 u15 u16 u17 u18 u19 u20 u21 u22 u23 u24 u25 u26 u27 u28 u29 w1)(s:RV)(g:Nat)(W:World)(hR:SeD w1 b0 b1 b2 b3 b4 (Tp.join x v) (some g) (some s) W):
  aB Tryz.prog .any aCd Q (seSL M M4 G g7 t xb mb kb xv mv kv b0 b1 b2 b3 b4 x v u0 u1 u3 u6 u8 u9 u10 u11 u12 u13 u14 u15 u16 u17 u18 u19 u20 u21 u22 u23 u24 u25 u26 u27 u28 u29 w1) 2 #[true,true,true,true,true,true,true,true,false,false] { tmps:=#[u0,u1,.pointer (some (m00 M)),u3,.pointer (some (m00 M4)),.pointer (some (m00 G)),u6,.pointer (some (m00 g7)),u8,u9,u10,u11,u12,u13,u14,u15,u16,u17,u18,u19,.agg (m01 t),.pointer (some (m36 g7)),.agg (m52 xb mb kb xv mv kv),.agg (m01 s),.pointer (some (m25 g7)),.agg (m11 b0 b1 b2 b3 b4),.slice (some (m00 g)) 1 1,.agg #[.slice (some (m00 g)) 1 1,.slice none 0 0],u28,u29,undef,undef,undef,undef,undef,undef,undef,undef,undef,undef,undef,undef,undef,undef,undef],defers:=[] } W:=by
 obtain⟨hQp,HX,hG,hfree,hc,hQ⟩:=PP
 refine cK 8 (by kernel_rfl) rfl (fun K hK=>?_)
 go_simp
 have hlo:=Tp.aKf (hR.aa _ rfl).1 HX.out.2.2.1
 refine(dY s ⟨some ⟨g,0,none⟩,1,1,none,0,0⟩ (Tp.join x v) (Tp.lone ⟨b0,b1,b2,b3,b4⟩) W (hR.jj _ rfl).1 hlo HX.out.2.2.2.2.1 HX.out.2.2.2.2.2).mono ?_
 rintro e W2 ⟨q,rfl,hv,hn,hb⟩
 have hb9:=zH (bS hR.bel hb)
 have hv9:=zH hv
 have hn9:=zH (hn.lower hR.bel.size)
 clear hv hn hb hlo
 refine hK.out _ _ ?_ ?_
 ·exact(hl3 (hc _ (hb9.out)))
 clear hK K
 try simp only[Act.put,pA,pB,pC]
 refine cK 9 (by kernel_rfl) rfl (fun K hK=>?_)
 obtain⟨⟨z0,z1⟩,-,-⟩:=hc _ hb9.out
 have f0:=hfree _ hb9.out 0 (by omega)
 have f1:=hfree _ hb9.out 1 (by omega)
 go_simp
 refine hK.out _ _ ?_ ?_
 ·exact⟨.inr (by kernel_rfl),.inr (by kernel_rfl),.inr (by kernel_rfl),trivial⟩
 clear hK K
 try simp only[Act.put,pA,pB,pC]
 refine cO (by kernel_rfl) ?_ _
 exact hQ g s q W2 hb9.out hv9.out hn9.out
theorem aNh (PP:seP Q M M4 G g7 t xb mb kb xv mv kv b0 b1 b2 b3 b4 x v u0 u1 u3 u6 u8 u9 u10 u11 u12 u13 u14 u15 u16 u17 u18 u19 u20 u21 u22 u23 u24 u25 u26 u27 u28 u29 w1)(s:RV)(W:World)(hR:SeD w1 b0 b1 b2 b3 b4 (Tp.join x v) none (some s) W):
  aB Tryz.prog .any aCd Q (seSL M M4 G g7 t xb mb kb xv mv kv b0 b1 b2 b3 b4 x v u0 u1 u3 u6 u8 u9 u10 u11 u12 u13 u14 u15 u16 u17 u18 u19 u20 u21 u22 u23 u24 u25 u26 u27 u28 u29 w1) 4 #[true,true,true,true,true,true,false,false,false,false] { tmps:=#[u0,u1,.pointer (some (m00 M)),u3,.pointer (some (m00 M4)),.pointer (some (m00 G)),u6,.pointer (some (m00 g7)),u8,u9,u10,u11,u12,u13,u14,u15,u16,u17,u18,u19,.agg (m01 t),.pointer (some (m36 g7)),.agg (m52 xb mb kb xv mv kv),.agg (m01 s),.pointer (some (m25 g7)),.agg (m11 b0 b1 b2 b3 b4),u26,u27,u28,u29,undef,undef,undef,undef,undef,undef,undef,undef,undef,undef,undef,undef,undef,undef,undef],defers:=[] } W:=by
 obtain⟨hQp,HX,hG,hfree,hc,hQ⟩:=PP
 refine cJ [6] (by kernel_rfl) (by simp) ?_
 refine cD 6 rfl (fun K hK=>?_) ?_
 ·go_simp
  have hR2:=hR.m
  replace hR:=hR2
  clear hR2
  refine hK.out _ _ ?_ ?_
  ·exact(hl3 (hc _ (hR.bel)))
  clear hK K
  try simp only[Act.put,pA,pB,pC]
  refine wI0 7 (oi:=seO7) (v:=?_) rfl ?_ ?_ (hQ:=by exact fun _ _ _ h=>hQp _ _ _ _ _ h)
  rotate_left
  ·intro w' _;go_simp;try with_reducible rfl
  try simp only[Act.put,pA,pB,pC]
  exact aCc ⟨hQp,HX,hG,hfree,hc,hQ⟩ s _ _ hR
 exact cE
theorem aNg (PP:seP Q M M4 G g7 t xb mb kb xv mv kv b0 b1 b2 b3 b4 x v u0 u1 u3 u6 u8 u9 u10 u11 u12 u13 u14 u15 u16 u17 u18 u19 u20 u21 u22 u23 u24 u25 u26 u27 u28 u29 w1)(g:Nat)(W:World)(hR:SeD w1 b0 b1 b2 b3 b4 (Tp.join x v) (some g) none W):
  aB Tryz.prog .any aCd Q (seSL M M4 G g7 t xb mb kb xv mv kv b0 b1 b2 b3 b4 x v u0 u1 u3 u6 u8 u9 u10 u11 u12 u13 u14 u15 u16 u17 u18 u19 u20 u21 u22 u23 u24 u25 u26 u27 u28 u29 w1) 3 #[true,true,true,false,true,true,true,true,false,false] { tmps:=#[u0,u1,.pointer (some (m00 M)),u3,.pointer (some (m00 M4)),.pointer (some (m00 G)),u6,.pointer (some (m00 g7)),u8,u9,u10,u11,u12,u13,u14,u15,u16,u17,u18,u19,.agg (m01 t),.pointer (some (m36 g7)),.agg (m52 xb mb kb xv mv kv),u23,.pointer (some (m25 g7)),.agg (m11 b0 b1 b2 b3 b4),.slice (some (m00 g)) 1 1,.agg #[.slice (some (m00 g)) 1 1,.slice none 0 0],u28,u29,undef,undef,undef,undef,undef,undef,undef,undef,undef,undef,undef,undef,undef,undef,undef],defers:=[] } W:=by
 obtain⟨hQp,HX,hG,hfree,hc,hQ⟩:=PP
 refine cJ [3] (by kernel_rfl) (by simp) ?_
 refine cD 3 rfl (fun K hK=>?_) ?_
 ·go_simp
  refine(dY t ⟨xb,mb,kb,xv,mv,kv⟩ x v W (HX.out.1.keep hR.bel) (HX.out.2.1.keep hR.bel) HX.out.2.2.2.1.1 HX.out.2.2.2.1.2).mono ?_;rintro e W2 ⟨s,rfl,hs,hn,hb⟩
  have hR2:=hR.call hb hs hn
  replace hR:=hR2
  clear hR2 hb hs hn
  refine hK.out _ _ ?_ ?_
  ·exact(hl3 (hc _ (hR.bel)))
  clear hK K
  try simp only[Act.put,pA,pB,pC]
  exact aCc ⟨hQp,HX,hG,hfree,hc,hQ⟩ s g _ hR
 exact cE
theorem se_ (PP:seP Q M M4 G g7 t xb mb kb xv mv kv b0 b1 b2 b3 b4 x v u0 u1 u3 u6 u8 u9 u10 u11 u12 u13 u14 u15 u16 u17 u18 u19 u20 u21 u22 u23 u24 u25 u26 u27 u28 u29 w1)(W:World)(hR:SeD w1 b0 b1 b2 b3 b4 (Tp.join x v) none none W):
  aB Tryz.prog .any aCd Q (seSL M M4 G g7 t xb mb kb xv mv kv b0 b1 b2 b3 b4 x v u0 u1 u3 u6 u8 u9 u10 u11 u12 u13 u14 u15 u16 u17 u18 u19 u20 u21 u22 u23 u24 u25 u26 u27 u28 u29 w1) 5 #[true,true,true,false,true,true,false,false,false,false] { tmps:=#[u0,u1,.pointer (some (m00 M)),u3,.pointer (some (m00 M4)),.pointer (some (m00 G)),u6,.pointer (some (m00 g7)),u8,u9,u10,u11,u12,u13,u14,u15,u16,u17,u18,u19,.agg (m01 t),.pointer (some (m36 g7)),.agg (m52 xb mb kb xv mv kv),u23,.pointer (some (m25 g7)),.agg (m11 b0 b1 b2 b3 b4),u26,u27,u28,u29,undef,undef,undef,undef,undef,undef,undef,undef,undef,undef,undef,undef,undef,undef,undef],defers:=[] } W:=by
 obtain⟨hQp,HX,hG,hfree,hc,hQ⟩:=PP
 refine cJ [3,6] (by kernel_rfl) (by simp) ?_
 refine cD 3 rfl (fun K hK=>?_) ?_
 ·go_simp
  refine(dY t ⟨xb,mb,kb,xv,mv,kv⟩ x v W (HX.out.1.keep hR.bel) (HX.out.2.1.keep hR.bel) HX.out.2.2.2.1.1 HX.out.2.2.2.1.2).mono ?_;rintro e W2 ⟨s,rfl,hs,hn,hb⟩
  have hR2:=hR.call hb hs hn
  replace hR:=hR2
  clear hR2 hb hs hn
  refine hK.out _ _ ?_ ?_
  ·exact(hl3 (hc _ (hR.bel)))
  clear hK K
  try simp only[Act.put,pA,pB,pC]
  exact aNh ⟨hQp,HX,hG,hfree,hc,hQ⟩ s _ hR
 refine cD 6 rfl (fun K hK=>?_) ?_
 ·go_simp
  have hR2:=hR.m
  replace hR:=hR2
  clear hR2
  refine hK.out _ _ ?_ ?_
  ·exact(hl3 (hc _ (hR.bel)))
  clear hK K
  try simp only[Act.put,pA,pB,pC]
  refine wI0 7 (oi:=seO7) (v:=?_) rfl ?_ ?_ (hQ:=by exact fun _ _ _ h=>hQp _ _ _ _ _ h)
  rotate_left
  ·intro w' _;go_simp;try with_reducible rfl
  try simp only[Act.put,pA,pB,pC]
  exact aNg ⟨hQp,HX,hG,hfree,hc,hQ⟩ _ _ hR
 exact cE
theorem aCb (PP:seP Q M M4 G g7 t xb mb kb xv mv kv b0 b1 b2 b3 b4 x v u0 u1 u3 u6 u8 u9 u10 u11 u12 u13 u14 u15 u16 u17 u18 u19 u20 u21 u22 u23 u24 u25 u26 u27 u28 u29 w1)(hR:SeD w1 b0 b1 b2 b3 b4 (Tp.join x v) none none w1.drew):(Code.region 5 aCd true).wp Tryz.prog Q { tmps:=#[u0,u1,.pointer (some (m00 M)),u3,.pointer (some (m00 M4)),.pointer (some (m00 G)),u6,.pointer (some (m00 g7)),u8,u9,u10,u11,u12,u13,u14,u15,u16,u17,u18,u19,u20,u21,u22,u23,u24,u25,u26,u27,u28,u29,undef,undef,undef,undef,undef,undef,undef,undef,undef,undef,undef,undef,undef,undef,undef],defers:=[] } w1:=by
 obtain⟨hQp,HX,hG,hfree,hc,hQ⟩:=PP
 refine cN (seSL M M4 G g7 t xb mb kb xv mv kv b0 b1 b2 b3 b4 x v u0 u1 u3 u6 u8 u9 u10 u11 u12 u13 u14 u15 u16 u17 u18 u19 u20 u21 u22 u23 u24 u25 u26 u27 u28 u29 w1) (by kernel_rfl) ?_
 generalize w1.drew=W at hR⊢
 show aB _ _ _ _ _ 10 #[false,false,false,false,false,false,false,false,false,false] _ _
 refine wIL 0 0 (oi:=seO0) (v:=?_) rfl rfl ?_ ?_ ?_ (hQ:=by exact fun _ _ _ h=>hQp _ _ _ _ _ h)
 rotate_left
 ·intro w' hSw;(try dsimp only at hSw);go_simp;try with_reducible rfl
 ·exact(hc _ hR.bel).1
 try simp only[Act.put,pA,pB,pC]
 refine wI0 1 (oi:=seO1) (v:=?_) rfl ?_ ?_ (hQ:=by exact fun _ _ _ h=>hQp _ _ _ _ _ h)
 rotate_left
 ·intro w' _;go_simp;try with_reducible rfl
 try simp only[Act.put,pA,pB,pC]
 refine wIL 1 2 (oi:=seO2) (v:=?_) rfl rfl ?_ ?_ ?_ (hQ:=by exact fun _ _ _ h=>hQp _ _ _ _ _ h)
 rotate_left
 ·intro w' hSw;(try dsimp only at hSw);go_simp;try with_reducible rfl
 ·exact(hc _ hR.bel).2.1
 try simp only[Act.put,pA,pB,pC]
 refine wI0 4 (oi:=seO4) (v:=?_) rfl ?_ ?_ (hQ:=by exact fun _ _ _ h=>hQp _ _ _ _ _ h)
 rotate_left
 ·intro w' _;go_simp;try with_reducible rfl
 try simp only[Act.put,pA,pB,pC]
 refine wIL 2 5 (oi:=seO5) (v:=?_) rfl rfl ?_ ?_ ?_ (hQ:=by exact fun _ _ _ h=>hQp _ _ _ _ _ h)
 rotate_left
 ·intro w' hSw;(try dsimp only at hSw);go_simp;try with_reducible rfl
 ·exact(hc _ hR.bel).2.2
 try simp only[Act.put,pA,pB,pC]
 exact se_ ⟨hQp,HX,hG,hfree,hc,hQ⟩ _ hR
end
namespace Tp
theorem xA {α:Type} [DecidableEq α] (b:List α):∀a:List α,a.length<=(dL a b).length:=by
 induction b with
 |nil=>intro a;exact Nat.le_refl _
 |cons y r ih=>
  intro a
  show a.length<=(dL (if has a y then a else a++[y]) r).length
  refine Nat.le_trans ?_ (ih _)
  split
  ·exact Nat.le_refl _
  ·simp
theorem aKg (x y:Vw):x.b.length<=(join x y).b.length/\x.v.length<=(join x y).v.length:=⟨xA _ _,xA _ _⟩
end Tp
theorem aGe (r:RW)(ns:List NE)(os:List (RO×Tp.Vw))(k:Tp.Wd)(a:Option Addr)(n c:Nat)(al:List (RA×Tp.Vw))(w:World)(hW:WdR w r ns os k)(hA:iK w a n c al)(hS:SeIn k (al.map toAc)):
  Calls Tryz.prog 35 #[.agg (aR r k.c).toArray,.slice a n c] w fun e w'=>∃t:RV,e=.returned (.agg #[.slice t.ab t.nb t.cb,.slice t.av t.nv t.cv])/\VwR w' t (Tp.seen k (al.map toAc))/\Below w.heap.size w w':=by
 have HW:=zH hW
 have HA:=zH hA
 have HS:=zH hS
 have hon:os.length=r.on:=hW.o.len
 have hob:=hW.o.bd
 have han:al.length=n:=hA.len
 have hab:=hA.bd
 have hb2:Below w.heap.size w ((w.alloc (.cells #[.slice r.aw r.nw r.cw,.int .u64 k.c.sd,.int .i64 k.c.ep,.int .i64 k.c.nu,.int .i64 k.c.de,.slice r.ba r.bn r.bc,.int .i64 r.tick,.slice r.na r.nn r.nc,.slice r.oa r.on r.oc] 32)).alloc (.cells #[.slice none 0 0,.slice none 0 0] 38)):=cR _ _
 have hbw:((w.alloc (.cells #[.slice r.aw r.nw r.cw,.int .u64 k.c.sd,.int .i64 k.c.ep,.int .i64 k.c.nu,.int .i64 k.c.de,.slice r.ba r.bn r.bc,.int .i64 r.tick,.slice r.na r.nn r.nc,.slice r.oa r.on r.oc] 32)).alloc (.cells #[.slice none 0 0,.slice none 0 0] 38)).heap[w.heap.size]?=some (.cells #[.slice r.aw r.nw r.cw,.int .u64 k.c.sd,.int .i64 k.c.ep,.int .i64 k.c.nu,.int .i64 k.c.de,.slice r.ba r.bn r.bc,.int .i64 r.tick,.slice r.na r.nn r.nc,.slice r.oa r.on r.oc] 32 (0,0)):=by rw[cF,if_neg (by simp),cF,if_pos rfl]
 have hb4:((w.alloc (.cells #[.slice r.aw r.nw r.cw,.int .u64 k.c.sd,.int .i64 k.c.ep,.int .i64 k.c.nu,.int .i64 k.c.de,.slice r.ba r.bn r.bc,.int .i64 r.tick,.slice r.na r.nn r.nc,.slice r.oa r.on r.oc] 32)).alloc (.cells #[.slice none 0 0,.slice none 0 0] 38)).heap[w.heap.size+1]?=some (.cells #[.slice none 0 0,.slice none 0 0] 38 (0,0)):=by rw[cF,if_pos (by simp)]
 clear hW hA hS
 simp only[aR]
 go_enter Tryz.func35,Tryz.ntmps35
 go_wp2_with fail
 generalize((w.alloc (.cells #[.slice r.aw r.nw r.cw,.int .u64 k.c.sd,.int .i64 k.c.ep,.int .i64 k.c.nu,.int .i64 k.c.de,.slice r.ba r.bn r.bc,.int .i64 r.tick,.slice r.na r.nn r.nc,.slice r.oa r.on r.oc] 32)).alloc (.cells #[.slice none 0 0,.slice none 0 0] 38))=w2 at hb2 hbw hb4⊢
 have D2:=zH hb2
 have HBW:=zH hbw
 have HB4:=zH hb4
 clear hb2 hbw hb4
 have x7:w2.cell? ⟨w.heap.size,7,none⟩=some (.slice r.na r.nn r.nc):=cA HBW.out 7
 try dsimp only
 go_wp2_with fail
 refine(wQ r.na r.nn r.nc ns w2 (HW.out.n.keep D2.out) (fun p hp=>HS.out.all1 p.k (by rw[HW.out.kn];exact List.mem_map_of_mem hp)) (fun j=>by rw[List.map_take,<-HW.out.kn];exact HS.out.all2 j)).mono ?_
 rintro e w3 ⟨t0,rfl,ht0,hn0,hb3⟩
 rw[<-HW.out.kn]at ht0
 clear x7
 have hal:Below w3.heap.size w3 (w3.alloc (.cells #[.slice t0.ab t0.nb t0.cb,.slice t0.av t0.nv t0.cv] 38)):=(Below.refl _ _).alloc nr _
 have hb5:(w3.alloc (.cells #[.slice t0.ab t0.nb t0.cb,.slice t0.av t0.nv t0.cv] 38)).heap[w3.heap.size]?=some (.cells #[.slice t0.ab t0.nb t0.cb,.slice t0.av t0.nv t0.cv] 38 (0,0)):=heap_alloc_new w3 _
 have hs5:w3.heap.size<(w3.alloc (.cells #[.slice t0.ab t0.nb t0.cb,.slice t0.av t0.nv t0.cv] 38)).heap.size:=by simp
 have l4:=(gS HB4.out)
 have hN:w.heap.size+1<w3.heap.size:=Nat.lt_of_lt_of_le l4 hb3.size
 have SR0:Hid (SeR (w3.alloc (.cells #[.slice t0.ab t0.nb t0.cb,.slice t0.av t0.nv t0.cv] 38)) w3.heap.size w2.heap.size (Tp.all k.n) t0 (w3.alloc (.cells #[.slice t0.ab t0.nb t0.cb,.slice t0.av t0.nv t0.cv] 38))):=zH ⟨aC.refl _ _,hb5,ht0.keep hal,ht0.away nr,hn0,hs5,Nat.le_trans hb3.size hal.size⟩
 have D25:=zH (bS hb3 hal)
 have hbw5:=bK D25.out HBW.out
 obtain⟨oa,hoa0⟩:∃z,r.oa=z:=⟨_,rfl⟩
 have x8:(w3.alloc (.cells #[.slice t0.ab t0.nb t0.cb,.slice t0.av t0.nv t0.cv] 38)).cell? ⟨w.heap.size,8,none⟩=some (.slice oa r.on r.oc):=hoa0▸cA hbw5 8
 clear ht0 hn0 hb3 hal hb5 hs5 hbw5
 try dsimp only
 go_wp2_with fail
 clear x8
 have HOA:=zH hoa0
 clear hoa0
 generalize hG:w3.heap.size=G at SR0 hN⊢
 generalize(w3.alloc (.cells #[.slice t0.ab t0.nb t0.cb,.slice t0.av t0.nv t0.cv] 38))=w5 at SR0 D25⊢
 have D5:=zH (bS D2.out D25.out)
 have HO5:=zH (HW.out.o.below D5.out nr)
 have HB45:=zH (cG D25.out l4 HB4.out)
 clear hG
 have hlo:k.o=os.map aS:=HW.out.ko
 go_loopw [16] (fun i_ wr=>∃(j:Nat) (t:RV),j<=r.on/\i_=.int .i64 j/\SeR w5 G w2.heap.size (Tp.gF (Tp.all k.n) (k.o.take j)) t wr) (fun i_ _=>r.on-(intOf i_).toNat)
 case atStart=>exact⟨0,t0,Nat.zero_le _,rfl,SR0.out⟩
 case round=>
  clear SR0
  obtain⟨j,t,hj,rfl,hR⟩:=hrel
  by_cases hjn:j<r.on
  case neg=>
   obtain rfl:j=r.on:=by omega
   have hq:Tp.gF (Tp.all k.n) (k.o.take r.on)=Tp.gF (Tp.all k.n) k.o:=by rw[List.take_of_length_le (by rw[hlo,List.length_map];omega)]
   rw[hq]at hR
   have HR:=zH hR
   clear hR hq
   go_wp2_with fail
   go_loopw [32] (fun i_ wr=>∃(q:Nat) (t:RV),q<=n/\i_=.int .i64 q/\SeR w5 G w2.heap.size (Tp.mF (Tp.gF (Tp.all k.n) k.o) ((al.map toAc).take q)) t wr) (fun i_ _=>n-(intOf i_).toNat)
   case atStart=>exact⟨0,t,Nat.zero_le _,rfl,HR.out⟩
   case round=>
    clear HR
    obtain⟨q,t,hqn,rfl,hR⟩:=hrel
    by_cases hqn2:q<n
    case neg=>
     obtain rfl:q=n:=by omega
     have hz:Tp.mF (Tp.gF (Tp.all k.n) k.o) ((al.map toAc).take q)=Tp.seen k (al.map toAc):=by rw[List.take_of_length_le (by rw[List.length_map];omega)];rfl
     rw[hz]at hR
     have hGw:w.heap.size<=G:=by omega
     have hbr:Below w.heap.size w wr:=D5.out.trans (hR.kp.below D5.out.size (fun j e=>by rw[e];exact hGw))
     obtain⟨o0,o1⟩:=kc2 hR.box
     have hb46:=(hR.kp.block (w.heap.size+1) (gS HB45.out) (by omega)).trans HB45.out
     obtain⟨z0,z1⟩:=kc2 hb46
     obtain⟨f0,f1⟩:=kf2 hb46
     have T:=set2 wr (w.heap.size+1) _ _ (.slice t.ab t.nb t.cb) (.slice t.av t.nv t.cv) _ hb46
     have HF:=zH (And.intro (hR.vw.keepS (cL T rfl) (hR.new.off l4)) (hbr.trans (T.below (Nat.le_succ _))))
     have g9:=T.new
     clear hR T hbr hb46 hz
     try dsimp only
     go_wp2_with fail
     generalize(wr.setCell ⟨w.heap.size+1,0,none⟩ (.slice t.ab t.nb t.cb)).setCell ⟨w.heap.size+1,1,none⟩ (.slice t.av t.nv t.cv)=W9 at HF g9⊢
     obtain⟨e0,e1⟩:=kc2 g9
     refine bodyPost_ret (v:=.agg #[.slice t.ab t.nb t.cb,.slice t.av t.nv t.cv]) ?_ rfl ⟨t,rfl,HF.out.1,HF.out.2⟩
     simp[results,Tryz.results35,go_sem,e0,e1]
    have hql:q<al.length:=by omega
    obtain⟨⟨⟨tk,d,f,⟨xa,xb,xc,xd,xe,xf⟩⟩,x⟩,hp⟩:∃p,al[q]=p:=⟨_,rfl⟩
    have hmem:=hp▸List.getElem_mem hql
    have hsn:Tp.mF (Tp.gF (Tp.all k.n) k.o) ((al.map toAc).take (q+1))=Tp.join (Tp.mF (Tp.gF (Tp.all k.n) k.o) ((al.map toAc).take q)) x:=by
     unfold Tp.mF
     rw[List.take_succ_eq_append_getElem (by rw[List.length_map];exact hql),List.foldl_append,List.getElem_map,hp]
     rfl
    have hbd:=HS.out.a1 (q+1)
    rw[hsn]at hbd
    have hGw:w.heap.size<=G:=by omega
    have hbr:Below w.heap.size w wr:=D5.out.trans (hR.kp.below D5.out.size (fun j e=>by rw[e];exact hGw))
    have hvx:=(HA.out.vw _ hmem).below hbr nr
    obtain⟨y,hy⟩:∃z,Tp.mF (Tp.gF (Tp.all k.n) k.o) ((al.map toAc).take q)=z:=⟨_,rfl⟩
    rw[hy]at hR hsn hbd
    obtain⟨b,o,hoa,hlt,hc⟩:∃b o,a=some ⟨b,o,none⟩/\b<wr.heap.size/\∀i,i<5->wr.cell? ⟨b,o+q*5+i,none⟩=(actC ⟨tk,d,f,⟨xa,xb,xc,xd,xe,xf⟩⟩)[i]?:=by
     rcases(HA.out.below hbr nr).sl.rows with h0|⟨b,o,ho,hlt,hc⟩
     ·rw[List.length_map]at h0;omega
     ·refine⟨b,o,ho,hlt,fun i hi=>?_⟩
      have:=hc q (by rw[List.length_map];exact hql) i hi
      rw[List.getElem_map,hp]at this
      exact this
    subst hoa
    have c0:wr.cell? ⟨b,o+q*5,none⟩=some (.int .i64 tk):=hc 0 (by omega)
    have c1:wr.cell? ⟨b,o+q*5+1,none⟩=some (.int .i64 d):=hc 1 (by omega)
    have c2:wr.cell? ⟨b,o+q*5+2,none⟩=some (.bool f):=hc 2 (by omega)
    have c3:wr.cell? ⟨b,o+q*5+3,none⟩=some (.slice xa xb xc):=hc 3 (by omega)
    have c4:wr.cell? ⟨b,o+q*5+4,none⟩=some (.slice xd xe xf):=hc 4 (by omega)
    have j0:(0:Int)<=q:=by omega
    have j1:(q:Int)<n:=by omega
    have hal:Below wr.heap.size wr (wr.alloc (.cells #[.int .i64 tk,.int .i64 d,.bool f,.slice xa xb xc,.slice xd xe xf] 102)):=(Below.refl _ _).alloc nr _
    have HR:=zH hR
    have HR4:=zH (hR.keep hal)
    have HSN:=zH hsn
    have HB:=zH hbd
    have HV:=zH (hvx.keep hal)
    obtain⟨g0,g1⟩:=kc2 HR4.out.box
    clear hc hp hmem hR hsn hbd hvx hy
    try dsimp only
    go_wp2_with fail
    clear c0 c1 c2 c3 c4
    generalize wr.alloc (.cells #[.int .i64 tk,.int .i64 d,.bool f,.slice xa xb xc,.slice xd xe xf] 102)=w4 at hal HR4 HV g0 g1⊢
    refine(dY t ⟨xa,xb,xc,xd,xe,xf⟩ y x w4 HR4.out.vw HV.out (by have:=HB.out.1;omega) (by have:=HB.out.2;omega)).mono ?_
    rintro e w6 ⟨u,rfl,hu,hn,hb6⟩
    have h6:=HR4.out.keep hb6
    obtain⟨y0,y1⟩:=kc2 h6.box
    obtain⟨f0,f1⟩:=kf2 h6.box
    have HF:=zH (HSN.out▸HR.out.store hal hb6 hu hn)
    clear hu hn hb6 h6 g0 g1 hal
    try dsimp only
    go_wp2_with fail
    exact⟨⟨q+1,u,by omega,by go_num,HF.out⟩,by simp[intOf];omega⟩
  have hjl:j<os.length:=by omega
  obtain⟨⟨ro,x⟩,hp⟩:∃p,os[j]=p:=⟨_,rfl⟩
  have hmem:=hp▸List.getElem_mem hjl
  have hsn:Tp.gF (Tp.all k.n) (k.o.take (j+1))=Tp.join (Tp.join (Tp.gF (Tp.all k.n) (k.o.take j)) x) (Tp.lone ro.b):=by
   unfold Tp.gF
   rw[hlo,List.take_succ_eq_append_getElem (by rw[List.length_map];exact hjl),List.foldl_append,List.getElem_map,hp]
   rfl
  have hbd:=HS.out.o1 (j+1)
  rw[hsn]at hbd
  have hbd2:=Tp.aKg (Tp.join (Tp.gF (Tp.all k.n) (k.o.take j)) x) (Tp.lone ro.b)
  have hkp:Below w5.heap.size w5 wr\/True:=.inr trivial
  have hGw:w.heap.size<=G:=by omega
  have hbr:Below w.heap.size w wr:=D5.out.trans (hR.kp.below D5.out.size (fun j e=>by rw[e];exact hGw))
  have hvx:=(HW.out.o.vw _ hmem).below hbr nr
  have hU:=HW.out.o.u _ hmem
  obtain⟨q,hq⟩:∃z,Tp.gF (Tp.all k.n) (k.o.take j)=z:=⟨_,rfl⟩
  rw[hq]at hR hsn hbd hbd2
  obtain⟨o0,o1,⟨b0,b1,b2,b3,b4⟩,⟨xb,mb,kb,xv,mv,kv⟩⟩:=ro
  obtain⟨b,o,hoa,hlt,hc⟩:∃b o,oa=some ⟨b,o,none⟩/\b<wr.heap.size/\∀i,i<9->wr.cell? ⟨b,o+j*9+i,none⟩=(offC ⟨o0,o1,⟨b0,b1,b2,b3,b4⟩,⟨xb,mb,kb,xv,mv,kv⟩⟩)[i]?:=by
   rcases(HW.out.o.below hbr nr).sl.rows with h0|⟨b,o,ho,hlt,hc⟩
   ·rw[List.length_map]at h0;omega
   ·refine⟨b,o,HOA.out.symm.trans ho,hlt,fun i hi=>?_⟩
    have:=hc j (by rw[List.length_map];exact hjl) i hi
    rw[List.getElem_map,hp]at this
    exact this
  subst hoa
  have c0:wr.cell? ⟨b,o+j*9,none⟩=some (.int .i64 o0):=hc 0 (by omega)
  have c1:wr.cell? ⟨b,o+j*9+1,none⟩=some (.int .i64 o1):=hc 1 (by omega)
  have c2:wr.cell? ⟨b,o+j*9+2,none⟩=some (.int .i64 b0):=hc 2 (by omega)
  have c3:wr.cell? ⟨b,o+j*9+3,none⟩=some (.int .i64 b1):=hc 3 (by omega)
  have c4:wr.cell? ⟨b,o+j*9+4,none⟩=some (.int .u64 b2):=hc 4 (by omega)
  have c5:wr.cell? ⟨b,o+j*9+5,none⟩=some (.int .u64 b3):=hc 5 (by omega)
  have c6:wr.cell? ⟨b,o+j*9+6,none⟩=some (.int .u64 b4):=hc 6 (by omega)
  have c7:wr.cell? ⟨b,o+j*9+7,none⟩=some (.slice xb mb kb):=hc 7 (by omega)
  have c8:wr.cell? ⟨b,o+j*9+8,none⟩=some (.slice xv mv kv):=hc 8 (by omega)
  have j0:(0:Int)<=j:=by omega
  have j1:(j:Int)<r.on:=by omega
  have hal:Below wr.heap.size wr (wr.alloc (.cells #[.int .i64 o0,.int .i64 o1,.int .i64 b0,.int .i64 b1,.int .u64 b2,.int .u64 b3,.int .u64 b4,.slice xb mb kb,.slice xv mv kv] 112)):=(Below.refl _ _).alloc nr _
  have hb7:(wr.alloc (.cells #[.int .i64 o0,.int .i64 o1,.int .i64 b0,.int .i64 b1,.int .u64 b2,.int .u64 b3,.int .u64 b4,.slice xb mb kb,.slice xv mv kv] 112)).heap[wr.heap.size]?=some (.cells #[.int .i64 o0,.int .i64 o1,.int .i64 b0,.int .i64 b1,.int .u64 b2,.int .u64 b3,.int .u64 b4,.slice xb mb kb,.slice xv mv kv] 112 (0,0)):=heap_alloc_new wr _
  have HR:=zH hR
  have HSN:=zH hsn
  have HB:=zH (And.intro hbd hbd2)
  have HV:=zH (And.intro (hvx.keep hal) hU)
  clear hc hp hmem hR hsn hbd hbd2 hvx hU hq hkp
  try dsimp only
  go_wp2_with fail
  clear c0 c1 c2 c3 c4 c5 c6 c7 c8
  generalize hg7:wr.heap.size=g7 at hal hb7⊢
  generalize wr.alloc (.cells #[.int .i64 o0,.int .i64 o1,.int .i64 b0,.int .i64 b1,.int .u64 b2,.int .u64 b3,.int .u64 b4,.slice xb mb kb,.slice xv mv kv] 112)=w4 at hal hb7 HV⊢
  have HR4:Hid (SeR w5 G w2.heap.size q t w4):=zH (HR.out.keep (hg7▸hal))
  have HB7:=zH hb7
  have D4:Hid (Below wr.heap.size wr w4):=zH (hg7▸hal)
  clear hg7 hal hb7
  have hG4:G<w4.heap.size:=(gS HR4.out.box)
  refine aCb (M:=w.heap.size) (M4:=w.heap.size+1) (G:=G) (g7:=g7) (t:=t) (xb:=xb) (mb:=mb) (kb:=kb) (xv:=xv) (mv:=mv) (kv:=kv) (b0:=b0) (b1:=b1) (b2:=b2) (b3:=b3) (b4:=b4) (x:=q) (v:=x) ⟨fun _ _ d _ _ h=>by cases d<;>exact h,zH ⟨HR4.out.vw,HV.out.1,HV.out.2,⟨by have:=HB.out.1.1;have:=HB.out.2.1;omega,by have:=HB.out.1.2;have:=HB.out.2.2;omega⟩,⟨by have:=HB.out.1.1;omega,by have:=HB.out.1.2;omega⟩⟩,hG4,fun W hb i hi=>by
   have e:=cG hb hG4 HR4.out.box
   match i,hi with
   |0,_=>exact cH e 0
   |1,_=>exact cH e 1,fun W hb=>by
   have e:=cG hb hG4 HR4.out.box
   have e7:=bK hb HB7.out
   exact⟨⟨cA e 0,cA e 1⟩,⟨cA e7 7,cA e7 8⟩,cA e7 2,cA e7 3,cA e7 4,cA e7 5,cA e7 6⟩,?_⟩ SeD.start
  intro g s u W hb hv hn
  have HF:=zH (HSN.out▸HR.out.store D4.out hb hv hn)
  clear hb hv hn
  try dsimp only
  go_wp2_with fail
  exact⟨⟨j+1,u,by omega,by go_num,HF.out⟩,by simp[intOf];omega⟩
end Go.Proofs.YtbbhinehcncmeaaGreat
