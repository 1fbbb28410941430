/- A part of the proof of the laws of the top: TpPlayG, TpPlayH, TpPlayI, TpPlayK, TpPlayL, TpSeenA, TpSeenB. No condition. -/
import Derived.Test.YtbbhinehcncmeaaGreatG32
namespace Go.Proofs.YtbbhinehcncmeaaGreat
open Go.RowKit
set_option linter.unusedSimpArgs false
set_option linter.unusedVariables false
set_option linter.unusedSectionVars false
set_option maxRecDepth 100000
set_option maxHeartbeats 4000000
theorem dN {α:Type}{f:α->List Value}{k:Nat}{P:Program}{w:World}{o:Oper}{a:Act}{K:Act->World->Prop}{Q:Exit->Act->World->Prop}(s x:Operand)(t:TypeId)(ho:o.op=.call { callee:=.builtin .append,args:=#[s,x],argTypes:=#[t,t] })(base:Nat)(e:TypeId)(i:TypeInfo)(z:Value)(bytes:Nat)(ht:P.underlying t=some (.slice e))(hi:P.info? e=some i)(hz:i.zero=some z)(hsize:i.size=k)(hby:i.bytes=bytes)(hzs:z.cells.size=k)(hsz:0<k)(hk:∀x,(f x).length=k)(hone:∀x,∀u∈f x,u.oneCell'=true)(v:Value)(l m:List α)(ad:Option Addr)(n c:Nat)(hs:a.eval s=v)(hown:OwnL f k e w base v l)(hx:a.eval x=.slice ad n c)(hm:SlV f k w ad n c m)(h0:ad=none->n=0/\c=0)(h63:l.length+n<=maxLen)(hbytes:(l.length+n)*bytes<=140737488355328)(hbase:base<=w.heap.size)(h:∀v' w',OwnL f k e w' base v' (l++m)->w.grownBy w' v.ownBlock->(v'.ownBlock=v.ownBlock\/v'.ownBlock=some w.heap.size)->K (a.put o.dst v') w'):o.wp P a w K Q:=by
 cases ad with
 |none=>
  obtain⟨rfl,rfl⟩:=h0 rfl
  obtain rfl:m=[]:=List.length_eq_zero_iff.1 hm.len
  have hrun:=run_append_owned_none (P:=P) (w:=w) base t o.type e i k ht hi v l.length (l.flatMap f) hown
  unfold Oper.wp
  simp[execOp,ho,resolve,invoke,builtin,hs,hx,hrun,Result.andThen]
  refine h v w ?_ ⟨rfl,rfl,rfl,Nat.le_refl _,fun _ _ _=>rfl⟩ (.inl rfl)
  rw[List.append_nil]
  exact hown
 |some ad=>
  have hnews:∀(j:Nat) u,(m.flatMap f)[j]?=some u->w.cell? (ad.add j)=some u:=by
   intro j u hj
   rcases Nat.eq_zero_or_pos m.length with e|e
   ·obtain rfl:m=[]:=List.length_eq_zero_iff.1 e
    simp at hj
   ·have h2:=hm.rows
    obtain⟨b,o,rfl⟩:=h2.addr e
    exact Rws.flat hk hsz h2.cells j u hj
  have hlen:=bR hk m
  rw[hm.len]at hlen
  obtain⟨v',w',hr,h2,h3,_,h5⟩:=run_append_own_at (P:=P) (w:=w) base t o.type e i z k bytes ht hi hz hsize hby hzs hsz v l.length (l.flatMap f) hown ad n c (m.flatMap f) hlen hnews (eV hone m) h63 hbytes hbase
  unfold Oper.wp execOp
  simp only[ho,resolve,invoke,builtin,Sem.run_bind,Sem.run_pure,Result.andThen_ok,List.map_toArray,List.map_cons,List.map_nil,hs,hx,hr]
  refine h v' w' ?_ h3 h5
  unfold OwnL
  rw[List.length_append,hm.len,List.flatMap_append]
  exact h2
structure DmR (w1:World) (lo:List Int) (al:Option Nat) (cv:Option Value) (W:World):Prop where
 bel:Below w1.heap.size w1 W
 aa:∀g,al=some g->W.heap[g]?=some (.cells (m21) 32 (0,0))/\w1.heap.size<=g
 cl:∀v,cv=some v->OwnL intC 1 3 W w1.heap.size v lo/\∀g,al=some g->v.ownBlock≠some g
section
variable {w1 W W':World}{lo:List Int}{al:Option Nat}{cv:Option Value}
theorem DmR.start :DmR w1 lo none none w1.drew:=⟨(Below.refl _ _).drew,fun _ h=>(by cases h),fun _ h=>(by cases h)⟩
theorem DmR.keep (h:DmR w1 lo al cv W)(hb:Below W.heap.size W W'):DmR w1 lo al cv W':=
 ⟨bS h.bel hb,fun g he=>⟨cG hb (gS (h.aa g he).1) (h.aa g he).1,(h.aa g he).2⟩,fun v e=>⟨(h.cl v e).1.keep hb,(h.cl v e).2⟩⟩
theorem DmR.m (h:DmR w1 lo none cv W):DmR w1 lo (some W.heap.size) cv (W.alloc (.cells (m21) 32)):=by
 have hb:=(Below.refl W.heap.size W).alloc nr (.cells (m21) 32)
 refine⟨bS h.bel hb,fun g he=>?_,fun v e=>⟨(h.cl v e).1.keep hb,fun g he hv=>?_⟩⟩
 ·cases he
  exact⟨heap_alloc_new W _,h.bel.size⟩
 ·cases he
  have:=((h.cl v e).1.lt _ hv).2
  omega
theorem DmR.call {v:Value}(h:DmR w1 lo al none W)(hb:Below W.heap.size W W')(hv:OwnL intC 1 3 W' W.heap.size v lo):DmR w1 lo al (some v) W':=
 ⟨(h.keep hb).bel,(h.keep hb).aa,fun v' e=>by
  cases e
  refine⟨hv.lower h.bel.size,fun g he hg=>?_⟩
  have h1:=(hv.lt g hg).1
  have h2:=(gS (h.aa g he).1)
  omega⟩
end
abbrev dmO0 :Oper:=⟨some 31,.fieldAddr 32 (.tmp 2) 0,0,"play.go:123",#[],none⟩
abbrev dmO1 :Oper:=⟨some 32,.load 25 (.tmp 31),25,"play.go:123",#[⟨0,.data⟩],none⟩
abbrev dmO2 :Oper:=⟨some 33,.fieldAddr 32 (.tmp 2) 1,0,"play.go:123",#[],none⟩
abbrev dmO3 :Oper:=⟨some 34,.load 22 (.tmp 33),22,"play.go:123",#[⟨2,.data⟩],none⟩
abbrev dmO4 :Oper:=⟨some 35,.call ⟨.value (.func 22),#[.tmp 34],#[22]⟩,22,"play.go:123",#[⟨3,.data⟩],none⟩
abbrev dmO5 :Oper:=⟨some 36,.fieldAddr 32 (.tmp 2) 2,0,"play.go:123",#[],none⟩
abbrev dmO6 :Oper:=⟨some 37,.load 3 (.tmp 36),3,"play.go:123",#[⟨5,.data⟩],none⟩
abbrev dmO7 :Oper:=⟨some 38,.binOp .add 3 (.tmp 37) (.const (.int .i64 1)) 3,3,"play.go:123",#[⟨6,.data⟩],none⟩
abbrev dmO8 :Oper:=⟨some 39,.build 32 #[(0,.tmp 32),(1,.tmp 35),(2,.tmp 38)],32,"play.go:123",#[⟨1,.data⟩,⟨4,.data⟩,⟨7,.data⟩],none⟩
abbrev dmO9 :Oper:=⟨some 6,.alloc 32,0,"play.go:123",#[],none⟩
abbrev aNx :Oper:=⟨none,.store 32 (.tmp 6) (.tmp 39),0,"play.go:123",#[⟨9,.data⟩,⟨8,.data⟩,⟨4,.chain⟩,⟨0,.phase⟩,⟨1,.phase⟩,⟨2,.phase⟩,⟨3,.phase⟩,⟨4,.phase⟩,⟨5,.phase⟩,⟨6,.phase⟩,⟨7,.phase⟩,⟨8,.phase⟩,⟨9,.phase⟩],none⟩
abbrev aEj :Array Oper:=#[dmO0,dmO1,dmO2,dmO3,dmO4,dmO5,dmO6,dmO7,dmO8,dmO9,aNx]
abbrev dmSL (M M4 M5:Nat) (r:RW) (k:Tp.Wd) (u0 u1 u3 u12 u13 u14 u15 u16 u17 u18 u19 u20 u21 u22 u23 u24 u25 u26 u27 u28 u29 u30:Value) (w1:World):List (Nat×(World->Prop)):=[(1,fun W=>W.cell? (m00 M)=some (.slice r.aw r.nw r.cw)/\W.cell? (m15 M)=some (.int .u64 k.c.sd)/\W.cell? (m25 M)=some (.int .i64 k.c.ep)/\W.cell? (m33 M)=some (.int .i64 k.c.nu)/\W.cell? (m35 M)=some (.int .i64 k.c.de)),(3,fun W=>W.cell? (m65 M)=some (.slice r.ba r.bn r.bc)),(6,fun W=>W.cell? (m39 M)=some (.int .i64 r.tick))]
structure dmP (Q:Exit->Act->World->Prop) (M M4 M5:Nat) (r:RW) (k:Tp.Wd) (u0 u1 u3 u12 u13 u14 u15 u16 u17 u18 u19 u20 u21 u22 u23 u24 u25 u26 u27 u28 u29 u30:Value) (w1:World):Prop where
 hQp:∀(c:_) (a:Act) (d:Option Tmp) (v:Value) (w:World),Q (.panic c) (a.put d v) w->Q (.panic c) a w
 HO:Hid (SlV intC 1 w1 r.ba r.bn r.bc k.bad/\r.bn<=1000000/\(r.ba=none->r.bn=0/\r.bc=0))
 ht0:3<=r.tick/\r.tick<=1000000000
 hc:∀W:World,Below w1.heap.size w1 W->(W.cell? (m00 M)=some (.slice r.aw r.nw r.cw)/\W.cell? (m15 M)=some (.int .u64 k.c.sd)/\W.cell? (m25 M)=some (.int .i64 k.c.ep)/\W.cell? (m33 M)=some (.int .i64 k.c.nu)/\W.cell? (m35 M)=some (.int .i64 k.c.de))/\(W.cell? (m65 M)=some (.slice r.ba r.bn r.bc))/\(W.cell? (m39 M)=some (.int .i64 r.tick))
 hQ:∀g ba bn bc W,DmR w1 k.bad (some g) (some (.slice ba bn bc)) W->Q .normal { tmps:=#[u0,u1,.pointer (some (m00 M)),u3,.pointer (some (m00 M4)),.pointer (some (m00 M5)),.pointer (some (m00 g)),undef,undef,undef,undef,undef,u12,u13,u14,u15,u16,u17,u18,u19,u20,u21,u22,u23,u24,u25,u26,u27,u28,u29,u30,.pointer (some (m00 M)),.agg (m02 r.aw r.nw r.cw k.c),.pointer (some (m65 M)),.slice r.ba r.bn r.bc,.slice ba bn bc,.pointer (some (m39 M)),.int .i64 r.tick,.int .i64 (r.tick+1),.agg #[.slice r.aw r.nw r.cw,.int .u64 k.c.sd,.int .i64 k.c.ep,.int .i64 k.c.nu,.int .i64 k.c.de,.slice ba bn bc,.int .i64 (r.tick+1),.slice none 0 0,.slice none 0 0],undef,undef,undef,undef,undef,undef,undef,undef,undef,undef,undef,undef,undef,undef,undef,undef,undef,undef,undef,undef,undef,undef,undef,undef,undef,undef,undef,undef,undef,undef,undef,undef,undef,undef,undef,undef,undef,undef],defers:=[] } ((((m06 W g r.aw r.nw r.cw k.c ba bn bc:World).setCell (m39 g) (m30 (r.tick+1))).setCell (m36 g) (m48)).setCell (m60 g) (m48))
section
variable {Q:Exit->Act->World->Prop}{M M4 M5:Nat}{r:RW}{k:Tp.Wd}{u0 u1 u3 u12 u13 u14 u15 u16 u17 u18 u19 u20 u21 u22 u23 u24 u25 u26 u27 u28 u29 u30:Value}{w1:World}
theorem aEi (PP:dmP Q M M4 M5 r k u0 u1 u3 u12 u13 u14 u15 u16 u17 u18 u19 u20 u21 u22 u23 u24 u25 u26 u27 u28 u29 u30 w1)(ba:Option Addr)(bn bc:Nat)(g:Nat)(W:World)(hR:DmR w1 k.bad (some g) (some (.slice ba bn bc)) W):
  aB Tryz.prog .any aEj Q (dmSL M M4 M5 r k u0 u1 u3 u12 u13 u14 u15 u16 u17 u18 u19 u20 u21 u22 u23 u24 u25 u26 u27 u28 u29 u30 w1) 1 #[true,true,true,true,true,true,true,true,true,true,false] { tmps:=#[u0,u1,.pointer (some (m00 M)),u3,.pointer (some (m00 M4)),.pointer (some (m00 M5)),.pointer (some (m00 g)),undef,undef,undef,undef,undef,u12,u13,u14,u15,u16,u17,u18,u19,u20,u21,u22,u23,u24,u25,u26,u27,u28,u29,u30,.pointer (some (m00 M)),.agg (m02 r.aw r.nw r.cw k.c),.pointer (some (m65 M)),.slice r.ba r.bn r.bc,.slice ba bn bc,.pointer (some (m39 M)),.int .i64 r.tick,.int .i64 (r.tick+1),.agg #[.slice r.aw r.nw r.cw,.int .u64 k.c.sd,.int .i64 k.c.ep,.int .i64 k.c.nu,.int .i64 k.c.de,.slice ba bn bc,.int .i64 (r.tick+1),.slice none 0 0,.slice none 0 0],undef,undef,undef,undef,undef,undef,undef,undef,undef,undef,undef,undef,undef,undef,undef,undef,undef,undef,undef,undef,undef,undef,undef,undef,undef,undef,undef,undef,undef,undef,undef,undef,undef,undef,undef,undef,undef,undef],defers:=[] } W:=by
 obtain⟨hQp,HO,ht0,hc,hQ⟩:=PP
 refine cK 10 (by kernel_rfl) rfl (fun K hK=>?_)
 have hgg:=(hR.aa _ rfl).1
 have c0:=cA hgg 0;have f0:=cH hgg 0
 have c1:=cA hgg 1;have f1:=cH hgg 1
 have c2:=cA hgg 2;have f2:=cH hgg 2
 have c3:=cA hgg 3;have f3:=cH hgg 3
 have c4:=cA hgg 4;have f4:=cH hgg 4
 have c5:=cA hgg 5;have f5:=cH hgg 5
 have c6:=cA hgg 6;have f6:=cH hgg 6
 have c7:=cA hgg 7;have f7:=cH hgg 7
 have c8:=cA hgg 8;have f8:=cH hgg 8
 clear hgg
 go_simp
 refine hK.out _ _ ?_ ?_
 ·exact⟨.inr (by kernel_rfl),.inr (by kernel_rfl),.inr (by kernel_rfl),trivial⟩
 clear hK K
 try simp only[Act.put,pA,pB,pC]
 refine cO (by kernel_rfl) ?_ _
 exact hQ g ba bn bc W hR
theorem aNw (PP:dmP Q M M4 M5 r k u0 u1 u3 u12 u13 u14 u15 u16 u17 u18 u19 u20 u21 u22 u23 u24 u25 u26 u27 u28 u29 u30 w1)(ba:Option Addr)(bn bc:Nat)(W:World)(hR:DmR w1 k.bad none (some (.slice ba bn bc)) W):
  aB Tryz.prog .any aEj Q (dmSL M M4 M5 r k u0 u1 u3 u12 u13 u14 u15 u16 u17 u18 u19 u20 u21 u22 u23 u24 u25 u26 u27 u28 u29 u30 w1) 2 #[true,true,true,true,true,true,true,true,true,false,false] { tmps:=#[u0,u1,.pointer (some (m00 M)),u3,.pointer (some (m00 M4)),.pointer (some (m00 M5)),undef,undef,undef,undef,undef,undef,u12,u13,u14,u15,u16,u17,u18,u19,u20,u21,u22,u23,u24,u25,u26,u27,u28,u29,u30,.pointer (some (m00 M)),.agg (m02 r.aw r.nw r.cw k.c),.pointer (some (m65 M)),.slice r.ba r.bn r.bc,.slice ba bn bc,.pointer (some (m39 M)),.int .i64 r.tick,.int .i64 (r.tick+1),.agg #[.slice r.aw r.nw r.cw,.int .u64 k.c.sd,.int .i64 k.c.ep,.int .i64 k.c.nu,.int .i64 k.c.de,.slice ba bn bc,.int .i64 (r.tick+1),.slice none 0 0,.slice none 0 0],undef,undef,undef,undef,undef,undef,undef,undef,undef,undef,undef,undef,undef,undef,undef,undef,undef,undef,undef,undef,undef,undef,undef,undef,undef,undef,undef,undef,undef,undef,undef,undef,undef,undef,undef,undef,undef,undef],defers:=[] } W:=by
 obtain⟨hQp,HO,ht0,hc,hQ⟩:=PP
 refine cJ [9] (by kernel_rfl) (by simp) ?_
 refine cD 9 rfl (fun K hK=>?_) ?_
 ·go_simp
  have hR2:=hR.m
  replace hR:=hR2
  clear hR2
  refine hK.out _ _ ?_ ?_
  ·exact(hl3 (hc _ (hR.bel)))
  clear hK K
  try simp only[Act.put,pA,pB,pC]
  exact aEi ⟨hQp,HO,ht0,hc,hQ⟩ ba bn bc _ _ hR
 exact cE
theorem aNv (PP:dmP Q M M4 M5 r k u0 u1 u3 u12 u13 u14 u15 u16 u17 u18 u19 u20 u21 u22 u23 u24 u25 u26 u27 u28 u29 u30 w1)(g:Nat)(W:World)(hR:DmR w1 k.bad (some g) none W):
  aB Tryz.prog .any aEj Q (dmSL M M4 M5 r k u0 u1 u3 u12 u13 u14 u15 u16 u17 u18 u19 u20 u21 u22 u23 u24 u25 u26 u27 u28 u29 u30 w1) 3 #[true,true,true,true,false,true,true,true,false,true,false] { tmps:=#[u0,u1,.pointer (some (m00 M)),u3,.pointer (some (m00 M4)),.pointer (some (m00 M5)),.pointer (some (m00 g)),undef,undef,undef,undef,undef,u12,u13,u14,u15,u16,u17,u18,u19,u20,u21,u22,u23,u24,u25,u26,u27,u28,u29,u30,.pointer (some (m00 M)),.agg (m02 r.aw r.nw r.cw k.c),.pointer (some (m65 M)),.slice r.ba r.bn r.bc,undef,.pointer (some (m39 M)),.int .i64 r.tick,.int .i64 (r.tick+1),undef,undef,undef,undef,undef,undef,undef,undef,undef,undef,undef,undef,undef,undef,undef,undef,undef,undef,undef,undef,undef,undef,undef,undef,undef,undef,undef,undef,undef,undef,undef,undef,undef,undef,undef,undef,undef,undef,undef],defers:=[] } W:=by
 obtain⟨hQp,HO,ht0,hc,hQ⟩:=PP
 refine cJ [4] (by kernel_rfl) (by simp) ?_
 refine cD 4 rfl (fun K hK=>?_) ?_
 ·go_simp
  refine(eZ r.ba r.bn r.bc k.bad W (HO.out.1.below hR.bel nr) HO.out.2.1 HO.out.2.2).mono ?_;rintro e W2 ⟨v,rfl,own,hb⟩
  obtain⟨ba,bc,hv,-,-⟩:=OwnL.sl0 (f:=intC) (k:=1) (fun _=>rfl) own
  obtain⟨bn,hbn⟩:∃z,k.bad.length=z:=⟨_,rfl⟩
  rw[hbn]at hv
  subst hv
  clear hbn
  have hR2:=hR.call hb own
  replace hR:=hR2
  clear hR2 hb own
  refine hK.out _ _ ?_ ?_
  ·exact(hl3 (hc _ (hR.bel)))
  clear hK K
  try simp only[Act.put,pA,pB,pC]
  refine wI0 8 (oi:=dmO8) (v:=?_) rfl ?_ ?_ (hQ:=by exact fun _ _ _ h=>hQp _ _ _ _ _ h)
  rotate_left
  ·intro w' _;go_simp;try with_reducible rfl
  try simp only[Act.put,pA,pB,pC]
  exact aEi ⟨hQp,HO,ht0,hc,hQ⟩ ba bn bc g _ hR
 exact cE
theorem dm_ (PP:dmP Q M M4 M5 r k u0 u1 u3 u12 u13 u14 u15 u16 u17 u18 u19 u20 u21 u22 u23 u24 u25 u26 u27 u28 u29 u30 w1)(W:World)(hR:DmR w1 k.bad none none W):
  aB Tryz.prog .any aEj Q (dmSL M M4 M5 r k u0 u1 u3 u12 u13 u14 u15 u16 u17 u18 u19 u20 u21 u22 u23 u24 u25 u26 u27 u28 u29 u30 w1) 4 #[true,true,true,true,false,true,true,true,false,false,false] { tmps:=#[u0,u1,.pointer (some (m00 M)),u3,.pointer (some (m00 M4)),.pointer (some (m00 M5)),undef,undef,undef,undef,undef,undef,u12,u13,u14,u15,u16,u17,u18,u19,u20,u21,u22,u23,u24,u25,u26,u27,u28,u29,u30,.pointer (some (m00 M)),.agg (m02 r.aw r.nw r.cw k.c),.pointer (some (m65 M)),.slice r.ba r.bn r.bc,undef,.pointer (some (m39 M)),.int .i64 r.tick,.int .i64 (r.tick+1),undef,undef,undef,undef,undef,undef,undef,undef,undef,undef,undef,undef,undef,undef,undef,undef,undef,undef,undef,undef,undef,undef,undef,undef,undef,undef,undef,undef,undef,undef,undef,undef,undef,undef,undef,undef,undef,undef,undef],defers:=[] } W:=by
 obtain⟨hQp,HO,ht0,hc,hQ⟩:=PP
 refine cJ [4,9] (by kernel_rfl) (by simp) ?_
 refine cD 4 rfl (fun K hK=>?_) ?_
 ·go_simp
  refine(eZ r.ba r.bn r.bc k.bad W (HO.out.1.below hR.bel nr) HO.out.2.1 HO.out.2.2).mono ?_;rintro e W2 ⟨v,rfl,own,hb⟩
  obtain⟨ba,bc,hv,-,-⟩:=OwnL.sl0 (f:=intC) (k:=1) (fun _=>rfl) own
  obtain⟨bn,hbn⟩:∃z,k.bad.length=z:=⟨_,rfl⟩
  rw[hbn]at hv
  subst hv
  clear hbn
  have hR2:=hR.call hb own
  replace hR:=hR2
  clear hR2 hb own
  refine hK.out _ _ ?_ ?_
  ·exact(hl3 (hc _ (hR.bel)))
  clear hK K
  try simp only[Act.put,pA,pB,pC]
  refine wI0 8 (oi:=dmO8) (v:=?_) rfl ?_ ?_ (hQ:=by exact fun _ _ _ h=>hQp _ _ _ _ _ h)
  rotate_left
  ·intro w' _;go_simp;try with_reducible rfl
  try simp only[Act.put,pA,pB,pC]
  exact aNw ⟨hQp,HO,ht0,hc,hQ⟩ ba bn bc _ hR
 refine cD 9 rfl (fun K hK=>?_) ?_
 ·go_simp
  have hR2:=hR.m
  replace hR:=hR2
  clear hR2
  refine hK.out _ _ ?_ ?_
  ·exact(hl3 (hc _ (hR.bel)))
  clear hK K
  try simp only[Act.put,pA,pB,pC]
  exact aNv ⟨hQp,HO,ht0,hc,hQ⟩ _ _ hR
 exact cE
theorem aEh (PP:dmP Q M M4 M5 r k u0 u1 u3 u12 u13 u14 u15 u16 u17 u18 u19 u20 u21 u22 u23 u24 u25 u26 u27 u28 u29 u30 w1)(hR:DmR w1 k.bad none none w1.drew):(Code.region 4 aEj true).wp Tryz.prog Q { tmps:=#[u0,u1,.pointer (some (m00 M)),u3,.pointer (some (m00 M4)),.pointer (some (m00 M5)),undef,undef,undef,undef,undef,undef,u12,u13,u14,u15,u16,u17,u18,u19,u20,u21,u22,u23,u24,u25,u26,u27,u28,u29,u30,undef,undef,undef,undef,undef,undef,undef,undef,undef,undef,undef,undef,undef,undef,undef,undef,undef,undef,undef,undef,undef,undef,undef,undef,undef,undef,undef,undef,undef,undef,undef,undef,undef,undef,undef,undef,undef,undef,undef,undef,undef,undef,undef,undef,undef,undef,undef],defers:=[] } w1:=by
 obtain⟨hQp,HO,ht0,hc,hQ⟩:=PP
 obtain⟨ht1,ht2⟩:=ht0
 have hwr:IntKind.i64.wrap (r.tick+1)=r.tick+1:=by rw[IntKind.wrap_i64];omega
 refine cN (dmSL M M4 M5 r k u0 u1 u3 u12 u13 u14 u15 u16 u17 u18 u19 u20 u21 u22 u23 u24 u25 u26 u27 u28 u29 u30 w1) (by kernel_rfl) ?_
 generalize w1.drew=W at hR⊢
 show aB _ _ _ _ _ 11 #[false,false,false,false,false,false,false,false,false,false,false] _ _
 refine wI0 0 (oi:=dmO0) (v:=?_) rfl ?_ ?_ (hQ:=by exact fun _ _ _ h=>hQp _ _ _ _ _ h)
 rotate_left
 ·intro w' _;go_simp;try with_reducible rfl
 try simp only[Act.put,pA,pB,pC]
 refine wIL 0 1 (oi:=dmO1) (v:=?_) rfl rfl ?_ ?_ ?_ (hQ:=by exact fun _ _ _ h=>hQp _ _ _ _ _ h)
 rotate_left
 ·intro w' hSw;(try dsimp only at hSw);go_simp;try with_reducible rfl
 ·exact(hc _ hR.bel).1
 try simp only[Act.put,pA,pB,pC]
 refine wI0 2 (oi:=dmO2) (v:=?_) rfl ?_ ?_ (hQ:=by exact fun _ _ _ h=>hQp _ _ _ _ _ h)
 rotate_left
 ·intro w' _;go_simp;try with_reducible rfl
 try simp only[Act.put,pA,pB,pC]
 refine wIL 1 3 (oi:=dmO3) (v:=?_) rfl rfl ?_ ?_ ?_ (hQ:=by exact fun _ _ _ h=>hQp _ _ _ _ _ h)
 rotate_left
 ·intro w' hSw;(try dsimp only at hSw);go_simp;try with_reducible rfl
 ·exact(hc _ hR.bel).2.1
 try simp only[Act.put,pA,pB,pC]
 refine wI0 5 (oi:=dmO5) (v:=?_) rfl ?_ ?_ (hQ:=by exact fun _ _ _ h=>hQp _ _ _ _ _ h)
 rotate_left
 ·intro w' _;go_simp;try with_reducible rfl
 try simp only[Act.put,pA,pB,pC]
 refine wIL 2 6 (oi:=dmO6) (v:=?_) rfl rfl ?_ ?_ ?_ (hQ:=by exact fun _ _ _ h=>hQp _ _ _ _ _ h)
 rotate_left
 ·intro w' hSw;(try dsimp only at hSw);go_simp;try with_reducible rfl
 ·exact(hc _ hR.bel).2.2
 try simp only[Act.put,pA,pB,pC]
 refine wI0 7 (oi:=dmO7) (v:=?_) rfl ?_ ?_ (hQ:=by exact fun _ _ _ h=>hQp _ _ _ _ _ h)
 rotate_left
 ·intro w' _;go_simp;try with_reducible rfl
 try simp only[Act.put,pA,pB,pC]
 exact dm_ ⟨hQp,HO,⟨ht1,ht2⟩,hc,hQ⟩ _ hR
end
structure SR where
 r:RN
 os:List (RO×Tp.Vw)
 ta:Option Addr
 tn:Nat
 tc:Nat
 ts:List (RO×Tp.Vw)
structure SrR (F:Nat->Prop) (W:World) (x:Tp.Nd×List Tp.Off) (s:SR):Prop where
 nd:NdR W s.r s.os x.1
 told:dD W s.ta s.tn s.tc s.ts
 kt:x.2=s.ts.map aS
 off:∀b,F b->gU s.r s.os b/\dM s.ta s.tn s.ts b
theorem SrR.keep {F:Nat->Prop}{W W':World}{x:Tp.Nd×List Tp.Off}{s:SR}(h:SrR F W x s)(hb:Below W.heap.size W W'):SrR F W' x s:=⟨h.nd.keep hb,h.told.keep hb,h.kt,h.off⟩
structure DnR (w1:World) (F:Nat->Prop) (x:Tp.Nd×List Tp.Off) (al:Option Nat) (sr:Option SR) (W:World):Prop where
 bel:Below w1.heap.size w1 W
 aa:∀g,al=some g->W.heap[g]?=some (.cells (m20) 44 (0,0))/\w1.heap.size<=g
 st:∀s,sr=some s->SrR (fun b=>F b\/al=some b) W x s
section
variable {w1 W W':World}{F:Nat->Prop}{x:Tp.Nd×List Tp.Off}{al:Option Nat}{sr:Option SR}
theorem DnR.start :DnR w1 F x none none w1.drew:=⟨(Below.refl _ _).drew,fun _ h=>(by cases h),fun _ h=>(by cases h)⟩
theorem DnR.keep (h:DnR w1 F x al sr W)(hb:Below W.heap.size W W'):DnR w1 F x al sr W':=
 ⟨bS h.bel hb,fun g he=>⟨cG hb (gS (h.aa g he).1) (h.aa g he).1,(h.aa g he).2⟩,fun v e=>(h.st v e).keep hb⟩
theorem DnR.m (h:DnR w1 F x none sr W):DnR w1 F x (some W.heap.size) sr (W.alloc (.cells (m20) 44)):=by
 have hb:=(Below.refl W.heap.size W).alloc nr (.cells (m20) 44)
 refine⟨bS h.bel hb,fun g he=>?_,fun s e=>⟨(h.st s e).nd.keep hb,(h.st s e).told.keep hb,(h.st s e).kt,fun b hF=>?_⟩⟩
 ·cases he
  exact⟨heap_alloc_new W _,h.bel.size⟩
 ·rcases hF with hF|hF
  ·exact(h.st s e).off b (.inl hF)
  ·cases hF
   exact⟨(h.st s e).nd.away nr,(h.st s e).told.away nr⟩
theorem DnR.call {s:SR}(h:DnR w1 F x al none W)(hb:Below W.heap.size W W')(hs:SrR (fun b=>F b\/al=some b) W' x s):DnR w1 F x al (some s) W':=
 ⟨(h.keep hb).bel,(h.keep hb).aa,fun s' e=>by cases e;exact hs⟩
end
structure aMv (w:World) (r:RW) (k:Tp.Wd) (F:Nat->Prop) (rn:RN) (os:List (RO×Tp.Vw)) (nd:Tp.Nd) (t:RV) (inn:Tp.Vw) (oa:Option Addr) (on_ oc:Nat) (ol:List (RO×Tp.Vw)):Prop where
 conf:aP w r.aw r.nw k.c.W k.c.sd
 node:NdR w rn os nd
 inw:VwR w t inn
 offs:dD w oa on_ oc ol
 may:Tp.mayC k.c.W k.c.ep k.c.nu k.c.de=true
 tick:3<=nd.tick/\nd.tick<=1000000
 rev:0<=nd.c.rev/\nd.c.rev<=1000000000
 hj:(Tp.join nd.inn (Tp.only k.c inn)).b.length<=100000/\(Tp.join nd.inn (Tp.only k.c inn)).v.length<=100000
 hob:∀o∈nd.o++ol.map aS,o.v.b.length<=10000/\o.v.v.length<=10000
 hi:∀b,F b->b<w.heap.size
 hfr:∀b,F b->gU rn os b
abbrev dnO0 :Oper:=⟨some 53,.fieldAddr 32 (.tmp 2) 0,0,"play.go:126",#[],none⟩
abbrev dnO1 :Oper:=⟨some 54,.load 25 (.tmp 53),25,"play.go:126",#[⟨0,.data⟩],none⟩
abbrev dnO2 :Oper:=⟨some 55,.fieldAddr 32 (.tmp 2) 3,0,"play.go:126",#[],none⟩
abbrev dnO3 :Oper:=⟨some 56,.load 29 (.tmp 55),29,"play.go:126",#[⟨2,.data⟩],none⟩
abbrev dnO4 :Oper:=⟨some 57,.move (.tmp 7),3,"play.go:126",#[],none⟩
abbrev dnO5 :Oper:=⟨some 58,.indexAddr 29 (.tmp 56) (.tmp 57),0,"play.go:126",#[⟨3,.data⟩,⟨4,.data⟩],none⟩
abbrev dnO6 :Oper:=⟨some 59,.load 44 (.tmp 58),44,"play.go:126",#[⟨5,.data⟩],none⟩
abbrev dnO7 :Oper:=⟨some 60,.load 38 (.tmp 8),38,"play.go:126",#[],none⟩
abbrev dnO8 :Oper:=⟨some 61,.move (.tmp 9),30,"play.go:126",#[],none⟩
abbrev dnO9 :Oper:=⟨some 62,.call ⟨.value (.func 29),#[.tmp 54,.tmp 59,.tmp 60,.tmp 61],#[25,44,38,30]⟩,71,"play.go:126",#[⟨1,.data⟩,⟨6,.data⟩,⟨7,.data⟩,⟨8,.data⟩],none⟩
abbrev aKq :Oper:=⟨some 52,.move (.tmp 62),71,"play.go:126",#[⟨9,.data⟩],none⟩
abbrev aKp :Oper:=⟨some 63,.extract (.tmp 52) 0,44,"play.go:126",#[⟨10,.data⟩],none⟩
abbrev aKo :Oper:=⟨some 64,.extract (.tmp 52) 1,30,"play.go:126",#[⟨10,.data⟩,⟨14,.gcOnly .lateStores⟩],none⟩
abbrev aNu :Oper:=⟨some 10,.alloc 44,0,"play.go:126",#[],none⟩
abbrev aNt :Oper:=⟨none,.store 44 (.tmp 10) (.tmp 63),0,"play.go:126",#[⟨13,.data⟩,⟨11,.data⟩,⟨9,.chain⟩,⟨0,.phase⟩,⟨1,.phase⟩,⟨2,.phase⟩,⟨3,.phase⟩,⟨4,.phase⟩,⟨5,.phase⟩,⟨6,.phase⟩,⟨7,.phase⟩,⟨8,.phase⟩,⟨9,.phase⟩,⟨10,.phase⟩,⟨11,.phase⟩,⟨12,.textOnly .lateStores⟩,⟨13,.phase⟩],none⟩
abbrev aMo :Oper:=⟨some 11,.assign (.tmp 64),30,"play.go:126",#[⟨12,.data⟩,⟨14,.chain⟩,⟨0,.phase⟩,⟨1,.phase⟩,⟨2,.phase⟩,⟨3,.phase⟩,⟨4,.phase⟩,⟨5,.phase⟩,⟨6,.phase⟩,⟨7,.phase⟩,⟨8,.phase⟩,⟨9,.phase⟩,⟨10,.phase⟩,⟨11,.phase⟩,⟨12,.phase⟩,⟨13,.phase⟩,⟨14,.phase⟩],none⟩
abbrev aEg :Array Oper:=#[dnO0,dnO1,dnO2,dnO3,dnO4,dnO5,dnO6,dnO7,dnO8,dnO9,aKq,aKp,aKo,aNu,aNt,aMo]
abbrev dnSL (M M4 M5 G6 B8 nb no j:Nat) (r:RW) (k:Tp.Wd) (F:Nat->Prop) (rn:RN) (os:List (RO×Tp.Vw)) (nd:Tp.Nd) (t:RV) (inn:Tp.Vw) (oa:Option Addr) (on_ oc:Nat) (ol:List (RO×Tp.Vw)) (u0 u1 u3 u12 u13 u14 u15 u16 u17 u18 u19 u20 u21 u22 u23 u24 u25 u26 u27 u28 u29 u30 u31 u32 u33 u34 u35 u36 u37 u38 u39 u40 u41 u42 u43 u44 u45 u46 u47 u48 u49 u50 u51 u52 u53 u54 u55 u56 u57 u58 u59 u60 u61 u62 u63 u64 u65 u66 u67 u68 u69 u70 u71 u72 u73 u74 u75 u76 u10 u11:Value) (w1:World):List (Nat×(World->Prop)):=[(1,fun W=>W.cell? (m00 M)=some (.slice r.aw r.nw r.cw)/\W.cell? (m15 M)=some (.int .u64 k.c.sd)/\W.cell? (m25 M)=some (.int .i64 k.c.ep)/\W.cell? (m33 M)=some (.int .i64 k.c.nu)/\W.cell? (m35 M)=some (.int .i64 k.c.de)),(3,fun W=>W.cell? (m36 M)=some (.slice (some (m09 nb no)) r.nn r.nc)),(6,fun W=>W.cell? (m09 nb (no+j*12))=some (.int .i64 rn.no)/\W.cell? (m09 nb (no+j*12+1))=some (.int .i64 rn.tick)/\W.cell? (m09 nb (no+j*12+2))=some (.slice rn.v.ab rn.v.nb rn.v.cb)/\W.cell? (m09 nb (no+j*12+3))=some (.slice rn.v.av rn.v.nv rn.v.cv)/\W.cell? (m09 nb (no+j*12+4))=some (.slice rn.inn.ab rn.inn.nb rn.inn.cb)/\W.cell? (m09 nb (no+j*12+5))=some (.slice rn.inn.av rn.inn.nv rn.inn.cv)/\W.cell? (m09 nb (no+j*12+6))=some (.slice rn.oa rn.on rn.oc)/\W.cell? (m09 nb (no+j*12+7))=some (.int .u64 rn.p)/\W.cell? (m09 nb (no+j*12+8))=some (.int .u64 rn.q)/\W.cell? (m09 nb (no+j*12+9))=some (.int .i64 rn.sl)/\W.cell? (m09 nb (no+j*12+10))=some (.int .i64 rn.rev)/\W.cell? (m09 nb (no+j*12+11))=some (.bool rn.full)),(7,fun W=>W.cell? (m00 B8)=some (.slice t.ab t.nb t.cb)/\W.cell? (m15 B8)=some (.slice t.av t.nv t.cv))]
structure dnP (Q:Exit->Act->World->Prop) (M M4 M5 G6 B8 nb no j:Nat) (r:RW) (k:Tp.Wd) (F:Nat->Prop) (rn:RN) (os:List (RO×Tp.Vw)) (nd:Tp.Nd) (t:RV) (inn:Tp.Vw) (oa:Option Addr) (on_ oc:Nat) (ol:List (RO×Tp.Vw)) (u0 u1 u3 u12 u13 u14 u15 u16 u17 u18 u19 u20 u21 u22 u23 u24 u25 u26 u27 u28 u29 u30 u31 u32 u33 u34 u35 u36 u37 u38 u39 u40 u41 u42 u43 u44 u45 u46 u47 u48 u49 u50 u51 u52 u53 u54 u55 u56 u57 u58 u59 u60 u61 u62 u63 u64 u65 u66 u67 u68 u69 u70 u71 u72 u73 u74 u75 u76 u10 u11:Value) (w1:World):Prop where
 hQp:∀(c:_) (a:Act) (d:Option Tmp) (v:Value) (w:World),Q (.panic c) (a.put d v) w->Q (.panic c) a w
 HS:Hid (aMv w1 r k F rn os nd t inn oa on_ oc ol)
 hj:j<r.nn
 hc:∀W:World,Below w1.heap.size w1 W->(W.cell? (m00 M)=some (.slice r.aw r.nw r.cw)/\W.cell? (m15 M)=some (.int .u64 k.c.sd)/\W.cell? (m25 M)=some (.int .i64 k.c.ep)/\W.cell? (m33 M)=some (.int .i64 k.c.nu)/\W.cell? (m35 M)=some (.int .i64 k.c.de))/\(W.cell? (m36 M)=some (.slice (some (m09 nb no)) r.nn r.nc))/\(W.cell? (m09 nb (no+j*12))=some (.int .i64 rn.no)/\W.cell? (m09 nb (no+j*12+1))=some (.int .i64 rn.tick)/\W.cell? (m09 nb (no+j*12+2))=some (.slice rn.v.ab rn.v.nb rn.v.cb)/\W.cell? (m09 nb (no+j*12+3))=some (.slice rn.v.av rn.v.nv rn.v.cv)/\W.cell? (m09 nb (no+j*12+4))=some (.slice rn.inn.ab rn.inn.nb rn.inn.cb)/\W.cell? (m09 nb (no+j*12+5))=some (.slice rn.inn.av rn.inn.nv rn.inn.cv)/\W.cell? (m09 nb (no+j*12+6))=some (.slice rn.oa rn.on rn.oc)/\W.cell? (m09 nb (no+j*12+7))=some (.int .u64 rn.p)/\W.cell? (m09 nb (no+j*12+8))=some (.int .u64 rn.q)/\W.cell? (m09 nb (no+j*12+9))=some (.int .i64 rn.sl)/\W.cell? (m09 nb (no+j*12+10))=some (.int .i64 rn.rev)/\W.cell? (m09 nb (no+j*12+11))=some (.bool rn.full))/\(W.cell? (m00 B8)=some (.slice t.ab t.nb t.cb)/\W.cell? (m15 B8)=some (.slice t.av t.nv t.cv))
 hQ:∀g s W,DnR w1 F (Tp.step k.c nd inn (ol.map aS)) (some g) (some s) W->Q .normal { tmps:=#[u0,u1,.pointer (some (m00 M)),u3,.pointer (some (m00 M4)),.pointer (some (m00 M5)),.pointer (some (m00 G6)),.int .i64 j,.pointer (some (m00 B8)),.slice oa on_ oc,.pointer (some (m00 g)),.slice s.ta s.tn s.tc,u12,u13,u14,u15,u16,u17,u18,u19,u20,u21,u22,u23,u24,u25,u26,u27,u28,u29,u30,u31,u32,u33,u34,u35,u36,u37,u38,u39,u40,u41,u42,u43,u44,u45,u46,u47,u48,u49,u50,u51,.tuple #[.agg (m03 s.r.no s.r.tick s.r.v s.r.inn s.r.oa s.r.on s.r.oc s.r.p s.r.q s.r.sl s.r.rev s.r.full),.slice s.ta s.tn s.tc],.pointer (some (m00 M)),.agg (m02 r.aw r.nw r.cw k.c),.pointer (some (m36 M)),.slice (some (m09 nb no)) r.nn r.nc,.int .i64 j,.pointer (some (m09 nb (no+j*12))),.agg (m03 rn.no rn.tick rn.v rn.inn rn.oa rn.on rn.oc rn.p rn.q rn.sl rn.rev rn.full),.agg (m01 t),.slice oa on_ oc,.tuple #[.agg (m03 s.r.no s.r.tick s.r.v s.r.inn s.r.oa s.r.on s.r.oc s.r.p s.r.q s.r.sl s.r.rev s.r.full),.slice s.ta s.tn s.tc],.agg (m03 s.r.no s.r.tick s.r.v s.r.inn s.r.oa s.r.on s.r.oc s.r.p s.r.q s.r.sl s.r.rev s.r.full),.slice s.ta s.tn s.tc,u65,u66,u67,u68,u69,u70,u71,u72,u73,u74,u75,u76,undef],defers:=[] } (m16 W g s.r.no s.r.tick s.r.v s.r.inn s.r.oa s.r.on s.r.oc s.r.p s.r.q s.r.sl s.r.rev s.r.full)
section
variable {Q:Exit->Act->World->Prop}{M M4 M5 G6 B8 nb no j:Nat}{r:RW}{k:Tp.Wd}{F:Nat->Prop}{rn:RN}{os:List (RO×Tp.Vw)}{nd:Tp.Nd}{t:RV}{inn:Tp.Vw}{oa:Option Addr}{on_ oc:Nat}{ol:List (RO×Tp.Vw)}{u0 u1 u3 u12 u13 u14 u15 u16 u17 u18 u19 u20 u21 u22 u23 u24 u25 u26 u27 u28 u29 u30 u31 u32 u33 u34 u35 u36 u37 u38 u39 u40 u41 u42 u43 u44 u45 u46 u47 u48 u49 u50 u51 u52 u53 u54 u55 u56 u57 u58 u59 u60 u61 u62 u63 u64 u65 u66 u67 u68 u69 u70 u71 u72 u73 u74 u75 u76 u10 u11:Value}{w1:World}
section
variable (PP:dnP Q M M4 M5 G6 B8 nb no j r k F rn os nd t inn oa on_ oc ol u0 u1 u3 u12 u13 u14 u15 u16 u17 u18 u19 u20 u21 u22 u23 u24 u25 u26 u27 u28 u29 u30 u31 u32 u33 u34 u35 u36 u37 u38 u39 u40 u41 u42 u43 u44 u45 u46 u47 u48 u49 u50 u51 u52 u53 u54 u55 u56 u57 u58 u59 u60 u61 u62 u63 u64 u65 u66 u67 u68 u69 u70 u71 u72 u73 u74 u75 u76 u10 u11 w1)
include PP
theorem xY (s:SR)(g:Nat)(W:World)(hR:DnR w1 F (Tp.step k.c nd inn (ol.map aS)) (some g) (some s) W):
  aB Tryz.prog .any aEg Q (dnSL M M4 M5 G6 B8 nb no j r k F rn os nd t inn oa on_ oc ol u0 u1 u3 u12 u13 u14 u15 u16 u17 u18 u19 u20 u21 u22 u23 u24 u25 u26 u27 u28 u29 u30 u31 u32 u33 u34 u35 u36 u37 u38 u39 u40 u41 u42 u43 u44 u45 u46 u47 u48 u49 u50 u51 u52 u53 u54 u55 u56 u57 u58 u59 u60 u61 u62 u63 u64 u65 u66 u67 u68 u69 u70 u71 u72 u73 u74 u75 u76 u10 u11 w1) 2 #[true,true,true,true,true,true,true,true,true,true,true,true,true,true,false,false] { tmps:=#[u0,u1,.pointer (some (m00 M)),u3,.pointer (some (m00 M4)),.pointer (some (m00 M5)),.pointer (some (m00 G6)),.int .i64 j,.pointer (some (m00 B8)),.slice oa on_ oc,.pointer (some (m00 g)),u11,u12,u13,u14,u15,u16,u17,u18,u19,u20,u21,u22,u23,u24,u25,u26,u27,u28,u29,u30,u31,u32,u33,u34,u35,u36,u37,u38,u39,u40,u41,u42,u43,u44,u45,u46,u47,u48,u49,u50,u51,.tuple #[.agg (m03 s.r.no s.r.tick s.r.v s.r.inn s.r.oa s.r.on s.r.oc s.r.p s.r.q s.r.sl s.r.rev s.r.full),.slice s.ta s.tn s.tc],.pointer (some (m00 M)),.agg (m02 r.aw r.nw r.cw k.c),.pointer (some (m36 M)),.slice (some (m09 nb no)) r.nn r.nc,.int .i64 j,.pointer (some (m09 nb (no+j*12))),.agg (m03 rn.no rn.tick rn.v rn.inn rn.oa rn.on rn.oc rn.p rn.q rn.sl rn.rev rn.full),.agg (m01 t),.slice oa on_ oc,.tuple #[.agg (m03 s.r.no s.r.tick s.r.v s.r.inn s.r.oa s.r.on s.r.oc s.r.p s.r.q s.r.sl s.r.rev s.r.full),.slice s.ta s.tn s.tc],.agg (m03 s.r.no s.r.tick s.r.v s.r.inn s.r.oa s.r.on s.r.oc s.r.p s.r.q s.r.sl s.r.rev s.r.full),.slice s.ta s.tn s.tc,u65,u66,u67,u68,u69,u70,u71,u72,u73,u74,u75,u76,undef],defers:=[] } W:=by
 obtain⟨hQp,HS,hj,hc,hQ⟩:=PP
 refine cK 14 (by kernel_rfl) rfl (fun K hK=>?_)
 have hgg:=(hR.aa _ rfl).1
 have c0:=cA hgg 0;have f0:=cH hgg 0
 have c1:=cA hgg 1;have f1:=cH hgg 1
 have c2:=cA hgg 2;have f2:=cH hgg 2
 have c3:=cA hgg 3;have f3:=cH hgg 3
 have c4:=cA hgg 4;have f4:=cH hgg 4
 have c5:=cA hgg 5;have f5:=cH hgg 5
 have c6:=cA hgg 6;have f6:=cH hgg 6
 have c7:=cA hgg 7;have f7:=cH hgg 7
 have c8:=cA hgg 8;have f8:=cH hgg 8
 have c9:=cA hgg 9;have f9:=cH hgg 9
 have c10:=cA hgg 10;have f10:=cH hgg 10
 have c11:=cA hgg 11;have f11:=cH hgg 11
 clear hgg
 go_simp
 refine hK.out _ _ ?_ ?_
 ·exact⟨.inr (by kernel_rfl),.inr (by kernel_rfl),.inr (by kernel_rfl),.inr (by kernel_rfl),trivial⟩
 clear hK K
 try simp only[Act.put,pA,pB,pC]
 refine wI0 15 (oi:=aMo) (v:=?_) rfl ?_ ?_ (hQ:=by exact fun _ _ _ h=>hQp _ _ _ _ _ h)
 rotate_left
 ·intro w' _;go_simp;try with_reducible rfl
 try simp only[Act.put,pA,pB,pC]
 refine cO (by kernel_rfl) ?_ _
 exact hQ g s W hR
theorem aNs (s:SR)(W:World)(hR:DnR w1 F (Tp.step k.c nd inn (ol.map aS)) none (some s) W):
  aB Tryz.prog .any aEg Q (dnSL M M4 M5 G6 B8 nb no j r k F rn os nd t inn oa on_ oc ol u0 u1 u3 u12 u13 u14 u15 u16 u17 u18 u19 u20 u21 u22 u23 u24 u25 u26 u27 u28 u29 u30 u31 u32 u33 u34 u35 u36 u37 u38 u39 u40 u41 u42 u43 u44 u45 u46 u47 u48 u49 u50 u51 u52 u53 u54 u55 u56 u57 u58 u59 u60 u61 u62 u63 u64 u65 u66 u67 u68 u69 u70 u71 u72 u73 u74 u75 u76 u10 u11 w1) 3 #[true,true,true,true,true,true,true,true,true,true,true,true,true,false,false,false] { tmps:=#[u0,u1,.pointer (some (m00 M)),u3,.pointer (some (m00 M4)),.pointer (some (m00 M5)),.pointer (some (m00 G6)),.int .i64 j,.pointer (some (m00 B8)),.slice oa on_ oc,u10,u11,u12,u13,u14,u15,u16,u17,u18,u19,u20,u21,u22,u23,u24,u25,u26,u27,u28,u29,u30,u31,u32,u33,u34,u35,u36,u37,u38,u39,u40,u41,u42,u43,u44,u45,u46,u47,u48,u49,u50,u51,.tuple #[.agg (m03 s.r.no s.r.tick s.r.v s.r.inn s.r.oa s.r.on s.r.oc s.r.p s.r.q s.r.sl s.r.rev s.r.full),.slice s.ta s.tn s.tc],.pointer (some (m00 M)),.agg (m02 r.aw r.nw r.cw k.c),.pointer (some (m36 M)),.slice (some (m09 nb no)) r.nn r.nc,.int .i64 j,.pointer (some (m09 nb (no+j*12))),.agg (m03 rn.no rn.tick rn.v rn.inn rn.oa rn.on rn.oc rn.p rn.q rn.sl rn.rev rn.full),.agg (m01 t),.slice oa on_ oc,.tuple #[.agg (m03 s.r.no s.r.tick s.r.v s.r.inn s.r.oa s.r.on s.r.oc s.r.p s.r.q s.r.sl s.r.rev s.r.full),.slice s.ta s.tn s.tc],.agg (m03 s.r.no s.r.tick s.r.v s.r.inn s.r.oa s.r.on s.r.oc s.r.p s.r.q s.r.sl s.r.rev s.r.full),.slice s.ta s.tn s.tc,u65,u66,u67,u68,u69,u70,u71,u72,u73,u74,u75,u76,undef],defers:=[] } W:=by
 obtain⟨hQp,HS,hj,hc,hQ⟩:=PP
 refine cJ [13] (by kernel_rfl) (by simp) ?_
 refine cD 13 rfl (fun K hK=>?_) ?_
 ·go_simp
  have hR2:=hR.m
  replace hR:=hR2
  clear hR2
  refine hK.out _ _ ?_ ?_
  ·exact(hl4 (hc _ (hR.bel)))
  clear hK K
  try simp only[Act.put,pA,pB,pC]
  exact xY ⟨hQp,HS,hj,hc,hQ⟩ s _ _ hR
 exact cE
theorem aMn (g:Nat)(W:World)(hR:DnR w1 F (Tp.step k.c nd inn (ol.map aS)) (some g) none W):
  aB Tryz.prog .any aEg Q (dnSL M M4 M5 G6 B8 nb no j r k F rn os nd t inn oa on_ oc ol u0 u1 u3 u12 u13 u14 u15 u16 u17 u18 u19 u20 u21 u22 u23 u24 u25 u26 u27 u28 u29 u30 u31 u32 u33 u34 u35 u36 u37 u38 u39 u40 u41 u42 u43 u44 u45 u46 u47 u48 u49 u50 u51 u52 u53 u54 u55 u56 u57 u58 u59 u60 u61 u62 u63 u64 u65 u66 u67 u68 u69 u70 u71 u72 u73 u74 u75 u76 u10 u11 w1) 6 #[true,true,true,true,true,true,true,true,true,false,false,false,false,true,false,false] { tmps:=#[u0,u1,.pointer (some (m00 M)),u3,.pointer (some (m00 M4)),.pointer (some (m00 M5)),.pointer (some (m00 G6)),.int .i64 j,.pointer (some (m00 B8)),.slice oa on_ oc,.pointer (some (m00 g)),u11,u12,u13,u14,u15,u16,u17,u18,u19,u20,u21,u22,u23,u24,u25,u26,u27,u28,u29,u30,u31,u32,u33,u34,u35,u36,u37,u38,u39,u40,u41,u42,u43,u44,u45,u46,u47,u48,u49,u50,u51,u52,.pointer (some (m00 M)),.agg (m02 r.aw r.nw r.cw k.c),.pointer (some (m36 M)),.slice (some (m09 nb no)) r.nn r.nc,.int .i64 j,.pointer (some (m09 nb (no+j*12))),.agg (m03 rn.no rn.tick rn.v rn.inn rn.oa rn.on rn.oc rn.p rn.q rn.sl rn.rev rn.full),.agg (m01 t),.slice oa on_ oc,u62,u63,u64,u65,u66,u67,u68,u69,u70,u71,u72,u73,u74,u75,u76,undef],defers:=[] } W:=by
 obtain⟨hQp,HS,hj,hc,hQ⟩:=PP
 refine cJ [9] (by kernel_rfl) (by simp) ?_
 refine cD 9 rfl (fun K hK=>?_) ?_
 ·go_simp
  refine(tC (fun b=>F b\/some g=some b) r.aw r.nw r.cw k.c rn os nd t inn oa on_ oc ol W (HS.out.conf.keep hR.bel) (HS.out.node.keep hR.bel) (HS.out.inw.keep hR.bel) (HS.out.offs.keep hR.bel) HS.out.may HS.out.tick HS.out.rev HS.out.hj HS.out.hob (fun b e=>e.elim (fun e=>Nat.lt_of_lt_of_le (HS.out.hi b e) hR.bel.size) (fun e=>by cases e;exact(gS (hR.aa _ rfl).1))) (fun b e=>e.elim (HS.out.hfr b) (fun e=>by cases e;exact HS.out.node.away (hR.aa _ rfl).2))).mono ?_;rintro e W2 ⟨r',os',ta,tn,tc,ts,rfl,h2,h3,h4,h5,hb⟩
  have hR2:=hR.call (s:=⟨r',os',ta,tn,tc,ts⟩) hb ⟨h2,h3,h4,h5⟩
  replace hR:=hR2
  obtain⟨s,hs⟩:∃z:SR,(⟨r',os',ta,tn,tc,ts⟩:SR)=z:=⟨_,rfl⟩
  rw[hs]at hR
  rw[show r'=s.r from congrArg SR.r hs,show ta=s.ta from congrArg SR.ta hs,show tn=s.tn from congrArg SR.tn hs,show tc=s.tc from congrArg SR.tc hs]
  simp only[aT]
  clear hR2 hb h2 h3 h4 h5 hs
  refine hK.out _ _ ?_ ?_
  ·exact(hl4 (hc _ (hR.bel)))
  clear hK K
  try simp only[Act.put,pA,pB,pC]
  refine wI0 10 (oi:=aKq) (v:=?_) rfl ?_ ?_ (hQ:=by exact fun _ _ _ h=>hQp _ _ _ _ _ h)
  rotate_left
  ·intro w' _;go_simp;try with_reducible rfl
  try simp only[Act.put,pA,pB,pC]
  refine wI0 11 (oi:=aKp) (v:=?_) rfl ?_ ?_ (hQ:=by exact fun _ _ _ h=>hQp _ _ _ _ _ h)
  rotate_left
  ·intro w' _;go_simp;try with_reducible rfl
  try simp only[Act.put,pA,pB,pC]
  refine wI0 12 (oi:=aKo) (v:=?_) rfl ?_ ?_ (hQ:=by exact fun _ _ _ h=>hQp _ _ _ _ _ h)
  rotate_left
  ·intro w' _;go_simp;try with_reducible rfl
  try simp only[Act.put,pA,pB,pC]
  exact xY ⟨hQp,HS,hj,hc,hQ⟩ s g _ hR
 exact cE
theorem dn_ (W:World)(hR:DnR w1 F (Tp.step k.c nd inn (ol.map aS)) none none W):
  aB Tryz.prog .any aEg Q (dnSL M M4 M5 G6 B8 nb no j r k F rn os nd t inn oa on_ oc ol u0 u1 u3 u12 u13 u14 u15 u16 u17 u18 u19 u20 u21 u22 u23 u24 u25 u26 u27 u28 u29 u30 u31 u32 u33 u34 u35 u36 u37 u38 u39 u40 u41 u42 u43 u44 u45 u46 u47 u48 u49 u50 u51 u52 u53 u54 u55 u56 u57 u58 u59 u60 u61 u62 u63 u64 u65 u66 u67 u68 u69 u70 u71 u72 u73 u74 u75 u76 u10 u11 w1) 7 #[true,true,true,true,true,true,true,true,true,false,false,false,false,false,false,false] { tmps:=#[u0,u1,.pointer (some (m00 M)),u3,.pointer (some (m00 M4)),.pointer (some (m00 M5)),.pointer (some (m00 G6)),.int .i64 j,.pointer (some (m00 B8)),.slice oa on_ oc,u10,u11,u12,u13,u14,u15,u16,u17,u18,u19,u20,u21,u22,u23,u24,u25,u26,u27,u28,u29,u30,u31,u32,u33,u34,u35,u36,u37,u38,u39,u40,u41,u42,u43,u44,u45,u46,u47,u48,u49,u50,u51,u52,.pointer (some (m00 M)),.agg (m02 r.aw r.nw r.cw k.c),.pointer (some (m36 M)),.slice (some (m09 nb no)) r.nn r.nc,.int .i64 j,.pointer (some (m09 nb (no+j*12))),.agg (m03 rn.no rn.tick rn.v rn.inn rn.oa rn.on rn.oc rn.p rn.q rn.sl rn.rev rn.full),.agg (m01 t),.slice oa on_ oc,u62,u63,u64,u65,u66,u67,u68,u69,u70,u71,u72,u73,u74,u75,u76,undef],defers:=[] } W:=by
 obtain⟨hQp,HS,hj,hc,hQ⟩:=PP
 refine cJ [9,13] (by kernel_rfl) (by simp) ?_
 refine cD 9 rfl (fun K hK=>?_) ?_
 ·go_simp
  refine(tC (fun b=>F b\/none=some b) r.aw r.nw r.cw k.c rn os nd t inn oa on_ oc ol W (HS.out.conf.keep hR.bel) (HS.out.node.keep hR.bel) (HS.out.inw.keep hR.bel) (HS.out.offs.keep hR.bel) HS.out.may HS.out.tick HS.out.rev HS.out.hj HS.out.hob (fun b e=>e.elim (fun e=>Nat.lt_of_lt_of_le (HS.out.hi b e) hR.bel.size) (fun e=>by cases e)) (fun b e=>e.elim (HS.out.hfr b) (fun e=>by cases e))).mono ?_;rintro e W2 ⟨r',os',ta,tn,tc,ts,rfl,h2,h3,h4,h5,hb⟩
  have hR2:=hR.call (s:=⟨r',os',ta,tn,tc,ts⟩) hb ⟨h2,h3,h4,h5⟩
  replace hR:=hR2
  obtain⟨s,hs⟩:∃z:SR,(⟨r',os',ta,tn,tc,ts⟩:SR)=z:=⟨_,rfl⟩
  rw[hs]at hR
  rw[show r'=s.r from congrArg SR.r hs,show ta=s.ta from congrArg SR.ta hs,show tn=s.tn from congrArg SR.tn hs,show tc=s.tc from congrArg SR.tc hs]
  simp only[aT]
  clear hR2 hb h2 h3 h4 h5 hs
  refine hK.out _ _ ?_ ?_
  ·exact(hl4 (hc _ (hR.bel)))
  clear hK K
  try simp only[Act.put,pA,pB,pC]
  refine wI0 10 (oi:=aKq) (v:=?_) rfl ?_ ?_ (hQ:=by exact fun _ _ _ h=>hQp _ _ _ _ _ h)
  rotate_left
  ·intro w' _;go_simp;try with_reducible rfl
  try simp only[Act.put,pA,pB,pC]
  refine wI0 11 (oi:=aKp) (v:=?_) rfl ?_ ?_ (hQ:=by exact fun _ _ _ h=>hQp _ _ _ _ _ h)
  rotate_left
  ·intro w' _;go_simp;try with_reducible rfl
  try simp only[Act.put,pA,pB,pC]
  refine wI0 12 (oi:=aKo) (v:=?_) rfl ?_ ?_ (hQ:=by exact fun _ _ _ h=>hQp _ _ _ _ _ h)
  rotate_left
  ·intro w' _;go_simp;try with_reducible rfl
  try simp only[Act.put,pA,pB,pC]
  exact aNs ⟨hQp,HS,hj,hc,hQ⟩ s _ hR
 refine cD 13 rfl (fun K hK=>?_) ?_
 ·go_simp
  have hR2:=hR.m
  replace hR:=hR2
  clear hR2
  refine hK.out _ _ ?_ ?_
  ·exact(hl4 (hc _ (hR.bel)))
  clear hK K
  try simp only[Act.put,pA,pB,pC]
  exact aMn ⟨hQp,HS,hj,hc,hQ⟩ _ _ hR
 exact cE
theorem aEf (hR:DnR w1 F (Tp.step k.c nd inn (ol.map aS)) none none w1.drew):(Code.region 9 aEg true).wp Tryz.prog Q { tmps:=#[u0,u1,.pointer (some (m00 M)),u3,.pointer (some (m00 M4)),.pointer (some (m00 M5)),.pointer (some (m00 G6)),.int .i64 j,.pointer (some (m00 B8)),.slice oa on_ oc,u10,u11,u12,u13,u14,u15,u16,u17,u18,u19,u20,u21,u22,u23,u24,u25,u26,u27,u28,u29,u30,u31,u32,u33,u34,u35,u36,u37,u38,u39,u40,u41,u42,u43,u44,u45,u46,u47,u48,u49,u50,u51,u52,u53,u54,u55,u56,u57,u58,u59,u60,u61,u62,u63,u64,u65,u66,u67,u68,u69,u70,u71,u72,u73,u74,u75,u76,undef],defers:=[] } w1:=by
 obtain⟨hQp,HS,hj,hc,hQ⟩:=PP
 have j0:(0:Int)<=(j:Int):=by omega
 have j1:(j:Int)<(r.nn:Int):=by omega
 refine cN (dnSL M M4 M5 G6 B8 nb no j r k F rn os nd t inn oa on_ oc ol u0 u1 u3 u12 u13 u14 u15 u16 u17 u18 u19 u20 u21 u22 u23 u24 u25 u26 u27 u28 u29 u30 u31 u32 u33 u34 u35 u36 u37 u38 u39 u40 u41 u42 u43 u44 u45 u46 u47 u48 u49 u50 u51 u52 u53 u54 u55 u56 u57 u58 u59 u60 u61 u62 u63 u64 u65 u66 u67 u68 u69 u70 u71 u72 u73 u74 u75 u76 u10 u11 w1) (by kernel_rfl) ?_
 generalize w1.drew=W at hR⊢
 show aB _ _ _ _ _ 16 #[false,false,false,false,false,false,false,false,false,false,false,false,false,false,false,false] _ _
 refine wI0 0 (oi:=dnO0) (v:=?_) rfl ?_ ?_ (hQ:=by exact fun _ _ _ h=>hQp _ _ _ _ _ h)
 rotate_left
 ·intro w' _;go_simp;try with_reducible rfl
 try simp only[Act.put,pA,pB,pC]
 refine wIL 0 1 (oi:=dnO1) (v:=?_) rfl rfl ?_ ?_ ?_ (hQ:=by exact fun _ _ _ h=>hQp _ _ _ _ _ h)
 rotate_left
 ·intro w' hSw;(try dsimp only at hSw);go_simp;try with_reducible rfl
 ·exact(hc _ hR.bel).1
 try simp only[Act.put,pA,pB,pC]
 refine wI0 2 (oi:=dnO2) (v:=?_) rfl ?_ ?_ (hQ:=by exact fun _ _ _ h=>hQp _ _ _ _ _ h)
 rotate_left
 ·intro w' _;go_simp;try with_reducible rfl
 try simp only[Act.put,pA,pB,pC]
 refine wIL 1 3 (oi:=dnO3) (v:=?_) rfl rfl ?_ ?_ ?_ (hQ:=by exact fun _ _ _ h=>hQp _ _ _ _ _ h)
 rotate_left
 ·intro w' hSw;(try dsimp only at hSw);go_simp;try with_reducible rfl
 ·exact(hc _ hR.bel).2.1
 try simp only[Act.put,pA,pB,pC]
 refine wI0 4 (oi:=dnO4) (v:=?_) rfl ?_ ?_ (hQ:=by exact fun _ _ _ h=>hQp _ _ _ _ _ h)
 rotate_left
 ·intro w' _;go_simp;try with_reducible rfl
 try simp only[Act.put,pA,pB,pC]
 refine wI0 5 (oi:=dnO5) (v:=?_) rfl ?_ ?_ (hQ:=by exact fun _ _ _ h=>hQp _ _ _ _ _ h)
 rotate_left
 ·intro w' _;go_simp;try with_reducible rfl
 try simp only[Act.put,pA,pB,pC]
 refine wIL 2 6 (oi:=dnO6) (v:=?_) rfl rfl ?_ ?_ ?_ (hQ:=by exact fun _ _ _ h=>hQp _ _ _ _ _ h)
 rotate_left
 ·intro w' hSw;(try dsimp only at hSw);go_simp;try with_reducible rfl
 ·exact(hc _ hR.bel).2.2.1
 try simp only[Act.put,pA,pB,pC]
 refine wIL 3 7 (oi:=dnO7) (v:=?_) rfl rfl ?_ ?_ ?_ (hQ:=by exact fun _ _ _ h=>hQp _ _ _ _ _ h)
 rotate_left
 ·intro w' hSw;(try dsimp only at hSw);go_simp;try with_reducible rfl
 ·exact(hc _ hR.bel).2.2.2
 try simp only[Act.put,pA,pB,pC]
 refine wI0 8 (oi:=dnO8) (v:=?_) rfl ?_ ?_ (hQ:=by exact fun _ _ _ h=>hQp _ _ _ _ _ h)
 rotate_left
 ·intro w' _;go_simp;try with_reducible rfl
 try simp only[Act.put,pA,pB,pC]
 exact dn_ ⟨hQp,HS,hj,hc,hQ⟩ _ hR
end
end
structure DoIn (k:Tp.Wd) (al:List Tp.Ac):Prop where
 may:Tp.mayC k.c.W k.c.ep k.c.nu k.c.de=true
 tick:3<=k.tick/\k.tick<=1000000
 nn:k.n.length<=50
 all1:∀n∈k.n,(Tp.gH n).b.length<=1000000/\(Tp.gH n).v.length<=1000000
 all2:∀j,(Tp.all (k.n.take j)).b.length<=1000000/\(Tp.all (k.n.take j)).v.length<=1000000
 to1:∀i j,(((Tp.calls k al).take j).foldl (Tp.dH k i) (Tp.all k.n,k.o)).1.b.length<=1000000/\(((Tp.calls k al).take j).foldl (Tp.dH k i) (Tp.all k.n,k.o)).1.v.length<=1000000
 to2:∀i,(Tp.eY k al i).2.length<=1000000
 st:∀(i:Nat) (n:Tp.Nd),k.n[i]?=some n->(3<=n.tick/\n.tick<=1000000)/\(0<=n.c.rev/\n.c.rev<=1000000000)/\((Tp.join n.inn (Tp.only k.c (Tp.eY k al i).1)).b.length<=100000/\(Tp.join n.inn (Tp.only k.c (Tp.eY k al i).1)).v.length<=100000)/\∀o∈n.o++(Tp.eY k al i).2,o.v.b.length<=10000/\o.v.v.length<=10000
 out:∀j,(Tp.doO k al j).length<=900000
theorem OwnL.keepS {α:Type}{f:α->List Value}{q:Nat}{e:TypeId}{w w':World}{base G:Nat}{v:Value}{l:List α}(h:OwnL f q e w base v l)(hk:aC (· =G) w w')(hG:v.ownBlock≠some G):OwnL f q e w' base v l:=
 ⟨h.1,h.2.imp id (fun⟨g,cap,cur,hv,hg,hh,r⟩=>⟨g,cap,cur,hv,hg,(hk.block g (gS hh) (fun e=>hG (by rw[hv,<-e];rfl))).trans hh,r⟩)⟩
theorem SrR.store {F:Nat->Prop}{W W':World}{x:Tp.Nd×List Tp.Off}{s:SR}{g:Nat}{o:Obj}(h:SrR (fun b=>F b\/some g=some b) W x s)(T:cT g o W W'):SrR F W' x s:=
 ⟨h.nd.keepS (cL T rfl) (h.off g (.inr rfl)).1,h.told.keepS (cL T rfl) (h.off g (.inr rfl)).2,h.kt,fun b hb=>h.off b (.inl hb)⟩
def outC (r:RW) (k:Tp.Wd) (ba:Option Addr) (bn bc:Nat) (na:Option Addr) (nn nc:Nat) (oa:Option Addr) (on oc:Nat):List Value:=[.slice r.aw r.nw r.cw,.int .u64 k.c.sd,.int .i64 k.c.ep,.int .i64 k.c.nu,.int .i64 k.c.de,.slice ba bn bc,.int .i64 (r.tick+1),.slice na nn nc,.slice oa on oc]
class Old where
 bad:Nat->Prop
def lS (r:RW) (ns:List NE) (os:List (RO×Tp.Vw)) (b:Nat):Prop:=fR r.aw r.nw b/\fR r.ba r.bn b/\mP r.na r.nn ns b/\dM r.oa r.on os b
theorem WdR.keepS {w w':World}{r:RW}{ns:List NE}{os:List (RO×Tp.Vw)}{k:Tp.Wd}{X:Nat}(h:WdR w r ns os k)(hk:aC (· =X) w w')(ho:lS r ns os X):WdR w' r ns os k:=⟨h.conf.keepS hk ho.1,h.bad.keepS hk ho.2.1,h.bad0,h.badm,h.n.keepS hk ho.2.2.1,h.kn,h.o.keepS hk ho.2.2.2,h.ko,h.tick⟩
theorem WdR.away {w:World}{r:RW}{ns:List NE}{os:List (RO×Tp.Vw)}{k:Tp.Wd}{X:Nat}(h:WdR w r ns os k)(hX:w.heap.size<=X):lS r ns os X:=⟨h.conf.away hX,h.bad.away hX,h.n.away hX,h.o.away hX⟩
def FB [Old] (G6 N1:Nat) (vN vO:Value) (b:Nat):Prop:=b=G6\/b=N1\/vN.ownBlock=some b\/vO.ownBlock=some b\/Old.bad b
structure DoR [Old] (w6:World) (G6 N1:Nat) (r:RW) (k:Tp.Wd) (al:List Tp.Ac) (ba:Option Addr) (bn bc:Nat) (j:Nat) (na:Option Addr) (nn nc:Nat) (ls:List NE) (oa:Option Addr) (on oc:Nat) (lo:List (RO×Tp.Vw)) (wr:World):Prop where
 kp:aC (· =G6) w6 wr
 box:wr.heap[G6]?=some (.cells (outC r k ba bn bc na nn nc oa on oc).toArray 32 (0,0))
 g6:G6<w6.heap.size/\N1<w6.heap.size
 ownN:OwnL aT 12 44 wr w6.heap.size (m63 na nn nc) (ls.map NE.r)
 ownO:OwnL offC 9 112 wr w6.heap.size (m63 oa on oc) (lo.map Prod.fst)
 ne:∀g,(Value.slice na nn nc).ownBlock=some g->(Value.slice oa on oc).ownBlock≠some g
 nd:∀p∈ls,NdR wr p.r p.os p.k/\∀b,FB G6 N1 (m63 na nn nc) (m63 oa on oc) b->gU p.r p.os b
 of:∀p∈lo,VwR wr p.1.v p.2/\p.1.b.U/\∀b,FB G6 N1 (m63 na nn nc) (m63 oa on oc) b->p.1.v.Off b
 eqN:ls.map NE.k=(Tp.doN k al).take j
 eqO:lo.map aS=Tp.doO k al j
 old:∀b,Old.bad b->b<w6.heap.size
section
variable [Old]{w6 wr w7 W1 W2 W3:World}{G6 N1:Nat}{r:RW}{k:Tp.Wd}{al:List Tp.Ac}{ba:Option Addr}{bn bc:Nat}{j:Nat}{na:Option Addr}{nn nc:Nat}{ls:List NE}{oa:Option Addr}{on oc:Nat}{lo:List (RO×Tp.Vw)}
theorem DoR.keep (h:DoR w6 G6 N1 r k al ba bn bc j na nn nc ls oa on oc lo wr)(hb:Below wr.heap.size wr w7):DoR w6 G6 N1 r k al ba bn bc j na nn nc ls oa on oc lo w7:=
 ⟨h.kp.thenB (hb.mono h.kp.size),bK hb h.box,h.g6,h.ownN.keep hb,h.ownO.keep hb,h.ne,fun p hp=>⟨(h.nd p hp).1.keep hb,(h.nd p hp).2⟩,fun p hp=>⟨(h.of p hp).1.keep hb,(h.of p hp).2⟩,h.eqN,h.eqO,h.old⟩
theorem DoR.lt (h:DoR w6 G6 N1 r k al ba bn bc j na nn nc ls oa on oc lo wr):∀b,FB G6 N1 (m63 na nn nc) (m63 oa on oc) b->b<wr.heap.size:=by
 rintro b (e|e|e|e|e)
 ·rw[e];exact Nat.lt_of_lt_of_le h.g6.1 h.kp.size
 ·rw[e];exact Nat.lt_of_lt_of_le h.g6.2 h.kp.size
 ·exact(h.ownN.lt b e).2
 ·exact(h.ownO.lt b e).2
 ·exact Nat.lt_of_lt_of_le (h.old b e) h.kp.size
theorem DoR.keep0 (h:DoR w6 G6 N1 r k al ba bn bc j na nn nc ls oa on oc lo w7){g:Nat}{o:Obj}(T:cT g o w7 W1){w8:World}(hg:w8.heap.size<=g)(hlt:∀b,FB G6 N1 (m63 na nn nc) (m63 oa on oc) b->b<w8.heap.size)(hnd:∀p∈ls,gU p.r p.os g)(hof:∀p∈lo,p.1.v.Off g)(h68:w6.heap.size<=w8.heap.size):DoR w6 G6 N1 r k al ba bn bc j na nn nc ls oa on oc lo W1:=by
 have ne:∀b,FB G6 N1 (m63 na nn nc) (m63 oa on oc) b->b≠g:=fun b hb=>by have:=hlt b hb;omega
 have kT:=cL (S:=(· =g)) T rfl
 exact⟨h.kp.thenB (T.below (by omega)),(T.block G6 (ne G6 (.inl rfl))).trans h.box,h.g6,h.ownN.turnNe T (fun e=>ne g (.inr (.inr (.inl e))) rfl),h.ownO.turnNe T (fun e=>ne g (.inr (.inr (.inr (.inl e)))) rfl),h.ne,fun p hp=>⟨(h.nd p hp).1.keepS kT (hnd p hp),(h.nd p hp).2⟩,fun p hp=>⟨(h.of p hp).1.keepS kT (hof p hp),(h.of p hp).2⟩,h.eqN,h.eqO,h.old⟩
theorem DoR.push (h:DoR w6 G6 N1 r k al ba bn bc j na nn nc ls oa on oc lo w7){s:SR}{x:Tp.Nd×List Tp.Off}(hs:SrR (FB G6 N1 (m63 na nn nc) (m63 oa on oc)) w7 x s)(h1:Below w7.heap.size w7 W1){vN vO:Value}(hN:OwnL aT 12 44 W2 w6.heap.size vN (ls.map NE.r++[s.r]))(gN:W1.grownBy W2 (Value.slice na nn nc).ownBlock)(aN:vN.ownBlock=(Value.slice na nn nc).ownBlock\/vN.ownBlock=some W1.heap.size)(hO:OwnL offC 9 112 W3 w6.heap.size vO (lo.map Prod.fst++s.ts.map Prod.fst))(gO:W2.grownBy W3 (Value.slice oa on oc).ownBlock)(aO:vO.ownBlock=(Value.slice oa on oc).ownBlock\/vO.ownBlock=some W2.heap.size)(eN:(Tp.doN k al).take (j+1)=(Tp.doN k al).take j++[x.1])(eO:Tp.doO k al (j+1)=Tp.doO k al j++x.2):
  ∃na' nn' nc' oa' on' oc',vN=.slice na' nn' nc'/\vO=.slice oa' on' oc'/\W3.heap[G6]?=some (.cells (outC r k ba bn bc na nn nc oa on oc).toArray 32 (0,0))/\
   DoR w6 G6 N1 r k al ba bn bc (j+1) na' nn' nc' (ls++[⟨s.r,s.os,x.1⟩]) oa' on' oc' (lo++s.ts) ((W3.setCell (m36 G6) vN).setCell (m60 G6) vO):=by
 have hk:=h.keep h1
 have hs1:=hs.keep h1
 obtain⟨G,kG,hG⟩:=dV gN
 obtain⟨H,kH,hH⟩:=dV gO
 have s1:w7.heap.size<=W1.heap.size:=h1.size
 have s2:W1.heap.size<=W2.heap.size:=kG.size
 have s6:w6.heap.size<=W1.heap.size:=hk.kp.size
 -- rows that are there at W1 are off both blocks
 have offN:∀(q:Nat->Prop),(∀b,FB G6 N1 (m63 na nn nc) (m63 oa on oc) b->q b)->(∀b,W1.heap.size<=b->q b)->q G/\q H:=fun q h2 h3=>by
  refine⟨?_,?_⟩
  ·rcases hG with e|e
   ·exact h2 G (.inr (.inr (.inl e)))
   ·exact h3 G (by omega)
  ·rcases hH with e|e
   ·exact h2 H (.inr (.inr (.inr (.inl e))))
   ·exact h3 H (by omega)
 have hGw:w6.heap.size<=G:=by
  rcases hG with e|e
  ·exact(h.ownN.lt G e).1
  ·omega
 have hHw:w6.heap.size<=H:=by
  rcases hH with e|e
  ·exact(h.ownO.lt H e).1
  ·omega
 have gl:G6<W1.heap.size:=Nat.lt_of_lt_of_le h.g6.1 s6
 have b2:W2.heap[G6]?=W1.heap[G6]?:=kG.block G6 gl (fun e=>by have:=h.g6.1;omega)
 have b3:W3.heap[G6]?=W2.heap[G6]?:=kH.block G6 (Nat.lt_of_lt_of_le gl s2) (fun e=>by have:=h.g6.1;omega)
 have bx3:=(b3.trans b2).trans hk.box
 -- what the new own blocks are
 have nN:∀b,vN.ownBlock=some b->(Value.slice na nn nc).ownBlock=some b\/b=W1.heap.size:=fun b e=>aN.elim (fun e2=>.inl (e2.symm.trans e)) (fun e2=>.inr (by rw[e2]at e;injection e with e;exact e.symm))
 have nO:∀b,vO.ownBlock=some b->(Value.slice oa on oc).ownBlock=some b\/b=W2.heap.size:=fun b e=>aO.elim (fun e2=>.inl (e2.symm.trans e)) (fun e2=>.inr (by rw[e2]at e;injection e with e;exact e.symm))
 have neNH:vN.ownBlock≠some H:=fun e=>by
  rcases nN H e with e2|e2
  ·rcases hH with e3|e3
   ·exact h.ne H e2 e3
   ·have:=(hk.ownN.lt H e2).2;omega
  ·rcases hH with e3|e3
   ·have:=(hk.ownO.lt H e3).2;omega
   ·have:=(hN.lt H e).2;omega
 obtain⟨na',nc',hvN,slN,zN⟩:=hN.sl0 cS
 obtain⟨oa',oc',hvO,slO,zO⟩:=hO.sl0 dW
 have T:=cM [vN,vO] 7 _ _ bx3 (by show(9:Nat)<=9;omega)
 have kT:=cL (S:=(· =G6)) T rfl
 have FBn:∀b,FB G6 N1 vN vO b->FB G6 N1 (m63 na nn nc) (m63 oa on oc) b\/W1.heap.size<=b:=by
  rintro b (e|e|e|e|e)
  ·exact .inl (.inl e)
  ·exact .inl (.inr (.inl e))
  ·exact(nN b e).imp (fun e=>.inr (.inr (.inl e))) (fun e=>by omega)
  ·exact(nO b e).imp (fun e=>.inr (.inr (.inr (.inl e)))) (fun e=>by omega)
  ·exact .inl (.inr (.inr (.inr (.inr e))))
 have bN:Below w6.heap.size W1 W2:=kG.below s6 (fun j e=>by rw[e];exact hGw)
 have bO:Below w6.heap.size W2 W3:=kH.below (Nat.le_trans s6 s2) (fun j e=>by rw[e];exact hHw)
 have g6N:vN.ownBlock≠some G6:=fun e=>by have:=(hN.lt G6 e).1;have:=h.g6.1;omega
 have g6O:vO.ownBlock≠some G6:=fun e=>by have:=(hO.lt G6 e).1;have:=h.g6.1;omega
 have hmN:(ls++[(⟨s.r,s.os,x.1⟩:NE)]).map NE.r=ls.map NE.r++[s.r]:=by rw[List.map_append];rfl
 have hmO:(lo++s.ts).map Prod.fst=lo.map Prod.fst++s.ts.map Prod.fst:=List.map_append ..
 have fG6:FB G6 N1 (m63 na nn nc) (m63 oa on oc) G6:=.inl rfl
 have all2:∀(p:RN) (os:List (RO×Tp.Vw)) (kd:Tp.Nd),NdR W1 p os kd->(∀b,FB G6 N1 (m63 na nn nc) (m63 oa on oc) b->gU p os b)->NdR ((W3.setCell (m36 G6) vN).setCell (m60 G6) vO) p os kd/\∀b,FB G6 N1 vN vO b->gU p os b:=fun p os kd hp ho=>by
  have hq:=offN (fun b=>gU p os b) ho (fun b hb=>hp.away hb)
  exact⟨((hp.keepS kG hq.1).keepS kH hq.2).keepS kT (ho G6 fG6),fun b hb=>(FBn b hb).elim (ho b) (fun e=>hp.away e)⟩
 have all3:∀(p:RV) (y:Tp.Vw),VwR W1 p y->(∀b,FB G6 N1 (m63 na nn nc) (m63 oa on oc) b->p.Off b)->VwR ((W3.setCell (m36 G6) vN).setCell (m60 G6) vO) p y/\∀b,FB G6 N1 vN vO b->p.Off b:=fun p y hp ho=>by
  have hq:=offN (fun b=>p.Off b) ho (fun b hb=>hp.away hb)
  exact⟨((hp.keepS kG hq.1).keepS kH hq.2).keepS kT (ho G6 fG6),fun b hb=>(FBn b hb).elim (ho b) (fun e=>hp.away e)⟩
 have hne:∀g,vN.ownBlock=some g->vO.ownBlock≠some g:=fun g e1 e2=>by
  rcases nN g e1 with e3|e3
  ·rcases nO g e2 with e4|e4
   ·exact h.ne g e3 e4
   ·have:=(hk.ownN.lt g e3).2;omega
  ·rcases nO g e2 with e4|e4
   ·have:=(hk.ownO.lt g e4).2;omega
   ·have:=(hN.lt g e1).2;omega
 have hoN:=(hN.keepS kH neNH).turnNe T g6N
 have hoO:=hO.turnNe T g6O
 rw[<-hmN]at hoN
 rw[<-hmO]at hoO
 have hbx:=T.new
 subst hvN
 subst hvO
 refine⟨na',_,nc',oa',_,oc',rfl,rfl,bx3,((hk.kp.thenB bN).thenB bO).trans kT,hbx,h.g6,hoN,hoO,hne,?_,?_,?_,?_,h.old⟩
 ·intro p hp
  rcases List.mem_append.1 hp with hp|hp
  ·exact all2 p.r p.os p.k (hk.nd p hp).1 (h.nd p hp).2
  ·rw[List.mem_singleton.1 hp]
   exact all2 s.r s.os x.1 hs1.nd (fun b hb=>(hs.off b hb).1)
 ·intro p hp
  rcases List.mem_append.1 hp with hp|hp
  ·exact⟨(all3 p.1.v p.2 (hk.of p hp).1 (h.of p hp).2.2).1,(h.of p hp).2.1,(all3 p.1.v p.2 (hk.of p hp).1 (h.of p hp).2.2).2⟩
  ·exact⟨(all3 p.1.v p.2 (hs1.told.vw p hp) (fun b hb=>(hs.off b hb).2.2 p hp)).1,hs.told.u p hp,(all3 p.1.v p.2 (hs1.told.vw p hp) (fun b hb=>(hs.off b hb).2.2 p hp)).2⟩
 ·rw[List.map_append,h.eqN,eN]
  try rfl
 ·rw[List.map_append,h.eqO,eO,hs.kt]
end
abbrev pnO0 :Oper:=⟨some 7,.load 25 (.tmp 2),25,"play.go:18",#[],none⟩
abbrev pnO1 :Oper:=⟨some 8,.move (.tmp 1),22,"play.go:18",#[],none⟩
abbrev pnO2 :Oper:=⟨some 9,.call ⟨.value (.func 22),#[.tmp 8],#[22]⟩,22,"play.go:18",#[⟨1,.data⟩],none⟩
abbrev pnO3 :Oper:=⟨some 10,.build 32 #[(0,.tmp 7),(1,.tmp 9)],32,"play.go:18",#[⟨0,.data⟩,⟨2,.data⟩],none⟩
abbrev pnO4 :Oper:=⟨some 5,.alloc 32,0,"play.go:18",#[],none⟩
abbrev pnO5 :Oper:=⟨none,.store 32 (.tmp 5) (.tmp 10),0,"play.go:18",#[⟨4,.data⟩,⟨3,.data⟩,⟨2,.chain⟩,⟨0,.phase⟩,⟨1,.phase⟩,⟨2,.phase⟩,⟨3,.phase⟩,⟨4,.phase⟩],none⟩
abbrev aCp :Array Oper:=#[pnO0,pnO1,pnO2,pnO3,pnO4,pnO5]
abbrev pnSL (M M4:Nat) (aw:Option Addr) (nw cw:Nat) (C:Tp.Cf) (ia:Option Addr) (in_ ic:Nat) (bad:List Int) (u0 u3:Value) (w1:World):List (Nat×(World->Prop)):=[(0,fun W=>W.cell? (m00 M)=some (.slice aw nw cw)/\W.cell? (m15 M)=some (.int .u64 C.sd)/\W.cell? (m25 M)=some (.int .i64 C.ep)/\W.cell? (m33 M)=some (.int .i64 C.nu)/\W.cell? (m35 M)=some (.int .i64 C.de))]
structure pnP (Q:Exit->Act->World->Prop) (M M4:Nat) (aw:Option Addr) (nw cw:Nat) (C:Tp.Cf) (ia:Option Addr) (in_ ic:Nat) (bad:List Int) (u0 u3:Value) (w1:World):Prop where
 hQp:∀(c:_) (a:Act) (d:Option Tmp) (v:Value) (w:World),Q (.panic c) (a.put d v) w->Q (.panic c) a w
 HO:Hid (SlV intC 1 w1 ia in_ ic bad/\in_<=1000000/\(ia=none->in_=0/\ic=0))
 hc:∀W:World,Below w1.heap.size w1 W->W.cell? (m00 M)=some (.slice aw nw cw)/\W.cell? (m15 M)=some (.int .u64 C.sd)/\W.cell? (m25 M)=some (.int .i64 C.ep)/\W.cell? (m33 M)=some (.int .i64 C.nu)/\W.cell? (m35 M)=some (.int .i64 C.de)
 hQ:∀g ba bn bc W,DmR w1 bad (some g) (some (.slice ba bn bc)) W->Q .normal { tmps:=#[u0,.slice ia in_ ic,.pointer (some (m00 M)),u3,.pointer (some (m00 M4)),.pointer (some (m00 g)),undef,.agg (m02 aw nw cw C),.slice ia in_ ic,.slice ba bn bc,.agg #[.slice aw nw cw,.int .u64 C.sd,.int .i64 C.ep,.int .i64 C.nu,.int .i64 C.de,.slice ba bn bc,.int .i64 0,.slice none 0 0,.slice none 0 0],undef,undef,undef,undef,undef,undef,undef,undef,undef,undef,undef,undef,undef,undef,undef,undef,undef,undef,undef,undef,undef,undef,undef,undef],defers:=[] } ((((m06 W g aw nw cw C ba bn bc:World).setCell (m39 g) (.int .i64 0)).setCell (m36 g) (m48)).setCell (m60 g) (m48))
section
variable {Q:Exit->Act->World->Prop}{M M4:Nat}{aw:Option Addr}{nw cw:Nat}{C:Tp.Cf}{ia:Option Addr}{in_ ic:Nat}{bad:List Int}{u0 u3:Value}{w1:World}
theorem aCo (PP:pnP Q M M4 aw nw cw C ia in_ ic bad u0 u3 w1)(ba:Option Addr)(bn bc:Nat)(g:Nat)(W:World)(hR:DmR w1 bad (some g) (some (.slice ba bn bc)) W):
  aB Tryz.prog .any aCp Q (pnSL M M4 aw nw cw C ia in_ ic bad u0 u3 w1) 1 #[true,true,true,true,true,false] { tmps:=#[u0,.slice ia in_ ic,.pointer (some (m00 M)),u3,.pointer (some (m00 M4)),.pointer (some (m00 g)),undef,.agg (m02 aw nw cw C),.slice ia in_ ic,.slice ba bn bc,.agg #[.slice aw nw cw,.int .u64 C.sd,.int .i64 C.ep,.int .i64 C.nu,.int .i64 C.de,.slice ba bn bc,.int .i64 0,.slice none 0 0,.slice none 0 0],undef,undef,undef,undef,undef,undef,undef,undef,undef,undef,undef,undef,undef,undef,undef,undef,undef,undef,undef,undef,undef,undef,undef,undef],defers:=[] } W:=by
 obtain⟨hQp,HO,hc,hQ⟩:=PP
 refine cK 5 (by kernel_rfl) rfl (fun K hK=>?_)
 have hgg:=(hR.aa _ rfl).1
 have c0:=cA hgg 0;have f0:=cH hgg 0
 have c1:=cA hgg 1;have f1:=cH hgg 1
 have c2:=cA hgg 2;have f2:=cH hgg 2
 have c3:=cA hgg 3;have f3:=cH hgg 3
 have c4:=cA hgg 4;have f4:=cH hgg 4
 have c5:=cA hgg 5;have f5:=cH hgg 5
 have c6:=cA hgg 6;have f6:=cH hgg 6
 have c7:=cA hgg 7;have f7:=cH hgg 7
 have c8:=cA hgg 8;have f8:=cH hgg 8
 clear hgg
 go_simp
 refine hK.out _ _ ?_ ?_
 ·exact⟨.inr (by kernel_rfl),trivial⟩
 clear hK K
 try simp only[Act.put,pA,pB,pC]
 refine cO (by kernel_rfl) ?_ _
 exact hQ g ba bn bc W hR
theorem aNm (PP:pnP Q M M4 aw nw cw C ia in_ ic bad u0 u3 w1)(ba:Option Addr)(bn bc:Nat)(W:World)(hR:DmR w1 bad none (some (.slice ba bn bc)) W):
  aB Tryz.prog .any aCp Q (pnSL M M4 aw nw cw C ia in_ ic bad u0 u3 w1) 2 #[true,true,true,true,false,false] { tmps:=#[u0,.slice ia in_ ic,.pointer (some (m00 M)),u3,.pointer (some (m00 M4)),undef,undef,.agg (m02 aw nw cw C),.slice ia in_ ic,.slice ba bn bc,.agg #[.slice aw nw cw,.int .u64 C.sd,.int .i64 C.ep,.int .i64 C.nu,.int .i64 C.de,.slice ba bn bc,.int .i64 0,.slice none 0 0,.slice none 0 0],undef,undef,undef,undef,undef,undef,undef,undef,undef,undef,undef,undef,undef,undef,undef,undef,undef,undef,undef,undef,undef,undef,undef,undef],defers:=[] } W:=by
 obtain⟨hQp,HO,hc,hQ⟩:=PP
 refine cJ [4] (by kernel_rfl) (by simp) ?_
 refine cD 4 rfl (fun K hK=>?_) ?_
 ·go_simp
  have hR2:=hR.m
  replace hR:=hR2
  clear hR2
  refine hK.out _ _ ?_ ?_
  ·exact⟨.inl (hc _ (hR.bel)),trivial⟩
  clear hK K
  try simp only[Act.put,pA,pB,pC]
  exact aCo ⟨hQp,HO,hc,hQ⟩ ba bn bc _ _ hR
 exact cE
theorem aNl (PP:pnP Q M M4 aw nw cw C ia in_ ic bad u0 u3 w1)(g:Nat)(W:World)(hR:DmR w1 bad (some g) none W):
  aB Tryz.prog .any aCp Q (pnSL M M4 aw nw cw C ia in_ ic bad u0 u3 w1) 3 #[true,true,false,false,true,false] { tmps:=#[u0,.slice ia in_ ic,.pointer (some (m00 M)),u3,.pointer (some (m00 M4)),.pointer (some (m00 g)),undef,.agg (m02 aw nw cw C),.slice ia in_ ic,undef,undef,undef,undef,undef,undef,undef,undef,undef,undef,undef,undef,undef,undef,undef,undef,undef,undef,undef,undef,undef,undef,undef,undef,undef,undef],defers:=[] } W:=by
 obtain⟨hQp,HO,hc,hQ⟩:=PP
 refine cJ [2] (by kernel_rfl) (by simp) ?_
 refine cD 2 rfl (fun K hK=>?_) ?_
 ·go_simp
  refine(eZ ia in_ ic bad W (HO.out.1.below hR.bel nr) HO.out.2.1 HO.out.2.2).mono ?_;rintro e W2 ⟨v,rfl,own,hb⟩
  obtain⟨ba,bc,hv,-,-⟩:=OwnL.sl0 (f:=intC) (k:=1) (fun _=>rfl) own
  obtain⟨bn,hbn⟩:∃z,bad.length=z:=⟨_,rfl⟩
  rw[hbn]at hv
  subst hv
  clear hbn
  have hR2:=hR.call hb own
  replace hR:=hR2
  clear hR2 hb own
  refine hK.out _ _ ?_ ?_
  ·exact⟨.inl (hc _ (hR.bel)),trivial⟩
  clear hK K
  try simp only[Act.put,pA,pB,pC]
  refine wI0 3 (oi:=pnO3) (v:=?_) rfl ?_ ?_ (hQ:=by exact fun _ _ _ h=>hQp _ _ _ _ _ h)
  rotate_left
  ·intro w' _;go_simp;try with_reducible rfl
  try simp only[Act.put,pA,pB,pC]
  exact aCo ⟨hQp,HO,hc,hQ⟩ ba bn bc g _ hR
 exact cE
theorem pn_ (PP:pnP Q M M4 aw nw cw C ia in_ ic bad u0 u3 w1)(W:World)(hR:DmR w1 bad none none W):
  aB Tryz.prog .any aCp Q (pnSL M M4 aw nw cw C ia in_ ic bad u0 u3 w1) 4 #[true,true,false,false,false,false] { tmps:=#[u0,.slice ia in_ ic,.pointer (some (m00 M)),u3,.pointer (some (m00 M4)),undef,undef,.agg (m02 aw nw cw C),.slice ia in_ ic,undef,undef,undef,undef,undef,undef,undef,undef,undef,undef,undef,undef,undef,undef,undef,undef,undef,undef,undef,undef,undef,undef,undef,undef,undef,undef],defers:=[] } W:=by
 obtain⟨hQp,HO,hc,hQ⟩:=PP
 refine cJ [2,4] (by kernel_rfl) (by simp) ?_
 refine cD 2 rfl (fun K hK=>?_) ?_
 ·go_simp
  refine(eZ ia in_ ic bad W (HO.out.1.below hR.bel nr) HO.out.2.1 HO.out.2.2).mono ?_;rintro e W2 ⟨v,rfl,own,hb⟩
  obtain⟨ba,bc,hv,-,-⟩:=OwnL.sl0 (f:=intC) (k:=1) (fun _=>rfl) own
  obtain⟨bn,hbn⟩:∃z,bad.length=z:=⟨_,rfl⟩
  rw[hbn]at hv
  subst hv
  clear hbn
  have hR2:=hR.call hb own
  replace hR:=hR2
  clear hR2 hb own
  refine hK.out _ _ ?_ ?_
  ·exact⟨.inl (hc _ (hR.bel)),trivial⟩
  clear hK K
  try simp only[Act.put,pA,pB,pC]
  refine wI0 3 (oi:=pnO3) (v:=?_) rfl ?_ ?_ (hQ:=by exact fun _ _ _ h=>hQp _ _ _ _ _ h)
  rotate_left
  ·intro w' _;go_simp;try with_reducible rfl
  try simp only[Act.put,pA,pB,pC]
  exact aNm ⟨hQp,HO,hc,hQ⟩ ba bn bc _ hR
 refine cD 4 rfl (fun K hK=>?_) ?_
 ·go_simp
  have hR2:=hR.m
  replace hR:=hR2
  clear hR2
  refine hK.out _ _ ?_ ?_
  ·exact⟨.inl (hc _ (hR.bel)),trivial⟩
  clear hK K
  try simp only[Act.put,pA,pB,pC]
  exact aNl ⟨hQp,HO,hc,hQ⟩ _ _ hR
 exact cE
theorem aCn (PP:pnP Q M M4 aw nw cw C ia in_ ic bad u0 u3 w1)(hR:DmR w1 bad none none w1.drew):(Code.region 1 aCp true).wp Tryz.prog Q { tmps:=#[u0,.slice ia in_ ic,.pointer (some (m00 M)),u3,.pointer (some (m00 M4)),undef,undef,undef,undef,undef,undef,undef,undef,undef,undef,undef,undef,undef,undef,undef,undef,undef,undef,undef,undef,undef,undef,undef,undef,undef,undef,undef,undef,undef,undef],defers:=[] } w1:=by
 obtain⟨hQp,HO,hc,hQ⟩:=PP
 refine cN (pnSL M M4 aw nw cw C ia in_ ic bad u0 u3 w1) (by kernel_rfl) ?_
 generalize w1.drew=W at hR⊢
 show aB _ _ _ _ _ 6 #[false,false,false,false,false,false] _ _
 refine wIL 0 0 (oi:=pnO0) (v:=?_) rfl rfl ?_ ?_ ?_ (hQ:=by exact fun _ _ _ h=>hQp _ _ _ _ _ h)
 rotate_left
 ·intro w' hSw;(try dsimp only at hSw);go_simp;try with_reducible rfl
 ·exact(hc _ hR.bel)
 try simp only[Act.put,pA,pB,pC]
 refine wI0 1 (oi:=pnO1) (v:=?_) rfl ?_ ?_ (hQ:=by exact fun _ _ _ h=>hQp _ _ _ _ _ h)
 rotate_left
 ·intro w' _;go_simp;try with_reducible rfl
 try simp only[Act.put,pA,pB,pC]
 exact pn_ ⟨hQp,HO,hc,hQ⟩ _ hR
end
def newE (i:Int):NE:=⟨⟨i,3,⟨none,0,0,none,0,0⟩,⟨none,0,0,none,0,0⟩,none,0,0,0,0,0,0,false⟩,[],Tp.newN i⟩
theorem nilV (w:World):VwR w ⟨none,0,0,none,0,0⟩ ⟨[],[]⟩:=⟨⟨SlV.nil _,SlV.nil _,fun y hy=>(by cases hy),Nat.zero_le _,Nat.zero_le _⟩,fun _=>⟨rfl,rfl⟩,fun _=>⟨rfl,rfl⟩⟩
theorem aDc (i:Int)(w:World):NdR w (newE i).r (newE i).os (newE i).k:=⟨nilV w,nilV w,dD.none w,rfl,rfl,rfl,rfl,rfl⟩
def Tp.iJ (bad:List Int) (j:Nat):List Nat:=(List.range j).filter (fun i:Nat=>!Tp.has bad (i:Int))
theorem Tp.vW (bad:List Int)(j:Nat):Tp.iJ bad (j+1)=Tp.iJ bad j++(if Tp.has bad (j:Int)then[]else[j]):=by
 unfold Tp.iJ
 rw[List.range_succ,List.filter_append]
 congr 1
 cases h:Tp.has bad (j:Int)<;>simp[h]
theorem Tp.pW (bad:List Int)(j:Nat):(Tp.iJ bad j).length<=j:=by
 unfold Tp.iJ
 exact Nat.le_trans (List.length_filter_le _ _) (by simp)
structure NewR (w6:World) (G:Nat) (aw:Option Addr) (nw cw:Nat) (C:Tp.Cf) (bad:List Int) (ba:Option Addr) (bn bc:Nat) (j:Nat) (na:Option Addr) (nn nc:Nat) (wr:World):Prop where
 kp:aC (· =G) w6 wr
 box:wr.heap[G]?=some (.cells #[.slice aw nw cw,.int .u64 C.sd,.int .i64 C.ep,.int .i64 C.nu,.int .i64 C.de,.slice ba bn bc,.int .i64 3,.slice na nn nc,.slice none 0 0] 32 (0,0))
 g:G<w6.heap.size
 own:OwnL aT 12 44 wr w6.heap.size (m63 na nn nc) ((Tp.iJ bad j).map (fun i:Nat=>(newE (i:Int)).r))
theorem NewR.keep {w6:World}{G:Nat}{aw:Option Addr}{nw cw:Nat}{C:Tp.Cf}{bad:List Int}{ba:Option Addr}{bn bc:Nat}{j:Nat}{na:Option Addr}{nn nc:Nat}{wr w':World}(h:NewR w6 G aw nw cw C bad ba bn bc j na nn nc wr)(hb:Below wr.heap.size wr w'):NewR w6 G aw nw cw C bad ba bn bc j na nn nc w':=
 ⟨h.kp.thenB (hb.mono h.kp.size),bK hb h.box,h.g,h.own.keep hb⟩
theorem qX (aw:Option Addr)(nw cw:Nat)(C:Tp.Cf)(ia:Option Addr)(in_ ic:Nat)(bad:List Int)(w:World)(hC:aP w aw nw C.W C.sd)(hm:Tp.mayC C.W C.ep C.nu C.de=true)(hnw:nw<=1000)(hb:SlV intC 1 w ia in_ ic bad)(hbm:in_<=1000000)(hb0:ia=none->in_=0/\ic=0):
  Calls Tryz.prog 8 #[.agg (m02 aw nw cw C),.slice ia in_ ic] w fun e w'=>∃r' ns',e=.returned (.agg (aR r' C).toArray)/\WdR w' r' ns' [] (Tp.newW C bad)/\(ns'=(Tp.iJ bad C.W.length).map (fun i:Nat=>newE (i:Int))/\r'.oa=none/\r'.on=0/\r'.oc=0)/\Below w.heap.size w w':=by
 have HC:=zH hC
 have HM:=zH hm
 have HB:=zH (And.intro hb (And.intro hbm hb0))
 have hlw:C.W.length=nw:=hC.len
 have hb2:Below w.heap.size w ((w.alloc (.cells (m02 aw nw cw C) 25)).alloc (.cells (m21) 32)):=cR _ _
 have hbw:((w.alloc (.cells (m02 aw nw cw C) 25)).alloc (.cells (m21) 32)).heap[w.heap.size]?=some (.cells (m02 aw nw cw C) 25 (0,0)):=by rw[cF,if_neg (by simp),cF,if_pos rfl]
 have hb4:((w.alloc (.cells (m02 aw nw cw C) 25)).alloc (.cells (m21) 32)).heap[w.heap.size+1]?=some (.cells (m21) 32 (0,0)):=by rw[cF,if_pos (by simp)]
 clear hC hm hb hbm hb0
 go_enter Tryz.func8,Tryz.ntmps8
 go_wp2_with fail
 generalize((w.alloc (.cells (m02 aw nw cw C) 25)).alloc (.cells (m21) 32))=w2 at hb2 hbw hb4⊢
 have D2:=zH hb2
 have HBW:=zH hbw
 have HB4:=zH hb4
 clear hb2 hbw hb4
 refine aCn (M:=w.heap.size) (M4:=w.heap.size+1) (aw:=aw) (nw:=nw) (cw:=cw) (C:=C) (bad:=bad) ⟨fun _ _ d _ _ h=>by cases d<;>exact h,zH ⟨HB.out.1.keep D2.out,HB.out.2.1,HB.out.2.2⟩,fun W hb=>by
  have e:=bK hb HBW.out
  exact⟨cA e 0,cA e 1,cA e 2,cA e 3,cA e 4⟩,?_⟩ DmR.start
 intro G ba bn bc W hR
 have hgg:=hR.aa G rfl
 have hcl:=hR.cl _ rfl
 have T:=cM [.slice aw nw cw,.int .u64 C.sd,.int .i64 C.ep,.int .i64 C.nu,.int .i64 C.de,.slice ba bn bc,.int .i64 0,.slice none 0 0,.slice none 0 0] 0 _ _ hgg.1 (by show(9:Nat)<=9;omega)
 have hg6:w2.heap.size<=G:=hgg.2
 have l4:=(gS HB4.out)
 have BX:Hid (((((m06 W G aw nw cw C ba bn bc:World).setCell (m39 G) (.int .i64 0)).setCell (m36 G) (m48)).setCell (m60 G) (m48)).heap[G]?=some (.cells #[.slice aw nw cw,.int .u64 C.sd,.int .i64 C.ep,.int .i64 C.nu,.int .i64 C.de,.slice ba bn bc,.int .i64 0,.slice none 0 0,.slice none 0 0] 32 (0,0))):=zH T.new
 have D26:Hid (Below w2.heap.size w2 ((((m06 W G aw nw cw C ba bn bc:World).setCell (m39 G) (.int .i64 0)).setCell (m36 G) (m48)).setCell (m60 G) (m48))):=zH (hR.bel.trans (T.below hg6))
 have HOB:=zH (show OwnL intC 1 3 ((((m06 W G aw nw cw C ba bn bc:World).setCell (m39 G) (.int .i64 0)).setCell (m36 G) (m48)).setCell (m60 G) (m48)) w2.heap.size (m63 ba bn bc) bad from hcl.1.turnNe T (hcl.2 G rfl))
 have HBN:Hid ((Value.slice ba bn bc).ownBlock≠some G/\∀g,(Value.slice ba bn bc).ownBlock=some g->w2.heap.size<=g):=zH ⟨hcl.2 G rfl,fun g e=>(hcl.1.lt g e).1⟩
 clear hR hgg hcl T
 generalize((((m06 W G aw nw cw C ba bn bc:World).setCell (m39 G) (.int .i64 0)).setCell (m36 G) (m48)).setCell (m60 G) (m48))=w6 at BX D26 HOB⊢
 have D6:=zH (bS D2.out D26.out)
 have HBW6:=zH (bK D26.out HBW.out)
 obtain⟨x0,x1,x2,x3,x4⟩:=kc5 HBW6.out
 try dsimp only
 go_wp2_with fail
 refine(dB aw nw cw C.W C.sd C.ep C.nu C.de w6 HC.out.len HC.out.max (HC.out.below D6.out nr).ints).mono ?_
 rintro e w7 ⟨rfl,hb7⟩
 rw[HM.out]
 have h7:=bK hb7 BX.out
 have y6:w7.cell? (m39 G)=some (.int .i64 0):=cA h7 6
 have f6:=cH h7 6
 have T:=cM [.int .i64 3] 6 _ _ h7 (by show(7:Nat)<=9;omega)
 have hbw8:=(T.block w.heap.size (by omega)).trans (bK hb7 HBW6.out)
 have x8:(w7.setCell (m39 G) (.int .i64 3)).cell? (m07 w)=some (.slice aw nw cw):=cA hbw8 0
 have hgl:G<(w7.setCell (m39 G) (.int .i64 3)).heap.size:=(gS T.new)
 have HS:Hid (NewR (w7.setCell (m39 G) (.int .i64 3)) G aw nw cw C bad ba bn bc 0 none 0 0 (w7.setCell (m39 G) (.int .i64 3))):=zH ⟨aC.refl _ _,T.new,hgl,OwnL.nil _ _ _ _ _⟩
 have D8:=zH (show Below w.heap.size w (w7.setCell (m39 G) (.int .i64 3))from(bS D6.out hb7).trans (T.below (by have:=D2.out.size;omega)))
 have HOB8:=zH (show OwnL intC 1 3 (w7.setCell (m39 G) (.int .i64 3)) w2.heap.size (m63 ba bn bc) bad from(HOB.out.keep hb7).turnNe T HBN.out.1)
 have HB48:=zH (show(w7.setCell (m39 G) (.int .i64 3)).heap[w.heap.size+1]?=some (.cells (m21) 32 (0,0))from(T.block (w.heap.size+1) (by omega)).trans (cG hb7 (Nat.lt_of_lt_of_le l4 D26.out.size) (cG D26.out l4 HB4.out)))
 clear x0 x1 x2 x3 x4 T h7 hbw8
 try dsimp only
 go_wp2_with fail
 generalize w7.setCell (m39 G) (.int .i64 3)=w8 at HS D8 HOB8 HB48 x8 hgl⊢
 clear x8 y6 f6
 go_loopw [19] (fun i_ wr=>∃(j:Nat) (na:Option Addr) (nn nc:Nat),j<=nw/\i_=.int .i64 j/\NewR w8 G aw nw cw C bad ba bn bc j na nn nc wr) (fun i_ _=>nw-(intOf i_).toNat)
 case atStart=>exact⟨0,none,0,0,Nat.zero_le _,rfl,HS.out⟩
 case round=>
  clear HS
  obtain⟨j,na,nn,nc,hj,rfl,hR⟩:=hrel
  by_cases hjn:j<nw
  case neg=>
   obtain rfl:j=nw:=by omega
   have HR:=zH hR
   have l48:w.heap.size+1<w8.heap.size:=(gS HB48.out)
   have hb46:=(hR.kp.block (w.heap.size+1) l48 (fun e=>by omega)).trans HB48.out
   obtain⟨o0,o1,o2,o3,o4,o5,o6,o7,o8⟩:=kc9 hR.box
   obtain⟨z0,z1,z2,z3,z4,z5,z6,z7,z8⟩:=kc9 hb46
   obtain⟨f0,f1,f2,f3,f4,f5,f6,f7,f8⟩:=kf9 hb46
   have T:=cM [.slice aw j cw,.int .u64 C.sd,.int .i64 C.ep,.int .i64 C.nu,.int .i64 C.de,.slice ba bn bc,.int .i64 3,.slice na nn nc,.slice none 0 0] 0 _ _ hb46 (by show(9:Nat)<=9;omega)
   have kT:=cL (S:=(· =w.heap.size+1)) T rfl
   have g9:((((m50 wr w aw j cw C ba bn bc:World).setCell ⟨w.heap.size+1,6,none⟩ (.int .i64 3)).setCell ⟨w.heap.size+1,7,none⟩ (m63 na nn nc)).setCell ⟨w.heap.size+1,8,none⟩ (m48)).heap[w.heap.size+1]?=some (.cells (aR ⟨aw,j,cw,ba,bn,bc,3,na,nn,nc,none,0,0⟩ C).toArray 32 (0,0)):=T.new
   have hbr:Below w.heap.size w wr:=D8.out.trans (hR.kp.below D8.out.size (fun j e=>by rw[e];have:=D2.out.size;omega))
   have sN:=cP cS (hR.own.turnNe T (fun e=>by have:=(hR.own.lt _ e).1;omega))
   have sB:=cP (f:=intC) (k:=1) (fun _=>rfl) ((HOB8.out.keepS hR.kp HBN.out.1).turnNe T (fun e=>by have:=HBN.out.2 _ e;omega))
   have hgl2:=Tp.pW bad j
   have HF:Hid (WdR ((((m50 wr w aw j cw C ba bn bc:World).setCell ⟨w.heap.size+1,6,none⟩ (.int .i64 3)).setCell ⟨w.heap.size+1,7,none⟩ (m63 na nn nc)).setCell ⟨w.heap.size+1,8,none⟩ (m48)) ⟨aw,j,cw,ba,bn,bc,3,na,nn,nc,none,0,0⟩ ((Tp.iJ bad j).map (fun i:Nat=>newE (i:Int))) [] (Tp.newW C bad)):=zH ⟨(HC.out.below hbr nr).keepS kT (HC.out.away (Nat.le_succ _)),sB.1,sB.2,by
     show bn<=1000000
     have h1:=sB.1.len
     have h2:=HB.out.1.len
     have h3:=HB.out.2.1
     omega,⟨by rw[List.map_map];exact sN.1,sN.2,fun p hp=>by
      obtain⟨i,-,rfl⟩:=List.mem_map.1 hp
      exact aDc _ _,by
      show nn<=1000000
      have h1:=sN.1.len
      rw[List.length_map]at h1
      omega⟩,by
     show((List.range C.W.length).filter (fun i:Nat=>!Tp.has bad (i:Int))).map (fun i:Nat=>Tp.newN (i:Int))=_
     rw[hlw,List.map_map]
     rfl,dD.none _,rfl,rfl⟩
   have HBF:Hid (Below w.heap.size w ((((m50 wr w aw j cw C ba bn bc:World).setCell ⟨w.heap.size+1,6,none⟩ (.int .i64 3)).setCell ⟨w.heap.size+1,7,none⟩ (m63 na nn nc)).setCell ⟨w.heap.size+1,8,none⟩ (m48))):=zH (hbr.trans (T.below (Nat.le_succ _)))
   have G9:=zH g9
   clear hR T kT g9 sN sB hbr hb46
   try dsimp only
   go_wp2_with fail
   generalize((((m50 wr w aw j cw C ba bn bc:World).setCell ⟨w.heap.size+1,6,none⟩ (.int .i64 3)).setCell ⟨w.heap.size+1,7,none⟩ (m63 na nn nc)).setCell ⟨w.heap.size+1,8,none⟩ (m48))=W9 at HF HBF G9⊢
   have g9:=G9.out
   obtain⟨e0,e1,e2,e3,e4,e5,e6,e7,e8⟩:=kc9 g9
   clear g9
   refine bodyPost_ret (v:=.agg #[.slice aw j cw,.int .u64 C.sd,.int .i64 C.ep,.int .i64 C.nu,.int .i64 C.de,.slice ba bn bc,.int .i64 3,.slice na nn nc,.slice none 0 0]) ?_ rfl ⟨⟨aw,j,cw,ba,bn,bc,3,na,nn,nc,none,0,0⟩,_,rfl,HF.out,⟨by rw[hlw],rfl,rfl,rfl⟩,HBF.out⟩
   simp[results,Tryz.results8,go_sem,e0,e1,e2,e3,e4,e5,e6,e7,e8]
  have HR:=zH hR
  have HBAD:=zH (HB.out.1.below (D8.out.trans (hR.kp.below D8.out.size (fun j e=>by rw[e];have:=D2.out.size;omega))) nr)
  have j0:(0:Int)<=j:=by omega
  have j1:(j:Int)<nw:=by omega
  obtain⟨tb,htb⟩:∃z,Tp.has bad (j:Int)=z:=⟨_,rfl⟩
  have hsc:=Tp.vW bad j
  rw[htb]at hsc
  have HTB:=zH htb
  have HSC:=zH hsc
  clear hR htb hsc
  cases tb with
  |true=>
   have HN:Hid (NewR w8 G aw nw cw C bad ba bn bc (j+1) na nn nc wr):=zH ⟨HR.out.kp,HR.out.box,HR.out.g,by rw[HSC.out];simpa using HR.out.own⟩
   go_wp2_with (go_at_call 24;refine(bW ia in_ ic bad j _ HBAD.out).mono ?_;rintro e w' ⟨rfl,rfl⟩;rw[HTB.out])
   exact⟨⟨j+1,na,nn,nc,by omega,by go_num,HN.out⟩,by simp[intOf];omega⟩
  |false=>
   go_wp2_with (go_at_call 24;refine(bW ia in_ ic bad j _ HBAD.out).mono ?_;rintro e w' ⟨rfl,rfl⟩;rw[HTB.out])
   obtain⟨i0,hi0,hz0,hz1,hz2⟩:=info_parts rF
   refine cN [(1,fun W=>W.cell? (m36 G)=some (.slice na nn nc))] (by kernel_rfl) ?_
   show aB _ _ _ _ _ _ _ _ wr.drew
   have HR0:=zH (HR.out.keep (Below.refl wr.heap.size wr).drew)
   generalize wr.drew=w9 at HR0⊢
   have hq:w9.cell? (m36 G)=some (.slice na nn nc):=cA HR0.out.box 7
   refine wX 0 rfl ?_
   refine wY 0 1 rfl rfl (hq) ?_
   refine wX 2 rfl ?_
   refine cK 3 (by kernel_rfl) rfl (fun K hK=>?_)
   go_simp
   refine(vL j w9).mono ?_
   rintro e w10 ⟨rfl,hb10⟩
   have HR10:=zH (HR0.out.keep hb10)
   have hq10:w10.cell? (m36 G)=some (.slice na nn nc):=cA HR10.out.box 7
   simp only[RN.val,aT]
   clear hb10
   refine hK.out _ _ ?_ ?_
   ·exact⟨.inl hq10,trivial⟩
   clear hK K;try simp only[Act.put,pA,pB,pC]
   refine cK 4 (by kernel_rfl) rfl (fun K hK=>?_)
   go_simp
   have hal:Below w10.heap.size w10 (w10.alloc (.cells (m57 j) 44)):=(Below.refl _ _).alloc nr _
   have hn11:(w10.alloc (.cells (m57 j) 44)).heap[w10.heap.size]?=some (.cells (aT (newE (j:Int)).r).toArray 44 (0,0)):=heap_alloc_new w10 _
   have hs11:w10.heap.size<(w10.alloc (.cells (m57 j) 44)).heap.size:=by simp
   have HR11:=zH (HR10.out.keep hal)
   generalize w10.alloc (.cells (m57 j) 44)=w11 at hal hn11 hs11 HR11⊢
   have hq11:w11.cell? (m36 G)=some (.slice na nn nc):=cA HR11.out.box 7
   refine hK.out _ _ ?_ ?_
   ·exact⟨.inl hq11,trivial⟩
   clear hK K;try simp only[Act.put,pA,pB,pC]
   refine cK 5 (by kernel_rfl) rfl (fun K hK=>?_)
   rw[if_pos (by rfl)]
   have hgj:=Tp.pW bad j
   refine dN (f:=aT) (k:=12) (.tmp 27) (.tmp 30) 29 (by rfl) w8.heap.size 44 i0 (.agg (m20)) 176 Tryz.underlying29 hi0 hz0 hz1 hz2 rfl (by decide) cS qW _ ((Tp.iJ bad j).map (fun i:Nat=>(newE (i:Int)).r)) [(newE (j:Int)).r] (some (m07 w10:Addr)) 1 1 (by rfl) HR11.out.own (by rfl) (SlV.one cS hs11 hn11 (by omega)) (fun e=>by cases e) (by rw[List.length_map];unfold maxLen;omega) (by rw[List.length_map];omega) HR11.out.kp.size ?_
   intro vN w12 hN gN aN
   obtain⟨GN,kN,hGN⟩:=dV gN
   have hGw:w8.heap.size<=GN:=hGN.elim (fun e=>(HR11.out.own.lt _ e).1) (fun e=>by have:=HR11.out.kp.size;omega)
   have hb12:=(kN.block G (Nat.lt_of_lt_of_le hgl HR11.out.kp.size) (by omega)).trans HR11.out.box
   have z7:w12.cell? (m36 G)=some (.slice na nn nc):=cA hb12 7
   have f7:=cH hb12 7
   obtain⟨na',nc',hv,-,-⟩:=hN.sl0 cS
   have T:=cM [vN] 7 _ _ hb12 (by show(8:Nat)<=9;omega)
   have hown:=hN.turnNe T (fun e=>by have:=(hN.lt _ e).1;omega)
   have hbx:=T.new
   have kk:=(HR11.out.kp.thenB (kN.below HR11.out.kp.size (fun j e=>by rw[e];exact hGw))).trans (cL (S:=(· =G)) T rfl)
   obtain⟨nn',hnn'⟩:∃z,((Tp.iJ bad j).map (fun i:Nat=>(newE (i:Int)).r)++[(newE (j:Int)).r]).length=z:=⟨_,rfl⟩
   rw[hnn']at hv
   subst hv
   have HF:Hid (NewR w8 G aw nw cw C bad ba bn bc (j+1) na' nn' nc' (w12.setCell (m36 G) (m63 na' nn' nc'))):=zH ⟨kk,hbx,HR11.out.g,by rw[HSC.out,List.map_append];exact hown⟩
   clear T hown hbx kk hb12
   refine hK.out _ _ ?_ ?_
   ·exact⟨.inr (by kernel_rfl),trivial⟩
   clear hK K;try simp only[Act.put,pA,pB,pC]
   refine wX 6 rfl ?_
   refine cK 7 (by kernel_rfl) rfl (fun K hK=>?_)
   go_simp
   refine hK.out _ _ ?_ ?_
   ·exact⟨.inr (by kernel_rfl),trivial⟩
   clear hK K;try simp only[Act.put,pA,pB,pC]
   refine cO (by kernel_rfl) ?_ _
   try dsimp only
   go_wp2_with fail
   exact⟨⟨j+1,na',_,nc',by omega,by go_num,HF.out⟩,by simp[intOf];omega⟩
structure SeD (w1:World) (b0 b1 b2 b3 b4:Int) (y:Tp.Vw) (al:Option Nat) (jr:Option RV) (W:World):Prop where
 bel:Below w1.heap.size w1 W
 aa:∀g,al=some g->W.heap[g]?=some (.cells (m11 b0 b1 b2 b3 b4) 56 (0,0))/\w1.heap.size<=g
 jj:∀t,jr=some t->VwR W t y/\t.New w1.heap.size
section
variable {w1 W W':World}{b0 b1 b2 b3 b4:Int}{y:Tp.Vw}{al:Option Nat}{jr:Option RV}
theorem SeD.start :SeD w1 b0 b1 b2 b3 b4 y none none w1.drew:=⟨(Below.refl _ _).drew,fun _ h=>(by cases h),fun _ h=>(by cases h)⟩
theorem SeD.keep (h:SeD w1 b0 b1 b2 b3 b4 y al jr W)(hb:Below W.heap.size W W'):SeD w1 b0 b1 b2 b3 b4 y al jr W':=
 ⟨bS h.bel hb,fun g he=>⟨cG hb (gS (h.aa g he).1) (h.aa g he).1,(h.aa g he).2⟩,fun t e=>⟨(h.jj t e).1.keep hb,(h.jj t e).2⟩⟩
theorem SeD.m (h:SeD w1 b0 b1 b2 b3 b4 y none jr W):SeD w1 b0 b1 b2 b3 b4 y (some W.heap.size) jr (W.alloc (.cells (m11 b0 b1 b2 b3 b4) 56)):=by
 have hb:=(Below.refl W.heap.size W).alloc nr (.cells (m11 b0 b1 b2 b3 b4) 56)
 refine⟨bS h.bel hb,fun g he=>?_,fun t e=>⟨(h.jj t e).1.keep hb,(h.jj t e).2⟩⟩
 cases he
 exact⟨heap_alloc_new W _,h.bel.size⟩
theorem SeD.call {t:RV}(h:SeD w1 b0 b1 b2 b3 b4 y al none W)(hb:Below W.heap.size W W')(hv:VwR W' t y)(hn:t.New W.heap.size):SeD w1 b0 b1 b2 b3 b4 y al (some t) W':=
 ⟨(h.keep hb).bel,(h.keep hb).aa,fun t' e=>by cases e;exact⟨hv,hn.lower h.bel.size⟩⟩
end
structure SeIn (k:Tp.Wd) (al:List Tp.Ac):Prop where
 all1:∀n∈k.n,(Tp.gH n).b.length<=1000000/\(Tp.gH n).v.length<=1000000
 all2:∀j,(Tp.all (k.n.take j)).b.length<=1000000/\(Tp.all (k.n.take j)).v.length<=1000000
 o1:∀j,(Tp.gF (Tp.all k.n) (k.o.take j)).b.length<=900000/\(Tp.gF (Tp.all k.n) (k.o.take j)).v.length<=900000
 a1:∀j,(Tp.mF (Tp.gF (Tp.all k.n) k.o) (al.take j)).b.length<=900000/\(Tp.mF (Tp.gF (Tp.all k.n) k.o) (al.take j)).v.length<=900000
structure SeR (w5:World) (G N:Nat) (x:Tp.Vw) (t:RV) (wr:World):Prop where
 kp:aC (· =G) w5 wr
 box:wr.heap[G]?=some (.cells (m01 t) 38 (0,0))
 vw:VwR wr t x
 off:t.Off G
 new:t.New N
 g:G<w5.heap.size/\N<=w5.heap.size
theorem SeR.keep {w5 wr w':World}{G N:Nat}{x:Tp.Vw}{t:RV}(h:SeR w5 G N x t wr)(hb:Below wr.heap.size wr w'):SeR w5 G N x t w':=
 ⟨h.kp.thenB (hb.mono h.kp.size),bK hb h.box,h.vw.keep hb,h.off,h.new,h.g⟩
theorem SeR.store {w5 wr w1 w':World}{G N:Nat}{x y:Tp.Vw}{t u:RV}(h:SeR w5 G N x t wr)(hb:Below wr.heap.size wr w1)(hb2:Below w1.heap.size w1 w')(hu:VwR w' u y)(hn:u.New w1.heap.size):
  SeR w5 G N y u ((w'.setCell (m00 G) (m41 u)).setCell (m15 G) (m42 u)):=by
 have h':=(h.keep hb).keep hb2
 have hs:=hb.size
 have ho:u.Off G:=hn.off (by have:=h.g.1;have:=h.kp.size;omega)
 have T:=set2 w' G _ _ (m41 u) (m42 u) _ h'.box
 exact⟨h'.kp.trans (cL T rfl),T.new,hu.keepS (cL T rfl) ho,ho,hn.lower (by have:=h.g.2;have:=h.kp.size;omega),h.g⟩
end Go.Proofs.YtbbhinehcncmeaaGreat
