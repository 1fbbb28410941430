/- A part of the proof of the laws of the top: TpCollect, TpCommittee. No condition. -/
import Derived.Test.YtbbhinehcncmeaaGreatG07
import Derived.Test.YtbbhinehcncmeaaGreatG08
namespace Go.Proofs.YtbbhinehcncmeaaGreat
open Go.RowKit
set_option linter.unusedSimpArgs false
set_option linter.unusedVariables false
set_option linter.unusedSectionVars false
set_option maxRecDepth 100000
set_option maxHeartbeats 4000000
section
open Go.RowKit Go.Shelf
attribute [local go_sem] Oper.semAt_some
structure SeqC (w:World) (C I x1 x2 x3 nn cc:Nat) (a:Option Addr) (p:Nat->Bool):Prop where
 few:nn<=1000
 is_:∀(j:Nat) (W:World),j<nn->Below w.heap.size w W->Calls Tryz.prog 110 #[.int .i64 j,.pointer (some (m00 x1)),.pointer (some (m00 x2)),.pointer (some (m00 x3))] W fun e W'=>e=.returned (.bool (p j))/\Below W.heap.size W W'
 hC:C<w.heap.size
 hI:I<w.heap.size
 cC:w.cell? (m00 C)=some (.slice a nn cc)
 cI:w.cell? (m00 I)=some (.func (.func 110) #[] #[.pointer (some (m00 x1)),.pointer (some (m00 x2)),.pointer (some (m00 x3))])
theorem aGp (l:List Int):l.flatMap intC=l.map (Value.int .i64):=by
 induction l with
 |nil=>rfl
 |cons x r ih=>rw[List.flatMap_cons,ih];rfl
theorem uK (n:Nat)(hn:3<=n)(C I x1 x2 x3 nn cc:Nat)(a:Option Addr)(p:Nat->Bool)(w:World)(h:SeqC w C I x1 x2 x3 nn cc a p):
  CallsIn Fence.wide n Tryz.prog 126 #[.slice none 0 0,.func (.func 127) #[] (m23 C I)] w fun e W'=>∃v,e=.returned v/\OwnL intC 1 3 W' w.heap.size v (Tp.sel p nn)/\Below w.heap.size w W':=by
 have h1:1<=n:=by omega
 have hF:Fence.wide.fn 127:=trivial
 obtain⟨i0,hi,hz0,hz1,hz2⟩:=info_parts nW
 refine callsIn_of_wp_marks Tryz.func126 rfl trivial ?_ rfl
 simp only[Tryz.ntmps126,List.size_toArray,List.length_cons,List.length_nil,Nat.reduceAdd,Nat.reduceSub,Array.replicate_succ,Array.replicate_zero,List.push_toArray,List.append_toArray,List.nil_append,List.cons_append]
 gi_wp2
 have bO:=Boxed.new w 22 (m48)
 have hB0:Below w.heap.size w (w.alloc (.cells #[.slice none 0 0] 22)):=(Below.refl _ w).alloc nr _
 have hst:SeqStopsK Fence.wide (n-1) Tryz.prog 127 (m23 C I) (fun x:Int=>#[Value.int .i64 x]) (Below w.heap.size) (fun ys=>ys=Tp.sel p nn) (fun pre=>pre <+:Tp.sel p nn) (Tp.sel p nn).length (w.alloc (.cells #[.slice none 0 0] 22)):=fun l J Jx W hW hJ _ hY h0=>
  yW (n-1) (by omega) l C I w.heap.size nn cc a x1 x2 x3 p w rfl (by have:=h.few;omega) J Jx _ hJ h.is_ hY W (hB0.trans (hW.mono (by simp))) h.hC h.hI h.cC h.cI h0
 refine wpIn_rangeFunc_ownG rfl h1 (gf:=127) (lb:=(m23 C I)) rfl hF (enters_of Tryz.func127 (by kernel_rfl) rfl)
  hst belowK_t (belowK_b (by simp)) (Below.refl _ _) (fun _=>rfl)
  (fun pre W=>(∃v,Boxed W w.heap.size 22 v/\W.ownsRow w.heap.size 3 1 v pre.length (pre.map (Value.int .i64))/\(v=.slice none 0 0↔pre=[]))/\Below w.heap.size w W)
  (fun _ _ _=>False)
  (OwnFrom.and (Own.from (holdsRow_own w.heap.size w.heap.size 22 3 1 (fun pre=>pre.length) (fun pre=>pre.map (Value.int .i64)) (fun pre v=>v=.slice none 0 0↔pre=[])) _) (ownFrom_below nr (by simp)))
  (fun _ _ _ _ _ hs _ _=>hs)
  ⟨⟨_,bO,World.ownsRow_nil _ _ _ _,by simp⟩,hB0⟩
  (fun x=>{ tmps:=#[.slice none 0 0,.func (.func 127) #[] (m23 C I),.pointer (some (m07 w)),undef,.slice none 0 0,.int .i64 x,.func (.func 127) #[] (m23 C I),.int .i64 x,undef,undef,undef,undef,undef],defers:=[] }) ?assign ?body ?done ?stop
 case assign=>
  intro l x W K hK
  gi_wp2
  exact hK
 case body=>
  rintro l pre x W ⟨⟨v,hv,hrow,hnil⟩,hB⟩ hlt
  have hc:=hv.cell
  have hlen:(Tp.sel p nn).length<=1000:=Nat.le_trans (Tp.aJe p nn) h.few
  gi_wp2_with (gi_at_builtin;refine wpListIn_append_own _ rfl _ _ 22 rfl w.heap.size 3 i0 (.int .i64 0) 1 8 Tryz.underlying22 hi hz0 hz1 hz2 rfl (by decide) _ _ _ rfl (hrow.alloc _) (m07 W) 1 1 [.int .i64 x] rfl rfl (cell_one_new _ _ _) (by simp[Value.oneCell']) (by unfold maxLen;omega) (by omega) (by have:=hB.size;simp;omega) ?_;intro v' w1 hown' hgrow _;obtain⟨g',cap',rfl⟩:=ownsRow_succ hown';obtain⟨hv1,hv2,hr2,hk2,hb2⟩:=hv.appended (by decide) hrow hB.size nr hown' hgrow;have hc1:=hv1.cell;have hf1:=hv1.frozen)
  exact⟨hk2.from _,hb2,⟨_,hv2,by simpa using hr2,by simp⟩,hB.trans hb2⟩
 case done=>
  rintro D ys W hD rfl ⟨⟨v,hv,hrow,hnil⟩,hB⟩ hK
  have hc:=hv.cell
  gi_wp2
  refine⟨by simp,.inl ⟨_,_,rfl,run_takeDeferred hK,?_⟩⟩
  refine⟨_,results_tmp rfl _ _ _,v,rfl,?_,hB.trans (belowK_b (w:=w) nr W D _ _ (by simp at hD;omega) hK rfl rfl)⟩
  unfold OwnL
  rw[aGp]
  exact ownsRow_putObj hrow _ hK rfl
 case stop=>
  rintro D c pre W _ _ h _
  exact h.elim
theorem wJ (C I x1 x2 x3 nn cc:Nat)(a:Option Addr)(p:Nat->Bool)(w:World)(h:SeqC w C I x1 x2 x3 nn cc a p):
  Calls Tryz.prog 108 #[.func (.func 127) #[] (m23 C I)] w fun e W'=>∃v,e=.returned v/\OwnL intC 1 3 W' w.heap.size v (Tp.sel p nn)/\Below w.heap.size w W':=by
 go_enter Tryz.func108,Tryz.ntmps108
 go_wp2_with (go_at_call 126;refine(callsIn_wide.1 (uK 3 (by omega) C I x1 x2 x3 nn cc a p w h)).mono ?_;rintro e w1 ⟨v,rfl,own,bel⟩)
 go_ret
 exact⟨_,rfl,own,bel⟩
end
section
open Go.RowKit Go.Shelf
theorem sK (a:Option Addr)(n c:Nat)(sd ep nu de:Int)(fv:Value)(hfv:fv.cells=#[fv])(hst:fv.oneCell'=true)(w:World):
    Calls Tryz.prog 109 #[.agg (m05 a n c sd ep nu de),fv] w fun e w'=>
      e=.returned (.func (.func 127) #[] #[.pointer (some (m07 w)),.pointer (some (m22 w))])/\
      (m28 w a n c sd ep nu de:World).alloc (.cells #[fv] 104)=w':=by
  simp only[Value.cells]at hfv
  go_enter Tryz.func109,Tryz.ntmps109
  go_wp2
  go_ret
  exact⟨rfl,rfl⟩
def Tp.aLi (pm:List Int) (ep s:Int) (i:Nat):Bool:=decide (Mx.nth pm i%ep=s%ep)
structure ComR (w:World) (x1 x2 x3 g o n cap:Nat) (pm:List Int) (ep s:Int):Prop where
  b1:w.cell? (m00 x1)=some (.slice (some (m09 g o)) n cap)
  b2:w.cell? (m25 x2)=some (.int .i64 ep)
  b3:w.cell? (m00 x3)=some (.int .i64 s)
  row:∀i,i<n->w.cell? (m09 g (o+i))=some (.int .i64 (Mx.nth pm i))
  lt:x1<w.heap.size/\x2<w.heap.size/\x3<w.heap.size/\(0<n->g<w.heap.size)
theorem ComR.below {w w':World}{x1 x2 x3 g o n cap N:Nat}{pm:List Int}{ep s:Int}(h:ComR w x1 x2 x3 g o n cap pm ep s)(hb:Below N w w')(hN:w.heap.size<=N):ComR w' x1 x2 x3 g o n cap pm ep s:=by
  obtain⟨l1,l2,l3,l4⟩:=h.lt
  have hs:=hb.size
  refine⟨(hb.cell (p:=(m00 x1)) (Nat.lt_of_lt_of_le l1 hN)).trans h.b1,(hb.cell (p:=(m25 x2)) (Nat.lt_of_lt_of_le l2 hN)).trans h.b2,(hb.cell (p:=(m00 x3)) (Nat.lt_of_lt_of_le l3 hN)).trans h.b3,fun i hi=>(hb.cell (p:=(m09 g (o+i))) (Nat.lt_of_lt_of_le (l4 (by omega)) hN)).trans (h.row i hi),by omega,by omega,by omega,fun h0=>by have:=l4 h0;omega⟩
theorem aHh (x1 x2 x3 g o n cap:Nat)(pm:List Int)(ep s:Int)(i:Nat)(w:World)(h:ComR w x1 x2 x3 g o n cap pm ep s)(hi:i<n)(hn:n<=1000000)(hep:0<ep)(hs:0<=s/\s<=1048576)(hpm:0<=Mx.nth pm i/\Mx.nth pm i<=1000000):
    Calls Tryz.prog 110 #[.int .i64 i,.pointer (some (m00 x1)),.pointer (some (m00 x2)),.pointer (some (m00 x3))] w fun e w'=>e=.returned (.bool (Tp.aLi pm ep s i))/\Below w.heap.size w w':=by
  obtain⟨b1,b2,b3,row,lt⟩:=h
  have r:=row i hi
  unfold Tp.aLi
  obtain⟨y,hy⟩:∃y,Mx.nth pm i=y:=⟨_,rfl⟩
  rw[hy]at r hpm⊢
  have j0:(0:Int)<=i:=by omega
  have j1:(i:Int)<n:=by omega
  have nz:¬ep=0:=by omega
  have t1:Int.tmod y ep=y%ep:=Int.tmod_eq_emod_of_nonneg hpm.1
  have t2:Int.tmod s ep=s%ep:=Int.tmod_eq_emod_of_nonneg hs.1
  obtain⟨u,hu⟩:∃u,y%ep=u:=⟨_,rfl⟩
  obtain⟨v,hv⟩:∃u,s%ep=u:=⟨_,rfl⟩
  rw[hu]at t1⊢
  rw[hv]at t2⊢
  obtain⟨t,ht⟩:∃t,decide (u=v)=t:=⟨_,rfl⟩
  have ht2:(u==v)=t:=ht
  rw[ht]
  clear row hy hu hv ht
  go_enter Tryz.func110,Tryz.ntmps110
  go_wp2_with fail
  go_quiet (fail)
  go_wp2
  go_ret
  exact⟨rfl,cV _ _ _⟩
def Tp.bT (l:List Int) (sd ep nu de s:Int):List Int:=
  if Tp.qZ l ep nu de s then Tp.sel (Tp.aLi (Tp.jX (Mx.step sd (s/ep)) l.length) ep s) l.length else[]
def kB (N:Nat) (a:Option Addr) (n c:Nat) (sd ep s:Int) (w:World):Prop:=
  w.cell? (m00 N)=some (.slice a n c)/\w.cell? (m15 N)=some (.int .u64 sd)/\w.cell? (m25 N)=some (.int .i64 ep)/\w.cell? (m66 N)=some (.int .i64 s)/\N+1<w.heap.size
theorem kB.below {N M:Nat}{a:Option Addr}{n c:Nat}{sd ep s:Int}{w w':World}(h:kB N a n c sd ep s w)(hb:Below M w w')(hM:N+1<M):kB N a n c sd ep s w':=by
  obtain⟨h0,h1,h2,h3,h4⟩:=h
  have hs:=hb.size
  exact⟨(hb.cell (p:=(m00 N)) (show N<M by omega)).trans h0,(hb.cell (p:=(m15 N)) (show N<M by omega)).trans h1,(hb.cell (p:=(m25 N)) (show N<M by omega)).trans h2,(hb.cell (p:=(m66 N)) hM).trans h3,by omega⟩
theorem kB.keep {N:Nat}{a:Option Addr}{n c:Nat}{sd ep s:Int}{w w':World}(h:kB N a n c sd ep s w)(hb:Below w.heap.size w w'):kB N a n c sd ep s w':=h.below hb h.2.2.2.2
theorem kB.alloc {N:Nat}{a:Option Addr}{n c:Nat}{sd ep s:Int}{w:World}(h:kB N a n c sd ep s w)(o:Obj):kB N a n c sd ep s (w.alloc o):=h.keep ((Below.refl _ _).alloc nr _)
theorem kB.set {N:Nat}{a:Option Addr}{n c:Nat}{sd ep s:Int}{w:World}(h:kB N a n c sd ep s w){b:Nat}(hb:N+1<b)(v:Value):kB N a n c sd ep s (w.setCell (m00 b) v):=h.below (M:=b) ((Below.refl _ _).setCell (p:=(m00 b)) nr v) hb
theorem aGh (sd:Int)(n i:Nat)(h:i<n):Mx.nth (Tp.jX sd n) i=Tp.lE sd n 10 i:=by
  unfold Mx.nth Tp.jX
  rw[List.getElem?_map,List.getElem?_range h,Option.map_some,Option.getD_some]
theorem cR {w:World}(o1 o2:Obj):Below w.heap.size w ((w.alloc o1).alloc o2):=((Below.refl _ w).alloc nr _).alloc (by simp) _
theorem aJd {Wf:World}{A N n c g o vc:Nat}{a:Option Addr}{y sd ep nu de s:Int}(h:ComR Wf A N (N+1) g o n vc (Tp.jX y n) ep s)(hn:0<n/\n<=1000)(hep:0<ep)(hs:0<=s/\s<=1048576):
    SeqC ((m28 Wf a n c sd ep nu de:World).alloc (.cells #[.func (.func 110) #[] #[.pointer (some (m00 A)),.pointer (some (m00 N)),.pointer (some (m66 N))]] 104))
      Wf.heap.size (Wf.heap.size+1) A N (N+1) n c a (Tp.aLi (Tp.jX y n) ep s):=by
  refine⟨hn.2,fun j W hj hb=>?_,by simp only[World.size_alloc];omega,by simp,?_,?_⟩
  · refine aHh A N (N+1) g o n vc (Tp.jX y n) ep s j W (h.below ((cR _ _).trans (hb.mono (by simp only[World.size_alloc];omega))) nr) hj (by omega) hep hs ?_
    rw[aGh y n j hj]
    have:=Tp.qI (sd:=y) (n:=(n:Int)) (by omega) 10 (j:Int) ⟨by omega,by omega⟩
    omega
  · have e:((m28 Wf a n c sd ep nu de:World).alloc (.cells #[.func (.func 110) #[] #[.pointer (some (m00 A)),.pointer (some (m00 N)),.pointer (some (m66 N))]] 104)).heap[Wf.heap.size]?=some (.cells (m05 a n c sd ep nu de) 25 (0,0)):=by
      rw[cF,if_neg (by simp),cF,if_pos rfl]
    exact cA e 0
  · have e:((m28 Wf a n c sd ep nu de:World).alloc (.cells #[.func (.func 110) #[] #[.pointer (some (m00 A)),.pointer (some (m00 N)),.pointer (some (m66 N))]] 104)).heap[Wf.heap.size+1]?=some (.cells #[.func (.func 110) #[] #[.pointer (some (m00 A)),.pointer (some (m00 N)),.pointer (some (m66 N))]] 104 (0,0)):=by
      rw[cF,if_pos (by simp)]
    exact cA e 0
theorem bZ (a : Option Addr) (n c : Nat) (l : List Int) (sd ep nu de s : Int) (w : World) (hn : l.length = n) (hm : n ≤ 9223372036854775807) (hsd : 0 ≤ sd ∧ sd ≤ 18446744073709551615) (hl : Ints w a l) :
    Calls Tryz.prog 78 #[.agg #[.slice a n c, .int .u64 sd, .int .i64 ep, .int .i64 nu, .int .i64 de], .int .i64 s] w fun e w' => ∃ v, e = .returned v ∧ OwnL intC 1 3 w' w.heap.size v (Tp.bT l sd ep nu de s) ∧ Below w.heap.size w w' := by
  have hb0 : Below w.heap.size w ((w.alloc (.cells #[.slice a n c, .int .u64 sd, .int .i64 ep, .int .i64 nu, .int .i64 de] 25)).alloc (.cells #[.int .i64 s] 3)) := bX ((Below.refl _ w).alloc (Nat.le_refl _) _) _
  have g0 : ((w.alloc (.cells #[.slice a n c, .int .u64 sd, .int .i64 ep, .int .i64 nu, .int .i64 de] 25)).alloc (.cells #[.int .i64 s] 3)).heap[w.heap.size]? = some (.cells #[.slice a n c, .int .u64 sd, .int .i64 ep, .int .i64 nu, .int .i64 de] 25 (0, 0)) := by
    rw [cF, if_neg (by simp), cF, if_pos rfl]
  have g1 : ((w.alloc (.cells #[.slice a n c, .int .u64 sd, .int .i64 ep, .int .i64 nu, .int .i64 de] 25)).alloc (.cells #[.int .i64 s] 3)).heap[w.heap.size + 1]? = some (.cells #[.int .i64 s] 3 (0, 0)) := by
    rw [cF, if_pos (by simp)]
  have hC0 : kB w.heap.size a n c sd ep s ((w.alloc (.cells #[.slice a n c, .int .u64 sd, .int .i64 ep, .int .i64 nu, .int .i64 de] 25)).alloc (.cells #[.int .i64 s] 3)) := ⟨cA g0 0, cA g0 1, cA g0 2, cA g1 0, by simp⟩
  have hs0 : w.heap.size + 1 < ((w.alloc (.cells #[.slice a n c, .int .u64 sd, .int .i64 ep, .int .i64 nu, .int .i64 de] 25)).alloc (.cells #[.int .i64 s] 3)).heap.size := by simp
  have hl1 := Lib.hid (hl.keep hb0)
  have HB := Lib.hid hb0
  have HN := Lib.hid hn
  have HC0 := Lib.hid hC0
  have HG0 := Lib.hid g0
  clear hl hb0 hC0 g1 g0
  unfold Tp.bT
  cases hms : Tp.qZ l ep nu de s
  · clear hn
    have HS := Lib.hid hms
    go_enter Tryz.func78, Tryz.ntmps78
    go_wp2_with (go_at_call 86; refine (jL a n c l sd ep nu de s _ HN.out hm hl1.out).mono ?_; rintro e w' ⟨rfl, hb⟩; rw [HS.out]; have bel := below_step HB.out hb)
    go_ret
    exact ⟨_, rfl, OwnL.nil _ _ _ _ _, bel⟩
  · have s0 : (0 < s ∧ s ≤ 1048576) ∧ (0 < n ∧ n ≤ 12) ∧ 0 < ep := by
      unfold Tp.qZ Tp.mayC at hms
      simp only [Bool.and_eq_true, decide_eq_true_eq] at hms
      omega
    obtain ⟨⟨s1, s2⟩, ⟨n1, n2⟩, e1⟩ := s0
    have HS := Lib.hid hms
    obtain ⟨q, hq⟩ : ∃ q, s / ep = q := ⟨_, rfl⟩
    have q0 : 0 ≤ q := by rw [← hq]; exact Int.ediv_nonneg (by omega) (by omega)
    have q1 : q ≤ s := by rw [← hq]; exact Int.ediv_le_self ep (show 0 ≤ s by omega)
    have td : Int.tdiv s ep = q := by rw [← hq]; exact Int.tdiv_eq_ediv_of_nonneg (by omega)
    have nz : ¬ ep = 0 := by omega
    have wq : IntKind.i64.wrap q = q := IntWalk.i64_in _ (by omega)
    have wu : IntKind.u64.wrap q = q := eI (by omega) (by omega)
    obtain ⟨y, hy⟩ : ∃ y, Mx.step sd q = y := ⟨_, rfl⟩
    have yU : IsU y := by rw [← hy]; exact Mx.step_bd sd q
    have HY := Lib.hid hy
    have HR : Hid ((if true = true then Tp.sel (Tp.aLi (Tp.jX (Mx.step sd (s / ep)) l.length) ep s) l.length else []) = Tp.sel (Tp.aLi (Tp.jX y n) ep s) n) := Lib.hid (by rw [if_pos rfl, hq, hy, hn])
    clear hn hms hq hy
    rw [HR.out]
    go_enter Tryz.func78, Tryz.ntmps78
    go_wp2_with (go_at_call 86; refine (jL a n c l sd ep nu de s _ HN.out hm hl1.out).mono ?_; rintro e w1 ⟨rfl, hb⟩; rw [HS.out]; have bel := below_step HB.out hb; have hC1 := HC0.out.keep hb; have hg1 := cG (k := w.heap.size) hb (by omega) HG0.out)
    have hCD : kB w.heap.size a n c sd ep s w1.drew := hC1
    obtain ⟨k0, k1, k2, k3, k4⟩ := id hC1
    go_region_held3 (fun w' => w'.cell? ⟨w.heap.size, 0, none⟩ = some (.slice a n c) ∧ w'.cell? ⟨w.heap.size, 1, none⟩ = some (.int .u64 sd) ∧ w'.cell? ⟨w.heap.size, 2, none⟩ = some (.int .i64 ep) ∧ w'.cell? ⟨w.heap.size + 1, 0, none⟩ = some (.int .i64 s) ∧ w.heap.size + 1 < w'.heap.size)
      (first | assumption | exact hCD | exact hCD.alloc _ | exact hCP | exact hCP.alloc _ | exact hCP.set (by omega) _)
      (first
        | (go_at_call 75; refine (sP sd q y HY _ hsd ⟨by omega, by omega⟩).mono ?_; rintro e w' ⟨rfl, rfl⟩)
        | (go_at_call 107; refine (aGi y n _ yU ⟨by omega, by omega⟩).mono ?_; rintro e w2 ⟨v, rfl, own, hbp⟩; obtain ⟨va, vc, rfl, vs⟩ := own.sl dQ; have hCP := kB.keep (N := w.heap.size) (a := a) (n := n) (c := c) (sd := sd) (ep := ep) (s := s) (by assumption) hbp; (try (have kbx := cG (k := w1.drew.heap.size) (o := .cells #[.slice none 0 0] 22) hbp (by simp) (heap_alloc_new w1.drew _); have kb : w2.cell? ⟨w1.heap.size, 0, none⟩ = some (.slice none 0 0) := cA kbx 0; have kf : w2.frozen? ⟨w1.heap.size, 0, none⟩ = false := cH kbx 0))))
    all_goals
      first
        | (have bF : Below w1.heap.size w1 (w2.alloc (.cells #[.slice va (Tp.jX y n).length vc] 22)) := (((Below.refl _ w1).drew).trans hbp).alloc hbp.size _
           have hA : (w2.alloc (.cells #[.slice va (Tp.jX y n).length vc] 22)).heap[w2.heap.size]? = some (.cells #[.slice va (Tp.jX y n).length vc] 22 (0, 0)) := heap_alloc_new w2 _
           have vF := vs.alloc (.cells #[.slice va (Tp.jX y n).length vc] 22)
           have hA1 : w1.heap.size ≤ w2.heap.size := hbp.size
           generalize hA2 : w2.heap.size = A at hA hA1 ⊢
           generalize w2.alloc (.cells #[.slice va (Tp.jX y n).length vc] 22) = Wf at bF hA vF ⊢)
        | (have T := fX kbx 0 (.slice va (Tp.jX y n).length vc)
           have bF : Below w1.heap.size w1 (w2.setCell ⟨w1.heap.size, 0, none⟩ (.slice va (Tp.jX y n).length vc)) := (((((Below.refl _ w1).drew).alloc (Nat.le_refl _) _).trans (hbp.mono (by simp)))).trans (T.below (Nat.le_refl _))
           have hA : (w2.setCell ⟨w1.heap.size, 0, none⟩ (.slice va (Tp.jX y n).length vc)).heap[w1.heap.size]? = some (.cells #[.slice va (Tp.jX y n).length vc] 22 (0, 0)) := T.new
           obtain ⟨a', c', he, vF⟩ := (own.turn T (by simp)).sl dQ
           cases he
           change SlV intC 1 (w2.setCell ⟨w1.heap.size, 0, none⟩ (.slice va (Tp.jX y n).length vc)) va (Tp.jX y n).length vc (Tp.jX y n) at vF
           generalize w2.setCell ⟨w1.heap.size, 0, none⟩ (.slice va (Tp.jX y n).length vc) = Wf at bF hA vF ⊢
           generalize hA2 : w1.heap.size = A at hA ⊢
           have hA1 : w1.heap.size ≤ A := Nat.le_of_eq hA2)
      have hlp : (Tp.jX y n).length = n := by simp [Tp.jX]
      obtain ⟨g, o, rfl, hglt, hrow⟩ : ∃ g o, va = some ⟨g, o, none⟩ ∧ g < Wf.heap.size ∧ ∀ i, i < n → Wf.cell? ⟨g, o + i, none⟩ = some (.int .i64 (Mx.nth (Tp.jX y n) i)) := by
        rcases vF.rows.ints with h0 | ⟨g, o, h, hlt, hc⟩
        · omega
        · exact ⟨g, o, h, hlt, fun i hi => hc i (by omega)⟩
      have hgF := cG bF (show w.heap.size < w1.heap.size by omega) hg1
      have hCF := hC1.keep bF
      have hbF := below_step bel bF
      have hAlt := (gS hA)
      obtain ⟨f0, f1, f2, f3, f4⟩ := id hCF
      have f5 : Wf.cell? ⟨w.heap.size, 3, none⟩ = some (.int .i64 nu) := cA hgF 3
      have f6 : Wf.cell? ⟨w.heap.size, 4, none⟩ = some (.int .i64 de) := cA hgF 4
      have hR : ComR Wf A w.heap.size (w.heap.size + 1) g o n vc (Tp.jX y n) ep s := ⟨by have := cA hA 0; rw [hlp] at this; exact this, f2, f3, hrow, hAlt, by omega, by omega, fun _ => hglt⟩
      have HCR := Lib.hid hR
      clear hrow hR hA hgF hg1 hC1 hCD hCF k0 k1 k2 k3
      have hsq := aJd (Wf := Wf) (sd := sd) (nu := nu) (de := de) (c := c) (a := a) HCR.out ⟨n1, by omega⟩ e1 ⟨by omega, s2⟩
      have hw4 := cR (w := Wf) (.cells #[.slice a n c, .int .u64 sd, .int .i64 ep, .int .i64 nu, .int .i64 de] 25) (.cells #[.func (.func 110) #[] #[.pointer (some ⟨A, 0, none⟩), .pointer (some ⟨w.heap.size, 0, none⟩), .pointer (some ⟨w.heap.size + 1, 0, none⟩)]] 104)
      have HSQ := Lib.hid hsq
      have HW4 := Lib.hid hw4
      clear hsq hw4
      go_wp2_with (first
        | (go_at_call 109; refine (sK a n c sd ep nu de _ rfl rfl _).mono ?_; rintro e w4 ⟨rfl, rfl⟩)
        | (go_at_call 108; refine (wJ Wf.heap.size (Wf.heap.size + 1) A w.heap.size (w.heap.size + 1) n c a _ _ HSQ.out).mono ?_; rintro e w5 ⟨v, rfl, own5, b5⟩))
      go_ret
      exact ⟨_, rfl, own5.lower (Nat.le_trans hbF.size (HW4.out.size)), below_step hbF (HW4.out.trans (b5.mono HW4.out.size))⟩
def Tp.inC (l:List Int) (sd ep nu de s who:Int):Bool:=Tp.has (Tp.bT l sd ep nu de s) who
theorem aIg (a:Option Addr)(n c:Nat)(l:List Int)(sd ep nu de s who:Int)(w:World)(hn:l.length=n)(hm:n<=9223372036854775807)(hsd:0<=sd/\sd<=18446744073709551615)(hl:Ints w a l):
    Calls Tryz.prog 99 #[.agg (m05 a n c sd ep nu de),.int .i64 s,.int .i64 who] w fun e w'=>e=.returned (.bool (Tp.inC l sd ep nu de s who))/\Below w.heap.size w w':=by
  have hb0:Below w.heap.size w (m28 w a n c sd ep nu de):=(Below.refl _ w).alloc nr _
  have hl1:=zH (hl.keep hb0)
  have HB:=zH hb0
  have HN:=zH hn
  clear hl hb0 hn
  unfold Tp.inC
  go_enter Tryz.func99,Tryz.ntmps99
  go_wp2_with (first
    |(go_at_call 78;refine(bZ a n c l sd ep nu de s _ HN.out hm hsd hl1.out).mono ?_;rintro e w1 ⟨v,rfl,own,hb⟩;obtain⟨va,vc,rfl,vs⟩:=own.sl dQ;have bel:=bS HB.out hb)
    |(go_at_call 24;refine(bW va _ vc _ who _ vs).mono ?_;rintro e w' ⟨rfl,rfl⟩))
  go_ret
  exact⟨rfl,bel⟩
end
end Go.Proofs.YtbbhinehcncmeaaGreat
