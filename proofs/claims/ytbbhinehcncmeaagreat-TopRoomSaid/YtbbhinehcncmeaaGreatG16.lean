/- A part of the proof of the laws of the top: TpVote. No condition. -/
import Derived.Test.YtbbhinehcncmeaaGreatG15
namespace Go.Proofs.YtbbhinehcncmeaaGreat
open Go.RowKit
set_option linter.unusedSimpArgs false
set_option linter.unusedVariables false
set_option linter.unusedSectionVars false
set_option maxRecDepth 100000
set_option maxHeartbeats 8000000
def VtS (X B mb hb:Nat) (x0 x1 x2 x3 up:Int) (v2:Value) (t:Bool) (W:World):Prop:=
 W.cell? (m25 X)=some (.map (some mb))/\W.cell? (m33 X)=some (.map (some hb))/\W.cell? (m35 X)=some (.int .i64 up)/\W.cell? (m00 B)=some (.int .i64 x0)/\W.cell? (m15 B)=some (.int .i64 x1)/\W.cell? (m25 B)=some (.int .u64 x2)/\W.cell? (m33 B)=some (.int .u64 x3)/\
 (Instr.lookup 75 (m43 mb) (m67 x2 x3) true).run Tryz.prog W=.ok v2 W/\(Instr.lookup 216 (m43 hb) (.agg (m12 x0 x1 x2 x3)) false).run Tryz.prog W=.ok (.bool t) W
theorem VtS.mk' {w:World}{X:Nat}{S:Nat->Prop}{k:Tp.Wk}{ab av:Option Addr}{cb cv mb hb:Nat}(h:WkC w X S k ab av cb cv mb hb){B:Nat}{x0 x1 x2 x3:Int}(hB:w.heap[B]?=some (.cells (m12 x0 x1 x2 x3) 84 (0,0))):
  VtS X B mb hb x0 x1 x2 x3 k.upto (rC (Tp.at_ k.slot (x2,x3))) ((Tp.at_ k.has ⟨x0,x1,x2,x3⟩).getD false) w:=
 ⟨h.c2.2.2.1,h.c2.2.2.2.1,h.c2.2.2.2.2.1,cA hB 0,cA hB 1,cA hB 2,cA hB 3,(h.om.map.look fC Tryz.underlying75 (dK _) (x2,x3) true),by
  have:=h.oh.map.look vQ Tryz.underlying216 (jD _) ⟨x0,x1,x2,x3⟩ false
  simp only[Bool.false_eq_true,if_false]at this
  refine Eq.trans this ?_
  cases Tp.at_ k.has ⟨x0,x1,x2,x3⟩<;>rfl⟩
theorem aAn (X:Nat)(S:Nat->Prop)(k:Tp.Wk)(x0 x1 x2 x3:Int)(w:World)(hW:WkAt w X S k)(hS:∀j,w.heap.size<=j->S j)(hT:k.T)(hlen:k.v.length<=1000000):
  Calls Tryz.prog 131 #[.pointer (some (m00 X)),.agg (m12 x0 x1 x2 x3)] w fun e w'=>
   e=.returned (.bool (Tp.aM k ⟨x0,x1,x2,x3⟩).1)/\WkAt w' X S (Tp.aM k ⟨x0,x1,x2,x3⟩).2/\aC S w w':=by
 obtain⟨i0,hi,hz0,hz1,hz2⟩:=info_parts jI
 have hstep:Tp.aM k ⟨x0,x1,x2,x3⟩=if(Tp.at_ k.has ⟨x0,x1,x2,x3⟩).getD false then(true,k)else
   match Tp.at_ k.slot (x2,x3)with
   |none=>(false,k)
   |some s=>if x1<s then(true,k)else if k.upto<x1 then(false,k)else if 240<=k.v.length then(false,{ k with full:=true })
    else(true,{ k with v:=k.v++[⟨x0,x1,x2,x3⟩],has:=Tp.put k.has ⟨x0,x1,x2,x3⟩ true }):=by
  unfold Tp.aM
  rfl
 have hnone:(Tp.at_ k.has ⟨x0,x1,x2,x3⟩).getD false=false->Tp.at_ k.has ⟨x0,x1,x2,x3⟩=none:=by
  intro h
  cases hh:Tp.at_ k.has ⟨x0,x1,x2,x3⟩with
  |none=>rfl
  |some b=>rw[hh,hT _ _ hh]at h;cases h
 have HST:=zH hstep
 have HNO:=zH hnone
 clear hstep hnone hT
 obtain⟨w3,ew3_⟩:∃z,Hid (z=w.alloc (.cells (m12 x0 x1 x2 x3) 84)):=⟨_,zH rfl⟩
 have hB3:w3.heap[w.heap.size]?=some (.cells (m12 x0 x1 x2 x3) 84 (0,0)):=by cases ew3_.out;exact heap_alloc_new w _
 have hsz3:w3.heap.size=w.heap.size+1:=by cases ew3_.out;simp
 have hbel:Below w.heap.size w w3:=by cases ew3_.out;exact(Below.refl _ w).alloc nr _
 have hW3:WkAt w3 X (fun j=>(S j/\j<w.heap.size)\/w.heap.size+1<=j) k:=by cases ew3_.out;exact(hW.wide (S':=fun j=>(S j/\j<w.heap.size)\/w.heap.size+1<=j) (fun j hs hj=>.inl ⟨hs,hj⟩)).below hbel
 clear hW
 go_enter Tryz.func131,Tryz.ntmps131
 go_wp2_with fail
 rw[<-ew3_.out]
 have hfin:∀(W:World) (k':Tp.Wk),WkAt W X (fun j=>(S j/\j<w.heap.size)\/w.heap.size+1<=j) k'->aC (fun j=>(S j/\j<w.heap.size)\/w.heap.size+1<=j) w3 W->WkAt W X S k'/\aC S w W:=by
  intro W k' h1 h2
  refine⟨h1.wide fun j hj _=>hj.elim And.left (fun h=>hS j (by omega)),?_⟩
  exact(cQ hbel).trans (h2.wide fun j hj=>hj.elim And.left (fun h=>hS j (by omega)))
 have hSup:∀(W:World),w3.heap.size<=W.heap.size->∀j,W.heap.size<=j->(S j/\j<w.heap.size)\/w.heap.size+1<=j:=fun W h j hj=>.inr (by omega)
 have hBS:¬((S w.heap.size/\w.heap.size<w.heap.size)\/w.heap.size+1<=w.heap.size):=by omega
 obtain⟨ab,av,cb,cv,mb,hb,hC3⟩:=hW3
 have hrd:∀W:World,W.heap=w3.heap->VtS X w.heap.size mb hb x0 x1 x2 x3 k.upto (rC (Tp.at_ k.slot (x2,x3))) ((Tp.at_ k.has ⟨x0,x1,x2,x3⟩).getD false) W:=fun W hW=>VtS.mk' (hC3.keep fun j _ _=>by rw[hW]) (by rw[hW];exact hB3)
 have hsame:∀W:World,W.heap=w3.heap->WkAt W X (fun j=>(S j/\j<w.heap.size)\/w.heap.size+1<=j) k:=fun W hW=>⟨ab,av,cb,cv,mb,hb,hC3.keep fun j _ _=>by rw[hW]⟩
 have HFIN:=zH hfin
 have HRD:=zH hrd
 have HSAME:=zH hsame
 have HC3:=zH hC3
 have HB3:=zH hB3
 have HSUP:=zH hSup
 have HBS:=zH hBS
 have HBEL:=zH hbel
 have b1:w3.cell? (m14 w)=some (.int .i64 x1):=cA hB3 1
 obtain⟨-,xc1,-,-,-,-⟩:=hC3.c2
 clear hfin hrd hsame hC3 hB3 hSup hBS hbel hS hsz3
 cases hat:(Tp.at_ k.has ⟨x0,x1,x2,x3⟩).getD false with
 |true=>
  have hres:Tp.aM k ⟨x0,x1,x2,x3⟩=(true,k):=by rw[HST.out,hat];rfl
  have HRES:=zH hres
  obtain⟨u,kn,hv2⟩:∃u kn,rC (Tp.at_ k.slot (x2,x3))=.tuple #[u,.bool kn]:=⟨_,_,rfl⟩
  have hR:∀W:World,W.heap=w3.heap->VtS X w.heap.size mb hb x0 x1 x2 x3 k.upto (.tuple #[u,.bool kn]) true W:=fun W hW=>by
   have:=HRD.out W hW
   rw[hat,hv2]at this
   exact this
  have HR:=zH hR
  clear hres hat hv2 hR
  go_region_held3 (fun W=>W.cell? (m25 X)=some (.map (some mb))/\W.cell? (m33 X)=some (.map (some hb))/\W.cell? (m35 X)=some (.int .i64 k.upto)/\W.cell? (m07 w)=some (.int .i64 x0)/\W.cell? (m14 w)=some (.int .i64 x1)/\W.cell? (m17 w)=some (.int .u64 x2)/\W.cell? (m19 w)=some (.int .u64 x3)/\(Instr.lookup 75 (m43 mb) (m67 x2 x3) true).run Tryz.prog W=.ok (.tuple #[u,.bool kn]) W/\(Instr.lookup 216 (m43 hb) (.agg (m12 x0 x1 x2 x3)) false).run Tryz.prog W=.ok (.bool true) W)
   (exact HR.out _ rfl)
   (fail)
  go_wp2_with fail
  go_region_held3 (fun W=>W.cell? (m25 X)=some (.map (some mb))/\W.cell? (m33 X)=some (.map (some hb))/\W.cell? (m35 X)=some (.int .i64 k.upto)/\W.cell? (m07 w)=some (.int .i64 x0)/\W.cell? (m14 w)=some (.int .i64 x1)/\W.cell? (m17 w)=some (.int .u64 x2)/\W.cell? (m19 w)=some (.int .u64 x3)/\(Instr.lookup 75 (m43 mb) (m67 x2 x3) true).run Tryz.prog W=.ok (.tuple #[u,.bool kn]) W/\(Instr.lookup 216 (m43 hb) (.agg (m12 x0 x1 x2 x3)) false).run Tryz.prog W=.ok (.bool true) W)
   (exact HR.out _ rfl)
   (fail)
  go_wp2
  go_ret
  rw[HRES.out]
  exact⟨rfl,HFIN.out _ _ (HSAME.out _ rfl) (aC.same rfl rfl rfl rfl)⟩
 |false=>
  have hat2:=HNO.out hat
  have HAT:=zH hat2
  have HATB:=zH hat
  clear hat hat2
  cases hpt:Tp.at_ k.slot (x2,x3)with
  |none=>
   have hres:Tp.aM k ⟨x0,x1,x2,x3⟩=(false,k):=by rw[HST.out,HATB.out,hpt];rfl
   have HRES:=zH hres
   have hR:∀W:World,W.heap=w3.heap->VtS X w.heap.size mb hb x0 x1 x2 x3 k.upto (m38) false W:=fun W hW=>by
    have:=HRD.out W hW
    rw[HATB.out,hpt]at this
    exact this
   have HR:=zH hR
   clear hres hpt hR
   go_region_held3 (fun W=>W.cell? (m25 X)=some (.map (some mb))/\W.cell? (m33 X)=some (.map (some hb))/\W.cell? (m35 X)=some (.int .i64 k.upto)/\W.cell? (m07 w)=some (.int .i64 x0)/\W.cell? (m14 w)=some (.int .i64 x1)/\W.cell? (m17 w)=some (.int .u64 x2)/\W.cell? (m19 w)=some (.int .u64 x3)/\(Instr.lookup 75 (m43 mb) (m67 x2 x3) true).run Tryz.prog W=.ok (m38) W/\(Instr.lookup 216 (m43 hb) (.agg (m12 x0 x1 x2 x3)) false).run Tryz.prog W=.ok (.bool false) W)
    (exact HR.out _ rfl)
    (fail)
   go_wp2_with fail
   go_region_held3 (fun W=>W.cell? (m25 X)=some (.map (some mb))/\W.cell? (m33 X)=some (.map (some hb))/\W.cell? (m35 X)=some (.int .i64 k.upto)/\W.cell? (m07 w)=some (.int .i64 x0)/\W.cell? (m14 w)=some (.int .i64 x1)/\W.cell? (m17 w)=some (.int .u64 x2)/\W.cell? (m19 w)=some (.int .u64 x3)/\(Instr.lookup 75 (m43 mb) (m67 x2 x3) true).run Tryz.prog W=.ok (m38) W/\(Instr.lookup 216 (m43 hb) (.agg (m12 x0 x1 x2 x3)) false).run Tryz.prog W=.ok (.bool false) W)
    (exact HR.out _ rfl)
    (fail)
   go_wp2
   go_ret
   rw[HRES.out]
   exact⟨rfl,HFIN.out _ _ (HSAME.out _ rfl) (aC.same rfl rfl rfl rfl)⟩
  |some s=>
   have hR:∀W:World,W.heap=w3.heap->VtS X w.heap.size mb hb x0 x1 x2 x3 k.upto (m34 s) false W:=fun W hW=>by
    have:=HRD.out W hW
    rw[HATB.out,hpt]at this
    exact this
   have HR:=zH hR
   clear hR
   by_cases h1:x1<s
   ·have hres:Tp.aM k ⟨x0,x1,x2,x3⟩=(true,k):=by rw[HST.out,HATB.out,hpt];simp[h1]
    have HRES:=zH hres
    have d1:decide (s>x1)=true:=decide_eq_true h1
    clear hres hpt h1
    go_region_held3 (fun W=>W.cell? (m25 X)=some (.map (some mb))/\W.cell? (m33 X)=some (.map (some hb))/\W.cell? (m35 X)=some (.int .i64 k.upto)/\W.cell? (m07 w)=some (.int .i64 x0)/\W.cell? (m14 w)=some (.int .i64 x1)/\W.cell? (m17 w)=some (.int .u64 x2)/\W.cell? (m19 w)=some (.int .u64 x3)/\(Instr.lookup 75 (m43 mb) (m67 x2 x3) true).run Tryz.prog W=.ok (m34 s) W/\(Instr.lookup 216 (m43 hb) (.agg (m12 x0 x1 x2 x3)) false).run Tryz.prog W=.ok (.bool false) W)
     (exact HR.out _ rfl)
     (fail)
    go_wp2_with fail
    go_region_held3 (fun W=>W.cell? (m25 X)=some (.map (some mb))/\W.cell? (m33 X)=some (.map (some hb))/\W.cell? (m35 X)=some (.int .i64 k.upto)/\W.cell? (m07 w)=some (.int .i64 x0)/\W.cell? (m14 w)=some (.int .i64 x1)/\W.cell? (m17 w)=some (.int .u64 x2)/\W.cell? (m19 w)=some (.int .u64 x3)/\(Instr.lookup 75 (m43 mb) (m67 x2 x3) true).run Tryz.prog W=.ok (m34 s) W/\(Instr.lookup 216 (m43 hb) (.agg (m12 x0 x1 x2 x3)) false).run Tryz.prog W=.ok (.bool false) W)
     (exact HR.out _ rfl)
     (fail)
    go_wp2
    go_ret
    rw[HRES.out]
    exact⟨rfl,HFIN.out _ _ (HSAME.out _ rfl) (aC.same rfl rfl rfl rfl)⟩
   ·have d1:decide (s>x1)=false:=decide_eq_false h1
    by_cases h2:k.upto<x1
    ·have hres:Tp.aM k ⟨x0,x1,x2,x3⟩=(false,k):=by rw[HST.out,HATB.out,hpt];simp[h1,h2]
     have HRES:=zH hres
     have d2:decide (x1>k.upto)=true:=decide_eq_true h2
     clear hres hpt h1 h2
     go_region_held3 (fun W=>W.cell? (m25 X)=some (.map (some mb))/\W.cell? (m33 X)=some (.map (some hb))/\W.cell? (m35 X)=some (.int .i64 k.upto)/\W.cell? (m07 w)=some (.int .i64 x0)/\W.cell? (m14 w)=some (.int .i64 x1)/\W.cell? (m17 w)=some (.int .u64 x2)/\W.cell? (m19 w)=some (.int .u64 x3)/\(Instr.lookup 75 (m43 mb) (m67 x2 x3) true).run Tryz.prog W=.ok (m34 s) W/\(Instr.lookup 216 (m43 hb) (.agg (m12 x0 x1 x2 x3)) false).run Tryz.prog W=.ok (.bool false) W)
      (exact HR.out _ rfl)
      (fail)
     go_wp2_with fail
     go_region_held3 (fun W=>W.cell? (m25 X)=some (.map (some mb))/\W.cell? (m33 X)=some (.map (some hb))/\W.cell? (m35 X)=some (.int .i64 k.upto)/\W.cell? (m07 w)=some (.int .i64 x0)/\W.cell? (m14 w)=some (.int .i64 x1)/\W.cell? (m17 w)=some (.int .u64 x2)/\W.cell? (m19 w)=some (.int .u64 x3)/\(Instr.lookup 75 (m43 mb) (m67 x2 x3) true).run Tryz.prog W=.ok (m34 s) W/\(Instr.lookup 216 (m43 hb) (.agg (m12 x0 x1 x2 x3)) false).run Tryz.prog W=.ok (.bool false) W)
      (exact HR.out _ rfl)
      (fail)
     go_wp2_with fail
     go_region_held3 (fun W=>W.cell? (m25 X)=some (.map (some mb))/\W.cell? (m33 X)=some (.map (some hb))/\W.cell? (m35 X)=some (.int .i64 k.upto)/\W.cell? (m07 w)=some (.int .i64 x0)/\W.cell? (m14 w)=some (.int .i64 x1)/\W.cell? (m17 w)=some (.int .u64 x2)/\W.cell? (m19 w)=some (.int .u64 x3)/\(Instr.lookup 75 (m43 mb) (m67 x2 x3) true).run Tryz.prog W=.ok (m34 s) W/\(Instr.lookup 216 (m43 hb) (.agg (m12 x0 x1 x2 x3)) false).run Tryz.prog W=.ok (.bool false) W)
      (exact HR.out _ rfl)
      (fail)
     go_wp2
     go_ret
     rw[HRES.out]
     exact⟨rfl,HFIN.out _ _ (HSAME.out _ rfl) (aC.same rfl rfl rfl rfl)⟩
    ·have d2:decide (x1>k.upto)=false:=decide_eq_false h2
     by_cases h3:240<=k.v.length
     ·have hres:Tp.aM k ⟨x0,x1,x2,x3⟩=(false,{ k with full:=true }):=by rw[HST.out,HATB.out,hpt];simp[h1,h2,h3]
      have HRES:=zH hres
      have d3:decide ((k.v.length:Int)<240)=false:=decide_eq_false (by omega)
      have d4:decide ((240:Int)<=k.v.length)=true:=decide_eq_true (by omega)
      have D4:=zH d4
      clear hres hpt h1 h2 h3 d4
      go_region_held3 (fun W=>W.cell? (m25 X)=some (.map (some mb))/\W.cell? (m33 X)=some (.map (some hb))/\W.cell? (m35 X)=some (.int .i64 k.upto)/\W.cell? (m07 w)=some (.int .i64 x0)/\W.cell? (m14 w)=some (.int .i64 x1)/\W.cell? (m17 w)=some (.int .u64 x2)/\W.cell? (m19 w)=some (.int .u64 x3)/\(Instr.lookup 75 (m43 mb) (m67 x2 x3) true).run Tryz.prog W=.ok (m34 s) W/\(Instr.lookup 216 (m43 hb) (.agg (m12 x0 x1 x2 x3)) false).run Tryz.prog W=.ok (.bool false) W)
       (exact HR.out _ rfl)
       (fail)
      go_wp2_with fail
      go_region_held3 (fun W=>W.cell? (m25 X)=some (.map (some mb))/\W.cell? (m33 X)=some (.map (some hb))/\W.cell? (m35 X)=some (.int .i64 k.upto)/\W.cell? (m07 w)=some (.int .i64 x0)/\W.cell? (m14 w)=some (.int .i64 x1)/\W.cell? (m17 w)=some (.int .u64 x2)/\W.cell? (m19 w)=some (.int .u64 x3)/\(Instr.lookup 75 (m43 mb) (m67 x2 x3) true).run Tryz.prog W=.ok (m34 s) W/\(Instr.lookup 216 (m43 hb) (.agg (m12 x0 x1 x2 x3)) false).run Tryz.prog W=.ok (.bool false) W)
       (exact HR.out _ rfl)
       (fail)
      go_wp2_with fail
      go_region_held3 (fun W=>W.cell? (m25 X)=some (.map (some mb))/\W.cell? (m33 X)=some (.map (some hb))/\W.cell? (m35 X)=some (.int .i64 k.upto)/\W.cell? (m07 w)=some (.int .i64 x0)/\W.cell? (m14 w)=some (.int .i64 x1)/\W.cell? (m17 w)=some (.int .u64 x2)/\W.cell? (m19 w)=some (.int .u64 x3)/\(Instr.lookup 75 (m43 mb) (m67 x2 x3) true).run Tryz.prog W=.ok (m34 s) W/\(Instr.lookup 216 (m43 hb) (.agg (m12 x0 x1 x2 x3)) false).run Tryz.prog W=.ok (.bool false) W)
       (exact HR.out _ rfl)
       (fail)
      go_wp2_with (go_at_call 148;refine(mK X _ k _ _ w3.drew.drew.drew (HSAME.out _ rfl)).mono ?_;rintro e w4 ⟨rfl,hw4⟩;rw[D4.out,Bool.or_true]at hw4;have HW4:=zH hw4;clear hw4)
      go_ret
      rw[HRES.out,HW4.out]
      have hf:=(HC3.out.keep (w':=w3.drew.drew.drew) (fun j _ _=>rfl)).setFull true
      exact⟨rfl,HFIN.out _ _ ⟨ab,av,cb,cv,mb,hb,hf.1⟩ ((aC.same (w:=w3) (w':=w3.drew.drew.drew) rfl rfl rfl rfl).trans hf.2)⟩
     ·have hres:Tp.aM k ⟨x0,x1,x2,x3⟩=(true,{ k with v:=k.v++[⟨x0,x1,x2,x3⟩],has:=Tp.put k.has ⟨x0,x1,x2,x3⟩ true }):=by rw[HST.out,HATB.out,hpt];simp[h1,h2,h3]
      have HRES:=zH hres
      have d3:decide ((k.v.length:Int)<240)=true:=decide_eq_true (by omega)
      have d4:decide ((240:Int)<=k.v.length)=false:=decide_eq_false (by omega)
      have D4:=zH d4
      have hlen2:k.v.length<240:=by omega
      clear hres hpt h1 h2 h3 d4
      go_region_held3 (fun W=>W.cell? (m25 X)=some (.map (some mb))/\W.cell? (m33 X)=some (.map (some hb))/\W.cell? (m35 X)=some (.int .i64 k.upto)/\W.cell? (m07 w)=some (.int .i64 x0)/\W.cell? (m14 w)=some (.int .i64 x1)/\W.cell? (m17 w)=some (.int .u64 x2)/\W.cell? (m19 w)=some (.int .u64 x3)/\(Instr.lookup 75 (m43 mb) (m67 x2 x3) true).run Tryz.prog W=.ok (m34 s) W/\(Instr.lookup 216 (m43 hb) (.agg (m12 x0 x1 x2 x3)) false).run Tryz.prog W=.ok (.bool false) W)
       (exact HR.out _ rfl)
       (fail)
      go_wp2_with fail
      go_region_held3 (fun W=>W.cell? (m25 X)=some (.map (some mb))/\W.cell? (m33 X)=some (.map (some hb))/\W.cell? (m35 X)=some (.int .i64 k.upto)/\W.cell? (m07 w)=some (.int .i64 x0)/\W.cell? (m14 w)=some (.int .i64 x1)/\W.cell? (m17 w)=some (.int .u64 x2)/\W.cell? (m19 w)=some (.int .u64 x3)/\(Instr.lookup 75 (m43 mb) (m67 x2 x3) true).run Tryz.prog W=.ok (m34 s) W/\(Instr.lookup 216 (m43 hb) (.agg (m12 x0 x1 x2 x3)) false).run Tryz.prog W=.ok (.bool false) W)
       (exact HR.out _ rfl)
       (fail)
      go_wp2_with fail
      go_region_held3 (fun W=>W.cell? (m25 X)=some (.map (some mb))/\W.cell? (m33 X)=some (.map (some hb))/\W.cell? (m35 X)=some (.int .i64 k.upto)/\W.cell? (m07 w)=some (.int .i64 x0)/\W.cell? (m14 w)=some (.int .i64 x1)/\W.cell? (m17 w)=some (.int .u64 x2)/\W.cell? (m19 w)=some (.int .u64 x3)/\(Instr.lookup 75 (m43 mb) (m67 x2 x3) true).run Tryz.prog W=.ok (m34 s) W/\(Instr.lookup 216 (m43 hb) (.agg (m12 x0 x1 x2 x3)) false).run Tryz.prog W=.ok (.bool false) W)
       (exact HR.out _ rfl)
       (fail)
      go_wp2_with (go_at_call 148;refine(mK X _ k _ _ w3.drew.drew.drew (HSAME.out _ rfl)).mono ?_;rintro e w4 ⟨rfl,hw4⟩;rw[D4.out,Bool.or_false]at hw4;have HW4:=zH hw4;clear hw4)
      have hf:=(HC3.out.keep (w':=w3.drew.drew.drew) (fun j _ _=>rfl)).setFull k.full
      rw[<-HW4.out]at hf
      have hK4:aC (fun j=>(S j/\j<w.heap.size)\/w.heap.size+1<=j) w3 w4:=(aC.same (w:=w3) (w':=w3.drew.drew.drew) rfl rfl rfl rfl).trans hf.2
      have hC4:WkC w4.drew X (fun j=>(S j/\j<w.heap.size)\/w.heap.size+1<=j) k ab av cb cv mb hb:=hf.1.keep (fun j _ _=>rfl)
      have hB4:w4.drew.heap[w.heap.size]?=some (.cells (m12 x0 x1 x2 x3) 84 (0,0)):=(hK4.block _ (gS HB3.out) HBS.out).trans HB3.out
      have hS4:=HSUP.out w4.drew hK4.size
      have hK4d:aC (fun j=>(S j/\j<w.heap.size)\/w.heap.size+1<=j) w3 w4.drew:=hK4.trans (aC.same rfl rfl rfl rfl)
      clear hf
      have HC4:=zH hC4
      have HB4:=zH hB4
      have HS4:=zH hS4
      have HK4:=zH hK4d
      clear hC4 hB4 hS4 hK4d hK4
      refine cN [(4,fun W=>W.cell? (m33 X)=some (.map (some hb))),(5,fun W=>W.cell? (m07 w)=some (.int .i64 x0)/\W.cell? (m14 w)=some (.int .i64 x1)/\W.cell? (m17 w)=some (.int .u64 x2)/\W.cell? (m19 w)=some (.int .u64 x3)),(10,fun W=>W.cell? (m15 X)=some (.slice av k.v.length cv)),(11,fun W=>W.cell? (m07 w)=some (.int .i64 x0)/\W.cell? (m14 w)=some (.int .i64 x1)/\W.cell? (m17 w)=some (.int .u64 x2)/\W.cell? (m19 w)=some (.int .u64 x3))] (by kernel_rfl) ?_
      generalize w4.drew=w5 at HC4 HB4 HS4 HK4⊢
      have q0:=zH (VtQ.mk' HC4.out HB4.out)
      have q1:Hid (VtQ X w.heap.size hb x0 x1 x2 x3 (w5.alloc (.cells (m12 x0 x1 x2 x3) 84))):=zH (VtQ.mk' (HC4.out.keep fun j _ hj=>Below.heap_alloc w5 _ j hj) ((Below.heap_alloc w5 _ _ (gS HB4.out)).trans HB4.out))
      have hC41:=HC4.out.keep (w':=(w5.alloc (.cells (m12 x0 x1 x2 x3) 84))) (fun j _ hj=>Below.heap_alloc w5 _ j hj)
      have k1:=zH (hC41.c2.2.1)
      have k0:=zH (HC4.out.c2.2.1)
      have HO:Hid ((w5.alloc (.cells (m12 x0 x1 x2 x3) 84)).ownsRow 0 84 4 (m63 av k.v.length cv) k.v.length (k.v.flatMap aH)):=zH hC41.ov
      clear hC41
      refine wX 0 rfl ?_
      refine wX 1 rfl ?_
      refine wX 2 rfl ?_
      refine wX 3 rfl ?_
      refine wY 0 4 rfl rfl (q0.out.1) ?_
      refine wY 1 5 rfl rfl (q0.out.2.1) ?_
      refine wX 6 rfl ?_
      refine wX 7 rfl ?_
      refine wX 8 rfl ?_
      refine wX 9 rfl ?_
      refine wY 2 10 rfl rfl (k0.out) ?_
      refine wY 3 11 rfl rfl (q0.out.2.2) ?_
      refine cK 12 (by kernel_rfl) rfl (fun K hK=>?_)
      go_simp
      refine hK.out _ _ ?_ ?_
      ·exact⟨.inl q1.out.1,.inl q1.out.2.1,.inl k1.out,.inl q1.out.2.2,trivial⟩
      clear hK K;try simp only[Act.put,pA,pB,pC]
      refine cK 13 (by kernel_rfl) rfl (fun K hK=>?_)
      rw[if_pos (by rfl)]
      refine wp_append_lies _ (.tmp 60) (.tmp 62) 36 (by rfl) 0 84 i0 (.agg (m58)) 4 32 Tryz.underlying36 hi hz0 hz1 hz2 rfl (by decide) _ k.v.length (k.v.flatMap aH) (by rfl) HO.out (m07 w5) 1 1 (aH ⟨x0,x1,x2,x3⟩) (by rfl) rfl (bE _ _ _ _ rfl) (gY _) (by decide) (by unfold maxLen;omega) (by omega) (Nat.zero_le _) (w5.heap.size+1) (by simp) ?_
      intro g cap w6 hown5 hg5 hat5 hlt5
      obtain⟨st,w7,w8,hP,hrun1,hrun2,q5,q6,q7,q8,c6,f6⟩:=aIt HC4.out HS4.out HBS.out HB4.out HAT.out hown5 hg5 hat5
      have HP:=zH hP
      have Q5:=zH q5
      have Q6:=zH q6
      have Q7:=zH q7
      have Q8:=zH q8
      clear hP q5 q6 q7 q8 hown5 hg5 hat5 hlt5
      refine hK.out _ _ ?_ ?_
      ·exact⟨.inl Q5.out.1,.inl Q5.out.2.1,.inl c6,.inl Q5.out.2.2,trivial⟩
      clear hK K;try simp only[Act.put,pA,pB,pC]
      refine wX 14 rfl ?_
      refine wX 15 rfl ?_
      refine wX 16 rfl ?_
      refine cK 17 (by kernel_rfl) rfl (fun K hK=>?_)
      go_simp
      refine hK.out _ _ ?_ ?_
      ·exact⟨.inl Q6.out.1,.inl Q6.out.2.1,.inr (by kernel_rfl),.inl Q6.out.2.2,trivial⟩
      clear hK K;try simp only[Act.put,pA,pB,pC]
      refine cK 18 (by kernel_rfl) rfl (fun K hK=>?_)
      go_simp
      refine hK.out _ _ ?_ ?_
      ·exact⟨.inl Q7.out.1,.inl Q7.out.2.1,.inr (by kernel_rfl),.inl Q7.out.2.2,trivial⟩
      clear hK K;try simp only[Act.put,pA,pB,pC]
      refine wX 19 rfl ?_
      refine cK 20 (by kernel_rfl) rfl (fun K hK=>?_)
      go_simp
      refine hK.out _ _ ?_ ?_
      ·exact⟨.inl Q8.out.1,.inl Q8.out.2.1,.inr (by kernel_rfl),.inl Q8.out.2.2,trivial⟩
      clear hK K;try simp only[Act.put,pA,pB,pC]
      refine cO (by kernel_rfl) ?_ _
      go_wp2
      go_ret
      rw[HRES.out]
      exact⟨rfl,HFIN.out _ _ ⟨_,_,_,_,_,_,HP.out.1⟩ (HK4.out.trans HP.out.2)⟩
end Go.Proofs.YtbbhinehcncmeaaGreat
