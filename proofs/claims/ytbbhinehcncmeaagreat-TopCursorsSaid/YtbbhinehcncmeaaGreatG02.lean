/- A part of the proof of the laws of the top: MixEq, TpBase, TpHeldI, TpKeys, TpMaps. No condition. -/
import Derived.Test.YtbbhinehcncmeaaGreatG00
import Derived.ChangeKeysEq
import Derived.Deep.RegionHeld3
import Derived.Laws.StructEq
import Derived.Maps.OwnOps
import Derived.Maps.OwnSet
import Derived.StillTail
namespace Go.Proofs.YtbbhinehcncmeaaGreat
open Go.RowKit
set_option linter.unusedSimpArgs false
set_option linter.unusedVariables false
set_option linter.unusedSectionVars false
section
open Go
section
variable {P:Program}{ops:Array Oper}{Q:Exit->Act->World->Prop}{md:Region.Mode}{SL:List (Nat×(World->Prop))}
/-- Behind operation j what each reader asks still holds, unless j waits for that reader. -/
def rZ (md:Region.Mode) (ops:Array Oper) (j:Nat) (w:World):List (Nat×(World->Prop))->Prop
  | []=>True
  |p::r=>(p.2 w\/Region.waitsFor md ops j p.1=true)/\rZ md ops j w r
theorem rZ.mem {j:Nat}{w:World}:∀{l:List (Nat×(World->Prop))},rZ md ops j w l->∀{i:Nat}{S:World->Prop},(i,S)∈l->Region.waitsFor md ops j i=false->S w
  |p::r,h,i,S,hm,hw=>by
    rcases List.mem_cons.1 hm with e|hm
    · subst e
      rcases h.1 with h1|h1
      · exact h1
      · rw[hw]at h1;cases h1
    · exact rZ.mem h.2 hm hw
def aB (P:Program) (md:Region.Mode) (ops:Array Oper) (Q:Exit->Act->World->Prop) (SL:List (Nat×(World->Prop))):Nat->Array Bool->Act->World->Prop
  |0,listed,a,w=>Region.ready md ops listed=[]/\Q .normal a w
  |fuel+1,listed,a,w=>
    (Region.ready md ops listed=[]->Q .normal a w)/\
    ∀i∈Region.ready md ops listed,wpOp P ops Q i (fun a' w'=>(w'=w\/rZ md ops i w' SL)/\aB P md ops Q SL fuel (listed.setIfInBounds i true) a' w') a w
theorem pG :∀(fuel:Nat) (listed:Array Bool) (a:Act) (w:World),aB P md ops Q SL fuel listed a w->wpAny P md ops Q fuel listed a w
  |0,_,_,_,h=>h
  |fuel+1,_,_,_,h=>⟨h.1,fun i hi=>wpOp_mono (fun a' w' h'=>pG fuel _ a' w' h'.2) (h.2 i hi)⟩
theorem lT {i:Nat}{oi:Oper}{v:Value}{S:World->Prop}(hi:ops[i]?=some oi)(hsel:∀(j:Nat) (o:Oper) cs b,ops[j]?=some o->o.op≠.select cs b)(hQ:∀c a w,Q (.panic c) (a.put oi.dst v) w->Q (.panic c) a w)(hS':∀j w',rZ md ops j w' SL->Region.waitsFor md ops j i=false->S w'):
    ∀(fuel:Nat) (listed:Array Bool) (a:Act) (w:World),
      (∀j oj,ops[j]?=some oj->j≠i->listed.getD j true=false->(∀e∈oj.after,Region.binds md e=true->e.on≠i)->oi.apart ops oj=true)->
      i∈Region.ready md ops listed->YieldsIf P ops S oi v a->S w->
      aB P md ops Q SL fuel (listed.setIfInBounds i true) (a.put oi.dst v) w->aB P md ops Q SL (fuel+1) listed a w:=by
  intro fuel
  induction fuel with
  |zero=>
    intro listed a w _ hr hy hS H
    refine⟨fun h=>(by rw[h]at hr;cases hr),fun j hj=>?_⟩
    by_cases hji:j=i
    · subst hji;exact hy.wpOp hi hS ⟨.inl rfl,H⟩
    · have:=ready_mono hj hji
      rw[H.1]at this
      cases this
  |succ fuel ih=>
    intro listed a w hfree hr hy hS H
    refine⟨fun h=>(by rw[h]at hr;cases hr),fun j hj=>?_⟩
    by_cases hji:j=i
    · subst hji;exact hy.wpOp hi hS ⟨.inl rfl,H⟩
    · have h1:=H.2 j (ready_mono hj hji)
      obtain⟨hjun,oj,hoj,hall⟩:=mem_ready.1 hj
      have hnot:∀e∈oj.after,Region.binds md e=true->e.on≠i:=fun e he hb heq=>by
        have h1:=hall e he hb
        have h0:=(mem_ready.1 hr).1
        rw[heq]at h1
        rcases Nat.lt_or_ge i listed.size with h'|h'
        · simp[h']at h0 h1;rw[h0]at h1;cases h1
        · simp[Array.getElem?_eq_none h']at h1
      have hwf:Region.waitsFor md ops j i=false:=by
        rw[Bool.eq_false_iff]
        intro hw
        obtain⟨oj',hoj',e,he,hb,hon⟩:=Region.waitsFor_spec hw
        rw[hoj]at hoj'
        cases hoj'
        exact hnot e he hb hon
      have h2:=wpOp_putIf hoj (hfree j oj hoj hji hjun hnot) (fun cs b=>hsel i oi cs b hi) (fun cs b=>hsel j oj cs b hoj) hQ hy h1
      have hfree':∀k ok,ops[k]?=some ok->k≠i->(listed.setIfInBounds j true).getD k true=false->
          (∀e∈ok.after,Region.binds md e=true->e.on≠i)->oi.apart ops ok=true:=fun k ok hk hki hun hno=>by
        refine hfree k ok hk hki ?_ hno
        by_cases hjk:j=k
        · subst hjk;exact hjun
        · rw[getD_set_ne true hjk]at hun;exact hun
      refine wpOp_mono (fun a' w' h3=>⟨h3.2.1,ih (listed.setIfInBounds j true) a' w' hfree' (ready_mono hr (Ne.symm hji)) h3.1 (h3.2.1.elim (fun e=>e▸hS) (fun h=>hS' j w' h hwf)) ?_⟩) h2
      rw[Array.setIfInBounds_comm _ _ hji]
      exact h3.2.2
/-- Take a reader first. -/
theorem aZ (i:Nat){oi:Oper}{v:Value}{S:World->Prop}{fuel:Nat}{listed:Array Bool}{a:Act}{w:World}(hm:(i,S)∈SL)(hi:ops[i]?=some oi)(hs:Region.noSelect ops=true)(hf:Region.free md ops listed i=true)(hr:(Region.ready md ops listed).contains i=true)(hQ:∀c a w,Q (.panic c) (a.put oi.dst v) w->Q (.panic c) a w)(hy:YieldsIf P ops S oi v a)(hS:S w)(h:aB P md ops Q SL fuel (listed.setIfInBounds i true) (a.put oi.dst v) w):aB P md ops Q SL (fuel+1) listed a w:=
  lT hi (Region.noSelect_spec hs) hQ (fun j w' h hw=>h.mem hm hw) fuel listed a w (Region.free_spec hi hf) (by simpa using hr) hy hS h
/-- Take first what yields in whatever world. -/
theorem bH (i:Nat){oi:Oper}{v:Value}{fuel:Nat}{listed:Array Bool}{a:Act}{w:World}(hi:ops[i]?=some oi)(hs:Region.noSelect ops=true)(hf:Region.free md ops listed i=true)(hr:(Region.ready md ops listed).contains i=true)(hQ:∀c a w,Q (.panic c) (a.put oi.dst v) w->Q (.panic c) a w)(hy:YieldsIf P ops (fun _=>True) oi v a)(h:aB P md ops Q SL fuel (listed.setIfInBounds i true) (a.put oi.dst v) w):aB P md ops Q SL (fuel+1) listed a w:=
  lT (S:=fun _=>True) hi (Region.noSelect_spec hs) hQ (fun _ _ _ _=>trivial) fuel listed a w (Region.free_spec hi hf) (by simpa using hr) hy trivial h
def aA (P:Program) (md:Region.Mode) (ops:Array Oper) (Q:Exit->Act->World->Prop) (SL:List (Nat×(World->Prop))) (fuel:Nat) (listed:Array Bool) (a:Act) (w:World) (rs:List Nat):Prop:=
  ∀i∈rs,wpOp P ops Q i (fun a' w'=>(w'=w\/rZ md ops i w' SL)/\aB P md ops Q SL fuel (listed.setIfInBounds i true) a' w') a w
theorem cE {fuel:Nat}{listed:Array Bool}{a:Act}{w:World}:aA P md ops Q SL fuel listed a w []:=fun _ h=>by cases h
theorem cD (i:Nat){fuel:Nat}{listed:Array Bool}{a:Act}{w:World}{o:Oper}{rs:List Nat}(ho:ops[i]?=some o)(h:∀K':Act->World->Prop,Shut (∀a w,rZ md ops i w SL->aB P md ops Q SL fuel (listed.setIfInBounds i true) a w->K' a w)->if Region.wanted o (yielded ops a.tmps)=true then Oper.wp P o a w K' Q else K' (a.put o.dst undef) w)(hs:aA P md ops Q SL fuel listed a w rs):aA P md ops Q SL fuel listed a w (i::rs):=fun j hj=>by
  rcases List.mem_cons.1 hj with rfl|hj
  · exact wpOp_step ho (fun K' hK=>h K' (fun a w hS hW=>hK a w ⟨.inr hS,hW⟩))
  · exact hs j hj
theorem cJ (rs:List Nat){fuel:Nat}{listed:Array Bool}{a:Act}{w:World}(hr:Region.ready md ops listed=rs)(hne:rs≠[])(h:aA P md ops Q SL fuel listed a w rs):aB P md ops Q SL (fuel+1) listed a w:=⟨fun h0=>absurd (hr▸h0) hne,hr▸h⟩
/-- One alone may come up. -/
theorem cK (i:Nat){fuel:Nat}{listed:Array Bool}{a:Act}{w:World}{o:Oper}(hr:Region.ready md ops listed=[i])(ho:ops[i]?=some o)(h:∀K':Act->World->Prop,Shut (∀a w,rZ md ops i w SL->aB P md ops Q SL fuel (listed.setIfInBounds i true) a w->K' a w)->if Region.wanted o (yielded ops a.tmps)=true then Oper.wp P o a w K' Q else K' (a.put o.dst undef) w):
    aB P md ops Q SL (fuel+1) listed a w:=cJ [i] hr (by simp) (cD i ho h cE)
theorem cO {listed:Array Bool}{a:Act}{w:World}(hr:Region.ready md ops listed=[])(h:Q .normal a w):∀fuel,aB P md ops Q SL fuel listed a w
  |0=>⟨hr,h⟩
  |_+1=>⟨fun _=>h,by rw[hr];simp⟩
theorem cN (SL:List (Nat×(World->Prop))){id:Nat}{a:Act}{w:World}(hm:P.follows .mixedOrders=true)(h:aB P .any ops Q SL ops.size (Array.replicate ops.size false) a w.drew):(Code.region id ops true).wp P Q a w:=
  wp_region_any hm (pG _ _ _ _ h)
end
end
theorem kc2 {w:World}{b:Nat}{v0 v1:Value}{r:List Value}{t:TypeId}(h:w.heap[b]?=some (.cells (List.toArray (v0::v1::r)) t (0,0))):w.cell? ⟨b,0,none⟩=some v0/\w.cell? ⟨b,1,none⟩=some v1:=by simp[World.cell?,h]
theorem kf2 {w:World}{b:Nat}{c:Array Value}{t:TypeId}(h:w.heap[b]?=some (.cells c t (0,0))):w.frozen? ⟨b,0,none⟩=false/\w.frozen? ⟨b,1,none⟩=false:=by simp[World.frozen?,h]
theorem kc3 {w:World}{b:Nat}{v0 v1 v2:Value}{r:List Value}{t:TypeId}(h:w.heap[b]?=some (.cells (List.toArray (v0::v1::v2::r)) t (0,0))):w.cell? ⟨b,0,none⟩=some v0/\w.cell? ⟨b,1,none⟩=some v1/\w.cell? ⟨b,2,none⟩=some v2:=by simp[World.cell?,h]
theorem kf3 {w:World}{b:Nat}{c:Array Value}{t:TypeId}(h:w.heap[b]?=some (.cells c t (0,0))):w.frozen? ⟨b,0,none⟩=false/\w.frozen? ⟨b,1,none⟩=false/\w.frozen? ⟨b,2,none⟩=false:=by simp[World.frozen?,h]
theorem kc4 {w:World}{b:Nat}{v0 v1 v2 v3:Value}{r:List Value}{t:TypeId}(h:w.heap[b]?=some (.cells (List.toArray (v0::v1::v2::v3::r)) t (0,0))):w.cell? ⟨b,0,none⟩=some v0/\w.cell? ⟨b,1,none⟩=some v1/\w.cell? ⟨b,2,none⟩=some v2/\w.cell? ⟨b,3,none⟩=some v3:=by simp[World.cell?,h]
theorem kf4 {w:World}{b:Nat}{c:Array Value}{t:TypeId}(h:w.heap[b]?=some (.cells c t (0,0))):w.frozen? ⟨b,0,none⟩=false/\w.frozen? ⟨b,1,none⟩=false/\w.frozen? ⟨b,2,none⟩=false/\w.frozen? ⟨b,3,none⟩=false:=by simp[World.frozen?,h]
theorem kc5 {w:World}{b:Nat}{v0 v1 v2 v3 v4:Value}{r:List Value}{t:TypeId}(h:w.heap[b]?=some (.cells (List.toArray (v0::v1::v2::v3::v4::r)) t (0,0))):w.cell? ⟨b,0,none⟩=some v0/\w.cell? ⟨b,1,none⟩=some v1/\w.cell? ⟨b,2,none⟩=some v2/\w.cell? ⟨b,3,none⟩=some v3/\w.cell? ⟨b,4,none⟩=some v4:=by simp[World.cell?,h]
theorem kc9 {w:World}{b:Nat}{v0 v1 v2 v3 v4 v5 v6 v7 v8:Value}{r:List Value}{t:TypeId}(h:w.heap[b]?=some (.cells (List.toArray (v0::v1::v2::v3::v4::v5::v6::v7::v8::r)) t (0,0))):w.cell? ⟨b,0,none⟩=some v0/\w.cell? ⟨b,1,none⟩=some v1/\w.cell? ⟨b,2,none⟩=some v2/\w.cell? ⟨b,3,none⟩=some v3/\w.cell? ⟨b,4,none⟩=some v4/\w.cell? ⟨b,5,none⟩=some v5/\w.cell? ⟨b,6,none⟩=some v6/\w.cell? ⟨b,7,none⟩=some v7/\w.cell? ⟨b,8,none⟩=some v8:=by simp[World.cell?,h]
theorem kf9 {w:World}{b:Nat}{c:Array Value}{t:TypeId}(h:w.heap[b]?=some (.cells c t (0,0))):w.frozen? ⟨b,0,none⟩=false/\w.frozen? ⟨b,1,none⟩=false/\w.frozen? ⟨b,2,none⟩=false/\w.frozen? ⟨b,3,none⟩=false/\w.frozen? ⟨b,4,none⟩=false/\w.frozen? ⟨b,5,none⟩=false/\w.frozen? ⟨b,6,none⟩=false/\w.frozen? ⟨b,7,none⟩=false/\w.frozen? ⟨b,8,none⟩=false:=by simp[World.frozen?,h]
theorem kc12 {w:World}{b:Nat}{v0 v1 v2 v3 v4 v5 v6 v7 v8 v9 v10 v11:Value}{r:List Value}{t:TypeId}(h:w.heap[b]?=some (.cells (List.toArray (v0::v1::v2::v3::v4::v5::v6::v7::v8::v9::v10::v11::r)) t (0,0))):w.cell? ⟨b,0,none⟩=some v0/\w.cell? ⟨b,1,none⟩=some v1/\w.cell? ⟨b,2,none⟩=some v2/\w.cell? ⟨b,3,none⟩=some v3/\w.cell? ⟨b,4,none⟩=some v4/\w.cell? ⟨b,5,none⟩=some v5/\w.cell? ⟨b,6,none⟩=some v6/\w.cell? ⟨b,7,none⟩=some v7/\w.cell? ⟨b,8,none⟩=some v8/\w.cell? ⟨b,9,none⟩=some v9/\w.cell? ⟨b,10,none⟩=some v10/\w.cell? ⟨b,11,none⟩=some v11:=by simp[World.cell?,h]
theorem kc16 {w:World}{b:Nat}{v0 v1 v2 v3 v4 v5 v6 v7 v8 v9 v10 v11 v12 v13 v14 v15:Value}{r:List Value}{t:TypeId}(h:w.heap[b]?=some (.cells (List.toArray (v0::v1::v2::v3::v4::v5::v6::v7::v8::v9::v10::v11::v12::v13::v14::v15::r)) t (0,0))):w.cell? ⟨b,0,none⟩=some v0/\w.cell? ⟨b,1,none⟩=some v1/\w.cell? ⟨b,2,none⟩=some v2/\w.cell? ⟨b,3,none⟩=some v3/\w.cell? ⟨b,4,none⟩=some v4/\w.cell? ⟨b,5,none⟩=some v5/\w.cell? ⟨b,6,none⟩=some v6/\w.cell? ⟨b,7,none⟩=some v7/\w.cell? ⟨b,8,none⟩=some v8/\w.cell? ⟨b,9,none⟩=some v9/\w.cell? ⟨b,10,none⟩=some v10/\w.cell? ⟨b,11,none⟩=some v11/\w.cell? ⟨b,12,none⟩=some v12/\w.cell? ⟨b,13,none⟩=some v13/\w.cell? ⟨b,14,none⟩=some v14/\w.cell? ⟨b,15,none⟩=some v15:=by simp[World.cell?,h]
theorem kf16 {w:World}{b:Nat}{c:Array Value}{t:TypeId}(h:w.heap[b]?=some (.cells c t (0,0))):w.frozen? ⟨b,0,none⟩=false/\w.frozen? ⟨b,1,none⟩=false/\w.frozen? ⟨b,2,none⟩=false/\w.frozen? ⟨b,3,none⟩=false/\w.frozen? ⟨b,4,none⟩=false/\w.frozen? ⟨b,5,none⟩=false/\w.frozen? ⟨b,6,none⟩=false/\w.frozen? ⟨b,7,none⟩=false/\w.frozen? ⟨b,8,none⟩=false/\w.frozen? ⟨b,9,none⟩=false/\w.frozen? ⟨b,10,none⟩=false/\w.frozen? ⟨b,11,none⟩=false/\w.frozen? ⟨b,12,none⟩=false/\w.frozen? ⟨b,13,none⟩=false/\w.frozen? ⟨b,14,none⟩=false/\w.frozen? ⟨b,15,none⟩=false:=by simp[World.frozen?,h]
theorem nr {n:Nat}:n<=n:=Nat.le_refl _
theorem zH {p:Prop}(h:p):Hid p:=Lib.hid h
theorem bS {w0 w w1:World}(h:Below w0.heap.size w0 w)(hb:Below w.heap.size w w1):Below w0.heap.size w0 w1:=h.trans (hb.mono h.size)
theorem bK {w w1:World}{b:Nat}{o:Obj}(hb:Below w.heap.size w w1)(h:w.heap[b]?=some o):w1.heap[b]?=some o:=(hb.block b (Array.getElem?_eq_some_iff.1 h).1).trans h
theorem hl2 {a0 b0 a1 b1:Prop}(h:a0/\a1):(a0\/b0)/\(a1\/b1)/\True:=⟨.inl h.1,.inl h.2,trivial⟩
theorem hl3 {a0 b0 a1 b1 a2 b2:Prop}(h:a0/\a1/\a2):(a0\/b0)/\(a1\/b1)/\(a2\/b2)/\True:=⟨.inl h.1,.inl h.2.1,.inl h.2.2,trivial⟩
theorem hl4 {a0 b0 a1 b1 a2 b2 a3 b3:Prop}(h:a0/\a1/\a2/\a3):(a0\/b0)/\(a1\/b1)/\(a2\/b2)/\(a3\/b3)/\True:=⟨.inl h.1,.inl h.2.1,.inl h.2.2.1,.inl h.2.2.2,trivial⟩
theorem hl5 {a0 b0 a1 b1 a2 b2 a3 b3 a4 b4:Prop}(h:a0/\a1/\a2/\a3/\a4):(a0\/b0)/\(a1\/b1)/\(a2\/b2)/\(a3\/b3)/\(a4\/b4)/\True:=⟨.inl h.1,.inl h.2.1,.inl h.2.2.1,.inl h.2.2.2.1,.inl h.2.2.2.2,trivial⟩
theorem hl6 {a0 b0 a1 b1 a2 b2 a3 b3 a4 b4 a5 b5:Prop}(h:a0/\a1/\a2/\a3/\a4/\a5):(a0\/b0)/\(a1\/b1)/\(a2\/b2)/\(a3\/b3)/\(a4\/b4)/\(a5\/b5)/\True:=⟨.inl h.1,.inl h.2.1,.inl h.2.2.1,.inl h.2.2.2.1,.inl h.2.2.2.2.1,.inl h.2.2.2.2.2,trivial⟩
theorem hl7 {a0 b0 a1 b1 a2 b2 a3 b3 a4 b4 a5 b5 a6 b6:Prop}(h:a0/\a1/\a2/\a3/\a4/\a5/\a6):(a0\/b0)/\(a1\/b1)/\(a2\/b2)/\(a3\/b3)/\(a4\/b4)/\(a5\/b5)/\(a6\/b6)/\True:=⟨.inl h.1,.inl h.2.1,.inl h.2.2.1,.inl h.2.2.2.1,.inl h.2.2.2.2.1,.inl h.2.2.2.2.2.1,.inl h.2.2.2.2.2.2,trivial⟩
theorem hl8 {a0 b0 a1 b1 a2 b2 a3 b3 a4 b4 a5 b5 a6 b6 a7 b7:Prop}(h:a0/\a1/\a2/\a3/\a4/\a5/\a6/\a7):(a0\/b0)/\(a1\/b1)/\(a2\/b2)/\(a3\/b3)/\(a4\/b4)/\(a5\/b5)/\(a6\/b6)/\(a7\/b7)/\True:=⟨.inl h.1,.inl h.2.1,.inl h.2.2.1,.inl h.2.2.2.1,.inl h.2.2.2.2.1,.inl h.2.2.2.2.2.1,.inl h.2.2.2.2.2.2.1,.inl h.2.2.2.2.2.2.2,trivial⟩
theorem gS {α:Type}{a:Array α}{i:Nat}{v:α}(h:a[i]?=some v):i<a.size:=(Array.getElem?_eq_some_iff.1 h).1
theorem pA {α:Type}(l:List α)(i:Nat)(a:α):l.toArray.setIfInBounds i a=(l.set i a).toArray:=List.setIfInBounds_toArray ..
theorem pB {α:Type}(x y:α)(l:List α):(x::l).set 0 y=y::l:=rfl
theorem pC {α:Type}(x y:α)(l:List α)(i:Nat):(x::l).set (i+1) y=x::l.set i y:=rfl
section
variable {P:Program}{ops:Array Oper}{Q:Exit->Act->World->Prop}{md:Region.Mode}{SL:List (Nat×(World->Prop))}
theorem wX (i:Nat){oi:Oper}{v:Value}{fuel:Nat}{listed:Array Bool}{a a':Act}{w:World}(hi:ops[i]?=some oi)(h:aB P md ops Q SL fuel (listed.setIfInBounds i true) a' w)(hv:∀w,True->(execOp a.eval oi).run P w=.ok (.value v) w:=by intro w' _;go_simp;try with_reducible rfl)(ha:a.put oi.dst v=a':=by first|(simp only[Act.put,List.setIfInBounds_toArray,List.set_cons_zero,List.set_cons_succ];exact rfl)|exact rfl)(hw:Region.wanted oi (yielded ops a.tmps)=true:=by rfl)(hs:Region.noSelect ops=true:=by kernel_rfl)(hf:Region.free md ops listed i=true:=by kernel_rfl)(hr:(Region.ready md ops listed).contains i=true:=by kernel_rfl)(hQ:∀c a w,Q (.panic c) (a.put oi.dst v) w->Q (.panic c) a w:=by exact fun _ _ _ h=>h):aB P md ops Q SL (fuel+1) listed a w:=
  bH i hi hs hf hr hQ (.inl ⟨hw,hv⟩) (ha▸h)
theorem wY (k i:Nat){oi:Oper}{v:Value}{S:World->Prop}{fuel:Nat}{listed:Array Bool}{a a':Act}{w:World}(hm:SL[k]?=some (i,S))(hi:ops[i]?=some oi)(hS:S w)(h:aB P md ops Q SL fuel (listed.setIfInBounds i true) a' w)(hv:∀w,S w->(execOp a.eval oi).run P w=.ok (.value v) w:=by intro w' hSw;(try dsimp only at hSw);(try go_split_ands);go_simp;try with_reducible rfl)(ha:a.put oi.dst v=a':=by first|(simp only[Act.put,List.setIfInBounds_toArray,List.set_cons_zero,List.set_cons_succ];exact rfl)|exact rfl)(hw:Region.wanted oi (yielded ops a.tmps)=true:=by rfl)(hs:Region.noSelect ops=true:=by kernel_rfl)(hf:Region.free md ops listed i=true:=by kernel_rfl)(hr:(Region.ready md ops listed).contains i=true:=by kernel_rfl)(hQ:∀c a w,Q (.panic c) (a.put oi.dst v) w->Q (.panic c) a w:=by exact fun _ _ _ h=>h):aB P md ops Q SL (fuel+1) listed a w:=
  aZ i (List.mem_of_getElem? hm) hi hs hf hr hQ (.inl ⟨hw,hv⟩) hS (ha▸h)
end
theorem eqID (d:Nat)(a0 a1 b0 b1:Int)(w:World):
    (Op.equalIn (d+2) 40 (.agg #[.int .u64 a0,.int .u64 a1]) (.agg #[.int .u64 b0,.int .u64 b1])).run Tryz.prog w=.ok (a0==b0&&a1==b1) w:=by
  have hu:Tryz.prog.underlying 40=some (.array 2 23):=by kernel_rfl
  obtain⟨i,hi⟩:∃i,Tryz.prog.info? 23=some i:=by
    have h:(Tryz.prog.info? 23).isSome=true:=by kernel_rfl
    exact Option.isSome_iff_exists.1 h
  have hc:Tryz.prog.cellsOf 23=1:=by kernel_rfl
  have uE:=Tryz.underlying23
  have aE:=Tryz.isAgg23
  rw[show d+2=(d+1)+1 from rfl,run_equalIn_array w (d+1) _ _ hu hi,hc,show List.range 2=[0,1]from rfl]
  simp only[Op.eqItems]
  go_simp
  by_cases h1:a0=b0<;>by_cases h2:a1=b1<;>simp[h1,h2]
theorem tX (a0 a1 b0 b1:Int)(w:World):
    (Op.equalIn 10000 40 (.agg #[.int .u64 a0,.int .u64 a1]) (.agg #[.int .u64 b0,.int .u64 b1])).run Tryz.prog w=.ok (a0==b0&&a1==b1) w:=
  eqID 9998 a0 a1 b0 b1 w
namespace Tp
section
variable {K V:Type} [DecidableEq K]
def at_ (m:List (K×V)) (k:K):Option V:=(m.find? (fun p=>decide (k=p.1))).map (·.2)
def put :List (K×V)->K->V->List (K×V)
 | [],k,v=>[(k,v)]
 |p::r,k,v=>if k=p.1 then(k,v)::r else p::put r k v
theorem oP (k:K):at_ ([]:List (K×V)) k=none:=rfl
theorem dG (p:K×V)(r:List (K×V))(k:K):at_ (p::r) k=if k=p.1 then some p.2 else at_ r k:=by
 unfold at_
 rw[List.find?_cons]
 by_cases h:k=p.1<;>simp[h]
theorem dF (m:List (K×V))(k:K)(v:V)(a:K):at_ (put m k v) a=if a=k then some v else at_ m a:=by
 induction m with
 |nil=>rw[put,dG,oP]
 |cons p r ih=>
  unfold put
  by_cases h:k=p.1
  ·subst h
   rw[if_pos rfl,dG,dG]
   by_cases h2:a=p.1<;>simp[h2]
  ·rw[if_neg h,dG,dG,ih]
   by_cases h2:a=p.1
   ·subst h2
    simp[Ne.symm h]
   ·simp[h2]
theorem jG (m:List (K×V))(k:K)(v:V):(put m k v).length=if(at_ m k).isSome then m.length else m.length+1:=by
 induction m with
 |nil=>rfl
 |cons p r ih=>
  unfold put
  rw[dG]
  by_cases h:k=p.1
  ·simp[h]
  ·rw[if_neg h,if_neg h,List.length_cons,ih,List.length_cons]
   split<;>rfl
end
end Tp
def bD {K V:Type} (ke:K->Value) (ve:V->Value) (w:World) (b:Nat) (m:List (K×V)):Prop:=
 ∃es clock,w.heap[b]?=some (.map es clock)/\es.toList.map (fun e=>(e.key,e.val))=m.map (fun p=>(ke p.1,ve p.2))
theorem bD.lt {K V:Type}{ke:K->Value}{ve:V->Value}{w:World}{b:Nat}{m:List (K×V)}(h:bD ke ve w b m):b<w.heap.size:=by
 obtain⟨es,c,h,_⟩:=h
 exact(gS h)
theorem bD.same {K V:Type}{ke:K->Value}{ve:V->Value}{w w':World}{b:Nat}{m:List (K×V)}(h:bD ke ve w b m)(hs:w'.heap[b]?=w.heap[b]?):bD ke ve w' b m:=by
 obtain⟨es,c,h1,h2⟩:=h
 exact⟨es,c,hs.trans h1,h2⟩
theorem bD.keep {K V:Type}{ke:K->Value}{ve:V->Value}{w w':World}{b:Nat}{m:List (K×V)}(h:bD ke ve w b m)(hb:Below w.heap.size w w'):bD ke ve w' b m:=h.same (hb.block b h.lt)
theorem bD.below {K V:Type}{ke:K->Value}{ve:V->Value}{w w':World}{b N:Nat}{m:List (K×V)}(h:bD ke ve w b m)(hb:Below N w w')(hN:b<N):bD ke ve w' b m:=h.same (hb.block b hN)
theorem bD.made {K V:Type}(ke:K->Value)(ve:V->Value)(w:World):bD ke ve (w.alloc (.map #[] 0)) w.heap.size ([]:List (K×V)):=
 ⟨#[],0,heap_alloc_new w _,rfl⟩
structure KeyT (P:Program) (kt:TypeId) {K:Type} [DecidableEq K] (ke:K->Value):Prop where
 chk:∀em k (w:World),(Instr.checkKey em 10000 kt (ke k)).run P w=.ok () w
 find:∀(k:K) (l:List K) (es:List MapEntry) (w:World),es.map (fun e=>e.key)=l.map ke->
  (Instr.findKey kt (ke k) es).run P w=.ok (((es.zip l).findIdx? (fun p=>decide (k=p.2))).bind fun i=>(es[i]?).map fun e=>(i,e.val)) w
 bits:∀k,Instr.sameBits 10000 (ke k) (ke k)=true
theorem wF {P:Program}{kt:TypeId}{K:Type} [DecidableEq K] {ke:K->Value} (heq:∀a b (w:World),(Op.equal kt (ke a) (ke b)).run P w=.ok (decide (a=b)) w) (k:K) (w:World):
  ∀(l:List K) (es:List MapEntry) (i:Nat),es.map (fun e=>e.key)=l.map ke->
  (Instr.findAsking kt (ke k) es i).run P w=.ok (((es.zip l).findIdx? (fun p=>decide (k=p.2))).bind fun j=>(es[j]?).map fun e=>(i+j,e.val)) w:=by
 intro l es
 induction es generalizing l with
 |nil=>intro i h;simp[Instr.findAsking]
 |cons e r ih=>
  intro i h
  match l,h with
  |a::l,h=>
   simp only[List.map_cons,List.cons.injEq]at h
   unfold Instr.findAsking
   rw[h.1]
   simp only[Sem.run_bind,heq,Result.andThen_ok]
   by_cases hk:k=a
   ·subst hk
    simp[List.findIdx?_cons]
   ·simp only[hk,decide_false,List.zip_cons_cons,List.findIdx?_cons]
    rw[show(if false=true then(pure (some (i,e.val)):Sem (Option (Nat×Value)))else Instr.findAsking kt (ke k) r (i+1))=Instr.findAsking kt (ke k) r (i+1)from rfl,ih l (i+1) h.2]
    congr 1
    cases(r.zip l).findIdx? (fun p=>decide (k=p.2))with
    |none=>rfl
    |some j=>simp[Nat.add_assoc,Nat.add_comm 1 j]
theorem KeyT.asking {P:Program}{kt:TypeId}{K:Type} [DecidableEq K] {ke:K->Value} (heq:∀a b (w:World),(Op.equal kt (ke a) (ke b)).run P w=.ok (decide (a=b)) w)
  (hchk:∀em k (w:World),(Instr.checkKey em 10000 kt (ke k)).run P w=.ok () w) (hbits:∀k,Instr.sameBits 10000 (ke k) (ke k)=true)
  {d:TypeDesc} (hd:P.underlying kt=some d) (hno:∀a b,Instr.sameNow d (ke a) (ke b)=none):KeyT P kt ke:=by
 refine⟨hchk,?_,hbits⟩
 intro k l es w h
 unfold Instr.findKey
 simp only[Sem.run_bind,run_underlying hd,Result.andThen_ok]
 match es,l,h with
 | [],_,_=>simp[Instr.findNow]
 |e::r,a::l,h=>
  have hk:e.key=ke a:=by simp only[List.map_cons,List.cons.injEq]at h;exact h.1
  have hn:Instr.findNow d (ke k) (e::r) 0=none:=by
   unfold Instr.findNow
   rw[hk,hno]
  rw[hn]
  have:=wF heq k w (a::l) (e::r) 0 h
  simp only[Nat.zero_add]at this
  exact this
section
variable {P:Program}{kt et t:TypeId}{K V:Type} [DecidableEq K] {ke:K->Value}{ve:V->Value}
theorem jM (k:K):∀(m:List (K×V)) (es:List MapEntry),es.map (fun e=>(e.key,e.val))=m.map (fun p=>(ke p.1,ve p.2))->
  ((es.zip (m.map (·.1))).findIdx? (fun p=>decide (k=p.2))).bind (fun i=>(es[i]?).map fun e=>(i,e.val))=(m.findIdx? (fun p=>decide (k=p.1))).bind fun j=>(m[j]?).map fun p=>(j,ve p.2):=by
 intro m
 induction m with
 |nil=>intro es h;simp
 |cons p r ih=>
  intro es h
  match es,h with
  |e::q,h=>
   simp only[List.map_cons,List.cons.injEq,Prod.mk.injEq]at h
   obtain⟨⟨_,h2⟩,h3⟩:=h
   have:=ih q h3
   simp only[List.map_cons,List.zip_cons_cons,List.findIdx?_cons]
   by_cases hk:k=p.1
   ·simp[hk,h2]
   ·simp only[hk,decide_false,Bool.false_eq_true,if_false,Option.bind_map,Function.comp_def]
    have e1:=congrArg (Option.map fun x:Nat×Value=>(x.1+1,x.2)) this
    simp only[Option.map_bind,Function.comp_def,Option.map_map]at e1
    simpa using e1
theorem aIk (m:List (K×V))(k:K):Tp.at_ m k=(m.findIdx? (fun p=>decide (k=p.1))).bind fun j=>(m[j]?).map (·.2):=by
 induction m with
 |nil=>rfl
 |cons p r ih=>
  rw[Tp.dG,List.findIdx?_cons]
  by_cases h:k=p.1
  ·simp[h]
  ·simp only[h,if_false,decide_false,Bool.false_eq_true,Option.bind_map,Function.comp_def]
   rw[ih]
   simp
theorem qN (m:List (K×V))(k:K)(v:V):Tp.put m k v=match m.findIdx? (fun p=>decide (k=p.1))with|some j=>m.set j (k,v)|none=>m++[(k,v)]:=by
 induction m with
 |nil=>rfl
 |cons p r ih=>
  rw[List.findIdx?_cons]
  unfold Tp.put
  by_cases h:k=p.1
  ·simp[h]
  ·simp only[h,if_false,decide_false,Bool.false_eq_true]
   rw[ih]
   cases r.findIdx? (fun p=>decide (k=p.1))with
   |none=>rfl
   |some j=>rfl
theorem oB (T:KeyT P kt ke){w:World}{m:List (K×V)}{es:List MapEntry}(h:es.map (fun e=>(e.key,e.val))=m.map (fun p=>(ke p.1,ve p.2)))(k:K):
  (Instr.findKey kt (ke k) es).run P w=.ok ((m.findIdx? (fun p=>decide (k=p.1))).bind fun j=>(m[j]?).map fun p=>(j,ve p.2)) w:=by
 have h1:es.map (fun e=>e.key)=(m.map (·.1)).map ke:=by
  have:=congrArg (List.map Prod.fst) h
  simpa[List.map_map,Function.comp_def]using this
 rw[T.find k (m.map (·.1)) es w h1,jM k m es h]
theorem bD.look (T:KeyT P kt ke)(ht:P.underlying t=some (.map kt et)){w:World}{z:Value}(hz:(zeroValue et).run P w=.ok z w){b:Nat}{m:List (K×V)}(h:bD ke ve w b m)(k:K)(ok:Bool):
  (Instr.lookup t (m43 b) (ke k) ok).run P w=.ok (if ok then .tuple #[((Tp.at_ m k).map ve).getD z,.bool (Tp.at_ m k).isSome]else((Tp.at_ m k).map ve).getD z) w:=by
 obtain⟨es,c,hb,hm⟩:=h
 unfold Instr.lookup
 simp only[Sem.run_bind,run_underlying ht,Result.andThen_ok,MapKept.run_getObj_map hb,Sem.run_pure,T.chk,oB T hm,aIk]
 cases hj:m.findIdx? (fun p=>decide (k=p.1))with
 |none=>cases ok<;>simp[hz,Result.andThen]
 |some j=>
  have hlt:j<m.length:=by
   rw[List.findIdx?_eq_some_iff_getElem]at hj
   exact hj.1
  rw[Option.bind_some,Option.bind_some,List.getElem?_eq_getElem hlt]
  cases ok<;>simp[Result.andThen]
theorem aGr (T:KeyT P kt ke)(ht:P.underlying t=some (.map kt et)){w:World}{z:Value}(hz:(zeroValue et).run P w=.ok z w)(k:K)(ok:Bool):
  (Instr.lookup t (.map none) (ke k) ok).run P w=.ok (if ok then .tuple #[z,.bool false]else z) w:=by
 have hf:=T.find k [] [] w rfl
 unfold Instr.lookup
 simp only[Sem.run_bind,run_underlying ht,Result.andThen_ok,Sem.run_pure,T.chk,Array.toList_empty,hf]
 cases ok<;>simp[hz,Result.andThen]
theorem bD.store (T:KeyT P kt ke)(ht:P.underlying t=some (.map kt et)){w:World}{b:Nat}{m:List (K×V)}(h:bD ke ve w b m)(k:K)(v:V):
  ∃o,(Instr.mapUpdate t (m43 b) (ke k) (ve v)).run P w=.ok () { w with heap:=w.heap.setIfInBounds b o }/\bD ke ve { w with heap:=w.heap.setIfInBounds b o } b (Tp.put m k v):=by
 have hlt:=h.lt
 obtain⟨es,c,hb,hm⟩:=h
 have hl:es.toList.length=m.length:=by simpa using congrArg List.length hm
 unfold Instr.mapUpdate
 simp only[Sem.run_bind,run_underlying ht,Result.andThen_ok,MapKept.run_getObj_map hb,T.chk,oB T hm,qN]
 cases hj:m.findIdx? (fun p=>decide (k=p.1))with
 |none=>
  refine⟨_,MapKept.run_setObj_map _ hb,es.push { key:=ke k,val:=ve v,born:=c },c+1,?_,?_⟩
  ·simp[hlt]
  ·simp[hm]
 |some j=>
  rw[List.findIdx?_eq_some_iff_getElem]at hj
  obtain⟨hjl,hjk,-⟩:=hj
  have hk:k=m[j].1:=by simpa using hjk
  have hje:j<es.toList.length:=by omega
  have hkey:es.toList[j].key=ke k:=by
   have:=congrArg (fun l=>(l[j]?).map Prod.fst) hm
   simp only[List.getElem?_map,List.getElem?_eq_getElem hje,List.getElem?_eq_getElem hjl,Option.map_some,Option.some.injEq]at this
   rw[this,<-hk]
  have hkey':((es[j]?).map (fun e=>e.key)).getD (ke k)=ke k:=by
   rw[show es[j]?=some es.toList[j]from by rw[<-Array.getElem?_toList,List.getElem?_eq_getElem hje]]
   exact hkey
  rw[Option.bind_some,List.getElem?_eq_getElem hjl]
  simp only[Option.map_some,Sem.run_bind,hkey',Instr.keyThatStays,T.bits,if_true,Sem.run_pure,Result.andThen_ok]
  refine⟨_,MapKept.run_setObj_map _ hb,es.modify j fun e=>{ e with key:=ke k,val:=ve v },c,?_,?_⟩
  ·simp[hlt]
  ·have e1:(es.toList.map (fun e=>(e.key,e.val))).set j (ke k,ve v)=(m.map (fun p=>(ke p.1,ve p.2))).set j (ke k,ve v):=by rw[hm]
   rw[<-List.map_set (f:=fun p:K×V=>(ke p.1,ve p.2)) (a:=(k,v))]at e1
   rw[<-e1,Array.toList_modify]
   apply List.ext_getElem?
   intro i
   by_cases hij:j=i
   ·subst hij
    simp[List.getElem?_modify,List.getElem?_set,List.getElem?_eq_getElem hje,hjl,hl]
   ·simp[List.getElem?_modify,List.getElem?_set,hij]
end
def idV (p:Int×Int):Value:=.agg #[.int .u64 p.1,.int .u64 p.2]
theorem kW {t:TypeId}{d:TypeDesc}(hd:Tryz.prog.underlying t=some d)(hn:(match d with| .interface _| .array _ _| .struct _=>false|_=>true)=true)(em:Bool)(n:Nat)(v:Value)(w:World):(Instr.checkKey em (n+1) t v).run Tryz.prog w=.ok () w:=by
 unfold Instr.checkKey
 simp only[Sem.run_bind,run_underlying hd,Result.andThen_ok]
 cases d<;>first|rfl|simp at hn
theorem aIi (em:Bool)(n:Nat)(p:Int×Int)(w:World):(Instr.checkKey em (n+2) 40 (idV p)).run Tryz.prog w=.ok () w:=by
 have hu:Tryz.prog.underlying 40=some (.array 2 23):=by kernel_rfl
 have aE:=Tryz.isAgg23
 have zE:=Tryz.sizeOf23
 have c:=fun v w=>kW Tryz.underlying23 rfl em n v w
 unfold Instr.checkKey
 simp only[Sem.run_bind,run_underlying hu,Result.andThen_ok,idV]
 go_simp
 rw[show List.range' 0 2=[0,1]from rfl]
 simp[aE,zE,c,List.forIn_cons,Result.andThen]
theorem wH {α:Type}{g:Field->α}{fs:List Field}{a b:α}(h:fs.map g=[a,b]):∃x y,fs=[x,y]/\g x=a/\g y=b:=by
 match fs,h with
 | [x,y],h=>simp at h;exact⟨x,y,rfl,h⟩
 | [],h=>simp at h
 | [_],h=>simp at h
 |_::_::_::_,h=>simp at h
theorem wG {α:Type}{g:Field->α}{fs:List Field}{a b c:α}(h:fs.map g=[a,b,c]):∃x y z,fs=[x,y,z]/\g x=a/\g y=b/\g z=c:=by
 match fs,h with
 | [x,y,z],h=>simp at h;exact⟨x,y,z,rfl,h⟩
 | [],h=>simp at h
 | [_],h=>simp at h
 | [_,_],h=>simp at h
 |_::_::_::_::_,h=>simp at h
theorem aKl {α:Type}{g:Field->α}{fs:List Field}{a b c d:α}(h:fs.map g=[a,b,c,d]):∃x y z u,fs=[x,y,z,u]/\g x=a/\g y=b/\g z=c/\g u=d:=by
 match fs,h with
 | [x,y,z,u],h=>simp at h;exact⟨x,y,z,u,rfl,h⟩
 | [],h=>simp at h
 | [_],h=>simp at h
 | [_,_],h=>simp at h
 | [_,_,_],h=>simp at h
 |_::_::_::_::_::_,h=>simp at h
structure Tp.V where
 who:Int
 slot:Int
 p:Int
 q:Int
 deriving DecidableEq
structure Tp.B where
 slot:Int
 who:Int
 p:Int
 q:Int
 salt:Int
 deriving DecidableEq
def kE (v:Tp.V):Value:=.agg (m12 v.who v.slot v.p v.q)
def qD (b:Tp.B):Value:=.agg (m11 b.slot b.who b.p b.q b.salt)
def gQ (d:Int×Int):Value:=.agg #[.int .i64 d.1,.int .i64 d.2]
theorem aIh (a b:Int×Int)(w:World):(Op.equalIn 10000 185 (gQ a) (gQ b)).run Tryz.prog w=.ok (decide (a=b)) w:=by
 obtain⟨f,s⟩:=a
 obtain⟨f',s'⟩:=b
 have ht:Tryz.prog.underlying 185=some (.struct (Tryz.prog.fieldsOf 185)):=by kernel_rfl
 have hp:Tryz.prog.stoodInHeld 185=false:=by kernel_rfl
 have hf:(Tryz.prog.fieldsOf 185).toList.map (fun f=>(f.name,f.type,f.offset))=[("from",3,0),("slot",3,1)]:=by kernel_rfl
 unfold gQ
 rw[show(10000:Nat)=9999+1 from rfl,run_equalIn_struct w 9999 _ _ _ ht hp]
 generalize(Tryz.prog.fieldsOf 185).toList=fs at hf
 obtain⟨f0,f1,rfl,h0,h1⟩:=wH hf
 simp only[Prod.mk.injEq]at h0 h1
 obtain⟨n0,t0,o0⟩:=h0
 obtain⟨n1,t1,o1⟩:=h1
 have uE:=Tryz.underlying3
 have aE:=Tryz.isAgg3
 simp only[Op.eqFields,n0,n1,t0,t1,o0,o1]
 go_simp
 by_cases h0:f=f'<;>by_cases h1:s=s'<;>simp[h0,h1]
theorem eqV (a b:Tp.V)(w:World):(Op.equalIn 10000 84 (kE a) (kE b)).run Tryz.prog w=.ok (decide (a=b)) w:=by
 obtain⟨f,s,p,q⟩:=a
 obtain⟨f',s',p',q'⟩:=b
 have ht:Tryz.prog.underlying 84=some (.struct (Tryz.prog.fieldsOf 84)):=by kernel_rfl
 have hp:Tryz.prog.stoodInHeld 84=false:=by kernel_rfl
 have hf:(Tryz.prog.fieldsOf 84).toList.map (fun f=>(f.name,f.type,f.offset))=[("From",3,0),("Slot",3,1),("Head",40,2)]:=by kernel_rfl
 unfold kE
 rw[show(10000:Nat)=9999+1 from rfl,run_equalIn_struct w 9999 _ _ _ ht hp]
 generalize(Tryz.prog.fieldsOf 84).toList=fs at hf
 obtain⟨f0,f1,f2,rfl,h0,h1,h2⟩:=wG hf
 simp only[Prod.mk.injEq]at h0 h1 h2
 obtain⟨n0,t0,o0⟩:=h0
 obtain⟨n1,t1,o1⟩:=h1
 obtain⟨n2,t2,o2⟩:=h2
 have uE:=Tryz.underlying3
 have aE:=Tryz.isAgg3
 have aI:=Tryz.isAgg40
 have e:=fun w=>eqID 9997 p q p' q' w
 simp only[Op.eqFields,n0,n1,n2,t0,t1,t2,o0,o1,o2]
 go_simp
 by_cases h0:f=f'<;>by_cases h1:s=s'<;>by_cases h2:p=p'<;>by_cases h3:q=q'<;>simp[h0,h1,h2,h3]
theorem eqB (a b:Tp.B)(w:World):(Op.equalIn 10000 56 (qD a) (qD b)).run Tryz.prog w=.ok (decide (a=b)) w:=by
 obtain⟨s,f,p,q,t⟩:=a
 obtain⟨s',f',p',q',t'⟩:=b
 have ht:Tryz.prog.underlying 56=some (.struct (Tryz.prog.fieldsOf 56)):=by kernel_rfl
 have hp:Tryz.prog.stoodInHeld 56=false:=by kernel_rfl
 have hf:(Tryz.prog.fieldsOf 56).toList.map (fun f=>(f.name,f.type,f.offset))=[("Slot",3,0),("From",3,1),("Parent",40,2),("Salt",23,4)]:=by kernel_rfl
 unfold qD
 rw[show(10000:Nat)=9999+1 from rfl,run_equalIn_struct w 9999 _ _ _ ht hp]
 generalize(Tryz.prog.fieldsOf 56).toList=fs at hf
 obtain⟨f0,f1,f2,f3,rfl,h0,h1,h2,h3⟩:=aKl hf
 simp only[Prod.mk.injEq]at h0 h1 h2 h3
 obtain⟨n0,t0,o0⟩:=h0
 obtain⟨n1,t1,o1⟩:=h1
 obtain⟨n2,t2,o2⟩:=h2
 obtain⟨n3,t3,o3⟩:=h3
 have uE:=Tryz.underlying3
 have aE:=Tryz.isAgg3
 have uU:=Tryz.underlying23
 have aU:=Tryz.isAgg23
 have aI:=Tryz.isAgg40
 have e:=fun w=>eqID 9997 p q p' q' w
 simp only[Op.eqFields,n0,n1,n2,n3,t0,t1,t2,t3,o0,o1,o2,o3]
 go_simp
 by_cases h0:s=s'<;>by_cases h1:f=f'<;>by_cases h2:p=p'<;>by_cases h3:q=q'<;>by_cases h4:t=t'<;>simp[h0,h1,h2,h3,h4]
theorem aHm (em:Bool)(n:Nat)(v:Int×Int)(w:World):(Instr.checkKey em (n+2) 185 (gQ v)).run Tryz.prog w=.ok () w:=by
 have ht:Tryz.prog.underlying 185=some (.struct (Tryz.prog.fieldsOf 185)):=by kernel_rfl
 have hf:(Tryz.prog.fieldsOf 185).toList.map (fun f=>(f.name,f.type,f.offset))=[("from",3,0),("slot",3,1)]:=by kernel_rfl
 have aE:=Tryz.isAgg3
 have c:=fun v w=>kW Tryz.underlying3 rfl em n v w
 unfold Instr.checkKey
 simp only[Sem.run_bind,run_underlying ht,Result.andThen_ok,gQ]
 generalize hg:Tryz.prog.fieldsOf 185=fa at hf
 obtain⟨f0,f1,hfs,h0,h1⟩:=wH hf
 obtain rfl:fa=#[f0,f1]:=by cases fa;simp_all
 simp only[Prod.mk.injEq]at h0 h1
 obtain⟨n0,t0,o0⟩:=h0
 obtain⟨n1,t1,o1⟩:=h1
 simp[n0,n1,t0,t1,o0,o1,aE,c,List.forIn_cons,Result.andThen,part]
theorem aHl (em:Bool)(n:Nat)(v:Tp.V)(w:World):(Instr.checkKey em (n+3) 84 (kE v)).run Tryz.prog w=.ok () w:=by
 have ht:Tryz.prog.underlying 84=some (.struct (Tryz.prog.fieldsOf 84)):=by kernel_rfl
 have hf:(Tryz.prog.fieldsOf 84).toList.map (fun f=>(f.name,f.type,f.offset))=[("From",3,0),("Slot",3,1),("Head",40,2)]:=by kernel_rfl
 have aE:=Tryz.isAgg3
 have aI:=Tryz.isAgg40
 have zI:=Tryz.sizeOf40
 have c:=fun v w=>kW Tryz.underlying3 rfl em (n+1) v w
 have ci:=fun w=>aIi em n (v.p,v.q) w
 unfold idV at ci
 unfold Instr.checkKey
 simp only[Sem.run_bind,run_underlying ht,Result.andThen_ok,kE]
 generalize hg:Tryz.prog.fieldsOf 84=fa at hf
 obtain⟨f0,f1,f2,hfs,h0,h1,h2⟩:=wG hf
 obtain rfl:fa=#[f0,f1,f2]:=by cases fa;simp_all
 simp only[Prod.mk.injEq]at h0 h1 h2
 obtain⟨n0,t0,o0⟩:=h0
 obtain⟨n1,t1,o1⟩:=h1
 obtain⟨n2,t2,o2⟩:=h2
 simp[n0,n1,n2,t0,t1,t2,o0,o1,o2,aE,aI,zI,c,ci,List.forIn_cons,Result.andThen,part]
theorem KeyT.now {P:Program}{kt:TypeId}{K:Type} [DecidableEq K] {ke:K->Value}{d:TypeDesc} (hd:P.underlying kt=some d) (hs:∀a b,Instr.sameNow d (ke a) (ke b)=some (decide (a=b)))
  (hchk:∀em k (w:World),(Instr.checkKey em 10000 kt (ke k)).run P w=.ok () w) (hbits:∀k,Instr.sameBits 10000 (ke k) (ke k)=true):KeyT P kt ke:=by
 refine⟨hchk,?_,hbits⟩
 intro k l es w h
 unfold Instr.findKey
 simp only[Sem.run_bind,run_underlying hd,Result.andThen_ok]
 have key:∀(es:List MapEntry) (l:List K) (i:Nat),es.map (fun e=>e.key)=l.map ke->
   Instr.findNow d (ke k) es i=some (((es.zip l).findIdx? (fun p=>decide (k=p.2))).bind fun j=>(es[j]?).map fun e=>(i+j,e.val)):=by
  intro es
  induction es with
  |nil=>intro l i h;simp[Instr.findNow]
  |cons e r ih=>
   intro l i h
   match l,h with
   |a::l,h=>
    simp only[List.map_cons,List.cons.injEq]at h
    unfold Instr.findNow
    rw[h.1,hs]
    by_cases hk:k=a
    ·subst hk
     simp[List.findIdx?_cons]
    ·simp only[hk,decide_false,List.zip_cons_cons,List.findIdx?_cons]
     rw[ih l (i+1) h.2]
     congr 1
     cases(r.zip l).findIdx? (fun p=>decide (k=p.2))with
     |none=>rfl
     |some j=>simp[Nat.add_assoc,Nat.add_comm 1 j]
 rw[key es l 0 h]
 simp
theorem aIe :KeyT Tryz.prog 3 (fun x:Int=>Value.int .i64 x):=
 KeyT.now Tryz.underlying3 (fun a b=>by simp[Instr.sameNow];rfl) (fun em k w=>kW Tryz.underlying3 rfl em 9999 _ w) (fun k=>by simp[Instr.sameBits])
theorem fC :KeyT Tryz.prog 40 idV:=
 KeyT.asking (d:=.array 2 23) (fun a b w=>by
  have:=tX a.1 a.2 b.1 b.2 w
  rw[show Op.equal 40 (idV a) (idV b)=Op.equalIn 10000 40 (idV a) (idV b)from rfl]
  unfold idV
  rw[this]
  obtain⟨a0,a1⟩:=a
  obtain⟨b0,b1⟩:=b
  by_cases h1:a0=b0<;>by_cases h2:a1=b1<;>simp[h1,h2])
  (fun em k w=>aIi em 9998 k w) (fun k=>by simp[Instr.sameBits,idV]) (by kernel_rfl) (fun _ _=>rfl)
theorem vQ :KeyT Tryz.prog 84 kE:=
 KeyT.asking (d:=.struct (Tryz.prog.fieldsOf 84)) (fun a b w=>eqV a b w)
  (fun em k w=>aHl em 9997 k w) (fun k=>by simp[Instr.sameBits,kE]) (by kernel_rfl) (fun _ _=>rfl)
theorem iU :KeyT Tryz.prog 185 gQ:=
 KeyT.asking (d:=.struct (Tryz.prog.fieldsOf 185)) (fun a b w=>aIh a b w)
  (fun em k w=>aHm em 9998 k w) (fun k=>by simp[Instr.sameBits,gQ]) (by kernel_rfl) (fun _ _=>rfl)
def aW (b:Nat) (w w':World):Prop:=∃o,cT b o w w'
theorem aW.below {b N:Nat}{w w':World}(h:aW b w w')(hN:N<=b):Below N w w':=by obtain⟨o,h⟩:=h;exact h.below hN
theorem aW.size {b:Nat}{w w':World}(h:aW b w w'):w'.heap.size=w.heap.size:=by obtain⟨o,h⟩:=h;exact h.size
theorem aW.other {b:Nat}{w w':World}(h:aW b w w')(k:Nat)(hk:k≠b):w'.heap[k]?=w.heap[k]?:=by obtain⟨o,h⟩:=h;exact h.block k hk
theorem aW.cell {b:Nat}{w w':World}(h:aW b w w')(p:Addr)(hk:p.block≠b):w'.cell? p=w.cell? p:=World.cell?_of_block (w:=w) (h.other _ hk)
section
variable {P:Program}{kt et:TypeId}{K V:Type} [DecidableEq K] {ke:K->Value}{ve:V->Value}
section
variable (w:World){ops:Array Oper}{rest:List Oper}{o:Oper}{a:Act}{Q:Exit->Act->World->Prop}(hg:o.guard=none)(m x:Operand)(t:TypeId)(ok:Bool)(hop:o.op=Op.lookup t m x ok)(T:KeyT P kt ke)(ht:P.underlying t=some (.map kt et))(z:Value)(hz:(zeroValue et).run P w=.ok z w)
include w ops rest o a Q hg m x t ok hop T ht z hz
theorem cZ (b:Nat)(l:List (K×V))(hm:a.eval m=.map (some b))(h:bD ke ve w b l)(k:K)(hx:a.eval x=ke k)(r:Value)(hr:(if ok=true then Value.tuple #[((Tp.at_ l k).map ve).getD z,.bool (Tp.at_ l k).isSome]else((Tp.at_ l k).map ve).getD z)=r)(hK:wpList P ops Q rest (a.put o.dst r) w):wpList P ops Q (o::rest) a w:=by
 refine wpList_plain hg fun K' hK'=>?_
 have hrun:=h.look T ht hz k ok
 rw[hr]at hrun
 unfold Oper.wp
 simp[execOp,hop,hm,hx,hrun,Result.andThen]
 exact hK' _ _ hK
theorem mQ (hm:a.eval m=.map none)(k:K)(hx:a.eval x=ke k)(r:Value)(hr:(if ok=true then Value.tuple #[z,.bool false]else z)=r)(hK:wpList P ops Q rest (a.put o.dst r) w):wpList P ops Q (o::rest) a w:=by
 refine wpList_plain hg fun K' hK'=>?_
 have hrun:=aGr (P:=P) T ht hz k ok
 rw[hr]at hrun
 unfold Oper.wp
 simp[execOp,hop,hm,hx,hrun,Result.andThen]
 exact hK' _ _ hK
end
theorem bD.storeT {t:TypeId}{w:World}{b:Nat}{l:List (K×V)}(h:bD ke ve w b l)(T:KeyT P kt ke)(ht:P.underlying t=some (.map kt et))(k:K)(y:V):
  ∃w',(Instr.mapUpdate t (m43 b) (ke k) (ve y)).run P w=.ok () w'/\bD ke ve w' b (Tp.put l k y)/\aW b w w':=by
 have hlt:=h.lt
 obtain⟨ob,hrun,hmap⟩:=h.store T ht k y
 exact⟨_,hrun,hmap,ob,rfl,rfl,rfl,by simp,by simp[hlt],fun j hj=>by simp[Array.getElem?_setIfInBounds,Ne.symm hj]⟩
theorem lD (w:World){ops:Array Oper}{rest:List Oper}{o:Oper}{a:Act}{Q:Exit->Act->World->Prop}(hg:o.guard=none)(m x v:Operand)(t:TypeId)(hop:o.op=Op.mapUpdate t m x v\/o.op=Op.insert t m x v)(T:KeyT P kt ke)(ht:P.underlying t=some (.map kt et))(b:Nat)(l:List (K×V))(hm:a.eval m=.map (some b))(h:bD ke ve w b l)(k:K)(hx:a.eval x=ke k)(y:V)(hv:a.eval v=ve y)(hK:∀w',bD ke ve w' b (Tp.put l k y)->aW b w w'->wpList P ops Q rest (a.put o.dst undef) w'):wpList P ops Q (o::rest) a w:=by
 refine wpList_plain hg fun K' hK'=>?_
 have hlt:=h.lt
 obtain⟨ob,hrun,hmap⟩:=h.store T ht k y
 have hturn:aW b w { w with heap:=w.heap.setIfInBounds b ob }:=⟨ob,rfl,rfl,rfl,by simp,by simp[hlt],fun j hj=>by simp[Array.getElem?_setIfInBounds,Ne.symm hj]⟩
 unfold Oper.wp
 rcases hop with hop|hop<;>simp[execOp,hop,hm,hx,hv,hrun,Result.andThen]
 all_goals exact hK' _ _ (hK _ hmap hturn)
end
end Go.Proofs.YtbbhinehcncmeaaGreat
