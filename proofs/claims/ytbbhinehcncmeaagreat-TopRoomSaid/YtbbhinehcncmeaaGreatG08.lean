/- A part of the proof of the laws of the top: TpSeq. No condition. -/
import Derived.Test.YtbbhinehcncmeaaGreatG06
import Derived.Laws.Bits64b
import Derived.LoopIn
import Derived.LoopNIn
import Derived.Maps.AppendAt
import Derived.OwnWalkIn
import Derived.RangeFuncBound
import Derived.RangeFuncBox
import Derived.RangeFuncCalls
import Derived.RangeFuncFrom
import Derived.RangeFuncLeaves
import Derived.RangeFuncNested
import Derived.Shelf.Abstract
import Derived.TacticsInMore
namespace Go.Proofs.YtbbhinehcncmeaaGreat
open Go.RowKit
set_option linter.unusedSimpArgs false
set_option linter.unusedVariables false
set_option linter.unusedSectionVars false
set_option maxRecDepth 100000
set_option maxHeartbeats 2000000
section
open Go.RowKit Go.Shelf
attribute [local go_sem] Oper.semAt_some
def Tp.sel (p:Nat->Bool) (n:Nat):List Int:=((List.range n).filter p).map (fun i:Nat=>(i:Int))
theorem Tp.mI (p:Nat->Bool)(n:Nat):Tp.sel p (n+1)=Tp.sel p n++(if p n then[(n:Int)]else[]):=by
  unfold Tp.sel
  rw[List.range_succ,List.filter_append,List.map_append]
  congr 1
  rw[List.filter_cons]
  split<;>rfl
theorem Tp.aJe (p:Nat->Bool)(n:Nat):(Tp.sel p n).length<=n:=by
  unfold Tp.sel
  rw[List.length_map]
  exact Nat.le_trans (List.length_filter_le _ _) (by simp)
theorem Tp.aBz (p : Nat → Bool) {j n : Nat} (h : j ≤ n) : Tp.sel p j <+: Tp.sel p n := by
  induction n with
  | zero => obtain rfl : j = 0 := by omega
            exact List.prefix_refl _
  | succ n ih =>
    rcases Nat.lt_or_ge j (n + 1) with h1 | h1
    · rw [Tp.mI]
      exact (ih (by omega)).trans (List.prefix_append _ _)
    · obtain rfl : j = n + 1 := by omega
      exact List.prefix_refl _
theorem Tp.aLx (p:Nat->Bool){j n:Nat}(h:j<n)(hp:p j=true):(Tp.sel p j).length<(Tp.sel p n).length:=by
  have h1:=(Tp.aBz p (show j+1<=n by omega)).length_le
  rw[Tp.mI,hp]at h1
  simp at h1
  omega
theorem fH {w0 W:World}{n₀:Nat}(h:Below n₀ w0 W)(hw:w0.heap.size=n₀):n₀<=W.heap.size:=by have:=h.size;omega
theorem yW (n:Nat)(hn:1<=n)(l C I n₀ nn cc:Nat)(a:Option Addr)(x1 x2 x3:Nat)(p:Nat->Bool)(w0:World)(hw0:w0.heap.size=n₀)(hnn:nn<=1000000)(J Jx:List Int->World->Prop)(B:Nat)(hJ:AbidesFrom B J)(hIs:∀(j:Nat) (W:World),j<nn->Below n₀ w0 W->Calls Tryz.prog 110 #[.int .i64 j,.pointer (some (m00 x1)),.pointer (some (m00 x2)),.pointer (some (m00 x3))] W fun e W'=>e=.returned (.bool (p j))/\Below W.heap.size W W')(hY:∀pre x W,J pre W->pre.length<(Tp.sel p nn).length->YieldAt Fence.wide (n-1) Tryz.prog l #[.int .i64 x] W fun e W'=>
      (e=.returned (.bool true)/\J (pre++[x]) W'/\Below n₀ W W')\/(e=.returned (.bool false)/\Jx (pre++[x]) W'))(W:World)(hW:Below n₀ w0 W)(hC:C<n₀)(hI:I<n₀)(cC:w0.cell? (m00 C)=some (.slice a nn cc))(cI:w0.cell? (m00 I)=some (.func (.func 110) #[] #[.pointer (some (m00 x1)),.pointer (some (m00 x2)),.pointer (some (m00 x3))]))(h0:J [] W):
    CallsIn Fence.wide n Tryz.prog 127 #[.func (.yield l) #[] #[],.pointer (some (m00 C)),.pointer (some (m00 I))] W fun e W'=>(∃v,e=.returned v)/\
      ((∃ys,ys=Tp.sel p nn/\J ys W')\/(∃pre,pre <+:Tp.sel p nn/\Jx pre W')):=by
  have:Fence.wide.fn 110:=trivial
  have c0:W.cell? (m00 C)=some (.slice a nn cc):=(hW.cell (p:=(m00 C)) hC).trans cC
  refine callsIn_of_wp Tryz.func127 rfl trivial ?_ rfl
  simp only[Tryz.ntmps127,List.size_toArray,List.length_cons,List.length_nil,Nat.reduceAdd,Nat.reduceSub,Array.replicate_succ,Array.replicate_zero,List.push_toArray,List.append_toArray,List.nil_append,List.cons_append]
  gi_wp2
  gi_loopw [4,8] (fun u i wr=>∃j:Nat,j<=nn/\i=.int .i64 j/\Below n₀ w0 wr/\J (Tp.sel p j) wr) (fun u i wr=>nn-(intOf i).toNat)
  case atStart=>
    exact⟨0,Nat.zero_le _,rfl,hW,h0⟩
  case round=>
    obtain⟨j,hj,rfl,hB,hJs⟩:=hrel
    have ci:wr.cell? (m00 I)=some (.func (.func 110) #[] #[.pointer (some (m00 x1)),.pointer (some (m00 x2)),.pointer (some (m00 x3))]):=(hB.cell (p:=(m00 I)) hI).trans cI
    by_cases hjn:j<nn
    · have HB:=zH hB
      have HJS:=zH hJs
      cases hp:p j with
      |true=>
        gi_wp2_with fail
        refine(callsIn_wide.2 (hIs j wr hjn HB.out)).mono ?_
        rintro e W1 ⟨rfl,hb⟩
        rw[hp]
        have hJ1:=hJ _ _ _ none HJS.out (fA hb none) (fun r h=>by cases h)
        have hB1:=HB.out.trans (hb.mono (fH HB.out hw0))
        obtain⟨fn,tmps,assign,body,hy,hR⟩:=hY (Tp.sel p j) j W1 hJ1 (Tp.aLx p hjn hp)
        have hsc:Tp.sel p (j+1)=Tp.sel p j++[(j:Int)]:=by rw[Tp.mI,hp];rfl
        gi_wp2
        refine hR.mono ?_
        rintro e W3 (⟨rfl,hJ3,hk3⟩|⟨rfl,hJx3⟩)
        · gi_wp2
          exact⟨⟨j+1,by omega,by go_num,hB1.trans hk3,by rw[hsc];exact hJ3⟩,by simp[intOf];omega⟩
        · gi_wp2
          refine bodyPost_ret (results_none rfl _ _ _) rfl ?_
          exact⟨⟨_,rfl⟩,.inr ⟨_,by rw[<-hsc];exact Tp.aBz p (by omega),hJx3⟩⟩
      |false=>
        gi_wp2_with fail
        refine(callsIn_wide.2 (hIs j wr hjn HB.out)).mono ?_
        rintro e W1 ⟨rfl,hb⟩
        rw[hp]
        have hJ1:=hJ _ _ _ none HJS.out (fA hb none) (fun r h=>by cases h)
        have hB1:=HB.out.trans (hb.mono (fH HB.out hw0))
        have hsc:Tp.sel p (j+1)=Tp.sel p j:=by rw[Tp.mI,hp];simp
        gi_wp2
        refine⟨fun _ h=>(by cases h),?_⟩
        gi_wp2
        exact⟨⟨j+1,by omega,by go_num,hB1,by rw[hsc];exact hJ1⟩,by simp[intOf];omega⟩
    · obtain rfl:j=nn:=by omega
      gi_wp2
      go_end0
      exact⟨⟨_,rfl⟩,.inl ⟨_,rfl,hJs⟩⟩
end
end Go.Proofs.YtbbhinehcncmeaaGreat
