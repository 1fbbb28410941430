/- A part of the proof of the laws of the top: TpSeqW. No condition. -/
import Derived.Test.YtbbhinehcncmeaaGreatG08
namespace Go.Proofs.YtbbhinehcncmeaaGreat
open Go.RowKit
set_option linter.unusedSimpArgs false
set_option linter.unusedVariables false
set_option linter.unusedSectionVars false
set_option maxRecDepth 100000
set_option maxHeartbeats 2000000
section
open Go.RowKit Go.Shelf
attribute [local go_sem] Oper.semAt_some
def Tp.iO (p:Nat->Bool) (n:Nat):Nat->List (Fin n)
  |0=>[]
  |j+1=>if h:j<n then(if p j then Tp.iO p n j++[⟨j,h⟩]else Tp.iO p n j)else Tp.iO p n j
theorem Tp.xH (p : Nat → Bool) (n : Nat) {i j : Nat} (h : i ≤ j) : Tp.iO p n i <+: Tp.iO p n j := by
  induction j with
  | zero => obtain rfl : i = 0 := by omega
            exact List.prefix_refl _
  | succ j ih =>
    rcases Nat.lt_or_ge i (j + 1) with h1 | h1
    · refine (ih (by omega)).trans ?_
      rw [show Tp.iO p n (j + 1) = (if h : j < n then (if p j then Tp.iO p n j ++ [⟨j, h⟩] else Tp.iO p n j) else Tp.iO p n j) from by rw [Tp.iO]]
      split
      · split
        · exact List.prefix_append _ _
        · exact List.prefix_refl _
      · exact List.prefix_refl _
    · obtain rfl : i = j + 1 := by omega
      exact List.prefix_refl _
theorem Tp.xJ (p:Nat->Bool)(n j:Nat)(h:j<n)(hp:p j=true):Tp.iO p n (j+1)=Tp.iO p n j++[⟨j,h⟩]:=by
  rw[Tp.iO,dif_pos h,if_pos hp]
theorem Tp.aCa (p:Nat->Bool)(n j:Nat)(hp:p j=false):Tp.iO p n (j+1)=Tp.iO p n j:=by
  rw[Tp.iO]
  split
  · rw[if_neg (by rw[hp];decide)]
  · rfl
theorem Tp.aJf (p:Nat->Bool){j n:Nat}(h:j<n)(hp:p j=true):(Tp.iO p n j).length<(Tp.iO p n n).length:=by
  have h1:=(Tp.xH p n (show j+1<=n by omega)).length_le
  rw[Tp.xJ p n j h hp]at h1
  simp at h1
  omega
theorem Tp.xI (p:Nat->Bool)(n:Nat):∀j,(Tp.iO p n j).length<=j:=by
  intro j
  induction j with
  |zero=>exact Nat.le_refl _
  |succ j ih=>
    unfold Tp.iO
    split
    · split
      · simp;omega
      · omega
    · omega
theorem yV (n:Nat)(hn:1<=n)(l C I n₀ nn cc:Nat)(a:Option Addr)(x1:Nat)(p:Nat->Bool)(w0:World)(hw0:w0.heap.size=n₀)(hnn:nn<=1000000)(J Jx:List (Fin nn)->World->Prop)(B:Nat)(hJ:AbidesFrom B J)(hIs:∀(j:Nat) (W:World),j<nn->Below n₀ w0 W->Calls Tryz.prog 112 #[.int .i64 j,.pointer (some (m00 x1))] W fun e W'=>e=.returned (.bool (p j))/\Below W.heap.size W W')(hY:∀pre x W,J pre W->pre.length<(Tp.iO p nn nn).length->YieldAt Fence.wide (n-1) Tryz.prog l #[.int .i64 ((x.1:Nat):Int)] W fun e W'=>
      (e=.returned (.bool true)/\J (pre++[x]) W'/\Below n₀ W W')\/(e=.returned (.bool false)/\Jx (pre++[x]) W'))(W:World)(hW:Below n₀ w0 W)(hC:C<n₀)(hI:I<n₀)(cC:w0.cell? (m00 C)=some (.slice a nn cc))(cI:w0.cell? (m00 I)=some (.func (.func 112) #[] (m46 x1)))(h0:J [] W):
    CallsIn Fence.wide n Tryz.prog 127 #[.func (.yield l) #[] #[],.pointer (some (m00 C)),.pointer (some (m00 I))] W fun e W'=>(∃v,e=.returned v)/\
      ((∃ys,ys=Tp.iO p nn nn/\J ys W')\/(∃pre,pre <+:Tp.iO p nn nn/\Jx pre W')):=by
  have:Fence.wide.fn 112:=trivial
  have c0:W.cell? (m00 C)=some (.slice a nn cc):=(hW.cell (p:=(m00 C)) hC).trans cC
  refine callsIn_of_wp Tryz.func127 rfl trivial ?_ rfl
  simp only[Tryz.ntmps127,List.size_toArray,List.length_cons,List.length_nil,Nat.reduceAdd,Nat.reduceSub,Array.replicate_succ,Array.replicate_zero,List.push_toArray,List.append_toArray,List.nil_append,List.cons_append]
  gi_wp2
  gi_loopw [4,8] (fun u i wr=>∃j:Nat,j<=nn/\i=.int .i64 j/\Below n₀ w0 wr/\J (Tp.iO p nn j) wr) (fun u i wr=>nn-(intOf i).toNat)
  case atStart=>
    exact⟨0,Nat.zero_le _,rfl,hW,h0⟩
  case round=>
    obtain⟨j,hj,rfl,hB,hJs⟩:=hrel
    have ci:wr.cell? (m00 I)=some (.func (.func 112) #[] (m46 x1)):=(hB.cell (p:=(m00 I)) hI).trans cI
    by_cases hjn:j<nn
    · have HB:=zH hB
      have HJS:=zH hJs
      cases hp:p j with
      |true=>
        gi_wp2_with fail
        refine(callsIn_wide.2 (hIs j wr hjn HB.out)).mono ?_
        rintro e W1 ⟨rfl,hb⟩
        rw[hp]
        have hJ1:=hJ _ _ _ none HJS.out (fA hb none) (fun r h=>by cases h)
        have hB1:=HB.out.trans (hb.mono (fH HB.out hw0))
        obtain⟨fn,tmps,assign,body,hy,hR⟩:=hY (Tp.iO p nn j) ⟨j,hjn⟩ W1 hJ1 (Tp.aJf p hjn hp)
        have hsc:Tp.iO p nn (j+1)=Tp.iO p nn j++[⟨j,hjn⟩]:=Tp.xJ p nn j hjn hp
        gi_wp2
        refine hR.mono ?_
        rintro e W3 (⟨rfl,hJ3,hk3⟩|⟨rfl,hJx3⟩)
        · gi_wp2
          exact⟨⟨j+1,by omega,by go_num,hB1.trans hk3,by rw[hsc];exact hJ3⟩,by simp[intOf];omega⟩
        · gi_wp2
          refine bodyPost_ret (results_none rfl _ _ _) rfl ?_
          exact⟨⟨_,rfl⟩,.inr ⟨_,by rw[<-hsc];exact Tp.xH p nn (by omega),hJx3⟩⟩
      |false=>
        gi_wp2_with fail
        refine(callsIn_wide.2 (hIs j wr hjn HB.out)).mono ?_
        rintro e W1 ⟨rfl,hb⟩
        rw[hp]
        have hJ1:=hJ _ _ _ none HJS.out (fA hb none) (fun r h=>by cases h)
        have hB1:=HB.out.trans (hb.mono (fH HB.out hw0))
        have hsc:Tp.iO p nn (j+1)=Tp.iO p nn j:=Tp.aCa p nn j hp
        gi_wp2
        refine⟨fun _ h=>(by cases h),?_⟩
        gi_wp2
        exact⟨⟨j+1,by omega,by go_num,hB1,by rw[hsc];exact hJ1⟩,by simp[intOf];omega⟩
    · obtain rfl:j=nn:=by omega
      gi_wp2
      go_end0
      exact⟨⟨_,rfl⟩,.inl ⟨_,rfl,hJs⟩⟩
end
end Go.Proofs.YtbbhinehcncmeaaGreat
