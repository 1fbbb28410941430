/- A part of the proof of the laws of the top: TpStrong. No condition. -/
import Derived.Test.YtbbhinehcncmeaaGreatG39
namespace Go.Proofs.YtbbhinehcncmeaaGreat
open Go.RowKit
set_option linter.unusedSimpArgs false
set_option linter.unusedVariables false
set_option linter.unusedSectionVars false
set_option maxRecDepth 100000
set_option maxHeartbeats 2000000
theorem vD (a:Option Addr)(c:Nat)(w:World)(hl:aP w a 1 [1] 0)(hk:∀j:Nat,j<9->Tp.pJ [1] 0 1 1 4 [] (1+j)<Tp.pI [1] 0 1 1 4 [] (1+j)/\(Tp.bT [1] 0 1 1 4 (1+j)).length<=1000000):
  Calls Tryz.prog 20 #[.agg #[.slice a 1 c,.int .u64 0,.int .i64 1,.int .i64 1,.int .i64 4],.slice none 0 0,.int .i64 1,.int .i64 9] w fun e w'=>e=.returned (.bool true)/\Below w.heap.size w w':=by
 obtain⟨w1,ew1_⟩:∃z,Hid (z=w.alloc (.cells #[.slice a 1 c,.int .u64 0,.int .i64 1,.int .i64 1,.int .i64 4] 25)):=⟨_,zH rfl⟩
 have hal:Below w.heap.size w w1:=by cases ew1_.out;exact(Below.refl _ _).alloc nr _
 have hbx:w1.heap[w.heap.size]?=some (.cells #[.slice a 1 c,.int .u64 0,.int .i64 1,.int .i64 1,.int .i64 4] 25 (0,0)):=by cases ew1_.out;exact heap_alloc_new w _
 have HL:=zH (hl.keep hal)
 have HK:=zH hk
 have HBX:=zH hbx
 have HAL:=zH hal
 clear hl hk hal hbx
 go_enter Tryz.func20,Tryz.ntmps20
 go_wp2_with fail
 go_step3
 go_wp2_with fail
 go_step3
 go_wp2_with fail
 rw[<-ew1_.out]
 have hsz:w.heap.size<w1.heap.size:=(gS HBX.out)
 go_loopw [27,10,11] (fun i_ s_ t_ wr=>∃j:Nat,j<=9/\i_=.int .u64 j/\s_=.int .i64 (1+j)/\t_=.bool true/\Below w1.heap.size w1 wr) (fun i_ _ _ _=>9-(intOf i_).toNat)
 case atStart=>exact⟨0,by omega,rfl,rfl,rfl,Below.refl _ _⟩
 case round=>
  obtain⟨j,hj,rfl,rfl,rfl,hb⟩:=hrel
  have HB:=zH hb
  by_cases hj9:j<9
  case neg=>
   obtain rfl:j=9:=by omega
   clear hb
   go_wp2_with fail
   try rw[Exit.noGoto_ret]
   go_ret
   exact⟨rfl,bS HAL.out HB.out⟩
  have hbx:=cG hb hsz HBX.out
  obtain⟨c0,c1,c2,c3,c4⟩:=kc5 hbx
  obtain⟨g,hg⟩:∃z,Tp.pI [1] 0 1 1 4 [] (1+j)=z:=⟨_,rfl⟩
  obtain⟨b,hbb⟩:∃z,Tp.pJ [1] 0 1 1 4 [] (1+j)=z:=⟨_,rfl⟩
  have hlt:decide (g<=b)=false:=by
   have:=(HK.out j hj9).1
   rw[hg,hbb]at this
   simp only[decide_eq_false_iff_not]
   omega
  have HG:=zH (And.intro hg hbb)
  have HJ:=zH (HK.out j hj9).2
  have HC:=zH (HL.out.keep hb)
  clear hb hbx hg hbb
  have j1:(j:Int)<9:=by omega
  go_wp2_with (go_at_call 40;refine(aAy a 1 c [1] 0 1 1 4 (1+j) none 0 0 [] wr HC.out.len HC.out.max HC.out.seed HC.out.ints (SlV.nil _) HJ.out).mono ?_;rintro e w' ⟨rfl,hb2⟩;rw[HG.out.1,HG.out.2])
  exact⟨⟨j+1,by omega,by go_num,by go_num,rfl,bS HB.out hb2⟩,by simp[intOf];omega⟩
end Go.Proofs.YtbbhinehcncmeaaGreat
