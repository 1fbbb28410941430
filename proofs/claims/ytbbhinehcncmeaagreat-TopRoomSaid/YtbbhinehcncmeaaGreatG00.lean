/- A part of the proof of the laws of the top: MixPlain, MixWalks, TpMacA. No condition. -/
import Derived.BigQuiet
import Derived.Deep.QuietTactic
import Derived.Deep.RegionWith
import Derived.Lib.Hide
import Derived.Test.YtbbhinehcncmeaaGreatRows
import Derived.WalkKit
import Derived.WalkLawsBesides
import Derived.WalkSpells
namespace Go.Proofs.YtbbhinehcncmeaaGreat
open Go.RowKit
set_option linter.unusedSimpArgs false
set_option linter.unusedVariables false
set_option linter.unusedSectionVars false
namespace Mx
def M :Nat:=18446744073709551616
theorem M_eq :M=2 ^ 64:=rfl
def fold (x s:Nat):Nat:=x ^^^ x/s
def uR (x:Nat):Nat:=
  fold (fold (fold x 1073741824*13787848793156543929%M) 134217728*10723151780598845931%M) 2147483648
def lG (h x:Nat):Nat:=uR (((h ^^^ x)+11400714819323198485)%M)
theorem oA (x s:Nat)(hx:x<M):fold x s<M:=by
  unfold fold
  rw[M_eq]at *
  exact Nat.xor_lt_two_pow hx (Nat.lt_of_le_of_lt (Nat.div_le_self _ _) hx)
theorem wZ (x:Nat):uR x<M:=oA _ _ (Nat.mod_lt _ (by decide))
theorem aFz (h x:Nat):lG h x<M:=wZ _
end Mx
theorem aCg {a b:Value}(h:a=b):Ending.returned a=.returned b:=by rw[h]
theorem jV {k:IntKind}{a b:Int}(h:a=b):Ending.returned (.int k a)=.returned (.int k b):=by rw[h]
theorem fZ {a b:Bool}(h:a=b):Ending.returned (.bool a)=.returned (.bool b):=by rw[h]
theorem cV (B:Nat)(w:World)(n:Nat):Below B w (w.drewN n):=⟨rfl,rfl,rfl,Nat.le_refl _,fun _ _=>rfl⟩
theorem aHy {a b:Int}(h:a=b):Value.int .u64 a=Value.int .u64 b:=by rw[h]
namespace Mx
def word (x:Int):Int:=(uR x.toNat:Nat)
def step (h x:Int):Int:=(lG h.toNat x.toNat:Nat)
theorem step_bd (h x:Int):0<=step h x/\step h x<=18446744073709551615:=by
  have:=aFz h.toNat x.toNat
  unfold step M at *
  omega
/-- One round: what the walk writes for '(x ^ x>>s) * c', and that it is a natural number below 2^64. -/
theorem aKa (X s C:Nat)(hX:X<M):IntKind.u64.wrap (bits .xor .u64 (X:Int) ((X:Int)/(s:Int))*(C:Int))=((fold X s*C%M:Nat):Int):=
  mixStep_u64 X s C hX
theorem aMj (X s:Nat)(hX:X<M):bits .xor .u64 (X:Int) ((X:Int)/(s:Int))=((fold X s:Nat):Int):=
  xorShift_u64 X s hX
theorem word_walk (x:Int)(h0:0<=x)(h1:x<=18446744073709551615):
    bits BinOp.xor IntKind.u64
      (IntKind.u64.wrap (bits BinOp.xor IntKind.u64 (IntKind.u64.wrap (bits BinOp.xor IntKind.u64 x (x/1073741824)*13787848793156543929)) (IntKind.u64.wrap (bits BinOp.xor IntKind.u64 x (x/1073741824)*13787848793156543929)/134217728)*10723151780598845931))
      (IntKind.u64.wrap (bits BinOp.xor IntKind.u64 (IntKind.u64.wrap (bits BinOp.xor IntKind.u64 x (x/1073741824)*13787848793156543929)) (IntKind.u64.wrap (bits BinOp.xor IntKind.u64 x (x/1073741824)*13787848793156543929)/134217728)*10723151780598845931)/2147483648)=word x:=by
  obtain⟨X,rfl⟩:=Int.eq_ofNat_of_zero_le h0
  have hX:X<M:=by unfold M;omega
  have e1:=aKa X 1073741824 13787848793156543929 hX
  have e2:=aKa (fold X 1073741824*13787848793156543929%M) 134217728 10723151780598845931 (Nat.mod_lt _ (by decide))
  have e3:=aMj (fold (fold X 1073741824*13787848793156543929%M) 134217728*10723151780598845931%M) 2147483648 (Nat.mod_lt _ (by decide))
  unfold word uR
  rw[Int.toNat_natCast]
  rw[<-e3,<-e2,<-e1]
  rfl
end Mx
set_option maxHeartbeats 400000 in
theorem aFo (x:Int)(w:World)(h0:0<=x)(h1:x<=18446744073709551615):
    Calls Tryz.prog 106 #[.int .u64 x] w fun e w'=>e=.returned (.int .u64 (Mx.word x))/\w=w':=by
  go_enter Tryz.func106,Tryz.ntmps106
  go_wp2
  go_ret
  exact⟨aCg (aHy (Mx.word_walk x h0 h1)),rfl⟩
theorem Mx.wrap_bd (n:Int):0<=IntKind.u64.wrap n/\IntKind.u64.wrap n<=18446744073709551615:=by
  rw[IntKind.wrap_u64];omega
theorem Mx.xor_walk (h x:Int)(h0:0<=h)(h1:h<=18446744073709551615)(x0:0<=x)(x1:x<=18446744073709551615):
    bits .xor .u64 h x=((h.toNat ^^^ x.toNat:Nat):Int):=by
  obtain⟨H,rfl⟩:=Int.eq_ofNat_of_zero_le h0
  obtain⟨X,rfl⟩:=Int.eq_ofNat_of_zero_le x0
  rw[bits_xor_u64_nat H X (by omega) (by omega)]
  simp
theorem Mx.step_walk (h x:Int)(h0:0<=h)(h1:h<=18446744073709551615)(x0:0<=x)(x1:x<=18446744073709551615):
    Mx.word (IntKind.u64.wrap (bits BinOp.xor IntKind.u64 h x+11400714819323198485))=Mx.step h x:=by
  rw[Mx.xor_walk h x h0 h1 x0 x1,IntKind.wrap_u64]
  have e:((((h.toNat ^^^ x.toNat:Nat):Int)+11400714819323198485)%18446744073709551616).toNat=((h.toNat ^^^ x.toNat)+11400714819323198485)%M:=by
    unfold M
    omega
  unfold Mx.word Mx.step lG
  rw[e]
set_option maxHeartbeats 400000 in
theorem mH (h x:Int)(w:World)(h0:0<=h)(h1:h<=18446744073709551615)(x0:0<=x)(x1:x<=18446744073709551615):
    Calls Tryz.prog 75 #[.int .u64 h,.int .u64 x] w fun e w'=>e=.returned (.int .u64 (Mx.step h x))/\w=w':=by
  go_enter Tryz.func75,Tryz.ntmps75
  go_wp2_with fail
  refine(aFo _ _ (Mx.wrap_bd _).1 (Mx.wrap_bd _).2).mono ?_
  rintro e w' ⟨rfl,rfl⟩
  go_wp2
  go_ret
  exact⟨aCg (aHy (Mx.step_walk h x h0 h1 x0 x1)),rfl⟩
namespace Mx
def nth (l:List Int) (k:Nat):Int:=l[k]?.getD 0
/-- Two lists of words, held against each other: -1, 0, 1. -/
def cmpL :List Int->List Int->Int
  | [],[]=>0
  | [],_::_=>-1
  |_::_,[]=>1
  |x::xs,y::ys=>if x<y then -1 else if y<x then 1 else cmpL xs ys
end Mx
set_option maxHeartbeats 400000 in
theorem nV (x:Int)(w:World):
    Calls Tryz.prog 176 #[.int .u64 x] w fun e w'=>e=.returned (.bool false)/\w=w':=by
  go_enter Tryz.func176,Tryz.ntmps176
  go_wp2
  go_ret
  exact⟨by simp,rfl⟩
set_option maxHeartbeats 400000 in
theorem wK (x y:Int)(w:World):
    Calls Tryz.prog 161 #[.int .u64 x,.int .u64 y] w fun e w'=>e=.returned (.int .i64 (if x<y then -1 else if y<x then 1 else 0))/\w=w':=by
  by_cases h:x<y
  · go_enter Tryz.func161,Tryz.ntmps161
    go_wp2_with (refine(nV _ _).mono ?_;rintro e w' ⟨rfl,rfl⟩)
    go_ret
    exact⟨by simp[h],rfl⟩
  · by_cases h2:y<x
    · go_enter Tryz.func161,Tryz.ntmps161
      go_wp2_with (refine(nV _ _).mono ?_;rintro e w' ⟨rfl,rfl⟩)
      go_ret
      exact⟨by simp[h,h2],rfl⟩
    · go_enter Tryz.func161,Tryz.ntmps161
      go_wp2_with (refine(nV _ _).mono ?_;rintro e w' ⟨rfl,rfl⟩)
      go_ret
      exact⟨by simp[h,h2],rfl⟩
theorem Mx.cmp_lt {x y:Int}{xs ys:List Int}(h:x<y):Mx.cmpL (x::xs) (y::ys)=-1:=by simp[Mx.cmpL,h]
theorem Mx.cmp_gt {x y:Int}{xs ys:List Int}(h:y<x):Mx.cmpL (x::xs) (y::ys)=1:=by
  have:¬x<y:=by omega
  simp[Mx.cmpL,h,this]
theorem Mx.cmp_eq {x y:Int}{xs ys:List Int}(h:¬x<y)(h2:¬y<x):Mx.cmpL (x::xs) (y::ys)=Mx.cmpL xs ys:=by simp[Mx.cmpL,h,h2]
theorem Mx.drop_at (xs:List Int)(k:Nat)(h:k<xs.length):xs.drop k=Mx.nth xs k::xs.drop (k+1):=by
  unfold Mx.nth;rw[List.drop_eq_getElem_cons h,List.getElem?_eq_getElem h];rfl
set_option maxHeartbeats 1000000 in
theorem oJ (b1 o1 c1 b2 o2 c2:Nat)(xs ys:List Int)(w:World)(h1:∀i,i<xs.length->w.cell? ⟨b1,o1+i,none⟩=some (.int .u64 (Mx.nth xs i)))(h2:∀i,i<ys.length->w.cell? ⟨b2,o2+i,none⟩=some (.int .u64 (Mx.nth ys i)))(m1:xs.length<=9223372036854775807)(m2:ys.length<=9223372036854775807):
    Calls Tryz.prog 152 #[.slice (some ⟨b1,o1,none⟩) xs.length c1,.slice (some ⟨b2,o2,none⟩) ys.length c2] w fun e w'=>e=.returned (.int .i64 (Mx.cmpL xs ys))/\w=w':=by
  go_enter Tryz.func152,Tryz.ntmps152
  go_wp2
  go_loop [11] (fun i=>∃k:Nat,k<=xs.length/\k<=ys.length/\i=.int .i64 k/\Hid (Mx.cmpL xs ys=Mx.cmpL (xs.drop k) (ys.drop k))) (fun i=>xs.length-(intOf i).toNat)
  case atStart=>exact⟨0,Nat.zero_le _,Nat.zero_le _,rfl,Lib.hid rfl⟩
  case round=>
    obtain⟨k,hk,hk2,rfl,hc⟩:=hrel
    by_cases hlt:k<xs.length
    · have a1:=h1 k hlt
      have d1:=Lib.hid (Mx.drop_at xs k hlt)
      by_cases hlt2:k<ys.length
      · have a2:=h2 k hlt2
        have d2:=Lib.hid (Mx.drop_at ys k hlt2)
        clear h1 h2
        rcases(by omega:Mx.nth xs k<Mx.nth ys k\/Mx.nth ys k<Mx.nth xs k\/(¬Mx.nth xs k<Mx.nth ys k/\¬Mx.nth ys k<Mx.nth xs k))with h|h|⟨h,h'⟩
        · go_wp2_with (refine(wK _ _ _).mono ?_;rintro e w' ⟨rfl,rfl⟩)
          go_ret
          exact⟨jV (by rw[hc.out,d1.out,d2.out,Mx.cmp_lt (by omega)]),rfl⟩
        · go_wp2_with (refine(wK _ _ _).mono ?_;rintro e w' ⟨rfl,rfl⟩)
          go_ret
          exact⟨jV (by rw[hc.out,d1.out,d2.out,Mx.cmp_gt (by omega)]),rfl⟩
        · go_wp2_with (refine(wK _ _ _).mono ?_;rintro e w' ⟨rfl,rfl⟩)
          go_round
          case rel=>exact⟨k+1,by omega,by omega,by go_num,Lib.hid (by rw[hc.out,d1.out,d2.out,Mx.cmp_eq (by omega) (by omega)])⟩
          case measure=>simp[intOf];omega
      · clear h1 h2
        go_wp2
        go_ret
        exact⟨jV (by rw[hc.out,d1.out,List.drop_of_length_le (by omega:ys.length<=k)];rfl),rfl⟩
    · clear h1 h2
      by_cases hlt2:k<ys.length
      · have d2:=Lib.hid (Mx.drop_at ys k hlt2)
        go_wp2
        go_ret
        exact⟨jV (by rw[hc.out,d2.out,List.drop_of_length_le (by omega:xs.length<=k)];rfl),rfl⟩
      · go_wp2
        go_ret
        exact⟨jV (by rw[hc.out,List.drop_of_length_le (by omega:xs.length<=k),List.drop_of_length_le (by omega:ys.length<=k)];rfl),rfl⟩
namespace Mx
def less (a0 a1 b0 b1:Int):Bool:=decide (a0<b0)||(a0==b0&&decide (a1<b1))
theorem less_cmp (a0 a1 b0 b1:Int):decide (cmpL [a0,a1] [b0,b1]<0)=less a0 a1 b0 b1:=by
  unfold less
  simp only[cmpL]
  by_cases h:a0<b0
  · simp[h]
  · by_cases h2:b0<a0
    · have:a0≠b0:=by omega
      simp[h,h2,this]
    · have:a0=b0:=by omega
      subst this
      by_cases h3:a1<b1
      · simp[h3]
      · by_cases h4:b1<a1<;>simp[h3,h4]
end Mx
theorem Calls.quiet_same {P:Program}{f:FuncId}{args:Array Value}{w:World}{n:Nat}{v:Value}(h:Calls P f args (w.drewN n) fun e w'=>e=.returned v/\w.drewN n=w'):Calls P f args (w.drewN n) fun e w''=>e=.returned v/\∃m,w''=w.drewN m:=
  h.mono fun _ _ ⟨he,hm⟩=>⟨he,n,hm.symm⟩
/-- What 'Less' asks of 'slices.Compare': the two arrays lie in the two newest blocks. -/
theorem aDm (a0 a1 b0 b1:Int)(w:World)(n:Nat):
    Calls Tryz.prog 152 #[.slice (some ⟨w.heap.size,0,none⟩) 2 2,.slice (some ⟨w.heap.size+1,0,none⟩) 2 2]
      (((w.alloc (.cells #[.int .u64 a0,.int .u64 a1] 40)).alloc (.cells #[.int .u64 b0,.int .u64 b1] 40)).drewN n)
      fun e w''=>e=.returned (.int .i64 (Mx.cmpL [a0,a1] [b0,b1]))/\∃m,w''=((w.alloc (.cells #[.int .u64 a0,.int .u64 a1] 40)).alloc (.cells #[.int .u64 b0,.int .u64 b1] 40)).drewN m:=
  Calls.quiet_same (oJ _ 0 2 _ 0 2 [a0,a1] [b0,b1] _
    (fun i hi=>by
      match i,hi with
      |0,_=>simp[Mx.nth]
      |1,_=>simp[Mx.nth])
    (fun i hi=>by
      match i,hi with
      |0,_=>simp[Mx.nth]
      |1,_=>simp[Mx.nth])
    (by simp) (by simp))
set_option maxHeartbeats 1000000 in
theorem aGs (a0 a1 b0 b1:Int)(w:World):
    Calls Tryz.prog 139 #[.agg #[.int .u64 a0,.int .u64 a1],.agg #[.int .u64 b0,.int .u64 b1]] w fun e w'=>e=.returned (.bool (Mx.less a0 a1 b0 b1))/\Below w.heap.size w w':=by
  go_enter Tryz.func139,Tryz.ntmps139
  go_wp2
  go_quiet ((go_at_call 152;exact aDm a0 a1 b0 b1 w _))
  go_wp2
  go_ret
  exact⟨fZ (Mx.less_cmp a0 a1 b0 b1),(((Below.refl _ _).alloc (Nat.le_refl _) _).alloc (by simp) _).trans (cV _ _ _)⟩
namespace Mx
/-- What is turned. -/
def neg (x:Int):Int:=18446744073709551615-x
theorem neg_bd (x:Int)(h0:0<=x)(h1:x<=18446744073709551615):0<=neg x/\neg x<=18446744073709551615:=by unfold neg;omega
theorem aJx (X:Nat)(h:X<2 ^ 64):(2 ^ 64-1) ^^^ X=2 ^ 64-1-X:=by
  have e:=congrArg BitVec.toNat (BitVec.allOnes_xor (x:=BitVec.ofNat 64 X))
  rw[BitVec.toNat_xor,BitVec.toNat_not,BitVec.toNat_allOnes,BitVec.toNat_ofNat,Nat.mod_eq_of_lt h]at e
  exact e
theorem neg_walk (x:Int)(h0:0<=x)(h1:x<=18446744073709551615):bits BinOp.xor IntKind.u64 IntKind.u64.max x=neg x:=by
  obtain⟨X,rfl⟩:=Int.eq_ofNat_of_zero_le h0
  have hX:X<2 ^ 64:=by omega
  have hm:IntKind.u64.max=((2 ^ 64-1:Nat):Int):=rfl
  rw[hm,bits_xor_u64_nat _ _ (by decide) (by omega),aJx X hX]
  unfold neg
  omega
end Mx
/-- ONE BLOCK HAS TURNED, and nothing else. -/
structure cT (B:Nat) (o:Obj) (w w':World):Prop where
  os:w'.os=w.os
  tape:w'.tape=w.tape
  output:w'.output=w.output
  size:w'.heap.size=w.heap.size
  new:w'.heap[B]?=some o
  block:∀k,k≠B->w'.heap[k]?=w.heap[k]?
theorem cT.below {B N:Nat}{o:Obj}{w w':World}(h:cT B o w w')(hN:N<=B):Below N w w':=
  ⟨h.os,h.tape,h.output,Nat.le_of_eq h.size.symm,fun k hk=>h.block k (by omega)⟩
/-- Two cells of a block of two are stored, and something is drawn. -/
theorem aIv (w:World)(B:Nat)(u v x y:Value)(t:TypeId)(hb:w.heap[B]?=some (.cells #[u,v] t (0,0))):
    cT B (.cells #[x,y] t (0,0)) w (((w.setCell ⟨B,0,none⟩ x).setCell ⟨B,1,none⟩ y).drew):=by
  refine⟨rfl,rfl,rfl,by simp[World.setCell,World.drew],?_,?_⟩
  · show((w.setCell ⟨B,0,none⟩ x).setCell ⟨B,1,none⟩ y).heap[B]?=_
    simp[World.setCell,Array.getElem?_modify,hb]
  · intro k hk
    show((w.setCell ⟨B,0,none⟩ x).setCell ⟨B,1,none⟩ y).heap[k]?=_
    rw[Below.heap_setCell _ _ _ _ hk,Below.heap_setCell _ _ _ _ hk]
set_option maxHeartbeats 1000000 in
theorem xG (B:Nat)(a b x:Int)(w:World)(a0:0<=a)(a1:a<=18446744073709551615)(b0:0<=b)(b1:b<=18446744073709551615)(x0:0<=x)(x1:x<=18446744073709551615)(hb:w.heap[B]?=some (.cells #[.int .u64 a,.int .u64 b] 40 (0,0))):
    Calls Tryz.prog 74 #[.int .u64 x,.pointer (some ⟨B,0,none⟩)] w fun e w'=>e=.returned (.tuple #[])/\cT B (.cells #[.int .u64 (Mx.step a x),.int .u64 (Mx.step b (Mx.neg x))] 40 (0,0)) w w':=by
  have ca:w.cell? ⟨B,0,none⟩=some (.int .u64 a):=by simp[World.cell?,hb]
  have cb:w.cell? ⟨B,1,none⟩=some (.int .u64 b):=by simp[World.cell?,hb]
  have fa:w.frozen? ⟨B,0,none⟩=false:=by simp[World.frozen?,hb]
  have fb:w.frozen? ⟨B,1,none⟩=false:=by simp[World.frozen?,hb]
  have HB:=Lib.hid hb
  clear hb
  have hn:=Mx.neg_walk x x0 x1
  have hn2:=Mx.neg_bd x x0 x1
  go_enter Tryz.func74,Tryz.ntmps74
  go_wp2
  go_region_with (first|(go_at_call 75;refine(mH _ _ _ (by omega) (by omega) (by omega) (by omega)).mono ?_;rintro e w' ⟨rfl,rfl⟩))
  all_goals
    go_end0
    exact⟨rfl,aIv _ _ _ _ _ _ _ HB.out⟩
structure M {α:Type} (k:Nat) (a:α)
def m00 (x0:Nat):M 0 x0:=⟨⟩
noncomputable instance {x0:Nat}:CoeOut (M 0 x0) Addr:=⟨fun _=>⟨x0,0,none⟩⟩
def m05 (x0:Option Addr) (x1:Nat) (x2:Nat) (x3:Int) (x4:Int) (x5:Int) (x6:Int):M 5 (x0,x1,x2,x3,x4,x5,x6):=⟨⟩
noncomputable instance {x0:Option Addr}{x1:Nat}{x2:Nat}{x3:Int}{x4:Int}{x5:Int}{x6:Int}:CoeOut (M 5 (x0,x1,x2,x3,x4,x5,x6)) (Array Value):=⟨fun _=>#[.slice x0 x1 x2,.int .u64 x3,.int .i64 x4,.int .i64 x5,.int .i64 x6]⟩
def m07 (x0:World):M 7 x0:=⟨⟩
noncomputable instance {x0:World}:CoeOut (M 7 x0) Addr:=⟨fun _=>⟨x0.heap.size,0,none⟩⟩
def m08 (x0:Int) (x1:Int):M 8 (x0,x1):=⟨⟩
noncomputable instance {x0:Int}{x1:Int}:CoeOut (M 8 (x0,x1)) (Array Value):=⟨fun _=>#[.int .u64 x0,.int .u64 x1]⟩
def m09 (x0:Nat) (x1:Nat):M 9 (x0,x1):=⟨⟩
noncomputable instance {x0:Nat}{x1:Nat}:CoeOut (M 9 (x0,x1)) Addr:=⟨fun _=>⟨x0,x1,none⟩⟩
def m11 (x0:Int) (x1:Int) (x2:Int) (x3:Int) (x4:Int):M 11 (x0,x1,x2,x3,x4):=⟨⟩
noncomputable instance {x0:Int}{x1:Int}{x2:Int}{x3:Int}{x4:Int}:CoeOut (M 11 (x0,x1,x2,x3,x4)) (Array Value):=⟨fun _=>#[.int .i64 x0,.int .i64 x1,.int .u64 x2,.int .u64 x3,.int .u64 x4]⟩
def m12 (x0:Int) (x1:Int) (x2:Int) (x3:Int):M 12 (x0,x1,x2,x3):=⟨⟩
noncomputable instance {x0:Int}{x1:Int}{x2:Int}{x3:Int}:CoeOut (M 12 (x0,x1,x2,x3)) (Array Value):=⟨fun _=>#[.int .i64 x0,.int .i64 x1,.int .u64 x2,.int .u64 x3]⟩
def m13 (x0:Int) (x1:Int) (x2:Int) (x3:Int) (x4:Int) (x5:Int) (x6:Int) (x7:Option Addr) (x8:Nat) (x9:Nat) (x10:Option Addr) (x11:Nat) (x12:Nat):M 13 (x0,x1,x2,x3,x4,x5,x6,x7,x8,x9,x10,x11,x12):=⟨⟩
noncomputable instance {x0:Int}{x1:Int}{x2:Int}{x3:Int}{x4:Int}{x5:Int}{x6:Int}{x7:Option Addr}{x8:Nat}{x9:Nat}{x10:Option Addr}{x11:Nat}{x12:Nat}:CoeOut (M 13 (x0,x1,x2,x3,x4,x5,x6,x7,x8,x9,x10,x11,x12)) (Array Value):=⟨fun _=>#[.int .i64 x0,.int .i64 x1,.int .i64 x2,.int .i64 x3,.int .u64 x4,.int .u64 x5,.int .u64 x6,.slice x7 x8 x9,.slice x10 x11 x12]⟩
def m14 (x0:World):M 14 x0:=⟨⟩
noncomputable instance {x0:World}:CoeOut (M 14 x0) Addr:=⟨fun _=>⟨x0.heap.size,1,none⟩⟩
def m15 (x0:Nat):M 15 x0:=⟨⟩
noncomputable instance {x0:Nat}:CoeOut (M 15 x0) Addr:=⟨fun _=>⟨x0,1,none⟩⟩
def m17 (x0:World):M 17 x0:=⟨⟩
noncomputable instance {x0:World}:CoeOut (M 17 x0) Addr:=⟨fun _=>⟨x0.heap.size,2,none⟩⟩
def m18 :M 18 ():=⟨⟩
noncomputable instance :CoeOut (M 18 ()) (Array Value):=⟨fun _=>#[.slice none 0 0,.slice none 0 0]⟩
def m19 (x0:World):M 19 x0:=⟨⟩
noncomputable instance {x0:World}:CoeOut (M 19 x0) Addr:=⟨fun _=>⟨x0.heap.size,3,none⟩⟩
def m20 :M 20 ():=⟨⟩
noncomputable instance :CoeOut (M 20 ()) (Array Value):=⟨fun _=>#[.int .i64 0,.int .i64 0,.slice none 0 0,.slice none 0 0,.slice none 0 0,.slice none 0 0,.slice none 0 0,.int .u64 0,.int .u64 0,.int .i64 0,.int .i64 0,.bool false]⟩
def m21 :M 21 ():=⟨⟩
noncomputable instance :CoeOut (M 21 ()) (Array Value):=⟨fun _=>#[.slice none 0 0,.int .u64 0,.int .i64 0,.int .i64 0,.int .i64 0,.slice none 0 0,.int .i64 0,.slice none 0 0,.slice none 0 0]⟩
def m22 (x0:World):M 22 x0:=⟨⟩
noncomputable instance {x0:World}:CoeOut (M 22 x0) Addr:=⟨fun _=>⟨x0.heap.size+1,0,none⟩⟩
def m23 (x0:Nat) (x1:Nat):M 23 (x0,x1):=⟨⟩
noncomputable instance {x0:Nat}{x1:Nat}:CoeOut (M 23 (x0,x1)) (Array Value):=⟨fun _=>#[.pointer (some (m00 x0)),.pointer (some (m00 x1))]⟩
def m24 :M 24 ():=⟨⟩
noncomputable instance :CoeOut (M 24 ()) (Array Value):=⟨fun _=>#[.int .i64 0,.int .i64 0,.int .i64 0,.int .i64 0,.int .u64 0,.int .u64 0,.int .u64 0,.slice none 0 0,.slice none 0 0]⟩
def m25 (x0:Nat):M 25 x0:=⟨⟩
noncomputable instance {x0:Nat}:CoeOut (M 25 x0) Addr:=⟨fun _=>⟨x0,2,none⟩⟩
def m26 :M 26 ():=⟨⟩
noncomputable instance :CoeOut (M 26 ()) (Array Value):=⟨fun _=>#[.int .u64 0,.int .u64 0]⟩
def m27 (x0:World):M 27 x0:=⟨⟩
noncomputable instance {x0:World}:CoeOut (M 27 x0) Addr:=⟨fun _=>⟨x0.heap.size,4,none⟩⟩
def m28 (x0:World) (x1:Option Addr) (x2:Nat) (x3:Nat) (x4:Int) (x5:Int) (x6:Int) (x7:Int):M 28 (x0,x1,x2,x3,x4,x5,x6,x7):=⟨⟩
noncomputable instance {x0:World}{x1:Option Addr}{x2:Nat}{x3:Nat}{x4:Int}{x5:Int}{x6:Int}{x7:Int}:CoeOut (M 28 (x0,x1,x2,x3,x4,x5,x6,x7)) World:=⟨fun _=>(x0.alloc (.cells (m05 x1 x2 x3 x4 x5 x6 x7) 25))⟩
def m29 (x0:World):M 29 x0:=⟨⟩
noncomputable instance {x0:World}:CoeOut (M 29 x0) Addr:=⟨fun _=>⟨x0.heap.size+1,1,none⟩⟩
def m30 (x0:Int):M 30 x0:=⟨⟩
noncomputable instance {x0:Int}:CoeOut (M 30 x0) Value:=⟨fun _=>(.int .i64 x0)⟩
def m31 (x0:Nat) (x1:Nat):M 31 (x0,x1):=⟨⟩
noncomputable instance {x0:Nat}{x1:Nat}:CoeOut (M 31 (x0,x1)) (Array Value):=⟨fun _=>#[.pointer (some (m00 x0)),.pointer (some ⟨x0+1,0,none⟩),.pointer (some (m00 x1))]⟩
def m32 (x0:World) (x1:World) (x2:Nat):M 32 (x0,x1,x2):=⟨⟩
noncomputable instance {x0:World}{x1:World}{x2:Nat}:CoeOut (M 32 (x0,x1,x2)) World:=⟨fun _=>((x0.alloc (.cells #[.func (.func 52) #[] #[.pointer (some (m07 x1))]] 104)).setCell ⟨x2,13,none⟩ (.func (.func 53) #[] #[.pointer (some (m07 x0)),.pointer (some (m00 x2))]))⟩
def m33 (x0:Nat):M 33 x0:=⟨⟩
noncomputable instance {x0:Nat}:CoeOut (M 33 x0) Addr:=⟨fun _=>⟨x0,3,none⟩⟩
def m34 (x0:Int):M 34 x0:=⟨⟩
noncomputable instance {x0:Int}:CoeOut (M 34 x0) Value:=⟨fun _=>(.tuple #[.int .i64 x0,.bool true])⟩
def m35 (x0:Nat):M 35 x0:=⟨⟩
noncomputable instance {x0:Nat}:CoeOut (M 35 x0) Addr:=⟨fun _=>⟨x0,4,none⟩⟩
def m36 (x0:Nat):M 36 x0:=⟨⟩
noncomputable instance {x0:Nat}:CoeOut (M 36 x0) Addr:=⟨fun _=>⟨x0,7,none⟩⟩
def m37 (x0:Int) (x1:Int) (x2:Int) (x3:Int):M 37 (x0,x1,x2,x3):=⟨⟩
noncomputable instance {x0:Int}{x1:Int}{x2:Int}{x3:Int}:CoeOut (M 37 (x0,x1,x2,x3)) (Array Value):=⟨fun _=>#[.int .u64 x0,.int .u64 x1,.int .i64 x2,.int .i64 x3]⟩
def m38 :M 38 ():=⟨⟩
noncomputable instance :CoeOut (M 38 ()) Value:=⟨fun _=>(.tuple #[.int .i64 0,.bool false])⟩
def m39 (x0:Nat):M 39 x0:=⟨⟩
noncomputable instance {x0:Nat}:CoeOut (M 39 x0) Addr:=⟨fun _=>⟨x0,6,none⟩⟩
def m40 (x0:Int) (x1:Int):M 40 (x0,x1):=⟨⟩
noncomputable instance {x0:Int}{x1:Int}:CoeOut (M 40 (x0,x1)) Obj:=⟨fun _=>(.cells (m08 x0 x1) 40)⟩
def m43 (x0:Nat):M 43 x0:=⟨⟩
noncomputable instance {x0:Nat}:CoeOut (M 43 x0) Value:=⟨fun _=>(.map (some x0))⟩
def m45 (x0:World):M 45 x0:=⟨⟩
noncomputable instance {x0:World}:CoeOut (M 45 x0) Addr:=⟨fun _=>⟨x0.heap.size+2,0,none⟩⟩
def m46 (x0:Nat):M 46 x0:=⟨⟩
noncomputable instance {x0:Nat}:CoeOut (M 46 x0) (Array Value):=⟨fun _=>#[.pointer (some (m00 x0))]⟩
def m47 (x0:Nat):M 47 x0:=⟨⟩
noncomputable instance {x0:Nat}:CoeOut (M 47 x0) Addr:=⟨fun _=>⟨x0,17,none⟩⟩
def m48 :M 48 ():=⟨⟩
noncomputable instance :CoeOut (M 48 ()) Value:=⟨fun _=>(.slice none 0 0)⟩
def m51 (x0:World):M 51 x0:=⟨⟩
noncomputable instance {x0:World}:CoeOut (M 51 x0) Addr:=⟨fun _=>⟨x0.heap.size,7,none⟩⟩
def m52 (x0:Option Addr) (x1:Nat) (x2:Nat) (x3:Option Addr) (x4:Nat) (x5:Nat):M 52 (x0,x1,x2,x3,x4,x5):=⟨⟩
noncomputable instance {x0:Option Addr}{x1:Nat}{x2:Nat}{x3:Option Addr}{x4:Nat}{x5:Nat}:CoeOut (M 52 (x0,x1,x2,x3,x4,x5)) (Array Value):=⟨fun _=>#[.slice x0 x1 x2,.slice x3 x4 x5]⟩
def m53 :M 53 ():=⟨⟩
noncomputable instance :CoeOut (M 53 ()) (Array Value):=⟨fun _=>#[.int .i64 0,.int .i64 0,.int .u64 0,.int .u64 0,.int .u64 0]⟩
def m54 (x0:World):M 54 x0:=⟨⟩
noncomputable instance {x0:World}:CoeOut (M 54 x0) Addr:=⟨fun _=>⟨x0.heap.size+2,1,none⟩⟩
def m55 (x0:World) (x1:Nat) (x2:Nat) (x3:Nat) (x4:Nat) (x5:Option Addr) (x6:Nat) (x7:Nat):M 55 (x0,x1,x2,x3,x4,x5,x6,x7):=⟨⟩
noncomputable instance {x0:World}{x1:Nat}{x2:Nat}{x3:Nat}{x4:Nat}{x5:Option Addr}{x6:Nat}{x7:Nat}:CoeOut (M 55 (x0,x1,x2,x3,x4,x5,x6,x7)) World:=⟨fun _=>(x0.alloc (.cells #[.slice (some (m09 x1 x2)) x3 x4,.slice x5 x6 x7] 38))⟩
def m56 :M 56 ():=⟨⟩
noncomputable instance :CoeOut (M 56 ()) Obj:=⟨fun _=>(.cells (m18) 38)⟩
def m57 (x0:Int):M 57 x0:=⟨⟩
noncomputable instance {x0:Int}:CoeOut (M 57 x0) (Array Value):=⟨fun _=>#[.int .i64 x0,.int .i64 3,.slice none 0 0,.slice none 0 0,.slice none 0 0,.slice none 0 0,.slice none 0 0,.int .u64 0,.int .u64 0,.int .i64 0,.int .i64 0,.bool false]⟩
def m58 :M 58 ():=⟨⟩
noncomputable instance :CoeOut (M 58 ()) (Array Value):=⟨fun _=>#[.int .i64 0,.int .i64 0,.int .u64 0,.int .u64 0]⟩
def m59 (x0:Nat):M 59 x0:=⟨⟩
noncomputable instance {x0:Nat}:CoeOut (M 59 x0) Addr:=⟨fun _=>⟨x0,12,none⟩⟩
def m60 (x0:Nat):M 60 x0:=⟨⟩
noncomputable instance {x0:Nat}:CoeOut (M 60 x0) Addr:=⟨fun _=>⟨x0,8,none⟩⟩
def m61 (x0:World):M 61 x0:=⟨⟩
noncomputable instance {x0:World}:CoeOut (M 61 x0) Addr:=⟨fun _=>⟨x0.heap.size,5,none⟩⟩
def m62 (x0:World):M 62 x0:=⟨⟩
noncomputable instance {x0:World}:CoeOut (M 62 x0) Addr:=⟨fun _=>⟨x0.heap.size,8,none⟩⟩
def m63 (x0:Option Addr) (x1:Nat) (x2:Nat):M 63 (x0,x1,x2):=⟨⟩
noncomputable instance {x0:Option Addr}{x1:Nat}{x2:Nat}:CoeOut (M 63 (x0,x1,x2)) Value:=⟨fun _=>(.slice x0 x1 x2)⟩
def m64 (x0:World) (x1:Nat):M 64 (x0,x1):=⟨⟩
noncomputable instance {x0:World}{x1:Nat}:CoeOut (M 64 (x0,x1)) (Array Value):=⟨fun _=>#[.pointer (some (m07 x0)),.pointer (some (m00 x1))]⟩
def m65 (x0:Nat):M 65 x0:=⟨⟩
noncomputable instance {x0:Nat}:CoeOut (M 65 x0) Addr:=⟨fun _=>⟨x0,5,none⟩⟩
def m66 (x0:Nat):M 66 x0:=⟨⟩
noncomputable instance {x0:Nat}:CoeOut (M 66 x0) Addr:=⟨fun _=>⟨x0+1,0,none⟩⟩
def m67 (x0:Int) (x1:Int):M 67 (x0,x1):=⟨⟩
noncomputable instance {x0:Int}{x1:Int}:CoeOut (M 67 (x0,x1)) Value:=⟨fun _=>(.agg (m08 x0 x1))⟩
def m68 (x0:Int):M 68 x0:=⟨⟩
noncomputable instance {x0:Int}:CoeOut (M 68 x0) Value:=⟨fun _=>(.int .u64 x0)⟩
end Go.Proofs.YtbbhinehcncmeaaGreat
