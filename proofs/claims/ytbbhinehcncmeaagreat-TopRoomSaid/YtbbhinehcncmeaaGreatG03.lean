/- A part of the proof of the laws of the top: TpDuty1, TpTree. No condition. -/
import Derived.Test.YtbbhinehcncmeaaGreatG01
import Derived.Test.YtbbhinehcncmeaaGreatG02
namespace Go.Proofs.YtbbhinehcncmeaaGreat
open Go.RowKit
set_option linter.unusedSimpArgs false
set_option linter.unusedVariables false
set_option linter.unusedSectionVars false
set_option maxHeartbeats 2000000
def Ints (w:World) (a:Option Addr) (l:List Int):Prop:=
 l.length=0\/∃b o,a=some ⟨b,o,none⟩/\b<w.heap.size/\∀i,i<l.length->w.cell? (m09 b (o+i))=some (.int .i64 (Mx.nth l i))
theorem Ints.below {w w':World}{a:Option Addr}{l:List Int}{B:Nat}(h:Ints w a l)(hb:Below B w w')(hB:w.heap.size<=B):Ints w' a l:=by
 rcases h with h0|⟨b,o,rfl,hlt,hc⟩
 ·exact .inl h0
 ·exact .inr ⟨b,o,rfl,Nat.lt_of_lt_of_le hlt hb.size,fun i hi=>(hb.cell (p:=(m09 b (o+i))) (Nat.lt_of_lt_of_le hlt hB)).trans (hc i hi)⟩
theorem Ints.keep {w w':World}{a:Option Addr}{l:List Int}(h:Ints w a l)(hb:Below w.heap.size w w'):Ints w' a l:=h.below hb nr
namespace Tp
def minL (l:List Int) (k:Nat):Int:=(l.take k).foldl min (Mx.nth l 0)
def maxL (l:List Int) (k:Nat):Int:=(l.take k).foldl max (Mx.nth l 0)
theorem sM (l:List Int)(k:Nat)(h:k<l.length):l.take (k+1)=l.take k++[Mx.nth l k]:=by
 rw[List.take_add_one,List.getElem?_eq_getElem h]
 simp[Mx.nth,List.getElem?_eq_getElem h]
theorem tD (l:List Int)(k:Nat)(h:k<l.length):minL l (k+1)=min (minL l k) (Mx.nth l k):=by
 unfold minL
 rw[sM l k h,List.foldl_append]
 rfl
theorem tF (l:List Int)(k:Nat)(h:k<l.length):maxL l (k+1)=max (maxL l k) (Mx.nth l k):=by
 unfold maxL
 rw[sM l k h,List.foldl_append]
 rfl
def mayC (l:List Int) (ep nu de:Int):Bool:=
 decide (0<l.length)&&decide (l.length<=12)&&l.all (fun x=>decide (0<=x)&&decide (x<=1099511627776)) &&
 decide (0<ep)&&decide (ep<=8)&&decide (0<=nu)&&decide (nu<=de)&&decide (0<de)&&decide (de<=1000)
theorem tT (l:List Int):∀a b:Int,l.foldl min a<b↔a<b\/∃x∈l,x<b:=by
 induction l with
 |nil=>simp
 |cons x r ih=>
  intro a b
  have h:min a x<b↔a<b\/x<b:=by omega
  rw[List.foldl_cons,ih,h]
  simp only[List.mem_cons,exists_eq_or_imp,or_assoc]
theorem tU (l:List Int):∀a b:Int,b<l.foldl max a↔b<a\/∃x∈l,b<x:=by
 induction l with
 |nil=>simp
 |cons x r ih=>
  intro a b
  have h:b<max a x↔b<a\/b<x:=by omega
  rw[List.foldl_cons,ih,h]
  simp only[List.mem_cons,exists_eq_or_imp,or_assoc]
theorem vK (l:List Int)(k:Nat)(h:k<l.length):Mx.nth l k∈l:=by
 unfold Mx.nth
 rw[List.getElem?_eq_getElem h]
 exact List.getElem_mem h
theorem aKx (l:List Int)(h:0<l.length):l.all (fun x=>decide (0<=x)&&decide (x<=1099511627776))=(!decide (minL l l.length<0)&& !decide (maxL l l.length>1099511627776)):=by
 have h0:=vK l 0 h
 rw[Bool.eq_iff_iff]
 simp only[List.all_eq_true,Bool.and_eq_true,decide_eq_true_eq,Bool.not_eq_true',decide_eq_false_iff_not]
 unfold minL maxL
 rw[List.take_length,tT,gt_iff_lt,tU]
 constructor
 ·intro g
  refine⟨?_,?_⟩
  ·rintro(h1|⟨x,hx,h1⟩)
   ·have:=g _ h0;omega
   ·have:=g _ hx;omega
  ·rintro(h1|⟨x,hx,h1⟩)
   ·have:=g _ h0;omega
   ·have:=g _ hx;omega
 ·rintro⟨g1,g2⟩ x hx
  exact⟨Int.not_lt.1 fun h1=>g1 (.inr ⟨x,hx,h1⟩),Int.not_lt.1 fun h1=>g2 (.inr ⟨x,hx,h1⟩)⟩
end Tp
theorem aKb (a:Option Addr)(n c:Nat)(l:List Int)(w:World)(hn:l.length=n)(h0:0<n)(hm:n<=9223372036854775807)(hl:Ints w a l):
  Calls Tryz.prog 42 #[.slice a n c] w fun e w'=>e=.returned (m30 (Tp.minL l n))/\w=w':=by
 rcases hl with h1|⟨b,o,rfl,hlt,hc⟩
 ·omega
 have HC:=zH hc
 have HN:=zH hn
 have x0:=hc 0 (by omega)
 rw[Nat.add_zero]at x0
 clear hc
 have l1:decide ((n:Int)<1)=false:=decide_eq_false (by omega)
 have i0:(0:Int)<n:=by omega
 have e1:Hid (Tp.minL l 1=Mx.nth l 0):=zH (by rw[Tp.tD l 0 (by omega)];simp[Tp.minL])
 clear hn
 go_enter Tryz.func42,Tryz.ntmps42
 go_wp2_with fail
 go_loop [3,4] (fun m i=>∃k:Nat,1<=k/\k<=n/\i=.int .i64 k/\m=.int .i64 (Tp.minL l k)) (fun _ i=>n-(intOf i).toNat)
 case atStart=>exact⟨1,by omega,by omega,rfl,by rw[e1.out]⟩
 case round=>
  obtain⟨k,hk1,hk,rfl,rfl⟩:=hrel
  by_cases hkn:k<n
  ·have e:=HC.out k (by rw[HN.out];exact hkn)
   have hs:=zH (Tp.tD l k (by rw[HN.out];exact hkn))
   obtain⟨m,hmm⟩:∃m,Tp.minL l k=m:=⟨_,rfl⟩
   obtain⟨y,hy⟩:∃m,Mx.nth l k=m:=⟨_,rfl⟩
   rw[hy]at e
   rw[hmm]
   have HM:=zH hmm
   have HY:=zH hy
   clear hmm hy
   have k0:(0:Int)<=k:=by omega
   have k1:(k:Int)<n:=by omega
   go_wp2
   exact⟨⟨k+1,by omega,by omega,by go_num,by rw[hs.out,HM.out,HY.out];first|rfl|(congr 1;omega)|trace_state⟩,by simp[intOf];omega⟩
  ·obtain rfl:k=n:=by omega
   go_wp2
   go_ret
   exact⟨rfl,rfl⟩
theorem aKe (a:Option Addr)(n c:Nat)(l:List Int)(w:World)(hn:l.length=n)(h0:0<n)(hm:n<=9223372036854775807)(hl:Ints w a l):
  Calls Tryz.prog 43 #[.slice a n c] w fun e w'=>e=.returned (m30 (Tp.maxL l n))/\w=w':=by
 rcases hl with h1|⟨b,o,rfl,hlt,hc⟩
 ·omega
 have HC:=zH hc
 have HN:=zH hn
 have x0:=hc 0 (by omega)
 rw[Nat.add_zero]at x0
 clear hc
 have l1:decide ((n:Int)<1)=false:=decide_eq_false (by omega)
 have i0:(0:Int)<n:=by omega
 have e1:Hid (Tp.maxL l 1=Mx.nth l 0):=zH (by rw[Tp.tF l 0 (by omega)];simp[Tp.maxL])
 clear hn
 go_enter Tryz.func43,Tryz.ntmps43
 go_wp2_with fail
 go_loop [3,4] (fun m i=>∃k:Nat,1<=k/\k<=n/\i=.int .i64 k/\m=.int .i64 (Tp.maxL l k)) (fun _ i=>n-(intOf i).toNat)
 case atStart=>exact⟨1,by omega,by omega,rfl,by rw[e1.out]⟩
 case round=>
  obtain⟨k,hk1,hk,rfl,rfl⟩:=hrel
  by_cases hkn:k<n
  ·have e:=HC.out k (by rw[HN.out];exact hkn)
   have hs:=zH (Tp.tF l k (by rw[HN.out];exact hkn))
   obtain⟨m,hmm⟩:∃m,Tp.maxL l k=m:=⟨_,rfl⟩
   obtain⟨y,hy⟩:∃m,Mx.nth l k=m:=⟨_,rfl⟩
   rw[hy]at e
   rw[hmm]
   have HM:=zH hmm
   have HY:=zH hy
   clear hmm hy
   have k0:(0:Int)<=k:=by omega
   have k1:(k:Int)<n:=by omega
   go_wp2
   exact⟨⟨k+1,by omega,by omega,by go_num,by rw[hs.out,HM.out,HY.out];first|rfl|(congr 1;omega)|trace_state⟩,by simp[intOf];omega⟩
  ·obtain rfl:k=n:=by omega
   go_wp2
   go_ret
   exact⟨rfl,rfl⟩
theorem dB (a:Option Addr)(n c:Nat)(l:List Int)(sd ep nu de:Int)(w:World)(hn:l.length=n)(hm:n<=9223372036854775807)(hl:Ints w a l):
  Calls Tryz.prog 23 #[.agg (m05 a n c sd ep nu de)] w fun e w'=>e=.returned (.bool (Tp.mayC l ep nu de))/\Below w.heap.size w w':=by
 have hb0:Below w.heap.size w (m28 w a n c sd ep nu de):=(Below.refl _ w).alloc nr _
 have hl1:=zH (hl.keep hb0)
 have HB:=zH hb0
 have HN:=zH hn
 clear hl hb0
 have res:∀t,t=Tp.mayC l ep nu de->Hid (Tp.mayC l ep nu de=t):=fun t h=>zH h.symm
 have r:Tp.mayC l ep nu de=(decide (0<n)&&decide (n<=12)&&l.all (fun x=>decide (0<=x)&&decide (x<=1099511627776)) &&
  decide (0<ep)&&decide (ep<=8)&&decide (0<=nu)&&decide (nu<=de)&&decide (0<de)&&decide (de<=1000)):=by unfold Tp.mayC;rw[hn]
 by_cases h0:n=0
 ·subst h0
  have r0:Tp.mayC l ep nu de=false:=by rw[r];rfl
  rw[r0]
  go_enter Tryz.func23,Tryz.ntmps23
  go_wp2
  go_ret
  exact⟨rfl,HB.out⟩
 have e0:((n:Int)==0)=false:=by simp;omega
 by_cases h12:n<=12
 case neg=>
  have r0:Tp.mayC l ep nu de=false:=by rw[r,decide_eq_false h12];simp
  have e1:decide ((n:Int)>12)=true:=decide_eq_true (by omega)
  rw[r0]
  go_enter Tryz.func23,Tryz.ntmps23
  go_wp2
  go_ret
  exact⟨rfl,HB.out⟩
 have e1:decide ((n:Int)>12)=false:=decide_eq_false (by omega)
 have ha:=Tp.aKx l (by omega)
 rw[hn]at ha
 rw[decide_eq_true (show 0<n by omega),decide_eq_true h12,ha]at r
 clear hn
 obtain⟨p,hp⟩:∃p,Tp.minL l n=p:=⟨_,rfl⟩
 obtain⟨q,hq⟩:∃p,Tp.maxL l n=p:=⟨_,rfl⟩
 rw[hp,hq]at r
 obtain⟨b1,g1⟩:∃b,decide (p<0)=b:=⟨_,rfl⟩
 obtain⟨b2,g2⟩:∃b,decide (q>1099511627776)=b:=⟨_,rfl⟩
 obtain⟨b3,g3⟩:∃b,decide (0<ep)=b:=⟨_,rfl⟩
 obtain⟨b4,g4⟩:∃b,decide (ep<=8)=b:=⟨_,rfl⟩
 obtain⟨b5,g5⟩:∃b,decide (0<=nu)=b:=⟨_,rfl⟩
 obtain⟨b6,g6⟩:∃b,decide (nu<=de)=b:=⟨_,rfl⟩
 obtain⟨b7,g7⟩:∃b,decide (0<de)=b:=⟨_,rfl⟩
 obtain⟨b8,g8⟩:∃b,decide (de<=1000)=b:=⟨_,rfl⟩
 rw[g1,g2,g3,g4,g5,g6,g7,g8]at r
 have HR:=zH r
 have HP:=zH hp
 have HQ:=zH hq
 have H0:Hid (0<n):=zH (by omega)
 clear r hp hq ha res
 have k3:decide (ep>0)=b3:=g3
 have k5:decide (nu≥0)=b5:=g5
 have k7:decide (de>0)=b7:=g7
 rw[HR.out]
 go_enter Tryz.func23,Tryz.ntmps23
 go_wp2_with (first
  |(go_at_call 42;refine(aKb a n c l _ HN.out H0.out hm hl1.out).mono ?_;rintro e w' ⟨rfl,rfl⟩;rw[HP.out])
  |(go_at_call 43;refine(aKe a n c l _ HN.out H0.out hm hl1.out).mono ?_;rintro e w' ⟨rfl,rfl⟩;rw[HQ.out]))
 all_goals
  go_ret
  refine⟨?_,HB.out⟩
  simp_all
def Tp.qZ (l:List Int) (ep nu de s:Int):Bool:=Tp.mayC l ep nu de&&decide (0<s)&&decide (s<=1048576)
theorem jL (a:Option Addr)(n c:Nat)(l:List Int)(sd ep nu de s:Int)(w:World)(hn:l.length=n)(hm:n<=9223372036854775807)(hl:Ints w a l):
  Calls Tryz.prog 86 #[.agg (m05 a n c sd ep nu de),.int .i64 s] w fun e w'=>e=.returned (.bool (Tp.qZ l ep nu de s))/\Below w.heap.size w w':=by
 have hb0:Below w.heap.size w (m28 w a n c sd ep nu de):=(Below.refl _ w).alloc nr _
 have hl1:=zH (hl.keep hb0)
 have HB:=zH hb0
 have HN:=zH hn
 clear hl hb0 hn
 unfold Tp.qZ
 obtain⟨b1,g1⟩:∃b,Tp.mayC l ep nu de=b:=⟨_,rfl⟩
 obtain⟨b2,g2⟩:∃b,decide (0<s)=b:=⟨_,rfl⟩
 obtain⟨b3,g3⟩:∃b,decide (s<=1048576)=b:=⟨_,rfl⟩
 have k2:decide (s>0)=b2:=g2
 have G1:=zH g1
 rw[g1,g2,g3]
 clear g1
 go_enter Tryz.func86,Tryz.ntmps86
 go_wp2_with (go_at_call 23;refine(dB a n c l sd ep nu de _ HN.out hm hl1.out).mono ?_;rintro e w' ⟨rfl,hb⟩;rw[G1.out];have bel:=HB.out.trans (hb.mono (by simp)))
 all_goals
  go_ret
  refine⟨?_,bel⟩
  simp_all
def Tp.u64 (x:Int):Int:=IntKind.u64.wrap x
def Tp.aCm (l:List Int) (sd ep nu de s:Int):Int:=
 if Tp.qZ l ep nu de s then Mx.step (Mx.step sd 4294967296) s%l.length else -1
theorem eI {s:Int}(h0:0<=s)(h1:s<=18446744073709551615):IntKind.u64.wrap s=s:=by rw[IntKind.wrap_u64];omega
theorem gA (a:Option Addr)(n c:Nat)(l:List Int)(sd ep nu de s:Int)(w:World)(hn:l.length=n)(hm:n<=9223372036854775807)(hsd:0<=sd/\sd<=18446744073709551615)(hl:Ints w a l):
  Calls Tryz.prog 49 #[.agg (m05 a n c sd ep nu de),.int .i64 s] w fun e w'=>e=.returned (m30 (Tp.aCm l sd ep nu de s))/\Below w.heap.size w w':=by
 have hb0:Below w.heap.size w (m28 w a n c sd ep nu de):=(Below.refl _ w).alloc nr _
 have hl1:=zH (hl.keep hb0)
 have c0:(m28 w a n c sd ep nu de:World).cell? (m07 w)=some (.slice a n c):=cA (heap_alloc_new w (.cells (m05 a n c sd ep nu de) 25)) 0
 have c1:(m28 w a n c sd ep nu de:World).cell? (m14 w)=some (.int .u64 sd):=cA (heap_alloc_new w (.cells (m05 a n c sd ep nu de) 25)) 1
 have hlt:w.heap.size<(m28 w a n c sd ep nu de:World).heap.size:=by simp
 have HB:=zH hb0
 have HN:=zH hn
 clear hl hb0
 unfold Tp.aCm
 cases hs:Tp.qZ l ep nu de s
 ·clear hn
  have HS:=zH hs
  clear hs
  go_enter Tryz.func49,Tryz.ntmps49
  go_wp2_with (go_at_call 86;refine(jL a n c l sd ep nu de s _ HN.out hm hl1.out).mono ?_;rintro e w' ⟨rfl,hb⟩;rw[HS.out];have bel:=HB.out.trans (hb.mono (by simp)))
  go_ret
  exact⟨rfl,bel⟩
 ·have s0:0<=s/\s<=1048576:=by
   unfold Tp.qZ at hs
   simp only[Bool.and_eq_true,decide_eq_true_eq]at hs
   omega
  have n0:0<n:=by
   unfold Tp.qZ Tp.mayC at hs
   simp only[Bool.and_eq_true,decide_eq_true_eq]at hs
   omega
  have HS:=zH hs
  have ws:=eI (s:=s) s0.1 (by omega)
  have wn:=eI (s:=(n:Int)) (by omega) (by omega)
  have bd:=Mx.step_bd (Mx.step sd 4294967296) s
  obtain⟨y,hy⟩:∃y,Mx.step (Mx.step sd 4294967296) s=y:=⟨_,rfl⟩
  have HY:=zH hy
  rw[hy]at bd
  have nz:¬(n:Int)=0:=by omega
  have tm:Int.tmod y n=y%n:=Int.tmod_eq_emod_of_nonneg bd.1
  have lt1:y%(n:Int)<n:=Int.emod_lt_of_pos _ (by omega)
  have lt0:=Int.emod_nonneg y nz
  have wy:IntKind.i64.wrap (y%(n:Int))=y%n:=IntWalk.i64_in _ (by omega)
  have R:Hid ((if true=true then Mx.step (Mx.step sd 4294967296) s%(l.length:Int)else -1)=y%n):=zH (by rw[if_pos rfl,hy,hn])
  have hst2:∀W:World,Calls Tryz.prog 75 (m08 (Mx.step sd 4294967296) s) W fun e w'=>e=.returned (m68 y)/\W=w':=fun W=>by
   rw[<-HY.out]
   exact mH (Mx.step sd 4294967296) s W (Mx.step_bd _ _).1 (Mx.step_bd _ _).2 s0.1 (by omega)
  clear hn hs hy lt1 lt0
  rw[R.out]
  go_enter Tryz.func49,Tryz.ntmps49
  go_wp2_with (go_at_call 86;refine(jL a n c l sd ep nu de s _ HN.out hm hl1.out).mono ?_;rintro e w' ⟨rfl,hb⟩;rw[HS.out];have bel:=HB.out.trans (hb.mono (by simp));have d0:=(hb.cell (p:=(m07 w)) hlt).trans c0;have d1:=(hb.cell (p:=(m14 w)) hlt).trans c1)
  go_quiet (first
   |(go_at_call_of 75 (Value.int .u64 4294967296);exact Calls.quiet_same (mH sd 4294967296 _ hsd.1 hsd.2 (by omega) (by omega)))
   |(go_at_call 75;exact Calls.quiet_same (hst2 _)))
  go_wp2
  go_ret
  exact⟨rfl,bel.trans (cV _ _ _)⟩
theorem cF (w:World)(o:Obj)(k:Nat):(w.alloc o).heap[k]?=if k=w.heap.size then some o else w.heap[k]?:=by
 by_cases h:k=w.heap.size
 ·subst h
  rw[if_pos rfl]
  exact heap_alloc_new w o
 ·rw[if_neg h]
  by_cases h2:k<w.heap.size
  ·exact Below.heap_alloc w o k h2
  ·rw[Array.getElem?_eq_none (by simp only[World.size_alloc];omega),Array.getElem?_eq_none (by omega)]
theorem cG {w w':World}{N k:Nat}{o:Obj}(hb:Below N w w')(hk:k<N)(h:w.heap[k]?=some o):w'.heap[k]?=some o:=(hb.block k hk).trans h
def IsU (x:Int):Prop:=0<=x/\x<=18446744073709551615
def Tp.name (b:Tp.B):Int×Int:=Mx.ofI [1,Tp.u64 b.slot,Tp.u64 b.who,b.p,b.q,b.salt]
def Tp.B.U (b:Tp.B):Prop:=IsU b.p/\IsU b.q/\IsU b.salt
theorem aHz (x:Int):IsU (Tp.u64 x):=by unfold IsU Tp.u64;rw[IntKind.wrap_u64];omega
theorem aLj (w:World)(x0 x1 x2 x3 x4 x5:Int)(t:TypeId)(g:Nat)(hg:g=w.heap.size)(h0:IsU x0)(h1:IsU x1)(h2:IsU x2)(h3:IsU x3)(h4:IsU x4)(h5:IsU x5):
  Mx.Words (w.alloc (.cells #[.int .u64 x0,.int .u64 x1,.int .u64 x2,.int .u64 x3,.int .u64 x4,.int .u64 x5] t)) (some ⟨g,0,none⟩) [x0,x1,x2,x3,x4,x5]:=by
 subst hg
 refine⟨?_,.inr ⟨w.heap.size,0,rfl,by simp,?_⟩⟩
 ·intro i hi
  match i,hi with
  |0,_=>exact h0
  |1,_=>exact h1
  |2,_=>exact h2
  |3,_=>exact h3
  |4,_=>exact h4
  |5,_=>exact h5
 ·intro i hi
  rw[Nat.zero_add,cA (heap_alloc_new w _) i]
  match i,hi with
  |0,_=>rfl
  |1,_=>rfl
  |2,_=>rfl
  |3,_=>rfl
  |4,_=>rfl
  |5,_=>rfl
theorem mY (w:World)(o1 o2 o3:Obj):(((w.alloc o1).alloc o2).alloc o3).heap[w.heap.size+1]?=some o2:=by
 rw[cF,if_neg (by simp only[World.size_alloc];omega),cF,if_pos (by simp only[World.size_alloc])]
theorem vA {w w':World}{o1 o2 o3:Obj}(hb:Below (((w.alloc o1).alloc o2).alloc o3).heap.size (((w.alloc o1).alloc o2).alloc o3) w'):Below w.heap.size w w':=
 ((((Below.refl _ w).alloc nr _).alloc (by simp) _).alloc (by simp only[World.size_alloc];omega) _).trans (hb.mono (by simp only[World.size_alloc];omega))
theorem gD (s f p q t:Int)(w:World)(hp:IsU p)(hq:IsU q)(ht:IsU t)(x y:Int)(hxy:Hid (Tp.name ⟨s,f,p,q,t⟩=(x,y))):
  Calls Tryz.prog 18 #[.agg (m11 s f p q t)] w fun e w'=>e=.returned (m67 x y)/\Below w.heap.size w w':=by
 obtain⟨u,hu⟩:∃u,IntKind.u64.wrap s=u:=⟨_,rfl⟩
 obtain⟨v,hv⟩:∃u,IntKind.u64.wrap f=u:=⟨_,rfl⟩
 have iu:IsU u:=by rw[<-hu];exact aHz s
 have iv:IsU v:=by rw[<-hv];exact aHz f
 have hx:Hid (Mx.ofI [1,u,v,p,q,t]=(x,y)):=zH (by rw[<-hxy.out,<-hu,<-hv];rfl)
 go_enter Tryz.func18,Tryz.ntmps18
 go_wp2_with (go_at_call 37;(refine(aMe _ 6 [1,u,v,p,q,t] _ (by simp) (aLj _ 1 u v p q t _ _ (by simp) ⟨by omega,by omega⟩ iu iv hp hq ht)).mono ?_;rintro e w' ⟨rfl,hb⟩;rw[hx.out]);(have b1:=cG (k:=w.heap.size+1) (o:=.cells (m26) 40) hb (by simp only[World.size_alloc];omega) (mY _ _ _ _);have c0:w'.cell? (m22 w)=some (.int .u64 0):=cA b1 0;have c1:w'.cell? (m29 w)=some (.int .u64 0):=cA b1 1;have f0:=cH b1 0;have f1:=cH b1 1;have bel:=vA hb))
 refine bodyPost_ret (v:=.agg (m08 x y)) ?_ rfl ⟨rfl,?_⟩
 ·simp[results,Tryz.results18,go_sem,c0,c1]
 ·exact(bel.setCell (p:=(m22 w)) (Nat.le_succ _) _).setCell (p:=(m29 w)) (Nat.le_succ _) _
end Go.Proofs.YtbbhinehcncmeaaGreat
