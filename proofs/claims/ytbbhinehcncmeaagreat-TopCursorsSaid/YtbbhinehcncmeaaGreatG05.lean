/- A part of the proof of the laws of the top: RtPlain, TpOnce, TpRows. No condition. -/
import Derived.Test.YtbbhinehcncmeaaGreatG03
import Derived.Defers
import Derived.Laws.AppendOwnNone
import Derived.Laws.LoneSync
import Derived.Laws.Pointers
import Derived.Lib.Mul64
import Derived.RegionCalls
import Derived.RegionTactic
import Derived.ScopeJumps
import Derived.WalkMore
namespace Go.Proofs.YtbbhinehcncmeaaGreat
open Go.RowKit
set_option linter.unusedSimpArgs false
set_option linter.unusedVariables false
set_option linter.unusedSectionVars false
set_option maxRecDepth 100000
section
variable {α:Type}{f:α->List Value}{k:Nat}
def Rws (f:α->List Value) (k:Nat) (w:World) (a:Option Addr) (l:List α):Prop:=
 l.length=0\/∃b o,a=some ⟨b,o,none⟩/\b<w.heap.size/\∀i (hi:i<l.length) j,j<k->w.cell? (m09 b (o+i*k+j))=(f l[i])[j]?
theorem Rws.below {w w':World}{a:Option Addr}{l:List α}{B:Nat}(h:Rws f k w a l)(hb:Below B w w')(hB:w.heap.size<=B):Rws f k w' a l:=by
 rcases h with h0|⟨b,o,rfl,hlt,hc⟩
 ·exact .inl h0
 ·exact .inr ⟨b,o,rfl,Nat.lt_of_lt_of_le hlt hb.size,fun i hi j hj=>(hb.cell (p:=⟨b,_,none⟩) (Nat.lt_of_lt_of_le hlt hB)).trans (hc i hi j hj)⟩
theorem Rws.keep {w w':World}{a:Option Addr}{l:List α}(h:Rws f k w a l)(hb:Below w.heap.size w w'):Rws f k w' a l:=h.below hb nr
structure SlV (f:α->List Value) (k:Nat) (w:World) (a:Option Addr) (n c:Nat) (l:List α):Prop where
 len:l.length=n
 cap:n<=c
 top:c<=9223372036854775807
 rows:Rws f k w a l
theorem SlV.below {w w':World}{a:Option Addr}{n c:Nat}{l:List α}{B:Nat}(h:SlV f k w a n c l)(hb:Below B w w')(hB:w.heap.size<=B):SlV f k w' a n c l:=⟨h.len,h.cap,h.top,h.rows.below hb hB⟩
theorem SlV.keep {w w':World}{a:Option Addr}{n c:Nat}{l:List α}(h:SlV f k w a n c l)(hb:Below w.heap.size w w'):SlV f k w' a n c l:=h.below hb nr
theorem SlV.alloc {w:World}{a:Option Addr}{n c:Nat}{l:List α}(h:SlV f k w a n c l)(o:Obj):SlV f k (w.alloc o) a n c l:=h.keep ((Below.refl _ _).alloc nr _)
theorem SlV.nil (w:World):SlV f k w none 0 0 ([]:List α):=⟨rfl,Nat.le_refl _,by omega,.inl rfl⟩
theorem dZ (hk:∀x,(f x).length=k):∀(l:List α) (i j:Nat) (hi:i<l.length),j<k->(l.flatMap f)[i*k+j]?=(f l[i])[j]?:=by
 intro l
 induction l with
 |nil=>intro i j hi;simp at hi
 |cons x r ih=>
  intro i j hi hj
  rw[List.flatMap_cons]
  cases i with
  |zero=>rw[Nat.zero_mul,Nat.zero_add,List.getElem?_append_left (by rw[hk];exact hj)];rfl
  |succ i=>
   rw[List.getElem?_append_right (by rw[hk,Nat.succ_mul];omega),hk,show(i+1)*k+j-k=i*k+j from by rw[Nat.succ_mul];omega,ih i j (by simpa using hi) hj]
   rfl
theorem bR (hk:∀x,(f x).length=k):∀l:List α,(l.flatMap f).length=l.length*k:=by
 intro l
 induction l with
 |nil=>simp
 |cons x r ih=>rw[List.flatMap_cons,List.length_append,ih,hk,List.length_cons,Nat.succ_mul];omega
def OwnL (f:α->List Value) (k:Nat) (e:TypeId) (w:World) (base:Nat) (v:Value) (l:List α):Prop:=w.ownsRow base e k v l.length (l.flatMap f)
theorem OwnL.nil (f:α->List Value)(k:Nat)(e:TypeId)(w:World)(base:Nat):OwnL f k e w base (m48) ([]:List α):=World.ownsRow_nil w base e k
theorem OwnL.sl {e:TypeId}{w:World}{base:Nat}{v:Value}{l:List α}(hk:∀x,(f x).length=k)(h:OwnL f k e w base v l):∃a c,v=.slice a l.length c/\SlV f k w a l.length c l:=by
 rcases h.2 with⟨rfl,h0⟩|⟨g,cap,cur,hv,hb,hg,hn,hc,hs,ht⟩
 ·exact⟨none,0,by rw[h0],rfl,by omega,by omega,.inl h0⟩
 ·refine⟨_,cap,hv,rfl,hn,hc,?_⟩
  rcases Nat.eq_zero_or_pos l.length with h0|h0
  ·exact .inl h0
  ·refine .inr ⟨g,0,rfl,(gS hg),fun i hi j hj=>?_⟩
   have e1:(cur.toList.take (l.length*k))[i*k+j]?=(l.flatMap f)[i*k+j]?:=by rw[ht]
   have lt:i*k+j<l.length*k:=Nat.lt_of_lt_of_le (Nat.add_lt_add_left hj (i*k)) (by rw[<-Nat.succ_mul];exact Nat.mul_le_mul_right k hi)
   rw[List.getElem?_take_of_lt lt,dZ hk l i j hi hj]at e1
   rw[Nat.zero_add,cA hg,<-e1]
   simp
theorem OwnL.keep {e:TypeId}{w w':World}{base:Nat}{v:Value}{l:List α}(h:OwnL f k e w base v l)(hb:Below w.heap.size w w'):OwnL f k e w' base v l:=
 ⟨h.1,h.2.imp id (fun⟨g,cap,cur,hv,hg,hh,r⟩=>⟨g,cap,cur,hv,hg,(hb.block g (gS hh)).trans hh,r⟩)⟩
theorem OwnL.lower {e:TypeId}{w:World}{base base':Nat}{v:Value}{l:List α}(h:OwnL f k e w base v l)(hb:base'<=base):OwnL f k e w base' v l:=
 ⟨h.1,h.2.imp id (fun⟨g,cap,cur,hv,hg,r⟩=>⟨g,cap,cur,hv,Nat.le_trans hb hg,r⟩)⟩
theorem OwnL.lt {e:TypeId}{w:World}{base:Nat}{v:Value}{l:List α}(h:OwnL f k e w base v l):∀g,v.ownBlock=some g->base<=g/\g<w.heap.size:=World.ownsRow.lt h
theorem OwnL.snoc {e:TypeId}{w:World}{base m:Nat}{v:Value}{l:List α}{x:α}(h:w.ownsRow base e k v m (l.flatMap f++f x))(hm:m=l.length+1):OwnL f k e w base v (l++[x]):=by
 unfold OwnL
 rw[List.length_append,List.flatMap_append]
 subst hm
 simpa using h
theorem OwnL.grown {e:TypeId}{w0 w w2:World}{base m:Nat}{v:Value}{xs:List Value}{o:Obj}{N:Nat}(ho:w.ownsRow base e k v m xs)(hbel:Below N w0 w)(hN:N<=base)(hs:base<=w.heap.size)(hg:(w.alloc o).grownBy w2 v.ownBlock):Below N w0 w2:=
 (hbel.alloc (Nat.le_trans hN hs) o).grown hg (by simp only[World.size_alloc];omega) (fun k hk=>Nat.le_trans hN (ho.lt k hk).1)
theorem bJ {w w2:World}{o:Obj}{row:Option Nat}{j:Nat}(hg:(w.alloc o).grownBy w2 row)(hj:j<w.heap.size)(hne:some j≠row):w2.heap[j]?=w.heap[j]?:=by
 obtain⟨_,_,_,_,h⟩:=hg
 rw[h j (by simp only[World.size_alloc];omega) hne]
 exact Below.heap_alloc w o j hj
theorem pQ {e:TypeId}{w:World}{base m:Nat}{v:Value}{xs:List Value}{mb:Nat}{es:Array MapEntry}{c:Nat}(h:w.ownsRow base e k v m xs)(hm:w.heap[mb]?=some (.map es c)):some mb≠v.ownBlock:=by
 rcases h.2 with⟨rfl,_⟩|⟨g,cap,cur,rfl,_,hg,_⟩
 ·simp[Value.ownBlock]
 ·intro e1
  simp only[Value.ownBlock,Option.some.injEq]at e1
  subst e1
  rw[hm]at hg
  cases hg
theorem fK {e:TypeId}{w:World}{base m:Nat}{v:Value}{xs:List Value}{j:Nat}(h:w.ownsRow base e k v m xs)(hj:j<base):some j≠v.ownBlock:=fun e1=>by
 have:=(h.lt j e1.symm).1
 omega
theorem set2 (w:World)(B:Nat)(u v x y:Value)(t:TypeId)(hb:w.heap[B]?=some (.cells #[u,v] t (0,0))):
  cT B (.cells #[x,y] t (0,0)) w ((w.setCell (m00 B) x).setCell (m15 B) y):=by
 refine⟨rfl,rfl,rfl,by simp[World.setCell],?_,?_⟩
 ·simp[World.setCell,Array.getElem?_modify,hb]
 ·intro k hk
  rw[Below.heap_setCell _ _ _ _ hk,Below.heap_setCell _ _ _ _ hk]
theorem OwnL.turn {e:TypeId}{w w':World}{base B:Nat}{o:Obj}{v:Value}{l:List α}(h:OwnL f k e w base v l)(ht:cT B o w w')(hB:B<base):OwnL f k e w' base v l:=
 ⟨h.1,h.2.imp id (fun⟨g,cap,cur,hv,hg,hh,r⟩=>⟨g,cap,cur,hv,hg,(ht.block g (by omega)).trans hh,r⟩)⟩
theorem bE (w:World)(cs:List Value)(t:TypeId)(g:Nat)(hg:g=w.heap.size):∀(j:Nat) u,cs[j]?=some u->(w.alloc (.cells cs.toArray t)).cell? (((m00 g):Addr).add j)=some u:=by
 subst hg
 intro j u hj
 have e:((m07 w):Addr).add j=⟨w.heap.size,j,none⟩:=by unfold Addr.add;simp<;>intro h<;>exact h.symm
 rw[e,cA (heap_alloc_new w _) j]
 simpa using hj
end
def idC (p:Int×Int):List Value:=[.int .u64 p.1,.int .u64 p.2]
def intC (x:Int):List Value:=[.int .i64 x]
def aH (v:Tp.V):List Value:=[.int .i64 v.who,.int .i64 v.slot,.int .u64 v.p,.int .u64 v.q]
def aK (b:Tp.B):List Value:=[.int .i64 b.slot,.int .i64 b.who,.int .u64 b.p,.int .u64 b.q,.int .u64 b.salt]
theorem gI (x:Int×Int):(idC x).length=2:=rfl
theorem dQ (x:Int):(intC x).length=1:=rfl
theorem cW (x:Tp.V):(aH x).length=4:=rfl
theorem cY (x:Tp.B):(aK x).length=5:=rfl
theorem aIf :(Tryz.prog.info? 40).map (fun i=>(i.zero,i.size,i.bytes))=some (some (.agg (m26)),2,16):=by kernel_rfl
theorem nW :(Tryz.prog.info? 3).map (fun i=>(i.zero,i.size,i.bytes))=some (some (.int .i64 0),1,8):=by kernel_rfl
theorem jI :(Tryz.prog.info? 84).map (fun i=>(i.zero,i.size,i.bytes))=some (some (.agg (m58)),4,32):=by kernel_rfl
theorem iW :(Tryz.prog.info? 56).map (fun i=>(i.zero,i.size,i.bytes))=some (some (.agg (m53)),5,40):=by kernel_rfl
theorem aDv (x:Int×Int):∀u∈idC x,u.oneCell'=true:=by intro u hu;simp[idC]at hu;rcases hu with rfl|rfl<;>rfl
theorem rE (x:Int):∀u∈intC x,u.oneCell'=true:=by intro u hu;simp[intC]at hu;subst hu;rfl
theorem gY (x:Tp.V):∀u∈aH x,u.oneCell'=true:=by intro u hu;simp[aH]at hu;rcases hu with rfl|rfl|rfl|rfl<;>rfl
theorem jB (x:Tp.B):∀u∈aK x,u.oneCell'=true:=by intro u hu;simp[aK]at hu;rcases hu with rfl|rfl|rfl|rfl|rfl<;>rfl
theorem lV (w:World):(callFunc 194 #[]).run Tryz.prog w=.ok (.value (.tuple #[])) w:=run_call_mark0 Tryz.func194 (by kernel_rfl) (by kernel_rfl) (by kernel_rfl) .disable (by kernel_rfl) w
theorem nG (w:World):(callFunc 196 #[]).run Tryz.prog w=.ok (.value (.tuple #[])) w:=run_call_mark0 Tryz.func196 (by kernel_rfl) (by kernel_rfl) (by kernel_rfl) .enable (by kernel_rfl) w
theorem sV (a:Addr)(w:World):(callFunc 197 #[.pointer (some a)]).run Tryz.prog w=.ok (.value (.tuple #[])) w:=run_call_marked Tryz.func197 (by kernel_rfl) (by kernel_rfl) (by kernel_rfl) .acquire (by kernel_rfl) a w
theorem sU (a:Addr)(w:World):(callFunc 199 #[.pointer (some a)]).run Tryz.prog w=.ok (.value (.tuple #[])) w:=run_call_marked Tryz.func199 (by kernel_rfl) (by kernel_rfl) (by kernel_rfl) .releaseMerge (by kernel_rfl) a w
theorem oT (a:Addr)(x:Value)(u:FrameMode)(w:World)(hc:w.cell? a=some x)(hz:w.frozen? a=false):
  CallsD Tryz.prog 189 #[.pointer (some a),.bool true] u w fun e u' w'=>u'=u/\(e=.returned (.tuple #[])/\w'=w.drew.setCell a (.int .u32 1)):=by
 have hc':w.drew.cell? a=some x:=by go_simp
 have hz':w.drew.frozen? a=false:=by go_simp
 have hst:=run_call_store (P:=Tryz.prog) Tryz.func192 (by kernel_rfl) (by kernel_rfl) (by kernel_rfl) (by kernel_rfl) (k:=.u32) (y:=1) hc' hz'
 go_enter_d Tryz.func189,Tryz.ntmps189
 go_wp2
 go_region_calls
 all_goals(go_end0;exact⟨rfl,rfl⟩)
theorem mW (a:Addr)(u:FrameMode)(w:World)(hc:w.cell? a=some (.int .i32 1))(hz:w.frozen? a=false):
  CallsD Tryz.prog 188 #[.pointer (some a)] u w fun e u' w'=>u'=u/\(e=.returned (.tuple #[])/\w'=w.setCell a (.int .i32 0)):=by
 have hd:=lV
 have he:=nG
 have hr:=sU
 have hadd:=run_call_add (P:=Tryz.prog) Tryz.func200 (by kernel_rfl) (by kernel_rfl) (by kernel_rfl) .i32 (by kernel_rfl) (y:=-1) (s:=0) hc hz (by simp[go_sem];rfl)
 have hcv:=run_convert_to_unsafe (P:=Tryz.prog) (src:=275) (dst:=279) Tryz.underlying275 Tryz.underlying279 (by kernel_rfl) hc
 go_enter_d Tryz.func188,Tryz.ntmps188
 go_wp2
 go_end0
 go_wp2
 go_end0
 exact⟨rfl,rfl⟩
theorem aDl (a:Addr)(w:World)(hc:w.cell? a=some (.int .i32 0))(hz:w.frozen? a=false):
  Calls Tryz.prog 187 #[.pointer (some a)] w fun e w'=>e=.returned (.tuple #[])/\w'=w.setCell a (.int .i32 1):=by
 have hd:=lV
 have he:=nG
 have ha:=sV
 have hcas:=run_call_cas_hit (P:=Tryz.prog) Tryz.func195 (by kernel_rfl) (by kernel_rfl) (by kernel_rfl) .i32 (by kernel_rfl) (y:=1) hc hz
 have hc':(w.setCell a (.int .i32 1)).cell? a=some (.int .i32 1):=World.cell?_setCell_same w a _ hc
 have hcv:=run_convert_to_unsafe (P:=Tryz.prog) (src:=275) (dst:=279) Tryz.underlying275 Tryz.underlying279 (by kernel_rfl) hc'
 go_enter Tryz.func187,Tryz.ntmps187
 go_wp2
 first|go_end0|(simp only[Exit.inBlock,Exit.then];refine bodyPost_ret (results_none rfl _ _ _) rfl ?_)|refine bodyPost_ret (results_none rfl _ _ _) rfl ?_
 go_wp2
 go_end0
 exact⟨rfl,rfl⟩
theorem oD {a:Addr}{x:Int}{w:World}(hc:w.cell? a=some (.int .u32 x)):(callFunc 186 #[.pointer (some a)]).run Tryz.prog w=.ok (.value (.int .u32 x)) w:=
 run_call_load (P:=Tryz.prog) Tryz.func186 (by kernel_rfl) (by kernel_rfl) (by kernel_rfl) .u32 (by kernel_rfl) hc
theorem aAi {a:Addr}{x:Int}{w:World}(hc:w.cell? a=some (.int .i64 x)):(callFunc 145 #[.pointer (some a)]).run Tryz.prog w=.ok (.value (m30 x)) w:=
 run_call_load (P:=Tryz.prog) Tryz.func145 (by kernel_rfl) (by kernel_rfl) (by kernel_rfl) .i64 (by kernel_rfl) hc
namespace Rt
def mayB (n:Int):Bool:=decide (0<=n)&&decide (n<=4611686018427387904)
def pick (c:Bool) (n:Int):Int:=if c=true then n else 0
def moreB (a b c d:Int):Bool:=mayB a&&mayB b&&(mayB c&&mayB d)&&decide (c*d<a*b)
/-- Where the first number stands that may not be, counted from k on; -1: none does. -/
def idx (k:Nat):List Int->Int
  | []=>-1
  |x::xs=>if mayB x=true then idx (k+1) xs else k
theorem idx_ge (l:List Int):∀k:Nat,decide (0<=idx k l)=!(l.all mayB):=by
  induction l with
  |nil=>intro k;simp[idx]
  |cons x xs ih=>
    intro k
    by_cases h:mayB x=true
    · simp only[idx,if_pos h,List.all_cons,h,Bool.true_and]
      exact ih (k+1)
    · have h':mayB x=false:=by simpa using h
      simp[idx,h']
theorem may_iff (n:Int):mayB n=true↔0<=n/\n<=4611686018427387904:=by simp[mayB]
end Rt
end Go.Proofs.YtbbhinehcncmeaaGreat
