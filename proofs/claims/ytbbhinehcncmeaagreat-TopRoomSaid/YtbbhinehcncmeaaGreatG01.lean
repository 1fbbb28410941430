/- A part of the proof of the laws of the top: MixOf. No condition. -/
import Derived.Test.YtbbhinehcncmeaaGreatG00
namespace Go.Proofs.YtbbhinehcncmeaaGreat
open Go.RowKit
set_option linter.unusedSimpArgs false
set_option linter.unusedVariables false
set_option linter.unusedSectionVars false
namespace Mx
def take (p:Int×Int) (x:Int):Int×Int:=(step p.1 x,step p.2 (neg x))
def fold' (l:List Int):Int×Int:=l.foldl take (1,2)
def ofI (l:List Int):Int×Int:=take (fold' l) l.length
def InU (p:Int×Int):Prop:=(0<=p.1/\p.1<=18446744073709551615)/\(0<=p.2/\p.2<=18446744073709551615)
theorem take_in (p:Int×Int)(x:Int):InU (take p x):=⟨step_bd _ _,step_bd _ _⟩
theorem fold_in (l:List Int):InU (fold' l):=by
  unfold fold'
  rcases List.eq_nil_or_concat l with rfl|⟨l',x,rfl⟩
  · exact⟨by decide,by decide⟩
  · rw[List.concat_eq_append,List.foldl_append]
    exact take_in _ _
theorem fold_snoc (l:List Int)(k:Nat)(h:k<l.length):fold' (l.take (k+1))=take (fold' (l.take k)) (nth l k):=by
  unfold fold' nth
  rw[List.take_succ_eq_append_getElem h,List.foldl_append,List.getElem?_eq_getElem h]
  rfl
end Mx
/-- A slice of words that is only read: nil, or at an address; the numbers are words. -/
def Mx.Words (w:World) (a:Option Addr) (l:List Int):Prop:=
  (∀i,i<l.length->0<=Mx.nth l i/\Mx.nth l i<=18446744073709551615)/\
  (l.length=0\/∃b o,a=some ⟨b,o,none⟩/\b<w.heap.size/\∀i,i<l.length->w.cell? ⟨b,o+i,none⟩=some (.int .u64 (Mx.nth l i)))
/-- The relation of Of's loop: the box of the id, and what has come. -/
structure aHv (l:List Int) (w wr:World) (k:Nat):Prop where
  below:Below (w.heap.size+1) (w.alloc (.cells #[.int .u64 0,.int .u64 0] 40)) wr
  size:wr.heap.size=w.heap.size+2
  box:wr.heap[w.heap.size+1]?=some (.cells #[.int .u64 (Mx.fold' (l.take k)).1,.int .u64 (Mx.fold' (l.take k)).2] 40 (0,0))
theorem Mx.Words.below {w w':World}{a:Option Addr}{l:List Int}{B:Nat}(h:Mx.Words w a l)(hb:Below B w w')(hB:w.heap.size<=B):Mx.Words w' a l:=by
  refine⟨h.1,?_⟩
  rcases h.2 with h0|⟨b,o,rfl,hlt,hc⟩
  · exact .inl h0
  · exact .inr ⟨b,o,rfl,Nat.lt_of_lt_of_le hlt hb.size,fun i hi=>(hb.cell (p:=⟨b,o+i,none⟩) (Nat.lt_of_lt_of_le hlt hB)).trans (hc i hi)⟩
theorem cA {w:World}{g:Nat}{cs:Array Value}{t:TypeId}(h:w.heap[g]?=some (.cells cs t (0,0)))(i:Nat):w.cell? ⟨g,i,none⟩=cs[i]?:=by simp[World.cell?,h]
theorem cH {w:World}{g:Nat}{cs:Array Value}{t:TypeId}(h:w.heap[g]?=some (.cells cs t (0,0)))(i:Nat):w.frozen? ⟨g,i,none⟩=false:=by simp[World.frozen?,h]
theorem aHv.step {l:List Int}{w wr w':World}{k:Nat}(h:aHv l w wr k)(hk:k<l.length)(ht:cT (w.heap.size+1) (.cells #[.int .u64 (Mx.step (Mx.fold' (l.take k)).1 (Mx.nth l k)),.int .u64 (Mx.step (Mx.fold' (l.take k)).2 (Mx.neg (Mx.nth l k)))] 40 (0,0)) wr w'):aHv l w w' (k+1):=by
  refine⟨h.below.trans (ht.below (Nat.le_refl _)),ht.size.trans h.size,?_⟩
  rw[ht.new,Mx.fold_snoc l k hk]
  rfl
set_option maxHeartbeats 1000000 in
theorem aMe (a:Option Addr)(c:Nat)(l:List Int)(w:World)(hm:l.length<=9223372036854775807)(hw:Mx.Words w a l):
    Calls Tryz.prog 37 #[.slice a l.length c] w fun e w'=>e=.returned (.agg #[.int .u64 (Mx.ofI l).1,.int .u64 (Mx.ofI l).2])/\Below w.heap.size w w':=by
  obtain⟨hin,hcase⟩:=hw
  have hcell:∀k,k<l.length->∃b o,a=some ⟨b,o,none⟩/\b<w.heap.size/\w.cell? ⟨b,o+k,none⟩=some (.int .u64 (Mx.nth l k)):=by
    intro k hk
    rcases hcase with h0|⟨b,o,h,hlt,hc⟩
    · omega
    · exact⟨b,o,h,hlt,hc k hk⟩
  have H:=Lib.hid hcell
  have HI:=Lib.hid hin
  clear hcell hcase hin
  go_enter Tryz.func37,Tryz.ntmps37
  go_wp2_with fail
  go_loopw [6,11] (fun _ i wr=>∃k:Nat,k<=l.length/\i=.int .i64 k/\aHv l w wr k) (fun _ i _=>l.length-(intOf i).toNat)
  case atStart=>
    exact⟨0,Nat.zero_le _,rfl,⟨(Below.refl _ _).alloc (by simp) _,by simp,by simpa[Mx.fold']using heap_alloc_new (w.alloc (.cells #[.int .u64 0,.int .u64 0] 40)) (.cells #[.int .u64 1,.int .u64 2] 40)⟩⟩
  case round=>
    obtain⟨k,hk,rfl,hr⟩:=hrel
    have HR:=Lib.hid hr
    have hbox:=Lib.hid hr.box
    have hin:=Mx.fold_in (l.take k)
    obtain⟨⟨p0,p1⟩,q0,q1⟩:=hin
    have hsz:wr.heap.size=w.heap.size+2:=hr.size
    have HS:=Lib.hid hsz
    clear hsz
    by_cases hlt:k<l.length
    · obtain⟨b,o,rfl,hb,hc⟩:=H.out k hlt
      have hc':wr.cell? ⟨b,o+k,none⟩=some (.int .u64 (Mx.nth l k)):=by
        rw[hr.below.cell (p:=⟨b,o+k,none⟩) (by simp;omega)]
        have:=(Below.refl (w.heap.size) w).alloc (Nat.le_refl _) (.cells #[.int .u64 0,.int .u64 0] 40)
        rw[this.cell (p:=⟨b,o+k,none⟩) hb]
        exact hc
      obtain⟨x0,x1⟩:=HI.out k hlt
      clear hc hr
      go_wp2_with (go_at_call 74;refine(xG _ _ _ _ _ p0 p1 q0 q1 x0 x1 hbox.out).mono ?_;rintro e w' ⟨rfl,ht⟩)
      go_roundw
      case rel=>exact⟨k+1,by omega,by go_num,HR.out.step hlt ht⟩
      case measure=>simp[intOf];omega
    · obtain rfl:k=l.length:=by omega
      rw[List.take_length]at p0 p1 q0 q1;replace hbox:=Lib.hid hr.box;rw[List.take_length]at hbox
      have hz:wr.heap[w.heap.size]?=some (.cells #[.int .u64 0,.int .u64 0] 40 (0,0)):=by
        rw[hr.below.block _ (Nat.lt_succ_self _)]
        exact heap_alloc_new w _
      have hbel:Below w.heap.size w wr:=((Below.refl _ w).alloc (Nat.le_refl _) (.cells #[.int .u64 0,.int .u64 0] 40)).trans (hr.below.mono (Nat.le_succ _))
      have HZ:=Lib.hid hz
      clear hr hz
      go_wp2_with (go_at_call 74;refine(xG _ _ _ _ _ p0 p1 q0 q1 (by omega) (by omega) hbox.out).mono ?_;rintro e w' ⟨rfl,ht⟩;have z':=(ht.block w.heap.size (by omega)).trans HZ.out;have c0:=cA ht.new 0;have c1:=cA ht.new 1;have r0:=cA z' 0;have r1:=cA z' 1;have f0:=cH z' 0;have f1:=cH z' 1;simp only[List.getElem?_toArray,List.getElem?_cons_zero,List.getElem?_cons_succ]at c0 c1 r0 r1;clear z')
      refine bodyPost_ret (v:=.agg #[.int .u64 (Mx.step (Mx.fold' l).1 l.length),.int .u64 (Mx.step (Mx.fold' l).2 (Mx.neg l.length))]) ?_ rfl ⟨rfl,((hbel.trans (ht.below (Nat.le_succ _))).setCell (Nat.le_refl _) _).setCell (Nat.le_refl _) _⟩
      simp[results,Tryz.results37,go_sem,r0,r1,c0,c1]
end Go.Proofs.YtbbhinehcncmeaaGreat
