/- A part of the proof of the laws of the top: TpPlaces. No condition. -/
import Derived.Test.YtbbhinehcncmeaaGreatG03
namespace Go.Proofs.YtbbhinehcncmeaaGreat
open Go.RowKit
set_option linter.unusedSimpArgs false
set_option linter.unusedVariables false
set_option linter.unusedSectionVars false
set_option maxRecDepth 20000
set_option maxHeartbeats 2000000
structure aAj (w:World) (b o:Nat) (x:Tp.B):Prop where
 c0:w.cell? (m09 b o)=some (.int .i64 x.slot)
 c1:w.cell? (m09 b (o+1))=some (.int .i64 x.who)
 c2:w.cell? (m09 b (o+2))=some (.int .u64 x.p)
 c3:w.cell? (m09 b (o+3))=some (.int .u64 x.q)
 c4:w.cell? (m09 b (o+4))=some (.int .u64 x.salt)
theorem aAj.below {w w':World}{b o N:Nat}{x:Tp.B}(h:aAj w b o x)(hb:Below N w w')(hN:b<N):aAj w' b o x:=
 ⟨(hb.cell (p:=(m09 b o)) hN).trans h.c0,(hb.cell (p:=(m09 b (o+1))) hN).trans h.c1,(hb.cell (p:=(m09 b (o+2))) hN).trans h.c2,(hb.cell (p:=(m09 b (o+3))) hN).trans h.c3,(hb.cell (p:=(m09 b (o+4))) hN).trans h.c4⟩
def Tp.zB :Tp.B:=⟨0,0,0,0,0⟩
def Tp.gG (l:List Tp.B) (i:Nat):Tp.B:=l[i]?.getD Tp.zB
theorem Tp.nM (l:List Tp.B)(i:Nat)(h:i<l.length):l.drop i=Tp.gG l i::l.drop (i+1):=by
 rw[List.drop_eq_getElem_cons h]
 simp[Tp.gG,List.getElem?_eq_getElem h]
theorem Tp.mL (l:List Tp.B)(i:Nat)(h:i<l.length):Tp.gG l i∈l:=by
 simp[Tp.gG,List.getElem?_eq_getElem h]
def Blks (w:World) (a:Option Addr) (l:List Tp.B):Prop:=
 l.length=0\/∃b o,a=some ⟨b,o,none⟩/\b<w.heap.size/\∀i,i<l.length->aAj w b (o+i*5) (Tp.gG l i)
theorem Blks.below {w w':World}{a:Option Addr}{l:List Tp.B}{B:Nat}(h:Blks w a l)(hb:Below B w w')(hB:w.heap.size<=B):Blks w' a l:=by
 rcases h with h0|⟨b,o,rfl,hlt,hc⟩
 ·exact .inl h0
 ·exact .inr ⟨b,o,rfl,Nat.lt_of_lt_of_le hlt hb.size,fun i hi=>(hc i hi).below hb (Nat.lt_of_lt_of_le hlt hB)⟩
theorem Blks.keep {w w':World}{a:Option Addr}{l:List Tp.B}(h:Blks w a l)(hb:Below w.heap.size w w'):Blks w' a l:=h.below hb nr
namespace Tp
def dJ (l:List B) (j:Int):Int:=if j=-1 then 0 else(gG l j.toNat).slot
abbrev PM :=List ((Int×Int)×Int)
def aX (l:List B):List B->Nat->PM->Option PM
 | [],_,m=>some m
 |b::r,i,m=>
  match at_ m (b.p,b.q)with
  |none=>none
  |some j=>if b.slot<=dJ l j then none else if(at_ m (name b)).isSome then none else aX l r (i+1) (put m (name b) i)
def places (l:List B):Option PM:=aX l l 0 [((0,0),-1)]
end Tp
def intV (x:Int):Value:=.int .i64 x
def aLe (N:Nat) (w:World) (v:Value):Option Tp.PM->Prop
 |none=>v=.map none
 |some m=>∃b,v=.map (some b)/\N<=b/\bD idV intV w b m
theorem bD.drewN {K V:Type}{ke:K->Value}{ve:V->Value}{w:World}{b:Nat}{m:List (K×V)}(h:bD ke ve w b m)(n:Nat):bD ke ve (w.drewN n) b m:=h.same rfl
theorem bD.alloc {K V:Type}{ke:K->Value}{ve:V->Value}{w:World}{b:Nat}{m:List (K×V)}(h:bD ke ve w b m)(o:Obj):bD ke ve (w.alloc o) b m:=h.keep ((Below.refl _ _).alloc nr _)
theorem vS {m:Tp.PM}{k:Int×Int}{n:Nat}(h:∀x y,Tp.at_ m x=some y->y=-1\/(0<=y/\y<n)):∀x y,Tp.at_ (Tp.put m k (n:Int)) x=some y->y=-1\/(0<=y/\y<((n+1:Nat):Int)):=by
 intro x y hy
 rw[Tp.dF]at hy
 split at hy
 ·simp only[Option.some.injEq]at hy
  omega
 ·have:=h x y hy
  omega
theorem dK (w:World):(zeroValue 3).run Tryz.prog w=.ok (.int .i64 0) w:=by kernel_rfl
theorem aBw (l:List Tp.B)(b o n c B:Nat)(j:Int)(w:World)(hn:l.length=n)(hm:n<=9223372036854775807)(hj:j=-1\/(0<=j/\j<n))(hbox:w.cell? (m00 B)=some (.slice (some (m09 b o)) n c))(hc:∀i,i<n->w.cell? (m09 b (o+i*5))=some (.int .i64 (Tp.gG l i).slot)):
  Calls Tryz.prog 72 #[.int .i64 j,.pointer (some (m00 B))] w fun e w'=>e=.returned (m30 (Tp.dJ l j))/\w=w':=by
 rcases hj with rfl|⟨h0,h1⟩
 ·have e:Tp.dJ l (-1)=0:=rfl
  rw[e]
  clear hc
  go_enter Tryz.func72,Tryz.ntmps72
  go_wp2
  go_ret
  exact⟨rfl,rfl⟩
 ·obtain⟨i,rfl⟩:=Int.eq_ofNat_of_zero_le h0
  have hi:=hc i (by omega)
  have e:Tp.dJ l (i:Int)=(Tp.gG l i).slot:=by
   unfold Tp.dJ
   rw[if_neg (by omega),Int.toNat_natCast]
  rw[e]
  obtain⟨y,hy⟩:∃y,(Tp.gG l i).slot=y:=⟨_,rfl⟩
  rw[hy]at hi⊢
  have ne:((i:Int)== -1)=false:=beq_eq_false_iff_ne.2 (by omega)
  clear hc e hy
  go_enter Tryz.func72,Tryz.ntmps72
  go_wp2
  go_ret
  exact⟨rfl,rfl⟩
structure aMx (w:World) (a:Option Addr) (n c:Nat) (l:List Tp.B) (k:Nat) (wr:World):Prop where
 bel:Below w.heap.size w wr
 box:wr.heap[w.heap.size]?=some (.cells #[.slice a n c] 35 (0,0))
 lt:w.heap.size+1<wr.heap.size
 map:∃m,bD idV intV wr (w.heap.size+1) m/\Tp.places l=Tp.aX l (l.drop k) k m/\∀x y,Tp.at_ m x=some y->y=-1\/(0<=y/\y<(k:Int))
theorem jH (a:Option Addr)(n c:Nat)(l:List Tp.B)(w:World)(hn:l.length=n)(hm:n<=9223372036854775807)(hU:∀x∈l,x.U)(hl:Blks w a l):
  Calls Tryz.prog 32 #[.slice a n c] w fun e w'=>∃v,e=.returned (.tuple #[v,.bool (Tp.places l).isSome])/\aLe w.heap.size w' v (Tp.places l)/\Below w.heap.size w w':=by
 have hcell:∀k,k<n->∃b o,a=some ⟨b,o,none⟩/\b<w.heap.size/\aAj w b (o+k*5) (Tp.gG l k):=by
  intro k hk
  rcases hl with h0|⟨b,o,h,hlt,hc⟩
  ·omega
  ·exact⟨b,o,h,hlt,hc k (by omega)⟩
 have HC:=zH hcell
 have HN:=zH hn
 have HU:=zH hU
 have hmm:=@run_makeMap Tryz.prog
 clear hcell hn hU hl
 obtain⟨W1,hins,hrel⟩:∃W1,(Instr.mapUpdate 75 (m43 (w.heap.size+1)) (.agg (m26)) (m30 (-1))).run Tryz.prog ((w.alloc (.cells #[.slice a n c] 35)).alloc (.map #[] 0))=.ok () W1/\aMx w a n c l 0 W1:=by
  have h0:bD idV intV ((w.alloc (.cells #[.slice a n c] 35)).alloc (.map #[] 0)) (w.heap.size+1) ([]:Tp.PM):=by
   have:=bD.made idV intV (w.alloc (.cells #[.slice a n c] 35)) (K:=Int×Int) (V:=Int)
   rw[World.size_alloc]at this
   exact this
  obtain⟨W1,h1,h2,h3⟩:=h0.storeT fC Tryz.underlying75 (0,0) (-1)
  refine⟨W1,h1,?_,?_,?_,_,h2,rfl,?_⟩
  ·exact((Below.refl _ w).alloc nr _ |>.alloc (by simp) _).trans (h3.below (Nat.le_succ _))
  ·rw[h3.other _ (by omega),cF,if_neg (by simp),cF,if_pos rfl]
  ·rw[h3.size];simp only[World.size_alloc];omega
  ·intro x y h
   simp only[Tp.put,Tp.dG,Tp.oP]at h
   split at h
   ·simp only[Option.some.injEq]at h;omega
   ·cases h
 go_enter Tryz.func32,Tryz.ntmps32
 have cb:W1.cell? (m07 w)=some (.slice a n c):=cA hrel.box 0
 go_wp2_with fail
 clear cb hins hmm
 go_loopw [19] (fun i wr=>∃k:Nat,k<=n/\i=.int .i64 k/\aMx w a n c l k wr) (fun i _=>n-(intOf i).toNat)
 case atStart=>exact⟨0,Nat.zero_le _,rfl,hrel⟩
 case round=>
  obtain⟨k,hk,rfl,hR⟩:=hrel
  obtain⟨m,hmap,hpl,hin⟩:=hR.map
  have hbox:wr.cell? (m07 w)=some (.slice a n c):=cA hR.box 0
  have HR:=zH hR
  have HPL:=zH hpl
  have HIN:=zH hin
  clear hR hpl hin
  by_cases hkn:k<n
  case neg=>
   obtain rfl:k=n:=by omega
   have hp:Tp.places l=some m:=by rw[HPL.out,List.drop_of_length_le (by rw[HN.out];exact Nat.le_refl _)];rfl
   go_wp2
   go_ret2
   exact⟨_,by rw[hp];rfl,by rw[hp];exact⟨_,rfl,Nat.le_succ _,hmap⟩,HR.out.bel⟩
  obtain⟨b,o,rfl,hlt,hB⟩:=HC.out k hkn
  have hB2:=hB.below HR.out.bel hlt
  obtain⟨x0,x1,x2,x3,x4⟩:=hB2
  obtain⟨⟨xs,xf,xp,xq,xt⟩,hX⟩:∃x,Tp.gG l k=x:=⟨_,rfl⟩
  rw[hX]at x0 x1 x2 x3 x4
  simp only at x0 x1 x2 x3 x4
  have k0:(0:Int)<=k:=by omega
  have k1:(k:Int)<n:=by omega
  have hU:Tp.B.U ⟨xs,xf,xp,xq,xt⟩:=by rw[<-hX];exact HU.out _ (Tp.mL l k (by rw[HN.out];exact hkn))
  have hgo:Hid (Tp.places l=match Tp.at_ m (xp,xq)with
   |none=>none
   |some j=>if xs<=Tp.dJ l j then none else if(Tp.at_ m (Tp.name ⟨xs,xf,xp,xq,xt⟩)).isSome then none else Tp.aX l (l.drop (k+1)) (k+1) (Tp.put m (Tp.name ⟨xs,xf,xp,xq,xt⟩) k)):=zH (by
    rw[HPL.out,Tp.nM l k (by rw[HN.out];exact hkn),hX]
    rfl)
  have hR1:=HR.out.lt
  cases hat:Tp.at_ m (xp,xq)with
  |none=>
   have hp:Hid (Tp.places l=none):=zH (by rw[hgo.out,hat])
   go_wp2_with (first
    |(at_lookup;refine cZ _ rfl _ _ _ true rfl fC Tryz.underlying75 (.int .i64 0) (dK _) (w.heap.size+1) m rfl (hmap.alloc _) (xp,xq) rfl (m38) (by rw[hat];rfl) ?_))
   go_quiet (fail)
   go_wp2
   go_ret2
   exact⟨_,by rw[hp.out];rfl,by rw[hp.out];rfl,(HR.out.bel.alloc (by omega) _).trans (cV _ _ _)⟩
  |some j=>
   have hj:=HIN.out _ _ hat
   obtain⟨⟨y0,y1⟩,hy⟩:∃y,Tp.name ⟨xs,xf,xp,xq,xt⟩=y:=⟨_,rfl⟩
   obtain⟨sl,hsl⟩:∃y,Tp.dJ l j=y:=⟨_,rfl⟩
   have HY:=zH hy
   have hgo2:Hid (Tp.places l=if xs<=sl then none else if(Tp.at_ m (y0,y1)).isSome then none else Tp.aX l (l.drop (k+1)) (k+1) (Tp.put m (y0,y1) k)):=zH (by rw[hgo.out,hat,hy,<-hsl])
   clear hy
   have hclos (W:World) (hW:Below w.heap.size w W) (hWb:W.cell? (m07 w)=some (.slice (some (m09 b o)) n c)):Calls Tryz.prog 72 #[.int .i64 j,.pointer (some (m07 w))] W fun e w'=>e=.returned (m30 sl)/\W=w':=by
    rw[<-hsl]
    exact aBw l b o n c w.heap.size j W HN.out hm (hj.imp id fun h=>⟨h.1,by omega⟩) hWb (fun i hi=>by
     obtain⟨b',o',he,hlt',hB'⟩:=HC.out i hi
     cases he
     exact(hB'.below hW hlt').c0)
   have bel0:=HR.out.bel
   have hwr:w.heap.size+1<wr.heap.size:=hR1
   by_cases hle:xs<=sl
   ·have hp:Hid (Tp.places l=none):=zH (by rw[hgo2.out,if_pos hle])
    have dle:decide (xs<=sl)=true:=decide_eq_true hle
    go_wp2_with (first
     |(at_lookup;refine cZ _ rfl _ _ _ true rfl fC Tryz.underlying75 (.int .i64 0) (dK _) (w.heap.size+1) m rfl (hmap.alloc _) (xp,xq) rfl (m34 j) (by rw[hat];rfl) ?_))
    go_quiet (first|(go_at_call 72;exact Calls.quiet_same (hclos _ (((bel0.alloc (by omega) _)).trans (cV _ _ _)) (((((Below.refl _ wr).alloc nr _).trans (cV _ _ _)).cell (p:=(m07 w)) (by show w.heap.size<wr.heap.size;omega)).trans hbox))))
    go_wp2
    go_ret2
    exact⟨_,by rw[hp.out];rfl,by rw[hp.out];rfl,(HR.out.bel.alloc (by omega) _).trans (cV _ _ _)⟩
   ·have dle:decide (xs<=sl)=false:=decide_eq_false hle
    cases hat2:Tp.at_ m (y0,y1)with
    |some j2=>
     have hp:Hid (Tp.places l=none):=zH (by rw[hgo2.out,if_neg hle,hat2];rfl)
     go_wp2_with (first
      |(at_lookup;refine cZ _ rfl _ _ _ true rfl fC Tryz.underlying75 (.int .i64 0) (dK _) (w.heap.size+1) m rfl (hmap.alloc _) (xp,xq) rfl (m34 j) (by rw[hat];rfl) ?_))
     go_quiet (first|(go_at_call 72;exact Calls.quiet_same (hclos _ (((bel0.alloc (by omega) _)).trans (cV _ _ _)) (((((Below.refl _ wr).alloc nr _).trans (cV _ _ _)).cell (p:=(m07 w)) (by show w.heap.size<wr.heap.size;omega)).trans hbox))))
     go_wp2_with (first
      |(go_at_call 18;refine(gD xs xf xp xq xt _ hU.1 hU.2.1 hU.2.2 y0 y1 HY).mono ?_;rintro e w2 ⟨rfl,hb⟩;have hmap2:=((hmap.alloc (.cells (m11 xs xf xp xq xt) 56)).drewN nq).keep hb;have bel2:=((bel0.alloc (by omega) (.cells (m11 xs xf xp xq xt) 56)).trans (cV _ _ nq)).trans (hb.mono (by show _<=(wr.alloc _).heap.size;simp only[World.size_alloc];omega));have hb2:=hb)
      |(at_lookup;refine cZ _ rfl _ _ _ true rfl fC Tryz.underlying75 (.int .i64 0) (dK _) (w.heap.size+1) m rfl (hmap2.alloc _) (y0,y1) rfl (m34 j2) (by rw[hat2];rfl) ?_))
     go_ret2
     exact⟨_,by rw[hp.out];rfl,by rw[hp.out];rfl,bel2.alloc bel2.size _⟩
    |none=>
     have hp:Hid (Tp.places l=Tp.aX l (l.drop (k+1)) (k+1) (Tp.put m (y0,y1) k)):=zH (by rw[hgo2.out,if_neg hle,hat2];rfl)
     go_wp2_with (first
      |(at_lookup;refine cZ _ rfl _ _ _ true rfl fC Tryz.underlying75 (.int .i64 0) (dK _) (w.heap.size+1) m rfl (hmap.alloc _) (xp,xq) rfl (m34 j) (by rw[hat];rfl) ?_))
     go_quiet (first|(go_at_call 72;exact Calls.quiet_same (hclos _ (((bel0.alloc (by omega) _)).trans (cV _ _ _)) (((((Below.refl _ wr).alloc nr _).trans (cV _ _ _)).cell (p:=(m07 w)) (by show w.heap.size<wr.heap.size;omega)).trans hbox))))
     go_wp2_with (first
      |(go_at_call 18;refine(gD xs xf xp xq xt _ hU.1 hU.2.1 hU.2.2 y0 y1 HY).mono ?_;rintro e w2 ⟨rfl,hb⟩;have hmap2:=((hmap.alloc (.cells (m11 xs xf xp xq xt) 56)).drewN nq).keep hb;have bel2:=((bel0.alloc (by omega) (.cells (m11 xs xf xp xq xt) 56)).trans (cV _ _ nq)).trans (hb.mono (by show _<=(wr.alloc _).heap.size;simp only[World.size_alloc];omega));have hb2:=hb)
      |(at_lookup;refine cZ _ rfl _ _ _ true rfl fC Tryz.underlying75 (.int .i64 0) (dK _) (w.heap.size+1) m rfl (hmap2.alloc _) (y0,y1) rfl (m38) (by rw[hat2];rfl) ?_)
      |(at_mapUpdate;refine lD _ rfl _ _ _ _ (.inl rfl) fC Tryz.underlying75 (w.heap.size+1) m rfl (hmap2.alloc _) (y0,y1) rfl (k:Int) rfl ?_;intro w3 hmap3 hturn3))
     have hbox2:w2.heap[w.heap.size]?=some (.cells #[.slice (some (m09 b o)) n c] 35 (0,0)):=((hb2.block w.heap.size (by show _<(wr.alloc _).heap.size;simp only[World.size_alloc];omega)).trans (Below.heap_alloc wr _ _ (by omega))).trans HR.out.box
     have hlt2:w.heap.size+1<w2.heap.size:=hmap2.lt
     refine⟨⟨k+1,by omega,by go_num,(bel2.alloc bel2.size _).trans (hturn3.below (Nat.le_succ _)),?_,?_,_,hmap3,hp.out,vS HIN.out⟩,by simp[intOf];omega⟩
     ·rw[hturn3.other _ (by omega),Below.heap_alloc _ _ _ (by omega)]
      exact hbox2
     ·rw[hturn3.size];simp only[World.size_alloc];omega
end Go.Proofs.YtbbhinehcncmeaaGreat
