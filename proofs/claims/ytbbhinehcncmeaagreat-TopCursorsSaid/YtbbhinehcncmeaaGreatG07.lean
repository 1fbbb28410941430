/- A part of the proof of the laws of the top: TpKids, TpPerm2, TpPerm3. No condition. -/
import Derived.Test.YtbbhinehcncmeaaGreatG06
import Derived.Laws.Bits64b
namespace Go.Proofs.YtbbhinehcncmeaaGreat
open Go.RowKit
set_option linter.unusedSimpArgs false
set_option linter.unusedVariables false
set_option linter.unusedSectionVars false
set_option maxRecDepth 100000
set_option maxHeartbeats 4000000
def Tp.fN (l:List Tp.B) (id:Int×Int):List (Int×Int):=(l.filter (fun b=>decide (b.p=id.1)&&decide (b.q=id.2))).map Tp.name
def Tp.aAk (l:List Tp.B) (id:Int×Int):List (Int×Int):=if Tp.may l then Tp.fN l id else[]
theorem Tp.yY (l:List Tp.B)(k:Nat)(h:k<l.length):l.take (k+1)=l.take k++[Tp.gG l k]:=by
 rw[List.take_add_one,List.getElem?_eq_getElem h]
 simp[Tp.gG,List.getElem?_eq_getElem h]
theorem Tp.vP (l:List Tp.B)(id:Int×Int)(k:Nat)(h:k<l.length):Tp.fN (l.take (k+1)) id=Tp.fN (l.take k) id++(if(decide ((Tp.gG l k).p=id.1)&&decide ((Tp.gG l k).q=id.2))=true then[Tp.name (Tp.gG l k)]else[]):=by
 unfold Tp.fN
 rw[Tp.yY l k h,List.filter_append,List.map_append]
 congr 1
 rw[List.filter_cons]
 split<;>rfl
theorem Tp.zU (l:List Tp.B)(id:Int×Int):(Tp.fN l id).length<=l.length:=by
 unfold Tp.fN
 rw[List.length_map]
 exact List.length_filter_le _ _
structure aMy (w:World) (x y:Int) (l:List Tp.B) (j:Nat) (v:Value) (wr:World):Prop where
 bel:Below w.heap.size w wr
 box:wr.heap[w.heap.size]?=some (.cells (m08 x y) 40 (0,0))
 own:OwnL idC 2 40 wr (w.heap.size+1) v (Tp.fN (l.take j) (x,y))
theorem aGt (a:Option Addr)(n c:Nat)(l:List Tp.B)(x y:Int)(w:World)(hn:l.length=n)(hm:n<=1000000)(hU:∀x∈l,x.U)(hl:Blks w a l):
  Calls Tryz.prog 116 #[.slice a n c,.agg (m08 x y)] w fun e w'=>∃v,e=.returned v/\OwnL idC 2 40 w' (w.heap.size+1) v (Tp.aAk l (x,y))/\Below w.heap.size w w':=by
 obtain⟨i0,hi,hz0,hz1,hz2⟩:=info_parts aIf
 have hb0:Below w.heap.size w (w.alloc (m40 x y)):=(Below.refl _ w).alloc nr _
 have hl1:=zH (hl.keep hb0)
 have hbx:=zH (heap_alloc_new w (m40 x y))
 have HL:=zH hl
 have HB:=zH hb0
 have HN:=zH hn
 have HU:=zH hU
 clear hb0 hl hn hU
 have hlt1:w.heap.size<(w.alloc (m40 x y)).heap.size:=by simp
 unfold Tp.aAk
 cases hmay:Tp.may l with
 |false=>
  go_enter Tryz.func116,Tryz.ntmps116
  go_wp2_with (go_at_call 13;refine(hZ a n c l _ HN.out (by omega) HU.out hl1.out).mono ?_;rintro e w1 ⟨rfl,hb⟩;rw[hmay];have bel:=HB.out.trans (hb.mono (Nat.le_of_lt hlt1)))
  go_ret
  exact⟨_,rfl,OwnL.nil _ _ _ _ _,bel⟩
 |true=>
  go_enter Tryz.func116,Tryz.ntmps116
  go_wp2_with (go_at_call 13;refine(hZ a n c l _ HN.out (by omega) HU.out hl1.out).mono ?_;rintro e w1 ⟨rfl,hb⟩;rw[hmay];have bel:=HB.out.trans (hb.mono (Nat.le_of_lt hlt1));have cb:=cG hb hlt1 hbx.out;have r0:aMy w x y l 0 (m48) w1:=⟨bel,cb,OwnL.nil _ _ _ _ _⟩;clear bel cb hb)
  go_loopw [5,13] (fun v i wr=>∃j:Nat,j<=n/\i=.int .i64 j/\aMy w x y l j v wr) (fun _ i _=>n-(intOf i).toNat)
  case atStart=>exact⟨0,Nat.zero_le _,rfl,r0⟩
  case round=>
   obtain⟨j,hj,rfl,hR⟩:=hrel
   obtain⟨cx,cy⟩:=kc2 hR.box
   have hblt:=(gS hR.box)
   have HR:=zH hR
   clear hR r0
   by_cases hjn:j<n
   case neg=>
    obtain rfl:j=n:=by omega
    have hfin:Hid (l.take j=l):=zH (List.take_of_length_le (by rw[HN.out];exact Nat.le_refl _))
    go_wp2
    go_ret
    refine⟨_,rfl,?_,HR.out.bel⟩
    have:=HR.out.own
    rw[hfin.out]at this
    exact this
   rcases HL.out with h0|⟨b,o,rfl,hlt,hc⟩
   ·exact absurd HN.out (by omega)
   have hjl:j<l.length:=by rw[HN.out];exact hjn
   have hB:=(hc j hjl).below HR.out.bel hlt
   have hsn:=Tp.vP l (x,y) j hjl
   have hUj:=HU.out _ (Tp.mL l j hjl)
   obtain⟨⟨xs,xf,xp,xq,xt⟩,hX⟩:∃u,Tp.gG l j=u:=⟨_,rfl⟩
   rw[hX]at hB hsn hUj
   obtain⟨p0,p1,p2,p3,p4⟩:=hB
   simp only at p0 p1 p2 p3 p4
   have hSN:=zH hsn
   have hUJ:=zH hUj
   have j0:(0:Int)<=j:=by omega
   have j1:(j:Int)<n:=by omega
   have he:=tX xp xq x y
   clear hc hsn hUj hX
   by_cases e:xp=x/\xq=y
   ·obtain⟨rfl,rfl⟩:=e
    rw[show(xp==xp&&xq==xq)=true from by simp]at he
    have hres:Hid (Tp.fN (l.take (j+1)) (xp,xq)=Tp.fN (l.take j) (xp,xq)++[Tp.name ⟨xs,xf,xp,xq,xt⟩]):=zH (by rw[hSN.out];simp)
    obtain⟨⟨y0,y1⟩,hy⟩:∃y,Tp.name ⟨xs,xf,xp,xq,xt⟩=y:=⟨_,rfl⟩
    have HY:=zH hy
    clear hy
    have hln:(Tp.fN (l.take j) (xp,xq)).length<=1000000:=Nat.le_trans (Tp.zU _ _) (by rw[List.length_take];omega)
    go_wp2_with (first
     |(go_at_call 18;refine(gD xs xf xp xq xt _ hUJ.out.1 hUJ.out.2.1 hUJ.out.2.2 y0 y1 HY).mono ?_;rintro e w2 ⟨rfl,hb⟩;have bel2:=bS (bX HR.out.bel _) hb;have own2:=(HR.out.own.keep ((Below.refl _ _).alloc nr _)).keep hb;have box2:w2.heap[w.heap.size]?=_:=((hb.block w.heap.size (by simp only[World.size_alloc];omega)).trans (Below.heap_alloc wr _ _ hblt)).trans HR.out.box;have hz2:=bel2.size;have hblt2:=(gS box2);unfold OwnL at own2)
     |(at_builtin;refine wpList_append_own _ rfl (.tmp 21) (.tmp 24) 47 rfl (w.heap.size+1) 40 i0 (.agg (m26)) 2 16 Tryz.underlying47 hi hz0 hz1 ‹_› rfl (by decide) _ _ _ rfl (own2.alloc _) (m07 w2) 1 1 (idC (y0,y1)) rfl rfl (bE w2 _ _ _ rfl) (aDv (y0,y1)) (by unfold maxLen;omega) (by omega) (by simp only[World.size_alloc];omega) ?_;intro v3 w3 hown3 hg3 _;have bel3:=OwnL.grown own2 bel2 (Nat.le_succ _) (by omega) hg3;have own3:OwnL idC 2 40 w3 (w.heap.size+1) v3 (Tp.fN (l.take j) (xp,xq)++[(y0,y1)]):=OwnL.snoc hown3 rfl;have box3:=(bJ hg3 hblt2 (fK own2 (Nat.lt_succ_self _))).trans box2))
    refine⟨⟨j+1,by omega,by go_num,bel3,box3,?_⟩,by simp[intOf];omega⟩
    rw[hres.out,HY.out]
    exact own3
   ·rw[show(xp==x&&xq==y)=false from by simpa using e]at he
    have hres:Hid (Tp.fN (l.take (j+1)) (x,y)=Tp.fN (l.take j) (x,y)):=zH (by rw[hSN.out,if_neg (by simpa using e),List.append_nil])
    go_wp2
    refine⟨⟨j+1,by omega,by go_num,bX HR.out.bel _,?_,?_⟩,by simp[intOf];omega⟩
    ·rw[Below.heap_alloc _ _ _ hblt];exact HR.out.box
    ·rw[hres.out];exact HR.out.own.keep ((Below.refl _ _).alloc nr _)
namespace Tp
def mate (sd n:Int) (r:Nat) (i:Int):Int:=(kP sd n r+n-i)%n
def turn (sd n:Int) (r:Nat) (i:Int):Int:=if Mx.step (sign sd r) (max i (mate sd n r i))%2=1 then mate sd n r i else i
def lE (sd n:Int):Nat->Int->Int
 |0,i=>i
 |m+1,i=>turn sd n m (lE sd n m i)
theorem aDi {sd n:Int}(r:Nat)(i:Int)(h:0<n):0<=mate sd n r i/\mate sd n r i<n:=⟨Int.emod_nonneg _ (by omega),Int.emod_lt_of_pos _ h⟩
theorem aIw {sd n:Int}(r:Nat)(i:Int)(h:0<n)(hi:0<=i/\i<n):0<=turn sd n r i/\turn sd n r i<n:=by
 unfold turn
 split
 ·exact aDi r i h
 ·exact hi
theorem qI {sd n:Int}(h:0<n):∀(m:Nat) (i:Int),0<=i/\i<n->0<=lE sd n m i/\lE sd n m i<n
 |0,i,hi=>hi
 |m+1,i,hi=>aIw m _ h (qI h m i hi)
theorem aGg {sd n:Int}(r:Nat)(h:0<n):0<=kP sd n r/\kP sd n r<n:=⟨Int.emod_nonneg _ (by omega),Int.emod_lt_of_pos _ h⟩
end Tp
theorem aKw {x:Int}(h:IsU x):bits BinOp.and IntKind.u64 x 1=x%2:=by
 obtain⟨X,rfl⟩:=Int.eq_ofNat_of_zero_le h.1
 have:=h.2
 rw[show(1:Int)=((1:Nat):Int)from rfl,bits_and_u64_nat X 1 (by omega) (by omega),Nat.and_one_is_mod]
 omega
theorem Got.drewN {B:Nat}{sd n:Int}{k r:Nat}{w w':World}(h:Got B sd n k r w w')(m:Nat):Got B sd n k r w (w'.drewN m):=⟨h.deck,eP h.grown (fA (cV _ _ _) _)⟩
theorem aFp (B r k:Nat)(sd n i:Int)(cs:Array Value)(w:World)(hB:w.heap[B]?=some (.cells cs 210 (0,0)))(hD:Deck sd n k cs)(hk:k<=1000000-1)(hr:r<10)(hsd:IsU sd)(hn:0<n/\n<=1000)(hi:0<=i/\i<n):
  Calls Tryz.prog 144 #[.pointer (some (m00 B)),.int .i64 r,.int .i64 i] w fun e w'=>e=.returned (m30 (Tp.turn sd n r i))/\Got B sd n k r w w':=by
 have pin:=Tp.aGg (sd:=sd) r hn.1
 have min_:=Tp.aDi (sd:=sd) r i hn.1
 have hmt:Tp.mate sd n r i=(Tp.kP sd n r+n-i)%n:=rfl
 have hsg:IsU (Tp.sign sd r):=⟨(Mx.step_bd _ _).1,(Mx.step_bd _ _).2⟩
 have hlt:=(gS hB)
 unfold Tp.turn
 obtain⟨p,hp⟩:∃p,Tp.kP sd n r=p:=⟨_,rfl⟩
 obtain⟨m,hm⟩:∃m,Tp.mate sd n r i=m:=⟨_,rfl⟩
 obtain⟨g,hg⟩:∃g,Tp.sign sd r=g:=⟨_,rfl⟩
 obtain⟨x,hx⟩:∃x,max i m=x:=⟨_,rfl⟩
 have xin:0<=x/\x<=1000:=by rw[hm]at min_;omega
 obtain⟨y,hy⟩:∃y,Mx.step g x=y:=⟨_,rfl⟩
 have yin:IsU y:=by rw[<-hy];exact⟨(Mx.step_bd _ _).1,(Mx.step_bd _ _).2⟩
 rw[hp]at pin hmt
 rw[hm]at min_ hmt⊢
 rw[hg]at hsg⊢
 rw[hx,hy]
 have HY:=zH hy
 have w1:IntKind.i64.wrap (p+n)=p+n:=IntWalk.i64_in _ (by omega)
 have w2:IntKind.i64.wrap (p+n-i)=p+n-i:=IntWalk.i64_in _ (by omega)
 have nz:¬n=0:=by omega
 have tm:Int.tmod (p+n-i) n=m:=by rw[hmt];exact Int.tmod_eq_emod_of_nonneg (by omega)
 have w3:IntKind.u64.wrap x=x:=eI (by omega) (by omega)
 have w4:=aKw yin
 have HB:=zH hB
 have HD:=zH hD
 have HP:=zH hp
 have HG:=zH hg
 obtain⟨t,ht⟩:∃t,decide (y%2=1)=t:=⟨_,rfl⟩
 have ht2:(y%2==1)=t:=ht
 obtain⟨res,hres⟩:∃v,(if y%2=1 then m else i)=v:=⟨_,rfl⟩
 have H1:Hid (t=true->res=m):=zH (fun h=>by rw[<-hres,if_pos (of_decide_eq_true (ht.trans h))])
 have H0:Hid (t=false->res=i):=zH (fun h=>by rw[<-hres,if_neg (of_decide_eq_false (ht.trans h))])
 rw[hres]
 clear hB hD hp hm hg hy hmt ht hres
 go_enter Tryz.func144,Tryz.ntmps144
 go_wp2_with (go_at_call 156;refine(aHe B r k sd n cs w HB.out HD.out hk hr hsd hn).mono ?_;rintro e w1 ⟨rfl,hG⟩;obtain⟨cs1,hB1,hD1,hDn⟩:=id hG.deck;have z1:w1.cell? (m15 B)=some (.int .i64 n):=(cA hB1 1).trans hD1.num;have z3:w1.cell? (m09 B (2+r*5+3))=some (.int .i64 p):=(cA hB1 _).trans (hDn.1.trans (by rw[HP.out]));have z4:w1.cell? (m09 B (2+r*5+4))=some (.int .u64 g):=(cA hB1 _).trans (hDn.2.trans (by rw[HG.out]));have HGt:=zH hG;clear hG hB1 hD1 hDn)
 go_quiet (fail)
 go_wp2_with (first
  |(go_at_call_of 75 (Value.int .u64 i);refine(sP g i y (zH (by rw[<-HY.out];congr 1;omega)) _ hsg ⟨by omega,by omega⟩).mono ?_;rintro e w' ⟨rfl,rfl⟩)
  |(go_at_call_of 75 (Value.int .u64 m);refine(sP g m y (zH (by rw[<-HY.out];congr 1;omega)) _ hsg ⟨by omega,by omega⟩).mono ?_;rintro e w' ⟨rfl,rfl⟩))
 all_goals
  go_ret
  refine⟨?_,HGt.out.drewN _⟩
  first
   |(rw[H1.out (by assumption)];rfl)
   |(rw[H0.out (by assumption)];rfl)
structure aLf (B:Nat) (sd n:Int) (k:Nat) (w w':World):Prop where
 deck:∃cs,w'.heap[B]?=some (.cells cs 210 (0,0))/\Deck sd n k cs
 grown:w.grownBy w' (some B)
theorem aMs (B k:Nat)(sd n i:Int)(w:World)(hD:aLf B sd n k w w)(hk:k<=999980)(hsd:IsU sd)(hn:0<n/\n<=1000)(hi:0<=i/\i<n):
  Calls Tryz.prog 124 #[.pointer (some (m00 B)),.int .i64 i] w fun e w'=>e=.returned (m30 (Tp.lE sd n 10 i))/\aLf B sd n (k+10) w w':=by
 go_enter Tryz.func124,Tryz.ntmps124
 go_wp2_with fail
 go_loopw [1,6] (fun v q wr=>∃r:Nat,r<=10/\q=.int .i64 r/\v=.int .i64 (Tp.lE sd n r i)/\aLf B sd n (k+r) w wr) (fun _ q _=>10-(intOf q).toNat)
 case atStart=>exact⟨0,by omega,rfl,rfl,hD⟩
 case round=>
  obtain⟨r,hr,rfl,rfl,hW⟩:=hrel
  obtain⟨cs,hB,hDk⟩:=hW.deck
  have hin:=Tp.qI (sd:=sd) hn.1 r i hi
  have hnx:Hid (Tp.turn sd n r (Tp.lE sd n r i)=Tp.lE sd n (r+1) i):=zH rfl
  obtain⟨x,hx⟩:∃x,Tp.lE sd n r i=x:=⟨_,rfl⟩
  rw[hx]at hin hnx⊢
  have HB:=zH hB
  have HD:=zH hDk
  have HW:=zH hW
  clear hB hDk hW hD
  by_cases h10:r<10
  ·go_wp2_with (go_at_call 144;refine(aFp B r (k+r) sd n x cs wr HB.out HD.out (by omega) h10 hsd hn hin).mono ?_;rintro e w1 ⟨rfl,hG⟩;rw[hnx.out])
   obtain⟨cs1,h1,h2,_⟩:=hG.deck
   exact⟨⟨r+1,by omega,by go_num,rfl,⟨cs1,h1,h2⟩,eP HW.out.grown hG.grown⟩,by simp[intOf];omega⟩
  ·obtain rfl:r=10:=by omega
   go_wp2
   go_ret
   exact⟨by rw[<-hx];rfl,HW.out⟩
def Tp.jX (sd:Int) (n:Nat):List Int:=(List.range n).map (fun i:Nat=>Tp.lE sd n 10 (i:Int))
structure aHu (w:World) (sd:Int) (n j:Nat) (wr:World):Prop where
 bel:Below w.heap.size w wr
 deck:∃cs,wr.heap[w.heap.size]?=some (.cells cs 210 (0,0))/\Deck sd n (10*j) cs
 row:∃cur,wr.heap[w.heap.size+1]?=some (.cells cur 3 (0,0))/\cur.size=n/\(∀i,i<j->cur[i]?=some (.int .i64 (Tp.lE sd n 10 (i:Int))))/\(∀i,j<=i->i<n->cur[i]?=some (.int .i64 0))
theorem aHu.own {w wr:World}{sd:Int}{n:Nat}(h:aHu w sd n n wr)(hm:n<=1000):OwnL intC 1 3 wr w.heap.size (.slice (some (m22 w)) n n) (Tp.jX sd n):=by
 obtain⟨cur,h1,h2,h3,_⟩:=h.row
 have hl:(Tp.jX sd n).length=n:=by simp[Tp.jX]
 have hf:(Tp.jX sd n).flatMap intC=(List.range n).map (fun i:Nat=>Value.int .i64 (Tp.lE sd n 10 (i:Int))):=by
  unfold Tp.jX intC
  rw[List.flatMap_map]
  induction List.range n with
  |nil=>rfl
  |cons x r ih=>rw[List.flatMap_cons,ih];rfl
 unfold OwnL
 rw[hl,hf]
 refine⟨by simp,.inr ⟨_,n,cur,rfl,Nat.le_succ _,h1,Nat.le_refl _,by unfold maxLen;omega,by omega,?_⟩⟩
 apply List.ext_getElem?
 intro i
 rw[Nat.mul_one]
 rcases Nat.lt_or_ge i n with hi|hi
 ·rw[List.getElem?_take_of_lt hi,Array.getElem?_toList,h3 i hi]
  simp[hi]
 ·rw[List.getElem?_eq_none (by simp;omega),List.getElem?_eq_none (by simp;omega)]
theorem aGb (n:Nat)(w:World)(h:0<n/\n<=1000):Calls Tryz.prog 123 #[.int .i64 n,.int .i64 0] w fun e w'=>e=.returned (.bool true)/\w=w':=by
 obtain⟨h1,h2⟩:=h
 go_enter Tryz.func123,Tryz.ntmps123
 go_wp2
 go_ret
 exact⟨rfl,rfl⟩
def aKr (sd:Int) (n:Nat):Array Value:=#[.int .u64 sd,.int .i64 n,.int .u32 0,.int .i32 0,.int .u32 0,.int .i64 0,.int .u64 0,.int .u32 0,.int .i32 0,.int .u32 0,.int .i64 0,.int .u64 0,.int .u32 0,.int .i32 0,.int .u32 0,.int .i64 0,.int .u64 0,.int .u32 0,.int .i32 0,.int .u32 0,.int .i64 0,.int .u64 0,.int .u32 0,.int .i32 0,.int .u32 0,.int .i64 0,.int .u64 0,.int .u32 0,.int .i32 0,.int .u32 0,.int .i64 0,.int .u64 0,.int .u32 0,.int .i32 0,.int .u32 0,.int .i64 0,.int .u64 0,.int .u32 0,.int .i32 0,.int .u32 0,.int .i64 0,.int .u64 0,.int .u32 0,.int .i32 0,.int .u32 0,.int .i64 0,.int .u64 0,.int .u32 0,.int .i32 0,.int .u32 0,.int .i64 0,.int .u64 0,.int .i64 0]
theorem aHg (sd:Int)(n:Nat):Deck sd n 0 (aKr sd n):=by
 refine⟨rfl,rfl,rfl,rfl,?_⟩
 intro r hr
 match r,hr with
 |0,_=>exact⟨rfl,_,_,rfl,rfl,.inl rfl⟩
 |1,_=>exact⟨rfl,_,_,rfl,rfl,.inl rfl⟩
 |2,_=>exact⟨rfl,_,_,rfl,rfl,.inl rfl⟩
 |3,_=>exact⟨rfl,_,_,rfl,rfl,.inl rfl⟩
 |4,_=>exact⟨rfl,_,_,rfl,rfl,.inl rfl⟩
 |5,_=>exact⟨rfl,_,_,rfl,rfl,.inl rfl⟩
 |6,_=>exact⟨rfl,_,_,rfl,rfl,.inl rfl⟩
 |7,_=>exact⟨rfl,_,_,rfl,rfl,.inl rfl⟩
 |8,_=>exact⟨rfl,_,_,rfl,rfl,.inl rfl⟩
 |9,_=>exact⟨rfl,_,_,rfl,rfl,.inl rfl⟩
theorem aDj (n i:Nat)(h:i<n):(madeCells (Value.int .i64 0).cells (n*1)).toList[i]?=some (.int .i64 0):=by
 unfold madeCells
 simp[Value.cells,h,Nat.mod_one]
theorem zK (sd:Int)(n:Nat)(w w1:World)(hn:0<n/\n<=1000)(hown:w1.ownsRow (w.heap.size+1) 3 1 (.slice (some (m00 ((w.alloc (.cells (aKr sd n) 210)).heap.size))) n n) n (madeCells (Value.int .i64 0).cells (n*1)).toList)(hg:(w.alloc (.cells (aKr sd n) 210)).grownBy w1 none):
  aHu w sd n 0 w1:=by
 rw[World.size_alloc]at hown
 refine⟨((Below.refl _ w).alloc nr _).trans (iG hg (by simp) (fun k h=>by cases h)),?_,?_⟩
 ·obtain⟨_,_,_,_,h⟩:=hg
  exact⟨_,(h w.heap.size (by simp) (by simp)).trans (heap_alloc_new w _),aHg sd n⟩
 ·rcases hown.2 with⟨h,_⟩|⟨g,cap,cur,hv,_,hh,_,_,hs,ht⟩
  ·cases h
  ·cases hv
   refine⟨cur,hh,by omega,fun i hi=>absurd hi (by omega),fun i _ hi=>?_⟩
   have:=aDj n i hi
   rw[<-ht,List.getElem?_take_of_lt (by omega),Array.getElem?_toList]at this
   exact this
theorem aGi (sd:Int)(n:Nat)(w:World)(hsd:IsU sd)(hn:0<n/\n<=1000):
  Calls Tryz.prog 107 #[.int .u64 sd,.int .i64 n] w fun e w'=>∃v,e=.returned v/\OwnL intC 1 3 w' w.heap.size v (Tp.jX sd n)/\Below w.heap.size w w':=by
 obtain⟨i0,hi,hz0,hz1,hz2⟩:=info_parts nW
 go_enter Tryz.func107,Tryz.ntmps107
 go_wp2_with (first
  |(go_at_call 123;refine(aGb n _ hn).mono ?_;rintro e w' ⟨rfl,rfl⟩)
  |(at_make;(refine wpList_make_full _ rfl _ _ 22 rfl (w.heap.size+1) 3 i0 (.int .i64 0) 1 Tryz.underlying22 hi hz0 hz1 .i64 .i64 n n n rfl rfl rfl rfl (by rw[hz2];omega) (by unfold maxLen;omega) (by simp) ?_);(intro w1 hown1 hg1;have r0:=zK sd n w w1 hn hown1 hg1)))
 clear hown1 hg1
 go_loopw [19] (fun q wr=>∃j:Nat,j<=n/\q=.int .i64 j/\aHu w sd n j wr) (fun q _=>n-(intOf q).toNat)
 case atStart=>exact⟨0,Nat.zero_le _,rfl,r0⟩
 case round=>
  obtain⟨j,hj,rfl,hR⟩:=hrel
  have HR:=zH hR
  clear hR r0
  by_cases hjn:j<n
  ·have hat:=aMs w.heap.size (10*j) sd n j wr ⟨HR.out.deck,World.grownBy.refl _ _⟩ (by omega) hsd ⟨by omega,by omega⟩ ⟨by omega,by omega⟩
   obtain⟨x,hx⟩:∃x,Tp.lE sd n 10 (j:Int)=x:=⟨_,rfl⟩
   rw[hx]at hat
   have HX:=zH hx
   have j0:(0:Int)<=j:=by omega
   have j1:(j:Int)<n:=by omega
   clear hx
   go_wp2_with (go_at_call 124;refine hat.mono ?_;rintro e w2 ⟨rfl,hW⟩;obtain⟨cur,h1,h2,h3,h4⟩:=HR.out.row;have h1':w2.heap[w.heap.size+1]?=some (.cells cur 3 (0,0)):=(hW.grown.block _ (gS h1) (by simp)).trans h1;have T:=fX h1' j (m30 x);have cj:w2.cell? ⟨w.heap.size+1,j,none⟩=some (.int .i64 0):=(cA h1' j).trans (h4 j nr hjn);have fj:=cH h1' j;have H3:=zH h3;have H4:=zH h4;clear h3 h4)
   refine⟨⟨j+1,by omega,by go_num,?_,?_,?_⟩,by simp[intOf];omega⟩
   ·exact((HR.out.bel).trans (iG hW.grown HR.out.bel.size (fun k h=>by cases h;exact Nat.le_refl _))).trans (T.below (Nat.le_succ _))
   ·obtain⟨cs,d1,d2⟩:=hW.deck
    exact⟨cs,(T.block _ (by omega)).trans d1,d2⟩
   ·refine⟨_,T.new,by simpa using h2,fun i hi=>?_,fun i h1 hi=>?_⟩
    ·by_cases e:i=j
     ·subst e
      rw[HX.out]
      simp[Array.getElem?_setIfInBounds,h2,hjn]
     ·rw[Array.getElem?_setIfInBounds_ne (by omega)]
      exact H3.out i (by omega)
    ·rw[Array.getElem?_setIfInBounds_ne (by omega)]
     exact H4.out i (by omega) hi
  ·obtain rfl:j=n:=by omega
   obtain⟨cs,hB,hD⟩:=HR.out.deck
   have hk:=(cA hB 52).trans hD.asked
   have b1:decide (((10*j:Nat):Int)<j)=false:=decide_eq_false (by omega)
   have HK:=zH hk
   obtain⟨q,hq⟩:∃q:Int,((10*j:Nat):Int)=q:=⟨_,rfl⟩
   rw[hq]at b1 hk
   clear hB hD hq HK
   go_wp2_with (go_at_call 125;refine(aFb ⟨w.heap.size,52,none⟩ q _ hk).mono ?_;rintro e w' ⟨rfl,rfl⟩)
   go_ret
   exact⟨_,rfl,HR.out.own hn.2,HR.out.bel⟩
end Go.Proofs.YtbbhinehcncmeaaGreat
