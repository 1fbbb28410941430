/- A part of the proof of the laws of the top: TpChain, TpClone, TpDeck, TpDeck2, TpPerm, TpSlices, TpUnder. No condition. -/
import Derived.Test.YtbbhinehcncmeaaGreatG04
import Derived.Test.YtbbhinehcncmeaaGreatG05
import Derived.Laws.NewBlocks
namespace Go.Proofs.YtbbhinehcncmeaaGreat
open Go.RowKit
set_option linter.unusedSimpArgs false
set_option linter.unusedVariables false
set_option linter.unusedSectionVars false
set_option maxRecDepth 100000
set_option maxHeartbeats 4000000
theorem Rws.blks {w:World}{a:Option Addr}{l:List Tp.B}(h:Rws aK 5 w a l):Blks w a l:=by
 rcases h with h0|⟨b,o,rfl,hlt,hc⟩
 ·exact .inl h0
 ·refine .inr ⟨b,o,rfl,hlt,fun i hi=>?_⟩
  have e:Tp.gG l i=l[i]:=by simp[Tp.gG,List.getElem?_eq_getElem hi]
  rw[e]
  exact⟨hc i hi 0 (by omega),hc i hi 1 (by omega),hc i hi 2 (by omega),hc i hi 3 (by omega),hc i hi 4 (by omega)⟩
namespace Tp
def OkM (l:List B) (m:PM) (n:Nat):Prop:=
 at_ m (0,0)=some (-1)/\∀x y,at_ m x=some y->(y=-1/\x=(0,0))\/(∃i:Nat,y=i/\i<n/\name (gG l i)=x/\∃z,at_ m ((gG l i).p,(gG l i).q)=some z/\z<i/\dJ l z<(gG l i).slot)
theorem aNp (l:List B):∀(r:List B) (i:Nat) (m m':PM),l.drop i=r->i<=l.length->OkM l m i->aX l r i m=some m'->OkM l m' l.length:=by
 intro r
 induction r with
 |nil=>
  intro i m m' hd hi hok h
  simp only[aX,Option.some.injEq]at h
  subst h
  have:l.length<=i:=by simpa using hd
  rw[show l.length=i by omega]
  exact hok
 |cons b r ih=>
  intro i m m' hd hi hok h
  have hlt:i<l.length:=by
   rcases Nat.lt_or_ge i l.length with h|h
   ·exact h
   ·rw[List.drop_of_length_le h]at hd;cases hd
  rw[nM l i hlt]at hd
  simp only[List.cons.injEq]at hd
  obtain⟨hb,hr⟩:=hd
  unfold aX at h
  cases hp:at_ m (b.p,b.q)with
  |none=>rw[hp]at h;cases h
  |some j=>
   rw[hp]at h
   simp only at h
   by_cases hs:b.slot<=dJ l j
   ·rw[if_pos hs]at h;cases h
   rw[if_neg hs]at h
   by_cases hn:(at_ m (name b)).isSome
   ·rw[if_pos hn]at h;cases h
   rw[if_neg hn]at h
   have hnone:at_ m (name b)=none:=by simpa using hn
   refine ih (i+1) _ m' hr hlt ⟨?_,?_⟩ h
   ·rw[dF,if_neg (fun e=>by rw[<-e,hok.1]at hnone;cases hnone)]
    exact hok.1
   ·intro x y hy
    have keep:∀u z,at_ m u=some z->at_ (put m (name b) (i:Int)) u=some z:=by
     intro u z hz
     rw[dF,if_neg (fun e=>by rw[<-e,hz]at hnone;cases hnone)]
     exact hz
    rw[dF]at hy
    by_cases hx:x=name b
    ·rw[if_pos hx]at hy
     simp only[Option.some.injEq]at hy
     refine .inr ⟨i,hy.symm,by omega,by rw[hb,hx],j,?_,?_,?_⟩
     ·rw[hb];exact keep _ _ hp
     ·rcases hok.2 _ _ hp with⟨h1,_⟩|⟨i',h1,h2,_⟩<;>omega
     ·rw[hb];omega
    ·rw[if_neg hx]at hy
     rcases hok.2 x y hy with h1|⟨i',h1,h2,h3,z,h4,h5,h6⟩
     ·exact .inl h1
     ·exact .inr ⟨i',h1,by omega,h3,z,keep _ _ h4,h5,h6⟩
theorem dU {l:List B}{m:PM}(h:places l=some m):OkM l m l.length:=by
 refine aNp l l 0 _ m rfl (Nat.zero_le _) ⟨by simp[dG],?_⟩ h
 intro x y hy
 rw[dG,oP]at hy
 split at hy
 ·rename_i hx
  simp only[Option.some.injEq]at hy
  exact .inl ⟨hy.symm,hx⟩
 ·cases hy
def may (l:List B):Bool:=(places l).isSome
def eS (l:List B) (m:PM):Nat->Int×Int->List (Int×Int)
 |0,_=>[]
 |f+1,id=>id::match at_ m id with
  |none=>[]
  |some i=>if i=-1 then[]else eS l m f ((gG l i.toNat).p,(gG l i.toNat).q)
def chain (l:List B) (id:Int×Int):List (Int×Int):=
 match places l with
 |none=>[]
 |some m=>if(at_ m id).isSome then eS l m (l.length+1) id else[]
end Tp
theorem hZ (a:Option Addr)(n c:Nat)(l:List Tp.B)(w:World)(hn:l.length=n)(hm:n<=9223372036854775807)(hU:∀x∈l,x.U)(hl:Blks w a l):
  Calls Tryz.prog 13 #[.slice a n c] w fun e w'=>e=.returned (.bool (Tp.may l))/\Below w.heap.size w w':=by
 unfold Tp.may
 go_enter Tryz.func13,Tryz.ntmps13
 go_wp2_with (go_at_call 32;refine(jH a n c l _ hn hm hU hl).mono ?_;rintro e w' ⟨v,rfl,hv,hb⟩)
 go_ret
 exact⟨rfl,hb⟩
theorem gW {P:Program}{a:Act}{w:World}{Q:Exit->Act->World->Prop}{c rest:Code}(l:Nat)(J:Act->World->Prop)(μ:Act->World->Nat)(hf:findLabel c l=some (Code.skip.seq rest))(pass:∀a w,J a w->rest.wp P (Exit.jump l (fun a' w'=>J a' w'/\μ a' w'<μ a w) Q) a w)(first:(∀a w,J a w->rest.wp P (Exit.jump l J Q) a w)->c.wp P (Exit.jump l J Q) a w):(Code.scope c).wp P Q a w:=
 wp_scope_jumps l J μ hf (first fun a w h=>Code.wp_mono (fun e a' w' he=>by
  cases e with
  |goto l'=>exact⟨he.1,he.2.1⟩
  |_=>exact he) (pass a w h)) (fun a w h=>wp_seq (wp_skip (pass a w h)))
structure aNz (w:World) (l:List Tp.B) (m:Tp.PM) (mb:Nat) (all:List (Int×Int)) (id:Int×Int) (i:Int) (pre:List (Int×Int)) (f:Nat) (v:Value) (wr:World):Prop where
 bel:Below w.heap.size w wr
 box:wr.heap[w.heap.size]?=some (.cells #[.int .u64 id.1,.int .u64 id.2] 40 (0,0))
 at_:Tp.at_ m id=some i
 lo:i+1<f
 own:OwnL idC 2 40 wr (w.heap.size+1) v pre
 all:all=pre++Tp.eS l m f id
 sum:pre.length+f=l.length+1
 map:bD idV intV wr mb m
 lt:w.heap.size<mb
def kK :Value->Nat
 | .slice _ n _=>n
 |_=>0
theorem OwnL.len {α:Type}{g:α->List Value}{k:Nat}{e:TypeId}{w:World}{base:Nat}{v:Value}{l:List α}(h:OwnL g k e w base v l):kK v=l.length:=by
 rcases h.2 with⟨rfl,h0⟩|⟨g,cap,cur,rfl,_⟩
 ·exact h0.symm
 ·rfl
theorem xN {K V:Type}{ke:K->Value}{ve:V->Value}{w w2:World}{o:Obj}{mb:Nat}{m:List (K×V)}{e:TypeId}{k base j:Nat}{v:Value}{xs:List Value}(h:bD ke ve w mb m)(hown:w.ownsRow base e k v j xs)(hg:(w.alloc o).grownBy w2 v.ownBlock):bD ke ve w2 mb m:=by
 have hlt:=h.lt
 obtain⟨es,c,hb,hm⟩:=h
 exact⟨es,c,(bJ hg hlt (pQ hown hb)).trans hb,hm⟩
theorem jO {w0 w w2:World}{o:Obj}{e:TypeId}{k j b off:Nat}{v:Value}{xs:List Value}(hown:w.ownsRow (w0.heap.size+1) e k v j xs)(hg:(w.alloc o).grownBy w2 v.ownBlock)(hb:b<w.heap.size)(hlt:b<w0.heap.size):w2.cell? (m09 b off)=w.cell? (m09 b off):=
 World.cell?_of_block (w:=w) (bJ hg hb (fK hown (show b<w0.heap.size+1 by omega)))
def ChJ (a:Option Addr) (n c:Nat) (x y:Int) (l:List Tp.B) (m:Tp.PM) (all:List (Int×Int)) (w:World) (a':Act) (w':World):Prop:=
 ∃(mb:Nat) (id:Int×Int) (i:Int) (pre:List (Int×Int)) (f:Nat) (v u2 u6 u7 u8 u10 u11 u12 u13 u14 u15 u16 u17 u18 u19 u20 u21 u22 u23 u24 u25 u26 u27 u28 u29 u30 u31 u32 u33 u34 u35 u36 u37 u38:Value),a'={ tmps:=#[.slice a n c,.agg (m08 x y),u2,.pointer (some (m07 w)),.slice none 0 0,.map (some mb),u6,u7,u8,v,u10,u11,u12,u13,u14,u15,u16,u17,u18,u19,u20,u21,u22,u23,u24,u25,u26,u27,u28,u29,u30,u31,u32,u33,u34,u35,u36,u37,u38],defers:=[] }/\aNz w l m mb all id i pre f v w'
theorem gR (a:Option Addr)(n c:Nat)(l:List Tp.B)(x y:Int)(w:World)(hn:l.length=n)(hm:n<=1000000)(hU:∀x∈l,x.U)(hl:Blks w a l):
  Calls Tryz.prog 12 #[.slice a n c,.agg (m08 x y)] w fun e w'=>∃v,e=.returned v/\OwnL idC 2 40 w' (w.heap.size+1) v (Tp.chain l (x,y))/\Below w.heap.size w w':=by
 obtain⟨i0,hi,hz0,hz1,hz2⟩:=info_parts aIf
 have hb0:Below w.heap.size w (w.alloc (m40 x y)):=(Below.refl _ w).alloc nr _
 have hl1:=zH (hl.keep hb0)
 have hbx:=zH (heap_alloc_new w (m40 x y))
 have HL:=zH hl
 have HB:=zH hb0
 have HN:=zH hn
 have HU:=zH hU
 clear hb0 hl hn hU
 have hlt1:w.heap.size<(w.alloc (m40 x y)).heap.size:=by simp
 cases hpl:Tp.places l with
 |none=>
  have hch:Hid (Tp.chain l (x,y)=[]):=zH (by unfold Tp.chain;rw[hpl])
  go_enter Tryz.func12,Tryz.ntmps12
  go_wp2
  refine wp_scope_jumps 0 (fun _ _=>False) (fun _ _=>0) rfl ?_ (fun _ _ h=>h.elim)
  go_wp2_with (first
   |(go_at_call 32;refine(jH a n c l _ HN.out (by omega) HU.out hl1.out).mono ?_;rintro e w1 ⟨v,rfl,hv,hb⟩;rw[hpl]at hv⊢;obtain rfl:=hv;have bel:=HB.out.trans (hb.mono (Nat.le_of_lt hlt1));have cb:=cG hb hlt1 hbx.out;have c0:w1.cell? (m07 w)=some (.int .u64 x):=cA cb 0;have c1:w1.cell? (m14 w)=some (.int .u64 y):=cA cb 1)
   |(at_lookup;refine mQ _ rfl _ _ _ true rfl fC Tryz.underlying75 (.int .i64 0) (dK _) rfl (x,y) rfl (m38) rfl ?_))
  simp only[Exit.jump]
  go_ret
  rw[hch.out]
  exact⟨_,rfl,OwnL.nil _ _ _ _ _,bel⟩
 |some m=>
  have hok:=zH (Tp.dU hpl)
  cases hat:Tp.at_ m (x,y)with
  |none=>
   have hch:Hid (Tp.chain l (x,y)=[]):=zH (by unfold Tp.chain;rw[hpl];simp[hat])
   go_enter Tryz.func12,Tryz.ntmps12
   go_wp2
   refine wp_scope_jumps 0 (fun _ _=>False) (fun _ _=>0) rfl ?_ (fun _ _ h=>h.elim)
   go_wp2_with (first
    |(go_at_call 32;refine(jH a n c l _ HN.out (by omega) HU.out hl1.out).mono ?_;rintro e w1 ⟨v,rfl,hv,hb⟩;rw[hpl]at hv⊢;obtain⟨mb,rfl,hmb0,hmap⟩:=hv;have bel:=HB.out.trans (hb.mono (Nat.le_of_lt hlt1));have cb:=cG hb hlt1 hbx.out;have c0:w1.cell? (m07 w)=some (.int .u64 x):=cA cb 0;have c1:w1.cell? (m14 w)=some (.int .u64 y):=cA cb 1)
    |(at_lookup;refine cZ _ rfl _ _ _ true rfl fC Tryz.underlying75 (.int .i64 0) (dK _) mb m rfl hmap (x,y) rfl (m38) (by rw[hat];rfl) ?_))
   simp only[Exit.jump]
   go_ret
   rw[hch.out]
   exact⟨_,rfl,OwnL.nil _ _ _ _ _,bel⟩
  |some i=>
   have hch:Hid (Tp.chain l (x,y)=Tp.eS l m (l.length+1) (x,y)):=zH (by unfold Tp.chain;rw[hpl];simp[hat])
   have hi0:Hid (i+1<((l.length+1:Nat):Int)):=zH (by rcases hok.out.2 _ _ hat with⟨h,_⟩|⟨j,h,h2,_⟩<;>omega)
   go_enter Tryz.func12,Tryz.ntmps12
   go_wp2
   refine gW 0 (ChJ a n c x y l m (Tp.chain l (x,y)) w) (fun a' _=>n+2-kK (a'.tmps.getD 9 undef)) rfl ?pass ?first
   case first=>
    intro hrest
    go_wp2_with (first
     |(go_at_call 32;refine(jH a n c l _ HN.out (by omega) HU.out hl1.out).mono ?_;rintro e w1 ⟨v,rfl,hv,hb⟩;rw[hpl]at hv⊢;obtain⟨mb,rfl,hmb0,hmap⟩:=hv;have bel:=HB.out.trans (hb.mono (Nat.le_of_lt hlt1));have cb:=cG hb hlt1 hbx.out;have c0:w1.cell? (m07 w)=some (.int .u64 x):=cA cb 0;have c1:w1.cell? (m14 w)=some (.int .u64 y):=cA cb 1;have hmb:w.heap.size<mb:=Nat.lt_of_lt_of_le hlt1 hmb0)
     |(at_lookup;refine cZ _ rfl _ _ _ true rfl fC Tryz.underlying75 (.int .i64 0) (dK _) mb m rfl hmap (x,y) rfl (m34 i) (by rw[hat];rfl) ?_))
    go_step3
    rename_i hK
    refine hK _ _ (hrest _ _ ⟨mb,(x,y),i,[],l.length+1,.slice none 0 0,_,_,_,_,_,_,_,_,_,_,_,_,_,_,_,_,_,_,_,_,_,_,_,_,_,_,_,_,_,_,_,_,_,rfl,bel,cb,hat,hi0.out,OwnL.nil _ _ _ _ _,by rw[hch.out];rfl,by simp,hmap,hmb⟩)
   case pass=>
    rintro a' wr ⟨mb,id,j,pre,f,v,u2,u6,u7,u8,u10,u11,u12,u13,u14,u15,u16,u17,u18,u19,u20,u21,u22,u23,u24,u25,u26,u27,u28,u29,u30,u31,u32,u33,u34,u35,u36,u37,u38,rfl,hR⟩
    obtain⟨cb0,cb1⟩:=kc2 hR.box
    obtain⟨fb0,fb1⟩:=kf2 hR.box
    have HR:=zH hR
    have hown:=hR.own
    unfold OwnL at hown
    have hsz:=hR.bel.size
    have hlt:=(gS hR.box)
    clear hR
    rcases hok.out.2 _ _ HR.out.at_ with⟨rfl,-⟩|⟨q,rfl,hq,hnm,z,hz,hzq,-⟩
    ·have hbs:pre.length<=n:=by have:=HR.out.sum;have:=HR.out.lo;rw[<-HN.out];omega
     have hfin:Hid (Tp.chain l (x,y)=pre++[id]):=zH (by
      rw[HR.out.all]
      obtain⟨g,rfl⟩:∃g,f=g+1:=⟨f-1,by have:=HR.out.lo;omega⟩
      unfold Tp.eS
      rw[HR.out.at_]
      rfl)
     go_wp2_with (first
      |(at_builtin;refine wpList_append_own _ rfl (.tmp 24) (.tmp 26) 47 rfl (w.heap.size+1) 40 i0 (.agg (m26)) 2 16 Tryz.underlying47 hi hz0 hz1 hz2 rfl (by decide) _ _ _ rfl (hown.alloc _) (m07 wr) 1 1 (idC id) rfl rfl (bE wr _ _ _ rfl) (aDv id) (by unfold maxLen;omega) (by omega) (by simp only[World.size_alloc];omega) ?_;intro v2 w2 hown2 hg2 _;have bel2:=OwnL.grown hown HR.out.bel (Nat.le_succ _) (by omega) hg2;have own2:OwnL idC 2 40 w2 (w.heap.size+1) v2 (pre++[id]):=OwnL.snoc hown2 rfl;have box2:=(bJ hg2 hlt (fK hown (Nat.lt_succ_self _))).trans HR.out.box;have hmap2:=xN HR.out.map hown hg2;have d0:w2.cell? (m07 w)=some (.int .u64 id.1):=cA box2 0;have d1:w2.cell? (m14 w)=some (.int .u64 id.2):=cA box2 1;have e0:=cH box2 0;have e1:=cH box2 1)
      |(at_lookup;refine cZ _ rfl _ _ _ false rfl fC Tryz.underlying75 (.int .i64 0) (dK _) mb m rfl hmap2 id rfl (m30 (-1)) (by rw[HR.out.at_];rfl) ?_))
     simp only[Exit.jump]
     go_ret
     exact⟨_,rfl,by rw[hfin.out];exact own2,bel2⟩
    ·have hbs:pre.length<=n:=by have:=HR.out.sum;have:=HR.out.lo;rw[<-HN.out];omega
     obtain⟨b,o,rfl,hblt,hB⟩:∃b o,a=some ⟨b,o,none⟩/\b<w.heap.size/\aAj w b (o+q*5) (Tp.gG l q):=by
      rcases HL.out with h0|⟨b,o,h,hlt,hc⟩
      ·omega
      ·exact⟨b,o,h,hlt,hc q hq⟩
     have hgen:Hid (Tp.chain l (x,y)=(pre++[id])++Tp.eS l m (f-1) ((Tp.gG l q).p,(Tp.gG l q).q)):=zH (by
      rw[HR.out.all]
      obtain⟨g,rfl⟩:∃g,f=g+1:=⟨f-1,by have:=HR.out.lo;omega⟩
      rw[List.append_assoc]
      congr 1
      rw[Tp.eS,HR.out.at_]
      simp only
      rw[if_neg (by omega),Int.toNat_natCast]
      rfl)
     obtain⟨⟨xs,xf,xp,xq,xt⟩,hX⟩:∃u,Tp.gG l q=u:=⟨_,rfl⟩
     rw[hX]at hB hz
     have HG:=zH (hX▸hgen.out)
     have hB2:=hB.below HR.out.bel hblt
     obtain⟨-,-,p2,p3,-⟩:=hB2
     simp only at p2 p3
     have q0:(0:Int)<=q:=by omega
     have q1:(q:Int)<n:=by have:=HN.out;omega
     have qn:((q:Int) != -1)=true:=bne_iff_ne.2 (by omega)
     have hLo:=HR.out.lo
     have hSum:=HR.out.sum
     have hbw:b<wr.heap.size:=Nat.lt_of_lt_of_le hblt hsz
     clear hB hgen hX hnm
     go_wp2_with (first
      |(at_builtin;refine wpList_append_own _ rfl (.tmp 24) (.tmp 26) 47 rfl (w.heap.size+1) 40 i0 (.agg (m26)) 2 16 Tryz.underlying47 hi hz0 hz1 hz2 rfl (by decide) _ _ _ rfl (hown.alloc _) (m07 wr) 1 1 (idC id) rfl rfl (bE wr _ _ _ rfl) (aDv id) (by unfold maxLen;omega) (by omega) (by simp only[World.size_alloc];omega) ?_;intro v2 w2 hown2 hg2 _;have bel2:=OwnL.grown hown HR.out.bel (Nat.le_succ _) (by omega) hg2;have own2:OwnL idC 2 40 w2 (w.heap.size+1) v2 (pre++[id]):=OwnL.snoc hown2 rfl;have box2:=(bJ hg2 hlt (fK hown (Nat.lt_succ_self _))).trans HR.out.box;have hmap2:=xN HR.out.map hown hg2;have d0:w2.cell? (m07 w)=some (.int .u64 id.1):=cA box2 0;have d1:w2.cell? (m14 w)=some (.int .u64 id.2):=cA box2 1;have e0:=cH box2 0;have e1:=cH box2 1;have g2:=(jO hown hg2 hbw hblt).trans p2;have g3:=(jO hown hg2 hbw hblt).trans p3)
      |(at_lookup;refine cZ _ rfl _ _ _ false rfl fC Tryz.underlying75 (.int .i64 0) (dK _) mb m rfl hmap2 id rfl (m30 q) (by rw[HR.out.at_];rfl) ?_))
     go_step3
     have ht:=set2 w2 w.heap.size _ _ (m68 xp) (m68 xq) _ box2
     have hz':Tp.at_ m (xp,xq)=some z:=hz
     refine⟨rfl,⟨mb,(xp,xq),z,pre++[id],f-1,v2,_,_,_,_,_,_,_,_,_,_,_,_,_,_,_,_,_,_,_,_,_,_,_,_,_,_,_,_,_,_,_,_,_,rfl,bel2.trans (ht.below nr),ht.new,hz',by omega,own2.turn ht (Nat.lt_succ_self _),HG.out,by rw[List.length_append];simp only[List.length_cons,List.length_nil];omega,hmap2.same (ht.block _ (by have:=HR.out.lt;omega)),HR.out.lt⟩,?_⟩
     have e1:=own2.len
     have e2:=OwnL.len HR.out.own
     rw[List.length_append]at e1
     show n+2-kK v2<n+2-kK v
     rw[e1,e2]
     simp only[List.length_cons,List.length_nil]
     omega
namespace Tp
section
variable {α:Type} [DecidableEq α]
def aF :List α->Nat->α->Int
 | [],_,_=>-1
 |y::r,k,x=>if x=y then k else aF r (k+1) x
theorem kU (l:List α):∀(k:Nat) (x:α),aF l k x≥0↔x∈l:=by
 induction l with
 |nil=>intro k x;simp[aF]
 |cons y r ih=>
  intro k x
  unfold aF
  by_cases h:x=y
  ·simp[h]
  ·rw[if_neg h,ih];simp[h]
def has (l:List α) (x:α):Bool:=decide (aF l 0 x≥0)
theorem fO (l:List α)(x:α):has l x=true↔x∈l:=by unfold has;rw[decide_eq_true_eq,kU]
theorem dP (l:List α)(k:Nat)(h:k<l.length)(x:α):aF (l.drop k) k x=if x=l[k]then(k:Int)else aF (l.drop (k+1)) (k+1) x:=by
 rw[List.drop_eq_getElem_cons h]
 rfl
end
end Tp
structure oR (w:World) (o:Obj) (wr:World):Prop where
 bel:Below w.heap.size w wr
 box:wr.heap[w.heap.size]?=some o
theorem oR.start (w:World)(o:Obj):oR w o (w.alloc o):=⟨(Below.refl _ _).alloc nr _,heap_alloc_new w o⟩
theorem oR.drewN {w wr:World}{o:Obj}(h:oR w o wr)(n:Nat):oR w o (wr.drewN n):=⟨h.bel.trans (cV _ _ _),h.box⟩
theorem iF (a:Option Addr)(n c:Nat)(l:List (Int×Int))(x0 x1:Int)(w:World)(h:SlV idC 2 w a n c l):
  Calls Tryz.prog 69 #[.slice a n c,.agg (m08 x0 x1)] w fun e w'=>e=.returned (m30 (Tp.aF l 0 (x0,x1)))/\Below w.heap.size w w':=by
 have hm:n<=9223372036854775807:=Nat.le_trans h.cap h.top
 have HH:=zH h
 have r0:=oR.start w (m40 x0 x1)
 clear h
 go_enter Tryz.func69,Tryz.ntmps69
 go_wp2_with fail
 go_loopw [8] (fun i wr=>∃j:Nat,j<=n/\i=.int .i64 j/\Tp.aF l 0 (x0,x1)=Tp.aF (l.drop j) j (x0,x1)/\oR w (m40 x0 x1) wr) (fun i _=>n-(intOf i).toNat)
 case atStart=>exact⟨0,Nat.zero_le _,rfl,rfl,r0⟩
 case round=>
  obtain⟨j,hj,rfl,hidx,hR⟩:=hrel
  obtain⟨cx0,cx1⟩:=kc2 hR.box
  have HI:=zH hidx
  have HR:=zH hR
  clear hR hidx r0
  by_cases hjn:j<n
  ·rcases HH.out.rows with h0|⟨b,o,rfl,hlt,hc⟩
   ·exact absurd HH.out.len (by omega)
   have hjl:j<l.length:=by rw[HH.out.len];exact hjn
   have hd:=Tp.dP l j hjl (x0,x1)
   obtain⟨⟨y0,y1⟩,hy⟩:∃y,l[j]=y:=⟨_,rfl⟩
   have cy0:wr.cell? (m09 b (o+j*2))=some (.int .u64 y0):=(HR.out.bel.cell (p:=(m09 b (o+j*2+0))) hlt).trans ((hc j hjl 0 (by omega)).trans (by rw[hy];rfl))
   have cy1:wr.cell? (m09 b (o+j*2+1))=some (.int .u64 y1):=(HR.out.bel.cell (p:=(m09 b (o+j*2+1))) hlt).trans ((hc j hjl 1 (by omega)).trans (by rw[hy];rfl))
   rw[hy]at hd
   have HD:=zH hd
   have j0:(0:Int)<=j:=by omega
   have j1:(j:Int)<n:=by omega
   clear hc hy hd
   by_cases e:(x0,x1)=(y0,y1)
   ·have he:=tX x0 x1 y0 y1
    rw[show(x0==y0&&x1==y1)=true from by simp only[Prod.mk.injEq]at e;simp[e.1,e.2]]at he
    have hres:Hid (Tp.aF l 0 (x0,x1)=j):=zH (by rw[HI.out,HD.out,if_pos e])
    clear e
    go_wp2
    go_quiet (fail)
    go_wp2
    go_ret
    exact⟨by rw[hres.out];rfl,(HR.out.drewN _).bel⟩
   ·have he:=tX x0 x1 y0 y1
    rw[show(x0==y0&&x1==y1)=false from by simp only[Prod.mk.injEq]at e;simpa using e]at he
    have hres:Hid (Tp.aF l 0 (x0,x1)=Tp.aF (l.drop (j+1)) (j+1) (x0,x1)):=zH (by rw[HI.out,HD.out,if_neg e])
    clear e
    go_wp2
    go_quiet (fail)
    go_wp2
    exact⟨⟨j+1,by omega,by go_num,hres.out,HR.out.drewN _⟩,by simp[intOf];omega⟩
  ·obtain rfl:j=n:=by omega
   have hres:Hid (Tp.aF l 0 (x0,x1)=-1):=zH (by rw[HI.out,List.drop_of_length_le (by rw[HH.out.len];exact Nat.le_refl _)];rfl)
   go_wp2
   go_ret
   exact⟨by rw[hres.out];rfl,HR.out.bel⟩
theorem jR (a:Option Addr)(n c:Nat)(l:List (Int×Int))(x0 x1:Int)(w:World)(h:SlV idC 2 w a n c l):
  Calls Tryz.prog 30 #[.slice a n c,.agg (m08 x0 x1)] w fun e w'=>e=.returned (.bool (Tp.has l (x0,x1)))/\Below w.heap.size w w':=by
 have HH:=zH (h.alloc (m40 x0 x1))
 have hb0:=zH ((Below.refl _ w).alloc nr (m40 x0 x1))
 have hge:decide (Tp.aF l 0 (x0,x1)≥0)=Tp.has l (x0,x1):=rfl
 obtain⟨i,hi⟩:∃i,Tp.aF l 0 (x0,x1)=i:=⟨_,rfl⟩
 rw[hi]at hge
 have HI:=zH hi
 obtain⟨t,ht⟩:∃t,Tp.has l (x0,x1)=t:=⟨_,rfl⟩
 rw[ht]at hge⊢
 clear hi ht h
 go_enter Tryz.func30,Tryz.ntmps30
 go_wp2_with (go_at_call 69;refine(iF a n c l x0 x1 _ HH.out).mono ?_;rintro e w' ⟨rfl,hb⟩;rw[HI.out];have bel:=hb0.out.trans (hb.mono (by simp)))
 go_ret
 exact⟨rfl,bel⟩
theorem rG (a:Option Addr)(n c:Nat)(l:List Tp.V)(x0 x1 x2 x3:Int)(w:World)(h:SlV aH 4 w a n c l):
  Calls Tryz.prog 88 #[.slice a n c,.agg (m12 x0 x1 x2 x3)] w fun e w'=>e=.returned (m30 (Tp.aF l 0 (Tp.V.mk x0 x1 x2 x3)))/\Below w.heap.size w w':=by
 have hm:n<=9223372036854775807:=Nat.le_trans h.cap h.top
 have HH:=zH h
 have r0:=oR.start w (.cells (m12 x0 x1 x2 x3) 84)
 clear h
 go_enter Tryz.func88,Tryz.ntmps88
 go_wp2_with fail
 go_loopw [8] (fun i wr=>∃j:Nat,j<=n/\i=.int .i64 j/\Tp.aF l 0 (Tp.V.mk x0 x1 x2 x3)=Tp.aF (l.drop j) j (Tp.V.mk x0 x1 x2 x3)/\oR w (.cells (m12 x0 x1 x2 x3) 84) wr) (fun i _=>n-(intOf i).toNat)
 case atStart=>exact⟨0,Nat.zero_le _,rfl,rfl,r0⟩
 case round=>
  obtain⟨j,hj,rfl,hidx,hR⟩:=hrel
  obtain⟨cx0,cx1,cx2,cx3⟩:=kc4 hR.box
  have HI:=zH hidx
  have HR:=zH hR
  clear hR hidx r0
  by_cases hjn:j<n
  ·rcases HH.out.rows with h0|⟨b,o,rfl,hlt,hc⟩
   ·exact absurd HH.out.len (by omega)
   have hjl:j<l.length:=by rw[HH.out.len];exact hjn
   have hd:=Tp.dP l j hjl (Tp.V.mk x0 x1 x2 x3)
   obtain⟨⟨y0,y1,y2,y3⟩,hy⟩:∃y,l[j]=y:=⟨_,rfl⟩
   have cy0:wr.cell? (m09 b (o+j*4))=some (.int .i64 y0):=(HR.out.bel.cell (p:=(m09 b (o+j*4+0))) hlt).trans ((hc j hjl 0 (by omega)).trans (by rw[hy];rfl))
   have cy1:wr.cell? (m09 b (o+j*4+1))=some (.int .i64 y1):=(HR.out.bel.cell (p:=(m09 b (o+j*4+1))) hlt).trans ((hc j hjl 1 (by omega)).trans (by rw[hy];rfl))
   have cy2:wr.cell? (m09 b (o+j*4+2))=some (.int .u64 y2):=(HR.out.bel.cell (p:=(m09 b (o+j*4+2))) hlt).trans ((hc j hjl 2 (by omega)).trans (by rw[hy];rfl))
   have cy3:wr.cell? (m09 b (o+j*4+3))=some (.int .u64 y3):=(HR.out.bel.cell (p:=(m09 b (o+j*4+3))) hlt).trans ((hc j hjl 3 (by omega)).trans (by rw[hy];rfl))
   rw[hy]at hd
   have HD:=zH hd
   have j0:(0:Int)<=j:=by omega
   have j1:(j:Int)<n:=by omega
   clear hc hy hd
   by_cases e:(Tp.V.mk x0 x1 x2 x3)=(Tp.V.mk y0 y1 y2 y3)
   ·have he:=eqV ⟨x0,x1,x2,x3⟩ ⟨y0,y1,y2,y3⟩
    rw[decide_eq_true e]at he
    simp only[kE]at he
    have hres:Hid (Tp.aF l 0 (Tp.V.mk x0 x1 x2 x3)=j):=zH (by rw[HI.out,HD.out,if_pos e])
    clear e
    go_wp2
    go_quiet (fail)
    go_wp2
    go_ret
    exact⟨by rw[hres.out];rfl,(HR.out.drewN _).bel⟩
   ·have he:=eqV ⟨x0,x1,x2,x3⟩ ⟨y0,y1,y2,y3⟩
    rw[decide_eq_false e]at he
    simp only[kE]at he
    have hres:Hid (Tp.aF l 0 (Tp.V.mk x0 x1 x2 x3)=Tp.aF (l.drop (j+1)) (j+1) (Tp.V.mk x0 x1 x2 x3)):=zH (by rw[HI.out,HD.out,if_neg e])
    clear e
    go_wp2
    go_quiet (fail)
    go_wp2
    exact⟨⟨j+1,by omega,by go_num,hres.out,HR.out.drewN _⟩,by simp[intOf];omega⟩
  ·obtain rfl:j=n:=by omega
   have hres:Hid (Tp.aF l 0 (Tp.V.mk x0 x1 x2 x3)=-1):=zH (by rw[HI.out,List.drop_of_length_le (by rw[HH.out.len];exact Nat.le_refl _)];rfl)
   go_wp2
   go_ret
   exact⟨by rw[hres.out];rfl,HR.out.bel⟩
theorem fD (a:Option Addr)(n c:Nat)(l:List Tp.V)(x0 x1 x2 x3:Int)(w:World)(h:SlV aH 4 w a n c l):
  Calls Tryz.prog 59 #[.slice a n c,.agg (m12 x0 x1 x2 x3)] w fun e w'=>e=.returned (.bool (Tp.has l (Tp.V.mk x0 x1 x2 x3)))/\Below w.heap.size w w':=by
 have HH:=zH (h.alloc (.cells (m12 x0 x1 x2 x3) 84))
 have hb0:=zH ((Below.refl _ w).alloc nr (.cells (m12 x0 x1 x2 x3) 84))
 have hge:decide (Tp.aF l 0 (Tp.V.mk x0 x1 x2 x3)≥0)=Tp.has l (Tp.V.mk x0 x1 x2 x3):=rfl
 obtain⟨i,hi⟩:∃i,Tp.aF l 0 (Tp.V.mk x0 x1 x2 x3)=i:=⟨_,rfl⟩
 rw[hi]at hge
 have HI:=zH hi
 obtain⟨t,ht⟩:∃t,Tp.has l (Tp.V.mk x0 x1 x2 x3)=t:=⟨_,rfl⟩
 rw[ht]at hge⊢
 clear hi ht h
 go_enter Tryz.func59,Tryz.ntmps59
 go_wp2_with (go_at_call 88;refine(rG a n c l x0 x1 x2 x3 _ HH.out).mono ?_;rintro e w' ⟨rfl,hb⟩;rw[HI.out];have bel:=hb0.out.trans (hb.mono (by simp)))
 go_ret
 exact⟨rfl,bel⟩
theorem oU (a:Option Addr)(n c:Nat)(l:List Tp.B)(x0 x1 x2 x3 x4:Int)(w:World)(h:SlV aK 5 w a n c l):
  Calls Tryz.prog 87 #[.slice a n c,.agg (m11 x0 x1 x2 x3 x4)] w fun e w'=>e=.returned (m30 (Tp.aF l 0 (Tp.B.mk x0 x1 x2 x3 x4)))/\Below w.heap.size w w':=by
 have hm:n<=9223372036854775807:=Nat.le_trans h.cap h.top
 have HH:=zH h
 have r0:=oR.start w (.cells (m11 x0 x1 x2 x3 x4) 56)
 clear h
 go_enter Tryz.func87,Tryz.ntmps87
 go_wp2_with fail
 go_loopw [8] (fun i wr=>∃j:Nat,j<=n/\i=.int .i64 j/\Tp.aF l 0 (Tp.B.mk x0 x1 x2 x3 x4)=Tp.aF (l.drop j) j (Tp.B.mk x0 x1 x2 x3 x4)/\oR w (.cells (m11 x0 x1 x2 x3 x4) 56) wr) (fun i _=>n-(intOf i).toNat)
 case atStart=>exact⟨0,Nat.zero_le _,rfl,rfl,r0⟩
 case round=>
  obtain⟨j,hj,rfl,hidx,hR⟩:=hrel
  obtain⟨cx0,cx1,cx2,cx3,cx4⟩:=kc5 hR.box
  have HI:=zH hidx
  have HR:=zH hR
  clear hR hidx r0
  by_cases hjn:j<n
  ·rcases HH.out.rows with h0|⟨b,o,rfl,hlt,hc⟩
   ·exact absurd HH.out.len (by omega)
   have hjl:j<l.length:=by rw[HH.out.len];exact hjn
   have hd:=Tp.dP l j hjl (Tp.B.mk x0 x1 x2 x3 x4)
   obtain⟨⟨y0,y1,y2,y3,y4⟩,hy⟩:∃y,l[j]=y:=⟨_,rfl⟩
   have cy0:wr.cell? (m09 b (o+j*5))=some (.int .i64 y0):=(HR.out.bel.cell (p:=(m09 b (o+j*5+0))) hlt).trans ((hc j hjl 0 (by omega)).trans (by rw[hy];rfl))
   have cy1:wr.cell? (m09 b (o+j*5+1))=some (.int .i64 y1):=(HR.out.bel.cell (p:=(m09 b (o+j*5+1))) hlt).trans ((hc j hjl 1 (by omega)).trans (by rw[hy];rfl))
   have cy2:wr.cell? (m09 b (o+j*5+2))=some (.int .u64 y2):=(HR.out.bel.cell (p:=(m09 b (o+j*5+2))) hlt).trans ((hc j hjl 2 (by omega)).trans (by rw[hy];rfl))
   have cy3:wr.cell? (m09 b (o+j*5+3))=some (.int .u64 y3):=(HR.out.bel.cell (p:=(m09 b (o+j*5+3))) hlt).trans ((hc j hjl 3 (by omega)).trans (by rw[hy];rfl))
   have cy4:wr.cell? (m09 b (o+j*5+4))=some (.int .u64 y4):=(HR.out.bel.cell (p:=(m09 b (o+j*5+4))) hlt).trans ((hc j hjl 4 (by omega)).trans (by rw[hy];rfl))
   rw[hy]at hd
   have HD:=zH hd
   have j0:(0:Int)<=j:=by omega
   have j1:(j:Int)<n:=by omega
   clear hc hy hd
   by_cases e:(Tp.B.mk x0 x1 x2 x3 x4)=(Tp.B.mk y0 y1 y2 y3 y4)
   ·have he:=eqB ⟨x0,x1,x2,x3,x4⟩ ⟨y0,y1,y2,y3,y4⟩
    rw[decide_eq_true e]at he
    simp only[qD]at he
    have hres:Hid (Tp.aF l 0 (Tp.B.mk x0 x1 x2 x3 x4)=j):=zH (by rw[HI.out,HD.out,if_pos e])
    clear e
    go_wp2
    go_quiet (fail)
    go_wp2
    go_ret
    exact⟨by rw[hres.out];rfl,(HR.out.drewN _).bel⟩
   ·have he:=eqB ⟨x0,x1,x2,x3,x4⟩ ⟨y0,y1,y2,y3,y4⟩
    rw[decide_eq_false e]at he
    simp only[qD]at he
    have hres:Hid (Tp.aF l 0 (Tp.B.mk x0 x1 x2 x3 x4)=Tp.aF (l.drop (j+1)) (j+1) (Tp.B.mk x0 x1 x2 x3 x4)):=zH (by rw[HI.out,HD.out,if_neg e])
    clear e
    go_wp2
    go_quiet (fail)
    go_wp2
    exact⟨⟨j+1,by omega,by go_num,hres.out,HR.out.drewN _⟩,by simp[intOf];omega⟩
  ·obtain rfl:j=n:=by omega
   have hres:Hid (Tp.aF l 0 (Tp.B.mk x0 x1 x2 x3 x4)=-1):=zH (by rw[HI.out,List.drop_of_length_le (by rw[HH.out.len];exact Nat.le_refl _)];rfl)
   go_wp2
   go_ret
   exact⟨by rw[hres.out];rfl,HR.out.bel⟩
theorem eR (a:Option Addr)(n c:Nat)(l:List Tp.B)(x0 x1 x2 x3 x4:Int)(w:World)(h:SlV aK 5 w a n c l):
  Calls Tryz.prog 56 #[.slice a n c,.agg (m11 x0 x1 x2 x3 x4)] w fun e w'=>e=.returned (.bool (Tp.has l (Tp.B.mk x0 x1 x2 x3 x4)))/\Below w.heap.size w w':=by
 have HH:=zH (h.alloc (.cells (m11 x0 x1 x2 x3 x4) 56))
 have hb0:=zH ((Below.refl _ w).alloc nr (.cells (m11 x0 x1 x2 x3 x4) 56))
 have hge:decide (Tp.aF l 0 (Tp.B.mk x0 x1 x2 x3 x4)≥0)=Tp.has l (Tp.B.mk x0 x1 x2 x3 x4):=rfl
 obtain⟨i,hi⟩:∃i,Tp.aF l 0 (Tp.B.mk x0 x1 x2 x3 x4)=i:=⟨_,rfl⟩
 rw[hi]at hge
 have HI:=zH hi
 obtain⟨t,ht⟩:∃t,Tp.has l (Tp.B.mk x0 x1 x2 x3 x4)=t:=⟨_,rfl⟩
 rw[ht]at hge⊢
 clear hi ht h
 go_enter Tryz.func56,Tryz.ntmps56
 go_wp2_with (go_at_call 87;refine(oU a n c l x0 x1 x2 x3 x4 _ HH.out).mono ?_;rintro e w' ⟨rfl,hb⟩;rw[HI.out];have bel:=hb0.out.trans (hb.mono (by simp)))
 go_ret
 exact⟨rfl,bel⟩
theorem Rws.flat {α:Type}{f:α->List Value}{k:Nat}(hk:∀x,(f x).length=k)(h0:0<k){w:World}{b o:Nat}{l:List α}(h:∀i (hi:i<l.length) j,j<k->w.cell? (m09 b (o+i*k+j))=(f l[i])[j]?):
  ∀(j:Nat) u,(l.flatMap f)[j]?=some u->w.cell? (((m09 b o):Addr).add j)=some u:=by
 intro j u hj
 have hlt:j<l.length*k:=by rw[<-bR hk l];exact(List.getElem?_eq_some_iff.1 hj).1
 have hi:j/k<l.length:=Nat.div_lt_of_lt_mul (by rw[Nat.mul_comm];exact hlt)
 have hr:j%k<k:=Nat.mod_lt _ h0
 have e:j/k*k+j%k=j:=by rw[Nat.mul_comm];exact Nat.div_add_mod j k
 have h1:=dZ hk l (j/k) (j%k) hi hr
 rw[e,hj]at h1
 have e2:((m09 b o):Addr).add j=(m09 b (o+j)):=by unfold Addr.add;split<;>simp_all
 rw[e2,show o+j=o+j/k*k+j%k by omega,h (j/k) hi (j%k) hr,<-h1]
theorem eV {α:Type}{f:α->List Value}(h:∀x,∀u∈f x,u.oneCell'=true)(l:List α):∀u∈l.flatMap f,u.oneCell'=true:=by
 intro u hu
 obtain⟨x,_,hx⟩:=List.mem_flatMap.1 hu
 exact h x u hx
theorem Rws.cells {α:Type}{f:α->List Value}{k:Nat}{w:World}{b o:Nat}{l:List α}(h:Rws f k w (some ⟨b,o,none⟩) l):∀i (hi:i<l.length) j,j<k->w.cell? (m09 b (o+i*k+j))=(f l[i])[j]?:=by
 intro i hi j hj
 rcases h with h0|⟨b',o',he,_,hc⟩
 ·omega
 ·cases he
  exact hc i hi j hj
theorem Rws.addr {α:Type}{f:α->List Value}{k:Nat}{w:World}{a:Addr}{l:List α}(h:Rws f k w (some a) l)(h0:0<l.length):∃b o,a=(m09 b o):=by
 rcases h with h1|⟨b',o',he,_,_⟩
 ·omega
 ·exact⟨b',o',by injection he⟩
theorem Rws.ints {w:World}{a:Option Addr}{l:List Int}(h:Rws intC 1 w a l):Ints w a l:=by
 rcases h with h0|⟨b,o,rfl,hlt,hc⟩
 ·exact .inl h0
 ·refine .inr ⟨b,o,rfl,hlt,fun i hi=>?_⟩
  have:=hc i hi 0 (by omega)
  rw[Nat.mul_one,Nat.add_zero]at this
  rw[this]
  simp[intC,Mx.nth,List.getElem?_eq_getElem hi]
theorem eZ (a:Option Addr)(n c:Nat)(l:List Int)(w:World)(h:SlV intC 1 w a n c l)(hm:n<=1000000)(h0:a=none->n=0/\c=0):
  Calls Tryz.prog 22 #[.slice a n c] w fun e w'=>∃v,e=.returned v/\OwnL intC 1 3 w' w.heap.size v l/\Below w.heap.size w w':=by
 obtain⟨i0,hi,hz0,hz1,hz2⟩:=info_parts nW
 have qn (W:World) (a:Option Addr) (n c n' c':Nat):=Lib.run_eql_slice_nil (P:=Tryz.prog) W 22 3 a n c n' c' Tryz.underlying22
 cases a with
 |none=>
  obtain⟨rfl,rfl⟩:=h0 rfl
  obtain rfl:l=[]:=List.length_eq_zero_iff.1 h.len
  go_enter Tryz.func22,Tryz.ntmps22
  go_wp2
  go_ret
  exact⟨_,rfl,OwnL.nil _ _ _ _ _,Below.refl _ _⟩
 |some ad=>
  have hnews:∀(j:Nat) u,(l.flatMap intC)[j]?=some u->(w.alloc (.cells #[] 3)).cell? (ad.add j)=some u:=by
   intro j u hj
   rcases Nat.eq_zero_or_pos l.length with e|e
   ·obtain rfl:l=[]:=List.length_eq_zero_iff.1 e
    simp at hj
   ·have h2:=(h.alloc (.cells #[] 3)).rows
    obtain⟨b,o,rfl⟩:=h2.addr e
    exact Rws.flat dQ (by decide) h2.cells j u hj
  have hlen:=bR dQ l
  rw[h.len]at hlen
  have HL:=zH h.len
  clear h h0
  have hown:(w.alloc (.cells #[] 3)).ownsRow w.heap.size 3 1 (.slice (some (m07 w)) 0 0) 0 []:=World.ownsRow_made w #[] 0 nr (by unfold maxLen;omega) rfl
  have bel0:Below w.heap.size w (w.alloc (.cells #[] 3)):=(Below.refl _ w).alloc nr _
  go_enter Tryz.func22,Tryz.ntmps22
  go_wp2_with (first
   |(at_builtin;refine wpList_append_own _ rfl (.tmp 5) (.tmp 6) 22 rfl w.heap.size 3 i0 (.int .i64 0) 1 8 Tryz.underlying22 hi hz0 hz1 hz2 rfl (by decide) _ _ _ rfl hown ad n c (l.flatMap intC) rfl hlen hnews (eV rE l) (by unfold maxLen;omega) (by omega) (by simp) ?_;intro v2 w2 hown2 hg2 _;have bel2:=bel0.grown hg2 (by simp) (fun k hk=>(hown.lt k hk).1);have own2:OwnL intC 1 3 w2 w.heap.size v2 l:=(by unfold OwnL;rw[HL.out];rw[Nat.zero_add,List.nil_append]at hown2;exact hown2)))
  go_ret
  exact⟨_,rfl,own2,bel2⟩
theorem fG (a:Option Addr)(n c:Nat)(l:List Tp.V)(w:World)(h:SlV aH 4 w a n c l)(hm:n<=1000000)(h0:a=none->n=0/\c=0):
  Calls Tryz.prog 82 #[.slice a n c] w fun e w'=>∃v,e=.returned v/\OwnL aH 4 84 w' w.heap.size v l/\Below w.heap.size w w':=by
 obtain⟨i0,hi,hz0,hz1,hz2⟩:=info_parts jI
 have qn (W:World) (a:Option Addr) (n c n' c':Nat):=Lib.run_eql_slice_nil (P:=Tryz.prog) W 36 84 a n c n' c' Tryz.underlying36
 cases a with
 |none=>
  obtain⟨rfl,rfl⟩:=h0 rfl
  obtain rfl:l=[]:=List.length_eq_zero_iff.1 h.len
  go_enter Tryz.func82,Tryz.ntmps82
  go_wp2
  go_ret
  exact⟨_,rfl,OwnL.nil _ _ _ _ _,Below.refl _ _⟩
 |some ad=>
  have hnews:∀(j:Nat) u,(l.flatMap aH)[j]?=some u->(w.alloc (.cells #[] 84)).cell? (ad.add j)=some u:=by
   intro j u hj
   rcases Nat.eq_zero_or_pos l.length with e|e
   ·obtain rfl:l=[]:=List.length_eq_zero_iff.1 e
    simp at hj
   ·have h2:=(h.alloc (.cells #[] 84)).rows
    obtain⟨b,o,rfl⟩:=h2.addr e
    exact Rws.flat cW (by decide) h2.cells j u hj
  have hlen:=bR cW l
  rw[h.len]at hlen
  have HL:=zH h.len
  clear h h0
  have hown:(w.alloc (.cells #[] 84)).ownsRow w.heap.size 84 4 (.slice (some (m07 w)) 0 0) 0 []:=World.ownsRow_made w #[] 0 nr (by unfold maxLen;omega) rfl
  have bel0:Below w.heap.size w (w.alloc (.cells #[] 84)):=(Below.refl _ w).alloc nr _
  go_enter Tryz.func82,Tryz.ntmps82
  go_wp2_with (first
   |(at_builtin;refine wpList_append_own _ rfl (.tmp 5) (.tmp 6) 36 rfl w.heap.size 84 i0 (.agg (m58)) 4 32 Tryz.underlying36 hi hz0 hz1 hz2 rfl (by decide) _ _ _ rfl hown ad n c (l.flatMap aH) rfl hlen hnews (eV gY l) (by unfold maxLen;omega) (by omega) (by simp) ?_;intro v2 w2 hown2 hg2 _;have bel2:=bel0.grown hg2 (by simp) (fun k hk=>(hown.lt k hk).1);have own2:OwnL aH 4 84 w2 w.heap.size v2 l:=(by unfold OwnL;rw[HL.out];rw[Nat.zero_add,List.nil_append]at hown2;exact hown2)))
  go_ret
  exact⟨_,rfl,own2,bel2⟩
theorem eW (a:Option Addr)(n c:Nat)(l:List Tp.B)(w:World)(h:SlV aK 5 w a n c l)(hm:n<=1000000)(h0:a=none->n=0/\c=0):
  Calls Tryz.prog 81 #[.slice a n c] w fun e w'=>∃v,e=.returned v/\OwnL aK 5 56 w' w.heap.size v l/\Below w.heap.size w w':=by
 obtain⟨i0,hi,hz0,hz1,hz2⟩:=info_parts iW
 have qn (W:World) (a:Option Addr) (n c n' c':Nat):=Lib.run_eql_slice_nil (P:=Tryz.prog) W 35 56 a n c n' c' Tryz.underlying35
 cases a with
 |none=>
  obtain⟨rfl,rfl⟩:=h0 rfl
  obtain rfl:l=[]:=List.length_eq_zero_iff.1 h.len
  go_enter Tryz.func81,Tryz.ntmps81
  go_wp2
  go_ret
  exact⟨_,rfl,OwnL.nil _ _ _ _ _,Below.refl _ _⟩
 |some ad=>
  have hnews:∀(j:Nat) u,(l.flatMap aK)[j]?=some u->(w.alloc (.cells #[] 56)).cell? (ad.add j)=some u:=by
   intro j u hj
   rcases Nat.eq_zero_or_pos l.length with e|e
   ·obtain rfl:l=[]:=List.length_eq_zero_iff.1 e
    simp at hj
   ·have h2:=(h.alloc (.cells #[] 56)).rows
    obtain⟨b,o,rfl⟩:=h2.addr e
    exact Rws.flat cY (by decide) h2.cells j u hj
  have hlen:=bR cY l
  rw[h.len]at hlen
  have HL:=zH h.len
  clear h h0
  have hown:(w.alloc (.cells #[] 56)).ownsRow w.heap.size 56 5 (.slice (some (m07 w)) 0 0) 0 []:=World.ownsRow_made w #[] 0 nr (by unfold maxLen;omega) rfl
  have bel0:Below w.heap.size w (w.alloc (.cells #[] 56)):=(Below.refl _ w).alloc nr _
  go_enter Tryz.func81,Tryz.ntmps81
  go_wp2_with (first
   |(at_builtin;refine wpList_append_own _ rfl (.tmp 5) (.tmp 6) 35 rfl w.heap.size 56 i0 (.agg (m53)) 5 40 Tryz.underlying35 hi hz0 hz1 hz2 rfl (by decide) _ _ _ rfl hown ad n c (l.flatMap aK) rfl hlen hnews (eV jB l) (by unfold maxLen;omega) (by omega) (by simp) ?_;intro v2 w2 hown2 hg2 _;have bel2:=bel0.grown hg2 (by simp) (fun k hk=>(hown.lt k hk).1);have own2:OwnL aK 5 56 w2 w.heap.size v2 l:=(by unfold OwnL;rw[HL.out];rw[Nat.zero_add,List.nil_append]at hown2;exact hown2)))
  go_ret
  exact⟨_,rfl,own2,bel2⟩
theorem tK (a:Option Addr)(n c:Nat)(l:List Int)(x:Int)(w:World)(h:SlV intC 1 w a n c l):
  Calls Tryz.prog 44 #[.slice a n c,.int .i64 x] w fun e w'=>e=.returned (m30 (Tp.aF l 0 x))/\w=w':=by
 have hm:n<=9223372036854775807:=Nat.le_trans h.cap h.top
 have HH:=zH h
 clear h
 go_enter Tryz.func44,Tryz.ntmps44
 go_wp2_with fail
 go_loop [8] (fun i=>∃j:Nat,j<=n/\i=.int .i64 j/\Tp.aF l 0 x=Tp.aF (l.drop j) j x) (fun i=>n-(intOf i).toNat)
 case atStart=>exact⟨0,Nat.zero_le _,rfl,rfl⟩
 case round=>
  obtain⟨j,hj,rfl,hidx⟩:=hrel
  have HI:=zH hidx
  clear hidx
  by_cases hjn:j<n
  ·rcases HH.out.rows with h0|⟨b,o,rfl,hlt,hc⟩
   ·exact absurd HH.out.len (by omega)
   have hjl:j<l.length:=by rw[HH.out.len];exact hjn
   have hd:=Tp.dP l j hjl x
   obtain⟨y,hy⟩:∃y,l[j]=y:=⟨_,rfl⟩
   have cy:w.cell? (m09 b (o+j))=some (.int .i64 y):=by
    have:=hc j hjl 0 (by omega)
    rw[Nat.mul_one,Nat.add_zero,hy]at this
    exact this
   rw[hy]at hd
   have HD:=zH hd
   have j0:(0:Int)<=j:=by omega
   have j1:(j:Int)<n:=by omega
   clear hc hy hd
   by_cases e:x=y
   ·have he:(x==y)=true:=beq_iff_eq.2 e
    have hres:Hid (Tp.aF l 0 x=j):=zH (by rw[HI.out,HD.out,if_pos e])
    clear e
    go_wp2
    go_ret
    exact⟨by rw[hres.out];rfl,rfl⟩
   ·have he:(x==y)=false:=beq_eq_false_iff_ne.2 e
    have hres:Hid (Tp.aF l 0 x=Tp.aF (l.drop (j+1)) (j+1) x):=zH (by rw[HI.out,HD.out,if_neg e])
    clear e
    go_wp2
    exact⟨⟨j+1,by omega,by go_num,hres.out⟩,by simp[intOf];omega⟩
  ·obtain rfl:j=n:=by omega
   have hres:Hid (Tp.aF l 0 x=-1):=zH (by rw[HI.out,List.drop_of_length_le (by rw[HH.out.len];exact Nat.le_refl _)];rfl)
   go_wp2
   go_ret
   exact⟨by rw[hres.out];rfl,rfl⟩
theorem bW (a:Option Addr)(n c:Nat)(l:List Int)(x:Int)(w:World)(h:SlV intC 1 w a n c l):
  Calls Tryz.prog 24 #[.slice a n c,.int .i64 x] w fun e w'=>e=.returned (.bool (Tp.has l x))/\w=w':=by
 have HH:=zH h
 have hge:decide (Tp.aF l 0 x≥0)=Tp.has l x:=rfl
 obtain⟨i,hi⟩:∃i,Tp.aF l 0 x=i:=⟨_,rfl⟩
 rw[hi]at hge
 have HI:=zH hi
 obtain⟨t,ht⟩:∃t,Tp.has l x=t:=⟨_,rfl⟩
 rw[ht]at hge⊢
 clear hi ht h
 go_enter Tryz.func24,Tryz.ntmps24
 go_wp2_with (go_at_call 44;refine(tK a n c l x _ HH.out).mono ?_;rintro e w' ⟨rfl,rfl⟩;rw[HI.out])
 go_ret
 exact⟨rfl,rfl⟩
theorem oV (a:Option Addr)(n c:Nat)(l:List Int)(x:Int)(w:World)(h:SlV intC 1 w a n c l):
  Calls Tryz.prog 143 #[.slice a n c,.int .i64 x] w fun e w'=>e=.returned (m30 (Tp.aF l 0 x))/\w=w':=by
 have hm:n<=9223372036854775807:=Nat.le_trans h.cap h.top
 have HH:=zH h
 clear h
 go_enter Tryz.func143,Tryz.ntmps143
 go_wp2_with fail
 go_loop [8] (fun i=>∃j:Nat,j<=n/\i=.int .i64 j/\Tp.aF l 0 x=Tp.aF (l.drop j) j x) (fun i=>n-(intOf i).toNat)
 case atStart=>exact⟨0,Nat.zero_le _,rfl,rfl⟩
 case round=>
  obtain⟨j,hj,rfl,hidx⟩:=hrel
  have HI:=zH hidx
  clear hidx
  by_cases hjn:j<n
  ·rcases HH.out.rows with h0|⟨b,o,rfl,hlt,hc⟩
   ·exact absurd HH.out.len (by omega)
   have hjl:j<l.length:=by rw[HH.out.len];exact hjn
   have hd:=Tp.dP l j hjl x
   obtain⟨y,hy⟩:∃y,l[j]=y:=⟨_,rfl⟩
   have cy:w.cell? (m09 b (o+j))=some (.int .i64 y):=by
    have:=hc j hjl 0 (by omega)
    rw[Nat.mul_one,Nat.add_zero,hy]at this
    exact this
   rw[hy]at hd
   have HD:=zH hd
   have j0:(0:Int)<=j:=by omega
   have j1:(j:Int)<n:=by omega
   clear hc hy hd
   by_cases e:x=y
   ·have he:(x==y)=true:=beq_iff_eq.2 e
    have hres:Hid (Tp.aF l 0 x=j):=zH (by rw[HI.out,HD.out,if_pos e])
    clear e
    go_wp2
    go_ret
    exact⟨by rw[hres.out];rfl,rfl⟩
   ·have he:(x==y)=false:=beq_eq_false_iff_ne.2 e
    have hres:Hid (Tp.aF l 0 x=Tp.aF (l.drop (j+1)) (j+1) x):=zH (by rw[HI.out,HD.out,if_neg e])
    clear e
    go_wp2
    exact⟨⟨j+1,by omega,by go_num,hres.out⟩,by simp[intOf];omega⟩
  ·obtain rfl:j=n:=by omega
   have hres:Hid (Tp.aF l 0 x=-1):=zH (by rw[HI.out,List.drop_of_length_le (by rw[HH.out.len];exact Nat.le_refl _)];rfl)
   go_wp2
   go_ret
   exact⟨by rw[hres.out];rfl,rfl⟩
theorem lN (a:Option Addr)(n c:Nat)(l:List Int)(x:Int)(w:World)(h:SlV intC 1 w a n c l):
  Calls Tryz.prog 121 #[.slice a n c,.int .i64 x] w fun e w'=>e=.returned (.bool (Tp.has l x))/\w=w':=by
 have HH:=zH h
 have hge:decide (Tp.aF l 0 x≥0)=Tp.has l x:=rfl
 obtain⟨i,hi⟩:∃i,Tp.aF l 0 x=i:=⟨_,rfl⟩
 rw[hi]at hge
 have HI:=zH hi
 obtain⟨t,ht⟩:∃t,Tp.has l x=t:=⟨_,rfl⟩
 rw[ht]at hge⊢
 clear hi ht h
 go_enter Tryz.func121,Tryz.ntmps121
 go_wp2_with (go_at_call 143;refine(oV a n c l x _ HH.out).mono ?_;rintro e w' ⟨rfl,rfl⟩;rw[HI.out])
 go_ret
 exact⟨rfl,rfl⟩
def Tp.sI (l:List Tp.B) (low id:Int×Int):Bool:=Tp.has (Tp.chain l id) low
theorem below_step {w0 w w':World}(h:Below w0.heap.size w0 w)(hb:Below w.heap.size w w'):Below w0.heap.size w0 w':=h.trans (hb.mono h.size)
theorem bX {w0 w:World}(h:Below w0.heap.size w0 w)(o:Obj):Below w0.heap.size w0 (w.alloc o):=h.alloc h.size o
theorem aMg {N:Nat}{x0 x1 x2 x3:Value}{w w':World}(h:w.cell? (m00 N)=some x0/\w.cell? (m15 N)=some x1/\w.cell? (m66 N)=some x2/\w.cell? ⟨N+1,1,none⟩=some x3/\N+1<w.heap.size)(hb:Below w.heap.size w w'):
  w'.cell? (m00 N)=some x0/\w'.cell? (m15 N)=some x1/\w'.cell? (m66 N)=some x2/\w'.cell? ⟨N+1,1,none⟩=some x3/\N+1<w'.heap.size:=by
 obtain⟨h0,h1,h2,h3,h4⟩:=h
 have hs:=hb.size
 exact⟨(hb.cell (p:=(m00 N)) (show N<_ by omega)).trans h0,(hb.cell (p:=(m15 N)) (show N<_ by omega)).trans h1,(hb.cell (p:=(m66 N)) h4).trans h2,(hb.cell (p:=⟨N+1,1,none⟩) h4).trans h3,by omega⟩
theorem mX (a:Option Addr)(n c:Nat)(l:List Tp.B)(x0 x1 y0 y1:Int)(w:World)(hn:l.length=n)(hm:n<=1000000)(hU:∀x∈l,x.U)(hl:Blks w a l):
  Calls Tryz.prog 10 #[.slice a n c,.agg (m08 x0 x1),.agg (m08 y0 y1)] w fun e w'=>e=.returned (.bool (Tp.sI l (x0,x1) (y0,y1)))/\Below w.heap.size w w':=by
 obtain⟨W,eW_⟩:∃z,Hid (z=((w.alloc (m40 x0 x1)).alloc (m40 y0 y1))):=⟨_,zH rfl⟩
 have hb0:Below w.heap.size w W:=by cases eW_.out;exact bX ((Below.refl _ w).alloc nr _) _
 have g0:W.heap[w.heap.size]?=some (.cells (m08 x0 x1) 40 (0,0)):=by
  cases eW_.out
  rw[cF,if_neg (by simp),cF,if_pos rfl]
 have g1:W.heap[w.heap.size+1]?=some (.cells (m08 y0 y1) 40 (0,0)):=by
  cases eW_.out
  rw[cF,if_pos (by simp)]
 have hs0:w.heap.size+1<W.heap.size:=by cases eW_.out;simp
 go_enter Tryz.func10,Tryz.ntmps10
 go_wp2_with fail
 rw[<-eW_.out]
 obtain⟨z0,z1⟩:=kc2 g0
 obtain⟨z2,z3⟩:=kc2 g1
 have hS0:W.drew.cell? (m07 w)=some (.int .u64 x0)/\W.drew.cell? (m14 w)=some (.int .u64 x1)/\W.drew.cell? (m22 w)=some (.int .u64 y0)/\W.drew.cell? (m29 w)=some (.int .u64 y1)/\w.heap.size+1<W.drew.heap.size:=⟨z0,z1,z2,z3,hs0⟩
 have hbD:Below w.heap.size w W.drew:=hb0.drew
 have hlD:Blks W.drew a l:=hl.keep hbD
 go_region_held3 (fun w'=>w'.cell? (m07 w)=some (.int .u64 x0)/\w'.cell? (m14 w)=some (.int .u64 x1)/\w'.cell? (m22 w)=some (.int .u64 y0)/\w'.cell? (m29 w)=some (.int .u64 y1)/\w.heap.size+1<w'.heap.size)
  (first|with_reducible exact hS2|with_reducible exact hS1|with_reducible exact hS0|assumption)
  (first
   |(go_at_call 12;refine(gR a n c l y0 y1 _ hn hm hU hlD).mono ?_;rintro e w1 ⟨v,rfl,own1,b1⟩;obtain⟨a1,c1,rfl,sl1⟩:=own1.sl gI;have hS1:=aMg hS0 b1;have bel1:=bS hbD b1)
   |(go_at_call 30;refine(jR a1 _ c1 _ x0 x1 _ sl1).mono ?_;rintro e w2 ⟨rfl,b2⟩;have hS2:=aMg hS1 b2;have bel2:=bS bel1 b2))
 all_goals
  go_wp2
  go_ret
  exact⟨rfl,bel2⟩
theorem fX {w:World}{B:Nat}{cs:Array Value}{t:TypeId}(hb:w.heap[B]?=some (.cells cs t (0,0)))(q:Nat)(v:Value):
  cT B (.cells (cs.setIfInBounds q v) t (0,0)) w (w.setCell (m09 B q) v):=by
 refine⟨rfl,rfl,rfl,by simp[World.setCell],?_,fun k hk=>Below.heap_setCell _ _ _ _ hk⟩
 simp[World.setCell,Array.getElem?_modify,hb]
theorem cT.trans {B:Nat}{o o':Obj}{w w' w'':World}(h:cT B o w w')(h':cT B o' w' w''):cT B o' w w'':=
 ⟨h'.os.trans h.os,h'.tape.trans h.tape,h'.output.trans h.output,h'.size.trans h.size,h'.new,fun k hk=>(h'.block k hk).trans (h.block k hk)⟩
theorem cT.drewN {B:Nat}{o:Obj}{w w':World}(h:cT B o w w')(n:Nat):cT B o w (w'.drewN n):=⟨h.os,h.tape,h.output,h.size,h.new,h.block⟩
theorem cT.drew {B:Nat}{o:Obj}{w w':World}(h:cT B o w w'):cT B o w w'.drew:=⟨h.os,h.tape,h.output,h.size,h.new,h.block⟩
theorem cT.self {B:Nat}{o:Obj}{w:World}(h:w.heap[B]?=some o):cT B o w w:=⟨rfl,rfl,rfl,rfl,h,fun _ _=>rfl⟩
theorem cT.cell {B:Nat}{o:Obj}{w w':World}(h:cT B o w w'){p:Addr}(hp:p.block≠B):w'.cell? p=w.cell? p:=World.cell?_of_block (w:=w) (h.block _ hp)
namespace Tp
def kP (sd n:Int) (r:Nat):Int:=Mx.step sd r%n
def sign (sd:Int) (r:Nat):Int:=Mx.step sd (1000+r)
end Tp
theorem sP (h x:Int)(y:Int)(hy:Hid (Mx.step h x=y))(w:World)(h0:IsU h)(x0:IsU x):Calls Tryz.prog 75 (m08 h x) w fun e w'=>e=.returned (m68 y)/\w=w':=by
 rw[<-hy.out]
 exact mH h x w h0.1 h0.2 x0.1 x0.2
section
variable {B N q:Nat}{r sd n:Int}{w:World}
theorem aMf (hd:w.cell? (m00 N)=some (.pointer (some (m00 B))))(hrc:w.cell? (m66 N)=some (.int .i64 r))(hx:w.cell? ⟨N+2,0,none⟩=some (.pointer (some (m09 B q))))(z0:w.cell? (m00 B)=some (.int .u64 sd))(z1:w.cell? (m15 B)=some (.int .i64 n)):
  w.drew.cell? (m00 N)=some (.pointer (some (m00 B)))/\w.drew.cell? (m66 N)=some (.int .i64 r)/\w.drew.cell? ⟨N+2,0,none⟩=some (.pointer (some (m09 B q)))/\w.drew.cell? (m00 B)=some (.int .u64 sd)/\w.drew.cell? (m15 B)=some (.int .i64 n):=⟨hd,hrc,hx,z0,z1⟩
theorem fQ {a b:Addr}{v:Value}(h:a≠b):(w.setCell a v).cell? b=w.cell? b:=World.cell?_setCell_other w a b v h
theorem dX {b o b' o':Nat}(h:¬(b=b'/\o=o')):((m09 b o):Addr)≠(m09 b' o'):=fun e=>h (by injection e;exact⟨‹_›,‹_›⟩)
theorem keepS (hNB:B<N)(hq:2<=q)(j:Nat)(hj:0<j)(v:Value)(hd:w.cell? (m00 N)=some (.pointer (some (m00 B))))(hrc:w.cell? (m66 N)=some (.int .i64 r))(hx:w.cell? ⟨N+2,0,none⟩=some (.pointer (some (m09 B q))))(z0:w.cell? (m00 B)=some (.int .u64 sd))(z1:w.cell? (m15 B)=some (.int .i64 n)):
  (w.drew.setCell (m09 B (q+j)) v).cell? (m00 N)=some (.pointer (some (m00 B)))/\(w.drew.setCell (m09 B (q+j)) v).cell? (m66 N)=some (.int .i64 r)/\(w.drew.setCell (m09 B (q+j)) v).cell? ⟨N+2,0,none⟩=some (.pointer (some (m09 B q)))/\(w.drew.setCell (m09 B (q+j)) v).cell? (m00 B)=some (.int .u64 sd)/\(w.drew.setCell (m09 B (q+j)) v).cell? (m15 B)=some (.int .i64 n):=
 ⟨(fQ (dX (by omega))).trans hd,(fQ (dX (by omega))).trans hrc,(fQ (dX (by omega))).trans hx,(fQ (dX (by omega))).trans z0,(fQ (dX (by omega))).trans z1⟩
theorem aEx (q:Nat)(w:World)(B:Nat)(v y z:Value)(z3:w.cell? (m09 B (q+3))=some y)(z4:w.cell? (m09 B (q+4))=some z):(w.drew.setCell (m09 B (q+3)) v).cell? (m09 B (q+4))=some z:=(fQ (by simp)).trans z4
theorem wD (q:Nat)(w:World)(B:Nat)(v:Value)(f:w.frozen? (m09 B (q+4))=false):(w.drew.setCell (m09 B (q+3)) v).frozen? (m09 B (q+4))=false:=by rw[World.frozen?_setCell];exact f
end
theorem aJp (B q r N:Nat)(sd n:Int)(y z:Value)(cs:Array Value)(W:World)(hB:W.heap[B]?=some (.cells cs 210 (0,0)))(hNB:B<N)(hr:r<10)(hsd:IsU sd)(hn:0<n/\n<=1000)(hd:W.cell? (m00 N)=some (.pointer (some (m00 B))))(hrc:W.cell? (m66 N)=some (.int .i64 r))(hx:W.cell? ⟨N+2,0,none⟩=some (.pointer (some (m09 B q))))(c0:cs[0]?=some (.int .u64 sd))(c1:cs[1]?=some (.int .i64 n))(cy:cs[q+3]?=some y)(cz:cs[q+4]?=some z)(hq:2<=q):
  Calls Tryz.prog 173 #[.pointer (some (m00 N)),.pointer (some (m66 N)),.pointer (some ⟨N+2,0,none⟩)] W fun e w'=>
   e=.returned (.tuple #[])/\cT B (.cells ((cs.setIfInBounds (q+3) (m30 (Tp.kP sd n r))).setIfInBounds (q+4) (m68 (Tp.sign sd r))) 210 (0,0)) W w':=by
 have z0:W.cell? (m00 B)=some (.int .u64 sd):=(cA hB 0).trans c0
 have z1:W.cell? (m15 B)=some (.int .i64 n):=(cA hB 1).trans c1
 have z3:W.cell? (m09 B (q+3))=some y:=(cA hB _).trans cy
 have z4:W.cell? (m09 B (q+4))=some z:=(cA hB _).trans cz
 have f3:=cH hB (q+3)
 have f4:=cH hB (q+4)
 unfold Tp.kP Tp.sign
 obtain⟨s1,hs1⟩:∃s,Mx.step sd r=s:=⟨_,rfl⟩
 obtain⟨s2,hs2⟩:∃s,Mx.step sd (1000+r)=s:=⟨_,rfl⟩
 have bd1:=Mx.step_bd sd r
 have HS1:=zH hs1
 have HS2:=zH hs2
 rw[hs1]at bd1⊢
 rw[hs2]
 have wr:IntKind.u64.wrap (r:Int)=r:=eI (by omega) (by omega)
 have wn:IntKind.u64.wrap n=n:=eI (by omega) (by omega)
 have w1:IntKind.i64.wrap (1000+(r:Int))=1000+r:=IntWalk.i64_in _ (by omega)
 have w2:IntKind.u64.wrap (1000+(r:Int))=1000+r:=eI (by omega) (by omega)
 have nz:¬n=0:=by omega
 have tm:Int.tmod s1 n=s1%n:=Int.tmod_eq_emod_of_nonneg bd1.1
 have lt1:s1%n<n:=Int.emod_lt_of_pos _ (by omega)
 have lt0:=Int.emod_nonneg s1 nz
 have wy:IntKind.i64.wrap (s1%n)=s1%n:=IntWalk.i64_in _ (by omega)
 have HB:=zH hB
 have ne1:¬N=B:=by omega
 have ne2:¬N+1=B:=by omega
 have ne3:¬N+2=B:=by omega
 clear hs1 hs2 lt1 lt0 hB
 go_enter Tryz.func173,Tryz.ntmps173
 go_wp2_with fail
 have hS0:=aMf hd hrc hx z0 z1
 have hS1:=fun v=>keepS hNB hq 3 (by omega) v hd hrc hx z0 z1
 have e3:=fun v=>aEx q W B v y z z3 z4
 have fz:=fun v=>wD q W B v f4
 go_region_held3 (fun w'=>w'.cell? (m00 N)=some (.pointer (some (m00 B)))/\w'.cell? (m66 N)=some (.int .i64 r)/\w'.cell? ⟨N+2,0,none⟩=some (.pointer (some (m09 B q)))/\w'.cell? (m00 B)=some (.int .u64 sd)/\w'.cell? (m15 B)=some (.int .i64 n))
  (first|with_reducible exact hS0|exact hS1 _|assumption)
  (first
   |(go_at_call 75;refine(sP sd r s1 HS1 _ hsd ⟨by omega,by omega⟩).mono ?_;rintro e w' ⟨rfl,rfl⟩))
 clear hS0 hS1 e3 fz
 have T1:=(fX HB.out (q+3) (m30 (s1%n))).drew
 have d0:(W.setCell (m09 B (q+3)) (m30 (s1%n))).drew.cell? (m00 N)=some (.pointer (some (m00 B))):=(fQ (dX (by omega))).trans hd
 have d1:(W.setCell (m09 B (q+3)) (m30 (s1%n))).drew.cell? (m66 N)=some (.int .i64 r):=(fQ (dX (by omega))).trans hrc
 have d2:(W.setCell (m09 B (q+3)) (m30 (s1%n))).drew.cell? ⟨N+2,0,none⟩=some (.pointer (some (m09 B q))):=(fQ (dX (by omega))).trans hx
 have d3:(W.setCell (m09 B (q+3)) (m30 (s1%n))).drew.cell? (m00 B)=some (.int .u64 sd):=(fQ (dX (by omega))).trans z0
 have d4:(W.setCell (m09 B (q+3)) (m30 (s1%n))).drew.cell? (m15 B)=some (.int .i64 n):=(fQ (dX (by omega))).trans z1
 have d5:(W.setCell (m09 B (q+3)) (m30 (s1%n))).drew.cell? (m09 B (q+4))=some z:=(fQ (dX (by omega))).trans z4
 clear hd hrc hx z0 z1 z3 z4 f3 f4
 generalize(W.setCell (m09 B (q+3)) (m30 (s1%n))).drew=W2 at T1 d0 d1 d2 d3 d4 d5⊢
 have f4:=cH T1.new (q+4)
 go_wp2_with fail
 have hS0:=aMf d0 d1 d2 d3 d4
 have hS1:=fun v=>keepS hNB hq 4 (by omega) v d0 d1 d2 d3 d4
 go_region_held3 (fun w'=>w'.cell? (m00 N)=some (.pointer (some (m00 B)))/\w'.cell? (m66 N)=some (.int .i64 r)/\w'.cell? ⟨N+2,0,none⟩=some (.pointer (some (m09 B q)))/\w'.cell? (m00 B)=some (.int .u64 sd)/\w'.cell? (m15 B)=some (.int .i64 n))
  (first|with_reducible exact hS0|exact hS1 _|assumption)
  (first
   |(go_at_call 75;refine(sP sd (1000+r) s2 HS2 _ hsd ⟨by omega,by omega⟩).mono ?_;rintro e w' ⟨rfl,rfl⟩))
 all_goals
  go_end0
  exact⟨rfl,T1.trans (fX T1.new (q+4) (m68 s2)).drew⟩
def zC (q:Nat) (p s:Int) (cs:Array Value):Array Value:=
 (((((cs.setIfInBounds (q+1) (.int .i32 1)).setIfInBounds (q+3) (m30 p)).setIfInBounds (q+4) (m68 s)).setIfInBounds q (.int .u32 1)).setIfInBounds (q+1) (.int .i32 0))
theorem aGc (B q r N:Nat)(sd n:Int)(y z:Value)(cs:Array Value)(W:World)(hB:W.heap[B]?=some (.cells cs 210 (0,0)))(hNB:B<N)(hr:r<10)(hsd:IsU sd)(hn:0<n/\n<=1000)(hd:W.cell? (m00 N)=some (.pointer (some (m00 B))))(hrc:W.cell? (m66 N)=some (.int .i64 r))(hx:W.cell? ⟨N+2,0,none⟩=some (.pointer (some (m09 B q))))(c0:cs[0]?=some (.int .u64 sd))(c1:cs[1]?=some (.int .i64 n))(cd:cs[q]?=some (.int .u32 0))(cl:cs[q+1]?=some (.int .i32 0))(cy:cs[q+3]?=some y)(cz:cs[q+4]?=some z)(hq:2<=q):
  Calls Tryz.prog 183 #[.pointer (some (m09 B q)),.func (.func 173) #[] #[.pointer (some (m00 N)),.pointer (some (m66 N)),.pointer (some ⟨N+2,0,none⟩)]] W fun e w'=>
   e=.returned (.tuple #[])/\cT B (.cells (zC q (Tp.kP sd n r) (Tp.sign sd r) cs) 210 (0,0)) W w':=by
 have z2:W.cell? (m09 B (q+1))=some (.int .i32 0):=(cA hB _).trans cl
 have f2:=cH hB (q+1)
 have T1:=fX hB (q+1) (.int .i32 1)
 have q1:(cs.setIfInBounds (q+1) (.int .i32 1))[q]?=some (.int .u32 0):=by rw[Array.getElem?_setIfInBounds_ne (by omega)];exact cd
 have z1:(W.setCell (m09 B (q+1)) (.int .i32 1)).cell? (m09 B q)=some (.int .u32 0):=(cA T1.new _).trans q1
 have hl:=oD z1
 have hnot:∀(x:Bool) (w:World),(Op.unary .not (.bool x)).run Tryz.prog w=.ok (.bool (!x)) w:=fun _ _=>rfl
 have fn:=aJp B q r N sd n y z _ _ T1.new hNB hr hsd hn ((fQ (dX (by omega))).trans hd) ((fQ (dX (by omega))).trans hrc) ((fQ (dX (by omega))).trans hx)
  (by rw[Array.getElem?_setIfInBounds_ne (by omega)];exact c0) (by rw[Array.getElem?_setIfInBounds_ne (by omega)];exact c1) (by rw[Array.getElem?_setIfInBounds_ne (by omega)];exact cy) (by rw[Array.getElem?_setIfInBounds_ne (by omega)];exact cz) hq
 have HB:=zH hB
 go_enter_defers Tryz.func183,Tryz.ntmps183
 go_wp2_with (go_at_call 187;refine(aDl (m09 B (q+1)) _ z2 f2).mono ?_;rintro e w' ⟨rfl,rfl⟩)
 go_wp2_with (first
  |(go_at_call 182;go_in)
  |(go_at_call 173;refine fn.mono ?_;rintro e w2 ⟨rfl,T2⟩))
 have f3:=cH T2.new q
 have e3:w2.cell? (m09 B q)=some (.int .u32 0):=(cA T2.new _).trans (by
  rw[Array.getElem?_setIfInBounds_ne (by omega),Array.getElem?_setIfInBounds_ne (by omega),Array.getElem?_setIfInBounds_ne (by omega)];exact cd)
 have T3:=(fX (w:=w2.drew) T2.new q (.int .u32 1))
 have f4:=cH T3.new (q+1)
 have hlt:q+1<cs.size:=(gS cl)
 have e4:(w2.drew.setCell (m09 B q) (.int .u32 1)).cell? (m09 B (q+1))=some (.int .i32 1):=(cA T3.new _).trans (by
  rw[Array.getElem?_setIfInBounds_ne (by omega),Array.getElem?_setIfInBounds_ne (by omega),Array.getElem?_setIfInBounds_ne (by omega)];simp[hlt])
 have T4:=fX T3.new (q+1) (.int .i32 0)
 refine leaves_cons (f:=189) (args:=#[.pointer (some (m09 B q)),.bool true]) (by simp) (by simp[go_sem]) ?_
 refine(oT (m09 B q) (.int .u32 0) .returning _ e3 f3).mono ?_
 rintro e u' w'' ⟨rfl,rfl,rfl⟩
 refine leaves_cons (f:=188) (args:=#[.pointer (some (m09 B (q+1)))]) (by simp[settle]) (by simp[go_sem]) ?_
 refine(mW (m09 B (q+1)) _ _ e4 f4).mono ?_
 rintro e u' w'' ⟨rfl,rfl,rfl⟩
 have T5:cT B _ w2 w2.drew:=(cT.self T2.new).drew
 have T:=((T1.trans T2).trans (T5.trans T3)).trans T4
 simp[Leaves,settle,results,Tryz.results183]
 exact T
theorem aKn (a:Addr)(fv:Value)(w:World)(h0:w.cell? a=some (.int .u32 1)):
  Calls Tryz.prog 172 #[.pointer (some a),fv] w fun e w'=>e=.returned (.tuple #[])/\w'=w:=by
 have hl:=oD h0
 have hnot:∀(x:Bool) (w:World),(Op.unary .not (.bool x)).run Tryz.prog w=.ok (.bool (!x)) w:=fun _ _=>rfl
 go_enter Tryz.func172,Tryz.ntmps172
 go_wp2
 go_end0
 exact⟨rfl,rfl⟩
theorem aHb (B q r N:Nat)(sd n:Int)(y z:Value)(cs:Array Value)(W:World)(hB:W.heap[B]?=some (.cells cs 210 (0,0)))(hNB:B<N)(hr:r<10)(hsd:IsU sd)(hn:0<n/\n<=1000)(hd:W.cell? (m00 N)=some (.pointer (some (m00 B))))(hrc:W.cell? (m66 N)=some (.int .i64 r))(hx:W.cell? ⟨N+2,0,none⟩=some (.pointer (some (m09 B q))))(c0:cs[0]?=some (.int .u64 sd))(c1:cs[1]?=some (.int .i64 n))(cd:cs[q]?=some (.int .u32 0))(cl:cs[q+1]?=some (.int .i32 0))(cy:cs[q+3]?=some y)(cz:cs[q+4]?=some z)(hq:2<=q):
  Calls Tryz.prog 172 #[.pointer (some (m09 B q)),.func (.func 173) #[] #[.pointer (some (m00 N)),.pointer (some (m66 N)),.pointer (some ⟨N+2,0,none⟩)]] W fun e w'=>
   e=.returned (.tuple #[])/\cT B (.cells (zC q (Tp.kP sd n r) (Tp.sign sd r) cs) 210 (0,0)) W w':=by
 have hl:=oD ((cA hB q).trans cd)
 have hnot:∀(x:Bool) (w:World),(Op.unary .not (.bool x)).run Tryz.prog w=.ok (.bool (!x)) w:=fun _ _=>rfl
 have hs:=aGc B q r N sd n y z cs W hB hNB hr hsd hn hd hrc hx c0 c1 cd cl cy cz hq
 clear hB hd hrc hx c0 c1 cd cl cy cz
 go_enter Tryz.func172,Tryz.ntmps172
 go_wp2_with (first
  |(go_at_call 183;refine hs.mono ?_;rintro e w' ⟨rfl,T⟩)
  |(go_at_call 182;go_in))
 go_end0
 exact⟨rfl,T⟩
theorem aKy (a:Addr)(k:Int)(w:World)(hc:w.cell? a=some (.int .i64 k))(hz:w.frozen? a=false)(hk:0<=k/\k<=1000000):
  Calls Tryz.prog 174 #[.pointer (some a),.int .i64 1] w fun e w'=>e=.returned (m30 (k+1))/\w'=w.setCell a (m30 (k+1)):=by
 have hw:IntKind.i64.wrap (k+1)=k+1:=IntWalk.i64_in _ (by omega)
 have hadd:=run_call_add (P:=Tryz.prog) Tryz.func184 (by kernel_rfl) (by kernel_rfl) (by kernel_rfl) .i64 (by kernel_rfl) (y:=1) (s:=k+1) hc hz (by simp[go_sem,hw])
 go_enter Tryz.func174,Tryz.ntmps174
 go_wp2
 go_ret
 exact⟨rfl,rfl⟩
theorem aFb (a:Addr)(k:Int)(w:World)(hc:w.cell? a=some (.int .i64 k)):
  Calls Tryz.prog 125 #[.pointer (some a)] w fun e w'=>e=.returned (m30 k)/\w'=w:=by
 have hl:=aAi hc
 go_enter Tryz.func125,Tryz.ntmps125
 go_wp2
 go_ret
 exact⟨rfl,rfl⟩
structure Deck (sd n:Int) (k:Nat) (cs:Array Value):Prop where
 size:cs.size=53
 seed:cs[0]?=some (.int .u64 sd)
 num:cs[1]?=some (.int .i64 n)
 asked:cs[52]?=some (.int .i64 k)
 round:∀r,r<10->cs[2+r*5+1]?=some (.int .i32 0)/\∃y z,cs[2+r*5+3]?=some y/\cs[2+r*5+4]?=some z/\
  (cs[2+r*5]?=some (.int .u32 0)\/(cs[2+r*5]?=some (.int .u32 1)/\y=.int .i64 (Tp.kP sd n r)/\z=.int .u64 (Tp.sign sd r)))
theorem Deck.slow {sd n:Int}{k r:Nat}{cs:Array Value}(h:Deck sd n k cs)(hr:r<10):Deck sd n k (zC (2+r*5) (Tp.kP sd n r) (Tp.sign sd r) cs):=by
 have hz:=h.size
 unfold zC
 refine⟨by simpa using h.size,?_,?_,?_,?_⟩
 ·simp only[Array.getElem?_setIfInBounds]
  simp[h.seed,show ¬2+r*5=0 by omega]
 ·simp only[Array.getElem?_setIfInBounds]
  simp[h.num,show ¬2+r*5=1 by omega,show ¬2+r*5+1=1 by omega,show ¬2+r*5+3=1 by omega,show ¬2+r*5+4=1 by omega]
 ·simp only[Array.getElem?_setIfInBounds]
  simp[h.asked,show ¬2+r*5=52 by omega,show ¬2+r*5+1=52 by omega,show ¬2+r*5+3=52 by omega,show ¬2+r*5+4=52 by omega]
 ·intro r' hr'
  obtain⟨a1,y,z,a2,a3,a4⟩:=h.round r' hr'
  by_cases e:r=r'
  ·subst e
   refine⟨?_,.int .i64 (Tp.kP sd n r),.int .u64 (Tp.sign sd r),?_,?_,.inr ⟨?_,rfl,rfl⟩⟩
   all_goals
    simp only[Array.getElem?_setIfInBounds,Array.size_setIfInBounds,hz]
    simp
    omega
  ·refine⟨?_,y,z,?_,?_,?_⟩
   ·simp only[Array.getElem?_setIfInBounds]
    rw[if_neg (by omega),if_neg (by omega),if_neg (by omega),if_neg (by omega),if_neg (by omega)]
    exact a1
   ·simp only[Array.getElem?_setIfInBounds]
    rw[if_neg (by omega),if_neg (by omega),if_neg (by omega),if_neg (by omega),if_neg (by omega)]
    exact a2
   ·simp only[Array.getElem?_setIfInBounds]
    rw[if_neg (by omega),if_neg (by omega),if_neg (by omega),if_neg (by omega),if_neg (by omega)]
    exact a3
   ·simp only[Array.getElem?_setIfInBounds]
    rw[if_neg (by omega),if_neg (by omega),if_neg (by omega),if_neg (by omega),if_neg (by omega)]
    exact a4
theorem Deck.ask {sd n:Int}{k:Nat}{cs:Array Value}(h:Deck sd n k cs):Deck sd n (k+1) (cs.setIfInBounds 52 (.int .i64 ((k:Int)+1))):=by
 have hz:=h.size
 refine⟨by simpa using h.size,?_,?_,?_,?_⟩
 ·rw[Array.getElem?_setIfInBounds_ne (by omega)];exact h.seed
 ·rw[Array.getElem?_setIfInBounds_ne (by omega)];exact h.num
 ·simp[Array.getElem?_setIfInBounds,hz]
 ·intro r hr
  rw[Array.getElem?_setIfInBounds_ne (by omega),Array.getElem?_setIfInBounds_ne (by omega),Array.getElem?_setIfInBounds_ne (by omega),Array.getElem?_setIfInBounds_ne (by omega)]
  exact h.round r hr
def Done (sd n:Int) (r:Nat) (cs:Array Value):Prop:=cs[2+r*5+3]?=some (.int .i64 (Tp.kP sd n r))/\cs[2+r*5+4]?=some (.int .u64 (Tp.sign sd r))
theorem aBv {sd n:Int}{k r:Nat}{cs:Array Value}(h:Deck sd n k cs)(hr:r<10):Done sd n r (zC (2+r*5) (Tp.kP sd n r) (Tp.sign sd r) cs):=by
 have hz:=h.size
 unfold zC Done
 refine⟨?_,?_⟩
 all_goals
  simp only[Array.getElem?_setIfInBounds,Array.size_setIfInBounds,hz]
  simp
  omega
theorem aBk (w:World)(o1 o2 o3:Obj):(((w.alloc o1).alloc o2).alloc o3).heap[w.heap.size]?=some o1:=by
 rw[cF,if_neg (by simp only[World.size_alloc];omega),cF,if_neg (by simp only[World.size_alloc];omega),cF,if_pos rfl]
theorem aBj (w:World)(o1 o2 o3:Obj):(((w.alloc o1).alloc o2).alloc o3).heap[w.heap.size+1+1]?=some o3:=by
 rw[cF,if_pos (by simp only[World.size_alloc])]
theorem aBi (w:World)(o1 o2 o3:Obj)(j:Nat)(h:j<w.heap.size):(((w.alloc o1).alloc o2).alloc o3).heap[j]?=w.heap[j]?:=by
 rw[cF,if_neg (by simp only[World.size_alloc];omega),cF,if_neg (by simp only[World.size_alloc];omega),cF,if_neg (by omega)]
theorem cT.grown {B:Nat}{o:Obj}{w w':World}(h:cT B o w w'):w.grownBy w' (some B):=
 ⟨h.os,h.tape,h.output,Nat.le_of_eq h.size.symm,fun k _ hk=>h.block k (fun e=>hk (by rw[e]))⟩
theorem eP {w w' w'':World}{row:Option Nat}(h:w.grownBy w' row)(h':w'.grownBy w'' row):w.grownBy w'' row:=by
 obtain⟨a1,a2,a3,a4,a5⟩:=h
 obtain⟨b1,b2,b3,b4,b5⟩:=h'
 exact⟨b1.trans a1,b2.trans a2,b3.trans a3,Nat.le_trans a4 b4,fun k hk hne=>(b5 k (Nat.lt_of_lt_of_le hk a4) hne).trans (a5 k hk hne)⟩
theorem iG {w w':World}{row:Option Nat}{B:Nat}(h:w.grownBy w' row)(hs:B<=w.heap.size)(hr:∀k,row=some k->B<=k):Below B w w':=(Below.refl B w).grown h hs hr
theorem fA {w w':World}(h:Below w.heap.size w w')(row:Option Nat):w.grownBy w' row:=⟨h.os,h.tape,h.output,h.size,fun k hk _=>h.block k hk⟩
structure Got (B:Nat) (sd n:Int) (k r:Nat) (w w':World):Prop where
 deck:∃cs,w'.heap[B]?=some (.cells cs 210 (0,0))/\Deck sd n (k+1) cs/\Done sd n r cs
 grown:w.grownBy w' (some B)
theorem aHe (B r k:Nat)(sd n:Int)(cs:Array Value)(w:World)(hB:w.heap[B]?=some (.cells cs 210 (0,0)))(hD:Deck sd n k cs)(hk:k<=1000000-1)(hr:r<10)(hsd:IsU sd)(hn:0<n/\n<=1000):
  Calls Tryz.prog 156 #[.pointer (some (m00 B)),.int .i64 r] w fun e w'=>e=.returned (.pointer (some (m09 B (2+r*5))))/\Got B sd n k r w w':=by
 have hlt:=(gS hB)
 have r0:(0:Int)<=r:=by omega
 have r1:(r:Int)<10:=by omega
 have HB:=zH hB
 have HD:=zH hD
 clear hB hD
 go_enter Tryz.func156,Tryz.ntmps156
 go_wp2_with fail
 go_region
 all_goals
  go_wp2_with fail
  have b1:=aBk w (.cells (m46 B) 190) (.cells #[.int .i64 r] 3) (.cells #[.pointer (some (m09 B (2+r*5)))] 239)
  have b2:=mY w (.cells (m46 B) 190) (.cells #[.int .i64 r] 3) (.cells #[.pointer (some (m09 B (2+r*5)))] 239)
  have b3:=aBj w (.cells (m46 B) 190) (.cells #[.int .i64 r] 3) (.cells #[.pointer (some (m09 B (2+r*5)))] 239)
  have bB:=(aBi w (.cells (m46 B) 190) (.cells #[.int .i64 r] 3) (.cells #[.pointer (some (m09 B (2+r*5)))] 239) B hlt).trans HB.out
  have bG:w.grownBy (((w.alloc (.cells (m46 B) 190)).alloc (.cells #[.int .i64 r] 3)).alloc (.cells #[.pointer (some (m09 B (2+r*5)))] 239)).drew (some B):=fA (((((Below.refl _ w).alloc nr _).alloc (by simp) _).alloc (by simp only[World.size_alloc];omega) _).drew) _
  change Calls _ _ _ (((w.alloc (.cells (m46 B) 190)).alloc (.cells #[.int .i64 r] 3)).alloc (.cells #[.pointer (some (m09 B (2+r*5)))] 239)).drew _
  generalize hW:(((w.alloc (.cells (m46 B) 190)).alloc (.cells #[.int .i64 r] 3)).alloc (.cells #[.pointer (some (m09 B (2+r*5)))] 239)).drew=W at bG⊢
  have c1:W.heap[w.heap.size]?=some (.cells (m46 B) 190):=by rw[<-hW];exact b1
  have c2:W.heap[w.heap.size+1]?=some (.cells #[.int .i64 r] 3):=by rw[<-hW];exact b2
  have c3:W.heap[w.heap.size+1+1]?=some (.cells #[.pointer (some (m09 B (2+r*5)))] 239):=by rw[<-hW];exact b3
  have cB:W.heap[B]?=some (.cells cs 210 (0,0)):=by rw[<-hW];exact bB
  clear b1 b2 b3 bB hW
  obtain⟨cl,y,z,cy,cz,hcase⟩:=HD.out.round r hr
  have hDo:Calls Tryz.prog 172 #[.pointer (some (m09 B (2+r*5))),.func (.func 173) #[] #[.pointer (some (m07 w)),.pointer (some (m22 w)),.pointer (some ⟨w.heap.size+1+1,0,none⟩)]] W fun e w1=>
    e=.returned (.tuple #[])/\∃cs1,cT B (.cells cs1 210 (0,0)) W w1/\Deck sd n k cs1/\Done sd n r cs1:=by
   rcases hcase with cd|⟨cd,rfl,rfl⟩
   ·refine(aHb B (2+r*5) r w.heap.size sd n y z cs W cB hlt hr hsd hn (cA c1 0) (cA c2 0) (cA c3 0) HD.out.seed HD.out.num cd cl cy cz (by omega)).mono ?_
    rintro e w1 ⟨rfl,T⟩
    exact⟨rfl,_,T,HD.out.slow hr,aBv HD.out hr⟩
   ·refine(aKn (m09 B (2+r*5)) _ W ((cA cB _).trans cd)).mono ?_
    rintro e w1 ⟨rfl,rfl⟩
    exact⟨rfl,_,cT.self cB,HD.out,cy,cz⟩
  refine hDo.mono ?_
  rintro e w1 ⟨rfl,cs1,T,hD2,hDn⟩
  have e3:w1.cell? ⟨w.heap.size+1+1,0,none⟩=some (.pointer (some (m09 B (2+r*5)))):=(T.cell (by simp;omega)).trans (cA c3 0)
  have e1:w1.cell? (m07 w)=some (.pointer (some (m00 B))):=(T.cell (by simp;omega)).trans (cA c1 0)
  have T2:=fX T.new 52 (.int .i64 ((k:Int)+1))
  have e4:(w1.setCell ⟨B,52,none⟩ (.int .i64 ((k:Int)+1))).cell? ⟨w.heap.size+1+1,0,none⟩=some (.pointer (some (m09 B (2+r*5)))):=(T2.cell (by simp;omega)).trans e3
  go_wp2_with (go_at_call 174;refine(aKy ⟨B,52,none⟩ k _ ((cA T.new 52).trans hD2.asked) (cH T.new 52) (by omega)).mono ?_;rintro e w' ⟨rfl,rfl⟩)
  go_ret
  refine⟨rfl,⟨_,T2.new,hD2.ask,?_⟩,eP bG (eP T.grown T2.grown)⟩
  unfold Done
  rw[Array.getElem?_setIfInBounds_ne (by omega),Array.getElem?_setIfInBounds_ne (by omega)]
  exact hDn
end Go.Proofs.YtbbhinehcncmeaaGreat
