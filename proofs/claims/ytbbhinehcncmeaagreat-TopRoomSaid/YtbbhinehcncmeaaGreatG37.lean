/- A part of the proof of the laws of the top: TpLawA, TpLaws. No condition. -/
import Derived.Test.YtbbhinehcncmeaaGreatG36
namespace Go.Proofs.YtbbhinehcncmeaaGreat
open Go.RowKit
set_option linter.unusedSimpArgs false
set_option linter.unusedVariables false
set_option linter.unusedSectionVars false
set_option maxRecDepth 100000
set_option maxHeartbeats 2000000
def wT (a:RA):Bool:=decide (a.v.nb<=8)&&decide (a.v.nv<=8)
def jC (l:List RA):Bool:=decide (l.length<=25)&&l.all wT
theorem rY {α:Type}(p:α->Bool)(l:List α)(j:Nat)(h:j<l.length):(l.take (j+1)).all p=((l.take j).all p&&p l[j]):=by
 rw[List.take_succ_eq_append_getElem h,List.all_append]
 simp
theorem aFd {α:Type}(p:α->Bool)(l:List α)(j:Nat)(h:j<l.length)(hp:p l[j]=false):l.all p=false:=by
 rw[List.all_eq_false]
 exact⟨l[j],List.getElem_mem h,by simp[hp]⟩
theorem mO (a:Option Addr)(n c:Nat)(l:List RA)(w:World)(h:SlV actC 5 w a n c l):
  Calls Tryz.prog 41 #[.slice a n c,.int .i64 25] w fun e w'=>e=.returned (.bool (jC l))/\w=w':=by
 have hm:n<=9223372036854775807:=Nat.le_trans h.cap h.top
 have HH:=zH h
 have hln:=h.len
 clear h
 go_enter Tryz.func41,Tryz.ntmps41
 by_cases hn:n<=25
 case neg=>
  have hb:decide ((25:Int)<(n:Int))=true:=decide_eq_true (by omega)
  have HZ:Hid (jC l=false):=zH (by unfold jC;rw[hln,decide_eq_false hn];rfl)
  go_wp2
  go_ret
  exact⟨by rw[HZ.out];rfl,rfl⟩
 have hb:decide ((25:Int)<(n:Int))=false:=decide_eq_false (by omega)
 have HZ:Hid (jC l=l.all wT):=zH (by unfold jC;rw[hln,decide_eq_true hn];rfl)
 go_wp2_with fail
 go_loopw [5] (fun i_ wr=>∃j:Nat,j<=n/\i_=.int .i64 j/\w=wr/\(l.take j).all wT=true) (fun i_ _=>n-(intOf i_).toNat)
 case atStart=>exact⟨0,Nat.zero_le _,rfl,rfl,rfl⟩
 case round=>
  obtain⟨j,hj,rfl,rfl,hall⟩:=hrel
  by_cases hjn:j<n
  case neg=>
   obtain rfl:j=n:=by omega
   have HF:Hid (jC l=true):=zH (by rw[HZ.out,<-hall,List.take_of_length_le (by omega)])
   clear hall
   go_wp2
   go_ret
   exact⟨by rw[HF.out];rfl,rfl⟩
  have hjl:j<l.length:=by omega
  have hts:=rY wT l j hjl
  have hfl:=aFd wT l j hjl
  rcases HH.out.rows with h0|⟨b,o,rfl,hlt,hc⟩
  ·omega
  have hx:=hc j hjl
  obtain⟨⟨tk,d,f,⟨xa,xb,xc,xd,xe,xf⟩⟩,hX⟩:∃x,l[j]=x:=⟨_,rfl⟩
  rw[hX]at hx hts hfl
  have c3:w.cell? (m09 b (o+j*5+3))=some (.slice xa xb xc):=hx 3 (by omega)
  have c4:w.cell? (m09 b (o+j*5+4))=some (.slice xd xe xf):=hx 4 (by omega)
  have j0:(0:Int)<=j:=by omega
  have j1:(j:Int)<n:=by omega
  have HT:=zH hts
  have HFL:=zH hfl
  have HA:=zH hall
  clear hx hX hc hts hfl hall
  by_cases h3:xb<=8
  case neg=>
   have e3:decide ((8:Int)<(xb:Int))=true:=decide_eq_true (by omega)
   have HF:Hid (jC l=false):=zH (by rw[HZ.out];exact HFL.out (by show(decide (xb<=8)&&decide (xe<=8))=false;rw[decide_eq_false h3];rfl))
   clear h3
   go_wp2
   go_ret
   exact⟨by rw[HF.out];rfl,rfl⟩
  have e3:decide ((8:Int)<(xb:Int))=false:=decide_eq_false (by omega)
  by_cases h4:xe<=8
  case neg=>
   have e4:decide ((8:Int)<(xe:Int))=true:=decide_eq_true (by omega)
   have HF:Hid (jC l=false):=zH (by rw[HZ.out];exact HFL.out (by show(decide (xb<=8)&&decide (xe<=8))=false;rw[decide_eq_false h4,Bool.and_false]))
   clear h3 h4
   go_wp2
   go_ret
   exact⟨by rw[HF.out];rfl,rfl⟩
  have e4:decide ((8:Int)<(xe:Int))=false:=decide_eq_false (by omega)
  have HF:Hid ((l.take (j+1)).all wT=true):=zH (by rw[HT.out,HA.out];show(true&&(decide (xb<=8)&&decide (xe<=8)))=true;rw[decide_eq_true h3,decide_eq_true h4];rfl)
  clear h3 h4
  go_wp2
  exact⟨⟨j+1,by omega,by go_num,by trivial,HF.out⟩,by simp[intOf];omega⟩
def uJ (W:List Int) (ep nu de:Int) (nw bn:Nat) (l:List RA):Bool:=jC l&&Tp.mayC W ep nu de&&decide (nw<=6)&&decide (bn<=6)
def wE (W:List Int) (ep nu de:Int) (nw bn:Nat) (l:List RA) (slots:Int):Bool:=uJ W ep nu de nw bn l&&decide (1<=slots)&&decide (slots<=4)
theorem oN (aw:Option Addr)(nw cw:Nat)(W:List Int)(sd ep nu de:Int)(ba:Option Addr)(bn bc:Nat)(a:Option Addr)(n c:Nat)(l:List RA)(w:World)(hC:aP w aw nw W sd)(h:SlV actC 5 w a n c l)(hbn:bn<=9223372036854775807):
  Calls Tryz.prog 21 #[.agg (m05 aw nw cw sd ep nu de),.slice ba bn bc,.slice a n c] w fun e w'=>e=.returned (.bool (uJ W ep nu de nw bn l))/\Below w.heap.size w w':=by
 have hal:Below w.heap.size w (m28 w aw nw cw sd ep nu de):=(Below.refl _ _).alloc nr _
 have hbx:(m28 w aw nw cw sd ep nu de:World).heap[w.heap.size]?=some (.cells (m05 aw nw cw sd ep nu de) 25 (0,0)):=heap_alloc_new w _
 have hbs:w.heap.size<(m28 w aw nw cw sd ep nu de:World).heap.size:=by simp
 have HAL:=zH hal
 have HC:=zH (hC.keep hal)
 have HH:=zH (h.keep hal)
 have HBX:=zH hbx
 obtain⟨t1,ht1⟩:∃z,jC l=z:=⟨_,rfl⟩
 obtain⟨t2,ht2⟩:∃z,Tp.mayC W ep nu de=z:=⟨_,rfl⟩
 have HT1:=zH ht1
 have HT2:=zH ht2
 have hnw:nw<=9223372036854775807:=hC.max
 unfold uJ
 rw[ht1,ht2]
 clear hC h ht1 ht2 hbx
 have hd3:decide (nw<=6)=decide ((nw:Int)<=6):=by by_cases h:nw<=6<;>simp[h]<;>omega
 have hd4:decide (bn<=6)=decide ((bn:Int)<=6):=by by_cases h:bn<=6<;>simp[h]<;>omega
 rw[hd3,hd4]
 clear hd3 hd4
 obtain⟨t3,ht3⟩:∃z,decide ((nw:Int)<=6)=z:=⟨_,rfl⟩
 obtain⟨t4,ht4⟩:∃z,decide ((bn:Int)<=6)=z:=⟨_,rfl⟩
 rw[ht3,ht4]
 go_enter Tryz.func21,Tryz.ntmps21
 cases t1
 ·go_wp2_with (go_at_call 41;refine(mO a n c l _ HH.out).mono ?_;rintro e w' ⟨rfl,rfl⟩;rw[HT1.out])
  go_ret
  exact⟨rfl,HAL.out⟩
 cases t2
 ·go_wp2_with (first|(go_at_call 41;refine(mO a n c l _ HH.out).mono ?_;rintro e w' ⟨rfl,rfl⟩;rw[HT1.out])|(go_at_call 23;refine(dB aw nw cw W sd ep nu de _ HC.out.len HC.out.max HC.out.ints).mono ?_;rintro e w2 ⟨rfl,hb2⟩;rw[HT2.out]))
  go_ret
  exact⟨rfl,bS HAL.out hb2⟩
 cases t3
 ·go_wp2_with (first|(go_at_call 41;refine(mO a n c l _ HH.out).mono ?_;rintro e w' ⟨rfl,rfl⟩;rw[HT1.out])|(go_at_call 23;refine(dB aw nw cw W sd ep nu de _ HC.out.len HC.out.max HC.out.ints).mono ?_;rintro e w2 ⟨rfl,hb2⟩;rw[HT2.out];have x0:w2.cell? (m07 w)=some (.slice aw nw cw):=cA (cG hb2 hbs HBX.out) 0))
  go_ret
  exact⟨rfl,bS HAL.out hb2⟩
 ·go_wp2_with (first|(go_at_call 41;refine(mO a n c l _ HH.out).mono ?_;rintro e w' ⟨rfl,rfl⟩;rw[HT1.out])|(go_at_call 23;refine(dB aw nw cw W sd ep nu de _ HC.out.len HC.out.max HC.out.ints).mono ?_;rintro e w2 ⟨rfl,hb2⟩;rw[HT2.out];have x0:w2.cell? (m07 w)=some (.slice aw nw cw):=cA (cG hb2 hbs HBX.out) 0))
  go_ret
  exact⟨by cases t4<;>rfl,bS HAL.out hb2⟩
theorem jK (aw:Option Addr)(nw cw:Nat)(W:List Int)(sd ep nu de:Int)(ba:Option Addr)(bn bc:Nat)(a:Option Addr)(n c:Nat)(l:List RA)(slots:Int)(w:World)(hC:aP w aw nw W sd)(h:SlV actC 5 w a n c l)(hbn:bn<=9223372036854775807):
  Calls Tryz.prog 7 #[.agg (m05 aw nw cw sd ep nu de),.slice ba bn bc,.slice a n c,.int .i64 slots] w fun e w'=>e=.returned (.bool (wE W ep nu de nw bn l slots))/\Below w.heap.size w w':=by
 have hal:Below w.heap.size w (m28 w aw nw cw sd ep nu de):=(Below.refl _ _).alloc nr _
 have HAL:=zH hal
 have HC:=zH (hC.keep hal)
 have HH:=zH (h.keep hal)
 obtain⟨t1,ht1⟩:∃z,uJ W ep nu de nw bn l=z:=⟨_,rfl⟩
 have HT1:=zH ht1
 unfold wE
 rw[ht1]
 clear hC h ht1 hal
 obtain⟨t3,ht3⟩:∃z,decide (1<=slots)=z:=⟨_,rfl⟩
 obtain⟨t4,ht4⟩:∃z,decide (slots<=4)=z:=⟨_,rfl⟩
 rw[ht3,ht4]
 go_enter Tryz.func7,Tryz.ntmps7
 cases t1
 ·go_wp2_with (go_at_call 21;refine(oN aw nw cw W sd ep nu de ba bn bc a n c l _ HC.out HH.out hbn).mono ?_;rintro e w2 ⟨rfl,hb2⟩;rw[HT1.out])
  go_ret
  exact⟨rfl,bS HAL.out hb2⟩
 cases t3
 ·go_wp2_with (go_at_call 21;refine(oN aw nw cw W sd ep nu de ba bn bc a n c l _ HC.out HH.out hbn).mono ?_;rintro e w2 ⟨rfl,hb2⟩;rw[HT1.out])
  go_ret
  exact⟨rfl,bS HAL.out hb2⟩
 ·go_wp2_with (go_at_call 21;refine(oN aw nw cw W sd ep nu de ba bn bc a n c l _ HC.out HH.out hbn).mono ?_;rintro e w2 ⟨rfl,hb2⟩;rw[HT1.out])
  go_ret
  exact⟨by cases t4<;>rfl,bS HAL.out hb2⟩
theorem oC {W:List Int}{ep nu de:Int}{nw bn:Nat}{l:List RA}{slots:Int}(h:wE W ep nu de nw bn l slots=true):
  Tp.mayC W ep nu de=true/\nw<=6/\bn<=6/\1<=slots/\slots<=4/\l.length<=25/\∀x∈l,x.v.nb<=8/\x.v.nv<=8:=by
 unfold wE uJ jC at h
 simp only[Bool.and_eq_true,decide_eq_true_eq,List.all_eq_true]at h
 refine⟨h.1.1.1.1.2,h.1.1.1.2,h.1.1.2,h.1.2,h.2,h.1.1.1.1.1.1,fun x hx=>?_⟩
 have:=h.1.1.1.1.1.2 x hx
 unfold wT at this
 simpa using this
structure aHx (W:World) (p:RA×Tp.Vw):Prop where
 b:SlV aK 5 W p.1.v.ab p.1.v.nb p.1.v.cb p.2.b
 v:SlV aH 4 W p.1.v.av p.1.v.nv p.1.v.cv p.2.v
 u:∀x∈p.2.b,x.U
 b0:p.1.v.ab=none->p.1.v.nb=0/\p.1.v.cb=0
 v0:p.1.v.av=none->p.1.v.nv=0/\p.1.v.cv=0
 rng:p.1.dest<=9223372036854775807
theorem wR {w:World}{a:Option Addr}{n c:Nat}{al:List (RA×Tp.Vw)}(h:SlV actC 5 w a n c (al.map Prod.fst))(hq:∀p∈al,aHx w p)(h25:(al.map Prod.fst).length<=25)(h8:∀x∈al.map Prod.fst,x.v.nb<=8/\x.v.nv<=8):
  iK w a n c al/\(al.map toAc).length<=25/\∀y∈al.map toAc,y.v.b.length<=8/\y.v.v.length<=8:=by
 refine⟨⟨h,fun p hp=>?_,?_,fun p hp=>(hq p hp).rng⟩,by simpa using h25,fun y hy=>?_⟩
 ·have q:=hq p hp
  have h9:=h8 p.1 (List.mem_map_of_mem hp)
  exact⟨⟨q.b,q.v,q.u,by omega,by omega⟩,q.b0,q.v0⟩
 ·have:=h.len
  omega
 ·obtain⟨p,hp,rfl⟩:=List.mem_map.1 hy
  have q:=hq p hp
  have h9:=h8 p.1 (List.mem_map_of_mem hp)
  have e1:=q.b.len
  have e2:=q.v.len
  show p.2.b.length<=8/\p.2.v.length<=8
  omega
structure LawR (C:Tp.Cf) (ca:Option Addr) (cn cc:Nat) (acts:List Tp.Ac) (w:World) (G:Nat) (t:Nat) (r:RW) (ns:List NE) (os:List (RO×Tp.Vw)) (k:Tp.Wd) (wr:World):Prop where
 wd:WdR wr r ns os k
 off:lS r ns os G
 box:wr.heap[G]?=some (.cells (m10 r.aw r.nw r.cw C r.ba r.bn r.bc r.tick r.na r.nn r.nc r.oa r.on r.oc) 32 (0,0))
 kb:wr.heap[w.heap.size]?=some (.cells (m02 ca cn cc C) 25 (0,0))
 bel:Below w.heap.size w wr
 g:w.heap.size<G
 ok:Tp.WOk acts k
 tk:k.tick=t
 c:k.c=C
section
variable {C:Tp.Cf}{bad:List Int}{ca:Option Addr}{cn cc:Nat}{acts:List Tp.Ac}{w wr w7:World}{G t:Nat}{r r7:RW}{ns ns7:List NE}{os os7:List (RO×Tp.Vw)}{k:Tp.Wd}
theorem LawR.keep (h:LawR C ca cn cc acts w G t r ns os k wr)(hb:Below wr.heap.size wr w7):LawR C ca cn cc acts w G t r ns os k w7:=
 ⟨h.wd.keep hb,h.off,bK hb h.box,bK hb h.kb,bS h.bel hb,h.g,h.ok,h.tk,h.c⟩
theorem LawR.start (h:WdR wr r ns [] (Tp.newW C bad))(hb:Below w.heap.size w wr)(kb:wr.heap[w.heap.size]?=some (.cells (m02 ca cn cc C) 25 (0,0)))(ok:Tp.WOk acts (Tp.newW C bad)):
  LawR C ca cn cc acts w wr.heap.size 3 r ns [] (Tp.newW C bad) (wr.alloc (.cells (m10 r.aw r.nw r.cw C r.ba r.bn r.bc r.tick r.na r.nn r.nc r.oa r.on r.oc) 32)):=by
 have hal:Below wr.heap.size wr (wr.alloc (.cells (m10 r.aw r.nw r.cw C r.ba r.bn r.bc r.tick r.na r.nn r.nc r.oa r.on r.oc) 32)):=(Below.refl _ _).alloc nr _
 exact⟨h.keep hal,h.away nr,heap_alloc_new wr _,bK hal kb,bS hb hal,(gS kb),ok,rfl,rfl⟩
theorem LawR.next (h:LawR C ca cn cc acts w G t r ns os k wr)(hb:Below wr.heap.size wr w7){al':List Tp.Ac}(hW:WdR w7 r7 ns7 os7 (Tp.doW k al'))(hO:lS r7 ns7 os7 G)(ha:al'=acts\/al'=[])(ht:t<1000)(T:cT G (.cells (m10 r7.aw r7.nw r7.cw C r7.ba r7.bn r7.bc r7.tick r7.na r7.nn r7.nc r7.oa r7.on r7.oc) 32 (0,0)) w7 ((((m06 w7 G r7.aw r7.nw r7.cw C r7.ba r7.bn r7.bc:World).setCell (m39 G) (m30 r7.tick)).setCell (m36 G) (m63 r7.na r7.nn r7.nc)).setCell (m60 G) (m63 r7.oa r7.on r7.oc))):LawR C ca cn cc acts w G (t+1) r7 ns7 os7 (Tp.doW k al') ((((m06 w7 G r7.aw r7.nw r7.cw C r7.ba r7.bn r7.bc:World).setCell (m39 G) (m30 r7.tick)).setCell (m36 G) (m63 r7.na r7.nn r7.nc)).setCell (m60 G) (m63 r7.oa r7.on r7.oc)):=by
 have h2:=h.keep hb
 exact⟨hW.keepS (cL T rfl) hO,hO,T.new,(T.block _ (by have:=h.g;omega)).trans h2.kb,h2.bel.trans (T.below (by have:=h.g;omega)),h.g,(h.ok.step ha (by rw[h.tk];omega)).1,by show k.tick+1=_;rw[h.tk];rfl,h.c⟩
end
end Go.Proofs.YtbbhinehcncmeaaGreat
