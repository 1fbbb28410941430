/- A part of the proof of the laws of the top: TpIdx, TpMay. No condition. -/
import Derived.Test.YtbbhinehcncmeaaGreatG15
namespace Go.Proofs.YtbbhinehcncmeaaGreat
open Go.RowKit
set_option linter.unusedSimpArgs false
set_option linter.unusedVariables false
set_option linter.unusedSectionVars false
set_option maxRecDepth 100000
set_option maxHeartbeats 8000000
structure RO where
 slot:Int
 who:Int
 b:Tp.B
 v:RV
structure RN where
 no:Int
 tick:Int
 v:RV
 inn:RV
 oa:Option Addr
 on:Nat
 oc:Nat
 p:Int
 q:Int
 sl:Int
 rev:Int
 full:Bool
structure RA where
 tick:Int
 dest:Int
 offer:Bool
 v:RV
def offC (r:RO):List Value:=[.int .i64 r.slot,.int .i64 r.who,.int .i64 r.b.slot,.int .i64 r.b.who,.int .u64 r.b.p,.int .u64 r.b.q,.int .u64 r.b.salt,.slice r.v.ab r.v.nb r.v.cb,.slice r.v.av r.v.nv r.v.cv]
def aT (r:RN):List Value:=[.int .i64 r.no,.int .i64 r.tick,.slice r.v.ab r.v.nb r.v.cb,.slice r.v.av r.v.nv r.v.cv,.slice r.inn.ab r.inn.nb r.inn.cb,.slice r.inn.av r.inn.nv r.inn.cv,.slice r.oa r.on r.oc,.int .u64 r.p,.int .u64 r.q,.int .i64 r.sl,.int .i64 r.rev,.bool r.full]
def actC (r:RA):List Value:=[.int .i64 r.tick,.int .i64 r.dest,.bool r.offer,.slice r.v.ab r.v.nb r.v.cb,.slice r.v.av r.v.nv r.v.cv]
theorem dW (x:RO):(offC x).length=9:=rfl
theorem cS (x:RN):(aT x).length=12:=rfl
theorem aHt (x:RA):(actC x).length=5:=rfl
theorem lI (x:RO):∀u∈offC x,u.oneCell'=true:=by intro u hu;simp[offC]at hu;rcases hu with rfl|rfl|rfl|rfl|rfl|rfl|rfl|rfl|rfl<;>rfl
theorem qW (x:RN):∀u∈aT x,u.oneCell'=true:=by intro u hu;simp[aT]at hu;rcases hu with rfl|rfl|rfl|rfl|rfl|rfl|rfl|rfl|rfl|rfl|rfl|rfl<;>rfl
theorem aLc (x:RA):∀u∈actC x,u.oneCell'=true:=by intro u hu;simp[actC]at hu;rcases hu with rfl|rfl|rfl|rfl|rfl<;>rfl
theorem lK :(Tryz.prog.info? 112).map (fun i=>(i.zero,i.size,i.bytes))=some (some (.agg (m24)),9,104):=by kernel_rfl
theorem rF :(Tryz.prog.info? 44).map (fun i=>(i.zero,i.size,i.bytes))=some (some (.agg (m20)),12,176):=by kernel_rfl
theorem aKh :(Tryz.prog.info? 102).map (fun i=>(i.zero,i.size,i.bytes))=some (some (.agg #[.int .i64 0,.int .i64 0,.bool false,.slice none 0 0,.slice none 0 0]),5,72):=by kernel_rfl
namespace Tp
section
variable {α:Type}
def idxP (p:α->Bool):List α->Nat->Int
 | [],_=>-1
 |y::r,k=>if p y then k else idxP p r (k+1)
theorem xT (p:α->Bool)(l:List α):∀k:Nat,decide (idxP p l k≥0)=l.any p:=by
 induction l with
 |nil=>intro k;rfl
 |cons y r ih=>
  intro k
  unfold idxP
  rw[List.any_cons]
  cases h:p y with
  |true=>simp
  |false=>rw[if_neg (by simp),ih];rfl
theorem tL (p:α->Bool)(l:List α)(k:Nat)(h:k<l.length):idxP p (l.drop k) k=if p l[k]then(k:Int)else idxP p (l.drop (k+1)) (k+1):=by
 rw[List.drop_eq_getElem_cons h]
 try rfl
end
end Tp
section
variable (g:Nat)(pre post:Array Value)(a:Option Addr)(n c:Nat)(l:List Tp.V)(p:Tp.V->Bool)(w:World)(h:SlV aH 4 w a n c l)(hcall:(∀args w,(callFunc g args).run Tryz.prog w=.ok (.enter g args) w)/\
   ∀x∈l,∀W,Below w.heap.size w W->Calls Tryz.prog g (pre.push (.agg (aH x).toArray)++post) W fun e W'=>e=.returned (.bool (p x))/\Below W.heap.size W W')
include g pre post a n c l p w h hcall
theorem tM :
  Calls Tryz.prog 122 #[.slice a n c,.func (.func g) pre post] w fun e w'=>e=.returned (m30 (Tp.idxP p l 0))/\Below w.heap.size w w':=by
 have hm:n<=9223372036854775807:=Nat.le_trans h.cap h.top
 obtain⟨eg,hcl⟩:=hcall
 have HC:=zH hcl
 have HH:=zH h
 clear hcl h
 go_enter Tryz.func122,Tryz.ntmps122
 go_wp2_with fail
 go_loopw [8] (fun i wr=>∃j:Nat,j<=n/\i=.int .i64 j/\Tp.idxP p l 0=Tp.idxP p (l.drop j) j/\Below w.heap.size w wr) (fun i _=>n-(intOf i).toNat)
 case atStart=>exact⟨0,Nat.zero_le _,rfl,rfl,Below.refl _ _⟩
 case round=>
  obtain⟨j,hj,rfl,hidx,hbel⟩:=hrel
  have HI:=zH hidx
  have HB:=zH hbel
  clear hidx hbel
  by_cases hjn:j<n
  case neg=>
   obtain rfl:j=n:=by omega
   have hres:Hid (Tp.idxP p l 0=-1):=zH (by rw[HI.out,List.drop_of_length_le (by rw[HH.out.len];exact Nat.le_refl _)];rfl)
   go_wp2
   go_ret
   exact⟨by rw[hres.out];rfl,HB.out⟩
  have hjl:j<l.length:=by rw[HH.out.len];exact hjn
  have hd:=Tp.tL p l j hjl
  rcases HH.out.rows with h0|⟨b,o,rfl,hlt,hc⟩
  ·omega
  have hx:∀i,i<4->wr.cell? (m09 b (o+j*4+i))=(aH l[j])[i]?:=fun i hi=>(HB.out.cell (p:=⟨b,_,none⟩) hlt).trans (hc j hjl i hi)
  have hcj:=HC.out l[j] (List.getElem_mem hjl) wr HB.out
  obtain⟨⟨x0,x1,x2,x3⟩,hX⟩:∃x,l[j]=x:=⟨_,rfl⟩
  rw[hX]at hx hcj hd
  have c0:wr.cell? (m09 b (o+j*4))=some (.int .i64 x0):=hx 0 (by omega)
  have c1:wr.cell? (m09 b (o+j*4+1))=some (.int .i64 x1):=hx 1 (by omega)
  have c2:wr.cell? (m09 b (o+j*4+2))=some (.int .u64 x2):=hx 2 (by omega)
  have c3:wr.cell? (m09 b (o+j*4+3))=some (.int .u64 x3):=hx 3 (by omega)
  have k0:(0:Int)<=j:=by omega
  have k1:(j:Int)<n:=by omega
  have HCJ:=zH hcj
  clear hx hX hcj hc
  cases hp:p ⟨x0,x1,x2,x3⟩with
  |true=>
   have hres:Hid (Tp.idxP p l 0=j):=zH (by rw[HI.out,hd,hp];rfl)
   have HP:=zH hp
   clear hd hp
   go_wp2_with (refine HCJ.out.mono ?_;rintro e w2 ⟨rfl,hb2⟩;rw[HP.out])
   go_ret
   exact⟨by rw[hres.out];rfl,bS HB.out hb2⟩
  |false=>
   have hres:Hid (Tp.idxP p l 0=Tp.idxP p (l.drop (j+1)) (j+1)):=zH (by rw[HI.out,hd,hp];rfl)
   have HP:=zH hp
   clear hd hp
   go_wp2_with (refine HCJ.out.mono ?_;rintro e w2 ⟨rfl,hb2⟩;rw[HP.out])
   exact⟨⟨j+1,by omega,by go_num,hres.out,bS HB.out hb2⟩,by simp[intOf];omega⟩
theorem tR :
  Calls Tryz.prog 147 #[.slice a n c,.func (.func g) pre post] w fun e w'=>e=.returned (.bool (l.any p))/\Below w.heap.size w w':=by
 have HH:=zH h
 have HC:=zH hcall
 have hge:decide (Tp.idxP p l 0≥0)=l.any p:=Tp.xT p l 0
 obtain⟨i,hi⟩:∃i,Tp.idxP p l 0=i:=⟨_,rfl⟩
 rw[hi]at hge
 have HI:=zH hi
 obtain⟨t,ht⟩:∃t,l.any p=t:=⟨_,rfl⟩
 rw[ht]at hge⊢
 clear hi ht h hcall
 go_enter Tryz.func147,Tryz.ntmps147
 go_wp2_with (go_at_call 122;refine(tM g pre post a n c l p _ HH.out HC.out).mono ?_;rintro e w' ⟨rfl,hb⟩;rw[HI.out])
 go_ret
 exact⟨rfl,hb⟩
end
section
variable (g:Nat)(pre post:Array Value)(a:Option Addr)(n c:Nat)(l:List RN)(p:RN->Bool)(w:World)(h:SlV aT 12 w a n c l)(hcall:(∀args w,(callFunc g args).run Tryz.prog w=.ok (.enter g args) w)/\
   ∀x∈l,∀W,Below w.heap.size w W->Calls Tryz.prog g (pre.push (.agg (aT x).toArray)++post) W fun e W'=>e=.returned (.bool (p x))/\Below W.heap.size W W')
include g pre post a n c l p w h hcall
theorem tN :
  Calls Tryz.prog 76 #[.slice a n c,.func (.func g) pre post] w fun e w'=>e=.returned (m30 (Tp.idxP p l 0))/\Below w.heap.size w w':=by
 have hm:n<=9223372036854775807:=Nat.le_trans h.cap h.top
 obtain⟨eg,hcl⟩:=hcall
 have HC:=zH hcl
 have HH:=zH h
 clear hcl h
 go_enter Tryz.func76,Tryz.ntmps76
 go_wp2_with fail
 go_loopw [8] (fun i wr=>∃j:Nat,j<=n/\i=.int .i64 j/\Tp.idxP p l 0=Tp.idxP p (l.drop j) j/\Below w.heap.size w wr) (fun i _=>n-(intOf i).toNat)
 case atStart=>exact⟨0,Nat.zero_le _,rfl,rfl,Below.refl _ _⟩
 case round=>
  obtain⟨j,hj,rfl,hidx,hbel⟩:=hrel
  have HI:=zH hidx
  have HB:=zH hbel
  clear hidx hbel
  by_cases hjn:j<n
  case neg=>
   obtain rfl:j=n:=by omega
   have hres:Hid (Tp.idxP p l 0=-1):=zH (by rw[HI.out,List.drop_of_length_le (by rw[HH.out.len];exact Nat.le_refl _)];rfl)
   go_wp2
   go_ret
   exact⟨by rw[hres.out];rfl,HB.out⟩
  have hjl:j<l.length:=by rw[HH.out.len];exact hjn
  have hd:=Tp.tL p l j hjl
  rcases HH.out.rows with h0|⟨b,o,rfl,hlt,hc⟩
  ·omega
  have hx:∀i,i<12->wr.cell? (m09 b (o+j*12+i))=(aT l[j])[i]?:=fun i hi=>(HB.out.cell (p:=⟨b,_,none⟩) hlt).trans (hc j hjl i hi)
  have hcj:=HC.out l[j] (List.getElem_mem hjl) wr HB.out
  obtain⟨⟨x0,x1,⟨v0,v1,v2,v3,v4,v5⟩,⟨i0,i1,i2,i3,i4,i5⟩,o0,o1,o2,x2,x3,x4,x5,x6⟩,hX⟩:∃x,l[j]=x:=⟨_,rfl⟩
  rw[hX]at hx hcj hd
  have c0:wr.cell? (m09 b (o+j*12))=some (.int .i64 x0):=hx 0 (by omega)
  have c1:wr.cell? (m09 b (o+j*12+1))=some (.int .i64 x1):=hx 1 (by omega)
  have c2:wr.cell? (m09 b (o+j*12+2))=some (.slice v0 v1 v2):=hx 2 (by omega)
  have c3:wr.cell? (m09 b (o+j*12+3))=some (.slice v3 v4 v5):=hx 3 (by omega)
  have c4:wr.cell? (m09 b (o+j*12+4))=some (.slice i0 i1 i2):=hx 4 (by omega)
  have c5:wr.cell? (m09 b (o+j*12+5))=some (.slice i3 i4 i5):=hx 5 (by omega)
  have c6:wr.cell? (m09 b (o+j*12+6))=some (.slice o0 o1 o2):=hx 6 (by omega)
  have c7:wr.cell? (m09 b (o+j*12+7))=some (.int .u64 x2):=hx 7 (by omega)
  have c8:wr.cell? (m09 b (o+j*12+8))=some (.int .u64 x3):=hx 8 (by omega)
  have c9:wr.cell? (m09 b (o+j*12+9))=some (.int .i64 x4):=hx 9 (by omega)
  have c10:wr.cell? (m09 b (o+j*12+10))=some (.int .i64 x5):=hx 10 (by omega)
  have c11:wr.cell? (m09 b (o+j*12+11))=some (.bool x6):=hx 11 (by omega)
  have k0:(0:Int)<=j:=by omega
  have k1:(j:Int)<n:=by omega
  have HCJ:=zH hcj
  clear hx hX hcj hc
  cases hp:p ⟨x0,x1,⟨v0,v1,v2,v3,v4,v5⟩,⟨i0,i1,i2,i3,i4,i5⟩,o0,o1,o2,x2,x3,x4,x5,x6⟩with
  |true=>
   have hres:Hid (Tp.idxP p l 0=j):=zH (by rw[HI.out,hd,hp];rfl)
   have HP:=zH hp
   clear hd hp
   go_wp2_with (refine HCJ.out.mono ?_;rintro e w2 ⟨rfl,hb2⟩;rw[HP.out])
   go_ret
   exact⟨by rw[hres.out];rfl,bS HB.out hb2⟩
  |false=>
   have hres:Hid (Tp.idxP p l 0=Tp.idxP p (l.drop (j+1)) (j+1)):=zH (by rw[HI.out,hd,hp];rfl)
   have HP:=zH hp
   clear hd hp
   go_wp2_with (refine HCJ.out.mono ?_;rintro e w2 ⟨rfl,hb2⟩;rw[HP.out])
   exact⟨⟨j+1,by omega,by go_num,hres.out,bS HB.out hb2⟩,by simp[intOf];omega⟩
theorem lZ :
  Calls Tryz.prog 38 #[.slice a n c,.func (.func g) pre post] w fun e w'=>e=.returned (.bool (l.any p))/\Below w.heap.size w w':=by
 have HH:=zH h
 have HC:=zH hcall
 have hge:decide (Tp.idxP p l 0≥0)=l.any p:=Tp.xT p l 0
 obtain⟨i,hi⟩:∃i,Tp.idxP p l 0=i:=⟨_,rfl⟩
 rw[hi]at hge
 have HI:=zH hi
 obtain⟨t,ht⟩:∃t,l.any p=t:=⟨_,rfl⟩
 rw[ht]at hge⊢
 clear hi ht h hcall
 go_enter Tryz.func38,Tryz.ntmps38
 go_wp2_with (go_at_call 76;refine(tN g pre post a n c l p _ HH.out HC.out).mono ?_;rintro e w' ⟨rfl,hb⟩;rw[HI.out])
 go_ret
 exact⟨rfl,hb⟩
end
namespace Tp
def badV (m:List ((Int×Int)×Int)) (v:V):Bool:=match at_ m (v.p,v.q)with
 |none=>true
 |some s=>decide (v.slot<s)
def aQ (c:Cf) (x:Vw):Bool:=
 mayC c.W c.ep c.nu c.de&&may x.b&&decide (x.b.length<=60)&&decide (x.v.length<=240)&&decide ((only c x).b.length=x.b.length)&&decide ((only c x).v.length=x.v.length)&&(decide ((fP x.v).length=x.v.length)&& !(x.v.any (badV (aJ x.b))))
end Tp
theorem aGo (X XB:Nat)(S:Nat->Prop)(k:Tp.Wk)(x0 x1 x2 x3:Int)(w:World)(hW:WkAt w X S k)(hB:w.heap[XB]?=some (.cells (m46 X) 213 (0,0))):
  Calls Tryz.prog 146 #[.agg (m12 x0 x1 x2 x3),.pointer (some (m00 XB))] w fun e w'=>e=.returned (.bool (Tp.badV k.slot ⟨x0,x1,x2,x3⟩))/\Below w.heap.size w w':=by
 obtain⟨w3,ew3_⟩:∃z,Hid (z=w.alloc (.cells (m12 x0 x1 x2 x3) 84)):=⟨_,zH rfl⟩
 have hbel:Below w.heap.size w w3:=by cases ew3_.out;exact(Below.refl _ w).alloc nr _
 have hB3:w3.heap[w.heap.size]?=some (.cells (m12 x0 x1 x2 x3) 84 (0,0)):=by cases ew3_.out;exact heap_alloc_new w _
 have hX3:=bK hbel hB
 obtain⟨ab,av,cb,cv,mb,hb,hC⟩:=hW.below hbel
 have HBEL:=zH hbel
 clear hW hB
 go_enter Tryz.func146,Tryz.ntmps146
 go_wp2_with fail
 rw[<-ew3_.out]
 have hrd:∀W:World,W.heap=w3.heap->W.cell? (m00 XB)=some (.pointer (some (m00 X)))/\W.cell? (m25 X)=some (.map (some mb))/\W.cell? (m17 w)=some (.int .u64 x2)/\W.cell? (m19 w)=some (.int .u64 x3)/\
   (Instr.lookup 75 (m43 mb) (m67 x2 x3) true).run Tryz.prog W=.ok (rC (Tp.at_ k.slot (x2,x3))) W:=by
  intro W hW
  have hC2:=hC.keep (w':=W) fun j _ _=>by rw[hW]
  exact⟨cA (by rw[hW];exact hX3) 0,hC2.c2.2.2.1,cA (by rw[hW];exact hB3) 2,cA (by rw[hW];exact hB3) 3,hC2.om.map.look fC Tryz.underlying75 (dK _) (x2,x3) true⟩
 have b1:w3.cell? (m14 w)=some (.int .i64 x1):=cA hB3 1
 have HRD:=zH hrd
 clear hrd hB3 hX3 hC
 have hbd:Tp.badV k.slot ⟨x0,x1,x2,x3⟩=match Tp.at_ k.slot (x2,x3)with|none=>true|some s=>decide (x1<s):=rfl
 cases hpt:Tp.at_ k.slot (x2,x3)with
 |none=>
  rw[hpt]at HRD hbd
  have HBD:=zH hbd
  have HR:Hid (∀W:World,W.heap=w3.heap->W.cell? (m00 XB)=some (.pointer (some (m00 X)))/\W.cell? (m25 X)=some (.map (some mb))/\W.cell? (m17 w)=some (.int .u64 x2)/\W.cell? (m19 w)=some (.int .u64 x3)/\(Instr.lookup 75 (m43 mb) (m67 x2 x3) true).run Tryz.prog W=.ok (m38) W):=HRD
  clear hpt hbd HRD
  go_region_held3 (fun W=>W.cell? (m00 XB)=some (.pointer (some (m00 X)))/\W.cell? (m25 X)=some (.map (some mb))/\W.cell? (m17 w)=some (.int .u64 x2)/\W.cell? (m19 w)=some (.int .u64 x3)/\(Instr.lookup 75 (m43 mb) (m67 x2 x3) true).run Tryz.prog W=.ok (m38) W)
   (exact HR.out _ rfl)
   (fail)
  go_wp2
  go_ret
  exact⟨by rw[HBD.out];rfl,HBEL.out.drew⟩
 |some s=>
  rw[hpt]at HRD hbd
  have HR:Hid (∀W:World,W.heap=w3.heap->W.cell? (m00 XB)=some (.pointer (some (m00 X)))/\W.cell? (m25 X)=some (.map (some mb))/\W.cell? (m17 w)=some (.int .u64 x2)/\W.cell? (m19 w)=some (.int .u64 x3)/\(Instr.lookup 75 (m43 mb) (m67 x2 x3) true).run Tryz.prog W=.ok (m34 s) W):=HRD
  obtain⟨t,ht⟩:∃t,decide (x1<s)=t:=⟨_,rfl⟩
  have ht2:decide (s>x1)=t:=ht
  simp only[ht]at hbd
  have HBD:=zH hbd
  clear hpt hbd HRD ht
  go_region_held3 (fun W=>W.cell? (m00 XB)=some (.pointer (some (m00 X)))/\W.cell? (m25 X)=some (.map (some mb))/\W.cell? (m17 w)=some (.int .u64 x2)/\W.cell? (m19 w)=some (.int .u64 x3)/\(Instr.lookup 75 (m43 mb) (m67 x2 x3) true).run Tryz.prog W=.ok (m34 s) W)
   (exact HR.out _ rfl)
   (fail)
  go_wp2
  go_ret
  exact⟨by rw[HBD.out];rfl,HBEL.out.drew⟩
theorem pT {w:World}{b i:Nat}{v:Value}(h:w.cell? (m09 b i)=some v):b<w.heap.size:=by
 rcases Nat.lt_or_ge b w.heap.size with h1|h1
 ·exact h1
 ·simp[World.cell?,Array.getElem?_eq_none h1]at h
theorem SlV.same {α:Type}{f:α->List Value}{k:Nat}{w w':World}{a:Option Addr}{n c:Nat}{l:List α}(h:SlV f k w a n c l)(hw:w'.heap=w.heap):SlV f k w' a n c l:=by
 refine⟨h.len,h.cap,h.top,?_⟩
 rcases h.rows with h0|⟨b,o,ha,hlt,hc⟩
 ·exact .inl h0
 ·exact .inr ⟨b,o,ha,by rw[hw];exact hlt,fun i hi j hj=>by rw[<-hc i hi j hj];simp[World.cell?,hw]⟩
theorem iP {P:Program}{t k e ty:TypeId}(ht:P.underlying t=some (.map k e)){b:Nat}{es:Array MapEntry}{clock:Nat}{w:World}(hb:w.heap[b]?=some (.map es clock)):
  (Builtin.len_ #[t] ty #[.map (some b)]).run P w=.ok (m30 es.size) w:=by
 simp[Builtin.len_,run_underlying ht,MapKept.run_getObj_map hb,goInt]
theorem bD.len {K V:Type}{ke:K->Value}{ve:V->Value}{w:World}{b:Nat}{m:List (K×V)}(h:bD ke ve w b m):∃es c,w.heap[b]?=some (.map es c)/\es.size=m.length:=by
 obtain⟨es,c,h1,h2⟩:=h
 exact⟨es,c,h1,by simpa using congrArg List.length h2⟩
theorem xC (aw:Option Addr)(nw cw:Nat)(C:Tp.Cf)(r:RV)(x:Tp.Vw)(w:World)(hC:aP w aw nw C.W C.sd)(hx:VwR w r x):
  Calls Tryz.prog 129 #[.agg (m02 aw nw cw C),.agg (m01 r)] w fun e w'=>e=.returned (.bool (Tp.aQ C x))/\Below w.heap.size w w':=by
 obtain⟨w1,ew1_⟩:∃z,Hid (z=(w.alloc (.cells (m02 aw nw cw C) 25)).alloc (m49 r)):=⟨_,zH rfl⟩
 have hb2:Below w.heap.size w (w1):=by cases ew1_.out;exact cR _ _
 have hs2:w.heap.size+1<(w1).heap.size:=by cases ew1_.out;simp
 have hcf:(w1).heap[w.heap.size]?=some (.cells (m02 aw nw cw C) 25 (0,0)):=by cases ew1_.out;rw[cF,if_neg (by simp),cF,if_pos rfl]
 have hvw:(w1).heap[w.heap.size+1]?=some (.cells (m01 r) 38 (0,0)):=by cases ew1_.out;rw[cF,if_pos (by simp)]
 go_enter Tryz.func129,Tryz.ntmps129
 go_upto_region 1 with fail
 rw[<-ew1_.out]
 obtain⟨d0,d1,d2,d3,d4⟩:=kc5 hcf
 have HC:=zH (hC.keep hb2)
 have HX:=zH (hx.keep hb2)
 have HB2:=zH hb2
 have HCF:=zH hcf
 have HVW:=zH hvw
 clear hC hx hb2 hcf hvw
 obtain⟨m1,hm1⟩:∃b,Tp.mayC C.W C.ep C.nu C.de=b:=⟨_,rfl⟩
 obtain⟨m2,hm2⟩:∃b,Tp.may x.b=b:=⟨_,rfl⟩
 have hdef:Tp.aQ C x=(m1&&m2&&decide (x.b.length<=60)&&decide (x.v.length<=240)&&decide ((Tp.only C x).b.length=x.b.length)&&decide ((Tp.only C x).v.length=x.v.length)&&(decide ((Tp.fP x.v).length=x.v.length)&& !(x.v.any (Tp.badV (Tp.aJ x.b))))):=by
  unfold Tp.aQ
  rw[hm1,hm2]
 have HD:=zH hdef
 have HM1:=zH hm1
 have HM2:=zH hm2
 clear hdef hm1 hm2
 have lb:=HX.out.ok.b.len
 have lv:=HX.out.ok.v.len
 have bm:=HX.out.ok.bm
 have vm:=HX.out.ok.vm
 have HLB:=zH lb
 have HLV:=zH lv
 clear lb lv
 cases m1 with
 |false=>
  have HRES:Hid (Tp.aQ C x=false):=zH (by rw[HD.out];rfl)
  go_wp2_with (go_at_call 23;refine(dB aw nw cw C.W C.sd C.ep C.nu C.de _ HC.out.len HC.out.max HC.out.ints).mono ?_;rintro e w2 ⟨rfl,hb2⟩;rw[HM1.out];have v0:w2.cell? (m22 w)=some (.slice r.ab r.nb r.cb):=cA (cG hb2 hs2 HVW.out) 0;have HB12:=zH (bS HB2.out hb2))
  go_ret
  exact⟨by rw[HRES.out];rfl,HB12.out⟩
 |true=>
 cases m2 with
 |false=>
  have HRES:Hid (Tp.aQ C x=false):=zH (by rw[HD.out];rfl)
  go_wp2_with (first|(go_at_call 23;refine(dB aw nw cw C.W C.sd C.ep C.nu C.de _ HC.out.len HC.out.max HC.out.ints).mono ?_;rintro e w2 ⟨rfl,hb2⟩;rw[HM1.out];have v0:w2.cell? (m22 w)=some (.slice r.ab r.nb r.cb):=cA (cG hb2 hs2 HVW.out) 0;have HB12:=zH (bS HB2.out hb2))|(go_at_call 13;refine(hZ r.ab r.nb r.cb x.b _ HLB.out (by omega) HX.out.ok.u (HX.out.ok.b.rows.blks.keep hb2)).mono ?_;rintro e w3 ⟨rfl,hb3⟩;rw[HM2.out];have hbb:=hb2.trans (hb3.mono hb2.size);have vx:=cG hbb hs2 HVW.out;have cx:=cG hbb (Nat.lt_of_succ_lt hs2) HCF.out;have v0:w3.cell? (m22 w)=some (.slice r.ab r.nb r.cb):=cA vx 0;have v1:w3.cell? (m29 w)=some (.slice r.av r.nv r.cv):=cA vx 1;have c0:w3.cell? (m07 w)=some (.slice aw nw cw):=cA cx 0;have c1:w3.cell? (m14 w)=some (.int .u64 C.sd):=cA cx 1;have c2:w3.cell? (m17 w)=some (.int .i64 C.ep):=cA cx 2;have c3:w3.cell? (m19 w)=some (.int .i64 C.nu):=cA cx 3;have c4:w3.cell? (m27 w)=some (.int .i64 C.de):=cA cx 4;have HB13:=zH (bS HB2.out hbb);have HBB:=zH hbb;clear vx cx hbb hb3 hb2))
  go_ret
  exact⟨by rw[HRES.out];rfl,HB13.out⟩
 |true=>
 by_cases hA1:r.nb<=60
 case neg=>
  have HRES:Hid (Tp.aQ C x=false):=zH (by rw[HD.out,HLB.out,decide_eq_false hA1];rfl)
  have e1:decide ((r.nb:Int)>60)=true:=decide_eq_true (by omega)
  go_wp2_with (first|(go_at_call 23;refine(dB aw nw cw C.W C.sd C.ep C.nu C.de _ HC.out.len HC.out.max HC.out.ints).mono ?_;rintro e w2 ⟨rfl,hb2⟩;rw[HM1.out];have v0:w2.cell? (m22 w)=some (.slice r.ab r.nb r.cb):=cA (cG hb2 hs2 HVW.out) 0;have HB12:=zH (bS HB2.out hb2))|(go_at_call 13;refine(hZ r.ab r.nb r.cb x.b _ HLB.out (by omega) HX.out.ok.u (HX.out.ok.b.rows.blks.keep hb2)).mono ?_;rintro e w3 ⟨rfl,hb3⟩;rw[HM2.out];have hbb:=hb2.trans (hb3.mono hb2.size);have vx:=cG hbb hs2 HVW.out;have cx:=cG hbb (Nat.lt_of_succ_lt hs2) HCF.out;have v0:w3.cell? (m22 w)=some (.slice r.ab r.nb r.cb):=cA vx 0;have v1:w3.cell? (m29 w)=some (.slice r.av r.nv r.cv):=cA vx 1;have c0:w3.cell? (m07 w)=some (.slice aw nw cw):=cA cx 0;have c1:w3.cell? (m14 w)=some (.int .u64 C.sd):=cA cx 1;have c2:w3.cell? (m17 w)=some (.int .i64 C.ep):=cA cx 2;have c3:w3.cell? (m19 w)=some (.int .i64 C.nu):=cA cx 3;have c4:w3.cell? (m27 w)=some (.int .i64 C.de):=cA cx 4;have HB13:=zH (bS HB2.out hbb);have HBB:=zH hbb;clear vx cx hbb hb3 hb2))
  go_ret
  exact⟨by rw[HRES.out];rfl,HB13.out⟩
 have e1:decide ((r.nb:Int)>60)=false:=decide_eq_false (by omega)
 by_cases hA2:r.nv<=240
 case neg=>
  have HRES:Hid (Tp.aQ C x=false):=zH (by rw[HD.out,HLV.out,decide_eq_false hA2];simp)
  have e2:decide ((r.nv:Int)>240)=true:=decide_eq_true (by omega)
  go_wp2_with (first|(go_at_call 23;refine(dB aw nw cw C.W C.sd C.ep C.nu C.de _ HC.out.len HC.out.max HC.out.ints).mono ?_;rintro e w2 ⟨rfl,hb2⟩;rw[HM1.out];have v0:w2.cell? (m22 w)=some (.slice r.ab r.nb r.cb):=cA (cG hb2 hs2 HVW.out) 0;have HB12:=zH (bS HB2.out hb2))|(go_at_call 13;refine(hZ r.ab r.nb r.cb x.b _ HLB.out (by omega) HX.out.ok.u (HX.out.ok.b.rows.blks.keep hb2)).mono ?_;rintro e w3 ⟨rfl,hb3⟩;rw[HM2.out];have hbb:=hb2.trans (hb3.mono hb2.size);have vx:=cG hbb hs2 HVW.out;have cx:=cG hbb (Nat.lt_of_succ_lt hs2) HCF.out;have v0:w3.cell? (m22 w)=some (.slice r.ab r.nb r.cb):=cA vx 0;have v1:w3.cell? (m29 w)=some (.slice r.av r.nv r.cv):=cA vx 1;have c0:w3.cell? (m07 w)=some (.slice aw nw cw):=cA cx 0;have c1:w3.cell? (m14 w)=some (.int .u64 C.sd):=cA cx 1;have c2:w3.cell? (m17 w)=some (.int .i64 C.ep):=cA cx 2;have c3:w3.cell? (m19 w)=some (.int .i64 C.nu):=cA cx 3;have c4:w3.cell? (m27 w)=some (.int .i64 C.de):=cA cx 4;have HB13:=zH (bS HB2.out hbb);have HBB:=zH hbb;clear vx cx hbb hb3 hb2))
  go_ret
  exact⟨by rw[HRES.out];rfl,HB13.out⟩
 have e2:decide ((r.nv:Int)>240)=false:=decide_eq_false (by omega)
 have HD2:Hid (Tp.aQ C x=(decide ((Tp.only C x).b.length=r.nb)&&decide ((Tp.only C x).v.length=r.nv)&&(decide ((Tp.fP x.v).length=r.nv)&& !(x.v.any (Tp.badV (Tp.aJ x.b)))))):=zH (by rw[HD.out,HLB.out,HLV.out,decide_eq_true hA1,decide_eq_true hA2];rfl)
 clear HD hA1 hA2
 go_wp2_with (first
  |(go_at_call 23;refine(dB aw nw cw C.W C.sd C.ep C.nu C.de _ HC.out.len HC.out.max HC.out.ints).mono ?_;rintro e w2 ⟨rfl,hb2⟩;rw[HM1.out];have v0:w2.cell? (m22 w)=some (.slice r.ab r.nb r.cb):=cA (cG hb2 hs2 HVW.out) 0;have HB12:=zH (bS HB2.out hb2))
  |(go_at_call 13;refine(hZ r.ab r.nb r.cb x.b _ HLB.out (by omega) HX.out.ok.u (HX.out.ok.b.rows.blks.keep hb2)).mono ?_;rintro e w3 ⟨rfl,hb3⟩;rw[HM2.out];have hbb:=hb2.trans (hb3.mono hb2.size);have vx:=cG hbb hs2 HVW.out;have cx:=cG hbb (Nat.lt_of_succ_lt hs2) HCF.out;have v0:w3.cell? (m22 w)=some (.slice r.ab r.nb r.cb):=cA vx 0;have v1:w3.cell? (m29 w)=some (.slice r.av r.nv r.cv):=cA vx 1;have c0:w3.cell? (m07 w)=some (.slice aw nw cw):=cA cx 0;have c1:w3.cell? (m14 w)=some (.int .u64 C.sd):=cA cx 1;have c2:w3.cell? (m17 w)=some (.int .i64 C.ep):=cA cx 2;have c3:w3.cell? (m19 w)=some (.int .i64 C.nu):=cA cx 3;have c4:w3.cell? (m27 w)=some (.int .i64 C.de):=cA cx 4;have HB13:=zH (bS HB2.out hbb);have HBB:=zH hbb;clear vx cx hbb hb3 hb2))
 refine(qT aw nw cw C r x _ (HC.out.keep HBB.out) (HX.out.keep HBB.out)).mono ?_
 rintro e w4 ⟨t,rfl,ob,ov,hb4⟩
 have hb14:=bS HBB.out hb4
 have vx4:=cG hb14 hs2 HVW.out
 obtain⟨v0,v1⟩:=kc2 vx4
 have hz4:w.heap.size+1<w4.heap.size:=Nat.lt_of_lt_of_le hs2 hb14.size
 have HB14:=zH (bS HB2.out hb14)
 have HB4:=zH hb14
 have HV4:=zH vx4
 have lb2:=(cP cY ob).1.len
 have lv2:=(cP cW ov).1.len
 clear ob ov hb4 hb14 vx4
 have HD3:Hid (Tp.aQ C x=(decide (t.nb=r.nb)&&decide (t.nv=r.nv)&&(decide ((Tp.fP x.v).length=r.nv)&& !(x.v.any (Tp.badV (Tp.aJ x.b)))))):=zH (by rw[HD2.out,lb2,lv2])
 clear lb2 lv2 HD2
 by_cases hn1:t.nb=r.nb
 case neg=>
  have HRES:Hid (Tp.aQ C x=false):=zH (by rw[HD3.out,decide_eq_false hn1];rfl)
  have e3:((t.nb:Int) != r.nb)=true:=bne_iff_ne.2 (by omega)
  clear hn1
  go_wp2
  go_ret
  exact⟨by rw[HRES.out];rfl,HB14.out.alloc HB14.out.size _⟩
 have e3:((t.nb:Int) != r.nb)=false:=by rw[hn1];simp
 by_cases hn2:t.nv=r.nv
 case neg=>
  have HRES:Hid (Tp.aQ C x=false):=zH (by rw[HD3.out,decide_eq_false hn2];simp)
  have e4:((t.nv:Int) != r.nv)=true:=bne_iff_ne.2 (by omega)
  clear hn1 hn2
  go_wp2
  go_ret
  exact⟨by rw[HRES.out];rfl,HB14.out.alloc HB14.out.size _⟩
 have e4:((t.nv:Int) != r.nv)=false:=by rw[hn2];simp
 have HD4:Hid (Tp.aQ C x=(decide ((Tp.fP x.v).length=r.nv)&& !(x.v.any (Tp.badV (Tp.aJ x.b))))):=zH (by rw[HD3.out,decide_eq_true hn1,decide_eq_true hn2];rfl)
 have hb5:Below w1.heap.size w1 (w4.alloc (m49 t)):=HB4.out.alloc HB4.out.size _
 have HX5:=zH (HX.out.keep hb5)
 have HB5:=zH (bS HB2.out hb5)
 have HV5:=zH (cG hb5 hs2 HVW.out)
 have hz5:w.heap.size+1<(w4.alloc (m49 t)).heap.size:=by simp only[World.size_alloc];omega
 have v5:(w4.alloc (m49 t)).cell? (m29 w)=some (.slice r.av r.nv r.cv):=cA HV5.out 1
 clear hn1 hn2 HD3 hb5
 go_wp2_with fail
 generalize w4.alloc (m49 t)=w5 at HX5 HB5 HV5 hz5 v5⊢
 refine(uS r x 0 w5 HX5.out).mono ?_
 rintro e w6 ⟨X,rfl,hW6,hb6⟩
 have v6:w6.cell? (m29 w)=some (.slice r.av r.nv r.cv):=cA (cG hb6 hz5 HV5.out) 1
 have hb57:Below w5.heap.size w5 (w6.alloc (.cells (m46 X) 213)):=hb6.alloc hb6.size _
 have hV7:=cG hb57 hz5 HV5.out
 have hX7:=HX5.out.keep hb57
 have hW7:=hW6.below (w':=w6.alloc (.cells (m46 X) 213)) ((Below.refl _ _).alloc nr _)
 have hP7:(w6.alloc (.cells (m46 X) 213)).heap[w6.heap.size]?=some (.cells (m46 X) 213 (0,0)):=heap_alloc_new w6 _
 have HB7:=zH (bS HB5.out hb57)
 have HX7:=zH hX7
 have HV7:=zH hV7
 have HW7:=zH hW7
 have HP7:=zH hP7
 clear hb57 hV7 hX7 hW7 hP7 hW6 hb6 v6 v5
 go_wp2_with fail
 generalize w6.alloc (.cells (m46 X) 213)=w7 at HB7 HX7 HV7 HW7 HP7⊢
 obtain⟨XB,hXB⟩:∃k,w6.heap.size=k:=⟨_,rfl⟩
 rw[hXB]at HP7⊢
 clear hXB
 obtain⟨ab,av,cb,cv,mb,hb,hC⟩:=HW7.out
 obtain⟨es,cl,hes,hsz⟩:=hC.oh.map.len
 have hsz2:es.size=(Tp.fP x.v).length:=hsz
 have hcl:∀(W0:World),W0.heap=w7.heap->∀y∈x.v,∀W,Below W0.heap.size W0 W->Calls Tryz.prog 146 ((#[]:Array Value).push (.agg (aH y).toArray)++(m46 XB)) W fun e W'=>e=.returned (.bool (Tp.badV (Tp.aJ x.b) y))/\Below W.heap.size W W':=by
  intro W0 h0 y hy W hb
  obtain⟨y0,y1,y2,y3⟩:=y
  have hW0:WkAt W0 X (fun j=>w5.heap.size+1<=j) (Tp.wkOf x 0):=HW7.out.keep fun j _ _=>by rw[h0]
  exact aGo X XB _ (Tp.wkOf x 0) y0 y1 y2 y3 W (hW0.below hb) (cG hb (by rw[h0];exact(gS HP7.out)) (by rw[h0];exact HP7.out))
 have hrd:∀W:World,W.heap=w7.heap->W.cell? (m00 XB)=some (.pointer (some (m00 X)))/\W.cell? (m33 X)=some (.map (some hb))/\(Builtin.len_ #[216] 3 #[.map (some hb)]).run Tryz.prog W=.ok (m30 es.size) W/\W.cell? (m29 w)=some (.slice r.av r.nv r.cv):=by
  intro W hW
  exact⟨cA (by rw[hW];exact HP7.out) 0,cA (by rw[hW];exact hC.box) 3,iP Tryz.underlying216 (by rw[hW];exact hes),cA (by rw[hW];exact HV7.out) 1⟩
 have hxv:∀W:World,W.heap=w7.heap->SlV aH 4 W r.av r.nv r.cv x.v:=fun W hW=>HX7.out.ok.v.same hW
 have HCL:=zH hcl
 have HES:Hid (w7.drew.heap[hb]?=some (.map es cl)):=zH hes
 have HRD:=zH hrd
 have HXV:=zH hxv
 obtain⟨any,hany⟩:∃b,x.v.any (Tp.badV (Tp.aJ x.b))=b:=⟨_,rfl⟩
 have HANY:=zH hany
 have HD5:Hid (Tp.aQ C x=(decide (es.size=r.nv)&& !any)):=zH (by rw[HD4.out,<-hsz2,hany])
 clear hcl hrd hxv hC hes hsz hsz2 hany HD4
 by_cases hl:es.size=r.nv
 case neg=>
  have HRES:Hid (Tp.aQ C x=false):=zH (by rw[HD5.out,decide_eq_false hl];rfl)
  have e5:((es.size:Int)==r.nv)=false:=beq_eq_false_iff_ne.2 (by omega)
  obtain⟨r0,r1,-,r3⟩:=HRD.out w7 rfl
  have r2:=fun n=>(HRD.out (w7.drewN n) rfl).2.2.1
  clear hl
  go_quiet (fail)
  go_wp2
  go_ret
  exact⟨by rw[HRES.out];rfl,HB7.out.trans (cV _ _ _)⟩
 have HRES:Hid (Tp.aQ C x=!any):=zH (by rw[HD5.out,decide_eq_true hl];rfl)
 have e5:((es.size:Int)==r.nv)=true:=by rw[hl];simp
 clear hl HD5
 go_region_held3 (fun W=>W.cell? (m00 XB)=some (.pointer (some (m00 X)))/\W.cell? (m33 X)=some (.map (some hb))/\(Builtin.len_ #[216] 3 #[.map (some hb)]).run Tryz.prog W=.ok (m30 es.size) W/\W.cell? (m29 w)=some (.slice r.av r.nv r.cv))
  (first|exact HRD.out _ rfl|exact hS8)
  (first
   |(go_at_call 147;refine(tR 146 #[] (m46 XB) r.av r.nv r.cv x.v (Tp.badV (Tp.aJ x.b)) w7.drew (HXV.out _ rfl) ⟨enters_of Tryz.func146 (by kernel_rfl) rfl,HCL.out _ rfl⟩).mono ?_;rintro e w8 ⟨rfl,hb8⟩;rw[HANY.out];have hS8:=(by have h0:=HRD.out w7.drew rfl;exact⟨(hb8.cell (p:=(m00 XB)) (gS HP7.out)).trans h0.1,(hb8.cell (p:=(m33 X)) (pT h0.2.1)).trans h0.2.1,iP Tryz.underlying216 ((hb8.block hb (gS HES.out)).trans HES.out),(hb8.cell (p:=(m29 w)) (pT h0.2.2.2)).trans h0.2.2.2⟩:w8.cell? (m00 XB)=some (.pointer (some (m00 X)))/\w8.cell? (m33 X)=some (.map (some hb))/\(Builtin.len_ #[216] 3 #[.map (some hb)]).run Tryz.prog w8=.ok (m30 es.size) w8/\w8.cell? (m29 w)=some (.slice r.av r.nv r.cv));have HB8:=zH (bS (HB7.out.drew) hb8)))
 go_wp2
 go_ret
 exact⟨by rw[HRES.out];rfl,HB8.out⟩
end Go.Proofs.YtbbhinehcncmeaaGreat
