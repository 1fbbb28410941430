/- A part of the proof of the laws of the top: TpNodeH. No condition. -/
import Derived.Test.YtbbhinehcncmeaaGreatG25
namespace Go.Proofs.YtbbhinehcncmeaaGreat
open Go.RowKit
set_option linter.unusedSimpArgs false
set_option linter.unusedVariables false
set_option linter.unusedSectionVars false
set_option maxRecDepth 100000
set_option maxHeartbeats 4000000
section
theorem SlV.one {α:Type}{f:α->List Value}{q:Nat}{w:World}{g:Nat}{e:TypeId}{x:α}(hk:∀x,(f x).length=q)(hg:g<w.heap.size)(hb:w.heap[g]?=some (.cells (f x).toArray e (0,0)))(h9:(1:Nat)<=9):SlV f q w (some ⟨g,0,none⟩) 1 1 [x]:=by
 refine⟨rfl,Nat.le_refl _,(by omega),.inr ⟨g,0,rfl,hg,fun i hi j hj=>?_⟩⟩
 obtain rfl:i=0:=by simp at hi;omega
 have:=cA hb j
 simp only[Nat.zero_mul,Nat.zero_add,List.getElem_cons_zero]
 rw[this]
 simp
variable [Forb]
section
variable {w w':World}{X:Nat}{aw:Option Addr}{nw cw:Nat}{C:Tp.Cf}{r:RN}{os:List (RO×Tp.Vw)}{ta:Option Addr}{tn tc:Nat}{ts:List (RO×Tp.Vw)}{k:Tp.Nw}
theorem NW.below {w1:World}(h:NW w1 X aw nw cw C r os ta tn tc ts k)(hb:Below w1.heap.size w1 w'):NW w' X aw nw cw C r os ta tn tc ts k:=h.keep hb
theorem NW.storeIn (h:NW w X aw nw cw C r os ta tn tc ts k){t:RV}{y:Tp.Vw}(ht:VwR w t y)(ho:∀b,b=X\/Forb.bad b->t.Off b):
  NW ((w.setCell (m35 X) (m41 t)).setCell (m65 X) (m42 t)) X aw nw cw C { r with inn:=t } os ta tn tc ts (Tp.lH k y)/\aC (· =X) w ((w.setCell (m35 X) (m41 t)).setCell (m65 X) (m42 t)):=by
 have T:=cM [.slice t.ab t.nb t.cb,.slice t.av t.nv t.cv] 4 _ _ h.box (by show(6:Nat)<=19;omega)
 exact⟨h.turn (k':=Tp.lH k y) T ⟨h.nd.v,ht,h.nd.o,h.nd.ko,h.nd.no,h.nd.tick,h.nd.c,h.nd.full⟩ ⟨h.noff.v,ho X (.inl rfl),h.noff.o⟩ h.told h.toff h.kt (fun b e=>⟨⟨(h.fr b e).1.v,ho b (.inr e),(h.fr b e).1.o⟩,(h.fr b e).2⟩),cL T rfl⟩
theorem NW.storeO (h:NW w X aw nw cw C r os ta tn tc ts k):
  NW (w.setCell (m39 X) (m48)) X aw nw cw C { r with oa:=none,on:=0,oc:=0 } [] ta tn tc ts (Tp.setO k [])/\aC (· =X) w (w.setCell (m39 X) (m48)):=by
 have T:=cM [.slice none 0 0] 6 _ _ h.box (by show(7:Nat)<=19;omega)
 exact⟨h.turn (k':=Tp.setO k []) T ⟨h.nd.v,h.nd.inn,dD.none _,rfl,h.nd.no,h.nd.tick,h.nd.c,h.nd.full⟩ ⟨h.noff.v,h.noff.inn,⟨.inl rfl,fun p hp=>(by cases hp)⟩⟩ h.told h.toff h.kt (fun b e=>⟨⟨(h.fr b e).1.v,(h.fr b e).1.inn,⟨.inl rfl,fun p hp=>(by cases hp)⟩⟩,(h.fr b e).2⟩),cL T rfl⟩
theorem NW.storeTold (h:NW w X aw nw cw C r os ta tn tc ts k){a:Option Addr}{n c:Nat}{us:List (RO×Tp.Vw)}(hu:dD w a n c us)(ho:∀b,b=X\/Forb.bad b->dM a n us b):
  NW (w.setCell ⟨X,18,none⟩ (m63 a n c)) X aw nw cw C r os a n c us (Tp.nE k (us.map aS))/\aC (· =X) w (w.setCell ⟨X,18,none⟩ (m63 a n c)):=by
 have T:=cM [.slice a n c] 18 _ _ h.box (by show(19:Nat)<=19;omega)
 exact⟨h.turn (k':=Tp.nE k (us.map aS)) T ⟨h.nd.v,h.nd.inn,h.nd.o,h.nd.ko,h.nd.no,h.nd.tick,h.nd.c,h.nd.full⟩ h.noff hu (ho X (.inl rfl)) rfl (fun b e=>⟨(h.fr b e).1,ho b (.inr e)⟩),cL T rfl⟩
end
theorem aEc (X:Nat)(aw:Option Addr)(nw cw:Nat)(C:Tp.Cf)(k:Tp.Nw)(w:World)(hh:NWe w X aw nw cw C k)(hsl:0<=k.slot/\k.slot<=1000000):
  Calls Tryz.prog 66 (m46 X) w fun e w'=>e=.returned (.tuple #[])/\NWe w' X aw nw cw C (Tp.first C k)/\aC (· =X) w w':=by
 obtain⟨tot,htot⟩:∃t,Tp.first C k=t:=⟨_,rfl⟩
 rw[htot]
 have HTOT:=zH htot
 clear htot
 obtain⟨r,os,ta,tn,tc,ts,h⟩:=hh
 have hX:=h.lt
 obtain⟨pr,hpr⟩:∃z,Tp.mG C k.slot=z:=⟨_,rfl⟩
 have HPR:=zH hpr
 have hno:r.no=k.n.no:=h.nd.no
 have HW:=zH h
 have x0:w.cell? (m00 X)=some (.int .i64 k.n.no):=hno▸cA h.box 0
 have x12:w.cell? (m59 X)=some (.slice aw nw cw):=cA h.box 12
 have x13:w.cell? ⟨X,13,none⟩=some (.int .u64 C.sd):=cA h.box 13
 have x14:w.cell? ⟨X,14,none⟩=some (.int .i64 C.ep):=cA h.box 14
 have x15:w.cell? ⟨X,15,none⟩=some (.int .i64 C.nu):=cA h.box 15
 have x16:w.cell? ⟨X,16,none⟩=some (.int .i64 C.de):=cA h.box 16
 have x17:w.cell? (m47 X)=some (.int .i64 k.slot):=cA h.box 17
 have HNO:=zH hno
 clear h hno hpr
 go_enter Tryz.func66,Tryz.ntmps66
 go_wp2_with fail
 go_region_held3 (fun W=>W.cell? (m00 X)=some (.int .i64 k.n.no)/\W.cell? (m59 X)=some (.slice aw nw cw)/\W.cell? ⟨X,13,none⟩=some (.int .u64 C.sd)/\W.cell? ⟨X,14,none⟩=some (.int .i64 C.ep)/\W.cell? ⟨X,15,none⟩=some (.int .i64 C.nu)/\W.cell? ⟨X,16,none⟩=some (.int .i64 C.de)/\W.cell? (m47 X)=some (.int .i64 k.slot)) (first|exact⟨x0,x12,x13,x14,x15,x16,x17⟩|exact hx5)
  (first
   |(go_at_call 49;refine(gA aw nw cw C.W C.sd C.ep C.nu C.de k.slot _ HW.out.conf.len HW.out.conf.max HW.out.conf.seed (HW.out.conf.ints.keep (Below.refl _ w).drew)).mono ?_;rintro e w1 ⟨rfl,hb1⟩;rw[show Tp.aCm C.W C.sd C.ep C.nu C.de k.slot=pr from HPR.out];have hb1b:=bS ((Below.refl w.heap.size w).drew) hb1;have bx1:=cG hb1b HW.out.lt HW.out.box;have hx5:=(⟨HNO.out▸cA bx1 0,cA bx1 12,cA bx1 13,cA bx1 14,cA bx1 15,cA bx1 16,cA bx1 17⟩:w1.cell? (m00 X)=some (.int .i64 k.n.no)/\w1.cell? (m59 X)=some (.slice aw nw cw)/\w1.cell? ⟨X,13,none⟩=some (.int .u64 C.sd)/\w1.cell? ⟨X,14,none⟩=some (.int .i64 C.ep)/\w1.cell? ⟨X,15,none⟩=some (.int .i64 C.nu)/\w1.cell? ⟨X,16,none⟩=some (.int .i64 C.de)/\w1.cell? (m47 X)=some (.int .i64 k.slot))))
 have HB1:=zH hb1b
 clear x0 x12 x13 x14 x15 x16 x17 hx5 hb1 hb1b bx1
 by_cases hw0:k.n.no=pr
 case neg=>
  have hW:(k.n.no != pr)=true:=by simp[hw0]
  have HZ:Hid (k=tot):=zH (by rw[<-HTOT.out];unfold Tp.first;rw[HPR.out,if_neg hw0])
  clear hw0
  go_wp2_with fail
  exact bodyPost_ret (v:=.tuple #[]) (results_none rfl _ _ _) rfl ⟨rfl,⟨_,_,_,_,_,_,HZ.out▸(HW.out.keep HB1.out)⟩,cQ HB1.out⟩
 have hW:(k.n.no != pr)=false:=by simp[hw0]
 have HT2:Hid (tot=Tp.fF C (Tp.nE (Tp.gP C k) [⟨k.slot,k.n.no,Tp.lJ C (Tp.gP C k),(Tp.gP C k).n.v⟩]) (Tp.lone (Tp.lJ C (Tp.gP C k)))):=zH (by rw[<-HTOT.out];unfold Tp.first;rw[HPR.out,if_pos hw0])
 clear hw0
 have h1:=HW.out.keep HB1.out
 have x4:w1.cell? (m35 X)=some (.slice r.inn.ab r.inn.nb r.inn.cb):=cA h1.box 4
 have x5:w1.cell? (m65 X)=some (.slice r.inn.av r.inn.nv r.inn.cv):=cA h1.box 5
 have H1:=zH h1
 clear h1
 go_wp2_with fail
 refine(oF X aw nw cw C k r.inn k.n.inn w1 ⟨_,_,_,_,_,_,H1.out⟩ H1.out.nd.inn).mono ?_
 rintro e w2 ⟨t,rfl,ht,htn,⟨r2,os2,ta2,tn2,tc2,ts2,h2⟩,K2⟩
 obtain⟨h3,K3⟩:=h2.storeIn ht (H1.out.newOff htn)
 have y4:w2.cell? (m35 X)=some (.slice r2.inn.ab r2.inn.nb r2.inn.cb):=cA h2.box 4
 have y5:w2.cell? (m65 X)=some (.slice r2.inn.av r2.inn.nv r2.inn.cv):=cA h2.box 5
 have f4:=cH h2.box 4
 have f5:=cH h2.box 5
 have H3:=zH h3
 have K3:=zH (((cQ (S:=fun j=>j=X) HB1.out).trans K2).trans K3)
 clear h2 h3 K2 ht htn x4 x5
 dsimp only
 go_wp2_with fail
 generalize(w2.setCell (m35 X) (m41 t)).setCell (m65 X) (m42 t)=w3 at H3 K3⊢
 obtain⟨k1,hk1⟩:∃z,Tp.gP C k=z:=⟨_,rfl⟩
 have hs1:0<=k1.slot/\k1.slot<=1000000:=by rw[<-hk1];exact hsl
 rw[show Tp.lH (Tp.fF C k k.n.inn) (Tp.countL C k k.n.inn)=k1 from hk1]at H3
 rw[hk1]at HT2
 have HKS:Hid (k1.slot=k.slot/\k1.n.no=k.n.no):=zH (by rw[<-hk1];exact⟨rfl,rfl⟩)
 clear hk1 hsl
 obtain⟨r3,os3,ta3,tn3,tc3,ts3,h3⟩:∃r os ta tn tc ts,NW w3 X aw nw cw C r os ta tn tc ts k1:=⟨_,_,_,_,_,_,H3.out⟩
 have H3:=zH h3
 refine aDy _ (fun _ _ d _ _ h=>by cases d<;>exact h) X aw nw cw C k1 _ _ _ _ _ _ _ _ _ _ _ _ _ _ _ _ _ _ _ _ _ _ _ _ _ _ w3 (zH ⟨_,_,_,_,_,_,H3.out⟩) hs1 ?_ ?_ FtR.start
 ·intro W hb
  have hbx:=cG hb H3.out.lt H3.out.box
  exact⟨cA hbx 17,H3.out.nd.no▸cA hbx 0⟩
 intro g W hR
 have hgs:=(hR.aa g rfl).2
 obtain⟨W4,eW4_⟩:∃z,Hid (z=(((((W.setCell (m00 g) (m30 k1.slot)).setCell (m15 g) (m30 k1.n.no)).setCell (m25 g) (.int .u64 (Tp.aL C k1.n.v (k1.slot-1)).1)).setCell (m33 g) (.int .u64 (Tp.aL C k1.n.v (k1.slot-1)).2)).setCell (m35 g) (.int .u64 0))):=⟨_,zH rfl⟩
 have T:cT g (.cells #[.int .i64 k1.slot,.int .i64 k1.n.no,.int .u64 (Tp.aL C k1.n.v (k1.slot-1)).1,.int .u64 (Tp.aL C k1.n.v (k1.slot-1)).2,.int .u64 0] 56 (0,0)) W W4:=by cases eW4_.out;exact cM [.int .i64 k1.slot,.int .i64 k1.n.no,.int .u64 (Tp.aL C k1.n.v (k1.slot-1)).1,.int .u64 (Tp.aL C k1.n.v (k1.slot-1)).2,.int .u64 0] 0 _ _ (hR.aa g rfl).1 (by show(5:Nat)<=5;omega)
 have hXg:X≠g:=by have:=H3.out.lt;omega
 have H4:=zH ((NW.below H3.out hR.bel).far T hXg (H3.out.nd.away hgs) (H3.out.conf.away hgs) (H3.out.told.away hgs))
 have B4:=zH (hR.bel.trans (T.below hgs))
 have G4:=zH T.new
 clear hR h3
 rw[<-eW4_.out]
 clear T
 go_wp2_with fail
 have hd5:=(Below.refl W4.heap.size W4).drew
 have H5:=zH (H4.out.keep hd5)
 have B5:=zH B4.out.drew
 have HG5:=zH (bK hd5 G4.out)
 clear hd5
 refine cN [(4,fun W=>W.cell? (m47 X)=some (.int .i64 k1.slot)),(9,fun W=>W.cell? (m00 X)=some (.int .i64 k1.n.no)),(10,fun W=>W.cell? (m00 g)=some (.int .i64 k1.slot)/\W.cell? (m15 g)=some (.int .i64 k1.n.no)/\W.cell? (m25 g)=some (.int .u64 (Tp.aL C k1.n.v (k1.slot-1)).1)/\W.cell? (m33 g)=some (.int .u64 (Tp.aL C k1.n.v (k1.slot-1)).2)/\W.cell? (m35 g)=some (.int .u64 0)),(15,fun W=>W.cell? (m25 X)=some (.slice r3.v.ab r3.v.nb r3.v.cb)/\W.cell? (m33 X)=some (.slice r3.v.av r3.v.nv r3.v.cv))] (by kernel_rfl) ?_
 show aB _ _ _ _ _ _ _ _ W4.drew
 generalize W4.drew=w5 at H5 B5 HG5⊢
 have HV5:=zH H5.out.nd.v
 have HQ:Hid (∀W:World,W.heap[X]?=some (.cells (uQ aw nw cw C r3 k1.slot ta3 tn3 tc3).toArray 116 (0,0))->W.heap[g]?=some (.cells #[.int .i64 k1.slot,.int .i64 k1.n.no,.int .u64 (Tp.aL C k1.n.v (k1.slot-1)).1,.int .u64 (Tp.aL C k1.n.v (k1.slot-1)).2,.int .u64 0] 56 (0,0))->(W.cell? (m47 X)=some (.int .i64 k1.slot))/\(W.cell? (m00 X)=some (.int .i64 k1.n.no))/\(W.cell? (m00 g)=some (.int .i64 k1.slot)/\W.cell? (m15 g)=some (.int .i64 k1.n.no)/\W.cell? (m25 g)=some (.int .u64 (Tp.aL C k1.n.v (k1.slot-1)).1)/\W.cell? (m33 g)=some (.int .u64 (Tp.aL C k1.n.v (k1.slot-1)).2)/\W.cell? (m35 g)=some (.int .u64 0))/\(W.cell? (m25 X)=some (.slice r3.v.ab r3.v.nb r3.v.cb)/\W.cell? (m33 X)=some (.slice r3.v.av r3.v.nv r3.v.cv))):=zH (fun W e1 e2=>⟨cA e1 17,H5.out.nd.no▸cA e1 0,⟨cA e2 0,cA e2 1,cA e2 2,cA e2 3,cA e2 4⟩,cA e1 2,cA e1 3⟩)
 have hq5:=HQ.out w5 H5.out.box HG5.out
 obtain⟨hq51,hq52,hq53,hq54⟩:=hq5
 refine wX 0 rfl ?_
 refine wX 1 rfl ?_
 refine wX 2 rfl ?_
 refine wX 3 rfl ?_
 refine aZ 4 (v:=?_) (List.Mem.head _) rfl (by kernel_rfl) (by kernel_rfl) (by kernel_rfl) (fun _ _ _ h=>h) (Or.inl ⟨by rfl,?_⟩) ?_ ?_
 rotate_left
 ·(intro w' hSw;(try dsimp only at hSw);(try go_split_ands);go_simp;try with_reducible rfl)
 ·(try dsimp only);(try go_split_ands);first|assumption|(refine⟨?_,?_⟩<;>assumption)|(simp only[*];done)|(refine⟨?_,?_,?_,?_,?_⟩<;>assumption)|(refine⟨?_,?_,?_,?_,?_,?_,?_,?_,?_⟩<;>assumption)
 try simp only[Act.put,pA,pB,pC]
 refine wX 5 rfl ?_
 refine wX 6 rfl ?_
 refine wX 7 rfl ?_
 refine wX 8 rfl ?_
 refine aZ 9 (v:=?_) (List.Mem.tail _ (List.Mem.head _)) rfl (by kernel_rfl) (by kernel_rfl) (by kernel_rfl) (fun _ _ _ h=>h) (Or.inl ⟨by rfl,?_⟩) ?_ ?_
 rotate_left
 ·(intro w' hSw;(try dsimp only at hSw);(try go_split_ands);go_simp;try with_reducible rfl)
 ·(try dsimp only);(try go_split_ands);first|assumption|(refine⟨?_,?_⟩<;>assumption)|(simp only[*];done)|(refine⟨?_,?_,?_,?_,?_⟩<;>assumption)|(refine⟨?_,?_,?_,?_,?_,?_,?_,?_,?_⟩<;>assumption)
 try simp only[Act.put,pA,pB,pC]
 refine aZ 10 (v:=?_) (List.Mem.tail _ (List.Mem.tail _ (List.Mem.head _))) rfl (by kernel_rfl) (by kernel_rfl) (by kernel_rfl) (fun _ _ _ h=>h) (Or.inl ⟨by rfl,?_⟩) ?_ ?_
 rotate_left
 ·(intro w' hSw;(try dsimp only at hSw);(try go_split_ands);go_simp;try with_reducible rfl)
 ·(try dsimp only);(try go_split_ands);first|assumption|(refine⟨?_,?_⟩<;>assumption)|(simp only[*];done)|(refine⟨?_,?_,?_,?_,?_⟩<;>assumption)|(refine⟨?_,?_,?_,?_,?_,?_,?_,?_,?_⟩<;>assumption)
 try simp only[Act.put,pA,pB,pC]
 refine wX 11 rfl ?_
 refine wX 12 rfl ?_
 refine wX 13 rfl ?_
 refine wX 14 rfl ?_
 refine aZ 15 (v:=?_) (List.Mem.tail _ (List.Mem.tail _ (List.Mem.tail _ (List.Mem.head _)))) rfl (by kernel_rfl) (by kernel_rfl) (by kernel_rfl) (fun _ _ _ h=>h) (Or.inl ⟨by rfl,?_⟩) ?_ ?_
 rotate_left
 ·(intro w' hSw;(try dsimp only at hSw);(try go_split_ands);go_simp;try with_reducible rfl)
 ·(try dsimp only);(try go_split_ands);first|assumption|(refine⟨?_,?_⟩<;>assumption)|(simp only[*];done)|(refine⟨?_,?_,?_,?_,?_⟩<;>assumption)|(refine⟨?_,?_,?_,?_,?_,?_,?_,?_,?_⟩<;>assumption)
 try simp only[Act.put,pA,pB,pC]
 refine wX 16 rfl ?_
 refine cK 17 (by kernel_rfl) rfl (fun K hK=>?_)
 go_simp
 refine(qB ⟨k1.slot,k1.n.no,Tp.lJ C k1,r3.v⟩ k1.n.v w5 HV5.out).mono ?_
 rintro e w6 ⟨⟨tb,mt,kt,tv,nt,lt⟩,rfl,ht6,htn6,hb6⟩
 have HT6:=zH (And.intro ht6 htn6)
 have HB6:=zH hb6
 have hq6:=HQ.out w6 (cG hb6 H5.out.lt H5.out.box) (bK hb6 HG5.out)
 simp only[RO.val,offC,Tp.lJ]
 clear ht6 htn6 hb6
 refine hK.out _ _ ?_ ?_
 ·exact(hl4 hq6)
 clear hK K;try simp only[Act.put,pA,pB,pC]
 refine cK 18 (by kernel_rfl) rfl (fun K hK=>?_)
 go_simp
 have hal7:Below w6.heap.size w6 (w6.alloc (.cells #[.int .i64 k1.slot,.int .i64 k1.n.no,.int .i64 k1.slot,.int .i64 k1.n.no,.int .u64 (Tp.aL C k1.n.v (k1.slot-1)).1,.int .u64 (Tp.aL C k1.n.v (k1.slot-1)).2,.int .u64 0,.slice tb mt kt,.slice tv nt lt] 112)):=(Below.refl _ _).alloc nr _
 have HB7:=zH (bS HB6.out hal7)
 have HT7:=zH (And.intro (HT6.out.1.keep hal7) HT6.out.2)
 have hg7:(w6.alloc (.cells #[.int .i64 k1.slot,.int .i64 k1.n.no,.int .i64 k1.slot,.int .i64 k1.n.no,.int .u64 (Tp.aL C k1.n.v (k1.slot-1)).1,.int .u64 (Tp.aL C k1.n.v (k1.slot-1)).2,.int .u64 0,.slice tb mt kt,.slice tv nt lt] 112)).heap[w6.heap.size]?=some (.cells #[.int .i64 k1.slot,.int .i64 k1.n.no,.int .i64 k1.slot,.int .i64 k1.n.no,.int .u64 (Tp.aL C k1.n.v (k1.slot-1)).1,.int .u64 (Tp.aL C k1.n.v (k1.slot-1)).2,.int .u64 0,.slice tb mt kt,.slice tv nt lt] 112 (0,0)):=heap_alloc_new w6 _
 have HG7:=zH hg7
 have H7:=zH (H5.out.keep HB7.out)
 have HGB7:=zH (bK HB7.out HG5.out)
 have hq7:=HQ.out (w6.alloc (.cells #[.int .i64 k1.slot,.int .i64 k1.n.no,.int .i64 k1.slot,.int .i64 k1.n.no,.int .u64 (Tp.aL C k1.n.v (k1.slot-1)).1,.int .u64 (Tp.aL C k1.n.v (k1.slot-1)).2,.int .u64 0,.slice tb mt kt,.slice tv nt lt] 112)) H7.out.box HGB7.out
 have hs7:w6.heap.size<(w6.alloc (.cells #[.int .i64 k1.slot,.int .i64 k1.n.no,.int .i64 k1.slot,.int .i64 k1.n.no,.int .u64 (Tp.aL C k1.n.v (k1.slot-1)).1,.int .u64 (Tp.aL C k1.n.v (k1.slot-1)).2,.int .u64 0,.slice tb mt kt,.slice tv nt lt] 112)).heap.size:=by simp
 clear hal7 hg7
 generalize w6.alloc (.cells #[.int .i64 k1.slot,.int .i64 k1.n.no,.int .i64 k1.slot,.int .i64 k1.n.no,.int .u64 (Tp.aL C k1.n.v (k1.slot-1)).1,.int .u64 (Tp.aL C k1.n.v (k1.slot-1)).2,.int .u64 0,.slice tb mt kt,.slice tv nt lt] 112)=w7 at HB7 HT7 HG7 H7 HGB7 hq7 hs7⊢
 have hlu:SlV offC 9 w7 (some ⟨w6.heap.size,0,none⟩) 1 1 [(⟨k1.slot,k1.n.no,Tp.lJ C k1,⟨tb,mt,kt,tv,nt,lt⟩⟩:RO)]:=SlV.one dW hs7 HG7.out (by omega)
 have hou:dD w7 (some ⟨w6.heap.size,0,none⟩) 1 1 [((⟨k1.slot,k1.n.no,Tp.lJ C k1,⟨tb,mt,kt,tv,nt,lt⟩⟩:RO),k1.n.v)]:=⟨hlu,(fun e=>by cases e),(fun p hp=>by rw[List.mem_singleton.1 hp];exact HT7.out.1),(fun p hp=>by rw[List.mem_singleton.1 hp];exact Tp.aDk C k1),(by omega)⟩
 have hX6:X<w6.heap.size:=Nat.lt_of_lt_of_le H5.out.lt HB6.out.size
 obtain⟨h8,K8⟩:=H7.out.storeTold hou (fun y hy=>have hy5:=hy.elim (fun e=>e▸H5.out.lt) (H5.out.hi y);have hy6:=Nat.lt_of_lt_of_le hy5 HB6.out.size;⟨.inr fun b off e=>(by injection e with e;injection e with e1 e2 e3;omega),fun p hp=>by rw[List.mem_singleton.1 hp];exact HT7.out.2.off hy5⟩)
 have H8:=zH (And.intro h8 K8)
 have p18:w7.cell? ⟨X,18,none⟩=some (.slice ta3 tn3 tc3):=cA H7.out.box 18
 have q18:=cH H7.out.box 18
 clear h8 K8 hou hlu
 refine hK.out _ _ ?_ ?_
 ·exact(hl4 hq7)
 clear hK K;try simp only[Act.put,pA,pB,pC]
 refine wX 19 rfl ?_
 refine wX 20 rfl ?_
 refine cK 21 (by kernel_rfl) rfl (fun K hK=>?_)
 go_simp
 refine hK.out _ _ ?_ ?_
 ·exact⟨.inr (by kernel_rfl),.inr (by kernel_rfl),.inr (by kernel_rfl),.inr (by kernel_rfl),trivial⟩
 clear hK K;try simp only[Act.put,pA,pB,pC]
 refine cO (by kernel_rfl) ?_ _
 have G8:=(H8.out.2.block g (gS HGB7.out) (fun e=>hXg e.symm)).trans HGB7.out
 generalize w7.setCell ⟨X,18,none⟩ (.slice (some (m07 w6)) 1 1)=w8 at H8 G8⊢
 obtain⟨b0,b1,b2,b3,b4⟩:=kc5 G8
 clear G8 p18 q18 hq7 hs7
 go_wp2_with fail
 refine(xO (Tp.lJ C k1) w8).mono ?_
 rintro e w9 ⟨u,rfl,hu,hun,hb9⟩
 have HU:=zH (And.intro (hu (Tp.aDk C k1)) (And.intro hun hb9))
 clear hu hun hb9 b0 b1 b2 b3 b4
 dsimp only
 go_wp2_with fail
 refine(oF X aw nw cw C _ u (Tp.lone (Tp.lJ C k1)) w9 ⟨_,_,_,_,_,_,H8.out.1.keep HU.out.2.2⟩ HU.out.1).mono ?_
 rintro e w10 ⟨z,rfl,hz,hzn,hN,K10⟩
 have HZZ:Hid (NWe w10 X aw nw cw C tot):=zH (by rw[HT2.out,<-HKS.out.1,<-HKS.out.2];exact hN)
 have HK:=zH (((((K3.out.trans (cQ B5.out)).trans (cQ HB7.out)).trans H8.out.2).trans (cQ HU.out.2.2)).trans K10)
 clear hN K10 hz hzn
 dsimp only
 go_wp2_with fail
 exact bodyPost_end (v:=.tuple #[]) (results_none rfl _ _ _) rfl ⟨rfl,HZZ.out,HK.out⟩
end
end Go.Proofs.YtbbhinehcncmeaaGreat
