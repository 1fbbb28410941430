/- A part of the proof of the laws of the top: TpAwake. No condition. -/
import Derived.Test.YtbbhinehcncmeaaGreatG34
import Derived.Test.YtbbhinehcncmeaaGreatG40
import Derived.Test.YtbbhinehcncmeaaGreatG41
namespace Go.Proofs.YtbbhinehcncmeaaGreat
open Go.RowKit
set_option linter.unusedSimpArgs false
set_option linter.unusedVariables false
set_option linter.unusedSectionVars false
set_option maxRecDepth 100000
set_option maxHeartbeats 4000000
section
theorem zP {α β:Type}{f:α->β}{y:β}:∀{l:List α},l.map f=[y]->∃x,l=[x]/\f x=y
 | [],h=>by cases h
 | [x],h=>⟨x,rfl,by simpa using h⟩
 |x::z::r,h=>by simp at h
theorem aJu :(Tp.iJ [] Tp.oneC.W.length).map (fun i:Nat=>newE (i:Int))=[newE 0]:=by kernel_rfl
attribute [local irreducible] Tp.oneW Tp.newW Tp.doW Tp.name Tp.holds Tp.stands Tp.iJ
theorem oO (w:World):Calls Tryz.prog 6 #[] w fun e w'=>e=.returned (.bool true)/\Below w.heap.size w w':=by
 obtain⟨⟨y0,y1⟩,hy⟩:∃z,Tp.name Tp.oneB=z:=⟨_,rfl⟩
 have HY:Hid (Tp.name ⟨1,0,0,0,0⟩=(y0,y1)):=zH hy
 have HY2:Hid (Tp.name Tp.oneB=(y0,y1)):=zH hy
 clear hy
 go_enter Tryz.func6,Tryz.ntmps6
 go_wp2_with fail
 refine(aJn w).mono ?_
 rintro e w1 ⟨a,rfl,hc1,hb1⟩
 have B1:=zH hb1
 have HC1:=zH hc1
 clear hb1 hc1
 try dsimp only
 go_wp2_with fail
 refine(qX a 1 1 Tp.oneC none 0 0 [] w1 HC1.out Tp.aCt (by omega) (SlV.nil _) (by omega) (fun _=>⟨rfl,rfl⟩)).mono ?_
 rintro e w2 ⟨r2,ns2,rfl,hW2,⟨hns,h1,h2,h3⟩,hb2⟩
 have hns2:ns2=[newE 0]:=hns.trans aJu
 subst hns2
 obtain⟨aw,nw,cw,ba,bn,bc,tick,na,nn,nc,oa,on_,oc⟩:=r2
 simp only at h1 h2 h3
 subst h1 h2 h3
 have B2:=zH (bS B1.out hb2)
 rw[<-Tp.aCv]at hW2
 have HW2:=zH hW2
 clear hb2 hW2 hns
 simp only[aR]
 try dsimp only
 go_wp2_with fail
 refine(aCe Tp.oneC Tp.oneW aw nw cw ba bn bc tick na nn nc w2 HW2.out Tp.tA Tp.aMc Tp.tB).mono ?_
 rintro e w3 ⟨r,ns,os,rfl,hW3,hb3⟩
 simp only[aR,Tp.oneC]
 have hcur:ns.map (fun p=>(p.k.c.p,p.k.c.q))=[(y0,y1)]:=by
  have h:=Tp.aJm
  rw[hW3.kn,HY2.out,List.map_map]at h
  exact h
 obtain⟨n0,rfl,hcu2⟩:=zP hcur
 obtain⟨hp,hq0⟩:=Prod.mk.inj hcu2
 have hmem:n0.k∈(Tp.oneW 3).n:=by rw[hW3.kn];simp
 have hst:Tp.stands (Tp.oneW 3) (y0,y1) n0.k=true:=by
  have h:=Tp.aCu
  unfold Tp.holds at h
  rw[HY2.out]at h
  simp only[Bool.not_eq_true',List.any_eq_false]at h
  have:=h _ hmem
  simpa using this
 have hnt:n0.k.tick=6:=by
  obtain⟨U,hU,_⟩:=Tp.aCs 3 (by omega)
  exact(hU.nt _ hmem).trans (Tp.kR 3)
 have HT:Hid (1<=n0.k.tick/\n0.k.tick<=1000000):=zH (by rw[hnt];omega)
 have HS:=zH hst
 have hnw:r.nw=1:=hW3.conf.len.symm.trans (by rw[Tp.tB];rfl)
 have HNW:=zH hnw
 have hcell:=hW3.n.cells (j:=0) (by simp) (p:=n0) rfl
 have hnc:=(hW3.n.nd n0 (List.mem_singleton.2 rfl)).c
 obtain⟨nb,no_,hna,hnlt,hnc2⟩:=hcell
 rw[hnc]at hp hq0
 have HND:Hid (∀W:World,Below w3.heap.size w3 W->W.cell? (m09 nb (no_+7))=some (.int .u64 y0)/\W.cell? (m09 nb (no_+8))=some (.int .u64 y1)):=zH (fun W hb=>by
  have e7:=hnc2 7 (by omega)
  have e8:=hnc2 8 (by omega)
  rw[Nat.zero_mul,Nat.add_zero]at e7 e8
  exact⟨(hb.cell (p:=(m09 nb (no_+7))) hnlt).trans (e7.trans (by rw[<-hp];rfl)),(hb.cell (p:=(m09 nb (no_+8))) hnlt).trans (e8.trans (by rw[<-hq0];rfl))⟩)
 have HNA:=zH hna
 have B3:=zH (bS B2.out hb3)
 have HW3:=zH hW3
 clear hcur hcu2 hp hq0 hmem hst hnt hnw hnc hna hnlt hnc2 hb3 hW3
 have hn1:r.nn=1:=HW3.out.n.len.symm
 rw[hn1,HNW.out]
 have HN1:=zH hn1
 clear hn1
 try dsimp only
 go_wp2_with fail
 have hal:Below w3.heap.size w3 (w3.alloc (.cells #[.slice r.aw 1 r.cw,.int .u64 0,.int .i64 1,.int .i64 1,.int .i64 4,.slice r.ba r.bn r.bc,.int .i64 r.tick,.slice r.na 1 r.nc,.slice r.oa r.on r.oc] 32)):=(Below.refl _ _).alloc nr _
 have hbw:(w3.alloc (.cells #[.slice r.aw 1 r.cw,.int .u64 0,.int .i64 1,.int .i64 1,.int .i64 4,.slice r.ba r.bn r.bc,.int .i64 r.tick,.slice r.na 1 r.nc,.slice r.oa r.on r.oc] 32)).heap[w3.heap.size]?=some (.cells #[.slice r.aw 1 r.cw,.int .u64 0,.int .i64 1,.int .i64 1,.int .i64 4,.slice r.ba r.bn r.bc,.int .i64 r.tick,.slice r.na 1 r.nc,.slice r.oa r.on r.oc] 32 (0,0)):=heap_alloc_new w3 _
 generalize hBW:w3.heap.size=BW at hal hbw HND⊢
 generalize(w3.alloc (.cells #[.slice r.aw 1 r.cw,.int .u64 0,.int .i64 1,.int .i64 1,.int .i64 4,.slice r.ba r.bn r.bc,.int .i64 r.tick,.slice r.na 1 r.nc,.slice r.oa r.on r.oc] 32))=w4 at hal hbw⊢
 refine(gD 1 0 0 0 0 w4 ⟨by omega,by omega⟩ ⟨by omega,by omega⟩ ⟨by omega,by omega⟩ y0 y1 HY).mono ?_
 rintro e w5 ⟨rfl,hb5⟩
 have hbw5:=bK hb5 hbw
 have D5:Hid (Below BW w3 w5):=zH (hal.trans (hb5.mono (by have:=hal.size;omega)))
 clear hal hb5 hbw
 try dsimp only
 go_wp2_with fail
 have hal:Below w5.heap.size w5 (w5.alloc (m40 y0 y1)):=(Below.refl _ _).alloc nr _
 have hbi:(w5.alloc (m40 y0 y1)).heap[w5.heap.size]?=some (.cells (m08 y0 y1) 40 (0,0)):=heap_alloc_new w5 _
 generalize hBI:w5.heap.size=BI at hal hbi⊢
 generalize(w5.alloc (m40 y0 y1))=w6 at hal hbi⊢
 refine cN [(0,fun W=>W.cell? (m00 BW)=some (.slice r.aw 1 r.cw)/\W.cell? (m15 BW)=some (.int .u64 0)/\W.cell? (m25 BW)=some (.int .i64 1)/\W.cell? (m33 BW)=some (.int .i64 1)/\W.cell? (m35 BW)=some (.int .i64 4)/\W.cell? (m65 BW)=some (.slice r.ba r.bn r.bc)/\W.cell? (m39 BW)=some (.int .i64 r.tick)/\W.cell? (m36 BW)=some (.slice r.na 1 r.nc)/\W.cell? (m60 BW)=some (.slice r.oa r.on r.oc)),(1,fun W=>W.cell? (m00 BI)=some (.int .u64 y0)/\W.cell? (m15 BI)=some (.int .u64 y1)),(5,fun W=>W.cell? (m36 BW)=some (.slice r.na 1 r.nc)),(9,fun W=>W.cell? (m09 nb (no_+7))=some (.int .u64 y0)/\W.cell? (m09 nb (no_+8))=some (.int .u64 y1)),(10,fun W=>W.cell? (m00 BI)=some (.int .u64 y0)/\W.cell? (m15 BI)=some (.int .u64 y1)),(15,fun W=>W.cell? (m00 BW)=some (.slice r.aw 1 r.cw)/\W.cell? (m15 BW)=some (.int .u64 0)/\W.cell? (m25 BW)=some (.int .i64 1)/\W.cell? (m33 BW)=some (.int .i64 1)/\W.cell? (m35 BW)=some (.int .i64 4))] (by kernel_rfl) ?_
 show aB _ _ _ _ _ _ _ _ w6.drew
 have hb56:Below w5.heap.size w5 w6.drew:=by rw[hBI];exact hal.drew
 have hbw7:=bK hb56 hbw5
 have hbi7:=cG (Below.refl w6.heap.size w6).drew (gS hbi) hbi
 have D7:Hid (Below BW w3 w6.drew):=zH (D5.out.trans (hb56.mono (by have:=D5.out.size;omega)))
 clear hal hbi hb56 hbw5 D5
 generalize w6.drew=w7 at hbw7 hbi7 D7⊢
 have HBX:=zH (And.intro hbw7 hbi7)
 have D37:Hid (Below w3.heap.size w3 w7):=zH (by rw[hBW];exact D7.out)
 have HW7:=zH (HW3.out.keep D37.out)
 have HC7:Hid (aP w7 r.aw 1 [1] 0):=zH (by have:=HW7.out.conf;rw[Tp.tB,HNW.out]at this;exact this)
 have HQ:Hid (∀W:World,Below w7.heap.size w7 W->(W.cell? (m00 BW)=some (.slice r.aw 1 r.cw)/\W.cell? (m15 BW)=some (.int .u64 0)/\W.cell? (m25 BW)=some (.int .i64 1)/\W.cell? (m33 BW)=some (.int .i64 1)/\W.cell? (m35 BW)=some (.int .i64 4)/\W.cell? (m65 BW)=some (.slice r.ba r.bn r.bc)/\W.cell? (m39 BW)=some (.int .i64 r.tick)/\W.cell? (m36 BW)=some (.slice r.na 1 r.nc)/\W.cell? (m60 BW)=some (.slice r.oa r.on r.oc))/\(W.cell? (m00 BI)=some (.int .u64 y0)/\W.cell? (m15 BI)=some (.int .u64 y1))/\(W.cell? (m36 BW)=some (.slice r.na 1 r.nc))/\(W.cell? (m09 nb (no_+7))=some (.int .u64 y0)/\W.cell? (m09 nb (no_+8))=some (.int .u64 y1))/\(W.cell? (m00 BW)=some (.slice r.aw 1 r.cw)/\W.cell? (m15 BW)=some (.int .u64 0)/\W.cell? (m25 BW)=some (.int .i64 1)/\W.cell? (m33 BW)=some (.int .i64 1)/\W.cell? (m35 BW)=some (.int .i64 4))):=zH (fun W hb=>by
  have e:=bK hb HBX.out.1
  have e1:=bK hb HBX.out.2
  exact⟨⟨cA e 0,cA e 1,cA e 2,cA e 3,cA e 4,cA e 5,cA e 6,cA e 7,cA e 8⟩,⟨cA e1 0,cA e1 1⟩,cA e 7,HND.out W (D7.out.trans (hb.mono (by have:=D7.out.size;omega))),⟨cA e 0,cA e 1,cA e 2,cA e 3,cA e 4⟩⟩)
 have hq:=HQ.out w7 (Below.refl _ _)
 have he:=tX y0 y1 y0 y1
 have hrn:=HNA.out
 clear hbw7 hbi7
 refine wY 0 0 (oi:=⟨some 8,.load 32 (.tmp 1),32,"top21.go:22",#[],none⟩) rfl rfl (hq.1) ?_
 refine wY 1 1 (oi:=⟨some 9,.load 40 (.tmp 2),40,"top21.go:22",#[],none⟩) rfl rfl (hq.2.1) ?_
 refine cK 2 (by kernel_rfl) rfl (fun K hK=>?_)
 go_simp
 have hh:=aDw r n0 os (Tp.oneW 3) y0 y1 w7 HW7.out HT.out
 rw[Tp.tB]at hh
 simp only[aR,Tp.oneC]at hh
 rw[HN1.out,HNA.out,HNW.out]at hh
 refine hh.mono ?_
 clear hh
 rintro e w8 ⟨rfl,hb8⟩
 rw[HS.out]
 have B8:=zH hb8
 have hq8:=HQ.out w8 hb8
 clear hb8
 refine hK.out _ _ ?_ ?_
 ·exact⟨.inl hq8.1,.inl hq8.2.1,.inl hq8.2.2.1,.inl hq8.2.2.2.1,.inl hq8.2.1,.inl hq8.2.2.2.2,trivial⟩
 clear hK K;try simp only[Act.put,pA,pB,pC]
 refine wX 3 (oi:=⟨some 11,.move (.tmp 10),4,"top21.go:22",#[⟨2,.data⟩,⟨2,.chain⟩],none⟩) rfl ?_
 refine wX 4 (oi:=⟨some 12,.fieldAddr 32 (.tmp 1) 3,0,"top21.go:22",#[⟨3,.guard⟩],some (3,true)⟩) rfl ?_ (hw:=by kernel_rfl)
 refine wY 2 5 (oi:=⟨some 13,.load 29 (.tmp 12),29,"top21.go:22",#[⟨4,.data⟩,⟨3,.guard⟩],some (3,true)⟩) rfl rfl (hq8.2.2.1) ?_ (hw:=by kernel_rfl)
 refine wX 6 (oi:=⟨some 14,.indexAddr 29 (.tmp 13) (.const (.int .i64 0)),0,"top21.go:22",#[⟨5,.data⟩,⟨3,.guard⟩],some (3,true)⟩) rfl ?_ (hw:=by kernel_rfl)
 refine wX 7 (oi:=⟨some 15,.fieldAddr 44 (.tmp 14) 5,0,"top21.go:22",#[⟨6,.data⟩,⟨3,.guard⟩],some (3,true)⟩) rfl ?_ (hw:=by kernel_rfl)
 refine wX 8 (oi:=⟨some 16,.fieldAddr 42 (.tmp 15) 0,0,"top21.go:22",#[⟨7,.data⟩,⟨3,.guard⟩],some (3,true)⟩) rfl ?_ (hw:=by kernel_rfl)
 refine wY 3 9 (oi:=⟨some 17,.load 40 (.tmp 16),40,"top21.go:22",#[⟨8,.data⟩,⟨3,.guard⟩],some (3,true)⟩) rfl rfl (hq8.2.2.2.1) ?_ (hw:=by kernel_rfl)
 refine wY 4 10 (oi:=⟨some 18,.load 40 (.tmp 2),40,"top21.go:22",#[⟨3,.guard⟩],some (3,true)⟩) rfl rfl (hq8.2.1) ?_ (hw:=by kernel_rfl)
 refine wX 11 (oi:=⟨some 19,.binOp .eql 40 (.tmp 17) (.tmp 18) 40,4,"top21.go:22",#[⟨9,.data⟩,⟨10,.data⟩,⟨3,.guard⟩],some (3,true)⟩) rfl ?_ (hw:=by kernel_rfl)
 refine wX 12 (oi:=⟨some 20,.pick (.tmp 11) (.tmp 19) (.const (.bool false)),4,"top21.go:22",#[⟨3,.data⟩,⟨11,.data⟩],none⟩) rfl ?_
 refine wX 13 (oi:=⟨some 21,.move (.tmp 20),4,"top21.go:22",#[⟨12,.data⟩,⟨3,.chain⟩],none⟩) rfl ?_
 refine wX 14 (oi:=⟨some 22,.fieldAddr 32 (.tmp 1) 0,0,"top21.go:22",#[⟨13,.guard⟩],some (13,true)⟩) rfl ?_ (hw:=by kernel_rfl)
 refine wY 5 15 (oi:=⟨some 23,.load 25 (.tmp 22),25,"top21.go:22",#[⟨14,.data⟩,⟨13,.guard⟩],some (13,true)⟩) rfl rfl (hq8.2.2.2.2) ?_ (hw:=by kernel_rfl)
 refine cK 16 (by kernel_rfl) rfl (fun K hK=>?_)
 go_simp
 refine(vD r.aw r.cw w8 (HC7.out.keep B8.out) Tp.zM).mono ?_
 rintro e w9 ⟨rfl,hb9⟩
 have B9:=zH (bS B8.out hb9)
 have hq9:=HQ.out w9 (bS B8.out hb9)
 clear hb9
 refine hK.out _ _ ?_ ?_
 ·exact⟨.inl hq9.1,.inl hq9.2.1,.inl hq9.2.2.1,.inl hq9.2.2.2.1,.inl hq9.2.1,.inl hq9.2.2.2.2,trivial⟩
 clear hK K;try simp only[Act.put,pA,pB,pC]
 refine wX 17 (oi:=⟨some 25,.pick (.tmp 21) (.tmp 24) (.const (.bool false)),4,"top21.go:22",#[⟨13,.data⟩,⟨16,.data⟩],none⟩) rfl ?_
 refine wX 18 (oi:=⟨some 0,.assign (.tmp 25),4,"top21.go:22",#[⟨17,.data⟩,⟨16,.chain⟩,⟨0,.phase⟩,⟨1,.phase⟩,⟨2,.phase⟩,⟨3,.phase⟩,⟨4,.phase⟩,⟨5,.phase⟩,⟨6,.phase⟩,⟨7,.phase⟩,⟨8,.phase⟩,⟨9,.phase⟩,⟨10,.phase⟩,⟨11,.phase⟩,⟨12,.phase⟩,⟨13,.phase⟩,⟨14,.phase⟩,⟨15,.phase⟩,⟨16,.phase⟩,⟨17,.phase⟩],none⟩) rfl ?_
 refine cO (by kernel_rfl) ?_ _
 try dsimp only
 go_wp2_with fail
 refine bodyPost_ret (v:=.bool true) ?_ rfl ⟨rfl,bS (bS B3.out D37.out) B9.out⟩
 simp[results,Tryz.results6,go_sem]
end
end Go.Proofs.YtbbhinehcncmeaaGreat
