/- A part of the proof of the laws of the top: TpAlike. No condition. -/
import Derived.Test.YtbbhinehcncmeaaGreatG37
import Derived.Test.YtbbhinehcncmeaaGreatM04
namespace Go.Proofs.YtbbhinehcncmeaaGreat
open Go.RowKit
set_option linter.unusedSimpArgs false
set_option linter.unusedVariables false
set_option linter.unusedSectionVars false
set_option maxRecDepth 100000
set_option maxHeartbeats 4000000
theorem SlV.at {α:Type}{f:α->List Value}{q:Nat}{w:World}{a:Option Addr}{n c:Nat}{l:List α}(h:SlV f q w a n c l){j:Nat}(hj:j<l.length){y:α}(hy:l[j]=y):∃b o,a=some ⟨b,o,none⟩/\b<w.heap.size/\∀i,i<q->w.cell? (m09 b (o+j*q+i))=(f y)[i]?:=by
 rcases h.rows with h0|⟨b,o,ho,hlt,hc⟩
 ·omega
 ·refine⟨b,o,ho,hlt,fun i hi=>?_⟩
  have:=hc j hj i hi
  rw[hy]at this
  exact this
theorem kc {w w':World}{b i:Nat}{v:Value}(hb:Below w.heap.size w w')(h:w.cell? (m09 b i)=some v):w'.cell? (m09 b i)=some v:=(hb.cell (p:=(m09 b i)) (World.block_lt_of_cell? _ _ h)).trans h
theorem aHs {α:Type} [DecidableEq α] (l:List α) (j:Nat) (hj:j<l.length) (x:α):Tp.has (l.take (j+1)) x=(Tp.has (l.take j) x||decide (x=l[j])):=by
 rw[Bool.eq_iff_iff,Tp.fO,List.take_succ_eq_append_getElem hj,List.mem_append,Bool.or_eq_true,Tp.fO,List.mem_singleton,decide_eq_true_eq]
theorem aFe (r s:RV)(x y:Tp.Vw)(w:World)(hx:VwR w r x)(hy:VwR w s y)(hal:Tp.aLh x y):
  Calls Tryz.prog 15 #[.agg (m01 r),.agg (m01 s)] w fun e w'=>e=.returned (.bool true)/\Below w.heap.size w w':=by
 obtain⟨w2,ew2_⟩:∃z,Hid (z=((w.alloc (m49 r)).alloc (m49 s))):=⟨_,zH rfl⟩
 have hb2:Below w.heap.size w w2:=by cases ew2_.out;exact cR _ _
 have hb0:w2.heap[w.heap.size]?=some (.cells (m01 r) 38 (0,0)):=by cases ew2_.out;rw[cF,if_neg (by simp),cF,if_pos rfl]
 have hb1:w2.heap[w.heap.size+1]?=some (.cells (m01 s) 38 (0,0)):=by cases ew2_.out;rw[cF,if_pos (by simp)]
 have HX:=zH hx
 have HY:=zH hy
 have HAL:=zH hal
 have hlb:x.b.length=r.nb:=hx.ok.b.len
 have hlv:x.v.length=r.nv:=hx.ok.v.len
 have hmb:y.b.length=s.nb:=hy.ok.b.len
 have hmv:y.v.length=s.nv:=hy.ok.v.len
 have e1:((r.nb:Int) != (s.nb:Int))=false:=by have:=hal.lb;simp;omega
 have e2:((r.nv:Int) != (s.nv:Int))=false:=by have:=hal.lv;simp;omega
 have hbm1:=hx.ok.bm
 have hbm2:=hy.ok.bm
 have hvm1:=hx.ok.vm
 clear hx hy hal
 go_enter Tryz.func15,Tryz.ntmps15
 go_wp2_with fail
 rw[<-ew2_.out]
 have HB2:=zH hb2
 have H0:=zH hb0
 have H1:=zH hb1
 obtain⟨c0,c1⟩:=kc2 hb0
 obtain⟨d0,d1⟩:=kc2 hb1
 clear hb2 hb0 hb1
 go_wp2_with fail
 clear c0 c1 d0 d1 e1 e2
 go_loopw [5] (fun i_ wr=>∃i:Nat,i<=r.nb/\i_=.int .i64 i/\Below w2.heap.size w2 wr) (fun i_ _=>r.nb-(intOf i_).toNat)
 case atStart=>exact⟨0,Nat.zero_le _,rfl,Below.refl _ _⟩
 case round=>
  obtain⟨i,hi,rfl,hb⟩:=hrel
  have HB:=zH hb
  have g0:=bK hb H0.out
  have g1:=bK hb H1.out
  have HG:=zH (And.intro g0 g1)
  have c0:wr.cell? (m07 w)=some (.slice r.ab r.nb r.cb):=cA g0 0
  clear hb g0 g1
  by_cases hin:i<r.nb
  case neg=>
   go_wp2_with fail
   clear c0
   go_loopw [8] (fun i_ wr=>∃i:Nat,i<=r.nv/\i_=.int .i64 i/\Below w2.heap.size w2 wr) (fun i_ _=>r.nv-(intOf i_).toNat)
   case atStart=>exact⟨0,Nat.zero_le _,rfl,HB.out⟩
   case round=>
    clear HB HG
    obtain⟨j,hj,rfl,hb⟩:=hrel
    have HB:=zH hb
    have g0:=bK hb H0.out
    have g1:=bK hb H1.out
    have c1:wr.cell? (m14 w)=some (.slice r.av r.nv r.cv):=cA g0 1
    by_cases hjn:j<r.nv
    case neg=>
     clear hb g0 g1
     go_wp2_with fail
     go_ret
     exact⟨rfl,bS HB2.out HB.out⟩
    have hjl:j<x.v.length:=by omega
    obtain⟨⟨p0,p1,p2,p3⟩,hp⟩:∃z,x.v[j]=z:=⟨_,rfl⟩
    obtain⟨b,o,hav,hlt,hc⟩:=(HX.out.ok.v.below (bS HB2.out hb) nr).at hjl hp
    have hmem:(⟨p0,p1,p2,p3⟩:Tp.V)∈y.v:=(HAL.out.v _).1 (hp▸List.getElem_mem hjl)
    have HHAS:Hid (Tp.has y.v ⟨p0,p1,p2,p3⟩=true):=zH ((Tp.fO _ _).2 hmem)
    have hbd:=(Below.refl wr.heap.size wr).drew
    have k1:wr.cell? (m14 w)=some (.slice (some (m09 b o)) r.nv r.cv):=by rw[<-hav];exact c1
    obtain⟨d0,d1⟩:=kc2 g1
    have v0:wr.cell? (m09 b (o+j*4))=some (.int .i64 p0):=hc 0 (by omega)
    have v1:wr.cell? (m09 b (o+j*4+1))=some (.int .i64 p1):=hc 1 (by omega)
    have v2:wr.cell? (m09 b (o+j*4+2))=some (.int .u64 p2):=hc 2 (by omega)
    have v3:wr.cell? (m09 b (o+j*4+3))=some (.int .u64 p3):=hc 3 (by omega)
    have j0:(0:Int)<=j:=by omega
    have j1:(j:Int)<r.nv:=by omega
    clear hb g0 g1 hp hav hlt hc hmem
    go_wp2_with fail
    clear c1
    go_region_held3 (fun W=>W.cell? (m14 w)=some (.slice (some (m09 b o)) r.nv r.cv)/\(W.cell? (m22 w)=some (.slice s.ab s.nb s.cb)/\W.cell? (m29 w)=some (.slice s.av s.nv s.cv))/\W.cell? (m09 b (o+j*4))=some (.int .i64 p0)/\W.cell? (m09 b (o+j*4+1))=some (.int .i64 p1)/\W.cell? (m09 b (o+j*4+2))=some (.int .u64 p2)/\W.cell? (m09 b (o+j*4+3))=some (.int .u64 p3))
     (first|exact⟨k1,⟨d0,d1⟩,v0,v1,v2,v3⟩|exact HS9.out)
     (first|(go_at_call 36;refine(aAz s y p0 p1 p2 p3 _ (HY.out.keep (bS HB2.out (bS HB.out hbd)))).mono ?_;rintro e w9 ⟨rfl,hb9⟩;rw[HHAS.out];have HS9:=zH (show w9.cell? (m14 w)=some (.slice (some (m09 b o)) r.nv r.cv)/\(w9.cell? (m22 w)=some (.slice s.ab s.nb s.cb)/\w9.cell? (m29 w)=some (.slice s.av s.nv s.cv))/\w9.cell? (m09 b (o+j*4))=some (.int .i64 p0)/\w9.cell? (m09 b (o+j*4+1))=some (.int .i64 p1)/\w9.cell? (m09 b (o+j*4+2))=some (.int .u64 p2)/\w9.cell? (m09 b (o+j*4+3))=some (.int .u64 p3)from⟨kc hb9 k1,⟨kc hb9 d0,kc hb9 d1⟩,kc hb9 v0,kc hb9 v1,kc hb9 v2,kc hb9 v3⟩)))
    go_wp2_with fail
    exact⟨⟨j+1,by omega,by go_num,bS HB.out (bS hbd hb9)⟩,by simp[intOf];omega⟩
  have hil:i<x.b.length:=by omega
  obtain⟨⟨p0,p1,p2,p3,p4⟩,hp⟩:∃z,x.b[i]=z:=⟨_,rfl⟩
  obtain⟨b,o,hav,hlt,hc⟩:=(HX.out.ok.b.below (bS HB2.out HB.out) nr).at hil hp
  have hmem:(⟨p0,p1,p2,p3,p4⟩:Tp.B)∈y.b:=(HAL.out.b _).1 (hp▸List.getElem_mem hil)
  have HHAS:Hid (Tp.has y.b ⟨p0,p1,p2,p3,p4⟩=true):=zH ((Tp.fO _ _).2 hmem)
  have HROW:=zH (And.intro hav (And.intro hlt hc))
  clear hp hav hlt hc hmem
  have i0:(0:Int)<=i:=by omega
  have i1:(i:Int)<r.nb:=by omega
  go_wp2_with fail
  clear c0
  go_loopw [7,6] (fun k_ is_ w_=>∃k:Nat,k<=s.nb/\k_=.int .i64 k/\is_=.bool (Tp.has (y.b.take k) ⟨p0,p1,p2,p3,p4⟩)/\Below wr.heap.size wr w_) (fun k_ _ _=>s.nb-(intOf k_).toNat)
  case atStart=>exact⟨0,Nat.zero_le _,rfl,rfl,Below.refl _ _⟩
  case round=>
   obtain⟨k,hk,rfl,rfl,hbk⟩:=hrel
   have HBK:=zH hbk
   have k0:=kc hbk (cA HG.out.1 0)
   have k1:wr.cell? (m22 w)=some (.slice s.ab s.nb s.cb):=kc hbk (cA HG.out.2 0)
   by_cases hkn:k<s.nb
   case neg=>
    have hall:Tp.has (y.b.take k) ⟨p0,p1,p2,p3,p4⟩=true:=by rw[List.take_of_length_le (by omega)];exact HHAS.out
    rw[hall]
    clear hall hbk k0
    go_wp2_with fail
    exact⟨⟨i+1,by omega,by go_num,bS HB.out HBK.out⟩,by simp[intOf];omega⟩
   have hkl:k<y.b.length:=by omega
   obtain⟨⟨q0,q1,q2,q3,q4⟩,hq⟩:∃z,y.b[k]=z:=⟨_,rfl⟩
   obtain⟨b',o',hav',hlt',hc'⟩:=(HY.out.ok.b.below (bS HB2.out (bS HB.out hbk)) nr).at hkl hq
   have hts:=aHs y.b k hkl ⟨p0,p1,p2,p3,p4⟩
   rw[hq]at hts
   have he:=eqB ⟨p0,p1,p2,p3,p4⟩ ⟨q0,q1,q2,q3,q4⟩
   simp only[qD]at he
   obtain⟨t1,ht1⟩:∃z,Tp.has (y.b.take k) ⟨p0,p1,p2,p3,p4⟩=z:=⟨_,rfl⟩
   obtain⟨t2,ht2⟩:∃z,decide ((⟨p0,p1,p2,p3,p4⟩:Tp.B)=⟨q0,q1,q2,q3,q4⟩)=z:=⟨_,rfl⟩
   rw[ht1,ht2]at hts
   rw[ht2]at he
   rw[ht1]
   have HTS:=zH hts
   have n0:wr.cell? (m07 w)=some (.slice (some (m09 b o)) r.nb r.cb):=by rw[<-HROW.out.1];exact k0
   have n1:wr.cell? (m22 w)=some (.slice (some (m09 b' o')) s.nb s.cb):=by rw[<-hav'];exact k1
   have c0:wr.cell? (m09 b (o+i*5))=some (.int .i64 p0):=kc HBK.out (HROW.out.2.2 0 (by omega))
   have c1:wr.cell? (m09 b (o+i*5+1))=some (.int .i64 p1):=kc HBK.out (HROW.out.2.2 1 (by omega))
   have c2:wr.cell? (m09 b (o+i*5+2))=some (.int .u64 p2):=kc HBK.out (HROW.out.2.2 2 (by omega))
   have c3:wr.cell? (m09 b (o+i*5+3))=some (.int .u64 p3):=kc HBK.out (HROW.out.2.2 3 (by omega))
   have c4:wr.cell? (m09 b (o+i*5+4))=some (.int .u64 p4):=kc HBK.out (HROW.out.2.2 4 (by omega))
   have d0:wr.cell? (m09 b' (o'+k*5))=some (.int .i64 q0):=hc' 0 (by omega)
   have d1:wr.cell? (m09 b' (o'+k*5+1))=some (.int .i64 q1):=hc' 1 (by omega)
   have d2:wr.cell? (m09 b' (o'+k*5+2))=some (.int .u64 q2):=hc' 2 (by omega)
   have d3:wr.cell? (m09 b' (o'+k*5+3))=some (.int .u64 q3):=hc' 3 (by omega)
   have d4:wr.cell? (m09 b' (o'+k*5+4))=some (.int .u64 q4):=hc' 4 (by omega)
   have k00:(0:Int)<=k:=by omega
   have k11:(k:Int)<s.nb:=by omega
   clear hts ht1 ht2 hbk k0 hq hav' hlt' hc'
   cases t1 with
   |true=>
    go_wp2_with fail
    clear k1
    go_quiet (fail)
    try dsimp only
    go_wp2_with fail
    exact⟨⟨k+1,by omega,by go_num,by rw[HTS.out];rfl,HBK.out.trans (cV _ _ _)⟩,by simp[intOf];omega⟩
   |false=>
    go_wp2_with fail
    clear k1
    go_quiet (fail)
    try dsimp only
    go_wp2_with fail
    exact⟨⟨k+1,by omega,by go_num,by rw[HTS.out];rfl,HBK.out.trans (cV _ _ _)⟩,by simp[intOf];omega⟩
end Go.Proofs.YtbbhinehcncmeaaGreat
