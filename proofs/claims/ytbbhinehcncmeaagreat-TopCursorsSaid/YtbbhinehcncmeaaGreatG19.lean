/- A part of the proof of the laws of the top: TpNode0. No condition. -/
import Derived.Test.YtbbhinehcncmeaaGreatG18
namespace Go.Proofs.YtbbhinehcncmeaaGreat
open Go.RowKit
set_option linter.unusedSimpArgs false
set_option linter.unusedVariables false
set_option linter.unusedSectionVars false
namespace Tp
structure Off where
 slot:Int
 who:Int
 b:B
 v:Vw
structure Cur where
 p:Int
 q:Int
 sl:Int
 rev:Int
 deriving DecidableEq
structure Nd where
 no:Int
 tick:Int
 v:Vw
 inn:Vw
 o:List Off
 c:Cur
 full:Bool
structure Nw where
 n:Nd
 slot:Int
 told:List Off
def lone (b:B):Vw:=⟨[b],[]⟩
def oneV (v:V):Vw:=⟨[],[v]⟩
def mG (C:Cf) (s:Int):Int:=aCm C.W C.sd C.ep C.nu C.de s
def aL (C:Cf) (x:Vw) (s:Int):Int×Int:=iH C.W C.sd C.ep C.nu C.de x.b x.v s
def fF (C:Cf) (k:Nw) (inn:Vw):Nw:={ k with n:={ k.n with v:=(take C k.n.v inn k.slot).1,full:=k.n.full||(take C k.n.v inn k.slot).2.2 } }
def countL (C:Cf) (k:Nw) (inn:Vw):Vw:=(take C k.n.v inn k.slot).2.1
def lH (k:Nw) (x:Vw):Nw:={ k with n:={ k.n with inn:=x } }
def setO (k:Nw) (l:List Off):Nw:={ k with n:={ k.n with o:=l } }
def setFull (k:Nw):Nw:={ k with n:={ k.n with full:=true } }
def nE (k:Nw) (l:List Off):Nw:={ k with told:=l }
def aY (C:Cf):Nw->List Off->Nw
 |k,[]=>k
 |k,o::r=>if k.n.tick%3=2\/o.slot≠k.slot\/o.who≠mG C k.slot then aY C k r else if k.n.o.length=8 then aY C (setFull k) r else aY C (setO k (k.n.o++[o])) r
def hear (C:Cf) (k:Nw) (l:List Off):Nw:=aY C (setO k []) (k.n.o++l)
def lJ (C:Cf) (k:Nw):B:=⟨k.slot,k.n.no,(aL C k.n.v (k.slot-1)).1,(aL C k.n.v (k.slot-1)).2,0⟩
def gP (C:Cf) (k:Nw):Nw:=lH (fF C k k.n.inn) (countL C k k.n.inn)
def first (C:Cf) (k:Nw):Nw:=
 if k.n.no=mG C k.slot then fF C (nE (gP C k) [⟨k.slot,k.n.no,lJ C (gP C k),(gP C k).n.v⟩]) (lone (lJ C (gP C k)))else k
def cX (C:Cf):Nw->List Off->Nw
 |k,[]=>k
 |k,o::r=>cX C (lH (fF C k (join o.v (lone o.b))) (join k.n.inn (countL C k (join o.v (lone o.b))))) r
def iB (C:Cf) (k:Nw):Nw:=setO (cX C k k.n.o) []
def tI (C:Cf) (k:Nw):V:=⟨k.n.no,k.slot,(aL C k.n.v (k.slot-1)).1,(aL C k.n.v (k.slot-1)).2⟩
def second (C:Cf) (k:Nw):Nw:=
 if inC C.W C.sd C.ep C.nu C.de k.slot k.n.no then lH (iB C k) (join (iB C k).n.inn (oneV (tI C (iB C k))))else iB C k
def yT (sure:Int×Int->Bool):List (Int×Int)->(Int×Int)×Bool
 | []=>((0,0),false)
 | [_]=>((0,0),false)
 |x::y::r=>if sure x then(x,true)else yT sure (y::r)
def aFu (C:Cf) (x:Vw) (slot:Int) (id:Int×Int):Bool:=Rt.moreB (2*on C.W C.ep C.nu C.de x.b (gM C.W C.sd C.ep C.nu C.de x.v slot) id) C.de (fU C.W C.ep C.nu C.de (bT C.W C.sd C.ep C.nu C.de slot)) (C.de+2*C.nu)
def bQ (C:Cf) (x:Vw) (slot:Int) (head:Int×Int):(Int×Int)×Bool:=yT (aFu C x slot) (chain x.b head)
def move (c:Cur) (l:List B) (head jM:Int×Int) (is:Bool) (slot:Int):Cur:=
 let ch:=chain l head
 let a:=aF ch 0 (c.p,c.q)
 let c1:Cur:=if a<0 then⟨0,0,slot,c.rev+1⟩else c
 let a1:Int:=if a<0 then ch.length-1 else a
 let f:=aF ch 0 jM
 if is&&decide (0<=f)&&decide (f<a1)then { c1 with p:=jM.1,q:=jM.2,sl:=slot }else c1
def bP (C:Cf) (k:Nw):Nw:=setO (lH (fF C k k.n.inn) (countL C k k.n.inn)) []
def eG (C:Cf) (k:Nw):Nw:=
 { bP C k with n:={ (bP C k).n with c:=move k.n.c (bP C k).n.v.b (aL C (bP C k).n.v k.slot) (bQ C (bP C k).n.v k.slot (aL C (bP C k).n.v k.slot)).1 (bQ C (bP C k).n.v k.slot (aL C (bP C k).n.v k.slot)).2 k.slot } }
def fS (C:Cf) (n:Nd) (inn:Vw):Nw:=⟨{ n with inn:=join n.inn (only C inn) },n.tick/3,[]⟩
def nC (C:Cf) (n:Nd) (inn:Vw) (o:List Off):Nw:=
 if n.tick%3=0 then first C (hear C (fS C n inn) o)else if n.tick%3=1 then second C (hear C (fS C n inn) o)else eG C (hear C (fS C n inn) o)
def step (C:Cf) (n:Nd) (inn:Vw) (o:List Off):Nd×List Off:=({ (nC C n inn o).n with tick:=(nC C n inn o).n.tick+1 },(nC C n inn o).told)
end Tp
end Go.Proofs.YtbbhinehcncmeaaGreat
