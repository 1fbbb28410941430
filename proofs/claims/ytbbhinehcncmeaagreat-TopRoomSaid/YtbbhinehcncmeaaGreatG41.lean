/- A part of the proof of the laws of the top: TpPlF. No condition. -/
import Derived.Test.YtbbhinehcncmeaaGreatG36
import Derived.Test.YtbbhinehcncmeaaGreatG38
import Derived.Test.YtbbhinehcncmeaaGreatG39
namespace Go.Proofs.YtbbhinehcncmeaaGreat
open Go.RowKit
set_option linter.unusedSimpArgs false
set_option linter.unusedVariables false
set_option linter.unusedSectionVars false
set_option maxRecDepth 100000
namespace Tp
def oneC :Cf:=⟨[1],0,1,1,4⟩
def oneB :B:=⟨1,0,0,0,0⟩
def oneW :Nat->Wd
 |0=>newW oneC []
 |j+1=>doW (oneW j) []
theorem aCv :oneW 0=newW oneC []:=rfl
theorem tA (j:Nat):oneW (j+1)=doW (oneW j) []:=rfl
theorem tB :∀j,(oneW j).c=oneC
 |0=>rfl
 |j+1=>tB j
theorem kR :∀j:Nat,(oneW j).tick=3+j
 |0=>rfl
 |j+1=>by
  show(oneW j).tick+1=_
  rw[kR j]
  omega
theorem aCt :mayC oneC.W oneC.ep oneC.nu oneC.de=true:=by decide +kernel
theorem aCu :holds (oneW 3) (name oneB)=true:=by decide +kernel
theorem aJm :(oneW 3).n.map (fun n=>(n.c.p,n.c.q))=[name oneB]:=by decide +kernel
theorem zM :∀j:Nat,j<9->pJ [1] 0 1 1 4 [] (1+j)<pI [1] 0 1 1 4 [] (1+j)/\(bT [1] 0 1 1 4 (1+j)).length<=1000000:=by decide +kernel
theorem aCs :∀j:Nat,j<=3->WOk [] (oneW j)
 |0,_=>qY aCt (Nat.zero_le _) (fun a ha=>(by cases ha))
 |j+1,h=>by
  rw[tA]
  exact((aCs j (by omega)).step (.inl rfl) (by rw[kR];omega)).1
theorem aMc (j:Nat)(h:j<3):DoIn (oneW j) []:=((aCs j (by omega)).step (.inl rfl) (by rw[kR];omega)).2.1
end Tp
end Go.Proofs.YtbbhinehcncmeaaGreat
