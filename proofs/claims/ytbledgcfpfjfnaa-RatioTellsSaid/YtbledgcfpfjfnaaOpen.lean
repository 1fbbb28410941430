/-
  The arguments of a law, opened: ints.
-/
import Derived.Test.YtbledgcfpfjfnaaRtAwake
import Derived.ProofKit
import Derived.OpenShut
import Derived.ShutString
import Derived.ChangeOld
import Derived.Below
namespace Go.Proofs.Ytbledgcfpfjfnaa
open Go.ChangeShapes Go.WideShapes Go.ChangeAt Go.RowKit
set_option linter.unusedSimpArgs false
set_option linter.unusedVariables false

theorem own : ownKnob Try.prog.godebug = none := by kernel_rfl
theorem laidOut : laidOutB Try.prog = true := by kernel_rfl

/-- An int. -/
def IsI (x : Int) : Prop := -9223372036854775808 ≤ x ∧ x ≤ 9223372036854775807

section
variable {H : Type} {enc : TypeId × Value → H} {W : World} {base b0 : Nat} {sp : Nat → Bool} {held : Bool} {r : Reach} {v : Value} {d : DataW H} {ps : List MemPlace}

theorem open_int' (hval : Value.okWide Try.prog W r base 3 v) (h : DataW.Trod enc Try.prog W b0 sp held 3 v d ps) : ∃ x : Int, v = .int .i64 x ∧ IsI x := by
  obtain ⟨x, rfl, rfl, rfl, w0⟩ := open_int Try.underlying3 hval h
  exact ⟨x, rfl, bounds_i64 w0⟩
end

end Go.Proofs.Ytbledgcfpfjfnaa
