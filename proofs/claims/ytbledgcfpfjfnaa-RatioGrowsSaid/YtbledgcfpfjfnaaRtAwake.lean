/-
  The walk of the statements' own 'awake': the chapter's examples hold.
-/
import Derived.Test.YtbledgcfpfjfnaaRtMore
namespace Go.Proofs.Ytbledgcfpfjfnaa
open Go.RowKit
set_option linter.unusedSimpArgs false
set_option linter.unusedVariables false

set_option maxHeartbeats 1000000 in
theorem awake_any (w : World) :
    Calls Try.prog 10 #[] w fun e w' => e = .returned (.bool true) ∧ Below w.heap.size w w' := by
  have bel := Below.refl w.heap.size w
  have a1 : Rt.addOk 2305843009213693952 2305843009213693952 = true := by decide
  have a2 : Rt.addOk 2305843009213693952 4611686018427387904 = false := by decide
  have a3 : Rt.moreB 4611686018427387904 4611686018427387904 4611686018427387904 4611686018427387903 = true := by decide
  have a4 : Rt.mayB 0 = true := by decide
  have a5 : Rt.mayB (-1) = false := by decide
  have a6 : ∀ n, Rt.pick true n = n := fun _ => rfl
  go_enter Try.func10, Try.ntmps10
  go_wp2_with (first
      | (go_at_call 11; refine (may_any _ _).mono ?_; rintro e w' ⟨rfl, rfl⟩)
      | (go_at_call 12; refine (more_any _ _ _ _ _).mono ?_; rintro e w1 ⟨rfl, hb⟩; replace bel := below_step bel hb; clear hb)
      | (go_at_call 13; refine (add_any _ _ _).mono ?_; rintro e w1 ⟨rfl, hb⟩; replace bel := below_step bel hb; clear hb)
      | (go_at_call 15; refine (mul_any _ _ _).mono ?_; rintro e w1 ⟨rfl, hb⟩; replace bel := below_step bel hb; clear hb))
  go_ret
  exact ⟨rfl, bel⟩

end Go.Proofs.Ytbledgcfpfjfnaa
