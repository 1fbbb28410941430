/-
  RatioTells: the walk.
-/
import Derived.Test.YtbledgcfpfjfnaaRtRefs
namespace Go.Proofs.Ytbledgcfpfjfnaa
open Go.RowKit
set_option linter.unusedSimpArgs false
set_option linter.unusedVariables false

namespace ratioTells
set_option maxHeartbeats 1000000 in
theorem walk (a : Int) (ha : IsI a) (b : Int) (hb : IsI b) (c : Int) (hc : IsI c) (d : Int) (hd : IsI d) (w : World) :
    Calls Try.prog 5 #[.int .i64 a, .int .i64 b, .int .i64 c, .int .i64 d] w fun e w' => e = .returned (.bool true) ∧ Below w.heap.size w w' := by
  have bel := Below.refl w.heap.size w
  clear ha hb hc hd
  go_enter Try.func5, Try.ntmps5
  go_wp2_with (first
      | (go_at_call 10; refine (awake_any _).mono ?_; rintro e w1 ⟨rfl, hb⟩; replace bel := below_step bel hb; clear hb)
      | (go_at_call 11; refine (may_any _ _).mono ?_; rintro e w' ⟨rfl, rfl⟩)
      | (go_at_call 12; refine (more_any _ _ _ _ _).mono ?_; rintro e w1 ⟨rfl, hb⟩; replace bel := below_step bel hb; clear hb)
      | (go_at_call 13; refine (add_any _ _ _).mono ?_; rintro e w1 ⟨rfl, hb⟩; replace bel := below_step bel hb; clear hb)
      | (go_at_call 15; refine (mul_any _ _ _).mono ?_; rintro e w1 ⟨rfl, hb⟩; replace bel := below_step bel hb; clear hb)
      | (go_at_call 17; refine (refmay_any _ _).mono ?_; rintro e w' ⟨rfl, rfl⟩)
      | (go_at_call 18; refine (refmore_any _ _ _ _ _).mono ?_; rintro e w1 ⟨rfl, hb⟩; replace bel := below_step bel hb; clear hb)
      | (go_at_call 14; refine (refadd_any _ _ _).mono ?_; rintro e w' ⟨rfl, rfl⟩)
      | (go_at_call 16; refine (refmul_any _ _ _).mono ?_; rintro e w' ⟨rfl, rfl⟩))
  go_ret
  exact ⟨ret_bool (by simp), bel⟩
end ratioTells

end Go.Proofs.Ytbledgcfpfjfnaa
