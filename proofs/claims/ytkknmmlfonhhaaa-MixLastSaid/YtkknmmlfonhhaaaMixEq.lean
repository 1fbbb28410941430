/-
  '==' and '!=' on IDs (arrays of two words), as the walk meets them.
-/
import Derived.Test.YtkknmmlfonhhaaaMixWalks
import Derived.ChangeKeysEq
namespace Go.Proofs.Ytkknmmlfonhhaaa
open Go.RowKit
set_option linter.unusedSimpArgs false
set_option linter.unusedVariables false

theorem eqID (d : Nat) (a0 a1 b0 b1 : Int) (w : World) :
    (Op.equalIn (d + 2) 25 (.agg #[.int .u64 a0, .int .u64 a1]) (.agg #[.int .u64 b0, .int .u64 b1])).run Try.prog w = .ok (a0 == b0 && a1 == b1) w := by
  have hu : Try.prog.underlying 25 = some (.array 2 22) := by kernel_rfl
  obtain ⟨i, hi⟩ : ∃ i, Try.prog.info? 22 = some i := by
    have h : (Try.prog.info? 22).isSome = true := by kernel_rfl
    exact Option.isSome_iff_exists.1 h
  have hc : Try.prog.cellsOf 22 = 1 := by kernel_rfl
  have uE := Try.underlying22
  have aE := Try.isAgg22
  rw [show d + 2 = (d + 1) + 1 from rfl, run_equalIn_array w (d + 1) _ _ hu hi, hc, show List.range 2 = [0, 1] from rfl]
  simp only [Op.eqItems]
  go_simp
  by_cases h1 : a0 = b0 <;> by_cases h2 : a1 = b1 <;> simp [h1, h2]

theorem eqID' (a0 a1 b0 b1 : Int) (w : World) :
    (Op.equalIn 10000 25 (.agg #[.int .u64 a0, .int .u64 a1]) (.agg #[.int .u64 b0, .int .u64 b1])).run Try.prog w = .ok (a0 == b0 && a1 == b1) w :=
  eqID 9998 a0 a1 b0 b1 w

end Go.Proofs.Ytkknmmlfonhhaaa
