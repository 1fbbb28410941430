/-
  MixOnly: the walk. No two words have one Word, nor one Step from the same word.
-/
import Derived.Test.YtkknmmlfonhhaaaMixAwake
import Derived.Test.YtkknmmlfonhhaaaOpen
namespace Go.Proofs.Ytkknmmlfonhhaaa
open Go.RowKit
set_option linter.unusedSimpArgs false
set_option linter.unusedVariables false

namespace mixOnly
set_option maxHeartbeats 1000000 in
theorem walk (x : Int) (hx : IsU x) (y : Int) (hy : IsU y) (h : Int) (hh : IsU h) (w : World) :
    Calls Try.prog 4 #[.int .u64 x, .int .u64 y, .int .u64 h] w fun e w' => e = .returned (.bool true) ∧ Below w.heap.size w w' := by
  obtain ⟨x0, x1⟩ := hx
  obtain ⟨y0, y1⟩ := hy
  obtain ⟨h0, h1⟩ := hh
  by_cases e : x = y
  · subst e
    go_enter Try.func4, Try.ntmps4
    go_wp2_with (first
      | (go_at_call 9; refine (awake_any _).mono ?_; rintro e w1 ⟨rfl, hb⟩)
      | (go_at_call 11; refine (word_any _ _ (by assumption) (by assumption)).mono ?_; rintro e w' ⟨rfl, rfl⟩)
      | (go_at_call 13; refine (step_any _ _ _ (by assumption) (by assumption) (by assumption) (by assumption)).mono ?_; rintro e w' ⟨rfl, rfl⟩))
    go_ret
    exact ⟨ret_bool (by simp), by assumption⟩
  · have t1 : (x == y) = false := by simpa using e
    have t2 : (Mx.word x == Mx.word y) = false := by simpa using fun h => e (Mx.word_inj ⟨x0, x1⟩ ⟨y0, y1⟩ h)
    have t3 : (Mx.step h x == Mx.step h y) = false := by simpa using fun k => e (Mx.step_inj ⟨h0, h1⟩ ⟨x0, x1⟩ ⟨y0, y1⟩ k)
    have t4 : (Mx.step x h == Mx.step y h) = false := by simpa using fun k => e (Mx.step_inj' ⟨h0, h1⟩ ⟨x0, x1⟩ ⟨y0, y1⟩ k)
    clear e
    go_enter Try.func4, Try.ntmps4
    go_wp2_with (first
      | (go_at_call 9; refine (awake_any _).mono ?_; rintro e w1 ⟨rfl, hb⟩)
      | (go_at_call 11; refine (word_any _ _ (by assumption) (by assumption)).mono ?_; rintro e w' ⟨rfl, rfl⟩)
      | (go_at_call 13; refine (step_any _ _ _ (by assumption) (by assumption) (by assumption) (by assumption)).mono ?_; rintro e w' ⟨rfl, rfl⟩))
    go_ret
    exact ⟨ret_bool (by simp [t1, t2, t3, t4]), by assumption⟩
end mixOnly

end Go.Proofs.Ytkknmmlfonhhaaa
