/-
  MixOrder, MixBoth: the walks.
-/
import Derived.Test.YtkknmmlfonhhaaaMixAwake
import Derived.Test.YtkknmmlfonhhaaaOpen
namespace Go.Proofs.Ytkknmmlfonhhaaa
open Go.RowKit
set_option linter.unusedSimpArgs false
set_option linter.unusedVariables false

namespace Mx
theorem less_asymm (a0 a1 b0 b1 : Int) : (less a0 a1 b0 b1 && less b0 b1 a0 a1) = false := by
  unfold less
  by_cases h1 : a0 < b0 <;> by_cases h2 : b0 < a0 <;> by_cases h3 : a0 = b0 <;> by_cases h4 : a1 < b1 <;> by_cases h5 : b1 < a1 <;> first | omega | (subst h3; simp [*]; done) | (simp [*]; omega) | (simp [*]; done) | (simp [*]; intros; omega)
theorem less_total (a0 a1 b0 b1 : Int) : (less a0 a1 b0 b1 || less b0 b1 a0 a1) = !(a0 == b0 && a1 == b1) := by
  unfold less
  rw [Bool.eq_iff_iff]
  simp
  omega
theorem less_trans (a0 a1 b0 b1 c0 c1 : Int) (h : less a0 a1 b0 b1 = true) (h' : less b0 b1 c0 c1 = true) : less a0 a1 c0 c1 = true := by
  unfold less at *
  simp at *
  omega
theorem less_irr (a0 a1 : Int) : less a0 a1 a0 a1 = false := by simp [less]
end Mx

namespace mixOrder
set_option maxHeartbeats 2000000 in
theorem walk' (a0 a1 b0 b1 c0 c1 : Int) (p q r s t : Bool) (hp : Mx.less a0 a1 b0 b1 = p) (hq : Mx.less b0 b1 a0 a1 = q) (hr : Mx.less b0 b1 c0 c1 = r) (hs : Mx.less a0 a1 c0 c1 = s) (ht : (a0 == b0 && a1 == b1) = t)
    (hcase : (p = true ∧ q = false ∧ r = true ∧ s = true ∧ t = false) ∨ (p = true ∧ q = false ∧ r = false ∧ t = false) ∨ (p = false ∧ q = true ∧ t = false) ∨ (p = false ∧ q = false ∧ t = true)) (w : World) :
    Calls Try.prog 5 #[.agg #[.int .u64 a0, .int .u64 a1], .agg #[.int .u64 b0, .int .u64 b1], .agg #[.int .u64 c0, .int .u64 c1]] w fun e w' => e = .returned (.bool true) ∧ Below w.heap.size w w' := by
  have heq := eqID' a0 a1 b0 b1
  rw [ht] at heq
  clear ht
  have bel : Below w.heap.size w (((w.alloc (.cells #[.int .u64 a0, .int .u64 a1] 25)).alloc (.cells #[.int .u64 b0, .int .u64 b1] 25)).alloc (.cells #[.int .u64 c0, .int .u64 c1] 25)) :=
    (((Below.refl _ _).alloc (Nat.le_refl _) _).alloc (by simp) _).alloc (by simp; omega) _
  have kA := ((Box2.new w a0 a1 25 _ rfl).alloc (.cells #[.int .u64 b0, .int .u64 b1] 25)).alloc (.cells #[.int .u64 c0, .int .u64 c1] 25)
  have kB := (Box2.new (w.alloc (.cells #[.int .u64 a0, .int .u64 a1] 25)) b0 b1 25 (w.heap.size + 1) (by simp)).alloc (.cells #[.int .u64 c0, .int .u64 c1] 25)
  have kC := Box2.new ((w.alloc (.cells #[.int .u64 a0, .int .u64 a1] 25)).alloc (.cells #[.int .u64 b0, .int .u64 b1] 25)) c0 c1 25 (w.heap.size + 1 + 1) (by simp)
  rcases hcase with ⟨rfl, rfl, rfl, rfl, rfl⟩ | ⟨rfl, rfl, rfl, rfl⟩ | ⟨rfl, rfl, rfl⟩ | ⟨rfl, rfl, rfl⟩
  all_goals
    go_enter Try.func5, Try.ntmps5
    go_wp2_with (first
      | (go_at_call 9; refine (awake_any _).mono ?_; rintro e w1 ⟨rfl, hb⟩; replace bel := below_step bel hb; replace kA := kA.keep hb; replace kB := kB.keep hb; replace kC := kC.keep hb; clear hb; have e0 := kA.c0; have e1 := kA.c1; have e2 := kB.c0; have e3 := kB.c1; have e4 := kC.c0; have e5 := kC.c1)
      | (go_at_call 17; refine (less_any _ _ _ _ _).mono ?_; rintro e w1 ⟨rfl, hb⟩; replace bel := below_step bel hb; replace kA := kA.keep hb; replace kB := kB.keep hb; replace kC := kC.keep hb; clear hb; have e0 := kA.c0; have e1 := kA.c1; have e2 := kB.c0; have e3 := kB.c1; have e4 := kC.c0; have e5 := kC.c1))
    go_ret
    exact ⟨rfl, bel⟩

theorem walk (a0 a1 : Int) (ha : IsU a0 ∧ IsU a1) (b0 b1 : Int) (hb : IsU b0 ∧ IsU b1) (c0 c1 : Int) (hc : IsU c0 ∧ IsU c1) (w : World) :
    Calls Try.prog 5 #[.agg #[.int .u64 a0, .int .u64 a1], .agg #[.int .u64 b0, .int .u64 b1], .agg #[.int .u64 c0, .int .u64 c1]] w fun e w' => e = .returned (.bool true) ∧ Below w.heap.size w w' := by
  refine walk' a0 a1 b0 b1 c0 c1 _ _ _ _ _ rfl rfl rfl rfl rfl ?_ w
  have h1 := Mx.less_asymm a0 a1 b0 b1
  have h2 := Mx.less_total a0 a1 b0 b1
  have h3 := Mx.less_trans a0 a1 b0 b1 c0 c1
  revert h1 h2 h3
  generalize Mx.less a0 a1 b0 b1 = p
  generalize Mx.less b0 b1 a0 a1 = q
  generalize Mx.less b0 b1 c0 c1 = r
  generalize Mx.less a0 a1 c0 c1 = s
  generalize (a0 == b0 && a1 == b1) = t
  cases p <;> cases q <;> cases r <;> cases s <;> cases t <;> simp
end mixOrder

end Go.Proofs.Ytkknmmlfonhhaaa
