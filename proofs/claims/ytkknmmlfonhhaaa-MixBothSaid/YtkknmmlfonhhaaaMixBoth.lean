/-
  MixBoth: the walk.
-/
import Derived.Test.YtkknmmlfonhhaaaMixOrder
import Derived.Deep.RegionHeld3
namespace Go.Proofs.Ytkknmmlfonhhaaa
open Go.RowKit
set_option linter.unusedSimpArgs false
set_option linter.unusedVariables false

theorem Mx.less_zero {a0 a1 : Int} (h0 : 0 ≤ a0) (h1 : 0 ≤ a1) : Mx.less a0 a1 0 0 = false := by
  unfold Mx.less
  rw [Bool.eq_false_iff]
  simp
  omega
theorem Mx.zero_less {a0 a1 : Int} (h0 : 0 ≤ a0) (h1 : 0 ≤ a1) : Mx.less 0 0 a0 a1 = !(a0 == 0 && a1 == 0) := by
  unfold Mx.less
  rw [Bool.eq_iff_iff]
  simp
  omega

namespace mixBoth
/-- What the region's loads lean on. -/
theorem keep1 {B : Nat} {a0 a1 : Int} {w0 w w' : World} (h : w.cell? ⟨B, 0, none⟩ = some (.int .u64 a0) ∧ w.cell? ⟨B, 1, none⟩ = some (.int .u64 a1) ∧ B < w.heap.size ∧ Below w0.heap.size w0 w) (hb : Below w.heap.size w w') :
    w'.cell? ⟨B, 0, none⟩ = some (.int .u64 a0) ∧ w'.cell? ⟨B, 1, none⟩ = some (.int .u64 a1) ∧ B < w'.heap.size ∧ Below w0.heap.size w0 w' := by
  have k : Box2 B a0 a1 w := ⟨h.1, h.2.1, h.2.2.1⟩
  have k' := k.keep hb
  exact ⟨k'.c0, k'.c1, k'.lt, below_step h.2.2.2 hb⟩

set_option maxHeartbeats 2000000 in
theorem walk (h : Int) (hh : IsU h) (x : Int) (hx : IsU x) (a0 a1 : Int) (ha : IsU a0 ∧ IsU a1) (w : World) :
    Calls Try.prog 7 #[.int .u64 h, .int .u64 x, .agg #[.int .u64 a0, .int .u64 a1]] w fun e w' => e = .returned (.bool true) ∧ Below w.heap.size w w' := by
  obtain ⟨h0, h1⟩ := hh
  obtain ⟨x0, x1⟩ := hx
  obtain ⟨s, hs⟩ : ∃ s, Mx.step h x = s := ⟨_, rfl⟩
  have hs' : Mx.step x h = s := by rw [Mx.step_comm, hs]
  have l1 := Mx.less_zero ha.1.1 ha.2.1
  have l2 := Mx.zero_less ha.1.1 ha.2.1
  have l3 := Mx.less_irr a0 a1
  have heq := eqID' a0 a1 0 0
  generalize (a0 == 0 && a1 == 0) = t at l2 heq
  clear ha
  have bel : Below w.heap.size w (w.alloc (.cells #[.int .u64 a0, .int .u64 a1] 25)) := (Below.refl _ _).alloc (Nat.le_refl _) _
  have kA := Box2.new w a0 a1 25 _ rfl
  cases t
  all_goals
    go_enter Try.func7, Try.ntmps7
    go_wp2_with (first
      | (go_at_call 9; refine (awake_any _).mono ?_; rintro e w1 ⟨rfl, hb⟩; replace bel := below_step bel hb; replace kA := kA.keep hb; clear hb; have e0 := kA.c0; have e1 := kA.c1))
    have lB := kA.lt
    go_region_held3 (fun w' => w'.cell? ⟨w.heap.size, 0, none⟩ = some (.int .u64 a0) ∧ w'.cell? ⟨w.heap.size, 1, none⟩ = some (.int .u64 a1) ∧ w.heap.size < w'.heap.size ∧ Below w.heap.size w w')
      (first | assumption | exact ⟨e0, e1, lB, bel⟩ | exact ⟨e0, e1, lB, bel.drew⟩ | (refine keep1 (by assumption) ?_; exact (Below.refl _ _).drew))
      (first
        | (go_at_call 13; refine (step_any _ _ _ (by assumption) (by assumption) (by assumption) (by assumption)).mono ?_; rintro e w' ⟨rfl, rfl⟩)
        | (go_at_call 17; refine (less_any _ _ _ _ _).mono ?_; rintro e w' ⟨rfl, hb⟩; have hS := keep1 (by assumption) hb; clear hb))
    all_goals
      go_wp2
      go_ret
      exact ⟨rfl, hS.2.2.2⟩
end mixBoth

end Go.Proofs.Ytkknmmlfonhhaaa
