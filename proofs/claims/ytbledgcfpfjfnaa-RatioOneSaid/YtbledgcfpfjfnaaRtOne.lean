/-
  RatioOne: the walk.
-/
import Derived.Test.YtbledgcfpfjfnaaRtThree
namespace Go.Proofs.Ytbledgcfpfjfnaa
open Go.RowKit
set_option linter.unusedSimpArgs false
set_option linter.unusedVariables false

namespace ratioOne
/-- What the three cases of two products come to. -/
theorem facts {a b c d : Int} (h : (Rt.mayB a && Rt.mayB b && (Rt.mayB c && Rt.mayB d)) = true) :
    Rt.moreB a b c d = decide (c * d < a * b) ∧ Rt.moreB c d a b = decide (a * b < c * d) ∧ Rt.moreB b a d c = decide (c * d < a * b) ∧ Rt.mulOk a b = decide (a * b ≤ 4611686018427387904) ∧ Rt.mulOk c d = decide (c * d ≤ 4611686018427387904) := by
  simp only [Bool.and_eq_true] at h
  obtain ⟨⟨h1, h2⟩, h3, h4⟩ := h
  unfold Rt.moreB Rt.mulOk
  rw [h1, h2, h3, h4, Int.mul_comm b a, Int.mul_comm d c]
  simp

set_option maxHeartbeats 1000000 in
theorem walk' (a b c d p q : Int) (m l u v : Bool) (h1 : Rt.mayB a = true) (h2 : Rt.mayB b = true) (h3 : Rt.mayB c = true) (h4 : Rt.mayB d = true)
    (k1 : Rt.moreB a b c d = m) (k2 : Rt.moreB c d a b = l) (k3 : Rt.moreB b a d c = m) (k4 : Rt.mulOk a b = u) (k5 : Rt.mulOk c d = v) (k6 : a * b = p) (k7 : c * d = q)
    (k8 : decide (q < p) = m) (k9 : decide (p < q) = l) (k : (m && l) = false) (ku : u = true → v = false → l = true ∧ m = false) (kv : v = true → u = false → m = true ∧ l = false) (w : World) :
    Calls Try.prog 6 #[.int .i64 a, .int .i64 b, .int .i64 c, .int .i64 d] w fun e w' => e = .returned (.bool true) ∧ Below w.heap.size w w' := by
  have bel := Below.refl w.heap.size w
  have p1 := pick_true
  have p2 := pick_false
  cases u <;> cases v <;> cases m <;> cases l <;> first | (exfalso; revert k; decide) | (exfalso; revert ku; decide) | (exfalso; revert kv; decide) | skip
  all_goals
    clear k ku kv
    go_enter Try.func6, Try.ntmps6
    go_wp2_with (first
          | (go_at_call 10; refine (awake_any _).mono ?_; rintro e w1 ⟨rfl, hb⟩; replace bel := below_step bel hb; clear hb)
          | (go_at_call 11; refine (may_any _ _).mono ?_; rintro e w' ⟨rfl, rfl⟩)
          | (go_at_call 12; refine (more_any _ _ _ _ _).mono ?_; rintro e w1 ⟨rfl, hb⟩; replace bel := below_step bel hb; clear hb)
          | (go_at_call 13; refine (add_any _ _ _).mono ?_; rintro e w1 ⟨rfl, hb⟩; replace bel := below_step bel hb; clear hb)
          | (go_at_call 15; refine (mul_any _ _ _).mono ?_; rintro e w1 ⟨rfl, hb⟩; replace bel := below_step bel hb; clear hb))
    go_ret
    exact ⟨ret_bool (by simp), bel⟩

set_option maxHeartbeats 1000000 in
theorem walk (a : Int) (ha : IsI a) (b : Int) (hb : IsI b) (c : Int) (hc : IsI c) (d : Int) (hd : IsI d) (w : World) :
    Calls Try.prog 6 #[.int .i64 a, .int .i64 b, .int .i64 c, .int .i64 d] w fun e w' => e = .returned (.bool true) ∧ Below w.heap.size w w' := by
  have bel := Below.refl w.heap.size w
  cases h1 : Rt.mayB a
  · clear ha hb hc hd
    go_enter Try.func6, Try.ntmps6
    go_wp2_with (first
          | (go_at_call 10; refine (awake_any _).mono ?_; rintro e w1 ⟨rfl, hb⟩; replace bel := below_step bel hb; clear hb)
          | (go_at_call 11; refine (may_any _ _).mono ?_; rintro e w' ⟨rfl, rfl⟩)
          | (go_at_call 12; refine (more_any _ _ _ _ _).mono ?_; rintro e w1 ⟨rfl, hb⟩; replace bel := below_step bel hb; clear hb)
          | (go_at_call 13; refine (add_any _ _ _).mono ?_; rintro e w1 ⟨rfl, hb⟩; replace bel := below_step bel hb; clear hb)
          | (go_at_call 15; refine (mul_any _ _ _).mono ?_; rintro e w1 ⟨rfl, hb⟩; replace bel := below_step bel hb; clear hb))
    go_ret
    exact ⟨rfl, bel⟩
  cases h2 : Rt.mayB b
  · clear ha hb hc hd
    go_enter Try.func6, Try.ntmps6
    go_wp2_with (first
          | (go_at_call 10; refine (awake_any _).mono ?_; rintro e w1 ⟨rfl, hb⟩; replace bel := below_step bel hb; clear hb)
          | (go_at_call 11; refine (may_any _ _).mono ?_; rintro e w' ⟨rfl, rfl⟩)
          | (go_at_call 12; refine (more_any _ _ _ _ _).mono ?_; rintro e w1 ⟨rfl, hb⟩; replace bel := below_step bel hb; clear hb)
          | (go_at_call 13; refine (add_any _ _ _).mono ?_; rintro e w1 ⟨rfl, hb⟩; replace bel := below_step bel hb; clear hb)
          | (go_at_call 15; refine (mul_any _ _ _).mono ?_; rintro e w1 ⟨rfl, hb⟩; replace bel := below_step bel hb; clear hb))
    go_ret
    exact ⟨rfl, bel⟩
  cases h3 : Rt.mayB c
  · clear ha hb hc hd
    go_enter Try.func6, Try.ntmps6
    go_wp2_with (first
          | (go_at_call 10; refine (awake_any _).mono ?_; rintro e w1 ⟨rfl, hb⟩; replace bel := below_step bel hb; clear hb)
          | (go_at_call 11; refine (may_any _ _).mono ?_; rintro e w' ⟨rfl, rfl⟩)
          | (go_at_call 12; refine (more_any _ _ _ _ _).mono ?_; rintro e w1 ⟨rfl, hb⟩; replace bel := below_step bel hb; clear hb)
          | (go_at_call 13; refine (add_any _ _ _).mono ?_; rintro e w1 ⟨rfl, hb⟩; replace bel := below_step bel hb; clear hb)
          | (go_at_call 15; refine (mul_any _ _ _).mono ?_; rintro e w1 ⟨rfl, hb⟩; replace bel := below_step bel hb; clear hb))
    go_ret
    exact ⟨rfl, bel⟩
  cases h4 : Rt.mayB d
  · clear ha hb hc hd
    go_enter Try.func6, Try.ntmps6
    go_wp2_with (first
          | (go_at_call 10; refine (awake_any _).mono ?_; rintro e w1 ⟨rfl, hb⟩; replace bel := below_step bel hb; clear hb)
          | (go_at_call 11; refine (may_any _ _).mono ?_; rintro e w' ⟨rfl, rfl⟩)
          | (go_at_call 12; refine (more_any _ _ _ _ _).mono ?_; rintro e w1 ⟨rfl, hb⟩; replace bel := below_step bel hb; clear hb)
          | (go_at_call 13; refine (add_any _ _ _).mono ?_; rintro e w1 ⟨rfl, hb⟩; replace bel := below_step bel hb; clear hb)
          | (go_at_call 15; refine (mul_any _ _ _).mono ?_; rintro e w1 ⟨rfl, hb⟩; replace bel := below_step bel hb; clear hb))
    go_ret
    exact ⟨rfl, bel⟩
  obtain ⟨f1, f2, f3, f4, f5⟩ := facts (a := a) (b := b) (c := c) (d := d) (by rw [h1, h2, h3, h4]; rfl)
  refine walk' a b c d _ _ _ _ _ _ h1 h2 h3 h4 f1 f2 f3 f4 f5 rfl rfl rfl rfl ?_ ?_ ?_ w
  · generalize a * b = p
    generalize c * d = q
    rw [Bool.and_eq_false_iff]
    simp
    omega
  · generalize a * b = p
    generalize c * d = q
    simp
    omega
  · generalize a * b = p
    generalize c * d = q
    simp
    omega
end ratioOne

end Go.Proofs.Ytbledgcfpfjfnaa
