/-
  RatioGrows: the walk.
-/
import Derived.Test.YtbledgcfpfjfnaaRtThree
namespace Go.Proofs.Ytbledgcfpfjfnaa
open Go.RowKit
set_option linter.unusedSimpArgs false
set_option linter.unusedVariables false

namespace ratioGrows
theorem facts {a b c d more : Int} (h0 : 0 ≤ more) (h1 : more ≤ 1099511627776) (h2 : 0 ≤ a) (h3 : a ≤ 2305843009213693952) (k1 : Rt.mayB b = true) (k2 : Rt.mayB c = true) (k3 : Rt.mayB d = true) :
    Rt.moreB 0 b c d = false ∧ (Rt.moreB a b c d = true → Rt.moreB (a + more) b c d = true) ∧ Rt.moreB a b 0 d = (decide (0 < a) && decide (0 < b)) := by
  have ma : Rt.mayB a = true := (Rt.may_iff a).2 ⟨by omega, by omega⟩
  have mm : Rt.mayB (a + more) = true := (Rt.may_iff _).2 ⟨by omega, by omega⟩
  have m0 : Rt.mayB 0 = true := by decide
  have hb := (Rt.may_iff b).1 k1
  have hc := (Rt.may_iff c).1 k2
  have hd := (Rt.may_iff d).1 k3
  unfold Rt.moreB
  rw [ma, mm, m0, k1, k2, k3]
  simp only [Bool.and_self, Bool.true_and, Int.zero_mul, Int.add_mul]
  have e1 : 0 ≤ c * d := Int.mul_nonneg hc.1 hd.1
  have e2 : 0 ≤ more * b := Int.mul_nonneg h0 hb.1
  refine ⟨?_, ?_, ?_⟩
  · simp
    omega
  · generalize a * b = p
    generalize c * d = q at *
    generalize more * b = r at *
    simp
    omega
  · rw [Bool.eq_iff_iff]
    simp
    constructor
    · intro h
      have na : a ≠ 0 := fun e => by rw [e] at h; simp at h
      have nb : b ≠ 0 := fun e => by rw [e] at h; simp at h
      omega
    · intro h
      exact Int.mul_pos h.1 h.2

set_option maxHeartbeats 1000000 in
theorem walk' (a b c d more : Int) (m : Bool) (h0 : 0 ≤ more) (h1 : more ≤ 1099511627776) (h2 : 0 ≤ a) (h3 : a ≤ 2305843009213693952) (k1 : Rt.mayB b = true) (k2 : Rt.mayB c = true) (k3 : Rt.mayB d = true)
    (f1 : Rt.moreB 0 b c d = false) (f2 : Rt.moreB a b c d = m) (f3 : m = true → Rt.moreB (a + more) b c d = true) (t1 t2 : Bool) (f4 : Rt.moreB a b 0 d = (t1 && t2)) (g1 : decide (0 < a) = t1) (g2 : decide (0 < b) = t2) (w : World) :
    Calls Try.prog 3 #[.int .i64 a, .int .i64 b, .int .i64 c, .int .i64 d, .int .i64 more] w fun e w' => e = .returned (.bool true) ∧ Below w.heap.size w w' := by
  have bel := Below.refl w.heap.size w
  have b1 : decide (more < 0) = false := by simp; omega
  have b2 : decide (1099511627776 < more) = false := by simp; omega
  have b3 : decide (a < 0) = false := by simp; omega
  have b4 : decide (2305843009213693952 < a) = false := by simp; omega
  cases m
  · clear f3
    cases t1 <;> cases t2
    all_goals
      simp only [Bool.and_self, Bool.and_true, Bool.and_false] at f4
      go_enter Try.func3, Try.ntmps3
      go_wp2_with (first
            | (go_at_call 10; refine (awake_any _).mono ?_; rintro e w1 ⟨rfl, hb⟩; replace bel := below_step bel hb; clear hb)
            | (go_at_call 11; refine (may_any _ _).mono ?_; rintro e w' ⟨rfl, rfl⟩)
            | (go_at_call 12; refine (more_any _ _ _ _ _).mono ?_; rintro e w1 ⟨rfl, hb⟩; replace bel := below_step bel hb; clear hb)
            | (go_at_call 13; refine (add_any _ _ _).mono ?_; rintro e w1 ⟨rfl, hb⟩; replace bel := below_step bel hb; clear hb)
            | (go_at_call 15; refine (mul_any _ _ _).mono ?_; rintro e w1 ⟨rfl, hb⟩; replace bel := below_step bel hb; clear hb))
      go_ret
      exact ⟨ret_bool (by simp), bel⟩
  · replace f3 := f3 rfl
    cases t1 <;> cases t2
    all_goals
      simp only [Bool.and_self, Bool.and_true, Bool.and_false] at f4
      go_enter Try.func3, Try.ntmps3
      go_wp2_with (first
            | (go_at_call 10; refine (awake_any _).mono ?_; rintro e w1 ⟨rfl, hb⟩; replace bel := below_step bel hb; clear hb)
            | (go_at_call 11; refine (may_any _ _).mono ?_; rintro e w' ⟨rfl, rfl⟩)
            | (go_at_call 12; refine (more_any _ _ _ _ _).mono ?_; rintro e w1 ⟨rfl, hb⟩; replace bel := below_step bel hb; clear hb)
            | (go_at_call 13; refine (add_any _ _ _).mono ?_; rintro e w1 ⟨rfl, hb⟩; replace bel := below_step bel hb; clear hb)
            | (go_at_call 15; refine (mul_any _ _ _).mono ?_; rintro e w1 ⟨rfl, hb⟩; replace bel := below_step bel hb; clear hb))
      go_ret
      exact ⟨ret_bool (by simp), bel⟩

set_option maxHeartbeats 1000000 in
theorem walk (a : Int) (ha : IsI a) (b : Int) (hb : IsI b) (c : Int) (hc : IsI c) (d : Int) (hd : IsI d) (more : Int) (hm : IsI more) (w : World) :
    Calls Try.prog 3 #[.int .i64 a, .int .i64 b, .int .i64 c, .int .i64 d, .int .i64 more] w fun e w' => e = .returned (.bool true) ∧ Below w.heap.size w w' := by
  have bel := Below.refl w.heap.size w
  clear ha hb hc hd hm
  cases b1 : decide (more < 0)
  case true =>
    go_enter Try.func3, Try.ntmps3
    go_wp2_with (first
          | (go_at_call 10; refine (awake_any _).mono ?_; rintro e w1 ⟨rfl, hb⟩; replace bel := below_step bel hb; clear hb)
          | (go_at_call 11; refine (may_any _ _).mono ?_; rintro e w' ⟨rfl, rfl⟩)
          | (go_at_call 12; refine (more_any _ _ _ _ _).mono ?_; rintro e w1 ⟨rfl, hb⟩; replace bel := below_step bel hb; clear hb)
          | (go_at_call 13; refine (add_any _ _ _).mono ?_; rintro e w1 ⟨rfl, hb⟩; replace bel := below_step bel hb; clear hb)
          | (go_at_call 15; refine (mul_any _ _ _).mono ?_; rintro e w1 ⟨rfl, hb⟩; replace bel := below_step bel hb; clear hb))
    go_ret
    exact ⟨rfl, bel⟩
  cases b2 : decide (1099511627776 < more)
  case true =>
    go_enter Try.func3, Try.ntmps3
    go_wp2_with (first
          | (go_at_call 10; refine (awake_any _).mono ?_; rintro e w1 ⟨rfl, hb⟩; replace bel := below_step bel hb; clear hb)
          | (go_at_call 11; refine (may_any _ _).mono ?_; rintro e w' ⟨rfl, rfl⟩)
          | (go_at_call 12; refine (more_any _ _ _ _ _).mono ?_; rintro e w1 ⟨rfl, hb⟩; replace bel := below_step bel hb; clear hb)
          | (go_at_call 13; refine (add_any _ _ _).mono ?_; rintro e w1 ⟨rfl, hb⟩; replace bel := below_step bel hb; clear hb)
          | (go_at_call 15; refine (mul_any _ _ _).mono ?_; rintro e w1 ⟨rfl, hb⟩; replace bel := below_step bel hb; clear hb))
    go_ret
    exact ⟨rfl, bel⟩
  cases b3 : decide (a < 0)
  case true =>
    go_enter Try.func3, Try.ntmps3
    go_wp2_with (first
          | (go_at_call 10; refine (awake_any _).mono ?_; rintro e w1 ⟨rfl, hb⟩; replace bel := below_step bel hb; clear hb)
          | (go_at_call 11; refine (may_any _ _).mono ?_; rintro e w' ⟨rfl, rfl⟩)
          | (go_at_call 12; refine (more_any _ _ _ _ _).mono ?_; rintro e w1 ⟨rfl, hb⟩; replace bel := below_step bel hb; clear hb)
          | (go_at_call 13; refine (add_any _ _ _).mono ?_; rintro e w1 ⟨rfl, hb⟩; replace bel := below_step bel hb; clear hb)
          | (go_at_call 15; refine (mul_any _ _ _).mono ?_; rintro e w1 ⟨rfl, hb⟩; replace bel := below_step bel hb; clear hb))
    go_ret
    exact ⟨rfl, bel⟩
  cases b4 : decide (2305843009213693952 < a)
  case true =>
    go_enter Try.func3, Try.ntmps3
    go_wp2_with (first
          | (go_at_call 10; refine (awake_any _).mono ?_; rintro e w1 ⟨rfl, hb⟩; replace bel := below_step bel hb; clear hb)
          | (go_at_call 11; refine (may_any _ _).mono ?_; rintro e w' ⟨rfl, rfl⟩)
          | (go_at_call 12; refine (more_any _ _ _ _ _).mono ?_; rintro e w1 ⟨rfl, hb⟩; replace bel := below_step bel hb; clear hb)
          | (go_at_call 13; refine (add_any _ _ _).mono ?_; rintro e w1 ⟨rfl, hb⟩; replace bel := below_step bel hb; clear hb)
          | (go_at_call 15; refine (mul_any _ _ _).mono ?_; rintro e w1 ⟨rfl, hb⟩; replace bel := below_step bel hb; clear hb))
    go_ret
    exact ⟨rfl, bel⟩
  cases k1 : Rt.mayB b
  case false =>
    go_enter Try.func3, Try.ntmps3
    go_wp2_with (first
          | (go_at_call 10; refine (awake_any _).mono ?_; rintro e w1 ⟨rfl, hb⟩; replace bel := below_step bel hb; clear hb)
          | (go_at_call 11; refine (may_any _ _).mono ?_; rintro e w' ⟨rfl, rfl⟩)
          | (go_at_call 12; refine (more_any _ _ _ _ _).mono ?_; rintro e w1 ⟨rfl, hb⟩; replace bel := below_step bel hb; clear hb)
          | (go_at_call 13; refine (add_any _ _ _).mono ?_; rintro e w1 ⟨rfl, hb⟩; replace bel := below_step bel hb; clear hb)
          | (go_at_call 15; refine (mul_any _ _ _).mono ?_; rintro e w1 ⟨rfl, hb⟩; replace bel := below_step bel hb; clear hb))
    go_ret
    exact ⟨rfl, bel⟩
  cases k2 : Rt.mayB c
  case false =>
    go_enter Try.func3, Try.ntmps3
    go_wp2_with (first
          | (go_at_call 10; refine (awake_any _).mono ?_; rintro e w1 ⟨rfl, hb⟩; replace bel := below_step bel hb; clear hb)
          | (go_at_call 11; refine (may_any _ _).mono ?_; rintro e w' ⟨rfl, rfl⟩)
          | (go_at_call 12; refine (more_any _ _ _ _ _).mono ?_; rintro e w1 ⟨rfl, hb⟩; replace bel := below_step bel hb; clear hb)
          | (go_at_call 13; refine (add_any _ _ _).mono ?_; rintro e w1 ⟨rfl, hb⟩; replace bel := below_step bel hb; clear hb)
          | (go_at_call 15; refine (mul_any _ _ _).mono ?_; rintro e w1 ⟨rfl, hb⟩; replace bel := below_step bel hb; clear hb))
    go_ret
    exact ⟨rfl, bel⟩
  cases k3 : Rt.mayB d
  case false =>
    go_enter Try.func3, Try.ntmps3
    go_wp2_with (first
          | (go_at_call 10; refine (awake_any _).mono ?_; rintro e w1 ⟨rfl, hb⟩; replace bel := below_step bel hb; clear hb)
          | (go_at_call 11; refine (may_any _ _).mono ?_; rintro e w' ⟨rfl, rfl⟩)
          | (go_at_call 12; refine (more_any _ _ _ _ _).mono ?_; rintro e w1 ⟨rfl, hb⟩; replace bel := below_step bel hb; clear hb)
          | (go_at_call 13; refine (add_any _ _ _).mono ?_; rintro e w1 ⟨rfl, hb⟩; replace bel := below_step bel hb; clear hb)
          | (go_at_call 15; refine (mul_any _ _ _).mono ?_; rintro e w1 ⟨rfl, hb⟩; replace bel := below_step bel hb; clear hb))
    go_ret
    exact ⟨rfl, bel⟩
  have h0 : 0 ≤ more := by simpa using b1
  have h1 : more ≤ 1099511627776 := by simpa using b2
  have h2 : 0 ≤ a := by simpa using b3
  have h3 : a ≤ 2305843009213693952 := by simpa using b4
  obtain ⟨f1, f2, f3⟩ := facts h0 h1 h2 h3 k1 k2 k3
  exact walk' a b c d more _ h0 h1 h2 h3 k1 k2 k3 f1 rfl f2 _ _ f3 rfl rfl w
end ratioGrows

end Go.Proofs.Ytbledgcfpfjfnaa
