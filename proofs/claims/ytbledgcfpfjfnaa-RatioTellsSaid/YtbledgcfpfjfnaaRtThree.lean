/-
  RatioThree, RatioOnes: the walks.
-/
import Derived.Test.YtbledgcfpfjfnaaOpen
namespace Go.Proofs.Ytbledgcfpfjfnaa
open Go.RowKit
set_option linter.unusedSimpArgs false
set_option linter.unusedVariables false

theorem pick_true (n : Int) : Rt.pick true n = n := rfl
theorem pick_false (n : Int) : Rt.pick false n = 0 := rfl

namespace ratioThree
theorem more_trans (a b c d e f : Int) : (!Rt.moreB a b c d || !Rt.moreB c d e f || Rt.moreB a b e f) = true := by
  unfold Rt.moreB
  generalize a * b = p
  generalize c * d = q
  generalize e * f = r
  cases Rt.mayB a <;> cases Rt.mayB b <;> cases Rt.mayB c <;> cases Rt.mayB d <;> cases Rt.mayB e <;> cases Rt.mayB f <;> simp
  omega

set_option maxHeartbeats 1000000 in
theorem walk' (a b c d e f : Int) (m1 m2 m3 : Bool) (h1 : Rt.moreB a b c d = m1) (h2 : Rt.moreB c d e f = m2) (h3 : Rt.moreB a b e f = m3) (h : (!m1 || !m2 || m3) = true) (w : World) :
    Calls Try.prog 4 #[.int .i64 a, .int .i64 b, .int .i64 c, .int .i64 d, .int .i64 e, .int .i64 f] w fun e w' => e = .returned (.bool true) ∧ Below w.heap.size w w' := by
  have bel := Below.refl w.heap.size w
  cases m1 <;> cases m2 <;> cases m3 <;> first | (exfalso; revert h; decide) | skip
  all_goals
    clear h
    go_enter Try.func4, Try.ntmps4
    go_wp2_with (first
      | (go_at_call 10; refine (awake_any _).mono ?_; rintro e w1 ⟨rfl, hb⟩; replace bel := below_step bel hb; clear hb)
      | (go_at_call 11; refine (may_any _ _).mono ?_; rintro e w' ⟨rfl, rfl⟩)
      | (go_at_call 12; refine (more_any _ _ _ _ _).mono ?_; rintro e w1 ⟨rfl, hb⟩; replace bel := below_step bel hb; clear hb)
      | (go_at_call 13; refine (add_any _ _ _).mono ?_; rintro e w1 ⟨rfl, hb⟩; replace bel := below_step bel hb; clear hb)
      | (go_at_call 15; refine (mul_any _ _ _).mono ?_; rintro e w1 ⟨rfl, hb⟩; replace bel := below_step bel hb; clear hb))
    go_ret
    exact ⟨rfl, bel⟩

theorem walk (a : Int) (ha : IsI a) (b : Int) (hb : IsI b) (c : Int) (hc : IsI c) (d : Int) (hd : IsI d) (e : Int) (he : IsI e) (f : Int) (hf : IsI f) (w : World) :
    Calls Try.prog 4 #[.int .i64 a, .int .i64 b, .int .i64 c, .int .i64 d, .int .i64 e, .int .i64 f] w fun e w' => e = .returned (.bool true) ∧ Below w.heap.size w w' :=
  walk' a b c d e f _ _ _ rfl rfl rfl (more_trans a b c d e f) w
end ratioThree

namespace ratioOnes
theorem facts (a b : Int) (h : (Rt.mayB a && Rt.mayB b) = true) : Rt.moreB a 1 b 1 = decide (b < a) ∧ Rt.moreB 1 a b 1 = decide (b < a) ∧ Rt.mulOk a 1 = true := by
  rw [Bool.and_eq_true] at h
  have m1 : Rt.mayB 1 = true := by decide
  have := (Rt.may_iff a).1 h.1
  unfold Rt.moreB Rt.mulOk
  rw [h.1, h.2, m1]
  simp
  omega
theorem facts' (a b : Int) (h : (Rt.mayB a && Rt.mayB b) = false) : Rt.moreB a 1 b 1 = false ∧ Rt.moreB b 1 a 1 = false := by
  unfold Rt.moreB
  cases ha : Rt.mayB a <;> cases hb : Rt.mayB b <;> simp [ha, hb] at h ⊢

set_option maxHeartbeats 1000000 in
theorem walk (a : Int) (ha : IsI a) (b : Int) (hb : IsI b) (w : World) :
    Calls Try.prog 9 #[.int .i64 a, .int .i64 b] w fun e w' => e = .returned (.bool true) ∧ Below w.heap.size w w' := by
  have bel := Below.refl w.heap.size w
  have p1 := pick_true
  obtain ⟨t, ht⟩ : ∃ t, decide (b < a) = t := ⟨_, rfl⟩
  obtain ⟨ma, hma⟩ : ∃ m, Rt.mayB a = m := ⟨_, rfl⟩
  obtain ⟨mb, hmb⟩ : ∃ m, Rt.mayB b = m := ⟨_, rfl⟩
  have hf := facts a b
  have hf' := facts' a b
  rw [hma, hmb, ht] at hf
  rw [hma, hmb] at hf'
  obtain ⟨a0, a1⟩ := ha
  obtain ⟨b0, b1⟩ := hb
  cases ma <;> cases mb
  case true.true =>
    obtain ⟨f1, f2, f3⟩ := hf rfl
    clear hf hf'
    cases t
    all_goals
      go_enter Try.func9, Try.ntmps9
      go_wp2_with (first
        | (go_at_call 10; refine (awake_any _).mono ?_; rintro e w1 ⟨rfl, hb⟩; replace bel := below_step bel hb; clear hb)
        | (go_at_call 11; refine (may_any _ _).mono ?_; rintro e w' ⟨rfl, rfl⟩)
        | (go_at_call 12; refine (more_any _ _ _ _ _).mono ?_; rintro e w1 ⟨rfl, hb⟩; replace bel := below_step bel hb; clear hb)
        | (go_at_call 13; refine (add_any _ _ _).mono ?_; rintro e w1 ⟨rfl, hb⟩; replace bel := below_step bel hb; clear hb)
        | (go_at_call 15; refine (mul_any _ _ _).mono ?_; rintro e w1 ⟨rfl, hb⟩; replace bel := below_step bel hb; clear hb))
      go_ret
      exact ⟨ret_bool (by simp), bel⟩
  all_goals
    obtain ⟨f1, f2⟩ := hf' rfl
    clear hf hf' ht
    go_enter Try.func9, Try.ntmps9
    go_wp2_with (first
      | (go_at_call 10; refine (awake_any _).mono ?_; rintro e w1 ⟨rfl, hb⟩; replace bel := below_step bel hb; clear hb)
      | (go_at_call 11; refine (may_any _ _).mono ?_; rintro e w' ⟨rfl, rfl⟩)
      | (go_at_call 12; refine (more_any _ _ _ _ _).mono ?_; rintro e w1 ⟨rfl, hb⟩; replace bel := below_step bel hb; clear hb)
      | (go_at_call 13; refine (add_any _ _ _).mono ?_; rintro e w1 ⟨rfl, hb⟩; replace bel := below_step bel hb; clear hb)
      | (go_at_call 15; refine (mul_any _ _ _).mono ?_; rintro e w1 ⟨rfl, hb⟩; replace bel := below_step bel hb; clear hb))
    go_ret
    exact ⟨rfl, bel⟩
end ratioOnes

end Go.Proofs.Ytbledgcfpfjfnaa
