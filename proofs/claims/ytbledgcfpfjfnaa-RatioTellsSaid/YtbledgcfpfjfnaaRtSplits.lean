/-
  RatioSums, RatioSplits: the walks.
-/
import Derived.Test.YtbledgcfpfjfnaaRtThree
namespace Go.Proofs.Ytbledgcfpfjfnaa
open Go.RowKit
set_option linter.unusedSimpArgs false
set_option linter.unusedVariables false

namespace ratioSums
theorem add_comm' (a b : Int) : Rt.addOk b a = Rt.addOk a b := by
  unfold Rt.addOk
  rw [Int.add_comm b a, Bool.and_comm (Rt.mayB b)]
theorem mul_comm' (a b : Int) : Rt.mulOk b a = Rt.mulOk a b := by
  unfold Rt.mulOk
  rw [Int.mul_comm b a, Bool.and_comm (Rt.mayB b)]
theorem ok {a b : Int} (h : Rt.addOk a b = true) : (0 ≤ a ∧ a ≤ 4611686018427387904) ∧ (0 ≤ b ∧ b ≤ 4611686018427387904) ∧ a + b ≤ 4611686018427387904 := by
  unfold Rt.addOk at h
  simp only [Bool.and_eq_true, Rt.may_iff, decide_eq_true_eq] at h
  exact ⟨h.1.1, h.1.2, h.2⟩
theorem ok_mk {a b : Int} (h1 : 0 ≤ a) (h2 : 0 ≤ b) (h3 : a + b ≤ 4611686018427387904) : Rt.addOk a b = true := by
  unfold Rt.addOk
  simp only [Bool.and_eq_true, Rt.may_iff, decide_eq_true_eq]
  omega
/-- Of three, put together either way. -/
theorem assoc {a b c : Int} (h : Rt.addOk a b = true) (h' : Rt.addOk (a + b) c = true) : Rt.addOk b c = true ∧ Rt.addOk a (b + c) = true := by
  have h1 := ok h
  have h2 := ok h'
  exact ⟨ok_mk (by omega) (by omega) (by omega), ok_mk (by omega) (by omega) (by omega)⟩

set_option maxHeartbeats 1000000 in
theorem walk (a : Int) (ha : IsI a) (b : Int) (hb : IsI b) (c : Int) (hc : IsI c) (w : World) :
    Calls Try.prog 7 #[.int .i64 a, .int .i64 b, .int .i64 c] w fun e w' => e = .returned (.bool true) ∧ Below w.heap.size w w' := by
  have bel := Below.refl w.heap.size w
  have p1 := pick_true
  have p2 := pick_false
  have c1 := add_comm' a b
  have c2 := mul_comm' a b
  have e1 : b + a = a + b := Int.add_comm b a
  have e2 : b * a = a * b := Int.mul_comm b a
  clear ha hb hc
  cases s : Rt.addOk a b
  case false =>
    rw [s] at c1
    cases u : Rt.mulOk a b
    all_goals
      rw [u] at c2
      go_enter Try.func7, Try.ntmps7
      go_wp2_with (first
            | (go_at_call 10; refine (awake_any _).mono ?_; rintro e w1 ⟨rfl, hb⟩; replace bel := below_step bel hb; clear hb)
            | (go_at_call 11; refine (may_any _ _).mono ?_; rintro e w' ⟨rfl, rfl⟩)
            | (go_at_call 12; refine (more_any _ _ _ _ _).mono ?_; rintro e w1 ⟨rfl, hb⟩; replace bel := below_step bel hb; clear hb)
            | (go_at_call 13; refine (add_any _ _ _).mono ?_; rintro e w1 ⟨rfl, hb⟩; replace bel := below_step bel hb; clear hb)
            | (go_at_call 15; refine (mul_any _ _ _).mono ?_; rintro e w1 ⟨rfl, hb⟩; replace bel := below_step bel hb; clear hb))
      go_ret
      exact ⟨rfl, bel⟩
  case true =>
    rw [s] at c1
    have hs := ok s
    have m1 : Rt.mayB (a + b) = true := (Rt.may_iff _).2 ⟨by omega, by omega⟩
    have l1 : decide (a + b < a) = false := by simp; omega
    have l2 : decide (a + b < b) = false := by simp; omega
    have hx := assoc (a := a) (b := b) (c := c) s
    clear hs
    cases u : Rt.mulOk a b
    all_goals
      rw [u] at c2
      cases o : Rt.addOk (a + b) c
      case false =>
        clear hx
        cases t : Rt.addOk b c
        all_goals
          go_enter Try.func7, Try.ntmps7
          go_wp2_with (first
                | (go_at_call 10; refine (awake_any _).mono ?_; rintro e w1 ⟨rfl, hb⟩; replace bel := below_step bel hb; clear hb)
                | (go_at_call 11; refine (may_any _ _).mono ?_; rintro e w' ⟨rfl, rfl⟩)
                | (go_at_call 12; refine (more_any _ _ _ _ _).mono ?_; rintro e w1 ⟨rfl, hb⟩; replace bel := below_step bel hb; clear hb)
                | (go_at_call 13; refine (add_any _ _ _).mono ?_; rintro e w1 ⟨rfl, hb⟩; replace bel := below_step bel hb; clear hb)
                | (go_at_call 15; refine (mul_any _ _ _).mono ?_; rintro e w1 ⟨rfl, hb⟩; replace bel := below_step bel hb; clear hb))
          go_ret
          exact ⟨rfl, bel⟩
      case true =>
        obtain ⟨x1, x2⟩ := hx o
        have x3 : (a + (b + c) == a + b + c) = true := by simp; omega
        clear hx
        go_enter Try.func7, Try.ntmps7
        go_wp2_with (first
              | (go_at_call 10; refine (awake_any _).mono ?_; rintro e w1 ⟨rfl, hb⟩; replace bel := below_step bel hb; clear hb)
              | (go_at_call 11; refine (may_any _ _).mono ?_; rintro e w' ⟨rfl, rfl⟩)
              | (go_at_call 12; refine (more_any _ _ _ _ _).mono ?_; rintro e w1 ⟨rfl, hb⟩; replace bel := below_step bel hb; clear hb)
              | (go_at_call 13; refine (add_any _ _ _).mono ?_; rintro e w1 ⟨rfl, hb⟩; replace bel := below_step bel hb; clear hb)
              | (go_at_call 15; refine (mul_any _ _ _).mono ?_; rintro e w1 ⟨rfl, hb⟩; replace bel := below_step bel hb; clear hb))
        go_ret
        exact ⟨ret_bool (by first | rfl | exact x3), bel⟩
end ratioSums

namespace ratioSplits
theorem mok {a b : Int} (h : Rt.mulOk a b = true) : a * b ≤ 4611686018427387904 := by
  unfold Rt.mulOk at h
  simp only [Bool.and_eq_true, decide_eq_true_eq] at h
  exact h.2
theorem mok_eq {a b : Int} (ha : Rt.mayB a = true) (hb : Rt.mayB b = true) : Rt.mulOk a b = decide (a * b ≤ 4611686018427387904) := by
  unfold Rt.mulOk
  rw [ha, hb]; rfl
theorem facts {a b c : Int} (h : Rt.addOk a b = true) (hc : Rt.mayB c = true) :
    Rt.mulOk (a + b) c = (Rt.mulOk a c && Rt.mulOk b c && Rt.addOk (Rt.pick (Rt.mulOk a c) (a * c)) (Rt.pick (Rt.mulOk b c) (b * c))) := by
  have hs := ratioSums.ok h
  have h3 := (Rt.may_iff c).1 hc
  have ma : Rt.mayB a = true := (Rt.may_iff _).2 hs.1
  have mb : Rt.mayB b = true := (Rt.may_iff _).2 hs.2.1
  have mab : Rt.mayB (a + b) = true := (Rt.may_iff _).2 ⟨by omega, by omega⟩
  have e1 : 0 ≤ a * c := Int.mul_nonneg hs.1.1 h3.1
  have e2 : 0 ≤ b * c := Int.mul_nonneg hs.2.1.1 h3.1
  rw [mok_eq ma hc, mok_eq mb hc, mok_eq mab hc, Int.add_mul]
  generalize a * c = p at *
  generalize b * c = q at *
  unfold Rt.addOk Rt.pick
  by_cases k1 : p ≤ 4611686018427387904
  · by_cases k2 : q ≤ 4611686018427387904
    · rw [decide_eq_true k1, decide_eq_true k2]
      simp only [if_true, (Rt.may_iff p).2 ⟨e1, k1⟩, (Rt.may_iff q).2 ⟨e2, k2⟩, Bool.and_self, Bool.true_and]
    · rw [decide_eq_false k2, decide_eq_false (by omega)]
      simp
  · rw [decide_eq_false k1, decide_eq_false (by omega)]
    simp

set_option maxHeartbeats 1000000 in
theorem walk' (a b c : Int) (o t th f : Bool) (hs : Rt.addOk a b = true) (hc : Rt.mayB c = true) (h1 : Rt.mulOk a c = o) (h2 : Rt.mulOk b c = t) (h3 : Rt.addOk (Rt.pick o (a * c)) (Rt.pick t (b * c)) = th) (h4 : Rt.mulOk (a + b) c = f)
    (h : f = (o && t && th)) (w : World) :
    Calls Try.prog 8 #[.int .i64 a, .int .i64 b, .int .i64 c] w fun e w' => e = .returned (.bool true) ∧ Below w.heap.size w w' := by
  have bel := Below.refl w.heap.size w
  have p1 := pick_true
  have p2 := pick_false
  have x3 : ((a + b) * c == a * c + b * c) = true := by rw [Int.add_mul]; simp
  subst h
  cases o <;> cases t <;> cases th
  all_goals
    simp only [Bool.and_self, Bool.and_true, Bool.and_false, Bool.false_and, p1, p2] at h3 h4
    go_enter Try.func8, Try.ntmps8
    go_wp2_with (first
          | (go_at_call 10; refine (awake_any _).mono ?_; rintro e w1 ⟨rfl, hb⟩; replace bel := below_step bel hb; clear hb)
          | (go_at_call 11; refine (may_any _ _).mono ?_; rintro e w' ⟨rfl, rfl⟩)
          | (go_at_call 12; refine (more_any _ _ _ _ _).mono ?_; rintro e w1 ⟨rfl, hb⟩; replace bel := below_step bel hb; clear hb)
          | (go_at_call 13; refine (add_any _ _ _).mono ?_; rintro e w1 ⟨rfl, hb⟩; replace bel := below_step bel hb; clear hb)
          | (go_at_call 15; refine (mul_any _ _ _).mono ?_; rintro e w1 ⟨rfl, hb⟩; replace bel := below_step bel hb; clear hb))
    go_ret
    exact ⟨ret_bool (by first | rfl | exact x3), bel⟩

set_option maxHeartbeats 1000000 in
theorem walk (a : Int) (ha : IsI a) (b : Int) (hb : IsI b) (c : Int) (hc : IsI c) (w : World) :
    Calls Try.prog 8 #[.int .i64 a, .int .i64 b, .int .i64 c] w fun e w' => e = .returned (.bool true) ∧ Below w.heap.size w w' := by
  have bel := Below.refl w.heap.size w
  clear ha hb hc
  cases s : Rt.addOk a b
  · go_enter Try.func8, Try.ntmps8
    go_wp2_with (first
          | (go_at_call 10; refine (awake_any _).mono ?_; rintro e w1 ⟨rfl, hb⟩; replace bel := below_step bel hb; clear hb)
          | (go_at_call 11; refine (may_any _ _).mono ?_; rintro e w' ⟨rfl, rfl⟩)
          | (go_at_call 12; refine (more_any _ _ _ _ _).mono ?_; rintro e w1 ⟨rfl, hb⟩; replace bel := below_step bel hb; clear hb)
          | (go_at_call 13; refine (add_any _ _ _).mono ?_; rintro e w1 ⟨rfl, hb⟩; replace bel := below_step bel hb; clear hb)
          | (go_at_call 15; refine (mul_any _ _ _).mono ?_; rintro e w1 ⟨rfl, hb⟩; replace bel := below_step bel hb; clear hb))
    go_ret
    exact ⟨rfl, bel⟩
  · cases m : Rt.mayB c
    · go_enter Try.func8, Try.ntmps8
      go_wp2_with (first
            | (go_at_call 10; refine (awake_any _).mono ?_; rintro e w1 ⟨rfl, hb⟩; replace bel := below_step bel hb; clear hb)
            | (go_at_call 11; refine (may_any _ _).mono ?_; rintro e w' ⟨rfl, rfl⟩)
            | (go_at_call 12; refine (more_any _ _ _ _ _).mono ?_; rintro e w1 ⟨rfl, hb⟩; replace bel := below_step bel hb; clear hb)
            | (go_at_call 13; refine (add_any _ _ _).mono ?_; rintro e w1 ⟨rfl, hb⟩; replace bel := below_step bel hb; clear hb)
            | (go_at_call 15; refine (mul_any _ _ _).mono ?_; rintro e w1 ⟨rfl, hb⟩; replace bel := below_step bel hb; clear hb))
      go_ret
      exact ⟨rfl, bel⟩
    · exact walk' a b c _ _ _ _ s m rfl rfl rfl rfl (facts s m) w
end ratioSplits

end Go.Proofs.Ytbledgcfpfjfnaa
