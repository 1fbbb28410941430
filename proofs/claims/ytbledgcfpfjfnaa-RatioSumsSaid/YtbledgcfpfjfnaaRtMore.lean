/-
  The walk of ratio.More.
-/
import Derived.Test.YtbledgcfpfjfnaaRtSums
namespace Go.Proofs.Ytbledgcfpfjfnaa
open Go.RowKit
set_option linter.unusedSimpArgs false
set_option linter.unusedVariables false

theorem eqWords (a0 a1 b0 b1 : Int) (w : World) :
    (Op.equalIn 10000 34 (.agg #[.int .u64 a0, .int .u64 a1]) (.agg #[.int .u64 b0, .int .u64 b1])).run Try.prog w = .ok (a0 == b0 && a1 == b1) w := by
  have hu : Try.prog.underlying 34 = some (.array 2 32) := by kernel_rfl
  obtain ⟨i, hi⟩ : ∃ i, Try.prog.info? 32 = some i := by
    have h : (Try.prog.info? 32).isSome = true := by kernel_rfl
    exact Option.isSome_iff_exists.1 h
  have hc : Try.prog.cellsOf 32 = 1 := by kernel_rfl
  have uE := Try.underlying32
  have aE := Try.isAgg32
  rw [show 10000 = (9998 + 1) + 1 from rfl, run_equalIn_array w (9998 + 1) _ _ hu hi, hc, show List.range 2 = [0, 1] from rfl]
  simp only [Op.eqItems]
  go_simp
  by_cases h1 : a0 = b0 <;> by_cases h2 : a1 = b1 <;> simp [h1, h2]

theorem cmp2 (x0 x1 y0 y1 : Int) : 0 < Mx.cmpL [x0, x1] [y0, y1] ↔ y0 < x0 ∨ (x0 = y0 ∧ y1 < x1) := by
  simp only [Mx.cmpL]
  by_cases h1 : x0 < y0
  · simp [h1]; omega
  · by_cases h2 : y0 < x0
    · simp [h1, h2]
    · by_cases h3 : x1 < y1
      · simp [h1, h2, h3]; omega
      · by_cases h4 : y1 < x1
        · simp [h1, h2, h3, h4]; omega
        · simp [h1, h2, h3, h4]

/-- What the comparison of both products' words tells. -/
theorem words_tell {a b c d : Int} (h : (Rt.mayB a && Rt.mayB b && (Rt.mayB c && Rt.mayB d)) = true) :
    ((Rt.hi a b == Rt.hi c d && Rt.lo a b == Rt.lo c d) = decide (a * b = c * d)) ∧ (decide (0 < Mx.cmpL [Rt.hi a b, Rt.lo a b] [Rt.hi c d, Rt.lo c d]) = Rt.moreB a b c d) ∧ (a * b = c * d → Rt.moreB a b c d = false) := by
  unfold Rt.moreB
  rw [h]
  unfold Rt.hi Rt.lo
  generalize a * b = p
  generalize c * d = q
  refine ⟨?_, ?_, ?_⟩
  · rw [Bool.eq_iff_iff]
    simp
    omega
  · rw [Bool.true_and]
    refine decide_eq_decide.2 ((cmp2 _ _ _ _).trans ?_)
    omega
  · intro e
    simp [e]

/-- What 'More' asks of 'slices.Compare'. -/
theorem more_part (x0 x1 y0 y1 : Int) (W : World) (g h n : Nat) (e0 : W.cell? ⟨g, 0, none⟩ = some (.int .u64 x0)) (e1 : W.cell? ⟨g, 1, none⟩ = some (.int .u64 x1)) (e2 : W.cell? ⟨h, 0, none⟩ = some (.int .u64 y0)) (e3 : W.cell? ⟨h, 1, none⟩ = some (.int .u64 y1)) :
    Calls Try.prog 21 #[.slice (some ⟨g, 0, none⟩) 2 2, .slice (some ⟨h, 0, none⟩) 2 2] (W.drewN n)
      fun e w'' => e = .returned (.int .i64 (Mx.cmpL [x0, x1] [y0, y1])) ∧ ∃ m, w'' = W.drewN m :=
  Calls.quiet_same (compare_any g 0 2 h 0 2 [x0, x1] [y0, y1] _
    (fun i hi => by
      match i, hi with
      | 0, _ => simpa [Mx.nth] using e0
      | 1, _ => simpa [Mx.nth] using e1)
    (fun i hi => by
      match i, hi with
      | 0, _ => simpa [Mx.nth] using e2
      | 1, _ => simpa [Mx.nth] using e3)
    (by simp) (by simp))

set_option maxHeartbeats 1000000 in
theorem more_any (a b c d : Int) (w : World) :
    Calls Try.prog 12 #[.int .i64 a, .int .i64 b, .int .i64 c, .int .i64 d] w fun e w' => e = .returned (.bool (Rt.moreB a b c d)) ∧ Below w.heap.size w w' := by
  have bel : Below w.heap.size w (w.alloc (.cells #[.int .i64 a, .int .i64 b, .int .i64 c, .int .i64 d] 3)) := (Below.refl _ _).alloc (Nat.le_refl _) _
  obtain ⟨m, hm⟩ : ∃ m, (Rt.mayB a && Rt.mayB b && (Rt.mayB c && Rt.mayB d)) = m := ⟨_, rfl⟩
  have HM := Lib.hid hm
  cases m
  · have hf : Hid (Rt.moreB a b c d = false) := Lib.hid (by unfold Rt.moreB; rw [hm]; rfl)
    clear hm
    go_enter Try.func12, Try.ntmps12
    go_wp2_with (refine (fine4 _ _ _ _ _ _ _ rfl _ HM).mono ?_; rintro e w' ⟨rfl, rfl⟩)
    go_ret
    exact ⟨ret_bool hf.out.symm, bel⟩
  · have hab : (Rt.mayB a && Rt.mayB b) = true := by
      rw [Bool.and_eq_true] at hm; exact hm.1
    have hcd : (Rt.mayB c && Rt.mayB d) = true := by
      rw [Bool.and_eq_true] at hm; exact hm.2
    obtain ⟨ha, hb⟩ := both_may hab
    obtain ⟨hc, hd⟩ := both_may hcd
    obtain ⟨k1, k2, k3⟩ := words_tell hm
    have heq := eqWords (Rt.hi a b) (Rt.lo a b) (Rt.hi c d) (Rt.lo c d)
    rw [k1] at heq
    clear hm hab hcd k1
    obtain ⟨m, hm⟩ : ∃ m, Rt.moreB a b c d = m := ⟨_, rfl⟩
    rw [hm] at k2 k3
    obtain ⟨t, ht⟩ : ∃ t, decide (a * b = c * d) = t := ⟨_, rfl⟩
    rw [ht] at heq
    have K2 := Lib.hid k2
    have K3 : t = true → m = false := by
      intro h
      rw [h] at ht
      exact k3 (by simpa using ht)
    have MM := Lib.hid hm
    clear hm k2 k3 ht
    go_enter Try.func12, Try.ntmps12
    go_wp2_with fail
    refine (fine4 _ _ _ _ _ _ _ rfl _ HM).mono ?_
    rintro e w' ⟨rfl, rfl⟩
    go_wp2_with fail
    refine (times_any a b ha hb _).mono ?_
    rintro e w1 ⟨rfl, hb1⟩
    go_wp2_with fail
    refine (times_any c d hc hd _).mono ?_
    rintro e w2 ⟨rfl, hb2⟩
    go_wp2_with fail
    have k2 := below_step (below_step bel hb1) hb2
    have k3 := (k2.alloc k2.size (.cells #[.int .u64 (Rt.hi a b), .int .u64 (Rt.lo a b)] 34)).alloc (by have := k2.size; simp; omega) (.cells #[.int .u64 (Rt.hi c d), .int .u64 (Rt.lo c d)] 34)
    have e2 := fun i => cell_at (heap_alloc_new (w2.alloc (.cells #[.int .u64 (Rt.hi a b), .int .u64 (Rt.lo a b)] 34)) (.cells #[.int .u64 (Rt.hi c d), .int .u64 (Rt.lo c d)] 34)) i
    have e1 := fun i => ((Below.refl _ (w2.alloc (.cells #[.int .u64 (Rt.hi a b), .int .u64 (Rt.lo a b)] 34))).alloc (Nat.le_refl _) (.cells #[.int .u64 (Rt.hi c d), .int .u64 (Rt.lo c d)] 34)).cell (p := ⟨w2.heap.size, i, none⟩) (by simp)
    have c0 := (e1 0).trans (cell_at (heap_alloc_new w2 _) 0)
    have c1 := (e1 1).trans (cell_at (heap_alloc_new w2 _) 1)
    have d0 := e2 0
    have d1 := e2 1
    rw [World.size_alloc] at d0 d1
    clear e1 e2 hb1 hb2 k2 bel
    generalize (w2.alloc (.cells #[.int .u64 (Rt.hi a b), .int .u64 (Rt.lo a b)] 34)).alloc (.cells #[.int .u64 (Rt.hi c d), .int .u64 (Rt.lo c d)] 34) = W at k3 c0 c1 d0 d1 ⊢
    simp only [List.getElem?_toArray, List.getElem?_cons_zero, List.getElem?_cons_succ] at c0 c1 d0 d1
    cases t
    · go_quiet ((go_at_call 21; exact more_part _ _ _ _ W _ _ _ c0 c1 d0 d1))
      go_wp2
      go_ret
      exact ⟨ret_bool (K2.out.trans MM.out.symm), k3.trans (below_drewN _ _ _)⟩
    · obtain rfl := K3 rfl
      go_quiet (fail)
      go_wp2
      go_ret
      exact ⟨ret_bool MM.out.symm, k3.trans (below_drewN _ _ _)⟩

end Go.Proofs.Ytbledgcfpfjfnaa
