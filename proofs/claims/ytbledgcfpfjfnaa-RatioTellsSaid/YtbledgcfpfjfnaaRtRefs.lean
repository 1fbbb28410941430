/-
  The walks of ratio's references: sums and products.
-/
import Derived.Test.YtbledgcfpfjfnaaRtSplits
namespace Go.Proofs.Ytbledgcfpfjfnaa
open Go.RowKit
set_option linter.unusedSimpArgs false
set_option linter.unusedVariables false

set_option maxHeartbeats 400000 in
theorem refmay_any (n : Int) (w : World) :
    Calls Try.prog 17 #[.int .i64 n] w fun e w' => e = .returned (.bool (Rt.mayB n)) ∧ w = w' := by
  by_cases h : 0 ≤ n
  · go_enter Try.func17, Try.ntmps17
    go_wp2
    go_ret
    exact ⟨ret_bool (by simp [Rt.mayB, h]), rfl⟩
  · go_enter Try.func17, Try.ntmps17
    go_wp2
    go_ret
    exact ⟨ret_bool (by simp [Rt.mayB]; omega), rfl⟩

set_option maxHeartbeats 1000000 in
theorem refadd_any (a b : Int) (w : World) :
    Calls Try.prog 14 #[.int .i64 a, .int .i64 b] w fun e w' => e = .returned (.tuple #[.int .i64 (Rt.pick (Rt.addOk a b) (a + b)), .bool (Rt.addOk a b)]) ∧ w = w' := by
  cases ha : Rt.mayB a
  · have hf : Hid (Rt.addOk a b = false) := Lib.hid (by unfold Rt.addOk; rw [ha]; rfl)
    go_enter Try.func14, Try.ntmps14
    go_wp2_with (refine (refmay_any _ _).mono ?_; rintro e w' ⟨rfl, rfl⟩)
    go_ret2
    exact ⟨ret_both (by rw [hf.out]; rfl) hf.out.symm, rfl⟩
  · cases hb : Rt.mayB b
    · have hf : Hid (Rt.addOk a b = false) := Lib.hid (by unfold Rt.addOk; rw [ha, hb]; rfl)
      go_enter Try.func14, Try.ntmps14
      go_wp2_with (refine (refmay_any _ _).mono ?_; rintro e w' ⟨rfl, rfl⟩)
      go_ret2
      exact ⟨ret_both (by rw [hf.out]; rfl) hf.out.symm, rfl⟩
    · have h1 := (Rt.may_iff a).1 ha
      have h2 := (Rt.may_iff b).1 hb
      by_cases hs : a + b ≤ 4611686018427387904
      · have hf : Hid (Rt.addOk a b = true) := Lib.hid (by unfold Rt.addOk; rw [ha, hb, decide_eq_true hs]; rfl)
        have hd : decide (4611686018427387904 - b < a) = false := by simp; omega
        go_enter Try.func14, Try.ntmps14
        go_wp2_with (refine (refmay_any _ _).mono ?_; rintro e w' ⟨rfl, rfl⟩)
        go_ret2
        exact ⟨ret_both (by rw [hf.out]; rfl) hf.out.symm, rfl⟩
      · have hf : Hid (Rt.addOk a b = false) := Lib.hid (by unfold Rt.addOk; rw [ha, hb, decide_eq_false hs]; rfl)
        have hd : decide (4611686018427387904 - b < a) = true := by simp; omega
        go_enter Try.func14, Try.ntmps14
        go_wp2_with (refine (refmay_any _ _).mono ?_; rintro e w' ⟨rfl, rfl⟩)
        go_ret2
        exact ⟨ret_both (by rw [hf.out]; rfl) hf.out.symm, rfl⟩

theorem quo_tell {a b : Int} (hb : 0 < b) : 4611686018427387904 / b < a ↔ 4611686018427387904 < a * b := Int.ediv_lt_iff_lt_mul hb

set_option maxHeartbeats 1000000 in
theorem refmul_any (a b : Int) (w : World) :
    Calls Try.prog 16 #[.int .i64 a, .int .i64 b] w fun e w' => e = .returned (.tuple #[.int .i64 (Rt.pick (Rt.mulOk a b) (a * b)), .bool (Rt.mulOk a b)]) ∧ w = w' := by
  cases ha : Rt.mayB a
  · have hf : Hid (Rt.mulOk a b = false) := Lib.hid (by unfold Rt.mulOk; rw [ha]; rfl)
    go_enter Try.func16, Try.ntmps16
    go_wp2_with (refine (refmay_any _ _).mono ?_; rintro e w' ⟨rfl, rfl⟩)
    go_ret2
    exact ⟨ret_both (by rw [hf.out]; rfl) hf.out.symm, rfl⟩
  · cases hb : Rt.mayB b
    · have hf : Hid (Rt.mulOk a b = false) := Lib.hid (by unfold Rt.mulOk; rw [ha, hb]; rfl)
      go_enter Try.func16, Try.ntmps16
      go_wp2_with (refine (refmay_any _ _).mono ?_; rintro e w' ⟨rfl, rfl⟩)
      go_ret2
      exact ⟨ret_both (by rw [hf.out]; rfl) hf.out.symm, rfl⟩
    · have h1 := (Rt.may_iff a).1 ha
      have h2 := (Rt.may_iff b).1 hb
      have h0 : 0 ≤ a * b := Int.mul_nonneg h1.1 h2.1
      by_cases hz : 0 < b
      · have hq := quo_tell (a := a) hz
        by_cases hs : a * b ≤ 4611686018427387904
        · have hf : Hid (Rt.mulOk a b = true) := Lib.hid (by unfold Rt.mulOk; rw [ha, hb, decide_eq_true hs]; rfl)
          have hd : ¬ 4611686018427387904 / b < a := by rw [hq]; omega
          clear hq
          go_enter Try.func16, Try.ntmps16
          go_wp2_with (refine (refmay_any _ _).mono ?_; rintro e w' ⟨rfl, rfl⟩)
          go_ret2
          exact ⟨ret_both (by rw [hf.out]; rfl) hf.out.symm, rfl⟩
        · have hf : Hid (Rt.mulOk a b = false) := Lib.hid (by unfold Rt.mulOk; rw [ha, hb, decide_eq_false hs]; rfl)
          have hd : 4611686018427387904 / b < a := by rw [hq]; omega
          clear hq
          go_enter Try.func16, Try.ntmps16
          go_wp2_with (refine (refmay_any _ _).mono ?_; rintro e w' ⟨rfl, rfl⟩)
          go_ret2
          exact ⟨ret_both (by rw [hf.out]; rfl) hf.out.symm, rfl⟩
      · obtain rfl : b = 0 := by omega
        have hf : Hid (Rt.mulOk a 0 = true) := Lib.hid (by unfold Rt.mulOk; rw [ha, hb]; simp)
        go_enter Try.func16, Try.ntmps16
        go_wp2_with (refine (refmay_any _ _).mono ?_; rintro e w' ⟨rfl, rfl⟩)
        go_ret2
        exact ⟨ret_both (by rw [hf.out]; simp [Rt.pick]) hf.out.symm, rfl⟩

namespace Rt
/-- The four parts of a product. -/
def part (p : Int) : Nat → Int
  | 0 => p / 18446744073709551616 / 4294967296
  | 1 => p / 18446744073709551616 % 4294967296
  | 2 => p / 4294967296 % 4294967296
  | _ => p % 4294967296
end Rt

/-- Both products' halves under names of their own. -/
theorem halves (x y : Nat) (hx : x ≤ 4611686018427387904) (hy : y ≤ 4611686018427387904) : ∃ A B C D : Nat,
    (x : Int) / 4294967296 * ((y : Int) / 4294967296) = A ∧ (x : Int) / 4294967296 * ((y : Int) % 4294967296) = B ∧ (x : Int) % 4294967296 * ((y : Int) / 4294967296) = C ∧ (x : Int) % 4294967296 * ((y : Int) % 4294967296) = D ∧
    A ≤ 1152921504606846976 ∧ B ≤ 4611686017353646080 ∧ C ≤ 4611686017353646080 ∧ D ≤ 18446744065119617025 ∧
    (x : Int) * y = A * 18446744073709551616 + (B + C) * 4294967296 + D := by
  have h1 := Nat.mul_le_mul (show x / 4294967296 ≤ 1073741824 by omega) (show y / 4294967296 ≤ 1073741824 by omega)
  have h2 := Nat.mul_le_mul (show x / 4294967296 ≤ 1073741824 by omega) (show y % 4294967296 ≤ 4294967295 by omega)
  have h3 := Nat.mul_le_mul (show x % 4294967296 ≤ 4294967295 by omega) (show y / 4294967296 ≤ 1073741824 by omega)
  have h4 := Nat.mul_le_mul (show x % 4294967296 ≤ 4294967295 by omega) (show y % 4294967296 ≤ 4294967295 by omega)
  have e : x * y = (x / 4294967296) * (y / 4294967296) * (4294967296 * 4294967296) + ((x / 4294967296) * (y % 4294967296) + (x % 4294967296) * (y / 4294967296)) * 4294967296 + (x % 4294967296) * (y % 4294967296) := by
    rw [← Go.Lib.split_mul, Nat.div_add_mod' x 4294967296, Nat.div_add_mod' y 4294967296]
  have d1 : (x : Int) / 4294967296 = ((x / 4294967296 : Nat) : Int) := by omega
  have d2 : (y : Int) / 4294967296 = ((y / 4294967296 : Nat) : Int) := by omega
  have d3 : (x : Int) % 4294967296 = ((x % 4294967296 : Nat) : Int) := by omega
  have d4 : (y : Int) % 4294967296 = ((y % 4294967296 : Nat) : Int) := by omega
  rw [d1, d2, d3, d4]
  refine ⟨_, _, _, _, (Int.natCast_mul _ _).symm, (Int.natCast_mul _ _).symm, (Int.natCast_mul _ _).symm, (Int.natCast_mul _ _).symm, h1, h2, h3, h4, ?_⟩
  rw [← Int.natCast_mul, e]
  generalize (x / 4294967296) * (y / 4294967296) = a at *
  generalize (x / 4294967296) * (y % 4294967296) = b at *
  generalize (x % 4294967296) * (y / 4294967296) = c at *
  generalize (x % 4294967296) * (y % 4294967296) = d at *
  omega

set_option maxHeartbeats 1000000 in
theorem wide_any (x y : Nat) (hx : x ≤ 4611686018427387904) (hy : y ≤ 4611686018427387904) (w : World) :
    Calls Try.prog 23 #[.int .i64 x, .int .i64 y] w fun e w' => e = .returned (.agg #[.int .i64 (Rt.part (x * y) 0), .int .i64 (Rt.part (x * y) 1), .int .i64 (Rt.part (x * y) 2), .int .i64 (Rt.part (x * y) 3)]) ∧ Below w.heap.size w w' := by
  obtain ⟨A, B, C, D, eA, eB, eC, eD, bA, bB, bC, bD, hp⟩ := halves x y hx hy
  have q0 : Hid (Rt.part (x * y) 0 = (A + (B + D / 4294967296) / 4294967296 + (C + (B + D / 4294967296) % 4294967296) / 4294967296 : Int) / 4294967296) := Lib.hid (by rw [hp]; simp only [Rt.part]; omega)
  have q1 : Hid (Rt.part (x * y) 1 = (A + (B + D / 4294967296) / 4294967296 + (C + (B + D / 4294967296) % 4294967296) / 4294967296 : Int) % 4294967296) := Lib.hid (by rw [hp]; simp only [Rt.part]; omega)
  have q2 : Hid (Rt.part (x * y) 2 = (C + (B + D / 4294967296) : Int) % 4294967296) := Lib.hid (by rw [hp]; simp only [Rt.part]; omega)
  have q3 : Hid (Rt.part (x * y) 3 = (D : Int) % 4294967296) := Lib.hid (by rw [hp]; simp only [Rt.part]; omega)
  clear hp
  go_enter Try.func23, Try.ntmps23
  go_wp2
  go_quiet (fail)
  go_wp2
  go_quiet (fail)
  go_wp2
  go_quiet (fail)
  go_wp2
  go_quiet (fail)
  go_wp2
  refine bodyPost_ret (v := .agg #[.int .i64 ((A + (B + D / 4294967296) / 4294967296 + (C + (B + D / 4294967296) % 4294967296) / 4294967296 : Int) / 4294967296), .int .i64 ((A + (B + D / 4294967296) / 4294967296 + (C + (B + D / 4294967296) % 4294967296) / 4294967296 : Int) % 4294967296), .int .i64 ((C + (B + D / 4294967296) : Int) % 4294967296), .int .i64 ((D : Int) % 4294967296)]) ?_ rfl ⟨?_, ?_⟩
  · simp [results, Try.results23, go_sem]
  · rw [q0.out, q1.out, q2.out, q3.out]
  · exact ((((((Below.refl _ w).alloc (Nat.le_refl _) _).trans (below_drewN _ _ _)).setCell (p := ⟨w.heap.size, 0, none⟩) (Nat.le_refl _) _).setCell (p := ⟨w.heap.size, 1, none⟩) (Nat.le_refl _) _).setCell (p := ⟨w.heap.size, 2, none⟩) (Nat.le_refl _) _).setCell (p := ⟨w.heap.size, 3, none⟩) (Nat.le_refl _) _

theorem wide_int (a b : Int) (ha : 0 ≤ a ∧ a ≤ 4611686018427387904) (hb : 0 ≤ b ∧ b ≤ 4611686018427387904) (w : World) :
    Calls Try.prog 23 #[.int .i64 a, .int .i64 b] w fun e w' => e = .returned (.agg #[.int .i64 (Rt.part (a * b) 0), .int .i64 (Rt.part (a * b) 1), .int .i64 (Rt.part (a * b) 2), .int .i64 (Rt.part (a * b) 3)]) ∧ Below w.heap.size w w' := by
  obtain ⟨x, rfl⟩ := Int.eq_ofNat_of_zero_le ha.1
  obtain ⟨y, rfl⟩ := Int.eq_ofNat_of_zero_le hb.1
  exact wide_any x y (by omega) (by omega) w

/-- Which of two products is more, part by part. -/
theorem parts_more {p q : Int} (hp : 0 ≤ p) (hq : 0 ≤ q) (k : Nat) (hk : k < 4) (he : ∀ j, j < k → Rt.part p j = Rt.part q j) (hne : Rt.part p k ≠ Rt.part q k) : (Rt.part q k < Rt.part p k) = (q < p) := by
  have h0 := he 0
  have h1 := he 1
  have h2 := he 2
  simp only [Rt.part] at h0 h1 h2
  match k, hk with
  | 0, _ => simp only [Rt.part] at hne ⊢; rw [eq_iff_iff]; omega
  | 1, _ => simp only [Rt.part] at hne ⊢; have := h0 (by omega); rw [eq_iff_iff]; omega
  | 2, _ => simp only [Rt.part] at hne ⊢; have := h0 (by omega); have := h1 (by omega); rw [eq_iff_iff]; omega
  | 3, _ => simp only [Rt.part] at hne ⊢; have := h0 (by omega); have := h1 (by omega); have := h2 (by omega); rw [eq_iff_iff]; omega
theorem parts_eq {p q : Int} (hp : 0 ≤ p) (hq : 0 ≤ q) (he : ∀ j, j < 4 → Rt.part p j = Rt.part q j) : p = q := by
  have h0 := he 0 (by omega)
  have h1 := he 1 (by omega)
  have h2 := he 2 (by omega)
  have h3 := he 3 (by omega)
  simp only [Rt.part] at h0 h1 h2 h3
  omega

/-- A box of four numbers. -/
structure Box4 (B : Nat) (f : Nat → Int) (w : World) : Prop where
  c : ∀ j, j < 4 → w.cell? ⟨B, j, none⟩ = some (.int .i64 (f j))
  lt : B < w.heap.size
theorem Box4.new (w : World) (f : Nat → Int) (t : TypeId) : Box4 w.heap.size f (w.alloc (.cells #[.int .i64 (f 0), .int .i64 (f 1), .int .i64 (f 2), .int .i64 (f 3)] t)) := by
  refine ⟨fun j hj => ?_, by simp⟩
  rw [cell_at (heap_alloc_new w _) j]
  match j, hj with
  | 0, _ => rfl
  | 1, _ => rfl
  | 2, _ => rfl
  | 3, _ => rfl
theorem Box4.keep {B : Nat} {f : Nat → Int} {w w' : World} (h : Box4 B f w) (hb : Below w.heap.size w w') : Box4 B f w' :=
  ⟨fun j hj => (hb.cell (p := ⟨B, j, none⟩) h.lt).trans (h.c j hj), Nat.lt_of_lt_of_le h.lt hb.size⟩

set_option maxHeartbeats 1000000 in
theorem refmore_any (a b c d : Int) (w : World) :
    Calls Try.prog 18 #[.int .i64 a, .int .i64 b, .int .i64 c, .int .i64 d] w fun e w' => e = .returned (.bool (Rt.moreB a b c d)) ∧ Below w.heap.size w w' := by
  have bel := Below.refl w.heap.size w
  obtain ⟨m, hm⟩ : ∃ m, (Rt.mayB a && Rt.mayB b && (Rt.mayB c && Rt.mayB d)) = m := ⟨_, rfl⟩
  cases m
  · have hf : Hid (Rt.moreB a b c d = false) := Lib.hid (by unfold Rt.moreB; rw [hm]; rfl)
    have hm0 := hm
    clear hm
    cases h1 : Rt.mayB a <;> cases h2 : Rt.mayB b <;> cases h3 : Rt.mayB c <;> cases h4 : Rt.mayB d
    case true.true.true.true => rw [h1, h2, h3, h4] at hm0; cases hm0
    all_goals
      clear hm0
      go_enter Try.func18, Try.ntmps18
      go_wp2_with (go_at_call 17; refine (refmay_any _ _).mono ?_; rintro e w' ⟨rfl, rfl⟩)
      go_ret
      exact ⟨ret_bool hf.out.symm, bel⟩
  · have hab : (Rt.mayB a && Rt.mayB b) = true := by
      rw [Bool.and_eq_true] at hm; exact hm.1
    have hcd : (Rt.mayB c && Rt.mayB d) = true := by
      rw [Bool.and_eq_true] at hm; exact hm.2
    have hf : Hid (Rt.moreB a b c d = decide (c * d < a * b)) := Lib.hid (by unfold Rt.moreB; rw [hm]; rfl)
    obtain ⟨h1, h2⟩ := Bool.and_eq_true_iff.1 hab
    obtain ⟨h3, h4⟩ := Bool.and_eq_true_iff.1 hcd
    obtain ⟨ha, hb⟩ := both_may hab
    obtain ⟨hc, hd⟩ := both_may hcd
    have hp : 0 ≤ a * b := Int.mul_nonneg ha.1 hb.1
    have hq : 0 ≤ c * d := Int.mul_nonneg hc.1 hd.1
    clear hm hab hcd
    go_enter Try.func18, Try.ntmps18
    go_wp2_with (first
      | (go_at_call 17; refine (refmay_any _ _).mono ?_; rintro e w' ⟨rfl, rfl⟩)
      | fail)
    refine (wide_int a b ha hb _).mono ?_
    rintro e w1 ⟨rfl, g1⟩
    go_wp2_with fail
    refine (wide_int c d hc hd _).mono ?_
    rintro e w2 ⟨rfl, g2⟩
    go_wp2_with fail
    have k1 := below_step bel g1
    have k2 := below_step (k1.alloc k1.size (.cells #[.int .i64 (Rt.part (a * b) 0), .int .i64 (Rt.part (a * b) 1), .int .i64 (Rt.part (a * b) 2), .int .i64 (Rt.part (a * b) 3)] 39)) g2
    have k3 := k2.alloc k2.size (.cells #[.int .i64 (Rt.part (c * d) 0), .int .i64 (Rt.part (c * d) 1), .int .i64 (Rt.part (c * d) 2), .int .i64 (Rt.part (c * d) 3)] 39)
    have xB := ((Box4.new w1 (Rt.part (a * b)) 39).keep g2).keep ((Below.refl _ w2).alloc (Nat.le_refl _) (.cells #[.int .i64 (Rt.part (c * d) 0), .int .i64 (Rt.part (c * d) 1), .int .i64 (Rt.part (c * d) 2), .int .i64 (Rt.part (c * d) 3)] 39))
    have yB := Box4.new w2 (Rt.part (c * d)) 39
    clear g1 g2 k1 k2 bel
    generalize w2.alloc (.cells #[.int .i64 (Rt.part (c * d) 0), .int .i64 (Rt.part (c * d) 1), .int .i64 (Rt.part (c * d) 2), .int .i64 (Rt.part (c * d) 3)] 39) = W at xB yB k3 ⊢
    generalize w1.heap.size = X at xB ⊢
    generalize w2.heap.size = Y at yB ⊢
    have hx := Lib.hid xB.c
    have hy := Lib.hid yB.c
    have hP := Lib.hid hp
    have hQ := Lib.hid hq
    clear xB yB hp hq ha hb hc hd
    go_loopw [15] (fun i wr => ∃ k n : Nat, k ≤ 4 ∧ i = .int .i64 k ∧ wr = W.drewN n ∧ Hid (∀ j, j < k → Rt.part (a * b) j = Rt.part (c * d) j)) (fun i _ => 4 - (intOf i).toNat)
    case atStart => exact ⟨0, 0, by omega, rfl, rfl, Lib.hid fun j hj => by omega⟩
    case round =>
      obtain ⟨k, n, hk, rfl, rfl, he⟩ := hrel
      by_cases hlt : k < 4
      · have e1 := hx.out k hlt
        have e2 := hy.out k hlt
        obtain ⟨u, hu⟩ : ∃ u, Rt.part (a * b) k = u := ⟨_, rfl⟩
        obtain ⟨v, hv⟩ : ∃ v, Rt.part (c * d) k = v := ⟨_, rfl⟩
        rw [hu] at e1
        rw [hv] at e2
        have HU := Lib.hid hu
        have HV := Lib.hid hv
        clear hu hv
        have i1 : (0 : Int) ≤ k := by omega
        have i2 : (k : Int) < 4 := by omega
        by_cases huv : u = v
        · subst huv
          go_wp2
          go_quiet (fail)
          go_wp2
          exact ⟨⟨k + 1, n + nq, by omega, by go_num, rfl, Lib.hid fun j hj => by
            rcases Nat.lt_succ_iff_lt_or_eq.1 hj with h | rfl
            · exact he.out j h
            · rw [HU.out, HV.out]⟩, by simp [intOf]; omega⟩
        · have b1 : (u == v) = false := by simpa using huv
          have b2 : (u != v) = true := by simpa using huv
          have hfin : Hid (decide (v < u) = Rt.moreB a b c d) := Lib.hid (by
            rw [hf.out]
            refine decide_eq_decide.2 (iff_of_eq ?_)
            have := parts_more hP.out hQ.out k hlt he.out (by rw [HU.out, HV.out]; exact huv)
            rw [HU.out, HV.out] at this
            exact this)
          go_wp2
          go_quiet (fail)
          go_wp2
          go_quiet (fail)
          go_wp2
          go_ret
          exact ⟨ret_bool hfin.out, k3.trans (by simpa [World.drewN_drewN] using below_drewN _ W _)⟩
      · obtain rfl : k = 4 := by omega
        have hfin : Hid (false = Rt.moreB a b c d) := Lib.hid (by
          rw [hf.out]
          have := parts_eq hP.out hQ.out he.out
          rw [decide_eq_false (by omega)])
        go_wp2
        go_ret
        exact ⟨ret_bool hfin.out, k3.trans (below_drewN _ _ _)⟩

end Go.Proofs.Ytbledgcfpfjfnaa
