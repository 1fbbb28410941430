/-
  The walks of package ratio: sums, products, and which product is more.
-/
import Derived.Test.YtbledgcfpfjfnaaRtWalks
namespace Go.Proofs.Ytbledgcfpfjfnaa
open Go.RowKit
set_option linter.unusedSimpArgs false
set_option linter.unusedVariables false

set_option maxHeartbeats 1000000 in
theorem mul64_any (x y : Nat) (hx : x < 18446744073709551616) (hy : y < 18446744073709551616) (w : World) :
    Calls Try.prog 26 #[.int .u64 x, .int .u64 y] w fun e w' => e = .returned (.tuple #[.int .u64 ((x * y / 18446744073709551616 : Nat) : Int), .int .u64 ((x * y % 18446744073709551616 : Nat) : Int)]) ∧ w = w' := by
  obtain ⟨bd, bt, bw, hhi⟩ := Lib.mul64_hi x y hx hy
  have ba := Lib.half_mul_le (a := x / 4294967296) (b := y / 4294967296) (by omega) (by omega)
  have bb := Lib.half_mul_le (a := x / 4294967296) (b := y % 4294967296) (by omega) (by omega)
  have bc := Lib.half_mul_le (a := x % 4294967296) (b := y / 4294967296) (by omega) (by omega)
  have ba' : x / 4294967296 * (y / 4294967296) < 18446744073709551616 := by omega
  have bb' : x / 4294967296 * (y % 4294967296) < 18446744073709551616 := by omega
  have bc' : x % 4294967296 * (y / 4294967296) < 18446744073709551616 := by omega
  have bh1 : x / 4294967296 * (y / 4294967296) + (x / 4294967296 * (y % 4294967296) + x % 4294967296 * (y % 4294967296) / 4294967296) / 4294967296 < 18446744073709551616 := by omega
  have bh : x / 4294967296 * (y / 4294967296) + (x / 4294967296 * (y % 4294967296) + x % 4294967296 * (y % 4294967296) / 4294967296) / 4294967296 + ((x / 4294967296 * (y % 4294967296) + x % 4294967296 * (y % 4294967296) / 4294967296) % 4294967296 + x % 4294967296 * (y / 4294967296)) / 4294967296 < 18446744073709551616 := by omega
  go_enter Try.func26, Try.ntmps26
  go_wp2
  simp only [Mul64.maskN x hx, Mul64.maskN y hy, Mul64.divN, Mul64.mulN, Mul64.addN, Mul64.wrapN _ bd, Mul64.wrapN _ bb', Mul64.wrapN _ bt, Mul64.maskN _ bt, Mul64.wrapN _ bc', Mul64.wrapN _ bw, Mul64.wrapN _ ba', Mul64.wrapN _ bh1, Mul64.wrapN _ bh, Mul64.wrapM (x * y)]
  rw [hhi]
  go_ret2
  exact ⟨rfl, rfl⟩

namespace Rt
/-- A product's two words. -/
def hi (a b : Int) : Int := a * b / 18446744073709551616
def lo (a b : Int) : Int := a * b % 18446744073709551616
end Rt

theorem mul64_int (a b : Int) (ha : 0 ≤ a ∧ a ≤ 4611686018427387904) (hb : 0 ≤ b ∧ b ≤ 4611686018427387904) (w : World) :
    Calls Try.prog 26 #[.int .u64 a, .int .u64 b] w fun e w' => e = .returned (.tuple #[.int .u64 (Rt.hi a b), .int .u64 (Rt.lo a b)]) ∧ w = w' := by
  obtain ⟨x, rfl⟩ := Int.eq_ofNat_of_zero_le ha.1
  obtain ⟨y, rfl⟩ := Int.eq_ofNat_of_zero_le hb.1
  have e1 : Rt.hi x y = ((x * y / 18446744073709551616 : Nat) : Int) := by
    unfold Rt.hi
    rw [← Int.natCast_mul]
    generalize x * y = p
    omega
  have e2 : Rt.lo x y = ((x * y % 18446744073709551616 : Nat) : Int) := by
    unfold Rt.lo
    rw [← Int.natCast_mul]
    generalize x * y = p
    omega
  rw [e1, e2]
  exact mul64_any x y (by omega) (by omega) w

set_option maxHeartbeats 400000 in
theorem times_any (a b : Int) (ha : 0 ≤ a ∧ a ≤ 4611686018427387904) (hb : 0 ≤ b ∧ b ≤ 4611686018427387904) (w : World) :
    Calls Try.prog 20 #[.int .i64 a, .int .i64 b] w fun e w' => e = .returned (.agg #[.int .u64 (Rt.hi a b), .int .u64 (Rt.lo a b)]) ∧ Below w.heap.size w w' := by
  obtain ⟨a0, a1⟩ := ha
  obtain ⟨b0, b1⟩ := hb
  go_enter Try.func20, Try.ntmps20
  go_wp2_with (refine (mul64_int _ _ ⟨a0, a1⟩ ⟨b0, b1⟩ _).mono ?_; rintro e w' ⟨rfl, rfl⟩)
  refine bodyPost_ret (v := .agg #[.int .u64 (Rt.hi a b), .int .u64 (Rt.lo a b)]) ?_ rfl ⟨rfl, ?_⟩
  · simp [results, Try.results20, go_sem]
  · exact (Below.refl _ _).alloc (Nat.le_refl _) _

set_option maxHeartbeats 400000 in
theorem told_any (h l : Int) (w : World) (h0 : 0 ≤ h) (l0 : 0 ≤ l) :
    Calls Try.prog 22 #[.agg #[.int .u64 h, .int .u64 l]] w fun e w' => e = .returned (.tuple #[.int .i64 (Rt.pick (decide (h ≤ 0) && decide (l ≤ 4611686018427387904)) l), .bool (decide (h ≤ 0) && decide (l ≤ 4611686018427387904))]) ∧ Below w.heap.size w w' := by
  by_cases h1 : h ≤ 0
  · by_cases h2 : l ≤ 4611686018427387904
    · go_enter Try.func22, Try.ntmps22
      go_wp2
      go_ret2
      exact ⟨ret_both (by simp [Rt.pick, h1, h2]) (by simp [h1, h2]), (Below.refl _ _).alloc (Nat.le_refl _) _⟩
    · go_enter Try.func22, Try.ntmps22
      go_wp2
      go_ret2
      exact ⟨ret_both (by simp [Rt.pick, h1]; omega) (by simp [h1]; omega), (Below.refl _ _).alloc (Nat.le_refl _) _⟩
  · go_enter Try.func22, Try.ntmps22
    go_wp2
    go_ret2
    exact ⟨ret_both (by simp [Rt.pick]; omega) (by simp; omega), (Below.refl _ _).alloc (Nat.le_refl _) _⟩

/-- 'told', its answer under a name. -/
theorem told_as (h l : Int) (w : World) (m : Bool) (h0 : 0 ≤ h) (l0 : 0 ≤ l) (hm : Hid ((decide (h ≤ 0) && decide (l ≤ 4611686018427387904)) = m)) :
    Calls Try.prog 22 #[.agg #[.int .u64 h, .int .u64 l]] w fun e w' => e = .returned (.tuple #[.int .i64 (Rt.pick m l), .bool m]) ∧ Below w.heap.size w w' := by
  refine (told_any h l w h0 l0).mono fun e w' k => ?_
  rw [hm.out] at k
  exact k

/-- Two numbers in a new slice. -/
theorem two_new (w : World) (a b : Int) (t : TypeId) (g : Nat) (hg : g = w.heap.size) : ∀ i, i < [a, b].length → (w.alloc (.cells #[.int .i64 a, .int .i64 b] t)).cell? ⟨g, 0 + i, none⟩ = some (.int .i64 (Mx.nth [a, b] i)) := by
  subst hg
  intro i hi
  match i, hi with
  | 0, _ => simp [Mx.nth]
  | 1, _ => simp [Mx.nth]
theorem four_new (w : World) (a b c d : Int) (t : TypeId) (g : Nat) (hg : g = w.heap.size) : ∀ i, i < [a, b, c, d].length → (w.alloc (.cells #[.int .i64 a, .int .i64 b, .int .i64 c, .int .i64 d] t)).cell? ⟨g, 0 + i, none⟩ = some (.int .i64 (Mx.nth [a, b, c, d] i)) := by
  subst hg
  intro i hi
  match i, hi with
  | 0, _ => simp [Mx.nth]
  | 1, _ => simp [Mx.nth]
  | 2, _ => simp [Mx.nth]
  | 3, _ => simp [Mx.nth]

/-- 'fine' at two numbers, its answer under a name. -/
theorem fine2 (w : World) (a b : Int) (t : TypeId) (g : Nat) (hg : g = w.heap.size) (m : Bool) (hm : Hid ((Rt.mayB a && Rt.mayB b) = m)) :
    Calls Try.prog 19 #[.slice (some ⟨g, 0, none⟩) 2 2] (w.alloc (.cells #[.int .i64 a, .int .i64 b] t)) fun e w' => e = .returned (.bool m) ∧ w.alloc (.cells #[.int .i64 a, .int .i64 b] t) = w' := by
  refine (fine_any g 0 2 2 [a, b] _ rfl (two_new w a b t g hg) (by simp)).mono fun e w' h => ?_
  rw [← hm.out]
  simpa using h
theorem fine4 (w : World) (a b c d : Int) (t : TypeId) (g : Nat) (hg : g = w.heap.size) (m : Bool) (hm : Hid ((Rt.mayB a && Rt.mayB b && (Rt.mayB c && Rt.mayB d)) = m)) :
    Calls Try.prog 19 #[.slice (some ⟨g, 0, none⟩) 4 4] (w.alloc (.cells #[.int .i64 a, .int .i64 b, .int .i64 c, .int .i64 d] t)) fun e w' => e = .returned (.bool m) ∧ w.alloc (.cells #[.int .i64 a, .int .i64 b, .int .i64 c, .int .i64 d] t) = w' := by
  refine (fine_any g 0 4 4 [a, b, c, d] _ rfl (four_new w a b c d t g hg) (by simp)).mono fun e w' h => ?_
  rw [← hm.out]
  simpa [Bool.and_assoc] using h

theorem both_may {a b : Int} (h : (Rt.mayB a && Rt.mayB b) = true) : (0 ≤ a ∧ a ≤ 4611686018427387904) ∧ (0 ≤ b ∧ b ≤ 4611686018427387904) := by
  rw [Bool.and_eq_true, Rt.may_iff, Rt.may_iff] at h
  exact h

/-- The sum, as what comes back tells it. -/
theorem add_tell {a b : Int} (h : (Rt.mayB a && Rt.mayB b) = true) : (decide ((0 : Int) ≤ 0) && decide (a + b ≤ 4611686018427387904)) = Rt.addOk a b := by
  unfold Rt.addOk
  rw [h]
  simp
theorem mul_tell {a b : Int} (h : (Rt.mayB a && Rt.mayB b) = true) : (decide (Rt.hi a b ≤ 0) && decide (Rt.lo a b ≤ 4611686018427387904)) = Rt.mulOk a b ∧ (Rt.mulOk a b = true → Rt.lo a b = a * b) := by
  obtain ⟨ha, hb⟩ := both_may h
  have hp : 0 ≤ a * b := Int.mul_nonneg ha.1 hb.1
  unfold Rt.mulOk Rt.hi Rt.lo
  rw [h]
  generalize a * b = p at *
  refine ⟨?_, ?_⟩
  · rw [Bool.eq_iff_iff]
    simp
    omega
  · simp
    omega
theorem hi_pos {a b : Int} (h : (Rt.mayB a && Rt.mayB b) = true) : 0 ≤ Rt.hi a b ∧ 0 ≤ Rt.lo a b := by
  obtain ⟨ha, hb⟩ := both_may h
  have hp : 0 ≤ a * b := Int.mul_nonneg ha.1 hb.1
  unfold Rt.hi Rt.lo
  generalize a * b = p at *
  omega

set_option maxHeartbeats 1000000 in
theorem add_any (a b : Int) (w : World) :
    Calls Try.prog 13 #[.int .i64 a, .int .i64 b] w fun e w' => e = .returned (.tuple #[.int .i64 (Rt.pick (Rt.addOk a b) (a + b)), .bool (Rt.addOk a b)]) ∧ Below w.heap.size w w' := by
  have bel : Below w.heap.size w (w.alloc (.cells #[.int .i64 a, .int .i64 b] 3)) := (Below.refl _ _).alloc (Nat.le_refl _) _
  obtain ⟨m, hm⟩ : ∃ m, (Rt.mayB a && Rt.mayB b) = m := ⟨_, rfl⟩
  have HM := Lib.hid hm
  cases m
  · have hf : Hid (Rt.addOk a b = false) := Lib.hid (by unfold Rt.addOk; rw [hm]; rfl)
    clear hm
    go_enter Try.func13, Try.ntmps13
    go_wp2_with (refine (fine2 _ _ _ _ _ rfl _ HM).mono ?_; rintro e w' ⟨rfl, rfl⟩)
    go_ret2
    exact ⟨by rw [hf.out]; rfl, bel⟩
  · have hf := Lib.hid (add_tell hm)
    obtain ⟨⟨a0, a1⟩, b0, b1⟩ := both_may hm
    clear hm
    go_enter Try.func13, Try.ntmps13
    go_wp2_with fail
    refine (fine2 _ _ _ _ _ rfl _ HM).mono ?_
    rintro e w' ⟨rfl, rfl⟩
    go_wp2_with fail
    refine (told_as 0 (a + b) _ _ (by omega) (by omega) hf).mono ?_
    rintro e w1 ⟨rfl, hb⟩
    go_wp2
    go_ret2
    exact ⟨rfl, below_step bel hb⟩

set_option maxHeartbeats 1000000 in
theorem mul_any (a b : Int) (w : World) :
    Calls Try.prog 15 #[.int .i64 a, .int .i64 b] w fun e w' => e = .returned (.tuple #[.int .i64 (Rt.pick (Rt.mulOk a b) (a * b)), .bool (Rt.mulOk a b)]) ∧ Below w.heap.size w w' := by
  have bel : Below w.heap.size w (w.alloc (.cells #[.int .i64 a, .int .i64 b] 3)) := (Below.refl _ _).alloc (Nat.le_refl _) _
  obtain ⟨m, hm⟩ : ∃ m, (Rt.mayB a && Rt.mayB b) = m := ⟨_, rfl⟩
  have HM := Lib.hid hm
  cases m
  · have hf : Hid (Rt.mulOk a b = false) := Lib.hid (by unfold Rt.mulOk; rw [hm]; rfl)
    clear hm
    go_enter Try.func15, Try.ntmps15
    go_wp2_with (refine (fine2 _ _ _ _ _ rfl _ HM).mono ?_; rintro e w' ⟨rfl, rfl⟩)
    go_ret2
    exact ⟨by rw [hf.out]; rfl, bel⟩
  · have hf := Lib.hid (mul_tell hm).1
    have hg : Hid (Rt.pick (Rt.mulOk a b) (Rt.lo a b) = Rt.pick (Rt.mulOk a b) (a * b)) := Lib.hid (by
      have h2 := (mul_tell hm).2
      unfold Rt.pick
      split
      · exact h2 (by assumption)
      · rfl)
    obtain ⟨p0, p1⟩ := hi_pos hm
    obtain ⟨ha, hb⟩ := both_may hm
    clear hm
    go_enter Try.func15, Try.ntmps15
    go_wp2_with fail
    refine (fine2 _ _ _ _ _ rfl _ HM).mono ?_
    rintro e w' ⟨rfl, rfl⟩
    go_wp2_with fail
    refine (times_any a b ha hb _).mono ?_
    rintro e w1 ⟨rfl, hb1⟩
    go_wp2_with fail
    refine (told_as _ _ _ _ p0 p1 hf).mono ?_
    rintro e w2 ⟨rfl, hb2⟩
    go_wp2
    go_ret2
    exact ⟨ret_both hg.out rfl, below_step (below_step bel hb1) hb2⟩

end Go.Proofs.Ytbledgcfpfjfnaa
