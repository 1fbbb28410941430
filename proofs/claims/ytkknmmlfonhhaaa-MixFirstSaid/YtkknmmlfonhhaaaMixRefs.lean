/-
  The walks of mix's references.
-/
import Derived.Test.YtkknmmlfonhhaaaMixOf
namespace Go.Proofs.Ytkknmmlfonhhaaa
open Go.RowKit
set_option linter.unusedSimpArgs false
set_option linter.unusedVariables false

set_option maxHeartbeats 400000 in
theorem refstep_any (h x : Int) (w : World) (h0 : 0 ≤ h) (h1 : h ≤ 18446744073709551615) (x0 : 0 ≤ x) (x1 : x ≤ 18446744073709551615) :
    Calls Try.prog 14 #[.int .u64 h, .int .u64 x] w fun e w' => e = .returned (.int .u64 (Mx.step h x)) ∧ w = w' := by
  go_enter Try.func14, Try.ntmps14
  go_wp2_with fail
  refine (refword_any _ _ (Mx.wrap_bd _).1 (Mx.wrap_bd _).2).mono ?_
  rintro e w' ⟨rfl, rfl⟩
  go_wp2
  go_ret
  exact ⟨ret_val (u64_of (Mx.step_walk h x h0 h1 x0 x1)), rfl⟩

set_option maxHeartbeats 1000000 in
theorem refless_any (a0 a1 b0 b1 : Int) (w : World) :
    Calls Try.prog 10 #[.agg #[.int .u64 a0, .int .u64 a1], .agg #[.int .u64 b0, .int .u64 b1]] w fun e w' => e = .returned (.bool (Mx.less a0 a1 b0 b1)) ∧ Below w.heap.size w w' := by
  go_enter Try.func10, Try.ntmps10
  by_cases h1 : a0 < b0
  · go_wp2
    go_ret
    exact ⟨ret_bool (by simp [Mx.less, h1]), ((Below.refl _ _).alloc (Nat.le_refl _) _).alloc (by simp) _⟩
  · by_cases h2 : a0 = b0
    · subst h2
      go_wp2
      go_ret
      exact ⟨ret_bool (by simp [Mx.less]), ((Below.refl _ _).alloc (Nat.le_refl _) _).alloc (by simp) _⟩
    · go_wp2
      go_ret
      exact ⟨ret_bool (by have h3 : (a0 == b0) = false := (by simpa using h2); unfold Mx.less; rw [h3, decide_eq_false (by omega)]; rfl), ((Below.refl _ _).alloc (Nat.le_refl _) _).alloc (by simp) _⟩

/-- What the reference's loop has come to behind k words. -/
def Mx.upto (l : List Int) (k : Nat) : Int × Int := if k ≤ l.length then Mx.fold' (l.take k) else Mx.ofI l
theorem Mx.upto_in (l : List Int) (k : Nat) : Mx.InU (Mx.upto l k) := by
  unfold Mx.upto
  split
  · exact Mx.fold_in _
  · exact Mx.take_in _ _
theorem Mx.upto_lt (l : List Int) (k : Nat) (h : k < l.length) : Mx.upto l (k + 1) = Mx.take (Mx.upto l k) (Mx.nth l k) := by
  unfold Mx.upto
  rw [if_pos (by omega), if_pos (by omega), Mx.fold_snoc l k h]
theorem Mx.upto_last (l : List Int) : Mx.upto l (l.length + 1) = Mx.take (Mx.upto l l.length) l.length := by
  unfold Mx.upto
  rw [if_neg (by omega), if_pos (by omega), List.take_length]
  rfl

set_option maxHeartbeats 1000000 in
theorem refof_any (a : Option Addr) (c : Nat) (l : List Int) (w : World) (hm : l.length ≤ 1000000) (hw : Mx.Words w a l) :
    Calls Try.prog 16 #[.slice a l.length c] w fun e w' => e = .returned (.agg #[.int .u64 (Mx.ofI l).1, .int .u64 (Mx.ofI l).2]) ∧ Below w.heap.size w w' := by
  obtain ⟨hin, hcase⟩ := hw
  have hcell : ∀ k, k < l.length → ∃ b o, a = some ⟨b, o, none⟩ ∧ b < w.heap.size ∧ w.cell? ⟨b, o + k, none⟩ = some (.int .u64 (Mx.nth l k)) := by
    intro k hk
    rcases hcase with h0 | ⟨b, o, h, hlt, hc⟩
    · omega
    · exact ⟨b, o, h, hlt, hc k hk⟩
  have H := Lib.hid hcell
  have HI := Lib.hid hin
  clear hcell hcase hin
  go_enter Try.func16, Try.ntmps16
  go_wp2_with fail
  go_loop [3, 4, 5, 6] (fun p q i _ => ∃ k : Nat, k ≤ l.length + 1 ∧ i = .int .i64 k ∧ p = .int .u64 (Mx.upto l k).1 ∧ q = .int .u64 (Mx.upto l k).2) (fun _ _ i _ => l.length + 1 - (intOf i).toNat)
  case atStart => exact ⟨0, Nat.zero_le _, rfl, by simp [Mx.upto, Mx.fold'], by simp [Mx.upto, Mx.fold']⟩
  case round =>
    obtain ⟨k, hk, rfl, rfl, rfl⟩ := hrel
    obtain ⟨⟨p0, p1⟩, q0, q1⟩ := Mx.upto_in l k
    rcases (by omega : k < l.length ∨ k = l.length ∨ k = l.length + 1) with hlt | he | he
    · obtain ⟨b, o, rfl, hb, hc⟩ := H.out k hlt
      obtain ⟨x0, x1⟩ := HI.out k hlt
      have hs := Lib.hid (Mx.upto_lt l k hlt)
      go_wp2_with (go_at_call 14; refine (refstep_any _ _ _ (by omega) (by omega) (by omega) (by omega)).mono ?_; rintro e w' ⟨rfl, rfl⟩)
      go_round
      case rel => exact ⟨k + 1, by omega, by go_num, by rw [hs.out]; rfl, by rw [hs.out]; rfl⟩
      case measure => simp [intOf]; omega
    · obtain rfl := he
      have hs := Lib.hid (Mx.upto_last l)
      go_wp2_with (go_at_call 14; refine (refstep_any _ _ _ (by omega) (by omega) (by omega) (by omega)).mono ?_; rintro e w' ⟨rfl, rfl⟩)
      go_round
      case rel => exact ⟨l.length + 1, by omega, by go_num, by rw [hs.out]; rfl, by rw [hs.out]; rfl⟩
      case measure => simp [intOf]
    · obtain rfl := he
      have hs : Mx.upto l (l.length + 1) = Mx.ofI l := by unfold Mx.upto; rw [if_neg (by omega)]
      rw [hs]
      clear hs
      go_wp2
      refine bodyPost_ret (v := .agg #[.int .u64 (Mx.ofI l).1, .int .u64 (Mx.ofI l).2]) ?_ rfl ⟨rfl, ?_⟩
      · simp [results, Try.results16, go_sem]
      · exact (Below.refl _ w).alloc (Nat.le_refl _) _

end Go.Proofs.Ytkknmmlfonhhaaa
