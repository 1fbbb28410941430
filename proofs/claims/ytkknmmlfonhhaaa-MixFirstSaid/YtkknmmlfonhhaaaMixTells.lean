/-
  MixTells: the walk. What any word hangs to, alone, with another one, and in a list, and which ID is ahead, is what the reference says.
-/
import Derived.Test.YtkknmmlfonhhaaaMixOrder
import Derived.Test.YtkknmmlfonhhaaaMixRefs
namespace Go.Proofs.Ytkknmmlfonhhaaa
open Go.RowKit
set_option linter.unusedSimpArgs false
set_option linter.unusedVariables false

theorem refof_as (a : Option Addr) (c n : Nat) (l : List Int) (p q : Int) (w : World) (hn : l.length = n) (h : Hid (Mx.ofI l = (p, q))) (hm : l.length ≤ 1000000) (hw : Mx.Words w a l) :
    Calls Try.prog 16 #[.slice a n c] w fun e w' => e = .returned (.agg #[.int .u64 p, .int .u64 q]) ∧ Below w.heap.size w w' := by
  subst hn
  refine (refof_any a c l w hm hw).mono fun e w' => ?_
  rw [h.out]
  exact id

namespace mixTells
set_option maxHeartbeats 2000000 in
theorem walk (h : Int) (hh : IsU h) (x : Int) (hx : IsU x) (a : Option Addr) (l : List Int) (c n : Nat) (hn : l.length = n) (hm : n ≤ 9223372036854775807 ∧ (a = none → c = 0)) (w : World) (hl : Mx.Words w a l)
    (a0 a1 : Int) (ha : IsU a0 ∧ IsU a1) (b0 b1 : Int) (hb : IsU b0 ∧ IsU b1) :
    Calls Try.prog 3 #[.int .u64 h, .int .u64 x, .slice a n c, .agg #[.int .u64 a0, .int .u64 a1], .agg #[.int .u64 b0, .int .u64 b1]] w fun e w' => e = .returned (.bool true) ∧ Below w.heap.size w w' := by
  subst hn
  obtain ⟨hm, _⟩ := hm
  obtain ⟨h0, h1⟩ := hh
  obtain ⟨x0, x1⟩ := hx
  clear ha hb
  have bel : Below w.heap.size w ((w.alloc (.cells #[.int .u64 a0, .int .u64 a1] 25)).alloc (.cells #[.int .u64 b0, .int .u64 b1] 25)) :=
    ((Below.refl _ _).alloc (Nat.le_refl _) _).alloc (by simp) _
  have kA := (Box2.new w a0 a1 25 _ rfl).alloc (.cells #[.int .u64 b0, .int .u64 b1] 25)
  have kB := Box2.new (w.alloc (.cells #[.int .u64 a0, .int .u64 a1] 25)) b0 b1 25 (w.heap.size + 1) (by simp)
  obtain ⟨⟨P, Q⟩, ho⟩ : ∃ p, Mx.ofI l = p := ⟨_, rfl⟩
  have HO := Lib.hid ho
  clear ho
  have heq : ∀ w, (Op.equalIn 10000 25 (.agg #[.int .u64 P, .int .u64 Q]) (.agg #[.int .u64 P, .int .u64 Q])).run Try.prog w = .ok true w := by
    intro w
    rw [eqID']
    simp
  have HL := Lib.hid hl
  clear hl
  by_cases h40 : l.length ≤ 40
  · go_enter Try.func3, Try.ntmps3
    go_wp2_with (first
      | (go_at_call 9; refine (awake_any _).mono ?_; rintro e w1 ⟨rfl, hb⟩; replace bel := below_step bel hb; replace kA := kA.keep hb; replace kB := kB.keep hb; clear hb; have e0 := kA.c0; have e1 := kA.c1; have e2 := kB.c0; have e3 := kB.c1)
      | (go_at_call 17; refine (less_any _ _ _ _ _).mono ?_; rintro e w1 ⟨rfl, hb⟩; replace bel := below_step bel hb; replace kA := kA.keep hb; replace kB := kB.keep hb; clear hb; have e0 := kA.c0; have e1 := kA.c1; have e2 := kB.c0; have e3 := kB.c1)
      | (go_at_call 10; refine (refless_any _ _ _ _ _).mono ?_; rintro e w1 ⟨rfl, hb⟩; replace bel := below_step bel hb; replace kA := kA.keep hb; replace kB := kB.keep hb; clear hb; have e0 := kA.c0; have e1 := kA.c1; have e2 := kB.c0; have e3 := kB.c1)
      | (go_at_call 11; refine (word_any _ _ (by assumption) (by assumption)).mono ?_; rintro e w' ⟨rfl, rfl⟩)
      | (go_at_call 12; refine (refword_any _ _ (by assumption) (by assumption)).mono ?_; rintro e w' ⟨rfl, rfl⟩)
      | (go_at_call 13; refine (step_any _ _ _ (by assumption) (by assumption) (by assumption) (by assumption)).mono ?_; rintro e w' ⟨rfl, rfl⟩)
      | (go_at_call 14; refine (refstep_any _ _ _ (by assumption) (by assumption) (by assumption) (by assumption)).mono ?_; rintro e w' ⟨rfl, rfl⟩)
      | (go_at_call 15; refine (of_as _ _ _ _ _ _ _ rfl HO (by omega) (HL.out.below bel (Nat.le_refl _))).mono ?_; rintro e w1 ⟨rfl, hb⟩; replace bel := below_step bel hb; replace kA := kA.keep hb; replace kB := kB.keep hb; clear hb; have e0 := kA.c0; have e1 := kA.c1; have e2 := kB.c0; have e3 := kB.c1)
      | (go_at_call 16; refine (refof_as _ _ _ _ _ _ _ rfl HO (by omega) (HL.out.below bel (Nat.le_refl _))).mono ?_; rintro e w1 ⟨rfl, hb⟩; replace bel := below_step bel hb; replace kA := kA.keep hb; replace kB := kB.keep hb; clear hb; have e0 := kA.c0; have e1 := kA.c1; have e2 := kB.c0; have e3 := kB.c1))
    go_ret
    exact ⟨ret_bool (by simp), bel⟩
  · go_enter Try.func3, Try.ntmps3
    go_wp2_with (first
      | (go_at_call 9; refine (awake_any _).mono ?_; rintro e w1 ⟨rfl, hb⟩; replace bel := below_step bel hb; clear hb))
    go_ret
    exact ⟨rfl, bel⟩
end mixTells

end Go.Proofs.Ytkknmmlfonhhaaa
