/-
  The walk of the statements' own 'awake': the chapter's example holds.
-/
import Derived.Test.YtkknmmlfonhhaaaMixOf
import Derived.Test.YtkknmmlfonhhaaaMixEq
import Derived.Deep.RegionHeld3
namespace Go.Proofs.Ytkknmmlfonhhaaa
open Go.RowKit
set_option linter.unusedSimpArgs false
set_option linter.unusedVariables false

theorem Mx.one (w : World) (v : Int) (h0 : 0 ≤ v) (h1 : v ≤ 18446744073709551615) (t : TypeId) (g : Nat) (hg : g = w.heap.size) : Mx.Words (w.alloc (.cells #[.int .u64 v] t)) (some ⟨g, 0, none⟩) [v] := by
  subst hg
  refine ⟨fun i hi => ?_, .inr ⟨_, _, rfl, by simp, fun i hi => ?_⟩⟩
  · match i, hi with
    | 0, _ => exact ⟨h0, h1⟩
  · match i, hi with
    | 0, _ => simp [Mx.nth]

/-- What the example's two IDs are good for: nothing else of them is looked at. -/
theorem Mx.exam : (Mx.ofI [1]).1 ≠ (Mx.ofI [2]).1 ∧ Mx.less (Mx.ofI [1]).1 (Mx.ofI [1]).2 (Mx.ofI [2]).1 (Mx.ofI [2]).2 ≠ Mx.less (Mx.ofI [2]).1 (Mx.ofI [2]).2 (Mx.ofI [1]).1 (Mx.ofI [1]).2 ∧ Mx.word 0 = 0 ∧ Mx.step 1 2 ≠ 0 := by
  decide +kernel

/-- Of, its answer under names of their own. -/
theorem of_as (a : Option Addr) (c n : Nat) (l : List Int) (p q : Int) (w : World) (hn : l.length = n) (h : Hid (Mx.ofI l = (p, q))) (hm : l.length ≤ 9223372036854775807) (hw : Mx.Words w a l) :
    Calls Try.prog 15 #[.slice a n c] w fun e w' => e = .returned (.agg #[.int .u64 p, .int .u64 q]) ∧ Below w.heap.size w w' := by
  subst hn
  refine (of_any a c l w hm hw).mono fun e w' => ?_
  rw [h.out]
  exact id

/-- The two boxes of awake's IDs, and that nothing old has turned. -/
def Two (B C : Nat) (a0 a1 b0 b1 : Int) (w : World) : Prop :=
  w.cell? ⟨B, 0, none⟩ = some (.int .u64 a0) ∧ w.cell? ⟨B, 1, none⟩ = some (.int .u64 a1) ∧ w.cell? ⟨C, 0, none⟩ = some (.int .u64 b0) ∧ w.cell? ⟨C, 1, none⟩ = some (.int .u64 b1)
theorem two_keep {B C : Nat} {a0 a1 b0 b1 : Int} {w0 w w' : World}
    (h : w.cell? ⟨B, 0, none⟩ = some (.int .u64 a0) ∧ w.cell? ⟨B, 1, none⟩ = some (.int .u64 a1) ∧ w.cell? ⟨C, 0, none⟩ = some (.int .u64 b0) ∧ w.cell? ⟨C, 1, none⟩ = some (.int .u64 b1) ∧ B < w.heap.size ∧ C < w.heap.size ∧ w0.heap.size ≤ w.heap.size ∧ Below w0.heap.size w0 w)
    (hb : Below w.heap.size w w') :
    w'.cell? ⟨B, 0, none⟩ = some (.int .u64 a0) ∧ w'.cell? ⟨B, 1, none⟩ = some (.int .u64 a1) ∧ w'.cell? ⟨C, 0, none⟩ = some (.int .u64 b0) ∧ w'.cell? ⟨C, 1, none⟩ = some (.int .u64 b1) ∧ B < w'.heap.size ∧ C < w'.heap.size ∧ w0.heap.size ≤ w'.heap.size ∧ Below w0.heap.size w0 w' := by
  obtain ⟨h1, h2, h3, h4, h5, h6, h7, h8⟩ := h
  have hs := hb.size
  exact ⟨(hb.cell (p := ⟨B, 0, none⟩) h5).trans h1, (hb.cell (p := ⟨B, 1, none⟩) h5).trans h2, (hb.cell (p := ⟨C, 0, none⟩) h6).trans h3, (hb.cell (p := ⟨C, 1, none⟩) h6).trans h4, by omega, by omega, by omega, h8.trans (hb.mono h7)⟩

set_option maxHeartbeats 1000000 in
theorem awake_any (w : World) :
    Calls Try.prog 9 #[] w fun e w' => e = .returned (.bool true) ∧ Below w.heap.size w w' := by
  have hex := Mx.exam
  obtain ⟨⟨a0, a1⟩, ha⟩ : ∃ p, Mx.ofI [1] = p := ⟨_, rfl⟩
  obtain ⟨⟨c0, c1⟩, hc⟩ : ∃ p, Mx.ofI [2] = p := ⟨_, rfl⟩
  rw [ha, hc] at hex
  obtain ⟨e1, e2, e3, e4⟩ := hex
  have HA := Lib.hid ha
  have HC := Lib.hid hc
  clear ha hc
  go_enter Try.func9, Try.ntmps9
  go_wp2_with fail
  refine (of_as _ _ _ [1] a0 a1 _ rfl HA (by decide) (Mx.one _ 1 (by decide) (by decide) _ _ (by simp))).mono ?_
  rintro e w1 ⟨rfl, b1⟩
  go_wp2_with fail
  refine (of_as _ _ _ [2] c0 c1 _ rfl HC (by decide) (Mx.one _ 2 (by decide) (by decide) _ _ (by simp))).mono ?_
  rintro e w2 ⟨rfl, b2⟩
  go_wp2_with fail
  have hB : Below w.heap.size w (w2.alloc (.cells #[.int .u64 c0, .int .u64 c1] 25)) := by
    refine Below.alloc ?_ ?_ _
    · refine Below.trans (Below.trans ((Below.refl _ _).alloc (Nat.le_refl _) _) (b1.mono (by simp))) (Below.trans (((Below.refl _ _).alloc ?_ (.cells #[.int .u64 a0, .int .u64 a1] 25)).alloc ?_ (.cells #[.int .u64 2] 22)) (b2.mono ?_))
      all_goals (have := b1.size; simp at *; omega)
    · have := b1.size; have := b2.size; simp at *; omega
  have hT : Two w1.heap.size w2.heap.size a0 a1 c0 c1 (w2.alloc (.cells #[.int .u64 c0, .int .u64 c1] 25)) := by
    have hlt : w1.heap.size < w2.heap.size := by have := b2.size; simp at this; omega
    have hk : ∀ i, (w2.alloc (.cells #[.int .u64 c0, .int .u64 c1] 25)).cell? ⟨w1.heap.size, i, none⟩ = #[Value.int .u64 a0, .int .u64 a1][i]? := by
      intro i
      rw [((Below.refl (w2.heap.size) w2).alloc (Nat.le_refl _) _).cell (p := ⟨w1.heap.size, i, none⟩) hlt, b2.cell (p := ⟨w1.heap.size, i, none⟩) (by simp; omega)]
      rw [((Below.refl _ (w1.alloc (.cells #[.int .u64 a0, .int .u64 a1] 25))).alloc (Nat.le_refl _) _).cell (p := ⟨w1.heap.size, i, none⟩) (by simp)]
      exact cell_at (heap_alloc_new w1 _) i
    exact ⟨hk 0, hk 1, cell_at (heap_alloc_new w2 _) 0, cell_at (heap_alloc_new w2 _) 1⟩
  have hlt : w1.heap.size < (w2.alloc (.cells #[.int .u64 c0, .int .u64 c1] 25)).heap.size ∧ w2.heap.size < (w2.alloc (.cells #[.int .u64 c0, .int .u64 c1] 25)).heap.size := by
    have := b2.size; simp at *; omega
  generalize w2.alloc (.cells #[.int .u64 c0, .int .u64 c1] 25) = W at hB hT hlt ⊢
  generalize w1.heap.size = B at hT hlt ⊢
  generalize w2.heap.size = C at hT hlt ⊢
  obtain ⟨lB, lC⟩ := hlt
  clear b1 b2 HA HC
  have lw := hB.size
  have t1 : (a0 == c0) = false := by simpa using e1
  obtain ⟨p1, hp1⟩ : ∃ x, Mx.less a0 a1 c0 c1 = x := ⟨_, rfl⟩
  obtain ⟨p2, hp2⟩ : ∃ x, Mx.less c0 c1 a0 a1 = x := ⟨_, rfl⟩
  have t4 : (Mx.step 1 2 == 0) = false := by simpa using e4
  rw [hp1, hp2] at e2
  have t2 : (p1 == p2) = false := by simpa using e2
  clear e1 e2 e4
  obtain ⟨hT1, hT2, hT3, hT4⟩ := hT
  have heq := eqID' a0 a1 c0 c1
  go_region_held3 (fun w' => w'.cell? ⟨B, 0, none⟩ = some (.int .u64 a0) ∧ w'.cell? ⟨B, 1, none⟩ = some (.int .u64 a1) ∧ w'.cell? ⟨C, 0, none⟩ = some (.int .u64 c0) ∧ w'.cell? ⟨C, 1, none⟩ = some (.int .u64 c1) ∧ B < w'.heap.size ∧ C < w'.heap.size ∧ w.heap.size ≤ w'.heap.size ∧ Below w.heap.size w w')
    (first | assumption | exact ⟨hT1, hT2, hT3, hT4, lB, lC, lw, hB⟩ | exact ⟨hT1, hT2, hT3, hT4, lB, lC, lw, hB.drew⟩ | (refine two_keep (by assumption) ?_; exact (Below.refl _ _).drew))
    (first
      | (go_at_call 11; refine (word_any _ _ (by decide) (by decide)).mono ?_; rintro e w' ⟨rfl, rfl⟩)
      | (go_at_call 13; refine (step_any _ _ _ (by decide) (by decide) (by decide) (by decide)).mono ?_; rintro e w' ⟨rfl, rfl⟩)
      | (go_at_call 17; refine (less_any _ _ _ _ _).mono ?_; rintro e w' ⟨rfl, hb⟩; have hS := two_keep (by assumption) hb; clear hb))
  all_goals
    go_wp2
    go_ret
    exact ⟨ret_bool (by simp only [bne, t4]; rfl), hS.2.2.2.2.2.2.2⟩

end Go.Proofs.Ytkknmmlfonhhaaa
