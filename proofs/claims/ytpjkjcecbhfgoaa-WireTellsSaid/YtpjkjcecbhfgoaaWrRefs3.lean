/-
  The walk of the reference's Block, where it is well made.
-/
import Derived.Test.YtpjkjcecbhfgoaaWrRefs2
namespace Go.Proofs.Ytpjkjcecbhfgoaa
open Go.RowKit
set_option linter.unusedSimpArgs false
set_option linter.unusedVariables false

set_option maxHeartbeats 2000000 in
theorem refblock_yes (s f p q t : Nat) (w : World) (h0 : 0 < s) (hs : s ≤ 1048576) (hf : f < 12) (hp : p ≤ 18446744073709551615) (hq : q ≤ 18446744073709551615) (ht : t ≤ 18446744073709551615) :
    Calls Try.prog 12 #[.agg #[.int .i64 s, .int .i64 f, .int .u64 p, .int .u64 q, .int .u64 t]] w (BytesPost w (Wr.headB 1 s f p q ++ Wr.num t 8)) := by
  have hm : Wr.madeB s f = true := by unfold Wr.madeB; simp; omega
  obtain ⟨i0, hi, hz0_, hz1_, hz2_⟩ := info_parts info8
  have z0 : (w.alloc (.cells #[.int .i64 s, .int .i64 f, .int .u64 p, .int .u64 q, .int .u64 t] 28)).cell? ⟨w.heap.size, 0, none⟩ = some (.int .i64 s) := cell_at (heap_alloc_new w _) 0
  have z1 : (w.alloc (.cells #[.int .i64 s, .int .i64 f, .int .u64 p, .int .u64 q, .int .u64 t] 28)).cell? ⟨w.heap.size, 1, none⟩ = some (.int .i64 f) := cell_at (heap_alloc_new w _) 1
  have z2 : (w.alloc (.cells #[.int .i64 s, .int .i64 f, .int .u64 p, .int .u64 q, .int .u64 t] 28)).cell? ⟨w.heap.size, 2, none⟩ = some (.int .u64 p) := cell_at (heap_alloc_new w _) 2
  have z3 : (w.alloc (.cells #[.int .i64 s, .int .i64 f, .int .u64 p, .int .u64 q, .int .u64 t] 28)).cell? ⟨w.heap.size, 3, none⟩ = some (.int .u64 q) := cell_at (heap_alloc_new w _) 3
  have z4 : (w.alloc (.cells #[.int .i64 s, .int .i64 f, .int .u64 p, .int .u64 q, .int .u64 t] 28)).cell? ⟨w.heap.size, 4, none⟩ = some (.int .u64 t) := cell_at (heap_alloc_new w _) 4
  have hB : Below w.heap.size w (w.alloc (.cells #[.int .i64 s, .int .i64 f, .int .u64 p, .int .u64 q, .int .u64 t] 28)) := (Below.refl _ _).alloc (Nat.le_refl _) _
  have hlt : w.heap.size < (w.alloc (.cells #[.int .i64 s, .int .i64 f, .int .u64 p, .int .u64 q, .int .u64 t] 28)).heap.size := by simp
  go_enter Try.func12, Try.ntmps12
  go_wp2_with (refine (refmade_any _ _ _).mono ?_; rintro e w' ⟨rfl, rfl⟩)
  generalize (w.alloc (.cells #[.int .i64 s, .int .i64 f, .int .u64 p, .int .u64 q, .int .u64 t] 28)) = W at z0 z1 z2 z3 z4 hB hlt ⊢
  go_region_held3 (fun w' => w'.cell? ⟨w.heap.size, 0, none⟩ = some (.int .i64 s) ∧ w'.cell? ⟨w.heap.size, 1, none⟩ = some (.int .i64 f) ∧ w'.cell? ⟨w.heap.size, 2, none⟩ = some (.int .u64 p) ∧ w'.cell? ⟨w.heap.size, 3, none⟩ = some (.int .u64 q) ∧ w'.cell? ⟨w.heap.size, 4, none⟩ = some (.int .u64 t) ∧ w.heap.size < w'.heap.size ∧ Below w.heap.size w w')
    (first | assumption | exact ⟨z0, z1, z2, z3, z4, hlt, hB⟩ | exact ⟨z0, z1, z2, z3, z4, hlt, hB.drew⟩)
    (first
      | (go_at_call 21; refine (refhead_any 1 s f p q _ hs hf hp hq).mono ?_; rintro e w' ⟨v1, rfl, o1, b1⟩; have hS := keep5 (by assumption) b1 (by first | exact hlt | omega) (by have := hB.size; omega); have hz := b1.size; (try replace hY2 := hY2.keep b1))
      | (go_at_call 22; refine (number_c 8 8 rfl t _ ht (by omega)).mono ?_; rintro e w' ⟨v2, rfl, o2, b2⟩; have hS := keep5 (by assumption) b2 (by first | exact hlt | omega) (by have := hB.size; omega); have hz := b2.size; obtain ⟨g2, cap2, rfl, hN2, hY2⟩ := of_own (w := w) o2 (by rw [Wr.num_length]; omega); (try rw [Wr.num_length]); (try have r1 := OwnB.lower (base' := w.heap.size + 1) (o1.keep b2) (show w.heap.size + 1 ≤ W.heap.size from hlt)))
      | (rw [if_pos (by rfl)]; have hl4 := hY2.len; have hl5 := hY2.cap_; rw [Wr.num_length] at hl4; unfold OwnB at r1; rw [Wr.head_length] at r1; refine wp_append_own _ (.tmp 18) (.tmp 21) 22 rfl (w.heap.size + 1) 5 i0 (.int .u8 0) 1 1 Try.underlying22 hi hz0_ hz1_ hz2_ rfl (by decide) _ _ _ rfl r1 ⟨g2, 0, none⟩ 8 cap2 ((Wr.num t 8).map encB) rfl (by simp [Wr.num_length]) (cells_of hY2) (encs _) (by unfold maxLen; omega) (by omega) (by omega) ?_; intro v3 w3 hown3 hg3 _; have hb3 := grown8 r1 (Below.refl _ _) (by omega) hg3; have hS3 := keep5 hS hb3 (Nat.lt_succ_self _) (Nat.le_succ _); have o3 := OwnB.lower (base' := w.heap.size) (row_more hown3 (by rw [Wr.head_length, Wr.num_length])) (Nat.le_succ _)))
  all_goals
    go_wp2
    go_ret2
    exact ⟨_, rfl, o3, hS3.2.2.2.2.2.2⟩

end Go.Proofs.Ytpjkjcecbhfgoaa
