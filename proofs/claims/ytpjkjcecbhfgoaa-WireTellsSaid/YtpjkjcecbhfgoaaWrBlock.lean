/-
  The walks of wire's Block and Vote.
-/
import Derived.Test.YtpjkjcecbhfgoaaWrHead
namespace Go.Proofs.Ytpjkjcecbhfgoaa
open Go.RowKit
set_option linter.unusedSimpArgs false
set_option linter.unusedVariables false

/-- A word of 64 bits. -/
def IsU (x : Int) : Prop := 0 ≤ x ∧ x ≤ 18446744073709551615
def Wr.B.val (b : Wr.B) : Value := .agg #[.int .i64 b.slot, .int .i64 b.who, .int .u64 b.p, .int .u64 b.q, .int .u64 b.salt]
def Wr.V.val (v : Wr.V) : Value := .agg #[.int .i64 v.who, .int .i64 v.slot, .int .u64 v.p, .int .u64 v.q]
/-- What Block and Vote leave: new bytes. -/
def BytesPost (w : World) (l : List UInt8) (e : Ending) (w' : World) : Prop := ∃ v, e = .returned (.tuple #[v, .int .i64 0]) ∧ OwnB w' w.heap.size v l ∧ Below w.heap.size w w'

theorem made_true {s f : Int} (h : Wr.madeB s f = true) : (0 < s ∧ s ≤ 1048576) ∧ (0 ≤ f ∧ f < 12) := by
  unfold Wr.madeB at h
  simp only [Bool.and_eq_true, decide_eq_true_eq] at h
  omega

/-- The boxed block, and what is kept of it. -/
theorem keep5 {B N : Nat} {x0 x1 x2 x3 x4 : Value} {w0 w w' : World}
    (h : w.cell? ⟨B, 0, none⟩ = some x0 ∧ w.cell? ⟨B, 1, none⟩ = some x1 ∧ w.cell? ⟨B, 2, none⟩ = some x2 ∧ w.cell? ⟨B, 3, none⟩ = some x3 ∧ w.cell? ⟨B, 4, none⟩ = some x4 ∧ B < w.heap.size ∧ Below w0.heap.size w0 w) (hb : Below N w w') (hB : B < N) (hN : w0.heap.size ≤ N) :
    w'.cell? ⟨B, 0, none⟩ = some x0 ∧ w'.cell? ⟨B, 1, none⟩ = some x1 ∧ w'.cell? ⟨B, 2, none⟩ = some x2 ∧ w'.cell? ⟨B, 3, none⟩ = some x3 ∧ w'.cell? ⟨B, 4, none⟩ = some x4 ∧ B < w'.heap.size ∧ Below w0.heap.size w0 w' := by
  obtain ⟨h0, h1, h2, h3, h4, h5, h6⟩ := h
  have hs := hb.size
  exact ⟨(hb.cell (p := ⟨B, 0, none⟩) hB).trans h0, (hb.cell (p := ⟨B, 1, none⟩) hB).trans h1, (hb.cell (p := ⟨B, 2, none⟩) hB).trans h2, (hb.cell (p := ⟨B, 3, none⟩) hB).trans h3, (hb.cell (p := ⟨B, 4, none⟩) hB).trans h4, by omega, h6.trans (hb.mono hN)⟩

set_option maxHeartbeats 1000000 in
theorem block_no (b : Wr.B) (w : World) (hm : Wr.madeB b.slot b.who = false) :
    Calls Try.prog 11 #[b.val] w fun e w' => e = .returned (.tuple #[.slice none 0 0, .int .i64 1]) ∧ Below w.heap.size w w' := by
  obtain ⟨s, f, p, q, t⟩ := b
  simp only at hm
  unfold Wr.B.val
  go_enter Try.func11, Try.ntmps11
  go_wp2_with (refine (made_any _ _ _).mono ?_; rintro e w' ⟨rfl, rfl⟩)
  go_ret2
  exact ⟨rfl, (Below.refl _ _).alloc (Nat.le_refl _) _⟩

set_option maxHeartbeats 1000000 in
theorem block_yes (s f p q t : Nat) (w : World) (h0 : 0 < s) (hs : s ≤ 1048576) (hf : f < 12) (hp : p ≤ 18446744073709551615) (hq : q ≤ 18446744073709551615) (ht : t ≤ 18446744073709551615) :
    Calls Try.prog 11 #[.agg #[.int .i64 s, .int .i64 f, .int .u64 p, .int .u64 q, .int .u64 t]] w (BytesPost w (Wr.headB 1 s f p q ++ Wr.num t 8)) := by
  have hm : Wr.madeB s f = true := by unfold Wr.madeB; simp; omega
  have z0 : (w.alloc (.cells #[.int .i64 s, .int .i64 f, .int .u64 p, .int .u64 q, .int .u64 t] 28)).cell? ⟨w.heap.size, 0, none⟩ = some (.int .i64 s) := cell_at (heap_alloc_new w _) 0
  have z1 : (w.alloc (.cells #[.int .i64 s, .int .i64 f, .int .u64 p, .int .u64 q, .int .u64 t] 28)).cell? ⟨w.heap.size, 1, none⟩ = some (.int .i64 f) := cell_at (heap_alloc_new w _) 1
  have z2 : (w.alloc (.cells #[.int .i64 s, .int .i64 f, .int .u64 p, .int .u64 q, .int .u64 t] 28)).cell? ⟨w.heap.size, 2, none⟩ = some (.int .u64 p) := cell_at (heap_alloc_new w _) 2
  have z3 : (w.alloc (.cells #[.int .i64 s, .int .i64 f, .int .u64 p, .int .u64 q, .int .u64 t] 28)).cell? ⟨w.heap.size, 3, none⟩ = some (.int .u64 q) := cell_at (heap_alloc_new w _) 3
  have z4 : (w.alloc (.cells #[.int .i64 s, .int .i64 f, .int .u64 p, .int .u64 q, .int .u64 t] 28)).cell? ⟨w.heap.size, 4, none⟩ = some (.int .u64 t) := cell_at (heap_alloc_new w _) 4
  have hB : Below w.heap.size w (w.alloc (.cells #[.int .i64 s, .int .i64 f, .int .u64 p, .int .u64 q, .int .u64 t] 28)) := (Below.refl _ _).alloc (Nat.le_refl _) _
  have hlt : w.heap.size < (w.alloc (.cells #[.int .i64 s, .int .i64 f, .int .u64 p, .int .u64 q, .int .u64 t] 28)).heap.size := by simp
  go_enter Try.func11, Try.ntmps11
  go_wp2_with (refine (made_any _ _ _).mono ?_; rintro e w' ⟨rfl, rfl⟩)
  generalize w.alloc (.cells #[.int .i64 s, .int .i64 f, .int .u64 p, .int .u64 q, .int .u64 t] 28) = W at z0 z1 z2 z3 z4 hB hlt ⊢
  go_region_held3 (fun w' => w'.cell? ⟨w.heap.size, 0, none⟩ = some (.int .i64 s) ∧ w'.cell? ⟨w.heap.size, 1, none⟩ = some (.int .i64 f) ∧ w'.cell? ⟨w.heap.size, 2, none⟩ = some (.int .u64 p) ∧ w'.cell? ⟨w.heap.size, 3, none⟩ = some (.int .u64 q) ∧ w'.cell? ⟨w.heap.size, 4, none⟩ = some (.int .u64 t) ∧ w.heap.size < w'.heap.size ∧ Below w.heap.size w w')
    (first | assumption | exact ⟨z0, z1, z2, z3, z4, hlt, hB⟩ | exact ⟨z0, z1, z2, z3, z4, hlt, hB.drew⟩)
    (first
      | (go_at_call 19; refine (head_any 1 s f p q _ hs hf hp hq).mono ?_; rintro e w' ⟨v1, rfl, o1, b1⟩; have hS := keep5 (by assumption) b1 hlt hB.size; have hz := b1.size)
      | (go_at_call 18; refine (put_c 8 8 rfl _ _ _ t _ ht (by omega) (by rw [Wr.head_length]; omega) o1 hz).mono ?_; rintro e w' ⟨v2, rfl, o2, b2⟩; have hS2 := keep5 hS b2 hlt hB.size))
  all_goals
    go_wp2
    go_ret2
    exact ⟨_, rfl, OwnB.lower o2 hB.size, hS2.2.2.2.2.2.2⟩

theorem block_any (b : Wr.B) (w : World) (hm : Wr.madeB b.slot b.who = true) (hp : IsU b.p) (hq : IsU b.q) (ht : IsU b.salt) :
    Calls Try.prog 11 #[b.val] w (BytesPost w (Wr.blockB b)) := by
  obtain ⟨s, f, p, q, t⟩ := b
  obtain ⟨h1, h2⟩ := made_true hm
  simp only at h1 h2
  obtain ⟨s, rfl⟩ := Int.eq_ofNat_of_zero_le (show 0 ≤ s by omega)
  obtain ⟨f, rfl⟩ := Int.eq_ofNat_of_zero_le (show 0 ≤ f by omega)
  obtain ⟨p, rfl⟩ := Int.eq_ofNat_of_zero_le hp.1
  obtain ⟨q, rfl⟩ := Int.eq_ofNat_of_zero_le hq.1
  obtain ⟨t, rfl⟩ := Int.eq_ofNat_of_zero_le ht.1
  have h3 := hp.2
  have h4 := hq.2
  have h5 := ht.2
  simp only at h3 h4 h5
  exact block_yes s f p q t w (by omega) (by omega) (by omega) (by omega) (by omega) (by omega)

set_option maxHeartbeats 1000000 in
theorem vote_no (v : Wr.V) (w : World) (hm : Wr.madeB v.slot v.who = false) :
    Calls Try.prog 13 #[v.val] w fun e w' => e = .returned (.tuple #[.slice none 0 0, .int .i64 1]) ∧ Below w.heap.size w w' := by
  obtain ⟨f, s, p, q⟩ := v
  simp only at hm
  unfold Wr.V.val
  go_enter Try.func13, Try.ntmps13
  go_wp2_with (refine (made_any _ _ _).mono ?_; rintro e w' ⟨rfl, rfl⟩)
  go_ret2
  exact ⟨rfl, (Below.refl _ _).alloc (Nat.le_refl _) _⟩

set_option maxHeartbeats 1000000 in
theorem vote_yes (s f p q : Nat) (w : World) (h0 : 0 < s) (hs : s ≤ 1048576) (hf : f < 12) (hp : p ≤ 18446744073709551615) (hq : q ≤ 18446744073709551615) :
    Calls Try.prog 13 #[.agg #[.int .i64 f, .int .i64 s, .int .u64 p, .int .u64 q]] w (BytesPost w (Wr.headB 2 s f p q)) := by
  have hm : Wr.madeB s f = true := by unfold Wr.madeB; simp; omega
  go_enter Try.func13, Try.ntmps13
  go_wp2_with (first
    | (go_at_call 17; refine (made_any _ _ _).mono ?_; rintro e w' ⟨rfl, rfl⟩)
    | (go_at_call 19; refine (head_any 2 s f p q _ hs hf hp hq).mono ?_; rintro e w' ⟨v1, rfl, o1, b1⟩))
  go_ret2
  exact ⟨_, rfl, OwnB.lower o1 (by simp), ((Below.refl _ w).alloc (Nat.le_refl _) _).trans (b1.mono (by simp))⟩

theorem vote_any (v : Wr.V) (w : World) (hm : Wr.madeB v.slot v.who = true) (hp : IsU v.p) (hq : IsU v.q) :
    Calls Try.prog 13 #[v.val] w (BytesPost w (Wr.voteB v)) := by
  obtain ⟨f, s, p, q⟩ := v
  obtain ⟨h1, h2⟩ := made_true hm
  simp only at h1 h2
  obtain ⟨s, rfl⟩ := Int.eq_ofNat_of_zero_le (show 0 ≤ s by omega)
  obtain ⟨f, rfl⟩ := Int.eq_ofNat_of_zero_le (show 0 ≤ f by omega)
  obtain ⟨p, rfl⟩ := Int.eq_ofNat_of_zero_le hp.1
  obtain ⟨q, rfl⟩ := Int.eq_ofNat_of_zero_le hq.1
  have h3 := hp.2
  have h4 := hq.2
  simp only at h3 h4
  exact vote_yes s f p q w (by omega) (by omega) (by omega) (by omega) (by omega)

end Go.Proofs.Ytpjkjcecbhfgoaa
