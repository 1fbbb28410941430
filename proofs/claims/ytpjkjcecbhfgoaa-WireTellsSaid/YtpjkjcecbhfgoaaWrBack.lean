/-
  WireBack: the walk.
-/
import Derived.Test.YtpjkjcecbhfgoaaWrApart
import Derived.Test.YtpjkjcecbhfgoaaWrSlots
namespace Go.Proofs.Ytpjkjcecbhfgoaa
open Go.RowKit
set_option linter.unusedSimpArgs false
set_option linter.unusedVariables false

theorem came_text {w : World} {a : Option Addr} {l : List UInt8} {c : Nat} (h : Came w a l c) (n : Nat) (hn : l.length = n) (h0 : 0 < n) :
    (convert 22 9 (.slice a n c)).run Try.prog w = .ok (.string ⟨l.toArray⟩) w := by
  subst hn
  rcases h.at_ with h1 | ⟨b, o, rfl, hb, hcell⟩
  · omega
  exact run_convert_bytes_back w _ _ 5 ⟨b, o, none⟩ c l Try.underlying22 Try.underlying5 Try.underlying9 (fun j hj => by
    have e : (⟨b, o, none⟩ : Addr).add j = ⟨b, o + j, none⟩ := by unfold Addr.add; split <;> simp_all
    rw [e]
    exact hcell j hj)
theorem eqBB (s f p q t : Int) (w : World) : (Op.equalIn 10000 28 (.agg #[.int .i64 s, .int .i64 f, .int .u64 p, .int .u64 q, .int .u64 t]) (.agg #[.int .i64 s, .int .i64 f, .int .u64 p, .int .u64 q, .int .u64 t])).run Try.prog w = .ok true w := by
  rw [eqB_c, decide_eq_true rfl]
theorem eqVV (f s p q : Int) (w : World) : (Op.equalIn 10000 30 (.agg #[.int .i64 f, .int .i64 s, .int .u64 p, .int .u64 q]) (.agg #[.int .i64 f, .int .i64 s, .int .u64 p, .int .u64 q])).run Try.prog w = .ok true w := by
  rw [eqV_c, decide_eq_true rfl]

/-- What bytes can be. -/
theorem three (l : List UInt8) : Wr.getS l = ⟨⟨0, 0, 0, 0, 0⟩, ⟨0, 0, 0, 0⟩, false, 2⟩ ∨
    (∃ S F P Q T, Wr.getS l = ⟨⟨S, F, P, Q, T⟩, ⟨0, 0, 0, 0⟩, false, 0⟩ ∧ Wr.madeB S F = true ∧ IsU P ∧ IsU Q ∧ IsU T ∧ Wr.blockB ⟨S, F, P, Q, T⟩ = l) ∨
    (∃ F S P Q, Wr.getS l = ⟨⟨0, 0, 0, 0, 0⟩, ⟨F, S, P, Q⟩, true, 0⟩ ∧ Wr.madeB S F = true ∧ IsU P ∧ IsU Q ∧ Wr.voteB ⟨F, S, P, Q⟩ = l) := by
  by_cases h : ((Wr.isV l || Wr.isB l) && Wr.madeB (Wr.slotAt l) (Wr.whoAt l)) = true
  · have h2 := h
    rw [Bool.and_eq_true] at h2
    obtain ⟨hv, hm⟩ := h2
    cases hi : Wr.isV l with
    | true =>
      refine .inr (.inr ⟨_, _, _, _, ?_, hm, Wr.num_U l 6, Wr.num_U l 14, Wr.vote_back l hi⟩)
      unfold Wr.getS
      rw [if_pos h, if_pos hi]
      rfl
    | false =>
      have hb : Wr.isB l = true := by simpa [hi] using hv
      refine .inr (.inl ⟨_, _, _, _, _, ?_, hm, Wr.num_U l 6, Wr.num_U l 14, Wr.num_U l 22, Wr.block_back l hb⟩)
      unfold Wr.getS
      rw [if_pos h, if_neg (by rw [hi]; decide)]
      rfl
  · left
    unfold Wr.getS
    rw [if_neg h]
    rfl

namespace wireBack

set_option maxHeartbeats 8000000 in
theorem walk_none {w : World} (s1 f1 p1 q1 t1 f2 s2 p2 q2 : Int) (u1p : IsU p1) (u1q : IsU q1) (u1t : IsU t1) (u2p : IsU p2) (u2q : IsU q2) (a : Option Addr) (l : List UInt8) (c n : Nat) (en : l.length = n) (npos : True) (h100 : decide ((n : Int) > 100) = false) (hc : Came w a l c) 
    (GX : Hid (Wr.getS l = ⟨⟨0, 0, 0, 0, 0⟩, ⟨0, 0, 0, 0⟩, false, 2⟩))  :
    Calls Try.prog 5 #[.agg #[.int .i64 s1, .int .i64 f1, .int .u64 p1, .int .u64 q1, .int .u64 t1], .agg #[.int .i64 f2, .int .i64 s2, .int .u64 p2, .int .u64 q2], .slice a n c] w fun e w' => e = .returned (.bool true) ∧ Below w.heap.size w w' := by
  have n1 := Wr.block_length ⟨s1, f1, p1, q1, t1⟩
  have n2 := Wr.vote_length ⟨f2, s2, p2, q2⟩
  obtain ⟨l1, hl1⟩ : ∃ l, Wr.blockB ⟨s1, f1, p1, q1, t1⟩ = l := ⟨_, rfl⟩
  obtain ⟨l2, hl2⟩ : ∃ l, Wr.voteB ⟨f2, s2, p2, q2⟩ = l := ⟨_, rfl⟩
  rw [hl1] at n1
  rw [hl2] at n2
  have HL1 := Lib.hid hl1
  have HL2 := Lib.hid hl2
  have eqb := eqBB s1 f1 p1 q1 t1
  have eqv := eqVV f2 s2 p2 q2
  have eqb0 := eqBB 0 0 0 0 0
  have eqv0 := eqVV 0 0 0 0
  have kA := (BoxB.new w s1 f1 p1 q1 t1 _ rfl).alloc (.cells #[.int .i64 f2, .int .i64 s2, .int .u64 p2, .int .u64 q2] 30)
  have kV := BoxV.new (w.alloc (.cells #[.int .i64 s1, .int .i64 f1, .int .u64 p1, .int .u64 q1, .int .u64 t1] 28)) f2 s2 p2 q2 (w.heap.size + 1) (by simp)
  have bel : Below w.heap.size w ((w.alloc (.cells #[.int .i64 s1, .int .i64 f1, .int .u64 p1, .int .u64 q1, .int .u64 t1] 28)).alloc (.cells #[.int .i64 f2, .int .i64 s2, .int .u64 p2, .int .u64 q2] 30)) := below_allocN ((Below.refl _ _).alloc (Nat.le_refl _) _) _
  cases m1 : Wr.madeB s1 f1
  all_goals
    cases m2 : Wr.madeB s2 f2
    all_goals
      try have G1 : Hid (Wr.getS l1 = ⟨⟨s1, f1, p1, q1, t1⟩, ⟨0, 0, 0, 0⟩, false, 0⟩) := Lib.hid (by rw [← HL1.out]; exact Wr.getS_block ⟨s1, f1, p1, q1, t1⟩ m1 u1p u1q u1t)
      try have G2 : Hid (Wr.getS l2 = ⟨⟨0, 0, 0, 0, 0⟩, ⟨f2, s2, p2, q2⟩, true, 0⟩) := Lib.hid (by rw [← HL2.out]; exact Wr.getS_vote ⟨f2, s2, p2, q2⟩ m2 u2p u2q)
      go_enter Try.func5, Try.ntmps5
      go_wp2_with (first
        | (go_at_call 9; refine (awake_any _).mono ?_; rintro e W0 ⟨rfl, hb⟩; replace bel := below_step (by first | exact bel | exact below_allocN (below_allocN bel _) _) hb; replace kA : BoxB w.heap.size s1 f1 p1 q1 t1 _ := BoxB.keep (by first | exact kA | exact (kA.alloc _).alloc _) hb; replace kV : BoxV (w.heap.size + 1) f2 s2 p2 q2 _ := BoxV.keep (by first | exact kV | exact (kV.alloc _).alloc _) hb; obtain ⟨a0, a1, a2, a3, a4⟩ := kA.c; obtain ⟨v0, v1, v2, v3⟩ := kV.c; have la := kA.lt; have lv := kV.lt)
        | (go_at_call_of 11 (Value.int .i64 s1); refine (block_use s1 f1 p1 q1 t1 l1 _ m1 u1p u1q u1t HL1).mono ?_; rintro e W1 ⟨g1, cap1, rfl, hY1, hb⟩; replace bel := below_step (by first | exact bel | exact below_allocN (below_allocN bel _) _) hb; replace kA : BoxB w.heap.size s1 f1 p1 q1 t1 _ := BoxB.keep (by first | exact kA | exact (kA.alloc _).alloc _) hb; replace kV : BoxV (w.heap.size + 1) f2 s2 p2 q2 _ := BoxV.keep (by first | exact kV | exact (kV.alloc _).alloc _) hb; obtain ⟨a0, a1, a2, a3, a4⟩ := kA.c; obtain ⟨v0, v1, v2, v3⟩ := kV.c; have la := kA.lt; have lv := kV.lt)
        | (go_at_call_of 11 (Value.int .i64 s1); refine (block_bad s1 f1 p1 q1 t1 _ m1).mono ?_; rintro e W1 ⟨rfl, hb⟩; replace bel := below_step (by first | exact bel | exact below_allocN (below_allocN bel _) _) hb; replace kA : BoxB w.heap.size s1 f1 p1 q1 t1 _ := BoxB.keep (by first | exact kA | exact (kA.alloc _).alloc _) hb; replace kV : BoxV (w.heap.size + 1) f2 s2 p2 q2 _ := BoxV.keep (by first | exact kV | exact (kV.alloc _).alloc _) hb; obtain ⟨a0, a1, a2, a3, a4⟩ := kA.c; obtain ⟨v0, v1, v2, v3⟩ := kV.c; have la := kA.lt; have lv := kV.lt)
        | (go_at_call_of 10 (Value.slice (some ⟨g1, 0, none⟩) 30 cap1); refine (get_use _ l1 30 cap1 _ n1 hY1.came s1 f1 p1 q1 t1 0 0 0 0 false 0 G1).mono ?_; rintro e W2 ⟨rfl, hb⟩; replace bel := below_step (by first | exact bel | exact below_allocN (below_allocN bel _) _) hb; replace kA : BoxB w.heap.size s1 f1 p1 q1 t1 _ := BoxB.keep (by first | exact kA | exact (kA.alloc _).alloc _) hb; replace kV : BoxV (w.heap.size + 1) f2 s2 p2 q2 _ := BoxV.keep (by first | exact kV | exact (kV.alloc _).alloc _) hb; obtain ⟨a0, a1, a2, a3, a4⟩ := kA.c; obtain ⟨v0, v1, v2, v3⟩ := kV.c; have la := kA.lt; have lv := kV.lt)
        | (go_at_call_of 13 (Value.int .i64 f2); refine (vote_use f2 s2 p2 q2 l2 _ m2 u2p u2q HL2).mono ?_; rintro e W3 ⟨g2, cap2, rfl, hY2, hb⟩; replace bel := below_step (by first | exact bel | exact below_allocN (below_allocN bel _) _) hb; replace kA : BoxB w.heap.size s1 f1 p1 q1 t1 _ := BoxB.keep (by first | exact kA | exact (kA.alloc _).alloc _) hb; replace kV : BoxV (w.heap.size + 1) f2 s2 p2 q2 _ := BoxV.keep (by first | exact kV | exact (kV.alloc _).alloc _) hb; obtain ⟨a0, a1, a2, a3, a4⟩ := kA.c; obtain ⟨v0, v1, v2, v3⟩ := kV.c; have la := kA.lt; have lv := kV.lt)
        | (go_at_call_of 13 (Value.int .i64 f2); refine (vote_bad f2 s2 p2 q2 _ m2).mono ?_; rintro e W3 ⟨rfl, hb⟩; replace bel := below_step (by first | exact bel | exact below_allocN (below_allocN bel _) _) hb; replace kA : BoxB w.heap.size s1 f1 p1 q1 t1 _ := BoxB.keep (by first | exact kA | exact (kA.alloc _).alloc _) hb; replace kV : BoxV (w.heap.size + 1) f2 s2 p2 q2 _ := BoxV.keep (by first | exact kV | exact (kV.alloc _).alloc _) hb; obtain ⟨a0, a1, a2, a3, a4⟩ := kA.c; obtain ⟨v0, v1, v2, v3⟩ := kV.c; have la := kA.lt; have lv := kV.lt)
        | (go_at_call_of 10 (Value.slice (some ⟨g2, 0, none⟩) 22 cap2); refine (get_use _ l2 22 cap2 _ n2 hY2.came 0 0 0 0 0 f2 s2 p2 q2 true 0 G2).mono ?_; rintro e W4 ⟨rfl, hb⟩; replace bel := below_step (by first | exact bel | exact below_allocN (below_allocN bel _) _) hb; replace kA : BoxB w.heap.size s1 f1 p1 q1 t1 _ := BoxB.keep (by first | exact kA | exact (kA.alloc _).alloc _) hb; replace kV : BoxV (w.heap.size + 1) f2 s2 p2 q2 _ := BoxV.keep (by first | exact kV | exact (kV.alloc _).alloc _) hb; obtain ⟨a0, a1, a2, a3, a4⟩ := kA.c; obtain ⟨v0, v1, v2, v3⟩ := kV.c; have la := kA.lt; have lv := kV.lt)
        | (go_at_call_of 10 (Value.slice a n c); refine (get_use a l n c _ en (hc.keep (by first | exact bel | exact below_allocN (below_allocN bel _) _)) 0 0 0 0 0 0 0 0 0 false 2 GX).mono ?_; rintro e W5 ⟨rfl, hb⟩; replace bel := below_step (by first | exact bel | exact below_allocN (below_allocN bel _) _) hb; replace kA : BoxB w.heap.size s1 f1 p1 q1 t1 _ := BoxB.keep (by first | exact kA | exact (kA.alloc _).alloc _) hb; replace kV : BoxV (w.heap.size + 1) f2 s2 p2 q2 _ := BoxV.keep (by first | exact kV | exact (kV.alloc _).alloc _) hb; obtain ⟨a0, a1, a2, a3, a4⟩ := kA.c; obtain ⟨v0, v1, v2, v3⟩ := kV.c; have la := kA.lt; have lv := kV.lt))
      go_ret
      exact ⟨by first | rfl | simp, below_allocN (below_allocN bel _) _⟩

set_option maxHeartbeats 8000000 in
theorem walk_block {w : World} (s1 f1 p1 q1 t1 f2 s2 p2 q2 : Int) (u1p : IsU p1) (u1q : IsU q1) (u1t : IsU t1) (u2p : IsU p2) (u2q : IsU q2) (a : Option Addr) (l : List UInt8) (c n : Nat) (en : l.length = n) (npos : 0 < n) (h100 : decide ((n : Int) > 100) = false) (hc : Came w a l c) (S F P Q T : Int)
    (GX : Hid (Wr.getS l = ⟨⟨S, F, P, Q, T⟩, ⟨0, 0, 0, 0⟩, false, 0⟩)) (mx : Wr.madeB S F = true) (ux : IsU P) (uy : IsU Q) (ut : IsU T) (HX : Hid (Wr.blockB ⟨S, F, P, Q, T⟩ = l)) (nb : l.length = 30) :
    Calls Try.prog 5 #[.agg #[.int .i64 s1, .int .i64 f1, .int .u64 p1, .int .u64 q1, .int .u64 t1], .agg #[.int .i64 f2, .int .i64 s2, .int .u64 p2, .int .u64 q2], .slice a n c] w fun e w' => e = .returned (.bool true) ∧ Below w.heap.size w w' := by
  have n1 := Wr.block_length ⟨s1, f1, p1, q1, t1⟩
  have n2 := Wr.vote_length ⟨f2, s2, p2, q2⟩
  obtain ⟨l1, hl1⟩ : ∃ l, Wr.blockB ⟨s1, f1, p1, q1, t1⟩ = l := ⟨_, rfl⟩
  obtain ⟨l2, hl2⟩ : ∃ l, Wr.voteB ⟨f2, s2, p2, q2⟩ = l := ⟨_, rfl⟩
  rw [hl1] at n1
  rw [hl2] at n2
  have HL1 := Lib.hid hl1
  have HL2 := Lib.hid hl2
  have eqb := eqBB s1 f1 p1 q1 t1
  have eqv := eqVV f2 s2 p2 q2
  have eqb0 := eqBB 0 0 0 0 0
  have eqv0 := eqVV 0 0 0 0
  have kA := (BoxB.new w s1 f1 p1 q1 t1 _ rfl).alloc (.cells #[.int .i64 f2, .int .i64 s2, .int .u64 p2, .int .u64 q2] 30)
  have kV := BoxV.new (w.alloc (.cells #[.int .i64 s1, .int .i64 f1, .int .u64 p1, .int .u64 q1, .int .u64 t1] 28)) f2 s2 p2 q2 (w.heap.size + 1) (by simp)
  have bel : Below w.heap.size w ((w.alloc (.cells #[.int .i64 s1, .int .i64 f1, .int .u64 p1, .int .u64 q1, .int .u64 t1] 28)).alloc (.cells #[.int .i64 f2, .int .i64 s2, .int .u64 p2, .int .u64 q2] 30)) := below_allocN ((Below.refl _ _).alloc (Nat.le_refl _) _) _
  cases m1 : Wr.madeB s1 f1
  all_goals
    cases m2 : Wr.madeB s2 f2
    all_goals
      try have G1 : Hid (Wr.getS l1 = ⟨⟨s1, f1, p1, q1, t1⟩, ⟨0, 0, 0, 0⟩, false, 0⟩) := Lib.hid (by rw [← HL1.out]; exact Wr.getS_block ⟨s1, f1, p1, q1, t1⟩ m1 u1p u1q u1t)
      try have G2 : Hid (Wr.getS l2 = ⟨⟨0, 0, 0, 0, 0⟩, ⟨f2, s2, p2, q2⟩, true, 0⟩) := Lib.hid (by rw [← HL2.out]; exact Wr.getS_vote ⟨f2, s2, p2, q2⟩ m2 u2p u2q)
      go_enter Try.func5, Try.ntmps5
      go_wp2_with (first
        | (go_at_call 9; refine (awake_any _).mono ?_; rintro e W0 ⟨rfl, hb⟩; replace bel := below_step (by first | exact bel | exact below_allocN (below_allocN bel _) _) hb; replace kA : BoxB w.heap.size s1 f1 p1 q1 t1 _ := BoxB.keep (by first | exact kA | exact (kA.alloc _).alloc _) hb; replace kV : BoxV (w.heap.size + 1) f2 s2 p2 q2 _ := BoxV.keep (by first | exact kV | exact (kV.alloc _).alloc _) hb; obtain ⟨a0, a1, a2, a3, a4⟩ := kA.c; obtain ⟨v0, v1, v2, v3⟩ := kV.c; have la := kA.lt; have lv := kV.lt)
        | (go_at_call_of 11 (Value.int .i64 s1); refine (block_use s1 f1 p1 q1 t1 l1 _ m1 u1p u1q u1t HL1).mono ?_; rintro e W1 ⟨g1, cap1, rfl, hY1, hb⟩; replace bel := below_step (by first | exact bel | exact below_allocN (below_allocN bel _) _) hb; replace kA : BoxB w.heap.size s1 f1 p1 q1 t1 _ := BoxB.keep (by first | exact kA | exact (kA.alloc _).alloc _) hb; replace kV : BoxV (w.heap.size + 1) f2 s2 p2 q2 _ := BoxV.keep (by first | exact kV | exact (kV.alloc _).alloc _) hb; obtain ⟨a0, a1, a2, a3, a4⟩ := kA.c; obtain ⟨v0, v1, v2, v3⟩ := kV.c; have la := kA.lt; have lv := kV.lt)
        | (go_at_call_of 11 (Value.int .i64 s1); refine (block_bad s1 f1 p1 q1 t1 _ m1).mono ?_; rintro e W1 ⟨rfl, hb⟩; replace bel := below_step (by first | exact bel | exact below_allocN (below_allocN bel _) _) hb; replace kA : BoxB w.heap.size s1 f1 p1 q1 t1 _ := BoxB.keep (by first | exact kA | exact (kA.alloc _).alloc _) hb; replace kV : BoxV (w.heap.size + 1) f2 s2 p2 q2 _ := BoxV.keep (by first | exact kV | exact (kV.alloc _).alloc _) hb; obtain ⟨a0, a1, a2, a3, a4⟩ := kA.c; obtain ⟨v0, v1, v2, v3⟩ := kV.c; have la := kA.lt; have lv := kV.lt)
        | (go_at_call_of 10 (Value.slice (some ⟨g1, 0, none⟩) 30 cap1); refine (get_use _ l1 30 cap1 _ n1 hY1.came s1 f1 p1 q1 t1 0 0 0 0 false 0 G1).mono ?_; rintro e W2 ⟨rfl, hb⟩; replace bel := below_step (by first | exact bel | exact below_allocN (below_allocN bel _) _) hb; replace kA : BoxB w.heap.size s1 f1 p1 q1 t1 _ := BoxB.keep (by first | exact kA | exact (kA.alloc _).alloc _) hb; replace kV : BoxV (w.heap.size + 1) f2 s2 p2 q2 _ := BoxV.keep (by first | exact kV | exact (kV.alloc _).alloc _) hb; obtain ⟨a0, a1, a2, a3, a4⟩ := kA.c; obtain ⟨v0, v1, v2, v3⟩ := kV.c; have la := kA.lt; have lv := kV.lt)
        | (go_at_call_of 13 (Value.int .i64 f2); refine (vote_use f2 s2 p2 q2 l2 _ m2 u2p u2q HL2).mono ?_; rintro e W3 ⟨g2, cap2, rfl, hY2, hb⟩; replace bel := below_step (by first | exact bel | exact below_allocN (below_allocN bel _) _) hb; replace kA : BoxB w.heap.size s1 f1 p1 q1 t1 _ := BoxB.keep (by first | exact kA | exact (kA.alloc _).alloc _) hb; replace kV : BoxV (w.heap.size + 1) f2 s2 p2 q2 _ := BoxV.keep (by first | exact kV | exact (kV.alloc _).alloc _) hb; obtain ⟨a0, a1, a2, a3, a4⟩ := kA.c; obtain ⟨v0, v1, v2, v3⟩ := kV.c; have la := kA.lt; have lv := kV.lt)
        | (go_at_call_of 13 (Value.int .i64 f2); refine (vote_bad f2 s2 p2 q2 _ m2).mono ?_; rintro e W3 ⟨rfl, hb⟩; replace bel := below_step (by first | exact bel | exact below_allocN (below_allocN bel _) _) hb; replace kA : BoxB w.heap.size s1 f1 p1 q1 t1 _ := BoxB.keep (by first | exact kA | exact (kA.alloc _).alloc _) hb; replace kV : BoxV (w.heap.size + 1) f2 s2 p2 q2 _ := BoxV.keep (by first | exact kV | exact (kV.alloc _).alloc _) hb; obtain ⟨a0, a1, a2, a3, a4⟩ := kA.c; obtain ⟨v0, v1, v2, v3⟩ := kV.c; have la := kA.lt; have lv := kV.lt)
        | (go_at_call_of 10 (Value.slice (some ⟨g2, 0, none⟩) 22 cap2); refine (get_use _ l2 22 cap2 _ n2 hY2.came 0 0 0 0 0 f2 s2 p2 q2 true 0 G2).mono ?_; rintro e W4 ⟨rfl, hb⟩; replace bel := below_step (by first | exact bel | exact below_allocN (below_allocN bel _) _) hb; replace kA : BoxB w.heap.size s1 f1 p1 q1 t1 _ := BoxB.keep (by first | exact kA | exact (kA.alloc _).alloc _) hb; replace kV : BoxV (w.heap.size + 1) f2 s2 p2 q2 _ := BoxV.keep (by first | exact kV | exact (kV.alloc _).alloc _) hb; obtain ⟨a0, a1, a2, a3, a4⟩ := kA.c; obtain ⟨v0, v1, v2, v3⟩ := kV.c; have la := kA.lt; have lv := kV.lt)
        | (go_at_call_of 10 (Value.slice a n c); refine (get_use a l n c _ en (hc.keep (by first | exact bel | exact below_allocN (below_allocN bel _) _)) S F P Q T 0 0 0 0 false 0 GX).mono ?_; rintro e W5 ⟨rfl, hb⟩; replace bel := below_step (by first | exact bel | exact below_allocN (below_allocN bel _) _) hb; replace kA : BoxB w.heap.size s1 f1 p1 q1 t1 _ := BoxB.keep (by first | exact kA | exact (kA.alloc _).alloc _) hb; replace kV : BoxV (w.heap.size + 1) f2 s2 p2 q2 _ := BoxV.keep (by first | exact kV | exact (kV.alloc _).alloc _) hb; obtain ⟨a0, a1, a2, a3, a4⟩ := kA.c; obtain ⟨v0, v1, v2, v3⟩ := kV.c; have la := kA.lt; have lv := kV.lt)
        | (go_at_call_of 11 (Value.int .i64 S); refine (block_use S F P Q T l _ mx ux uy ut HX).mono ?_; rintro e W6 ⟨g6, cap6, rfl, hY6, hb⟩; replace bel := below_step (by first | exact bel | exact below_allocN (below_allocN bel _) _) hb; replace kA : BoxB w.heap.size s1 f1 p1 q1 t1 _ := BoxB.keep (by first | exact kA | exact (kA.alloc _).alloc _) hb; replace kV : BoxV (w.heap.size + 1) f2 s2 p2 q2 _ := BoxV.keep (by first | exact kV | exact (kV.alloc _).alloc _) hb; obtain ⟨a0, a1, a2, a3, a4⟩ := kA.c; obtain ⟨v0, v1, v2, v3⟩ := kV.c; have la := kA.lt; have lv := kV.lt; have tx := came_text (hc.keep bel) n en npos; have ty := hY6.text 30 nb))
      go_ret
      exact ⟨by first | rfl | simp, bel⟩

set_option maxHeartbeats 8000000 in
theorem walk_vote {w : World} (s1 f1 p1 q1 t1 f2 s2 p2 q2 : Int) (u1p : IsU p1) (u1q : IsU q1) (u1t : IsU t1) (u2p : IsU p2) (u2q : IsU q2) (a : Option Addr) (l : List UInt8) (c n : Nat) (en : l.length = n) (npos : 0 < n) (h100 : decide ((n : Int) > 100) = false) (hc : Came w a l c) (S F P Q : Int)
    (GX : Hid (Wr.getS l = ⟨⟨0, 0, 0, 0, 0⟩, ⟨F, S, P, Q⟩, true, 0⟩)) (mx : Wr.madeB S F = true) (ux : IsU P) (uy : IsU Q) (HX : Hid (Wr.voteB ⟨F, S, P, Q⟩ = l)) (nb : l.length = 22) :
    Calls Try.prog 5 #[.agg #[.int .i64 s1, .int .i64 f1, .int .u64 p1, .int .u64 q1, .int .u64 t1], .agg #[.int .i64 f2, .int .i64 s2, .int .u64 p2, .int .u64 q2], .slice a n c] w fun e w' => e = .returned (.bool true) ∧ Below w.heap.size w w' := by
  have n1 := Wr.block_length ⟨s1, f1, p1, q1, t1⟩
  have n2 := Wr.vote_length ⟨f2, s2, p2, q2⟩
  obtain ⟨l1, hl1⟩ : ∃ l, Wr.blockB ⟨s1, f1, p1, q1, t1⟩ = l := ⟨_, rfl⟩
  obtain ⟨l2, hl2⟩ : ∃ l, Wr.voteB ⟨f2, s2, p2, q2⟩ = l := ⟨_, rfl⟩
  rw [hl1] at n1
  rw [hl2] at n2
  have HL1 := Lib.hid hl1
  have HL2 := Lib.hid hl2
  have eqb := eqBB s1 f1 p1 q1 t1
  have eqv := eqVV f2 s2 p2 q2
  have eqb0 := eqBB 0 0 0 0 0
  have eqv0 := eqVV 0 0 0 0
  have kA := (BoxB.new w s1 f1 p1 q1 t1 _ rfl).alloc (.cells #[.int .i64 f2, .int .i64 s2, .int .u64 p2, .int .u64 q2] 30)
  have kV := BoxV.new (w.alloc (.cells #[.int .i64 s1, .int .i64 f1, .int .u64 p1, .int .u64 q1, .int .u64 t1] 28)) f2 s2 p2 q2 (w.heap.size + 1) (by simp)
  have bel : Below w.heap.size w ((w.alloc (.cells #[.int .i64 s1, .int .i64 f1, .int .u64 p1, .int .u64 q1, .int .u64 t1] 28)).alloc (.cells #[.int .i64 f2, .int .i64 s2, .int .u64 p2, .int .u64 q2] 30)) := below_allocN ((Below.refl _ _).alloc (Nat.le_refl _) _) _
  cases m1 : Wr.madeB s1 f1
  all_goals
    cases m2 : Wr.madeB s2 f2
    all_goals
      try have G1 : Hid (Wr.getS l1 = ⟨⟨s1, f1, p1, q1, t1⟩, ⟨0, 0, 0, 0⟩, false, 0⟩) := Lib.hid (by rw [← HL1.out]; exact Wr.getS_block ⟨s1, f1, p1, q1, t1⟩ m1 u1p u1q u1t)
      try have G2 : Hid (Wr.getS l2 = ⟨⟨0, 0, 0, 0, 0⟩, ⟨f2, s2, p2, q2⟩, true, 0⟩) := Lib.hid (by rw [← HL2.out]; exact Wr.getS_vote ⟨f2, s2, p2, q2⟩ m2 u2p u2q)
      go_enter Try.func5, Try.ntmps5
      go_wp2_with (first
        | (go_at_call 9; refine (awake_any _).mono ?_; rintro e W0 ⟨rfl, hb⟩; replace bel := below_step (by first | exact bel | exact below_allocN (below_allocN bel _) _) hb; replace kA : BoxB w.heap.size s1 f1 p1 q1 t1 _ := BoxB.keep (by first | exact kA | exact (kA.alloc _).alloc _) hb; replace kV : BoxV (w.heap.size + 1) f2 s2 p2 q2 _ := BoxV.keep (by first | exact kV | exact (kV.alloc _).alloc _) hb; obtain ⟨a0, a1, a2, a3, a4⟩ := kA.c; obtain ⟨v0, v1, v2, v3⟩ := kV.c; have la := kA.lt; have lv := kV.lt)
        | (go_at_call_of 11 (Value.int .i64 s1); refine (block_use s1 f1 p1 q1 t1 l1 _ m1 u1p u1q u1t HL1).mono ?_; rintro e W1 ⟨g1, cap1, rfl, hY1, hb⟩; replace bel := below_step (by first | exact bel | exact below_allocN (below_allocN bel _) _) hb; replace kA : BoxB w.heap.size s1 f1 p1 q1 t1 _ := BoxB.keep (by first | exact kA | exact (kA.alloc _).alloc _) hb; replace kV : BoxV (w.heap.size + 1) f2 s2 p2 q2 _ := BoxV.keep (by first | exact kV | exact (kV.alloc _).alloc _) hb; obtain ⟨a0, a1, a2, a3, a4⟩ := kA.c; obtain ⟨v0, v1, v2, v3⟩ := kV.c; have la := kA.lt; have lv := kV.lt)
        | (go_at_call_of 11 (Value.int .i64 s1); refine (block_bad s1 f1 p1 q1 t1 _ m1).mono ?_; rintro e W1 ⟨rfl, hb⟩; replace bel := below_step (by first | exact bel | exact below_allocN (below_allocN bel _) _) hb; replace kA : BoxB w.heap.size s1 f1 p1 q1 t1 _ := BoxB.keep (by first | exact kA | exact (kA.alloc _).alloc _) hb; replace kV : BoxV (w.heap.size + 1) f2 s2 p2 q2 _ := BoxV.keep (by first | exact kV | exact (kV.alloc _).alloc _) hb; obtain ⟨a0, a1, a2, a3, a4⟩ := kA.c; obtain ⟨v0, v1, v2, v3⟩ := kV.c; have la := kA.lt; have lv := kV.lt)
        | (go_at_call_of 10 (Value.slice (some ⟨g1, 0, none⟩) 30 cap1); refine (get_use _ l1 30 cap1 _ n1 hY1.came s1 f1 p1 q1 t1 0 0 0 0 false 0 G1).mono ?_; rintro e W2 ⟨rfl, hb⟩; replace bel := below_step (by first | exact bel | exact below_allocN (below_allocN bel _) _) hb; replace kA : BoxB w.heap.size s1 f1 p1 q1 t1 _ := BoxB.keep (by first | exact kA | exact (kA.alloc _).alloc _) hb; replace kV : BoxV (w.heap.size + 1) f2 s2 p2 q2 _ := BoxV.keep (by first | exact kV | exact (kV.alloc _).alloc _) hb; obtain ⟨a0, a1, a2, a3, a4⟩ := kA.c; obtain ⟨v0, v1, v2, v3⟩ := kV.c; have la := kA.lt; have lv := kV.lt)
        | (go_at_call_of 13 (Value.int .i64 f2); refine (vote_use f2 s2 p2 q2 l2 _ m2 u2p u2q HL2).mono ?_; rintro e W3 ⟨g2, cap2, rfl, hY2, hb⟩; replace bel := below_step (by first | exact bel | exact below_allocN (below_allocN bel _) _) hb; replace kA : BoxB w.heap.size s1 f1 p1 q1 t1 _ := BoxB.keep (by first | exact kA | exact (kA.alloc _).alloc _) hb; replace kV : BoxV (w.heap.size + 1) f2 s2 p2 q2 _ := BoxV.keep (by first | exact kV | exact (kV.alloc _).alloc _) hb; obtain ⟨a0, a1, a2, a3, a4⟩ := kA.c; obtain ⟨v0, v1, v2, v3⟩ := kV.c; have la := kA.lt; have lv := kV.lt)
        | (go_at_call_of 13 (Value.int .i64 f2); refine (vote_bad f2 s2 p2 q2 _ m2).mono ?_; rintro e W3 ⟨rfl, hb⟩; replace bel := below_step (by first | exact bel | exact below_allocN (below_allocN bel _) _) hb; replace kA : BoxB w.heap.size s1 f1 p1 q1 t1 _ := BoxB.keep (by first | exact kA | exact (kA.alloc _).alloc _) hb; replace kV : BoxV (w.heap.size + 1) f2 s2 p2 q2 _ := BoxV.keep (by first | exact kV | exact (kV.alloc _).alloc _) hb; obtain ⟨a0, a1, a2, a3, a4⟩ := kA.c; obtain ⟨v0, v1, v2, v3⟩ := kV.c; have la := kA.lt; have lv := kV.lt)
        | (go_at_call_of 10 (Value.slice (some ⟨g2, 0, none⟩) 22 cap2); refine (get_use _ l2 22 cap2 _ n2 hY2.came 0 0 0 0 0 f2 s2 p2 q2 true 0 G2).mono ?_; rintro e W4 ⟨rfl, hb⟩; replace bel := below_step (by first | exact bel | exact below_allocN (below_allocN bel _) _) hb; replace kA : BoxB w.heap.size s1 f1 p1 q1 t1 _ := BoxB.keep (by first | exact kA | exact (kA.alloc _).alloc _) hb; replace kV : BoxV (w.heap.size + 1) f2 s2 p2 q2 _ := BoxV.keep (by first | exact kV | exact (kV.alloc _).alloc _) hb; obtain ⟨a0, a1, a2, a3, a4⟩ := kA.c; obtain ⟨v0, v1, v2, v3⟩ := kV.c; have la := kA.lt; have lv := kV.lt)
        | (go_at_call_of 10 (Value.slice a n c); refine (get_use a l n c _ en (hc.keep (by first | exact bel | exact below_allocN (below_allocN bel _) _)) 0 0 0 0 0 F S P Q true 0 GX).mono ?_; rintro e W5 ⟨rfl, hb⟩; replace bel := below_step (by first | exact bel | exact below_allocN (below_allocN bel _) _) hb; replace kA : BoxB w.heap.size s1 f1 p1 q1 t1 _ := BoxB.keep (by first | exact kA | exact (kA.alloc _).alloc _) hb; replace kV : BoxV (w.heap.size + 1) f2 s2 p2 q2 _ := BoxV.keep (by first | exact kV | exact (kV.alloc _).alloc _) hb; obtain ⟨a0, a1, a2, a3, a4⟩ := kA.c; obtain ⟨v0, v1, v2, v3⟩ := kV.c; have la := kA.lt; have lv := kV.lt)
        | (go_at_call_of 11 (Value.int .i64 0); refine (block_bad 0 0 0 0 0 _ rfl).mono ?_; rintro e W6 ⟨rfl, hb⟩; replace bel := below_step (by first | exact bel | exact below_allocN (below_allocN bel _) _) hb; replace kA : BoxB w.heap.size s1 f1 p1 q1 t1 _ := BoxB.keep (by first | exact kA | exact (kA.alloc _).alloc _) hb; replace kV : BoxV (w.heap.size + 1) f2 s2 p2 q2 _ := BoxV.keep (by first | exact kV | exact (kV.alloc _).alloc _) hb; obtain ⟨a0, a1, a2, a3, a4⟩ := kA.c; obtain ⟨v0, v1, v2, v3⟩ := kV.c; have la := kA.lt; have lv := kV.lt; have kZ := BoxV.keep (BoxV.new (W5.alloc (.cells #[.int .i64 0, .int .i64 0, .int .u64 0, .int .u64 0, .int .u64 0] 28)) F S P Q (W5.heap.size + 1) (by simp)) hb; obtain ⟨z0, z1, z2, z3⟩ := kZ.c)
        | (go_at_call_of 13 (Value.int .i64 F); refine (vote_use F S P Q l _ mx ux uy HX).mono ?_; rintro e W7 ⟨g7, cap7, rfl, hY7, hb⟩; replace bel := below_step (by first | exact bel | exact below_allocN (below_allocN bel _) _) hb; replace kA : BoxB w.heap.size s1 f1 p1 q1 t1 _ := BoxB.keep (by first | exact kA | exact (kA.alloc _).alloc _) hb; replace kV : BoxV (w.heap.size + 1) f2 s2 p2 q2 _ := BoxV.keep (by first | exact kV | exact (kV.alloc _).alloc _) hb; obtain ⟨a0, a1, a2, a3, a4⟩ := kA.c; obtain ⟨v0, v1, v2, v3⟩ := kV.c; have la := kA.lt; have lv := kV.lt; have tx := came_text (hc.keep bel) n en npos; have ty := hY7.text 22 nb))
      go_ret
      exact ⟨by first | rfl | simp, bel⟩

set_option maxHeartbeats 2000000 in
theorem walk_long {w : World} (s1 f1 p1 q1 t1 f2 s2 p2 q2 : Int) (a : Option Addr) (n c : Nat) (h100 : decide ((n : Int) > 100) = true) :
    Calls Try.prog 5 #[.agg #[.int .i64 s1, .int .i64 f1, .int .u64 p1, .int .u64 q1, .int .u64 t1], .agg #[.int .i64 f2, .int .i64 s2, .int .u64 p2, .int .u64 q2], .slice a n c] w fun e w' => e = .returned (.bool true) ∧ Below w.heap.size w w' := by
  have bel : Below w.heap.size w ((w.alloc (.cells #[.int .i64 s1, .int .i64 f1, .int .u64 p1, .int .u64 q1, .int .u64 t1] 28)).alloc (.cells #[.int .i64 f2, .int .i64 s2, .int .u64 p2, .int .u64 q2] 30)) := below_allocN ((Below.refl _ _).alloc (Nat.le_refl _) _) _
  go_enter Try.func5, Try.ntmps5
  go_wp2_with (first
    | (go_at_call 9; refine (awake_any _).mono ?_; rintro e w1 ⟨rfl, hb⟩; replace bel := below_step bel hb))
  go_ret
  exact ⟨rfl, bel⟩

theorem walk {w : World} (b : Wr.B) (hb : IsU b.p ∧ IsU b.q ∧ IsU b.salt) (v : Wr.V) (hv : IsU v.p ∧ IsU v.q) (a : Option Addr) (l : List UInt8) (c n : Nat) (e : l.length = n) (m : n ≤ 9223372036854775807 ∧ (a = none → c = 0)) (hc : Came w a l c) :
    Calls Try.prog 5 #[b.val, v.val, .slice a n c] w fun e w' => e = .returned (.bool true) ∧ Below w.heap.size w w' := by
  obtain ⟨s1, f1, p1, q1, t1⟩ := b
  obtain ⟨f2, s2, p2, q2⟩ := v
  by_cases h : (n : Int) > 100
  · exact walk_long s1 f1 p1 q1 t1 f2 s2 p2 q2 a n c (decide_eq_true h)
  rcases three l with hg | ⟨S, F, P, Q, T, hg, hm, up, uq, ut, hl⟩ | ⟨F, S, P, Q, hg, hm, up, uq, hl⟩
  · exact walk_none s1 f1 p1 q1 t1 f2 s2 p2 q2 hb.1 hb.2.1 hb.2.2 hv.1 hv.2 a l c n e trivial (decide_eq_false h) hc (Lib.hid hg)
  · have h30 : l.length = 30 := by rw [← hl]; exact Wr.block_length _
    exact walk_block s1 f1 p1 q1 t1 f2 s2 p2 q2 hb.1 hb.2.1 hb.2.2 hv.1 hv.2 a l c n e (by omega) (decide_eq_false h) hc S F P Q T (Lib.hid hg) hm up uq ut (Lib.hid hl) h30
  · have h22 : l.length = 22 := by rw [← hl]; exact Wr.vote_length _
    exact walk_vote s1 f1 p1 q1 t1 f2 s2 p2 q2 hb.1 hb.2.1 hb.2.2 hv.1 hv.2 a l c n e (by omega) (decide_eq_false h) hc S F P Q (Lib.hid hg) hm up uq (Lib.hid hl) h22
end wireBack

end Go.Proofs.Ytpjkjcecbhfgoaa
