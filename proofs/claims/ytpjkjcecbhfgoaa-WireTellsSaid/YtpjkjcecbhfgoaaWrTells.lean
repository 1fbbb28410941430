/-
  WireTells: the walk.
-/
import Derived.Test.YtpjkjcecbhfgoaaWrRefs6
import Derived.Test.YtpjkjcecbhfgoaaWrBack
namespace Go.Proofs.Ytpjkjcecbhfgoaa
open Go.RowKit
set_option linter.unusedSimpArgs false
set_option linter.unusedVariables false

namespace wireTells

set_option maxHeartbeats 8000000 in
theorem walk_short {w : World} (s1 f1 p1 q1 t1 f2 s2 p2 q2 : Int) (u1p : IsU p1) (u1q : IsU q1) (u1t : IsU t1) (u2p : IsU p2) (u2q : IsU q2) (a : Option Addr) (l : List UInt8) (c n : Nat) (en : l.length = n) (h100 : decide ((n : Int) > 100) = false) (hc : Came w a l c) (BS BF BP BQ BT VF VS VP VQ : Int) (is : Bool) (er : Int)
    (GX : Hid (Wr.getS l = ⟨⟨BS, BF, BP, BQ, BT⟩, ⟨VF, VS, VP, VQ⟩, is, er⟩)) :
    Calls Try.prog 4 #[.agg #[.int .i64 s1, .int .i64 f1, .int .u64 p1, .int .u64 q1, .int .u64 t1], .agg #[.int .i64 f2, .int .i64 s2, .int .u64 p2, .int .u64 q2], .slice a n c] w fun e w' => e = .returned (.bool true) ∧ Below w.heap.size w w' := by
  have n1 := Wr.block_length ⟨s1, f1, p1, q1, t1⟩
  have n2 := Wr.vote_length ⟨f2, s2, p2, q2⟩
  obtain ⟨l1, hl1⟩ : ∃ l, Wr.blockB ⟨s1, f1, p1, q1, t1⟩ = l := ⟨_, rfl⟩
  obtain ⟨l2, hl2⟩ : ∃ l, Wr.voteB ⟨f2, s2, p2, q2⟩ = l := ⟨_, rfl⟩
  rw [hl1] at n1
  rw [hl2] at n2
  have HL1 := Lib.hid hl1
  have HL2 := Lib.hid hl2
  clear hl1 hl2
  have eqb := eqBB BS BF BP BQ BT
  have eqv := eqVV VF VS VP VQ
  have tn (v : World) := Lib.run_convert_nil_bytes (P := Try.prog) v 22 9 5 0 Try.underlying22 Try.underlying5 Try.underlying9
  have kA := (BoxB.new w s1 f1 p1 q1 t1 _ rfl).alloc (.cells #[.int .i64 f2, .int .i64 s2, .int .u64 p2, .int .u64 q2] 30)
  have kV := BoxV.new (w.alloc (.cells #[.int .i64 s1, .int .i64 f1, .int .u64 p1, .int .u64 q1, .int .u64 t1] 28)) f2 s2 p2 q2 (w.heap.size + 1) (by simp)
  have bel : Below w.heap.size w ((w.alloc (.cells #[.int .i64 s1, .int .i64 f1, .int .u64 p1, .int .u64 q1, .int .u64 t1] 28)).alloc (.cells #[.int .i64 f2, .int .i64 s2, .int .u64 p2, .int .u64 q2] 30)) := below_allocN ((Below.refl _ _).alloc (Nat.le_refl _) _) _
  cases m1 : Wr.madeB s1 f1
  all_goals
    cases m2 : Wr.madeB s2 f2
    all_goals
      go_enter Try.func4, Try.ntmps4
      go_wp2_with (first
        | (go_at_call 9; refine (awake_any _).mono ?_; rintro e W0 ⟨rfl, hb⟩; replace bel := below_step (by first | exact bel | exact below_allocN (below_allocN bel _) _) hb; replace kA : BoxB w.heap.size s1 f1 p1 q1 t1 _ := BoxB.keep (by first | exact kA | exact (kA.alloc _).alloc _) hb; replace kV : BoxV (w.heap.size + 1) f2 s2 p2 q2 _ := BoxV.keep (by first | exact kV | exact (kV.alloc _).alloc _) hb; obtain ⟨a0, a1, a2, a3, a4⟩ := kA.c; obtain ⟨v0, v1, v2, v3⟩ := kV.c; have la := kA.lt; have lv := kV.lt)
        | (go_at_call_of 11 (Value.int .i64 s1); refine (block_use s1 f1 p1 q1 t1 l1 _ m1 u1p u1q u1t HL1).mono ?_; rintro e W1 ⟨g1, cap1, rfl, hY1, hb⟩; replace bel := below_step (by first | exact bel | exact below_allocN (below_allocN bel _) _) hb; replace kA : BoxB w.heap.size s1 f1 p1 q1 t1 _ := BoxB.keep (by first | exact kA | exact (kA.alloc _).alloc _) hb; replace kV : BoxV (w.heap.size + 1) f2 s2 p2 q2 _ := BoxV.keep (by first | exact kV | exact (kV.alloc _).alloc _) hb; obtain ⟨a0, a1, a2, a3, a4⟩ := kA.c; obtain ⟨v0, v1, v2, v3⟩ := kV.c; have la := kA.lt; have lv := kV.lt)
        | (go_at_call_of 11 (Value.int .i64 s1); refine (block_bad s1 f1 p1 q1 t1 _ m1).mono ?_; rintro e W1 ⟨rfl, hb⟩; replace bel := below_step (by first | exact bel | exact below_allocN (below_allocN bel _) _) hb; replace kA : BoxB w.heap.size s1 f1 p1 q1 t1 _ := BoxB.keep (by first | exact kA | exact (kA.alloc _).alloc _) hb; replace kV : BoxV (w.heap.size + 1) f2 s2 p2 q2 _ := BoxV.keep (by first | exact kV | exact (kV.alloc _).alloc _) hb; obtain ⟨a0, a1, a2, a3, a4⟩ := kA.c; obtain ⟨v0, v1, v2, v3⟩ := kV.c; have la := kA.lt; have lv := kV.lt)
        | (go_at_call_of 12 (Value.int .i64 s1); refine (refblock_use s1 f1 p1 q1 t1 l1 _ m1 u1p u1q u1t HL1).mono ?_; rintro e W2 ⟨r1, dap1, rfl, hR1, hb⟩; (try replace hY1 := Bytes.keep (by first | exact hY1 | exact (hY1.alloc _).alloc _) hb); replace bel := below_step (by first | exact bel | exact below_allocN (below_allocN bel _) _) hb; replace kA : BoxB w.heap.size s1 f1 p1 q1 t1 _ := BoxB.keep (by first | exact kA | exact (kA.alloc _).alloc _) hb; replace kV : BoxV (w.heap.size + 1) f2 s2 p2 q2 _ := BoxV.keep (by first | exact kV | exact (kV.alloc _).alloc _) hb; obtain ⟨a0, a1, a2, a3, a4⟩ := kA.c; obtain ⟨v0, v1, v2, v3⟩ := kV.c; have la := kA.lt; have lv := kV.lt)
        | (go_at_call_of 12 (Value.int .i64 s1); refine (refblock_bad s1 f1 p1 q1 t1 _ m1).mono ?_; rintro e W2 ⟨rfl, hb⟩; replace bel := below_step (by first | exact bel | exact below_allocN (below_allocN bel _) _) hb; replace kA : BoxB w.heap.size s1 f1 p1 q1 t1 _ := BoxB.keep (by first | exact kA | exact (kA.alloc _).alloc _) hb; replace kV : BoxV (w.heap.size + 1) f2 s2 p2 q2 _ := BoxV.keep (by first | exact kV | exact (kV.alloc _).alloc _) hb; obtain ⟨a0, a1, a2, a3, a4⟩ := kA.c; obtain ⟨v0, v1, v2, v3⟩ := kV.c; have la := kA.lt; have lv := kV.lt)
        | (go_at_call_of 13 (Value.int .i64 f2); refine (vote_use f2 s2 p2 q2 l2 _ m2 u2p u2q HL2).mono ?_; rintro e W3 ⟨g2, cap2, rfl, hY2, hb⟩; (try replace hY1 := Bytes.keep (by first | exact hY1 | exact (hY1.alloc _).alloc _) hb); (try replace hR1 := Bytes.keep (by first | exact hR1 | exact (hR1.alloc _).alloc _) hb); replace bel := below_step (by first | exact bel | exact below_allocN (below_allocN bel _) _) hb; replace kA : BoxB w.heap.size s1 f1 p1 q1 t1 _ := BoxB.keep (by first | exact kA | exact (kA.alloc _).alloc _) hb; replace kV : BoxV (w.heap.size + 1) f2 s2 p2 q2 _ := BoxV.keep (by first | exact kV | exact (kV.alloc _).alloc _) hb; obtain ⟨a0, a1, a2, a3, a4⟩ := kA.c; obtain ⟨v0, v1, v2, v3⟩ := kV.c; have la := kA.lt; have lv := kV.lt)
        | (go_at_call_of 13 (Value.int .i64 f2); refine (vote_bad f2 s2 p2 q2 _ m2).mono ?_; rintro e W3 ⟨rfl, hb⟩; (try replace hY1 := Bytes.keep (by first | exact hY1 | exact (hY1.alloc _).alloc _) hb); (try replace hR1 := Bytes.keep (by first | exact hR1 | exact (hR1.alloc _).alloc _) hb); replace bel := below_step (by first | exact bel | exact below_allocN (below_allocN bel _) _) hb; replace kA : BoxB w.heap.size s1 f1 p1 q1 t1 _ := BoxB.keep (by first | exact kA | exact (kA.alloc _).alloc _) hb; replace kV : BoxV (w.heap.size + 1) f2 s2 p2 q2 _ := BoxV.keep (by first | exact kV | exact (kV.alloc _).alloc _) hb; obtain ⟨a0, a1, a2, a3, a4⟩ := kA.c; obtain ⟨v0, v1, v2, v3⟩ := kV.c; have la := kA.lt; have lv := kV.lt)
        | (go_at_call_of 14 (Value.int .i64 f2); refine (refvote_use f2 s2 p2 q2 l2 _ m2 u2p u2q HL2).mono ?_; rintro e W4 ⟨r2, dap2, rfl, hR2, hb⟩; (try replace hY1 := Bytes.keep (by first | exact hY1 | exact (hY1.alloc _).alloc _) hb); (try replace hR1 := Bytes.keep (by first | exact hR1 | exact (hR1.alloc _).alloc _) hb); (try replace hY2 := Bytes.keep (by first | exact hY2 | exact (hY2.alloc _).alloc _) hb); replace bel := below_step (by first | exact bel | exact below_allocN (below_allocN bel _) _) hb; replace kA : BoxB w.heap.size s1 f1 p1 q1 t1 _ := BoxB.keep (by first | exact kA | exact (kA.alloc _).alloc _) hb; replace kV : BoxV (w.heap.size + 1) f2 s2 p2 q2 _ := BoxV.keep (by first | exact kV | exact (kV.alloc _).alloc _) hb; obtain ⟨a0, a1, a2, a3, a4⟩ := kA.c; obtain ⟨v0, v1, v2, v3⟩ := kV.c; have la := kA.lt; have lv := kV.lt)
        | (go_at_call_of 14 (Value.int .i64 f2); refine (refvote_bad f2 s2 p2 q2 _ m2).mono ?_; rintro e W4 ⟨rfl, hb⟩; (try replace hY1 := Bytes.keep (by first | exact hY1 | exact (hY1.alloc _).alloc _) hb); (try replace hR1 := Bytes.keep (by first | exact hR1 | exact (hR1.alloc _).alloc _) hb); replace bel := below_step (by first | exact bel | exact below_allocN (below_allocN bel _) _) hb; replace kA : BoxB w.heap.size s1 f1 p1 q1 t1 _ := BoxB.keep (by first | exact kA | exact (kA.alloc _).alloc _) hb; replace kV : BoxV (w.heap.size + 1) f2 s2 p2 q2 _ := BoxV.keep (by first | exact kV | exact (kV.alloc _).alloc _) hb; obtain ⟨a0, a1, a2, a3, a4⟩ := kA.c; obtain ⟨v0, v1, v2, v3⟩ := kV.c; have la := kA.lt; have lv := kV.lt)
        | (go_at_call_of 10 (Value.slice a n c); refine (get_use a l n c _ en (hc.keep (by first | exact bel | exact below_allocN (below_allocN bel _) _)) BS BF BP BQ BT VF VS VP VQ is er GX).mono ?_; rintro e W5 ⟨rfl, hb⟩; (try replace hY1 := Bytes.keep (by first | exact hY1 | exact (hY1.alloc _).alloc _) hb); (try replace hR1 := Bytes.keep (by first | exact hR1 | exact (hR1.alloc _).alloc _) hb); (try replace hY2 := Bytes.keep (by first | exact hY2 | exact (hY2.alloc _).alloc _) hb); (try replace hR2 := Bytes.keep (by first | exact hR2 | exact (hR2.alloc _).alloc _) hb); replace bel := below_step (by first | exact bel | exact below_allocN (below_allocN bel _) _) hb; replace kA : BoxB w.heap.size s1 f1 p1 q1 t1 _ := BoxB.keep (by first | exact kA | exact (kA.alloc _).alloc _) hb; replace kV : BoxV (w.heap.size + 1) f2 s2 p2 q2 _ := BoxV.keep (by first | exact kV | exact (kV.alloc _).alloc _) hb; obtain ⟨a0, a1, a2, a3, a4⟩ := kA.c; obtain ⟨v0, v1, v2, v3⟩ := kV.c; have la := kA.lt; have lv := kV.lt)
        | (go_at_call_of 15 (Value.slice a n c); refine (refget_use a l n c _ en (hc.keep (by first | exact bel | exact below_allocN (below_allocN bel _) _)) BS BF BP BQ BT VF VS VP VQ is er GX).mono ?_; rintro e W6 ⟨rfl, hb⟩; (try replace hY1 := Bytes.keep (by first | exact hY1 | exact (hY1.alloc _).alloc _) hb); (try replace hR1 := Bytes.keep (by first | exact hR1 | exact (hR1.alloc _).alloc _) hb); (try replace hY2 := Bytes.keep (by first | exact hY2 | exact (hY2.alloc _).alloc _) hb); (try replace hR2 := Bytes.keep (by first | exact hR2 | exact (hR2.alloc _).alloc _) hb); replace bel := below_step (by first | exact bel | exact below_allocN (below_allocN bel _) _) hb; replace kA : BoxB w.heap.size s1 f1 p1 q1 t1 _ := BoxB.keep (by first | exact kA | exact (kA.alloc _).alloc _) hb; replace kV : BoxV (w.heap.size + 1) f2 s2 p2 q2 _ := BoxV.keep (by first | exact kV | exact (kV.alloc _).alloc _) hb; obtain ⟨a0, a1, a2, a3, a4⟩ := kA.c; obtain ⟨v0, v1, v2, v3⟩ := kV.c; have la := kA.lt; have lv := kV.lt; have kC := BoxB.keep ((BoxB.new W5 BS BF BP BQ BT W5.heap.size rfl).alloc (.cells #[.int .i64 VF, .int .i64 VS, .int .u64 VP, .int .u64 VQ] 30)) hb; have kD := BoxV.keep (BoxV.new (W5.alloc (.cells #[.int .i64 BS, .int .i64 BF, .int .u64 BP, .int .u64 BQ, .int .u64 BT] 28)) VF VS VP VQ (W5.heap.size + 1) (by simp)) hb; obtain ⟨c0, c1, c2, c3, c4⟩ := kC.c; obtain ⟨d0, d1, d2, d3⟩ := kD.c; have lc := kC.lt; have ld := kD.lt; (try have x1 := ((hY1.alloc (.cells #[.int .i64 BS, .int .i64 BF, .int .u64 BP, .int .u64 BQ, .int .u64 BT] 28)).alloc (.cells #[.int .i64 VF, .int .i64 VS, .int .u64 VP, .int .u64 VQ] 30)).text 30 n1); (try have x2 := ((hR1.alloc (.cells #[.int .i64 BS, .int .i64 BF, .int .u64 BP, .int .u64 BQ, .int .u64 BT] 28)).alloc (.cells #[.int .i64 VF, .int .i64 VS, .int .u64 VP, .int .u64 VQ] 30)).text 30 n1); (try have x3 := ((hY2.alloc (.cells #[.int .i64 BS, .int .i64 BF, .int .u64 BP, .int .u64 BQ, .int .u64 BT] 28)).alloc (.cells #[.int .i64 VF, .int .i64 VS, .int .u64 VP, .int .u64 VQ] 30)).text 22 n2); (try have x4 := ((hR2.alloc (.cells #[.int .i64 BS, .int .i64 BF, .int .u64 BP, .int .u64 BQ, .int .u64 BT] 28)).alloc (.cells #[.int .i64 VF, .int .i64 VS, .int .u64 VP, .int .u64 VQ] 30)).text 22 n2)))
      go_ret
      exact ⟨by first | rfl | simp, below_allocN (below_allocN bel _) _⟩

set_option maxHeartbeats 2000000 in
theorem walk_long {w : World} (s1 f1 p1 q1 t1 f2 s2 p2 q2 : Int) (a : Option Addr) (n c : Nat) (h100 : decide ((n : Int) > 100) = true) :
    Calls Try.prog 4 #[.agg #[.int .i64 s1, .int .i64 f1, .int .u64 p1, .int .u64 q1, .int .u64 t1], .agg #[.int .i64 f2, .int .i64 s2, .int .u64 p2, .int .u64 q2], .slice a n c] w fun e w' => e = .returned (.bool true) ∧ Below w.heap.size w w' := by
  have bel : Below w.heap.size w ((w.alloc (.cells #[.int .i64 s1, .int .i64 f1, .int .u64 p1, .int .u64 q1, .int .u64 t1] 28)).alloc (.cells #[.int .i64 f2, .int .i64 s2, .int .u64 p2, .int .u64 q2] 30)) := below_allocN ((Below.refl _ _).alloc (Nat.le_refl _) _) _
  go_enter Try.func4, Try.ntmps4
  go_wp2_with (first
    | (go_at_call 9; refine (awake_any _).mono ?_; rintro e w1 ⟨rfl, hb⟩; replace bel := below_step bel hb))
  go_ret
  exact ⟨rfl, bel⟩

theorem walk {w : World} (b : Wr.B) (hb : IsU b.p ∧ IsU b.q ∧ IsU b.salt) (v : Wr.V) (hv : IsU v.p ∧ IsU v.q) (a : Option Addr) (l : List UInt8) (c n : Nat) (e : l.length = n) (m : n ≤ 9223372036854775807 ∧ (a = none → c = 0)) (hc : Came w a l c) :
    Calls Try.prog 4 #[b.val, v.val, .slice a n c] w fun e w' => e = .returned (.bool true) ∧ Below w.heap.size w w' := by
  obtain ⟨s1, f1, p1, q1, t1⟩ := b
  obtain ⟨f2, s2, p2, q2⟩ := v
  by_cases h : (n : Int) > 100
  · exact walk_long s1 f1 p1 q1 t1 f2 s2 p2 q2 a n c (decide_eq_true h)
  obtain ⟨⟨⟨BS, BF, BP, BQ, BT⟩, ⟨VF, VS, VP, VQ⟩, is, er⟩, hg⟩ : ∃ g, Wr.getS l = g := ⟨_, rfl⟩
  exact walk_short s1 f1 p1 q1 t1 f2 s2 p2 q2 hb.1 hb.2.1 hb.2.2 hv.1 hv.2 a l c n e (decide_eq_false h) hc BS BF BP BQ BT VF VS VP VQ is er (Lib.hid hg)
end wireTells

end Go.Proofs.Ytpjkjcecbhfgoaa
