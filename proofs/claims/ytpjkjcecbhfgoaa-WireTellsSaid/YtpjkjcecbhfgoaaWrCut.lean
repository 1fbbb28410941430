/-
  WireCut: the walk.
-/
import Derived.Test.YtpjkjcecbhfgoaaWrApart
import Derived.Test.YtpjkjcecbhfgoaaOpen
namespace Go.Proofs.Ytpjkjcecbhfgoaa
open Go.RowKit
set_option linter.unusedSimpArgs false
set_option linter.unusedVariables false

/-- What Get answers where it is none. -/
def noneV : Value := .tuple #[.agg #[.int .i64 0, .int .i64 0, .int .u64 0, .int .u64 0, .int .u64 0], .agg #[.int .i64 0, .int .i64 0, .int .u64 0, .int .u64 0], .bool false, .int .i64 2]

set_option maxHeartbeats 1000000 in
/-- Get at a length that none has. -/
theorem get_len (a : Option Addr) (n c : Nat) (w : World) (h : n ≠ 22 ∧ n ≠ 30) :
    Calls Try.prog 10 #[.slice a n c] w fun e w' => e = .returned (.tuple #[.agg #[.int .i64 0, .int .i64 0, .int .u64 0, .int .u64 0, .int .u64 0], .agg #[.int .i64 0, .int .i64 0, .int .u64 0, .int .u64 0], .bool false, .int .i64 2]) ∧ Below w.heap.size w w' := by
  obtain ⟨h1, h2⟩ := h
  have b1 : ((n : Int) == 22) = false := by simp; omega
  have b2 : ((n : Int) == 30) = false := by simp; omega
  have b3 : ((n : Int) != 30) = true := by simp; omega
  clear h1 h2
  go_enter Try.func10, Try.ntmps10
  go_wp2
  go_region
  all_goals
    go_wp2
    refine bodyPost_ret (v := noneV) ?_ rfl ⟨rfl, (((Below.refl _ w).alloc (Nat.le_refl _) _).alloc (by simp) _).drew⟩
    simp [results, Try.results10, go_sem, noneV]

/-- Get of a block's bytes that are cut to a vote's length. -/
theorem get_cut (l : List UInt8) (g cap : Nat) (w : World) (h : Bytes w l g cap) (h0 : l[0]? = some 1) :
    Calls Try.prog 10 #[.slice (some ⟨g, 0, none⟩) 22 cap] w fun e w' => e = .returned (.tuple #[.agg #[.int .i64 0, .int .i64 0, .int .u64 0, .int .u64 0, .int .u64 0], .agg #[.int .i64 0, .int .i64 0, .int .u64 0, .int .u64 0], .bool false, .int .i64 2]) ∧ Below w.heap.size w w' :=
  get_not2 g 0 cap 1 w h.lt (h.byte 0 1 h0) rfl

/-- Behind both appends: one byte more, and that nothing old has turned. -/
theorem row_done8 {W w2 w3 : World} {l : List UInt8} {x : Value} {v2 v3 : Value} {n : Nat} (hn : l.length = n)
    (h2 : w2.ownsRow W.heap.size 5 1 v2 (0 + n) ([] ++ l.map encB)) (g2 : W.grownBy w2 (Value.slice none 0 0).ownBlock)
    (h3 : w3.ownsRow W.heap.size 5 1 v3 (0 + n + 1) (([] ++ l.map encB) ++ [x])) (g3 : (w2.alloc (.cells #[x] 5)).grownBy w3 v2.ownBlock) (m : Nat) (hm : n + 1 = m) :
    (∃ g cap, v3 = .slice (some ⟨g, 0, none⟩) m cap) ∧ Below W.heap.size W w3 := by
  refine ⟨?_, ?_⟩
  · rcases h3.2 with ⟨_, h0⟩ | ⟨g, cap, cur, hv, _⟩
    · omega
    · exact ⟨g, cap, by rw [hv, ← hm, Nat.zero_add]⟩
  · have k2 := (Below.refl W.heap.size W).grown g2 (Nat.le_refl _) (fun j e => by cases e)
    exact (k2.alloc k2.size _).grown g3 (by have := k2.size; simp; omega) (fun k hk => (h2.lt k hk).1)

theorem encs (l : List UInt8) (u : Value) (hu : u ∈ l.map encB) : u.oneCell' = true := by
  obtain ⟨z, _, rfl⟩ := List.mem_map.1 hu
  rfl
theorem cells_of {w : World} {l : List UInt8} {g cap : Nat} (h : Bytes w l g cap) (j : Nat) (u : Value) (hj : (l.map encB)[j]? = some u) : w.cell? ((⟨g, 0, none⟩ : Addr).add j) = some u := by
  have hjl : j < l.length := by
    have := (List.getElem?_eq_some_iff.1 hj).1
    simpa using this
  have e : (⟨g, 0, none⟩ : Addr).add j = ⟨g, j, none⟩ := by unfold Addr.add; simp <;> intro h <;> exact h.symm
  rw [e, h.at_ j hjl]
  rw [List.getElem?_map, List.getElem?_eq_getElem hjl] at hj
  simpa [encB] using hj

theorem get_cut1 (l : List UInt8) (g k cap : Nat) (w : World) (h : Bytes w l g cap) (h0 : l[0]? = some 1) (hk : k < 30) :
    Calls Try.prog 10 #[.slice (some ⟨g, 0, none⟩) k cap] w fun e w' => e = .returned (.tuple #[.agg #[.int .i64 0, .int .i64 0, .int .u64 0, .int .u64 0, .int .u64 0], .agg #[.int .i64 0, .int .i64 0, .int .u64 0, .int .u64 0], .bool false, .int .i64 2]) ∧ Below w.heap.size w w' := by
  by_cases h22 : k = 22
  · subst h22
    exact get_cut l g cap w h h0
  · exact get_len _ k cap w ⟨h22, by omega⟩

namespace wireCut

set_option maxHeartbeats 8000000 in
theorem walk_bad1 {w : World} (s1 f1 p1 q1 t1 f2 s2 p2 q2 : Int) (u1p : IsU p1) (u1q : IsU q1) (u1t : IsU t1) (u2p : IsU p2) (u2q : IsU q2) (m1 : Wr.madeB s1 f1 = false) (m2 : Wr.madeB s2 f2 = true) (x : Int) :
    Calls Try.prog 6 #[.agg #[.int .i64 s1, .int .i64 f1, .int .u64 p1, .int .u64 q1, .int .u64 t1], .agg #[.int .i64 f2, .int .i64 s2, .int .u64 p2, .int .u64 q2], .int .i64 x] w fun e w' => e = .returned (.bool true) ∧ Below w.heap.size w w' := by
  have n1 := Wr.block_length ⟨s1, f1, p1, q1, t1⟩
  have n2 := Wr.vote_length ⟨f2, s2, p2, q2⟩
  obtain ⟨l1, hl1⟩ : ∃ l, Wr.blockB ⟨s1, f1, p1, q1, t1⟩ = l := ⟨_, rfl⟩
  obtain ⟨l2, hl2⟩ : ∃ l, Wr.voteB ⟨f2, s2, p2, q2⟩ = l := ⟨_, rfl⟩
  rw [hl1] at n1
  rw [hl2] at n2
  have HL1 := Lib.hid hl1
  have HL2 := Lib.hid hl2
  clear hl1 hl2
  have lf := block_first _ l1 HL1
  obtain ⟨i0, hi, hz0, hz1, hz2⟩ := info_parts info8
  have hne : (l1 == l2) = false := by
    rw [Bool.eq_false_iff]
    intro h
    have h2 : l1 = l2 := by simpa using h
    rw [h2] at n1
    omega
  have kA := (BoxB.new w s1 f1 p1 q1 t1 _ rfl).alloc (.cells #[.int .i64 f2, .int .i64 s2, .int .u64 p2, .int .u64 q2] 30)
  have kV := BoxV.new (w.alloc (.cells #[.int .i64 s1, .int .i64 f1, .int .u64 p1, .int .u64 q1, .int .u64 t1] 28)) f2 s2 p2 q2 (w.heap.size + 1) (by simp)
  have bel : Below w.heap.size w ((w.alloc (.cells #[.int .i64 s1, .int .i64 f1, .int .u64 p1, .int .u64 q1, .int .u64 t1] 28)).alloc (.cells #[.int .i64 f2, .int .i64 s2, .int .u64 p2, .int .u64 q2] 30)) := below_allocN ((Below.refl _ _).alloc (Nat.le_refl _) _) _
  go_enter Try.func6, Try.ntmps6
  go_wp2_with (first
    | (go_at_call 9; refine (awake_any _).mono ?_; rintro e W0 ⟨rfl, hb⟩; replace bel := below_step bel hb; replace kA := kA.keep hb; replace kV := kV.keep hb; clear hb; obtain ⟨a0, a1, a2, a3, a4⟩ := kA.c; obtain ⟨v0, v1, v2_, v3_⟩ := kV.c)
    | (go_at_call 11; refine (block_use s1 f1 p1 q1 t1 l1 _ m1 u1p u1q u1t HL1).mono ?_; rintro e W1 ⟨g1, cap1, rfl, hY1, hb⟩; replace bel := below_step bel hb; replace kA := kA.keep hb; replace kV := kV.keep hb; clear hb; obtain ⟨a0, a1, a2, a3, a4⟩ := kA.c; obtain ⟨v0, v1, v2_, v3_⟩ := kV.c)
    | (go_at_call 11; refine (block_bad s1 f1 p1 q1 t1 _ m1).mono ?_; rintro e W1 ⟨rfl, hb⟩; replace bel := below_step bel hb; replace kA := kA.keep hb; replace kV := kV.keep hb; clear hb; obtain ⟨a0, a1, a2, a3, a4⟩ := kA.c; obtain ⟨v0, v1, v2_, v3_⟩ := kV.c)
    | (go_at_call 13; refine (vote_use f2 s2 p2 q2 l2 _ m2 u2p u2q HL2).mono ?_; rintro e W3 ⟨g2, cap2, rfl, hY2, hb⟩; replace bel := below_step bel hb; replace kA := kA.keep hb; replace kV := kV.keep hb; (try replace hY1 := hY1.keep hb; have hc1 : 30 ≤ cap1 := n1 ▸ hY1.len); have hc2 : 22 ≤ cap2 := n2 ▸ hY2.len; (try have hk1 : (k : Int) ≤ cap1 ∨ 30 ≤ (k : Int) := by omega); clear hb; obtain ⟨a0, a1, a2, a3, a4⟩ := kA.c; obtain ⟨v0, v1, v2_, v3_⟩ := kV.c)
    | (go_at_call 13; refine (vote_bad f2 s2 p2 q2 _ m2).mono ?_; rintro e W3 ⟨rfl, hb⟩; replace bel := below_step bel hb; replace kA := kA.keep hb; replace kV := kV.keep hb; clear hb; obtain ⟨a0, a1, a2, a3, a4⟩ := kA.c; obtain ⟨v0, v1, v2_, v3_⟩ := kV.c))
  go_ret
  exact ⟨rfl, bel⟩

set_option maxHeartbeats 8000000 in
theorem walk_bad2 {w : World} (s1 f1 p1 q1 t1 f2 s2 p2 q2 : Int) (u1p : IsU p1) (u1q : IsU q1) (u1t : IsU t1) (u2p : IsU p2) (u2q : IsU q2) (m2 : Wr.madeB s2 f2 = false) (m1 : Wr.madeB s1 f1 = true) (x : Int) :
    Calls Try.prog 6 #[.agg #[.int .i64 s1, .int .i64 f1, .int .u64 p1, .int .u64 q1, .int .u64 t1], .agg #[.int .i64 f2, .int .i64 s2, .int .u64 p2, .int .u64 q2], .int .i64 x] w fun e w' => e = .returned (.bool true) ∧ Below w.heap.size w w' := by
  have n1 := Wr.block_length ⟨s1, f1, p1, q1, t1⟩
  have n2 := Wr.vote_length ⟨f2, s2, p2, q2⟩
  obtain ⟨l1, hl1⟩ : ∃ l, Wr.blockB ⟨s1, f1, p1, q1, t1⟩ = l := ⟨_, rfl⟩
  obtain ⟨l2, hl2⟩ : ∃ l, Wr.voteB ⟨f2, s2, p2, q2⟩ = l := ⟨_, rfl⟩
  rw [hl1] at n1
  rw [hl2] at n2
  have HL1 := Lib.hid hl1
  have HL2 := Lib.hid hl2
  clear hl1 hl2
  have lf := block_first _ l1 HL1
  obtain ⟨i0, hi, hz0, hz1, hz2⟩ := info_parts info8
  have hne : (l1 == l2) = false := by
    rw [Bool.eq_false_iff]
    intro h
    have h2 : l1 = l2 := by simpa using h
    rw [h2] at n1
    omega
  have kA := (BoxB.new w s1 f1 p1 q1 t1 _ rfl).alloc (.cells #[.int .i64 f2, .int .i64 s2, .int .u64 p2, .int .u64 q2] 30)
  have kV := BoxV.new (w.alloc (.cells #[.int .i64 s1, .int .i64 f1, .int .u64 p1, .int .u64 q1, .int .u64 t1] 28)) f2 s2 p2 q2 (w.heap.size + 1) (by simp)
  have bel : Below w.heap.size w ((w.alloc (.cells #[.int .i64 s1, .int .i64 f1, .int .u64 p1, .int .u64 q1, .int .u64 t1] 28)).alloc (.cells #[.int .i64 f2, .int .i64 s2, .int .u64 p2, .int .u64 q2] 30)) := below_allocN ((Below.refl _ _).alloc (Nat.le_refl _) _) _
  go_enter Try.func6, Try.ntmps6
  go_wp2_with (first
    | (go_at_call 9; refine (awake_any _).mono ?_; rintro e W0 ⟨rfl, hb⟩; replace bel := below_step bel hb; replace kA := kA.keep hb; replace kV := kV.keep hb; clear hb; obtain ⟨a0, a1, a2, a3, a4⟩ := kA.c; obtain ⟨v0, v1, v2_, v3_⟩ := kV.c)
    | (go_at_call 11; refine (block_use s1 f1 p1 q1 t1 l1 _ m1 u1p u1q u1t HL1).mono ?_; rintro e W1 ⟨g1, cap1, rfl, hY1, hb⟩; replace bel := below_step bel hb; replace kA := kA.keep hb; replace kV := kV.keep hb; clear hb; obtain ⟨a0, a1, a2, a3, a4⟩ := kA.c; obtain ⟨v0, v1, v2_, v3_⟩ := kV.c)
    | (go_at_call 11; refine (block_bad s1 f1 p1 q1 t1 _ m1).mono ?_; rintro e W1 ⟨rfl, hb⟩; replace bel := below_step bel hb; replace kA := kA.keep hb; replace kV := kV.keep hb; clear hb; obtain ⟨a0, a1, a2, a3, a4⟩ := kA.c; obtain ⟨v0, v1, v2_, v3_⟩ := kV.c)
    | (go_at_call 13; refine (vote_use f2 s2 p2 q2 l2 _ m2 u2p u2q HL2).mono ?_; rintro e W3 ⟨g2, cap2, rfl, hY2, hb⟩; replace bel := below_step bel hb; replace kA := kA.keep hb; replace kV := kV.keep hb; (try replace hY1 := hY1.keep hb; have hc1 : 30 ≤ cap1 := n1 ▸ hY1.len); have hc2 : 22 ≤ cap2 := n2 ▸ hY2.len; (try have hk1 : (k : Int) ≤ cap1 ∨ 30 ≤ (k : Int) := by omega); clear hb; obtain ⟨a0, a1, a2, a3, a4⟩ := kA.c; obtain ⟨v0, v1, v2_, v3_⟩ := kV.c)
    | (go_at_call 13; refine (vote_bad f2 s2 p2 q2 _ m2).mono ?_; rintro e W3 ⟨rfl, hb⟩; replace bel := below_step bel hb; replace kA := kA.keep hb; replace kV := kV.keep hb; clear hb; obtain ⟨a0, a1, a2, a3, a4⟩ := kA.c; obtain ⟨v0, v1, v2_, v3_⟩ := kV.c))
  go_ret
  exact ⟨rfl, bel⟩

set_option maxHeartbeats 8000000 in
theorem walk_bad3 {w : World} (s1 f1 p1 q1 t1 f2 s2 p2 q2 : Int) (u1p : IsU p1) (u1q : IsU q1) (u1t : IsU t1) (u2p : IsU p2) (u2q : IsU q2) (m2 : Wr.madeB s2 f2 = false) (m1 : Wr.madeB s1 f1 = false) (x : Int) :
    Calls Try.prog 6 #[.agg #[.int .i64 s1, .int .i64 f1, .int .u64 p1, .int .u64 q1, .int .u64 t1], .agg #[.int .i64 f2, .int .i64 s2, .int .u64 p2, .int .u64 q2], .int .i64 x] w fun e w' => e = .returned (.bool true) ∧ Below w.heap.size w w' := by
  have n1 := Wr.block_length ⟨s1, f1, p1, q1, t1⟩
  have n2 := Wr.vote_length ⟨f2, s2, p2, q2⟩
  obtain ⟨l1, hl1⟩ : ∃ l, Wr.blockB ⟨s1, f1, p1, q1, t1⟩ = l := ⟨_, rfl⟩
  obtain ⟨l2, hl2⟩ : ∃ l, Wr.voteB ⟨f2, s2, p2, q2⟩ = l := ⟨_, rfl⟩
  rw [hl1] at n1
  rw [hl2] at n2
  have HL1 := Lib.hid hl1
  have HL2 := Lib.hid hl2
  clear hl1 hl2
  have lf := block_first _ l1 HL1
  obtain ⟨i0, hi, hz0, hz1, hz2⟩ := info_parts info8
  have hne : (l1 == l2) = false := by
    rw [Bool.eq_false_iff]
    intro h
    have h2 : l1 = l2 := by simpa using h
    rw [h2] at n1
    omega
  have kA := (BoxB.new w s1 f1 p1 q1 t1 _ rfl).alloc (.cells #[.int .i64 f2, .int .i64 s2, .int .u64 p2, .int .u64 q2] 30)
  have kV := BoxV.new (w.alloc (.cells #[.int .i64 s1, .int .i64 f1, .int .u64 p1, .int .u64 q1, .int .u64 t1] 28)) f2 s2 p2 q2 (w.heap.size + 1) (by simp)
  have bel : Below w.heap.size w ((w.alloc (.cells #[.int .i64 s1, .int .i64 f1, .int .u64 p1, .int .u64 q1, .int .u64 t1] 28)).alloc (.cells #[.int .i64 f2, .int .i64 s2, .int .u64 p2, .int .u64 q2] 30)) := below_allocN ((Below.refl _ _).alloc (Nat.le_refl _) _) _
  go_enter Try.func6, Try.ntmps6
  go_wp2_with (first
    | (go_at_call 9; refine (awake_any _).mono ?_; rintro e W0 ⟨rfl, hb⟩; replace bel := below_step bel hb; replace kA := kA.keep hb; replace kV := kV.keep hb; clear hb; obtain ⟨a0, a1, a2, a3, a4⟩ := kA.c; obtain ⟨v0, v1, v2_, v3_⟩ := kV.c)
    | (go_at_call 11; refine (block_use s1 f1 p1 q1 t1 l1 _ m1 u1p u1q u1t HL1).mono ?_; rintro e W1 ⟨g1, cap1, rfl, hY1, hb⟩; replace bel := below_step bel hb; replace kA := kA.keep hb; replace kV := kV.keep hb; clear hb; obtain ⟨a0, a1, a2, a3, a4⟩ := kA.c; obtain ⟨v0, v1, v2_, v3_⟩ := kV.c)
    | (go_at_call 11; refine (block_bad s1 f1 p1 q1 t1 _ m1).mono ?_; rintro e W1 ⟨rfl, hb⟩; replace bel := below_step bel hb; replace kA := kA.keep hb; replace kV := kV.keep hb; clear hb; obtain ⟨a0, a1, a2, a3, a4⟩ := kA.c; obtain ⟨v0, v1, v2_, v3_⟩ := kV.c)
    | (go_at_call 13; refine (vote_use f2 s2 p2 q2 l2 _ m2 u2p u2q HL2).mono ?_; rintro e W3 ⟨g2, cap2, rfl, hY2, hb⟩; replace bel := below_step bel hb; replace kA := kA.keep hb; replace kV := kV.keep hb; (try replace hY1 := hY1.keep hb; have hc1 : 30 ≤ cap1 := n1 ▸ hY1.len); have hc2 : 22 ≤ cap2 := n2 ▸ hY2.len; (try have hk1 : (k : Int) ≤ cap1 ∨ 30 ≤ (k : Int) := by omega); clear hb; obtain ⟨a0, a1, a2, a3, a4⟩ := kA.c; obtain ⟨v0, v1, v2_, v3_⟩ := kV.c)
    | (go_at_call 13; refine (vote_bad f2 s2 p2 q2 _ m2).mono ?_; rintro e W3 ⟨rfl, hb⟩; replace bel := below_step bel hb; replace kA := kA.keep hb; replace kV := kV.keep hb; clear hb; obtain ⟨a0, a1, a2, a3, a4⟩ := kA.c; obtain ⟨v0, v1, v2_, v3_⟩ := kV.c))
  go_ret
  exact ⟨rfl, bel⟩

set_option maxHeartbeats 8000000 in
theorem walk_neg {w : World} (s1 f1 p1 q1 t1 f2 s2 p2 q2 : Int) (u1p : IsU p1) (u1q : IsU q1) (u1t : IsU t1) (u2p : IsU p2) (u2q : IsU q2) (m1 : Wr.madeB s1 f1 = true) (m2 : Wr.madeB s2 f2 = true) (x : Int) (hx : decide (x < 0) = true) :
    Calls Try.prog 6 #[.agg #[.int .i64 s1, .int .i64 f1, .int .u64 p1, .int .u64 q1, .int .u64 t1], .agg #[.int .i64 f2, .int .i64 s2, .int .u64 p2, .int .u64 q2], .int .i64 x] w fun e w' => e = .returned (.bool true) ∧ Below w.heap.size w w' := by
  have n1 := Wr.block_length ⟨s1, f1, p1, q1, t1⟩
  have n2 := Wr.vote_length ⟨f2, s2, p2, q2⟩
  obtain ⟨l1, hl1⟩ : ∃ l, Wr.blockB ⟨s1, f1, p1, q1, t1⟩ = l := ⟨_, rfl⟩
  obtain ⟨l2, hl2⟩ : ∃ l, Wr.voteB ⟨f2, s2, p2, q2⟩ = l := ⟨_, rfl⟩
  rw [hl1] at n1
  rw [hl2] at n2
  have HL1 := Lib.hid hl1
  have HL2 := Lib.hid hl2
  clear hl1 hl2
  have lf := block_first _ l1 HL1
  obtain ⟨i0, hi, hz0, hz1, hz2⟩ := info_parts info8
  have hne : (l1 == l2) = false := by
    rw [Bool.eq_false_iff]
    intro h
    have h2 : l1 = l2 := by simpa using h
    rw [h2] at n1
    omega
  have kA := (BoxB.new w s1 f1 p1 q1 t1 _ rfl).alloc (.cells #[.int .i64 f2, .int .i64 s2, .int .u64 p2, .int .u64 q2] 30)
  have kV := BoxV.new (w.alloc (.cells #[.int .i64 s1, .int .i64 f1, .int .u64 p1, .int .u64 q1, .int .u64 t1] 28)) f2 s2 p2 q2 (w.heap.size + 1) (by simp)
  have bel : Below w.heap.size w ((w.alloc (.cells #[.int .i64 s1, .int .i64 f1, .int .u64 p1, .int .u64 q1, .int .u64 t1] 28)).alloc (.cells #[.int .i64 f2, .int .i64 s2, .int .u64 p2, .int .u64 q2] 30)) := below_allocN ((Below.refl _ _).alloc (Nat.le_refl _) _) _
  go_enter Try.func6, Try.ntmps6
  go_wp2_with (first
    | (go_at_call 9; refine (awake_any _).mono ?_; rintro e W0 ⟨rfl, hb⟩; replace bel := below_step bel hb; replace kA := kA.keep hb; replace kV := kV.keep hb; clear hb; obtain ⟨a0, a1, a2, a3, a4⟩ := kA.c; obtain ⟨v0, v1, v2_, v3_⟩ := kV.c)
    | (go_at_call 11; refine (block_use s1 f1 p1 q1 t1 l1 _ m1 u1p u1q u1t HL1).mono ?_; rintro e W1 ⟨g1, cap1, rfl, hY1, hb⟩; replace bel := below_step bel hb; replace kA := kA.keep hb; replace kV := kV.keep hb; clear hb; obtain ⟨a0, a1, a2, a3, a4⟩ := kA.c; obtain ⟨v0, v1, v2_, v3_⟩ := kV.c)
    | (go_at_call 11; refine (block_bad s1 f1 p1 q1 t1 _ m1).mono ?_; rintro e W1 ⟨rfl, hb⟩; replace bel := below_step bel hb; replace kA := kA.keep hb; replace kV := kV.keep hb; clear hb; obtain ⟨a0, a1, a2, a3, a4⟩ := kA.c; obtain ⟨v0, v1, v2_, v3_⟩ := kV.c)
    | (go_at_call 13; refine (vote_use f2 s2 p2 q2 l2 _ m2 u2p u2q HL2).mono ?_; rintro e W3 ⟨g2, cap2, rfl, hY2, hb⟩; replace bel := below_step bel hb; replace kA := kA.keep hb; replace kV := kV.keep hb; (try replace hY1 := hY1.keep hb; have hc1 : 30 ≤ cap1 := n1 ▸ hY1.len); have hc2 : 22 ≤ cap2 := n2 ▸ hY2.len; (try have hk1 : (k : Int) ≤ cap1 ∨ 30 ≤ (k : Int) := by omega); clear hb; obtain ⟨a0, a1, a2, a3, a4⟩ := kA.c; obtain ⟨v0, v1, v2_, v3_⟩ := kV.c)
    | (go_at_call 13; refine (vote_bad f2 s2 p2 q2 _ m2).mono ?_; rintro e W3 ⟨rfl, hb⟩; replace bel := below_step bel hb; replace kA := kA.keep hb; replace kV := kV.keep hb; clear hb; obtain ⟨a0, a1, a2, a3, a4⟩ := kA.c; obtain ⟨v0, v1, v2_, v3_⟩ := kV.c))
  go_ret
  exact ⟨rfl, bel⟩

set_option maxHeartbeats 8000000 in
theorem walk_a {w : World} (s1 f1 p1 q1 t1 f2 s2 p2 q2 : Int) (u1p : IsU p1) (u1q : IsU q1) (u1t : IsU t1) (u2p : IsU p2) (u2q : IsU q2) (m1 : Wr.madeB s1 f1 = true) (m2 : Wr.madeB s2 f2 = true) (k : Nat) (hx : decide ((k : Int) < 0) = false) (hk0 : (0 : Int) ≤ k) (hk : k < 30) (hk2 : k ≠ 22 ∧ k ≠ 30) (d1 : decide ((k : Int) < 30) = true) (d2 : decide (22 ≤ (k : Int)) = false) (hk3 : k < 22) :
    Calls Try.prog 6 #[.agg #[.int .i64 s1, .int .i64 f1, .int .u64 p1, .int .u64 q1, .int .u64 t1], .agg #[.int .i64 f2, .int .i64 s2, .int .u64 p2, .int .u64 q2], .int .i64 k] w fun e w' => e = .returned (.bool true) ∧ Below w.heap.size w w' := by
  have n1 := Wr.block_length ⟨s1, f1, p1, q1, t1⟩
  have n2 := Wr.vote_length ⟨f2, s2, p2, q2⟩
  obtain ⟨l1, hl1⟩ : ∃ l, Wr.blockB ⟨s1, f1, p1, q1, t1⟩ = l := ⟨_, rfl⟩
  obtain ⟨l2, hl2⟩ : ∃ l, Wr.voteB ⟨f2, s2, p2, q2⟩ = l := ⟨_, rfl⟩
  rw [hl1] at n1
  rw [hl2] at n2
  have HL1 := Lib.hid hl1
  have HL2 := Lib.hid hl2
  clear hl1 hl2
  have lf := block_first _ l1 HL1
  obtain ⟨i0, hi, hz0, hz1, hz2⟩ := info_parts info8
  have hne : (l1 == l2) = false := by
    rw [Bool.eq_false_iff]
    intro h
    have h2 : l1 = l2 := by simpa using h
    rw [h2] at n1
    omega
  have kA := (BoxB.new w s1 f1 p1 q1 t1 _ rfl).alloc (.cells #[.int .i64 f2, .int .i64 s2, .int .u64 p2, .int .u64 q2] 30)
  have kV := BoxV.new (w.alloc (.cells #[.int .i64 s1, .int .i64 f1, .int .u64 p1, .int .u64 q1, .int .u64 t1] 28)) f2 s2 p2 q2 (w.heap.size + 1) (by simp)
  have bel : Below w.heap.size w ((w.alloc (.cells #[.int .i64 s1, .int .i64 f1, .int .u64 p1, .int .u64 q1, .int .u64 t1] 28)).alloc (.cells #[.int .i64 f2, .int .i64 s2, .int .u64 p2, .int .u64 q2] 30)) := below_allocN ((Below.refl _ _).alloc (Nat.le_refl _) _) _
  go_enter Try.func6, Try.ntmps6
  go_wp2_with (first
    | (go_at_call 9; refine (awake_any _).mono ?_; rintro e W0 ⟨rfl, hb⟩; replace bel := below_step bel hb; replace kA := kA.keep hb; replace kV := kV.keep hb; clear hb; obtain ⟨a0, a1, a2, a3, a4⟩ := kA.c; obtain ⟨v0, v1, v2_, v3_⟩ := kV.c)
    | (go_at_call 11; refine (block_use s1 f1 p1 q1 t1 l1 _ m1 u1p u1q u1t HL1).mono ?_; rintro e W1 ⟨g1, cap1, rfl, hY1, hb⟩; replace bel := below_step bel hb; replace kA := kA.keep hb; replace kV := kV.keep hb; clear hb; obtain ⟨a0, a1, a2, a3, a4⟩ := kA.c; obtain ⟨v0, v1, v2_, v3_⟩ := kV.c)
    | (go_at_call 11; refine (block_bad s1 f1 p1 q1 t1 _ m1).mono ?_; rintro e W1 ⟨rfl, hb⟩; replace bel := below_step bel hb; replace kA := kA.keep hb; replace kV := kV.keep hb; clear hb; obtain ⟨a0, a1, a2, a3, a4⟩ := kA.c; obtain ⟨v0, v1, v2_, v3_⟩ := kV.c)
    | (go_at_call 13; refine (vote_use f2 s2 p2 q2 l2 _ m2 u2p u2q HL2).mono ?_; rintro e W3 ⟨g2, cap2, rfl, hY2, hb⟩; replace bel := below_step bel hb; replace kA := kA.keep hb; replace kV := kV.keep hb; (try replace hY1 := hY1.keep hb; have hc1 : 30 ≤ cap1 := n1 ▸ hY1.len); have hc2 : 22 ≤ cap2 := n2 ▸ hY2.len; (try have hk1 : (k : Int) ≤ cap1 ∨ 30 ≤ (k : Int) := by omega); clear hb; obtain ⟨a0, a1, a2, a3, a4⟩ := kA.c; obtain ⟨v0, v1, v2_, v3_⟩ := kV.c)
    | (go_at_call 13; refine (vote_bad f2 s2 p2 q2 _ m2).mono ?_; rintro e W3 ⟨rfl, hb⟩; replace bel := below_step bel hb; replace kA := kA.keep hb; replace kV := kV.keep hb; clear hb; obtain ⟨a0, a1, a2, a3, a4⟩ := kA.c; obtain ⟨v0, v1, v2_, v3_⟩ := kV.c)
    | (at_builtin; refine wpList_append_own _ rfl (.const (.slice none 0 0)) (.tmp 55) 22 rfl (W3).heap.size 5 i0 (.int .u8 0) 1 1 Try.underlying22 hi hz0 hz1 hz2 rfl (by decide) _ _ _ rfl (World.ownsRow_nil _ _ _ _) ⟨g1, 0, none⟩ 30 cap1 (l1.map encB) rfl (by simp [n1]) (cells_of hY1) (encs l1) (by unfold maxLen; omega) (by omega) (Nat.le_refl _) ?_; intro v2 w2 hown2 hg2 _; have hs2 := hg2.size)
    | (at_builtin; refine wpList_append_own _ rfl (.tmp 56) (.tmp 57) 22 rfl (W3).heap.size 5 i0 (.int .u8 0) 1 1 Try.underlying22 hi hz0 hz1 hz2 rfl (by decide) _ _ _ rfl (hown2.alloc _) ⟨w2.heap.size, 0, none⟩ 1 1 [.int .u8 0] rfl rfl (one_byte w2 _ _ _ rfl) (by simp [Value.oneCell']) (by unfold maxLen; omega) (by omega) (by have h := hs2; simp at h ⊢; omega) ?_; intro v3 w3 hown3 hg3 _; obtain ⟨⟨g5, cap5, rfl⟩, hk5⟩ := row_done8 n1 hown2 hg2 hown3 hg3 31 rfl; clear hown2 hg2 hown3 hg3 hs2)
    | (go_at_call_of 10 (Value.slice (some ⟨g5, 0, none⟩) 31 cap5); refine (get_len _ 31 cap5 _ (by decide)).mono ?_; rintro e W4 ⟨rfl, hb⟩; have belC := below_step hk5 hb; clear hb; have belD := below_allocN (below_allocN belC (.cells #[.int .i64 0, .int .i64 0, .int .u64 0, .int .u64 0, .int .u64 0] 28)) (.cells #[.int .i64 0, .int .i64 0, .int .u64 0, .int .u64 0] 30))
    | (at_builtin; refine wpList_append_own _ rfl (.const (.slice none 0 0)) (.tmp 65) 22 rfl (((W4.alloc (.cells #[.int .i64 0, .int .i64 0, .int .u64 0, .int .u64 0, .int .u64 0] 28)).alloc (.cells #[.int .i64 0, .int .i64 0, .int .u64 0, .int .u64 0] 30))).heap.size 5 i0 (.int .u8 0) 1 1 Try.underlying22 hi hz0 hz1 hz2 rfl (by decide) _ _ _ rfl (World.ownsRow_nil _ _ _ _) ⟨g2, 0, none⟩ 22 cap2 (l2.map encB) rfl (by simp [n2]) (cells_of (hY2.keep belD)) (encs l2) (by unfold maxLen; omega) (by omega) (Nat.le_refl _) ?_; intro v2 w2 hown2 hg2 _; have hs2 := hg2.size)
    | (at_builtin; refine wpList_append_own _ rfl (.tmp 66) (.tmp 67) 22 rfl (((W4.alloc (.cells #[.int .i64 0, .int .i64 0, .int .u64 0, .int .u64 0, .int .u64 0] 28)).alloc (.cells #[.int .i64 0, .int .i64 0, .int .u64 0, .int .u64 0] 30))).heap.size 5 i0 (.int .u8 0) 1 1 Try.underlying22 hi hz0 hz1 hz2 rfl (by decide) _ _ _ rfl (hown2.alloc _) ⟨w2.heap.size, 0, none⟩ 1 1 [.int .u8 0] rfl rfl (one_byte w2 _ _ _ rfl) (by simp [Value.oneCell']) (by unfold maxLen; omega) (by omega) (by have h := hs2; simp at h ⊢; omega) ?_; intro v3 w3 hown3 hg3 _; obtain ⟨⟨g6, cap6, rfl⟩, hk6⟩ := row_done8 n2 hown2 hg2 hown3 hg3 23 rfl; clear hown2 hg2 hown3 hg3 hs2)
    | (go_at_call_of 10 (Value.slice (some ⟨g6, 0, none⟩) 23 cap6); refine (get_len _ 23 cap6 _ (by decide)).mono ?_; rintro e W5 ⟨rfl, hb⟩; have belE := below_allocN (below_allocN (below_step (below_step belD hk6) hb) (.cells #[.int .i64 0, .int .i64 0, .int .u64 0, .int .u64 0, .int .u64 0] 28)) (.cells #[.int .i64 0, .int .i64 0, .int .u64 0, .int .u64 0] 30); clear hb; have x1 := (hY1.keep belE).text 30 n1; have x2 := (hY2.keep belE).text 22 n2; (try have hkc : (k : Int) ≤ cap1 := by omega); (try have hkd : (k : Int) ≤ cap2 := by omega))
    | (go_at_call_of 10 (Value.slice (some ⟨g1, 0, none⟩) k cap1); refine (get_cut1 l1 g1 k cap1 _ (hY1.keep belE) lf hk).mono ?_; rintro e W6 ⟨rfl, hb⟩; replace belE := below_allocN (below_allocN (below_step belE hb) (.cells #[.int .i64 0, .int .i64 0, .int .u64 0, .int .u64 0, .int .u64 0] 28)) (.cells #[.int .i64 0, .int .i64 0, .int .u64 0, .int .u64 0] 30); clear hb)
    | (go_at_call_of 10 (Value.slice (some ⟨g2, 0, none⟩) k cap2); refine (get_len _ k cap2 _ hk2).mono ?_; rintro e W7 ⟨rfl, hb⟩; replace belE := below_allocN (below_allocN (below_step belE hb) (.cells #[.int .i64 0, .int .i64 0, .int .u64 0, .int .u64 0, .int .u64 0] 28)) (.cells #[.int .i64 0, .int .i64 0, .int .u64 0, .int .u64 0] 30); clear hb))
  go_ret
  exact ⟨rfl, below_step bel belE⟩

set_option maxHeartbeats 8000000 in
theorem walk_b {w : World} (s1 f1 p1 q1 t1 f2 s2 p2 q2 : Int) (u1p : IsU p1) (u1q : IsU q1) (u1t : IsU t1) (u2p : IsU p2) (u2q : IsU q2) (m1 : Wr.madeB s1 f1 = true) (m2 : Wr.madeB s2 f2 = true) (k : Nat) (hx : decide ((k : Int) < 0) = false) (hk0 : (0 : Int) ≤ k) (hk : k < 30) (d1 : decide ((k : Int) < 30) = true) (d2 : decide (22 ≤ (k : Int)) = true) :
    Calls Try.prog 6 #[.agg #[.int .i64 s1, .int .i64 f1, .int .u64 p1, .int .u64 q1, .int .u64 t1], .agg #[.int .i64 f2, .int .i64 s2, .int .u64 p2, .int .u64 q2], .int .i64 k] w fun e w' => e = .returned (.bool true) ∧ Below w.heap.size w w' := by
  have n1 := Wr.block_length ⟨s1, f1, p1, q1, t1⟩
  have n2 := Wr.vote_length ⟨f2, s2, p2, q2⟩
  obtain ⟨l1, hl1⟩ : ∃ l, Wr.blockB ⟨s1, f1, p1, q1, t1⟩ = l := ⟨_, rfl⟩
  obtain ⟨l2, hl2⟩ : ∃ l, Wr.voteB ⟨f2, s2, p2, q2⟩ = l := ⟨_, rfl⟩
  rw [hl1] at n1
  rw [hl2] at n2
  have HL1 := Lib.hid hl1
  have HL2 := Lib.hid hl2
  clear hl1 hl2
  have lf := block_first _ l1 HL1
  obtain ⟨i0, hi, hz0, hz1, hz2⟩ := info_parts info8
  have hne : (l1 == l2) = false := by
    rw [Bool.eq_false_iff]
    intro h
    have h2 : l1 = l2 := by simpa using h
    rw [h2] at n1
    omega
  have kA := (BoxB.new w s1 f1 p1 q1 t1 _ rfl).alloc (.cells #[.int .i64 f2, .int .i64 s2, .int .u64 p2, .int .u64 q2] 30)
  have kV := BoxV.new (w.alloc (.cells #[.int .i64 s1, .int .i64 f1, .int .u64 p1, .int .u64 q1, .int .u64 t1] 28)) f2 s2 p2 q2 (w.heap.size + 1) (by simp)
  have bel : Below w.heap.size w ((w.alloc (.cells #[.int .i64 s1, .int .i64 f1, .int .u64 p1, .int .u64 q1, .int .u64 t1] 28)).alloc (.cells #[.int .i64 f2, .int .i64 s2, .int .u64 p2, .int .u64 q2] 30)) := below_allocN ((Below.refl _ _).alloc (Nat.le_refl _) _) _
  go_enter Try.func6, Try.ntmps6
  go_wp2_with (first
    | (go_at_call 9; refine (awake_any _).mono ?_; rintro e W0 ⟨rfl, hb⟩; replace bel := below_step bel hb; replace kA := kA.keep hb; replace kV := kV.keep hb; clear hb; obtain ⟨a0, a1, a2, a3, a4⟩ := kA.c; obtain ⟨v0, v1, v2_, v3_⟩ := kV.c)
    | (go_at_call 11; refine (block_use s1 f1 p1 q1 t1 l1 _ m1 u1p u1q u1t HL1).mono ?_; rintro e W1 ⟨g1, cap1, rfl, hY1, hb⟩; replace bel := below_step bel hb; replace kA := kA.keep hb; replace kV := kV.keep hb; clear hb; obtain ⟨a0, a1, a2, a3, a4⟩ := kA.c; obtain ⟨v0, v1, v2_, v3_⟩ := kV.c)
    | (go_at_call 11; refine (block_bad s1 f1 p1 q1 t1 _ m1).mono ?_; rintro e W1 ⟨rfl, hb⟩; replace bel := below_step bel hb; replace kA := kA.keep hb; replace kV := kV.keep hb; clear hb; obtain ⟨a0, a1, a2, a3, a4⟩ := kA.c; obtain ⟨v0, v1, v2_, v3_⟩ := kV.c)
    | (go_at_call 13; refine (vote_use f2 s2 p2 q2 l2 _ m2 u2p u2q HL2).mono ?_; rintro e W3 ⟨g2, cap2, rfl, hY2, hb⟩; replace bel := below_step bel hb; replace kA := kA.keep hb; replace kV := kV.keep hb; (try replace hY1 := hY1.keep hb; have hc1 : 30 ≤ cap1 := n1 ▸ hY1.len); have hc2 : 22 ≤ cap2 := n2 ▸ hY2.len; (try have hk1 : (k : Int) ≤ cap1 ∨ 30 ≤ (k : Int) := by omega); clear hb; obtain ⟨a0, a1, a2, a3, a4⟩ := kA.c; obtain ⟨v0, v1, v2_, v3_⟩ := kV.c)
    | (go_at_call 13; refine (vote_bad f2 s2 p2 q2 _ m2).mono ?_; rintro e W3 ⟨rfl, hb⟩; replace bel := below_step bel hb; replace kA := kA.keep hb; replace kV := kV.keep hb; clear hb; obtain ⟨a0, a1, a2, a3, a4⟩ := kA.c; obtain ⟨v0, v1, v2_, v3_⟩ := kV.c)
    | (at_builtin; refine wpList_append_own _ rfl (.const (.slice none 0 0)) (.tmp 55) 22 rfl (W3).heap.size 5 i0 (.int .u8 0) 1 1 Try.underlying22 hi hz0 hz1 hz2 rfl (by decide) _ _ _ rfl (World.ownsRow_nil _ _ _ _) ⟨g1, 0, none⟩ 30 cap1 (l1.map encB) rfl (by simp [n1]) (cells_of hY1) (encs l1) (by unfold maxLen; omega) (by omega) (Nat.le_refl _) ?_; intro v2 w2 hown2 hg2 _; have hs2 := hg2.size)
    | (at_builtin; refine wpList_append_own _ rfl (.tmp 56) (.tmp 57) 22 rfl (W3).heap.size 5 i0 (.int .u8 0) 1 1 Try.underlying22 hi hz0 hz1 hz2 rfl (by decide) _ _ _ rfl (hown2.alloc _) ⟨w2.heap.size, 0, none⟩ 1 1 [.int .u8 0] rfl rfl (one_byte w2 _ _ _ rfl) (by simp [Value.oneCell']) (by unfold maxLen; omega) (by omega) (by have h := hs2; simp at h ⊢; omega) ?_; intro v3 w3 hown3 hg3 _; obtain ⟨⟨g5, cap5, rfl⟩, hk5⟩ := row_done8 n1 hown2 hg2 hown3 hg3 31 rfl; clear hown2 hg2 hown3 hg3 hs2)
    | (go_at_call_of 10 (Value.slice (some ⟨g5, 0, none⟩) 31 cap5); refine (get_len _ 31 cap5 _ (by decide)).mono ?_; rintro e W4 ⟨rfl, hb⟩; have belC := below_step hk5 hb; clear hb; have belD := below_allocN (below_allocN belC (.cells #[.int .i64 0, .int .i64 0, .int .u64 0, .int .u64 0, .int .u64 0] 28)) (.cells #[.int .i64 0, .int .i64 0, .int .u64 0, .int .u64 0] 30))
    | (at_builtin; refine wpList_append_own _ rfl (.const (.slice none 0 0)) (.tmp 65) 22 rfl (((W4.alloc (.cells #[.int .i64 0, .int .i64 0, .int .u64 0, .int .u64 0, .int .u64 0] 28)).alloc (.cells #[.int .i64 0, .int .i64 0, .int .u64 0, .int .u64 0] 30))).heap.size 5 i0 (.int .u8 0) 1 1 Try.underlying22 hi hz0 hz1 hz2 rfl (by decide) _ _ _ rfl (World.ownsRow_nil _ _ _ _) ⟨g2, 0, none⟩ 22 cap2 (l2.map encB) rfl (by simp [n2]) (cells_of (hY2.keep belD)) (encs l2) (by unfold maxLen; omega) (by omega) (Nat.le_refl _) ?_; intro v2 w2 hown2 hg2 _; have hs2 := hg2.size)
    | (at_builtin; refine wpList_append_own _ rfl (.tmp 66) (.tmp 67) 22 rfl (((W4.alloc (.cells #[.int .i64 0, .int .i64 0, .int .u64 0, .int .u64 0, .int .u64 0] 28)).alloc (.cells #[.int .i64 0, .int .i64 0, .int .u64 0, .int .u64 0] 30))).heap.size 5 i0 (.int .u8 0) 1 1 Try.underlying22 hi hz0 hz1 hz2 rfl (by decide) _ _ _ rfl (hown2.alloc _) ⟨w2.heap.size, 0, none⟩ 1 1 [.int .u8 0] rfl rfl (one_byte w2 _ _ _ rfl) (by simp [Value.oneCell']) (by unfold maxLen; omega) (by omega) (by have h := hs2; simp at h ⊢; omega) ?_; intro v3 w3 hown3 hg3 _; obtain ⟨⟨g6, cap6, rfl⟩, hk6⟩ := row_done8 n2 hown2 hg2 hown3 hg3 23 rfl; clear hown2 hg2 hown3 hg3 hs2)
    | (go_at_call_of 10 (Value.slice (some ⟨g6, 0, none⟩) 23 cap6); refine (get_len _ 23 cap6 _ (by decide)).mono ?_; rintro e W5 ⟨rfl, hb⟩; have belE := below_allocN (below_allocN (below_step (below_step belD hk6) hb) (.cells #[.int .i64 0, .int .i64 0, .int .u64 0, .int .u64 0, .int .u64 0] 28)) (.cells #[.int .i64 0, .int .i64 0, .int .u64 0, .int .u64 0] 30); clear hb; have x1 := (hY1.keep belE).text 30 n1; have x2 := (hY2.keep belE).text 22 n2; (try have hkc : (k : Int) ≤ cap1 := by omega); (try have hkd : (k : Int) ≤ cap2 := by omega))
    | (go_at_call_of 10 (Value.slice (some ⟨g1, 0, none⟩) k cap1); refine (get_cut1 l1 g1 k cap1 _ (hY1.keep belE) lf hk).mono ?_; rintro e W6 ⟨rfl, hb⟩; replace belE := below_allocN (below_allocN (below_step belE hb) (.cells #[.int .i64 0, .int .i64 0, .int .u64 0, .int .u64 0, .int .u64 0] 28)) (.cells #[.int .i64 0, .int .i64 0, .int .u64 0, .int .u64 0] 30); clear hb))
  go_ret
  exact ⟨rfl, below_step bel belE⟩

set_option maxHeartbeats 8000000 in
theorem walk_c {w : World} (s1 f1 p1 q1 t1 f2 s2 p2 q2 : Int) (u1p : IsU p1) (u1q : IsU q1) (u1t : IsU t1) (u2p : IsU p2) (u2q : IsU q2) (m1 : Wr.madeB s1 f1 = true) (m2 : Wr.madeB s2 f2 = true) (k : Nat) (hx : decide ((k : Int) < 0) = false) (hk0 : (0 : Int) ≤ k) (d1 : decide ((k : Int) < 30) = false) (d2 : decide (22 ≤ (k : Int)) = true) :
    Calls Try.prog 6 #[.agg #[.int .i64 s1, .int .i64 f1, .int .u64 p1, .int .u64 q1, .int .u64 t1], .agg #[.int .i64 f2, .int .i64 s2, .int .u64 p2, .int .u64 q2], .int .i64 k] w fun e w' => e = .returned (.bool true) ∧ Below w.heap.size w w' := by
  have n1 := Wr.block_length ⟨s1, f1, p1, q1, t1⟩
  have n2 := Wr.vote_length ⟨f2, s2, p2, q2⟩
  obtain ⟨l1, hl1⟩ : ∃ l, Wr.blockB ⟨s1, f1, p1, q1, t1⟩ = l := ⟨_, rfl⟩
  obtain ⟨l2, hl2⟩ : ∃ l, Wr.voteB ⟨f2, s2, p2, q2⟩ = l := ⟨_, rfl⟩
  rw [hl1] at n1
  rw [hl2] at n2
  have HL1 := Lib.hid hl1
  have HL2 := Lib.hid hl2
  clear hl1 hl2
  have lf := block_first _ l1 HL1
  obtain ⟨i0, hi, hz0, hz1, hz2⟩ := info_parts info8
  have hne : (l1 == l2) = false := by
    rw [Bool.eq_false_iff]
    intro h
    have h2 : l1 = l2 := by simpa using h
    rw [h2] at n1
    omega
  have kA := (BoxB.new w s1 f1 p1 q1 t1 _ rfl).alloc (.cells #[.int .i64 f2, .int .i64 s2, .int .u64 p2, .int .u64 q2] 30)
  have kV := BoxV.new (w.alloc (.cells #[.int .i64 s1, .int .i64 f1, .int .u64 p1, .int .u64 q1, .int .u64 t1] 28)) f2 s2 p2 q2 (w.heap.size + 1) (by simp)
  have bel : Below w.heap.size w ((w.alloc (.cells #[.int .i64 s1, .int .i64 f1, .int .u64 p1, .int .u64 q1, .int .u64 t1] 28)).alloc (.cells #[.int .i64 f2, .int .i64 s2, .int .u64 p2, .int .u64 q2] 30)) := below_allocN ((Below.refl _ _).alloc (Nat.le_refl _) _) _
  go_enter Try.func6, Try.ntmps6
  go_wp2_with (first
    | (go_at_call 9; refine (awake_any _).mono ?_; rintro e W0 ⟨rfl, hb⟩; replace bel := below_step bel hb; replace kA := kA.keep hb; replace kV := kV.keep hb; clear hb; obtain ⟨a0, a1, a2, a3, a4⟩ := kA.c; obtain ⟨v0, v1, v2_, v3_⟩ := kV.c)
    | (go_at_call 11; refine (block_use s1 f1 p1 q1 t1 l1 _ m1 u1p u1q u1t HL1).mono ?_; rintro e W1 ⟨g1, cap1, rfl, hY1, hb⟩; replace bel := below_step bel hb; replace kA := kA.keep hb; replace kV := kV.keep hb; clear hb; obtain ⟨a0, a1, a2, a3, a4⟩ := kA.c; obtain ⟨v0, v1, v2_, v3_⟩ := kV.c)
    | (go_at_call 11; refine (block_bad s1 f1 p1 q1 t1 _ m1).mono ?_; rintro e W1 ⟨rfl, hb⟩; replace bel := below_step bel hb; replace kA := kA.keep hb; replace kV := kV.keep hb; clear hb; obtain ⟨a0, a1, a2, a3, a4⟩ := kA.c; obtain ⟨v0, v1, v2_, v3_⟩ := kV.c)
    | (go_at_call 13; refine (vote_use f2 s2 p2 q2 l2 _ m2 u2p u2q HL2).mono ?_; rintro e W3 ⟨g2, cap2, rfl, hY2, hb⟩; replace bel := below_step bel hb; replace kA := kA.keep hb; replace kV := kV.keep hb; (try replace hY1 := hY1.keep hb; have hc1 : 30 ≤ cap1 := n1 ▸ hY1.len); have hc2 : 22 ≤ cap2 := n2 ▸ hY2.len; (try have hk1 : (k : Int) ≤ cap1 ∨ 30 ≤ (k : Int) := by omega); clear hb; obtain ⟨a0, a1, a2, a3, a4⟩ := kA.c; obtain ⟨v0, v1, v2_, v3_⟩ := kV.c)
    | (go_at_call 13; refine (vote_bad f2 s2 p2 q2 _ m2).mono ?_; rintro e W3 ⟨rfl, hb⟩; replace bel := below_step bel hb; replace kA := kA.keep hb; replace kV := kV.keep hb; clear hb; obtain ⟨a0, a1, a2, a3, a4⟩ := kA.c; obtain ⟨v0, v1, v2_, v3_⟩ := kV.c)
    | (at_builtin; refine wpList_append_own _ rfl (.const (.slice none 0 0)) (.tmp 55) 22 rfl (W3).heap.size 5 i0 (.int .u8 0) 1 1 Try.underlying22 hi hz0 hz1 hz2 rfl (by decide) _ _ _ rfl (World.ownsRow_nil _ _ _ _) ⟨g1, 0, none⟩ 30 cap1 (l1.map encB) rfl (by simp [n1]) (cells_of hY1) (encs l1) (by unfold maxLen; omega) (by omega) (Nat.le_refl _) ?_; intro v2 w2 hown2 hg2 _; have hs2 := hg2.size)
    | (at_builtin; refine wpList_append_own _ rfl (.tmp 56) (.tmp 57) 22 rfl (W3).heap.size 5 i0 (.int .u8 0) 1 1 Try.underlying22 hi hz0 hz1 hz2 rfl (by decide) _ _ _ rfl (hown2.alloc _) ⟨w2.heap.size, 0, none⟩ 1 1 [.int .u8 0] rfl rfl (one_byte w2 _ _ _ rfl) (by simp [Value.oneCell']) (by unfold maxLen; omega) (by omega) (by have h := hs2; simp at h ⊢; omega) ?_; intro v3 w3 hown3 hg3 _; obtain ⟨⟨g5, cap5, rfl⟩, hk5⟩ := row_done8 n1 hown2 hg2 hown3 hg3 31 rfl; clear hown2 hg2 hown3 hg3 hs2)
    | (go_at_call_of 10 (Value.slice (some ⟨g5, 0, none⟩) 31 cap5); refine (get_len _ 31 cap5 _ (by decide)).mono ?_; rintro e W4 ⟨rfl, hb⟩; have belC := below_step hk5 hb; clear hb; have belD := below_allocN (below_allocN belC (.cells #[.int .i64 0, .int .i64 0, .int .u64 0, .int .u64 0, .int .u64 0] 28)) (.cells #[.int .i64 0, .int .i64 0, .int .u64 0, .int .u64 0] 30))
    | (at_builtin; refine wpList_append_own _ rfl (.const (.slice none 0 0)) (.tmp 65) 22 rfl (((W4.alloc (.cells #[.int .i64 0, .int .i64 0, .int .u64 0, .int .u64 0, .int .u64 0] 28)).alloc (.cells #[.int .i64 0, .int .i64 0, .int .u64 0, .int .u64 0] 30))).heap.size 5 i0 (.int .u8 0) 1 1 Try.underlying22 hi hz0 hz1 hz2 rfl (by decide) _ _ _ rfl (World.ownsRow_nil _ _ _ _) ⟨g2, 0, none⟩ 22 cap2 (l2.map encB) rfl (by simp [n2]) (cells_of (hY2.keep belD)) (encs l2) (by unfold maxLen; omega) (by omega) (Nat.le_refl _) ?_; intro v2 w2 hown2 hg2 _; have hs2 := hg2.size)
    | (at_builtin; refine wpList_append_own _ rfl (.tmp 66) (.tmp 67) 22 rfl (((W4.alloc (.cells #[.int .i64 0, .int .i64 0, .int .u64 0, .int .u64 0, .int .u64 0] 28)).alloc (.cells #[.int .i64 0, .int .i64 0, .int .u64 0, .int .u64 0] 30))).heap.size 5 i0 (.int .u8 0) 1 1 Try.underlying22 hi hz0 hz1 hz2 rfl (by decide) _ _ _ rfl (hown2.alloc _) ⟨w2.heap.size, 0, none⟩ 1 1 [.int .u8 0] rfl rfl (one_byte w2 _ _ _ rfl) (by simp [Value.oneCell']) (by unfold maxLen; omega) (by omega) (by have h := hs2; simp at h ⊢; omega) ?_; intro v3 w3 hown3 hg3 _; obtain ⟨⟨g6, cap6, rfl⟩, hk6⟩ := row_done8 n2 hown2 hg2 hown3 hg3 23 rfl; clear hown2 hg2 hown3 hg3 hs2)
    | (go_at_call_of 10 (Value.slice (some ⟨g6, 0, none⟩) 23 cap6); refine (get_len _ 23 cap6 _ (by decide)).mono ?_; rintro e W5 ⟨rfl, hb⟩; have belE := below_allocN (below_allocN (below_step (below_step belD hk6) hb) (.cells #[.int .i64 0, .int .i64 0, .int .u64 0, .int .u64 0, .int .u64 0] 28)) (.cells #[.int .i64 0, .int .i64 0, .int .u64 0, .int .u64 0] 30); clear hb; have x1 := (hY1.keep belE).text 30 n1; have x2 := (hY2.keep belE).text 22 n2; (try have hkc : (k : Int) ≤ cap1 := by omega); (try have hkd : (k : Int) ≤ cap2 := by omega)))
  go_ret
  exact ⟨rfl, below_step bel belE⟩

theorem walk {w : World} (b : Wr.B) (hb : IsU b.p ∧ IsU b.q ∧ IsU b.salt) (v : Wr.V) (hv : IsU v.p ∧ IsU v.q) (x : Int) (hx : IsI x) :
    Calls Try.prog 6 #[b.val, v.val, .int .i64 x] w fun e w' => e = .returned (.bool true) ∧ Below w.heap.size w w' := by
  obtain ⟨s1, f1, p1, q1, t1⟩ := b
  obtain ⟨f2, s2, p2, q2⟩ := v
  cases m1 : Wr.madeB s1 f1
  · cases m2 : Wr.madeB s2 f2
    · exact walk_bad3 s1 f1 p1 q1 t1 f2 s2 p2 q2 hb.1 hb.2.1 hb.2.2 hv.1 hv.2 m2 m1 x
    · exact walk_bad1 s1 f1 p1 q1 t1 f2 s2 p2 q2 hb.1 hb.2.1 hb.2.2 hv.1 hv.2 m1 m2 x
  · cases m2 : Wr.madeB s2 f2
    · exact walk_bad2 s1 f1 p1 q1 t1 f2 s2 p2 q2 hb.1 hb.2.1 hb.2.2 hv.1 hv.2 m2 m1 x
    · by_cases h : x < 0
      · exact walk_neg s1 f1 p1 q1 t1 f2 s2 p2 q2 hb.1 hb.2.1 hb.2.2 hv.1 hv.2 m1 m2 x (decide_eq_true h)
      · obtain ⟨k, rfl⟩ := Int.eq_ofNat_of_zero_le (show 0 ≤ x by omega)
        by_cases h1 : k < 22
        · exact walk_a s1 f1 p1 q1 t1 f2 s2 p2 q2 hb.1 hb.2.1 hb.2.2 hv.1 hv.2 m1 m2 k (decide_eq_false h) (by omega) (by omega) ⟨by omega, by omega⟩ (decide_eq_true (by omega)) (decide_eq_false (by omega)) h1
        · by_cases h2 : k < 30
          · exact walk_b s1 f1 p1 q1 t1 f2 s2 p2 q2 hb.1 hb.2.1 hb.2.2 hv.1 hv.2 m1 m2 k (decide_eq_false h) (by omega) h2 (decide_eq_true (by omega)) (decide_eq_true (by omega))
          · exact walk_c s1 f1 p1 q1 t1 f2 s2 p2 q2 hb.1 hb.2.1 hb.2.2 hv.1 hv.2 m1 m2 k (decide_eq_false h) (by omega) (decide_eq_false (by omega)) (decide_eq_true (by omega))
end wireCut

end Go.Proofs.Ytpjkjcecbhfgoaa
