/-
  WireApart: the walk.
-/
import Derived.Test.YtpjkjcecbhfgoaaWrBox
namespace Go.Proofs.Ytpjkjcecbhfgoaa
open Go.RowKit
set_option linter.unusedSimpArgs false
set_option linter.unusedVariables false

/-- 'string(b)' of bytes that a call has made. -/
theorem Bytes.text {w : World} {l : List UInt8} {g cap : Nat} (h : Bytes w l g cap) (n : Nat) (hn : l.length = n) :
    (convert 22 9 (.slice (some ⟨g, 0, none⟩) n cap)).run Try.prog w = .ok (.string ⟨l.toArray⟩) w := by
  subst hn
  exact run_convert_bytes_back w _ _ 5 ⟨g, 0, none⟩ cap l Try.underlying22 Try.underlying5 Try.underlying9 (fun j hj => by
    have := h.at_ j hj
    have e : (⟨g, 0, none⟩ : Addr).add j = ⟨g, j, none⟩ := by unfold Addr.add; simp <;> intro h <;> exact h.symm
    rw [e]
    exact this)
theorem Bytes.drewN {w : World} {l : List UInt8} {g cap : Nat} (h : Bytes w l g cap) (m : Nat) : Bytes (w.drewN m) l g cap := h.keep (below_drewN _ _ _)
theorem text_eq (l m : List UInt8) (t : Bool) (h : (l == m) = t) : ((⟨l.toArray⟩ : ByteArray).toList == (⟨m.toArray⟩ : ByteArray).toList) = t := by
  rw [ByteArray.toList_eq, ByteArray.toList_eq]
  exact h
theorem beq_of_iff {l m : List UInt8} {p : Prop} [Decidable p] (h : l = m ↔ p) : (l == m) = decide p := by
  rw [Bool.eq_iff_iff]
  simpa using h

/-- Two blocks: both well made (the same, or not), or one of them is not. -/
theorem two_blocks (x y : Wr.B) (hx : IsU x.p ∧ IsU x.q ∧ IsU x.salt) (hy : IsU y.p ∧ IsU y.q ∧ IsU y.salt) :
    (∃ t, (Wr.madeB x.slot x.who = true ∧ Wr.madeB y.slot y.who = true) ∧ (Wr.blockB x == Wr.blockB y) = t ∧ decide (x = y) = t) ∨
    (Wr.madeB x.slot x.who = true ∧ Wr.madeB y.slot y.who = false) ∨ (Wr.madeB x.slot x.who = false ∧ Wr.madeB y.slot y.who = true) ∨ (Wr.madeB x.slot x.who = false ∧ Wr.madeB y.slot y.who = false) := by
  cases hm : Wr.madeB x.slot x.who <;> cases hn : Wr.madeB y.slot y.who
  · exact .inr (.inr (.inr ⟨rfl, rfl⟩))
  · exact .inr (.inr (.inl ⟨rfl, rfl⟩))
  · exact .inr (.inl ⟨rfl, rfl⟩)
  · exact .inl ⟨_, ⟨rfl, rfl⟩, beq_of_iff ⟨Wr.block_inj hm hx.1 hx.2.1 hx.2.2 hn hy.1 hy.2.1 hy.2.2, fun h => by rw [h]⟩, rfl⟩
theorem two_votes (x y : Wr.V) (hx : IsU x.p ∧ IsU x.q) (hy : IsU y.p ∧ IsU y.q) :
    (∃ t, (Wr.madeB x.slot x.who = true ∧ Wr.madeB y.slot y.who = true) ∧ (Wr.voteB x == Wr.voteB y) = t ∧ decide (x = y) = t) ∨
    (Wr.madeB x.slot x.who = true ∧ Wr.madeB y.slot y.who = false) ∨ (Wr.madeB x.slot x.who = false ∧ Wr.madeB y.slot y.who = true) ∨ (Wr.madeB x.slot x.who = false ∧ Wr.madeB y.slot y.who = false) := by
  cases hm : Wr.madeB x.slot x.who <;> cases hn : Wr.madeB y.slot y.who
  · exact .inr (.inr (.inr ⟨rfl, rfl⟩))
  · exact .inr (.inr (.inl ⟨rfl, rfl⟩))
  · exact .inr (.inl ⟨rfl, rfl⟩)
  · exact .inl ⟨_, ⟨rfl, rfl⟩, beq_of_iff ⟨Wr.vote_inj hm hx.1 hx.2 hn hy.1 hy.2, fun h => by rw [h]⟩, rfl⟩

namespace wireApart
set_option maxHeartbeats 8000000 in
theorem walk {w : World} (b1 : Wr.B) (h1 : IsU b1.p ∧ IsU b1.q ∧ IsU b1.salt) (b2 : Wr.B) (h2 : IsU b2.p ∧ IsU b2.q ∧ IsU b2.salt) (v1 : Wr.V) (h3 : IsU v1.p ∧ IsU v1.q) (v2 : Wr.V) (h4 : IsU v2.p ∧ IsU v2.q) :
    Calls Try.prog 7 #[b1.val, b2.val, v1.val, v2.val] w fun e w' => e = .returned (.bool true) ∧ Below w.heap.size w w' := by
  have hbb := two_blocks b1 b2 h1 h2
  have hvv := two_votes v1 v2 h3 h4
  obtain ⟨s1, f1, p1, q1, t1⟩ := b1
  obtain ⟨s2, f2, p2, q2, t2⟩ := b2
  obtain ⟨f3, s3, p3, q3⟩ := v1
  obtain ⟨f4, s4, p4, q4⟩ := v2
  obtain ⟨u1p, u1q, u1t⟩ := h1
  obtain ⟨u2p, u2q, u2t⟩ := h2
  obtain ⟨u3p, u3q⟩ := h3
  obtain ⟨u4p, u4q⟩ := h4
  simp only at u1p u1q u1t u2p u2q u2t u3p u3q u4p u4q hbb hvv
  have eqb := eqB_c s1 f1 p1 q1 t1 s2 f2 p2 q2 t2
  have eqv := eqV_c f3 s3 p3 q3 f4 s4 p4 q4
  have n1 := Wr.block_length ⟨s1, f1, p1, q1, t1⟩
  have n2 := Wr.block_length ⟨s2, f2, p2, q2, t2⟩
  have n3 := Wr.vote_length ⟨f3, s3, p3, q3⟩
  have n4 := Wr.vote_length ⟨f4, s4, p4, q4⟩
  obtain ⟨l1, hl1⟩ : ∃ l, Wr.blockB ⟨s1, f1, p1, q1, t1⟩ = l := ⟨_, rfl⟩
  obtain ⟨l2, hl2⟩ : ∃ l, Wr.blockB ⟨s2, f2, p2, q2, t2⟩ = l := ⟨_, rfl⟩
  obtain ⟨l3, hl3⟩ : ∃ l, Wr.voteB ⟨f3, s3, p3, q3⟩ = l := ⟨_, rfl⟩
  obtain ⟨l4, hl4⟩ : ∃ l, Wr.voteB ⟨f4, s4, p4, q4⟩ = l := ⟨_, rfl⟩
  rw [hl1] at n1 hbb
  rw [hl2] at n2 hbb
  rw [hl3] at n3 hvv
  rw [hl4] at n4 hvv
  have HL1 := Lib.hid hl1
  have HL2 := Lib.hid hl2
  have HL3 := Lib.hid hl3
  have HL4 := Lib.hid hl4
  clear hl1 hl2 hl3 hl4
  have kA := (((BoxB.new w s1 f1 p1 q1 t1 _ rfl).alloc (.cells #[.int .i64 s2, .int .i64 f2, .int .u64 p2, .int .u64 q2, .int .u64 t2] 28)).alloc (.cells #[.int .i64 f3, .int .i64 s3, .int .u64 p3, .int .u64 q3] 30)).alloc (.cells #[.int .i64 f4, .int .i64 s4, .int .u64 p4, .int .u64 q4] 30)
  have kB := ((BoxB.new (w.alloc (.cells #[.int .i64 s1, .int .i64 f1, .int .u64 p1, .int .u64 q1, .int .u64 t1] 28)) s2 f2 p2 q2 t2 (w.heap.size + 1) (by simp)).alloc (.cells #[.int .i64 f3, .int .i64 s3, .int .u64 p3, .int .u64 q3] 30)).alloc (.cells #[.int .i64 f4, .int .i64 s4, .int .u64 p4, .int .u64 q4] 30)
  have kV := (BoxV.new ((w.alloc (.cells #[.int .i64 s1, .int .i64 f1, .int .u64 p1, .int .u64 q1, .int .u64 t1] 28)).alloc (.cells #[.int .i64 s2, .int .i64 f2, .int .u64 p2, .int .u64 q2, .int .u64 t2] 28)) f3 s3 p3 q3 (w.heap.size + 1 + 1) (by simp)).alloc (.cells #[.int .i64 f4, .int .i64 s4, .int .u64 p4, .int .u64 q4] 30)
  have kW := BoxV.new (((w.alloc (.cells #[.int .i64 s1, .int .i64 f1, .int .u64 p1, .int .u64 q1, .int .u64 t1] 28)).alloc (.cells #[.int .i64 s2, .int .i64 f2, .int .u64 p2, .int .u64 q2, .int .u64 t2] 28)).alloc (.cells #[.int .i64 f3, .int .i64 s3, .int .u64 p3, .int .u64 q3] 30)) f4 s4 p4 q4 (w.heap.size + 1 + 1 + 1) (by simp)
  have bel : Below w.heap.size w ((((w.alloc (.cells #[.int .i64 s1, .int .i64 f1, .int .u64 p1, .int .u64 q1, .int .u64 t1] 28)).alloc (.cells #[.int .i64 s2, .int .i64 f2, .int .u64 p2, .int .u64 q2, .int .u64 t2] 28)).alloc (.cells #[.int .i64 f3, .int .i64 s3, .int .u64 p3, .int .u64 q3] 30)).alloc (.cells #[.int .i64 f4, .int .i64 s4, .int .u64 p4, .int .u64 q4] 30)) := below_allocN (below_allocN (below_allocN ((Below.refl _ _).alloc (Nat.le_refl _) _) _) _) _
  unfold Wr.B.val Wr.V.val
  rcases hbb with ⟨t, ⟨m1, m2⟩, e1, e2⟩ | ⟨m1, m2⟩ | ⟨m1, m2⟩ | ⟨m1, m2⟩
  rotate_left
  all_goals
    rcases hvv with ⟨t', ⟨m3, m4⟩, y1, y2⟩ | ⟨m3, m4⟩ | ⟨m3, m4⟩ | ⟨m3, m4⟩
    all_goals
      try (rw [e2] at eqb; have e3 := text_eq _ _ _ e1; clear e2)
      try (rw [y2] at eqv; have y3 := text_eq _ _ _ y1; clear y2)
      try cases t
      all_goals
        try cases t'
        all_goals
          go_enter Try.func7, Try.ntmps7
          go_wp2_with (first
            | (go_at_call 9; refine (awake_any _).mono ?_; rintro e W0 ⟨rfl, hb⟩; replace bel := below_step bel hb; replace kA := kA.keep hb; replace kB := kB.keep hb; replace kV := kV.keep hb; replace kW := kW.keep hb; clear hb; obtain ⟨a0, a1, a2, a3, a4⟩ := kA.c; obtain ⟨b0, b1, b2, b3, b4⟩ := kB.c; obtain ⟨v0, v1, v2, v3⟩ := kV.c; obtain ⟨w0, w1_, w2_, w3_⟩ := kW.c)
            | (go_at_call_of 11 (Value.int .i64 s1); refine (block_use s1 f1 p1 q1 t1 l1 _ m1 u1p u1q u1t HL1).mono ?_; rintro e W1 ⟨g1, cap1, rfl, hY1, hb⟩; replace bel := below_step bel hb; replace kA := kA.keep hb; replace kB := kB.keep hb; replace kV := kV.keep hb; replace kW := kW.keep hb; clear hb; obtain ⟨a0, a1, a2, a3, a4⟩ := kA.c; obtain ⟨b0, b1, b2, b3, b4⟩ := kB.c; obtain ⟨v0, v1, v2, v3⟩ := kV.c; obtain ⟨w0, w1_, w2_, w3_⟩ := kW.c)
            | (go_at_call_of 11 (Value.int .i64 s1); refine (block_bad s1 f1 p1 q1 t1 _ m1).mono ?_; rintro e W1 ⟨rfl, hb⟩; replace bel := below_step bel hb; replace kA := kA.keep hb; replace kB := kB.keep hb; replace kV := kV.keep hb; replace kW := kW.keep hb; clear hb; obtain ⟨a0, a1, a2, a3, a4⟩ := kA.c; obtain ⟨b0, b1, b2, b3, b4⟩ := kB.c; obtain ⟨v0, v1, v2, v3⟩ := kV.c; obtain ⟨w0, w1_, w2_, w3_⟩ := kW.c)
            | (go_at_call_of 11 (Value.int .i64 s2); refine (block_use s2 f2 p2 q2 t2 l2 _ m2 u2p u2q u2t HL2).mono ?_; rintro e W2 ⟨g2, cap2, rfl, hY2, hb⟩; replace bel := below_step bel hb; replace kA := kA.keep hb; replace kB := kB.keep hb; replace kV := kV.keep hb; replace kW := kW.keep hb; (try replace hY1 := hY1.keep hb); clear hb; obtain ⟨a0, a1, a2, a3, a4⟩ := kA.c; obtain ⟨b0, b1, b2, b3, b4⟩ := kB.c; obtain ⟨v0, v1, v2, v3⟩ := kV.c; obtain ⟨w0, w1_, w2_, w3_⟩ := kW.c)
            | (go_at_call_of 11 (Value.int .i64 s2); refine (block_bad s2 f2 p2 q2 t2 _ m2).mono ?_; rintro e W2 ⟨rfl, hb⟩; replace bel := below_step bel hb; replace kA := kA.keep hb; replace kB := kB.keep hb; replace kV := kV.keep hb; replace kW := kW.keep hb; (try replace hY1 := hY1.keep hb); clear hb; obtain ⟨a0, a1, a2, a3, a4⟩ := kA.c; obtain ⟨b0, b1, b2, b3, b4⟩ := kB.c; obtain ⟨v0, v1, v2, v3⟩ := kV.c; obtain ⟨w0, w1_, w2_, w3_⟩ := kW.c)
            | (go_at_call_of 13 (Value.int .i64 f3); refine (vote_use f3 s3 p3 q3 l3 _ m3 u3p u3q HL3).mono ?_; rintro e W3 ⟨g3, cap3, rfl, hY3, hb⟩; replace bel := below_step bel hb; replace kA := kA.keep hb; replace kB := kB.keep hb; replace kV := kV.keep hb; replace kW := kW.keep hb; (try replace hY1 := hY1.keep hb); (try replace hY2 := hY2.keep hb); clear hb; obtain ⟨a0, a1, a2, a3, a4⟩ := kA.c; obtain ⟨b0, b1, b2, b3, b4⟩ := kB.c; obtain ⟨v0, v1, v2, v3⟩ := kV.c; obtain ⟨w0, w1_, w2_, w3_⟩ := kW.c)
            | (go_at_call_of 13 (Value.int .i64 f3); refine (vote_bad f3 s3 p3 q3 _ m3).mono ?_; rintro e W3 ⟨rfl, hb⟩; replace bel := below_step bel hb; replace kA := kA.keep hb; replace kB := kB.keep hb; replace kV := kV.keep hb; replace kW := kW.keep hb; (try replace hY1 := hY1.keep hb); (try replace hY2 := hY2.keep hb); clear hb; obtain ⟨a0, a1, a2, a3, a4⟩ := kA.c; obtain ⟨b0, b1, b2, b3, b4⟩ := kB.c; obtain ⟨v0, v1, v2, v3⟩ := kV.c; obtain ⟨w0, w1_, w2_, w3_⟩ := kW.c)
            | (go_at_call_of 13 (Value.int .i64 f4); refine (vote_use f4 s4 p4 q4 l4 _ m4 u4p u4q HL4).mono ?_; rintro e W4 ⟨g4, cap4, rfl, hY4, hb⟩; replace bel := below_step bel hb; replace kA := kA.keep hb; replace kB := kB.keep hb; replace kV := kV.keep hb; replace kW := kW.keep hb; (try replace hY1 := hY1.keep hb); (try replace hY2 := hY2.keep hb); (try replace hY3 := hY3.keep hb); clear hb; obtain ⟨a0, a1, a2, a3, a4⟩ := kA.c; obtain ⟨b0, b1, b2, b3, b4⟩ := kB.c; obtain ⟨v0, v1, v2, v3⟩ := kV.c; obtain ⟨w0, w1_, w2_, w3_⟩ := kW.c; (try have k1 := hY1.text 30 n1); (try have x1 := fun m => (hY1.drewN m).text 30 n1); (try have k2 := hY2.text 30 n2); (try have x2 := fun m => (hY2.drewN m).text 30 n2); (try have k3 := hY3.text 22 n3); (try have x3 := fun m => (hY3.drewN m).text 22 n3); (try have k4 := hY4.text 22 n4); (try have x4 := fun m => (hY4.drewN m).text 22 n4))
            | (go_at_call_of 13 (Value.int .i64 f4); refine (vote_bad f4 s4 p4 q4 _ m4).mono ?_; rintro e W4 ⟨rfl, hb⟩; replace bel := below_step bel hb; replace kA := kA.keep hb; replace kB := kB.keep hb; replace kV := kV.keep hb; replace kW := kW.keep hb; (try replace hY1 := hY1.keep hb); (try replace hY2 := hY2.keep hb); (try replace hY3 := hY3.keep hb); clear hb; obtain ⟨a0, a1, a2, a3, a4⟩ := kA.c; obtain ⟨b0, b1, b2, b3, b4⟩ := kB.c; obtain ⟨v0, v1, v2, v3⟩ := kV.c; obtain ⟨w0, w1_, w2_, w3_⟩ := kW.c; (try have k1 := hY1.text 30 n1); (try have x1 := fun m => (hY1.drewN m).text 30 n1); (try have k2 := hY2.text 30 n2); (try have x2 := fun m => (hY2.drewN m).text 30 n2); (try have k3 := hY3.text 22 n3); (try have x3 := fun m => (hY3.drewN m).text 22 n3); (try have k4 := hY4.text 22 n4); (try have x4 := fun m => (hY4.drewN m).text 22 n4)))
          go_quiet (fail)
          go_wp2
          go_quiet (fail)
          go_wp2
          go_ret
          exact ⟨rfl, (bel.trans (below_drewN _ _ _)).trans (below_drewN _ _ _)⟩
end wireApart

end Go.Proofs.Ytpjkjcecbhfgoaa
