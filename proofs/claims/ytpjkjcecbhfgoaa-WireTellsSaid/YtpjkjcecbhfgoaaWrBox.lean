/-
  Boxes of blocks and votes, and what a walk knows of them.
-/
import Derived.Test.YtpjkjcecbhfgoaaWrUse
namespace Go.Proofs.Ytpjkjcecbhfgoaa
open Go.RowKit
set_option linter.unusedSimpArgs false
set_option linter.unusedVariables false

structure BoxB (N : Nat) (s f p q t : Int) (w : World) : Prop where
  c : w.cell? ⟨N, 0, none⟩ = some (.int .i64 s) ∧ w.cell? ⟨N, 1, none⟩ = some (.int .i64 f) ∧ w.cell? ⟨N, 2, none⟩ = some (.int .u64 p) ∧ w.cell? ⟨N, 3, none⟩ = some (.int .u64 q) ∧ w.cell? ⟨N, 4, none⟩ = some (.int .u64 t)
  lt : N < w.heap.size
structure BoxV (N : Nat) (f s p q : Int) (w : World) : Prop where
  c : w.cell? ⟨N, 0, none⟩ = some (.int .i64 f) ∧ w.cell? ⟨N, 1, none⟩ = some (.int .i64 s) ∧ w.cell? ⟨N, 2, none⟩ = some (.int .u64 p) ∧ w.cell? ⟨N, 3, none⟩ = some (.int .u64 q)
  lt : N < w.heap.size
theorem BoxB.keep {N : Nat} {s f p q t : Int} {w w' : World} (h : BoxB N s f p q t w) (hb : Below w.heap.size w w') : BoxB N s f p q t w' := by
  obtain ⟨⟨h0, h1, h2, h3, h4⟩, hl⟩ := h
  exact ⟨⟨(hb.cell (p := ⟨N, 0, none⟩) hl).trans h0, (hb.cell (p := ⟨N, 1, none⟩) hl).trans h1, (hb.cell (p := ⟨N, 2, none⟩) hl).trans h2, (hb.cell (p := ⟨N, 3, none⟩) hl).trans h3, (hb.cell (p := ⟨N, 4, none⟩) hl).trans h4⟩, Nat.lt_of_lt_of_le hl hb.size⟩
theorem BoxV.keep {N : Nat} {s f p q : Int} {w w' : World} (h : BoxV N s f p q w) (hb : Below w.heap.size w w') : BoxV N s f p q w' := by
  obtain ⟨⟨h0, h1, h2, h3⟩, hl⟩ := h
  exact ⟨⟨(hb.cell (p := ⟨N, 0, none⟩) hl).trans h0, (hb.cell (p := ⟨N, 1, none⟩) hl).trans h1, (hb.cell (p := ⟨N, 2, none⟩) hl).trans h2, (hb.cell (p := ⟨N, 3, none⟩) hl).trans h3⟩, Nat.lt_of_lt_of_le hl hb.size⟩
theorem BoxB.alloc {N : Nat} {s f p q t : Int} {w : World} (h : BoxB N s f p q t w) (o : Obj) : BoxB N s f p q t (w.alloc o) := h.keep ((Below.refl _ _).alloc (Nat.le_refl _) o)
theorem BoxV.alloc {N : Nat} {s f p q : Int} {w : World} (h : BoxV N s f p q w) (o : Obj) : BoxV N s f p q (w.alloc o) := h.keep ((Below.refl _ _).alloc (Nat.le_refl _) o)
theorem BoxB.new (w : World) (s f p q t : Int) (g : Nat) (hg : g = w.heap.size) : BoxB g s f p q t (w.alloc (.cells #[.int .i64 s, .int .i64 f, .int .u64 p, .int .u64 q, .int .u64 t] 28)) := by
  subst hg
  have h := heap_alloc_new w (.cells #[.int .i64 s, .int .i64 f, .int .u64 p, .int .u64 q, .int .u64 t] 28)
  exact ⟨⟨cell_at h 0, cell_at h 1, cell_at h 2, cell_at h 3, cell_at h 4⟩, by simp⟩
theorem BoxV.new (w : World) (f s p q : Int) (g : Nat) (hg : g = w.heap.size) : BoxV g f s p q (w.alloc (.cells #[.int .i64 f, .int .i64 s, .int .u64 p, .int .u64 q] 30)) := by
  subst hg
  have h := heap_alloc_new w (.cells #[.int .i64 f, .int .i64 s, .int .u64 p, .int .u64 q] 30)
  exact ⟨⟨cell_at h 0, cell_at h 1, cell_at h 2, cell_at h 3⟩, by simp⟩

/-- Whether it is well made, as the statement reckons it, in turn. -/
theorem made_cases (s f : Int) : (Wr.madeB s f = true ∧ decide (1 ≤ s) = true ∧ decide (s ≤ 1048576) = true ∧ decide (0 ≤ f) = true ∧ decide (f < 12) = true) ∨
    (Wr.madeB s f = false ∧ decide (1 ≤ s) = false) ∨ (Wr.madeB s f = false ∧ decide (1 ≤ s) = true ∧ decide (s ≤ 1048576) = false) ∨
    (Wr.madeB s f = false ∧ decide (1 ≤ s) = true ∧ decide (s ≤ 1048576) = true ∧ decide (0 ≤ f) = false) ∨
    (Wr.madeB s f = false ∧ decide (1 ≤ s) = true ∧ decide (s ≤ 1048576) = true ∧ decide (0 ≤ f) = true ∧ decide (f < 12) = false) := by
  unfold Wr.madeB
  have e : decide (0 < s) = decide (1 ≤ s) := by rw [Bool.eq_iff_iff]; simp; omega
  rw [e]
  cases decide (1 ≤ s) <;> cases decide (s ≤ 1048576) <;> cases decide (0 ≤ f) <;> cases decide (f < 12) <;> simp

theorem block_first (b : Wr.B) (l : List UInt8) (h : Hid (Wr.blockB b = l)) : l[0]? = some 1 := by rw [← h.out]; rfl
theorem vote_first (v : Wr.V) (l : List UInt8) (h : Hid (Wr.voteB v = l)) : l[0]? = some 2 := by rw [← h.out]; rfl

namespace wireLens
set_option maxHeartbeats 4000000 in
theorem walk (b : Wr.B) (hb : IsU b.p ∧ IsU b.q ∧ IsU b.salt) (v : Wr.V) (hv : IsU v.p ∧ IsU v.q) (w : World) :
    Calls Try.prog 8 #[b.val, v.val] w fun e w' => e = .returned (.bool true) ∧ Below w.heap.size w w' := by
  obtain ⟨s, f, p, q, t⟩ := b
  obtain ⟨f2, s2, p2, q2⟩ := v
  obtain ⟨u1, u2, u3⟩ := hb
  obtain ⟨u4, u5⟩ := hv
  simp only at u1 u2 u3 u4 u5
  obtain ⟨l, hl⟩ : ∃ l, Wr.blockB ⟨s, f, p, q, t⟩ = l := ⟨_, rfl⟩
  obtain ⟨m, hm⟩ : ∃ m, Wr.voteB ⟨f2, s2, p2, q2⟩ = m := ⟨_, rfl⟩
  have HL := Lib.hid hl
  have HM := Lib.hid hm
  have lf := block_first _ l HL
  have mf := vote_first _ m HM
  clear hl hm
  have kB := (BoxB.new w s f p q t _ rfl).alloc (.cells #[.int .i64 f2, .int .i64 s2, .int .u64 p2, .int .u64 q2] 30)
  have kV := BoxV.new (w.alloc (.cells #[.int .i64 s, .int .i64 f, .int .u64 p, .int .u64 q, .int .u64 t] 28)) f2 s2 p2 q2 (w.heap.size + 1) (by simp)
  have bel : Below w.heap.size w ((w.alloc (.cells #[.int .i64 s, .int .i64 f, .int .u64 p, .int .u64 q, .int .u64 t] 28)).alloc (.cells #[.int .i64 f2, .int .i64 s2, .int .u64 p2, .int .u64 q2] 30)) := below_allocN ((Below.refl _ _).alloc (Nat.le_refl _) _) _
  unfold Wr.B.val Wr.V.val
  rcases made_cases s f with ⟨m0, x1, x2, x3, x4⟩ | ⟨m0, x1⟩ | ⟨m0, x1, x2⟩ | ⟨m0, x1, x2, x3⟩ | ⟨m0, x1, x2, x3, x4⟩
  all_goals
    rcases made_cases s2 f2 with ⟨n0, y1, y2, y3, y4⟩ | ⟨n0, y1⟩ | ⟨n0, y1, y2⟩ | ⟨n0, y1, y2, y3⟩ | ⟨n0, y1, y2, y3, y4⟩
    all_goals
      go_enter Try.func8, Try.ntmps8
      go_wp2_with (first
        | (go_at_call 9; refine (awake_any _).mono ?_; rintro e w1 ⟨rfl, hb⟩; replace bel := below_step bel hb; replace kB := kB.keep hb; replace kV := kV.keep hb; clear hb; obtain ⟨e0, e1, e2, e3, e4⟩ := kB.c)
        | (go_at_call 11; refine (block_use s f p q t l _ m0 u1 u2 u3 HL).mono ?_; rintro e w2 ⟨g, cap, rfl, hB, hb⟩; replace bel := below_step bel hb; replace kB := kB.keep hb; replace kV := kV.keep hb; clear hb; obtain ⟨e0, e1, e2, e3, e4⟩ := kB.c; obtain ⟨d0, d1, d2, d3⟩ := kV.c)
        | (go_at_call 11; refine (block_bad s f p q t _ m0).mono ?_; rintro e w2 ⟨rfl, hb⟩; replace bel := below_step bel hb; replace kB := kB.keep hb; replace kV := kV.keep hb; clear hb; obtain ⟨e0, e1, e2, e3, e4⟩ := kB.c; obtain ⟨d0, d1, d2, d3⟩ := kV.c)
        | (go_at_call 13; refine (vote_use f2 s2 p2 q2 m _ n0 u4 u5 HM).mono ?_; rintro e w3 ⟨g2, cap2, rfl, hC, hb⟩; replace bel := below_step bel hb; replace kB := kB.keep hb; replace kV := kV.keep hb; (try replace hB := hB.keep hb); clear hb; obtain ⟨e0, e1, e2, e3, e4⟩ := kB.c; obtain ⟨d0, d1, d2, d3⟩ := kV.c; have z2 := hC.byte 0 _ mf; (try have z1 := hB.byte 0 _ lf))
        | (go_at_call 13; refine (vote_bad f2 s2 p2 q2 _ n0).mono ?_; rintro e w3 ⟨rfl, hb⟩; replace bel := below_step bel hb; replace kB := kB.keep hb; replace kV := kV.keep hb; (try replace hB := hB.keep hb); clear hb; obtain ⟨e0, e1, e2, e3, e4⟩ := kB.c; obtain ⟨d0, d1, d2, d3⟩ := kV.c; (try have z1 := hB.byte 0 _ lf)))
      go_ret
      exact ⟨rfl, bel⟩
end wireLens

end Go.Proofs.Ytpjkjcecbhfgoaa
