/-
  wire's functions as the statements meet them, and the example.
-/
import Derived.Test.YtpjkjcecbhfgoaaWrEq
import Derived.Laws.IdiomStrings
import Derived.Lib.BufferRead
namespace Go.Proofs.Ytpjkjcecbhfgoaa
open Go.RowKit
set_option linter.unusedSimpArgs false
set_option linter.unusedVariables false

/-- Bytes that a call has made. -/
structure Bytes (w : World) (l : List UInt8) (g cap : Nat) : Prop where
  lt : g < w.heap.size
  len : l.length ≤ cap
  cap_ : cap ≤ 9223372036854775807
  at_ : ∀ i (hi : i < l.length), w.cell? ⟨g, i, none⟩ = some (.int .u8 (l[i].toNat : Int))
theorem Bytes.keep {w w' : World} {l : List UInt8} {g cap : Nat} (h : Bytes w l g cap) (hb : Below w.heap.size w w') : Bytes w' l g cap :=
  ⟨Nat.lt_of_lt_of_le h.lt hb.size, h.len, h.cap_, fun i hi => (hb.cell (p := ⟨g, i, none⟩) h.lt).trans (h.at_ i hi)⟩
theorem Bytes.alloc {w : World} {l : List UInt8} {g cap : Nat} (h : Bytes w l g cap) (o : Obj) : Bytes (w.alloc o) l g cap := h.keep ((Below.refl _ _).alloc (Nat.le_refl _) o)
theorem Bytes.came {w : World} {l : List UInt8} {g cap : Nat} (h : Bytes w l g cap) : Came w (some ⟨g, 0, none⟩) l cap :=
  ⟨h.len, h.cap_, .inr ⟨g, 0, rfl, h.lt, fun i hi => by rw [Nat.zero_add]; exact h.at_ i hi⟩⟩
theorem Bytes.byte {w : World} {l : List UInt8} {g cap : Nat} (h : Bytes w l g cap) (i : Nat) (x : UInt8) (hx : l[i]? = some x) : w.cell? ⟨g, i, none⟩ = some (.int .u8 (x.toNat : Int)) := by
  obtain ⟨hi, rfl⟩ := List.getElem?_eq_some_iff.1 hx
  exact h.at_ i hi

theorem of_own {w w' : World} {l : List UInt8} {N : Nat} {v : Value} (h : OwnB w' N v l) (hl : 0 < l.length) : ∃ g cap, v = .slice (some ⟨g, 0, none⟩) l.length cap ∧ N ≤ g ∧ Bytes w' l g cap := by
  obtain ⟨g, cap, rfl, hN, hg, hn, hc, hcell⟩ := h.form hl
  exact ⟨g, cap, rfl, hN, hg, hn, by unfold maxLen at hc; omega, hcell⟩

/-- Block, where the block is well made. -/
theorem block_use (s f p q t : Int) (l : List UInt8) (w : World) (hm : Wr.madeB s f = true) (hp : IsU p) (hq : IsU q) (ht : IsU t) (hl : Hid (Wr.blockB ⟨s, f, p, q, t⟩ = l)) :
    Calls Try.prog 11 #[.agg #[.int .i64 s, .int .i64 f, .int .u64 p, .int .u64 q, .int .u64 t]] w fun e w' => ∃ g cap, e = .returned (.tuple #[.slice (some ⟨g, 0, none⟩) 30 cap, .int .i64 0]) ∧ Bytes w' l g cap ∧ Below w.heap.size w w' := by
  refine (block_any ⟨s, f, p, q, t⟩ w hm hp hq ht).mono ?_
  rintro e w' ⟨v, rfl, ho, hb⟩
  obtain ⟨g, cap, rfl, -, hB⟩ := of_own (w := w) ho (by rw [Wr.block_length]; omega)
  rw [hl.out] at hB
  exact ⟨g, cap, by rw [Wr.block_length], hB, hb⟩
theorem block_bad (s f p q t : Int) (w : World) (hm : Wr.madeB s f = false) :
    Calls Try.prog 11 #[.agg #[.int .i64 s, .int .i64 f, .int .u64 p, .int .u64 q, .int .u64 t]] w fun e w' => e = .returned (.tuple #[.slice none 0 0, .int .i64 1]) ∧ Below w.heap.size w w' := block_no ⟨s, f, p, q, t⟩ w hm
/-- Vote, where the vote is well made. -/
theorem vote_use (f s p q : Int) (l : List UInt8) (w : World) (hm : Wr.madeB s f = true) (hp : IsU p) (hq : IsU q) (hl : Hid (Wr.voteB ⟨f, s, p, q⟩ = l)) :
    Calls Try.prog 13 #[.agg #[.int .i64 f, .int .i64 s, .int .u64 p, .int .u64 q]] w fun e w' => ∃ g cap, e = .returned (.tuple #[.slice (some ⟨g, 0, none⟩) 22 cap, .int .i64 0]) ∧ Bytes w' l g cap ∧ Below w.heap.size w w' := by
  refine (vote_any ⟨f, s, p, q⟩ w hm hp hq).mono ?_
  rintro e w' ⟨v, rfl, ho, hb⟩
  obtain ⟨g, cap, rfl, -, hB⟩ := of_own (w := w) ho (by rw [Wr.vote_length]; omega)
  rw [hl.out] at hB
  exact ⟨g, cap, by rw [Wr.vote_length], hB, hb⟩
theorem vote_bad (f s p q : Int) (w : World) (hm : Wr.madeB s f = false) :
    Calls Try.prog 13 #[.agg #[.int .i64 f, .int .i64 s, .int .u64 p, .int .u64 q]] w fun e w' => e = .returned (.tuple #[.slice none 0 0, .int .i64 1]) ∧ Below w.heap.size w w' := vote_no ⟨f, s, p, q⟩ w hm

/-- Get, its answer under names. -/
theorem get_use (a : Option Addr) (l : List UInt8) (n c : Nat) (w : World) (hn : l.length = n) (hc : Came w a l c) (s f p q t f2 s2 p2 q2 : Int) (is : Bool) (er : Int)
    (hg : Hid (Wr.getS l = ⟨⟨s, f, p, q, t⟩, ⟨f2, s2, p2, q2⟩, is, er⟩)) :
    Calls Try.prog 10 #[.slice a n c] w fun e w' => e = .returned (.tuple #[.agg #[.int .i64 s, .int .i64 f, .int .u64 p, .int .u64 q, .int .u64 t], .agg #[.int .i64 f2, .int .i64 s2, .int .u64 p2, .int .u64 q2], .bool is, .int .i64 er]) ∧ Below w.heap.size w w' := by
  subst hn
  refine (get_any a l c w hc).mono ?_
  rintro e w' ⟨rfl, hb⟩
  rw [hg.out]
  exact ⟨rfl, hb⟩

theorem eqV_c (f s p q f' s' p' q' : Int) (w : World) : (Op.equalIn 10000 30 (.agg #[.int .i64 f, .int .i64 s, .int .u64 p, .int .u64 q]) (.agg #[.int .i64 f', .int .i64 s', .int .u64 p', .int .u64 q'])).run Try.prog w = .ok (decide (Wr.V.mk f s p q = Wr.V.mk f' s' p' q')) w := eqV ⟨f, s, p, q⟩ ⟨f', s', p', q'⟩ w
theorem eqB_c (s f p q t s' f' p' q' t' : Int) (w : World) : (Op.equalIn 10000 28 (.agg #[.int .i64 s, .int .i64 f, .int .u64 p, .int .u64 q, .int .u64 t]) (.agg #[.int .i64 s', .int .i64 f', .int .u64 p', .int .u64 q', .int .u64 t'])).run Try.prog w = .ok (decide (Wr.B.mk s f p q t = Wr.B.mk s' f' p' q' t')) w := eqB ⟨s, f, p, q, t⟩ ⟨s', f', p', q', t'⟩ w

theorem below_allocN {w0 w : World} (h : Below w0.heap.size w0 w) (o : Obj) : Below w0.heap.size w0 (w.alloc o) := h.alloc h.size o

set_option maxHeartbeats 1000000 in
theorem awake_any (w : World) : Calls Try.prog 9 #[] w fun e w' => e = .returned (.bool true) ∧ Below w.heap.size w w' := by
  obtain ⟨l, hl⟩ : ∃ l, Wr.voteB ⟨3, 258, 0, 0⟩ = l := ⟨_, rfl⟩
  have hlen : l.length = 22 := by rw [← hl]; exact Wr.vote_length _
  have hu : IsU 0 := ⟨by omega, by omega⟩
  have hg : Hid (Wr.getS l = ⟨⟨0, 0, 0, 0, 0⟩, ⟨3, 258, 0, 0⟩, true, 0⟩) := Lib.hid (by rw [← hl]; exact Wr.getS_vote _ rfl hu hu)
  have b0 : l[0]? = some 2 := by rw [← hl]; rfl
  have b1 : l[1]? = some 2 := by rw [← hl]; rfl
  have b2 : l[2]? = some 1 := by rw [← hl]; rfl
  have b5 : l[5]? = some 3 := by rw [← hl]; rfl
  have HL := Lib.hid hl
  have hq := eqV_c 3 258 0 0 3 258 0 0
  rw [show decide (Wr.V.mk 3 258 0 0 = Wr.V.mk 3 258 0 0) = true from rfl] at hq
  clear hl
  go_enter Try.func9, Try.ntmps9
  go_wp2_with (first
    | (go_at_call 13; refine (vote_use 3 258 0 0 l _ rfl hu hu HL).mono ?_; rintro e W1 ⟨g, cap, rfl, hB, hb1⟩; have hlt := hB.lt; have hc := hB.len; have c0 := hB.byte 0 _ b0; have c1 := hB.byte 1 _ b1; have c2 := hB.byte 2 _ b2; have c5 := hB.byte 5 _ b5)
    | (go_at_call 10; refine (get_use _ l 22 cap _ hlen hB.came 0 0 0 0 0 3 258 0 0 true 0 hg).mono ?_; rintro e W2 ⟨rfl, hb2⟩; replace hB := hB.keep hb2; replace hlt := hB.lt; replace c0 := hB.byte 0 _ b0; replace c1 := hB.byte 1 _ b1; replace c2 := hB.byte 2 _ b2; replace c5 := hB.byte 5 _ b5))
  go_ret
  exact ⟨rfl, below_allocN (below_allocN (below_step hb1 hb2) _) _⟩

end Go.Proofs.Ytpjkjcecbhfgoaa
