/-
  WireSlots: the walk.
-/
import Derived.Test.YtpjkjcecbhfgoaaWrUse
namespace Go.Proofs.Ytpjkjcecbhfgoaa
open Go.RowKit
set_option linter.unusedSimpArgs false
set_option linter.unusedVariables false

theorem Came.keep {w w' : World} {a : Option Addr} {l : List UInt8} {c : Nat} (h : Came w a l c) (hb : Below w.heap.size w w') : Came w' a l c :=
  ⟨h.len, h.cap, h.at_.keep hb (Nat.le_refl _)⟩

namespace wireSlots
theorem slot_bytes (l : List UInt8) (y0 y1 y2 y3 y4 y5 : UInt8) (r : List UInt8) (h : l = y0 :: y1 :: y2 :: y3 :: y4 :: y5 :: r) :
    Wr.slotAt l = (y1.toNat : Int) + 256 * y2.toNat + 65536 * y3.toNat + 16777216 * y4.toNat ∧ Wr.whoAt l = y5.toNat := by
  subst h
  unfold Wr.slotAt Wr.whoAt
  simp [Wr.rd]
  omega
theorem six (l : List UInt8) (h : 6 ≤ l.length) : ∃ y0 y1 y2 y3 y4 y5 r, l = y0 :: y1 :: y2 :: y3 :: y4 :: y5 :: r := by
  match l, h with
  | y0 :: y1 :: y2 :: y3 :: y4 :: y5 :: r, _ => exact ⟨y0, y1, y2, y3, y4, y5, r, rfl⟩
  | [], h => simp at h
  | [_], h => simp at h
  | [_, _], h => simp at h
  | [_, _, _], h => simp at h
  | [_, _, _, _], h => simp at h
  | [_, _, _, _, _], h => simp at h

set_option maxHeartbeats 2000000 in
/-- More than the statement speaks of. -/
theorem walk_long (a : Option Addr) (n c : Nat) (w : World) (h : decide ((n : Int) > 100) = true) :
    Calls Try.prog 3 #[.slice a n c] w fun e w' => e = .returned (.bool true) ∧ Below w.heap.size w w' := by
  go_enter Try.func3, Try.ntmps3
  go_wp2_with (first
    | (go_at_call 9; refine (awake_any _).mono ?_; rintro e w1 ⟨rfl, hb⟩))
  go_ret
  exact ⟨rfl, hb⟩

set_option maxHeartbeats 2000000 in
/-- Bytes that are none. -/
theorem walk_none (a : Option Addr) (l : List UInt8) (n c : Nat) (w : World) (e : l.length = n) (b : Came w a l c) (h : decide ((n : Int) > 100) = false) (hg : Wr.getS l = Wr.G.none) :
    Calls Try.prog 3 #[.slice a n c] w fun e w' => e = .returned (.bool true) ∧ Below w.heap.size w w' := by
  have HG := Lib.hid hg
  go_enter Try.func3, Try.ntmps3
  go_wp2_with (first
    | (go_at_call 9; refine (awake_any _).mono ?_; rintro e1 w1 ⟨rfl, hb⟩)
    | (go_at_call 10; refine (get_use a l n c _ e (b.keep hb) 0 0 0 0 0 0 0 0 0 false 2 HG).mono ?_; rintro e2 w2 ⟨rfl, hb2⟩))
  go_ret
  exact ⟨rfl, below_allocN (below_allocN (below_step hb hb2) _) _⟩

/-- The number out of four bytes wraps nowhere. -/
structure Fits (y1 y2 y3 y4 y5 : Int) : Prop where
  m2 : IntKind.i64.wrap (256 * y2) = 256 * y2
  m3 : IntKind.i64.wrap (65536 * y3) = 65536 * y3
  m4 : IntKind.i64.wrap (16777216 * y4) = 16777216 * y4
  s2 : IntKind.i64.wrap (y1 + 256 * y2) = y1 + 256 * y2
  s3 : IntKind.i64.wrap (y1 + 256 * y2 + 65536 * y3) = y1 + 256 * y2 + 65536 * y3
  s4 : IntKind.i64.wrap (y1 + 256 * y2 + 65536 * y3 + 16777216 * y4) = y1 + 256 * y2 + 65536 * y3 + 16777216 * y4
  k1 : IntKind.i64.wrap y1 = y1
  k2 : IntKind.i64.wrap y2 = y2
  k3 : IntKind.i64.wrap y3 = y3
  k4 : IntKind.i64.wrap y4 = y4
  k5 : IntKind.i64.wrap y5 = y5
theorem fits (y1 y2 y3 y4 y5 : Int) (h1 : 0 ≤ y1 ∧ y1 < 256) (h2 : 0 ≤ y2 ∧ y2 < 256) (h3 : 0 ≤ y3 ∧ y3 < 256) (h4 : 0 ≤ y4 ∧ y4 < 256) (h5 : 0 ≤ y5 ∧ y5 < 256) : Fits y1 y2 y3 y4 y5 := by
  constructor <;> exact IntWalk.i64_in _ (by omega)

set_option maxHeartbeats 2000000 in
/-- Bytes that are a block or a vote. -/
theorem walk_some (b o : Nat) (n c : Nat) (l : List UInt8) (w : World) (e : l.length = n) (hc : Came w (some ⟨b, o, none⟩) l c) (hb : b < w.heap.size) (h : decide ((n : Int) > 100) = false) (h6 : (5 : Int) < n) (y0 y1 y2 y3 y4 y5 S f p q t f2 s2 p2 q2 : Int) (is : Bool)
    (c0 : w.cell? ⟨b, o, none⟩ = some (.int .u8 y0)) (c1 : w.cell? ⟨b, o + 1, none⟩ = some (.int .u8 y1)) (c2 : w.cell? ⟨b, o + 2, none⟩ = some (.int .u8 y2)) (c3 : w.cell? ⟨b, o + 3, none⟩ = some (.int .u8 y3)) (c4 : w.cell? ⟨b, o + 4, none⟩ = some (.int .u8 y4)) (c5 : w.cell? ⟨b, o + 5, none⟩ = some (.int .u8 y5))
    (hg : Hid (Wr.getS l = ⟨⟨S, f, p, q, t⟩, ⟨f2, s2, p2, q2⟩, is, 0⟩)) (F : Fits y1 y2 y3 y4 y5)
    (z1 : IntKind.i64.wrap (S + s2) = y1 + 256 * y2 + 65536 * y3 + 16777216 * y4) (z2 : IntKind.i64.wrap (f + f2) = y5) (z3 : decide (1 ≤ y1 + 256 * y2 + 65536 * y3 + 16777216 * y4) = true) (z4 : decide (y1 + 256 * y2 + 65536 * y3 + 16777216 * y4 ≤ 1048576) = true) (z5 : decide (y5 < 12) = true) (z6 : (is == (y0 == 2)) = true) :
    Calls Try.prog 3 #[.slice (some ⟨b, o, none⟩) n c] w fun e w' => e = .returned (.bool true) ∧ Below w.heap.size w w' := by
  obtain ⟨m2, m3, m4, s2_, s3, s4, k1, k2, k3, k4, k5⟩ := F
  have g1 : (1 : Int) < n := by omega
  have g2 : (2 : Int) < n := by omega
  have g3 : (3 : Int) < n := by omega
  have g4 : (4 : Int) < n := by omega
  have g0 : (0 : Int) < n := by omega
  obtain ⟨N, hN⟩ : ∃ N, y1 + 256 * y2 + 65536 * y3 + 16777216 * y4 = N := ⟨_, rfl⟩
  rw [hN] at s4 z1 z3 z4
  go_enter Try.func3, Try.ntmps3
  go_wp2_with (first
    | (go_at_call 9; refine (awake_any _).mono ?_; rintro e1 w1 ⟨rfl, hb1⟩; replace c0 := (hb1.cell (p := ⟨b, o, none⟩) hb).trans c0; replace c1 := (hb1.cell (p := ⟨b, o + 1, none⟩) hb).trans c1; replace c2 := (hb1.cell (p := ⟨b, o + 2, none⟩) hb).trans c2; replace c3 := (hb1.cell (p := ⟨b, o + 3, none⟩) hb).trans c3; replace c4 := (hb1.cell (p := ⟨b, o + 4, none⟩) hb).trans c4; replace c5 := (hb1.cell (p := ⟨b, o + 5, none⟩) hb).trans c5; have hb_ : b < w1.heap.size := Nat.lt_of_lt_of_le hb hb1.size)
    | (go_at_call 10; refine (get_use _ l n c _ e (hc.keep hb1) S f p q t f2 s2 p2 q2 is 0 hg).mono ?_; rintro e2 w2 ⟨rfl, hb2⟩; replace c0 := (hb2.cell (p := ⟨b, o, none⟩) hb_).trans c0; replace c1 := (hb2.cell (p := ⟨b, o + 1, none⟩) hb_).trans c1; replace c2 := (hb2.cell (p := ⟨b, o + 2, none⟩) hb_).trans c2; replace c3 := (hb2.cell (p := ⟨b, o + 3, none⟩) hb_).trans c3; replace c4 := (hb2.cell (p := ⟨b, o + 4, none⟩) hb_).trans c4; replace c5 := (hb2.cell (p := ⟨b, o + 5, none⟩) hb_).trans c5; have hb__ : b < w2.heap.size := Nat.lt_of_lt_of_le hb_ hb2.size))
  go_quiet (fail)
  go_wp2
  go_ret
  exact ⟨by simp [z6], (below_allocN (below_allocN (below_step hb1 hb2) _) _).trans (below_drewN _ _ _)⟩

theorem walk {w : World} (a : Option Addr) (l : List UInt8) (c n : Nat) (e : l.length = n) (m : n ≤ 9223372036854775807 ∧ (a = none → c = 0)) (hc : Came w a l c) :
    Calls Try.prog 3 #[.slice a n c] w fun e w' => e = .returned (.bool true) ∧ Below w.heap.size w w' := by
  by_cases h : (n : Int) > 100
  · exact walk_long a n c w (decide_eq_true h)
  by_cases hg : Wr.getS l = Wr.G.none
  · exact walk_none a l n c w e hc (decide_eq_false h) hg
  have hv : (Wr.isV l || Wr.isB l) = true ∧ Wr.madeB (Wr.slotAt l) (Wr.whoAt l) = true := by
    rw [← Bool.and_eq_true]
    refine Classical.byContradiction fun hn => hg ?_
    unfold Wr.getS
    rw [if_neg hn]
  obtain ⟨hv, hm⟩ := hv
  obtain ⟨q1, q2⟩ := Wr.made_bounds hm
  have hlen : 22 ≤ l.length := by
    unfold Wr.isV Wr.isB at hv
    simp only [Bool.or_eq_true, Bool.and_eq_true, decide_eq_true_eq] at hv
    omega
  rcases hc.at_ with h0 | ⟨b, o, rfl, hb, hcell⟩
  · omega
  obtain ⟨y0, y1, y2, y3, y4, y5, r, hl⟩ := six l (by omega)
  obtain ⟨e1, e2⟩ := slot_bytes l y0 y1 y2 y3 y4 y5 r hl
  rw [e1] at q1
  rw [e2] at q2
  have byte : ∀ (i : Nat) (y : UInt8), l[i]? = some y → w.cell? ⟨b, o + i, none⟩ = some (.int .u8 (y.toNat : Int)) := by
    intro i y hi
    obtain ⟨hk, rfl⟩ := List.getElem?_eq_some_iff.1 hi
    exact hcell i hk
  have hF := fits y1.toNat y2.toNat y3.toNat y4.toNat y5.toNat (by have := y1.toNat_lt; omega) (by have := y2.toNat_lt; omega) (by have := y3.toNat_lt; omega) (by have := y4.toNat_lt; omega) (by have := y5.toNat_lt; omega)
  have b0 := byte 0 y0 (by rw [hl]; rfl)
  have b1 := byte 1 y1 (by rw [hl]; rfl)
  have b2 := byte 2 y2 (by rw [hl]; rfl)
  have b3 := byte 3 y3 (by rw [hl]; rfl)
  have b4 := byte 4 y4 (by rw [hl]; rfl)
  have b5 := byte 5 y5 (by rw [hl]; rfl)
  have h0 : l[0]?.getD 0 = y0 := by rw [hl]; rfl
  have d3 : decide (1 ≤ (y1.toNat : Int) + 256 * y2.toNat + 65536 * y3.toNat + 16777216 * y4.toNat) = true := decide_eq_true (by omega)
  have d4 : decide ((y1.toNat : Int) + 256 * y2.toNat + 65536 * y3.toNat + 16777216 * y4.toNat ≤ 1048576) = true := decide_eq_true (by omega)
  have d5 : decide ((y5.toNat : Int) < 12) = true := decide_eq_true (by omega)
  cases hi : Wr.isV l with
  | true =>
    have hgs : Wr.getS l = ⟨⟨0, 0, 0, 0, 0⟩, ⟨Wr.whoAt l, Wr.slotAt l, Wr.numAt l 6, Wr.numAt l 14⟩, true, 0⟩ := by
      unfold Wr.getS
      rw [hi, hm]
      rfl
    have hy : y0 = 2 := by
      unfold Wr.isV at hi
      simp only [Bool.and_eq_true, decide_eq_true_eq] at hi
      rw [← h0, hi.2]
    refine walk_some b o n c l w e hc hb (decide_eq_false h) (by omega) y0.toNat y1.toNat y2.toNat y3.toNat y4.toNat y5.toNat 0 0 0 0 0 _ _ _ _ true b0 b1 b2 b3 b4 b5 (Lib.hid hgs) hF ?_ ?_ d3 d4 d5 (by rw [hy]; rfl)
    · rw [e1, Int.zero_add]; exact hF.s4
    · rw [e2, Int.zero_add]; exact hF.k5
  | false =>
    have hbk : Wr.isB l = true := by simpa [hi] using hv
    have hgs : Wr.getS l = ⟨⟨Wr.slotAt l, Wr.whoAt l, Wr.numAt l 6, Wr.numAt l 14, Wr.numAt l 22⟩, ⟨0, 0, 0, 0⟩, false, 0⟩ := by
      unfold Wr.getS
      rw [hi, hm, hbk]
      rfl
    have hy : y0 = 1 := by
      unfold Wr.isB at hbk
      simp only [Bool.and_eq_true, decide_eq_true_eq] at hbk
      rw [← h0, hbk.2]
    refine walk_some b o n c l w e hc hb (decide_eq_false h) (by omega) y0.toNat y1.toNat y2.toNat y3.toNat y4.toNat y5.toNat _ _ _ _ _ 0 0 0 0 false b0 b1 b2 b3 b4 b5 (Lib.hid hgs) hF ?_ ?_ d3 d4 d5 (by rw [hy]; rfl)
    · rw [e1, Int.add_zero]; exact hF.s4
    · rw [e2, Int.add_zero]; exact hF.k5

end wireSlots
end Go.Proofs.Ytpjkjcecbhfgoaa
