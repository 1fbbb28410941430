/-
  The walks of package mix: what Word, Step, Of, Less and their references compute, as the plain functions of MixPlain.
-/
import Derived.Test.YtkknmmlfonhhaaaRows
import Derived.Test.YtkknmmlfonhhaaaMixPlain
import Derived.WalkKit
import Derived.WalkSpells
import Derived.WalkLawsBesides
import Derived.Lib.Hide
import Derived.Deep.QuietTactic
import Derived.BigQuiet
import Derived.Deep.RegionWith
namespace Go.Proofs.Ytkknmmlfonhhaaa
open Go.RowKit
set_option linter.unusedSimpArgs false
set_option linter.unusedVariables false

theorem ret_val {a b : Value} (h : a = b) : Ending.returned a = .returned b := by rw [h]
theorem ret_int {k : IntKind} {a b : Int} (h : a = b) : Ending.returned (.int k a) = .returned (.int k b) := by rw [h]
theorem ret_bool {a b : Bool} (h : a = b) : Ending.returned (.bool a) = .returned (.bool b) := by rw [h]
theorem below_drewN (B : Nat) (w : World) (n : Nat) : Below B w (w.drewN n) := ⟨rfl, rfl, rfl, Nat.le_refl _, fun _ _ => rfl⟩
theorem u64_of {a b : Int} (h : a = b) : Value.int .u64 a = Value.int .u64 b := by rw [h]

namespace Mx
def word (x : Int) : Int := (wordN x.toNat : Nat)
def step (h x : Int) : Int := (stepN h.toNat x.toNat : Nat)

theorem word_bd (x : Int) : 0 ≤ word x ∧ word x ≤ 18446744073709551615 := by
  have := wordN_lt x.toNat
  unfold word M at *
  omega
theorem step_bd (h x : Int) : 0 ≤ step h x ∧ step h x ≤ 18446744073709551615 := by
  have := stepN_lt h.toNat x.toNat
  unfold step M at *
  omega

/-- One round: what the walk writes for '(x ^ x>>s) * c', and that it is a natural number below 2^64. -/
theorem mixed (X s C : Nat) (hX : X < M) : IntKind.u64.wrap (bits .xor .u64 (X : Int) ((X : Int) / (s : Int)) * (C : Int)) = ((fold X s * C % M : Nat) : Int) :=
  mixStep_u64 X s C hX
theorem folded (X s : Nat) (hX : X < M) : bits .xor .u64 (X : Int) ((X : Int) / (s : Int)) = ((fold X s : Nat) : Int) :=
  xorShift_u64 X s hX

theorem word_walk (x : Int) (h0 : 0 ≤ x) (h1 : x ≤ 18446744073709551615) :
    bits BinOp.xor IntKind.u64
      (IntKind.u64.wrap (bits BinOp.xor IntKind.u64 (IntKind.u64.wrap (bits BinOp.xor IntKind.u64 x (x / 1073741824) * 13787848793156543929)) (IntKind.u64.wrap (bits BinOp.xor IntKind.u64 x (x / 1073741824) * 13787848793156543929) / 134217728) * 10723151780598845931))
      (IntKind.u64.wrap (bits BinOp.xor IntKind.u64 (IntKind.u64.wrap (bits BinOp.xor IntKind.u64 x (x / 1073741824) * 13787848793156543929)) (IntKind.u64.wrap (bits BinOp.xor IntKind.u64 x (x / 1073741824) * 13787848793156543929) / 134217728) * 10723151780598845931) / 2147483648) = word x := by
  obtain ⟨X, rfl⟩ := Int.eq_ofNat_of_zero_le h0
  have hX : X < M := by unfold M; omega
  have e1 := mixed X 1073741824 13787848793156543929 hX
  have e2 := mixed (fold X 1073741824 * 13787848793156543929 % M) 134217728 10723151780598845931 (Nat.mod_lt _ (by decide))
  have e3 := folded (fold (fold X 1073741824 * 13787848793156543929 % M) 134217728 * 10723151780598845931 % M) 2147483648 (Nat.mod_lt _ (by decide))
  unfold word wordN
  rw [Int.toNat_natCast]
  rw [← e3, ← e2, ← e1]
  rfl
end Mx

set_option maxHeartbeats 400000 in
theorem word_any (x : Int) (w : World) (h0 : 0 ≤ x) (h1 : x ≤ 18446744073709551615) :
    Calls Try.prog 11 #[.int .u64 x] w fun e w' => e = .returned (.int .u64 (Mx.word x)) ∧ w = w' := by
  go_enter Try.func11, Try.ntmps11
  go_wp2
  go_ret
  exact ⟨ret_val (u64_of (Mx.word_walk x h0 h1)), rfl⟩

theorem Mx.wrap_bd (n : Int) : 0 ≤ IntKind.u64.wrap n ∧ IntKind.u64.wrap n ≤ 18446744073709551615 := by
  rw [IntKind.wrap_u64]; omega
theorem Mx.xor_walk (h x : Int) (h0 : 0 ≤ h) (h1 : h ≤ 18446744073709551615) (x0 : 0 ≤ x) (x1 : x ≤ 18446744073709551615) :
    bits .xor .u64 h x = ((h.toNat ^^^ x.toNat : Nat) : Int) := by
  obtain ⟨H, rfl⟩ := Int.eq_ofNat_of_zero_le h0
  obtain ⟨X, rfl⟩ := Int.eq_ofNat_of_zero_le x0
  rw [bits_xor_u64_nat H X (by omega) (by omega)]
  simp
theorem Mx.step_walk (h x : Int) (h0 : 0 ≤ h) (h1 : h ≤ 18446744073709551615) (x0 : 0 ≤ x) (x1 : x ≤ 18446744073709551615) :
    Mx.word (IntKind.u64.wrap (bits BinOp.xor IntKind.u64 h x + 11400714819323198485)) = Mx.step h x := by
  rw [Mx.xor_walk h x h0 h1 x0 x1, IntKind.wrap_u64]
  have e : ((((h.toNat ^^^ x.toNat : Nat) : Int) + 11400714819323198485) % 18446744073709551616).toNat = ((h.toNat ^^^ x.toNat) + 11400714819323198485) % M := by
    unfold M
    omega
  unfold Mx.word Mx.step stepN
  rw [e]

set_option maxHeartbeats 400000 in
theorem step_any (h x : Int) (w : World) (h0 : 0 ≤ h) (h1 : h ≤ 18446744073709551615) (x0 : 0 ≤ x) (x1 : x ≤ 18446744073709551615) :
    Calls Try.prog 13 #[.int .u64 h, .int .u64 x] w fun e w' => e = .returned (.int .u64 (Mx.step h x)) ∧ w = w' := by
  go_enter Try.func13, Try.ntmps13
  go_wp2_with fail
  refine (word_any _ _ (Mx.wrap_bd _).1 (Mx.wrap_bd _).2).mono ?_
  rintro e w' ⟨rfl, rfl⟩
  go_wp2
  go_ret
  exact ⟨ret_val (u64_of (Mx.step_walk h x h0 h1 x0 x1)), rfl⟩

set_option maxHeartbeats 400000 in
theorem refword_any (x : Int) (w : World) (h0 : 0 ≤ x) (h1 : x ≤ 18446744073709551615) :
    Calls Try.prog 12 #[.int .u64 x] w fun e w' => e = .returned (.int .u64 (Mx.word x)) ∧ w = w' := by
  go_enter Try.func12, Try.ntmps12
  go_wp2
  go_ret
  exact ⟨ret_val (u64_of (Mx.word_walk x h0 h1)), rfl⟩

namespace Mx
def nth (l : List Int) (k : Nat) : Int := l[k]?.getD 0
/-- Two lists of words, held against each other: -1, 0, 1. -/
def cmpL : List Int → List Int → Int
  | [], [] => 0
  | [], _ :: _ => -1
  | _ :: _, [] => 1
  | x :: xs, y :: ys => if x < y then -1 else if y < x then 1 else cmpL xs ys
end Mx

set_option maxHeartbeats 400000 in
theorem isNaN_any (x : Int) (w : World) :
    Calls Try.prog 22 #[.int .u64 x] w fun e w' => e = .returned (.bool false) ∧ w = w' := by
  go_enter Try.func22, Try.ntmps22
  go_wp2
  go_ret
  exact ⟨by simp, rfl⟩

set_option maxHeartbeats 400000 in
theorem cmp_any (x y : Int) (w : World) :
    Calls Try.prog 21 #[.int .u64 x, .int .u64 y] w fun e w' => e = .returned (.int .i64 (if x < y then -1 else if y < x then 1 else 0)) ∧ w = w' := by
  by_cases h : x < y
  · go_enter Try.func21, Try.ntmps21
    go_wp2_with (refine (isNaN_any _ _).mono ?_; rintro e w' ⟨rfl, rfl⟩)
    go_ret
    exact ⟨by simp [h], rfl⟩
  · by_cases h2 : y < x
    · go_enter Try.func21, Try.ntmps21
      go_wp2_with (refine (isNaN_any _ _).mono ?_; rintro e w' ⟨rfl, rfl⟩)
      go_ret
      exact ⟨by simp [h, h2], rfl⟩
    · go_enter Try.func21, Try.ntmps21
      go_wp2_with (refine (isNaN_any _ _).mono ?_; rintro e w' ⟨rfl, rfl⟩)
      go_ret
      exact ⟨by simp [h, h2], rfl⟩

theorem Mx.cmp_lt {x y : Int} {xs ys : List Int} (h : x < y) : Mx.cmpL (x :: xs) (y :: ys) = -1 := by simp [Mx.cmpL, h]
theorem Mx.cmp_gt {x y : Int} {xs ys : List Int} (h : y < x) : Mx.cmpL (x :: xs) (y :: ys) = 1 := by
  have : ¬ x < y := by omega
  simp [Mx.cmpL, h, this]
theorem Mx.cmp_eq {x y : Int} {xs ys : List Int} (h : ¬ x < y) (h2 : ¬ y < x) : Mx.cmpL (x :: xs) (y :: ys) = Mx.cmpL xs ys := by simp [Mx.cmpL, h, h2]

theorem Mx.drop_at (xs : List Int) (k : Nat) (h : k < xs.length) : xs.drop k = Mx.nth xs k :: xs.drop (k + 1) := by
  unfold Mx.nth; rw [List.drop_eq_getElem_cons h, List.getElem?_eq_getElem h]; rfl

set_option maxHeartbeats 1000000 in
theorem compare_any (b1 o1 c1 b2 o2 c2 : Nat) (xs ys : List Int) (w : World)
    (h1 : ∀ i, i < xs.length → w.cell? ⟨b1, o1 + i, none⟩ = some (.int .u64 (Mx.nth xs i)))
    (h2 : ∀ i, i < ys.length → w.cell? ⟨b2, o2 + i, none⟩ = some (.int .u64 (Mx.nth ys i)))
    (m1 : xs.length ≤ 9223372036854775807) (m2 : ys.length ≤ 9223372036854775807) :
    Calls Try.prog 20 #[.slice (some ⟨b1, o1, none⟩) xs.length c1, .slice (some ⟨b2, o2, none⟩) ys.length c2] w fun e w' => e = .returned (.int .i64 (Mx.cmpL xs ys)) ∧ w = w' := by
  go_enter Try.func20, Try.ntmps20
  go_wp2
  go_loop [11] (fun i => ∃ k : Nat, k ≤ xs.length ∧ k ≤ ys.length ∧ i = .int .i64 k ∧ Hid (Mx.cmpL xs ys = Mx.cmpL (xs.drop k) (ys.drop k))) (fun i => xs.length - (intOf i).toNat)
  case atStart => exact ⟨0, Nat.zero_le _, Nat.zero_le _, rfl, Lib.hid rfl⟩
  case round =>
    obtain ⟨k, hk, hk2, rfl, hc⟩ := hrel
    by_cases hlt : k < xs.length
    · have a1 := h1 k hlt
      have d1 := Lib.hid (Mx.drop_at xs k hlt)
      by_cases hlt2 : k < ys.length
      · have a2 := h2 k hlt2
        have d2 := Lib.hid (Mx.drop_at ys k hlt2)
        clear h1 h2
        rcases (by omega : Mx.nth xs k < Mx.nth ys k ∨ Mx.nth ys k < Mx.nth xs k ∨ (¬ Mx.nth xs k < Mx.nth ys k ∧ ¬ Mx.nth ys k < Mx.nth xs k)) with h | h | ⟨h, h'⟩
        · go_wp2_with (refine (cmp_any _ _ _).mono ?_; rintro e w' ⟨rfl, rfl⟩)
          go_ret
          exact ⟨ret_int (by rw [hc.out, d1.out, d2.out, Mx.cmp_lt (by omega)]), rfl⟩
        · go_wp2_with (refine (cmp_any _ _ _).mono ?_; rintro e w' ⟨rfl, rfl⟩)
          go_ret
          exact ⟨ret_int (by rw [hc.out, d1.out, d2.out, Mx.cmp_gt (by omega)]), rfl⟩
        · go_wp2_with (refine (cmp_any _ _ _).mono ?_; rintro e w' ⟨rfl, rfl⟩)
          go_round
          case rel => exact ⟨k + 1, by omega, by omega, by go_num, Lib.hid (by rw [hc.out, d1.out, d2.out, Mx.cmp_eq (by omega) (by omega)])⟩
          case measure => simp [intOf]; omega
      · clear h1 h2
        go_wp2
        go_ret
        exact ⟨ret_int (by rw [hc.out, d1.out, List.drop_of_length_le (by omega : ys.length ≤ k)]; rfl), rfl⟩
    · clear h1 h2
      by_cases hlt2 : k < ys.length
      · have d2 := Lib.hid (Mx.drop_at ys k hlt2)
        go_wp2
        go_ret
        exact ⟨ret_int (by rw [hc.out, d2.out, List.drop_of_length_le (by omega : xs.length ≤ k)]; rfl), rfl⟩
      · go_wp2
        go_ret
        exact ⟨ret_int (by rw [hc.out, List.drop_of_length_le (by omega : xs.length ≤ k), List.drop_of_length_le (by omega : ys.length ≤ k)]; rfl), rfl⟩

namespace Mx
def less (a0 a1 b0 b1 : Int) : Bool := decide (a0 < b0) || (a0 == b0 && decide (a1 < b1))
theorem less_cmp (a0 a1 b0 b1 : Int) : decide (cmpL [a0, a1] [b0, b1] < 0) = less a0 a1 b0 b1 := by
  unfold less
  simp only [cmpL]
  by_cases h : a0 < b0
  · simp [h]
  · by_cases h2 : b0 < a0
    · have : a0 ≠ b0 := by omega
      simp [h, h2, this]
    · have : a0 = b0 := by omega
      subst this
      by_cases h3 : a1 < b1
      · simp [h3]
      · by_cases h4 : b1 < a1 <;> simp [h3, h4]
end Mx

theorem Calls.quiet_same {P : Program} {f : FuncId} {args : Array Value} {w : World} {n : Nat} {v : Value}
    (h : Calls P f args (w.drewN n) fun e w' => e = .returned v ∧ w.drewN n = w') : Calls P f args (w.drewN n) fun e w'' => e = .returned v ∧ ∃ m, w'' = w.drewN m :=
  h.mono fun _ _ ⟨he, hm⟩ => ⟨he, n, hm.symm⟩

/-- What 'Less' asks of 'slices.Compare': the two arrays lie in the two newest blocks. -/
theorem less_part (a0 a1 b0 b1 : Int) (w : World) (n : Nat) :
    Calls Try.prog 20 #[.slice (some ⟨w.heap.size, 0, none⟩) 2 2, .slice (some ⟨w.heap.size + 1, 0, none⟩) 2 2]
      (((w.alloc (.cells #[.int .u64 a0, .int .u64 a1] 25)).alloc (.cells #[.int .u64 b0, .int .u64 b1] 25)).drewN n)
      fun e w'' => e = .returned (.int .i64 (Mx.cmpL [a0, a1] [b0, b1])) ∧ ∃ m, w'' = ((w.alloc (.cells #[.int .u64 a0, .int .u64 a1] 25)).alloc (.cells #[.int .u64 b0, .int .u64 b1] 25)).drewN m :=
  Calls.quiet_same (compare_any _ 0 2 _ 0 2 [a0, a1] [b0, b1] _
    (fun i hi => by
      match i, hi with
      | 0, _ => simp [Mx.nth]
      | 1, _ => simp [Mx.nth])
    (fun i hi => by
      match i, hi with
      | 0, _ => simp [Mx.nth]
      | 1, _ => simp [Mx.nth])
    (by simp) (by simp))

set_option maxHeartbeats 1000000 in
theorem less_any (a0 a1 b0 b1 : Int) (w : World) :
    Calls Try.prog 17 #[.agg #[.int .u64 a0, .int .u64 a1], .agg #[.int .u64 b0, .int .u64 b1]] w fun e w' => e = .returned (.bool (Mx.less a0 a1 b0 b1)) ∧ Below w.heap.size w w' := by
  go_enter Try.func17, Try.ntmps17
  go_wp2
  go_quiet ((go_at_call 20; exact less_part a0 a1 b0 b1 w _))
  go_wp2
  go_ret
  exact ⟨ret_bool (Mx.less_cmp a0 a1 b0 b1), (((Below.refl _ _).alloc (Nat.le_refl _) _).alloc (by simp) _).trans (below_drewN _ _ _)⟩

namespace Mx
/-- What is turned. -/
def neg (x : Int) : Int := 18446744073709551615 - x
theorem neg_bd (x : Int) (h0 : 0 ≤ x) (h1 : x ≤ 18446744073709551615) : 0 ≤ neg x ∧ neg x ≤ 18446744073709551615 := by unfold neg; omega
theorem neg_xor (X : Nat) (h : X < 2 ^ 64) : (2 ^ 64 - 1) ^^^ X = 2 ^ 64 - 1 - X := by
  have e := congrArg BitVec.toNat (BitVec.allOnes_xor (x := BitVec.ofNat 64 X))
  rw [BitVec.toNat_xor, BitVec.toNat_not, BitVec.toNat_allOnes, BitVec.toNat_ofNat, Nat.mod_eq_of_lt h] at e
  exact e
theorem neg_walk (x : Int) (h0 : 0 ≤ x) (h1 : x ≤ 18446744073709551615) : bits BinOp.xor IntKind.u64 IntKind.u64.max x = neg x := by
  obtain ⟨X, rfl⟩ := Int.eq_ofNat_of_zero_le h0
  have hX : X < 2 ^ 64 := by omega
  have hm : IntKind.u64.max = ((2 ^ 64 - 1 : Nat) : Int) := rfl
  rw [hm, bits_xor_u64_nat _ _ (by decide) (by omega), neg_xor X hX]
  unfold neg
  omega
end Mx

/-- ONE BLOCK HAS TURNED, and nothing else. -/
structure OneTurn (B : Nat) (o : Obj) (w w' : World) : Prop where
  os : w'.os = w.os
  tape : w'.tape = w.tape
  output : w'.output = w.output
  size : w'.heap.size = w.heap.size
  new : w'.heap[B]? = some o
  block : ∀ k, k ≠ B → w'.heap[k]? = w.heap[k]?

theorem OneTurn.below {B N : Nat} {o : Obj} {w w' : World} (h : OneTurn B o w w') (hN : N ≤ B) : Below N w w' :=
  ⟨h.os, h.tape, h.output, Nat.le_of_eq h.size.symm, fun k hk => h.block k (by omega)⟩

/-- Two cells of a block of two are stored, and something is drawn. -/
theorem turned2 (w : World) (B : Nat) (u v x y : Value) (t : TypeId) (hb : w.heap[B]? = some (.cells #[u, v] t (0, 0))) :
    OneTurn B (.cells #[x, y] t (0, 0)) w (((w.setCell ⟨B, 0, none⟩ x).setCell ⟨B, 1, none⟩ y).drew) := by
  refine ⟨rfl, rfl, rfl, by simp [World.setCell, World.drew], ?_, ?_⟩
  · show ((w.setCell ⟨B, 0, none⟩ x).setCell ⟨B, 1, none⟩ y).heap[B]? = _
    simp [World.setCell, Array.getElem?_modify, hb]
  · intro k hk
    show ((w.setCell ⟨B, 0, none⟩ x).setCell ⟨B, 1, none⟩ y).heap[k]? = _
    rw [Below.heap_setCell _ _ _ _ hk, Below.heap_setCell _ _ _ _ hk]

set_option maxHeartbeats 1000000 in
theorem take_any (B : Nat) (a b x : Int) (w : World) (a0 : 0 ≤ a) (a1 : a ≤ 18446744073709551615) (b0 : 0 ≤ b) (b1 : b ≤ 18446744073709551615) (x0 : 0 ≤ x) (x1 : x ≤ 18446744073709551615)
    (hb : w.heap[B]? = some (.cells #[.int .u64 a, .int .u64 b] 25 (0, 0))) :
    Calls Try.prog 19 #[.int .u64 x, .pointer (some ⟨B, 0, none⟩)] w fun e w' => e = .returned (.tuple #[]) ∧ OneTurn B (.cells #[.int .u64 (Mx.step a x), .int .u64 (Mx.step b (Mx.neg x))] 25 (0, 0)) w w' := by
  have ca : w.cell? ⟨B, 0, none⟩ = some (.int .u64 a) := by simp [World.cell?, hb]
  have cb : w.cell? ⟨B, 1, none⟩ = some (.int .u64 b) := by simp [World.cell?, hb]
  have fa : w.frozen? ⟨B, 0, none⟩ = false := by simp [World.frozen?, hb]
  have fb : w.frozen? ⟨B, 1, none⟩ = false := by simp [World.frozen?, hb]
  have HB := Lib.hid hb
  clear hb
  have hn := Mx.neg_walk x x0 x1
  have hn2 := Mx.neg_bd x x0 x1
  go_enter Try.func19, Try.ntmps19
  go_wp2
  go_region_with (first | (go_at_call 13; refine (step_any _ _ _ (by omega) (by omega) (by omega) (by omega)).mono ?_; rintro e w' ⟨rfl, rfl⟩))
  all_goals
    go_end0
    exact ⟨rfl, turned2 _ _ _ _ _ _ _ HB.out⟩

end Go.Proofs.Ytkknmmlfonhhaaa
