/-
  The walks of cmp.Compare and slices.Compare at words of 64 bits.
-/
import Derived.Test.YtbledgcfpfjfnaaRows
import Derived.WalkKit
import Derived.WalkSpells
import Derived.WalkLawsBesides
import Derived.Lib.Hide
import Derived.Deep.QuietTactic
import Derived.BigQuiet
import Derived.Deep.RegionWith
namespace Go.Proofs.Ytbledgcfpfjfnaa
open Go.RowKit
set_option linter.unusedSimpArgs false
set_option linter.unusedVariables false

theorem ret_val {a b : Value} (h : a = b) : Ending.returned a = .returned b := by rw [h]
theorem ret_int {k : IntKind} {a b : Int} (h : a = b) : Ending.returned (.int k a) = .returned (.int k b) := by rw [h]
theorem ret_bool {a b : Bool} (h : a = b) : Ending.returned (.bool a) = .returned (.bool b) := by rw [h]
theorem ret_both {a b : Int} {c d : Bool} (h : a = b) (h2 : c = d) : Ending.returned (.tuple #[.int .i64 a, .bool c]) = .returned (.tuple #[.int .i64 b, .bool d]) := by rw [h, h2]
theorem below_drewN (B : Nat) (w : World) (n : Nat) : Below B w (w.drewN n) := ⟨rfl, rfl, rfl, Nat.le_refl _, fun _ _ => rfl⟩
theorem below_step {w0 w w' : World} (h : Below w0.heap.size w0 w) (hb : Below w.heap.size w w') : Below w0.heap.size w0 w' := h.trans (hb.mono h.size)
theorem cell_at {w : World} {g : Nat} {cs : Array Value} {t : TypeId} (h : w.heap[g]? = some (.cells cs t (0, 0))) (i : Nat) : w.cell? ⟨g, i, none⟩ = cs[i]? := by simp [World.cell?, h]
theorem Calls.quiet_same {P : Program} {f : FuncId} {args : Array Value} {w : World} {n : Nat} {v : Value}
    (h : Calls P f args (w.drewN n) fun e w' => e = .returned v ∧ w.drewN n = w') : Calls P f args (w.drewN n) fun e w'' => e = .returned v ∧ ∃ m, w'' = w.drewN m :=
  h.mono fun _ _ ⟨he, hm⟩ => ⟨he, n, hm.symm⟩

namespace Mx
def nth (l : List Int) (k : Nat) : Int := l[k]?.getD 0
/-- Two lists of words, held against each other: -1, 0, 1. -/
def cmpL : List Int → List Int → Int
  | [], [] => 0
  | [], _ :: _ => -1
  | _ :: _, [] => 1
  | x :: xs, y :: ys => if x < y then -1 else if y < x then 1 else cmpL xs ys
end Mx

set_option maxHeartbeats 400000 in
theorem isNaN_any (x : Int) (w : World) :
    Calls Try.prog 29 #[.int .u64 x] w fun e w' => e = .returned (.bool false) ∧ w = w' := by
  go_enter Try.func29, Try.ntmps29
  go_wp2
  go_ret
  exact ⟨by simp, rfl⟩

set_option maxHeartbeats 400000 in
theorem cmp_any (x y : Int) (w : World) :
    Calls Try.prog 27 #[.int .u64 x, .int .u64 y] w fun e w' => e = .returned (.int .i64 (if x < y then -1 else if y < x then 1 else 0)) ∧ w = w' := by
  by_cases h : x < y
  · go_enter Try.func27, Try.ntmps27
    go_wp2_with (refine (isNaN_any _ _).mono ?_; rintro e w' ⟨rfl, rfl⟩)
    go_ret
    exact ⟨by simp [h], rfl⟩
  · by_cases h2 : y < x
    · go_enter Try.func27, Try.ntmps27
      go_wp2_with (refine (isNaN_any _ _).mono ?_; rintro e w' ⟨rfl, rfl⟩)
      go_ret
      exact ⟨by simp [h, h2], rfl⟩
    · go_enter Try.func27, Try.ntmps27
      go_wp2_with (refine (isNaN_any _ _).mono ?_; rintro e w' ⟨rfl, rfl⟩)
      go_ret
      exact ⟨by simp [h, h2], rfl⟩

theorem Mx.cmp_lt {x y : Int} {xs ys : List Int} (h : x < y) : Mx.cmpL (x :: xs) (y :: ys) = -1 := by simp [Mx.cmpL, h]
theorem Mx.cmp_gt {x y : Int} {xs ys : List Int} (h : y < x) : Mx.cmpL (x :: xs) (y :: ys) = 1 := by
  have : ¬ x < y := by omega
  simp [Mx.cmpL, h, this]
theorem Mx.cmp_eq {x y : Int} {xs ys : List Int} (h : ¬ x < y) (h2 : ¬ y < x) : Mx.cmpL (x :: xs) (y :: ys) = Mx.cmpL xs ys := by simp [Mx.cmpL, h, h2]

theorem Mx.drop_at (xs : List Int) (k : Nat) (h : k < xs.length) : xs.drop k = Mx.nth xs k :: xs.drop (k + 1) := by
  unfold Mx.nth; rw [List.drop_eq_getElem_cons h, List.getElem?_eq_getElem h]; rfl

set_option maxHeartbeats 1000000 in
theorem compare_any (b1 o1 c1 b2 o2 c2 : Nat) (xs ys : List Int) (w : World)
    (h1 : ∀ i, i < xs.length → w.cell? ⟨b1, o1 + i, none⟩ = some (.int .u64 (Mx.nth xs i)))
    (h2 : ∀ i, i < ys.length → w.cell? ⟨b2, o2 + i, none⟩ = some (.int .u64 (Mx.nth ys i)))
    (m1 : xs.length ≤ 9223372036854775807) (m2 : ys.length ≤ 9223372036854775807) :
    Calls Try.prog 21 #[.slice (some ⟨b1, o1, none⟩) xs.length c1, .slice (some ⟨b2, o2, none⟩) ys.length c2] w fun e w' => e = .returned (.int .i64 (Mx.cmpL xs ys)) ∧ w = w' := by
  go_enter Try.func21, Try.ntmps21
  go_wp2
  go_loop [11] (fun i => ∃ k : Nat, k ≤ xs.length ∧ k ≤ ys.length ∧ i = .int .i64 k ∧ Hid (Mx.cmpL xs ys = Mx.cmpL (xs.drop k) (ys.drop k))) (fun i => xs.length - (intOf i).toNat)
  case atStart => exact ⟨0, Nat.zero_le _, Nat.zero_le _, rfl, Lib.hid rfl⟩
  case round =>
    obtain ⟨k, hk, hk2, rfl, hc⟩ := hrel
    by_cases hlt : k < xs.length
    · have a1 := h1 k hlt
      have d1 := Lib.hid (Mx.drop_at xs k hlt)
      by_cases hlt2 : k < ys.length
      · have a2 := h2 k hlt2
        have d2 := Lib.hid (Mx.drop_at ys k hlt2)
        clear h1 h2
        rcases (by omega : Mx.nth xs k < Mx.nth ys k ∨ Mx.nth ys k < Mx.nth xs k ∨ (¬ Mx.nth xs k < Mx.nth ys k ∧ ¬ Mx.nth ys k < Mx.nth xs k)) with h | h | ⟨h, h'⟩
        · go_wp2_with (refine (cmp_any _ _ _).mono ?_; rintro e w' ⟨rfl, rfl⟩)
          go_ret
          exact ⟨ret_int (by rw [hc.out, d1.out, d2.out, Mx.cmp_lt (by omega)]), rfl⟩
        · go_wp2_with (refine (cmp_any _ _ _).mono ?_; rintro e w' ⟨rfl, rfl⟩)
          go_ret
          exact ⟨ret_int (by rw [hc.out, d1.out, d2.out, Mx.cmp_gt (by omega)]), rfl⟩
        · go_wp2_with (refine (cmp_any _ _ _).mono ?_; rintro e w' ⟨rfl, rfl⟩)
          go_round
          case rel => exact ⟨k + 1, by omega, by omega, by go_num, Lib.hid (by rw [hc.out, d1.out, d2.out, Mx.cmp_eq (by omega) (by omega)])⟩
          case measure => simp [intOf]; omega
      · clear h1 h2
        go_wp2
        go_ret
        exact ⟨ret_int (by rw [hc.out, d1.out, List.drop_of_length_le (by omega : ys.length ≤ k)]; rfl), rfl⟩
    · clear h1 h2
      by_cases hlt2 : k < ys.length
      · have d2 := Lib.hid (Mx.drop_at ys k hlt2)
        go_wp2
        go_ret
        exact ⟨ret_int (by rw [hc.out, d2.out, List.drop_of_length_le (by omega : xs.length ≤ k)]; rfl), rfl⟩
      · go_wp2
        go_ret
        exact ⟨ret_int (by rw [hc.out, List.drop_of_length_le (by omega : xs.length ≤ k), List.drop_of_length_le (by omega : ys.length ≤ k)]; rfl), rfl⟩

end Go.Proofs.Ytbledgcfpfjfnaa
