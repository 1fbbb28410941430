/-
  The walks of package ratio.
-/
import Derived.Test.YtbledgcfpfjfnaaCmp
import Derived.Test.YtbledgcfpfjfnaaRtPlain
import Derived.ChangeKeysEq
import Derived.Shelf.Bits.Mul64
namespace Go.Proofs.Ytbledgcfpfjfnaa
open Go.RowKit
set_option linter.unusedSimpArgs false
set_option linter.unusedVariables false

set_option maxHeartbeats 400000 in
theorem may_any (n : Int) (w : World) :
    Calls Try.prog 11 #[.int .i64 n] w fun e w' => e = .returned (.bool (Rt.mayB n)) ∧ w = w' := by
  by_cases h : 0 ≤ n
  · go_enter Try.func11, Try.ntmps11
    go_wp2
    go_ret
    exact ⟨ret_bool (by simp [Rt.mayB, h]), rfl⟩
  · go_enter Try.func11, Try.ntmps11
    go_wp2
    go_ret
    exact ⟨ret_bool (by simp [Rt.mayB]; omega), rfl⟩

set_option maxHeartbeats 400000 in
theorem bad_any (n : Int) (w : World) :
    Calls Try.prog 25 #[.int .i64 n] w fun e w' => e = .returned (.bool (!Rt.mayB n)) ∧ w = w' := by
  go_enter Try.func25, Try.ntmps25
  go_wp2_with (refine (may_any _ _).mono ?_; rintro e w' ⟨rfl, rfl⟩)
  go_ret
  exact ⟨rfl, rfl⟩

set_option maxHeartbeats 1000000 in
theorem index_any (b o c : Nat) (xs : List Int) (w : World) (h : ∀ i, i < xs.length → w.cell? ⟨b, o + i, none⟩ = some (.int .i64 (Mx.nth xs i))) (hm : xs.length ≤ 9223372036854775807) :
    Calls Try.prog 28 #[.slice (some ⟨b, o, none⟩) xs.length c, .func (.func 25) #[] #[]] w fun e w' => e = .returned (.int .i64 (Rt.idx 0 xs)) ∧ w = w' := by
  go_enter Try.func28, Try.ntmps28
  go_wp2
  go_loop [5, 8] (fun _ i => ∃ k : Nat, k ≤ xs.length ∧ i = .int .i64 k ∧ Hid (Rt.idx 0 xs = Rt.idx k (xs.drop k))) (fun _ i => xs.length - (intOf i).toNat)
  case atStart => exact ⟨0, Nat.zero_le _, rfl, Lib.hid rfl⟩
  case round =>
    obtain ⟨k, hk, rfl, hc⟩ := hrel
    by_cases hlt : k < xs.length
    · have a1 := h k hlt
      have d1 := Lib.hid (Mx.drop_at xs k hlt)
      clear h
      obtain ⟨m, hmay⟩ : ∃ m, Rt.mayB (Mx.nth xs k) = m := ⟨_, rfl⟩
      cases m
      · have hf : Hid (Rt.idx 0 xs = k) := Lib.hid (by rw [hc.out, d1.out]; simp [Rt.idx, hmay])
        go_wp2_with (refine (bad_any _ _).mono ?_; rintro e w' ⟨rfl, rfl⟩)
        go_ret
        exact ⟨ret_int hf.out.symm, rfl⟩
      · have hf : Hid (Rt.idx 0 xs = Rt.idx (k + 1) (xs.drop (k + 1))) := Lib.hid (by rw [hc.out, d1.out]; simp only [Rt.idx, hmay, if_true])
        go_wp2_with (refine (bad_any _ _).mono ?_; rintro e w' ⟨rfl, rfl⟩)
        go_round
        case rel => exact ⟨k + 1, by omega, by go_num, hf⟩
        case measure => simp [intOf]; omega
    · clear h
      go_wp2
      go_ret
      exact ⟨ret_int (by rw [hc.out, List.drop_of_length_le (by omega : xs.length ≤ k)]; rfl), rfl⟩

set_option maxHeartbeats 400000 in
theorem contains_any (b o c : Nat) (xs : List Int) (w : World) (h : ∀ i, i < xs.length → w.cell? ⟨b, o + i, none⟩ = some (.int .i64 (Mx.nth xs i))) (hm : xs.length ≤ 9223372036854775807) :
    Calls Try.prog 24 #[.slice (some ⟨b, o, none⟩) xs.length c, .func (.func 25) #[] #[]] w fun e w' => e = .returned (.bool (!(xs.all Rt.mayB))) ∧ w = w' := by
  have hi := Lib.hid (Rt.idx_ge xs 0)
  have H := Lib.hid h
  clear h
  go_enter Try.func24, Try.ntmps24
  go_wp2_with (refine (index_any _ _ _ _ _ H.out hm).mono ?_; rintro e w' ⟨rfl, rfl⟩)
  go_ret
  exact ⟨ret_bool hi.out, rfl⟩

set_option maxHeartbeats 400000 in
theorem fine_any (b o c n : Nat) (xs : List Int) (w : World) (hn : xs.length = n) (h : ∀ i, i < xs.length → w.cell? ⟨b, o + i, none⟩ = some (.int .i64 (Mx.nth xs i))) (hm : xs.length ≤ 9223372036854775807) :
    Calls Try.prog 19 #[.slice (some ⟨b, o, none⟩) n c] w fun e w' => e = .returned (.bool (xs.all Rt.mayB)) ∧ w = w' := by
  subst hn
  have H := Lib.hid h
  clear h
  go_enter Try.func19, Try.ntmps19
  go_wp2_with (refine (contains_any _ _ _ _ _ H.out hm).mono ?_; rintro e w' ⟨rfl, rfl⟩)
  go_ret
  exact ⟨ret_bool (by simp), rfl⟩

end Go.Proofs.Ytbledgcfpfjfnaa
