/-
  The walks of wire's made, head, Block and Vote.
-/
import Derived.Test.YtpjkjcecbhfgoaaWrPut
namespace Go.Proofs.Ytpjkjcecbhfgoaa
open Go.RowKit
set_option linter.unusedSimpArgs false
set_option linter.unusedVariables false

set_option maxHeartbeats 400000 in
theorem made_any (s f : Int) (w : World) :
    Calls Try.prog 17 #[.int .i64 s, .int .i64 f] w fun e w' => e = .returned (.bool (Wr.madeB s f)) ∧ w = w' := by
  unfold Wr.madeB
  cases h1 : decide (0 < s)
  · go_enter Try.func17, Try.ntmps17
    go_wp2
    go_ret
    exact ⟨rfl, rfl⟩
  cases h2 : decide (s ≤ 1048576)
  · go_enter Try.func17, Try.ntmps17
    go_wp2
    go_ret
    exact ⟨rfl, rfl⟩
  cases h3 : decide (0 ≤ f)
  · go_enter Try.func17, Try.ntmps17
    go_wp2
    go_ret
    exact ⟨rfl, rfl⟩
  cases h4 : decide (f < 12)
  all_goals
    go_enter Try.func17, Try.ntmps17
    go_wp2
    go_ret
    exact ⟨rfl, rfl⟩

/-- A new slice of one byte is a row of the call's own. -/
theorem own_one (w : World) (k : UInt8) : OwnB (w.alloc (.cells #[encB k] 5)) w.heap.size (.slice (some ⟨w.heap.size, 0, none⟩) 1 1) [k] := by
  refine ⟨by simp, .inr ⟨w.heap.size, 1, _, rfl, Nat.le_refl _, heap_alloc_new w _, Nat.le_refl _, by unfold maxLen; decide, by simp, by simp⟩⟩

theorem OwnB.lower {w : World} {base base' : Nat} {v : Value} {l : List UInt8} (h : OwnB w base v l) (hb : base' ≤ base) : OwnB w base' v l :=
  ⟨h.1, h.2.elim Or.inl (fun ⟨g, cap, cur, hv, hg, r⟩ => Or.inr ⟨g, cap, cur, hv, Nat.le_trans hb hg, r⟩)⟩
theorem OwnB.below {w w' : World} {base : Nat} {v : Value} {l : List UInt8} {o : Obj} (h : OwnB w base v l) : OwnB (w.alloc o) base v l := h.alloc _

/-- 'put' at a number of bytes that stands as a numeral. -/
theorem put_c (c : Int) (many : Nat) (hc : c = many) (base : Nat) (v : Value) (l : List UInt8) (N : Nat) (w : World) (hN : N ≤ 18446744073709551615) (hmany : many ≤ 100) (hl : l.length ≤ 1000) (hown : OwnB w base v l) (hb : base ≤ w.heap.size) :
    Calls Try.prog 18 #[v, .int .u64 N, .int .i64 c] w (PutPost w base (l ++ Wr.num N many)) := by
  subst hc
  exact put_any base v l N many w hN hmany hl hown hb

theorem index_id (x0 x1 : Value) : (∀ w, (Instr.index 26 (.agg #[x0, x1]) (.int .i64 0)).run Try.prog w = .ok x0 w) ∧ (∀ w, (Instr.index 26 (.agg #[x0, x1]) (.int .i64 1)).run Try.prog w = .ok x1 w) :=
  ⟨fun _ => by kernel_rfl, fun _ => by kernel_rfl⟩

/-- What stands in the row when k words of the id are put. -/
def upto (k : UInt8) (s f p q : Nat) : Nat → List UInt8
  | 0 => ([k] ++ Wr.num s 4) ++ Wr.num f 1
  | 1 => (([k] ++ Wr.num s 4) ++ Wr.num f 1) ++ Wr.num p 8
  | _ => ((([k] ++ Wr.num s 4) ++ Wr.num f 1) ++ Wr.num p 8) ++ Wr.num q 8
theorem upto_two (k : UInt8) (s f p q : Nat) : upto k s f p q 2 = Wr.headB k s f p q := by simp [upto, Wr.headB]
theorem upto_len (k : UInt8) (s f p q j : Nat) : (upto k s f p q j).length ≤ 22 := by
  unfold upto
  split <;> simp [Wr.num_length]

set_option maxHeartbeats 1000000 in
theorem head_any (k : UInt8) (s f p q : Nat) (w : World) (hs : s ≤ 1048576) (hf : f < 12) (hp : p ≤ 18446744073709551615) (hq : q ≤ 18446744073709551615) :
    Calls Try.prog 19 #[.int .u8 k.toNat, .int .i64 s, .int .i64 f, .agg #[.int .u64 p, .int .u64 q]] w (PutPost w w.heap.size (Wr.headB k s f p q)) := by
  obtain ⟨x0, x1⟩ := index_id (.int .u64 p) (.int .u64 q)
  have hone := own_one (w.alloc (.cells #[.int .u64 p, .int .u64 q] 26)) k
  rw [World.size_alloc] at hone
  have HO := Lib.hid hone
  clear hone
  go_enter Try.func19, Try.ntmps19
  go_wp2_with fail
  refine (put_c 4 4 rfl (w.heap.size + 1) _ [k] s _ (by omega) (by omega) (by simp) HO.out (by simp)).mono ?_
  rintro e w1 ⟨v1, rfl, o1, b1⟩
  go_wp2_with fail
  have z1 := b1.size
  simp only [World.size_alloc] at z1
  refine (put_c 1 1 rfl (w.heap.size + 1) _ _ f _ (by omega) (by omega) (by simp [Wr.num_length]) o1 (by omega)).mono ?_
  rintro e w2 ⟨v2, rfl, o2, b2⟩
  have b12 := b1.trans b2
  have z2 := b2.size
  have c0 : w2.cell? ⟨w.heap.size, 0, none⟩ = some (.int .u64 p) := by
    rw [b12.cell (p := ⟨w.heap.size, 0, none⟩) (Nat.lt_succ_self _)]
    rw [((Below.refl _ (w.alloc (.cells #[.int .u64 p, .int .u64 q] 26))).alloc (Nat.le_refl _) _).cell (p := ⟨w.heap.size, 0, none⟩) (by simp)]
    exact cell_at (heap_alloc_new w _) 0
  have c1 : w2.cell? ⟨w.heap.size, 1, none⟩ = some (.int .u64 q) := by
    rw [b12.cell (p := ⟨w.heap.size, 1, none⟩) (Nat.lt_succ_self _)]
    rw [((Below.refl _ (w.alloc (.cells #[.int .u64 p, .int .u64 q] 26))).alloc (Nat.le_refl _) _).cell (p := ⟨w.heap.size, 1, none⟩) (by simp)]
    exact cell_at (heap_alloc_new w _) 1
  have hb : Below w.heap.size w w2 := (((Below.refl _ w).alloc (Nat.le_refl _) (.cells #[.int .u64 p, .int .u64 q] 26)).alloc (by simp) (.cells #[.int .u8 k.toNat] 5)).trans (b12.mono (Nat.le_succ _))
  have HB := Lib.hid hb
  have O2 := Lib.hid o2
  clear b1 b2 b12 o1 o2 hb
  go_wp2_with fail
  go_loopw [9, 11, 22] (fun v _ i wr => ∃ j : Nat, j ≤ 2 ∧ i = .int .i64 j ∧ OwnB wr (w.heap.size + 1) v (upto k s f p q j) ∧ Below (w.heap.size + 1) w2 wr) (fun _ _ i _ => 2 - (intOf i).toNat)
  case atStart => exact ⟨0, by omega, rfl, O2.out, Below.refl _ _⟩
  case round =>
    obtain ⟨j, hj, rfl, ho, hbel⟩ := hrel
    have hz := hbel.size
    have HL := Lib.hid (upto_len k s f p q j)
    rcases (by omega : j = 0 ∨ j = 1 ∨ j = 2) with rfl | rfl | rfl
    · go_wp2_with fail
      refine (put_c 8 8 rfl (w.heap.size + 1) _ _ p _ (by omega) (by omega) (Nat.le_trans HL.out (by omega)) ho (by omega)).mono ?_
      rintro e w3 ⟨v3, rfl, o3, b3⟩
      go_wp2
      exact ⟨⟨1, by omega, rfl, o3, hbel.trans b3⟩, by simp [intOf]⟩
    · go_wp2_with fail
      refine (put_c 8 8 rfl (w.heap.size + 1) _ _ q _ (by omega) (by omega) (Nat.le_trans HL.out (by omega)) ho (by omega)).mono ?_
      rintro e w3 ⟨v3, rfl, o3, b3⟩
      go_wp2
      exact ⟨⟨2, by omega, rfl, o3, hbel.trans b3⟩, by simp [intOf]⟩
    · go_wp2
      go_ret
      rw [upto_two] at ho
      exact ⟨_, rfl, OwnB.lower ho (Nat.le_succ _), HB.out.trans (hbel.mono (Nat.le_succ _))⟩

end Go.Proofs.Ytpjkjcecbhfgoaa
