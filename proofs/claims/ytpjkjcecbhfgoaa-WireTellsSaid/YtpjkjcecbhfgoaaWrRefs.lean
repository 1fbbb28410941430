/-
  The walks of the reference of wire: made, number, read.
-/
import Derived.Test.YtpjkjcecbhfgoaaWrUse
namespace Go.Proofs.Ytpjkjcecbhfgoaa
open Go.RowKit
set_option linter.unusedSimpArgs false
set_option linter.unusedVariables false

set_option maxHeartbeats 1000000 in
theorem refmade_any (s f : Int) (w : World) : Calls Try.prog 20 #[.int .i64 s, .int .i64 f] w fun e w' => e = .returned (.bool (Wr.madeB s f)) ∧ w = w' := by
  have e : decide (0 < s) = decide (1 ≤ s) := by rw [Bool.eq_iff_iff]; simp; omega
  unfold Wr.madeB
  rw [e]
  obtain ⟨a, ha⟩ : ∃ a, decide (1 ≤ s) = a := ⟨_, rfl⟩
  obtain ⟨b, hb⟩ : ∃ a, decide (s ≤ 1048576) = a := ⟨_, rfl⟩
  obtain ⟨c, hc⟩ : ∃ a, decide (0 ≤ f) = a := ⟨_, rfl⟩
  obtain ⟨d, hd⟩ : ∃ a, decide (f < 12) = a := ⟨_, rfl⟩
  rw [ha, hb, hc, hd]
  cases a <;> cases b <;> cases c <;> cases d
  all_goals
    go_enter Try.func20, Try.ntmps20
    go_wp2
    go_ret
    exact ⟨rfl, rfl⟩

set_option maxHeartbeats 1000000 in
theorem number_any (N many : Nat) (w : World) (hN : N ≤ 18446744073709551615) (hmany : many ≤ 100) :
    Calls Try.prog 22 #[.int .u64 N, .int .i64 many] w (PutPost w w.heap.size (Wr.num N many)) := by
  obtain ⟨i0, hi, hz0, hz1, hz2⟩ := info_parts info8
  go_enter Try.func22, Try.ntmps22
  go_wp2_with fail
  go_loopw [5, 0, 6] (fun v n i wr => ∃ k : Nat, k ≤ many ∧ i = .int .i64 k ∧ n = .int .u64 ((N / 256 ^ k : Nat) : Int) ∧ OwnB wr w.heap.size v (Wr.num N k) ∧ Below w.heap.size w wr) (fun _ _ i _ => many - (intOf i).toNat)
  case atStart => exact ⟨0, Nat.zero_le _, rfl, by simp, World.ownsRow_nil _ _ _ _, Below.refl _ _⟩
  case round =>
    obtain ⟨k, hk, rfl, rfl, ho, hbel⟩ := hrel
    have hsz := hbel.size
    have hq : N / 256 ^ k ≤ 18446744073709551615 := Nat.le_trans (Nat.div_le_self _ _) hN
    have hlen := Wr.num_length k N
    by_cases hlt : k < many
    · obtain ⟨q, hqq⟩ : ∃ q, N / 256 ^ k = q := ⟨_, rfl⟩
      have hs := pow_step N k
      rw [hqq] at hq hs
      have HQ := Lib.hid hqq
      have HS := Lib.hid hs
      have HLN := Lib.hid hlen
      rw [hqq]
      clear hqq hs hlen
      unfold OwnB at ho
      rw [HLN.out] at ho
      go_wp2_with (at_builtin; refine wpList_append_own _ rfl _ _ 22 rfl w.heap.size 5 i0 (.int .u8 0) 1 1 Try.underlying22 hi hz0 hz1 hz2 rfl (by decide) _ _ _ rfl (ho.alloc _) ⟨wr.heap.size, 0, none⟩ 1 1 [.int .u8 ((q : Int) % 256)] rfl rfl (one_byte wr _ _ _ rfl) (by simp [Value.oneCell']) (by unfold maxLen; omega) (by omega) (by simp; omega) ?_; intro v2 w2 hown2 hg2 _)
      exact ⟨⟨k + 1, by omega, by go_num, by rw [← HS.out, shr8], put_step (l := []) hown2 (by rw [encB_ofNat, HQ.out, Int.natCast_emod]; rfl) (by rw [List.length_append, Wr.num_length]; simp), put_below ho hbel (Nat.le_refl _) hg2⟩, by simp [intOf]; omega⟩
    · obtain rfl : k = many := by omega
      go_wp2
      go_ret
      exact ⟨_, rfl, ho, hbel⟩

theorem mul_add (b n : Nat) (h : b < 256) (hn : 256 * n + b ≤ 18446744073709551615) : IntKind.u64.wrap (IntKind.u64.wrap (256 * (n : Int)) + (b : Int)) = ((b + 256 * n : Nat) : Int) := by
  rw [IntKind.wrap_u64, IntKind.wrap_u64]
  omega

/-- A slice of bytes of l, from place 'at_' on 'many' of them: their number, the highest first. -/
theorem rd_drop (l : List UInt8) (k : Nat) (hk : k < l.length) : Wr.rd (l.drop k) = l[k].toNat + 256 * Wr.rd (l.drop (k + 1)) := by
  rw [List.drop_eq_getElem_cons hk]
  rfl

set_option maxHeartbeats 1000000 in
theorem read_any (b o c : Nat) (l : List UInt8) (p many : Nat) (w : World) (hm : many ≤ 8) (hl : p + many ≤ l.length) (hlen : l.length ≤ 9223372036854775807)
    (hc : ∀ i (hi : i < l.length), w.cell? ⟨b, o + i, none⟩ = some (.int .u8 (l[i].toNat : Int))) :
    Calls Try.prog 23 #[.slice (some ⟨b, o, none⟩) l.length c, .int .i64 p, .int .i64 many] w fun e w' => e = .returned (.int .u64 (Wr.rd ((l.drop p).take many))) ∧ w = w' := by
  obtain ⟨m, hmm⟩ : ∃ m, (l.drop p).take many = m := ⟨_, rfl⟩
  have hml : m.length = many := by rw [← hmm]; simp; omega
  have hmc : ∀ j (hj : j < m.length), w.cell? ⟨b, o + (p + j), none⟩ = some (.int .u8 (m[j].toNat : Int)) := by
    intro j hj
    subst hmm
    rw [hc (p + j) (by simp at hj; omega)]
    simp
  rw [hmm]
  have HC := Lib.hid hmc
  have HML := Lib.hid hml
  have w0 : IntKind.i64.wrap ((many : Int) - 1) = (many : Int) - 1 := IntWalk.i64_in _ (by omega)
  clear hmc hml hc hmm
  obtain ⟨n, hn⟩ : ∃ n, l.length = n := ⟨_, rfl⟩
  rw [hn] at hl hlen ⊢
  clear hn
  go_enter Try.func23, Try.ntmps23
  go_wp2_with fail
  go_loop [7, 8] (fun x i => ∃ k : Nat, k ≤ many ∧ i = .int .i64 ((k : Int) - 1) ∧ x = .int .u64 (Wr.rd (m.drop k) : Nat)) (fun _ i => (intOf i + 1).toNat)
  case atStart => exact ⟨many, Nat.le_refl _, rfl, by rw [List.drop_of_length_le (by rw [HML.out]; exact Nat.le_refl _)]; rfl⟩
  case round =>
    obtain ⟨k, hk, rfl, rfl⟩ := hrel
    match k, hk with
    | 0, hk =>
      go_wp2
      go_ret
      exact ⟨rfl, rfl⟩
    | j + 1, hk =>
      have hj : j < m.length := by rw [HML.out]; omega
      have hj1 : ((j + 1 : Nat) : Int) - 1 = j := by omega
      rw [hj1]
      have e1 := HC.out j hj
      have e2 := Lib.hid (rd_drop m j hj)
      have hlt : Wr.rd (m.drop (j + 1)) < 256 ^ 7 := Nat.lt_of_lt_of_le (Wr.rd_lt _) (Nat.pow_le_pow_right (by omega) (by rw [List.length_drop, HML.out]; omega))
      obtain ⟨y, hy⟩ : ∃ y, m[j].toNat = y := ⟨_, rfl⟩
      have hy1 : y < 256 := by rw [← hy]; exact m[j].toNat_lt
      rw [hy] at e1
      have HY := Lib.hid hy
      clear hy
      obtain ⟨x, hx⟩ : ∃ x, Wr.rd (m.drop (j + 1)) = x := ⟨_, rfl⟩
      rw [hx] at hlt ⊢
      have HX := Lib.hid hx
      clear hx
      have q1 : IntKind.i64.wrap ((p : Int) + j) = ((p + j : Nat) : Int) := IntWalk.i64_in _ (by omega)
      have q2 : (0 : Int) ≤ ((p + j : Nat) : Int) := by omega
      have q3 : ((p + j : Nat) : Int) < n := by omega
      have q4 : IntKind.i64.wrap ((j : Int) - 1) = (j : Int) - 1 := IntWalk.i64_in _ (by omega)
      have q5 : IntKind.u64.wrap (y : Int) = y := by rw [IntKind.wrap_u64]; omega
      have q6 := mul_add y x hy1 (by omega)
      have q7 : decide ((0 : Int) ≤ j) = true := decide_eq_true (by omega)
      go_wp2
      exact ⟨⟨j, by omega, rfl, by rw [e2.out, HY.out, HX.out]; congr 1; omega⟩, by simp [intOf]⟩

end Go.Proofs.Ytpjkjcecbhfgoaa
