/-
  The plain laws of wire, further: what bytes of a block and of a vote are, and back. No program in sight.
-/
import Derived.Test.YtpjkjcecbhfgoaaWrPlain
namespace Go.Proofs.Ytpjkjcecbhfgoaa.Wr
set_option linter.unusedSimpArgs false
set_option linter.unusedVariables false

/-- A word of 64 bits. -/
def U (x : Int) : Prop := 0 ≤ x ∧ x ≤ 18446744073709551615

section
variable (k : UInt8) (s f p q : Nat) (t : List UInt8)
theorem slot_head : slotAt (headB k s f p q ++ t) = (s % 256 ^ 4 : Nat) := by
  unfold slotAt headB
  simp [List.take_append, num_length, rd_num, List.take_of_length_le]
theorem who_head : whoAt (headB k s f p q ++ t) = (f % 256 ^ 1 : Nat) := by
  unfold whoAt headB
  simp [List.take_append, List.drop_append, num_length, rd_num, List.take_of_length_le, List.drop_of_length_le]
theorem p_head : numAt (headB k s f p q ++ t) 6 = (p % 256 ^ 8 : Nat) := by
  unfold numAt headB
  simp [List.take_append, List.drop_append, num_length, rd_num, List.take_of_length_le, List.drop_of_length_le]
theorem q_head : numAt (headB k s f p q ++ t) 14 = (q % 256 ^ 8 : Nat) := by
  unfold numAt headB
  simp [List.take_append, List.drop_append, num_length, rd_num, List.take_of_length_le, List.drop_of_length_le]
theorem t_head : numAt (headB k s f p q ++ t) 22 = rd (t.take 8) := by
  unfold numAt
  rw [List.drop_append, List.drop_of_length_le (by rw [head_length]; omega), head_length]
  simp
theorem first_head : (headB k s f p q ++ t)[0]?.getD 0 = k := rfl
end

theorem made_bounds {s f : Int} (h : madeB s f = true) : (0 < s ∧ s ≤ 1048576) ∧ (0 ≤ f ∧ f < 12) := by
  unfold madeB at h
  simp only [Bool.and_eq_true, decide_eq_true_eq] at h
  omega

theorem back_small {x : Int} {m : Nat} (h0 : 0 ≤ x) (h : x < m) : ((x.toNat % m : Nat) : Int) = x := by
  rw [Nat.mod_eq_of_lt (by omega)]
  omega

theorem getS_vote (v : V) (hm : madeB v.slot v.who = true) (hp : U v.p) (hq : U v.q) : getS (voteB v) = ⟨B.zero, v, true, 0⟩ := by
  have hv : isV (voteB v) = true := by unfold isV; rw [vote_length]; rfl
  obtain ⟨h1, h2⟩ := made_bounds hm
  have e := List.append_nil (voteB v)
  have e1 : slotAt (voteB v) = v.slot := by rw [← e]; unfold voteB; rw [slot_head, back_small (by omega) (by omega)]
  have e2 : whoAt (voteB v) = v.who := by rw [← e]; unfold voteB; rw [who_head, back_small (by omega) (by omega)]
  have e3 : numAt (voteB v) 6 = v.p := by rw [← e]; unfold voteB; rw [p_head, back_small hp.1 (by have := hp.2; omega)]
  have e4 : numAt (voteB v) 14 = v.q := by rw [← e]; unfold voteB; rw [q_head, back_small hq.1 (by have := hq.2; omega)]
  unfold getS
  rw [e1, e2, e3, e4, hm, hv]
  rfl

theorem getS_block (b : B) (hm : madeB b.slot b.who = true) (hp : U b.p) (hq : U b.q) (ht : U b.salt) : getS (blockB b) = ⟨b, V.zero, false, 0⟩ := by
  have hv : isV (blockB b) = false := by unfold isV; rw [block_length]; rfl
  have hb : isB (blockB b) = true := by unfold isB; rw [block_length]; rfl
  obtain ⟨h1, h2⟩ := made_bounds hm
  have e1 : slotAt (blockB b) = b.slot := by unfold blockB; rw [slot_head, back_small (by omega) (by omega)]
  have e2 : whoAt (blockB b) = b.who := by unfold blockB; rw [who_head, back_small (by omega) (by omega)]
  have e3 : numAt (blockB b) 6 = b.p := by unfold blockB; rw [p_head, back_small hp.1 (by have := hp.2; omega)]
  have e4 : numAt (blockB b) 14 = b.q := by unfold blockB; rw [q_head, back_small hq.1 (by have := hq.2; omega)]
  have e5 : numAt (blockB b) 22 = b.salt := by
    unfold blockB
    rw [t_head, List.take_of_length_le (by rw [num_length]; omega), rd_num, back_small ht.1 (by have := ht.2; omega)]
  unfold getS
  rw [e1, e2, e3, e4, e5, hm, hv, hb]
  rfl

theorem getS_len (x : List UInt8) (h2 : x.length ≠ 22) (h3 : x.length ≠ 30) : getS x = G.none := by
  unfold getS isV isB
  simp [h2, h3]

/-- So many bytes from a place on are the number that they are. -/
theorem num_at (x : List UInt8) (a k : Nat) (h : a + k ≤ x.length) : num (rd ((x.drop a).take k)) k = (x.drop a).take k := by
  have hl : ((x.drop a).take k).length = k := by simp; omega
  have := num_rd ((x.drop a).take k)
  rwa [hl] at this

theorem split_at (x : List UInt8) (a k : Nat) : x.drop a = (x.drop a).take k ++ x.drop (a + k) := by
  rw [← List.drop_drop, List.take_append_drop]

theorem head_back (x : List UInt8) (h : 22 ≤ x.length) : headB (x[0]?.getD 0) (slotAt x).toNat (whoAt x).toNat (numAt x 6).toNat (numAt x 14).toNat ++ x.drop 22 = x := by
  unfold headB slotAt whoAt numAt
  simp only [Int.toNat_natCast]
  rw [num_at x 1 4 (by omega), num_at x 5 1 (by omega), num_at x 6 8 (by omega), num_at x 14 8 (by omega)]
  obtain ⟨c, r, rfl⟩ : ∃ c r, x = c :: r := by
    cases x with
    | nil => simp at h
    | cons c r => exact ⟨c, r, rfl⟩
  have e1 := split_at (c :: r) 1 4
  have e2 := split_at (c :: r) 5 1
  have e3 := split_at (c :: r) 6 8
  have e4 := split_at (c :: r) 14 8
  simp only [List.getElem?_cons_zero, Option.getD_some, List.cons_append, List.append_assoc]
  rw [← e4, ← e3, ← e2, ← e1]
  rfl

theorem vote_back (x : List UInt8) (h : isV x = true) : voteB ⟨whoAt x, slotAt x, numAt x 6, numAt x 14⟩ = x := by
  unfold isV at h
  simp only [Bool.and_eq_true, decide_eq_true_eq] at h
  have e := head_back x (by omega)
  rw [h.2, List.drop_of_length_le (by omega), List.append_nil] at e
  exact e

theorem block_back (x : List UInt8) (h : isB x = true) : blockB ⟨slotAt x, whoAt x, numAt x 6, numAt x 14, numAt x 22⟩ = x := by
  unfold isB at h
  simp only [Bool.and_eq_true, decide_eq_true_eq] at h
  have e := head_back x (by omega)
  rw [h.2] at e
  unfold blockB
  rw [show num (numAt x 22).toNat 8 = x.drop 22 from by
    unfold numAt
    rw [Int.toNat_natCast, num_at x 22 8 (by omega), List.take_of_length_le (by simp; omega)]]
  exact e

theorem rd_take8 (l : List UInt8) : U (rd (l.take 8)) := by
  have h := rd_lt (l.take 8)
  have h2 : (256 : Nat) ^ (l.take 8).length ≤ 256 ^ 8 := Nat.pow_le_pow_right (by omega) (by simp; omega)
  unfold U
  omega
theorem num_U (x : List UInt8) (a : Nat) : U (numAt x a) := rd_take8 _

/-- Two well made votes with the same bytes are the same; so are two blocks. -/
theorem vote_inj {v w : V} (hv : madeB v.slot v.who = true) (hp : U v.p) (hq : U v.q) (hw : madeB w.slot w.who = true) (hr : U w.p) (hs : U w.q) (h : voteB v = voteB w) : v = w := by
  have := getS_vote v hv hp hq
  rw [h, getS_vote w hw hr hs] at this
  injection this with _ e _ _
  exact e.symm
theorem block_inj {v w : B} (hv : madeB v.slot v.who = true) (hp : U v.p) (hq : U v.q) (ht : U v.salt) (hw : madeB w.slot w.who = true) (hr : U w.p) (hs : U w.q) (hx : U w.salt) (h : blockB v = blockB w) : v = w := by
  have := getS_block v hv hp hq ht
  rw [h, getS_block w hw hr hs hx] at this
  injection this with e _ _ _
  exact e.symm

end Go.Proofs.Ytpjkjcecbhfgoaa.Wr
