/-
  The plain laws of mix: words of 64 bits as natural numbers. No program in sight.
-/
namespace Go.Proofs.Ytkknmmlfonhhaaa.Mx

def M : Nat := 18446744073709551616

theorem M_eq : M = 2 ^ 64 := rfl

def fold (x s : Nat) : Nat := x ^^^ x / s
def wordN (x : Nat) : Nat :=
  fold (fold (fold x 1073741824 * 13787848793156543929 % M) 134217728 * 10723151780598845931 % M) 2147483648
def stepN (h x : Nat) : Nat := wordN (((h ^^^ x) + 11400714819323198485) % M)

/-- What the words of an ID are behind a list: the second word hangs on what is turned. -/
def takeN (p : Nat × Nat) (x : Nat) : Nat × Nat := (stepN p.1 x, stepN p.2 (M - 1 - x))
def foldN (l : List Nat) : Nat × Nat := l.foldl takeN (1, 2)
def ofN (l : List Nat) : Nat × Nat := takeN (foldN l) l.length
def lessN (a b : Nat × Nat) : Bool := decide (a.1 < b.1) || (a.1 == b.1 && decide (a.2 < b.2))

theorem fold_lt (x s : Nat) (hx : x < M) : fold x s < M := by
  unfold fold
  rw [M_eq] at *
  exact Nat.xor_lt_two_pow hx (Nat.lt_of_le_of_lt (Nat.div_le_self _ _) hx)

theorem wordN_lt (x : Nat) : wordN x < M := fold_lt _ _ (Nat.mod_lt _ (by decide))
theorem stepN_lt (h x : Nat) : stepN h x < M := wordN_lt _

theorem xor_div_pow (x y s : Nat) : (x ^^^ y) / 2 ^ s = x / 2 ^ s ^^^ y / 2 ^ s := by
  rw [← Nat.shiftRight_eq_div_pow, ← Nat.shiftRight_eq_div_pow, ← Nat.shiftRight_eq_div_pow, Nat.shiftRight_xor_distrib]

theorem xor_cancel {a b c d : Nat} (h : a ^^^ b = c ^^^ d) : a ^^^ c = b ^^^ d := by
  have h2 : (a ^^^ b) ^^^ (c ^^^ b) = (c ^^^ d) ^^^ (c ^^^ b) := by rw [h]
  have e1 : (a ^^^ b) ^^^ (c ^^^ b) = a ^^^ c := by
    rw [Nat.xor_comm c b, ← Nat.xor_assoc, Nat.xor_assoc a b b, Nat.xor_self, Nat.xor_zero]
  have e2 : (c ^^^ d) ^^^ (c ^^^ b) = b ^^^ d := by
    rw [Nat.xor_comm c d, Nat.xor_assoc d c, ← Nat.xor_assoc c c b, Nat.xor_self, Nat.zero_xor, Nat.xor_comm]
  rw [e1, e2] at h2
  exact h2

theorem eq_of_xor_zero {a b : Nat} (h : a ^^^ b = 0) : a = b := by
  have : (a ^^^ b) ^^^ b = 0 ^^^ b := by rw [h]
  rw [Nat.xor_assoc, Nat.xor_self, Nat.xor_zero, Nat.zero_xor] at this
  exact this

theorem fold_inj (x y s : Nat) (hs : 0 < s) (h : fold x (2 ^ s) = fold y (2 ^ s)) : x = y := by
  unfold fold at h
  have h1 := xor_cancel h
  rw [← xor_div_pow] at h1
  apply eq_of_xor_zero
  rcases Nat.eq_zero_or_pos (x ^^^ y) with h0 | h0
  · exact h0
  · exfalso
    have : (x ^^^ y) / 2 ^ s < (x ^^^ y) := Nat.div_lt_self h0 (Nat.one_lt_two_pow (by omega))
    omega

theorem mul_inj (x y c c' : Nat) (hc : c * c' % M = 1) (hx : x < M) (hy : y < M) (h : x * c % M = y * c % M) : x = y := by
  have e : ∀ z, z < M → (z * c % M) * c' % M = z := by
    intro z hz
    rw [Nat.mod_mul_mod, Nat.mul_assoc, Nat.mul_mod, hc, Nat.mul_one, Nat.mod_mod, Nat.mod_eq_of_lt hz]
  rw [← e x hx, ← e y hy, h]

theorem wordN_inj (x y : Nat) (hx : x < M) (hy : y < M) (h : wordN x = wordN y) : x = y := by
  unfold wordN at h
  have h1 := fold_inj _ _ 31 (by decide) h
  have h2 := mul_inj _ _ _ 3573116690164977347 (by decide +kernel) (fold_lt _ _ (Nat.mod_lt _ (by decide))) (fold_lt _ _ (Nat.mod_lt _ (by decide))) h1
  have h3 := fold_inj _ _ 27 (by decide) h2
  have h4 := mul_inj _ _ _ 10871156337175269513 (by decide +kernel) (fold_lt _ _ hx) (fold_lt _ _ hy) h3
  exact fold_inj _ _ 30 (by decide) h4

theorem add_inj (x y c : Nat) (hx : x < M) (hy : y < M) (h : (x + c) % M = (y + c) % M) : x = y := by
  unfold M at *
  omega

theorem stepN_inj (h x y : Nat) (hh : h < M) (hx : x < M) (hy : y < M) (e : stepN h x = stepN h y) : x = y := by
  unfold stepN at e
  have h1 := wordN_inj _ _ (Nat.mod_lt _ (by decide)) (Nat.mod_lt _ (by decide)) e
  have h2 := add_inj _ _ _ (by rw [M_eq] at *; exact Nat.xor_lt_two_pow hh hx) (by rw [M_eq] at *; exact Nat.xor_lt_two_pow hh hy) h1
  have h3 := xor_cancel h2
  rw [Nat.xor_self] at h3
  exact eq_of_xor_zero h3.symm

theorem stepN_comm (h x : Nat) : stepN h x = stepN x h := by unfold stepN; rw [Nat.xor_comm]

theorem stepN_inj' (h x y : Nat) (hh : h < M) (hx : x < M) (hy : y < M) (e : stepN x h = stepN y h) : x = y := by
  rw [stepN_comm x h, stepN_comm y h] at e
  exact stepN_inj h x y hh hx hy e

end Go.Proofs.Ytkknmmlfonhhaaa.Mx
