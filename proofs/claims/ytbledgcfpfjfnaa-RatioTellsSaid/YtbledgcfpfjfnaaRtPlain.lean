/-
  The plain laws of ratio: numbers that may be, their sums and products, and which product is more. No program in sight.
-/
import Derived.Lib.Mul64
namespace Go.Proofs.Ytbledgcfpfjfnaa.Rt
set_option linter.unusedSimpArgs false
set_option linter.unusedVariables false

def mayB (n : Int) : Bool := decide (0 ≤ n) && decide (n ≤ 4611686018427387904)
def addOk (a b : Int) : Bool := mayB a && mayB b && decide (a + b ≤ 4611686018427387904)
def mulOk (a b : Int) : Bool := mayB a && mayB b && decide (a * b ≤ 4611686018427387904)
def pick (c : Bool) (n : Int) : Int := if c = true then n else 0
def moreB (a b c d : Int) : Bool := mayB a && mayB b && (mayB c && mayB d) && decide (c * d < a * b)

/-- Where the first number stands that may not be, counted from k on; -1: none does. -/
def idx (k : Nat) : List Int → Int
  | [] => -1
  | x :: xs => if mayB x = true then idx (k + 1) xs else k

theorem idx_ge (l : List Int) : ∀ k : Nat, decide (0 ≤ idx k l) = !(l.all mayB) := by
  induction l with
  | nil => intro k; simp [idx]
  | cons x xs ih =>
    intro k
    by_cases h : mayB x = true
    · simp only [idx, if_pos h, List.all_cons, h, Bool.true_and]
      exact ih (k + 1)
    · have h' : mayB x = false := by simpa using h
      simp [idx, h']

theorem may_iff (n : Int) : mayB n = true ↔ 0 ≤ n ∧ n ≤ 4611686018427387904 := by simp [mayB]
theorem may_false (n : Int) : mayB n = false ↔ n < 0 ∨ 4611686018427387904 < n := by
  simp [mayB]
  omega

/-- The four parts of a product, by halves. -/
theorem wide_parts (x y : Nat) :
    (x % 4294967296) * (y % 4294967296) % 4294967296 = x * y % 4294967296 ∧
    ((x % 4294967296) * (y / 4294967296) + ((x / 4294967296) * (y % 4294967296) + (x % 4294967296) * (y % 4294967296) / 4294967296) % 4294967296) % 4294967296 = x * y / 4294967296 % 4294967296 ∧
    (x / 4294967296) * (y / 4294967296) + ((x / 4294967296) * (y % 4294967296) + (x % 4294967296) * (y % 4294967296) / 4294967296) / 4294967296 +
      ((x % 4294967296) * (y / 4294967296) + ((x / 4294967296) * (y % 4294967296) + (x % 4294967296) * (y % 4294967296) / 4294967296) % 4294967296) / 4294967296 = x * y / 18446744073709551616 := by
  have e : x * y = (x / 4294967296) * (y / 4294967296) * (4294967296 * 4294967296) + ((x / 4294967296) * (y % 4294967296) + (x % 4294967296) * (y / 4294967296)) * 4294967296 + (x % 4294967296) * (y % 4294967296) := by
    rw [← Go.Lib.split_mul, Nat.div_add_mod' x 4294967296, Nat.div_add_mod' y 4294967296]
  rw [e]
  generalize (x / 4294967296) * (y / 4294967296) = a at *
  generalize (x / 4294967296) * (y % 4294967296) = b at *
  generalize (x % 4294967296) * (y / 4294967296) = c at *
  generalize (x % 4294967296) * (y % 4294967296) = d at *
  refine ⟨by omega, by omega, by omega⟩

end Go.Proofs.Ytbledgcfpfjfnaa.Rt
