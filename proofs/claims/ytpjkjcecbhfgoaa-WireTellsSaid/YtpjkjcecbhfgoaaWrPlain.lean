/-
  The plain laws of wire: numbers, blocks and votes as bytes. No program in sight.
-/
namespace Go.Proofs.Ytpjkjcecbhfgoaa.Wr
set_option linter.unusedSimpArgs false
set_option linter.unusedVariables false

/-- So many bytes of a number, the lowest first. -/
def num (n : Nat) : Nat → List UInt8
  | 0 => []
  | k + 1 => UInt8.ofNat n :: num (n / 256) k

/-- The number that bytes are, the lowest first. -/
def rd : List UInt8 → Nat
  | [] => 0
  | b :: r => b.toNat + 256 * rd r

structure B where
  slot : Int
  who : Int
  p : Int
  q : Int
  salt : Int
  deriving DecidableEq
structure V where
  who : Int
  slot : Int
  p : Int
  q : Int
  deriving DecidableEq

def B.zero : B := ⟨0, 0, 0, 0, 0⟩
def V.zero : V := ⟨0, 0, 0, 0⟩

def madeB (slot who : Int) : Bool := decide (0 < slot) && decide (slot ≤ 1048576) && decide (0 ≤ who) && decide (who < 12)

def headB (kind : UInt8) (slot who p q : Nat) : List UInt8 := kind :: (num slot 4 ++ num who 1 ++ num p 8 ++ num q 8)
def blockB (b : B) : List UInt8 := headB 1 b.slot.toNat b.who.toNat b.p.toNat b.q.toNat ++ num b.salt.toNat 8
def voteB (v : V) : List UInt8 := headB 2 v.slot.toNat v.who.toNat v.p.toNat v.q.toNat

/-- What bytes are: a block, a vote, whether it is a vote, an error's number. -/
structure G where
  b : B
  v : V
  is : Bool
  e : Int
def G.none : G := ⟨B.zero, V.zero, false, 2⟩
def slotAt (x : List UInt8) : Int := rd ((x.drop 1).take 4)
def whoAt (x : List UInt8) : Int := rd ((x.drop 5).take 1)
def numAt (x : List UInt8) (at_ : Nat) : Int := rd ((x.drop at_).take 8)
def isV (x : List UInt8) : Bool := decide (x.length = 22) && decide (x[0]?.getD 0 = 2)
def isB (x : List UInt8) : Bool := decide (x.length = 30) && decide (x[0]?.getD 0 = 1)
def getS (x : List UInt8) : G :=
  if (isV x || isB x) && madeB (slotAt x) (whoAt x) then
    if isV x then ⟨B.zero, ⟨whoAt x, slotAt x, numAt x 6, numAt x 14⟩, true, 0⟩
    else ⟨⟨slotAt x, whoAt x, numAt x 6, numAt x 14, numAt x 22⟩, V.zero, false, 0⟩
  else G.none

theorem num_length (k : Nat) : ∀ n, (num n k).length = k := by
  induction k with
  | zero => intro n; rfl
  | succ k ih => intro n; simp [num, ih]

theorem num_snoc (k : Nat) : ∀ n, num n (k + 1) = num n k ++ [UInt8.ofNat (n / 256 ^ k)] := by
  induction k with
  | zero => intro n; simp [num]
  | succ k ih =>
    intro n
    rw [num, ih (n / 256), num]
    simp only [List.cons_append, List.cons.injEq, true_and]
    rw [Nat.div_div_eq_div_mul, Nat.pow_succ, Nat.mul_comm 256]

theorem rd_lt (l : List UInt8) : rd l < 256 ^ l.length := by
  induction l with
  | nil => simp [rd]
  | cons b r ih =>
    have hb := b.toNat_lt
    simp only [rd, List.length_cons, Nat.pow_succ]
    omega

theorem rd_num (k : Nat) : ∀ n, rd (num n k) = n % 256 ^ k := by
  induction k with
  | zero => intro n; simp [num, rd, Nat.mod_one]
  | succ k ih =>
    intro n
    simp only [num, rd, ih]
    rw [UInt8.toNat_ofNat', show 256 ^ (k + 1) = 256 * 256 ^ k from by rw [Nat.pow_succ, Nat.mul_comm], Nat.mod_mul]

theorem num_rd (l : List UInt8) : num (rd l) l.length = l := by
  induction l with
  | nil => rfl
  | cons b r ih =>
    have hb := b.toNat_lt
    simp only [rd, List.length_cons, num]
    have e1 : (b.toNat + 256 * rd r) / 256 = rd r := by omega
    rw [e1, ih]
    congr 1
    apply UInt8.toNat.inj
    rw [UInt8.toNat_ofNat']
    omega

theorem head_length (k : UInt8) (s w p q : Nat) : (headB k s w p q).length = 22 := by simp [headB, num_length]
theorem block_length (b : B) : (blockB b).length = 30 := by simp [blockB, head_length, num_length]
theorem vote_length (v : V) : (voteB v).length = 22 := head_length _ _ _ _ _

end Go.Proofs.Ytpjkjcecbhfgoaa.Wr
