/-
  The walks of wire's reader and Get.
-/
import Derived.Test.YtpjkjcecbhfgoaaWrBlock
namespace Go.Proofs.Ytpjkjcecbhfgoaa
open Go.RowKit
set_option linter.unusedSimpArgs false
set_option linter.unusedVariables false

/-- A slice of bytes that is only read. -/
def BytesAt (w : World) (a : Option Addr) (l : List UInt8) : Prop :=
  l.length = 0 ∨ ∃ b o, a = some ⟨b, o, none⟩ ∧ b < w.heap.size ∧ ∀ i (hi : i < l.length), w.cell? ⟨b, o + i, none⟩ = some (.int .u8 (l[i].toNat : Int))

theorem BytesAt.keep {w w' : World} {a : Option Addr} {l : List UInt8} {N : Nat} (h : BytesAt w a l) (hb : Below N w w') (hN : w.heap.size ≤ N) : BytesAt w' a l := by
  rcases h with h0 | ⟨b, o, e, hlt, hc⟩
  · exact .inl h0
  · exact .inr ⟨b, o, e, Nat.lt_of_lt_of_le hlt hb.size, fun i hi => (hb.cell (p := ⟨b, o + i, none⟩) (Nat.lt_of_lt_of_le hlt hN)).trans (hc i hi)⟩

theorem or_shift (n y k : Nat) (hk : k < 8) (hn : n < 256 ^ k) (hy : y < 256) : bits BinOp.or IntKind.u64 (n : Int) (IntKind.u64.wrap ((y : Int) * 2 ^ (8 * k))) = ((n + 256 ^ k * y : Nat) : Int) := by
  have e : (256 : Nat) ^ k = 2 ^ (8 * k) := by rw [Nat.pow_mul]
  have hle : 2 ^ (8 * k) ≤ 2 ^ 56 := Nat.pow_le_pow_right (by omega) (by omega)
  have hb : y * 2 ^ (8 * k) < 18446744073709551616 := by
    have := Nat.mul_le_mul (show y ≤ 255 by omega) hle
    omega
  have hw : IntKind.u64.wrap ((y : Int) * 2 ^ (8 * k)) = ((y * 2 ^ (8 * k) : Nat) : Int) := by
    have e2 : (y : Int) * 2 ^ (8 * k) = ((y * 2 ^ (8 * k) : Nat) : Int) := by push_cast; rfl
    rw [e2, IntKind.wrap_u64]
    omega
  rw [e] at hn
  rw [hw, bits_or_u64_nat n _ (by omega) hb, e]
  congr 1
  have h3 := Nat.shiftLeft_add_eq_or_of_lt hn y
  rw [Nat.shiftLeft_eq] at h3
  rw [Nat.or_comm, ← h3, Nat.mul_comm y, Nat.add_comm]

theorem rd_take (l : List UInt8) : ∀ (k : Nat) (hk : k < l.length), Wr.rd (l.take (k + 1)) = Wr.rd (l.take k) + 256 ^ k * l[k].toNat := by
  induction l with
  | nil => intro k hk; simp at hk
  | cons x r ih =>
    intro k hk
    cases k with
    | zero => simp [Wr.rd]
    | succ k =>
      simp only [List.take_succ_cons, Wr.rd, List.getElem_cons_succ]
      rw [ih k (by simpa using hk), Nat.pow_succ, Nat.mul_add, Nat.mul_comm (256 ^ k) 256, Nat.mul_assoc]
      omega

/-- What is left behind so many bytes, in the box of the reader. -/
structure Left (B : Nat) (l : List UInt8) (w : World) : Prop where
  box : ∃ a c, w.heap[B]? = some (.cells #[.slice a l.length c] 22 (0, 0)) ∧ l.length ≤ c ∧ c ≤ 9223372036854775807 ∧ (l.length = 0 ∨ ∃ b o, a = some ⟨b, o, none⟩ ∧ b < B ∧ ∀ i (hi : i < l.length), w.cell? ⟨b, o + i, none⟩ = some (.int .u8 (l[i].toNat : Int)))

/-- A reader's call leaves all but its box as it was. -/
def NextPost (B : Nat) (l : List UInt8) (many : Nat) (w : World) (e : Ending) (w' : World) : Prop := e = .returned (.int .u64 (Wr.rd (l.take many))) ∧ Left B (l.drop many) w' ∧ Below B w w' ∧ w'.heap.size = w.heap.size ∧ ∀ k, k ≠ B → w'.heap[k]? = w.heap[k]?

theorem next_done {B b o c o' : Nat} {l : List UInt8} {k : Nat} {w : World} (hk : k ≤ l.length) (hbB : b < B) (hcap : l.length ≤ c) (hc63 : c ≤ 9223372036854775807)
    (hbox : w.heap[B]? = some (.cells #[.slice (some ⟨b, o, none⟩) l.length c] 22 (0, 0))) (ho : o' = o + k ∨ l.length = k)
    (hc : ∀ i (hi : i < l.length), w.cell? ⟨b, o + i, none⟩ = some (.int .u8 (l[i].toNat : Int))) :
    NextPost B l k w (.returned (.int .u64 (Wr.rd (l.take k)))) (w.setCell ⟨B, 0, none⟩ (.slice (some ⟨b, o', none⟩) (l.length - k) (c - k))) := by
  have hB : (w.setCell ⟨B, 0, none⟩ (.slice (some ⟨b, o', none⟩) (l.length - k) (c - k))).heap[B]? = some (.cells #[.slice (some ⟨b, o', none⟩) (l.length - k) (c - k)] 22 (0, 0)) := by
    simp [World.setCell, Array.getElem?_modify, hbox]
  have hb : Below B w (w.setCell ⟨B, 0, none⟩ (.slice (some ⟨b, o', none⟩) (l.length - k) (c - k))) := (Below.refl B w).setCell (p := ⟨B, 0, none⟩) (Nat.le_refl _) _
  refine ⟨rfl, ⟨⟨some ⟨b, o', none⟩, c - k, ?_, ?_, by omega, ?_⟩⟩, hb, by simp [World.setCell], fun j hj => Below.heap_setCell _ _ _ _ hj⟩
  · rw [hB, List.length_drop]
  · rw [List.length_drop]; omega
  · rcases ho with rfl | h
    · refine .inr ⟨b, o + k, rfl, hbB, fun i hi => ?_⟩
      rw [List.length_drop] at hi
      rw [hb.cell (p := ⟨b, o + k + i, none⟩) hbB, Nat.add_assoc, hc (k + i) (by omega)]
      simp
    · exact .inl (by rw [List.length_drop]; omega)

set_option maxHeartbeats 1000000 in
theorem next_any (B b o c : Nat) (l : List UInt8) (many : Nat) (w : World) (hm : many ≤ 8) (hl : many ≤ l.length) (hlen : l.length ≤ 9223372036854775807) (hbB : b < B)
    (hbox : w.heap[B]? = some (.cells #[.slice (some ⟨b, o, none⟩) l.length c] 22 (0, 0))) (hcap : l.length ≤ c) (hc63 : c ≤ 9223372036854775807)
    (hc : ∀ i (hi : i < l.length), w.cell? ⟨b, o + i, none⟩ = some (.int .u8 (l[i].toNat : Int))) :
    Calls Try.prog 24 #[.int .i64 many, .pointer (some ⟨B, 0, none⟩)] w (NextPost B l many w) := by
  have cb := cell_at hbox 0
  have fb := free_at hbox 0
  simp only [List.getElem?_toArray, List.getElem?_cons_zero] at cb
  have HC := Lib.hid hc
  have HB := Lib.hid hbox
  clear hc hbox
  go_enter Try.func24, Try.ntmps24
  go_wp2_with fail
  go_loop [4, 5, 7] (fun n _ i => ∃ k : Nat, k ≤ many ∧ i = .int .i64 k ∧ n = .int .u64 (Wr.rd (l.take k) : Nat)) (fun _ _ i => many - (intOf i).toNat)
  case atStart => exact ⟨0, by omega, rfl, by simp [Wr.rd]⟩
  case round =>
    obtain ⟨k, hk, rfl, rfl⟩ := hrel
    by_cases hkm : k < many
    · have hkl : k < l.length := by omega
      have hk0 : (0 : Int) ≤ k := by omega
      have hk1 : (k : Int) < l.length := by omega
      have e1 := HC.out k hkl
      obtain ⟨y, hy⟩ : ∃ y, l[k].toNat = y := ⟨_, rfl⟩
      have hy1 : y < 256 := by rw [← hy]; exact l[k].toNat_lt
      rw [hy] at e1
      have HY := Lib.hid hy
      clear hy
      obtain ⟨n, hn⟩ : ∃ n, Wr.rd (l.take k) = n := ⟨_, rfl⟩
      rw [hn]
      have HN := Lib.hid hn
      clear hn
      have hlt8 : n < 256 ^ k := by rw [← HN.out]; exact Nat.lt_of_lt_of_le (Wr.rd_lt _) (Nat.pow_le_pow_right (by omega) (by simp; omega))
      have HE := Lib.hid (or_shift n y k (by omega) hlt8 hy1)
      clear hlt8
      go_wp2
      exact ⟨⟨k + 1, by omega, by go_num, by rw [HE.out, rd_take l k hkl, HN.out, HY.out]⟩, by simp [intOf]; omega⟩
    · obtain rfl : k = many := by omega
      by_cases hck : c = k
      · have hf := Lib.hid (next_done (o' := o) hl hbB hcap hc63 HB.out (.inr (by omega)) HC.out)
        subst hck
        go_wp2
        go_ret
        have e1 : l.length - c = 0 := by omega
        have hfo := hf.out
        rw [e1, Nat.sub_self] at hfo
        exact hfo
      · have hf := Lib.hid (next_done (o' := o + k) hl hbB hcap hc63 HB.out (.inl rfl) HC.out)
        go_wp2
        go_ret
        exact hf.out

/-- The reader's call, out of what is left. -/
theorem next_left (B : Nat) (l : List UInt8) (c : Int) (many : Nat) (w : World) (hcm : c = many) (hm : many ≤ 8) (hl : many ≤ l.length) (h0 : 0 < many) (h : Left B l w) :
    Calls Try.prog 24 #[.int .i64 c, .pointer (some ⟨B, 0, none⟩)] w (NextPost B l many w) := by
  subst hcm
  obtain ⟨a, c, hbox, hcap, hc63, hc⟩ := h.box
  rcases hc with hz | ⟨b, o, rfl, hb, hc⟩
  · omega
  · exact next_any B b o c l many w hm hl (by omega) hb hbox hcap hc63 hc

/-- What 'Get' is handed: bytes that came in. -/
structure Came (w : World) (a : Option Addr) (l : List UInt8) (c : Nat) : Prop where
  len : l.length ≤ c
  cap : c ≤ 9223372036854775807
  at_ : BytesAt w a l

def Wr.G.val (g : Wr.G) : Value := .tuple #[g.b.val, g.v.val, .bool g.is, .int .i64 g.e]

set_option maxHeartbeats 1000000 in
theorem get_short (a : Option Addr) (l : List UInt8) (c : Nat) (w : World) (h : l.length ≠ 22 ∧ l.length ≠ 30) (hc : Came w a l c) :
    Calls Try.prog 10 #[.slice a l.length c] w fun e w' => e = .returned Wr.G.none.val ∧ Below w.heap.size w w' := by
  obtain ⟨h1, h2⟩ := h
  have b1 : ((l.length : Int) == 22) = false := by simp; omega
  have b2 : ((l.length : Int) == 30) = false := by simp; omega
  have b3 : ((l.length : Int) != 30) = true := by simp; omega
  clear h1 h2 hc
  go_enter Try.func10, Try.ntmps10
  go_wp2
  go_region
  all_goals
    go_wp2
    refine bodyPost_ret (v := Wr.G.none.val) ?_ rfl ⟨rfl, (((Below.refl _ w).alloc (Nat.le_refl _) _).alloc (by simp) _).drew⟩
    simp [results, Try.results10, go_sem, Wr.G.none, Wr.G.val, Wr.B.val, Wr.V.val, Wr.B.zero, Wr.V.zero]

end Go.Proofs.Ytpjkjcecbhfgoaa
