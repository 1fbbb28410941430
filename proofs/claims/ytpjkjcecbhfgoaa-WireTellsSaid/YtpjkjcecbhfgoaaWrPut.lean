/-
  The walks of wire's put and head: bytes behind others, in memory of the call's own.
-/
import Derived.Test.YtpjkjcecbhfgoaaRows
import Derived.Test.YtpjkjcecbhfgoaaWrPlain
import Derived.WalkKit
import Derived.WalkSpells
import Derived.WalkLawsBesides
import Derived.Lib.Hide
import Derived.Laws.AppendOwnNone
import Derived.Deep.QuietTactic
import Derived.BigQuiet
import Derived.Deep.RegionWith
import Derived.Deep.RegionHeld3
import Derived.ChangeKeysEq
namespace Go.Proofs.Ytpjkjcecbhfgoaa
open Go.RowKit
set_option linter.unusedSimpArgs false
set_option linter.unusedVariables false

theorem ret_val {a b : Value} (h : a = b) : Ending.returned a = .returned b := by rw [h]
theorem ret_int {k : IntKind} {a b : Int} (h : a = b) : Ending.returned (.int k a) = .returned (.int k b) := by rw [h]
theorem ret_bool {a b : Bool} (h : a = b) : Ending.returned (.bool a) = .returned (.bool b) := by rw [h]
theorem below_drewN (B : Nat) (w : World) (n : Nat) : Below B w (w.drewN n) := ⟨rfl, rfl, rfl, Nat.le_refl _, fun _ _ => rfl⟩
theorem below_step {w0 w w' : World} (h : Below w0.heap.size w0 w) (hb : Below w.heap.size w w') : Below w0.heap.size w0 w' := h.trans (hb.mono h.size)
theorem cell_at {w : World} {g : Nat} {cs : Array Value} {t : TypeId} {fr : Nat × Nat} (h : w.heap[g]? = some (.cells cs t fr)) (i : Nat) : w.cell? ⟨g, i, none⟩ = cs[i]? := by simp [World.cell?, h]
theorem free_at {w : World} {g : Nat} {cs : Array Value} {t : TypeId} (h : w.heap[g]? = some (.cells cs t (0, 0))) (i : Nat) : w.frozen? ⟨g, i, none⟩ = false := by simp [World.frozen?, h]
theorem info8 : (Try.prog.info? 5).map (fun i => (i.zero, i.size, i.bytes)) = some (some (.int .u8 0), 1, 1) := by kernel_rfl

/-- A byte, as a cell. -/
def encB (b : UInt8) : Value := .int .u8 b.toNat
theorem encB_ofNat (n : Nat) : encB (UInt8.ofNat n) = .int .u8 ((n % 256 : Nat) : Int) := by
  unfold encB
  rw [UInt8.toNat_ofNat']

/-- A row of bytes of the call's own, from block 'base' on. -/
def OwnB (w : World) (base : Nat) (v : Value) (l : List UInt8) : Prop := w.ownsRow base 5 1 v l.length (l.map encB)

theorem OwnB.form {w : World} {base : Nat} {v : Value} {l : List UInt8} (h : OwnB w base v l) (hl : 0 < l.length) : ∃ g cap, v = .slice (some ⟨g, 0, none⟩) l.length cap ∧ base ≤ g ∧ g < w.heap.size ∧ l.length ≤ cap ∧ cap ≤ maxLen ∧ ∀ i (hi : i < l.length), w.cell? ⟨g, i, none⟩ = some (.int .u8 (l[i].toNat : Int)) := by
  rcases h.2 with ⟨_, h0⟩ | ⟨g, cap, cur, hv, hb, hg, hn, hc, hs, ht⟩
  · omega
  · refine ⟨g, cap, hv, hb, (Array.getElem?_eq_some_iff.1 hg).1, hn, hc, fun i hi => ?_⟩
    have e : (cur.toList.take (l.length * 1))[i]? = (l.map encB)[i]? := by rw [ht]
    rw [List.getElem?_take_of_lt (by omega), List.getElem?_map, List.getElem?_eq_getElem hi] at e
    rw [cell_at hg i]
    simpa [encB] using e

theorem one_byte (w : World) (x : Int) (t : TypeId) (g : Nat) (hg : g = w.heap.size) : ∀ (j : Nat) u, [Value.int .u8 x][j]? = some u → (w.alloc (.cells #[.int .u8 x] t)).cell? ((⟨g, 0, none⟩ : Addr).add j) = some u := by
  subst hg
  intro j u hj
  match j, hj with
  | 0, hj => simp at hj; subst hj; simp [Addr.add]

/-- What 'put' leaves: the row with so many bytes more; below 'base' nothing has turned. -/
def PutPost (w : World) (base : Nat) (l : List UInt8) (e : Ending) (w' : World) : Prop := ∃ v, e = .returned v ∧ OwnB w' base v l ∧ Below base w w'

theorem shr8 (n : Nat) : (n : Int) / 256 = ((n / 256 : Nat) : Int) := by omega
theorem pow_step (n k : Nat) : n / 256 ^ k / 256 = n / 256 ^ (k + 1) := by rw [Nat.div_div_eq_div_mul, Nat.pow_succ]

/-- One byte more in put's loop. -/
theorem put_step {w : World} {base m : Nat} {v : Value} {l : List UInt8} {N k : Nat} {x : Value} (h : w.ownsRow base 5 1 v m ((l ++ Wr.num N k).map encB ++ [x])) (hx : x = encB (UInt8.ofNat (N / 256 ^ k))) (hm : m = (l ++ Wr.num N (k + 1)).length) : OwnB w base v (l ++ Wr.num N (k + 1)) := by
  unfold OwnB
  rw [← hm, Wr.num_snoc, ← List.append_assoc, List.map_append]
  rw [hx] at h
  exact h

theorem put_below {w wr w2 : World} {base m : Nat} {v : Value} {xs : List Value} {o : Obj} (ho : wr.ownsRow base 5 1 v m xs) (hbel : Below base w wr) (hb : base ≤ w.heap.size) (hg : (wr.alloc o).grownBy w2 v.ownBlock) : Below base w w2 :=
  (hbel.alloc (Nat.le_trans hb hbel.size) o).grown hg (by have := hbel.size; simp; omega) (fun k hk => (ho.lt k hk).1)

set_option maxHeartbeats 1000000 in
theorem put_any (base : Nat) (v : Value) (l : List UInt8) (N many : Nat) (w : World) (hN : N ≤ 18446744073709551615) (hmany : many ≤ 100) (hl : l.length ≤ 1000) (hown : OwnB w base v l) (hb : base ≤ w.heap.size) :
    Calls Try.prog 18 #[v, .int .u64 N, .int .i64 many] w (PutPost w base (l ++ Wr.num N many)) := by
  obtain ⟨i0, hi, hz0, hz1, hz2⟩ := info_parts info8
  have HO := Lib.hid hown
  clear hown
  go_enter Try.func18, Try.ntmps18
  go_wp2_with fail
  go_loopw [0, 1, 8] (fun v n i wr => ∃ k : Nat, k ≤ many ∧ i = .int .i64 k ∧ n = .int .u64 ((N / 256 ^ k : Nat) : Int) ∧ OwnB wr base v (l ++ Wr.num N k) ∧ Below base w wr) (fun _ _ i _ => many - (intOf i).toNat)
  case atStart => exact ⟨0, Nat.zero_le _, rfl, by simp, by simpa [Wr.num] using HO.out, Below.refl _ _⟩
  case round =>
    obtain ⟨k, hk, rfl, rfl, ho, hbel⟩ := hrel
    have hsz := hbel.size
    have hq : N / 256 ^ k ≤ 18446744073709551615 := Nat.le_trans (Nat.div_le_self _ _) hN
    have hlen := Wr.num_length k N
    by_cases hlt : k < many
    · have HL : Hid ((l ++ Wr.num N k).length = l.length + k) := Lib.hid (by rw [List.length_append, hlen])
      obtain ⟨q, hqq⟩ : ∃ q, N / 256 ^ k = q := ⟨_, rfl⟩
      have hs := pow_step N k
      rw [hqq] at hq hs
      have HQ := Lib.hid hqq
      have HS := Lib.hid hs
      rw [hqq]
      clear hqq hs hlen
      unfold OwnB at ho
      rw [HL.out] at ho
      go_wp2_with (at_builtin; refine wpList_append_own _ rfl _ _ 22 rfl base 5 i0 (.int .u8 0) 1 1 Try.underlying22 hi hz0 hz1 hz2 rfl (by decide) _ _ _ rfl (ho.alloc _) ⟨wr.heap.size, 0, none⟩ 1 1 [.int .u8 ((q : Int) % 256)] rfl rfl (one_byte wr _ _ _ rfl) (by simp [Value.oneCell']) (by unfold maxLen; omega) (by omega) (by simp; omega) ?_; intro v2 w2 hown2 hg2 _)
      exact ⟨⟨k + 1, by omega, by go_num, by rw [← HS.out, shr8], put_step hown2 (by rw [encB_ofNat, HQ.out, Int.natCast_emod]; rfl) (by rw [List.length_append, Wr.num_length]; omega), put_below ho hbel hb hg2⟩, by simp [intOf]; omega⟩
    · obtain rfl : k = many := by omega
      go_wp2
      go_ret
      exact ⟨_, rfl, ho, hbel⟩

end Go.Proofs.Ytpjkjcecbhfgoaa
