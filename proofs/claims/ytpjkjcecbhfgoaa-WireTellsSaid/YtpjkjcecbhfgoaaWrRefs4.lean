/-
  The walk of the reference's Get.
-/
import Derived.Test.YtpjkjcecbhfgoaaWrRefs
namespace Go.Proofs.Ytpjkjcecbhfgoaa
open Go.RowKit
set_option linter.unusedSimpArgs false
set_option linter.unusedVariables false

/-- Bytes that lie in a block, from a place on. -/
def InB (b o : Nat) (l : List UInt8) (w : World) : Prop := ∀ i (hi : i < l.length), w.cell? ⟨b, o + i, none⟩ = some (.int .u8 (l[i].toNat : Int))
theorem InB.below {b o N : Nat} {l : List UInt8} {w w' : World} (h : InB b o l w) (hb : Below N w w') (hlt : b < N) : InB b o l w' :=
  fun i hi => (hb.cell (p := ⟨b, o + i, none⟩) hlt).trans (h i hi)

theorem read_c (P M : Int) (p many : Nat) (hP : P = p) (hM : M = many) (b o c n : Nat) (l : List UInt8) (w : World) (R : Nat) (hm : many ≤ 8) (hl : p + many ≤ n) (hn : l.length = n) (hlen : n ≤ 9223372036854775807)
    (hc : InB b o l w) (hr : Hid (Wr.rd ((l.drop p).take many) = R)) :
    Calls Try.prog 23 #[.slice (some ⟨b, o, none⟩) n c, .int .i64 P, .int .i64 M] w fun e w' => e = .returned (.int .u64 R) ∧ w = w' := by
  subst hP hM hn
  rw [← hr.out]
  exact read_any b o c l p many w hm hl hlen hc

theorem two_new {w : World} (o1 o2 : Obj) : Below w.heap.size w ((w.alloc o1).alloc o2) := ((Below.refl _ w).alloc (Nat.le_refl _) _).alloc (by simp) _

set_option maxHeartbeats 2000000 in
theorem refget_none (b o c n : Nat) (l : List UInt8) (X S F P Q : Nat) (w : World) (hn : l.length = n) (h22 : 22 ≤ n) (hnc : n ≤ c) (hc63 : c ≤ 9223372036854775807) (hb : b < w.heap.size) (hin : InB b o l w) (is k1 k30 k2 k22 : Bool)
    (x0 : w.cell? ⟨b, o, none⟩ = some (.int .u8 (X : Int))) (x5 : w.cell? ⟨b, o + 5, none⟩ = some (.int .u8 (F : Int)))
    (hS : Hid (Wr.rd ((l.drop 1).take 4) = S)) (hP : Hid (Wr.rd ((l.drop 6).take 8) = P)) (hQ : Hid (Wr.rd ((l.drop 14).take 8) = Q)) (bs : S < 4294967296) (bf : F < 256)
    (hm : Wr.madeB S F = is) (h1 : ((X : Int) == 1) = k1) (h30 : ((n : Int) == 30) = k30) (h2 : ((X : Int) == 2) = k2) (h22' : ((n : Int) == 22) = k22)
    (hk : is = false ∨ (is = true ∧ k1 = false ∧ k2 = false) ∨ (is = true ∧ k1 = false ∧ k2 = true ∧ k22 = false) ∨ (is = true ∧ k1 = true ∧ k30 = false ∧ k2 = false)) :
    Calls Try.prog 15 #[.slice (some ⟨b, o, none⟩) n c] w fun e w' => e = .returned Wr.G.none.val ∧ Below w.heap.size w w' := by
  have HIN := Lib.hid hin
  have l0 : decide ((n : Int) < 22) = false := decide_eq_false (by omega)
  have hb1 : b < w.heap.size + 1 := by omega
  have hb2 : b < w.heap.size + 1 + 1 := by omega
  have i0 : (0 : Int) < n := by omega
  have i5 : (5 : Int) < n := by omega
  have wS : IntKind.i64.wrap (S : Int) = S := IntWalk.i64_in _ (by omega)
  have wF : IntKind.i64.wrap (F : Int) = F := IntWalk.i64_in _ (by omega)
  clear hin
  rcases hk with rfl | ⟨rfl, rfl, rfl⟩ | ⟨rfl, rfl, rfl, rfl⟩ | ⟨rfl, rfl, rfl, rfl⟩
  all_goals
    go_enter Try.func15, Try.ntmps15
    go_wp2_with (first
      | (go_at_call_of 23 (Value.int .i64 4); refine (read_c 1 4 1 4 rfl rfl b o c n l _ S (by omega) (by omega) hn (by omega) (HIN.out.below (two_new _ _) hb) hS).mono ?_; rintro e w' ⟨rfl, rfl⟩)
      | (go_at_call_of 23 (Value.int .i64 6); refine (read_c 6 8 6 8 rfl rfl b o c n l _ P (by omega) (by omega) hn (by omega) (HIN.out.below (two_new _ _) hb) hP).mono ?_; rintro e w' ⟨rfl, rfl⟩)
      | (go_at_call_of 23 (Value.int .i64 14); refine (read_c 14 8 14 8 rfl rfl b o c n l _ Q (by omega) (by omega) hn (by omega) (HIN.out.below (two_new _ _) hb) hQ).mono ?_; rintro e w' ⟨rfl, rfl⟩)
      | (go_at_call 20; refine (refmade_any _ _ _).mono ?_; rintro e w' ⟨rfl, rfl⟩))
    all_goals first | refine bodyPost_ret (v := Wr.G.none.val) ?_ rfl ⟨rfl, ?_⟩ | (trace_state; sorry)
    · simp [results, Try.results15, go_sem, Wr.G.none, Wr.G.val, Wr.B.val, Wr.V.val, Wr.B.zero, Wr.V.zero]
    · exact (two_new _ _).alloc (by simp; omega) _

end Go.Proofs.Ytpjkjcecbhfgoaa
