/-
  The walk of the reference's Get, where the bytes are a vote, or a block.
-/
import Derived.Test.YtpjkjcecbhfgoaaWrRefs4
namespace Go.Proofs.Ytpjkjcecbhfgoaa
open Go.RowKit
set_option linter.unusedSimpArgs false
set_option linter.unusedVariables false

theorem three_new (w : World) (x y : Value) :
    let W := ((w.alloc zB).alloc zV).alloc (.cells #[x, y] 26)
    W.heap[w.heap.size]? = some zB ∧ W.heap[w.heap.size + 1]? = some zV ∧ W.heap[w.heap.size + 1 + 1]? = some (.cells #[x, y] 26 (0, 0)) ∧ Below w.heap.size w W ∧ w.heap.size + 1 + 1 < W.heap.size := by
  intro W
  have g (v : World) (o' : Obj) (k : Nat) (hk : k < v.heap.size) : (v.alloc o').heap[k]? = v.heap[k]? := Below.heap_alloc v o' k hk
  have n1 (v : World) (o' : Obj) (k : Nat) (hk : k = v.heap.size) : (v.alloc o').heap[k]? = some o' := by subst hk; exact heap_alloc_new v o'
  refine ⟨?_, ?_, ?_, (two_new _ _).alloc (by simp; omega) _, by simp [W]⟩
  · rw [g _ _ _ (by simp only [World.size_alloc]; omega), g _ _ _ (by simp only [World.size_alloc]; omega), n1 _ _ _ rfl]
  · rw [g _ _ _ (by simp only [World.size_alloc]; omega), n1 _ _ _ (by simp only [World.size_alloc])]
  · rw [n1 _ _ _ (by simp only [World.size_alloc])]

theorem Below.set' {N : Nat} {w W : World} (h : Below N w W) {b o : Nat} (hb : N ≤ b) (v : Value) : Below N w (W.setCell ⟨b, o, none⟩ v) := h.setCell (p := ⟨b, o, none⟩) hb v

theorem InB.drew {b o : Nat} {l : List UInt8} {w : World} (h : InB b o l w) : InB b o l w.drew := h
theorem cell_drew (w : World) (a : Addr) : w.drew.cell? a = w.cell? a := rfl
theorem InB.set' {b o : Nat} {l : List UInt8} {w : World} (h : InB b o l w) {k j : Nat} (hk : b < k) (v : Value) : InB b o l (w.setCell ⟨k, j, none⟩ v) :=
  h.below (N := k) ((Below.refl k w).setCell (p := ⟨k, j, none⟩) (Nat.le_refl _) v) hk

set_option maxHeartbeats 2000000 in
theorem refget_vote (b o c n : Nat) (l : List UInt8) (X S F P Q : Nat) (w : World) (hn : l.length = n) (h22 : 22 ≤ n) (hnc : n ≤ c) (hc63 : c ≤ 9223372036854775807) (hb : b < w.heap.size) (hin : InB b o l w)
    (x0 : w.cell? ⟨b, o, none⟩ = some (.int .u8 (X : Int))) (x5 : w.cell? ⟨b, o + 5, none⟩ = some (.int .u8 (F : Int)))
    (hS : Hid (Wr.rd ((l.drop 1).take 4) = S)) (hP : Hid (Wr.rd ((l.drop 6).take 8) = P)) (hQ : Hid (Wr.rd ((l.drop 14).take 8) = Q)) (bs : S < 4294967296) (bf : F < 256)
    (hm : Wr.madeB S F = true) (h1 : ((X : Int) == 1) = false) (h2 : ((X : Int) == 2) = true) (h22' : ((n : Int) == 22) = true) :
    Calls Try.prog 15 #[.slice (some ⟨b, o, none⟩) n c] w fun e w' => e = .returned (⟨Wr.B.zero, ⟨F, S, P, Q⟩, true, 0⟩ : Wr.G).val ∧ Below w.heap.size w w' := by
  have HIN := Lib.hid hin
  have l0 : decide ((n : Int) < 22) = false := decide_eq_false (by omega)
  have hb1 : b < w.heap.size + 1 := by omega
  have hb2 : b < w.heap.size + 1 + 1 := by omega
  have i0 : (0 : Int) < n := by omega
  have i5 : (5 : Int) < n := by omega
  have wS : IntKind.i64.wrap (S : Int) = S := IntWalk.i64_in _ (by omega)
  have wF : IntKind.i64.wrap (F : Int) = F := IntWalk.i64_in _ (by omega)
  clear hin
  have hZ := three_new w (.int .u64 P) (.int .u64 Q)
  go_enter Try.func15, Try.ntmps15
  go_wp2_with (first
    | (go_at_call_of 23 (Value.int .i64 4); refine (read_c 1 4 1 4 rfl rfl b o c n l _ S (by omega) (by omega) hn (by omega) (HIN.out.below (two_new _ _) hb) hS).mono ?_; rintro e w' ⟨rfl, rfl⟩)
    | (go_at_call_of 23 (Value.int .i64 6); refine (read_c 6 8 6 8 rfl rfl b o c n l _ P (by omega) (by omega) hn (by omega) (HIN.out.below (two_new _ _) hb) hP).mono ?_; rintro e w' ⟨rfl, rfl⟩)
    | (go_at_call_of 23 (Value.int .i64 14); refine (read_c 14 8 14 8 rfl rfl b o c n l _ Q (by omega) (by omega) hn (by omega) (HIN.out.below (two_new _ _) hb) hQ).mono ?_; rintro e w' ⟨rfl, rfl⟩)
    | (go_at_call 20; refine (refmade_any _ _ _).mono ?_; rintro e w' ⟨rfl, rfl⟩))
  change Code.wp _ _ _ _ (((w.alloc zB).alloc zV).alloc (.cells #[.int .u64 P, .int .u64 Q] 26))
  generalize ((w.alloc zB).alloc zV).alloc (.cells #[.int .u64 P, .int .u64 Q] 26) = W at hZ ⊢
  obtain ⟨z0, z1, z2, zbel, zlt⟩ := hZ
  obtain ⟨⟨p0, p1, p2, p3, p4⟩, q0, q1, q2, q3, q4⟩ := zb_cells z0
  obtain ⟨⟨u0, u1, u2, u3⟩, t0, t1, t2, t3⟩ := zv_cells z1
  have j0 : W.cell? ⟨w.heap.size + 1 + 1, 0, none⟩ = some (.int .u64 P) := cell_at z2 0
  have j1 : W.cell? ⟨w.heap.size + 1 + 1, 1, none⟩ = some (.int .u64 Q) := cell_at z2 1
  clear z0 z1 z2
  go_region
  all_goals
    go_wp2
    refine bodyPost_ret (v := (⟨Wr.B.zero, ⟨F, S, P, Q⟩, true, 0⟩ : Wr.G).val) ?_ rfl ⟨rfl, ?_⟩
    · simp [results, Try.results15, go_sem, Wr.G.val, Wr.B.val, Wr.V.val, Wr.B.zero, p0, p1, p2, p3, p4, u0, u1, u2, u3]
    · repeat' (first | with_reducible exact zbel | with_reducible refine Below.drew ?_ | (refine Below.set' ?_ (by first | exact Nat.le_refl _ | exact Nat.le_succ _) _))

set_option maxHeartbeats 2000000 in
theorem refget_block (b o c n : Nat) (l : List UInt8) (X S F P Q T : Nat) (w : World) (hn : l.length = n) (h22 : 22 ≤ n) (hnc : n ≤ c) (hc63 : c ≤ 9223372036854775807) (hb : b < w.heap.size) (hin : InB b o l w)
    (x0 : w.cell? ⟨b, o, none⟩ = some (.int .u8 (X : Int))) (x5 : w.cell? ⟨b, o + 5, none⟩ = some (.int .u8 (F : Int)))
    (hS : Hid (Wr.rd ((l.drop 1).take 4) = S)) (hP : Hid (Wr.rd ((l.drop 6).take 8) = P)) (hQ : Hid (Wr.rd ((l.drop 14).take 8) = Q)) (hT : Hid (Wr.rd ((l.drop 22).take 8) = T)) (bs : S < 4294967296) (bf : F < 256)
    (hm : Wr.madeB S F = true) (h1 : ((X : Int) == 1) = true) (h30 : ((n : Int) == 30) = true) :
    Calls Try.prog 15 #[.slice (some ⟨b, o, none⟩) n c] w fun e w' => e = .returned (⟨⟨S, F, P, Q, T⟩, Wr.V.zero, false, 0⟩ : Wr.G).val ∧ Below w.heap.size w w' := by
  have HIN := Lib.hid hin
  have l0 : decide ((n : Int) < 22) = false := decide_eq_false (by omega)
  have hb1 : b < w.heap.size + 1 := by omega
  have hb2 : b < w.heap.size + 1 + 1 := by omega
  have i0 : (0 : Int) < n := by omega
  have i5 : (5 : Int) < n := by omega
  have wS : IntKind.i64.wrap (S : Int) = S := IntWalk.i64_in _ (by omega)
  have wF : IntKind.i64.wrap (F : Int) = F := IntWalk.i64_in _ (by omega)
  clear hin
  have hZ := three_new w (.int .u64 P) (.int .u64 Q)
  go_enter Try.func15, Try.ntmps15
  go_wp2_with (first
    | (go_at_call_of 23 (Value.int .i64 4); refine (read_c 1 4 1 4 rfl rfl b o c n l _ S (by omega) (by omega) hn (by omega) (HIN.out.below (two_new _ _) hb) hS).mono ?_; rintro e w' ⟨rfl, rfl⟩)
    | (go_at_call_of 23 (Value.int .i64 6); refine (read_c 6 8 6 8 rfl rfl b o c n l _ P (by omega) (by omega) hn (by omega) (HIN.out.below (two_new _ _) hb) hP).mono ?_; rintro e w' ⟨rfl, rfl⟩)
    | (go_at_call_of 23 (Value.int .i64 14); refine (read_c 14 8 14 8 rfl rfl b o c n l _ Q (by omega) (by omega) hn (by omega) (HIN.out.below (two_new _ _) hb) hQ).mono ?_; rintro e w' ⟨rfl, rfl⟩)
    | (go_at_call 20; refine (refmade_any _ _ _).mono ?_; rintro e w' ⟨rfl, rfl⟩))
  change Code.wp _ _ _ _ (((w.alloc zB).alloc zV).alloc (.cells #[.int .u64 P, .int .u64 Q] 26))
  generalize ((w.alloc zB).alloc zV).alloc (.cells #[.int .u64 P, .int .u64 Q] 26) = W at hZ ⊢
  obtain ⟨z0, z1, z2, zbel, zlt⟩ := hZ
  obtain ⟨⟨p0, p1, p2, p3, p4⟩, q0, q1, q2, q3, q4⟩ := zb_cells z0
  obtain ⟨⟨u0, u1, u2, u3⟩, t0, t1, t2, t3⟩ := zv_cells z1
  have j0 : W.cell? ⟨w.heap.size + 1 + 1, 0, none⟩ = some (.int .u64 P) := cell_at z2 0
  have j1 : W.cell? ⟨w.heap.size + 1 + 1, 1, none⟩ = some (.int .u64 Q) := cell_at z2 1
  clear z0 z1 z2
  have hinW : InB b o l W := HIN.out.below zbel hb
  have hinD : InB b o l W.drew := hinW
  have d0 : W.drew.cell? ⟨w.heap.size + 1 + 1, 0, none⟩ = some (.int .u64 P) := j0
  have d1 : W.drew.cell? ⟨w.heap.size + 1 + 1, 1, none⟩ = some (.int .u64 Q) := j1
  go_region_held3 (fun w' => InB b o l w' ∧ w'.cell? ⟨w.heap.size + 1 + 1, 0, none⟩ = some (.int .u64 P) ∧ w'.cell? ⟨w.heap.size + 1 + 1, 1, none⟩ = some (.int .u64 Q))
    (first
      | with_reducible assumption
      | with_reducible exact ⟨hinD, d0, d1⟩
      | (refine ⟨?_, ?_, ?_⟩; (repeat' (first | with_reducible exact hinW | with_reducible refine InB.drew ?_ | with_reducible refine InB.set' ?_ (by first | exact hb | exact hb1) _)); ((repeat first | rw [cell_drew] | rw [World.cell?_setCell_far _ _ _ _ (by dsimp only; omega)]); with_reducible exact j0); ((repeat first | rw [cell_drew] | rw [World.cell?_setCell_far _ _ _ _ (by dsimp only; omega)]); with_reducible exact j1)))
    (first | (go_at_call 23; refine (read_c 22 8 22 8 rfl rfl b o c n l _ T (by omega) (by have := eq_of_beq h30; omega) hn (by omega) (And.left (by assumption)) hT).mono ?_; rintro e w' ⟨rfl, rfl⟩))
  all_goals
    go_wp2
    refine bodyPost_ret (v := (⟨⟨S, F, P, Q, T⟩, Wr.V.zero, false, 0⟩ : Wr.G).val) ?_ rfl ⟨rfl, ?_⟩
    · simp [results, Try.results15, go_sem, Wr.G.val, Wr.B.val, Wr.V.val, Wr.V.zero, p0, p1, p2, p3, p4, u0, u1, u2, u3]
    · repeat' (first | with_reducible exact zbel | with_reducible refine Below.drew ?_ | (refine Below.set' ?_ (by first | exact Nat.le_refl _ | exact Nat.le_succ _) _))

end Go.Proofs.Ytpjkjcecbhfgoaa
