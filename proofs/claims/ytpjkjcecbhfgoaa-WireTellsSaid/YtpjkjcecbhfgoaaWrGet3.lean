/-
  The walk of wire's Get where the bytes may be a block.
-/
import Derived.Test.YtpjkjcecbhfgoaaWrGet2
namespace Go.Proofs.Ytpjkjcecbhfgoaa
open Go.RowKit
set_option linter.unusedSimpArgs false
set_option linter.unusedVariables false

theorem setV_same {W : World} {N : Nat} (h : W.heap[N]? = some zV) :
    ((((W.setCell ⟨N, 0, none⟩ (.int .i64 0)).setCell ⟨N, 1, none⟩ (.int .i64 0)).setCell ⟨N, 2, none⟩ (.int .u64 0)).setCell ⟨N, 3, none⟩ (.int .u64 0)) = W := by
  have hh : ((((W.setCell ⟨N, 0, none⟩ (.int .i64 0)).setCell ⟨N, 1, none⟩ (.int .i64 0)).setCell ⟨N, 2, none⟩ (.int .u64 0)).setCell ⟨N, 3, none⟩ (.int .u64 0)).heap = W.heap := by
    apply Array.ext_getElem?
    intro k
    by_cases hk : k = N
    · subst hk
      simp [World.setCell, Array.getElem?_modify, h, zV]
    · rw [Below.heap_setCell _ _ _ _ hk, Below.heap_setCell _ _ _ _ hk, Below.heap_setCell _ _ _ _ hk, Below.heap_setCell _ _ _ _ hk]
  have e : ((((W.setCell ⟨N, 0, none⟩ (.int .i64 0)).setCell ⟨N, 1, none⟩ (.int .i64 0)).setCell ⟨N, 2, none⟩ (.int .u64 0)).setCell ⟨N, 3, none⟩ (.int .u64 0)) = { W with heap := ((((W.setCell ⟨N, 0, none⟩ (.int .i64 0)).setCell ⟨N, 1, none⟩ (.int .i64 0)).setCell ⟨N, 2, none⟩ (.int .u64 0)).setCell ⟨N, 3, none⟩ (.int .u64 0)).heap } := rfl
  rw [e, hh]

theorem setV_keep {W : World} {N : Nat} (h0 : W.cell? ⟨N, 0, none⟩ = some (.int .i64 0)) (h1 : W.cell? ⟨N, 1, none⟩ = some (.int .i64 0)) (h2 : W.cell? ⟨N, 2, none⟩ = some (.int .u64 0)) (h3 : W.cell? ⟨N, 3, none⟩ = some (.int .u64 0)) :
    ((((W.setCell ⟨N, 0, none⟩ (.int .i64 0)).setCell ⟨N, 1, none⟩ (.int .i64 0)).setCell ⟨N, 2, none⟩ (.int .u64 0)).setCell ⟨N, 3, none⟩ (.int .u64 0)).cell? ⟨N, 0, none⟩ = some (.int .i64 0) ∧
    ((((W.setCell ⟨N, 0, none⟩ (.int .i64 0)).setCell ⟨N, 1, none⟩ (.int .i64 0)).setCell ⟨N, 2, none⟩ (.int .u64 0)).setCell ⟨N, 3, none⟩ (.int .u64 0)).cell? ⟨N, 1, none⟩ = some (.int .i64 0) ∧
    ((((W.setCell ⟨N, 0, none⟩ (.int .i64 0)).setCell ⟨N, 1, none⟩ (.int .i64 0)).setCell ⟨N, 2, none⟩ (.int .u64 0)).setCell ⟨N, 3, none⟩ (.int .u64 0)).cell? ⟨N, 2, none⟩ = some (.int .u64 0) ∧
    ((((W.setCell ⟨N, 0, none⟩ (.int .i64 0)).setCell ⟨N, 1, none⟩ (.int .i64 0)).setCell ⟨N, 2, none⟩ (.int .u64 0)).setCell ⟨N, 3, none⟩ (.int .u64 0)).cell? ⟨N, 3, none⟩ = some (.int .u64 0) := by
  refine ⟨?_, ?_, ?_, ?_⟩ <;> simp [go_sem, h0, h1, h2, h3]

set_option maxHeartbeats 4000000 in
theorem get_block (b o c : Nat) (l l1 l2 l3 l4 l5 : List UInt8) (S F P Q : Nat) (hP : Parts l l1 l2 l3 l4 l5 S F P Q) (w : World) (h : l.length = 30) (hc : l.length ≤ c) (hc63 : c ≤ 9223372036854775807) (hb : b < w.heap.size)
    (hcell : ∀ i (hi : i < l.length), w.cell? ⟨b, o + i, none⟩ = some (.int .u8 (l[i].toNat : Int))) (h2 : l[0]?.getD 0 = 1) :
    Calls Try.prog 10 #[.slice (some ⟨b, o, none⟩) 30 c] w fun e w' => e = .returned (Wr.getS l).val ∧ Below w.heap.size w w' := by
  have x0 : w.cell? ⟨b, o, none⟩ = some (.int .u8 1) := by
    have := hcell 0 (by omega)
    rw [List.getElem?_eq_getElem (by omega)] at h2
    simp at h2
    rw [h2] at this
    exact this
  have M0 := mid_start w b o c l 29 h hc hc63 hb hcell
  have e1 : l1.length = 29 := by rw [← hP.d1]; simp; omega
  have e2 : l2.length = 25 := by rw [← hP.d2]; simp; omega
  have e3 : l3.length = 24 := by rw [← hP.d3]; simp; omega
  have e4 : l4.length = 16 := by rw [← hP.d4]; simp; omega
  rw [hP.d1] at M0
  have hl1 : 4 ≤ l1.length := by omega
  have hl2 : 1 ≤ l2.length := by omega
  have hl3 : 8 ≤ l3.length := by omega
  have hl4 : 8 ≤ l4.length := by omega
  have e5 : l5.length = 8 := by rw [← hP.d5]; simp; omega
  have hl5 : 8 ≤ l5.length := by omega
  have d6 : Hid (l5.drop 8 = []) := Lib.hid (List.drop_of_length_le (by omega))
  obtain ⟨T, hT⟩ : ∃ T, Wr.rd (l5.take 8) = T := ⟨_, rfl⟩
  have bt : T ≤ 18446744073709551615 := by have := rd_take_lt l5 8; omega
  have nt := Lib.hid hT
  have hT2 : Hid (Wr.numAt l 22 = T) := Lib.hid (by unfold Wr.numAt; rw [← hP.tells.2.2.2.2, hT])
  have d2 := Lib.hid hP.d2
  have d3 := Lib.hid hP.d3
  have d4 := Lib.hid hP.d4
  have d5 := Lib.hid hP.d5
  have ns := Lib.hid hP.s
  have nf := Lib.hid hP.f
  have np := Lib.hid hP.p
  have nq := Lib.hid hP.q
  have bs := hP.bs
  have bf := hP.bf
  have bp := hP.bp
  have bq := hP.bq
  have wS : IntKind.i64.wrap (S : Int) = S := IntWalk.i64_in _ (by omega)
  have wF : IntKind.i64.wrap (F : Int) = F := IntWalk.i64_in _ (by omega)
  have hc22 : 30 ≤ c := by omega
  have h1c : (1 : Int) ≤ (c : Int) := by omega
  have HLEN := Lib.hid h
  have HP := Lib.hid hP
  clear hcell h hc hP e1 e2 e3 e4 e5 hT
  by_cases hc1 : c = 1
  · omega
  go_enter Try.func10, Try.ntmps10
  go_wp2_with (go_at_call 16; refine (of_any _ _ _ _).mono ?_; rintro e w' ⟨rfl, rfl⟩)
  change Code.wp _ _ _ _ (((((w.alloc zB).alloc zV).alloc (.cells #[.slice (some ⟨b, o + 1, none⟩) 29 (c - 1)] 22)).alloc (.cells #[fnV (w.heap.size + 1 + 1)] 44)).alloc (.cells #[fnV (w.heap.size + 1 + 1)] 44))
  generalize ((((w.alloc zB).alloc zV).alloc (.cells #[.slice (some ⟨b, o + 1, none⟩) 29 (c - 1)] 22)).alloc (.cells #[fnV (w.heap.size + 1 + 1)] 44)).alloc (.cells #[fnV (w.heap.size + 1 + 1)] 44) = W at M0 ⊢
  have r0 : W.cell? ⟨w.heap.size + 1 + 1 + 1 + 1, 0, none⟩ = some (fnV (w.heap.size + 1 + 1)) := cell_at M0.rd 0
  unfold fnV at r0
  have M0d := M0.drew
  go_region_held3 (fun w' => w'.cell? ⟨w.heap.size + 1 + 1 + 1 + 1, 0, none⟩ = some (.func (.func 24) #[] #[.pointer (some ⟨w.heap.size + 1 + 1, 0, none⟩)]))
    (first | assumption | exact r0)
    (first
      | (go_at_call_of 24 (Value.int .i64 4); refine (mid_next w l1 l2 4 4 S _ rfl (by omega) hl1 (by omega) ns d2 M0d).mono ?_; rintro e W1 ⟨rfl, M1, _⟩; have hS1 := cell_at M1.rd 0)
      | (go_at_call_of 24 (Value.int .i64 1); refine (mid_next w l2 l3 1 1 F _ rfl (by omega) hl2 (by omega) nf d3 M1).mono ?_; rintro e W2 ⟨rfl, M2, _⟩; have hS2 := cell_at M2.rd 0))
  clear M0 M0d r0 M1 hS1
  go_wp2
  have r2 : W2.cell? ⟨w.heap.size + 1 + 1 + 1 + 1, 0, none⟩ = some (fnV (w.heap.size + 1 + 1)) := cell_at M2.rd 0
  unfold fnV at r2
  have M2d := M2.drew
  have z2 := M2.size
  go_region_held3 (fun w' => w'.cell? ⟨w.heap.size + 1 + 1 + 1 + 1, 0, none⟩ = some (.func (.func 24) #[] #[.pointer (some ⟨w.heap.size + 1 + 1, 0, none⟩)]))
    (first | assumption | exact r2 | exact cell_at (M2d.alloc _).rd 0 | exact cell_at (M3.alloc _).rd 0 | exact cell_at (M4.alloc _).rd 0 | exact cell_at ((M4.set (a := ⟨_, 0, none⟩) (by simp; omega) _).set (a := ⟨_, 1, none⟩) (by simp; omega) _).rd 0)
    (first
      | (go_at_call 24; refine (mid_next w l3 l4 8 8 P _ rfl (by omega) hl3 (by omega) np d4 M2d).mono ?_; rintro e W3 ⟨rfl, M3, hk3⟩; have hS3 := cell_at M3.rd 0; have z3 := M3.size)
      | (go_at_call 24; refine (mid_next w l3 l4 8 8 P _ rfl (by omega) hl3 (by omega) np d4 (M2d.alloc (.cells #[.int .u64 0, .int .u64 0] 26))).mono ?_; rintro e W3 ⟨rfl, M3, hk3⟩; have hS3 := cell_at M3.rd 0; have z3 := M3.size; have i3 := (hk3 W2.heap.size (by omega)).trans (heap_alloc_new W2.drew (.cells #[.int .u64 0, .int .u64 0] 26)); have y0 := cell_at i3 0; have y1 := cell_at i3 1; have g0 := free_at i3 0; have g1 := free_at i3 1)
      | (go_at_call 24; refine (mid_next w l4 l5 8 8 Q _ rfl (by omega) hl4 (by omega) nq d5 M3).mono ?_; rintro e W4 ⟨rfl, M4, hk4⟩; have hS4 := cell_at M4.rd 0; have z4 := M4.size; try (have i4 := (hk4 W2.heap.size (by omega)).trans i3; have y0' := cell_at i4 0; have y1' := cell_at i4 1; have g0' := free_at i4 0; have g1' := free_at i4 1))
      | (go_at_call 24; refine (mid_next w l4 l5 8 8 Q _ rfl (by omega) hl4 (by omega) nq d5 (M3.alloc (.cells #[.int .u64 0, .int .u64 0] 26))).mono ?_; rintro e W4 ⟨rfl, M4, hk4⟩; have hS4 := cell_at M4.rd 0; have z4 := M4.size; have i4 := (hk4 W3.heap.size (by omega)).trans (heap_alloc_new W3 (.cells #[.int .u64 0, .int .u64 0] 26)); have y0 := cell_at i4 0; have y1 := cell_at i4 1; have g0 := free_at i4 0; have g1 := free_at i4 1))
  -- THE THREE WAYS (the id's box is made behind, between, ahead of both readings) come to the same
  all_goals
    first
      | (have M5 := (M4.set (a := ⟨W2.heap.size, 0, none⟩) z2 (.int .u64 P)).set (a := ⟨W2.heap.size, 1, none⟩) z2 (.int .u64 Q); have j := set_two (I := W2.heap.size) (x := .int .u64 P) (y := .int .u64 Q) i4; have hI := z2; generalize (W4.setCell ⟨W2.heap.size, 0, none⟩ (.int .u64 P)).setCell ⟨W2.heap.size, 1, none⟩ (.int .u64 Q) = Wf at M5 j ⊢; generalize W2.heap.size = I at j hI ⊢)
      | (have M5 := (M4.set (a := ⟨W3.heap.size, 0, none⟩) z3 (.int .u64 P)).set (a := ⟨W3.heap.size, 1, none⟩) z3 (.int .u64 Q); have j := set_two (I := W3.heap.size) (x := .int .u64 P) (y := .int .u64 Q) i4; have hI := z3; generalize (W4.setCell ⟨W3.heap.size, 0, none⟩ (.int .u64 P)).setCell ⟨W3.heap.size, 1, none⟩ (.int .u64 Q) = Wf at M5 j ⊢; generalize W3.heap.size = I at j hI ⊢)
      | (have M5 := M4.alloc (.cells #[.int .u64 P, .int .u64 Q] 26); have j := And.intro (cell_at (heap_alloc_new W4 (.cells #[.int .u64 P, .int .u64 Q] 26)) 0) (cell_at (heap_alloc_new W4 (.cells #[.int .u64 P, .int .u64 Q] 26)) 1); have hI := z4; generalize W4.alloc (.cells #[.int .u64 P, .int .u64 Q] 26) = Wf at M5 j ⊢; generalize W4.heap.size = I at j hI ⊢)
    obtain ⟨j0, j1⟩ := j
    replace j0 : Wf.cell? ⟨I, 0, none⟩ = some (.int .u64 P) := j0
    replace j1 : Wf.cell? ⟨I, 1, none⟩ = some (.int .u64 Q) := j1
    obtain ⟨⟨p0, p1, p2, p3, p4⟩, q0, q1, q2, q3, q4⟩ := zb_cells M5.rb
    obtain ⟨⟨u0, u1, u2, u3⟩, t0, t1, t2, t3⟩ := zv_cells M5.rv
    have hbel := Lib.hid M5.below
    have hlt : w.heap.size + 1 + 1 < Wf.heap.size := by have := M5.size; omega
    cases hm : Wr.madeB S F
    · have hg : Hid (Wr.getS l = Wr.G.none) := Lib.hid (by
        unfold Wr.getS
        rw [HP.out.tells.1, HP.out.tells.2.1, hm, Bool.and_false]
        rfl)
      clear M2 M2d M3 M4 M5
      go_wp2_with (go_at_call 17; refine (made_any _ _ _).mono ?_; rintro e w' ⟨rfl, rfl⟩)
      go_region
      go_wp2
      refine bodyPost_ret (v := Wr.G.none.val) ?_ rfl ⟨by rw [hg.out], ?_⟩
      · simp [results, Try.results10, go_sem, Wr.G.none, Wr.G.val, Wr.B.val, Wr.V.val, Wr.B.zero, Wr.V.zero, p0, p1, p2, p3, p4, u0, u1, u2, u3]
      · exact stores9 hbel.out
    · have hg : Hid (Wr.getS l = ⟨⟨S, F, P, Q, T⟩, Wr.V.zero, false, 0⟩) := Lib.hid (by
        have hv : Wr.isV l = false := by unfold Wr.isV; rw [HLEN.out]; rfl
        have hv2 : Wr.isB l = true := by unfold Wr.isB; rw [HLEN.out, h2]; rfl
        unfold Wr.getS
        rw [HP.out.tells.1, HP.out.tells.2.1, HP.out.tells.2.2.1, HP.out.tells.2.2.2.1, hT2.out, hm, hv, hv2]
        rfl)
      have r5 : Wf.cell? ⟨w.heap.size + 1 + 1 + 1 + 1, 0, none⟩ = some (.func (.func 24) #[] #[.pointer (some ⟨w.heap.size + 1 + 1, 0, none⟩)]) := cell_at M5.rd 0
      have M5d := M5.drew
      have hsame := setV_same M5d.rv
      have hS5 : Wf.drew.cell? ⟨w.heap.size + 1 + 1 + 1 + 1, 0, none⟩ = some (.func (.func 24) #[] #[.pointer (some ⟨w.heap.size + 1 + 1, 0, none⟩)]) ∧ Wf.drew.cell? ⟨I, 0, none⟩ = some (.int .u64 P) ∧ Wf.drew.cell? ⟨I, 1, none⟩ = some (.int .u64 Q) ∧ Wf.drew.cell? ⟨w.heap.size + 1, 0, none⟩ = some (.int .i64 0) ∧ Wf.drew.cell? ⟨w.heap.size + 1, 1, none⟩ = some (.int .i64 0) ∧ Wf.drew.cell? ⟨w.heap.size + 1, 2, none⟩ = some (.int .u64 0) ∧ Wf.drew.cell? ⟨w.heap.size + 1, 3, none⟩ = some (.int .u64 0) := ⟨r5, j0, j1, u0, u1, u2, u3⟩
      obtain ⟨d0_, d1_, d2_, d3_, d4_, d5_, d6_⟩ := id hS5
      have hN0 : ¬ w.heap.size = I := by omega
      have hN1 : ¬ w.heap.size + 1 = I := by omega
      have hN2 : ¬ I = w.heap.size := by omega
      have hN3 : ¬ I = w.heap.size + 1 := by omega
      clear M2 M2d M3 M4 M5 hS2
      go_wp2_with (go_at_call 17; refine (made_any _ _ _).mono ?_; rintro e w' ⟨rfl, rfl⟩)
      go_region_held3 (fun w' => w'.cell? ⟨w.heap.size + 1 + 1 + 1 + 1, 0, none⟩ = some (.func (.func 24) #[] #[.pointer (some ⟨w.heap.size + 1 + 1, 0, none⟩)]) ∧ w'.cell? ⟨I, 0, none⟩ = some (.int .u64 P) ∧ w'.cell? ⟨I, 1, none⟩ = some (.int .u64 Q) ∧ w'.cell? ⟨w.heap.size + 1, 0, none⟩ = some (.int .i64 0) ∧ w'.cell? ⟨w.heap.size + 1, 1, none⟩ = some (.int .i64 0) ∧ w'.cell? ⟨w.heap.size + 1, 2, none⟩ = some (.int .u64 0) ∧ w'.cell? ⟨w.heap.size + 1, 3, none⟩ = some (.int .u64 0))
        (first | with_reducible exact hS6 | with_reducible exact hS5 | (refine ⟨?_, ?_, ?_, ?_, ?_, ?_, ?_⟩; (((repeat rw [World.cell?_setCell_far _ _ _ _ (by dsimp only; omega)]); with_reducible assumption)); (((repeat rw [World.cell?_setCell_far _ _ _ _ (by dsimp only; omega)]); with_reducible assumption)); (((repeat rw [World.cell?_setCell_far _ _ _ _ (by dsimp only; omega)]); with_reducible assumption)); (((repeat rw [World.cell?_setCell_far _ _ _ _ (by dsimp only; omega)]); first | with_reducible assumption | exact (setV_keep (by (repeat rw [World.cell?_setCell_far _ _ _ _ (by dsimp only; omega)]); with_reducible assumption) (by (repeat rw [World.cell?_setCell_far _ _ _ _ (by dsimp only; omega)]); with_reducible assumption) (by (repeat rw [World.cell?_setCell_far _ _ _ _ (by dsimp only; omega)]); with_reducible assumption) (by (repeat rw [World.cell?_setCell_far _ _ _ _ (by dsimp only; omega)]); with_reducible assumption)).1)); (((repeat rw [World.cell?_setCell_far _ _ _ _ (by dsimp only; omega)]); first | with_reducible assumption | exact (setV_keep (by (repeat rw [World.cell?_setCell_far _ _ _ _ (by dsimp only; omega)]); with_reducible assumption) (by (repeat rw [World.cell?_setCell_far _ _ _ _ (by dsimp only; omega)]); with_reducible assumption) (by (repeat rw [World.cell?_setCell_far _ _ _ _ (by dsimp only; omega)]); with_reducible assumption) (by (repeat rw [World.cell?_setCell_far _ _ _ _ (by dsimp only; omega)]); with_reducible assumption)).2.1)); (((repeat rw [World.cell?_setCell_far _ _ _ _ (by dsimp only; omega)]); first | with_reducible assumption | exact (setV_keep (by (repeat rw [World.cell?_setCell_far _ _ _ _ (by dsimp only; omega)]); with_reducible assumption) (by (repeat rw [World.cell?_setCell_far _ _ _ _ (by dsimp only; omega)]); with_reducible assumption) (by (repeat rw [World.cell?_setCell_far _ _ _ _ (by dsimp only; omega)]); with_reducible assumption) (by (repeat rw [World.cell?_setCell_far _ _ _ _ (by dsimp only; omega)]); with_reducible assumption)).2.2.1)); (((repeat rw [World.cell?_setCell_far _ _ _ _ (by dsimp only; omega)]); first | with_reducible assumption | exact (setV_keep (by (repeat rw [World.cell?_setCell_far _ _ _ _ (by dsimp only; omega)]); with_reducible assumption) (by (repeat rw [World.cell?_setCell_far _ _ _ _ (by dsimp only; omega)]); with_reducible assumption) (by (repeat rw [World.cell?_setCell_far _ _ _ _ (by dsimp only; omega)]); with_reducible assumption) (by (repeat rw [World.cell?_setCell_far _ _ _ _ (by dsimp only; omega)]); with_reducible assumption)).2.2.2))))
        (first
          | (go_at_call 24; (try rw [hsame]); refine (mid_next w l5 [] 8 8 T _ rfl (by omega) hl5 (by omega) nt d6 M5d).mono ?_; rintro e W6 ⟨rfl, M6, hk6⟩; have hI2 : I ≠ w.heap.size + 2 := (by omega); obtain ⟨⟨p0, p1, p2, p3, p4⟩, q0, q1, q2, q3, q4⟩ := zb_cells M6.rb; obtain ⟨⟨u0, u1, u2, u3⟩, t0, t1, t2, t3⟩ := zv_cells M6.rv; have hbel6 := Lib.hid M6.below; have hlt6 : w.heap.size + 1 + 1 < W6.heap.size := (by have := M6.size; omega); have hS6 : W6.cell? ⟨w.heap.size + 1 + 1 + 1 + 1, 0, none⟩ = some (.func (.func 24) #[] #[.pointer (some ⟨w.heap.size + 1 + 1, 0, none⟩)]) ∧ W6.cell? ⟨I, 0, none⟩ = some (.int .u64 P) ∧ W6.cell? ⟨I, 1, none⟩ = some (.int .u64 Q) ∧ W6.cell? ⟨w.heap.size + 1, 0, none⟩ = some (.int .i64 0) ∧ W6.cell? ⟨w.heap.size + 1, 1, none⟩ = some (.int .i64 0) ∧ W6.cell? ⟨w.heap.size + 1, 2, none⟩ = some (.int .u64 0) ∧ W6.cell? ⟨w.heap.size + 1, 3, none⟩ = some (.int .u64 0) := ⟨cell_at M6.rd 0, (cell_k hk6 hI2).trans j0, (cell_k hk6 hI2).trans j1, cell_at M6.rv 0, cell_at M6.rv 1, cell_at M6.rv 2, cell_at M6.rv 3⟩; have s0 := hS6.1; have s1 := hS6.2.1; have s2 := hS6.2.2.1; have s3 := hS6.2.2.2.1; have s4 := hS6.2.2.2.2.1; have s5 := hS6.2.2.2.2.2.1; have s6 := hS6.2.2.2.2.2.2))
      all_goals
        go_wp2
        refine bodyPost_ret (v := (⟨⟨S, F, P, Q, T⟩, Wr.V.zero, false, 0⟩ : Wr.G).val) ?_ rfl ⟨by rw [hg.out], ?_⟩
        · simp [results, Try.results10, go_sem, Wr.G.val, Wr.B.val, Wr.V.val, Wr.V.zero, p0, p1, p2, p3, p4, u0, u1, u2, u3]
        · repeat' (first | with_reducible exact hbel6.out | with_reducible refine Below.drew ?_ | (refine Below.setCell ?_ (by first | exact Nat.le_refl _ | exact Nat.le_succ _ | simp) _))

end Go.Proofs.Ytpjkjcecbhfgoaa
