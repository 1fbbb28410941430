/-
  The walks of the reference of wire: head, Block, Vote.
-/
import Derived.Test.YtpjkjcecbhfgoaaWrRefs
import Derived.Test.YtpjkjcecbhfgoaaWrCut
namespace Go.Proofs.Ytpjkjcecbhfgoaa
open Go.RowKit
set_option linter.unusedSimpArgs false
set_option linter.unusedVariables false

theorem OwnB.keep {w w' : World} {base : Nat} {v : Value} {l : List UInt8} (h : OwnB w base v l) (hb : Below w.heap.size w w') : OwnB w' base v l :=
  ⟨h.1, h.2.imp id (fun ⟨g, cap, cur, hv, hg, hh, r⟩ => ⟨g, cap, cur, hv, hg, (hb.block g (Array.getElem?_eq_some_iff.1 hh).1).trans hh, r⟩)⟩

/-- Behind an append of bytes to a row of the call's own. -/
theorem row_more {w2 : World} {base m : Nat} {v : Value} {l l' : List UInt8} (h : w2.ownsRow base 5 1 v m (l.map encB ++ l'.map encB)) (hm : m = l.length + l'.length) : OwnB w2 base v (l ++ l') := by
  unfold OwnB
  rw [List.length_append, ← hm, List.map_append]
  exact h
theorem grown8 {w wr w2 : World} {base m : Nat} {v : Value} {xs : List Value} (ho : wr.ownsRow base 5 1 v m xs) (hbel : Below base w wr) (hb : base ≤ wr.heap.size) (hg : wr.grownBy w2 v.ownBlock) : Below base w w2 :=
  hbel.grown hg hb (fun k hk => (ho.lt k hk).1)

theorem number_c (c : Int) (many : Nat) (hc : c = many) (N : Nat) (w : World) (hN : N ≤ 18446744073709551615) (hmany : many ≤ 100) :
    Calls Try.prog 22 #[.int .u64 N, .int .i64 c] w (PutPost w w.heap.size (Wr.num N many)) := by
  subst hc
  exact number_any N many w hN hmany

theorem row_f {w3 : World} {base m : Nat} {v : Value} {k : UInt8} {s f p q : Nat} (hf : f < 12) (h : w3.ownsRow base 5 1 v m (([k].map encB ++ (Wr.num s 4).map encB) ++ [.int .u8 (f : Int)])) (hm : m = 6 := by rfl) : OwnB w3 base v (upto k s f p q 0) := by
  subst hm
  have e : (upto k s f p q 0).map encB = ([k].map encB ++ (Wr.num s 4).map encB) ++ [.int .u8 (f : Int)] := by
    simp only [upto, List.map_append, Wr.num, List.map_cons, List.map_nil]
    rw [encB_ofNat f, Nat.mod_eq_of_lt (by omega)]
  unfold OwnB
  rw [e]
  have l6 : (upto k s f p q 0).length = 6 := by simp [upto, Wr.num_length]
  rw [l6]
  exact h

set_option maxHeartbeats 2000000 in
theorem refhead_any (k : UInt8) (s f p q : Nat) (w : World) (hs : s ≤ 1048576) (hf : f < 12) (hp : p ≤ 18446744073709551615) (hq : q ≤ 18446744073709551615) :
    Calls Try.prog 21 #[.int .u8 k.toNat, .int .i64 s, .int .i64 f, .agg #[.int .u64 p, .int .u64 q]] w (PutPost w w.heap.size (Wr.headB k s f p q)) := by
  obtain ⟨i0, hi, hz0, hz1, hz2⟩ := info_parts info8
  have hone := own_one (w.alloc (.cells #[.int .u64 p, .int .u64 q] 26)) k
  rw [World.size_alloc] at hone
  have HO := Lib.hid hone
  clear hone
  have wf8 : IntKind.u8.wrap (f : Int) = f := by simp [IntKind.wrap, IntKind.bits, IntKind.signed]; omega
  have ws64 : IntKind.u64.wrap (s : Int) = s := by rw [IntKind.wrap_u64]; omega
  have hc0 : ((w.alloc (.cells #[.int .u64 p, .int .u64 q] 26)).alloc (.cells #[.int .u8 k.toNat] 5)).cell? ⟨w.heap.size, 0, none⟩ = some (.int .u64 p) := by
    rw [((Below.refl _ (w.alloc (.cells #[.int .u64 p, .int .u64 q] 26))).alloc (Nat.le_refl _) _).cell (p := ⟨w.heap.size, 0, none⟩) (by simp)]
    exact cell_at (heap_alloc_new w _) 0
  have hc1 : ((w.alloc (.cells #[.int .u64 p, .int .u64 q] 26)).alloc (.cells #[.int .u8 k.toNat] 5)).cell? ⟨w.heap.size, 1, none⟩ = some (.int .u64 q) := by
    rw [((Below.refl _ (w.alloc (.cells #[.int .u64 p, .int .u64 q] 26))).alloc (Nat.le_refl _) _).cell (p := ⟨w.heap.size, 1, none⟩) (by simp)]
    exact cell_at (heap_alloc_new w _) 1
  have hb0 : Below w.heap.size w ((w.alloc (.cells #[.int .u64 p, .int .u64 q] 26)).alloc (.cells #[.int .u8 k.toNat] 5)) := ((Below.refl _ w).alloc (Nat.le_refl _) _).alloc (by simp) _
  have HC0 := Lib.hid hc0
  have HC1 := Lib.hid hc1
  have HB0 := Lib.hid hb0
  clear hc0 hc1 hb0
  go_enter Try.func21, Try.ntmps21
  go_wp2_with fail
  refine (number_c 4 4 rfl s _ (by omega) (by omega)).mono ?_
  rintro e w1 ⟨v1, rfl, o1, b1⟩
  obtain ⟨g1, cap1, rfl, hN1, hY1⟩ := of_own (w := w) o1 (by rw [Wr.num_length]; omega)
  have hl1 := hY1.len
  have hl2 := hY1.cap_
  have r1 := HO.out.keep b1
  have z1 := b1.size
  rw [Wr.num_length] at hl1 ⊢
  unfold OwnB at r1
  simp only [World.size_alloc] at z1
  have b1' := b1.mono (show w.heap.size + 1 ≤ _ by simp)
  clear b1
  go_wp2_with (first
    | (at_builtin; refine wpList_append_own _ rfl (.tmp 11) (.tmp 14) 22 rfl (w.heap.size + 1) 5 i0 (.int .u8 0) 1 1 Try.underlying22 hi hz0 hz1 hz2 rfl (by decide) _ _ _ rfl r1 ⟨g1, 0, none⟩ 4 cap1 ((Wr.num s 4).map encB) rfl (by simp [Wr.num_length]) (cells_of hY1) (encs _) (by unfold maxLen; simp) (by simp) (by omega) ?_; intro v2 w2 hown2 hg2 _; have hb2 := grown8 r1 (Below.refl _ _) (by omega) hg2; have z2 := hb2.size)
    | (at_builtin; refine wpList_append_own _ rfl (.tmp 16) (.tmp 19) 22 rfl (w.heap.size + 1) 5 i0 (.int .u8 0) 1 1 Try.underlying22 hi hz0 hz1 hz2 rfl (by decide) _ _ _ rfl (hown2.alloc _) ⟨w2.heap.size, 0, none⟩ 1 1 [.int .u8 f] rfl rfl (one_byte w2 _ _ _ rfl) (by simp [Value.oneCell']) (by unfold maxLen; simp) (by simp) (by simp; omega) ?_; intro v3 w3 hown3 hg3 _; have hb3 := put_below hown2 (Below.refl _ _) (show w.heap.size + 1 ≤ w2.heap.size by omega) hg3; have ball := (b1'.trans hb2).trans hb3; have z3 := ball.size; simp only [World.size_alloc] at z3; have c0 := (ball.cell (p := ⟨w.heap.size, 0, none⟩) (Nat.lt_succ_self _)).trans HC0.out; have c1 := (ball.cell (p := ⟨w.heap.size, 1, none⟩) (Nat.lt_succ_self _)).trans HC1.out; have o3 := row_f (p := p) (q := q) hf hown3; have BA := Lib.hid ball; clear hown2 hg2 hown3 hg3 hb2 hb3 ball b1' r1 hY1 hl1 hl2))
  have hlt : w.heap.size < w3.heap.size := by omega
  refine (number_c 8 8 rfl p _ (by omega) (by omega)).mono ?_
  rintro e w4 ⟨v4, rfl, o4, b4⟩
  obtain ⟨g4, cap4, rfl, hN4, hY4⟩ := of_own (w := w) o4 (by rw [Wr.num_length]; omega)
  have hl4 := hY4.len
  have hl5 := hY4.cap_
  have r4 := o3.keep b4
  replace c1 := (b4.cell (p := ⟨w.heap.size, 1, none⟩) hlt).trans c1
  have z4 := b4.size
  have b4' := b4.mono (show w.heap.size + 1 ≤ _ by omega)
  rw [Wr.num_length] at hl4 ⊢
  unfold OwnB at r4
  have L4 := Lib.hid (upto_len k s f p q 0)
  clear o3 o4 b4 c0
  go_wp2_with (at_builtin; refine wpList_append_own _ rfl (.tmp 21) (.tmp 24) 22 rfl (w.heap.size + 1) 5 i0 (.int .u8 0) 1 1 Try.underlying22 hi hz0 hz1 hz2 rfl (by decide) _ _ _ rfl r4 ⟨g4, 0, none⟩ 8 cap4 ((Wr.num p 8).map encB) rfl (by simp [Wr.num_length]) (cells_of hY4) (encs _) (by have := L4.out; unfold maxLen; omega) (by have := L4.out; omega) (by omega) ?_; intro v5 w5 hown5 hg5 _; have hb5 := grown8 r4 (Below.refl _ _) (by omega) hg5; replace c1 := (hb5.cell (p := ⟨w.heap.size, 1, none⟩) (Nat.lt_succ_self _)).trans c1; have z5 := hb5.size; have o5 : OwnB w5 (w.heap.size + 1) v5 (upto k s f p q 1) := row_more hown5 (by rw [Wr.num_length]; rfl); clear hown5 hg5 r4 hY4 hl4 hl5)
  have hlt5 : w.heap.size < w5.heap.size := by omega
  refine (number_c 8 8 rfl q _ (by omega) (by omega)).mono ?_
  rintro e w6 ⟨v6, rfl, o6, b6⟩
  obtain ⟨g6, cap6, rfl, hN6, hY6⟩ := of_own (w := w) o6 (by rw [Wr.num_length]; omega)
  have hl4 := hY6.len
  have hl5 := hY6.cap_
  have r6 := o5.keep b6
  have z6 := b6.size
  have b6' := b6.mono (show w.heap.size + 1 ≤ _ by omega)
  rw [Wr.num_length] at hl4 ⊢
  unfold OwnB at r6
  have L6 := Lib.hid (upto_len k s f p q 1)
  clear o5 o6 b6 c1
  go_wp2_with (at_builtin; refine wpList_append_own _ rfl (.tmp 26) (.tmp 29) 22 rfl (w.heap.size + 1) 5 i0 (.int .u8 0) 1 1 Try.underlying22 hi hz0 hz1 hz2 rfl (by decide) _ _ _ rfl r6 ⟨g6, 0, none⟩ 8 cap6 ((Wr.num q 8).map encB) rfl (by simp [Wr.num_length]) (cells_of hY6) (encs _) (by have := L6.out; unfold maxLen; omega) (by have := L6.out; omega) (by omega) ?_; intro v7 w7 hown7 hg7 _; have hb7 := grown8 r6 (Below.refl _ _) (by omega) hg7; have o7 : OwnB w7 (w.heap.size + 1) v7 (upto k s f p q 2) := row_more hown7 (by rw [Wr.num_length]; rfl); clear hown7 hg7 r6 hY6)
  go_ret
  rw [upto_two] at o7
  exact ⟨_, rfl, OwnB.lower o7 (Nat.le_succ _), HB0.out.trans ((((BA.out.trans b4').trans hb5).trans b6').trans hb7 |>.mono (Nat.le_succ _))⟩

set_option maxHeartbeats 1000000 in
theorem refvote_yes (s f p q : Nat) (w : World) (h0 : 0 < s) (hs : s ≤ 1048576) (hf : f < 12) (hp : p ≤ 18446744073709551615) (hq : q ≤ 18446744073709551615) :
    Calls Try.prog 14 #[.agg #[.int .i64 f, .int .i64 s, .int .u64 p, .int .u64 q]] w (BytesPost w (Wr.headB 2 s f p q)) := by
  have hm : Wr.madeB s f = true := by unfold Wr.madeB; simp; omega
  go_enter Try.func14, Try.ntmps14
  go_wp2_with (first
    | (go_at_call 20; refine (refmade_any _ _ _).mono ?_; rintro e w' ⟨rfl, rfl⟩)
    | (go_at_call 21; refine (refhead_any 2 s f p q _ hs hf hp hq).mono ?_; rintro e w' ⟨v1, rfl, o1, b1⟩))
  go_ret2
  exact ⟨_, rfl, OwnB.lower o1 (by simp), ((Below.refl _ w).alloc (Nat.le_refl _) _).trans (b1.mono (by simp))⟩

set_option maxHeartbeats 1000000 in
theorem refvote_bad (f s p q : Int) (w : World) (hm : Wr.madeB s f = false) :
    Calls Try.prog 14 #[.agg #[.int .i64 f, .int .i64 s, .int .u64 p, .int .u64 q]] w fun e w' => e = .returned (.tuple #[.slice none 0 0, .int .i64 1]) ∧ Below w.heap.size w w' := by
  go_enter Try.func14, Try.ntmps14
  go_wp2_with (refine (refmade_any _ _ _).mono ?_; rintro e w' ⟨rfl, rfl⟩)
  go_ret2
  exact ⟨rfl, (Below.refl _ _).alloc (Nat.le_refl _) _⟩

set_option maxHeartbeats 1000000 in
theorem refblock_bad (s f p q t : Int) (w : World) (hm : Wr.madeB s f = false) :
    Calls Try.prog 12 #[.agg #[.int .i64 s, .int .i64 f, .int .u64 p, .int .u64 q, .int .u64 t]] w fun e w' => e = .returned (.tuple #[.slice none 0 0, .int .i64 1]) ∧ Below w.heap.size w w' := by
  go_enter Try.func12, Try.ntmps12
  go_wp2_with (refine (refmade_any _ _ _).mono ?_; rintro e w' ⟨rfl, rfl⟩)
  go_ret2
  exact ⟨rfl, (Below.refl _ _).alloc (Nat.le_refl _) _⟩

end Go.Proofs.Ytpjkjcecbhfgoaa
