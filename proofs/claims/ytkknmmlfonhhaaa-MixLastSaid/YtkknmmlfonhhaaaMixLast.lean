/-
  MixLast: the walk.
-/
import Derived.Test.YtkknmmlfonhhaaaMixFirst
import Derived.Laws.AppendOwnNone
namespace Go.Proofs.Ytkknmmlfonhhaaa
open Go.RowKit
set_option linter.unusedSimpArgs false
set_option linter.unusedVariables false

theorem info64 : (Try.prog.info? 22).map (fun i => (i.zero, i.size, i.bytes)) = some (some (.int .u64 0), 1, 8) := by kernel_rfl

/-- A row of the call's own that holds words is a slice of words. -/
theorem words_of_row {w : World} {base m : Nat} {v : Value} {xs : List Int} (h : w.ownsRow base 22 1 v m (xs.map (Value.int .u64))) (hin : ∀ i, i < xs.length → IsU (Mx.nth xs i)) (hm : 0 < m) :
    ∃ g cap, v = .slice (some ⟨g, 0, none⟩) m cap ∧ xs.length = m ∧ Mx.Words w (some ⟨g, 0, none⟩) xs := by
  have hl : xs.length = m := by simpa using h.1
  rcases h.2 with ⟨_, h0⟩ | ⟨g, cap, cur, rfl, hb, hg, hn, hc, hs, ht⟩
  · omega
  · refine ⟨g, cap, rfl, hl, hin, .inr ⟨g, 0, rfl, ?_, fun i hi => ?_⟩⟩
    · exact (Array.getElem?_eq_some_iff.1 hg).1
    · rw [Nat.zero_add]
      have hi' : i < cur.size := by omega
      have e : (cur.toList.take (m * 1))[i]? = (xs.map (Value.int .u64))[i]? := by rw [ht]
      rw [List.getElem?_take_of_lt (by omega), List.getElem?_map, List.getElem?_eq_getElem hi] at e
      rw [cell_at hg i]
      unfold Mx.nth
      rw [List.getElem?_eq_getElem hi]
      simpa using e

namespace mixLast
theorem nth_snoc {l : List Int} {x : Int} (hl : ∀ i, i < l.length → IsU (Mx.nth l i)) (hx : IsU x) : ∀ i, i < (l ++ [x]).length → IsU (Mx.nth (l ++ [x]) i) := by
  intro i hi
  simp at hi
  unfold Mx.nth
  by_cases h : i < l.length
  · rw [List.getElem?_append_left h]
    exact hl i h
  · obtain rfl : i = l.length := by omega
    simpa using hx

/-- What both lists come to. -/
theorem of_snoc (l : List Int) (x : Int) : Mx.ofI (l ++ [x]) = (Mx.step (Mx.step (Mx.fold' l).1 x) ((l.length : Int) + 1), Mx.step (Mx.step (Mx.fold' l).2 (Mx.neg x)) (Mx.neg ((l.length : Int) + 1))) := by
  unfold Mx.ofI Mx.fold'
  rw [List.foldl_append, List.length_append]
  rfl

/-- One more of the call's own blocks, and what the append has left: the list with its new last word. -/
theorem grown_step {w0 w w' : World} {base m : Nat} {v : Value} {xs : List Value} (bel : Below w0.heap.size w0 w) (hb : w0.heap.size ≤ base) (hown : w.ownsRow base 22 1 v m xs) (hg : w.grownBy w' v.ownBlock) : Below w0.heap.size w0 w' :=
  bel.grown hg bel.size (fun k hk => by have := (hown.lt k hk).1; omega)

theorem one_new (w : World) (x : Int) (t : TypeId) (g : Nat) (hg : g = w.heap.size) : ∀ (j : Nat) u, [Value.int .u64 x][j]? = some u → (w.alloc (.cells #[.int .u64 x] t)).cell? ((⟨g, 0, none⟩ : Addr).add j) = some u := by
  subst hg
  intro j u hj
  match j, hj with
  | 0, hj => simp at hj; subst hj; simp [Addr.add]

/-- Behind both appends: the slice of all words, and that nothing old has turned. -/
theorem row_done {W w2 w3 : World} {l : List Int} {x : Int} {v2 v3 : Value}
    (h2 : w2.ownsRow W.heap.size 22 1 v2 (0 + l.length) ([] ++ l.map (Value.int .u64))) (g2 : W.grownBy w2 (Value.slice none 0 0).ownBlock)
    (h3 : w3.ownsRow W.heap.size 22 1 v3 (0 + l.length + 1) (([] ++ l.map (Value.int .u64)) ++ [.int .u64 x])) (g3 : (w2.alloc (.cells #[.int .u64 x] 22)).grownBy w3 v2.ownBlock)
    (hin : ∀ i, i < (l ++ [x]).length → IsU (Mx.nth (l ++ [x]) i)) :
    (∃ g cap, v3 = .slice (some ⟨g, 0, none⟩) (l.length + 1) cap ∧ Mx.Words w3 (some ⟨g, 0, none⟩) (l ++ [x])) ∧ Below W.heap.size W w3 := by
  refine ⟨?_, ?_⟩
  · obtain ⟨g, cap, e, hl, hw⟩ := words_of_row (xs := l ++ [x]) (m := l.length + 1) (by simpa using h3) hin (Nat.succ_pos _)
    exact ⟨g, cap, e, hw⟩
  · have k2 := (Below.refl W.heap.size W).grown g2 (Nat.le_refl _) (fun j e => by cases e)
    exact grown_step (k2.alloc k2.size _) (Nat.le_refl _) (h2.alloc _) g3

set_option maxHeartbeats 2000000 in
theorem walk' (a : Option Addr) (l : List Int) (c : Nat) (x y a0 a1 b0 b1 : Int) (t : Bool) (ha : Hid (Mx.ofI (l ++ [x]) = (a0, a1))) (hb : Hid (Mx.ofI (l ++ [y]) = (b0, b1)))
    (hx : IsU x) (hy : IsU y) (t1 : (x == y) = t) (t2 : (a0 == b0) = t) (t3 : (a1 == b1) = t) (hn : a = none → c = 0 ∧ l = []) (w : World) (hl : Mx.Words w a l) (h40 : l.length ≤ 40) :
    Calls Try.prog 6 #[.slice a l.length c, .int .u64 x, .int .u64 y] w fun e w' => e = .returned (.bool true) ∧ Below w.heap.size w w' := by
  have bel := Below.refl w.heap.size w
  obtain ⟨i0, hi, hz0, hz1, hz2⟩ := info_parts info64
  have HX := Lib.hid (nth_snoc hl.1 hx)
  have HX2 := Lib.hid (nth_snoc hl.1 hy)
  have hd : decide ((40 : Int) < (l.length : Int)) = false := by simp; omega
  cases a with
  | none =>
    obtain ⟨rfl, rfl⟩ := hn rfl
    clear hn hl hd h40
    go_enter Try.func6, Try.ntmps6
    go_wp2_with fail
    refine (awake_any _).mono ?_
    rintro e w1 ⟨rfl, g1⟩
    have k1 := below_step bel g1
    clear g1 bel
    obtain ⟨W1, hW1⟩ : ∃ W, W = w1 := ⟨_, rfl⟩
    rw [← hW1] at k1 ⊢
    clear hW1
    go_wp2_with (first
      | (at_builtin; refine wpList_append_own_none rfl (.const (.slice none 0 0)) (.tmp 19) 23 rfl (W1).heap.size 22 i0 1 Try.underlying23 hi (.slice none 0 0) 0 [] rfl (World.ownsRow_nil _ _ _ _) rfl ?_; have hown2 := World.ownsRow_nil (W1) (W1).heap.size 22 1; have hg2 : World.grownBy (W1) (W1) (Value.slice none 0 0).ownBlock := ⟨rfl, rfl, rfl, Nat.le_refl _, fun _ _ _ => rfl⟩; have hs2 := hg2.size)
      | (at_builtin; refine wpList_append_own _ rfl (.tmp 20) (.tmp 22) 23 rfl (W1).heap.size 22 i0 (.int .u64 0) 1 8 Try.underlying23 hi hz0 hz1 hz2 rfl (by decide) _ _ _ rfl (hown2.alloc _) ⟨(W1).heap.size, 0, none⟩ 1 1 [.int .u64 x] rfl rfl (one_new W1 _ _ _ rfl) (by simp [Value.oneCell']) (by unfold maxLen; decide) (by decide) (by simp) ?_; intro v3 w3 hown3 hg3 _; have hs3 := hg3.size; obtain ⟨hwd, hk⟩ := row_done (l := []) hown2 hg2 hown3 hg3 HX.out; obtain ⟨g, cap, rfl, hwd⟩ := hwd; clear hown2 hg2 hown3 hg3))
    refine (of_as _ _ _ ([] ++ [x]) a0 a1 _ (by simp) ha (by simp) hwd).mono ?_
    rintro e w4 ⟨rfl, g4⟩
    have k4 := below_step (below_step k1 hk) g4
    have kA := Box2.new w4 a0 a1 25 _ rfl
    have k2 := k4.alloc k4.size (.cells #[.int .u64 a0, .int .u64 a1] 25)
    clear g4 k4 hwd hk k1
    go_wp2_with (first
      | (at_builtin; refine wpList_append_own_none rfl (.const (.slice none 0 0)) (.tmp 25) 23 rfl ((w4.alloc (.cells #[.int .u64 a0, .int .u64 a1] 25))).heap.size 22 i0 1 Try.underlying23 hi (.slice none 0 0) 0 [] rfl (World.ownsRow_nil _ _ _ _) rfl ?_; have hown2 := World.ownsRow_nil ((w4.alloc (.cells #[.int .u64 a0, .int .u64 a1] 25))) ((w4.alloc (.cells #[.int .u64 a0, .int .u64 a1] 25))).heap.size 22 1; have hg2 : World.grownBy ((w4.alloc (.cells #[.int .u64 a0, .int .u64 a1] 25))) ((w4.alloc (.cells #[.int .u64 a0, .int .u64 a1] 25))) (Value.slice none 0 0).ownBlock := ⟨rfl, rfl, rfl, Nat.le_refl _, fun _ _ _ => rfl⟩; have hs2 := hg2.size)
      | (at_builtin; refine wpList_append_own _ rfl (.tmp 26) (.tmp 28) 23 rfl (w4.alloc (.cells #[.int .u64 a0, .int .u64 a1] 25)).heap.size 22 i0 (.int .u64 0) 1 8 Try.underlying23 hi hz0 hz1 hz2 rfl (by decide) _ _ _ rfl (hown2.alloc _) ⟨w4.heap.size + 1, 0, none⟩ 1 1 [.int .u64 y] rfl rfl (one_new (w4.alloc (.cells #[.int .u64 a0, .int .u64 a1] 25)) _ _ (w4.heap.size + 1) (by simp)) (by simp [Value.oneCell']) (by unfold maxLen; decide) (by decide) (by simp) ?_; intro v3 w3 hown3 hg3 _; have hs3 := hg3.size; obtain ⟨hwd, hk⟩ := row_done (l := []) hown2 hg2 hown3 hg3 HX2.out; obtain ⟨g, cap, rfl, hwd⟩ := hwd; clear hown2 hg2 hown3 hg3))
    refine (of_as _ _ _ ([] ++ [y]) b0 b1 _ (by simp) hb (by simp) hwd).mono ?_
    rintro e w5 ⟨rfl, g5⟩
    have kA2 := ((kA.keep hk).keep g5).alloc (.cells #[.int .u64 b0, .int .u64 b1] 25)
    have kB := Box2.new w5 b0 b1 25 _ rfl
    have k5 := below_step (below_step k2 hk) g5
    have k6 := k5.alloc k5.size (.cells #[.int .u64 b0, .int .u64 b1] 25)
    clear kA k2 hwd hk g5 k5 hs2 hs3
    obtain ⟨e0, e1, _⟩ := kA2
    obtain ⟨e2, e3, _⟩ := kB
    cases t
    all_goals
      go_wp2
      go_ret
      exact ⟨rfl, k6⟩
  | some ad =>
    have hcell : ∀ wr : World, Below w.heap.size w wr → ∀ j u, (l.map (Value.int .u64))[j]? = some u → wr.cell? (ad.add j) = some u := by
      intro wr hw j u hj
      rcases hl.2 with h0 | ⟨b, o, e, hlt, hc⟩
      · have : l = [] := List.eq_nil_of_length_eq_zero h0
        subst this
        simp at hj
      · obtain rfl : ad = ⟨b, o, none⟩ := by simpa using e
        have hjl : j < l.length := by
          have := (List.getElem?_eq_some_iff.1 hj).1
          simpa using this
        rw [Go.WideShapes.add_plain, hw.cell (p := ⟨b, o + j, none⟩) hlt, hc j hjl]
        rw [List.getElem?_map, List.getElem?_eq_getElem hjl] at hj
        simp at hj
        rw [← hj]
        unfold Mx.nth
        rw [List.getElem?_eq_getElem hjl]
        rfl
    have HC := Lib.hid hcell
    clear hcell hl hn
    go_enter Try.func6, Try.ntmps6
    go_wp2_with fail
    refine (awake_any _).mono ?_
    rintro e w1 ⟨rfl, g1⟩
    have k1 := below_step bel g1
    clear g1 bel
    obtain ⟨W1, hW1⟩ : ∃ W, W = w1 := ⟨_, rfl⟩
    rw [← hW1] at k1 ⊢
    clear hW1
    go_wp2_with (first
      | (at_builtin; refine wpList_append_own _ rfl (.const (.slice none 0 0)) _ 23 rfl (W1).heap.size 22 i0 (.int .u64 0) 1 8 Try.underlying23 hi hz0 hz1 hz2 rfl (by decide) _ _ _ rfl (World.ownsRow_nil _ _ _ _) ad l.length c (l.map (Value.int .u64)) rfl (by simp) (HC.out _ k1) (fun u hu => by obtain ⟨z, _, rfl⟩ := List.mem_map.1 hu; rfl) (by unfold maxLen; omega) (by omega) (Nat.le_refl _) ?_; intro v2 w2 hown2 hg2 _; have hs2 := hg2.size)
      | (at_builtin; refine wpList_append_own _ rfl (.tmp 20) (.tmp 22) 23 rfl (W1).heap.size 22 i0 (.int .u64 0) 1 8 Try.underlying23 hi hz0 hz1 hz2 rfl (by decide) _ _ _ rfl (hown2.alloc _) ⟨w2.heap.size, 0, none⟩ 1 1 [.int .u64 x] rfl rfl (one_new w2 _ _ _ rfl) (by simp [Value.oneCell']) (by unfold maxLen; omega) (by omega) (by have h := hs2; simp at h ⊢; omega) ?_; intro v3 w3 hown3 hg3 _; have hs3 := hg3.size; obtain ⟨hwd, hk⟩ := row_done (l := l) hown2 hg2 hown3 hg3 HX.out; obtain ⟨g, cap, rfl, hwd⟩ := hwd; clear hown2 hg2 hown3 hg3))
    refine (of_as _ _ _ (l ++ [x]) a0 a1 _ (by simp) ha (by simp; omega) hwd).mono ?_
    rintro e w4 ⟨rfl, g4⟩
    have k4 := below_step (below_step k1 hk) g4
    have kA := Box2.new w4 a0 a1 25 _ rfl
    have k2 := k4.alloc k4.size (.cells #[.int .u64 a0, .int .u64 a1] 25)
    clear g4 k4 hwd hk k1
    go_wp2_with (first
      | (at_builtin; refine wpList_append_own _ rfl (.const (.slice none 0 0)) _ 23 rfl (w4.alloc (.cells #[.int .u64 a0, .int .u64 a1] 25)).heap.size 22 i0 (.int .u64 0) 1 8 Try.underlying23 hi hz0 hz1 hz2 rfl (by decide) _ _ _ rfl (World.ownsRow_nil _ _ _ _) ad l.length c (l.map (Value.int .u64)) rfl (by simp) (HC.out _ k2) (fun u hu => by obtain ⟨z, _, rfl⟩ := List.mem_map.1 hu; rfl) (by unfold maxLen; omega) (by omega) (Nat.le_refl _) ?_; intro v2 w2 hown2 hg2 _; have hs2 := hg2.size)
      | (at_builtin; refine wpList_append_own _ rfl (.tmp 26) (.tmp 28) 23 rfl (w4.alloc (.cells #[.int .u64 a0, .int .u64 a1] 25)).heap.size 22 i0 (.int .u64 0) 1 8 Try.underlying23 hi hz0 hz1 hz2 rfl (by decide) _ _ _ rfl (hown2.alloc _) ⟨w2.heap.size, 0, none⟩ 1 1 [.int .u64 y] rfl rfl (one_new w2 _ _ _ rfl) (by simp [Value.oneCell']) (by unfold maxLen; omega) (by omega) (by have h := hs2; simp at h ⊢; omega) ?_; intro v3 w3 hown3 hg3 _; have hs3 := hg3.size; obtain ⟨hwd, hk⟩ := row_done (l := l) hown2 hg2 hown3 hg3 HX2.out; obtain ⟨g, cap, rfl, hwd⟩ := hwd; clear hown2 hg2 hown3 hg3))
    refine (of_as _ _ _ (l ++ [y]) b0 b1 _ (by simp) hb (by simp; omega) hwd).mono ?_
    rintro e w5 ⟨rfl, g5⟩
    have kA2 := ((kA.keep hk).keep g5).alloc (.cells #[.int .u64 b0, .int .u64 b1] 25)
    have kB := Box2.new w5 b0 b1 25 _ rfl
    have k5 := below_step (below_step k2 hk) g5
    have k6 := k5.alloc k5.size (.cells #[.int .u64 b0, .int .u64 b1] 25)
    clear kA k2 hwd hk g5 k5 hs2 hs3
    obtain ⟨e0, e1, _⟩ := kA2
    obtain ⟨e2, e3, _⟩ := kB
    cases t
    all_goals
      go_wp2
      go_ret
      exact ⟨rfl, k6⟩
theorem walk (a : Option Addr) (l : List Int) (c n : Nat) (hn : l.length = n) (hm : n ≤ 9223372036854775807 ∧ (a = none → c = 0)) (w : World) (hl : Mx.Words w a l) (x : Int) (hx : IsU x) (y : Int) (hy : IsU y) :
    Calls Try.prog 6 #[.slice a n c, .int .u64 x, .int .u64 y] w fun e w' => e = .returned (.bool true) ∧ Below w.heap.size w w' := by
  subst hn
  by_cases h40 : l.length ≤ 40
  · have hnil : a = none → c = 0 ∧ l = [] := by
      intro h
      refine ⟨hm.2 h, ?_⟩
      rcases hl.2 with h0 | ⟨b, o, e, _⟩
      · exact List.eq_nil_of_length_eq_zero h0
      · rw [h] at e; cases e
    have hlen : IsU ((l.length : Int) + 1) := ⟨by omega, by omega⟩
    refine walk' a l c x y _ _ _ _ _ (Lib.hid (of_snoc l x)) (Lib.hid (of_snoc l y)) hx hy rfl (mixFirst.eqb rfl ?_ ?_) (mixFirst.eqb rfl ?_ ?_) hnil w hl h40
    · exact fun h => Mx.fst_inj (Mx.fold_in l).1 hx hy hlen h
    · exact fun h => by rw [h]
    · exact fun h => Mx.snd_inj (Mx.fold_in l).2 hx hy (Mx.isU_neg hlen) h
    · exact fun h => by rw [h]
  · have hd : decide ((40 : Int) < (l.length : Int)) = true := by simp; omega
    clear hm hl hx hy h40
    have bel := Below.refl w.heap.size w
    go_enter Try.func6, Try.ntmps6
    go_wp2_with (first
      | (go_at_call 9; refine (awake_any _).mono ?_; rintro e w1 ⟨rfl, hb⟩; replace bel := below_step bel hb; clear hb))
    go_ret
    exact ⟨rfl, bel⟩
end mixLast

end Go.Proofs.Ytkknmmlfonhhaaa
