/-
  MixFirst: the walk.
-/
import Derived.Test.YtkknmmlfonhhaaaMixTells
namespace Go.Proofs.Ytkknmmlfonhhaaa
open Go.RowKit
set_option linter.unusedSimpArgs false
set_option linter.unusedVariables false

namespace Mx
/-- The first word of a list of one, and the second one. -/
theorem one_fst (x : Int) : (ofI [x]).1 = step (step 1 x) 1 := rfl
theorem one_snd (x : Int) : (ofI [x]).2 = step (step 2 (neg x)) (neg 1) := rfl
theorem none_fst : (ofI []).1 = step 1 0 := rfl
theorem none_snd : (ofI []).2 = step 2 18446744073709551615 := rfl
theorem isU_step (h x : Int) : IsU (step h x) := step_bd h x
theorem isU_neg {x : Int} (h : IsU x) : IsU (neg x) := neg_bd x h.1 h.2
theorem neg_inj {x y : Int} (h : neg x = neg y) : x = y := by unfold neg at h; omega

theorem last_fst {p q r : Int} (hp : IsU p) (hq : IsU q) (hr : IsU r) (h : step p r = step q r) : p = q := step_inj' hr hp hq h

/-- What is ahead of the last word, and the length: no two last words come to one word of an ID. -/
theorem fst_inj {p x y n : Int} (hp : IsU p) (hx : IsU x) (hy : IsU y) (hn : IsU n) (h : step (step p x) n = step (step p y) n) : x = y :=
  step_inj hp hx hy (step_inj' hn (isU_step _ _) (isU_step _ _) h)
theorem snd_inj {p x y n : Int} (hp : IsU p) (hx : IsU x) (hy : IsU y) (hn : IsU n) (h : step (step p (neg x)) n = step (step p (neg y)) n) : x = y :=
  neg_inj (step_inj hp (isU_neg hx) (isU_neg hy) (step_inj' hn (isU_step _ _) (isU_step _ _) h))
end Mx

namespace mixFirst
/-- Three boxes: what the region's loads lean on. -/
theorem keep3 {A B C : Nat} {a0 a1 b0 b1 c0 c1 : Int} {w0 w w' : World} (kA : Box2 A a0 a1 w) (kB : Box2 B b0 b1 w) (kC : Box2 C c0 c1 w) (bel : Below w0.heap.size w0 w) (hb : Below w.heap.size w w') :
    Box2 A a0 a1 w' ∧ Box2 B b0 b1 w' ∧ Box2 C c0 c1 w' ∧ Below w0.heap.size w0 w' := ⟨kA.keep hb, kB.keep hb, kC.keep hb, below_step bel hb⟩

set_option maxHeartbeats 2000000 in
theorem walk' (x y a0 a1 b0 b1 c0 c1 : Int) (t : Bool) (ha : Hid (Mx.ofI [x] = (a0, a1))) (hb : Hid (Mx.ofI [y] = (b0, b1))) (hc : Hid (Mx.ofI [] = (c0, c1)))
    (hx : IsU x) (hy : IsU y) (t1 : (x == y) = t) (t2 : (a0 == b0) = t) (t3 : (a1 == b1) = t) (t4 : Mx.step 1 0 = c0) (t5 : Mx.step 2 18446744073709551615 = c1) (w : World) :
    Calls Try.prog 8 #[.int .u64 x, .int .u64 y] w fun e w' => e = .returned (.bool true) ∧ Below w.heap.size w w' := by
  have bel := Below.refl w.heap.size w
  cases t
  all_goals
    go_enter Try.func8, Try.ntmps8
    go_wp2_with fail
    refine (awake_any _).mono ?_
    rintro e w1 ⟨rfl, g1⟩
    go_wp2_with fail
    refine (of_as _ _ _ [x] _ _ _ rfl ha (by simp) (Mx.one _ x hx.1 hx.2 _ _ (by simp))).mono ?_
    rintro e w2 ⟨rfl, g2⟩
    go_wp2_with fail
    refine (of_as _ _ _ [y] _ _ _ rfl hb (by simp) (Mx.one _ y hy.1 hy.2 _ _ (by simp))).mono ?_
    rintro e w3 ⟨rfl, g3⟩
    go_wp2_with fail
    refine (of_as _ _ _ [] _ _ _ rfl hc (by simp) ⟨fun i hi => by simp at hi, .inl rfl⟩).mono ?_
    rintro e w4 ⟨rfl, g4⟩
    go_wp2_with fail
    have k1 := below_step bel g1
    have k2 := below_step (k1.alloc k1.size (.cells #[.int .u64 x] 22)) g2
    have kA := Box2.new w2 a0 a1 25 _ rfl
    have k3 := below_step ((k2.alloc k2.size (.cells #[.int .u64 a0, .int .u64 a1] 25)).alloc (by have := k2.size; simp; omega) (.cells #[.int .u64 y] 22)) g3
    replace kA := (kA.alloc (.cells #[.int .u64 y] 22)).keep g3
    have kB := Box2.new w3 b0 b1 25 _ rfl
    have k4 := below_step (k3.alloc k3.size (.cells #[.int .u64 b0, .int .u64 b1] 25)) g4
    replace kA := ((kA.alloc (.cells #[.int .u64 b0, .int .u64 b1] 25)).keep g4).alloc (.cells #[.int .u64 c0, .int .u64 c1] 25)
    replace kB := (kB.keep g4).alloc (.cells #[.int .u64 c0, .int .u64 c1] 25)
    have kC := Box2.new w4 c0 c1 25 _ rfl
    have k5 := k4.alloc k4.size (.cells #[.int .u64 c0, .int .u64 c1] 25)
    clear g1 g2 g3 g4 k1 k2 k3 k4 bel ha hb hc
    generalize w4.alloc (.cells #[.int .u64 c0, .int .u64 c1] 25) = W at kA kB kC k5 ⊢
    generalize w2.heap.size = A at kA ⊢
    generalize w3.heap.size = B at kB ⊢
    generalize w4.heap.size = C at kC ⊢
    obtain ⟨e0, e1, _⟩ := kA
    obtain ⟨e2, e3, _⟩ := kB
    obtain ⟨e4, e5, _⟩ := kC
    go_quiet ((go_at_call 13; exact Calls.quiet_same (step_any _ _ _ (by decide) (by decide) (by decide) (by decide))))
    go_wp2
    go_ret
    exact ⟨rfl, k5.trans (below_drewN _ _ _)⟩

theorem eqb {a b : Int} {t : Bool} (h : (a == b) = t) {c d : Int} (h1 : c = d → a = b) (h2 : a = b → c = d) : (c == d) = t := by
  rw [← h, Bool.eq_iff_iff, beq_iff_eq, beq_iff_eq]
  exact ⟨h1, h2⟩

theorem walk (x : Int) (hx : IsU x) (y : Int) (hy : IsU y) (w : World) :
    Calls Try.prog 8 #[.int .u64 x, .int .u64 y] w fun e w' => e = .returned (.bool true) ∧ Below w.heap.size w w' := by
  have u1 : IsU 1 := ⟨by decide, by decide⟩
  have u2 : IsU 2 := ⟨by decide, by decide⟩
  refine walk' x y _ _ _ _ _ _ _ (Lib.hid rfl) (Lib.hid rfl) (Lib.hid rfl) hx hy rfl (eqb rfl ?_ ?_) (eqb rfl ?_ ?_) Mx.none_fst.symm Mx.none_snd.symm w
  · exact fun h => Mx.fst_inj u1 hx hy u1 h
  · exact fun h => by rw [h]
  · exact fun h => Mx.snd_inj u2 hx hy (Mx.isU_neg u1) h
  · exact fun h => by rw [h]
end mixFirst

end Go.Proofs.Ytkknmmlfonhhaaa
