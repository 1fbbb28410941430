/-
  The arguments of a law, opened: words, IDs, slices of words.
-/
import Derived.Test.YtkknmmlfonhhaaaMixOf
import Derived.ProofKit
import Derived.OpenShut
import Derived.ShutString
import Derived.ChangeOld
import Derived.Below
namespace Go.Proofs.Ytkknmmlfonhhaaa
open Go.ChangeShapes Go.WideShapes Go.ChangeAt Go.RowKit
set_option linter.unusedVariables false
set_option linter.unusedSimpArgs false

theorem own : ownKnob Try.prog.godebug = none := by kernel_rfl
theorem laidOut : laidOutB Try.prog = true := by kernel_rfl
theorem cellsU64 : Try.prog.cellsOf 22 = 1 := by kernel_rfl
theorem cellsID : Try.prog.cellsOf 25 = 2 := by kernel_rfl

/-- A word of 64 bits. -/
def IsU (x : Int) : Prop := 0 ≤ x ∧ x ≤ 18446744073709551615

namespace Mx
theorem toNat_lt {x : Int} (h : IsU x) : x.toNat < M := by
  have := h.1; have := h.2
  unfold M; omega
theorem toNat_inj {x y : Int} (hx : IsU x) (hy : IsU y) (h : x.toNat = y.toNat) : x = y := by
  have := hx.1; have := hy.1
  omega
theorem word_inj {x y : Int} (hx : IsU x) (hy : IsU y) (h : word x = word y) : x = y := by
  unfold word at h
  exact toNat_inj hx hy (wordN_inj _ _ (toNat_lt hx) (toNat_lt hy) (by omega))
theorem step_inj {h x y : Int} (hh : IsU h) (hx : IsU x) (hy : IsU y) (e : step h x = step h y) : x = y := by
  unfold step at e
  exact toNat_inj hx hy (stepN_inj _ _ _ (toNat_lt hh) (toNat_lt hx) (toNat_lt hy) (by omega))
theorem step_comm (h x : Int) : step h x = step x h := by unfold step; rw [stepN_comm]
theorem step_inj' {h x y : Int} (hh : IsU h) (hx : IsU x) (hy : IsU y) (e : step x h = step y h) : x = y := by
  rw [step_comm x h, step_comm y h] at e
  exact step_inj hh hx hy e
end Mx

/-- Nothing old has turned: two steps. -/
theorem below_step {w0 w w' : World} (h : Below w0.heap.size w0 w) (hb : Below w.heap.size w w') : Below w0.heap.size w0 w' := h.trans (hb.mono h.size)

/-- A box of two words. -/
structure Box2 (B : Nat) (a0 a1 : Int) (w : World) : Prop where
  c0 : w.cell? ⟨B, 0, none⟩ = some (.int .u64 a0)
  c1 : w.cell? ⟨B, 1, none⟩ = some (.int .u64 a1)
  lt : B < w.heap.size
theorem Box2.keep {B : Nat} {a0 a1 : Int} {w w' : World} (h : Box2 B a0 a1 w) (hb : Below w.heap.size w w') : Box2 B a0 a1 w' :=
  ⟨(hb.cell (p := ⟨B, 0, none⟩) h.lt).trans h.c0, (hb.cell (p := ⟨B, 1, none⟩) h.lt).trans h.c1, Nat.lt_of_lt_of_le h.lt hb.size⟩
theorem Box2.alloc {B : Nat} {a0 a1 : Int} {w : World} (h : Box2 B a0 a1 w) (o : Obj) : Box2 B a0 a1 (w.alloc o) := h.keep ((Below.refl _ _).alloc (Nat.le_refl _) o)
theorem Box2.new (w : World) (a0 a1 : Int) (t : TypeId) (g : Nat) (hg : g = w.heap.size) : Box2 g a0 a1 (w.alloc (.cells #[.int .u64 a0, .int .u64 a1] t)) := by
  subst hg
  exact ⟨cell_at (heap_alloc_new w _) 0, cell_at (heap_alloc_new w _) 1, by simp⟩

section
variable {H : Type} {enc : TypeId × Value → H} {W : World} {base b0 : Nat} {sp : Nat → Bool} {held : Bool} {r : Reach} {v : Value} {d : DataW H} {ps : List MemPlace}

theorem open_u64 (hval : Value.okWide Try.prog W r base 22 v) (h : DataW.Trod enc Try.prog W b0 sp held 22 v d ps) : ∃ x : Int, v = .int .u64 x ∧ IsU x := by
  obtain ⟨x, rfl, rfl, rfl, w0⟩ := open_int Try.underlying22 hval h
  exact ⟨x, rfl, bounds_u64 w0⟩

theorem list2 {α : Type} {l : List α} (h : (⟨l⟩ : Array α).size = 2) : ∃ a b, l = [a, b] := by
  match l, h with
  | [a, b], _ => exact ⟨a, b, rfl⟩

theorem open_id (hval : Value.okWide Try.prog W r base 25 v) (h : DataW.Trod enc Try.prog W b0 sp held 25 v d ps) : ∃ x y : Int, v = .agg #[.int .u64 x, .int .u64 y] ∧ IsU x ∧ IsU y := by
  have hu : Try.prog.underlying 25 = some (.array 2 22) := by kernel_rfl
  obtain ⟨cs, rfl, hsz, _⟩ : ∃ cs, v = .agg cs ∧ cs.size = Try.prog.cellsOf 25 ∧ Row.okWide Try.prog W r base 25 cs := by
    simpa [Value.okWide, hu] using hval
  rw [cellsID] at hsz
  obtain ⟨l⟩ := cs
  obtain ⟨c0, c1, rfl⟩ := list2 hsz
  obtain ⟨fuel, hf⟩ := h
  obtain ⟨xs, m, _, hx, _, hlen, hi⟩ := DataW.trod_array hu hf
  have h0 := hi 0 (by decide)
  have h1 := hi 1 (by decide)
  rw [cellsU64] at h0 h1
  rw [List.getElem?_eq_getElem (by omega)] at h0 h1
  obtain ⟨x0, e0, _, w0⟩ := DataW.trod_int Try.underlying22 h0
  obtain ⟨x1, e1, _, w1⟩ := DataW.trod_int Try.underlying22 h1
  simp [Value.cells] at e0 e1
  subst e0 e1
  exact ⟨x0, x1, rfl, bounds_u64 w0, bounds_u64 w1⟩

theorem open_u64s (hval : Value.okWide Try.prog W r base 23 v) (h : DataW.Trod enc Try.prog W b0 sp held 23 v d ps) :
    ∃ (a : Option Addr) (l : List Int) (c n : Nat), v = .slice a n c ∧ l.length = n ∧ (n ≤ 9223372036854775807 ∧ (a = none → c = 0)) ∧ Mx.Words W a l := by
  have h' := h
  obtain ⟨a, n, c, rfl⟩ := okWide_slice Try.underlying23 hval
  have lt : ∀ x ∈ ps, x.block < W.heap.size := by obtain ⟨m, hm⟩ := h'; exact DataW.trod_lt m _ _ _ hm
  obtain ⟨fuel, hf⟩ := h
  rcases open_ints Try.underlying23 Try.underlying22 (by kernel_rfl) hf with ⟨hcs, _⟩ | ⟨x, l, c', zs, hcs, _, hl, hm, hz, hp, hcell, hwz⟩
  · simp [Value.cells] at hcs
    obtain ⟨rfl, rfl, rfl⟩ := hcs
    exact ⟨none, [], 0, 0, rfl, rfl, ⟨by omega, fun _ => rfl⟩, fun i hi => by simp at hi, .inl rfl⟩
  · simp [Value.cells] at hcs
    obtain ⟨rfl, rfl, rfl⟩ := hcs
    have hzc : n ≤ zs.length := by
      split at hz <;> omega
    have hlen : (zs.take n).length = n := by simp; omega
    refine ⟨some x, zs.take n, c, n, rfl, hlen, ⟨by unfold maxLen at hm; omega, fun h => by cases h⟩, ?_, ?_⟩
    · intro i hi
      have hi' : i < zs.length := by omega
      have hb : (Lit.int .u64 zs[i]).wf = true := hwz _ (List.getElem_mem hi')
      have := bounds_u64 hb
      unfold Mx.nth
      rw [List.getElem?_take_of_lt (by omega), List.getElem?_eq_getElem hi']
      exact this
    · rcases Nat.eq_zero_or_pos n with hn | hn
      · exact .inl (by omega)
      · obtain ⟨b, o, rfl, hc⟩ := ints_at hcell (by omega)
        refine .inr ⟨b, o, rfl, ?_, fun i hi => ?_⟩
        · exact World.block_lt_of_cell? _ _ (hc 0 (by omega))
        · rw [hc i (by omega)]
          unfold Mx.nth
          rw [List.getElem?_take_of_lt (by omega), List.getD_eq_getElem?_getD]
end

end Go.Proofs.Ytkknmmlfonhhaaa
