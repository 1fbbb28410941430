/-
  The arguments of a law, opened: blocks, votes, bytes, ints.
-/
import Derived.Test.YtpjkjcecbhfgoaaWrUse
import Derived.ProofKit
import Derived.OpenShut
import Derived.ShutString
import Derived.ChangeOld
import Derived.Below
namespace Go.Proofs.Ytpjkjcecbhfgoaa
open Go.ChangeShapes Go.WideShapes Go.ChangeAt Go.RowKit
set_option linter.unusedSimpArgs false
set_option linter.unusedVariables false

theorem own : ownKnob Try.prog.godebug = none := by kernel_rfl
theorem laidOut : laidOutB Try.prog = true := by kernel_rfl
theorem cellsU64 : Try.prog.cellsOf 24 = 1 := by kernel_rfl
theorem cellsInt : Try.prog.cellsOf 3 = 1 := by kernel_rfl
theorem cellsID : Try.prog.cellsOf 26 = 2 := by kernel_rfl
theorem cellsBlock : Try.prog.cellsOf 28 = 5 := by kernel_rfl
theorem cellsVote : Try.prog.cellsOf 30 = 4 := by kernel_rfl

/-- An int. -/
def IsI (x : Int) : Prop := -9223372036854775808 ≤ x ∧ x ≤ 9223372036854775807

section
variable {H : Type} {enc : TypeId × Value → H} {W : World} {base b0 : Nat} {sp : Nat → Bool} {held : Bool} {r : Reach} {v : Value} {d : DataW H} {ps : List MemPlace}

theorem open_int' (hval : Value.okWide Try.prog W r base 3 v) (h : DataW.Trod enc Try.prog W b0 sp held 3 v d ps) : ∃ x : Int, v = .int .i64 x ∧ IsI x := by
  obtain ⟨x, rfl, rfl, rfl, w0⟩ := open_int Try.underlying3 hval h
  exact ⟨x, rfl, bounds_i64 w0⟩

theorem trod_id {c0 c1 : Value} {fuel : Nat} {x : DataW H × List MemPlace} (hf : DataW.trod enc Try.prog W b0 sp held fuel 26 [c0, c1] = some x) : ∃ p q : Int, c0 = .int .u64 p ∧ c1 = .int .u64 q ∧ IsU p ∧ IsU q := by
  have hu : Try.prog.underlying 26 = some (.array 2 24) := by kernel_rfl
  obtain ⟨xs, m, _, hx, _, hlen, hi⟩ := DataW.trod_array hu hf
  have h0 := hi 0 (by decide)
  have h1 := hi 1 (by decide)
  rw [cellsU64] at h0 h1
  rw [List.getElem?_eq_getElem (by omega)] at h0 h1
  obtain ⟨x0, e0, _, w0⟩ := DataW.trod_int Try.underlying24 h0
  obtain ⟨x1, e1, _, w1⟩ := DataW.trod_int Try.underlying24 h1
  simp at e0 e1
  exact ⟨x0, x1, e0, e1, bounds_u64 w0, bounds_u64 w1⟩

theorem list4 {α : Type} {l : List α} (h : (⟨l⟩ : Array α).size = 4) : ∃ a b c d, l = [a, b, c, d] := by
  match l, h with
  | [a, b, c, d], _ => exact ⟨a, b, c, d, rfl⟩
theorem list5 {α : Type} {l : List α} (h : (⟨l⟩ : Array α).size = 5) : ∃ a b c d e, l = [a, b, c, d, e] := by
  match l, h with
  | [a, b, c, d, e], _ => exact ⟨a, b, c, d, e, rfl⟩

theorem open_vote (hval : Value.okWide Try.prog W r base 30 v) (h : DataW.Trod enc Try.prog W b0 sp held 30 v d ps) : ∃ x : Wr.V, v = x.val ∧ IsU x.p ∧ IsU x.q := by
  have hu : Try.prog.underlying 30 = some (.struct (Try.prog.fieldsOf 30)) := by kernel_rfl
  have hfs : (Try.prog.fieldsOf 30).toList.map (fun f => (f.type, f.offset)) = [(3, 0), (3, 1), (26, 2)] := by kernel_rfl
  obtain ⟨cs, rfl, hsz, _⟩ : ∃ cs, v = .agg cs ∧ cs.size = Try.prog.cellsOf 30 ∧ Row.okWide Try.prog W r base 30 cs := by
    simpa [Value.okWide, hu] using hval
  rw [cellsVote] at hsz
  obtain ⟨l⟩ := cs
  obtain ⟨c0, c1, c2, c3, rfl⟩ := list4 hsz
  obtain ⟨fuel, hf⟩ := h
  obtain ⟨xs, m, _, hx, _, hlen, hi⟩ := DataW.trod_struct hu hf
  generalize Try.prog.fieldsOf 30 = fs at hfs hi hlen
  obtain ⟨fs⟩ := fs
  obtain ⟨f0, f1, f2, rfl, h0, h1, h2⟩ := fields3 hfs
  simp only [Prod.mk.injEq] at h0 h1 h2
  have k0 := hi 0 f0 rfl
  have k1 := hi 1 f1 rfl
  have k2 := hi 2 f2 rfl
  rw [h0.1, h0.2, cellsInt, List.getElem?_eq_getElem (by simp at hlen; omega)] at k0
  rw [h1.1, h1.2, cellsInt, List.getElem?_eq_getElem (by simp at hlen; omega)] at k1
  rw [h2.1, h2.2, cellsID, List.getElem?_eq_getElem (by simp at hlen; omega)] at k2
  obtain ⟨x0, e0, _, w0⟩ := DataW.trod_int Try.underlying3 k0
  obtain ⟨x1, e1, _, w1⟩ := DataW.trod_int Try.underlying3 k1
  obtain ⟨p, q, rfl, rfl, hp, hq⟩ := trod_id k2
  simp [Value.cells] at e0 e1
  subst e0 e1
  exact ⟨⟨x0, x1, p, q⟩, rfl, hp, hq⟩

theorem open_block (hval : Value.okWide Try.prog W r base 28 v) (h : DataW.Trod enc Try.prog W b0 sp held 28 v d ps) : ∃ x : Wr.B, v = x.val ∧ IsU x.p ∧ IsU x.q ∧ IsU x.salt := by
  have hu : Try.prog.underlying 28 = some (.struct (Try.prog.fieldsOf 28)) := by kernel_rfl
  have hfs : (Try.prog.fieldsOf 28).toList.map (fun f => (f.type, f.offset)) = [(3, 0), (3, 1), (26, 2), (24, 4)] := by kernel_rfl
  obtain ⟨cs, rfl, hsz, _⟩ : ∃ cs, v = .agg cs ∧ cs.size = Try.prog.cellsOf 28 ∧ Row.okWide Try.prog W r base 28 cs := by
    simpa [Value.okWide, hu] using hval
  rw [cellsBlock] at hsz
  obtain ⟨l⟩ := cs
  obtain ⟨c0, c1, c2, c3, c4, rfl⟩ := list5 hsz
  obtain ⟨fuel, hf⟩ := h
  obtain ⟨xs, m, _, hx, _, hlen, hi⟩ := DataW.trod_struct hu hf
  generalize Try.prog.fieldsOf 28 = fs at hfs hi hlen
  obtain ⟨fs⟩ := fs
  obtain ⟨f0, f1, f2, f3, rfl, h0, h1, h2, h3⟩ := fields4 hfs
  simp only [Prod.mk.injEq] at h0 h1 h2 h3
  have k0 := hi 0 f0 rfl
  have k1 := hi 1 f1 rfl
  have k2 := hi 2 f2 rfl
  have k3 := hi 3 f3 rfl
  rw [h0.1, h0.2, cellsInt, List.getElem?_eq_getElem (by simp at hlen; omega)] at k0
  rw [h1.1, h1.2, cellsInt, List.getElem?_eq_getElem (by simp at hlen; omega)] at k1
  rw [h2.1, h2.2, cellsID, List.getElem?_eq_getElem (by simp at hlen; omega)] at k2
  rw [h3.1, h3.2, cellsU64, List.getElem?_eq_getElem (by simp at hlen; omega)] at k3
  obtain ⟨x0, e0, _, w0⟩ := DataW.trod_int Try.underlying3 k0
  obtain ⟨x1, e1, _, w1⟩ := DataW.trod_int Try.underlying3 k1
  obtain ⟨p, q, rfl, rfl, hp, hq⟩ := trod_id k2
  obtain ⟨x4, e4, _, w4⟩ := DataW.trod_int Try.underlying24 k3
  simp [Value.cells] at e0 e1 e4
  subst e0 e1 e4
  exact ⟨⟨x0, x1, p, q, x4⟩, rfl, hp, hq, bounds_u64 w4⟩

theorem byte_int {x : Int} (h : 0 ≤ x ∧ x ≤ 255) : ((UInt8.ofNat x.toNat).toNat : Int) = x := by
  rw [UInt8.toNat_ofNat']
  omega

/-- A slice of bytes: as many as it says, each a byte of the model's. -/
theorem open_bytes (hval : Value.okWide Try.prog W r base 22 v) (h : DataW.Trod enc Try.prog W b0 sp held 22 v d ps) :
    ∃ (a : Option Addr) (l : List UInt8) (c n : Nat), v = .slice a n c ∧ l.length = n ∧ (n ≤ 9223372036854775807 ∧ (a = none → c = 0)) ∧ Came W a l c := by
  obtain ⟨a, n, c, rfl⟩ := okWide_slice Try.underlying22 hval
  obtain ⟨fuel, hf⟩ := h
  rcases open_ints Try.underlying22 Try.underlying5 (by kernel_rfl) hf with ⟨hcs, _⟩ | ⟨x, l, c', zs, hcs, _, hl, hm, hz, hp, hcell, hwz⟩
  · simp [Value.cells] at hcs
    obtain ⟨rfl, rfl, rfl⟩ := hcs
    exact ⟨none, [], 0, 0, rfl, rfl, ⟨by omega, fun _ => rfl⟩, ⟨by simp, by omega, .inl rfl⟩⟩
  · simp [Value.cells] at hcs
    obtain ⟨rfl, rfl, rfl⟩ := hcs
    have hzc : n ≤ zs.length := by
      split at hz <;> omega
    have hlen : ((zs.take n).map (fun z => UInt8.ofNat z.toNat)).length = n := by simp; omega
    refine ⟨some x, (zs.take n).map (fun z => UInt8.ofNat z.toNat), c, n, rfl, hlen, ⟨by unfold maxLen at hm; omega, fun h => by cases h⟩, ⟨by omega, by unfold maxLen at hm; omega, ?_⟩⟩
    rcases Nat.eq_zero_or_pos n with hn | hn
    · exact .inl (by omega)
    · obtain ⟨b, o, rfl, hc⟩ := ints_at hcell (by omega)
      refine .inr ⟨b, o, rfl, ?_, fun i hi => ?_⟩
      · exact World.block_lt_of_cell? _ _ (hc 0 (by omega))
      · have hi' : i < n := by omega
        rw [hc i (by omega)]
        have hb : (Lit.int .u8 (zs[i]'(by omega))).wf = true := hwz _ (List.getElem_mem (by omega))
        have hb2 : 0 ≤ (zs[i]'(by omega)) ∧ (zs[i]'(by omega)) ≤ 255 := by
          simpa [Lit.wf, IntKind.min, IntKind.max, IntKind.signed, IntKind.bits] using hb
        simp only [List.getElem_map, List.getElem_take]
        rw [byte_int hb2, List.getD_eq_getElem?_getD, List.getElem?_eq_getElem (by omega), Option.getD_some]
end

end Go.Proofs.Ytpjkjcecbhfgoaa
