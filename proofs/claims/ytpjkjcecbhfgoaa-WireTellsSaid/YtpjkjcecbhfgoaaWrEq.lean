/-
  '==' on blocks and votes, as the walk meets it.
-/
import Derived.Test.YtpjkjcecbhfgoaaWrGet4
import Derived.Test.YtpjkjcecbhfgoaaWrLaws
import Derived.Laws.StructEq
namespace Go.Proofs.Ytpjkjcecbhfgoaa
open Go.RowKit
set_option linter.unusedSimpArgs false
set_option linter.unusedVariables false

theorem eqID (d : Nat) (a0 a1 b0 b1 : Int) (w : World) :
    (Op.equalIn (d + 2) 26 (.agg #[.int .u64 a0, .int .u64 a1]) (.agg #[.int .u64 b0, .int .u64 b1])).run Try.prog w = .ok (a0 == b0 && a1 == b1) w := by
  have hu : Try.prog.underlying 26 = some (.array 2 24) := by kernel_rfl
  obtain ⟨i, hi⟩ : ∃ i, Try.prog.info? 24 = some i := by
    have h : (Try.prog.info? 24).isSome = true := by kernel_rfl
    exact Option.isSome_iff_exists.1 h
  have hc : Try.prog.cellsOf 24 = 1 := by kernel_rfl
  have uE := Try.underlying24
  have aE := Try.isAgg24
  rw [show d + 2 = (d + 1) + 1 from rfl, run_equalIn_array w (d + 1) _ _ hu hi, hc, show List.range 2 = [0, 1] from rfl]
  simp only [Op.eqItems]
  go_simp
  by_cases h1 : a0 = b0 <;> by_cases h2 : a1 = b1 <;> simp [h1, h2]

theorem fields3 {α : Type} {g : Field → α} {fs : List Field} {a b c : α} (h : fs.map g = [a, b, c]) : ∃ x y z, fs = [x, y, z] ∧ g x = a ∧ g y = b ∧ g z = c := by
  match fs, h with
  | [x, y, z], h => simp at h; exact ⟨x, y, z, rfl, h⟩
  | [], h => simp at h
  | [_], h => simp at h
  | [_, _], h => simp at h
  | _ :: _ :: _ :: _ :: _, h => simp at h
theorem fields4 {α : Type} {g : Field → α} {fs : List Field} {a b c d : α} (h : fs.map g = [a, b, c, d]) : ∃ x y z u, fs = [x, y, z, u] ∧ g x = a ∧ g y = b ∧ g z = c ∧ g u = d := by
  match fs, h with
  | [x, y, z, u], h => simp at h; exact ⟨x, y, z, u, rfl, h⟩
  | [], h => simp at h
  | [_], h => simp at h
  | [_, _], h => simp at h
  | [_, _, _], h => simp at h
  | _ :: _ :: _ :: _ :: _ :: _, h => simp at h

theorem eqV (a b : Wr.V) (w : World) : (Op.equalIn 10000 30 a.val b.val).run Try.prog w = .ok (decide (a = b)) w := by
  obtain ⟨f, s, p, q⟩ := a
  obtain ⟨f', s', p', q'⟩ := b
  have ht : Try.prog.underlying 30 = some (.struct (Try.prog.fieldsOf 30)) := by kernel_rfl
  have hp : Try.prog.stoodInHeld 30 = false := by kernel_rfl
  have hf : (Try.prog.fieldsOf 30).toList.map (fun f => (f.name, f.type, f.offset)) = [("From", 3, 0), ("Slot", 3, 1), ("Head", 26, 2)] := by kernel_rfl
  unfold Wr.V.val
  rw [show (10000 : Nat) = 9999 + 1 from rfl, run_equalIn_struct w 9999 _ _ _ ht hp]
  generalize (Try.prog.fieldsOf 30).toList = fs at hf
  obtain ⟨f0, f1, f2, rfl, h0, h1, h2⟩ := fields3 hf
  simp only [Prod.mk.injEq] at h0 h1 h2
  obtain ⟨n0, t0, o0⟩ := h0
  obtain ⟨n1, t1, o1⟩ := h1
  obtain ⟨n2, t2, o2⟩ := h2
  have uE := Try.underlying3
  have aE := Try.isAgg3
  have aI := Try.isAgg26
  have e := fun w => eqID 9997 p q p' q' w
  simp only [Op.eqFields, n0, n1, n2, t0, t1, t2, o0, o1, o2]
  go_simp
  by_cases h0 : f = f' <;> by_cases h1 : s = s' <;> by_cases h2 : p = p' <;> by_cases h3 : q = q' <;> simp [h0, h1, h2, h3]

theorem eqB (a b : Wr.B) (w : World) : (Op.equalIn 10000 28 a.val b.val).run Try.prog w = .ok (decide (a = b)) w := by
  obtain ⟨s, f, p, q, t⟩ := a
  obtain ⟨s', f', p', q', t'⟩ := b
  have ht : Try.prog.underlying 28 = some (.struct (Try.prog.fieldsOf 28)) := by kernel_rfl
  have hp : Try.prog.stoodInHeld 28 = false := by kernel_rfl
  have hf : (Try.prog.fieldsOf 28).toList.map (fun f => (f.name, f.type, f.offset)) = [("Slot", 3, 0), ("From", 3, 1), ("Parent", 26, 2), ("Salt", 24, 4)] := by kernel_rfl
  unfold Wr.B.val
  rw [show (10000 : Nat) = 9999 + 1 from rfl, run_equalIn_struct w 9999 _ _ _ ht hp]
  generalize (Try.prog.fieldsOf 28).toList = fs at hf
  obtain ⟨f0, f1, f2, f3, rfl, h0, h1, h2, h3⟩ := fields4 hf
  simp only [Prod.mk.injEq] at h0 h1 h2 h3
  obtain ⟨n0, t0, o0⟩ := h0
  obtain ⟨n1, t1, o1⟩ := h1
  obtain ⟨n2, t2, o2⟩ := h2
  obtain ⟨n3, t3, o3⟩ := h3
  have uE := Try.underlying3
  have aE := Try.isAgg3
  have uU := Try.underlying24
  have aU := Try.isAgg24
  have aI := Try.isAgg26
  have e := fun w => eqID 9997 p q p' q' w
  simp only [Op.eqFields, n0, n1, n2, n3, t0, t1, t2, t3, o0, o1, o2, o3]
  go_simp
  by_cases h0 : s = s' <;> by_cases h1 : f = f' <;> by_cases h2 : p = p' <;> by_cases h3 : q = q' <;> by_cases h4 : t = t' <;> simp [h0, h1, h2, h3, h4]

end Go.Proofs.Ytpjkjcecbhfgoaa
