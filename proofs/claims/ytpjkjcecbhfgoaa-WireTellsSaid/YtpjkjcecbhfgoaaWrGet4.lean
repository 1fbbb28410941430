/-
  What wire's Get tells of bytes that came in.
-/
import Derived.Test.YtpjkjcecbhfgoaaWrGet3
namespace Go.Proofs.Ytpjkjcecbhfgoaa
open Go.RowKit
set_option linter.unusedSimpArgs false
set_option linter.unusedVariables false

set_option maxHeartbeats 1000000 in
theorem get_not2 (b o c : Nat) (x : UInt8) (w : World) (hb : b < w.heap.size) (x0 : w.cell? ⟨b, o, none⟩ = some (.int .u8 (x.toNat : Int))) (h : ((x.toNat : Int) == 2) = false) :
    Calls Try.prog 10 #[.slice (some ⟨b, o, none⟩) 22 c] w fun e w' => e = .returned Wr.G.none.val ∧ Below w.heap.size w w' := by
  go_enter Try.func10, Try.ntmps10
  go_wp2
  go_region
  all_goals
    go_wp2
    refine bodyPost_ret (v := Wr.G.none.val) ?_ rfl ⟨rfl, (((Below.refl _ w).alloc (Nat.le_refl _) _).alloc (by simp) _).drew⟩
    simp [results, Try.results10, go_sem, Wr.G.none, Wr.G.val, Wr.B.val, Wr.V.val, Wr.B.zero, Wr.V.zero]

set_option maxHeartbeats 1000000 in
theorem get_not1 (b o c : Nat) (x : UInt8) (w : World) (hb : b < w.heap.size) (x0 : w.cell? ⟨b, o, none⟩ = some (.int .u8 (x.toNat : Int))) (h : ((x.toNat : Int) != 1) = true) :
    Calls Try.prog 10 #[.slice (some ⟨b, o, none⟩) 30 c] w fun e w' => e = .returned Wr.G.none.val ∧ Below w.heap.size w w' := by
  go_enter Try.func10, Try.ntmps10
  go_wp2
  go_region
  all_goals
    go_wp2
    refine bodyPost_ret (v := Wr.G.none.val) ?_ rfl ⟨rfl, (((Below.refl _ w).alloc (Nat.le_refl _) _).alloc (by simp) _).drew⟩
    simp [results, Try.results10, go_sem, Wr.G.none, Wr.G.val, Wr.B.val, Wr.V.val, Wr.B.zero, Wr.V.zero]

theorem get_any (a : Option Addr) (l : List UInt8) (c : Nat) (w : World) (hc : Came w a l c) :
    Calls Try.prog 10 #[.slice a l.length c] w fun e w' => e = .returned (Wr.getS l).val ∧ Below w.heap.size w w' := by
  have hcell : ∀ b o, (∀ i (hi : i < l.length), w.cell? ⟨b, o + i, none⟩ = some (.int .u8 (l[i].toNat : Int))) → 0 < l.length → w.cell? ⟨b, o, none⟩ = some (.int .u8 ((l[0]?.getD 0).toNat : Int)) := by
    intro b o h h0
    rw [List.getElem?_eq_getElem h0]
    exact h 0 h0
  have hne : ∀ k : UInt8, l[0]?.getD 0 ≠ k → ¬ (((l[0]?.getD 0).toNat : Int) = k.toNat) := fun k h e => h (UInt8.toNat.inj (by omega))
  by_cases h22 : l.length = 22
  · rcases hc.at_ with h0 | ⟨b, o, rfl, hb, hcl⟩
    · omega
    by_cases h2 : l[0]?.getD 0 = 2
    · obtain ⟨l1, l2, l3, l4, l5, S, F, P, Q, hP⟩ := parts_of l
      have := get_vote b o c l l1 l2 l3 l4 l5 S F P Q hP w h22 hc.len hc.cap hb hcl h2
      rw [h22]
      exact this
    · have hn : Wr.getS l = Wr.G.none := by
        have hv : Wr.isV l = false := by unfold Wr.isV; rw [decide_eq_false h2, Bool.and_false]
        have hv2 : Wr.isB l = false := by unfold Wr.isB; rw [h22]; rfl
        unfold Wr.getS
        rw [hv, hv2]
        rfl
      have := get_not2 b o c _ w hb (hcell b o hcl (by omega)) (by have := hne 2 h2; simpa using this)
      rw [h22, hn]
      exact this
  by_cases h30 : l.length = 30
  · rcases hc.at_ with h0 | ⟨b, o, rfl, hb, hcl⟩
    · omega
    by_cases h1 : l[0]?.getD 0 = 1
    · obtain ⟨l1, l2, l3, l4, l5, S, F, P, Q, hP⟩ := parts_of l
      have := get_block b o c l l1 l2 l3 l4 l5 S F P Q hP w h30 hc.len hc.cap hb hcl h1
      rw [h30]
      exact this
    · have hn : Wr.getS l = Wr.G.none := by
        have hv : Wr.isV l = false := by unfold Wr.isV; rw [h30]; rfl
        have hv2 : Wr.isB l = false := by unfold Wr.isB; rw [decide_eq_false h1, Bool.and_false]
        unfold Wr.getS
        rw [hv, hv2]
        rfl
      have := get_not1 b o c _ w hb (hcell b o hcl (by omega)) (by have := hne 1 h1; simpa using this)
      rw [h30, hn]
      exact this
  · have hn : Wr.getS l = Wr.G.none := by
      unfold Wr.getS Wr.isV Wr.isB
      simp [h22, h30]
    rw [hn]
    exact get_short a l c w ⟨h22, h30⟩ hc

end Go.Proofs.Ytpjkjcecbhfgoaa
