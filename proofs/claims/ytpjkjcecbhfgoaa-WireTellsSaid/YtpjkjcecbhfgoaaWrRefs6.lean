/-
  The reference of wire as WireTells meets it.
-/
import Derived.Test.YtpjkjcecbhfgoaaWrRefs5
import Derived.Test.YtpjkjcecbhfgoaaWrRefs3
namespace Go.Proofs.Ytpjkjcecbhfgoaa
open Go.RowKit
set_option linter.unusedSimpArgs false
set_option linter.unusedVariables false

set_option maxHeartbeats 1000000 in
theorem refget_short (a : Option Addr) (n c : Nat) (w : World) (h : n < 22) :
    Calls Try.prog 15 #[.slice a n c] w fun e w' => e = .returned Wr.G.none.val ∧ Below w.heap.size w w' := by
  have l0 : decide ((n : Int) < 22) = true := decide_eq_true (by omega)
  clear h
  go_enter Try.func15, Try.ntmps15
  go_wp2
  refine bodyPost_ret (v := Wr.G.none.val) ?_ rfl ⟨rfl, two_new _ _⟩
  simp [results, Try.results15, go_sem, Wr.G.none, Wr.G.val, Wr.B.val, Wr.V.val, Wr.B.zero, Wr.V.zero]

theorem refget_any (a : Option Addr) (l : List UInt8) (c : Nat) (w : World) (hc : Came w a l c) :
    Calls Try.prog 15 #[.slice a l.length c] w fun e w' => e = .returned (Wr.getS l).val ∧ Below w.heap.size w w' := by
  by_cases h22 : l.length < 22
  · have e : Wr.getS l = Wr.G.none := by
      unfold Wr.getS Wr.isV Wr.isB
      rw [decide_eq_false (show ¬ l.length = 22 by omega), decide_eq_false (show ¬ l.length = 30 by omega)]
      rfl
    rw [e]
    exact refget_short a _ c w h22
  rcases hc.at_ with h0 | ⟨b, o, rfl, hb, hcl⟩
  · omega
  have hnc := hc.len
  have h63 := hc.cap
  have hin : InB b o l w := hcl
  have g0 : l[0]? = some (l[0]'(by omega)) := List.getElem?_eq_getElem _
  obtain ⟨x, hx⟩ : ∃ x, l[0]'(by omega) = x := ⟨_, rfl⟩
  rw [hx] at g0
  have x0 : w.cell? ⟨b, o, none⟩ = some (.int .u8 (x.toNat : Int)) := by rw [← hx]; exact hcl 0 (by omega)
  have x5 := hcl 5 (by omega)
  have hF : Wr.rd ((l.drop 5).take 1) = (l[5]'(by omega)).toNat := by
    rw [List.drop_eq_getElem_cons (show 5 < l.length by omega), List.take_succ_cons, List.take_zero]
    rfl
  obtain ⟨F, hF'⟩ : ∃ F, (l[5]'(by omega)).toNat = F := ⟨_, rfl⟩
  have bf : F < 256 := by rw [← hF']; exact (l[5]'(by omega)).toNat_lt
  rw [hF'] at x5 hF
  obtain ⟨S, hS⟩ : ∃ S, Wr.rd ((l.drop 1).take 4) = S := ⟨_, rfl⟩
  obtain ⟨P, hP⟩ : ∃ S, Wr.rd ((l.drop 6).take 8) = S := ⟨_, rfl⟩
  obtain ⟨Q, hQ⟩ : ∃ S, Wr.rd ((l.drop 14).take 8) = S := ⟨_, rfl⟩
  obtain ⟨T, hT⟩ : ∃ S, Wr.rd ((l.drop 22).take 8) = S := ⟨_, rfl⟩
  have bs : S < 4294967296 := by rw [← hS]; have := rd_take_lt (l.drop 1) 4; omega
  have eG : Wr.getS l = if ((decide (l.length = 22) && decide (x = 2)) || (decide (l.length = 30) && decide (x = 1))) && Wr.madeB S F then (if decide (l.length = 22) && decide (x = 2) then ⟨Wr.B.zero, ⟨F, S, P, Q⟩, true, 0⟩ else ⟨⟨S, F, P, Q, T⟩, Wr.V.zero, false, 0⟩) else Wr.G.none := by
    unfold Wr.getS Wr.isV Wr.isB Wr.slotAt Wr.whoAt Wr.numAt
    rw [g0, hS, hF, hP, hQ, hT]
    rfl
  have d1 : ((x.toNat : Int) == 1) = decide (x = 1) := by
    rw [Bool.eq_iff_iff]
    simp only [beq_iff_eq, decide_eq_true_eq]
    exact ⟨fun h => UInt8.toNat.inj (by have : (1 : UInt8).toNat = 1 := rfl; omega), fun h => by rw [h]; rfl⟩
  have d2 : ((x.toNat : Int) == 2) = decide (x = 2) := by
    rw [Bool.eq_iff_iff]
    simp only [beq_iff_eq, decide_eq_true_eq]
    exact ⟨fun h => UInt8.toNat.inj (by have : (2 : UInt8).toNat = 2 := rfl; omega), fun h => by rw [h]; rfl⟩
  have d30 : ((l.length : Int) == 30) = decide (l.length = 30) := by
    rw [Bool.eq_iff_iff]
    simp only [beq_iff_eq, decide_eq_true_eq]
    omega
  have d22 : ((l.length : Int) == 22) = decide (l.length = 22) := by
    rw [Bool.eq_iff_iff]
    simp only [beq_iff_eq, decide_eq_true_eq]
    omega
  have no (k1 k30 k2 k22 is : Bool) (e1 : decide (x = 1) = k1) (e30 : decide (l.length = 30) = k30) (e2 : decide (x = 2) = k2) (e22 : decide (l.length = 22) = k22) (hm : Wr.madeB S F = is)
      (hk : is = false ∨ (is = true ∧ k1 = false ∧ k2 = false) ∨ (is = true ∧ k1 = false ∧ k2 = true ∧ k22 = false) ∨ (is = true ∧ k1 = true ∧ k30 = false ∧ k2 = false)) :=
    refget_none b o c l.length l x.toNat S F P Q w rfl (by omega) hnc h63 hb hin is k1 k30 k2 k22 x0 x5 (Lib.hid hS) (Lib.hid hP) (Lib.hid hQ) bs bf hm (d1.trans e1) (d30.trans e30) (d2.trans e2) (d22.trans e22) hk
  have hne : ¬ (x = 1 ∧ x = 2) := by rintro ⟨rfl, h⟩; exact absurd h (by decide)
  rw [eG]
  cases hm : Wr.madeB S F
  · rw [Bool.and_false, if_neg (by decide)]
    exact no _ _ _ _ _ rfl rfl rfl rfl hm (.inl rfl)
  · by_cases e1 : x = 1
    · have e2 : ¬ x = 2 := fun h => hne ⟨e1, h⟩
      rw [decide_eq_true e1, decide_eq_false e2]
      by_cases e30 : l.length = 30
      · rw [decide_eq_true e30, Bool.and_false, if_pos (by decide), if_neg (by decide)]
        exact refget_block b o c l.length l x.toNat S F P Q T w rfl (by omega) hnc h63 hb hin x0 x5 (Lib.hid hS) (Lib.hid hP) (Lib.hid hQ) (Lib.hid hT) bs bf hm (d1.trans (decide_eq_true e1)) (d30.trans (decide_eq_true e30))
      · rw [decide_eq_false e30, Bool.and_false, if_neg (by decide)]
        exact no _ _ _ _ _ (decide_eq_true e1) (decide_eq_false e30) (decide_eq_false e2) rfl hm (.inr (.inr (.inr ⟨rfl, rfl, rfl, rfl⟩)))
    · rw [decide_eq_false e1, Bool.and_false, Bool.or_false, Bool.and_true]
      by_cases e2 : x = 2
      · by_cases e22 : l.length = 22
        · rw [decide_eq_true e2, decide_eq_true e22, if_pos (by decide), if_pos (by decide)]
          exact refget_vote b o c l.length l x.toNat S F P Q w rfl (by omega) hnc h63 hb hin x0 x5 (Lib.hid hS) (Lib.hid hP) (Lib.hid hQ) bs bf hm (d1.trans (decide_eq_false e1)) (d2.trans (decide_eq_true e2)) (d22.trans (decide_eq_true e22))
        · rw [decide_eq_false e22, Bool.false_and, if_neg (by decide)]
          exact no _ _ _ _ _ (decide_eq_false e1) rfl (decide_eq_true e2) (decide_eq_false e22) hm (.inr (.inr (.inl ⟨rfl, rfl, rfl, rfl⟩)))
      · rw [decide_eq_false e2, Bool.and_false, if_neg (by decide)]
        exact no _ _ _ _ _ (decide_eq_false e1) rfl (decide_eq_false e2) rfl hm (.inr (.inl ⟨rfl, rfl, rfl⟩))

theorem refget_use (a : Option Addr) (l : List UInt8) (n c : Nat) (w : World) (hn : l.length = n) (hc : Came w a l c) (s f p q t f2 s2 p2 q2 : Int) (is : Bool) (er : Int)
    (hg : Hid (Wr.getS l = ⟨⟨s, f, p, q, t⟩, ⟨f2, s2, p2, q2⟩, is, er⟩)) :
    Calls Try.prog 15 #[.slice a n c] w fun e w' => e = .returned (.tuple #[.agg #[.int .i64 s, .int .i64 f, .int .u64 p, .int .u64 q, .int .u64 t], .agg #[.int .i64 f2, .int .i64 s2, .int .u64 p2, .int .u64 q2], .bool is, .int .i64 er]) ∧ Below w.heap.size w w' := by
  subst hn
  refine (refget_any a l c w hc).mono ?_
  rintro e w' ⟨rfl, hb⟩
  rw [hg.out]
  exact ⟨rfl, hb⟩

theorem refblock_use (s f p q t : Int) (l : List UInt8) (w : World) (hm : Wr.madeB s f = true) (hp : IsU p) (hq : IsU q) (ht : IsU t) (hl : Hid (Wr.blockB ⟨s, f, p, q, t⟩ = l)) :
    Calls Try.prog 12 #[.agg #[.int .i64 s, .int .i64 f, .int .u64 p, .int .u64 q, .int .u64 t]] w fun e w' => ∃ g cap, e = .returned (.tuple #[.slice (some ⟨g, 0, none⟩) 30 cap, .int .i64 0]) ∧ Bytes w' l g cap ∧ Below w.heap.size w w' := by
  have hlen := Wr.block_length ⟨s, f, p, q, t⟩
  obtain ⟨h1, h2⟩ := made_true hm
  obtain ⟨s, rfl⟩ := Int.eq_ofNat_of_zero_le (show 0 ≤ s by omega)
  obtain ⟨f, rfl⟩ := Int.eq_ofNat_of_zero_le (show 0 ≤ f by omega)
  obtain ⟨p, rfl⟩ := Int.eq_ofNat_of_zero_le hp.1
  obtain ⟨q, rfl⟩ := Int.eq_ofNat_of_zero_le hq.1
  obtain ⟨t, rfl⟩ := Int.eq_ofNat_of_zero_le ht.1
  have h3 := hp.2
  have h4 := hq.2
  have h5 := ht.2
  refine (refblock_yes s f p q t w (by omega) (by omega) (by omega) (by omega) (by omega) (by omega)).mono ?_
  rintro e w' ⟨v, rfl, ho, hb⟩
  have ho' : OwnB w' w.heap.size v (Wr.blockB ⟨s, f, p, q, t⟩) := ho
  obtain ⟨g, cap, rfl, -, hB⟩ := of_own (w := w) ho' (by omega)
  rw [hl.out] at hB
  exact ⟨g, cap, by rw [hlen], hB, hb⟩

theorem refvote_use (f s p q : Int) (l : List UInt8) (w : World) (hm : Wr.madeB s f = true) (hp : IsU p) (hq : IsU q) (hl : Hid (Wr.voteB ⟨f, s, p, q⟩ = l)) :
    Calls Try.prog 14 #[.agg #[.int .i64 f, .int .i64 s, .int .u64 p, .int .u64 q]] w fun e w' => ∃ g cap, e = .returned (.tuple #[.slice (some ⟨g, 0, none⟩) 22 cap, .int .i64 0]) ∧ Bytes w' l g cap ∧ Below w.heap.size w w' := by
  have hlen := Wr.vote_length ⟨f, s, p, q⟩
  obtain ⟨h1, h2⟩ := made_true hm
  obtain ⟨s, rfl⟩ := Int.eq_ofNat_of_zero_le (show 0 ≤ s by omega)
  obtain ⟨f, rfl⟩ := Int.eq_ofNat_of_zero_le (show 0 ≤ f by omega)
  obtain ⟨p, rfl⟩ := Int.eq_ofNat_of_zero_le hp.1
  obtain ⟨q, rfl⟩ := Int.eq_ofNat_of_zero_le hq.1
  have h3 := hp.2
  have h4 := hq.2
  refine (refvote_yes s f p q w (by omega) (by omega) (by omega) (by omega) (by omega)).mono ?_
  rintro e w' ⟨v, rfl, ho, hb⟩
  have ho' : OwnB w' w.heap.size v (Wr.voteB ⟨f, s, p, q⟩) := ho
  obtain ⟨g, cap, rfl, -, hB⟩ := of_own (w := w) ho' (by omega)
  rw [hl.out] at hB
  exact ⟨g, cap, by rw [hlen], hB, hb⟩

end Go.Proofs.Ytpjkjcecbhfgoaa
