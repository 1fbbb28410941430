/-
  The walk of wire's Get where the bytes are of a length that may be.
-/
import Derived.Test.YtpjkjcecbhfgoaaWrGet
import Derived.Laws.EntriesVeiled
namespace Go.Proofs.Ytpjkjcecbhfgoaa
open Go.RowKit
set_option linter.unusedSimpArgs false
set_option linter.unusedVariables false

theorem Left.drew {B : Nat} {l : List UInt8} {w : World} (h : Left B l w) : Left B l w.drew := ⟨h.box⟩

set_option maxHeartbeats 400000 in
theorem of_any (a : Option Addr) (n c : Nat) (w : World) :
    Calls Try.prog 16 #[.slice a n c] w fun e w' => e = .returned (.agg #[.func (.func 24) #[] #[.pointer (some ⟨w.heap.size, 0, none⟩)]]) ∧
      (w.alloc (.cells #[.slice a n c] 22)).alloc (.cells #[.func (.func 24) #[] #[.pointer (some ⟨w.heap.size, 0, none⟩)]] 44) = w' := by
  go_enter Try.func16, Try.ntmps16
  go_wp2
  refine bodyPost_ret (v := .agg #[.func (.func 24) #[] #[.pointer (some ⟨w.heap.size, 0, none⟩)]]) ?_ rfl ⟨rfl, rfl⟩
  simp [results, Try.results16, go_sem]

theorem cell_k {B R j : Nat} {w w' : World} (hk : ∀ k, k ≠ B → w'.heap[k]? = w.heap[k]?) (hR : R ≠ B) : w'.cell? ⟨R, j, none⟩ = w.cell? ⟨R, j, none⟩ := World.cell?_of_block (w := w) (hk R hR)

/-- Zero blocks and zero votes, as they lie. -/
def zB : Obj := .cells #[.int .i64 0, .int .i64 0, .int .u64 0, .int .u64 0, .int .u64 0] 28 (0, 0)
def zV : Obj := .cells #[.int .i64 0, .int .i64 0, .int .u64 0, .int .u64 0] 30 (0, 0)
def fnV (B : Nat) : Value := .func (.func 24) #[] #[.pointer (some ⟨B, 0, none⟩)]

/-- Where Get stands when it begins to read: its results' boxes, its reader, what is left. -/
structure Mid (w : World) (l : List UInt8) (W : World) : Prop where
  below : Below w.heap.size w W
  size : w.heap.size + 5 ≤ W.heap.size
  rb : W.heap[w.heap.size]? = some zB
  rv : W.heap[w.heap.size + 1]? = some zV
  rd : W.heap[w.heap.size + 4]? = some (.cells #[fnV (w.heap.size + 2)] 44 (0, 0))
  left : Left (w.heap.size + 2) l W

theorem Mid.next {w W W' : World} {l : List UInt8} {many : Nat} (h : Mid w l W) (hL : Left (w.heap.size + 2) (l.drop many) W') (hb : Below (w.heap.size + 2) W W') (hs : W'.heap.size = W.heap.size) (hk : ∀ k, k ≠ w.heap.size + 2 → W'.heap[k]? = W.heap[k]?) : Mid w (l.drop many) W' :=
  ⟨h.below.trans (hb.mono (by omega)), by have := h.size; omega, (hk _ (by omega)).trans h.rb, (hk _ (by omega)).trans h.rv, (hk _ (by omega)).trans h.rd, hL⟩
theorem Left.below {B : Nat} {l : List UInt8} {w w' : World} (h : Left B l w) (hb : Below w.heap.size w w') (hB : B < w.heap.size) : Left B l w' := by
  obtain ⟨a, c, h1, h2, h3, h4⟩ := h.box
  refine ⟨a, c, (hb.block B hB).trans h1, h2, h3, ?_⟩
  rcases h4 with h4 | ⟨b, o, e, hlt, hc⟩
  · exact .inl h4
  · exact .inr ⟨b, o, e, hlt, fun i hi => (hb.cell (p := ⟨b, o + i, none⟩) (Nat.lt_trans hlt hB)).trans (hc i hi)⟩
theorem Mid.keep {w W W' : World} {l : List UInt8} (h : Mid w l W) (hb : Below W.heap.size W W') : Mid w l W' := by
  have hs := h.size
  exact ⟨h.below.trans (hb.mono (by omega)), by have := hb.size; omega, (hb.block _ (by omega)).trans h.rb, (hb.block _ (by omega)).trans h.rv, (hb.block _ (by omega)).trans h.rd, h.left.below hb (by omega)⟩
theorem Mid.drew {w W : World} {l : List UInt8} (h : Mid w l W) : Mid w l W.drew := h.keep (Below.refl _ _).drew

/-- The beginning: five new blocks. -/
theorem mid_start (w : World) (b o c : Nat) (l : List UInt8) (n : Nat) (hn : l.length = n + 1) (hc : l.length ≤ c) (hc63 : c ≤ 9223372036854775807) (hb : b < w.heap.size)
    (hcell : ∀ i (hi : i < l.length), w.cell? ⟨b, o + i, none⟩ = some (.int .u8 (l[i].toNat : Int))) :
    Mid w (l.drop 1) (((((w.alloc zB).alloc zV).alloc (.cells #[.slice (some ⟨b, o + 1, none⟩) n (c - 1)] 22)).alloc (.cells #[fnV (w.heap.size + 1 + 1)] 44)).alloc (.cells #[fnV (w.heap.size + 1 + 1)] 44)) := by
  have g (v : World) (o' : Obj) (k : Nat) (hk : k < v.heap.size) : (v.alloc o').heap[k]? = v.heap[k]? := Below.heap_alloc v o' k hk
  have n1 (v : World) (o' : Obj) (k : Nat) (hk : k = v.heap.size) : (v.alloc o').heap[k]? = some o' := by subst hk; exact heap_alloc_new v o'
  have hbel : Below w.heap.size w (((((w.alloc zB).alloc zV).alloc (.cells #[.slice (some ⟨b, o + 1, none⟩) n (c - 1)] 22)).alloc (.cells #[fnV (w.heap.size + 1 + 1)] 44)).alloc (.cells #[fnV (w.heap.size + 1 + 1)] 44)) :=
    ((((((Below.refl _ w).alloc (Nat.le_refl _) _).alloc (by simp) _).alloc (by simp only [World.size_alloc]; omega) _).alloc (by simp only [World.size_alloc]; omega) _).alloc (by simp only [World.size_alloc]; omega) _)
  have hlen : (l.drop 1).length = n := by simp; omega
  refine ⟨hbel, by simp, ?_, ?_, ?_, ⟨some ⟨b, o + 1, none⟩, c - 1, ?_, by omega, by omega, .inr ⟨b, o + 1, rfl, by omega, fun i hi => ?_⟩⟩⟩
  · rw [g _ _ _ (by simp only [World.size_alloc]; omega), g _ _ _ (by simp only [World.size_alloc]; omega), g _ _ _ (by simp only [World.size_alloc]; omega), g _ _ _ (by simp only [World.size_alloc]; omega), n1 _ _ _ rfl]
  · rw [g _ _ _ (by simp only [World.size_alloc]; omega), g _ _ _ (by simp only [World.size_alloc]; omega), g _ _ _ (by simp only [World.size_alloc]; omega), n1 _ _ _ (by simp only [World.size_alloc])]
  · rw [n1 _ _ _ (by simp only [World.size_alloc])]
  · rw [g _ _ _ (by simp only [World.size_alloc]; omega), g _ _ _ (by simp only [World.size_alloc]; omega), n1 _ _ _ (by simp only [World.size_alloc]), hlen]
  · rw [hlen] at hi
    rw [hbel.cell (p := ⟨b, o + 1 + i, none⟩) hb, Nat.add_assoc, hcell (1 + i) (by omega)]
    rw [List.getElem_drop]

/-- One reading: what it says of the middle; the number under a name. -/
theorem mid_next (w : World) (l l' : List UInt8) (c : Int) (many n : Nat) (W : World) (hcm : c = many) (hm : many ≤ 8) (hl : many ≤ l.length) (h0 : 0 < many) (hn : Hid (Wr.rd (l.take many) = n)) (hl' : Hid (l.drop many = l')) (h : Mid w l W) :
    Calls Try.prog 24 #[.int .i64 c, .pointer (some ⟨w.heap.size + 1 + 1, 0, none⟩)] W fun e W' => e = .returned (.int .u64 n) ∧ Mid w l' W' ∧ (∀ k, k ≠ w.heap.size + 2 → W'.heap[k]? = W.heap[k]?) := by
  refine (next_left (w.heap.size + 2) l c many W hcm hm hl h0 h.left).mono ?_
  rintro e W' ⟨rfl, hL, hb, hs, hk⟩
  rw [hn.out]
  have := h.next hL hb hs hk
  rw [hl'.out] at this
  exact ⟨rfl, this, hk⟩

theorem Mid.alloc {w W : World} {l : List UInt8} (h : Mid w l W) (o : Obj) : Mid w l (W.alloc o) := h.keep ((Below.refl _ _).alloc (Nat.le_refl _) o)
theorem Mid.set {w W : World} {l : List UInt8} (h : Mid w l W) {a : Addr} (ha : w.heap.size + 5 ≤ a.block) (v : Value) : Mid w l (W.setCell a v) := by
  have hk : ∀ k, k < w.heap.size + 5 → (W.setCell a v).heap[k]? = W.heap[k]? := fun k hk => Below.heap_setCell _ _ _ _ (by omega)
  have hs : (W.setCell a v).heap.size = W.heap.size := by simp [World.setCell]
  refine ⟨h.below.setCell (by omega) v, by rw [hs]; exact h.size, (hk _ (by omega)).trans h.rb, (hk _ (by omega)).trans h.rv, (hk _ (by omega)).trans h.rd, ?_⟩
  obtain ⟨x, c, h1, h2, h3, h4⟩ := h.left.box
  refine ⟨x, c, (hk _ (by omega)).trans h1, h2, h3, ?_⟩
  rcases h4 with h4 | ⟨b, o, e, hlt, hc⟩
  · exact .inl h4
  · exact .inr ⟨b, o, e, hlt, fun i hi => (World.cell?_of_block (w := W) (a := ⟨b, o + i, none⟩) (hk b (by omega))).trans (hc i hi)⟩

theorem zb_cells {W : World} {N : Nat} (h : W.heap[N]? = some zB) :
    (W.cell? ⟨N, 0, none⟩ = some (.int .i64 0) ∧ W.cell? ⟨N, 1, none⟩ = some (.int .i64 0) ∧ W.cell? ⟨N, 2, none⟩ = some (.int .u64 0) ∧ W.cell? ⟨N, 3, none⟩ = some (.int .u64 0) ∧ W.cell? ⟨N, 4, none⟩ = some (.int .u64 0)) ∧
    W.frozen? ⟨N, 0, none⟩ = false ∧ W.frozen? ⟨N, 1, none⟩ = false ∧ W.frozen? ⟨N, 2, none⟩ = false ∧ W.frozen? ⟨N, 3, none⟩ = false ∧ W.frozen? ⟨N, 4, none⟩ = false :=
  ⟨⟨cell_at h 0, cell_at h 1, cell_at h 2, cell_at h 3, cell_at h 4⟩, free_at h 0, free_at h 1, free_at h 2, free_at h 3, free_at h 4⟩
theorem zv_cells {W : World} {N : Nat} (h : W.heap[N]? = some zV) :
    (W.cell? ⟨N, 0, none⟩ = some (.int .i64 0) ∧ W.cell? ⟨N, 1, none⟩ = some (.int .i64 0) ∧ W.cell? ⟨N, 2, none⟩ = some (.int .u64 0) ∧ W.cell? ⟨N, 3, none⟩ = some (.int .u64 0)) ∧
    W.frozen? ⟨N, 0, none⟩ = false ∧ W.frozen? ⟨N, 1, none⟩ = false ∧ W.frozen? ⟨N, 2, none⟩ = false ∧ W.frozen? ⟨N, 3, none⟩ = false :=
  ⟨⟨cell_at h 0, cell_at h 1, cell_at h 2, cell_at h 3⟩, free_at h 0, free_at h 1, free_at h 2, free_at h 3⟩

/-- Two cells of a box of two are stored. -/
theorem set_two {W : World} {I : Nat} {a b x y : Value} {t : TypeId} (h : W.heap[I]? = some (.cells #[a, b] t (0, 0))) :
    ((W.setCell ⟨I, 0, none⟩ x).setCell ⟨I, 1, none⟩ y).cell? ⟨I, 0, none⟩ = some x ∧ ((W.setCell ⟨I, 0, none⟩ x).setCell ⟨I, 1, none⟩ y).cell? ⟨I, 1, none⟩ = some y := by
  have e : ((W.setCell ⟨I, 0, none⟩ x).setCell ⟨I, 1, none⟩ y).heap[I]? = some (.cells #[x, y] t (0, 0)) := by simp [World.setCell, Array.getElem?_modify, h]
  exact ⟨cell_at e 0, cell_at e 1⟩

/-- The results' nine cells are stored: nothing old has turned. -/
theorem stores9 {w W : World} {v0 v1 v2 v3 v4 x0 x1 x2 x3 : Value} (h : Below w.heap.size w W) :
    Below w.heap.size w ((((((((((W.setCell ⟨w.heap.size, 0, none⟩ v0).setCell ⟨w.heap.size, 1, none⟩ v1).setCell ⟨w.heap.size, 2, none⟩ v2).setCell ⟨w.heap.size, 3, none⟩ v3).setCell ⟨w.heap.size, 4, none⟩ v4).setCell ⟨w.heap.size + 1, 0, none⟩ x0).setCell ⟨w.heap.size + 1, 1, none⟩ x1).setCell ⟨w.heap.size + 1, 2, none⟩ x2).setCell ⟨w.heap.size + 1, 3, none⟩ x3).drew) :=
  (((((((((h.setCell (p := ⟨w.heap.size, 0, none⟩) (Nat.le_refl _) _).setCell (p := ⟨w.heap.size, 1, none⟩) (Nat.le_refl _) _).setCell (p := ⟨w.heap.size, 2, none⟩) (Nat.le_refl _) _).setCell (p := ⟨w.heap.size, 3, none⟩) (Nat.le_refl _) _).setCell (p := ⟨w.heap.size, 4, none⟩) (Nat.le_refl _) _).setCell (p := ⟨w.heap.size + 1, 0, none⟩) (Nat.le_succ _) _).setCell (p := ⟨w.heap.size + 1, 1, none⟩) (Nat.le_succ _) _).setCell (p := ⟨w.heap.size + 1, 2, none⟩) (Nat.le_succ _) _).setCell (p := ⟨w.heap.size + 1, 3, none⟩) (Nat.le_succ _) _).drew

/-- The parts of so many bytes, under names. -/
structure Parts (l l1 l2 l3 l4 l5 : List UInt8) (S F P Q : Nat) : Prop where
  d1 : l.drop 1 = l1
  d2 : l1.drop 4 = l2
  d3 : l2.drop 1 = l3
  d4 : l3.drop 8 = l4
  d5 : l4.drop 8 = l5
  s : Wr.rd (l1.take 4) = S
  f : Wr.rd (l2.take 1) = F
  p : Wr.rd (l3.take 8) = P
  q : Wr.rd (l4.take 8) = Q
  bs : S < 4294967296
  bf : F < 256
  bp : P ≤ 18446744073709551615
  bq : Q ≤ 18446744073709551615

theorem rd_take_lt (l : List UInt8) (k : Nat) : Wr.rd (l.take k) < 256 ^ k :=
  Nat.lt_of_lt_of_le (Wr.rd_lt _) (Nat.pow_le_pow_right (by omega) (by simp; omega))
theorem parts_of (l : List UInt8) : ∃ l1 l2 l3 l4 l5 S F P Q, Parts l l1 l2 l3 l4 l5 S F P Q := by
  have h4 := rd_take_lt (l.drop 1) 4
  have h1 := rd_take_lt ((l.drop 1).drop 4) 1
  have h8 := rd_take_lt (((l.drop 1).drop 4).drop 1) 8
  have h9 := rd_take_lt ((((l.drop 1).drop 4).drop 1).drop 8) 8
  exact ⟨_, _, _, _, _, _, _, _, _, rfl, rfl, rfl, rfl, rfl, rfl, rfl, rfl, rfl, by omega, by omega, by omega, by omega⟩
theorem Parts.tells {l l1 l2 l3 l4 l5 : List UInt8} {S F P Q : Nat} (h : Parts l l1 l2 l3 l4 l5 S F P Q) : Wr.slotAt l = S ∧ Wr.whoAt l = F ∧ Wr.numAt l 6 = P ∧ Wr.numAt l 14 = Q ∧ l5 = l.drop 22 := by
  obtain ⟨rfl, rfl, rfl, rfl, rfl, rfl, rfl, rfl, rfl, _, _, _, _⟩ := h
  unfold Wr.slotAt Wr.whoAt Wr.numAt
  simp [List.drop_drop]

set_option maxHeartbeats 1000000 in
theorem get_vote (b o c : Nat) (l l1 l2 l3 l4 l5 : List UInt8) (S F P Q : Nat) (hP : Parts l l1 l2 l3 l4 l5 S F P Q) (w : World) (h : l.length = 22) (hc : l.length ≤ c) (hc63 : c ≤ 9223372036854775807) (hb : b < w.heap.size)
    (hcell : ∀ i (hi : i < l.length), w.cell? ⟨b, o + i, none⟩ = some (.int .u8 (l[i].toNat : Int))) (h2 : l[0]?.getD 0 = 2) :
    Calls Try.prog 10 #[.slice (some ⟨b, o, none⟩) 22 c] w fun e w' => e = .returned (Wr.getS l).val ∧ Below w.heap.size w w' := by
  have x0 : w.cell? ⟨b, o, none⟩ = some (.int .u8 2) := by
    have := hcell 0 (by omega)
    rw [List.getElem?_eq_getElem (by omega)] at h2
    simp at h2
    rw [h2] at this
    exact this
  have M0 := mid_start w b o c l 21 h hc hc63 hb hcell
  have e1 : l1.length = 21 := by rw [← hP.d1]; simp; omega
  have e2 : l2.length = 17 := by rw [← hP.d2]; simp; omega
  have e3 : l3.length = 16 := by rw [← hP.d3]; simp; omega
  have e4 : l4.length = 8 := by rw [← hP.d4]; simp; omega
  rw [hP.d1] at M0
  have hl1 : 4 ≤ l1.length := by omega
  have hl2 : 1 ≤ l2.length := by omega
  have hl3 : 8 ≤ l3.length := by omega
  have hl4 : 8 ≤ l4.length := by omega
  have d2 := Lib.hid hP.d2
  have d3 := Lib.hid hP.d3
  have d4 := Lib.hid hP.d4
  have d5 := Lib.hid hP.d5
  have ns := Lib.hid hP.s
  have nf := Lib.hid hP.f
  have np := Lib.hid hP.p
  have nq := Lib.hid hP.q
  have bs := hP.bs
  have bf := hP.bf
  have bp := hP.bp
  have bq := hP.bq
  have wS : IntKind.i64.wrap (S : Int) = S := IntWalk.i64_in _ (by omega)
  have wF : IntKind.i64.wrap (F : Int) = F := IntWalk.i64_in _ (by omega)
  have hc22 : 22 ≤ c := by omega
  have h1c : (1 : Int) ≤ (c : Int) := by omega
  have HLEN := Lib.hid h
  have HP := Lib.hid hP
  clear hcell h hc hP e1 e2 e3 e4
  by_cases hc1 : c = 1
  · omega
  go_enter Try.func10, Try.ntmps10
  go_wp2_with (go_at_call 16; refine (of_any _ _ _ _).mono ?_; rintro e w' ⟨rfl, rfl⟩)
  change Code.wp _ _ _ _ (((((w.alloc zB).alloc zV).alloc (.cells #[.slice (some ⟨b, o + 1, none⟩) 21 (c - 1)] 22)).alloc (.cells #[fnV (w.heap.size + 1 + 1)] 44)).alloc (.cells #[fnV (w.heap.size + 1 + 1)] 44))
  generalize ((((w.alloc zB).alloc zV).alloc (.cells #[.slice (some ⟨b, o + 1, none⟩) 21 (c - 1)] 22)).alloc (.cells #[fnV (w.heap.size + 1 + 1)] 44)).alloc (.cells #[fnV (w.heap.size + 1 + 1)] 44) = W at M0 ⊢
  have r0 : W.cell? ⟨w.heap.size + 1 + 1 + 1 + 1, 0, none⟩ = some (fnV (w.heap.size + 1 + 1)) := cell_at M0.rd 0
  unfold fnV at r0
  have M0d := M0.drew
  go_region_held3 (fun w' => w'.cell? ⟨w.heap.size + 1 + 1 + 1 + 1, 0, none⟩ = some (.func (.func 24) #[] #[.pointer (some ⟨w.heap.size + 1 + 1, 0, none⟩)]))
    (first | assumption | exact r0)
    (first
      | (go_at_call_of 24 (Value.int .i64 4); refine (mid_next w l1 l2 4 4 S _ rfl (by omega) hl1 (by omega) ns d2 M0d).mono ?_; rintro e W1 ⟨rfl, M1, _⟩; have hS1 := cell_at M1.rd 0)
      | (go_at_call_of 24 (Value.int .i64 1); refine (mid_next w l2 l3 1 1 F _ rfl (by omega) hl2 (by omega) nf d3 M1).mono ?_; rintro e W2 ⟨rfl, M2, _⟩; have hS2 := cell_at M2.rd 0))
  clear M0 M0d r0 M1 hS1
  go_wp2
  have r2 : W2.cell? ⟨w.heap.size + 1 + 1 + 1 + 1, 0, none⟩ = some (fnV (w.heap.size + 1 + 1)) := cell_at M2.rd 0
  unfold fnV at r2
  have M2d := M2.drew
  have z2 := M2.size
  go_region_held3 (fun w' => w'.cell? ⟨w.heap.size + 1 + 1 + 1 + 1, 0, none⟩ = some (.func (.func 24) #[] #[.pointer (some ⟨w.heap.size + 1 + 1, 0, none⟩)]))
    (first | assumption | exact r2 | exact cell_at (M2d.alloc _).rd 0 | exact cell_at (M3.alloc _).rd 0 | exact cell_at (M4.alloc _).rd 0 | exact cell_at ((M4.set (a := ⟨_, 0, none⟩) (by simp; omega) _).set (a := ⟨_, 1, none⟩) (by simp; omega) _).rd 0)
    (first
      | (go_at_call 24; refine (mid_next w l3 l4 8 8 P _ rfl (by omega) hl3 (by omega) np d4 M2d).mono ?_; rintro e W3 ⟨rfl, M3, hk3⟩; have hS3 := cell_at M3.rd 0; have z3 := M3.size)
      | (go_at_call 24; refine (mid_next w l3 l4 8 8 P _ rfl (by omega) hl3 (by omega) np d4 (M2d.alloc (.cells #[.int .u64 0, .int .u64 0] 26))).mono ?_; rintro e W3 ⟨rfl, M3, hk3⟩; have hS3 := cell_at M3.rd 0; have z3 := M3.size; have i3 := (hk3 W2.heap.size (by omega)).trans (heap_alloc_new W2.drew (.cells #[.int .u64 0, .int .u64 0] 26)); have y0 := cell_at i3 0; have y1 := cell_at i3 1; have g0 := free_at i3 0; have g1 := free_at i3 1)
      | (go_at_call 24; refine (mid_next w l4 l5 8 8 Q _ rfl (by omega) hl4 (by omega) nq d5 M3).mono ?_; rintro e W4 ⟨rfl, M4, hk4⟩; have hS4 := cell_at M4.rd 0; have z4 := M4.size; try (have i4 := (hk4 W2.heap.size (by omega)).trans i3; have y0' := cell_at i4 0; have y1' := cell_at i4 1; have g0' := free_at i4 0; have g1' := free_at i4 1))
      | (go_at_call 24; refine (mid_next w l4 l5 8 8 Q _ rfl (by omega) hl4 (by omega) nq d5 (M3.alloc (.cells #[.int .u64 0, .int .u64 0] 26))).mono ?_; rintro e W4 ⟨rfl, M4, hk4⟩; have hS4 := cell_at M4.rd 0; have z4 := M4.size; have i4 := (hk4 W3.heap.size (by omega)).trans (heap_alloc_new W3 (.cells #[.int .u64 0, .int .u64 0] 26)); have y0 := cell_at i4 0; have y1 := cell_at i4 1; have g0 := free_at i4 0; have g1 := free_at i4 1))
  -- THE THREE WAYS (the id's box is made behind, between, ahead of both readings) come to the same
  all_goals
    first
      | (have M5 := (M4.set (a := ⟨W2.heap.size, 0, none⟩) z2 (.int .u64 P)).set (a := ⟨W2.heap.size, 1, none⟩) z2 (.int .u64 Q); have j := set_two (I := W2.heap.size) (x := .int .u64 P) (y := .int .u64 Q) i4; have hI := z2; generalize (W4.setCell ⟨W2.heap.size, 0, none⟩ (.int .u64 P)).setCell ⟨W2.heap.size, 1, none⟩ (.int .u64 Q) = Wf at M5 j ⊢; generalize W2.heap.size = I at j hI ⊢)
      | (have M5 := (M4.set (a := ⟨W3.heap.size, 0, none⟩) z3 (.int .u64 P)).set (a := ⟨W3.heap.size, 1, none⟩) z3 (.int .u64 Q); have j := set_two (I := W3.heap.size) (x := .int .u64 P) (y := .int .u64 Q) i4; have hI := z3; generalize (W4.setCell ⟨W3.heap.size, 0, none⟩ (.int .u64 P)).setCell ⟨W3.heap.size, 1, none⟩ (.int .u64 Q) = Wf at M5 j ⊢; generalize W3.heap.size = I at j hI ⊢)
      | (have M5 := M4.alloc (.cells #[.int .u64 P, .int .u64 Q] 26); have j := And.intro (cell_at (heap_alloc_new W4 (.cells #[.int .u64 P, .int .u64 Q] 26)) 0) (cell_at (heap_alloc_new W4 (.cells #[.int .u64 P, .int .u64 Q] 26)) 1); have hI := z4; generalize W4.alloc (.cells #[.int .u64 P, .int .u64 Q] 26) = Wf at M5 j ⊢; generalize W4.heap.size = I at j hI ⊢)
    obtain ⟨j0, j1⟩ := j
    replace j0 : Wf.cell? ⟨I, 0, none⟩ = some (.int .u64 P) := j0
    replace j1 : Wf.cell? ⟨I, 1, none⟩ = some (.int .u64 Q) := j1
    obtain ⟨⟨p0, p1, p2, p3, p4⟩, q0, q1, q2, q3, q4⟩ := zb_cells M5.rb
    obtain ⟨⟨u0, u1, u2, u3⟩, t0, t1, t2, t3⟩ := zv_cells M5.rv
    have hbel := Lib.hid M5.below
    have hlt : w.heap.size + 1 + 1 < Wf.heap.size := by have := M5.size; omega
    cases hm : Wr.madeB S F
    · have hg : Hid (Wr.getS l = Wr.G.none) := Lib.hid (by
        unfold Wr.getS
        rw [HP.out.tells.1, HP.out.tells.2.1, hm, Bool.and_false]
        rfl)
      clear M2 M2d M3 M4 M5
      go_wp2_with (go_at_call 17; refine (made_any _ _ _).mono ?_; rintro e w' ⟨rfl, rfl⟩)
      go_region
      go_wp2
      refine bodyPost_ret (v := Wr.G.none.val) ?_ rfl ⟨by rw [hg.out], ?_⟩
      · simp [results, Try.results10, go_sem, Wr.G.none, Wr.G.val, Wr.B.val, Wr.V.val, Wr.B.zero, Wr.V.zero, p0, p1, p2, p3, p4, u0, u1, u2, u3]
      · exact stores9 hbel.out
    · have hg : Hid (Wr.getS l = ⟨Wr.B.zero, ⟨F, S, P, Q⟩, true, 0⟩) := Lib.hid (by
        have hv : Wr.isV l = true := by unfold Wr.isV; rw [HLEN.out, h2]; rfl
        unfold Wr.getS
        rw [HP.out.tells.1, HP.out.tells.2.1, HP.out.tells.2.2.1, HP.out.tells.2.2.2.1, hm, hv]
        rfl)
      clear M2 M2d M3 M4 M5
      go_wp2_with (go_at_call 17; refine (made_any _ _ _).mono ?_; rintro e w' ⟨rfl, rfl⟩)
      go_region
      go_wp2
      refine bodyPost_ret (v := (⟨Wr.B.zero, ⟨F, S, P, Q⟩, true, 0⟩ : Wr.G).val) ?_ rfl ⟨by rw [hg.out], ?_⟩
      · simp [results, Try.results10, go_sem, Wr.G.val, Wr.B.val, Wr.V.val, Wr.B.zero, p0, p1, p2, p3, p4, u0, u1, u2, u3]
      · exact stores9 hbel.out

end Go.Proofs.Ytpjkjcecbhfgoaa
