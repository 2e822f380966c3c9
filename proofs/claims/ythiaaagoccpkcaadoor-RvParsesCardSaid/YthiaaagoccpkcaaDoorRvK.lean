/- Encode, both. -/
import Derived.Test.YthiaaagoccpkcaaDoorRvJ
namespace Go.Proofs.YthiaaagoccpkcaaDoor
open Go.RowKit

theorem valid_parts (x : RvI) (h : Rv.valid x = true) : ∃ (n : Nat), x.op = n ∧ n ≤ 40 ∧ (0 ≤ x.d ∧ x.d ≤ 31) ∧ (0 ≤ x.a ∧ x.a ≤ 31) ∧ (0 ≤ x.b ∧ x.b ≤ 31) ∧ (Rv.hasD (Rv.shapeN n) = false → x.d = 0) ∧ (Rv.hasA (Rv.shapeN n) = false → x.a = 0) ∧ (Rv.hasB (Rv.shapeN n) = false → x.b = 0) ∧ (Rv.hasI (Rv.shapeN n) = true → Rv.reaches (Rv.shapeN n) x.imm = true) ∧ (-2147483648 ≤ x.imm ∧ x.imm < 2147483648) := by
  obtain ⟨q1, q2, q3, q4⟩ := valid_bounds h
  obtain ⟨op, d, a, b, imm⟩ := x
  obtain ⟨n, rfl⟩ := Int.eq_ofNat_of_zero_le q1.1
  refine ⟨n, rfl, by have q := q1.2; dsimp only at q; omega, q2, q3, q4, ?_⟩
  dsimp only
  unfold Rv.valid at h
  simp only [Bool.and_eq_true, decide_eq_true_eq, Int.toNat_natCast] at h
  obtain ⟨⟨⟨⟨-, hd⟩, ha⟩, hb⟩, hi⟩ := h
  refine ⟨fun e => by rw [e] at hd; simpa [Rv.isReg] using hd, fun e => by rw [e] at ha; simpa [Rv.isReg] using ha, fun e => by rw [e] at hb; simpa [Rv.isReg] using hb, fun e => by rw [if_pos e] at hi; exact hi, ?_⟩
  cases e : Rv.hasI (Rv.shapeN n) with
  | false =>
    rw [e, if_neg (by decide)] at hi
    have : imm = 0 := by simpa using hi
    omega
  | true =>
    rw [e, if_pos rfl] at hi
    unfold Rv.reaches at hi
    split at hi
    · simp at hi; omega
    · split at hi
      · simp at hi; omega
      · split at hi
        · simp at hi; omega
        · split at hi
          · simp at hi; omega
          · simp at hi; omega
theorem pencode_valid (x : RvI) (h : Rv.valid x = true) (w : World) : Calls Tryd.prog 35 #[rvVal x] w fun e w' => e = .returned (.int .u32 (Rv.word x)) ∧ Gr w w' := by
  obtain ⟨n, e, h1, h2, h3, h4, h5, h6, h7, h8, h9⟩ := valid_parts x h
  obtain ⟨op, d, a, b, imm⟩ := x
  dsimp only at e h2 h3 h4 h5 h6 h7 h8 h9
  subst e
  exact pencode_any n d a b imm h1 h2 h3 h4 h5 h6 h7 h8 w
theorem rencode_valid (x : RvI) (h : Rv.valid x = true) (w : World) : Calls Tryd.prog 36 #[rvVal x] w fun e w' => e = .returned (.int .u32 (Rv.word x)) ∧ Gr w w' := by
  obtain ⟨n, e, h1, h2, h3, h4, h5, h6, h7, h8, h9⟩ := valid_parts x h
  obtain ⟨op, d, a, b, imm⟩ := x
  dsimp only at e h2 h3 h4 h5 h6 h7 h8 h9
  subst e
  exact rencode_any n d a b imm h1 h2 h3 h4 h5 h6 h7 h8 h9 w

set_option maxHeartbeats 4000000 in
theorem pEncode_any (x : RvI) (w : World) : Calls Tryd.prog 12 #[rvVal x] w fun e w' => e = .returned (.tuple #[.int .u32 (Rv.wordR x), .int .i64 (Rv.validE x)]) ∧ Gr w w' := by
  have HV := Lib.hid (fun w1 => pValidate_any x w1)
  cases h : Rv.valid x with
  | true =>
    have HE := Lib.hid (fun w1 => pencode_valid x h w1)
    have e1 : Rv.validE x = 0 := by unfold Rv.validE; rw [h]; rfl
    have e2 : Rv.wordR x = Rv.word x := by unfold Rv.wordR; rw [h]; rfl
    rw [e1, e2]
    rw [e1] at HV
    clear h e1 e2
    obtain ⟨op, d, a, b, imm⟩ := x
    unfold rvVal at HV HE ⊢
    obtain ⟨W, hW⟩ : ∃ W, w.alloc (.cells #[.int .i64 op, .int .i64 d, .int .i64 a, .int .i64 b, .int .i64 imm] 23) = W := ⟨_, rfl⟩
    have hB0 : Gr w W := by rw [← hW]; exact (Gr.refl w).alloc _
    have hrw : W.heap[w.heap.size]? = some (.cells #[.int .i64 op, .int .i64 d, .int .i64 a, .int .i64 b, .int .i64 imm] 23 (0, 0)) := by rw [← hW]; exact heap_alloc_new w _
    have hWs : W.heap.size = w.heap.size + 1 := by rw [← hW]; simp
    have KP : Hid (∀ w', Gr W w' → w'.cell? ⟨w.heap.size, 0, none⟩ = some (.int .i64 op) ∧ w'.cell? ⟨w.heap.size, 1, none⟩ = some (.int .i64 d) ∧ w'.cell? ⟨w.heap.size, 2, none⟩ = some (.int .i64 a) ∧ w'.cell? ⟨w.heap.size, 3, none⟩ = some (.int .i64 b) ∧ w'.cell? ⟨w.heap.size, 4, none⟩ = some (.int .i64 imm)) := fun w' q => by
      have h := (q.heap _ (by omega)).trans hrw
      exact ⟨cell_of_row _ _ 0 _ _ _ h, cell_of_row _ _ 1 _ _ _ h, cell_of_row _ _ 2 _ _ _ h, cell_of_row _ _ 3 _ _ _ h, cell_of_row _ _ 4 _ _ _ h⟩
    obtain ⟨k0, k1, k2, k3, k4⟩ := KP.out W (Gr.refl _)
    clear hrw hWs
    go_enter Tryd.func12, Tryd.ntmps12
    go_wp2_with (first
      | (go_at_call 14; refine (HV.out _).mono ?_; rintro e w1 ⟨rfl, g1⟩; obtain ⟨l0, l1, l2, l3, l4⟩ := KP.out _ g1)
      | (go_at_call 35; refine (HE.out _).mono ?_; rintro e w2 ⟨rfl, g2⟩))
    go_ret2
    exact ⟨rfl, hB0.trans (g1.trans g2)⟩
  | false =>
    have e1 : Rv.validE x = 1 := by unfold Rv.validE; rw [h]; rfl
    have e2 : Rv.wordR x = 0 := by unfold Rv.wordR; rw [h]; rfl
    rw [e1, e2]
    rw [e1] at HV
    clear h e1 e2
    obtain ⟨op, d, a, b, imm⟩ := x
    unfold rvVal at HV ⊢
    obtain ⟨W, hW⟩ : ∃ W, w.alloc (.cells #[.int .i64 op, .int .i64 d, .int .i64 a, .int .i64 b, .int .i64 imm] 23) = W := ⟨_, rfl⟩
    have hB0 : Gr w W := by rw [← hW]; exact (Gr.refl w).alloc _
    have hrw : W.heap[w.heap.size]? = some (.cells #[.int .i64 op, .int .i64 d, .int .i64 a, .int .i64 b, .int .i64 imm] 23 (0, 0)) := by rw [← hW]; exact heap_alloc_new w _
    have k0 := cell_of_row _ _ 0 _ _ _ hrw
    have k1 := cell_of_row _ _ 1 _ _ _ hrw
    have k2 := cell_of_row _ _ 2 _ _ _ hrw
    have k3 := cell_of_row _ _ 3 _ _ _ hrw
    have k4 := cell_of_row _ _ 4 _ _ _ hrw
    clear hrw
    go_enter Tryd.func12, Tryd.ntmps12
    go_wp2_with (go_at_call 14; refine (HV.out _).mono ?_; rintro e w1 ⟨rfl, g1⟩)
    go_ret2
    exact ⟨rfl, hB0.trans g1⟩
set_option maxHeartbeats 4000000 in
theorem rEncode_any (x : RvI) (w : World) : Calls Tryd.prog 13 #[rvVal x] w fun e w' => e = .returned (.tuple #[.int .u32 (Rv.wordR x), .int .i64 (Rv.validE x)]) ∧ Gr w w' := by
  have HV := Lib.hid (fun w1 => rValidate_any x w1)
  cases h : Rv.valid x with
  | true =>
    have HE := Lib.hid (fun w1 => rencode_valid x h w1)
    have e1 : Rv.validE x = 0 := by unfold Rv.validE; rw [h]; rfl
    have e2 : Rv.wordR x = Rv.word x := by unfold Rv.wordR; rw [h]; rfl
    rw [e1, e2]
    rw [e1] at HV
    clear h e1 e2
    obtain ⟨op, d, a, b, imm⟩ := x
    unfold rvVal at HV HE ⊢
    obtain ⟨W, hW⟩ : ∃ W, w.alloc (.cells #[.int .i64 op, .int .i64 d, .int .i64 a, .int .i64 b, .int .i64 imm] 23) = W := ⟨_, rfl⟩
    have hB0 : Gr w W := by rw [← hW]; exact (Gr.refl w).alloc _
    have hrw : W.heap[w.heap.size]? = some (.cells #[.int .i64 op, .int .i64 d, .int .i64 a, .int .i64 b, .int .i64 imm] 23 (0, 0)) := by rw [← hW]; exact heap_alloc_new w _
    have hWs : W.heap.size = w.heap.size + 1 := by rw [← hW]; simp
    have KP : Hid (∀ w', Gr W w' → w'.cell? ⟨w.heap.size, 0, none⟩ = some (.int .i64 op) ∧ w'.cell? ⟨w.heap.size, 1, none⟩ = some (.int .i64 d) ∧ w'.cell? ⟨w.heap.size, 2, none⟩ = some (.int .i64 a) ∧ w'.cell? ⟨w.heap.size, 3, none⟩ = some (.int .i64 b) ∧ w'.cell? ⟨w.heap.size, 4, none⟩ = some (.int .i64 imm)) := fun w' q => by
      have h := (q.heap _ (by omega)).trans hrw
      exact ⟨cell_of_row _ _ 0 _ _ _ h, cell_of_row _ _ 1 _ _ _ h, cell_of_row _ _ 2 _ _ _ h, cell_of_row _ _ 3 _ _ _ h, cell_of_row _ _ 4 _ _ _ h⟩
    obtain ⟨k0, k1, k2, k3, k4⟩ := KP.out W (Gr.refl _)
    clear hrw hWs
    go_enter Tryd.func13, Tryd.ntmps13
    go_wp2_with (first
      | (go_at_call 15; refine (HV.out _).mono ?_; rintro e w1 ⟨rfl, g1⟩; obtain ⟨l0, l1, l2, l3, l4⟩ := KP.out _ g1)
      | (go_at_call 36; refine (HE.out _).mono ?_; rintro e w2 ⟨rfl, g2⟩))
    go_ret2
    exact ⟨rfl, hB0.trans (g1.trans g2)⟩
  | false =>
    have e1 : Rv.validE x = 1 := by unfold Rv.validE; rw [h]; rfl
    have e2 : Rv.wordR x = 0 := by unfold Rv.wordR; rw [h]; rfl
    rw [e1, e2]
    rw [e1] at HV
    clear h e1 e2
    obtain ⟨op, d, a, b, imm⟩ := x
    unfold rvVal at HV ⊢
    obtain ⟨W, hW⟩ : ∃ W, w.alloc (.cells #[.int .i64 op, .int .i64 d, .int .i64 a, .int .i64 b, .int .i64 imm] 23) = W := ⟨_, rfl⟩
    have hB0 : Gr w W := by rw [← hW]; exact (Gr.refl w).alloc _
    have hrw : W.heap[w.heap.size]? = some (.cells #[.int .i64 op, .int .i64 d, .int .i64 a, .int .i64 b, .int .i64 imm] 23 (0, 0)) := by rw [← hW]; exact heap_alloc_new w _
    have k0 := cell_of_row _ _ 0 _ _ _ hrw
    have k1 := cell_of_row _ _ 1 _ _ _ hrw
    have k2 := cell_of_row _ _ 2 _ _ _ hrw
    have k3 := cell_of_row _ _ 3 _ _ _ hrw
    have k4 := cell_of_row _ _ 4 _ _ _ hrw
    clear hrw
    go_enter Tryd.func13, Tryd.ntmps13
    go_wp2_with (go_at_call 15; refine (HV.out _).mono ?_; rintro e w1 ⟨rfl, g1⟩)
    go_ret2
    exact ⟨rfl, hB0.trans g1⟩
end Go.Proofs.YthiaaagoccpkcaaDoor
