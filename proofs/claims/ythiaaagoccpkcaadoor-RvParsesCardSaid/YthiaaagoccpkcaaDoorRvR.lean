/- Decode of the program. -/
import Derived.Test.YthiaaagoccpkcaaDoorRvQ
namespace Go.Proofs.YthiaaagoccpkcaaDoor
open Go.RowKit

theorem decV_agg (r : Option RvI) : ∃ (y : RvI) (b : Bool), decV r = .tuple #[.agg #[.int .i64 y.op, .int .i64 y.d, .int .i64 y.a, .int .i64 y.b, .int .i64 y.imm], .bool b] ∧ r.getD rv0 = y ∧ r.isSome = b := ⟨_, _, rfl, rfl, rfl⟩
set_option maxHeartbeats 4000000 in
theorem pDecode_any (x : Int) (h0 : 0 ≤ x) (h1 : x < 4294967296) (w : World) : Calls Tryd.prog 16 #[.int .u32 x] w fun e w' => e = .returned (decV (Rv.decode x)) ∧ Gr w w' := by
  have HND : Hid (∀ w1, Calls Tryd.prog 45 #[] w1 fun e w' => ∃ B, e = .returned (.map (some B)) ∧ Hid (DecAt w' B) ∧ Gr w1 w') := fun w1 => (newDecoder_any w1).mono fun _ _ ⟨q1, q2, q3⟩ => ⟨_, q1, q2, q3⟩
  have HDE : Hid (∀ B w1, DecAt w1 B → Calls Tryd.prog 46 #[.map (some B), .int .u32 x] w1 fun e w' => e = .returned (decV (Rv.decode x)) ∧ Gr w1 w') := fun B w1 hD => decode_any x h0 h1 B w1 hD
  obtain ⟨y, b, hy, -, -⟩ := decV_agg (Rv.decode x)
  rw [hy] at HDE ⊢
  clear hy
  obtain ⟨y0, y1, y2, y3, y4⟩ := y
  dsimp only at HDE ⊢
  obtain ⟨W, hW⟩ : ∃ W, w.alloc (.cells #[.int .i64 0, .int .i64 0, .int .i64 0, .int .i64 0, .int .i64 0] 23) = W := ⟨_, rfl⟩
  have hB0 : Gr w W := by rw [← hW]; exact (Gr.refl w).alloc _
  have hrw : W.heap[w.heap.size]? = some (.cells #[.int .i64 0, .int .i64 0, .int .i64 0, .int .i64 0, .int .i64 0] 23 (0, 0)) := by rw [← hW]; exact heap_alloc_new w _
  have hWs : W.heap.size = w.heap.size + 1 := by rw [← hW]; simp
  have KP : Hid (∀ w', Gr W w' → w'.heap[w.heap.size]? = some (.cells #[.int .i64 0, .int .i64 0, .int .i64 0, .int .i64 0, .int .i64 0] 23 (0, 0))) := fun w' q => (q.heap _ (by omega)).trans hrw
  have HB0 := Lib.hid hB0
  clear hrw hWs hB0
  go_enter Tryd.func16, Tryd.ntmps16
  go_wp2_with (first
    | (go_at_call 45; refine (HND.out _).mono ?_; rintro e w1 ⟨B, rfl, HD, g1⟩)
    | (go_at_call 46; refine (HDE.out _ _ HD.out).mono ?_; rintro e w2 ⟨rfl, g2⟩; have hr := KP.out _ (g1.trans g2); have r0 := cell_of_row _ _ 0 _ _ _ hr; have r1 := cell_of_row _ _ 1 _ _ _ hr; have r2 := cell_of_row _ _ 2 _ _ _ hr; have r3 := cell_of_row _ _ 3 _ _ _ hr; have r4 := cell_of_row _ _ 4 _ _ _ hr; have f0 := frozen_of_row _ _ 0 _ _ hr; have f1 := frozen_of_row _ _ 1 _ _ hr; have f2 := frozen_of_row _ _ 2 _ _ hr; have f3 := frozen_of_row _ _ 3 _ _ hr; have f4 := frozen_of_row _ _ 4 _ _ hr; have HR := Lib.hid hr; clear hr))
  refine bodyPost_ret (results_rv _ _ 2 3 (.bool b) _ w.heap.size _ _ _ _ _ (0, 0) rfl rfl rfl (row5_set _ _ _ _ _ HR.out)) rfl ?_
  exact ⟨rfl, (((((HB0.out.trans (g1.trans g2)).setCell (Nat.le_refl _) _).setCell (Nat.le_refl _) _).setCell (Nat.le_refl _) _).setCell (Nat.le_refl _) _).setCell (Nat.le_refl _) _⟩
end Go.Proofs.YthiaaagoccpkcaaDoor
