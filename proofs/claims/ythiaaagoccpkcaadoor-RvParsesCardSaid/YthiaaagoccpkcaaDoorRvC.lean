/- forms, bits of the document; bit, fits, has of the program. -/
import Derived.Test.YthiaaagoccpkcaaDoorRvB
import Derived.BigQuiet
import Derived.Maps.AppendAt
namespace Go.Proofs.YthiaaagoccpkcaaDoor
open Go.RowKit

/-- The cells of the document's table. -/
def formCells : Array Value := ((List.range 41).flatMap fun op => [.int .i64 (Rv.shapeN op), .int .i64 (Rv.codeN op), .int .i64 (Rv.thirdN op), .int .i64 (Rv.seventhN op)]).toArray
theorem wp_run {P : Program} {o : Oper} {a : Act} {w w' : World} {v : Value} {K : Act → World → Prop} {Q : Exit → Act → World → Prop} (hr : (execOp a.eval o).run P w = .ok (.value v) w') (h : K (a.put o.dst v) w') : o.wp P a w K Q := by
  unfold Oper.wp
  rw [hr]
  exact h
theorem wpList_run {P : Program} {ops : Array Oper} {o : Oper} {rest : List Oper} {a : Act} {w w' : World} {v : Value} {Q : Exit → Act → World → Prop} (hgd : o.guard = none) (hr : (execOp a.eval o).run P w = .ok (.value v) w') (h : wpList P ops Q rest (a.put o.dst v) w') : wpList P ops Q (o :: rest) a w :=
  wpList_plain hgd fun _ hK => wp_run hr (hK _ _ h)
set_option maxRecDepth 100000 in
set_option maxHeartbeats 4000000 in
theorem forms_any (w : World) : Calls Tryd.prog 41 #[] w fun e w' => e = .returned (.slice (some ⟨w.heap.size, 0, none⟩) 41 41) ∧ Hid (w'.heap[w.heap.size]? = some (.cells formCells 70 (0, 0))) ∧ Gr w w' := by
  go_enter Tryd.func41, Tryd.ntmps41
  refine wp_seq (wp_region_list ?_)
  refine wpList_run (v := .slice none 0 0) (w' := w) rfl (by kernel_rfl) ?_
  refine wpList_nil ?_
  refine wp_seq (wp_region_list ?_)
  refine wpList_run (v := .agg #[.int .i64 0, .int .i64 51, .int .i64 0, .int .i64 0]) (w' := w) rfl (by kernel_rfl) ?_
  refine wpList_run (v := .agg #[.int .i64 0, .int .i64 51, .int .i64 0, .int .i64 32]) (w' := w) rfl (by kernel_rfl) ?_
  refine wpList_run (v := .agg #[.int .i64 0, .int .i64 51, .int .i64 1, .int .i64 0]) (w' := w) rfl (by kernel_rfl) ?_
  refine wpList_run (v := .agg #[.int .i64 0, .int .i64 51, .int .i64 2, .int .i64 0]) (w' := w) rfl (by kernel_rfl) ?_
  refine wpList_run (v := .agg #[.int .i64 0, .int .i64 51, .int .i64 3, .int .i64 0]) (w' := w) rfl (by kernel_rfl) ?_
  refine wpList_run (v := .agg #[.int .i64 0, .int .i64 51, .int .i64 4, .int .i64 0]) (w' := w) rfl (by kernel_rfl) ?_
  refine wpList_run (v := .agg #[.int .i64 0, .int .i64 51, .int .i64 5, .int .i64 0]) (w' := w) rfl (by kernel_rfl) ?_
  refine wpList_run (v := .agg #[.int .i64 0, .int .i64 51, .int .i64 5, .int .i64 32]) (w' := w) rfl (by kernel_rfl) ?_
  refine wpList_run (v := .agg #[.int .i64 0, .int .i64 51, .int .i64 6, .int .i64 0]) (w' := w) rfl (by kernel_rfl) ?_
  refine wpList_run (v := .agg #[.int .i64 0, .int .i64 51, .int .i64 7, .int .i64 0]) (w' := w) rfl (by kernel_rfl) ?_
  refine wpList_run (v := .agg #[.int .i64 0, .int .i64 51, .int .i64 0, .int .i64 1]) (w' := w) rfl (by kernel_rfl) ?_
  refine wpList_run (v := .agg #[.int .i64 0, .int .i64 51, .int .i64 4, .int .i64 1]) (w' := w) rfl (by kernel_rfl) ?_
  refine wpList_run (v := .agg #[.int .i64 0, .int .i64 51, .int .i64 5, .int .i64 1]) (w' := w) rfl (by kernel_rfl) ?_
  refine wpList_run (v := .agg #[.int .i64 0, .int .i64 51, .int .i64 6, .int .i64 1]) (w' := w) rfl (by kernel_rfl) ?_
  refine wpList_run (v := .agg #[.int .i64 0, .int .i64 51, .int .i64 7, .int .i64 1]) (w' := w) rfl (by kernel_rfl) ?_
  refine wpList_run (v := .agg #[.int .i64 1, .int .i64 19, .int .i64 0, .int .i64 0]) (w' := w) rfl (by kernel_rfl) ?_
  refine wpList_run (v := .agg #[.int .i64 1, .int .i64 19, .int .i64 2, .int .i64 0]) (w' := w) rfl (by kernel_rfl) ?_
  refine wpList_run (v := .agg #[.int .i64 1, .int .i64 19, .int .i64 3, .int .i64 0]) (w' := w) rfl (by kernel_rfl) ?_
  refine wpList_run (v := .agg #[.int .i64 1, .int .i64 19, .int .i64 4, .int .i64 0]) (w' := w) rfl (by kernel_rfl) ?_
  refine wpList_run (v := .agg #[.int .i64 1, .int .i64 19, .int .i64 6, .int .i64 0]) (w' := w) rfl (by kernel_rfl) ?_
  refine wpList_run (v := .agg #[.int .i64 1, .int .i64 19, .int .i64 7, .int .i64 0]) (w' := w) rfl (by kernel_rfl) ?_
  refine wpList_run (v := .agg #[.int .i64 2, .int .i64 19, .int .i64 1, .int .i64 0]) (w' := w) rfl (by kernel_rfl) ?_
  refine wpList_run (v := .agg #[.int .i64 2, .int .i64 19, .int .i64 5, .int .i64 0]) (w' := w) rfl (by kernel_rfl) ?_
  refine wpList_run (v := .agg #[.int .i64 2, .int .i64 19, .int .i64 5, .int .i64 32]) (w' := w) rfl (by kernel_rfl) ?_
  refine wpList_run (v := .agg #[.int .i64 3, .int .i64 55, .int .i64 0, .int .i64 0]) (w' := w) rfl (by kernel_rfl) ?_
  refine wpList_run (v := .agg #[.int .i64 4, .int .i64 3, .int .i64 4, .int .i64 0]) (w' := w) rfl (by kernel_rfl) ?_
  refine wpList_run (v := .agg #[.int .i64 4, .int .i64 3, .int .i64 5, .int .i64 0]) (w' := w) rfl (by kernel_rfl) ?_
  refine wpList_run (v := .agg #[.int .i64 4, .int .i64 3, .int .i64 2, .int .i64 0]) (w' := w) rfl (by kernel_rfl) ?_
  refine wpList_run (v := .agg #[.int .i64 5, .int .i64 35, .int .i64 0, .int .i64 0]) (w' := w) rfl (by kernel_rfl) ?_
  refine wpList_run (v := .agg #[.int .i64 5, .int .i64 35, .int .i64 1, .int .i64 0]) (w' := w) rfl (by kernel_rfl) ?_
  refine wpList_run (v := .agg #[.int .i64 5, .int .i64 35, .int .i64 2, .int .i64 0]) (w' := w) rfl (by kernel_rfl) ?_
  refine wpList_run (v := .agg #[.int .i64 6, .int .i64 99, .int .i64 0, .int .i64 0]) (w' := w) rfl (by kernel_rfl) ?_
  refine wpList_run (v := .agg #[.int .i64 6, .int .i64 99, .int .i64 1, .int .i64 0]) (w' := w) rfl (by kernel_rfl) ?_
  refine wpList_run (v := .agg #[.int .i64 6, .int .i64 99, .int .i64 4, .int .i64 0]) (w' := w) rfl (by kernel_rfl) ?_
  refine wpList_run (v := .agg #[.int .i64 6, .int .i64 99, .int .i64 5, .int .i64 0]) (w' := w) rfl (by kernel_rfl) ?_
  refine wpList_run (v := .agg #[.int .i64 6, .int .i64 99, .int .i64 6, .int .i64 0]) (w' := w) rfl (by kernel_rfl) ?_
  refine wpList_run (v := .agg #[.int .i64 6, .int .i64 99, .int .i64 7, .int .i64 0]) (w' := w) rfl (by kernel_rfl) ?_
  refine wpList_run (v := .agg #[.int .i64 7, .int .i64 111, .int .i64 0, .int .i64 0]) (w' := w) rfl (by kernel_rfl) ?_
  refine wpList_run (v := .agg #[.int .i64 8, .int .i64 103, .int .i64 0, .int .i64 0]) (w' := w) rfl (by kernel_rfl) ?_
  refine wpList_run (v := .agg #[.int .i64 9, .int .i64 115, .int .i64 0, .int .i64 0]) (w' := w) rfl (by kernel_rfl) ?_
  refine wpList_run (v := .agg #[.int .i64 9, .int .i64 115, .int .i64 0, .int .i64 0]) (w' := w) rfl (by kernel_rfl) ?_
  refine wpList_run (v := .slice (some ⟨w.heap.size, 0, none⟩) 41 41) (w' := w.alloc (.cells formCells 70)) rfl (by kernel_rfl) ?_
  refine wpList_run (v := .slice (some ⟨w.heap.size, 0, none⟩) 41 41) (w' := w.alloc (.cells formCells 70)) rfl (by kernel_rfl) ?_
  refine wpList_nil ?_
  refine wp_ret ?_
  refine bodyPost_ret (results_tmp rfl _ _ _) rfl ?_
  exact ⟨rfl, heap_alloc_new w _, (Gr.refl w).alloc _⟩
theorem form_cells (op : Nat) (h : op ≤ 40) : formCells[op * 4]? = some (.int .i64 (Rv.shapeN op)) ∧ formCells[op * 4 + 1]? = some (.int .i64 (Rv.codeN op)) ∧ formCells[op * 4 + 2]? = some (.int .i64 (Rv.thirdN op)) ∧ formCells[op * 4 + 3]? = some (.int .i64 (Rv.seventhN op)) := by
  have key : ∀ k, k < 41 → ∀ i, i < 4 → formCells[k * 4 + i]? = ([.int .i64 (Rv.shapeN k), .int .i64 (Rv.codeN k), .int .i64 (Rv.thirdN k), .int .i64 (Rv.seventhN k)] : List Value)[i]? := by
    intro k hk i hi
    have : ∀ (n s : Nat) (g : Nat → List Value), (∀ k, (g k).length = 4) → ∀ k, k < n → ((List.range' s n).flatMap g)[k * 4 + i]? = (g (s + k))[i]? := by
      intro n
      induction n with
      | zero => intro s g hg k hk; omega
      | succ n ih =>
        intro s g hg k hk
        rw [List.range'_succ, List.flatMap_cons]
        cases k with
        | zero => rw [List.getElem?_append_left (by rw [hg]; omega)]; simp
        | succ k =>
          rw [List.getElem?_append_right (by rw [hg]; omega), hg, show (k + 1) * 4 + i - 4 = k * 4 + i by omega, ih (s + 1) g hg k (by omega), show s + 1 + k = s + (k + 1) by omega]
    unfold formCells
    rw [List.getElem?_toArray, List.range_eq_range', this 41 0 _ (fun _ => rfl) k hk, Nat.zero_add]
  refine ⟨?_, ?_, ?_, ?_⟩
  · exact key op (by omega) 0 (by omega)
  · exact key op (by omega) 1 (by omega)
  · exact key op (by omega) 2 (by omega)
  · exact key op (by omega) 3 (by omega)

/-- What both sides make of some bits of a word. -/
def Rv.part (n : Int) (from_ count at_ : Nat) : Int := n / 2 ^ from_ % 2 ^ count * 2 ^ at_
theorem part_in (n : Int) (fr ct at_ : Nat) (h : ct + at_ ≤ 32) : 0 ≤ n / 2 ^ fr % 2 ^ ct ∧ n / 2 ^ fr % 2 ^ ct < 2 ^ ct ∧ 0 ≤ Rv.part n fr ct at_ ∧ Rv.part n fr ct at_ < 4294967296 := by
  have hp : (0 : Int) < 2 ^ ct := Int.pow_pos (by decide)
  have h0 := Int.emod_nonneg (n / 2 ^ fr) (Int.ne_of_gt hp)
  have h1 := Int.emod_lt_of_pos (n / 2 ^ fr) hp
  have hq : (0 : Int) < 2 ^ at_ := Int.pow_pos (by decide)
  refine ⟨h0, h1, Int.mul_nonneg h0 (Int.le_of_lt hq), ?_⟩
  have h2 : Rv.part n fr ct at_ < 2 ^ ct * 2 ^ at_ := Int.mul_lt_mul_of_pos_right h1 hq
  have h3 : (2 : Int) ^ ct * 2 ^ at_ = 2 ^ (ct + at_) := (Int.pow_add 2 ct at_).symm
  have h4 : (2 : Int) ^ (ct + at_) ≤ 2 ^ 32 := by
    have := Nat.pow_le_pow_right (show 0 < 2 by decide) h
    have e1 : ((2 : Int) ^ (ct + at_)) = ((2 ^ (ct + at_) : Nat) : Int) := by simp
    have e2 : ((2 : Int) ^ 32) = ((2 ^ 32 : Nat) : Int) := by simp
    rw [e1, e2]; omega
  have h5 : (2 : Int) ^ 32 = 4294967296 := by decide
  omega
end Go.Proofs.YthiaaagoccpkcaaDoor
