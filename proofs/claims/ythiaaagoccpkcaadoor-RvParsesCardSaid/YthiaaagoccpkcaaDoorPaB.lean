/- Writes and Text of the document, at any instruction. -/
import Derived.Test.YthiaaagoccpkcaaDoorPaA
namespace Go.Proofs.YthiaaagoccpkcaaDoor
set_option linter.unusedSimpArgs false
set_option linter.unusedVariables false
open Go.RowKit

set_option maxRecDepth 1000000 in
theorem names_any (w : World) (ht : Tabs w) : Calls Tryd.prog 61 #[] w fun e w' => e = .returned (.slice (some ⟨w.heap.size, 0, none⟩) 41 41) ∧ w' = w.alloc (.cells namesRow 9) := by
  have HT := Lib.hid ht
  clear ht
  go_enter Tryd.func61, Tryd.ntmps61
  go_wp2_with (go_at_call 57; refine (fields_op _ (by kernel_rfl) _ HT.out).mono ?_; rintro e w1 ⟨rfl, rfl⟩)
  go_ret
  exact ⟨rfl, rfl⟩
/-- An instruction in a box. -/
theorem box5 (w : World) (op d a b imm : Int) : ∃ W, w.alloc (.cells #[.int .i64 op, .int .i64 d, .int .i64 a, .int .i64 b, .int .i64 imm] 23) = W ∧ Hid (Gr w W) ∧ Hid (∀ w', Gr W w' → w'.cell? ⟨w.heap.size, 0, none⟩ = some (.int .i64 op) ∧ w'.cell? ⟨w.heap.size, 1, none⟩ = some (.int .i64 d) ∧ w'.cell? ⟨w.heap.size, 2, none⟩ = some (.int .i64 a) ∧ w'.cell? ⟨w.heap.size, 3, none⟩ = some (.int .i64 b) ∧ w'.cell? ⟨w.heap.size, 4, none⟩ = some (.int .i64 imm)) := by
  refine ⟨_, rfl, Lib.hid ((Gr.refl w).alloc _), Lib.hid fun w' q => ?_⟩
  have h := (q.heap w.heap.size (by simp)).trans (heap_alloc_new w _)
  exact ⟨cell_of_row _ _ 0 _ _ _ h, cell_of_row _ _ 1 _ _ _ h, cell_of_row _ _ 2 _ _ _ h, cell_of_row _ _ 3 _ _ _ h, cell_of_row _ _ 4 _ _ _ h⟩
theorem gt0 (d : Int) (h0 : 0 ≤ d) : decide (0 < d) = (d != 0) := by
  rw [Bool.eq_iff_iff]; simp; omega
set_option maxRecDepth 100000 in
set_option maxHeartbeats 8000000 in
theorem rWrites_any (x : RvI) (w : World) : Calls Tryd.prog 34 #[rvVal x] w fun e w' => e = .returned (writesV x) ∧ Gr w w' := by
  have HVA : Hid (∀ w1, Calls Tryd.prog 15 #[rvVal x] w1 fun e w' => e = .returned (.int .i64 (Rv.validE x)) ∧ Gr w1 w') := fun w1 => rValidate_any x w1
  unfold writesV
  cases hv : Rv.valid x with
  | false =>
    rw [if_neg (by decide)]
    have he := validE_ne hv
    generalize Rv.validE x = er at *
    have c1 : (er != 0) = true := by simpa using he
    obtain ⟨op, d, a, b, imm⟩ := x
    unfold rvVal at HVA ⊢
    dsimp only at HVA ⊢
    clear hv he
    go_enter Tryd.func34, Tryd.ntmps34
    go_wp2_with (go_at_call 15; refine (HVA.out _).mono ?_; rintro e w1 ⟨rfl, g1⟩)
    go_ret3
    exact ⟨rfl, ((Gr.refl w).alloc _).trans g1⟩
  | true =>
    rw [if_pos rfl]
    rw [validE_eq hv] at HVA
    obtain ⟨n, e, hn, hd, ha, hb, hd0, ha0, hb0, -, hm⟩ := valid_parts x hv
    obtain ⟨op, d, a, b, imm⟩ := x
    dsimp only at e hd ha hb hd0 ha0 hb0 hm
    subst e
    have HGT : Hid (decide (0 < d) = (Rv.hasD (Rv.shapeN n) && (d != 0))) := by
      show _ = _
      rw [gt0 d hd.1]
      cases hp : Rv.hasD (Rv.shapeN n) with
      | true => rfl
      | false => rw [hd0 hp]; rfl
    have HFM : Hid (∀ w1, Calls Tryd.prog 41 #[] w1 fun e w' => ∃ B, e = .returned (.slice (some ⟨B, 0, none⟩) 41 41) ∧ Hid (w'.cell? ⟨B, n * 4, none⟩ = some (.int .i64 (Rv.shapeN n))) ∧ Gr w1 w') := fun w1 =>
      (forms_any w1).mono fun _ _ ⟨h1, h2, h3⟩ => ⟨_, h1, (cell_of_row _ _ _ _ _ _ h2.out).trans (form_cells n hn).1, h3⟩
    have HHA : Hid (∀ w1, Calls Tryd.prog 42 #[.int .i64 (Rv.shapeN n)] w1 fun e w' => e = .returned (.tuple #[.bool (Rv.hasD (Rv.shapeN n)), .bool (Rv.hasA (Rv.shapeN n)), .bool (Rv.hasB (Rv.shapeN n)), .bool (Rv.hasI (Rv.shapeN n))]) ∧ w1 = w') := fun w1 => rhas_any n w1
    obtain ⟨s, es⟩ : ∃ s, Rv.shapeN n = s := ⟨_, rfl⟩
    rw [es] at HFM HHA HGT
    obtain ⟨p1, e1⟩ : ∃ p, Rv.hasD s = p := ⟨_, rfl⟩
    obtain ⟨p2, e2⟩ : ∃ p, Rv.hasA s = p := ⟨_, rfl⟩
    obtain ⟨p3, e3⟩ : ∃ p, Rv.hasB s = p := ⟨_, rfl⟩
    obtain ⟨p4, e4⟩ : ∃ p, Rv.hasI s = p := ⟨_, rfl⟩
    rw [e1, e2, e3, e4] at HHA
    rw [e1] at HGT
    unfold rvVal at HVA ⊢
    dsimp only at HVA ⊢
    obtain ⟨W, hW, HG, KP⟩ := box5 w (n : Int) d a b imm
    obtain ⟨k0, k1, k2, k3, k4⟩ := KP.out W (Gr.refl _)
    have n1 : (n : Int) < 41 := by omega
    have n0 : (0 : Int) ≤ (n : Int) := by omega
    clear hv hd ha hb hd0 ha0 hb0 hm es e1 e2 e3 e4
    go_enter Tryd.func34, Tryd.ntmps34
    go_wp2_with (go_at_call 15; refine (HVA.out _).mono ?_; rintro e w1 ⟨rfl, g1⟩; obtain ⟨l0, l1, l2, l3, l4⟩ := KP.out _ g1; have HG1 := Lib.hid g1; clear g1)
    go_region_with (first
      | (go_at_call 41; (refine (HFM.out _).mono ?_); rintro e3 w3 ⟨B, rfl, HC, g30⟩; have HG3 : Hid (Gr W w3) := HG1.out.trans ((Gr.refl w1).drew.trans g30); have hc3 := HC.out; obtain ⟨c0, c1, -⟩ := KP.out _ HG3.out)
      | (go_at_call 42; (refine (HHA.out _).mono ?_); rintro e4 w4 ⟨rfl, rfl⟩))
    all_goals
      cases p1
      all_goals
        go_wp2
        go_quiet (fail)
        go_wp2
        go_ret3
        exact ⟨by rw [HGT.out]; rfl, HG.out.trans (HG3.out.drewN _)⟩
end Go.Proofs.YthiaaagoccpkcaaDoor
