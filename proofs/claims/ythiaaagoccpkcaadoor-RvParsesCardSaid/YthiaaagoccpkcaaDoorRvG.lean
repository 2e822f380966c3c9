/- Validate of the document. -/
import Derived.Test.YthiaaagoccpkcaaDoorRvF
import Derived.Deep.RegionWith
namespace Go.Proofs.YthiaaagoccpkcaaDoor
open Go.RowKit

set_option maxRecDepth 100000 in
set_option maxHeartbeats 8000000 in
theorem rValidate_any (x : RvI) (w : World) : Calls Tryd.prog 15 #[rvVal x] w fun e w' => e = .returned (.int .i64 (Rv.validE x)) ∧ Gr w w' := by
  obtain ⟨op, d, a, b, imm⟩ := x
  obtain ⟨W, hW⟩ : ∃ W, w.alloc (.cells #[.int .i64 op, .int .i64 d, .int .i64 a, .int .i64 b, .int .i64 imm] 23) = W := ⟨_, rfl⟩
  have hB0 : Gr w W := by rw [← hW]; exact (Gr.refl w).alloc _
  have hrw : W.heap[w.heap.size]? = some (.cells #[.int .i64 op, .int .i64 d, .int .i64 a, .int .i64 b, .int .i64 imm] 23 (0, 0)) := by rw [← hW]; exact heap_alloc_new w _
  have hWs : W.heap.size = w.heap.size + 1 := by rw [← hW]; simp
  have KP : Hid (∀ w', Gr W w' → w'.cell? ⟨w.heap.size, 0, none⟩ = some (.int .i64 op) ∧ w'.cell? ⟨w.heap.size, 1, none⟩ = some (.int .i64 d) ∧ w'.cell? ⟨w.heap.size, 2, none⟩ = some (.int .i64 a) ∧ w'.cell? ⟨w.heap.size, 3, none⟩ = some (.int .i64 b) ∧ w'.cell? ⟨w.heap.size, 4, none⟩ = some (.int .i64 imm)) := fun w' q => by
    have h := (q.heap _ (by omega)).trans hrw
    exact ⟨cell_of_row _ _ 0 _ _ _ h, cell_of_row _ _ 1 _ _ _ h, cell_of_row _ _ 2 _ _ _ h, cell_of_row _ _ 3 _ _ _ h, cell_of_row _ _ 4 _ _ _ h⟩
  obtain ⟨k0, k1, k2, k3, k4⟩ := KP.out W (Gr.refl _)
  have HWI : Hid (∀ w1, Calls Tryd.prog 40 #[.int .i64 op, .int .i64 0, .int .i64 40] w1 fun e w' => e = .returned (.bool (decide (0 ≤ op) && decide (op ≤ 40))) ∧ w1 = w') := fun w1 => within_any op 0 40 w1
  clear hrw
  unfold rvVal
  by_cases hr : 0 ≤ op ∧ op ≤ 40
  · obtain ⟨n, rfl⟩ := Int.eq_ofNat_of_zero_le hr.1
    have hn : n ≤ 40 := by omega
    have hw1 : (decide ((0 : Int) ≤ (n : Int)) && decide ((n : Int) ≤ 40)) = true := by simp; omega
    rw [hw1] at HWI
    have HFM : Hid (∀ w1, Calls Tryd.prog 41 #[] w1 fun e w' => ∃ B, e = .returned (.slice (some ⟨B, 0, none⟩) 41 41) ∧ Hid (w'.cell? ⟨B, n * 4, none⟩ = some (.int .i64 (Rv.shapeN n))) ∧ Gr w1 w') := fun w1 =>
      (forms_any w1).mono fun _ _ ⟨h1, h2, h3⟩ => ⟨_, h1, (cell_of_row _ _ _ _ _ _ h2.out).trans (form_cells n hn).1, h3⟩
    have HHA : Hid (∀ w1, Calls Tryd.prog 42 #[.int .i64 (Rv.shapeN n)] w1 fun e w' => e = .returned (.tuple #[.bool (Rv.hasD (Rv.shapeN n)), .bool (Rv.hasA (Rv.shapeN n)), .bool (Rv.hasB (Rv.shapeN n)), .bool (Rv.hasI (Rv.shapeN n))]) ∧ w1 = w') := fun w1 => rhas_any n w1
    have HRE : Hid (∀ w1, Calls Tryd.prog 44 #[.int .i64 (Rv.shapeN n), .int .i64 imm] w1 fun e w' => e = .returned (.bool (Rv.reaches (Rv.shapeN n) imm)) ∧ w1 = w') := fun w1 => reaches_any _ _ w1
    have HV : Hid (Rv.validE ⟨n, d, a, b, imm⟩ = if Rv.isReg (Rv.hasD (Rv.shapeN n)) d && Rv.isReg (Rv.hasA (Rv.shapeN n)) a && Rv.isReg (Rv.hasB (Rv.shapeN n)) b && (if Rv.hasI (Rv.shapeN n) then Rv.reaches (Rv.shapeN n) imm else imm == 0) then 0 else 1) := by
      show _ = _
      unfold Rv.validE Rv.valid
      have e0 : decide ((0 : Int) ≤ (n : Int)) = true := by simp
      have e1 : decide ((n : Int) ≤ 40) = true := by simp; omega
      simp only [e0, e1, Int.toNat_natCast, Bool.true_and]
    obtain ⟨s, es⟩ : ∃ s, Rv.shapeN n = s := ⟨_, rfl⟩
    rw [es] at HFM HHA HRE HV
    obtain ⟨p1, e1⟩ : ∃ p, Rv.hasD s = p := ⟨_, rfl⟩
    obtain ⟨p2, e2⟩ : ∃ p, Rv.hasA s = p := ⟨_, rfl⟩
    obtain ⟨p3, e3⟩ : ∃ p, Rv.hasB s = p := ⟨_, rfl⟩
    obtain ⟨hi, e4⟩ : ∃ p, Rv.hasI s = p := ⟨_, rfl⟩
    obtain ⟨rc, e5⟩ : ∃ p, Rv.reaches s imm = p := ⟨_, rfl⟩
    rw [e1, e2, e3, e4] at HHA
    rw [e5] at HRE
    rw [e1, e2, e3, e4, e5] at HV
    have HG1 : Hid (∀ w1, Calls Tryd.prog 43 #[.bool p1, .int .i64 d] w1 fun e w' => e = .returned (.bool (Rv.isReg p1 d)) ∧ w1 = w') := fun w1 => isRegister_any _ _ w1
    have HG2 : Hid (∀ w1, Calls Tryd.prog 43 #[.bool p2, .int .i64 a] w1 fun e w' => e = .returned (.bool (Rv.isReg p2 a)) ∧ w1 = w') := fun w1 => isRegister_any _ _ w1
    have HG3 : Hid (∀ w1, Calls Tryd.prog 43 #[.bool p3, .int .i64 b] w1 fun e w' => e = .returned (.bool (Rv.isReg p3 b)) ∧ w1 = w') := fun w1 => isRegister_any _ _ w1
    obtain ⟨s1, i1⟩ : ∃ s, Rv.isReg p1 d = s := ⟨_, rfl⟩
    obtain ⟨s2, i2⟩ : ∃ s, Rv.isReg p2 a = s := ⟨_, rfl⟩
    obtain ⟨s3, i3⟩ : ∃ s, Rv.isReg p3 b = s := ⟨_, rfl⟩
    obtain ⟨z, ez⟩ : ∃ z, (imm == 0) = z := ⟨_, rfl⟩
    have ez2 : (imm != 0) = !z := by rw [← ez]; rfl
    rw [i1, i2, i3, ez] at HV
    rw [i1] at HG1
    rw [i2] at HG2
    rw [i3] at HG3
    have hn1 : (n : Int) < 41 := by omega
    have hn2 : (0 : Int) ≤ (n : Int) := by omega
    clear es e1 e2 e3 e4 e5 i1 i2 i3 ez hr hw1
    go_enter Tryd.func15, Tryd.ntmps15
    go_wp2_with (go_at_call 40; refine (HWI.out _).mono ?_; rintro e w1 ⟨rfl, rfl⟩)
    go_region_with (first | (go_at_call 41; (refine (HFM.out _).mono ?_); rintro e3 w3 ⟨B, rfl, HC, g30⟩; have g3 : Gr W w3 := (Gr.refl W).drew.trans g30; have hc3 := HC.out; have c03 := (KP.out _ g3).1))
    all_goals obtain ⟨l0, l1, l2, l3, l4⟩ := KP.out _ g3
    all_goals clear k0 k1 k2 k3 k4 l0 c03 hc3
    all_goals
      rcases (by cases s1 <;> cases s2 <;> cases s3 <;> cases hi <;> cases rc <;> cases z <;> simp : s1 = false ∨ (s1 = true ∧ s2 = false) ∨ (s1 = true ∧ s2 = true ∧ s3 = false) ∨ (s1 = true ∧ s2 = true ∧ s3 = true ∧ hi = true ∧ rc = true) ∨ (s1 = true ∧ s2 = true ∧ s3 = true ∧ hi = true ∧ rc = false) ∨ (s1 = true ∧ s2 = true ∧ s3 = true ∧ hi = false ∧ z = true) ∨ (s1 = true ∧ s2 = true ∧ s3 = true ∧ hi = false ∧ z = false)) with rfl | ⟨rfl, rfl⟩ | ⟨rfl, rfl, rfl⟩ | ⟨rfl, rfl, rfl, rfl, rfl⟩ | ⟨rfl, rfl, rfl, rfl, rfl⟩ | ⟨rfl, rfl, rfl, rfl, rfl⟩ | ⟨rfl, rfl, rfl, rfl, rfl⟩
      all_goals
        go_wp2_with (first
          | (go_at_call 42; refine (HHA.out _).mono ?_; rintro e w4 ⟨rfl, rfl⟩)
          | (go_at_call 43; with_reducible refine (HG1.out _).mono ?_; rintro e w4 ⟨rfl, rfl⟩)
          | (go_at_call 43; with_reducible refine (HG2.out _).mono ?_; rintro e w4 ⟨rfl, rfl⟩)
          | (go_at_call 43; with_reducible refine (HG3.out _).mono ?_; rintro e w4 ⟨rfl, rfl⟩)
          | (go_at_call 44; refine (HRE.out _).mono ?_; rintro e w4 ⟨rfl, rfl⟩))
        go_ret
        exact ⟨ret_int (by rw [HV.out]; simp), hB0.trans g3⟩
  · have hw1 : (decide (0 ≤ op) && decide (op ≤ 40)) = false := by rw [Bool.and_eq_false_iff]; simp; omega
    rw [hw1] at HWI
    have HX : Hid (Rv.validE ⟨op, d, a, b, imm⟩ = 1) := by show _ = _; unfold Rv.validE Rv.valid; rw [hw1]; simp
    clear hw1 hr
    go_enter Tryd.func15, Tryd.ntmps15
    go_wp2_with (go_at_call 40; refine (HWI.out _).mono ?_; rintro e w1 ⟨rfl, rfl⟩)
    go_ret
    exact ⟨ret_int HX.out.symm, hB0⟩
end Go.Proofs.YthiaaagoccpkcaaDoor
