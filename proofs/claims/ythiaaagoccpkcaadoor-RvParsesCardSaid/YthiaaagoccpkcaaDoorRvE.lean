/- rv.Validate. -/
import Derived.Test.YthiaaagoccpkcaaDoorRvD
namespace Go.Proofs.YthiaaagoccpkcaaDoor
open Go.RowKit

theorem isReg_of (there : Bool) (n : Int) : Rv.isReg there n = (decide (0 ≤ n) && decide (n ≤ 31) && (there || (n == 0))) := by
  unfold Rv.isReg
  cases there
  · by_cases h : n = 0
    · subst h; decide
    · simp [h]
  · by_cases h : n = 0
    · subst h; decide
    · simp [h]
theorem shape_range (op : Nat) : Rv.shapeN op = 0 ∨ Rv.shapeN op = 1 ∨ Rv.shapeN op = 2 ∨ Rv.shapeN op = 3 ∨ Rv.shapeN op = 4 ∨ Rv.shapeN op = 5 ∨ Rv.shapeN op = 6 ∨ Rv.shapeN op = 7 ∨ Rv.shapeN op = 8 ∨ Rv.shapeN op = 9 := by unfold Rv.shapeN; grind
theorem form_range (op : Int) : 0 ≤ Rv.form op ∧ Rv.form op ≤ 10 := by
  unfold Rv.form
  split
  · omega
  · rcases shape_range op.toNat with h | h | h | h | h | h | h | h | h | h <;> rw [h] <;> omega
theorem valid_eq (x : RvI) : Rv.valid x = (Rv.isReg (Rv.hasP (Rv.form x.op)).1 x.d && Rv.isReg (Rv.hasP (Rv.form x.op)).2.1 x.a && Rv.isReg (Rv.hasP (Rv.form x.op)).2.2.1 x.b && (!(Rv.form x.op == 10) && Rv.fits (Rv.form x.op) x.imm)) := by
  obtain ⟨op, d, a, b, imm⟩ := x
  unfold Rv.valid
  by_cases h : op < 0 ∨ 40 < op
  · have hf : Rv.form op = 10 := by unfold Rv.form; rw [if_pos h]
    have hr : (decide (0 ≤ op) && decide (op ≤ 40)) = false := by rw [Bool.and_eq_false_iff]; simp; omega
    simp only [hf, hr]
    simp
  · have hf : Rv.form op = Rv.shapeN op.toNat := by unfold Rv.form; rw [if_neg h]
    have h0 : decide (0 ≤ op) = true := by simp; omega
    have h1 : decide (op ≤ 40) = true := by simp; omega
    simp only [hf, h0, h1]
    rcases shape_range op.toNat with e | e | e | e | e | e | e | e | e | e
    all_goals
      simp only [e]
      unfold Rv.hasP Rv.fits Rv.reaches
      simp [Rv.hasD, Rv.hasA, Rv.hasB, Rv.hasI]
      try grind
end Go.Proofs.YthiaaagoccpkcaaDoor
