/- isShaped: the program's answer is the document's. Plain. -/
import Derived.Test.YtiadpjhlomhjeaaGreatIrU
import Derived.Test.YtiadpjhlomhjeaaGreatIrR
namespace Go.Proofs.YtiadpjhlomhjeaaGreat
open Go.RowKit

theorem to_all (l : List Int) (n : Nat) : (!l.any (Ir.outside n)) = l.all (fun z => decide (0 ≤ z) && decide (z < (n : Int))) := by
  induction l with
  | nil => rfl
  | cons a r ih =>
    rw [List.any_cons, List.all_cons, Bool.not_or, ih]
    congr 1
    unfold Ir.outside
    grind
theorem class_out (op : Int) (h : op < 0 ∨ 32 < op) : Ir.classOf op = 0 := by
  unfold Ir.classOf
  simp only [show ¬ op = 0 by omega, show ¬ op = 14 by omega, show ¬ op = 15 by omega, show ¬ (op = 16 ∨ op = 17) by omega, show ¬ op = 18 by omega, show ¬ (op = 19 ∨ op = 20) by omega, show ¬ op = 21 by omega, show ¬ (op = 22 ∨ op = 23) by omega, show ¬ op = 24 by omega, show ¬ op = 25 by omega, show ¬ op = 26 by omega,
    show ¬ op = 27 by omega, show ¬ op = 28 by omega, show ¬ op = 29 by omega, show ¬ op = 30 by omega, show ¬ op = 31 by omega, show ¬ op = 32 by omega, show ¬ (1 ≤ op ∧ op ≤ 13) by omega, if_false]
theorem shapeOf_out (f : Fn) (x : Ins) (h : x.op < 0 ∨ 32 < x.op) : (Ir.shapeOf f x).2.2 = false := by
  unfold Ir.shapeOf
  rw [class_out x.op h]
  rfl
theorem counts_eq (a t : Int) (ok : Bool) (x : Ins) (ha : 0 ≤ a) (ht : 0 ≤ t) : Ref.counts (a, t, ok) x = (((x.args.length : Int) == a) && ((x.to.length : Int) == t)) := by
  unfold Ref.counts
  rw [Bool.eq_iff_iff]
  simp
  omega
/-- Where both texts ask for a numbers of Args and of blocks. -/
theorem shaped_case (f : Fn) (x : Ins) (a t : Int) (p q m : Bool) (hi : Ir.shapeOf f x = (a, t, p)) (hr : Ref.shape f x = (a, t, q)) (ha : 0 ≤ a) (ht : 0 ≤ t) (h30 : x.op ≠ 30) (hm : (bits .andNot .i64 x.flags (Ir.flagsOf x.op) == 0) = m) (hpq : (p && m) = q) :
    Ir.isShaped f x = Ref.argument f x := by
  unfold Ir.isShaped Ref.argument
  rw [hi, hr, hm, counts_eq _ _ _ _ ha ht, to_all, ← hpq]
  simp only [h30, ne_eq, not_false_eq_true, decide_true, Bool.true_or, Bool.and_true]
  generalize (x.to.all fun z => decide (0 ≤ z) && decide (z < (f.blocks.length : Int))) = T
  cases p <;> cases m <;> simp

set_option maxHeartbeats 2000000 in
theorem isShaped_eq (f : Fn) (x : Ins) (hr : 0 ≤ f.ret) (h0 : -9223372036854775808 ≤ x.flags) (h1 : x.flags ≤ 9223372036854775807) : Ir.isShaped f x = Ref.argument f x := by
  by_cases ho : x.op < 0 ∨ 32 < x.op
  · unfold Ir.isShaped Ref.argument
    rw [shapeOf_out f x ho, shape_out f x ho]
    rfl
  have f0 := flags_0 x.flags h0 h1
  have f3 : (bits .andNot .i64 x.flags 3 == 0) = (decide (0 ≤ x.flags) && decide (x.flags ≤ 3)) := flags_3 x.flags h0 h1
  have f4 : (bits .andNot .i64 x.flags 4 == 0) = (decide (x.flags = 0) || decide (x.flags = 4)) := flags_1 x.flags 2 (by omega) h0 h1
  have f8 : (bits .andNot .i64 x.flags 8 == 0) = (decide (x.flags = 0) || decide (x.flags = 8)) := flags_1 x.flags 3 (by omega) h0 h1
  rcases (by omega : x.op = 0 ∨ x.op = 1 ∨ x.op = 2 ∨ x.op = 3 ∨ x.op = 4 ∨ x.op = 5 ∨ x.op = 6 ∨ x.op = 7 ∨ x.op = 8 ∨ x.op = 9 ∨ x.op = 10 ∨ x.op = 11 ∨ x.op = 12 ∨ x.op = 13 ∨ x.op = 14 ∨ x.op = 15 ∨ x.op = 16 ∨ x.op = 17 ∨ x.op = 18 ∨ x.op = 19 ∨ x.op = 20 ∨ x.op = 21 ∨ x.op = 22 ∨ x.op = 23 ∨ x.op = 24 ∨ x.op = 25 ∨ x.op = 26 ∨ x.op = 27 ∨ x.op = 29 ∨ x.op = 31 ∨ x.op = 32 ∨ x.op = 28 ∨ x.op = 30) with h | h | h | h | h | h | h | h | h | h | h | h | h | h | h | h | h | h | h | h | h | h | h | h | h | h | h | h | h | h | h | h | h
  · refine shaped_case f x 0 0 _ _ (decide (x.flags = 0)) (by unfold Ir.shapeOf Ir.classOf; rw [h]; rfl) (by unfold Ref.shape; rw [h]; rfl) (by decide) (by decide) (by omega) (by rw [h]; exact f0) ?_
    grind [Ref.arith, Ref.arith0, Ref.plain, Ref.plain0, Ref.isWordOf, Ref.isMem]
  · refine shaped_case f x 2 0 _ _ (decide (0 ≤ x.flags) && decide (x.flags ≤ 3)) (by unfold Ir.shapeOf Ir.classOf; rw [h]; rfl) (by unfold Ref.shape; rw [h]; rfl) (by decide) (by decide) (by omega) (by rw [h]; exact f3) ?_
    grind [Ref.arith, Ref.arith0, Ref.plain, Ref.plain0, Ref.isWordOf, Ref.isMem]
  · refine shaped_case f x 2 0 _ _ (decide (0 ≤ x.flags) && decide (x.flags ≤ 3)) (by unfold Ir.shapeOf Ir.classOf; rw [h]; rfl) (by unfold Ref.shape; rw [h]; rfl) (by decide) (by decide) (by omega) (by rw [h]; exact f3) ?_
    grind [Ref.arith, Ref.arith0, Ref.plain, Ref.plain0, Ref.isWordOf, Ref.isMem]
  · refine shaped_case f x 2 0 _ _ (decide (0 ≤ x.flags) && decide (x.flags ≤ 3)) (by unfold Ir.shapeOf Ir.classOf; rw [h]; rfl) (by unfold Ref.shape; rw [h]; rfl) (by decide) (by decide) (by omega) (by rw [h]; exact f3) ?_
    grind [Ref.arith, Ref.arith0, Ref.plain, Ref.plain0, Ref.isWordOf, Ref.isMem]
  · refine shaped_case f x 2 0 _ _ (decide (x.flags = 0) || decide (x.flags = 4)) (by unfold Ir.shapeOf Ir.classOf; rw [h]; rfl) (by unfold Ref.shape; rw [h]; rfl) (by decide) (by decide) (by omega) (by rw [h]; exact f4) ?_
    grind [Ref.arith, Ref.arith0, Ref.plain, Ref.plain0, Ref.isWordOf, Ref.isMem]
  · refine shaped_case f x 2 0 _ _ (decide (x.flags = 0)) (by unfold Ir.shapeOf Ir.classOf; rw [h]; rfl) (by unfold Ref.shape; rw [h]; rfl) (by decide) (by decide) (by omega) (by rw [h]; exact f0) ?_
    grind [Ref.arith, Ref.arith0, Ref.plain, Ref.plain0, Ref.isWordOf, Ref.isMem]
  · refine shaped_case f x 2 0 _ _ (decide (x.flags = 0) || decide (x.flags = 4)) (by unfold Ir.shapeOf Ir.classOf; rw [h]; rfl) (by unfold Ref.shape; rw [h]; rfl) (by decide) (by decide) (by omega) (by rw [h]; exact f4) ?_
    grind [Ref.arith, Ref.arith0, Ref.plain, Ref.plain0, Ref.isWordOf, Ref.isMem]
  · refine shaped_case f x 2 0 _ _ (decide (x.flags = 0)) (by unfold Ir.shapeOf Ir.classOf; rw [h]; rfl) (by unfold Ref.shape; rw [h]; rfl) (by decide) (by decide) (by omega) (by rw [h]; exact f0) ?_
    grind [Ref.arith, Ref.arith0, Ref.plain, Ref.plain0, Ref.isWordOf, Ref.isMem]
  · refine shaped_case f x 2 0 _ _ (decide (x.flags = 0)) (by unfold Ir.shapeOf Ir.classOf; rw [h]; rfl) (by unfold Ref.shape; rw [h]; rfl) (by decide) (by decide) (by omega) (by rw [h]; exact f0) ?_
    grind [Ref.arith, Ref.arith0, Ref.plain, Ref.plain0, Ref.isWordOf, Ref.isMem]
  · refine shaped_case f x 2 0 _ _ (decide (x.flags = 0)) (by unfold Ir.shapeOf Ir.classOf; rw [h]; rfl) (by unfold Ref.shape; rw [h]; rfl) (by decide) (by decide) (by omega) (by rw [h]; exact f0) ?_
    grind [Ref.arith, Ref.arith0, Ref.plain, Ref.plain0, Ref.isWordOf, Ref.isMem]
  · refine shaped_case f x 2 0 _ _ (decide (x.flags = 0)) (by unfold Ir.shapeOf Ir.classOf; rw [h]; rfl) (by unfold Ref.shape; rw [h]; rfl) (by decide) (by decide) (by omega) (by rw [h]; exact f0) ?_
    grind [Ref.arith, Ref.arith0, Ref.plain, Ref.plain0, Ref.isWordOf, Ref.isMem]
  · refine shaped_case f x 2 0 _ _ (decide (0 ≤ x.flags) && decide (x.flags ≤ 3)) (by unfold Ir.shapeOf Ir.classOf; rw [h]; rfl) (by unfold Ref.shape; rw [h]; rfl) (by decide) (by decide) (by omega) (by rw [h]; exact f3) ?_
    grind [Ref.arith, Ref.arith0, Ref.plain, Ref.plain0, Ref.isWordOf, Ref.isMem]
  · refine shaped_case f x 2 0 _ _ (decide (x.flags = 0) || decide (x.flags = 4)) (by unfold Ir.shapeOf Ir.classOf; rw [h]; rfl) (by unfold Ref.shape; rw [h]; rfl) (by decide) (by decide) (by omega) (by rw [h]; exact f4) ?_
    grind [Ref.arith, Ref.arith0, Ref.plain, Ref.plain0, Ref.isWordOf, Ref.isMem]
  · refine shaped_case f x 2 0 _ _ (decide (x.flags = 0) || decide (x.flags = 4)) (by unfold Ir.shapeOf Ir.classOf; rw [h]; rfl) (by unfold Ref.shape; rw [h]; rfl) (by decide) (by decide) (by omega) (by rw [h]; exact f4) ?_
    grind [Ref.arith, Ref.arith0, Ref.plain, Ref.plain0, Ref.isWordOf, Ref.isMem]
  · refine shaped_case f x 2 0 _ _ (decide (x.flags = 0)) (by unfold Ir.shapeOf Ir.classOf; rw [h]; rfl) (by unfold Ref.shape; rw [h]; rfl) (by decide) (by decide) (by omega) (by rw [h]; exact f0) ?_
    grind [Ref.arith, Ref.arith0, Ref.plain, Ref.plain0, Ref.isWordOf, Ref.isMem]
  · refine shaped_case f x 3 0 _ _ (decide (x.flags = 0)) (by unfold Ir.shapeOf Ir.classOf; rw [h]; rfl) (by unfold Ref.shape; rw [h]; rfl) (by decide) (by decide) (by omega) (by rw [h]; exact f0) ?_
    grind [Ref.arith, Ref.arith0, Ref.plain, Ref.plain0, Ref.isWordOf, Ref.isMem]
  · refine shaped_case f x 1 0 _ _ (decide (x.flags = 0)) (by unfold Ir.shapeOf Ir.classOf; rw [h]; rfl) (by unfold Ref.shape; rw [h]; rfl) (by decide) (by decide) (by omega) (by rw [h]; exact f0) ?_
    grind [Ref.arith, Ref.arith0, Ref.plain, Ref.plain0, Ref.isWordOf, Ref.isMem]
  · refine shaped_case f x 1 0 _ _ (decide (x.flags = 0)) (by unfold Ir.shapeOf Ir.classOf; rw [h]; rfl) (by unfold Ref.shape; rw [h]; rfl) (by decide) (by decide) (by omega) (by rw [h]; exact f0) ?_
    grind [Ref.arith, Ref.arith0, Ref.plain, Ref.plain0, Ref.isWordOf, Ref.isMem]
  · refine shaped_case f x 1 0 _ _ (decide (x.flags = 0)) (by unfold Ir.shapeOf Ir.classOf; rw [h]; rfl) (by unfold Ref.shape; rw [h]; rfl) (by decide) (by decide) (by omega) (by rw [h]; exact f0) ?_
    grind [Ref.arith, Ref.arith0, Ref.plain, Ref.plain0, Ref.isWordOf, Ref.isMem]
  · refine shaped_case f x 2 0 _ _ (decide (x.flags = 0)) (by unfold Ir.shapeOf Ir.classOf; rw [h]; rfl) (by unfold Ref.shape; rw [h]; rfl) (by decide) (by decide) (by omega) (by rw [h]; exact f0) ?_
    grind [Ref.arith, Ref.arith0, Ref.plain, Ref.plain0, Ref.isWordOf, Ref.isMem]
  · refine shaped_case f x 2 0 _ _ (decide (x.flags = 0)) (by unfold Ir.shapeOf Ir.classOf; rw [h]; rfl) (by unfold Ref.shape; rw [h]; rfl) (by decide) (by decide) (by omega) (by rw [h]; exact f0) ?_
    grind [Ref.arith, Ref.arith0, Ref.plain, Ref.plain0, Ref.isWordOf, Ref.isMem]
  · refine shaped_case f x 1 0 _ _ (decide (x.flags = 0)) (by unfold Ir.shapeOf Ir.classOf; rw [h]; rfl) (by unfold Ref.shape; rw [h]; rfl) (by decide) (by decide) (by omega) (by rw [h]; exact f0) ?_
    grind [Ref.arith, Ref.arith0, Ref.plain, Ref.plain0, Ref.isWordOf, Ref.isMem]
  · refine shaped_case f x 0 0 _ _ (decide (x.flags = 0)) (by unfold Ir.shapeOf Ir.classOf; rw [h]; rfl) (by unfold Ref.shape; rw [h]; rfl) (by decide) (by decide) (by omega) (by rw [h]; exact f0) ?_
    grind [Ref.arith, Ref.arith0, Ref.plain, Ref.plain0, Ref.isWordOf, Ref.isMem]
  · refine shaped_case f x 0 0 _ _ (decide (x.flags = 0)) (by unfold Ir.shapeOf Ir.classOf; rw [h]; rfl) (by unfold Ref.shape; rw [h]; rfl) (by decide) (by decide) (by omega) (by rw [h]; exact f0) ?_
    grind [Ref.arith, Ref.arith0, Ref.plain, Ref.plain0, Ref.isWordOf, Ref.isMem]
  · refine shaped_case f x 0 0 _ _ (decide (x.flags = 0)) (by unfold Ir.shapeOf Ir.classOf; rw [h]; rfl) (by unfold Ref.shape; rw [h]; rfl) (by decide) (by decide) (by omega) (by rw [h]; exact f0) ?_
    grind [Ref.arith, Ref.arith0, Ref.plain, Ref.plain0, Ref.isWordOf, Ref.isMem]
  · refine shaped_case f x 2 0 _ _ (decide (x.flags = 0) || decide (x.flags = 8)) (by unfold Ir.shapeOf Ir.classOf; rw [h]; rfl) (by unfold Ref.shape; rw [h]; rfl) (by decide) (by decide) (by omega) (by rw [h]; exact f8) ?_
    grind [Ref.arith, Ref.arith0, Ref.plain, Ref.plain0, Ref.isWordOf, Ref.isMem]
  · refine shaped_case f x 1 0 _ _ (decide (x.flags = 0)) (by unfold Ir.shapeOf Ir.classOf; rw [h]; rfl) (by unfold Ref.shape; rw [h]; rfl) (by decide) (by decide) (by omega) (by rw [h]; exact f0) ?_
    grind [Ref.arith, Ref.arith0, Ref.plain, Ref.plain0, Ref.isWordOf, Ref.isMem]
  · refine shaped_case f x 2 0 _ _ (decide (x.flags = 0)) (by unfold Ir.shapeOf Ir.classOf; rw [h]; rfl) (by unfold Ref.shape; rw [h]; rfl) (by decide) (by decide) (by omega) (by rw [h]; exact f0) ?_
    grind [Ref.arith, Ref.arith0, Ref.plain, Ref.plain0, Ref.isWordOf, Ref.isMem]
  · refine shaped_case f x 0 1 _ _ (decide (x.flags = 0)) (by unfold Ir.shapeOf Ir.classOf; rw [h]; rfl) (by unfold Ref.shape; rw [h]; rfl) (by decide) (by decide) (by omega) (by rw [h]; exact f0) ?_
    grind [Ref.arith, Ref.arith0, Ref.plain, Ref.plain0, Ref.isWordOf, Ref.isMem]
  · have e : (if f.ret < 1 then f.ret else 1) = if 0 < f.ret then 1 else 0 := by split <;> split <;> omega
    refine shaped_case f x (if 0 < f.ret then 1 else 0) 0 (decide (x.width = 0) && decide (x.imm = 0)) (decide (x.width = 0) && Ref.plain x) (decide (x.flags = 0)) (by rw [← e]; unfold Ir.shapeOf Ir.classOf; rw [h]; rfl) (by unfold Ref.shape; rw [h]; rfl) (by split <;> decide) (by decide) (by omega) (by rw [h]; exact f0) ?_
    simp [Ref.plain, Ref.plain0]; grind
  · refine shaped_case f x 0 0 _ _ (decide (x.flags = 0)) (by unfold Ir.shapeOf Ir.classOf; rw [h]; rfl) (by unfold Ref.shape; rw [h]; rfl) (by decide) (by decide) (by omega) (by rw [h]; exact f0) ?_
    grind [Ref.arith, Ref.arith0, Ref.plain, Ref.plain0, Ref.isWordOf, Ref.isMem]
  · unfold Ir.isShaped Ref.argument
    have hi : Ir.shapeOf f x = ((x.to.length : Int), (x.to.length : Int), (Ref.isWidth x.width || decide (x.width = 33)) && decide (x.imm = 0) && decide (0 < x.to.length)) := by unfold Ir.shapeOf Ir.classOf; rw [h]; rfl
    have hs : Ref.shape f x = (-1, -1, (Ref.isWidth x.width || decide (x.width = 33)) && Ref.plain x && decide (0 < x.args.length)) := by unfold Ref.shape; rw [h]; rfl
    have hm : (bits .andNot .i64 x.flags (Ir.flagsOf x.op) == 0) = decide (x.flags = 0) := by rw [h]; exact f0
    rw [hi, hs, hm, to_all]
    generalize (x.to.all fun z => decide (0 ≤ z) && decide (z < (f.blocks.length : Int))) = T
    unfold Ref.counts
    rw [Bool.eq_iff_iff]
    simp [h, Ref.plain, Ref.plain0]
    grind
  · unfold Ir.isShaped Ref.argument
    have hi : Ir.shapeOf f x = (1, 2, decide (x.width = 0) && decide (x.imm = 0) && (decide (x.to.length ≠ 2) || decide (x.to.getD 0 0 ≠ x.to.getD 1 0))) := by unfold Ir.shapeOf Ir.classOf; rw [h]; rfl
    have hs : Ref.shape f x = (1, 2, decide (x.width = 0) && Ref.plain x) := by unfold Ref.shape; rw [h]; rfl
    have hm : (bits .andNot .i64 x.flags (Ir.flagsOf x.op) == 0) = decide (x.flags = 0) := by rw [h]; exact f0
    rw [hi, hs, hm, to_all, counts_eq _ _ _ _ (by decide) (by decide)]
    generalize (x.to.all fun z => decide (0 ≤ z) && decide (z < (f.blocks.length : Int))) = T
    generalize x.to.getD 0 0 = a
    generalize x.to.getD 1 0 = b
    rw [Bool.eq_iff_iff]
    simp [h, Ref.plain, Ref.plain0]
    grind
end Go.Proofs.YtiadpjhlomhjeaaGreat
