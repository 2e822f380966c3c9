/- formOf, code, seventh, fits of the program; within, isRegister, reaches, has of the document. -/
import Derived.Test.YthiaaagoccpkcaaDoorSpec
import Derived.Test.YthiaaagoccpkcaaDoorGr
import Derived.Test.YthiaaagoccpkcaaDoorProg
import Derived.IntWalk
namespace Go.Proofs.YthiaaagoccpkcaaDoor
open Go.RowKit

/-- The form of an operation: its shape, or 10. -/
def Rv.form (op : Int) : Int := if op < 0 ∨ 40 < op then 10 else Rv.shapeN op.toNat
set_option maxHeartbeats 2000000 in
theorem formOf_any (op : Int) (w : World) : Calls Tryd.prog 37 #[.int .i64 op] w fun e w' => e = .returned (.int .i64 (Rv.form op)) ∧ w = w' := by
  rcases (by omega : op < 0 ∨ (40 < op ∧ 0 ≤ op) ∨ ((0 ≤ op ∧ op ≤ 40) ∧ op ≤ 14) ∨ ((0 ≤ op ∧ op ≤ 40) ∧ 14 < op ∧ op ≤ 20) ∨ ((0 ≤ op ∧ op ≤ 40) ∧ 20 < op ∧ op ≤ 23) ∨ op = 24 ∨ ((0 ≤ op ∧ op ≤ 40) ∧ 24 < op ∧ op ≤ 27) ∨ ((0 ≤ op ∧ op ≤ 40) ∧ 27 < op ∧ op ≤ 30) ∨ ((0 ≤ op ∧ op ≤ 40) ∧ 30 < op ∧ op ≤ 36) ∨ op = 37 ∨ op = 38 ∨ op = 39 ∨ op = 40) with h | ⟨h, h'⟩ | ⟨⟨h0, h1⟩, h⟩ | ⟨⟨h0, h1⟩, h, h'⟩ | ⟨⟨h0, h1⟩, h, h'⟩ | rfl | ⟨⟨h0, h1⟩, h, h'⟩ | ⟨⟨h0, h1⟩, h, h'⟩ | ⟨⟨h0, h1⟩, h, h'⟩ | rfl | rfl | rfl | rfl
  all_goals
    try have n24 : (op == 24) = false := by simp; omega
    try have n37 : (op == 37) = false := by simp; omega
    try have n38 : (op == 38) = false := by simp; omega
    go_enter Tryd.func37, Tryd.ntmps37
    go_wp2
    go_ret
    refine ⟨ret_int ?_, rfl⟩
    first
      | decide
      | (unfold Rv.form Rv.shapeN; grind)

set_option maxHeartbeats 2000000 in
theorem code_any (op : Nat) (h : op ≤ 40) (w : World) : Calls Tryd.prog 65 #[.int .i64 (Rv.shapeN op)] w fun e w' => e = .returned (.int .u32 (Rv.codeN op)) ∧ w = w' := by
  rcases (by omega : op ≤ 14 ∨ (14 < op ∧ op ≤ 20) ∨ (20 < op ∧ op ≤ 23) ∨ op = 24 ∨ (24 < op ∧ op ≤ 27) ∨ (27 < op ∧ op ≤ 30) ∨ (30 < op ∧ op ≤ 36) ∨ op = 37 ∨ op = 38 ∨ (38 < op ∧ op ≤ 40)) with q | q | q | q | q | q | q | q | q | q
  · have e1 : Rv.shapeN op = 0 := by unfold Rv.shapeN; grind
    have e2 : Rv.codeN op = 51 := by unfold Rv.codeN; grind
    rw [e1, e2]
    clear e1 e2
    go_enter Tryd.func65, Tryd.ntmps65
    go_wp2
    go_ret
    exact ⟨rfl, rfl⟩
  · have e1 : Rv.shapeN op = 1 := by unfold Rv.shapeN; grind
    have e2 : Rv.codeN op = 19 := by unfold Rv.codeN; grind
    rw [e1, e2]
    clear e1 e2
    go_enter Tryd.func65, Tryd.ntmps65
    go_wp2
    go_ret
    exact ⟨rfl, rfl⟩
  · have e1 : Rv.shapeN op = 2 := by unfold Rv.shapeN; grind
    have e2 : Rv.codeN op = 19 := by unfold Rv.codeN; grind
    rw [e1, e2]
    clear e1 e2
    go_enter Tryd.func65, Tryd.ntmps65
    go_wp2
    go_ret
    exact ⟨rfl, rfl⟩
  · have e1 : Rv.shapeN op = 3 := by unfold Rv.shapeN; grind
    have e2 : Rv.codeN op = 55 := by unfold Rv.codeN; grind
    rw [e1, e2]
    clear e1 e2
    go_enter Tryd.func65, Tryd.ntmps65
    go_wp2
    go_ret
    exact ⟨rfl, rfl⟩
  · have e1 : Rv.shapeN op = 4 := by unfold Rv.shapeN; grind
    have e2 : Rv.codeN op = 3 := by unfold Rv.codeN; grind
    rw [e1, e2]
    clear e1 e2
    go_enter Tryd.func65, Tryd.ntmps65
    go_wp2
    go_ret
    exact ⟨rfl, rfl⟩
  · have e1 : Rv.shapeN op = 5 := by unfold Rv.shapeN; grind
    have e2 : Rv.codeN op = 35 := by unfold Rv.codeN; grind
    rw [e1, e2]
    clear e1 e2
    go_enter Tryd.func65, Tryd.ntmps65
    go_wp2
    go_ret
    exact ⟨rfl, rfl⟩
  · have e1 : Rv.shapeN op = 6 := by unfold Rv.shapeN; grind
    have e2 : Rv.codeN op = 99 := by unfold Rv.codeN; grind
    rw [e1, e2]
    clear e1 e2
    go_enter Tryd.func65, Tryd.ntmps65
    go_wp2
    go_ret
    exact ⟨rfl, rfl⟩
  · have e1 : Rv.shapeN op = 7 := by unfold Rv.shapeN; grind
    have e2 : Rv.codeN op = 111 := by unfold Rv.codeN; grind
    rw [e1, e2]
    clear e1 e2
    go_enter Tryd.func65, Tryd.ntmps65
    go_wp2
    go_ret
    exact ⟨rfl, rfl⟩
  · have e1 : Rv.shapeN op = 8 := by unfold Rv.shapeN; grind
    have e2 : Rv.codeN op = 103 := by unfold Rv.codeN; grind
    rw [e1, e2]
    clear e1 e2
    go_enter Tryd.func65, Tryd.ntmps65
    go_wp2
    go_ret
    exact ⟨rfl, rfl⟩
  · have e1 : Rv.shapeN op = 9 := by unfold Rv.shapeN; grind
    have e2 : Rv.codeN op = 115 := by unfold Rv.codeN; grind
    rw [e1, e2]
    clear e1 e2
    go_enter Tryd.func65, Tryd.ntmps65
    go_wp2
    go_ret
    exact ⟨rfl, rfl⟩

set_option maxHeartbeats 2000000 in
theorem within_any (n lo hi : Int) (w : World) : Calls Tryd.prog 40 #[.int .i64 n, .int .i64 lo, .int .i64 hi] w fun e w' => e = .returned (.bool (decide (lo ≤ n) && decide (n ≤ hi))) ∧ w = w' := by
  by_cases h : lo ≤ n
  · have h1 : decide (lo ≤ n) = true := decide_eq_true h
    go_enter Tryd.func40, Tryd.ntmps40
    go_wp2
    all_goals go_ret
    all_goals exact ⟨ret_bool (by simp [*]), rfl⟩
  · have h1 : decide (lo ≤ n) = false := decide_eq_false h
    go_enter Tryd.func40, Tryd.ntmps40
    go_wp2
    all_goals go_ret
    all_goals exact ⟨ret_bool (by simp [*]), rfl⟩
end Go.Proofs.YthiaaagoccpkcaaDoor
