/- third, seventh, fits, has of the program; isRegister, reaches, has of the document. -/
import Derived.Test.YthiaaagoccpkcaaDoorRvA
namespace Go.Proofs.YthiaaagoccpkcaaDoor
open Go.RowKit

set_option maxHeartbeats 4000000 in
theorem third_any (op : Nat) (h : op ≤ 40) (w : World) : Calls Tryd.prog 66 #[.int .i64 (op : Int)] w fun e w' => e = .returned (.int .u32 (Rv.thirdN op)) ∧ w = w' := by
  rcases (by omega : op = 0 ∨ op = 1 ∨ op = 2 ∨ op = 3 ∨ op = 4 ∨ op = 5 ∨ op = 6 ∨ op = 7 ∨ op = 8 ∨ op = 9 ∨ op = 10 ∨ op = 11 ∨ op = 12 ∨ op = 13 ∨ op = 14 ∨ op = 15 ∨ op = 16 ∨ op = 17 ∨ op = 18 ∨ op = 19 ∨ op = 20 ∨ op = 21 ∨ op = 22 ∨ op = 23 ∨ op = 24 ∨ op = 25 ∨ op = 26 ∨ op = 27 ∨ op = 28 ∨ op = 29 ∨ op = 30 ∨ op = 31 ∨ op = 32 ∨ op = 33 ∨ op = 34 ∨ op = 35 ∨ op = 36 ∨ 37 ≤ op) with rfl | rfl | rfl | rfl | rfl | rfl | rfl | rfl | rfl | rfl | rfl | rfl | rfl | rfl | rfl | rfl | rfl | rfl | rfl | rfl | rfl | rfl | rfl | rfl | rfl | rfl | rfl | rfl | rfl | rfl | rfl | rfl | rfl | rfl | rfl | rfl | rfl | q
  rotate_right 1
  · have e1 : Rv.thirdN op = 0 := by
      rcases (by omega : op = 37 ∨ op = 38 ∨ op = 39 ∨ op = 40) with rfl | rfl | rfl | rfl <;> decide
    have q' : (37 : Int) ≤ op := by omega
    rw [e1]
    go_enter Tryd.func66, Tryd.ntmps66
    go_wp2
    go_ret
    exact ⟨rfl, rfl⟩
  all_goals
    go_enter Tryd.func66, Tryd.ntmps66
    go_wp2
    go_ret
    exact ⟨ret_int (by decide), rfl⟩

set_option maxHeartbeats 4000000 in
theorem seventh_any (op : Nat) (h : op ≤ 40) (w : World) : Calls Tryd.prog 67 #[.int .i64 (op : Int)] w fun e w' => e = .returned (.int .u32 (Rv.seventhN op)) ∧ w = w' := by
  rcases (by omega : op = 1 ∨ op = 7 ∨ op = 23 ∨ (op ≠ 1 ∧ op ≠ 7 ∧ op ≠ 23 ∧ op < 10) ∨ (10 ≤ op ∧ op ≤ 14) ∨ (op ≠ 23 ∧ 14 < op)) with rfl | rfl | rfl | ⟨a, b, c, d⟩ | ⟨a, b⟩ | ⟨a, b⟩
  all_goals
    try have n1 : ((op : Int) == 1) = false := by simp; omega
    try have n2 : ((op : Int) == 7) = false := by simp; omega
    try have n3 : ((op : Int) == 23) = false := by simp; omega
    try have n4 : (op : Int) < 10 := by omega
    try have n5 : (10 : Int) ≤ op := by omega
    try have n6 : (op : Int) ≤ 14 := by omega
    try have n7 : (14 : Int) < op := by omega
    go_enter Tryd.func67, Tryd.ntmps67
    go_wp2
    go_ret
    refine ⟨ret_int ?_, rfl⟩
    first
      | decide
      | (unfold Rv.seventhN; grind)

theorem isReg_cases (there : Bool) (n : Int) : Rv.isReg there n = (there && (decide (0 ≤ n) && decide (n ≤ 31)) || (n == 0)) := rfl
set_option maxHeartbeats 2000000 in
theorem isRegister_any (there : Bool) (n : Int) (w : World) : Calls Tryd.prog 43 #[.bool there, .int .i64 n] w fun e w' => e = .returned (.bool (Rv.isReg there n)) ∧ w = w' := by
  have HW := Lib.hid (within_any n 0 31 w)
  have HE := Lib.hid (isReg_cases there n)
  obtain ⟨b, hb⟩ : ∃ b, (decide (0 ≤ n) && decide (n ≤ 31)) = b := ⟨_, rfl⟩
  obtain ⟨z, hz⟩ : ∃ z, (n == 0) = z := ⟨_, rfl⟩
  rw [hb] at HW HE
  rw [hz] at HE
  clear hb
  cases there with
  | false =>
    go_enter Tryd.func43, Tryd.ntmps43
    go_wp2
    go_ret
    exact ⟨ret_bool (by rw [HE.out]; simp), rfl⟩
  | true =>
    cases b with
    | true =>
      go_enter Tryd.func43, Tryd.ntmps43
      go_wp2_with (go_at_call 40; refine HW.out.mono ?_; rintro e w1 ⟨rfl, rfl⟩)
      go_ret
      exact ⟨ret_bool (by rw [HE.out]; simp), rfl⟩
    | false =>
      go_enter Tryd.func43, Tryd.ntmps43
      go_wp2_with (go_at_call 40; refine HW.out.mono ?_; rintro e w1 ⟨rfl, rfl⟩)
      go_ret
      exact ⟨ret_bool (by rw [HE.out]; simp), rfl⟩

set_option maxHeartbeats 2000000 in
theorem reaches_any (s n : Int) (w : World) : Calls Tryd.prog 44 #[.int .i64 s, .int .i64 n] w fun e w' => e = .returned (.bool (Rv.reaches s n)) ∧ w = w' := by
  have HW : Hid (∀ lo hi w, Calls Tryd.prog 40 #[.int .i64 n, .int .i64 lo, .int .i64 hi] w fun e w' => e = .returned (.bool (decide (lo ≤ n) && decide (n ≤ hi))) ∧ w = w') := fun lo hi w => within_any n lo hi w
  obtain ⟨z, hz⟩ : ∃ z, (n.tmod 2 == 0) = z := ⟨_, rfl⟩
  have HZ := Lib.hid hz
  by_cases h2 : s = 2
  · subst h2
    go_enter Tryd.func44, Tryd.ntmps44
    go_wp2_with (go_at_call 40; refine (HW.out _ _ _).mono ?_; rintro e w1 ⟨rfl, rfl⟩)
    go_ret
    exact ⟨rfl, rfl⟩
  by_cases h3 : s = 3
  · subst h3
    go_enter Tryd.func44, Tryd.ntmps44
    go_wp2_with (go_at_call 40; refine (HW.out _ _ _).mono ?_; rintro e w1 ⟨rfl, rfl⟩)
    go_ret
    exact ⟨rfl, rfl⟩
  by_cases h6 : s = 6
  · subst h6
    cases z
    all_goals
      go_enter Tryd.func44, Tryd.ntmps44
      go_wp2_with (go_at_call 40; refine (HW.out _ _ _).mono ?_; rintro e w1 ⟨rfl, rfl⟩)
      go_ret
      exact ⟨ret_bool (by unfold Rv.reaches; simp [HZ.out]), rfl⟩
  by_cases h7 : s = 7
  · subst h7
    cases z
    all_goals
      go_enter Tryd.func44, Tryd.ntmps44
      go_wp2_with (go_at_call 40; refine (HW.out _ _ _).mono ?_; rintro e w1 ⟨rfl, rfl⟩)
      go_ret
      exact ⟨ret_bool (by unfold Rv.reaches; simp [HZ.out]), rfl⟩
  · have n2 : (s == 2) = false := by simp [h2]
    have n3 : (s == 3) = false := by simp [h3]
    have n6 : (s == 6) = false := by simp [h6]
    have n7 : (s == 7) = false := by simp [h7]
    have HR : Hid (Rv.reaches s n = (decide (-2048 ≤ n) && decide (n ≤ 2047))) := by show _ = _; unfold Rv.reaches; simp [h2, h3, h6, h7]
    clear h2 h3 h6 h7
    go_enter Tryd.func44, Tryd.ntmps44
    go_wp2_with (go_at_call 40; refine (HW.out _ _ _).mono ?_; rintro e w1 ⟨rfl, rfl⟩)
    go_ret
    exact ⟨ret_bool HR.out.symm, rfl⟩

theorem results_tmp4 {fn : Func} {t u v x : Tmp} (h : fn.results = #[.tmp t, .tmp u, .tmp v, .tmp x]) (tmps : Array Value) (P : Program) (w : World) :
    (results fn tmps).run P w = .ok (.tuple #[tmps.getD t undef, tmps.getD u undef, tmps.getD v undef, tmps.getD x undef]) w := by simp [results, h, go_sem]
set_option maxHeartbeats 4000000 in
theorem rhas_any (op : Nat) (w : World) : Calls Tryd.prog 42 #[.int .i64 (Rv.shapeN op)] w fun e w' => e = .returned (.tuple #[.bool (Rv.hasD (Rv.shapeN op)), .bool (Rv.hasA (Rv.shapeN op)), .bool (Rv.hasB (Rv.shapeN op)), .bool (Rv.hasI (Rv.shapeN op))]) ∧ w = w' := by
  have hs : Rv.shapeN op = 0 ∨ Rv.shapeN op = 1 ∨ Rv.shapeN op = 2 ∨ Rv.shapeN op = 3 ∨ Rv.shapeN op = 4 ∨ Rv.shapeN op = 5 ∨ Rv.shapeN op = 6 ∨ Rv.shapeN op = 7 ∨ Rv.shapeN op = 8 ∨ Rv.shapeN op = 9 := by unfold Rv.shapeN; grind
  obtain ⟨s, e⟩ : ∃ s, Rv.shapeN op = s := ⟨_, rfl⟩
  rw [e] at hs ⊢
  clear e
  rcases hs with rfl | rfl | rfl | rfl | rfl | rfl | rfl | rfl | rfl | rfl
  all_goals
    go_enter Tryd.func42, Tryd.ntmps42
    go_wp2
    (try simp only [Exit.inBlock, Exit.then])
    refine bodyPost_ret (results_tmp4 rfl _ _ _) rfl ?_
    exact ⟨rfl, rfl⟩
end Go.Proofs.YthiaaagoccpkcaaDoor
