import Derived.Test.YtiadpjhlomhjeaaIrH
namespace Go.Proofs.Ytiadpjhlomhjeaa
open Go.RowKit

/-- What the program's shapeOf answers: how many Args and blocks, and whether Width and Imm are right. -/
def Ir.shapeOf (f : Fn) (x : Ins) : Int × Int × Bool :=
  let c := Ir.classOf x.op
  if c = 1 then (0, 0, Ref.isWidth x.width && decide (x.imm ≤ 2 ^ x.width.toNat - 1))
  else if c = 2 then (2, 0, Ref.isWidth x.width && decide (x.imm = 0))
  else if c = 3 then (2, 0, decide (x.width = 1) && decide (x.imm ≤ 9))
  else if c = 4 then (3, 0, (Ref.isWidth x.width || decide (x.width = 33)) && decide (x.imm = 0))
  else if c = 5 ∨ c = 6 ∨ c = 8 then (1, 0, Ref.isWidth x.width && decide (x.imm = 0))
  else if c = 7 then (2, 0, Ref.isWidth x.width && decide (1 ≤ x.imm) && decide (x.imm < x.width) && decide (x.width % x.imm = 0))
  else if c = 9 then (0, 0, Ref.isWidth x.width && decide (x.imm = 0))
  else if c = 10 then (0, 0, decide (x.width = 33) && decide (x.imm < f.slots.length))
  else if c = 11 then (2, 0, decide (x.width = 33) && decide (x.imm = 0))
  else if c = 12 then (1, 0, Ref.isMem x.width && decide (x.imm = 0))
  else if c = 13 then (2, 0, decide (x.width = 0) && decide (x.imm = 0))
  else if c = 14 then (x.to.length, x.to.length, (Ref.isWidth x.width || decide (x.width = 33)) && decide (x.imm = 0) && decide (0 < x.to.length))
  else if c = 15 then (0, 1, decide (x.width = 0) && decide (x.imm = 0))
  else if c = 16 then (1, 2, decide (x.width = 0) && decide (x.imm = 0) && (decide (x.to.length ≠ 2) || decide (x.to.getD 0 0 ≠ x.to.getD 1 0)))
  else if c = 17 then (if f.ret < 1 then f.ret else 1, 0, decide (x.width = 0) && decide (x.imm = 0))
  else if c = 18 then (0, 0, decide (x.width = 0) && decide (x.imm = 0))
  else (0, 0, false)

theorem Mask_in (n : Nat) (w : World) (h0 : 1 ≤ n) (h1 : n ≤ 32) : Calls Try.prog 87 #[.int .i64 (n : Int)] w fun e w' => e = .returned (.tuple #[.int .u32 (2 ^ n - 1), .int .i64 0]) ∧ w = w' := by
  have C1 := bisWidth_any (n : Int) w
  rw [show Ref.isWidth (n : Int) = true by simp [Ref.isWidth]; omega] at C1
  have HC1 := Lib.hid C1
  have HC2 := Lib.hid (mask_any n w h0 h1)
  obtain ⟨m, hm⟩ : ∃ m : Int, (2 : Int) ^ n - 1 = m := ⟨_, rfl⟩
  rw [hm] at HC2 ⊢
  clear C1 hm
  go_enter Try.func87, Try.ntmps87
  go_wp2_with (first
    | (go_at_call 98; refine HC1.out.mono ?_; rintro e w1 ⟨rfl, rfl⟩)
    | (go_at_call 99; refine HC2.out.mono ?_; rintro e w1 ⟨rfl, rfl⟩))
  go_ret2
  exact ⟨rfl, rfl⟩
theorem Mask_out (n : Int) (w : World) (h : Ref.isWidth n = false) : Calls Try.prog 87 #[.int .i64 n] w fun e w' => e = .returned (.tuple #[.int .u32 0, .int .i64 1]) ∧ w = w' := by
  have C1 := bisWidth_any n w
  rw [h] at C1
  have HC1 := Lib.hid C1
  clear C1
  go_enter Try.func87, Try.ntmps87
  go_wp2_with (first
    | (go_at_call 98; refine HC1.out.mono ?_; rintro e w1 ⟨rfl, rfl⟩))
  go_ret2
  exact ⟨rfl, rfl⟩

end Go.Proofs.Ytiadpjhlomhjeaa
