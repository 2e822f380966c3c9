/- shapeOf, all classes together; isShaped. -/
import Derived.Test.YtiadpjhlomhjeaaGreatIrJ1
import Derived.Test.YtiadpjhlomhjeaaGreatIrJ2
import Derived.Test.YtiadpjhlomhjeaaGreatIrJ3
import Derived.Test.YtiadpjhlomhjeaaGreatIrJ4
import Derived.Test.YtiadpjhlomhjeaaGreatIrJ5
import Derived.Test.YtiadpjhlomhjeaaGreatIrJ6
import Derived.Test.YtiadpjhlomhjeaaGreatIrJ7
import Derived.Test.YtiadpjhlomhjeaaGreatIrJ8
import Derived.Test.YtiadpjhlomhjeaaGreatIrJ9
import Derived.Deep.QuietTactic
import Derived.BigQuiet
namespace Go.Proofs.YtiadpjhlomhjeaaGreat
open Go.RowKit

theorem classOf_range (n : Int) : 0 ≤ Ir.classOf n ∧ Ir.classOf n ≤ 18 := by
  unfold Ir.classOf
  repeat' split
  all_goals omega

theorem shapeOf_any (f : Fn) (x : Ins) (vp vb : Value) (As Aa At : Option Addr) (cs ca ct : Nat) (w : World) (hb : 0 ≤ x.imm ∧ x.imm < 4294967296 ∧ f.slots.length ≤ 17592186044416 ∧ x.to.length ≤ 17592186044416) (hvt : IntsAt w.heap.size w (.slice At x.to.length ct) x.to) :
    Calls Tryz.prog 53 #[.agg #[vp, .int .i64 f.ret, .slice As f.slots.length cs, vb], .agg #[.int .i64 x.op, .int .i64 x.width, .int .i64 x.flags, .slice Aa x.args.length ca, .int .u32 x.imm, .slice At x.to.length ct]] w fun e w' =>
      e = .returned (.tuple #[.agg #[.int .i64 (Ir.shapeOf f x).1, .int .i64 (Ir.shapeOf f x).2.1], .bool (Ir.shapeOf f x).2.2]) ∧ Gr w w' := by
  have hr := classOf_range x.op
  rcases (by omega : Ir.classOf x.op = 0 ∨ Ir.classOf x.op = 1 ∨ Ir.classOf x.op = 2 ∨ Ir.classOf x.op = 3 ∨ Ir.classOf x.op = 4 ∨ Ir.classOf x.op = 5 ∨ Ir.classOf x.op = 6 ∨ Ir.classOf x.op = 7 ∨ Ir.classOf x.op = 8 ∨ Ir.classOf x.op = 9 ∨ Ir.classOf x.op = 10 ∨ Ir.classOf x.op = 11 ∨ Ir.classOf x.op = 12 ∨ Ir.classOf x.op = 13 ∨ Ir.classOf x.op = 14 ∨ Ir.classOf x.op = 15 ∨ Ir.classOf x.op = 16 ∨ Ir.classOf x.op = 17 ∨ Ir.classOf x.op = 18) with h | h | h | h | h | h | h | h | h | h | h | h | h | h | h | h | h | h | h
  · exact shapeOf_0 f x vp vb As Aa At cs ca ct w hb h
  · exact shapeOf_1 f x vp vb As Aa At cs ca ct w hb h
  · exact shapeOf_2 f x vp vb As Aa At cs ca ct w hb h
  · exact shapeOf_3 f x vp vb As Aa At cs ca ct w hb h
  · exact shapeOf_4 f x vp vb As Aa At cs ca ct w hb h
  · exact shapeOf_5 f x vp vb As Aa At cs ca ct w hb h
  · exact shapeOf_6 f x vp vb As Aa At cs ca ct w hb h
  · exact shapeOf_7 f x vp vb As Aa At cs ca ct w hb h
  · exact shapeOf_8 f x vp vb As Aa At cs ca ct w hb h
  · exact shapeOf_9 f x vp vb As Aa At cs ca ct w hb h
  · exact shapeOf_10 f x vp vb As Aa At cs ca ct w hb h
  · exact shapeOf_11 f x vp vb As Aa At cs ca ct w hb h
  · exact shapeOf_12 f x vp vb As Aa At cs ca ct w hb h
  · exact shapeOf_13 f x vp vb As Aa At cs ca ct w hb h
  · exact shapeOf_14 f x vp vb As Aa At cs ca ct w hb h
  · exact shapeOf_15 f x vp vb As Aa At cs ca ct w hb h
  · exact shapeOf_16 f x vp vb As Aa At cs ca ct w hb hvt h
  · exact shapeOf_17 f x vp vb As Aa At cs ca ct w hb h
  · exact shapeOf_18 f x vp vb As Aa At cs ca ct w hb h

/-- A block that is none; the function lies in the variable that is captured. -/
theorem isShaped1_any (n : Int) (B : Nat) (A : Option Addr) (len c : Nat) (w : World) (hc : w.cell? ⟨B, 3, none⟩ = some (.slice A len c)) :
    Calls Tryz.prog 55 #[.int .i64 n, .pointer (some ⟨B, 0, none⟩)] w fun e w' => e = .returned (.bool (Ir.outside len n)) ∧ w = w' := by
  go_enter Tryz.func55, Tryz.ntmps55
  go_wp2
  all_goals go_ret
  all_goals exact ⟨ret_bool (by unfold Ir.outside; grind), rfl⟩
end Go.Proofs.YtiadpjhlomhjeaaGreat
