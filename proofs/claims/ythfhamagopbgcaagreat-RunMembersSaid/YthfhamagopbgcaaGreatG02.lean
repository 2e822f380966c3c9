/- import Derived.Test.YthfhamagopbgcaaGreatRefA -/
import Derived.Test.YthfhamagopbgcaaGreatG01
namespace Go.Proofs.YthfhamagopbgcaaGreat
open Go.RowKit

set_option maxRecDepth 100000 in
set_option maxHeartbeats 8000000 in
theorem shape_any (f:Fn) (vp vb vt:Value) (As Aa:Option Addr) (cs ca:Nat) (x:Ins) (w:World) (h1:0≤x.imm) (h2:x.imm<4294967296) :
  Calls Tryz.prog 117 #[.agg #[vp,.int .i64 f.ret,.slice As f.slots.length cs,vb],.agg #[.int .i64 x.op,.int .i64 x.width,.int .i64 x.flags,.slice Aa x.args.length ca,.int .u32 x.imm,vt]] w fun e w' =>
   e=.returned (.agg #[.int .i64 (Ref.shape f x).1,.int .i64 (Ref.shape f x).2.1,.bool (Ref.shape f x).2.2])∧Gr w w':=by
 go_enter Tryz.func117, Tryz.ntmps117
 go_wp2_with (first
   | (go_at_call 73;refine (isWidth_any _ _).mono ?_;rintro e w1 ⟨rfl,rfl⟩)
   | (go_at_call 144;refine (isWordOf_any _ _ _ h1 h2).mono ?_;rintro e w1 ⟨rfl,rfl⟩)
   | (go_at_call 145;refine (plain_any _ _ _ _ _ _ _).mono ?_;rintro e w1 ⟨rfl,g1⟩;have hc:=g1.cell;have hf:=g1.frozen;have hz:=g1.size)
   | (go_at_call 146;refine (arith_any _ _ _ _ _ _ _).mono ?_;rintro e w1 ⟨rfl,g1⟩;have hc:=g1.cell;have hf:=g1.frozen;have hz:=g1.size))
 trace "WALKED"
 all_goals (refine bodyPost_ret (by simp [results,Tryz.results117,go_sem, *];rfl) rfl ?_)
 all_goals refine ⟨ret_val ?_,?_⟩
 all_goals first | (grind [Ref.shape,Ref.plain,Ref.arith]) | (repeat (first | exact Gr.refl _ | assumption | (refine Gr.alloc ?_ _) | (refine Gr.setCell ?_ ?_ _) | (refine Gr.trans ?_ (by assumption))))
 all_goals (simp;omega)
end Go.Proofs.YthfhamagopbgcaaGreat
