/- import Derived.Test.YthfhamagopbgcaaGreatZi -/
import Derived.Test.YthfhamagopbgcaaGreatG07
namespace Go.Proofs.YthfhamagopbgcaaGreat
open Go.RowKit

set_option maxRecDepth 100000 in
set_option maxHeartbeats 4000000 in
theorem shapeOf_14 (f:Fn) (x:Ins) (vp vb:Value) (As Aa At:Option Addr) (cs ca ct:Nat) (w:World) (_hb:0≤x.imm∧x.imm<4294967296∧f.slots.length≤17592186044416∧x.to.length≤17592186044416) (hc:Ir.classOf x.op=14) :
  Calls Tryz.prog 105 #[.agg #[vp,.int .i64 f.ret,.slice As f.slots.length cs,vb],.agg #[.int .i64 x.op,.int .i64 x.width,.int .i64 x.flags,.slice Aa x.args.length ca,.int .u32 x.imm,.slice At x.to.length ct]] w fun e w' =>
   e=.returned (.tuple #[.agg #[.int .i64 (Ir.shapeOf f x).1,.int .i64 (Ir.shapeOf f x).2.1],.bool (Ir.shapeOf f x).2.2])∧Gr w w':=by
 have HK:Hid (∀ w1,Calls Tryz.prog 113 #[.int .i64 x.op] w1 fun e w'=>e=.returned (.int .i64 14)∧w1=w'):=fun w1=>by rw [← hc];exact classOf_any x.op w1
 obtain ⟨iw,hiw⟩:∃ iw,Ref.isWidth x.width=iw:=⟨_,rfl⟩
 have HN:Hid (∀ w1,Calls Tryz.prog 102 #[.int .i64 x.width] w1 fun e w'=>e=.returned (.bool iw)∧w1=w'):=fun w1=>by rw [← hiw];exact isNumber_any x.width w1
 have HS:Hid (Ir.shapeOf f x=((x.to.length:Int),(x.to.length:Int),(iw || (x.width == 33)) && (x.imm == 0) && decide (0<(x.to.length:Int)))):=by show _=_;unfold Ir.shapeOf;simp only [hc,hiw];simp;rfl
 clear hc hiw
 cases iw
 all_goals (obtain ⟨w33,hw33⟩:∃ w33,(x.width == 33)=w33:=⟨_,rfl⟩;cases w33)
 all_goals (obtain ⟨i0,hi0⟩:∃ i0,(x.imm == 0)=i0:=⟨_,rfl⟩;cases i0)
 all_goals (rcases Decidable.em (0<(x.to.length:Int)) with hpto | hpto)
 all_goals go_enter Tryz.func105, Tryz.ntmps105
 all_goals go_wp2_with (first | (go_at_call 113;refine (HK.out _).mono ?_;rintro e w1 ⟨rfl,rfl⟩) | (go_at_call 102;refine (HN.out _).mono ?_;rintro e w1 ⟨rfl,rfl⟩))
 all_goals go_region
 all_goals go_wp2
 all_goals refine bodyPost_ret (by simp [results,Tryz.results105,go_sem, *];rfl) rfl ?_
 all_goals refine ⟨ret_val (by rw [HS.out] <;> first | rfl | (simp [*];done) | grind),?_⟩
 all_goals first | exact ((((Gr.refl w).alloc _).alloc _).alloc _).drew | exact (((Gr.refl w).alloc _).alloc _).alloc _
end Go.Proofs.YthfhamagopbgcaaGreat
