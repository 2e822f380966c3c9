/- Parts: IrJ5 IrJ1 IrJ2 IrJ3 IrJ4. -/
import Derived.Test.YthfhamagopbgcaaGreatG07
import Derived.Deep.RegionWith
namespace Go.Proofs.YthfhamagopbgcaaGreat
open Go.RowKit

set_option maxRecDepth 100000 in
set_option maxHeartbeats 4000000 in
theorem shapeOf_12 (f:Fn) (x:Ins) (vp vb:Value) (As Aa At:Option Addr) (cs ca ct:Nat) (w:World) (_hb:0≤x.imm∧x.imm<4294967296∧f.slots.length≤17592186044416∧x.to.length≤17592186044416) (hc:Ir.classOf x.op=12) :
  Calls Tryz.prog 105 #[.agg #[vp,.int .i64 f.ret,.slice As f.slots.length cs,vb],.agg #[.int .i64 x.op,.int .i64 x.width,.int .i64 x.flags,.slice Aa x.args.length ca,.int .u32 x.imm,.slice At x.to.length ct]] w fun e w' =>
   e=.returned (.tuple #[.agg #[.int .i64 (Ir.shapeOf f x).1,.int .i64 (Ir.shapeOf f x).2.1],.bool (Ir.shapeOf f x).2.2])∧Gr w w':=by
 have HK:Hid (∀ w1,Calls Tryz.prog 113 #[.int .i64 x.op] w1 fun e w'=>e=.returned (.int .i64 12)∧w1=w'):=fun w1=>by rw [← hc];exact classOf_any x.op w1
 obtain ⟨iw,hiw⟩:∃ iw,Ref.isWidth x.width=iw:=⟨_,rfl⟩
 have HN:Hid (∀ w1,Calls Tryz.prog 102 #[.int .i64 x.width] w1 fun e w'=>e=.returned (.bool iw)∧w1=w'):=fun w1=>by rw [← hiw];exact isNumber_any x.width w1
 obtain ⟨im,him⟩:∃ im,Ref.isMem x.width=im:=⟨_,rfl⟩
 have HM:Hid (∀ w1,Calls Tryz.prog 114 #[.int .i64 x.width] w1 fun e w'=>e=.returned (.bool im)∧w1=w'):=fun w1=>by rw [← him];exact isMemory_any x.width w1
 have HS:Hid (Ir.shapeOf f x=(1,0,im && (x.imm == 0))):=by show _=_;unfold Ir.shapeOf;simp only [hc,him];rfl
 clear hc hiw him
 obtain ⟨i0,hi0⟩:∃ i0,(x.imm == 0)=i0:=⟨_,rfl⟩
 cases i0
 all_goals cases im
 all_goals go_enter Tryz.func105, Tryz.ntmps105
 all_goals go_wp2_with (first | (go_at_call 113;refine (HK.out _).mono ?_;rintro e w1 ⟨rfl,rfl⟩) | (go_at_call 102;refine (HN.out _).mono ?_;rintro e w1 ⟨rfl,rfl⟩))
 all_goals (first | go_region_with (first | (go_at_call 114;refine (HM.out _).mono ?_;rintro e w1 ⟨rfl,rfl⟩)) | fail)
 all_goals go_wp2
 all_goals refine bodyPost_ret (by simp [results,Tryz.results105,go_sem, *];rfl) rfl ?_
 all_goals refine ⟨ret_val (by rw [HS.out] <;> first | rfl | (simp [*];done) | grind),?_⟩
 all_goals first | exact ((((Gr.refl w).alloc _).alloc _).alloc _).drew | exact (((Gr.refl w).alloc _).alloc _).alloc _
end Go.Proofs.YthfhamagopbgcaaGreat
namespace Go.Proofs.YthfhamagopbgcaaGreat
open Go.RowKit

set_option maxRecDepth 100000 in
set_option maxHeartbeats 4000000 in
theorem shapeOf_2 (f:Fn) (x:Ins) (vp vb:Value) (As Aa At:Option Addr) (cs ca ct:Nat) (w:World) (_hb:0≤x.imm∧x.imm<4294967296∧f.slots.length≤17592186044416∧x.to.length≤17592186044416) (hc:Ir.classOf x.op=2) :
  Calls Tryz.prog 105 #[.agg #[vp,.int .i64 f.ret,.slice As f.slots.length cs,vb],.agg #[.int .i64 x.op,.int .i64 x.width,.int .i64 x.flags,.slice Aa x.args.length ca,.int .u32 x.imm,.slice At x.to.length ct]] w fun e w' =>
   e=.returned (.tuple #[.agg #[.int .i64 (Ir.shapeOf f x).1,.int .i64 (Ir.shapeOf f x).2.1],.bool (Ir.shapeOf f x).2.2])∧Gr w w':=by
 have HK:Hid (∀ w1,Calls Tryz.prog 113 #[.int .i64 x.op] w1 fun e w'=>e=.returned (.int .i64 2)∧w1=w'):=fun w1=>by rw [← hc];exact classOf_any x.op w1
 obtain ⟨iw,hiw⟩:∃ iw,Ref.isWidth x.width=iw:=⟨_,rfl⟩
 have HN:Hid (∀ w1,Calls Tryz.prog 102 #[.int .i64 x.width] w1 fun e w'=>e=.returned (.bool iw)∧w1=w'):=fun w1=>by rw [← hiw];exact isNumber_any x.width w1
 have HS:Hid (Ir.shapeOf f x=(2,0,iw && (x.imm == 0))):=by show _=_;unfold Ir.shapeOf;simp only [hc,hiw];rfl
 clear hc hiw
 cases iw
 all_goals (obtain ⟨i0,hi0⟩:∃ i0,(x.imm == 0)=i0:=⟨_,rfl⟩;cases i0)
 all_goals go_enter Tryz.func105, Tryz.ntmps105
 all_goals go_wp2_with (first | (go_at_call 113;refine (HK.out _).mono ?_;rintro e w1 ⟨rfl,rfl⟩) | (go_at_call 102;refine (HN.out _).mono ?_;rintro e w1 ⟨rfl,rfl⟩))
 all_goals go_region
 all_goals go_wp2
 all_goals refine bodyPost_ret (by simp [results,Tryz.results105,go_sem, *];rfl) rfl ?_
 all_goals refine ⟨ret_val (by rw [HS.out];first | rfl | (simp [*];done) | grind),?_⟩
 all_goals first | exact ((((Gr.refl w).alloc _).alloc _).alloc _).drew | exact (((Gr.refl w).alloc _).alloc _).alloc _
set_option maxRecDepth 100000 in
set_option maxHeartbeats 4000000 in
theorem shapeOf_3 (f:Fn) (x:Ins) (vp vb:Value) (As Aa At:Option Addr) (cs ca ct:Nat) (w:World) (_hb:0≤x.imm∧x.imm<4294967296∧f.slots.length≤17592186044416∧x.to.length≤17592186044416) (hc:Ir.classOf x.op=3) :
  Calls Tryz.prog 105 #[.agg #[vp,.int .i64 f.ret,.slice As f.slots.length cs,vb],.agg #[.int .i64 x.op,.int .i64 x.width,.int .i64 x.flags,.slice Aa x.args.length ca,.int .u32 x.imm,.slice At x.to.length ct]] w fun e w' =>
   e=.returned (.tuple #[.agg #[.int .i64 (Ir.shapeOf f x).1,.int .i64 (Ir.shapeOf f x).2.1],.bool (Ir.shapeOf f x).2.2])∧Gr w w':=by
 have HK:Hid (∀ w1,Calls Tryz.prog 113 #[.int .i64 x.op] w1 fun e w'=>e=.returned (.int .i64 3)∧w1=w'):=fun w1=>by rw [← hc];exact classOf_any x.op w1
 obtain ⟨iw,hiw⟩:∃ iw,Ref.isWidth x.width=iw:=⟨_,rfl⟩
 have HN:Hid (∀ w1,Calls Tryz.prog 102 #[.int .i64 x.width] w1 fun e w'=>e=.returned (.bool iw)∧w1=w'):=fun w1=>by rw [← hiw];exact isNumber_any x.width w1
 have HS:Hid (Ir.shapeOf f x=(2,0,(x.width == 1) && decide (x.imm≤9))):=by show _=_;unfold Ir.shapeOf;simp only [hc];rfl
 clear hc hiw
 (obtain ⟨w1,hw1⟩:∃ w1,(x.width == 1)=w1:=⟨_,rfl⟩;cases w1)
 all_goals (rcases Decidable.em (x.imm≤9) with hle9 | hle9)
 all_goals go_enter Tryz.func105, Tryz.ntmps105
 all_goals go_wp2_with (first | (go_at_call 113;refine (HK.out _).mono ?_;rintro e w1 ⟨rfl,rfl⟩) | (go_at_call 102;refine (HN.out _).mono ?_;rintro e w1 ⟨rfl,rfl⟩))
 all_goals go_region
 all_goals go_wp2
 all_goals refine bodyPost_ret (by simp [results,Tryz.results105,go_sem, *];rfl) rfl ?_
 all_goals refine ⟨ret_val (by rw [HS.out];first | rfl | (simp [*];done) | grind),?_⟩
 all_goals first | exact ((((Gr.refl w).alloc _).alloc _).alloc _).drew | exact (((Gr.refl w).alloc _).alloc _).alloc _
end Go.Proofs.YthfhamagopbgcaaGreat
namespace Go.Proofs.YthfhamagopbgcaaGreat
open Go.RowKit

set_option maxRecDepth 100000 in
set_option maxHeartbeats 4000000 in
theorem shapeOf_4 (f:Fn) (x:Ins) (vp vb:Value) (As Aa At:Option Addr) (cs ca ct:Nat) (w:World) (_hb:0≤x.imm∧x.imm<4294967296∧f.slots.length≤17592186044416∧x.to.length≤17592186044416) (hc:Ir.classOf x.op=4) :
  Calls Tryz.prog 105 #[.agg #[vp,.int .i64 f.ret,.slice As f.slots.length cs,vb],.agg #[.int .i64 x.op,.int .i64 x.width,.int .i64 x.flags,.slice Aa x.args.length ca,.int .u32 x.imm,.slice At x.to.length ct]] w fun e w' =>
   e=.returned (.tuple #[.agg #[.int .i64 (Ir.shapeOf f x).1,.int .i64 (Ir.shapeOf f x).2.1],.bool (Ir.shapeOf f x).2.2])∧Gr w w':=by
 have HK:Hid (∀ w1,Calls Tryz.prog 113 #[.int .i64 x.op] w1 fun e w'=>e=.returned (.int .i64 4)∧w1=w'):=fun w1=>by rw [← hc];exact classOf_any x.op w1
 obtain ⟨iw,hiw⟩:∃ iw,Ref.isWidth x.width=iw:=⟨_,rfl⟩
 have HN:Hid (∀ w1,Calls Tryz.prog 102 #[.int .i64 x.width] w1 fun e w'=>e=.returned (.bool iw)∧w1=w'):=fun w1=>by rw [← hiw];exact isNumber_any x.width w1
 have HS:Hid (Ir.shapeOf f x=(3,0,(iw || (x.width == 33)) && (x.imm == 0))):=by show _=_;unfold Ir.shapeOf;simp only [hc,hiw];rfl
 clear hc hiw
 cases iw
 all_goals (obtain ⟨w33,hw33⟩:∃ w33,(x.width == 33)=w33:=⟨_,rfl⟩;cases w33)
 all_goals (obtain ⟨i0,hi0⟩:∃ i0,(x.imm == 0)=i0:=⟨_,rfl⟩;cases i0)
 all_goals go_enter Tryz.func105, Tryz.ntmps105
 all_goals go_wp2_with (first | (go_at_call 113;refine (HK.out _).mono ?_;rintro e w1 ⟨rfl,rfl⟩) | (go_at_call 102;refine (HN.out _).mono ?_;rintro e w1 ⟨rfl,rfl⟩))
 all_goals go_region
 all_goals go_wp2
 all_goals refine bodyPost_ret (by simp [results,Tryz.results105,go_sem, *];rfl) rfl ?_
 all_goals refine ⟨ret_val (by rw [HS.out];first | rfl | (simp [*];done) | grind),?_⟩
 all_goals first | exact ((((Gr.refl w).alloc _).alloc _).alloc _).drew | exact (((Gr.refl w).alloc _).alloc _).alloc _
set_option maxRecDepth 100000 in
set_option maxHeartbeats 4000000 in
theorem shapeOf_5 (f:Fn) (x:Ins) (vp vb:Value) (As Aa At:Option Addr) (cs ca ct:Nat) (w:World) (_hb:0≤x.imm∧x.imm<4294967296∧f.slots.length≤17592186044416∧x.to.length≤17592186044416) (hc:Ir.classOf x.op=5) :
  Calls Tryz.prog 105 #[.agg #[vp,.int .i64 f.ret,.slice As f.slots.length cs,vb],.agg #[.int .i64 x.op,.int .i64 x.width,.int .i64 x.flags,.slice Aa x.args.length ca,.int .u32 x.imm,.slice At x.to.length ct]] w fun e w' =>
   e=.returned (.tuple #[.agg #[.int .i64 (Ir.shapeOf f x).1,.int .i64 (Ir.shapeOf f x).2.1],.bool (Ir.shapeOf f x).2.2])∧Gr w w':=by
 have HK:Hid (∀ w1,Calls Tryz.prog 113 #[.int .i64 x.op] w1 fun e w'=>e=.returned (.int .i64 5)∧w1=w'):=fun w1=>by rw [← hc];exact classOf_any x.op w1
 obtain ⟨iw,hiw⟩:∃ iw,Ref.isWidth x.width=iw:=⟨_,rfl⟩
 have HN:Hid (∀ w1,Calls Tryz.prog 102 #[.int .i64 x.width] w1 fun e w'=>e=.returned (.bool iw)∧w1=w'):=fun w1=>by rw [← hiw];exact isNumber_any x.width w1
 have HS:Hid (Ir.shapeOf f x=(1,0,iw && (x.imm == 0))):=by show _=_;unfold Ir.shapeOf;simp only [hc,hiw];rfl
 clear hc hiw
 cases iw
 all_goals (obtain ⟨i0,hi0⟩:∃ i0,(x.imm == 0)=i0:=⟨_,rfl⟩;cases i0)
 all_goals go_enter Tryz.func105, Tryz.ntmps105
 all_goals go_wp2_with (first | (go_at_call 113;refine (HK.out _).mono ?_;rintro e w1 ⟨rfl,rfl⟩) | (go_at_call 102;refine (HN.out _).mono ?_;rintro e w1 ⟨rfl,rfl⟩))
 all_goals go_region
 all_goals go_wp2
 all_goals refine bodyPost_ret (by simp [results,Tryz.results105,go_sem, *];rfl) rfl ?_
 all_goals refine ⟨ret_val (by rw [HS.out];first | rfl | (simp [*];done) | grind),?_⟩
 all_goals first | exact ((((Gr.refl w).alloc _).alloc _).alloc _).drew | exact (((Gr.refl w).alloc _).alloc _).alloc _
set_option maxRecDepth 100000 in
set_option maxHeartbeats 4000000 in
theorem shapeOf_6 (f:Fn) (x:Ins) (vp vb:Value) (As Aa At:Option Addr) (cs ca ct:Nat) (w:World) (_hb:0≤x.imm∧x.imm<4294967296∧f.slots.length≤17592186044416∧x.to.length≤17592186044416) (hc:Ir.classOf x.op=6) :
  Calls Tryz.prog 105 #[.agg #[vp,.int .i64 f.ret,.slice As f.slots.length cs,vb],.agg #[.int .i64 x.op,.int .i64 x.width,.int .i64 x.flags,.slice Aa x.args.length ca,.int .u32 x.imm,.slice At x.to.length ct]] w fun e w' =>
   e=.returned (.tuple #[.agg #[.int .i64 (Ir.shapeOf f x).1,.int .i64 (Ir.shapeOf f x).2.1],.bool (Ir.shapeOf f x).2.2])∧Gr w w':=by
 have HK:Hid (∀ w1,Calls Tryz.prog 113 #[.int .i64 x.op] w1 fun e w'=>e=.returned (.int .i64 6)∧w1=w'):=fun w1=>by rw [← hc];exact classOf_any x.op w1
 obtain ⟨iw,hiw⟩:∃ iw,Ref.isWidth x.width=iw:=⟨_,rfl⟩
 have HN:Hid (∀ w1,Calls Tryz.prog 102 #[.int .i64 x.width] w1 fun e w'=>e=.returned (.bool iw)∧w1=w'):=fun w1=>by rw [← hiw];exact isNumber_any x.width w1
 have HS:Hid (Ir.shapeOf f x=(1,0,iw && (x.imm == 0))):=by show _=_;unfold Ir.shapeOf;simp only [hc,hiw];rfl
 clear hc hiw
 cases iw
 all_goals (obtain ⟨i0,hi0⟩:∃ i0,(x.imm == 0)=i0:=⟨_,rfl⟩;cases i0)
 all_goals go_enter Tryz.func105, Tryz.ntmps105
 all_goals go_wp2_with (first | (go_at_call 113;refine (HK.out _).mono ?_;rintro e w1 ⟨rfl,rfl⟩) | (go_at_call 102;refine (HN.out _).mono ?_;rintro e w1 ⟨rfl,rfl⟩))
 all_goals go_region
 all_goals go_wp2
 all_goals refine bodyPost_ret (by simp [results,Tryz.results105,go_sem, *];rfl) rfl ?_
 all_goals refine ⟨ret_val (by rw [HS.out];first | rfl | (simp [*];done) | grind),?_⟩
 all_goals first | exact ((((Gr.refl w).alloc _).alloc _).alloc _).drew | exact (((Gr.refl w).alloc _).alloc _).alloc _
set_option maxRecDepth 100000 in
set_option maxHeartbeats 4000000 in
theorem shapeOf_8 (f:Fn) (x:Ins) (vp vb:Value) (As Aa At:Option Addr) (cs ca ct:Nat) (w:World) (_hb:0≤x.imm∧x.imm<4294967296∧f.slots.length≤17592186044416∧x.to.length≤17592186044416) (hc:Ir.classOf x.op=8) :
  Calls Tryz.prog 105 #[.agg #[vp,.int .i64 f.ret,.slice As f.slots.length cs,vb],.agg #[.int .i64 x.op,.int .i64 x.width,.int .i64 x.flags,.slice Aa x.args.length ca,.int .u32 x.imm,.slice At x.to.length ct]] w fun e w' =>
   e=.returned (.tuple #[.agg #[.int .i64 (Ir.shapeOf f x).1,.int .i64 (Ir.shapeOf f x).2.1],.bool (Ir.shapeOf f x).2.2])∧Gr w w':=by
 have HK:Hid (∀ w1,Calls Tryz.prog 113 #[.int .i64 x.op] w1 fun e w'=>e=.returned (.int .i64 8)∧w1=w'):=fun w1=>by rw [← hc];exact classOf_any x.op w1
 obtain ⟨iw,hiw⟩:∃ iw,Ref.isWidth x.width=iw:=⟨_,rfl⟩
 have HN:Hid (∀ w1,Calls Tryz.prog 102 #[.int .i64 x.width] w1 fun e w'=>e=.returned (.bool iw)∧w1=w'):=fun w1=>by rw [← hiw];exact isNumber_any x.width w1
 have HS:Hid (Ir.shapeOf f x=(1,0,iw && (x.imm == 0))):=by show _=_;unfold Ir.shapeOf;simp only [hc,hiw];rfl
 clear hc hiw
 cases iw
 all_goals (obtain ⟨i0,hi0⟩:∃ i0,(x.imm == 0)=i0:=⟨_,rfl⟩;cases i0)
 all_goals go_enter Tryz.func105, Tryz.ntmps105
 all_goals go_wp2_with (first | (go_at_call 113;refine (HK.out _).mono ?_;rintro e w1 ⟨rfl,rfl⟩) | (go_at_call 102;refine (HN.out _).mono ?_;rintro e w1 ⟨rfl,rfl⟩))
 all_goals go_region
 all_goals go_wp2
 all_goals refine bodyPost_ret (by simp [results,Tryz.results105,go_sem, *];rfl) rfl ?_
 all_goals refine ⟨ret_val (by rw [HS.out];first | rfl | (simp [*];done) | grind),?_⟩
 all_goals first | exact ((((Gr.refl w).alloc _).alloc _).alloc _).drew | exact (((Gr.refl w).alloc _).alloc _).alloc _
end Go.Proofs.YthfhamagopbgcaaGreat
namespace Go.Proofs.YthfhamagopbgcaaGreat
open Go.RowKit

set_option maxRecDepth 100000 in
set_option maxHeartbeats 4000000 in
theorem shapeOf_9 (f:Fn) (x:Ins) (vp vb:Value) (As Aa At:Option Addr) (cs ca ct:Nat) (w:World) (_hb:0≤x.imm∧x.imm<4294967296∧f.slots.length≤17592186044416∧x.to.length≤17592186044416) (hc:Ir.classOf x.op=9) :
  Calls Tryz.prog 105 #[.agg #[vp,.int .i64 f.ret,.slice As f.slots.length cs,vb],.agg #[.int .i64 x.op,.int .i64 x.width,.int .i64 x.flags,.slice Aa x.args.length ca,.int .u32 x.imm,.slice At x.to.length ct]] w fun e w' =>
   e=.returned (.tuple #[.agg #[.int .i64 (Ir.shapeOf f x).1,.int .i64 (Ir.shapeOf f x).2.1],.bool (Ir.shapeOf f x).2.2])∧Gr w w':=by
 have HK:Hid (∀ w1,Calls Tryz.prog 113 #[.int .i64 x.op] w1 fun e w'=>e=.returned (.int .i64 9)∧w1=w'):=fun w1=>by rw [← hc];exact classOf_any x.op w1
 obtain ⟨iw,hiw⟩:∃ iw,Ref.isWidth x.width=iw:=⟨_,rfl⟩
 have HN:Hid (∀ w1,Calls Tryz.prog 102 #[.int .i64 x.width] w1 fun e w'=>e=.returned (.bool iw)∧w1=w'):=fun w1=>by rw [← hiw];exact isNumber_any x.width w1
 have HS:Hid (Ir.shapeOf f x=(0,0,iw && (x.imm == 0))):=by show _=_;unfold Ir.shapeOf;simp only [hc,hiw];rfl
 clear hc hiw
 cases iw
 all_goals (obtain ⟨i0,hi0⟩:∃ i0,(x.imm == 0)=i0:=⟨_,rfl⟩;cases i0)
 all_goals go_enter Tryz.func105, Tryz.ntmps105
 all_goals go_wp2_with (first | (go_at_call 113;refine (HK.out _).mono ?_;rintro e w1 ⟨rfl,rfl⟩) | (go_at_call 102;refine (HN.out _).mono ?_;rintro e w1 ⟨rfl,rfl⟩))
 all_goals go_region
 all_goals go_wp2
 all_goals refine bodyPost_ret (by simp [results,Tryz.results105,go_sem, *];rfl) rfl ?_
 all_goals refine ⟨ret_val (by rw [HS.out];first | rfl | (simp [*];done) | grind),?_⟩
 all_goals first | exact ((((Gr.refl w).alloc _).alloc _).alloc _).drew | exact (((Gr.refl w).alloc _).alloc _).alloc _
set_option maxRecDepth 100000 in
set_option maxHeartbeats 4000000 in
theorem shapeOf_10 (f:Fn) (x:Ins) (vp vb:Value) (As Aa At:Option Addr) (cs ca ct:Nat) (w:World) (_hb:0≤x.imm∧x.imm<4294967296∧f.slots.length≤17592186044416∧x.to.length≤17592186044416) (hc:Ir.classOf x.op=10) :
  Calls Tryz.prog 105 #[.agg #[vp,.int .i64 f.ret,.slice As f.slots.length cs,vb],.agg #[.int .i64 x.op,.int .i64 x.width,.int .i64 x.flags,.slice Aa x.args.length ca,.int .u32 x.imm,.slice At x.to.length ct]] w fun e w' =>
   e=.returned (.tuple #[.agg #[.int .i64 (Ir.shapeOf f x).1,.int .i64 (Ir.shapeOf f x).2.1],.bool (Ir.shapeOf f x).2.2])∧Gr w w':=by
 have HK:Hid (∀ w1,Calls Tryz.prog 113 #[.int .i64 x.op] w1 fun e w'=>e=.returned (.int .i64 10)∧w1=w'):=fun w1=>by rw [← hc];exact classOf_any x.op w1
 obtain ⟨iw,hiw⟩:∃ iw,Ref.isWidth x.width=iw:=⟨_,rfl⟩
 have HN:Hid (∀ w1,Calls Tryz.prog 102 #[.int .i64 x.width] w1 fun e w'=>e=.returned (.bool iw)∧w1=w'):=fun w1=>by rw [← hiw];exact isNumber_any x.width w1
 have HS:Hid (Ir.shapeOf f x=(0,0,(x.width == 33) && decide (x.imm<f.slots.length))):=by show _=_;unfold Ir.shapeOf;simp only [hc];rfl
 clear hc hiw
 (obtain ⟨w33,hw33⟩:∃ w33,(x.width == 33)=w33:=⟨_,rfl⟩;cases w33)
 all_goals (rcases Decidable.em (x.imm<(f.slots.length:Int)) with hlts | hlts)
 all_goals go_enter Tryz.func105, Tryz.ntmps105
 all_goals go_wp2_with (first | (go_at_call 113;refine (HK.out _).mono ?_;rintro e w1 ⟨rfl,rfl⟩) | (go_at_call 102;refine (HN.out _).mono ?_;rintro e w1 ⟨rfl,rfl⟩))
 all_goals go_region
 all_goals go_wp2
 all_goals refine bodyPost_ret (by simp [results,Tryz.results105,go_sem, *];rfl) rfl ?_
 all_goals refine ⟨ret_val (by rw [HS.out];first | rfl | (simp [*];done) | grind),?_⟩
 all_goals first | exact ((((Gr.refl w).alloc _).alloc _).alloc _).drew | exact (((Gr.refl w).alloc _).alloc _).alloc _
set_option maxRecDepth 100000 in
set_option maxHeartbeats 4000000 in
theorem shapeOf_11 (f:Fn) (x:Ins) (vp vb:Value) (As Aa At:Option Addr) (cs ca ct:Nat) (w:World) (_hb:0≤x.imm∧x.imm<4294967296∧f.slots.length≤17592186044416∧x.to.length≤17592186044416) (hc:Ir.classOf x.op=11) :
  Calls Tryz.prog 105 #[.agg #[vp,.int .i64 f.ret,.slice As f.slots.length cs,vb],.agg #[.int .i64 x.op,.int .i64 x.width,.int .i64 x.flags,.slice Aa x.args.length ca,.int .u32 x.imm,.slice At x.to.length ct]] w fun e w' =>
   e=.returned (.tuple #[.agg #[.int .i64 (Ir.shapeOf f x).1,.int .i64 (Ir.shapeOf f x).2.1],.bool (Ir.shapeOf f x).2.2])∧Gr w w':=by
 have HK:Hid (∀ w1,Calls Tryz.prog 113 #[.int .i64 x.op] w1 fun e w'=>e=.returned (.int .i64 11)∧w1=w'):=fun w1=>by rw [← hc];exact classOf_any x.op w1
 obtain ⟨iw,hiw⟩:∃ iw,Ref.isWidth x.width=iw:=⟨_,rfl⟩
 have HN:Hid (∀ w1,Calls Tryz.prog 102 #[.int .i64 x.width] w1 fun e w'=>e=.returned (.bool iw)∧w1=w'):=fun w1=>by rw [← hiw];exact isNumber_any x.width w1
 have HS:Hid (Ir.shapeOf f x=(2,0,(x.width == 33) && (x.imm == 0))):=by show _=_;unfold Ir.shapeOf;simp only [hc];rfl
 clear hc hiw
 (obtain ⟨w33,hw33⟩:∃ w33,(x.width == 33)=w33:=⟨_,rfl⟩;cases w33)
 all_goals (obtain ⟨i0,hi0⟩:∃ i0,(x.imm == 0)=i0:=⟨_,rfl⟩;cases i0)
 all_goals go_enter Tryz.func105, Tryz.ntmps105
 all_goals go_wp2_with (first | (go_at_call 113;refine (HK.out _).mono ?_;rintro e w1 ⟨rfl,rfl⟩) | (go_at_call 102;refine (HN.out _).mono ?_;rintro e w1 ⟨rfl,rfl⟩))
 all_goals go_region
 all_goals go_wp2
 all_goals refine bodyPost_ret (by simp [results,Tryz.results105,go_sem, *];rfl) rfl ?_
 all_goals refine ⟨ret_val (by rw [HS.out];first | rfl | (simp [*];done) | grind),?_⟩
 all_goals first | exact ((((Gr.refl w).alloc _).alloc _).alloc _).drew | exact (((Gr.refl w).alloc _).alloc _).alloc _
set_option maxRecDepth 100000 in
set_option maxHeartbeats 4000000 in
theorem shapeOf_13 (f:Fn) (x:Ins) (vp vb:Value) (As Aa At:Option Addr) (cs ca ct:Nat) (w:World) (_hb:0≤x.imm∧x.imm<4294967296∧f.slots.length≤17592186044416∧x.to.length≤17592186044416) (hc:Ir.classOf x.op=13) :
  Calls Tryz.prog 105 #[.agg #[vp,.int .i64 f.ret,.slice As f.slots.length cs,vb],.agg #[.int .i64 x.op,.int .i64 x.width,.int .i64 x.flags,.slice Aa x.args.length ca,.int .u32 x.imm,.slice At x.to.length ct]] w fun e w' =>
   e=.returned (.tuple #[.agg #[.int .i64 (Ir.shapeOf f x).1,.int .i64 (Ir.shapeOf f x).2.1],.bool (Ir.shapeOf f x).2.2])∧Gr w w':=by
 have HK:Hid (∀ w1,Calls Tryz.prog 113 #[.int .i64 x.op] w1 fun e w'=>e=.returned (.int .i64 13)∧w1=w'):=fun w1=>by rw [← hc];exact classOf_any x.op w1
 obtain ⟨iw,hiw⟩:∃ iw,Ref.isWidth x.width=iw:=⟨_,rfl⟩
 have HN:Hid (∀ w1,Calls Tryz.prog 102 #[.int .i64 x.width] w1 fun e w'=>e=.returned (.bool iw)∧w1=w'):=fun w1=>by rw [← hiw];exact isNumber_any x.width w1
 have HS:Hid (Ir.shapeOf f x=(2,0,(x.width == 0) && (x.imm == 0))):=by show _=_;unfold Ir.shapeOf;simp only [hc];rfl
 clear hc hiw
 (obtain ⟨w0,hw0⟩:∃ w0,(x.width == 0)=w0:=⟨_,rfl⟩;cases w0)
 all_goals (obtain ⟨i0,hi0⟩:∃ i0,(x.imm == 0)=i0:=⟨_,rfl⟩;cases i0)
 all_goals go_enter Tryz.func105, Tryz.ntmps105
 all_goals go_wp2_with (first | (go_at_call 113;refine (HK.out _).mono ?_;rintro e w1 ⟨rfl,rfl⟩) | (go_at_call 102;refine (HN.out _).mono ?_;rintro e w1 ⟨rfl,rfl⟩))
 all_goals go_region
 all_goals go_wp2
 all_goals refine bodyPost_ret (by simp [results,Tryz.results105,go_sem, *];rfl) rfl ?_
 all_goals refine ⟨ret_val (by rw [HS.out];first | rfl | (simp [*];done) | grind),?_⟩
 all_goals first | exact ((((Gr.refl w).alloc _).alloc _).alloc _).drew | exact (((Gr.refl w).alloc _).alloc _).alloc _
end Go.Proofs.YthfhamagopbgcaaGreat
namespace Go.Proofs.YthfhamagopbgcaaGreat
open Go.RowKit

set_option maxRecDepth 100000 in
set_option maxHeartbeats 4000000 in
theorem shapeOf_15 (f:Fn) (x:Ins) (vp vb:Value) (As Aa At:Option Addr) (cs ca ct:Nat) (w:World) (_hb:0≤x.imm∧x.imm<4294967296∧f.slots.length≤17592186044416∧x.to.length≤17592186044416) (hc:Ir.classOf x.op=15) :
  Calls Tryz.prog 105 #[.agg #[vp,.int .i64 f.ret,.slice As f.slots.length cs,vb],.agg #[.int .i64 x.op,.int .i64 x.width,.int .i64 x.flags,.slice Aa x.args.length ca,.int .u32 x.imm,.slice At x.to.length ct]] w fun e w' =>
   e=.returned (.tuple #[.agg #[.int .i64 (Ir.shapeOf f x).1,.int .i64 (Ir.shapeOf f x).2.1],.bool (Ir.shapeOf f x).2.2])∧Gr w w':=by
 have HK:Hid (∀ w1,Calls Tryz.prog 113 #[.int .i64 x.op] w1 fun e w'=>e=.returned (.int .i64 15)∧w1=w'):=fun w1=>by rw [← hc];exact classOf_any x.op w1
 obtain ⟨iw,hiw⟩:∃ iw,Ref.isWidth x.width=iw:=⟨_,rfl⟩
 have HN:Hid (∀ w1,Calls Tryz.prog 102 #[.int .i64 x.width] w1 fun e w'=>e=.returned (.bool iw)∧w1=w'):=fun w1=>by rw [← hiw];exact isNumber_any x.width w1
 have HS:Hid (Ir.shapeOf f x=(0,1,(x.width == 0) && (x.imm == 0))):=by show _=_;unfold Ir.shapeOf;simp only [hc];rfl
 clear hc hiw
 (obtain ⟨w0,hw0⟩:∃ w0,(x.width == 0)=w0:=⟨_,rfl⟩;cases w0)
 all_goals (obtain ⟨i0,hi0⟩:∃ i0,(x.imm == 0)=i0:=⟨_,rfl⟩;cases i0)
 all_goals go_enter Tryz.func105, Tryz.ntmps105
 all_goals go_wp2_with (first | (go_at_call 113;refine (HK.out _).mono ?_;rintro e w1 ⟨rfl,rfl⟩) | (go_at_call 102;refine (HN.out _).mono ?_;rintro e w1 ⟨rfl,rfl⟩))
 all_goals go_region
 all_goals go_wp2
 all_goals refine bodyPost_ret (by simp [results,Tryz.results105,go_sem, *];rfl) rfl ?_
 all_goals refine ⟨ret_val (by rw [HS.out] <;> first | rfl | (simp [*];done) | grind),?_⟩
 all_goals first | exact ((((Gr.refl w).alloc _).alloc _).alloc _).drew | exact (((Gr.refl w).alloc _).alloc _).alloc _
set_option maxRecDepth 100000 in
set_option maxHeartbeats 4000000 in
theorem shapeOf_17 (f:Fn) (x:Ins) (vp vb:Value) (As Aa At:Option Addr) (cs ca ct:Nat) (w:World) (_hb:0≤x.imm∧x.imm<4294967296∧f.slots.length≤17592186044416∧x.to.length≤17592186044416) (hc:Ir.classOf x.op=17) :
  Calls Tryz.prog 105 #[.agg #[vp,.int .i64 f.ret,.slice As f.slots.length cs,vb],.agg #[.int .i64 x.op,.int .i64 x.width,.int .i64 x.flags,.slice Aa x.args.length ca,.int .u32 x.imm,.slice At x.to.length ct]] w fun e w' =>
   e=.returned (.tuple #[.agg #[.int .i64 (Ir.shapeOf f x).1,.int .i64 (Ir.shapeOf f x).2.1],.bool (Ir.shapeOf f x).2.2])∧Gr w w':=by
 have HK:Hid (∀ w1,Calls Tryz.prog 113 #[.int .i64 x.op] w1 fun e w'=>e=.returned (.int .i64 17)∧w1=w'):=fun w1=>by rw [← hc];exact classOf_any x.op w1
 obtain ⟨iw,hiw⟩:∃ iw,Ref.isWidth x.width=iw:=⟨_,rfl⟩
 have HN:Hid (∀ w1,Calls Tryz.prog 102 #[.int .i64 x.width] w1 fun e w'=>e=.returned (.bool iw)∧w1=w'):=fun w1=>by rw [← hiw];exact isNumber_any x.width w1
 have HS:Hid (Ir.shapeOf f x=(if f.ret<1 then f.ret else 1,0,(x.width == 0) && (x.imm == 0))):=by show _=_;unfold Ir.shapeOf;simp only [hc];rfl
 clear hc hiw
 (obtain ⟨w0,hw0⟩:∃ w0,(x.width == 0)=w0:=⟨_,rfl⟩;cases w0)
 all_goals (obtain ⟨i0,hi0⟩:∃ i0,(x.imm == 0)=i0:=⟨_,rfl⟩;cases i0)
 all_goals (rcases Decidable.em (f.ret<1) with hret | hret)
 all_goals go_enter Tryz.func105, Tryz.ntmps105
 all_goals go_wp2_with (first | (go_at_call 113;refine (HK.out _).mono ?_;rintro e w1 ⟨rfl,rfl⟩) | (go_at_call 102;refine (HN.out _).mono ?_;rintro e w1 ⟨rfl,rfl⟩))
 all_goals go_region
 all_goals go_wp2
 all_goals refine bodyPost_ret (by simp [results,Tryz.results105,go_sem, *];rfl) rfl ?_
 all_goals refine ⟨ret_val (by rw [HS.out] <;> first | rfl | (simp [*];done) | grind),?_⟩
 all_goals first | exact ((((Gr.refl w).alloc _).alloc _).alloc _).drew | exact (((Gr.refl w).alloc _).alloc _).alloc _
set_option maxRecDepth 100000 in
set_option maxHeartbeats 4000000 in
theorem shapeOf_18 (f:Fn) (x:Ins) (vp vb:Value) (As Aa At:Option Addr) (cs ca ct:Nat) (w:World) (_hb:0≤x.imm∧x.imm<4294967296∧f.slots.length≤17592186044416∧x.to.length≤17592186044416) (hc:Ir.classOf x.op=18) :
  Calls Tryz.prog 105 #[.agg #[vp,.int .i64 f.ret,.slice As f.slots.length cs,vb],.agg #[.int .i64 x.op,.int .i64 x.width,.int .i64 x.flags,.slice Aa x.args.length ca,.int .u32 x.imm,.slice At x.to.length ct]] w fun e w' =>
   e=.returned (.tuple #[.agg #[.int .i64 (Ir.shapeOf f x).1,.int .i64 (Ir.shapeOf f x).2.1],.bool (Ir.shapeOf f x).2.2])∧Gr w w':=by
 have HK:Hid (∀ w1,Calls Tryz.prog 113 #[.int .i64 x.op] w1 fun e w'=>e=.returned (.int .i64 18)∧w1=w'):=fun w1=>by rw [← hc];exact classOf_any x.op w1
 obtain ⟨iw,hiw⟩:∃ iw,Ref.isWidth x.width=iw:=⟨_,rfl⟩
 have HN:Hid (∀ w1,Calls Tryz.prog 102 #[.int .i64 x.width] w1 fun e w'=>e=.returned (.bool iw)∧w1=w'):=fun w1=>by rw [← hiw];exact isNumber_any x.width w1
 have HS:Hid (Ir.shapeOf f x=(0,0,(x.width == 0) && (x.imm == 0))):=by show _=_;unfold Ir.shapeOf;simp only [hc];rfl
 clear hc hiw
 (obtain ⟨w0,hw0⟩:∃ w0,(x.width == 0)=w0:=⟨_,rfl⟩;cases w0)
 all_goals (obtain ⟨i0,hi0⟩:∃ i0,(x.imm == 0)=i0:=⟨_,rfl⟩;cases i0)
 all_goals go_enter Tryz.func105, Tryz.ntmps105
 all_goals go_wp2_with (first | (go_at_call 113;refine (HK.out _).mono ?_;rintro e w1 ⟨rfl,rfl⟩) | (go_at_call 102;refine (HN.out _).mono ?_;rintro e w1 ⟨rfl,rfl⟩))
 all_goals go_region
 all_goals go_wp2
 all_goals refine bodyPost_ret (by simp [results,Tryz.results105,go_sem, *];rfl) rfl ?_
 all_goals refine ⟨ret_val (by rw [HS.out] <;> first | rfl | (simp [*];done) | grind),?_⟩
 all_goals first | exact ((((Gr.refl w).alloc _).alloc _).alloc _).drew | exact (((Gr.refl w).alloc _).alloc _).alloc _
set_option maxRecDepth 100000 in
set_option maxHeartbeats 4000000 in
theorem shapeOf_0 (f:Fn) (x:Ins) (vp vb:Value) (As Aa At:Option Addr) (cs ca ct:Nat) (w:World) (_hb:0≤x.imm∧x.imm<4294967296∧f.slots.length≤17592186044416∧x.to.length≤17592186044416) (hc:Ir.classOf x.op=0) :
  Calls Tryz.prog 105 #[.agg #[vp,.int .i64 f.ret,.slice As f.slots.length cs,vb],.agg #[.int .i64 x.op,.int .i64 x.width,.int .i64 x.flags,.slice Aa x.args.length ca,.int .u32 x.imm,.slice At x.to.length ct]] w fun e w' =>
   e=.returned (.tuple #[.agg #[.int .i64 (Ir.shapeOf f x).1,.int .i64 (Ir.shapeOf f x).2.1],.bool (Ir.shapeOf f x).2.2])∧Gr w w':=by
 have HK:Hid (∀ w1,Calls Tryz.prog 113 #[.int .i64 x.op] w1 fun e w'=>e=.returned (.int .i64 0)∧w1=w'):=fun w1=>by rw [← hc];exact classOf_any x.op w1
 obtain ⟨iw,hiw⟩:∃ iw,Ref.isWidth x.width=iw:=⟨_,rfl⟩
 have HN:Hid (∀ w1,Calls Tryz.prog 102 #[.int .i64 x.width] w1 fun e w'=>e=.returned (.bool iw)∧w1=w'):=fun w1=>by rw [← hiw];exact isNumber_any x.width w1
 have HS:Hid (Ir.shapeOf f x=(0,0,false)):=by show _=_;unfold Ir.shapeOf;simp only [hc];rfl
 clear hc hiw
 all_goals go_enter Tryz.func105, Tryz.ntmps105
 all_goals go_wp2_with (first | (go_at_call 113;refine (HK.out _).mono ?_;rintro e w1 ⟨rfl,rfl⟩) | (go_at_call 102;refine (HN.out _).mono ?_;rintro e w1 ⟨rfl,rfl⟩))
 all_goals go_wp2
 all_goals refine bodyPost_ret (by simp [results,Tryz.results105,go_sem, *];rfl) rfl ?_
 all_goals refine ⟨ret_val (by rw [HS.out] <;> first | rfl | (simp [*];done) | grind),?_⟩
 all_goals first | exact ((((Gr.refl w).alloc _).alloc _).alloc _).drew | exact (((Gr.refl w).alloc _).alloc _).alloc _
end Go.Proofs.YthfhamagopbgcaaGreat
