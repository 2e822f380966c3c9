/- Parts: IrJ7 IrJ8 IrJ9. -/
import Derived.Test.YthfhamagopbgcaaGreatG07
namespace Go.Proofs.YthfhamagopbgcaaGreat
open Go.RowKit

set_option maxRecDepth 100000 in
set_option maxHeartbeats 4000000 in
theorem shapeOf_1 (f:Fn) (x:Ins) (vp vb:Value) (As Aa At:Option Addr) (cs ca ct:Nat) (w:World) (_hb:0≤x.imm∧x.imm<4294967296∧f.slots.length≤17592186044416∧x.to.length≤17592186044416) (hc:Ir.classOf x.op=1) :
  Calls Tryz.prog 105 #[.agg #[vp,.int .i64 f.ret,.slice As f.slots.length cs,vb],.agg #[.int .i64 x.op,.int .i64 x.width,.int .i64 x.flags,.slice Aa x.args.length ca,.int .u32 x.imm,.slice At x.to.length ct]] w fun e w' =>
   e=.returned (.tuple #[.agg #[.int .i64 (Ir.shapeOf f x).1,.int .i64 (Ir.shapeOf f x).2.1],.bool (Ir.shapeOf f x).2.2])∧Gr w w':=by
 have HK:Hid (∀ w1,Calls Tryz.prog 113 #[.int .i64 x.op] w1 fun e w'=>e=.returned (.int .i64 1)∧w1=w'):=fun w1=>by rw [← hc];exact classOf_any x.op w1
 obtain ⟨iw,hiw⟩:∃ iw,Ref.isWidth x.width=iw:=⟨_,rfl⟩
 have HN:Hid (∀ w1,Calls Tryz.prog 102 #[.int .i64 x.width] w1 fun e w'=>e=.returned (.bool iw)∧w1=w'):=fun w1=>by rw [← hiw];exact isNumber_any x.width w1
 cases iw with
 | true =>
  have hw:1≤x.width∧x.width≤32:=by unfold Ref.isWidth at hiw;simpa using hiw
  obtain ⟨n,hn⟩:=Int.eq_ofNat_of_zero_le (show 0≤x.width by omega)
  have HM:Hid (∀ w1,Calls Tryz.prog 39 #[.int .i64 x.width] w1 fun e w'=>e=.returned (.tuple #[.int .u32 (2 ^ n-1),.int .i64 0])∧w1=w'):=fun w1=>by rw [hn];exact Mask_in n w1 (by omega) (by omega)
  obtain ⟨m,hm⟩:∃ m:Int,(2:Int) ^ n-1=m:=⟨_,rfl⟩
  have HS:Hid (Ir.shapeOf f x=(0,0,decide (x.imm≤m))):=by show _=_;unfold Ir.shapeOf;simp only [hc,hiw];simp [hn,hm]
  rw [hm] at HM
  clear hc hiw hw hn hm
  rcases Decidable.em (x.imm≤m) with hle | hle
  all_goals go_enter Tryz.func105, Tryz.ntmps105
  all_goals go_wp2_with (first | (go_at_call 113;refine (HK.out _).mono ?_;rintro e w1 ⟨rfl,rfl⟩) | (go_at_call 102;refine (HN.out _).mono ?_;rintro e w1 ⟨rfl,rfl⟩) | (go_at_call 39;refine (HM.out _).mono ?_;rintro e w1 ⟨rfl,rfl⟩))
  all_goals go_region
  all_goals go_wp2
  all_goals refine bodyPost_ret (by simp [results,Tryz.results105,go_sem, *];rfl) rfl ?_
  all_goals refine ⟨ret_val (by rw [HS.out] <;> first | rfl | (simp [*];done) | grind),?_⟩
  all_goals first | exact ((((Gr.refl w).alloc _).alloc _).alloc _).drew | exact (((Gr.refl w).alloc _).alloc _).alloc _
 | false =>
  have HM:Hid (∀ w1,Calls Tryz.prog 39 #[.int .i64 x.width] w1 fun e w'=>e=.returned (.tuple #[.int .u32 0,.int .i64 1])∧w1=w'):=fun w1=>Mask_out x.width w1 hiw
  have HS:Hid (Ir.shapeOf f x=(0,0,false)):=by show _=_;unfold Ir.shapeOf;simp only [hc];simp [hiw]
  clear hc hiw
  go_enter Tryz.func105, Tryz.ntmps105
  go_wp2_with (first | (go_at_call 113;refine (HK.out _).mono ?_;rintro e w1 ⟨rfl,rfl⟩) | (go_at_call 102;refine (HN.out _).mono ?_;rintro e w1 ⟨rfl,rfl⟩) | (go_at_call 39;refine (HM.out _).mono ?_;rintro e w1 ⟨rfl,rfl⟩))
  go_region
  all_goals go_wp2
  all_goals refine bodyPost_ret (by simp [results,Tryz.results105,go_sem, *];rfl) rfl ?_
  all_goals refine ⟨ret_val (by rw [HS.out] <;> first | rfl | (simp [*];done) | grind),?_⟩
  all_goals first | exact ((((Gr.refl w).alloc _).alloc _).alloc _).drew | exact (((Gr.refl w).alloc _).alloc _).alloc _

end Go.Proofs.YthfhamagopbgcaaGreat
namespace Go.Proofs.YthfhamagopbgcaaGreat
open Go.RowKit

theorem two_of' (l:List Int) (h:l.length=2):∃ a b,l=[a,b]:=by
 match l,h with
 | [a,b],_=>exact ⟨a,b,rfl⟩

set_option maxRecDepth 100000 in
set_option maxHeartbeats 4000000 in
theorem shapeOf_16 (f:Fn) (x:Ins) (vp vb:Value) (As Aa At:Option Addr) (cs ca ct:Nat) (w:World) (_hb:0≤x.imm∧x.imm<4294967296∧f.slots.length≤17592186044416∧x.to.length≤17592186044416) (hvt:IntsAt w.heap.size w (.slice At x.to.length ct) x.to) (hc:Ir.classOf x.op=16) :
  Calls Tryz.prog 105 #[.agg #[vp,.int .i64 f.ret,.slice As f.slots.length cs,vb],.agg #[.int .i64 x.op,.int .i64 x.width,.int .i64 x.flags,.slice Aa x.args.length ca,.int .u32 x.imm,.slice At x.to.length ct]] w fun e w' =>
   e=.returned (.tuple #[.agg #[.int .i64 (Ir.shapeOf f x).1,.int .i64 (Ir.shapeOf f x).2.1],.bool (Ir.shapeOf f x).2.2])∧Gr w w':=by
 have HK:Hid (∀ w1,Calls Tryz.prog 113 #[.int .i64 x.op] w1 fun e w'=>e=.returned (.int .i64 16)∧w1=w'):=fun w1=>by rw [← hc];exact classOf_any x.op w1
 obtain ⟨iw,hiw⟩:∃ iw,Ref.isWidth x.width=iw:=⟨_,rfl⟩
 have HN:Hid (∀ w1,Calls Tryz.prog 102 #[.int .i64 x.width] w1 fun e w'=>e=.returned (.bool iw)∧w1=w'):=fun w1=>by rw [← hiw];exact isNumber_any x.width w1
 have HS:Hid (Ir.shapeOf f x=(1,2,(x.width == 0) && (x.imm == 0) && (decide (x.to.length≠2) || decide (x.to.getD 0 0≠x.to.getD 1 0)))):=by show _=_;unfold Ir.shapeOf;simp only [hc];rfl
 clear hc hiw
 have HSP:Hid (x.to.length≠2∨∃ a b bt ot,x.to=[a,b]∧At=some ⟨bt,ot,none⟩∧(∀ A B C:Obj,(((w.alloc A).alloc B).alloc C).cell? ⟨bt,ot,none⟩=some (.int .i64 a))∧(∀ A B C:Obj,(((w.alloc A).alloc B).alloc C).cell? ⟨bt,ot+1,none⟩=some (.int .i64 b))):=by
  show _∨_
  by_cases h2:x.to.length=2
  ·right
   obtain ⟨A',c',e,-,-,g3⟩:=hvt
   obtain ⟨bt,ot,e2,hbt,hct⟩:=g3 (by omega)
   obtain ⟨a,b,hab⟩:=two_of' x.to h2
   simp only [Value.slice.injEq] at e
   exact ⟨a,b,bt,ot,hab,e.1.trans e2,fun A B C=>((((Gr.refl w).alloc A).alloc B).alloc C).cell bt ot hbt |>.trans (hct 0 a (by rw [hab];rfl)),fun A B C=>((((Gr.refl w).alloc A).alloc B).alloc C).cell bt (ot+1) hbt |>.trans (hct 1 b (by rw [hab];rfl))⟩
  ·exact .inl h2
 clear hvt
 rcases HSP.out with h2 | ⟨a,b,bt,ot,hab,rfl,ca0,ca1⟩
 ·have HS2:Hid (Ir.shapeOf f x=(1,2,(x.width == 0) && (x.imm == 0))):=by show _=_;rw [HS.out];simp [h2]
  have hne:((x.to.length:Int) == 2)=false:=by (simp;omega)
  have hne2:((x.to.length:Int) != 2)=true:=by (rw [bne,hne];rfl)
  clear h2 HSP HS
  obtain ⟨w0,hw0⟩:∃ w0,(x.width == 0)=w0:=⟨_,rfl⟩
  obtain ⟨i0,hi0⟩:∃ i0,(x.imm == 0)=i0:=⟨_,rfl⟩
  rw [hw0,hi0] at HS2
  cases w0
  all_goals cases i0
  all_goals go_enter Tryz.func105, Tryz.ntmps105
  all_goals go_wp2_with (first | (go_at_call 113;refine (HK.out _).mono ?_;rintro e w1 ⟨rfl,rfl⟩) | (go_at_call 102;refine (HN.out _).mono ?_;rintro e w1 ⟨rfl,rfl⟩))
  all_goals go_region
  all_goals go_wp2
  all_goals refine bodyPost_ret (by simp [results,Tryz.results105,go_sem, *];rfl) rfl ?_
  all_goals refine ⟨ret_val (by rw [HS2.out] <;> rfl),?_⟩
  all_goals first | exact ((((Gr.refl w).alloc _).alloc _).alloc _).drew | exact (((Gr.refl w).alloc _).alloc _).alloc _
 ·have HS2:Hid (Ir.shapeOf f x=(1,2,(x.width == 0) && (x.imm == 0) && !(a == b))):=by
   show _=_;rw [HS.out,hab]
   by_cases e:a=b <;> simp [e]
  have hl2:x.to.length=2:=by rw [hab];rfl
  clear hab HSP HS
  obtain ⟨w0,hw0⟩:∃ w0,(x.width == 0)=w0:=⟨_,rfl⟩
  obtain ⟨i0,hi0⟩:∃ i0,(x.imm == 0)=i0:=⟨_,rfl⟩
  obtain ⟨eq,heq⟩:∃ eq,(a == b)=eq:=⟨_,rfl⟩
  rw [hw0,hi0,heq] at HS2
  cases w0
  all_goals cases i0
  all_goals cases eq
  all_goals try have heq2:(a != b)=true:=by rw [bne,heq];rfl
  all_goals try have heq2:(a != b)=false:=by rw [bne,heq];rfl
  all_goals go_enter Tryz.func105, Tryz.ntmps105
  all_goals go_wp2_with (first | (go_at_call 113;refine (HK.out _).mono ?_;rintro e w1 ⟨rfl,rfl⟩) | (go_at_call 102;refine (HN.out _).mono ?_;rintro e w1 ⟨rfl,rfl⟩))
  all_goals go_region
  all_goals go_wp2
  all_goals refine bodyPost_ret (by simp [results,Tryz.results105,go_sem, *];rfl) rfl ?_
  all_goals refine ⟨ret_val (by rw [HS2.out] <;> rfl),?_⟩
  all_goals first | exact ((((Gr.refl w).alloc _).alloc _).alloc _).drew | exact (((Gr.refl w).alloc _).alloc _).alloc _
end Go.Proofs.YthfhamagopbgcaaGreat
namespace Go.Proofs.YthfhamagopbgcaaGreat
open Go.RowKit

set_option maxRecDepth 100000 in
set_option maxHeartbeats 4000000 in
theorem shapeOf_7 (f:Fn) (x:Ins) (vp vb:Value) (As Aa At:Option Addr) (cs ca ct:Nat) (w:World) (_hb:0≤x.imm∧x.imm<4294967296∧f.slots.length≤17592186044416∧x.to.length≤17592186044416) (hc:Ir.classOf x.op=7) :
  Calls Tryz.prog 105 #[.agg #[vp,.int .i64 f.ret,.slice As f.slots.length cs,vb],.agg #[.int .i64 x.op,.int .i64 x.width,.int .i64 x.flags,.slice Aa x.args.length ca,.int .u32 x.imm,.slice At x.to.length ct]] w fun e w' =>
   e=.returned (.tuple #[.agg #[.int .i64 (Ir.shapeOf f x).1,.int .i64 (Ir.shapeOf f x).2.1],.bool (Ir.shapeOf f x).2.2])∧Gr w w':=by
 have HK:Hid (∀ w1,Calls Tryz.prog 113 #[.int .i64 x.op] w1 fun e w'=>e=.returned (.int .i64 7)∧w1=w'):=fun w1=>by rw [← hc];exact classOf_any x.op w1
 obtain ⟨iw,hiw⟩:∃ iw,Ref.isWidth x.width=iw:=⟨_,rfl⟩
 have HN:Hid (∀ w1,Calls Tryz.prog 102 #[.int .i64 x.width] w1 fun e w'=>e=.returned (.bool iw)∧w1=w'):=fun w1=>by rw [← hiw];exact isNumber_any x.width w1
 have HS:Hid (Ir.shapeOf f x=(2,0,iw && decide (1≤x.imm) && decide (x.imm<x.width) && (x.width % x.imm == 0))):=by show _=_;unfold Ir.shapeOf;simp only [hc,hiw];rfl
 cases iw with
 | false =>
  clear hc hiw
  go_enter Tryz.func105, Tryz.ntmps105
  go_wp2_with (first | (go_at_call 113;refine (HK.out _).mono ?_;rintro e w1 ⟨rfl,rfl⟩) | (go_at_call 102;refine (HN.out _).mono ?_;rintro e w1 ⟨rfl,rfl⟩))
  go_region
  all_goals go_wp2
  all_goals refine bodyPost_ret (by simp [results,Tryz.results105,go_sem, *];rfl) rfl ?_
  all_goals refine ⟨ret_val (by rw [HS.out] <;> first | rfl | (simp [*];done) | grind),?_⟩
  all_goals first | exact ((((Gr.refl w).alloc _).alloc _).alloc _).drew | exact (((Gr.refl w).alloc _).alloc _).alloc _
 | true =>
  have hw:1≤x.width∧x.width≤32:=by unfold Ref.isWidth at hiw;simpa using hiw
  obtain ⟨hw1,hw2⟩:=hw
  have hcv:x.width % 4294967296=x.width:=by omega
  clear hc hiw
  rcases (by omega:1≤x.imm∨x.imm=0) with hge | hge
  ·rcases (by omega:x.imm<x.width∨x.width≤x.imm) with hlt | hlt
   ·obtain ⟨rm,hrm⟩:∃ rm,(x.width % x.imm == 0)=rm:=⟨_,rfl⟩
    cases rm
    all_goals go_enter Tryz.func105, Tryz.ntmps105
    all_goals go_wp2_with (first | (go_at_call 113;refine (HK.out _).mono ?_;rintro e w1 ⟨rfl,rfl⟩) | (go_at_call 102;refine (HN.out _).mono ?_;rintro e w1 ⟨rfl,rfl⟩))
    all_goals go_region
    all_goals go_wp2
    all_goals refine bodyPost_ret (by simp [results,Tryz.results105,go_sem, *];rfl) rfl ?_
    all_goals refine ⟨ret_val (by rw [HS.out] <;> first | rfl | (simp [*];done) | grind),?_⟩
    all_goals first | exact ((((Gr.refl w).alloc _).alloc _).alloc _).drew | exact (((Gr.refl w).alloc _).alloc _).alloc _
   ·have hd:decide (x.imm<x.width)=false:=by simp;omega
    go_enter Tryz.func105, Tryz.ntmps105
    go_wp2_with (first | (go_at_call 113;refine (HK.out _).mono ?_;rintro e w1 ⟨rfl,rfl⟩) | (go_at_call 102;refine (HN.out _).mono ?_;rintro e w1 ⟨rfl,rfl⟩))
    go_region
    all_goals go_wp2
    all_goals refine bodyPost_ret (by simp [results,Tryz.results105,go_sem, *];rfl) rfl ?_
    all_goals refine ⟨ret_val (by rw [HS.out] <;> first | rfl | (simp [*];done) | grind),?_⟩
    all_goals first | exact ((((Gr.refl w).alloc _).alloc _).alloc _).drew | exact (((Gr.refl w).alloc _).alloc _).alloc _
  ·go_enter Tryz.func105, Tryz.ntmps105
   go_wp2_with (first | (go_at_call 113;refine (HK.out _).mono ?_;rintro e w1 ⟨rfl,rfl⟩) | (go_at_call 102;refine (HN.out _).mono ?_;rintro e w1 ⟨rfl,rfl⟩))
   go_region
   all_goals go_wp2
   all_goals refine bodyPost_ret (by simp [results,Tryz.results105,go_sem, *];rfl) rfl ?_
   all_goals refine ⟨ret_val (by rw [HS.out] <;> first | rfl | (simp [*];done) | grind),?_⟩
   all_goals first | exact ((((Gr.refl w).alloc _).alloc _).alloc _).drew | exact (((Gr.refl w).alloc _).alloc _).alloc _
end Go.Proofs.YthfhamagopbgcaaGreat
