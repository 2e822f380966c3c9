/- Parts. -/
import Derived.Test.YthfjdhanbegaoaaGreatDoorT02
set_option linter.unusedSimpArgs false
set_option linter.unusedVariables false
set_option maxRecDepth 100000
set_option maxHeartbeats 16000000
open Go.Proofs.Tryz
namespace Go.Proofs.YthfjdhanbegaoaaGreatDoor
open Go.RowKit
theorem mA (f:Fn)(vp vb vt:Value)(As Aa:Option Addr)(cs ca:Nat)(x:Ins)(w:World)(h1:0<=x.imm)(h2:x.imm<4294967296) :
  Calls prog 100 #[.agg #[vp,.int .i64 f.ret,.slice As f.slots.length cs,vb],.agg #[.int .i64 x.op,.int .i64 x.width,.int .i64 x.flags,.slice Aa x.args.length ca,.int .u32 x.imm,vt]] w fun e w' =>
   e=.returned (.agg #[.int .i64 (Ref.shape f x).1,.int .i64 (Ref.shape f x).2.1,.bool (Ref.shape f x).2.2])/\Gr w w':=by
 go_enter func100, ntmps100
 go_wp2_with (first|(go_at_call 58;refine(dD _ _).mono ?_;rintro e d ⟨rfl,rfl⟩)|(go_at_call 128;refine(iS _ _ _ h1 h2).mono ?_;rintro e d ⟨rfl,rfl⟩)|(go_at_call 129;refine(me _ _ _ _ _ _ _).mono ?_;rintro e d ⟨rfl,g1⟩;have g:=g1.cell;have j:=g1.frozen;have l:=g1.size)|(go_at_call 130;refine(lk _ _ _ _ _ _ _).mono ?_;rintro e d ⟨rfl,g1⟩;have g:=g1.cell;have j:=g1.frozen;have l:=g1.size))
 trace "WALKED"
 all_goals (refine pA (by simp[results,results100,go_sem, *];rfl) rfl ?_)
 all_goals refine⟨du ?_,?_⟩
 all_goals first|(grind [Ref.shape,Ref.plain,Ref.arith])|(repeat (first|exact qj _|assumption|(refine Gr.alloc ?_ _)|(refine Gr.setCell ?_ ?_ _)|(refine Gr.trans ?_ (by assumption))))
 all_goals (simp;omega)
