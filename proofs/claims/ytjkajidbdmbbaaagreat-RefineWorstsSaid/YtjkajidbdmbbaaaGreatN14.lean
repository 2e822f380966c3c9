import Derived.Test.YtjkajidbdmbbaaaGreatN03
set_option linter.unusedSimpArgs false
set_option linter.unusedVariables false
set_option maxRecDepth 100000
set_option maxHeartbeats 16000000
open Go.Proofs.Tryz
namespace Go.Proofs.YtjkajidbdmbbaaaGreat
open Ref Rn Wd Ir Rf
open Go.RowKit
theorem sB (f:Fn)(vp vb vt:Value)(As Aa:Option Addr)(cs ca:Nat)(x:Ins)(w:World)(h1:0<=x.i)(h2:x.i<4294967296) :
  Calls prog 108 #[.agg #[vp,.int .i64 f.ret,.slice As f.s.length cs,vb],.agg #[.int .i64 x.op,.int .i64 x.w,.int .i64 x.g,.slice Aa x.args.length ca,.int .u32 x.i,vt]] w fun e w' =>
   e=.returned (.agg #[.int .i64 (zY f x).1,.int .i64 (zY f x).2.1,.bool (zY f x).2.2])/\Gr w w':=by
 go_enter func108, ntmps108
 go_wp2_with (first|(go_at_call 68;refine(dU _ _).mono ?_;rintro e g ⟨rfl,rfl⟩)|(go_at_call 139;refine(lJ _ _ _ h1 h2).mono ?_;rintro e g ⟨rfl,rfl⟩)|(go_at_call 140;refine(rO _ _ _ _ _ _ _).mono ?_;rintro e g ⟨rfl,d⟩;have j:=d.cell;have l:=d.frozen;have m:=d.size)|(go_at_call 141;refine(qu _ _ _ _ _ _ _).mono ?_;rintro e g ⟨rfl,d⟩;have j:=d.cell;have l:=d.frozen;have m:=d.size))
 trace "WALKED"
 all_goals (refine yq (by simp[results,results108,go_sem, *];rfl) rfl ?_)
 all_goals refine⟨dv ?_,?_⟩
 all_goals first|(grind [zY,Ej,Gq])|(repeat (first|exact yO _|assumption|(refine Gr.alloc ?_ _)|(refine Gr.setCell ?_ ?_ _)|(refine Gr.trans ?_ (by assumption))))
 all_goals (simp;omega)
