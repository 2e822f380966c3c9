/- Parts. -/
import Derived.Test.YthfjdhanbegaoaaGreatDoorT05
set_option linter.unusedSimpArgs false
set_option linter.unusedVariables false
set_option maxRecDepth 100000
set_option maxHeartbeats 16000000
open Go.Proofs.Tryz
namespace Go.Proofs.YthfjdhanbegaoaaGreatDoor
open Go.RowKit
theorem kN (f x vp vb As Aa At cs ca ct w)(hb:ShB f x)(hc:Ir.classOf x.op=14) :
  ShP f x vp vb As Aa At cs ca ct w:=by
 unfold ShP;unfold ShB at hb;have p:=iC hc;obtain⟨m,g,q⟩:=iA x;have r:Hid (Ir.shapeOf f x=((x.to.length:Int),(x.to.length:Int),(m || (x.width == 33)) && (x.imm == 0) && decide (0<(x.to.length:Int)))):=by show _=_;unfold Ir.shapeOf;simp only[hc,g];simp;rfl
 clear hc g;cases m;all_goals (obtain⟨d,l⟩:∃d,(x.width == 33)=d:=⟨_,rfl⟩;cases d)
 all_goals (obtain⟨i0,t⟩:∃i0,(x.imm == 0)=i0:=⟨_,rfl⟩;cases i0)
 all_goals (rcases Decidable.em (0<(x.to.length:Int)) with j|j)
 all_goals go_enter func82, ntmps82
 all_goals go_wp2_with (first|(go_at_call 92;refine(p.out _).mono ?_;rintro e u ⟨rfl,rfl⟩)|(go_at_call 79;refine(q.out _).mono ?_;rintro e u ⟨rfl,rfl⟩))
 all_goals go_region
 all_goals go_wp2
 all_goals refine pA (by simp[results,results82,go_sem, *];rfl) rfl ?_
 all_goals refine⟨du (by rw[r.out]<;>first|rfl|(simp[*];done)|grind),?_⟩
 all_goals first|exact en.drew|exact en
