import Derived.Test.YtjkajidbdmbbaaaGreatN06
set_option linter.unusedSimpArgs false
set_option linter.unusedVariables false
set_option maxRecDepth 100000
set_option maxHeartbeats 16000000
open Go.Proofs.Tryz
namespace Go.Proofs.YtjkajidbdmbbaaaGreat
open Ref Rn Wd Ir Rf
open Go.RowKit
theorem pK (f x vp vb As Aa At cs ca ct w)(hb:ShB f x)(hc:ir x.op=14) :
  ShP f x vp vb As Aa At cs ca ct w:=by
 unfold ShP;unfold ShB at hb;have q:=kP hc;obtain⟨p,g,r⟩:=kO x;have t:Hid (zV f x=((x.to.length:Int),(x.to.length:Int),(p || (x.w == 33)) && (x.i == 0) && decide (0<(x.to.length:Int)))):=by show _=_;unfold zV;simp only[hc,g];simp;rfl
 clear hc g;cases p;all_goals (obtain⟨d,m⟩:∃d,(x.w == 33)=d:=⟨_,rfl⟩;cases d)
 all_goals (obtain⟨l,u⟩:∃l,(x.i == 0)=l:=⟨_,rfl⟩;cases l)
 all_goals (rcases Decidable.em (0<(x.to.length:Int)) with j|j)
 all_goals go_enter func93, ntmps93
 all_goals go_wp2_with (first|(go_at_call 103;refine(q.out _).mono ?_;rintro e y ⟨rfl,rfl⟩)|(go_at_call 90;refine(r.out _).mono ?_;rintro e y ⟨rfl,rfl⟩))
 all_goals go_region
 all_goals go_wp2
 all_goals refine yq (by simp[results,results93,go_sem, *];rfl) rfl ?_
 all_goals refine⟨dv (by rw[t.out]<;>first|rfl|(simp[*];done)|grind),?_⟩
 all_goals first|exact eO.drew|exact eO
