/- The row of RefineWorsts. Printed by gen_row06.py. -/
import Derived.Test.YtjkajidbdmbbaaaGreatN50
namespace Go.Proofs.YtjkajidbdmbbaaaGreat.worsts
open Go.ChangeShapes Go.WideShapes Go.ChangeAt Go.RowKit
set_option linter.unusedVariables false
theorem own:ownKnob Tryz.prog.godebug=none:=by kernel_rfl
theorem laidOut:laidOutB Tryz.prog=true:=by kernel_rfl
set_option maxRecDepth 100000 in
theorem lifted (os:Os)(started:os.Started)(H:Type)(enc:TypeId × Value->H) :
  ReturnsInHanded {} Tryz.checked os 9 .any (Rows.refineWorstsSpec.pre6 enc Tryz.prog Tryz.f9 Rows.refineWorstsRow.domain false) (Rows.refineWorstsSpec.post enc Tryz.prog Tryz.f9 false true false false):=by
 refine returnsInHanded_of_change_sized (C:=Tryz.checked) own started (by kernel_rfl) Tryz.func9
  (ChangeSpec.witness6 (enc:=enc) (C:=Tryz.checked) false ⟨#[],#[.agg #[.slice none 0 0,.int .i64 0,.slice none 0 0,.slice none 0 0],.agg #[.slice none 0 0,.slice none 0 0]],[]⟩ 8 (by kernel_rfl) (by kernel_rfl) (by kernel_rfl) (by kernel_rfl)) ?_
 intro W base args I U before g M y r _;have d:∀(j:Nat) t v,(Tryz.f9).params[j]?=some t->args[j]?=some v->Value.okWide Tryz.prog W .any base t v:=g;have z:(DataW.weightsEach Tryz.prog ((Tryz.f9).params.toList++Rows.refineWorstsSpec.plain.varTypes Tryz.prog) (I++U)).all (·<=reachBytes)=true:=r;have D:=M;obtain⟨p,q,B,X,rfl,aa,ab⟩:=M;have L:DataW.TrodAll enc Tryz.prog W 0 (fun _=>true) true (Tryz.f9).params.toList args.toList I p:=B;rw[Tryz.params9]at L d z;obtain⟨v0,ac,d0,S,p0,q0,E,rfl,rfl,J,r0⟩:=trodAll_cons L;obtain⟨R,ad,d1,T,p1,q1,rfl,rfl,rfl,K,r1⟩:=trodAll_cons r0;obtain⟨rfl,rfl,rfl⟩:=trodAll_nil r1;obtain rfl:args=#[v0,R]:=by cases args;simp_all
 obtain⟨rfl,rfl⟩:=trodVars_none X;have O:=J;have Q:=K;have F:∀x∈p0,x.block<W.heap.size:=by obtain⟨m,l⟩:=O;exact DataW.trod_lt m _ _ _ l
 have G:∀x∈p1,x.block<W.heap.size:=by obtain⟨m,l⟩:=Q;exact DataW.trod_lt m _ _ _ l
 obtain⟨f,hf,N⟩:=vd (d 0 36 v0 rfl rfl) J (fun m l=>by
   have:=ym.1 z m (DataW.weights_mem_each (j:=0) (t:=36) rfl rfl m l)
   simpa using this)
 obtain⟨i,va,vm,rfl,Y,l⟩:=tF (d 1 41 R rfl rfl) K (fun m l=>by
   have:=ym.1 z m (DataW.weights_mem_each (j:=1) (t:=41) rfl rfl m l)
   simpa using this)
 clear B g r y;refine(lawRefineWorsts_any hf (vD N) (wV N) Y l).mono fun e W' ⟨Z,u⟩=>?_;subst Z;exact⟨_,rfl,_,_,_,[],_,[],D,trodAll_mk1 (shut_bool Tryz.underlying4 _),(trodAll_cons_mk (Below.trod laidOut (by kernel_rfl) (of_decide_eq_true (by kernel_rfl)) O u F) (trodAll_cons_mk (Below.trod laidOut (by kernel_rfl) (of_decide_eq_true (by kernel_rfl)) Q u G) trodAll_mk0)),rfl,u.frame _,fun h=>by cases h⟩
theorem over:Rows.refineWorstsRow.holds Tryz.pinned (OpenSpec.ofChange Rows.refineWorstsSpec) :=
 OpenClaim.holds_of_wide 9 Tryz.f9 rfl rfl rfl rfl rfl rfl rfl ⟨rfl,rfl,rfl,rfl,rfl⟩ rfl rfl rfl rfl rfl (by kernel_rfl) Tryz.func9 (by kernel_rfl)
  (of_decide_eq_true (by kernel_rfl)) (by unfold Func.isWrapper;first|(rw[yr (by decide +kernel)];kernel_rfl)|(rw[yt (by decide +kernel)];exact⟨rfl,rfl⟩))
  (fun os d H enc _=>lifted os d H enc)
theorem proved:Rows.RefineWorstsSaid:=over
#print axioms proved
end Go.Proofs.YtjkajidbdmbbaaaGreat.worsts
