/- The row of RefinePermits. Printed by gen_row06.py. -/
import Derived.Test.YtjkajidbdmbbaaaGreatM48
namespace Go.Proofs.YtjkajidbdmbbaaaGreat.permits
open Go.ChangeShapes Go.WideShapes Go.ChangeAt Go.RowKit
set_option linter.unusedVariables false
theorem own:ownKnob Tryz.prog.godebug=none:=by kernel_rfl
theorem laidOut:laidOutB Tryz.prog=true:=by kernel_rfl
set_option maxRecDepth 100000 in
theorem lifted (os:Os)(started:os.Started)(H:Type)(enc:TypeId × Value->H) :
  ReturnsInHanded {} Tryz.checked os 3 .any (Rows.refinePermitsSpec.pre6 enc Tryz.prog Tryz.f3 Rows.refinePermitsRow.domain false) (Rows.refinePermitsSpec.post enc Tryz.prog Tryz.f3 false true false false):=by
 refine returnsInHanded_of_change_sized (C:=Tryz.checked) own started (by kernel_rfl) Tryz.func3
  (ChangeSpec.witness6 (enc:=enc) (C:=Tryz.checked) false ⟨#[],#[.agg #[.int .i64 0,.bool false,.int .i64 0,.int .u32 0,.slice none 0 0],.agg #[.int .i64 0,.bool false,.int .i64 0,.int .u32 0,.slice none 0 0]],[]⟩ 8 (by kernel_rfl) (by kernel_rfl) (by kernel_rfl) (by kernel_rfl)) ?_
 intro W base args J gs before g N u l _;have d:∀(j:Nat) t v,(Tryz.f3).params[j]?=some t->args[j]?=some v->Value.okWide Tryz.prog W .any base t v:=g;have y:(DataW.weightsEach Tryz.prog ((Tryz.f3).params.toList++Rows.refinePermitsSpec.plain.varTypes Tryz.prog) (J++gs)).all (·<=reachBytes)=true:=l;have B:=N;obtain⟨p,q,z,hV,rfl,aa,ab⟩:=N;have M:DataW.TrodAll enc Tryz.prog W 0 (fun _=>true) true (Tryz.f3).params.toList args.toList J p:=z;rw[Tryz.params3]at M d y;obtain⟨v0,ae,d0,Y,p0,q0,D,rfl,rfl,K,r0⟩:=trodAll_cons M;obtain⟨X,af,d1,Z,p1,q1,rfl,rfl,rfl,L,r1⟩:=trodAll_cons r0;obtain⟨rfl,rfl,rfl⟩:=trodAll_nil r1;obtain rfl:args=#[v0,X]:=by cases args;simp_all
 obtain⟨rfl,rfl⟩:=trodVars_none hV;have T:=K;have U:=L;have G:∀x∈p0,x.block<W.heap.size:=by obtain⟨m,hm⟩:=T;exact DataW.trod_lt m _ _ _ hm
 have I:∀x∈p1,x.block<W.heap.size:=by obtain⟨m,hm⟩:=U;exact DataW.trod_lt m _ _ _ hm
 obtain⟨o0,ac,rfl,E,O,Q⟩:=lc (d 0 27 v0 rfl rfl) K (fun m hm=>by
   have:=sP.1 y m (DataW.weights_mem_each (j:=0) (t:=27) rfl rfl m hm)
   simpa using this)
 obtain⟨o1,ad,rfl,F,R,S⟩:=lc (d 1 27 X rfl rfl) L (fun m hm=>by
   have:=sP.1 y m (DataW.weights_mem_each (j:=1) (t:=27) rfl rfl m hm)
   simpa using this)
 clear z g l u;refine(lawRefinePermits_any E F).mono fun e W' ⟨he,r⟩=>?_;subst he;exact⟨_,rfl,_,_,_,[],_,[],B,trodAll_mk1 (shut_bool Tryz.underlying4 _),(trodAll_cons_mk (Below.trod laidOut (by kernel_rfl) (of_decide_eq_true (by kernel_rfl)) T r G) (trodAll_cons_mk (Below.trod laidOut (by kernel_rfl) (of_decide_eq_true (by kernel_rfl)) U r I) trodAll_mk0)),rfl,r.frame _,fun h=>by cases h⟩
theorem over:Rows.refinePermitsRow.holds Tryz.pinned (OpenSpec.ofChange Rows.refinePermitsSpec) :=
 OpenClaim.holds_of_wide 3 Tryz.f3 rfl rfl rfl rfl rfl rfl rfl ⟨rfl,rfl,rfl,rfl,rfl⟩ rfl rfl rfl rfl rfl (by kernel_rfl) Tryz.func3 (by kernel_rfl)
  (of_decide_eq_true (by kernel_rfl)) (by unfold Func.isWrapper;first|(rw[sU (by decide +kernel)];kernel_rfl)|(rw[sV (by decide +kernel)];exact⟨rfl,rfl⟩))
  (fun os d H enc _=>lifted os d H enc)
theorem proved:Rows.RefinePermitsSaid:=over
#print axioms proved
end Go.Proofs.YtjkajidbdmbbaaaGreat.permits
