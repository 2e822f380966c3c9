/- The row of RefineInputs. Printed by gen_row06.py. -/
import Derived.Test.YtjkajidbdmbbaaaGreatI49
namespace Go.Proofs.YtjkajidbdmbbaaaGreat.inputs
open Go.ChangeShapes Go.WideShapes Go.ChangeAt Go.RowKit
set_option linter.unusedVariables false
theorem own:ownKnob Tryz.prog.godebug=none:=by kernel_rfl
theorem laidOut:laidOutB Tryz.prog=true:=by kernel_rfl
set_option maxRecDepth 100000 in
theorem lifted (os:Os)(started:os.Started)(H:Type)(enc:TypeId × Value->H) :
  ReturnsInHanded {} Tryz.checked os 7 .any (Rows.refineInputsSpec.pre6 enc Tryz.prog Tryz.f7 Rows.refineInputsRow.domain false) (Rows.refineInputsSpec.post enc Tryz.prog Tryz.f7 false true false false):=by
 refine returnsInHanded_of_change_sized (C:=Tryz.checked) own started (by kernel_rfl) Tryz.func7
  (ChangeSpec.witness6 (enc:=enc) (C:=Tryz.checked) false ⟨#[],#[.agg #[.slice none 0 0,.int .i64 0,.slice none 0 0,.slice none 0 0],.int .i64 0],[]⟩ 8 (by kernel_rfl) (by kernel_rfl) (by kernel_rfl) (by kernel_rfl)) ?_
 intro W base args G R before g K u l _;have d:∀(j:Nat) t v,(Tryz.f7).params[j]?=some t->args[j]?=some v->Value.okWide Tryz.prog W .any base t v:=g;have z:(DataW.weightsEach Tryz.prog ((Tryz.f7).params.toList++Rows.refineInputsSpec.plain.varTypes Tryz.prog) (G++R)).all (·<=reachBytes)=true:=l;have B:=K;obtain⟨p,q,y,T,rfl,Y,Z⟩:=K;have J:DataW.TrodAll enc Tryz.prog W 0 (fun _=>true) true (Tryz.f7).params.toList args.toList G p:=y;rw[Tryz.params7]at J d z;obtain⟨v0,aa,d0,O,p0,q0,D,rfl,rfl,I,r0⟩:=trodAll_cons J;obtain⟨N,ab,d1,Q,p1,q1,rfl,rfl,rfl,S,r1⟩:=trodAll_cons r0;obtain⟨rfl,rfl,rfl⟩:=trodAll_nil r1;obtain rfl:args=#[v0,N]:=by cases args;simp_all
 obtain⟨rfl,rfl⟩:=trodVars_none T;have L:=I;have M:=S;have E:∀x∈p0,x.block<W.heap.size:=by obtain⟨m,hm⟩:=L;exact DataW.trod_lt m _ _ _ hm
 have F:∀x∈p1,x.block<W.heap.size:=by obtain⟨m,hm⟩:=M;exact DataW.trod_lt m _ _ _ hm
 obtain⟨f,X,hs⟩:=qM (d 0 36 v0 rfl rfl) I (fun m hm=>by
   have:=tu.1 z m (DataW.weights_mem_each (j:=0) (t:=36) rfl rfl m hm)
   simpa using this)
 obtain⟨z1,rfl⟩:=okWide_int Tryz.underlying3 (d 1 3 N rfl rfl);clear y g l u;refine(lawRefineInputs_any X (qV hs) z1).mono fun e W' ⟨U,r⟩=>?_;subst U;exact⟨_,rfl,_,_,_,[],_,[],B,trodAll_mk1 (shut_bool Tryz.underlying4 _),(trodAll_cons_mk (Below.trod laidOut (by kernel_rfl) (of_decide_eq_true (by kernel_rfl)) L r E) (trodAll_cons_mk (Below.trod laidOut (by kernel_rfl) (of_decide_eq_true (by kernel_rfl)) M r F) trodAll_mk0)),rfl,r.frame _,fun h=>by cases h⟩
theorem over:Rows.refineInputsRow.holds Tryz.pinned (OpenSpec.ofChange Rows.refineInputsSpec) :=
 OpenClaim.holds_of_wide 7 Tryz.f7 rfl rfl rfl rfl rfl rfl rfl ⟨rfl,rfl,rfl,rfl,rfl⟩ rfl rfl rfl rfl rfl (by kernel_rfl) Tryz.func7 (by kernel_rfl)
  (of_decide_eq_true (by kernel_rfl)) (by unfold Func.isWrapper;first|(rw[tB (by decide +kernel)];kernel_rfl)|(rw[tC (by decide +kernel)];exact⟨rfl,rfl⟩))
  (fun os d H enc _=>lifted os d H enc)
theorem proved:Rows.RefineInputsSaid:=over
#print axioms proved
end Go.Proofs.YtjkajidbdmbbaaaGreat.inputs
