/- The row of RunRuns. Printed by gen_row05.py. -/
import Derived.Test.YthfhamagopbgcaaGreatH47
namespace Go.Proofs.YthfhamagopbgcaaGreat.runs
open Go.ChangeShapes Go.WideShapes Go.ChangeAt Go.RowKit
set_option linter.unusedVariables false
theorem own:ownKnob Tryz.prog.godebug=none:=by kernel_rfl
theorem laidOut:laidOutB Tryz.prog=true:=by kernel_rfl
set_option maxRecDepth 100000 in
theorem lifted (os:Os)(started:os.Started)(H:Type)(enc:TypeId × Value->H) :
  ReturnsInHanded {} Tryz.checked os 4 .any (Rows.runRunsSpec.pre6 enc Tryz.prog Tryz.f4 Rows.runRunsRow.domain false) (Rows.runRunsSpec.post enc Tryz.prog Tryz.f4 false true false false):=by
 refine returnsInHanded_of_change_sized (C:=Tryz.checked) own started (by kernel_rfl) Tryz.func4
  (ChangeSpec.witness6 (enc:=enc) (C:=Tryz.checked) false ⟨#[],#[.agg #[.slice none 0 0,.int .i64 0,.slice none 0 0,.slice none 0 0],.agg #[.slice none 0 0,.slice none 0 0],.slice none 0 0],[]⟩ 8 (by kernel_rfl) (by kernel_rfl) (by kernel_rfl) (by kernel_rfl)) ?_
 intro W base args M gs before l S y u _;have d:∀(j:Nat) t v,(Tryz.f4).params[j]?=some t->args[j]?=some v->Value.okWide Tryz.prog W .any base t v:=l;have z:(DataW.weightsEach Tryz.prog ((Tryz.f4).params.toList++Rows.runRunsSpec.plain.varTypes Tryz.prog) (M++gs)).all (·<=reachBytes)=true:=u;have D:=S;obtain⟨p,q,B,hV,rfl,ad,ae⟩:=S;have R:DataW.TrodAll enc Tryz.prog W 0 (fun _=>true) true (Tryz.f4).params.toList args.toList M p:=B;rw[Tryz.params4] at R d z;obtain⟨v0,af,d0,aa,p0,q0,E,rfl,rfl,N,r0⟩:=trodAll_cons R;obtain⟨v1,ag,d1,ab,p1,q1,rfl,rfl,rfl,O,r1⟩:=trodAll_cons r0;obtain⟨v2,ah,d2,ac,Z,q2,rfl,rfl,rfl,Q,r2⟩:=trodAll_cons r1;obtain⟨rfl,rfl,rfl⟩:=trodAll_nil r2;obtain rfl:args=#[v0,v1,v2]:=by cases args;simp_all
 obtain⟨rfl,rfl⟩:=trodVars_none hV;have U:=N;have X:=O;have Y:=Q;have J:∀x∈p0,x.block<W.heap.size:=by obtain⟨m,g⟩:=U;exact DataW.trod_lt m _ _ _ g
 have K:∀x∈p1,x.block<W.heap.size:=by obtain⟨m,g⟩:=X;exact DataW.trod_lt m _ _ _ g
 have L:∀x∈Z,x.block<W.heap.size:=by obtain⟨m,g⟩:=Y;exact DataW.trod_lt m _ _ _ g
 obtain⟨f,hf,T⟩:=pD (d 0 25 v0 rfl rfl) N (fun m g=>by
   have:=vT.1 z m (DataW.weights_mem_each (j:=0) (t:=25) rfl rfl m g)
   simpa using this)
 obtain⟨i,va,vm,rfl,ha,g⟩:=mL (d 1 29 v1 rfl rfl) O (fun m g=>by
   have:=vT.1 z m (DataW.weights_mem_each (j:=1) (t:=29) rfl rfl m g)
   simpa using this)
 obtain⟨n2,F⟩:=Q;obtain⟨a2,l2,c2,rfl⟩:=okWide_slice Tryz.underlying26 (d 2 26 v2 rfl rfl);have I:DataW.trod enc Tryz.prog W 0 (fun _=>true) true n2 26 [.slice a2 l2 c2]=some (d2,Z):=F;obtain⟨pk,G⟩:=iU I;clear B l u y;refine(lawRuns_any hf (pT T) (tU T) ha g G).mono fun e W' ⟨he,r⟩=>?_;subst he;exact⟨_,rfl,_,_,_,[],_,[],D,trodAll_mk1 (shut_bool Tryz.underlying4 _),(trodAll_cons_mk (Below.trod laidOut (by kernel_rfl) (of_decide_eq_true (by kernel_rfl)) U r J) (trodAll_cons_mk (Below.trod laidOut (by kernel_rfl) (of_decide_eq_true (by kernel_rfl)) X r K) (trodAll_cons_mk (Below.trod laidOut (by kernel_rfl) (of_decide_eq_true (by kernel_rfl)) Y r L) trodAll_mk0))),rfl,r.frame _,fun h=>by cases h⟩
theorem over:Rows.runRunsRow.holds Tryz.pinned (OpenSpec.ofChange Rows.runRunsSpec) :=
 OpenClaim.holds_of_wide 4 Tryz.f4 rfl rfl rfl rfl rfl rfl rfl ⟨rfl,rfl,rfl,rfl,rfl⟩ rfl rfl rfl rfl rfl (by kernel_rfl) Tryz.func4 (by kernel_rfl)
  (of_decide_eq_true (by kernel_rfl)) (by unfold Func.isWrapper;first|(rw[wa (by decide +kernel)];kernel_rfl)|(rw[wb (by decide +kernel)];exact⟨rfl,rfl⟩))
  (fun os d H enc _=>lifted os d H enc)
theorem proved:Rows.RunRunsSaid:=over
#print axioms proved
end Go.Proofs.YthfhamagopbgcaaGreat.runs
