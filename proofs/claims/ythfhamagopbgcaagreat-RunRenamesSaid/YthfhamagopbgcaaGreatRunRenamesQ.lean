/- The row of RunRenames. Printed by gen_row05.py. -/
import Derived.Test.YthfhamagopbgcaaGreatL53
namespace Go.Proofs.YthfhamagopbgcaaGreat.renames
open Go.ChangeShapes Go.WideShapes Go.ChangeAt Go.RowKit
set_option linter.unusedVariables false
theorem own:ownKnob Tryz.prog.godebug=none:=by kernel_rfl
theorem laidOut:laidOutB Tryz.prog=true:=by kernel_rfl
set_option maxRecDepth 100000 in
theorem lifted (os:Os)(started:os.Started)(H:Type)(enc:TypeId × Value->H) :
  ReturnsInHanded {} Tryz.checked os 10 .any (Rows.runRenamesSpec.pre6 enc Tryz.prog Tryz.f10 Rows.runRenamesRow.domain false) (Rows.runRenamesSpec.post enc Tryz.prog Tryz.f10 false true false false):=by
 refine returnsInHanded_of_change_sized (C:=Tryz.checked) own started (by kernel_rfl) Tryz.func10
  (ChangeSpec.witness6 (enc:=enc) (C:=Tryz.checked) false ⟨#[],#[.agg #[.slice none 0 0,.int .i64 0,.slice none 0 0,.slice none 0 0],.agg #[.slice none 0 0,.slice none 0 0],.slice none 0 0],[]⟩ 8 (by kernel_rfl) (by kernel_rfl) (by kernel_rfl) (by kernel_rfl)) ?_
 intro W base args L gs before l R z y _;have d:∀(j:Nat) t v,(Tryz.f10).params[j]?=some t->args[j]?=some v->Value.okWide Tryz.prog W .any base t v:=l;have u:(DataW.weightsEach Tryz.prog ((Tryz.f10).params.toList++Rows.runRenamesSpec.plain.varTypes Tryz.prog) (L++gs)).all (·<=reachBytes)=true:=y;have D:=R;obtain⟨p,q,B,hV,rfl,ad,ae⟩:=R;have Q:DataW.TrodAll enc Tryz.prog W 0 (fun _=>true) true (Tryz.f10).params.toList args.toList L p:=B;rw[Tryz.params10]at Q d u;obtain⟨v0,af,d0,aa,p0,q0,E,rfl,rfl,M,r0⟩:=trodAll_cons Q;obtain⟨Z,ag,d1,ab,p1,q1,rfl,rfl,rfl,N,r1⟩:=trodAll_cons r0;obtain⟨v2,ah,d2,ac,Y,q2,rfl,rfl,rfl,O,r2⟩:=trodAll_cons r1;obtain⟨rfl,rfl,rfl⟩:=trodAll_nil r2;obtain rfl:args=#[v0,Z,v2]:=by cases args;simp_all
 obtain⟨rfl,rfl⟩:=trodVars_none hV;have T:=M;have U:=N;have X:=O;have I:∀x∈p0,x.block<W.heap.size:=by obtain⟨m,g⟩:=T;exact DataW.trod_lt m _ _ _ g
 have J:∀x∈p1,x.block<W.heap.size:=by obtain⟨m,g⟩:=U;exact DataW.trod_lt m _ _ _ g
 have K:∀x∈Y,x.block<W.heap.size:=by obtain⟨m,g⟩:=X;exact DataW.trod_lt m _ _ _ g
 obtain⟨f,hf,S⟩:=pD (d 0 25 v0 rfl rfl) M (fun m g=>by
   have:=vT.1 u m (DataW.weights_mem_each (j:=0) (t:=25) rfl rfl m g)
   simpa using this)
 obtain⟨i,va,vm,rfl,ha,g⟩:=mL (d 1 29 Z rfl rfl) N (fun m g=>by
   have:=vT.1 u m (DataW.weights_mem_each (j:=1) (t:=29) rfl rfl m g)
   simpa using this)
 obtain⟨n2,F⟩:=O;obtain⟨a2,l2,c2,rfl⟩:=okWide_slice Tryz.underlying22 (d 2 22 v2 rfl rfl);have G:DataW.trod enc Tryz.prog W 0 (fun _=>true) true n2 22 [.slice a2 l2 c2]=some (d2,Y):=F
 obtain⟨zs,hz,-⟩:=fp G (fun m g=>by
   have:=vT.1 u m (DataW.weights_mem_each (j:=2) (t:=22) rfl rfl m g)
   simpa using this)
 clear B l y z;refine(lawRunRenames_any hf (pT S) (tU S) ha g hz).mono fun e W' ⟨he,r⟩=>?_;subst he;exact⟨_,rfl,_,_,_,[],_,[],D,trodAll_mk1 (shut_bool Tryz.underlying4 _),(trodAll_cons_mk (Below.trod laidOut (by kernel_rfl) (of_decide_eq_true (by kernel_rfl)) T r I) (trodAll_cons_mk (Below.trod laidOut (by kernel_rfl) (of_decide_eq_true (by kernel_rfl)) U r J) (trodAll_cons_mk (Below.trod laidOut (by kernel_rfl) (of_decide_eq_true (by kernel_rfl)) X r K) trodAll_mk0))),rfl,r.frame _,fun h=>by cases h⟩
theorem over:Rows.runRenamesRow.holds Tryz.pinned (OpenSpec.ofChange Rows.runRenamesSpec) :=
 OpenClaim.holds_of_wide 10 Tryz.f10 rfl rfl rfl rfl rfl rfl rfl ⟨rfl,rfl,rfl,rfl,rfl⟩ rfl rfl rfl rfl rfl (by kernel_rfl) Tryz.func10 (by kernel_rfl)
  (of_decide_eq_true (by kernel_rfl)) (by unfold Func.isWrapper;first|(rw[wa (by decide +kernel)];kernel_rfl)|(rw[yD (by decide +kernel)];exact⟨rfl,rfl⟩))
  (fun os d H enc _=>lifted os d H enc)
theorem proved:Rows.RunRenamesSaid:=over
#print axioms proved
end Go.Proofs.YthfhamagopbgcaaGreat.renames
