/- The row of RefineLists. Printed by gen_row06.py. -/
import Derived.Test.YtjkajidbdmbbaaaGreatM50
namespace Go.Proofs.YtjkajidbdmbbaaaGreat.lists
open Go.ChangeShapes Go.WideShapes Go.ChangeAt Go.RowKit
set_option linter.unusedVariables false
theorem own:ownKnob Tryz.prog.godebug=none:=by kernel_rfl
theorem laidOut:laidOutB Tryz.prog=true:=by kernel_rfl
set_option maxRecDepth 100000 in
theorem lifted (os:Os)(started:os.Started)(H:Type)(enc:TypeId × Value->H) :
  ReturnsInHanded {} Tryz.checked os 4 .any (Rows.refineListsSpec.pre6 enc Tryz.prog Tryz.f4 Rows.refineListsRow.domain false) (Rows.refineListsSpec.post enc Tryz.prog Tryz.f4 false true false false):=by
 refine returnsInHanded_of_change_sized (C:=Tryz.checked) own started (by kernel_rfl) Tryz.func4
  (ChangeSpec.witness6 (enc:=enc) (C:=Tryz.checked) false ⟨#[],#[.slice none 0 0,.slice none 0 0],[]⟩ 8 (by kernel_rfl) (by kernel_rfl) (by kernel_rfl) (by kernel_rfl)) ?_
 intro W base args N gs before g S u l _;have d:∀(j:Nat) t v,(Tryz.f4).params[j]?=some t->args[j]?=some v->Value.okWide Tryz.prog W .any base t v:=g;have y:(DataW.weightsEach Tryz.prog ((Tryz.f4).params.toList++Rows.refineListsSpec.plain.varTypes Tryz.prog) (N++gs)).all (·<=reachBytes)=true:=l;have B:=S;obtain⟨p,q,z,hV,rfl,ac,ad⟩:=S;have R:DataW.TrodAll enc Tryz.prog W 0 (fun _=>true) true (Tryz.f4).params.toList args.toList N p:=z;rw[Tryz.params4]at R d y;obtain⟨v0,ag,d0,aa,X,q0,D,rfl,rfl,O,r0⟩:=trodAll_cons R;obtain⟨Z,ah,d1,ab,Y,q1,rfl,rfl,rfl,Q,r1⟩:=trodAll_cons r0;obtain⟨rfl,rfl,rfl⟩:=trodAll_nil r1;obtain rfl:args=#[v0,Z]:=by cases args;simp_all
 obtain⟨rfl,rfl⟩:=trodVars_none hV;have T:=O;have U:=Q;have L:∀x∈X,x.block<W.heap.size:=by obtain⟨m,hm⟩:=T;exact DataW.trod_lt m _ _ _ hm
 have M:∀x∈Y,x.block<W.heap.size:=by obtain⟨m,hm⟩:=U;exact DataW.trod_lt m _ _ _ hm
 obtain⟨n0,E⟩:=O;obtain⟨a0,l0,c0,rfl⟩:=okWide_slice Tryz.underlying31 (d 0 31 v0 rfl rfl);have J:DataW.trod enc Tryz.prog W 0 (fun _=>true) true n0 31 [.slice a0 l0 c0]=some (d0,X):=E
 obtain⟨ae,G⟩:=tS J (fun m hm=>by
   have:=sP.1 y m (DataW.weights_mem_each (j:=0) (t:=31) rfl rfl m hm)
   simpa using this)
 obtain⟨n1,F⟩:=Q;obtain⟨a1,l1,c1,rfl⟩:=okWide_slice Tryz.underlying31 (d 1 31 Z rfl rfl);have K:DataW.trod enc Tryz.prog W 0 (fun _=>true) true n1 31 [.slice a1 l1 c1]=some (d1,Y):=F
 obtain⟨af,I⟩:=tS K (fun m hm=>by
   have:=sP.1 y m (DataW.weights_mem_each (j:=1) (t:=31) rfl rfl m hm)
   simpa using this)
 clear z g l u;refine(lawRefineLists_any G I).mono fun e W' ⟨he,r⟩=>?_;subst he;exact⟨_,rfl,_,_,_,[],_,[],B,trodAll_mk1 (shut_bool Tryz.underlying4 _),(trodAll_cons_mk (Below.trod laidOut (by kernel_rfl) (of_decide_eq_true (by kernel_rfl)) T r L) (trodAll_cons_mk (Below.trod laidOut (by kernel_rfl) (of_decide_eq_true (by kernel_rfl)) U r M) trodAll_mk0)),rfl,r.frame _,fun h=>by cases h⟩
theorem over:Rows.refineListsRow.holds Tryz.pinned (OpenSpec.ofChange Rows.refineListsSpec) :=
 OpenClaim.holds_of_wide 4 Tryz.f4 rfl rfl rfl rfl rfl rfl rfl ⟨rfl,rfl,rfl,rfl,rfl⟩ rfl rfl rfl rfl rfl (by kernel_rfl) Tryz.func4 (by kernel_rfl)
  (of_decide_eq_true (by kernel_rfl)) (by unfold Func.isWrapper;first|(rw[sU (by decide +kernel)];kernel_rfl)|(rw[sV (by decide +kernel)];exact⟨rfl,rfl⟩))
  (fun os d H enc _=>lifted os d H enc)
theorem proved:Rows.RefineListsSaid:=over
#print axioms proved
end Go.Proofs.YtjkajidbdmbbaaaGreat.lists
