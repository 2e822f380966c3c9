/- The row of RefineChains. Printed by gen_row06.py. -/
import Derived.Test.YtjkajidbdmbbaaaGreatM52
namespace Go.Proofs.YtjkajidbdmbbaaaGreat.chains
open Go.ChangeShapes Go.WideShapes Go.ChangeAt Go.RowKit
set_option linter.unusedVariables false
theorem own:ownKnob Tryz.prog.godebug=none:=by kernel_rfl
theorem laidOut:laidOutB Tryz.prog=true:=by kernel_rfl
set_option maxRecDepth 100000 in
theorem lifted (os:Os)(started:os.Started)(H:Type)(enc:TypeId × Value->H) :
  ReturnsInHanded {} Tryz.checked os 5 .any (Rows.refineChainsSpec.pre6 enc Tryz.prog Tryz.f5 Rows.refineChainsRow.domain false) (Rows.refineChainsSpec.post enc Tryz.prog Tryz.f5 false true false false):=by
 refine returnsInHanded_of_change_sized (C:=Tryz.checked) own started (by kernel_rfl) Tryz.func5
  (ChangeSpec.witness6 (enc:=enc) (C:=Tryz.checked) false ⟨#[],#[.agg #[.slice none 0 0,.int .i64 0,.slice none 0 0,.slice none 0 0,.slice none 0 0,.int .i64 0,.slice none 0 0,.slice none 0 0,.slice none 0 0,.int .i64 0,.slice none 0 0,.slice none 0 0],.agg #[.slice none 0 0,.slice none 0 0]],[]⟩ 8 (by kernel_rfl) (by kernel_rfl) (by kernel_rfl) (by kernel_rfl)) ?_
 intro W base args N gs before g X y r _;have d:∀(j:Nat) t v,(Tryz.f5).params[j]?=some t->args[j]?=some v->Value.okWide Tryz.prog W .any base t v:=g;have z:(DataW.weightsEach Tryz.prog ((Tryz.f5).params.toList++Rows.refineChainsSpec.plain.varTypes Tryz.prog) (N++gs)).all (·<=reachBytes)=true:=r;have J:=X;obtain⟨p,q,B,hV,rfl,ac,ad⟩:=X;have R:DataW.TrodAll enc Tryz.prog W 0 (fun _=>true) true (Tryz.f5).params.toList args.toList N p:=B;rw[Tryz.params5]at R d z;obtain⟨v0,ae,d0,aa,p0,q0,K,rfl,rfl,O,r0⟩:=trodAll_cons R;obtain⟨v1,af,d1,ab,p1,q1,rfl,rfl,rfl,Q,r1⟩:=trodAll_cons r0;obtain⟨rfl,rfl,rfl⟩:=trodAll_nil r1;obtain rfl:args=#[v0,v1]:=by cases args;simp_all
 obtain⟨rfl,rfl⟩:=trodVars_none hV;have Y:=O;have Z:=Q;have L:∀x∈p0,x.block<W.heap.size:=by obtain⟨m,l⟩:=Y;exact DataW.trod_lt m _ _ _ l
 have M:∀x∈p1,x.block<W.heap.size:=by obtain⟨m,l⟩:=Z;exact DataW.trod_lt m _ _ _ l
 obtain⟨a0,a1,a2,a3,b0,b1,b2,b3,c0,c1,c2,c3,rfl,F,G,H,⟨S,sF⟩,⟨T,sG⟩,⟨U,sH⟩⟩:=tX (d 0 38 v0 rfl rfl) O (fun m l=>by
   have:=sP.1 z m (DataW.weights_mem_each (j:=0) (t:=38) rfl rfl m l)
   simpa using this)
 have D:=S;obtain⟨_,_,_,D,-⟩:=D;simp only[Value.agg.injEq,Array.mk.injEq,List.cons.injEq,and_true]at D;obtain⟨rfl,rfl,rfl,rfl⟩:=D;have E:=T;obtain⟨_,_,_,E,-⟩:=E;simp only[Value.agg.injEq,Array.mk.injEq,List.cons.injEq,and_true]at E;obtain⟨rfl,rfl,rfl,rfl⟩:=E;have I:=U;obtain⟨_,_,_,I,-⟩:=I;simp only[Value.agg.injEq,Array.mk.injEq,List.cons.injEq,and_true]at I;obtain⟨rfl,rfl,rfl,rfl⟩:=I
 obtain⟨i,va,vm,rfl,ha,l⟩:=uj (d 1 41 v1 rfl rfl) Q (fun m l=>by
   have:=sP.1 z m (DataW.weights_mem_each (j:=1) (t:=41) rfl rfl m l)
   simpa using this)
 clear B g r y;refine(lawRefineChains_any S T U (tU sF) (tU sG) (tU sH) (un sF) (un sG) (un sH) ha l).mono fun e W' ⟨he,u⟩=>?_;subst he;exact⟨_,rfl,_,_,_,[],_,[],J,trodAll_mk1 (shut_bool Tryz.underlying4 _),(trodAll_cons_mk (Below.trod laidOut (by kernel_rfl) (of_decide_eq_true (by kernel_rfl)) Y u L) (trodAll_cons_mk (Below.trod laidOut (by kernel_rfl) (of_decide_eq_true (by kernel_rfl)) Z u M) trodAll_mk0)),rfl,u.frame _,fun h=>by cases h⟩
theorem over:Rows.refineChainsRow.holds Tryz.pinned (OpenSpec.ofChange Rows.refineChainsSpec) :=
 OpenClaim.holds_of_wide 5 Tryz.f5 rfl rfl rfl rfl rfl rfl rfl ⟨rfl,rfl,rfl,rfl,rfl⟩ rfl rfl rfl rfl rfl (by kernel_rfl) Tryz.func5 (by kernel_rfl)
  (of_decide_eq_true (by kernel_rfl)) (by unfold Func.isWrapper;first|(rw[sU (by decide +kernel)];kernel_rfl)|(rw[sV (by decide +kernel)];exact⟨rfl,rfl⟩))
  (fun os d H enc _=>lifted os d H enc)
theorem proved:Rows.RefineChainsSaid:=over
#print axioms proved
end Go.Proofs.YtjkajidbdmbbaaaGreat.chains
