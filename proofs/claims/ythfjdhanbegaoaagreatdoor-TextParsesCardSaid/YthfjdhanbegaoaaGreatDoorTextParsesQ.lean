/- The row of TextParses: whatever the input, the call returns true; the variables of Go's library hold what the program's text lays. Printed by gen_row04.py. -/
import Derived.Test.YthfjdhanbegaoaaGreatDoorT28
import Derived.Test.YthfjdhanbegaoaaGreatDoorT41
namespace Go.Proofs.YthfjdhanbegaoaaGreatDoor.parses
open Go.ChangeShapes Go.WideShapes Go.ChangeAt Go.RowKit
set_option linter.unusedVariables false
set_option maxRecDepth 100000 in
theorem lifted (os:Os)(started:os.Started)(H:Type)(enc:TypeId × Value->H) :
  ReturnsInHanded {} Tryz.checked os 4 .any (fun w args=>(Rows.textParsesSpec.pre enc Tryz.prog Tryz.f4 [] false w args/\laidMetH Tryz.prog dN w)/\sizedMet enc Tryz.prog Tryz.f4 (OpenSpec.ofChange Rows.textParsesSpec) false w args)
   (Rows.textParsesSpec.post enc Tryz.prog Tryz.f4 false true false false):=by
 refine dI (C:=Tryz.checked) (X:=fun w _=>laidMetH Tryz.prog dN w) (fun _ _ _ hh h=>h.of_heap hh) own started (by kernel_rfl) Tryz.func4
  (ChangeSpec.witness_shaped (enc:=enc) (C:=Tryz.checked) (os:=os) (X:=fun w _=>laidMetH Tryz.prog dN w) false (World.laidAll Tryz.prog os dN) #[.string ⟨#[]⟩] 8 (World.laidAll_os _ _ _) (World.shaped_of_ZipB (by kernel_rfl) (by kernel_rfl)) (by kernel_rfl) (by kernel_rfl) (by kernel_rfl) (eq os _)) ?_
 intro W base args G N before g J y O D;have l:∀(j:Nat) t v,(Tryz.f4).params[j]?=some t->args[j]?=some v->Value.okWide Tryz.prog W .any base t v:=g;have E:(DataW.weightsEach Tryz.prog ((Tryz.f4).params.toList++Rows.textParsesSpec.plain.varTypes Tryz.prog) (G++N)).all (·<=reachBytes)=true:=y;have z:=J;obtain⟨p,q,u,Q,rfl,T,U⟩:=J;have I:DataW.TrodAll enc Tryz.prog W 0 (fun _=>true) true (Tryz.f4).params.toList args.toList G p:=u;rw[Tryz.params4]at I l E;obtain⟨v0,aa,d0,M,Y,q0,B,rfl,rfl,h0,Z⟩:=trodAll_cons I;obtain⟨rfl,rfl,rfl⟩:=trodAll_nil Z;obtain rfl:args=#[v0]:=by cases args;simp_all
 obtain⟨rfl,rfl⟩:=trodVars_none Q;have V:=eH O D;have K:=h0;have F:∀x∈Y,x.block<W.heap.size:=by obtain⟨m,hm⟩:=K;exact DataW.trod_lt m _ _ _ hm
 obtain⟨L,rfl,-,-,-⟩:=Go.ChangeMaps.open_string Tryz.underlying9 (l 0 9 v0 rfl rfl) h0;clear u g;have d:=lawTextParses_any L.data.toList W V;rw[ie L]at d;refine d.mono fun e W' ⟨R,r⟩=>?_;subst R;exact⟨_,rfl,_,_,_,[],_,[],z,trodAll_mk1 (shut_bool Tryz.underlying4 _),(trodAll_cons_mk (Below.trod laidOut (by kernel_rfl) (of_decide_eq_true (by kernel_rfl)) K r F) trodAll_mk0),rfl,r.frame _,fun h=>by cases h⟩
theorem over:Rows.textParsesRow.holds Tryz.pinned (OpenSpec.ofChange Rows.textParsesSpec) :=
 OpenClaim.holds_of_wide 4 Tryz.f4 rfl rfl rfl rfl rfl rfl rfl ⟨rfl,rfl,rfl,rfl,rfl⟩ rfl rfl rfl rfl rfl (by kernel_rfl) Tryz.func4 (by kernel_rfl)
  (of_decide_eq_true (by kernel_rfl)) (by unfold Func.isWrapper;first|(rw[pB (by decide +kernel)];kernel_rfl)|(rw[pC (by decide +kernel)];exact⟨rfl,rfl⟩))
  (fun os d H enc _=>lifted os d H enc)
theorem proved:Rows.TextParsesCardSaid :=
 Claim7.holds_tied_plain_at .later [] [.data,.data,.data,.data,.sentinel,.sentinel,.pinned] true (true,"fa348569fbb1f7b46a555a7cabc7f1ffdb478787e87703484432c657d4d340e8") true
  over (fun _ h=>by cases h) (by kernel_rfl) (fun _ h=>by cases h) textParses_row_tie rfl ⟨rfl,rfl⟩ (by kernel_rfl) rfl
  (fun f fn m g=>by
    obtain rfl:f=4:=Option.some.inj ((show (Tryz.prog).funcNamed "backstay/backstaylaw04.TextParses" = some 4 by kernel_rfl).symm.trans m) |>.symm
    obtain rfl:fn=Tryz.f4:=(Option.some.inj ((Tryz.func4).symm.trans g)).symm
    exact⟨by kernel_rfl,fun j t l=>by
      rw[Tryz.params4]at l
      have p:t∈[9]:=by simpa using Array.mem_of_getElem? l
      have d:([9].all fun u=>!(Tryz.prog).wantsStandIn u)=true:=by kernel_rfl
      exact(show (Tryz.prog).wantsStandIn t=false by simpa using pw.1 d t p)⟩)
  (by kernel_rfl)
#print axioms proved
end Go.Proofs.YthfjdhanbegaoaaGreatDoor.parses
