/- The row of TextNames: whatever the input, the call returns true; the variables of Go's library hold what the program's text lays. Printed by gen_row04.py. -/
import Derived.Test.YthfjdhanbegaoaaGreatDoorT28
import Derived.Test.YthfjdhanbegaoaaGreatDoorT46
namespace Go.Proofs.YthfjdhanbegaoaaGreatDoor.names
open Go.ChangeShapes Go.WideShapes Go.ChangeAt Go.RowKit
set_option linter.unusedVariables false
set_option maxRecDepth 100000 in
theorem lifted (os:Os)(started:os.Started)(H:Type)(enc:TypeId × Value->H) :
  ReturnsInHanded {} Tryz.checked os 6 .any (fun w args=>(Rows.textNamesSpec.pre enc Tryz.prog Tryz.f6 [] false w args/\laidMetH Tryz.prog dN w)/\sizedMet enc Tryz.prog Tryz.f6 (OpenSpec.ofChange Rows.textNamesSpec) false w args)
   (Rows.textNamesSpec.post enc Tryz.prog Tryz.f6 false true false false):=by
 refine dI (C:=Tryz.checked) (X:=fun w _=>laidMetH Tryz.prog dN w) (fun _ _ _ hh h=>h.of_heap hh) own started (by kernel_rfl) Tryz.func6
  (ChangeSpec.witness_shaped (enc:=enc) (C:=Tryz.checked) (os:=os) (X:=fun w _=>laidMetH Tryz.prog dN w) false (World.laidAll Tryz.prog os dN) #[.int .i64 0,.string ⟨#[]⟩] 8 (World.laidAll_os _ _ _) (World.shaped_of_ZipB (by kernel_rfl) (by kernel_rfl)) (by kernel_rfl) (by kernel_rfl) (by kernel_rfl) (eq os _)) ?_
 intro W base args I U before l L y V D;have g:∀(j:Nat) t v,(Tryz.f6).params[j]?=some t->args[j]?=some v->Value.okWide Tryz.prog W .any base t v:=l;have E:(DataW.weightsEach Tryz.prog ((Tryz.f6).params.toList++Rows.textNamesSpec.plain.varTypes Tryz.prog) (I++U)).all (·<=reachBytes)=true:=y;have z:=L;obtain⟨p,q,u,Y,rfl,aa,ab⟩:=L;have K:DataW.TrodAll enc Tryz.prog W 0 (fun _=>true) true (Tryz.f6).params.toList args.toList I p:=u;rw[Tryz.params6]at K g E;obtain⟨v0,ac,d0,R,p0,q0,B,rfl,rfl,h0,r0⟩:=trodAll_cons K;obtain⟨O,ad,d1,T,p1,q1,rfl,rfl,rfl,J,r1⟩:=trodAll_cons r0;obtain⟨rfl,rfl,rfl⟩:=trodAll_nil r1;obtain rfl:args=#[v0,O]:=by cases args;simp_all
 obtain⟨rfl,rfl⟩:=trodVars_none Y;have ht:=eH V D;have M:=h0;have F:∀x∈p0,x.block<W.heap.size:=by obtain⟨m,hm⟩:=M;exact DataW.trod_lt m _ _ _ hm
 obtain⟨x0,rfl,-,-,ae⟩:=open_int Tryz.underlying3 (g 0 3 v0 rfl rfl) h0;have N:=J;have G:∀x∈p1,x.block<W.heap.size:=by obtain⟨m,hm⟩:=N;exact DataW.trod_lt m _ _ _ hm
 obtain⟨Q,rfl,-,-,-⟩:=Go.ChangeMaps.open_string Tryz.underlying9 (g 1 9 O rfl rfl) J;clear u l;have d:=lawTextNames_any x0 Q.data.toList W ht;rw[ie Q]at d;refine d.mono fun e W' ⟨Z,r⟩=>?_;subst Z;exact⟨_,rfl,_,_,_,[],_,[],z,trodAll_mk1 (shut_bool Tryz.underlying4 _),(trodAll_cons_mk (Below.trod laidOut (by kernel_rfl) (of_decide_eq_true (by kernel_rfl)) M r F) (trodAll_cons_mk (Below.trod laidOut (by kernel_rfl) (of_decide_eq_true (by kernel_rfl)) N r G) trodAll_mk0)),rfl,r.frame _,fun h=>by cases h⟩
theorem over:Rows.textNamesRow.holds Tryz.pinned (OpenSpec.ofChange Rows.textNamesSpec) :=
 OpenClaim.holds_of_wide 6 Tryz.f6 rfl rfl rfl rfl rfl rfl rfl ⟨rfl,rfl,rfl,rfl,rfl⟩ rfl rfl rfl rfl rfl (by kernel_rfl) Tryz.func6 (by kernel_rfl)
  (of_decide_eq_true (by kernel_rfl)) (by unfold Func.isWrapper;first|(rw[pB (by decide +kernel)];kernel_rfl)|(rw[pC (by decide +kernel)];exact⟨rfl,rfl⟩))
  (fun os d H enc _=>lifted os d H enc)
theorem proved:Rows.TextNamesCardSaid :=
 Claim7.holds_tied_plain_at .later [] [.data,.data,.data,.data,.sentinel,.sentinel,.pinned] true (true,"fa348569fbb1f7b46a555a7cabc7f1ffdb478787e87703484432c657d4d340e8") true
  over (fun _ h=>by cases h) (by kernel_rfl) (fun _ h=>by cases h) textNames_row_tie rfl ⟨rfl,rfl⟩ (by kernel_rfl) rfl
  (fun f fn m g=>by
    obtain rfl:f=6:=Option.some.inj ((show (Tryz.prog).funcNamed "backstay/backstaylaw04.TextNames" = some 6 by kernel_rfl).symm.trans m) |>.symm
    obtain rfl:fn=Tryz.f6:=(Option.some.inj ((Tryz.func6).symm.trans g)).symm
    exact⟨by kernel_rfl,fun j t l=>by
      rw[Tryz.params6]at l
      have p:t∈[3,9]:=by simpa using Array.mem_of_getElem? l
      have d:([3,9].all fun u=>!(Tryz.prog).wantsStandIn u)=true:=by kernel_rfl
      exact(show (Tryz.prog).wantsStandIn t=false by simpa using pw.1 d t p)⟩)
  (by kernel_rfl)
#print axioms proved
end Go.Proofs.YthfjdhanbegaoaaGreatDoor.names
