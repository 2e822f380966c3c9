/- The row of TextPrints: whatever the input, the call returns true; the variables of Go's library hold what the program's text lays. Printed by gen_row04.py. -/
import Derived.Test.YthfjdhanbegaoaaGreatDoorT28
import Derived.Test.YthfjdhanbegaoaaGreatDoorT41
namespace Go.Proofs.YthfjdhanbegaoaaGreatDoor.prints
open Go.ChangeShapes Go.WideShapes Go.ChangeAt Go.RowKit
set_option linter.unusedVariables false
set_option maxRecDepth 100000 in
theorem lifted (os:Os)(started:os.Started)(H:Type)(enc:TypeId × Value->H) :
  ReturnsInHanded {} Tryz.checked os 3 .any (fun w args=>(Rows.textPrintsSpec.pre enc Tryz.prog Tryz.f3 [] false w args/\laidMetH Tryz.prog dN w)/\sizedMet enc Tryz.prog Tryz.f3 (OpenSpec.ofChange Rows.textPrintsSpec) false w args)
   (Rows.textPrintsSpec.post enc Tryz.prog Tryz.f3 false true false false):=by
 refine dI (C:=Tryz.checked) (X:=fun w _=>laidMetH Tryz.prog dN w) (fun _ _ _ hh h=>h.of_heap hh) own started (by kernel_rfl) Tryz.func3
  (ChangeSpec.witness_shaped (enc:=enc) (C:=Tryz.checked) (os:=os) (X:=fun w _=>laidMetH Tryz.prog dN w) false (World.laidAll Tryz.prog os dN) #[.agg #[.slice none 0 0,.int .i64 0,.slice none 0 0,.slice none 0 0]] 8 (World.laidAll_os _ _ _) (World.shaped_of_ZipB (by kernel_rfl) (by kernel_rfl)) (by kernel_rfl) (by kernel_rfl) (by kernel_rfl) (eq os _)) ?_
 intro W base args J Q before d L B R G;have g:∀(j:Nat) t v,(Tryz.f3).params[j]?=some t->args[j]?=some v->Value.okWide Tryz.prog W .any base t v:=d;have z:(DataW.weightsEach Tryz.prog ((Tryz.f3).params.toList++Rows.textPrintsSpec.plain.varTypes Tryz.prog) (J++Q)).all (·<=reachBytes)=true:=B;have D:=L;obtain⟨p,q,u,T,rfl,V,Y⟩:=L;have K:DataW.TrodAll enc Tryz.prog W 0 (fun _=>true) true (Tryz.f3).params.toList args.toList J p:=u;rw[Tryz.params3]at K g z;obtain⟨v0,aa,d0,N,p0,q0,E,rfl,rfl,h0,r0⟩:=trodAll_cons K;obtain⟨rfl,rfl,rfl⟩:=trodAll_nil r0;obtain rfl:args=#[v0]:=by cases args;simp_all
 obtain⟨rfl,rfl⟩:=trodVars_none T;have Z:=eH R G;have M:=h0;have I:∀x∈p0,x.block<W.heap.size:=by obtain⟨m,hm⟩:=M;exact DataW.trod_lt m _ _ _ hm
 obtain⟨O,F,y⟩:=gh (g 0 25 v0 rfl rfl) h0 (fun m hm=>by
   have:=pw.1 z m (DataW.weights_mem_each (j:=0) (t:=25) rfl rfl m hm)
   simpa using this)
 clear u d;have l:=lawTextPrints_any _ O W F (go y) (lJ y) Z;refine l.mono fun e W' ⟨U,r⟩=>?_;subst U;exact⟨_,rfl,_,_,_,[],_,[],D,trodAll_mk1 (shut_bool Tryz.underlying4 _),(trodAll_cons_mk (Below.trod laidOut (by kernel_rfl) (of_decide_eq_true (by kernel_rfl)) M r I) trodAll_mk0),rfl,r.frame _,fun h=>by cases h⟩
theorem over:Rows.textPrintsRow.holds Tryz.pinned (OpenSpec.ofChange Rows.textPrintsSpec) :=
 OpenClaim.holds_of_wide 3 Tryz.f3 rfl rfl rfl rfl rfl rfl rfl ⟨rfl,rfl,rfl,rfl,rfl⟩ rfl rfl rfl rfl rfl (by kernel_rfl) Tryz.func3 (by kernel_rfl)
  (of_decide_eq_true (by kernel_rfl)) (by unfold Func.isWrapper;first|(rw[pB (by decide +kernel)];kernel_rfl)|(rw[pC (by decide +kernel)];exact⟨rfl,rfl⟩))
  (fun os d H enc _=>lifted os d H enc)
theorem proved:Rows.TextPrintsCardSaid :=
 Claim7.holds_tied_plain_at .later [] [.data,.data,.data,.data,.sentinel,.sentinel,.pinned] true (true,"fa348569fbb1f7b46a555a7cabc7f1ffdb478787e87703484432c657d4d340e8") true
  over (fun _ h=>by cases h) (by kernel_rfl) (fun _ h=>by cases h) textPrints_row_tie rfl ⟨rfl,rfl⟩ (by kernel_rfl) rfl
  (fun f fn m g=>by
    obtain rfl:f=3:=Option.some.inj ((show (Tryz.prog).funcNamed "backstay/backstaylaw04.TextPrints" = some 3 by kernel_rfl).symm.trans m) |>.symm
    obtain rfl:fn=Tryz.f3:=(Option.some.inj ((Tryz.func3).symm.trans g)).symm
    exact⟨by kernel_rfl,fun j t l=>by
      rw[Tryz.params3]at l
      have p:t∈[25]:=by simpa using Array.mem_of_getElem? l
      have d:([25].all fun u=>!(Tryz.prog).wantsStandIn u)=true:=by kernel_rfl
      exact(show (Tryz.prog).wantsStandIn t=false by simpa using pw.1 d t p)⟩)
  (by kernel_rfl)
#print axioms proved
end Go.Proofs.YthfjdhanbegaoaaGreatDoor.prints
