/- The row of TextCounts: whatever the input, the call returns true; the variables of Go's library hold what the program's text lays. Printed by gen_row04.py. -/
import Derived.Test.YthfjdhanbegaoaaGreatDoorT28
import Derived.Test.YthfjdhanbegaoaaGreatDoorT46
namespace Go.Proofs.YthfjdhanbegaoaaGreatDoor.counts
open Go.ChangeShapes Go.WideShapes Go.ChangeAt Go.RowKit
set_option linter.unusedVariables false
set_option maxRecDepth 100000 in
theorem lifted (os:Os)(started:os.Started)(H:Type)(enc:TypeId × Value->H) :
  ReturnsInHanded {} Tryz.checked os 8 .any (fun w args=>(Rows.textCountsSpec.pre enc Tryz.prog Tryz.f8 [] false w args/\laidMetH Tryz.prog dN w)/\sizedMet enc Tryz.prog Tryz.f8 (OpenSpec.ofChange Rows.textCountsSpec) false w args)
   (Rows.textCountsSpec.post enc Tryz.prog Tryz.f8 false true false false):=by
 refine dI (C:=Tryz.checked) (X:=fun w _=>laidMetH Tryz.prog dN w) (fun _ _ _ hh h=>h.of_heap hh) own started (by kernel_rfl) Tryz.func8
  (ChangeSpec.witness_shaped (enc:=enc) (C:=Tryz.checked) (os:=os) (X:=fun w _=>laidMetH Tryz.prog dN w) false (World.laidAll Tryz.prog os dN) #[.string ⟨#[]⟩,.string ⟨#[]⟩] 8 (World.laidAll_os _ _ _) (World.shaped_of_ZipB (by kernel_rfl) (by kernel_rfl)) (by kernel_rfl) (by kernel_rfl) (by kernel_rfl) (eq os _)) ?_
 intro W base args I V before l L y Y D;have g:∀(j:Nat) t v,(Tryz.f8).params[j]?=some t->args[j]?=some v->Value.okWide Tryz.prog W .any base t v:=l;have E:(DataW.weightsEach Tryz.prog ((Tryz.f8).params.toList++Rows.textCountsSpec.plain.varTypes Tryz.prog) (I++V)).all (·<=reachBytes)=true:=y;have z:=L;obtain⟨p,q,u,Z,rfl,aa,ab⟩:=L;have K:DataW.TrodAll enc Tryz.prog W 0 (fun _=>true) true (Tryz.f8).params.toList args.toList I p:=u;rw[Tryz.params8]at K g E;obtain⟨v0,ac,d0,T,p0,q0,B,rfl,rfl,h0,r0⟩:=trodAll_cons K;obtain⟨O,ad,d1,U,p1,q1,rfl,rfl,rfl,J,r1⟩:=trodAll_cons r0;obtain⟨rfl,rfl,rfl⟩:=trodAll_nil r1;obtain rfl:args=#[v0,O]:=by cases args;simp_all
 obtain⟨rfl,rfl⟩:=trodVars_none Z;have ht:=eH Y D;have M:=h0;have F:∀x∈p0,x.block<W.heap.size:=by obtain⟨m,hm⟩:=M;exact DataW.trod_lt m _ _ _ hm
 obtain⟨Q,rfl,-,-,-⟩:=Go.ChangeMaps.open_string Tryz.underlying9 (g 0 9 v0 rfl rfl) h0;have N:=J;have G:∀x∈p1,x.block<W.heap.size:=by obtain⟨m,hm⟩:=N;exact DataW.trod_lt m _ _ _ hm
 obtain⟨R,rfl,-,-,-⟩:=Go.ChangeMaps.open_string Tryz.underlying9 (g 1 9 O rfl rfl) J;clear u l;have d:=lawTextCounts_any Q.data.toList R.data.toList W ht;rw[ie Q,ie R]at d;refine d.mono fun e W' ⟨he,r⟩=>?_;subst he;exact⟨_,rfl,_,_,_,[],_,[],z,trodAll_mk1 (shut_bool Tryz.underlying4 _),(trodAll_cons_mk (Below.trod laidOut (by kernel_rfl) (of_decide_eq_true (by kernel_rfl)) M r F) (trodAll_cons_mk (Below.trod laidOut (by kernel_rfl) (of_decide_eq_true (by kernel_rfl)) N r G) trodAll_mk0)),rfl,r.frame _,fun h=>by cases h⟩
theorem over:Rows.textCountsRow.holds Tryz.pinned (OpenSpec.ofChange Rows.textCountsSpec) :=
 OpenClaim.holds_of_wide 8 Tryz.f8 rfl rfl rfl rfl rfl rfl rfl ⟨rfl,rfl,rfl,rfl,rfl⟩ rfl rfl rfl rfl rfl (by kernel_rfl) Tryz.func8 (by kernel_rfl)
  (of_decide_eq_true (by kernel_rfl)) (by unfold Func.isWrapper;first|(rw[pB (by decide +kernel)];kernel_rfl)|(rw[pC (by decide +kernel)];exact⟨rfl,rfl⟩))
  (fun os d H enc _=>lifted os d H enc)
theorem proved:Rows.TextCountsCardSaid :=
 Claim7.holds_tied_plain_at .later [] [.data,.data,.data,.data,.sentinel,.sentinel,.pinned] true (true,"fa348569fbb1f7b46a555a7cabc7f1ffdb478787e87703484432c657d4d340e8") true
  over (fun _ h=>by cases h) (by kernel_rfl) (fun _ h=>by cases h) textCounts_row_tie rfl ⟨rfl,rfl⟩ (by kernel_rfl) rfl
  (fun f fn m g=>by
    obtain rfl:f=8:=Option.some.inj ((show (Tryz.prog).funcNamed "backstay/backstaylaw04.TextCounts" = some 8 by kernel_rfl).symm.trans m) |>.symm
    obtain rfl:fn=Tryz.f8:=(Option.some.inj ((Tryz.func8).symm.trans g)).symm
    exact⟨by kernel_rfl,fun j t l=>by
      rw[Tryz.params8]at l
      have p:t∈[9,9]:=by simpa using Array.mem_of_getElem? l
      have d:([9,9].all fun u=>!(Tryz.prog).wantsStandIn u)=true:=by kernel_rfl
      exact(show (Tryz.prog).wantsStandIn t=false by simpa using pw.1 d t p)⟩)
  (by kernel_rfl)
#print axioms proved
end Go.Proofs.YthfjdhanbegaoaaGreatDoor.counts
