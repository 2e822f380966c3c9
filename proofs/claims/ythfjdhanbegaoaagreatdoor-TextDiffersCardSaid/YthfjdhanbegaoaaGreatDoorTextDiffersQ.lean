/- The row of TextDiffers: whatever the input, the call returns true; the variables of Go's library hold what the program's text lays. Printed by gen_row04.py. -/
import Derived.Test.YthfjdhanbegaoaaGreatDoorT28
import Derived.Test.YthfjdhanbegaoaaGreatDoorT50
namespace Go.Proofs.YthfjdhanbegaoaaGreatDoor.differs
open Go.ChangeShapes Go.WideShapes Go.ChangeAt Go.RowKit
set_option linter.unusedVariables false
set_option maxRecDepth 100000 in
theorem lifted (os:Os)(started:os.Started)(H:Type)(enc:TypeId × Value->H) :
  ReturnsInHanded {} Tryz.checked os 7 .any (fun w args=>(Rows.textDiffersSpec.pre enc Tryz.prog Tryz.f7 [] false w args/\laidMetH Tryz.prog dN w)/\sizedMet enc Tryz.prog Tryz.f7 (OpenSpec.ofChange Rows.textDiffersSpec) false w args)
   (Rows.textDiffersSpec.post enc Tryz.prog Tryz.f7 false true false false):=by
 refine dI (C:=Tryz.checked) (X:=fun w _=>laidMetH Tryz.prog dN w) (fun _ _ _ hh h=>h.of_heap hh) own started (by kernel_rfl) Tryz.func7
  (ChangeSpec.witness_shaped (enc:=enc) (C:=Tryz.checked) (os:=os) (X:=fun w _=>laidMetH Tryz.prog dN w) false (World.laidAll Tryz.prog os dN) #[.agg #[.slice none 0 0,.int .i64 0,.slice none 0 0,.slice none 0 0],.agg #[.slice none 0 0,.int .i64 0,.slice none 0 0,.slice none 0 0]] 8 (World.laidAll_os _ _ _) (World.shaped_of_ZipB (by kernel_rfl) (by kernel_rfl)) (by kernel_rfl) (by kernel_rfl) (by kernel_rfl) (eq os _)) ?_
 intro W base args M gs before g Q D hL J;have d:∀(j:Nat) t v,(Tryz.f7).params[j]?=some t->args[j]?=some v->Value.okWide Tryz.prog W .any base t v:=g;have u:(DataW.weightsEach Tryz.prog ((Tryz.f7).params.toList++Rows.textDiffersSpec.plain.varTypes Tryz.prog) (M++gs)).all (·<=reachBytes)=true:=D;have E:=Q;obtain⟨p,q,y,hV,rfl,aa,ab⟩:=Q;have O:DataW.TrodAll enc Tryz.prog W 0 (fun _=>true) true (Tryz.f7).params.toList args.toList M p:=y;rw[Tryz.params7]at O d u;obtain⟨v0,ac,d0,V,p0,q0,F,rfl,rfl,h0,r0⟩:=trodAll_cons O;obtain⟨U,ad,d1,Y,p1,q1,rfl,rfl,rfl,N,r1⟩:=trodAll_cons r0;obtain⟨rfl,rfl,rfl⟩:=trodAll_nil r1;obtain rfl:args=#[v0,U]:=by cases args;simp_all
 obtain⟨rfl,rfl⟩:=trodVars_none hV;have ht:=eH hL J;have R:=h0;have K:∀x∈p0,x.block<W.heap.size:=by obtain⟨m,hm⟩:=R;exact DataW.trod_lt m _ _ _ hm
 obtain⟨Z,G,z⟩:=gh (d 0 25 v0 rfl rfl) h0 (fun m hm=>by
   have:=pw.1 u m (DataW.weights_mem_each (j:=0) (t:=25) rfl rfl m hm)
   simpa using this)
 have T:=N;have L:∀x∈p1,x.block<W.heap.size:=by obtain⟨m,hm⟩:=T;exact DataW.trod_lt m _ _ _ hm
 obtain⟨f1,I,B⟩:=gh (d 1 25 U rfl rfl) N (fun m hm=>by
   have:=pw.1 u m (DataW.weights_mem_each (j:=1) (t:=25) rfl rfl m hm)
   simpa using this)
 clear y g;have r:=lawTextDiffers_any _ _ Z f1 W G I (go z) (go B) (lJ z) (lJ B) ht;refine r.mono fun e W' ⟨he,l⟩=>?_;subst he;exact⟨_,rfl,_,_,_,[],_,[],E,trodAll_mk1 (shut_bool Tryz.underlying4 _),(trodAll_cons_mk (Below.trod laidOut (by kernel_rfl) (of_decide_eq_true (by kernel_rfl)) R l K) (trodAll_cons_mk (Below.trod laidOut (by kernel_rfl) (of_decide_eq_true (by kernel_rfl)) T l L) trodAll_mk0)),rfl,l.frame _,fun h=>by cases h⟩
theorem over:Rows.textDiffersRow.holds Tryz.pinned (OpenSpec.ofChange Rows.textDiffersSpec) :=
 OpenClaim.holds_of_wide 7 Tryz.f7 rfl rfl rfl rfl rfl rfl rfl ⟨rfl,rfl,rfl,rfl,rfl⟩ rfl rfl rfl rfl rfl (by kernel_rfl) Tryz.func7 (by kernel_rfl)
  (of_decide_eq_true (by kernel_rfl)) (by unfold Func.isWrapper;first|(rw[pB (by decide +kernel)];kernel_rfl)|(rw[pC (by decide +kernel)];exact⟨rfl,rfl⟩))
  (fun os d H enc _=>lifted os d H enc)
theorem proved:Rows.TextDiffersCardSaid :=
 Claim7.holds_tied_plain_at .later [] [.data,.data,.data,.data,.sentinel,.sentinel,.pinned] true (true,"fa348569fbb1f7b46a555a7cabc7f1ffdb478787e87703484432c657d4d340e8") true
  over (fun _ h=>by cases h) (by kernel_rfl) (fun _ h=>by cases h) textDiffers_row_tie rfl ⟨rfl,rfl⟩ (by kernel_rfl) rfl
  (fun f fn m g=>by
    obtain rfl:f=7:=Option.some.inj ((show (Tryz.prog).funcNamed "backstay/backstaylaw04.TextDiffers" = some 7 by kernel_rfl).symm.trans m) |>.symm
    obtain rfl:fn=Tryz.f7:=(Option.some.inj ((Tryz.func7).symm.trans g)).symm
    exact⟨by kernel_rfl,fun j t l=>by
      rw[Tryz.params7]at l
      have p:t∈[25,25]:=by simpa using Array.mem_of_getElem? l
      have d:([25,25].all fun u=>!(Tryz.prog).wantsStandIn u)=true:=by kernel_rfl
      exact(show (Tryz.prog).wantsStandIn t=false by simpa using pw.1 d t p)⟩)
  (by kernel_rfl)
#print axioms proved
end Go.Proofs.YthfjdhanbegaoaaGreatDoor.differs
