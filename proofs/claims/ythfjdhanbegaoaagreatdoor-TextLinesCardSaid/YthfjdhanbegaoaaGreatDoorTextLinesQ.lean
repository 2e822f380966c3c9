/- The row of TextLines: whatever the input, the call returns true; the variables of Go's library hold what the program's text lays. Printed by gen_row04.py. -/
import Derived.Test.YthfjdhanbegaoaaGreatDoorT28
import Derived.Test.YthfjdhanbegaoaaGreatDoorT48
namespace Go.Proofs.YthfjdhanbegaoaaGreatDoor.lines
open Go.ChangeShapes Go.WideShapes Go.ChangeAt Go.RowKit
set_option linter.unusedVariables false
set_option maxRecDepth 100000 in
theorem lifted (os:Os)(started:os.Started)(H:Type)(enc:TypeId × Value->H) :
  ReturnsInHanded {} Tryz.checked os 9 .any (fun w args=>(Rows.textLinesSpec.pre enc Tryz.prog Tryz.f9 [] false w args/\laidMetH Tryz.prog dN w)/\sizedMet enc Tryz.prog Tryz.f9 (OpenSpec.ofChange Rows.textLinesSpec) false w args)
   (Rows.textLinesSpec.post enc Tryz.prog Tryz.f9 false true false false):=by
 refine dI (C:=Tryz.checked) (X:=fun w _=>laidMetH Tryz.prog dN w) (fun _ _ _ hh h=>h.of_heap hh) own started (by kernel_rfl) Tryz.func9
  (ChangeSpec.witness_shaped (enc:=enc) (C:=Tryz.checked) (os:=os) (X:=fun w _=>laidMetH Tryz.prog dN w) false (World.laidAll Tryz.prog os dN) #[.agg #[.slice none 0 0,.int .i64 0,.slice none 0 0,.slice none 0 0],.int .i64 0] 8 (World.laidAll_os _ _ _) (World.shaped_of_ZipB (by kernel_rfl) (by kernel_rfl)) (by kernel_rfl) (by kernel_rfl) (by kernel_rfl) (eq os _)) ?_
 intro W base args K Y before g N B Z G;have d:∀(j:Nat) t v,(Tryz.f9).params[j]?=some t->args[j]?=some v->Value.okWide Tryz.prog W .any base t v:=g;have z:(DataW.weightsEach Tryz.prog ((Tryz.f9).params.toList++Rows.textLinesSpec.plain.varTypes Tryz.prog) (K++Y)).all (·<=reachBytes)=true:=B;have D:=N;obtain⟨p,q,u,hV,rfl,aa,ab⟩:=N;have M:DataW.TrodAll enc Tryz.prog W 0 (fun _=>true) true (Tryz.f9).params.toList args.toList K p:=u;rw[Tryz.params9]at M d z;obtain⟨v0,ac,d0,T,p0,q0,E,rfl,rfl,h0,r0⟩:=trodAll_cons M;obtain⟨R,ad,d1,U,p1,q1,rfl,rfl,rfl,L,r1⟩:=trodAll_cons r0;obtain⟨rfl,rfl,rfl⟩:=trodAll_nil r1;obtain rfl:args=#[v0,R]:=by cases args;simp_all
 obtain⟨rfl,rfl⟩:=trodVars_none hV;have ht:=eH Z G;have O:=h0;have I:∀x∈p0,x.block<W.heap.size:=by obtain⟨m,hm⟩:=O;exact DataW.trod_lt m _ _ _ hm
 obtain⟨V,F,y⟩:=gh (d 0 25 v0 rfl rfl) h0 (fun m hm=>by
   have:=pw.1 z m (DataW.weights_mem_each (j:=0) (t:=25) rfl rfl m hm)
   simpa using this)
 have Q:=L;have J:∀x∈p1,x.block<W.heap.size:=by obtain⟨m,hm⟩:=Q;exact DataW.trod_lt m _ _ _ hm
 obtain⟨x1,rfl,-,-,ae⟩:=open_int Tryz.underlying3 (d 1 3 R rfl rfl) L;clear u g;have r:=lawTextLines_any _ V x1 W F (go y) (lJ y) ht;refine r.mono fun e W' ⟨he,l⟩=>?_;subst he;exact⟨_,rfl,_,_,_,[],_,[],D,trodAll_mk1 (shut_bool Tryz.underlying4 _),(trodAll_cons_mk (Below.trod laidOut (by kernel_rfl) (of_decide_eq_true (by kernel_rfl)) O l I) (trodAll_cons_mk (Below.trod laidOut (by kernel_rfl) (of_decide_eq_true (by kernel_rfl)) Q l J) trodAll_mk0)),rfl,l.frame _,fun h=>by cases h⟩
theorem over:Rows.textLinesRow.holds Tryz.pinned (OpenSpec.ofChange Rows.textLinesSpec) :=
 OpenClaim.holds_of_wide 9 Tryz.f9 rfl rfl rfl rfl rfl rfl rfl ⟨rfl,rfl,rfl,rfl,rfl⟩ rfl rfl rfl rfl rfl (by kernel_rfl) Tryz.func9 (by kernel_rfl)
  (of_decide_eq_true (by kernel_rfl)) (by unfold Func.isWrapper;first|(rw[pB (by decide +kernel)];kernel_rfl)|(rw[pC (by decide +kernel)];exact⟨rfl,rfl⟩))
  (fun os d H enc _=>lifted os d H enc)
theorem proved:Rows.TextLinesCardSaid :=
 Claim7.holds_tied_plain_at .later [] [.data,.data,.data,.data,.sentinel,.sentinel,.pinned] true (true,"fa348569fbb1f7b46a555a7cabc7f1ffdb478787e87703484432c657d4d340e8") true
  over (fun _ h=>by cases h) (by kernel_rfl) (fun _ h=>by cases h) textLines_row_tie rfl ⟨rfl,rfl⟩ (by kernel_rfl) rfl
  (fun f fn m g=>by
    obtain rfl:f=9:=Option.some.inj ((show (Tryz.prog).funcNamed "backstay/backstaylaw04.TextLines" = some 9 by kernel_rfl).symm.trans m) |>.symm
    obtain rfl:fn=Tryz.f9:=(Option.some.inj ((Tryz.func9).symm.trans g)).symm
    exact⟨by kernel_rfl,fun j t l=>by
      rw[Tryz.params9]at l
      have p:t∈[25,3]:=by simpa using Array.mem_of_getElem? l
      have d:([25,3].all fun u=>!(Tryz.prog).wantsStandIn u)=true:=by kernel_rfl
      exact(show (Tryz.prog).wantsStandIn t=false by simpa using pw.1 d t p)⟩)
  (by kernel_rfl)
#print axioms proved
end Go.Proofs.YthfjdhanbegaoaaGreatDoor.lines
