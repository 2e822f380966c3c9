/- Parts. -/
import Derived.Test.YthfjdhanbegaoaaGreatDoorT27
import Derived.Test.YthfjdhanbegaoaaGreatDoorCards
import Derived.Test.YthfjdhanbegaoaaGreatDoorTie
import Derived.LaidMore
import Derived.LaidHandle
import Derived.Stop.Joined
import Derived.SevenTiedAt
import Derived.Lib.LaidTab
import Derived.Stop.LaidErr
import Derived.Shelf.Vars
import Derived.HandedShaped
import Derived.Lay
import Derived.LaidLaws
set_option linter.unusedSimpArgs false
set_option linter.unusedVariables false
set_option maxRecDepth 100000
set_option maxHeartbeats 16000000
open Go.Proofs.Tryz
namespace Go.Proofs.YthfjdhanbegaoaaGreatDoor
open Go.ChangeShapes Go.WideShapes Go.ChangeAt Go.RowKit
abbrev dN:List (String × DataW Unit):=[("math/bits.deBruijn32tab",Rows.laid_math_bits_deBruijn32tab),("math/bits.deBruijn64tab",Rows.laid_math_bits_deBruijn64tab),("internal/strconv.uint64pow10",Rows.laid_internal_strconv_uint64pow10),("unicode/utf8.acceptRanges",Rows.laid_unicode_utf8_acceptRanges),("strconv.ErrRange",Rows.laid_strconv_ErrRange),("strconv.ErrSyntax",Rows.laid_strconv_ErrSyntax),("unicode/utf8.first",Rows.laid_unicode_utf8_first)]
theorem eq (os:Os)(args:Array Value):laidMetH prog dN ((World.laidAll prog os dN).forCall (fun _ _=>0) ⟨#[],args,[]⟩).memory:=by rw[MakeChecks.laidMetH_plain _ _ _ (by kernel_rfl)];exact laidMet_laidAll _ (by kernel_rfl) (by kernel_rfl)
theorem nl {H:Type}:(Rows.laid_internal_strconv_uint64pow10:DataW H)=Lib.tabData .u64 Lib.pow10Tab:=rfl
theorem oA {enc:TypeId × Value->Unit}{W:World}{name:String}{k:IntKind}{zs:List Int}{cs:Array Value}{base:Nat}{sp:Nat->Bool}{held:Bool}{fuel:Nat}{t e:TypeId}{n:Nat}{p:List MemPlace}
  (hv:W.var? prog name=some cs) (ht:(prog).underlying t=some (.array n e)) (he:(prog).underlying e=some (.int k)) (hce:(prog).cellsOf e=1) (hct:(prog).cellsOf t=n)
  (hd:DataW.trod enc prog W base sp held fuel t cs.toList=some (Lib.tabData k zs,p)):Lib.TabIs prog W name k zs:=by
 unfold Lib.TabIs;rw[hv,<-Lib.cells_of_tab ht he hce hct hd]
theorem mC:"*" ++ "errors.errorString" = "*errors.errorString" := by decide
theorem nK (u:TypeId)(h:(prog).typeName? 3 u=some "*errors.errorString"):u=202 :=
 typeName_ptr_named (nm:="errors.errorString") (by rw[mC];kernel_rfl) (by kernel_rfl) (by decide) u (by rw[mC];exact h)
theorem jW:(prog).cellsOf 204=1:=by kernel_rfl
theorem iH:(prog).cellsOf 9=1:=by kernel_rfl
theorem eH {W:World}(h:laidMetH prog dN W)(hsh:W.ShapedOpen prog):TabW W:=by
 rw[MakeChecks.laidMetH_plain _ _ _ (by kernel_rfl)]at h;have u:=h.tail.tail.tail.tail;have B:=u.tail;obtain⟨a0,s0,p,-,-,-⟩:=laid_sentinel u (show (prog).globalNamed "strconv.ErrRange" = some 5 by kernel_rfl) (show ((prog).globals[5]?).map (·.type)=some 126 by kernel_rfl) underlying126 nK underlying202 underlying204 rfl rfl underlying9 jW iH;obtain⟨F,s1,q,-,-,-⟩:=laid_sentinel B (show (prog).globalNamed "strconv.ErrSyntax" = some 4 by kernel_rfl) (show ((prog).globals[4]?).map (·.type)=some 126 by kernel_rfl) underlying126 nK underlying202 underlying204 rfl rfl underlying9 jW iH;obtain⟨m,C⟩:=cell_of_shapedOpen_int (P:=prog) (g:=0) (t:=3) (zero:=#[.int .i64 0]) hsh (of_decide_eq_true (by kernel_rfl)) (by kernel_rfl) rfl (by kernel_rfl) (by kernel_rfl) underlying3;refine⟨?_,⟨m,C⟩,⟨_,_,q⟩,⟨_,_,p⟩⟩;have A:=h.tail.tail;obtain⟨E,⟨g2,t2,y,G,p2,H,j,l,r,d,-,-⟩,-,-⟩:=A;have z:(match (prog).globalNamed "internal/strconv.uint64pow10" with|some g=>(prog.globals[g]?).map (·.type)|none=>none)=some t2:=by rw[j];exact l
 have D:(match (prog).globalNamed "internal/strconv.uint64pow10" with|some g=>(prog.globals[g]?).map (·.type)|none=>none)=some 180:=by kernel_rfl
 obtain rfl:=Option.some.inj (D.symm.trans z);rw[nl]at d;exact oA r underlying180 underlying104 (by kernel_rfl) (by kernel_rfl) d
theorem lo {n:Int}(h:(Lit.int .u8 n).wf=true):0<=n/\n<256:=by simp[Lit.wf,IntKind.min,IntKind.max,IntKind.signed,IntKind.bits]at h;omega
theorem lJ {f:Fn}(hs:∀l∈f.blocks,∀z∈l,nE z):Tx.Im f:=fun l d x g=>(hs l d x g).1
theorem dI {H:Type}{enc:TypeId × Value->H}{a:Assume}{C:Checked}{os:Os}{f:FuncId}{fn:Func}{s:ChangeSpec}{conds:List PathCond}{apart fresh handsOn again:Bool}{X:World->Array Value->Prop}
  (hX:∀(w w':World)(args:Array Value),w.heap=w'.heap->X w args->X w' args)
  (own:ownKnob C.prog.godebug=none) (started:os.Started) (noInit:C.prog.inits.idxOf? f=none) (hfn:C.prog.funcs[f]?=some fn)
  (witness:∃(w:World)(tape:Tape)(i:Input),w.os=os/\(w.forCall tape i).Shaped C.prog/\i.vars=[]/\Input.okWide C.prog (w.forCall tape i) .any w.heap.size f i /\
    ((s.pre enc C.prog fn conds apart (w.forCall tape i).memory i.args/\X (w.forCall tape i).memory i.args)/\sizedMet enc C.prog fn (OpenSpec.ofChange s) apart (w.forCall tape i).memory i.args)/\a.holds C.prog (lone (Frame.enter C.prog f i.args .normal) [] (w.forCall tape i)))
  (contract:∀(W:World)(base:Nat)(args:Array Value)(ds gs:List (DataW H))(before:List MemPlace),
    (∀(j:Nat) t v,fn.params[j]?=some t->args[j]?=some v->Value.okWide C.prog W .any base t v) ->
    DataW.Whole enc C.prog fn.params.toList s.vars apart W args.toList ds gs before ->
    (DataW.weightsEach C.prog (fn.params.toList++s.plain.varTypes C.prog) (ds++gs)).all (·<=reachBytes)=true->X W args->W.ShapedOpen C.prog ->
    Calls C.prog f args W fun e W'=>∃v,e=.returned v/\s.post enc C.prog fn apart fresh handsOn again W args v W') :
  ReturnsInHanded a C os f .any (fun w args=>(s.pre enc C.prog fn conds apart w args/\X w args)/\sizedMet enc C.prog fn (OpenSpec.ofChange s) apart w args) (s.post enc C.prog fn apart fresh handsOn again):=by
 refine returnsInHanded_of_calls own started noInit witness ?_;intro w tape i _ r _ q g m;obtain⟨_,_,_,p,d,_,_,_,_,l⟩:=q;have e:p=fn:=Option.some.inj (d.symm.trans hfn);subst e;obtain⟨⟨⟨ds,gs,before,u,D⟩,A⟩,B⟩:=g;refine(contract (w.forCall tape i) w.heap.size i.args ds gs before l (DataW.Whole.of_heap (w':=w.forCall tape i) (by rfl) u) (B.weights u) (hX _ _ _ (by rfl) A) r).mono fun e W' ⟨v,y,z⟩=>?_;subst y;exact ChangeSpec.post_blind z
