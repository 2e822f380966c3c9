/- Parts. -/
import Derived.Test.YthfhamagopbgcaaGreatL02
set_option linter.unusedSimpArgs false
set_option linter.unusedVariables false
set_option maxRecDepth 100000
set_option maxHeartbeats 16000000
namespace Go.Proofs.YthfhamagopbgcaaGreat
namespace Rn
open Ref
theorem explore_asc {f:Fn}{i:Inp}:∀(n:Nat)(p:List Int)(outs R:List Out),explore f i n p outs=some R->Asc outs->Asc R/\R.length<=outs.length+n
 | 0,p,outs,R,h,_=>by simp[explore]at h
 | n+1,p,outs,R,h,ha=>by
  obtain⟨g,j⟩:=explore_round h
  have d:=insert_asc (run f (given p) i).1 outs ha;have m:=insert_len (run f (given p) i).1 outs
  cases hk:nextK (padded p (wids f i p).length) (wids f i p) (wids f i p).length with
  | none=>have:=g hk;injection this with this;rw[this];exact⟨d,by omega⟩
  | some k =>
   obtain⟨l,q⟩:=explore_asc n _ _ R (j k hk) d;exact⟨l,by omega⟩
theorem all_asc {f:Fn}{i:Inp}{outs:List Out}(h:all f i=some outs):Asc outs/\outs.length<=256:=by obtain⟨d,g⟩:=explore_asc 256 [] [] outs h (by unfold Asc;exact List.Pairwise.nil);exact⟨d,by simpa using g⟩
end Rn
