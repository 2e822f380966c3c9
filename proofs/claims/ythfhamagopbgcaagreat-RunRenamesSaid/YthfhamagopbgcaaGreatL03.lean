/- Parts. -/
import Derived.Test.YthfhamagopbgcaaGreatL01
import Derived.Test.YthfhamagopbgcaaGreatProg
import Derived.BigQuiet
set_option linter.unusedSimpArgs false
set_option linter.unusedVariables false
set_option maxRecDepth 100000
set_option maxHeartbeats 16000000
open Go.Proofs.Tryz
namespace Go.Proofs.YthfhamagopbgcaaGreat
open Go.RowKit
theorem dR:(prog.info? 3).map (fun i=>(i.zero,i.size,i.bytes))=some (some (.int .i64 0),1,8):=by kernel_rfl
theorem iD:(prog.info? 22).map (fun i=>(i.zero,i.size,i.bytes))=some (some (.slice none 0 0),1,24):=by kernel_rfl
theorem gz (bs:List (List Ins))(k:Nat)(l:List Ins)(h:bs[k]?=some l)(x:Ins)(hx:l.getLast?=some x) :
  ((bs.take (k+1)).map fun l=>(l.getLast?.map (·.to)).getD [])=((bs.take k).map fun l=>(l.getLast?.map (·.to)).getD [])++[x.to]:=by
 obtain⟨d,e⟩:=yC.1 h;rw[wi d,e,List.map_append];simp[hx]
