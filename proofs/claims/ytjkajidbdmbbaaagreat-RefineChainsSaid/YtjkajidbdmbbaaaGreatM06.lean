/- Parts. -/
import Derived.Test.YtjkajidbdmbbaaaGreatM04
import Derived.IntWalk
set_option linter.unusedSimpArgs false
set_option linter.unusedVariables false
set_option maxRecDepth 100000
set_option maxHeartbeats 16000000
namespace Go.Proofs.YtjkajidbdmbbaaaGreat
open Go.RowKit
theorem kz {a b:Int}(h:a=b):Ending.returned (.int .u32 a)=.returned (.int .u32 b):=by rw[h]
theorem eG {n:Int}(h:Wd.Wid n):Wd.widB n=true:=by unfold Wd.widB;have:=h.1;have:=h.2;simp;omega
theorem pR {n:Int}(h:Wd.widB n=true):Wd.Wid n:=by unfold Wd.widB at h;simp at h;exact h
theorem qU {n a:Int}(hn:Wd.Wid n)(h:Wd.Word n a):0<=a/\a<4294967296:=by have:=Wd.sz_32 hn;have:=h.1;have:=h.2;omega
