/- Parts. -/
import Derived.Test.YtjkajidbdmbbaaaGreatI38
import Derived.Test.YtjkajidbdmbbaaaGreatI37
set_option linter.unusedSimpArgs false
set_option linter.unusedVariables false
set_option maxRecDepth 100000
set_option maxHeartbeats 16000000
namespace Go.Proofs.YtjkajidbdmbbaaaGreat
open Go.RowKit
theorem VsAt.one {w:World}{v:Value}{A:Rn.V}(h:VsAt w v [A]):∃b c,v=.slice (some ⟨b,0,none⟩) 1 c/\1<=c/\b<w.heap.size/\w.cell? ⟨b,0,none⟩=some (.bool A.p)/\w.cell? ⟨b,1,none⟩=some (.int .i64 A.s)/\w.cell? ⟨b,2,none⟩=some (.int .u32 A.n):=by obtain⟨b,c,e,d,g,j,l,m⟩:=h.cells (k:=0) rfl;exact⟨b,c,e,d,g,j,l,m⟩
theorem VsAt.two {w:World}{v:Value}{A B:Rn.V}(h:VsAt w v [A,B]):∃b c,v=.slice (some ⟨b,0,none⟩) 2 c/\2<=c/\b<w.heap.size/\(w.cell? ⟨b,0,none⟩=some (.bool A.p)/\w.cell? ⟨b,1,none⟩=some (.int .i64 A.s)/\w.cell? ⟨b,2,none⟩=some (.int .u32 A.n))/\(w.cell? ⟨b,3,none⟩=some (.bool B.p)/\w.cell? ⟨b,4,none⟩=some (.int .i64 B.s)/\w.cell? ⟨b,5,none⟩=some (.int .u32 B.n)):=by obtain⟨b,c,e,g,j,l,m,q⟩:=h.cells (k:=0) rfl;obtain⟨y,z,d,-,-,r,t,u⟩:=h.cells (k:=1) rfl;rw[e]at d;injection d with d;injection d with d;injection d with d _;subst d;exact⟨b,c,e,g,j,⟨l,m,q⟩,r,t,u⟩
