/- Parts. -/
import Derived.Test.YtjkajidbdmbbaaaGreatI39
set_option linter.unusedSimpArgs false
set_option linter.unusedVariables false
set_option maxRecDepth 100000
set_option maxHeartbeats 16000000
namespace Go.Proofs.YtjkajidbdmbbaaaGreat
section
open Go.RowKit
theorem VsAt.three {w:World}{v:Value}{A B D:Rn.V}(h:VsAt w v [A,B,D]):∃b c,v=.slice (some ⟨b,0,none⟩) 3 c/\3<=c/\b<w.heap.size/\(w.cell? ⟨b,0,none⟩=some (.bool A.p)/\w.cell? ⟨b,1,none⟩=some (.int .i64 A.s)/\w.cell? ⟨b,2,none⟩=some (.int .u32 A.n))/\(w.cell? ⟨b,3,none⟩=some (.bool B.p)/\w.cell? ⟨b,4,none⟩=some (.int .i64 B.s)/\w.cell? ⟨b,5,none⟩=some (.int .u32 B.n))/\(w.cell? ⟨b,6,none⟩=some (.bool D.p)/\w.cell? ⟨b,7,none⟩=some (.int .i64 D.s)/\w.cell? ⟨b,8,none⟩=some (.int .u32 D.n)):=by obtain⟨b,c,e,m,q,r,t,u⟩:=h.cells (k:=0) rfl;obtain⟨H,I,g,-,-,y,z,C⟩:=h.cells (k:=1) rfl;obtain⟨j,l,d,-,-,E,F,G⟩:=h.cells (k:=2) rfl;rw[e]at g d;injection g with g;injection g with g;injection g with g _;subst g;injection d with d;injection d with d;injection d with d _;subst d;exact⟨b,c,e,m,q,⟨r,t,u⟩,⟨y,z,C⟩,E,F,G⟩
section
variable {c:Cfg}{pk bl:List Int}{w:World}{s:Rn.St}{o:Rn.Out}{om wv bv:Value}
end
section
variable {c:Cfg}{pk bl:List Int}{w:World}{s:Rn.St}{o:Rn.Out}{om wv bv:Value}
end
end
