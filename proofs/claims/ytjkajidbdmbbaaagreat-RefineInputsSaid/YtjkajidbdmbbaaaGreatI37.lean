/- Parts. -/
import Derived.Test.YtjkajidbdmbbaaaGreatI36
import Derived.Shelf.RegionOpenPlain
set_option linter.unusedSimpArgs false
set_option linter.unusedVariables false
set_option maxRecDepth 100000
set_option maxHeartbeats 16000000
namespace Go.Proofs.YtjkajidbdmbbaaaGreat
section
open Go.RowKit
def VsAt (w:World)(v:Value)(l:List Rn.V):Prop:=∃B,w.ownsRow B 24 3 v l.length (dF l)
section
variable {w w':World}{v:Value}{l:List Rn.V}
theorem VsAt.gr (h:VsAt w v l)(g:Gr w w'):VsAt w' v l:=by obtain⟨B,h⟩:=h;exact⟨B,fU h g⟩
theorem VsAt.form (h:VsAt w v l):∃A c,v=.slice A l.length c/\l.length<=c:=by obtain⟨B,h⟩:=h;obtain⟨A,c,e,d,-⟩:=dE h;exact⟨A,c,e,d⟩
theorem VsAt.cells (h:VsAt w v l){k:Nat}{y:Rn.V}(hy:l[k]?=some y):∃b c,v=.slice (some ⟨b,0,none⟩) l.length c/\l.length<=c/\b<w.heap.size/\w.cell? ⟨b,k*3,none⟩=some (.bool y.p)/\w.cell? ⟨b,k*3+1,none⟩=some (.int .i64 y.s)/\w.cell? ⟨b,k*3+2,none⟩=some (.int .u32 y.n):=by obtain⟨B,h⟩:=h;obtain⟨A,c,rfl,q,-⟩:=dE h;have t:=(sR.1 hy).1;obtain⟨b,rfl,r,-,d⟩:=dq h rfl (by omega);obtain⟨g,j,m⟩:=eH l k y hy;rw[Nat.mul_comm]at g j m;exact⟨b,c,rfl,q,r,(d _ (by omega)).trans g,(d _ (by omega)).trans j,(d _ (by omega)).trans m⟩
end
end
