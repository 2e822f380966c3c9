/- Parts. -/
import Derived.Test.YthfhamagopbgcaaGreatL39
set_option linter.unusedSimpArgs false
set_option linter.unusedVariables false
set_option maxRecDepth 100000
set_option maxHeartbeats 16000000
namespace Go.Proofs.YthfhamagopbgcaaGreat
section
open Go.RowKit
theorem fm:∀a b:List Rn.V,dy (a++b)=dy a++dy b
 | [],b=>rfl
 | x::r,b=>by simp only[List.cons_append,dy,fm r b]
def VsAt (w:World)(v:Value)(l:List Rn.V):Prop:=∃B,w.ownsRow B 37 3 v l.length (dy l)
section
variable {w w':World}{v:Value}{l:List Rn.V}
theorem VsAt.gr (h:VsAt w v l)(g:Gr w w'):VsAt w' v l:=by obtain⟨B,h⟩:=h;exact⟨B,ew h g⟩
theorem VsAt.form (h:VsAt w v l):∃A c,v=.slice A l.length c/\l.length<=c:=by obtain⟨B,h⟩:=h;obtain⟨A,c,e,d,-⟩:=dU h;exact⟨A,c,e,d⟩
theorem VsAt.cells (h:VsAt w v l){k:Nat}{y:Rn.V}(hy:l[k]?=some y):∃b c,v=.slice (some ⟨b,0,none⟩) l.length c/\l.length<=c/\b<w.heap.size/\w.cell? ⟨b,k*3,none⟩=some (.bool y.p)/\w.cell? ⟨b,k*3+1,none⟩=some (.int .i64 y.s)/\w.cell? ⟨b,k*3+2,none⟩=some (.int .u32 y.n):=by obtain⟨B,h⟩:=h;obtain⟨A,c,rfl,q,-⟩:=dU h;have t:=(yC.1 hy).1;obtain⟨b,rfl,r,-,d⟩:=dz h rfl (by omega);obtain⟨g,j,m⟩:=dZ l k y hy;rw[Nat.mul_comm]at g j m;exact⟨b,c,rfl,q,r,(d _ (by omega)).trans g,(d _ (by omega)).trans j,(d _ (by omega)).trans m⟩
end
theorem app3 {P:Program}{w:World}{ops:Array Oper}{rest:List Oper}{o:Oper}{a:Act}{Q:Exit->Act->World->Prop}{B n:Nat}{t e:TypeId}{i:TypeInfo}{z:Value}{bytes:Nat}
  (ht:P.underlying t=some (.slice e)) (hi:P.info? e=some i) (hz:i.zero=some z) (hsize:i.size=3) (hby:i.bytes=bytes) (hzs:z.cells.size=3) (hbb:bytes<=128)
  (hgd:o.guard=none) (s x:Operand) (ho:o.op=.call {callee:=.builtin .append,args:=#[s,x],argTypes:=#[t,t]})
  {v:Value} {l:List Rn.V} (hn:l.length=n) (hs:a.eval s=v) (hown:w.ownsRow B e 3 v n (dy l)) {y:Rn.V} {e':TypeId} (hx:a.eval x=.slice (some ⟨w.heap.size,0,none⟩) 1 1) (hlt:n<1099511627776) (hB:B<=w.heap.size)
  (h:∀A c w',w'.ownsRow B e 3 (.slice A (n+1) c) (n+1) (dy (l++[y]))->(w.alloc (.cells #[.bool y.p,.int .i64 y.s,.int .u32 y.n] e')).grownBy w' v.ownBlock->wpList P ops Q rest (a.put o.dst (.slice A (n+1) c)) w') :
  wpList P ops Q (o::rest) a (w.alloc (.cells #[.bool y.p,.int .i64 y.s,.int .u32 y.n] e')):=by
 refine dG hgd s x t ho B e i z 3 bytes ht hi hz hsize hby hzs (by omega) v n (dy l) hs (ew hown ((wL _).alloc _)) _ 1 [.bool y.p,.int .i64 y.s,.int .u32 y.n] hx (yG _ [.bool y.p,.int .i64 y.s,.int .u32 y.n] _) ?_ ?_ ?_ ?_ ?_
 ·intro u g;simp at g;rcases g with rfl|rfl|rfl<;>rfl
 ·simp only[maxLen];omega
 ·have:(n+1)*bytes<=(n+1)*128:=Nat.mul_le_mul_left _ hbb;omega
 ·simp;omega
 ·intro r w' d q m;have j:dy l++[.bool y.p,.int .i64 y.s,.int .u32 y.n]=dy (l++[y]):=by rw[fm];rfl
  rw[j]at d;obtain⟨A,c,hv,-⟩:=dU d;subst hv;exact h A c w' d q
end
