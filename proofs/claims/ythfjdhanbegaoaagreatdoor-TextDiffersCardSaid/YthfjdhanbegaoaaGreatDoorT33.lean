/- Parts. -/
import Derived.Test.YthfjdhanbegaoaaGreatDoorT20
import Derived.Orders
set_option linter.unusedSimpArgs false
set_option linter.unusedVariables false
set_option maxRecDepth 100000
set_option maxHeartbeats 16000000
open Go.Proofs.Tryz
namespace Go.Proofs.YthfjdhanbegaoaaGreatDoor
section
open Go.RowKit
def Kt (w w':World):Prop:=∀(k:Nat)(c:Array Value)(t:TypeId),w.heap[k]?=some (Obj.cells c t (0,0))->(t=3\/t=50)->w'.heap[k]?=some (Obj.cells c t (0,0))
theorem Kt.refl (w:World):Kt w w:=fun _ _ _ h _=>h
theorem Kt.trans {a b c:World}(h:Kt a b)(k:Kt b c):Kt a c:=fun _ _ _ q t=>k _ _ _ (h _ _ _ q t) t
theorem Gr.kt {a b:World}(h:Gr a b):Kt a b:=fun k _ _ q _=>(h.heap k (pf.1 q).1).trans q
def TI (n₀:Nat)(w:World)(v:Value)(zs:List Int):Prop :=
 ∃A c,v=.slice A zs.length c/\zs.length<=c/\zs.length<=17592186044416/\(0<zs.length->∃(b:Nat)(cur:Array Value),A=some ⟨b,0,none⟩/\n₀<=b/\w.heap[b]?=some (.cells cur 3 (0,0))/\∀(j:Nat)(z:Int),zs[j]?=some z->cur[j]?=some (.int .i64 z))
theorem TI.kt {n₀:Nat}{w w':World}{v:Value}{zs:List Int}(h:TI n₀ w v zs)(k:Kt w w'):TI n₀ w' v zs:=by obtain⟨A,c,rfl,g,j,l⟩:=h;refine⟨A,c,rfl,g,j,fun q=>?_⟩;obtain⟨b,d,e,m,p,r⟩:=l q;exact⟨b,d,e,m,k _ _ _ p (.inl rfl),r⟩
theorem TI.gr {n₀:Nat}{w w':World}{v:Value}{zs:List Int}(h:TI n₀ w v zs)(k:Gr w w'):TI n₀ w' v zs:=h.kt k.kt
theorem TI.lower {n₀ n₁:Nat}{w:World}{v:Value}{zs:List Int}(h:TI n₁ w v zs)(k:n₀<=n₁):TI n₀ w v zs:=by obtain⟨A,c,rfl,g,j,l⟩:=h;refine⟨A,c,rfl,g,j,fun q=>?_⟩;obtain⟨b,d,e,m,p⟩:=l q;exact⟨b,d,e,Nat.le_trans k m,p⟩
theorem TI.ints {n₀:Nat}{w:World}{v:Value}{zs:List Int}(h:TI n₀ w v zs):IntsAt w.heap.size w v zs:=by obtain⟨A,c,rfl,l,m,p⟩:=h;refine⟨A,c,rfl,l,m,fun r=>?_⟩;obtain⟨b,d,rfl,u,g,t⟩:=p r;exact⟨b,0,rfl,(pf.1 g).1,fun j z q=>by rw[Nat.zero_add,px w b j d _ _ g];exact t j z q⟩
theorem je {cur:Array Value}{n j:Nat}{xs:List Value}(h:cur.toList.take n=xs)(hj:j<n):cur[j]?=xs[j]?:=by rw[<-h,pn,pB hj];simp
theorem Own1.ti {B:Nat}{w:World}{v:Value}{zs:List Int}(h:Own1 B 3 w v (zs.map (Value.int .i64)))(hn:zs.length<=17592186044416):TI B w v zs:=by
 rcases h.2 with ⟨rfl,h0⟩|⟨g,l,m,rfl,q,r,d,_,_,p⟩
 ·rw[pv]at h0;obtain rfl:=pK h0;exact⟨none,0,rfl,by simp,by simp,by simp⟩
 ·rw[pv]at d p;refine⟨_,l,by rw[pv],d,hn,fun u=>⟨g,m,rfl,q,r,fun j z hj=>?_⟩⟩;have t:=(oZ.1 hj).1;rw[je p (by omega),pk,hj];rfl
def Six (n₀:Nat)(w:World)(g:Nat->Option Value)(x:Ins):Prop :=
 ∃va vt,g 0=some (.int .i64 x.op)/\g 1=some (.int .i64 x.width)/\g 2=some (.int .i64 x.flags)/\g 3=some va/\g 4=some (.int .u32 x.imm)/\g 5=some vt/\TI n₀ w va x.args/\TI n₀ w vt x.to
theorem Six.kt {n₀:Nat}{w w':World}{g:Nat->Option Value}{x:Ins}(h:Six n₀ w g x)(k:Kt w w'):Six n₀ w' g x:=by obtain⟨va,vt,h0,d,j,l,m,p,q,r⟩:=h;exact⟨va,vt,h0,d,j,l,m,p,q.kt k,r.kt k⟩
theorem Six.lower {n₀ n₁:Nat}{w:World}{g:Nat->Option Value}{x:Ins}(h:Six n₁ w g x)(k:n₀<=n₁):Six n₀ w g x:=by obtain⟨va,vt,h0,d,j,l,m,p,q,r⟩:=h;exact⟨va,vt,h0,d,j,l,m,p,q.lower k,r.lower k⟩
theorem Six.to {n₀:Nat}{w:World}{g g':Nat->Option Value}{x:Ins}(h:Six n₀ w g x)(k:∀i,i<6->g' i=g i):Six n₀ w g' x:=by obtain⟨va,vt,h0,d,j,l,m,p,q,r⟩:=h;exact⟨va,vt,(k 0 (by omega)).trans h0,(k 1 (by omega)).trans d,(k 2 (by omega)).trans j,(k 3 (by omega)).trans l,(k 4 (by omega)).trans m,(k 5 (by omega)).trans p,q,r⟩
def TB (n₀:Nat)(w:World)(v:Value)(l:List Ins):Prop :=
 ∃A c,v=.slice A l.length c/\l.length<=c/\l.length<=17592186044416/\(0<l.length->∃(b:Nat)(cur:Array Value),A=some ⟨b,0,none⟩/\n₀<=b/\w.heap[b]?=some (.cells cur 50 (0,0))/\∀(j:Nat)(x:Ins),l[j]?=some x->Six n₀ w (fun i=>cur[j*6+i]?) x)
theorem TB.kt {n₀:Nat}{w w':World}{v:Value}{l:List Ins}(h:TB n₀ w v l)(k:Kt w w'):TB n₀ w' v l:=by obtain⟨A,c,rfl,g,m,p⟩:=h;refine⟨A,c,rfl,g,m,fun u=>?_⟩;obtain⟨b,d,e,q,r,y⟩:=p u;exact⟨b,d,e,q,k _ _ _ r (.inr rfl),fun j x t=>(y j x t).kt k⟩
theorem TB.gr {n₀:Nat}{w w':World}{v:Value}{l:List Ins}(h:TB n₀ w v l)(k:Gr w w'):TB n₀ w' v l:=h.kt k.kt
theorem TB.lower {n₀ n₁:Nat}{w:World}{v:Value}{l:List Ins}(h:TB n₁ w v l)(k:n₀<=n₁):TB n₀ w v l:=by obtain⟨A,c,rfl,g,m,p⟩:=h;refine⟨A,c,rfl,g,m,fun u=>?_⟩;obtain⟨b,d,e,q,r,y⟩:=p u;exact⟨b,d,e,Nat.le_trans k q,r,fun j x t=>(y j x t).lower k⟩
theorem TB.blk {n₀:Nat}{w:World}{v:Value}{l:List Ins}(h:TB n₀ w v l):BlkAt w.heap.size w v l:=by
 obtain⟨A,c,rfl,p,q,r⟩:=h;refine⟨A,c,rfl,p,q,fun y=>?_⟩;obtain⟨b,g,rfl,I,m,B⟩:=r y;refine⟨b,0,rfl,(pf.1 m).1,fun j x u=>?_⟩;obtain⟨va,vt,C,D,E,F,G,H,t,z⟩:=B j x u;have d:∀i,w.cell? ⟨b,0+j*6+i,none⟩=g[j*6+i]?:=fun i=>by rw[Nat.zero_add];exact px w b _ g _ _ m
 exact⟨va,vt,(d 0).trans C,(d 1).trans D,(d 2).trans E,(d 3).trans F,(d 4).trans G,(d 5).trans H,t.ints,z.ints⟩
def OwnI (n₀ B:Nat)(w:World)(v:Value)(l:List Ins):Prop :=
 ∃rows:List Value,w.ownsRow B 50 6 v l.length rows/\∀(j:Nat)(x:Ins),l[j]?=some x->Six n₀ w (fun i=>rows[j*6+i]?) x
theorem OwnI.nil (n₀ B:Nat)(w:World):OwnI n₀ B w (.slice none 0 0) []:=⟨[],World.ownsRow_nil _ _ _ _,fun j x h=>by simp at h⟩
theorem OwnI.gr {n₀ B:Nat}{w w':World}{v:Value}{l:List Ins}(h:OwnI n₀ B w v l)(g:Gr w w'):OwnI n₀ B w' v l:=by obtain⟨d,m,p⟩:=h;exact⟨d,eT m g,fun j x q=>(p j x q).kt g.kt⟩
theorem OwnI.tb {n₀ B:Nat}{w:World}{v:Value}{l:List Ins}(h:OwnI n₀ B w v l)(hn:l.length<=17592186044416)(hB:n₀<=B):TB n₀ w v l:=by
 obtain⟨q,r,t⟩:=h;rcases r.2 with ⟨rfl,h0⟩|⟨g,d,m,rfl,u,y,p,_,_,A⟩
 ·obtain rfl:=pK h0;exact⟨none,0,rfl,by simp,by simp,by simp⟩
 ·refine⟨_,d,rfl,p,hn,fun D=>⟨g,m,rfl,Nat.le_trans hB u,y,fun j x hj=>?_⟩⟩;have z:=(oZ.1 hj).1;exact(t j x hj).to fun i C=>je A (by omega)
theorem OwnI.form {n₀ B:Nat}{w:World}{v:Value}{l:List Ins}(h:OwnI n₀ B w v l):∃A c,v=.slice A l.length c:=by obtain⟨d,g,-⟩:=h;obtain⟨A,c,j,_⟩:=eu g;exact⟨A,c,j⟩
theorem OwnI.snoc {n₀ B:Nat}{w w':World}{v v':Value}{l:List Ins}{x:Ins}{va vt:Value}{tmp:Obj}{rows:List Value}(h:OwnI n₀ B w v l)(hr:w.ownsRow B 50 6 v l.length rows)(h2:∀(j:Nat)(x:Ins),l[j]?=some x->Six n₀ w (fun i=>rows[j*6+i]?) x)
  (hown:w'.ownsRow B 50 6 v' (l.length+1) (rows++[.int .i64 x.op,.int .i64 x.width,.int .i64 x.flags,va,.int .u32 x.imm,vt])) (hg:(w.alloc tmp).grownBy w' v.ownBlock) (ha:TI n₀ w va x.args) (ht:TI n₀ w vt x.to) (hB:B<=w.heap.size) :
  OwnI n₀ B w' v' (l++[x])/\Below B w w':=by
 have u:∀(k:Nat)(c:Array Value),w.heap[k]?=some (Obj.cells c 3 (0,0))->w'.heap[k]?=some (Obj.cells c 3 (0,0)):=by
  intro k c p;have D:=(pf.1 p).1;refine(hg.block k (by simp;omega) (fun e=>?_)).trans ((((qj w).alloc tmp).heap k D).trans p);rcases hr.2 with ⟨rfl,_⟩|⟨g,I,t,rfl,z,C,_⟩
  ·simp[Value.ownBlock]at e
  ·simp[Value.ownBlock]at e;subst e;rw[C]at p;simp at p
 have m:∀{v:Value} {zs:List Int},TI n₀ w v zs->TI n₀ w' v zs:=by intro v zs q;obtain⟨A,c,rfl,F,G,H⟩:=q;refine⟨A,c,rfl,F,G,fun J=>?_⟩;obtain⟨b,t,e,z,p,K⟩:=H J;exact⟨b,t,e,z,u _ _ p,K⟩
 have E:rows.length=l.length*6:=hr.1;refine⟨⟨_,by rw[pT];exact hown,fun j y r=>?_⟩,?_⟩
 ·rcases Nat.lt_trichotomy j l.length with d|d|d
  ·rw[pl d]at r;obtain⟨Q,R,L,F,G,H,M,N,O,P⟩:=h2 j y r;have:∀i,i<6->(rows++[Value.int .i64 x.op,.int .i64 x.width,.int .i64 x.flags,va,.int .u32 x.imm,vt])[j*6+i]?=rows[j*6+i]?:=fun i hi=>pl (by omega);exact Six.to ⟨Q,R,L,F,G,H,M,N,m O,m P⟩ this
  ·subst d;simp at r;subst r
   have:∀i,i<6->(rows++[Value.int .i64 x.op,.int .i64 x.width,.int .i64 x.flags,va,.int .u32 x.imm,vt])[l.length*6+i]?=[Value.int .i64 x.op,.int .i64 x.width,.int .i64 x.flags,va,.int .u32 x.imm,vt][i]?:=fun i hi=>by rw[pm (by omega),E];congr 1;omega
   exact Six.to ⟨va,vt,rfl,rfl,rfl,rfl,rfl,rfl,m ha,m ht⟩ this
  ·rw[pr (by simp;omega)]at r;cases r
 ·have z:∀k,v.ownBlock=some k->B<=k:=fun k u=>(dP hr k u).1;exact(((Below.refl B w).alloc hB tmp)).grown hg (by simp;omega) (fun k u=>z k u)
theorem heap_setCell_ne' {W:World}{B i C:Nat}(v:Value)(h:B≠C):(W.setCell ⟨B,i,none⟩ v).heap[C]?=W.heap[C]?:=by show (W.heap.modify B _)[C]?=_;rw[Array.getElem?_modify,pC h]
theorem fS (fn:Func)(tmps:Array Value)(t:Nat)(w:World)(B:Nat)(v0 v1 v2 v3 v4 v5:Value)(fr:Nat × Nat)(h:fn.results=#[.cell t 50])(ht:tmps[t]?.getD undef=.pointer (some ⟨B,0,none⟩))(hb:w.heap[B]?=some (.cells #[v0,v1,v2,v3,v4,v5] 50 fr))
  (o0:∃z,v0=.int .i64 z) (o1:∃z,v1=.int .i64 z) (o2:∃z,v2=.int .i64 z) (o3:∃a n c,v3=.slice a n c) (o4:∃z,v4=.int .u32 z) (o5:∃a n c,v5=.slice a n c) :
  (results fn tmps).run prog w=.ok (.agg #[v0,v1,v2,v3,v4,v5]) w:=by
 obtain⟨d,g,j,l,m,p⟩:=crw6 hb 0 1 2 3 4 5;obtain⟨z0,rfl⟩:=o0;obtain⟨A,rfl⟩:=o1;obtain⟨z2,rfl⟩:=o2;obtain⟨a3,u,q,rfl⟩:=o3;obtain⟨z4,rfl⟩:=o4;obtain⟨a5,y,r,rfl⟩:=o5;simp[results,h,ht,go_sem,d,g,j,l,m,p]
theorem hO {W:World}{B:Nat}{u0 u1 u2 u3 u4 u5:Value}{T:TypeId}{fr:Nat × Nat}(h:W.heap[B]?=some (.cells #[u0,u1,u2,u3,u4,u5] T fr))(v0 v1 v2 v3 v4 v5:Value) :
  ((((((W.setCell ⟨B,0,none⟩ v0).setCell ⟨B,1,none⟩ v1).setCell ⟨B,2,none⟩ v2).setCell ⟨B,3,none⟩ v3).setCell ⟨B,4,none⟩ v4).setCell ⟨B,5,none⟩ v5).heap[B]?=some (.cells #[v0,v1,v2,v3,v4,v5] T fr):=by
 have:=de (i:=5) v5 (de (i:=4) v4 (de (i:=3) v3 (de (i:=2) v2 (de (i:=1) v1 (de (i:=0) v0 h)))));simpa using this
theorem kc {W:World}{B:Nat}{n₀:Nat}{row:Array Value}{T:TypeId}{fr:Nat × Nat}{v:Value}{zs:List Int}(hb:W.heap[B]?=some (.cells row T fr))(h:TI n₀ W v zs)(hT:T≠3)(v0 v1 v2 v3 v4 v5:Value) :
  TI n₀ ((((((W.setCell ⟨B,0,none⟩ v0).setCell ⟨B,1,none⟩ v1).setCell ⟨B,2,none⟩ v2).setCell ⟨B,3,none⟩ v3).setCell ⟨B,4,none⟩ v4).setCell ⟨B,5,none⟩ v5) v zs:=by
 obtain⟨A,c,rfl,m,p,q⟩:=h;refine⟨A,c,rfl,m,p,fun r=>?_⟩;obtain⟨b,g,e,j,l,t⟩:=q r;have d:B≠b:=fun e'=>by rw[e',l]at hb;cases hb;exact hT rfl
 refine⟨b,g,e,j,?_,t⟩;rw[heap_setCell_ne' _ d,heap_setCell_ne' _ d,heap_setCell_ne' _ d,heap_setCell_ne' _ d,heap_setCell_ne' _ d,heap_setCell_ne' _ d];exact l
theorem lN:(prog.info? 50).map (fun i=>(i.zero,i.size,i.bytes))=some (some (.agg #[.int .i64 0,.int .i64 0,.int .i64 0,.slice none 0 0,.int .u32 0,.slice none 0 0]),6,80):=by kernel_rfl
def CInv (w wb:World)(Bo:Nat)(f:Fn)(vp vs:Value)(row:Array Value)(k:Nat)(vb:Value)(wr:World):Prop :=
 ∃us:List Value,wr.heap[Bo]?=some (.cells #[vp,.int .i64 f.ret,vs,vb] 25 (0,0))/\Own1 wb.heap.size 46 wr vb us/\us.length=k/\(∀(j:Nat)(l:List Ins),j<k->f.blocks[j]?=some l->∃u,us[j]?=some u/\TB w.heap.size wr u l) /\
  TI w.heap.size wr vp f.params/\TI w.heap.size wr vs f.slots/\Gr w wr/\wr.heap[w.heap.size]?=some (.cells row 25 (0,0))/\wr.heap[w.heap.size+1]?=some (.cells #[.slice none 0 0,.int .i64 0,.slice none 0 0,.slice none 0 0] 25 (0,0)) /\
  wb.heap.size<=wr.heap.size/\w.heap.size+1<Bo/\w.heap.size<=wb.heap.size
section
variable {w wb wr wr':World}{Bo:Nat}{f:Fn}{vp vs vb:Value}{row:Array Value}{k:Nat}
theorem CInv.gr (h:CInv w wb Bo f vp vs row k vb wr)(g:Gr wr wr'):CInv w wb Bo f vp vs row k vb wr':=by obtain⟨K,t,y,z,A,B,C,D,E,F,d,m,p⟩:=h;have r:∀{b:Nat} {o:Obj},wr.heap[b]?=some o->wr'.heap[b]?=some o:=fun q=>(g.heap _ (pf.1 q).1).trans q;refine⟨K,r t,y.gr g,z,fun j l G H=>?_,B.gr g,C.gr g,D.trans g,r E,r F,Nat.le_trans d g.size,m,p⟩;obtain⟨u,I,J⟩:=A j l G H;exact⟨u,I,J.gr g⟩
theorem CInv.box (h:CInv w wb Bo f vp vs row k vb wr):wr.heap[Bo]?=some (.cells #[vp,.int .i64 f.ret,vs,vb] 25 (0,0)):=h.choose_spec.1
theorem CInv.form (h:CInv w wb Bo f vp vs row k vb wr):∃A c,vb=.slice A k c:=by obtain⟨j,-,d,g,-⟩:=h;obtain⟨A,c,e⟩:=d.form;exact⟨A,c,by rw[e,g]⟩
theorem CInv.append {ops:Array Oper}{rest:List Oper}{o:Oper}{a:Act}{Q:Exit->Act->World->Prop}{i:TypeInfo}{z u:Value}{l:List Ins}(h:CInv w wb Bo f vp vs row k vb wr)(hu:TB w.heap.size wr u l)(hl:f.blocks[k]?=some l)(hk:k<1000000000)
  (hi:prog.info? 46=some i) (hz:i.zero=some z) (hsize:i.size=1) (hby:i.bytes=24) (hzs:z.cells.size=1)
  (hgd:o.guard=none) (s x:Operand) (ho:o.op=.call {callee:=.builtin .append,args:=#[s,x],argTypes:=#[23,23]}) (hs:a.eval s=vb) (hx:a.eval x=.slice (some ⟨wr.heap.size,0,none⟩) 1 1) {e':TypeId}
  (hK:∀g c w1,w1.heap[Bo]?=some (.cells #[vp,.int .i64 f.ret,vs,vb] 25 (0,0))->CInv w wb Bo f vp vs row (k+1) (.slice (some ⟨g,0,none⟩) (k+1) c) (w1.setCell ⟨Bo,3,none⟩ (.slice (some ⟨g,0,none⟩) (k+1) c))->wpList prog ops Q rest (a.put o.dst (.slice (some ⟨g,0,none⟩) (k+1) c)) w1) :
  wpList prog ops Q (o::rest) a (wr.alloc (.cells #[u] e')):=by
 obtain⟨r,J,K,G,U,V,W,L,X,Y,T,F,A⟩:=h;have I:=hu;obtain⟨C,D,rfl,-,-,-⟩:=hu;refine dL hgd s x 23 ho wb.heap.size 46 i z 1 24 underlying23 hi hz hsize hby hzs (by omega) vb r.length r hs (eT K ((qj _).alloc _)) _ 1 [.slice C l.length D] hx (qk _ _ _) ?_ ?_ ?_ ?_ ?_
 ·intro y O;simp at O;subst O;rfl
 ·simp only[maxLen];omega
 ·omega
 ·simp;omega
 ·intro v' w1 d M H;obtain⟨g,c,rfl⟩:=ownsRow_succ d;have m:Own1 wb.heap.size 46 w1 (.slice (some ⟨g,0,none⟩) (r.length+1) c) (r++[.slice C l.length D]):=by unfold Own1;rw[pT];exact d
  obtain⟨m1,m2,m3,m4,m5,m6,R,E⟩:=ed (i:=3) (n₀:=wb.heap.size) (ys:=r++[.slice C l.length D]) J (by decide) K m M H;rw[G]at m m2 m3 R E ⊢;have N:wr.heap.size<=w1.heap.size:=by have:=M.size;simp at this;omega
  have p:Kt wr (w1.setCell ⟨Bo,3,none⟩ (.slice (some ⟨g,0,none⟩) (k+1) c)):=fun b cc t hb ht=>E b cc t hb (by rcases ht with rfl|rfl<;>decide) (fun e=>by rw[e,J]at hb;rcases ht with rfl|rfl<;>cases hb)
  refine hK g c w1 m1 ⟨r++[.slice C l.length D],m2,m3,by simp[G],fun j Z hj q=>?_,V.kt p,W.kt p,L.below (R w.heap.size A (by omega) L.size) (pS _),E _ _ _ X (by decide) (by omega),E _ _ _ Y (by decide) (by omega),?_,F,A⟩
  ·rcases pF j k with B|B
   ·obtain⟨u',q1,q2⟩:=U j Z B q;exact⟨u',by rw[pl (by omega)];exact q1,q2.kt p⟩
   ·obtain rfl:j=k:=by omega
    rw[hl]at q;cases q;exact⟨_,by rw[<-G];simp,I.kt p⟩
  ·have:=(KeepsWalks.setCell w1 ⟨Bo,3,none⟩ (.slice (some ⟨g,0,none⟩) (k+1) c)).size;omega
def CpAt (n₀:Nat)(w:World)(v:Value)(f:Fn):Prop :=
 ∃vp vs vb us,v=.agg #[vp,.int .i64 f.ret,vs,vb]/\TI n₀ w vp f.params/\TI n₀ w vs f.slots/\Own1 n₀ 46 w vb us/\us.length=f.blocks.length/\∀(j:Nat)(l:List Ins),f.blocks[j]?=some l->∃u,us[j]?=some u/\TB n₀ w u l
theorem CpAt.fn {n₀:Nat}{v:Value}(h:CpAt n₀ w v f)(hn:f.blocks.length<=17592186044416):FnAt w.heap.size w v f:=by obtain⟨E,F,D,J,rfl,q,r,g,t,y⟩:=h;refine⟨E,F,D,rfl,q.ints,r.ints,?_⟩;obtain⟨A,c,p,G,_,_⟩:=eu g;refine⟨A,c,by rw[p,t],by omega,hn,fun I=>?_⟩;obtain⟨b,rfl,z,_,d⟩:=dr g p (by omega);refine⟨b,0,rfl,z,fun j l m=>?_⟩;obtain⟨u,B,C⟩:=y j l m;have H:=(oZ.1 m).1;exact⟨u,by rw[Nat.zero_add,d j (by omega),B],C.blk⟩
end
theorem kH (fn:Func)(tmps:Array Value)(t:Nat)(w:World)(B:Nat)(v0 v1 v2 v3:Value)(fr:Nat × Nat)(h:fn.results=#[.cell t 25])(ht:tmps[t]?.getD undef=.pointer (some ⟨B,0,none⟩))(hb:w.heap[B]?=some (.cells #[v0,v1,v2,v3] 25 fr))
  (o0:∃a n c,v0=.slice a n c) (o1:∃z,v1=.int .i64 z) (o2:∃a n c,v2=.slice a n c) (o3:∃a n c,v3=.slice a n c) :
  (results fn tmps).run prog w=.ok (.agg #[v0,v1,v2,v3]) w:=by
 obtain⟨d,g,j,l⟩:=crw4 hb 0 1 2 3;obtain⟨a0,r,m,rfl⟩:=o0;obtain⟨A,rfl⟩:=o1;obtain⟨a2,u,p,rfl⟩:=o2;obtain⟨a3,y,q,rfl⟩:=o3;simp[results,h,ht,go_sem,d,g,j,l]
theorem dw {W:World}{B:Nat}{u0 u1 u2 u3:Value}{T:TypeId}{fr:Nat × Nat}(h:W.heap[B]?=some (.cells #[u0,u1,u2,u3] T fr))(v0 v1 v2 v3:Value) :
  ((((W.setCell ⟨B,0,none⟩ v0).setCell ⟨B,1,none⟩ v1).setCell ⟨B,2,none⟩ v2).setCell ⟨B,3,none⟩ v3).heap[B]?=some (.cells #[v0,v1,v2,v3] T fr):=by
 have:=de (i:=3) v3 (de (i:=2) v2 (de (i:=1) v1 (de (i:=0) v0 h)));simpa using this
theorem eY {W:World}{B k:Nat}(v0 v1 v2 v3:Value)(h:B≠k):((((W.setCell ⟨B,0,none⟩ v0).setCell ⟨B,1,none⟩ v1).setCell ⟨B,2,none⟩ v2).setCell ⟨B,3,none⟩ v3).heap[k]?=W.heap[k]?:=by rw[heap_setCell_ne' _ h,heap_setCell_ne' _ h,heap_setCell_ne' _ h,heap_setCell_ne' _ h]
theorem lE {W:World}{B:Nat}{row:Array Value}{fr:Nat × Nat}(hb:W.heap[B]?=some (.cells row 25 fr))(v0 v1 v2 v3:Value):Kt W ((((W.setCell ⟨B,0,none⟩ v0).setCell ⟨B,1,none⟩ v1).setCell ⟨B,2,none⟩ v2).setCell ⟨B,3,none⟩ v3):=by intro k c t d g;rw[eY _ _ _ _ (fun e=>by rw[e,d]at hb;rcases g with rfl|rfl<;>cases hb)];exact d
theorem lD {w W:World}{B:Nat}(h:Gr w W)(hB:w.heap.size<=B)(v0 v1 v2 v3:Value):Gr w ((((W.setCell ⟨B,0,none⟩ v0).setCell ⟨B,1,none⟩ v1).setCell ⟨B,2,none⟩ v2).setCell ⟨B,3,none⟩ v3):=by
 iterate 4 refine Gr.setCell ?_ hB _
 exact h
section
variable {w W wl:World}{Bo:Nat}{f:Fn}{vp vs:Value}{row:Array Value}
theorem CInv.start (hB0:Gr w W)(hr0:W.heap[w.heap.size]?=some (.cells row 25 (0,0)))(hr1:W.heap[w.heap.size+1]?=some (.cells #[.slice none 0 0,.int .i64 0,.slice none 0 0,.slice none 0 0] 25 (0,0)))(gl:Gr W wl)
  (hbx:wl.heap[Bo]?=some (.cells #[.slice none 0 0,.int .i64 0,.slice none 0 0,.slice none 0 0] 25 (0,0))) (hBo:w.heap.size+1<Bo) (ta:TI w.heap.size wl vp f.params) (tt:TI w.heap.size wl vs f.slots) :
  CInv w ((((wl.setCell ⟨Bo,0,none⟩ vp).setCell ⟨Bo,1,none⟩ (.int .i64 f.ret)).setCell ⟨Bo,2,none⟩ vs).setCell ⟨Bo,3,none⟩ (.slice none 0 0)) Bo f vp vs row 0 (.slice none 0 0) ((((wl.setCell ⟨Bo,0,none⟩ vp).setCell ⟨Bo,1,none⟩ (.int .i64 f.ret)).setCell ⟨Bo,2,none⟩ vs).setCell ⟨Bo,3,none⟩ (.slice none 0 0)):=by
 have g:=lE hbx vp (.int .i64 f.ret) vs (.slice none 0 0);have d:=lD (hB0.trans gl) (B:=Bo) (by omega) vp (.int .i64 f.ret) vs (.slice none 0 0)
 exact⟨[],dw hbx _ _ _ _,Own1.nil _ _ _,rfl,fun j l h=>by omega,ta.kt g,tt.kt g,d,
   (eY _ _ _ _ (by omega)).trans ((gl.heap _ (pf.1 hr0).1).trans hr0),(eY _ _ _ _ (by omega)).trans ((gl.heap _ (pf.1 hr1).1).trans hr1),pS _,hBo,d.size⟩
theorem CInv.done {wb wr:World}{vb:Value}(h:CInv w wb Bo f vp vs row f.blocks.length vb wr) :
  CpAt w.heap.size ((((wr.setCell ⟨w.heap.size+1,0,none⟩ vp).setCell ⟨w.heap.size+1,1,none⟩ (.int .i64 f.ret)).setCell ⟨w.heap.size+1,2,none⟩ vs).setCell ⟨w.heap.size+1,3,none⟩ vb) (.agg #[vp,.int .i64 f.ret,vs,vb]) f /\
  Gr w ((((wr.setCell ⟨w.heap.size+1,0,none⟩ vp).setCell ⟨w.heap.size+1,1,none⟩ (.int .i64 f.ret)).setCell ⟨w.heap.size+1,2,none⟩ vs).setCell ⟨w.heap.size+1,3,none⟩ vb):=by
 obtain⟨H,I,m,A,B,C,D,E,J,p,y,z,g⟩:=h;have d:=lE p vp (.int .i64 f.ret) vs vb;refine⟨⟨vp,vs,vb,H,rfl,C.kt d,D.kt d,?_,A,fun j l r=>?_⟩,lD E (by omega) _ _ _ _⟩
 ·refine(m.lower g).keep fun k d=>eY _ _ _ _ (fun e=>?_);obtain⟨-,-,t,q⟩:=m.typed d;rw[<-e,p]at q;cases q
 ·obtain⟨u,F,G⟩:=B j l (oZ.1 r).1 r;exact⟨u,F,G.kt d⟩
end
section
variable {P:Program}{Q:Exit->Act->World->Prop}
end
section
variable {P:Program}{w:World}
end
def CopyJ (w W:World)(f:Fn)(Ap As:Option Addr)(cp cs:Nat)(row:Array Value)(L:Nat->Bool)(v3 v8 v9 v10 v11 v12 v13 v14 v15 v16 v17 v18:Value)(w':World):Prop :=
 Gr W w'/\(L 0=true->∃g:Nat,v8=.slice (some ⟨g,0,none⟩) 0 0) /\
  (L 1=true->v9=.pointer (some ⟨w.heap.size,0,none⟩)) /\
  (L 2=true->v10=.slice Ap f.params.length cp) /\
  (L 3=true->∃(A:Option Addr)(c:Nat),v11=.slice A f.params.length c/\TI w.heap.size w' (.slice A f.params.length c) f.params) /\
  (L 4=true->v12=.pointer (some ⟨w.heap.size,1,none⟩)) /\
  (L 5=true->v13=.int .i64 f.ret) /\
  (L 6=true->∃g:Nat,v14=.slice (some ⟨g,0,none⟩) 0 0) /\
  (L 7=true->v15=.pointer (some ⟨w.heap.size,2,none⟩)) /\
  (L 8=true->v16=.slice As f.slots.length cs) /\
  (L 9=true->∃(A:Option Addr)(c:Nat),v17=.slice A f.slots.length c/\TI w.heap.size w' (.slice A f.slots.length c) f.slots) /\
  (L 10=true->(L 3=true/\L 5=true/\L 9=true)/\v18=.agg #[v11,v13,v17,.slice none 0 0]) /\
  (L 11=true->L 12=false->∃Bo:Nat,v3=.pointer (some ⟨Bo,0,none⟩)/\W.heap.size<=Bo/\w'.heap[Bo]?=some (Obj.cells #[.slice none 0 0,.int .i64 0,.slice none 0 0,.slice none 0 0] 25 (0,0))) /\
  (L 12=true->(∀j,j<12->L j=true)/\∃(Bo:Nat)(A1:Option Addr)(c1:Nat)(A2:Option Addr)(c2:Nat),v3=.pointer (some ⟨Bo,0,none⟩)/\CInv w w' Bo f (.slice A1 f.params.length c1) (.slice A2 f.slots.length c2) row 0 (.slice none 0 0) w')
section
variable {w W w' w'':World}{f:Fn}{Ap As:Option Addr}{cp cs:Nat}{row:Array Value}{L L':Nat->Bool}{v3 v8 v9 v10 v11 v12 v13 v14 v15 v16 v17 v18:Value}
theorem CopyJ.s0 (h:CopyJ w W f Ap As cp cs row L v3 v8 v9 v10 v11 v12 v13 v14 v15 v16 v17 v18 w')(g':Gr w' w'')(hun:L 0=false)(hL:∀j,j≠0->L' j=L j)(g:Nat):CopyJ w W f Ap As cp cs row L' v3 (.slice (some ⟨g,0,none⟩) 0 0) v9 v10 v11 v12 v13 v14 v15 v16 v17 v18 w'':=by
 obtain⟨H,h0,u,y,z,B,C,D,E,F,G,l,m,p⟩:=h;refine⟨H.trans g',?_,?_,?_,?_,?_,?_,?_,?_,?_,?_,?_,?_,?_⟩
 ·intro _;exact⟨g,rfl⟩
 ·rw[hL 1 (by decide)];exact u
 ·rw[hL 2 (by decide)];exact y
 ·rw[hL 3 (by decide)];intro d;obtain⟨A,c,e,t⟩:=z d;exact⟨A,c,e,t.gr g'⟩
 ·rw[hL 4 (by decide)];exact B
 ·rw[hL 5 (by decide)];exact C
 ·rw[hL 6 (by decide)];exact D
 ·rw[hL 7 (by decide)];exact E
 ·rw[hL 8 (by decide)];exact F
 ·rw[hL 9 (by decide)];intro d;obtain⟨A,c,e,t⟩:=G d;exact⟨A,c,e,t.gr g'⟩
 ·rw[hL 10 (by decide),hL 3 (by decide),hL 5 (by decide),hL 9 (by decide)];exact l
 ·rw[hL 11 (by decide),hL 12 (by decide)];intro I J;obtain⟨r,e,K,q⟩:=m I J;exact⟨r,e,K,(g'.heap _ (pf.1 q).1).trans q⟩
 ·rw[hL 12 (by decide)];intro d;exact absurd ((p d).1 0 (by decide)) (by rw[hun];decide)
theorem CopyJ.s1 (h:CopyJ w W f Ap As cp cs row L v3 v8 v9 v10 v11 v12 v13 v14 v15 v16 v17 v18 w')(g':Gr w' w'')(hun:L 1=false)(hL:∀j,j≠1->L' j=L j) :CopyJ w W f Ap As cp cs row L' v3 v8 (.pointer (some ⟨w.heap.size,0,none⟩)) v10 v11 v12 v13 v14 v15 v16 v17 v18 w'':=by
 obtain⟨F,h0,J,r,u,y,z,B,C,D,E,g,l,m⟩:=h;refine⟨F.trans g',?_,?_,?_,?_,?_,?_,?_,?_,?_,?_,?_,?_,?_⟩
 ·rw[hL 0 (by decide)];exact h0
 ·intro _;exact rfl
 ·rw[hL 2 (by decide)];exact r
 ·rw[hL 3 (by decide)];intro d;obtain⟨A,c,e,t⟩:=u d;exact⟨A,c,e,t.gr g'⟩
 ·rw[hL 4 (by decide)];exact y
 ·rw[hL 5 (by decide)];exact z
 ·rw[hL 6 (by decide)];exact B
 ·rw[hL 7 (by decide)];exact C
 ·rw[hL 8 (by decide)];exact D
 ·rw[hL 9 (by decide)];intro d;obtain⟨A,c,e,t⟩:=E d;exact⟨A,c,e,t.gr g'⟩
 ·rw[hL 10 (by decide),hL 3 (by decide),hL 5 (by decide),hL 9 (by decide)];exact g
 ·rw[hL 11 (by decide),hL 12 (by decide)];intro G H;obtain⟨q,e,I,p⟩:=l G H;exact⟨q,e,I,(g'.heap _ (pf.1 p).1).trans p⟩
 ·rw[hL 12 (by decide)];intro d;exact absurd ((m d).1 1 (by decide)) (by rw[hun];decide)
theorem CopyJ.s2 (h:CopyJ w W f Ap As cp cs row L v3 v8 v9 v10 v11 v12 v13 v14 v15 v16 v17 v18 w')(g':Gr w' w'')(hun:L 2=false)(hL:∀j,j≠2->L' j=L j) :CopyJ w W f Ap As cp cs row L' v3 v8 v9 (.slice Ap f.params.length cp) v11 v12 v13 v14 v15 v16 v17 v18 w'':=by
 obtain⟨F,h0,r,J,u,y,z,B,C,D,E,g,l,m⟩:=h;refine⟨F.trans g',?_,?_,?_,?_,?_,?_,?_,?_,?_,?_,?_,?_,?_⟩
 ·rw[hL 0 (by decide)];exact h0
 ·rw[hL 1 (by decide)];exact r
 ·intro _;exact rfl
 ·rw[hL 3 (by decide)];intro d;obtain⟨A,c,e,t⟩:=u d;exact⟨A,c,e,t.gr g'⟩
 ·rw[hL 4 (by decide)];exact y
 ·rw[hL 5 (by decide)];exact z
 ·rw[hL 6 (by decide)];exact B
 ·rw[hL 7 (by decide)];exact C
 ·rw[hL 8 (by decide)];exact D
 ·rw[hL 9 (by decide)];intro d;obtain⟨A,c,e,t⟩:=E d;exact⟨A,c,e,t.gr g'⟩
 ·rw[hL 10 (by decide),hL 3 (by decide),hL 5 (by decide),hL 9 (by decide)];exact g
 ·rw[hL 11 (by decide),hL 12 (by decide)];intro G H;obtain⟨q,e,I,p⟩:=l G H;exact⟨q,e,I,(g'.heap _ (pf.1 p).1).trans p⟩
 ·rw[hL 12 (by decide)];intro d;exact absurd ((m d).1 2 (by decide)) (by rw[hun];decide)
theorem CopyJ.s3 (h:CopyJ w W f Ap As cp cs row L v3 v8 v9 v10 v11 v12 v13 v14 v15 v16 v17 v18 w')(g':Gr w' w'')(hun:L 3=false)(hL:∀j,j≠3->L' j=L j)(A:Option Addr)(c:Nat)(ht:TI w.heap.size w'' (.slice A f.params.length c) f.params):CopyJ w W f Ap As cp cs row L' v3 v8 v9 v10 (.slice A f.params.length c) v12 v13 v14 v15 v16 v17 v18 w'':=by
 obtain⟨F,h0,r,u,J,y,z,B,C,D,E,g,l,m⟩:=h;refine⟨F.trans g',?_,?_,?_,?_,?_,?_,?_,?_,?_,?_,?_,?_,?_⟩
 ·rw[hL 0 (by decide)];exact h0
 ·rw[hL 1 (by decide)];exact r
 ·rw[hL 2 (by decide)];exact u
 ·intro _;exact⟨A,c,rfl,ht⟩
 ·rw[hL 4 (by decide)];exact y
 ·rw[hL 5 (by decide)];exact z
 ·rw[hL 6 (by decide)];exact B
 ·rw[hL 7 (by decide)];exact C
 ·rw[hL 8 (by decide)];exact D
 ·rw[hL 9 (by decide)];intro d;obtain⟨A,c,e,t⟩:=E d;exact⟨A,c,e,t.gr g'⟩
 ·rw[hL 10 (by decide)];intro d;exact absurd (g d).1.1 (by rw[hun];decide)
 ·rw[hL 11 (by decide),hL 12 (by decide)];intro G H;obtain⟨q,e,I,p⟩:=l G H;exact⟨q,e,I,(g'.heap _ (pf.1 p).1).trans p⟩
 ·rw[hL 12 (by decide)];intro d;exact absurd ((m d).1 3 (by decide)) (by rw[hun];decide)
theorem CopyJ.s4 (h:CopyJ w W f Ap As cp cs row L v3 v8 v9 v10 v11 v12 v13 v14 v15 v16 v17 v18 w')(g':Gr w' w'')(hun:L 4=false)(hL:∀j,j≠4->L' j=L j) :CopyJ w W f Ap As cp cs row L' v3 v8 v9 v10 v11 (.pointer (some ⟨w.heap.size,1,none⟩)) v13 v14 v15 v16 v17 v18 w'':=by
 obtain⟨F,h0,r,u,y,J,z,B,C,D,E,g,l,m⟩:=h;refine⟨F.trans g',?_,?_,?_,?_,?_,?_,?_,?_,?_,?_,?_,?_,?_⟩
 ·rw[hL 0 (by decide)];exact h0
 ·rw[hL 1 (by decide)];exact r
 ·rw[hL 2 (by decide)];exact u
 ·rw[hL 3 (by decide)];intro d;obtain⟨A,c,e,t⟩:=y d;exact⟨A,c,e,t.gr g'⟩
 ·intro _;exact rfl
 ·rw[hL 5 (by decide)];exact z
 ·rw[hL 6 (by decide)];exact B
 ·rw[hL 7 (by decide)];exact C
 ·rw[hL 8 (by decide)];exact D
 ·rw[hL 9 (by decide)];intro d;obtain⟨A,c,e,t⟩:=E d;exact⟨A,c,e,t.gr g'⟩
 ·rw[hL 10 (by decide),hL 3 (by decide),hL 5 (by decide),hL 9 (by decide)];exact g
 ·rw[hL 11 (by decide),hL 12 (by decide)];intro G H;obtain⟨q,e,I,p⟩:=l G H;exact⟨q,e,I,(g'.heap _ (pf.1 p).1).trans p⟩
 ·rw[hL 12 (by decide)];intro d;exact absurd ((m d).1 4 (by decide)) (by rw[hun];decide)
theorem CopyJ.s5 (h:CopyJ w W f Ap As cp cs row L v3 v8 v9 v10 v11 v12 v13 v14 v15 v16 v17 v18 w')(g':Gr w' w'')(hun:L 5=false)(hL:∀j,j≠5->L' j=L j) :CopyJ w W f Ap As cp cs row L' v3 v8 v9 v10 v11 v12 (.int .i64 f.ret) v14 v15 v16 v17 v18 w'':=by
 obtain⟨F,h0,r,u,y,z,J,B,C,D,E,g,l,m⟩:=h;refine⟨F.trans g',?_,?_,?_,?_,?_,?_,?_,?_,?_,?_,?_,?_,?_⟩
 ·rw[hL 0 (by decide)];exact h0
 ·rw[hL 1 (by decide)];exact r
 ·rw[hL 2 (by decide)];exact u
 ·rw[hL 3 (by decide)];intro d;obtain⟨A,c,e,t⟩:=y d;exact⟨A,c,e,t.gr g'⟩
 ·rw[hL 4 (by decide)];exact z
 ·intro _;exact rfl
 ·rw[hL 6 (by decide)];exact B
 ·rw[hL 7 (by decide)];exact C
 ·rw[hL 8 (by decide)];exact D
 ·rw[hL 9 (by decide)];intro d;obtain⟨A,c,e,t⟩:=E d;exact⟨A,c,e,t.gr g'⟩
 ·rw[hL 10 (by decide)];intro d;exact absurd (g d).1.2.1 (by rw[hun];decide)
 ·rw[hL 11 (by decide),hL 12 (by decide)];intro G H;obtain⟨q,e,I,p⟩:=l G H;exact⟨q,e,I,(g'.heap _ (pf.1 p).1).trans p⟩
 ·rw[hL 12 (by decide)];intro d;exact absurd ((m d).1 5 (by decide)) (by rw[hun];decide)
theorem CopyJ.s6 (h:CopyJ w W f Ap As cp cs row L v3 v8 v9 v10 v11 v12 v13 v14 v15 v16 v17 v18 w')(g':Gr w' w'')(hun:L 6=false)(hL:∀j,j≠6->L' j=L j)(g:Nat):CopyJ w W f Ap As cp cs row L' v3 v8 v9 v10 v11 v12 v13 (.slice (some ⟨g,0,none⟩) 0 0) v15 v16 v17 v18 w'':=by
 obtain⟨G,h0,u,y,z,B,C,K,D,E,F,l,m,p⟩:=h;refine⟨G.trans g',?_,?_,?_,?_,?_,?_,?_,?_,?_,?_,?_,?_,?_⟩
 ·rw[hL 0 (by decide)];exact h0
 ·rw[hL 1 (by decide)];exact u
 ·rw[hL 2 (by decide)];exact y
 ·rw[hL 3 (by decide)];intro d;obtain⟨A,c,e,t⟩:=z d;exact⟨A,c,e,t.gr g'⟩
 ·rw[hL 4 (by decide)];exact B
 ·rw[hL 5 (by decide)];exact C
 ·intro _;exact⟨g,rfl⟩
 ·rw[hL 7 (by decide)];exact D
 ·rw[hL 8 (by decide)];exact E
 ·rw[hL 9 (by decide)];intro d;obtain⟨A,c,e,t⟩:=F d;exact⟨A,c,e,t.gr g'⟩
 ·rw[hL 10 (by decide),hL 3 (by decide),hL 5 (by decide),hL 9 (by decide)];exact l
 ·rw[hL 11 (by decide),hL 12 (by decide)];intro H I;obtain⟨r,e,J,q⟩:=m H I;exact⟨r,e,J,(g'.heap _ (pf.1 q).1).trans q⟩
 ·rw[hL 12 (by decide)];intro d;exact absurd ((p d).1 6 (by decide)) (by rw[hun];decide)
theorem CopyJ.s7 (h:CopyJ w W f Ap As cp cs row L v3 v8 v9 v10 v11 v12 v13 v14 v15 v16 v17 v18 w')(g':Gr w' w'')(hun:L 7=false)(hL:∀j,j≠7->L' j=L j) :CopyJ w W f Ap As cp cs row L' v3 v8 v9 v10 v11 v12 v13 v14 (.pointer (some ⟨w.heap.size,2,none⟩)) v16 v17 v18 w'':=by
 obtain⟨F,h0,r,u,y,z,B,C,J,D,E,g,l,m⟩:=h;refine⟨F.trans g',?_,?_,?_,?_,?_,?_,?_,?_,?_,?_,?_,?_,?_⟩
 ·rw[hL 0 (by decide)];exact h0
 ·rw[hL 1 (by decide)];exact r
 ·rw[hL 2 (by decide)];exact u
 ·rw[hL 3 (by decide)];intro d;obtain⟨A,c,e,t⟩:=y d;exact⟨A,c,e,t.gr g'⟩
 ·rw[hL 4 (by decide)];exact z
 ·rw[hL 5 (by decide)];exact B
 ·rw[hL 6 (by decide)];exact C
 ·intro _;exact rfl
 ·rw[hL 8 (by decide)];exact D
 ·rw[hL 9 (by decide)];intro d;obtain⟨A,c,e,t⟩:=E d;exact⟨A,c,e,t.gr g'⟩
 ·rw[hL 10 (by decide),hL 3 (by decide),hL 5 (by decide),hL 9 (by decide)];exact g
 ·rw[hL 11 (by decide),hL 12 (by decide)];intro G H;obtain⟨q,e,I,p⟩:=l G H;exact⟨q,e,I,(g'.heap _ (pf.1 p).1).trans p⟩
 ·rw[hL 12 (by decide)];intro d;exact absurd ((m d).1 7 (by decide)) (by rw[hun];decide)
theorem CopyJ.s8 (h:CopyJ w W f Ap As cp cs row L v3 v8 v9 v10 v11 v12 v13 v14 v15 v16 v17 v18 w')(g':Gr w' w'')(hun:L 8=false)(hL:∀j,j≠8->L' j=L j) :CopyJ w W f Ap As cp cs row L' v3 v8 v9 v10 v11 v12 v13 v14 v15 (.slice As f.slots.length cs) v17 v18 w'':=by
 obtain⟨F,h0,r,u,y,z,B,C,D,J,E,g,l,m⟩:=h;refine⟨F.trans g',?_,?_,?_,?_,?_,?_,?_,?_,?_,?_,?_,?_,?_⟩
 ·rw[hL 0 (by decide)];exact h0
 ·rw[hL 1 (by decide)];exact r
 ·rw[hL 2 (by decide)];exact u
 ·rw[hL 3 (by decide)];intro d;obtain⟨A,c,e,t⟩:=y d;exact⟨A,c,e,t.gr g'⟩
 ·rw[hL 4 (by decide)];exact z
 ·rw[hL 5 (by decide)];exact B
 ·rw[hL 6 (by decide)];exact C
 ·rw[hL 7 (by decide)];exact D
 ·intro _;exact rfl
 ·rw[hL 9 (by decide)];intro d;obtain⟨A,c,e,t⟩:=E d;exact⟨A,c,e,t.gr g'⟩
 ·rw[hL 10 (by decide),hL 3 (by decide),hL 5 (by decide),hL 9 (by decide)];exact g
 ·rw[hL 11 (by decide),hL 12 (by decide)];intro G H;obtain⟨q,e,I,p⟩:=l G H;exact⟨q,e,I,(g'.heap _ (pf.1 p).1).trans p⟩
 ·rw[hL 12 (by decide)];intro d;exact absurd ((m d).1 8 (by decide)) (by rw[hun];decide)
theorem CopyJ.s9 (h:CopyJ w W f Ap As cp cs row L v3 v8 v9 v10 v11 v12 v13 v14 v15 v16 v17 v18 w')(g':Gr w' w'')(hun:L 9=false)(hL:∀j,j≠9->L' j=L j)(A:Option Addr)(c:Nat)(ht:TI w.heap.size w'' (.slice A f.slots.length c) f.slots):CopyJ w W f Ap As cp cs row L' v3 v8 v9 v10 v11 v12 v13 v14 v15 v16 (.slice A f.slots.length c) v18 w'':=by
 obtain⟨F,h0,r,u,y,z,B,C,D,E,J,g,l,m⟩:=h;refine⟨F.trans g',?_,?_,?_,?_,?_,?_,?_,?_,?_,?_,?_,?_,?_⟩
 ·rw[hL 0 (by decide)];exact h0
 ·rw[hL 1 (by decide)];exact r
 ·rw[hL 2 (by decide)];exact u
 ·rw[hL 3 (by decide)];intro d;obtain⟨A,c,e,t⟩:=y d;exact⟨A,c,e,t.gr g'⟩
 ·rw[hL 4 (by decide)];exact z
 ·rw[hL 5 (by decide)];exact B
 ·rw[hL 6 (by decide)];exact C
 ·rw[hL 7 (by decide)];exact D
 ·rw[hL 8 (by decide)];exact E
 ·intro _;exact⟨A,c,rfl,ht⟩
 ·rw[hL 10 (by decide)];intro d;exact absurd (g d).1.2.2 (by rw[hun];decide)
 ·rw[hL 11 (by decide),hL 12 (by decide)];intro G H;obtain⟨q,e,I,p⟩:=l G H;exact⟨q,e,I,(g'.heap _ (pf.1 p).1).trans p⟩
 ·rw[hL 12 (by decide)];intro d;exact absurd ((m d).1 9 (by decide)) (by rw[hun];decide)
theorem CopyJ.s10 (h:CopyJ w W f Ap As cp cs row L v3 v8 v9 v10 v11 v12 v13 v14 v15 v16 v17 v18 w')(g':Gr w' w'')(hun:L 10=false)(hL:∀j,j≠10->L' j=L j)(d3:L 3=true)(d5:L 5=true)(d9:L 9=true):CopyJ w W f Ap As cp cs row L' v3 v8 v9 v10 v11 v12 v13 v14 v15 v16 v17 (.agg #[v11,v13,v17,.slice none 0 0]) w'':=by
 obtain⟨G,h0,q,u,y,z,B,C,D,E,F,r,g,l⟩:=h;refine⟨G.trans g',?_,?_,?_,?_,?_,?_,?_,?_,?_,?_,?_,?_,?_⟩
 ·rw[hL 0 (by decide)];exact h0
 ·rw[hL 1 (by decide)];exact q
 ·rw[hL 2 (by decide)];exact u
 ·rw[hL 3 (by decide)];intro d;obtain⟨A,c,e,t⟩:=y d;exact⟨A,c,e,t.gr g'⟩
 ·rw[hL 4 (by decide)];exact z
 ·rw[hL 5 (by decide)];exact B
 ·rw[hL 6 (by decide)];exact C
 ·rw[hL 7 (by decide)];exact D
 ·rw[hL 8 (by decide)];exact E
 ·rw[hL 9 (by decide)];intro d;obtain⟨A,c,e,t⟩:=F d;exact⟨A,c,e,t.gr g'⟩
 ·intro _;exact⟨⟨(hL 3 (by decide)).trans d3,(hL 5 (by decide)).trans d5,(hL 9 (by decide)).trans d9⟩,rfl⟩
 ·rw[hL 11 (by decide),hL 12 (by decide)];intro H I;obtain⟨p,e,J,m⟩:=g H I;exact⟨p,e,J,(g'.heap _ (pf.1 m).1).trans m⟩
 ·rw[hL 12 (by decide)];intro d;exact absurd ((l d).1 10 (by decide)) (by rw[hun];decide)
theorem CopyJ.s11 (h:CopyJ w W f Ap As cp cs row L v3 v8 v9 v10 v11 v12 v13 v14 v15 v16 v17 v18 w')(g':Gr w' w'')(hun:L 11=false)(hL:∀j,j≠11->L' j=L j)(Bo:Nat)(hBo:W.heap.size<=Bo)(hb:w''.heap[Bo]?=some (Obj.cells #[.slice none 0 0,.int .i64 0,.slice none 0 0,.slice none 0 0] 25 (0,0))):CopyJ w W f Ap As cp cs row L' (.pointer (some ⟨Bo,0,none⟩)) v8 v9 v10 v11 v12 v13 v14 v15 v16 v17 v18 w'':=by
 obtain⟨E,h0,m,q,r,u,y,z,B,C,D,g,p,l⟩:=h;refine⟨E.trans g',?_,?_,?_,?_,?_,?_,?_,?_,?_,?_,?_,?_,?_⟩
 ·rw[hL 0 (by decide)];exact h0
 ·rw[hL 1 (by decide)];exact m
 ·rw[hL 2 (by decide)];exact q
 ·rw[hL 3 (by decide)];intro d;obtain⟨A,c,e,t⟩:=r d;exact⟨A,c,e,t.gr g'⟩
 ·rw[hL 4 (by decide)];exact u
 ·rw[hL 5 (by decide)];exact y
 ·rw[hL 6 (by decide)];exact z
 ·rw[hL 7 (by decide)];exact B
 ·rw[hL 8 (by decide)];exact C
 ·rw[hL 9 (by decide)];intro d;obtain⟨A,c,e,t⟩:=D d;exact⟨A,c,e,t.gr g'⟩
 ·rw[hL 10 (by decide),hL 3 (by decide),hL 5 (by decide),hL 9 (by decide)];exact g
 ·intro _ _;exact⟨Bo,rfl,hBo,hb⟩
 ·rw[hL 12 (by decide)];intro d;exact absurd ((l d).1 11 (by decide)) (by rw[hun];decide)
end
structure YI (w:World)(Bx:Nat)(op wd fl im:Int)(va vt:Value)(As Ts:List Int)(W:World):Prop where
 box:W.heap[Bx]?=some (.cells #[.int .i64 op,.int .i64 wd,.int .i64 fl,va,.int .u32 im,vt] 50 (0,0))
 own3:Own1 w.heap.size 3 W va (As.map (Value.int .i64))
 own5:Own1 w.heap.size 3 W vt (Ts.map (Value.int .i64))
 apart:Apart va vt
 gr:Gr w W
 lx:w.heap.size<=Bx
section
variable {w wr wr':World}{Bx:Nat}{op wd fl im:Int}{va vt:Value}{As Ts:List Int}
theorem YI.grow (h:YI w Bx op wd fl im va vt As Ts wr)(g:Gr wr wr'):YI w Bx op wd fl im va vt As Ts wr' :=
 ⟨(g.heap _ (pf.1 h.box).1).trans h.box,h.own3.gr g,h.own5.gr g,h.apart,h.gr.trans g,h.lx⟩
theorem YI.cells (h:YI w Bx op wd fl im va vt As Ts wr):(wr.cell? ⟨Bx,0,none⟩=some (.int .i64 op)/\wr.cell? ⟨Bx,1,none⟩=some (.int .i64 wd)/\wr.cell? ⟨Bx,2,none⟩=some (.int .i64 fl)/\wr.cell? ⟨Bx,3,none⟩=some va/\wr.cell? ⟨Bx,4,none⟩=some (.int .u32 im)/\wr.cell? ⟨Bx,5,none⟩=some vt) /\
  wr.frozen? ⟨Bx,3,none⟩=false/\wr.frozen? ⟨Bx,5,none⟩=false :=
 ⟨⟨px _ _ 0 _ _ _ h.box,px _ _ 1 _ _ _ h.box,px _ _ 2 _ _ _ h.box,px _ _ 3 _ _ _ h.box,px _ _ 4 _ _ _ h.box,px _ _ 5 _ _ _ h.box⟩,pz _ _ 3 _ _ h.box,pz _ _ 5 _ _ h.box⟩
theorem YI.start (g:Gr w wr)(h:wr.heap[Bx]?=some (.cells #[.int .i64 op,.int .i64 wd,.int .i64 fl,.slice none 0 0,.int .u32 im,.slice none 0 0] 50 (0,0)))(hB:w.heap.size<=Bx):YI w Bx op wd fl im (.slice none 0 0) (.slice none 0 0) [] [] wr :=
 ⟨h,Own1.nil _ _ _,Own1.nil _ _ _,fun k d=>by simp[Value.ownBlock]at d,g,hB⟩
theorem YI.ti (h:YI w Bx op wd fl im va vt As Ts wr)(h3:As.length<=17592186044416)(h5:Ts.length<=17592186044416):TI w.heap.size wr va As/\TI w.heap.size wr vt Ts:=⟨h.own3.ti h3,h.own5.ti h5⟩
end
def NRow (B hb n:Nat)(w:World)(ns:List Int):Prop:=w.ownsRow B 3 1 (.slice (some ⟨hb,0,none⟩) n n) n (ns.map (Value.int .i64))
section
variable {B hb n:Nat}{w w':World}{ns:List Int}
theorem NRow.len (h:NRow B hb n w ns):ns.length=n:=by have:=h.1;simpa using this
theorem NRow.cell (h:NRow B hb n w ns)(j:Nat)(z:Int)(hj:ns[j]?=some z):w.cell? ⟨hb,j,none⟩=some (.int .i64 z):=by have g:=h.len;have d:=(oZ.1 hj).1;rw[World.ownsRow.cellAt h j (by omega),pk,hj];rfl
theorem NRow.frozen (h:NRow B hb n w ns)(j:Nat):w.frozen? ⟨hb,j,none⟩=false:=World.ownsRow.frozenAt h j
theorem NRow.set_ (h:NRow B hb n w ns)(j:Nat)(z:Int):NRow B hb n (w.setCell ⟨hb,j,none⟩ (.int .i64 z)) (ns.set j z):=by have:=(World.ownsRow.stored h j (.int .i64 z)).1;unfold NRow;rw[List.map_set];exact this
theorem NRow.gr (h:NRow B hb n w ns)(g:Gr w w'):NRow B hb n w' ns:=eT h g
theorem NRow.own (h:NRow B hb n w ns):Own1 B 3 w (.slice (some ⟨hb,0,none⟩) n n) (ns.map (Value.int .i64)):=by have d:=h.len;unfold Own1;rw[pv,d];exact h
theorem NRow.lt (h:NRow B hb n w ns):B<=hb/\hb<w.heap.size:=by have:=h.own.typed (k:=hb) rfl;exact⟨this.1,this.2.1⟩
theorem NRow.ti (h:NRow B hb n w ns)(hn:n<=17592186044416):TI B w (.slice (some ⟨hb,0,none⟩) n n) ns:=h.own.ti (by rw[h.len];exact hn)
end
theorem OwnI.wp {n₀ B:Nat}{wr:World}{o:Oper}{a:Act}{K:Act->World->Prop}{Q:Exit->Act->World->Prop}{v va vt:Value}{l:List Ins}{x:Ins}(h:OwnI n₀ B wr v l)(ha:TI n₀ wr va x.args)(ht:TI n₀ wr vt x.to)(hB:B<=wr.heap.size)(hlt:l.length<=1000000)
  (s y:Operand) (ho:o.op=.call {callee:=.builtin .append,args:=#[s,y],argTypes:=#[46,46]}) (hs:a.eval s=v) (hy:a.eval y=.slice (some ⟨wr.heap.size,0,none⟩) 1 1) {e':TypeId}
  (hK:∀A c w',OwnI n₀ B w' (.slice A (l.length+1) c) (l++[x])->Below B wr w'->K (a.put o.dst (.slice A (l.length+1) c)) w') :
  o.wp prog a (wr.alloc (.cells #[.int .i64 x.op,.int .i64 x.width,.int .i64 x.flags,va,.int .u32 x.imm,vt] e')) K Q:=by
 obtain⟨i0,I,j,m,p⟩:=info_parts lN;obtain⟨g,C,G⟩:=id h;have E:=ha;have F:=ht;obtain⟨q,t,rfl,-,-,-⟩:=E;obtain⟨r,z,rfl,-,-,-⟩:=F;refine dT s y 46 ho B 50 i0 _ 6 80 underlying46 I j m p rfl (by omega) v l.length g hs (eT C ((qj _).alloc _)) _ 1 [.int .i64 x.op,.int .i64 x.width,.int .i64 x.flags,.slice q x.args.length t,.int .u32 x.imm,.slice r x.to.length z] hy (Src.newN wr [.int .i64 x.op,.int .i64 x.width,.int .i64 x.flags,.slice q x.args.length t,.int .u32 x.imm,.slice r x.to.length z] e') ?_ ?_ ?_ ?_ ?_
 ·intro u D;simp at D;rcases D with rfl|rfl|rfl|rfl|rfl|rfl<;>rfl
 ·simp only[maxLen];omega
 ·omega
 ·simp;omega
 ·intro L w' d H _;obtain⟨A,c,J,_⟩:=eu d;subst J;obtain⟨s1,s2⟩:=OwnI.snoc h C G d H ha ht hB;exact hK A c w' s1 s2
theorem OwnI.step {n₀ B:Nat}{wr:World}{ops:Array Oper}{F:Prop}{o:Oper}{a:Act}{K:Act->World->Prop}{Q:Exit->Act->World->Prop}{v va vt:Value}{l:List Ins}{x:Ins}(h:OwnI n₀ B wr v l)(ha:TI n₀ wr va x.args)(ht:TI n₀ wr vt x.to)(hB:B<=wr.heap.size)(hlt:l.length<=1000000)
  (hgd:o.guard=none) (s y:Operand) (ho:o.op=.call {callee:=.builtin .append,args:=#[s,y],argTypes:=#[46,46]}) (hs:a.eval s=v) (hy:a.eval y=.slice (some ⟨wr.heap.size,0,none⟩) 1 1) {e':TypeId}
  (hK:∀A c w',OwnI n₀ B w' (.slice A (l.length+1) c) (l++[x])->Below B wr w'->K (a.put o.dst (.slice A (l.length+1) c)) w') :
  if Region.wanted o (yielded ops a.tmps)=true then Oper.wp prog o a (wr.alloc (.cells #[.int .i64 x.op,.int .i64 x.width,.int .i64 x.flags,va,.int .u32 x.imm,vt] e')) K Q else F:=by
 have d:Region.wanted o (yielded ops a.tmps)=true:=by simp[Region.wanted,hgd]
 rw[pB d];exact OwnI.wp h ha ht hB hlt s y ho hs hy hK
section
variable {w wb wr wr':World}{Bo:Nat}{f:Fn}{vp vs vb:Value}{row:Array Value}{k:Nat}
end
end
