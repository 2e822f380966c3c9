/- Parts: Spc Od Lr. -/
import Derived.Orders
import Derived.Test.YthfhamagopbgcaaGreatH46
set_option linter.unusedSimpArgs false
set_option linter.unusedVariables false
set_option maxRecDepth 100000
set_option maxHeartbeats 16000000
open Go.Proofs.Tryz
namespace Go.Proofs.YthfhamagopbgcaaGreat
section
open Go.RowKit
def xk (l:List Oper):Bool:=(List.range l.length).all fun i=>((l[i]?).map fun o=>o.after.all fun e=>!Region.binds .any e || decide (e.on<i)).getD true
theorem wZ {l:List Oper}(h:xk l=true){i:Nat}{o:Oper}(hi:l[i]?=some o):∀e∈o.after,Region.binds .any e=true->e.on<i:=by
 intro e m j;have g:=(vy.1 hi).1;have d:=vT.1 h i (List.mem_range.2 g);rw[hi] at d;simp only[Option.map_some,Option.getD_some] at d;rw[Array.all_eq_true_iff_forall_mem] at d;have:=d e m;rw[j] at this;simpa using this
theorem xo {listed:Array Bool}{i:Nat}(hi:i<listed.size):(listed.getD i true=false↔listed.getD i false=false):=by
 simp[hi]
section
variable {P:Program}{Q:Exit->Act->World->Prop}
theorem xr {l:List Oper}(hdep:xk l=true)(J:Array Bool->Act->World->Prop)
  (hstep:∀(i:Nat) (o:Oper) (listed:Array Bool) (a:Act) (w:World),l[i]?=some o->listed.size=l.length->listed.getD i false=false->(∀e∈o.after,Region.binds .any e=true->listed.getD e.on false=true)->J listed a w ->
    if Region.wanted o (yielded l.toArray a.tmps)=true then o.wp P a w (J (listed.setIfInBounds i true)) Q else J (listed.setIfInBounds i true) (a.put o.dst undef) w)
  (hdone:∀(listed:Array Bool) (a:Act) (w:World),(∀i,i<l.length->listed.getD i false=true)->J listed a w->Q .normal a w) :
  ∀(fuel:Nat) (listed:Array Bool) (a:Act) (w:World),listed.size=l.length->listed.toList.count false=fuel->J listed a w->wpAny P .any l.toArray Q fuel listed a w:=by
 have m:∀(listed:Array Bool),listed.size=l.length->Region.ready .any l.toArray listed=[]->∀i,i<l.length->listed.getD i false=true:=by
  intro listed g q i
  induction i using Nat.strongRecOn with
  | ind i ih =>
   intro t
   cases hb:listed.getD i false with
   | true=>rfl
   | false =>
    obtain⟨o,u⟩:∃o,l[i]?=some o:=⟨_,vu t⟩
    have C:i∈Region.ready .any l.toArray listed:=mem_ready.2 ⟨(xo (by omega)).2 hb,o,by simpa using u,fun e B hbd=>by
      have d:=wZ hdep u e B hbd
      exact ih e.on d (by omega)⟩
    rw[q] at C;cases C
 intro fuel
 induction fuel with
 | zero =>
  intro listed a w g A y
  have q:Region.ready .any l.toArray listed=[]:=by
   apply List.eq_nil_iff_forall_not_mem.2;intro i t;obtain⟨p,-⟩:=mem_ready.1 t
   have d:i<listed.size:=by
    rcases wh i listed.size with h|h
    ·exact h
    ·simp[Array.getElem?_eq_none h] at p
   have:false∈listed.toList:=by
    have e:listed[i]=false:=by simpa[d] using p
    rw[<-e];simp
   exact absurd this (List.count_eq_zero.1 A)
  exact⟨q,hdone _ _ _ (m _ g q) y⟩
 | succ fuel ih =>
  intro listed a w g A y;refine⟨fun q=>hdone _ _ _ (m _ g q) y,fun i t=>?_⟩;obtain⟨p,o,u,j⟩:=mem_ready.1 t
  have d:i<listed.size:=by
   rcases wh i listed.size with h|h
   ·exact h
   ·simp[Array.getElem?_eq_none h] at p
  have B:listed[i]=false:=by simpa[d] using p
  have r:(listed.setIfInBounds i true).toList.count false=fuel:=by
   rw[Array.toList_setIfInBounds,List.count_set (by simpa using d)];simp[B,A]
  have z:=hstep i o listed a w (by simpa using u) g ((xo d).1 p) j y;unfold wpOp;rw[u];dsimp only;split
  ·next hw =>
   rw[wa hw] at z;exact .inl (Oper.wp_mono (fun D w' h=>ih _ D w' (by simpa using g) r h) z)
  ·next hw =>
   rw[wb hw] at z;exact ih _ _ _ (by simpa using g) r z
theorem xe {id:Nat}{a:Act}{w:World}{l:List Oper}(hm:P.follows .mixedOrders=true)(hdep:xk l=true)(J:Array Bool->Act->World->Prop)(h0:J (Array.replicate l.length false) a w.drew)
  (hstep:∀(i:Nat) (o:Oper) (listed:Array Bool) (a:Act) (w:World),l[i]?=some o->listed.size=l.length->listed.getD i false=false->(∀e∈o.after,Region.binds .any e=true->listed.getD e.on false=true)->J listed a w ->
    if Region.wanted o (yielded l.toArray a.tmps)=true then o.wp P a w (J (listed.setIfInBounds i true)) Q else J (listed.setIfInBounds i true) (a.put o.dst undef) w)
  (hdone:∀(listed:Array Bool) (a:Act) (w:World),(∀i,i<l.length->listed.getD i false=true)->J listed a w->Q .normal a w):(Code.region id l.toArray true).wp P Q a w:=by
 refine wp_region_any hm ?_;exact xr hdep J hstep hdone _ _ _ _ (by simp) (by simp) h0
end
def upd (x:Nat->Value)(i:Nat)(v:Value)(j:Nat):Value:=if j=i then v else x j
theorem xh {x:Nat->Value}{i:Nat}{v:Value}(h:x i=v):x=upd x i v:=by
 funext j;unfold upd;split;next e=>rw[e,h]
 ·rfl
theorem wV {x:Nat->Value}{i:Nat}{v:Value}(h:x i=v):∃x',x=upd x' i v:=⟨x,xh h⟩
section
variable {P:Program}{Q:Exit->Act->World->Prop}
theorem wY {id:Nat}{a:Act}{w W:World}{l:List Oper}(fr:(Nat->Value)->Act)(sp:Nat->Value->World->Prop)(hm:P.follows .mixedOrders=true)(hdep:xk l=true)(hng:(l.all fun o=>o.guard.isNone)=true)
  (hmono:∀i v w w',sp i v w->Gr w w'->sp i v w') (x0:Nat->Value) (h0:a=fr x0) (g:Gr W w)
  (hstep:∀(i:Nat) (o:Oper),l[i]?=some o->∀(x:Nat->Value) (w:World),Gr W w->(∀e∈o.after,Region.binds .any e=true->sp e.on (x e.on) w)->o.wp P (fr x) w (fun a' w'=>∃v,a'=fr (upd x i v)/\sp i v w'/\Gr w w') Q)
  (hdone:∀(x:Nat->Value) (w:World),Gr W w->(∀i,i<l.length->sp i (x i) w)->Q .normal (fr x) w):(Code.region id l.toArray true).wp P Q a w:=by
 refine xe hm hdep (fun d a w=>∃x,a=fr x/\Gr W w/\∀i,i<l.length->d.getD i false=true->sp i (x i) w) ?_ ?_ ?_
 ·refine⟨x0,h0,g.drew,fun i m h=>?_⟩;rw[Array.getD_eq_getD_getElem?] at h;simp[m] at h
 ·intro i o d a w m E F p u;obtain⟨x,rfl,r,t⟩:=u;have D:=(vy.1 m).1
  have B:o.guard=none:=by
   have:=vT.1 hng o (vz m);simpa using this
  rw[wa (by unfold Region.wanted;rw[B])];refine Oper.wp_mono ?_ (hstep i o m x w r fun e A z=>t e.on (by have:=wZ hdep m e A z;omega) (p e A z));rintro a' w' ⟨v,rfl,hv,y⟩;refine⟨upd x i v,rfl,r.trans y,fun j C hl=>?_⟩;unfold upd;by_cases e:j=i
  ·subst e;rw[wa rfl];exact hv
  ·rw[wb e];refine hmono j _ _ _ (t j C ?_) y;rw[Array.getD_eq_getD_getElem?,Array.getElem?_setIfInBounds_ne (Ne.symm e),<-Array.getD_eq_getD_getElem?] at hl;exact hl
 ·intro d a w q u;obtain⟨x,rfl,r,t⟩:=u;exact hdone x w r fun i m=>t i m (q i m)
end
theorem xF {w w':World}{d1 d2 d3 d4:Int}{t:TypeId}(g:Gr (w.alloc (.cells #[.int .i64 d1,.int .i64 d2,.int .i64 d3,.int .i64 d4] t)) w'):IntsAt w'.heap.size w' (.slice (some ⟨w.heap.size,0,none⟩) 4 4) [d1,d2,d3,d4]:=by
 refine⟨_,_,rfl,vV 4,by show 4<=17592186044416;decide,fun _=>⟨w.heap.size,0,rfl,by have:=g.size;simp at this;omega,fun j z d=>?_⟩⟩;rw[vX _ _ _ _ _ _ ((g.heap _ (by simp)).trans (heap_alloc_new w _))]
 match j,d with
 | 0,d=>simp at d;subst d;rfl
 | 1,d=>simp at d;subst d;rfl
 | 2,d=>simp at d;subst d;rfl
 | 3,d=>simp at d;subst d;rfl
def xE (a b:Rn.Out)(va vb:Value)(B2 B3:Nat)(x:Nat->Value):Act :=
 { tmps:=#[.agg #[.int .i64 a.kind,.bool a.ret.p,.int .i64 a.ret.s,.int .u32 a.ret.n,va],.agg #[.int .i64 b.kind,.bool b.ret.p,.int .i64 b.ret.s,.int .u32 b.ret.n,vb],(.pointer (some ⟨B2,0,none⟩)),(.pointer (some ⟨B3,0,none⟩)),(.int .i64 0),x 29,undef,undef,x 0,x 1,x 2,x 3,x 4,x 5,x 6,x 7,x 8,x 9,x 10,x 11,x 12,x 13,x 14,x 15,x 16,x 17,x 18,x 19,x 20,x 21,x 22,x 23,x 24,x 25,x 26,x 27,x 28,undef,undef,undef,undef,undef,undef,undef,undef,undef,undef,undef,undef,undef,undef,undef,undef,undef,undef,undef,undef,undef,undef,undef,undef,undef,undef,undef,undef,undef,undef,undef,undef,undef,undef,undef,undef,undef,undef],defers:=[] }
def xy (a b:Rn.Out)(va vb:Value)(B2 B3:Nat)(i:Nat)(v:Value)(w:World):Prop :=
 match i with
 | 0=>v=(.pointer (some ⟨B2,0,none⟩))
 | 1=>v=(.int .i64 a.kind)
 | 2=>v=(.pointer (some ⟨B2,1,none⟩))
 | 3=>v=(.pointer (some ⟨B2,1,none⟩))
 | 4=>v=(.bool a.ret.p)
 | 5=>v=(.int .i64 (Rn.bit a.ret.p))
 | 6=>v=(.pointer (some ⟨B2,1,none⟩))
 | 7=>v=(.pointer (some ⟨B2,2,none⟩))
 | 8=>v=(.int .i64 a.ret.s)
 | 9=>v=(.pointer (some ⟨B2,1,none⟩))
 | 10=>v=(.pointer (some ⟨B2,3,none⟩))
 | 11=>v=(.int .u32 a.ret.n)
 | 12=>v=(.int .i64 a.ret.n)
 | 13=>∃k,v=.slice (some ⟨k,0,none⟩) 4 4/\IntsAt w.heap.size w (.slice (some ⟨k,0,none⟩) 4 4) (Rn.heads a)
 | 14=>v=(.pointer (some ⟨B3,0,none⟩))
 | 15=>v=(.int .i64 b.kind)
 | 16=>v=(.pointer (some ⟨B3,1,none⟩))
 | 17=>v=(.pointer (some ⟨B3,1,none⟩))
 | 18=>v=(.bool b.ret.p)
 | 19=>v=(.int .i64 (Rn.bit b.ret.p))
 | 20=>v=(.pointer (some ⟨B3,1,none⟩))
 | 21=>v=(.pointer (some ⟨B3,2,none⟩))
 | 22=>v=(.int .i64 b.ret.s)
 | 23=>v=(.pointer (some ⟨B3,1,none⟩))
 | 24=>v=(.pointer (some ⟨B3,3,none⟩))
 | 25=>v=(.int .u32 b.ret.n)
 | 26=>v=(.int .i64 b.ret.n)
 | 27=>∃k,v=.slice (some ⟨k,0,none⟩) 4 4/\IntsAt w.heap.size w (.slice (some ⟨k,0,none⟩) 4 4) (Rn.heads b)
 | 28=>v=(.int .i64 (Rn.cmpInts (Rn.heads a) (Rn.heads b)))
 | 29=>v=(.int .i64 (Rn.cmpInts (Rn.heads a) (Rn.heads b)))
 | _=>True
theorem xm (a b:Rn.Out)(va vb:Value)(B2 B3:Nat)(i:Nat)(v:Value)(w w':World)(h:xy a b va vb B2 B3 i v w)(g:Gr w w'):xy a b va vb B2 B3 i v w':=by
 unfold xy at *;split at h
 all_goals first
  | exact h
  | (obtain⟨k,e,q⟩:=h;exact⟨k,e,q.gr g⟩)
theorem wX {P:Program}{Q:Exit->Act->World->Prop}{id:Nat}{a:Act}{w W:World}{l:List Oper}(fr:(Nat->Value)->Act)(sp:Nat->Value->World->Prop)(hm:P.follows .mixedOrders=true)(hdep:xk l=true)(hng:(l.all fun o=>o.guard.isNone)=true)
  (hmono:∀i v w w',sp i v w->Gr w w'->sp i v w') (x0:Nat->Value) (h0:a=fr x0) (g:Gr W w)
  (hstep:∀(i:Nat) (o:Oper),l[i]?=some o->∀(x:Nat->Value) (w:World),Gr W w->(∀e∈o.after,Region.binds .any e=true->sp e.on (x e.on) w)->∀K:Act->World->Prop,(∀v w',sp i v w'->Gr w w'->K (fr (upd x i v)) w')->o.wp P (fr x) w K Q)
  (hdone:∀(x:Nat->Value) (w:World),Gr W w->(∀i,i<l.length->sp i (x i) w)->Q .normal (fr x) w):(Code.region id l.toArray true).wp P Q a w :=
 wY fr sp hm hdep hng hmono x0 h0 g (fun i o m x w d j=>hstep i o m x w d j _ fun v w' h1 h2=>⟨v,rfl,h1,h2⟩) hdone
theorem xd {B:Nat}{w:World}{a b:Rn.Out}{va vb:Value}(ha:TabAt B w va a.mem)(hb:TabAt B w vb b.mem)(hB:B<=w.heap.size)(hna:0<=a.ret.n/\a.ret.n<4294967296)(hnb:0<=b.ret.n/\b.ret.n<4294967296) :
  Calls prog 46 #[gS a va,gS b vb] w fun e w'=>e=.returned (.int .i64 (Rn.cmpOut a b))/\Gr w w':=by
 obtain⟨A,C⟩:=xJ (ml w a va);obtain⟨W,hW⟩:=xJ (ml A b vb);have m:Gr w A:=by rw[<-C];exact(wL w).alloc _
 have I:Gr A W:=by rw[<-hW];exact(wL A).alloc _
 have XA:=fun(u:GrW W)=>ed (w:=w) (o:=a) (vm:=va) (w':=u.val) (by rw[C];exact I.trans u.gr);have XB:=fun(u:GrW W)=>ed (w:=A) (o:=b) (vm:=vb) (w':=u.val) (by rw[hW];exact u.gr);have Q:=dJ (m.trans I);have S:Hid (∀wr,Gr W wr->TabAt wr.heap.size wr va a.mem):=fun wr g=>(ha.below (Below.mono ((m.trans I).trans g) hB)).mono (by have:=((m.trans I).trans g).size;omega);have T:Hid (∀wr,Gr W wr->TabAt wr.heap.size wr vb b.mem):=fun wr g=>(hb.below (Below.mono ((m.trans I).trans g) hB)).mono (by have:=((m.trans I).trans g).size;omega);have HR:Hid (Rn.cmpOut a b=if Rn.cmpInts (Rn.heads a) (Rn.heads b)=0 then Rn.cmpMem a.mem b.mem else Rn.cmpInts (Rn.heads a) (Rn.heads b)):=rfl;obtain⟨n1,n2⟩:=hna;obtain⟨n3,n4⟩:=hnb;obtain⟨Aa,ca,rfl,a1,a2,-⟩:=id ha;obtain⟨Ab,cb,rfl,b1,b2,-⟩:=id hb;have q:=dJ XA;have r:=dJ XB;clear XA XB m I ha hb;unfold ml at C hW;unfold gS
 go_enter func46, ntmps46
 go_wp2;refine wX (W:=W) (xE a b (.slice Aa a.mem.length ca) (.slice Ab b.mem.length cb) w.heap.size A.heap.size) (xy a b (.slice Aa a.mem.length ca) (.slice Ab b.mem.length cb) w.heap.size A.heap.size) (by kernel_rfl) (by kernel_rfl) (by kernel_rfl) (xm _ _ _ _ _ _) (fun _=>undef) rfl (wL W) ?_ ?_
 ·have A0:=fun(u:GrW W)=>(q.out u).1;have A1:=fun(u:GrW W)=>(q.out u).2.1;have A2:=fun(u:GrW W)=>(q.out u).2.2.1;have A3:=fun(u:GrW W)=>(q.out u).2.2.2.1;have B0:=fun(u:GrW W)=>(r.out u).1;have B1:=fun(u:GrW W)=>(r.out u).2.1;have B2:=fun(u:GrW W)=>(r.out u).2.2.1;have B3:=fun(u:GrW W)=>(r.out u).2.2.2.1;intro i o hi x z m t K hK;have ap:=A0 ⟨z,m⟩;have aq:=A1 ⟨z,m⟩;have ar:=A2 ⟨z,m⟩;have au:=A3 ⟨z,m⟩;have av:=B0 ⟨z,m⟩;have aw:=B1 ⟨z,m⟩;have ax:=B2 ⟨z,m⟩;have ay:=B3 ⟨z,m⟩;clear A0 A1 A2 A3 B0 B1 B2 B3;have D:i<30:=(vy.1 hi).1;have e1:IntKind.i64.wrap a.ret.n=a.ret.n:=IntWalk.i64_in _ (by omega);have e2:IntKind.i64.wrap b.ret.n=b.ret.n:=IntWalk.i64_in _ (by omega);clear q r S T HR Q C hW;rcases (by omega:i=0\/i=1\/i=2\/i=3\/i=4\/i=5\/i=6\/i=7\/i=8\/i=9\/i=10\/i=11\/i=12\/i=13\/i=14\/i=15\/i=16\/i=17\/i=18\/i=19\/i=20\/i=21\/i=22\/i=23\/i=24\/i=25\/i=26\/i=27\/i=28\/i=29) with rfl|rfl|rfl|rfl|rfl|rfl|rfl|rfl|rfl|rfl|rfl|rfl|rfl|rfl|rfl|rfl|rfl|rfl|rfl|rfl|rfl|rfl|rfl|rfl|rfl|rfl|rfl|rfl|rfl|rfl
  all_goals
   obtain rfl:=Option.some.inj hi;simp[Region.binds,xy] at t
  all_goals first
   | (obtain⟨h1,h2,h3,h4⟩:=t;obtain⟨x,rfl⟩:=wV h1;obtain⟨x,rfl⟩:=wV (x:=x) h2;obtain⟨x,rfl⟩:=wV (x:=x) h3;obtain⟨x,rfl⟩:=wV (x:=x) h4)
   | (obtain⟨⟨k1,h1,i1⟩,⟨k2,h2,i2⟩,-⟩:=t;obtain⟨x,rfl⟩:=wV h1;obtain⟨x,rfl⟩:=wV (x:=x) h2)
   | (obtain⟨x,rfl⟩:=wV t.1;clear t)
   | (obtain⟨x,rfl⟩:=wV t)
   | clear t
  all_goals
   simp (decide:=true) only[xE,upd,if_true,if_false]
   first
    | (go_simp;exact hK _ _ rfl (wL _))
    | (go_simp;exact hK _ _ ⟨_,rfl,xF (wL _)⟩ ((wL _).alloc _))
    | (go_simp;go_at_call 83;refine(xp _ _).mono ?_;rintro e w2 ⟨rfl,rfl⟩;exact hK _ _ rfl (wL _))
    | (go_simp;go_at_call 82;refine(xb i1 i2 (vV _)).mono ?_;rintro e w2 ⟨rfl,g⟩;exact hK _ _ rfl g)
 ·intro x w5 g5 E;have Y:x 29=.int .i64 (Rn.cmpInts (Rn.heads a) (Rn.heads b)):=E 29 (by decide);have al:∃j,x=upd j 29 (.int .i64 (Rn.cmpInts (Rn.heads a) (Rn.heads b))):=⟨x,by rw[<-xh Y]⟩;clear Y E;obtain⟨j,rfl⟩:=al;rw[show xE a b (.slice Aa a.mem.length ca) (.slice Ab b.mem.length cb) w.heap.size A.heap.size (upd j 29 (.int .i64 (Rn.cmpInts (Rn.heads a) (Rn.heads b))))={ tmps:=#[.agg #[.int .i64 a.kind,.bool a.ret.p,.int .i64 a.ret.s,.int .u32 a.ret.n,.slice Aa a.mem.length ca],.agg #[.int .i64 b.kind,.bool b.ret.p,.int .i64 b.ret.s,.int .u32 b.ret.n,.slice Ab b.mem.length cb],(.pointer (some ⟨w.heap.size,0,none⟩)),(.pointer (some ⟨A.heap.size,0,none⟩)),(.int .i64 0),(.int .i64 (Rn.cmpInts (Rn.heads a) (Rn.heads b))),undef,undef,j 0,j 1,j 2,j 3,j 4,j 5,j 6,j 7,j 8,j 9,j 10,j 11,j 12,j 13,j 14,j 15,j 16,j 17,j 18,j 19,j 20,j 21,j 22,j 23,j 24,j 25,j 26,j 27,j 28,undef,undef,undef,undef,undef,undef,undef,undef,undef,undef,undef,undef,undef,undef,undef,undef,undef,undef,undef,undef,undef,undef,undef,undef,undef,undef,undef,undef,undef,undef,undef,undef,undef,undef,undef,undef,undef,undef],defers:=[] } from rfl];have G5:=dJ g5;clear g5;have A4:=fun(u:GrW W)=>(q.out u).2.2.2.2;have B4:=fun(u:GrW W)=>(r.out u).2.2.2.2;have a4:=A4 ⟨w5,G5.out⟩;have b4:=B4 ⟨w5,G5.out⟩;dsimp only at a4 b4;have N:=dJ A4;have O:=dJ B4;clear A4 B4;obtain⟨H,hH⟩:=xJ (Rn.cmpInts (Rn.heads a) (Rn.heads b));obtain⟨R,Z⟩:=xJ (Rn.cmpOut a b);rw[hH,Z] at HR;rw[hH];clear hH n1 n2 n3 n4;by_cases h0:H=0
  ·subst h0;have HM:Hid (Rn.cmpMem a.mem b.mem=R):=by show _=_;have:=HR.out;rw[wa rfl] at this;exact this.symm
   go_wp2
   go_loopw [6] (fun s6 wr=>∃k:Nat,k<=a.mem.length/\k<=b.mem.length/\s6=.int .i64 (k:Int)/\Hid (Rn.cmpMem (a.mem.drop k) (b.mem.drop k)=R)/\Hid (Gr W wr)) (fun s6 _=>a.mem.length-(intOf s6).toNat)
   case atStart=>exact⟨0,vU _,vU _,rfl,HM,G5⟩
   case round =>
    obtain⟨k,ab,ac,rfl,M,l⟩:=hrel;have r4:=N.out ⟨wr,l.out⟩;have s4:=O.out ⟨wr,l.out⟩;dsimp only at r4 s4;by_cases D:k<a.mem.length
    ·by_cases J:k<b.mem.length
     ·obtain⟨x,hx⟩:∃x,a.mem[k]?=some x:=⟨_,vu D⟩;obtain⟨y,hy⟩:∃y,b.mem[k]?=some y:=⟨_,vu J⟩;obtain⟨am,az,ea,-,-,t3⟩:=S.out wr l.out;obtain⟨ba,oa,e1,aj,t4⟩:=t3 (by omega);injection ea with ea af ag;rw[<-ea] at e1;subst e1;obtain⟨aC,U,ad⟩:=t4 k x hx;obtain⟨an,aA,eb,-,-,u3⟩:=T.out wr l.out;obtain⟨bb,ob,e2,ak,u4⟩:=u3 (by omega);injection eb with eb ah ai;rw[<-eb] at e2;subst e2;obtain⟨aD,X,ae⟩:=u4 k y hy;have da:a.mem.drop k=x::a.mem.drop (k+1):=by rw[vM D];congr 1;rw[vu D] at hx;injection hx
      have db:b.mem.drop k=y::b.mem.drop (k+1):=by rw[vM J];congr 1;rw[vu J] at hy;injection hy
      have F:=dJ fun(u:GrW wr)=>xb (w:=u.val) (ad.gr u.gr) (ae.gr u.gr) (vV _);have UA:=fun(u:GrW wr)=>(u.gr.cell _ _ aj).trans U;have UB:=fun(u:GrW wr)=>(u.gr.cell _ _ ak).trans X;have R4:=fun(u:GrW wr)=>N.out ⟨u.val,l.out.trans u.gr⟩;have S4:=fun(u:GrW wr)=>O.out ⟨u.val,l.out.trans u.gr⟩
      have HQ:Hid ((if Rn.cmpInts x y=0 then Rn.cmpMem (a.mem.drop (k+1)) (b.mem.drop (k+1)) else Rn.cmpInts x y)=R):=by
       show _=_;have:=M.out;rw[da,db,Rn.cmpMem] at this;exact this
      obtain⟨d,t⟩:=xJ (Rn.cmpInts x y);rw[t] at F HQ;obtain⟨Av,cv,rfl,-,-,-⟩:=ad;obtain⟨ao,aB,rfl,-,-,-⟩:=ae;clear hx hy da db t M t3 t4 u3 u4 U X af ag ah ai ea eb;by_cases aa:d=0
      ·subst aa;go_wp2;refine dc (by kernel_rfl) (by kernel_rfl) ?_;repeat (go_big_quiet_step ((rename_i u;go_at_call 82;exact di u (F.out u))))
       refine wpQuiet_nil ?_;intro w9 L;obtain⟨u9,rfl⟩:=L;have G9:=dJ (l.out.trans u9.gr);clear UA UB R4 S4;go_wp2;go_roundw;case rel=>exact⟨k+1,by omega,by omega,by go_num,by (show _=_);have:=HQ.out;simpa using this,G9.out⟩
       case measure=>simp[intOf];omega
      ·have G:Hid (R=d):=by show _=_;have:=HQ.out;rw[wb aa] at this;exact this.symm
       go_wp2;refine dc (by kernel_rfl) (by kernel_rfl) ?_;repeat (go_big_quiet_step ((rename_i u;go_at_call 82;exact di u (F.out u))))
       refine wpQuiet_nil ?_;intro w9 L;obtain⟨u9,rfl⟩:=L;have G9:=dJ (Q.out.trans (l.out.trans u9.gr));clear UA UB R4 S4;go_wp2;go_ret;exact⟨de (G.out.symm.trans Z.symm),G9.out⟩
     ·obtain rfl:k=b.mem.length:=by omega
      have G:Hid (R=Rn.sgn a.mem.length b.mem.length):=by show _=_;rw[<-M.out];exact Rn.cmpMem_end ab ac (.inr rfl)
      have F:=dJ (wT a.mem.length b.mem.length wr);clear M;go_wp2_with (go_at_call 84;refine F.out.mono ?_;rintro e z ⟨rfl,rfl⟩);go_ret;exact⟨de (G.out.symm.trans Z.symm),Q.out.trans l.out⟩
    ·obtain rfl:k=a.mem.length:=by omega
     have G:Hid (R=Rn.sgn a.mem.length b.mem.length):=by show _=_;rw[<-M.out];exact Rn.cmpMem_end ab ac (.inl rfl)
     have F:=dJ (wT a.mem.length b.mem.length wr);clear M;go_wp2_with (go_at_call 84;refine F.out.mono ?_;rintro e z ⟨rfl,rfl⟩);go_ret;exact⟨de (G.out.symm.trans Z.symm),Q.out.trans l.out⟩
  ·have G:Hid (R=H):=by show _=_;have:=HR.out;rw[wb h0] at this;exact this
   go_wp2;go_ret;exact⟨de (G.out.symm.trans Z.symm),Q.out.trans G5.out⟩
theorem xj {B:Nat}{w:World}{a b:Rn.Out}{va vb:Value}(ha:TabAt B w va a.mem)(hb:TabAt B w vb b.mem)(hB:B<=w.heap.size)(hna:0<=a.ret.n/\a.ret.n<4294967296)(hnb:0<=b.ret.n/\b.ret.n<4294967296) :
  Calls prog 18 #[gS a va,gS b vb] w fun e w'=>e=.returned (.bool (decide (Rn.cmpOut a b=0)))/\Gr w w':=by
 obtain⟨g,d⟩:=xJ (ml w a va);obtain⟨W,m⟩:=xJ (ml g b vb);have l:Gr w g:=by rw[<-d];exact(wL w).alloc _
 have j:Gr g W:=by rw[<-m];exact(wL g).alloc _
 have u:g.heap.size=w.heap.size+1:=by rw[<-d];unfold ml;simp
 obtain⟨a0,A,C,a3,a4⟩:=ed (w:=w) (o:=a) (vm:=va) (w':=W) (by rw[d];exact j);obtain⟨D,E,F,G,H⟩:=ed (w:=g) (o:=b) (vm:=vb) (w':=W) (by rw[m];exact wL _);have p:=dJ (xd (w:=W) (a:=a) (b:=b) (ha.below (Below.mono (l.trans j) hB)) (hb.below (Below.mono (l.trans j) hB)) (by have:=(l.trans j).size;omega) hna hnb);have q:=dJ (l.trans j);obtain⟨y,ca,rfl,-,-,-⟩:=ha;obtain⟨z,I,rfl,-,-,-⟩:=hb;generalize Rn.cmpOut a b=R at *;clear u l j;unfold ml at d m;unfold gS at *;by_cases t:R=0
 all_goals
  go_enter func18, ntmps18
  go_wp2_with (go_at_call 46;refine p.out.mono ?_;rintro e J ⟨rfl,r⟩);go_ret;exact⟨cZ (by simp[t]),q.out.trans r⟩
end
section
open Go.RowKit Go.Shelf
theorem tr {f:Fn}{i:Rn.Inp}(h:(dV f || fj i)=false):dV f=false/\i.args.length<=1000/\i.mem.length<=1000/\∀l∈i.mem,l.length<=1000:=by
 rw[Bool.or_eq_false_iff] at h;obtain⟨g,d⟩:=h;refine⟨g,?_⟩;unfold fj at d;simp only[Bool.or_eq_false_iff,decide_eq_false_iff_not,List.any_eq_false] at d;obtain⟨⟨m,p⟩,j⟩:=d;refine⟨by omega,by omega,fun l hl=>?_⟩;have:=j l hl;simp at this;omega
theorem ArgsAt.u32 {w w':World}{v:Value}{zs:List Int}(h:ArgsAt w v zs)(hl:zs.length<=1000)(g:Gr w w'):U32At w'.heap.size w' v zs:=SlAt.mono (qX (h.at_ hl) g) g.size
theorem U32At.gr {w w':World}{v:Value}{zs:List Int}(h:U32At w.heap.size w v zs)(g:Gr w w'):U32At w'.heap.size w' v zs:=SlAt.mono (qX h g) g.size
def xg (f:Fn)(i:Rn.Inp)(p:List Int):Rn.Out:=if Rn.validInput f i=0 then (Rn.run f (Rn.given p) i).1 else ⟨0,⟨false,0,0⟩,[]⟩
def xC (f:Fn)(i:Rn.Inp)(p:List Int):Nat:=if Rn.validInput f i=0 then (Rn.wids f i p).length else 0
theorem RunR.row {f:Fn}{i:Rn.Inp}{p:List Int}{B:Nat}{e:Ending}{w':World}(h:RunR f i p B e w'):∃A c D,e=.returned (.tuple #[gS (xg f i p) (.slice A (xg f i p).mem.length c),.int .i64 (xC f i p),.int .i64 (Rn.validInput f i)])/\Keeps D w' (.slice A (xg f i p).mem.length c) (xg f i p).mem/\∀k,D k->B<=k:=by
 unfold xg xC;rcases h with ⟨h,rfl⟩|⟨h,j,D,rfl,d,g⟩
 ·rw[wb h,wb h];exact⟨none,0,fun _=>False,rfl,kS _ _ (fun _ q=>q.elim),fun _ q=>q.elim⟩
 ·rw[wa h,wa h,h];obtain⟨A,c,rfl⟩:=id d.2.1;exact⟨A,c,D,rfl,d,g⟩
theorem DRunR.row {f:Fn}{i:Rn.Inp}{p:List Int}{e:Ending}{w':World}(h:DRunR f i p e w'):∃A c,e=.returned (.tuple #[gS (xg f i p) (.slice A (xg f i p).mem.length c),.int .i64 (xC f i p),.int .i64 (Rn.validInput f i)])/\TabAt w'.heap.size w' (.slice A (xg f i p).mem.length c) (xg f i p).mem:=by
 unfold xg xC;rcases h with ⟨h,rfl⟩|⟨h,g,rfl,d⟩
 ·rw[wb h,wb h];exact⟨none,0,rfl,none,0,rfl,vV _,vU _,fun q=>absurd q (by simp)⟩
 ·rw[wa h,wa h,h];obtain⟨A,c,rfl,-⟩:=id d;exact⟨A,c,rfl,d⟩
theorem xD {f:Fn}{i:Rn.Inp}{p:List Int}(hn:jF f)(him:Rn.Im f)(ha:∀a∈i.args,0<=a):0<=(xg f i p).ret.n/\(xg f i p).ret.n<4294967296:=by
 unfold xg;split
 ·rename_i h;obtain⟨-,-,-,q⟩:=Rn.run_ok mr (Rn.valid_input h).1 him h ha p;rcases q with ⟨-,-,-,q⟩|q|q
  ·exact q
  all_goals rw[q];decide
 ·decide
section
variable {D:Nat->Prop}{w:World}{ns:List Nat}{A:Option Addr}{n c j m:Nat}
theorem RowsIn.store {vm:Value}(h:RowsIn D w vm ns){b:Nat}{cur:Array Value}(hb:w.heap[b]?=some (.cells cur 3 (0,0)))(k:Nat)(z:Int):RowsIn D (w.setCell ⟨b,k,none⟩ (.int .i64 z)) vm ns:=by
 obtain⟨A,c,rfl,I,J⟩:=h;refine⟨A,c,rfl,I,fun M=>?_⟩;obtain⟨Bm,row,F,G,r,H⟩:=J M;refine⟨Bm,row,F,G,(wk _ _ _ _ (hE r hb (by decide))).trans r,fun j n L=>?_⟩;obtain⟨p,q,g,u,B,C,d,E⟩:=H j n L;by_cases l:p=b
 ·subst l;rw[hb] at d;injection d with d;injection d with d;subst d;refine⟨p,q,_,u,B,C,cX (i:=k) (.int .i64 z) hb,fun i K=>?_⟩;obtain⟨y,t⟩:=E i K;by_cases m:k=i
  ·subst m;exact⟨z,by rw[Array.getElem?_setIfInBounds_self,wa (vE.1 t).1]⟩
  ·exact⟨y,by rw[Array.getElem?_setIfInBounds_ne m];exact t⟩
 ·exact⟨p,q,g,u,B,C,(wk _ _ _ _ l).trans d,E⟩
theorem RowsIn.at_ (h:RowsIn D w (.slice A n c) ns)(hj:ns[j]?=some m):∃Bm b cp cur,A=some ⟨Bm,0,none⟩/\D b/\w.cell? ⟨Bm,j,none⟩=some (.slice (some ⟨b,0,none⟩) m cp)/\w.heap[b]?=some (.cells cur 3 (0,0))/\∀k,k<m->(∃z,w.cell? ⟨b,k,none⟩=some (.int .i64 z))/\w.frozen? ⟨b,k,none⟩=false:=by
 obtain⟨A,c,e,E,q⟩:=h;injection e with e C p;subst e;subst p;obtain⟨Bm,row,rfl,-,g,l⟩:=q (by have:=(vy.1 hj).1;omega);obtain⟨b,cp,cur,u,-,y,d,B⟩:=l j m hj;refine⟨Bm,b,cp,cur,rfl,y,(vX _ _ j _ _ _ g).trans u,d,fun k r=>?_⟩;obtain⟨z,t⟩:=B k r;exact⟨⟨z,(vX _ _ k _ _ _ d).trans t⟩,vY _ _ k _ _ d⟩
end
theorem wU {w:World}{b o:Nat}{v:Value}(h:w.cell? ⟨b,o,none⟩=some v):b<w.heap.size:=by
 rcases wh b w.heap.size with q|q
 ·exact q
 ·simp[World.cell?,Array.getElem?_eq_none q] at h
theorem lawRuns_any {w:World}{f:Fn}{vf:Value}(hfn:FnAt w.heap.size w vf f)(hn:dV f=false->jF f)(him:Rn.Im f){i:Rn.Inp}{va vm:Value}(ha:ArgsAt w va i.args)(hm:TabAt w.heap.size w vm i.mem)
  {vpk:Value} {picks:List Int} (hpk:ArgsAt w vpk picks) :
  Calls prog 4 #[vf,.agg #[va,vm],vpk] w fun e w'=>e=.returned (.bool true)/\Gr w w':=by
 have CL:Hid (∀d,Gr w d->Calls prog 11 #[vf,.agg #[va,vm]] d fun e w'=>e=.returned (.bool (dV f || fj i))/\Gr d w'):=fun d g=>kX (hfn.gr g) ha.len (hm.gr g);have aa:Hid (∀d,Calls prog 12 #[] d fun e w'=>e=.returned (.bool true)/\Gr d w'):=jt;have C0:=dJ fun(h:(dV f || fj i)=false) (d:World) (g:Gr w d)=>xc (w:=d) (i:=i) (va:=va) (vm:=vm) (ha.u32 (tr h).2.1 g) (hm.gr g) (tr h).2.1 (tr h).2.2.1 (tr h).2.2.2;obtain⟨X,hX⟩:=xJ (xg f i picks);obtain⟨M,hM⟩:=xJ (xC f i picks);obtain⟨V,hV⟩:=xJ (Rn.validInput f i)
 have C1:Hid ((dV f || fj i)=false->picks.length<=1000->∀d,Gr w d->∀va vm,U32At d.heap.size d va i.args->TabAt d.heap.size d vm i.mem->Calls prog 16 #[vf,.agg #[va,vm],vpk] d fun e w' =>
     (∃A c D,e=.returned (.tuple #[gS X (.slice A X.mem.length c),.int .i64 M,.int .i64 V])/\Keeps D w' (.slice A X.mem.length c) X.mem/\∀k,D k->d.heap.size<=k)/\Gr d w'):=fun h hl d g va vm h1 h2 =>
  (tH (w:=d) (f:=f) (i:=i) (picks:=picks) (hfn.gr g) (hn (tr h).1) him h1 h2 (fun z hz=>(ha.words z hz).1) (hpk.u32 hl g) hpk.words).mono fun e w' ⟨h,g'⟩=>⟨by rw[<-hX,<-hM,<-hV];exact h.row,g'⟩
 have C2:Hid ((dV f || fj i)=false->picks.length<=1000->∀d,Gr w d->Calls prog 17 #[vf,.agg #[va,vm],vpk] d fun e w' =>
     (∃A c,e=.returned (.tuple #[gS X (.slice A X.mem.length c),.int .i64 M,.int .i64 V])/\TabAt w'.heap.size w' (.slice A X.mem.length c) X.mem)/\Gr d w'):=fun h hl d g =>
  (xn (w:=d) (f:=f) (i:=i) (picks:=picks) (hfn.gr g) (hn (tr h).1) him (ha.u32 (tr h).2.1 g) (hm.gr g) ha.words (hpk.u32 hl g) hpk.words hl).mono fun e w' ⟨h,g'⟩=>⟨by rw[<-hX,<-hM,<-hV];exact h.row,g'⟩
 have CS:Hid ((dV f || fj i)=false->∀(d:World) (G v2:Value),TabAt d.heap.size d G X.mem->TabAt d.heap.size d v2 X.mem->Calls prog 18 #[gS X G,gS X v2] d fun e w'=>e=.returned (.bool true)/\Gr d w'):=fun h d G v2 h1 h2=>by
  have ax:0<=X.ret.n/\X.ret.n<4294967296:=by rw[<-hX];exact xD (hn (tr h).1) him (fun z hz=>(ha.words z hz).1)
  have:=xj h1 h2 (vV _) ax ax
  rwa [show decide (Rn.cmpOut X X=0)=true by simp[Rn.isCmp_out.zero]] at this
 have CI:=dJ fun(d:World) (G v2:Value) (l:List Int) (h1:IntsAt d.heap.size d G l) (h2:IntsAt d.heap.size d v2 l)=>gI G v2 l l d h1 h2;have HM:=dJ hm;have an:Hid ((dV f || fj i)=false->i.mem.length<=1000):=fun h=>(tr h).2.2.1;unfold gS at C1 C2 CS;obtain⟨Aa,ca,rfl,-⟩:=id ha.len;obtain⟨Ak,ck,rfl,aI,aP⟩:=id hpk.len;obtain⟨Am,cm,rfl,-⟩:=id hm;obtain⟨vp,vs,vb,rfl,hp,aG,hb⟩:=hfn;obtain⟨Ap,cp,rfl,-⟩:=hp;obtain⟨As,cs,rfl,-⟩:=aG;obtain⟨Ab,cb,rfl,-⟩:=hb;obtain⟨W,hW⟩:=xJ ((w.alloc (.cells #[.slice Ap f.params.length cp,.int .i64 f.ret,.slice As f.slots.length cs,.slice Ab f.blocks.length cb] 25)).alloc (.cells #[.slice Aa i.args.length ca,.slice Am i.mem.length cm] 29));obtain⟨g0,L,hc⟩:=gJ hW;have H:=dJ hc;have aE:=dJ L;obtain⟨k0,k1,k2,k3,k4,k5⟩:=H.out W (wL _);have Q:=dJ g0;obtain⟨lg,au⟩:=xJ ((dV f || fj i));rw[au] at CL C0 C1 C2 CS an;have s2:(V == V)=true:=by simp
 have s3:(M == M)=true:=by simp
 clear au hn ha hm g0 hc hpk aI hX hM hV L
 cases lg with
 | true =>
  go_enter func4, ntmps4
  go_wp2_with (first|(go_at_call 11;refine(CL.out _ Q.out).mono ?_;rintro e d ⟨rfl,g1⟩;have G1:Hid (Gr w d):=Q.out.trans g1;clear g1)|(go_at_call 12;refine(aa.out _).mono ?_;rintro e j ⟨rfl,g2⟩))
  go_ret;exact⟨rfl,G1.out.trans g2⟩
 | false =>
  by_cases av:picks.length<=1000
  ·have aw:¬(1000:Int)<(picks.length:Int):=by omega
   have I0:=dJ (C0.out rfl);have I1:=dJ (C1.out rfl av);have I2:=dJ (C2.out rfl av);have I3:=dJ (CS.out rfl);have aO:=an.out rfl;clear C0 C1 C2 CS
   go_enter func4, ntmps4
   go_wp2_with (first
     | (go_at_call 11;refine(CL.out _ Q.out).mono ?_;rintro e d ⟨rfl,g1⟩;have G1:Hid (Gr W d):=g1;clear g1;obtain⟨l0,l1,l2,l3,l4,l5⟩:=H.out d G1.out)
     | (go_at_call 15;refine(I0.out _ (Q.out.trans G1.out)).mono ?_;rintro e j ⟨⟨A2,c2,A3,c3,rfl,hu,ht⟩,g2⟩;have G2:Hid (Gr W j):=G1.out.trans g2;have U2:=dJ hu;have T2:=dJ ht;clear g2 hu ht;have m0:=fun o=>(H.out (j.alloc o) (G2.out.alloc o)).1;have m1:=fun o=>(H.out (j.alloc o) (G2.out.alloc o)).2.1;have m2:=fun o=>(H.out (j.alloc o) (G2.out.alloc o)).2.2.1;have m3:=fun o=>(H.out (j.alloc o) (G2.out.alloc o)).2.2.2.1)
     | (go_at_call 16;(with_reducible refine(I1.out _ (Q.out.trans (G2.out.alloc _)) _ _ (U2.out.gr ((wL j).alloc _)) (T2.out.gr ((wL j).alloc _))).mono ?_);rintro e r ⟨⟨K,I,D,rfl,J,hd⟩,g3⟩;have G3:Hid (Gr (j.alloc (.cells #[.slice A2 i.args.length c2,.slice A3 i.mem.length c3] 29)) r):=g3;have B:Hid (Gr W r):=(G2.out.alloc _).trans g3;have K3:=dJ J;have D3:=dJ hd;clear g3 J hd;have n0:=fun o=>(H.out (r.alloc o) (B.out.alloc o)).1;have n1:=fun o=>(H.out (r.alloc o) (B.out.alloc o)).2.1;have n2:=fun o=>(H.out (r.alloc o) (B.out.alloc o)).2.2.1;have n3:=fun o=>(H.out (r.alloc o) (B.out.alloc o)).2.2.2.1;have n4:=fun o=>(H.out (r.alloc o) (B.out.alloc o)).2.2.2.2.1;have n5:=fun o=>(H.out (r.alloc o) (B.out.alloc o)).2.2.2.2.2)
     | (go_at_call 17;refine(I2.out _ (Q.out.trans (B.out.alloc _))).mono ?_;rintro e w4 ⟨⟨A5,c5,rfl,ht⟩,g4⟩;have N:Hid (Gr (r.alloc (.cells #[.int .i64 X.kind,.bool X.ret.p,.int .i64 X.ret.s,.int .u32 X.ret.n,.slice K X.mem.length I] 39)) w4):=g4;have T4:=dJ ht;clear g4 ht
        have p0:=fun o=>(ed (w:=r) (o:=X) (vm:=.slice K X.mem.length I) (w':=w4.alloc o) (N.out.alloc o)).1
        have p1:=fun o=>(ed (w:=r) (o:=X) (vm:=.slice K X.mem.length I) (w':=w4.alloc o) (N.out.alloc o)).2.1
        have p2:=fun o=>(ed (w:=r) (o:=X) (vm:=.slice K X.mem.length I) (w':=w4.alloc o) (N.out.alloc o)).2.2.1
        have p3:=fun o=>(ed (w:=r) (o:=X) (vm:=.slice K X.mem.length I) (w':=w4.alloc o) (N.out.alloc o)).2.2.2.1
        have p4:=fun o=>(ed (w:=r) (o:=X) (vm:=.slice K X.mem.length I) (w':=w4.alloc o) (N.out.alloc o)).2.2.2.2)
     | (go_at_call 18;(with_reducible refine(I3.out _ _ _ (K3.out.gr (((wL r).alloc _).trans (N.out.alloc _))).tab (T4.out.gr ((wL w4).alloc _))).mono ?_);rintro e F ⟨rfl,g5⟩;have G5:Hid (Gr w4 F):=((wL w4).alloc _).trans g5;clear g5 m0 m1 m2 m3 n0 n1 n2 n3 n4 n5 p0 p1 p2 p3 p4 l0 l1 l2 l3 l4 l5))
   have C:Hid (Gr r F):=((wL r).alloc _).trans (N.out.trans G5.out);have az:Hid (Gr w F):=Q.out.trans (B.out.trans C.out);have O:Hid (j.heap.size+1<=r.heap.size):=by show _<=_;have:=G3.out.size;simp at this;omega
   have am:Hid (w.heap.size+2<=j.heap.size):=by show _<=_;have:=G2.out.size;have:=aE.out;omega
   have HD:Hid (∀k,D k->j.heap.size+1<=k/\k<r.heap.size):=fun k J=>⟨by have:=D3.out k J;simp at this;omega,K3.out.1 k J⟩
   have HB:Hid (∀wr,FrS D F wr->wr.cell? ⟨r.heap.size,4,none⟩=some (.slice K X.mem.length I)/\wr.cell? ⟨j.heap.size,1,none⟩=some (.slice A3 i.mem.length c3)/\wr.cell? ⟨w.heap.size+1,1,none⟩=some (.slice Am i.mem.length cm)):=fun wr y=>by
    have b1:=(heap_alloc_new r (.cells #[.int .i64 X.kind,.bool X.ret.p,.int .i64 X.ret.s,.int .u32 X.ret.n,.slice K X.mem.length I] 39));have aq:=(G5.out.heap _ (by have:=N.out.size;simp at this;omega)).trans ((N.out.heap r.heap.size (by simp)).trans b1);have b2:=(heap_alloc_new j (.cells #[.slice A2 i.args.length c2,.slice A3 i.mem.length c3] 29));have ar:=(C.out.heap j.heap.size (by have:=O.out;omega)).trans ((G3.out.heap j.heap.size (by simp)).trans b2);refine⟨vX _ _ 4 _ _ _ ((y.block _ (cY aq) (fun h=>by have:=(HD.out _ h).2;omega)).trans aq),vX _ _ 1 _ _ _ ((y.block _ (cY ar) (fun h=>by have:=(HD.out _ h).1;omega)).trans ar),?_⟩;have b3:=(H.out F (B.out.trans C.out)).2.2.2.2.2;refine Eq.trans ?_ b3;have hb:Below (j.heap.size) F wr:=y.below (fun k J=>by have:=(HD.out _ J).1;omega) (by have:=C.out.size;have:=O.out;omega);exact hb.cell (p:=⟨w.heap.size+1,1,none⟩) (by have:=am.out;show w.heap.size+1<_;omega)
   have R:Hid (∀wr,FrS D F wr->Gr w wr):=fun wr y=>iA az.out y (fun k J=>by have:=(HD.out _ J).1;have:=am.out;omega)
   have HT:Hid (∀wr,FrS D F wr->TabAt j.heap.size wr (.slice A3 i.mem.length c3) i.mem/\TabAt w.heap.size wr (.slice Am i.mem.length cm) i.mem/\Gr w wr/\j.heap.size<=wr.heap.size):=fun wr y=>by
    have hb:Below (j.heap.size) F wr:=y.below (fun k J=>by have:=(HD.out _ J).1;omega) (by have:=C.out.size;have:=O.out;omega);refine⟨(T2.out.below (((wL j).alloc _).trans (G3.out.trans C.out))).below hb,HM.out.below (R.out wr y),R.out wr y,?_⟩;have:=y.size;have:=C.out.size;have:=O.out;omega
   have ac:Hid (RowsIn D F (.slice K X.mem.length I) (X.mem.map List.length)):=(K3.out.gr C.out).rows;have ap:Hid ((X.mem.map List.length).length=X.mem.length):=vS _
   have ao:Hid (∀(s m:Nat),(X.mem.map List.length)[s]?=some m->m<=17592186044416):=fun s m h=>by
    rw[vH] at h;obtain⟨l,hl,rfl⟩:=Option.map_eq_some_iff.1 h;obtain⟨A,c,-,-,-,q⟩:=K3.out.tab;obtain⟨b,o,-,-,q⟩:=q (by have:=(vy.1 hl).1;omega);obtain⟨u,-,A,c,-,-,q,-⟩:=q s l hl;exact q
   obtain⟨ns,ah⟩:=xJ (X.mem.map List.length);obtain⟨n,Y⟩:=xJ X.mem.length;rw[ah,Y] at ap;rw[ah] at ac ao;simp only[Y] at ac HB;have aK:n<=17592186044416:=by rw[<-Y];obtain⟨A,c,-,-,q,-⟩:=K3.out.tab;exact q
   clear K3 T4 U2 I0 I1 I2 I3 ah Y k0 k1 k2 k3 k4 k5;go_wp2
   go_loopw [14,15] (fun ak Z wr=>∃s:Nat,s<=n/\ak=.int .i64 (s:Int)/\Hid (FrS D F wr)/\Hid (RowsIn D wr (.slice K n I) ns)) (fun ak _ _=>n-(intOf ak).toNat)
   case atStart=>exact⟨0,vU _,rfl,FrS.refl _ _,ac⟩
   case round =>
    obtain⟨s,hs,rfl,y,hR⟩:=hrel;obtain⟨b1,b2,b3⟩:=HB.out wr y.out;by_cases U:s<n
    ·obtain⟨m,hm⟩:∃m,ns[s]?=some m:=⟨_,vu (by have:=ap.out;omega)⟩;have aC:=dJ hm;have aB:Hid (s<n):=U;have aJ:m<=9223372036854775807:=by have:=ao.out _ _ hm;omega
     clear b2 b3 hm;go_wp2
     go_loopw [15] (fun Z wr=>∃k:Nat,k<=m/\Z=.int .i64 (k:Int)/\Hid (FrS D F wr)/\Hid (RowsIn D wr (.slice K n I) ns)) (fun Z _=>m-(intOf Z).toNat)
     case atStart=>exact⟨0,vU _,rfl,y,hR⟩
     case round =>
      obtain⟨k,J,rfl,S,T⟩:=hrel;obtain⟨d1,d2,d3⟩:=HB.out wr S.out;obtain⟨Bm,b,cp,aM,rfl,ad,aL,ae,E⟩:=T.out.at_ aC.out;have U:=aB.out;clear d2 d3;by_cases aF:k<m
      ·obtain⟨⟨z,hz⟩,aN⟩:=E k aF;have aA:Hid (FrS D F (wr.setCell ⟨b,k,none⟩ (.int .i64 (-7)))):=S.out.setCell (p:=⟨b,k,none⟩) ad _;have aD:Hid (RowsIn D (wr.setCell ⟨b,k,none⟩ (.int .i64 (-7))) (.slice (some ⟨Bm,0,none⟩) n I) ns):=T.out.store ae k (-7);clear S T E ae ad;go_wp2;exact⟨⟨k+1,by omega,by go_num,aA,aD⟩,by simp[intOf];omega⟩
      ·obtain rfl:k=m:=by omega
       clear E ae ad;go_wp2;exact⟨⟨s+1,by omega,by go_num,S,T⟩,by simp[intOf];omega⟩
    ·obtain rfl:s=n:=by omega
     have HF:=y;clear hR y;go_wp2
     go_loopw [16] (fun al wr=>∃t:Nat,t<=i.mem.length/\al=.int .i64 (t:Int)/\Hid (FrS D F wr)) (fun al _=>i.mem.length-(intOf al).toNat)
     case atStart=>exact⟨0,vU _,rfl,HF⟩
     case round =>
      obtain⟨t,ht,rfl,y⟩:=hrel;obtain⟨t1,t2,gr,L⟩:=HT.out wr y.out;obtain⟨b1,b2,b3⟩:=HB.out wr y.out;by_cases U:t<i.mem.length
      ·obtain⟨l,hl⟩:∃l,i.mem[t]?=some l:=⟨_,vu U⟩
       obtain⟨b,o,G,rfl,ai,af⟩:∃b o G,A3=some ⟨b,o,none⟩/\IntsAt j.heap.size wr G l/\wr.cell? ⟨b,o+t,none⟩=some G:=by
        obtain⟨A,c,e,-,-,h3⟩:=t1;injection e with e;subst e;obtain⟨b,o,rfl,-,h4⟩:=h3 (by omega);obtain⟨u,hu,h5⟩:=h4 t l hl;exact⟨b,o,u,rfl,h5,hu⟩
       obtain⟨b',o',v2,rfl,aj,ag⟩:∃b o G,Am=some ⟨b,o,none⟩/\IntsAt w.heap.size wr G l/\wr.cell? ⟨b,o+t,none⟩=some G:=by
        obtain⟨A,c,e,-,-,h3⟩:=t2;injection e with e;subst e;obtain⟨b,o,rfl,-,h4⟩:=h3 (by omega);obtain⟨u,hu,h5⟩:=h4 t l hl;exact⟨b,o,u,rfl,h5,hu⟩
       have ay:=dJ fun(u:GrW wr)=>CI.out u.val G v2 l ((ai.mono L).gr u.gr) ((aj.mono gr.size).gr u.gr);obtain⟨Ax,cx,rfl,-⟩:=id ai;obtain⟨Ay,cy,rfl,-⟩:=id aj;have Y2:=fun(u:GrW wr)=>(u.gr.cell _ _ (wU b2)).trans b2;have Y3:=fun(u:GrW wr)=>(u.gr.cell _ _ (wU b3)).trans b3;have Z1:=fun(u:GrW wr)=>(u.gr.cell _ _ (wU af)).trans af;have Z2:=fun(u:GrW wr)=>(u.gr.cell _ _ (wU ag)).trans ag;have ab:Hid (∀u:GrW wr,FrS D F u.val):=fun u=>y.out.trans (FrS.of_gr u.gr);have s1:decide (l=l)=true:=by simp
       clear hl ai aj t1 t2 gr L y;go_wp2;refine dc (by kernel_rfl) (by kernel_rfl) ?_;repeat (go_big_quiet_step ((rename_i u;go_at_call 19;exact di u (ay.out u))))
       refine wpQuiet_nil ?_;intro w9 aH;obtain⟨u9,rfl⟩:=aH;clear Y2 Y3 Z1 Z2 b1 b2 b3 af ag;go_wp2;exact⟨⟨t+1,by omega,by go_num,ab.out u9⟩,by simp[intOf];omega⟩
      ·obtain rfl:t=i.mem.length:=by omega
       have R:=dJ gr;clear t1 t2 gr y;go_wp2_with (go_at_call 12;refine(aa.out _).mono ?_;rintro e w9 ⟨rfl,g9⟩);go_ret;exact⟨rfl,R.out.trans g9⟩
  ·have aw:(1000:Int)<(picks.length:Int):=by omega
   clear C0 C1 C2 CS
   go_enter func4, ntmps4
   go_wp2_with (first|(go_at_call 11;refine(CL.out _ Q.out).mono ?_;rintro e d ⟨rfl,g1⟩;have G1:Hid (Gr w d):=Q.out.trans g1;clear g1)|(go_at_call 12;refine(aa.out _).mono ?_;rintro e j ⟨rfl,g2⟩))
   go_ret;exact⟨rfl,G1.out.trans g2⟩
end
end Go.Proofs.YthfhamagopbgcaaGreat
