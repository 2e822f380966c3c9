/- Parts. -/
import Derived.Orders
import Derived.Test.YthfhamagopbgcaaGreatL37
set_option linter.unusedSimpArgs false
set_option linter.unusedVariables false
set_option maxRecDepth 100000
set_option maxHeartbeats 16000000
open Go.Proofs.Tryz
namespace Go.Proofs.YthfhamagopbgcaaGreat
section
open Go.RowKit
def xH (l:List Oper):Bool:=(List.range l.length).all fun i=>((l[i]?).map fun o=>o.after.all fun e=>!Region.binds .any e || decide (e.on<i)).getD true
theorem wV {l:List Oper}(h:xH l=true){i:Nat}{o:Oper}(hi:l[i]?=some o):∀e∈o.after,Region.binds .any e=true->e.on<i:=by intro e m j;have g:=(yC.1 hi).1;have d:=vT.1 h i (List.mem_range.2 g);rw[hi]at d;simp only[Option.map_some,Option.getD_some]at d;rw[Array.all_eq_true_iff_forall_mem]at d;have:=d e m;rw[j]at this;simpa using this
theorem xK {listed:Array Bool}{i:Nat}(hi:i<listed.size):(listed.getD i true=false↔listed.getD i false=false):=by simp[hi]
section
variable {P:Program}{Q:Exit->Act->World->Prop}
theorem xS {l:List Oper}(hdep:xH l=true)(J:Array Bool->Act->World->Prop)
  (hstep:∀(i:Nat)(o:Oper)(listed:Array Bool)(a:Act)(w:World),l[i]?=some o->listed.size=l.length->listed.getD i false=false->(∀e∈o.after,Region.binds .any e=true->listed.getD e.on false=true)->J listed a w ->
    if Region.wanted o (yielded l.toArray a.tmps)=true then o.wp P a w (J (listed.setIfInBounds i true)) Q else J (listed.setIfInBounds i true) (a.put o.dst undef) w)
  (hdone:∀(listed:Array Bool)(a:Act)(w:World),(∀i,i<l.length->listed.getD i false=true)->J listed a w->Q .normal a w) :
  ∀(fuel:Nat)(listed:Array Bool)(a:Act)(w:World),listed.size=l.length->listed.toList.count false=fuel->J listed a w->wpAny P .any l.toArray Q fuel listed a w:=by
 have m:∀(listed:Array Bool),listed.size=l.length->Region.ready .any l.toArray listed=[]->∀i,i<l.length->listed.getD i false=true:=by
  intro listed g q i
  induction i using Nat.strongRecOn with
  | ind i ih =>
   intro t
   cases hb:listed.getD i false with
   | true=>rfl
   | false =>
    obtain⟨o,u⟩:∃o,l[i]?=some o:=⟨_,vu t⟩
    have C:i∈Region.ready .any l.toArray listed:=mem_ready.2 ⟨(xK (by omega)).2 hb,o,by simpa using u,fun e B hbd=>by
      have d:=wV hdep u e B hbd
      exact ih e.on d (by omega)⟩
    rw[q]at C;cases C
 intro fuel
 induction fuel with
 | zero =>
  intro listed a w g A y
  have q:Region.ready .any l.toArray listed=[]:=by
   apply List.eq_nil_iff_forall_not_mem.2;intro i t;obtain⟨p,-⟩:=mem_ready.1 t
   have d:i<listed.size:=by
    rcases wh i listed.size with h|h
    ·exact h
    ·simp[Array.getElem?_eq_none h]at p
   have:false∈listed.toList:=by
    have e:listed[i]=false:=by simpa[d] using p
    rw[<-e];simp
   exact absurd this (List.count_eq_zero.1 A)
  exact⟨q,hdone _ _ _ (m _ g q) y⟩
 | succ fuel ih =>
  intro listed a w g A y;refine⟨fun q=>hdone _ _ _ (m _ g q) y,fun i t=>?_⟩;obtain⟨p,o,u,j⟩:=mem_ready.1 t
  have d:i<listed.size:=by
   rcases wh i listed.size with h|h
   ·exact h
   ·simp[Array.getElem?_eq_none h]at p
  have B:listed[i]=false:=by simpa[d] using p
  have r:(listed.setIfInBounds i true).toList.count false=fuel:=by rw[Array.toList_setIfInBounds,List.count_set (by simpa using d)];simp[B,A]
  have z:=hstep i o listed a w (by simpa using u) g ((xK d).1 p) j y;unfold wpOp;rw[u];dsimp only;split
  ·next hw =>
   rw[wa hw]at z;exact .inl (Oper.wp_mono (fun D w' h=>ih _ D w' (by simpa using g) r h) z)
  ·next hw =>
   rw[yD hw]at z;exact ih _ _ _ (by simpa using g) r z
theorem xc {id:Nat}{a:Act}{w:World}{l:List Oper}(hm:P.follows .mixedOrders=true)(hdep:xH l=true)(J:Array Bool->Act->World->Prop)(h0:J (Array.replicate l.length false) a w.drew)
  (hstep:∀(i:Nat)(o:Oper)(listed:Array Bool)(a:Act)(w:World),l[i]?=some o->listed.size=l.length->listed.getD i false=false->(∀e∈o.after,Region.binds .any e=true->listed.getD e.on false=true)->J listed a w ->
    if Region.wanted o (yielded l.toArray a.tmps)=true then o.wp P a w (J (listed.setIfInBounds i true)) Q else J (listed.setIfInBounds i true) (a.put o.dst undef) w)
  (hdone:∀(listed:Array Bool)(a:Act)(w:World),(∀i,i<l.length->listed.getD i false=true)->J listed a w->Q .normal a w):(Code.region id l.toArray true).wp P Q a w:=by
 refine wp_region_any hm ?_;exact xS hdep J hstep hdone _ _ _ _ (by simp) (by simp) h0
end
def upd (x:Nat->Value)(i:Nat)(v:Value)(j:Nat):Value:=if j=i then v else x j
theorem xv {x:Nat->Value}{i:Nat}{v:Value}(h:x i=v):x=upd x i v:=by
 funext j;unfold upd;split;next e=>rw[e,h]
 ·rfl
theorem sk {x:Nat->Value}{i:Nat}{v:Value}(h:x i=v):∃x',x=upd x' i v:=⟨x,xv h⟩
section
variable {P:Program}{Q:Exit->Act->World->Prop}
theorem wU {id:Nat}{a:Act}{w W:World}{l:List Oper}(fr:(Nat->Value)->Act)(sp:Nat->Value->World->Prop)(hm:P.follows .mixedOrders=true)(hdep:xH l=true)(hng:(l.all fun o=>o.guard.isNone)=true)
  (hmono:∀i v w w',sp i v w->Gr w w'->sp i v w') (x0:Nat->Value) (h0:a=fr x0) (g:Gr W w)
  (hstep:∀(i:Nat)(o:Oper),l[i]?=some o->∀(x:Nat->Value)(w:World),Gr W w->(∀e∈o.after,Region.binds .any e=true->sp e.on (x e.on) w)->o.wp P (fr x) w (fun a' w'=>∃v,a'=fr (upd x i v)/\sp i v w'/\Gr w w') Q)
  (hdone:∀(x:Nat->Value)(w:World),Gr W w->(∀i,i<l.length->sp i (x i) w)->Q .normal (fr x) w):(Code.region id l.toArray true).wp P Q a w:=by
 refine xc hm hdep (fun d a w=>∃x,a=fr x/\Gr W w/\∀i,i<l.length->d.getD i false=true->sp i (x i) w) ?_ ?_ ?_
 ·refine⟨x0,h0,g.drew,fun i m h=>?_⟩;rw[Array.getD_eq_getD_getElem?]at h;simp[m]at h
 ·intro i o d a w m E F p u;obtain⟨x,rfl,r,t⟩:=u;have D:=(yC.1 m).1
  have B:o.guard=none:=by have:=vT.1 hng o (vz m);simpa using this
  rw[wa (by unfold Region.wanted;rw[B])];refine Oper.wp_mono ?_ (hstep i o m x w r fun e A z=>t e.on (by have:=wV hdep m e A z;omega) (p e A z));rintro a' w' ⟨v,rfl,hv,y⟩;refine⟨upd x i v,rfl,r.trans y,fun j C hl=>?_⟩;unfold upd;by_cases e:j=i
  ·subst e;rw[wa rfl];exact hv
  ·rw[yD e];refine hmono j _ _ _ (t j C ?_) y;rw[Array.getD_eq_getD_getElem?,Array.getElem?_setIfInBounds_ne (Ne.symm e),<-Array.getD_eq_getD_getElem?]at hl;exact hl
 ·intro d a w q u;obtain⟨x,rfl,r,t⟩:=u;exact hdone x w r fun i m=>t i m (q i m)
end
theorem yy {w w':World}{d1 d2 d3 d4:Int}{t:TypeId}(g:Gr (w.alloc (.cells #[.int .i64 d1,.int .i64 d2,.int .i64 d3,.int .i64 d4] t)) w'):IntsAt w'.heap.size w' (.slice (some ⟨w.heap.size,0,none⟩) 4 4) [d1,d2,d3,d4]:=by
 refine⟨_,_,rfl,vV 4,by show 4<=17592186044416;decide,fun _=>⟨w.heap.size,0,rfl,by have:=g.size;simp at this;omega,fun j z d=>?_⟩⟩;rw[vX _ _ _ _ _ _ ((g.heap _ (by simp)).trans (heap_alloc_new w _))]
 match j,d with
 | 0,d=>simp at d;subst d;rfl
 | 1,d=>simp at d;subst d;rfl
 | 2,d=>simp at d;subst d;rfl
 | 3,d=>simp at d;subst d;rfl
def yw (a b:Rn.Out)(va vb:Value)(B2 B3:Nat)(x:Nat->Value):Act :=
 {tmps:=#[.agg #[.int .i64 a.kind,.bool a.ret.p,.int .i64 a.ret.s,.int .u32 a.ret.n,va],.agg #[.int .i64 b.kind,.bool b.ret.p,.int .i64 b.ret.s,.int .u32 b.ret.n,vb],(.pointer (some ⟨B2,0,none⟩)),(.pointer (some ⟨B3,0,none⟩)),(.int .i64 0),x 29,undef,undef,x 0,x 1,x 2,x 3,x 4,x 5,x 6,x 7,x 8,x 9,x 10,x 11,x 12,x 13,x 14,x 15,x 16,x 17,x 18,x 19,x 20,x 21,x 22,x 23,x 24,x 25,x 26,x 27,x 28,undef,undef,undef,undef,undef,undef,undef,undef,undef,undef,undef,undef,undef,undef,undef,undef,undef,undef,undef,undef,undef,undef,undef,undef,undef,undef,undef,undef,undef,undef,undef,undef,undef,undef,undef,undef,undef,undef],defers:=[]}
def yn (a b:Rn.Out)(va vb:Value)(B2 B3:Nat)(i:Nat)(v:Value)(w:World):Prop :=
 match i with
 | 0=>v=(.pointer (some ⟨B2,0,none⟩))
 | 1=>v=(.int .i64 a.kind)
 | 2=>v=(.pointer (some ⟨B2,1,none⟩))
 | 3=>v=(.pointer (some ⟨B2,1,none⟩))
 | 4=>v=(.bool a.ret.p)
 | 5=>v=(.int .i64 (Rn.bit a.ret.p))
 | 6=>v=(.pointer (some ⟨B2,1,none⟩))
 | 7=>v=(.pointer (some ⟨B2,2,none⟩))
 | 8=>v=(.int .i64 a.ret.s)
 | 9=>v=(.pointer (some ⟨B2,1,none⟩))
 | 10=>v=(.pointer (some ⟨B2,3,none⟩))
 | 11=>v=(.int .u32 a.ret.n)
 | 12=>v=(.int .i64 a.ret.n)
 | 13=>∃k,v=.slice (some ⟨k,0,none⟩) 4 4/\IntsAt w.heap.size w (.slice (some ⟨k,0,none⟩) 4 4) (Rn.heads a)
 | 14=>v=(.pointer (some ⟨B3,0,none⟩))
 | 15=>v=(.int .i64 b.kind)
 | 16=>v=(.pointer (some ⟨B3,1,none⟩))
 | 17=>v=(.pointer (some ⟨B3,1,none⟩))
 | 18=>v=(.bool b.ret.p)
 | 19=>v=(.int .i64 (Rn.bit b.ret.p))
 | 20=>v=(.pointer (some ⟨B3,1,none⟩))
 | 21=>v=(.pointer (some ⟨B3,2,none⟩))
 | 22=>v=(.int .i64 b.ret.s)
 | 23=>v=(.pointer (some ⟨B3,1,none⟩))
 | 24=>v=(.pointer (some ⟨B3,3,none⟩))
 | 25=>v=(.int .u32 b.ret.n)
 | 26=>v=(.int .i64 b.ret.n)
 | 27=>∃k,v=.slice (some ⟨k,0,none⟩) 4 4/\IntsAt w.heap.size w (.slice (some ⟨k,0,none⟩) 4 4) (Rn.heads b)
 | 28=>v=(.int .i64 (Rn.cmpInts (Rn.heads a) (Rn.heads b)))
 | 29=>v=(.int .i64 (Rn.cmpInts (Rn.heads a) (Rn.heads b)))
 | _=>True
theorem xI (a b:Rn.Out)(va vb:Value)(B2 B3:Nat)(i:Nat)(v:Value)(w w':World)(h:yn a b va vb B2 B3 i v w)(g:Gr w w'):yn a b va vb B2 B3 i v w':=by
 unfold yn at *;split at h
 all_goals first
  | exact h
  | (obtain⟨k,e,q⟩:=h;exact⟨k,e,q.gr g⟩)
theorem wT {P:Program}{Q:Exit->Act->World->Prop}{id:Nat}{a:Act}{w W:World}{l:List Oper}(fr:(Nat->Value)->Act)(sp:Nat->Value->World->Prop)(hm:P.follows .mixedOrders=true)(hdep:xH l=true)(hng:(l.all fun o=>o.guard.isNone)=true)
  (hmono:∀i v w w',sp i v w->Gr w w'->sp i v w') (x0:Nat->Value) (h0:a=fr x0) (g:Gr W w)
  (hstep:∀(i:Nat)(o:Oper),l[i]?=some o->∀(x:Nat->Value)(w:World),Gr W w->(∀e∈o.after,Region.binds .any e=true->sp e.on (x e.on) w)->∀K:Act->World->Prop,(∀v w',sp i v w'->Gr w w'->K (fr (upd x i v)) w')->o.wp P (fr x) w K Q)
  (hdone:∀(x:Nat->Value)(w:World),Gr W w->(∀i,i<l.length->sp i (x i) w)->Q .normal (fr x) w):(Code.region id l.toArray true).wp P Q a w :=
 wU fr sp hm hdep hng hmono x0 h0 g (fun i o m x w d j=>hstep i o m x w d j _ fun v w' h1 h2=>⟨v,rfl,h1,h2⟩) hdone
theorem xb {B:Nat}{w:World}{a b:Rn.Out}{va vb:Value}(ha:TabAt B w va a.mem)(hb:TabAt B w vb b.mem)(hB:B<=w.heap.size)(hna:0<=a.ret.n/\a.ret.n<4294967296)(hnb:0<=b.ret.n/\b.ret.n<4294967296) :
  Calls prog 46 #[gS a va,gS b vb] w (RG (.int .i64 (Rn.cmpOut a b)) w):=by
 obtain⟨C,D⟩:=xJ (ml w a va);obtain⟨W,hW⟩:=xJ (ml C b vb);have m:Gr w C:=by rw[<-D];exact(wL w).alloc _
 have I:Gr C W:=by rw[<-hW];exact(wL C).alloc _
 have XA:=fun(u:GrW W)=>ed (w:=w) (o:=a) (vm:=va) (w':=u.val) (by rw[D];exact I.trans u.gr);have XB:=fun(u:GrW W)=>ed (w:=C) (o:=b) (vm:=vb) (w':=u.val) (by rw[hW];exact u.gr);have Q:=dJ (m.trans I);have S:Hid (∀wr,Gr W wr->TabAt wr.heap.size wr va a.mem):=fun wr g=>(ha.below (Below.mono ((m.trans I).trans g) hB)).mono (by have:=((m.trans I).trans g).size;omega);have T:Hid (∀wr,Gr W wr->TabAt wr.heap.size wr vb b.mem):=fun wr g=>(hb.below (Below.mono ((m.trans I).trans g) hB)).mono (by have:=((m.trans I).trans g).size;omega);have HR:Hid (Rn.cmpOut a b=if Rn.cmpInts (Rn.heads a) (Rn.heads b)=0 then Rn.cmpMem a.mem b.mem else Rn.cmpInts (Rn.heads a) (Rn.heads b)):=rfl;obtain⟨n1,n2⟩:=hna;obtain⟨n3,n4⟩:=hnb;obtain⟨Aa,ca,rfl,a1,a2,-⟩:=id ha;obtain⟨Ab,cb,rfl,b1,b2,-⟩:=id hb;have q:=dJ XA;have r:=dJ XB;clear XA XB m I ha hb;unfold ml at D hW;unfold gS
 go_enter func46, ntmps46
 go_wp2;refine wT (W:=W) (yw a b (.slice Aa a.mem.length ca) (.slice Ab b.mem.length cb) w.heap.size C.heap.size) (yn a b (.slice Aa a.mem.length ca) (.slice Ab b.mem.length cb) w.heap.size C.heap.size) (by kernel_rfl) (by kernel_rfl) (by kernel_rfl) (xI _ _ _ _ _ _) (fun _=>undef) rfl (wL W) ?_ ?_
 ·have A0:=fun(u:GrW W)=>(q.out u).1;have A1:=fun(u:GrW W)=>(q.out u).2.1;have A2:=fun(u:GrW W)=>(q.out u).2.2.1;have A3:=fun(u:GrW W)=>(q.out u).2.2.2.1;have B0:=fun(u:GrW W)=>(r.out u).1;have B1:=fun(u:GrW W)=>(r.out u).2.1;have B2:=fun(u:GrW W)=>(r.out u).2.2.1;have B3:=fun(u:GrW W)=>(r.out u).2.2.2.1;intro i o hi x A m z K hK;have ap:=A0 ⟨A,m⟩;have aq:=A1 ⟨A,m⟩;have ar:=A2 ⟨A,m⟩;have au:=A3 ⟨A,m⟩;have av:=B0 ⟨A,m⟩;have aw:=B1 ⟨A,m⟩;have ax:=B2 ⟨A,m⟩;have ay:=B3 ⟨A,m⟩;clear A0 A1 A2 A3 B0 B1 B2 B3;have E:i<30:=(yC.1 hi).1;have e1:IntKind.i64.wrap a.ret.n=a.ret.n:=IntWalk.i64_in _ (by omega);have e2:IntKind.i64.wrap b.ret.n=b.ret.n:=IntWalk.i64_in _ (by omega);clear q r S T HR Q D hW;rcases (by omega:i=0\/i=1\/i=2\/i=3\/i=4\/i=5\/i=6\/i=7\/i=8\/i=9\/i=10\/i=11\/i=12\/i=13\/i=14\/i=15\/i=16\/i=17\/i=18\/i=19\/i=20\/i=21\/i=22\/i=23\/i=24\/i=25\/i=26\/i=27\/i=28\/i=29) with rfl|rfl|rfl|rfl|rfl|rfl|rfl|rfl|rfl|rfl|rfl|rfl|rfl|rfl|rfl|rfl|rfl|rfl|rfl|rfl|rfl|rfl|rfl|rfl|rfl|rfl|rfl|rfl|rfl|rfl
  all_goals
   obtain rfl:=Option.some.inj hi;simp[Region.binds,yn]at z
  all_goals first
   | (obtain⟨h1,h2,h3,h4⟩:=z;obtain⟨x,rfl⟩:=sk h1;obtain⟨x,rfl⟩:=sk (x:=x) h2;obtain⟨x,rfl⟩:=sk (x:=x) h3;obtain⟨x,rfl⟩:=sk (x:=x) h4)
   | (obtain⟨⟨k1,h1,i1⟩,⟨k2,h2,i2⟩,-⟩:=z;obtain⟨x,rfl⟩:=sk h1;obtain⟨x,rfl⟩:=sk (x:=x) h2)
   | (obtain⟨x,rfl⟩:=sk z.1;clear z)
   | (obtain⟨x,rfl⟩:=sk z)
   | clear z
  all_goals
   simp (decide:=true) only[yw,upd,if_true,if_false]
   first
    | (go_simp;exact hK _ _ rfl (wL _))
    | (go_simp;exact hK _ _ ⟨_,rfl,yy (wL _)⟩ ((wL _).alloc _))
    | (go_simp;go_at_call 83;refine(xR _ _).mono ?_;rintro e w2 ⟨rfl,rfl⟩;exact hK _ _ rfl (wL _))
    | (go_simp;go_at_call 82;refine(wZ i1 i2 (vV _)).mono ?_;rintro e w2 ⟨rfl,g⟩;exact hK _ _ rfl g)
 ·intro x w5 g5 F;have Y:x 29=.int .i64 (Rn.cmpInts (Rn.heads a) (Rn.heads b)):=F 29 (by decide);have al:∃j,x=upd j 29 (.int .i64 (Rn.cmpInts (Rn.heads a) (Rn.heads b))):=⟨x,by rw[<-xv Y]⟩;clear Y F;obtain⟨j,rfl⟩:=al;rw[show yw a b (.slice Aa a.mem.length ca) (.slice Ab b.mem.length cb) w.heap.size C.heap.size (upd j 29 (.int .i64 (Rn.cmpInts (Rn.heads a) (Rn.heads b))))={tmps:=#[.agg #[.int .i64 a.kind,.bool a.ret.p,.int .i64 a.ret.s,.int .u32 a.ret.n,.slice Aa a.mem.length ca],.agg #[.int .i64 b.kind,.bool b.ret.p,.int .i64 b.ret.s,.int .u32 b.ret.n,.slice Ab b.mem.length cb],(.pointer (some ⟨w.heap.size,0,none⟩)),(.pointer (some ⟨C.heap.size,0,none⟩)),(.int .i64 0),(.int .i64 (Rn.cmpInts (Rn.heads a) (Rn.heads b))),undef,undef,j 0,j 1,j 2,j 3,j 4,j 5,j 6,j 7,j 8,j 9,j 10,j 11,j 12,j 13,j 14,j 15,j 16,j 17,j 18,j 19,j 20,j 21,j 22,j 23,j 24,j 25,j 26,j 27,j 28,undef,undef,undef,undef,undef,undef,undef,undef,undef,undef,undef,undef,undef,undef,undef,undef,undef,undef,undef,undef,undef,undef,undef,undef,undef,undef,undef,undef,undef,undef,undef,undef,undef,undef,undef,undef,undef,undef],defers:=[]} from rfl];have G5:=dJ g5;clear g5;have A4:=fun(u:GrW W)=>(q.out u).2.2.2.2;have B4:=fun(u:GrW W)=>(r.out u).2.2.2.2;have a4:=A4 ⟨w5,G5.out⟩;have b4:=B4 ⟨w5,G5.out⟩;dsimp only at a4 b4;have N:=dJ A4;have O:=dJ B4;clear A4 B4;obtain⟨H,hH⟩:=xJ (Rn.cmpInts (Rn.heads a) (Rn.heads b));obtain⟨R,Z⟩:=xJ (Rn.cmpOut a b);rw[hH,Z]at HR;rw[hH];clear hH n1 n2 n3 n4;by_cases h0:H=0
  ·subst h0;have HM:Hid (Rn.cmpMem a.mem b.mem=R):=by show _=_;have:=HR.out;rw[wa rfl]at this;exact this.symm
   go_wp2
   go_loopw [6] (fun s6 wr=>∃k:Nat,k<=a.mem.length/\k<=b.mem.length/\s6=.int .i64 (k:Int)/\Hid (Rn.cmpMem (a.mem.drop k) (b.mem.drop k)=R)/\Hid (Gr W wr)) (fun s6 _=>a.mem.length-(intOf s6).toNat)
   case atStart=>exact⟨0,vU _,vU _,rfl,HM,G5⟩
   case round =>
    obtain⟨k,ab,ac,rfl,M,l⟩:=hrel;have r4:=N.out ⟨wr,l.out⟩;have s4:=O.out ⟨wr,l.out⟩;dsimp only at r4 s4;by_cases E:k<a.mem.length
    ·by_cases J:k<b.mem.length
     ·obtain⟨x,hx⟩:∃x,a.mem[k]?=some x:=⟨_,vu E⟩;obtain⟨y,hy⟩:∃y,b.mem[k]?=some y:=⟨_,vu J⟩;obtain⟨am,az,ea,-,-,t3⟩:=S.out wr l.out;obtain⟨ba,oa,e1,aj,t4⟩:=t3 (by omega);injection ea with ea af ag;rw[<-ea]at e1;subst e1;obtain⟨aC,U,ad⟩:=t4 k x hx;obtain⟨an,aA,eb,-,-,u3⟩:=T.out wr l.out;obtain⟨bb,ob,e2,ak,u4⟩:=u3 (by omega);injection eb with eb ah ai;rw[<-eb]at e2;subst e2;obtain⟨aD,X,ae⟩:=u4 k y hy;have da:a.mem.drop k=x::a.mem.drop (k+1):=by rw[vM E];congr 1;rw[vu E]at hx;injection hx
      have db:b.mem.drop k=y::b.mem.drop (k+1):=by rw[vM J];congr 1;rw[vu J]at hy;injection hy
      have G:=dJ fun(u:GrW wr)=>wZ (w:=u.val) (ad.gr u.gr) (ae.gr u.gr) (vV _);have UA:=fun(u:GrW wr)=>(u.gr.cell _ _ aj).trans U;have UB:=fun(u:GrW wr)=>(u.gr.cell _ _ ak).trans X;have R4:=fun(u:GrW wr)=>N.out ⟨u.val,l.out.trans u.gr⟩;have S4:=fun(u:GrW wr)=>O.out ⟨u.val,l.out.trans u.gr⟩
      have HQ:Hid ((if Rn.cmpInts x y=0 then Rn.cmpMem (a.mem.drop (k+1)) (b.mem.drop (k+1)) else Rn.cmpInts x y)=R):=by show _=_;have:=M.out;rw[da,db,Rn.cmpMem]at this;exact this
      obtain⟨d,z⟩:=xJ (Rn.cmpInts x y);rw[z]at G HQ;obtain⟨Av,cv,rfl,-,-,-⟩:=ad;obtain⟨ao,aB,rfl,-,-,-⟩:=ae;clear hx hy da db z M t3 t4 u3 u4 U X af ag ah ai ea eb;by_cases aa:d=0
      ·subst aa;go_wp2;refine dc (by kernel_rfl) (by kernel_rfl) ?_;repeat (go_big_quiet_step ((rename_i u;go_at_call 82;exact di u (G.out u))))
       refine wpQuiet_nil ?_;intro w9 L;obtain⟨u9,rfl⟩:=L;have G9:=dJ (l.out.trans u9.gr);clear UA UB R4 S4;go_wp2;go_roundw;case rel=>exact⟨k+1,by omega,by omega,by go_num,by (show _=_);have:=HQ.out;simpa using this,G9.out⟩
       case measure=>simp[intOf];omega
      ·have t:Hid (R=d):=by show _=_;have:=HQ.out;rw[yD aa]at this;exact this.symm
       go_wp2;refine dc (by kernel_rfl) (by kernel_rfl) ?_;repeat (go_big_quiet_step ((rename_i u;go_at_call 82;exact di u (G.out u))))
       refine wpQuiet_nil ?_;intro w9 L;obtain⟨u9,rfl⟩:=L;have G9:=dJ (Q.out.trans (l.out.trans u9.gr));clear UA UB R4 S4;go_wp2;go_ret;exact⟨de (by first|exact t.out.symm.trans Z.symm|exact t.out.symm),G9.out⟩
     ·obtain rfl:k=b.mem.length:=by omega
      have t:Hid (R=Rn.sgn a.mem.length b.mem.length):=by show _=_;rw[<-M.out];exact Rn.cmpMem_end ab ac (.inr rfl)
      have G:=dJ (gC a.mem.length b.mem.length wr);clear M;go_wp2_with (go_at_call 84;refine G.out.mono ?_;rintro e A ⟨rfl,rfl⟩);go_ret;exact⟨de (by first|exact t.out.symm.trans Z.symm|exact t.out.symm),Q.out.trans l.out⟩
    ·obtain rfl:k=a.mem.length:=by omega
     have t:Hid (R=Rn.sgn a.mem.length b.mem.length):=by show _=_;rw[<-M.out];exact Rn.cmpMem_end ab ac (.inl rfl)
     have G:=dJ (gC a.mem.length b.mem.length wr);clear M;go_wp2_with (go_at_call 84;refine G.out.mono ?_;rintro e A ⟨rfl,rfl⟩);go_ret;exact⟨de (by first|exact t.out.symm.trans Z.symm|exact t.out.symm),Q.out.trans l.out⟩
  ·have t:Hid (R=H):=by show _=_;have:=HR.out;rw[yD h0]at this;exact this
   go_wp2;go_ret;exact⟨de (by first|exact t.out.symm.trans Z.symm|exact t.out.symm),Q.out.trans G5.out⟩
theorem xC {B:Nat}{w:World}{a b:Rn.Out}{va vb:Value}(ha:TabAt B w va a.mem)(hb:TabAt B w vb b.mem)(hB:B<=w.heap.size)(hna:0<=a.ret.n/\a.ret.n<4294967296)(hnb:0<=b.ret.n/\b.ret.n<4294967296) :
  Calls prog 18 #[gS a va,gS b vb] w (RG (.bool (decide (Rn.cmpOut a b=0))) w):=by
 obtain⟨g,d⟩:=xJ (ml w a va);obtain⟨W,m⟩:=xJ (ml g b vb);have l:Gr w g:=by rw[<-d];exact(wL w).alloc _
 have j:Gr g W:=by rw[<-m];exact(wL g).alloc _
 have u:g.heap.size=w.heap.size+1:=by rw[<-d];unfold ml;simp
 obtain⟨a0,A,C,a3,a4⟩:=ed (w:=w) (o:=a) (vm:=va) (w':=W) (by rw[d];exact j);obtain⟨D,E,F,G,H⟩:=ed (w:=g) (o:=b) (vm:=vb) (w':=W) (by rw[m];exact wL _);have p:=dJ (xb (w:=W) (a:=a) (b:=b) (ha.below (Below.mono (l.trans j) hB)) (hb.below (Below.mono (l.trans j) hB)) (by have:=(l.trans j).size;omega) hna hnb);have q:=dJ (l.trans j);obtain⟨y,ca,rfl,-,-,-⟩:=ha;obtain⟨z,I,rfl,-,-,-⟩:=hb;generalize Rn.cmpOut a b=R at *;clear u l j;unfold ml at d m;unfold gS at *;by_cases t:R=0
 all_goals
  go_enter func18, ntmps18
  go_wp2_with (go_at_call 46;refine p.out.mono ?_;rintro e J ⟨rfl,r⟩);go_ret;exact⟨cZ (by simp[t]),q.out.trans r⟩
theorem app5 {P:Program}{w:World}{ops:Array Oper}{rest:List Oper}{o:Oper}{a:Act}{Q:Exit->Act->World->Prop}{B n:Nat}{t e:TypeId}{i:TypeInfo}{z:Value}{bytes:Nat}
  (ht:P.underlying t=some (.slice e)) (hi:P.info? e=some i) (hz:i.zero=some z) (hsize:i.size=5) (hby:i.bytes=bytes) (hzs:z.cells.size=5) (hbb:bytes<=128)
  (hgd:o.guard=none) (s x:Operand) (ho:o.op=.call {callee:=.builtin .append,args:=#[s,x],argTypes:=#[t,t]})
  {v:Value} {xs:List Value} (hs:a.eval s=v) (hown:w.ownsRow B e 5 v n xs) {y:Rn.Out} {vy:Value} (hvy:vy.oneCell'=true) {e':TypeId} (hx:a.eval x=.slice (some ⟨w.heap.size,0,none⟩) 1 1) (hlt:n<1099511627776) (hB:B<=w.heap.size)
  (h:∀A c w',w'.ownsRow B e 5 (.slice A (n+1) c) (n+1) (xs++sH y vy)->(w.alloc (.cells #[.int .i64 y.kind,.bool y.ret.p,.int .i64 y.ret.s,.int .u32 y.ret.n,vy] e')).grownBy w' v.ownBlock->wpList P ops Q rest (a.put o.dst (.slice A (n+1) c)) w') :
  wpList P ops Q (o::rest) a (w.alloc (.cells #[.int .i64 y.kind,.bool y.ret.p,.int .i64 y.ret.s,.int .u32 y.ret.n,vy] e')):=by
 refine dG hgd s x t ho B e i z 5 bytes ht hi hz hsize hby hzs (by omega) v n xs hs (ew hown ((wL _).alloc _)) _ 1 (sH y vy) hx (yG _ (sH y vy) _) ?_ ?_ ?_ ?_ ?_
 ·intro u g;simp[sH]at g;rcases g with rfl|rfl|rfl|rfl|rfl
  ·rfl
  ·rfl
  ·rfl
  ·rfl
  ·exact hvy
 ·simp only[maxLen];omega
 ·have:(n+1)*bytes<=(n+1)*128:=Nat.mul_le_mul_left _ hbb;omega
 ·simp;omega
 ·intro m w' d l j;obtain⟨A,c,hv,-⟩:=dU d;subst hv;exact h A c w' d l
theorem OutsAt.cells {D:Nat->Prop}{B n c j:Nat}{A:Option Addr}{w:World}{outs:List Rn.Out}{vms:List Value}(h:OutsAt D B w (.slice A n c) outs vms)(hn:outs.length=n){y:Rn.Out}(hy:outs[j]?=some y) :
  ∃b Ay cy,A=some ⟨b,0,none⟩/\n<=c/\vms[j]?=some (.slice Ay y.mem.length cy)/\(∀u,Gr w u->u.cell? ⟨b,j*5,none⟩=some (.int .i64 y.kind)/\u.cell? ⟨b,j*5+1,none⟩=some (.bool y.ret.p)/\u.cell? ⟨b,j*5+2,none⟩=some (.int .i64 y.ret.s)/\u.cell? ⟨b,j*5+3,none⟩=some (.int .u32 y.ret.n)/\u.cell? ⟨b,j*5+4,none⟩=some (.slice Ay y.mem.length cy)) /\
   ∀u,Gr w u->TabAt u.heap.size u (.slice Ay y.mem.length cy) y.mem:=by
 subst hn;have I:=(yC.1 hy).1;obtain⟨b,e,z,-,d⟩:=dz h.own rfl (by omega);obtain⟨C,l⟩:∃C,vms[j]?=some C:=⟨_,vu (by rw[h.len];exact I)⟩;have E:=h.at_ j y C hy l;obtain⟨Ay,cy,rfl⟩:=E.2.1
 have H:outs.length<=c:=by
  obtain⟨-,r⟩:=h.own;rcases r with ⟨e,K⟩|⟨g,F,G,e,-,-,L,-⟩
  ·omega
  ·injection e with _ _ J;omega
 refine⟨b,Ay,cy,e,H,l,fun u m=>?_,fun u m=>(E.gr m).tab⟩;have q:=fun t (ht:t<5)=>(m.cell b (j*5+t) z).trans ((d (j*5+t) (by omega)).trans (kJ outs vms j t y _ hy l ht));exact⟨q 0 (by decide),q 1 (by decide),q 2 (by decide),q 3 (by decide),q 4 (by decide)⟩
def OW (o:Rn.Out):Prop:=0<=o.ret.n/\o.ret.n<4294967296
theorem DS.slot {c:Cfg}{pk bl:List Int}{w:World}{s:Rn.St}{o:Rn.Out}{om wv bv:Value}(h:DS c pk w s bl o om wv bv)(hf:VFn c.f)(hi:Rn.Inv c.f s){p:Rn.V}(h1:1<=p.s)(h2:p.s<=c.f.slots.length) :
  ∃(j bj cp:Nat)(l:List Int),p.s-1=(j:Int)/\(p.s-1).toNat=j/\c.us[j]?=some (bj,cp)/\s.mem[j]?=some l/\s.mem.getD (p.s-1).toNat []=l/\l.length<=cp/\cp<=9223372036854775807/\j<c.us.length/\c.us.length<=c.cm/\c.cm<=9223372036854775807 /\
   c.Am=some ⟨c.Bm,0,none⟩/\w.cell? ⟨c.Bm,j,none⟩=some (.slice (some ⟨bj,0,none⟩) l.length cp)/\l.length<=8 /\
   RowIs bj l w:=by
 have A:=hi.mem;have hlen:s.mem.length=c.f.slots.length:=by rw[<-A];simp
 have B:s.mem.length=c.us.length:=h.mem.1;obtain⟨j,z⟩:=xJ ((p.s-1).toNat);have d:j<c.us.length:=by omega
 obtain⟨⟨bj,cp⟩,t⟩:∃u,c.us[j]?=some u:=⟨_,vu d⟩;obtain⟨l,hl⟩:∃l,s.mem[j]?=some l:=⟨_,vu (by omega)⟩;obtain⟨n,r⟩:∃n,c.f.slots[j]?=some n:=⟨_,vu (by omega)⟩
 have m:(l.length:Int)=n:=by have:=congrArg (fun q=>q[j]?) A;simp only[vH,hl,r,Option.map_some]at this;injection this
 obtain⟨C,D,g,E,F⟩:=h.mem.2 j bj cp l t hl;obtain⟨s1,s2,s3⟩:=h.slots;obtain⟨s4,y,s5,s6⟩:=s3 (by omega);refine⟨j,bj,cp,l,by omega,z,t,hl,by rw[z,vA,hl];rfl,C,D,d,s1,s2,s4,?_,?_,g,E,F⟩
 ·rw[vX _ _ j _ _ _ s5,s6 j bj cp n t r,<-m];rfl
 ·have:=vT.1 hf.val.head.2 n (vz r);unfold Ref.isSlot at this;simp at this;omega
end
