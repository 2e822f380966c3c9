import Derived.Orders
import Derived.Test.YtjkajidbdmbbaaaGreatN37
set_option linter.unusedSimpArgs false
set_option linter.unusedVariables false
set_option maxRecDepth 100000
set_option maxHeartbeats 16000000
open Go.Proofs.Tryz
namespace Go.Proofs.YtjkajidbdmbbaaaGreat
open Ref Rn Wd Ir Rf
variable {a:Act}{ops:Array Oper}{c:Cfg}{Q:Exit->Act->World->Prop}{bl pk:List Int}{l rest:List Oper}{vms xs:List Value}{B bytes i id m n:Nat}{D:Nat->Prop}{o:Oper}{A:Option Addr}{P:Program}{e' t:TypeId}{bv om v vb vx vy wv z:Value}{W w:World}
section
open Go.RowKit
def qz (l:List Oper):Bool:=(List.range l.length).all fun i=>((l[i]?).map fun o=>o.after.all fun e=>!Region.binds .any e || decide (e.on<i)).getD true
theorem jG (h:qz l=true)(hi:l[i]?=some o):∀e∈o.after,Region.binds .any e=true->e.on<i:=by intro e m j;have g:=(xS.1 hi).1;have d:=ym.1 h i (List.mem_range.2 g);rw[hi]at d;simp only[Option.map_some,Option.getD_some]at d;rw[Array.all_eq_true_iff_forall_mem]at d;have:=d e m;rw[j]at this;simpa using this
theorem rd {listed:Array Bool}(hi:i<listed.size):(listed.getD i true=false↔listed.getD i false=false):=by simp[hi]
section
variable {P:Program}{Q:Exit->Act->World->Prop}
theorem sX (hdep:qz l=true)(J:Array Bool->Act->World->Prop)
  (hstep:∀(i:Nat)(o:Oper)(listed:Array Bool)(a:Act)(w:World),l[i]?=some o->listed.size=l.length->listed.getD i false=false->(∀e∈o.after,Region.binds .any e=true->listed.getD e.on false=true)->J listed a w ->
    if Region.wanted o (yielded l.toArray a.tmps)=true then o.wp P a w (J (listed.setIfInBounds i true)) Q else J (listed.setIfInBounds i true) (a.put o.dst undef) w)
  (hdone:∀(listed:Array Bool)(a:Act)(w:World),(∀i,i<l.length->listed.getD i false=true)->J listed a w->Q .normal a w) :
  ∀(fuel:Nat)(listed:Array Bool)(a:Act)(w:World),listed.size=l.length->listed.toList.count false=fuel->J listed a w->wpAny P .any l.toArray Q fuel listed a w:=by
 have m:∀(listed:Array Bool),listed.size=l.length->Region.ready .any l.toArray listed=[]->∀i,i<l.length->listed.getD i false=true:=by
  intro listed g q i
  induction i using Nat.strongRecOn with
  | ind i ih =>
   intro t
   cases hb:listed.getD i false with
   | true=>rfl
   | false =>
    obtain⟨o,u⟩:∃o,l[i]?=some o:=⟨_,xR t⟩
    have C:i∈Region.ready .any l.toArray listed:=mem_ready.2 ⟨(rd (by omega)).2 hb,o,by simpa using u,fun e B hbd=>by
      have d:=jG hdep u e B hbd
      exact ih e.on d (by omega)⟩
    rw[q]at C;cases C
 intro fuel
 induction fuel with
 | zero =>
  intro listed a w g A y
  have q:Region.ready .any l.toArray listed=[]:=by
   apply List.eq_nil_iff_forall_not_mem.2;intro i t;obtain⟨p,-⟩:=mem_ready.1 t
   have d:i<listed.size:=by
    rcases yw i listed.size with h|h
    ·exact h
    ·simp[Array.getElem?_eq_none h]at p
   have:false∈listed.toList:=by
    have e:listed[i]=false:=by simpa[d] using p
    rw[<-e];simp
   exact absurd this (List.count_eq_zero.1 A)
  exact⟨q,hdone _ _ _ (m _ g q) y⟩
 | succ fuel ih =>
  intro listed a w g A y;refine⟨fun q=>hdone _ _ _ (m _ g q) y,fun i t=>?_⟩;obtain⟨p,o,u,j⟩:=mem_ready.1 t
  have d:i<listed.size:=by
   rcases yw i listed.size with h|h
   ·exact h
   ·simp[Array.getElem?_eq_none h]at p
  have B:listed[i]=false:=by simpa[d] using p
  have r:(listed.setIfInBounds i true).toList.count false=fuel:=by rw[Array.toList_setIfInBounds,List.count_set (by simpa using d)];simp[B,A]
  have z:=hstep i o listed a w (by simpa using u) g ((rd d).1 p) j y;unfold wpOp;rw[u];dsimp only;split
  ·next hw =>
   rw[yr hw]at z;exact .inl (Oper.wp_mono (fun D w' h=>ih _ D w' (by simpa using g) r h) z)
  ·next hw =>
   rw[yt hw]at z;exact ih _ _ _ (by simpa using g) r z
theorem kT (hm:P.follows .mixedOrders=true)(hdep:qz l=true)(J:Array Bool->Act->World->Prop)(h0:J (Array.replicate l.length false) a w.drew)
  (hstep:∀(i:Nat)(o:Oper)(listed:Array Bool)(a:Act)(w:World),l[i]?=some o->listed.size=l.length->listed.getD i false=false->(∀e∈o.after,Region.binds .any e=true->listed.getD e.on false=true)->J listed a w ->
    if Region.wanted o (yielded l.toArray a.tmps)=true then o.wp P a w (J (listed.setIfInBounds i true)) Q else J (listed.setIfInBounds i true) (a.put o.dst undef) w)
  (hdone:∀(listed:Array Bool)(a:Act)(w:World),(∀i,i<l.length->listed.getD i false=true)->J listed a w->Q .normal a w):(Code.region id l.toArray true).wp P Q a w:=by
 refine wp_region_any hm ?_;exact sX hdep J hstep hdone _ _ _ _ (by simp) (by simp) h0
end
def upd (x:Nat->Value)(i:Nat)(v:Value)(j:Nat):Value:=if j=i then v else x j
theorem ow {x:Nat->Value}(h:x i=v):x=upd x i v:=by
 funext j;unfold upd;split;next e=>rw[e,h]
 ·rfl
theorem iy {x:Nat->Value}(h:x i=v):∃x',x=upd x' i v:=⟨x,ow h⟩
section
variable {P:Program}{Q:Exit->Act->World->Prop}
theorem jE (fr:(Nat->Value)->Act)(sp:Nat->Value->World->Prop)(hm:P.follows .mixedOrders=true)(hdep:qz l=true)(hng:(l.all fun o=>o.guard.isNone)=true)
  (hmono:∀i v w w',sp i v w->Gr w w'->sp i v w') (x0:Nat->Value) (h0:a=fr x0) (g:Gr W w)
  (hstep:∀(i:Nat)(o:Oper),l[i]?=some o->∀(x:Nat->Value)(w:World),Gr W w->(∀e∈o.after,Region.binds .any e=true->sp e.on (x e.on) w)->o.wp P (fr x) w (fun a' w'=>∃v,a'=fr (upd x i v)/\sp i v w'/\Gr w w') Q)
  (hdone:∀(x:Nat->Value)(w:World),Gr W w->(∀i,i<l.length->sp i (x i) w)->Q .normal (fr x) w):(Code.region id l.toArray true).wp P Q a w:=by
 refine kT hm hdep (fun d a w=>∃x,a=fr x/\Gr W w/\∀i,i<l.length->d.getD i false=true->sp i (x i) w) ?_ ?_ ?_
 ·refine⟨x0,h0,g.drew,fun i m h=>?_⟩;rw[Array.getD_eq_getD_getElem?]at h;simp[m]at h
 ·intro i o d a w m E F p u;obtain⟨x,rfl,r,t⟩:=u;have D:=(xS.1 m).1
  have B:o.guard=none:=by have:=ym.1 hng o (xT m);simpa using this
  rw[yr (by unfold Region.wanted;rw[B])];refine Oper.wp_mono ?_ (hstep i o m x w r fun e A z=>t e.on (by have:=jG hdep m e A z;omega) (p e A z));rintro a' w' ⟨v,rfl,hv,y⟩;refine⟨upd x i v,rfl,r.trans y,fun j C hl=>?_⟩;unfold upd;by_cases e:j=i
  ·subst e;rw[yr rfl];exact hv
  ·rw[yt e];refine hmono j _ _ _ (t j C ?_) y;rw[Array.getD_eq_getD_getElem?,Array.getElem?_setIfInBounds_ne (Ne.symm e),<-Array.getD_eq_getD_getElem?]at hl;exact hl
 ·intro d a w q u;obtain⟨x,rfl,r,t⟩:=u;exact hdone x w r fun i m=>t i m (q i m)
end
theorem wW {w':World}{d1 d2 d3 d4:Int}(g:Gr (w.alloc (.cells #[.int .i64 d1,.int .i64 d2,.int .i64 d3,.int .i64 d4] t)) w'):IntsAt w'.heap.size w' (.slice (some ⟨w.heap.size,0,none⟩) 4 4) [d1,d2,d3,d4]:=by
 refine⟨_,_,rfl,yJ 4,by show 4<=17592186044416;decide,fun _=>⟨w.heap.size,0,rfl,by have:=g.size;simp at this;omega,fun j z d=>?_⟩⟩;rw[yo _ _ _ _ _ _ ((g.heap _ (by simp)).trans (heap_alloc_new w _))]
 match j,d with
 | 0,d=>simp at d;subst d;rfl
 | 1,d=>simp at d;subst d;rfl
 | 2,d=>simp at d;subst d;rfl
 | 3,d=>simp at d;subst d;rfl
def wU (a b:zO)(va vb:Value)(B2 B3:Nat)(x:Nat->Value):Act :=
 {tmps:=#[.agg #[.int .i64 a.kind,.bool a.ret.p,.int .i64 a.ret.s,.int .u32 a.ret.n,va],.agg #[.int .i64 b.kind,.bool b.ret.p,.int .i64 b.ret.s,.int .u32 b.ret.n,vb],(.pointer (some ⟨B2,0,none⟩)),(.pointer (some ⟨B3,0,none⟩)),(.int .i64 0),x 29,undef,undef,x 0,x 1,x 2,x 3,x 4,x 5,x 6,x 7,x 8,x 9,x 10,x 11,x 12,x 13,x 14,x 15,x 16,x 17,x 18,x 19,x 20,x 21,x 22,x 23,x 24,x 25,x 26,x 27,x 28,undef,undef,undef,undef,undef,undef,undef,undef,undef,undef,undef,undef,undef,undef,undef,undef,undef,undef,undef,undef,undef,undef,undef,undef,undef,undef,undef,undef,undef,undef,undef,undef,undef,undef,undef,undef,undef,undef],defers:=[]}
def wu (a b:zO)(va vb:Value)(B2 B3:Nat)(i:Nat)(v:Value)(w:World):Prop :=
 match i with
 | 0=>v=(.pointer (some ⟨B2,0,none⟩))
 | 1=>v=(.int .i64 a.kind)
 | 2=>v=(.pointer (some ⟨B2,1,none⟩))
 | 3=>v=(.pointer (some ⟨B2,1,none⟩))
 | 4=>v=(.bool a.ret.p)
 | 5=>v=(.int .i64 (Gm a.ret.p))
 | 6=>v=(.pointer (some ⟨B2,1,none⟩))
 | 7=>v=(.pointer (some ⟨B2,2,none⟩))
 | 8=>v=(.int .i64 a.ret.s)
 | 9=>v=(.pointer (some ⟨B2,1,none⟩))
 | 10=>v=(.pointer (some ⟨B2,3,none⟩))
 | 11=>v=(.int .u32 a.ret.n)
 | 12=>v=(.int .i64 a.ret.n)
 | 13=>∃k,v=.slice (some ⟨k,0,none⟩) 4 4/\IntsAt w.heap.size w (.slice (some ⟨k,0,none⟩) 4 4) (Dh a)
 | 14=>v=(.pointer (some ⟨B3,0,none⟩))
 | 15=>v=(.int .i64 b.kind)
 | 16=>v=(.pointer (some ⟨B3,1,none⟩))
 | 17=>v=(.pointer (some ⟨B3,1,none⟩))
 | 18=>v=(.bool b.ret.p)
 | 19=>v=(.int .i64 (Gm b.ret.p))
 | 20=>v=(.pointer (some ⟨B3,1,none⟩))
 | 21=>v=(.pointer (some ⟨B3,2,none⟩))
 | 22=>v=(.int .i64 b.ret.s)
 | 23=>v=(.pointer (some ⟨B3,1,none⟩))
 | 24=>v=(.pointer (some ⟨B3,3,none⟩))
 | 25=>v=(.int .u32 b.ret.n)
 | 26=>v=(.int .i64 b.ret.n)
 | 27=>∃k,v=.slice (some ⟨k,0,none⟩) 4 4/\IntsAt w.heap.size w (.slice (some ⟨k,0,none⟩) 4 4) (Dh b)
 | 28=>v=(.int .i64 (AL (Dh a) (Dh b)))
 | 29=>v=(.int .i64 (AL (Dh a) (Dh b)))
 | _=>True
theorem qF (a b:zO)(va vb:Value)(B2 B3:Nat)(i:Nat)(v:Value)(w w':World)(h:wu a b va vb B2 B3 i v w)(g:Gr w w'):wu a b va vb B2 B3 i v w':=by
 unfold wu at *;split at h
 all_goals first
  | exact h
  | (obtain⟨k,e,q⟩:=h;exact⟨k,e,q.gr g⟩)
theorem js (fr:(Nat->Value)->Act)(sp:Nat->Value->World->Prop)(hm:P.follows .mixedOrders=true)(hdep:qz l=true)(hng:(l.all fun o=>o.guard.isNone)=true)
  (hmono:∀i v w w',sp i v w->Gr w w'->sp i v w') (x0:Nat->Value) (h0:a=fr x0) (g:Gr W w)
  (hstep:∀(i:Nat)(o:Oper),l[i]?=some o->∀(x:Nat->Value)(w:World),Gr W w->(∀e∈o.after,Region.binds .any e=true->sp e.on (x e.on) w)->∀K:Act->World->Prop,(∀v w',sp i v w'->Gr w w'->K (fr (upd x i v)) w')->o.wp P (fr x) w K Q)
  (hdone:∀(x:Nat->Value)(w:World),Gr W w->(∀i,i<l.length->sp i (x i) w)->Q .normal (fr x) w):(Code.region id l.toArray true).wp P Q a w :=
 jE fr sp hm hdep hng hmono x0 h0 g (fun i o m x w d j=>hstep i o m x w d j _ fun v w' h1 h2=>⟨v,rfl,h1,h2⟩) hdone
theorem gN {a b:zO}{va:Value}(ha:TabAt B w va a.mem)(hb:TabAt B w vb b.mem)(hB:B<=w.heap.size)(hna:0<=a.ret.n/\a.ret.n<4294967296)(hnb:0<=b.ret.n/\b.ret.n<4294967296) :
  Calls prog 159 #[eW a va,eW b vb] w (RG (.int .i64 (BJ a b)) w):=by
 obtain⟨C,D⟩:=xJ (fO w a va);obtain⟨W,hW⟩:=xJ (fO C b vb);have m:Gr w C:=by rw[<-D];exact(yO w).alloc _
 have I:Gr C W:=by rw[<-hW];exact(yO C).alloc _
 have XA:=fun(u:GrW W)=>dz (w:=w) (o:=a) (vm:=va) (w':=u.val) (by rw[D];exact I.trans u.gr);have XB:=fun(u:GrW W)=>dz (w:=C) (o:=b) (vm:=vb) (w':=u.val) (by rw[hW];exact u.gr);have Q:=dJ (m.trans I);have S:Hid (∀wr,Gr W wr->TabAt wr.heap.size wr va a.mem):=fun wr g=>(ha.below (Below.mono ((m.trans I).trans g) hB)).mono (by have:=((m.trans I).trans g).size;omega);have T:Hid (∀wr,Gr W wr->TabAt wr.heap.size wr vb b.mem):=fun wr g=>(hb.below (Below.mono ((m.trans I).trans g) hB)).mono (by have:=((m.trans I).trans g).size;omega);have HR:Hid (BJ a b=if AL (Dh a) (Dh b)=0 then Da a.mem b.mem else AL (Dh a) (Dh b)):=rfl;obtain⟨n1,n2⟩:=hna;obtain⟨n3,n4⟩:=hnb;obtain⟨Aa,ca,rfl,a1,a2,-⟩:=id ha;obtain⟨Ab,cb,rfl,b1,b2,-⟩:=id hb;have q:=dJ XA;have r:=dJ XB;clear XA XB m I ha hb;unfold fO at D hW;unfold eW
 go_enter func159, ntmps159
 go_wp2;refine js (W:=W) (wU a b (.slice Aa a.mem.length ca) (.slice Ab b.mem.length cb) w.heap.size C.heap.size) (wu a b (.slice Aa a.mem.length ca) (.slice Ab b.mem.length cb) w.heap.size C.heap.size) (by kernel_rfl) (by kernel_rfl) (by kernel_rfl) (qF _ _ _ _ _ _) (fun _=>undef) rfl (yO W) ?_ ?_
 ·have A0:=fun(u:GrW W)=>(q.out u).1;have A1:=fun(u:GrW W)=>(q.out u).2.1;have A2:=fun(u:GrW W)=>(q.out u).2.2.1;have A3:=fun(u:GrW W)=>(q.out u).2.2.2.1;have B0:=fun(u:GrW W)=>(r.out u).1;have B1:=fun(u:GrW W)=>(r.out u).2.1;have B2:=fun(u:GrW W)=>(r.out u).2.2.1;have B3:=fun(u:GrW W)=>(r.out u).2.2.2.1;intro i o hi x A m z K hK;have ap:=A0 ⟨A,m⟩;have aq:=A1 ⟨A,m⟩;have ar:=A2 ⟨A,m⟩;have au:=A3 ⟨A,m⟩;have av:=B0 ⟨A,m⟩;have aw:=B1 ⟨A,m⟩;have ax:=B2 ⟨A,m⟩;have ay:=B3 ⟨A,m⟩;clear A0 A1 A2 A3 B0 B1 B2 B3;have E:i<30:=(xS.1 hi).1;have e1:IntKind.i64.wrap a.ret.n=a.ret.n:=IntWalk.i64_in _ (by omega);have e2:IntKind.i64.wrap b.ret.n=b.ret.n:=IntWalk.i64_in _ (by omega);clear q r S T HR Q D hW;rcases (by omega:i=0\/i=1\/i=2\/i=3\/i=4\/i=5\/i=6\/i=7\/i=8\/i=9\/i=10\/i=11\/i=12\/i=13\/i=14\/i=15\/i=16\/i=17\/i=18\/i=19\/i=20\/i=21\/i=22\/i=23\/i=24\/i=25\/i=26\/i=27\/i=28\/i=29) with rfl|rfl|rfl|rfl|rfl|rfl|rfl|rfl|rfl|rfl|rfl|rfl|rfl|rfl|rfl|rfl|rfl|rfl|rfl|rfl|rfl|rfl|rfl|rfl|rfl|rfl|rfl|rfl|rfl|rfl
  all_goals
   obtain rfl:=Option.some.inj hi;simp[Region.binds,wu]at z
  all_goals first
   | (obtain⟨h1,h2,h3,h4⟩:=z;obtain⟨x,rfl⟩:=iy h1;obtain⟨x,rfl⟩:=iy (x:=x) h2;obtain⟨x,rfl⟩:=iy (x:=x) h3;obtain⟨x,rfl⟩:=iy (x:=x) h4)
   | (obtain⟨⟨k1,h1,i1⟩,⟨k2,h2,i2⟩,-⟩:=z;obtain⟨x,rfl⟩:=iy h1;obtain⟨x,rfl⟩:=iy (x:=x) h2)
   | (obtain⟨x,rfl⟩:=iy z.1;clear z)
   | (obtain⟨x,rfl⟩:=iy z)
   | clear z
  all_goals
   simp (decide:=true) only[wU,upd,if_true,if_false]
   first
    | (go_simp;exact hK _ _ rfl (yO _))
    | (go_simp;exact hK _ _ ⟨_,rfl,wW (yO _)⟩ ((yO _).alloc _))
    | (go_simp;go_at_call 183;refine(rR _ _).mono ?_;rintro e w2 ⟨rfl,rfl⟩;exact hK _ _ rfl (yO _))
    | (go_simp;go_at_call 182;refine(jZ i1 i2 (yJ _)).mono ?_;rintro e w2 ⟨rfl,g⟩;exact hK _ _ rfl g)
 ·intro x w5 g5 F;have Y:x 29=.int .i64 (AL (Dh a) (Dh b)):=F 29 (by decide);have al:∃j,x=upd j 29 (.int .i64 (AL (Dh a) (Dh b))):=⟨x,by rw[<-ow Y]⟩;clear Y F;obtain⟨j,rfl⟩:=al;rw[show wU a b (.slice Aa a.mem.length ca) (.slice Ab b.mem.length cb) w.heap.size C.heap.size (upd j 29 (.int .i64 (AL (Dh a) (Dh b))))={tmps:=#[.agg #[.int .i64 a.kind,.bool a.ret.p,.int .i64 a.ret.s,.int .u32 a.ret.n,.slice Aa a.mem.length ca],.agg #[.int .i64 b.kind,.bool b.ret.p,.int .i64 b.ret.s,.int .u32 b.ret.n,.slice Ab b.mem.length cb],(.pointer (some ⟨w.heap.size,0,none⟩)),(.pointer (some ⟨C.heap.size,0,none⟩)),(.int .i64 0),(.int .i64 (AL (Dh a) (Dh b))),undef,undef,j 0,j 1,j 2,j 3,j 4,j 5,j 6,j 7,j 8,j 9,j 10,j 11,j 12,j 13,j 14,j 15,j 16,j 17,j 18,j 19,j 20,j 21,j 22,j 23,j 24,j 25,j 26,j 27,j 28,undef,undef,undef,undef,undef,undef,undef,undef,undef,undef,undef,undef,undef,undef,undef,undef,undef,undef,undef,undef,undef,undef,undef,undef,undef,undef,undef,undef,undef,undef,undef,undef,undef,undef,undef,undef,undef,undef],defers:=[]} from rfl];have G5:=dJ g5;clear g5;have A4:=fun(u:GrW W)=>(q.out u).2.2.2.2;have B4:=fun(u:GrW W)=>(r.out u).2.2.2.2;have a4:=A4 ⟨w5,G5.out⟩;have b4:=B4 ⟨w5,G5.out⟩;dsimp only at a4 b4;have N:=dJ A4;have O:=dJ B4;clear A4 B4;obtain⟨H,hH⟩:=xJ (AL (Dh a) (Dh b));obtain⟨R,Z⟩:=xJ (BJ a b);rw[hH,Z]at HR;rw[hH];clear hH n1 n2 n3 n4;by_cases h0:H=0
  ·subst h0;have HM:Hid (Da a.mem b.mem=R):=by show _=_;have:=HR.out;rw[yr rfl]at this;exact this.symm
   go_wp2
   go_loopw [6] (fun s6 wr=>∃k:Nat,k<=a.mem.length/\k<=b.mem.length/\s6=.int .i64 (k:Int)/\Hid (Da (a.mem.drop k) (b.mem.drop k)=R)/\Hid (Gr W wr)) (fun s6 _=>a.mem.length-(intOf s6).toNat)
   case atStart=>exact⟨0,yI _,yI _,rfl,HM,G5⟩
   case round =>
    obtain⟨k,ab,ac,rfl,M,l⟩:=hrel;have r4:=N.out ⟨wr,l.out⟩;have s4:=O.out ⟨wr,l.out⟩;dsimp only at r4 s4;by_cases E:k<a.mem.length
    ·by_cases J:k<b.mem.length
     ·obtain⟨x,hx⟩:∃x,a.mem[k]?=some x:=⟨_,xR E⟩;obtain⟨y,hy⟩:∃y,b.mem[k]?=some y:=⟨_,xR J⟩;obtain⟨am,az,ea,-,-,t3⟩:=S.out wr l.out;obtain⟨ba,oa,e1,aj,t4⟩:=t3 (by omega);injection ea with ea af ag;rw[<-ea]at e1;subst e1;obtain⟨aC,U,ad⟩:=t4 k x hx;obtain⟨an,aA,eb,-,-,u3⟩:=T.out wr l.out;obtain⟨bb,ob,e2,ak,u4⟩:=u3 (by omega);injection eb with eb ah ai;rw[<-eb]at e2;subst e2;obtain⟨aD,X,ae⟩:=u4 k y hy;have da:a.mem.drop k=x::a.mem.drop (k+1):=by rw[yg E];congr 1;rw[xR E]at hx;injection hx
      have db:b.mem.drop k=y::b.mem.drop (k+1):=by rw[yg J];congr 1;rw[xR J]at hy;injection hy
      have G:=dJ fun(u:GrW wr)=>jZ (w:=u.val) (ad.gr u.gr) (ae.gr u.gr) (yJ _);have UA:=fun(u:GrW wr)=>(u.gr.cell _ _ aj).trans U;have UB:=fun(u:GrW wr)=>(u.gr.cell _ _ ak).trans X;have R4:=fun(u:GrW wr)=>N.out ⟨u.val,l.out.trans u.gr⟩;have S4:=fun(u:GrW wr)=>O.out ⟨u.val,l.out.trans u.gr⟩
      have HQ:Hid ((if AL x y=0 then Da (a.mem.drop (k+1)) (b.mem.drop (k+1)) else AL x y)=R):=by show _=_;have:=M.out;rw[da,db,Da]at this;exact this
      obtain⟨d,z⟩:=xJ (AL x y);rw[z]at G HQ;obtain⟨Av,cv,rfl,-,-,-⟩:=ad;obtain⟨ao,aB,rfl,-,-,-⟩:=ae;clear hx hy da db z M t3 t4 u3 u4 U X af ag ah ai ea eb;by_cases aa:d=0
      ·subst aa;go_wp2;refine dc (by kernel_rfl) (by kernel_rfl) ?_;repeat (go_big_quiet_step ((rename_i u;go_at_call 182;exact dk u (G.out u))))
       refine wpQuiet_nil ?_;intro w9 L;obtain⟨u9,rfl⟩:=L;have G9:=dJ (l.out.trans u9.gr);clear UA UB R4 S4;go_wp2;go_roundw;case rel=>exact⟨k+1,by omega,by omega,by go_num,by (show _=_);have:=HQ.out;simpa using this,G9.out⟩
       case measure=>simp[intOf];omega
      ·have t:Hid (R=d):=by show _=_;have:=HQ.out;rw[yt aa]at this;exact this.symm
       go_wp2;refine dc (by kernel_rfl) (by kernel_rfl) ?_;repeat (go_big_quiet_step ((rename_i u;go_at_call 182;exact dk u (G.out u))))
       refine wpQuiet_nil ?_;intro w9 L;obtain⟨u9,rfl⟩:=L;have G9:=dJ (Q.out.trans (l.out.trans u9.gr));clear UA UB R4 S4;go_wp2;go_ret;exact⟨dg (by first|exact t.out.symm.trans Z.symm|exact t.out.symm),G9.out⟩
     ·obtain rfl:k=b.mem.length:=by omega
      have t:Hid (R=CU a.mem.length b.mem.length):=by show _=_;rw[<-M.out];exact Ku ab ac (.inr rfl)
      have G:=dJ (fe a.mem.length b.mem.length wr);clear M;go_wp2_with (go_at_call 184;refine G.out.mono ?_;rintro e A ⟨rfl,rfl⟩);go_ret;exact⟨dg (by first|exact t.out.symm.trans Z.symm|exact t.out.symm),Q.out.trans l.out⟩
    ·obtain rfl:k=a.mem.length:=by omega
     have t:Hid (R=CU a.mem.length b.mem.length):=by show _=_;rw[<-M.out];exact Ku ab ac (.inl rfl)
     have G:=dJ (fe a.mem.length b.mem.length wr);clear M;go_wp2_with (go_at_call 184;refine G.out.mono ?_;rintro e A ⟨rfl,rfl⟩);go_ret;exact⟨dg (by first|exact t.out.symm.trans Z.symm|exact t.out.symm),Q.out.trans l.out⟩
  ·have t:Hid (R=H):=by show _=_;have:=HR.out;rw[yt h0]at this;exact this
   go_wp2;go_ret;exact⟨dg (by first|exact t.out.symm.trans Z.symm|exact t.out.symm),Q.out.trans G5.out⟩
theorem lW {a b:zO}{va:Value}(ha:TabAt B w va a.mem)(hb:TabAt B w vb b.mem)(hB:B<=w.heap.size)(hna:0<=a.ret.n/\a.ret.n<4294967296)(hnb:0<=b.ret.n/\b.ret.n<4294967296) :
  Calls prog 131 #[eW a va,eW b vb] w (RG (.bool (decide (BJ a b<0))) w):=by
 obtain⟨g,d⟩:=xJ (fO w a va);obtain⟨W,m⟩:=xJ (fO g b vb);have l:Gr w g:=by rw[<-d];exact(yO w).alloc _
 have j:Gr g W:=by rw[<-m];exact(yO g).alloc _
 have u:g.heap.size=w.heap.size+1:=by rw[<-d];unfold fO;simp
 obtain⟨a0,A,C,a3,a4⟩:=dz (w:=w) (o:=a) (vm:=va) (w':=W) (by rw[d];exact j);obtain⟨D,E,F,G,H⟩:=dz (w:=g) (o:=b) (vm:=vb) (w':=W) (by rw[m];exact yO _);have p:=dJ (gN (w:=W) (a:=a) (b:=b) (ha.below (Below.mono (l.trans j) hB)) (hb.below (Below.mono (l.trans j) hB)) (by have:=(l.trans j).size;omega) hna hnb);have q:=dJ (l.trans j);obtain⟨y,ca,rfl,-,-,-⟩:=ha;obtain⟨z,I,rfl,-,-,-⟩:=hb;generalize BJ a b=R at *;clear u l j;unfold fO at d m;unfold eW at *;by_cases t:R<0
 all_goals
  go_enter func131, ntmps131
  go_wp2_with (go_at_call 159;refine p.out.mono ?_;rintro e J ⟨rfl,r⟩);go_ret;exact⟨cZ (by simp[t]),q.out.trans r⟩
theorem pw {a b:zO}{va:Value}(ha:TabAt B w va a.mem)(hb:TabAt B w vb b.mem)(hB:B<=w.heap.size)(hna:0<=a.ret.n/\a.ret.n<4294967296)(hnb:0<=b.ret.n/\b.ret.n<4294967296) :
  Calls prog 130 #[eW a va,eW b vb] w (RG (.bool (decide (BJ a b=0))) w):=by
 obtain⟨g,d⟩:=xJ (fO w a va);obtain⟨W,m⟩:=xJ (fO g b vb);have l:Gr w g:=by rw[<-d];exact(yO w).alloc _
 have j:Gr g W:=by rw[<-m];exact(yO g).alloc _
 have u:g.heap.size=w.heap.size+1:=by rw[<-d];unfold fO;simp
 obtain⟨a0,A,C,a3,a4⟩:=dz (w:=w) (o:=a) (vm:=va) (w':=W) (by rw[d];exact j);obtain⟨D,E,F,G,H⟩:=dz (w:=g) (o:=b) (vm:=vb) (w':=W) (by rw[m];exact yO _);have p:=dJ (gN (w:=W) (a:=a) (b:=b) (ha.below (Below.mono (l.trans j) hB)) (hb.below (Below.mono (l.trans j) hB)) (by have:=(l.trans j).size;omega) hna hnb);have q:=dJ (l.trans j);obtain⟨y,ca,rfl,-,-,-⟩:=ha;obtain⟨z,I,rfl,-,-,-⟩:=hb;generalize BJ a b=R at *;clear u l j;unfold fO at d m;unfold eW at *;by_cases t:R=0
 all_goals
  go_enter func130, ntmps130
  go_wp2_with (go_at_call 159;refine p.out.mono ?_;rintro e J ⟨rfl,r⟩);go_ret;exact⟨cZ (by simp[t]),q.out.trans r⟩
theorem wl {e:TypeId}{i:TypeInfo}
  (ht:P.underlying t=some (.slice e)) (hi:P.info? e=some i) (hz:i.zero=some z) (hsize:i.size=5) (hby:i.bytes=bytes) (hzs:z.cells.size=5) (hbb:bytes<=128)
  (hgd:o.guard=none) (s x:Operand) (ho:o.op=.call {callee:=.builtin .append,args:=#[s,x],argTypes:=#[t,t]})
    (hs:a.eval s=v) (hown:w.ownsRow B e 5 v n xs) {y:zO}  (hvy:vy.oneCell'=true)  (hx:a.eval x=.slice (some ⟨w.heap.size,0,none⟩) 1 1) (hlt:n<1099511627776) (hB:B<=w.heap.size)
  (h:∀A c w',w'.ownsRow B e 5 (.slice A (n+1) c) (n+1) (xs++kU y vy)->(w.alloc (.cells #[.int .i64 y.kind,.bool y.ret.p,.int .i64 y.ret.s,.int .u32 y.ret.n,vy] e')).grownBy w' v.ownBlock->wpList P ops Q rest (a.put o.dst (.slice A (n+1) c)) w') :
  wpList P ops Q (o::rest) a (w.alloc (.cells #[.int .i64 y.kind,.bool y.ret.p,.int .i64 y.ret.s,.int .u32 y.ret.n,vy] e')):=by
 refine dF hgd s x t ho B e i z 5 bytes ht hi hz hsize hby hzs (by omega) v n xs hs (ec hown ((yO _).alloc _)) _ 1 (kU y vy) hx (Src.newN _ (kU y vy) _) ?_ ?_ ?_ ?_ ?_
 ·intro u g;simp[kU]at g;rcases g with rfl|rfl|rfl|rfl|rfl
  ·rfl
  ·rfl
  ·rfl
  ·rfl
  ·exact hvy
 ·simp only[maxLen];omega
 ·have:(n+1)*bytes<=(n+1)*128:=Nat.mul_le_mul_left _ hbb;omega
 ·simp;omega
 ·intro m w' d l j;obtain⟨A,c,hv,-⟩:=dE d;subst hv;exact h A c w' d l
theorem eZ {J:List zO}{V:List Value}(hl:V.length=J.length){y:zO}(h1:J[m]?=some y)(h2:V[m]?=some vy):dP (J.take (m+1)) (V.take (m+1))=dP (J.take m) (V.take m)++kU y vy:=by rw[List.take_add_one,List.take_add_one,h1,h2];show dP (J.take m++[y]) (V.take m++[vy])=_;rw[fE _ _ _ _ (by simp[hl])];simp[dP]
theorem rh:(prog.info? 27).map (fun i=>(i.zero,i.size,i.bytes))=some (some (.agg #[.int .i64 0,.bool false,.int .i64 0,.int .u32 0,.slice none 0 0]),5,56):=by kernel_rfl
theorem OutsAt.cells {c j:Nat}{outs:List zO}(h:OutsAt D B w (.slice A n c) outs vms)(hn:outs.length=n){y:zO}(hy:outs[j]?=some y) :
  ∃b Ay cy,A=some ⟨b,0,none⟩/\n<=c/\vms[j]?=some (.slice Ay y.mem.length cy)/\(∀u,Gr w u->u.cell? ⟨b,j*5,none⟩=some (.int .i64 y.kind)/\u.cell? ⟨b,j*5+1,none⟩=some (.bool y.ret.p)/\u.cell? ⟨b,j*5+2,none⟩=some (.int .i64 y.ret.s)/\u.cell? ⟨b,j*5+3,none⟩=some (.int .u32 y.ret.n)/\u.cell? ⟨b,j*5+4,none⟩=some (.slice Ay y.mem.length cy)) /\
   ∀u,Gr w u->TabAt u.heap.size u (.slice Ay y.mem.length cy) y.mem:=by
 subst hn;have H:=(xS.1 hy).1;obtain⟨b,e,z,-,d⟩:=dx h.own rfl (by omega);obtain⟨vy,l⟩:∃vy,vms[j]?=some vy:=⟨_,xR (by rw[h.len];exact H)⟩;have C:=h.at_ j y vy hy l;obtain⟨Ay,cy,rfl⟩:=C.2.1
 have G:outs.length<=c:=by
  obtain⟨-,r⟩:=h.own;rcases r with ⟨e,J⟩|⟨g,E,F,e,-,-,K,-⟩
  ·omega
  ·injection e with _ _ I;omega
 refine⟨b,Ay,cy,e,G,l,fun u m=>?_,fun u m=>(C.gr m).tab⟩;have q:=fun t (ht:t<5)=>(m.cell b (j*5+t) z).trans ((d (j*5+t) (by omega)).trans (gD outs vms j t y _ hy l ht));exact⟨q 0 (by decide),q 1 (by decide),q 2 (by decide),q 3 (by decide),q 4 (by decide)⟩
def OW (o:zO):Prop:=0<=o.ret.n/\o.ret.n<4294967296
structure Wth (x:zO)(vx:Value)(outs J:List zO)(vms VJ:List Value)(p:Nat)(fd:Bool):Prop where
 len:VJ.length=J.length
 pn:p<=outs.length
 res:J=Cm x outs
 lt:∀j y,outs[j]?=some y->j<p->BJ y x<0/\J[j]?=some y/\VJ[j]?=vms[j]?
 fnd:fd=true->p<outs.length/\outs[p]?=some x/\J=outs/\VJ=vms
 new:fd=false->J.length=outs.length+1/\J[p]?=some x/\VJ[p]?=some vx
 gt:fd=false->∀j y,outs[j]?=some y->p<=j->BJ x y<0/\J[j+1]?=some y/\VJ[j+1]?=vms[j]?
theorem wO {x:zO}{outs:List zO}(ha:Gn outs)(hl:vms.length=outs.length):∃J VJ fd,Wth x vx outs J vms VJ (EG x outs) fd:=by
 have r:=I9 x outs ha;have u:=JQ x outs;by_cases g:outs[EG x outs]?=some x
 ·have B:=(xS.1 g).1;exact⟨outs,vms,true,hl,u,(IF x outs ha g).symm,fun j y d m=>⟨(r j y d).2 m,d,rfl⟩,fun _=>⟨B,g,rfl,rfl⟩,fun h=>by (cases h),fun h=>by (cases h)⟩
 ·have l:=Jq x outs ha g;obtain⟨p,A⟩:=xJ (EG x outs);rw[A]at l g r u ⊢;have D:(outs.take p).length=p:=by simp;omega
  have E:(vms.take p).length=p:=by simp;omega
  refine⟨_,vms.take p++vx::vms.drop p,false,by rw[l];simp[hl],u,rfl,fun j y d m=>⟨(r j y d).2 m,?_,?_⟩,fun h=>by (cases h),fun _=>⟨?_,?_,?_⟩,fun _ j y d m=>⟨?_,?_,?_⟩⟩
  ·rw[l,yd (by omega),yf,yr m,d]
  ·rw[yd (by omega),yf,yr m]
  ·rw[l];simp;omega
  ·rw[l,ye (by omega),D,Nat.sub_self];rfl
  ·rw[ye (by omega),E,Nat.sub_self];rfl
  ·have B:¬BJ y x<0:=fun q=>by have:=(r j y d).1 q;omega
   have L:BJ y x≠0:=fun e=>by
    have F:=(DI.zero _ _).1 e;subst F;rcases yw p j with q|q
    ·obtain⟨z,C⟩:∃z,outs[p]?=some z:=⟨_,xR (by have:=(xS.1 d).1;omega)⟩
     have t:BJ z y<0:=by obtain⟨I,G⟩:=xS.1 C;obtain⟨K,H⟩:=xS.1 d;have:=List.pairwise_iff_getElem.1 ha p j I K q;rw[G,H]at this;omega
     have:=(r p z C).1 t;omega
    ·obtain rfl:j=p:=by omega
     exact g d
   have M:=DI.swap x y;omega
  ·rw[l,ye (by omega),D,show j+1-p=(j-p)+1 by omega,xV,List.getElem?_drop,show p+(j-p)=j by omega,d]
  ·rw[ye (by omega),E,show j+1-p=(j-p)+1 by omega,xV,List.getElem?_drop,show p+(j-p)=j by omega]
theorem qR {outs:List zO}{x:zO}(h:OutsAt D B w v outs vms)(hB:B<=w.heap.size)(hasc:Gn outs)(hn:outs.length<=1000)(hx:Keeps D w vx x.mem)(ho:∀o∈outs,OW o)(hxo:OW x) :
  Calls prog 87 #[v,eW x vx] w fun e w'=>∃v' vms',e=.returned v'/\OutsAt D B w' v' (Cm x outs) vms'/\Gr w w':=by
 obtain⟨io,ad,ae,af,l⟩:=info_parts rh;obtain⟨J,E,fd,hJ⟩:=wO (vx:=vx) (x:=x) hasc h.len;obtain⟨p,hp⟩:=xJ (EG x outs);rw[hp]at hJ;obtain⟨A0,c0,rfl,-⟩:=dE h.own;obtain⟨Ax,cx,rfl⟩:=hx.2.1;obtain⟨W,hW⟩:=xJ (fO w x (.slice Ax x.mem.length cx));have g0:Gr w W:=by rw[<-hW];exact(yO w).alloc _
 have ab:Hid (∀wr,Gr w wr->∀(j:Nat)(y:zO)(vy:Value),J[j]?=some y->E[j]?=some vy->Keeps D wr vy y.mem):=fun wr g j y vy hj hv=>by
  refine Keeps.gr ?_ g
  cases fd with
  | true =>
   obtain⟨-,-,rfl,rfl⟩:=hJ.fnd rfl;exact h.at_ j y vy hj hv
  | false =>
   obtain⟨n1,n2,n3⟩:=hJ.new rfl;have aE:=(xS.1 hj).1;rcases Nat.lt_trichotomy j p with q|q|q
   ·obtain⟨z,hz⟩:∃z,outs[j]?=some z:=⟨_,xR (by have:=hJ.pn;omega)⟩;obtain⟨-,R,q3⟩:=hJ.lt j z hz q;rw[hj]at R;injection R with R;subst R;exact h.at_ j y vy hz (q3.symm.trans hv)
   ·subst q;rw[hj]at n2;injection n2 with n2;subst n2;rw[hv]at n3;injection n3 with n3;subst n3;exact hx
   ·obtain⟨i,rfl⟩:∃i,j=i+1:=⟨j-1,by omega⟩;obtain⟨z,hz⟩:∃z,outs[i]?=some z:=⟨_,xR (by omega)⟩;obtain⟨-,R,q3⟩:=hJ.gt rfl i z hz (by omega);rw[hj]at R;injection R with R;subst R;exact h.at_ i y vy hz (q3.symm.trans hv)
 have av:=dJ fun(j:Nat)(y:zO)(hy:outs[j]?=some y)=>h.cells rfl hy;have ao:Hid (∀u,Gr w u->TabAt u.heap.size u (.slice Ax x.mem.length cx) x.mem):=fun u g=>(hx.gr g).tab;have BX:Hid (∀u,Gr W u->_):=fun u gu=>dz (w:=w) (o:=x) (vm:=.slice Ax x.mem.length cx) (w':=u) (by rw[hW];exact gu)
 have aj:Hid (∀w',Gr w w'->∀v',w'.ownsRow W.heap.size 27 5 v' J.length (dP J E)->OutsAt D B w' v' (Cm x outs) E):=fun w' g v' hr=>by
  rw[<-hJ.res];refine⟨hJ.len,?_,fun j o vm h1 h2=>ab.out w' g j o vm h1 h2⟩;refine⟨hr.1,?_⟩;rcases hr.2 with r|⟨q,az,aA,r1,r2,r3⟩
  ·exact .inl r
  ·exact .inr ⟨q,az,aA,r1,by have:=g0.size;omega,r3⟩
 have N:Hid (fd=true->∀w',Gr w w'->OutsAt D B w' (.slice A0 outs.length c0) (Cm x outs) vms):=fun e w' g=>by obtain⟨-,-,h1,h2⟩:=hJ.fnd e;rw[<-hJ.res,h1];exact h.frs (FrS.of_gr (S:=fun _=>False) g) (fun _ _ q=>q) (fun _ _ q=>q)
 have HJ:=dJ hJ;have HO:=dJ ho;have F:=dJ g0;have an:=dJ hxo;have aC:=hJ.pn;obtain⟨n,ah⟩:=xJ outs.length;have HN:=dJ ah;rw[ah]at hn aC N;rw[ah];have aw:Hid (W.ownsRow W.heap.size 27 5 (.slice none 0 0) 0 (dP (J.take 0) (E.take 0))):=World.ownsRow_nil _ _ _ _;unfold fO at hW;unfold eW;clear h hJ hp hx ho hxo hasc g0 hB ah
 go_enter func87, ntmps87
 go_wp2
 go_loopw [5,6,7] (fun s5 s6 s7 wr=>∃(k m:Nat)(A:Option Addr)(c:Nat)(pl:Bool),k<=n/\s7=.int .i64 (k:Int)/\s6=.bool pl/\Hid (pl=decide (p<k))/\Hid (m=if p<k then k+1 else k)/\Hid (fd=true->k<=p)/\m<=1001/\s5=.slice A m c/\Hid (wr.ownsRow W.heap.size 27 5 (.slice A m c) m (dP (J.take m) (E.take m)))/\Hid (Gr W wr)) (fun _ _ s7 _=>n-(intOf s7).toNat)
 case atStart=>exact⟨0,0,none,0,false,yI _,rfl,rfl,by (show _=_);simp,by (show _=_);simp,fun _=>yI _,by omega,rfl,aw,yO _⟩
 case round =>
  obtain⟨k,m,A,c,pl,hk,rfl,rfl,U,hm,T,aF,rfl,I,L⟩:=hrel;by_cases aB:k<n
  ·obtain⟨y,hy⟩:∃y,outs[k]?=some y:=⟨_,xR (by have:=HN.out;omega)⟩;obtain⟨b,Ay,cy,rfl,aD,Y,O,am⟩:=av.out k y hy;have M:=fun u:GrW wr=>am u.val (F.out.trans (L.out.trans u.gr));have d:=fun u:GrW wr=>O u.val (F.out.trans (L.out.trans u.gr));replace O:=dJ O;have CS:=dJ fun(u:GrW wr)=>pw (w:=u.val) (a:=y) (b:=x) (M u) (ao.out u.val (F.out.trans (L.out.trans u.gr))) (yJ _) (HO.out y (xT hy)) an.out;have CB:=dJ fun(u:GrW wr)=>lW (w:=u.val) (a:=x) (b:=y) (ao.out u.val (F.out.trans (L.out.trans u.gr))) (M u) (yJ _) an.out (HO.out y (xT hy));obtain⟨sb,Q⟩:∃b,decide (BJ y x=0)=b:=⟨_,rfl⟩;obtain⟨bb,X⟩:∃b,decide (BJ x y<0)=b:=⟨_,rfl⟩;have ai:=DI.swap x y;rw[Q]at CS;rw[X]at CB;unfold eW at CS CB;have Y0:=fun u=>(d u).1;have Y1:=fun u=>(d u).2.1;have Y2:=fun u=>(d u).2.2.1;have Y3:=fun u=>(d u).2.2.2.1;have Y4:=fun u=>(d u).2.2.2.2;replace d:=dJ d;have X0:=fun(u:GrW wr)=>(BX.out u.val (L.out.trans u.gr)).1;have X1:=fun(u:GrW wr)=>(BX.out u.val (L.out.trans u.gr)).2.1;have X2:=fun(u:GrW wr)=>(BX.out u.val (L.out.trans u.gr)).2.2.1;have X3:=fun(u:GrW wr)=>(BX.out u.val (L.out.trans u.gr)).2.2.2.1;have X4:=fun(u:GrW wr)=>(BX.out u.val (L.out.trans u.gr)).2.2.2.2;have C:=U.out;have HM:=hm.out;rcases Nat.lt_trichotomy k p with H|H|H
   ·obtain⟨q1,R,q3⟩:=HJ.out.lt k y hy H;rw[yt (by omega)]at HM;obtain rfl:sb=false:=by rw[<-Q];simp;omega
    obtain rfl:bb=false:=by rw[<-X];simp;omega
    obtain rfl:pl=false:=by rw[C];simp;omega
    subst HM;have t:Hid (dP (J.take (m+1)) (E.take (m+1))=dP (J.take m) (E.take m)++kU y (.slice Ay y.mem.length cy)):=eZ HJ.out.len R (q3.trans Y);have ab:Hid (m<p):=H;clear hy Y M Q X ai q1 R q3 C U hm T;go_wp2;refine dh (W:=wr) (yO wr) (by kernel_rfl) (by kernel_rfl) ?_;repeat (go_big_quiet_step ((rename_i u;go_at_call 130;exact dk u (CS.out u))))
    refine wpQuiet_nil ?_;intro w9 Z;obtain⟨u9,rfl⟩:=Z;go_wp2;refine dh (W:=wr) u9.gr (by kernel_rfl) (by kernel_rfl) ?_;repeat (go_big_quiet_step ((rename_i u;go_at_call 131;exact dk u (CB.out u))))
    refine wpQuiet_nil ?_;intro w8 ag;obtain⟨K,rfl⟩:=ag;have R8:=ec I.out K.gr;have G8:=dJ (L.out.trans K.gr);have y0:=(d.out K).1;have y1:=(d.out K).2.1;have y2:=(d.out K).2.2.1;have y3:=(d.out K).2.2.2.1;have y4:=(d.out K).2.2.2.2;clear Y0 Y1 Y2 Y3 Y4 X0 X1 X2 X3 X4;go_wp2_with (at_builtin;refine wl (n:=m) (B:=W.heap.size) (v:=.slice A m c) (y:=y) (vy:=.slice Ay y.mem.length cy) underlying31 ad ae af l rfl (by decide) rfl (.tmp 35) (.tmp 40) rfl rfl R8 rfl rfl (by omega) G8.out.size ?_;intro A2 c2 w2 l G;have R2:Hid (w2.ownsRow W.heap.size 27 5 (.slice A2 (m+1) c2) (m+1) (dP (J.take (m+1)) (E.take (m+1)))):=(by show World.ownsRow _ _ _ _ _ _ _;rw[t.out];exact l);have G2:Hid (Gr W w2):=Gr.grown (G8.out.alloc _) G (fun q hq=>(dt R8 q hq).1);clear l G);have ar:=ab.out;exact⟨⟨m+1,m+1,A2,c2,false,by omega,by go_num,rfl,by (show _=_);simp;omega,by (show _=_);rw[yt (by omega)],fun _=>by omega,by omega,rfl,R2,G2⟩,by simp[intOf];omega⟩
   ·subst H;rw[yt (by omega)]at HM;subst HM;obtain rfl:pl=false:=by rw[C];simp
    cases fd with
    | true =>
     obtain⟨-,h2,-,-⟩:=HJ.out.fnd rfl;rw[hy]at h2;injection h2 with h2;obtain rfl:sb=true:=by rw[<-Q,h2];simp[DI.zero]
     have ax:=dJ (N.out rfl);clear hy Y M Q X ai h2 C U hm T N CB;go_wp2;refine dh (W:=wr) (yO wr) (by kernel_rfl) (by kernel_rfl) ?_;repeat (go_big_quiet_step ((rename_i u;go_at_call 130;exact dk u (CS.out u))))
     refine wpQuiet_nil ?_;intro w9 Z;obtain⟨u9,rfl⟩:=Z;have G9:=dJ (L.out.trans u9.gr);clear Y0 Y1 Y2 Y3 Y4 X0 X1 X2 X3 X4;go_wp2;go_ret;exact⟨_,vms,rfl,ax.out _ (F.out.trans G9.out),F.out.trans G9.out⟩
    | false =>
     obtain⟨n1,n2,n3⟩:=HJ.out.new rfl;obtain⟨q1,R,q3⟩:=HJ.out.gt rfl m y hy (yJ _);obtain rfl:sb=false:=by rw[<-Q];simp;omega
     obtain rfl:bb=true:=by rw[<-X];simp;omega
     have t:Hid (dP (J.take (m+1)) (E.take (m+1))=dP (J.take m) (E.take m)++kU x (.slice Ax x.mem.length cx)):=eZ HJ.out.len n2 n3;have ak:Hid (dP (J.take (m+1+1)) (E.take (m+1+1))=dP (J.take (m+1)) (E.take (m+1))++kU y (.slice Ay y.mem.length cy)):=eZ HJ.out.len R (q3.trans Y);clear hy Y M Q X ai n1 n2 n3 q1 R q3 C U hm T N;go_wp2;refine dh (W:=wr) (yO wr) (by kernel_rfl) (by kernel_rfl) ?_;repeat (go_big_quiet_step ((rename_i u;go_at_call 130;exact dk u (CS.out u))))
     refine wpQuiet_nil ?_;intro w9 Z;obtain⟨u9,rfl⟩:=Z;go_wp2;refine dh (W:=wr) u9.gr (by kernel_rfl) (by kernel_rfl) ?_;repeat (go_big_quiet_step ((rename_i u;go_at_call 131;exact dk u (CB.out u))))
     refine wpQuiet_nil ?_;intro w8 ag;obtain⟨K,rfl⟩:=ag;have R8:=ec I.out K.gr;have G8:=dJ (L.out.trans K.gr);have y0:=(d.out K).1;have y1:=(d.out K).2.1;have y2:=(d.out K).2.2.1;have y3:=(d.out K).2.2.2.1;have y4:=(d.out K).2.2.2.2;have aa:=dJ fun(w7:World)(g:Gr W w7)=>BX.out w7 g;have x0:=(aa.out _ G8.out).1;have x1:=(aa.out _ G8.out).2.1;have x2:=(aa.out _ G8.out).2.2.1;have x3:=(aa.out _ G8.out).2.2.2.1;have x4:=(aa.out _ G8.out).2.2.2.2;clear Y0 Y1 Y2 Y3 Y4 X0 X1 X2 X3 X4
     go_wp2_with (first|(at_builtin;refine wl (n:=m) (B:=W.heap.size) (v:=.slice A m c) (y:=x) (vy:=.slice Ax x.mem.length cx) underlying31 ad ae af l rfl (by decide) rfl (.tmp 31) (.tmp 33) rfl rfl R8 rfl rfl (by omega) G8.out.size ?_;intro A2 c2 w2 l G;have R2:Hid (w2.ownsRow W.heap.size 27 5 (.slice A2 (m+1) c2) (m+1) (dP (J.take (m+1)) (E.take (m+1)))):=(by show World.ownsRow _ _ _ _ _ _ _;rw[t.out];exact l);have G2:Hid (Gr W w2):=Gr.grown (G8.out.alloc _) G (fun q hq=>(dt R8 q hq).1);obtain⟨z0,z1,z2,z3,z4⟩:=O.out w2 (F.out.trans G2.out);clear l G)|(at_builtin;refine wl (n:=(m+1)) (B:=W.heap.size) (v:=.slice A2 (m+1) c2) (y:=y) (vy:=.slice Ay y.mem.length cy) underlying31 ad ae af l rfl (by decide) rfl (.tmp 35) (.tmp 40) rfl rfl R2.out rfl rfl (by omega) G2.out.size ?_;intro A3 c3 w3 au aq;have R3:Hid (w3.ownsRow W.heap.size 27 5 (.slice A3 ((m+1)+1) c3) ((m+1)+1) (dP (J.take ((m+1)+1)) (E.take ((m+1)+1)))):=(by show World.ownsRow _ _ _ _ _ _ _;rw[ak.out];exact au);have G3:Hid (Gr W w3):=Gr.grown (G2.out.alloc _) aq (fun q hq=>(dt R2.out q hq).1);clear au aq))
     exact⟨⟨m+1,m+1+1,A3,c3,true,by omega,by go_num,rfl,by (show _=_);simp,by (show _=_);rw[yr (by omega)],(fun q=>by cases q),by omega,rfl,R3,G3⟩,by simp[intOf];omega⟩
   ·have ac:fd=false:=by
     cases fd with
     | false=>rfl
     | true=>have:=T.out rfl;omega
    subst ac;rw[yr H]at HM;obtain⟨q1,R,q3⟩:=HJ.out.gt rfl k y hy (by omega);obtain rfl:sb=false:=by rw[<-Q];simp;omega
    obtain rfl:pl=true:=by rw[C];simp;omega
    subst HM;have t:Hid (dP (J.take (k+1+1)) (E.take (k+1+1))=dP (J.take (k+1)) (E.take (k+1))++kU y (.slice Ay y.mem.length cy)):=eZ HJ.out.len R (q3.trans Y);have ab:Hid (p<k):=H;clear hy Y M Q X ai q1 R q3 C U hm T CB;go_wp2;refine dh (W:=wr) (yO wr) (by kernel_rfl) (by kernel_rfl) ?_;repeat (go_big_quiet_step ((rename_i u;go_at_call 130;exact dk u (CS.out u))))
    refine wpQuiet_nil ?_;intro w9 Z;obtain⟨u9,rfl⟩:=Z;go_wp2;refine dh (W:=wr) u9.gr (by kernel_rfl) (by kernel_rfl) ?_;repeat (go_big_quiet_step (fail))
    refine wpQuiet_nil ?_;intro w8 ag;obtain⟨K,rfl⟩:=ag;have R8:=ec I.out K.gr;have G8:=dJ (L.out.trans K.gr);have y0:=(d.out K).1;have y1:=(d.out K).2.1;have y2:=(d.out K).2.2.1;have y3:=(d.out K).2.2.2.1;have y4:=(d.out K).2.2.2.2;clear Y0 Y1 Y2 Y3 Y4 X0 X1 X2 X3 X4;go_wp2_with (at_builtin;refine wl (n:=(k+1)) (B:=W.heap.size) (v:=.slice A (k+1) c) (y:=y) (vy:=.slice Ay y.mem.length cy) underlying31 ad ae af l rfl (by decide) rfl (.tmp 35) (.tmp 40) rfl rfl R8 rfl rfl (by omega) G8.out.size ?_;intro A2 c2 w2 l G;have R2:Hid (w2.ownsRow W.heap.size 27 5 (.slice A2 ((k+1)+1) c2) ((k+1)+1) (dP (J.take ((k+1)+1)) (E.take ((k+1)+1)))):=(by show World.ownsRow _ _ _ _ _ _ _;rw[t.out];exact l);have G2:Hid (Gr W w2):=Gr.grown (G8.out.alloc _) G (fun q hq=>(dt R8 q hq).1);clear l G);have ar:=ab.out;exact⟨⟨k+1,k+1+1,A2,c2,true,by omega,by go_num,rfl,by (show _=_);simp;omega,by (show _=_);rw[yr (by omega)],(fun q=>by cases q),by omega,rfl,R2,G2⟩,by simp[intOf];omega⟩
  ·obtain rfl:k=n:=by omega
   have C:=U.out;have HM:=hm.out;have al:=HN.out
   have ac:fd=false:=by
    cases fd with
    | false=>rfl
    | true=>have:=T.out rfl;have:=(HJ.out.fnd rfl).1;omega
   subst ac;obtain⟨n1,n2,n3⟩:=HJ.out.new rfl;by_cases H:p<k
   ·rw[yr H]at HM;subst HM;obtain rfl:pl=true:=by rw[C];simp;omega
    have hR:=I.out;rw[yh (by omega),yh (by have:=HJ.out.len;omega)]at hR;have HE:=dJ (aj.out wr (F.out.trans L.out) _ (by rw[n1,al];exact hR));clear hR n1 n2 n3 C U hm T I al;go_wp2;go_ret;exact⟨_,E,rfl,HE.out,F.out.trans L.out⟩
   ·obtain rfl:k=p:=by omega
    rw[yt H]at HM;subst HM;obtain rfl:pl=false:=by rw[C];simp
    have t:Hid (dP (J.take (m+1)) (E.take (m+1))=dP (J.take m) (E.take m)++kU x (.slice Ax x.mem.length cx)):=eZ HJ.out.len n2 n3;have ay:Hid (J.take (m+1)=J/\E.take (m+1)=E/\J.length=m+1):=⟨yh (by omega),yh (by have:=HJ.out.len;omega),by omega⟩;have x0:=(BX.out wr L.out).1;have x1:=(BX.out wr L.out).2.1;have x2:=(BX.out wr L.out).2.2.1;have x3:=(BX.out wr L.out).2.2.2.1;have x4:=(BX.out wr L.out).2.2.2.2;clear n1 n2 n3 C U hm T al H aB;go_wp2_with (at_builtin;refine wl (n:=m) (B:=W.heap.size) (v:=.slice A m c) (y:=x) (vy:=.slice Ax x.mem.length cx) underlying31 ad ae af l rfl (by decide) rfl (.tmp 44) (.tmp 46) rfl rfl I.out rfl rfl (by omega) L.out.size ?_;intro A2 c2 w2 l G;have R2:Hid (w2.ownsRow W.heap.size 27 5 (.slice A2 (m+1) c2) (m+1) (dP (J.take (m+1)) (E.take (m+1)))):=(by show World.ownsRow _ _ _ _ _ _ _;rw[t.out];exact l);have G2:Hid (Gr W w2):=Gr.grown (L.out.alloc _) G (fun q hq=>(dt I.out q hq).1);clear l G);go_ret;have ap:=R2.out;obtain⟨t1,t2,t3⟩:=ay.out;rw[t1,t2]at ap;exact⟨_,E,rfl,aj.out w2 (F.out.trans G2.out) _ (by rw[t3];exact ap),F.out.trans G2.out⟩
theorem DS.slot {s:AN}{o:zO}(h:DS c pk w s bl o om wv bv)(hf:VFn c.f)(hi:Rn.Inv c.f s){p:Rn.V}(h1:1<=p.s)(h2:p.s<=c.f.s.length) :
  ∃(j bj cp:Nat)(l:List Int),p.s-1=(j:Int)/\(p.s-1).toNat=j/\c.us[j]?=some (bj,cp)/\s.mem[j]?=some l/\s.mem.getD (p.s-1).toNat []=l/\l.length<=cp/\cp<=9223372036854775807/\j<c.us.length/\c.us.length<=c.cm/\c.cm<=9223372036854775807 /\
   c.Am=some ⟨c.Bm,0,none⟩/\w.cell? ⟨c.Bm,j,none⟩=some (.slice (some ⟨bj,0,none⟩) l.length cp)/\l.length<=8 /\
   RowIs bj l w:=by
 have A:=hi.mem;have hlen:s.mem.length=c.f.s.length:=by rw[<-A];simp
 have B:s.mem.length=c.us.length:=h.mem.1;obtain⟨j,z⟩:=xJ ((p.s-1).toNat);have d:j<c.us.length:=by omega
 obtain⟨⟨bj,cp⟩,t⟩:∃u,c.us[j]?=some u:=⟨_,xR d⟩;obtain⟨l,hl⟩:∃l,s.mem[j]?=some l:=⟨_,xR (by omega)⟩;obtain⟨n,r⟩:∃n,c.f.s[j]?=some n:=⟨_,xR (by omega)⟩
 have m:(l.length:Int)=n:=by have:=congrArg (fun q=>q[j]?) A;simp only[yc,hl,r,Option.map_some]at this;injection this
 obtain⟨C,D,g,E,F⟩:=h.mem.2 j bj cp l t hl;obtain⟨G,H,I⟩:=h.s;obtain⟨J,y,K,L⟩:=I (by omega);refine⟨j,bj,cp,l,by omega,z,t,hl,by rw[z,xU,hl];rfl,C,D,d,G,H,J,?_,?_,g,E,F⟩
 ·rw[yo _ _ j _ _ _ K,L j bj cp n t r,<-m];rfl
 ·have:=ym.1 hf.val.head.2 n (xT r);unfold BH at this;simp at this;omega
theorem iN (n p k:Int)(w:World)(hp:0<=p/\p<4294967296)(hk:0<=k/\k<=1000):Calls prog 198 #[.int .i64 n,.int .u32 p,.int .i64 k] w (RT (.bool (decide (p+k<=n))) w):=by
 obtain⟨j,l⟩:=hp;obtain⟨d,g⟩:=hk
 go_enter func198, ntmps198
 go_wp2;go_ret;exact⟨rfl,rfl⟩
theorem dS (w:World):Calls prog 176 #[] w (RG (.agg #[.bool true,.int .i64 0,.int .u32 0]) w):=by
 go_enter func176, ntmps176
 go_wp2;exact yq (v:=.agg #[.bool true,.int .i64 0,.int .u32 0]) (by simp[results,results176,go_sem]) rfl ⟨rfl,by repeat (first|with_reducible exact yO _|with_reducible refine Gr.alloc ?_ _|with_reducible refine Gr.setCell ?_ (yJ _) _)⟩
def fT:Option Rn.V->Value
 | none=>.tuple #[.agg #[.bool false,.int .i64 0,.int .u32 0],.bool false]
 | some v=>.tuple #[vv v,.bool true]
theorem qO {s:AN}{o:zO}(h:DS c pk w s bl o om wv bv)(hf:VFn c.f)(hi:Rn.Inv c.f s)(x:Ins)(va vt:Value)(p:Rn.V)(hp:Fp c.f 33 p)(n:Nat)(hn1:1<=n)(hn:n<=4)(hx:x.w=8*(n:Int)) :
  Calls prog 178 #[.pointer (some ⟨c.Bs,0,none⟩),dj x va vt,vv p] w (RG (fT (Em s.mem p n)) w):=by
 obtain⟨W0,A⟩:=xJ (dW w x va vt);obtain⟨W1,D⟩:=xJ (W0.alloc (.cells #[.bool p.p,.int .i64 p.s,.int .u32 p.n] 24));obtain⟨W,hW⟩:=xJ (fR W1);have g0:Gr w W0:=by rw[<-A];exact(yO w).alloc _
 have g1:Gr W0 W1:=by rw[<-D];exact(yO W0).alloc _
 have g2:Gr W1 W:=by rw[<-hW];exact(yO W1).alloc _
 have s0:W0.heap.size=w.heap.size+1:=by rw[<-A];unfold dW;simp
 have s1:W1.heap.size=w.heap.size+2:=by rw[<-D];simp[s0]
 have s2:W.heap.size=w.heap.size+3:=by rw[<-hW];unfold fR;simp[s1]
 have gW:Gr w W:=(g0.trans g1).trans g2;have O:W1.heap[w.heap.size+1]?=some (.cells #[.bool p.p,.int .i64 p.s,.int .u32 p.n] 24 (0,0)):=by rw[<-D,<-s0];exact heap_alloc_new _ _
 have T:W.heap[w.heap.size+2]?=some (.cells #[.bool false,.int .i64 0,.int .u32 0] 24 (0,0)):=by rw[<-hW,<-s1];exact heap_alloc_new _ _
 have ao:Hid (∀w',Gr W w'->w'.heap[w.heap.size+1+1]?=some (.cells #[.bool false,.int .i64 0,.int .u32 0] 24 (0,0))):=fun w' g=>(g.heap _ (cY T)).trans T;have M:=fun(u:GrW W)=>(dl (w:=w) (x:=x) (va:=va) (vt:=vt) (w':=u.val) (by rw[A];exact(g1.trans g2).trans u.gr)).2.1;have Z:∀u:GrW W,u.val.cell? ⟨w.heap.size+1,0,none⟩=some (.bool p.p):=fun u=>yo _ _ 0 _ _ _ (((g2.trans u.gr).heap _ (by omega)).trans O);have aa:∀u:GrW W,u.val.cell? ⟨w.heap.size+1,1,none⟩=some (.int .i64 p.s):=fun u=>yo _ _ 1 _ _ _ (((g2.trans u.gr).heap _ (by omega)).trans O);have ab:∀u:GrW W,u.val.cell? ⟨w.heap.size+1,2,none⟩=some (.int .u32 p.n):=fun u=>yo _ _ 2 _ _ _ (((g2.trans u.gr).heap _ (by omega)).trans O);have a2:=dJ gW
 have I:∀(Y:World)(v:Rn.V),Gr W Y->Gr w (dy Y (w.heap.size+1+1) v)/\((dy Y (w.heap.size+1+1) v).cell? ⟨w.heap.size+1+1,0,none⟩=some (.bool v.p)/\(dy Y (w.heap.size+1+1) v).cell? ⟨w.heap.size+1+1,1,none⟩=some (.int .i64 v.s)/\(dy Y (w.heap.size+1+1) v).cell? ⟨w.heap.size+1+1,2,none⟩=some (.int .u32 v.n)):=fun Y v g =>
  ⟨gr_frs' (gW.trans g) (ef _ _ v) (fun k hk=>by omega),el (ao.out Y g) v⟩
 have G:=dJ I
 have ac:Hid (∀w',Gr W w'->(w'.cell? ⟨w.heap.size+1+1,0,none⟩=some (.bool false)/\w'.cell? ⟨w.heap.size+1+1,1,none⟩=some (.int .i64 0)/\w'.cell? ⟨w.heap.size+1+1,2,none⟩=some (.int .u32 0))/\w'.frozen? ⟨w.heap.size+1+1,0,none⟩=false/\w'.frozen? ⟨w.heap.size+1+1,1,none⟩=false/\w'.frozen? ⟨w.heap.size+1+1,2,none⟩=false):=fun w' g=>by have r:=ao.out w' g;exact⟨⟨yo _ _ 0 _ _ _ r,yo _ _ 1 _ _ _ r,yo _ _ 2 _ _ _ r⟩,yp _ _ 0 _ _ r,yp _ _ 1 _ _ r,yp _ _ 2 _ _ r⟩
 cases hpp:p.p with
 | true =>
  have HE:Hid (Em s.mem p n=none):=by show _=_;unfold Em Dv;rw[yr (.inl hpp)];rfl
  rw[hpp]at Z;unfold vv dj;rw[hpp,HE.out];rw[hpp]at D;clear h hi hp g0 g1 g2 gW O T s0 s1 s2 hpp I hx;subst D;subst A;unfold fR dW at hW
  go_enter func178, ntmps178
  go_wp2;refine dc (by kernel_rfl) (by kernel_rfl) ?_;repeat (go_big_quiet_step (fail))
  refine wpQuiet_nil ?_;intro Y F;obtain⟨L,rfl⟩:=F;obtain⟨⟨r0,r1,r2⟩,f0,f1,f2⟩:=ac.out L.val L.gr;obtain⟨G9,B,C,t⟩:=G.out L.val Rn.zero L.gr;clear M Z aa ab;obtain⟨W9,d⟩:=xJ (dy L.val (w.heap.size+1+1) Rn.zero);rw[d]at G9 B C t;unfold dy at d;dsimp only[Rn.zero]at d B C t;go_wp2;refine yq (v:=fT none) (by simp[results,results178,go_sem,B,C,t];rfl) rfl ?_;exact⟨rfl,G9⟩
 | false =>
  obtain⟨p1,p2,p3,p4⟩:=hp.ptr hpp;obtain⟨j,bj,cp,l,hj,av,az,aw,hl,aT,aQ,aR,aW,aP,hA,E,aS,J⟩:=h.slot hf hi p1 p2
  have aq:c.Bm<w.heap.size:=by obtain⟨-,-,q⟩:=h.s;obtain⟨-,aN,t,-⟩:=q (by omega);exact cY t
  have a1:bj<w.heap.size:=by obtain⟨aN,q,-⟩:=J;exact cY q
  have U4:∀u:GrW W,u.val.cell? ⟨c.Bs,4,none⟩=some (.slice (some ⟨c.Bm,0,none⟩) c.us.length c.cm):=fun u=>by have:u.val.cell? ⟨c.Bs,4,none⟩=some c.mv:=(h.gr (gW.trans u.gr)).cell 4;rw[this];unfold Cfg.mv;rw[hA]
  have UM:∀u:GrW W,u.val.cell? ⟨c.Bm,j,none⟩=some (.slice (some ⟨bj,0,none⟩) l.length cp):=fun u=>((gW.trans u.gr).cell _ _ aq).trans E;obtain⟨pp,S,PN⟩:=p;dsimp only at *;subst hpp;obtain rfl:S=(j:Int)+1:=by omega
  have CI:=dJ fun(u:GrW W)=>dZ (iN (l.length:Int) PN (n:Int) u.val ⟨p3,p4⟩ ⟨by omega,by omega⟩);have aB:x.w.tdiv 8=(n:Int):=by rw[Int.tdiv_eq_ediv_of_nonneg (by omega)];omega
  have af:x.w / 8=(n:Int):=by omega
  have aA:0<=x.w:=by omega
  have ae:x.w<=32:=by omega
  obtain⟨wd,U⟩:=xJ x.w;unfold dW at A;rw[U]at aB af aA ae M A;by_cases aj:PN+(n:Int)<=(l.length:Int)
  ·obtain⟨N,rfl⟩:=xZ p3;have au:N+n<=l.length:=by omega
   obtain⟨H,ai⟩:=xJ ((l.drop N).take n)
   have ah:Dv s.mem ⟨false,(j:Int)+1,(N:Int)⟩ n=some H:=by unfold Dv;dsimp only at hl ⊢;rw[hl,yt (by simp;omega),ya,ai]
   obtain⟨bl,br⟩:=Ih hi.bytes ah
   have HR:Hid (Em s.mem ⟨false,(j:Int)+1,(N:Int)⟩ n=if H.any (fun b=>decide (b<0))=true then some zX else some (Ae (Gl H))):=by show _=_;unfold Em;rw[ah];simp only[Option.map_some];split<;>rfl
   have aE:Hid (∀k z,H[k]?=some z->∀u:GrW W,u.val.cell? ⟨bj,N+k,none⟩=some (.int .i64 z)):=fun k z K u=>by
    have hr:=J.gr (gW.trans u.gr);refine hr.cell ?_;rw[<-ai,yf]at K;split at K
    ·rwa [List.getElem?_drop]at K
    ·cases K
   have aD:=dJ br;obtain⟨R,hR⟩:=xJ (fT (Em s.mem ⟨false,(j:Int)+1,(N:Int)⟩ n))
   have ap:Hid (R=if H.any (fun b=>decide (b<0))=true then fT (some zX) else fT (some (Ae (Gl H)))):=by show _=_;rw[<-hR,HR.out];split<;>rfl
   unfold vv dj;dsimp only;rw[hR,U];have hd:decide ((N:Int)+(n:Int)<=(l.length:Int))=true:=by simpa using aj
   rw[hd]at CI;clear h hi hp g0 g1 g2 gW O T s0 s1 s2 I ai ah hl az aw J E hA hR U hf hx br hd hj av p1 p2;subst D;subst A;unfold fR at hW
   go_enter func178, ntmps178
   go_wp2;refine dc (by kernel_rfl) (by kernel_rfl) ?_;repeat (go_big_quiet_step ((rename_i u;go_at_call 198;exact dk u (CI.out u))))
   refine wpQuiet_nil ?_;intro Y F;obtain⟨L,rfl⟩:=F;have a3:=M L;have G9:=dJ L.gr;have a0:=dJ M;have am:=dJ aa;have an:=dJ ab;have aL:=dJ U4;have aM:=dJ UM;clear M Z aa ab U4 UM;go_wp2
   go_loopw [8,9] (fun s8 s9 wr=>∃(m:Nat)(zz X:Int),m<=n/\zz=(m:Int)-1/\s9=.int .i64 zz/\s8=.int .i64 X/\Hid (X=Gl (H.drop m)/\∀z∈H.drop m,0<=z/\z<=255)/\Hid (Gr W wr)) (fun _ s9 _=>(intOf s9+1).toNat)
   case atStart=>exact⟨n,(n:Int)-1,0,yJ _,rfl,rfl,rfl,⟨by rw[yj (by omega)];rfl,fun z K=>by rw[yj (by omega)]at K;cases K⟩,G9⟩
   case round =>
    obtain⟨m,zz,X,hm,aC,rfl,rfl,hx,hg⟩:=hrel;by_cases ax:m=0
    ·subst ax;obtain rfl:zz=-1:=by omega
     clear aC hm
     have HE:Hid (fT (some (Ae X))=R):=by show _=_;have:=hx.out;rw[List.drop_zero]at this;rw[ap.out,yt,<-this.1];rw[yG];rintro⟨y,hy,aX⟩;have:=this.2 y hy;simp at aX;omega
     have hX:0<=X/\X<4294967296:=by have:=hx.out;obtain⟨r0,r1⟩:=Hi _ this.2;rw[this.1];rw[List.drop_zero,bl,Jo n (8*n) rfl]at r1;rw[List.drop_zero]at r0 ⊢;refine⟨r0,Int.lt_of_lt_of_le r1 ?_⟩;rcases (by omega:n=1\/n=2\/n=3\/n=4) with rfl|rfl|rfl|rfl<;>decide
     obtain⟨x0,x1⟩:=hX;obtain⟨⟨r0,r1,r2⟩,f0,f1,f2⟩:=ac.out wr hg.out;obtain⟨GE,B,C,t⟩:=G.out wr (Ae X) hg.out;obtain⟨W9,d⟩:=xJ (dy wr (w.heap.size+1+1) (Ae X));rw[d]at GE B C t;unfold dy Ae at d;unfold Ae at B C t;dsimp only at d B C t;have ag:=dJ GE;clear GE;go_wp2;refine yq (v:=fT (some (Ae X))) (by simp[results,results178,go_sem,B,C,t];rfl) rfl ?_;exact⟨by rw[HE.out],ag.out⟩
    ·obtain⟨k,rfl⟩:∃k,m=k+1:=⟨m-1,by omega⟩;obtain rfl:zz=(k:Int):=by omega
     obtain⟨z,K⟩:∃z,H[k]?=some z:=⟨_,xR (by omega)⟩;have UZ:=fun(u:GrW wr)=>aE.out k z K ⟨u.val,hg.out.trans u.gr⟩;have V4:=fun(u:GrW wr)=>aL.out ⟨u.val,hg.out.trans u.gr⟩;have VM:=fun(u:GrW wr)=>aM.out ⟨u.val,hg.out.trans u.gr⟩;have V1:=fun(u:GrW wr)=>am.out ⟨u.val,hg.out.trans u.gr⟩;have V2:=fun(u:GrW wr)=>an.out ⟨u.val,hg.out.trans u.gr⟩;have aZ:=aD.out z (xT K);obtain⟨z1,z2⟩:=aZ;have ar:H.drop k=z::H.drop (k+1):=by rw[yg (by omega)];congr 1;rw[xR (by omega)]at K;injection K
     have hX:0<=X/\X<=16777215:=by
      have:=hx.out;obtain⟨r0,r1⟩:=Hi _ this.2;rw[this.1];rw[List.length_drop,bl,Jo (n-(k+1)) (8*(n-(k+1))) rfl]at r1;refine⟨r0,?_⟩
      have:(2:Int) ^ (8*(n-(k+1)))<=16777216:=by rcases (by omega:n-(k+1)=0\/n-(k+1)=1\/n-(k+1)=2\/n-(k+1)=3) with e|e|e|e<;>rw[e]<;>decide
      omega
     obtain⟨x0,x1⟩:=hX
     have aH:Hid (¬z<0->256*X+z=Gl (H.drop k)/\∀y∈H.drop k,0<=y/\y<=255):=fun q=>by
      rw[ar,Gl,<-hx.out.1];refine⟨by omega,fun y hy=>?_⟩;rcases List.mem_cons.1 hy with rfl|hy
      ·exact⟨by omega,z2⟩
      ·exact hx.out.2 y hy
     have aK:Hid (z∈H):=xT K;have ak:k<n:=by omega
     have al:Hid (k<n):=ak;have aO:N+k<l.length:=by omega
     clear K ar ax hm aC;by_cases Q:z<0
     all_goals
      go_wp2;refine dc (by kernel_rfl) (by kernel_rfl) ?_;repeat (go_big_quiet_step (fail))
      refine wpQuiet_nil ?_;intro Y F;obtain⟨u8,rfl⟩:=F;have G8:=dJ (hg.out.trans u8.gr);clear UZ V4 VM V1 V2
     ·have HE:Hid (fT (some zX)=R):=by
       show _=_;rw[ap.out,yr];rw[yG];exact⟨z,aK.out,by simpa using Q⟩
      go_wp2_with (go_at_call 176;refine(dS _).mono ?_;rintro e w7 ⟨rfl,g7⟩;have G7:=dJ (G8.out.trans g7);obtain⟨⟨r0,r1,r2⟩,f0,f1,f2⟩:=ac.out w7 G7.out;obtain⟨GE,B,C,t⟩:=G.out w7 zX G7.out;obtain⟨W9,d⟩:=xJ (dy w7 (w.heap.size+1+1) zX);rw[d]at GE B C t;unfold dy at d;dsimp only[zX]at d B C t;have ag:=dJ GE;clear GE);refine yq (v:=fT (some zX)) (by simp[results,results178,go_sem,B,C,t];rfl) rfl ?_;exact⟨by rw[HE.out],ag.out⟩
     ·have aG:=dJ (aH.out Q);have aY:0<=z:=by omega
      have a6:0<=256*X:=by omega
      have aJ:=dJ z2;have a7:256*X<=4294967040:=by omega
      have aU:0<=256*X+z:=by omega
      have ay:256*X+z<=4294967295:=by omega
      have aI:=dJ ay;clear aB af aA ae aj au aO ak aR aW aP aT aQ aS Q z1 x0 x1 z2 aU ay;obtain⟨kk,ad⟩:∃kk:Int,(k:Int)=kk:=⟨_,rfl⟩;have a4:0<=kk:=by omega
      have a5:kk<=3:=by have:=al.out;omega
      have aF:=dJ ad;have aV:z<=255:=by have:=aI.out;have:=aJ.out;omega
      have a9:decide (z<0)=false:=by simp;omega
      have a8:IntKind.i64.wrap (256*X+z)=256*X+z:=IntWalk.i64_in _ (by omega);rw[ad];clear ad aY aV;go_wp2;have ak:=al.out;have ad:=aF.out;exact⟨⟨k,kk-1,256*X+z,by omega,by omega,rfl,rfl,aG.out,G8⟩,by simp[intOf];omega⟩
  ·have HE:Hid (Em s.mem ⟨false,(j:Int)+1,PN⟩ n=none):=by
    show _=_;unfold Em Dv;dsimp only at hl ⊢;rw[hl,yr (.inr (by omega))];rfl
   unfold vv dj;dsimp only;rw[HE.out,U];have hd:decide (PN+(n:Int)<=(l.length:Int))=false:=by simpa using aj
   rw[hd]at CI;clear h hi hp g0 g1 g2 gW O T s0 s1 s2 I hl az aw J E hA U hf hx hd hj av p1 p2;subst D;subst A;unfold fR at hW
   go_enter func178, ntmps178
   go_wp2;refine dc (by kernel_rfl) (by kernel_rfl) ?_;repeat (go_big_quiet_step ((rename_i u;go_at_call 198;exact dk u (CI.out u))))
   refine wpQuiet_nil ?_;intro Y F;obtain⟨L,rfl⟩:=F;obtain⟨⟨r0,r1,r2⟩,f0,f1,f2⟩:=ac.out L.val L.gr;obtain⟨G9,B,C,t⟩:=G.out L.val Rn.zero L.gr;clear M Z aa ab U4 UM;obtain⟨W9,d⟩:=xJ (dy L.val (w.heap.size+1+1) Rn.zero);rw[d]at G9 B C t;unfold dy at d;dsimp only[Rn.zero]at d B C t;go_wp2;refine yq (v:=fT none) (by simp[results,results178,go_sem,B,C,t];rfl) rfl ?_;exact⟨rfl,G9⟩
end
