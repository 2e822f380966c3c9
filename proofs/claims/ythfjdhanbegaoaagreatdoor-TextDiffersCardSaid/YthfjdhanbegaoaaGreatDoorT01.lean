/- Parts. -/
import Derived.Test.YthfjdhanbegaoaaGreatDoorT00
import Derived.WalkKit
import Derived.WalkSpells
import Derived.WalkLawsBesides
import Derived.Deep.Draws
import Derived.Maps.AppendAt
import Derived.Deep.RegionHeld3
set_option linter.unusedSimpArgs false
set_option linter.unusedVariables false
set_option maxRecDepth 100000
set_option maxHeartbeats 16000000
namespace Go.Proofs.YthfjdhanbegaoaaGreatDoor
section
open Go.RowKit
structure Ins where
 op:Int
 width:Int
 flags:Int
 args:List Int
 imm:Int
 to:List Int
 deriving Inhabited,DecidableEq
structure Fn where
 params:List Int
 ret:Int
 slots:List Int
 blocks:List (List Ins)
 deriving Inhabited,DecidableEq
def SlAt (B:Nat)(v:Value)(n:Nat)(R:Nat->Nat->Prop):Prop :=
 ∃A cap,v=.slice A n cap/\n<=cap/\n<=17592186044416/\(0<n->∃b off,A=some ⟨b,off,none⟩/\b<B/\R b off)
def IntsAt (B:Nat)(w:World)(v:Value)(zs:List Int):Prop :=
 SlAt B v zs.length fun b off=>∀j z,zs[j]?=some z->w.cell? ⟨b,off+j,none⟩=some (.int .i64 z)
def InsAt (B:Nat)(w:World)(b off:Nat)(x:Ins):Prop :=
 ∃va vt,w.cell? ⟨b,off,none⟩=some (.int .i64 x.op)/\w.cell? ⟨b,off+1,none⟩=some (.int .i64 x.width)/\w.cell? ⟨b,off+2,none⟩=some (.int .i64 x.flags) /\
  w.cell? ⟨b,off+3,none⟩=some va/\w.cell? ⟨b,off+4,none⟩=some (.int .u32 x.imm)/\w.cell? ⟨b,off+5,none⟩=some vt/\IntsAt B w va x.args/\IntsAt B w vt x.to
def BlkAt (B:Nat)(w:World)(v:Value)(l:List Ins):Prop :=
 SlAt B v l.length fun b off=>∀j x,l[j]?=some x->InsAt B w b (off+j*6) x
def BlksAt (B:Nat)(w:World)(v:Value)(bs:List (List Ins)):Prop :=
 SlAt B v bs.length fun b off=>∀j l,bs[j]?=some l->∃u,w.cell? ⟨b,off+j,none⟩=some u/\BlkAt B w u l
def FnAt (B:Nat)(w:World)(v:Value)(f:Fn):Prop :=
 ∃vp vs vb,v=.agg #[vp,.int .i64 f.ret,vs,vb]/\IntsAt B w vp f.params/\IntsAt B w vs f.slots/\BlksAt B w vb f.blocks
section
variable {B:Nat}{w w':World}
theorem qe {v:Value}{n:Nat}{R R':Nat->Nat->Prop}(h:SlAt B v n R)(hr:∀b off,b<B->R b off->R' b off):SlAt B v n R':=by obtain⟨A,d,rfl,j,l,m⟩:=h;refine⟨A,d,rfl,j,l,fun q=>?_⟩;obtain⟨b,off,e,g,p⟩:=m q;exact⟨b,off,e,g,hr b off g p⟩
theorem IntsAt.below {v:Value}{zs:List Int}(h:IntsAt B w v zs)(hb:Below B w w'):IntsAt B w' v zs :=
 qe h fun b g d l j z m=>(hb.cell (p:=⟨b,g+j,none⟩) d).trans (l j z m)
theorem InsAt.below {b off:Nat}{x:Ins}(h:InsAt B w b off x)(hlt:b<B)(hb:Below B w w'):InsAt B w' b off x:=by
 obtain⟨va,vt,h0,d,g,j,l,m,q,r⟩:=h
 exact⟨va,vt,(hb.cell (p:=⟨b,off,none⟩) hlt).trans h0,(hb.cell (p:=⟨b,off+1,none⟩) hlt).trans d,(hb.cell (p:=⟨b,off+2,none⟩) hlt).trans g,
   (hb.cell (p:=⟨b,off+3,none⟩) hlt).trans j,(hb.cell (p:=⟨b,off+4,none⟩) hlt).trans l,(hb.cell (p:=⟨b,off+5,none⟩) hlt).trans m,q.below hb,r.below hb⟩
theorem BlkAt.below {v:Value}{l:List Ins}(h:BlkAt B w v l)(hb:Below B w w'):BlkAt B w' v l :=
 qe h fun _ _ d g j x m=>(g j x m).below d hb
theorem BlksAt.below {v:Value}{bs:List (List Ins)}(h:BlksAt B w v bs)(hb:Below B w w'):BlksAt B w' v bs :=
 qe h fun b m g q j l r=>by obtain⟨u,t,d⟩:=q j l r;exact⟨u,(hb.cell (p:=⟨b,m+j,none⟩) g).trans t,d.below hb⟩
theorem FnAt.below {v:Value}{f:Fn}(h:FnAt B w v f)(hb:Below B w w'):FnAt B w' v f:=by obtain⟨m,p,l,rfl,d,g,j⟩:=h;exact⟨m,p,l,rfl,d.below hb,g.below hb,j.below hb⟩
theorem SlAt.mono {B':Nat}{v:Value}{n:Nat}{R:Nat->Nat->Prop}(h:SlAt B v n R)(hB:B<=B'):SlAt B' v n R:=by obtain⟨A,d,rfl,j,l,m⟩:=h;refine⟨A,d,rfl,j,l,fun q=>?_⟩;obtain⟨b,g,e,r,p⟩:=m q;exact⟨b,g,e,by omega,p⟩
theorem IntsAt.mono {B':Nat}{v:Value}{zs:List Int}(h:IntsAt B w v zs)(hB:B<=B'):IntsAt B' w v zs:=SlAt.mono h hB
theorem InsAt.mono {B' b off:Nat}{x:Ins}(h:InsAt B w b off x)(hB:B<=B'):InsAt B' w b off x:=by obtain⟨va,vt,h0,d,g,j,l,m,p,q⟩:=h;exact⟨va,vt,h0,d,g,j,l,m,p.mono hB,q.mono hB⟩
theorem BlkAt.mono {B':Nat}{v:Value}{l:List Ins}(h:BlkAt B w v l)(hB:B<=B'):BlkAt B' w v l :=
 SlAt.mono (qe h fun _ _ _ d j x g=>(d j x g).mono hB) hB
theorem BlksAt.mono {B':Nat}{v:Value}{bs:List (List Ins)}(h:BlksAt B w v bs)(hB:B<=B'):BlksAt B' w v bs :=
 SlAt.mono (qe h fun _ _ _ g j l m=>by
   obtain⟨u,p,d⟩:=g j l m
   exact⟨u,p,d.mono hB⟩) hB
theorem FnAt.mono {B':Nat}{v:Value}{f:Fn}(h:FnAt B w v f)(hB:B<=B'):FnAt B' w v f:=by obtain⟨m,p,l,rfl,d,g,j⟩:=h;exact⟨m,p,l,rfl,d.mono hB,g.mono hB,j.mono hB⟩
end
theorem dj {α:Type}{l:List α}{k:Nat}{x:α}{r:List α}(h:l.drop k=x::r):k<l.length/\l[k]?=some x/\l.drop (k+1)=r:=by
 have g:k<l.length:=by
  rcases pF k l.length with d|d
  ·exact d
  ·rw[pt d]at h;cases h
 rw[po g]at h;injection h with d j;exact⟨g,by rw[oY g,d],j⟩
theorem dm {α:Type}{l:List α}{k:Nat}(h:l.drop k=[])(hk:k<=l.length):k=l.length:=by have:=List.drop_eq_nil_iff.1 h;omega
end
section
namespace Ref
def isWidth (n:Int):Bool:=decide (1<=n) && decide (n<=32)
def isWordOf (n x:Int):Bool:=isWidth n && decide (x<2 ^ n.toNat)
def isLast (op:Int):Bool:=decide (op=29) || decide (op=30) || decide (op=31) || decide (op=32)
def plain0 (fl im:Int):Bool:=decide (fl=0) && decide (im=0)
def plain (x:Ins):Bool:=plain0 x.flags x.imm
def arith0 (op fl:Int):Bool :=
 if op=1\/op=2\/op=3\/op=11 then decide (0<=fl) && decide (fl<=3)
 else if op=4\/op=6\/op=12\/op=13 then decide (fl=0) || decide (fl=4)
 else decide (fl=0)
def arith (x:Ins):Bool:=arith0 x.op x.flags
def has (l:List Int)(n:Int):Bool:=l.any fun z=>decide (z=n)
def sameInts:List Int->List Int->Bool
 | [],[]=>true
 | a::azs,b::bs=>decide (a=b) && sameInts azs bs
 | _,_=>false
def total (bs:List (List Ins)):Nat:=(bs.map List.length).sum
def number (f:Fn)(k:Nat):Nat:=f.params.length+total (f.blocks.take k)
def count (f:Fn):Nat:=number f f.blocks.length
def whereFrom (v:Int):List (List Ins)->Nat->Nat->Int × Int
 | [],_,_=>(-1,-1)
 | l::r,b,n=>if (n:Int)<=v/\v<n+l.length then (b,v-n) else whereFrom v r (b+1) (n+l.length)
def whereIs (f:Fn)(v:Int):Int × Int:=whereFrom v f.blocks 0 f.params.length
def insAt? (f:Fn)(b i:Int):Option Ins:=(f.blocks[b.toNat]?).bind fun l=>l[i.toNat]?
def kind (f:Fn)(v:Int):Int :=
 if v<0\/(count f:Int)<=v then -1
 else if v<f.params.length then f.params.getD v.toNat 0
 else ((insAt? f (whereIs f v).1 (whereIs f v).2).map (·.width)).getD 0
def shape (f:Fn)(x:Ins):Int × Int × Bool :=
 if x.op=0 then (0,0,isWidth x.width && decide (x.flags=0) && isWordOf x.width x.imm)
 else if x.op=14 then (2,0,decide (x.width=1) && decide (x.flags=0) && decide (x.imm<=9))
 else if x.op=15 then (3,0,(isWidth x.width || decide (x.width=33)) && plain x)
 else if x.op=16\/x.op=17\/x.op=18\/x.op=21 then (1,0,isWidth x.width && plain x)
 else if x.op=19\/x.op=20 then (2,0,isWidth x.width && decide (x.flags=0) && decide (1<=x.imm) && decide (x.imm<x.width) && decide (x.width%x.imm=0))
 else if x.op=22\/x.op=23 then (0,0,isWidth x.width && plain x)
 else if x.op=24 then (0,0,decide (x.width=33) && decide (x.flags=0) && decide (x.imm<f.slots.length))
 else if x.op=25 then (2,0,decide (x.width=33) && decide (x.imm=0) && (decide (x.flags=0) || decide (x.flags=8)))
 else if x.op=26 then (1,0,(decide (x.width=8) || decide (x.width=16) || decide (x.width=32)) && plain x)
 else if x.op=27 then (2,0,decide (x.width=0) && plain x)
 else if x.op=28 then (-1,-1,(isWidth x.width || decide (x.width=33)) && plain x && decide (0<x.args.length))
 else if x.op=29 then (0,1,decide (x.width=0) && plain x)
 else if x.op=30 then (1,2,decide (x.width=0) && plain x)
 else if x.op=31 then (if 0<f.ret then 1 else 0,0,decide (x.width=0) && plain x)
 else if x.op=32 then (0,0,decide (x.width=0) && plain x)
 else if 1<=x.op/\x.op<=13 then (2,0,isWidth x.width && decide (x.imm=0) && arith x)
 else (0,0,false)
def counts (s:Int × Int × Bool)(x:Ins):Bool :=
 !(decide (0<=s.1) && decide ((x.args.length:Int)≠s.1) || decide (s.1<0) && decide (x.args.length≠x.to.length) || decide (0<=s.2.1) && decide ((x.to.length:Int)≠s.2.1))
def argument (f:Fn)(x:Ins):Bool :=
 (shape f x).2.2 && counts (shape f x) x && x.to.all (fun z=>decide (0<=z) && decide (z<f.blocks.length)) && (decide (x.op≠30) || decide (x.to.getD 0 0≠x.to.getD 1 0))
def graph (f:Fn):List (List Int):=f.blocks.map fun l=>(l.getLast?.map (·.to)).getD []
def beforeFrom (v:Int):List (List Int)->Nat->List Int
 | [],_=>[]
 | l::r,b=>if has l v then (b:Int)::beforeFrom v r (b+1) else beforeFrom v r (b+1)
def before (g:List (List Int))(v:Int):List Int:=beforeFrom v g 0
def laidFrom:List Ins->Bool->Bool
 | [],_=>true
 | x::r,prev=>(isLast x.op == r.isEmpty) && (decide (x.op≠28) || prev) && laidFrom r (decide (x.op=28))
def laid (l:List Ins):Bool:=!l.isEmpty && laidFrom l true
def phisFrom (g:List (List Int)):List (List Ins)->Nat->Bool
 | [],_=>true
 | l::r,b=>l.all (fun x=>decide (x.op≠28) || sameInts x.to (before g b)) && phisFrom g r (b+1)
def rules (f:Fn):Bool:=f.blocks.all laid && (before (graph f) 0).isEmpty && phisFrom (graph f) f.blocks 0
def isMem (k:Int):Bool:=decide (k=8) || decide (k=16) || decide (k=32)
def typedKinds (f:Fn)(x:Ins)(k:List Int):Bool :=
 if x.op=14 then isWidth (k.getD 0 0) && decide (k.getD 1 0=k.getD 0 0)
 else if x.op=15 then decide (k.getD 0 0=1) && decide (k.getD 1 0=x.width) && decide (k.getD 2 0=x.width)
 else if x.op=16\/x.op=17 then isWidth (k.getD 0 0) && decide (k.getD 0 0<x.width)
 else if x.op=18 then isWidth (k.getD 0 0) && decide (x.width<k.getD 0 0)
 else if x.op=25 then decide (k.getD 0 0=33) && isWidth (k.getD 1 0)
 else if x.op=26 then decide (k.getD 0 0=33)
 else if x.op=27 then decide (k.getD 0 0=33) && isMem (k.getD 1 0)
 else if x.op=30 then decide (k.getD 0 0=1)
 else if x.op=31 then decide (k.length=0) || decide (k.getD 0 0=f.ret)
 else k.all fun z=>decide (z=x.width)
def typed (f:Fn)(x:Ins):Bool:=x.args.all (fun v=>decide (0<=kind f v)) && typedKinds f x (x.args.map (kind f))
def spreadEdge (without:Int)(out:List Bool)(t:Int):List Bool:=if t=without then out else out.set t.toNat true
def spreadBlock (without:Int)(g:List (List Int))(out:List Bool)(b:Nat):List Bool:=if out.getD b false then (g.getD b []).foldl (spreadEdge without) out else out
def spreadRound (without:Int)(g:List (List Int))(out:List Bool):List Bool:=(List.range g.length).foldl (spreadBlock without g) out
def spread (without:Int)(g:List (List Int)):Nat->List Bool->List Bool
 | 0,out=>out
 | n+1,out=>spread without g n (spreadRound without g out)
def reached (g:List (List Int))(without:Int):List Bool :=
 if without=0 then List.replicate g.length false else spread without g g.length ((List.replicate g.length false).set 0 true)
def dominates (g:List (List Int))(a b:Int):Bool:=decide (a=b) || !(reached g a).getD b.toNat false
def there (f:Fn)(g:List (List Int))(v block place:Int):Bool :=
 if (whereIs f v).1<0 then true
 else if (whereIs f v).1=block then decide (place<0) || decide ((whereIs f v).2<place)
 else dominates g (whereIs f v).1 block
def argOk (f:Fn)(g:List (List Int))(inn:List Bool)(b i:Nat)(x:Ins)(v t:Int):Bool :=
 if x.op=28 then !inn.getD t.toNat false || there f g v t (-1) else there f g v b i
def argsFrom (f:Fn)(g:List (List Int))(inn:List Bool)(b i:Nat)(x:Ins):List Int->Nat->Bool
 | [],_=>true
 | v::r,k=>argOk f g inn b i x v (x.to.getD k 0) && argsFrom f g inn b i x r (k+1)
def insFrom (f:Fn)(g:List (List Int))(inn:List Bool)(b:Nat):List Ins->Nat->Bool
 | [],_=>true
 | x::r,i=>argsFrom f g inn b i x x.args 0 && insFrom f g inn b r (i+1)
def blksFrom (f:Fn)(g:List (List Int))(inn:List Bool):List (List Ins)->Nat->Bool
 | [],_=>true
 | l::r,b=>(!inn.getD b false || insFrom f g inn b l 0) && blksFrom f g inn r (b+1)
def stated (f:Fn):Bool:=blksFrom f (graph f) (reached (graph f) (-1)) f.blocks 0
def isSlot (n:Int):Bool:=decide (1<=n) && decide (n<=8)
def validate (f:Fn):Int :=
 if 3<f.params.length\/2<f.slots.length\/f.blocks.length<1\/10<f.blocks.length then 3
 else if 40<total f.blocks then 3
 else if f.ret<0\/32<f.ret then 1
 else if f.params.all isWidth=false then 1
 else if f.slots.all isSlot=false then 1
 else if f.blocks.all (fun l=>l.all (argument f))=false then 1
 else if rules f=false then 7
 else if f.blocks.all (fun l=>l.all (typed f))=false then 6
 else if stated f=false then 9
 else 0
theorem sameInts_eq:∀(a b:List Int),sameInts a b=decide (a=b)
 | [],[]=>by simp[sameInts]
 | [],_::_=>by simp[sameInts]
 | _::_,[]=>by simp[sameInts]
 | a::azs,b::bs=>by
  rw[sameInts,sameInts_eq azs bs]
  by_cases h:a=b<;>by_cases h2:azs=bs<;>simp[h,h2]
theorem total_cons (l:List Ins)(r:List (List Ins)):total (l::r)=l.length+total r:=by simp[total]
theorem total_take_succ (bs:List (List Ins))(k:Nat)(l:List Ins)(h:bs[k]?=some l):total (bs.take (k+1))=total (bs.take k)+l.length:=by obtain⟨d,e⟩:=oZ.1 h;subst e;unfold total;rw[pG d,List.map_append,List.sum_append];simp
theorem whereFrom_some (v:Int):∀(bs:List (List Ins))(b n:Nat),(n:Int)<=v->v<(n+total bs:Nat) ->
  ∃(j i:Nat)(l:List Ins)(x:Ins),whereFrom v bs b n=(((b+j:Nat):Int),(i:Int))/\bs[j]?=some l/\l[i]?=some x/\v=n+total (bs.take j)+i
 | [],b,n,h1,h2=>by simp[total]at h2;omega
 | l::r,b,n,h1,h2=>by
  rw[total_cons]at h2
  by_cases h:v<n+l.length
  ·refine⟨0,(v-n).toNat,l,l[(v-n).toNat]'(by omega),?_,rfl,by simp,by simp[total];omega⟩
   rw[whereFrom,pB ⟨h1,h⟩]
   simp;omega
  ·obtain⟨j,i,p,x,d,g,m,q⟩:=whereFrom_some v r (b+1) (n+l.length) (by omega) (by omega)
   refine⟨j+1,i,p,x,?_,by simpa using g,m,?_⟩
   ·rw[whereFrom,pC (by omega),d];rw[show b+1+j=b+(j+1) by omega]
   ·rw[pJ,total_cons];omega
theorem whereIs_some (f:Fn)(v:Int)(h1:(f.params.length:Int)<=v)(h2:v<count f) :
  ∃(j i:Nat)(l:List Ins)(x:Ins),whereIs f v=((j:Int),(i:Int))/\f.blocks[j]?=some l/\l[i]?=some x/\v=f.params.length+total (f.blocks.take j)+i:=by
 obtain⟨j,i,l,x,d,g,m,p⟩:=whereFrom_some v f.blocks 0 f.params.length h1 (by unfold count number at h2;rw[pE]at h2;exact h2);exact⟨j,i,l,x,by rw[whereIs,d];simp,g,m,p⟩
theorem whereFrom_none (v:Int):∀(bs:List (List Ins))(b n:Nat),v<n->whereFrom v bs b n=(-1,-1)
 | [],b,n,h=>rfl
 | l::r,b,n,h=>by rw[whereFrom,pC (by omega)];exact whereFrom_none v r (b+1) (n+l.length) (by omega)
end Ref
end
section
open Go.RowKit
def Gr (w w':World):Prop:=Below w.heap.size w w'
section
variable {w a b c:World}
abbrev RG (v:Value)(w:World)(e:Ending)(w':World):Prop:=e=.returned v/\Gr w w'
abbrev RS (v:Value)(w:World)(e:Ending)(w':World):Prop:=e=.returned v/\w=w'
theorem qj (w:World):Gr w w:=Below.refl _ _
theorem Gr.size (h:Gr a b):a.heap.size<=b.heap.size:=Below.size h
theorem Gr.trans (h:Gr a b)(k:Gr b c):Gr a c:=Below.trans h (Below.mono k h.size)
theorem Gr.alloc (h:Gr w a)(o:Obj):Gr w (a.alloc o):=Below.alloc h h.size o
theorem Gr.drew (h:Gr w a):Gr w a.drew:=Below.drew h
theorem Gr.drewN (h:Gr w a)(n:Nat):Gr w (a.drewN n):=⟨h.os,h.tape,h.output,h.size,h.block⟩
theorem Gr.setCell (h:Gr w a){p:Addr}(hp:w.heap.size<=p.block)(u:Value):Gr w (a.setCell p u):=Below.setCell h hp u
theorem Gr.grown {row:Option Nat}(h:Gr w a)(hg:a.grownBy b row)(hr:∀k,row=some k->w.heap.size<=k):Gr w b:=Below.grown h hg h.size hr
theorem Gr.cell (h:Gr a b):∀k o,k<a.heap.size->b.cell? ⟨k,o,none⟩=a.cell? ⟨k,o,none⟩:=fun k o d=>Below.cell (p:=⟨k,o,none⟩) h d
theorem Gr.frozen (h:Gr a b):∀k o,k<a.heap.size->b.frozen? ⟨k,o,none⟩=a.frozen? ⟨k,o,none⟩:=fun k o d=>Below.frozen (p:=⟨k,o,none⟩) h d
theorem Gr.heap (h:Gr a b):∀k,k<a.heap.size->b.heap[k]?=a.heap[k]?:=fun k d=>h.block k d
theorem IntsAt.gr {v:Value}{zs:List Int}(h:IntsAt a.heap.size a v zs)(g:Gr a b):IntsAt b.heap.size b v zs:=(h.below g).mono g.size
theorem BlkAt.gr {v:Value}{l:List Ins}(h:BlkAt a.heap.size a v l)(g:Gr a b):BlkAt b.heap.size b v l:=(h.below g).mono g.size
theorem BlksAt.gr {v:Value}{l:List (List Ins)}(h:BlksAt a.heap.size a v l)(g:Gr a b):BlksAt b.heap.size b v l:=(h.below g).mono g.size
theorem FnAt.gr {v:Value}{f:Fn}(h:FnAt a.heap.size a v f)(g:Gr a b):FnAt b.heap.size b v f:=(h.below g).mono g.size
end
theorem dc {a b:Bool}(h:a=b):Ending.returned (.bool a)=.returned (.bool b):=by rw[h]
theorem df {k:IntKind}{a b:Int}(h:a=b):Ending.returned (.int k a)=.returned (.int k b):=by rw[h]
theorem du {a b:Value}(h:a=b):Ending.returned a=.returned b:=by rw[h]
def ef (x:Ins)(va vt:Value):Value:=.agg #[.int .i64 x.op,.int .i64 x.width,.int .i64 x.flags,va,.int .u32 x.imm,vt]
def jS (B:Nat)(w:World)(v:Value)(x:Ins):Prop:=∃va vt,v=ef x va vt/\IntsAt B w va x.args/\IntsAt B w vt x.to
def TabAt (B:Nat)(w:World)(v:Value)(t:List (List Int)):Prop :=
 SlAt B v t.length fun b off=>∀j l,t[j]?=some l->∃u,w.cell? ⟨b,off+j,none⟩=some u/\IntsAt B w u l
theorem TabAt.below {B:Nat}{w w':World}{v:Value}{t:List (List Int)}(h:TabAt B w v t)(hb:Below B w w'):TabAt B w' v t :=
 qe h fun b m g q j l r=>by obtain⟨u,y,d⟩:=q j l r;exact⟨u,(hb.cell (p:=⟨b,m+j,none⟩) g).trans y,d.below hb⟩
theorem TabAt.mono {B B':Nat}{w:World}{v:Value}{t:List (List Int)}(h:TabAt B w v t)(hB:B<=B'):TabAt B' w v t :=
 SlAt.mono (qe h fun _ _ _ g j l m=>by
   obtain⟨u,p,d⟩:=g j l m
   exact⟨u,p,d.mono hB⟩) hB
theorem TabAt.gr {a b:World}{v:Value}{l:List (List Int)}(h:TabAt a.heap.size a v l)(g:Gr a b):TabAt b.heap.size b v l:=(h.below g).mono g.size
def BoolsAt (B:Nat)(w:World)(v:Value)(bs:List Bool):Prop :=
 SlAt B v bs.length fun b off=>∀j z,bs[j]?=some z->w.cell? ⟨b,off+j,none⟩=some (.bool z)
theorem BoolsAt.below {B:Nat}{w w':World}{v:Value}{zs:List Bool}(h:BoolsAt B w v zs)(hb:Below B w w'):BoolsAt B w' v zs :=
 qe h fun b g d l j z m=>(hb.cell (p:=⟨b,g+j,none⟩) d).trans (l j z m)
theorem BoolsAt.mono {B B':Nat}{w:World}{v:Value}{zs:List Bool}(h:BoolsAt B w v zs)(hB:B<=B'):BoolsAt B' w v zs:=SlAt.mono h hB
theorem BoolsAt.gr {a b:World}{v:Value}{l:List Bool}(h:BoolsAt a.heap.size a v l)(g:Gr a b):BoolsAt b.heap.size b v l:=(h.below g).mono g.size
theorem dn {P:Program}{f:FuncId}{args:Array Value}{w:World}{n:Nat}{v:Value}
  (h:Calls P f args (w.drewN n) fun e w'=>e=.returned v/\w.drewN n=w'):Calls P f args (w.drewN n) fun e w''=>e=.returned v/\∃m,w''=w.drewN m :=
 h.mono fun _ _ ⟨d,g⟩=>⟨d,n,g.symm⟩
theorem fV (b o j:Nat):Addr.add ⟨b,o,none⟩ j=⟨b,o+j,none⟩:=by unfold Addr.add;split<;>simp_all
def Src (w:World)(u:Value)(size m:Nat)(news:List Value):Prop :=
 ∃A c,u=.slice A m c/\news.length=m*size/\(0<m->∃ad,A=some ad/\∀j x,news[j]?=some x->w.cell? (ad.add j)=some x)
section
variable {P:Program}{w:World}
theorem gJ (base:Nat)(t ty e:TypeId)(i:TypeInfo)(z:Value)(size bytes:Nat)(ht:P.underlying t=some (.slice e))(hi:P.info? e=some i)(hz:i.zero=some z)
  (hsize:i.size=size) (hby:i.bytes=bytes) (hzs:z.cells.size=size) (hsz:0<size) (v:Value) (n:Nat) (xs:List Value) (hown:w.ownsRow base e size v n xs)
  (u:Value) (m:Nat) (news:List Value) (hu:Src w u size m news) (h1:∀x∈news,x.oneCell'=true) (h63:n+m<=maxLen) (hbytes:(n+m)*bytes<=140737488355328) (hbase:base<=w.heap.size) :
  ∃v' w',(Builtin.append_ #[t,t] ty #[v,u]).run P w=.ok v' w'/\w'.ownsRow base e size v' (n+m) (xs++news)/\w.grownBy w' v.ownBlock/\(v'.ownBlock=v.ownBlock\/v'.ownBlock=some w.heap.size):=by
 obtain⟨A,c,rfl,l,d⟩:=hu
 cases A with
 | none =>
  have J:m=0:=by
   rcases Nat.eq_zero_or_pos m with h|h
   ·exact h
   ·obtain⟨_,F,_⟩:=d h;cases F
  subst J;have q:news=[]:=pK (by simpa using l);subst q;refine⟨v,w,?_,by simpa using hown,World.grownBy.refl w _,.inl rfl⟩;rcases hown.2 with ⟨rfl,rfl⟩|⟨g,C,D,rfl,_,_,r,_⟩
  ·simp[Builtin.append_,run_underlying ht,sizeOf,typeInfo,hi,Builtin.lenOf,Builtin.firstCells]
  ·simp[Builtin.append_,run_underlying ht,sizeOf,typeInfo,hi,Builtin.lenOf,Builtin.firstCells,r,storeCells]
 | some ad =>
  have p:∀j x,news[j]?=some x->w.cell? (ad.add j)=some x:=by
   intro j x y;rcases Nat.eq_zero_or_pos m with h|h
   ·subst h;have q:news=[]:=pK (by simpa using l);subst q;simp at y
   ·obtain⟨B,E,p⟩:=d h;cases E;exact p j x y
  obtain⟨v',w',K,G,H,_,I⟩:=run_append_own_at (P:=P) w base t ty e i z size bytes ht hi hz hsize hby hzs hsz v n xs hown ad m c news l p h1 h63 hbytes hbase;exact⟨v',w',K,G,H,I⟩
theorem dT {o:Oper}{a:Act}{K:Act->World->Prop}{Q:Exit->Act->World->Prop}(s x:Operand)(t:TypeId)
  (ho:o.op=.call {callee:=.builtin .append,args:=#[s,x],argTypes:=#[t,t]})
  (base:Nat) (e:TypeId) (i:TypeInfo) (z:Value) (size bytes:Nat) (ht:P.underlying t=some (.slice e)) (hi:P.info? e=some i) (hz:i.zero=some z)
  (hsize:i.size=size) (hby:i.bytes=bytes) (hzs:z.cells.size=size) (hsz:0<size) (v:Value) (n:Nat) (xs:List Value) (hs:a.eval s=v) (hown:w.ownsRow base e size v n xs)
  (u:Value) (m:Nat) (news:List Value) (hx:a.eval x=u) (hu:Src w u size m news) (h1:∀x∈news,x.oneCell'=true) (h63:n+m<=maxLen) (hbytes:(n+m)*bytes<=140737488355328) (hbase:base<=w.heap.size)
  (h:∀v' w',w'.ownsRow base e size v' (n+m) (xs++news)->w.grownBy w' v.ownBlock->(v'.ownBlock=v.ownBlock\/v'.ownBlock=some w.heap.size)->K (a.put o.dst v') w'):o.wp P a w K Q:=by
 obtain⟨v',w',l,d,g,j⟩:=gJ (P:=P) (w:=w) base t o.type e i z size bytes ht hi hz hsize hby hzs hsz v n xs hown u m news hu h1 h63 hbytes hbase;unfold Oper.wp execOp;simp only[ho,resolve,invoke,builtin,Sem.run_bind,Sem.run_pure,Result.andThen_ok,List.map_toArray,List.map_cons,List.map_nil,hs,hx,l];exact h v' w' d g j
theorem dL {ops:Array Oper}{rest:List Oper}{o:Oper}{a:Act}{Q:Exit->Act->World->Prop}(hgd:o.guard=none)(s x:Operand)(t:TypeId)
  (ho:o.op=.call {callee:=.builtin .append,args:=#[s,x],argTypes:=#[t,t]})
  (base:Nat) (e:TypeId) (i:TypeInfo) (z:Value) (size bytes:Nat) (ht:P.underlying t=some (.slice e)) (hi:P.info? e=some i) (hz:i.zero=some z)
  (hsize:i.size=size) (hby:i.bytes=bytes) (hzs:z.cells.size=size) (hsz:0<size) (v:Value) (n:Nat) (xs:List Value) (hs:a.eval s=v) (hown:w.ownsRow base e size v n xs)
  (u:Value) (m:Nat) (news:List Value) (hx:a.eval x=u) (hu:Src w u size m news) (h1:∀x∈news,x.oneCell'=true) (h63:n+m<=maxLen) (hbytes:(n+m)*bytes<=140737488355328) (hbase:base<=w.heap.size)
  (h:∀v' w',w'.ownsRow base e size v' (n+m) (xs++news)->w.grownBy w' v.ownBlock->(v'.ownBlock=v.ownBlock\/v'.ownBlock=some w.heap.size)->wpList P ops Q rest (a.put o.dst v') w'):wpList P ops Q (o::rest) a w :=
 wpList_plain hgd fun _ d=>dT s x t ho base e i z size bytes ht hi hz hsize hby hzs hsz v n xs hs hown u m news hx hu h1 h63 hbytes hbase fun v' w' h2 h3 h5=>d _ _ (h v' w' h2 h3 h5)
end
section
variable {w w':World}{base:Nat}{e:TypeId}{size n:Nat}{v:Value}{xs:List Value}
theorem Src.ints {B:Nat}{u:Value}{zs:List Int}(h:IntsAt B w u zs):Src w u 1 zs.length (zs.map (Value.int .i64)):=by obtain⟨A,c,rfl,_,_,g⟩:=h;refine⟨A,c,rfl,by simp,fun m=>?_⟩;obtain⟨b,q,rfl,_,l⟩:=g m;refine⟨_,rfl,fun j x d=>?_⟩;rw[pk]at d;obtain⟨z,p,rfl⟩:=Option.map_eq_some_iff.1 d;rw[fV];exact l j z p
theorem qk (w:World)(x:Value)(t:TypeId):Src (w.alloc (.cells #[x] t)) (.slice (some ⟨w.heap.size,0,none⟩) 1 1) 1 1 [x]:=by
 refine⟨_,_,rfl,rfl,fun _=>⟨_,rfl,fun j y hy=>?_⟩⟩
 match j,hy with
 | 0,hy=>simp at hy;subst hy;simp[Addr.add]
theorem Src.newN (w:World)(cs:List Value)(t:TypeId):Src (w.alloc (.cells cs.toArray t)) (.slice (some ⟨w.heap.size,0,none⟩) 1 1) cs.length 1 cs:=by refine⟨_,_,rfl,by simp,fun _=>⟨_,rfl,fun j y hy=>?_⟩⟩;have:=px (w.alloc (.cells cs.toArray t)) w.heap.size j cs.toArray t (0,0) (heap_alloc_new w _);rw[fV,Nat.zero_add,this];simpa using hy
theorem jI (k:IntKind)(zs:List Int):∀u∈zs.map (Value.int k),u.oneCell'=true:=by intro u d;obtain⟨z,_,rfl⟩:=List.mem_map.1 d;rfl
theorem eu (h:w.ownsRow base e size v n xs):∃A cap,v=.slice A n cap/\n<=cap/\(∀g,A=some g->base<=g.block/\g.block<w.heap.size/\g.off=0/\g.spot=none)/\(A=none->n=0):=by
 rcases h.2 with ⟨rfl,rfl⟩|⟨g,cap,d,rfl,j,l,m,_⟩
 ·exact⟨none,0,rfl,pS _,fun _ e=>(by cases e),fun _=>rfl⟩
 ·exact⟨_,cap,rfl,m,fun _ e=>(by cases e;exact⟨j,(pf.1 l).1,rfl,rfl⟩),fun e=>(by cases e)⟩
theorem dP (h:w.ownsRow base e size v n xs):∀k,v.ownBlock=some k->base<=k/\k<w.heap.size:=by
 intro k d;rcases h.2 with ⟨rfl,_⟩|⟨g,j,l,rfl,m,p,_⟩
 ·simp[Value.ownBlock]at d
 ·simp[Value.ownBlock]at d;subst d;exact⟨m,(pf.1 p).1⟩
theorem eT (h:w.ownsRow base e size v n xs)(g:Gr w w'):w'.ownsRow base e size v n xs:=by
 obtain⟨p,l⟩:=h;refine⟨p,?_⟩;rcases l with l|⟨k,d,j,t,q,m,r⟩
 ·exact .inl l
 ·exact .inr ⟨k,d,j,t,q,(g.heap k (pf.1 m).1).trans m,r⟩
theorem ma {row:Option Nat}(h:w.ownsRow base e size v n xs)(g:w.grownBy w' row)(hne:∀k,v.ownBlock=some k->row≠some k):w'.ownsRow base e size v n xs:=by
 obtain⟨t,l⟩:=h;refine⟨t,?_⟩;rcases l with l|⟨k,d,j,p,u,m,r⟩
 ·exact .inl l
 ·exact .inr ⟨k,d,j,p,u,(g.block k (pf.1 m).1 (fun q=>hne k (by rw[p];rfl) q.symm)).trans m,r⟩
theorem dr (h:w.ownsRow base e size v n xs){A:Option Addr}{c:Nat}(hv:v=.slice A n c)(hn:0<n):∃b,A=some ⟨b,0,none⟩/\b<w.heap.size/\base<=b/\∀j,j<n*size->w.cell? ⟨b,j,none⟩=xs[j]?:=by
 subst hv;rcases h.2 with ⟨_,h0⟩|⟨g,d,l,hv,q,r,_⟩
 ·omega
 ·injection hv with m u p;subst m;subst p;exact⟨g,rfl,(pf.1 r).1,q,fun j t=>World.ownsRow.cellAt h j t⟩
theorem ni {zs:List Int}(h:w.ownsRow base e 1 v zs.length (zs.map (Value.int .i64)))(hn:zs.length<=17592186044416):IntsAt w.heap.size w v zs:=by obtain⟨A,g,l,q,_,_⟩:=eu h;refine⟨A,g,l,q,hn,fun r=>?_⟩;obtain⟨b,rfl,p,_,d⟩:=dr h l r;refine⟨b,0,rfl,p,fun j z m=>?_⟩;have t:j<zs.length:=(oZ.1 m).1;rw[Nat.zero_add,d j (by omega),pk,m];rfl
theorem iW {zs:List Bool}(h:w.ownsRow base e 1 v zs.length (zs.map Value.bool))(hn:zs.length<=17592186044416):BoolsAt w.heap.size w v zs:=by obtain⟨A,g,l,q,_,_⟩:=eu h;refine⟨A,g,l,q,hn,fun r=>?_⟩;obtain⟨b,rfl,p,_,d⟩:=dr h l r;refine⟨b,0,rfl,p,fun j z m=>?_⟩;have t:j<zs.length:=(oZ.1 m).1;rw[Nat.zero_add,d j (by omega),pk,m];rfl
theorem nV {us:List Value}{t:List (List Int)}(h:w.ownsRow base e 1 v t.length us)(hn:t.length<=17592186044416)
  (hu:∀(j:Nat)(l:List Int),t[j]?=some l->∃u,us[j]?=some u/\IntsAt w.heap.size w u l):TabAt w.heap.size w v t:=by
 obtain⟨A,g,r,z,_,_⟩:=eu h;refine⟨A,g,r,z,hn,fun B=>?_⟩;obtain⟨b,rfl,y,_,d⟩:=dr h r B;refine⟨b,0,rfl,y,fun j l q=>?_⟩;have C:j<t.length:=(oZ.1 q).1;obtain⟨u,m,p⟩:=hu j l q;exact⟨u,by rw[Nat.zero_add,d j (by omega),m],p⟩
end
def Own1 (B:Nat)(e:TypeId)(w:World)(v:Value)(xs:List Value):Prop:=w.ownsRow B e 1 v xs.length xs
theorem Own1.nil (B:Nat)(e:TypeId)(w:World):Own1 B e w (.slice none 0 0) []:=World.ownsRow_nil _ _ _ _
theorem Own1.gr {B:Nat}{e:TypeId}{w w':World}{v:Value}{xs:List Value}(h:Own1 B e w v xs)(g:Gr w w'):Own1 B e w' v xs:=eT h g
theorem Own1.alloc {B:Nat}{e:TypeId}{w:World}{v:Value}{xs:List Value}(h:Own1 B e w v xs)(o:Obj):Own1 B e (w.alloc o) v xs:=eT h ((qj _).alloc o)
theorem Own1.form {B:Nat}{e:TypeId}{w:World}{v:Value}{xs:List Value}(h:Own1 B e w v xs):∃A c,v=.slice A xs.length c:=by obtain⟨A,c,d,_⟩:=eu h;exact⟨A,c,d⟩
theorem Own1.ints {B:Nat}{e:TypeId}{w:World}{v:Value}{zs:List Int}(h:Own1 B e w v (zs.map (Value.int .i64)))(hn:zs.length<=17592186044416):IntsAt w.heap.size w v zs :=
 ni (by have:=h;unfold Own1 at this;rwa [pv]at this) hn
theorem Own1.bools {B:Nat}{e:TypeId}{w:World}{v:Value}{zs:List Bool}(h:Own1 B e w v (zs.map Value.bool))(hn:zs.length<=17592186044416):BoolsAt w.heap.size w v zs :=
 iW (by have:=h;unfold Own1 at this;rwa [pv]at this) hn
theorem Gr.below {w a b:World}{B:Nat}(h:Gr w a)(k:Below B a b)(hB:w.heap.size<=B):Gr w b:=Below.trans h (k.mono hB)
theorem nF {P:Program}{w:World}{ops:Array Oper}{rest:List Oper}{o:Oper}{a:Act}{Q:Exit->Act->World->Prop}{B:Nat}{t e:TypeId}{i:TypeInfo}{z:Value}{bytes:Nat}
  (ht:P.underlying t=some (.slice e)) (hi:P.info? e=some i) (hz:i.zero=some z) (hsize:i.size=1) (hby:i.bytes=bytes) (hzs:z.cells.size=1) (hbb:bytes<=128)
  (hgd:o.guard=none) (s x:Operand) (ho:o.op=.call {callee:=.builtin .append,args:=#[s,x],argTypes:=#[t,t]})
  {v:Value} {xs:List Value} (hs:a.eval s=v) (hown:Own1 B e w v xs) {y:Value} {e':TypeId} (hy:y.oneCell'=true) (hx:a.eval x=.slice (some ⟨w.heap.size,0,none⟩) 1 1) (hlt:xs.length<1099511627776) (hB:B<=w.heap.size)
  (h:∀A c w',Own1 B e w' (.slice A (xs.length+1) c) (xs++[y])->Below B w w'->(w.alloc (.cells #[y] e')).grownBy w' v.ownBlock->wpList P ops Q rest (a.put o.dst (.slice A (xs.length+1) c)) w') :
  wpList P ops Q (o::rest) a (w.alloc (.cells #[y] e')):=by
 refine dL hgd s x t ho B e i z 1 bytes ht hi hz hsize hby hzs (by omega) v xs.length xs hs (eT hown ((qj _).alloc _)) _ 1 [y] hx (qk _ _ _) ?_ ?_ ?_ ?_ ?_
 ·intro u l;simp at l;subst l;exact hy
 ·simp only[maxLen];omega
 ·have:(xs.length+1)*bytes<=(xs.length+1)*128:=Nat.mul_le_mul_left _ hbb;omega
 ·simp;omega
 ·intro q w' g j _;have d:Own1 B e w' q (xs++[y]):=by unfold Own1;rw[pT];exact g
  obtain⟨A,c,m⟩:=d.form;rw[pT]at m;subst m;refine h A c w' d ?_ j;refine(((Below.refl B w).alloc hB _)).grown j (by simp;omega) (fun k p=>(dP hown k p).1)
theorem oL {P:Program}{w:World}{ops:Array Oper}{rest:List Oper}{o:Oper}{a:Act}{Q:Exit->Act->World->Prop}{B:Nat}{t e:TypeId}{i:TypeInfo}{z:Value}{bytes:Nat}
  (ht:P.underlying t=some (.slice e)) (hi:P.info? e=some i) (hz:i.zero=some z) (hsize:i.size=1) (hby:i.bytes=bytes) (hzs:z.cells.size=1)
  (hgd:o.guard=none) (s x:Operand) (ho:o.op=.call {callee:=.builtin .append,args:=#[s,x],argTypes:=#[t,t]})
  {v:Value} {xs:List Value} (hs:a.eval s=v) (hown:Own1 B e w v xs) {u:Value} {ys:List Value} (hy:∀y∈ys,y.oneCell'=true) (hx:a.eval x=u) (hu:Src w u 1 ys.length ys)
  (h63:xs.length+ys.length<=17592186044416) (hlt:(xs.length+ys.length)*bytes<=140737488355328) (hB:B<=w.heap.size)
  (h:∀A c w',Own1 B e w' (.slice A (xs.length+ys.length) c) (xs++ys)->Below B w w'->w.grownBy w' v.ownBlock->wpList P ops Q rest (a.put o.dst (.slice A (xs.length+ys.length) c)) w') :
  wpList P ops Q (o::rest) a w:=by
 refine dL hgd s x t ho B e i z 1 bytes ht hi hz hsize hby hzs (by omega) v xs.length xs hs hown _ ys.length ys hx hu hy ?_ hlt hB ?_
 ·simp only[maxLen];omega
 ·intro p w' g j _;have d:Own1 B e w' p (xs++ys):=by unfold Own1;rw[pT];exact g
  obtain⟨A,c,l⟩:=d.form;rw[pT]at l;subst l;exact h A c w' d ((Below.refl B w).grown j hB (fun k m=>(dP hown k m).1)) j
theorem Own1.empty {B:Nat}(w:World)(e:TypeId)(hB:B<=w.heap.size):Own1 B e (w.alloc (.cells #[] e)) (.slice (some ⟨w.heap.size,0,none⟩) 0 0) [] :=
 ⟨rfl,.inr ⟨w.heap.size,0,#[],rfl,hB,heap_alloc_new w _,pS _,by simp[maxLen],rfl,rfl⟩⟩
theorem Own1.ne {B B':Nat}{e e':TypeId}{w:World}{v v':Value}{xs ys:List Value}(h:Own1 B e w v xs)(h':Own1 B' e' w v' ys)(hne:e≠e'):∀k,v.ownBlock=some k->v'.ownBlock≠some k:=by
 intro k l j;rcases h.2 with ⟨rfl,_⟩|⟨g,q,r,rfl,_,t,_⟩
 ·simp[Value.ownBlock]at l
 rcases h'.2 with ⟨rfl,_⟩|⟨u,m,p,rfl,_,d,_⟩
 ·simp[Value.ownBlock]at j
 simp[Value.ownBlock]at l j;subst l;subst j;rw[t]at d;simp at d;exact hne d.2
theorem Own1.other {B:Nat}{e:TypeId}{w w':World}{v:Value}{xs:List Value}{row:Option Nat}(h:Own1 B e w v xs)(g:w.grownBy w' row)(hne:∀k,v.ownBlock=some k->row≠some k):Own1 B e w' v xs:=ma h g hne
def Tab1 (B:Nat)(e:TypeId)(w:World)(us:List Value)(t:List (List Int)):Prop :=
 us.length=t.length/\∀(j:Nat)(l:List Int),t[j]?=some l->∃u,us[j]?=some u/\Own1 B e w u (l.map (Value.int .i64))/\l.length<=17592186044416
theorem Tab1.nil (B:Nat)(e:TypeId)(w:World):Tab1 B e w [] []:=⟨rfl,fun j l h=>by simp at h⟩
theorem Tab1.gr {B:Nat}{e:TypeId}{w w':World}{us:List Value}{t:List (List Int)}(h:Tab1 B e w us t)(g:Gr w w'):Tab1 B e w' us t :=
 ⟨h.1,fun j l d=>by obtain⟨u,h1,h2,h3⟩:=h.2 j l d;exact⟨u,h1,h2.gr g,h3⟩⟩
theorem Tab1.grown {B B':Nat}{e e':TypeId}{w w':World}{us:List Value}{t:List (List Int)}{v:Value}{xs:List Value}(h:Tab1 B e w us t)(hv:Own1 B' e' w v xs)(hne:e≠e')(g:w.grownBy w' v.ownBlock):Tab1 B e w' us t :=
 ⟨h.1,fun j l m=>by obtain⟨u,h1,h2,h3⟩:=h.2 j l m;exact⟨u,h1,h2.other g (fun k d=>h2.ne hv hne k d),h3⟩⟩
theorem Tab1.snoc {B:Nat}{e:TypeId}{w:World}{us:List Value}{t:List (List Int)}{u:Value}{l:List Int}(h:Tab1 B e w us t)(hu:Own1 B e w u (l.map (Value.int .i64)))(hl:l.length<=17592186044416):Tab1 B e w (us++[u]) (t++[l]):=by
 refine⟨by simp[h.1],fun j m d=>?_⟩;rcases Nat.lt_trichotomy j t.length with g|g|g
 ·rw[pl g]at d;rw[pl (by rw[h.1];exact g)];exact h.2 j m d
 ·subst g;simp at d;subst d;exact⟨u,by rw[<-h.1];simp,hu,hl⟩
 ·rw[pr (by simp;omega)]at d;cases d
theorem Tab1.tab {B B':Nat}{e e':TypeId}{w:World}{us:List Value}{t:List (List Int)}{v:Value}(h:Tab1 B e w us t)(hv:Own1 B' e' w v us)(hn:t.length<=17592186044416):TabAt w.heap.size w v t :=
 nV (by have:=hv;unfold Own1 at this;rwa [h.1]at this) hn (fun j l d=>by obtain⟨u,h1,h2,h3⟩:=h.2 j l d;exact⟨u,h1,h2.ints h3⟩)
theorem oF {P:Program}{w:World}{ops:Array Oper}{rest:List Oper}{o:Oper}{a:Act}{Q:Exit->Act->World->Prop}{B:Nat}{t e:TypeId}{i:TypeInfo}{z:Value}
  (ht:P.underlying t=some (.slice e)) (hi:P.info? e=some i) (hz:i.zero=some z) (hsize:i.size=1) (hby:i.bytes=8) (hzs:z.cells.size=1)
  (hgd:o.guard=none) (s x:Operand) (ho:o.op=.call {callee:=.builtin .append,args:=#[s,x],argTypes:=#[t,t]})
  {v:Value} {xs:List Value} (hs:a.eval s=v) (hown:Own1 B e w v xs) {C:Nat} {u:Value} {ys:List Int} (hu:Hid (IntsAt C w u ys)) (hx:a.eval x=u)
  (hlt:xs.length+ys.length<=17592186044416) (hB:B<=w.heap.size)
  (h:∀A c w',Own1 B e w' (.slice A (xs.length+ys.length) c) (xs++ys.map (Value.int .i64))->Below B w w'->w.grownBy w' v.ownBlock->wpList P ops Q rest (a.put o.dst (.slice A (xs.length+ys.length) c)) w') :
  wpList P ops Q (o::rest) a w:=by
 have d:(ys.map (Value.int .i64)).length=ys.length:=pv _;refine oL ht hi hz hsize hby hzs hgd s x ho hs hown (ys:=ys.map (Value.int .i64)) (jI _ _) hx (by rw[d];exact Src.ints hu.out) (by rw[d];exact hlt) (by rw[d];omega) hB ?_;rw[d];exact h
theorem nZ {P:Program}{w:World}{o:Oper}{a:Act}{K:Act->World->Prop}{Q:Exit->Act->World->Prop}{B:Nat}{t e:TypeId}{i:TypeInfo}{z:Value}{bytes:Nat}
  (ht:P.underlying t=some (.slice e)) (hi:P.info? e=some i) (hz:i.zero=some z) (hsize:i.size=1) (hby:i.bytes=bytes) (hzs:z.cells.size=1) (hbb:bytes<=128)
  (s x:Operand) (ho:o.op=.call {callee:=.builtin .append,args:=#[s,x],argTypes:=#[t,t]})
  {v:Value} {xs:List Value} (hs:a.eval s=v) (hown:Own1 B e w v xs) {y:Value} {e':TypeId} (hy:y.oneCell'=true) (hx:a.eval x=.slice (some ⟨w.heap.size,0,none⟩) 1 1) (hlt:xs.length<1099511627776) (hB:B<=w.heap.size)
  (h:∀A c w',Own1 B e w' (.slice A (xs.length+1) c) (xs++[y])->Below B w w'->(w.alloc (.cells #[y] e')).grownBy w' v.ownBlock->K (a.put o.dst (.slice A (xs.length+1) c)) w') :
  o.wp P a (w.alloc (.cells #[y] e')) K Q:=by
 refine dT s x t ho B e i z 1 bytes ht hi hz hsize hby hzs (by omega) v xs.length xs hs (eT hown ((qj _).alloc _)) _ 1 [y] hx (qk _ _ _) ?_ ?_ ?_ ?_ ?_
 ·intro u l;simp at l;subst l;exact hy
 ·simp only[maxLen];omega
 ·have:(xs.length+1)*bytes<=(xs.length+1)*128:=Nat.mul_le_mul_left _ hbb;omega
 ·simp;omega
 ·intro q w' g j _;have d:Own1 B e w' q (xs++[y]):=by unfold Own1;rw[pT];exact g
  obtain⟨A,c,m⟩:=d.form;rw[pT]at m;subst m;refine h A c w' d ?_ j;refine(((Below.refl B w).alloc hB _)).grown j (by simp;omega) (fun k p=>(dP hown k p).1)
theorem mE {P:Program}{w:World}{ops:Array Oper}{o:Oper}{a:Act}{K:Act->World->Prop}{Q:Exit->Act->World->Prop}{F:Prop}{B:Nat}{t e:TypeId}{i:TypeInfo}{z:Value}{bytes:Nat}
  (ht:P.underlying t=some (.slice e)) (hi:P.info? e=some i) (hz:i.zero=some z) (hsize:i.size=1) (hby:i.bytes=bytes) (hzs:z.cells.size=1) (hbb:bytes<=128)
  (hgd:o.guard=none) (s x:Operand) (ho:o.op=.call {callee:=.builtin .append,args:=#[s,x],argTypes:=#[t,t]})
  {v:Value} {xs:List Value} (hs:a.eval s=v) (hown:Own1 B e w v xs) {y:Value} {e':TypeId} (hy:y.oneCell'=true) (hx:a.eval x=.slice (some ⟨w.heap.size,0,none⟩) 1 1) (hlt:xs.length<1099511627776) (hB:B<=w.heap.size)
  (h:∀A c w',Own1 B e w' (.slice A (xs.length+1) c) (xs++[y])->Below B w w'->(w.alloc (.cells #[y] e')).grownBy w' v.ownBlock->K (a.put o.dst (.slice A (xs.length+1) c)) w') :
  if Region.wanted o (yielded ops a.tmps)=true then Oper.wp P o a (w.alloc (.cells #[y] e')) K Q else F:=by
 have d:Region.wanted o (yielded ops a.tmps)=true:=by simp[Region.wanted,hgd]
 rw[pB d];exact nZ ht hi hz hsize hby hzs hbb s x ho hs hown hy hx hlt hB h
end
