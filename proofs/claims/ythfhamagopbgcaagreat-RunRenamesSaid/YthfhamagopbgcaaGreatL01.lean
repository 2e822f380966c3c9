/- Parts. -/
import Derived.Test.YthfhamagopbgcaaGreatL00
import Derived.WalkKit
import Derived.WalkSpells
import Derived.WalkLawsBesides
import Derived.Deep.Draws
import Derived.Maps.AppendAt
import Derived.Deep.RegionHeld3
set_option linter.unusedSimpArgs false
set_option linter.unusedVariables false
set_option maxRecDepth 100000
set_option maxHeartbeats 16000000
namespace Go.Proofs.YthfhamagopbgcaaGreat
section
open Go.RowKit
structure Ins where
 op:Int
 width:Int
 flags:Int
 args:List Int
 imm:Int
 to:List Int
 deriving Inhabited,DecidableEq
structure Fn where
 params:List Int
 ret:Int
 slots:List Int
 blocks:List (List Ins)
 deriving Inhabited,DecidableEq
def SlAt (B:Nat)(v:Value)(n:Nat)(R:Nat->Nat->Prop):Prop :=
 ∃A cap,v=.slice A n cap/\n<=cap/\n<=17592186044416/\(0<n->∃b off,A=some ⟨b,off,none⟩/\b<B/\R b off)
def IntsAt (B:Nat)(w:World)(v:Value)(zs:List Int):Prop :=
 SlAt B v zs.length fun b off=>∀j z,zs[j]?=some z->w.cell? ⟨b,off+j,none⟩=some (.int .i64 z)
def InsAt (B:Nat)(w:World)(b off:Nat)(x:Ins):Prop :=
 ∃va vt,w.cell? ⟨b,off,none⟩=some (.int .i64 x.op)/\w.cell? ⟨b,off+1,none⟩=some (.int .i64 x.width)/\w.cell? ⟨b,off+2,none⟩=some (.int .i64 x.flags) /\
  w.cell? ⟨b,off+3,none⟩=some va/\w.cell? ⟨b,off+4,none⟩=some (.int .u32 x.imm)/\w.cell? ⟨b,off+5,none⟩=some vt/\IntsAt B w va x.args/\IntsAt B w vt x.to
def BlkAt (B:Nat)(w:World)(v:Value)(l:List Ins):Prop :=
 SlAt B v l.length fun b off=>∀j x,l[j]?=some x->InsAt B w b (off+j*6) x
def BlksAt (B:Nat)(w:World)(v:Value)(bs:List (List Ins)):Prop :=
 SlAt B v bs.length fun b off=>∀j l,bs[j]?=some l->∃u,w.cell? ⟨b,off+j,none⟩=some u/\BlkAt B w u l
def FnAt (B:Nat)(w:World)(v:Value)(f:Fn):Prop :=
 ∃vp vs vb,v=.agg #[vp,.int .i64 f.ret,vs,vb]/\IntsAt B w vp f.params/\IntsAt B w vs f.slots/\BlksAt B w vb f.blocks
section
variable {B:Nat}{w w':World}
theorem SlAt.imp {v:Value}{n:Nat}{R R':Nat->Nat->Prop}(h:SlAt B v n R)(hr:∀b off,b<B->R b off->R' b off):SlAt B v n R':=by obtain⟨A,d,rfl,j,l,m⟩:=h;refine⟨A,d,rfl,j,l,fun q=>?_⟩;obtain⟨b,off,e,g,p⟩:=m q;exact⟨b,off,e,g,hr b off g p⟩
theorem IntsAt.below {v:Value}{zs:List Int}(h:IntsAt B w v zs)(hb:Below B w w'):IntsAt B w' v zs :=
 SlAt.imp h fun b off d g j z l=>(hb.cell (p:=⟨b,off+j,none⟩) d).trans (g j z l)
theorem InsAt.below {b off:Nat}{x:Ins}(h:InsAt B w b off x)(hlt:b<B)(hb:Below B w w'):InsAt B w' b off x:=by
 obtain⟨va,vt,d,g,j,l,m,q,r,t⟩:=h
 exact⟨va,vt,(hb.cell (p:=⟨b,off,none⟩) hlt).trans d,(hb.cell (p:=⟨b,off+1,none⟩) hlt).trans g,(hb.cell (p:=⟨b,off+2,none⟩) hlt).trans j,
   (hb.cell (p:=⟨b,off+3,none⟩) hlt).trans l,(hb.cell (p:=⟨b,off+4,none⟩) hlt).trans m,(hb.cell (p:=⟨b,off+5,none⟩) hlt).trans q,r.below hb,t.below hb⟩
theorem BlkAt.below {v:Value}{l:List Ins}(h:BlkAt B w v l)(hb:Below B w w'):BlkAt B w' v l :=
 SlAt.imp h fun _ _ d g j x m=>(g j x m).below d hb
theorem BlksAt.below {v:Value}{bs:List (List Ins)}(h:BlksAt B w v bs)(hb:Below B w w'):BlksAt B w' v bs :=
 SlAt.imp h fun b off g m j l hl=>by obtain⟨u,q,d⟩:=m j l hl;exact⟨u,(hb.cell (p:=⟨b,off+j,none⟩) g).trans q,d.below hb⟩
theorem FnAt.below {v:Value}{f:Fn}(h:FnAt B w v f)(hb:Below B w w'):FnAt B w' v f:=by obtain⟨vp,vs,vb,rfl,d,g,j⟩:=h;exact⟨vp,vs,vb,rfl,d.below hb,g.below hb,j.below hb⟩
theorem SlAt.mono {B':Nat}{v:Value}{n:Nat}{R:Nat->Nat->Prop}(h:SlAt B v n R)(hB:B<=B'):SlAt B' v n R:=by obtain⟨A,d,rfl,g,j,l⟩:=h;refine⟨A,d,rfl,g,j,fun p=>?_⟩;obtain⟨b,off,e,q,m⟩:=l p;exact⟨b,off,e,by omega,m⟩
theorem IntsAt.mono {B':Nat}{v:Value}{zs:List Int}(h:IntsAt B w v zs)(hB:B<=B'):IntsAt B' w v zs:=SlAt.mono h hB
theorem InsAt.mono {B' b off:Nat}{x:Ins}(h:InsAt B w b off x)(hB:B<=B'):InsAt B' w b off x:=by obtain⟨va,vt,d,g,j,l,m,p,q,r⟩:=h;exact⟨va,vt,d,g,j,l,m,p,q.mono hB,r.mono hB⟩
theorem BlkAt.mono {B':Nat}{v:Value}{l:List Ins}(h:BlkAt B w v l)(hB:B<=B'):BlkAt B' w v l :=
 SlAt.mono (SlAt.imp h fun _ _ _ d j x g=>(d j x g).mono hB) hB
theorem BlksAt.mono {B':Nat}{v:Value}{bs:List (List Ins)}(h:BlksAt B w v bs)(hB:B<=B'):BlksAt B' w v bs :=
 SlAt.mono (SlAt.imp h fun _ _ _ g j l hl=>by
   obtain⟨u,m,d⟩:=g j l hl
   exact⟨u,m,d.mono hB⟩) hB
theorem FnAt.mono {B':Nat}{v:Value}{f:Fn}(h:FnAt B w v f)(hB:B<=B'):FnAt B' w v f:=by obtain⟨vp,vs,vb,rfl,d,g,j⟩:=h;exact⟨vp,vs,vb,rfl,d.mono hB,g.mono hB,j.mono hB⟩
end
theorem dq {α:Type}{l:List α}{k:Nat}{x:α}{r:List α}(h:l.drop k=x::r):k<l.length/\l[k]?=some x/\l.drop (k+1)=r:=by
 have g:k<l.length:=by
  rcases wh k l.length with d|d
  ·exact d
  ·rw[vQ d]at h;cases h
 rw[vM g]at h;injection h with d j;exact⟨g,by rw[vu g,d],j⟩
theorem dv {α:Type}{l:List α}{k:Nat}(h:l.drop k=[])(hk:k<=l.length):k=l.length:=by have:=List.drop_eq_nil_iff.1 h;omega
end
section
namespace Ref
def isWidth (n:Int):Bool:=decide (1<=n) && decide (n<=32)
def isWordOf (n x:Int):Bool:=isWidth n && decide (x<2 ^ n.toNat)
def isLast (op:Int):Bool:=decide (op=29) || decide (op=30) || decide (op=31) || decide (op=32)
def plain0 (fl im:Int):Bool:=decide (fl=0) && decide (im=0)
def plain (x:Ins):Bool:=plain0 x.flags x.imm
def arith0 (op fl:Int):Bool :=
 if op=1\/op=2\/op=3\/op=11 then decide (0<=fl) && decide (fl<=3)
 else if op=4\/op=6\/op=12\/op=13 then decide (fl=0) || decide (fl=4)
 else decide (fl=0)
def arith (x:Ins):Bool:=arith0 x.op x.flags
def has (l:List Int)(n:Int):Bool:=l.any fun z=>decide (z=n)
def sameInts:List Int->List Int->Bool
 | [],[]=>true
 | a::azs,b::bs=>decide (a=b) && sameInts azs bs
 | _,_=>false
def total (bs:List (List Ins)):Nat:=(bs.map List.length).sum
def number (f:Fn)(k:Nat):Nat:=f.params.length+total (f.blocks.take k)
def count (f:Fn):Nat:=number f f.blocks.length
def whereFrom (v:Int):List (List Ins)->Nat->Nat->Int × Int
 | [],_,_=>(-1,-1)
 | l::r,b,n=>if (n:Int)<=v/\v<n+l.length then (b,v-n) else whereFrom v r (b+1) (n+l.length)
def whereIs (f:Fn)(v:Int):Int × Int:=whereFrom v f.blocks 0 f.params.length
def insAt? (f:Fn)(b i:Int):Option Ins:=(f.blocks[b.toNat]?).bind fun l=>l[i.toNat]?
def kind (f:Fn)(v:Int):Int :=
 if v<0\/(count f:Int)<=v then -1
 else if v<f.params.length then f.params.getD v.toNat 0
 else ((insAt? f (whereIs f v).1 (whereIs f v).2).map (·.width)).getD 0
def shape (f:Fn)(x:Ins):Int × Int × Bool :=
 if x.op=0 then (0,0,isWidth x.width && decide (x.flags=0) && isWordOf x.width x.imm)
 else if x.op=14 then (2,0,decide (x.width=1) && decide (x.flags=0) && decide (x.imm<=9))
 else if x.op=15 then (3,0,(isWidth x.width || decide (x.width=33)) && plain x)
 else if x.op=16\/x.op=17\/x.op=18\/x.op=21 then (1,0,isWidth x.width && plain x)
 else if x.op=19\/x.op=20 then (2,0,isWidth x.width && decide (x.flags=0) && decide (1<=x.imm) && decide (x.imm<x.width) && decide (x.width%x.imm=0))
 else if x.op=22\/x.op=23 then (0,0,isWidth x.width && plain x)
 else if x.op=24 then (0,0,decide (x.width=33) && decide (x.flags=0) && decide (x.imm<f.slots.length))
 else if x.op=25 then (2,0,decide (x.width=33) && decide (x.imm=0) && (decide (x.flags=0) || decide (x.flags=8)))
 else if x.op=26 then (1,0,(decide (x.width=8) || decide (x.width=16) || decide (x.width=32)) && plain x)
 else if x.op=27 then (2,0,decide (x.width=0) && plain x)
 else if x.op=28 then (-1,-1,(isWidth x.width || decide (x.width=33)) && plain x && decide (0<x.args.length))
 else if x.op=29 then (0,1,decide (x.width=0) && plain x)
 else if x.op=30 then (1,2,decide (x.width=0) && plain x)
 else if x.op=31 then (if 0<f.ret then 1 else 0,0,decide (x.width=0) && plain x)
 else if x.op=32 then (0,0,decide (x.width=0) && plain x)
 else if 1<=x.op/\x.op<=13 then (2,0,isWidth x.width && decide (x.imm=0) && arith x)
 else (0,0,false)
def counts (s:Int × Int × Bool)(x:Ins):Bool :=
 !(decide (0<=s.1) && decide ((x.args.length:Int)≠s.1) || decide (s.1<0) && decide (x.args.length≠x.to.length) || decide (0<=s.2.1) && decide ((x.to.length:Int)≠s.2.1))
def argument (f:Fn)(x:Ins):Bool :=
 (shape f x).2.2 && counts (shape f x) x && x.to.all (fun z=>decide (0<=z) && decide (z<f.blocks.length)) && (decide (x.op≠30) || decide (x.to.getD 0 0≠x.to.getD 1 0))
def graph (f:Fn):List (List Int):=f.blocks.map fun l=>(l.getLast?.map (·.to)).getD []
def beforeFrom (v:Int):List (List Int)->Nat->List Int
 | [],_=>[]
 | l::r,b=>if has l v then (b:Int)::beforeFrom v r (b+1) else beforeFrom v r (b+1)
def before (g:List (List Int))(v:Int):List Int:=beforeFrom v g 0
def laidFrom:List Ins->Bool->Bool
 | [],_=>true
 | x::r,prev=>(isLast x.op == r.isEmpty) && (decide (x.op≠28) || prev) && laidFrom r (decide (x.op=28))
def laid (l:List Ins):Bool:=!l.isEmpty && laidFrom l true
def phisFrom (g:List (List Int)):List (List Ins)->Nat->Bool
 | [],_=>true
 | l::r,b=>l.all (fun x=>decide (x.op≠28) || sameInts x.to (before g b)) && phisFrom g r (b+1)
def rules (f:Fn):Bool:=f.blocks.all laid && (before (graph f) 0).isEmpty && phisFrom (graph f) f.blocks 0
def isMem (k:Int):Bool:=decide (k=8) || decide (k=16) || decide (k=32)
def typedKinds (f:Fn)(x:Ins)(k:List Int):Bool :=
 if x.op=14 then isWidth (k.getD 0 0) && decide (k.getD 1 0=k.getD 0 0)
 else if x.op=15 then decide (k.getD 0 0=1) && decide (k.getD 1 0=x.width) && decide (k.getD 2 0=x.width)
 else if x.op=16\/x.op=17 then isWidth (k.getD 0 0) && decide (k.getD 0 0<x.width)
 else if x.op=18 then isWidth (k.getD 0 0) && decide (x.width<k.getD 0 0)
 else if x.op=25 then decide (k.getD 0 0=33) && isWidth (k.getD 1 0)
 else if x.op=26 then decide (k.getD 0 0=33)
 else if x.op=27 then decide (k.getD 0 0=33) && isMem (k.getD 1 0)
 else if x.op=30 then decide (k.getD 0 0=1)
 else if x.op=31 then decide (k.length=0) || decide (k.getD 0 0=f.ret)
 else k.all fun z=>decide (z=x.width)
def typed (f:Fn)(x:Ins):Bool:=x.args.all (fun v=>decide (0<=kind f v)) && typedKinds f x (x.args.map (kind f))
def spreadEdge (without:Int)(out:List Bool)(t:Int):List Bool:=if t=without then out else out.set t.toNat true
def spreadBlock (without:Int)(g:List (List Int))(out:List Bool)(b:Nat):List Bool:=if out.getD b false then (g.getD b []).foldl (spreadEdge without) out else out
def spreadRound (without:Int)(g:List (List Int))(out:List Bool):List Bool:=(List.range g.length).foldl (spreadBlock without g) out
def spread (without:Int)(g:List (List Int)):Nat->List Bool->List Bool
 | 0,out=>out
 | n+1,out=>spread without g n (spreadRound without g out)
def reached (g:List (List Int))(without:Int):List Bool :=
 if without=0 then List.replicate g.length false else spread without g g.length ((List.replicate g.length false).set 0 true)
def dominates (g:List (List Int))(a b:Int):Bool:=decide (a=b) || !(reached g a).getD b.toNat false
def there (f:Fn)(g:List (List Int))(v block place:Int):Bool :=
 if (whereIs f v).1<0 then true
 else if (whereIs f v).1=block then decide (place<0) || decide ((whereIs f v).2<place)
 else dominates g (whereIs f v).1 block
def argOk (f:Fn)(g:List (List Int))(inn:List Bool)(b i:Nat)(x:Ins)(v t:Int):Bool :=
 if x.op=28 then !inn.getD t.toNat false || there f g v t (-1) else there f g v b i
def argsFrom (f:Fn)(g:List (List Int))(inn:List Bool)(b i:Nat)(x:Ins):List Int->Nat->Bool
 | [],_=>true
 | v::r,k=>argOk f g inn b i x v (x.to.getD k 0) && argsFrom f g inn b i x r (k+1)
def insFrom (f:Fn)(g:List (List Int))(inn:List Bool)(b:Nat):List Ins->Nat->Bool
 | [],_=>true
 | x::r,i=>argsFrom f g inn b i x x.args 0 && insFrom f g inn b r (i+1)
def blksFrom (f:Fn)(g:List (List Int))(inn:List Bool):List (List Ins)->Nat->Bool
 | [],_=>true
 | l::r,b=>(!inn.getD b false || insFrom f g inn b l 0) && blksFrom f g inn r (b+1)
def stated (f:Fn):Bool:=blksFrom f (graph f) (reached (graph f) (-1)) f.blocks 0
def isSlot (n:Int):Bool:=decide (1<=n) && decide (n<=8)
def validate (f:Fn):Int :=
 if 3<f.params.length\/2<f.slots.length\/f.blocks.length<1\/10<f.blocks.length then 3
 else if 40<total f.blocks then 3
 else if f.ret<0\/32<f.ret then 1
 else if f.params.all isWidth=false then 1
 else if f.slots.all isSlot=false then 1
 else if f.blocks.all (fun l=>l.all (argument f))=false then 1
 else if rules f=false then 7
 else if f.blocks.all (fun l=>l.all (typed f))=false then 6
 else if stated f=false then 9
 else 0
theorem sameInts_eq:∀(a b:List Int),sameInts a b=decide (a=b)
 | [],[]=>by simp[sameInts]
 | [],_::_=>by simp[sameInts]
 | _::_,[]=>by simp[sameInts]
 | a::azs,b::bs=>by
  rw[sameInts,sameInts_eq azs bs]
  by_cases h:a=b<;>by_cases h2:azs=bs<;>simp[h,h2]
theorem total_cons (l:List Ins)(r:List (List Ins)):total (l::r)=l.length+total r:=by simp[total]
theorem total_take_succ (bs:List (List Ins))(k:Nat)(l:List Ins)(h:bs[k]?=some l):total (bs.take (k+1))=total (bs.take k)+l.length:=by obtain⟨d,e⟩:=yC.1 h;subst e;unfold total;rw[wi d,List.map_append,List.sum_append];simp
theorem whereFrom_some (v:Int):∀(bs:List (List Ins))(b n:Nat),(n:Int)<=v->v<(n+total bs:Nat) ->
  ∃(j i:Nat)(l:List Ins)(x:Ins),whereFrom v bs b n=(((b+j:Nat):Int),(i:Int))/\bs[j]?=some l/\l[i]?=some x/\v=n+total (bs.take j)+i
 | [],b,n,h1,h2=>by simp[total]at h2;omega
 | l::r,b,n,h1,h2=>by
  rw[total_cons]at h2
  by_cases h:v<n+l.length
  ·refine⟨0,(v-n).toNat,l,l[(v-n).toNat]'(by omega),?_,rfl,by simp,by simp[total];omega⟩
   rw[whereFrom,wa ⟨h1,h⟩]
   simp;omega
  ·obtain⟨j,i,p,x,d,g,m,q⟩:=whereFrom_some v r (b+1) (n+l.length) (by omega) (by omega)
   refine⟨j+1,i,p,x,?_,by simpa using g,m,?_⟩
   ·rw[whereFrom,yD (by omega),d];rw[show b+1+j=b+(j+1) by omega]
   ·rw[wt,total_cons];omega
theorem whereIs_some (f:Fn)(v:Int)(h1:(f.params.length:Int)<=v)(h2:v<count f) :
  ∃(j i:Nat)(l:List Ins)(x:Ins),whereIs f v=((j:Int),(i:Int))/\f.blocks[j]?=some l/\l[i]?=some x/\v=f.params.length+total (f.blocks.take j)+i:=by
 obtain⟨j,i,l,x,d,g,m,p⟩:=whereFrom_some v f.blocks 0 f.params.length h1 (by unfold count number at h2;rw[wg]at h2;exact h2);exact⟨j,i,l,x,by rw[whereIs,d];simp,g,m,p⟩
theorem whereFrom_none (v:Int):∀(bs:List (List Ins))(b n:Nat),v<n->whereFrom v bs b n=(-1,-1)
 | [],b,n,h=>rfl
 | l::r,b,n,h=>by rw[whereFrom,yD (by omega)];exact whereFrom_none v r (b+1) (n+l.length) (by omega)
end Ref
end
section
open Go.RowKit
def Gr (w w':World):Prop:=Below w.heap.size w w'
section
variable {w a b c:World}
abbrev C6 (u:World)(k:Nat)(a b c d e f:Value):Prop:=u.cell? ⟨k,0,none⟩=some a/\u.cell? ⟨k,1,none⟩=some b/\u.cell? ⟨k,2,none⟩=some c/\u.cell? ⟨k,3,none⟩=some d/\u.cell? ⟨k+1,0,none⟩=some e/\u.cell? ⟨k+1,1,none⟩=some f
abbrev RG (v:Value)(w:World)(e:Ending)(w':World):Prop:=e=.returned v/\Gr w w'
abbrev RS (v:Value)(w:World)(e:Ending)(w':World):Prop:=e=.returned v/\w=w'
abbrev RT (v:Value)(w:World)(e:Ending)(w':World):Prop:=e=.returned v/\w'=w
theorem wL (w:World):Gr w w:=Below.refl _ _
theorem Gr.size (h:Gr a b):a.heap.size<=b.heap.size:=Below.size h
theorem Gr.trans (h:Gr a b)(k:Gr b c):Gr a c:=Below.trans h (Below.mono k h.size)
theorem Gr.alloc (h:Gr w a)(o:Obj):Gr w (a.alloc o):=Below.alloc h h.size o
theorem Gr.drew (h:Gr w a):Gr w a.drew:=Below.drew h
theorem Gr.drewN (h:Gr w a)(n:Nat):Gr w (a.drewN n):=⟨h.os,h.tape,h.output,h.size,h.block⟩
theorem Gr.setCell (h:Gr w a){p:Addr}(hp:w.heap.size<=p.block)(u:Value):Gr w (a.setCell p u):=Below.setCell h hp u
theorem Gr.grown {row:Option Nat}(h:Gr w a)(hg:a.grownBy b row)(hr:∀k,row=some k->w.heap.size<=k):Gr w b:=Below.grown h hg h.size hr
theorem Gr.cell (h:Gr a b):∀k o,k<a.heap.size->b.cell? ⟨k,o,none⟩=a.cell? ⟨k,o,none⟩:=fun k o d=>Below.cell (p:=⟨k,o,none⟩) h d
theorem Gr.frozen (h:Gr a b):∀k o,k<a.heap.size->b.frozen? ⟨k,o,none⟩=a.frozen? ⟨k,o,none⟩:=fun k o d=>Below.frozen (p:=⟨k,o,none⟩) h d
theorem Gr.heap (h:Gr a b):∀k,k<a.heap.size->b.heap[k]?=a.heap[k]?:=fun k d=>h.block k d
theorem IntsAt.gr {v:Value}{zs:List Int}(h:IntsAt a.heap.size a v zs)(g:Gr a b):IntsAt b.heap.size b v zs:=(h.below g).mono g.size
theorem BlkAt.gr {v:Value}{l:List Ins}(h:BlkAt a.heap.size a v l)(g:Gr a b):BlkAt b.heap.size b v l:=(h.below g).mono g.size
theorem BlksAt.gr {v:Value}{l:List (List Ins)}(h:BlksAt a.heap.size a v l)(g:Gr a b):BlksAt b.heap.size b v l:=(h.below g).mono g.size
theorem FnAt.gr {v:Value}{f:Fn}(h:FnAt a.heap.size a v f)(g:Gr a b):FnAt b.heap.size b v f:=(h.below g).mono g.size
end
theorem cZ {a b:Bool}(h:a=b):Ending.returned (.bool a)=.returned (.bool b):=by rw[h]
theorem de {k:IntKind}{a b:Int}(h:a=b):Ending.returned (.int k a)=.returned (.int k b):=by rw[h]
theorem dB {a b:Value}(h:a=b):Ending.returned a=.returned b:=by rw[h]
def df (x:Ins)(va vt:Value):Value:=.agg #[.int .i64 x.op,.int .i64 x.width,.int .i64 x.flags,va,.int .u32 x.imm,vt]
def ud (B:Nat)(w:World)(v:Value)(x:Ins):Prop:=∃va vt,v=df x va vt/\IntsAt B w va x.args/\IntsAt B w vt x.to
def TabAt (B:Nat)(w:World)(v:Value)(t:List (List Int)):Prop :=
 SlAt B v t.length fun b off=>∀j l,t[j]?=some l->∃u,w.cell? ⟨b,off+j,none⟩=some u/\IntsAt B w u l
theorem TabAt.below {B:Nat}{w w':World}{v:Value}{t:List (List Int)}(h:TabAt B w v t)(hb:Below B w w'):TabAt B w' v t :=
 SlAt.imp h fun b off g m j l hl=>by obtain⟨u,q,d⟩:=m j l hl;exact⟨u,(hb.cell (p:=⟨b,off+j,none⟩) g).trans q,d.below hb⟩
theorem TabAt.mono {B B':Nat}{w:World}{v:Value}{t:List (List Int)}(h:TabAt B w v t)(hB:B<=B'):TabAt B' w v t :=
 SlAt.mono (SlAt.imp h fun _ _ _ g j l hl=>by
   obtain⟨u,m,d⟩:=g j l hl
   exact⟨u,m,d.mono hB⟩) hB
theorem TabAt.gr {a b:World}{v:Value}{l:List (List Int)}(h:TabAt a.heap.size a v l)(g:Gr a b):TabAt b.heap.size b v l:=(h.below g).mono g.size
def BoolsAt (B:Nat)(w:World)(v:Value)(bs:List Bool):Prop :=
 SlAt B v bs.length fun b off=>∀j z,bs[j]?=some z->w.cell? ⟨b,off+j,none⟩=some (.bool z)
theorem BoolsAt.below {B:Nat}{w w':World}{v:Value}{zs:List Bool}(h:BoolsAt B w v zs)(hb:Below B w w'):BoolsAt B w' v zs :=
 SlAt.imp h fun b off d g j z l=>(hb.cell (p:=⟨b,off+j,none⟩) d).trans (g j z l)
theorem BoolsAt.mono {B B':Nat}{w:World}{v:Value}{zs:List Bool}(h:BoolsAt B w v zs)(hB:B<=B'):BoolsAt B' w v zs:=SlAt.mono h hB
theorem BoolsAt.gr {a b:World}{v:Value}{l:List Bool}(h:BoolsAt a.heap.size a v l)(g:Gr a b):BoolsAt b.heap.size b v l:=(h.below g).mono g.size
theorem dm {P:Program}{f:FuncId}{args:Array Value}{w:World}{n:Nat}{v:Value}
  (h:Calls P f args (w.drewN n) fun e w'=>e=.returned v/\w.drewN n=w'):Calls P f args (w.drewN n) fun e w''=>e=.returned v/\∃m,w''=w.drewN m :=
 h.mono fun _ _ ⟨d,g⟩=>⟨d,n,g.symm⟩
theorem eP (b o j:Nat):Addr.add ⟨b,o,none⟩ j=⟨b,o+j,none⟩:=by unfold Addr.add;split<;>simp_all
def Src (w:World)(u:Value)(size m:Nat)(news:List Value):Prop :=
 ∃A c,u=.slice A m c/\news.length=m*size/\(0<m->∃ad,A=some ad/\∀j x,news[j]?=some x->w.cell? (ad.add j)=some x)
section
variable {P:Program}{w:World}
theorem je (base:Nat)(t ty e:TypeId)(i:TypeInfo)(z:Value)(size bytes:Nat)(ht:P.underlying t=some (.slice e))(hi:P.info? e=some i)(hz:i.zero=some z)
  (hsize:i.size=size) (hby:i.bytes=bytes) (hzs:z.cells.size=size) (hsz:0<size) (v:Value) (n:Nat) (xs:List Value) (hown:w.ownsRow base e size v n xs)
  (u:Value) (m:Nat) (news:List Value) (hu:Src w u size m news) (h1:∀x∈news,x.oneCell'=true) (h63:n+m<=maxLen) (hbytes:(n+m)*bytes<=140737488355328) (hbase:base<=w.heap.size) :
  ∃v' w',(Builtin.append_ #[t,t] ty #[v,u]).run P w=.ok v' w'/\w'.ownsRow base e size v' (n+m) (xs++news)/\w.grownBy w' v.ownBlock/\(v'.ownBlock=v.ownBlock\/v'.ownBlock=some w.heap.size):=by
 obtain⟨A,c,rfl,hlen,d⟩:=hu
 cases A with
 | none =>
  have I:m=0:=by
   rcases Nat.eq_zero_or_pos m with h|h
   ·exact h
   ·obtain⟨_,E,_⟩:=d h;cases E
  subst I;have p:news=[]:=wu (by simpa using hlen);subst p;refine⟨v,w,?_,by simpa using hown,World.grownBy.refl w _,.inl rfl⟩;rcases hown.2 with ⟨rfl,rfl⟩|⟨g,B,C,rfl,_,_,q,_⟩
  ·simp[Builtin.append_,run_underlying ht,sizeOf,typeInfo,hi,Builtin.lenOf,Builtin.firstCells]
  ·simp[Builtin.append_,run_underlying ht,sizeOf,typeInfo,hi,Builtin.lenOf,Builtin.firstCells,q,storeCells]
 | some ad =>
  have l:∀j x,news[j]?=some x->w.cell? (ad.add j)=some x:=by
   intro j x r;rcases Nat.eq_zero_or_pos m with h|h
   ·subst h;have p:news=[]:=wu (by simpa using hlen);subst p;simp at r
   ·obtain⟨y,D,l⟩:=d h;cases D;exact l j x r
  obtain⟨v',w',J,F,G,_,H⟩:=run_append_own_at (P:=P) w base t ty e i z size bytes ht hi hz hsize hby hzs hsz v n xs hown ad m c news hlen l h1 h63 hbytes hbase;exact⟨v',w',J,F,G,H⟩
theorem eM {o:Oper}{a:Act}{K:Act->World->Prop}{Q:Exit->Act->World->Prop}(s x:Operand)(t:TypeId)
  (ho:o.op=.call {callee:=.builtin .append,args:=#[s,x],argTypes:=#[t,t]})
  (base:Nat) (e:TypeId) (i:TypeInfo) (z:Value) (size bytes:Nat) (ht:P.underlying t=some (.slice e)) (hi:P.info? e=some i) (hz:i.zero=some z)
  (hsize:i.size=size) (hby:i.bytes=bytes) (hzs:z.cells.size=size) (hsz:0<size) (v:Value) (n:Nat) (xs:List Value) (hs:a.eval s=v) (hown:w.ownsRow base e size v n xs)
  (u:Value) (m:Nat) (news:List Value) (hx:a.eval x=u) (hu:Src w u size m news) (h1:∀x∈news,x.oneCell'=true) (h63:n+m<=maxLen) (hbytes:(n+m)*bytes<=140737488355328) (hbase:base<=w.heap.size)
  (h:∀v' w',w'.ownsRow base e size v' (n+m) (xs++news)->w.grownBy w' v.ownBlock->(v'.ownBlock=v.ownBlock\/v'.ownBlock=some w.heap.size)->K (a.put o.dst v') w'):o.wp P a w K Q:=by
 obtain⟨v',w',l,d,g,j⟩:=je (P:=P) (w:=w) base t o.type e i z size bytes ht hi hz hsize hby hzs hsz v n xs hown u m news hu h1 h63 hbytes hbase;unfold Oper.wp execOp;simp only[ho,resolve,invoke,builtin,Sem.run_bind,Sem.run_pure,Result.andThen_ok,List.map_toArray,List.map_cons,List.map_nil,hs,hx,l];exact h v' w' d g j
theorem dG {ops:Array Oper}{rest:List Oper}{o:Oper}{a:Act}{Q:Exit->Act->World->Prop}(hgd:o.guard=none)(s x:Operand)(t:TypeId)
  (ho:o.op=.call {callee:=.builtin .append,args:=#[s,x],argTypes:=#[t,t]})
  (base:Nat) (e:TypeId) (i:TypeInfo) (z:Value) (size bytes:Nat) (ht:P.underlying t=some (.slice e)) (hi:P.info? e=some i) (hz:i.zero=some z)
  (hsize:i.size=size) (hby:i.bytes=bytes) (hzs:z.cells.size=size) (hsz:0<size) (v:Value) (n:Nat) (xs:List Value) (hs:a.eval s=v) (hown:w.ownsRow base e size v n xs)
  (u:Value) (m:Nat) (news:List Value) (hx:a.eval x=u) (hu:Src w u size m news) (h1:∀x∈news,x.oneCell'=true) (h63:n+m<=maxLen) (hbytes:(n+m)*bytes<=140737488355328) (hbase:base<=w.heap.size)
  (h:∀v' w',w'.ownsRow base e size v' (n+m) (xs++news)->w.grownBy w' v.ownBlock->(v'.ownBlock=v.ownBlock\/v'.ownBlock=some w.heap.size)->wpList P ops Q rest (a.put o.dst v') w'):wpList P ops Q (o::rest) a w :=
 wpList_plain hgd fun _ d=>eM s x t ho base e i z size bytes ht hi hz hsize hby hzs hsz v n xs hs hown u m news hx hu h1 h63 hbytes hbase fun v' w' h2 h3 h5=>d _ _ (h v' w' h2 h3 h5)
end
section
variable {w w':World}{base:Nat}{e:TypeId}{size n:Nat}{v:Value}{xs:List Value}
theorem Src.ints {B:Nat}{u:Value}{zs:List Int}(h:IntsAt B w u zs):Src w u 1 zs.length (zs.map (Value.int .i64)):=by obtain⟨A,c,rfl,_,_,g⟩:=h;refine⟨A,c,rfl,by simp,fun m=>?_⟩;obtain⟨b,off,rfl,_,l⟩:=g m;refine⟨_,rfl,fun j x d=>?_⟩;rw[vH]at d;obtain⟨z,p,rfl⟩:=Option.map_eq_some_iff.1 d;rw[eP];exact l j z p
theorem wM (w:World)(x:Value)(t:TypeId):Src (w.alloc (.cells #[x] t)) (.slice (some ⟨w.heap.size,0,none⟩) 1 1) 1 1 [x]:=by
 refine⟨_,_,rfl,rfl,fun _=>⟨_,rfl,fun j y hy=>?_⟩⟩
 match j,hy with
 | 0,hy=>simp at hy;subst hy;simp[Addr.add]
theorem yG (w:World)(cs:List Value)(t:TypeId):Src (w.alloc (.cells cs.toArray t)) (.slice (some ⟨w.heap.size,0,none⟩) 1 1) cs.length 1 cs:=by refine⟨_,_,rfl,by simp,fun _=>⟨_,rfl,fun j y hy=>?_⟩⟩;have:=vX (w.alloc (.cells cs.toArray t)) w.heap.size j cs.toArray t (0,0) (heap_alloc_new w _);rw[eP,Nat.zero_add,this];simpa using hy
theorem iJ (k:IntKind)(zs:List Int):∀u∈zs.map (Value.int k),u.oneCell'=true:=by intro u d;obtain⟨z,_,rfl⟩:=List.mem_map.1 d;rfl
theorem dU (h:w.ownsRow base e size v n xs):∃A cap,v=.slice A n cap/\n<=cap/\(∀g,A=some g->base<=g.block/\g.block<w.heap.size/\g.off=0/\g.spot=none)/\(A=none->n=0):=by
 rcases h.2 with ⟨rfl,rfl⟩|⟨g,cap,d,rfl,j,l,m,_⟩
 ·exact⟨none,0,rfl,vV _,fun _ e=>(by cases e),fun _=>rfl⟩
 ·exact⟨_,cap,rfl,m,fun _ e=>(by cases e;exact⟨j,(vE.1 l).1,rfl,rfl⟩),fun e=>(by cases e)⟩
theorem dx (h:w.ownsRow base e size v n xs):∀k,v.ownBlock=some k->base<=k/\k<w.heap.size:=by
 intro k d;rcases h.2 with ⟨rfl,_⟩|⟨g,j,l,rfl,m,p,_⟩
 ·simp[Value.ownBlock]at d
 ·simp[Value.ownBlock]at d;subst d;exact⟨m,(vE.1 p).1⟩
theorem ew (h:w.ownsRow base e size v n xs)(g:Gr w w'):w'.ownsRow base e size v n xs:=by
 obtain⟨p,l⟩:=h;refine⟨p,?_⟩;rcases l with l|⟨k,d,j,hv,q,m,r⟩
 ·exact .inl l
 ·exact .inr ⟨k,d,j,hv,q,(g.heap k (vE.1 m).1).trans m,r⟩
theorem iK {row:Option Nat}(h:w.ownsRow base e size v n xs)(g:w.grownBy w' row)(hne:∀k,v.ownBlock=some k->row≠some k):w'.ownsRow base e size v n xs:=by
 obtain⟨q,l⟩:=h;refine⟨q,?_⟩;rcases l with l|⟨k,d,j,hv,t,m,r⟩
 ·exact .inl l
 ·exact .inr ⟨k,d,j,hv,t,(g.block k (vE.1 m).1 (fun p=>hne k (by rw[hv];rfl) p.symm)).trans m,r⟩
theorem dz (h:w.ownsRow base e size v n xs){A:Option Addr}{c:Nat}(hv:v=.slice A n c)(hn:0<n):∃b,A=some ⟨b,0,none⟩/\b<w.heap.size/\base<=b/\∀j,j<n*size->w.cell? ⟨b,j,none⟩=xs[j]?:=by
 subst hv;rcases h.2 with ⟨_,u⟩|⟨g,d,l,hv,q,r,_⟩
 ·omega
 ·injection hv with m y p;subst m;subst p;exact⟨g,rfl,(vE.1 r).1,q,fun j t=>World.ownsRow.cellAt h j t⟩
theorem rW {zs:List Int}(h:w.ownsRow base e 1 v zs.length (zs.map (Value.int .i64)))(hn:zs.length<=17592186044416):IntsAt w.heap.size w v zs:=by obtain⟨A,g,hv,p,_,_⟩:=dU h;refine⟨A,g,hv,p,hn,fun q=>?_⟩;obtain⟨b,rfl,m,_,d⟩:=dz h hv q;refine⟨b,0,rfl,m,fun j z l=>?_⟩;have r:j<zs.length:=(yC.1 l).1;rw[Nat.zero_add,d j (by omega),vH,l];rfl
theorem li {zs:List Bool}(h:w.ownsRow base e 1 v zs.length (zs.map Value.bool))(hn:zs.length<=17592186044416):BoolsAt w.heap.size w v zs:=by obtain⟨A,g,hv,p,_,_⟩:=dU h;refine⟨A,g,hv,p,hn,fun q=>?_⟩;obtain⟨b,rfl,m,_,d⟩:=dz h hv q;refine⟨b,0,rfl,m,fun j z l=>?_⟩;have r:j<zs.length:=(yC.1 l).1;rw[Nat.zero_add,d j (by omega),vH,l];rfl
theorem tD {us:List Value}{t:List (List Int)}(h:w.ownsRow base e 1 v t.length us)(hn:t.length<=17592186044416)
  (hu:∀(j:Nat)(l:List Int),t[j]?=some l->∃u,us[j]?=some u/\IntsAt w.heap.size w u l):TabAt w.heap.size w v t:=by
 obtain⟨A,g,hv,r,_,_⟩:=dU h;refine⟨A,g,hv,r,hn,fun y=>?_⟩;obtain⟨b,rfl,q,_,d⟩:=dz h hv y;refine⟨b,0,rfl,q,fun j l hl=>?_⟩;have z:j<t.length:=(yC.1 hl).1;obtain⟨u,m,p⟩:=hu j l hl;exact⟨u,by rw[Nat.zero_add,d j (by omega),m],p⟩
end
def Own1 (B:Nat)(e:TypeId)(w:World)(v:Value)(xs:List Value):Prop:=w.ownsRow B e 1 v xs.length xs
theorem Own1.nil (B:Nat)(e:TypeId)(w:World):Own1 B e w (.slice none 0 0) []:=World.ownsRow_nil _ _ _ _
theorem Own1.gr {B:Nat}{e:TypeId}{w w':World}{v:Value}{xs:List Value}(h:Own1 B e w v xs)(g:Gr w w'):Own1 B e w' v xs:=ew h g
theorem Own1.alloc {B:Nat}{e:TypeId}{w:World}{v:Value}{xs:List Value}(h:Own1 B e w v xs)(o:Obj):Own1 B e (w.alloc o) v xs:=ew h ((wL _).alloc o)
theorem Own1.form {B:Nat}{e:TypeId}{w:World}{v:Value}{xs:List Value}(h:Own1 B e w v xs):∃A c,v=.slice A xs.length c:=by obtain⟨A,c,hv,_⟩:=dU h;exact⟨A,c,hv⟩
theorem Own1.ints {B:Nat}{e:TypeId}{w:World}{v:Value}{zs:List Int}(h:Own1 B e w v (zs.map (Value.int .i64)))(hn:zs.length<=17592186044416):IntsAt w.heap.size w v zs :=
 rW (by have:=h;unfold Own1 at this;rwa [vS]at this) hn
theorem Own1.bools {B:Nat}{e:TypeId}{w:World}{v:Value}{zs:List Bool}(h:Own1 B e w v (zs.map Value.bool))(hn:zs.length<=17592186044416):BoolsAt w.heap.size w v zs :=
 li (by have:=h;unfold Own1 at this;rwa [vS]at this) hn
theorem Gr.below {w a b:World}{B:Nat}(h:Gr w a)(k:Below B a b)(hB:w.heap.size<=B):Gr w b:=Below.trans h (k.mono hB)
theorem tQ {P:Program}{w:World}{ops:Array Oper}{rest:List Oper}{o:Oper}{a:Act}{Q:Exit->Act->World->Prop}{B:Nat}{t e:TypeId}{i:TypeInfo}{z:Value}{bytes:Nat}
  (ht:P.underlying t=some (.slice e)) (hi:P.info? e=some i) (hz:i.zero=some z) (hsize:i.size=1) (hby:i.bytes=bytes) (hzs:z.cells.size=1) (hbb:bytes<=128)
  (hgd:o.guard=none) (s x:Operand) (ho:o.op=.call {callee:=.builtin .append,args:=#[s,x],argTypes:=#[t,t]})
  {v:Value} {xs:List Value} (hs:a.eval s=v) (hown:Own1 B e w v xs) {y:Value} {e':TypeId} (hy:y.oneCell'=true) (hx:a.eval x=.slice (some ⟨w.heap.size,0,none⟩) 1 1) (hlt:xs.length<1099511627776) (hB:B<=w.heap.size)
  (h:∀A c w',Own1 B e w' (.slice A (xs.length+1) c) (xs++[y])->Below B w w'->(w.alloc (.cells #[y] e')).grownBy w' v.ownBlock->wpList P ops Q rest (a.put o.dst (.slice A (xs.length+1) c)) w') :
  wpList P ops Q (o::rest) a (w.alloc (.cells #[y] e')):=by
 refine dG hgd s x t ho B e i z 1 bytes ht hi hz hsize hby hzs (by omega) v xs.length xs hs (ew hown ((wL _).alloc _)) _ 1 [y] hx (wM _ _ _) ?_ ?_ ?_ ?_ ?_
 ·intro u l;simp at l;subst l;exact hy
 ·simp only[maxLen];omega
 ·have:(xs.length+1)*bytes<=(xs.length+1)*128:=Nat.mul_le_mul_left _ hbb;omega
 ·simp;omega
 ·intro p w' g j _;have d:Own1 B e w' p (xs++[y]):=by unfold Own1;rw[vW];exact g
  obtain⟨A,c,hv⟩:=d.form;rw[vW]at hv;subst hv;refine h A c w' d ?_ j;refine(((Below.refl B w).alloc hB _)).grown j (by simp;omega) (fun k m=>(dx hown k m).1)
theorem uB {P:Program}{w:World}{ops:Array Oper}{rest:List Oper}{o:Oper}{a:Act}{Q:Exit->Act->World->Prop}{B:Nat}{t e:TypeId}{i:TypeInfo}{z:Value}{bytes:Nat}
  (ht:P.underlying t=some (.slice e)) (hi:P.info? e=some i) (hz:i.zero=some z) (hsize:i.size=1) (hby:i.bytes=bytes) (hzs:z.cells.size=1)
  (hgd:o.guard=none) (s x:Operand) (ho:o.op=.call {callee:=.builtin .append,args:=#[s,x],argTypes:=#[t,t]})
  {v:Value} {xs:List Value} (hs:a.eval s=v) (hown:Own1 B e w v xs) {u:Value} {ys:List Value} (hy:∀y∈ys,y.oneCell'=true) (hx:a.eval x=u) (hu:Src w u 1 ys.length ys)
  (h63:xs.length+ys.length<=17592186044416) (hlt:(xs.length+ys.length)*bytes<=140737488355328) (hB:B<=w.heap.size)
  (h:∀A c w',Own1 B e w' (.slice A (xs.length+ys.length) c) (xs++ys)->Below B w w'->w.grownBy w' v.ownBlock->wpList P ops Q rest (a.put o.dst (.slice A (xs.length+ys.length) c)) w') :
  wpList P ops Q (o::rest) a w:=by
 refine dG hgd s x t ho B e i z 1 bytes ht hi hz hsize hby hzs (by omega) v xs.length xs hs hown _ ys.length ys hx hu hy ?_ hlt hB ?_
 ·simp only[maxLen];omega
 ·intro m w' g j _;have d:Own1 B e w' m (xs++ys):=by unfold Own1;rw[vW];exact g
  obtain⟨A,c,hv⟩:=d.form;rw[vW]at hv;subst hv;exact h A c w' d ((Below.refl B w).grown j hB (fun k l=>(dx hown k l).1)) j
theorem wN {B:Nat}(w:World)(e:TypeId)(hB:B<=w.heap.size):Own1 B e (w.alloc (.cells #[] e)) (.slice (some ⟨w.heap.size,0,none⟩) 0 0) [] :=
 ⟨rfl,.inr ⟨w.heap.size,0,#[],rfl,hB,heap_alloc_new w _,vV _,by simp[maxLen],rfl,rfl⟩⟩
theorem Own1.ne {B B':Nat}{e e':TypeId}{w:World}{v v':Value}{xs ys:List Value}(h:Own1 B e w v xs)(h':Own1 B' e' w v' ys)(hne:e≠e'):∀k,v.ownBlock=some k->v'.ownBlock≠some k:=by
 intro k l j;rcases h.2 with ⟨rfl,_⟩|⟨g,q,r,rfl,_,t,_⟩
 ·simp[Value.ownBlock]at l
 rcases h'.2 with ⟨rfl,_⟩|⟨u,m,p,rfl,_,d,_⟩
 ·simp[Value.ownBlock]at j
 simp[Value.ownBlock]at l j;subst l;subst j;rw[t]at d;simp at d;exact hne d.2
theorem Own1.other {B:Nat}{e:TypeId}{w w':World}{v:Value}{xs:List Value}{row:Option Nat}(h:Own1 B e w v xs)(g:w.grownBy w' row)(hne:∀k,v.ownBlock=some k->row≠some k):Own1 B e w' v xs:=iK h g hne
def Tab1 (B:Nat)(e:TypeId)(w:World)(us:List Value)(t:List (List Int)):Prop :=
 us.length=t.length/\∀(j:Nat)(l:List Int),t[j]?=some l->∃u,us[j]?=some u/\Own1 B e w u (l.map (Value.int .i64))/\l.length<=17592186044416
theorem Tab1.nil (B:Nat)(e:TypeId)(w:World):Tab1 B e w [] []:=⟨rfl,fun j l h=>by simp at h⟩
theorem Tab1.gr {B:Nat}{e:TypeId}{w w':World}{us:List Value}{t:List (List Int)}(h:Tab1 B e w us t)(g:Gr w w'):Tab1 B e w' us t :=
 ⟨h.1,fun j l hl=>by obtain⟨u,h1,h2,h3⟩:=h.2 j l hl;exact⟨u,h1,h2.gr g,h3⟩⟩
theorem Tab1.grown {B B':Nat}{e e':TypeId}{w w':World}{us:List Value}{t:List (List Int)}{v:Value}{xs:List Value}(h:Tab1 B e w us t)(hv:Own1 B' e' w v xs)(hne:e≠e')(g:w.grownBy w' v.ownBlock):Tab1 B e w' us t :=
 ⟨h.1,fun j l hl=>by obtain⟨u,h1,h2,h3⟩:=h.2 j l hl;exact⟨u,h1,h2.other g (fun k d=>h2.ne hv hne k d),h3⟩⟩
theorem Tab1.snoc {B:Nat}{e:TypeId}{w:World}{us:List Value}{t:List (List Int)}{u:Value}{l:List Int}(h:Tab1 B e w us t)(hu:Own1 B e w u (l.map (Value.int .i64)))(hl:l.length<=17592186044416):Tab1 B e w (us++[u]) (t++[l]):=by
 refine⟨by simp[h.1],fun j m d=>?_⟩;rcases Nat.lt_trichotomy j t.length with g|g|g
 ·rw[vJ g]at d;rw[vJ (by rw[h.1];exact g)];exact h.2 j m d
 ·subst g;simp at d;subst d;exact⟨u,by rw[<-h.1];simp,hu,hl⟩
 ·rw[vP (by simp;omega)]at d;cases d
theorem Tab1.tab {B B':Nat}{e e':TypeId}{w:World}{us:List Value}{t:List (List Int)}{v:Value}(h:Tab1 B e w us t)(hv:Own1 B' e' w v us)(hn:t.length<=17592186044416):TabAt w.heap.size w v t :=
 tD (by have:=hv;unfold Own1 at this;rwa [h.1]at this) hn (fun j l hl=>by obtain⟨u,h1,h2,h3⟩:=h.2 j l hl;exact⟨u,h1,h2.ints h3⟩)
theorem yA {P:Program}{w:World}{ops:Array Oper}{rest:List Oper}{o:Oper}{a:Act}{Q:Exit->Act->World->Prop}{B:Nat}{t e:TypeId}{i:TypeInfo}{z:Value}
  (ht:P.underlying t=some (.slice e)) (hi:P.info? e=some i) (hz:i.zero=some z) (hsize:i.size=1) (hby:i.bytes=8) (hzs:z.cells.size=1)
  (hgd:o.guard=none) (s x:Operand) (ho:o.op=.call {callee:=.builtin .append,args:=#[s,x],argTypes:=#[t,t]})
  {v:Value} {xs:List Value} (hs:a.eval s=v) (hown:Own1 B e w v xs) {C:Nat} {u:Value} {ys:List Int} (hu:Hid (IntsAt C w u ys)) (hx:a.eval x=u)
  (hlt:xs.length+ys.length<=17592186044416) (hB:B<=w.heap.size)
  (h:∀A c w',Own1 B e w' (.slice A (xs.length+ys.length) c) (xs++ys.map (Value.int .i64))->Below B w w'->w.grownBy w' v.ownBlock->wpList P ops Q rest (a.put o.dst (.slice A (xs.length+ys.length) c)) w') :
  wpList P ops Q (o::rest) a w:=by
 have hl:(ys.map (Value.int .i64)).length=ys.length:=vS _;refine uB ht hi hz hsize hby hzs hgd s x ho hs hown (ys:=ys.map (Value.int .i64)) (iJ _ _) hx (by rw[hl];exact Src.ints hu.out) (by rw[hl];exact hlt) (by rw[hl];omega) hB ?_;rw[hl];exact h
end
section
namespace Ref
theorem asc_ext {α:Type}(key:α->Int):∀{L L':List α},L.Pairwise (fun a b=>key a<key b)->L'.Pairwise (fun a b=>key a<key b)->(∀x,x∈L↔x∈L')->L=L'
 | [],[],_,_,_=>rfl
 | [],y::l,_,_,h=>absurd ((h y).2 (by simp)) (by simp)
 | x::l,[],_,_,h=>absurd ((h x).1 (by simp)) (by simp)
 | x::l,y::r,hl,hr,h=>by
  obtain⟨j,hl⟩:=List.pairwise_cons.1 hl
  obtain⟨m,g⟩:=List.pairwise_cons.1 hr
  have e:x=y:=by
   rcases List.mem_cons.1 ((h x).1 (by simp)) with e|e
   ·exact e
   ·rcases List.mem_cons.1 ((h y).2 (by simp)) with d|d
    ·exact d.symm
    ·have:=m x e;have:=j y d;omega
  subst e;congr 1;refine asc_ext key hl g fun z=>⟨fun hz=>?_,fun hz=>?_⟩
  ·rcases List.mem_cons.1 ((h z).1 (List.mem_cons_of_mem _ hz)) with e|e
   ·subst e;have:=j z hz;omega
   ·exact e
  ·rcases List.mem_cons.1 ((h z).2 (List.mem_cons_of_mem _ hz)) with e|e
   ·subst e;have:=m z hz;omega
   ·exact e
def sortP (n:Nat)(L:List (Int × Int)):List (Int × Int):=(List.range n).flatMap fun b:Nat=>L.filter fun p=>decide (p.1=(b:Int))
theorem mem_sortP {n:Nat}{L:List (Int × Int)}{p:Int × Int}:p∈sortP n L↔p∈L/\0<=p.1/\p.1<n:=by
 unfold sortP;simp only[List.mem_flatMap,List.mem_range,List.mem_filter,decide_eq_true_eq];constructor
 ·rintro⟨b,l,d,e⟩;exact⟨d,by omega,by omega⟩
 ·rintro⟨d,g,j⟩;exact⟨p.1.toNat,by omega,d,by omega⟩
theorem sortP_succ (n:Nat)(L:List (Int × Int)):sortP (n+1) L=sortP n L++L.filter fun p=>decide (p.1=(n:Int)):=by unfold sortP;rw[List.range_succ,List.flatMap_append];simp
def Apart (L:List (Int × Int)):Prop:=L.Pairwise fun a b=>a.1=b.1->a.1<0
theorem asc_sortP {L:List (Int × Int)}(h:Apart L):∀n,(sortP n L).Pairwise fun a b=>a.1<b.1
 | 0=>by simp[sortP]
 | n+1=>by
  rw[sortP_succ,List.pairwise_append]
  refine⟨asc_sortP h n,?_,fun a d b j=>?_⟩
  ·refine List.Pairwise.imp_of_mem ?_ (List.Pairwise.filter _ h)
   intro a b d j g
   simp only[List.mem_filter,decide_eq_true_eq]at d j
   have:=g (by omega)
   omega
  ·have l:=(mem_sortP.1 d).2.2;simp only[List.mem_filter,decide_eq_true_eq]at j;omega
theorem sortP_eq {n:Nat}{L L':List (Int × Int)}(h:Apart L)(ha:L'.Pairwise fun a b=>a.1<b.1)(hm:∀p,p∈L'↔p∈L/\0<=p.1/\p.1<n):sortP n L=L' :=
 asc_ext (fun p=>p.1) (asc_sortP h n) ha fun p=>by rw[hm];exact mem_sortP
theorem total_append (a b:List (List Ins)):total (a++b)=total a+total b:=by simp[total]
theorem number_next (f:Fn){b:Nat}{l:List Ins}(h:f.blocks[b]?=some l):number f (b+1)=number f b+l.length:=by unfold number;rw[total_take_succ _ _ _ h];omega
theorem total_take_le (bs:List (List Ins)):∀(i j:Nat),i<=j->total (bs.take i)<=total (bs.take j):=by
 intro i j h
 have:bs.take j=bs.take i++(bs.drop i).take (j-i):=by rw[show j=i+(j-i) by omega,List.take_add,show i+(j-i)-i=j-i by omega]
 rw[this,total_append];omega
theorem number_le (f:Fn){b c:Nat}{l:List Ins}(h:f.blocks[b]?=some l)(hc:b<c):number f b+l.length<=number f c:=by have d:=number_next f h;have g:=total_take_le f.blocks (b+1) c (by omega);unfold number at d ⊢;omega
theorem number_count (f:Fn){b:Nat}{l:List Ins}(h:f.blocks[b]?=some l):number f b+l.length<=count f:=by have d:=(yC.1 h).1;unfold count;exact number_le f h d
def start (f:Fn)(o:List Nat):Nat:=f.params.length+(o.map fun b=>(f.blocks.getD b []).length).sum
def numFrom (f:Fn)(v:Int):List Nat->Nat->Int
 | [],_=>-1
 | b::r,n=>if (number f b:Int)<=v/\v<number f b+(f.blocks.getD b []).length then n+(v-number f b) else numFrom f v r (n+(f.blocks.getD b []).length)
def num (f:Fn)(o:List Nat)(v:Int):Int:=if v<f.params.length then v else numFrom f v o f.params.length
def toFrom (b:Int):List Nat->Nat->Int
 | [],_=>-1
 | c::r,k=>if b=c then k else toFrom b r (k+1)
def toOf (o:List Nat)(b:Int):Int:=toFrom b o 0
def phiL (f:Fn)(o:List Nat)(x:Ins):List (Int × Int):=(x.to.zip x.args).map fun p=>(toOf o p.1,num f o p.2)
def renum (f:Fn)(o:List Nat)(x:Ins):Ins :=
 if x.op=28 then ⟨x.op,x.width,x.flags,(sortP f.blocks.length (phiL f o x)).map (·.2),x.imm,(sortP f.blocks.length (phiL f o x)).map (·.1)⟩
 else ⟨x.op,x.width,x.flags,x.args.map (num f o),x.imm,x.to.map (toOf o)⟩
def moved (f:Fn)(o:List Nat):Fn:={f with blocks:=o.map fun b=>(f.blocks.getD b []).map (renum f o)}
theorem toFrom_get:∀(o:List Nat)(k j c:Nat),o[j]?=some c->o.Nodup->toFrom c o k=(k+j:Nat)
 | [],k,j,c,h,_=>by simp at h
 | d::r,k,0,c,h,_=>by
  simp at h;subst h
  simp[toFrom]
 | d::r,k,j+1,c,h,hn=>by
  obtain⟨g,l⟩:=List.nodup_cons.1 hn
  have m:c∈r:=vz (by simpa using h)
  rw[toFrom,yD (fun e=>g (by have e':c=d:=by omega
                             exact e' ▸ m)),toFrom_get r (k+1) j c (by simpa using h) l]
  omega
theorem toFrom_some (b:Int):∀(o:List Nat)(k:Nat),0<=toFrom b o k->∃j c,o[j]?=some c/\b=(c:Nat)/\toFrom b o k=(k+j:Nat)
 | [],k,h=>by simp[toFrom]at h
 | d::r,k,h=>by
  by_cases e:b=d
  ·exact⟨0,d,rfl,e,by rw[toFrom,wa e];simp⟩
  ·rw[toFrom,yD e]at h ⊢
   obtain⟨j,c,g,l,m⟩:=toFrom_some b r (k+1) h
   exact⟨j+1,c,by simpa using g,l,by rw[m];omega⟩
theorem toOf_get {o:List Nat}(hn:o.Nodup){k b:Nat}(h:o[k]?=some b):toOf o b=k:=by unfold toOf;rw[toFrom_get o 0 k b h hn];simp
theorem toOf_mem {o:List Nat}(hn:o.Nodup){b:Nat}(h:b∈o):∃k:Nat,o[k]?=some b/\toOf o b=k:=by obtain⟨k,d⟩:=List.getElem?_of_mem h;exact⟨k,d,toOf_get hn d⟩
theorem toOf_some {o:List Nat}{b:Int}(h:0<=toOf o b):∃k c:Nat,o[k]?=some c/\b=(c:Nat)/\toOf o b=k:=by obtain⟨j,c,d,g,l⟩:=toFrom_some b o 0 h;exact⟨j,c,d,g,by unfold toOf;rw[l];simp⟩
theorem toOf_lt {o:List Nat}(b:Int):toOf o b<o.length:=by
 rcases (by omega:toOf o b<0\/0<=toOf o b) with h|h
 ·omega
 ·obtain⟨k,c,d,-,g⟩:=toOf_some h;have:=(yC.1 d).1;omega
theorem getD_some {f:Fn}{b:Nat}{l:List Ins}(h:f.blocks[b]?=some l):f.blocks.getD b []=l:=by rw[vA,h];rfl
theorem numFrom_at (f:Fn){b i:Nat}{l:List Ins}(hl:f.blocks[b]?=some l)(hi:i<l.length):∀(o:List Nat)(n k:Nat),o.Nodup->(∀c∈o,c<f.blocks.length)->o[k]?=some b ->
  numFrom f ((number f b+i:Nat):Int) o n=((n+((o.take k).map fun b=>(f.blocks.getD b []).length).sum+i:Nat):Int)
 | [],n,k,_,_,h=>by simp at h
 | c::r,n,0,_,_,h=>by
  simp at h;subst h
  rw[numFrom,getD_some hl,wa (by omega)]
  simp;omega
 | c::r,n,k+1,hn,hc,h=>by
  obtain⟨t,u⟩:=List.nodup_cons.1 hn
  have z:b∈r:=vz (by simpa using h);have m:c≠b:=fun e=>t (e ▸ z);obtain⟨p,g⟩:∃p,f.blocks[c]?=some p:=⟨_,vu (hc c (by simp))⟩
  have j:¬((number f c:Int)<=((number f b+i:Nat):Int)/\((number f b+i:Nat):Int)<number f c+(f.blocks.getD c []).length):=by
   rw[getD_some g];rcases Nat.lt_or_gt_of_ne m with q|q
   ·have:=number_le f g q;omega
   ·have:=number_le f hl q;omega
  rw[numFrom,yD j,numFrom_at f hl hi r _ k u (fun d y=>hc d (by simp[y])) (by simpa using h)];simp;omega
structure Ord (f:Fn)(o:List Nat):Prop where
 nodup:o.Nodup
 lt:∀b∈o,b<f.blocks.length
 first:o[0]?=some 0
theorem num_at {f:Fn}{o:List Nat}(ho:Ord f o){b i k:Nat}{l:List Ins}(hl:f.blocks[b]?=some l)(hi:i<l.length)(hk:o[k]?=some b):num f o ((number f b+i:Nat):Int)=((start f (o.take k)+i:Nat):Int):=by unfold num;rw[yD (by unfold number;omega),numFrom_at f hl hi o _ k ho.nodup ho.lt hk];unfold start;rfl
theorem num_param {f:Fn}{o:List Nat}{v:Int}(h:v<f.params.length):num f o v=v:=by unfold num;rw[wa h]
theorem moved_blk {f:Fn}{o:List Nat}(ho:Ord f o){k b:Nat}(hk:o[k]?=some b):∃l,f.blocks[b]?=some l/\(moved f o).blocks[k]?=some (l.map (renum f o)):=by have d:=ho.lt b (vz hk);refine⟨_,vu d,?_⟩;unfold moved;simp only[vH,hk,Option.map_some];rw[getD_some (vu d)]
theorem moved_len (f:Fn)(o:List Nat):(moved f o).blocks.length=o.length:=by simp[moved]
theorem moved_blk' {f:Fn}{o:List Nat}(ho:Ord f o){k:Nat}{l':List Ins}(h:(moved f o).blocks[k]?=some l'):∃b l,o[k]?=some b/\f.blocks[b]?=some l/\l'=l.map (renum f o):=by
 have g:k<o.length:=by have:=(yC.1 h).1;rwa [moved_len]at this
 obtain⟨l,j,d⟩:=moved_blk ho (vu g);rw[h]at d;exact⟨_,l,vu g,j,Option.some.inj d⟩
theorem moved_number (f:Fn)(o:List Nat)(k:Nat):number (moved f o) k=start f (o.take k):=by unfold number start moved total;simp only[<-List.map_take,List.map_map];congr 2;refine List.map_congr_left fun b _=>?_;simp
theorem whereFrom_at:∀(bs:List (List Ins))(b n j i:Nat)(l:List Ins),bs[j]?=some l->i<l.length->whereFrom ((n+total (bs.take j)+i:Nat):Int) bs b n=(((b+j:Nat):Int),(i:Int))
 | [],b,n,j,i,l,h,_=>by simp at h
 | c::r,b,n,0,i,l,h,hi=>by
  simp at h;subst h
  simp only[List.take_zero,total,List.map_nil,List.sum_nil,Nat.add_zero]
  rw[whereFrom,wa (by omega)]
  simp;omega
 | c::r,b,n,j+1,i,l,h,hi=>by
  rw[wt,total_cons]
  rw[whereFrom,yD (by omega),show n+(c.length+total (r.take j))+i=(n+c.length)+total (r.take j)+i by omega,whereFrom_at r (b+1) (n+c.length) j i l (by simpa using h) hi]
  rw[show b+1+j=b+(j+1) by omega]
theorem whereIs_at (f:Fn){b i:Nat}{l:List Ins}(h:f.blocks[b]?=some l)(hi:i<l.length):whereIs f ((number f b+i:Nat):Int)=((b:Int),(i:Int)):=by have:=whereFrom_at f.blocks 0 f.params.length b i l h hi;rw[Nat.zero_add]at this;exact this
theorem whereIs_param (f:Fn){v:Int}(h:v<f.params.length):whereIs f v=(-1,-1):=whereFrom_none v _ _ _ h
theorem kind_at (f:Fn){b i:Nat}{l:List Ins}{x:Ins}(h:f.blocks[b]?=some l)(hx:l[i]?=some x):kind f ((number f b+i:Nat):Int)=x.width:=by have d:=(yC.1 hx).1;have g:=number_count f h;unfold kind;rw[yD (by omega),yD (by unfold number;omega),whereIs_at f h d];unfold insAt?;simp only[vG,h,Option.bind_some,hx,Option.map_some,Option.getD_some]
theorem renum_parts (f:Fn)(o:List Nat)(x:Ins):(renum f o x).op=x.op/\(renum f o x).width=x.width/\(renum f o x).flags=x.flags/\(renum f o x).imm=x.imm:=by unfold renum;split<;>exact⟨rfl,rfl,rfl,rfl⟩
def Kept (f:Fn)(o:List Nat)(v:Int):Prop:=(0<=v/\v<f.params.length)\/∃(k b i:Nat)(l:List Ins)(x:Ins),o[k]?=some b/\f.blocks[b]?=some l/\l[i]?=some x/\v=((number f b+i:Nat):Int)
theorem num_kept {f:Fn}{o:List Nat}(ho:Ord f o){k b i:Nat}{l:List Ins}{x:Ins}(hk:o[k]?=some b)(hl:f.blocks[b]?=some l)(hx:l[i]?=some x) :
  num f o ((number f b+i:Nat):Int)=((number (moved f o) k+i:Nat):Int):=by
 rw[num_at ho hl (yC.1 hx).1 hk,moved_number]
theorem kind_moved {f:Fn}{o:List Nat}(ho:Ord f o){v:Int}(h:Kept f o v):kind (moved f o) (num f o v)=kind f v:=by
 rcases h with ⟨u,d⟩|⟨k,b,i,l,x,m,hl,g,rfl⟩
 ·rw[num_param d];have p:(moved f o).params=f.params:=rfl;unfold kind;have q:¬(v<0\/(count f:Int)<=v):=by unfold count number;omega
  have r:¬(v<0\/(count (moved f o):Int)<=v):=by unfold count number;rw[p];omega
  rw[yD q,yD r,p,wa d,wa d]
 ·rw[num_kept ho m hl g,kind_at f hl g];obtain⟨y,d,t⟩:=moved_blk ho m;rw[hl]at d;cases d;have j:(l.map (renum f o))[i]?=some (renum f o x):=by rw[vH,g];rfl
  rw[kind_at (moved f o) t j,(renum_parts f o x).2.1]
theorem where_moved {f:Fn}{o:List Nat}(ho:Ord f o){k b i:Nat}{l:List Ins}{x:Ins}(hk:o[k]?=some b)(hl:f.blocks[b]?=some l)(hx:l[i]?=some x) :
  whereIs (moved f o) (num f o ((number f b+i:Nat):Int))=((k:Int),(i:Int)):=by
 rw[num_kept ho hk hl hx];obtain⟨j,d,g⟩:=moved_blk ho hk;rw[hl]at d;cases d;exact whereIs_at (moved f o) g (by rw[vS];exact(yC.1 hx).1)
end Ref
end
section
namespace Ref
theorem phisFrom_iff (g:List (List Int)):∀(bs:List (List Ins))(b:Nat),phisFrom g bs b=true↔∀j l,bs[j]?=some l->∀x∈l,x.op=28->x.to=before g ((b+j:Nat):Int)
 | [],b=>by simp[phisFrom]
 | l::r,b=>by
  unfold phisFrom
  rw[we,phisFrom_iff g r (b+1),vT]
  constructor
  ·rintro⟨q,t⟩ j p hl x m d
   cases j with
   | zero =>
    simp at hl;subst hl
    have:=q x m
    rw[sameInts_eq]at this;simpa[d] using this
   | succ j =>
    have:=t j p (by simpa using hl) x m d;rw[this];congr 1;omega
  ·intro h;refine⟨fun x m=>?_,fun j p hl x m d=>?_⟩
   ·rw[sameInts_eq];by_cases d:x.op=28
    ·have:=h 0 l rfl x m d;simp[d,this]
    ·simp[d]
   ·have:=h (j+1) p (by simpa using hl) x m d;rw[this];congr 1;omega
theorem argsFrom_iff (f:Fn)(g:List (List Int))(inn:List Bool)(b i:Nat)(x:Ins):∀(vs:List Int)(k:Nat),argsFrom f g inn b i x vs k=true↔∀j v,vs[j]?=some v->argOk f g inn b i x v (x.to.getD (k+j) 0)=true
 | [],k=>by simp[argsFrom]
 | v::r,k=>by
  unfold argsFrom
  rw[we,argsFrom_iff f g inn b i x r (k+1)]
  constructor
  ·rintro⟨l,m⟩ j u d
   cases j with
   | zero=>simp at d;subst d;exact l
   | succ j =>
    have:=m j u (by simpa using d)
    rwa [show k+1+j=k+(j+1) by omega]at this
  ·intro h;refine⟨h 0 v rfl,fun j u d=>?_⟩;have:=h (j+1) u (by simpa using d)
   rwa [show k+(j+1)=k+1+j by omega]at this
theorem insFrom_iff (f:Fn)(g:List (List Int))(inn:List Bool)(b:Nat):∀(l:List Ins)(i:Nat),insFrom f g inn b l i=true↔∀j x,l[j]?=some x->argsFrom f g inn b (i+j) x x.args 0=true
 | [],i=>by simp[insFrom]
 | y::r,i=>by
  unfold insFrom
  rw[we,insFrom_iff f g inn b r (i+1)]
  constructor
  ·rintro⟨m,p⟩ j x d
   cases j with
   | zero=>simp at d;subst d;exact m
   | succ j =>
    have:=p j x (by simpa using d)
    rwa [show i+1+j=i+(j+1) by omega]at this
  ·intro h;refine⟨h 0 y rfl,fun j x d=>?_⟩;have:=h (j+1) x (by simpa using d)
   rwa [show i+(j+1)=i+1+j by omega]at this
theorem blksFrom_iff (f:Fn)(g:List (List Int))(inn:List Bool):∀(bs:List (List Ins))(b:Nat),blksFrom f g inn bs b=true↔∀j l,bs[j]?=some l->inn.getD (b+j) false=true->insFrom f g inn (b+j) l 0=true
 | [],b=>by simp[blksFrom]
 | l::r,b=>by
  unfold blksFrom
  rw[we,blksFrom_iff f g inn r (b+1)]
  constructor
  ·rintro⟨p,q⟩ j m hl d
   cases j with
   | zero =>
    simp at hl;subst hl
    rw[Nat.add_zero]at d ⊢
    rw[d]at p
    simpa using p
   | succ j =>
    have:=q j m (by simpa using hl)
    rw[show b+1+j=b+(j+1) by omega]at this;exact this d
  ·intro h;refine⟨?_,fun j m hl d=>?_⟩
   ·have:=h 0 l rfl;rw[Nat.add_zero]at this
    cases hb:inn.getD b false with
    | false=>rfl
    | true=>simpa using this hb
   ·have:=h (j+1) m (by simpa using hl);rw[show b+(j+1)=b+1+j by omega]at this;exact this d
structure Val (f:Fn):Prop where
 size:f.params.length<=3/\f.slots.length<=2/\1<=f.blocks.length/\f.blocks.length<=10/\total f.blocks<=40
 ret:0<=f.ret/\f.ret<=32
 head:f.params.all isWidth=true/\f.slots.all isSlot=true
 arg:∀l∈f.blocks,∀x∈l,argument f x=true
 laid:∀l∈f.blocks,laid l=true
 entry:before (graph f) 0=[]
 phi:∀(b:Nat)(l:List Ins),f.blocks[b]?=some l->∀x∈l,x.op=28->x.to=before (graph f) (b:Int)
 typ:∀l∈f.blocks,∀x∈l,typed f x=true
 st:∀(b:Nat)(l:List Ins),f.blocks[b]?=some l->(reached (graph f) (-1)).getD b false=true->∀(i:Nat) x,l[i]?=some x->∀(k:Nat) v,x.args[k]?=some v->argOk f (graph f) (reached (graph f) (-1)) b i x v (x.to.getD k 0)=true
theorem rules_iff (f:Fn):rules f=true↔(∀l∈f.blocks,laid l=true)/\before (graph f) 0=[]/\(∀(b:Nat)(l:List Ins),f.blocks[b]?=some l->∀x∈l,x.op=28->x.to=before (graph f) (b:Int)):=by unfold rules;rw[we,we,phisFrom_iff,vT,List.isEmpty_iff,and_assoc];simp only[Nat.zero_add]
theorem stated_iff (f:Fn):stated f=true↔∀(b:Nat)(l:List Ins),f.blocks[b]?=some l->(reached (graph f) (-1)).getD b false=true->∀(i:Nat) x,l[i]?=some x->∀(k:Nat) v,x.args[k]?=some v->argOk f (graph f) (reached (graph f) (-1)) b i x v (x.to.getD k 0)=true:=by unfold stated;rw[blksFrom_iff];simp only[Nat.zero_add,insFrom_iff,argsFrom_iff]
theorem all_all {f:Fn}{p:Ins->Bool}:(f.blocks.all fun l=>l.all p)=true↔∀l∈f.blocks,∀x∈l,p x=true:=by simp only[vT]
theorem val_iff (f:Fn):validate f=0↔Val f:=by
 have A:validate f=0↔¬(3<f.params.length\/2<f.slots.length\/f.blocks.length<1\/10<f.blocks.length)/\¬40<total f.blocks/\¬(f.ret<0\/32<f.ret)/\¬f.params.all isWidth=false/\¬f.slots.all isSlot=false /\
   ¬(f.blocks.all (fun l=>l.all (argument f))=false)/\¬rules f=false/\¬(f.blocks.all (fun l=>l.all (typed f))=false)/\¬stated f=false:=by
  unfold validate;by_cases t:3<f.params.length\/2<f.slots.length\/f.blocks.length<1\/10<f.blocks.length
  ·rw[wa t];exact⟨fun h=>by omega,fun h=>absurd t h.1⟩
  rw[yD t];by_cases z:40<total f.blocks
  ·rw[wa z];exact⟨fun h=>by omega,fun h=>absurd z h.2.1⟩
  rw[yD z];by_cases u:f.ret<0\/32<f.ret
  ·rw[wa u];exact⟨fun h=>by omega,fun h=>absurd u h.2.2.1⟩
  rw[yD u];by_cases d:f.params.all isWidth=false
  ·rw[wa d];exact⟨fun h=>by omega,fun h=>absurd d h.2.2.2.1⟩
  rw[yD d];by_cases y:f.slots.all isSlot=false
  ·rw[wa y];exact⟨fun h=>by omega,fun h=>absurd y h.2.2.2.2.1⟩
  rw[yD y];by_cases g:f.blocks.all (fun l=>l.all (argument f))=false
  ·rw[wa g];exact⟨fun h=>by omega,fun h=>absurd g h.2.2.2.2.2.1⟩
  rw[yD g];by_cases j:rules f=false
  ·rw[wa j];exact⟨fun h=>by omega,fun h=>absurd j h.2.2.2.2.2.2.1⟩
  rw[yD j];by_cases m:f.blocks.all (fun l=>l.all (typed f))=false
  ·rw[wa m];exact⟨fun h=>by omega,fun h=>absurd m h.2.2.2.2.2.2.2.1⟩
  rw[yD m];by_cases p:stated f=false
  ·rw[wa p];exact⟨fun h=>by omega,fun h=>absurd p h.2.2.2.2.2.2.2.2⟩
  rw[yD p];exact⟨fun _=>⟨t,z,u,d,y,g,j,m,p⟩,fun _=>rfl⟩
 rw[A];simp only[Bool.not_eq_false,all_all,rules_iff,stated_iff];constructor
 ·rintro⟨t,z,u,d,y,g,⟨j,m,p⟩,q,r⟩;exact⟨⟨by omega,by omega,by omega,by omega,by omega⟩,⟨by omega,by omega⟩,⟨d,y⟩,g,j,m,p,q,r⟩
 ·rintro⟨t,u,d,g,j,m,p,q,r⟩;exact⟨by omega,by omega,by omega,d.1,d.2,g,⟨j,m,p⟩,q,r⟩
theorem has_iff (l:List Int)(n:Int):has l n=true↔n∈l:=by
 unfold has;rw[wC];constructor
 ·rintro⟨z,d,e⟩;simp at e;subst e;exact d
 ·intro h;exact⟨n,h,by simp⟩
theorem mem_beforeFrom (v:Int):∀(g:List (List Int))(b:Nat)(z:Int),z∈beforeFrom v g b↔∃j l,g[j]?=some l/\v∈l/\z=((b+j:Nat):Int)
 | [],b,z=>by simp[beforeFrom]
 | l::r,b,z=>by
  have ih:=mem_beforeFrom v r (b+1) z
  have m:(∃j d,r[j]?=some d/\v∈d/\z=((b+1+j:Nat):Int))↔∃j d,(l::r)[j+1]?=some d/\v∈d/\z=((b+(j+1):Nat):Int):=by simp only[vB,show ∀j,b+1+j=b+(j+1) from fun j=>by omega]
  rw[beforeFrom];constructor
  ·intro h;split at h
   ·next hh =>
    rcases List.mem_cons.1 h with rfl|h
    ·exact⟨0,l,rfl,(has_iff _ _).1 hh,by simp⟩
    ·obtain⟨j,d,q⟩:=m.1 (ih.1 h);exact⟨j+1,d,q⟩
   ·obtain⟨j,d,q⟩:=m.1 (ih.1 h);exact⟨j+1,d,q⟩
  ·rintro⟨j,d,p,t,u⟩
   cases j with
   | zero =>
    simp at p;subst p;rw[wa ((has_iff _ _).2 t)];exact List.mem_cons.2 (.inl (by simpa using u))
   | succ j =>
    have:=ih.2 (m.2 ⟨j,d,p,t,u⟩);split
    ·exact List.mem_cons_of_mem _ this
    ·exact this
theorem asc_beforeFrom (v:Int):∀(g:List (List Int))(b:Nat),(beforeFrom v g b).Pairwise (fun a c=>a<c)
 | [],b=>by simp[beforeFrom]
 | l::r,b=>by
  rw[beforeFrom]
  split
  ·rw[List.pairwise_cons]
   refine⟨fun z d=>?_,asc_beforeFrom v r (b+1)⟩
   obtain⟨j,m,-,-,e⟩:=(mem_beforeFrom v r (b+1) z).1 d
   omega
  ·exact asc_beforeFrom v r (b+1)
theorem mem_before {g:List (List Int)}{v z:Int}:z∈before g v↔∃j l,g[j]?=some l/\v∈l/\z=(j:Nat):=by unfold before;rw[mem_beforeFrom];simp only[Nat.zero_add]
theorem asc_before (g:List (List Int))(v:Int):(before g v).Pairwise (fun a c=>a<c):=asc_beforeFrom v g 0
theorem graph_at (f:Fn){b:Nat}{l:List Ins}(h:f.blocks[b]?=some l):(graph f)[b]?=some ((l.getLast?.map (·.to)).getD []):=by unfold graph;rw[vH,h];rfl
theorem laid_last:∀(l:List Ins)(p:Bool),l≠[]->laidFrom l p=true->∃x,l.getLast?=some x/\isLast x.op=true
 | [],_,h,_=>absurd rfl h
 | [x],p,_,h=>by
  simp[laidFrom]at h
  exact⟨x,rfl,h.1⟩
 | x::y::r,p,_,h=>by
  rw[laidFrom]at h
  simp only[we]at h
  obtain⟨z,d,hl⟩:=laid_last (y::r) _ (by simp) h.2
  exact⟨z,by rw[List.getLast?_cons_cons];exact d,hl⟩
theorem last_of {l:List Ins}(h:laid l=true):∃x,l.getLast?=some x/\isLast x.op=true/\x∈l:=by unfold laid at h;rw[we]at h;obtain⟨x,d,g⟩:=laid_last l true (by intro e;subst e;simp at h) h.2;exact⟨x,d,g,List.mem_of_getLast? d⟩
theorem last_not_phi {op:Int}(h:isLast op=true):op≠28:=by unfold isLast at h;simp at h;omega
theorem arg_to {f:Fn}{x:Ins}(h:argument f x=true):∀t∈x.to,0<=t/\t<f.blocks.length:=by unfold argument at h;simp only[we,vT,decide_eq_true_eq]at h;exact h.1.2
theorem val_graph {f:Fn}(h:Val f){b:Nat}{l:List Ins}(hl:f.blocks[b]?=some l):∃x,x∈l/\x.op≠28/\l.getLast?=some x/\(graph f)[b]?=some x.to:=by obtain⟨x,d,g,j⟩:=last_of (h.laid l (vz hl));refine⟨x,j,last_not_phi g,d,?_⟩;rw[graph_at f hl,d];rfl
theorem graph_len (f:Fn):(graph f).length=f.blocks.length:=by simp[graph]
theorem val_gok {f:Fn}(h:Val f):∀l∈graph f,∀t∈l,0<=t/\t<((graph f).length:Int):=by intro e m t p;obtain⟨b,g⟩:=List.getElem?_of_mem m;have d:=(yC.1 g).1;rw[graph_len]at d ⊢;obtain⟨x,q,-,-,j⟩:=val_graph h (vu d);rw[g]at j;cases j;exact arg_to (h.arg _ (List.getElem_mem d) x q) t p
end Ref
end
section
namespace Ref
theorem sum_perm_le (w:Nat->Nat):∀(n:Nat)(o:List Nat),o.Nodup->(∀b∈o,b<n)->(o.map w).sum<=((List.range n).map w).sum
 | 0,o,_,h=>by
  cases o with
  | nil=>simp
  | cons a r=>exact absurd (h a (by simp)) (by omega)
 | n+1,o,hn,h=>by
  rw[List.range_succ,List.map_append,List.sum_append]
  by_cases d:n∈o
  ·have l:=List.perm_cons_erase d
   have m:(o.map w).sum=w n+((o.erase n).map w).sum:=by rw[(l.map w).sum_nat];simp
   have:=sum_perm_le w n (o.erase n) (hn.erase n) fun b hb=>by
    have g:=h b (List.mem_of_mem_erase hb);have j:b≠n:=fun e=>by subst e;exact hn.not_mem_erase hb
    omega
   rw[m];simp;omega
  ·have:=sum_perm_le w n o hn fun b hb=>by
    have g:=h b hb;have j:b≠n:=fun e=>d (e ▸ hb);omega
   simp;omega
theorem sum_one (o:List Nat):(o.map fun _=>1).sum=o.length:=by
 induction o with
 | nil=>rfl
 | cons a r ih=>simp;omega
theorem total_range (bs:List (List Ins)):((List.range bs.length).map fun b=>(bs.getD b []).length).sum=total bs:=by
 unfold total;congr 1;apply List.ext_getElem?;intro i;simp only[vH];rcases wh i bs.length with h|h
 ·rw[vu (by simpa using h),vu h];simp[vA,h]
 ·rw[vP (by simpa using h),vP h];rfl
theorem Ord.short {f:Fn}{o:List Nat}(h:Ord f o):o.length<=f.blocks.length:=by have:=sum_perm_le (fun _=>1) f.blocks.length o h.nodup h.lt;rw[sum_one,sum_one]at this;simpa using this
theorem Ord.total {f:Fn}{o:List Nat}(h:Ord f o):Ref.total (moved f o).blocks<=Ref.total f.blocks:=by
 have:=sum_perm_le (fun b=>(f.blocks.getD b []).length) f.blocks.length o h.nodup h.lt;rw[total_range]at this
 have e:Ref.total (moved f o).blocks=(o.map fun b=>(f.blocks.getD b []).length).sum:=by unfold Ref.total moved;rw[List.map_map];congr 1;exact List.map_congr_left fun b _=>by simp
 rw[e];exact this
structure IsRc (g:List (List Int))(but:Int)(R:Nat->Prop):Prop where
 root:but≠0->R 0
 step:∀(b:Nat)(t:Int),R b->t∈g.getD b []->(t.toNat:Int)≠but->R t.toNat
 least:∀S:Nat->Prop,(but≠0->S 0)->(∀(b:Nat)(t:Int),R b->S b->t∈g.getD b []->(t.toNat:Int)≠but->S t.toNat)->∀i,R i->S i
def rc (g:List (List Int))(but:Int)(i:Nat):Prop:=(reached g but).getD i false=true
def RcAll:Prop:=∀(g:List (List Int))(but:Int),1<=g.length->(∀l∈g,∀t∈l,0<=t/\t<(g.length:Int))->IsRc g but (rc g but)
theorem Val.rc (h:RcAll){f:Fn}(hv:Val f)(but:Int):IsRc (graph f) but (Ref.rc (graph f) but) :=
 h _ _ (by rw[graph_len];exact hv.size.2.2.1) (val_gok hv)
structure Keeps (f:Fn)(o:List Nat):Prop extends Ord f o where
 closed:∀b∈o,∀t∈(graph f).getD b [],t.toNat∈o
 args:∀b∈o,∀l,f.blocks[b]?=some l->∀(i:Nat) x,l[i]?=some x->x.op≠28->∀v∈x.args,Kept f o v
 phiArgs:∀b∈o,∀l,f.blocks[b]?=some l->∀(i:Nat) x,l[i]?=some x->x.op=28->∀(j:Nat) t v,x.to[j]?=some t->x.args[j]?=some v->t.toNat∈o->Kept f o v
 phiSome:∀b∈o,∀l,f.blocks[b]?=some l->∀x∈l,x.op=28->∃t∈x.to,t.toNat∈o
theorem shape_congr (f f':Fn)(x x':Ins)(hs:f'.slots=f.slots)(hr:f'.ret=f.ret)(h1:x'.op=x.op)(h2:x'.width=x.width)(h3:x'.flags=x.flags)(h4:x'.imm=x.imm)(h5:x.op=28->decide (0<x'.args.length)=decide (0<x.args.length)):shape f' x'=shape f x:=by
 by_cases d:x.op=28
 ·have g:x'.op=28:=h1.trans d;unfold shape;simp only[d,g,h2,plain,plain0,h3,h4,h5 d];simp
 ·unfold shape;simp only[h1,h2,h3,h4,hs,hr,plain,arith,yD d]
theorem shape_phi (f:Fn){x:Ins}(h:x.op=28):(shape f x).1=-1/\(shape f x).2.1=-1/\((shape f x).2.2=true->0<x.args.length):=by unfold shape;simp[h]
theorem shape_to (f:Fn){x:Ins}(h1:x.op≠28)(h2:x.op≠29)(h3:x.op≠30):(shape f x).2.1=0:=by unfold shape;simp only[yD h1,yD h2,yD h3,apply_ite Prod.snd,apply_ite Prod.fst,ite_self]
theorem counts_iff (s:Int × Int × Bool)(x:Ins):counts s x=true↔(0<=s.1->(x.args.length:Int)=s.1)/\(s.1<0->x.args.length=x.to.length)/\(0<=s.2.1->(x.to.length:Int)=s.2.1):=by
 unfold counts;simp only[Bool.not_eq_true',Bool.or_eq_false_iff,Bool.and_eq_false_iff,decide_eq_false_iff_not,Decidable.not_not];constructor
 ·rintro⟨⟨d,g⟩,j⟩;exact⟨fun h=>d.resolve_left (fun q=>q h),fun h=>g.resolve_left (fun q=>q h),fun h=>j.resolve_left (fun q=>q h)⟩
 ·rintro⟨d,g,j⟩;refine⟨⟨?_,?_⟩,?_⟩
  ·by_cases h:0<=s.1
   ·exact .inr (d h)
   ·exact .inl h
  ·by_cases h:s.1<0
   ·exact .inr (g h)
   ·exact .inl h
  ·by_cases h:0<=s.2.1
   ·exact .inr (j h)
   ·exact .inl h
theorem argument_iff (f:Fn)(x:Ins):argument f x=true↔(shape f x).2.2=true/\counts (shape f x) x=true/\(∀z∈x.to,0<=z/\z<f.blocks.length)/\(x.op=30->x.to.getD 0 0≠x.to.getD 1 0):=by
 unfold argument;simp only[we,Bool.or_eq_true,vT,decide_eq_true_eq,and_assoc];constructor
 ·rintro⟨d,g,j,l⟩;exact⟨d,g,j,fun e=>l.resolve_left (fun q=>q e)⟩
 ·rintro⟨d,g,j,l⟩;refine⟨d,g,j,?_⟩;by_cases e:x.op=30
  ·exact .inr (l e)
  ·exact .inl e
theorem laid_at:∀(a:List Ins)(p:Bool)(x:Ins)(r:List Ins),laidFrom (a++x::r) p=true->isLast x.op=r.isEmpty
 | [],p,x,r,h=>by
  rw[List.nil_append,laidFrom]at h
  simp only[we]at h
  simpa using h.1.1
 | y::a,p,x,r,h=>by
  rw[List.cons_append,laidFrom]at h
  simp only[we]at h
  exact laid_at a _ x r h.2
theorem to_last {f:Fn}(hv:Val f){l:List Ins}(hl:l∈f.blocks){x:Ins}(hx:x∈l)(ho:x.op≠28){t:Int}(ht:t∈x.to):l.getLast?=some x:=by
 have u:=(argument_iff f x).1 (hv.arg l hl x hx)
 have m:x.op=29\/x.op=30:=by
  rcases Decidable.em (x.op=29) with h|h
  ·exact .inl h
  rcases Decidable.em (x.op=30) with d|d
  ·exact .inr d
  have p:=shape_to f ho h d;have q:=((counts_iff _ _).1 u.2.1).2.2 (by omega);rw[p]at q;have:x.to=[]:=wu (by omega);rw[this]at ht;simp at ht
 have j:isLast x.op=true:=by unfold isLast;rcases m with h|h<;>simp[h]
 obtain⟨a,r,rfl⟩:=List.append_of_mem hx;have g:=hv.laid _ hl;unfold laid at g;rw[we]at g;have:=laid_at a true x r g.2;rw[j]at this;have y:r=[]:=by simpa using this.symm
 subst y;simp
theorem to_graph {f:Fn}(hv:Val f){b:Nat}{l:List Ins}(hl:f.blocks[b]?=some l){x:Ins}(hx:x∈l)(ho:x.op≠28){t:Int}(ht:t∈x.to):t∈(graph f).getD b []:=by have d:=to_last hv (vz hl) hx ho ht;rw[vA,graph_at f hl,d];exact ht
theorem toOf_inj {o:List Nat}{s t:Int}(h0:0<=toOf o s)(h:toOf o s=toOf o t):s=t:=by
 obtain⟨k,c,l,m,p⟩:=toOf_some h0;obtain⟨j,d,g,q,r⟩:=toOf_some (h ▸ h0);have e:k=j:=by omega
 subst e;rw[l]at g;cases g;omega
theorem toOf_kept {o:List Nat}(hn:o.Nodup){t:Int}(h0:0<=t)(h:t.toNat∈o):∃k:Nat,o[k]?=some t.toNat/\toOf o t=k:=by obtain⟨k,d,g⟩:=toOf_mem hn h;exact⟨k,d,by rw[<-g];congr 1;omega⟩
theorem renum_no (f:Fn)(o:List Nat){x:Ins}(h:x.op≠28):renum f o x=⟨x.op,x.width,x.flags,x.args.map (num f o),x.imm,x.to.map (toOf o)⟩:=by unfold renum;rw[yD h]
theorem renum_phi (f:Fn)(o:List Nat){x:Ins}(h:x.op=28):renum f o x=⟨x.op,x.width,x.flags,(sortP f.blocks.length (phiL f o x)).map (·.2),x.imm,(sortP f.blocks.length (phiL f o x)).map (·.1)⟩:=by unfold renum;rw[wa h]
theorem mem_phi {f:Fn}{o:List Nat}{x:Ins}{p:Int × Int}:p∈phiL f o x↔∃(j:Nat)(t v:Int),x.to[j]?=some t/\x.args[j]?=some v/\p=(toOf o t,num f o v):=by
 unfold phiL;rw[List.mem_map];constructor
 ·rintro⟨⟨t,v⟩,m,rfl⟩;obtain⟨j,d⟩:=List.getElem?_of_mem m;rw[List.getElem?_zip_eq_some]at d;exact⟨j,t,v,d.1,d.2,rfl⟩
 ·rintro⟨j,t,v,g,l,rfl⟩;exact⟨(t,v),vz (List.getElem?_zip_eq_some.2 ⟨g,l⟩),rfl⟩
theorem phi_parts {f:Fn}(hv:Val f){b:Nat}{l:List Ins}(hl:f.blocks[b]?=some l){x:Ins}(hx:x∈l)(ho:x.op=28):x.args.length=x.to.length/\0<x.args.length/\x.to.Pairwise (fun a c=>a<c)/\∀t∈x.to,0<=t/\t<f.blocks.length:=by have d:=(argument_iff f x).1 (hv.arg l (vz hl) x hx);obtain⟨s1,s2,s3⟩:=shape_phi f ho;refine⟨((counts_iff _ _).1 d.2.1).2.1 (by omega),s3 d.1,?_,d.2.2.1⟩;rw[hv.phi b l hl x hx ho];exact asc_before _ _
theorem apart_phi {f:Fn}{o:List Nat}{x:Ins}(h1:x.args.length=x.to.length)(h2:x.to.Pairwise (fun a c=>a<c)):Apart (phiL f o x):=by
 unfold Apart phiL;rw[List.pairwise_map]
 have g:(x.to.zip x.args).Pairwise (fun a c=>a.1<c.1):=by
  have:((x.to.zip x.args).map Prod.fst).Pairwise (fun a c=>a<c):=by rw[List.map_fst_zip (by omega)];exact h2
  rwa [List.pairwise_map]at this
 refine g.imp fun {a c} d e=>?_;rcases (by omega:toOf o a.1<0\/0<=toOf o a.1) with q|q
 ·exact q
 ·have:=toOf_inj q e;omega
theorem mem_sort_phi {f:Fn}{o:List Nat}(ho:Ord f o){x:Ins}{p:Int × Int}:p∈sortP f.blocks.length (phiL f o x)↔∃(j:Nat)(t v:Int),x.to[j]?=some t/\x.args[j]?=some v/\p=(toOf o t,num f o v)/\0<=toOf o t:=by
 rw[mem_sortP,mem_phi];constructor
 ·rintro⟨⟨j,t,v,d,g,rfl⟩,l,-⟩;exact⟨j,t,v,d,g,rfl,l⟩
 ·rintro⟨j,t,v,d,g,rfl,l⟩;have:=toOf_lt (o:=o) t;have:=ho.short;exact⟨⟨j,t,v,d,g,rfl⟩,l,by show toOf o t<_;omega⟩
theorem arg_moved {f:Fn}{o:List Nat}(hv:Val f)(hk:Keeps f o){b:Nat}(hb:b∈o){l:List Ins}(hl:f.blocks[b]?=some l){x:Ins}(hx:x∈l):argument (moved f o) (renum f o x)=true:=by
 have u:=(argument_iff f x).1 (hv.arg l (vz hl) x hx);have hlen:=moved_len f o;by_cases g:x.op=28
 ·obtain⟨U,S,W,T⟩:=phi_parts hv hl hx g;obtain⟨s1,s2,s3⟩:=shape_phi f g;obtain⟨t,r,E⟩:=hk.phiSome b hb l hl x hx g
  have y:0<(sortP f.blocks.length (phiL f o x)).length:=by obtain⟨j,L⟩:=List.getElem?_of_mem r;have P:=(yC.1 L).1;obtain⟨k,-,Q⟩:=toOf_kept hk.nodup (T t r).1 E;exact List.length_pos_of_mem ((mem_sort_phi hk.toOrd).2 ⟨j,t,_,L,vu (by omega),rfl,by omega⟩)
  have D:shape (moved f o) (renum f o x)=shape f x:=by obtain⟨G,H,I,J⟩:=renum_parts f o x;refine shape_congr f (moved f o) x _ rfl rfl G H I J fun _=>?_;rw[renum_phi f o g,vS,decide_eq_true y,decide_eq_true S]
  rw[argument_iff,D];refine⟨u.1,?_,?_,?_⟩
  ·rw[counts_iff,renum_phi f o g];exact⟨fun h=>by omega,fun _=>by simp,fun h=>by omega⟩
  ·rw[renum_phi f o g,hlen];intro z F;obtain⟨p,R,rfl⟩:=List.mem_map.1 F;obtain⟨j,t,v,-,-,rfl,B⟩:=(mem_sort_phi hk.toOrd).1 R;exact⟨B,toOf_lt t⟩
  ·intro e;rw[(renum_parts f o x).1]at e;omega
 ·have D:shape (moved f o) (renum f o x)=shape f x:=by
   obtain⟨G,H,I,J⟩:=renum_parts f o x;exact shape_congr f (moved f o) x _ rfl rfl G H I J fun e=>absurd e g
  have d:∀t∈x.to,0<=t/\t.toNat∈o:=fun t r=>⟨(u.2.2.1 t r).1,hk.closed b hb t (to_graph hv hl hx g r)⟩;rw[argument_iff,D];refine⟨u.1,?_,?_,?_⟩
  ·have O:=(counts_iff _ _).1 u.2.1;rw[counts_iff,renum_no f o g];simpa using O
  ·rw[renum_no f o g,hlen];intro z F;obtain⟨t,r,rfl⟩:=List.mem_map.1 F;obtain⟨B,N⟩:=d t r;obtain⟨k,-,K⟩:=toOf_kept hk.nodup B N;exact⟨by omega,toOf_lt t⟩
  ·intro e;rw[(renum_parts f o x).1]at e;have m:=u.2.2.2 e;have A:(shape f x).2.1=2:=by unfold shape;simp[e]
   have K:=((counts_iff _ _).1 u.2.1).2.2 (by omega);rw[A]at K;have C:x.to.length=2:=by omega
   rw[renum_no f o g]
   match hxt:x.to,C with
   | [s,t],_ =>
    rw[hxt]at m d;simp at m ⊢;obtain⟨k,-,q⟩:=toOf_kept hk.nodup (d s (by simp)).1 (d s (by simp)).2;intro M;exact m (toOf_inj (by omega) M)
theorem laid_moved (f:Fn)(o:List Nat):∀(l:List Ins)(p:Bool),laidFrom (l.map (renum f o)) p=laidFrom l p
 | [],p=>rfl
 | x::r,p=>by
  rw[List.map_cons,laidFrom,laidFrom,laid_moved f o r,(renum_parts f o x).1]
  simp
theorem graph_moved {f:Fn}{o:List Nat}(hv:Val f)(ho:Ord f o){k b:Nat}(hk:o[k]?=some b):(graph (moved f o))[k]?=some (((graph f).getD b []).map (toOf o)):=by obtain⟨l,hl,m⟩:=moved_blk ho hk;obtain⟨x,p,g,d,j⟩:=val_graph hv hl;rw[graph_at _ m,List.getLast?_map,d,vA,j];simp[renum_no f o g]
theorem graph_moved' {f:Fn}{o:List Nat}(hv:Val f)(ho:Ord f o){k:Nat}{e:List Int}(h:(graph (moved f o))[k]?=some e):∃b,o[k]?=some b/\e=((graph f).getD b []).map (toOf o):=by
 have d:k<o.length:=by have:=(yC.1 h).1;rwa [graph_len,moved_len]at this
 have:=graph_moved hv ho (vu d);rw[h]at this;exact⟨_,vu d,Option.some.inj this⟩
theorem getD_graph {f:Fn}(hv:Val f){b:Nat}(hb:b<f.blocks.length):(graph f)[b]?=some ((graph f).getD b []):=by rw[vA,vu (by rw[graph_len];exact hb)];rfl
theorem phi_moved {f:Fn}{o:List Nat}(hv:Val f)(hk:Keeps f o){k b:Nat}(hb:o[k]?=some b){l:List Ins}(hl:f.blocks[b]?=some l){x:Ins}(hx:x∈l)(ho:x.op=28):(renum f o x).to=before (graph (moved f o)) (k:Int):=by
 obtain⟨R,U,S,W⟩:=phi_parts hv hl hx ho;rw[renum_phi f o ho];refine asc_ext id ?_ (asc_before _ _) fun z=>?_
 ·show (List.map _ _).Pairwise _;rw[List.pairwise_map];exact asc_sortP (apart_phi R S) _
 ·have d:x.to=before (graph f) (b:Int):=hv.phi b l hl x hx ho;show z∈List.map _ _↔_;rw[mem_before,List.mem_map];constructor
  ·rintro⟨p,O,rfl⟩;obtain⟨j,t,v,L,T,rfl,K⟩:=(mem_sort_phi hk.toOrd).1 O;obtain⟨m,c,B,P,M⟩:=toOf_some K;have C:t∈before (graph f) (b:Int):=d ▸ vz L;obtain⟨H,e,g,r,G⟩:=mem_before.1 C;have q:H=c:=by omega
   subst q;refine⟨m,_,graph_moved hv hk.toOrd B,?_,M⟩;rw[List.mem_map];refine⟨(b:Int),?_,toOf_get hk.nodup hb⟩;rw[vA,g];exact r
  ·rintro⟨m,e,B,A,rfl⟩;obtain⟨c,g,rfl⟩:=graph_moved' hv hk.toOrd B;obtain⟨u,Q,E⟩:=List.mem_map.1 A;have I:=toOf_get hk.nodup hb;have D:u=(b:Int):=toOf_inj (by omega) (E.trans I.symm);subst D;have y:=hk.lt c (vz g)
   have C:(c:Int)∈x.to:=by rw[d];exact mem_before.2 ⟨c,_,getD_graph hv y,Q,rfl⟩
   obtain⟨j,F⟩:=List.getElem?_of_mem C;have N:=(yC.1 F).1;have J:=toOf_get hk.nodup g;exact⟨(toOf o c,num f o (x.args[j]'(by omega))),(mem_sort_phi hk.toOrd).2 ⟨j,_,_,F,vu (by omega),rfl,by omega⟩,J⟩
theorem entry_moved {f:Fn}{o:List Nat}(hv:Val f)(hk:Keeps f o):before (graph (moved f o)) 0=[]:=by rw[List.eq_nil_iff_forall_not_mem];intro z t;obtain⟨m,e,r,p,-⟩:=mem_before.1 t;obtain⟨c,q,rfl⟩:=graph_moved' hv hk.toOrd r;obtain⟨u,l,j⟩:=List.mem_map.1 p;have y:=toOf_get hk.nodup hk.first;have g:u=((0:Nat):Int):=toOf_inj (by omega) (j.trans (by omega));have d:=hk.lt c (vz q);have:(c:Int)∈before (graph f) 0:=mem_before.2 ⟨c,_,getD_graph hv d,by rw[g]at l;exact l,rfl⟩;rw[hv.entry]at this;simp at this
end Ref
end
section
namespace Ref
theorem typed_iff (f:Fn)(x:Ins):typed f x=true↔(∀v∈x.args,0<=kind f v)/\typedKinds f x (x.args.map (kind f))=true:=by unfold typed;rw[we,vT];simp only[decide_eq_true_eq]
theorem typedKinds_congr (f f':Fn)(x x':Ins)(k:List Int)(hr:f'.ret=f.ret)(h1:x'.op=x.op)(h2:x'.width=x.width):typedKinds f' x' k=typedKinds f x k:=by unfold typedKinds;simp only[h1,h2,hr]
theorem typedKinds_phi (f:Fn){x:Ins}(h:x.op=28)(k:List Int):typedKinds f x k=k.all fun z=>decide (z=x.width):=by unfold typedKinds;simp[h]
theorem typ_moved {f:Fn}{o:List Nat}(hv:Val f)(hk:Keeps f o){b:Nat}(hb:b∈o){l:List Ins}(hl:f.blocks[b]?=some l){x:Ins}(hx:x∈l):typed (moved f o) (renum f o x)=true:=by
 have y:=(typed_iff f x).1 (hv.typ l (vz hl) x hx);obtain⟨i,F⟩:=List.getElem?_of_mem hx;obtain⟨M,N,T,U⟩:=renum_parts f o x;rw[typed_iff,typedKinds_congr f (moved f o) x _ _ rfl M N];by_cases r:x.op=28
 ·obtain⟨P,Q,R,S⟩:=phi_parts hv hl hx r
  have d:∀C∈(renum f o x).args,kind (moved f o) C=x.width/\0<=kind (moved f o) C:=by rw[renum_phi f o r];intro C B;obtain⟨p,K,rfl⟩:=List.mem_map.1 B;obtain⟨j,t,v,I,D,rfl,H⟩:=(mem_sort_phi hk.toOrd).1 K;obtain⟨m,c,J,A,O⟩:=toOf_some H;have q:=hk.phiArgs b hb l hl i x F r j t v I D (by rw[A,vG];exact vz J);have g:=vz D;show kind (moved f o) (num f o v)=x.width/\_;rw[kind_moved hk.toOrd q];have E:=y.2;rw[typedKinds_phi f r,vT]at E;have:=E (kind f v) (List.mem_map_of_mem g);exact⟨by simpa using this,y.1 v g⟩
  refine⟨fun v hv=>(d v hv).2,?_⟩;rw[typedKinds_phi f r,vT];intro z L;obtain⟨v,hv,rfl⟩:=List.mem_map.1 L;simpa using (d v hv).1
 ·have d:∀v∈x.args,kind (moved f o) (num f o v)=kind f v:=fun v hvm=>kind_moved hk.toOrd (hk.args b hb l hl i x F r v hvm);rw[renum_no f o r];refine⟨fun v hv=>?_,?_⟩
  ·obtain⟨u,G,rfl⟩:=List.mem_map.1 hv;rw[d u G];exact y.1 u G
  ·have e:(List.map (num f o) x.args).map (kind (moved f o))=x.args.map (kind f):=by
    rw[List.map_map];exact List.map_congr_left fun v hv=>d v hv
   rw[e];exact y.2
theorem rc_moved {f:Fn}{o:List Nat}(hv:Val f)(hk:Keeps f o){but but':Int}(hbut:∀k c:Nat,o[k]?=some c->((c:Int)=but↔(k:Int)=but')){R R':Nat->Prop}(hR:IsRc (graph f) but R)(hR':IsRc (graph (moved f o)) but' R'){k c:Nat}(hc:o[k]?=some c):R' k↔R c:=by
 have E:=hbut 0 0 hk.first
 have C:∀{j k c:Nat},o[j]?=some c->o[k]?=some c->j=k:=fun {j k c} h1 h2=>by have G:=toOf_get hk.nodup h1;have H:=toOf_get hk.nodup h2;omega
 constructor
 ·intro h
  have:=hR'.least (fun i=>∃d,o[i]?=some d/\R d) (fun g=>⟨0,hk.first,hR.root (fun e=>g (by have:=E.1 (by omega);omega))⟩) (fun i I _ ⟨d,l,p⟩ B g=>by
    rw[vA,graph_moved hv hk.toOrd l,Option.getD_some]at B
    obtain⟨t,u,rfl⟩:=List.mem_map.1 B
    have z:=hk.closed d (vz l) t u
    have y:0<=t:=by
      have r:=hk.lt d (vz l)
      exact(val_gok hv _ (vz (getD_graph hv r)) t u).1
    obtain⟨m,A,D⟩:=toOf_kept hk.nodup y z
    rw[D,vG]at g ⊢
    exact⟨_,A,hR.step d t p u (fun e=>g ((hbut m _ A).1 e))⟩) k h
  obtain⟨d,l,p⟩:=this;rw[hc]at l;cases l;exact p
 ·intro h
  have:=hR.least (fun d=>∃i:Nat,o[i]?=some d/\R' i) (fun g=>⟨0,hk.first,hR'.root (fun e=>g (by have:=E.2 (by omega);omega))⟩) (fun d t _ ⟨i,l,q⟩ u g=>by
    have z:=hk.closed d (vz l) t u
    have y:0<=t:=by
      have r:=hk.lt d (vz l)
      exact(val_gok hv _ (vz (getD_graph hv r)) t u).1
    obtain⟨m,A,D⟩:=toOf_kept hk.nodup y z
    refine⟨m,A,?_⟩
    have:=hR'.step i (toOf o t) q (by
      rw[vA,graph_moved hv hk.toOrd l,Option.getD_some]
      exact List.mem_map_of_mem u) (by
      rw[D,vG]
      exact fun e=>g ((hbut m _ A).2 e))
    rwa [D,vG]at this) c h
  obtain⟨i,F,q⟩:=this;rw[C hc F];exact q
theorem bool_eq {a b:Bool}(h:a=true↔b=true):a=b:=by cases a<;>cases b<;>simp_all
theorem gok_moved {f:Fn}{o:List Nat}(hv:Val f)(hk:Keeps f o):∀l∈graph (moved f o),∀t∈l,0<=t/\t<((graph (moved f o)).length:Int):=by intro e j t z;obtain⟨k,r⟩:=List.getElem?_of_mem j;obtain⟨b,g,rfl⟩:=graph_moved' hv hk.toOrd r;obtain⟨u,p,rfl⟩:=List.mem_map.1 z;have d:=hk.lt b (vz g);have q:=(val_gok hv _ (vz (getD_graph hv d)) u p).1;obtain⟨m,y,j⟩:=toOf_kept hk.nodup q (hk.closed b (vz g) u p);have:=toOf_lt (o:=o) u;rw[graph_len,moved_len];omega
theorem o_pos {f:Fn}{o:List Nat}(ho:Ord f o):1<=o.length:=by have:=(yC.1 ho.first).1;omega
theorem isRc_moved (hA:RcAll){f:Fn}{o:List Nat}(hv:Val f)(hk:Keeps f o)(but:Int):IsRc (graph (moved f o)) but (Ref.rc (graph (moved f o)) but) :=
 hA _ _ (by rw[graph_len,moved_len];exact o_pos hk.toOrd) (gok_moved hv hk)
theorem reached_moved (hA:RcAll){f:Fn}{o:List Nat}(hv:Val f)(hk:Keeps f o){k c:Nat}(hc:o[k]?=some c):(reached (graph (moved f o)) (-1)).getD k false=(reached (graph f) (-1)).getD c false :=
 bool_eq (rc_moved hv hk (fun k c _=>by omega) (hv.rc hA (-1)) (isRc_moved hA hv hk (-1)) hc)
theorem get_uniq {o:List Nat}(hn:o.Nodup){j k c:Nat}(h1:o[j]?=some c)(h2:o[k]?=some c):j=k:=by have d:=toOf_get hn h1;have g:=toOf_get hn h2;omega
theorem dom_moved (hA:RcAll){f:Fn}{o:List Nat}(hv:Val f)(hk:Keeps f o){j a k c:Nat}(ha:o[j]?=some a)(hc:o[k]?=some c):dominates (graph (moved f o)) (j:Int) (k:Int)=dominates (graph f) (a:Int) (c:Int):=by
 have l:decide ((j:Int)=(k:Int))=decide ((a:Int)=(c:Int)):=by
  apply decide_eq_decide.2;constructor
  ·intro e;have:j=k:=by omega
   subst this;rw[ha]at hc;cases hc;rfl
  ·intro e;have:a=c:=by omega
   subst this;have:=get_uniq hk.nodup ha hc;omega
 have m:(reached (graph (moved f o)) (j:Int)).getD k false=(reached (graph f) (a:Int)).getD c false :=
  bool_eq (rc_moved hv hk (fun p g d=>by
    constructor
    · intro e
      have:g=a:=by omega
      subst this
      have:=get_uniq hk.nodup d ha;omega
    · intro e
      have:p=j:=by omega
      subst this
      rw[ha]at d;cases d;rfl) (hv.rc hA _) (isRc_moved hA hv hk _) hc)
 unfold dominates;rw[vG,vG,l,m]
theorem there_moved (hA:RcAll){f:Fn}{o:List Nat}(hv:Val f)(hk:Keeps f o){v:Int}(hkept:Kept f o v){k c:Nat}(hc:o[k]?=some c)(place:Int):there (moved f o) (graph (moved f o)) (num f o v) (k:Int) place=there f (graph f) v (c:Int) place:=by
 rcases hkept with ⟨r,m⟩|⟨j,b,i,l,x,g,hl,p,rfl⟩
 ·unfold there;rw[num_param m,whereIs_param f m,whereIs_param (moved f o) m];rfl
 ·unfold there;rw[where_moved hk.toOrd g hl p,whereIs_at f hl (yC.1 p).1];dsimp only;rw[yD (show ¬(j:Int)<0 by omega),yD (show ¬(b:Int)<0 by omega)]
  have e:(j:Int)=(k:Int)↔(b:Int)=(c:Int):=by
   constructor
   ·intro e;have:j=k:=by omega
    subst this;rw[g]at hc;cases hc;rfl
   ·intro e;have:b=c:=by omega
    subst this;have:=get_uniq hk.nodup g hc;omega
  by_cases d:(b:Int)=(c:Int)
  ·rw[wa (e.2 d),wa d]
  ·rw[yD (fun q=>d (e.1 q)),yD d,dom_moved hA hv hk g hc]
theorem st_moved (hA:RcAll){f:Fn}{o:List Nat}(hv:Val f)(hk:Keeps f o){k b:Nat}(hb:o[k]?=some b){l:List Ins}(hl:f.blocks[b]?=some l)(hin:(reached (graph (moved f o)) (-1)).getD k false=true)
  {i:Nat} {x:Ins} (hx:l[i]?=some x) {j:Nat} {v':Int} (hj:(renum f o x).args[j]?=some v'):argOk (moved f o) (graph (moved f o)) (reached (graph (moved f o)) (-1)) k i (renum f o x) v' ((renum f o x).to.getD j 0)=true:=by
 rw[reached_moved hA hv hk hb]at hin;have r:=vz hb;by_cases g:x.op=28
 ·have z:(renum f o x).op=28:=by rw[(renum_parts f o x).1];exact g
  unfold argOk;rw[wa z];rw[renum_phi f o g]at hj ⊢;simp only[vH]at hj;obtain⟨p,C,rfl⟩:=Option.map_eq_some_iff.1 hj;obtain⟨m,t,v,A,B,rfl,E⟩:=(mem_sort_phi hk.toOrd).1 (vz C)
  have D:((sortP f.blocks.length (phiL f o x)).map (·.1)).getD j 0=toOf o t:=by rw[vA,vH,C];rfl
  dsimp only;rw[D];obtain⟨q,c,y,rfl,F⟩:=toOf_some E;rw[F,vG,reached_moved hA hv hk y];have d:=hk.phiArgs b r l hl i x hx g m _ v A B (by rw[vG];exact vz y);rw[there_moved hA hv hk d y];have:=hv.st b l hl hin i x hx m v B;unfold argOk at this;rw[wa g,show x.to.getD m 0=(c:Int) by rw[vA,A];rfl,vG]at this;exact this
 ·have z:(renum f o x).op≠28:=by rw[(renum_parts f o x).1];exact g
  unfold argOk;rw[yD z];rw[renum_no f o g]at hj;simp only[vH]at hj;obtain⟨v,u,rfl⟩:=Option.map_eq_some_iff.1 hj;have d:=hk.args b r l hl i x hx g v (vz u);rw[there_moved hA hv hk d hb];have:=hv.st b l hl hin i x hx j v u;unfold argOk at this
  rwa [yD g]at this
theorem moved_val (hA:RcAll){f:Fn}{o:List Nat}(hv:Val f)(hk:Keeps f o):Val (moved f o) where
 size:=by have C:=hv.size;have D:=hk.toOrd.short;have E:=o_pos hk.toOrd;have F:=hk.toOrd.total;have z:(moved f o).params=f.params:=rfl;have A:(moved f o).slots=f.slots:=rfl;rw[moved_len,z,A];omega
 ret:=hv.ret
 head:=hv.head
 arg:=by intro r m u g;obtain⟨k,d⟩:=List.getElem?_of_mem m;obtain⟨b,l,p,hl,rfl⟩:=moved_blk' hk.toOrd d;obtain⟨x,q,rfl⟩:=List.mem_map.1 g;exact arg_moved hv hk (vz p) hl q
 laid:=by intro r m;obtain⟨k,d⟩:=List.getElem?_of_mem m;obtain⟨b,l,p,hl,rfl⟩:=moved_blk' hk.toOrd d;have:=hv.laid l (vz hl);unfold Ref.laid at this ⊢;rw[laid_moved];simpa using this
 entry:=entry_moved hv hk
 phi:=by intro k r d u g y;obtain⟨b,l,p,hl,rfl⟩:=moved_blk' hk.toOrd d;obtain⟨x,q,rfl⟩:=List.mem_map.1 g;rw[(renum_parts f o x).1]at y;exact phi_moved hv hk p hl q y
 typ:=by intro r m u g;obtain⟨k,d⟩:=List.getElem?_of_mem m;obtain⟨b,l,p,hl,rfl⟩:=moved_blk' hk.toOrd d;obtain⟨x,q,rfl⟩:=List.mem_map.1 g;exact typ_moved hv hk (vz p) hl q
 st:=by intro k r d t i u g j G B;obtain⟨b,l,p,hl,rfl⟩:=moved_blk' hk.toOrd d;rw[vH]at g;obtain⟨x,q,rfl⟩:=Option.map_eq_some_iff.1 g;exact st_moved hA hv hk p hl t q B
end Ref
end
section
namespace Ref
theorem home_of (f:Fn){v:Int}(h0:0<=v)(h1:v<count f):(0<=v/\v<f.params.length)\/∃(b i:Nat)(l:List Ins)(x:Ins),f.blocks[b]?=some l/\l[i]?=some x/\v=((number f b+i:Nat):Int):=by
 rcases (by omega:v<f.params.length\/(f.params.length:Int)<=v) with h|h
 ·exact .inl ⟨h0,h⟩
 ·obtain⟨j,i,l,x,m,d,g,p⟩:=whereIs_some f v h h1;exact .inr ⟨j,i,l,x,d,g,by unfold number;omega⟩
theorem kind_in {f:Fn}{v:Int}(h:0<=kind f v):0<=v/\v<count f:=by
 unfold kind at h;split at h
 ·omega
 ·omega
theorem val_args {f:Fn}(hv:Val f){l:List Ins}(hl:l∈f.blocks){x:Ins}(hx:x∈l){v:Int}(h:v∈x.args):0<=v/\v<count f :=
 kind_in (((typed_iff f x).1 (hv.typ l hl x hx)).1 v h)
theorem keeps_all {f:Fn}{o:List Nat}(hv:Val f)(ho:Ord f o)(hall:∀b,b<f.blocks.length->b∈o):Keeps f o:=by
 have p:∀{l:List Ins},l∈f.blocks->∀{x:Ins},x∈l->∀v∈x.args,Kept f o v:=by
  intro l hl x m v g;obtain⟨u,r⟩:=val_args hv hl m g;rcases home_of f u r with h|⟨b,i,l,x,d,z,e⟩
  ·exact .inl h
  ·obtain⟨k,p⟩:=List.getElem?_of_mem (hall b (yC.1 d).1);exact .inr ⟨k,b,i,l,x,p,d,z,e⟩
 refine {toOrd:=ho,closed:=?_,args:=?_,phiArgs:=?_,phiSome:=?_}
 ·intro b d t q;have:=val_gok hv _ (vz (getD_graph hv (ho.lt b d))) t q;rw[graph_len]at this;exact hall _ (by omega)
 ·intro b d l hl i x m ho v g;exact p (vz hl) (vz m) v g
 ·intro b d l hl i x m ho j t v r y B;exact p (vz hl) (vz m) v (vz y)
 ·intro b d l hl x m ho;obtain⟨C,D,E,A⟩:=phi_parts hv hl m ho;obtain⟨t,q⟩:=List.exists_mem_of_length_pos (show 0<x.to.length by omega);have:=A t q;exact⟨t,q,hall _ (by omega)⟩
structure Back (f:Fn)(o p:List Nat):Prop where
 all:∀b,b<f.blocks.length->b∈o
 len:p.length=f.blocks.length
 back:∀b k:Nat,p[b]?=some k->o[k]?=some b
theorem Back.at {f:Fn}{o p:List Nat}(h:Back f o p)(hn:o.Nodup){b k:Nat}(hk:o[k]?=some b)(hb:b<f.blocks.length):p[b]?=some k:=by obtain⟨j,d⟩:∃j,p[b]?=some j:=⟨_,vu (by rw[h.len];exact hb)⟩;have g:=h.back b _ d;rw[d,get_uniq hn g hk]
def kept (f:Fn):List Nat:=(List.range f.blocks.length).filter fun b=>(reached (graph f) (-1)).getD b false
theorem mem_kept {f:Fn}{b:Nat}:b∈kept f↔b<f.blocks.length/\rc (graph f) (-1) b:=by unfold kept rc;rw[List.mem_filter,List.mem_range]
theorem kept_ord (hA:RcAll){f:Fn}(hv:Val f):Ord f (kept f):=by have j:rc (graph f) (-1) 0:=(hv.rc hA (-1)).root (by decide);have m:=hv.size.2.2.1;refine⟨List.Nodup.sublist List.filter_sublist List.nodup_range,fun b l=>(mem_kept.1 l).1,?_⟩;unfold kept;obtain⟨n,g⟩:∃n,f.blocks.length=n+1:=⟨f.blocks.length-1,by omega⟩;have d:(reached (graph f) (-1)).getD 0 false=true:=j;rw[g,List.range_succ_eq_map,List.filter_cons];simp only[d,if_true];rfl
theorem keeps_reached (hA:RcAll){f:Fn}(hv:Val f):Keeps f (kept f):=by
 have D:=hv.rc hA (-1);have ho:=kept_ord hA hv
 have U:∀b,b<f.blocks.length->∀t∈(graph f).getD b [],0<=t/\t<(f.blocks.length:Int):=fun b p t d=>by
  have:=val_gok hv _ (vz (getD_graph hv p)) t d
  rwa [graph_len]at this
 have q:∀b∈kept f,∀t∈(graph f).getD b [],t.toNat∈kept f:=by intro b p t d;obtain⟨O,P⟩:=mem_kept.1 p;have:=U b O t d;exact mem_kept.2 ⟨by omega,D.step b t P d (by omega)⟩
 have g:∀{b:Nat},b∈kept f->∀{v:Int},0<=v->v<count f->∀r,there f (graph f) v (b:Int) r=true->Kept f (kept f) v:=by
  intro b p v B C r d;rcases home_of f B C with h|⟨a,i,l,x,L,W,rfl⟩
  ·exact .inl h
  ·have y:=mem_kept.1 p
   have M:a∈kept f:=by
    have R:=(yC.1 L).1;unfold there at d;rw[whereIs_at f L (yC.1 W).1]at d;dsimp only at d;rw[yD (by omega)]at d;by_cases e:(a:Int)=(b:Int)
    ·have:a=b:=by omega
     subst this;exact p
    ·rw[yD e]at d;refine mem_kept.2 ⟨R,?_⟩;apply Classical.byContradiction;intro I;have E:=hv.rc hA (a:Int)
     have:rc (graph f) (a:Int) b:=by
      have:=D.least (fun i=>rc (graph f) (a:Int) i) (fun _=>E.root (fun e0=>I ((show a=0 by omega) ▸ D.root (by decide)))) (fun c t A hSc ht' hne=>by
        refine E.step c t hSc ht' (fun e'=>I ?_)
        have Y:t.toNat=a:=by omega
        rw[<-Y]
        exact D.step c t A ht' (by omega)) b y.2
      exact this
     unfold dominates at d;rw[decide_eq_false e,vG]at d;unfold rc at this;rw[this]at d;exact absurd d (by decide)
   obtain⟨k,hk⟩:=List.getElem?_of_mem M;exact .inr ⟨k,a,i,l,x,hk,L,W,rfl⟩
 refine {toOrd:=ho,closed:=q,args:=?_,phiArgs:=?_,phiSome:=?_}
 ·intro b p l hl i x u m v K;obtain⟨j,hj⟩:=List.getElem?_of_mem K;obtain⟨B,C⟩:=val_args hv (vz hl) (vz u) K;have:=hv.st b l hl (mem_kept.1 p).2 i x u j v hj;unfold argOk at this;rw[yD m]at this;exact g p B C _ this
 ·intro b p l hl i x u m j t v G H J;obtain⟨B,C⟩:=val_args hv (vz hl) (vz u) (vz H);have d:=arg_to (hv.arg l (vz hl) x (vz u)) t (vz G);have:=hv.st b l hl (mem_kept.1 p).2 i x u j v H;unfold argOk at this;have S:(reached (graph f) (-1)).getD t.toNat false=true:=(mem_kept.1 J).2;rw[wa m,show x.to.getD j 0=t by rw[vA,G];rfl,S,Bool.not_true,Bool.false_or]at this;have Z:t=((t.toNat:Nat):Int):=by omega
  rw[Z]at this;exact g J B C _ this
 ·intro b p l hl x u m;obtain⟨T,X,p3,p4⟩:=phi_parts hv hl u m;have z:=hv.phi b l hl x u m;have y:=mem_kept.1 p
  have N:b≠0:=by intro e;subst e;have:=hv.entry;rw[show ((0:Nat):Int)=0 from rfl,this]at z;rw[z]at T;simp at T;rw[T]at X;simp at X
  have:=D.least (fun i=>i=0\/∃c,c∈kept f/\(i:Int)∈(graph f).getD c []) (fun _=>.inl rfl) (fun c t A _ d _=>by
    have F:c<f.blocks.length:=by
      apply Classical.byContradiction
      intro aa
      rw[vA,vP (by rw[graph_len];omega)]at d
      simp at d
    have:=U c F t d
    exact .inr ⟨c,mem_kept.2 ⟨F,A⟩,by rw[show ((t.toNat:Nat):Int)=t by omega];exact d⟩) b y.2
  rcases this with h|⟨c,A,Q⟩
  ·exact absurd h N
  ·refine⟨(c:Int),?_,by simpa using A⟩;rw[z];exact mem_before.2 ⟨c,_,getD_graph hv (mem_kept.1 A).1,Q,rfl⟩
end Ref
end
section
namespace Ref
def at0 (l:List Int)(v:Int):Int:=l.getD v.toNat 0
structure Says (f:Fn)(o:List Nat)(nums tos:List Int):Prop where
 len:tos.length=f.blocks.length
 to:∀t:Int,0<=t->t<f.blocks.length->at0 tos t=toOf o t
 num:∀v:Int,Kept f o v->at0 nums v=num f o v
def placesFrom (b:Int):List Int->Nat->List Nat
 | [],_=>[]
 | t::r,k=>if t=b then k::placesFrom b r (k+1) else placesFrom b r (k+1)
theorem placesFrom_len (b:Int):∀(l:List Int)(k:Nat),(placesFrom b l k).length=l.count b
 | [],k=>rfl
 | t::r,k=>by
  rw[placesFrom,List.count_cons]
  by_cases h:t=b
  ·rw[wa h,List.length_cons,placesFrom_len b r];simp[h]
  ·rw[yD h,placesFrom_len b r];simp[h]
theorem mem_placesFrom (b:Int):∀(l:List Int)(k z:Nat),z∈placesFrom b l k↔∃j,l[j]?=some b/\z=k+j
 | [],k,z=>by simp[placesFrom]
 | t::r,k,z=>by
  rw[placesFrom]
  have ih:=mem_placesFrom b r (k+1) z
  constructor
  ·intro h;split at h
   ·next e =>
    rcases List.mem_cons.1 h with rfl|h
    ·exact⟨0,by rw[e];rfl,by simp⟩
    ·obtain⟨j,d,g⟩:=ih.1 h;exact⟨j+1,by simpa using d,by omega⟩
   ·obtain⟨j,d,g⟩:=ih.1 h;exact⟨j+1,by simpa using d,by omega⟩
  ·rintro⟨j,d,g⟩
   cases j with
   | zero =>
    simp at d;rw[wa d];simp;omega
   | succ j =>
    have:=ih.2 ⟨j,by simpa using d,by omega⟩;split
    ·exact List.mem_cons_of_mem _ this
    ·exact this
def orderTo (to:List Int)(n:Nat):List Nat:=(List.range n).flatMap fun b:Nat=>placesFrom (b:Int) to 0
theorem orderTo_succ (to:List Int)(n:Nat):orderTo to (n+1)=orderTo to n++placesFrom (n:Int) to 0:=by unfold orderTo;rw[List.range_succ,List.flatMap_append];simp
def permB (to:List Int):Bool:=(List.range to.length).all fun b=>decide ((b:Int)∈to)
theorem sum_count_le:∀(to:List Int)(n:Nat),((List.range n).map fun b=>to.count ((b:Nat):Int)).sum<=to.length
 | [],n=>by
  have:((List.range n).map fun b=>([]:List Int).count ((b:Nat):Int))=(List.range n).map fun _=>0:=List.map_congr_left fun b _=>by simp
  rw[this];clear this
  induction n with
  | zero=>simp
  | succ n ih=>rw[List.range_succ,List.map_append,List.sum_append];simpa using ih
 | t::r,n=>by
  have ih:=sum_count_le r n
  have m:((List.range n).map fun b=>(t::r).count ((b:Nat):Int)).sum<=((List.range n).map fun b=>r.count ((b:Nat):Int)).sum+1:=by
   clear ih
   have two:∀n,((List.range n).map fun b=>(t::r).count ((b:Nat):Int)).sum=((List.range n).map fun b=>r.count ((b:Nat):Int)).sum+(if 0<=t/\t<n then 1 else 0):=by
    intro n
    induction n with
    | zero=>simp<;>omega
    | succ n ih =>
     rw[List.range_succ,List.map_append,List.sum_append,ih,List.map_append,List.sum_append];simp only[List.map_cons,List.map_nil,List.sum_cons,List.sum_nil,List.count_cons];by_cases e:t=(n:Int)
     ·have g:¬(0<=t/\t<(n:Int)):=by omega
      have j:0<=t/\t<((n+1:Nat):Int):=by omega
      rw[yD g,wa j];simp[e];omega
     ·have l:(0<=t/\t<(n:Int))↔(0<=t/\t<((n+1:Nat):Int)):=by omega
      simp only[l];have d:¬(t == (n:Int))=true:=by simpa using e
      rw[yD d];omega
   rw[two n];split<;>omega
  rw[List.length_cons];omega
theorem sum_ones (c:Nat->Nat):∀n,(∀b,b<n->1<=c b)->((List.range n).map c).sum<=n->∀b,b<n->c b=1
 | 0,_,_,b,hb=>by omega
 | n+1,h,hs,b,hb=>by
  rw[List.range_succ,List.map_append,List.sum_append]at hs
  have g:∀m,m<=n->m<=((List.range m).map c).sum:=by
   intro m q
   induction m with
   | zero=>omega
   | succ m ih =>
    rw[List.range_succ,List.map_append,List.sum_append];have:=ih (by omega);have:=h m (by omega);simp;omega
  have j:=g n (vV _);have l:=h n (by omega);simp at hs;rcases (by omega:b<n\/b=n) with e|e
  ·exact sum_ones c n (fun d p=>h d (by omega)) (by omega) b e
  ·subst e;omega
theorem perm_count {to:List Int}(h:permB to=true):∀b:Nat,b<to.length->to.count (b:Int)=1:=by unfold permB at h;simp only[vT,List.mem_range,decide_eq_true_eq]at h;exact sum_ones _ to.length (fun b d=>List.one_le_count_iff.2 (h b d)) (sum_count_le to to.length)
theorem order_perm {to:List Int}(h:permB to=true):∀n,n<=to.length->(orderTo to n).length=n/\∀b k:Nat,(orderTo to n)[b]?=some k↔b<n/\to[k]?=some (b:Int)
 | 0,_=>⟨by simp[orderTo],fun b k=>by simp[orderTo]⟩
 | n+1,hn=>by
  obtain⟨l,r⟩:=order_perm h n (by omega)
  have m:=perm_count h n (by omega);rw[<-placesFrom_len (n:Int) to 0]at m;obtain⟨z,p⟩:=List.length_eq_one_iff.1 m
  have g:∀k:Nat,k=z↔to[k]?=some (n:Int):=by
   intro k;have:=mem_placesFrom (n:Int) to 0 k;rw[p]at this;simp only[List.mem_singleton,Nat.zero_add]at this;rw[this];constructor
   ·rintro⟨j,h,rfl⟩;exact h
   ·intro h;exact⟨k,h,rfl⟩
  rw[orderTo_succ,p];refine⟨by simp[l],fun b k=>?_⟩;rcases Nat.lt_trichotomy b n with d|d|d
  ·rw[vJ (by omega),r];constructor
   ·rintro⟨_,q⟩;exact⟨by omega,q⟩
   ·rintro⟨_,q⟩;exact⟨d,q⟩
  ·subst d;rw[vK (by omega),l];simp only[Nat.sub_self,vC,Option.some.injEq];rw[eq_comm,g k];exact⟨fun q=>⟨by omega,q⟩,fun q=>q.2⟩
  ·rw[vP (by simp;omega)];constructor
   ·intro q;cases q
   ·rintro⟨q,-⟩;omega
theorem order_ord {f:Fn}{to:List Int}(h:permB to=true)(hl:to.length=f.blocks.length)(h0:to[0]?=some 0):Ord f (orderTo to to.length)/\(∀b,b<f.blocks.length->b∈orderTo to to.length)/\(∀t:Int,0<=t->t<f.blocks.length->at0 to t=toOf (orderTo to to.length) t):=by
 obtain⟨L,g⟩:=order_perm h to.length (vV _)
 have y:∀b,b∈orderTo to to.length->b<f.blocks.length:=by intro k I;obtain⟨b,u⟩:=List.getElem?_of_mem I;have:=(yC.1 ((g b k).1 u).2).1;omega
 have p:(orderTo to to.length).Nodup:=by rw[List.nodup_iff_pairwise_ne,List.pairwise_iff_getElem];intro i j z H G e;have D:=((g i _).1 (vu z)).2;have J:=((g j _).1 (vu H)).2;rw[e,J]at D;have:=Option.some.inj D;omega
 have hlen:0<to.length:=by have:=(yC.1 h0).1;omega
 have l:∀b,b<f.blocks.length->∃c:Nat,c<to.length/\to[b]?=some (c:Int):=by
  intro b u
  have C:b∈orderTo to to.length:=by
   apply Classical.byContradiction;intro B
   have M:((orderTo to to.length)).length<=f.blocks.length-1:=by
    have:=sum_perm_le (fun i=>if i=b then 0 else 1) f.blocks.length (orderTo to to.length) p y
    have K:((orderTo to to.length).map fun i=>if i=b then 0 else 1).sum=(orderTo to to.length).length:=by rw[<-sum_one];congr 1;refine List.map_congr_left fun i z=>?_;have A:i≠b:=fun e=>B (by rw[<-e];exact z);simp[A]
    have E:∀n,b<n->((List.range n).map fun i=>if i=b then 0 else 1).sum<=n-1:=by
     intro n
     induction n with
     | zero=>intro h;omega
     | succ n ih =>
      intro F;rw[List.range_succ,List.map_append,List.sum_append];rcases (by omega:b<n\/b=n) with q|q
      ·have:=ih q;simp;split<;>omega
      ·subst q
       have:∀m,m<=b->((List.range m).map fun i=>if i=b then 0 else 1).sum<=m:=by
        intro m C
        induction m with
        | zero=>simp
        | succ m ihm =>
         rw[List.range_succ,List.map_append,List.sum_append];have:=ihm (by omega);simp;split<;>omega
       have:=this b (vV _);simp;omega
    have:=E f.blocks.length u;omega
   omega
  obtain⟨c,r⟩:=List.getElem?_of_mem C;exact⟨c,((g c b).1 r).1,((g c b).1 r).2⟩
 refine⟨⟨p,y,(g 0 0).2 ⟨hlen,h0⟩⟩,fun b u=>?_,fun t t0 t1=>?_⟩
 ·obtain⟨c,r,d⟩:=l b u;exact vz ((g c b).2 ⟨r,d⟩)
 ·obtain⟨c,r,d⟩:=l t.toNat (by omega);have:=toOf_get p ((g c t.toNat).2 ⟨r,d⟩);rw[show ((t.toNat:Nat):Int)=t by omega]at this;rw[this];unfold at0;rw[vA,d];rfl
end Ref
end
section
namespace Ref
def noFn:Fn:=⟨[],0,[],[]⟩
def renameE (f:Fn)(to:List Int):Int:=if validate f=0 then (if to.length=f.blocks.length/\to.getD 0 0=0 then (if permB to=true then 0 else 1) else 1) else validate f
def renameF (f:Fn)(to:List Int):Fn:=if renameE f to=0 then moved f (orderTo to to.length) else noFn
def pruneE (f:Fn):Int:=validate f
def pruneF (f:Fn):Fn:=if validate f=0 then moved f (kept f) else noFn
theorem renameE_ok {f:Fn}{to:List Int}(h:renameE f to=0):Val f/\to.length=f.blocks.length/\to[0]?=some 0/\permB to=true:=by
 unfold renameE at h;by_cases g:validate f=0
 ·rw[wa g]at h;by_cases j:to.length=f.blocks.length/\to.getD 0 0=0
  ·rw[wa j]at h;by_cases l:permB to=true
   ·have hv:=(val_iff f).1 g;have m:=hv.size.2.2.1;refine⟨hv,j.1,?_,l⟩;have d:0<to.length:=by omega
    have:=j.2;rw[vA,vu d]at this;rw[vu d];simpa using this
   ·rw[yD l]at h;omega
  ·rw[yD j]at h;omega
 ·rw[yD g]at h;exact absurd h g
theorem renameE_of {f:Fn}{to:List Int}(hv:Val f)(h1:to.length=f.blocks.length)(h2:to[0]?=some 0)(h3:permB to=true):renameE f to=0:=by unfold renameE;rw[wa ((val_iff f).2 hv),wa ⟨h1,by rw[vA,h2];rfl⟩,wa h3]
theorem moved_nums_start (f:Fn)(o:List Nat)(k b:Nat)(h:o[k]?=some b):start f (o.take (k+1))=start f (o.take k)+(f.blocks.getD b []).length:=by unfold start;rw[List.take_add_one,h,List.map_append,List.sum_append];simp;omega
end Ref
end
section
namespace Ref
theorem asc_len:∀(n:Nat)(l:List Int),l.Pairwise (fun a c=>a<c)->(∀t∈l,0<=t/\t<n)->l.length<=n:=by
 intro n l q j
 have g:(l.map Int.toNat).Nodup:=by rw[List.nodup_iff_pairwise_ne,List.pairwise_map];refine List.Pairwise.imp_of_mem (fun {a b} p d h=>?_) q;have:=j a p;have:=j b d;omega
 have m:=sum_perm_le (fun _=>1) n (l.map Int.toNat) g (fun b d=>by
   obtain⟨t,r,rfl⟩:=List.mem_map.1 d
   have:=j t r;omega)
 rw[sum_one,sum_one,vS,List.length_range]at m;exact m
def Small (s:Int × Int × Bool):Prop:=0<=s.1/\s.1<=3/\0<=s.2.1/\s.2.1<=2
theorem small_ite {c:Prop}[Decidable c]{a b:Int × Int × Bool}(h1:Small a)(h2:Small b):Small (if c then a else b):=by split<;>assumption
theorem small_mk (a c:Int)(b:Bool)(h:0<=a/\a<=3/\0<=c/\c<=2):Small (a,c,b):=h
theorem shape_small (f:Fn)(x:Ins)(h28:x.op≠28):Small (shape f x):=by
 have h:∀b,Small (if 0<f.ret then 1 else 0,0,b):=fun b=>by split<;>exact small_mk _ _ _ (by decide)
 unfold shape;rw[yD h28]
 repeat' refine small_ite ?_ ?_
 all_goals (first|exact h _|exact small_mk _ _ _ (by decide))
theorem ins_facts {f:Fn}(hv:Val f){b:Nat}{l:List Ins}(hl:f.blocks[b]?=some l){x:Ins}(hx:x∈l) :
  (x.op=28->x.args.length=x.to.length)/\(∀z∈x.args,0<=z/\z<count f)/\(∀z∈x.to,0<=z/\z<f.blocks.length)/\x.args.length<=10/\x.to.length<=10:=by
 have j:=vz hl;have d:=(argument_iff f x).1 (hv.arg l j x hx);have g:=(counts_iff _ _).1 d.2.1;obtain⟨q,r,t,u,y⟩:=hv.size;refine⟨fun h=>(phi_parts hv hl hx h).1,fun z hz=>val_args hv j hx hz,d.2.2.1,?_⟩;by_cases h:x.op=28
 ·obtain⟨C,D,m,p⟩:=phi_parts hv hl hx h;have:=asc_len f.blocks.length x.to m p;omega
 ·obtain⟨s1,s2,s3,s4⟩:=shape_small f x h;have A:=g.1 s1;have B:=g.2.2 s3;omega
end Ref
end
