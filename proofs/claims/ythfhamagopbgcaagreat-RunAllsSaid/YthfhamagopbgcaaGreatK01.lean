/- Parts. -/
import Derived.Test.YthfhamagopbgcaaGreatK00
import Derived.WalkKit
import Derived.WalkSpells
import Derived.WalkLawsBesides
import Derived.Deep.Draws
import Derived.Maps.AppendAt
import Derived.Deep.RegionHeld3
set_option linter.unusedSimpArgs false
set_option linter.unusedVariables false
set_option maxRecDepth 100000
set_option maxHeartbeats 16000000
namespace Go.Proofs.YthfhamagopbgcaaGreat
section
open Go.RowKit
structure Ins where
 op:Int
 width:Int
 flags:Int
 args:List Int
 imm:Int
 to:List Int
 deriving Inhabited,DecidableEq
structure Fn where
 params:List Int
 ret:Int
 slots:List Int
 blocks:List (List Ins)
 deriving Inhabited,DecidableEq
def SlAt (B:Nat)(v:Value)(n:Nat)(R:Nat->Nat->Prop):Prop :=
 ∃A cap,v=.slice A n cap/\n<=cap/\n<=17592186044416/\(0<n->∃b off,A=some ⟨b,off,none⟩/\b<B/\R b off)
def IntsAt (B:Nat)(w:World)(v:Value)(zs:List Int):Prop :=
 SlAt B v zs.length fun b off=>∀j z,zs[j]?=some z->w.cell? ⟨b,off+j,none⟩=some (.int .i64 z)
def InsAt (B:Nat)(w:World)(b off:Nat)(x:Ins):Prop :=
 ∃va vt,w.cell? ⟨b,off,none⟩=some (.int .i64 x.op)/\w.cell? ⟨b,off+1,none⟩=some (.int .i64 x.width)/\w.cell? ⟨b,off+2,none⟩=some (.int .i64 x.flags) /\
  w.cell? ⟨b,off+3,none⟩=some va/\w.cell? ⟨b,off+4,none⟩=some (.int .u32 x.imm)/\w.cell? ⟨b,off+5,none⟩=some vt/\IntsAt B w va x.args/\IntsAt B w vt x.to
def BlkAt (B:Nat)(w:World)(v:Value)(l:List Ins):Prop :=
 SlAt B v l.length fun b off=>∀j x,l[j]?=some x->InsAt B w b (off+j*6) x
def BlksAt (B:Nat)(w:World)(v:Value)(bs:List (List Ins)):Prop :=
 SlAt B v bs.length fun b off=>∀j l,bs[j]?=some l->∃u,w.cell? ⟨b,off+j,none⟩=some u/\BlkAt B w u l
def FnAt (B:Nat)(w:World)(v:Value)(f:Fn):Prop :=
 ∃vp vs vb,v=.agg #[vp,.int .i64 f.ret,vs,vb]/\IntsAt B w vp f.params/\IntsAt B w vs f.slots/\BlksAt B w vb f.blocks
section
variable {B:Nat}{w w':World}
theorem SlAt.imp {v:Value}{n:Nat}{R R':Nat->Nat->Prop}(h:SlAt B v n R)(hr:∀b off,b<B->R b off->R' b off):SlAt B v n R':=by obtain⟨A,d,rfl,j,l,m⟩:=h;refine⟨A,d,rfl,j,l,fun q=>?_⟩;obtain⟨b,off,e,g,p⟩:=m q;exact⟨b,off,e,g,hr b off g p⟩
theorem IntsAt.below {v:Value}{zs:List Int}(h:IntsAt B w v zs)(hb:Below B w w'):IntsAt B w' v zs :=
 SlAt.imp h fun b off d g j z l=>(hb.cell (p:=⟨b,off+j,none⟩) d).trans (g j z l)
theorem InsAt.below {b off:Nat}{x:Ins}(h:InsAt B w b off x)(hlt:b<B)(hb:Below B w w'):InsAt B w' b off x:=by
 obtain⟨va,vt,d,g,j,l,m,q,r,t⟩:=h
 exact⟨va,vt,(hb.cell (p:=⟨b,off,none⟩) hlt).trans d,(hb.cell (p:=⟨b,off+1,none⟩) hlt).trans g,(hb.cell (p:=⟨b,off+2,none⟩) hlt).trans j,
   (hb.cell (p:=⟨b,off+3,none⟩) hlt).trans l,(hb.cell (p:=⟨b,off+4,none⟩) hlt).trans m,(hb.cell (p:=⟨b,off+5,none⟩) hlt).trans q,r.below hb,t.below hb⟩
theorem BlkAt.below {v:Value}{l:List Ins}(h:BlkAt B w v l)(hb:Below B w w'):BlkAt B w' v l :=
 SlAt.imp h fun _ _ d g j x m=>(g j x m).below d hb
theorem BlksAt.below {v:Value}{bs:List (List Ins)}(h:BlksAt B w v bs)(hb:Below B w w'):BlksAt B w' v bs :=
 SlAt.imp h fun b off g m j l hl=>by obtain⟨u,q,d⟩:=m j l hl;exact⟨u,(hb.cell (p:=⟨b,off+j,none⟩) g).trans q,d.below hb⟩
theorem FnAt.below {v:Value}{f:Fn}(h:FnAt B w v f)(hb:Below B w w'):FnAt B w' v f:=by obtain⟨vp,vs,vb,rfl,d,g,j⟩:=h;exact⟨vp,vs,vb,rfl,d.below hb,g.below hb,j.below hb⟩
theorem SlAt.mono {B':Nat}{v:Value}{n:Nat}{R:Nat->Nat->Prop}(h:SlAt B v n R)(hB:B<=B'):SlAt B' v n R:=by obtain⟨A,d,rfl,g,j,l⟩:=h;refine⟨A,d,rfl,g,j,fun p=>?_⟩;obtain⟨b,off,e,q,m⟩:=l p;exact⟨b,off,e,by omega,m⟩
theorem IntsAt.mono {B':Nat}{v:Value}{zs:List Int}(h:IntsAt B w v zs)(hB:B<=B'):IntsAt B' w v zs:=SlAt.mono h hB
theorem InsAt.mono {B' b off:Nat}{x:Ins}(h:InsAt B w b off x)(hB:B<=B'):InsAt B' w b off x:=by obtain⟨va,vt,d,g,j,l,m,p,q,r⟩:=h;exact⟨va,vt,d,g,j,l,m,p,q.mono hB,r.mono hB⟩
theorem BlkAt.mono {B':Nat}{v:Value}{l:List Ins}(h:BlkAt B w v l)(hB:B<=B'):BlkAt B' w v l :=
 SlAt.mono (SlAt.imp h fun _ _ _ d j x g=>(d j x g).mono hB) hB
theorem BlksAt.mono {B':Nat}{v:Value}{bs:List (List Ins)}(h:BlksAt B w v bs)(hB:B<=B'):BlksAt B' w v bs :=
 SlAt.mono (SlAt.imp h fun _ _ _ g j l hl=>by
   obtain⟨u,m,d⟩:=g j l hl
   exact⟨u,m,d.mono hB⟩) hB
theorem FnAt.mono {B':Nat}{v:Value}{f:Fn}(h:FnAt B w v f)(hB:B<=B'):FnAt B' w v f:=by obtain⟨vp,vs,vb,rfl,d,g,j⟩:=h;exact⟨vp,vs,vb,rfl,d.mono hB,g.mono hB,j.mono hB⟩
end
theorem dq {α:Type}{l:List α}{k:Nat}{x:α}{r:List α}(h:l.drop k=x::r):k<l.length/\l[k]?=some x/\l.drop (k+1)=r:=by
 have g:k<l.length:=by
  rcases wh k l.length with d|d
  ·exact d
  ·rw[vQ d]at h;cases h
 rw[vM g]at h;injection h with d j;exact⟨g,by rw[vu g,d],j⟩
theorem dv {α:Type}{l:List α}{k:Nat}(h:l.drop k=[])(hk:k<=l.length):k=l.length:=by have:=List.drop_eq_nil_iff.1 h;omega
end
section
namespace Ref
def isWidth (n:Int):Bool:=decide (1<=n) && decide (n<=32)
def isWordOf (n x:Int):Bool:=isWidth n && decide (x<2 ^ n.toNat)
def isLast (op:Int):Bool:=decide (op=29) || decide (op=30) || decide (op=31) || decide (op=32)
def plain0 (fl im:Int):Bool:=decide (fl=0) && decide (im=0)
def plain (x:Ins):Bool:=plain0 x.flags x.imm
def arith0 (op fl:Int):Bool :=
 if op=1\/op=2\/op=3\/op=11 then decide (0<=fl) && decide (fl<=3)
 else if op=4\/op=6\/op=12\/op=13 then decide (fl=0) || decide (fl=4)
 else decide (fl=0)
def arith (x:Ins):Bool:=arith0 x.op x.flags
def has (l:List Int)(n:Int):Bool:=l.any fun z=>decide (z=n)
def sameInts:List Int->List Int->Bool
 | [],[]=>true
 | a::azs,b::bs=>decide (a=b) && sameInts azs bs
 | _,_=>false
def total (bs:List (List Ins)):Nat:=(bs.map List.length).sum
def number (f:Fn)(k:Nat):Nat:=f.params.length+total (f.blocks.take k)
def count (f:Fn):Nat:=number f f.blocks.length
def whereFrom (v:Int):List (List Ins)->Nat->Nat->Int × Int
 | [],_,_=>(-1,-1)
 | l::r,b,n=>if (n:Int)<=v/\v<n+l.length then (b,v-n) else whereFrom v r (b+1) (n+l.length)
def whereIs (f:Fn)(v:Int):Int × Int:=whereFrom v f.blocks 0 f.params.length
def insAt? (f:Fn)(b i:Int):Option Ins:=(f.blocks[b.toNat]?).bind fun l=>l[i.toNat]?
def kind (f:Fn)(v:Int):Int :=
 if v<0\/(count f:Int)<=v then -1
 else if v<f.params.length then f.params.getD v.toNat 0
 else ((insAt? f (whereIs f v).1 (whereIs f v).2).map (·.width)).getD 0
def shape (f:Fn)(x:Ins):Int × Int × Bool :=
 if x.op=0 then (0,0,isWidth x.width && decide (x.flags=0) && isWordOf x.width x.imm)
 else if x.op=14 then (2,0,decide (x.width=1) && decide (x.flags=0) && decide (x.imm<=9))
 else if x.op=15 then (3,0,(isWidth x.width || decide (x.width=33)) && plain x)
 else if x.op=16\/x.op=17\/x.op=18\/x.op=21 then (1,0,isWidth x.width && plain x)
 else if x.op=19\/x.op=20 then (2,0,isWidth x.width && decide (x.flags=0) && decide (1<=x.imm) && decide (x.imm<x.width) && decide (x.width%x.imm=0))
 else if x.op=22\/x.op=23 then (0,0,isWidth x.width && plain x)
 else if x.op=24 then (0,0,decide (x.width=33) && decide (x.flags=0) && decide (x.imm<f.slots.length))
 else if x.op=25 then (2,0,decide (x.width=33) && decide (x.imm=0) && (decide (x.flags=0) || decide (x.flags=8)))
 else if x.op=26 then (1,0,(decide (x.width=8) || decide (x.width=16) || decide (x.width=32)) && plain x)
 else if x.op=27 then (2,0,decide (x.width=0) && plain x)
 else if x.op=28 then (-1,-1,(isWidth x.width || decide (x.width=33)) && plain x && decide (0<x.args.length))
 else if x.op=29 then (0,1,decide (x.width=0) && plain x)
 else if x.op=30 then (1,2,decide (x.width=0) && plain x)
 else if x.op=31 then (if 0<f.ret then 1 else 0,0,decide (x.width=0) && plain x)
 else if x.op=32 then (0,0,decide (x.width=0) && plain x)
 else if 1<=x.op/\x.op<=13 then (2,0,isWidth x.width && decide (x.imm=0) && arith x)
 else (0,0,false)
def counts (s:Int × Int × Bool)(x:Ins):Bool :=
 !(decide (0<=s.1) && decide ((x.args.length:Int)≠s.1) || decide (s.1<0) && decide (x.args.length≠x.to.length) || decide (0<=s.2.1) && decide ((x.to.length:Int)≠s.2.1))
def argument (f:Fn)(x:Ins):Bool :=
 (shape f x).2.2 && counts (shape f x) x && x.to.all (fun z=>decide (0<=z) && decide (z<f.blocks.length)) && (decide (x.op≠30) || decide (x.to.getD 0 0≠x.to.getD 1 0))
def graph (f:Fn):List (List Int):=f.blocks.map fun l=>(l.getLast?.map (·.to)).getD []
def beforeFrom (v:Int):List (List Int)->Nat->List Int
 | [],_=>[]
 | l::r,b=>if has l v then (b:Int)::beforeFrom v r (b+1) else beforeFrom v r (b+1)
def before (g:List (List Int))(v:Int):List Int:=beforeFrom v g 0
def laidFrom:List Ins->Bool->Bool
 | [],_=>true
 | x::r,prev=>(isLast x.op == r.isEmpty) && (decide (x.op≠28) || prev) && laidFrom r (decide (x.op=28))
def laid (l:List Ins):Bool:=!l.isEmpty && laidFrom l true
def phisFrom (g:List (List Int)):List (List Ins)->Nat->Bool
 | [],_=>true
 | l::r,b=>l.all (fun x=>decide (x.op≠28) || sameInts x.to (before g b)) && phisFrom g r (b+1)
def rules (f:Fn):Bool:=f.blocks.all laid && (before (graph f) 0).isEmpty && phisFrom (graph f) f.blocks 0
def isMem (k:Int):Bool:=decide (k=8) || decide (k=16) || decide (k=32)
def typedKinds (f:Fn)(x:Ins)(k:List Int):Bool :=
 if x.op=14 then isWidth (k.getD 0 0) && decide (k.getD 1 0=k.getD 0 0)
 else if x.op=15 then decide (k.getD 0 0=1) && decide (k.getD 1 0=x.width) && decide (k.getD 2 0=x.width)
 else if x.op=16\/x.op=17 then isWidth (k.getD 0 0) && decide (k.getD 0 0<x.width)
 else if x.op=18 then isWidth (k.getD 0 0) && decide (x.width<k.getD 0 0)
 else if x.op=25 then decide (k.getD 0 0=33) && isWidth (k.getD 1 0)
 else if x.op=26 then decide (k.getD 0 0=33)
 else if x.op=27 then decide (k.getD 0 0=33) && isMem (k.getD 1 0)
 else if x.op=30 then decide (k.getD 0 0=1)
 else if x.op=31 then decide (k.length=0) || decide (k.getD 0 0=f.ret)
 else k.all fun z=>decide (z=x.width)
def typed (f:Fn)(x:Ins):Bool:=x.args.all (fun v=>decide (0<=kind f v)) && typedKinds f x (x.args.map (kind f))
def spreadEdge (without:Int)(out:List Bool)(t:Int):List Bool:=if t=without then out else out.set t.toNat true
def spreadBlock (without:Int)(g:List (List Int))(out:List Bool)(b:Nat):List Bool:=if out.getD b false then (g.getD b []).foldl (spreadEdge without) out else out
def spreadRound (without:Int)(g:List (List Int))(out:List Bool):List Bool:=(List.range g.length).foldl (spreadBlock without g) out
def spread (without:Int)(g:List (List Int)):Nat->List Bool->List Bool
 | 0,out=>out
 | n+1,out=>spread without g n (spreadRound without g out)
def reached (g:List (List Int))(without:Int):List Bool :=
 if without=0 then List.replicate g.length false else spread without g g.length ((List.replicate g.length false).set 0 true)
def dominates (g:List (List Int))(a b:Int):Bool:=decide (a=b) || !(reached g a).getD b.toNat false
def there (f:Fn)(g:List (List Int))(v block place:Int):Bool :=
 if (whereIs f v).1<0 then true
 else if (whereIs f v).1=block then decide (place<0) || decide ((whereIs f v).2<place)
 else dominates g (whereIs f v).1 block
def argOk (f:Fn)(g:List (List Int))(inn:List Bool)(b i:Nat)(x:Ins)(v t:Int):Bool :=
 if x.op=28 then !inn.getD t.toNat false || there f g v t (-1) else there f g v b i
def argsFrom (f:Fn)(g:List (List Int))(inn:List Bool)(b i:Nat)(x:Ins):List Int->Nat->Bool
 | [],_=>true
 | v::r,k=>argOk f g inn b i x v (x.to.getD k 0) && argsFrom f g inn b i x r (k+1)
def insFrom (f:Fn)(g:List (List Int))(inn:List Bool)(b:Nat):List Ins->Nat->Bool
 | [],_=>true
 | x::r,i=>argsFrom f g inn b i x x.args 0 && insFrom f g inn b r (i+1)
def blksFrom (f:Fn)(g:List (List Int))(inn:List Bool):List (List Ins)->Nat->Bool
 | [],_=>true
 | l::r,b=>(!inn.getD b false || insFrom f g inn b l 0) && blksFrom f g inn r (b+1)
def stated (f:Fn):Bool:=blksFrom f (graph f) (reached (graph f) (-1)) f.blocks 0
def isSlot (n:Int):Bool:=decide (1<=n) && decide (n<=8)
def validate (f:Fn):Int :=
 if 3<f.params.length\/2<f.slots.length\/f.blocks.length<1\/10<f.blocks.length then 3
 else if 40<total f.blocks then 3
 else if f.ret<0\/32<f.ret then 1
 else if f.params.all isWidth=false then 1
 else if f.slots.all isSlot=false then 1
 else if f.blocks.all (fun l=>l.all (argument f))=false then 1
 else if rules f=false then 7
 else if f.blocks.all (fun l=>l.all (typed f))=false then 6
 else if stated f=false then 9
 else 0
theorem sameInts_eq:∀(a b:List Int),sameInts a b=decide (a=b)
 | [],[]=>by simp[sameInts]
 | [],_::_=>by simp[sameInts]
 | _::_,[]=>by simp[sameInts]
 | a::azs,b::bs=>by
  rw[sameInts,sameInts_eq azs bs]
  by_cases h:a=b<;>by_cases h2:azs=bs<;>simp[h,h2]
theorem total_cons (l:List Ins)(r:List (List Ins)):total (l::r)=l.length+total r:=by simp[total]
theorem total_take_succ (bs:List (List Ins))(k:Nat)(l:List Ins)(h:bs[k]?=some l):total (bs.take (k+1))=total (bs.take k)+l.length:=by obtain⟨d,e⟩:=yq.1 h;subst e;unfold total;rw[wi d,List.map_append,List.sum_append];simp
theorem whereFrom_some (v:Int):∀(bs:List (List Ins))(b n:Nat),(n:Int)<=v->v<(n+total bs:Nat) ->
  ∃(j i:Nat)(l:List Ins)(x:Ins),whereFrom v bs b n=(((b+j:Nat):Int),(i:Int))/\bs[j]?=some l/\l[i]?=some x/\v=n+total (bs.take j)+i
 | [],b,n,h1,h2=>by simp[total]at h2;omega
 | l::r,b,n,h1,h2=>by
  rw[total_cons]at h2
  by_cases h:v<n+l.length
  ·refine⟨0,(v-n).toNat,l,l[(v-n).toNat]'(by omega),?_,rfl,by simp,by simp[total];omega⟩
   rw[whereFrom,wa ⟨h1,h⟩]
   simp;omega
  ·obtain⟨j,i,p,x,d,g,m,q⟩:=whereFrom_some v r (b+1) (n+l.length) (by omega) (by omega)
   refine⟨j+1,i,p,x,?_,by simpa using g,m,?_⟩
   ·rw[whereFrom,wb (by omega),d];rw[show b+1+j=b+(j+1) by omega]
   ·rw[wt,total_cons];omega
theorem whereIs_some (f:Fn)(v:Int)(h1:(f.params.length:Int)<=v)(h2:v<count f) :
  ∃(j i:Nat)(l:List Ins)(x:Ins),whereIs f v=((j:Int),(i:Int))/\f.blocks[j]?=some l/\l[i]?=some x/\v=f.params.length+total (f.blocks.take j)+i:=by
 obtain⟨j,i,l,x,d,g,m,p⟩:=whereFrom_some v f.blocks 0 f.params.length h1 (by unfold count number at h2;rw[wg]at h2;exact h2);exact⟨j,i,l,x,by rw[whereIs,d];simp,g,m,p⟩
theorem whereFrom_none (v:Int):∀(bs:List (List Ins))(b n:Nat),v<n->whereFrom v bs b n=(-1,-1)
 | [],b,n,h=>rfl
 | l::r,b,n,h=>by rw[whereFrom,wb (by omega)];exact whereFrom_none v r (b+1) (n+l.length) (by omega)
end Ref
end
section
open Go.RowKit
def Gr (w w':World):Prop:=Below w.heap.size w w'
section
variable {w a b c:World}
abbrev C6 (u:World)(k:Nat)(a b c d e f:Value):Prop:=u.cell? ⟨k,0,none⟩=some a/\u.cell? ⟨k,1,none⟩=some b/\u.cell? ⟨k,2,none⟩=some c/\u.cell? ⟨k,3,none⟩=some d/\u.cell? ⟨k+1,0,none⟩=some e/\u.cell? ⟨k+1,1,none⟩=some f
abbrev RG (v:Value)(w:World)(e:Ending)(w':World):Prop:=e=.returned v/\Gr w w'
abbrev RS (v:Value)(w:World)(e:Ending)(w':World):Prop:=e=.returned v/\w=w'
abbrev RT (v:Value)(w:World)(e:Ending)(w':World):Prop:=e=.returned v/\w'=w
theorem wL (w:World):Gr w w:=Below.refl _ _
theorem Gr.size (h:Gr a b):a.heap.size<=b.heap.size:=Below.size h
theorem Gr.trans (h:Gr a b)(k:Gr b c):Gr a c:=Below.trans h (Below.mono k h.size)
theorem Gr.alloc (h:Gr w a)(o:Obj):Gr w (a.alloc o):=Below.alloc h h.size o
theorem Gr.drew (h:Gr w a):Gr w a.drew:=Below.drew h
theorem Gr.drewN (h:Gr w a)(n:Nat):Gr w (a.drewN n):=⟨h.os,h.tape,h.output,h.size,h.block⟩
theorem Gr.setCell (h:Gr w a){p:Addr}(hp:w.heap.size<=p.block)(u:Value):Gr w (a.setCell p u):=Below.setCell h hp u
theorem Gr.grown {row:Option Nat}(h:Gr w a)(hg:a.grownBy b row)(hr:∀k,row=some k->w.heap.size<=k):Gr w b:=Below.grown h hg h.size hr
theorem Gr.cell (h:Gr a b):∀k o,k<a.heap.size->b.cell? ⟨k,o,none⟩=a.cell? ⟨k,o,none⟩:=fun k o d=>Below.cell (p:=⟨k,o,none⟩) h d
theorem Gr.frozen (h:Gr a b):∀k o,k<a.heap.size->b.frozen? ⟨k,o,none⟩=a.frozen? ⟨k,o,none⟩:=fun k o d=>Below.frozen (p:=⟨k,o,none⟩) h d
theorem Gr.heap (h:Gr a b):∀k,k<a.heap.size->b.heap[k]?=a.heap[k]?:=fun k d=>h.block k d
theorem IntsAt.gr {v:Value}{zs:List Int}(h:IntsAt a.heap.size a v zs)(g:Gr a b):IntsAt b.heap.size b v zs:=(h.below g).mono g.size
theorem BlkAt.gr {v:Value}{l:List Ins}(h:BlkAt a.heap.size a v l)(g:Gr a b):BlkAt b.heap.size b v l:=(h.below g).mono g.size
theorem BlksAt.gr {v:Value}{l:List (List Ins)}(h:BlksAt a.heap.size a v l)(g:Gr a b):BlksAt b.heap.size b v l:=(h.below g).mono g.size
theorem FnAt.gr {v:Value}{f:Fn}(h:FnAt a.heap.size a v f)(g:Gr a b):FnAt b.heap.size b v f:=(h.below g).mono g.size
end
theorem cZ {a b:Bool}(h:a=b):Ending.returned (.bool a)=.returned (.bool b):=by rw[h]
theorem de {k:IntKind}{a b:Int}(h:a=b):Ending.returned (.int k a)=.returned (.int k b):=by rw[h]
theorem dB {a b:Value}(h:a=b):Ending.returned a=.returned b:=by rw[h]
def df (x:Ins)(va vt:Value):Value:=.agg #[.int .i64 x.op,.int .i64 x.width,.int .i64 x.flags,va,.int .u32 x.imm,vt]
def ud (B:Nat)(w:World)(v:Value)(x:Ins):Prop:=∃va vt,v=df x va vt/\IntsAt B w va x.args/\IntsAt B w vt x.to
def TabAt (B:Nat)(w:World)(v:Value)(t:List (List Int)):Prop :=
 SlAt B v t.length fun b off=>∀j l,t[j]?=some l->∃u,w.cell? ⟨b,off+j,none⟩=some u/\IntsAt B w u l
theorem TabAt.below {B:Nat}{w w':World}{v:Value}{t:List (List Int)}(h:TabAt B w v t)(hb:Below B w w'):TabAt B w' v t :=
 SlAt.imp h fun b off g m j l hl=>by obtain⟨u,q,d⟩:=m j l hl;exact⟨u,(hb.cell (p:=⟨b,off+j,none⟩) g).trans q,d.below hb⟩
theorem TabAt.mono {B B':Nat}{w:World}{v:Value}{t:List (List Int)}(h:TabAt B w v t)(hB:B<=B'):TabAt B' w v t :=
 SlAt.mono (SlAt.imp h fun _ _ _ g j l hl=>by
   obtain⟨u,m,d⟩:=g j l hl
   exact⟨u,m,d.mono hB⟩) hB
theorem TabAt.gr {a b:World}{v:Value}{l:List (List Int)}(h:TabAt a.heap.size a v l)(g:Gr a b):TabAt b.heap.size b v l:=(h.below g).mono g.size
def BoolsAt (B:Nat)(w:World)(v:Value)(bs:List Bool):Prop :=
 SlAt B v bs.length fun b off=>∀j z,bs[j]?=some z->w.cell? ⟨b,off+j,none⟩=some (.bool z)
theorem BoolsAt.below {B:Nat}{w w':World}{v:Value}{zs:List Bool}(h:BoolsAt B w v zs)(hb:Below B w w'):BoolsAt B w' v zs :=
 SlAt.imp h fun b off d g j z l=>(hb.cell (p:=⟨b,off+j,none⟩) d).trans (g j z l)
theorem BoolsAt.mono {B B':Nat}{w:World}{v:Value}{zs:List Bool}(h:BoolsAt B w v zs)(hB:B<=B'):BoolsAt B' w v zs:=SlAt.mono h hB
theorem BoolsAt.gr {a b:World}{v:Value}{l:List Bool}(h:BoolsAt a.heap.size a v l)(g:Gr a b):BoolsAt b.heap.size b v l:=(h.below g).mono g.size
theorem dm {P:Program}{f:FuncId}{args:Array Value}{w:World}{n:Nat}{v:Value}
  (h:Calls P f args (w.drewN n) fun e w'=>e=.returned v/\w.drewN n=w'):Calls P f args (w.drewN n) fun e w''=>e=.returned v/\∃m,w''=w.drewN m :=
 h.mono fun _ _ ⟨d,g⟩=>⟨d,n,g.symm⟩
theorem eP (b o j:Nat):Addr.add ⟨b,o,none⟩ j=⟨b,o+j,none⟩:=by unfold Addr.add;split<;>simp_all
def Src (w:World)(u:Value)(size m:Nat)(news:List Value):Prop :=
 ∃A c,u=.slice A m c/\news.length=m*size/\(0<m->∃ad,A=some ad/\∀j x,news[j]?=some x->w.cell? (ad.add j)=some x)
section
variable {P:Program}{w:World}
theorem je (base:Nat)(t ty e:TypeId)(i:TypeInfo)(z:Value)(size bytes:Nat)(ht:P.underlying t=some (.slice e))(hi:P.info? e=some i)(hz:i.zero=some z)
  (hsize:i.size=size) (hby:i.bytes=bytes) (hzs:z.cells.size=size) (hsz:0<size) (v:Value) (n:Nat) (xs:List Value) (hown:w.ownsRow base e size v n xs)
  (u:Value) (m:Nat) (news:List Value) (hu:Src w u size m news) (h1:∀x∈news,x.oneCell'=true) (h63:n+m<=maxLen) (hbytes:(n+m)*bytes<=140737488355328) (hbase:base<=w.heap.size) :
  ∃v' w',(Builtin.append_ #[t,t] ty #[v,u]).run P w=.ok v' w'/\w'.ownsRow base e size v' (n+m) (xs++news)/\w.grownBy w' v.ownBlock/\(v'.ownBlock=v.ownBlock\/v'.ownBlock=some w.heap.size):=by
 obtain⟨A,c,rfl,hlen,d⟩:=hu
 cases A with
 | none =>
  have I:m=0:=by
   rcases Nat.eq_zero_or_pos m with h|h
   ·exact h
   ·obtain⟨_,E,_⟩:=d h;cases E
  subst I;have p:news=[]:=wu (by simpa using hlen);subst p;refine⟨v,w,?_,by simpa using hown,World.grownBy.refl w _,.inl rfl⟩;rcases hown.2 with ⟨rfl,rfl⟩|⟨g,B,C,rfl,_,_,q,_⟩
  ·simp[Builtin.append_,run_underlying ht,sizeOf,typeInfo,hi,Builtin.lenOf,Builtin.firstCells]
  ·simp[Builtin.append_,run_underlying ht,sizeOf,typeInfo,hi,Builtin.lenOf,Builtin.firstCells,q,storeCells]
 | some ad =>
  have l:∀j x,news[j]?=some x->w.cell? (ad.add j)=some x:=by
   intro j x r;rcases Nat.eq_zero_or_pos m with h|h
   ·subst h;have p:news=[]:=wu (by simpa using hlen);subst p;simp at r
   ·obtain⟨y,D,l⟩:=d h;cases D;exact l j x r
  obtain⟨v',w',J,F,G,_,H⟩:=run_append_own_at (P:=P) w base t ty e i z size bytes ht hi hz hsize hby hzs hsz v n xs hown ad m c news hlen l h1 h63 hbytes hbase;exact⟨v',w',J,F,G,H⟩
theorem eM {o:Oper}{a:Act}{K:Act->World->Prop}{Q:Exit->Act->World->Prop}(s x:Operand)(t:TypeId)
  (ho:o.op=.call {callee:=.builtin .append,args:=#[s,x],argTypes:=#[t,t]})
  (base:Nat) (e:TypeId) (i:TypeInfo) (z:Value) (size bytes:Nat) (ht:P.underlying t=some (.slice e)) (hi:P.info? e=some i) (hz:i.zero=some z)
  (hsize:i.size=size) (hby:i.bytes=bytes) (hzs:z.cells.size=size) (hsz:0<size) (v:Value) (n:Nat) (xs:List Value) (hs:a.eval s=v) (hown:w.ownsRow base e size v n xs)
  (u:Value) (m:Nat) (news:List Value) (hx:a.eval x=u) (hu:Src w u size m news) (h1:∀x∈news,x.oneCell'=true) (h63:n+m<=maxLen) (hbytes:(n+m)*bytes<=140737488355328) (hbase:base<=w.heap.size)
  (h:∀v' w',w'.ownsRow base e size v' (n+m) (xs++news)->w.grownBy w' v.ownBlock->(v'.ownBlock=v.ownBlock\/v'.ownBlock=some w.heap.size)->K (a.put o.dst v') w'):o.wp P a w K Q:=by
 obtain⟨v',w',l,d,g,j⟩:=je (P:=P) (w:=w) base t o.type e i z size bytes ht hi hz hsize hby hzs hsz v n xs hown u m news hu h1 h63 hbytes hbase;unfold Oper.wp execOp;simp only[ho,resolve,invoke,builtin,Sem.run_bind,Sem.run_pure,Result.andThen_ok,List.map_toArray,List.map_cons,List.map_nil,hs,hx,l];exact h v' w' d g j
theorem dG {ops:Array Oper}{rest:List Oper}{o:Oper}{a:Act}{Q:Exit->Act->World->Prop}(hgd:o.guard=none)(s x:Operand)(t:TypeId)
  (ho:o.op=.call {callee:=.builtin .append,args:=#[s,x],argTypes:=#[t,t]})
  (base:Nat) (e:TypeId) (i:TypeInfo) (z:Value) (size bytes:Nat) (ht:P.underlying t=some (.slice e)) (hi:P.info? e=some i) (hz:i.zero=some z)
  (hsize:i.size=size) (hby:i.bytes=bytes) (hzs:z.cells.size=size) (hsz:0<size) (v:Value) (n:Nat) (xs:List Value) (hs:a.eval s=v) (hown:w.ownsRow base e size v n xs)
  (u:Value) (m:Nat) (news:List Value) (hx:a.eval x=u) (hu:Src w u size m news) (h1:∀x∈news,x.oneCell'=true) (h63:n+m<=maxLen) (hbytes:(n+m)*bytes<=140737488355328) (hbase:base<=w.heap.size)
  (h:∀v' w',w'.ownsRow base e size v' (n+m) (xs++news)->w.grownBy w' v.ownBlock->(v'.ownBlock=v.ownBlock\/v'.ownBlock=some w.heap.size)->wpList P ops Q rest (a.put o.dst v') w'):wpList P ops Q (o::rest) a w :=
 wpList_plain hgd fun _ d=>eM s x t ho base e i z size bytes ht hi hz hsize hby hzs hsz v n xs hs hown u m news hx hu h1 h63 hbytes hbase fun v' w' h2 h3 h5=>d _ _ (h v' w' h2 h3 h5)
end
section
variable {w w':World}{base:Nat}{e:TypeId}{size n:Nat}{v:Value}{xs:List Value}
theorem Src.ints {B:Nat}{u:Value}{zs:List Int}(h:IntsAt B w u zs):Src w u 1 zs.length (zs.map (Value.int .i64)):=by obtain⟨A,c,rfl,_,_,g⟩:=h;refine⟨A,c,rfl,by simp,fun m=>?_⟩;obtain⟨b,off,rfl,_,l⟩:=g m;refine⟨_,rfl,fun j x d=>?_⟩;rw[vH]at d;obtain⟨z,p,rfl⟩:=Option.map_eq_some_iff.1 d;rw[eP];exact l j z p
theorem wM (w:World)(x:Value)(t:TypeId):Src (w.alloc (.cells #[x] t)) (.slice (some ⟨w.heap.size,0,none⟩) 1 1) 1 1 [x]:=by
 refine⟨_,_,rfl,rfl,fun _=>⟨_,rfl,fun j y hy=>?_⟩⟩
 match j,hy with
 | 0,hy=>simp at hy;subst hy;simp[Addr.add]
theorem Src.newN (w:World)(cs:List Value)(t:TypeId):Src (w.alloc (.cells cs.toArray t)) (.slice (some ⟨w.heap.size,0,none⟩) 1 1) cs.length 1 cs:=by refine⟨_,_,rfl,by simp,fun _=>⟨_,rfl,fun j y hy=>?_⟩⟩;have:=vX (w.alloc (.cells cs.toArray t)) w.heap.size j cs.toArray t (0,0) (heap_alloc_new w _);rw[eP,Nat.zero_add,this];simpa using hy
theorem iJ (k:IntKind)(zs:List Int):∀u∈zs.map (Value.int k),u.oneCell'=true:=by intro u d;obtain⟨z,_,rfl⟩:=List.mem_map.1 d;rfl
theorem dU (h:w.ownsRow base e size v n xs):∃A cap,v=.slice A n cap/\n<=cap/\(∀g,A=some g->base<=g.block/\g.block<w.heap.size/\g.off=0/\g.spot=none)/\(A=none->n=0):=by
 rcases h.2 with ⟨rfl,rfl⟩|⟨g,cap,d,rfl,j,l,m,_⟩
 ·exact⟨none,0,rfl,vV _,fun _ e=>(by cases e),fun _=>rfl⟩
 ·exact⟨_,cap,rfl,m,fun _ e=>(by cases e;exact⟨j,(vE.1 l).1,rfl,rfl⟩),fun e=>(by cases e)⟩
theorem dx (h:w.ownsRow base e size v n xs):∀k,v.ownBlock=some k->base<=k/\k<w.heap.size:=by
 intro k d;rcases h.2 with ⟨rfl,_⟩|⟨g,j,l,rfl,m,p,_⟩
 ·simp[Value.ownBlock]at d
 ·simp[Value.ownBlock]at d;subst d;exact⟨m,(vE.1 p).1⟩
theorem ew (h:w.ownsRow base e size v n xs)(g:Gr w w'):w'.ownsRow base e size v n xs:=by
 obtain⟨p,l⟩:=h;refine⟨p,?_⟩;rcases l with l|⟨k,d,j,hv,q,m,r⟩
 ·exact .inl l
 ·exact .inr ⟨k,d,j,hv,q,(g.heap k (vE.1 m).1).trans m,r⟩
theorem iK {row:Option Nat}(h:w.ownsRow base e size v n xs)(g:w.grownBy w' row)(hne:∀k,v.ownBlock=some k->row≠some k):w'.ownsRow base e size v n xs:=by
 obtain⟨q,l⟩:=h;refine⟨q,?_⟩;rcases l with l|⟨k,d,j,hv,t,m,r⟩
 ·exact .inl l
 ·exact .inr ⟨k,d,j,hv,t,(g.block k (vE.1 m).1 (fun p=>hne k (by rw[hv];rfl) p.symm)).trans m,r⟩
theorem dz (h:w.ownsRow base e size v n xs){A:Option Addr}{c:Nat}(hv:v=.slice A n c)(hn:0<n):∃b,A=some ⟨b,0,none⟩/\b<w.heap.size/\base<=b/\∀j,j<n*size->w.cell? ⟨b,j,none⟩=xs[j]?:=by
 subst hv;rcases h.2 with ⟨_,u⟩|⟨g,d,l,hv,q,r,_⟩
 ·omega
 ·injection hv with m y p;subst m;subst p;exact⟨g,rfl,(vE.1 r).1,q,fun j t=>World.ownsRow.cellAt h j t⟩
theorem rW {zs:List Int}(h:w.ownsRow base e 1 v zs.length (zs.map (Value.int .i64)))(hn:zs.length<=17592186044416):IntsAt w.heap.size w v zs:=by obtain⟨A,g,hv,p,_,_⟩:=dU h;refine⟨A,g,hv,p,hn,fun q=>?_⟩;obtain⟨b,rfl,m,_,d⟩:=dz h hv q;refine⟨b,0,rfl,m,fun j z l=>?_⟩;have r:j<zs.length:=(yq.1 l).1;rw[Nat.zero_add,d j (by omega),vH,l];rfl
theorem li {zs:List Bool}(h:w.ownsRow base e 1 v zs.length (zs.map Value.bool))(hn:zs.length<=17592186044416):BoolsAt w.heap.size w v zs:=by obtain⟨A,g,hv,p,_,_⟩:=dU h;refine⟨A,g,hv,p,hn,fun q=>?_⟩;obtain⟨b,rfl,m,_,d⟩:=dz h hv q;refine⟨b,0,rfl,m,fun j z l=>?_⟩;have r:j<zs.length:=(yq.1 l).1;rw[Nat.zero_add,d j (by omega),vH,l];rfl
theorem tD {us:List Value}{t:List (List Int)}(h:w.ownsRow base e 1 v t.length us)(hn:t.length<=17592186044416)
  (hu:∀(j:Nat)(l:List Int),t[j]?=some l->∃u,us[j]?=some u/\IntsAt w.heap.size w u l):TabAt w.heap.size w v t:=by
 obtain⟨A,g,hv,r,_,_⟩:=dU h;refine⟨A,g,hv,r,hn,fun y=>?_⟩;obtain⟨b,rfl,q,_,d⟩:=dz h hv y;refine⟨b,0,rfl,q,fun j l hl=>?_⟩;have z:j<t.length:=(yq.1 hl).1;obtain⟨u,m,p⟩:=hu j l hl;exact⟨u,by rw[Nat.zero_add,d j (by omega),m],p⟩
end
def Own1 (B:Nat)(e:TypeId)(w:World)(v:Value)(xs:List Value):Prop:=w.ownsRow B e 1 v xs.length xs
theorem Own1.nil (B:Nat)(e:TypeId)(w:World):Own1 B e w (.slice none 0 0) []:=World.ownsRow_nil _ _ _ _
theorem Own1.gr {B:Nat}{e:TypeId}{w w':World}{v:Value}{xs:List Value}(h:Own1 B e w v xs)(g:Gr w w'):Own1 B e w' v xs:=ew h g
theorem Own1.alloc {B:Nat}{e:TypeId}{w:World}{v:Value}{xs:List Value}(h:Own1 B e w v xs)(o:Obj):Own1 B e (w.alloc o) v xs:=ew h ((wL _).alloc o)
theorem Own1.form {B:Nat}{e:TypeId}{w:World}{v:Value}{xs:List Value}(h:Own1 B e w v xs):∃A c,v=.slice A xs.length c:=by obtain⟨A,c,hv,_⟩:=dU h;exact⟨A,c,hv⟩
theorem Own1.ints {B:Nat}{e:TypeId}{w:World}{v:Value}{zs:List Int}(h:Own1 B e w v (zs.map (Value.int .i64)))(hn:zs.length<=17592186044416):IntsAt w.heap.size w v zs :=
 rW (by have:=h;unfold Own1 at this;rwa [vS]at this) hn
theorem Own1.bools {B:Nat}{e:TypeId}{w:World}{v:Value}{zs:List Bool}(h:Own1 B e w v (zs.map Value.bool))(hn:zs.length<=17592186044416):BoolsAt w.heap.size w v zs :=
 li (by have:=h;unfold Own1 at this;rwa [vS]at this) hn
theorem Gr.below {w a b:World}{B:Nat}(h:Gr w a)(k:Below B a b)(hB:w.heap.size<=B):Gr w b:=Below.trans h (k.mono hB)
theorem tQ {P:Program}{w:World}{ops:Array Oper}{rest:List Oper}{o:Oper}{a:Act}{Q:Exit->Act->World->Prop}{B:Nat}{t e:TypeId}{i:TypeInfo}{z:Value}{bytes:Nat}
  (ht:P.underlying t=some (.slice e)) (hi:P.info? e=some i) (hz:i.zero=some z) (hsize:i.size=1) (hby:i.bytes=bytes) (hzs:z.cells.size=1) (hbb:bytes<=128)
  (hgd:o.guard=none) (s x:Operand) (ho:o.op=.call {callee:=.builtin .append,args:=#[s,x],argTypes:=#[t,t]})
  {v:Value} {xs:List Value} (hs:a.eval s=v) (hown:Own1 B e w v xs) {y:Value} {e':TypeId} (hy:y.oneCell'=true) (hx:a.eval x=.slice (some ⟨w.heap.size,0,none⟩) 1 1) (hlt:xs.length<1099511627776) (hB:B<=w.heap.size)
  (h:∀A c w',Own1 B e w' (.slice A (xs.length+1) c) (xs++[y])->Below B w w'->(w.alloc (.cells #[y] e')).grownBy w' v.ownBlock->wpList P ops Q rest (a.put o.dst (.slice A (xs.length+1) c)) w') :
  wpList P ops Q (o::rest) a (w.alloc (.cells #[y] e')):=by
 refine dG hgd s x t ho B e i z 1 bytes ht hi hz hsize hby hzs (by omega) v xs.length xs hs (ew hown ((wL _).alloc _)) _ 1 [y] hx (wM _ _ _) ?_ ?_ ?_ ?_ ?_
 ·intro u l;simp at l;subst l;exact hy
 ·simp only[maxLen];omega
 ·have:(xs.length+1)*bytes<=(xs.length+1)*128:=Nat.mul_le_mul_left _ hbb;omega
 ·simp;omega
 ·intro p w' g j _;have d:Own1 B e w' p (xs++[y]):=by unfold Own1;rw[vW];exact g
  obtain⟨A,c,hv⟩:=d.form;rw[vW]at hv;subst hv;refine h A c w' d ?_ j;refine(((Below.refl B w).alloc hB _)).grown j (by simp;omega) (fun k m=>(dx hown k m).1)
theorem uB {P:Program}{w:World}{ops:Array Oper}{rest:List Oper}{o:Oper}{a:Act}{Q:Exit->Act->World->Prop}{B:Nat}{t e:TypeId}{i:TypeInfo}{z:Value}{bytes:Nat}
  (ht:P.underlying t=some (.slice e)) (hi:P.info? e=some i) (hz:i.zero=some z) (hsize:i.size=1) (hby:i.bytes=bytes) (hzs:z.cells.size=1)
  (hgd:o.guard=none) (s x:Operand) (ho:o.op=.call {callee:=.builtin .append,args:=#[s,x],argTypes:=#[t,t]})
  {v:Value} {xs:List Value} (hs:a.eval s=v) (hown:Own1 B e w v xs) {u:Value} {ys:List Value} (hy:∀y∈ys,y.oneCell'=true) (hx:a.eval x=u) (hu:Src w u 1 ys.length ys)
  (h63:xs.length+ys.length<=17592186044416) (hlt:(xs.length+ys.length)*bytes<=140737488355328) (hB:B<=w.heap.size)
  (h:∀A c w',Own1 B e w' (.slice A (xs.length+ys.length) c) (xs++ys)->Below B w w'->w.grownBy w' v.ownBlock->wpList P ops Q rest (a.put o.dst (.slice A (xs.length+ys.length) c)) w') :
  wpList P ops Q (o::rest) a w:=by
 refine dG hgd s x t ho B e i z 1 bytes ht hi hz hsize hby hzs (by omega) v xs.length xs hs hown _ ys.length ys hx hu hy ?_ hlt hB ?_
 ·simp only[maxLen];omega
 ·intro m w' g j _;have d:Own1 B e w' m (xs++ys):=by unfold Own1;rw[vW];exact g
  obtain⟨A,c,hv⟩:=d.form;rw[vW]at hv;subst hv;exact h A c w' d ((Below.refl B w).grown j hB (fun k l=>(dx hown k l).1)) j
theorem wN {B:Nat}(w:World)(e:TypeId)(hB:B<=w.heap.size):Own1 B e (w.alloc (.cells #[] e)) (.slice (some ⟨w.heap.size,0,none⟩) 0 0) [] :=
 ⟨rfl,.inr ⟨w.heap.size,0,#[],rfl,hB,heap_alloc_new w _,vV _,by simp[maxLen],rfl,rfl⟩⟩
theorem Own1.ne {B B':Nat}{e e':TypeId}{w:World}{v v':Value}{xs ys:List Value}(h:Own1 B e w v xs)(h':Own1 B' e' w v' ys)(hne:e≠e'):∀k,v.ownBlock=some k->v'.ownBlock≠some k:=by
 intro k l j;rcases h.2 with ⟨rfl,_⟩|⟨g,q,r,rfl,_,t,_⟩
 ·simp[Value.ownBlock]at l
 rcases h'.2 with ⟨rfl,_⟩|⟨u,m,p,rfl,_,d,_⟩
 ·simp[Value.ownBlock]at j
 simp[Value.ownBlock]at l j;subst l;subst j;rw[t]at d;simp at d;exact hne d.2
theorem Own1.other {B:Nat}{e:TypeId}{w w':World}{v:Value}{xs:List Value}{row:Option Nat}(h:Own1 B e w v xs)(g:w.grownBy w' row)(hne:∀k,v.ownBlock=some k->row≠some k):Own1 B e w' v xs:=iK h g hne
def Tab1 (B:Nat)(e:TypeId)(w:World)(us:List Value)(t:List (List Int)):Prop :=
 us.length=t.length/\∀(j:Nat)(l:List Int),t[j]?=some l->∃u,us[j]?=some u/\Own1 B e w u (l.map (Value.int .i64))/\l.length<=17592186044416
theorem Tab1.nil (B:Nat)(e:TypeId)(w:World):Tab1 B e w [] []:=⟨rfl,fun j l h=>by simp at h⟩
theorem Tab1.gr {B:Nat}{e:TypeId}{w w':World}{us:List Value}{t:List (List Int)}(h:Tab1 B e w us t)(g:Gr w w'):Tab1 B e w' us t :=
 ⟨h.1,fun j l hl=>by obtain⟨u,h1,h2,h3⟩:=h.2 j l hl;exact⟨u,h1,h2.gr g,h3⟩⟩
theorem Tab1.grown {B B':Nat}{e e':TypeId}{w w':World}{us:List Value}{t:List (List Int)}{v:Value}{xs:List Value}(h:Tab1 B e w us t)(hv:Own1 B' e' w v xs)(hne:e≠e')(g:w.grownBy w' v.ownBlock):Tab1 B e w' us t :=
 ⟨h.1,fun j l hl=>by obtain⟨u,h1,h2,h3⟩:=h.2 j l hl;exact⟨u,h1,h2.other g (fun k d=>h2.ne hv hne k d),h3⟩⟩
theorem Tab1.snoc {B:Nat}{e:TypeId}{w:World}{us:List Value}{t:List (List Int)}{u:Value}{l:List Int}(h:Tab1 B e w us t)(hu:Own1 B e w u (l.map (Value.int .i64)))(hl:l.length<=17592186044416):Tab1 B e w (us++[u]) (t++[l]):=by
 refine⟨by simp[h.1],fun j m d=>?_⟩;rcases Nat.lt_trichotomy j t.length with g|g|g
 ·rw[vJ g]at d;rw[vJ (by rw[h.1];exact g)];exact h.2 j m d
 ·subst g;simp at d;subst d;exact⟨u,by rw[<-h.1];simp,hu,hl⟩
 ·rw[vP (by simp;omega)]at d;cases d
theorem Tab1.tab {B B':Nat}{e e':TypeId}{w:World}{us:List Value}{t:List (List Int)}{v:Value}(h:Tab1 B e w us t)(hv:Own1 B' e' w v us)(hn:t.length<=17592186044416):TabAt w.heap.size w v t :=
 tD (by have:=hv;unfold Own1 at this;rwa [h.1]at this) hn (fun j l hl=>by obtain⟨u,h1,h2,h3⟩:=h.2 j l hl;exact⟨u,h1,h2.ints h3⟩)
theorem ur {P:Program}{w:World}{ops:Array Oper}{rest:List Oper}{o:Oper}{a:Act}{Q:Exit->Act->World->Prop}{B:Nat}{t e:TypeId}{i:TypeInfo}{z:Value}
  (ht:P.underlying t=some (.slice e)) (hi:P.info? e=some i) (hz:i.zero=some z) (hsize:i.size=1) (hby:i.bytes=8) (hzs:z.cells.size=1)
  (hgd:o.guard=none) (s x:Operand) (ho:o.op=.call {callee:=.builtin .append,args:=#[s,x],argTypes:=#[t,t]})
  {v:Value} {xs:List Value} (hs:a.eval s=v) (hown:Own1 B e w v xs) {C:Nat} {u:Value} {ys:List Int} (hu:Hid (IntsAt C w u ys)) (hx:a.eval x=u)
  (hlt:xs.length+ys.length<=17592186044416) (hB:B<=w.heap.size)
  (h:∀A c w',Own1 B e w' (.slice A (xs.length+ys.length) c) (xs++ys.map (Value.int .i64))->Below B w w'->w.grownBy w' v.ownBlock->wpList P ops Q rest (a.put o.dst (.slice A (xs.length+ys.length) c)) w') :
  wpList P ops Q (o::rest) a w:=by
 have hl:(ys.map (Value.int .i64)).length=ys.length:=vS _;refine uB ht hi hz hsize hby hzs hgd s x ho hs hown (ys:=ys.map (Value.int .i64)) (iJ _ _) hx (by rw[hl];exact Src.ints hu.out) (by rw[hl];exact hlt) (by rw[hl];omega) hB ?_;rw[hl];exact h
theorem tK {P:Program}{w:World}{o:Oper}{a:Act}{K:Act->World->Prop}{Q:Exit->Act->World->Prop}{B:Nat}{t e:TypeId}{i:TypeInfo}{z:Value}{bytes:Nat}
  (ht:P.underlying t=some (.slice e)) (hi:P.info? e=some i) (hz:i.zero=some z) (hsize:i.size=1) (hby:i.bytes=bytes) (hzs:z.cells.size=1) (hbb:bytes<=128)
  (s x:Operand) (ho:o.op=.call {callee:=.builtin .append,args:=#[s,x],argTypes:=#[t,t]})
  {v:Value} {xs:List Value} (hs:a.eval s=v) (hown:Own1 B e w v xs) {y:Value} {e':TypeId} (hy:y.oneCell'=true) (hx:a.eval x=.slice (some ⟨w.heap.size,0,none⟩) 1 1) (hlt:xs.length<1099511627776) (hB:B<=w.heap.size)
  (h:∀A c w',Own1 B e w' (.slice A (xs.length+1) c) (xs++[y])->Below B w w'->(w.alloc (.cells #[y] e')).grownBy w' v.ownBlock->K (a.put o.dst (.slice A (xs.length+1) c)) w') :
  o.wp P a (w.alloc (.cells #[y] e')) K Q:=by
 refine eM s x t ho B e i z 1 bytes ht hi hz hsize hby hzs (by omega) v xs.length xs hs (ew hown ((wL _).alloc _)) _ 1 [y] hx (wM _ _ _) ?_ ?_ ?_ ?_ ?_
 ·intro u l;simp at l;subst l;exact hy
 ·simp only[maxLen];omega
 ·have:(xs.length+1)*bytes<=(xs.length+1)*128:=Nat.mul_le_mul_left _ hbb;omega
 ·simp;omega
 ·intro p w' g j _;have d:Own1 B e w' p (xs++[y]):=by unfold Own1;rw[vW];exact g
  obtain⟨A,c,hv⟩:=d.form;rw[vW]at hv;subst hv;refine h A c w' d ?_ j;refine(((Below.refl B w).alloc hB _)).grown j (by simp;omega) (fun k m=>(dx hown k m).1)
theorem qO {P:Program}{w:World}{ops:Array Oper}{o:Oper}{a:Act}{K:Act->World->Prop}{Q:Exit->Act->World->Prop}{F:Prop}{B:Nat}{t e:TypeId}{i:TypeInfo}{z:Value}{bytes:Nat}
  (ht:P.underlying t=some (.slice e)) (hi:P.info? e=some i) (hz:i.zero=some z) (hsize:i.size=1) (hby:i.bytes=bytes) (hzs:z.cells.size=1) (hbb:bytes<=128)
  (hgd:o.guard=none) (s x:Operand) (ho:o.op=.call {callee:=.builtin .append,args:=#[s,x],argTypes:=#[t,t]})
  {v:Value} {xs:List Value} (hs:a.eval s=v) (hown:Own1 B e w v xs) {y:Value} {e':TypeId} (hy:y.oneCell'=true) (hx:a.eval x=.slice (some ⟨w.heap.size,0,none⟩) 1 1) (hlt:xs.length<1099511627776) (hB:B<=w.heap.size)
  (h:∀A c w',Own1 B e w' (.slice A (xs.length+1) c) (xs++[y])->Below B w w'->(w.alloc (.cells #[y] e')).grownBy w' v.ownBlock->K (a.put o.dst (.slice A (xs.length+1) c)) w') :
  if Region.wanted o (yielded ops a.tmps)=true then Oper.wp P o a (w.alloc (.cells #[y] e')) K Q else F:=by
 have d:Region.wanted o (yielded ops a.tmps)=true:=by simp[Region.wanted,hgd]
 rw[wa d];exact tK ht hi hz hsize hby hzs hbb s x ho hs hown hy hx hlt hB h
end
section
namespace Ref
def sortP (n:Nat)(L:List (Int × Int)):List (Int × Int):=(List.range n).flatMap fun b:Nat=>L.filter fun p=>decide (p.1=(b:Int))
def Apart (L:List (Int × Int)):Prop:=L.Pairwise fun a b=>a.1=b.1->a.1<0
theorem total_append (a b:List (List Ins)):total (a++b)=total a+total b:=by simp[total]
theorem number_next (f:Fn){b:Nat}{l:List Ins}(h:f.blocks[b]?=some l):number f (b+1)=number f b+l.length:=by unfold number;rw[total_take_succ _ _ _ h];omega
theorem total_take_le (bs:List (List Ins)):∀(i j:Nat),i<=j->total (bs.take i)<=total (bs.take j):=by
 intro i j h
 have:bs.take j=bs.take i++(bs.drop i).take (j-i):=by rw[show j=i+(j-i) by omega,List.take_add,show i+(j-i)-i=j-i by omega]
 rw[this,total_append];omega
theorem number_le (f:Fn){b c:Nat}{l:List Ins}(h:f.blocks[b]?=some l)(hc:b<c):number f b+l.length<=number f c:=by have d:=number_next f h;have g:=total_take_le f.blocks (b+1) c (by omega);unfold number at d ⊢;omega
theorem number_count (f:Fn){b:Nat}{l:List Ins}(h:f.blocks[b]?=some l):number f b+l.length<=count f:=by have d:=(yq.1 h).1;unfold count;exact number_le f h d
def start (f:Fn)(o:List Nat):Nat:=f.params.length+(o.map fun b=>(f.blocks.getD b []).length).sum
def numFrom (f:Fn)(v:Int):List Nat->Nat->Int
 | [],_=>-1
 | b::r,n=>if (number f b:Int)<=v/\v<number f b+(f.blocks.getD b []).length then n+(v-number f b) else numFrom f v r (n+(f.blocks.getD b []).length)
def num (f:Fn)(o:List Nat)(v:Int):Int:=if v<f.params.length then v else numFrom f v o f.params.length
def toFrom (b:Int):List Nat->Nat->Int
 | [],_=>-1
 | c::r,k=>if b=c then k else toFrom b r (k+1)
def toOf (o:List Nat)(b:Int):Int:=toFrom b o 0
def phiL (f:Fn)(o:List Nat)(x:Ins):List (Int × Int):=(x.to.zip x.args).map fun p=>(toOf o p.1,num f o p.2)
def renum (f:Fn)(o:List Nat)(x:Ins):Ins :=
 if x.op=28 then ⟨x.op,x.width,x.flags,(sortP f.blocks.length (phiL f o x)).map (·.2),x.imm,(sortP f.blocks.length (phiL f o x)).map (·.1)⟩
 else ⟨x.op,x.width,x.flags,x.args.map (num f o),x.imm,x.to.map (toOf o)⟩
def moved (f:Fn)(o:List Nat):Fn:={f with blocks:=o.map fun b=>(f.blocks.getD b []).map (renum f o)}
theorem toFrom_get:∀(o:List Nat)(k j c:Nat),o[j]?=some c->o.Nodup->toFrom c o k=(k+j:Nat)
 | [],k,j,c,h,_=>by simp at h
 | d::r,k,0,c,h,_=>by
  simp at h;subst h
  simp[toFrom]
 | d::r,k,j+1,c,h,hn=>by
  obtain⟨g,l⟩:=List.nodup_cons.1 hn
  have m:c∈r:=vz (by simpa using h)
  rw[toFrom,wb (fun e=>g (by have e':c=d:=by omega
                             exact e' ▸ m)),toFrom_get r (k+1) j c (by simpa using h) l]
  omega
theorem toOf_get {o:List Nat}(hn:o.Nodup){k b:Nat}(h:o[k]?=some b):toOf o b=k:=by unfold toOf;rw[toFrom_get o 0 k b h hn];simp
theorem getD_some {f:Fn}{b:Nat}{l:List Ins}(h:f.blocks[b]?=some l):f.blocks.getD b []=l:=by rw[vA,h];rfl
structure Ord (f:Fn)(o:List Nat):Prop where
 nodup:o.Nodup
 lt:∀b∈o,b<f.blocks.length
 first:o[0]?=some 0
theorem whereFrom_at:∀(bs:List (List Ins))(b n j i:Nat)(l:List Ins),bs[j]?=some l->i<l.length->whereFrom ((n+total (bs.take j)+i:Nat):Int) bs b n=(((b+j:Nat):Int),(i:Int))
 | [],b,n,j,i,l,h,_=>by simp at h
 | c::r,b,n,0,i,l,h,hi=>by
  simp at h;subst h
  simp only[List.take_zero,total,List.map_nil,List.sum_nil,Nat.add_zero]
  rw[whereFrom,wa (by omega)]
  simp;omega
 | c::r,b,n,j+1,i,l,h,hi=>by
  rw[wt,total_cons]
  rw[whereFrom,wb (by omega),show n+(c.length+total (r.take j))+i=(n+c.length)+total (r.take j)+i by omega,whereFrom_at r (b+1) (n+c.length) j i l (by simpa using h) hi]
  rw[show b+1+j=b+(j+1) by omega]
theorem whereIs_at (f:Fn){b i:Nat}{l:List Ins}(h:f.blocks[b]?=some l)(hi:i<l.length):whereIs f ((number f b+i:Nat):Int)=((b:Int),(i:Int)):=by have:=whereFrom_at f.blocks 0 f.params.length b i l h hi;rw[Nat.zero_add]at this;exact this
theorem kind_at (f:Fn){b i:Nat}{l:List Ins}{x:Ins}(h:f.blocks[b]?=some l)(hx:l[i]?=some x):kind f ((number f b+i:Nat):Int)=x.width:=by have d:=(yq.1 hx).1;have g:=number_count f h;unfold kind;rw[wb (by omega),wb (by unfold number;omega),whereIs_at f h d];unfold insAt?;simp only[vG,h,Option.bind_some,hx,Option.map_some,Option.getD_some]
def Kept (f:Fn)(o:List Nat)(v:Int):Prop:=(0<=v/\v<f.params.length)\/∃(k b i:Nat)(l:List Ins)(x:Ins),o[k]?=some b/\f.blocks[b]?=some l/\l[i]?=some x/\v=((number f b+i:Nat):Int)
end Ref
end
section
namespace Ref
theorem phisFrom_iff (g:List (List Int)):∀(bs:List (List Ins))(b:Nat),phisFrom g bs b=true↔∀j l,bs[j]?=some l->∀x∈l,x.op=28->x.to=before g ((b+j:Nat):Int)
 | [],b=>by simp[phisFrom]
 | l::r,b=>by
  unfold phisFrom
  rw[we,phisFrom_iff g r (b+1),vT]
  constructor
  ·rintro⟨q,t⟩ j p hl x m d
   cases j with
   | zero =>
    simp at hl;subst hl
    have:=q x m
    rw[sameInts_eq]at this;simpa[d] using this
   | succ j =>
    have:=t j p (by simpa using hl) x m d;rw[this];congr 1;omega
  ·intro h;refine⟨fun x m=>?_,fun j p hl x m d=>?_⟩
   ·rw[sameInts_eq];by_cases d:x.op=28
    ·have:=h 0 l rfl x m d;simp[d,this]
    ·simp[d]
   ·have:=h (j+1) p (by simpa using hl) x m d;rw[this];congr 1;omega
theorem argsFrom_iff (f:Fn)(g:List (List Int))(inn:List Bool)(b i:Nat)(x:Ins):∀(vs:List Int)(k:Nat),argsFrom f g inn b i x vs k=true↔∀j v,vs[j]?=some v->argOk f g inn b i x v (x.to.getD (k+j) 0)=true
 | [],k=>by simp[argsFrom]
 | v::r,k=>by
  unfold argsFrom
  rw[we,argsFrom_iff f g inn b i x r (k+1)]
  constructor
  ·rintro⟨l,m⟩ j u d
   cases j with
   | zero=>simp at d;subst d;exact l
   | succ j =>
    have:=m j u (by simpa using d)
    rwa [show k+1+j=k+(j+1) by omega]at this
  ·intro h;refine⟨h 0 v rfl,fun j u d=>?_⟩;have:=h (j+1) u (by simpa using d)
   rwa [show k+(j+1)=k+1+j by omega]at this
theorem insFrom_iff (f:Fn)(g:List (List Int))(inn:List Bool)(b:Nat):∀(l:List Ins)(i:Nat),insFrom f g inn b l i=true↔∀j x,l[j]?=some x->argsFrom f g inn b (i+j) x x.args 0=true
 | [],i=>by simp[insFrom]
 | y::r,i=>by
  unfold insFrom
  rw[we,insFrom_iff f g inn b r (i+1)]
  constructor
  ·rintro⟨m,p⟩ j x d
   cases j with
   | zero=>simp at d;subst d;exact m
   | succ j =>
    have:=p j x (by simpa using d)
    rwa [show i+1+j=i+(j+1) by omega]at this
  ·intro h;refine⟨h 0 y rfl,fun j x d=>?_⟩;have:=h (j+1) x (by simpa using d)
   rwa [show i+(j+1)=i+1+j by omega]at this
theorem blksFrom_iff (f:Fn)(g:List (List Int))(inn:List Bool):∀(bs:List (List Ins))(b:Nat),blksFrom f g inn bs b=true↔∀j l,bs[j]?=some l->inn.getD (b+j) false=true->insFrom f g inn (b+j) l 0=true
 | [],b=>by simp[blksFrom]
 | l::r,b=>by
  unfold blksFrom
  rw[we,blksFrom_iff f g inn r (b+1)]
  constructor
  ·rintro⟨p,q⟩ j m hl d
   cases j with
   | zero =>
    simp at hl;subst hl
    rw[Nat.add_zero]at d ⊢
    rw[d]at p
    simpa using p
   | succ j =>
    have:=q j m (by simpa using hl)
    rw[show b+1+j=b+(j+1) by omega]at this;exact this d
  ·intro h;refine⟨?_,fun j m hl d=>?_⟩
   ·have:=h 0 l rfl;rw[Nat.add_zero]at this
    cases hb:inn.getD b false with
    | false=>rfl
    | true=>simpa using this hb
   ·have:=h (j+1) m (by simpa using hl);rw[show b+(j+1)=b+1+j by omega]at this;exact this d
structure Val (f:Fn):Prop where
 size:f.params.length<=3/\f.slots.length<=2/\1<=f.blocks.length/\f.blocks.length<=10/\total f.blocks<=40
 ret:0<=f.ret/\f.ret<=32
 head:f.params.all isWidth=true/\f.slots.all isSlot=true
 arg:∀l∈f.blocks,∀x∈l,argument f x=true
 laid:∀l∈f.blocks,laid l=true
 entry:before (graph f) 0=[]
 phi:∀(b:Nat)(l:List Ins),f.blocks[b]?=some l->∀x∈l,x.op=28->x.to=before (graph f) (b:Int)
 typ:∀l∈f.blocks,∀x∈l,typed f x=true
 st:∀(b:Nat)(l:List Ins),f.blocks[b]?=some l->(reached (graph f) (-1)).getD b false=true->∀(i:Nat) x,l[i]?=some x->∀(k:Nat) v,x.args[k]?=some v->argOk f (graph f) (reached (graph f) (-1)) b i x v (x.to.getD k 0)=true
theorem rules_iff (f:Fn):rules f=true↔(∀l∈f.blocks,laid l=true)/\before (graph f) 0=[]/\(∀(b:Nat)(l:List Ins),f.blocks[b]?=some l->∀x∈l,x.op=28->x.to=before (graph f) (b:Int)):=by unfold rules;rw[we,we,phisFrom_iff,vT,List.isEmpty_iff,and_assoc];simp only[Nat.zero_add]
theorem stated_iff (f:Fn):stated f=true↔∀(b:Nat)(l:List Ins),f.blocks[b]?=some l->(reached (graph f) (-1)).getD b false=true->∀(i:Nat) x,l[i]?=some x->∀(k:Nat) v,x.args[k]?=some v->argOk f (graph f) (reached (graph f) (-1)) b i x v (x.to.getD k 0)=true:=by unfold stated;rw[blksFrom_iff];simp only[Nat.zero_add,insFrom_iff,argsFrom_iff]
theorem all_all {f:Fn}{p:Ins->Bool}:(f.blocks.all fun l=>l.all p)=true↔∀l∈f.blocks,∀x∈l,p x=true:=by simp only[vT]
theorem val_iff (f:Fn):validate f=0↔Val f:=by
 have A:validate f=0↔¬(3<f.params.length\/2<f.slots.length\/f.blocks.length<1\/10<f.blocks.length)/\¬40<total f.blocks/\¬(f.ret<0\/32<f.ret)/\¬f.params.all isWidth=false/\¬f.slots.all isSlot=false /\
   ¬(f.blocks.all (fun l=>l.all (argument f))=false)/\¬rules f=false/\¬(f.blocks.all (fun l=>l.all (typed f))=false)/\¬stated f=false:=by
  unfold validate;by_cases t:3<f.params.length\/2<f.slots.length\/f.blocks.length<1\/10<f.blocks.length
  ·rw[wa t];exact⟨fun h=>by omega,fun h=>absurd t h.1⟩
  rw[wb t];by_cases z:40<total f.blocks
  ·rw[wa z];exact⟨fun h=>by omega,fun h=>absurd z h.2.1⟩
  rw[wb z];by_cases u:f.ret<0\/32<f.ret
  ·rw[wa u];exact⟨fun h=>by omega,fun h=>absurd u h.2.2.1⟩
  rw[wb u];by_cases d:f.params.all isWidth=false
  ·rw[wa d];exact⟨fun h=>by omega,fun h=>absurd d h.2.2.2.1⟩
  rw[wb d];by_cases y:f.slots.all isSlot=false
  ·rw[wa y];exact⟨fun h=>by omega,fun h=>absurd y h.2.2.2.2.1⟩
  rw[wb y];by_cases g:f.blocks.all (fun l=>l.all (argument f))=false
  ·rw[wa g];exact⟨fun h=>by omega,fun h=>absurd g h.2.2.2.2.2.1⟩
  rw[wb g];by_cases j:rules f=false
  ·rw[wa j];exact⟨fun h=>by omega,fun h=>absurd j h.2.2.2.2.2.2.1⟩
  rw[wb j];by_cases m:f.blocks.all (fun l=>l.all (typed f))=false
  ·rw[wa m];exact⟨fun h=>by omega,fun h=>absurd m h.2.2.2.2.2.2.2.1⟩
  rw[wb m];by_cases p:stated f=false
  ·rw[wa p];exact⟨fun h=>by omega,fun h=>absurd p h.2.2.2.2.2.2.2.2⟩
  rw[wb p];exact⟨fun _=>⟨t,z,u,d,y,g,j,m,p⟩,fun _=>rfl⟩
 rw[A];simp only[Bool.not_eq_false,all_all,rules_iff,stated_iff];constructor
 ·rintro⟨t,z,u,d,y,g,⟨j,m,p⟩,q,r⟩;exact⟨⟨by omega,by omega,by omega,by omega,by omega⟩,⟨by omega,by omega⟩,⟨d,y⟩,g,j,m,p,q,r⟩
 ·rintro⟨t,u,d,g,j,m,p,q,r⟩;exact⟨by omega,by omega,by omega,d.1,d.2,g,⟨j,m,p⟩,q,r⟩
theorem has_iff (l:List Int)(n:Int):has l n=true↔n∈l:=by
 unfold has;rw[wC];constructor
 ·rintro⟨z,d,e⟩;simp at e;subst e;exact d
 ·intro h;exact⟨n,h,by simp⟩
theorem mem_beforeFrom (v:Int):∀(g:List (List Int))(b:Nat)(z:Int),z∈beforeFrom v g b↔∃j l,g[j]?=some l/\v∈l/\z=((b+j:Nat):Int)
 | [],b,z=>by simp[beforeFrom]
 | l::r,b,z=>by
  have ih:=mem_beforeFrom v r (b+1) z
  have m:(∃j d,r[j]?=some d/\v∈d/\z=((b+1+j:Nat):Int))↔∃j d,(l::r)[j+1]?=some d/\v∈d/\z=((b+(j+1):Nat):Int):=by simp only[vB,show ∀j,b+1+j=b+(j+1) from fun j=>by omega]
  rw[beforeFrom];constructor
  ·intro h;split at h
   ·next hh =>
    rcases List.mem_cons.1 h with rfl|h
    ·exact⟨0,l,rfl,(has_iff _ _).1 hh,by simp⟩
    ·obtain⟨j,d,q⟩:=m.1 (ih.1 h);exact⟨j+1,d,q⟩
   ·obtain⟨j,d,q⟩:=m.1 (ih.1 h);exact⟨j+1,d,q⟩
  ·rintro⟨j,d,p,t,u⟩
   cases j with
   | zero =>
    simp at p;subst p;rw[wa ((has_iff _ _).2 t)];exact List.mem_cons.2 (.inl (by simpa using u))
   | succ j =>
    have:=ih.2 (m.2 ⟨j,d,p,t,u⟩);split
    ·exact List.mem_cons_of_mem _ this
    ·exact this
theorem asc_beforeFrom (v:Int):∀(g:List (List Int))(b:Nat),(beforeFrom v g b).Pairwise (fun a c=>a<c)
 | [],b=>by simp[beforeFrom]
 | l::r,b=>by
  rw[beforeFrom]
  split
  ·rw[List.pairwise_cons]
   refine⟨fun z d=>?_,asc_beforeFrom v r (b+1)⟩
   obtain⟨j,m,-,-,e⟩:=(mem_beforeFrom v r (b+1) z).1 d
   omega
  ·exact asc_beforeFrom v r (b+1)
theorem mem_before {g:List (List Int)}{v z:Int}:z∈before g v↔∃j l,g[j]?=some l/\v∈l/\z=(j:Nat):=by unfold before;rw[mem_beforeFrom];simp only[Nat.zero_add]
theorem asc_before (g:List (List Int))(v:Int):(before g v).Pairwise (fun a c=>a<c):=asc_beforeFrom v g 0
theorem graph_at (f:Fn){b:Nat}{l:List Ins}(h:f.blocks[b]?=some l):(graph f)[b]?=some ((l.getLast?.map (·.to)).getD []):=by unfold graph;rw[vH,h];rfl
theorem laid_last:∀(l:List Ins)(p:Bool),l≠[]->laidFrom l p=true->∃x,l.getLast?=some x/\isLast x.op=true
 | [],_,h,_=>absurd rfl h
 | [x],p,_,h=>by
  simp[laidFrom]at h
  exact⟨x,rfl,h.1⟩
 | x::y::r,p,_,h=>by
  rw[laidFrom]at h
  simp only[we]at h
  obtain⟨z,d,hl⟩:=laid_last (y::r) _ (by simp) h.2
  exact⟨z,by rw[List.getLast?_cons_cons];exact d,hl⟩
theorem last_of {l:List Ins}(h:laid l=true):∃x,l.getLast?=some x/\isLast x.op=true/\x∈l:=by unfold laid at h;rw[we]at h;obtain⟨x,d,g⟩:=laid_last l true (by intro e;subst e;simp at h) h.2;exact⟨x,d,g,List.mem_of_getLast? d⟩
theorem last_not_phi {op:Int}(h:isLast op=true):op≠28:=by unfold isLast at h;simp at h;omega
theorem arg_to {f:Fn}{x:Ins}(h:argument f x=true):∀t∈x.to,0<=t/\t<f.blocks.length:=by unfold argument at h;simp only[we,vT,decide_eq_true_eq]at h;exact h.1.2
theorem val_graph {f:Fn}(h:Val f){b:Nat}{l:List Ins}(hl:f.blocks[b]?=some l):∃x,x∈l/\x.op≠28/\l.getLast?=some x/\(graph f)[b]?=some x.to:=by obtain⟨x,d,g,j⟩:=last_of (h.laid l (vz hl));refine⟨x,j,last_not_phi g,d,?_⟩;rw[graph_at f hl,d];rfl
theorem graph_len (f:Fn):(graph f).length=f.blocks.length:=by simp[graph]
theorem val_gok {f:Fn}(h:Val f):∀l∈graph f,∀t∈l,0<=t/\t<((graph f).length:Int):=by intro e m t p;obtain⟨b,g⟩:=List.getElem?_of_mem m;have d:=(yq.1 g).1;rw[graph_len]at d ⊢;obtain⟨x,q,-,-,j⟩:=val_graph h (vu d);rw[g]at j;cases j;exact arg_to (h.arg _ (List.getElem_mem d) x q) t p
end Ref
end
section
namespace Ref
theorem sum_perm_le (w:Nat->Nat):∀(n:Nat)(o:List Nat),o.Nodup->(∀b∈o,b<n)->(o.map w).sum<=((List.range n).map w).sum
 | 0,o,_,h=>by
  cases o with
  | nil=>simp
  | cons a r=>exact absurd (h a (by simp)) (by omega)
 | n+1,o,hn,h=>by
  rw[List.range_succ,List.map_append,List.sum_append]
  by_cases d:n∈o
  ·have l:=List.perm_cons_erase d
   have m:(o.map w).sum=w n+((o.erase n).map w).sum:=by rw[(l.map w).sum_nat];simp
   have:=sum_perm_le w n (o.erase n) (hn.erase n) fun b hb=>by
    have g:=h b (List.mem_of_mem_erase hb);have j:b≠n:=fun e=>by subst e;exact hn.not_mem_erase hb
    omega
   rw[m];simp;omega
  ·have:=sum_perm_le w n o hn fun b hb=>by
    have g:=h b hb;have j:b≠n:=fun e=>d (e ▸ hb);omega
   simp;omega
theorem sum_one (o:List Nat):(o.map fun _=>1).sum=o.length:=by
 induction o with
 | nil=>rfl
 | cons a r ih=>simp;omega
theorem total_range (bs:List (List Ins)):((List.range bs.length).map fun b=>(bs.getD b []).length).sum=total bs:=by
 unfold total;congr 1;apply List.ext_getElem?;intro i;simp only[vH];rcases wh i bs.length with h|h
 ·rw[vu (by simpa using h),vu h];simp[vA,h]
 ·rw[vP (by simpa using h),vP h];rfl
theorem Ord.short {f:Fn}{o:List Nat}(h:Ord f o):o.length<=f.blocks.length:=by have:=sum_perm_le (fun _=>1) f.blocks.length o h.nodup h.lt;rw[sum_one,sum_one]at this;simpa using this
theorem Ord.total {f:Fn}{o:List Nat}(h:Ord f o):Ref.total (moved f o).blocks<=Ref.total f.blocks:=by
 have:=sum_perm_le (fun b=>(f.blocks.getD b []).length) f.blocks.length o h.nodup h.lt;rw[total_range]at this
 have e:Ref.total (moved f o).blocks=(o.map fun b=>(f.blocks.getD b []).length).sum:=by unfold Ref.total moved;rw[List.map_map];congr 1;exact List.map_congr_left fun b _=>by simp
 rw[e];exact this
structure IsRc (g:List (List Int))(but:Int)(R:Nat->Prop):Prop where
 root:but≠0->R 0
 step:∀(b:Nat)(t:Int),R b->t∈g.getD b []->(t.toNat:Int)≠but->R t.toNat
 least:∀S:Nat->Prop,(but≠0->S 0)->(∀(b:Nat)(t:Int),R b->S b->t∈g.getD b []->(t.toNat:Int)≠but->S t.toNat)->∀i,R i->S i
def rc (g:List (List Int))(but:Int)(i:Nat):Prop:=(reached g but).getD i false=true
def RcAll:Prop:=∀(g:List (List Int))(but:Int),1<=g.length->(∀l∈g,∀t∈l,0<=t/\t<(g.length:Int))->IsRc g but (rc g but)
theorem Val.rc (h:RcAll){f:Fn}(hv:Val f)(but:Int):IsRc (graph f) but (Ref.rc (graph f) but) :=
 h _ _ (by rw[graph_len];exact hv.size.2.2.1) (val_gok hv)
structure Keeps (f:Fn)(o:List Nat):Prop extends Ord f o where
 closed:∀b∈o,∀t∈(graph f).getD b [],t.toNat∈o
 args:∀b∈o,∀l,f.blocks[b]?=some l->∀(i:Nat) x,l[i]?=some x->x.op≠28->∀v∈x.args,Kept f o v
 phiArgs:∀b∈o,∀l,f.blocks[b]?=some l->∀(i:Nat) x,l[i]?=some x->x.op=28->∀(j:Nat) t v,x.to[j]?=some t->x.args[j]?=some v->t.toNat∈o->Kept f o v
 phiSome:∀b∈o,∀l,f.blocks[b]?=some l->∀x∈l,x.op=28->∃t∈x.to,t.toNat∈o
theorem shape_phi (f:Fn){x:Ins}(h:x.op=28):(shape f x).1=-1/\(shape f x).2.1=-1/\((shape f x).2.2=true->0<x.args.length):=by unfold shape;simp[h]
theorem shape_to (f:Fn){x:Ins}(h1:x.op≠28)(h2:x.op≠29)(h3:x.op≠30):(shape f x).2.1=0:=by unfold shape;simp only[wb h1,wb h2,wb h3,apply_ite Prod.snd,apply_ite Prod.fst,ite_self]
theorem counts_iff (s:Int × Int × Bool)(x:Ins):counts s x=true↔(0<=s.1->(x.args.length:Int)=s.1)/\(s.1<0->x.args.length=x.to.length)/\(0<=s.2.1->(x.to.length:Int)=s.2.1):=by
 unfold counts;simp only[Bool.not_eq_true',Bool.or_eq_false_iff,Bool.and_eq_false_iff,decide_eq_false_iff_not,Decidable.not_not];constructor
 ·rintro⟨⟨d,g⟩,j⟩;exact⟨fun h=>d.resolve_left (fun q=>q h),fun h=>g.resolve_left (fun q=>q h),fun h=>j.resolve_left (fun q=>q h)⟩
 ·rintro⟨d,g,j⟩;refine⟨⟨?_,?_⟩,?_⟩
  ·by_cases h:0<=s.1
   ·exact .inr (d h)
   ·exact .inl h
  ·by_cases h:s.1<0
   ·exact .inr (g h)
   ·exact .inl h
  ·by_cases h:0<=s.2.1
   ·exact .inr (j h)
   ·exact .inl h
theorem argument_iff (f:Fn)(x:Ins):argument f x=true↔(shape f x).2.2=true/\counts (shape f x) x=true/\(∀z∈x.to,0<=z/\z<f.blocks.length)/\(x.op=30->x.to.getD 0 0≠x.to.getD 1 0):=by
 unfold argument;simp only[we,Bool.or_eq_true,vT,decide_eq_true_eq,and_assoc];constructor
 ·rintro⟨d,g,j,l⟩;exact⟨d,g,j,fun e=>l.resolve_left (fun q=>q e)⟩
 ·rintro⟨d,g,j,l⟩;refine⟨d,g,j,?_⟩;by_cases e:x.op=30
  ·exact .inr (l e)
  ·exact .inl e
theorem laid_at:∀(a:List Ins)(p:Bool)(x:Ins)(r:List Ins),laidFrom (a++x::r) p=true->isLast x.op=r.isEmpty
 | [],p,x,r,h=>by
  rw[List.nil_append,laidFrom]at h
  simp only[we]at h
  simpa using h.1.1
 | y::a,p,x,r,h=>by
  rw[List.cons_append,laidFrom]at h
  simp only[we]at h
  exact laid_at a _ x r h.2
theorem to_last {f:Fn}(hv:Val f){l:List Ins}(hl:l∈f.blocks){x:Ins}(hx:x∈l)(ho:x.op≠28){t:Int}(ht:t∈x.to):l.getLast?=some x:=by
 have u:=(argument_iff f x).1 (hv.arg l hl x hx)
 have m:x.op=29\/x.op=30:=by
  rcases Decidable.em (x.op=29) with h|h
  ·exact .inl h
  rcases Decidable.em (x.op=30) with d|d
  ·exact .inr d
  have p:=shape_to f ho h d;have q:=((counts_iff _ _).1 u.2.1).2.2 (by omega);rw[p]at q;have:x.to=[]:=wu (by omega);rw[this]at ht;simp at ht
 have j:isLast x.op=true:=by unfold isLast;rcases m with h|h<;>simp[h]
 obtain⟨a,r,rfl⟩:=List.append_of_mem hx;have g:=hv.laid _ hl;unfold laid at g;rw[we]at g;have:=laid_at a true x r g.2;rw[j]at this;have y:r=[]:=by simpa using this.symm
 subst y;simp
theorem to_graph {f:Fn}(hv:Val f){b:Nat}{l:List Ins}(hl:f.blocks[b]?=some l){x:Ins}(hx:x∈l)(ho:x.op≠28){t:Int}(ht:t∈x.to):t∈(graph f).getD b []:=by have d:=to_last hv (vz hl) hx ho ht;rw[vA,graph_at f hl,d];exact ht
theorem phi_parts {f:Fn}(hv:Val f){b:Nat}{l:List Ins}(hl:f.blocks[b]?=some l){x:Ins}(hx:x∈l)(ho:x.op=28):x.args.length=x.to.length/\0<x.args.length/\x.to.Pairwise (fun a c=>a<c)/\∀t∈x.to,0<=t/\t<f.blocks.length:=by have d:=(argument_iff f x).1 (hv.arg l (vz hl) x hx);obtain⟨j,m,g⟩:=shape_phi f ho;refine⟨((counts_iff _ _).1 d.2.1).2.1 (by omega),g d.1,?_,d.2.2.1⟩;rw[hv.phi b l hl x hx ho];exact asc_before _ _
theorem getD_graph {f:Fn}(hv:Val f){b:Nat}(hb:b<f.blocks.length):(graph f)[b]?=some ((graph f).getD b []):=by rw[vA,vu (by rw[graph_len];exact hb)];rfl
end Ref
end
section
namespace Ref
theorem typed_iff (f:Fn)(x:Ins):typed f x=true↔(∀v∈x.args,0<=kind f v)/\typedKinds f x (x.args.map (kind f))=true:=by unfold typed;rw[we,vT];simp only[decide_eq_true_eq]
theorem typedKinds_phi (f:Fn){x:Ins}(h:x.op=28)(k:List Int):typedKinds f x k=k.all fun z=>decide (z=x.width):=by unfold typedKinds;simp[h]
theorem get_uniq {o:List Nat}(hn:o.Nodup){j k c:Nat}(h1:o[j]?=some c)(h2:o[k]?=some c):j=k:=by have d:=toOf_get hn h1;have g:=toOf_get hn h2;omega
end Ref
end
section
namespace Ref
theorem home_of (f:Fn){v:Int}(h0:0<=v)(h1:v<count f):(0<=v/\v<f.params.length)\/∃(b i:Nat)(l:List Ins)(x:Ins),f.blocks[b]?=some l/\l[i]?=some x/\v=((number f b+i:Nat):Int):=by
 rcases (by omega:v<f.params.length\/(f.params.length:Int)<=v) with h|h
 ·exact .inl ⟨h0,h⟩
 ·obtain⟨j,i,l,x,m,d,g,p⟩:=whereIs_some f v h h1;exact .inr ⟨j,i,l,x,d,g,by unfold number;omega⟩
theorem kind_in {f:Fn}{v:Int}(h:0<=kind f v):0<=v/\v<count f:=by
 unfold kind at h;split at h
 ·omega
 ·omega
structure Back (f:Fn)(o p:List Nat):Prop where
 all:∀b,b<f.blocks.length->b∈o
 len:p.length=f.blocks.length
 back:∀b k:Nat,p[b]?=some k->o[k]?=some b
theorem Back.at {f:Fn}{o p:List Nat}(h:Back f o p)(hn:o.Nodup){b k:Nat}(hk:o[k]?=some b)(hb:b<f.blocks.length):p[b]?=some k:=by obtain⟨j,d⟩:∃j,p[b]?=some j:=⟨_,vu (by rw[h.len];exact hb)⟩;have g:=h.back b _ d;rw[d,get_uniq hn g hk]
def kept (f:Fn):List Nat:=(List.range f.blocks.length).filter fun b=>(reached (graph f) (-1)).getD b false
end Ref
end
section
namespace Ref
end Ref
end
section
namespace Ref
end Ref
end
section
namespace Ref
def Small (s:Int × Int × Bool):Prop:=0<=s.1/\s.1<=3/\0<=s.2.1/\s.2.1<=2
end Ref
end
section
open Go.RowKit
theorem fi (z:Int):IntKind.u32.wrap z=z%4294967296:=by unfold IntKind.wrap;simp[IntKind.signed,IntKind.bits]
namespace Wd
def sz (n:Int):Int:=2 ^ n.toNat
def sg (n a:Int):Int:=if sz (n-1)<=a then a-sz n else a
def Wid (n:Int):Prop:=1<=n/\n<=32
def Word (n a:Int):Prop:=0<=a/\a<sz n
def widB (n:Int):Bool:=decide (1<=n) && decide (n<=32)
def wordB (n a:Int):Bool:=widB n && decide (a<sz n)
def op (o n a b:Int):Option Int :=
 if o=1 then some ((a+b)%sz n)
 else if o=2 then some ((a-b)%sz n)
 else if o=3 then some ((a*b)%sz n)
 else if o=4 then (if b=0 then none else some (a / b))
 else if o=5 then (if b=0 then none else some (a%b))
 else if o=6 then (if b=0\/(sg n a=-sz (n-1)/\sg n b=-1) then none else some ((sg n a).tdiv (sg n b)%sz n))
 else if o=7 then (if b=0\/(sg n a=-sz (n-1)/\sg n b=-1) then none else some ((sg n a).tmod (sg n b)%sz n))
 else if o=8 then some (bits .and .u32 a b)
 else if o=9 then some (bits .or .u32 a b)
 else if o=10 then some (bits .xor .u32 a b)
 else if n<=b then none
 else if o=11 then some (a*2 ^ b.toNat%sz n)
 else if o=12 then some (a / 2 ^ b.toNat)
 else some (sg n a / 2 ^ b.toNat%sz n)
def brk (o fl n a b:Int):Bool :=
 let u:=fl%2 == 1
 let s:=fl / 2%2 == 1
 let e:=fl / 4%2 == 1
 let x:=sg n a
 let y:=sg n b
 if o=1 then u && decide (sz n<=a+b) || s && (decide (x+y < -sz (n-1)) || decide (sz (n-1)<=x+y))
 else if o=2 then u && decide (a<b) || s && (decide (x-y < -sz (n-1)) || decide (sz (n-1)<=x-y))
 else if o=3 then u && decide (sz n<=a*b) || s && (decide (x*y < -sz (n-1)) || decide (sz (n-1)<=x*y))
 else if o=11 then u && decide (sz n<=a*2 ^ b.toNat) || s && (decide (x*2 ^ b.toNat < -sz (n-1)) || decide (sz (n-1)<=x*2 ^ b.toNat))
 else if o=4 then e && decide (a%b≠0)
 else if o=6 then e && decide (x.tmod y≠0)
 else if o=12\/o=13 then e && decide (a%2 ^ b.toNat≠0)
 else false
def broken (o fl n a b:Int):Bool:=(op o n a b).isSome && brk o fl n a b
def cmpN (p a b:Int):Bool :=
 if p=0 then a == b else if p=1 then a != b
 else if p=2\/p=6 then decide (a<b) else if p=3\/p=7 then decide (a<=b)
 else if p=4\/p=8 then decide (b<a) else decide (b<=a)
def cmp (p n a b:Int):Bool:=if 6<=p then cmpN p (sg n a) (sg n b) else cmpN p a b
def ext (o frm tw x:Int):Int:=if o=16 then x else if o=17 then sg frm x%sz tw else x%sz tw
def lanes (o lane:Int):Nat->Int->Int->Int
 | 0,_,_=>0
 | k+1,a,b=>(if o=19 then a%sz lane+b%sz lane else a%sz lane-b%sz lane)%sz lane+sz lane*lanes o lane k (a / sz lane) (b / sz lane)
theorem sz_pos (n:Int):0<sz n:=by unfold sz;exact Int.pow_pos (by decide)
theorem sz_nat (n:Int):sz n=((2 ^ n.toNat:Nat):Int):=by unfold sz;simp
theorem sz_le {n m:Int}(h:n.toNat<=m.toNat):sz n<=sz m:=by rw[sz_nat,sz_nat];exact_mod_cast Nat.pow_le_pow_right (by decide) h
theorem sz_32 {n:Int}(h:Wid n):sz n<=4294967296:=by
 have:=sz_le (n:=n) (m:=32) (by have:=h.2;omega);have e:sz 32=4294967296:=by decide
 omega
theorem sz_half {n:Int}(h:Wid n):sz n=2*sz (n-1):=by
 unfold sz;have:n.toNat=(n-1).toNat+1:=by have:=h.1;omega
 rw[this,Int.pow_succ];omega
theorem sg_range {n a:Int}(hn:Wid n)(ha:Word n a):-sz (n-1)<=sg n a/\sg n a<sz (n-1):=by have d:=sz_half hn;obtain⟨g,j⟩:=ha;unfold sg;split<;>omega
theorem mod_word {n:Int}(z:Int):Word n (z%sz n):=⟨Int.emod_nonneg _ (by have:=sz_pos n;omega),Int.emod_lt_of_pos _ (sz_pos n)⟩
theorem ofInt_nat (n:Nat)(h:n<4294967296):(BitVec.ofInt 32 (n:Int)).toNat=n:=by rw[BitVec.ofInt_natCast,BitVec.toNat_ofNat];exact Nat.mod_eq_of_lt h
theorem wrap_in (z:Int)(h0:0<=z)(h1:z<4294967296):IntKind.u32.wrap z=z:=by rw[fi];omega
theorem bits_word {n a b:Int}(hn:Wid n)(ha:Word n a)(hb:Word n b):Word n (bits .and .u32 a b)/\Word n (bits .or .u32 a b)/\Word n (bits .xor .u32 a b):=by
 obtain⟨x,rfl⟩:=vF ha.1;obtain⟨y,rfl⟩:=vF hb.1;have g:=sz_32 hn;have j:x<2 ^ n.toNat:=by have:=ha.2;rw[sz_nat]at this;exact_mod_cast this
 have l:y<2 ^ n.toNat:=by have:=hb.2;rw[sz_nat]at this;exact_mod_cast this
 have p:(2 ^ n.toNat:Nat)<=4294967296:=by rw[sz_nat]at g;generalize 2 ^ n.toNat=m at g ⊢;omega
 have d:∀z:Nat,z<2 ^ n.toNat->Word n (IntKind.u32.wrap (z:Int)):=fun z hz=>by rw[wrap_in _ (by omega) (by omega)];exact⟨by omega,by rw[sz_nat];exact_mod_cast hz⟩
 refine⟨?_,?_,?_⟩
 ·show Word n (IntKind.u32.wrap (((BitVec.ofInt 32 (x:Int) &&& BitVec.ofInt 32 (y:Int)).toNat:Nat):Int));rw[BitVec.toNat_and,ofInt_nat _ (by omega),ofInt_nat _ (by omega)];exact d _ (Nat.lt_of_le_of_lt Nat.and_le_left j)
 ·show Word n (IntKind.u32.wrap (((BitVec.ofInt 32 (x:Int) ||| BitVec.ofInt 32 (y:Int)).toNat:Nat):Int));rw[BitVec.toNat_or,ofInt_nat _ (by omega),ofInt_nat _ (by omega)];exact d _ (Nat.or_lt_two_pow j l)
 ·show Word n (IntKind.u32.wrap (((BitVec.ofInt 32 (x:Int) ^^^ BitVec.ofInt 32 (y:Int)).toNat:Nat):Int));rw[BitVec.toNat_xor,ofInt_nat _ (by omega),ofInt_nat _ (by omega)];exact d _ (Nat.xor_lt_two_pow j l)
theorem op_word {o n a b z:Int}(hn:Wid n)(ha:Word n a)(hb:Word n b)(h:op o n a b=some z):Word n z:=by
 obtain⟨H,I,J⟩:=bits_word hn ha hb;have F:∀k:Int,0<=k->0<=a / k/\a / k<=a:=fun k hk=>⟨wD ha.1 hk,Int.ediv_le_self _ ha.1⟩;have G:∀k:Int,0<=k->Word n (a / k):=fun k hk=>⟨(F k hk).1,by have:=(F k hk).2;have:=ha.2;omega⟩;have K:(0:Int)<=2 ^ b.toNat:=Int.le_of_lt (Int.pow_pos (by decide))
 have d:∀{c:Prop} [Decidable c] {y:Int},(if c then none else some y)=some z->Word n y->Word n z:=fun h hy=>by
  split at h
  ·cases h
  ·injection h with h;rw[<-h];exact hy
 unfold op at h;by_cases q:o=1
 ·rw[wa q]at h;injection h with h;rw[<-h];exact mod_word _
 rw[wb q]at h;by_cases r:o=2
 ·rw[wa r]at h;injection h with h;rw[<-h];exact mod_word _
 rw[wb r]at h;by_cases t:o=3
 ·rw[wa t]at h;injection h with h;rw[<-h];exact mod_word _
 rw[wb t]at h;by_cases u:o=4
 ·rw[wa u]at h;exact d h (G b hb.1)
 rw[wb u]at h;by_cases A:o=5
 ·rw[wa A]at h;by_cases p:b=0
  ·rw[wa p]at h;cases h
  ·rw[wb p]at h;injection h with h;have L:=Int.emod_nonneg a (b:=b) p;have M:=Int.emod_lt_of_pos a (b:=b) (by have:=hb.1;omega);have:=hb.2;exact⟨by omega,by omega⟩
 rw[wb A]at h;by_cases B:o=6
 ·rw[wa B]at h;exact d h (mod_word _)
 rw[wb B]at h;by_cases C:o=7
 ·rw[wa C]at h;exact d h (mod_word _)
 rw[wb C]at h;by_cases D:o=8
 ·rw[wa D]at h;injection h with h;rw[<-h];exact H
 rw[wb D]at h;by_cases E:o=9
 ·rw[wa E]at h;injection h with h;rw[<-h];exact I
 rw[wb E]at h;by_cases g:o=10
 ·rw[wa g]at h;injection h with h;rw[<-h];exact J
 rw[wb g]at h;by_cases m:n<=b
 ·rw[wa m]at h;cases h
 rw[wb m]at h;by_cases j:o=11
 ·rw[wa j]at h;injection h with h;rw[<-h];exact mod_word _
 rw[wb j]at h;by_cases l:o=12
 ·rw[wa l]at h;injection h with h;rw[<-h];exact G _ K
 rw[wb l]at h;injection h with h;rw[<-h];exact mod_word _
theorem tmod_fix (x s:Int)(hs:0<s):(if x.tmod s<0 then x.tmod s+s else x.tmod s)=x%s:=by
 have g:=Int.mul_tdiv_add_tmod x s;have j:x.tmod s<s:=Int.tmod_lt_of_pos x hs
 have l:-s<x.tmod s:=by
  rcases Int.le_total 0 x with h|h
  ·have:=Int.tmod_nonneg s h;omega
  ·have:=Int.tmod_lt_of_pos (-x) hs;rw[Int.neg_tmod]at this;omega
 have d:∀(q r:Int),x=s*q+r->0<=r->r<s->r=x%s:=fun q r e h0 hlt=>by rw[e,Int.mul_add_emod_self_left,Int.emod_eq_of_lt h0 hlt]
 split
 ·exact d (x.tdiv s-1) _ (by rw[Int.mul_sub];omega) (by omega) (by omega)
 ·exact d (x.tdiv s) _ g.symm (by omega) j
theorem down_step (x:Int)(k:Nat):(if x / 2 ^ k<0 then -((1-x / 2 ^ k) / 2) else x / 2 ^ k / 2)=x / 2 ^ (k+1):=by
 have e:x / 2 ^ (k+1)=x / 2 ^ k / 2:=by rw[Int.pow_succ,Int.ediv_ediv_of_nonneg (Int.le_of_lt (Int.pow_pos (by decide)))]
 rw[e];generalize x / 2 ^ k=y;split<;>omega
theorem shl_step (a n:Int)(k:Nat):2*(a*2 ^ k%sz n)%sz n=a*2 ^ (k+1)%sz n:=by rw[Int.mul_emod,Int.emod_emod_of_dvd _ (Int.dvd_refl _),<-Int.mul_emod,Int.pow_succ];congr 1;rw[Int.mul_comm 2,Int.mul_assoc]
def bw (o:Int)(x y:Nat):Nat:=if o=8 then x &&& y else if o=9 then x ||| y else x ^^^ y
def bt (o:Int)(p q:Int):Int:=if o=8 then p*q else if o=9 then max p q else (p+q)%2
theorem bw_step (o:Int)(x y i:Nat):((bw o x y%2 ^ (i+1):Nat):Int)=((bw o x y%2 ^ i:Nat):Int)+bt o ((x:Int) / 2 ^ i%2) ((y:Int) / 2 ^ i%2)*2 ^ i:=by
 have j:((bw o x y).testBit i).toNat=(bt o ((x:Int) / 2 ^ i%2) ((y:Int) / 2 ^ i%2)).toNat/\0<=bt o ((x:Int) / 2 ^ i%2) ((y:Int) / 2 ^ i%2):=by
  have l:(x:Int) / 2 ^ i%2=((x.testBit i).toNat:Nat):=by rw[Nat.toNat_testBit];simp
  have m:(y:Int) / 2 ^ i%2=((y.testBit i).toNat:Nat):=by rw[Nat.toNat_testBit];simp
  rw[l,m];unfold bw bt;by_cases d:o=8
  ·rw[wa d,wa d,Nat.testBit_and];cases x.testBit i<;>cases y.testBit i<;>decide
  ·rw[wb d,wb d];by_cases g:o=9
   ·rw[wa g,wa g,Nat.testBit_or];cases x.testBit i<;>cases y.testBit i<;>decide
   ·rw[wb g,wb g,Nat.testBit_xor];cases x.testBit i<;>cases y.testBit i<;>decide
 rw[Nat.pow_succ,Nat.mod_mul,<-Nat.toNat_testBit,j.1]
 push_cast
 rw[Int.toNat_of_nonneg j.2,Int.mul_comm]
theorem bw_bits (o:Int){x y n:Nat}(hn:n<=32)(hx:x<2 ^ n)(hy:y<2 ^ n):((bw o x y%2 ^ n:Nat):Int)=if o=8 then bits .and .u32 (x:Int) (y:Int) else if o=9 then bits .or .u32 (x:Int) (y:Int) else bits .xor .u32 (x:Int) (y:Int):=by
 have l:2 ^ n<=4294967296:=by
  have:=Nat.pow_le_pow_right (show 0<2 by decide) hn;have e:2 ^ 32=4294967296:=by decide
  omega
 have d:∀z:Nat,z<2 ^ n->IntKind.u32.wrap (z:Int)=((z%2 ^ n:Nat):Int):=fun z hz=>by rw[wrap_in _ (by omega) (by omega),Nat.mod_eq_of_lt hz]
 unfold bw;by_cases g:o=8
 ·rw[wa g,wa g];show _=IntKind.u32.wrap (((BitVec.ofInt 32 (x:Int) &&& BitVec.ofInt 32 (y:Int)).toNat:Nat):Int);rw[BitVec.toNat_and,ofInt_nat _ (by omega),ofInt_nat _ (by omega)];exact(d _ (Nat.lt_of_le_of_lt Nat.and_le_left hx)).symm
 ·rw[wb g,wb g];by_cases j:o=9
  ·rw[wa j,wa j];show _=IntKind.u32.wrap (((BitVec.ofInt 32 (x:Int) ||| BitVec.ofInt 32 (y:Int)).toNat:Nat):Int);rw[BitVec.toNat_or,ofInt_nat _ (by omega),ofInt_nat _ (by omega)];exact(d _ (Nat.or_lt_two_pow hx hy)).symm
  ·rw[wb j,wb j];show _=IntKind.u32.wrap (((BitVec.ofInt 32 (x:Int) ^^^ BitVec.ofInt 32 (y:Int)).toNat:Nat):Int);rw[BitVec.toNat_xor,ofInt_nat _ (by omega),ofInt_nat _ (by omega)];exact(d _ (Nat.xor_lt_two_pow hx hy)).symm
end Wd
namespace Wd
def lane1 (o S x y:Int):Int:=(if o=19 then x%S+y%S else x%S-y%S)%S
theorem lane1_range (o S x y:Int)(hS:0<S):0<=lane1 o S x y/\lane1 o S x y<S:=⟨Int.emod_nonneg _ (by omega),Int.emod_lt_of_pos _ hS⟩
theorem div_pow (a S:Int)(hS:0<S)(k:Nat):a / S / S ^ k=a / S ^ (k+1):=by rw[Int.ediv_ediv_of_nonneg (Int.le_of_lt hS),Int.pow_succ,Int.mul_comm]
theorem lanes_succ (o l:Int)(k:Nat)(a b:Int):lanes o l (k+1) a b=lane1 o (sz l) a b+sz l*lanes o l k (a / sz l) (b / sz l):=rfl
theorem lanes_step (o l:Int)(k:Nat):∀a b:Int,lanes o l (k+1) a b=lanes o l k a b+lane1 o (sz l) (a / sz l ^ k) (b / sz l ^ k)*sz l ^ k:=by
 have d:=sz_pos l
 induction k with
 | zero=>intro a b;rw[lanes_succ];simp[lanes]
 | succ k ih =>
  intro a b;rw[lanes_succ,ih,lanes_succ o l k a b,div_pow _ _ d,div_pow _ _ d,Int.mul_add,Int.pow_succ (sz l) k,Int.add_assoc];congr 2;rw[<-Int.mul_assoc,Int.mul_comm (sz l) (lane1 _ _ _ _),Int.mul_assoc,Int.mul_comm (sz l) (sz l ^ k)]
theorem lanes_range (o l:Int)(k:Nat)(a b:Int):0<=lanes o l k a b/\lanes o l k a b<sz l ^ k:=by
 have j:=sz_pos l
 induction k generalizing a b with
 | zero=>simp[lanes]
 | succ k ih =>
  obtain⟨d,m⟩:=ih (a / sz l) (b / sz l);obtain⟨p,q⟩:=lane1_range o (sz l) a b j;rw[lanes_succ,Int.pow_succ,Int.mul_comm (sz l ^ k)];have r:0<=sz l*lanes o l k (a / sz l) (b / sz l):=Int.mul_nonneg (by omega) d;have g:sz l*(lanes o l k (a / sz l) (b / sz l)+1)<=sz l*sz l ^ k:=Int.mul_le_mul_of_nonneg_left (by omega) (by omega);rw[Int.mul_add]at g;omega
theorem sz_pow (m k:Nat):sz (m:Int) ^ k=sz ((m*k:Nat):Int):=by unfold sz;rw[vG,vG,Int.pow_mul]
end Wd
namespace Wd
theorem mask_and {n x:Int}(hn:Wid n)(h0:0<=x)(h1:x<4294967296):bits .and .u32 x (sz n-1)=x%sz n:=by
 obtain⟨y,rfl⟩:=vF h0;have p:y<4294967296:=by omega
 have d:=sz_32 hn;have g:=sz_pos n;rw[sz_nat]at d g ⊢;generalize hm:n.toNat=m at d g ⊢
 have l:((2 ^ m:Nat):Int)-1=((2 ^ m-1:Nat):Int):=by have:=Nat.two_pow_pos m;omega
 have j:2 ^ m-1<4294967296:=by generalize 2 ^ m=q at d g ⊢;omega
 rw[l];show IntKind.u32.wrap (((BitVec.ofInt 32 (y:Int) &&& BitVec.ofInt 32 ((2 ^ m-1:Nat):Int)).toNat:Nat):Int)=_;rw[BitVec.toNat_and,ofInt_nat _ p,ofInt_nat _ j,Nat.and_two_pow_sub_one_eq_mod,wrap_in _ (by omega) (by have:=Nat.mod_le y (2 ^ m);omega)];simp
theorem sz_dvd {n:Int}(hn:Wid n):sz n ∣ 4294967296:=by
 have e:(4294967296:Int)=2 ^ 32:=by decide
 rw[e];unfold sz;have h:=hn.2;exact⟨2 ^ (32-n.toNat),by rw[<-Int.pow_add];congr 1;omega⟩
theorem mod_mod {n:Int}(z:Int)(hn:Wid n):z%4294967296%sz n=z%sz n:=Int.emod_emod_of_dvd z (sz_dvd hn)
theorem wrap_mask {n:Int}(z:Int)(hn:Wid n):bits .and .u32 (z%4294967296) (sz n-1)=z%sz n:=by rw[mask_and hn (by omega) (by omega),mod_mod z hn]
end Wd
end
section
namespace Rn
open Ref
structure V where
 p:Bool
 s:Int
 n:Int
 deriving Inhabited,DecidableEq
def zero:V:=⟨false,0,0⟩
def poison:V:=⟨true,0,0⟩
def word (n:Int):V:=⟨false,0,n⟩
structure Out where
 kind:Int
 ret:V
 mem:List (List Int)
 deriving Inhabited,DecidableEq
def undefd:Out:=⟨1,zero,[]⟩
def long:Out:=⟨2,zero,[]⟩
structure Inp where
 args:List Int
 mem:List (List Int)
 deriving Inhabited,DecidableEq
structure St where
 vals:List V
 had:List Bool
 mem:List (List Int)
 widths:List Int
 steps:Nat
 deriving Inhabited,DecidableEq
def St.get (s:St)(v:Int):V:=s.vals.getD v.toNat zero
def St.set (s:St)(v:Nat)(x:V):St:={s with vals:=s.vals.set v x,had:=s.had.set v true}
def St.tick (s:St):St:={s with steps:=s.steps+1}
abbrev Pick:=Nat->Int->Int
def given (picks:List Int):Pick:=fun k n=>if k<picks.length then picks.getD k 0%Wd.sz n else 0
def chosen (pick:Pick)(s:St)(n:Int):V:=word (pick s.widths.length n)
def St.chose (s:St)(n:Int):St:={s with widths:=s.widths++[n]}
def arith (o fl n:Int)(a b:V):Option V :=
 if (4<=o/\o<=7)/\((b.p=true\/b.n=0)\/(o=6\/o=7)/\Wd.sg n b.n=-1/\(a.p=true\/Wd.sg n a.n=-Wd.sz (n-1))) then none
 else if a.p=true\/b.p=true then some poison
 else match Wd.op o n a.n b.n with
  | none=>some poison
  | some z=>if Wd.brk o fl n a.n b.n=true then some poison else some (word z)
def bytesAt (mem:List (List Int))(p:V)(n:Nat):Option (List Int) :=
 if p.p=true\/(mem.getD (p.s-1).toNat []).length<p.n.toNat+n then none else some (((mem.getD (p.s-1).toNat []).drop p.n.toNat).take n)
def numB:List Int->Int
 | []=>0
 | b::r=>b+256*numB r
def load (mem:List (List Int))(p:V)(n:Nat):Option V :=
 (bytesAt mem p n).map fun l=>if l.any (fun b=>decide (b<0))=true then poison else word (numB l)
def bytesOf (x:V):Nat->Int->List Int
 | 0,_=>[]
 | k+1,z=>(if x.p=true then -1 else z%256)::bytesOf x k (z / 256)
def overlay (l:List Int)(at_:Nat)(bs:List Int):List Int:=l.take at_++bs++l.drop (at_+bs.length)
def store (mem:List (List Int))(p x:V)(n:Nat):Option (List (List Int)) :=
 if p.p=true\/(mem.getD (p.s-1).toNat []).length<p.n.toNat+n then none
 else some (mem.set (p.s-1).toNat (overlay (mem.getD (p.s-1).toNat []) p.n.toNat (bytesOf x n x.n)))
def gep (slots:List Int)(fl k:Int)(p b:V):V :=
 if fl=8/\slots.getD (p.s-1).toNat 0<(p.n+Wd.sg k b.n)%4294967296 then poison else ⟨false,p.s,(p.n+Wd.sg k b.n)%4294967296⟩
def truth (b:Bool):V:=word (if b=true then 1 else 0)
inductive Res
 | val (v:V)
 | on
 | go (t:Int)
 | fin (o:Out)
 deriving DecidableEq
def plain (f:Fn)(x:Ins)(l:List V)(ks:List Int):V :=
 if x.op=0 then word x.imm
 else if x.op=14 then truth (Wd.cmp x.imm (ks.getD 0 0) (l.getD 0 zero).n (l.getD 1 zero).n)
 else if x.op=16\/x.op=17\/x.op=18 then word (Wd.ext x.op (ks.getD 0 0) x.width (l.getD 0 zero).n)
 else if x.op=19\/x.op=20 then word (Wd.lanes x.op x.imm (x.width / x.imm).toNat (l.getD 0 zero).n (l.getD 1 zero).n)
 else if x.op=24 then ⟨false,x.imm+1,0⟩
 else gep f.slots x.flags (ks.getD 1 0) (l.getD 0 zero) (l.getD 1 zero)
def exec (f:Fn)(pick:Pick)(x:Ins)(s:St):Res × St :=
 let l:=x.args.map s.get
 let ks:=x.args.map (kind f)
 if x.op=29 then (.go (x.to.getD 0 0),s)
 else if x.op=30 then (if (l.getD 0 zero).p=true then (.fin undefd,s) else (.go (x.to.getD (1-(l.getD 0 zero).n).toNat 0),s))
 else if x.op=31 then (.fin ⟨0,l.getD 0 zero,s.mem⟩,s)
 else if x.op=32 then (.fin undefd,s)
 else if x.op=26 then (match load s.mem (l.getD 0 zero) (x.width / 8).toNat with|none=>(.fin undefd,s)|some v=>(.val v,s))
 else if x.op=27 then (match store s.mem (l.getD 0 zero) (l.getD 1 zero) (ks.getD 1 0 / 8).toNat with|none=>(.fin undefd,s)|some m=>(.on,{s with mem:=m}))
 else if x.op=21 then (if (l.getD 0 zero).p=true then (.val (chosen pick s x.width),s.chose x.width) else (.val (l.getD 0 zero),s))
 else if x.op=23 then (.val (chosen pick s x.width),s.chose x.width)
 else if x.op=15 then (if (l.getD 0 zero).p=true then (.val poison,s) else (.val (l.getD (2-(l.getD 0 zero).n).toNat zero),s))
 else if 1<=x.op/\x.op<=13 then (match arith x.op x.flags x.width (l.getD 0 zero) (l.getD 1 zero) with|none=>(.fin undefd,s)|some v=>(.val v,s))
 else if x.op=22\/l.any (·.p)=true then (.val poison,s)
 else (.val (plain f x l ks),s)
inductive Nx
 | run (t:Int)
 | over (o:Out)
 deriving DecidableEq
def phiRead (s:St)(frm:Int)(x:Ins):V:=s.get (x.args.getD (x.to.idxOf frm) 0)
def phis (l:List Ins):List Ins:=l.takeWhile fun x=>decide (x.op=28)
def runIns (f:Fn)(pick:Pick)(reads:List V):List Ins->Nat->Nat->St->Nx × St
 | [],_,_,s=>(.over undefd,s)
 | x::r,i,v,s =>
  if s.steps=400 then (.over long,s)
  else if i<reads.length then runIns f pick reads r (i+1) (v+1) (s.tick.set v (reads.getD i zero))
  else match exec f pick x s.tick with
   | (.val y,s')=>runIns f pick reads r (i+1) (v+1) (s'.set v y)
   | (.on,s')=>runIns f pick reads r (i+1) (v+1) s'
   | (.go t,s')=>(.run t,s')
   | (.fin o,s')=>(.over o,s')
def block (f:Fn)(pick:Pick)(b:Nat)(frm:Int)(s:St):Nx × St :=
 runIns f pick ((phis (f.blocks.getD b [])).map (phiRead s frm)) (f.blocks.getD b []) 0 (Ref.number f b) s
def from_ (f:Fn)(pick:Pick):Nat->Nat->Int->St->Out × St × List Int
 | 0,_,_,s=>(undefd,s,[])
 | k+1,b,frm,s =>
  match block f pick b frm s with
  | (.over o,s')=>(o,s',[(b:Int)])
  | (.run t,s')=>((from_ f pick k t.toNat b s').1,(from_ f pick k t.toNat b s').2.1,(b:Int)::(from_ f pick k t.toNat b s').2.2)
def start (f:Fn)(i:Inp):St :=
 {vals:=i.args.map word++List.replicate (count f-i.args.length) zero,had:=i.args.map (fun _=>true)++List.replicate (count f-i.args.length) false,mem:=i.mem,widths:=[],steps:=0}
def run (f:Fn)(pick:Pick)(i:Inp):Out × St × List Int:=from_ f pick 401 0 (-1) (start f i)
def sgn (a b:Int):Int:=if a<b then -1 else if b<a then 1 else 0
def cmpInts:List Int->List Int->Int
 | [],[]=>0
 | [],_::_=>-1
 | _::_,[]=>1
 | a::azs,b::bs=>if sgn a b=0 then cmpInts azs bs else sgn a b
def cmpMem:List (List Int)->List (List Int)->Int
 | [],[]=>0
 | [],_::_=>-1
 | _::_,[]=>1
 | a::azs,b::bs=>if cmpInts a b=0 then cmpMem azs bs else cmpInts a b
def bit (b:Bool):Int:=if b=true then 1 else 0
def heads (o:Out):List Int:=[o.kind,bit o.ret.p,o.ret.s,o.ret.n]
def cmpOut (a b:Out):Int:=if cmpInts (heads a) (heads b)=0 then cmpMem a.mem b.mem else cmpInts (heads a) (heads b)
def insert (x:Out):List Out->List Out
 | []=>[x]
 | y::r=>if cmpOut x y=0 then y::r else if cmpOut x y<0 then x::y::r else y::insert x r
def nextK (p w:List Int):Nat->Option Nat
 | 0=>none
 | k+1=>if p.getD k 0+1<Wd.sz (w.getD k 0) then some k else nextK p w k
def padded (p:List Int)(n:Nat):List Int:=p++List.replicate (n-p.length) 0
def bump (p:List Int)(k:Nat):List Int:=p.take k++[p.getD k 0+1]
def explore (f:Fn)(i:Inp):Nat->List Int->List Out->Option (List Out)
 | 0,_,_=>none
 | n+1,picks,out =>
  let r:=run f (given picks) i
  let p:=padded picks r.2.1.widths.length
  match nextK p r.2.1.widths r.2.1.widths.length with
  | none=>some (insert r.1 out)
  | some k=>explore f i n (bump p k) (insert r.1 out)
def all (f:Fn)(i:Inp):Option (List Out):=explore f i 256 [] []
def validInput (f:Fn)(i:Inp):Int :=
 if validate f≠0 then validate f
 else if i.args.length≠f.params.length\/i.mem.length≠f.slots.length then 1
 else if (f.params.zip i.args).any (fun q=>decide (Wd.sz q.1<=q.2))=true then 1
 else if (f.slots.zip i.mem).any (fun q=>decide ((q.2.length:Int)≠q.1) || q.2.any (fun b=>decide (b < -1) || decide (255<b)))=true then 1
 else 0
def sure (f:Fn)(i:Inp):Bool :=
 match all f i with
 | some [o]=>decide (o.kind=0) && !o.ret.p && o.mem.all (fun r=>r.all fun b=>decide (0<=b))
 | _=>false
end Rn
end
section
namespace Rn
open Ref
def Im (f:Fn):Prop:=∀l∈f.blocks,∀x∈l,0<=x.imm/\x.imm<4294967296
def MemW (n:Int):Prop:=n=8\/n=16\/n=32
inductive Shp (f:Fn) (x:Ins):Prop
 | const (ho:x.op=0) (ha:x.args=[]) (hw:Wd.Wid x.width) (hi:Wd.Word x.width x.imm)
 | arith (ho:1<=x.op/\x.op<=13) (a b:Int) (ha:x.args=[a,b]) (ka:kind f a=x.width) (kb:kind f b=x.width) (hw:Wd.Wid x.width) (hf:0<=x.flags/\x.flags<=7)
 | cmp (ho:x.op=14) (a b:Int) (ha:x.args=[a,b]) (kb:kind f b=kind f a) (hk:Wd.Wid (kind f a)) (hw:x.width=1) (hi:0<=x.imm/\x.imm<=9)
 | select (ho:x.op=15) (a b c:Int) (ha:x.args=[a,b,c]) (ka:kind f a=1) (kb:kind f b=x.width) (kc:kind f c=x.width) (hw:Wd.Wid x.width\/x.width=33)
 | ext (ho:x.op=16\/x.op=17\/x.op=18) (a:Int) (ha:x.args=[a]) (hk:Wd.Wid (kind f a)) (hw:Wd.Wid x.width) (hd:if x.op=18 then x.width<kind f a else kind f a<x.width)
 | lanes (ho:x.op=19\/x.op=20) (a b:Int) (ha:x.args=[a,b]) (ka:kind f a=x.width) (kb:kind f b=x.width) (hw:Wd.Wid x.width) (h1:1<=x.imm) (h2:x.imm<x.width) (h3:x.width%x.imm=0)
 | freeze (ho:x.op=21) (a:Int) (ha:x.args=[a]) (ka:kind f a=x.width) (hw:Wd.Wid x.width)
 | poison (ho:x.op=22) (ha:x.args=[]) (hw:Wd.Wid x.width)
 | any (ho:x.op=23) (ha:x.args=[]) (hw:Wd.Wid x.width)
 | addr (ho:x.op=24) (ha:x.args=[]) (hw:x.width=33) (hi:0<=x.imm/\x.imm<f.slots.length)
 | gep (ho:x.op=25) (a b:Int) (ha:x.args=[a,b]) (ka:kind f a=33) (kb:Wd.Wid (kind f b)) (hw:x.width=33) (hf:x.flags=0\/x.flags=8)
 | load (ho:x.op=26) (a:Int) (ha:x.args=[a]) (ka:kind f a=33) (hw:MemW x.width)
 | store (ho:x.op=27) (a b:Int) (ha:x.args=[a,b]) (ka:kind f a=33) (kb:MemW (kind f b)) (hw:x.width=0)
 | phi (ho:x.op=28) (hl:x.args.length=x.to.length) (hk:∀v∈x.args,kind f v=x.width) (hw:Wd.Wid x.width\/x.width=33)
 | jump (ho:x.op=29) (ha:x.args=[]) (t:Int) (ht:x.to=[t]) (hw:x.width=0)
 | branch (ho:x.op=30) (a:Int) (ha:x.args=[a]) (ka:kind f a=1) (t u:Int) (ht:x.to=[t,u]) (hw:x.width=0)
 | ret0 (ho:x.op=31) (ha:x.args=[]) (hr:f.ret=0) (hw:x.width=0)
 | ret (ho:x.op=31) (a:Int) (ha:x.args=[a]) (ka:kind f a=f.ret) (hr:Wd.Wid f.ret) (hw:x.width=0)
 | trap (ho:x.op=32) (ha:x.args=[]) (hw:x.width=0)
theorem wid_of {n:Int}(h:isWidth n=true):Wd.Wid n:=by unfold isWidth at h;simp only[we,decide_eq_true_eq]at h;exact h
theorem len0 {l:List Int}(h:(l.length:Int)=0):l=[]:=wu (by omega)
theorem len1 {l:List Int}(h:(l.length:Int)=1):∃a,l=[a]:=by
 match l with
 | []=>simp at h
 | [a]=>exact⟨a,rfl⟩
 | _::_::_=>simp at h;omega
theorem len2 {l:List Int}(h:(l.length:Int)=2):∃a b,l=[a,b]:=by
 match l with
 | []=>simp at h
 | [_]=>simp at h
 | [a,b]=>exact⟨a,b,rfl⟩
 | _::_::_::_=>simp at h;omega
theorem len3 {l:List Int}(h:(l.length:Int)=3):∃a b c,l=[a,b,c]:=by
 match l with
 | []=>simp at h
 | [_]=>simp at h
 | [_,_]=>simp at h
 | [a,b,c]=>exact⟨a,b,c,rfl⟩
 | _::_::_::_::_=>simp at h;omega
theorem word_of {n x:Int}(h:isWordOf n x=true)(h0:0<=x):Wd.Word n x:=by unfold isWordOf at h;simp only[we,decide_eq_true_eq]at h;exact⟨h0,h.2⟩
theorem shp {f:Fn}(hv:Val f)(hi:Im f){l:List Ins}(hl:l∈f.blocks){x:Ins}(hx:x∈l):Shp f x:=by
 obtain⟨d,T,X,Y⟩:=(argument_iff f x).1 (hv.arg l hl x hx);obtain⟨m,p,r⟩:=(counts_iff _ _).1 T;obtain⟨Z,g⟩:=(typed_iff f x).1 (hv.typ l hl x hx);obtain⟨Q,W⟩:=hi l hl x hx;have U:=hv.ret;clear T hl hx hv hi;by_cases K:x.op=0
 ·have q:Ref.shape f x=(0,0,isWidth x.width && decide (x.flags=0) && isWordOf x.width x.imm):=by unfold Ref.shape;rw[wa K]
  rw[q]at d m p r;simp at d;exact .const K (len0 (m (by simp))) (wid_of d.1.1) (word_of d.2 Q)
 by_cases y:x.op=14
 ·
  simp[Ref.shape,y]at d m p r;obtain⟨a,b,j⟩:=len2 (by omega:(x.args.length:Int)=2);simp[typedKinds,y,j]at g;exact .cmp y a b j g.2 (wid_of g.1) d.1.1 ⟨Q,d.2⟩
 by_cases A:x.op=15
 ·simp[Ref.shape,A]at d m p r;obtain⟨a,b,c,j⟩:=len3 (by omega:(x.args.length:Int)=3);simp[typedKinds,A,j]at g;exact .select A a b c j g.1.1 g.1.2 g.2 (d.1.imp wid_of id)
 by_cases B:x.op=16\/x.op=17\/x.op=18\/x.op=21
 ·simp[Ref.shape,K,y,A,B]at d m p r;obtain⟨a,j⟩:=len1 (by omega:(x.args.length:Int)=1);rcases B with h|h|h|h
  ·simp[typedKinds,h,j]at g;exact .ext (.inl h) a j (wid_of g.1) (wid_of d.1) (by rw[wb (by omega)];exact g.2)
  ·simp[typedKinds,h,j]at g;exact .ext (.inr (.inl h)) a j (wid_of g.1) (wid_of d.1) (by rw[wb (by omega)];exact g.2)
  ·simp[typedKinds,h,j]at g;exact .ext (.inr (.inr h)) a j (wid_of g.1) (wid_of d.1) (by rw[wa h];exact g.2)
  ·simp[typedKinds,h,j]at g;exact .freeze h a j g (wid_of d.1)
 by_cases D:x.op=19\/x.op=20
 ·have q:Ref.shape f x=(2,0,isWidth x.width && decide (x.flags=0) && decide (1<=x.imm) && decide (x.imm<x.width) && decide (x.width%x.imm=0)):=by
   simp only[Ref.shape,K,y,A,B,D,if_false,if_true]
  rw[q]at d m p r;simp at d m p r;obtain⟨a,b,j⟩:=len2 (by omega:(x.args.length:Int)=2)
  have R:typedKinds f x (x.args.map (kind f))=(x.args.map (kind f)).all fun z=>decide (z=x.width):=by unfold typedKinds;repeat rw[wb (by omega)]
  rw[R,j]at g;simp at g;exact .lanes D a b j g.1 g.2 (wid_of d.1.1.1.1) d.1.1.2 d.1.2 d.2
 by_cases L:x.op=22\/x.op=23
 ·simp only[Ref.shape,K,y,A,B,D,L,if_false,if_true,we]at d m p r;rcases L with h|h
  ·exact .poison h (len0 (m (by decide))) (wid_of d.1)
  ·exact .any h (len0 (m (by decide))) (wid_of d.1)
 by_cases M:x.op=24
 ·simp[Ref.shape,M]at d m p r;exact .addr M m d.1.1 ⟨Q,d.2⟩
 by_cases E:x.op=25
 ·simp[Ref.shape,E]at d m p r;obtain⟨a,b,j⟩:=len2 (by omega:(x.args.length:Int)=2);simp[typedKinds,E,j]at g;exact .gep E a b j g.1 (wid_of g.2) d.1.1 d.2
 by_cases F:x.op=26
 ·simp[Ref.shape,F]at d m p r;obtain⟨a,j⟩:=len1 (by omega:(x.args.length:Int)=1);simp[typedKinds,F,j]at g;exact .load F a j g (by unfold MemW;omega)
 by_cases G:x.op=27
 ·simp[Ref.shape,G]at d m p r;obtain⟨a,b,j⟩:=len2 (by omega:(x.args.length:Int)=2);simp[typedKinds,G,j,isMem]at g;exact .store G a b j g.1 (by unfold MemW;omega) d.1
 by_cases H:x.op=28
 ·simp[Ref.shape,H]at d m p r;rw[typedKinds_phi f H]at g;simp at g;exact .phi H p g (d.1.1.imp wid_of id)
 by_cases N:x.op=29
 ·simp[Ref.shape,N]at d m p r;obtain⟨t,P⟩:=len1 (by omega:(x.to.length:Int)=1);exact .jump N m t P d.1
 by_cases I:x.op=30
 ·simp[Ref.shape,I]at d m p r;obtain⟨a,j⟩:=len1 (by omega:(x.args.length:Int)=1);obtain⟨t,u,P⟩:=len2 (by omega:(x.to.length:Int)=2);simp[typedKinds,I,j]at g;exact .branch I a j g t u P d.1
 by_cases C:x.op=31
 ·simp[Ref.shape,C]at d m p r;by_cases J:0<f.ret
  ·rw[wa J]at m;obtain⟨a,j⟩:=len1 (by omega:(x.args.length:Int)=1);simp[typedKinds,C,j]at g;exact .ret C a j g ⟨by omega,U.2⟩ d.1
  ·rw[wb J]at m;exact .ret0 C (len0 (by omega)) (by omega) d.1
 by_cases O:x.op=32
 ·simp[Ref.shape,O]at d m p r;exact .trap O m d.1
 by_cases S:1<=x.op/\x.op<=13
 ·have q:Ref.shape f x=(2,0,isWidth x.width && decide (x.imm=0) && Ref.arith x):=by
   unfold Ref.shape;repeat rw[wb (by omega)]
   rw[wa S]
  rw[q]at d m p r;simp at d m p r;obtain⟨a,b,j⟩:=len2 (by omega:(x.args.length:Int)=2)
  have R:typedKinds f x (x.args.map (kind f))=(x.args.map (kind f)).all fun z=>decide (z=x.width):=by unfold typedKinds;repeat rw[wb (by omega)]
  rw[R,j]at g;simp at g;refine .arith S a b j g.1 g.2 (wid_of d.1.1) ?_;have:=d.2;unfold Ref.arith arith0 at this;split at this
  ·simp at this;omega
  split at this
  ·simp at this;omega
  ·simp at this;omega
 ·exfalso
  have q:Ref.shape f x=(0,0,false):=by unfold Ref.shape;repeat rw[wb (by omega)]
  rw[q]at d;simp at d
end Rn
end
section
namespace Rn
open Ref
def VOK (f:Fn)(k:Int)(v:V):Prop :=
 (v.p=true->v.s=0/\v.n=0)/\(v.p=false->(k=33->1<=v.s/\v.s<=f.slots.length/\0<=v.n/\v.n<4294967296)/\(k≠33->v.s=0/\Wd.Word k v.n))
theorem Wid33 {k:Int}(h:Wd.Wid k):k≠33:=by have:=h.2;omega
theorem VOK.num {f:Fn}{k:Int}{v:V}(h:VOK f k v)(hk:Wd.Wid k):v.s=0/\Wd.Word k v.n:=by
 cases hp:v.p with
 | false=>exact(h.2 hp).2 (Wid33 hk)
 | true=>obtain⟨d,g⟩:=h.1 hp;exact⟨d,by rw[g];exact⟨Int.le_refl 0,Wd.sz_pos k⟩⟩
theorem VOK.ptr {f:Fn}{v:V}(h:VOK f 33 v)(hp:v.p=false):1<=v.s/\v.s<=f.slots.length/\0<=v.n/\v.n<4294967296:=(h.2 hp).1 rfl
theorem VOK.u32 {f:Fn}{k:Int}{v:V}(h:VOK f k v)(hk:Wd.Wid k\/k=33):0<=v.n/\v.n<4294967296:=by
 rcases hk with hk|rfl
 ·have:=(h.num hk).2;have d:=Wd.sz_32 hk;exact⟨this.1,by have:=this.2;omega⟩
 ·cases hp:v.p with
  | true=>rw[(h.1 hp).2];decide
  | false=>exact⟨(h.ptr hp).2.2.1,(h.ptr hp).2.2.2⟩
theorem vok_poison (f:Fn)(k:Int):VOK f k poison:=⟨fun _=>⟨rfl,rfl⟩,(fun h=>by cases h)⟩
theorem vok_word (f:Fn){k n:Int}(hk:Wd.Wid k)(h:Wd.Word k n):VOK f k (word n):=⟨(fun h=>by cases h),fun _=>⟨fun h=>absurd h (Wid33 hk),fun _=>⟨rfl,h⟩⟩⟩
def Had (s:St)(v:Nat):Prop:=s.had.getD v false=true
structure Inv (f:Fn)(s:St):Prop where
 len:s.vals.length=count f
 hlen:s.had.length=count f
 ok:∀v:Nat,Had s v->VOK f (kind f v) (s.get v)/\kind f v≠0
 zero:∀v:Nat,¬Had s v->s.get v=zero
 mem:s.mem.map (fun r=>(r.length:Int))=f.slots
 bytes:∀r∈s.mem,∀b∈r,-1<=b/\b<=255
 par:∀v:Nat,v<f.params.length->Had s v
def AllHad (f:Fn)(s:St)(a:Nat)(l:List Ins):Prop:=∀j x,l[j]?=some x->x.width≠0->Had s (number f a+j)
structure Mid (f:Fn)(b i:Nat)(l:List Ins)(s:St):Prop extends Inv f s where
 rch:rc (graph f) (-1) b
 dom:∀a m,f.blocks[a]?=some m->a≠b->dominates (graph f) a b=true->AllHad f s a m
 here:∀j x,j<i->l[j]?=some x->x.width≠0->Had s (number f b+j)
section
variable {f:Fn}{b i:Nat}{l:List Ins}{s:St}
theorem had_set {s:St}{v u:Nat}{x:V}(h:Had s u):Had (s.set v x) u:=by
 unfold Had St.set at *;rw[vA]at *;by_cases e:v=u
 ·subst e
  have hl:v<s.had.length:=by
   rcases wh v s.had.length with d|d
   ·exact d
   ·rw[vP d]at h;simp at h
  rw[ww hl];rfl
 ·rw[List.getElem?_set_ne e];exact h
theorem had_set' {s:St}{v u:Nat}{x:V}(h:Had (s.set v x) u):u=v\/Had s u:=by
 by_cases e:v=u
 ·exact .inl e.symm
 ·refine .inr ?_;unfold Had St.set at *;rw[vA]at *
  rwa [List.getElem?_set_ne e]at h
theorem had_self {s:St}{v:Nat}{x:V}(h:v<s.had.length):Had (s.set v x) v:=by unfold Had St.set;rw[vA,ww h];rfl
theorem get_set_self {s:St}{v:Nat}{x:V}(h:v<s.vals.length):(s.set v x).get v=x:=by unfold St.get St.set;rw[vG,vA,ww h];rfl
theorem get_set_ne {s:St}{v u:Nat}{x:V}(h:v≠u):(s.set v x).get u=s.get u:=by unfold St.get St.set;rw[vG,vA,List.getElem?_set_ne h,<-vA]
structure Like (s s':St):Prop where
 vals:s'.vals=s.vals
 had:s'.had=s.had
 lens:s'.mem.map (fun r=>(r.length:Int))=s.mem.map (fun r=>(r.length:Int))
 bytes:(∀r∈s.mem,∀b∈r,-1<=b/\b<=255)->∀r∈s'.mem,∀b∈r,-1<=b/\b<=255
theorem Like.refl (s:St):Like s s:=⟨rfl,rfl,rfl,fun h=>h⟩
theorem Inv.like {s s':St}(h:Inv f s)(k:Like s s'):Inv f s' where
 len:=by rw[k.vals];exact h.len
 hlen:=by rw[k.had];exact h.hlen
 ok:=fun v hv=>by
  have:s'.get v=s.get v:=by unfold St.get;rw[k.vals]
  rw[this];exact h.ok v (by unfold Had at *;rwa [k.had]at hv)
 zero:=fun v hv=>by
  have:s'.get v=s.get v:=by unfold St.get;rw[k.vals]
  rw[this];exact h.zero v (by unfold Had at *;rwa [k.had]at hv)
 mem:=by rw[k.lens];exact h.mem
 bytes:=k.bytes h.bytes
 par:=fun v hv=>by unfold Had;rw[k.had];exact h.par v hv
theorem Mid.like {s s':St}(h:Mid f b i l s)(k:Like s s'):Mid f b i l s' where
 toInv:=h.toInv.like k
 rch:=h.rch
 dom:=fun a m d g p j x q r=>by unfold Had;rw[k.had];exact h.dom a m d g p j x q r
 here:=fun j x d g p=>by unfold Had;rw[k.had];exact h.here j x d g p
theorem like_tick (s:St):Like s s.tick:=⟨rfl,rfl,rfl,fun h=>h⟩
theorem like_chose (s:St)(n:Int):Like s (s.chose n):=⟨rfl,rfl,rfl,fun h=>h⟩
theorem Mid.skip (h:Mid f b i l s){x:Ins}(hx:l[i]?=some x)(hw:x.width=0):Mid f b (i+1) l s where
 toInv:=h.toInv
 rch:=h.rch
 dom:=h.dom
 here:=fun j y p d g=>by
  rcases wh j i with m|m
  ·exact h.here j y m d g
  ·have:j=i:=by omega
   subst this;rw[hx]at d;injection d with d;subst d;exact absurd hw g
theorem Mid.set (h:Mid f b i l s)(hl:f.blocks[b]?=some l){x:Ins}(hx:l[i]?=some x){y:V}(hw:x.width≠0)(hy:VOK f x.width y):Mid f b (i+1) l (s.set (number f b+i) y):=by
 have B:=(yq.1 hx).1;have A:=number_count f hl;have t:=kind_at f hl hx;refine {len:=?_,hlen:=?_,ok:=?_,zero:=?_,mem:=h.mem,bytes:=h.bytes,par:=fun v hv=>had_set (h.par v hv),rch:=h.rch,dom:=?_,here:=?_}
 ·show (s.vals.set _ _).length=_;rw[List.length_set];exact h.len
 ·show (s.had.set _ _).length=_;rw[List.length_set];exact h.hlen
 ·intro v hv;by_cases e:number f b+i=v
  ·subst e;rw[t,get_set_self (by rw[h.len];omega)];exact⟨hy,hw⟩
  ·rw[get_set_ne e];exact h.ok v ((had_set' hv).resolve_left fun q=>e q.symm)
 ·intro v hv;by_cases e:number f b+i=v
  ·subst e;exact absurd (had_self (by rw[h.hlen];omega)) hv
  ·rw[get_set_ne e];exact h.zero v fun q=>hv (had_set q)
 ·exact fun a m r g p j z d u=>had_set (h.dom a m r g p j z d u)
 ·intro j z r g p;rcases wh j i with d|d
  ·exact had_set (h.here j z d g p)
  ·have:j=i:=by omega
   subst this;exact had_self (by rw[h.hlen];omega)
theorem kind_pos {f:Fn}{v:Int}(h:0<kind f v):0<=v/\v<count f:=kind_in (by omega)
theorem there_had (h:Mid f b i l s)(hl:f.blocks[b]?=some l){v place:Int}(ht:there f (graph f) v b place=true)(hp:place=i\/(place=-1/\i=l.length))(hk:0<kind f v):Had s v.toNat:=by
 obtain⟨p,q⟩:=kind_pos hk;rcases home_of f p q with ⟨d,g⟩|⟨a,j,m,x,d,g,rfl⟩
 ·exact h.par _ (by omega)
 ·have r:=(yq.1 g).1;rw[kind_at f d g]at hk;unfold there at ht;rw[whereIs_at f d r]at ht;dsimp only at ht;rw[wb (by omega)]at ht;rw[vG];by_cases e:a=b
  ·subst e;rw[hl]at d;injection d with d;subst d;rw[wa rfl]at ht;simp at ht;exact h.here j x (by omega) g (by omega)
  ·rw[wb (by omega)]at ht;exact h.dom a m d e ht j x g (by omega)
theorem arg_there (hv:Val f)(h:Mid f b i l s)(hl:f.blocks[b]?=some l){x:Ins}(hx:l[i]?=some x)(ho:x.op≠28){v:Int}(hm:v∈x.args)(hk:0<kind f v):VOK f (kind f v) (s.get v):=by
 obtain⟨j,m⟩:=kind_pos hk;obtain⟨k,g⟩:=List.getElem?_of_mem hm;have d:=hv.st b l hl h.rch i x hx k v g;unfold argOk at d;rw[wb ho]at d;have:=(h.ok _ (there_had h hl d (.inl rfl) hk)).1
 rwa [show ((v.toNat:Nat):Int)=v by omega]at this
end
end Rn
end
