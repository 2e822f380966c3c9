import Derived.Test.YtjkajidbdmbbaaaGreatN00
import Derived.WalkKit
import Derived.WalkSpells
import Derived.WalkLawsBesides
import Derived.Deep.Draws
import Derived.Maps.AppendAt
import Derived.Deep.RegionHeld3
set_option linter.unusedSimpArgs false
set_option linter.unusedVariables false
set_option maxRecDepth 100000
set_option maxHeartbeats 16000000
namespace Go.Proofs.YtjkajidbdmbbaaaGreat
open Ref Rn Wd Ir Rf
variable {a:Act}{K:Act->World->Prop}{ops:Array Oper}{args:Array Value}{Q:Exit->Act->World->Prop}{fl frm n x:Int}{g m mem t:List (List Int)}{bs l p zs:List Int}{rest:List Oper}{us xs ys:List Value}{B B' C b bytes c i j k off:Nat}{o:Oper}{A:Option Addr}{P:Program}{e e':TypeId}{u v y z:Value}{w w':World}
section
open Go.RowKit
structure Ins where
 op:Int
 w:Int
 g:Int
 args:List Int
 i:Int
 to:List Int
 deriving Inhabited,DecidableEq
structure Fn where
 p:List Int
 ret:Int
 s:List Int
 b:List (List Ins)
 deriving Inhabited,DecidableEq
def SlAt (B:Nat)(v:Value)(n:Nat)(R:Nat->Nat->Prop):Prop :=
 ∃A cap,v=.slice A n cap/\n<=cap/\n<=17592186044416/\(0<n->∃b off,A=some ⟨b,off,none⟩/\b<B/\R b off)
def IntsAt (B:Nat)(w:World)(v:Value)(zs:List Int):Prop :=
 SlAt B v zs.length fun b off=>∀j z,zs[j]?=some z->w.cell? ⟨b,off+j,none⟩=some (.int .i64 z)
def InsAt (B:Nat)(w:World)(b off:Nat)(x:Ins):Prop :=
 ∃va vt,w.cell? ⟨b,off,none⟩=some (.int .i64 x.op)/\w.cell? ⟨b,off+1,none⟩=some (.int .i64 x.w)/\w.cell? ⟨b,off+2,none⟩=some (.int .i64 x.g) /\
  w.cell? ⟨b,off+3,none⟩=some va/\w.cell? ⟨b,off+4,none⟩=some (.int .u32 x.i)/\w.cell? ⟨b,off+5,none⟩=some vt/\IntsAt B w va x.args/\IntsAt B w vt x.to
def BlkAt (B:Nat)(w:World)(v:Value)(l:List Ins):Prop :=
 SlAt B v l.length fun b off=>∀j x,l[j]?=some x->InsAt B w b (off+j*6) x
def BlksAt (B:Nat)(w:World)(v:Value)(bs:List (List Ins)):Prop :=
 SlAt B v bs.length fun b off=>∀j l,bs[j]?=some l->∃u,w.cell? ⟨b,off+j,none⟩=some u/\BlkAt B w u l
def FnAt (B:Nat)(w:World)(v:Value)(f:Fn):Prop :=
 ∃vp vs vb,v=.agg #[vp,.int .i64 f.ret,vs,vb]/\IntsAt B w vp f.p/\IntsAt B w vs f.s/\BlksAt B w vb f.b
section
variable {B:Nat}{w w':World}
theorem SlAt.imp {n:Nat}{R R':Nat->Nat->Prop}(h:SlAt B v n R)(hr:∀b off,b<B->R b off->R' b off):SlAt B v n R':=by obtain⟨A,d,rfl,j,l,m⟩:=h;refine⟨A,d,rfl,j,l,fun q=>?_⟩;obtain⟨b,off,e,g,p⟩:=m q;exact⟨b,off,e,g,hr b off g p⟩
theorem IntsAt.below (h:IntsAt B w v zs)(hb:Below B w w'):IntsAt B w' v zs :=
 SlAt.imp h fun b off d g j z l=>(hb.cell (p:=⟨b,off+j,none⟩) d).trans (g j z l)
theorem InsAt.below {x:Ins}(h:InsAt B w b off x)(hlt:b<B)(hb:Below B w w'):InsAt B w' b off x:=by
 obtain⟨va,vt,d,g,j,l,m,q,r,t⟩:=h
 exact⟨va,vt,(hb.cell (p:=⟨b,off,none⟩) hlt).trans d,(hb.cell (p:=⟨b,off+1,none⟩) hlt).trans g,(hb.cell (p:=⟨b,off+2,none⟩) hlt).trans j,
   (hb.cell (p:=⟨b,off+3,none⟩) hlt).trans l,(hb.cell (p:=⟨b,off+4,none⟩) hlt).trans m,(hb.cell (p:=⟨b,off+5,none⟩) hlt).trans q,r.below hb,t.below hb⟩
theorem BlkAt.below {l:List Ins}(h:BlkAt B w v l)(hb:Below B w w'):BlkAt B w' v l :=
 SlAt.imp h fun _ _ d g j x m=>(g j x m).below d hb
theorem BlksAt.below {bs:List (List Ins)}(h:BlksAt B w v bs)(hb:Below B w w'):BlksAt B w' v bs :=
 SlAt.imp h fun b off g m j l hl=>by obtain⟨u,q,d⟩:=m j l hl;exact⟨u,(hb.cell (p:=⟨b,off+j,none⟩) g).trans q,d.below hb⟩
theorem FnAt.below {f:Fn}(h:FnAt B w v f)(hb:Below B w w'):FnAt B w' v f:=by obtain⟨vp,vs,vb,rfl,d,g,j⟩:=h;exact⟨vp,vs,vb,rfl,d.below hb,g.below hb,j.below hb⟩
theorem SlAt.mono {n:Nat}{R:Nat->Nat->Prop}(h:SlAt B v n R)(hB:B<=B'):SlAt B' v n R:=by obtain⟨A,d,rfl,g,j,l⟩:=h;refine⟨A,d,rfl,g,j,fun p=>?_⟩;obtain⟨b,off,e,q,m⟩:=l p;exact⟨b,off,e,by omega,m⟩
theorem IntsAt.mono (h:IntsAt B w v zs)(hB:B<=B'):IntsAt B' w v zs:=SlAt.mono h hB
theorem InsAt.mono {x:Ins}(h:InsAt B w b off x)(hB:B<=B'):InsAt B' w b off x:=by obtain⟨va,vt,d,g,j,l,m,p,q,r⟩:=h;exact⟨va,vt,d,g,j,l,m,p,q.mono hB,r.mono hB⟩
theorem BlkAt.mono {l:List Ins}(h:BlkAt B w v l)(hB:B<=B'):BlkAt B' w v l :=
 SlAt.mono (SlAt.imp h fun _ _ _ d j x g=>(d j x g).mono hB) hB
theorem BlksAt.mono {bs:List (List Ins)}(h:BlksAt B w v bs)(hB:B<=B'):BlksAt B' w v bs :=
 SlAt.mono (SlAt.imp h fun _ _ _ g j l hl=>by
   obtain⟨u,m,d⟩:=g j l hl
   exact⟨u,m,d.mono hB⟩) hB
theorem FnAt.mono {f:Fn}(h:FnAt B w v f)(hB:B<=B'):FnAt B' w v f:=by obtain⟨vp,vs,vb,rfl,d,g,j⟩:=h;exact⟨vp,vs,vb,rfl,d.mono hB,g.mono hB,j.mono hB⟩
end
theorem dr {α:Type}{l:List α}{x:α}{r:List α}(h:l.drop k=x::r):k<l.length/\l[k]?=some x/\l.drop (k+1)=r:=by
 have g:k<l.length:=by
  rcases yw k l.length with d|d
  ·exact d
  ·rw[yj d]at h;cases h
 rw[yg g]at h;injection h with d j;exact⟨g,by rw[xR g,d],j⟩
theorem dw {α:Type}{l:List α}(h:l.drop k=[])(hk:k<=l.length):k=l.length:=by have:=List.drop_eq_nil_iff.1 h;omega
end
section
namespace Ref
def yS (n:Int):Bool:=decide (1<=n) && decide (n<=32)
def Ew (n x:Int):Bool:=yS n && decide (x<2 ^ n.toNat)
def Cb (op:Int):Bool:=decide (op=29) || decide (op=30) || decide (op=31) || decide (op=32)
def E5 (fl im:Int):Bool:=decide (fl=0) && decide (im=0)
def Ej (x:Ins):Bool:=E5 x.g x.i
def Ge (op fl:Int):Bool :=
 if op=1\/op=2\/op=3\/op=11 then decide (0<=fl) && decide (fl<=3)
 else if op=4\/op=6\/op=12\/op=13 then decide (fl=0) || decide (fl=4)
 else decide (fl=0)
def Gq (x:Ins):Bool:=Ge x.op x.g
def En (l:List Int)(n:Int):Bool:=l.any fun z=>decide (z=n)
def D7:List Int->List Int->Bool
 | [],[]=>true
 | a::azs,b::bs=>decide (a=b) && D7 azs bs
 | _,_=>false
def AX (bs:List (List Ins)):Nat:=(bs.map List.length).sum
def yZ (f:Fn)(k:Nat):Nat:=f.p.length+AX (f.b.take k)
def An (f:Fn):Nat:=yZ f f.b.length
def DN (v:Int):List (List Ins)->Nat->Nat->Int × Int
 | [],_,_=>(-1,-1)
 | l::r,b,n=>if (n:Int)<=v/\v<n+l.length then (b,v-n) else DN v r (b+1) (n+l.length)
def BR (f:Fn)(v:Int):Int × Int:=DN v f.b 0 f.p.length
def Ky (f:Fn)(b i:Int):Option Ins:=(f.b[b.toNat]?).bind fun l=>l[i.toNat]?
def kind (f:Fn)(v:Int):Int :=
 if v<0\/(An f:Int)<=v then -1
 else if v<f.p.length then f.p.getD v.toNat 0
 else ((Ky f (BR f v).1 (BR f v).2).map (·.w)).getD 0
def zY (f:Fn)(x:Ins):Int × Int × Bool :=
 if x.op=0 then (0,0,yS x.w && decide (x.g=0) && Ew x.w x.i)
 else if x.op=14 then (2,0,decide (x.w=1) && decide (x.g=0) && decide (x.i<=9))
 else if x.op=15 then (3,0,(yS x.w || decide (x.w=33)) && Ej x)
 else if x.op=16\/x.op=17\/x.op=18\/x.op=21 then (1,0,yS x.w && Ej x)
 else if x.op=19\/x.op=20 then (2,0,yS x.w && decide (x.g=0) && decide (1<=x.i) && decide (x.i<x.w) && decide (x.w%x.i=0))
 else if x.op=22\/x.op=23 then (0,0,yS x.w && Ej x)
 else if x.op=24 then (0,0,decide (x.w=33) && decide (x.g=0) && decide (x.i<f.s.length))
 else if x.op=25 then (2,0,decide (x.w=33) && decide (x.i=0) && (decide (x.g=0) || decide (x.g=8)))
 else if x.op=26 then (1,0,(decide (x.w=8) || decide (x.w=16) || decide (x.w=32)) && Ej x)
 else if x.op=27 then (2,0,decide (x.w=0) && Ej x)
 else if x.op=28 then (-1,-1,(yS x.w || decide (x.w=33)) && Ej x && decide (0<x.args.length))
 else if x.op=29 then (0,1,decide (x.w=0) && Ej x)
 else if x.op=30 then (1,2,decide (x.w=0) && Ej x)
 else if x.op=31 then (if 0<f.ret then 1 else 0,0,decide (x.w=0) && Ej x)
 else if x.op=32 then (0,0,decide (x.w=0) && Ej x)
 else if 1<=x.op/\x.op<=13 then (2,0,yS x.w && decide (x.i=0) && Gq x)
 else (0,0,false)
def Dj (s:Int × Int × Bool)(x:Ins):Bool :=
 !(decide (0<=s.1) && decide ((x.args.length:Int)≠s.1) || decide (s.1<0) && decide (x.args.length≠x.to.length) || decide (0<=s.2.1) && decide ((x.to.length:Int)≠s.2.1))
def zm (f:Fn)(x:Ins):Bool :=
 (zY f x).2.2 && Dj (zY f x) x && x.to.all (fun z=>decide (0<=z) && decide (z<f.b.length)) && (decide (x.op≠30) || decide (x.to.getD 0 0≠x.to.getD 1 0))
def n5 (f:Fn):List (List Int):=f.b.map fun l=>(l.getLast?.map (·.to)).getD []
def BF (v:Int):List (List Int)->Nat->List Int
 | [],_=>[]
 | l::r,b=>if En l v then (b:Int)::BF v r (b+1) else BF v r (b+1)
def AC (g:List (List Int))(v:Int):List Int:=BF v g 0
def Be:List Ins->Bool->Bool
 | [],_=>true
 | x::r,prev=>(Cb x.op == r.isEmpty) && (decide (x.op≠28) || prev) && Be r (decide (x.op=28))
def laid (l:List Ins):Bool:=!l.isEmpty && Be l true
def EU (g:List (List Int)):List (List Ins)->Nat->Bool
 | [],_=>true
 | l::r,b=>l.all (fun x=>decide (x.op≠28) || D7 x.to (AC g b)) && EU g r (b+1)
def C7 (f:Fn):Bool:=f.b.all laid && (AC (n5 f) 0).isEmpty && EU (n5 f) f.b 0
def Ea (k:Int):Bool:=decide (k=8) || decide (k=16) || decide (k=32)
def AE (f:Fn)(x:Ins)(k:List Int):Bool :=
 if x.op=14 then yS (k.getD 0 0) && decide (k.getD 1 0=k.getD 0 0)
 else if x.op=15 then decide (k.getD 0 0=1) && decide (k.getD 1 0=x.w) && decide (k.getD 2 0=x.w)
 else if x.op=16\/x.op=17 then yS (k.getD 0 0) && decide (k.getD 0 0<x.w)
 else if x.op=18 then yS (k.getD 0 0) && decide (x.w<k.getD 0 0)
 else if x.op=25 then decide (k.getD 0 0=33) && yS (k.getD 1 0)
 else if x.op=26 then decide (k.getD 0 0=33)
 else if x.op=27 then decide (k.getD 0 0=33) && Ea (k.getD 1 0)
 else if x.op=30 then decide (k.getD 0 0=1)
 else if x.op=31 then decide (k.length=0) || decide (k.getD 0 0=f.ret)
 else k.all fun z=>decide (z=x.w)
def Aj (f:Fn)(x:Ins):Bool:=x.args.all (fun v=>decide (0<=kind f v)) && AE f x (x.args.map (kind f))
def AV (without:Int)(out:List Bool)(t:Int):List Bool:=if t=without then out else out.set t.toNat true
def Bi (without:Int)(g:List (List Int))(out:List Bool)(b:Nat):List Bool:=if out.getD b false then (g.getD b []).foldl (AV without) out else out
def Dz (without:Int)(g:List (List Int))(out:List Bool):List Bool:=(List.range g.length).foldl (Bi without g) out
def Ef (without:Int)(g:List (List Int)):Nat->List Bool->List Bool
 | 0,out=>out
 | n+1,out=>Ef without g n (Dz without g out)
def Ar (g:List (List Int))(without:Int):List Bool :=
 if without=0 then List.replicate g.length false else Ef without g g.length ((List.replicate g.length false).set 0 true)
def Bz (g:List (List Int))(a b:Int):Bool:=decide (a=b) || !(Ar g a).getD b.toNat false
def Eg (f:Fn)(g:List (List Int))(v block place:Int):Bool :=
 if (BR f v).1<0 then true
 else if (BR f v).1=block then decide (place<0) || decide ((BR f v).2<place)
 else Bz g (BR f v).1 block
def E1 (f:Fn)(g:List (List Int))(inn:List Bool)(b i:Nat)(x:Ins)(v t:Int):Bool :=
 if x.op=28 then !inn.getD t.toNat false || Eg f g v t (-1) else Eg f g v b i
def DF (f:Fn)(g:List (List Int))(inn:List Bool)(b i:Nat)(x:Ins):List Int->Nat->Bool
 | [],_=>true
 | v::r,k=>E1 f g inn b i x v (x.to.getD k 0) && DF f g inn b i x r (k+1)
def Ek (f:Fn)(g:List (List Int))(inn:List Bool)(b:Nat):List Ins->Nat->Bool
 | [],_=>true
 | x::r,i=>DF f g inn b i x x.args 0 && Ek f g inn b r (i+1)
def EI (f:Fn)(g:List (List Int))(inn:List Bool):List (List Ins)->Nat->Bool
 | [],_=>true
 | l::r,b=>(!inn.getD b false || Ek f g inn b l 0) && EI f g inn r (b+1)
def BU (f:Fn):Bool:=EI f (n5 f) (Ar (n5 f) (-1)) f.b 0
def BH (n:Int):Bool:=decide (1<=n) && decide (n<=8)
def zL (f:Fn):Int :=
 if 3<f.p.length\/2<f.s.length\/f.b.length<1\/10<f.b.length then 3
 else if 40<AX f.b then 3
 else if f.ret<0\/32<f.ret then 1
 else if f.p.all yS=false then 1
 else if f.s.all BH=false then 1
 else if f.b.all (fun l=>l.all (zm f))=false then 1
 else if C7 f=false then 7
 else if f.b.all (fun l=>l.all (Aj f))=false then 6
 else if BU f=false then 9
 else 0
theorem Gt:∀(a b:List Int),D7 a b=decide (a=b)
 | [],[]=>by simp[D7]
 | [],_::_=>by simp[D7]
 | _::_,[]=>by simp[D7]
 | a::azs,b::bs=>by
  rw[D7,Gt azs bs]
  by_cases h:a=b<;>by_cases h2:azs=bs<;>simp[h,h2]
theorem IX (l:List Ins)(r:List (List Ins)):AX (l::r)=l.length+AX r:=by simp[AX]
theorem FF (bs:List (List Ins))(k:Nat)(l:List Ins)(h:bs[k]?=some l):AX (bs.take (k+1))=AX (bs.take k)+l.length:=by obtain⟨d,e⟩:=xS.1 h;subst e;unfold AX;rw[yx d,List.map_append,List.sum_append];simp
theorem Ju (v:Int):∀(bs:List (List Ins))(b n:Nat),(n:Int)<=v->v<(n+AX bs:Nat) ->
  ∃(j i:Nat)(l:List Ins)(x:Ins),DN v bs b n=(((b+j:Nat):Int),(i:Int))/\bs[j]?=some l/\l[i]?=some x/\v=n+AX (bs.take j)+i
 | [],b,n,h1,h2=>by simp[AX]at h2;omega
 | l::r,b,n,h1,h2=>by
  rw[IX]at h2
  by_cases h:v<n+l.length
  ·refine⟨0,(v-n).toNat,l,l[(v-n).toNat]'(by omega),?_,rfl,by simp,by simp[AX];omega⟩
   rw[DN,yr ⟨h1,h⟩]
   simp;omega
  ·obtain⟨j,i,p,x,d,g,m,q⟩:=Ju v r (b+1) (n+l.length) (by omega) (by omega)
   refine⟨j+1,i,p,x,?_,by simpa using g,m,?_⟩
   ·rw[DN,yt (by omega),d];rw[show b+1+j=b+(j+1) by omega]
   ·rw[yA,IX];omega
theorem Gu (f:Fn)(v:Int)(h1:(f.p.length:Int)<=v)(h2:v<An f) :
  ∃(j i:Nat)(l:List Ins)(x:Ins),BR f v=((j:Int),(i:Int))/\f.b[j]?=some l/\l[i]?=some x/\v=f.p.length+AX (f.b.take j)+i:=by
 obtain⟨j,i,l,x,d,g,m,p⟩:=Ju v f.b 0 f.p.length h1 (by unfold An yZ at h2;rw[yv]at h2;exact h2);exact⟨j,i,l,x,by rw[BR,d];simp,g,m,p⟩
theorem GU (v:Int):∀(bs:List (List Ins))(b n:Nat),v<n->DN v bs b n=(-1,-1)
 | [],b,n,h=>rfl
 | l::r,b,n,h=>by rw[DN,yt (by omega)];exact GU v r (b+1) (n+l.length) (by omega)
end Ref
end
section
open Go.RowKit
def Gr (w w':World):Prop:=Below w.heap.size w w'
section
variable {w a b c:World}
abbrev C6 (u:World)(k:Nat)(a b c d e f:Value):Prop:=u.cell? ⟨k,0,none⟩=some a/\u.cell? ⟨k,1,none⟩=some b/\u.cell? ⟨k,2,none⟩=some c/\u.cell? ⟨k,3,none⟩=some d/\u.cell? ⟨k+1,0,none⟩=some e/\u.cell? ⟨k+1,1,none⟩=some f
abbrev RG (v:Value)(w:World)(e:Ending)(w':World):Prop:=e=.returned v/\Gr w w'
abbrev RS (v:Value)(w:World)(e:Ending)(w':World):Prop:=e=.returned v/\w=w'
abbrev RT (v:Value)(w:World)(e:Ending)(w':World):Prop:=e=.returned v/\w'=w
theorem yO (w:World):Gr w w:=Below.refl _ _
theorem Gr.size (h:Gr a b):a.heap.size<=b.heap.size:=Below.size h
theorem Gr.trans (h:Gr a b)(k:Gr b c):Gr a c:=Below.trans h (Below.mono k h.size)
theorem Gr.alloc (h:Gr w a)(o:Obj):Gr w (a.alloc o):=Below.alloc h h.size o
theorem Gr.drew (h:Gr w a):Gr w a.drew:=Below.drew h
theorem Gr.drewN (h:Gr w a)(n:Nat):Gr w (a.drewN n):=⟨h.os,h.tape,h.output,h.size,h.block⟩
theorem Gr.setCell (h:Gr w a){p:Addr}(hp:w.heap.size<=p.block)(u:Value):Gr w (a.setCell p u):=Below.setCell h hp u
theorem Gr.grown {row:Option Nat}(h:Gr w a)(hg:a.grownBy b row)(hr:∀k,row=some k->w.heap.size<=k):Gr w b:=Below.grown h hg h.size hr
theorem Gr.cell (h:Gr a b):∀k o,k<a.heap.size->b.cell? ⟨k,o,none⟩=a.cell? ⟨k,o,none⟩:=fun k o d=>Below.cell (p:=⟨k,o,none⟩) h d
theorem Gr.frozen (h:Gr a b):∀k o,k<a.heap.size->b.frozen? ⟨k,o,none⟩=a.frozen? ⟨k,o,none⟩:=fun k o d=>Below.frozen (p:=⟨k,o,none⟩) h d
theorem Gr.heap (h:Gr a b):∀k,k<a.heap.size->b.heap[k]?=a.heap[k]?:=fun k d=>h.block k d
theorem IntsAt.gr (h:IntsAt a.heap.size a v zs)(g:Gr a b):IntsAt b.heap.size b v zs:=(h.below g).mono g.size
theorem BlkAt.gr {l:List Ins}(h:BlkAt a.heap.size a v l)(g:Gr a b):BlkAt b.heap.size b v l:=(h.below g).mono g.size
theorem BlksAt.gr {l:List (List Ins)}(h:BlksAt a.heap.size a v l)(g:Gr a b):BlksAt b.heap.size b v l:=(h.below g).mono g.size
theorem FnAt.gr {f:Fn}(h:FnAt a.heap.size a v f)(g:Gr a b):FnAt b.heap.size b v f:=(h.below g).mono g.size
end
theorem cZ {a b:Bool}(h:a=b):Ending.returned (.bool a)=.returned (.bool b):=by rw[h]
theorem dg {k:IntKind}{a b:Int}(h:a=b):Ending.returned (.int k a)=.returned (.int k b):=by rw[h]
theorem dv {a b:Value}(h:a=b):Ending.returned a=.returned b:=by rw[h]
def dj (x:Ins)(va vt:Value):Value:=.agg #[.int .i64 x.op,.int .i64 x.w,.int .i64 x.g,va,.int .u32 x.i,vt]
def wQ (B:Nat)(w:World)(v:Value)(x:Ins):Prop:=∃va vt,v=dj x va vt/\IntsAt B w va x.args/\IntsAt B w vt x.to
def TabAt (B:Nat)(w:World)(v:Value)(t:List (List Int)):Prop :=
 SlAt B v t.length fun b off=>∀j l,t[j]?=some l->∃u,w.cell? ⟨b,off+j,none⟩=some u/\IntsAt B w u l
theorem TabAt.below (h:TabAt B w v t)(hb:Below B w w'):TabAt B w' v t :=
 SlAt.imp h fun b off g m j l hl=>by obtain⟨u,q,d⟩:=m j l hl;exact⟨u,(hb.cell (p:=⟨b,off+j,none⟩) g).trans q,d.below hb⟩
theorem TabAt.mono (h:TabAt B w v t)(hB:B<=B'):TabAt B' w v t :=
 SlAt.mono (SlAt.imp h fun _ _ _ g j l hl=>by
   obtain⟨u,m,d⟩:=g j l hl
   exact⟨u,m,d.mono hB⟩) hB
theorem TabAt.gr {a b:World}{l:List (List Int)}(h:TabAt a.heap.size a v l)(g:Gr a b):TabAt b.heap.size b v l:=(h.below g).mono g.size
def BoolsAt (B:Nat)(w:World)(v:Value)(bs:List Bool):Prop :=
 SlAt B v bs.length fun b off=>∀j z,bs[j]?=some z->w.cell? ⟨b,off+j,none⟩=some (.bool z)
theorem BoolsAt.below {zs:List Bool}(h:BoolsAt B w v zs)(hb:Below B w w'):BoolsAt B w' v zs :=
 SlAt.imp h fun b off d g j z l=>(hb.cell (p:=⟨b,off+j,none⟩) d).trans (g j z l)
theorem BoolsAt.mono {zs:List Bool}(h:BoolsAt B w v zs)(hB:B<=B'):BoolsAt B' w v zs:=SlAt.mono h hB
theorem BoolsAt.gr {a b:World}{l:List Bool}(h:BoolsAt a.heap.size a v l)(g:Gr a b):BoolsAt b.heap.size b v l:=(h.below g).mono g.size
theorem dq {f:FuncId}{n:Nat}
  (h:Calls P f args (w.drewN n) fun e w'=>e=.returned v/\w.drewN n=w'):Calls P f args (w.drewN n) fun e w''=>e=.returned v/\∃m,w''=w.drewN m :=
 h.mono fun _ _ ⟨d,g⟩=>⟨d,n,g.symm⟩
theorem eC (b o j:Nat):Addr.add ⟨b,o,none⟩ j=⟨b,o+j,none⟩:=by unfold Addr.add;split<;>simp_all
def Src (w:World)(u:Value)(size m:Nat)(news:List Value):Prop :=
 ∃A c,u=.slice A m c/\news.length=m*size/\(0<m->∃ad,A=some ad/\∀j x,news[j]?=some x->w.cell? (ad.add j)=some x)
section
variable {P:Program}{w:World}
theorem jB (base:Nat)(t ty e:TypeId)(i:TypeInfo)(z:Value)(size bytes:Nat)(ht:P.underlying t=some (.slice e))(hi:P.info? e=some i)(hz:i.zero=some z)
  (hsize:i.size=size) (hby:i.bytes=bytes) (hzs:z.cells.size=size) (hsz:0<size) (v:Value) (n:Nat) (xs:List Value) (hown:w.ownsRow base e size v n xs)
  (u:Value) (m:Nat) (news:List Value) (hu:Src w u size m news) (h1:∀x∈news,x.oneCell'=true) (h63:n+m<=maxLen) (hbytes:(n+m)*bytes<=140737488355328) (hbase:base<=w.heap.size) :
  ∃v' w',(Builtin.append_ #[t,t] ty #[v,u]).run P w=.ok v' w'/\w'.ownsRow base e size v' (n+m) (xs++news)/\w.grownBy w' v.ownBlock/\(v'.ownBlock=v.ownBlock\/v'.ownBlock=some w.heap.size):=by
 obtain⟨A,c,rfl,hlen,d⟩:=hu
 cases A with
 | none =>
  have I:m=0:=by
   rcases Nat.eq_zero_or_pos m with h|h
   ·exact h
   ·obtain⟨_,E,_⟩:=d h;cases E
  subst I;have p:news=[]:=yB (by simpa using hlen);subst p;refine⟨v,w,?_,by simpa using hown,World.grownBy.refl w _,.inl rfl⟩;rcases hown.2 with ⟨rfl,rfl⟩|⟨g,B,C,rfl,_,_,q,_⟩
  ·simp[Builtin.append_,run_underlying ht,sizeOf,typeInfo,hi,Builtin.lenOf,Builtin.firstCells]
  ·simp[Builtin.append_,run_underlying ht,sizeOf,typeInfo,hi,Builtin.lenOf,Builtin.firstCells,q,storeCells]
 | some ad =>
  have l:∀j x,news[j]?=some x->w.cell? (ad.add j)=some x:=by
   intro j x r;rcases Nat.eq_zero_or_pos m with h|h
   ·subst h;have p:news=[]:=yB (by simpa using hlen);subst p;simp at r
   ·obtain⟨y,D,l⟩:=d h;cases D;exact l j x r
  obtain⟨v',w',J,F,G,_,H⟩:=run_append_own_at (P:=P) w base t ty e i z size bytes ht hi hz hsize hby hzs hsz v n xs hown ad m c news hlen l h1 h63 hbytes hbase;exact⟨v',w',J,F,G,H⟩
theorem eN (s x:Operand)(t:TypeId)
  (ho:o.op=.call {callee:=.builtin .append,args:=#[s,x],argTypes:=#[t,t]})
  (base:Nat) (e:TypeId) (i:TypeInfo) (z:Value) (size bytes:Nat) (ht:P.underlying t=some (.slice e)) (hi:P.info? e=some i) (hz:i.zero=some z)
  (hsize:i.size=size) (hby:i.bytes=bytes) (hzs:z.cells.size=size) (hsz:0<size) (v:Value) (n:Nat) (xs:List Value) (hs:a.eval s=v) (hown:w.ownsRow base e size v n xs)
  (u:Value) (m:Nat) (news:List Value) (hx:a.eval x=u) (hu:Src w u size m news) (h1:∀x∈news,x.oneCell'=true) (h63:n+m<=maxLen) (hbytes:(n+m)*bytes<=140737488355328) (hbase:base<=w.heap.size)
  (h:∀v' w',w'.ownsRow base e size v' (n+m) (xs++news)->w.grownBy w' v.ownBlock->(v'.ownBlock=v.ownBlock\/v'.ownBlock=some w.heap.size)->K (a.put o.dst v') w'):o.wp P a w K Q:=by
 obtain⟨v',w',l,d,g,j⟩:=jB (P:=P) (w:=w) base t o.type e i z size bytes ht hi hz hsize hby hzs hsz v n xs hown u m news hu h1 h63 hbytes hbase;unfold Oper.wp execOp;simp only[ho,resolve,invoke,builtin,Sem.run_bind,Sem.run_pure,Result.andThen_ok,List.map_toArray,List.map_cons,List.map_nil,hs,hx,l];exact h v' w' d g j
theorem dF (hgd:o.guard=none)(s x:Operand)(t:TypeId)
  (ho:o.op=.call {callee:=.builtin .append,args:=#[s,x],argTypes:=#[t,t]})
  (base:Nat) (e:TypeId) (i:TypeInfo) (z:Value) (size bytes:Nat) (ht:P.underlying t=some (.slice e)) (hi:P.info? e=some i) (hz:i.zero=some z)
  (hsize:i.size=size) (hby:i.bytes=bytes) (hzs:z.cells.size=size) (hsz:0<size) (v:Value) (n:Nat) (xs:List Value) (hs:a.eval s=v) (hown:w.ownsRow base e size v n xs)
  (u:Value) (m:Nat) (news:List Value) (hx:a.eval x=u) (hu:Src w u size m news) (h1:∀x∈news,x.oneCell'=true) (h63:n+m<=maxLen) (hbytes:(n+m)*bytes<=140737488355328) (hbase:base<=w.heap.size)
  (h:∀v' w',w'.ownsRow base e size v' (n+m) (xs++news)->w.grownBy w' v.ownBlock->(v'.ownBlock=v.ownBlock\/v'.ownBlock=some w.heap.size)->wpList P ops Q rest (a.put o.dst v') w'):wpList P ops Q (o::rest) a w :=
 wpList_plain hgd fun _ d=>eN s x t ho base e i z size bytes ht hi hz hsize hby hzs hsz v n xs hs hown u m news hx hu h1 h63 hbytes hbase fun v' w' h2 h3 h5=>d _ _ (h v' w' h2 h3 h5)
end
section
variable {w w':World}{base:Nat}{e:TypeId}{size n:Nat}{v:Value}{xs:List Value}
theorem Src.ints (h:IntsAt B w u zs):Src w u 1 zs.length (zs.map (Value.int .i64)):=by obtain⟨A,c,rfl,_,_,g⟩:=h;refine⟨A,c,rfl,by simp,fun m=>?_⟩;obtain⟨b,off,rfl,_,l⟩:=g m;refine⟨_,rfl,fun j x d=>?_⟩;rw[yc]at d;obtain⟨z,p,rfl⟩:=Option.map_eq_some_iff.1 d;rw[eC];exact l j z p
theorem yP (w:World)(x:Value)(t:TypeId):Src (w.alloc (.cells #[x] t)) (.slice (some ⟨w.heap.size,0,none⟩) 1 1) 1 1 [x]:=by
 refine⟨_,_,rfl,rfl,fun _=>⟨_,rfl,fun j y hy=>?_⟩⟩
 match j,hy with
 | 0,hy=>simp at hy;subst hy;simp[Addr.add]
theorem Src.newN (w:World)(cs:List Value)(t:TypeId):Src (w.alloc (.cells cs.toArray t)) (.slice (some ⟨w.heap.size,0,none⟩) 1 1) cs.length 1 cs:=by refine⟨_,_,rfl,by simp,fun _=>⟨_,rfl,fun j y hy=>?_⟩⟩;have:=yo (w.alloc (.cells cs.toArray t)) w.heap.size j cs.toArray t (0,0) (heap_alloc_new w _);rw[eC,Nat.zero_add,this];simpa using hy
theorem jd (k:IntKind)(zs:List Int):∀u∈zs.map (Value.int k),u.oneCell'=true:=by intro u d;obtain⟨z,_,rfl⟩:=List.mem_map.1 d;rfl
theorem dE (h:w.ownsRow base e size v n xs):∃A cap,v=.slice A n cap/\n<=cap/\(∀g,A=some g->base<=g.block/\g.block<w.heap.size/\g.off=0/\g.spot=none)/\(A=none->n=0):=by
 rcases h.2 with ⟨rfl,rfl⟩|⟨g,cap,d,rfl,j,l,m,_⟩
 ·exact⟨none,0,rfl,yJ _,fun _ e=>(by cases e),fun _=>rfl⟩
 ·exact⟨_,cap,rfl,m,fun _ e=>(by cases e;exact⟨j,(xY.1 l).1,rfl,rfl⟩),fun e=>(by cases e)⟩
theorem dt (h:w.ownsRow base e size v n xs):∀k,v.ownBlock=some k->base<=k/\k<w.heap.size:=by
 intro k d;rcases h.2 with ⟨rfl,_⟩|⟨g,j,l,rfl,m,p,_⟩
 ·simp[Value.ownBlock]at d
 ·simp[Value.ownBlock]at d;subst d;exact⟨m,(xY.1 p).1⟩
theorem ec (h:w.ownsRow base e size v n xs)(g:Gr w w'):w'.ownsRow base e size v n xs:=by
 obtain⟨p,l⟩:=h;refine⟨p,?_⟩;rcases l with l|⟨k,d,j,hv,q,m,r⟩
 ·exact .inl l
 ·exact .inr ⟨k,d,j,hv,q,(g.heap k (xY.1 m).1).trans m,r⟩
theorem jf {row:Option Nat}(h:w.ownsRow base e size v n xs)(g:w.grownBy w' row)(hne:∀k,v.ownBlock=some k->row≠some k):w'.ownsRow base e size v n xs:=by
 obtain⟨q,l⟩:=h;refine⟨q,?_⟩;rcases l with l|⟨k,d,j,hv,t,m,r⟩
 ·exact .inl l
 ·exact .inr ⟨k,d,j,hv,t,(g.block k (xY.1 m).1 (fun p=>hne k (by rw[hv];rfl) p.symm)).trans m,r⟩
theorem dx (h:w.ownsRow base e size v n xs)(hv:v=.slice A n c)(hn:0<n):∃b,A=some ⟨b,0,none⟩/\b<w.heap.size/\base<=b/\∀j,j<n*size->w.cell? ⟨b,j,none⟩=xs[j]?:=by
 subst hv;rcases h.2 with ⟨_,u⟩|⟨g,d,l,hv,q,r,_⟩
 ·omega
 ·injection hv with m y p;subst m;subst p;exact⟨g,rfl,(xY.1 r).1,q,fun j t=>World.ownsRow.cellAt h j t⟩
theorem uf (h:w.ownsRow base e 1 v zs.length (zs.map (Value.int .i64)))(hn:zs.length<=17592186044416):IntsAt w.heap.size w v zs:=by obtain⟨A,g,hv,p,_,_⟩:=dE h;refine⟨A,g,hv,p,hn,fun q=>?_⟩;obtain⟨b,rfl,m,_,d⟩:=dx h hv q;refine⟨b,0,rfl,m,fun j z l=>?_⟩;have r:j<zs.length:=(xS.1 l).1;rw[Nat.zero_add,d j (by omega),yc,l];rfl
theorem lT {zs:List Bool}(h:w.ownsRow base e 1 v zs.length (zs.map Value.bool))(hn:zs.length<=17592186044416):BoolsAt w.heap.size w v zs:=by obtain⟨A,g,hv,p,_,_⟩:=dE h;refine⟨A,g,hv,p,hn,fun q=>?_⟩;obtain⟨b,rfl,m,_,d⟩:=dx h hv q;refine⟨b,0,rfl,m,fun j z l=>?_⟩;have r:j<zs.length:=(xS.1 l).1;rw[Nat.zero_add,d j (by omega),yc,l];rfl
theorem vR (h:w.ownsRow base e 1 v t.length us)(hn:t.length<=17592186044416)
  (hu:∀(j:Nat)(l:List Int),t[j]?=some l->∃u,us[j]?=some u/\IntsAt w.heap.size w u l):TabAt w.heap.size w v t:=by
 obtain⟨A,g,hv,r,_,_⟩:=dE h;refine⟨A,g,hv,r,hn,fun y=>?_⟩;obtain⟨b,rfl,q,_,d⟩:=dx h hv y;refine⟨b,0,rfl,q,fun j l hl=>?_⟩;have z:j<t.length:=(xS.1 hl).1;obtain⟨u,m,p⟩:=hu j l hl;exact⟨u,by rw[Nat.zero_add,d j (by omega),m],p⟩
end
def Own1 (B:Nat)(e:TypeId)(w:World)(v:Value)(xs:List Value):Prop:=w.ownsRow B e 1 v xs.length xs
theorem Own1.nil (B:Nat)(e:TypeId)(w:World):Own1 B e w (.slice none 0 0) []:=World.ownsRow_nil _ _ _ _
theorem Own1.gr (h:Own1 B e w v xs)(g:Gr w w'):Own1 B e w' v xs:=ec h g
theorem Own1.alloc (h:Own1 B e w v xs)(o:Obj):Own1 B e (w.alloc o) v xs:=ec h ((yO _).alloc o)
theorem Own1.form (h:Own1 B e w v xs):∃A c,v=.slice A xs.length c:=by obtain⟨A,c,hv,_⟩:=dE h;exact⟨A,c,hv⟩
theorem Own1.ints (h:Own1 B e w v (zs.map (Value.int .i64)))(hn:zs.length<=17592186044416):IntsAt w.heap.size w v zs :=
 uf (by have:=h;unfold Own1 at this;rwa [yl]at this) hn
theorem Own1.bools {zs:List Bool}(h:Own1 B e w v (zs.map Value.bool))(hn:zs.length<=17592186044416):BoolsAt w.heap.size w v zs :=
 lT (by have:=h;unfold Own1 at this;rwa [yl]at this) hn
theorem Gr.below {a b:World}(h:Gr w a)(k:Below B a b)(hB:w.heap.size<=B):Gr w b:=Below.trans h (k.mono hB)
theorem wk {t:TypeId}{i:TypeInfo}
  (ht:P.underlying t=some (.slice e)) (hi:P.info? e=some i) (hz:i.zero=some z) (hsize:i.size=1) (hby:i.bytes=bytes) (hzs:z.cells.size=1) (hbb:bytes<=128)
  (hgd:o.guard=none) (s x:Operand) (ho:o.op=.call {callee:=.builtin .append,args:=#[s,x],argTypes:=#[t,t]})
    (hs:a.eval s=v) (hown:Own1 B e w v xs)   (hy:y.oneCell'=true) (hx:a.eval x=.slice (some ⟨w.heap.size,0,none⟩) 1 1) (hlt:xs.length<1099511627776) (hB:B<=w.heap.size)
  (h:∀A c w',Own1 B e w' (.slice A (xs.length+1) c) (xs++[y])->Below B w w'->(w.alloc (.cells #[y] e')).grownBy w' v.ownBlock->wpList P ops Q rest (a.put o.dst (.slice A (xs.length+1) c)) w') :
  wpList P ops Q (o::rest) a (w.alloc (.cells #[y] e')):=by
 refine dF hgd s x t ho B e i z 1 bytes ht hi hz hsize hby hzs (by omega) v xs.length xs hs (ec hown ((yO _).alloc _)) _ 1 [y] hx (yP _ _ _) ?_ ?_ ?_ ?_ ?_
 ·intro u l;simp at l;subst l;exact hy
 ·simp only[maxLen];omega
 ·have:(xs.length+1)*bytes<=(xs.length+1)*128:=Nat.mul_le_mul_left _ hbb;omega
 ·simp;omega
 ·intro p w' g j _;have d:Own1 B e w' p (xs++[y]):=by unfold Own1;rw[yK];exact g
  obtain⟨A,c,hv⟩:=d.form;rw[yK]at hv;subst hv;refine h A c w' d ?_ j;refine(((Below.refl B w).alloc hB _)).grown j (by simp;omega) (fun k m=>(dt hown k m).1)
theorem xp {t:TypeId}{i:TypeInfo}
  (ht:P.underlying t=some (.slice e)) (hi:P.info? e=some i) (hz:i.zero=some z) (hsize:i.size=1) (hby:i.bytes=bytes) (hzs:z.cells.size=1)
  (hgd:o.guard=none) (s x:Operand) (ho:o.op=.call {callee:=.builtin .append,args:=#[s,x],argTypes:=#[t,t]})
    (hs:a.eval s=v) (hown:Own1 B e w v xs)   (hy:∀y∈ys,y.oneCell'=true) (hx:a.eval x=u) (hu:Src w u 1 ys.length ys)
  (h63:xs.length+ys.length<=17592186044416) (hlt:(xs.length+ys.length)*bytes<=140737488355328) (hB:B<=w.heap.size)
  (h:∀A c w',Own1 B e w' (.slice A (xs.length+ys.length) c) (xs++ys)->Below B w w'->w.grownBy w' v.ownBlock->wpList P ops Q rest (a.put o.dst (.slice A (xs.length+ys.length) c)) w') :
  wpList P ops Q (o::rest) a w:=by
 refine dF hgd s x t ho B e i z 1 bytes ht hi hz hsize hby hzs (by omega) v xs.length xs hs hown _ ys.length ys hx hu hy ?_ hlt hB ?_
 ·simp only[maxLen];omega
 ·intro m w' g j _;have d:Own1 B e w' m (xs++ys):=by unfold Own1;rw[yK];exact g
  obtain⟨A,c,hv⟩:=d.form;rw[yK]at hv;subst hv;exact h A c w' d ((Below.refl B w).grown j hB (fun k l=>(dt hown k l).1)) j
theorem yQ (w:World)(e:TypeId)(hB:B<=w.heap.size):Own1 B e (w.alloc (.cells #[] e)) (.slice (some ⟨w.heap.size,0,none⟩) 0 0) [] :=
 ⟨rfl,.inr ⟨w.heap.size,0,#[],rfl,hB,heap_alloc_new w _,yJ _,by simp[maxLen],rfl,rfl⟩⟩
theorem Own1.ne {v':Value}(h:Own1 B e w v xs)(h':Own1 B' e' w v' ys)(hne:e≠e'):∀k,v.ownBlock=some k->v'.ownBlock≠some k:=by
 intro k l j;rcases h.2 with ⟨rfl,_⟩|⟨g,q,r,rfl,_,t,_⟩
 ·simp[Value.ownBlock]at l
 rcases h'.2 with ⟨rfl,_⟩|⟨u,m,p,rfl,_,d,_⟩
 ·simp[Value.ownBlock]at j
 simp[Value.ownBlock]at l j;subst l;subst j;rw[t]at d;simp at d;exact hne d.2
theorem Own1.other {row:Option Nat}(h:Own1 B e w v xs)(g:w.grownBy w' row)(hne:∀k,v.ownBlock=some k->row≠some k):Own1 B e w' v xs:=jf h g hne
def Tab1 (B:Nat)(e:TypeId)(w:World)(us:List Value)(t:List (List Int)):Prop :=
 us.length=t.length/\∀(j:Nat)(l:List Int),t[j]?=some l->∃u,us[j]?=some u/\Own1 B e w u (l.map (Value.int .i64))/\l.length<=17592186044416
theorem Tab1.nil (B:Nat)(e:TypeId)(w:World):Tab1 B e w [] []:=⟨rfl,fun j l h=>by simp at h⟩
theorem Tab1.gr (h:Tab1 B e w us t)(g:Gr w w'):Tab1 B e w' us t :=
 ⟨h.1,fun j l hl=>by obtain⟨u,h1,h2,h3⟩:=h.2 j l hl;exact⟨u,h1,h2.gr g,h3⟩⟩
theorem Tab1.grown (h:Tab1 B e w us t)(hv:Own1 B' e' w v xs)(hne:e≠e')(g:w.grownBy w' v.ownBlock):Tab1 B e w' us t :=
 ⟨h.1,fun j l hl=>by obtain⟨u,h1,h2,h3⟩:=h.2 j l hl;exact⟨u,h1,h2.other g (fun k d=>h2.ne hv hne k d),h3⟩⟩
theorem Tab1.snoc (h:Tab1 B e w us t)(hu:Own1 B e w u (l.map (Value.int .i64)))(hl:l.length<=17592186044416):Tab1 B e w (us++[u]) (t++[l]):=by
 refine⟨by simp[h.1],fun j m d=>?_⟩;rcases Nat.lt_trichotomy j t.length with g|g|g
 ·rw[yd g]at d;rw[yd (by rw[h.1];exact g)];exact h.2 j m d
 ·subst g;simp at d;subst d;exact⟨u,by rw[<-h.1];simp,hu,hl⟩
 ·rw[yi (by simp;omega)]at d;cases d
theorem Tab1.tab (h:Tab1 B e w us t)(hv:Own1 B' e' w v us)(hn:t.length<=17592186044416):TabAt w.heap.size w v t :=
 vR (by have:=hv;unfold Own1 at this;rwa [h.1]at this) hn (fun j l hl=>by obtain⟨u,h1,h2,h3⟩:=h.2 j l hl;exact⟨u,h1,h2.ints h3⟩)
theorem xg {t:TypeId}{i:TypeInfo}
  (ht:P.underlying t=some (.slice e)) (hi:P.info? e=some i) (hz:i.zero=some z) (hsize:i.size=1) (hby:i.bytes=8) (hzs:z.cells.size=1)
  (hgd:o.guard=none) (s x:Operand) (ho:o.op=.call {callee:=.builtin .append,args:=#[s,x],argTypes:=#[t,t]})
    (hs:a.eval s=v) (hown:Own1 B e w v xs)   {ys:List Int} (hu:Hid (IntsAt C w u ys)) (hx:a.eval x=u)
  (hlt:xs.length+ys.length<=17592186044416) (hB:B<=w.heap.size)
  (h:∀A c w',Own1 B e w' (.slice A (xs.length+ys.length) c) (xs++ys.map (Value.int .i64))->Below B w w'->w.grownBy w' v.ownBlock->wpList P ops Q rest (a.put o.dst (.slice A (xs.length+ys.length) c)) w') :
  wpList P ops Q (o::rest) a w:=by
 have hl:(ys.map (Value.int .i64)).length=ys.length:=yl _;refine xp ht hi hz hsize hby hzs hgd s x ho hs hown (ys:=ys.map (Value.int .i64)) (jd _ _) hx (by rw[hl];exact Src.ints hu.out) (by rw[hl];exact hlt) (by rw[hl];omega) hB ?_;rw[hl];exact h
theorem vY {t:TypeId}{i:TypeInfo}
  (ht:P.underlying t=some (.slice e)) (hi:P.info? e=some i) (hz:i.zero=some z) (hsize:i.size=1) (hby:i.bytes=bytes) (hzs:z.cells.size=1) (hbb:bytes<=128)
  (s x:Operand) (ho:o.op=.call {callee:=.builtin .append,args:=#[s,x],argTypes:=#[t,t]})
    (hs:a.eval s=v) (hown:Own1 B e w v xs)   (hy:y.oneCell'=true) (hx:a.eval x=.slice (some ⟨w.heap.size,0,none⟩) 1 1) (hlt:xs.length<1099511627776) (hB:B<=w.heap.size)
  (h:∀A c w',Own1 B e w' (.slice A (xs.length+1) c) (xs++[y])->Below B w w'->(w.alloc (.cells #[y] e')).grownBy w' v.ownBlock->K (a.put o.dst (.slice A (xs.length+1) c)) w') :
  o.wp P a (w.alloc (.cells #[y] e')) K Q:=by
 refine eN s x t ho B e i z 1 bytes ht hi hz hsize hby hzs (by omega) v xs.length xs hs (ec hown ((yO _).alloc _)) _ 1 [y] hx (yP _ _ _) ?_ ?_ ?_ ?_ ?_
 ·intro u l;simp at l;subst l;exact hy
 ·simp only[maxLen];omega
 ·have:(xs.length+1)*bytes<=(xs.length+1)*128:=Nat.mul_le_mul_left _ hbb;omega
 ·simp;omega
 ·intro p w' g j _;have d:Own1 B e w' p (xs++[y]):=by unfold Own1;rw[yK];exact g
  obtain⟨A,c,hv⟩:=d.form;rw[yK]at hv;subst hv;refine h A c w' d ?_ j;refine(((Below.refl B w).alloc hB _)).grown j (by simp;omega) (fun k m=>(dt hown k m).1)
theorem sF {F:Prop}{t:TypeId}{i:TypeInfo}
  (ht:P.underlying t=some (.slice e)) (hi:P.info? e=some i) (hz:i.zero=some z) (hsize:i.size=1) (hby:i.bytes=bytes) (hzs:z.cells.size=1) (hbb:bytes<=128)
  (hgd:o.guard=none) (s x:Operand) (ho:o.op=.call {callee:=.builtin .append,args:=#[s,x],argTypes:=#[t,t]})
    (hs:a.eval s=v) (hown:Own1 B e w v xs)   (hy:y.oneCell'=true) (hx:a.eval x=.slice (some ⟨w.heap.size,0,none⟩) 1 1) (hlt:xs.length<1099511627776) (hB:B<=w.heap.size)
  (h:∀A c w',Own1 B e w' (.slice A (xs.length+1) c) (xs++[y])->Below B w w'->(w.alloc (.cells #[y] e')).grownBy w' v.ownBlock->K (a.put o.dst (.slice A (xs.length+1) c)) w') :
  if Region.wanted o (yielded ops a.tmps)=true then Oper.wp P o a (w.alloc (.cells #[y] e')) K Q else F:=by
 have d:Region.wanted o (yielded ops a.tmps)=true:=by simp[Region.wanted,hgd]
 rw[yr d];exact vY ht hi hz hsize hby hzs hbb s x ho hs hown hy hx hlt hB h
end
section
namespace Ref
theorem LP (a b:List (List Ins)):AX (a++b)=AX a+AX b:=by simp[AX]
theorem IY (f:Fn){l:List Ins}(h:f.b[b]?=some l):yZ f (b+1)=yZ f b+l.length:=by unfold yZ;rw[FF _ _ _ h];omega
theorem Ls (bs:List (List Ins)):∀(i j:Nat),i<=j->AX (bs.take i)<=AX (bs.take j):=by
 intro i j h
 have:bs.take j=bs.take i++(bs.drop i).take (j-i):=by rw[show j=i+(j-i) by omega,List.take_add,show i+(j-i)-i=j-i by omega]
 rw[this,LP];omega
theorem Jv (f:Fn){l:List Ins}(h:f.b[b]?=some l)(hc:b<c):yZ f b+l.length<=yZ f c:=by have d:=IY f h;have g:=Ls f.b (b+1) c (by omega);unfold yZ at d ⊢;omega
theorem EK (f:Fn){l:List Ins}(h:f.b[b]?=some l):yZ f b+l.length<=An f:=by have d:=(xS.1 h).1;unfold An;exact Jv f h d
theorem J0:∀(bs:List (List Ins))(b n j i:Nat)(l:List Ins),bs[j]?=some l->i<l.length->DN ((n+AX (bs.take j)+i:Nat):Int) bs b n=(((b+j:Nat):Int),(i:Int))
 | [],b,n,j,i,l,h,_=>by simp at h
 | c::r,b,n,0,i,l,h,hi=>by
  simp at h;subst h
  simp only[List.take_zero,AX,List.map_nil,List.sum_nil,Nat.add_zero]
  rw[DN,yr (by omega)]
  simp;omega
 | c::r,b,n,j+1,i,l,h,hi=>by
  rw[yA,IX]
  rw[DN,yt (by omega),show n+(c.length+AX (r.take j))+i=(n+c.length)+AX (r.take j)+i by omega,J0 r (b+1) (n+c.length) j i l (by simpa using h) hi]
  rw[show b+1+j=b+(j+1) by omega]
theorem KY (f:Fn){l:List Ins}(h:f.b[b]?=some l)(hi:i<l.length):BR f ((yZ f b+i:Nat):Int)=((b:Int),(i:Int)):=by have:=J0 f.b 0 f.p.length b i l h hi;rw[Nat.zero_add]at this;exact this
theorem JL (f:Fn){l:List Ins}{x:Ins}(h:f.b[b]?=some l)(hx:l[i]?=some x):kind f ((yZ f b+i:Nat):Int)=x.w:=by have d:=(xS.1 hx).1;have g:=EK f h;unfold kind;rw[yt (by omega),yt (by unfold yZ;omega),KY f h d];unfold Ky;simp only[ya,h,Option.bind_some,hx,Option.map_some,Option.getD_some]
end Ref
end
section
namespace Ref
theorem J6 (g:List (List Int)):∀(bs:List (List Ins))(b:Nat),EU g bs b=true↔∀j l,bs[j]?=some l->∀x∈l,x.op=28->x.to=AC g ((b+j:Nat):Int)
 | [],b=>by simp[EU]
 | l::r,b=>by
  unfold EU
  rw[yu,J6 g r (b+1),ym]
  constructor
  ·rintro⟨q,t⟩ j p hl x m d
   cases j with
   | zero =>
    simp at hl;subst hl
    have:=q x m
    rw[Gt]at this;simpa[d] using this
   | succ j =>
    have:=t j p (by simpa using hl) x m d;rw[this];congr 1;omega
  ·intro h;refine⟨fun x m=>?_,fun j p hl x m d=>?_⟩
   ·rw[Gt];by_cases d:x.op=28
    ·have:=h 0 l rfl x m d;simp[d,this]
    ·simp[d]
   ·have:=h (j+1) p (by simpa using hl) x m d;rw[this];congr 1;omega
theorem J7 (f:Fn)(g:List (List Int))(inn:List Bool)(b i:Nat)(x:Ins):∀(vs:List Int)(k:Nat),DF f g inn b i x vs k=true↔∀j v,vs[j]?=some v->E1 f g inn b i x v (x.to.getD (k+j) 0)=true
 | [],k=>by simp[DF]
 | v::r,k=>by
  unfold DF
  rw[yu,J7 f g inn b i x r (k+1)]
  constructor
  ·rintro⟨l,m⟩ j u d
   cases j with
   | zero=>simp at d;subst d;exact l
   | succ j =>
    have:=m j u (by simpa using d)
    rwa [show k+1+j=k+(j+1) by omega]at this
  ·intro h;refine⟨h 0 v rfl,fun j u d=>?_⟩;have:=h (j+1) u (by simpa using d)
   rwa [show k+(j+1)=k+1+j by omega]at this
theorem KG (f:Fn)(g:List (List Int))(inn:List Bool)(b:Nat):∀(l:List Ins)(i:Nat),Ek f g inn b l i=true↔∀j x,l[j]?=some x->DF f g inn b (i+j) x x.args 0=true
 | [],i=>by simp[Ek]
 | y::r,i=>by
  unfold Ek
  rw[yu,KG f g inn b r (i+1)]
  constructor
  ·rintro⟨m,p⟩ j x d
   cases j with
   | zero=>simp at d;subst d;exact m
   | succ j =>
    have:=p j x (by simpa using d)
    rwa [show i+1+j=i+(j+1) by omega]at this
  ·intro h;refine⟨h 0 y rfl,fun j x d=>?_⟩;have:=h (j+1) x (by simpa using d)
   rwa [show i+(j+1)=i+1+j by omega]at this
theorem J8 (f:Fn)(g:List (List Int))(inn:List Bool):∀(bs:List (List Ins))(b:Nat),EI f g inn bs b=true↔∀j l,bs[j]?=some l->inn.getD (b+j) false=true->Ek f g inn (b+j) l 0=true
 | [],b=>by simp[EI]
 | l::r,b=>by
  unfold EI
  rw[yu,J8 f g inn r (b+1)]
  constructor
  ·rintro⟨p,q⟩ j m hl d
   cases j with
   | zero =>
    simp at hl;subst hl
    rw[Nat.add_zero]at d ⊢
    rw[d]at p
    simpa using p
   | succ j =>
    have:=q j m (by simpa using hl)
    rw[show b+1+j=b+(j+1) by omega]at this;exact this d
  ·intro h;refine⟨?_,fun j m hl d=>?_⟩
   ·have:=h 0 l rfl;rw[Nat.add_zero]at this
    cases hb:inn.getD b false with
    | false=>rfl
    | true=>simpa using this hb
   ·have:=h (j+1) m (by simpa using hl);rw[show b+(j+1)=b+1+j by omega]at this;exact this d
structure FB (f:Fn):Prop where
 size:f.p.length<=3/\f.s.length<=2/\1<=f.b.length/\f.b.length<=10/\AX f.b<=40
 ret:0<=f.ret/\f.ret<=32
 head:f.p.all yS=true/\f.s.all BH=true
 arg:∀l∈f.b,∀x∈l,zm f x=true
 laid:∀l∈f.b,laid l=true
 entry:AC (n5 f) 0=[]
 phi:∀(b:Nat)(l:List Ins),f.b[b]?=some l->∀x∈l,x.op=28->x.to=AC (n5 f) (b:Int)
 typ:∀l∈f.b,∀x∈l,Aj f x=true
 st:∀(b:Nat)(l:List Ins),f.b[b]?=some l->(Ar (n5 f) (-1)).getD b false=true->∀(i:Nat) x,l[i]?=some x->∀(k:Nat) v,x.args[k]?=some v->E1 f (n5 f) (Ar (n5 f) (-1)) b i x v (x.to.getD k 0)=true
theorem NA (f:Fn):C7 f=true↔(∀l∈f.b,laid l=true)/\AC (n5 f) 0=[]/\(∀(b:Nat)(l:List Ins),f.b[b]?=some l->∀x∈l,x.op=28->x.to=AC (n5 f) (b:Int)):=by unfold C7;rw[yu,yu,J6,ym,List.isEmpty_iff,and_assoc];simp only[Nat.zero_add]
theorem M5 (f:Fn):BU f=true↔∀(b:Nat)(l:List Ins),f.b[b]?=some l->(Ar (n5 f) (-1)).getD b false=true->∀(i:Nat) x,l[i]?=some x->∀(k:Nat) v,x.args[k]?=some v->E1 f (n5 f) (Ar (n5 f) (-1)) b i x v (x.to.getD k 0)=true:=by unfold BU;rw[J8];simp only[Nat.zero_add,KG,J7]
theorem Oe {f:Fn}{p:Ins->Bool}:(f.b.all fun l=>l.all p)=true↔∀l∈f.b,∀x∈l,p x=true:=by simp only[ym]
theorem Jt (f:Fn):zL f=0↔FB f:=by
 have A:zL f=0↔¬(3<f.p.length\/2<f.s.length\/f.b.length<1\/10<f.b.length)/\¬40<AX f.b/\¬(f.ret<0\/32<f.ret)/\¬f.p.all yS=false/\¬f.s.all BH=false /\
   ¬(f.b.all (fun l=>l.all (zm f))=false)/\¬C7 f=false/\¬(f.b.all (fun l=>l.all (Aj f))=false)/\¬BU f=false:=by
  unfold zL;by_cases t:3<f.p.length\/2<f.s.length\/f.b.length<1\/10<f.b.length
  ·rw[yr t];exact⟨fun h=>by omega,fun h=>absurd t h.1⟩
  rw[yt t];by_cases z:40<AX f.b
  ·rw[yr z];exact⟨fun h=>by omega,fun h=>absurd z h.2.1⟩
  rw[yt z];by_cases u:f.ret<0\/32<f.ret
  ·rw[yr u];exact⟨fun h=>by omega,fun h=>absurd u h.2.2.1⟩
  rw[yt u];by_cases d:f.p.all yS=false
  ·rw[yr d];exact⟨fun h=>by omega,fun h=>absurd d h.2.2.2.1⟩
  rw[yt d];by_cases y:f.s.all BH=false
  ·rw[yr y];exact⟨fun h=>by omega,fun h=>absurd y h.2.2.2.2.1⟩
  rw[yt y];by_cases g:f.b.all (fun l=>l.all (zm f))=false
  ·rw[yr g];exact⟨fun h=>by omega,fun h=>absurd g h.2.2.2.2.2.1⟩
  rw[yt g];by_cases j:C7 f=false
  ·rw[yr j];exact⟨fun h=>by omega,fun h=>absurd j h.2.2.2.2.2.2.1⟩
  rw[yt j];by_cases m:f.b.all (fun l=>l.all (Aj f))=false
  ·rw[yr m];exact⟨fun h=>by omega,fun h=>absurd m h.2.2.2.2.2.2.2.1⟩
  rw[yt m];by_cases p:BU f=false
  ·rw[yr p];exact⟨fun h=>by omega,fun h=>absurd p h.2.2.2.2.2.2.2.2⟩
  rw[yt p];exact⟨fun _=>⟨t,z,u,d,y,g,j,m,p⟩,fun _=>rfl⟩
 rw[A];simp only[Bool.not_eq_false,Oe,NA,M5];constructor
 ·rintro⟨t,z,u,d,y,g,⟨j,m,p⟩,q,r⟩;exact⟨⟨by omega,by omega,by omega,by omega,by omega⟩,⟨by omega,by omega⟩,⟨d,y⟩,g,j,m,p,q,r⟩
 ·rintro⟨t,u,d,g,j,m,p,q,r⟩;exact⟨by omega,by omega,by omega,d.1,d.2,g,⟨j,m,p⟩,q,r⟩
theorem Nj (l:List Int)(n:Int):En l n=true↔n∈l:=by
 unfold En;rw[yG];constructor
 ·rintro⟨z,d,e⟩;simp at e;subst e;exact d
 ·intro h;exact⟨n,h,by simp⟩
theorem Ik (v:Int):∀(g:List (List Int))(b:Nat)(z:Int),z∈BF v g b↔∃j l,g[j]?=some l/\v∈l/\z=((b+j:Nat):Int)
 | [],b,z=>by simp[BF]
 | l::r,b,z=>by
  have ih:=Ik v r (b+1) z
  have m:(∃j d,r[j]?=some d/\v∈d/\z=((b+1+j:Nat):Int))↔∃j d,(l::r)[j+1]?=some d/\v∈d/\z=((b+(j+1):Nat):Int):=by simp only[xV,show ∀j,b+1+j=b+(j+1) from fun j=>by omega]
  rw[BF];constructor
  ·intro h;split at h
   ·next hh =>
    rcases List.mem_cons.1 h with rfl|h
    ·exact⟨0,l,rfl,(Nj _ _).1 hh,by simp⟩
    ·obtain⟨j,d,q⟩:=m.1 (ih.1 h);exact⟨j+1,d,q⟩
   ·obtain⟨j,d,q⟩:=m.1 (ih.1 h);exact⟨j+1,d,q⟩
  ·rintro⟨j,d,p,t,u⟩
   cases j with
   | zero =>
    simp at p;subst p;rw[yr ((Nj _ _).2 t)];exact List.mem_cons.2 (.inl (by simpa using u))
   | succ j =>
    have:=ih.2 (m.2 ⟨j,d,p,t,u⟩);split
    ·exact List.mem_cons_of_mem _ this
    ·exact this
theorem Il (v:Int):∀(g:List (List Int))(b:Nat),(BF v g b).Pairwise (fun a c=>a<c)
 | [],b=>by simp[BF]
 | l::r,b=>by
  rw[BF]
  split
  ·rw[List.pairwise_cons]
   refine⟨fun z d=>?_,Il v r (b+1)⟩
   obtain⟨j,m,-,-,e⟩:=(Ik v r (b+1) z).1 d
   omega
  ·exact Il v r (b+1)
theorem M6 {v z:Int}:z∈AC g v↔∃j l,g[j]?=some l/\v∈l/\z=(j:Nat):=by unfold AC;rw[Ik];simp only[Nat.zero_add]
theorem M7 (g:List (List Int))(v:Int):(AC g v).Pairwise (fun a c=>a<c):=Il v g 0
theorem MA (f:Fn){l:List Ins}(h:f.b[b]?=some l):(n5 f)[b]?=some ((l.getLast?.map (·.to)).getD []):=by unfold n5;rw[yc,h];rfl
theorem Kz:∀(l:List Ins)(p:Bool),l≠[]->Be l p=true->∃x,l.getLast?=some x/\Cb x.op=true
 | [],_,h,_=>absurd rfl h
 | [x],p,_,h=>by
  simp[Be]at h
  exact⟨x,rfl,h.1⟩
 | x::y::r,p,_,h=>by
  rw[Be]at h
  simp only[yu]at h
  obtain⟨z,d,hl⟩:=Kz (y::r) _ (by simp) h.2
  exact⟨z,by rw[List.getLast?_cons_cons];exact d,hl⟩
theorem Of {l:List Ins}(h:laid l=true):∃x,l.getLast?=some x/\Cb x.op=true/\x∈l:=by unfold laid at h;rw[yu]at h;obtain⟨x,d,g⟩:=Kz l true (by intro e;subst e;simp at h) h.2;exact⟨x,d,g,List.mem_of_getLast? d⟩
theorem LQ {op:Int}(h:Cb op=true):op≠28:=by unfold Cb at h;simp at h;omega
theorem Ox {f:Fn}{x:Ins}(h:zm f x=true):∀t∈x.to,0<=t/\t<f.b.length:=by unfold zm at h;simp only[yu,ym,decide_eq_true_eq]at h;exact h.1.2
theorem NC {f:Fn}(h:FB f){l:List Ins}(hl:f.b[b]?=some l):∃x,x∈l/\x.op≠28/\l.getLast?=some x/\(n5 f)[b]?=some x.to:=by obtain⟨x,d,g,j⟩:=Of (h.laid l (xT hl));refine⟨x,j,LQ g,d,?_⟩;rw[MA f hl,d];rfl
theorem KA (f:Fn):(n5 f).length=f.b.length:=by simp[n5]
theorem Og {f:Fn}(h:FB f):∀l∈n5 f,∀t∈l,0<=t/\t<((n5 f).length:Int):=by intro e m t p;obtain⟨b,g⟩:=List.getElem?_of_mem m;have d:=(xS.1 g).1;rw[KA]at d ⊢;obtain⟨x,q,-,-,j⟩:=NC h (xR d);rw[g]at j;cases j;exact Ox (h.arg _ (List.getElem_mem d) x q) t p
end Ref
end
section
namespace Ref
structure OG (g:List (List Int))(but:Int)(R:Nat->Prop):Prop where
 root:but≠0->R 0
 step:∀(b:Nat)(t:Int),R b->t∈g.getD b []->(t.toNat:Int)≠but->R t.toNat
 least:∀S:Nat->Prop,(but≠0->S 0)->(∀(b:Nat)(t:Int),R b->S b->t∈g.getD b []->(t.toNat:Int)≠but->S t.toNat)->∀i,R i->S i
def NT (g:List (List Int))(but:Int)(i:Nat):Prop:=(Ar g but).getD i false=true
def Gv:Prop:=∀(g:List (List Int))(but:Int),1<=g.length->(∀l∈g,∀t∈l,0<=t/\t<(g.length:Int))->OG g but (NT g but)
theorem FB.rc (h:Gv){f:Fn}(hv:FB f)(but:Int):OG (n5 f) but (NT (n5 f) but) :=
 h _ _ (by rw[KA];exact hv.size.2.2.1) (Og hv)
theorem ND (f:Fn){x:Ins}(h:x.op=28):(zY f x).1=-1/\(zY f x).2.1=-1/\((zY f x).2.2=true->0<x.args.length):=by unfold zY;simp[h]
theorem NU (f:Fn){x:Ins}(h1:x.op≠28)(h2:x.op≠29)(h3:x.op≠30):(zY f x).2.1=0:=by unfold zY;simp only[yt h1,yt h2,yt h3,apply_ite Prod.snd,apply_ite Prod.fst,ite_self]
theorem JU (s:Int × Int × Bool)(x:Ins):Dj s x=true↔(0<=s.1->(x.args.length:Int)=s.1)/\(s.1<0->x.args.length=x.to.length)/\(0<=s.2.1->(x.to.length:Int)=s.2.1):=by
 unfold Dj;simp only[Bool.not_eq_true',Bool.or_eq_false_iff,Bool.and_eq_false_iff,decide_eq_false_iff_not,Decidable.not_not];constructor
 ·rintro⟨⟨d,g⟩,j⟩;exact⟨fun h=>d.resolve_left (fun q=>q h),fun h=>g.resolve_left (fun q=>q h),fun h=>j.resolve_left (fun q=>q h)⟩
 ·rintro⟨d,g,j⟩;refine⟨⟨?_,?_⟩,?_⟩
  ·by_cases h:0<=s.1
   ·exact .inr (d h)
   ·exact .inl h
  ·by_cases h:s.1<0
   ·exact .inr (g h)
   ·exact .inl h
  ·by_cases h:0<=s.2.1
   ·exact .inr (j h)
   ·exact .inl h
theorem Ig (f:Fn)(x:Ins):zm f x=true↔(zY f x).2.2=true/\Dj (zY f x) x=true/\(∀z∈x.to,0<=z/\z<f.b.length)/\(x.op=30->x.to.getD 0 0≠x.to.getD 1 0):=by
 unfold zm;simp only[yu,Bool.or_eq_true,ym,decide_eq_true_eq,and_assoc];constructor
 ·rintro⟨d,g,j,l⟩;exact⟨d,g,j,fun e=>l.resolve_left (fun q=>q e)⟩
 ·rintro⟨d,g,j,l⟩;refine⟨d,g,j,?_⟩;by_cases e:x.op=30
  ·exact .inr (l e)
  ·exact .inl e
theorem LR:∀(a:List Ins)(p:Bool)(x:Ins)(r:List Ins),Be (a++x::r) p=true->Cb x.op=r.isEmpty
 | [],p,x,r,h=>by
  rw[List.nil_append,Be]at h
  simp only[yu]at h
  simpa using h.1.1
 | y::a,p,x,r,h=>by
  rw[List.cons_append,Be]at h
  simp only[yu]at h
  exact LR a _ x r h.2
theorem Nk {f:Fn}(hv:FB f){l:List Ins}(hl:l∈f.b){x:Ins}(hx:x∈l)(ho:x.op≠28){t:Int}(ht:t∈x.to):l.getLast?=some x:=by
 have u:=(Ig f x).1 (hv.arg l hl x hx)
 have m:x.op=29\/x.op=30:=by
  rcases Decidable.em (x.op=29) with h|h
  ·exact .inl h
  rcases Decidable.em (x.op=30) with d|d
  ·exact .inr d
  have p:=NU f ho h d;have q:=((JU _ _).1 u.2.1).2.2 (by omega);rw[p]at q;have:x.to=[]:=yB (by omega);rw[this]at ht;simp at ht
 have j:Cb x.op=true:=by unfold Cb;rcases m with h|h<;>simp[h]
 obtain⟨a,r,rfl⟩:=List.append_of_mem hx;have g:=hv.laid _ hl;unfold laid at g;rw[yu]at g;have:=LR a true x r g.2;rw[j]at this;have y:r=[]:=by simpa using this.symm
 subst y;simp
theorem NV {f:Fn}(hv:FB f){l:List Ins}(hl:f.b[b]?=some l){x:Ins}(hx:x∈l)(ho:x.op≠28){t:Int}(ht:t∈x.to):t∈(n5 f).getD b []:=by have d:=Nk hv (xT hl) hx ho ht;rw[xU,MA f hl,d];exact ht
theorem Lu {f:Fn}(hv:FB f){l:List Ins}(hl:f.b[b]?=some l){x:Ins}(hx:x∈l)(ho:x.op=28):x.args.length=x.to.length/\0<x.args.length/\x.to.Pairwise (fun a c=>a<c)/\∀t∈x.to,0<=t/\t<f.b.length:=by have d:=(Ig f x).1 (hv.arg l (xT hl) x hx);obtain⟨j,m,g⟩:=ND f ho;refine⟨((JU _ _).1 d.2.1).2.1 (by omega),g d.1,?_,d.2.2.1⟩;rw[hv.phi b l hl x hx ho];exact M7 _ _
theorem M8 {f:Fn}(hv:FB f)(hb:b<f.b.length):(n5 f)[b]?=some ((n5 f).getD b []):=by rw[xU,xR (by rw[KA];exact hb)];rfl
end Ref
end
section
namespace Ref
theorem NE (f:Fn)(x:Ins):Aj f x=true↔(∀v∈x.args,0<=kind f v)/\AE f x (x.args.map (kind f))=true:=by unfold Aj;rw[yu,ym];simp only[decide_eq_true_eq]
theorem KZ (f:Fn){x:Ins}(h:x.op=28)(k:List Int):AE f x k=k.all fun z=>decide (z=x.w):=by unfold AE;simp[h]
end Ref
end
section
namespace Ref
theorem KC (f:Fn){v:Int}(h0:0<=v)(h1:v<An f):(0<=v/\v<f.p.length)\/∃(b i:Nat)(l:List Ins)(x:Ins),f.b[b]?=some l/\l[i]?=some x/\v=((yZ f b+i:Nat):Int):=by
 rcases (by omega:v<f.p.length\/(f.p.length:Int)<=v) with h|h
 ·exact .inl ⟨h0,h⟩
 ·obtain⟨j,i,l,x,m,d,g,p⟩:=Gu f v h h1;exact .inr ⟨j,i,l,x,d,g,by unfold yZ;omega⟩
theorem Oh {f:Fn}{v:Int}(h:0<=kind f v):0<=v/\v<An f:=by
 unfold kind at h;split at h
 ·omega
 ·omega
end Ref
end
section
open Go.RowKit
theorem fu (z:Int):IntKind.u32.wrap z=z%4294967296:=by unfold IntKind.wrap;simp[IntKind.signed,IntKind.bits]
namespace Wd
def m9 (n:Int):Int:=2 ^ n.toNat
def zU (n a:Int):Int:=if m9 (n-1)<=a then a-m9 n else a
def zi (n:Int):Prop:=1<=n/\n<=32
def yX (n a:Int):Prop:=0<=a/\a<m9 n
def F6 (n:Int):Bool:=decide (1<=n) && decide (n<=32)
def Hv (n a:Int):Bool:=F6 n && decide (a<m9 n)
def op (o n a b:Int):Option Int :=
 if o=1 then some ((a+b)%m9 n)
 else if o=2 then some ((a-b)%m9 n)
 else if o=3 then some ((a*b)%m9 n)
 else if o=4 then (if b=0 then none else some (a / b))
 else if o=5 then (if b=0 then none else some (a%b))
 else if o=6 then (if b=0\/(zU n a=-m9 (n-1)/\zU n b=-1) then none else some ((zU n a).tdiv (zU n b)%m9 n))
 else if o=7 then (if b=0\/(zU n a=-m9 (n-1)/\zU n b=-1) then none else some ((zU n a).tmod (zU n b)%m9 n))
 else if o=8 then some (bits .and .u32 a b)
 else if o=9 then some (bits .or .u32 a b)
 else if o=10 then some (bits .xor .u32 a b)
 else if n<=b then none
 else if o=11 then some (a*2 ^ b.toNat%m9 n)
 else if o=12 then some (a / 2 ^ b.toNat)
 else some (zU n a / 2 ^ b.toNat%m9 n)
def Gw (o fl n a b:Int):Bool :=
 let u:=fl%2 == 1
 let s:=fl / 2%2 == 1
 let e:=fl / 4%2 == 1
 let x:=zU n a
 let y:=zU n b
 if o=1 then u && decide (m9 n<=a+b) || s && (decide (x+y < -m9 (n-1)) || decide (m9 (n-1)<=x+y))
 else if o=2 then u && decide (a<b) || s && (decide (x-y < -m9 (n-1)) || decide (m9 (n-1)<=x-y))
 else if o=3 then u && decide (m9 n<=a*b) || s && (decide (x*y < -m9 (n-1)) || decide (m9 (n-1)<=x*y))
 else if o=11 then u && decide (m9 n<=a*2 ^ b.toNat) || s && (decide (x*2 ^ b.toNat < -m9 (n-1)) || decide (m9 (n-1)<=x*2 ^ b.toNat))
 else if o=4 then e && decide (a%b≠0)
 else if o=6 then e && decide (x.tmod y≠0)
 else if o=12\/o=13 then e && decide (a%2 ^ b.toNat≠0)
 else false
def BZ (o fl n a b:Int):Bool:=(op o n a b).isSome && Gw o fl n a b
def JW (p a b:Int):Bool :=
 if p=0 then a == b else if p=1 then a != b
 else if p=2\/p=6 then decide (a<b) else if p=3\/p=7 then decide (a<=b)
 else if p=4\/p=8 then decide (b<a) else decide (b<=a)
def Gy (p n a b:Int):Bool:=if 6<=p then JW p (zU n a) (zU n b) else JW p a b
def E0 (o frm tw x:Int):Int:=if o=16 then x else if o=17 then zU frm x%m9 tw else x%m9 tw
def CP (o lane:Int):Nat->Int->Int->Int
 | 0,_,_=>0
 | k+1,a,b=>(if o=19 then a%m9 lane+b%m9 lane else a%m9 lane-b%m9 lane)%m9 lane+m9 lane*CP o lane k (a / m9 lane) (b / m9 lane)
theorem BC (n:Int):0<m9 n:=by unfold m9;exact Int.pow_pos (by decide)
theorem IA (n:Int):m9 n=((2 ^ n.toNat:Nat):Int):=by unfold m9;simp
theorem Hg {m:Int}(h:n.toNat<=m.toNat):m9 n<=m9 m:=by rw[IA,IA];exact_mod_cast Nat.pow_le_pow_right (by decide) h
theorem C4 (h:zi n):m9 n<=4294967296:=by
 have:=Hg (n:=n) (m:=32) (by have:=h.2;omega);have e:m9 32=4294967296:=by decide
 omega
theorem Ft (h:zi n):m9 n=2*m9 (n-1):=by
 unfold m9;have:n.toNat=(n-1).toNat+1:=by have:=h.1;omega
 rw[this,Int.pow_succ];omega
theorem Eo {a:Int}(hn:zi n)(ha:yX n a):-m9 (n-1)<=zU n a/\zU n a<m9 (n-1):=by have d:=Ft hn;obtain⟨g,j⟩:=ha;unfold zU;split<;>omega
theorem FK (z:Int):yX n (z%m9 n):=⟨Int.emod_nonneg _ (by have:=BC n;omega),Int.emod_lt_of_pos _ (BC n)⟩
theorem Ed (n:Nat)(h:n<4294967296):(BitVec.ofInt 32 (n:Int)).toNat=n:=by rw[BitVec.ofInt_natCast,BitVec.toNat_ofNat];exact Nat.mod_eq_of_lt h
theorem Jw (z:Int)(h0:0<=z)(h1:z<4294967296):IntKind.u32.wrap z=z:=by rw[fu];omega
theorem NG {a b:Int}(hn:zi n)(ha:yX n a)(hb:yX n b):yX n (bits .and .u32 a b)/\yX n (bits .or .u32 a b)/\yX n (bits .xor .u32 a b):=by
 obtain⟨x,rfl⟩:=xZ ha.1;obtain⟨y,rfl⟩:=xZ hb.1;have g:=C4 hn;have j:x<2 ^ n.toNat:=by have:=ha.2;rw[IA]at this;exact_mod_cast this
 have l:y<2 ^ n.toNat:=by have:=hb.2;rw[IA]at this;exact_mod_cast this
 have p:(2 ^ n.toNat:Nat)<=4294967296:=by rw[IA]at g;generalize 2 ^ n.toNat=m at g ⊢;omega
 have d:∀z:Nat,z<2 ^ n.toNat->yX n (IntKind.u32.wrap (z:Int)):=fun z hz=>by rw[Jw _ (by omega) (by omega)];exact⟨by omega,by rw[IA];exact_mod_cast hz⟩
 refine⟨?_,?_,?_⟩
 ·show yX n (IntKind.u32.wrap (((BitVec.ofInt 32 (x:Int) &&& BitVec.ofInt 32 (y:Int)).toNat:Nat):Int));rw[BitVec.toNat_and,Ed _ (by omega),Ed _ (by omega)];exact d _ (Nat.lt_of_le_of_lt Nat.and_le_left j)
 ·show yX n (IntKind.u32.wrap (((BitVec.ofInt 32 (x:Int) ||| BitVec.ofInt 32 (y:Int)).toNat:Nat):Int));rw[BitVec.toNat_or,Ed _ (by omega),Ed _ (by omega)];exact d _ (Nat.or_lt_two_pow j l)
 ·show yX n (IntKind.u32.wrap (((BitVec.ofInt 32 (x:Int) ^^^ BitVec.ofInt 32 (y:Int)).toNat:Nat):Int));rw[BitVec.toNat_xor,Ed _ (by omega),Ed _ (by omega)];exact d _ (Nat.xor_lt_two_pow j l)
theorem NN {o a b z:Int}(hn:zi n)(ha:yX n a)(hb:yX n b)(h:op o n a b=some z):yX n z:=by
 obtain⟨H,I,J⟩:=NG hn ha hb;have F:∀k:Int,0<=k->0<=a / k/\a / k<=a:=fun k hk=>⟨yH ha.1 hk,Int.ediv_le_self _ ha.1⟩;have G:∀k:Int,0<=k->yX n (a / k):=fun k hk=>⟨(F k hk).1,by have:=(F k hk).2;have:=ha.2;omega⟩;have K:(0:Int)<=2 ^ b.toNat:=Int.le_of_lt (Int.pow_pos (by decide))
 have d:∀{c:Prop} [Decidable c] {y:Int},(if c then none else some y)=some z->yX n y->yX n z:=fun h hy=>by
  split at h
  ·cases h
  ·injection h with h;rw[<-h];exact hy
 unfold op at h;by_cases q:o=1
 ·rw[yr q]at h;injection h with h;rw[<-h];exact FK _
 rw[yt q]at h;by_cases r:o=2
 ·rw[yr r]at h;injection h with h;rw[<-h];exact FK _
 rw[yt r]at h;by_cases t:o=3
 ·rw[yr t]at h;injection h with h;rw[<-h];exact FK _
 rw[yt t]at h;by_cases u:o=4
 ·rw[yr u]at h;exact d h (G b hb.1)
 rw[yt u]at h;by_cases A:o=5
 ·rw[yr A]at h;by_cases p:b=0
  ·rw[yr p]at h;cases h
  ·rw[yt p]at h;injection h with h;have L:=Int.emod_nonneg a (b:=b) p;have M:=Int.emod_lt_of_pos a (b:=b) (by have:=hb.1;omega);have:=hb.2;exact⟨by omega,by omega⟩
 rw[yt A]at h;by_cases B:o=6
 ·rw[yr B]at h;exact d h (FK _)
 rw[yt B]at h;by_cases C:o=7
 ·rw[yr C]at h;exact d h (FK _)
 rw[yt C]at h;by_cases D:o=8
 ·rw[yr D]at h;injection h with h;rw[<-h];exact H
 rw[yt D]at h;by_cases E:o=9
 ·rw[yr E]at h;injection h with h;rw[<-h];exact I
 rw[yt E]at h;by_cases g:o=10
 ·rw[yr g]at h;injection h with h;rw[<-h];exact J
 rw[yt g]at h;by_cases m:n<=b
 ·rw[yr m]at h;cases h
 rw[yt m]at h;by_cases j:o=11
 ·rw[yr j]at h;injection h with h;rw[<-h];exact FK _
 rw[yt j]at h;by_cases l:o=12
 ·rw[yr l]at h;injection h with h;rw[<-h];exact G _ K
 rw[yt l]at h;injection h with h;rw[<-h];exact FK _
theorem Nl (x s:Int)(hs:0<s):(if x.tmod s<0 then x.tmod s+s else x.tmod s)=x%s:=by
 have g:=Int.mul_tdiv_add_tmod x s;have j:x.tmod s<s:=Int.tmod_lt_of_pos x hs
 have l:-s<x.tmod s:=by
  rcases Int.le_total 0 x with h|h
  ·have:=Int.tmod_nonneg s h;omega
  ·have:=Int.tmod_lt_of_pos (-x) hs;rw[Int.neg_tmod]at this;omega
 have d:∀(q r:Int),x=s*q+r->0<=r->r<s->r=x%s:=fun q r e h0 hlt=>by rw[e,Int.mul_add_emod_self_left,Int.emod_eq_of_lt h0 hlt]
 split
 ·exact d (x.tdiv s-1) _ (by rw[Int.mul_sub];omega) (by omega) (by omega)
 ·exact d (x.tdiv s) _ g.symm (by omega) j
theorem MQ (x:Int)(k:Nat):(if x / 2 ^ k<0 then -((1-x / 2 ^ k) / 2) else x / 2 ^ k / 2)=x / 2 ^ (k+1):=by
 have e:x / 2 ^ (k+1)=x / 2 ^ k / 2:=by rw[Int.pow_succ,Int.ediv_ediv_of_nonneg (Int.le_of_lt (Int.pow_pos (by decide)))]
 rw[e];generalize x / 2 ^ k=y;split<;>omega
theorem Nn (a n:Int)(k:Nat):2*(a*2 ^ k%m9 n)%m9 n=a*2 ^ (k+1)%m9 n:=by rw[Int.mul_emod,Int.emod_emod_of_dvd _ (Int.dvd_refl _),<-Int.mul_emod,Int.pow_succ];congr 1;rw[Int.mul_comm 2,Int.mul_assoc]
def K2 (o:Int)(x y:Nat):Nat:=if o=8 then x &&& y else if o=9 then x ||| y else x ^^^ y
def J9 (o:Int)(p q:Int):Int:=if o=8 then p*q else if o=9 then max p q else (p+q)%2
theorem NP (o:Int)(x y i:Nat):((K2 o x y%2 ^ (i+1):Nat):Int)=((K2 o x y%2 ^ i:Nat):Int)+J9 o ((x:Int) / 2 ^ i%2) ((y:Int) / 2 ^ i%2)*2 ^ i:=by
 have j:((K2 o x y).testBit i).toNat=(J9 o ((x:Int) / 2 ^ i%2) ((y:Int) / 2 ^ i%2)).toNat/\0<=J9 o ((x:Int) / 2 ^ i%2) ((y:Int) / 2 ^ i%2):=by
  have l:(x:Int) / 2 ^ i%2=((x.testBit i).toNat:Nat):=by rw[Nat.toNat_testBit];simp
  have m:(y:Int) / 2 ^ i%2=((y.testBit i).toNat:Nat):=by rw[Nat.toNat_testBit];simp
  rw[l,m];unfold K2 J9;by_cases d:o=8
  ·rw[yr d,yr d,Nat.testBit_and];cases x.testBit i<;>cases y.testBit i<;>decide
  ·rw[yt d,yt d];by_cases g:o=9
   ·rw[yr g,yr g,Nat.testBit_or];cases x.testBit i<;>cases y.testBit i<;>decide
   ·rw[yt g,yt g,Nat.testBit_xor];cases x.testBit i<;>cases y.testBit i<;>decide
 rw[Nat.pow_succ,Nat.mod_mul,<-Nat.toNat_testBit,j.1]
 push_cast
 rw[Int.toNat_of_nonneg j.2,Int.mul_comm]
theorem NQ (o:Int){x y n:Nat}(hn:n<=32)(hx:x<2 ^ n)(hy:y<2 ^ n):((K2 o x y%2 ^ n:Nat):Int)=if o=8 then bits .and .u32 (x:Int) (y:Int) else if o=9 then bits .or .u32 (x:Int) (y:Int) else bits .xor .u32 (x:Int) (y:Int):=by
 have l:2 ^ n<=4294967296:=by
  have:=Nat.pow_le_pow_right (show 0<2 by decide) hn;have e:2 ^ 32=4294967296:=by decide
  omega
 have d:∀z:Nat,z<2 ^ n->IntKind.u32.wrap (z:Int)=((z%2 ^ n:Nat):Int):=fun z hz=>by rw[Jw _ (by omega) (by omega),Nat.mod_eq_of_lt hz]
 unfold K2;by_cases g:o=8
 ·rw[yr g,yr g];show _=IntKind.u32.wrap (((BitVec.ofInt 32 (x:Int) &&& BitVec.ofInt 32 (y:Int)).toNat:Nat):Int);rw[BitVec.toNat_and,Ed _ (by omega),Ed _ (by omega)];exact(d _ (Nat.lt_of_le_of_lt Nat.and_le_left hx)).symm
 ·rw[yt g,yt g];by_cases j:o=9
  ·rw[yr j,yr j];show _=IntKind.u32.wrap (((BitVec.ofInt 32 (x:Int) ||| BitVec.ofInt 32 (y:Int)).toNat:Nat):Int);rw[BitVec.toNat_or,Ed _ (by omega),Ed _ (by omega)];exact(d _ (Nat.or_lt_two_pow hx hy)).symm
  ·rw[yt j,yt j];show _=IntKind.u32.wrap (((BitVec.ofInt 32 (x:Int) ^^^ BitVec.ofInt 32 (y:Int)).toNat:Nat):Int);rw[BitVec.toNat_xor,Ed _ (by omega),Ed _ (by omega)];exact(d _ (Nat.xor_lt_two_pow hx hy)).symm
end Wd
namespace Wd
def Fo (o S x y:Int):Int:=(if o=19 then x%S+y%S else x%S-y%S)%S
theorem I8 (o S x y:Int)(hS:0<S):0<=Fo o S x y/\Fo o S x y<S:=⟨Int.emod_nonneg _ (by omega),Int.emod_lt_of_pos _ hS⟩
theorem Np (a S:Int)(hS:0<S)(k:Nat):a / S / S ^ k=a / S ^ (k+1):=by rw[Int.ediv_ediv_of_nonneg (Int.le_of_lt hS),Int.pow_succ,Int.mul_comm]
theorem Jf (o l:Int)(k:Nat)(a b:Int):CP o l (k+1) a b=Fo o (m9 l) a b+m9 l*CP o l k (a / m9 l) (b / m9 l):=rfl
theorem Ko (o l:Int)(k:Nat):∀a b:Int,CP o l (k+1) a b=CP o l k a b+Fo o (m9 l) (a / m9 l ^ k) (b / m9 l ^ k)*m9 l ^ k:=by
 have d:=BC l
 induction k with
 | zero=>intro a b;rw[Jf];simp[CP]
 | succ k ih =>
  intro a b;rw[Jf,ih,Jf o l k a b,Np _ _ d,Np _ _ d,Int.mul_add,Int.pow_succ (m9 l) k,Int.add_assoc];congr 2;rw[<-Int.mul_assoc,Int.mul_comm (m9 l) (Fo _ _ _ _),Int.mul_assoc,Int.mul_comm (m9 l) (m9 l ^ k)]
theorem IM (o l:Int)(k:Nat)(a b:Int):0<=CP o l k a b/\CP o l k a b<m9 l ^ k:=by
 have j:=BC l
 induction k generalizing a b with
 | zero=>simp[CP]
 | succ k ih =>
  obtain⟨d,m⟩:=ih (a / m9 l) (b / m9 l);obtain⟨p,q⟩:=I8 o (m9 l) a b j;rw[Jf,Int.pow_succ,Int.mul_comm (m9 l ^ k)];have r:0<=m9 l*CP o l k (a / m9 l) (b / m9 l):=Int.mul_nonneg (by omega) d;have g:m9 l*(CP o l k (a / m9 l) (b / m9 l)+1)<=m9 l*m9 l ^ k:=Int.mul_le_mul_of_nonneg_left (by omega) (by omega);rw[Int.mul_add]at g;omega
theorem KV (m k:Nat):m9 (m:Int) ^ k=m9 ((m*k:Nat):Int):=by unfold m9;rw[ya,ya,Int.pow_mul]
end Wd
namespace Wd
theorem Ji (hn:zi n)(h0:0<=x)(h1:x<4294967296):bits .and .u32 x (m9 n-1)=x%m9 n:=by
 obtain⟨y,rfl⟩:=xZ h0;have p:y<4294967296:=by omega
 have d:=C4 hn;have g:=BC n;rw[IA]at d g ⊢;generalize hm:n.toNat=m at d g ⊢
 have l:((2 ^ m:Nat):Int)-1=((2 ^ m-1:Nat):Int):=by have:=Nat.two_pow_pos m;omega
 have j:2 ^ m-1<4294967296:=by generalize 2 ^ m=q at d g ⊢;omega
 rw[l];show IntKind.u32.wrap (((BitVec.ofInt 32 (y:Int) &&& BitVec.ofInt 32 ((2 ^ m-1:Nat):Int)).toNat:Nat):Int)=_;rw[BitVec.toNat_and,Ed _ p,Ed _ j,Nat.and_two_pow_sub_one_eq_mod,Jw _ (by omega) (by have:=Nat.mod_le y (2 ^ m);omega)];simp
theorem Oy (hn:zi n):m9 n ∣ 4294967296:=by
 have e:(4294967296:Int)=2 ^ 32:=by decide
 rw[e];unfold m9;have h:=hn.2;exact⟨2 ^ (32-n.toNat),by rw[<-Int.pow_add];congr 1;omega⟩
theorem Oi (z:Int)(hn:zi n):z%4294967296%m9 n=z%m9 n:=Int.emod_emod_of_dvd z (Oy hn)
theorem EH (z:Int)(hn:zi n):bits .and .u32 (z%4294967296) (m9 n-1)=z%m9 n:=by rw[Ji hn (by omega) (by omega),Oi z hn]
end Wd
end
section
namespace Rn
open Ref
structure V where
 p:Bool
 s:Int
 n:Int
 deriving Inhabited,DecidableEq
def zero:V:=⟨false,0,0⟩
def zX:V:=⟨true,0,0⟩
def Ae (n:Int):V:=⟨false,0,n⟩
structure zO where
 kind:Int
 ret:V
 mem:List (List Int)
 deriving Inhabited,DecidableEq
def Dw:zO:=⟨1,zero,[]⟩
def ID:zO:=⟨2,zero,[]⟩
structure CG where
 args:List Int
 mem:List (List Int)
 deriving Inhabited,DecidableEq
structure AN where
 v:List V
 had:List Bool
 mem:List (List Int)
 z:List Int
 t:Nat
 deriving Inhabited,DecidableEq
def AN.get (s:AN)(v:Int):V:=s.v.getD v.toNat zero
def AN.set (s:AN)(v:Nat)(x:V):AN:={s with v:=s.v.set v x,had:=s.had.set v true}
def AN.tick (s:AN):AN:={s with t:=s.t+1}
abbrev Dk:=Nat->Int->Int
def zo (picks:List Int):Dk:=fun k n=>if k<picks.length then picks.getD k 0%m9 n else 0
def DD (pick:Dk)(s:AN)(n:Int):V:=Ae (pick s.z.length n)
def AN.chose (s:AN)(n:Int):AN:={s with z:=s.z++[n]}
def DR (o fl n:Int)(a b:V):Option V :=
 if (4<=o/\o<=7)/\((b.p=true\/b.n=0)\/(o=6\/o=7)/\zU n b.n=-1/\(a.p=true\/zU n a.n=-m9 (n-1))) then none
 else if a.p=true\/b.p=true then some zX
 else match Wd.op o n a.n b.n with
  | none=>some zX
  | some z=>if Gw o fl n a.n b.n=true then some zX else some (Ae z)
def Dv (mem:List (List Int))(p:V)(n:Nat):Option (List Int) :=
 if p.p=true\/(mem.getD (p.s-1).toNat []).length<p.n.toNat+n then none else some (((mem.getD (p.s-1).toNat []).drop p.n.toNat).take n)
def Gl:List Int->Int
 | []=>0
 | b::r=>b+256*Gl r
def Em (mem:List (List Int))(p:V)(n:Nat):Option V :=
 (Dv mem p n).map fun l=>if l.any (fun b=>decide (b<0))=true then zX else Ae (Gl l)
def FW (x:V):Nat->Int->List Int
 | 0,_=>[]
 | k+1,z=>(if x.p=true then -1 else z%256)::FW x k (z / 256)
def Di (l:List Int)(at_:Nat)(bs:List Int):List Int:=l.take at_++bs++l.drop (at_+bs.length)
def DT (mem:List (List Int))(p x:V)(n:Nat):Option (List (List Int)) :=
 if p.p=true\/(mem.getD (p.s-1).toNat []).length<p.n.toNat+n then none
 else some (mem.set (p.s-1).toNat (Di (mem.getD (p.s-1).toNat []) p.n.toNat (FW x n x.n)))
def GQ (slots:List Int)(fl k:Int)(p b:V):V :=
 if fl=8/\slots.getD (p.s-1).toNat 0<(p.n+zU k b.n)%4294967296 then zX else ⟨false,p.s,(p.n+zU k b.n)%4294967296⟩
def Jy (b:Bool):V:=Ae (if b=true then 1 else 0)
inductive FH
 | val (v:V)
 | on
 | go (t:Int)
 | fin (o:zO)
 deriving DecidableEq
def Ep (f:Fn)(x:Ins)(l:List V)(ks:List Int):V :=
 if x.op=0 then Ae x.i
 else if x.op=14 then Jy (Gy x.i (ks.getD 0 0) (l.getD 0 zero).n (l.getD 1 zero).n)
 else if x.op=16\/x.op=17\/x.op=18 then Ae (E0 x.op (ks.getD 0 0) x.w (l.getD 0 zero).n)
 else if x.op=19\/x.op=20 then Ae (CP x.op x.i (x.w / x.i).toNat (l.getD 0 zero).n (l.getD 1 zero).n)
 else if x.op=24 then ⟨false,x.i+1,0⟩
 else GQ f.s x.g (ks.getD 1 0) (l.getD 0 zero) (l.getD 1 zero)
def ze (f:Fn)(pick:Dk)(x:Ins)(s:AN):FH × AN :=
 let l:=x.args.map s.get
 let ks:=x.args.map (kind f)
 if x.op=29 then (.go (x.to.getD 0 0),s)
 else if x.op=30 then (if (l.getD 0 zero).p=true then (.fin Dw,s) else (.go (x.to.getD (1-(l.getD 0 zero).n).toNat 0),s))
 else if x.op=31 then (.fin ⟨0,l.getD 0 zero,s.mem⟩,s)
 else if x.op=32 then (.fin Dw,s)
 else if x.op=26 then (match Em s.mem (l.getD 0 zero) (x.w / 8).toNat with|none=>(.fin Dw,s)|some v=>(.val v,s))
 else if x.op=27 then (match DT s.mem (l.getD 0 zero) (l.getD 1 zero) (ks.getD 1 0 / 8).toNat with|none=>(.fin Dw,s)|some m=>(.on,{s with mem:=m}))
 else if x.op=21 then (if (l.getD 0 zero).p=true then (.val (DD pick s x.w),s.chose x.w) else (.val (l.getD 0 zero),s))
 else if x.op=23 then (.val (DD pick s x.w),s.chose x.w)
 else if x.op=15 then (if (l.getD 0 zero).p=true then (.val zX,s) else (.val (l.getD (2-(l.getD 0 zero).n).toNat zero),s))
 else if 1<=x.op/\x.op<=13 then (match DR x.op x.g x.w (l.getD 0 zero) (l.getD 1 zero) with|none=>(.fin Dw,s)|some v=>(.val v,s))
 else if x.op=22\/l.any (·.p)=true then (.val zX,s)
 else (.val (Ep f x l ks),s)
inductive NW
 | run (t:Int)
 | over (o:zO)
 deriving DecidableEq
def Eh (s:AN)(frm:Int)(x:Ins):V:=s.get (x.args.getD (x.to.idxOf frm) 0)
def Do (l:List Ins):List Ins:=l.takeWhile fun x=>decide (x.op=28)
def AO (f:Fn)(pick:Dk)(reads:List V):List Ins->Nat->Nat->AN->NW × AN
 | [],_,_,s=>(.over Dw,s)
 | x::r,i,v,s =>
  if s.t=400 then (.over ID,s)
  else if i<reads.length then AO f pick reads r (i+1) (v+1) (s.tick.set v (reads.getD i zero))
  else match ze f pick x s.tick with
   | (.val y,s')=>AO f pick reads r (i+1) (v+1) (s'.set v y)
   | (.on,s')=>AO f pick reads r (i+1) (v+1) s'
   | (.go t,s')=>(.run t,s')
   | (.fin o,s')=>(.over o,s')
def block (f:Fn)(pick:Dk)(b:Nat)(frm:Int)(s:AN):NW × AN :=
 AO f pick ((Do (f.b.getD b [])).map (Eh s frm)) (f.b.getD b []) 0 (yZ f b) s
def C5 (f:Fn)(pick:Dk):Nat->Nat->Int->AN->zO × AN × List Int
 | 0,_,_,s=>(Dw,s,[])
 | k+1,b,frm,s =>
  match block f pick b frm s with
  | (.over o,s')=>(o,s',[(b:Int)])
  | (.run t,s')=>((C5 f pick k t.toNat b s').1,(C5 f pick k t.toNat b s').2.1,(b:Int)::(C5 f pick k t.toNat b s').2.2)
def BN (f:Fn)(i:CG):AN :=
 {v:=i.args.map Ae++List.replicate (An f-i.args.length) zero,had:=i.args.map (fun _=>true)++List.replicate (An f-i.args.length) false,mem:=i.mem,z:=[],t:=0}
def DC (f:Fn)(pick:Dk)(i:CG):zO × AN × List Int:=C5 f pick 401 0 (-1) (BN f i)
def CU (a b:Int):Int:=if a<b then -1 else if b<a then 1 else 0
def AL:List Int->List Int->Int
 | [],[]=>0
 | [],_::_=>-1
 | _::_,[]=>1
 | a::azs,b::bs=>if CU a b=0 then AL azs bs else CU a b
def Da:List (List Int)->List (List Int)->Int
 | [],[]=>0
 | [],_::_=>-1
 | _::_,[]=>1
 | a::azs,b::bs=>if AL a b=0 then Da azs bs else AL a b
def Gm (b:Bool):Int:=if b=true then 1 else 0
def Dh (o:zO):List Int:=[o.kind,Gm o.ret.p,o.ret.s,o.ret.n]
def BJ (a b:zO):Int:=if AL (Dh a) (Dh b)=0 then Da a.mem b.mem else AL (Dh a) (Dh b)
def Cm (x:zO):List zO->List zO
 | []=>[x]
 | y::r=>if BJ x y=0 then y::r else if BJ x y<0 then x::y::r else y::Cm x r
def DG (p w:List Int):Nat->Option Nat
 | 0=>none
 | k+1=>if p.getD k 0+1<m9 (w.getD k 0) then some k else DG p w k
def AW (p:List Int)(n:Nat):List Int:=p++List.replicate (n-p.length) 0
def FM (p:List Int)(k:Nat):List Int:=p.take k++[p.getD k 0+1]
def E6 (f:Fn)(i:CG):Nat->List Int->List zO->Option (List zO)
 | 0,_,_=>none
 | n+1,picks,out =>
  let r:=DC f (zo picks) i
  let p:=AW picks r.2.1.z.length
  match DG p r.2.1.z r.2.1.z.length with
  | none=>some (Cm r.1 out)
  | some k=>E6 f i n (FM p k) (Cm r.1 out)
def all (f:Fn)(i:CG):Option (List zO):=E6 f i 256 [] []
def AB (f:Fn)(i:CG):Int :=
 if zL f≠0 then zL f
 else if i.args.length≠f.p.length\/i.mem.length≠f.s.length then 1
 else if (f.p.zip i.args).any (fun q=>decide (m9 q.1<=q.2))=true then 1
 else if (f.s.zip i.mem).any (fun q=>decide ((q.2.length:Int)≠q.1) || q.2.any (fun b=>decide (b < -1) || decide (255<b)))=true then 1
 else 0
def sure (f:Fn)(i:CG):Bool :=
 match all f i with
 | some [o]=>decide (o.kind=0) && !o.ret.p && o.mem.all (fun r=>r.all fun b=>decide (0<=b))
 | _=>false
end Rn
end
section
namespace Rn
open Ref
def Hh (f:Fn):Prop:=∀l∈f.b,∀x∈l,0<=x.i/\x.i<4294967296
def LZ (n:Int):Prop:=n=8\/n=16\/n=32
inductive Kp (f:Fn) (x:Ins):Prop
 | const (ho:x.op=0) (ha:x.args=[]) (hw:zi x.w) (hi:yX x.w x.i)
 | arith (ho:1<=x.op/\x.op<=13) (a b:Int) (ha:x.args=[a,b]) (ka:kind f a=x.w) (kb:kind f b=x.w) (hw:zi x.w) (hf:0<=x.g/\x.g<=7)
 | cmp (ho:x.op=14) (a b:Int) (ha:x.args=[a,b]) (kb:kind f b=kind f a) (hk:zi (kind f a)) (hw:x.w=1) (hi:0<=x.i/\x.i<=9)
 | select (ho:x.op=15) (a b c:Int) (ha:x.args=[a,b,c]) (ka:kind f a=1) (kb:kind f b=x.w) (kc:kind f c=x.w) (hw:zi x.w\/x.w=33)
 | ext (ho:x.op=16\/x.op=17\/x.op=18) (a:Int) (ha:x.args=[a]) (hk:zi (kind f a)) (hw:zi x.w) (hd:if x.op=18 then x.w<kind f a else kind f a<x.w)
 | lanes (ho:x.op=19\/x.op=20) (a b:Int) (ha:x.args=[a,b]) (ka:kind f a=x.w) (kb:kind f b=x.w) (hw:zi x.w) (h1:1<=x.i) (h2:x.i<x.w) (h3:x.w%x.i=0)
 | freeze (ho:x.op=21) (a:Int) (ha:x.args=[a]) (ka:kind f a=x.w) (hw:zi x.w)
 | poison (ho:x.op=22) (ha:x.args=[]) (hw:zi x.w)
 | any (ho:x.op=23) (ha:x.args=[]) (hw:zi x.w)
 | addr (ho:x.op=24) (ha:x.args=[]) (hw:x.w=33) (hi:0<=x.i/\x.i<f.s.length)
 | gep (ho:x.op=25) (a b:Int) (ha:x.args=[a,b]) (ka:kind f a=33) (kb:zi (kind f b)) (hw:x.w=33) (hf:x.g=0\/x.g=8)
 | load (ho:x.op=26) (a:Int) (ha:x.args=[a]) (ka:kind f a=33) (hw:LZ x.w)
 | store (ho:x.op=27) (a b:Int) (ha:x.args=[a,b]) (ka:kind f a=33) (kb:LZ (kind f b)) (hw:x.w=0)
 | phi (ho:x.op=28) (hl:x.args.length=x.to.length) (hk:∀v∈x.args,kind f v=x.w) (hw:zi x.w\/x.w=33)
 | jump (ho:x.op=29) (ha:x.args=[]) (t:Int) (ht:x.to=[t]) (hw:x.w=0)
 | branch (ho:x.op=30) (a:Int) (ha:x.args=[a]) (ka:kind f a=1) (t u:Int) (ht:x.to=[t,u]) (hw:x.w=0)
 | ret0 (ho:x.op=31) (ha:x.args=[]) (hr:f.ret=0) (hw:x.w=0)
 | ret (ho:x.op=31) (a:Int) (ha:x.args=[a]) (ka:kind f a=f.ret) (hr:zi f.ret) (hw:x.w=0)
 | trap (ho:x.op=32) (ha:x.args=[]) (hw:x.w=0)
theorem Fj (h:yS n=true):zi n:=by unfold yS at h;simp only[yu,decide_eq_true_eq]at h;exact h
theorem Oj (h:(l.length:Int)=0):l=[]:=yB (by omega)
theorem NX (h:(l.length:Int)=1):∃a,l=[a]:=by
 match l with
 | []=>simp at h
 | [a]=>exact⟨a,rfl⟩
 | _::_::_=>simp at h;omega
theorem NH (h:(l.length:Int)=2):∃a b,l=[a,b]:=by
 match l with
 | []=>simp at h
 | [_]=>simp at h
 | [a,b]=>exact⟨a,b,rfl⟩
 | _::_::_::_=>simp at h;omega
theorem OK (h:(l.length:Int)=3):∃a b c,l=[a,b,c]:=by
 match l with
 | []=>simp at h
 | [_]=>simp at h
 | [_,_]=>simp at h
 | [a,b,c]=>exact⟨a,b,c,rfl⟩
 | _::_::_::_::_=>simp at h;omega
theorem Ol (h:Ew n x=true)(h0:0<=x):yX n x:=by unfold Ew at h;simp only[yu,decide_eq_true_eq]at h;exact⟨h0,h.2⟩
theorem NR {f:Fn}(hv:FB f)(hi:Hh f){l:List Ins}(hl:l∈f.b){x:Ins}(hx:x∈l):Kp f x:=by
 obtain⟨d,T,X,Y⟩:=(Ig f x).1 (hv.arg l hl x hx);obtain⟨m,p,r⟩:=(JU _ _).1 T;obtain⟨Z,g⟩:=(NE f x).1 (hv.typ l hl x hx);obtain⟨Q,W⟩:=hi l hl x hx;have U:=hv.ret;clear T hl hx hv hi;by_cases K:x.op=0
 ·have q:zY f x=(0,0,yS x.w && decide (x.g=0) && Ew x.w x.i):=by unfold zY;rw[yr K]
  rw[q]at d m p r;simp at d;exact .const K (Oj (m (by simp))) (Fj d.1.1) (Ol d.2 Q)
 by_cases y:x.op=14
 ·
  simp[zY,y]at d m p r;obtain⟨a,b,j⟩:=NH (by omega:(x.args.length:Int)=2);simp[AE,y,j]at g;exact .cmp y a b j g.2 (Fj g.1) d.1.1 ⟨Q,d.2⟩
 by_cases A:x.op=15
 ·simp[zY,A]at d m p r;obtain⟨a,b,c,j⟩:=OK (by omega:(x.args.length:Int)=3);simp[AE,A,j]at g;exact .select A a b c j g.1.1 g.1.2 g.2 (d.1.imp Fj id)
 by_cases B:x.op=16\/x.op=17\/x.op=18\/x.op=21
 ·simp[zY,K,y,A,B]at d m p r;obtain⟨a,j⟩:=NX (by omega:(x.args.length:Int)=1);rcases B with h|h|h|h
  ·simp[AE,h,j]at g;exact .ext (.inl h) a j (Fj g.1) (Fj d.1) (by rw[yt (by omega)];exact g.2)
  ·simp[AE,h,j]at g;exact .ext (.inr (.inl h)) a j (Fj g.1) (Fj d.1) (by rw[yt (by omega)];exact g.2)
  ·simp[AE,h,j]at g;exact .ext (.inr (.inr h)) a j (Fj g.1) (Fj d.1) (by rw[yr h];exact g.2)
  ·simp[AE,h,j]at g;exact .freeze h a j g (Fj d.1)
 by_cases D:x.op=19\/x.op=20
 ·have q:zY f x=(2,0,yS x.w && decide (x.g=0) && decide (1<=x.i) && decide (x.i<x.w) && decide (x.w%x.i=0)):=by
   simp only[zY,K,y,A,B,D,if_false,if_true]
  rw[q]at d m p r;simp at d m p r;obtain⟨a,b,j⟩:=NH (by omega:(x.args.length:Int)=2)
  have R:AE f x (x.args.map (kind f))=(x.args.map (kind f)).all fun z=>decide (z=x.w):=by unfold AE;repeat rw[yt (by omega)]
  rw[R,j]at g;simp at g;exact .lanes D a b j g.1 g.2 (Fj d.1.1.1.1) d.1.1.2 d.1.2 d.2
 by_cases L:x.op=22\/x.op=23
 ·simp only[zY,K,y,A,B,D,L,if_false,if_true,yu]at d m p r;rcases L with h|h
  ·exact .poison h (Oj (m (by decide))) (Fj d.1)
  ·exact .any h (Oj (m (by decide))) (Fj d.1)
 by_cases M:x.op=24
 ·simp[zY,M]at d m p r;exact .addr M m d.1.1 ⟨Q,d.2⟩
 by_cases E:x.op=25
 ·simp[zY,E]at d m p r;obtain⟨a,b,j⟩:=NH (by omega:(x.args.length:Int)=2);simp[AE,E,j]at g;exact .gep E a b j g.1 (Fj g.2) d.1.1 d.2
 by_cases F:x.op=26
 ·simp[zY,F]at d m p r;obtain⟨a,j⟩:=NX (by omega:(x.args.length:Int)=1);simp[AE,F,j]at g;exact .load F a j g (by unfold LZ;omega)
 by_cases G:x.op=27
 ·simp[zY,G]at d m p r;obtain⟨a,b,j⟩:=NH (by omega:(x.args.length:Int)=2);simp[AE,G,j,Ea]at g;exact .store G a b j g.1 (by unfold LZ;omega) d.1
 by_cases H:x.op=28
 ·simp[zY,H]at d m p r;rw[KZ f H]at g;simp at g;exact .phi H p g (d.1.1.imp Fj id)
 by_cases N:x.op=29
 ·simp[zY,N]at d m p r;obtain⟨t,P⟩:=NX (by omega:(x.to.length:Int)=1);exact .jump N m t P d.1
 by_cases I:x.op=30
 ·simp[zY,I]at d m p r;obtain⟨a,j⟩:=NX (by omega:(x.args.length:Int)=1);obtain⟨t,u,P⟩:=NH (by omega:(x.to.length:Int)=2);simp[AE,I,j]at g;exact .branch I a j g t u P d.1
 by_cases C:x.op=31
 ·simp[zY,C]at d m p r;by_cases J:0<f.ret
  ·rw[yr J]at m;obtain⟨a,j⟩:=NX (by omega:(x.args.length:Int)=1);simp[AE,C,j]at g;exact .ret C a j g ⟨by omega,U.2⟩ d.1
  ·rw[yt J]at m;exact .ret0 C (Oj (by omega)) (by omega) d.1
 by_cases O:x.op=32
 ·simp[zY,O]at d m p r;exact .trap O m d.1
 by_cases S:1<=x.op/\x.op<=13
 ·have q:zY f x=(2,0,yS x.w && decide (x.i=0) && Gq x):=by
   unfold zY;repeat rw[yt (by omega)]
   rw[yr S]
  rw[q]at d m p r;simp at d m p r;obtain⟨a,b,j⟩:=NH (by omega:(x.args.length:Int)=2)
  have R:AE f x (x.args.map (kind f))=(x.args.map (kind f)).all fun z=>decide (z=x.w):=by unfold AE;repeat rw[yt (by omega)]
  rw[R,j]at g;simp at g;refine .arith S a b j g.1 g.2 (Fj d.1.1) ?_;have:=d.2;unfold Gq Ge at this;split at this
  ·simp at this;omega
  split at this
  ·simp at this;omega
  ·simp at this;omega
 ·exfalso
  have q:zY f x=(0,0,false):=by unfold zY;repeat rw[yt (by omega)]
  rw[q]at d;simp at d
end Rn
end
section
namespace Rn
open Ref
def Fp (f:Fn)(k:Int)(v:V):Prop :=
 (v.p=true->v.s=0/\v.n=0)/\(v.p=false->(k=33->1<=v.s/\v.s<=f.s.length/\0<=v.n/\v.n<4294967296)/\(k≠33->v.s=0/\yX k v.n))
theorem Oq {k:Int}(h:zi k):k≠33:=by have:=h.2;omega
theorem Fp.num {f:Fn}{k:Int}{v:V}(h:Fp f k v)(hk:zi k):v.s=0/\yX k v.n:=by
 cases hp:v.p with
 | false=>exact(h.2 hp).2 (Oq hk)
 | true=>obtain⟨d,g⟩:=h.1 hp;exact⟨d,by rw[g];exact⟨Int.le_refl 0,BC k⟩⟩
theorem Fp.ptr {f:Fn}{v:V}(h:Fp f 33 v)(hp:v.p=false):1<=v.s/\v.s<=f.s.length/\0<=v.n/\v.n<4294967296:=(h.2 hp).1 rfl
theorem Fp.u32 {f:Fn}{k:Int}{v:V}(h:Fp f k v)(hk:zi k\/k=33):0<=v.n/\v.n<4294967296:=by
 rcases hk with hk|rfl
 ·have:=(h.num hk).2;have d:=C4 hk;exact⟨this.1,by have:=this.2;omega⟩
 ·cases hp:v.p with
  | true=>rw[(h.1 hp).2];decide
  | false=>exact⟨(h.ptr hp).2.2.1,(h.ptr hp).2.2.2⟩
theorem EV (f:Fn)(k:Int):Fp f k zX:=⟨fun _=>⟨rfl,rfl⟩,(fun h=>by cases h)⟩
theorem GB (f:Fn){k:Int}(hk:zi k)(h:yX k n):Fp f k (Ae n):=⟨(fun h=>by cases h),fun _=>⟨fun h=>absurd h (Oq hk),fun _=>⟨rfl,h⟩⟩⟩
def Lt (s:AN)(v:Nat):Prop:=s.had.getD v false=true
structure Inv (f:Fn)(s:AN):Prop where
 len:s.v.length=An f
 hlen:s.had.length=An f
 ok:∀v:Nat,Lt s v->Fp f (kind f v) (s.get v)/\kind f v≠0
 zero:∀v:Nat,¬Lt s v->s.get v=zero
 mem:s.mem.map (fun r=>(r.length:Int))=f.s
 bytes:∀r∈s.mem,∀b∈r,-1<=b/\b<=255
 par:∀v:Nat,v<f.p.length->Lt s v
def Oz (f:Fn)(s:AN)(a:Nat)(l:List Ins):Prop:=∀j x,l[j]?=some x->x.w≠0->Lt s (yZ f a+j)
structure Mid (f:Fn)(b i:Nat)(l:List Ins)(s:AN):Prop extends Inv f s where
 rch:NT (n5 f) (-1) b
 dom:∀a m,f.b[a]?=some m->a≠b->Bz (n5 f) a b=true->Oz f s a m
 here:∀j x,j<i->l[j]?=some x->x.w≠0->Lt s (yZ f b+j)
section
variable {f:Fn}{b i:Nat}{l:List Ins}{s:AN}
theorem KW {s:AN}{v u:Nat}{x:V}(h:Lt s u):Lt (s.set v x) u:=by
 unfold Lt AN.set at *;rw[xU]at *;by_cases e:v=u
 ·subst e
  have hl:v<s.had.length:=by
   rcases yw v s.had.length with d|d
   ·exact d
   ·rw[yi d]at h;simp at h
  rw[yC hl];rfl
 ·rw[List.getElem?_set_ne e];exact h
theorem NY {s:AN}{v u:Nat}{x:V}(h:Lt (s.set v x) u):u=v\/Lt s u:=by
 by_cases e:v=u
 ·exact .inl e.symm
 ·refine .inr ?_;unfold Lt AN.set at *;rw[xU]at *
  rwa [List.getElem?_set_ne e]at h
theorem MB {s:AN}{v:Nat}{x:V}(h:v<s.had.length):Lt (s.set v x) v:=by unfold Lt AN.set;rw[xU,yC h];rfl
theorem LS {s:AN}{v:Nat}{x:V}(h:v<s.v.length):(s.set v x).get v=x:=by unfold AN.get AN.set;rw[ya,xU,yC h];rfl
theorem K3 {s:AN}{v u:Nat}{x:V}(h:v≠u):(s.set v x).get u=s.get u:=by unfold AN.get AN.set;rw[ya,xU,List.getElem?_set_ne h,<-xU]
structure NZ (s s':AN):Prop where
 v:s'.v=s.v
 had:s'.had=s.had
 lens:s'.mem.map (fun r=>(r.length:Int))=s.mem.map (fun r=>(r.length:Int))
 bytes:(∀r∈s.mem,∀b∈r,-1<=b/\b<=255)->∀r∈s'.mem,∀b∈r,-1<=b/\b<=255
theorem Inv.like {s s':AN}(h:Inv f s)(k:NZ s s'):Inv f s' where
 len:=by rw[k.v];exact h.len
 hlen:=by rw[k.had];exact h.hlen
 ok:=fun v hv=>by
  have:s'.get v=s.get v:=by unfold AN.get;rw[k.v]
  rw[this];exact h.ok v (by unfold Lt at *;rwa [k.had]at hv)
 zero:=fun v hv=>by
  have:s'.get v=s.get v:=by unfold AN.get;rw[k.v]
  rw[this];exact h.zero v (by unfold Lt at *;rwa [k.had]at hv)
 mem:=by rw[k.lens];exact h.mem
 bytes:=k.bytes h.bytes
 par:=fun v hv=>by unfold Lt;rw[k.had];exact h.par v hv
theorem Mid.like {s s':AN}(h:Mid f b i l s)(k:NZ s s'):Mid f b i l s' where
 toInv:=h.toInv.like k
 rch:=h.rch
 dom:=fun a m d g p j x q r=>by unfold Lt;rw[k.had];exact h.dom a m d g p j x q r
 here:=fun j x d g p=>by unfold Lt;rw[k.had];exact h.here j x d g p
theorem I0 (s:AN):NZ s s.tick:=⟨rfl,rfl,rfl,fun h=>h⟩
theorem K5 (s:AN)(n:Int):NZ s (s.chose n):=⟨rfl,rfl,rfl,fun h=>h⟩
theorem Mid.skip (h:Mid f b i l s){x:Ins}(hx:l[i]?=some x)(hw:x.w=0):Mid f b (i+1) l s where
 toInv:=h.toInv
 rch:=h.rch
 dom:=h.dom
 here:=fun j y p d g=>by
  rcases yw j i with m|m
  ·exact h.here j y m d g
  ·have:j=i:=by omega
   subst this;rw[hx]at d;injection d with d;subst d;exact absurd hw g
theorem Mid.set (h:Mid f b i l s)(hl:f.b[b]?=some l){x:Ins}(hx:l[i]?=some x){y:V}(hw:x.w≠0)(hy:Fp f x.w y):Mid f b (i+1) l (s.set (yZ f b+i) y):=by
 have B:=(xS.1 hx).1;have A:=EK f hl;have t:=JL f hl hx;refine {len:=?_,hlen:=?_,ok:=?_,zero:=?_,mem:=h.mem,bytes:=h.bytes,par:=fun v hv=>KW (h.par v hv),rch:=h.rch,dom:=?_,here:=?_}
 ·show (s.v.set _ _).length=_;rw[List.length_set];exact h.len
 ·show (s.had.set _ _).length=_;rw[List.length_set];exact h.hlen
 ·intro v hv;by_cases e:yZ f b+i=v
  ·subst e;rw[t,LS (by rw[h.len];omega)];exact⟨hy,hw⟩
  ·rw[K3 e];exact h.ok v ((NY hv).resolve_left fun q=>e q.symm)
 ·intro v hv;by_cases e:yZ f b+i=v
  ·subst e;exact absurd (MB (by rw[h.hlen];omega)) hv
  ·rw[K3 e];exact h.zero v fun q=>hv (KW q)
 ·exact fun a m r g p j z d u=>KW (h.dom a m r g p j z d u)
 ·intro j z r g p;rcases yw j i with d|d
  ·exact KW (h.here j z d g p)
  ·have:j=i:=by omega
   subst this;exact MB (by rw[h.hlen];omega)
theorem EX {f:Fn}{v:Int}(h:0<kind f v):0<=v/\v<An f:=Oh (by omega)
theorem Lx (h:Mid f b i l s)(hl:f.b[b]?=some l){v place:Int}(ht:Eg f (n5 f) v b place=true)(hp:place=i\/(place=-1/\i=l.length))(hk:0<kind f v):Lt s v.toNat:=by
 obtain⟨p,q⟩:=EX hk;rcases KC f p q with ⟨d,g⟩|⟨a,j,m,x,d,g,rfl⟩
 ·exact h.par _ (by omega)
 ·have r:=(xS.1 g).1;rw[JL f d g]at hk;unfold Eg at ht;rw[KY f d r]at ht;dsimp only at ht;rw[yt (by omega)]at ht;rw[ya];by_cases e:a=b
  ·subst e;rw[hl]at d;injection d with d;subst d;rw[yr rfl]at ht;simp at ht;exact h.here j x (by omega) g (by omega)
  ·rw[yt (by omega)]at ht;exact h.dom a m d e ht j x g (by omega)
theorem Jc (hv:FB f)(h:Mid f b i l s)(hl:f.b[b]?=some l){x:Ins}(hx:l[i]?=some x)(ho:x.op≠28){v:Int}(hm:v∈x.args)(hk:0<kind f v):Fp f (kind f v) (s.get v):=by
 obtain⟨j,m⟩:=EX hk;obtain⟨k,g⟩:=List.getElem?_of_mem hm;have d:=hv.st b l hl h.rch i x hx k v g;unfold E1 at d;rw[yt ho]at d;have:=(h.ok _ (Lx h hl d (.inl rfl) hk)).1
 rwa [show ((v.toNat:Nat):Int)=v by omega]at this
end
end Rn
end
section
namespace Rn
open Ref
def Jp (pick:Dk):Prop:=∀k n,zi n->yX n (pick k n)
theorem Jj (picks:List Int):Jp (zo picks):=fun k n d=>by
 unfold zo;split
 ·exact FK _
 ·exact⟨Int.le_refl 0,BC n⟩
theorem Hi:∀(l:List Int),(∀b∈l,0<=b/\b<=255)->0<=Gl l/\Gl l<256 ^ l.length
 | [],_=>⟨Int.le_refl 0,by decide⟩
 | b::r,h=>by
  obtain⟨d,g⟩:=Hi r fun z hz=>h z (by simp[hz])
  have j:=h b (by simp);unfold Gl;rw[List.length_cons,Int.pow_succ];omega
theorem H2 (h:LZ n):(256:Int) ^ (n / 8).toNat=m9 n/\zi n/\1<=n / 8/\n / 8<=4:=by rcases h with rfl|rfl|rfl<;>exact⟨by decide,by unfold zi;decide,by decide,by decide⟩
theorem FL {a:Nat}(h:a+bs.length<=l.length):(Di l a bs).length=l.length:=by unfold Di;simp;omega
theorem If (x:V):∀(k:Nat)(z:Int),(FW x k z).length=k
 | 0,_=>rfl
 | k+1,z=>by unfold FW;rw[List.length_cons,If x k]
theorem JM (x:V):∀(k:Nat)(z:Int),∀b∈FW x k z,-1<=b/\b<=255
 | 0,_,b,h=>by simp[FW]at h
 | k+1,z,b,h=>by
  unfold FW at h
  rcases List.mem_cons.1 h with rfl|h
  ·split<;>omega
  ·exact JM x k _ b h
theorem LU {α:Type}(g:List Int->α)(m:List (List Int))(k:Nat)(r:List Int)(h:g r=g (m.getD k [])):(m.set k r).map g=m.map g:=by
 rw[List.map_set];apply List.ext_getElem?;intro i;by_cases e:k=i
 ·subst e;rcases yw k m.length with d|d
  ·rw[yC (by simpa using d),h,yc,xR d,xU,xR d];rfl
  ·rw[yi (by simpa using d),yi (by simpa using d)]
 ·rw[List.getElem?_set_ne e]
theorem M9 {s:AN}{p x:V}{n:Nat}(h:DT s.mem p x n=some m):NZ s {s with mem:=m}:=by
 unfold DT at h;split at h
 ·cases h
 next hc =>
  injection h with h;subst h;have l:=If x n x.n;refine⟨rfl,rfl,LU _ _ _ _ (by rw[FL (by omega)]),fun g r j b d=>?_⟩;rcases List.mem_or_eq_of_mem_set j with q|rfl
  ·exact g r q b d
  ·unfold Di at d
   have old:∀c,c∈s.mem.getD (p.s-1).toNat []->-1<=c/\c<=255:=fun c hc'=>by
    rw[xU]at hc'
    cases e:s.mem[(p.s-1).toNat]? with
    | none=>rw[e]at hc';simp at hc'
    | some row=>rw[e]at hc';exact g row (xT e) c hc'
   rcases yz.1 d with q|q
   ·rcases yz.1 q with q|q
    ·exact old b (List.mem_of_mem_take q)
    ·exact JM _ _ _ b q
   ·exact old b (List.mem_of_mem_drop q)
theorem Ih (hr:∀r∈mem,∀b∈r,-1<=b/\b<=255){p:V}{n:Nat}(h:Dv mem p n=some bs):bs.length=n/\∀b∈bs,-1<=b/\b<=255:=by
 unfold Dv at h;split at h
 ·cases h
 next hc =>
  injection h with h;subst h;refine⟨by rw[List.length_take,List.length_drop];omega,fun b d=>?_⟩;have d:=List.mem_of_mem_drop (List.mem_of_mem_take d);rw[xU]at d
  cases e:mem[(p.s-1).toNat]? with
  | none=>rw[e]at d;simp at d
  | some row=>rw[e]at d;exact hr row (xT e) b d
theorem Om (f:Fn)(hr:∀r∈mem,∀b∈r,-1<=b/\b<=255){p y:V}{w:Int}(hw:LZ w)(h:Em mem p (w / 8).toNat=some y):Fp f w y:=by
 obtain⟨l,m,q,t⟩:=H2 hw;unfold Em at h
 cases hb:Dv mem p (w / 8).toNat with
 | none=>rw[hb]at h;cases h
 | some bs =>
  rw[hb]at h;injection h with h;subst h;obtain⟨g,j⟩:=Ih hr hb;show Fp f w (if (bs.any fun b=>decide (b<0))=true then zX else Ae (Gl bs));split
  ·exact EV f w
  next d =>
   have d:∀b∈bs,0<=b/\b<=255:=fun b hb=>by have:=j b hb;simp only[yG,decide_eq_true_eq,not_exists,not_and,Int.not_lt]at d;exact⟨d b hb,this.2⟩
   have:=Hi bs d;rw[g,l]at this;exact GB f m this
theorem N5 (f:Fn){o:Int}{a b y:V}(hn:zi n)(ha:yX n a.n)(hb:yX n b.n)(h:DR o fl n a b=some y):Fp f n y:=by
 unfold DR at h;split at h
 ·cases h
 split at h
 ·injection h with h;subst h;exact EV f n
 cases ho:Wd.op o n a.n b.n with
 | none=>rw[ho]at h;injection h with h;subst h;exact EV f n
 | some z =>
  rw[ho]at h;dsimp only at h;split at h
  ·injection h with h;subst h;exact EV f n
  ·injection h with h;subst h;exact GB f hn (NN hn ha hb ho)
theorem N7 {o m:Int}(hm:zi m)(hx:yX m x)(ho:o=16\/o=17\/o=18)(hd:if o=18 then n<m else m<n):yX n (E0 o m n x):=by
 unfold E0;by_cases h:o=16
 ·rw[yr h];rw[yt (by omega)]at hd;exact⟨hx.1,Int.lt_of_lt_of_le hx.2 (Hg (by omega))⟩
 ·rw[yt h];split<;>exact FK _
theorem Na {o l a b:Int}(h1:1<=l)(h2:l<n)(h3:n%l=0):yX n (CP o l (n / l).toNat a b):=by
 have h:=IM o l (n / l).toNat a b;obtain⟨m,rfl⟩:=xZ (show 0<=l by omega);rw[KV]at h
 have e:((m*(n / (m:Int)).toNat:Nat):Int)=n:=by have q:=Int.mul_ediv_add_emod n (m:Int);have d:0<=n / (m:Int):=yH (by omega) (by omega);rw[Int.natCast_mul,Int.toNat_of_nonneg d];omega
 rw[e]at h;exact h
theorem OA {f:Fn}{k:Int}{p b:V}(hp:Fp f 33 p)(hpp:p.p=false):Fp f 33 (GQ f.s fl k p b):=by
 unfold GQ;obtain⟨d,g,j,l⟩:=hp.ptr hpp;split
 ·exact EV f 33
 ·exact⟨(fun h=>by cases h),fun _=>⟨fun _=>⟨d,g,Int.emod_nonneg _ (by decide),Int.emod_lt_of_pos _ (by decide)⟩,fun h=>absurd rfl h⟩⟩
def Ot (f:Fn)(b i:Nat)(l:List Ins)(x:Ins)(s:AN):FH × AN->Prop
 | (.val y,s')=>x.w≠0/\Fp f x.w y/\Mid f b i l s'
 | (.on,s')=>x.w=0/\Mid f b i l s'
 | (.go t,s')=>x.w=0/\s'=s/\t∈x.to
 | (.fin _,s')=>s'=s
section
variable {f:Fn}{b i:Nat}{l:List Ins}{s:AN}{pick:Dk}
theorem KT (hv:FB f)(hi:Hh f)(hpk:Jp pick)(h:Mid f b i l s)(hl:f.b[b]?=some l){x:Ins}(hx:l[i]?=some x)(ho:x.op≠28):Ot f b i l x s (ze f pick x s):=by
 have y:=xT hl;have z:=xT hx;have j:∀v∈x.args,0<kind f v->Fp f (kind f v) (s.get v):=fun v hm hk=>Jc hv h hl hx ho hm hk;have ne:∀{n:Int},zi n->n≠0:=fun h=>by have:=h.1;omega
 have pos:∀{n:Int},zi n->0<n:=fun h=>by have:=h.1;omega
 cases NR hv hi y z with
 | const o ha hw him =>
  simp[ze,o,ha,Ep,Ot];exact⟨ne hw,GB f hw him,h⟩
 | arith o a c ha ka kc hw hf =>
  have g:=j a (by simp[ha]) (by rw[ka];exact pos hw);have r:=j c (by simp[ha]) (by rw[kc];exact pos hw);rw[ka]at g;rw[kc]at r
  have q:ze f pick x s=match DR x.op x.g x.w (s.get a) (s.get c) with|none=>(.fin Dw,s)|some v=>(.val v,s):=by
   unfold ze;dsimp only;repeat rw[yt (by omega)]
   rw[yr o,ha];rfl
  rw[q]
  cases hr:DR x.op x.g x.w (s.get a) (s.get c) with
  | none=>exact rfl
  | some v=>exact⟨ne hw,N5 f hw (g.num hw).2 (r.num hw).2 hr,h⟩
 | cmp o a c ha kc hk hw him =>
  simp only[ze,o,ha,Ep,List.map_cons,List.map_nil];simp;split
  ·exact⟨by omega,EV f _,h⟩
  ·refine⟨by omega,?_,h⟩;rw[hw];refine GB f (by unfold zi;decide) ?_;split<;>exact⟨by decide,by decide⟩
 | select o a c d ha ka kc kd hw =>
  have D:0<x.w:=hw.elim pos (fun q=>by omega);have g:=j a (by simp[ha]) (by omega);have r:=j c (by simp[ha]) (by omega);have C:=j d (by simp[ha]) (by omega);rw[ka]at g;rw[kc]at r;rw[kd]at C;simp[ze,o,ha];split
  ·exact⟨by omega,EV f _,h⟩
  ·have:=(g.num (by unfold zi;decide)).2;have B:m9 1=2:=by decide
   obtain⟨E,A⟩:=this;rw[B]at A;rcases (by omega:(s.get a).n=0\/(s.get a).n=1) with q|q
   ·rw[q];exact⟨by omega,C,h⟩
   ·rw[q];exact⟨by omega,r,h⟩
 | ext o a ha hk hw hd =>
  have g:=j a (by simp[ha]) (pos hk);have r:=N7 hk (g.num hk).2 o hd
  have q:ze f pick x s=if (s.get a).p=true then (.val zX,s) else (.val (Ae (E0 x.op (kind f a) x.w (s.get a).n)),s):=by unfold ze Ep;dsimp only;rcases o with o|o|o<;>simp[o,ha]
  rw[q];split
  ·exact⟨ne hw,EV f _,h⟩
  ·exact⟨ne hw,GB f hw r,h⟩
 | lanes o a c ha ka kc hw h1 h2 h3 =>
  have q:ze f pick x s=if (s.get a).p=true\/(s.get c).p=true then (.val zX,s) else (.val (Ae (CP x.op x.i (x.w / x.i).toNat (s.get a).n (s.get c).n)),s):=by unfold ze Ep;dsimp only;rcases o with o|o<;>simp[o,ha]
  rw[q];split
  ·exact⟨ne hw,EV f _,h⟩
  ·exact⟨ne hw,GB f hw (Na h1 h2 h3),h⟩
 | freeze o a ha ka hw =>
  have g:=j a (by simp[ha]) (by rw[ka];exact pos hw);rw[ka]at g;simp[ze,o,ha];split
  ·exact⟨ne hw,GB f hw (hpk _ _ hw),h.like (K5 _ _)⟩
  ·exact⟨ne hw,g,h⟩
 | poison o ha hw =>
  simp[ze,o,ha];exact⟨ne hw,EV f _,h⟩
 | any o ha hw =>
  simp[ze,o,ha];exact⟨ne hw,GB f hw (hpk _ _ hw),h.like (K5 _ _)⟩
 | addr o ha hw him =>
  simp[ze,o,ha,Ep];refine⟨by omega,?_,h⟩;rw[hw];exact⟨(fun h=>by cases h),fun _=>⟨fun _=>⟨by show 1<=x.i+1;omega,by show x.i+1<=_;omega,by show (0:Int)<=0;omega,by show (0:Int)<_;omega⟩,fun h=>absurd rfl h⟩⟩
 | gep o a c ha ka kc hw hf =>
  have g:=j a (by simp[ha]) (by omega);rw[ka]at g;simp[ze,o,ha,Ep];split
  ·exact⟨by omega,EV f _,h⟩
  next hn =>
   refine⟨by omega,?_,h⟩;rw[hw];exact OA g (by cases hp:(s.get a).p with|false=>rfl|true=>simp[hp]at hn)
 | load o a ha ka hw =>
  have q:ze f pick x s=match Em s.mem (s.get a) (x.w / 8).toNat with|none=>(.fin Dw,s)|some v=>(.val v,s):=by unfold ze;simp[o,ha]<;>rfl
  rw[q]
  cases hr:Em s.mem (s.get a) (x.w / 8).toNat with
  | none=>exact rfl
  | some v=>exact⟨ne (H2 hw).2.1,Om f h.bytes hw hr,h⟩
 | store o a c ha ka kc hw =>
  have q:ze f pick x s=match DT s.mem (s.get a) (s.get c) (kind f c / 8).toNat with|none=>(.fin Dw,s)|some m=>(.on,{s with mem:=m}):=by unfold ze;simp[o,ha]<;>rfl
  rw[q]
  cases hr:DT s.mem (s.get a) (s.get c) (kind f c / 8).toNat with
  | none=>exact rfl
  | some m=>exact⟨hw,h.like (M9 hr)⟩
 | phi o=>exact absurd o ho
 | jump o ha t ht hw =>
  simp[ze,o,ha,ht];exact⟨hw,rfl,by simp[ht]⟩
 | branch o a ha ka t u ht hw =>
  have g:=j a (by simp[ha]) (by omega);rw[ka]at g;obtain⟨E,A⟩:=(g.num (by unfold zi;decide)).2;have B:m9 1=2:=by decide
  rw[B]at A;simp[ze,o,ha,ht];split
  ·exact rfl
  ·rcases (by omega:(s.get a).n=0\/(s.get a).n=1) with q|q
   ·rw[q];exact⟨hw,rfl,by simp[ht]⟩
   ·rw[q];exact⟨hw,rfl,by simp[ht]⟩
 | ret0 o ha hr hw=>simp[ze,o,ha];exact rfl
 | ret o a ha ka hr hw=>simp[ze,o,ha];exact rfl
 | trap o ha hw=>simp[ze,o,ha];exact rfl
end
end Rn
end
section
namespace Rn
open Ref
theorem K7:∀(l:List Ins)(p:Bool),Be l p=true->(p=true->∀i x,l[i]?=some x->(x.op=28↔i<(Do l).length))/\(p=false->∀x∈l,x.op≠28)
 | [],p,_=>⟨fun _ i x h=>by simp at h,fun _ x h=>by simp at h⟩
 | y::r,p,h=>by
  rw[Be]at h
  simp only[yu,Bool.or_eq_true,decide_eq_true_eq]at h
  obtain⟨⟨B,m⟩,t⟩:=h
  obtain⟨z,A⟩:=K7 r _ t;by_cases g:y.op=28
  ·have u:p=true:=m.resolve_left fun q=>q g;refine⟨fun _ i x d=>?_,fun q=>by rw[u]at q;cases q⟩;have e:(Do (y::r)).length=(Do r).length+1:=by simp[Do,List.takeWhile_cons,g]
   rw[e]
   cases i with
   | zero=>simp at d;subst d;simp[g]
   | succ i=>have:=z (by simpa using g) i x (by simpa using d);omega
  ·have j:=A (by simpa using g);refine⟨fun _ i x d=>?_,fun _ x d=>?_⟩
   ·have e:(Do (y::r)).length=0:=by simp[Do,List.takeWhile_cons,g]
    rw[e]
    have:x.op≠28:=by
     cases i with
     | zero=>simp at d;subst d;exact g
     | succ i=>exact j x (xT (by simpa using d))
    omega
   ·rcases List.mem_cons.1 d with rfl|d
    ·exact g
    ·exact j x d
theorem GR {f:Fn}(hv:FB f){l:List Ins}(hl:l∈f.b):l≠[]/\Be l true=true:=by have:=hv.laid l hl;unfold Ref.laid at this;rw[yu]at this;refine⟨fun h=>?_,this.2⟩;rw[h]at this;simp at this
theorem Fv {f:Fn}(hv:FB f){l:List Ins}(hl:l∈f.b){x:Ins}(hx:l[i]?=some x):x.op=28↔i<(Do l).length :=
 (K7 l true (GR hv hl).2).1 rfl i x hx
theorem Iy {f:Fn}(hv:FB f){l:List Ins}(hl:l∈f.b){x:Ins}(hx:l[i]?=some x):Cb x.op=true↔i+1=l.length:=by
 have d:=(xS.1 hx).1
 have e:l=l.take i++x::l.drop (i+1):=by
  conv=>lhs;rw[<-List.take_append_drop i l]
  rw[yg d,(xS.1 hx).2]
 have:=LR (l.take i) true x (l.drop (i+1)) (by rw[<-e];exact(GR hv hl).2);rw[this,List.isEmpty_iff,List.drop_eq_nil_iff];omega
theorem MC {l:List Ins}{x:Ins}(h:x∈Do l):x∈l/\x.op=28:=by refine⟨List.takeWhile_subset _ h,?_⟩;have:=List.all_takeWhile (p:=fun x:Ins=>decide (x.op=28)) (l:=l);rw[ym]at this;simpa using this x h
structure JO (f:Fn)(b:Nat)(frm:Int)(l:List Ins)(s:AN):Prop extends Mid f b 0 l s where
 phi:∀x∈Do l,frm∈x.to/\x.args.length=x.to.length/\(0<=x.args.getD (x.to.idxOf frm) 0/\x.args.getD (x.to.idxOf frm) 0<An f)/\Fp f x.w (Eh s frm x)/\x.w≠0
section
variable {f:Fn}{b:Nat}{l:List Ins}{s:AN}
theorem OH (hA:Gv)(hv:FB f)(hi:Hh f)(h:Mid f b l.length l s)(hl:f.b[b]?=some l){t:Nat}{m:List Ins}(ht:(t:Int)∈(n5 f).getD b [])(hm:f.b[t]?=some m):JO f t b m s:=by
 have B:NT (n5 f) (-1) t:=by
  have:=(hv.rc hA (-1)).step b t h.rch ht (by omega)
  rwa [ya]at this
 refine {toInv:=h.toInv,rch:=B,dom:=?_,here:=fun j x C=>by omega,phi:=?_}
 ·intro a k g K z;by_cases e:a=b
  ·subst e;rw[hl]at g;injection g with g;subst g;exact fun j x C G=>h.here j x (xS.1 C).1 C G
  ·refine h.dom a k g e ?_;unfold Bz at z ⊢;rw[Bool.or_eq_true]at z ⊢;right;have z:=z.resolve_left (by simp;omega)
   cases hb:(Ar (n5 f) (a:Int)).getD (b:Int).toNat false with
   | false=>rfl
   | true =>
    rw[ya]at hb;have:=(hv.rc hA (a:Int)).step b t hb ht (by omega);unfold NT at this;rw[ya]at this;rw[ya,this]at z;cases z
 ·intro x G;obtain⟨r,E⟩:=MC G;obtain⟨N,O,P,Q⟩:=Lu hv hm r E
  have u:(b:Int)∈x.to:=by rw[hv.phi t m hm x r E,M6];refine⟨b,(n5 f).getD b [],M8 hv (xS.1 hl).1,ht,rfl⟩
  have g:=List.idxOf_lt_length_of_mem u;obtain⟨k,p⟩:=xJ (x.to.idxOf (b:Int))
  have F:x.to[k]?=some (b:Int):=by subst p;rw[xR g];exact congrArg some (List.getElem_idxOf g)
  rw[p]at g;obtain⟨v,y⟩:∃v,x.args[k]?=some v:=⟨_,xR (by omega)⟩;have I:x.args.getD k 0=v:=by rw[xU,y];rfl
  obtain⟨D,L⟩:kind f v=x.w/\(zi x.w\/x.w=33):=by
   cases NR hv hi (xT hm) r with
   | phi o q1 q2 q3=>exact⟨q2 v (xT y),q3⟩
   | _=>all_goals omega
  have M:0<x.w:=L.elim (fun q=>by have:=q.1;omega) (fun q=>by omega);have J:=EX (f:=f) (v:=v) (by omega);obtain⟨i,H⟩:=List.getElem?_of_mem r;have d:=hv.st t m hm B i x H k v y;unfold E1 at d;rw[yr E,show x.to.getD k 0=(b:Int) by rw[xU,F];rfl,ya,Bool.or_eq_true]at d;have d:=d.resolve_left (by rw[show (Ar (n5 f) (-1)).getD b false=true from h.rch];simp);have A:=(h.ok _ (Lx h hl d (.inr ⟨rfl,rfl⟩) (by omega))).1;rw[show ((v.toNat:Nat):Int)=v by omega,D]at A;rw[p,I];refine⟨u,N,J,?_,by omega⟩;unfold Eh;rw[p,I];exact A
theorem OI (hA:Gv)(hv:FB f)(hi:Hh f)(h:Mid f b i l s)(hl:f.b[b]?=some l){x:Ins}(hx:l[i]?=some x)(ho:x.op≠28)(hw:x.w=0){t:Int}(ht:t∈x.to):∃m,0<=t/\f.b[t.toNat]?=some m/\JO f t.toNat b m s/\i+1=l.length:=by
 have d:=xT hl;have g:=xT hx;have A:=NV hv hl g ho ht;have q:=Nk hv d g ho ht;have u:=((Ig f x).1 (hv.arg l d x g)).2.2.1 t ht
 have j:i+1=l.length:=by refine(Iy hv d hx).1 ?_;obtain⟨z,p,B⟩:=Kz l true (GR hv d).1 (GR hv d).2;rw[q]at p;injection p with p;rw[p];exact B
 obtain⟨m,y⟩:∃m,f.b[t.toNat]?=some m:=⟨_,xR (by omega)⟩;refine⟨m,u.1,y,?_,j⟩;have r:=h.skip hx hw;rw[j]at r;exact OH hA hv hi r hl (by rw[Int.toNat_of_nonneg u.1];exact A) y
theorem KU (hv:FB f){s0:AN}(he:JO f b frm l s0)(h:Mid f b i l s)(hl:f.b[b]?=some l){x:Ins}(hx:l[i]?=some x)(ho:i<(Do l).length) :
  Mid f b (i+1) l (s.set (yZ f b+i) (((Do l).map (Eh s0 frm)).getD i zero)):=by
 have d:(Do l)[i]?=some x:=by have:Do l <+: l:=List.takeWhile_prefix _;rw[List.prefix_iff_getElem?]at this;have q:=this i ho;rw[xR ho];rw[hx]at q;exact q.symm
 have g:=he.phi x (xT d)
 have e:((Do l).map (Eh s0 frm)).getD i zero=Eh s0 frm x:=by rw[xU,yc,d];rfl
 rw[e];exact h.set hl hx g.2.2.2.2 g.2.2.2.1
theorem Kv (l:List Ins):(Do l).length<=l.length:=(List.takeWhile_prefix _).length_le
end
theorem FC {f:Fn}{i:CG}(h:AB f i=0):FB f/\i.args.length=f.p.length/\i.mem.map (fun r=>(r.length:Int))=f.s/\(∀v:Nat,∀w a,f.p[v]?=some w->i.args[v]?=some a->a<m9 w)/\∀r∈i.mem,∀b∈r,-1<=b/\b<=255:=by
 unfold AB at h;split at h;next h1=>exact absurd h h1
 next h1 =>
  split at h
  ·cases h
  next h2 =>
   split at h
   ·cases h
   next h3 =>
    split at h
    ·cases h
    next h4 =>
     simp only[yG,not_exists,not_and,decide_eq_true_eq,Bool.or_eq_true,not_or]at h3 h4;have hlen:i.args.length=f.p.length/\i.mem.length=f.s.length:=by omega
     refine⟨(Jt f).1 (Decidable.not_not.1 h1),hlen.1,?_,?_,?_⟩
     ·apply List.ext_getElem?;intro k;rw[yc];rcases yw k i.mem.length with d|d
      ·have g:=h4 (f.s[k]'(by omega),i.mem[k]) (by
          rw[List.mem_iff_getElem?]
          exact⟨k,by rw[List.getElem?_zip_eq_some];exact⟨xR (by omega),xR d⟩⟩)
       rw[xR d,xR (by omega)];have:=g.1;simp at this;exact congrArg some this
      ·rw[yi d,yi (by omega)];rfl
     ·intro v w a q j
      have:=h3 (w,a) (by
        rw[List.mem_iff_getElem?]
        exact⟨v,by rw[List.getElem?_zip_eq_some];exact⟨q,j⟩⟩)
      dsimp only at this;omega
     ·intro r p b l;obtain⟨k,d⟩:=List.getElem?_of_mem p;have m:=(xS.1 d).1
      have g:=(h4 (f.s[k]'(by omega),r) (by
          rw[List.mem_iff_getElem?]
          exact⟨k,by rw[List.getElem?_zip_eq_some];exact⟨xR (by omega),d⟩⟩)).2 b l
      omega
theorem KD (f:Fn)(i:CG)(v:Nat):Lt (BN f i) v↔v<i.args.length:=by
 unfold Lt BN;rw[xU,List.getElem?_append,yc,yl];split;next h=>simp[xR h,h]
 next h =>
  rw[yk];split<;>simp<;>omega
theorem Ly (f:Fn)(i:CG)(v:Nat):(BN f i).get v=if v<i.args.length then Ae (i.args.getD v 0) else zero:=by
 unfold AN.get BN;rw[ya,xU,List.getElem?_append,yc,yl];split;next h=>simp[xR h]
 next h =>
  rw[yk];split<;>rfl
theorem JH (hA:Gv){f:Fn}{i:CG}(h:AB f i=0)(ha:∀a∈i.args,0<=a):∃l,f.b[0]?=some l/\JO f 0 (-1) l (BN f i):=by
 obtain⟨hv,I,C,D,E⟩:=FC h;obtain⟨l,hl⟩:∃l,f.b[0]?=some l:=⟨_,xR (by have:=hv.size;omega)⟩;have J:f.p.length<=An f:=by unfold An yZ;omega
 refine⟨l,hl,{len:=?_,hlen:=?_,ok:=?_,zero:=?_,mem:=C,bytes:=E,par:=fun v hv=>(KD f i v).2 (by omega),rch:=(hv.rc hA (-1)).root (by decide),dom:=?_,here:=fun j x hj=>by omega,phi:=?_}⟩
 ·simp[BN];omega
 ·simp[BN];omega
 ·intro v p;have u:=(KD f i v).1 p;obtain⟨w,y⟩:∃w,f.p[v]?=some w:=⟨_,xR (by omega)⟩;obtain⟨a,g⟩:∃a,i.args[v]?=some a:=⟨_,xR (by omega)⟩
  have F:kind f (v:Int)=w:=by unfold kind;rw[yt (by omega),yr (by omega),ya,xU,y];rfl
  have d:zi w:=Fj (ym.1 hv.head.1 w (xT y));rw[Ly,yr u,xU,g,F];exact⟨GB f d ⟨ha a (xT g),D v w a y g⟩,by have:=d.1;omega⟩
 ·intro v p;rw[Ly,yt fun q=>p ((KD f i v).2 q)]
 ·intro a m K G r;exfalso;unfold Bz at r;rw[Bool.or_eq_true]at r;have r:=r.resolve_left (by simp;omega);have:=(hv.rc hA (a:Int)).root (by omega);unfold NT at this;rw[show ((0:Nat):Int).toNat=0 from rfl,this]at r;cases r
 ·intro x H;exfalso;obtain⟨t,A⟩:=MC H;obtain⟨z,B,L,M⟩:=Lu hv hl t A;have:=hv.phi 0 l hl x t A;rw[show ((0:Nat):Int)=0 from rfl,hv.entry]at this;rw[this]at z;simp at z;rw[z]at B;simp at B
end Rn
end
section
namespace Rn
open Ref
theorem MD (f:Fn)(pick:Dk)(x:Ins)(s:AN):(ze f pick x s).2.z=s.z\/(ze f pick x s).2.z=s.z++[x.w]:=by
 unfold ze;dsimp only;by_cases g:x.op=29
 ·rw[yr g];exact .inl rfl
 rw[yt g];by_cases j:x.op=30
 ·rw[yr j];split<;>exact .inl rfl
 rw[yt j];by_cases l:x.op=31
 ·rw[yr l];exact .inl rfl
 rw[yt l];by_cases m:x.op=32
 ·rw[yr m];exact .inl rfl
 rw[yt m];by_cases p:x.op=26
 ·rw[yr p];split<;>exact .inl rfl
 rw[yt p];by_cases q:x.op=27
 ·rw[yr q];split<;>exact .inl rfl
 rw[yt q];by_cases r:x.op=21
 ·rw[yr r];split
  ·exact .inr rfl
  ·exact .inl rfl
 rw[yt r];by_cases t:x.op=23
 ·rw[yr t];exact .inr rfl
 rw[yt t];by_cases u:x.op=15
 ·rw[yr u];split<;>exact .inl rfl
 rw[yt u];by_cases d:1<=x.op/\x.op<=13
 ·rw[yr d];split<;>exact .inl rfl
 rw[yt d];split<;>exact .inl rfl
theorem ME (f:Fn)(pick:Dk)(x:Ins)(s:AN):s.z <+: (ze f pick x s).2.z:=by
 rcases MD f pick x s with h|h
 ·rw[h];exact List.prefix_refl _
 ·rw[h];exact List.prefix_append _ _
theorem N8 {pick pick':Dk}{K:Nat}(h:∀j,j<K->∀n,pick j n=pick' j n)(f:Fn)(x:Ins)(s:AN) :
  ze f pick x s=ze f pick' x s\/(K<=s.z.length/\(ze f pick x s).2.z=s.z++[x.w]/\(ze f pick' x s).2.z=s.z++[x.w]):=by
 rcases yw s.z.length K with l|l
 ·left;have e:∀n,DD pick s n=DD pick' s n:=fun n=>by unfold DD;rw[h _ l]
  unfold ze;dsimp only;simp only[e]
 ·by_cases d:x.op=23\/(x.op=21/\((x.args.map s.get).getD 0 zero).p=true)
  ·right;refine⟨l,?_,?_⟩
   ·unfold ze;dsimp only;rcases d with o|⟨o,p⟩
    ·simp[o,AN.chose]
    ·simp only[o,p];simp[AN.chose]
   ·unfold ze;dsimp only;rcases d with o|⟨o,p⟩
    ·simp[o,AN.chose]
    ·simp only[o,p];simp[AN.chose]
  ·left;unfold ze;dsimp only;by_cases g:x.op=21
   ·have m:¬((x.args.map s.get).getD 0 zero).p=true:=fun q=>d (.inr ⟨g,q⟩);rw[yt (by omega),yt (by omega),yt (by omega),yt (by omega),yt (by omega),yt (by omega),yr g,yt m,yt (by omega),yt (by omega),yt (by omega),yt (by omega),yt (by omega),yt (by omega),yr g,yt m]
   ·have r:x.op≠23:=fun q=>d (.inl q);simp[g,r]
def ON (K:Nat){α:Type}(r r':α × AN):Prop:=r=r'\/∃ws:List Int,K<ws.length/\ws <+: r.2.z/\ws <+: r'.2.z
theorem FG (f:Fn)(pick:Dk)(reads:List V):∀(l:List Ins)(i v:Nat)(s:AN),s.z <+: (AO f pick reads l i v s).2.z
 | [],i,v,s=>List.prefix_refl _
 | x::r,i,v,s=>by
  unfold AO
  split
  ·exact List.prefix_refl _
  ·split
   ·exact FG f pick reads r (i+1) (v+1) (s.tick.set v (reads.getD i zero))
   ·have d:=ME f pick x s.tick
    split;next y s' e=>rw[e]at d;exact d.trans (FG f pick reads r (i+1) (v+1) (s'.set v y))
    next s' e=>rw[e]at d;exact d.trans (FG f pick reads r (i+1) (v+1) s')
    next t s' e=>rw[e]at d;exact d
    next o s' e=>rw[e]at d;exact d
theorem Jk (f:Fn)(pick:Dk)(reads:List V)(x:Ins)(r:List Ins)(i v:Nat)(s:AN)(h1:s.t≠400)(h2:¬i<reads.length):(ze f pick x s.tick).2.z <+: (AO f pick reads (x::r) i v s).2.z:=by
 rw[AO,yt h1,yt h2];split;next y s' e=>rw[e];exact FG f pick reads r (i+1) (v+1) (s'.set v y)
 next s' e=>rw[e];exact FG f pick reads r (i+1) (v+1) s'
 next t s' e=>rw[e];exact List.prefix_refl _
 next o s' e=>rw[e];exact List.prefix_refl _
theorem Jg {pick pick':Dk}{K:Nat}(h:∀j,j<K->∀n,pick j n=pick' j n)(f:Fn)(reads:List V):∀(l:List Ins)(i v:Nat)(s:AN),ON K (AO f pick reads l i v s) (AO f pick' reads l i v s)
 | [],i,v,s=>.inl rfl
 | x::r,i,v,s=>by
  by_cases h1:s.t=400
  ·left
   rw[AO,AO,yr h1,yr h1]
  by_cases h2:i<reads.length
  ·rw[AO,AO,yt h1,yt h1,yr h2,yr h2]
   exact Jg h f reads r (i+1) (v+1) _
  rcases N8 h f x s.tick with e|⟨hk,e1,e2⟩
  ·rw[AO,AO,yt h1,yt h1,yt h2,yt h2,e]
   cases hq:ze f pick' x s.tick with
   | mk q s' =>
    cases q with
    | val y=>exact Jg h f reads r (i+1) (v+1) (s'.set v y)
    | on=>exact Jg h f reads r (i+1) (v+1) s'
    | go t=>exact .inl rfl
    | fin o=>exact .inl rfl
  ·refine .inr ⟨s.tick.z++[x.w],by rw[yK];simp;omega,?_,?_⟩
   ·rw[<-e1];exact Jk f pick reads x r i v s h1 h2
   ·rw[<-e2];exact Jk f pick' reads x r i v s h1 h2
theorem NI {pick pick':Dk}{K:Nat}(h:∀j,j<K->∀n,pick j n=pick' j n)(f:Fn)(b:Nat)(frm:Int)(s:AN):ON K (block f pick b frm s) (block f pick' b frm s):=Jg h f _ _ _ _ _
theorem LV (f:Fn)(pick:Dk)(b:Nat)(frm:Int)(s:AN):s.z <+: (block f pick b frm s).2.z:=FG f pick _ _ _ _ _
theorem Jl (f:Fn)(pick:Dk):∀(k b:Nat)(frm:Int)(s:AN),s.z <+: (C5 f pick k b frm s).2.1.z
 | 0,_,_,_=>List.prefix_refl _
 | k+1,b,frm,s=>by
  have d:=LV f pick b frm s
  unfold C5
  cases hq:block f pick b frm s with
  | mk q s' =>
   rw[hq]at d
   cases q with
   | over o=>exact d
   | run t=>exact d.trans (Jl f pick k t.toNat b s')
theorem MF {pick pick':Dk}{K:Nat}(h:∀j,j<K->∀n,pick j n=pick' j n)(f:Fn):∀(k b:Nat)(frm:Int)(s:AN),
  C5 f pick k b frm s=C5 f pick' k b frm s\/∃ws:List Int,K<ws.length/\ws <+: (C5 f pick k b frm s).2.1.z/\ws <+: (C5 f pick' k b frm s).2.1.z
 | 0,_,_,_=>.inl rfl
 | k+1,b,frm,s=>by
  have d:∀(g:Dk),(block f g b frm s).2.z <+: (C5 f g (k+1) b frm s).2.1.z:=fun g=>by
   rw[C5]
   cases hq:block f g b frm s with
   | mk q s' =>
    cases q with
    | over o=>exact List.prefix_refl _
    | run t=>exact Jl f g k t.toNat b s'
  rcases NI h f b frm s with e|⟨ws,l,m,p⟩
  ·rw[C5,C5,e]
   cases hq:block f pick' b frm s with
   | mk q s' =>
    cases q with
    | over o=>exact .inl rfl
    | run t =>
     rcases MF h f k t.toNat b s' with r|⟨ws,l,m,p⟩
     ·left;dsimp only;rw[r]
     ·exact .inr ⟨ws,l,m,p⟩
  ·exact .inr ⟨ws,l,m.trans (d pick),p.trans (d pick')⟩
theorem On {pick pick':Dk}{K:Nat}(h:∀j,j<K->∀n,pick j n=pick' j n)(f:Fn)(i:CG) :
  DC f pick i=DC f pick' i\/∃ws:List Int,K<ws.length/\ws <+: (DC f pick i).2.1.z/\ws <+: (DC f pick' i).2.1.z:=MF h f 401 0 (-1) (BN f i)
end Rn
end
section
namespace Rn
def Bq (f:Fn)(i:CG)(p:List Int):List Int:=(DC f (zo p) i).2.1.z
def IP (f:Fn)(i:CG)(p:List Int):Prop :=
 p.length<=(Bq f i p).length/\∀j:Nat,j<p.length->0<=p.getD j 0/\p.getD j 0<m9 ((Bq f i p).getD j 0)
theorem K8 (f:Fn)(i:CG):IP f i []:=⟨yI _,fun j h=>absurd h (Nat.not_lt_zero _)⟩
theorem JE (p w:List Int):∀(n k:Nat),DG p w n=some k->k<n/\p.getD k 0+1<m9 (w.getD k 0)
 | 0,k,h=>by simp[DG]at h
 | n+1,k,h=>by
  rw[DG]at h
  split at h
  next h1=>injection h with h;subst h;exact⟨Nat.lt_succ_self _,h1⟩
  next h1=>obtain⟨g,d⟩:=JE p w n k h;exact⟨by omega,d⟩
theorem FX {n:Nat}(h:p.length<=n):(AW p n).length=n:=by unfold AW;simp;omega
theorem I7 (p:List Int)(n j:Nat):(AW p n).getD j 0=p.getD j 0:=by
 unfold AW;rw[xU,xU,List.getElem?_append];split
 ·rfl
 next h =>
  rw[yi (l:=p) (by omega),yk];split<;>rfl
theorem LA (h:k<p.length):(FM p k).length=k+1:=by unfold FM;simp;omega
theorem Oo (h:k<p.length)(hj:j<k):(FM p k).getD j 0=p.getD j 0:=by unfold FM;rw[xU,yd (by simp;omega),yf,yr hj,<-xU]
theorem NJ (h:k<p.length):(FM p k).getD k 0=p.getD k 0+1:=by
 unfold FM;rw[xU,ye (by simp;omega)];have:k-(p.take k).length=0:=by simp;omega
 rw[this];rfl
theorem KH {a b:List Int}(h:a <+: b)(hj:j<a.length):b.getD j 0=a.getD j 0:=by obtain⟨t,rfl⟩:=h;rw[xU,xU,yd hj]
theorem KI {f:Fn}{i:CG}(h:IP f i p)(hk:DG (AW p (Bq f i p).length) (Bq f i p) (Bq f i p).length=some k) :
  IP f i (FM (AW p (Bq f i p).length) k)/\(Bq f i p).take (k+1) <+: Bq f i (FM (AW p (Bq f i p).length) k):=by
 obtain⟨u,C⟩:=JE _ _ _ _ hk;have hl:=FX h.1;have z:(FM (AW p (Bq f i p).length) k).length=k+1:=LA (by rw[hl];exact u);have g:∀j,j<k->(FM (AW p (Bq f i p).length) k).getD j 0=p.getD j 0:=fun j m=>by rw[Oo (by rw[hl];exact u) m,I7]
 have l:(FM (AW p (Bq f i p).length) k).getD k 0=p.getD k 0+1:=by rw[NJ (by rw[hl];exact u),I7]
 rw[I7]at C;obtain⟨b,H⟩:=xJ (FM (AW p (Bq f i p).length) k);rw[H]at z g l ⊢
 have r:∀j,0<=p.getD j 0:=fun j=>by
  rcases yw j p.length with q|q
  ·exact(h.2 j q).1
  ·rw[xU,yi q];exact Int.le_refl 0
 have y:∀j,j<k->∀n,zo p j n=zo b j n:=fun j m n=>by
  unfold zo;rw[yr (show j<b.length by omega),g j m];split
  ·rfl
  next q=>rw[xU,yi (by omega)];simp
 have J:∃ws:List Int,k<ws.length/\ws <+: Bq f i p/\ws <+: Bq f i b:=by
  rcases On y f i with e|⟨ws,E,F,G⟩
  ·exact⟨Bq f i p,u,List.prefix_refl _,by unfold Bq;rw[e];exact List.prefix_refl _⟩
  ·exact⟨ws,E,F,G⟩
 obtain⟨ws,L,D,B⟩:=J;have d:∀j,j<=k->(Bq f i b).getD j 0=(Bq f i p).getD j 0:=fun j m=>by rw[KH D (by omega),KH B (by omega)]
 have K:=B.length_le;refine⟨⟨by omega,fun j m=>?_⟩,?_⟩
 ·rcases yw j k with q|q
  ·rw[g j q,d j (by omega)];refine⟨r j,?_⟩;rcases yw j p.length with A|A
   ·exact(h.2 j A).2
   ·rw[xU,yi A];exact BC _
  ·obtain rfl:j=k:=by omega
   rw[l,d j (yJ _)];exact⟨by have:=r j;omega,C⟩
 ·obtain⟨t,I⟩:=D;have e:(Bq f i p).take (k+1)=ws.take (k+1):=by rw[<-I,List.take_append_of_le_length (by omega)]
  rw[e];exact(List.take_prefix _ _).trans B
theorem MR (hj:p.length<=j)(n:Int):zo p j n=0:=by unfold zo;rw[yt (by omega)]
end Rn
end
section
namespace Rn
structure JP {α:Type}(c:α->α->Int):Prop where
 three:∀a b,c a b=-1\/c a b=0\/c a b=1
 zero:∀a b,c a b=0↔a=b
 swap:∀a b,c b a=-c a b
 trans:∀a b d,c a b=-1->c b d=-1->c a d=-1
theorem He (a b:Int):(a<b/\CU a b=-1)\/(a=b/\CU a b=0)\/(b<a/\CU a b=1):=by
 unfold CU;rcases Int.lt_trichotomy a b with h|h|h
 ·exact .inl ⟨h,yr h⟩
 ·exact .inr (.inl ⟨h,by rw[yt (by omega),yt (by omega)]⟩)
 ·exact .inr (.inr ⟨h,by rw[yt (by omega),yr h]⟩)
theorem NK:JP CU where
 three a b:=by have:=He a b;omega
 zero a b:=by have:=He a b;omega
 swap a b:=by have:=He a b;have:=He b a;omega
 trans a b d h1 h2:=by have:=He a b;have:=He b d;have:=He a d;omega
def Kw {α:Type}(c:α->α->Int):List α->List α->Int
 | [],[]=>0
 | [],_::_=>-1
 | _::_,[]=>1
 | a::azs,b::bs=>if c a b=0 then Kw c azs bs else c a b
theorem MG:∀a b:List Int,AL a b=Kw CU a b
 | [],[]=>rfl
 | [],_::_=>rfl
 | _::_,[]=>rfl
 | a::azs,b::bs=>by rw[AL,Kw,MG azs bs]
theorem Nq:∀a b:List (List Int),Da a b=Kw AL a b
 | [],[]=>rfl
 | [],_::_=>rfl
 | _::_,[]=>rfl
 | a::azs,b::bs=>by rw[Da,Kw,Nq azs bs]
theorem LC {α:Type}{c:α->α->Int}(h:JP c):∀a b:List α,Kw c a b=-1\/Kw c a b=0\/Kw c a b=1
 | [],[]=>.inr (.inl rfl)
 | [],_::_=>.inl rfl
 | _::_,[]=>.inr (.inr rfl)
 | a::azs,b::bs=>by
  rw[Kw]
  split
  ·exact LC h azs bs
  ·exact h.three a b
theorem MH {α:Type}{c:α->α->Int}(h:JP c):∀a b:List α,Kw c a b=0↔a=b
 | [],[]=>by simp[Kw]
 | [],_::_=>by simp[Kw]
 | _::_,[]=>by simp[Kw]
 | a::azs,b::bs=>by
  rw[Kw,List.cons.injEq]
  split
  next e=>rw[MH h azs bs];exact⟨fun q=>⟨(h.zero a b).1 e,q⟩,fun q=>q.2⟩
  next e=>exact⟨fun q=>absurd q e,fun q=>absurd ((h.zero a b).2 q.1) e⟩
theorem MJ {α:Type}{c:α->α->Int}(h:JP c):∀a b:List α,Kw c b a=-Kw c a b
 | [],[]=>rfl
 | [],_::_=>rfl
 | _::_,[]=>rfl
 | a::azs,b::bs=>by
  rw[Kw,Kw,h.swap a b]
  by_cases e:c a b=0
  ·rw[yr (by omega),yr e];exact MJ h azs bs
  ·rw[yt (by omega),yt e]
theorem LD {α:Type}{c:α->α->Int}(h:JP c):∀a b d:List α,Kw c a b=-1->Kw c b d=-1->Kw c a d=-1
 | [],b,[],h1,h2=>by cases b<;>simp[Kw]at h1 h2
 | [],b,_::_,h1,h2=>rfl
 | a::azs,[],d,h1,h2=>by simp[Kw]at h1
 | a::azs,b::bs,[],h1,h2=>by simp[Kw]at h2
 | a::azs,b::bs,d::ds,h1,h2=>by
  rw[Kw]at h1 h2 ⊢
  by_cases j:c a b=0
  ·have:=(h.zero a b).1 j
   subst this;rw[yr j]at h1;by_cases g:c a d=0
   ·rw[yr g]at h2 ⊢;exact LD h azs bs ds h1 h2
   ·rw[yt g]at h2 ⊢;exact h2
  ·rw[yt j]at h1;by_cases g:c b d=0
   ·have:=(h.zero b d).1 g;subst this;rw[yt j];exact h1
   ·rw[yt g]at h2;have:=h.trans a b d h1 h2;rw[yt (by omega)];exact this
theorem LE {α:Type}{c:α->α->Int}(h:JP c):JP (Kw c):=⟨LC h,MH h,MJ h,LD h⟩
theorem FN:JP AL:=by have:AL=Kw CU:=funext fun a=>funext fun b=>MG a b;rw[this];exact LE NK
theorem JF:JP Da:=by have:Da=Kw AL:=funext fun a=>funext fun b=>Nq a b;rw[this];exact LE FN
theorem NL {a b:zO}(h:Dh a=Dh b)(hm:a.mem=b.mem):a=b:=by
 obtain⟨k,⟨p,s,n⟩,m⟩:=a;obtain⟨j,⟨d,s',q⟩,l⟩:=b;simp[Dh]at h hm;obtain⟨rfl,g,rfl,rfl⟩:=h;subst hm;have:p=d:=by cases p<;>cases d<;>simp[Gm]at g<;>rfl
 subst this;rfl
theorem DI:JP BJ where
 three a b:=by unfold BJ;split;exact JF.three _ _;exact FN.three _ _
 zero a b:=by
  unfold BJ;split;next e=>rw[JF.zero];exact⟨fun q=>NL ((FN.zero _ _).1 e) q,fun q=>by rw[q]⟩
  next e=>exact⟨fun q=>absurd q e,fun q=>absurd ((FN.zero _ _).2 (by rw[q])) e⟩
 swap a b:=by
  unfold BJ;rw[FN.swap (Dh a) (Dh b),JF.swap a.mem b.mem];by_cases e:AL (Dh a) (Dh b)=0
  ·rw[yr (by omega),yr e]
  ·rw[yt (by omega),yt e]
 trans a b d h1 h2:=by
  unfold BJ at *;by_cases j:AL (Dh a) (Dh b)=0
  ·rw[yr j]at h1;have l:=(FN.zero _ _).1 j;rw[l];by_cases g:AL (Dh b) (Dh d)=0
   ·rw[yr g]at h2 ⊢;exact JF.trans _ _ _ h1 h2
   ·rw[yt g]at h2 ⊢;exact h2
  ·rw[yt j]at h1;by_cases g:AL (Dh b) (Dh d)=0
   ·rw[<-(FN.zero _ _).1 g,yt j];exact h1
   ·rw[yt g]at h2;have:=FN.trans _ _ _ h1 h2;rw[yt (by omega)];exact this
end Rn
end
