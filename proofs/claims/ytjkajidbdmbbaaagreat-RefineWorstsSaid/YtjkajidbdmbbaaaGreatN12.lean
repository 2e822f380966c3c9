import Derived.Test.YtjkajidbdmbbaaaGreatN11
set_option linter.unusedSimpArgs false
set_option linter.unusedVariables false
set_option maxRecDepth 100000
set_option maxHeartbeats 16000000
open Go.Proofs.Tryz
namespace Go.Proofs.YtjkajidbdmbbaaaGreat
open Ref Rn Wd Ir Rf
open Go.RowKit
def sZ (f:Fn):List Int:=(zW f).map fun it=>(it.blk:Int)
def fV (f:Fn):List Int:=(zW f).map fun it=>(it.pos:Int)
theorem mU (f:Fn)(vb va vg:Value)(z:Int)(b:Nat)(place:Int)(w:World)(hb:IntsAt w.heap.size w vb (sZ f))(ha:IntsAt w.heap.size w va (fV f))(hg:TabAt w.heap.size w vg (n5 f))
  (hv:DK (n5 f)=0) (hz0:0<=z) (hz1:z<An f) (hbl:b<f.b.length) (hr:rb (n5 f) b=true) (hpl:f.p.length<=100000) (hil:(zW f).length<=1000000) :
  Calls prog 107 #[.agg #[.int .i64 f.p.length,vb,va,vg],.int .i64 z,.int .i64 b,.int .i64 place] w (RG (.bool (DJ f (n5 f) z b place)) w):=by
 have hc:=kq f;have F:Hid ((n5 f).length=f.b.length):=by show _=_;simp[n5]
 have Z:b<(n5 f).length:=by rw[F.out];exact hbl
 obtain⟨n,rfl⟩:=xZ hz0;obtain⟨O,A,rfl,b1,b2,K⟩:=hb;obtain⟨N,ca,rfl,a1,a2,a3⟩:=ha;have eb:(sZ f).length=(zW f).length:=by simp[sZ]
 have ea:(fV f).length=(zW f).length:=by simp[fV]
 rw[eb]at b1 b2 K ⊢;rw[ea]at a1 a2 a3 ⊢;clear eb ea;have p:=hg;obtain⟨r,u,rfl,-,-,-⟩:=hg;obtain⟨W,T⟩:=xJ (w.alloc (.cells #[.int .i64 f.p.length,.slice O (zW f).length A,.slice N (zW f).length ca,.slice r (n5 f).length u] 129));have d:Gr w W:=by rw[<-T];exact(yO w).alloc _
 have ag:W.heap.size=w.heap.size+1:=by rw[<-T];simp
 have B:Gr (w.alloc (.cells #[.int .i64 f.p.length,.slice O (zW f).length A,.slice N (zW f).length ca,.slice r (n5 f).length u] 129)) W:=by rw[T];exact yO _
 have d0:W.cell? ⟨w.heap.size,0,none⟩=some (.int .i64 f.p.length):=df _ _ 0 B rfl;have d1:W.cell? ⟨w.heap.size,1,none⟩=some (.slice O (zW f).length A):=df _ _ 1 B rfl;have d2:W.cell? ⟨w.heap.size,2,none⟩=some (.slice N (zW f).length ca):=df _ _ 2 B rfl;have d3:W.cell? ⟨w.heap.size,3,none⟩=some (.slice r (n5 f).length u):=df _ _ 3 B rfl;clear B;by_cases hp:n<f.p.length
 ·have t:Hid (DJ f (n5 f) n b place=true):=by show _=_;unfold DJ;rw[yr (by omega)]
  have ad:(n:Int)<f.p.length:=by omega
  clear K a3 p hc hp
  go_enter func107, ntmps107
  go_wp2;go_ret;exact⟨cZ (by rw[t.out]),d⟩
 ·obtain⟨m,hm⟩:∃m,n=f.p.length+m:=⟨n-f.p.length,by omega⟩;subst hm;have ac:m<(zW f).length:=by omega
  obtain⟨it,j⟩:∃it,(zW f)[m]?=some it:=⟨_,xR ac⟩;obtain⟨I,ae,l,H,ab⟩:=ja f m it j;obtain⟨L,M,rfl,Y,D⟩:=K (by omega);obtain⟨ba,oa,rfl,X,C⟩:=a3 (by omega);have R:=(d.cell _ _ Y).trans (D m it.blk (by unfold sZ;rw[yc,j];rfl));have af:=(d.cell _ _ X).trans (C m it.pos (by unfold fV;rw[yc,j];rfl))
  have t:Hid (DJ f (n5 f) ((f.p.length+m:Nat):Int) b place=if (it.blk:Int)=b then decide ((it.pos:Int)<place) else Bz (n5 f) it.blk b):=by show _=_;unfold DJ;rw[yt (by omega),I]
  have G:it.blk<f.b.length:=(xS.1 H).1;have aa:it.blk<(n5 f).length:=by rw[F.out];exact G
  have HD:Hid (∀J,Gr W J->Calls prog 138 #[.slice r (n5 f).length u,.int .i64 it.blk,.int .i64 b] J fun e w'=>∃x y,e=.returned (.tuple #[.bool x,.int .i64 y])/\Hid ((decide (y=0) && x)=Bz (n5 f) it.blk b)/\Gr J w') :=
   fun J q=>kl _ (n5 f) it.blk b J (p.gr (d.trans q)) hv aa Z hr
  have ah:(f.p.length:Int)+(m:Int)-f.p.length=m:=by omega
  have ai:(m:Int)<(zW f).length:=by omega
  have ad:(f.p.length:Int)<=f.p.length+(m:Int):=by omega
  have aj:(m:Int)>=0:=by omega
  have kp:Hid (∀w',Gr W w'->(w'.cell? ⟨w.heap.size,1,none⟩=some (.slice (some ⟨L,M,none⟩) (zW f).length A)/\w'.cell? ⟨w.heap.size,3,none⟩=some (.slice r (n5 f).length u)/\w'.cell? ⟨L,M+m,none⟩=some (.int .i64 it.blk))) :=
   fun w' q=>⟨(q.cell _ _ (by omega)).trans d1,(q.cell _ _ (by omega)).trans d3,(q.cell _ _ (by omega)).trans R⟩
  clear K a3 p hc hp j I ae H ab C D hv hr hz1;by_cases hb:(it.blk:Int)=b
  ·have U:((it.blk:Int) == b)=true:=by simp[hb]
   have g:Hid (DJ f (n5 f) ((f.p.length+m:Nat):Int) b place=decide ((it.pos:Int)<place)):=by show _=_;rw[t.out,yr hb]
   clear hb kp t
   go_enter func107, ntmps107
   go_wp2;all_goals go_ret
   all_goals exact⟨cZ (by rw[g.out]),d⟩
  ·have U:((it.blk:Int) == b)=false:=by simp[hb]
   have g:Hid (DJ f (n5 f) ((f.p.length+m:Nat):Int) b place=Bz (n5 f) it.blk b):=by show _=_;rw[t.out,yt hb]
   obtain⟨dd,E⟩:=xJ (Bz (n5 f) it.blk b);rw[E]at g HD;clear hb t E
   go_enter func107, ntmps107
   go_wp2
   go_region_held3 (fun w'=>w'.cell? ⟨w.heap.size,1,none⟩=some (.slice (some ⟨L,M,none⟩) (zW f).length A)/\w'.cell? ⟨w.heap.size,3,none⟩=some (.slice r (n5 f).length u)/\w'.cell? ⟨L,M+m,none⟩=some (.int .i64 it.blk)) (first|exact kp.out _ (yO W).drew|exact kp.out _ g3) (first|(go_at_call 138;refine(HD.out _ (yO W).drew).mono ?_;rintro e w3 ⟨x,y,rfl,Q,S⟩;have g3:=(yO W).drew.trans S))
   go_wp2;all_goals go_ret
   all_goals exact⟨cZ (by rw[g.out,<-Q.out];simp[*]),d.trans g3⟩
theorem iF (va vb:Value)(a b:List Int)(w:World)(ha:IntsAt w.heap.size w va a)(hb:IntsAt w.heap.size w vb b) :
  Calls prog 99 #[va,vb] w (RG (.bool (decide (a=b))) w):=by
 obtain⟨A,ca,rfl,L,M,l⟩:=ha;obtain⟨Q,T,rfl,N,O,m⟩:=hb;by_cases hlen:a.length=b.length
 ·have F:((a.length:Int) != (b.length:Int))=false:=by rw[hlen];simp
  have H:Hid (a.length=b.length):=hlen;clear hlen
  go_enter func99, ntmps99
  go_wp2
  go_loopw [5,13] (fun _ i wr=>∃k:Nat,k<=a.length/\i=.int .i64 k/\Hid (a.take k=b.take k)/\Gr w wr) (fun _ i _=>a.length-(intOf i).toNat)
  case atStart=>exact⟨0,yI _,rfl,rfl,yO _⟩
  case round =>
   obtain⟨k,U,rfl,g,r⟩:=hrel;by_cases j:k<a.length
   ·have d:k<b.length:=by have:=H.out;omega
    obtain⟨R,X,rfl,D,p⟩:=l (by omega);obtain⟨S,Y,rfl,E,q⟩:=m (by omega);obtain⟨x,u⟩:∃x,x=a[k]:=⟨_,rfl⟩;obtain⟨y,z⟩:∃y,y=b[k]:=⟨_,rfl⟩;have W:=(r.cell _ _ D).trans (p k x (by rw[u];simp[j]));have hv:=(r.cell _ _ E).trans (q k y (by rw[z];simp[d]));have J:Hid (a.take (k+1)=a.take k++[x]):=by show _=_;rw[u,yx j]
    have K:Hid (b.take (k+1)=b.take k++[y]):=by show _=_;rw[z,yx d]
    have B:Hid (a[k]?=some x):=by show _=_;rw[u];simp[j]
    have C:Hid (b[k]?=some y):=by show _=_;rw[z];simp[d]
    have Z:(0:Int)<=(k:Int):=by omega
    have z2:(k:Int)<(a.length:Int):=by omega
    have z3:(k:Int)<(b.length:Int):=by omega
    clear u z p q l m;go_wp2;go_quiet (fail);go_wp2
    ·go_ret
     exact⟨cZ (by
       have:a≠b:=by rintro rfl;have t:=B.out;have I:=C.out;rw[t]at I;cases I;simp_all
       simp[this]),r.drewN _⟩
    ·go_roundw;case rel=>exact⟨k+1,by omega,by go_num,by show _=_;rw[J.out,K.out,g.out];grind,r.drewN _⟩
     case measure=>simp[intOf];omega
   ·obtain rfl:k=a.length:=by omega
    go_wp2;go_ret
    exact⟨cZ (by
      have t:=g.out
      rw[yv,H.out,yv]at t
      simp[t]),r⟩
 ·have F:((a.length:Int) != (b.length:Int))=true:=by simp;omega
  have G:Hid (a≠b):=fun h=>hlen (by rw[h])
  go_enter func99, ntmps99
  go_wp2;go_ret;exact⟨cZ (by simp[G.out]),yO _⟩
