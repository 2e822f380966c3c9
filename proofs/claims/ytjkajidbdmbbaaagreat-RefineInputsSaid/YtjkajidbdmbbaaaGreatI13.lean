/- Parts. -/
import Derived.Test.YtjkajidbdmbbaaaGreatI12
set_option linter.unusedSimpArgs false
set_option linter.unusedVariables false
set_option maxRecDepth 100000
set_option maxHeartbeats 16000000
open Go.Proofs.Tryz
namespace Go.Proofs.YtjkajidbdmbbaaaGreat
open Go.RowKit
def pf (f:Fn):List Int:=(Ir.items f).map fun it=>(it.blk:Int)
def eW (f:Fn):List Int:=(Ir.items f).map fun it=>(it.pos:Int)
theorem kA (f:Fn)(vb va vg:Value)(z:Int)(b:Nat)(place:Int)(w:World)(hb:IntsAt w.heap.size w vb (pf f))(ha:IntsAt w.heap.size w va (eW f))(hg:TabAt w.heap.size w vg (Ref.graph f))
  (hv:Ir.gval (Ref.graph f)=0) (hz0:0<=z) (hz1:z<Ref.count f) (hbl:b<f.blocks.length) (hr:rb (Ref.graph f) b=true) (hpl:f.params.length<=100000) (hil:(Ir.items f).length<=1000000) :
  Calls prog 107 #[.agg #[.int .i64 f.params.length,vb,va,vg],.int .i64 z,.int .i64 b,.int .i64 place] w (RG (.bool (Ir.isThere f (Ref.graph f) z b place)) w):=by
 have hc:=iG f;have F:Hid ((Ref.graph f).length=f.blocks.length):=by show _=_;simp[Ref.graph]
 have Z:b<(Ref.graph f).length:=by rw[F.out];exact hbl
 obtain⟨n,rfl⟩:=tb hz0;obtain⟨O,A,rfl,b1,b2,K⟩:=hb;obtain⟨N,ca,rfl,a1,a2,a3⟩:=ha;have eb:(pf f).length=(Ir.items f).length:=by simp[pf]
 have ea:(eW f).length=(Ir.items f).length:=by simp[eW]
 rw[eb]at b1 b2 K ⊢;rw[ea]at a1 a2 a3 ⊢;clear eb ea;have p:=hg;obtain⟨r,u,rfl,-,-,-⟩:=hg;obtain⟨W,T⟩:=xJ (w.alloc (.cells #[.int .i64 f.params.length,.slice O (Ir.items f).length A,.slice N (Ir.items f).length ca,.slice r (Ref.graph f).length u] 129));have d:Gr w W:=by rw[<-T];exact(tX w).alloc _
 have ag:W.heap.size=w.heap.size+1:=by rw[<-T];simp
 have B:Gr (w.alloc (.cells #[.int .i64 f.params.length,.slice O (Ir.items f).length A,.slice N (Ir.items f).length ca,.slice r (Ref.graph f).length u] 129)) W:=by rw[T];exact tX _
 have d0:W.cell? ⟨w.heap.size,0,none⟩=some (.int .i64 f.params.length):=da _ _ 0 B rfl;have d1:W.cell? ⟨w.heap.size,1,none⟩=some (.slice O (Ir.items f).length A):=da _ _ 1 B rfl;have d2:W.cell? ⟨w.heap.size,2,none⟩=some (.slice N (Ir.items f).length ca):=da _ _ 2 B rfl;have d3:W.cell? ⟨w.heap.size,3,none⟩=some (.slice r (Ref.graph f).length u):=da _ _ 3 B rfl;clear B;by_cases hp:n<f.params.length
 ·have t:Hid (Ir.isThere f (Ref.graph f) n b place=true):=by show _=_;unfold Ir.isThere;rw[tB (by omega)]
  have ad:(n:Int)<f.params.length:=by omega
  clear K a3 p hc hp
  go_enter func107, ntmps107
  go_wp2;go_ret;exact⟨cZ (by rw[t.out]),d⟩
 ·obtain⟨m,hm⟩:∃m,n=f.params.length+m:=⟨n-f.params.length,by omega⟩;subst hm;have ac:m<(Ir.items f).length:=by omega
  obtain⟨it,j⟩:∃it,(Ir.items f)[m]?=some it:=⟨_,sQ ac⟩;obtain⟨I,ae,l,H,ab⟩:=gF f m it j;obtain⟨L,M,rfl,Y,D⟩:=K (by omega);obtain⟨ba,oa,rfl,X,C⟩:=a3 (by omega);have R:=(d.cell _ _ Y).trans (D m it.blk (by unfold pf;rw[td,j];rfl));have af:=(d.cell _ _ X).trans (C m it.pos (by unfold eW;rw[td,j];rfl))
  have t:Hid (Ir.isThere f (Ref.graph f) ((f.params.length+m:Nat):Int) b place=if (it.blk:Int)=b then decide ((it.pos:Int)<place) else Ref.dominates (Ref.graph f) it.blk b):=by show _=_;unfold Ir.isThere;rw[tC (by omega),I]
  have G:it.blk<f.blocks.length:=(sR.1 H).1;have aa:it.blk<(Ref.graph f).length:=by rw[F.out];exact G
  have HD:Hid (∀J,Gr W J->Calls prog 138 #[.slice r (Ref.graph f).length u,.int .i64 it.blk,.int .i64 b] J fun e w'=>∃x y,e=.returned (.tuple #[.bool x,.int .i64 y])/\Hid ((decide (y=0) && x)=Ref.dominates (Ref.graph f) it.blk b)/\Gr J w') :=
   fun J q=>iC _ (Ref.graph f) it.blk b J (p.gr (d.trans q)) hv aa Z hr
  have ah:(f.params.length:Int)+(m:Int)-f.params.length=m:=by omega
  have ai:(m:Int)<(Ir.items f).length:=by omega
  have ad:(f.params.length:Int)<=f.params.length+(m:Int):=by omega
  have aj:(m:Int)>=0:=by omega
  have kp:Hid (∀w',Gr W w'->(w'.cell? ⟨w.heap.size,1,none⟩=some (.slice (some ⟨L,M,none⟩) (Ir.items f).length A)/\w'.cell? ⟨w.heap.size,3,none⟩=some (.slice r (Ref.graph f).length u)/\w'.cell? ⟨L,M+m,none⟩=some (.int .i64 it.blk))) :=
   fun w' q=>⟨(q.cell _ _ (by omega)).trans d1,(q.cell _ _ (by omega)).trans d3,(q.cell _ _ (by omega)).trans R⟩
  clear K a3 p hc hp j I ae H ab C D hv hr hz1;by_cases hb:(it.blk:Int)=b
  ·have U:((it.blk:Int) == b)=true:=by simp[hb]
   have g:Hid (Ir.isThere f (Ref.graph f) ((f.params.length+m:Nat):Int) b place=decide ((it.pos:Int)<place)):=by show _=_;rw[t.out,tB hb]
   clear hb kp t
   go_enter func107, ntmps107
   go_wp2;all_goals go_ret
   all_goals exact⟨cZ (by rw[g.out]),d⟩
  ·have U:((it.blk:Int) == b)=false:=by simp[hb]
   have g:Hid (Ir.isThere f (Ref.graph f) ((f.params.length+m:Nat):Int) b place=Ref.dominates (Ref.graph f) it.blk b):=by show _=_;rw[t.out,tC hb]
   obtain⟨dd,E⟩:=xJ (Ref.dominates (Ref.graph f) it.blk b);rw[E]at g HD;clear hb t E
   go_enter func107, ntmps107
   go_wp2
   go_region_held3 (fun w'=>w'.cell? ⟨w.heap.size,1,none⟩=some (.slice (some ⟨L,M,none⟩) (Ir.items f).length A)/\w'.cell? ⟨w.heap.size,3,none⟩=some (.slice r (Ref.graph f).length u)/\w'.cell? ⟨L,M+m,none⟩=some (.int .i64 it.blk)) (first|exact kp.out _ (tX W).drew|exact kp.out _ g3) (first|(go_at_call 138;refine(HD.out _ (tX W).drew).mono ?_;rintro e w3 ⟨x,y,rfl,Q,S⟩;have g3:=(tX W).drew.trans S))
   go_wp2;all_goals go_ret
   all_goals exact⟨cZ (by rw[g.out,<-Q.out];simp[*]),d.trans g3⟩
theorem gh (va vb:Value)(a b:List Int)(w:World)(ha:IntsAt w.heap.size w va a)(hb:IntsAt w.heap.size w vb b) :
  Calls prog 99 #[va,vb] w (RG (.bool (decide (a=b))) w):=by
 obtain⟨A,ca,rfl,L,M,l⟩:=ha;obtain⟨Q,T,rfl,N,O,m⟩:=hb;by_cases hlen:a.length=b.length
 ·have F:((a.length:Int) != (b.length:Int))=false:=by rw[hlen];simp
  have H:Hid (a.length=b.length):=hlen;clear hlen
  go_enter func99, ntmps99
  go_wp2
  go_loopw [5,13] (fun _ i wr=>∃k:Nat,k<=a.length/\i=.int .i64 k/\Hid (a.take k=b.take k)/\Gr w wr) (fun _ i _=>a.length-(intOf i).toNat)
  case atStart=>exact⟨0,tR _,rfl,rfl,tX _⟩
  case round =>
   obtain⟨k,U,rfl,g,r⟩:=hrel;by_cases j:k<a.length
   ·have d:k<b.length:=by have:=H.out;omega
    obtain⟨R,X,rfl,D,p⟩:=l (by omega);obtain⟨S,Y,rfl,E,q⟩:=m (by omega);obtain⟨x,u⟩:∃x,x=a[k]:=⟨_,rfl⟩;obtain⟨y,z⟩:∃y,y=b[k]:=⟨_,rfl⟩;have W:=(r.cell _ _ D).trans (p k x (by rw[u];simp[j]));have hv:=(r.cell _ _ E).trans (q k y (by rw[z];simp[d]));have J:Hid (a.take (k+1)=a.take k++[x]):=by show _=_;rw[u,tG j]
    have K:Hid (b.take (k+1)=b.take k++[y]):=by show _=_;rw[z,tG d]
    have B:Hid (a[k]?=some x):=by show _=_;rw[u];simp[j]
    have C:Hid (b[k]?=some y):=by show _=_;rw[z];simp[d]
    have Z:(0:Int)<=(k:Int):=by omega
    have z2:(k:Int)<(a.length:Int):=by omega
    have z3:(k:Int)<(b.length:Int):=by omega
    clear u z p q l m;go_wp2;go_quiet (fail);go_wp2
    ·go_ret
     exact⟨cZ (by
       have:a≠b:=by rintro rfl;have t:=B.out;have I:=C.out;rw[t]at I;cases I;simp_all
       simp[this]),r.drewN _⟩
    ·go_roundw;case rel=>exact⟨k+1,by omega,by go_num,by show _=_;rw[J.out,K.out,g.out];grind,r.drewN _⟩
     case measure=>simp[intOf];omega
   ·obtain rfl:k=a.length:=by omega
    go_wp2;go_ret
    exact⟨cZ (by
      have t:=g.out
      rw[tE,H.out,tE]at t
      simp[t]),r⟩
 ·have F:((a.length:Int) != (b.length:Int))=true:=by simp;omega
  have G:Hid (a≠b):=fun h=>hlen (by rw[h])
  go_enter func99, ntmps99
  go_wp2;go_ret;exact⟨cZ (by simp[G.out]),tX _⟩
