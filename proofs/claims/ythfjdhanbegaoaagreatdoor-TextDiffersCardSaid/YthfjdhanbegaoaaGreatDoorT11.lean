/- Parts. -/
import Derived.Test.YthfjdhanbegaoaaGreatDoorT10
set_option linter.unusedSimpArgs false
set_option linter.unusedVariables false
set_option maxRecDepth 100000
set_option maxHeartbeats 16000000
open Go.Proofs.Tryz
namespace Go.Proofs.YthfjdhanbegaoaaGreatDoor
open Go.RowKit
def ji (f:Fn):List Int:=(Ir.items f).map fun it=>(it.blk:Int)
def ei (f:Fn):List Int:=(Ir.items f).map fun it=>(it.pos:Int)
theorem jy (f:Fn)(vb va vg:Value)(z:Int)(b:Nat)(place:Int)(w:World)(hb:IntsAt w.heap.size w vb (ji f))(ha:IntsAt w.heap.size w va (ei f))(hg:TabAt w.heap.size w vg (Ref.graph f))
  (hv:Ir.gval (Ref.graph f)=0) (hz0:0<=z) (hz1:z<Ref.count f) (hbl:b<f.blocks.length) (hr:rb (Ref.graph f) b=true) (hpl:f.params.length<=100000) (hil:(Ir.items f).length<=1000000) :
  Calls prog 96 #[.agg #[.int .i64 f.params.length,vb,va,vg],.int .i64 z,.int .i64 b,.int .i64 place] w (RG (.bool (Ir.isThere f (Ref.graph f) z b place)) w):=by
 have hc:=ii f;have E:Hid ((Ref.graph f).length=f.blocks.length):=by show _=_;simp[Ref.graph]
 have Y:b<(Ref.graph f).length:=by rw[E.out];exact hbl
 obtain⟨n,rfl⟩:=pg hz0;obtain⟨N,A,rfl,b1,b2,J⟩:=hb;obtain⟨M,ca,rfl,a1,a2,a3⟩:=ha;have eb:(ji f).length=(Ir.items f).length:=by simp[ji]
 have ea:(ei f).length=(Ir.items f).length:=by simp[ei]
 rw[eb]at b1 b2 J ⊢;rw[ea]at a1 a2 a3 ⊢;clear eb ea;have p:=hg;obtain⟨r,u,rfl,-,-,-⟩:=hg;obtain⟨W,T⟩:=xJ (w.alloc (.cells #[.int .i64 f.params.length,.slice N (Ir.items f).length A,.slice M (Ir.items f).length ca,.slice r (Ref.graph f).length u] 100));have d:Gr w W:=by rw[<-T];exact(qj w).alloc _
 have af:W.heap.size=w.heap.size+1:=by rw[<-T];simp
 have g0:Gr (w.alloc (.cells #[.int .i64 f.params.length,.slice N (Ir.items f).length A,.slice M (Ir.items f).length ca,.slice r (Ref.graph f).length u] 100)) W:=by rw[T];exact qj _
 have d0:W.cell? ⟨w.heap.size,0,none⟩=some (.int .i64 f.params.length):=dg _ _ 0 g0 rfl;have d1:W.cell? ⟨w.heap.size,1,none⟩=some (.slice N (Ir.items f).length A):=dg _ _ 1 g0 rfl;have d2:W.cell? ⟨w.heap.size,2,none⟩=some (.slice M (Ir.items f).length ca):=dg _ _ 2 g0 rfl;have d3:W.cell? ⟨w.heap.size,3,none⟩=some (.slice r (Ref.graph f).length u):=dg _ _ 3 g0 rfl;clear g0;by_cases hp:n<f.params.length
 ·have t:Hid (Ir.isThere f (Ref.graph f) n b place=true):=by show _=_;unfold Ir.isThere;rw[pB (by omega)]
  have ac:(n:Int)<f.params.length:=by omega
  clear J a3 p hc hp
  go_enter func96, ntmps96
  go_wp2;go_ret;exact⟨dc (by rw[t.out]),d⟩
 ·obtain⟨m,hm⟩:∃m,n=f.params.length+m:=⟨n-f.params.length,by omega⟩;subst hm;have ab:m<(Ir.items f).length:=by omega
  obtain⟨it,j⟩:∃it,(Ir.items f)[m]?=some it:=⟨_,oY ab⟩;obtain⟨H,ad,l,G,aa⟩:=fy f m it j;obtain⟨K,L,rfl,X,C⟩:=J (by omega);obtain⟨ba,oa,rfl,V,B⟩:=a3 (by omega);have Q:=(d.cell _ _ X).trans (C m it.blk (by unfold ji;rw[pk,j];rfl));have ae:=(d.cell _ _ V).trans (B m it.pos (by unfold ei;rw[pk,j];rfl))
  have t:Hid (Ir.isThere f (Ref.graph f) ((f.params.length+m:Nat):Int) b place=if (it.blk:Int)=b then decide ((it.pos:Int)<place) else Ref.dominates (Ref.graph f) it.blk b):=by show _=_;unfold Ir.isThere;rw[pC (by omega),H]
  have F:it.blk<f.blocks.length:=(oZ.1 G).1;have Z:it.blk<(Ref.graph f).length:=by rw[E.out];exact F
  have HD:Hid (∀I,Gr W I->Calls prog 125 #[.slice r (Ref.graph f).length u,.int .i64 it.blk,.int .i64 b] I fun e w'=>∃x y,e=.returned (.tuple #[.bool x,.int .i64 y])/\Hid ((decide (y=0) && x)=Ref.dominates (Ref.graph f) it.blk b)/\Gr I w') :=
   fun I q=>hU _ (Ref.graph f) it.blk b I (p.gr (d.trans q)) hv Z Y hr
  have ag:(f.params.length:Int)+(m:Int)-f.params.length=m:=by omega
  have ah:(m:Int)<(Ir.items f).length:=by omega
  have ac:(f.params.length:Int)<=f.params.length+(m:Int):=by omega
  have ai:(m:Int)>=0:=by omega
  have kp:Hid (∀w',Gr W w'->(w'.cell? ⟨w.heap.size,1,none⟩=some (.slice (some ⟨K,L,none⟩) (Ir.items f).length A)/\w'.cell? ⟨w.heap.size,3,none⟩=some (.slice r (Ref.graph f).length u)/\w'.cell? ⟨K,L+m,none⟩=some (.int .i64 it.blk))) :=
   fun w' q=>⟨(q.cell _ _ (by omega)).trans d1,(q.cell _ _ (by omega)).trans d3,(q.cell _ _ (by omega)).trans Q⟩
  clear J a3 p hc hp j H ad G aa B C hv hr hz1;by_cases hb:(it.blk:Int)=b
  ·have U:((it.blk:Int) == b)=true:=by simp[hb]
   have g:Hid (Ir.isThere f (Ref.graph f) ((f.params.length+m:Nat):Int) b place=decide ((it.pos:Int)<place)):=by show _=_;rw[t.out,pB hb]
   clear hb kp t
   go_enter func96, ntmps96
   go_wp2;all_goals go_ret
   all_goals exact⟨dc (by rw[g.out]),d⟩
  ·have U:((it.blk:Int) == b)=false:=by simp[hb]
   have g:Hid (Ir.isThere f (Ref.graph f) ((f.params.length+m:Nat):Int) b place=Ref.dominates (Ref.graph f) it.blk b):=by show _=_;rw[t.out,pC hb]
   obtain⟨dd,D⟩:=xJ (Ref.dominates (Ref.graph f) it.blk b);rw[D]at g HD;clear hb t D
   go_enter func96, ntmps96
   go_wp2
   go_region_held3 (fun w'=>w'.cell? ⟨w.heap.size,1,none⟩=some (.slice (some ⟨K,L,none⟩) (Ir.items f).length A)/\w'.cell? ⟨w.heap.size,3,none⟩=some (.slice r (Ref.graph f).length u)/\w'.cell? ⟨K,L+m,none⟩=some (.int .i64 it.blk)) (first|exact kp.out _ (qj W).drew|exact kp.out _ g3) (first|(go_at_call 125;refine(HD.out _ (qj W).drew).mono ?_;rintro e w3 ⟨x,y,rfl,O,R⟩;have g3:=(qj W).drew.trans R))
   go_wp2;all_goals go_ret
   all_goals exact⟨dc (by rw[g.out,<-O.out];simp[*]),d.trans g3⟩
theorem lc (va vb:Value)(a b:List Int)(w:World)(ha:IntsAt w.heap.size w va a)(hb:IntsAt w.heap.size w vb b) :
  Calls prog 88 #[va,vb] w (RG (.bool (decide (a=b))) w):=by
 obtain⟨A,ca,rfl,M,N,m⟩:=ha;obtain⟨R,V,rfl,O,Q,p⟩:=hb;by_cases d:a.length=b.length
 ·have G:((a.length:Int) != (b.length:Int))=false:=by rw[d];simp
  have I:Hid (a.length=b.length):=d;clear d
  go_enter func88, ntmps88
  go_wp2
  go_loopw [5,13] (fun _ i wr=>∃k:Nat,k<=a.length/\i=.int .i64 k/\Hid (a.take k=b.take k)/\Gr w wr) (fun _ i _=>a.length-(intOf i).toNat)
  case atStart=>exact⟨0,pR _,rfl,rfl,qj _⟩
  case round =>
   obtain⟨k,W,rfl,j,t⟩:=hrel;by_cases l:k<a.length
   ·have g:k<b.length:=by have:=I.out;omega
    obtain⟨T,Z,rfl,E,q⟩:=m (by omega);obtain⟨U,ob,rfl,F,r⟩:=p (by omega);obtain⟨x,z⟩:∃x,x=a[k]:=⟨_,rfl⟩;obtain⟨y,B⟩:∃y,y=b[k]:=⟨_,rfl⟩;have X:=(t.cell _ _ E).trans (q k x (by rw[z];simp[l]));have Y:=(t.cell _ _ F).trans (r k y (by rw[B];simp[g]));have K:Hid (a.take (k+1)=a.take k++[x]):=by show _=_;rw[z,pG l]
    have L:Hid (b.take (k+1)=b.take k++[y]):=by show _=_;rw[B,pG g]
    have C:Hid (a[k]?=some x):=by show _=_;rw[z];simp[l]
    have D:Hid (b[k]?=some y):=by show _=_;rw[B];simp[g]
    have z1:(0:Int)<=(k:Int):=by omega
    have z2:(k:Int)<(a.length:Int):=by omega
    have z3:(k:Int)<(b.length:Int):=by omega
    clear z B q r m p;go_wp2;go_quiet (fail);go_wp2
    ·go_ret
     exact⟨dc (by
       have:a≠b:=by rintro rfl;have u:=C.out;have J:=D.out;rw[u]at J;cases J;simp_all
       simp[this]),t.drewN _⟩
    ·go_roundw;case rel=>exact⟨k+1,by omega,by go_num,by show _=_;rw[K.out,L.out,j.out];grind,t.drewN _⟩
     case measure=>simp[intOf];omega
   ·obtain rfl:k=a.length:=by omega
    go_wp2;go_ret
    exact⟨dc (by
      have u:=j.out
      rw[pE,I.out,pE]at u
      simp[u]),t⟩
 ·have G:((a.length:Int) != (b.length:Int))=true:=by simp;omega
  have H:Hid (a≠b):=fun h=>d (by rw[h])
  go_enter func88, ntmps88
  go_wp2;go_ret;exact⟨dc (by simp[H.out]),qj _⟩
