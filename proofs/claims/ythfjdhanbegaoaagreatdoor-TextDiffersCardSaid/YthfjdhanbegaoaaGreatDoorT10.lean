/- Parts. -/
import Derived.Test.YthfjdhanbegaoaaGreatDoorT09
set_option linter.unusedSimpArgs false
set_option linter.unusedVariables false
set_option maxRecDepth 100000
set_option maxHeartbeats 16000000
open Go.Proofs.Tryz
namespace Go.Proofs.YthfjdhanbegaoaaGreatDoor
open Go.RowKit
theorem kU (i:Nat)(args ks:List Int)(Bx Bk:Nat)(va vk:Value)(w:World)(hx:w.cell? ⟨Bx,3,none⟩=some va)(hk:w.cell? ⟨Bk,0,none⟩=some vk)(ha:IntsAt w.heap.size w va args)(hks:IntsAt w.heap.size w vk ks)(hi:i<args.length) :
  Calls prog 90 #[.int .i64 (i:Int),.pointer (some ⟨Bx,0,none⟩),.pointer (some ⟨Bk,0,none⟩)] w (RS (.int .i64 (Ir.kv ks (args.getD i 0))) w):=by
 obtain⟨E,ca,rfl,G,a2,a3⟩:=ha;obtain⟨F,J,rfl,K,L,r⟩:=hks;obtain⟨H,M,rfl,A,d⟩:=a3 (by omega);obtain⟨z,q⟩:∃z,args[i]?=some z:=⟨args[i],by simp[hi]⟩;have m:=d i z q;have l:Hid (args[i]?.getD 0=z):=by show _=_;simp[q]
 have C:(i:Int)<args.length:=by omega
 clear a3 d q hi;by_cases h0:z<0
 ·go_enter func90, ntmps90
  go_wp2;go_ret;exact⟨df (by rw[l.out,Ir.kv,pB (by omega)]),rfl⟩
 ·by_cases u:(ks.length:Int)<=z
  ·clear r
   go_enter func90, ntmps90
   go_wp2;go_ret;exact⟨df (by rw[l.out,Ir.kv,pB (by omega)]),rfl⟩
  ·obtain⟨n,rfl⟩:=pg (show 0<=z by omega);obtain⟨I,N,rfl,B,g⟩:=r (by omega);obtain⟨y,p⟩:∃y,ks[n]?=some y:=⟨ks[n]'(by omega),oY (by omega)⟩;have j:=g n y p;have t:Hid (Ir.kv ks (n:Int)=y):=by show _=_;rw[Ir.kv,pC (by omega)];simp[List.getD,p]
   have D:(n:Int)<ks.length:=by omega
   clear r g p h0 u
   go_enter func90, ntmps90
   go_wp2;go_ret;exact⟨df (by rw[pb,l.out,t.out]),rfl⟩
theorem kV (k:Int)(args ks:List Int)(Bx Bo:Nat)(va p1 p2:Value)(w:World)(hx:w.cell? ⟨Bx,3,none⟩=some va)(ho:w.cell? ⟨Bo,0,none⟩=some (.func (.func 90) #[] #[p1,p2]))(ha:IntsAt w.heap.size w va args)
  (H1:Hid (∀i:Nat,i<args.length->Calls prog 90 #[.int .i64 (i:Int),p1,p2] w (RS (.int .i64 (Ir.kv ks (args.getD i 0))) w))) :
  Calls prog 91 #[.int .i64 k,.pointer (some ⟨Bx,0,none⟩),.pointer (some ⟨Bo,0,none⟩)] w (RS (.bool (args.all fun v=>decide (Ir.kv ks v=k))) w):=by
 obtain⟨I,ca,rfl,J,a2,-⟩:=ha
 go_enter func91, ntmps91
 go_wp2
 go_loop [5,9] (fun _ i=>∃j:Nat,j<=args.length/\i=.int .i64 j/\Hid ((args.all fun v=>decide (Ir.kv ks v=k))=((args.drop j).all fun v=>decide (Ir.kv ks v=k)))) (fun _ i=>args.length-(intOf i).toNat)
 case atStart=>exact⟨0,pR _,rfl,rfl⟩
 case round =>
  obtain⟨j,G,rfl,d⟩:=hrel;rcases hr:args.drop j with _|⟨z,r⟩
  ·have q:=dm hr G;have E:Hid ((args.all fun v=>decide (Ir.kv ks v=k))=true):=by show _=_;rw[d.out,hr];rfl
   subst q;clear hr d;go_wp2;go_ret;exact⟨dc (by rw[E.out]),rfl⟩
  ·obtain⟨t,D,l⟩:=dj hr;have m:=dJ (H1.out j t);have C:args.getD j 0=z:=by simp[List.getD,D]
   rw[C]at m;obtain⟨y,A⟩:=xJ (Ir.kv ks z);have B:Hid ((args.all fun v=>decide (Ir.kv ks v=k))=(decide (y=k) && r.all fun v=>decide (Ir.kv ks v=k))):=by show _=_;rw[d.out,hr,List.all_cons,A]
   have p:Hid (args.drop (j+1)=r):=l;rw[A]at m;clear hr D l d A C;by_cases g:y=k
   ·have u:(y != k)=false:=by simp[g]
    have F:=dJ g;clear g;go_wp2_with (go_at_call 90;refine m.out.mono ?_;rintro e H ⟨rfl,rfl⟩);go_round;case rel=>exact⟨j+1,by omega,by go_num,by (show _=_;rw[B.out,p.out];simp[F.out])⟩
    case measure=>simp[intOf];omega
   ·have u:(y != k)=true:=by simp[g]
    go_wp2_with (go_at_call 90;refine m.out.mono ?_;rintro e H ⟨rfl,rfl⟩);go_ret;exact⟨dc (by rw[B.out];simp[g]),rfl⟩
theorem dg {V W:World}{B:Nat}(c:Array Value)(t:TypeId)(i:Nat)(g:Gr (V.alloc (.cells c t)) W)(hB:V.heap.size=B):W.cell? ⟨B,i,none⟩=c[i]?:=by subst hB;exact(g.cell V.heap.size i (by simp)).trans (px _ _ _ _ _ _ (heap_alloc_new V _))
theorem kw (f:Fn)(x:Ins)(ks:List Int)(vp vs vb:Value)(Aa At Ak:Option Addr)(ca ct ck:Nat)(w:World)(ha:IntsAt w.heap.size w (.slice Aa x.args.length ca) x.args)(hk:IntsAt w.heap.size w (.slice Ak ks.length ck) ks)
  (hl:(Ir.classOf x.op=3->2<=x.args.length)/\(Ir.classOf x.op=4->3<=x.args.length)/\(Ir.classOf x.op=5->1<=x.args.length)/\(Ir.classOf x.op=6->1<=x.args.length)/\(Ir.classOf x.op=11->2<=x.args.length)/\(Ir.classOf x.op=12->1<=x.args.length)/\(Ir.classOf x.op=13->2<=x.args.length)/\(Ir.classOf x.op=16->1<=x.args.length)) :
  Calls prog 54 #[.agg #[vp,.int .i64 f.ret,vs,vb],.agg #[.int .i64 x.op,.int .i64 x.width,.int .i64 x.flags,.slice Aa x.args.length ca,.int .u32 x.imm,.slice At x.to.length ct],.slice Ak ks.length ck] w fun e w' =>
   e=.returned (.bool (Ir.typed f x ks))/\Gr w w':=by
 obtain⟨W,U⟩:=xJ ((((w.alloc (.cells #[vp,.int .i64 f.ret,vs,vb] 25)).alloc (.cells #[.int .i64 x.op,.int .i64 x.width,.int .i64 x.flags,.slice Aa x.args.length ca,.int .u32 x.imm,.slice At x.to.length ct] 50)).alloc (.cells #[.slice Ak ks.length ck] 22)).alloc (.cells #[.func (.func 90) #[] #[.pointer (some ⟨w.heap.size+1,0,none⟩),.pointer (some ⟨w.heap.size+1+1,0,none⟩)]] 111));have Z:=jd (((w.alloc (.cells #[vp,.int .i64 f.ret,vs,vb] 25)).alloc (.cells #[.int .i64 x.op,.int .i64 x.width,.int .i64 x.flags,.slice Aa x.args.length ca,.int .u32 x.imm,.slice At x.to.length ct] 50)).alloc (.cells #[.slice Ak ks.length ck] 22)) (.func (.func 90) #[] #[.pointer (some ⟨w.heap.size+1,0,none⟩),.pointer (some ⟨w.heap.size+1+1,0,none⟩)]) .nilFunc 111 (w.heap.size+1+1+1) (by simp) rfl;rw[U]at Z;have y:Gr w W:=by rw[<-U];exact((((qj w).alloc _).alloc _).alloc _).alloc _
 have g0:Gr (w.alloc (.cells #[vp,.int .i64 f.ret,vs,vb] 25)) W:=by rw[<-U];exact(((qj _).alloc _).alloc _).alloc _
 have g1:Gr ((w.alloc (.cells #[vp,.int .i64 f.ret,vs,vb] 25)).alloc (.cells #[.int .i64 x.op,.int .i64 x.width,.int .i64 x.flags,.slice Aa x.args.length ca,.int .u32 x.imm,.slice At x.to.length ct] 50)) W:=by rw[<-U];exact((qj _).alloc _).alloc _
 have g2:Gr (((w.alloc (.cells #[vp,.int .i64 f.ret,vs,vb] 25)).alloc (.cells #[.int .i64 x.op,.int .i64 x.width,.int .i64 x.flags,.slice Aa x.args.length ca,.int .u32 x.imm,.slice At x.to.length ct] 50)).alloc (.cells #[.slice Ak ks.length ck] 22)) W:=by rw[<-U];exact(qj _).alloc _
 have aa:W.heap.size=w.heap.size+4:=by rw[<-U];simp
 have g3:Gr W W:=qj _;have c1:W.cell? ⟨w.heap.size,1,none⟩=some (.int .i64 f.ret):=dg _ _ 1 g0 rfl;have d0:W.cell? ⟨w.heap.size+1,0,none⟩=some (.int .i64 x.op):=dg _ _ 0 g1 (by simp);have d1:W.cell? ⟨w.heap.size+1,1,none⟩=some (.int .i64 x.width):=dg _ _ 1 g1 (by simp);have d3:W.cell? ⟨w.heap.size+1,3,none⟩=some (.slice Aa x.args.length ca):=dg _ _ 3 g1 (by simp);have k0:W.cell? ⟨w.heap.size+1+1,0,none⟩=some (.slice Ak ks.length ck):=dg _ _ 0 g2 (by simp)
 have o0:W.cell? ⟨w.heap.size+1+1+1,0,none⟩=some (.func (.func 90) #[] #[.pointer (some ⟨w.heap.size+1,0,none⟩),.pointer (some ⟨w.heap.size+1+1,0,none⟩)]):=by rw[<-U]at g3 ⊢;exact dg _ _ 0 g3 (by simp)
 clear g0 g1 g2 g3
 have E:Hid (∀(i:Nat) g,Gr W g->i<x.args.length->Calls prog 90 #[.int .i64 (i:Int),.pointer (some ⟨w.heap.size+1,0,none⟩),.pointer (some ⟨w.heap.size+1+1,0,none⟩)] g (RS (.int .i64 (Ir.kof ks x i)) g)):=by intro i g q Y;exact kU i x.args ks _ _ _ _ g ((q.cell _ _ (by omega)).trans d3) ((q.cell _ _ (by omega)).trans k0) (ha.gr (y.trans q)) (hk.gr (y.trans q)) Y
 have G:Hid (∀(k:Int) g,Gr W g->Calls prog 91 #[.int .i64 k,.pointer (some ⟨w.heap.size+1,0,none⟩),.pointer (some ⟨w.heap.size+1+1+1,0,none⟩)] g (RS (.bool (Ir.each ks x k)) g)):=by intro k g q;exact kV k x.args ks _ _ _ _ _ g ((q.cell _ _ (by omega)).trans d3) ((q.cell _ _ (by omega)).trans o0) (ha.gr (y.trans q)) (fun i Y=>E.out i g q Y)
 have D:Hid (∀g,Calls prog 92 #[.int .i64 x.op] g (RS (.int .i64 (Ir.classOf x.op)) g)):=fun g=>gc x.op g
 have J:Hid (Ir.classOf x.op=0\/Ir.classOf x.op=1\/Ir.classOf x.op=2\/Ir.classOf x.op=3\/Ir.classOf x.op=4\/Ir.classOf x.op=5\/Ir.classOf x.op=6\/Ir.classOf x.op=7\/Ir.classOf x.op=8\/Ir.classOf x.op=9\/Ir.classOf x.op=10\/Ir.classOf x.op=11\/Ir.classOf x.op=12\/Ir.classOf x.op=13\/Ir.classOf x.op=14\/Ir.classOf x.op=15\/Ir.classOf x.op=16\/Ir.classOf x.op=17\/Ir.classOf x.op=18):=by have:=fq x.op;show _\/_;omega
 have j:Hid (∀c,Ir.classOf x.op=c->Ir.typed f x ks=if c=2\/c=7\/c=8\/c=14 then Ir.each ks x x.width
     else if c=3 then Ref.isWidth (Ir.kof ks x 0) && Ir.each ks x (Ir.kof ks x 0)
     else if c=4 then decide (Ir.kof ks x 0=1) && decide (Ir.kof ks x 1=x.width) && decide (Ir.kof ks x 2=x.width)
     else if c=5 then Ref.isWidth (Ir.kof ks x 0) && decide (Ir.kof ks x 0<x.width)
     else if c=6 then Ref.isWidth (Ir.kof ks x 0) && decide (x.width<Ir.kof ks x 0)
     else if c=11 then decide (Ir.kof ks x 0=33) && Ref.isWidth (Ir.kof ks x 1)
     else if c=12 then decide (Ir.kof ks x 0=33)
     else if c=13 then decide (Ir.kof ks x 0=33) && Ref.isMem (Ir.kof ks x 1)
     else if c=16 then decide (Ir.kof ks x 0=1)
     else if c=17 then Ir.each ks x f.ret
     else true):=by
  intro c h;unfold Ir.typed;rw[h]
 obtain⟨A,z,B,C,l,r,m,t⟩:=hl;clear ha hk;rcases J.out with h|h|h|h|h|h|h|h|h|h|h|h|h|h|h|h|h|h|h
 ·have p:=dJ (j.out _ h);rw[h]at D;clear h A z B C l r m t j J E G
  go_enter func54, ntmps54
  go_wp2_with (go_at_call 92;refine(D.out _).mono ?_;rintro e g ⟨rfl,rfl⟩);go_ret;exact⟨dc (by rw[p.out];rfl),y⟩
 ·have p:=dJ (j.out _ h);rw[h]at D;clear h A z B C l r m t j J E G
  go_enter func54, ntmps54
  go_wp2_with (go_at_call 92;refine(D.out _).mono ?_;rintro e g ⟨rfl,rfl⟩);go_ret;exact⟨dc (by rw[p.out];rfl),y⟩
 ·have p:Hid (Ir.typed f x ks=Ir.each ks x x.width):=by show _=_;rw[j.out _ h];rfl
  have K:=dJ (G.out x.width);obtain⟨q,L⟩:=xJ (Ir.each ks x x.width);rw[L]at p K;rw[h]at D;clear h A z B C l r m t j J E G L
  go_enter func54, ntmps54
  go_wp2_with (first|(go_at_call 92;refine(D.out _).mono ?_;rintro e g ⟨rfl,rfl⟩)|(go_at_call 91;refine(K.out _ (qj _)).mono ?_;rintro e g ⟨rfl,rfl⟩));go_ret;exact⟨dc (by rw[p.out]),y⟩
 ·have p:Hid (Ir.typed f x ks=(Ref.isWidth (Ir.kof ks x 0) && Ir.each ks x (Ir.kof ks x 0))):=by show _=_;rw[j.out _ h];rfl
  have I:Hid (∀g,Gr W g->Calls prog 90 #[.int .i64 0,.pointer (some ⟨w.heap.size+1,0,none⟩),.pointer (some ⟨w.heap.size+1+1,0,none⟩)] g (RS (.int .i64 (Ir.kof ks x 0)) g)):=fun g q=>E.out 0 g q (by have:=A h;omega);have K:=dJ (G.out (Ir.kof ks x 0));obtain⟨H,u⟩:=xJ (Ir.kof ks x 0);rw[u]at p I K;rw[h]at D;clear h A z B C l r m t j J E G u;obtain⟨q,L⟩:=xJ (Ir.each ks x H);rw[L]at p K;clear L;have N:Hid (∀g,Calls prog 79 #[.int .i64 H] g (RS (.bool (Ref.isWidth H)) g)):=fun g=>dO H g;obtain⟨R,F⟩:=xJ (Ref.isWidth H);rw[F]at p N;clear F;cases R;all_goals go_enter func54, ntmps54
  all_goals go_wp2_with (first|(go_at_call 92;refine(D.out _).mono ?_;rintro e g ⟨rfl,rfl⟩)|(go_at_call 90;refine(I.out _ (qj _)).mono ?_;rintro e g ⟨rfl,rfl⟩)|(go_at_call 79;refine(N.out _).mono ?_;rintro e g ⟨rfl,rfl⟩)|(go_at_call 91;refine(K.out _ (qj _)).mono ?_;rintro e g ⟨rfl,rfl⟩))
  all_goals go_ret
  all_goals exact⟨dc (by rw[p.out];rfl),y⟩
 ·have p:Hid (Ir.typed f x ks=(decide (Ir.kof ks x 0=1) && decide (Ir.kof ks x 1=x.width) && decide (Ir.kof ks x 2=x.width))):=by show _=_;rw[j.out _ h];rfl
  have I:Hid (∀g,Gr W g->Calls prog 90 #[.int .i64 0,.pointer (some ⟨w.heap.size+1,0,none⟩),.pointer (some ⟨w.heap.size+1+1,0,none⟩)] g (RS (.int .i64 (Ir.kof ks x 0)) g)):=fun g q=>E.out 0 g q (by have:=z h;omega);have T:Hid (∀g,Gr W g->Calls prog 90 #[.int .i64 1,.pointer (some ⟨w.heap.size+1,0,none⟩),.pointer (some ⟨w.heap.size+1+1,0,none⟩)] g (RS (.int .i64 (Ir.kof ks x 1)) g)):=fun g q=>E.out 1 g q (by have:=z h;omega);have C2:Hid (∀g,Gr W g->Calls prog 90 #[.int .i64 2,.pointer (some ⟨w.heap.size+1,0,none⟩),.pointer (some ⟨w.heap.size+1+1,0,none⟩)] g (RS (.int .i64 (Ir.kof ks x 2)) g)):=fun g q=>E.out 2 g q (by have:=z h;omega);obtain⟨H,u⟩:=xJ (Ir.kof ks x 0);rw[u]at p I;obtain⟨Q,M⟩:=xJ (Ir.kof ks x 1);rw[M]at p T;obtain⟨y2,V⟩:=xJ (Ir.kof ks x 2);rw[V]at p C2;rw[h]at D;clear h A z B C l r m t j J E G u M V;obtain⟨a0,h0⟩:∃a0,(H == 1)=a0:=⟨_,rfl⟩;obtain⟨X,h1⟩:∃X,(Q == x.width)=X:=⟨_,rfl⟩;obtain⟨a2,h2⟩:∃a2,(y2 == x.width)=a2:=⟨_,rfl⟩;have O:Hid (Ir.typed f x ks=(a0 && X && a2)):=by show _=_;rw[p.out,<-h0,<-h1,<-h2];rfl
  cases a0;all_goals cases X
  all_goals cases a2
  all_goals go_enter func54, ntmps54
  all_goals go_wp2_with (go_at_call 92;refine(D.out _).mono ?_;rintro e g ⟨rfl,rfl⟩)
  all_goals go_quiet (first|fail|(go_at_call_of 90 (Value.int IntKind.i64 0);exact dn (I.out _ ((qj _).drewN _)))|(go_at_call_of 90 (Value.int IntKind.i64 1);exact dn (T.out _ ((qj _).drewN _)))|(go_at_call_of 90 (Value.int IntKind.i64 2);exact dn (C2.out _ ((qj _).drewN _))))
  all_goals go_wp2
  all_goals go_ret
  all_goals exact⟨dc (by rw[O.out];rfl),y.drewN _⟩
 ·have p:Hid (Ir.typed f x ks=(Ref.isWidth (Ir.kof ks x 0) && decide (Ir.kof ks x 0<x.width))):=by show _=_;rw[j.out _ h];rfl
  have I:Hid (∀g,Gr W g->Calls prog 90 #[.int .i64 0,.pointer (some ⟨w.heap.size+1,0,none⟩),.pointer (some ⟨w.heap.size+1+1,0,none⟩)] g (RS (.int .i64 (Ir.kof ks x 0)) g)):=fun g q=>E.out 0 g q (by have:=B h;omega);obtain⟨H,u⟩:=xJ (Ir.kof ks x 0);rw[u]at p I;rw[h]at D;clear h A z B C l r m t j J E G u;have N:Hid (∀g,Calls prog 79 #[.int .i64 H] g (RS (.bool (Ref.isWidth H)) g)):=fun g=>dO H g;obtain⟨R,F⟩:=xJ (Ref.isWidth H);rw[F]at p N;clear F;obtain⟨d,hd⟩:∃d,decide (H<x.width)=d:=⟨_,rfl⟩;rw[hd]at p;cases R;all_goals cases d
  all_goals go_enter func54, ntmps54
  all_goals go_wp2_with (go_at_call 92;refine(D.out _).mono ?_;rintro e g ⟨rfl,rfl⟩)
  all_goals go_quiet (first|fail|(go_at_call 90;exact dn (I.out _ ((qj _).drewN _)))|(go_at_call 79;exact dn (N.out _)))
  all_goals go_wp2
  all_goals go_ret
  all_goals exact⟨dc (by rw[p.out];rfl),y.drewN _⟩
 ·have p:Hid (Ir.typed f x ks=(Ref.isWidth (Ir.kof ks x 0) && decide (x.width<Ir.kof ks x 0))):=by show _=_;rw[j.out _ h];rfl
  have I:Hid (∀g,Gr W g->Calls prog 90 #[.int .i64 0,.pointer (some ⟨w.heap.size+1,0,none⟩),.pointer (some ⟨w.heap.size+1+1,0,none⟩)] g (RS (.int .i64 (Ir.kof ks x 0)) g)):=fun g q=>E.out 0 g q (by have:=C h;omega);obtain⟨H,u⟩:=xJ (Ir.kof ks x 0);rw[u]at p I;rw[h]at D;clear h A z B C l r m t j J E G u;have N:Hid (∀g,Calls prog 79 #[.int .i64 H] g (RS (.bool (Ref.isWidth H)) g)):=fun g=>dO H g;obtain⟨R,F⟩:=xJ (Ref.isWidth H);rw[F]at p N;clear F;obtain⟨d,hd⟩:∃d,decide (x.width<H)=d:=⟨_,rfl⟩;rw[hd]at p;cases R;all_goals cases d
  all_goals go_enter func54, ntmps54
  all_goals go_wp2_with (go_at_call 92;refine(D.out _).mono ?_;rintro e g ⟨rfl,rfl⟩)
  all_goals go_quiet (first|fail|(go_at_call 90;exact dn (I.out _ ((qj _).drewN _)))|(go_at_call 79;exact dn (N.out _)))
  all_goals go_wp2
  all_goals go_ret
  all_goals exact⟨dc (by rw[p.out];rfl),y.drewN _⟩
 ·have p:Hid (Ir.typed f x ks=Ir.each ks x x.width):=by show _=_;rw[j.out _ h];rfl
  have K:=dJ (G.out x.width);obtain⟨q,L⟩:=xJ (Ir.each ks x x.width);rw[L]at p K;rw[h]at D;clear h A z B C l r m t j J E G L
  go_enter func54, ntmps54
  go_wp2_with (first|(go_at_call 92;refine(D.out _).mono ?_;rintro e g ⟨rfl,rfl⟩)|(go_at_call 91;refine(K.out _ (qj _)).mono ?_;rintro e g ⟨rfl,rfl⟩));go_ret;exact⟨dc (by rw[p.out]),y⟩
 ·have p:Hid (Ir.typed f x ks=Ir.each ks x x.width):=by show _=_;rw[j.out _ h];rfl
  have K:=dJ (G.out x.width);obtain⟨q,L⟩:=xJ (Ir.each ks x x.width);rw[L]at p K;rw[h]at D;clear h A z B C l r m t j J E G L
  go_enter func54, ntmps54
  go_wp2_with (first|(go_at_call 92;refine(D.out _).mono ?_;rintro e g ⟨rfl,rfl⟩)|(go_at_call 91;refine(K.out _ (qj _)).mono ?_;rintro e g ⟨rfl,rfl⟩));go_ret;exact⟨dc (by rw[p.out]),y⟩
 ·have p:=dJ (j.out _ h);rw[h]at D;clear h A z B C l r m t j J E G
  go_enter func54, ntmps54
  go_wp2_with (go_at_call 92;refine(D.out _).mono ?_;rintro e g ⟨rfl,rfl⟩);go_ret;exact⟨dc (by rw[p.out];rfl),y⟩
 ·have p:=dJ (j.out _ h);rw[h]at D;clear h A z B C l r m t j J E G
  go_enter func54, ntmps54
  go_wp2_with (go_at_call 92;refine(D.out _).mono ?_;rintro e g ⟨rfl,rfl⟩);go_ret;exact⟨dc (by rw[p.out];rfl),y⟩
 ·have p:Hid (Ir.typed f x ks=(decide (Ir.kof ks x 0=33) && Ref.isWidth (Ir.kof ks x 1))):=by show _=_;rw[j.out _ h];rfl
  have I:Hid (∀g,Gr W g->Calls prog 90 #[.int .i64 0,.pointer (some ⟨w.heap.size+1,0,none⟩),.pointer (some ⟨w.heap.size+1+1,0,none⟩)] g (RS (.int .i64 (Ir.kof ks x 0)) g)):=fun g q=>E.out 0 g q (by have:=l h;omega);have T:Hid (∀g,Gr W g->Calls prog 90 #[.int .i64 1,.pointer (some ⟨w.heap.size+1,0,none⟩),.pointer (some ⟨w.heap.size+1+1,0,none⟩)] g (RS (.int .i64 (Ir.kof ks x 1)) g)):=fun g q=>E.out 1 g q (by have:=l h;omega);obtain⟨H,u⟩:=xJ (Ir.kof ks x 0);rw[u]at p I;obtain⟨Q,M⟩:=xJ (Ir.kof ks x 1);rw[M]at p T;rw[h]at D;clear h A z B C l r m t j J E G u M;have N:Hid (∀g,Calls prog 79 #[.int .i64 Q] g (RS (.bool (Ref.isWidth Q)) g)):=fun g=>dO Q g;obtain⟨R,F⟩:=xJ (Ref.isWidth Q);rw[F]at p N;clear F;obtain⟨a0,h0⟩:∃a0,(H == 33)=a0:=⟨_,rfl⟩;have O:Hid (Ir.typed f x ks=(a0 && R)):=by show _=_;rw[p.out,<-h0];rfl
  cases a0;all_goals go_enter func54, ntmps54
  all_goals go_wp2_with (first|(go_at_call 92;refine(D.out _).mono ?_;rintro e g ⟨rfl,rfl⟩)|(go_at_call_of 90 (Value.int IntKind.i64 0);refine(I.out _ (qj _)).mono ?_;rintro e g ⟨rfl,rfl⟩)|(go_at_call_of 90 (Value.int IntKind.i64 1);refine(T.out _ (qj _)).mono ?_;rintro e g ⟨rfl,rfl⟩)|(go_at_call 79;refine(N.out _).mono ?_;rintro e g ⟨rfl,rfl⟩))
  all_goals go_ret
  all_goals exact⟨dc (by rw[O.out];rfl),y⟩
 ·have p:Hid (Ir.typed f x ks=(decide (Ir.kof ks x 0=33))):=by show _=_;rw[j.out _ h];rfl
  have I:Hid (∀g,Gr W g->Calls prog 90 #[.int .i64 0,.pointer (some ⟨w.heap.size+1,0,none⟩),.pointer (some ⟨w.heap.size+1+1,0,none⟩)] g (RS (.int .i64 (Ir.kof ks x 0)) g)):=fun g q=>E.out 0 g q (by have:=r h;omega);obtain⟨H,u⟩:=xJ (Ir.kof ks x 0);rw[u]at p I;rw[h]at D;clear h A z B C l r m t j J E G u
  go_enter func54, ntmps54
  go_wp2_with (first|(go_at_call 92;refine(D.out _).mono ?_;rintro e g ⟨rfl,rfl⟩)|(go_at_call 90;refine(I.out _ (qj _)).mono ?_;rintro e g ⟨rfl,rfl⟩));go_ret;exact⟨dc (by rw[p.out];rfl),y⟩
 ·have p:Hid (Ir.typed f x ks=(decide (Ir.kof ks x 0=33) && Ref.isMem (Ir.kof ks x 1))):=by show _=_;rw[j.out _ h];rfl
  have I:Hid (∀g,Gr W g->Calls prog 90 #[.int .i64 0,.pointer (some ⟨w.heap.size+1,0,none⟩),.pointer (some ⟨w.heap.size+1+1,0,none⟩)] g (RS (.int .i64 (Ir.kof ks x 0)) g)):=fun g q=>E.out 0 g q (by have:=m h;omega);have T:Hid (∀g,Gr W g->Calls prog 90 #[.int .i64 1,.pointer (some ⟨w.heap.size+1,0,none⟩),.pointer (some ⟨w.heap.size+1+1,0,none⟩)] g (RS (.int .i64 (Ir.kof ks x 1)) g)):=fun g q=>E.out 1 g q (by have:=m h;omega);obtain⟨H,u⟩:=xJ (Ir.kof ks x 0);rw[u]at p I;obtain⟨Q,M⟩:=xJ (Ir.kof ks x 1);rw[M]at p T;rw[h]at D;clear h A z B C l r m t j J E G u M;have N:Hid (∀g,Calls prog 93 #[.int .i64 Q] g (RS (.bool (Ref.isMem Q)) g)):=fun g=>fP Q g;obtain⟨R,F⟩:=xJ (Ref.isMem Q);rw[F]at p N;clear F;obtain⟨a0,h0⟩:∃a0,(H == 33)=a0:=⟨_,rfl⟩;have O:Hid (Ir.typed f x ks=(a0 && R)):=by show _=_;rw[p.out,<-h0];rfl
  cases a0;all_goals go_enter func54, ntmps54
  all_goals go_wp2_with (first|(go_at_call 92;refine(D.out _).mono ?_;rintro e g ⟨rfl,rfl⟩)|(go_at_call_of 90 (Value.int IntKind.i64 0);refine(I.out _ (qj _)).mono ?_;rintro e g ⟨rfl,rfl⟩)|(go_at_call_of 90 (Value.int IntKind.i64 1);refine(T.out _ (qj _)).mono ?_;rintro e g ⟨rfl,rfl⟩)|(go_at_call 93;refine(N.out _).mono ?_;rintro e g ⟨rfl,rfl⟩))
  all_goals go_ret
  all_goals exact⟨dc (by rw[O.out];rfl),y⟩
 ·have p:Hid (Ir.typed f x ks=Ir.each ks x x.width):=by show _=_;rw[j.out _ h];rfl
  have K:=dJ (G.out x.width);obtain⟨q,L⟩:=xJ (Ir.each ks x x.width);rw[L]at p K;rw[h]at D;clear h A z B C l r m t j J E G L
  go_enter func54, ntmps54
  go_wp2_with (first|(go_at_call 92;refine(D.out _).mono ?_;rintro e g ⟨rfl,rfl⟩)|(go_at_call 91;refine(K.out _ (qj _)).mono ?_;rintro e g ⟨rfl,rfl⟩));go_ret;exact⟨dc (by rw[p.out]),y⟩
 ·have p:=dJ (j.out _ h);rw[h]at D;clear h A z B C l r m t j J E G
  go_enter func54, ntmps54
  go_wp2_with (go_at_call 92;refine(D.out _).mono ?_;rintro e g ⟨rfl,rfl⟩);go_ret;exact⟨dc (by rw[p.out];rfl),y⟩
 ·have p:Hid (Ir.typed f x ks=(decide (Ir.kof ks x 0=1))):=by show _=_;rw[j.out _ h];rfl
  have I:Hid (∀g,Gr W g->Calls prog 90 #[.int .i64 0,.pointer (some ⟨w.heap.size+1,0,none⟩),.pointer (some ⟨w.heap.size+1+1,0,none⟩)] g (RS (.int .i64 (Ir.kof ks x 0)) g)):=fun g q=>E.out 0 g q (by have:=t h;omega);obtain⟨H,u⟩:=xJ (Ir.kof ks x 0);rw[u]at p I;rw[h]at D;clear h A z B C l r m t j J E G u
  go_enter func54, ntmps54
  go_wp2_with (first|(go_at_call 92;refine(D.out _).mono ?_;rintro e g ⟨rfl,rfl⟩)|(go_at_call 90;refine(I.out _ (qj _)).mono ?_;rintro e g ⟨rfl,rfl⟩));go_ret;exact⟨dc (by rw[p.out];rfl),y⟩
 ·have p:Hid (Ir.typed f x ks=Ir.each ks x f.ret):=by show _=_;rw[j.out _ h];rfl
  have K:=dJ (G.out f.ret);obtain⟨q,L⟩:=xJ (Ir.each ks x f.ret);rw[L]at p K;rw[h]at D;clear h A z B C l r m t j J E G L
  go_enter func54, ntmps54
  go_wp2_with (first|(go_at_call 92;refine(D.out _).mono ?_;rintro e g ⟨rfl,rfl⟩)|(go_at_call 91;refine(K.out _ (qj _)).mono ?_;rintro e g ⟨rfl,rfl⟩));go_ret;exact⟨dc (by rw[p.out]),y⟩
 ·have p:=dJ (j.out _ h);rw[h]at D;clear h A z B C l r m t j J E G
  go_enter func54, ntmps54
  go_wp2_with (go_at_call 92;refine(D.out _).mono ?_;rintro e g ⟨rfl,rfl⟩);go_ret;exact⟨dc (by rw[p.out];rfl),y⟩
