import Derived.Test.YtjkajidbdmbbaaaGreatN10
set_option linter.unusedSimpArgs false
set_option linter.unusedVariables false
set_option maxRecDepth 100000
set_option maxHeartbeats 16000000
open Go.Proofs.Tryz
namespace Go.Proofs.YtjkajidbdmbbaaaGreat
open Ref Rn Wd Ir Rf
open Go.RowKit
theorem pT (i:Nat)(args ks:List Int)(Bx Bk:Nat)(va vk:Value)(w:World)(hx:w.cell? ⟨Bx,3,none⟩=some va)(hk:w.cell? ⟨Bk,0,none⟩=some vk)(ha:IntsAt w.heap.size w va args)(hks:IntsAt w.heap.size w vk ks)(hi:i<args.length) :
  Calls prog 101 #[.int .i64 (i:Int),.pointer (some ⟨Bx,0,none⟩),.pointer (some ⟨Bk,0,none⟩)] w (RS (.int .i64 (Hk ks (args.getD i 0))) w):=by
 obtain⟨F,ca,rfl,H,I,a3⟩:=ha;obtain⟨G,L,rfl,M,N,r⟩:=hks;obtain⟨J,O,rfl,B,d⟩:=a3 (by omega);obtain⟨z,q⟩:∃z,args[i]?=some z:=⟨args[i],by simp[hi]⟩;have m:=d i z q;have l:Hid (args[i]?.getD 0=z):=by show _=_;simp[q]
 have D:(i:Int)<args.length:=by omega
 clear a3 d q hi;by_cases u:z<0
 ·go_enter func101, ntmps101
  go_wp2;go_ret;exact⟨dg (by rw[l.out,Hk,yr (by omega)]),rfl⟩
 ·by_cases A:(ks.length:Int)<=z
  ·clear r
   go_enter func101, ntmps101
   go_wp2;go_ret;exact⟨dg (by rw[l.out,Hk,yr (by omega)]),rfl⟩
  ·obtain⟨n,rfl⟩:=xZ (show 0<=z by omega);obtain⟨K,ok,rfl,C,g⟩:=r (by omega);obtain⟨y,p⟩:∃y,ks[n]?=some y:=⟨ks[n]'(by omega),xR (by omega)⟩;have j:=g n y p;have t:Hid (Hk ks (n:Int)=y):=by show _=_;rw[Hk,yt (by omega)];simp[List.getD,p]
   have E:(n:Int)<ks.length:=by omega
   clear r g p u A
   go_enter func101, ntmps101
   go_wp2;go_ret;exact⟨dg (by rw[xU,l.out,t.out]),rfl⟩
theorem pU (k:Int)(args ks:List Int)(Bx Bo:Nat)(va p1 p2:Value)(w:World)(hx:w.cell? ⟨Bx,3,none⟩=some va)(ho:w.cell? ⟨Bo,0,none⟩=some (.func (.func 101) #[] #[p1,p2]))(ha:IntsAt w.heap.size w va args)
  (H1:Hid (∀i:Nat,i<args.length->Calls prog 101 #[.int .i64 (i:Int),p1,p2] w (RS (.int .i64 (Hk ks (args.getD i 0))) w))) :
  Calls prog 102 #[.int .i64 k,.pointer (some ⟨Bx,0,none⟩),.pointer (some ⟨Bo,0,none⟩)] w (RS (.bool (args.all fun v=>decide (Hk ks v=k))) w):=by
 obtain⟨I,ca,rfl,J,K,-⟩:=ha
 go_enter func102, ntmps102
 go_wp2
 go_loop [5,9] (fun _ i=>∃j:Nat,j<=args.length/\i=.int .i64 j/\Hid ((args.all fun v=>decide (Hk ks v=k))=((args.drop j).all fun v=>decide (Hk ks v=k)))) (fun _ i=>args.length-(intOf i).toNat)
 case atStart=>exact⟨0,yI _,rfl,rfl⟩
 case round =>
  obtain⟨j,G,rfl,d⟩:=hrel;rcases hr:args.drop j with _|⟨z,r⟩
  ·have q:=dw hr G;have E:Hid ((args.all fun v=>decide (Hk ks v=k))=true):=by show _=_;rw[d.out,hr];rfl
   subst q;clear hr d;go_wp2;go_ret;exact⟨cZ (by rw[E.out]),rfl⟩
  ·obtain⟨t,D,l⟩:=dr hr;have m:=dJ (H1.out j t);have C:args.getD j 0=z:=by simp[List.getD,D]
   rw[C]at m;obtain⟨y,A⟩:=xJ (Hk ks z);have B:Hid ((args.all fun v=>decide (Hk ks v=k))=(decide (y=k) && r.all fun v=>decide (Hk ks v=k))):=by show _=_;rw[d.out,hr,List.all_cons,A]
   have p:Hid (args.drop (j+1)=r):=l;rw[A]at m;clear hr D l d A C;by_cases g:y=k
   ·have u:(y != k)=false:=by simp[g]
    have F:=dJ g;clear g;go_wp2_with (go_at_call 101;refine m.out.mono ?_;rintro e H ⟨rfl,rfl⟩);go_round;case rel=>exact⟨j+1,by omega,by go_num,by (show _=_;rw[B.out,p.out];simp[F.out])⟩
    case measure=>simp[intOf];omega
   ·have u:(y != k)=true:=by simp[g]
    go_wp2_with (go_at_call 101;refine m.out.mono ?_;rintro e H ⟨rfl,rfl⟩);go_ret;exact⟨cZ (by rw[B.out];simp[g]),rfl⟩
theorem df {V W:World}{B:Nat}(c:Array Value)(t:TypeId)(i:Nat)(g:Gr (V.alloc (.cells c t)) W)(hB:V.heap.size=B):W.cell? ⟨B,i,none⟩=c[i]?:=by subst hB;exact(g.cell V.heap.size i (by simp)).trans (yo _ _ _ _ _ _ (heap_alloc_new V _))
theorem pf (f:Fn)(x:Ins)(ks:List Int)(vp vs vb:Value)(Aa At Ak:Option Addr)(ca ct ck:Nat)(w:World)(ha:IntsAt w.heap.size w (.slice Aa x.args.length ca) x.args)(hk:IntsAt w.heap.size w (.slice Ak ks.length ck) ks)
  (hl:(ir x.op=3->2<=x.args.length)/\(ir x.op=4->3<=x.args.length)/\(ir x.op=5->1<=x.args.length)/\(ir x.op=6->1<=x.args.length)/\(ir x.op=11->2<=x.args.length)/\(ir x.op=12->1<=x.args.length)/\(ir x.op=13->2<=x.args.length)/\(ir x.op=16->1<=x.args.length)) :
  Calls prog 66 #[.agg #[vp,.int .i64 f.ret,vs,vb],.agg #[.int .i64 x.op,.int .i64 x.w,.int .i64 x.g,.slice Aa x.args.length ca,.int .u32 x.i,.slice At x.to.length ct],.slice Ak ks.length ck] w fun e w' =>
   e=.returned (.bool (DU f x ks))/\Gr w w':=by
 obtain⟨W,T⟩:=xJ ((((w.alloc (.cells #[vp,.int .i64 f.ret,vs,vb] 36)).alloc (.cells #[.int .i64 x.op,.int .i64 x.w,.int .i64 x.g,.slice Aa x.args.length ca,.int .u32 x.i,.slice At x.to.length ct] 68)).alloc (.cells #[.slice Ak ks.length ck] 33)).alloc (.cells #[.func (.func 101) #[] #[.pointer (some ⟨w.heap.size+1,0,none⟩),.pointer (some ⟨w.heap.size+1+1,0,none⟩)]] 96));have aa:=mf (((w.alloc (.cells #[vp,.int .i64 f.ret,vs,vb] 36)).alloc (.cells #[.int .i64 x.op,.int .i64 x.w,.int .i64 x.g,.slice Aa x.args.length ca,.int .u32 x.i,.slice At x.to.length ct] 68)).alloc (.cells #[.slice Ak ks.length ck] 33)) (.func (.func 101) #[] #[.pointer (some ⟨w.heap.size+1,0,none⟩),.pointer (some ⟨w.heap.size+1+1,0,none⟩)]) .nilFunc 96 (w.heap.size+1+1+1) (by simp) rfl;rw[T]at aa;have y:Gr w W:=by rw[<-T];exact((((yO w).alloc _).alloc _).alloc _).alloc _
 have g0:Gr (w.alloc (.cells #[vp,.int .i64 f.ret,vs,vb] 36)) W:=by rw[<-T];exact(((yO _).alloc _).alloc _).alloc _
 have g1:Gr ((w.alloc (.cells #[vp,.int .i64 f.ret,vs,vb] 36)).alloc (.cells #[.int .i64 x.op,.int .i64 x.w,.int .i64 x.g,.slice Aa x.args.length ca,.int .u32 x.i,.slice At x.to.length ct] 68)) W:=by rw[<-T];exact((yO _).alloc _).alloc _
 have g2:Gr (((w.alloc (.cells #[vp,.int .i64 f.ret,vs,vb] 36)).alloc (.cells #[.int .i64 x.op,.int .i64 x.w,.int .i64 x.g,.slice Aa x.args.length ca,.int .u32 x.i,.slice At x.to.length ct] 68)).alloc (.cells #[.slice Ak ks.length ck] 33)) W:=by rw[<-T];exact(yO _).alloc _
 have ab:W.heap.size=w.heap.size+4:=by rw[<-T];simp
 have g3:Gr W W:=yO _;have c1:W.cell? ⟨w.heap.size,1,none⟩=some (.int .i64 f.ret):=df _ _ 1 g0 rfl;have d0:W.cell? ⟨w.heap.size+1,0,none⟩=some (.int .i64 x.op):=df _ _ 0 g1 (by simp);have d1:W.cell? ⟨w.heap.size+1,1,none⟩=some (.int .i64 x.w):=df _ _ 1 g1 (by simp);have d3:W.cell? ⟨w.heap.size+1,3,none⟩=some (.slice Aa x.args.length ca):=df _ _ 3 g1 (by simp);have k0:W.cell? ⟨w.heap.size+1+1,0,none⟩=some (.slice Ak ks.length ck):=df _ _ 0 g2 (by simp)
 have o0:W.cell? ⟨w.heap.size+1+1+1,0,none⟩=some (.func (.func 101) #[] #[.pointer (some ⟨w.heap.size+1,0,none⟩),.pointer (some ⟨w.heap.size+1+1,0,none⟩)]):=by rw[<-T]at g3 ⊢;exact df _ _ 0 g3 (by simp)
 clear g0 g1 g2 g3
 have E:Hid (∀(i:Nat) g,Gr W g->i<x.args.length->Calls prog 101 #[.int .i64 (i:Int),.pointer (some ⟨w.heap.size+1,0,none⟩),.pointer (some ⟨w.heap.size+1+1,0,none⟩)] g (RS (.int .i64 (AT ks x i)) g)):=by intro i g q hi;exact pT i x.args ks _ _ _ _ g ((q.cell _ _ (by omega)).trans d3) ((q.cell _ _ (by omega)).trans k0) (ha.gr (y.trans q)) (hk.gr (y.trans q)) hi
 have G:Hid (∀(k:Int) g,Gr W g->Calls prog 102 #[.int .i64 k,.pointer (some ⟨w.heap.size+1,0,none⟩),.pointer (some ⟨w.heap.size+1+1+1,0,none⟩)] g (RS (.bool (Ee ks x k)) g)):=by intro k g q;exact pU k x.args ks _ _ _ _ _ g ((q.cell _ _ (by omega)).trans d3) ((q.cell _ _ (by omega)).trans o0) (ha.gr (y.trans q)) (fun i hi=>E.out i g q hi)
 have D:Hid (∀g,Calls prog 103 #[.int .i64 x.op] g (RS (.int .i64 (ir x.op)) g)):=fun g=>iL x.op g
 have J:Hid (ir x.op=0\/ir x.op=1\/ir x.op=2\/ir x.op=3\/ir x.op=4\/ir x.op=5\/ir x.op=6\/ir x.op=7\/ir x.op=8\/ir x.op=9\/ir x.op=10\/ir x.op=11\/ir x.op=12\/ir x.op=13\/ir x.op=14\/ir x.op=15\/ir x.op=16\/ir x.op=17\/ir x.op=18):=by have:=gy x.op;show _\/_;omega
 have j:Hid (∀c,ir x.op=c->DU f x ks=if c=2\/c=7\/c=8\/c=14 then Ee ks x x.w
     else if c=3 then yS (AT ks x 0) && Ee ks x (AT ks x 0)
     else if c=4 then decide (AT ks x 0=1) && decide (AT ks x 1=x.w) && decide (AT ks x 2=x.w)
     else if c=5 then yS (AT ks x 0) && decide (AT ks x 0<x.w)
     else if c=6 then yS (AT ks x 0) && decide (x.w<AT ks x 0)
     else if c=11 then decide (AT ks x 0=33) && yS (AT ks x 1)
     else if c=12 then decide (AT ks x 0=33)
     else if c=13 then decide (AT ks x 0=33) && Ea (AT ks x 1)
     else if c=16 then decide (AT ks x 0=1)
     else if c=17 then Ee ks x f.ret
     else true):=by
  intro c h;unfold DU;rw[h]
 obtain⟨A,z,B,C,l,r,m,t⟩:=hl;clear ha hk;rcases J.out with h|h|h|h|h|h|h|h|h|h|h|h|h|h|h|h|h|h|h
 ·have p:=dJ (j.out _ h);rw[h]at D;clear h A z B C l r m t j J E G
  go_enter func66, ntmps66
  go_wp2_with (go_at_call 103;refine(D.out _).mono ?_;rintro e g ⟨rfl,rfl⟩);go_ret;exact⟨cZ (by rw[p.out];rfl),y⟩
 ·have p:=dJ (j.out _ h);rw[h]at D;clear h A z B C l r m t j J E G
  go_enter func66, ntmps66
  go_wp2_with (go_at_call 103;refine(D.out _).mono ?_;rintro e g ⟨rfl,rfl⟩);go_ret;exact⟨cZ (by rw[p.out];rfl),y⟩
 ·have p:Hid (DU f x ks=Ee ks x x.w):=by show _=_;rw[j.out _ h];rfl
  have K:=dJ (G.out x.w);obtain⟨q,L⟩:=xJ (Ee ks x x.w);rw[L]at p K;rw[h]at D;clear h A z B C l r m t j J E G L
  go_enter func66, ntmps66
  go_wp2_with (first|(go_at_call 103;refine(D.out _).mono ?_;rintro e g ⟨rfl,rfl⟩)|(go_at_call 102;refine(K.out _ (yO _)).mono ?_;rintro e g ⟨rfl,rfl⟩));go_ret;exact⟨cZ (by rw[p.out]),y⟩
 ·have p:Hid (DU f x ks=(yS (AT ks x 0) && Ee ks x (AT ks x 0))):=by show _=_;rw[j.out _ h];rfl
  have I:Hid (∀g,Gr W g->Calls prog 101 #[.int .i64 0,.pointer (some ⟨w.heap.size+1,0,none⟩),.pointer (some ⟨w.heap.size+1+1,0,none⟩)] g (RS (.int .i64 (AT ks x 0)) g)):=fun g q=>E.out 0 g q (by have:=A h;omega);have K:=dJ (G.out (AT ks x 0));obtain⟨H,u⟩:=xJ (AT ks x 0);rw[u]at p I K;rw[h]at D;clear h A z B C l r m t j J E G u;obtain⟨q,L⟩:=xJ (Ee ks x H);rw[L]at p K;clear L;have N:Hid (∀g,Calls prog 90 #[.int .i64 H] g (RS (.bool (yS H)) g)):=fun g=>eo H g;obtain⟨R,F⟩:=xJ (yS H);rw[F]at p N;clear F;cases R;all_goals go_enter func66, ntmps66
  all_goals go_wp2_with (first|(go_at_call 103;refine(D.out _).mono ?_;rintro e g ⟨rfl,rfl⟩)|(go_at_call 101;refine(I.out _ (yO _)).mono ?_;rintro e g ⟨rfl,rfl⟩)|(go_at_call 90;refine(N.out _).mono ?_;rintro e g ⟨rfl,rfl⟩)|(go_at_call 102;refine(K.out _ (yO _)).mono ?_;rintro e g ⟨rfl,rfl⟩))
  all_goals go_ret
  all_goals exact⟨cZ (by rw[p.out];rfl),y⟩
 ·have p:Hid (DU f x ks=(decide (AT ks x 0=1) && decide (AT ks x 1=x.w) && decide (AT ks x 2=x.w))):=by show _=_;rw[j.out _ h];rfl
  have I:Hid (∀g,Gr W g->Calls prog 101 #[.int .i64 0,.pointer (some ⟨w.heap.size+1,0,none⟩),.pointer (some ⟨w.heap.size+1+1,0,none⟩)] g (RS (.int .i64 (AT ks x 0)) g)):=fun g q=>E.out 0 g q (by have:=z h;omega);have S:Hid (∀g,Gr W g->Calls prog 101 #[.int .i64 1,.pointer (some ⟨w.heap.size+1,0,none⟩),.pointer (some ⟨w.heap.size+1+1,0,none⟩)] g (RS (.int .i64 (AT ks x 1)) g)):=fun g q=>E.out 1 g q (by have:=z h;omega);have C2:Hid (∀g,Gr W g->Calls prog 101 #[.int .i64 2,.pointer (some ⟨w.heap.size+1,0,none⟩),.pointer (some ⟨w.heap.size+1+1,0,none⟩)] g (RS (.int .i64 (AT ks x 2)) g)):=fun g q=>E.out 2 g q (by have:=z h;omega);obtain⟨H,u⟩:=xJ (AT ks x 0);rw[u]at p I;obtain⟨Q,M⟩:=xJ (AT ks x 1);rw[M]at p S;obtain⟨y2,X⟩:=xJ (AT ks x 2);rw[X]at p C2;rw[h]at D;clear h A z B C l r m t j J E G u M X;obtain⟨a0,U⟩:∃a0,(H == 1)=a0:=⟨_,rfl⟩;obtain⟨Y,h1⟩:∃Y,(Q == x.w)=Y:=⟨_,rfl⟩;obtain⟨Z,h2⟩:∃Z,(y2 == x.w)=Z:=⟨_,rfl⟩;have O:Hid (DU f x ks=(a0 && Y && Z)):=by show _=_;rw[p.out,<-U,<-h1,<-h2];rfl
  cases a0;all_goals cases Y
  all_goals cases Z
  all_goals go_enter func66, ntmps66
  all_goals go_wp2_with (go_at_call 103;refine(D.out _).mono ?_;rintro e g ⟨rfl,rfl⟩)
  all_goals go_quiet (first|fail|(go_at_call_of 101 (Value.int IntKind.i64 0);exact dq (I.out _ ((yO _).drewN _)))|(go_at_call_of 101 (Value.int IntKind.i64 1);exact dq (S.out _ ((yO _).drewN _)))|(go_at_call_of 101 (Value.int IntKind.i64 2);exact dq (C2.out _ ((yO _).drewN _))))
  all_goals go_wp2
  all_goals go_ret
  all_goals exact⟨cZ (by rw[O.out];rfl),y.drewN _⟩
 ·have p:Hid (DU f x ks=(yS (AT ks x 0) && decide (AT ks x 0<x.w))):=by show _=_;rw[j.out _ h];rfl
  have I:Hid (∀g,Gr W g->Calls prog 101 #[.int .i64 0,.pointer (some ⟨w.heap.size+1,0,none⟩),.pointer (some ⟨w.heap.size+1+1,0,none⟩)] g (RS (.int .i64 (AT ks x 0)) g)):=fun g q=>E.out 0 g q (by have:=B h;omega);obtain⟨H,u⟩:=xJ (AT ks x 0);rw[u]at p I;rw[h]at D;clear h A z B C l r m t j J E G u;have N:Hid (∀g,Calls prog 90 #[.int .i64 H] g (RS (.bool (yS H)) g)):=fun g=>eo H g;obtain⟨R,F⟩:=xJ (yS H);rw[F]at p N;clear F;obtain⟨d,hd⟩:∃d,decide (H<x.w)=d:=⟨_,rfl⟩;rw[hd]at p;cases R;all_goals cases d
  all_goals go_enter func66, ntmps66
  all_goals go_wp2_with (go_at_call 103;refine(D.out _).mono ?_;rintro e g ⟨rfl,rfl⟩)
  all_goals go_quiet (first|fail|(go_at_call 101;exact dq (I.out _ ((yO _).drewN _)))|(go_at_call 90;exact dq (N.out _)))
  all_goals go_wp2
  all_goals go_ret
  all_goals exact⟨cZ (by rw[p.out];rfl),y.drewN _⟩
 ·have p:Hid (DU f x ks=(yS (AT ks x 0) && decide (x.w<AT ks x 0))):=by show _=_;rw[j.out _ h];rfl
  have I:Hid (∀g,Gr W g->Calls prog 101 #[.int .i64 0,.pointer (some ⟨w.heap.size+1,0,none⟩),.pointer (some ⟨w.heap.size+1+1,0,none⟩)] g (RS (.int .i64 (AT ks x 0)) g)):=fun g q=>E.out 0 g q (by have:=C h;omega);obtain⟨H,u⟩:=xJ (AT ks x 0);rw[u]at p I;rw[h]at D;clear h A z B C l r m t j J E G u;have N:Hid (∀g,Calls prog 90 #[.int .i64 H] g (RS (.bool (yS H)) g)):=fun g=>eo H g;obtain⟨R,F⟩:=xJ (yS H);rw[F]at p N;clear F;obtain⟨d,hd⟩:∃d,decide (x.w<H)=d:=⟨_,rfl⟩;rw[hd]at p;cases R;all_goals cases d
  all_goals go_enter func66, ntmps66
  all_goals go_wp2_with (go_at_call 103;refine(D.out _).mono ?_;rintro e g ⟨rfl,rfl⟩)
  all_goals go_quiet (first|fail|(go_at_call 101;exact dq (I.out _ ((yO _).drewN _)))|(go_at_call 90;exact dq (N.out _)))
  all_goals go_wp2
  all_goals go_ret
  all_goals exact⟨cZ (by rw[p.out];rfl),y.drewN _⟩
 ·have p:Hid (DU f x ks=Ee ks x x.w):=by show _=_;rw[j.out _ h];rfl
  have K:=dJ (G.out x.w);obtain⟨q,L⟩:=xJ (Ee ks x x.w);rw[L]at p K;rw[h]at D;clear h A z B C l r m t j J E G L
  go_enter func66, ntmps66
  go_wp2_with (first|(go_at_call 103;refine(D.out _).mono ?_;rintro e g ⟨rfl,rfl⟩)|(go_at_call 102;refine(K.out _ (yO _)).mono ?_;rintro e g ⟨rfl,rfl⟩));go_ret;exact⟨cZ (by rw[p.out]),y⟩
 ·have p:Hid (DU f x ks=Ee ks x x.w):=by show _=_;rw[j.out _ h];rfl
  have K:=dJ (G.out x.w);obtain⟨q,L⟩:=xJ (Ee ks x x.w);rw[L]at p K;rw[h]at D;clear h A z B C l r m t j J E G L
  go_enter func66, ntmps66
  go_wp2_with (first|(go_at_call 103;refine(D.out _).mono ?_;rintro e g ⟨rfl,rfl⟩)|(go_at_call 102;refine(K.out _ (yO _)).mono ?_;rintro e g ⟨rfl,rfl⟩));go_ret;exact⟨cZ (by rw[p.out]),y⟩
 ·have p:=dJ (j.out _ h);rw[h]at D;clear h A z B C l r m t j J E G
  go_enter func66, ntmps66
  go_wp2_with (go_at_call 103;refine(D.out _).mono ?_;rintro e g ⟨rfl,rfl⟩);go_ret;exact⟨cZ (by rw[p.out];rfl),y⟩
 ·have p:=dJ (j.out _ h);rw[h]at D;clear h A z B C l r m t j J E G
  go_enter func66, ntmps66
  go_wp2_with (go_at_call 103;refine(D.out _).mono ?_;rintro e g ⟨rfl,rfl⟩);go_ret;exact⟨cZ (by rw[p.out];rfl),y⟩
 ·have p:Hid (DU f x ks=(decide (AT ks x 0=33) && yS (AT ks x 1))):=by show _=_;rw[j.out _ h];rfl
  have I:Hid (∀g,Gr W g->Calls prog 101 #[.int .i64 0,.pointer (some ⟨w.heap.size+1,0,none⟩),.pointer (some ⟨w.heap.size+1+1,0,none⟩)] g (RS (.int .i64 (AT ks x 0)) g)):=fun g q=>E.out 0 g q (by have:=l h;omega);have S:Hid (∀g,Gr W g->Calls prog 101 #[.int .i64 1,.pointer (some ⟨w.heap.size+1,0,none⟩),.pointer (some ⟨w.heap.size+1+1,0,none⟩)] g (RS (.int .i64 (AT ks x 1)) g)):=fun g q=>E.out 1 g q (by have:=l h;omega);obtain⟨H,u⟩:=xJ (AT ks x 0);rw[u]at p I;obtain⟨Q,M⟩:=xJ (AT ks x 1);rw[M]at p S;rw[h]at D;clear h A z B C l r m t j J E G u M;have N:Hid (∀g,Calls prog 90 #[.int .i64 Q] g (RS (.bool (yS Q)) g)):=fun g=>eo Q g;obtain⟨R,F⟩:=xJ (yS Q);rw[F]at p N;clear F;obtain⟨a0,U⟩:∃a0,(H == 33)=a0:=⟨_,rfl⟩;have O:Hid (DU f x ks=(a0 && R)):=by show _=_;rw[p.out,<-U];rfl
  cases a0;all_goals go_enter func66, ntmps66
  all_goals go_wp2_with (first|(go_at_call 103;refine(D.out _).mono ?_;rintro e g ⟨rfl,rfl⟩)|(go_at_call_of 101 (Value.int IntKind.i64 0);refine(I.out _ (yO _)).mono ?_;rintro e g ⟨rfl,rfl⟩)|(go_at_call_of 101 (Value.int IntKind.i64 1);refine(S.out _ (yO _)).mono ?_;rintro e g ⟨rfl,rfl⟩)|(go_at_call 90;refine(N.out _).mono ?_;rintro e g ⟨rfl,rfl⟩))
  all_goals go_ret
  all_goals exact⟨cZ (by rw[O.out];rfl),y⟩
 ·have p:Hid (DU f x ks=(decide (AT ks x 0=33))):=by show _=_;rw[j.out _ h];rfl
  have I:Hid (∀g,Gr W g->Calls prog 101 #[.int .i64 0,.pointer (some ⟨w.heap.size+1,0,none⟩),.pointer (some ⟨w.heap.size+1+1,0,none⟩)] g (RS (.int .i64 (AT ks x 0)) g)):=fun g q=>E.out 0 g q (by have:=r h;omega);obtain⟨H,u⟩:=xJ (AT ks x 0);rw[u]at p I;rw[h]at D;clear h A z B C l r m t j J E G u
  go_enter func66, ntmps66
  go_wp2_with (first|(go_at_call 103;refine(D.out _).mono ?_;rintro e g ⟨rfl,rfl⟩)|(go_at_call 101;refine(I.out _ (yO _)).mono ?_;rintro e g ⟨rfl,rfl⟩));go_ret;exact⟨cZ (by rw[p.out];rfl),y⟩
 ·have p:Hid (DU f x ks=(decide (AT ks x 0=33) && Ea (AT ks x 1))):=by show _=_;rw[j.out _ h];rfl
  have I:Hid (∀g,Gr W g->Calls prog 101 #[.int .i64 0,.pointer (some ⟨w.heap.size+1,0,none⟩),.pointer (some ⟨w.heap.size+1+1,0,none⟩)] g (RS (.int .i64 (AT ks x 0)) g)):=fun g q=>E.out 0 g q (by have:=m h;omega);have S:Hid (∀g,Gr W g->Calls prog 101 #[.int .i64 1,.pointer (some ⟨w.heap.size+1,0,none⟩),.pointer (some ⟨w.heap.size+1+1,0,none⟩)] g (RS (.int .i64 (AT ks x 1)) g)):=fun g q=>E.out 1 g q (by have:=m h;omega);obtain⟨H,u⟩:=xJ (AT ks x 0);rw[u]at p I;obtain⟨Q,M⟩:=xJ (AT ks x 1);rw[M]at p S;rw[h]at D;clear h A z B C l r m t j J E G u M;have N:Hid (∀g,Calls prog 104 #[.int .i64 Q] g (RS (.bool (Ea Q)) g)):=fun g=>il Q g;obtain⟨R,F⟩:=xJ (Ea Q);rw[F]at p N;clear F;obtain⟨a0,U⟩:∃a0,(H == 33)=a0:=⟨_,rfl⟩;have O:Hid (DU f x ks=(a0 && R)):=by show _=_;rw[p.out,<-U];rfl
  cases a0;all_goals go_enter func66, ntmps66
  all_goals go_wp2_with (first|(go_at_call 103;refine(D.out _).mono ?_;rintro e g ⟨rfl,rfl⟩)|(go_at_call_of 101 (Value.int IntKind.i64 0);refine(I.out _ (yO _)).mono ?_;rintro e g ⟨rfl,rfl⟩)|(go_at_call_of 101 (Value.int IntKind.i64 1);refine(S.out _ (yO _)).mono ?_;rintro e g ⟨rfl,rfl⟩)|(go_at_call 104;refine(N.out _).mono ?_;rintro e g ⟨rfl,rfl⟩))
  all_goals go_ret
  all_goals exact⟨cZ (by rw[O.out];rfl),y⟩
 ·have p:Hid (DU f x ks=Ee ks x x.w):=by show _=_;rw[j.out _ h];rfl
  have K:=dJ (G.out x.w);obtain⟨q,L⟩:=xJ (Ee ks x x.w);rw[L]at p K;rw[h]at D;clear h A z B C l r m t j J E G L
  go_enter func66, ntmps66
  go_wp2_with (first|(go_at_call 103;refine(D.out _).mono ?_;rintro e g ⟨rfl,rfl⟩)|(go_at_call 102;refine(K.out _ (yO _)).mono ?_;rintro e g ⟨rfl,rfl⟩));go_ret;exact⟨cZ (by rw[p.out]),y⟩
 ·have p:=dJ (j.out _ h);rw[h]at D;clear h A z B C l r m t j J E G
  go_enter func66, ntmps66
  go_wp2_with (go_at_call 103;refine(D.out _).mono ?_;rintro e g ⟨rfl,rfl⟩);go_ret;exact⟨cZ (by rw[p.out];rfl),y⟩
 ·have p:Hid (DU f x ks=(decide (AT ks x 0=1))):=by show _=_;rw[j.out _ h];rfl
  have I:Hid (∀g,Gr W g->Calls prog 101 #[.int .i64 0,.pointer (some ⟨w.heap.size+1,0,none⟩),.pointer (some ⟨w.heap.size+1+1,0,none⟩)] g (RS (.int .i64 (AT ks x 0)) g)):=fun g q=>E.out 0 g q (by have:=t h;omega);obtain⟨H,u⟩:=xJ (AT ks x 0);rw[u]at p I;rw[h]at D;clear h A z B C l r m t j J E G u
  go_enter func66, ntmps66
  go_wp2_with (first|(go_at_call 103;refine(D.out _).mono ?_;rintro e g ⟨rfl,rfl⟩)|(go_at_call 101;refine(I.out _ (yO _)).mono ?_;rintro e g ⟨rfl,rfl⟩));go_ret;exact⟨cZ (by rw[p.out];rfl),y⟩
 ·have p:Hid (DU f x ks=Ee ks x f.ret):=by show _=_;rw[j.out _ h];rfl
  have K:=dJ (G.out f.ret);obtain⟨q,L⟩:=xJ (Ee ks x f.ret);rw[L]at p K;rw[h]at D;clear h A z B C l r m t j J E G L
  go_enter func66, ntmps66
  go_wp2_with (first|(go_at_call 103;refine(D.out _).mono ?_;rintro e g ⟨rfl,rfl⟩)|(go_at_call 102;refine(K.out _ (yO _)).mono ?_;rintro e g ⟨rfl,rfl⟩));go_ret;exact⟨cZ (by rw[p.out]),y⟩
 ·have p:=dJ (j.out _ h);rw[h]at D;clear h A z B C l r m t j J E G
  go_enter func66, ntmps66
  go_wp2_with (go_at_call 103;refine(D.out _).mono ?_;rintro e g ⟨rfl,rfl⟩);go_ret;exact⟨cZ (by rw[p.out];rfl),y⟩
