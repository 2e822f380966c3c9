import Derived.Test.YtjkajidbdmbbaaaGreatN03
set_option linter.unusedSimpArgs false
set_option linter.unusedVariables false
set_option maxRecDepth 100000
set_option maxHeartbeats 16000000
open Go.Proofs.Tryz
namespace Go.Proofs.YtjkajidbdmbbaaaGreat
open Ref Rn Wd Ir Rf
variable {a:Act}{ops:Array Oper}{Q:Exit->Act->World->Prop}{z:Int}{l:List Int}{rest:List Oper}{k:Nat}{o:Oper}{w:World}
section
open Go.RowKit
theorem fK (v:Value)(f:Fn)(n:Nat)(w:World)(hf:FnAt w.heap.size w v f)(hn:n<=f.b.length)(hs:f.b.length<=100000) :
  Calls prog 128 #[v,.int .i64 n] w (RG (.int .i64 (yZ f n)) w):=by
 obtain⟨vp,vs,vb,rfl,M,r,F⟩:=hf;obtain⟨A,E,rfl,O,Q,q⟩:=M;obtain⟨B,cs,rfl,R,S,t⟩:=r;obtain⟨z,D,rfl,G,H,j⟩:=F;clear q t;have m:Gr w (w.alloc (.cells #[.slice A f.p.length E,.int .i64 f.ret,.slice B f.s.length cs,.slice z f.b.length D] 36)):=(yO _).alloc _
 go_enter func128, ntmps128
 go_wp2
 go_loop [5,6] (fun s b=>∃k N:Nat,k<=n/\b=.int .i64 k/\s=.int .i64 N/\N<=17592186044416*(k+1)/\Hid (N=yZ f k)) (fun _ b=>n-(intOf b).toNat)
 case atStart=>exact⟨0,_,yI _,rfl,rfl,by omega,by show _=_;simp[yZ,AX]⟩
 case round =>
  obtain⟨k,N,X,rfl,rfl,hN,g⟩:=hrel;by_cases L:k<n
  ·obtain⟨U,Z,rfl,I,d⟩:=j (by omega);obtain⟨l,hl⟩:∃l,f.b[k]?=some l:=⟨f.b[k],by simp[show k<f.b.length by omega]⟩;obtain⟨u,Y,y⟩:=d k l hl;obtain⟨T,W,rfl,J,K,p⟩:=y
   have C:Hid (yZ f (k+1)=yZ f k+l.length):=by show _=_;unfold yZ;rw[FF _ _ _ hl];omega
   clear hl d j p;go_wp2;go_round;case rel=>exact⟨k+1,N+l.length,by omega,by go_num,by go_num,by omega,by show _=_;rw[C.out,g.out]⟩
   case measure=>simp[intOf];omega
  ·obtain rfl:k=n:=by omega
   go_wp2;go_ret;exact⟨dg (by rw[g.out]),m⟩
theorem qE (v:Value)(f:Fn)(w:World)(hf:FnAt w.heap.size w v f)(hs:f.b.length<=100000) :
  Calls prog 143 #[v] w (RG (.int .i64 (An f)) w):=by
 have g:=hf;obtain⟨vp,vs,vb,rfl,E,m,A⟩:=hf;obtain⟨r,y,rfl,F,G,l⟩:=E;obtain⟨t,cs,rfl,I,J,p⟩:=m;obtain⟨q,u,rfl,B,D,j⟩:=A;clear l p j;have d:Gr w (w.alloc (.cells #[.slice r f.p.length y,.int .i64 f.ret,.slice t f.s.length cs,.slice q f.b.length u] 36)):=(yO _).alloc _;have C:=fK _ f f.b.length _ (g.gr d) (yJ _) hs;have H:=dJ C;clear C g
 go_enter func143, ntmps143
 go_wp2_with fail;refine H.out.mono ?_;rintro e K ⟨rfl,z⟩;go_wp2_with fail;go_ret;exact⟨rfl,d.trans z⟩
theorem mj (v:Value)(f:Fn)(z:Int)(w:World)(hf:FnAt w.heap.size w v f)(hs:f.b.length<=100000)(hz1:-9223372036854775808<=z)(hz2:z<=9223372036854775807) :
  Calls prog 144 #[v,.int .i64 z] w (RG (.tuple #[.int .i64 (BR f z).1,.int .i64 (BR f z).2]) w):=by
 obtain⟨vp,vs,vb,rfl,X,C,M⟩:=hf;obtain⟨G,J,rfl,Y,Z,B⟩:=X;obtain⟨H,cs,rfl,aa,ab,D⟩:=C;obtain⟨F,I,rfl,O,Q,q⟩:=M;clear B D;have p:Gr w (w.alloc (.cells #[.slice G f.p.length J,.int .i64 f.ret,.slice H f.s.length cs,.slice F f.b.length I] 36)):=(yO _).alloc _
 go_enter func144, ntmps144
 go_wp2
 go_loop [6,7] (fun s b=>∃k N:Nat,k<=f.b.length/\b=.int .i64 k/\s=.int .i64 N/\N<=17592186044416*(k+1)/\Hid (BR f z=DN z (f.b.drop k) k N)) (fun _ b=>f.b.length-(intOf b).toNat)
 case atStart=>exact⟨0,_,yI _,rfl,rfl,by omega,by show _=_;simp[BR]⟩
 case round =>
  obtain⟨k,N,S,rfl,rfl,hN,d⟩:=hrel;rcases hr:f.b.drop k with _|⟨l,r⟩
  ·have y:=dw hr S;subst y;have j:Hid (BR f z=(-1,-1)):=by show _=_;rw[d.out,hr];rfl
   clear hr d;go_wp2;go_ret2;exact⟨dv (by rw[j.out];rfl),p⟩
  ·obtain⟨W,hl,t⟩:=dr hr;obtain⟨bb,ob,rfl,R,g⟩:=q (by omega);obtain⟨u,hu,E⟩:=g k l hl;obtain⟨Al,cl,rfl,T,U,A⟩:=E
   have j:Hid (BR f z=if (N:Int)<=z/\z<N+l.length then ((k:Int),z-N) else DN z r (k+1) (N+l.length)):=by show _=_;rw[d.out,hr];rfl
   have m:Hid (f.b.drop (k+1)=r):=t;clear hr hl t d g q A;by_cases K:(N:Int)<=z
   ·by_cases L:z<N+l.length
    ·go_wp2;go_ret2;exact⟨dv (by rw[j.out,yr ⟨K,L⟩];rfl),p⟩
    ·go_wp2;go_round;case rel=>exact⟨k+1,N+l.length,by omega,by go_num,by go_num,by omega,by show _=_;rw[j.out,yt (by omega),m.out]⟩
     case measure=>simp[intOf];omega
   ·go_wp2;go_round;case rel=>exact⟨k+1,N+l.length,by omega,by go_num,by go_num,by omega,by show _=_;rw[j.out,yt (by omega),m.out]⟩
    case measure=>simp[intOf];omega
theorem tM (v:Value)(f:Fn)(z:Int)(w:World)(hf:FnAt w.heap.size w v f)(hs:f.b.length<=100000)(hz1:-9223372036854775808<=z)(hz2:z<=9223372036854775807) :
  Calls prog 113 #[v,.int .i64 z] w (RG (.int .i64 (Ref.kind f z)) w):=by
 have p:=hf;obtain⟨vp,vs,vb,rfl,hp,T,hb⟩:=hf;obtain⟨Ap,cp,rfl,ai,aj,r⟩:=hp;obtain⟨As,cs,rfl,ak,al,U⟩:=T;obtain⟨Ab,cb,rfl,ab,ac,q⟩:=hb;clear U;have d:Gr w (w.alloc (.cells #[.slice Ap f.p.length cp,.int .i64 f.ret,.slice As f.s.length cs,.slice Ab f.b.length cb] 36)):=(yO _).alloc _;by_cases hz:z<0
 ·clear r q p
  go_enter func113, ntmps113
  go_wp2;go_ret;exact⟨dg (by unfold Ref.kind;rw[yr (by omega)]),d⟩
 ·have C:=qE _ f _ (p.gr d) hs;have J:=dJ C;clear C;by_cases hc:(An f:Int)<=z
  ·clear r q p
   go_enter func113, ntmps113
   go_wp2_with (go_at_call 143;refine J.out.mono ?_;rintro e t ⟨rfl,g⟩);go_ret;exact⟨dg (by unfold Ref.kind;rw[yr (by omega)]),d.trans g⟩
  ·by_cases hp:z<f.p.length
   ·obtain⟨bp,op,rfl,O,G⟩:=r (by omega);obtain⟨n,rfl⟩:=xZ (show 0<=z by omega);obtain⟨y,Z⟩:∃y,f.p[n]?=some y:=⟨f.p[n]'(by omega),by simp[show n<f.p.length by omega]⟩;have E:=G n y Z;have hk:Ref.kind f n=y:=by unfold Ref.kind;rw[yt (by omega),yr (by omega)];simp[Z]
    have L:=dJ hk;have z0:(0:Int)<=n:=by omega
    have z1:n<f.p.length:=by omega
    clear hk Z G r q p
    go_enter func113, ntmps113
    go_wp2_with (go_at_call 143;refine J.out.mono ?_;rintro e t ⟨rfl,g⟩;have B:=g.cell w.heap.size 0 (by simp);have D:=g.cell w.heap.size 3 (by simp);have ad:=(g.cell bp (op+n) (by simp;omega)).trans ((d.cell bp (op+n) O).trans E);simp at B D);go_ret;exact⟨dg (by rw[L.out]),d.trans g⟩
   ·obtain⟨j,i,l,x,X,hl,I,-⟩:=Gu f z (by omega) (by omega);obtain⟨af,-⟩:=xS.1 hl;obtain⟨ae,-⟩:=xS.1 I;obtain⟨bb,ob,rfl,M,m⟩:=q (by omega);obtain⟨u,hu,W⟩:=m j l hl;obtain⟨Al,cl,rfl,ag,ah,H⟩:=W;obtain⟨bl,ol,rfl,N,F⟩:=H (by omega);obtain⟨va,vt,-,Y,-,-,-,-,-,-⟩:=F i x I
    have L:Hid (Ref.kind f z=x.w):=by show _=_;unfold Ref.kind;rw[yt (by omega),yt (by omega),X];simp[Ky,hl,I]
    have K:Hid (∀t,Gr w t->Calls prog 144 #[.agg #[.slice Ap f.p.length cp,.int .i64 f.ret,.slice As f.s.length cs,.slice (some ⟨bb,ob,none⟩) f.b.length cb],.int .i64 z] t (RG (.tuple #[.int .i64 j,.int .i64 i]) t)):=fun t g=>by have:=mj _ f z t (p.gr g) hs hz1 hz2;rw[X]at this;exact this
    clear X hl I r q p m H F
    go_enter func113, ntmps113
    go_wp2_with (first|(go_at_call 143;refine J.out.mono ?_;rintro e t ⟨rfl,g⟩;have B:=g.cell w.heap.size 0 (by simp);have Q:=g.cell w.heap.size 1 (by simp);have R:=g.cell w.heap.size 2 (by simp);have D:=g.cell w.heap.size 3 (by simp);simp at B Q R D)|(go_at_call 144;refine(K.out _ (d.trans g)).mono ?_;rintro e w2 ⟨rfl,g2⟩;have A:=g.trans g2;have S:=A.cell w.heap.size 3 (by simp);simp at S;have am:=((d.trans A).cell bb (ob+j) M).trans hu;have aa:=((d.trans A).cell bl (ol+i*6+1) N).trans Y))
    go_ret;exact⟨dg (by rw[L.out]),(d.trans g).trans g2⟩
theorem tO {g:Int->Int}(h:l[k]?=some z):(l.take (k+1)).map g=(l.take k).map g++[g z]:=by obtain⟨d,e⟩:=xS.1 h;rw[yx d,e];simp
theorem tl (f:Fn)(x:Ins)(h:zm f x=true) :
  (x.op=14\/x.op=25\/x.op=27->x.args.length=2)/\(x.op=15->x.args.length=3)/\(x.op=16\/x.op=17\/x.op=18\/x.op=26\/x.op=30->x.args.length=1):=by
 have d:Dj (zY f x) x=true:=by unfold zm at h;simp only[yu]at h;exact h.1.1.2
 refine⟨fun h=>?_,fun h=>?_,fun h=>?_⟩
 ·rcases h with h|h|h<;>simp[Dj,zY,h]at d<;>omega
 ·simp[Dj,zY,h]at d;omega
 ·rcases h with h|h|h|h|h<;>simp[Dj,zY,h]at d<;>omega
theorem sN (h:l.length=2):∃a b,l=[a,b]:=by match l,h with|[a,b],_=>exact⟨a,b,rfl⟩
theorem ut (h:l.length=3):∃a b c,l=[a,b,c]:=by match l,h with|[a,b,c],_=>exact⟨a,b,c,rfl⟩
theorem lR (h:l.length=1):∃a,l=[a]:=by match l,h with|[a],_=>exact⟨a,rfl⟩
theorem sP (f:Fn)(x:Ins)(v vx:Value)(w:World)(hf:FnAt w.heap.size w v f)(hx:wQ w.heap.size w vx x)(hs:f.b.length<=100000)(hlen:x.args.length<=100000)
  (hwf:Hid (∀z∈x.args,-9223372036854775808<=z/\z<=9223372036854775807)) (hcnt:Hid (zm f x=true)) :
  Calls prog 71 #[v,vx] w (RG (.bool (Aj f x)) w):=by
 have ac:=hf;obtain⟨vp,vs,vb,rfl,hp,⟨As,cs,rfl,-,-,-⟩,⟨Ab,cb,rfl,-,-,-⟩⟩:=hf;obtain⟨Ap,cp,rfl,-,-,-⟩:=hp;obtain⟨va,vt,rfl,⟨Aa,ca,rfl,-,aG,Z⟩,⟨At,ct,rfl,-,aJ,-⟩⟩:=hx;obtain⟨i0,hi,an,ao,ap⟩:=info_parts dK;obtain⟨W,hW⟩:=xJ ((w.alloc (.cells #[.slice Ap f.p.length cp,.int .i64 f.ret,.slice As f.s.length cs,.slice Ab f.b.length cb] 36)).alloc (.cells #[.int .i64 x.op,.int .i64 x.w,.int .i64 x.g,.slice Aa x.args.length ca,.int .u32 x.i,.slice At x.to.length ct] 68));have M:Gr w W:=by rw[<-hW];exact((yO w).alloc _).alloc _
 have aF:W.heap.size=w.heap.size+2:=by rw[<-hW];simp
 have Q:∀o,W.cell? ⟨w.heap.size,o,none⟩=(#[.slice Ap f.p.length cp,.int .i64 f.ret,.slice As f.s.length cs,.slice Ab f.b.length cb]:Array Value)[o]?:=by intro o;rw[<-hW];exact yo _ _ _ _ _ _ (heap_alloc2_old w _ _)
 have b1:∀o,W.cell? ⟨w.heap.size+1,o,none⟩=(#[.int .i64 x.op,.int .i64 x.w,.int .i64 x.g,.slice Aa x.args.length ca,.int .u32 x.i,.slice At x.to.length ct]:Array Value)[o]?:=by intro o;rw[<-hW];exact yo _ _ _ _ _ _ (heap_alloc2_new w _ _)
 have HT:Hid (Aj f x=(x.args.all (fun v=>decide (0<=Ref.kind f v)) && AE f x (x.args.map (Ref.kind f)))):=rfl;unfold dj
 go_enter func71, ntmps71
 go_wp2;have HW:=dJ hW;clear hW
 go_loopw [5,6] (fun s i wr=>∃ys:List Int,ys.length<=x.args.length/\i=.int .i64 ys.length/\Own1 W.heap.size 3 wr s (ys.map (Value.int .i64))/\Gr W wr/\Hid (ys=(x.args.take ys.length).map (Ref.kind f))/\Hid (∀y∈ys,0<=y)) (fun _ i _=>x.args.length-(intOf i).toNat)
 case atStart=>exact⟨[],yI _,rfl,Own1.nil _ _ _,yO _,by show _=_;simp,fun y hy=>by simp at hy⟩
 case round =>
  obtain⟨ys,hk,rfl,p,t,af,N⟩:=hrel;have c0:=(t.cell w.heap.size 0 (by omega)).trans (Q 0);have c1:=(t.cell w.heap.size 1 (by omega)).trans (Q 1);have c2:=(t.cell w.heap.size 2 (by omega)).trans (Q 2);have c3:=(t.cell w.heap.size 3 (by omega)).trans (Q 3);have d3:=(t.cell (w.heap.size+1) 3 (by omega)).trans (b1 3);simp at c0 c1 c2 c3 d3;by_cases ad:ys.length<x.args.length
  ·obtain⟨ba,oa,rfl,ah,ab⟩:=Z (by omega);obtain⟨z,hz⟩:∃z,x.args[ys.length]?=some z:=⟨x.args[ys.length],by simp[ad]⟩;have al:=((M.trans t).cell ba (oa+ys.length) ah).trans (ab ys.length z hz);have aj:=hwf.out z (xT hz);have HS:Hid (ys++[Ref.kind f z]=(x.args.take (ys.length+1)).map (Ref.kind f)):=by show _=_;rw[tO hz,<-af.out]
   have HZ:Hid (z∈x.args):=xT hz
   have HC:Hid (∀T,Gr wr T->Calls prog 113 #[.agg #[.slice Ap f.p.length cp,.int .i64 f.ret,.slice As f.s.length cs,.slice Ab f.b.length cb],.int .i64 z] T (RG (.int .i64 (Ref.kind f z)) T)):=fun T g1 =>
    tM _ f z T (ac.gr ((M.trans t).trans g1)) hs aj.1 aj.2
   have z0:(0:Int)<=ys.length:=by omega
   have z1:(ys.length:Int)<(x.args.length:Int):=by omega
   have aI:=t.size;have kp:Hid (∀w',Gr W w'->(w'.cell? ⟨w.heap.size,0,none⟩=some (.slice Ap f.p.length cp)/\w'.cell? ⟨w.heap.size,1,none⟩=some (.int .i64 f.ret)/\w'.cell? ⟨w.heap.size,2,none⟩=some (.slice As f.s.length cs)/\w'.cell? ⟨w.heap.size,3,none⟩=some (.slice Ab f.b.length cb)/\w'.cell? ⟨w.heap.size+1,3,none⟩=some (.slice (some ⟨ba,oa,none⟩) x.args.length ca)/\w'.cell? ⟨ba,oa+ys.length,none⟩=some (.int .i64 z))):=fun w' g=>⟨(g.cell w.heap.size 0 (by omega)).trans (Q 0),(g.cell w.heap.size 1 (by omega)).trans (Q 1),(g.cell w.heap.size 2 (by omega)).trans (Q 2),(g.cell w.heap.size 3 (by omega)).trans (Q 3),(g.cell (w.heap.size+1) 3 (by omega)).trans (b1 3),((M.trans g).cell ba (oa+ys.length) ah).trans (ab ys.length z hz)⟩;clear ab Z hz ac Q b1;go_wp2
   go_region_held3 (fun w'=>w'.cell? ⟨w.heap.size,0,none⟩=some (.slice Ap f.p.length cp)/\w'.cell? ⟨w.heap.size,1,none⟩=some (.int .i64 f.ret)/\w'.cell? ⟨w.heap.size,2,none⟩=some (.slice As f.s.length cs)/\w'.cell? ⟨w.heap.size,3,none⟩=some (.slice Ab f.b.length cb)/\w'.cell? ⟨w.heap.size+1,3,none⟩=some (.slice (some ⟨ba,oa,none⟩) x.args.length ca)/\w'.cell? ⟨ba,oa+ys.length,none⟩=some (.int .i64 z)) (first|exact kp.out _ t.drew|exact kp.out _ g1|exact kp.out _ (g1.alloc _)|exact kp.out _ g2) (first|(go_at_call 113;refine(HC.out _ ((yO _).drew)).mono ?_;rintro e T ⟨rfl,g0⟩;have g1:Gr W T:=(t.drew).trans g0;have aq:W.heap.size<=T.heap.size:=g1.size;have ae:=p.gr (((yO wr).drew).trans g0))|(refine sF (v:=u5) underlying33 hi an ao ap rfl (by omega) rfl (.tmp 15) (.tmp 23) (by rfl) (by rfl) ae rfl (by rfl) (by simp;omega) aq ?_;intro A1 c1 w2 J aa aH;have g2:Gr W w2:=g1.below aa (yJ _)))
   obtain⟨K,rfl,-,-,d⟩:=dx J (A:=A1) (c:=c1) (by simp) (by simp)
   have S:w2.cell? ⟨K,ys.length,none⟩=some (.int .i64 (Ref.kind f z)):=by rw[d ys.length (by simp),ye (by simp)];simp
   have ag:=dJ J;clear d J;go_wp2
   ·have aD:Ref.kind f z<0:=by assumption
    go_ret
    exact⟨cZ (by
      rw[HT.out]
      have:x.args.all (fun v=>decide (0<=Ref.kind f v))=false:=by rw[List.all_eq_false];exact⟨z,HZ.out,by simp;omega⟩
      rw[this];rfl),M.trans g2⟩
   ·have aE:0<=Ref.kind f z:=by assumption
    go_roundw;case rel=>exact⟨ys++[Ref.kind f z],by simp;omega,by simp,by simpa using ag.out,g2,by show _=_;rw[HS.out];simp,fun y hy=>by rcases yz.1 hy with h|h;exact N.out y h;simp at h;omega⟩
    case measure=>simp[intOf];omega
  ·have S:ys.length=x.args.length:=by omega
   have HY:Hid (ys=x.args.map (Ref.kind f)):=by show _=_;rw[af.out,S,yv]
   have B:Hid (Aj f x=AE f x ys):=by
    show _=_;rw[HT.out,<-HY.out]
    have:x.args.all (fun v=>decide (0<=Ref.kind f v))=true:=by rw[ym];intro v hv;simp;exact N.out _ (by rw[HY.out];exact List.mem_map_of_mem hv)
    rw[this];rfl
   obtain⟨L,C,rfl⟩:=p.form;have G:Gr w wr:=M.trans t;have d0:=(t.cell (w.heap.size+1) 0 (by omega)).trans (b1 0);have d1:=(t.cell (w.heap.size+1) 1 (by omega)).trans (b1 1);simp at d0 d1;have m:=tl f x hcnt.out;have E:=dJ S;clear Q b1 Z af N HT hwf ac S ad;rcases Decidable.em (x.op=14) with u|ar
   ·obtain⟨l,R,rfl⟩:=sN (E.out.trans (m.1 (.inl u)));have D:x.args.length<=2:=by have:=E.out;simp at this;omega
    obtain⟨K,rfl,-,-,d⟩:=dx p (A:=L) (c:=C) (by simp) (by simp);have H:=d 0 (by simp);have U:=d 1 (by simp);simp at H U;clear d m;have j:Hid (Aj f x=(yS l && decide (R=l))):=by show _=_;rw[B.out];simp[AE,u]
    have F:Hid (∀w',Calls prog 68 #[.int .i64 l] w' (RS (.bool (yS l)) w')):=dU l
    cases hw:yS l with
    | true =>
     rw[hw]at F j;clear hw;go_wp2;go_quiet ((go_at_call 68;exact dq (F.out _)));go_wp2;all_goals go_ret
     all_goals exact⟨cZ (by rw[j.out];grind),G.drewN _⟩
    | false =>
     rw[hw]at F j;clear hw;go_wp2;go_quiet ((go_at_call 68;exact dq (F.out _)));go_wp2;all_goals go_ret
     all_goals exact⟨cZ (by rw[j.out];grind),G.drewN _⟩
   rcases Decidable.em (x.op=15) with u|au
   ·obtain⟨l,R,y2,rfl⟩:=ut (E.out.trans (m.2.1 u));have D:x.args.length<=3:=by have:=E.out;simp at this;omega
    obtain⟨K,rfl,-,-,d⟩:=dx p (A:=L) (c:=C) (by simp) (by simp);have H:=d 0 (by simp);have U:=d 1 (by simp);have e2:=d 2 (by simp);simp at H U e2;clear d m;have j:Hid (Aj f x=(decide (l=1) && decide (R=x.w) && decide (y2=x.w))):=by show _=_;rw[B.out];simp[AE,u]
    rcases Decidable.em (l=1) with X|X
    ·have n0:(l == 1)=true:=by simp[X]
     have H0:=dJ X;clear X;rcases Decidable.em (R=x.w) with Y|Y
     ·have n1:(R == x.w)=true:=by simp[Y]
      have H1:=dJ Y;clear Y;go_wp2;go_quiet (fail);go_wp2;go_ret;exact⟨cZ (by rw[j.out];have a:=H0.out;have b:=H1.out;grind),G.drewN _⟩
     ·have n1:(R == x.w)=false:=by simp[Y]
      have H1:=dJ Y;clear Y;go_wp2;go_quiet (fail);go_wp2;go_ret;exact⟨cZ (by rw[j.out];have b:=H1.out;grind),G.drewN _⟩
    ·have n0:(l == 1)=false:=by simp[X]
     have H0:=dJ X;clear X;go_wp2;go_quiet (fail);go_wp2;go_ret;exact⟨cZ (by rw[j.out];have a:=H0.out;grind),G.drewN _⟩
   rcases Decidable.em (x.op=16) with u|av
   ·obtain⟨l,rfl⟩:=lR (E.out.trans (m.2.2 (.inl u)));have D:x.args.length<=1:=by have:=E.out;simp at this;omega
    obtain⟨K,rfl,-,-,d⟩:=dx p (A:=L) (c:=C) (by simp) (by simp);have H:=d 0 (by simp);simp at H;clear d m;have j:Hid (Aj f x=(yS l && decide (l<x.w))):=by show _=_;rw[B.out];simp[AE,u]
    have F:Hid (∀w',Calls prog 68 #[.int .i64 l] w' (RS (.bool (yS l)) w')):=dU l
    cases hw:yS l with
    | true =>
     rw[hw]at F j;clear hw;go_wp2;go_quiet ((go_at_call 68;exact dq (F.out _)));go_wp2;all_goals go_ret
     all_goals exact⟨cZ (by rw[j.out];grind),G.drewN _⟩
    | false =>
     rw[hw]at F j;clear hw;go_wp2;go_quiet ((go_at_call 68;exact dq (F.out _)));go_wp2;all_goals go_ret
     all_goals exact⟨cZ (by rw[j.out];grind),G.drewN _⟩
   rcases Decidable.em (x.op=17) with u|aw
   ·obtain⟨l,rfl⟩:=lR (E.out.trans (m.2.2 (.inr (.inl u))));have D:x.args.length<=1:=by have:=E.out;simp at this;omega
    obtain⟨K,rfl,-,-,d⟩:=dx p (A:=L) (c:=C) (by simp) (by simp);have H:=d 0 (by simp);simp at H;clear d m;have j:Hid (Aj f x=(yS l && decide (l<x.w))):=by show _=_;rw[B.out];simp[AE,u]
    have F:Hid (∀w',Calls prog 68 #[.int .i64 l] w' (RS (.bool (yS l)) w')):=dU l
    cases hw:yS l with
    | true =>
     rw[hw]at F j;clear hw;go_wp2;go_quiet ((go_at_call 68;exact dq (F.out _)));go_wp2;all_goals go_ret
     all_goals exact⟨cZ (by rw[j.out];grind),G.drewN _⟩
    | false =>
     rw[hw]at F j;clear hw;go_wp2;go_quiet ((go_at_call 68;exact dq (F.out _)));go_wp2;all_goals go_ret
     all_goals exact⟨cZ (by rw[j.out];grind),G.drewN _⟩
   rcases Decidable.em (x.op=18) with u|ax
   ·obtain⟨l,rfl⟩:=lR (E.out.trans (m.2.2 (.inr (.inr (.inl u)))));have D:x.args.length<=1:=by have:=E.out;simp at this;omega
    obtain⟨K,rfl,-,-,d⟩:=dx p (A:=L) (c:=C) (by simp) (by simp);have H:=d 0 (by simp);simp at H;clear d m;have j:Hid (Aj f x=(yS l && decide (x.w<l))):=by show _=_;rw[B.out];simp[AE,u]
    have F:Hid (∀w',Calls prog 68 #[.int .i64 l] w' (RS (.bool (yS l)) w')):=dU l
    cases hw:yS l with
    | true =>
     rw[hw]at F j;clear hw;go_wp2;go_quiet ((go_at_call 68;exact dq (F.out _)));go_wp2;all_goals go_ret
     all_goals exact⟨cZ (by rw[j.out];grind),G.drewN _⟩
    | false =>
     rw[hw]at F j;clear hw;go_wp2;go_quiet ((go_at_call 68;exact dq (F.out _)));go_wp2;all_goals go_ret
     all_goals exact⟨cZ (by rw[j.out];grind),G.drewN _⟩
   rcases Decidable.em (x.op=25) with u|ay
   ·obtain⟨l,R,rfl⟩:=sN (E.out.trans (m.1 (.inr (.inl u))));have D:x.args.length<=2:=by have:=E.out;simp at this;omega
    obtain⟨K,rfl,-,-,d⟩:=dx p (A:=L) (c:=C) (by simp) (by simp);have H:=d 0 (by simp);have U:=d 1 (by simp);simp at H U;clear d m;have j:Hid (Aj f x=(decide (l=33) && yS R)):=by show _=_;rw[B.out];simp[AE,u]
    go_wp2_with (go_at_call 68;refine(dU _ _).mono ?_;rintro e T ⟨rfl,rfl⟩);all_goals go_ret
    all_goals exact⟨cZ (by rw[j.out];grind),G⟩
   rcases Decidable.em (x.op=26) with u|az
   ·obtain⟨l,rfl⟩:=lR (E.out.trans (m.2.2 (.inr (.inr (.inr (.inl u))))));have D:x.args.length<=1:=by have:=E.out;simp at this;omega
    obtain⟨K,rfl,-,-,d⟩:=dx p (A:=L) (c:=C) (by simp) (by simp);have H:=d 0 (by simp);simp at H;clear d m;have j:Hid (Aj f x=(decide (l=33))):=by show _=_;rw[B.out];simp[AE,u]
    go_wp2;all_goals go_ret
    all_goals exact⟨cZ (by rw[j.out];grind),G⟩
   rcases Decidable.em (x.op=27) with u|aA
   ·obtain⟨l,R,rfl⟩:=sN (E.out.trans (m.1 (.inr (.inr u))));have D:x.args.length<=2:=by have:=E.out;simp at this;omega
    obtain⟨K,rfl,-,-,d⟩:=dx p (A:=L) (c:=C) (by simp) (by simp);have H:=d 0 (by simp);have U:=d 1 (by simp);simp at H U;clear d m;have j:Hid (Aj f x=(decide (l=33) && Ea R)):=by show _=_;rw[B.out];simp[AE,u]
    go_wp2;all_goals go_ret
    all_goals exact⟨cZ (by rw[j.out];unfold Ea;grind),G⟩
   rcases Decidable.em (x.op=30) with u|aB
   ·obtain⟨l,rfl⟩:=lR (E.out.trans (m.2.2 (.inr (.inr (.inr (.inr u))))));have D:x.args.length<=1:=by have:=E.out;simp at this;omega
    obtain⟨K,rfl,-,-,d⟩:=dx p (A:=L) (c:=C) (by simp) (by simp);have H:=d 0 (by simp);simp at H;clear d m;have j:Hid (Aj f x=(decide (l=1))):=by show _=_;rw[B.out];simp[AE,u]
    go_wp2;all_goals go_ret
    all_goals exact⟨cZ (by rw[j.out];grind),G⟩
   rcases Decidable.em (x.op=31) with u|aC
   ·clear m;rcases ys with _|⟨l,r⟩
    ·have j:Hid (Aj f x=true):=by show _=_;rw[B.out];simp[AE,u]
     have D:x.args.length<=0:=by have:=E.out;simp at this;simp[this]
     go_wp2;go_quiet (fail);go_wp2;go_ret;exact⟨cZ (by rw[j.out]),G.drewN _⟩
    ·obtain⟨K,rfl,-,-,d⟩:=dx p (A:=L) (c:=C) (by simp) (by simp);have H:=d 0 (by simp);simp at H;have j:Hid (Aj f x=decide (l=f.ret)):=by show _=_;rw[B.out];simp[AE,u]
     have D:x.args.length<=r.length+1:=by have:=E.out;simp at this;omega
     have nz:((r.length:Int)+1 == 0)=false:=by simp;omega
     have z1:(0:Int)<(r.length:Int)+1:=by omega
     clear d;go_wp2;go_quiet (fail);go_wp2;go_ret;exact⟨cZ (by rw[j.out];grind),G.drewN _⟩
   have j:Hid (Aj f x=ys.all fun z=>decide (z=x.w)):=by show _=_;rw[B.out];simp[AE,ar,au,av,aw,ax,ay,az,aA,aB,aC]
   have D:x.args.length<=ys.length:=by have:=E.out;omega
   clear m;go_wp2
   go_loopw [7] (fun i wx=>∃k:Nat,k<=ys.length/\i=.int .i64 k/\Gr wr wx/\Hid ((ys.all fun z=>decide (z=x.w))=((ys.drop k).all fun z=>decide (z=x.w)))) (fun i _=>ys.length-(intOf i).toNat)
   case atStart=>exact⟨0,yI _,rfl,yO _,rfl⟩
   case round =>
    obtain⟨k,hk,rfl,O,I⟩:=hrel;rcases hr:ys.drop k with _|⟨z,r⟩
    ·have am:=dw hr hk;have HA:Hid ((ys.all fun z=>decide (z=x.w))=true):=by show _=_;rw[I.out,hr];rfl
     subst am;clear hr I;go_wp2;go_ret;exact⟨cZ (by rw[j.out,HA.out]),G.trans O⟩
    ·obtain⟨ad,hl,ai⟩:=dr hr;obtain⟨K,rfl,aa,-,d⟩:=dx p (A:=L) (c:=C) (by simp) (by simp;omega);have q:=(O.cell K k aa).trans (d k (by simp;omega));rw[yc,hl]at q;simp only[Option.map_some]at q;have q1:=(O.cell (w.heap.size+1) 1 (by have:=t.size;omega)).trans d1
     have HR:Hid ((ys.all fun z=>decide (z=x.w))=(decide (z=x.w) && r.all fun z=>decide (z=x.w))):=by show _=_;rw[I.out,hr];rfl
     have ak:Hid (ys.drop (k+1)=r):=ai;have z0:(0:Int)<=k:=by omega
     have z1:(k:Int)<(ys.length:Int):=by omega
     clear hr hl ai I d;go_wp2;go_quiet (fail);go_wp2
     ·go_ret;exact⟨cZ (by rw[j.out,HR.out];grind),(G.trans O).drewN _⟩
     ·go_roundw;case rel=>exact⟨k+1,by omega,by go_num,O.drewN _,by (show _=_;rw[HR.out,ak.out];grind)⟩
      case measure=>simp[intOf];omega
theorem lH:(prog.info? 4).map (fun i=>(i.zero,i.size,i.bytes))=some (some (.bool false),1,1):=by kernel_rfl
def BRow (B hb n:Nat)(w:World)(bs:List Bool):Prop:=w.ownsRow B 4 1 (.slice (some ⟨hb,0,none⟩) n n) n (bs.map Value.bool)
section
variable {B hb n:Nat}{w w':World}{bs:List Bool}
theorem BRow.len (h:BRow B hb n w bs):bs.length=n:=by have:=h.1;simpa using this
theorem BRow.cell (h:BRow B hb n w bs)(j:Nat)(b:Bool)(hj:bs[j]?=some b):w.cell? ⟨hb,j,none⟩=some (.bool b):=by have hl:=h.len;have d:=(xS.1 hj).1;rw[World.ownsRow.cellAt h j (by omega),yc,hj];rfl
theorem BRow.frozen (h:BRow B hb n w bs)(j:Nat):w.frozen? ⟨hb,j,none⟩=false:=World.ownsRow.frozenAt h j
theorem BRow.set_ (h:BRow B hb n w bs)(j:Nat)(b:Bool):BRow B hb n (w.setCell ⟨hb,j,none⟩ (.bool b)) (bs.set j b):=by have:=(World.ownsRow.stored h j (.bool b)).1;unfold BRow;rw[List.map_set];exact this
theorem BRow.base (h:BRow B hb n w bs)(hn:0<n):B<=hb:=by obtain⟨b,e,_,d,_⟩:=dx h rfl hn;cases e;exact d
theorem BRow.bools (h:BRow B hb n w bs)(hn:n<=17592186044416):BoolsAt w.heap.size w (.slice (some ⟨hb,0,none⟩) n n) bs:=by have hl:=h.len;subst hl;exact lT h hn
end
theorem jV (hg:o.guard=none)(l c:Operand)(hop:o.op=Op.makeSlice 111 l c)
  (B n:Nat) (hl:a.eval l=.int .i64 n) (hc:a.eval c=.int .i64 n) (hn0:1<=n) (hn:n<=17592186044416) (hB:B<=w.heap.size)
  (hK:∀w',BRow B w.heap.size n w' (List.replicate n false)->Gr w w'->w'.cell? ⟨w.heap.size,0,none⟩=some (.bool false)->w'.frozen? ⟨w.heap.size,0,none⟩=false->wpList prog ops Q rest (a.put o.dst (.slice (some ⟨w.heap.size,0,none⟩) n n)) w') :
  wpList prog ops Q (o::rest) a w:=by
 obtain⟨y,t,m,p,q⟩:=info_parts lH;refine wpList_make_full _ hg l c 111 hop B 4 y _ 1 underlying111 t m p _ _ _ _ n hl hc rfl rfl (by rw[q];omega) (by simp only[maxLen];omega) hB ?_;intro r g j;rw[Nat.mul_one,show (Value.bool false).cells=#[Value.bool false] from rfl,toList_madeCells_one]at g;have d:BRow B w.heap.size n r (List.replicate n false):=by unfold BRow;rw[List.map_replicate];exact g
 refine hK r d ((yO w).grown j (fun k u=>by cases u)) ?_ (d.frozen 0);exact d.cell 0 false (by rw[yk,yr (by omega)])
theorem px {n b:Nat}(h:b<n):(List.range n).drop b=b::(List.range n).drop (b+1):=by rw[yg (by simpa using h)];simp
theorem fW (z t:Int)(bs:List Bool):(AV z bs t).length=bs.length:=by unfold AV;split<;>simp
theorem jq (z t:Int)(bs:List Bool)(b:Nat)(h:bs[b]?=some true):(AV z bs t)[b]?=some true:=by
 unfold AV;split
 ·exact h
 ·rw[List.getElem?_set];split
  ·rename_i e;subst e;have:=(xS.1 h).1;simp[this]
  ·exact h
theorem ix (vg:Value)(g:List (List Int))(z:Int)(w:World)(hg:TabAt w.heap.size w vg g)(hn:1<=g.length)(hsm:g.length<=100000)(hok:Hid (∀l∈g,∀t∈l,0<=t/\t<(g.length:Int))) :
  Calls prog 114 #[vg,.int .i64 z] w fun e w'=>∃v,e=.returned v/\BoolsAt w'.heap.size w' v (Ar g z)/\Gr w w':=by
 obtain⟨A,c,rfl,g1,g2,g3⟩:=hg;obtain⟨bg,og,rfl,Z,ab⟩:=g3 (by omega);have HG:=dJ ab;clear ab g3;by_cases W:z=0
 ·have av:(z == 0)=true:=by simp[W]
  have HR:Hid (Ar g z=List.replicate g.length false):=by show _=_;unfold Ar;rw[yr W]
  clear W
  go_enter func114, ntmps114
  go_wp2_with (at_make;refine jV rfl _ _ rfl w.heap.size g.length rfl rfl hn (by omega) (yJ _) ?_;intro w1 C M _ _);go_ret;exact⟨_,rfl,by rw[HR.out];exact C.bools (by omega),M⟩
 ·have av:(z == 0)=false:=by simp[W]
  have HR:Hid (Ar g z=Ef z g g.length ((List.replicate g.length false).set 0 true)):=by show _=_;unfold Ar;rw[yt W]
  clear W;have z0:(0:Int)<(g.length:Int):=by omega
  go_enter func114, ntmps114
  go_wp2_with (at_make;refine jV rfl _ _ rfl w.heap.size g.length rfl rfl hn (by omega) (yJ _) ?_;intro w1 C M aq ar);have B:BRow w.heap.size w.heap.size g.length (w1.setCell ⟨w.heap.size,0,none⟩ (.bool true)) ((List.replicate g.length false).set 0 true):=C.set_ 0 true;have F:Gr w (w1.setCell ⟨w.heap.size,0,none⟩ (.bool true)):=M.setCell (yJ _) _;clear aq ar C
  go_loopw [6,7,8] (fun r _ _ wr=>∃(k:Nat)(N:List Bool),k<=g.length/\r=.int .i64 k/\BRow w.heap.size w.heap.size g.length wr N/\Gr w wr/\Hid (Ar g z=Ef z g (g.length-k) N)) (fun r _ _ _=>g.length-(intOf r).toNat)
  case atStart=>exact⟨0,_,yI _,rfl,B,F,HR⟩
  case round =>
   obtain⟨k,N,hk,rfl,C,T,I⟩:=hrel;obtain⟨wo,rfl⟩:∃wo:World,wo=wr:=⟨_,rfl⟩;clear B F M;by_cases ay:k<g.length
   ·have al:Hid (Ar g z=Ef z g (g.length-(k+1)) (Dz z g N)):=by
     show _=_;rw[I.out,show g.length-k=(g.length-(k+1))+1 by omega];rfl
    clear I;go_wp2
    go_loopw [7,8] (fun b _ wr=>∃(j:Nat)(y:List Bool),j<=g.length/\b=.int .i64 j/\BRow w.heap.size w.heap.size g.length wr y/\Gr w wr/\Hid (Dz z g N=((List.range g.length).drop j).foldl (Bi z g) y)) (fun b _ _=>g.length-(intOf b).toNat)
    case atStart=>exact⟨0,N,yI _,rfl,C,T,by show _=_;simp[Dz]⟩
    case round =>
     obtain⟨j,y,hj,rfl,B,F,D⟩:=hrel;obtain⟨aj,rfl⟩:∃aj:World,aj=wr:=⟨_,rfl⟩;clear C T;by_cases O:j<g.length
     ·obtain⟨l,hl⟩:∃l,g[j]?=some l:=⟨g[j],by simp[O]⟩;obtain⟨u,hu,ah⟩:=HG.out j l hl;have aA:=(F.cell _ _ Z).trans hu;have ai:=ah.below F;obtain⟨A',c',rfl,p1,p2,-⟩:=ai;obtain⟨A3,c3,e3,-,-,p3⟩:=ah;injection e3 with am an ao;subst am;subst ao;have HU:=dJ hu;have HL:Hid (∀t∈l,0<=t/\t<(g.length:Int)):=hok.out l (xT hl);have ad:g.getD j []=l:=by simp[List.getD,hl]
      have HD:Hid (Dz z g N=((List.range g.length).drop (j+1)).foldl (Bi z g) (Bi z g y j)):=by show _=_;rw[D.out,px O];rfl
      have ae:=B.len;obtain⟨Y,S⟩:∃b,y[j]?=some b:=⟨y[j]'(by omega),by simp[show j<y.length by omega]⟩;have q:=B.cell j Y S;have Q:=dJ S;have ak:=dJ ad;have aw:=dJ ae;have P3:Hid (0<l.length->∃b off,A'=some ⟨b,off,none⟩/\b<w.heap.size/\∀i z,l[i]?=some z->w.cell? ⟨b,off+i,none⟩=some (.int .i64 z)):=p3;have zj:(0:Int)<=j:=by omega
      clear hl hu D ad S ae p3 an;go_wp2
      go_loopw [8] (fun i wr=>∃(m:Nat)(d:List Bool),m<=l.length/\i=.int .i64 m/\BRow w.heap.size w.heap.size g.length wr d/\Gr w wr/\Hid (d[j]?=some Y)/\Hid (Y=false->d=y)/\Hid (l.foldl (AV z) y=(l.drop m).foldl (AV z) d)) (fun i _=>l.length-(intOf i).toNat)
      case atStart=>exact⟨0,y,yI _,rfl,B,F,Q,fun _=>rfl,rfl⟩
      case round =>
       obtain⟨m,d,hm,rfl,p,G,L,J,E⟩:=hrel;have aB:=(G.cell bg (og+j) Z).trans (HU.out);have q2:=p.cell j Y L.out;have ax:m<=l.length:=hm
       cases Y with
       | false =>
        have R:Hid (Bi z g y j=d):=by
         show _=_;rw[J.out rfl];unfold Bi;have:y.getD j false=false:=by simp[List.getD,Q.out]
         rw[this];rfl
        clear J E;by_cases af:m<l.length
        ·go_wp2;go_roundw;case rel=>exact⟨j+1,d,by omega,by go_num,p,G,by (show _=_;rw[HD.out,R.out])⟩
         case measure=>simp[intOf];omega
        ·go_wp2;go_roundw;case rel=>exact⟨j+1,d,by omega,by go_num,p,G,by (show _=_;rw[HD.out,R.out])⟩
         case measure=>simp[intOf];omega
       | true =>
        clear J;rcases hr:l.drop m with _|⟨t,r⟩
        ·have au:=dw hr hm
         have R:Hid (Bi z g y j=d):=by
          show _=_;unfold Bi;have:y.getD j false=true:=by simp[List.getD,Q.out]
          rw[this,yr rfl,ak.out,E.out,hr];rfl
         subst au;clear hr E;go_wp2;go_roundw;case rel=>exact⟨j+1,d,by omega,by go_num,p,G,by (show _=_;rw[HD.out,R.out])⟩
         case measure=>simp[intOf];omega
        ·obtain⟨af,U,ag⟩:=dr hr;obtain⟨bl,ol,rfl,ap,ac⟩:=P3.out (by omega);have ht:=HL.out t (xT U);obtain⟨H,rfl⟩:=xZ ht.1;have az:H<g.length:=by omega
         have qt:=(Gr.cell (a:=w) G bl (ol+m) ap).trans (ac m H U);obtain⟨bt,aa⟩:∃b,d[H]?=some b:=⟨d[H]'(by have:=p.len;omega),by have:=p.len;simp[show H<d.length by omega]⟩;have qc:=p.cell H bt aa;have qf:=p.frozen H;have R:Hid (l.foldl (AV z) y=r.foldl (AV z) (AV z d H)):=by show _=_;rw[E.out,hr];rfl
         have X:Hid (l.drop (m+1)=r):=ag;have zt:(H:Int)<(g.length:Int):=by omega
         clear hr ag U E ac ht aa;by_cases K:(H:Int)=z
         ·have nz:((H:Int) != z)=false:=by simp[K]
          have HS:Hid (AV z d H=d):=by show _=_;unfold AV;rw[yr K]
          clear K;go_wp2;go_roundw;case rel=>exact⟨m+1,d,by omega,by go_num,p,G,L,fun h=>(by cases h),by (show _=_;rw[R.out,HS.out,X.out])⟩
          case measure=>simp[intOf];omega
         ·have nz:((H:Int) != z)=true:=by simp[K]
          have HS:Hid (AV z d H=d.set H true):=by show _=_;unfold AV;rw[yt K];simp
          clear K;go_wp2;go_roundw;case rel=>exact⟨m+1,d.set H true,by omega,by go_num,p.set_ H true,G.setCell (yJ _) _,by (have:=jq z H d j L.out;rw[HS.out]at this;exact this),fun h=>(by cases h),by (show _=_;rw[R.out,HS.out,X.out])⟩
          case measure=>simp[intOf];omega
     ·obtain rfl:j=g.length:=by omega
      have HE:Hid (Dz z g N=y):=by show _=_;rw[D.out,yj (by simp)];rfl
      clear D;go_wp2;go_roundw;case rel=>exact⟨k+1,y,by omega,by go_num,B,F,by (show _=_;rw[al.out,HE.out])⟩
      case measure=>simp[intOf];omega
   ·obtain rfl:k=g.length:=by omega
    go_wp2;go_ret;exact⟨_,rfl,by rw[I.out,Nat.sub_self];exact C.bools (by omega),T⟩
theorem jz (vg:Value)(g:List (List Int))(a b:Int)(w:World)(hg:TabAt w.heap.size w vg g)(hn:1<=g.length)(hsm:g.length<=100000)(hok:Hid (∀l∈g,∀t∈l,0<=t/\t<(g.length:Int)))
  (hb1:0<=b) (hb2:b<g.length) :
  Calls prog 145 #[vg,.int .i64 a,.int .i64 b] w (RG (.bool (Bz g a b)) w):=by
 by_cases j:a=b
 ·have D:(a == b)=true:=by simp[j]
  have u:Hid (Bz g a b=true):=by show _=_;simp[Bz,j]
  clear j;obtain⟨A,c,rfl,-,-,-⟩:=hg
  go_enter func145, ntmps145
  go_wp2;go_ret;exact⟨cZ (by rw[u.out]),yO _⟩
 ·have D:(a == b)=false:=by simp[j]
  have u:Hid (Bz g a b=!(Ar g a).getD b.toNat false):=by show _=_;simp[Bz,j]
  have C:=ix vg g a w hg hn hsm hok;have E:=dJ C
  have hlen:(Ar g a).length=g.length:=by
   have H:∀(l:List Int)(d:List Bool),(l.foldl (AV a) d).length=d.length:=by
    intro l;induction l with
    | nil=>intro d;rfl
    | cons t r ih=>intro d;rw[List.foldl_cons,ih,fW]
   have I:∀(l:List Nat)(d:List Bool),(l.foldl (Bi a g) d).length=d.length:=by
    intro l;induction l with
    | nil=>intro d;rfl
    | cons t r ih=>intro d;rw[List.foldl_cons,ih];unfold Bi;split<;>simp[H]
   have J:∀(n:Nat)(d:List Bool),(Ef a g n d).length=d.length:=by
    intro n;induction n with
    | zero=>intro d;rfl
    | succ n ih=>intro d;rw[Ef,ih,Dz,I]
   unfold Ar;split<;>simp[J]
  have F:=dJ hlen;clear j C hlen;obtain⟨n,rfl⟩:=xZ hb1;obtain⟨A,c,rfl,-,-,-⟩:=hg
  go_enter func145, ntmps145
  go_wp2_with fail;refine E.out.mono ?_;rintro e Q ⟨v,rfl,hv,G⟩;obtain⟨M,O,rfl,-,-,p⟩:=hv;have hlen:=F.out;obtain⟨N,L,rfl,K,m⟩:=p (by omega);obtain⟨y,B⟩:∃y,(Ar g a)[n]?=some y:=⟨(Ar g a)[n]'(by omega),by simp[show n<(Ar g a).length by omega]⟩;have q:=m n y B;have z:Hid (Bz g a n=!y):=by show _=_;rw[u.out];simp[List.getD,B]
  have R:(n:Int)<((Ar g a).length:Int):=by omega
  clear m B hlen p;go_wp2;go_ret;exact⟨cZ (by rw[z.out]),G⟩
theorem sJ (v vg:Value)(f:Fn)(g:List (List Int))(z block place:Int)(w:World)(hf:FnAt w.heap.size w v f)(hs:f.b.length<=100000)(hz1:-9223372036854775808<=z)(hz2:z<=9223372036854775807)
  (hg:TabAt w.heap.size w vg g) (hn:1<=g.length) (hsm:g.length<=100000) (hok:Hid (∀l∈g,∀t∈l,0<=t/\t<(g.length:Int))) (hb1:0<=block) (hb2:block<g.length) :
  Calls prog 115 #[v,vg,.int .i64 z,.int .i64 block,.int .i64 place] w (RG (.bool (Eg f g z block place)) w):=by
 have y:=hf;obtain⟨vp,vs,vb,rfl,-,-,-⟩:=hf;have d:Gr w (w.alloc (.cells #[vp,.int .i64 f.ret,vs,vb] 36)):=(yO _).alloc _;have C:=mj _ f z _ (y.gr d) hs hz1 hz2;have u:Hid (Eg f g z block place=if (BR f z).1<0 then true else if (BR f z).1=block then decide (place<0) || decide ((BR f z).2<place) else Bz g (BR f z).1 block):=rfl
 revert C u
 generalize BR f z=p;obtain⟨b,i⟩:=p;dsimp only;intro C u;have A:=dJ C;have D:Hid (∀m,Gr w m->Calls prog 145 #[vg,.int .i64 b,.int .i64 block] m (RG (.bool (Bz g b block)) m)):=fun m j=>jz vg g b block m (hg.gr j) hn hsm hok hb1 hb2;clear C y hg;by_cases B:b<0
 ·go_enter func115, ntmps115
  go_wp2_with (go_at_call 144;refine A.out.mono ?_;rintro e m ⟨rfl,j⟩);go_ret;exact⟨cZ (by rw[u.out,yr B]),d.trans j⟩
 ·by_cases r:b=block
  ·have F:(b == block)=true:=by simp[r]
   have q:Hid (Eg f g z block place=(decide (place<0) || decide (i<place))):=by show _=_;rw[u.out,yt B,yr r]
   clear r
   go_enter func115, ntmps115
   go_wp2_with (go_at_call 144;refine A.out.mono ?_;rintro e m ⟨rfl,j⟩);all_goals go_ret
   all_goals exact⟨cZ (by have:=q.out;grind),d.trans j⟩
  ·have F:(b == block)=false:=by simp[r]
   have q:Hid (Eg f g z block place=Bz g b block):=by show _=_;rw[u.out,yt B,yt r]
   clear r
   go_enter func115, ntmps115
   go_wp2_with (first|(go_at_call 144;refine A.out.mono ?_;rintro e m ⟨rfl,j⟩)|(go_at_call 145;refine(D.out _ (d.trans j)).mono ?_;rintro e G ⟨rfl,E⟩))
   go_ret;exact⟨cZ (by rw[q.out]),(d.trans j).trans E⟩
def WfI (x:Ins):Prop:=(0<=x.i/\x.i<4294967296)/\(∀z∈x.args,-9223372036854775808<=z/\z<=9223372036854775807)/\x.args.length<=100000/\x.to.length<=100000
theorem fZ (f:Fn)(x:Ins)(h:zm f x=true):(∀t∈x.to,0<=t/\t<(f.b.length:Int))/\(x.op=28->x.to.length=x.args.length):=by
 unfold zm at h;simp only[yu]at h;refine⟨fun t g=>?_,fun ho=>?_⟩
 ·have:=ym.1 h.1.2 t g;simpa using this
 ·have d:=h.1.1.2;simp[Dj,zY,ho]at d;omega
theorem nQ (f:Fn)(hA:∀l∈f.b,∀x∈l,zm f x=true):∀l∈n5 f,∀t∈l,0<=t/\t<((n5 f).length:Int):=by
 intro l hl t d;unfold n5 at hl ⊢;obtain⟨b,g,rfl⟩:=List.mem_map.1 hl;rw[yl]
 cases hx:b.getLast? with
 | none=>rw[hx]at d;simp at d
 | some x =>
  rw[hx]at d;exact(fZ f x (hA b g x (List.mem_of_getLast? hx))).1 t (by simpa using d)
theorem nr (g:List (List Int))(a:Int):(Ar g a).length=g.length:=by
 have j:∀(l:List Int)(d:List Bool),(l.foldl (AV a) d).length=d.length:=by
  intro l;induction l with
  | nil=>intro d;rfl
  | cons t r ih=>intro d;rw[List.foldl_cons,ih,fW]
 have m:∀(l:List Nat)(d:List Bool),(l.foldl (Bi a g) d).length=d.length:=by
  intro l;induction l with
  | nil=>intro d;rfl
  | cons t r ih=>intro d;rw[List.foldl_cons,ih];unfold Bi;split<;>simp[j]
 have p:∀(n:Nat)(d:List Bool),(Ef a g n d).length=d.length:=by
  intro n;induction n with
  | zero=>intro d;rfl
  | succ n ih=>intro d;rw[Ef,ih,Dz,m]
 unfold Ar;split<;>simp[p]
theorem pQ (v:Value)(f:Fn)(w:World)(hf:FnAt w.heap.size w v f)(hs1:1<=f.b.length)(hs:f.b.length<=100000)(hA:Hid (∀l∈f.b,∀x∈l,zm f x=true))(hne:Hid (∀l∈f.b,l≠[]))
  (hwf:Hid (∀l∈f.b,∀x∈l,WfI x)) :
  Calls prog 72 #[v] w (RG (.bool (BU f)) w):=by
 have aH:=hf;obtain⟨vp,vs,vb,rfl,hp,a2,hb⟩:=hf;obtain⟨R,cp,rfl,-,-,-⟩:=hp;obtain⟨S,cs,rfl,-,-,-⟩:=a2;obtain⟨Ab,Z,rfl,-,aW,aA⟩:=hb;obtain⟨Y,ob,rfl,aC,M⟩:=aA (by omega);obtain⟨W,hW⟩:=xJ (w.alloc (.cells #[.slice R f.p.length cp,.int .i64 f.ret,.slice S f.s.length cs,.slice (some ⟨Y,ob,none⟩) f.b.length Z] 36));have E:Gr w W:=by rw[<-hW];exact(yO w).alloc _
 have bf:W.heap.size=w.heap.size+1:=by rw[<-hW];simp
 have b0:∀o,W.cell? ⟨w.heap.size,o,none⟩=(#[.slice R f.p.length cp,.int .i64 f.ret,.slice S f.s.length cs,.slice (some ⟨Y,ob,none⟩) f.b.length Z]:Array Value)[o]?:=by intro o;rw[<-hW];exact yo _ _ _ _ _ _ (heap_alloc_new w _)
 have B0:Hid (∀w',Gr W w'->w'.cell? ⟨w.heap.size,0,none⟩=some (.slice R f.p.length cp)/\w'.cell? ⟨w.heap.size,1,none⟩=some (.int .i64 f.ret)/\w'.cell? ⟨w.heap.size,2,none⟩=some (.slice S f.s.length cs)/\w'.cell? ⟨w.heap.size,3,none⟩=some (.slice (some ⟨Y,ob,none⟩) f.b.length Z)) :=
  fun w' g=>⟨(g.cell w.heap.size 0 (by omega)).trans (b0 0),(g.cell w.heap.size 1 (by omega)).trans (b0 1),(g.cell w.heap.size 2 (by omega)).trans (b0 2),(g.cell w.heap.size 3 (by omega)).trans (b0 3)⟩
 obtain⟨g,ab⟩:∃g,g=n5 f:=⟨_,rfl⟩;obtain⟨d,N⟩:∃d,d=Ar g (-1):=⟨_,rfl⟩;have aI:g.length=f.b.length:=by rw[ab];simp[n5]
 have aK:d.length=g.length:=by rw[N,nr]
 have aL:Hid (∀l∈g,∀t∈l,0<=t/\t<(g.length:Int)):=by rw[ab];exact nQ f hA.out
 have HS:Hid (BU f=EI f g d f.b 0):=by show _=_;rw[N,ab];rfl
 have aR:Hid (Calls prog 110 #[.agg #[.slice R f.p.length cp,.int .i64 f.ret,.slice S f.s.length cs,.slice (some ⟨Y,ob,none⟩) f.b.length Z]] W fun e w'=>∃u,e=.returned u/\TabAt w'.heap.size w' u g/\Gr W w'):=by rw[ab];exact kh _ f W (aH.gr E) hs hne
 have aS:Hid (∀G u,TabAt G.heap.size G u g->Calls prog 114 #[u,.int .i64 (-1)] G fun e w'=>∃v,e=.returned v/\BoolsAt w'.heap.size w' v d/\Gr G w'):=by rw[N];exact fun G u h=>ix u g (-1) G h (by omega) (by omega) aL
 have H:=dJ aI;have O:=dJ aK;have k0:=B0.out W (yO _);obtain⟨k0,k1,k2,k3⟩:=k0;clear ab N aI aK b0
 go_enter func72, ntmps72
 go_wp2_with (first|(go_at_call 110;refine aR.out.mono ?_;rintro e G ⟨vg,rfl,af,g1⟩)|(go_at_call 114;refine(aS.out _ _ af).mono ?_;rintro e w2 ⟨vi,rfl,aX,g2⟩))
 obtain⟨Ai,ci,rfl,-,-,aJ⟩:=aX;obtain⟨bi,oi,rfl,aD,aE⟩:=aJ (by have:=O.out;have:=H.out;omega);have HI:=dJ aE;have ax:=dJ af;have HC:=dJ M;have A:Gr W w2:=g1.trans g2;have be:(d.length:Int)=(f.b.length:Int):=by have:=O.out;have:=H.out;omega
 clear aE af aJ aA M
 go_loopw [5,6,7,8] (fun b _ _ _ wr=>∃k:Nat,k<=f.b.length/\b=.int .i64 k/\Gr w2 wr/\Hid (BU f=EI f g d (f.b.drop k) k)) (fun b _ _ _ _=>f.b.length-(intOf b).toNat)
 case atStart=>exact⟨0,yI _,rfl,yO _,by show _=_;rw[HS.out];rfl⟩
 case round =>
  obtain⟨k,hk,rfl,ac,I⟩:=hrel;obtain⟨wo,rfl⟩:∃wo:World,wo=wr:=⟨_,rfl⟩;have ak:=A.trans ac;obtain⟨-,-,-,c3⟩:=B0.out _ ak;clear k0 k1 k2 k3;rcases hr:f.b.drop k with _|⟨l,r⟩
  ·have a0:=dw hr hk;have HE:Hid (BU f=true):=by show _=_;rw[I.out,hr];rfl
   subst a0;clear hr I;go_wp2;go_ret;exact⟨cZ (by rw[HE.out]),E.trans ak⟩
  ·obtain⟨bh,hl,aM⟩:=dr hr;obtain⟨u,hu,a6⟩:=HC.out k l hl;have a4:=((E.trans ak).cell _ _ aC).trans hu;obtain⟨Al,cl,rfl,p1,p2,p3⟩:=a6;have P3:=dJ p3;have HL:Hid (l∈f.b):=xT hl;obtain⟨y,hy⟩:∃y,d[k]?=some y:=⟨d[k]'(by have:=O.out;have:=H.out;omega),by have:=O.out;have:=H.out;simp[show k<d.length by omega]⟩;have qi:=(ac.cell bi (oi+k) aD).trans (HI.out k y hy)
   have HR:Hid (BU f=((!y || Ek f g d k l 0) && EI f g d r (k+1))):=by show _=_;rw[I.out,hr];simp[EI,List.getD,hy]
   have au:Hid (f.b.drop (k+1)=r):=aM;have HU:=dJ hu;have zk:(k:Int)<(d.length:Int):=by omega
   clear hr hl aM I hu hy p3
   cases y with
   | false =>
    go_wp2;go_roundw;case rel=>exact⟨k+1,by omega,by go_num,ac,by (show _=_;rw[HR.out,au.out];simp)⟩
    case measure=>simp[intOf];omega
   | true =>
    have ap:Hid (BU f=(Ek f g d k l 0 && EI f g d r (k+1))):=by show _=_;rw[HR.out];simp
    clear HR;go_wp2
    go_loopw [6,7,8] (fun i _ _ wr=>∃j:Nat,j<=l.length/\i=.int .i64 j/\Gr w2 wr/\Hid (Ek f g d k l 0=Ek f g d k (l.drop j) j)) (fun i _ _ _=>l.length-(intOf i).toNat)
    case atStart=>exact⟨0,yI _,rfl,ac,rfl⟩
    case round =>
     obtain⟨j,hj,rfl,ad,D⟩:=hrel;obtain⟨C,rfl⟩:∃C:World,C=wr:=⟨_,rfl⟩;have aa:=A.trans ad;obtain⟨-,-,-,aU⟩:=B0.out _ aa;have a5:=((E.trans aa).cell _ _ aC).trans HU.out;clear c3 qi a4 ak ac;rcases hr1:l.drop j with _|⟨x,r1⟩
     ·have aZ:=dw hr1 hj;have HE:Hid (Ek f g d k l 0=true):=by show _=_;rw[D.out,hr1];rfl
      subst aZ;clear hr1 D;go_wp2;go_roundw;case rel=>exact⟨k+1,by omega,by go_num,ad,by (show _=_;rw[ap.out,au.out,HE.out];simp)⟩
      case measure=>simp[intOf];omega
     ·obtain⟨bc,hx,an⟩:=dr hr1;obtain⟨bl,ol,rfl,Q,aF⟩:=P3.out (by omega);obtain⟨va,vt,i0,i1,i2,i3,i4,i5,a7,a8⟩:=aF j x hx;have HX:Hid (x∈l):=xT hx;have aP:=hwf.out l HL.out x HX.out;have aq:Hid (WfI x):=aP;have az:=hA.out l HL.out x HX.out;have aw:=dJ (fZ f x az);have ao:Hid (Ek f g d k l 0=(DF f g d k j x x.args 0 && Ek f g d k r1 (j+1))):=by show _=_;rw[D.out,hr1];rfl
      have av:Hid (l.drop (j+1)=r1):=an;have gw:=E.trans aa;have j0:=(gw.cell _ _ Q).trans i0;have j1:=(gw.cell _ _ Q).trans i1;have j2:=(gw.cell _ _ Q).trans i2;have j3:=(gw.cell _ _ Q).trans i3;have j4:=(gw.cell _ _ Q).trans i4;have j5:=(gw.cell _ _ Q).trans i5;obtain⟨Aa,ca,rfl,-,-,ay⟩:=a7;obtain⟨At,ct,rfl,-,-,aN⟩:=a8;have aQ:=dJ ay;have aT:=dJ aN;have bg:x.args.length<=100000:=aq.out.2.2.1;have bj:x.to.length<=100000:=aq.out.2.2.2;clear hr1 hx an D aF i0 i1 i2 i3 i4 i5 ay aN aP az;obtain⟨wy,ah⟩:=xJ (C.alloc (.cells #[.int .i64 x.op,.int .i64 x.w,.int .i64 x.g,.slice Aa x.args.length ca,.int .u32 x.i,.slice At x.to.length ct] 68))
      have b1:∀o,wy.cell? ⟨C.heap.size,o,none⟩=(#[.int .i64 x.op,.int .i64 x.w,.int .i64 x.g,.slice Aa x.args.length ca,.int .u32 x.i,.slice At x.to.length ct]:Array Value)[o]?:=by intro o;rw[<-ah];exact yo _ _ _ _ _ _ (heap_alloc_new C _)
      have p:Gr w2 wy:=by rw[<-ah];exact ad.alloc _
      have bm:wy.heap.size=C.heap.size+1:=by rw[<-ah];simp
      have B1:=dJ b1;clear b1;go_wp2;have HY:=dJ ah;clear ah j0 j1 j2 j3 j4 j5 a5 aU
      go_loopw [8] (fun a wr=>∃m:Nat,m<=x.args.length/\a=.int .i64 m/\Gr wy wr/\Hid (DF f g d k j x x.args 0=DF f g d k j x (x.args.drop m) m)) (fun a _=>x.args.length-(intOf a).toNat)
      case atStart=>exact⟨0,yI _,rfl,yO _,rfl⟩
      case round =>
       obtain⟨m,hm,rfl,F,B⟩:=hrel;have d0:=(F.cell C.heap.size 0 (by omega)).trans (B1.out 0);have d3:=(F.cell C.heap.size 3 (by omega)).trans (B1.out 3);simp at d0 d3;rcases hr2:x.args.drop m with _|⟨z,r2⟩
       ·have a1:=dw hr2 hm;have HE:Hid (DF f g d k j x x.args 0=true):=by show _=_;rw[B.out,hr2];rfl
        subst a1;clear hr2 B;go_wp2;go_roundw;case rel=>exact⟨j+1,by omega,by go_num,p.trans F,by (show _=_;rw[ao.out,av.out,HE.out];simp)⟩
        case measure=>simp[intOf];omega
       ·obtain⟨bd,hz,ae⟩:=dr hr2;obtain⟨ba,oa,rfl,aB,aj⟩:=aQ.out (by omega);have am:=aq.out.2.1 z (xT hz);have U:Hid (DF f g d k j x x.args 0=(E1 f g d k j x z (x.to.getD m 0) && DF f g d k j x r2 (m+1))):=by show _=_;rw[B.out,hr2];rfl
        have X:Hid (x.args.drop (m+1)=r2):=ae;have bn:(0:Int)<=m:=by omega
        have bo:(m:Int)<(x.args.length:Int):=by omega
        have ai:Hid (∀(block J:Int),0<=block->block<(f.b.length:Int)->∀G,Gr wy G->Calls prog 115 #[.agg #[.slice R f.p.length cp,.int .i64 f.ret,.slice S f.s.length cs,.slice (some ⟨Y,ob,none⟩) f.b.length Z],vg,.int .i64 z,.int .i64 block,.int .i64 J] G (RG (.bool (Eg f g z block J)) G)) :=
         fun block J aV aW G q=>sJ _ vg f g z block J G (aH.gr (E.trans (A.trans (p.trans q)))) hs am.1 am.2 (ax.out.gr (g2.trans (p.trans q))) (by have:=H.out;omega) (by have:=H.out;omega) aL aV (by have:=H.out;omega)
        rcases Decidable.em (x.op=28) with ho|ho
        ·have a3:=aw.out.2 ho;obtain⟨t,al⟩:∃t,x.to[m]?=some t:=⟨x.to[m]'(by omega),by simp[show m<x.to.length by omega]⟩;have aO:=aw.out.1 t (xT al);obtain⟨K,rfl⟩:=xZ aO.1;have bk:K<f.b.length:=by omega
         obtain⟨bt,ot,rfl,aY,aG⟩:=aT.out (by omega);obtain⟨y,hy⟩:∃y,d[K]?=some y:=⟨d[K]'(by have:=O.out;have:=H.out;omega),by have:=O.out;have:=H.out;simp[show K<d.length by omega]⟩
         have L:Hid (E1 f g d k j x z (x.to.getD m 0)=(!y || Eg f g z K (-1))):=by show _=_;unfold E1;rw[yr ho];simp[List.getD,al,hy]
         have a9:(x.op == 28)=true:=by simp[ho]
         have kp:Hid (∀w',Gr wy w'->(w'.cell? ⟨w.heap.size,0,none⟩=some (.slice R f.p.length cp)/\w'.cell? ⟨w.heap.size,1,none⟩=some (.int .i64 f.ret)/\w'.cell? ⟨w.heap.size,2,none⟩=some (.slice S f.s.length cs)/\w'.cell? ⟨w.heap.size,3,none⟩=some (.slice (some ⟨Y,ob,none⟩) f.b.length Z)/\w'.cell? ⟨C.heap.size,0,none⟩=some (.int .i64 x.op)/\w'.cell? ⟨C.heap.size,3,none⟩=some (.slice (some ⟨ba,oa,none⟩) x.args.length ca)/\w'.cell? ⟨C.heap.size,5,none⟩=some (.slice (some ⟨bt,ot,none⟩) x.to.length ct)/\w'.cell? ⟨ba,oa+m,none⟩=some (.int .i64 z)/\w'.cell? ⟨bt,ot+m,none⟩=some (.int .i64 K)/\w'.cell? ⟨bi,oi+K,none⟩=some (.bool y))):=fun w' q=>⟨(B0.out w' (A.trans (p.trans q))).1,(B0.out w' (A.trans (p.trans q))).2.1,(B0.out w' (A.trans (p.trans q))).2.2.1,(B0.out w' (A.trans (p.trans q))).2.2.2,(q.cell C.heap.size 0 (by omega)).trans (B1.out 0),(q.cell C.heap.size 3 (by omega)).trans (B1.out 3),(q.cell C.heap.size 5 (by omega)).trans (B1.out 5),((E.trans (A.trans (p.trans q))).cell ba (oa+m) aB).trans (aj m z hz),((E.trans (A.trans (p.trans q))).cell bt (ot+m) aY).trans (aG m K al),((p.trans q).cell bi (oi+K) aD).trans (HI.out K y hy)⟩;have T:Hid (∀G,Gr wy G->Calls prog 115 #[.agg #[.slice R f.p.length cp,.int .i64 f.ret,.slice S f.s.length cs,.slice (some ⟨Y,ob,none⟩) f.b.length Z],vg,.int .i64 z,.int .i64 (K:Int),.int .i64 (-1)] G (RG (.bool (Eg f g z K (-1))) G)):=ai.out K (-1) (by omega) (by omega);have bq:(0:Int)<=K:=by omega
         have br:(K:Int)<(d.length:Int):=by omega
         have bp:(m:Int)<(x.to.length:Int):=by omega
         clear hr2 hz ae B aj am al aO aG hy ai a3 ho
         cases y with
         | false =>
          obtain⟨-,-,-,-,-,-,q5,-,qt,qy⟩:=kp.out _ F;go_wp2;go_quiet (fail);go_wp2;go_roundw;case rel=>exact⟨m+1,by omega,by go_num,F.drewN _,by (show _=_;rw[U.out,L.out,X.out];simp)⟩
          case measure=>simp[intOf];omega
         | true =>
          obtain⟨th,ag⟩:=xJ (Eg f g z K (-1));rw[ag]at T L;clear ag;go_wp2
          go_region_held3 (fun w'=>w'.cell? ⟨w.heap.size,0,none⟩=some (.slice R f.p.length cp)/\w'.cell? ⟨w.heap.size,1,none⟩=some (.int .i64 f.ret)/\w'.cell? ⟨w.heap.size,2,none⟩=some (.slice S f.s.length cs)/\w'.cell? ⟨w.heap.size,3,none⟩=some (.slice (some ⟨Y,ob,none⟩) f.b.length Z)/\w'.cell? ⟨C.heap.size,0,none⟩=some (.int .i64 x.op)/\w'.cell? ⟨C.heap.size,3,none⟩=some (.slice (some ⟨ba,oa,none⟩) x.args.length ca)/\w'.cell? ⟨C.heap.size,5,none⟩=some (.slice (some ⟨bt,ot,none⟩) x.to.length ct)/\w'.cell? ⟨ba,oa+m,none⟩=some (.int .i64 z)/\w'.cell? ⟨bt,ot+m,none⟩=some (.int .i64 K)/\w'.cell? ⟨bi,oi+K,none⟩=some (.bool true)) (first|exact kp.out _ F.drew|exact kp.out _ g3) (first|(go_at_call 115;refine(T.out _ F.drew).mono ?_;rintro e w3 ⟨rfl,ar⟩;have g3:Gr wy w3:=(F.drew).trans ar))
          cases th with
          | true =>
           go_wp2;go_roundw;case rel=>exact⟨m+1,by omega,by go_num,g3,by (show _=_;rw[U.out,L.out,X.out];simp)⟩
           case measure=>simp[intOf];omega
          | false =>
           go_wp2;go_ret;exact⟨cZ (by rw[ap.out,ao.out,U.out,L.out];simp),E.trans (A.trans (p.trans g3))⟩
        ·have L:Hid (E1 f g d k j x z (x.to.getD m 0)=Eg f g z k j):=by
          show _=_;unfold E1;rw[yt ho]
         have a9:(x.op == 28)=false:=by simp[ho]
         have kp:Hid (∀w',Gr wy w'->(w'.cell? ⟨w.heap.size,0,none⟩=some (.slice R f.p.length cp)/\w'.cell? ⟨w.heap.size,1,none⟩=some (.int .i64 f.ret)/\w'.cell? ⟨w.heap.size,2,none⟩=some (.slice S f.s.length cs)/\w'.cell? ⟨w.heap.size,3,none⟩=some (.slice (some ⟨Y,ob,none⟩) f.b.length Z)/\w'.cell? ⟨C.heap.size,0,none⟩=some (.int .i64 x.op)/\w'.cell? ⟨C.heap.size,3,none⟩=some (.slice (some ⟨ba,oa,none⟩) x.args.length ca)/\w'.cell? ⟨C.heap.size,5,none⟩=some (.slice At x.to.length ct)/\w'.cell? ⟨ba,oa+m,none⟩=some (.int .i64 z))):=fun w' q=>⟨(B0.out w' (A.trans (p.trans q))).1,(B0.out w' (A.trans (p.trans q))).2.1,(B0.out w' (A.trans (p.trans q))).2.2.1,(B0.out w' (A.trans (p.trans q))).2.2.2,(q.cell C.heap.size 0 (by omega)).trans (B1.out 0),(q.cell C.heap.size 3 (by omega)).trans (B1.out 3),(q.cell C.heap.size 5 (by omega)).trans (B1.out 5),((E.trans (A.trans (p.trans q))).cell ba (oa+m) aB).trans (aj m z hz)⟩;have T:Hid (∀G,Gr wy G->Calls prog 115 #[.agg #[.slice R f.p.length cp,.int .i64 f.ret,.slice S f.s.length cs,.slice (some ⟨Y,ob,none⟩) f.b.length Z],vg,.int .i64 z,.int .i64 (k:Int),.int .i64 (j:Int)] G (RG (.bool (Eg f g z k j)) G)):=ai.out k j (by omega) (by omega);clear hr2 hz ae B aj am ai ho;obtain⟨th,ag⟩:=xJ (Eg f g z k j);rw[ag]at T L;clear ag;go_wp2
         go_region_held3 (fun w'=>w'.cell? ⟨w.heap.size,0,none⟩=some (.slice R f.p.length cp)/\w'.cell? ⟨w.heap.size,1,none⟩=some (.int .i64 f.ret)/\w'.cell? ⟨w.heap.size,2,none⟩=some (.slice S f.s.length cs)/\w'.cell? ⟨w.heap.size,3,none⟩=some (.slice (some ⟨Y,ob,none⟩) f.b.length Z)/\w'.cell? ⟨C.heap.size,0,none⟩=some (.int .i64 x.op)/\w'.cell? ⟨C.heap.size,3,none⟩=some (.slice (some ⟨ba,oa,none⟩) x.args.length ca)/\w'.cell? ⟨C.heap.size,5,none⟩=some (.slice At x.to.length ct)/\w'.cell? ⟨ba,oa+m,none⟩=some (.int .i64 z)) (first|exact kp.out _ F.drew|exact kp.out _ g3) (first|(go_at_call 115;refine(T.out _ F.drew).mono ?_;rintro e w3 ⟨rfl,ar⟩;have g3:Gr wy w3:=(F.drew).trans ar))
         cases th with
         | true =>
          go_wp2;go_roundw;case rel=>exact⟨m+1,by omega,by go_num,g3,by (show _=_;rw[U.out,L.out,X.out];simp)⟩
          case measure=>simp[intOf];omega
         | false =>
          go_wp2;go_ret;exact⟨cZ (by rw[ap.out,ao.out,U.out,L.out];simp),E.trans (A.trans (p.trans g3))⟩
def iA (l:List Ins)(j:Nat):Bool:=decide (j=0) || decide ((l[j-1]?.map (·.op)).getD 0=28)
theorem fQ (l:List Ins)(j:Nat)(x:Ins)(h:l[j]?=some x):iA l (j+1)=decide (x.op=28):=by simp[iA,h]
theorem rX (v:Value)(f:Fn)(w:World)(hf:FnAt w.heap.size w v f)(hs1:1<=f.b.length)(hs:f.b.length<=100000)
  (hwf:Hid (∀l∈f.b,l.length<=100000)) :
  Calls prog 70 #[v] w (RG (.bool (C7 f)) w):=by
 have aC:=hf;obtain⟨vp,vs,vb,rfl,hp,aX,hb⟩:=hf;obtain⟨Ap,cp,rfl,-,-,-⟩:=hp;obtain⟨As,cs,rfl,-,-,-⟩:=aX;obtain⟨Ab,cb,rfl,-,a3,aB⟩:=hb;obtain⟨bb,ob,rfl,aj,M⟩:=aB (by omega);obtain⟨W,hW⟩:=xJ (w.alloc (.cells #[.slice Ap f.p.length cp,.int .i64 f.ret,.slice As f.s.length cs,.slice (some ⟨bb,ob,none⟩) f.b.length cb] 36));have t:Gr w W:=by rw[<-hW];exact(yO w).alloc _
 have a2:W.heap.size=w.heap.size+1:=by rw[<-hW];simp
 have b0:∀o,W.cell? ⟨w.heap.size,o,none⟩=(#[.slice Ap f.p.length cp,.int .i64 f.ret,.slice As f.s.length cs,.slice (some ⟨bb,ob,none⟩) f.b.length cb]:Array Value)[o]?:=by intro o;rw[<-hW];exact yo _ _ _ _ _ _ (heap_alloc_new w _)
 have B0:Hid (∀w',Gr W w'->w'.cell? ⟨w.heap.size,0,none⟩=some (.slice Ap f.p.length cp)/\w'.cell? ⟨w.heap.size,1,none⟩=some (.int .i64 f.ret)/\w'.cell? ⟨w.heap.size,2,none⟩=some (.slice As f.s.length cs)/\w'.cell? ⟨w.heap.size,3,none⟩=some (.slice (some ⟨bb,ob,none⟩) f.b.length cb)) :=
  fun w' g=>⟨(g.cell w.heap.size 0 (by omega)).trans (b0 0),(g.cell w.heap.size 1 (by omega)).trans (b0 1),(g.cell w.heap.size 2 (by omega)).trans (b0 2),(g.cell w.heap.size 3 (by omega)).trans (b0 3)⟩
 obtain⟨g,ad⟩:∃g,g=n5 f:=⟨_,rfl⟩;have aD:g.length=f.b.length:=by rw[ad];simp[n5]
 have HS:Hid (C7 f=(f.b.all Ref.laid && (AC g 0).isEmpty && EU g f.b 0)):=by show _=_;rw[ad];rfl
 have aJ:Hid ((∀l∈f.b,l≠[])->∀A,Gr w A->Calls prog 110 #[.agg #[.slice Ap f.p.length cp,.int .i64 f.ret,.slice As f.s.length cs,.slice (some ⟨bb,ob,none⟩) f.b.length cb]] A fun e w'=>∃u,e=.returned u/\TabAt w'.heap.size w' u g/\Gr A w'):=by rw[ad];exact fun K A g1=>kh _ f A (aC.gr g1) hs K
 have ah:Hid (∀A u (z:Int),TabAt A.heap.size A u g->Calls prog 111 #[u,.int .i64 z] A fun e w'=>∃v,e=.returned v/\IntsAt w'.heap.size w' v (AC g z)/\Gr A w') :=
  fun A u z h=>oK u g z A h (by omega)
 have a0:=dJ aD;have HC:=dJ M;obtain⟨-,-,-,k3⟩:=B0.out W (yO _);clear ad aD b0 M aB aC
 go_enter func70, ntmps70
 go_wp2_with fail
 go_loopw [3,4,5] (fun b _ _ wr=>∃k:Nat,k<=f.b.length/\b=.int .i64 k/\Gr W wr/\Hid (f.b.all Ref.laid=(f.b.drop k).all Ref.laid)/\Hid (∀l∈f.b.take k,l≠[])) (fun b _ _ _=>f.b.length-(intOf b).toNat)
 case atStart=>exact⟨0,yI _,rfl,yO _,rfl,fun l hl=>by simp at hl⟩
 case round =>
  obtain⟨k,hk,rfl,J,m,G⟩:=hrel;obtain⟨wo,rfl⟩:∃wo:World,wo=wr:=⟨_,rfl⟩;obtain⟨c0,c1,c2,c3⟩:=B0.out _ J;clear k3;rcases hr:f.b.drop k with _|⟨l,r⟩
  ·have an:=dw hr hk;have HE:Hid (f.b.all Ref.laid=true):=by show _=_;rw[m.out,hr];rfl
   subst an;have K:∀l∈f.b,l≠[]:=by have:=G.out;rwa [yv]at this
   have ae:=dJ (aJ.out K);clear hr m G K;by_cases af:0<(AC g 0).length
   ·have aW:(0:Int)<((AC g 0).length:Int):=by omega
    go_wp2_with (first|(go_at_call 110;refine(ae.out _ (t.trans J)).mono ?_;rintro e A ⟨vg,rfl,L,g1⟩)|(go_at_call 111;refine(ah.out _ _ _ L).mono ?_;rintro e w2 ⟨vb,rfl,au,g2⟩;obtain⟨A2,aP,rfl,-,aA,-⟩:=au))
    go_ret;exact⟨cZ (by rw[HS.out];cases hbe:AC g 0 with|nil=>(rw[hbe]at af;simp at af)|cons a b=>simp),(t.trans J).trans (g1.trans g2)⟩
   ·have aU:((AC g 0).length:Int)<=0:=by omega
    have aL:=dJ aU
    go_wp2_with (first|(go_at_call 110;refine(ae.out _ (t.trans J)).mono ?_;rintro e A ⟨vg,rfl,L,g1⟩)|(go_at_call 111;refine(ah.out _ _ _ L).mono ?_;rintro e w2 ⟨vb,rfl,au,g2⟩;obtain⟨A2,aP,rfl,-,aA,-⟩:=au))
    have HP:Hid (C7 f=EU g f.b 0):=by show _=_;have:AC g 0=[]:=yB (by have:=aL.out;omega);rw[HS.out,HE.out,this];simp
    have az:Hid (TabAt w2.heap.size w2 vg g):=L.gr g2;have E:Gr W w2:=J.trans (g1.trans g2);obtain⟨-,-,-,d3⟩:=B0.out _ E;clear L c0 c1 c2 c3
    go_loopw [7,8,9] (fun b _ _ wr=>∃k:Nat,k<=f.b.length/\b=.int .i64 k/\Gr w2 wr/\Hid (C7 f=EU g (f.b.drop k) k)) (fun b _ _ _=>f.b.length-(intOf b).toNat)
    case atStart=>exact⟨0,yI _,rfl,yO _,HP⟩
    case round =>
     obtain⟨k,hk,rfl,N,m⟩:=hrel;obtain⟨wp,rfl⟩:∃wp:World,wp=wr:=⟨_,rfl⟩;obtain⟨-,-,-,aQ⟩:=B0.out _ (E.trans N);clear d3;rcases hr:f.b.drop k with _|⟨l,r⟩
     ·have an:=dw hr hk;have aK:Hid (C7 f=true):=by show _=_;rw[m.out,hr];rfl
      subst an;clear hr m;go_wp2;go_ret;exact⟨cZ (by rw[aK.out]),t.trans (E.trans N)⟩
     ·obtain⟨aV,hl,T⟩:=dr hr;obtain⟨u,hu,ar⟩:=HC.out k l hl;have aq:=((t.trans (E.trans N)).cell _ _ aj).trans hu;obtain⟨Al,cl,rfl,p1,p2,p3⟩:=ar;have P3:=dJ p3;have HU:=dJ hu;have HL:Hid (l∈f.b):=xT hl;have HR:Hid (C7 f=(l.all (fun x=>decide (x.op≠28) || D7 x.to (AC g k)) && EU g r (k+1))):=by show _=_;rw[m.out,hr];rfl
      have ac:Hid (f.b.drop (k+1)=r):=T;clear hr hl T m hu p3;go_wp2
      go_loopw [8,9] (fun i _ wr=>∃j:Nat,j<=l.length/\i=.int .i64 j/\Gr w2 wr/\Hid (l.all (fun x=>decide (x.op≠28) || D7 x.to (AC g k))=(l.drop j).all (fun x=>decide (x.op≠28) || D7 x.to (AC g k)))) (fun i _ _=>l.length-(intOf i).toNat)
      case atStart=>exact⟨0,yI _,rfl,N,rfl⟩
      case round =>
       obtain⟨j,hj,rfl,C,d⟩:=hrel;obtain⟨O,rfl⟩:∃O:World,O=wr:=⟨_,rfl⟩;obtain⟨-,-,-,a1⟩:=B0.out _ (E.trans C);have a5:=((t.trans (E.trans C)).cell _ _ aj).trans HU.out;clear aQ aq;rcases hr1:l.drop j with _|⟨x,U⟩
       ·have am:=dw hr1 hj;have Y:Hid (l.all (fun x=>decide (x.op≠28) || D7 x.to (AC g k))=true):=by show _=_;rw[d.out,hr1];rfl
        subst am;clear hr1 d;go_wp2;go_roundw;case rel=>first|exact⟨k+1,by omega,by go_num,C,by (show _=_;rw[HR.out,ac.out,Y.out];simp)⟩|((repeat apply Exists.intro);refine⟨?_,rfl⟩;exact⟨k+1,by omega,by go_num,C,by (show _=_;rw[HR.out,ac.out,Y.out];simp)⟩)
        case measure=>simp[intOf];omega
       ·obtain⟨aE,hx,D⟩:=dr hr1;obtain⟨bl,ol,rfl,F,Q⟩:=P3.out (by omega);obtain⟨va,vt,i0,i1,i2,i3,i4,i5,aY,aH⟩:=Q j x hx;have H:Hid (l.all (fun x=>decide (x.op≠28) || D7 x.to (AC g k))=((decide (x.op≠28) || D7 x.to (AC g k)) && U.all (fun x=>decide (x.op≠28) || D7 x.to (AC g k)))):=by show _=_;rw[d.out,hr1];rfl
        have I:Hid (l.drop (j+1)=U):=D;have gw:=t.trans (E.trans C);have j0:=(gw.cell _ _ F).trans i0;have j1:=(gw.cell _ _ F).trans i1;have j2:=(gw.cell _ _ F).trans i2;have j3:=(gw.cell _ _ F).trans i3;have j4:=(gw.cell _ _ F).trans i4;have j5:=(gw.cell _ _ F).trans i5;have HT:Hid (∀w',Gr w w'->IntsAt w'.heap.size w' vt x.to):=fun w' q=>aH.gr q;obtain⟨Aa,ca,rfl,-,-,-⟩:=aY;obtain⟨At,ct,rfl,-,-,-⟩:=aH;clear hr1 hx D d Q i0 i1 i2 i3 i4 i5;obtain⟨wy,av⟩:=xJ (O.alloc (.cells #[.int .i64 x.op,.int .i64 x.w,.int .i64 x.g,.slice Aa x.args.length ca,.int .u32 x.i,.slice At x.to.length ct] 68))
        have b1:∀o,wy.cell? ⟨O.heap.size,o,none⟩=(#[.int .i64 x.op,.int .i64 x.w,.int .i64 x.g,.slice Aa x.args.length ca,.int .u32 x.i,.slice At x.to.length ct]:Array Value)[o]?:=by intro o;rw[<-av];exact yo _ _ _ _ _ _ (heap_alloc_new O _)
        have R:Gr w2 wy:=by rw[<-av];exact C.alloc _
        have a6:wy.heap.size=O.heap.size+1:=by rw[<-av];simp
        have kp:Hid (∀w',Gr wy w'->w'.cell? ⟨O.heap.size,0,none⟩=some (.int .i64 x.op)/\w'.cell? ⟨O.heap.size,5,none⟩=some (.slice At x.to.length ct)):=fun w' q=>⟨(q.cell O.heap.size 0 (by omega)).trans (b1 0),(q.cell O.heap.size 5 (by omega)).trans (b1 5)⟩;obtain⟨e0,e5⟩:=kp.out wy (yO _);clear b1;rcases Decidable.em (x.op=28) with ho|ho
        ·have aZ:(x.op == 28)=true:=by simp[ho]
         have HO:=dJ ho;obtain⟨sm,ap⟩:∃sm,decide (x.to=AC g k)=sm:=⟨_,rfl⟩;have ay:Hid (D7 x.to (AC g k)=sm):=by show _=_;rw[Gt,ap]
         have aI:Hid (∀A v1,Gr w A->IntsAt A.heap.size A v1 (AC g k)->Calls prog 112 #[.slice At x.to.length ct,v1] A (RG (.bool sm) A)):=by rw[<-ap];exact fun A v1 q h=>fC _ _ _ _ A (HT.out A q) h
         clear ho ap;go_wp2
         go_region_held3 (fun w'=>w'.cell? ⟨O.heap.size,0,none⟩=some (.int .i64 x.op)/\w'.cell? ⟨O.heap.size,5,none⟩=some (.slice At x.to.length ct)) (first|exact kp.out _ (yO wy).drew|exact kp.out _ g3|exact kp.out _ g4) (first|(go_at_call 111;refine(ah.out _ _ _ (az.out.gr R.drew)).mono ?_;rintro e w3 ⟨a7,rfl,aG,aR⟩;have g3:Gr wy w3:=((yO wy).drew).trans aR)|(go_at_call 112;refine(aI.out _ _ (t.trans (E.trans (R.trans g3))) aG).mono ?_;rintro e w4 ⟨rfl,aS⟩;have g4:Gr wy w4:=g3.trans aS))
         cases sm with
         | true =>
          go_wp2;go_roundw;case rel=>exact⟨j+1,by omega,by go_num,R.trans g4,by (show _=_;rw[H.out,ay.out,I.out];simp)⟩
          case measure=>simp[intOf];omega
         | false =>
          go_wp2;go_ret;exact⟨cZ (by rw[HR.out,H.out,ay.out,HO.out];simp),t.trans (E.trans (R.trans g4))⟩
        ·have aZ:(x.op == 28)=false:=by simp[ho]
         have HO:=dJ ho;clear ho;go_wp2;go_quiet (fail);go_wp2;go_roundw;case rel=>exact⟨j+1,by omega,by go_num,R.drewN _,by (show _=_;rw[H.out,I.out];simp[HO.out])⟩
         case measure=>simp[intOf];omega
  ·obtain⟨aV,hl,T⟩:=dr hr;obtain⟨u,hu,ar⟩:=HC.out k l hl;have aq:=((t.trans J).cell _ _ aj).trans hu;obtain⟨Al,cl,rfl,p1,p2,p3⟩:=ar;have hlen:l.length<=100000:=hwf.out l (xT hl);have HR:Hid (f.b.all Ref.laid=(Ref.laid l && r.all Ref.laid)):=by show _=_;rw[m.out,hr];rfl
   have ac:Hid (f.b.drop (k+1)=r):=T
   have HN:Hid (l≠[]->∀y∈f.b.take (k+1),y≠[]):=by
    intro h y hy;obtain⟨h1,e1⟩:=xS.1 hl;rw[yx h1,e1]at hy;rcases yz.1 hy with h2|h2
    ·exact G.out y h2
    ·simp at h2;subst h2;exact h
   have P3:=dJ p3;clear hr hl T m hu p3 G;by_cases S:l.length=0
   ·have n0:((l.length:Int) == 0)=true:=by simp[S]
    have HE:Hid (Ref.laid l=false):=by show _=_;rw[yB S];rfl
    clear S;go_wp2_with fail;go_ret;exact⟨cZ (by rw[HS.out,HR.out,HE.out];simp),t.trans J⟩
   ·have n0:((l.length:Int) == 0)=false:=by rw[beq_eq_false_iff_ne];omega
    have K:l≠[]:=fun h=>S (by rw[h];rfl);have aM:=dJ (HN.out K);have ai:Hid (Ref.laid l=Be l true):=by show _=_;unfold Ref.laid;cases l with|nil=>exact absurd rfl K|cons a b=>rfl
    obtain⟨bl,ol,rfl,F,Q⟩:=P3.out (by omega);have ax:=dJ Q;clear S K Q HN;go_wp2_with fail
    go_loopw [5] (fun i wr=>∃j:Nat,j<=l.length/\i=.int .i64 j/\Gr W wr/\Hid (Be l true=Be (l.drop j) (iA l j))) (fun i _=>l.length-(intOf i).toNat)
    case atStart=>exact⟨0,yI _,rfl,J,rfl⟩
    case round =>
     obtain⟨j,hj,rfl,B,d⟩:=hrel;clear aq c0 c1 c2 c3;rcases hr1:l.drop j with _|⟨x,U⟩
     ·have am:=dw hr1 hj;have Y:Hid (Be l true=true):=by show _=_;rw[d.out,hr1];rfl
      subst am;clear hr1 d;go_wp2_with fail;go_roundw;case rel=>exact⟨k+1,by omega,by go_num,B,by (show _=_;rw[HR.out,ac.out,ai.out,Y.out];simp),aM.out⟩
      case measure=>simp[intOf];omega
     ·obtain⟨aE,hx,D⟩:=dr hr1;obtain⟨va,vt,i0,-,-,-,-,-,-,-⟩:=ax.out j x hx;have j0:=((t.trans B).cell _ _ F).trans i0;have H:Hid (Be l true=((Cb x.op == U.isEmpty) && (decide (x.op≠28) || iA l j) && Be U (decide (x.op=28)))):=by show _=_;rw[d.out,hr1];rfl
      have I:Hid (Be U (decide (x.op=28))=Be (l.drop (j+1)) (iA l (j+1))):=by show _=_;rw[fQ l j x hx,D]
      have aF:U.isEmpty=decide ((j:Int)=(l.length:Int)-1):=by
       have h1:U.length=l.length-(j+1):=by rw[<-D];simp
       cases U with
       | nil=>rw[List.length_nil]at h1;simp only[List.isEmpty_nil];symm;rw[decide_eq_true_eq];omega
       | cons a b=>rw[List.length_cons]at h1;simp only[List.isEmpty_cons];symm;rw[decide_eq_false_iff_not];omega
      obtain⟨em,aT⟩:∃em,((j:Int) == (l.length:Int)-1)=em:=⟨_,rfl⟩;have Z:Hid (U.isEmpty=em):=by show _=_;rw[aF,<-aT];rfl
      obtain⟨la,ao⟩:=xJ (Cb x.op);have ag:Hid (∀A,Calls prog 109 #[.int .i64 x.op] A (RS (.bool la) A)):=by rw[<-ao];exact fun A=>jS x.op A
      have aa:=dJ ao;have aO:Hid (∀j' X,l[j']?=some X->w.cell? ⟨bl,ol+j' * 6,none⟩=some (.int .i64 X.op)):=fun j' X h=>by obtain⟨_,_,i0,-⟩:=ax.out j' X h;exact i0
      clear hr1 hx D d i0 aF ao;by_cases ak:em=la
      ·subst ak;by_cases al:j=0
       ·have ab:Hid (iA l j=true):=by show _=_;rw[al];rfl
        have hz:(j:Int)<=0:=by omega
        clear al;cases em <;>
        ·go_wp2_with (go_at_call 109;refine(ag.out _).mono ?_;rintro e A ⟨rfl,rfl⟩);go_roundw;case rel=>exact⟨j+1,by omega,by go_num,B,by (show _=_;rw[H.out,aa.out,Z.out,ab.out,I.out];simp)⟩
         case measure=>simp[intOf];omega
       ·obtain⟨p,hp⟩:∃p,p+1=j:=⟨j-1,by omega⟩;obtain⟨X,aw⟩:∃X,l[p]?=some X:=⟨l[p]'(by omega),by simp[show p<l.length by omega]⟩;have j1:=((t.trans B).cell _ _ F).trans (aO.out p X aw);have ab:Hid (iA l j=decide (X.op=28)):=by show _=_;rw[<-hp];exact fQ l p X aw
        have wj:(j:Int)-1=p:=by omega
        have hz:(0:Int)<j:=by omega
        have a4:(p:Int)<(l.length:Int):=by omega
        clear aw al hp;cases em <;>
        ·go_wp2_with (go_at_call 109;refine(ag.out _).mono ?_;rintro e A ⟨rfl,rfl⟩)
         all_goals first
          | (go_ret;exact⟨cZ (by rw[HS.out,HR.out,ai.out,H.out,aa.out,Z.out,ab.out];grind),t.trans B⟩)
          | (go_roundw
             case rel=>exact⟨j+1,by omega,by go_num,B,by (show _=_;rw[H.out,aa.out,Z.out,ab.out,I.out];grind)⟩
             case measure=>simp[intOf];omega)
      ·have aN:=dJ ak;clear ak
       cases em<;>cases la<;>first
        | exact absurd rfl aN.out
        | (go_wp2_with (go_at_call 109;refine(ag.out _).mono ?_;rintro e A ⟨rfl,rfl⟩)
           go_ret
           exact⟨cZ (by rw[HS.out,HR.out,ai.out,H.out,aa.out,Z.out];simp),t.trans B⟩)
end
