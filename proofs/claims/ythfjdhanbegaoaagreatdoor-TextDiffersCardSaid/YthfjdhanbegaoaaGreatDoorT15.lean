/- Parts. -/
import Derived.Test.YthfjdhanbegaoaaGreatDoorT02
set_option linter.unusedSimpArgs false
set_option linter.unusedVariables false
set_option maxRecDepth 100000
set_option maxHeartbeats 16000000
open Go.Proofs.Tryz
namespace Go.Proofs.YthfjdhanbegaoaaGreatDoor
section
open Go.RowKit
theorem kh (v:Value)(f:Fn)(n:Nat)(w:World)(hf:FnAt w.heap.size w v f)(hn:n<=f.blocks.length)(hs:f.blocks.length<=100000) :
  Calls prog 158 #[v,.int .i64 n] w (RG (.int .i64 (Ref.number f n)) w):=by
 obtain⟨vp,vs,vb,rfl,Q,t,H⟩:=hf;obtain⟨B,F,rfl,R,T,r⟩:=Q;obtain⟨C,G,rfl,U,V,y⟩:=t;obtain⟨A,E,rfl,I,J,j⟩:=H;clear r y;have m:Gr w (w.alloc (.cells #[.slice B f.params.length F,.int .i64 f.ret,.slice C f.slots.length G,.slice A f.blocks.length E] 25)):=(qj _).alloc _
 go_enter func158, ntmps158
 go_wp2
 go_loop [5,6] (fun s b=>∃k N:Nat,k<=n/\b=.int .i64 k/\s=.int .i64 N/\N<=17592186044416*(k+1)/\Hid (N=Ref.number f k)) (fun _ b=>n-(intOf b).toNat)
 case atStart=>exact⟨0,_,pR _,rfl,rfl,by omega,by show _=_;simp[Ref.number,Ref.total]⟩
 case round =>
  obtain⟨k,N,hk,rfl,rfl,Z,g⟩:=hrel;by_cases O:k<n
  ·obtain⟨X,ob,rfl,K,d⟩:=j (by omega);obtain⟨l,p⟩:∃l,f.blocks[k]?=some l:=⟨f.blocks[k],by simp[show k<f.blocks.length by omega]⟩;obtain⟨u,hu,z⟩:=d k l p;obtain⟨W,Y,rfl,L,M,q⟩:=z
   have D:Hid (Ref.number f (k+1)=Ref.number f k+l.length):=by show _=_;unfold Ref.number;rw[Ref.total_take_succ _ _ _ p];omega
   clear p d j q;go_wp2;go_round;case rel=>exact⟨k+1,N+l.length,by omega,by go_num,by go_num,by omega,by show _=_;rw[D.out,g.out]⟩
   case measure=>simp[intOf];omega
  ·obtain rfl:k=n:=by omega
   go_wp2;go_ret;exact⟨df (by rw[g.out]),m⟩
theorem lv (v:Value)(f:Fn)(w:World)(hf:FnAt w.heap.size w v f)(hs:f.blocks.length<=100000) :
  Calls prog 132 #[v] w (RG (.int .i64 (Ref.count f)) w):=by
 have g:=hf;obtain⟨L,M,K,rfl,E,m,A⟩:=hf;obtain⟨r,y,rfl,F,G,l⟩:=E;obtain⟨t,z,rfl,I,J,p⟩:=m;obtain⟨q,u,rfl,B,D,j⟩:=A;clear l p j;have d:Gr w (w.alloc (.cells #[.slice r f.params.length y,.int .i64 f.ret,.slice t f.slots.length z,.slice q f.blocks.length u] 25)):=(qj _).alloc _;have C:=kh _ f f.blocks.length _ (g.gr d) (pS _) hs;have H:=dJ C;clear C g
 go_enter func132, ntmps132
 go_wp2_with fail;refine H.out.mono ?_;rintro e N ⟨rfl,g1⟩;go_wp2_with fail;go_ret;exact⟨rfl,d.trans g1⟩
theorem jh (v:Value)(f:Fn)(z:Int)(w:World)(hf:FnAt w.heap.size w v f)(hs:f.blocks.length<=100000)(hz1:-9223372036854775808<=z)(hz2:z<=9223372036854775807) :
  Calls prog 133 #[v,.int .i64 z] w (RG (.tuple #[.int .i64 (Ref.whereIs f z).1,.int .i64 (Ref.whereIs f z).2]) w):=by
 obtain⟨vp,vs,vb,rfl,Z,C,Q⟩:=hf;obtain⟨H,K,rfl,aa,ab,B⟩:=Z;obtain⟨I,L,rfl,ac,ad,D⟩:=C;obtain⟨G,J,rfl,R,T,q⟩:=Q;clear B D;have p:Gr w (w.alloc (.cells #[.slice H f.params.length K,.int .i64 f.ret,.slice I f.slots.length L,.slice G f.blocks.length J] 25)):=(qj _).alloc _
 go_enter func133, ntmps133
 go_wp2
 go_loop [6,7] (fun s b=>∃k N:Nat,k<=f.blocks.length/\b=.int .i64 k/\s=.int .i64 N/\N<=17592186044416*(k+1)/\Hid (Ref.whereIs f z=Ref.whereFrom z (f.blocks.drop k) k N)) (fun _ b=>f.blocks.length-(intOf b).toNat)
 case atStart=>exact⟨0,_,pR _,rfl,rfl,by omega,by show _=_;simp[Ref.whereIs]⟩
 case round =>
  obtain⟨k,N,V,rfl,rfl,hN,d⟩:=hrel;rcases hr:f.blocks.drop k with _|⟨l,r⟩
  ·have y:=dm hr V;subst y;have j:Hid (Ref.whereIs f z=(-1,-1)):=by show _=_;rw[d.out,hr];rfl
   clear hr d;go_wp2;go_ret2;exact⟨du (by rw[j.out];rfl),p⟩
  ·obtain⟨Y,F,t⟩:=dj hr;obtain⟨bb,ob,rfl,U,g⟩:=q (by omega);obtain⟨u,hu,E⟩:=g k l F;obtain⟨Al,cl,rfl,W,X,A⟩:=E
   have j:Hid (Ref.whereIs f z=if (N:Int)<=z/\z<N+l.length then ((k:Int),z-N) else Ref.whereFrom z r (k+1) (N+l.length)):=by show _=_;rw[d.out,hr];rfl
   have m:Hid (f.blocks.drop (k+1)=r):=t;clear hr F t d g q A;by_cases M:(N:Int)<=z
   ·by_cases O:z<N+l.length
    ·go_wp2;go_ret2;exact⟨du (by rw[j.out,pB ⟨M,O⟩];rfl),p⟩
    ·go_wp2;go_round;case rel=>exact⟨k+1,N+l.length,by omega,by go_num,by go_num,by omega,by show _=_;rw[j.out,pC (by omega),m.out]⟩
     case measure=>simp[intOf];omega
   ·go_wp2;go_round;case rel=>exact⟨k+1,N+l.length,by omega,by go_num,by go_num,by omega,by show _=_;rw[j.out,pC (by omega),m.out]⟩
    case measure=>simp[intOf];omega
theorem na (v:Value)(f:Fn)(z:Int)(w:World)(hf:FnAt w.heap.size w v f)(hs:f.blocks.length<=100000)(hz1:-9223372036854775808<=z)(hz2:z<=9223372036854775807) :
  Calls prog 104 #[v,.int .i64 z] w (RG (.int .i64 (Ref.kind f z)) w):=by
 have m:=hf;obtain⟨vp,vs,vb,rfl,hp,U,hb⟩:=hf;obtain⟨Ap,cp,rfl,ai,aj,q⟩:=hp;obtain⟨As,cs,rfl,ak,al,V⟩:=U;obtain⟨Ab,cb,rfl,ab,ac,p⟩:=hb;clear V;have d:Gr w (w.alloc (.cells #[.slice Ap f.params.length cp,.int .i64 f.ret,.slice As f.slots.length cs,.slice Ab f.blocks.length cb] 25)):=(qj _).alloc _;by_cases hz:z<0
 ·clear q p m
  go_enter func104, ntmps104
  go_wp2;go_ret;exact⟨df (by unfold Ref.kind;rw[pB (by omega)]),d⟩
 ·have C:=lv _ f _ (m.gr d) hs;have J:=dJ C;clear C;by_cases hc:(Ref.count f:Int)<=z
  ·clear q p m
   go_enter func104, ntmps104
   go_wp2_with (go_at_call 132;refine J.out.mono ?_;rintro e r ⟨rfl,g1⟩);go_ret;exact⟨df (by unfold Ref.kind;rw[pB (by omega)]),d.trans g1⟩
  ·by_cases hp:z<f.params.length
   ·obtain⟨bp,op,rfl,O,F⟩:=q (by omega);obtain⟨n,rfl⟩:=pg (show 0<=z by omega);obtain⟨y,Z⟩:∃y,f.params[n]?=some y:=⟨f.params[n]'(by omega),by simp[show n<f.params.length by omega]⟩;have D:=F n y Z;have hk:Ref.kind f n=y:=by unfold Ref.kind;rw[pC (by omega),pB (by omega)];simp[Z]
    have L:=dJ hk;have z0:(0:Int)<=n:=by omega
    have z1:n<f.params.length:=by omega
    clear hk Z F q p m
    go_enter func104, ntmps104
    go_wp2_with (go_at_call 132;refine J.out.mono ?_;rintro e r ⟨rfl,g1⟩;have A:=g1.cell w.heap.size 0 (by simp);have B:=g1.cell w.heap.size 3 (by simp);have ad:=(g1.cell bp (op+n) (by simp;omega)).trans ((d.cell bp (op+n) O).trans D);simp at A B);go_ret;exact⟨df (by rw[L.out]),d.trans g1⟩
   ·obtain⟨j,i,l,x,X,H,I,-⟩:=Ref.whereIs_some f z (by omega) (by omega);obtain⟨af,-⟩:=oZ.1 H;obtain⟨ae,-⟩:=oZ.1 I;obtain⟨bb,ob,rfl,M,g⟩:=p (by omega);obtain⟨u,hu,W⟩:=g j l H;obtain⟨Al,cl,rfl,ag,ah,G⟩:=W;obtain⟨bl,ol,rfl,N,E⟩:=G (by omega);obtain⟨va,vt,-,Y,-,-,-,-,-,-⟩:=E i x I
    have L:Hid (Ref.kind f z=x.width):=by show _=_;unfold Ref.kind;rw[pC (by omega),pC (by omega),X];simp[Ref.insAt?,H,I]
    have K:Hid (∀r,Gr w r->Calls prog 133 #[.agg #[.slice Ap f.params.length cp,.int .i64 f.ret,.slice As f.slots.length cs,.slice (some ⟨bb,ob,none⟩) f.blocks.length cb],.int .i64 z] r (RG (.tuple #[.int .i64 j,.int .i64 i]) r)):=fun r g1=>by have:=jh _ f z r (m.gr g1) hs hz1 hz2;rw[X]at this;exact this
    clear X H I q p m g G E
    go_enter func104, ntmps104
    go_wp2_with (first|(go_at_call 132;refine J.out.mono ?_;rintro e r ⟨rfl,g1⟩;have A:=g1.cell w.heap.size 0 (by simp);have Q:=g1.cell w.heap.size 1 (by simp);have R:=g1.cell w.heap.size 2 (by simp);have B:=g1.cell w.heap.size 3 (by simp);simp at A Q R B)|(go_at_call 133;refine(K.out _ (d.trans g1)).mono ?_;rintro e w2 ⟨rfl,g2⟩;have t:=g1.trans g2;have T:=t.cell w.heap.size 3 (by simp);simp at T;have am:=((d.trans t).cell bb (ob+j) M).trans hu;have aa:=((d.trans t).cell bl (ol+i*6+1) N).trans Y))
    go_ret;exact⟨df (by rw[L.out]),(d.trans g1).trans g2⟩
theorem nc {l:List Int}{k:Nat}{z:Int}{g:Int->Int}(h:l[k]?=some z):(l.take (k+1)).map g=(l.take k).map g++[g z]:=by obtain⟨d,e⟩:=oZ.1 h;rw[pG d,e];simp
theorem args_len (f:Fn)(x:Ins)(h:Ref.argument f x=true) :
  (x.op=14\/x.op=25\/x.op=27->x.args.length=2)/\(x.op=15->x.args.length=3)/\(x.op=16\/x.op=17\/x.op=18\/x.op=26\/x.op=30->x.args.length=1):=by
 have d:Ref.counts (Ref.shape f x) x=true:=by unfold Ref.argument at h;simp only[pD]at h;exact h.1.1.2
 refine⟨fun h=>?_,fun h=>?_,fun h=>?_⟩
 ·rcases h with h|h|h<;>simp[Ref.counts,Ref.shape,h]at d<;>omega
 ·simp[Ref.counts,Ref.shape,h]at d;omega
 ·rcases h with h|h|h|h|h<;>simp[Ref.counts,Ref.shape,h]at d<;>omega
theorem mH {l:List Int}(h:l.length=2):∃a b,l=[a,b]:=by match l,h with|[a,b],_=>exact⟨a,b,rfl⟩
theorem ny {l:List Int}(h:l.length=3):∃a b c,l=[a,b,c]:=by match l,h with|[a,b,c],_=>exact⟨a,b,c,rfl⟩
theorem iV {l:List Int}(h:l.length=1):∃a,l=[a]:=by match l,h with|[a],_=>exact⟨a,rfl⟩
theorem mI (f:Fn)(x:Ins)(v vx:Value)(w:World)(hf:FnAt w.heap.size w v f)(hx:jS w.heap.size w vx x)(hs:f.blocks.length<=100000)(hlen:x.args.length<=100000)
  (hwf:Hid (∀z∈x.args,-9223372036854775808<=z/\z<=9223372036854775807)) (hcnt:Hid (Ref.argument f x=true)) :
  Calls prog 61 #[v,vx] w (RG (.bool (Ref.typed f x)) w):=by
 have aa:=hf;obtain⟨vp,vs,vb,rfl,hp,⟨As,cs,rfl,-,-,-⟩,⟨Ab,cb,rfl,-,-,-⟩⟩:=hf;obtain⟨Ap,cp,rfl,-,-,-⟩:=hp;obtain⟨va,vt,rfl,⟨Aa,ca,rfl,-,aE,X⟩,⟨At,ct,rfl,-,aH,-⟩⟩:=hx;obtain⟨i0,hi,al,am,an⟩:=info_parts ej;obtain⟨W,hW⟩:=xJ ((w.alloc (.cells #[.slice Ap f.params.length cp,.int .i64 f.ret,.slice As f.slots.length cs,.slice Ab f.blocks.length cb] 25)).alloc (.cells #[.int .i64 x.op,.int .i64 x.width,.int .i64 x.flags,.slice Aa x.args.length ca,.int .u32 x.imm,.slice At x.to.length ct] 50));have L:Gr w W:=by rw[<-hW];exact((qj w).alloc _).alloc _
 have aD:W.heap.size=w.heap.size+2:=by rw[<-hW];simp
 have O:∀o,W.cell? ⟨w.heap.size,o,none⟩=(#[.slice Ap f.params.length cp,.int .i64 f.ret,.slice As f.slots.length cs,.slice Ab f.blocks.length cb]:Array Value)[o]?:=by intro o;rw[<-hW];exact px _ _ _ _ _ _ (heap_alloc2_old w _ _)
 have b1:∀o,W.cell? ⟨w.heap.size+1,o,none⟩=(#[.int .i64 x.op,.int .i64 x.width,.int .i64 x.flags,.slice Aa x.args.length ca,.int .u32 x.imm,.slice At x.to.length ct]:Array Value)[o]?:=by intro o;rw[<-hW];exact px _ _ _ _ _ _ (heap_alloc2_new w _ _)
 have HT:Hid (Ref.typed f x=(x.args.all (fun v=>decide (0<=Ref.kind f v)) && Ref.typedKinds f x (x.args.map (Ref.kind f)))):=rfl;unfold ef
 go_enter func61, ntmps61
 go_wp2;have HW:=dJ hW;clear hW
 go_loopw [5,6] (fun s i wr=>∃ys:List Int,ys.length<=x.args.length/\i=.int .i64 ys.length/\Own1 W.heap.size 3 wr s (ys.map (Value.int .i64))/\Gr W wr/\Hid (ys=(x.args.take ys.length).map (Ref.kind f))/\Hid (∀y∈ys,0<=y)) (fun _ i _=>x.args.length-(intOf i).toNat)
 case atStart=>exact⟨[],pR _,rfl,Own1.nil _ _ _,qj _,by show _=_;simp,fun y hy=>by simp at hy⟩
 case round =>
  obtain⟨ys,hk,rfl,p,t,ad,M⟩:=hrel;have c0:=(t.cell w.heap.size 0 (by omega)).trans (O 0);have c1:=(t.cell w.heap.size 1 (by omega)).trans (O 1);have c2:=(t.cell w.heap.size 2 (by omega)).trans (O 2);have c3:=(t.cell w.heap.size 3 (by omega)).trans (O 3);have d3:=(t.cell (w.heap.size+1) 3 (by omega)).trans (b1 3);simp at c0 c1 c2 c3 d3;by_cases ab:ys.length<x.args.length
  ·obtain⟨ba,oa,rfl,af,Z⟩:=X (by omega);obtain⟨z,hz⟩:∃z,x.args[ys.length]?=some z:=⟨x.args[ys.length],by simp[ab]⟩;have aj:=((L.trans t).cell ba (oa+ys.length) af).trans (Z ys.length z hz);have ah:=hwf.out z (pa hz);have HS:Hid (ys++[Ref.kind f z]=(x.args.take (ys.length+1)).map (Ref.kind f)):=by show _=_;rw[nc hz,<-ad.out]
   have HZ:Hid (z∈x.args):=pa hz
   have HC:Hid (∀T,Gr wr T->Calls prog 104 #[.agg #[.slice Ap f.params.length cp,.int .i64 f.ret,.slice As f.slots.length cs,.slice Ab f.blocks.length cb],.int .i64 z] T (RG (.int .i64 (Ref.kind f z)) T)):=fun T g1 =>
    na _ f z T (aa.gr ((L.trans t).trans g1)) hs ah.1 ah.2
   have z0:(0:Int)<=ys.length:=by omega
   have z1:(ys.length:Int)<(x.args.length:Int):=by omega
   have aG:=t.size;have kp:Hid (∀w',Gr W w'->(w'.cell? ⟨w.heap.size,0,none⟩=some (.slice Ap f.params.length cp)/\w'.cell? ⟨w.heap.size,1,none⟩=some (.int .i64 f.ret)/\w'.cell? ⟨w.heap.size,2,none⟩=some (.slice As f.slots.length cs)/\w'.cell? ⟨w.heap.size,3,none⟩=some (.slice Ab f.blocks.length cb)/\w'.cell? ⟨w.heap.size+1,3,none⟩=some (.slice (some ⟨ba,oa,none⟩) x.args.length ca)/\w'.cell? ⟨ba,oa+ys.length,none⟩=some (.int .i64 z))):=fun w' g=>⟨(g.cell w.heap.size 0 (by omega)).trans (O 0),(g.cell w.heap.size 1 (by omega)).trans (O 1),(g.cell w.heap.size 2 (by omega)).trans (O 2),(g.cell w.heap.size 3 (by omega)).trans (O 3),(g.cell (w.heap.size+1) 3 (by omega)).trans (b1 3),((L.trans g).cell ba (oa+ys.length) af).trans (Z ys.length z hz)⟩;clear Z X hz aa O b1;go_wp2
   go_region_held3 (fun w'=>w'.cell? ⟨w.heap.size,0,none⟩=some (.slice Ap f.params.length cp)/\w'.cell? ⟨w.heap.size,1,none⟩=some (.int .i64 f.ret)/\w'.cell? ⟨w.heap.size,2,none⟩=some (.slice As f.slots.length cs)/\w'.cell? ⟨w.heap.size,3,none⟩=some (.slice Ab f.blocks.length cb)/\w'.cell? ⟨w.heap.size+1,3,none⟩=some (.slice (some ⟨ba,oa,none⟩) x.args.length ca)/\w'.cell? ⟨ba,oa+ys.length,none⟩=some (.int .i64 z)) (first|exact kp.out _ t.drew|exact kp.out _ g1|exact kp.out _ (g1.alloc _)|exact kp.out _ g2) (first|(go_at_call 104;refine(HC.out _ ((qj _).drew)).mono ?_;rintro e T ⟨rfl,g0⟩;have g1:Gr W T:=(t.drew).trans g0;have ao:W.heap.size<=T.heap.size:=g1.size;have ac:=p.gr (((qj wr).drew).trans g0))|(refine mE (v:=u5) underlying22 hi al am an rfl (by omega) rfl (.tmp 15) (.tmp 23) (by rfl) (by rfl) ac rfl (by rfl) (by simp;omega) ao ?_;intro A1 c1 w2 J Y aF;have g2:Gr W w2:=g1.below Y (pS _)))
   obtain⟨b2,rfl,-,-,d⟩:=dr J (A:=A1) (c:=c1) (by simp) (by simp)
   have R:w2.cell? ⟨b2,ys.length,none⟩=some (.int .i64 (Ref.kind f z)):=by rw[d ys.length (by simp),pm (by simp)];simp
   have ae:=dJ J;clear d J;go_wp2
   ·have aB:Ref.kind f z<0:=by assumption
    go_ret
    exact⟨dc (by
      rw[HT.out]
      have:x.args.all (fun v=>decide (0<=Ref.kind f v))=false:=by rw[List.all_eq_false];exact⟨z,HZ.out,by simp;omega⟩
      rw[this];rfl),L.trans g2⟩
   ·have aC:0<=Ref.kind f z:=by assumption
    go_roundw;case rel=>exact⟨ys++[Ref.kind f z],by simp;omega,by simp,by simpa using ae.out,g2,by show _=_;rw[HS.out];simp,fun y hy=>by rcases pI.1 hy with h|h;exact M.out y h;simp at h;omega⟩
    case measure=>simp[intOf];omega
  ·have R:ys.length=x.args.length:=by omega
   have HY:Hid (ys=x.args.map (Ref.kind f)):=by show _=_;rw[ad.out,R,pE]
   have B:Hid (Ref.typed f x=Ref.typedKinds f x ys):=by
    show _=_;rw[HT.out,<-HY.out]
    have:x.args.all (fun v=>decide (0<=Ref.kind f v))=true:=by rw[pw];intro v hv;simp;exact M.out _ (by rw[HY.out];exact List.mem_map_of_mem hv)
    rw[this];rfl
   obtain⟨K,C,rfl⟩:=p.form;have G:Gr w wr:=L.trans t;have d0:=(t.cell (w.heap.size+1) 0 (by omega)).trans (b1 0);have d1:=(t.cell (w.heap.size+1) 1 (by omega)).trans (b1 1);simp at d0 d1;have m:=args_len f x hcnt.out;have E:=dJ R;clear O b1 X ad M HT hwf aa R ab;rcases Decidable.em (x.op=14) with u|ap
   ·obtain⟨l,Q,rfl⟩:=mH (E.out.trans (m.1 (.inl u)));have D:x.args.length<=2:=by have:=E.out;simp at this;omega
    obtain⟨b2,rfl,-,-,d⟩:=dr p (A:=K) (c:=C) (by simp) (by simp);have H:=d 0 (by simp);have U:=d 1 (by simp);simp at H U;clear d m;have j:Hid (Ref.typed f x=(Ref.isWidth l && decide (Q=l))):=by show _=_;rw[B.out];simp[Ref.typedKinds,u]
    have F:Hid (∀w',Calls prog 58 #[.int .i64 l] w' (RS (.bool (Ref.isWidth l)) w')):=dD l
    cases hw:Ref.isWidth l with
    | true =>
     rw[hw]at F j;clear hw;go_wp2;go_quiet ((go_at_call 58;exact dn (F.out _)));go_wp2;all_goals go_ret
     all_goals exact⟨dc (by rw[j.out];grind),G.drewN _⟩
    | false =>
     rw[hw]at F j;clear hw;go_wp2;go_quiet ((go_at_call 58;exact dn (F.out _)));go_wp2;all_goals go_ret
     all_goals exact⟨dc (by rw[j.out];grind),G.drewN _⟩
   rcases Decidable.em (x.op=15) with u|aq
   ·obtain⟨l,Q,y2,rfl⟩:=ny (E.out.trans (m.2.1 u));have D:x.args.length<=3:=by have:=E.out;simp at this;omega
    obtain⟨b2,rfl,-,-,d⟩:=dr p (A:=K) (c:=C) (by simp) (by simp);have H:=d 0 (by simp);have U:=d 1 (by simp);have e2:=d 2 (by simp);simp at H U e2;clear d m;have j:Hid (Ref.typed f x=(decide (l=1) && decide (Q=x.width) && decide (y2=x.width))):=by show _=_;rw[B.out];simp[Ref.typedKinds,u]
    rcases Decidable.em (l=1) with h0|h0
    ·have n0:(l == 1)=true:=by simp[h0]
     have H0:=dJ h0;clear h0;rcases Decidable.em (Q=x.width) with V|V
     ·have n1:(Q == x.width)=true:=by simp[V]
      have H1:=dJ V;clear V;go_wp2;go_quiet (fail);go_wp2;go_ret;exact⟨dc (by rw[j.out];have a:=H0.out;have b:=H1.out;grind),G.drewN _⟩
     ·have n1:(Q == x.width)=false:=by simp[V]
      have H1:=dJ V;clear V;go_wp2;go_quiet (fail);go_wp2;go_ret;exact⟨dc (by rw[j.out];have b:=H1.out;grind),G.drewN _⟩
    ·have n0:(l == 1)=false:=by simp[h0]
     have H0:=dJ h0;clear h0;go_wp2;go_quiet (fail);go_wp2;go_ret;exact⟨dc (by rw[j.out];have a:=H0.out;grind),G.drewN _⟩
   rcases Decidable.em (x.op=16) with u|ar
   ·obtain⟨l,rfl⟩:=iV (E.out.trans (m.2.2 (.inl u)));have D:x.args.length<=1:=by have:=E.out;simp at this;omega
    obtain⟨b2,rfl,-,-,d⟩:=dr p (A:=K) (c:=C) (by simp) (by simp);have H:=d 0 (by simp);simp at H;clear d m;have j:Hid (Ref.typed f x=(Ref.isWidth l && decide (l<x.width))):=by show _=_;rw[B.out];simp[Ref.typedKinds,u]
    have F:Hid (∀w',Calls prog 58 #[.int .i64 l] w' (RS (.bool (Ref.isWidth l)) w')):=dD l
    cases hw:Ref.isWidth l with
    | true =>
     rw[hw]at F j;clear hw;go_wp2;go_quiet ((go_at_call 58;exact dn (F.out _)));go_wp2;all_goals go_ret
     all_goals exact⟨dc (by rw[j.out];grind),G.drewN _⟩
    | false =>
     rw[hw]at F j;clear hw;go_wp2;go_quiet ((go_at_call 58;exact dn (F.out _)));go_wp2;all_goals go_ret
     all_goals exact⟨dc (by rw[j.out];grind),G.drewN _⟩
   rcases Decidable.em (x.op=17) with u|au
   ·obtain⟨l,rfl⟩:=iV (E.out.trans (m.2.2 (.inr (.inl u))));have D:x.args.length<=1:=by have:=E.out;simp at this;omega
    obtain⟨b2,rfl,-,-,d⟩:=dr p (A:=K) (c:=C) (by simp) (by simp);have H:=d 0 (by simp);simp at H;clear d m;have j:Hid (Ref.typed f x=(Ref.isWidth l && decide (l<x.width))):=by show _=_;rw[B.out];simp[Ref.typedKinds,u]
    have F:Hid (∀w',Calls prog 58 #[.int .i64 l] w' (RS (.bool (Ref.isWidth l)) w')):=dD l
    cases hw:Ref.isWidth l with
    | true =>
     rw[hw]at F j;clear hw;go_wp2;go_quiet ((go_at_call 58;exact dn (F.out _)));go_wp2;all_goals go_ret
     all_goals exact⟨dc (by rw[j.out];grind),G.drewN _⟩
    | false =>
     rw[hw]at F j;clear hw;go_wp2;go_quiet ((go_at_call 58;exact dn (F.out _)));go_wp2;all_goals go_ret
     all_goals exact⟨dc (by rw[j.out];grind),G.drewN _⟩
   rcases Decidable.em (x.op=18) with u|av
   ·obtain⟨l,rfl⟩:=iV (E.out.trans (m.2.2 (.inr (.inr (.inl u)))));have D:x.args.length<=1:=by have:=E.out;simp at this;omega
    obtain⟨b2,rfl,-,-,d⟩:=dr p (A:=K) (c:=C) (by simp) (by simp);have H:=d 0 (by simp);simp at H;clear d m;have j:Hid (Ref.typed f x=(Ref.isWidth l && decide (x.width<l))):=by show _=_;rw[B.out];simp[Ref.typedKinds,u]
    have F:Hid (∀w',Calls prog 58 #[.int .i64 l] w' (RS (.bool (Ref.isWidth l)) w')):=dD l
    cases hw:Ref.isWidth l with
    | true =>
     rw[hw]at F j;clear hw;go_wp2;go_quiet ((go_at_call 58;exact dn (F.out _)));go_wp2;all_goals go_ret
     all_goals exact⟨dc (by rw[j.out];grind),G.drewN _⟩
    | false =>
     rw[hw]at F j;clear hw;go_wp2;go_quiet ((go_at_call 58;exact dn (F.out _)));go_wp2;all_goals go_ret
     all_goals exact⟨dc (by rw[j.out];grind),G.drewN _⟩
   rcases Decidable.em (x.op=25) with u|aw
   ·obtain⟨l,Q,rfl⟩:=mH (E.out.trans (m.1 (.inr (.inl u))));have D:x.args.length<=2:=by have:=E.out;simp at this;omega
    obtain⟨b2,rfl,-,-,d⟩:=dr p (A:=K) (c:=C) (by simp) (by simp);have H:=d 0 (by simp);have U:=d 1 (by simp);simp at H U;clear d m;have j:Hid (Ref.typed f x=(decide (l=33) && Ref.isWidth Q)):=by show _=_;rw[B.out];simp[Ref.typedKinds,u]
    go_wp2_with (go_at_call 58;refine(dD _ _).mono ?_;rintro e T ⟨rfl,rfl⟩);all_goals go_ret
    all_goals exact⟨dc (by rw[j.out];grind),G⟩
   rcases Decidable.em (x.op=26) with u|ax
   ·obtain⟨l,rfl⟩:=iV (E.out.trans (m.2.2 (.inr (.inr (.inr (.inl u))))));have D:x.args.length<=1:=by have:=E.out;simp at this;omega
    obtain⟨b2,rfl,-,-,d⟩:=dr p (A:=K) (c:=C) (by simp) (by simp);have H:=d 0 (by simp);simp at H;clear d m;have j:Hid (Ref.typed f x=(decide (l=33))):=by show _=_;rw[B.out];simp[Ref.typedKinds,u]
    go_wp2;all_goals go_ret
    all_goals exact⟨dc (by rw[j.out];grind),G⟩
   rcases Decidable.em (x.op=27) with u|ay
   ·obtain⟨l,Q,rfl⟩:=mH (E.out.trans (m.1 (.inr (.inr u))));have D:x.args.length<=2:=by have:=E.out;simp at this;omega
    obtain⟨b2,rfl,-,-,d⟩:=dr p (A:=K) (c:=C) (by simp) (by simp);have H:=d 0 (by simp);have U:=d 1 (by simp);simp at H U;clear d m;have j:Hid (Ref.typed f x=(decide (l=33) && Ref.isMem Q)):=by show _=_;rw[B.out];simp[Ref.typedKinds,u]
    go_wp2;all_goals go_ret
    all_goals exact⟨dc (by rw[j.out];unfold Ref.isMem;grind),G⟩
   rcases Decidable.em (x.op=30) with u|az
   ·obtain⟨l,rfl⟩:=iV (E.out.trans (m.2.2 (.inr (.inr (.inr (.inr u))))));have D:x.args.length<=1:=by have:=E.out;simp at this;omega
    obtain⟨b2,rfl,-,-,d⟩:=dr p (A:=K) (c:=C) (by simp) (by simp);have H:=d 0 (by simp);simp at H;clear d m;have j:Hid (Ref.typed f x=(decide (l=1))):=by show _=_;rw[B.out];simp[Ref.typedKinds,u]
    go_wp2;all_goals go_ret
    all_goals exact⟨dc (by rw[j.out];grind),G⟩
   rcases Decidable.em (x.op=31) with u|aA
   ·clear m;rcases ys with _|⟨l,r⟩
    ·have j:Hid (Ref.typed f x=true):=by show _=_;rw[B.out];simp[Ref.typedKinds,u]
     have D:x.args.length<=0:=by have:=E.out;simp at this;simp[this]
     go_wp2;go_quiet (fail);go_wp2;go_ret;exact⟨dc (by rw[j.out]),G.drewN _⟩
    ·obtain⟨b2,rfl,-,-,d⟩:=dr p (A:=K) (c:=C) (by simp) (by simp);have H:=d 0 (by simp);simp at H;have j:Hid (Ref.typed f x=decide (l=f.ret)):=by show _=_;rw[B.out];simp[Ref.typedKinds,u]
     have D:x.args.length<=r.length+1:=by have:=E.out;simp at this;omega
     have nz:((r.length:Int)+1 == 0)=false:=by simp;omega
     have z1:(0:Int)<(r.length:Int)+1:=by omega
     clear d;go_wp2;go_quiet (fail);go_wp2;go_ret;exact⟨dc (by rw[j.out];grind),G.drewN _⟩
   have j:Hid (Ref.typed f x=ys.all fun z=>decide (z=x.width)):=by show _=_;rw[B.out];simp[Ref.typedKinds,ap,aq,ar,au,av,aw,ax,ay,az,aA]
   have D:x.args.length<=ys.length:=by have:=E.out;omega
   clear m;go_wp2
   go_loopw [7] (fun i wx=>∃k:Nat,k<=ys.length/\i=.int .i64 k/\Gr wr wx/\Hid ((ys.all fun z=>decide (z=x.width))=((ys.drop k).all fun z=>decide (z=x.width)))) (fun i _=>ys.length-(intOf i).toNat)
   case atStart=>exact⟨0,pR _,rfl,qj _,rfl⟩
   case round =>
    obtain⟨k,hk,rfl,N,I⟩:=hrel;rcases hr:ys.drop k with _|⟨z,r⟩
    ·have ak:=dm hr hk;have HA:Hid ((ys.all fun z=>decide (z=x.width))=true):=by show _=_;rw[I.out,hr];rfl
     subst ak;clear hr I;go_wp2;go_ret;exact⟨dc (by rw[j.out,HA.out]),G.trans N⟩
    ·obtain⟨ab,hl,ag⟩:=dj hr;obtain⟨b2,rfl,Y,-,d⟩:=dr p (A:=K) (c:=C) (by simp) (by simp;omega);have q:=(N.cell b2 k Y).trans (d k (by simp;omega));rw[pk,hl]at q;simp only[Option.map_some]at q;have q1:=(N.cell (w.heap.size+1) 1 (by have:=t.size;omega)).trans d1
     have HR:Hid ((ys.all fun z=>decide (z=x.width))=(decide (z=x.width) && r.all fun z=>decide (z=x.width))):=by show _=_;rw[I.out,hr];rfl
     have ai:Hid (ys.drop (k+1)=r):=ag;have z0:(0:Int)<=k:=by omega
     have z1:(k:Int)<(ys.length:Int):=by omega
     clear hr hl ag I d;go_wp2;go_quiet (fail);go_wp2
     ·go_ret;exact⟨dc (by rw[j.out,HR.out];grind),(G.trans N).drewN _⟩
     ·go_roundw;case rel=>exact⟨k+1,by omega,by go_num,N.drewN _,by (show _=_;rw[HR.out,ai.out];grind)⟩
      case measure=>simp[intOf];omega
theorem lM:(prog.info? 4).map (fun i=>(i.zero,i.size,i.bytes))=some (some (.bool false),1,1):=by kernel_rfl
def BRow (B hb n:Nat)(w:World)(bs:List Bool):Prop:=w.ownsRow B 4 1 (.slice (some ⟨hb,0,none⟩) n n) n (bs.map Value.bool)
section
variable {B hb n:Nat}{w w':World}{bs:List Bool}
theorem BRow.len (h:BRow B hb n w bs):bs.length=n:=by have:=h.1;simpa using this
theorem BRow.cell (h:BRow B hb n w bs)(j:Nat)(b:Bool)(hj:bs[j]?=some b):w.cell? ⟨hb,j,none⟩=some (.bool b):=by have g:=h.len;have d:=(oZ.1 hj).1;rw[World.ownsRow.cellAt h j (by omega),pk,hj];rfl
theorem BRow.frozen (h:BRow B hb n w bs)(j:Nat):w.frozen? ⟨hb,j,none⟩=false:=World.ownsRow.frozenAt h j
theorem BRow.set_ (h:BRow B hb n w bs)(j:Nat)(b:Bool):BRow B hb n (w.setCell ⟨hb,j,none⟩ (.bool b)) (bs.set j b):=by have:=(World.ownsRow.stored h j (.bool b)).1;unfold BRow;rw[List.map_set];exact this
theorem BRow.base (h:BRow B hb n w bs)(hn:0<n):B<=hb:=by obtain⟨b,e,_,d,_⟩:=dr h rfl hn;cases e;exact d
theorem BRow.bools (h:BRow B hb n w bs)(hn:n<=17592186044416):BoolsAt w.heap.size w (.slice (some ⟨hb,0,none⟩) n n) bs:=by have d:=h.len;subst d;exact iW h hn
end
theorem gR {w:World}{ops:Array Oper}{rest:List Oper}{o:Oper}{a:Act}{Q:Exit->Act->World->Prop}(hg:o.guard=none)(l c:Operand)(hop:o.op=Op.makeSlice 134 l c)
  (B n:Nat) (hl:a.eval l=.int .i64 n) (hc:a.eval c=.int .i64 n) (hn0:1<=n) (hn:n<=17592186044416) (hB:B<=w.heap.size)
  (hK:∀w',BRow B w.heap.size n w' (List.replicate n false)->Gr w w'->w'.cell? ⟨w.heap.size,0,none⟩=some (.bool false)->w'.frozen? ⟨w.heap.size,0,none⟩=false->wpList prog ops Q rest (a.put o.dst (.slice (some ⟨w.heap.size,0,none⟩) n n)) w') :
  wpList prog ops Q (o::rest) a w:=by
 obtain⟨i0,t,m,p,q⟩:=info_parts lM;refine wpList_make_full _ hg l c 134 hop B 4 i0 _ 1 underlying134 t m p _ _ _ _ n hl hc rfl rfl (by rw[q];omega) (by simp only[maxLen];omega) hB ?_;intro r g j;rw[Nat.mul_one,show (Value.bool false).cells=#[Value.bool false] from rfl,toList_madeCells_one]at g;have d:BRow B w.heap.size n r (List.replicate n false):=by unfold BRow;rw[List.map_replicate];exact g
 refine hK r d ((qj w).grown j (fun k u=>by cases u)) ?_ (d.frozen 0);exact d.cell 0 false (by rw[pu,pB (by omega)])
theorem kG {n b:Nat}(h:b<n):(List.range n).drop b=b::(List.range n).drop (b+1):=by rw[po (by simpa using h)];simp
theorem fh (z t:Int)(bs:List Bool):(Ref.spreadEdge z bs t).length=bs.length:=by unfold Ref.spreadEdge;split<;>simp
theorem gE (z t:Int)(bs:List Bool)(b:Nat)(h:bs[b]?=some true):(Ref.spreadEdge z bs t)[b]?=some true:=by
 unfold Ref.spreadEdge;split
 ·exact h
 ·rw[List.getElem?_set];split
  ·rename_i e;subst e;have:=(oZ.1 h).1;simp[this]
  ·exact h
theorem fT (vg:Value)(g:List (List Int))(z:Int)(w:World)(hg:TabAt w.heap.size w vg g)(hn:1<=g.length)(hsm:g.length<=100000)(hok:Hid (∀l∈g,∀t∈l,0<=t/\t<(g.length:Int))) :
  Calls prog 105 #[vg,.int .i64 z] w fun e w'=>∃v,e=.returned v/\BoolsAt w'.heap.size w' v (Ref.reached g z)/\Gr w w':=by
 obtain⟨A,c,rfl,g1,g2,g3⟩:=hg;obtain⟨bg,og,rfl,Y,aa⟩:=g3 (by omega);have HG:=dJ aa;clear aa g3;by_cases V:z=0
 ·have av:(z == 0)=true:=by simp[V]
  have HR:Hid (Ref.reached g z=List.replicate g.length false):=by show _=_;unfold Ref.reached;rw[pB V]
  clear V
  go_enter func105, ntmps105
  go_wp2_with (at_make;refine gR rfl _ _ rfl w.heap.size g.length rfl rfl hn (by omega) (pS _) ?_;intro w1 C M _ _);go_ret;exact⟨_,rfl,by rw[HR.out];exact C.bools (by omega),M⟩
 ·have av:(z == 0)=false:=by simp[V]
  have HR:Hid (Ref.reached g z=Ref.spread z g g.length ((List.replicate g.length false).set 0 true)):=by show _=_;unfold Ref.reached;rw[pC V]
  clear V;have z0:(0:Int)<(g.length:Int):=by omega
  go_enter func105, ntmps105
  go_wp2_with (at_make;refine gR rfl _ _ rfl w.heap.size g.length rfl rfl hn (by omega) (pS _) ?_;intro w1 C M aq ar);have B:BRow w.heap.size w.heap.size g.length (w1.setCell ⟨w.heap.size,0,none⟩ (.bool true)) ((List.replicate g.length false).set 0 true):=C.set_ 0 true;have F:Gr w (w1.setCell ⟨w.heap.size,0,none⟩ (.bool true)):=M.setCell (pS _) _;clear aq ar C
  go_loopw [6,7,8] (fun r _ _ wr=>∃(k:Nat)(bs:List Bool),k<=g.length/\r=.int .i64 k/\BRow w.heap.size w.heap.size g.length wr bs/\Gr w wr/\Hid (Ref.reached g z=Ref.spread z g (g.length-k) bs)) (fun r _ _ _=>g.length-(intOf r).toNat)
  case atStart=>exact⟨0,_,pR _,rfl,B,F,HR⟩
  case round =>
   obtain⟨k,bs,hk,rfl,C,T,I⟩:=hrel;obtain⟨wo,rfl⟩:∃wo:World,wo=wr:=⟨_,rfl⟩;clear B F M;by_cases ay:k<g.length
   ·have al:Hid (Ref.reached g z=Ref.spread z g (g.length-(k+1)) (Ref.spreadRound z g bs)):=by
     show _=_;rw[I.out,show g.length-k=(g.length-(k+1))+1 by omega];rfl
    clear I;go_wp2
    go_loopw [7,8] (fun b _ wr=>∃(j:Nat)(y:List Bool),j<=g.length/\b=.int .i64 j/\BRow w.heap.size w.heap.size g.length wr y/\Gr w wr/\Hid (Ref.spreadRound z g bs=((List.range g.length).drop j).foldl (Ref.spreadBlock z g) y)) (fun b _ _=>g.length-(intOf b).toNat)
    case atStart=>exact⟨0,bs,pR _,rfl,C,T,by show _=_;simp[Ref.spreadRound]⟩
    case round =>
     obtain⟨j,y,hj,rfl,B,F,D⟩:=hrel;obtain⟨aj,rfl⟩:∃aj:World,aj=wr:=⟨_,rfl⟩;clear C T;by_cases N:j<g.length
     ·obtain⟨l,hl⟩:∃l,g[j]?=some l:=⟨g[j],by simp[N]⟩;obtain⟨u,hu,ag⟩:=HG.out j l hl;have aA:=(F.cell _ _ Y).trans hu;have ah:=ag.below F;obtain⟨A',c',rfl,p1,p2,-⟩:=ah;obtain⟨A3,c3,e3,-,-,p3⟩:=ag;injection e3 with am an ao;subst am;subst ao;have HU:=dJ hu;have HL:Hid (∀t∈l,0<=t/\t<(g.length:Int)):=hok.out l (pa hl);have ac:g.getD j []=l:=by simp[List.getD,hl]
      have HD:Hid (Ref.spreadRound z g bs=((List.range g.length).drop (j+1)).foldl (Ref.spreadBlock z g) (Ref.spreadBlock z g y j)):=by show _=_;rw[D.out,kG N];rfl
      have ad:=B.len;obtain⟨X,R⟩:∃b,y[j]?=some b:=⟨y[j]'(by omega),by simp[show j<y.length by omega]⟩;have q:=B.cell j X R;have O:=dJ R;have ak:=dJ ac;have aw:=dJ ad;have P3:Hid (0<l.length->∃b ai,A'=some ⟨b,ai,none⟩/\b<w.heap.size/\∀i z,l[i]?=some z->w.cell? ⟨b,ai+i,none⟩=some (.int .i64 z)):=p3;have zj:(0:Int)<=j:=by omega
      clear hl hu D ac R ad p3 an;go_wp2
      go_loopw [8] (fun i wr=>∃(m:Nat)(d:List Bool),m<=l.length/\i=.int .i64 m/\BRow w.heap.size w.heap.size g.length wr d/\Gr w wr/\Hid (d[j]?=some X)/\Hid (X=false->d=y)/\Hid (l.foldl (Ref.spreadEdge z) y=(l.drop m).foldl (Ref.spreadEdge z) d)) (fun i _=>l.length-(intOf i).toNat)
      case atStart=>exact⟨0,y,pR _,rfl,B,F,O,fun _=>rfl,rfl⟩
      case round =>
       obtain⟨m,d,hm,rfl,p,G,L,J,E⟩:=hrel;have aB:=(G.cell bg (og+j) Y).trans (HU.out);have q2:=p.cell j X L.out;have ax:m<=l.length:=hm
       cases X with
       | false =>
        have Q:Hid (Ref.spreadBlock z g y j=d):=by
         show _=_;rw[J.out rfl];unfold Ref.spreadBlock;have:y.getD j false=false:=by simp[List.getD,O.out]
         rw[this];rfl
        clear J E;by_cases ae:m<l.length
        ·go_wp2;go_roundw;case rel=>exact⟨j+1,d,by omega,by go_num,p,G,by (show _=_;rw[HD.out,Q.out])⟩
         case measure=>simp[intOf];omega
        ·go_wp2;go_roundw;case rel=>exact⟨j+1,d,by omega,by go_num,p,G,by (show _=_;rw[HD.out,Q.out])⟩
         case measure=>simp[intOf];omega
       | true =>
        clear J;rcases hr:l.drop m with _|⟨t,r⟩
        ·have au:=dm hr hm
         have Q:Hid (Ref.spreadBlock z g y j=d):=by
          show _=_;unfold Ref.spreadBlock;have:y.getD j false=true:=by simp[List.getD,O.out]
          rw[this,pB rfl,ak.out,E.out,hr];rfl
         subst au;clear hr E;go_wp2;go_roundw;case rel=>exact⟨j+1,d,by omega,by go_num,p,G,by (show _=_;rw[HD.out,Q.out])⟩
         case measure=>simp[intOf];omega
        ·obtain⟨ae,U,af⟩:=dj hr;obtain⟨bl,ol,rfl,ap,ab⟩:=P3.out (by omega);have ht:=HL.out t (pa U);obtain⟨H,rfl⟩:=pg ht.1;have az:H<g.length:=by omega
         have qt:=(Gr.cell (a:=w) G bl (ol+m) ap).trans (ab m H U);obtain⟨bt,Z⟩:∃b,d[H]?=some b:=⟨d[H]'(by have:=p.len;omega),by have:=p.len;simp[show H<d.length by omega]⟩;have qc:=p.cell H bt Z;have qf:=p.frozen H;have Q:Hid (l.foldl (Ref.spreadEdge z) y=r.foldl (Ref.spreadEdge z) (Ref.spreadEdge z d H)):=by show _=_;rw[E.out,hr];rfl
         have W:Hid (l.drop (m+1)=r):=af;have zt:(H:Int)<(g.length:Int):=by omega
         clear hr af U E ab ht Z;by_cases K:(H:Int)=z
         ·have nz:((H:Int) != z)=false:=by simp[K]
          have HS:Hid (Ref.spreadEdge z d H=d):=by show _=_;unfold Ref.spreadEdge;rw[pB K]
          clear K;go_wp2;go_roundw;case rel=>exact⟨m+1,d,by omega,by go_num,p,G,L,fun h=>(by cases h),by (show _=_;rw[Q.out,HS.out,W.out])⟩
          case measure=>simp[intOf];omega
         ·have nz:((H:Int) != z)=true:=by simp[K]
          have HS:Hid (Ref.spreadEdge z d H=d.set H true):=by show _=_;unfold Ref.spreadEdge;rw[pC K];simp
          clear K;go_wp2;go_roundw;case rel=>exact⟨m+1,d.set H true,by omega,by go_num,p.set_ H true,G.setCell (pS _) _,by (have:=gE z H d j L.out;rw[HS.out]at this;exact this),fun h=>(by cases h),by (show _=_;rw[Q.out,HS.out,W.out])⟩
          case measure=>simp[intOf];omega
     ·obtain rfl:j=g.length:=by omega
      have HE:Hid (Ref.spreadRound z g bs=y):=by show _=_;rw[D.out,pt (by simp)];rfl
      clear D;go_wp2;go_roundw;case rel=>exact⟨k+1,y,by omega,by go_num,B,F,by (show _=_;rw[al.out,HE.out])⟩
      case measure=>simp[intOf];omega
   ·obtain rfl:k=g.length:=by omega
    go_wp2;go_ret;exact⟨_,rfl,by rw[I.out,Nat.sub_self];exact C.bools (by omega),T⟩
theorem gH (vg:Value)(g:List (List Int))(a b:Int)(w:World)(hg:TabAt w.heap.size w vg g)(hn:1<=g.length)(hsm:g.length<=100000)(hok:Hid (∀l∈g,∀t∈l,0<=t/\t<(g.length:Int)))
  (hb1:0<=b) (hb2:b<g.length) :
  Calls prog 134 #[vg,.int .i64 a,.int .i64 b] w (RG (.bool (Ref.dominates g a b)) w):=by
 by_cases j:a=b
 ·have D:(a == b)=true:=by simp[j]
  have u:Hid (Ref.dominates g a b=true):=by show _=_;simp[Ref.dominates,j]
  clear j;obtain⟨A,c,rfl,-,-,-⟩:=hg
  go_enter func134, ntmps134
  go_wp2;go_ret;exact⟨dc (by rw[u.out]),qj _⟩
 ·have D:(a == b)=false:=by simp[j]
  have u:Hid (Ref.dominates g a b=!(Ref.reached g a).getD b.toNat false):=by show _=_;simp[Ref.dominates,j]
  have C:=fT vg g a w hg hn hsm hok;have E:=dJ C
  have d:(Ref.reached g a).length=g.length:=by
   have G:∀(l:List Int)(bs:List Bool),(l.foldl (Ref.spreadEdge a) bs).length=bs.length:=by
    intro l;induction l with
    | nil=>intro bs;rfl
    | cons t r ih=>intro bs;rw[List.foldl_cons,ih,fh]
   have H:∀(l:List Nat)(bs:List Bool),(l.foldl (Ref.spreadBlock a g) bs).length=bs.length:=by
    intro l;induction l with
    | nil=>intro bs;rfl
    | cons t r ih=>intro bs;rw[List.foldl_cons,ih];unfold Ref.spreadBlock;split<;>simp[G]
   have I:∀(n:Nat)(bs:List Bool),(Ref.spread a g n bs).length=bs.length:=by
    intro n;induction n with
    | zero=>intro bs;rfl
    | succ n ih=>intro bs;rw[Ref.spread,ih,Ref.spreadRound,H]
   unfold Ref.reached;split<;>simp[I]
  have F:=dJ d;clear j C d;obtain⟨n,rfl⟩:=pg hb1;obtain⟨A,c,rfl,-,-,-⟩:=hg
  go_enter func134, ntmps134
  go_wp2_with fail;refine E.out.mono ?_;rintro e Q ⟨v,rfl,K,g1⟩;obtain⟨M,O,rfl,-,-,p⟩:=K;have d:=F.out;obtain⟨N,L,rfl,J,m⟩:=p (by omega);obtain⟨y,B⟩:∃y,(Ref.reached g a)[n]?=some y:=⟨(Ref.reached g a)[n]'(by omega),by simp[show n<(Ref.reached g a).length by omega]⟩;have q:=m n y B;have z:Hid (Ref.dominates g a n=!y):=by show _=_;rw[u.out];simp[List.getD,B]
  have R:(n:Int)<((Ref.reached g a).length:Int):=by omega
  clear m B d p;go_wp2;go_ret;exact⟨dc (by rw[z.out]),g1⟩
theorem mF (v vg:Value)(f:Fn)(g:List (List Int))(z block place:Int)(w:World)(hf:FnAt w.heap.size w v f)(hs:f.blocks.length<=100000)(hz1:-9223372036854775808<=z)(hz2:z<=9223372036854775807)
  (hg:TabAt w.heap.size w vg g) (hn:1<=g.length) (hsm:g.length<=100000) (hok:Hid (∀l∈g,∀t∈l,0<=t/\t<(g.length:Int))) (hb1:0<=block) (hb2:block<g.length) :
  Calls prog 106 #[v,vg,.int .i64 z,.int .i64 block,.int .i64 place] w (RG (.bool (Ref.there f g z block place)) w):=by
 have u:=hf;obtain⟨E,F,D,rfl,-,-,-⟩:=hf;have d:Gr w (w.alloc (.cells #[E,.int .i64 f.ret,F,D] 25)):=(qj _).alloc _;have C:=jh _ f z _ (u.gr d) hs hz1 hz2;have r:Hid (Ref.there f g z block place=if (Ref.whereIs f z).1<0 then true else if (Ref.whereIs f z).1=block then decide (place<0) || decide ((Ref.whereIs f z).2<place) else Ref.dominates g (Ref.whereIs f z).1 block):=rfl
 revert C r
 generalize Ref.whereIs f z=p;obtain⟨b,i⟩:=p;dsimp only;intro C r;have y:=dJ C;have A:Hid (∀j,Gr w j->Calls prog 134 #[vg,.int .i64 b,.int .i64 block] j (RG (.bool (Ref.dominates g b block)) j)):=fun j g1=>gH vg g b block j (hg.gr g1) hn hsm hok hb1 hb2;clear C u hg;by_cases h0:b<0
 ·go_enter func106, ntmps106
  go_wp2_with (go_at_call 133;refine y.out.mono ?_;rintro e j ⟨rfl,g1⟩);go_ret;exact⟨dc (by rw[r.out,pB h0]),d.trans g1⟩
 ·by_cases q:b=block
  ·have B:(b == block)=true:=by simp[q]
   have m:Hid (Ref.there f g z block place=(decide (place<0) || decide (i<place))):=by show _=_;rw[r.out,pC h0,pB q]
   clear q
   go_enter func106, ntmps106
   go_wp2_with (go_at_call 133;refine y.out.mono ?_;rintro e j ⟨rfl,g1⟩);all_goals go_ret
   all_goals exact⟨dc (by have:=m.out;grind),d.trans g1⟩
  ·have B:(b == block)=false:=by simp[q]
   have m:Hid (Ref.there f g z block place=Ref.dominates g b block):=by show _=_;rw[r.out,pC h0,pC q]
   clear q
   go_enter func106, ntmps106
   go_wp2_with (first|(go_at_call 133;refine y.out.mono ?_;rintro e j ⟨rfl,g1⟩)|(go_at_call 134;refine(A.out _ (d.trans g1)).mono ?_;rintro e G ⟨rfl,g2⟩))
   go_ret;exact⟨dc (by rw[m.out]),(d.trans g1).trans g2⟩
end
