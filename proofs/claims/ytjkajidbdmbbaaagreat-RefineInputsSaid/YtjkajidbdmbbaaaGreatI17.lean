/- Parts. -/
import Derived.Test.YtjkajidbdmbbaaaGreatI02
set_option linter.unusedSimpArgs false
set_option linter.unusedVariables false
set_option maxRecDepth 100000
set_option maxHeartbeats 16000000
open Go.Proofs.Tryz
namespace Go.Proofs.YtjkajidbdmbbaaaGreat
section
open Go.RowKit
theorem lK (v:Value)(f:Fn)(n:Nat)(w:World)(hf:FnAt w.heap.size w v f)(hn:n<=f.blocks.length)(hs:f.blocks.length<=100000) :
  Calls prog 128 #[v,.int .i64 n] w (RG (.int .i64 (Ref.number f n)) w):=by
 obtain⟨vp,vs,vb,rfl,O,t,G⟩:=hf;obtain⟨B,F,rfl,Q,R,r⟩:=O;obtain⟨C,cs,rfl,S,T,y⟩:=t;obtain⟨A,E,rfl,H,I,j⟩:=G;clear r y;have m:Gr w (w.alloc (.cells #[.slice B f.params.length F,.int .i64 f.ret,.slice C f.slots.length cs,.slice A f.blocks.length E] 36)):=(tX _).alloc _
 go_enter func128, ntmps128
 go_wp2
 go_loop [5,6] (fun s b=>∃k N:Nat,k<=n/\b=.int .i64 k/\s=.int .i64 N/\N<=17592186044416*(k+1)/\Hid (N=Ref.number f k)) (fun _ b=>n-(intOf b).toNat)
 case atStart=>exact⟨0,_,tR _,rfl,rfl,by omega,by show _=_;simp[Ref.number,Ref.total]⟩
 case round =>
  obtain⟨k,N,Y,rfl,rfl,hN,g⟩:=hrel;by_cases M:k<n
  ·obtain⟨W,ob,rfl,J,d⟩:=j (by omega);obtain⟨l,p⟩:∃l,f.blocks[k]?=some l:=⟨f.blocks[k],by simp[show k<f.blocks.length by omega]⟩;obtain⟨u,Z,z⟩:=d k l p;obtain⟨U,X,rfl,K,L,q⟩:=z
   have D:Hid (Ref.number f (k+1)=Ref.number f k+l.length):=by show _=_;unfold Ref.number;rw[Ref.total_take_succ _ _ _ p];omega
   clear p d j q;go_wp2;go_round;case rel=>exact⟨k+1,N+l.length,by omega,by go_num,by go_num,by omega,by show _=_;rw[D.out,g.out]⟩
   case measure=>simp[intOf];omega
  ·obtain rfl:k=n:=by omega
   go_wp2;go_ret;exact⟨dc (by rw[g.out]),m⟩
theorem nx (v:Value)(f:Fn)(w:World)(hf:FnAt w.heap.size w v f)(hs:f.blocks.length<=100000) :
  Calls prog 143 #[v] w (RG (.int .i64 (Ref.count f)) w):=by
 have g:=hf;obtain⟨vp,vs,vb,rfl,E,m,A⟩:=hf;obtain⟨r,y,rfl,F,G,l⟩:=E;obtain⟨t,cs,rfl,I,J,p⟩:=m;obtain⟨q,u,rfl,B,D,j⟩:=A;clear l p j;have d:Gr w (w.alloc (.cells #[.slice r f.params.length y,.int .i64 f.ret,.slice t f.slots.length cs,.slice q f.blocks.length u] 36)):=(tX _).alloc _;have C:=lK _ f f.blocks.length _ (g.gr d) (tS _) hs;have H:=dJ C;clear C g
 go_enter func143, ntmps143
 go_wp2_with fail;refine H.out.mono ?_;rintro e K ⟨rfl,z⟩;go_wp2_with fail;go_ret;exact⟨rfl,d.trans z⟩
theorem jW (v:Value)(f:Fn)(z:Int)(w:World)(hf:FnAt w.heap.size w v f)(hs:f.blocks.length<=100000)(hz1:-9223372036854775808<=z)(hz2:z<=9223372036854775807) :
  Calls prog 144 #[v,.int .i64 z] w (RG (.tuple #[.int .i64 (Ref.whereIs f z).1,.int .i64 (Ref.whereIs f z).2]) w):=by
 obtain⟨vp,vs,vb,rfl,Y,C,O⟩:=hf;obtain⟨H,K,rfl,Z,aa,B⟩:=Y;obtain⟨I,cs,rfl,ab,ac,D⟩:=C;obtain⟨G,J,rfl,Q,R,q⟩:=O;clear B D;have p:Gr w (w.alloc (.cells #[.slice H f.params.length K,.int .i64 f.ret,.slice I f.slots.length cs,.slice G f.blocks.length J] 36)):=(tX _).alloc _
 go_enter func144, ntmps144
 go_wp2
 go_loop [6,7] (fun s b=>∃k N:Nat,k<=f.blocks.length/\b=.int .i64 k/\s=.int .i64 N/\N<=17592186044416*(k+1)/\Hid (Ref.whereIs f z=Ref.whereFrom z (f.blocks.drop k) k N)) (fun _ b=>f.blocks.length-(intOf b).toNat)
 case atStart=>exact⟨0,_,tR _,rfl,rfl,by omega,by show _=_;simp[Ref.whereIs]⟩
 case round =>
  obtain⟨k,N,T,rfl,rfl,hN,d⟩:=hrel;rcases hr:f.blocks.drop k with _|⟨l,r⟩
  ·have y:=dm hr T;subst y;have j:Hid (Ref.whereIs f z=(-1,-1)):=by show _=_;rw[d.out,hr];rfl
   clear hr d;go_wp2;go_ret2;exact⟨dk (by rw[j.out];rfl),p⟩
  ·obtain⟨X,F,t⟩:=di hr;obtain⟨bb,ob,rfl,S,g⟩:=q (by omega);obtain⟨u,hu,E⟩:=g k l F;obtain⟨Al,cl,rfl,U,W,A⟩:=E
   have j:Hid (Ref.whereIs f z=if (N:Int)<=z/\z<N+l.length then ((k:Int),z-N) else Ref.whereFrom z r (k+1) (N+l.length)):=by show _=_;rw[d.out,hr];rfl
   have m:Hid (f.blocks.drop (k+1)=r):=t;clear hr F t d g q A;by_cases L:(N:Int)<=z
   ·by_cases M:z<N+l.length
    ·go_wp2;go_ret2;exact⟨dk (by rw[j.out,tB ⟨L,M⟩];rfl),p⟩
    ·go_wp2;go_round;case rel=>exact⟨k+1,N+l.length,by omega,by go_num,by go_num,by omega,by show _=_;rw[j.out,tC (by omega),m.out]⟩
     case measure=>simp[intOf];omega
   ·go_wp2;go_round;case rel=>exact⟨k+1,N+l.length,by omega,by go_num,by go_num,by omega,by show _=_;rw[j.out,tC (by omega),m.out]⟩
    case measure=>simp[intOf];omega
theorem pD (v:Value)(f:Fn)(z:Int)(w:World)(hf:FnAt w.heap.size w v f)(hs:f.blocks.length<=100000)(hz1:-9223372036854775808<=z)(hz2:z<=9223372036854775807) :
  Calls prog 113 #[v,.int .i64 z] w (RG (.int .i64 (Ref.kind f z)) w):=by
 have p:=hf;obtain⟨vp,vs,vb,rfl,hp,U,hb⟩:=hf;obtain⟨Ap,cp,rfl,ai,aj,r⟩:=hp;obtain⟨As,cs,rfl,ak,al,W⟩:=U;obtain⟨Ab,cb,rfl,ab,ac,q⟩:=hb;clear W;have d:Gr w (w.alloc (.cells #[.slice Ap f.params.length cp,.int .i64 f.ret,.slice As f.slots.length cs,.slice Ab f.blocks.length cb] 36)):=(tX _).alloc _;by_cases hz:z<0
 ·clear r q p
  go_enter func113, ntmps113
  go_wp2;go_ret;exact⟨dc (by unfold Ref.kind;rw[tB (by omega)]),d⟩
 ·have C:=nx _ f _ (p.gr d) hs;have K:=dJ C;clear C;by_cases hc:(Ref.count f:Int)<=z
  ·clear r q p
   go_enter func113, ntmps113
   go_wp2_with (go_at_call 143;refine K.out.mono ?_;rintro e t ⟨rfl,g⟩);go_ret;exact⟨dc (by unfold Ref.kind;rw[tB (by omega)]),d.trans g⟩
  ·by_cases hp:z<f.params.length
   ·obtain⟨bp,op,rfl,Q,G⟩:=r (by omega);obtain⟨n,rfl⟩:=tb (show 0<=z by omega);obtain⟨y,hy⟩:∃y,f.params[n]?=some y:=⟨f.params[n]'(by omega),by simp[show n<f.params.length by omega]⟩;have E:=G n y hy;have hk:Ref.kind f n=y:=by unfold Ref.kind;rw[tC (by omega),tB (by omega)];simp[hy]
    have M:=dJ hk;have z0:(0:Int)<=n:=by omega
    have z1:n<f.params.length:=by omega
    clear hk hy G r q p
    go_enter func113, ntmps113
    go_wp2_with (go_at_call 143;refine K.out.mono ?_;rintro e t ⟨rfl,g⟩;have B:=g.cell w.heap.size 0 (by simp);have D:=g.cell w.heap.size 3 (by simp);have ad:=(g.cell bp (op+n) (by simp;omega)).trans ((d.cell bp (op+n) Q).trans E);simp at B D);go_ret;exact⟨dc (by rw[M.out]),d.trans g⟩
   ·obtain⟨j,i,l,x,Y,I,J,-⟩:=Ref.whereIs_some f z (by omega) (by omega);obtain⟨af,-⟩:=sR.1 I;obtain⟨ae,-⟩:=sR.1 J;obtain⟨bb,ob,rfl,N,m⟩:=q (by omega);obtain⟨u,hu,X⟩:=m j l I;obtain⟨Al,cl,rfl,ag,ah,H⟩:=X;obtain⟨bl,ol,rfl,O,F⟩:=H (by omega);obtain⟨va,vt,-,Z,-,-,-,-,-,-⟩:=F i x J
    have M:Hid (Ref.kind f z=x.width):=by show _=_;unfold Ref.kind;rw[tC (by omega),tC (by omega),Y];simp[Ref.insAt?,I,J]
    have L:Hid (∀t,Gr w t->Calls prog 144 #[.agg #[.slice Ap f.params.length cp,.int .i64 f.ret,.slice As f.slots.length cs,.slice (some ⟨bb,ob,none⟩) f.blocks.length cb],.int .i64 z] t (RG (.tuple #[.int .i64 j,.int .i64 i]) t)):=fun t g=>by have:=jW _ f z t (p.gr g) hs hz1 hz2;rw[Y]at this;exact this
    clear Y I J r q p m H F
    go_enter func113, ntmps113
    go_wp2_with (first|(go_at_call 143;refine K.out.mono ?_;rintro e t ⟨rfl,g⟩;have B:=g.cell w.heap.size 0 (by simp);have R:=g.cell w.heap.size 1 (by simp);have S:=g.cell w.heap.size 2 (by simp);have D:=g.cell w.heap.size 3 (by simp);simp at B R S D)|(go_at_call 144;refine(L.out _ (d.trans g)).mono ?_;rintro e w2 ⟨rfl,g2⟩;have A:=g.trans g2;have T:=A.cell w.heap.size 3 (by simp);simp at T;have am:=((d.trans A).cell bb (ob+j) N).trans hu;have aa:=((d.trans A).cell bl (ol+i*6+1) O).trans Z))
    go_ret;exact⟨dc (by rw[M.out]),(d.trans g).trans g2⟩
theorem pG {l:List Int}{k:Nat}{z:Int}{g:Int->Int}(h:l[k]?=some z):(l.take (k+1)).map g=(l.take k).map g++[g z]:=by obtain⟨d,e⟩:=sR.1 h;rw[tG d,e];simp
theorem po (f:Fn)(x:Ins)(h:Ref.argument f x=true) :
  (x.op=14\/x.op=25\/x.op=27->x.args.length=2)/\(x.op=15->x.args.length=3)/\(x.op=16\/x.op=17\/x.op=18\/x.op=26\/x.op=30->x.args.length=1):=by
 have d:Ref.counts (Ref.shape f x) x=true:=by unfold Ref.argument at h;simp only[tD]at h;exact h.1.1.2
 refine⟨fun h=>?_,fun h=>?_,fun h=>?_⟩
 ·rcases h with h|h|h<;>simp[Ref.counts,Ref.shape,h]at d<;>omega
 ·simp[Ref.counts,Ref.shape,h]at d;omega
 ·rcases h with h|h|h|h|h<;>simp[Ref.counts,Ref.shape,h]at d<;>omega
theorem oZ {l:List Int}(h:l.length=2):∃a b,l=[a,b]:=by match l,h with|[a,b],_=>exact⟨a,b,rfl⟩
theorem qk {l:List Int}(h:l.length=3):∃a b c,l=[a,b,c]:=by match l,h with|[a,b,c],_=>exact⟨a,b,c,rfl⟩
theorem jF {l:List Int}(h:l.length=1):∃a,l=[a]:=by match l,h with|[a],_=>exact⟨a,rfl⟩
theorem pa (f:Fn)(x:Ins)(v vx:Value)(w:World)(hf:FnAt w.heap.size w v f)(hx:rP w.heap.size w vx x)(hs:f.blocks.length<=100000)(hlen:x.args.length<=100000)
  (hwf:Hid (∀z∈x.args,-9223372036854775808<=z/\z<=9223372036854775807)) (hcnt:Hid (Ref.argument f x=true)) :
  Calls prog 71 #[v,vx] w (RG (.bool (Ref.typed f x)) w):=by
 have ac:=hf;obtain⟨vp,vs,vb,rfl,hp,⟨As,cs,rfl,-,-,-⟩,⟨Ab,cb,rfl,-,-,-⟩⟩:=hf;obtain⟨Ap,cp,rfl,-,-,-⟩:=hp;obtain⟨va,vt,rfl,⟨Aa,ca,rfl,-,aG,Z⟩,⟨At,ct,rfl,-,aJ,-⟩⟩:=hx;obtain⟨i0,hi,an,ao,ap⟩:=info_parts dC;obtain⟨W,hW⟩:=xJ ((w.alloc (.cells #[.slice Ap f.params.length cp,.int .i64 f.ret,.slice As f.slots.length cs,.slice Ab f.blocks.length cb] 36)).alloc (.cells #[.int .i64 x.op,.int .i64 x.width,.int .i64 x.flags,.slice Aa x.args.length ca,.int .u32 x.imm,.slice At x.to.length ct] 68));have M:Gr w W:=by rw[<-hW];exact((tX w).alloc _).alloc _
 have aF:W.heap.size=w.heap.size+2:=by rw[<-hW];simp
 have Q:∀o,W.cell? ⟨w.heap.size,o,none⟩=(#[.slice Ap f.params.length cp,.int .i64 f.ret,.slice As f.slots.length cs,.slice Ab f.blocks.length cb]:Array Value)[o]?:=by intro o;rw[<-hW];exact tv _ _ _ _ _ _ (heap_alloc2_old w _ _)
 have b1:∀o,W.cell? ⟨w.heap.size+1,o,none⟩=(#[.int .i64 x.op,.int .i64 x.width,.int .i64 x.flags,.slice Aa x.args.length ca,.int .u32 x.imm,.slice At x.to.length ct]:Array Value)[o]?:=by intro o;rw[<-hW];exact tv _ _ _ _ _ _ (heap_alloc2_new w _ _)
 have HT:Hid (Ref.typed f x=(x.args.all (fun v=>decide (0<=Ref.kind f v)) && Ref.typedKinds f x (x.args.map (Ref.kind f)))):=rfl;unfold du
 go_enter func71, ntmps71
 go_wp2;have HW:=dJ hW;clear hW
 go_loopw [5,6] (fun s i wr=>∃ys:List Int,ys.length<=x.args.length/\i=.int .i64 ys.length/\Own1 W.heap.size 3 wr s (ys.map (Value.int .i64))/\Gr W wr/\Hid (ys=(x.args.take ys.length).map (Ref.kind f))/\Hid (∀y∈ys,0<=y)) (fun _ i _=>x.args.length-(intOf i).toNat)
 case atStart=>exact⟨[],tR _,rfl,Own1.nil _ _ _,tX _,by show _=_;simp,fun y hy=>by simp at hy⟩
 case round =>
  obtain⟨ys,hk,rfl,p,t,af,N⟩:=hrel;have c0:=(t.cell w.heap.size 0 (by omega)).trans (Q 0);have c1:=(t.cell w.heap.size 1 (by omega)).trans (Q 1);have c2:=(t.cell w.heap.size 2 (by omega)).trans (Q 2);have c3:=(t.cell w.heap.size 3 (by omega)).trans (Q 3);have d3:=(t.cell (w.heap.size+1) 3 (by omega)).trans (b1 3);simp at c0 c1 c2 c3 d3;by_cases ad:ys.length<x.args.length
  ·obtain⟨ba,oa,rfl,ah,ab⟩:=Z (by omega);obtain⟨z,hz⟩:∃z,x.args[ys.length]?=some z:=⟨x.args[ys.length],by simp[ad]⟩;have al:=((M.trans t).cell ba (oa+ys.length) ah).trans (ab ys.length z hz);have aj:=hwf.out z (sS hz);have HS:Hid (ys++[Ref.kind f z]=(x.args.take (ys.length+1)).map (Ref.kind f)):=by show _=_;rw[pG hz,<-af.out]
   have HZ:Hid (z∈x.args):=sS hz
   have HC:Hid (∀T,Gr wr T->Calls prog 113 #[.agg #[.slice Ap f.params.length cp,.int .i64 f.ret,.slice As f.slots.length cs,.slice Ab f.blocks.length cb],.int .i64 z] T (RG (.int .i64 (Ref.kind f z)) T)):=fun T g1 =>
    pD _ f z T (ac.gr ((M.trans t).trans g1)) hs aj.1 aj.2
   have z0:(0:Int)<=ys.length:=by omega
   have z1:(ys.length:Int)<(x.args.length:Int):=by omega
   have aI:=t.size;have kp:Hid (∀w',Gr W w'->(w'.cell? ⟨w.heap.size,0,none⟩=some (.slice Ap f.params.length cp)/\w'.cell? ⟨w.heap.size,1,none⟩=some (.int .i64 f.ret)/\w'.cell? ⟨w.heap.size,2,none⟩=some (.slice As f.slots.length cs)/\w'.cell? ⟨w.heap.size,3,none⟩=some (.slice Ab f.blocks.length cb)/\w'.cell? ⟨w.heap.size+1,3,none⟩=some (.slice (some ⟨ba,oa,none⟩) x.args.length ca)/\w'.cell? ⟨ba,oa+ys.length,none⟩=some (.int .i64 z))):=fun w' g=>⟨(g.cell w.heap.size 0 (by omega)).trans (Q 0),(g.cell w.heap.size 1 (by omega)).trans (Q 1),(g.cell w.heap.size 2 (by omega)).trans (Q 2),(g.cell w.heap.size 3 (by omega)).trans (Q 3),(g.cell (w.heap.size+1) 3 (by omega)).trans (b1 3),((M.trans g).cell ba (oa+ys.length) ah).trans (ab ys.length z hz)⟩;clear ab Z hz ac Q b1;go_wp2
   go_region_held3 (fun w'=>w'.cell? ⟨w.heap.size,0,none⟩=some (.slice Ap f.params.length cp)/\w'.cell? ⟨w.heap.size,1,none⟩=some (.int .i64 f.ret)/\w'.cell? ⟨w.heap.size,2,none⟩=some (.slice As f.slots.length cs)/\w'.cell? ⟨w.heap.size,3,none⟩=some (.slice Ab f.blocks.length cb)/\w'.cell? ⟨w.heap.size+1,3,none⟩=some (.slice (some ⟨ba,oa,none⟩) x.args.length ca)/\w'.cell? ⟨ba,oa+ys.length,none⟩=some (.int .i64 z)) (first|exact kp.out _ t.drew|exact kp.out _ g1|exact kp.out _ (g1.alloc _)|exact kp.out _ g2) (first|(go_at_call 113;refine(HC.out _ ((tX _).drew)).mono ?_;rintro e T ⟨rfl,g0⟩;have g1:Gr W T:=(t.drew).trans g0;have aq:W.heap.size<=T.heap.size:=g1.size;have ae:=p.gr (((tX wr).drew).trans g0))|(refine oT (v:=u5) underlying33 hi an ao ap rfl (by omega) rfl (.tmp 15) (.tmp 23) (by rfl) (by rfl) ae rfl (by rfl) (by simp;omega) aq ?_;intro A1 c1 w2 J aa aH;have g2:Gr W w2:=g1.below aa (tS _)))
   obtain⟨K,rfl,-,-,d⟩:=dq J (A:=A1) (c:=c1) (by simp) (by simp)
   have S:w2.cell? ⟨K,ys.length,none⟩=some (.int .i64 (Ref.kind f z)):=by rw[d ys.length (by simp),tj (by simp)];simp
   have ag:=dJ J;clear d J;go_wp2
   ·have aD:Ref.kind f z<0:=by assumption
    go_ret
    exact⟨cZ (by
      rw[HT.out]
      have:x.args.all (fun v=>decide (0<=Ref.kind f v))=false:=by rw[List.all_eq_false];exact⟨z,HZ.out,by simp;omega⟩
      rw[this];rfl),M.trans g2⟩
   ·have aE:0<=Ref.kind f z:=by assumption
    go_roundw;case rel=>exact⟨ys++[Ref.kind f z],by simp;omega,by simp,by simpa using ag.out,g2,by show _=_;rw[HS.out];simp,fun y hy=>by rcases tI.1 hy with h|h;exact N.out y h;simp at h;omega⟩
    case measure=>simp[intOf];omega
  ·have S:ys.length=x.args.length:=by omega
   have HY:Hid (ys=x.args.map (Ref.kind f)):=by show _=_;rw[af.out,S,tE]
   have B:Hid (Ref.typed f x=Ref.typedKinds f x ys):=by
    show _=_;rw[HT.out,<-HY.out]
    have:x.args.all (fun v=>decide (0<=Ref.kind f v))=true:=by rw[tu];intro v hv;simp;exact N.out _ (by rw[HY.out];exact List.mem_map_of_mem hv)
    rw[this];rfl
   obtain⟨L,C,rfl⟩:=p.form;have G:Gr w wr:=M.trans t;have d0:=(t.cell (w.heap.size+1) 0 (by omega)).trans (b1 0);have d1:=(t.cell (w.heap.size+1) 1 (by omega)).trans (b1 1);simp at d0 d1;have m:=po f x hcnt.out;have E:=dJ S;clear Q b1 Z af N HT hwf ac S ad;rcases Decidable.em (x.op=14) with u|ar
   ·obtain⟨l,R,rfl⟩:=oZ (E.out.trans (m.1 (.inl u)));have D:x.args.length<=2:=by have:=E.out;simp at this;omega
    obtain⟨K,rfl,-,-,d⟩:=dq p (A:=L) (c:=C) (by simp) (by simp);have H:=d 0 (by simp);have U:=d 1 (by simp);simp at H U;clear d m;have j:Hid (Ref.typed f x=(Ref.isWidth l && decide (R=l))):=by show _=_;rw[B.out];simp[Ref.typedKinds,u]
    have F:Hid (∀w',Calls prog 68 #[.int .i64 l] w' (RS (.bool (Ref.isWidth l)) w')):=dD l
    cases hw:Ref.isWidth l with
    | true =>
     rw[hw]at F j;clear hw;go_wp2;go_quiet ((go_at_call 68;exact dj (F.out _)));go_wp2;all_goals go_ret
     all_goals exact⟨cZ (by rw[j.out];grind),G.drewN _⟩
    | false =>
     rw[hw]at F j;clear hw;go_wp2;go_quiet ((go_at_call 68;exact dj (F.out _)));go_wp2;all_goals go_ret
     all_goals exact⟨cZ (by rw[j.out];grind),G.drewN _⟩
   rcases Decidable.em (x.op=15) with u|au
   ·obtain⟨l,R,y2,rfl⟩:=qk (E.out.trans (m.2.1 u));have D:x.args.length<=3:=by have:=E.out;simp at this;omega
    obtain⟨K,rfl,-,-,d⟩:=dq p (A:=L) (c:=C) (by simp) (by simp);have H:=d 0 (by simp);have U:=d 1 (by simp);have e2:=d 2 (by simp);simp at H U e2;clear d m;have j:Hid (Ref.typed f x=(decide (l=1) && decide (R=x.width) && decide (y2=x.width))):=by show _=_;rw[B.out];simp[Ref.typedKinds,u]
    rcases Decidable.em (l=1) with X|X
    ·have n0:(l == 1)=true:=by simp[X]
     have H0:=dJ X;clear X;rcases Decidable.em (R=x.width) with Y|Y
     ·have n1:(R == x.width)=true:=by simp[Y]
      have H1:=dJ Y;clear Y;go_wp2;go_quiet (fail);go_wp2;go_ret;exact⟨cZ (by rw[j.out];have a:=H0.out;have b:=H1.out;grind),G.drewN _⟩
     ·have n1:(R == x.width)=false:=by simp[Y]
      have H1:=dJ Y;clear Y;go_wp2;go_quiet (fail);go_wp2;go_ret;exact⟨cZ (by rw[j.out];have b:=H1.out;grind),G.drewN _⟩
    ·have n0:(l == 1)=false:=by simp[X]
     have H0:=dJ X;clear X;go_wp2;go_quiet (fail);go_wp2;go_ret;exact⟨cZ (by rw[j.out];have a:=H0.out;grind),G.drewN _⟩
   rcases Decidable.em (x.op=16) with u|av
   ·obtain⟨l,rfl⟩:=jF (E.out.trans (m.2.2 (.inl u)));have D:x.args.length<=1:=by have:=E.out;simp at this;omega
    obtain⟨K,rfl,-,-,d⟩:=dq p (A:=L) (c:=C) (by simp) (by simp);have H:=d 0 (by simp);simp at H;clear d m;have j:Hid (Ref.typed f x=(Ref.isWidth l && decide (l<x.width))):=by show _=_;rw[B.out];simp[Ref.typedKinds,u]
    have F:Hid (∀w',Calls prog 68 #[.int .i64 l] w' (RS (.bool (Ref.isWidth l)) w')):=dD l
    cases hw:Ref.isWidth l with
    | true =>
     rw[hw]at F j;clear hw;go_wp2;go_quiet ((go_at_call 68;exact dj (F.out _)));go_wp2;all_goals go_ret
     all_goals exact⟨cZ (by rw[j.out];grind),G.drewN _⟩
    | false =>
     rw[hw]at F j;clear hw;go_wp2;go_quiet ((go_at_call 68;exact dj (F.out _)));go_wp2;all_goals go_ret
     all_goals exact⟨cZ (by rw[j.out];grind),G.drewN _⟩
   rcases Decidable.em (x.op=17) with u|aw
   ·obtain⟨l,rfl⟩:=jF (E.out.trans (m.2.2 (.inr (.inl u))));have D:x.args.length<=1:=by have:=E.out;simp at this;omega
    obtain⟨K,rfl,-,-,d⟩:=dq p (A:=L) (c:=C) (by simp) (by simp);have H:=d 0 (by simp);simp at H;clear d m;have j:Hid (Ref.typed f x=(Ref.isWidth l && decide (l<x.width))):=by show _=_;rw[B.out];simp[Ref.typedKinds,u]
    have F:Hid (∀w',Calls prog 68 #[.int .i64 l] w' (RS (.bool (Ref.isWidth l)) w')):=dD l
    cases hw:Ref.isWidth l with
    | true =>
     rw[hw]at F j;clear hw;go_wp2;go_quiet ((go_at_call 68;exact dj (F.out _)));go_wp2;all_goals go_ret
     all_goals exact⟨cZ (by rw[j.out];grind),G.drewN _⟩
    | false =>
     rw[hw]at F j;clear hw;go_wp2;go_quiet ((go_at_call 68;exact dj (F.out _)));go_wp2;all_goals go_ret
     all_goals exact⟨cZ (by rw[j.out];grind),G.drewN _⟩
   rcases Decidable.em (x.op=18) with u|ax
   ·obtain⟨l,rfl⟩:=jF (E.out.trans (m.2.2 (.inr (.inr (.inl u)))));have D:x.args.length<=1:=by have:=E.out;simp at this;omega
    obtain⟨K,rfl,-,-,d⟩:=dq p (A:=L) (c:=C) (by simp) (by simp);have H:=d 0 (by simp);simp at H;clear d m;have j:Hid (Ref.typed f x=(Ref.isWidth l && decide (x.width<l))):=by show _=_;rw[B.out];simp[Ref.typedKinds,u]
    have F:Hid (∀w',Calls prog 68 #[.int .i64 l] w' (RS (.bool (Ref.isWidth l)) w')):=dD l
    cases hw:Ref.isWidth l with
    | true =>
     rw[hw]at F j;clear hw;go_wp2;go_quiet ((go_at_call 68;exact dj (F.out _)));go_wp2;all_goals go_ret
     all_goals exact⟨cZ (by rw[j.out];grind),G.drewN _⟩
    | false =>
     rw[hw]at F j;clear hw;go_wp2;go_quiet ((go_at_call 68;exact dj (F.out _)));go_wp2;all_goals go_ret
     all_goals exact⟨cZ (by rw[j.out];grind),G.drewN _⟩
   rcases Decidable.em (x.op=25) with u|ay
   ·obtain⟨l,R,rfl⟩:=oZ (E.out.trans (m.1 (.inr (.inl u))));have D:x.args.length<=2:=by have:=E.out;simp at this;omega
    obtain⟨K,rfl,-,-,d⟩:=dq p (A:=L) (c:=C) (by simp) (by simp);have H:=d 0 (by simp);have U:=d 1 (by simp);simp at H U;clear d m;have j:Hid (Ref.typed f x=(decide (l=33) && Ref.isWidth R)):=by show _=_;rw[B.out];simp[Ref.typedKinds,u]
    go_wp2_with (go_at_call 68;refine(dD _ _).mono ?_;rintro e T ⟨rfl,rfl⟩);all_goals go_ret
    all_goals exact⟨cZ (by rw[j.out];grind),G⟩
   rcases Decidable.em (x.op=26) with u|az
   ·obtain⟨l,rfl⟩:=jF (E.out.trans (m.2.2 (.inr (.inr (.inr (.inl u))))));have D:x.args.length<=1:=by have:=E.out;simp at this;omega
    obtain⟨K,rfl,-,-,d⟩:=dq p (A:=L) (c:=C) (by simp) (by simp);have H:=d 0 (by simp);simp at H;clear d m;have j:Hid (Ref.typed f x=(decide (l=33))):=by show _=_;rw[B.out];simp[Ref.typedKinds,u]
    go_wp2;all_goals go_ret
    all_goals exact⟨cZ (by rw[j.out];grind),G⟩
   rcases Decidable.em (x.op=27) with u|aA
   ·obtain⟨l,R,rfl⟩:=oZ (E.out.trans (m.1 (.inr (.inr u))));have D:x.args.length<=2:=by have:=E.out;simp at this;omega
    obtain⟨K,rfl,-,-,d⟩:=dq p (A:=L) (c:=C) (by simp) (by simp);have H:=d 0 (by simp);have U:=d 1 (by simp);simp at H U;clear d m;have j:Hid (Ref.typed f x=(decide (l=33) && Ref.isMem R)):=by show _=_;rw[B.out];simp[Ref.typedKinds,u]
    go_wp2;all_goals go_ret
    all_goals exact⟨cZ (by rw[j.out];unfold Ref.isMem;grind),G⟩
   rcases Decidable.em (x.op=30) with u|aB
   ·obtain⟨l,rfl⟩:=jF (E.out.trans (m.2.2 (.inr (.inr (.inr (.inr u))))));have D:x.args.length<=1:=by have:=E.out;simp at this;omega
    obtain⟨K,rfl,-,-,d⟩:=dq p (A:=L) (c:=C) (by simp) (by simp);have H:=d 0 (by simp);simp at H;clear d m;have j:Hid (Ref.typed f x=(decide (l=1))):=by show _=_;rw[B.out];simp[Ref.typedKinds,u]
    go_wp2;all_goals go_ret
    all_goals exact⟨cZ (by rw[j.out];grind),G⟩
   rcases Decidable.em (x.op=31) with u|aC
   ·clear m;rcases ys with _|⟨l,r⟩
    ·have j:Hid (Ref.typed f x=true):=by show _=_;rw[B.out];simp[Ref.typedKinds,u]
     have D:x.args.length<=0:=by have:=E.out;simp at this;simp[this]
     go_wp2;go_quiet (fail);go_wp2;go_ret;exact⟨cZ (by rw[j.out]),G.drewN _⟩
    ·obtain⟨K,rfl,-,-,d⟩:=dq p (A:=L) (c:=C) (by simp) (by simp);have H:=d 0 (by simp);simp at H;have j:Hid (Ref.typed f x=decide (l=f.ret)):=by show _=_;rw[B.out];simp[Ref.typedKinds,u]
     have D:x.args.length<=r.length+1:=by have:=E.out;simp at this;omega
     have nz:((r.length:Int)+1 == 0)=false:=by simp;omega
     have z1:(0:Int)<(r.length:Int)+1:=by omega
     clear d;go_wp2;go_quiet (fail);go_wp2;go_ret;exact⟨cZ (by rw[j.out];grind),G.drewN _⟩
   have j:Hid (Ref.typed f x=ys.all fun z=>decide (z=x.width)):=by show _=_;rw[B.out];simp[Ref.typedKinds,ar,au,av,aw,ax,ay,az,aA,aB,aC]
   have D:x.args.length<=ys.length:=by have:=E.out;omega
   clear m;go_wp2
   go_loopw [7] (fun i wx=>∃k:Nat,k<=ys.length/\i=.int .i64 k/\Gr wr wx/\Hid ((ys.all fun z=>decide (z=x.width))=((ys.drop k).all fun z=>decide (z=x.width)))) (fun i _=>ys.length-(intOf i).toNat)
   case atStart=>exact⟨0,tR _,rfl,tX _,rfl⟩
   case round =>
    obtain⟨k,hk,rfl,O,I⟩:=hrel;rcases hr:ys.drop k with _|⟨z,r⟩
    ·have am:=dm hr hk;have HA:Hid ((ys.all fun z=>decide (z=x.width))=true):=by show _=_;rw[I.out,hr];rfl
     subst am;clear hr I;go_wp2;go_ret;exact⟨cZ (by rw[j.out,HA.out]),G.trans O⟩
    ·obtain⟨ad,hl,ai⟩:=di hr;obtain⟨K,rfl,aa,-,d⟩:=dq p (A:=L) (c:=C) (by simp) (by simp;omega);have q:=(O.cell K k aa).trans (d k (by simp;omega));rw[td,hl]at q;simp only[Option.map_some]at q;have q1:=(O.cell (w.heap.size+1) 1 (by have:=t.size;omega)).trans d1
     have HR:Hid ((ys.all fun z=>decide (z=x.width))=(decide (z=x.width) && r.all fun z=>decide (z=x.width))):=by show _=_;rw[I.out,hr];rfl
     have ak:Hid (ys.drop (k+1)=r):=ai;have z0:(0:Int)<=k:=by omega
     have z1:(k:Int)<(ys.length:Int):=by omega
     clear hr hl ai I d;go_wp2;go_quiet (fail);go_wp2
     ·go_ret;exact⟨cZ (by rw[j.out,HR.out];grind),(G.trans O).drewN _⟩
     ·go_roundw;case rel=>exact⟨k+1,by omega,by go_num,O.drewN _,by (show _=_;rw[HR.out,ak.out];grind)⟩
      case measure=>simp[intOf];omega
theorem jt:(prog.info? 4).map (fun i=>(i.zero,i.size,i.bytes))=some (some (.bool false),1,1):=by kernel_rfl
def BRow (B hb n:Nat)(w:World)(bs:List Bool):Prop:=w.ownsRow B 4 1 (.slice (some ⟨hb,0,none⟩) n n) n (bs.map Value.bool)
section
variable {B hb n:Nat}{w w':World}{bs:List Bool}
theorem BRow.len (h:BRow B hb n w bs):bs.length=n:=by have:=h.1;simpa using this
theorem BRow.cell (h:BRow B hb n w bs)(j:Nat)(b:Bool)(hj:bs[j]?=some b):w.cell? ⟨hb,j,none⟩=some (.bool b):=by have g:=h.len;have d:=(sR.1 hj).1;rw[World.ownsRow.cellAt h j (by omega),td,hj];rfl
theorem BRow.frozen (h:BRow B hb n w bs)(j:Nat):w.frozen? ⟨hb,j,none⟩=false:=World.ownsRow.frozenAt h j
theorem BRow.set_ (h:BRow B hb n w bs)(j:Nat)(b:Bool):BRow B hb n (w.setCell ⟨hb,j,none⟩ (.bool b)) (bs.set j b):=by have:=(World.ownsRow.stored h j (.bool b)).1;unfold BRow;rw[List.map_set];exact this
theorem BRow.base (h:BRow B hb n w bs)(hn:0<n):B<=hb:=by obtain⟨b,e,_,d,_⟩:=dq h rfl hn;cases e;exact d
theorem BRow.bools (h:BRow B hb n w bs)(hn:n<=17592186044416):BoolsAt w.heap.size w (.slice (some ⟨hb,0,none⟩) n n) bs:=by have d:=h.len;subst d;exact jG h hn
end
theorem io {w:World}{ops:Array Oper}{rest:List Oper}{o:Oper}{a:Act}{Q:Exit->Act->World->Prop}(hg:o.guard=none)(l c:Operand)(hop:o.op=Op.makeSlice 111 l c)
  (B n:Nat) (hl:a.eval l=.int .i64 n) (hc:a.eval c=.int .i64 n) (hn0:1<=n) (hn:n<=17592186044416) (hB:B<=w.heap.size)
  (hK:∀w',BRow B w.heap.size n w' (List.replicate n false)->Gr w w'->w'.cell? ⟨w.heap.size,0,none⟩=some (.bool false)->w'.frozen? ⟨w.heap.size,0,none⟩=false->wpList prog ops Q rest (a.put o.dst (.slice (some ⟨w.heap.size,0,none⟩) n n)) w') :
  wpList prog ops Q (o::rest) a w:=by
 obtain⟨y,t,m,p,q⟩:=info_parts jt;refine wpList_make_full _ hg l c 111 hop B 4 y _ 1 underlying111 t m p _ _ _ _ n hl hc rfl rfl (by rw[q];omega) (by simp only[maxLen];omega) hB ?_;intro r g j;rw[Nat.mul_one,show (Value.bool false).cells=#[Value.bool false] from rfl,toList_madeCells_one]at g;have d:BRow B w.heap.size n r (List.replicate n false):=by unfold BRow;rw[List.map_replicate];exact g
 refine hK r d ((tX w).grown j (fun k u=>by cases u)) ?_ (d.frozen 0);exact d.cell 0 false (by rw[tr,tB (by omega)])
theorem mz {n b:Nat}(h:b<n):(List.range n).drop b=b::(List.range n).drop (b+1):=by rw[tl (by simpa using h)];simp
theorem eX (z t:Int)(bs:List Bool):(Ref.spreadEdge z bs t).length=bs.length:=by unfold Ref.spreadEdge;split<;>simp
theorem gO (z t:Int)(bs:List Bool)(b:Nat)(h:bs[b]?=some true):(Ref.spreadEdge z bs t)[b]?=some true:=by
 unfold Ref.spreadEdge;split
 ·exact h
 ·rw[List.getElem?_set];split
  ·rename_i e;subst e;have:=(sR.1 h).1;simp[this]
  ·exact h
theorem fW (vg:Value)(g:List (List Int))(z:Int)(w:World)(hg:TabAt w.heap.size w vg g)(hn:1<=g.length)(hsm:g.length<=100000)(hok:Hid (∀l∈g,∀t∈l,0<=t/\t<(g.length:Int))) :
  Calls prog 114 #[vg,.int .i64 z] w fun e w'=>∃v,e=.returned v/\BoolsAt w'.heap.size w' v (Ref.reached g z)/\Gr w w':=by
 obtain⟨A,c,rfl,g1,g2,g3⟩:=hg;obtain⟨bg,og,rfl,Z,ab⟩:=g3 (by omega);have HG:=dJ ab;clear ab g3;by_cases W:z=0
 ·have av:(z == 0)=true:=by simp[W]
  have HR:Hid (Ref.reached g z=List.replicate g.length false):=by show _=_;unfold Ref.reached;rw[tB W]
  clear W
  go_enter func114, ntmps114
  go_wp2_with (at_make;refine io rfl _ _ rfl w.heap.size g.length rfl rfl hn (by omega) (tS _) ?_;intro w1 C M _ _);go_ret;exact⟨_,rfl,by rw[HR.out];exact C.bools (by omega),M⟩
 ·have av:(z == 0)=false:=by simp[W]
  have HR:Hid (Ref.reached g z=Ref.spread z g g.length ((List.replicate g.length false).set 0 true)):=by show _=_;unfold Ref.reached;rw[tC W]
  clear W;have z0:(0:Int)<(g.length:Int):=by omega
  go_enter func114, ntmps114
  go_wp2_with (at_make;refine io rfl _ _ rfl w.heap.size g.length rfl rfl hn (by omega) (tS _) ?_;intro w1 C M aq ar);have B:BRow w.heap.size w.heap.size g.length (w1.setCell ⟨w.heap.size,0,none⟩ (.bool true)) ((List.replicate g.length false).set 0 true):=C.set_ 0 true;have F:Gr w (w1.setCell ⟨w.heap.size,0,none⟩ (.bool true)):=M.setCell (tS _) _;clear aq ar C
  go_loopw [6,7,8] (fun r _ _ wr=>∃(k:Nat)(N:List Bool),k<=g.length/\r=.int .i64 k/\BRow w.heap.size w.heap.size g.length wr N/\Gr w wr/\Hid (Ref.reached g z=Ref.spread z g (g.length-k) N)) (fun r _ _ _=>g.length-(intOf r).toNat)
  case atStart=>exact⟨0,_,tR _,rfl,B,F,HR⟩
  case round =>
   obtain⟨k,N,hk,rfl,C,T,I⟩:=hrel;obtain⟨wo,rfl⟩:∃wo:World,wo=wr:=⟨_,rfl⟩;clear B F M;by_cases ay:k<g.length
   ·have al:Hid (Ref.reached g z=Ref.spread z g (g.length-(k+1)) (Ref.spreadRound z g N)):=by
     show _=_;rw[I.out,show g.length-k=(g.length-(k+1))+1 by omega];rfl
    clear I;go_wp2
    go_loopw [7,8] (fun b _ wr=>∃(j:Nat)(y:List Bool),j<=g.length/\b=.int .i64 j/\BRow w.heap.size w.heap.size g.length wr y/\Gr w wr/\Hid (Ref.spreadRound z g N=((List.range g.length).drop j).foldl (Ref.spreadBlock z g) y)) (fun b _ _=>g.length-(intOf b).toNat)
    case atStart=>exact⟨0,N,tR _,rfl,C,T,by show _=_;simp[Ref.spreadRound]⟩
    case round =>
     obtain⟨j,y,hj,rfl,B,F,D⟩:=hrel;obtain⟨aj,rfl⟩:∃aj:World,aj=wr:=⟨_,rfl⟩;clear C T;by_cases O:j<g.length
     ·obtain⟨l,hl⟩:∃l,g[j]?=some l:=⟨g[j],by simp[O]⟩;obtain⟨u,hu,ah⟩:=HG.out j l hl;have aA:=(F.cell _ _ Z).trans hu;have ai:=ah.below F;obtain⟨A',c',rfl,p1,p2,-⟩:=ai;obtain⟨A3,c3,e3,-,-,p3⟩:=ah;injection e3 with am an ao;subst am;subst ao;have HU:=dJ hu;have HL:Hid (∀t∈l,0<=t/\t<(g.length:Int)):=hok.out l (sS hl);have ad:g.getD j []=l:=by simp[List.getD,hl]
      have HD:Hid (Ref.spreadRound z g N=((List.range g.length).drop (j+1)).foldl (Ref.spreadBlock z g) (Ref.spreadBlock z g y j)):=by show _=_;rw[D.out,mz O];rfl
      have ae:=B.len;obtain⟨Y,S⟩:∃b,y[j]?=some b:=⟨y[j]'(by omega),by simp[show j<y.length by omega]⟩;have q:=B.cell j Y S;have Q:=dJ S;have ak:=dJ ad;have aw:=dJ ae;have P3:Hid (0<l.length->∃b off,A'=some ⟨b,off,none⟩/\b<w.heap.size/\∀i z,l[i]?=some z->w.cell? ⟨b,off+i,none⟩=some (.int .i64 z)):=p3;have zj:(0:Int)<=j:=by omega
      clear hl hu D ad S ae p3 an;go_wp2
      go_loopw [8] (fun i wr=>∃(m:Nat)(d:List Bool),m<=l.length/\i=.int .i64 m/\BRow w.heap.size w.heap.size g.length wr d/\Gr w wr/\Hid (d[j]?=some Y)/\Hid (Y=false->d=y)/\Hid (l.foldl (Ref.spreadEdge z) y=(l.drop m).foldl (Ref.spreadEdge z) d)) (fun i _=>l.length-(intOf i).toNat)
      case atStart=>exact⟨0,y,tR _,rfl,B,F,Q,fun _=>rfl,rfl⟩
      case round =>
       obtain⟨m,d,hm,rfl,p,G,L,J,E⟩:=hrel;have aB:=(G.cell bg (og+j) Z).trans (HU.out);have q2:=p.cell j Y L.out;have ax:m<=l.length:=hm
       cases Y with
       | false =>
        have R:Hid (Ref.spreadBlock z g y j=d):=by
         show _=_;rw[J.out rfl];unfold Ref.spreadBlock;have:y.getD j false=false:=by simp[List.getD,Q.out]
         rw[this];rfl
        clear J E;by_cases af:m<l.length
        ·go_wp2;go_roundw;case rel=>exact⟨j+1,d,by omega,by go_num,p,G,by (show _=_;rw[HD.out,R.out])⟩
         case measure=>simp[intOf];omega
        ·go_wp2;go_roundw;case rel=>exact⟨j+1,d,by omega,by go_num,p,G,by (show _=_;rw[HD.out,R.out])⟩
         case measure=>simp[intOf];omega
       | true =>
        clear J;rcases hr:l.drop m with _|⟨t,r⟩
        ·have au:=dm hr hm
         have R:Hid (Ref.spreadBlock z g y j=d):=by
          show _=_;unfold Ref.spreadBlock;have:y.getD j false=true:=by simp[List.getD,Q.out]
          rw[this,tB rfl,ak.out,E.out,hr];rfl
         subst au;clear hr E;go_wp2;go_roundw;case rel=>exact⟨j+1,d,by omega,by go_num,p,G,by (show _=_;rw[HD.out,R.out])⟩
         case measure=>simp[intOf];omega
        ·obtain⟨af,U,ag⟩:=di hr;obtain⟨bl,ol,rfl,ap,ac⟩:=P3.out (by omega);have ht:=HL.out t (sS U);obtain⟨H,rfl⟩:=tb ht.1;have az:H<g.length:=by omega
         have qt:=(Gr.cell (a:=w) G bl (ol+m) ap).trans (ac m H U);obtain⟨bt,aa⟩:∃b,d[H]?=some b:=⟨d[H]'(by have:=p.len;omega),by have:=p.len;simp[show H<d.length by omega]⟩;have qc:=p.cell H bt aa;have qf:=p.frozen H;have R:Hid (l.foldl (Ref.spreadEdge z) y=r.foldl (Ref.spreadEdge z) (Ref.spreadEdge z d H)):=by show _=_;rw[E.out,hr];rfl
         have X:Hid (l.drop (m+1)=r):=ag;have zt:(H:Int)<(g.length:Int):=by omega
         clear hr ag U E ac ht aa;by_cases K:(H:Int)=z
         ·have nz:((H:Int) != z)=false:=by simp[K]
          have HS:Hid (Ref.spreadEdge z d H=d):=by show _=_;unfold Ref.spreadEdge;rw[tB K]
          clear K;go_wp2;go_roundw;case rel=>exact⟨m+1,d,by omega,by go_num,p,G,L,fun h=>(by cases h),by (show _=_;rw[R.out,HS.out,X.out])⟩
          case measure=>simp[intOf];omega
         ·have nz:((H:Int) != z)=true:=by simp[K]
          have HS:Hid (Ref.spreadEdge z d H=d.set H true):=by show _=_;unfold Ref.spreadEdge;rw[tC K];simp
          clear K;go_wp2;go_roundw;case rel=>exact⟨m+1,d.set H true,by omega,by go_num,p.set_ H true,G.setCell (tS _) _,by (have:=gO z H d j L.out;rw[HS.out]at this;exact this),fun h=>(by cases h),by (show _=_;rw[R.out,HS.out,X.out])⟩
          case measure=>simp[intOf];omega
     ·obtain rfl:j=g.length:=by omega
      have HE:Hid (Ref.spreadRound z g N=y):=by show _=_;rw[D.out,tq (by simp)];rfl
      clear D;go_wp2;go_roundw;case rel=>exact⟨k+1,y,by omega,by go_num,B,F,by (show _=_;rw[al.out,HE.out])⟩
      case measure=>simp[intOf];omega
   ·obtain rfl:k=g.length:=by omega
    go_wp2;go_ret;exact⟨_,rfl,by rw[I.out,Nat.sub_self];exact C.bools (by omega),T⟩
theorem gR (vg:Value)(g:List (List Int))(a b:Int)(w:World)(hg:TabAt w.heap.size w vg g)(hn:1<=g.length)(hsm:g.length<=100000)(hok:Hid (∀l∈g,∀t∈l,0<=t/\t<(g.length:Int)))
  (hb1:0<=b) (hb2:b<g.length) :
  Calls prog 145 #[vg,.int .i64 a,.int .i64 b] w (RG (.bool (Ref.dominates g a b)) w):=by
 by_cases j:a=b
 ·have D:(a == b)=true:=by simp[j]
  have u:Hid (Ref.dominates g a b=true):=by show _=_;simp[Ref.dominates,j]
  clear j;obtain⟨A,c,rfl,-,-,-⟩:=hg
  go_enter func145, ntmps145
  go_wp2;go_ret;exact⟨cZ (by rw[u.out]),tX _⟩
 ·have D:(a == b)=false:=by simp[j]
  have u:Hid (Ref.dominates g a b=!(Ref.reached g a).getD b.toNat false):=by show _=_;simp[Ref.dominates,j]
  have C:=fW vg g a w hg hn hsm hok;have E:=dJ C
  have hlen:(Ref.reached g a).length=g.length:=by
   have H:∀(l:List Int)(d:List Bool),(l.foldl (Ref.spreadEdge a) d).length=d.length:=by
    intro l;induction l with
    | nil=>intro d;rfl
    | cons t r ih=>intro d;rw[List.foldl_cons,ih,eX]
   have I:∀(l:List Nat)(d:List Bool),(l.foldl (Ref.spreadBlock a g) d).length=d.length:=by
    intro l;induction l with
    | nil=>intro d;rfl
    | cons t r ih=>intro d;rw[List.foldl_cons,ih];unfold Ref.spreadBlock;split<;>simp[H]
   have J:∀(n:Nat)(d:List Bool),(Ref.spread a g n d).length=d.length:=by
    intro n;induction n with
    | zero=>intro d;rfl
    | succ n ih=>intro d;rw[Ref.spread,ih,Ref.spreadRound,I]
   unfold Ref.reached;split<;>simp[J]
  have F:=dJ hlen;clear j C hlen;obtain⟨n,rfl⟩:=tb hb1;obtain⟨A,c,rfl,-,-,-⟩:=hg
  go_enter func145, ntmps145
  go_wp2_with fail;refine E.out.mono ?_;rintro e Q ⟨v,rfl,hv,G⟩;obtain⟨M,O,rfl,-,-,p⟩:=hv;have hlen:=F.out;obtain⟨N,L,rfl,K,m⟩:=p (by omega);obtain⟨y,B⟩:∃y,(Ref.reached g a)[n]?=some y:=⟨(Ref.reached g a)[n]'(by omega),by simp[show n<(Ref.reached g a).length by omega]⟩;have q:=m n y B;have z:Hid (Ref.dominates g a n=!y):=by show _=_;rw[u.out];simp[List.getD,B]
  have R:(n:Int)<((Ref.reached g a).length:Int):=by omega
  clear m B hlen p;go_wp2;go_ret;exact⟨cZ (by rw[z.out]),G⟩
theorem oV (v vg:Value)(f:Fn)(g:List (List Int))(z block place:Int)(w:World)(hf:FnAt w.heap.size w v f)(hs:f.blocks.length<=100000)(hz1:-9223372036854775808<=z)(hz2:z<=9223372036854775807)
  (hg:TabAt w.heap.size w vg g) (hn:1<=g.length) (hsm:g.length<=100000) (hok:Hid (∀l∈g,∀t∈l,0<=t/\t<(g.length:Int))) (hb1:0<=block) (hb2:block<g.length) :
  Calls prog 115 #[v,vg,.int .i64 z,.int .i64 block,.int .i64 place] w (RG (.bool (Ref.there f g z block place)) w):=by
 have y:=hf;obtain⟨vp,vs,vb,rfl,-,-,-⟩:=hf;have d:Gr w (w.alloc (.cells #[vp,.int .i64 f.ret,vs,vb] 36)):=(tX _).alloc _;have C:=jW _ f z _ (y.gr d) hs hz1 hz2;have u:Hid (Ref.there f g z block place=if (Ref.whereIs f z).1<0 then true else if (Ref.whereIs f z).1=block then decide (place<0) || decide ((Ref.whereIs f z).2<place) else Ref.dominates g (Ref.whereIs f z).1 block):=rfl
 revert C u
 generalize Ref.whereIs f z=p;obtain⟨b,i⟩:=p;dsimp only;intro C u;have A:=dJ C;have D:Hid (∀m,Gr w m->Calls prog 145 #[vg,.int .i64 b,.int .i64 block] m (RG (.bool (Ref.dominates g b block)) m)):=fun m j=>gR vg g b block m (hg.gr j) hn hsm hok hb1 hb2;clear C y hg;by_cases B:b<0
 ·go_enter func115, ntmps115
  go_wp2_with (go_at_call 144;refine A.out.mono ?_;rintro e m ⟨rfl,j⟩);go_ret;exact⟨cZ (by rw[u.out,tB B]),d.trans j⟩
 ·by_cases r:b=block
  ·have F:(b == block)=true:=by simp[r]
   have q:Hid (Ref.there f g z block place=(decide (place<0) || decide (i<place))):=by show _=_;rw[u.out,tC B,tB r]
   clear r
   go_enter func115, ntmps115
   go_wp2_with (go_at_call 144;refine A.out.mono ?_;rintro e m ⟨rfl,j⟩);all_goals go_ret
   all_goals exact⟨cZ (by have:=q.out;grind),d.trans j⟩
  ·have F:(b == block)=false:=by simp[r]
   have q:Hid (Ref.there f g z block place=Ref.dominates g b block):=by show _=_;rw[u.out,tC B,tC r]
   clear r
   go_enter func115, ntmps115
   go_wp2_with (first|(go_at_call 144;refine A.out.mono ?_;rintro e m ⟨rfl,j⟩)|(go_at_call 145;refine(D.out _ (d.trans j)).mono ?_;rintro e G ⟨rfl,E⟩))
   go_ret;exact⟨cZ (by rw[q.out]),(d.trans j).trans E⟩
def WfI (x:Ins):Prop:=(0<=x.imm/\x.imm<4294967296)/\(∀z∈x.args,-9223372036854775808<=z/\z<=9223372036854775807)/\x.args.length<=100000/\x.to.length<=100000
theorem fc (f:Fn)(x:Ins)(h:Ref.argument f x=true):(∀t∈x.to,0<=t/\t<(f.blocks.length:Int))/\(x.op=28->x.to.length=x.args.length):=by
 unfold Ref.argument at h;simp only[tD]at h;refine⟨fun t g=>?_,fun ho=>?_⟩
 ·have:=tu.1 h.1.2 t g;simpa using this
 ·have d:=h.1.1.2;simp[Ref.counts,Ref.shape,ho]at d;omega
theorem ln (f:Fn)(hA:∀l∈f.blocks,∀x∈l,Ref.argument f x=true):∀l∈Ref.graph f,∀t∈l,0<=t/\t<((Ref.graph f).length:Int):=by
 intro l g t d;unfold Ref.graph at g ⊢;obtain⟨b,j,rfl⟩:=List.mem_map.1 g;rw[tt]
 cases hx:b.getLast? with
 | none=>rw[hx]at d;simp at d
 | some x =>
  rw[hx]at d;exact(fc f x (hA b j x (List.mem_of_getLast? hx))).1 t (by simpa using d)
theorem kS (g:List (List Int))(a:Int):(Ref.reached g a).length=g.length:=by
 have j:∀(l:List Int)(d:List Bool),(l.foldl (Ref.spreadEdge a) d).length=d.length:=by
  intro l;induction l with
  | nil=>intro d;rfl
  | cons t r ih=>intro d;rw[List.foldl_cons,ih,eX]
 have m:∀(l:List Nat)(d:List Bool),(l.foldl (Ref.spreadBlock a g) d).length=d.length:=by
  intro l;induction l with
  | nil=>intro d;rfl
  | cons t r ih=>intro d;rw[List.foldl_cons,ih];unfold Ref.spreadBlock;split<;>simp[j]
 have p:∀(n:Nat)(d:List Bool),(Ref.spread a g n d).length=d.length:=by
  intro n;induction n with
  | zero=>intro d;rfl
  | succ n ih=>intro d;rw[Ref.spread,ih,Ref.spreadRound,m]
 unfold Ref.reached;split<;>simp[p]
theorem mS (v:Value)(f:Fn)(w:World)(hf:FnAt w.heap.size w v f)(hs1:1<=f.blocks.length)(hs:f.blocks.length<=100000)(hA:Hid (∀l∈f.blocks,∀x∈l,Ref.argument f x=true))(hne:Hid (∀l∈f.blocks,l≠[]))
  (hwf:Hid (∀l∈f.blocks,∀x∈l,WfI x)) :
  Calls prog 72 #[v] w (RG (.bool (Ref.stated f)) w):=by
 have aH:=hf;obtain⟨vp,vs,vb,rfl,hp,a2,hb⟩:=hf;obtain⟨R,cp,rfl,-,-,-⟩:=hp;obtain⟨S,cs,rfl,-,-,-⟩:=a2;obtain⟨Ab,Z,rfl,-,aW,aA⟩:=hb;obtain⟨Y,ob,rfl,aC,M⟩:=aA (by omega);obtain⟨W,hW⟩:=xJ (w.alloc (.cells #[.slice R f.params.length cp,.int .i64 f.ret,.slice S f.slots.length cs,.slice (some ⟨Y,ob,none⟩) f.blocks.length Z] 36));have E:Gr w W:=by rw[<-hW];exact(tX w).alloc _
 have bf:W.heap.size=w.heap.size+1:=by rw[<-hW];simp
 have b0:∀o,W.cell? ⟨w.heap.size,o,none⟩=(#[.slice R f.params.length cp,.int .i64 f.ret,.slice S f.slots.length cs,.slice (some ⟨Y,ob,none⟩) f.blocks.length Z]:Array Value)[o]?:=by intro o;rw[<-hW];exact tv _ _ _ _ _ _ (heap_alloc_new w _)
 have B0:Hid (∀w',Gr W w'->w'.cell? ⟨w.heap.size,0,none⟩=some (.slice R f.params.length cp)/\w'.cell? ⟨w.heap.size,1,none⟩=some (.int .i64 f.ret)/\w'.cell? ⟨w.heap.size,2,none⟩=some (.slice S f.slots.length cs)/\w'.cell? ⟨w.heap.size,3,none⟩=some (.slice (some ⟨Y,ob,none⟩) f.blocks.length Z)) :=
  fun w' g=>⟨(g.cell w.heap.size 0 (by omega)).trans (b0 0),(g.cell w.heap.size 1 (by omega)).trans (b0 1),(g.cell w.heap.size 2 (by omega)).trans (b0 2),(g.cell w.heap.size 3 (by omega)).trans (b0 3)⟩
 obtain⟨g,ab⟩:∃g,g=Ref.graph f:=⟨_,rfl⟩;obtain⟨d,N⟩:∃d,d=Ref.reached g (-1):=⟨_,rfl⟩;have aI:g.length=f.blocks.length:=by rw[ab];simp[Ref.graph]
 have aK:d.length=g.length:=by rw[N,kS]
 have aL:Hid (∀l∈g,∀t∈l,0<=t/\t<(g.length:Int)):=by rw[ab];exact ln f hA.out
 have HS:Hid (Ref.stated f=Ref.blksFrom f g d f.blocks 0):=by show _=_;rw[N,ab];rfl
 have aR:Hid (Calls prog 110 #[.agg #[.slice R f.params.length cp,.int .i64 f.ret,.slice S f.slots.length cs,.slice (some ⟨Y,ob,none⟩) f.blocks.length Z]] W fun e w'=>∃u,e=.returned u/\TabAt w'.heap.size w' u g/\Gr W w'):=by rw[ab];exact iB _ f W (aH.gr E) hs hne
 have aS:Hid (∀G u,TabAt G.heap.size G u g->Calls prog 114 #[u,.int .i64 (-1)] G fun e w'=>∃v,e=.returned v/\BoolsAt w'.heap.size w' v d/\Gr G w'):=by rw[N];exact fun G u h=>fW u g (-1) G h (by omega) (by omega) aL
 have H:=dJ aI;have O:=dJ aK;have k0:=B0.out W (tX _);obtain⟨k0,k1,k2,k3⟩:=k0;clear ab N aI aK b0
 go_enter func72, ntmps72
 go_wp2_with (first|(go_at_call 110;refine aR.out.mono ?_;rintro e G ⟨vg,rfl,af,g1⟩)|(go_at_call 114;refine(aS.out _ _ af).mono ?_;rintro e w2 ⟨vi,rfl,aX,g2⟩))
 obtain⟨Ai,ci,rfl,-,-,aJ⟩:=aX;obtain⟨bi,oi,rfl,aD,aE⟩:=aJ (by have:=O.out;have:=H.out;omega);have HI:=dJ aE;have ax:=dJ af;have HC:=dJ M;have A:Gr W w2:=g1.trans g2;have be:(d.length:Int)=(f.blocks.length:Int):=by have:=O.out;have:=H.out;omega
 clear aE af aJ aA M
 go_loopw [5,6,7,8] (fun b _ _ _ wr=>∃k:Nat,k<=f.blocks.length/\b=.int .i64 k/\Gr w2 wr/\Hid (Ref.stated f=Ref.blksFrom f g d (f.blocks.drop k) k)) (fun b _ _ _ _=>f.blocks.length-(intOf b).toNat)
 case atStart=>exact⟨0,tR _,rfl,tX _,by show _=_;rw[HS.out];rfl⟩
 case round =>
  obtain⟨k,hk,rfl,ac,I⟩:=hrel;obtain⟨wo,rfl⟩:∃wo:World,wo=wr:=⟨_,rfl⟩;have ak:=A.trans ac;obtain⟨-,-,-,c3⟩:=B0.out _ ak;clear k0 k1 k2 k3;rcases hr:f.blocks.drop k with _|⟨l,r⟩
  ·have a0:=dm hr hk;have HE:Hid (Ref.stated f=true):=by show _=_;rw[I.out,hr];rfl
   subst a0;clear hr I;go_wp2;go_ret;exact⟨cZ (by rw[HE.out]),E.trans ak⟩
  ·obtain⟨bh,hl,aM⟩:=di hr;obtain⟨u,hu,a6⟩:=HC.out k l hl;have a4:=((E.trans ak).cell _ _ aC).trans hu;obtain⟨Al,cl,rfl,p1,p2,p3⟩:=a6;have P3:=dJ p3;have HL:Hid (l∈f.blocks):=sS hl;obtain⟨y,hy⟩:∃y,d[k]?=some y:=⟨d[k]'(by have:=O.out;have:=H.out;omega),by have:=O.out;have:=H.out;simp[show k<d.length by omega]⟩;have qi:=(ac.cell bi (oi+k) aD).trans (HI.out k y hy)
   have HR:Hid (Ref.stated f=((!y || Ref.insFrom f g d k l 0) && Ref.blksFrom f g d r (k+1))):=by show _=_;rw[I.out,hr];simp[Ref.blksFrom,List.getD,hy]
   have au:Hid (f.blocks.drop (k+1)=r):=aM;have HU:=dJ hu;have zk:(k:Int)<(d.length:Int):=by omega
   clear hr hl aM I hu hy p3
   cases y with
   | false =>
    go_wp2;go_roundw;case rel=>exact⟨k+1,by omega,by go_num,ac,by (show _=_;rw[HR.out,au.out];simp)⟩
    case measure=>simp[intOf];omega
   | true =>
    have ap:Hid (Ref.stated f=(Ref.insFrom f g d k l 0 && Ref.blksFrom f g d r (k+1))):=by show _=_;rw[HR.out];simp
    clear HR;go_wp2
    go_loopw [6,7,8] (fun i _ _ wr=>∃j:Nat,j<=l.length/\i=.int .i64 j/\Gr w2 wr/\Hid (Ref.insFrom f g d k l 0=Ref.insFrom f g d k (l.drop j) j)) (fun i _ _ _=>l.length-(intOf i).toNat)
    case atStart=>exact⟨0,tR _,rfl,ac,rfl⟩
    case round =>
     obtain⟨j,hj,rfl,ad,D⟩:=hrel;obtain⟨C,rfl⟩:∃C:World,C=wr:=⟨_,rfl⟩;have aa:=A.trans ad;obtain⟨-,-,-,aU⟩:=B0.out _ aa;have a5:=((E.trans aa).cell _ _ aC).trans HU.out;clear c3 qi a4 ak ac;rcases hr1:l.drop j with _|⟨x,r1⟩
     ·have aZ:=dm hr1 hj;have HE:Hid (Ref.insFrom f g d k l 0=true):=by show _=_;rw[D.out,hr1];rfl
      subst aZ;clear hr1 D;go_wp2;go_roundw;case rel=>exact⟨k+1,by omega,by go_num,ad,by (show _=_;rw[ap.out,au.out,HE.out];simp)⟩
      case measure=>simp[intOf];omega
     ·obtain⟨bc,hx,an⟩:=di hr1;obtain⟨bl,ol,rfl,Q,aF⟩:=P3.out (by omega);obtain⟨va,vt,i0,i1,i2,i3,i4,i5,a7,a8⟩:=aF j x hx;have HX:Hid (x∈l):=sS hx;have aP:=hwf.out l HL.out x HX.out;have aq:Hid (WfI x):=aP;have az:=hA.out l HL.out x HX.out;have aw:=dJ (fc f x az);have ao:Hid (Ref.insFrom f g d k l 0=(Ref.argsFrom f g d k j x x.args 0 && Ref.insFrom f g d k r1 (j+1))):=by show _=_;rw[D.out,hr1];rfl
      have av:Hid (l.drop (j+1)=r1):=an;have gw:=E.trans aa;have j0:=(gw.cell _ _ Q).trans i0;have j1:=(gw.cell _ _ Q).trans i1;have j2:=(gw.cell _ _ Q).trans i2;have j3:=(gw.cell _ _ Q).trans i3;have j4:=(gw.cell _ _ Q).trans i4;have j5:=(gw.cell _ _ Q).trans i5;obtain⟨Aa,ca,rfl,-,-,ay⟩:=a7;obtain⟨At,ct,rfl,-,-,aN⟩:=a8;have aQ:=dJ ay;have aT:=dJ aN;have bg:x.args.length<=100000:=aq.out.2.2.1;have bj:x.to.length<=100000:=aq.out.2.2.2;clear hr1 hx an D aF i0 i1 i2 i3 i4 i5 ay aN aP az;obtain⟨wy,ah⟩:=xJ (C.alloc (.cells #[.int .i64 x.op,.int .i64 x.width,.int .i64 x.flags,.slice Aa x.args.length ca,.int .u32 x.imm,.slice At x.to.length ct] 68))
      have b1:∀o,wy.cell? ⟨C.heap.size,o,none⟩=(#[.int .i64 x.op,.int .i64 x.width,.int .i64 x.flags,.slice Aa x.args.length ca,.int .u32 x.imm,.slice At x.to.length ct]:Array Value)[o]?:=by intro o;rw[<-ah];exact tv _ _ _ _ _ _ (heap_alloc_new C _)
      have p:Gr w2 wy:=by rw[<-ah];exact ad.alloc _
      have bm:wy.heap.size=C.heap.size+1:=by rw[<-ah];simp
      have B1:=dJ b1;clear b1;go_wp2;have HY:=dJ ah;clear ah j0 j1 j2 j3 j4 j5 a5 aU
      go_loopw [8] (fun a wr=>∃m:Nat,m<=x.args.length/\a=.int .i64 m/\Gr wy wr/\Hid (Ref.argsFrom f g d k j x x.args 0=Ref.argsFrom f g d k j x (x.args.drop m) m)) (fun a _=>x.args.length-(intOf a).toNat)
      case atStart=>exact⟨0,tR _,rfl,tX _,rfl⟩
      case round =>
       obtain⟨m,hm,rfl,F,B⟩:=hrel;have d0:=(F.cell C.heap.size 0 (by omega)).trans (B1.out 0);have d3:=(F.cell C.heap.size 3 (by omega)).trans (B1.out 3);simp at d0 d3;rcases hr2:x.args.drop m with _|⟨z,r2⟩
       ·have a1:=dm hr2 hm;have HE:Hid (Ref.argsFrom f g d k j x x.args 0=true):=by show _=_;rw[B.out,hr2];rfl
        subst a1;clear hr2 B;go_wp2;go_roundw;case rel=>exact⟨j+1,by omega,by go_num,p.trans F,by (show _=_;rw[ao.out,av.out,HE.out];simp)⟩
        case measure=>simp[intOf];omega
       ·obtain⟨bd,hz,ae⟩:=di hr2;obtain⟨ba,oa,rfl,aB,aj⟩:=aQ.out (by omega);have am:=aq.out.2.1 z (sS hz);have U:Hid (Ref.argsFrom f g d k j x x.args 0=(Ref.argOk f g d k j x z (x.to.getD m 0) && Ref.argsFrom f g d k j x r2 (m+1))):=by show _=_;rw[B.out,hr2];rfl
        have X:Hid (x.args.drop (m+1)=r2):=ae;have bn:(0:Int)<=m:=by omega
        have bo:(m:Int)<(x.args.length:Int):=by omega
        have ai:Hid (∀(block J:Int),0<=block->block<(f.blocks.length:Int)->∀G,Gr wy G->Calls prog 115 #[.agg #[.slice R f.params.length cp,.int .i64 f.ret,.slice S f.slots.length cs,.slice (some ⟨Y,ob,none⟩) f.blocks.length Z],vg,.int .i64 z,.int .i64 block,.int .i64 J] G (RG (.bool (Ref.there f g z block J)) G)) :=
         fun block J aV aW G q=>oV _ vg f g z block J G (aH.gr (E.trans (A.trans (p.trans q)))) hs am.1 am.2 (ax.out.gr (g2.trans (p.trans q))) (by have:=H.out;omega) (by have:=H.out;omega) aL aV (by have:=H.out;omega)
        rcases Decidable.em (x.op=28) with ho|ho
        ·have a3:=aw.out.2 ho;obtain⟨t,al⟩:∃t,x.to[m]?=some t:=⟨x.to[m]'(by omega),by simp[show m<x.to.length by omega]⟩;have aO:=aw.out.1 t (sS al);obtain⟨K,rfl⟩:=tb aO.1;have bk:K<f.blocks.length:=by omega
         obtain⟨bt,ot,rfl,aY,aG⟩:=aT.out (by omega);obtain⟨y,hy⟩:∃y,d[K]?=some y:=⟨d[K]'(by have:=O.out;have:=H.out;omega),by have:=O.out;have:=H.out;simp[show K<d.length by omega]⟩
         have L:Hid (Ref.argOk f g d k j x z (x.to.getD m 0)=(!y || Ref.there f g z K (-1))):=by show _=_;unfold Ref.argOk;rw[tB ho];simp[List.getD,al,hy]
         have a9:(x.op == 28)=true:=by simp[ho]
         have kp:Hid (∀w',Gr wy w'->(w'.cell? ⟨w.heap.size,0,none⟩=some (.slice R f.params.length cp)/\w'.cell? ⟨w.heap.size,1,none⟩=some (.int .i64 f.ret)/\w'.cell? ⟨w.heap.size,2,none⟩=some (.slice S f.slots.length cs)/\w'.cell? ⟨w.heap.size,3,none⟩=some (.slice (some ⟨Y,ob,none⟩) f.blocks.length Z)/\w'.cell? ⟨C.heap.size,0,none⟩=some (.int .i64 x.op)/\w'.cell? ⟨C.heap.size,3,none⟩=some (.slice (some ⟨ba,oa,none⟩) x.args.length ca)/\w'.cell? ⟨C.heap.size,5,none⟩=some (.slice (some ⟨bt,ot,none⟩) x.to.length ct)/\w'.cell? ⟨ba,oa+m,none⟩=some (.int .i64 z)/\w'.cell? ⟨bt,ot+m,none⟩=some (.int .i64 K)/\w'.cell? ⟨bi,oi+K,none⟩=some (.bool y))):=fun w' q=>⟨(B0.out w' (A.trans (p.trans q))).1,(B0.out w' (A.trans (p.trans q))).2.1,(B0.out w' (A.trans (p.trans q))).2.2.1,(B0.out w' (A.trans (p.trans q))).2.2.2,(q.cell C.heap.size 0 (by omega)).trans (B1.out 0),(q.cell C.heap.size 3 (by omega)).trans (B1.out 3),(q.cell C.heap.size 5 (by omega)).trans (B1.out 5),((E.trans (A.trans (p.trans q))).cell ba (oa+m) aB).trans (aj m z hz),((E.trans (A.trans (p.trans q))).cell bt (ot+m) aY).trans (aG m K al),((p.trans q).cell bi (oi+K) aD).trans (HI.out K y hy)⟩;have T:Hid (∀G,Gr wy G->Calls prog 115 #[.agg #[.slice R f.params.length cp,.int .i64 f.ret,.slice S f.slots.length cs,.slice (some ⟨Y,ob,none⟩) f.blocks.length Z],vg,.int .i64 z,.int .i64 (K:Int),.int .i64 (-1)] G (RG (.bool (Ref.there f g z K (-1))) G)):=ai.out K (-1) (by omega) (by omega);have bq:(0:Int)<=K:=by omega
         have br:(K:Int)<(d.length:Int):=by omega
         have bp:(m:Int)<(x.to.length:Int):=by omega
         clear hr2 hz ae B aj am al aO aG hy ai a3 ho
         cases y with
         | false =>
          obtain⟨-,-,-,-,-,-,q5,-,qt,qy⟩:=kp.out _ F;go_wp2;go_quiet (fail);go_wp2;go_roundw;case rel=>exact⟨m+1,by omega,by go_num,F.drewN _,by (show _=_;rw[U.out,L.out,X.out];simp)⟩
          case measure=>simp[intOf];omega
         | true =>
          obtain⟨th,ag⟩:=xJ (Ref.there f g z K (-1));rw[ag]at T L;clear ag;go_wp2
          go_region_held3 (fun w'=>w'.cell? ⟨w.heap.size,0,none⟩=some (.slice R f.params.length cp)/\w'.cell? ⟨w.heap.size,1,none⟩=some (.int .i64 f.ret)/\w'.cell? ⟨w.heap.size,2,none⟩=some (.slice S f.slots.length cs)/\w'.cell? ⟨w.heap.size,3,none⟩=some (.slice (some ⟨Y,ob,none⟩) f.blocks.length Z)/\w'.cell? ⟨C.heap.size,0,none⟩=some (.int .i64 x.op)/\w'.cell? ⟨C.heap.size,3,none⟩=some (.slice (some ⟨ba,oa,none⟩) x.args.length ca)/\w'.cell? ⟨C.heap.size,5,none⟩=some (.slice (some ⟨bt,ot,none⟩) x.to.length ct)/\w'.cell? ⟨ba,oa+m,none⟩=some (.int .i64 z)/\w'.cell? ⟨bt,ot+m,none⟩=some (.int .i64 K)/\w'.cell? ⟨bi,oi+K,none⟩=some (.bool true)) (first|exact kp.out _ F.drew|exact kp.out _ g3) (first|(go_at_call 115;refine(T.out _ F.drew).mono ?_;rintro e w3 ⟨rfl,ar⟩;have g3:Gr wy w3:=(F.drew).trans ar))
          cases th with
          | true =>
           go_wp2;go_roundw;case rel=>exact⟨m+1,by omega,by go_num,g3,by (show _=_;rw[U.out,L.out,X.out];simp)⟩
           case measure=>simp[intOf];omega
          | false =>
           go_wp2;go_ret;exact⟨cZ (by rw[ap.out,ao.out,U.out,L.out];simp),E.trans (A.trans (p.trans g3))⟩
        ·have L:Hid (Ref.argOk f g d k j x z (x.to.getD m 0)=Ref.there f g z k j):=by
          show _=_;unfold Ref.argOk;rw[tC ho]
         have a9:(x.op == 28)=false:=by simp[ho]
         have kp:Hid (∀w',Gr wy w'->(w'.cell? ⟨w.heap.size,0,none⟩=some (.slice R f.params.length cp)/\w'.cell? ⟨w.heap.size,1,none⟩=some (.int .i64 f.ret)/\w'.cell? ⟨w.heap.size,2,none⟩=some (.slice S f.slots.length cs)/\w'.cell? ⟨w.heap.size,3,none⟩=some (.slice (some ⟨Y,ob,none⟩) f.blocks.length Z)/\w'.cell? ⟨C.heap.size,0,none⟩=some (.int .i64 x.op)/\w'.cell? ⟨C.heap.size,3,none⟩=some (.slice (some ⟨ba,oa,none⟩) x.args.length ca)/\w'.cell? ⟨C.heap.size,5,none⟩=some (.slice At x.to.length ct)/\w'.cell? ⟨ba,oa+m,none⟩=some (.int .i64 z))):=fun w' q=>⟨(B0.out w' (A.trans (p.trans q))).1,(B0.out w' (A.trans (p.trans q))).2.1,(B0.out w' (A.trans (p.trans q))).2.2.1,(B0.out w' (A.trans (p.trans q))).2.2.2,(q.cell C.heap.size 0 (by omega)).trans (B1.out 0),(q.cell C.heap.size 3 (by omega)).trans (B1.out 3),(q.cell C.heap.size 5 (by omega)).trans (B1.out 5),((E.trans (A.trans (p.trans q))).cell ba (oa+m) aB).trans (aj m z hz)⟩;have T:Hid (∀G,Gr wy G->Calls prog 115 #[.agg #[.slice R f.params.length cp,.int .i64 f.ret,.slice S f.slots.length cs,.slice (some ⟨Y,ob,none⟩) f.blocks.length Z],vg,.int .i64 z,.int .i64 (k:Int),.int .i64 (j:Int)] G (RG (.bool (Ref.there f g z k j)) G)):=ai.out k j (by omega) (by omega);clear hr2 hz ae B aj am ai ho;obtain⟨th,ag⟩:=xJ (Ref.there f g z k j);rw[ag]at T L;clear ag;go_wp2
         go_region_held3 (fun w'=>w'.cell? ⟨w.heap.size,0,none⟩=some (.slice R f.params.length cp)/\w'.cell? ⟨w.heap.size,1,none⟩=some (.int .i64 f.ret)/\w'.cell? ⟨w.heap.size,2,none⟩=some (.slice S f.slots.length cs)/\w'.cell? ⟨w.heap.size,3,none⟩=some (.slice (some ⟨Y,ob,none⟩) f.blocks.length Z)/\w'.cell? ⟨C.heap.size,0,none⟩=some (.int .i64 x.op)/\w'.cell? ⟨C.heap.size,3,none⟩=some (.slice (some ⟨ba,oa,none⟩) x.args.length ca)/\w'.cell? ⟨C.heap.size,5,none⟩=some (.slice At x.to.length ct)/\w'.cell? ⟨ba,oa+m,none⟩=some (.int .i64 z)) (first|exact kp.out _ F.drew|exact kp.out _ g3) (first|(go_at_call 115;refine(T.out _ F.drew).mono ?_;rintro e w3 ⟨rfl,ar⟩;have g3:Gr wy w3:=(F.drew).trans ar))
         cases th with
         | true =>
          go_wp2;go_roundw;case rel=>exact⟨m+1,by omega,by go_num,g3,by (show _=_;rw[U.out,L.out,X.out];simp)⟩
          case measure=>simp[intOf];omega
         | false =>
          go_wp2;go_ret;exact⟨cZ (by rw[ap.out,ao.out,U.out,L.out];simp),E.trans (A.trans (p.trans g3))⟩
def fY (l:List Ins)(j:Nat):Bool:=decide (j=0) || decide ((l[j-1]?.map (·.op)).getD 0=28)
theorem eQ (l:List Ins)(j:Nat)(x:Ins)(h:l[j]?=some x):fY l (j+1)=decide (x.op=28):=by simp[fY,h]
theorem oE (v:Value)(f:Fn)(w:World)(hf:FnAt w.heap.size w v f)(hs1:1<=f.blocks.length)(hs:f.blocks.length<=100000)
  (hwf:Hid (∀l∈f.blocks,l.length<=100000)) :
  Calls prog 70 #[v] w (RG (.bool (Ref.rules f)) w):=by
 have aD:=hf;obtain⟨vp,vs,vb,rfl,hp,aY,hb⟩:=hf;obtain⟨Ap,cp,rfl,-,-,-⟩:=hp;obtain⟨As,cs,rfl,-,-,-⟩:=aY;obtain⟨Ab,cb,rfl,-,a4,aC⟩:=hb;obtain⟨bb,ob,rfl,ak,M⟩:=aC (by omega);obtain⟨W,hW⟩:=xJ (w.alloc (.cells #[.slice Ap f.params.length cp,.int .i64 f.ret,.slice As f.slots.length cs,.slice (some ⟨bb,ob,none⟩) f.blocks.length cb] 36));have t:Gr w W:=by rw[<-hW];exact(tX w).alloc _
 have a3:W.heap.size=w.heap.size+1:=by rw[<-hW];simp
 have b0:∀o,W.cell? ⟨w.heap.size,o,none⟩=(#[.slice Ap f.params.length cp,.int .i64 f.ret,.slice As f.slots.length cs,.slice (some ⟨bb,ob,none⟩) f.blocks.length cb]:Array Value)[o]?:=by intro o;rw[<-hW];exact tv _ _ _ _ _ _ (heap_alloc_new w _)
 have B0:Hid (∀w',Gr W w'->w'.cell? ⟨w.heap.size,0,none⟩=some (.slice Ap f.params.length cp)/\w'.cell? ⟨w.heap.size,1,none⟩=some (.int .i64 f.ret)/\w'.cell? ⟨w.heap.size,2,none⟩=some (.slice As f.slots.length cs)/\w'.cell? ⟨w.heap.size,3,none⟩=some (.slice (some ⟨bb,ob,none⟩) f.blocks.length cb)) :=
  fun w' g=>⟨(g.cell w.heap.size 0 (by omega)).trans (b0 0),(g.cell w.heap.size 1 (by omega)).trans (b0 1),(g.cell w.heap.size 2 (by omega)).trans (b0 2),(g.cell w.heap.size 3 (by omega)).trans (b0 3)⟩
 obtain⟨g,ae⟩:∃g,g=Ref.graph f:=⟨_,rfl⟩;have aE:g.length=f.blocks.length:=by rw[ae];simp[Ref.graph]
 have HS:Hid (Ref.rules f=(f.blocks.all Ref.laid && (Ref.before g 0).isEmpty && Ref.phisFrom g f.blocks 0)):=by show _=_;rw[ae];rfl
 have aK:Hid ((∀l∈f.blocks,l≠[])->∀A,Gr w A->Calls prog 110 #[.agg #[.slice Ap f.params.length cp,.int .i64 f.ret,.slice As f.slots.length cs,.slice (some ⟨bb,ob,none⟩) f.blocks.length cb]] A fun e w'=>∃u,e=.returned u/\TabAt w'.heap.size w' u g/\Gr A w'):=by rw[ae];exact fun K A g1=>iB _ f A (aD.gr g1) hs K
 have ai:Hid (∀A u (z:Int),TabAt A.heap.size A u g->Calls prog 111 #[u,.int .i64 z] A fun e w'=>∃v,e=.returned v/\IntsAt w'.heap.size w' v (Ref.before g z)/\Gr A w') :=
  fun A u z h=>lR u g z A h (by omega)
 have a1:=dJ aE;have HC:=dJ M;obtain⟨-,-,-,k3⟩:=B0.out W (tX _);clear ae aE b0 M aC aD
 go_enter func70, ntmps70
 go_wp2_with fail
 go_loopw [3,4,5] (fun b _ _ wr=>∃k:Nat,k<=f.blocks.length/\b=.int .i64 k/\Gr W wr/\Hid (f.blocks.all Ref.laid=(f.blocks.drop k).all Ref.laid)/\Hid (∀l∈f.blocks.take k,l≠[])) (fun b _ _ _=>f.blocks.length-(intOf b).toNat)
 case atStart=>exact⟨0,tR _,rfl,tX _,rfl,fun l U=>by simp at U⟩
 case round =>
  obtain⟨k,hk,rfl,J,m,G⟩:=hrel;obtain⟨wo,rfl⟩:∃wo:World,wo=wr:=⟨_,rfl⟩;obtain⟨c0,c1,c2,c3⟩:=B0.out _ J;clear k3;rcases hr:f.blocks.drop k with _|⟨l,r⟩
  ·have ao:=dm hr hk;have HE:Hid (f.blocks.all Ref.laid=true):=by show _=_;rw[m.out,hr];rfl
   subst ao;have K:∀l∈f.blocks,l≠[]:=by have:=G.out;rwa [tE]at this
   have af:=dJ (aK.out K);clear hr m G K;by_cases ag:0<(Ref.before g 0).length
   ·have aX:(0:Int)<((Ref.before g 0).length:Int):=by omega
    go_wp2_with (first|(go_at_call 110;refine(af.out _ (t.trans J)).mono ?_;rintro e A ⟨vg,rfl,L,g1⟩)|(go_at_call 111;refine(ai.out _ _ _ L).mono ?_;rintro e w2 ⟨vb,rfl,av,g2⟩;obtain⟨A2,aQ,rfl,-,aB,-⟩:=av))
    go_ret;exact⟨cZ (by rw[HS.out];cases hbe:Ref.before g 0 with|nil=>(rw[hbe]at ag;simp at ag)|cons a b=>simp),(t.trans J).trans (g1.trans g2)⟩
   ·have aV:((Ref.before g 0).length:Int)<=0:=by omega
    have aM:=dJ aV
    go_wp2_with (first|(go_at_call 110;refine(af.out _ (t.trans J)).mono ?_;rintro e A ⟨vg,rfl,L,g1⟩)|(go_at_call 111;refine(ai.out _ _ _ L).mono ?_;rintro e w2 ⟨vb,rfl,av,g2⟩;obtain⟨A2,aQ,rfl,-,aB,-⟩:=av))
    have HP:Hid (Ref.rules f=Ref.phisFrom g f.blocks 0):=by show _=_;have:Ref.before g 0=[]:=tK (by have:=aM.out;omega);rw[HS.out,HE.out,this];simp
    have aA:Hid (TabAt w2.heap.size w2 vg g):=L.gr g2;have E:Gr W w2:=J.trans (g1.trans g2);obtain⟨-,-,-,d3⟩:=B0.out _ E;clear L c0 c1 c2 c3
    go_loopw [7,8,9] (fun b _ _ wr=>∃k:Nat,k<=f.blocks.length/\b=.int .i64 k/\Gr w2 wr/\Hid (Ref.rules f=Ref.phisFrom g (f.blocks.drop k) k)) (fun b _ _ _=>f.blocks.length-(intOf b).toNat)
    case atStart=>exact⟨0,tR _,rfl,tX _,HP⟩
    case round =>
     obtain⟨k,hk,rfl,N,m⟩:=hrel;obtain⟨wp,rfl⟩:∃wp:World,wp=wr:=⟨_,rfl⟩;obtain⟨-,-,-,aR⟩:=B0.out _ (E.trans N);clear d3;rcases hr:f.blocks.drop k with _|⟨l,r⟩
     ·have ao:=dm hr hk;have aL:Hid (Ref.rules f=true):=by show _=_;rw[m.out,hr];rfl
      subst ao;clear hr m;go_wp2;go_ret;exact⟨cZ (by rw[aL.out]),t.trans (E.trans N)⟩
     ·obtain⟨aW,U,T⟩:=di hr;obtain⟨u,hu,au⟩:=HC.out k l U;have ar:=((t.trans (E.trans N)).cell _ _ ak).trans hu;obtain⟨Al,cl,rfl,p1,p2,p3⟩:=au;have P3:=dJ p3;have HU:=dJ hu;have HL:Hid (l∈f.blocks):=sS U;have HR:Hid (Ref.rules f=(l.all (fun x=>decide (x.op≠28) || Ref.sameInts x.to (Ref.before g k)) && Ref.phisFrom g r (k+1))):=by show _=_;rw[m.out,hr];rfl
      have ad:Hid (f.blocks.drop (k+1)=r):=T;clear hr U T m hu p3;go_wp2
      go_loopw [8,9] (fun i _ wr=>∃j:Nat,j<=l.length/\i=.int .i64 j/\Gr w2 wr/\Hid (l.all (fun x=>decide (x.op≠28) || Ref.sameInts x.to (Ref.before g k))=(l.drop j).all (fun x=>decide (x.op≠28) || Ref.sameInts x.to (Ref.before g k)))) (fun i _ _=>l.length-(intOf i).toNat)
      case atStart=>exact⟨0,tR _,rfl,N,rfl⟩
      case round =>
       obtain⟨j,hj,rfl,C,d⟩:=hrel;obtain⟨O,rfl⟩:∃O:World,O=wr:=⟨_,rfl⟩;obtain⟨-,-,-,a2⟩:=B0.out _ (E.trans C);have a6:=((t.trans (E.trans C)).cell _ _ ak).trans HU.out;clear aR ar;rcases hr1:l.drop j with _|⟨x,X⟩
       ·have an:=dm hr1 hj;have Z:Hid (l.all (fun x=>decide (x.op≠28) || Ref.sameInts x.to (Ref.before g k))=true):=by show _=_;rw[d.out,hr1];rfl
        subst an;clear hr1 d;go_wp2;go_roundw;case rel=>first|exact⟨k+1,by omega,by go_num,C,by (show _=_;rw[HR.out,ad.out,Z.out];simp)⟩|((repeat apply Exists.intro);refine⟨?_,rfl⟩;exact⟨k+1,by omega,by go_num,C,by (show _=_;rw[HR.out,ad.out,Z.out];simp)⟩)
        case measure=>simp[intOf];omega
       ·obtain⟨aF,hx,D⟩:=di hr1;obtain⟨bl,ol,rfl,F,Q⟩:=P3.out (by omega);obtain⟨va,vt,i0,i1,i2,i3,i4,i5,aZ,aI⟩:=Q j x hx;have H:Hid (l.all (fun x=>decide (x.op≠28) || Ref.sameInts x.to (Ref.before g k))=((decide (x.op≠28) || Ref.sameInts x.to (Ref.before g k)) && X.all (fun x=>decide (x.op≠28) || Ref.sameInts x.to (Ref.before g k)))):=by show _=_;rw[d.out,hr1];rfl
        have I:Hid (l.drop (j+1)=X):=D;have gw:=t.trans (E.trans C);have j0:=(gw.cell _ _ F).trans i0;have j1:=(gw.cell _ _ F).trans i1;have j2:=(gw.cell _ _ F).trans i2;have j3:=(gw.cell _ _ F).trans i3;have j4:=(gw.cell _ _ F).trans i4;have j5:=(gw.cell _ _ F).trans i5;have HT:Hid (∀w',Gr w w'->IntsAt w'.heap.size w' vt x.to):=fun w' q=>aI.gr q;obtain⟨Aa,ca,rfl,-,-,-⟩:=aZ;obtain⟨At,ct,rfl,-,-,-⟩:=aI;clear hr1 hx D d Q i0 i1 i2 i3 i4 i5;obtain⟨wy,aw⟩:=xJ (O.alloc (.cells #[.int .i64 x.op,.int .i64 x.width,.int .i64 x.flags,.slice Aa x.args.length ca,.int .u32 x.imm,.slice At x.to.length ct] 68))
        have b1:∀o,wy.cell? ⟨O.heap.size,o,none⟩=(#[.int .i64 x.op,.int .i64 x.width,.int .i64 x.flags,.slice Aa x.args.length ca,.int .u32 x.imm,.slice At x.to.length ct]:Array Value)[o]?:=by intro o;rw[<-aw];exact tv _ _ _ _ _ _ (heap_alloc_new O _)
        have R:Gr w2 wy:=by rw[<-aw];exact C.alloc _
        have a7:wy.heap.size=O.heap.size+1:=by rw[<-aw];simp
        have kp:Hid (∀w',Gr wy w'->w'.cell? ⟨O.heap.size,0,none⟩=some (.int .i64 x.op)/\w'.cell? ⟨O.heap.size,5,none⟩=some (.slice At x.to.length ct)):=fun w' q=>⟨(q.cell O.heap.size 0 (by omega)).trans (b1 0),(q.cell O.heap.size 5 (by omega)).trans (b1 5)⟩;obtain⟨e0,e5⟩:=kp.out wy (tX _);clear b1;rcases Decidable.em (x.op=28) with ho|ho
        ·have a0:(x.op == 28)=true:=by simp[ho]
         have HO:=dJ ho;obtain⟨sm,aq⟩:∃sm,decide (x.to=Ref.before g k)=sm:=⟨_,rfl⟩;have az:Hid (Ref.sameInts x.to (Ref.before g k)=sm):=by show _=_;rw[Ref.sameInts_eq,aq]
         have aJ:Hid (∀A v1,Gr w A->IntsAt A.heap.size A v1 (Ref.before g k)->Calls prog 112 #[.slice At x.to.length ct,v1] A (RG (.bool sm) A)):=by rw[<-aq];exact fun A v1 q h=>eE _ _ _ _ A (HT.out A q) h
         clear ho aq;go_wp2
         go_region_held3 (fun w'=>w'.cell? ⟨O.heap.size,0,none⟩=some (.int .i64 x.op)/\w'.cell? ⟨O.heap.size,5,none⟩=some (.slice At x.to.length ct)) (first|exact kp.out _ (tX wy).drew|exact kp.out _ g3|exact kp.out _ g4) (first|(go_at_call 111;refine(ai.out _ _ _ (aA.out.gr R.drew)).mono ?_;rintro e w3 ⟨a8,rfl,aH,aS⟩;have g3:Gr wy w3:=((tX wy).drew).trans aS)|(go_at_call 112;refine(aJ.out _ _ (t.trans (E.trans (R.trans g3))) aH).mono ?_;rintro e w4 ⟨rfl,aT⟩;have g4:Gr wy w4:=g3.trans aT))
         cases sm with
         | true =>
          go_wp2;go_roundw;case rel=>exact⟨j+1,by omega,by go_num,R.trans g4,by (show _=_;rw[H.out,az.out,I.out];simp)⟩
          case measure=>simp[intOf];omega
         | false =>
          go_wp2;go_ret;exact⟨cZ (by rw[HR.out,H.out,az.out,HO.out];simp),t.trans (E.trans (R.trans g4))⟩
        ·have a0:(x.op == 28)=false:=by simp[ho]
         have HO:=dJ ho;clear ho;go_wp2;go_quiet (fail);go_wp2;go_roundw;case rel=>exact⟨j+1,by omega,by go_num,R.drewN _,by (show _=_;rw[H.out,I.out];simp[HO.out])⟩
         case measure=>simp[intOf];omega
  ·obtain⟨aW,U,T⟩:=di hr;obtain⟨u,hu,au⟩:=HC.out k l U;have ar:=((t.trans J).cell _ _ ak).trans hu;obtain⟨Al,cl,rfl,p1,p2,p3⟩:=au;have hlen:l.length<=100000:=hwf.out l (sS U);have HR:Hid (f.blocks.all Ref.laid=(Ref.laid l && r.all Ref.laid)):=by show _=_;rw[m.out,hr];rfl
   have ad:Hid (f.blocks.drop (k+1)=r):=T
   have HN:Hid (l≠[]->∀y∈f.blocks.take (k+1),y≠[]):=by
    intro h y hy;obtain⟨h1,e1⟩:=sR.1 U;rw[tG h1,e1]at hy;rcases tI.1 hy with h2|h2
    ·exact G.out y h2
    ·simp at h2;subst h2;exact h
   have P3:=dJ p3;clear hr U T m hu p3 G;by_cases S:l.length=0
   ·have n0:((l.length:Int) == 0)=true:=by simp[S]
    have HE:Hid (Ref.laid l=false):=by show _=_;rw[tK S];rfl
    clear S;go_wp2_with fail;go_ret;exact⟨cZ (by rw[HS.out,HR.out,HE.out];simp),t.trans J⟩
   ·have n0:((l.length:Int) == 0)=false:=by rw[beq_eq_false_iff_ne];omega
    have K:l≠[]:=fun h=>S (by rw[h];rfl);have aN:=dJ (HN.out K);have aj:Hid (Ref.laid l=Ref.laidFrom l true):=by show _=_;unfold Ref.laid;cases l with|nil=>exact absurd rfl K|cons a b=>rfl
    obtain⟨bl,ol,rfl,F,Q⟩:=P3.out (by omega);have ay:=dJ Q;clear S K Q HN;go_wp2_with fail
    go_loopw [5] (fun i wr=>∃j:Nat,j<=l.length/\i=.int .i64 j/\Gr W wr/\Hid (Ref.laidFrom l true=Ref.laidFrom (l.drop j) (fY l j))) (fun i _=>l.length-(intOf i).toNat)
    case atStart=>exact⟨0,tR _,rfl,J,rfl⟩
    case round =>
     obtain⟨j,hj,rfl,B,d⟩:=hrel;clear ar c0 c1 c2 c3;rcases hr1:l.drop j with _|⟨x,X⟩
     ·have an:=dm hr1 hj;have Z:Hid (Ref.laidFrom l true=true):=by show _=_;rw[d.out,hr1];rfl
      subst an;clear hr1 d;go_wp2_with fail;go_roundw;case rel=>exact⟨k+1,by omega,by go_num,B,by (show _=_;rw[HR.out,ad.out,aj.out,Z.out];simp),aN.out⟩
      case measure=>simp[intOf];omega
     ·obtain⟨aF,hx,D⟩:=di hr1;obtain⟨va,vt,i0,-,-,-,-,-,-,-⟩:=ay.out j x hx;have j0:=((t.trans B).cell _ _ F).trans i0;have H:Hid (Ref.laidFrom l true=((Ref.isLast x.op == X.isEmpty) && (decide (x.op≠28) || fY l j) && Ref.laidFrom X (decide (x.op=28)))):=by show _=_;rw[d.out,hr1];rfl
      have I:Hid (Ref.laidFrom X (decide (x.op=28))=Ref.laidFrom (l.drop (j+1)) (fY l (j+1))):=by show _=_;rw[eQ l j x hx,D]
      have aG:X.isEmpty=decide ((j:Int)=(l.length:Int)-1):=by
       have h1:X.length=l.length-(j+1):=by rw[<-D];simp
       cases X with
       | nil=>rw[List.length_nil]at h1;simp only[List.isEmpty_nil];symm;rw[decide_eq_true_eq];omega
       | cons a b=>rw[List.length_cons]at h1;simp only[List.isEmpty_cons];symm;rw[decide_eq_false_iff_not];omega
      obtain⟨em,aU⟩:∃em,((j:Int) == (l.length:Int)-1)=em:=⟨_,rfl⟩;have aa:Hid (X.isEmpty=em):=by show _=_;rw[aG,<-aU];rfl
      obtain⟨la,ap⟩:=xJ (Ref.isLast x.op);have ah:Hid (∀A,Calls prog 109 #[.int .i64 x.op] A (RS (.bool la) A)):=by rw[<-ap];exact fun A=>mh x.op A
      have ab:=dJ ap;have aP:Hid (∀j' Y,l[j']?=some Y->w.cell? ⟨bl,ol+j' * 6,none⟩=some (.int .i64 Y.op)):=fun j' Y h=>by obtain⟨_,_,i0,-⟩:=ay.out j' Y h;exact i0
      clear hr1 hx D d i0 aG ap;by_cases al:em=la
      ·subst al;by_cases am:j=0
       ·have ac:Hid (fY l j=true):=by show _=_;rw[am];rfl
        have hz:(j:Int)<=0:=by omega
        clear am;cases em <;>
        ·go_wp2_with (go_at_call 109;refine(ah.out _).mono ?_;rintro e A ⟨rfl,rfl⟩);go_roundw;case rel=>exact⟨j+1,by omega,by go_num,B,by (show _=_;rw[H.out,ab.out,aa.out,ac.out,I.out];simp)⟩
         case measure=>simp[intOf];omega
       ·obtain⟨p,hp⟩:∃p,p+1=j:=⟨j-1,by omega⟩;obtain⟨Y,ax⟩:∃Y,l[p]?=some Y:=⟨l[p]'(by omega),by simp[show p<l.length by omega]⟩;have j1:=((t.trans B).cell _ _ F).trans (aP.out p Y ax);have ac:Hid (fY l j=decide (Y.op=28)):=by show _=_;rw[<-hp];exact eQ l p Y ax
        have wj:(j:Int)-1=p:=by omega
        have hz:(0:Int)<j:=by omega
        have a5:(p:Int)<(l.length:Int):=by omega
        clear ax am hp;cases em <;>
        ·go_wp2_with (go_at_call 109;refine(ah.out _).mono ?_;rintro e A ⟨rfl,rfl⟩)
         all_goals first
          | (go_ret;exact⟨cZ (by rw[HS.out,HR.out,aj.out,H.out,ab.out,aa.out,ac.out];grind),t.trans B⟩)
          | (go_roundw
             case rel=>exact⟨j+1,by omega,by go_num,B,by (show _=_;rw[H.out,ab.out,aa.out,ac.out,I.out];grind)⟩
             case measure=>simp[intOf];omega)
      ·have aO:=dJ al;clear al
       cases em<;>cases la<;>first
        | exact absurd rfl aO.out
        | (go_wp2_with (go_at_call 109;refine(ah.out _).mono ?_;rintro e A ⟨rfl,rfl⟩)
           go_ret
           exact⟨cZ (by rw[HS.out,HR.out,aj.out,H.out,ab.out,aa.out];simp),t.trans B⟩)
end
