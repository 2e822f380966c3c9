import Derived.Test.YtjkajidbdmbbaaaGreatN45
set_option linter.unusedSimpArgs false
set_option linter.unusedVariables false
set_option maxRecDepth 100000
set_option maxHeartbeats 16000000
open Go.Proofs.Tryz
namespace Go.Proofs.YtjkajidbdmbbaaaGreat
open Ref Rn Wd Ir Rf
variable {a:Act}{lb:Array Value}{assign body:Code}{Q:Exit->Act->World->Prop}{f:Fn}{m x y z:Int}{t:List (List Int)}{b l p r zs:List Int}{vms:List Value}{B Bs By N c cb cp cs i k n:Nat}{D:Nat->Prop}{g:Operand}{A Ab Ap As:Option Addr}{tf tg ti:TypeId}{v vf vg vm vs vx:Value}{W w w' w0:World}
section
open Go.RowKit
namespace Rf
def Hr (x y:Int):Bool:=decide (x=-1) || decide (x=y)
theorem Ll:∀{a b:List Int},EL a b=true->a.length=b.length
 | [],[],_=>rfl
 | [],_::_,h=>by simp[EL]at h
 | _::_,[],h=>by simp[EL]at h
 | x::a,y::b,h=>by
  simp only[EL,yu]at h
  simp[Ll h.2]
theorem Lm:∀{a b:List (List Int)},EY a b=true->a.length=b.length
 | [],[],_=>rfl
 | [],_::_,h=>by simp[EY]at h
 | _::_,[],h=>by simp[EY]at h
 | x::a,y::b,h=>by
  simp only[EY,yu]at h
  simp[Lm h.2]
theorem L8 {a:List Int}(hx:a[k]?=some x)(hy:b[k]?=some y):EL (a.drop k) (b.drop k)=(Hr x y && EL (a.drop (k+1)) (b.drop (k+1))):=by obtain⟨j,d⟩:=xS.1 hx;obtain⟨l,g⟩:=xS.1 hy;rw[yg j,yg l,d,g];rfl
theorem L9 {a b:List (List Int)}{x y:List Int}(hx:a[k]?=some x)(hy:b[k]?=some y):EY (a.drop k) (b.drop k)=(EL x y && EY (a.drop (k+1)) (b.drop (k+1))):=by obtain⟨j,d⟩:=xS.1 hx;obtain⟨l,g⟩:=xS.1 hy;rw[yg j,yg l,d,g];rfl
theorem MW {a:List Int}(h:a.length=b.length):EL (a.drop a.length) (b.drop a.length)=true:=by rw[List.drop_length,h,List.drop_length];rfl
theorem MX {a b:List (List Int)}(h:a.length=b.length):EY (a.drop a.length) (b.drop a.length)=true:=by rw[List.drop_length,h,List.drop_length];rfl
end Rf
theorem lU (x y:Int)(w:World):Calls prog 34 #[.int .i64 x,.int .i64 y] w (RG (.bool (Hr x y)) w):=by
 by_cases d:x=-1
 ·have j:(x == -1)=true:=by simp[d]
  have g:Hid (Hr x y=true):=by show _=_;simp[Hr,d]
  clear d
  go_enter func34, ntmps34
  go_wp2;go_ret;exact⟨cZ g.out.symm,yO _⟩
 ·have j:(x == -1)=false:=by simp[d]
  have g:Hid (Hr x y=(x == y)):=by show _=_;simp[Hr,d];rfl
  clear d
  go_enter func34, ntmps34
  go_wp2;go_ret;exact⟨cZ g.out.symm,yO _⟩
theorem uL (va vb:Value)(a b:List Int)(w:World)(ha:IntsAt w.heap.size w va a)(hb:IntsAt w.heap.size w vb b) :
  Calls prog 58 #[va,vb,.func (.func 34) #[] #[]] w (RG (.bool (EL a b)) w):=by
 obtain⟨A,ca,rfl,K,L,g⟩:=ha;obtain⟨O,U,rfl,M,N,j⟩:=hb;by_cases hlen:a.length=b.length
 ·have G:((a.length:Int) != (b.length:Int))=false:=by rw[hlen];simp
  have u:Hid (a.length=b.length):=hlen;clear hlen
  go_enter func58, ntmps58
  go_wp2
  go_loopw [7,8,9,17] (fun _ _ _ i wr=>∃k:Nat,k<=a.length/\i=.int .i64 k/\Hid (EL a b=EL (a.drop k) (b.drop k))/\Gr w wr) (fun _ _ _ i _=>a.length-(intOf i).toNat)
  case atStart=>exact⟨0,yI _,rfl,rfl,yO _⟩
  case round =>
   obtain⟨k,W,rfl,d,r⟩:=hrel;by_cases t:k<a.length
   ·have l:k<b.length:=by have:=u.out;omega
    obtain⟨Q,X,rfl,E,m⟩:=g (by omega);obtain⟨R,Y,rfl,F,p⟩:=j (by omega);obtain⟨x,H⟩:∃x,a[k]?=some x:=⟨_,xR t⟩;obtain⟨y,I⟩:∃y,b[k]?=some y:=⟨_,xR l⟩;have S:=(r.cell _ _ E).trans (m k x H);have T:=(r.cell _ _ F).trans (p k y I);have C:Hid (EL a b=(Hr x y && EL (a.drop (k+1)) (b.drop (k+1)))):=d.out.trans (L8 H I);have B:Hid (∀z,Calls prog 34 #[.int .i64 x,.int .i64 y] z (RG (.bool (Hr x y)) z)):=lU x y;obtain⟨J,q⟩:=xJ (Hr x y);rw[q]at B C;have Z:(k:Int)<(a.length:Int):=by omega
    have z3:(k:Int)<(b.length:Int):=by omega
    clear H I m p q t l g j
    cases J with
    | true =>
     go_wp2_with (go_at_call 34;refine(B.out _).mono ?_;rintro e z ⟨rfl,D⟩);go_roundw;case rel=>exact⟨k+1,by omega,by go_num,C.out.trans (Bool.true_and _),r.trans D⟩
     case measure=>simp[intOf];omega
    | false =>
     go_wp2_with (go_at_call 34;refine(B.out _).mono ?_;rintro e z ⟨rfl,D⟩);go_ret;exact⟨cZ (C.out.trans (Bool.false_and _)).symm,r.trans D⟩
   ·obtain rfl:k=a.length:=by omega
    clear g j;go_wp2;go_ret;exact⟨cZ (d.out.trans (MW u.out)).symm,r⟩
 ·have G:((a.length:Int) != (b.length:Int))=true:=by simp;omega
  have u:Hid (EL a b=false):=by
   show _=_
   cases h:EL a b with
   | false=>rfl
   | true=>exact absurd (Ll h) hlen
  clear hlen g j
  go_enter func58, ntmps58
  go_wp2;go_ret;exact⟨cZ u.out.symm,yO _⟩
theorem po (va vb:Value)(a b:List Int)(B:Nat)(w:World)(ha:IntsAt w.heap.size w va a)(hb:IntsAt w.heap.size w vb b)(hB:w.cell? ⟨B,0,none⟩=some (.func (.func 34) #[] #[])) :
  Calls prog 57 #[va,vb,.pointer (some ⟨B,0,none⟩)] w (RG (.bool (EL a b)) w):=by
 have d:=dJ (uL va vb a b w ha hb);obtain⟨A,ca,rfl,-,-,-⟩:=ha;obtain⟨j,l,rfl,-,-,-⟩:=hb
 go_enter func57, ntmps57
 go_wp2_with (go_at_call 58;refine d.out.mono ?_;rintro e m ⟨rfl,g⟩);go_ret;exact⟨rfl,g⟩
theorem uM (va vb:Value)(a b:List (List Int))(B:Nat)(w:World)(ha:TabAt w.heap.size w va a)(hb:TabAt w.heap.size w vb b)(hB:B<w.heap.size)(hBc:w.cell? ⟨B,0,none⟩=some (.func (.func 34) #[] #[])) :
  Calls prog 56 #[va,vb,.func (.func 57) #[] #[.pointer (some ⟨B,0,none⟩)]] w (RG (.bool (EY a b)) w):=by
 obtain⟨A,ca,rfl,T,U,g⟩:=ha;obtain⟨Y,cb,rfl,W,X,j⟩:=hb;by_cases hlen:a.length=b.length
 ·have I:((a.length:Int) != (b.length:Int))=false:=by rw[hlen];simp
  have C:Hid (a.length=b.length):=hlen;clear hlen
  go_enter func56, ntmps56
  go_wp2
  go_loopw [7,8,9,17] (fun _ _ _ i wr=>∃k:Nat,k<=a.length/\i=.int .i64 k/\Hid (EY a b=EY (a.drop k) (b.drop k))/\Gr w wr) (fun _ _ _ i _=>a.length-(intOf i).toNat)
  case atStart=>exact⟨0,yI _,rfl,rfl,yO _⟩
  case round =>
   obtain⟨k,hk,rfl,d,m⟩:=hrel;by_cases z:k<a.length
   ·have l:k<b.length:=by have:=C.out;omega
    obtain⟨Z,oa,rfl,G,r⟩:=g (by omega);obtain⟨bb,ob,rfl,H,t⟩:=j (by omega);obtain⟨x,J⟩:∃x,a[k]?=some x:=⟨_,xR z⟩;obtain⟨y,K⟩:∃y,b[k]?=some y:=⟨_,xR l⟩;obtain⟨Q,L,N⟩:=r k x J;obtain⟨R,M,O⟩:=t k y K;replace L:=(m.cell _ _ G).trans L;replace M:=(m.cell _ _ H).trans M;have E:Hid (EY a b=(EL x y && EY (a.drop (k+1)) (b.drop (k+1)))):=d.out.trans (L9 J K)
    have D:Hid (∀p,Gr w p->Calls prog 57 #[Q,R,.pointer (some ⟨B,0,none⟩)] p (RG (.bool (EL x y)) p)) :=
     fun p q=>po Q R x y B p (N.gr q) (O.gr q) ((q.cell _ _ hB).trans hBc)
    obtain⟨S,u⟩:=xJ (EL x y);rw[u]at D E;have z2:(k:Int)<(a.length:Int):=by omega
    have z3:(k:Int)<(b.length:Int):=by omega
    clear J K r t u z l g j N O
    cases S with
    | true =>
     go_wp2_with (go_at_call 57;refine(D.out _ m).mono ?_;rintro e p ⟨rfl,F⟩);go_roundw;case rel=>exact⟨k+1,by omega,by go_num,E.out.trans (Bool.true_and _),m.trans F⟩
     case measure=>simp[intOf];omega
    | false =>
     go_wp2_with (go_at_call 57;refine(D.out _ m).mono ?_;rintro e p ⟨rfl,F⟩);go_ret;exact⟨cZ (E.out.trans (Bool.false_and _)).symm,m.trans F⟩
   ·obtain rfl:k=a.length:=by omega
    clear g j;go_wp2;go_ret;exact⟨cZ (d.out.trans (MX C.out)).symm,m⟩
 ·have I:((a.length:Int) != (b.length:Int))=true:=by simp;omega
  have C:Hid (EY a b=false):=by
   show _=_
   cases h:EY a b with
   | false=>rfl
   | true=>exact absurd (Lm h) hlen
  clear hlen g j
  go_enter func56, ntmps56
  go_wp2;go_ret;exact⟨cZ C.out.symm,yO _⟩
theorem rz (va vb:Value)(a b:List (List Int))(w:World)(ha:TabAt w.heap.size w va a)(hb:TabAt w.heap.size w vb b) :
  Calls prog 33 #[va,vb,.func (.func 34) #[] #[]] w (RG (.bool (EY a b)) w):=by
 obtain⟨W,g⟩:=xJ (w.alloc (.cells #[.func (.func 34) #[] #[]] 63));have d:Gr w W:=by rw[<-g];exact(yO w).alloc _
 have j:=dJ (uM va vb a b w.heap.size W (ha.gr d) (hb.gr d) (by rw[<-g];simp) (by rw[<-g];exact df _ _ 0 (yO _) rfl));have l:=dJ d;obtain⟨A,ca,rfl,-,-,-⟩:=ha;obtain⟨p,q,rfl,-,-,-⟩:=hb;clear d
 go_enter func33, ntmps33
 go_wp2_with (go_at_call 56;refine j.out.mono ?_;rintro e r ⟨rfl,m⟩);go_ret;exact⟨rfl,l.out.trans m⟩
theorem ng {s t:zO}{vt:Value}(hs:TabAt w.heap.size w vs s.mem)(ht:TabAt w.heap.size w vt t.mem) :
  Calls prog 12 #[eW s vs,eW t vt] w (RG (.bool (EM s t)) w):=by
 obtain⟨C,u⟩:=xJ (fO w s vs);obtain⟨W,Q⟩:=xJ (fO C t vt);have y:Gr w C:=by rw[<-u];exact(yO w).alloc _
 have O:Gr C W:=by rw[<-Q];exact(yO C).alloc _
 have K:=y.trans O;obtain⟨a0,a1,a2,a3,a4⟩:=dz (w:=w) (o:=s) (vm:=vs) (w':=W) (by rw[u];exact O);obtain⟨b0,b1,b2,b3,b4⟩:=dz (w:=C) (o:=t) (vm:=vt) (w':=W) (by rw[Q];exact yO _);have N:=dJ (rz vs vt s.mem t.mem W (hs.gr K) (ht.gr K));have r:=dJ K;have j:Hid (EM s t=if s.kind=1 then true else if s.kind=2 then decide (t.kind=2) else if s.kind≠0\/t.kind≠0 then false else if s.ret.p=false/\s.ret≠t.ret then false else EY s.mem t.mem):=by show _=_;rfl
 obtain⟨q,⟨M,F,E⟩,S⟩:=s;obtain⟨G,⟨I,J,H⟩,T⟩:=t;obtain⟨A,ca,rfl,-⟩:=id hs;obtain⟨A',cb,rfl,-⟩:=id ht;dsimp only at *;obtain⟨R,X⟩:=xJ (EM ⟨q,⟨M,F,E⟩,S⟩ ⟨G,⟨I,J,H⟩,T⟩);rw[X]at j ⊢;clear hs ht y O K X;unfold fO at u Q;unfold eW;dsimp only at *;by_cases g:q=1
 ·have q1:(q == 1)=true:=by simp[g]
  have d:Hid (R=true):=by show _=_;rw[j.out,yr g]
  clear j g
  go_enter func12, ntmps12
  go_wp2;go_ret;exact⟨cZ d.out.symm,r.out⟩
 have q1:(q == 1)=false:=by simp[g]
 by_cases m:q=2
 ·have q2:(q == 2)=true:=by simp[m]
  have d:Hid (R=(G == 2)):=by show _=_;rw[j.out,yt g,yr m];rfl
  clear j g m
  go_enter func12, ntmps12
  go_wp2;go_ret;exact⟨cZ d.out.symm,r.out⟩
 have q2:(q == 2)=false:=by simp[m]
 by_cases z:q=0
 ·have q3:(q != 0)=false:=by simp[z]
  by_cases D:G=0
  ·have q4:(G != 0)=false:=by simp[D]
   have d:Hid (R=if M=false/\(⟨M,F,E⟩:Rn.V)≠⟨I,J,H⟩ then false else EY S T):=by show _=_;rw[j.out,yt g,yt m,yt (by omega)]
   clear j g m z D;obtain⟨L,U⟩:=xJ (EY S T);rw[U]at d N;clear U
   cases M with
   | true =>
    have l:Hid (R=L):=by show _=_;rw[d.out,yt (by simp)]
    clear d
    go_enter func12, ntmps12
    go_wp2_with (go_at_call 33;refine N.out.mono ?_;rintro e w1 ⟨rfl,y⟩);go_ret;exact⟨cZ l.out.symm,r.out.trans y⟩
   | false =>
    by_cases B:(⟨false,F,E⟩:Rn.V)=⟨I,J,H⟩
    ·have l:Hid (R=L):=by show _=_;rw[d.out,yt (by simp[B])]
     have Y:∀w',(binOp .neq 24 (.agg #[.bool false,.int .i64 F,.int .u32 E]) (.agg #[.bool I,.int .i64 J,.int .u32 H])).run prog w'=.ok (.bool false) w':=by intro w';injection B with Z e2 e3;subst Z;subst e2;subst e3;simp[go_sem]
     clear d B
     go_enter func12, ntmps12
     go_wp2_with (go_at_call 33;refine N.out.mono ?_;rintro e w1 ⟨rfl,y⟩);go_ret;exact⟨cZ l.out.symm,r.out.trans y⟩
    ·have l:Hid (R=false):=by show _=_;rw[d.out,yr ⟨rfl,B⟩]
     have Y:∀w',(binOp .neq 24 (.agg #[.bool false,.int .i64 F,.int .u32 E]) (.agg #[.bool I,.int .i64 J,.int .u32 H])).run prog w'=.ok (.bool true) w':=by intro w';simp[go_sem];rintro rfl rfl rfl;exact B rfl
     clear d B
     go_enter func12, ntmps12
     go_wp2;go_ret;exact⟨cZ l.out.symm,r.out⟩
  ·have q4:(G != 0)=true:=by simp[D]
   have d:Hid (R=false):=by show _=_;rw[j.out,yt g,yt m,yr (.inr D)]
   clear j g m z D
   go_enter func12, ntmps12
   go_wp2;go_ret;exact⟨cZ d.out.symm,r.out⟩
 ·have q3:(q != 0)=true:=by simp[z]
  have d:Hid (R=false):=by show _=_;rw[j.out,yt g,yt m,yr (.inl z)]
  clear j g m z
  go_enter func12, ntmps12
  go_wp2;go_ret;exact⟨cZ d.out.symm,r.out⟩
theorem mg (h:TabAt w.heap.size w (.slice A n c) t):∀(i:Nat)(x:List Int),t[i]?=some x->∃b off Ax cx,A=some ⟨b,off,none⟩/\x.length<=17592186044416 /\
  (∀u,Gr w u->u.cell? ⟨b,off+i,none⟩=some (.slice Ax x.length cx))/\∀(k:Nat)(y:Int),x[k]?=some y->∃bx ox,Ax=some ⟨bx,ox,none⟩/\∀u,Gr w u->u.cell? ⟨bx,ox+k,none⟩=some (.int .i64 y):=by
 obtain⟨D,E,e,H,I,p⟩:=h;injection e with m F G;subst m;intro i x l;obtain⟨b,off,rfl,q,r⟩:=p (by have:=(xS.1 l).1;omega);obtain⟨u,z,Ax,cx,rfl,J,B,C⟩:=r i x l;refine⟨b,off,Ax,cx,rfl,B,fun v g=>(g.cell _ _ q).trans z,fun k y hy=>?_⟩;obtain⟨bx,ox,rfl,d,j⟩:=C (by have:=(xS.1 hy).1;omega);exact⟨bx,ox,rfl,fun v g=>(g.cell _ _ d).trans (j k y hy)⟩
end
section
open Go.RowKit Go.Shelf
namespace Rf
def JJ (t:List (List Int)):Bool:=t.any fun r=>r.any fun b=>decide (b=-1)
theorem MY (h:t[k]?=some r):JJ (t.drop k)=((r.any fun b=>decide (b=-1)) || JJ (t.drop (k+1))):=by obtain⟨d,g⟩:=xS.1 h;rw[yg d,g];rfl
def Ht (t:List (List Int)):Bool:=t.all fun r=>r.all fun b=>decide (0<=b)
def Iz (r:List Int):Bool:=r.all fun b=>decide (0<=b)
theorem MZ (h:t[k]?=some r):Ht (t.drop k)=(Iz r && Ht (t.drop (k+1))):=by obtain⟨d,g⟩:=xS.1 h;rw[yg d,g];rfl
theorem Mc {t:List Int}{r:Int}(h:t[k]?=some r):Iz (t.drop k)=(decide (0<=r) && Iz (t.drop (k+1))):=by obtain⟨d,g⟩:=xS.1 h;rw[yg d,g];rfl
theorem Ln:∀r:List Int,(∀b∈r,-1<=b)->Iz r=!(r.any fun b=>decide (b=-1))
 | [],_=>rfl
 | a::r,h=>by
  have l:=h a (by simp)
  have g:=Ln r fun b hb=>h b (by simp[hb]);have j:Iz (a::r)=(decide (0<=a) && Iz r):=rfl;rw[j,g,List.any_cons,Bool.not_or];congr 1;by_cases d:a=-1<;>simp[d]<;>omega
theorem LL:∀t:List (List Int),(∀r∈t,∀b∈r,-1<=b)->Ht t=!(JJ t)
 | [],_=>rfl
 | a::r,h=>by
  have d:=Ln a (h a (by simp))
  have g:=LL r fun b hb=>h b (by simp[hb]);have j:Ht (a::r)=(Iz a && Ht r):=rfl;have l:JJ (a::r)=((a.any fun b=>decide (b=-1)) || JJ r):=rfl;rw[j,l,d,g,Bool.not_or]
end Rf
theorem sV {o:zO}(hm:TabAt w.heap.size w vm o.mem):Calls prog 53 #[eW o vm] w (RG (.int .i64 (Fq o)) w):=by
 obtain⟨W,N⟩:=xJ (fO w o vm);have M:Gr w W:=by rw[<-N];exact(yO w).alloc _
 obtain⟨a0,a1,a2,a3,a4⟩:=dz (w:=w) (o:=o) (vm:=vm) (w':=W) (by rw[N];exact yO _);have O:=dJ (hm.gr M);have C:=dJ M;have ab:o.mem.length<=17592186044416:=by obtain⟨_,_,e,_,S,_⟩:=hm;exact S
 have l:Hid (Fq o=if o.kind=1 then 2 else if o.kind≠0\/o.ret.p=true then 1 else if JJ o.mem=true then 1 else 0):=by show _=_;rfl
 obtain⟨A,c,rfl,-⟩:=id hm;have HT:=dJ (mg O.out)
 have K:Hid (∀u (i:Nat) (x:List Int) (v:Value),Gr W u->o.mem[i]?=some x->(∃b off,A=some ⟨b,off,none⟩/\u.cell? ⟨b,off+i,none⟩=some v)->IntsAt u.heap.size u v x):=fun u i x v g hx hv=>by
  obtain⟨A',c',e,h1,S,h3⟩:=O.out.gr g;injection e with L Q e3;subst L;obtain⟨b,off,rfl,hb,hc⟩:=h3 (by have:=(xS.1 hx).1;omega);obtain⟨b',Y,e,m⟩:=hv;injection e with e;injection e with L Q;subst L;subst Q;obtain⟨u',h4,h5⟩:=hc i x hx;rw[h4]at m;injection m with m
  rwa [<-m]
 have U:(o.mem.length:Int)<=17592186044416:=by omega
 obtain⟨R,y⟩:=xJ (Fq o);rw[y]at l ⊢;obtain⟨ok,⟨op,os,on⟩,j⟩:=o;clear hm M y;unfold fO at N;unfold eW;dsimp only at *;by_cases d:ok=1
 ·have Z:(ok == 1)=true:=by simp[d]
  have t:Hid (R=2):=by show _=_;rw[l.out,yr d]
  clear d l
  go_enter func53, ntmps53
  go_wp2;go_ret;exact⟨dg t.out.symm,C.out⟩
 ·have Z:(ok == 1)=false:=by simp[d]
  by_cases B:ok=0
  ·have q2:(ok != 0)=false:=by simp[B]
   cases op with
   | true =>
    have t:Hid (R=1):=by show _=_;rw[l.out,yt d,yr (.inr rfl)]
    clear d B l
    go_enter func53, ntmps53
    go_wp2;go_ret;exact⟨dg t.out.symm,C.out⟩
   | false =>
    have t:Hid (R=if JJ j=true then 1 else 0):=by show _=_;rw[l.out,yt d,yt (by simp[B])]
    clear d B l
    go_enter func53, ntmps53
    go_wp2;clear a0 a1 a2 a3 a4 Z q2
    go_loopw [4,21] (fun _ s wr=>∃k:Nat,k<=j.length/\s=.int .i64 (k:Int)/\Hid (R=if JJ (j.drop k)=true then 1 else 0)/\Hid (Gr W wr)) (fun _ s _=>j.length-(intOf s).toNat)
    case atStart=>exact⟨0,yI _,rfl,t.out,yO _⟩
    case round =>
     obtain⟨k,T,rfl,y,E⟩:=hrel;by_cases q:k<j.length
     ·obtain⟨r,G⟩:∃r,j[k]?=some r:=⟨_,xR q⟩;obtain⟨b,off,Ax,cx,rfl,ac,F,-⟩:=HT.out k r G;have x5:=F wr E.out;have HI:=dJ (K.out wr k r _ E.out G ⟨b,off,rfl,x5⟩);have H:Hid (Calls prog 85 #[.slice Ax r.length cx,.int .i64 (-1)] wr (RS (.bool (En r (-1))) wr)):=fB _ r (-1) wr HI.out;have J:Hid (R=if (En r (-1) || JJ (j.drop (k+1)))=true then 1 else 0):=by show _=_;rw[y.out,MY G];rfl
      have aa:(k:Int)<(j.length:Int):=by omega
      have D:Hid (k<j.length):=q;clear G F q T y;obtain⟨z,X⟩:=xJ (En r (-1));rw[X]at H J;clear X
      cases z with
      | true =>
       go_wp2_with (go_at_call 85;refine H.out.mono ?_;rintro e w2 ⟨rfl,rfl⟩);go_ret;exact⟨dg (by rw[J.out];rfl),C.out.trans E.out⟩
      | false =>
       go_wp2_with (go_at_call 85;refine H.out.mono ?_;rintro e w2 ⟨rfl,rfl⟩);exact⟨⟨k+1,D.out,by go_num,by rw[J.out];rfl,E⟩,by have:=D.out;simp[intOf];omega⟩
     ·obtain rfl:k=j.length:=by omega
      have I:Hid (R=0):=by show _=_;rw[y.out,List.drop_length];rfl
      clear y q T;go_wp2;go_ret;exact⟨dg I.out.symm,C.out.trans E.out⟩
  ·have q2:(ok != 0)=true:=by simp[B]
   have t:Hid (R=1):=by show _=_;rw[l.out,yt d,yr (.inl B)]
   clear d B l
   go_enter func53, ntmps53
   go_wp2;go_ret;exact⟨dg t.out.symm,C.out⟩
end
section
open Go.RowKit
namespace Rf
def GG (p:zO->Bool):List zO->Int->Int
 | [],_=>-1
 | o::r,k=>if p o=true then k else GG p r (k+1)
theorem Lo (p:zO->Bool):∀(l:List zO)(k:Int),0<=k->decide (0<=GG p l k)=l.any p
 | [],k,_=>rfl
 | o::r,k,h=>by
  rw[GG,List.any_cons]
  split
  next e=>rw[e,Bool.true_or];exact decide_eq_true h
  next e=>rw[Lo p r (k+1) (by omega)];simp[e]
end Rf
def OutAt (B:Nat)(w:World)(b off:Nat)(o:zO):Prop :=
 ∃vm,w.cell? ⟨b,off,none⟩=some (.int .i64 o.kind)/\w.cell? ⟨b,off+1,none⟩=some (.bool o.ret.p)/\w.cell? ⟨b,off+2,none⟩=some (.int .i64 o.ret.s)/\w.cell? ⟨b,off+3,none⟩=some (.int .u32 o.ret.n)/\w.cell? ⟨b,off+4,none⟩=some vm/\TabAt B w vm o.mem
def OL (B:Nat)(w:World)(v:Value)(os:List zO):Prop:=SlAt B v os.length fun b off=>∀j o,os[j]?=some o->OutAt B w b (off+j*5) o
theorem OutAt.gr {b off:Nat}{o:zO}(h:OutAt w.heap.size w b off o)(hb:b<w.heap.size)(g:Gr w w'):OutAt w'.heap.size w' b off o:=by obtain⟨vm,d,j,l,m,p,q⟩:=h;exact⟨vm,(g.cell _ _ hb).trans d,(g.cell _ _ hb).trans j,(g.cell _ _ hb).trans l,(g.cell _ _ hb).trans m,(g.cell _ _ hb).trans p,q.gr g⟩
theorem OL.gr {os:List zO}(h:OL w.heap.size w v os)(g:Gr w w'):OL w'.heap.size w' v os :=
 SlAt.mono (SlAt.imp h fun b off d u j o y=>by
   obtain⟨vm,l,m,p,q,r,t⟩:=u j o y
   exact⟨vm,(g.cell _ _ d).trans l,(g.cell _ _ d).trans m,(g.cell _ _ d).trans p,(g.cell _ _ d).trans q,(g.cell _ _ d).trans r,t.gr g⟩) g.size
theorem OutsAt.ol {outs:List zO}(h:OutsAt D B w v outs vms)(hn:outs.length<=1000):OL w.heap.size w v outs:=by obtain⟨A,c,rfl,r,-,-⟩:=dE h.own;refine⟨A,c,rfl,r,by omega,fun y=>?_⟩;obtain⟨b,rfl,l,-,d⟩:=dx h.own rfl y;refine⟨b,0,rfl,l,fun j o m=>?_⟩;have p:=(xS.1 m).1;obtain⟨vm,g⟩:∃vm,vms[j]?=some vm:=⟨_,xR (by rw[h.len];exact p)⟩;have u:=h.at_ j o vm m g;have q:=fun t (ht:t<5)=>(d (j*5+t) (by omega)).trans (gD outs vms j t o vm m g ht);rw[Nat.zero_add];exact⟨vm,q 0 (by decide),q 1 (by decide),q 2 (by decide),q 3 (by decide),q 4 (by decide),u.tab⟩
theorem oC (g:Nat)(lb:Array Value)(eg:∀args w,(callFunc g args).run prog w=.ok (.enter g args) w)(p:zO->Bool)(v:Value)(os:List zO)(w:World)(ho:OL w.heap.size w v os)
  (hp:Hid (∀o∈os,∀(vm:Value)(W:World),Gr w W->TabAt W.heap.size W vm o.mem->Calls prog g (#[eW o vm]++lb) W (RG (.bool (p o)) W))) :
  Calls prog 59 #[v,.func (.func g) #[] lb] w (RG (.int .i64 (GG p os 0)) w):=by
 obtain⟨A,c,rfl,S,T,K⟩:=ho
 go_enter func59, ntmps59
 go_wp2
 go_loopw [5,8] (fun _ i wr=>∃k:Nat,k<=os.length/\i=.int .i64 k/\Gr w wr/\Hid (GG p os 0=GG p (os.drop k) k)) (fun _ i _=>os.length-(intOf i).toNat)
 case atStart=>exact⟨0,yI _,rfl,yO _,rfl⟩
 case round =>
  obtain⟨k,O,rfl,d,j⟩:=hrel;obtain⟨E,rfl⟩:∃E:World,E=wr:=⟨_,rfl⟩;rcases hr:os.drop k with _|⟨o,r⟩
  ·have B:=dw hr O;have N:Hid (GG p os 0=-1):=by show _=_;rw[j.out,hr];rfl
   subst B;clear hr j;go_wp2;go_ret;exact⟨dg (by rw[N.out]),d⟩
  ·obtain⟨Q,D,t⟩:=dr hr;obtain⟨b,off,rfl,m,L⟩:=K (by omega);obtain⟨vm,F,G,H,I,J,C⟩:=L k o D;replace F:=(d.cell _ _ m).trans F;replace G:=(d.cell _ _ m).trans G;replace H:=(d.cell _ _ m).trans H;replace I:=(d.cell _ _ m).trans I;replace J:=(d.cell _ _ m).trans J;have u:Hid (GG p os 0=if p o=true then (k:Int) else GG p r (k+1)):=by show _=_;rw[j.out,hr];rfl
   have y:Hid (os.drop (k+1)=r):=t;have l:=dJ (hp.out o (xT D) vm E d (C.gr d));obtain⟨Am,cm,rfl,-⟩:=id C;clear hr D t j L K C;obtain⟨q,M⟩:=xJ (p o);rw[M]at u l;clear M;unfold eW at l
   cases q with
   | true =>
    go_wp2_with (go_at_fn g;refine l.out.mono ?_;rintro e R ⟨rfl,z⟩);go_ret;exact⟨dg (by rw[u.out];simp),d.trans z⟩
   | false =>
    go_wp2_with (go_at_fn g;refine l.out.mono ?_;rintro e R ⟨rfl,z⟩);go_roundw;case rel=>exact⟨k+1,by omega,by go_num,d.trans z,by (show _=_;rw[u.out,y.out];simp)⟩
    case measure=>simp[intOf];omega
theorem fi (g:Nat)(lb:Array Value)(eg:∀args w,(callFunc g args).run prog w=.ok (.enter g args) w)(p:zO->Bool)(v:Value)(os:List zO)(w:World)(ho:OL w.heap.size w v os)
  (hp:Hid (∀o∈os,∀(vm:Value)(W:World),Gr w W->TabAt W.heap.size W vm o.mem->Calls prog g (#[eW o vm]++lb) W (RG (.bool (p o)) W))) :
  Calls prog 36 #[v,.func (.func g) #[] lb] w (RG (.bool (os.any p)) w):=by
 have C:=dJ (oC g lb eg p v os w ho hp);have d:Hid (decide (0<=GG p os 0)=os.any p):=Lo p os 0 (Int.le_refl 0);obtain⟨i,l⟩:=xJ (GG p os 0);rw[l]at C d;obtain⟨A,c,rfl,-⟩:=id ho;clear l hp ho eg;by_cases h:0<=i
 ·go_enter func36, ntmps36
  go_wp2_with (go_at_call 59;refine C.out.mono ?_;rintro e m ⟨rfl,j⟩);go_ret;exact⟨cZ (by rw[<-d.out];try simp[h]),j⟩
 ·go_enter func36, ntmps36
  go_wp2_with (go_at_call 59;refine C.out.mono ?_;rintro e m ⟨rfl,j⟩);go_ret;exact⟨cZ (by rw[<-d.out];try simp[h]),j⟩
theorem qk {o:zO}(hm:TabAt w.heap.size w vm o.mem):Calls prog 37 #[eW o vm] w (RG (.bool (decide (o.kind=1))) w):=by
 obtain⟨W,d⟩:=xJ (fO w o vm);have g:Gr w W:=by rw[<-d];exact(yO w).alloc _
 obtain⟨a0,j,l,a3,a4⟩:=dz (w:=w) (o:=o) (vm:=vm) (w':=W) (by rw[d];exact yO _);obtain⟨A,c,rfl,-⟩:=hm;unfold fO at d;unfold eW
 go_enter func37, ntmps37
 go_wp2;go_ret;exact⟨cZ (by first|rfl|(simp;rfl)),g⟩
theorem ql {x y:zO}(hx:TabAt w.heap.size w vx x.mem)(hy:OutAt w.heap.size w By 0 y)(hB:By<w.heap.size) :
  Calls prog 39 #[eW x vx,.pointer (some ⟨By,0,none⟩)] w (RG (.bool (EM x y)) w):=by
 obtain⟨W,j⟩:=xJ (fO w x vx);have d:Gr w W:=by rw[<-j];exact(yO w).alloc _
 obtain⟨a0,q,r,a3,a4⟩:=dz (w:=w) (o:=x) (vm:=vx) (w':=W) (by rw[j];exact yO _);obtain⟨vy,u,z,B,C,D,g⟩:=hy.gr hB d;have l:=dJ (ng (w:=W) (s:=x) (t:=y) (hx.gr d) g);have m:=dJ d;obtain⟨A,c,rfl,-⟩:=hx;obtain⟨p,E,rfl,-⟩:=g;clear d;unfold fO at j;unfold eW at *
 go_enter func39, ntmps39
 go_wp2_with (go_at_call 12;refine l.out.mono ?_;rintro e F ⟨rfl,d⟩);go_ret;exact⟨rfl,m.out.trans d⟩
theorem te {y:zO}{vy:Value}{ss:List zO}(hy:TabAt w.heap.size w vy y.mem)(hs:OL w.heap.size w vs ss)(hB:Bs<w.heap.size)(hBs:w.cell? ⟨Bs,0,none⟩=some vs) :
  Calls prog 38 #[eW y vy,.pointer (some ⟨Bs,0,none⟩)] w (RG (.bool (!ss.any fun x=>EM x y)) w):=by
 obtain⟨W,j⟩:=xJ (fO w y vy);have d:Gr w W:=by rw[<-j];exact(yO w).alloc _
 have g:OutAt W.heap.size W w.heap.size 0 y:=by obtain⟨a0,t,u,a3,a4⟩:=dz (w:=w) (o:=y) (vm:=vy) (w':=W) (by rw[j];exact yO _);exact⟨vy,a0,t,u,a3,a4,hy.gr d⟩
 have l:w.heap.size<W.heap.size:=by rw[<-j];unfold fO;simp
 have m:=dJ (fi 39 #[.pointer (some ⟨w.heap.size,0,none⟩)] (enters_of func39 (by kernel_rfl) rfl) (fun x=>EM x y) vs ss W (hs.gr d)
   (dJ fun o _ vm V p z=>ql z (g.gr l p) (by have:=p.size;omega)))
 have D:=(d.cell _ 0 hB).trans hBs;have r:=dJ d;obtain⟨b,q⟩:=xJ ((ss.any fun x=>EM x y));rw[q]at m ⊢;obtain⟨A,c,rfl,-⟩:=hy;obtain⟨B,C,rfl,-⟩:=hs;clear d g q;unfold fO at j;unfold eW
 go_enter func38, ntmps38
 go_wp2_with (go_at_call 36;refine m.out.mono ?_;rintro e E ⟨rfl,d⟩);go_ret;exact⟨rfl,r.out.trans d⟩
theorem eD {vt:Value}{ss ts:List zO}(hs:OL w.heap.size w vs ss)(ht:OL w.heap.size w vt ts) :
  Calls prog 14 #[vs,vt] w (RG (.bool (FY ss ts)) w):=by
 obtain⟨W,B⟩:=xJ (w.alloc (.cells #[vs] 31));have d:Gr w W:=by rw[<-B];exact(yO w).alloc _
 have C:w.heap.size<W.heap.size:=by rw[<-B];simp
 have G:W.cell? ⟨w.heap.size,0,none⟩=some vs:=by rw[<-B];exact df _ _ 0 (yO _) rfl
 have E:Hid (∀u,Gr W u->u.cell? ⟨w.heap.size,0,none⟩=some vs):=fun u g=>(g.cell _ 0 C).trans G
 have j:Hid (∀u,Gr W u->Calls prog 36 #[vs,.func (.func 37) #[] #[]] u (RG (.bool (ss.any fun x=>decide (x.kind=1))) u)):=fun u g =>
  fi 37 #[] (enters_of func37 (by kernel_rfl) rfl) (fun x=>decide (x.kind=1)) vs ss u (hs.gr (d.trans g)) (dJ fun o _ vm V r z=>qk z)
 have l:Hid (∀u,Gr W u->Calls prog 36 #[vt,.func (.func 38) #[] #[.pointer (some ⟨w.heap.size,0,none⟩)]] u (RG (.bool (ts.any fun y=>!ss.any fun x=>EM x y)) u)):=fun u g =>
  fi 38 #[.pointer (some ⟨w.heap.size,0,none⟩)] (enters_of func38 (by kernel_rfl) rfl) (fun y=>!ss.any fun x=>EM x y) vt ts u (ht.gr (d.trans g))
   (dJ fun o _ vm V r z=>te z (hs.gr ((d.trans g).trans r)) (by have:=(g.trans r).size;omega) (E.out V (g.trans r)))
 have q:Hid (FY ss ts=((ss.any fun x=>decide (x.kind=1)) || !(ts.any fun y=>!ss.any fun x=>EM x y))):=by show _=_;unfold FY;rw[Kx,Bool.not_not]
 have D:=dJ d;obtain⟨F,m⟩:∃b,(ss.any fun x=>decide (x.kind=1))=b:=⟨_,rfl⟩;obtain⟨J,p⟩:=xJ ((ts.any fun y=>!ss.any fun x=>EM x y));rw[m]at j q;rw[p]at l q;obtain⟨A,c,rfl,-⟩:=hs;obtain⟨I,K,rfl,-⟩:=ht;clear d m p;cases F
 all_goals
  go_enter func14, ntmps14
  go_wp2_with (first|(go_at_call 36;(with_reducible refine(j.out _ (yO W)).mono ?_);rintro e L ⟨rfl,d⟩;have t:=dJ d)|(go_at_call 36;(with_reducible refine(l.out _ t.out).mono ?_);rintro e M ⟨rfl,H⟩))
  go_ret
 ·exact⟨cZ (by rw[q.out];rfl),D.out.trans (t.out.trans H)⟩
 ·exact⟨cZ (by rw[q.out];rfl),D.out.trans t.out⟩
abbrev FBox (B:Nat)(w:World)(f:Fn)(Ap As Ab:Option Addr)(cp cs cb:Nat):Prop :=
 w.cell? ⟨B,0,none⟩=some (.slice Ap f.p.length cp)/\w.cell? ⟨B,1,none⟩=some (.int .i64 f.ret)/\w.cell? ⟨B,2,none⟩=some (.slice As f.s.length cs)/\w.cell? ⟨B,3,none⟩=some (.slice Ab f.b.length cb)
theorem FBox.gr (h:FBox B w f Ap As Ab cp cs cb)(hB:B<w.heap.size)(q:Gr w w'):FBox B w' f Ap As Ab cp cs cb :=
 ⟨(q.cell _ _ hB).trans h.1,(q.cell _ _ hB).trans h.2.1,(q.cell _ _ hB).trans h.2.2.1,(q.cell _ _ hB).trans h.2.2.2⟩
theorem FBox.new {V:World}(g:Gr (V.alloc (.cells #[.slice Ap f.p.length cp,.int .i64 f.ret,.slice As f.s.length cs,.slice Ab f.b.length cb] 36)) W)(hB:V.heap.size=B):FBox B W f Ap As Ab cp cs cb :=
 ⟨df _ _ 0 g hB,df _ _ 1 g hB,df _ _ 2 g hB,df _ _ 3 g hB⟩
theorem iG (f g:Fn)(a b:Int)(ha:zL f=a)(hb:zL g=b) :
  (a≠0->Eu f g=a/\FV f g=false)/\(a=0->b≠0->Eu f g=b/\FV f g=false)/\(a=0->b=0->Eu f g=0/\FV f g=Gf f g):=by
 subst ha;subst hb;have d:Eu f g=if zL f=0 then zL g else zL f:=rfl
 have j:FV f g=if Eu f g=0 then Gf f g else false:=rfl
 refine⟨fun h=>?_,fun h h'=>?_,fun h h'=>?_⟩
 ·rw[yt h]at d;rw[d,yt h]at j;exact⟨d,j⟩
 ·rw[yr h]at d;rw[d,yt h']at j;exact⟨d,j⟩
 ·rw[yr h]at d;rw[d,yr h']at j;exact⟨d.trans h',j⟩
theorem oV (vf vg:Value)(f g:Fn)(w:World)(hf:FnAt w.heap.size w vf f)(hg:FnAt w.heap.size w vg g)(hnf:gT f)(hng:gT g) :
  Calls prog 75 #[vf,vg] w (RG (.tuple #[.bool (FV f g),.int .i64 (Eu f g)]) w):=by
 have m:Hid (∀d,Gr w d->Calls prog 42 #[vf] d (RG (.int .i64 (zL f)) d)):=fun d q=>gK vf f d (hf.gr q) hnf;have u:Hid (∀d,Gr w d->Calls prog 42 #[vg] d (RG (.int .i64 (zL g)) d)):=fun d q=>gK vg g d (hg.gr q) hng;obtain⟨vp,vs,vb,rfl,hp,E,hb⟩:=hf;obtain⟨up,us,ub,rfl,gp,D,gb⟩:=hg;have B:Hid (∀d,Gr w d->Calls prog 99 #[vp,up] d (RG (.bool (decide (f.p=g.p))) d)):=fun d q=>iF vp up _ _ d (hp.gr q) (gp.gr q);have C:Hid (∀d,Gr w d->Calls prog 99 #[vs,us] d (RG (.bool (decide (f.s=g.s))) d)):=fun d q=>iF vs us _ _ d (E.gr q) (D.gr q);have L:Hid (Gf f g=(decide (f.p=g.p) && (f.ret == g.ret) && decide (f.s=g.s))):=by show _=_;rfl
 obtain⟨S,cp,rfl,-,-,-⟩:=hp;obtain⟨T,cs,rfl,-,-,-⟩:=E;obtain⟨R,Z,rfl,-,-,-⟩:=hb;obtain⟨X,dp,rfl,-,-,-⟩:=gp;obtain⟨Y,ds,rfl,-,-,-⟩:=D;obtain⟨U,db,rfl,-,-,-⟩:=gb;obtain⟨W,J⟩:=xJ ((w.alloc (.cells #[.slice S f.p.length cp,.int .i64 f.ret,.slice T f.s.length cs,.slice R f.b.length Z] 36)).alloc (.cells #[.slice X g.p.length dp,.int .i64 g.ret,.slice Y g.s.length ds,.slice U g.b.length db] 36));have j:Gr w W:=by rw[<-J];exact((yO w).alloc _).alloc _
 have aa:W.heap.size=w.heap.size+2:=by rw[<-J];simp
 have B0:Hid (∀w',Gr W w'->FBox w.heap.size w' f S T R cp cs Z/\FBox (w.heap.size+1) w' g X Y U dp ds db):=by intro w' q;refine⟨(FBox.new (V:=w) (by rw[<-J];exact(yO _).alloc _) rfl).gr (by omega) q,(FBox.new (V:=w.alloc _) (by rw[J];exact yO _) (by simp)).gr (by omega) q⟩
 obtain⟨⟨c0,c1,c2,c3⟩,⟨d0,d1,d2,d3⟩⟩:=B0.out W (yO _);obtain⟨G,O⟩:∃b,decide (f.p=g.p)=b:=⟨_,rfl⟩;obtain⟨M,h2⟩:∃b,(f.ret == g.ret)=b:=⟨_,rfl⟩;obtain⟨b3,Q⟩:∃b,decide (f.s=g.s)=b:=⟨_,rfl⟩;obtain⟨H,y⟩:=xJ (zL f);obtain⟨I,z⟩:=xJ (zL g);have t:=dJ (iG f g H I y z);rw[O,h2,Q]at L;rw[O]at B;rw[Q]at C;rw[y]at m;rw[z]at u;clear O Q y z;by_cases r:H=0
 ·have n1:(H != 0)=false:=by simp[r]
  by_cases A:I=0
  ·have n2:(I != 0)=false:=by simp[A]
   have l:=dJ (t.out.2.2 r A);clear r A;rcases (by cases G<;>cases M<;>simp:G=false\/(G=true/\M=false)\/(G=true/\M=true)) with rfl|⟨rfl,rfl⟩|⟨rfl,rfl⟩
   all_goals
    go_enter func75, ntmps75
    go_wp2_with (first|(go_at_call 42;with_reducible refine(m.out _ j).mono ?_;rintro e d ⟨rfl,p⟩;obtain⟨⟨k0,k1,k2,k3⟩,⟨m0,m1,m2,m3⟩⟩:=B0.out _ p)|(go_at_call 42;with_reducible refine(u.out _ (j.trans p)).mono ?_;rintro e w2 ⟨rfl,N⟩;have F:=p.trans N;obtain⟨⟨i0,i1,i2,i3⟩,⟨j0,j1,j2,j3⟩⟩:=B0.out _ F)|(go_at_call 99;with_reducible refine(B.out _ (j.trans F)).mono ?_;rintro e w3 ⟨rfl,g3⟩;have K:=F.trans g3;obtain⟨⟨s0,s1,s2,s3⟩,⟨t0,t1,t2,t3⟩⟩:=B0.out _ K)|(go_at_call 99;with_reducible refine(C.out _ (j.trans K)).mono ?_;rintro e w4 ⟨rfl,g4⟩;have q4:=K.trans g4))
    go_ret2
    first
     | exact⟨by rw[l.out.1,l.out.2,L.out];simp,j.trans q4⟩
     | exact⟨by rw[l.out.1,l.out.2,L.out];simp,j.trans K⟩
  ·have n2:(I != 0)=true:=by simp[A]
   have l:=dJ (t.out.2.1 r A);clear r A
   go_enter func75, ntmps75
   go_wp2_with (first|(go_at_call 42;with_reducible refine(m.out _ j).mono ?_;rintro e d ⟨rfl,p⟩;obtain⟨⟨k0,k1,k2,k3⟩,⟨m0,m1,m2,m3⟩⟩:=B0.out _ p)|(go_at_call 42;with_reducible refine(u.out _ (j.trans p)).mono ?_;rintro e w2 ⟨rfl,N⟩;have F:=p.trans N))
   go_ret2;exact⟨by rw[l.out.1,l.out.2];rfl,j.trans F⟩
 ·have n1:(H != 0)=true:=by simp[r]
  have l:=dJ (t.out.1 r);clear r
  go_enter func75, ntmps75
  go_wp2_with (go_at_call 42;with_reducible refine(m.out _ j).mono ?_;rintro e d ⟨rfl,p⟩);go_ret2;exact⟨by rw[l.out.1,l.out.2];rfl,j.trans p⟩
theorem kX {g:Fn}(hf:FnAt w.heap.size w vf f)(hg:FnAt w.heap.size w vg g)(hnf:gT f)(hng:gT g) :
  Calls prog 49 #[vf,vg] w (RG (.int .i64 (ET f g)) w):=by
 have d:Hid (∀u,Gr w u->Calls prog 75 #[vf,vg] u (RG (.tuple #[.bool (FV f g),.int .i64 (Eu f g)]) u)):=fun u q=>oV vf vg f g u (hf.gr q) (hg.gr q) hnf hng;have p:Hid (ET f g=if Eu f g≠0 then Eu f g else if Gf f g=false then 5 else 0):=by show _=_;rfl
 have r:Hid (FV f g=if Eu f g=0 then Gf f g else false):=by show _=_;rfl
 obtain⟨vp,vs,vb,rfl,J,D,I⟩:=hf;obtain⟨up,us,ub,rfl,H,A,G⟩:=hg;obtain⟨N,W,rfl,-⟩:=J;obtain⟨O,cs,rfl,-⟩:=D;obtain⟨M,U,rfl,-⟩:=I;obtain⟨S,Z,rfl,-⟩:=H;obtain⟨T,ds,rfl,-⟩:=A;obtain⟨Q,Y,rfl,-⟩:=G;obtain⟨X,C⟩:=xJ (ET f g);obtain⟨E,t⟩:=xJ (Eu f g);obtain⟨R,B⟩:=xJ (FV f g);obtain⟨F,m⟩:=xJ (Gf f g);rw[C,t,m]at p;rw[t,B,m]at r;rw[t,B]at d;rw[C];clear C t B m;by_cases l:E=0
 ·have K:(E != 0)=false:=by simp[l]
  have y:Hid (R=F):=by show _=_;rw[r.out,yr l]
  have j:Hid (X=if R=false then 5 else 0):=by show _=_;rw[p.out,yt (by simp[l]),y.out]
  clear l r p;cases R
  all_goals
   go_enter func49, ntmps49
   go_wp2_with (go_at_call 75;(with_reducible refine(d.out _ (((yO w).alloc _).alloc _)).mono ?_);rintro e L ⟨rfl,z⟩);go_ret;exact⟨dg (by rw[j.out];rfl),(((yO w).alloc _).alloc _).trans z⟩
 ·have K:(E != 0)=true:=by simp[l]
  have j:Hid (X=E):=by show _=_;rw[p.out,yr l]
  clear l r p
  go_enter func49, ntmps49
  go_wp2_with (go_at_call 75;(with_reducible refine(d.out _ (((yO w).alloc _).alloc _)).mono ?_);rintro e L ⟨rfl,z⟩);go_ret;exact⟨dg (by rw[j.out]),(((yO w).alloc _).alloc _).trans z⟩
def InpAt (B:Nat)(w:World)(va vm:Value)(i:CG):Prop:=U32At B w va i.args/\TabAt B w vm i.mem/\∀a∈i.args,0<=a
theorem InpAt.gr {va:Value}{i:CG}(h:InpAt w.heap.size w va vm i)(g:Gr w w'):InpAt w'.heap.size w' va vm i :=
 ⟨SlAt.mono (U32At.below h.1 g) g.size,h.2.1.gr g,h.2.2⟩
def wS (f:Fn)(i:CG)(e:Ending)(w':World):Prop :=
 ∃(A:Option Addr)(n c:Nat),e=.returned (.tuple #[.slice A n c,.int .i64 (E7 f i)])/\(E7 f i=0->OL w'.heap.size w' (.slice A n c) (EZ f i))
theorem nG (hfn:FnAt w.heap.size w vf f)(hnice:gT f)(him:Hh f){i:CG}{va:Value}(hi:InpAt w.heap.size w va vm i) :
  Calls prog 52 #[vf,.agg #[va,vm]] w fun e w'=>wS f i e w'/\Gr w w':=by
 refine(qm hfn hnice him hi.1 hi.2.1 hi.2.2).mono fun e w' ⟨h,g⟩=>⟨?_,g⟩;rcases h with ⟨h,j⟩|⟨h,p,j⟩|⟨h,d,m,hl,u,v,D,t,j,l⟩
 ·have q:E7 f i=AB f i:=by unfold E7;rw[yr h]
  exact⟨none,0,0,by rw[q];exact j,fun z=>absurd (q ▸ z) h⟩
 ·have q:E7 f i=3:=by unfold E7;rw[yt (by simp[h]),yr p]
  exact⟨none,0,0,by rw[q];exact j,fun z=>absurd (q ▸ z) (by decide)⟩
 ·have q:E7 f i=0:=by unfold E7;rw[yt (by simp[h]),yt (by simp[m])]
  have r:EZ f i=d:=by unfold EZ;rw[m];rfl
  obtain⟨A,c,rfl,-⟩:=dE l.own;refine⟨A,d.length,c,by rw[q];exact j,fun _=>?_⟩;rw[r];exact l.ol (by omega)
def uK (f g:Fn)(i:CG)(e:Ending)(w':World):Prop :=
 ∃(A:Option Addr)(n c:Nat)(A':Option Addr)(n' c':Nat),e=.returned (.tuple #[.slice A n c,.slice A' n' c',.int .i64 (Fa f g i)])/\(Fa f g i=0->OL w'.heap.size w' (.slice A n c) (EZ f i)/\OL w'.heap.size w' (.slice A' n' c') (EZ g i))
structure Arg3 (w:World)(vf vg va vm:Value)(f g:Fn)(i:CG):Prop where
 f:FnAt w.heap.size w vf f
 g:FnAt w.heap.size w vg g
 i:InpAt w.heap.size w va vm i
theorem Arg3.gr {va:Value}{g:Fn}{i:CG}(h:Arg3 w vf vg va vm f g i)(q:Gr w w'):Arg3 w' vf vg va vm f g i:=⟨h.f.gr q,h.g.gr q,h.i.gr q⟩
theorem xh {cf cg ci:Array Value}(h:((w.alloc (.cells cf tf)).alloc (.cells cg tg)).alloc (.cells ci ti)=W) :
  Gr w W/\∀u,Gr W u->(∀o,u.cell? ⟨w.heap.size,o,none⟩=cf[o]?)/\(∀o,u.cell? ⟨w.heap.size+1,o,none⟩=cg[o]?)/\∀o,u.cell? ⟨w.heap.size+1+1,o,none⟩=ci[o]?:=by
 subst h;refine⟨(((yO w).alloc _).alloc _).alloc _,fun u g=>⟨fun o=>?_,fun o=>?_,fun o=>?_⟩⟩
 ·exact df (V:=w) _ _ o ((((yO _).alloc _).alloc _).trans g) rfl
 ·exact df (V:=w.alloc (.cells cf tf)) _ _ o (((yO _).alloc _).trans g) (by simp)
 ·exact df (V:=(w.alloc (.cells cf tf)).alloc (.cells cg tg)) _ _ o g (by simp)
abbrev C10 (u:World)(k:Nat)(a0 a1 a2 a3 b0 b1 b2 b3 c0 c1:Value):Prop :=
 (u.cell? ⟨k,0,none⟩=some a0/\u.cell? ⟨k,1,none⟩=some a1/\u.cell? ⟨k,2,none⟩=some a2/\u.cell? ⟨k,3,none⟩=some a3) /\
 (u.cell? ⟨k+1,0,none⟩=some b0/\u.cell? ⟨k+1,1,none⟩=some b1/\u.cell? ⟨k+1,2,none⟩=some b2/\u.cell? ⟨k+1,3,none⟩=some b3) /\
 u.cell? ⟨k+1+1,0,none⟩=some c0/\u.cell? ⟨k+1+1,1,none⟩=some c1
theorem uS {a0 a1 a2 a3 b0 b1 b2 b3 c0 c1:Value}(h:((w.alloc (.cells #[a0,a1,a2,a3] tf)).alloc (.cells #[b0,b1,b2,b3] tg)).alloc (.cells #[c0,c1] ti)=W) :
  Gr w W/\∀u,Gr W u->C10 u w.heap.size a0 a1 a2 a3 b0 b1 b2 b3 c0 c1:=by
 obtain⟨d,j⟩:=xh h;refine⟨d,fun u g=>?_⟩;obtain⟨k,l,m⟩:=j u g;exact⟨⟨k 0,k 1,k 2,k 3⟩,⟨l 0,l 1,l 2,l 3⟩,m 0,m 1⟩
theorem nI {va:Value}{g:Fn}{i:CG}(h:Arg3 w vf vg va vm f g i)(hnf:gT f)(hng:gT g)(hif:Hh f)(hig:Hh g) :
  Calls prog 40 #[vf,vg,.agg #[va,vm]] w fun e w'=>uK f g i e w'/\Gr w w':=by
 have F:Hid (∀u,Gr w u->Calls prog 49 #[vf,vg] u (RG (.int .i64 (ET f g)) u)):=fun u q=>kX (h.f.gr q) (h.g.gr q) hnf hng;have G:Hid (∀u,Gr w u->Calls prog 52 #[vf,.agg #[va,vm]] u fun e w'=>wS f i e w'/\Gr u w'):=fun u q=>nG (h.f.gr q) hnf hif (h.i.gr q);have J:Hid (∀u,Gr w u->Calls prog 52 #[vg,.agg #[va,vm]] u fun e w'=>wS g i e w'/\Gr u w'):=fun u q=>nG (h.g.gr q) hng hig (h.i.gr q);have r:Hid (Fa f g i=if ET f g≠0 then ET f g else if E7 f i≠0 then E7 f i else E7 g i):=by show _=_;rfl
 obtain⟨⟨vp,vs,vb,rfl,hp,O,hb⟩,⟨up,us,ub,rfl,gp,M,gb⟩,⟨ha,hm,-⟩⟩:=h;obtain⟨S,Y,rfl,-⟩:=hp;obtain⟨T,cs,rfl,-⟩:=O;obtain⟨R,U,rfl,-⟩:=hb;obtain⟨Dp,dp,rfl,-⟩:=gp;obtain⟨Ds,ds,rfl,-⟩:=M;obtain⟨Db,db,rfl,-⟩:=gb;obtain⟨Q,ca,rfl,-⟩:=ha;obtain⟨Am,cm,rfl,-⟩:=hm;obtain⟨W,hW⟩:=xJ (((w.alloc (.cells #[.slice S f.p.length Y,.int .i64 f.ret,.slice T f.s.length cs,.slice R f.b.length U] 36)).alloc (.cells #[.slice Dp g.p.length dp,.int .i64 g.ret,.slice Ds g.s.length ds,.slice Db g.b.length db] 36)).alloc (.cells #[.slice Q i.args.length ca,.slice Am i.mem.length cm] 41));obtain⟨hG,N⟩:=uS hW;have d:=dJ hG;have K:=dJ N;obtain⟨⟨k0,k1,k2,k3⟩,⟨l0,l1,l2,l3⟩,m0,m1⟩:=N W (yO W);obtain⟨X,hX⟩:=xJ (ET f g);rw[hX]at r F;clear hG N hX;by_cases j:X=0
 ·have q0:(X != 0)=false:=by simp[j]
  by_cases m:E7 f i=0
  ·have l:Hid (Fa f g i=E7 g i):=by show _=_;rw[r.out,yt (by simp[j]),yt (by simp[m])]
   have I:Hid (∀u,Gr w u->Calls prog 52 #[.agg #[.slice S f.p.length Y,.int .i64 f.ret,.slice T f.s.length cs,.slice R f.b.length U],.agg #[.slice Q i.args.length ca,.slice Am i.mem.length cm]] u fun e w'=>∃A n c,e=.returned (.tuple #[.slice A n c,.int .i64 0])/\OL w'.heap.size w' (.slice A n c) (EZ f i)/\Gr u w'):=fun u q=>(G.out u q).mono fun e w' ⟨⟨A,n,c,he,y⟩,g'⟩=>⟨A,n,c,by rw[m]at he;exact he,y m,g'⟩;clear G r j m
   go_enter func40, ntmps40
   go_wp2_with (first|(go_at_call 49;refine(F.out _ d.out).mono ?_;rintro e z ⟨rfl,t⟩;have p:Hid (Gr W z):=t;clear t;obtain⟨⟨k0,k1,k2,k3⟩,⟨l0,l1,l2,l3⟩,m0,m1⟩:=K.out z p.out)|(go_at_call 52;(with_reducible refine(I.out _ (d.out.trans p.out)).mono ?_);rintro e H ⟨A,n,c,rfl,y,C⟩;have B:Hid (Gr W H):=p.out.trans C;have HO:=dJ y;clear C y;obtain⟨⟨i0,i1,i2,i3⟩,⟨j0,j1,j2,j3⟩,n0,n1⟩:=K.out H B.out)|(go_at_call 52;(with_reducible refine(J.out _ (d.out.trans B.out)).mono ?_);rintro e w3 ⟨⟨A',n',c',rfl,D⟩,Z⟩;have L:=dJ D;clear D))
   go_ret3
   exact⟨⟨A,n,c,A',n',c',by rw[l.out];rfl,fun E=>⟨HO.out.gr Z,L.out (l.out ▸ E)⟩⟩,d.out.trans (B.out.trans Z)⟩
  ·have q1:(E7 f i != 0)=true:=by simp[m]
   have l:Hid (Fa f g i=E7 f i):=by show _=_;rw[r.out,yt (by simp[j]),yr m]
   have H1:Hid (E7 f i≠0):=m;clear r j m J
   go_enter func40, ntmps40
   go_wp2_with (first|(go_at_call 49;refine(F.out _ d.out).mono ?_;rintro e z ⟨rfl,t⟩;have p:Hid (Gr W z):=t;clear t;obtain⟨⟨k0,k1,k2,k3⟩,⟨l0,l1,l2,l3⟩,m0,m1⟩:=K.out z p.out)|(go_at_call 52;refine(G.out _ (d.out.trans p.out)).mono ?_;rintro e H ⟨⟨A,n,c,rfl,y⟩,C⟩;have B:Hid (Gr W H):=p.out.trans C;clear C y))
   go_ret3
   exact⟨⟨none,0,0,none,0,0,by rw[l.out];rfl,fun E=>absurd (l.out ▸ E) H1.out⟩,d.out.trans B.out⟩
 ·have q0:(X != 0)=true:=by simp[j]
  have l:Hid (Fa f g i=X):=by show _=_;rw[r.out,yr j]
  have H0:Hid (X≠0):=j;clear r j G J
  go_enter func40, ntmps40
  go_wp2_with (go_at_call 49;refine(F.out _ d.out).mono ?_;rintro e z ⟨rfl,t⟩)
  go_ret3
  exact⟨⟨none,0,0,none,0,0,by rw[l.out];rfl,fun E=>absurd (l.out ▸ E) H0.out⟩,d.out.trans t⟩
def atV (f g:Fn)(i:CG):Value:=.tuple #[.bool (if Fa f g i=0 then Lq f g i else false),.int .i64 (Fa f g i)]
theorem wt {va:Value}{g:Fn}{i:CG}(h:Arg3 w vf vg va vm f g i)(hnf:gT f)(hng:gT g)(hif:Hh f)(hig:Hh g) :
  Calls prog 18 #[vf,vg,.agg #[va,vm]] w (RG (atV f g i) w):=by
 have G:Hid (∀u,Gr w u->Calls prog 40 #[vf,vg,.agg #[va,vm]] u fun e w'=>uK f g i e w'/\Gr u w'):=fun u q=>nI (h.gr q) hnf hng hif hig;obtain⟨⟨vp,vs,vb,rfl,hp,M,hb⟩,⟨up,us,ub,rfl,gp,L,gb⟩,⟨ha,hm,-⟩⟩:=h;obtain⟨Q,cp,rfl,-⟩:=hp;obtain⟨R,cs,rfl,-⟩:=M;obtain⟨O,cb,rfl,-⟩:=hb;obtain⟨X,dp,rfl,-⟩:=gp;obtain⟨Y,ds,rfl,-⟩:=L;obtain⟨U,db,rfl,-⟩:=gb;obtain⟨N,ca,rfl,-⟩:=ha;obtain⟨Am,cm,rfl,-⟩:=hm;obtain⟨W,hW⟩:=xJ (((w.alloc (.cells #[.slice Q f.p.length cp,.int .i64 f.ret,.slice R f.s.length cs,.slice O f.b.length cb] 36)).alloc (.cells #[.slice X g.p.length dp,.int .i64 g.ret,.slice Y g.s.length ds,.slice U g.b.length db] 36)).alloc (.cells #[.slice N i.args.length ca,.slice Am i.mem.length cm] 41));obtain⟨hG,hK⟩:=uS hW;have D:=dJ hG;obtain⟨⟨k0,k1,k2,k3⟩,⟨l0,l1,l2,l3⟩,m0,m1⟩:=hK W (yO W);clear hG hK;by_cases j:Fa f g i=0
 ·have H:Hid (∀u,Gr w u->Calls prog 40 #[.agg #[.slice Q f.p.length cp,.int .i64 f.ret,.slice R f.s.length cs,.slice O f.b.length cb],.agg #[.slice X g.p.length dp,.int .i64 g.ret,.slice Y g.s.length ds,.slice U g.b.length db],.agg #[.slice N i.args.length ca,.slice Am i.mem.length cm]] u fun e w'=>∃A n c t z y,e=.returned (.tuple #[.slice A n c,.slice t z y,.int .i64 0])/\OL w'.heap.size w' (.slice A n c) (EZ f i)/\OL w'.heap.size w' (.slice t z y) (EZ g i)/\Gr u w'):=fun u q=>(G.out u q).mono fun e w' ⟨⟨A,n,c,t,z,y,he,p⟩,g'⟩=>⟨A,n,c,t,z,y,by rw[j]at he;exact he,(p j).1,(p j).2,g'⟩;have m:Hid (atV f g i=.tuple #[.bool (Lq f g i),.int .i64 0]):=by show _=_;unfold atV;rw[j];rfl
  obtain⟨b1,d⟩:=xJ (Lq f g i);obtain⟨b2,r⟩:=xJ (Lq g f i);have J:Hid (FY (EZ f i) (EZ g i)=b1):=d;have K:Hid (FY (EZ g i) (EZ f i)=b2):=r
  first|rw[d,r]at m|rw[d]at m
  clear G j d r;cases b1
  all_goals
   go_enter func18, ntmps18
   go_wp2_with (first|(go_at_call 40;refine(H.out _ D.out).mono ?_;rintro e w1 ⟨A,n,c,t,z,y,rfl,p,C,E⟩;have G1:Hid (Gr W w1):=E;have Z:=dJ p;have B:=dJ C;clear E p C;have S:=dJ (eD Z.out B.out);rw[J.out]at S;have l:=trivial)|(have _t:=l;go_at_call 14;(with_reducible refine S.out.mono ?_);rintro e w2 ⟨rfl,F⟩;have I:Hid (Gr W w2):=G1.out.trans F;clear l;have T:=dJ (eD (B.out.gr F) (Z.out.gr F));rw[K.out]at T;clear F)|(go_at_call 14;(with_reducible refine T.out.mono ?_);rintro e w3 ⟨rfl,g3⟩;have I:Hid (Gr W w3):=I.out.trans g3;clear g3))
   go_ret2;exact⟨dv (by rw[m.out];try simp),D.out.trans I.out⟩
 ·have q1:(Fa f g i != 0)=true:=by simp[j]
  have HR:Hid (atV f g i=.tuple #[.bool false,.int .i64 (Fa f g i)]):=by show _=_;unfold atV;rw[yt j]
  clear j
  go_enter func18, ntmps18
  go_wp2_with (go_at_call 40;refine(G.out _ D.out).mono ?_;rintro e w1 ⟨⟨A,n,c,t,z,y,rfl,p⟩,E⟩;clear p);go_ret2;exact⟨dv HR.out.symm,D.out.trans E⟩
theorem wE {os:List zO}(h:OL w.heap.size w (.slice A n c) os):∀(i:Nat)(o:zO),os[i]?=some o->∃b off Am cm,A=some ⟨b,off,none⟩/\∀u,Gr w u ->
  (u.cell? ⟨b,off+i*5,none⟩=some (.int .i64 o.kind)/\u.cell? ⟨b,off+i*5+1,none⟩=some (.bool o.ret.p)/\u.cell? ⟨b,off+i*5+2,none⟩=some (.int .i64 o.ret.s)/\u.cell? ⟨b,off+i*5+3,none⟩=some (.int .u32 o.ret.n)/\u.cell? ⟨b,off+i*5+4,none⟩=some (.slice Am o.mem.length cm))/\TabAt u.heap.size u (.slice Am o.mem.length cm) o.mem:=by
 obtain⟨D,E,e,H,I,q⟩:=h;injection e with m F G;subst m;intro i o j;obtain⟨b,off,rfl,d,r⟩:=q (by have:=(xS.1 j).1;omega);obtain⟨vm,t,y,z,B,C,l⟩:=r i o j;obtain⟨Am,cm,rfl,-⟩:=id l;exact⟨b,off,Am,cm,rfl,fun u g=>⟨⟨(g.cell _ _ d).trans t,(g.cell _ _ d).trans y,(g.cell _ _ d).trans z,(g.cell _ _ d).trans B,(g.cell _ _ d).trans C⟩,l.gr g⟩⟩
end
section
open Go.RowKit Go.Shelf
theorem sH {o:zO}(hm:TabAt w.heap.size w vm o.mem):Calls prog 55 #[eW o vm] w (RG (.bool (pS o)) w):=by
 obtain⟨W,I⟩:=xJ (fO w o vm);have M:Gr w W:=by rw[<-I];exact(yO w).alloc _
 have Q:Hid (∀u,Gr W u->u.cell? ⟨w.heap.size,4,none⟩=some vm):=fun u g=>(dz (w:=w) (o:=o) (vm:=vm) (w':=u) (by rw[I];exact g)).2.2.2.2;obtain⟨a0,a1,a2,a3,a4⟩:=dz (w:=w) (o:=o) (vm:=vm) (w':=W) (by rw[I];exact yO _);have Z:=dJ (hm.gr M);have H:=dJ M;have ac:o.mem.length<=17592186044416:=by obtain⟨_,_,e,_,h2,_⟩:=hm;exact h2
 have B:Hid (pS o=(decide (o.kind=0) && !o.ret.p && Ht o.mem)):=by show _=_;rfl
 obtain⟨A,c,rfl,-⟩:=id hm;have HT:=dJ (mg Z.out);have T:(o.mem.length:Int)<=17592186044416:=by omega
 obtain⟨R,m⟩:=xJ (pS o);rw[m]at B ⊢;obtain⟨ok,⟨op,os,on⟩,d⟩:=o;clear hm M m;unfold fO at I;unfold eW;dsimp only at *;by_cases C:ok=0
 ·have U:(ok != 0)=false:=by simp[C]
  cases op with
  | true =>
   have q:Hid (R=false):=by show _=_;rw[B.out];simp
   clear C B
   go_enter func55, ntmps55
   go_wp2;go_ret;exact⟨cZ q.out.symm,H.out⟩
  | false =>
   have q:Hid (R=Ht d):=by show _=_;rw[B.out];simp[C]
   clear C B
   go_enter func55, ntmps55
   go_wp2;clear a0 a1 a2 a3 a4 U
   go_loopw [3,4] (fun s _ wr=>∃k:Nat,k<=d.length/\s=.int .i64 (k:Int)/\Hid (R=Ht (d.drop k))/\Hid (Gr W wr)) (fun s _ _=>d.length-(intOf s).toNat)
   case atStart=>exact⟨0,yI _,rfl,q.out,yO _⟩
   case round =>
    obtain⟨k,S,rfl,m,t⟩:=hrel;have X:=Q.out wr t.out;by_cases l:k<d.length
    ·obtain⟨r,N⟩:∃r,d[k]?=some r:=⟨_,xR l⟩;obtain⟨b,off,Ax,cx,rfl,ad,F,G⟩:=HT.out k r N;have K:=dJ F;have L:=dJ G;have HS:Hid (R=(Iz r && Ht (d.drop (k+1)))):=by show _=_;rw[m.out,MZ N]
     have ab:(k:Int)<(d.length:Int):=by omega
     have D:Hid (k<d.length):=l;have Y:=t;clear N F G l S m t;go_wp2;clear X
     go_loopw [4] (fun s w2=>∃j:Nat,j<=r.length/\s=.int .i64 (j:Int)/\Hid (R=(Iz (r.drop j) && Ht (d.drop (k+1))))/\Hid (Gr W w2)) (fun s _=>r.length-(intOf s).toNat)
     case atStart=>exact⟨0,yI _,rfl,HS.out,Y⟩
     case round=>as_aux_lemma =>
      obtain⟨j,hj,rfl,m,t⟩:=hrel;have X:=Q.out wr t.out;have x5:=K.out wr t.out;by_cases l:j<r.length
      ·obtain⟨z,O⟩:∃z,r[j]?=some z:=⟨_,xR l⟩;obtain⟨bx,ox,rfl,E⟩:=L.out j z O;have x6:=E wr t.out;have y:Hid (R=((decide (0<=z) && Iz (r.drop (j+1))) && Ht (d.drop (k+1)))):=by show _=_;rw[m.out,Mc O]
       have aa:(j:Int)<(r.length:Int):=by omega
       clear O E m;by_cases hn:z<0
       ·have q:Hid (R=false):=by show _=_;rw[y.out,decide_eq_false (by omega)];rfl
        clear y;go_wp2;go_ret;exact⟨cZ q.out.symm,H.out.trans t.out⟩
       ·have q:Hid (R=(Iz (r.drop (j+1)) && Ht (d.drop (k+1)))):=by show _=_;rw[y.out,decide_eq_true (by omega),Bool.true_and]
        clear y;go_wp2;exact⟨⟨j+1,by omega,by go_num,q.out,t⟩,by simp[intOf];omega⟩
      ·obtain rfl:j=r.length:=by omega
       have q:Hid (R=Ht (d.drop (k+1))):=by show _=_;rw[m.out,List.drop_length];rfl
       clear m;go_wp2;exact⟨⟨k+1,D.out,by go_num,q.out,t⟩,by have:=D.out;simp[intOf];omega⟩
    ·obtain rfl:k=d.length:=by omega
     have J:Hid (R=true):=by show _=_;rw[m.out,List.drop_length];rfl
     clear m l S;go_wp2;go_ret;exact⟨cZ J.out.symm,H.out.trans t.out⟩
 ·have U:(ok != 0)=true:=by simp[C]
  have q:Hid (R=false):=by show _=_;rw[B.out];simp[C]
  clear C B
  go_enter func55, ntmps55
  go_wp2;go_ret;exact⟨cZ q.out.symm,H.out⟩
namespace Rf
def JD (m:Int):List zO->Int
 | []=>m
 | o::r=>JD (max m (Fq o)) r
theorem LM {l:List zO}{o:zO}(h:l[k]?=some o):JD m (l.drop k)=JD (max m (Fq o)) (l.drop (k+1)):=by obtain⟨d,g⟩:=xS.1 h;rw[yg d,g];rfl
theorem LN (o:zO):0<=Fq o/\Fq o<=2:=by unfold Fq;repeat (first|decide|split)
theorem Md {o:zO}(h:∀r∈o.mem,∀b∈r,-1<=b)(hk:o.kind≠1):Fq o=if pS o=true then 0 else 1:=by
 have g:pS o=(decide (o.kind=0) && !o.ret.p && Ht o.mem):=rfl;have j:Fq o=if o.kind=1 then 2 else if o.kind≠0\/o.ret.p=true then 1 else if JJ o.mem=true then 1 else 0:=rfl
 rw[j,yt hk,g,LL _ h];by_cases d:o.kind=0<;>cases o.ret.p<;>cases JJ o.mem<;>simp[d]
end Rf
def gR (f:Fn)(i:CG):Int:=if mL f i=0 then JD 0 (fq f i) else 0
theorem sU (hfn:FnAt w.heap.size w vf f)(hnice:gT f)(him:Hh f){i:CG}{va:Value}(hi:InpAt w.heap.size w va vm i) :
  Calls prog 30 #[vf,.agg #[va,vm]] w (RG (.tuple #[.int .i64 (gR f i),.int .i64 (mL f i)]) w):=by
 have O:Hid (∀y,Gr w y->Calls prog 52 #[vf,.agg #[va,vm]] y fun e w'=>(∃A c,e=.returned (.tuple #[.slice A (fq f i).length c,.int .i64 (mL f i)])/\OL w'.heap.size w' (.slice A (fq f i).length c) (fq f i))/\Gr y w'):=fun y g=>by have t:=hi.gr g;refine(qm (hfn.gr g) hnice him t.1 t.2.1 t.2.2).mono fun e w' ⟨h,g'⟩=>⟨?_,g'⟩;obtain⟨A,c,D,ad,he,j⟩:=h.row;exact⟨A,c,he,j.ol (by have:=@gM f i;omega)⟩
 have Z:=@gM f i;have B:Hid (gR f i=if mL f i=0 then JD 0 (fq f i) else 0):=by show _=_;rfl
 obtain⟨d,L⟩:=xJ (fq f i);obtain⟨E,K⟩:=xJ (mL f i);obtain⟨R,Y⟩:=xJ (gR f i);rw[L,K]at O;rw[L]at Z;rw[L,K,Y]at B;rw[K,Y];obtain⟨vp,vs,vb,rfl,hp,hs,hb⟩:=hfn;obtain⟨Ap,cp,rfl,-⟩:=hp;obtain⟨As,cs,rfl,-⟩:=hs;obtain⟨Ab,cb,rfl,-⟩:=hb;obtain⟨Aa,ca,rfl,-⟩:=id hi.1;obtain⟨Am,cm,rfl,-⟩:=id hi.2.1;obtain⟨W,hW⟩:=xJ ((w.alloc (.cells #[.slice Ap f.p.length cp,.int .i64 f.ret,.slice As f.s.length cs,.slice Ab f.b.length cb] 36)).alloc (.cells #[.slice Aa i.args.length ca,.slice Am i.mem.length cm] 41));obtain⟨g0,-,G⟩:=nN hW;obtain⟨k0,k1,k2,k3,k4,k5⟩:=G W (yO _);have J:=dJ g0;clear hnice him hi L K Y g0 G;by_cases r:E=0
 ·have q0:(E != 0)=false:=by simp[r]
  have U:Hid (R=JD 0 d):=by show _=_;rw[B.out,yr r]
  have S:Hid (E=0):=r;clear B r
  go_enter func30, ntmps30
  go_wp2_with (go_at_call 52;refine(O.out _ J.out).mono ?_;rintro e y ⟨⟨A,c,rfl,j⟩,F⟩;have q:=dJ (J.out.trans F);have HO:=dJ (wE j);clear j F k0 k1 k2 k3 k4 k5)
  go_loopw [8,10,22] (fun s8 _ u wr=>∃(k:Nat)(m:Int),k<=d.length/\u=.int .i64 (k:Int)/\s8=.int .i64 m/\0<=m/\m<=2/\Hid (R=JD m (d.drop k))/\Hid (Gr y wr)) (fun _ _ u _=>d.length-(intOf u).toNat)
  case atStart=>exact⟨0,0,yI _,rfl,rfl,Int.le_refl _,by decide,U.out,yO _⟩
  case round =>
   obtain⟨k,m,hk,rfl,rfl,ab,ac,M,N⟩:=hrel;by_cases l:k<d.length
   ·obtain⟨o,j⟩:∃o,d[k]?=some o:=⟨_,xR l⟩;obtain⟨b,off,Ay,cy,rfl,hc⟩:=HO.out k o j;obtain⟨⟨c0,c1,c2,c3,c4⟩,ht⟩:=hc wr N.out;obtain⟨wa,I⟩:=xJ (wr.alloc (.cells #[.int .i64 o.kind,.bool o.ret.p,.int .i64 o.ret.s,.int .u32 o.ret.n,.slice Ay o.mem.length cy] 27));have X:Gr wr wa:=by rw[<-I];exact(yO _).alloc _
    have H:wa.heap[wr.heap.size]?=some (.cells #[.int .i64 o.kind,.bool o.ret.p,.int .i64 o.ret.s,.int .u32 o.ret.n,.slice Ay o.mem.length cy] 27 (0,0)):=by rw[<-I];exact heap_alloc_new _ _
    obtain⟨x0,x1,x2,x3,x4⟩:=crw5 H 0 1 2 3 4;have Q:=dJ (sV (o:=o) (ht.gr X));have GA:=dJ (N.out.trans X);have C:Hid (R=JD (max m (Fq o)) (d.drop (k+1))):=by show _=_;rw[M.out,LM j]
    obtain⟨u0,u2⟩:=LN o;obtain⟨v,hv⟩:=xJ (Fq o);rw[hv]at Q C u0 u2;unfold eW at Q;have aa:(k:Int)<(d.length:Int):=by omega
    have z:Hid (k<d.length):=l;clear j hc ht H X hv M l hk N;go_wp2_with (go_at_call 53;refine Q.out.mono ?_;rintro e w2 ⟨rfl,g2⟩;have G2:=dJ (GA.out.trans g2);clear g2);exact⟨⟨k+1,_,z.out,by go_num,rfl,by omega,by omega,C.out,G2⟩,by have:=z.out;simp[intOf];omega⟩
   ·obtain rfl:k=d.length:=by omega
    have T:Hid (R=m):=by show _=_;rw[M.out,List.drop_length];rfl
    clear M l hk;go_wp2;go_ret2;exact⟨by rw[T.out,S.out];rfl,q.out.trans N.out⟩
 ·have q0:(E != 0)=true:=by simp[r]
  have U:Hid (R=0):=by show _=_;rw[B.out,yt r]
  clear B r
  go_enter func30, ntmps30
  go_wp2_with (go_at_call 52;refine(O.out _ J.out).mono ?_;rintro e y ⟨⟨A,c,rfl,j⟩,F⟩;have q:=dJ (J.out.trans F);clear j F);go_ret2;exact⟨by rw[U.out];rfl,q.out⟩
theorem nl (hfn:FnAt w.heap.size w vf f)(hnice:gT f)(him:Hh f){i:CG}{va:Value}(hi:InpAt w.heap.size w va vm i)(hnn:∀a∈i.args,0<=a/\a<4294967296) :
  Calls prog 31 #[vf,.agg #[va,vm]] w (RG (.tuple #[.int .i64 (gR f i),.int .i64 (mL f i)]) w):=by
 have CA:Hid (∀p,Gr w p->Calls prog 54 #[vf,.agg #[va,vm]] p fun e w'=>(∃A c,e=.returned (.tuple #[.slice A (fq f i).length c,.int .i64 (mL f i)])/\OL w'.heap.size w' (.slice A (fq f i).length c) (fq f i))/\Gr p w'):=fun p g=>by have U:=hi.gr g;refine(tu (hfn.gr g) hnice him U.1 U.2.1 hnn).mono fun e w' ⟨h,g'⟩=>⟨?_,g'⟩;obtain⟨A,c,D,ag,he,u⟩:=h.row;exact⟨A,c,he,u.ol (by have:=@gM f i;omega)⟩
 have X:Hid (∀p,Gr w p->Calls prog 27 #[vf,.agg #[va,vm]] p (RG (.int .i64 (AB f i)) p)):=fun p g=>iS (hfn.gr g) hnice (hi.gr g).1 (hi.gr g).2.1 hnn;have ac:=@gM f i;have M:=dJ (ue him fun a h=>(hnn a h).1);have I:Hid (gR f i=if mL f i=0 then JD 0 (fq f i) else 0):=by show _=_;rfl
 have z:Hid (mL f i=if AB f i=0 then (if Rn.all f i=none then 3 else 0) else AB f i):=by show _=_;rfl
 obtain⟨d,hO⟩:=xJ (fq f i);obtain⟨E,S⟩:=xJ (mL f i);obtain⟨R,hR⟩:=xJ (gR f i);obtain⟨V,hV⟩:=xJ (AB f i);rw[hO,S]at CA;rw[hV]at X;rw[S,hV]at z;rw[hO]at ac M;rw[hO,S,hR]at I;rw[S,hR];obtain⟨vp,vs,vb,rfl,hp,hs,hb⟩:=hfn;obtain⟨Ap,cp,rfl,-⟩:=hp;obtain⟨As,cs,rfl,-⟩:=hs;obtain⟨Ab,cb,rfl,-⟩:=hb;obtain⟨Aa,ca,rfl,-⟩:=id hi.1;obtain⟨Am,cm,rfl,-⟩:=id hi.2.1;obtain⟨W,hW⟩:=xJ ((w.alloc (.cells #[.slice Ap f.p.length cp,.int .i64 f.ret,.slice As f.s.length cs,.slice Ab f.b.length cb] 36)).alloc (.cells #[.slice Aa i.args.length ca,.slice Am i.mem.length cm] 41));obtain⟨y,-,K⟩:=nN hW;have HK:=dJ K;obtain⟨k0,k1,k2,k3,k4,k5⟩:=K W (yO _);have F:=dJ y;clear hnice him hi hnn hO S hR hV y K;by_cases hv:V=0
 ·have v0:(V != 0)=false:=by simp[hv]
  clear hv z;by_cases J:E=0
  ·have q0:(E != 0)=false:=by simp[J]
   have N:Hid (R=JD 0 d):=by show _=_;rw[I.out,yr J]
   have aa:Hid (E=0):=J;clear I J
   go_enter func31, ntmps31
   go_wp2_with (first|(go_at_call 27;refine(X.out _ F.out).mono ?_;rintro e w0 ⟨rfl,y⟩;have G:Hid (Gr W w0):=y;clear y;obtain⟨k0,k1,k2,k3,k4,k5⟩:=HK.out w0 G.out)|(go_at_call 54;refine(CA.out _ (F.out.trans G.out)).mono ?_;rintro e p ⟨⟨A,c,rfl,u⟩,O⟩;have H:=dJ ((F.out.trans G.out).trans O);have HO:=dJ (wE u);clear u O k0 k1 k2 k3 k4 k5))
   go_loopw [8,9] (fun s8 s9 wr=>∃(k:Nat)(m:Int),k<=d.length/\s9=.int .i64 (k:Int)/\s8=.int .i64 m/\0<=m/\m<=2/\Hid (R=JD m (d.drop k))/\Hid (Gr p wr)) (fun _ s9 _=>d.length-(intOf s9).toNat)
   case atStart=>exact⟨0,0,yI _,rfl,rfl,Int.le_refl _,by decide,N.out,yO _⟩
   case round =>
    obtain⟨k,m,hk,rfl,rfl,ad,ae,hS,T⟩:=hrel;by_cases C:k<d.length
    ·obtain⟨o,u⟩:∃o,d[k]?=some o:=⟨_,xR C⟩;obtain⟨b,off,Ay,cy,rfl,hc⟩:=HO.out k o u;obtain⟨⟨c0,c1,c2,c3,c4⟩,ht⟩:=hc wr T.out;have Y:=dJ (sH (o:=o) ht);have j:Hid (R=JD (max m (Fq o)) (d.drop (k+1))):=by show _=_;rw[hS.out,LM u]
     have t:=dJ (Md (o:=o) (M.out o (xT u)).2);have B:Hid (o.kind=1->Fq o=2):=fun q=>by unfold Fq;rw[yr q]
     obtain⟨v,hv⟩:=xJ (Fq o);obtain⟨s,hs⟩:=xJ (pS o);rw[hv]at j t B;rw[hs]at Y t;unfold eW at Y;have af:(k:Int)<(d.length:Int):=by omega
     have l:Hid (k<d.length):=C;clear u hc ht hv hs hS C hk;by_cases L:o.kind=1
     ·have n1:(o.kind == 1)=true:=by simp[L]
      have r:Hid (R=JD 2 (d.drop (k+1))):=by show _=_;rw[j.out,B.out L,show max m 2=2 by omega]
      clear j t B L;go_wp2;exact⟨⟨k+1,_,l.out,by go_num,rfl,by decide,by decide,r.out,T⟩,by have:=l.out;simp[intOf];omega⟩
     ·have n1:(o.kind == 1)=false:=by simp[L]
      have Z:=dJ (t.out L);clear t B L
      cases s with
      | true =>
       have r:Hid (R=JD m (d.drop (k+1))):=by show _=_;rw[j.out,Z.out,yr rfl,show max m 0=m by omega]
       clear j Z;go_wp2_with (go_at_call 55;refine Y.out.mono ?_;rintro e w2 ⟨rfl,Q⟩;have G2:=dJ (T.out.trans Q);clear Q);exact⟨⟨k+1,_,l.out,by go_num,rfl,ad,ae,r.out,G2⟩,by have:=l.out;simp[intOf];omega⟩
      | false =>
       have r:Hid (R=JD (max m 1) (d.drop (k+1))):=by show _=_;rw[j.out,Z.out,yt (by simp)]
       clear j Z;go_wp2_with (go_at_call 55;refine Y.out.mono ?_;rintro e w2 ⟨rfl,Q⟩;have G2:=dJ (T.out.trans Q);clear Q);exact⟨⟨k+1,_,l.out,by go_num,rfl,by omega,by omega,r.out,G2⟩,by have:=l.out;simp[intOf];omega⟩
    ·obtain rfl:k=d.length:=by omega
     have ab:Hid (R=m):=by show _=_;rw[hS.out,List.drop_length];rfl
     clear hS C hk;go_wp2;go_ret2;exact⟨by rw[ab.out,aa.out];rfl,H.out.trans T.out⟩
  ·have q0:(E != 0)=true:=by simp[J]
   have N:Hid (R=0):=by show _=_;rw[I.out,yt J]
   clear I J
   go_enter func31, ntmps31
   go_wp2_with (first|(go_at_call 27;refine(X.out _ F.out).mono ?_;rintro e w0 ⟨rfl,y⟩;have G:Hid (Gr W w0):=y;clear y;obtain⟨k0,k1,k2,k3,k4,k5⟩:=HK.out w0 G.out)|(go_at_call 54;refine(CA.out _ (F.out.trans G.out)).mono ?_;rintro e p ⟨⟨A,c,rfl,u⟩,O⟩;have H:=dJ ((F.out.trans G.out).trans O);clear u O))
   go_ret2;exact⟨by rw[N.out];rfl,H.out⟩
 ·have v0:(V != 0)=true:=by simp[hv]
  have HE:Hid (E=V):=by show _=_;rw[z.out,yt hv]
  have N:Hid (R=0):=by show _=_;rw[I.out,HE.out,yt hv]
  clear I z hv
  go_enter func31, ntmps31
  go_wp2_with (go_at_call 27;refine(X.out _ F.out).mono ?_;rintro e w0 ⟨rfl,y⟩);go_ret2;exact⟨by rw[N.out,HE.out];rfl,F.out.trans y⟩
end
section
open Go.RowKit
theorem nR (h0:-9223372036854775808<=z)(h1:z<=9223372036854775807):IntKind.i64.wrap z=z:=IntWalk.i64_in z ⟨h0,h1⟩
theorem mb {n:Int}(h0:0<=n)(h1:n<=32):wrap64 (2 ^ n.toNat)=m9 n:=by
 unfold m9
 have d:(2:Int) ^ n.toNat<=2 ^ 32:=by
  have:=Nat.pow_le_pow_right (n:=2) (by decide) (show n.toNat<=32 by omega)
  exact_mod_cast this
 have g:(0:Int)<2 ^ n.toNat:=Int.pow_pos (by decide);have j:(2:Int) ^ 32=4294967296:=by decide
 generalize (2:Int) ^ n.toNat=y at *;unfold wrap64;omega
namespace Rf
theorem LO (l:List Int)(z:Int):BB (l++[z])=BB l+z:=by
 induction l with
 | nil=>simp[BB]
 | cons a r ih=>rw[List.cons_append,BB,BB,ih];omega
theorem JK (h:∀z∈l,0<=z/\z<=32):0<=BB l/\BB l<=32*l.length:=by
 induction l with
 | nil=>simp[BB]
 | cons a r ih =>
  have:=ih fun z hz=>h z (by simp[hz]);have:=h a (by simp);rw[BB,List.length_cons];omega
theorem GP (h:zL f=0):f.p.length<=3/\(∀z∈f.p,0<=z/\z<=32)/\f.s.length<=2/\∀z∈f.s,0<=z/\z<=8:=by
 have hv:=(Jt f).1 h;refine⟨hv.size.1,fun z d=>?_,hv.size.2.1,fun z d=>?_⟩
 ·have:=ym.1 hv.head.1 z d;unfold yS at this;simp only[yu,decide_eq_true_eq]at this;omega
 ·have:=ym.1 hv.head.2 z d;unfold BH at this;simp only[yu,decide_eq_true_eq]at this;omega
end Rf
theorem jJ (hf:FnAt w.heap.size w vf f)(hl:f.p.length<=3)(hz:∀z∈f.p,0<=z/\z<=32) :
  Calls prog 43 #[vf] w (RG (.int .i64 (BB f.p)) w):=by
 obtain⟨vp,vs,vb,rfl,L,q,I⟩:=hf;obtain⟨D,H,rfl,Q,R,r⟩:=L;obtain⟨E,cs,rfl,-⟩:=q;obtain⟨C,G,rfl,-⟩:=I;have u:=dJ hz;have F:Hid (Gr w (w.alloc (.cells #[.slice D f.p.length H,.int .i64 f.ret,.slice E f.s.length cs,.slice C f.b.length G] 36))):=(yO w).alloc _;clear hz
 go_enter func43, ntmps43
 go_wp2
 go_loopw [3,5,9] (fun s _ i wr=>∃k:Nat,k<=f.p.length/\i=.int .i64 k/\s=.int .i64 (BB (f.p.take k))/\Hid (Gr w wr)) (fun _ _ i _=>f.p.length-(intOf i).toNat)
 case atStart=>exact⟨0,yI _,rfl,rfl,F.out⟩
 case round =>
  obtain⟨k,O,rfl,rfl,j⟩:=hrel;by_cases p:k<f.p.length
  ·obtain⟨b,off,rfl,g,A⟩:=r (by omega);obtain⟨z,hz⟩:∃z,f.p[k]?=some z:=⟨_,xR p⟩;have N:=(j.out.cell _ _ g).trans (A k z hz);have d:=JK (l:=f.p.take k) fun y hy=>u.out y (List.mem_of_mem_take hy);have M:=u.out z (xT hz);have t:Hid (BB (f.p.take (k+1))=BB (f.p.take k)+z):=by show _=_;rw[List.take_add_one,hz];exact LO _ _
   have m:(f.p.take k).length<=3:=by simp;omega
   obtain⟨n,B⟩:=xJ (BB (f.p.take k));rw[B]at d t ⊢;have K:n<=96:=by omega
   have J:=d.1;clear d B hz A r m;go_wp2;go_roundw;case rel=>exact⟨k+1,by omega,by go_num,by rw[t.out],j⟩
   case measure=>simp[intOf];omega
  ·obtain rfl:k=f.p.length:=by omega
   clear r;go_wp2;go_ret;exact⟨dg (by rw[yv]),j.out⟩
def eG (f:Fn):Value:=.tuple #[.int .i64 (Gp f),.int .i64 (E2 f)]
theorem jR (hf:FnAt w.heap.size w vf f)(hn:gT f):Calls prog 22 #[vf] w (RG (eG f) w):=by
 have C:Hid (∀u,Gr w u->Calls prog 42 #[vf] u (RG (.int .i64 (zL f)) u)):=fun u q=>gK vf f u (hf.gr q) hn
 have D:Hid (zL f=0->∀u,Gr w u->Calls prog 43 #[vf] u (RG (.int .i64 (BB f.p)) u)):=fun h u q=>by obtain⟨N,O,-⟩:=GP h;exact jJ (hf.gr q) N O
 have E:Hid (zL f=0->0<=BB f.p/\BB f.p<=96):=fun h=>by obtain⟨N,O,-⟩:=GP h;have:=JK O;omega
 have A:Hid (eG f=.tuple #[.int .i64 (if (if zL f≠0 then zL f else if 8<BB f.p then 3 else 0)=0 then m9 (BB f.p) else 0),.int .i64 (if zL f≠0 then zL f else if 8<BB f.p then 3 else 0)]):=by show _=_;rfl
 obtain⟨vp,vs,vb,rfl,hp,U,Q⟩:=hf;obtain⟨Ap,cp,rfl,-⟩:=hp;obtain⟨As,cs,rfl,-⟩:=U;obtain⟨Ab,cb,rfl,-⟩:=Q;obtain⟨W,hW⟩:=xJ (w.alloc (.cells #[.slice Ap f.p.length cp,.int .i64 f.ret,.slice As f.s.length cs,.slice Ab f.b.length cb] 36));have m:Hid (Gr w W):=by show Gr _ _;rw[<-hW];exact(yO w).alloc _
 have K:Hid (∀u,Gr W u->FBox w.heap.size u f Ap As Ab cp cs cb):=fun u g=>by rw[<-hW]at g;exact FBox.new g rfl
 obtain⟨X,Y,Z,k3⟩:=K.out W (yO W);obtain⟨V,hV⟩:=xJ (zL f);obtain⟨n,I⟩:=xJ (BB f.p);rw[hV]at C D A E;rw[I]at D A E;clear hV I hn;by_cases G:V=0
 ·subst G;have M:=dJ (D.out rfl);have Q:=E.out rfl;obtain⟨R,aa⟩:=Q;have d:Hid (eG f=.tuple #[.int .i64 (if (if 8<n then (3:Int) else 0)=0 then m9 n else 0),.int .i64 (if 8<n then 3 else 0)]):=by show _=_;rw[A.out];simp
  clear D E A;by_cases y:32<n
  ·have p:Hid (eG f=.tuple #[.int .i64 0,.int .i64 3]):=by show _=_;rw[d.out];simp[show (8:Int)<n by omega]
   go_enter func22, ntmps22
   go_wp2_with (first|(go_at_call 42;refine(C.out _ m.out).mono ?_;rintro e t ⟨rfl,r⟩;have l:Hid (Gr W t):=r;clear r;obtain⟨X,Y,Z,k3⟩:=K.out t l.out)|(go_at_call 43;refine(M.out _ (m.out.trans l.out)).mono ?_;rintro e w2 ⟨rfl,F⟩))
   go_ret2;exact⟨dv (by rw[p.out];first|rfl|(rw[<-L];rfl)),m.out.trans (l.out.trans F)⟩
  ·have S:n<=32:=by omega
   have L:=mb R S;have J:=BC n
   have j:(256<m9 n)↔8<n:=by
    have e:(256:Int)=m9 8:=by decide
    unfold m9 at *;have e2:(256:Int)=2 ^ 8:=by decide
    rw[e2];constructor
    ·intro h;apply Classical.byContradiction;intro q;have:(2:Int) ^ n.toNat<=2 ^ 8:=by exact_mod_cast Nat.pow_le_pow_right (n:=2) (by decide) (show n.toNat<=8 by omega)
     omega
    ·intro h
     exact_mod_cast Nat.pow_lt_pow_right (a:=2) (by decide) (show 8<n.toNat by omega)
   obtain⟨s,z⟩:=xJ (m9 n);rw[z]at L d j J;by_cases B:8<n
   ·have H:256<s:=j.2 B;have p:Hid (eG f=.tuple #[.int .i64 0,.int .i64 3]):=by show _=_;rw[d.out];simp[B]
    have T:¬32<n:=y;clear j z d B
    go_enter func22, ntmps22
    go_wp2_with (first|(go_at_call 42;refine(C.out _ m.out).mono ?_;rintro e t ⟨rfl,r⟩;have l:Hid (Gr W t):=r;clear r;obtain⟨X,Y,Z,k3⟩:=K.out t l.out)|(go_at_call 43;refine(M.out _ (m.out.trans l.out)).mono ?_;rintro e w2 ⟨rfl,F⟩))
    go_ret2;exact⟨dv (by rw[p.out];first|rfl|(rw[<-L];rfl)),m.out.trans (l.out.trans F)⟩
   ·have H:¬256<s:=fun q=>B (j.1 q);have p:Hid (eG f=.tuple #[.int .i64 s,.int .i64 0]):=by show _=_;rw[d.out];simp[B]
    have T:¬32<n:=y;clear j z d B
    go_enter func22, ntmps22
    go_wp2_with (first|(go_at_call 42;refine(C.out _ m.out).mono ?_;rintro e t ⟨rfl,r⟩;have l:Hid (Gr W t):=r;clear r;obtain⟨X,Y,Z,k3⟩:=K.out t l.out)|(go_at_call 43;refine(M.out _ (m.out.trans l.out)).mono ?_;rintro e w2 ⟨rfl,F⟩))
    go_ret2;exact⟨dv (by rw[p.out];first|rfl|(rw[<-L];rfl)),m.out.trans (l.out.trans F)⟩
 ·have N:(V != 0)=true:=by simpa using G
  have d:Hid (eG f=.tuple #[.int .i64 0,.int .i64 V]):=by show _=_;rw[A.out,yr G,yt G]
  clear D E A G
  go_enter func22, ntmps22
  go_wp2_with (go_at_call 42;refine(C.out _ m.out).mono ?_;rintro e t ⟨rfl,r⟩);go_ret2;exact⟨dv d.out.symm,m.out.trans r⟩
namespace Rf
theorem Nz {n:Int}(hx:0<=x)(hx2:x<4294967296)(h0:0<=n)(h1:n<=32):bits .and .i64 x (m9 n-1)=x%m9 n:=by
 obtain⟨y,rfl⟩:=xZ hx;obtain⟨m,rfl⟩:=xZ h0;have g:m9 (m:Int)=((2 ^ m:Nat):Int):=by unfold m9;simp
 have l:2 ^ m<=4294967296:=by have:2 ^ m<=2 ^ 32:=Nat.pow_le_pow_right (by decide) (by omega);simpa using this
 have j:=Nat.two_pow_pos m;rw[g,show ((2 ^ m:Nat):Int)-1=((2 ^ m-1:Nat):Int) by omega]
 have d:∀z:Nat,z<4294967296->(BitVec.ofInt 64 (z:Int)).toNat=z:=fun z hz=>by rw[BitVec.toNat_ofInt];have:((z:Int)%((2 ^ 64:Nat):Int))=z:=Int.emod_eq_of_lt (by omega) (by simp;omega);rw[this];simp
 show IntKind.i64.wrap (((BitVec.ofInt 64 (y:Int) &&& BitVec.ofInt 64 ((2 ^ m-1:Nat):Int)).toNat:Nat):Int)=_;rw[BitVec.toNat_and,d _ (by omega),d _ (by omega),Nat.and_two_pow_sub_one_eq_mod,nR (by omega) (by have:=Nat.mod_le y (2 ^ m);omega)];simp
theorem Me (k:Int)(l:List Int)(i:Nat)(w:Int)(h:l[i]?=some w):((Gk k l).take (i+1))=(Gk k l).take i++[k / m9 (BB (l.drop (i+1)))%m9 w]:=by
 induction l generalizing i with
 | nil=>simp at h
 | cons a r ih =>
  cases i with
  | zero=>simp at h;subst h;simp[Gk]
  | succ i=>rw[Gk,yA,ih i (by simpa using h)];simp
theorem I6 (k:Int):∀l:List Int,(Gk k l).length=l.length
 | []=>rfl
 | w::r=>by rw[Gk,List.length_cons,I6 k r,List.length_cons]
theorem Lp:∀(l:List Int)(i:Nat),(∀z∈l,0<=z)->0<=BB (l.drop i)/\BB (l.drop i)<=BB l
 | [],i,_=>by simp[BB]
 | a::r,0,h=>⟨(KF _ h).1,Int.le_refl _⟩
 | a::r,i+1,h=>by
  have:=Lp r i fun z hz=>h z (by simp[hz])
  have:=h a (by simp);rw[yD,BB];omega
theorem M4 {w:Int}(h:l[i]?=some w):BB (l.drop i)=w+BB (l.drop (i+1)):=by obtain⟨d,g⟩:=xS.1 h;rw[yg d,g,BB]
end Rf
theorem pq (n:Nat):madeCells #[Value.int .i64 0] n=Array.replicate n (Value.int .i64 0):=by
 apply Array.ext_getElem?;intro i;rcases yw i n with h|h
 ·unfold madeCells;rw[Array.getElem?_map,Array.getElem?_range,yr h];simp[h,Nat.mod_one]
 ·rw[Array.getElem?_eq_none (by rw[size_madeCells];omega),Array.getElem?_eq_none (by simp;omega)]
theorem pr (w:World)(n:Nat)(hn:n<=1000):(Instr.makeSlice 33 (.int .i64 n) (.int .i64 n)).run prog w=.ok (.slice (some ⟨w.heap.size,0,none⟩) n n) (w.alloc (.cells (Array.replicate n (Value.int .i64 0)) 3)):=by obtain⟨m,g,j,d,l⟩:=info_parts dK;have:=run_makeSlice (P:=prog) (w:=w) 33 3 m _ underlying33 g j .i64 .i64 n n (by omega) (by omega) (by rw[d];omega) (by rw[l];omega) (by omega);rw[this,d];simp only[ya,Nat.mul_one];rw[show (Value.int IntKind.i64 0).cells=#[Value.int .i64 0] from rfl,pq]
structure AS (Bo:Nat)(W w:World)(zs:List Int)(A:Option Addr)(c:Nat):Prop where
 fr:FrS (·=Bo) W w
 st:w.heap[Bo]?=some (.cells #[.slice A zs.length c,.slice none 0 0] 41 (0,0))
 own:Own1 (Bo+1) 22 w (.slice A zs.length c) (zs.map (Value.int .u32))
section
variable {Bo c c2:Nat}{W w w1 w2:World}{zs:List Int}{A A2:Option Addr}{tmp:Obj}{z:Int}
theorem AS.grow (h:AS Bo W w zs A c)(g:Gr w w1):AS Bo W w1 zs A c where
 fr:=h.fr.trans (FrS.of_gr g)
 st:=(g.heap _ (cY h.st)).trans h.st
 own:=h.own.gr g
theorem AS.push (hW:W.heap.size=Bo+1)(h:AS Bo W w zs A c)(g1:Gr w w1)(hg:(w1.alloc tmp).grownBy w2 (Value.slice A zs.length c).ownBlock)(ho2:Own1 (Bo+1) 22 w2 (.slice A2 (zs.length+1) c2) (zs.map (Value.int .u32)++[.int .u32 z])) :
  (w2.cell? ⟨Bo,0,none⟩=some (.slice A zs.length c)/\w2.frozen? ⟨Bo,0,none⟩=false)/\AS Bo W (w2.setCell ⟨Bo,0,none⟩ (.slice A2 (zs.length+1) c2)) (zs++[z]) A2 c2:=by
 have j:=h.own.gr g1;have g:FrS (fun q=>(Value.slice A zs.length c).ownBlock=some q) w1 w2:=((FrS.refl _ w1).alloc tmp).grown hg (fun q d=>.inl d);have u:w.heap.size<=w1.heap.size:=g1.size;have t:W.heap.size<=w.heap.size:=h.fr.size;have l:=(g1.heap _ (cY h.st)).trans h.st;have m:w2.heap[Bo]?=some (.cells #[.slice A zs.length c,.slice none 0 0] 41 (0,0)):=(g.block _ (cY l) (fun q=>by have:=(di j q).1;omega)).trans l;refine⟨⟨yo _ _ 0 _ _ _ m,yp _ _ 0 _ _ m⟩,?_,?_,?_⟩
 ·have r:FrS (fun q=>(Value.slice A zs.length c).ownBlock=some q\/q=Bo) w1 (w2.setCell ⟨Bo,0,none⟩ (.slice A2 (zs.length+1) c2)):=(g.mono fun q d=>.inl d).setCell (p:=⟨Bo,0,none⟩) (.inr rfl) _;refine FrS.weaken (S:=fun q=>q=Bo\/W.heap.size<=q) ((h.fr.mono fun q d=>.inl d).trans ((FrS.of_gr g1).trans (r.mono fun q d=>?_))) fun q d e=>e.elim (fun e=>e) (fun e=>by omega);rcases d with e|e
  ·right;have:=(di j e).1;omega
  ·exact .inl e
 ·have:=cX (i:=0) (.slice A2 (zs.length+1) c2) m;rw[yK];exact this
 ·rw[yK,List.map_append];exact dm ho2 fun q d=>yy _ _ _ _ (by have:=(di ho2 d).1;show q≠Bo;omega)
end
theorem nx (w:World)(n:Nat)(hn:n<=1000):RowOf w.heap.size 3 ((w.alloc (.cells (Array.replicate n (Value.int .i64 0)) 3)).drew) (.slice (some ⟨w.heap.size,0,none⟩) n n) ((List.replicate n (0:Int)).map (Value.int .i64)):=by
 have hl:((List.replicate n (0:Int)).map (Value.int .i64)).length=n:=by simp
 refine⟨some ⟨w.heap.size,0,none⟩,n,by rw[hl],by rw[hl];exact yJ _,fun _=>?_⟩;have:=World.ownsRow_lit (base:=w.heap.size) (e:=3) (size:=1) w (Array.replicate n (Value.int .i64 0)) n (yJ _) (by simp only[maxLen];omega) (by simp);have d:=ec this ((yO _).drew);unfold Own1;rw[hl,List.map_replicate];simpa using d
theorem sD (w:World)(o:Obj):Value.slice (some ⟨w.heap.size+1,0,none⟩) 1 1=.slice (some ⟨((w.alloc o).drew).heap.size,0,none⟩) 1 1:=by have:((w.alloc o).drew).heap.size=w.heap.size+1:=World.size_alloc w o;rw[this]
structure MS (Bo:Nat)(V w:World)(zs:List Int)(A:Option Addr)(c:Nat)(mem:List (List Int))(q:Nat)(us:List Value)(A8:Option Addr)(c8:Nat):Prop where
 cs:CS Bo V w (.slice A zs.length c) mem q us A8 c8
 arg:Own1 (Bo+1) 22 w (.slice A zs.length c) (zs.map (Value.int .u32))
section
variable {Bo c q c8 c2:Nat}{W w w1 w2:World}{zs:List Int}{A A8 A2:Option Addr}{mem:List (List Int)}{us:List Value}{u:Value}{l:List Int}{tmp:Obj}
theorem MS.push (hW:W.heap.size=Bo+1)(h:MS Bo W w zs A c mem q us A8 c8)(hl:mem[q]?=some l)(g1:Gr w w1)(hu:RowOf w.heap.size 3 w1 u (l.map (Value.int .i64)))(hg:(w1.alloc tmp).grownBy w2 (Value.slice A8 q c8).ownBlock)(ho2:Own1 (Bo+1) 33 w2 (.slice A2 (q+1) c2) (us++[u])) :
  (w2.cell? ⟨Bo,1,none⟩=some (.slice A8 q c8)/\w2.frozen? ⟨Bo,1,none⟩=false)/\MS Bo W (w2.setCell ⟨Bo,1,none⟩ (.slice A2 (q+1) c2)) zs A c mem (q+1) (us++[u]) A2 c2:=by
 obtain⟨B,C⟩:=h.cs.push hW hl g1 hu hg ho2;refine⟨B,C,?_⟩;have m:=h.arg.gr g1;have g:=h.cs.own.gr g1;have d:FrS (fun p=>(Value.slice A8 q c8).ownBlock=some p) w1 w2:=((FrS.refl _ w1).alloc tmp).grown hg (fun p hp=>.inl hp);refine dm m fun k D=>?_;obtain⟨E,r,z,t⟩:=di m D;refine(yy _ _ _ _ (by show k≠Bo;omega)).trans (d.block _ r fun e=>?_);obtain⟨-,-,j,y⟩:=di g e;exact de t y (by decide) rfl
end
theorem rM (h:Own1 B 22 w v (p.map (Value.int .u32)))(hl:p.length<=1000):U32At w.heap.size w v p:=by obtain⟨A,c,rfl,d,-,-⟩:=dE h;have g:RowOf B 22 w (.slice A (p.map (Value.int .u32)).length c) (p.map (Value.int .u32)):=⟨A,c,rfl,d,fun _=>h⟩;have:=g.u32 (by omega);exact this
theorem ii (k:Int):∀(l:List Int)(a:Int),a∈Gk k l->0<=a
 | [],a,h=>by cases h
 | w::r,a,h=>by
  rw[Gk]at h
  rcases List.mem_cons.1 h with rfl|h
  ·exact Int.emod_nonneg _ (Int.ne_of_gt (BC w))
  ·exact ii k r a h
theorem rk (f:Fn)(k:Int)(hp:∀w∈f.p,0<=w):(BP f k).args=Gk k f.p:=by unfold BP;exact(LK k f.p hp).symm
theorem kW (z L:Int):z+L-z=L:=by omega
theorem tk {k L l s:Int}(hl:l=L)(hx:k / 2 ^ L.toNat=x)(hs:wrap64 (2 ^ z.toNat)=s)(hm:bits .and .i64 x (s-1)=y)(hs0:0<s)(hs1:s<=4294967296)(hy0:0<=y)(hy1:y<4294967296) :
  IntKind.u32.wrap (bits .and .i64 (k / 2 ^ l.toNat) (IntKind.i64.wrap (IntKind.i64.wrap (2 ^ z.toNat)-1)))=y:=by
 have d:IntKind.i64.wrap (s-1)=s-1:=by clear hx hs hm hl;exact nR (by omega) (by omega)
 have g:IntKind.u32.wrap y=y:=by clear hx hs hm hl hs0 hs1;exact IntWalk.u32_in y ⟨hy0,by omega⟩
 rw[hl,hx,IntWalk.i64_left (2 ^ z.toNat),hs,d,hm,g]
theorem sI {n:Int}(h0:0<=n)(h1:n<=32):m9 n<=4294967296:=by
 unfold m9
 have d:(2:Int) ^ n.toNat<=2 ^ 32:=by
  have:=Nat.pow_le_pow_right (n:=2) (by decide) (show n.toNat<=32 by omega)
  exact_mod_cast this
 have g:(2:Int) ^ 32=4294967296:=by decide
 omega
theorem rj (hf:FnAt w.heap.size w vf f)(hv:zL f=0)(hbt:BB f.p<=32)(hk:k<4294967296) :
  Calls prog 46 #[vf,.int .i64 k] w fun e w'=>(∃A c A2 c2,e=.returned (.agg #[.slice A (BP f k).args.length c,.slice A2 (BP f k).mem.length c2])/\InpAt w'.heap.size w' (.slice A (BP f k).args.length c) (.slice A2 (BP f k).mem.length c2) (BP f k))/\Gr w w':=by
 obtain⟨i0,be,bi,bj,bk⟩:=info_parts dK;obtain⟨i1,a1,a7,a8,ar⟩:=info_parts jQ;obtain⟨i2,a2,a4,a5,a6⟩:=info_parts kC;obtain⟨a3,ac,bh,aI⟩:=GP hv;have C1:Hid (∀u,Gr w u->Calls prog 43 #[vf] u (RG (.int .i64 (BB f.p)) u)):=fun u q=>jJ (hf.gr q) a3 ac;obtain⟨vp,vs,vb,rfl,hp,hs,hb⟩:=hf;have HP:=dJ hp;have HS:=dJ hs;obtain⟨Ap,cp,rfl,-⟩:=hp;obtain⟨As,cs,rfl,-⟩:=hs;obtain⟨Ab,cb,rfl,-⟩:=hb;obtain⟨I,al⟩:=xJ (w.alloc (.cells #[.slice Ap f.p.length cp,.int .i64 f.ret,.slice As f.s.length cs,.slice Ab f.b.length cb] 36));obtain⟨W,hW⟩:=xJ (I.alloc (.cells #[.slice none 0 0,.slice none 0 0] 41));have s0:I.heap.size=w.heap.size+1:=by rw[<-al];simp
 have s1:W.heap.size=w.heap.size+2:=by rw[<-hW];simp[s0]
 have g0:Gr w I:=by rw[<-al];exact(yO _).alloc _
 have Y:Gr I W:=by rw[<-hW];exact(yO _).alloc _
 have q0:I.heap[w.heap.size]?=some (.cells #[.slice Ap f.p.length cp,.int .i64 f.ret,.slice As f.s.length cs,.slice Ab f.b.length cb] 36 (0,0)):=by rw[<-al];exact heap_alloc_new _ _
 have q1:W.heap[I.heap.size]?=some (.cells #[.slice none 0 0,.slice none 0 0] 41 (0,0)):=by rw[<-hW];exact heap_alloc_new _ _
 have HG:=dJ (g0.trans Y)
 have HC:Hid (∀wr,Gr W wr->wr.cell? ⟨w.heap.size,0,none⟩=some (.slice Ap f.p.length cp)/\wr.cell? ⟨w.heap.size,1,none⟩=some (.int .i64 f.ret)/\wr.cell? ⟨w.heap.size,2,none⟩=some (.slice As f.s.length cs)/\wr.cell? ⟨w.heap.size,3,none⟩=some (.slice Ab f.b.length cb)):=fun wr g=>by have:=(g.heap _ (by omega)).trans ((Y.heap _ (cY q0)).trans q0);exact⟨yo _ _ 0 _ _ _ this,yo _ _ 1 _ _ _ this,yo _ _ 2 _ _ _ this,yo _ _ 3 _ _ _ this⟩
 have HR:Hid (∀wr,Gr W wr->wr.heap[I.heap.size]?=some (.cells #[.slice none 0 0,.slice none 0 0] 41 (0,0))):=fun wr g=>(g.heap _ (by omega)).trans q1;have af:Hid ((BP f k).args=Gk k f.p):=rk f k fun z D=>(ac z D).1;have ai:Hid ((BP f k).mem=f.s.map fun n=>List.replicate n.toNat 0):=by show _=_;rfl
 obtain⟨k0,k1,k2,k3⟩:=HC.out W (yO W);have aj:=dJ s1;have aA:=dJ s0;have az:=dJ ac;have aB:=dJ aI;have aQ:=dJ hbt
 have aW:Hid (∀(i:Nat)(z:Int),f.p[i]?=some z->∃b off,Ap=some ⟨b,off,none⟩/\∀wr,Gr w wr->wr.cell? ⟨b,off+i,none⟩=some (.int .i64 z)):=fun i z D=>by obtain⟨A',c',e,-,-,h3⟩:=HP.out;injection e with e1 e2 e3;obtain⟨b,off,e4,hb,h4⟩:=h3 (by have:=(xS.1 D).1;omega);exact⟨b,off,e1.trans e4,fun wr g=>(g.cell _ _ hb).trans (h4 i z D)⟩
 have aY:Hid (∀(i:Nat)(z:Int),f.s[i]?=some z->∃b off,As=some ⟨b,off,none⟩/\∀wr,Gr w wr->wr.cell? ⟨b,off+i,none⟩=some (.int .i64 z)):=fun i z D=>by obtain⟨A',c',e,-,-,h3⟩:=HS.out;injection e with e1 e2 e3;obtain⟨b,off,e4,hb,h4⟩:=h3 (by have:=(xS.1 D).1;omega);exact⟨b,off,e1.trans e4,fun wr g=>(g.cell _ _ hb).trans (h4 i z D)⟩
 clear q0 q1 g0 Y ac aI hbt s0 s1
 go_enter func46, ntmps46
 go_wp2_with (go_at_call 43;refine(C1.out _ HG.out).mono ?_;rintro e K ⟨rfl,Y⟩;have ah:Hid (Gr W K):=Y;clear Y;have x0:=fun o=>(HC.out (K.alloc o) (ah.out.alloc o)).1);obtain⟨V,hV⟩:=xJ (K.alloc (.cells #[.slice none 0 0,.slice none 0 0] 41));rw[hV];obtain⟨C,O⟩:=xJ K.heap.size;rw[O];have GV:Gr K V:=by rw[<-hV];exact(yO _).alloc _
 have HV:Hid (V.heap.size=C+1):=by show _=_;rw[<-hV,<-O];simp
 have aP:Hid (AS C V V [] none 0):=⟨FrS.refl _ _,by rw[<-hV,<-O];exact heap_alloc_new _ _,Own1.nil _ _ _⟩;have ag:Hid (w.heap.size+2<=C):=by show _<=_;rw[<-O,<-aj.out];exact ah.out.size
 have ay:=dJ (ah.out.trans GV);have aR:Hid (∀(wr:World) zs A c,AS C V wr zs A c->Gr W wr):=fun wr zs A c h=>gr_frs' ay.out h.fr (fun q hq=>by have:=ag.out;have:=aj.out;omega);have aS:Hid (∀(wr:World) va (q:Nat) (us:List Value) (H:Option Addr) (J:Nat),CS C V wr va (BP f k).mem q us H J->Gr W wr):=fun wr va q us H J h=>gr_frs' ay.out h.fr (fun q hq=>by have:=ag.out;have:=aj.out;omega);clear GV hV O k0 k1 k2 k3 x0
 go_loopw [5,8,16] (fun s5 _ aw wr=>∃(i:Nat)(zs:List Int)(A:Option Addr)(c:Nat),i<=f.p.length/\aw=.int .i64 (i:Int)/\s5=.int .i64 (BB (f.p.drop i))/\Hid (zs=(Gk k f.p).take i)/\Hid (AS C V wr zs A c)) (fun _ _ aw _=>f.p.length-(intOf aw).toNat)
 case atStart=>exact⟨0,[],none,0,yI _,rfl,rfl,rfl,aP⟩
 case round =>
  obtain⟨i,zs,A,c,hi,rfl,rfl,ae,has⟩:=hrel;have Z:=aR.out _ _ _ _ has.out;by_cases an:i<f.p.length
  ·obtain⟨z,D⟩:∃z,f.p[i]?=some z:=⟨_,xR an⟩;obtain⟨bp,op,rfl,S⟩:=aW.out i z D;have av:=az.out z (xT D);have am:=M4 D;have R:=Lp f.p (i+1) fun y hy=>(az.out y hy).1;have aE:=aQ.out;have ak:Hid (zs++[(k:Int) / m9 (BB (f.p.drop (i+1)))%m9 z]=(Gk k f.p).take (i+1)):=by show _=_;rw[Me k f.p i z D,ae.out]
   have aU:Hid (zs.length=i):=by show _=_;rw[ae.out,List.length_take,I6];omega
   obtain⟨L,hL⟩:=xJ (BB (f.p.drop (i+1)));rw[hL]at am R ak;have HL:=dJ hL;have bc:=R.1;have bd:L<=32:=by omega
   have M:=av.1;have U:=av.2;rw[am];have hx:(k:Int) / 2 ^ L.toNat=k / m9 L:=rfl;have hs:=mb M U;have ad:=BC z;have ap:=sI M U;have aL:0<=(k:Int) / m9 L:=yH (by omega) (Int.le_of_lt (BC L));have aM:(k:Int) / m9 L<4294967296:=Int.lt_of_le_of_lt (Int.ediv_le_self _ (by omega)) (by omega);have hm:=Nz aL aM M U;have aO:=Int.emod_nonneg ((k:Int) / m9 L) (Int.ne_of_gt ad);have au:=Int.emod_lt_of_pos ((k:Int) / m9 L) ad;obtain⟨y,hy⟩:=xJ ((k:Int) / m9 L%m9 z);rw[hy]at hm aO au ak;obtain⟨x,aN⟩:=xJ ((k:Int) / m9 L);rw[aN]at hx hm aL aM;obtain⟨s,aH⟩:=xJ (m9 z);rw[aH]at hs hm ad ap au;have ar:y<4294967296:=Int.lt_of_lt_of_le au ap;have HY:Hid (IntKind.u32.wrap (bits .and .i64 ((k:Int) / 2 ^ (z+L-z).toNat) (IntKind.i64.wrap (IntKind.i64.wrap (2 ^ z.toNat)-1)))=y):=tk (kW z L) hx hs hm ad ap aO ar;have aT:Hid (z+L-z=L):=kW z L
   have t:Hid (∀r,Gr wr r->r.cell? ⟨C,0,none⟩=some (.slice A zs.length c)/\r.frozen? ⟨C,0,none⟩=false/\Own1 (C+1) 22 r (.slice A zs.length c) (zs.map (Value.int .u32))/\C+1<=r.heap.size):=fun r g2=>by have E:=has.out.grow g2;exact⟨yo _ _ 0 _ _ _ E.st,yp _ _ 0 _ _ E.st,E.own,by have:=E.fr.size;have:=HV.out;omega⟩
   have F:Hid (∀(K r:World)(X:Obj)(A2:Option Addr)(c2:Nat),Gr wr K->(K.alloc X).grownBy r (Value.slice A zs.length c).ownBlock->Own1 (C+1) 22 r (.slice A2 (zs.length+1) c2) (zs.map (Value.int .u32)++[.int .u32 y])->_):=fun K r X A2 c2 Y hg B=>AS.push HV.out has.out Y hg B;have mixed:(prog).follows .mixedOrders=true:=by kernel_rfl
   have a0:=S wr (HG.out.trans Z);obtain⟨x4,z4,-,-⟩:=t.out wr (yO _);have Q4:=fun o=>(t.out (wr.alloc o) ((yO wr).alloc o)).1;have zl:zs.length<1000:=by have:=aU.out;omega
   clear am R aE D av hL hy aN aH S has Z;go_wp2
   go_region_law_o (refine fg (n:=zs.length) (v:=.slice A zs.length c) underlying39 a2 a4 a5 a6 rfl (by omega) rfl (.tmp 24) (.tmp 33) rfl (yl _) rfl (t.out _ ((yO wr).drew)).2.2.1 rfl rfl (by omega) (t.out _ ((yO wr).drew)).2.2.2 ?_;intro A2 c2 r B T Q;rw[HY.out]at B;have G:=dJ (F.out wr.drew r _ A2 c2 ((yO wr).drew) T B);have a9:=G.out.1.1;have ba:=G.out.1.2;clear B T Q)
   all_goals go_wp2
   all_goals
    refine⟨⟨i+1,zs++[y],A2,c2,by omega,by go_num,by rw[HL.out,aT.out],ak.out,?_⟩,by simp[intOf];omega⟩;exact G.out.2
  ·obtain rfl:i=f.p.length:=by omega
   have HZ:Hid (zs=(BP f k).args):=by show _=_;rw[ae.out,af.out,yh (by rw[I6];exact yJ _)]
   have aV:Hid (MS C V wr zs A c (BP f k).mem 0 [] none 0):=⟨⟨has.out.fr,has.out.st,rfl,Own1.nil _ _ _,fun j u l h=>by simp at h⟩,has.out.own⟩;obtain⟨-,-,r2,-⟩:=HC.out wr Z;have N:Hid ((BP f k).mem.length=f.s.length):=by show _=_;rw[ai.out,yl]
   obtain⟨b5,aD⟩:=xJ (BB (f.p.drop f.p.length));rw[aD];clear has Z ae aD;go_wp2
   go_loopw [10,40] (fun _ ax w3=>∃(q:Nat)(us:List Value)(H:Option Addr)(J:Nat),q<=f.s.length/\ax=.int .i64 (q:Int)/\Hid (MS C V w3 zs A c (BP f k).mem q us H J)) (fun _ ax _=>f.s.length-(intOf ax).toNat)
   case atStart=>exact⟨0,[],none,0,yI _,rfl,aV⟩
   case round =>
    obtain⟨q,us,H,J,hq,rfl,d⟩:=hrel;have Z:=aS.out _ _ _ _ _ _ d.out.cs;by_cases an:q<f.s.length
    ·obtain⟨z,D⟩:∃z,f.s[q]?=some z:=⟨_,xR an⟩;obtain⟨bp,op,rfl,S⟩:=aY.out q z D;obtain⟨M,U⟩:=aB.out z (xT D);obtain⟨m,rfl⟩:=xZ M;have hl:(BP f k).mem[q]?=some (List.replicate m 0):=by rw[ai.out,yc,D];rfl
     have aG:m<=1000:=by omega
     have bf:=fun u:World=>pr u m aG;have aX:=dJ (nx wr m aG)
     have t:Hid (∀r,Gr wr r->r.cell? ⟨C,1,none⟩=some (.slice H q J)/\r.frozen? ⟨C,1,none⟩=false/\Own1 (C+1) 33 r (.slice H q J) us/\C+1<=r.heap.size):=fun r g2=>by have E:=d.out.cs.grow HV.out g2;exact⟨yo _ _ 1 _ _ _ E.st,yp _ _ 1 _ _ E.st,E.own,by have:=E.fr.size;have:=HV.out;omega⟩
     have F:Hid (∀(K r:World)(X:Obj)(u:Value)(A2:Option Addr)(c2:Nat),Gr wr K->RowOf wr.heap.size 3 K u ((List.replicate m (0:Int)).map (Value.int .i64))->(K.alloc X).grownBy r (Value.slice H q J).ownBlock->Own1 (C+1) 33 r (.slice A2 (q+1) c2) (us++[u])->_):=fun K r X u A2 c2 Y hu hg B=>MS.push HV.out d.out hl Y hu hg B;have mixed:(prog).follows .mixedOrders=true:=by kernel_rfl
     have aZ:Hid (us.length=q):=d.out.cs.len;have a0:=S wr (HG.out.trans Z);obtain⟨x4,z4,-,-⟩:=t.out wr (yO _);have Q4:=fun o=>(t.out (wr.alloc o) ((yO wr).alloc o)).1;have bb:=fun o o'=>(t.out ((wr.alloc o).alloc o') (((yO wr).alloc o).alloc o')).1;clear D hl S d Z M U;go_wp2
     go_region_law_o (refine fg (n:=q) (v:=.slice H q J) underlying25 a1 a7 a8 ar rfl (by omega) rfl (.tmp 45) (.tmp 48) rfl aZ.out rfl (t.out _ (((yO wr).alloc (.cells (Array.replicate m (Value.int .i64 0)) 3)).drew)).2.2.1 rfl (sD wr _) (by omega) (t.out _ (((yO wr).alloc (.cells (Array.replicate m (Value.int .i64 0)) 3)).drew)).2.2.2 ?_;intro A2 c2 r B T Q;have G:=dJ (F.out ((wr.alloc (.cells (Array.replicate m (Value.int .i64 0)) 3)).drew) r (.cells #[.slice (some ⟨wr.heap.size,0,none⟩) m m] 33) (.slice (some ⟨wr.heap.size,0,none⟩) m m) A2 c2 (((yO wr).alloc _).drew) aX.out T B);have a9:=G.out.1.1;have ba:=G.out.1.2;clear B T Q)
     all_goals go_wp2
     all_goals
      refine⟨?_,?_⟩
      ·exact⟨q+1,_,A2,c2,by omega,by go_num,G.out.2⟩
      ·simp[intOf];omega
    ·obtain rfl:q=f.s.length:=by omega
     obtain⟨b0,b1⟩:=crw2 d.out.cs.st 0 1;have ao:=HR.out _ Z;obtain⟨r0,r1⟩:=crw2 ao 0 1;obtain⟨f0,f1⟩:=frw2 ao 0 1;obtain⟨w9,aK⟩:=xJ ((wr.setCell ⟨I.heap.size,0,none⟩ (.slice A zs.length c)).setCell ⟨I.heap.size,1,none⟩ (.slice H f.s.length J));have hF:FrS (·=I.heap.size) wr w9:=by rw[<-aK];exact((FrS.refl (·=I.heap.size) wr).setCell (p:=⟨I.heap.size,0,none⟩) rfl _).setCell (p:=⟨I.heap.size,1,none⟩) rfl _
     have h9:=cX (i:=1) (.slice H f.s.length J) (cX (i:=0) (.slice A zs.length c) ao);rw[aK]at h9;have aF:Gr w w9:=gr_frs' (HG.out.trans Z) hF (fun p hp=>by have:=aA.out;omega);have bg:I.heap.size<C+1:=by have:=aA.out;have:=ag.out;omega
     have aq:=ww (w:=w9) (d.out.cs.len.trans N.out.symm) (by rw[N.out];exact dm d.out.cs.own fun p hp=>hF.block _ (di d.out.cs.own hp).2.1 (by have:=(di d.out.cs.own hp).1;show p≠_;omega)) (fun j u l h1 h2=>(d.out.cs.rows j u l h1 h2).same fun p cur hp hc=>hF.block _ (cY hc) (by show p≠_;omega)) (by rw[N.out];omega) (fun l hl=>by
       rw[ai.out]at hl
       obtain⟨z,D,rfl⟩:=List.mem_map.1 hl
       have:=aB.out z D
       simp;omega)
     have aC:=(dm d.out.arg fun p hp=>hF.block _ (di d.out.arg hp).2.1 (by have:=(di d.out.arg hp).1;show p≠_;omega):Own1 (C+1) 22 w9 _ _);have aJ:=rM aC (by have:=HZ.out;rw[this,af.out,I6];omega);obtain⟨z0,z1⟩:=crw2 h9 0 1
     have F:Hid ((∃A' c' aa ab,(Value.agg #[.slice A zs.length c,.slice H f.s.length J])=(.agg #[.slice A' (BP f k).args.length c',.slice aa (BP f k).mem.length ab])/\InpAt w9.heap.size w9 (.slice A' (BP f k).args.length c') (.slice aa (BP f k).mem.length ab) (BP f k))/\Gr w w9):=by
      refine⟨⟨A,c,H,J,by rw[<-HZ.out,N.out],?_,?_,?_⟩,aF⟩
      ·rw[<-HZ.out];exact aJ
      ·rw[N.out]at aq ⊢;exact aq
      ·intro a ha;rw[af.out]at ha;exact ii _ _ _ ha
     clear d hF h9 aq aC aJ aF Z;go_wp2;refine yq (v:=.agg #[.slice A zs.length c,.slice H f.s.length J]) (by simp[results,results46,go_sem,z0,z1]) rfl ?_;obtain⟨⟨A',c',aa,ab,he,hi⟩,hg⟩:=F.out;exact⟨⟨A',c',aa,ab,by rw[he],hi⟩,hg⟩
end
section
open Go.RowKit Go.Shelf
theorem nm {ps:Array Tmp}{gf:Nat}{M:Nat->Array Value->World->Prop}
  (h1:1<=n) (hg:a.eval g=.func (.func gf) #[] lb) (eg:∀args w,(callFunc gf args).run prog w=.ok (.enter gf args) w)
  (hseq:∀(l:Nat)(J Jx:Nat->World->Prop)(W:World),(∀k A,J k A->Below w.heap.size w A)->(∀k A B,J k A->Gr A B->J k B) ->
    (∀k vs A,k<N->J k A->M k vs A->YieldAt Fence.wide (n-1-1) prog l vs A fun e B=>(e=.returned (.bool true)/\J (k+1) B)\/(e=.returned (.bool false)/\Jx k B))->J 0 W ->
    CallsIn Fence.wide (n-1) prog gf (#[.func (.yield l) #[] #[]]++lb) W fun e B=>(∃v,e=.returned v)/\(J N B\/∃k,k<N/\Jx k B))
  (hM:∀k vs A,M k vs A->vs.size=ps.size)
  (I Ix:Nat->World->Prop) (hIb:∀k A,I k A->Below w.heap.size w A) (hIg:∀k A B,I k A->Gr A B->I k B)
  (hIp:∀k A l o o',I k A->w.heap.size<=l->A.heap[l]?=some o->o.isCells=false->I k (A.putObj l o'))
  (hXp:∀k A l o o',Ix k A->w.heap.size<=l->A.heap[l]?=some o->o.isCells=false->Ix k (A.putObj l o'))
  (h0:I 0 w) (Ax:Nat->Act->World->Prop) (hAp:∀k a A l o o',Ax k a A->w.heap.size<=l->A.heap[l]?=some o->o.isCells=false->Ax k a (A.putObj l o'))
  (hassign:∀(l k:Nat)(vs:Array Value)(W:World)(K:Act->World->Prop),I k W->M k vs W->(∀a' W',Gr W W'->Ax k a' W'->K a' W') ->
    assign.wpIn (Fence.wide.inRound l) (n-1-1) prog (Exit.then K (fun _ _ _=>False)) {tmps:=(ps.zip vs).foldl (fun t (p,v)=>t.setIfInBounds p v) a.tmps,defers:=[]} W)
  (hbody:∀(l k:Nat)(a':Act)(W:World),k<N->I k W->Ax k a' W->body.wpIn (Fence.wide.inRound l) (n-1-1) prog (fun e _ W'=>KeepsFrom w.heap.size W W'/\((e=.normal/\I (k+1) W')\/(e=.ret/\Ix k W'))) a' W)
  (hdone:∀(D:Nat)(W:World),w.heap.size<=D->I N W->W.heap[D]?=some (.deferred (some []))->Q .normal {a with defers:={target:=.collected D,args:=#[]}::a.defers} W)
  (hstop:∀(D k:Nat)(W:World),w.heap.size<=D->k<N->Ix k W->W.heap[D]?=some (.deferred (some []))->Code.ret.wpIn Fence.wide n prog Q {a with defers:={target:=.collected D,args:=#[]}::a.defers} W) :
  (Code.rangeFunc g ps assign body).wpIn Fence.wide n prog Q a w:=by
 refine wpIn_rangeFunc fun fn S=>?_;obtain⟨B,E⟩:=xJ w.heap.size;rw[E]at hseq hIp hXp hAp hbody hdone hstop
 let rec_:LoopState->Option Code->Loop:=fun st pe=>{state:=st,pending:=pe,fn,tmps:=a.tmps,params:=ps,assign,body,defers:=B}
 have d:rec_=fun st pe=>{state:=st,pending:=pe,fn,tmps:=a.tmps,params:=ps,assign,body,defers:=B}:=rfl
 clear_value rec_
 obtain⟨V,H⟩:=xJ ((w.alloc (.deferred (some []))).alloc (.loop (rec_ .ready none)));have hG:Gr w V:=by rw[<-H];exact((yO w).alloc _).alloc _
 have hL:V.heap[B+1]?=some (.loop (rec_ .ready none)):=by rw[<-H,<-E];have:=World.alloc_heap_new (w.alloc (.deferred (some []))) (.loop (rec_ .ready none));rwa [World.size_alloc]at this
 have hK:V.heap[B]?=some (.deferred (some [])):=by rw[<-H,<-E];exact(Below.heap_alloc _ _ _ (by simp)).trans (World.alloc_heap_new w _)
 have j:∀{A:World} {k:Nat} {o:Obj},A.heap[k]?=some o->k<A.heap.size:=fun h=>(xY.1 h).1;refine⟨B+1,[{target:=.collected B,args:=#[]}],V,{target:=.fn (.func gf) lb,args:=#[.func (.yield (B+1)) #[] #[]]},V,gf,#[.func (.yield (B+1)) #[] #[]]++lb,V,?_,?_,fun _ _=>trivial,?_,fun _=>h1,?_⟩
 ·rw[<-H,d,<-E];exact run_enterLoop_outer _ _ _ _ _
 ·simp only[resolve,hg];simp[go_sem]
 ·simp[invoke,go_sem,eg]
 refine(hseq (B+1) (fun k A=>I k A/\A.heap[B+1]?=some (.loop (rec_ .ready none))/\A.heap[B]?=some (.deferred (some [])))
   (fun k A=>Ix k A/\A.heap[B+1]?=some (.loop (rec_ .done (some .ret)))/\A.heap[B]?=some (.deferred (some []))) V (fun k A h=>E ▸ hIb k A h.1)
   (fun k A C h q=>⟨hIg k A C h.1 q,(q.heap _ (j h.2.1)).trans h.2.1,(q.heap _ (j h.2.2)).trans h.2.2⟩) ?_ ⟨hIg 0 w V h0 hG,hL,hK⟩).mono ?_
 ·rintro k vs W y ⟨L,hl,z⟩ hm;have hy:=run_yield (P:=prog) (args:=vs) hl (by rw[d];exact hM k vs W hm);rw[d]at hy;refine⟨fn,_,assign,body,hy,roundIn_of_wpIn S (hassign _ k vs W _ L hm ?_)⟩;intro a' U O R;have u:=(O.heap _ (j hl)).trans hl;have Y:=(O.heap _ (j z)).trans z;have T:=hIg k W U L O;refine⟨_,run_beginRound u (by rw[d]),?_⟩;have aa:(U.putObj (B+1) (.loop {rec_ .ready none with state:=.busy})).heap[B+1]?=some (.loop {rec_ .ready none with state:=.busy}):=World.putObj_heap_same (j u);have Z:(U.putObj (B+1) (.loop {rec_ .ready none with state:=.busy})).heap[B]?=some (.deferred (some [])):=(World.putObj_heap_other (by omega)).trans Y;refine wpIn_mono (hbody _ k a' _ y (hIp k U _ _ _ T (by omega) u rfl) (hAp k a' U _ _ _ R (by omega) u rfl)) ?_;rintro e a3 W3 ⟨G,he⟩;have m:=G.same _ _ (by omega) aa rfl;have F:=G.same _ _ (by omega) Z rfl;rcases he with ⟨rfl,X⟩|⟨rfl,ab⟩
  ·have r:=run_endRound (P:=prog) none m;rw[d]at r m;refine⟨_,_,r,.inl ⟨rfl,hIp _ _ _ _ _ X (by omega) m rfl,?_,(World.putObj_heap_other (by omega)).trans F⟩⟩;rw[d];exact World.putObj_heap_same (j m)
  ·have r:=run_endRound (P:=prog) (some .ret) m;rw[d]at r m;refine⟨_,_,r,.inr ⟨rfl,hXp _ _ _ _ _ ab (by omega) m rfl,?_,(World.putObj_heap_other (by omega)).trans F⟩⟩;rw[d];exact World.putObj_heap_same (j m)
 ·rintro e W2 ⟨⟨v,rfl⟩,(⟨L,hl,z⟩|⟨k,y,hx,hl,z⟩)⟩
  ·have r:=run_endLoop (P:=prog) hl (by rw[d];simp);rw[d]at r;exact⟨none,_,r,hdone B _ (yJ _) (hIp _ _ _ _ _ L (by omega) hl rfl) ((World.putObj_heap_other (by omega)).trans z)⟩
  ·have r:=run_endLoop (P:=prog) hl (by rw[d];simp);rw[d]at r;exact⟨some .ret,_,r,hstop B k _ (yJ _) y (hXp _ _ _ _ _ hx (by omega) hl rfl) ((World.putObj_heap_other (by omega)).trans z)⟩
attribute [local go_sem] Oper.semAt_some
section
variable {W:World}{l:Nat}{o:Obj}
theorem kL (o':Obj)(hl:W.heap[l]?=some o)(ho:o.isCells=false){p:Addr}(h:W.cell? p=some v):(W.putObj l o').cell? p=some v :=
 cell_kept h (grownBy_putObj' W l o') fun r e=>by cases e;exact⟨o,hl,ho⟩
theorem oc (W:World)(l:Nat)(o':Obj):W.heap.size<=(W.putObj l o').heap.size:=(grownBy_putObj' W l o').size
theorem IntsAt.put (o':Obj)(hl:W.heap[l]?=some o)(ho:o.isCells=false)(h:IntsAt B W v zs):IntsAt B (W.putObj l o') v zs :=
 SlAt.imp h fun b off _ d j z g=>kL o' hl ho (d j z g)
theorem InpAt.put (o':Obj)(hl:W.heap[l]?=some o)(ho:o.isCells=false){va:Value}{i:CG}(h:InpAt W.heap.size W va vm i):InpAt (W.putObj l o').heap.size (W.putObj l o') va vm i:=by refine⟨SlAt.mono (SlAt.imp h.1 fun b off _ d j z p=>kL o' hl ho (d j z p)) (oc W l o'),TabAt.mono (SlAt.imp h.2.1 fun b off _ d j r hr=>?_) (oc W l o'),h.2.2⟩;obtain⟨u,g,m⟩:=d j r hr;exact⟨u,kL o' hl ho g,m.put o' hl ho⟩
theorem iI (o':Obj)(h:Below n w W)(hn:n<=l)(hl:W.heap[l]?=some o)(ho:o.isCells=false):Below n w (W.putObj l o') :=
 h.grown (grownBy_putObj' W l o') (by have:=(xY.1 hl).1;omega) (fun k e=>by cases e;omega)
end
theorem sM (Ap As Ab:Option Addr)(np ns nb cp cs cb:Nat)(r:Int)(n:Int)(w:World) :
  Calls prog 50 #[.agg #[.slice Ap np cp,.int .i64 r,.slice As ns cs,.slice Ab nb cb],.int .i64 n] w fun e w' =>
   e=.returned (.func (.func 76) #[] #[.pointer (some ⟨w.heap.size+1,0,none⟩),.pointer (some ⟨w.heap.size,0,none⟩)])/\w'=(w.alloc (.cells #[.slice Ap np cp,.int .i64 r,.slice As ns cs,.slice Ab nb cb] 36)).alloc (.cells #[.int .i64 n] 3):=by
 go_enter func50, ntmps50
 go_wp2;go_ret;exact⟨rfl,rfl⟩
def MI (f:Fn)(k:Nat)(vs:Array Value)(W:World):Prop :=
 ∃Aa c A2 c2,vs=#[.int .i64 k,.agg #[.slice Aa (BP f k).args.length c,.slice A2 (BP f k).mem.length c2]]/\InpAt W.heap.size W (.slice Aa (BP f k).args.length c) (.slice A2 (BP f k).mem.length c2) (BP f k)
theorem sL (n:Nat)(hn:1<=n)(l Bn Bf N:Nat)(hN:N<=256)(hf:FnAt w0.heap.size w0 (.agg #[.slice Ap f.p.length cp,.int .i64 f.ret,.slice As f.s.length cs,.slice Ab f.b.length cb]) f)
  (hv:zL f=0) (hb:BB f.p<=32) (hBn:Bn<w0.heap.size) (hBf:Bf<w0.heap.size) (cn:w0.cell? ⟨Bn,0,none⟩=some (.int .i64 N)) (cf:FBox Bf w0 f Ap As Ab cp cs cb)
  (J Jx:Nat->World->Prop) (W:World) (hJb:∀k A,J k A->Below w0.heap.size w0 A) (hJg:∀k A B,J k A->Gr A B->J k B)
  (hY:∀k vs A,k<N->J k A->MI f k vs A->YieldAt Fence.wide (n-1) prog l vs A fun e B=>(e=.returned (.bool true)/\J (k+1) B)\/(e=.returned (.bool false)/\Jx k B)) (h0:J 0 W) :
  CallsIn Fence.wide n prog 76 (#[.func (.yield l) #[] #[]]++#[.pointer (some ⟨Bn,0,none⟩),.pointer (some ⟨Bf,0,none⟩)]) W fun e B=>(∃v,e=.returned v)/\(J N B\/∃k,k<N/\Jx k B):=by
 have O:=dJ hY;have M:=dJ hJb;have z:=dJ hJg
 have D:Hid (∀k A,J k A->A.cell? ⟨Bn,0,none⟩=some (.int .i64 N)/\FBox Bf A f Ap As Ab cp cs cb):=fun k A h=>by have F:=hJb k A h;exact⟨(F.cell (p:=⟨Bn,0,none⟩) hBn).trans cn,cf.gr hBf F⟩
 have L:Hid (∀k A,k<N->J k A->Calls prog 46 #[.agg #[.slice Ap f.p.length cp,.int .i64 f.ret,.slice As f.s.length cs,.slice Ab f.b.length cb],.int .i64 k] A fun e w'=>(∃A c r u,e=.returned (.agg #[.slice A (BP f k).args.length c,.slice r (BP f k).mem.length u])/\InpAt w'.heap.size w' (.slice A (BP f k).args.length c) (.slice r (BP f k).mem.length u) (BP f k))/\Gr A w'):=fun k A T h =>
  rj (hf.gr (hJb k A h)) hv hb (by omega)
 have K:=dJ h0;have R:(N:Int)<=256:=by omega
 obtain⟨X,-⟩:=D.out 0 W h0;clear hY hJb hJg hf hv hb cn cf h0;refine callsIn_of_wp func76 rfl trivial ?_ rfl;simp only[ntmps76,List.size_toArray,List.length_cons,List.length_nil,Nat.reduceAdd,Nat.reduceSub,Array.replicate_succ,Array.replicate_zero,List.push_toArray,List.append_toArray,List.nil_append,List.cons_append];gi_wp2
 gi_loopw [4,6] (fun _ i wr=>∃k:Nat,k<=N/\i=.int .i64 k/\Hid (J k wr)) (fun _ i _=>N-(intOf i).toNat)
 case atStart=>exact⟨0,yI _,rfl,K⟩
 case round =>
  obtain⟨k,T,rfl,g⟩:=hrel;obtain⟨q,rfl⟩:∃q:World,q=wr:=⟨_,rfl⟩;by_cases j:k<N
  ·obtain⟨-,Z,k1,k2,k3⟩:=D.out k q g.out;have y:=dJ (L.out k q j g.out);have d:Hid (k<N):=j;clear j;gi_wp2_with (refine⟨trivial,?_⟩;gi_at_call 46;refine(callsIn_wide.2 y.out).mono ?_;rintro e H ⟨⟨I,c,r,u,rfl,G⟩,Q⟩;obtain⟨fn,tmps,t,E,Y,S⟩:=O.out k _ H d.out (z.out k q H g.out Q) ⟨I,c,r,u,rfl,G⟩;clear G);refine S.mono ?_;rintro e U (⟨rfl,C⟩|⟨rfl,m⟩)
   ·gi_wp2;go_roundw;case rel=>exact⟨k+1,d.out,by go_num,C⟩
    case measure=>have:=d.out;simp[intOf];omega
   ·gi_wp2;refine yq (results_none rfl _ _ _) rfl ?_;exact⟨⟨_,rfl⟩,.inr ⟨k,d.out,m⟩⟩
  ·obtain rfl:k=N:=by omega
   gi_wp2
   go_end0
   exact⟨⟨_,rfl⟩,.inl g.out⟩
def inV (Aa A2:Option Addr)(n c n2 c2:Nat):Value:=.agg #[.slice Aa n c,.slice A2 n2 c2]
def rnd (t:Array Value)(k:Nat)(v:Value)(Bx:Nat):Array Value:=(((t.setIfInBounds 31 (.int .i64 k)).setIfInBounds 32 v).setIfInBounds 10 (.int .i64 k)).setIfInBounds 11 (.pointer (some ⟨Bx,0,none⟩))
theorem nn {V:World}{Bn Bf:Nat}
  (hg:a.eval (.tmp 30)=.func (.func 76) #[] #[.pointer (some ⟨Bn,0,none⟩),.pointer (some ⟨Bf,0,none⟩)]) (hN:N<=256)
  (hf:FnAt V.heap.size V (.agg #[.slice Ap f.p.length cp,.int .i64 f.ret,.slice As f.s.length cs,.slice Ab f.b.length cb]) f) (hv:zL f=0) (hb:BB f.p<=32) (hBn:Bn<V.heap.size) (hBf:Bf<V.heap.size) (cn:V.cell? ⟨Bn,0,none⟩=some (.int .i64 N)) (cf:FBox Bf V f Ap As Ab cp cs cb)
  (I Ix:Nat->World->Prop) (hIb:∀k A,I k A->Below V.heap.size V A) (hIg:∀k A B,I k A->Gr A B->I k B)
  (hIp:∀k A l o o',I k A->V.heap.size<=l->A.heap[l]?=some o->o.isCells=false->I k (A.putObj l o'))
  (hXp:∀k A l o o',Ix k A->V.heap.size<=l->A.heap[l]?=some o->o.isCells=false->Ix k (A.putObj l o')) (h0:I 0 V)
  (hassign:∀(l k:Nat)(Aa A2:Option Addr)(n c n2 c2:Nat)(W:World)(K:Act->World->Prop),K {tmps:=rnd a.tmps k (inV Aa A2 n c n2 c2) W.heap.size,defers:=[]} (W.alloc (.cells #[.slice Aa n c,.slice A2 n2 c2] 41)) ->
    assign.wpIn (Fence.wide.inRound l) 3 prog (Exit.then K (fun _ _ _=>False)) {tmps:=(a.tmps.setIfInBounds 31 (.int .i64 k)).setIfInBounds 32 (inV Aa A2 n c n2 c2),defers:=[]} W)
  (hbody:∀(l k:Nat)(Aa A2:Option Addr)(n c n2 c2 Bx:Nat)(W:World),k<N->I k W->InpAt W.heap.size W (.slice Aa n c) (.slice A2 n2 c2) (BP f k)->W.heap[Bx]?=some (.cells #[.slice Aa n c,.slice A2 n2 c2] 41 (0,0)) ->
    body.wpIn (Fence.wide.inRound l) 3 prog (fun e _ W'=>KeepsFrom V.heap.size W W'/\((e=.normal/\I (k+1) W')\/(e=.ret/\Ix k W'))) {tmps:=rnd a.tmps k (inV Aa A2 n c n2 c2) Bx,defers:=[]} W)
  (hdone:∀(D:Nat)(W:World),V.heap.size<=D->I N W->W.heap[D]?=some (.deferred (some []))->Q .normal {a with defers:={target:=.collected D,args:=#[]}::a.defers} W)
  (hstop:∀(D k:Nat)(W:World),V.heap.size<=D->k<N->Ix k W->W.heap[D]?=some (.deferred (some []))->Code.ret.wp prog Q {a with defers:={target:=.collected D,args:=#[]}::a.defers} W) :
  (Code.rangeFunc (.tmp 30) #[31,32] assign body).wp prog Q a V:=by
 refine(wpIn_wide (n:=5)).1 ?_
 refine nm (n:=5) (N:=N) (M:=MI f) (by omega) hg (enters_of func76 (by kernel_rfl) rfl)
  (fun l J y W p q H m=>sL 4 (by omega) l Bn Bf N hN hf hv hb hBn hBf cn cf J y W p q H m)
  (fun k vs A h=>by obtain⟨_,_,_,_,rfl,-⟩:=h;rfl) I Ix hIb hIg hIp hXp h0
  (fun k j A=>∃Aa A2 n c n2 c2 Bx,j={tmps:=rnd a.tmps k (inV Aa A2 n c n2 c2) Bx,defers:=[]}/\InpAt A.heap.size A (.slice Aa n c) (.slice A2 n2 c2) (BP f k)/\A.heap[Bx]?=some (.cells #[.slice Aa n c,.slice A2 n2 c2] 41 (0,0)))
  ?hAp ?hassign ?hbody hdone (fun D k W z C E F=>wpIn_wide.2 (hstop D k W z C E F))
 case hAp =>
  rintro k j A l o o' ⟨Aa,A2,n,c,n2,c2,Bx,e,g,d⟩ hl u r;refine⟨Aa,A2,n,c,n2,c2,Bx,e,g.put o' u r,(World.putObj_heap_other ?_).trans d⟩;rintro rfl;rw[u]at d;injection d with d;rw[d]at r;cases r
 case hassign =>
  rintro l k vs W K g ⟨Aa,c,A2,c2,rfl,t⟩ G;have:=hassign l k Aa A2 _ c _ c2 W K (G _ _ ((yO W).alloc _) ⟨Aa,A2,_,c,_,c2,W.heap.size,rfl,t.gr ((yO W).alloc _),heap_alloc_new W _⟩);simpa[inV] using this
 case hbody =>
  rintro l k j W L g ⟨Aa,A2,n,c,n2,c2,Bx,rfl,t,d⟩;exact hbody l k Aa A2 n c n2 c2 Bx W L g t d
end
section
variable {a:Act}{R:Ending->World->Prop}{f:Fn}{fl:Int}{zs:List Int}{B b fuel:Nat}{o o':Obj}{t:TypeId}{v vf vm:Value}{W w:World}
section
open Go.RowKit Go.Shelf
attribute [local go_sem] Oper.semAt_some
theorem gP (fn:Func)(tmps:Array Value)(w:World)(B4 B5 B6:Nat)(r1:Int)(r2:Bool)(r3:Int)(h:fn.results=#[.cell 4 3,.cell 5 4,.cell 6 44])(t4:tmps[4]?.getD undef=.pointer (some ⟨B4,0,none⟩))(t5:tmps[5]?.getD undef=.pointer (some ⟨B5,0,none⟩))(t6:tmps[6]?.getD undef=.pointer (some ⟨B6,0,none⟩))
  (h4:w.cell? ⟨B4,0,none⟩=some (.int .i64 r1)) (h5:w.cell? ⟨B5,0,none⟩=some (.bool r2)) (h6:w.cell? ⟨B6,0,none⟩=some (.int .i64 r3)) :
  (results fn tmps).run prog w=.ok (.tuple #[.int .i64 r1,.bool r2,.int .i64 r3]) w:=by simp[results,h,t4,t5,t6,go_sem,h4,h5,h6]
def Res3 (w:World)(B:Nat)(r:Int × Bool × Int):Prop :=
 w.heap[B]?=some (.cells #[.int .i64 r.1] 3 (0,0))/\w.heap[B+1]?=some (.cells #[.bool r.2.1] 4 (0,0))/\w.heap[B+1+1]?=some (.cells #[.int .i64 r.2.2] 44 (0,0))
theorem Res3.gr {w':World}{r:Int × Bool × Int}(h:Res3 w B r)(g:Gr w w'):Res3 w' B r :=
 ⟨(g.heap _ (cY h.1)).trans h.1,(g.heap _ (cY h.2.1)).trans h.2.1,(g.heap _ (cY h.2.2)).trans h.2.2⟩
theorem Res3.put {l:Nat}{r:Int × Bool × Int}(h:Res3 w B r)(hl:B+1+1<l):Res3 (w.putObj l o') B r :=
 ⟨(World.putObj_heap_other (by omega)).trans h.1,(World.putObj_heap_other (by omega)).trans h.2.1,(World.putObj_heap_other (by omega)).trans h.2.2⟩
theorem Res3.set {r:Int × Bool × Int}(h:Res3 w B r)(r1:Int)(r2:Bool)(r3:Int):Res3 (((w.setCell ⟨B,0,none⟩ (.int .i64 r1)).setCell ⟨B+1,0,none⟩ (.bool r2)).setCell ⟨B+1+1,0,none⟩ (.int .i64 r3)) B (r1,r2,r3):=by
 have d:∀(u:World)(k j:Nat)(v:Value),j≠k->(u.setCell ⟨k,0,none⟩ v).heap[j]?=u.heap[j]?:=fun u k j v hj=>yy u ⟨k,0,none⟩ v j hj;refine⟨?_,?_,?_⟩
 ·rw[d _ _ _ _ (by omega),d _ _ _ _ (by omega)];exact cX (i:=0) _ h.1
 ·rw[d _ _ _ _ (by omega)];exact cX (i:=0) _ ((d w B (B+1) _ (by omega)).trans h.2.1)
 ·exact cX (i:=0) _ ((d _ _ _ _ (by omega)).trans ((d w B (B+1+1) _ (by omega)).trans h.2.2))
theorem wH {r:Int × Bool × Int}(hd:a.defers=[])(t4:a.tmps[4]?.getD undef=.pointer (some ⟨B,0,none⟩))(t5:a.tmps[5]?.getD undef=.pointer (some ⟨B+1,0,none⟩))(t6:a.tmps[6]?.getD undef=.pointer (some ⟨B+1+1,0,none⟩))
  (h:Res3 w B r) (hR:R (.returned (.tuple #[.int .i64 r.1,.bool r.2.1,.int .i64 r.2.2])) w):bodyPostM Fence.wide 5 prog Tryz.f28 R .ret a w :=
 qe hd (gP _ _ _ _ _ _ _ _ _ rfl t4 t5 t6 (cell_of_one h.1) (cell_of_one h.2.1) (cell_of_one h.2.2)) hR
theorem wI {w0:World}{D:Nat}{r:Int × Bool × Int}(hd:a.defers=[{target:=.collected D,args:=#[]}])(hK:w.heap[D]?=some (.deferred (some [])))(hDB:B+1+1<D)(t4:a.tmps[4]?.getD undef=.pointer (some ⟨B,0,none⟩))(t5:a.tmps[5]?.getD undef=.pointer (some ⟨B+1,0,none⟩))(t6:a.tmps[6]?.getD undef=.pointer (some ⟨B+1+1,0,none⟩))
  (h:Res3 w B r) (hw:Below w0.heap.size w0 w) (hD:w0.heap.size<=D) (hR:∀w',Gr w0 w'->R (.returned (.tuple #[.int .i64 r.1,.bool r.2.1,.int .i64 r.2.2])) w'):bodyPostM Fence.wide 5 prog Tryz.f28 R .ret a w:=by
 have d:Res3 (w.putObj D (.deferred none)) B r:=h.put hDB;exact xb hd hK (gP _ _ _ _ _ _ _ _ _ rfl t4 t5 t6 (cell_of_one d.1) (cell_of_one d.2.1) (cell_of_one d.2.2)) (hR _ (iI _ hw hD hK rfl))
namespace Rf
theorem KR (f g:Fn)(N k:Nat)(h:k<N):E4 f g (N-k) k=if Fa f g (BP f k)≠0 then (0,false,Fa f g (BP f k)) else if Lq f g (BP f k)=true then E4 f g (N-(k+1)) (k+1) else (k,true,0):=by obtain⟨m,d⟩:∃m,N-k=m+1:=⟨N-k-1,by omega⟩;rw[d,E4,show N-(k+1)=m by omega]
theorem KX (f g:Fn)(N:Nat):E4 f g (N-N) N=(0,false,0):=by rw[Nat.sub_self];rfl
theorem Lr (h:E2 f=0):zL f=0/\0<=BB f.p/\BB f.p<=8/\Gp f=m9 (BB f.p)/\0<=Gp f/\Gp f<=256:=by
 have g:Gp f=m9 (BB f.p):=by unfold Gp;rw[yr h]
 unfold E2 at h;by_cases d:zL f=0
 ·rw[yt (by simp[d])]at h;have r:¬8<BB f.p:=fun q=>by rw[yr q]at h;cases h
  obtain⟨-,l,-⟩:=GP d;have j:=(JK l).1;refine⟨d,j,by omega,g,by rw[g];exact Int.le_of_lt (BC _),?_⟩;rw[g];unfold m9;have:=Nat.pow_le_pow_right (n:=2) (by decide) (show (BB f.p).toNat<=8 by omega);have m:(2:Int) ^ (BB f.p).toNat<=2 ^ 8:=by exact_mod_cast this
  have p:(2:Int) ^ 8=256:=by decide
  omega
 ·rw[yr d]at h;exact absurd h d
end Rf
def gz (f g:Fn):Value:=.tuple #[.int .i64 (Ey f g).1,.bool (Ey f g).2.1,.int .i64 (Ey f g).2.2]
theorem qU {vg:Value}{g:Fn}(hf:FnAt w.heap.size w vf f)(hg:FnAt w.heap.size w vg g)(hnf:gT f)(hng:gT g)(hif:Hh f)(hig:Hh g) :
  Calls prog 28 #[vf,vg] w (RG (gz f g) w):=by
 have C1:Hid (∀u,Gr w u->Calls prog 49 #[vf,vg] u (RG (.int .i64 (ET f g)) u)):=fun u q=>kX (hf.gr q) (hg.gr q) hnf hng;have C2:Hid (∀u,Gr w u->Calls prog 22 #[vf] u (RG (eG f) u)):=fun u q=>jR (hf.gr q) hnf;have ai:Hid (∀(u:World) va vm i,Gr w u->InpAt u.heap.size u va vm i->Calls prog 18 #[vf,vg,.agg #[va,vm]] u (RG (atV f g i) u)):=fun u va vm i q hi=>wt ⟨hf.gr q,hg.gr q,hi⟩ hnf hng hif hig;have HF:=dJ hf;obtain⟨vp,vs,vb,rfl,hp,az,hb⟩:=hf;obtain⟨up,us,ub,rfl,gp,ar,gb⟩:=hg;obtain⟨Ap,cp,rfl,-⟩:=hp;obtain⟨As,cs,rfl,-⟩:=az;obtain⟨Ab,cb,rfl,-⟩:=hb;obtain⟨Dp,dp,rfl,-⟩:=gp;obtain⟨Ds,ds,rfl,-⟩:=ar;obtain⟨Db,db,rfl,-⟩:=gb;obtain⟨d,ad⟩:=xJ ((w.alloc (.cells #[.slice Ap f.p.length cp,.int .i64 f.ret,.slice As f.s.length cs,.slice Ab f.b.length cb] 36)).alloc (.cells #[.slice Dp g.p.length dp,.int .i64 g.ret,.slice Ds g.s.length ds,.slice Db g.b.length db] 36));obtain⟨W,hW⟩:=xJ (((d.alloc (.cells #[.int .i64 0] 3)).alloc (.cells #[.bool false] 4)).alloc (.cells #[.int .i64 0] 44));have s2:d.heap.size=w.heap.size+1+1:=by rw[<-ad];simp
 have sW:W.heap.size=d.heap.size+1+1+1:=by rw[<-hW];simp
 have Y:Gr w d:=by rw[<-ad];exact((yO w).alloc _).alloc _
 obtain⟨gW,ax⟩:=xh hW
 have HK:Hid (∀u,Gr W u->(FBox w.heap.size u f Ap As Ab cp cs cb/\FBox (w.heap.size+1) u g Dp Ds Db dp ds db)):=fun u q=>by have q2:=gW.trans q;rw[<-ad]at q2;exact⟨FBox.new (V:=w) (((yO _).alloc _).trans q2) rfl,FBox.new (V:=w.alloc _) q2 (by simp)⟩
 have ap:Hid (Res3 W d.heap.size (0,false,0)):=by
  refine⟨?_,?_,?_⟩
  ·rw[<-hW];exact(((yO _).alloc _).alloc _:Gr (d.alloc _) _).heap _ (by simp) |>.trans (heap_alloc_new _ _)
  ·rw[<-hW];exact((yO _).alloc _:Gr ((d.alloc _).alloc _) _).heap _ (by simp) |>.trans (by have:=heap_alloc_new (d.alloc (.cells #[.int .i64 0] 3)) (.cells #[.bool false] 4);rwa [World.size_alloc]at this)
  ·rw[<-hW];have:=heap_alloc_new ((d.alloc (.cells #[.int .i64 0] 3)).alloc (.cells #[.bool false] 4)) (.cells #[.int .i64 0] 44);rwa [World.size_alloc,World.size_alloc]at this
 have S:=dJ (Y.trans gW);have aB:=dJ s2;have aq:=dJ sW
 have M:Hid (∀u,Gr W u->Res3 u d.heap.size (0,false,0)/\u.cell? ⟨d.heap.size,0,none⟩=some (.int .i64 0)/\u.cell? ⟨d.heap.size+1,0,none⟩=some (.bool false)/\u.cell? ⟨d.heap.size+1+1,0,none⟩=some (.int .i64 0)/\u.frozen? ⟨d.heap.size,0,none⟩=false/\u.frozen? ⟨d.heap.size+1,0,none⟩=false/\u.frozen? ⟨d.heap.size+1+1,0,none⟩=false):=fun u q=>by have h:=ap.out.gr q;exact⟨h,cell_of_one h.1,cell_of_one h.2.1,cell_of_one h.2.2,free_of_one h.1,free_of_one h.2.1,free_of_one h.2.2⟩
 have j:Hid (∀(u:World)(r1:Int)(r2:Bool)(r3:Int),Gr W u->Gr w (((u.setCell ⟨d.heap.size,0,none⟩ (.int .i64 r1)).setCell ⟨d.heap.size+1,0,none⟩ (.bool r2)).setCell ⟨d.heap.size+1+1,0,none⟩ (.int .i64 r3))):=fun u r1 r2 r3 q=>by
  refine Gr.setCell (Gr.setCell (Gr.setCell (S.out.trans q) ?_ _) ?_ _) ?_ _
  ·show w.heap.size<=d.heap.size;omega
  ·show w.heap.size<=d.heap.size+1;omega
  ·show w.heap.size<=d.heap.size+1+1;omega
 obtain⟨⟨k0,k1,k2,k3⟩,⟨l0,l1,l2,l3⟩⟩:=HK.out W (yO W);have p:Hid (Ey f g=if ET f g≠0 then (0,false,ET f g) else if E2 f≠0 then (0,false,E2 f) else E4 f g (Gp f).toNat 0):=by show _=_;rfl
 obtain⟨X,hX⟩:=xJ (ET f g);rw[hX]at C1 p;have z:Hid (gz f g=.tuple #[.int .i64 (Ey f g).1,.bool (Ey f g).2.1,.int .i64 (Ey f g).2.2]):=by show _=_;rfl
 clear hX s2 sW Y gW ax;refine(callsIn_wide (n:=5)).1 ?_;refine callsIn_of_wp_marks func28 rfl trivial ?_ rfl;simp only[ntmps28,List.size_toArray,List.length_cons,List.length_nil,Nat.reduceAdd,Nat.reduceSub,Array.replicate_succ,Array.replicate_zero,List.push_toArray,List.append_toArray,List.nil_append,List.cons_append];refine wpIn_wide.2 ?_;by_cases Z:X=0
 ·have q0:(X != 0)=false:=by simp[Z]
  by_cases h1:E2 f=0
  ·obtain⟨hv,av,af,aw,ah,ay⟩:=Lr h1;obtain⟨N,hN⟩:=xZ ah;have Q:Hid (eG f=.tuple #[.int .i64 N,.int .i64 0]):=by show _=_;unfold eG;rw[h1,hN]
   rw[Q.out]at C2;have H:Hid (Ey f g=E4 f g N 0):=by show _=_;rw[p.out,yt (by simp[Z]),yt (by simp[h1]),hN];rfl
   have ac:N<=256:=by omega
   have al:=dJ (sM Ap As Ab f.p.length f.s.length f.b.length cp cs cb f.ret N);have HV:=dJ hv;have aj:=dJ af;clear Z p aw ah ay av af hN h1 hv Q
   go_wp2_with (first|(go_at_call 49;refine(C1.out _ S.out).mono ?_;rintro e w1 ⟨rfl,U⟩;have G:Hid (Gr W w1):=U;clear U;obtain⟨⟨k0,k1,k2,k3⟩,⟨l0,l1,l2,l3⟩⟩:=HK.out w1 G.out)|(go_at_call 22;refine(C2.out _ (S.out.trans G.out)).mono ?_;rintro e y ⟨rfl,Y⟩;have G2:Hid (Gr W y):=G.out.trans Y;clear Y;obtain⟨⟨i0,i1,i2,i3⟩,⟨j0,j1,j2,j3⟩⟩:=HK.out y G2.out)|(go_at_call 50;refine(al.out _).mono ?_;rintro e w3 ⟨rfl,rfl⟩))
   obtain⟨V,hV⟩:=xJ ((y.alloc (.cells #[.slice Ap f.p.length cp,.int .i64 f.ret,.slice As f.s.length cs,.slice Ab f.b.length cb] 36)).alloc (.cells #[.int .i64 N] 3));rw[hV];have gV:Gr y V:=by rw[<-hV];exact((yO _).alloc _).alloc _
   have au:V.heap.size=y.heap.size+2:=by rw[<-hV];simp
   have GV:Hid (Gr W V):=G2.out.trans gV;have ag:Gr w V:=S.out.trans GV.out;have cn:V.cell? ⟨y.heap.size+1,0,none⟩=some (.int .i64 N):=by rw[<-hV];have:=yo _ _ 0 _ _ _ (heap_alloc_new (y.alloc (.cells #[.slice Ap f.p.length cp,.int .i64 f.ret,.slice As f.s.length cs,.slice Ab f.b.length cb] 36)) (.cells #[.int .i64 N] 3));rwa [World.size_alloc]at this
   have cf:FBox y.heap.size V f Ap As Ab cp cs cb:=FBox.new (V:=y) (by rw[<-hV];exact(yO _).alloc _) rfl;have aC:=dJ au;have aa:Hid (d.heap.size+1+1<V.heap.size):=by show _<_;have:=aq.out;have:=GV.out.size;omega
   have ab:Hid (w.heap.size<=V.heap.size):=ag.size;clear i0 i1 i2 i3 j0 j1 j2 j3 k0 k1 k2 k3 l0 l1 l2 l3
   refine nn (f:=f) (N:=N) (Bn:=y.heap.size+1) (Bf:=y.heap.size) rfl ac (HF.out.gr ag) HV.out (by have:=aj.out;omega) (by omega) (by omega) cn cf
    (fun k A=>Gr V A/\Ey f g=E4 f g (N-k) k) (fun _ A=>Res3 A d.heap.size (Ey f g)/\Below w.heap.size w A)
    (fun k A h=>h.1) (fun k A B h q=>⟨h.1.trans q,h.2⟩) (fun k A l o o' h hl ho hc=>⟨iI o' h.1 hl ho hc,h.2⟩)
    (fun k A l o o' h hl ho hc=>⟨h.1.put (by have:=aa.out;omega),iI o' h.2 (by have:=ab.out;omega) ho hc⟩) ⟨yO _,H.out⟩ ?hassign ?hbody ?hdone ?hstop
   case hassign =>
    intro l k Aa A2 n c n2 c2 O K hK;simp only[rnd,inV,yF,List.set_cons_succ,List.set_cons_zero]at hK ⊢;gi_wp2;exact hK
   case hbody =>
    rintro l k Aa A2 n c n2 c2 Bx O hk ⟨C,I⟩ hi J;simp only[rnd,inV,yF,List.set_cons_succ,List.set_cons_zero];have x0:O.cell? ⟨Bx,0,none⟩=some (.slice Aa n c):=yo _ _ 0 _ _ _ J;have x1:O.cell? ⟨Bx,1,none⟩=some (.slice A2 n2 c2):=yo _ _ 1 _ _ _ J;have R:=GV.out.trans C;obtain⟨⟨k0,k1,k2,k3⟩,⟨l0,l1,l2,l3⟩⟩:=HK.out O R;have HA:=dJ (ai.out O _ _ _ (S.out.trans R) hi);have m:=I.trans (KR f g N k hk);have G0:=dJ C;have L:=dJ R;have aA:Hid (k<N):=hk;unfold atV at HA;obtain⟨E,hE⟩:=xJ (Fa f g (BP f k));obtain⟨T,hT⟩:=xJ (Lq f g (BP f k));rw[hE,hT]at HA m;clear hE hT hi J I hk C R;by_cases hz:E=0
    ·have q1:(E != 0)=false:=by simp[hz]
     subst hz;rw[yr rfl]at HA;rw[yt (by simp)]at m
     cases T with
     | true =>
      have t:Hid (Ey f g=E4 f g (N-(k+1)) (k+1)):=by show _=_;rw[m,yr rfl]
      clear m;gi_wp2_with (refine⟨trivial,?_⟩;gi_at_call 18;refine(CallsIn.inRound l (callsIn_wide.2 HA.out)).mono ?_;rintro e w5 ⟨rfl,F⟩);exact⟨F.keeps.from _,G0.out.trans F,t.out⟩
     | false =>
      have t:Hid (Ey f g=((k:Int),true,0)):=by show _=_;rw[m,yt (by decide)]
      clear m;gi_wp2_with (refine⟨trivial,?_⟩;gi_at_call 18;refine(CallsIn.inRound l (callsIn_wide.2 HA.out)).mono ?_;rintro e w5 ⟨rfl,F⟩;obtain⟨-,x4,x5,x6,y4,y5,y6⟩:=M.out w5 (L.out.trans F));refine⟨(F.keeps.trans (((KeepsOthers.setCell _ _ _).trans (KeepsOthers.setCell _ _ _)).trans (KeepsOthers.setCell _ _ _))).from _,?_,j.out _ _ _ _ (L.out.trans F)⟩;rw[t.out];exact Res3.set (M.out w5 (L.out.trans F)).1 _ _ _
    ·have q1:(E != 0)=true:=by simp[hz]
     have t:Hid (Ey f g=(0,false,E)):=by show _=_;rw[m,yr hz]
     rw[yt hz]at HA;clear m hz;gi_wp2_with (refine⟨trivial,?_⟩;gi_at_call 18;refine(CallsIn.inRound l (callsIn_wide.2 HA.out)).mono ?_;rintro e w5 ⟨rfl,F⟩;obtain⟨-,x4,x5,x6,y4,y5,y6⟩:=M.out w5 (L.out.trans F));refine⟨(F.keeps.trans (((KeepsOthers.setCell _ _ _).trans (KeepsOthers.setCell _ _ _)).trans (KeepsOthers.setCell _ _ _))).from _,?_,j.out _ _ _ _ (L.out.trans F)⟩;rw[t.out];exact Res3.set (M.out w5 (L.out.trans F)).1 _ _ _
   case hdone =>
    rintro D O hD ⟨C,I⟩ hK;have t:Hid (Ey f g=(0,false,0)):=I.trans (KX f g N);have L:=dJ (GV.out.trans C);have am:Hid (d.heap.size+1+1<D):=by show _<_;have:=aa.out;omega
    have ao:Hid (((((O.setCell ⟨d.heap.size,0,none⟩ (.int .i64 0)).setCell ⟨d.heap.size+1,0,none⟩ (.bool false)).setCell ⟨d.heap.size+1+1,0,none⟩ (.int .i64 0))).heap[D]?=some (.deferred (some []))) :=
     (((KeepsOthers.setCell _ _ _).trans (KeepsOthers.setCell _ _ _)).trans (KeepsOthers.setCell _ _ _)).same D _ hK rfl
    have HD:Hid (w.heap.size<=D):=by show _<=_;have:=ab.out;omega
    obtain⟨-,x4,x5,x6,y4,y5,y6⟩:=M.out O L.out;clear hK I C;go_wp2;refine wI (w0:=w) (r:=(0,false,0)) rfl ao.out am.out rfl rfl rfl (Res3.set (M.out O L.out).1 _ _ _) (j.out _ _ _ _ L.out) HD.out ?_;exact fun w' q=>⟨dv (by rw[z.out,t.out]),q⟩
   case hstop =>
    rintro D k O hD hk ⟨hr,hB⟩ hK;have an:=dJ hK;have ak:=dJ hB;have ae:=dJ hr;clear hK hB hr;go_wp2;refine wI (w0:=w) rfl an.out (by have:=aa.out;omega) rfl rfl rfl ae.out ak.out (by have:=ab.out;omega) ?_;exact fun w' q=>⟨dv (by rw[z.out]),q⟩
  ·have q1:(E2 f != 0)=true:=by simpa using h1
   have Q:Hid (eG f=.tuple #[.int .i64 (Gp f),.int .i64 (E2 f)]):=by show _=_;rfl
   rw[Q.out]at C2;have H:Hid (gz f g=.tuple #[.int .i64 0,.bool false,.int .i64 (E2 f)]):=by show _=_;rw[z.out,p.out,yt (by simp[Z]),yr h1]
   clear Z p z h1
   go_wp2_with (first|(go_at_call 49;refine(C1.out _ S.out).mono ?_;rintro e w1 ⟨rfl,U⟩;have G:Hid (Gr W w1):=U;clear U;obtain⟨⟨k0,k1,k2,k3⟩,⟨l0,l1,l2,l3⟩⟩:=HK.out w1 G.out)|(go_at_call 22;refine(C2.out _ (S.out.trans G.out)).mono ?_;rintro e y ⟨rfl,Y⟩;have G2:Hid (Gr W y):=G.out.trans Y;clear Y;obtain⟨-,x4,x5,x6,y4,y5,y6⟩:=M.out y G2.out))
   refine wH rfl rfl rfl rfl (Res3.set (M.out y G2.out).1 _ _ _) ⟨dv (by rw[H.out]),j.out _ _ _ _ G2.out⟩
 ·have q0:(X != 0)=true:=by simpa using Z
  have H:Hid (gz f g=.tuple #[.int .i64 0,.bool false,.int .i64 X]):=by show _=_;rw[z.out,p.out,yr Z]
  clear Z p z;go_wp2_with (go_at_call 49;refine(C1.out _ S.out).mono ?_;rintro e w1 ⟨rfl,U⟩;have G:=dJ U;clear U;obtain⟨-,x4,x5,x6,y4,y5,y6⟩:=M.out w1 G.out);refine wH rfl rfl rfl rfl (Res3.set (M.out w1 G.out).1 _ _ _) ⟨dv (by rw[H.out]),j.out _ _ _ _ G.out⟩
theorem rY (h:fl=0\/fl=2):gT (EJ fl):=by
 rcases h with rfl|rfl
 all_goals
  refine⟨by decide,?_,?_,?_⟩
  ·intro l hl;simp[EJ]at hl;subst hl;decide
  ·intro l hl x d;simp[EJ]at hl;subst hl;simp at d;rcases d with rfl|rfl<;>(unfold WfI;refine⟨by decide,?_,by decide,by decide⟩;intro z g;simp at g;omega)
  ·intro l hl x d;simp[EJ]at hl;subst hl;simp at d;rcases d with rfl|rfl<;>decide
theorem xk (fl:Int):Hh (EJ fl):=by
 intro l hl x d;simp[EJ]at hl;subst hl;simp at d;rcases d with rfl|rfl
 ·exact⟨Int.le_refl 0,(by decide:(0:Int)<4294967296)⟩
 ·exact⟨Int.le_refl 0,(by decide:(0:Int)<4294967296)⟩
theorem kD (h:w.heap[b]?=some (.cells (zs.map (Value.int .i64)).toArray t (0,0)))(hn:zs.length<=1000):IntsAt w.heap.size w (.slice (some ⟨b,0,none⟩) zs.length zs.length) zs :=
 ⟨_,_,rfl,yJ _,by omega,fun _=>⟨_,_,rfl,cY h,fun j z hz=>by rw[yo _ _ _ _ _ _ h,Nat.zero_add];simp[hz]⟩⟩
def oh (b1 b5:Nat):Value:=.agg #[.slice (some ⟨b1,0,none⟩) 2 2,.int .i64 4,.slice none 0 0,.slice (some ⟨b5,0,none⟩) 1 1]
theorem wM {b1 b2 b3 b4 b5:Nat}(r1:W.heap[b1]?=some (.cells #[.int .i64 4,.int .i64 4] 3 (0,0)))(r2:W.heap[b2]?=some (.cells #[.int .i64 0,.int .i64 1] 3 (0,0)))(r3:W.heap[b3]?=some (.cells #[.int .i64 2] 3 (0,0)))
  (r4:W.heap[b4]?=some (.cells #[.int .i64 1,.int .i64 4,.int .i64 fl,.slice (some ⟨b2,0,none⟩) 2 2,.int .u32 0,.slice none 0 0,.int .i64 31,.int .i64 0,.int .i64 0,.slice (some ⟨b3,0,none⟩) 1 1,.int .u32 0,.slice none 0 0] 68 (0,0)))
  (r5:W.heap[b5]?=some (.cells #[.slice (some ⟨b4,0,none⟩) 2 2] 66 (0,0))):FnAt W.heap.size W (oh b1 b5) (EJ fl):=by
 have d:∀o,W.cell? ⟨b4,o,none⟩=_:=fun o=>yo _ _ o _ _ _ r4;have l:∀o,W.cell? ⟨b5,o,none⟩=_:=fun o=>yo _ _ o _ _ _ r5;have g:IntsAt W.heap.size W (.slice none 0 0) []:=⟨none,0,rfl,yJ _,by simp,fun h=>by simp at h⟩;have m:=kD (zs:=[4,4]) r1 (by decide);have p:=kD (zs:=[0,1]) r2 (by decide);have q:=kD (zs:=[2]) r3 (by decide)
 have r:BlkAt W.heap.size W (.slice (some ⟨b4,0,none⟩) 2 2) [⟨1,4,fl,[0,1],0,[]⟩,⟨31,0,0,[2],0,[]⟩]:=by
  refine⟨_,_,rfl,yJ _,by simp,fun _=>⟨_,_,rfl,cY r4,fun j y hy=>?_⟩⟩
  match j,hy with
  | 0,hy=>simp at hy;subst hy;exact⟨_,_,d 0,d 1,d 2,d 3,d 4,d 5,p,g⟩
  | 1,hy=>simp at hy;subst hy;exact⟨_,_,d 6,d 7,d 8,d 9,d 10,d 11,q,g⟩
 have t:BlksAt W.heap.size W (.slice (some ⟨b5,0,none⟩) 1 1) [[⟨1,4,fl,[0,1],0,[]⟩,⟨31,0,0,[2],0,[]⟩]]:=by
  refine⟨_,_,rfl,yJ _,by simp,fun _=>⟨_,_,rfl,cY r5,fun j y hy=>?_⟩⟩
  match j,hy with
  | 0,hy=>simp at hy;subst hy;exact⟨_,l 0,r⟩
 exact⟨_,_,_,rfl,m,g,t⟩
theorem jW {V:World}(h:w.alloc o=V):V.heap[w.heap.size]?=some o:=by rw[<-h];exact heap_alloc_new w o
theorem vV (fl:Int)(w:World):Calls prog 32 #[.int .i64 fl] w fun e w'=>∃b1 b5,e=.returned (oh b1 b5)/\FnAt w'.heap.size w' (oh b1 b5) (EJ fl)/\Gr w w':=by
 obtain⟨d,C⟩:=xJ (w.alloc (.cells #[.slice none 0 0,.int .i64 0,.slice none 0 0,.slice none 0 0] 36));obtain⟨t,L⟩:=xJ (d.alloc (.cells #[.int .i64 4,.int .i64 4] 3));obtain⟨u,M⟩:=xJ (t.alloc (.cells #[.int .i64 0,.int .i64 1] 3));obtain⟨y,N⟩:=xJ (u.alloc (.cells #[.int .i64 2] 3));obtain⟨l,O⟩:=xJ (y.alloc (.cells #[.int .i64 1,.int .i64 4,.int .i64 fl,.slice (some ⟨t.heap.size,0,none⟩) 2 2,.int .u32 0,.slice none 0 0,.int .i64 31,.int .i64 0,.int .i64 0,.slice (some ⟨u.heap.size,0,none⟩) 1 1,.int .u32 0,.slice none 0 0] 68));obtain⟨q,Q⟩:=xJ (l.alloc (.cells #[.slice (some ⟨y.heap.size,0,none⟩) 2 2] 66));obtain⟨W,R⟩:=xJ ((((q.setCell ⟨w.heap.size,0,none⟩ (.slice (some ⟨d.heap.size,0,none⟩) 2 2)).setCell ⟨w.heap.size,1,none⟩ (.int .i64 4)).setCell ⟨w.heap.size,2,none⟩ (.slice none 0 0)).setCell ⟨w.heap.size,3,none⟩ (.slice (some ⟨l.heap.size,0,none⟩) 1 1));have K:Gr w d:=by rw[<-C];exact(yO _).alloc _
 have z:Gr d t:=by rw[<-L];exact(yO _).alloc _
 have r:Gr t u:=by rw[<-M];exact(yO _).alloc _
 have m:Gr u y:=by rw[<-N];exact(yO _).alloc _
 have g:Gr y l:=by rw[<-O];exact(yO _).alloc _
 have j:Gr l q:=by rw[<-Q];exact(yO _).alloc _
 have F:=jW C;have G:=jW L;have H:=jW M;have I:=jW N;have J:=jW O;have Z:=jW Q;have s0:d.heap.size=w.heap.size+1:=by rw[<-C];simp
 have k1:=z.size;have k2:=r.size;have k3:=m.size;have k4:=g.size
 have D:FrS (·=w.heap.size) q W:=by rw[<-R];exact((((FrS.refl (·=w.heap.size) q).setCell (p:=⟨w.heap.size,0,none⟩) rfl _).setCell (p:=⟨w.heap.size,1,none⟩) rfl _).setCell (p:=⟨w.heap.size,2,none⟩) rfl _).setCell (p:=⟨w.heap.size,3,none⟩) rfl _
 have st:∀(k:Nat)(o:Obj),q.heap[k]?=some o->k≠w.heap.size->W.heap[k]?=some o:=fun k o h hk=>(D.block k (cY h) hk).trans h;have S:=st _ _ ((r.trans (m.trans (g.trans j))).heap _ (cY G) |>.trans G) (by omega);have T:=st _ _ ((m.trans (g.trans j)).heap _ (cY H) |>.trans H) (by omega);have U:=st _ _ ((g.trans j).heap _ (cY I) |>.trans I) (by omega);have X:=st _ _ (j.heap _ (cY J) |>.trans J) (by omega);have Y:=st _ _ Z (by omega);have B:=dJ (wM (fl:=fl) S T U X Y);have A:=(z.trans (r.trans (m.trans (g.trans j)))).heap _ (cY F) |>.trans F;have E:=cX (i:=3) (.slice (some ⟨l.heap.size,0,none⟩) 1 1) (cX (i:=2) (.slice none 0 0) (cX (i:=1) (.int .i64 4) (cX (i:=0) (.slice (some ⟨d.heap.size,0,none⟩) 2 2) A)));rw[R]at E;have HG:Hid (Gr w W):=gr_frs' (K.trans (z.trans (r.trans (m.trans (g.trans j))))) D (fun k hk=>by omega);obtain⟨c0,c1,c2,c3⟩:=crw4 A 0 1 2 3;obtain⟨f0,f1,f2,f3⟩:=frw4 A 0 1 2 3;obtain⟨z0,z1,z2,z3⟩:=crw4 E 0 1 2 3;clear K z r m g j F G H I J Z s0 k1 k2 k3 k4 D st S T U X Y A E
 go_enter func32, ntmps32
 go_wp2;refine yq (v:=oh d.heap.size l.heap.size) (by simp[results,results32,go_sem,z0,z1,z2,z3,oh]) rfl ?_;exact⟨_,_,rfl,B.out,HG.out⟩
theorem pj (w:World):Calls prog 11 #[] w (RG (.bool true) w):=by
 have q:Hid (∀(fl:Int)(u:World),Calls prog 32 #[.int .i64 fl] u fun e w'=>∃j m,e=.returned (oh j m)/\FnAt w'.heap.size w' (oh j m) (EJ fl)/\Gr u w'):=vV;have H:Hid (∀(u:World)(a b c d:Nat)(k l:Int),k=0\/k=2->l=0\/l=2->FnAt u.heap.size u (oh a b) (EJ k)->FnAt u.heap.size u (oh c d) (EJ l)->Calls prog 28 #[oh a b,oh c d] u (RG (gz (EJ k) (EJ l)) u)):=fun u a b c d k l hk hl h1 h2=>qU h1 h2 (rY hk) (rY hl) (xk k) (xk l)
 have HI:Hid (∀(u:World)(a b:Nat),FnAt u.heap.size u (oh a b) (EJ 0)->Calls prog 22 #[oh a b] u (RG (.tuple #[.int .i64 256,.int .i64 0]) u)):=fun u a b h=>by
  have:=jR h (rY (.inl rfl));unfold eG at this
  rwa [Lj.1,Lj.2]at this
 have A:Hid (gz (EJ 2) (EJ 0)=.tuple #[.int .i64 0,.bool false,.int .i64 0]):=by show _=_;unfold gz;rw[Ou]
 have B:Hid (gz (EJ 0) (EJ 2)=.tuple #[.int .i64 23,.bool true,.int .i64 0]):=by show _=_;unfold gz;rw[OF]
 have g:Hid (∀j m,oh j m=.agg #[.slice (some ⟨j,0,none⟩) 2 2,.int .i64 4,.slice none 0 0,.slice (some ⟨m,0,none⟩) 1 1]):=fun _ _=>rfl
 go_enter func11, ntmps11
 go_wp2_with (first|(go_at_call 32;(with_reducible refine(q.out 2 w).mono ?_);rintro e w1 ⟨a1,j,rfl,r,I⟩;have U:=dJ r;have X:=dJ I;clear r I;rw[g.out])|(go_at_call 32;(with_reducible refine(q.out 0 w1).mono ?_);rintro e N ⟨a2,b2,rfl,p,C⟩;have F2:=dJ p;have Y:Hid (Gr w N):=X.out.trans C;have E:=dJ (H.out N a1 j a2 b2 2 0 (.inr rfl) (.inl rfl) (U.out.gr C) p);rw[A.out,g.out,g.out]at E;clear p C;rw[g.out])|(go_at_call 28;(with_reducible refine E.out.mono ?_);rintro e O ⟨rfl,J⟩;have Z:Hid (Gr w O):=Y.out.trans J;clear J)|(go_at_call 32;(with_reducible refine(q.out 0 O).mono ?_);rintro e Q ⟨a4,b4,rfl,t,K⟩;have W:=dJ t;have G4:Hid (Gr w Q):=Z.out.trans K;clear t K;rw[g.out])|(go_at_call 32;(with_reducible refine(q.out 2 Q).mono ?_);rintro e R ⟨a5,m,rfl,y,D⟩;have G5:Hid (Gr w R):=G4.out.trans D;have F:=dJ (H.out R a4 b4 a5 m 0 2 (.inl rfl) (.inr rfl) (W.out.gr D) y);rw[B.out,g.out,g.out]at F;clear y D;rw[g.out])|(go_at_call 28;(with_reducible refine F.out.mono ?_);rintro e S ⟨rfl,L⟩;have G6:Hid (Gr w S):=G5.out.trans L;clear L)|(go_at_call 32;(with_reducible refine(q.out 0 S).mono ?_);rintro e T ⟨a7,b7,rfl,z,M⟩;have G:=dJ (HI.out T a7 b7 z);rw[g.out]at G;have G7:Hid (Gr w T):=G6.out.trans M;clear z M;rw[g.out])|(go_at_call 22;refine G.out.mono ?_;rintro e w8 ⟨rfl,g8⟩))
 go_ret;exact⟨rfl,G7.out.trans g8⟩
end
section
open Go.RowKit Go.Deep Go.ChangeShapes Go.WideShapes
section
variable {H:Type}{enc:TypeId × Value->H}{w:World}
theorem sQ {x:DataW H × List MemPlace}(h:DataW.trod enc prog w 0 (fun _=>true) true fuel 39 [v]=some x):∃zs,nF w v zs:=by
 rcases open_ints underlying39 underlying22 (by kernel_rfl) h with ⟨g,-⟩|⟨a,l,c,zs,g,-,hl,u,C,rfl,d,y⟩
 ·obtain rfl:v=.slice none 0 0:=by simpa using g
  exact⟨[],⟨none,0,rfl,by simp,by simp⟩,fun _=>⟨none,0,rfl,by simp,by simp,by simp⟩,by simp⟩
 ·obtain rfl:v=.slice (some a) l c:=by simpa using g
  simp only[if_true]at C;have hlen:(zs.take l).length=l:=by simp;omega
  have D:c<=9223372036854775807:=u;refine⟨zs.take l,⟨some a,c,by rw[hlen],by rw[hlen];exact hl,by rw[hlen];omega⟩,fun B=>⟨some a,c,by rw[hlen],by rw[hlen];exact hl,by omega,fun A=>?_⟩,fun z hz'=>by have:=bounds_u32 (y z (List.mem_of_mem_take hz'));omega⟩;rw[hlen]at A;have p:=d 0 (by omega);obtain⟨b,off,q⟩:=a;have m:q=none:=by simpa[Addr.add] using World.cell?_spot p
  subst m;refine⟨b,off,rfl,by simpa[Addr.add] using iK p,fun j z r=>?_⟩
  have t:j<l:=by have:=(xS.1 r).1;rw[hlen]at this;exact this
  rw[yf,yr t]at r;have:=d j (by omega);rw[add_plain]at this;simpa[List.getD,r] using this
theorem uq {x:DataW H × List MemPlace}(h:DataW.trod enc prog w 0 (fun _=>true) true fuel 25 [v]=some x)
  (hw:∀m∈x.1.weights prog 25,m<=reachBytes):∃t,TabAt w.heap.size w v t:=by
 have C:Program.cellsOf prog 33=1:=by kernel_rfl
 have L:Program.bytesOf prog 33=24:=by kernel_rfl
 have M:reachBytes=0x7ffffffff000:=rfl;rcases open_slice1 underlying25 C h with ⟨g,-⟩|⟨a,l,c,m,n,V,D,N,g,-,hl,-,I,rfl,E⟩
 ·obtain rfl:v=.slice none 0 0:=by simpa using g
  exact⟨[],⟨none,0,rfl,by simp,by simp,by simp⟩⟩
 ·obtain rfl:v=.slice (some a) l c:=by simpa using g
  simp only[if_true]at I;subst I;have A:=hw _ (by simp only[DataW.weights,underlying25];exact List.mem_cons_self);simp only[yl,List.length_range]at A;rw[L,M]at A
  obtain⟨X,K⟩:=choose_lt (α:=List Int) (n:=l) (p:=fun i X=>IntsAt w.heap.size w (V i) X) (fun i hi=>by
    obtain⟨zs,F,-⟩:=fF (E i (by omega)).2 (fun k hk=>hw k (by
      simp only[DataW.weights,underlying25]
      refine List.mem_cons_of_mem _ (yz.2 (Or.inl (eE (d:=D i) (List.mem_map.2 ⟨i,List.mem_range.2 hi,rfl⟩) hk)))))
    exact⟨zs,F⟩)
  have hlen:((List.range l).map X).length=l:=by simp
  refine⟨(List.range l).map X,⟨some a,m,by rw[hlen],by rw[hlen];exact hl,by rw[hlen];omega,fun J=>?_⟩⟩;rw[hlen]at J;have u:=(E 0 (by omega)).1;obtain⟨b,off,B⟩:=a;have r:B=none:=by simpa[Addr.add] using World.cell?_spot u
  subst r;refine⟨b,off,rfl,by simpa[Addr.add] using iK u,fun j z G=>?_⟩
  have y:j<l:=by have:=(xS.1 G).1;rw[hlen]at this;exact this
  obtain rfl:X j=z:=by simpa[y] using G
  have q:=(E j (by omega)).1;rw[add_plain]at q;exact⟨V j,q,K j y⟩
theorem tF {d:DataW H}{p:List MemPlace}(hv:Value.okWide prog w .any 0 41 v)(h:DataW.Trod enc prog w 0 (fun _=>true) true 41 v d p)
  (hw:∀m∈d.weights prog 41,m<=reachBytes):∃(i:CG)(va vm:Value),v=.agg #[va,vm]/\nF w va i.args/\TabAt w.heap.size w vm i.mem:=by
 obtain⟨v0,r,u,y,n,rfl,rfl,-,g,j⟩:=Go.Joins.open_agg2 underlying41 (by kernel_rfl) (by kernel_rfl) hv h;obtain⟨zs,l⟩:=sQ g;obtain⟨t,q⟩:=uq j (fun m hm=>hw m (by simp[DataW.weights,underlying41,DataW.weightsEach,hm]));exact⟨⟨zs,t⟩,v0,r,rfl,l,q⟩
theorem wV (hs:∀l∈f.b,∀z∈l,uC z):Hh f:=fun l hl x d=>(hs l hl x d).1
end
end
section
open Go.RowKit Go.Shelf Go.Deep Go.ChangeShapes Go.WideShapes
section
variable {H:Type}{enc:TypeId × Value->H}{w:World}
end
end
section
open Go.RowKit Go.Shelf
theorem uG {u:World}{va:Value}{i:CG}(ha:nF w va i.args)(hm:TabAt w.heap.size w vm i.mem)(h:jr i=false)(g:Gr w u):InpAt u.heap.size u va vm i:=by
 have hl:i.args.length<=20:=by unfold jr at h;simp only[Bool.or_eq_false_iff,decide_eq_false_iff_not]at h;omega
 exact InpAt.gr ⟨ha.at_ (by omega),hm,fun z d=>(ha.words z d).1⟩ g
theorem lawRefineWorsts_any (hf:FnAt w.heap.size w vf f)(nf:eV f=false->gT f)(im:Hh f){i:CG}{va:Value}(ha:nF w va i.args)(hm:TabAt w.heap.size w vm i.mem) :
  Calls prog 9 #[vf,.agg #[va,vm]] w (RG (.bool true) w):=by
 have l:Hid (∀g,Calls prog 11 #[] g (RG (.bool true) g)):=pj;have C:Hid (∀u,Gr w u->Calls prog 16 #[vf] u (RG (.bool (eV f)) u)):=fun u q=>tc _ f u (hf.gr q);have O:Hid (∀u,Gr w u->Calls prog 17 #[.agg #[va,vm]] u (RG (.bool (jr i)) u)):=fun u q=>uy ha.len (hm.gr q);have y:Hid (eV f=false->jr i=false->∀u,Gr w u->Calls prog 30 #[vf,.agg #[va,vm]] u (RG (.tuple #[.int .i64 (gR f i),.int .i64 (mL f i)]) u)):=fun h1 h3 u q=>sU (hf.gr q) (nf h1) im (uG ha hm h3 q);have z:Hid (eV f=false->jr i=false->∀u,Gr w u->Calls prog 31 #[vf,.agg #[va,vm]] u (RG (.tuple #[.int .i64 (gR f i),.int .i64 (mL f i)]) u)):=fun h1 h3 u q=>nl (hf.gr q) (nf h1) im (uG ha hm h3 q) ha.words;obtain⟨vp,vs,vb,rfl,⟨Ap,cp,rfl,-⟩,⟨As,cs,rfl,-⟩,⟨Z,cb,rfl,-⟩⟩:=hf;obtain⟨Y,ca,rfl,-⟩:=id ha.len;obtain⟨Am,cm,rfl,-⟩:=id hm;obtain⟨W,hW⟩:=xJ ((w.alloc (.cells #[.slice Ap f.p.length cp,.int .i64 f.ret,.slice As f.s.length cs,.slice Z f.b.length cb] 36)).alloc (.cells #[.slice Y i.args.length ca,.slice Am i.mem.length cm] 41));obtain⟨S,-,p⟩:=nN hW;have B:=dJ p;obtain⟨F,G,H,I,J,K⟩:=p W (yO _);have d:=dJ S;obtain⟨n1,r⟩:=xJ (eV f);obtain⟨n4,t⟩:=xJ (jr i);obtain⟨R,X⟩:=xJ (gR f i);obtain⟨E,U⟩:=xJ (mL f i);rw[r]at C;rw[t]at O;rw[r,t,X,U]at y z;have s1:(R == R)=true:=by simp
 have s2:(E == E)=true:=by simp
 clear nf im ha hm S p r t X U
 cases n1 with
 | true =>
  clear y z
  go_enter func9, ntmps9
  go_wp2_with (first|(go_at_call 16;refine(C.out _ d.out).mono ?_;rintro e g ⟨rfl,m⟩)|(go_at_call 11;refine(l.out _).mono ?_;rintro e L ⟨rfl,A⟩))
  go_ret;exact⟨rfl,d.out.trans (m.trans A)⟩
 | false =>
  cases n4 with
  | true =>
   clear y z
   go_enter func9, ntmps9
   go_wp2_with (first|(go_at_call 16;refine(C.out _ d.out).mono ?_;rintro e g ⟨rfl,m⟩;have j:Hid (Gr W g):=m;clear m;obtain⟨F,G,H,I,J,K⟩:=B.out g j.out)|(go_at_call 17;refine(O.out _ (d.out.trans j.out)).mono ?_;rintro e L ⟨rfl,A⟩)|(go_at_call 11;refine(l.out _).mono ?_;rintro e Q ⟨rfl,D⟩))
   go_ret;exact⟨rfl,d.out.trans (j.out.trans (A.trans D))⟩
  | false =>
   replace y:=dJ (y.out rfl rfl);replace z:=dJ (z.out rfl rfl)
   go_enter func9, ntmps9
   go_wp2_with (first|(go_at_call 16;refine(C.out _ d.out).mono ?_;rintro e g ⟨rfl,m⟩;have j:Hid (Gr W g):=m;clear m;obtain⟨F,G,H,I,J,K⟩:=B.out g j.out)|(go_at_call 17;refine(O.out _ (d.out.trans j.out)).mono ?_;rintro e L ⟨rfl,A⟩;have M:Hid (Gr W L):=j.out.trans A;clear A;obtain⟨F,G,H,I,J,K⟩:=B.out L M.out)|(go_at_call 30;refine(y.out _ (d.out.trans M.out)).mono ?_;rintro e Q ⟨rfl,D⟩;have N:Hid (Gr W Q):=M.out.trans D;clear D;obtain⟨F,G,H,I,J,K⟩:=B.out Q N.out)|(go_at_call 31;refine(z.out _ (d.out.trans N.out)).mono ?_;rintro e w4 ⟨rfl,T⟩;have G4:Hid (Gr W w4):=N.out.trans T;clear T)|(go_at_call 11;refine(l.out _).mono ?_;rintro e w5 ⟨rfl,g5⟩))
   go_ret;exact⟨rfl,d.out.trans (G4.out.trans g5)⟩
end
end
