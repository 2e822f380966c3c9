import Derived.Test.YtjkajidbdmbbaaaGreatN21
import Derived.Test.YtjkajidbdmbbaaaGreatN22
set_option linter.unusedSimpArgs false
set_option linter.unusedVariables false
set_option maxRecDepth 100000
set_option maxHeartbeats 16000000
open Go.Proofs.Tryz
namespace Go.Proofs.YtjkajidbdmbbaaaGreat
open Ref Rn Wd Ir Rf
section
open Go.RowKit
section
variable (a b:Int)(w:World)
theorem rE (ha:-4611686018427387904<a/\a<4611686018427387904)(hb:-4611686018427387904<b/\b<4611686018427387904):Calls prog 220 #[.int .i64 a,.int .i64 b] w (RS (.int .i64 (a+b)) w):=by
 obtain⟨d,g⟩:=ha;obtain⟨j,l⟩:=hb
 go_enter func220, ntmps220
 go_wp2;go_ret;exact⟨rfl,rfl⟩
theorem rF (ha:-4611686018427387904<a/\a<4611686018427387904)(hb:-4611686018427387904<b/\b<4611686018427387904):Calls prog 222 #[.int .i64 a,.int .i64 b] w (RS (.int .i64 (a-b)) w):=by
 obtain⟨d,g⟩:=ha;obtain⟨j,l⟩:=hb
 go_enter func222, ntmps222
 go_wp2;go_ret;exact⟨rfl,rfl⟩
end
def ic (a b:Int):Int:=if 4611686018427387904<=a*b\/a*b<=-4611686018427387904 then 4611686018427387904 else a*b
theorem rG (a b:Int)(w:World)(ha:-4294967296<a/\a<4294967296)(hb:-4294967296<b/\b<4294967296):Calls prog 224 #[.int .i64 a,.int .i64 b] w (RS (.int .i64 (ic a b)) w):=by
 have t:∀(x y:Int)(m n:Nat),(x=m\/x=-m)->(y=n\/y=-n)->((m*n:Nat):Int)=x*y\/((m*n:Nat):Int)=-(x*y):=by
  rintro x y m n (rfl|rfl) (rfl|rfl)
  ·left;simp
  ·right;simp[Int.mul_neg]
  ·right;simp[Int.neg_mul]
  ·left;simp[Int.neg_mul,Int.mul_neg]
 obtain⟨m,E⟩:∃m:Nat,a=m\/a=-m:=⟨a.natAbs,by omega⟩;obtain⟨n,G⟩:∃n:Nat,b=n\/b=-n:=⟨b.natAbs,by omega⟩;have F:m<4294967296:=by omega
 have H:n<4294967296:=by omega
 have r:m*n<18446744073709551616:=Nat.lt_of_le_of_lt (Nat.mul_le_mul (Nat.le_of_lt_succ (by omega:m<4294967295+1)) (Nat.le_of_lt_succ (by omega:n<4294967295+1))) (by decide);have u:=dJ (t a b m n E G);obtain⟨p,j⟩:=xJ (m*n)
 have C:Hid (∀l,Calls prog 225 #[.int .u64 m,.int .u64 n] l (RS (.tuple #[.int .u64 0,.int .u64 (p:Int)]) l)):=fun l=>by refine(Tryz.bits_Mul64 m n (by omega) (by omega) l).mono ?_;rintro e w' ⟨rfl,rfl⟩;rw[j]at r ⊢;rw[Nat.div_eq_of_lt r,Nat.mod_eq_of_lt r];exact⟨rfl,rfl⟩
 rw[j]at r u;have I:0<=(p:Int):=by omega
 have J:(p:Int)<18446744073709551616:=by omega
 have z:=dJ E;have B:=dJ G;clear j t E G ha hb r;obtain⟨M,D⟩:∃M:Int,(m:Int)=M:=⟨_,rfl⟩;obtain⟨N,hN⟩:∃N:Int,(n:Int)=N:=⟨_,rfl⟩;obtain⟨q,K⟩:∃q:Int,(p:Int)=q:=⟨_,rfl⟩;have Y:0<=M:=by omega
 have Z:M<4294967296:=by omega
 have n1:0<=N:=by omega
 have n2:N<4294967296:=by omega
 rw[D,hN,K]at C;rw[D]at z;rw[hN]at B;rw[K]at u I J;clear D hN K F H
 have L:Hid (ic a b=if 4611686018427387904<=q then 4611686018427387904 else a*b):=by show _=_;unfold ic;have:=u.out;split<;>split<;>omega
 have U:max a (-a)=M:=by have:=z.out;omega
 have W:max b (-b)=N:=by have:=B.out;omega
 have Q:-4294967296<a:=by have:=z.out;omega
 have R:a<4294967296:=by have:=z.out;omega
 have S:-4294967296<b:=by have:=B.out;omega
 have T:b<4294967296:=by have:=B.out;omega
 by_cases d:4611686018427387904<=q
 ·have g:Hid (ic a b=4611686018427387904):=by show _=_;rw[L.out,yr d]
  go_enter func224, ntmps224
  go_wp2_with (go_at_call 225;refine(C.out _).mono ?_;rintro e l ⟨rfl,rfl⟩);go_ret;exact⟨dg g.out.symm,rfl⟩
 ·have g:Hid (ic a b=a*b):=by show _=_;rw[L.out,yt d]
  have X:IntKind.i64.wrap (a*b)=a*b:=IntWalk.i64_in _ (by have:=u.out;omega);have O:q<4611686018427387904:=by omega
  clear d
  go_enter func224, ntmps224
  go_wp2_with (go_at_call 225;refine(C.out _).mono ?_;rintro e l ⟨rfl,rfl⟩);go_ret;exact⟨dg g.out.symm,rfl⟩
def noQ (n a b:Int):Prop:=b=0\/(zU n a=-m9 (n-1)/\zU n b=-1)
theorem sd {n b:Int}(hn:zi n)(hb:yX n b):zU n b=0↔b=0:=by have d:=Ft hn;have g:=BC (n-1);obtain⟨j,l⟩:=hb;unfold zU;split<;>omega
theorem ey {n:Int}(hn:zi n):∃k:Nat,n-1=(k:Int)/\(2:Int) ^ k=m9 (n-1)/\k<64/\0<m9 (n-1)/\m9 (n-1)<=2147483648:=by
 obtain⟨g,j⟩:=hn;obtain⟨k,d⟩:=xZ (show 0<=n-1 by omega);refine⟨k,d,by unfold m9;rw[d,ya],by omega,BC _,?_⟩;have:=Hg (n:=n-1) (m:=31) (by omega);have e:m9 31=2147483648:=by decide
 omega
theorem jg (n a b:Int)(w:World)(hn:zi n)(ha:yX n a)(hb:yX n b)(hq:noQ n a b):Calls prog 231 #[.int .i64 n,.int .u32 a,.int .u32 b] w (RS (.tuple #[.int .i64 0,.int .i64 0,.bool false]) w):=by
 have g:=dJ fun d=>dA n a d hn ha;have j:=dJ fun d=>dA n b d hn hb
 have hq:(zU n b=0)\/(zU n b=-1/\zU n a=-m9 (n-1)):=by
  rcases hq with h|⟨l,m⟩
  ·exact .inl ((sd hn hb).2 h)
  ·exact .inr ⟨m,l⟩
 obtain⟨k,t,r,u,l,m⟩:=ey hn;obtain⟨z,A⟩:=id hn;obtain⟨h,hh⟩:=xJ (m9 (n-1));obtain⟨x,p⟩:=xJ (zU n a);obtain⟨y,q⟩:=xJ (zU n b);rw[hh]at r l m hq;rw[p]at g hq;rw[q]at j hq;clear hh p q ha hb hn;rcases hq with rfl|⟨rfl,rfl⟩
 ·go_enter func231, ntmps231
  go_wp2_with (go_at_call 208;first|((with_reducible refine(g.out _).mono ?_);rintro e d ⟨rfl,rfl⟩)|((with_reducible refine(j.out _).mono ?_);rintro e d ⟨rfl,rfl⟩));exact yq (v:=.tuple #[.int .i64 0,.int .i64 0,.bool false]) (by simp[results,results231,go_sem]) rfl ⟨rfl,rfl⟩
 ·go_enter func231, ntmps231
  go_wp2_with (go_at_call 208;first|((with_reducible refine(g.out _).mono ?_);rintro e d ⟨rfl,rfl⟩)|((with_reducible refine(j.out _).mono ?_);rintro e d ⟨rfl,rfl⟩));exact yq (v:=.tuple #[.int .i64 0,.int .i64 0,.bool false]) (by simp[results,results231,go_sem]) rfl ⟨rfl,rfl⟩
theorem fJ (n a b:Int)(w:World)(hn:zi n)(ha:yX n a)(hb:yX n b)(hq:¬noQ n a b):Calls prog 231 #[.int .i64 n,.int .u32 a,.int .u32 b] w (RG (.tuple #[.int .i64 ((zU n a).tdiv (zU n b)),.int .i64 ((zU n a).tmod (zU n b)),.bool true]) w):=by
 have m:=dJ fun l=>dA n a l hn ha;have p:=dJ fun l=>dA n b l hn hb
 have hq:zU n b≠0/\¬(zU n b=-1/\zU n a=-m9 (n-1)):=by unfold noQ at hq;refine⟨fun h=>hq (.inl ((sd hn hb).1 h)),fun h=>hq (.inr ⟨h.2,h.1⟩)⟩
 have u:=Eo hn ha;obtain⟨k,D,z,E,A,B⟩:=ey hn;obtain⟨F,G⟩:=id hn;obtain⟨h,hh⟩:=xJ (m9 (n-1));obtain⟨x,r⟩:=xJ (zU n a);obtain⟨y,t⟩:=xJ (zU n b);rw[hh]at z A B hq u;rw[r]at m hq u ⊢;rw[t]at p hq ⊢;clear hh r t ha hb hn;obtain⟨C,q⟩:=hq;have d1:(y == 0)=false:=by simpa using C
 have g:=Int.natAbs_tdiv_le_natAbs x y;have j:(x.tmod y).natAbs<=x.natAbs:=by rw[Int.natAbs_tmod];exact Nat.mod_le _ _
 have l:IntKind.i64.wrap (x.tdiv y)=x.tdiv y:=IntWalk.i64_in _ (by omega);have H:IntKind.i64.wrap (x.tmod y)=x.tmod y:=IntWalk.i64_in _ (by omega);by_cases d:y=-1
 ·have d3:(x == -h)=false:=by simp;intro e;exact q ⟨d,e⟩
  have d2:(y == -1)=true:=by simp[d]
  clear q g j d
  go_enter func231, ntmps231
  go_wp2_with (go_at_call 208;first|((with_reducible refine(m.out _).mono ?_);rintro e l ⟨rfl,rfl⟩)|((with_reducible refine(p.out _).mono ?_);rintro e l ⟨rfl,rfl⟩));go_quiet ((fail));all_goals go_wp2
  all_goals exact yq (v:=.tuple #[.int .i64 (x.tdiv y),.int .i64 (x.tmod y),.bool true]) (by simp[results,results231,go_sem]) rfl ⟨rfl,(yO w).drewN _⟩
 ·have d2:(y == -1)=false:=by simpa using d
  clear q g j d
  go_enter func231, ntmps231
  go_wp2_with (go_at_call 208;first|((with_reducible refine(m.out _).mono ?_);rintro e l ⟨rfl,rfl⟩)|((with_reducible refine(p.out _).mono ?_);rintro e l ⟨rfl,rfl⟩));go_quiet ((fail));all_goals go_wp2
  all_goals exact yq (v:=.tuple #[.int .i64 (x.tdiv y),.int .i64 (x.tmod y),.bool true]) (by simp[results,results231,go_sem]) rfl ⟨rfl,(yO w).drewN _⟩
theorem vP (n a b:Int)(w:World)(ha:0<=a/\a<4294967296)(hb:0<b/\b<4294967296):Calls prog 228 #[.int .i64 n,.int .u32 a,.int .u32 b] w (RS (.bool (decide (a%b≠0))) w):=by
 obtain⟨d,g⟩:=ha;obtain⟨j,l⟩:=hb;have m:(b == 0)=false:=by simp;omega
 have p:0<=a%b:=Int.emod_nonneg _ (by omega);have q:a%b<b:=Int.emod_lt_of_pos _ (by omega)
 go_enter func228, ntmps228
 go_wp2_with (fail);go_ret;exact⟨cZ (by rw[Bool.eq_iff_iff];simp),rfl⟩
theorem tR (n a b:Int)(w:World)(hn:zi n)(ha:yX n a)(hb:yX n b)(hq:¬noQ n a b):Calls prog 232 #[.int .i64 n,.int .u32 a,.int .u32 b] w (RG (.bool (decide ((zU n a).tmod (zU n b)≠0))) w):=by
 have g:=dJ fun l=>fJ n a b l hn ha hb hq;obtain⟨x,j⟩:=xJ ((zU n a).tdiv (zU n b));obtain⟨y,d⟩:=xJ ((zU n a).tmod (zU n b));rw[j,d]at g;rw[d];clear hn ha hb hq j d
 go_enter func232, ntmps232
 go_wp2_with (go_at_call 231;refine(g.out _).mono ?_;rintro e l ⟨rfl,m⟩);go_ret;exact⟨cZ (by rw[Bool.eq_iff_iff];simp),m⟩
theorem tS (n a b:Int)(w:World)(hn:zi n)(ha:yX n a)(hb:yX n b)(hq:¬noQ n a b):Calls prog 233 #[.int .i64 n,.int .u32 a,.int .u32 b] w (RG (.tuple #[.int .u32 ((zU n a).tmod (zU n b)%m9 n),.bool true]) w):=by
 have m:=dJ fun d=>fJ n a b d hn ha hb hq;have l:=dJ fun d=>dG n d hn;have g:=dJ (EH ((zU n a).tmod (zU n b)) hn);obtain⟨x,q⟩:=xJ ((zU n a).tdiv (zU n b));obtain⟨y,j⟩:=xJ ((zU n a).tmod (zU n b));obtain⟨s,p⟩:=xJ (m9 n-1);rw[q,j]at m;rw[p]at l g;rw[j]at g ⊢;clear hn ha hb hq q j p
 go_enter func233, ntmps233
 go_wp2_with (first|(go_at_call 231;refine(m.out _).mono ?_;rintro e d ⟨rfl,r⟩)|(go_at_call 147;refine(l.out _).mono ?_;rintro e d ⟨rfl,rfl⟩))
 go_ret2;rw[<-g.out];exact⟨rfl,r⟩
theorem vF (n a b:Int)(w:World)(hn:zi n)(ha:yX n a)(hb:yX n b)(hq:noQ n a b):Calls prog 233 #[.int .i64 n,.int .u32 a,.int .u32 b] w fun e w'=>(∃z,e=.returned (.tuple #[.int .u32 z,.bool false]))/\Gr w w':=by
 have l:=dJ fun d=>jg n a b d hn ha hb hq;have g:=dJ fun d=>dG n d hn;obtain⟨s,m⟩:=xJ (m9 n-1);rw[m]at g;clear hn ha hb hq m;by_cases j:b=0
 ·subst j
  go_enter func233, ntmps233
  go_wp2_with (first|(go_at_call 231;refine(l.out _).mono ?_;rintro e d ⟨rfl,rfl⟩)|(go_at_call 147;refine(g.out _).mono ?_;rintro e d ⟨rfl,rfl⟩))
  go_ret2;exact⟨⟨_,rfl⟩,yO _⟩
 ·have p:(b == 0)=false:=by simpa using j
  clear j
  go_enter func233, ntmps233
  go_wp2_with (first|(go_at_call 231;refine(l.out _).mono ?_;rintro e d ⟨rfl,rfl⟩)|(go_at_call 147;refine(g.out _).mono ?_;rintro e d ⟨rfl,rfl⟩))
  go_ret2;exact⟨⟨_,rfl⟩,yO _⟩
theorem tQ (n a b:Int)(w:World)(hn:zi n)(ha:yX n a)(hb:yX n b)(hq:¬noQ n a b):Calls prog 230 #[.int .i64 n,.int .u32 a,.int .u32 b] w (RG (.tuple #[.int .u32 ((zU n a).tdiv (zU n b)%m9 n),.bool true]) w):=by
 have m:=dJ fun d=>fJ n a b d hn ha hb hq;have l:=dJ fun d=>dG n d hn;have g:=dJ (EH ((zU n a).tdiv (zU n b)) hn);obtain⟨x,j⟩:=xJ ((zU n a).tdiv (zU n b));obtain⟨y,q⟩:=xJ ((zU n a).tmod (zU n b));obtain⟨s,p⟩:=xJ (m9 n-1);rw[j,q]at m;rw[p]at l g;rw[j]at g ⊢;clear hn ha hb hq j q p
 go_enter func230, ntmps230
 go_wp2_with (first|(go_at_call 231;refine(m.out _).mono ?_;rintro e d ⟨rfl,r⟩)|(go_at_call 147;refine(l.out _).mono ?_;rintro e d ⟨rfl,rfl⟩))
 go_ret2;rw[<-g.out];exact⟨rfl,r⟩
theorem vE (n a b:Int)(w:World)(hn:zi n)(ha:yX n a)(hb:yX n b)(hq:noQ n a b):Calls prog 230 #[.int .i64 n,.int .u32 a,.int .u32 b] w fun e w'=>(∃z,e=.returned (.tuple #[.int .u32 z,.bool false]))/\Gr w w':=by
 have p:=dJ fun d=>jg n a b d hn ha hb hq;have m:=dJ fun d=>dG n d hn;have l:=dJ fun d=>dA n a d hn ha;obtain⟨s,q⟩:=xJ (m9 n-1);obtain⟨x,j⟩:=xJ (zU n a);rw[q]at m;rw[j]at l;clear hn ha hb hq q j;by_cases g:b=0
 ·subst g;by_cases j:x<0
  all_goals
   go_enter func230, ntmps230
   go_wp2_with (first|(go_at_call 231;refine(p.out _).mono ?_;rintro e d ⟨rfl,rfl⟩)|(go_at_call 208;refine(l.out _).mono ?_;rintro e d ⟨rfl,rfl⟩)|(go_at_call 147;refine(m.out _).mono ?_;rintro e d ⟨rfl,rfl⟩))
   go_ret2;exact⟨⟨_,rfl⟩,yO _⟩
 ·have r:(b == 0)=false:=by simpa using g
  have t:(b != 0)=true:=by simpa using g
  clear g
  go_enter func230, ntmps230
  go_wp2_with (first|(go_at_call 231;refine(p.out _).mono ?_;rintro e d ⟨rfl,rfl⟩))
  go_ret2;exact⟨⟨_,rfl⟩,yO _⟩
theorem nW (a b:Int)(w:World)(ha:-4294967296<a/\a<4294967296)(hb:0<=b/\b<32)(hz:-9223372036854775808<=a*2 ^ b.toNat/\a*2 ^ b.toNat<=9223372036854775807):Calls prog 239 #[.int .i64 a,.int .i64 b] w (RS (.int .i64 (a*2 ^ b.toNat)) w):=by
 obtain⟨k,rfl⟩:=xZ hb.1;have g:k<64:=by omega
 rw[ya]at *;have d:=dJ hz;clear hb hz ha
 go_enter func239, ntmps239
 go_wp2;go_ret;exact⟨dg (by have:=d.out;unfold wrap64;omega),rfl⟩
theorem tY (n a b:Int)(w:World)(ha:0<=a/\a<4294967296)(hb:0<=b/\b<32):Calls prog 241 #[.int .i64 n,.int .u32 a,.int .u32 b] w (RS (.bool (decide (a%2 ^ b.toNat≠0))) w):=by
 obtain⟨d,g⟩:=ha;obtain⟨j,l⟩:=hb;rcases (by omega:b=0\/b=1\/b=2\/b=3\/b=4\/b=5\/b=6\/b=7\/b=8\/b=9\/b=10\/b=11\/b=12\/b=13\/b=14\/b=15\/b=16\/b=17\/b=18\/b=19\/b=20\/b=21\/b=22\/b=23\/b=24\/b=25\/b=26\/b=27\/b=28\/b=29\/b=30\/b=31) with rfl|rfl|rfl|rfl|rfl|rfl|rfl|rfl|rfl|rfl|rfl|rfl|rfl|rfl|rfl|rfl|rfl|rfl|rfl|rfl|rfl|rfl|rfl|rfl|rfl|rfl|rfl|rfl|rfl|rfl|rfl|rfl
 all_goals
  go_enter func241, ntmps241
  go_wp2_with (fail);go_ret;refine⟨cZ ?_,rfl⟩;rw[Bool.eq_iff_iff];simp
  try omega
theorem ua (n a b:Int)(w:World)(ha:0<=a/\a<4294967296)(hb:0<=b/\b<32):Calls prog 244 #[.int .i64 n,.int .u32 a,.int .u32 b] w (RS (.bool (decide (a%2 ^ b.toNat≠0))) w):=by
 obtain⟨d,g⟩:=ha;obtain⟨j,l⟩:=hb;rcases (by omega:b=0\/b=1\/b=2\/b=3\/b=4\/b=5\/b=6\/b=7\/b=8\/b=9\/b=10\/b=11\/b=12\/b=13\/b=14\/b=15\/b=16\/b=17\/b=18\/b=19\/b=20\/b=21\/b=22\/b=23\/b=24\/b=25\/b=26\/b=27\/b=28\/b=29\/b=30\/b=31) with rfl|rfl|rfl|rfl|rfl|rfl|rfl|rfl|rfl|rfl|rfl|rfl|rfl|rfl|rfl|rfl|rfl|rfl|rfl|rfl|rfl|rfl|rfl|rfl|rfl|rfl|rfl|rfl|rfl|rfl|rfl|rfl
 all_goals
  go_enter func244, ntmps244
  go_wp2_with (fail);go_ret;refine⟨cZ ?_,rfl⟩;rw[Bool.eq_iff_iff];simp
  try omega
theorem tZ (n a b:Int)(w:World)(hn:zi n)(ha:yX n a)(hb:0<=b/\b<4294967296)(hbn:n<=b):Calls prog 242 #[.int .i64 n,.int .u32 a,.int .u32 b] w fun e w'=>(∃z,e=.returned (.tuple #[.int .u32 z,.bool false]))/\w=w':=by
 have CS:=dJ fun g=>qC n a g hn ha;obtain⟨x,d⟩:∃x,(if zU n a<0 then m9 n-1 else 0)=x:=⟨_,rfl⟩;rw[d]at CS;obtain⟨j,l⟩:=hb;clear hn ha d
 go_enter func242, ntmps242
 go_wp2_with (go_at_call 243;refine(CS.out _).mono ?_;rintro e g ⟨rfl,rfl⟩);go_ret2;exact⟨⟨_,rfl⟩,rfl⟩
theorem vJ (n a b:Int)(w:World)(hn:zi n)(ha:yX n a)(hb:0<=b)(hbn:b<n):Calls prog 242 #[.int .i64 n,.int .u32 a,.int .u32 b] w (RS (.tuple #[.int .u32 (zU n a / 2 ^ b.toNat%m9 n),.bool true]) w):=by
 have j:=dJ fun d=>dG n d hn;have CS:=dJ fun d=>dA n a d hn ha;have g:=dJ (EH (zU n a / 2 ^ b.toNat) hn);obtain⟨q,r⟩:=id hn;obtain⟨s,l⟩:=xJ (m9 n-1);obtain⟨x,m⟩:=xJ (zU n a);rw[l]at j g;rw[m]at CS g ⊢;obtain⟨z,p⟩:=xJ (x / 2 ^ b.toNat%m9 n);rw[p]at g ⊢;clear hn ha l m p;rcases (by omega:b=0\/b=1\/b=2\/b=3\/b=4\/b=5\/b=6\/b=7\/b=8\/b=9\/b=10\/b=11\/b=12\/b=13\/b=14\/b=15\/b=16\/b=17\/b=18\/b=19\/b=20\/b=21\/b=22\/b=23\/b=24\/b=25\/b=26\/b=27\/b=28\/b=29\/b=30\/b=31) with rfl|rfl|rfl|rfl|rfl|rfl|rfl|rfl|rfl|rfl|rfl|rfl|rfl|rfl|rfl|rfl|rfl|rfl|rfl|rfl|rfl|rfl|rfl|rfl|rfl|rfl|rfl|rfl|rfl|rfl|rfl|rfl
 all_goals
  go_enter func242, ntmps242
  go_wp2_with (first|(go_at_call 208;refine(CS.out _).mono ?_;rintro e d ⟨rfl,rfl⟩)|(go_at_call 147;refine(j.out _).mono ?_;rintro e d ⟨rfl,rfl⟩))
  go_ret2;refine⟨?_,rfl⟩;rw[<-g.out];simp
end
