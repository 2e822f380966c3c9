import Derived.Test.YtjkajidbdmbbaaaGreatN01
import Derived.Test.YtjkajidbdmbbaaaGreatProg
import Derived.BigQuiet
import Derived.IntWalk
set_option linter.unusedSimpArgs false
set_option linter.unusedVariables false
set_option maxRecDepth 100000
set_option maxHeartbeats 16000000
open Go.Proofs.Tryz
namespace Go.Proofs.YtjkajidbdmbbaaaGreat
open Ref Rn Wd Ir Rf
open Go.RowKit
variable {a b n:Int}
theorem jk (h:a=b):Ending.returned (.int .u32 a)=.returned (.int .u32 b):=by rw[h]
theorem ret_bool' {a b:Bool}(h:a=b):Ending.returned (.bool a)=.returned (.bool b):=by rw[h]
theorem uo (h:n<=62):m9 n<=4611686018427387904:=by
 have:=Hg (n:=n) (m:=62) (by omega);have e:m9 62=4611686018427387904:=by decide
 omega
theorem eK (n:Int)(w:World):Calls prog 73 #[.int .i64 n] w (RS (.bool (F6 n)) w):=by
 go_enter func73, ntmps73
 go_wp2;all_goals go_ret
 all_goals exact⟨ret_bool' (by unfold F6;grind),rfl⟩
theorem dN (n:Int)(w:World)(h0:0<=n)(h1:n<=62):Calls prog 74 #[.int .i64 n] w (RS (.int .i64 (m9 n)) w):=by
 obtain⟨k,rfl⟩:=xZ h0;have d:=uo h1;have j:=BC (k:Int);unfold m9 at *;rw[ya]at *;have g:k<64:=by omega
 go_enter func74, ntmps74
 go_wp2;go_ret;exact⟨dg (by omega),rfl⟩
theorem dO (n x:Int)(w:World)(hn:zi n)(h0:0<=x)(h1:x<4294967296):Calls prog 200 #[.int .i64 n,.int .u32 x] w (RS (.int .i64 (zU n x)) w):=by
 obtain⟨m,p⟩:=hn;have q:=dJ fun j=>dN (n-1) j (by omega) (by omega);have r:=dJ fun j=>dN n j (by omega) (by omega);have t:=C4 ⟨m,p⟩;have u:=BC (n-1);have y:=BC n;have l:Hid (zU n x=if m9 (n-1)<=x then x-m9 n else x):=rfl;obtain⟨z,d⟩:=xJ (m9 (n-1));obtain⟨A,g⟩:=xJ (m9 n);rw[d]at q l u;rw[g]at r l y t;clear d g;by_cases h:z<=x
 all_goals
  go_enter func200, ntmps200
  go_wp2_with (first|(go_at_call 74;(with_reducible refine(q.out _).mono ?_);rintro e j ⟨rfl,rfl⟩)|(go_at_call 74;(with_reducible refine(r.out _).mono ?_);rintro e j ⟨rfl,rfl⟩))
  go_ret;refine⟨dg ?_,rfl⟩;rw[l.out]
  first|(rw[yr h])|(rw[yt (by omega)])
theorem ew (n x:Int)(w:World)(hn:zi n)(h0:-4611686018427387904<=x)(h1:x<=4611686018427387904):Calls prog 211 #[.int .i64 n,.int .i64 x] w (RS (.int .u32 (x%m9 n)) w):=by
 obtain⟨y,z⟩:=hn;have q:=dJ fun A=>dN n A (by omega) (by omega);have D:=C4 ⟨y,z⟩;have l:=BC n;obtain⟨d,j⟩:=xJ (m9 n);rw[j]at q l D ⊢;clear j;have p:=dJ (Nl x d l);have E:x.tmod d<d:=Int.tmod_lt_of_pos x l
 have F:-d<x.tmod d:=by have:=Int.tmod_lt_of_pos (-x) l;rw[Int.neg_tmod]at this;omega
 have g:d≠0:=by omega
 have J:(d == 0)=false:=by simpa using g
 have u:-9223372036854775808<=x.tmod d:=by omega
 have G:=Int.emod_nonneg x g;have H:=Int.emod_lt_of_pos x l;obtain⟨r,C⟩:=xJ (x.tmod d);obtain⟨m,B⟩:=xJ (x%d);rw[C]at p E F u;rw[B]at p G H ⊢;have I:Hid (IntKind.i64.wrap (x.tmod d)=r):=by show _=_;rw[C];exact IntWalk.i64_in _ (by omega)
 clear B;by_cases h:r<0
 ·have t:Hid (r+d=m):=by have:=p.out;rw[yr h]at this;exact this
  go_enter func211, ntmps211
  go_wp2_with (go_at_call 74;refine(q.out _).mono ?_;rintro e A ⟨rfl,rfl⟩);go_ret;exact⟨jk t.out,rfl⟩
 ·have t:Hid (r=m):=by have:=p.out;rw[yt h]at this;exact this
  go_enter func211, ntmps211
  go_wp2_with (go_at_call 74;refine(q.out _).mono ?_;rintro e A ⟨rfl,rfl⟩);go_ret;exact⟨jk t.out,rfl⟩
theorem ei (h:zi n):F6 n=true:=by unfold F6;have:=h.1;have:=h.2;simp;omega
theorem oy (h:F6 n=true):zi n:=by unfold F6 at h;simp at h;exact h
theorem en (n x:Int)(w:World)(h0:0<=x)(h1:x<4294967296):Calls prog 48 #[.int .i64 n,.int .u32 x] w (RS (.bool (Hv n x)) w):=by
 have m:=dJ fun j=>eK n j;by_cases g:zi n
 ·have r:=g.1;have t:=g.2;have q:=dJ fun j=>dN n j (by omega) (by omega);have d:=ei g;have p:Hid (Hv n x=decide (x<m9 n)):=by show _=_;unfold Hv;rw[d];rfl
  rw[d]at m;obtain⟨u,l⟩:=xJ (m9 n);rw[l]at q p;clear d l g
  go_enter func48, ntmps48
  go_wp2_with (first|(go_at_call 73;refine(m.out _).mono ?_;rintro e j ⟨rfl,rfl⟩)|(go_at_call 74;refine(q.out _).mono ?_;rintro e j ⟨rfl,rfl⟩))
  go_ret;exact⟨cZ p.out.symm,rfl⟩
 ·have d:F6 n=false:=by
   cases h:F6 n with
   | false=>rfl
   | true=>exact absurd (oy h) g
  have p:Hid (Hv n x=false):=by show _=_;unfold Hv;rw[d];rfl
  rw[d]at m;clear d g
  go_enter func48, ntmps48
  go_wp2_with (go_at_call 73;refine(m.out _).mono ?_;rintro e j ⟨rfl,rfl⟩);go_ret;exact⟨cZ p.out.symm,rfl⟩
theorem nJ (n x:Int)(w:World)(hn:zi n)(h0:-4611686018427387904<=x)(h1:x<=4611686018427387904):Calls prog 197 #[.int .i64 n,.int .i64 x] w (RS (.tuple #[.int .u32 (x%m9 n),.int .i64 0]) w):=by
 have g:=dJ fun d=>eK n d;have j:=dJ fun d=>ew n x d hn h0 h1;rw[ei hn]at g;obtain⟨m,l⟩:=xJ (x%m9 n);rw[l]at j ⊢;clear l hn
 go_enter func197, ntmps197
 go_wp2_with (first|(go_at_call 73;refine(g.out _).mono ?_;rintro e d ⟨rfl,rfl⟩)|(go_at_call 211;refine(j.out _).mono ?_;rintro e d ⟨rfl,rfl⟩))
 go_ret2;exact⟨rfl,rfl⟩
theorem nK (x:Int)(k:Nat)(w:World)(hk:k<=64)(h0:-4611686018427387904<=x)(h1:x<=4611686018427387904):Calls prog 245 #[.int .i64 x,.int .i64 k] w (RS (.int .i64 (x / 2 ^ k)) w):=by
 have q:Hid (∀i:Nat,-4611686018427387904<=x / 2 ^ i/\x / 2 ^ i<=4611686018427387904):=fun i=>by
  have m:(0:Int)<2 ^ i:=Int.pow_pos (by decide);rcases Int.le_total 0 x with h|h
  ·have:=yH h (Int.le_of_lt m);have:=Int.ediv_le_self (2 ^ i) h;omega
  ·have z:x / 2 ^ i<=0:=by
    have:=Int.ediv_le_ediv m h;simpa using this
   have A:x<=x / 2 ^ i:=by rw[Int.le_ediv_iff_mul_le m];have:x*2 ^ i<=x*1:=Int.mul_le_mul_of_nonpos_left h (by omega);omega
   omega
 go_enter func245, ntmps245
 go_wp2
 go_loop [0,5] (fun s i=>∃j:Nat,j<=k/\i=.int .i64 j/\s=.int .i64 (x / 2 ^ j)) (fun _ i=>k-(intOf i).toNat)
 case atStart=>exact⟨0,yI _,rfl,by simp⟩
 case round =>
  obtain⟨j,B,rfl,rfl⟩:=hrel;have p:=dJ (MQ x j);obtain⟨t,u⟩:=q.out j;obtain⟨y,g⟩:=xJ (x / 2 ^ j);rw[g]at p t u ⊢;by_cases l:j<k
  ·have C:(j:Int)<(k:Int):=by omega
   clear g l;by_cases d:y<0
   all_goals
    go_wp2;go_round;case rel=>exact⟨j+1,by omega,by go_num,by rw[<-p.out];first|(rw[yr d])|(rw[yt (by omega)])⟩
    case measure=>simp[intOf]<;>omega
  ·obtain rfl:j=k:=by omega
   have r:=dJ g;clear g;go_wp2;go_ret;exact⟨dg r.out.symm,rfl⟩
theorem dL (hn:zi n)(h:yX n a):0<=a/\a<4294967296:=by have:=C4 hn;have:=h.1;have:=h.2;omega
theorem eB (hn:zi n)(h:yX n a):Hv n a=true:=by unfold Hv;rw[ei hn];simpa using h.2
theorem sO (o n a b:Int)(w:World)(ho:1<=o/\o<=13)(hn:zi n)(ha:yX n a)(hb:yX n b):Calls prog 212 #[.int .i64 o,.int .i64 n,.int .u32 a,.int .u32 b] w (RS (.int .i64 0) w):=by
 obtain⟨m,p⟩:=dL hn ha;obtain⟨q,r⟩:=dL hn hb;obtain⟨t,u⟩:=ho;have g:=dJ fun d=>eK n d;have j:=dJ fun d=>en n a d m p;have l:=dJ fun d=>en n b d q r;rw[ei hn]at g;rw[eB hn ha]at j;rw[eB hn hb]at l;clear hn ha hb
 go_enter func212, ntmps212
 go_wp2_with (first|(go_at_call 73;refine(g.out _).mono ?_;rintro e d ⟨rfl,rfl⟩)|(go_at_call 48;(with_reducible refine(j.out _).mono ?_);rintro e d ⟨rfl,rfl⟩)|(go_at_call 48;(with_reducible refine(l.out _).mono ?_);rintro e d ⟨rfl,rfl⟩))
 go_ret;exact⟨rfl,rfl⟩
def fk (z:Option Int):Ending:=.returned (.tuple #[.int .u32 (z.getD 0),.bool z.isSome])
theorem jc {x y s:Int}(hs:0<=s)(hs2:s<=2147483648)(h1:-s<=x)(h2:x<=s)(h3:-s<=y)(h4:y<=s):-4611686018427387904<=x*y/\x*y<=4611686018427387904:=by
 have d:x.natAbs<=2147483648:=by omega
 have g:y.natAbs<=2147483648:=by omega
 have j:(x*y).natAbs<=2147483648*2147483648:=by rw[Int.natAbs_mul];exact Nat.mul_le_mul d g
 omega
theorem rZ {n a:Int}:∃k,zU n a=a-m9 n*k:=by
 unfold zU;split
 ·exact⟨1,by omega⟩
 ·exact⟨0,by omega⟩
theorem vB :(zU n a*zU n b)%m9 n=(a*b)%m9 n:=by obtain⟨k,g⟩:=@rZ n a;obtain⟨j,d⟩:=@rZ n b;rw[g,d,Int.mul_emod,Int.sub_mul_emod_self_left,Int.sub_mul_emod_self_left,<-Int.mul_emod]
theorem wz (o n a b:Int)(w:World)(ho:o=1\/o=2\/o=3)(hn:zi n)(ha:yX n a)(hb:yX n b):Calls prog 213 #[.int .i64 o,.int .i64 n,.int .u32 a,.int .u32 b] w fun e w'=>e=fk (Wd.op o n a b)/\w=w':=by
 obtain⟨L,M⟩:=dL hn ha;obtain⟨N,O⟩:=dL hn hb;have hh:=Ft hn;have u:=C4 hn;have Q:=BC (n-1);obtain⟨C,D⟩:=Eo hn ha;obtain⟨E,F⟩:=Eo hn hb;obtain⟨A,B⟩:=jc (s:=m9 (n-1)) (by omega) (by omega) C (Int.le_of_lt D) E (Int.le_of_lt F);have CS:=dJ fun d=>dO n a d hn L M;have I:=dJ fun d=>dO n b d hn N O;have G:=dJ fun d=>ew n (a+b) d hn (by omega) (by omega);have H:=dJ fun d=>ew n (a-b) d hn (by omega) (by omega);have j:=dJ fun d=>ew n (zU n a*zU n b) d hn A B;rw[vB]at j;have l:Hid (Wd.op 1 n a b=some ((a+b)%m9 n)):=rfl;have m:Hid (Wd.op 2 n a b=some ((a-b)%m9 n)):=rfl;have p:Hid (Wd.op 3 n a b=some ((a*b)%m9 n)):=rfl;obtain⟨x,J⟩:=xJ (zU n a);obtain⟨y,K⟩:=xJ (zU n b);rw[J]at CS j C D A B;rw[K]at I j E F A B;obtain⟨R,q⟩:=xJ ((a+b)%m9 n);obtain⟨S,r⟩:=xJ ((a-b)%m9 n);obtain⟨T,t⟩:=xJ ((a*b)%m9 n);rw[q]at G l;rw[r]at H m;rw[t]at j p;have g:Hid (∀z,Wd.op o n a b=some z->fk (Wd.op o n a b)=.returned (.tuple #[.int .u32 z,.bool true])):=fun z h=>by rw[h];rfl
 clear J K q r t hn ha hb hh u Q C D E F;rcases ho with rfl|rfl|rfl
 all_goals
  go_enter func213, ntmps213
  go_wp2_with (first|(go_at_call 200;(with_reducible refine(CS.out _).mono ?_);rintro e d ⟨rfl,rfl⟩)|(go_at_call 200;(with_reducible refine(I.out _).mono ?_);rintro e d ⟨rfl,rfl⟩)|(go_at_call 211;(with_reducible refine(G.out _).mono ?_);rintro e d ⟨rfl,rfl⟩)|(go_at_call 211;(with_reducible refine(H.out _).mono ?_);rintro e d ⟨rfl,rfl⟩)|(go_at_call 211;(with_reducible refine(j.out _).mono ?_);rintro e d ⟨rfl,rfl⟩))
  go_ret2
  first
   | exact⟨(g.out _ l.out).symm,rfl⟩
   | exact⟨(g.out _ m.out).symm,rfl⟩
   | exact⟨(g.out _ p.out).symm,rfl⟩
theorem uW (o n a b:Int)(w:World)(ho:o=4\/o=5)(hn:zi n)(ha:yX n a)(hb:yX n b):Calls prog 213 #[.int .i64 o,.int .i64 n,.int .u32 a,.int .u32 b] w fun e w'=>e=fk (Wd.op o n a b)/\w=w':=by
 obtain⟨t,D⟩:=dL hn ha;obtain⟨u,E⟩:=dL hn hb;have CS:=dJ fun d=>dO n a d hn t D;have r:=dJ fun d=>dO n b d hn u E;obtain⟨x,A⟩:=xJ (zU n a);obtain⟨y,B⟩:=xJ (zU n b);rw[A]at CS;rw[B]at r;have j:Hid (Wd.op 4 n a b=if b=0 then none else some (a / b)):=rfl;have l:Hid (Wd.op 5 n a b=if b=0 then none else some (a%b)):=rfl;have m:Hid (∀z,Wd.op o n a b=some z->fk (Wd.op o n a b)=.returned (.tuple #[.int .u32 z,.bool true])):=fun z h=>by rw[h];rfl
 have p:Hid (Wd.op o n a b=none->fk (Wd.op o n a b)=.returned (.tuple #[.int .u32 0,.bool false])):=fun h=>by rw[h];rfl
 clear A B hn ha hb;by_cases g:b=0
 ·have q:=dJ g;have F:(b == 0)=true:=by simpa using g
  clear g;rcases ho with rfl|rfl
  all_goals
   go_enter func213, ntmps213
   go_wp2_with (first|(go_at_call 200;(with_reducible refine(CS.out _).mono ?_);rintro e d ⟨rfl,rfl⟩)|(go_at_call 200;(with_reducible refine(r.out _).mono ?_);rintro e d ⟨rfl,rfl⟩))
   go_ret2
   first
    | exact⟨(p.out (by rw[j.out,yr q.out])).symm,rfl⟩
    | exact⟨(p.out (by rw[l.out,yr q.out])).symm,rfl⟩
 ·have q:=dJ g;have F:(b == 0)=false:=by simpa using g
  have H:0<b:=by omega
  have G:0<=a / b:=yH t u;have I:a / b<=a:=Int.ediv_le_self b t;have J:0<=a / b*b:=Int.mul_nonneg G u;have K:a / b*b<=a:=by have:=Int.ediv_mul_le a (b:=b) (by omega);omega
  have C:Hid (a-a / b*b=a%b):=by show _=_;have:=Int.emod_add_mul_ediv a b;rw[Int.mul_comm]at this;omega
  clear g;rcases ho with rfl|rfl
  all_goals
   go_enter func213, ntmps213
   go_wp2_with (first|(go_at_call 200;(with_reducible refine(CS.out _).mono ?_);rintro e d ⟨rfl,rfl⟩)|(go_at_call 200;(with_reducible refine(r.out _).mono ?_);rintro e d ⟨rfl,rfl⟩))
   go_ret2
   first
    | exact⟨(m.out (a / b) (by rw[j.out,yt q.out])).symm,rfl⟩
    | exact⟨by rw[C.out];exact(m.out (a%b) (by rw[l.out,yt q.out])).symm,rfl⟩
theorem uV (o n a b:Int)(w:World)(ho:o=6\/o=7)(hn:zi n)(ha:yX n a)(hb:yX n b):Calls prog 213 #[.int .i64 o,.int .i64 n,.int .u32 a,.int .u32 b] w fun e w'=>e=fk (Wd.op o n a b)/\w=w':=by
 obtain⟨a1,a2⟩:=dL hn ha;obtain⟨b1,b2⟩:=dL hn hb;have hh:=Ft hn;have S:=C4 hn;have hp:=BC (n-1);obtain⟨x1,x2⟩:=Eo hn ha;obtain⟨y1,y2⟩:=Eo hn hb;have CS:=dJ fun d=>dO n a d hn a1 a2;have G:=dJ fun d=>dO n b d hn b1 b2;have M:=dJ fun d=>dN (n-1) d (by have:=hn.1;omega) (by have:=hn.2;omega);have g:Hid (Wd.op 6 n a b=if b=0\/(zU n a=-m9 (n-1)/\zU n b=-1) then none else some ((zU n a).tdiv (zU n b)%m9 n)):=rfl;have j:Hid (Wd.op 7 n a b=if b=0\/(zU n a=-m9 (n-1)/\zU n b=-1) then none else some ((zU n a).tmod (zU n b)%m9 n)):=rfl
 have B:b≠0->zU n b≠0:=fun h=>by have:=hb.2;unfold zU;split<;>omega
 have Z:Hid (∀z d,-4611686018427387904<=z->z<=4611686018427387904->Calls prog 211 #[.int .i64 n,.int .i64 z] d (RS (.int .u32 (z%m9 n)) d)):=fun z d h0 h1=>ew n z d hn h0 h1;have ab:=hn.1;have ac:=hn.2;have m:Hid (∀z,Wd.op o n a b=some z->fk (Wd.op o n a b)=.returned (.tuple #[.int .u32 z,.bool true])):=fun z h=>by rw[h];rfl
 have t:Hid (Wd.op o n a b=none->fk (Wd.op o n a b)=.returned (.tuple #[.int .u32 0,.bool false])):=fun h=>by rw[h];rfl
 obtain⟨s,hs⟩:=xJ (m9 (n-1));rw[hs]at M g j x1 x2 y1 y2 hp hh;obtain⟨x,hx⟩:=xJ (zU n a);obtain⟨y,hy⟩:=xJ (zU n b);rw[hx]at CS g j x1 x2;rw[hy]at G g j y1 y2 B;have aa:s<=2147483648:=by omega
 clear hx hy hs hn ha hb hh S;by_cases E:b=0
 ·have N:=dJ E;have c0:(b == 0)=true:=by simpa using E
  clear E B;rcases ho with rfl|rfl
  all_goals
   go_enter func213, ntmps213
   go_wp2_with (first|(go_at_call 200;(with_reducible refine(CS.out _).mono ?_);rintro e d ⟨rfl,rfl⟩)|(go_at_call 200;(with_reducible refine(G.out _).mono ?_);rintro e d ⟨rfl,rfl⟩))
   go_ret2
   first
    | exact⟨(t.out (by rw[g.out,yr (.inl N.out)])).symm,rfl⟩
    | exact⟨(t.out (by rw[j.out,yr (.inl N.out)])).symm,rfl⟩
 ·have N:=dJ E;have c0:(b == 0)=false:=by simpa using E
  have X:=B E;have c9:(y == 0)=false:=by simpa using X
  clear E B;by_cases F:x=-s/\y=-1
  ·have l:=dJ F;have c1:(x == -s)=true:=by simpa using F.1
   have c2:(y == -1)=true:=by simpa using F.2
   clear F;rcases ho with rfl|rfl
   all_goals
    go_enter func213, ntmps213
    go_wp2_with (first|(go_at_call 200;(with_reducible refine(CS.out _).mono ?_);rintro e d ⟨rfl,rfl⟩)|(go_at_call 200;(with_reducible refine(G.out _).mono ?_);rintro e d ⟨rfl,rfl⟩)|(go_at_call 74;refine(M.out _).mono ?_;rintro e d ⟨rfl,rfl⟩))
    go_ret2
    first
     | exact⟨(t.out (by rw[g.out,yr (.inr l.out)])).symm,rfl⟩
     | exact⟨(t.out (by rw[j.out,yr (.inr l.out)])).symm,rfl⟩
  ·have l:Hid (¬(b=0\/(x=-s/\y=-1))):=fun q=>q.elim N.out F;have O:=Int.mul_tdiv_add_tmod x y;have I:(x.tdiv y).natAbs<=x.natAbs:=by rw[Int.natAbs_tdiv];exact Nat.div_le_self _ _
   have J:(x.tmod y).natAbs<=x.natAbs:=by rw[Int.natAbs_tmod];exact Nat.mod_le _ _
   obtain⟨q,hq⟩:=xJ (x.tdiv y);obtain⟨r,W⟩:=xJ (x.tmod y);rw[hq,W]at O;rw[hq]at I g;rw[W]at J j;rw[Int.mul_comm]at O;have q1:-2147483648<=q/\q<=2147483648:=by omega
   obtain⟨q1,q2⟩:=q1;obtain⟨p,U⟩:=xJ (q*y);rw[U]at O;have p1:-4294967296<=p:=by omega
   have p2:p<=4294967296:=by omega
   have H:Hid (x-p=r):=by show _=_;omega
   have r1:-2147483648<=r/\r<=2147483648:=by omega
   have Q:=dJ fun d=>Z.out q d (by omega) (by omega);have R:=dJ fun d=>Z.out (x-p) d (by omega) (by omega);rw[H.out]at R;have C:Hid (∀d,Calls prog 211 #[.int .i64 n,.int .i64 (x-p)] d (RS (.int .u32 (r%m9 n)) d)):=by rw[H.out];exact R.out
   obtain⟨t1,K⟩:=xJ (q%m9 n);obtain⟨t2,L⟩:=xJ (r%m9 n);rw[K]at Q g;rw[L]at C j;clear I J O W K L R
   have Y:∀u A:Bool,(u && A)=false->(x == -s)=u->(y == -1)=A->Calls prog 213 #[.int .i64 o,.int .i64 n,.int .u32 a,.int .u32 b] w fun e w'=>e=fk (Wd.op o n a b)/\w=w':=by
    intro u A D c1 c2
    cases u with
    | false =>
     clear c2 D;rcases ho with rfl|rfl
     all_goals
      go_enter func213, ntmps213
      go_wp2_with (first|(go_at_call 200;(with_reducible refine(CS.out _).mono ?_);rintro e d ⟨rfl,rfl⟩)|(go_at_call 200;(with_reducible refine(G.out _).mono ?_);rintro e d ⟨rfl,rfl⟩)|(go_at_call 74;refine(M.out _).mono ?_;rintro e d ⟨rfl,rfl⟩)|(go_at_call 211;(with_reducible refine(Q.out _).mono ?_);rintro e d ⟨rfl,rfl⟩)|(go_at_call 211;(with_reducible refine(C.out _).mono ?_);rintro e d ⟨rfl,rfl⟩))
      go_ret2
      first
       | exact⟨(m.out _ (by rw[g.out,yt l.out])).symm,rfl⟩
       | exact⟨(m.out _ (by rw[j.out,yt l.out])).symm,rfl⟩
    | true =>
     have T:A=false:=by simpa using D
     subst T;clear D;rcases ho with rfl|rfl
     all_goals
      go_enter func213, ntmps213
      go_wp2_with (first|(go_at_call 200;(with_reducible refine(CS.out _).mono ?_);rintro e d ⟨rfl,rfl⟩)|(go_at_call 200;(with_reducible refine(G.out _).mono ?_);rintro e d ⟨rfl,rfl⟩)|(go_at_call 74;refine(M.out _).mono ?_;rintro e d ⟨rfl,rfl⟩)|(go_at_call 211;(with_reducible refine(Q.out _).mono ?_);rintro e d ⟨rfl,rfl⟩)|(go_at_call 211;(with_reducible refine(C.out _).mono ?_);rintro e d ⟨rfl,rfl⟩))
      go_ret2
      first
       | exact⟨(m.out _ (by rw[g.out,yt l.out])).symm,rfl⟩
       | exact⟨(m.out _ (by rw[j.out,yt l.out])).symm,rfl⟩
   refine Y _ _ ?_ rfl rfl
   cases h1:(x == -s) with
   | false=>rfl
   | true =>
    cases h2:(y == -1) with
    | false=>rfl
    | true=>exact absurd ⟨by simpa using h1,by simpa using h2⟩ F
