/- Parts. -/
import Derived.Test.YthfhamagopbgcaaGreatK01
import Derived.Test.YthfhamagopbgcaaGreatProg
import Derived.BigQuiet
import Derived.IntWalk
set_option linter.unusedSimpArgs false
set_option linter.unusedVariables false
set_option maxRecDepth 100000
set_option maxHeartbeats 16000000
open Go.Proofs.Tryz
namespace Go.Proofs.YthfhamagopbgcaaGreat
open Go.RowKit
theorem iP {a b:Int}(h:a=b):Ending.returned (.int .u32 a)=.returned (.int .u32 b):=by rw[h]
theorem ret_bool' {a b:Bool}(h:a=b):Ending.returned (.bool a)=.returned (.bool b):=by rw[h]
theorem sh {n:Int}(h:n<=62):Wd.sz n<=4611686018427387904:=by
 have:=Wd.sz_le (n:=n) (m:=62) (by omega);have e:Wd.sz 62=4611686018427387904:=by decide
 omega
theorem eI (n:Int)(w:World):Calls prog 78 #[.int .i64 n] w (RS (.bool (Wd.widB n)) w):=by
 go_enter func78, ntmps78
 go_wp2;all_goals go_ret
 all_goals exact⟨ret_bool' (by unfold Wd.widB;grind),rfl⟩
theorem dM (n:Int)(w:World)(h0:0<=n)(h1:n<=62):Calls prog 79 #[.int .i64 n] w (RS (.int .i64 (Wd.sz n)) w):=by
 obtain⟨k,rfl⟩:=vF h0;have d:=sh h1;have j:=Wd.sz_pos (k:Int);unfold Wd.sz at *;rw[vG]at *;have g:k<64:=by omega
 go_enter func79, ntmps79
 go_wp2;go_ret;exact⟨de (by omega),rfl⟩
theorem dN (n x:Int)(w:World)(hn:Wd.Wid n)(h0:0<=x)(h1:x<4294967296):Calls prog 174 #[.int .i64 n,.int .u32 x] w (RS (.int .i64 (Wd.sg n x)) w):=by
 obtain⟨m,p⟩:=hn;have q:=dJ fun j=>dM (n-1) j (by omega) (by omega);have r:=dJ fun j=>dM n j (by omega) (by omega);have t:=Wd.sz_32 ⟨m,p⟩;have u:=Wd.sz_pos (n-1);have y:=Wd.sz_pos n;have l:Hid (Wd.sg n x=if Wd.sz (n-1)<=x then x-Wd.sz n else x):=rfl;obtain⟨z,d⟩:=xJ (Wd.sz (n-1));obtain⟨A,g⟩:=xJ (Wd.sz n);rw[d]at q l u;rw[g]at r l y t;clear d g;by_cases h:z<=x
 all_goals
  go_enter func174, ntmps174
  go_wp2_with (first|(go_at_call 79;(with_reducible refine(q.out _).mono ?_);rintro e j ⟨rfl,rfl⟩)|(go_at_call 79;(with_reducible refine(r.out _).mono ?_);rintro e j ⟨rfl,rfl⟩))
  go_ret;refine⟨de ?_,rfl⟩;rw[l.out]
  first|(rw[wa h])|(rw[wb (by omega)])
theorem ey (n x:Int)(w:World)(hn:Wd.Wid n)(h0:-4611686018427387904<=x)(h1:x<=4611686018427387904):Calls prog 202 #[.int .i64 n,.int .i64 x] w (RS (.int .u32 (x%Wd.sz n)) w):=by
 obtain⟨y,z⟩:=hn;have q:=dJ fun A=>dM n A (by omega) (by omega);have D:=Wd.sz_32 ⟨y,z⟩;have l:=Wd.sz_pos n;obtain⟨d,j⟩:=xJ (Wd.sz n);rw[j]at q l D ⊢;clear j;have p:=dJ (Wd.tmod_fix x d l);have E:x.tmod d<d:=Int.tmod_lt_of_pos x l
 have F:-d<x.tmod d:=by have:=Int.tmod_lt_of_pos (-x) l;rw[Int.neg_tmod]at this;omega
 have g:d≠0:=by omega
 have J:(d == 0)=false:=by simpa using g
 have u:-9223372036854775808<=x.tmod d:=by omega
 have G:=Int.emod_nonneg x g;have H:=Int.emod_lt_of_pos x l;obtain⟨r,C⟩:=xJ (x.tmod d);obtain⟨m,B⟩:=xJ (x%d);rw[C]at p E F u;rw[B]at p G H ⊢;have I:Hid (IntKind.i64.wrap (x.tmod d)=r):=by show _=_;rw[C];exact IntWalk.i64_in _ (by omega)
 clear B;by_cases h:r<0
 ·have t:Hid (r+d=m):=by have:=p.out;rw[wa h]at this;exact this
  go_enter func202, ntmps202
  go_wp2_with (go_at_call 79;refine(q.out _).mono ?_;rintro e A ⟨rfl,rfl⟩);go_ret;exact⟨iP t.out,rfl⟩
 ·have t:Hid (r=m):=by have:=p.out;rw[wb h]at this;exact this
  go_enter func202, ntmps202
  go_wp2_with (go_at_call 79;refine(q.out _).mono ?_;rintro e A ⟨rfl,rfl⟩);go_ret;exact⟨iP t.out,rfl⟩
theorem ej {n:Int}(h:Wd.Wid n):Wd.widB n=true:=by unfold Wd.widB;have:=h.1;have:=h.2;simp;omega
theorem nd {n:Int}(h:Wd.widB n=true):Wd.Wid n:=by unfold Wd.widB at h;simp at h;exact h
theorem ep (n x:Int)(w:World)(h0:0<=x)(h1:x<4294967296):Calls prog 43 #[.int .i64 n,.int .u32 x] w (RS (.bool (Wd.wordB n x)) w):=by
 have m:=dJ fun j=>eI n j;by_cases g:Wd.Wid n
 ·have r:=g.1;have t:=g.2;have q:=dJ fun j=>dM n j (by omega) (by omega);have d:=ej g;have p:Hid (Wd.wordB n x=decide (x<Wd.sz n)):=by show _=_;unfold Wd.wordB;rw[d];rfl
  rw[d]at m;obtain⟨u,l⟩:=xJ (Wd.sz n);rw[l]at q p;clear d l g
  go_enter func43, ntmps43
  go_wp2_with (first|(go_at_call 78;refine(m.out _).mono ?_;rintro e j ⟨rfl,rfl⟩)|(go_at_call 79;refine(q.out _).mono ?_;rintro e j ⟨rfl,rfl⟩))
  go_ret;exact⟨cZ p.out.symm,rfl⟩
 ·have d:Wd.widB n=false:=by
   cases h:Wd.widB n with
   | false=>rfl
   | true=>exact absurd (nd h) g
  have p:Hid (Wd.wordB n x=false):=by show _=_;unfold Wd.wordB;rw[d];rfl
  rw[d]at m;clear d g
  go_enter func43, ntmps43
  go_wp2_with (go_at_call 78;refine(m.out _).mono ?_;rintro e j ⟨rfl,rfl⟩);go_ret;exact⟨cZ p.out.symm,rfl⟩
theorem mE (n x:Int)(w:World)(hn:Wd.Wid n)(h0:-4611686018427387904<=x)(h1:x<=4611686018427387904):Calls prog 171 #[.int .i64 n,.int .i64 x] w (RS (.tuple #[.int .u32 (x%Wd.sz n),.int .i64 0]) w):=by
 have g:=dJ fun d=>eI n d;have j:=dJ fun d=>ey n x d hn h0 h1;rw[ej hn]at g;obtain⟨m,l⟩:=xJ (x%Wd.sz n);rw[l]at j ⊢;clear l hn
 go_enter func171, ntmps171
 go_wp2_with (first|(go_at_call 78;refine(g.out _).mono ?_;rintro e d ⟨rfl,rfl⟩)|(go_at_call 202;refine(j.out _).mono ?_;rintro e d ⟨rfl,rfl⟩))
 go_ret2;exact⟨rfl,rfl⟩
theorem mF (x:Int)(k:Nat)(w:World)(hk:k<=64)(h0:-4611686018427387904<=x)(h1:x<=4611686018427387904):Calls prog 220 #[.int .i64 x,.int .i64 k] w (RS (.int .i64 (x / 2 ^ k)) w):=by
 have q:Hid (∀i:Nat,-4611686018427387904<=x / 2 ^ i/\x / 2 ^ i<=4611686018427387904):=fun i=>by
  have m:(0:Int)<2 ^ i:=Int.pow_pos (by decide);rcases Int.le_total 0 x with h|h
  ·have:=wD h (Int.le_of_lt m);have:=Int.ediv_le_self (2 ^ i) h;omega
  ·have z:x / 2 ^ i<=0:=by
    have:=Int.ediv_le_ediv m h;simpa using this
   have A:x<=x / 2 ^ i:=by rw[Int.le_ediv_iff_mul_le m];have:x*2 ^ i<=x*1:=Int.mul_le_mul_of_nonpos_left h (by omega);omega
   omega
 go_enter func220, ntmps220
 go_wp2
 go_loop [0,5] (fun s i=>∃j:Nat,j<=k/\i=.int .i64 j/\s=.int .i64 (x / 2 ^ j)) (fun _ i=>k-(intOf i).toNat)
 case atStart=>exact⟨0,vU _,rfl,by simp⟩
 case round =>
  obtain⟨j,B,rfl,rfl⟩:=hrel;have p:=dJ (Wd.down_step x j);obtain⟨t,u⟩:=q.out j;obtain⟨y,g⟩:=xJ (x / 2 ^ j);rw[g]at p t u ⊢;by_cases l:j<k
  ·have C:(j:Int)<(k:Int):=by omega
   clear g l;by_cases d:y<0
   all_goals
    go_wp2;go_round;case rel=>exact⟨j+1,by omega,by go_num,by rw[<-p.out];first|(rw[wa d])|(rw[wb (by omega)])⟩
    case measure=>simp[intOf]<;>omega
  ·obtain rfl:j=k:=by omega
   have r:=dJ g;clear g;go_wp2;go_ret;exact⟨de r.out.symm,rfl⟩
theorem dK {n a:Int}(hn:Wd.Wid n)(h:Wd.Word n a):0<=a/\a<4294967296:=by have:=Wd.sz_32 hn;have:=h.1;have:=h.2;omega
theorem eB {n a:Int}(hn:Wd.Wid n)(h:Wd.Word n a):Wd.wordB n a=true:=by unfold Wd.wordB;rw[ej hn];simpa using h.2
theorem qV (o n a b:Int)(w:World)(ho:1<=o/\o<=13)(hn:Wd.Wid n)(ha:Wd.Word n a)(hb:Wd.Word n b):Calls prog 203 #[.int .i64 o,.int .i64 n,.int .u32 a,.int .u32 b] w (RS (.int .i64 0) w):=by
 obtain⟨m,p⟩:=dK hn ha;obtain⟨q,r⟩:=dK hn hb;obtain⟨t,u⟩:=ho;have g:=dJ fun d=>eI n d;have j:=dJ fun d=>ep n a d m p;have l:=dJ fun d=>ep n b d q r;rw[ej hn]at g;rw[eB hn ha]at j;rw[eB hn hb]at l;clear hn ha hb
 go_enter func203, ntmps203
 go_wp2_with (first|(go_at_call 78;refine(g.out _).mono ?_;rintro e d ⟨rfl,rfl⟩)|(go_at_call 43;(with_reducible refine(j.out _).mono ?_);rintro e d ⟨rfl,rfl⟩)|(go_at_call 43;(with_reducible refine(l.out _).mono ?_);rintro e d ⟨rfl,rfl⟩))
 go_ret;exact⟨rfl,rfl⟩
def fc (z:Option Int):Ending:=.returned (.tuple #[.int .u32 (z.getD 0),.bool z.isSome])
theorem iI {x y s:Int}(hs:0<=s)(hs2:s<=2147483648)(h1:-s<=x)(h2:x<=s)(h3:-s<=y)(h4:y<=s):-4611686018427387904<=x*y/\x*y<=4611686018427387904:=by
 have d:x.natAbs<=2147483648:=by omega
 have g:y.natAbs<=2147483648:=by omega
 have j:(x*y).natAbs<=2147483648*2147483648:=by rw[Int.natAbs_mul];exact Nat.mul_le_mul d g
 omega
theorem qz {n a:Int}:∃k,Wd.sg n a=a-Wd.sz n*k:=by
 unfold Wd.sg;split
 ·exact⟨1,by omega⟩
 ·exact⟨0,by omega⟩
theorem tg {n a b:Int}:(Wd.sg n a*Wd.sg n b)%Wd.sz n=(a*b)%Wd.sz n:=by obtain⟨k,g⟩:=@qz n a;obtain⟨j,d⟩:=@qz n b;rw[g,d,Int.mul_emod,Int.sub_mul_emod_self_left,Int.sub_mul_emod_self_left,<-Int.mul_emod]
theorem tR (o n a b:Int)(w:World)(ho:o=1\/o=2\/o=3)(hn:Wd.Wid n)(ha:Wd.Word n a)(hb:Wd.Word n b):Calls prog 204 #[.int .i64 o,.int .i64 n,.int .u32 a,.int .u32 b] w fun e w'=>e=fc (Wd.op o n a b)/\w=w':=by
 obtain⟨L,M⟩:=dK hn ha;obtain⟨N,O⟩:=dK hn hb;have hh:=Wd.sz_half hn;have u:=Wd.sz_32 hn;have Q:=Wd.sz_pos (n-1);obtain⟨C,D⟩:=Wd.sg_range hn ha;obtain⟨E,F⟩:=Wd.sg_range hn hb;obtain⟨A,B⟩:=iI (s:=Wd.sz (n-1)) (by omega) (by omega) C (Int.le_of_lt D) E (Int.le_of_lt F);have CS:=dJ fun d=>dN n a d hn L M;have I:=dJ fun d=>dN n b d hn N O;have G:=dJ fun d=>ey n (a+b) d hn (by omega) (by omega);have H:=dJ fun d=>ey n (a-b) d hn (by omega) (by omega);have j:=dJ fun d=>ey n (Wd.sg n a*Wd.sg n b) d hn A B;rw[tg]at j;have l:Hid (Wd.op 1 n a b=some ((a+b)%Wd.sz n)):=rfl;have m:Hid (Wd.op 2 n a b=some ((a-b)%Wd.sz n)):=rfl;have p:Hid (Wd.op 3 n a b=some ((a*b)%Wd.sz n)):=rfl;obtain⟨x,J⟩:=xJ (Wd.sg n a);obtain⟨y,K⟩:=xJ (Wd.sg n b);rw[J]at CS j C D A B;rw[K]at I j E F A B;obtain⟨R,q⟩:=xJ ((a+b)%Wd.sz n);obtain⟨S,r⟩:=xJ ((a-b)%Wd.sz n);obtain⟨T,t⟩:=xJ ((a*b)%Wd.sz n);rw[q]at G l;rw[r]at H m;rw[t]at j p;have g:Hid (∀z,Wd.op o n a b=some z->fc (Wd.op o n a b)=.returned (.tuple #[.int .u32 z,.bool true])):=fun z h=>by rw[h];rfl
 clear J K q r t hn ha hb hh u Q C D E F;rcases ho with rfl|rfl|rfl
 all_goals
  go_enter func204, ntmps204
  go_wp2_with (first|(go_at_call 174;(with_reducible refine(CS.out _).mono ?_);rintro e d ⟨rfl,rfl⟩)|(go_at_call 174;(with_reducible refine(I.out _).mono ?_);rintro e d ⟨rfl,rfl⟩)|(go_at_call 202;(with_reducible refine(G.out _).mono ?_);rintro e d ⟨rfl,rfl⟩)|(go_at_call 202;(with_reducible refine(H.out _).mono ?_);rintro e d ⟨rfl,rfl⟩)|(go_at_call 202;(with_reducible refine(j.out _).mono ?_);rintro e d ⟨rfl,rfl⟩))
  go_ret2
  first
   | exact⟨(g.out _ l.out).symm,rfl⟩
   | exact⟨(g.out _ m.out).symm,rfl⟩
   | exact⟨(g.out _ p.out).symm,rfl⟩
theorem sS (o n a b:Int)(w:World)(ho:o=4\/o=5)(hn:Wd.Wid n)(ha:Wd.Word n a)(hb:Wd.Word n b):Calls prog 204 #[.int .i64 o,.int .i64 n,.int .u32 a,.int .u32 b] w fun e w'=>e=fc (Wd.op o n a b)/\w=w':=by
 obtain⟨t,D⟩:=dK hn ha;obtain⟨u,E⟩:=dK hn hb;have CS:=dJ fun d=>dN n a d hn t D;have r:=dJ fun d=>dN n b d hn u E;obtain⟨x,A⟩:=xJ (Wd.sg n a);obtain⟨y,B⟩:=xJ (Wd.sg n b);rw[A]at CS;rw[B]at r;have j:Hid (Wd.op 4 n a b=if b=0 then none else some (a / b)):=rfl;have l:Hid (Wd.op 5 n a b=if b=0 then none else some (a%b)):=rfl;have m:Hid (∀z,Wd.op o n a b=some z->fc (Wd.op o n a b)=.returned (.tuple #[.int .u32 z,.bool true])):=fun z h=>by rw[h];rfl
 have p:Hid (Wd.op o n a b=none->fc (Wd.op o n a b)=.returned (.tuple #[.int .u32 0,.bool false])):=fun h=>by rw[h];rfl
 clear A B hn ha hb;by_cases g:b=0
 ·have q:=dJ g;have F:(b == 0)=true:=by simpa using g
  clear g;rcases ho with rfl|rfl
  all_goals
   go_enter func204, ntmps204
   go_wp2_with (first|(go_at_call 174;(with_reducible refine(CS.out _).mono ?_);rintro e d ⟨rfl,rfl⟩)|(go_at_call 174;(with_reducible refine(r.out _).mono ?_);rintro e d ⟨rfl,rfl⟩))
   go_ret2
   first
    | exact⟨(p.out (by rw[j.out,wa q.out])).symm,rfl⟩
    | exact⟨(p.out (by rw[l.out,wa q.out])).symm,rfl⟩
 ·have q:=dJ g;have F:(b == 0)=false:=by simpa using g
  have H:0<b:=by omega
  have G:0<=a / b:=wD t u;have I:a / b<=a:=Int.ediv_le_self b t;have J:0<=a / b*b:=Int.mul_nonneg G u;have K:a / b*b<=a:=by have:=Int.ediv_mul_le a (b:=b) (by omega);omega
  have C:Hid (a-a / b*b=a%b):=by show _=_;have:=Int.emod_add_mul_ediv a b;rw[Int.mul_comm]at this;omega
  clear g;rcases ho with rfl|rfl
  all_goals
   go_enter func204, ntmps204
   go_wp2_with (first|(go_at_call 174;(with_reducible refine(CS.out _).mono ?_);rintro e d ⟨rfl,rfl⟩)|(go_at_call 174;(with_reducible refine(r.out _).mono ?_);rintro e d ⟨rfl,rfl⟩))
   go_ret2
   first
    | exact⟨(m.out (a / b) (by rw[j.out,wb q.out])).symm,rfl⟩
    | exact⟨by rw[C.out];exact(m.out (a%b) (by rw[l.out,wb q.out])).symm,rfl⟩
theorem sR (o n a b:Int)(w:World)(ho:o=6\/o=7)(hn:Wd.Wid n)(ha:Wd.Word n a)(hb:Wd.Word n b):Calls prog 204 #[.int .i64 o,.int .i64 n,.int .u32 a,.int .u32 b] w fun e w'=>e=fc (Wd.op o n a b)/\w=w':=by
 obtain⟨a1,a2⟩:=dK hn ha;obtain⟨b1,b2⟩:=dK hn hb;have hh:=Wd.sz_half hn;have S:=Wd.sz_32 hn;have hp:=Wd.sz_pos (n-1);obtain⟨x1,x2⟩:=Wd.sg_range hn ha;obtain⟨y1,y2⟩:=Wd.sg_range hn hb;have CS:=dJ fun d=>dN n a d hn a1 a2;have G:=dJ fun d=>dN n b d hn b1 b2;have M:=dJ fun d=>dM (n-1) d (by have:=hn.1;omega) (by have:=hn.2;omega);have g:Hid (Wd.op 6 n a b=if b=0\/(Wd.sg n a=-Wd.sz (n-1)/\Wd.sg n b=-1) then none else some ((Wd.sg n a).tdiv (Wd.sg n b)%Wd.sz n)):=rfl;have j:Hid (Wd.op 7 n a b=if b=0\/(Wd.sg n a=-Wd.sz (n-1)/\Wd.sg n b=-1) then none else some ((Wd.sg n a).tmod (Wd.sg n b)%Wd.sz n)):=rfl
 have B:b≠0->Wd.sg n b≠0:=fun h=>by have:=hb.2;unfold Wd.sg;split<;>omega
 have Z:Hid (∀z d,-4611686018427387904<=z->z<=4611686018427387904->Calls prog 202 #[.int .i64 n,.int .i64 z] d (RS (.int .u32 (z%Wd.sz n)) d)):=fun z d h0 h1=>ey n z d hn h0 h1;have ab:=hn.1;have ac:=hn.2;have m:Hid (∀z,Wd.op o n a b=some z->fc (Wd.op o n a b)=.returned (.tuple #[.int .u32 z,.bool true])):=fun z h=>by rw[h];rfl
 have t:Hid (Wd.op o n a b=none->fc (Wd.op o n a b)=.returned (.tuple #[.int .u32 0,.bool false])):=fun h=>by rw[h];rfl
 obtain⟨s,hs⟩:=xJ (Wd.sz (n-1));rw[hs]at M g j x1 x2 y1 y2 hp hh;obtain⟨x,hx⟩:=xJ (Wd.sg n a);obtain⟨y,hy⟩:=xJ (Wd.sg n b);rw[hx]at CS g j x1 x2;rw[hy]at G g j y1 y2 B;have aa:s<=2147483648:=by omega
 clear hx hy hs hn ha hb hh S;by_cases E:b=0
 ·have N:=dJ E;have c0:(b == 0)=true:=by simpa using E
  clear E B;rcases ho with rfl|rfl
  all_goals
   go_enter func204, ntmps204
   go_wp2_with (first|(go_at_call 174;(with_reducible refine(CS.out _).mono ?_);rintro e d ⟨rfl,rfl⟩)|(go_at_call 174;(with_reducible refine(G.out _).mono ?_);rintro e d ⟨rfl,rfl⟩))
   go_ret2
   first
    | exact⟨(t.out (by rw[g.out,wa (.inl N.out)])).symm,rfl⟩
    | exact⟨(t.out (by rw[j.out,wa (.inl N.out)])).symm,rfl⟩
 ·have N:=dJ E;have c0:(b == 0)=false:=by simpa using E
  have X:=B E;have c9:(y == 0)=false:=by simpa using X
  clear E B;by_cases F:x=-s/\y=-1
  ·have l:=dJ F;have c1:(x == -s)=true:=by simpa using F.1
   have c2:(y == -1)=true:=by simpa using F.2
   clear F;rcases ho with rfl|rfl
   all_goals
    go_enter func204, ntmps204
    go_wp2_with (first|(go_at_call 174;(with_reducible refine(CS.out _).mono ?_);rintro e d ⟨rfl,rfl⟩)|(go_at_call 174;(with_reducible refine(G.out _).mono ?_);rintro e d ⟨rfl,rfl⟩)|(go_at_call 79;refine(M.out _).mono ?_;rintro e d ⟨rfl,rfl⟩))
    go_ret2
    first
     | exact⟨(t.out (by rw[g.out,wa (.inr l.out)])).symm,rfl⟩
     | exact⟨(t.out (by rw[j.out,wa (.inr l.out)])).symm,rfl⟩
  ·have l:Hid (¬(b=0\/(x=-s/\y=-1))):=fun q=>q.elim N.out F;have O:=Int.mul_tdiv_add_tmod x y;have I:(x.tdiv y).natAbs<=x.natAbs:=by rw[Int.natAbs_tdiv];exact Nat.div_le_self _ _
   have J:(x.tmod y).natAbs<=x.natAbs:=by rw[Int.natAbs_tmod];exact Nat.mod_le _ _
   obtain⟨q,hq⟩:=xJ (x.tdiv y);obtain⟨r,W⟩:=xJ (x.tmod y);rw[hq,W]at O;rw[hq]at I g;rw[W]at J j;rw[Int.mul_comm]at O;have q1:-2147483648<=q/\q<=2147483648:=by omega
   obtain⟨q1,q2⟩:=q1;obtain⟨p,U⟩:=xJ (q*y);rw[U]at O;have p1:-4294967296<=p:=by omega
   have p2:p<=4294967296:=by omega
   have H:Hid (x-p=r):=by show _=_;omega
   have r1:-2147483648<=r/\r<=2147483648:=by omega
   have Q:=dJ fun d=>Z.out q d (by omega) (by omega);have R:=dJ fun d=>Z.out (x-p) d (by omega) (by omega);rw[H.out]at R;have C:Hid (∀d,Calls prog 202 #[.int .i64 n,.int .i64 (x-p)] d (RS (.int .u32 (r%Wd.sz n)) d)):=by rw[H.out];exact R.out
   obtain⟨t1,K⟩:=xJ (q%Wd.sz n);obtain⟨t2,L⟩:=xJ (r%Wd.sz n);rw[K]at Q g;rw[L]at C j;clear I J O W K L R
   have Y:∀u A:Bool,(u && A)=false->(x == -s)=u->(y == -1)=A->Calls prog 204 #[.int .i64 o,.int .i64 n,.int .u32 a,.int .u32 b] w fun e w'=>e=fc (Wd.op o n a b)/\w=w':=by
    intro u A D c1 c2
    cases u with
    | false =>
     clear c2 D;rcases ho with rfl|rfl
     all_goals
      go_enter func204, ntmps204
      go_wp2_with (first|(go_at_call 174;(with_reducible refine(CS.out _).mono ?_);rintro e d ⟨rfl,rfl⟩)|(go_at_call 174;(with_reducible refine(G.out _).mono ?_);rintro e d ⟨rfl,rfl⟩)|(go_at_call 79;refine(M.out _).mono ?_;rintro e d ⟨rfl,rfl⟩)|(go_at_call 202;(with_reducible refine(Q.out _).mono ?_);rintro e d ⟨rfl,rfl⟩)|(go_at_call 202;(with_reducible refine(C.out _).mono ?_);rintro e d ⟨rfl,rfl⟩))
      go_ret2
      first
       | exact⟨(m.out _ (by rw[g.out,wb l.out])).symm,rfl⟩
       | exact⟨(m.out _ (by rw[j.out,wb l.out])).symm,rfl⟩
    | true =>
     have T:A=false:=by simpa using D
     subst T;clear D;rcases ho with rfl|rfl
     all_goals
      go_enter func204, ntmps204
      go_wp2_with (first|(go_at_call 174;(with_reducible refine(CS.out _).mono ?_);rintro e d ⟨rfl,rfl⟩)|(go_at_call 174;(with_reducible refine(G.out _).mono ?_);rintro e d ⟨rfl,rfl⟩)|(go_at_call 79;refine(M.out _).mono ?_;rintro e d ⟨rfl,rfl⟩)|(go_at_call 202;(with_reducible refine(Q.out _).mono ?_);rintro e d ⟨rfl,rfl⟩)|(go_at_call 202;(with_reducible refine(C.out _).mono ?_);rintro e d ⟨rfl,rfl⟩))
      go_ret2
      first
       | exact⟨(m.out _ (by rw[g.out,wb l.out])).symm,rfl⟩
       | exact⟨(m.out _ (by rw[j.out,wb l.out])).symm,rfl⟩
   refine Y _ _ ?_ rfl rfl
   cases h1:(x == -s) with
   | false=>rfl
   | true =>
    cases h2:(y == -1) with
    | false=>rfl
    | true=>exact absurd ⟨by simpa using h1,by simpa using h2⟩ F
