/- Parts. -/
import Derived.Test.YthfhamagopbgcaaGreatK39
set_option linter.unusedSimpArgs false
set_option linter.unusedVariables false
set_option maxRecDepth 100000
set_option maxHeartbeats 16000000
open Go.Proofs.Tryz
namespace Go.Proofs.YthfhamagopbgcaaGreat
open Go.RowKit
theorem jj (a b l:Int)(w:World)(ha:0<=a/\a<4294967296)(hb:0<=b/\b<=4294967296)(hl:0<=l/\l<4294967296):Calls prog 205 #[.int .i64 a,.int .i64 b,.int .i64 l] w (RS (.bool (decide (l<a*b))) w):=by
 obtain⟨m,q⟩:=ha;obtain⟨r,t⟩:=hb;obtain⟨g,u⟩:=hl;by_cases d:a=0
 ·subst d
  go_enter func205, ntmps205
  go_wp2_with (fail);go_ret;refine⟨?_,rfl⟩;have:¬l<0*b:=by simp;omega
  simp[this]
  try omega
 ·have p:(a == 0)=false:=by simpa using d
  have a3:0<a:=by omega
  have y:0<=l / a:=wD g m;have z:l / a<=l:=Int.ediv_le_self a g
  have j:Hid (l / a<b↔l<a*b):=by show _↔_;rw[Int.ediv_lt_iff_lt_mul a3,Int.mul_comm]
  clear d
  go_enter func205, ntmps205
  go_wp2_with (fail);go_ret;refine⟨?_,rfl⟩;simp[j.out,bne,p]
theorem lG (o f n a b:Int)(w:World)(ho:1<=o/\o<=13)(hf:0<=f/\f<=7)(hn:Wd.Wid n)(ha:Wd.Word n a)(hb:Wd.Word n b)(hz:Wd.op o n a b=none):Calls prog 176 #[.int .i64 o,.int .i64 f,.int .i64 n,.int .u32 a,.int .u32 b] w (RG (.tuple #[.bool false,.int .i64 0]) w):=by
 have j:=dJ fun d=>qV o n a b d ho hn ha hb;have g:=dJ fun d=>pw o n a b d ho hn ha hb;unfold fc at g;rw[hz]at g;obtain⟨m,p⟩:=hf;clear hz ho hn ha hb
 go_enter func176, ntmps176
 go_wp2_with (first|(go_at_call 203;refine(j.out _).mono ?_;rintro e d ⟨rfl,rfl⟩)|(go_at_call 204;refine(g.out _).mono ?_;rintro e d ⟨rfl,l⟩))
 go_ret2;exact⟨rfl,l⟩
theorem lH (o f n a b z:Int)(w:World)(ho:1<=o/\o<=13)(hf:0<=f/\f<=7)(hn:Wd.Wid n)(ha:Wd.Word n a)(hb:Wd.Word n b)(hz:Wd.op o n a b=some z):Calls prog 176 #[.int .i64 o,.int .i64 f,.int .i64 n,.int .u32 a,.int .u32 b] w (RG (.tuple #[.bool (Wd.brk o f n a b),.int .i64 0]) w):=by
 have L:=dJ fun d=>qV o n a b d ho hn ha hb;have u:=dJ fun d=>pw o n a b d ho hn ha hb;unfold fc at u;rw[hz]at u;obtain⟨Z,f2⟩:=hf;obtain⟨A,B⟩:=dK hn ha;obtain⟨C,Q⟩:=dK hn hb;obtain⟨x1,x2⟩:=Wd.sg_range hn ha;obtain⟨y1,y2⟩:=Wd.sg_range hn hb;have hh:=Wd.sz_half hn;have S:=Wd.sz_32 hn;have hp:=Wd.sz_pos (n-1);have U:=Wd.sz_pos n;have W:Wd.sz (n-1)<=2147483648:=by omega
 obtain⟨n1,n2⟩:=id hn;have CS:=dJ fun d=>dN n a d hn A B;have M:=dJ fun d=>dN n b d hn C Q;have N:=dJ fun d=>dM n d (by omega) (by omega);have K:=dJ fun d=>dM (n-1) d (by omega) (by omega);have J:=dJ fun d=>jj a b (Wd.sz n-1) d ⟨A,B⟩ ⟨C,by omega⟩ ⟨by omega,by omega⟩;have E:=iI (s:=2147483648) (by omega) (by omega) (show -2147483648<=Wd.sg n a by omega) (show Wd.sg n a<=2147483648 by omega) (show -2147483648<=Wd.sg n b by omega) (show Wd.sg n b<=2147483648 by omega)
 have g:11<=o->b<n:=fun h=>by rcases (by omega:o=11\/o=12\/o=13) with rfl|rfl|rfl<;>(simp[Wd.op]at hz;exact hz.1)
 have hk:=Wd.sz_pos b;have T:(Wd.sz b == 0)=false:=by simp;omega
 have j:11<=o->Wd.sz b<=Wd.sz (n-1):=fun h=>Wd.sz_le (by have:=g h;omega);have r:=fun(h:11<=o)=>dJ fun d=>dM b d C (by have:=g h;omega);have q:=fun(h:11<=o)=>dJ fun d=>jj a (Wd.sz b) (Wd.sz n-1) d ⟨A,B⟩ ⟨by omega,by have:=j h;omega⟩ ⟨by omega,by omega⟩;have p:=fun(h:11<=o)=>iI (s:=2147483648) (by omega) (by omega) (show -2147483648<=Wd.sg n a by omega) (show Wd.sg n a<=2147483648 by omega) (show -2147483648<=Wd.sz b by omega) (show Wd.sz b<=2147483648 by have:=j h;omega);have l:o=4->¬b=0:=fun h=>by subst h;simp[Wd.op]at hz;exact hz.1
 have m:o=6->¬Wd.sg n b=0:=fun h=>by subst h;simp[Wd.op]at hz;have h1:=hz.1.1;have:=hb.2;unfold Wd.sg;split<;>omega
 unfold Wd.brk;simp only[show (2:Int) ^ b.toNat=Wd.sz b from rfl];obtain⟨s,F⟩:=xJ (Wd.sz n);obtain⟨t,G⟩:=xJ (Wd.sz (n-1));obtain⟨k,D⟩:=xJ (Wd.sz b);obtain⟨x,H⟩:=xJ (Wd.sg n a);obtain⟨y,I⟩:=xJ (Wd.sg n b);simp only[F,G,D,H,I]at *;have O:=dJ hh;clear hn ha hb F G D H I hz hh;rcases (by omega:o=1\/o=2\/o=3\/o=4\/o=5\/o=6\/o=7\/o=8\/o=9\/o=10\/o=11\/o=12\/o=13) with rfl|rfl|rfl|rfl|rfl|rfl|rfl|rfl|rfl|rfl|rfl|rfl|rfl
 all_goals
  simp only[Int.reduceEq,reduceIte,or_self,or_false,or_true,false_or,true_or];clear ho
  first|replace g:=g (by decide)|clear g
  first|replace j:=j (by decide)|clear j
  first|replace r:=r (by decide)|clear r
  first|replace q:=q (by decide)|clear q
  first|replace E:=p (by decide)|skip
  obtain⟨m1,m2⟩:=E;clear p
  first|(replace l:=l rfl;have Y:(b == 0)=false:=by simpa using l)|clear l
  first|(replace m:=m rfl;have X:(y == 0)=false:=by simpa using m)|clear m
 all_goals
  go_enter func176, ntmps176
  go_wp2_with (first|(go_at_call 204;refine(u.out _).mono ?_;rintro e d ⟨rfl,R⟩)|(go_at_call 203;refine(L.out _).mono ?_;rintro e d ⟨rfl,rfl⟩)|(go_at_call 174;(with_reducible refine(CS.out _).mono ?_);rintro e d ⟨rfl,rfl⟩)|(go_at_call 174;(with_reducible refine(M.out _).mono ?_);rintro e d ⟨rfl,rfl⟩)|(go_at_call 79;(with_reducible refine(N.out _).mono ?_);rintro e d ⟨rfl,rfl⟩)|(go_at_call 79;(with_reducible refine(K.out _).mono ?_);rintro e d ⟨rfl,rfl⟩)|(go_at_call 79;(with_reducible refine(r.out _).mono ?_);rintro e d ⟨rfl,rfl⟩)|(go_at_call 205;(with_reducible refine(J.out _).mono ?_);rintro e d ⟨rfl,rfl⟩)|(go_at_call 205;(with_reducible refine(q.out _).mono ?_);rintro e d ⟨rfl,rfl⟩))
  all_goals
   go_ret2;refine⟨congrArg (fun v=>Ending.returned (.tuple #[.bool v,.int .i64 0])) (Bool.eq_iff_iff.mpr ?_),R⟩;have hh:=O.out;simp
   try omega
