import Derived.Test.YtjkajidbdmbbaaaGreatN06
set_option linter.unusedSimpArgs false
set_option linter.unusedVariables false
set_option maxRecDepth 100000
set_option maxHeartbeats 16000000
open Go.Proofs.Tryz
namespace Go.Proofs.YtjkajidbdmbbaaaGreat
open Ref Rn Wd Ir Rf
open Go.RowKit
theorem sf (f x vp vb As Aa At cs ca ct w)(hb:ShB f x)(hc:ir x.op=1) :
  ShP f x vp vb As Aa At cs ca ct w:=by
 unfold ShP;unfold ShB at hb;have t:=kP hc;obtain⟨z,d,u⟩:=kO x
 cases z with
 | true =>
  have y:1<=x.w/\x.w<=32:=by unfold yS at d;simpa using d
  obtain⟨n,r⟩:=xZ (show 0<=x.w by omega);have j:Hid (∀g,Calls prog 116 #[.int .i64 x.w] g (RS (.tuple #[.int .u32 (2 ^ n-1),.int .i64 0]) g)):=fun g=>by rw[r];exact uO n g (by omega) (by omega)
  obtain⟨m,q⟩:∃m:Int,(2:Int) ^ n-1=m:=⟨_,rfl⟩;have l:Hid (zV f x=(0,0,decide (x.i<=m))):=by show _=_;unfold zV;simp only[hc,d];simp[r,q]
  rw[q]at j;clear hc d y r q;rcases Decidable.em (x.i<=m) with p|p;all_goals go_enter func93, ntmps93
  all_goals go_wp2_with (first|(go_at_call 103;refine(t.out _).mono ?_;rintro e g ⟨rfl,rfl⟩)|(go_at_call 90;refine(u.out _).mono ?_;rintro e g ⟨rfl,rfl⟩)|(go_at_call 116;refine(j.out _).mono ?_;rintro e g ⟨rfl,rfl⟩))
  all_goals go_region
  all_goals go_wp2
  all_goals refine yq (by simp[results,results93,go_sem, *];rfl) rfl ?_
  all_goals refine⟨dv (by rw[l.out]<;>first|rfl|(simp[*];done)|grind),?_⟩
  all_goals first|exact eO.drew|exact eO
 | false =>
  have j:Hid (∀g,Calls prog 116 #[.int .i64 x.w] g (RS (.tuple #[.int .u32 0,.int .i64 1]) g)):=fun g=>td x.w g d;have l:Hid (zV f x=(0,0,false)):=by show _=_;unfold zV;simp only[hc];simp[d]
  clear hc d
  go_enter func93, ntmps93
  go_wp2_with (first|(go_at_call 103;refine(t.out _).mono ?_;rintro e g ⟨rfl,rfl⟩)|(go_at_call 90;refine(u.out _).mono ?_;rintro e g ⟨rfl,rfl⟩)|(go_at_call 116;refine(j.out _).mono ?_;rintro e g ⟨rfl,rfl⟩))
  go_region
  all_goals go_wp2
  all_goals refine yq (by simp[results,results93,go_sem, *];rfl) rfl ?_
  all_goals refine⟨dv (by rw[l.out]<;>first|rfl|(simp[*];done)|grind),?_⟩
  all_goals first|exact eO.drew|exact eO
theorem two_of' (l:List Int)(h:l.length=2):∃a b,l=[a,b]:=by
 match l,h with
 | [a,b],_=>exact⟨a,b,rfl⟩
theorem pM (f x vp vb As Aa At cs ca ct w)(hb:ShB f x)(hvt:IntsAt w.heap.size w (.slice At x.to.length ct) x.to)(hc:ir x.op=16) :
  ShP f x vp vb As Aa At cs ca ct w:=by
 unfold ShP;unfold ShB at hb;have I:=kP hc;obtain⟨S,F,J⟩:=kO x;have D:Hid (zV f x=(1,2,(x.w == 0) && (x.i == 0) && (decide (x.to.length≠2) || decide (x.to.getD 0 0≠x.to.getD 1 0)))):=by show _=_;unfold zV;simp only[hc];rfl
 clear hc F
 have l:Hid (x.to.length≠2\/∃a b bt j,x.to=[a,b]/\At=some ⟨bt,j,none⟩/\(∀A B C:Obj,(((w.alloc A).alloc B).alloc C).cell? ⟨bt,j,none⟩=some (.int .i64 a))/\(∀A B C:Obj,(((w.alloc A).alloc B).alloc C).cell? ⟨bt,j+1,none⟩=some (.int .i64 b))):=by
  show _\/_;by_cases t:x.to.length=2
  ·right;obtain⟨Q,R,e,-,-,O⟩:=hvt;obtain⟨bt,j,N,u,y⟩:=O (by omega);obtain⟨a,b,d⟩:=two_of' x.to t;simp only[Value.slice.injEq]at e;exact⟨a,b,bt,j,d,e.1.trans N,fun A B C=>((((yO w).alloc A).alloc B).alloc C).cell bt j u |>.trans (y 0 a (by rw[d];rfl)),fun A B C=>((((yO w).alloc A).alloc B).alloc C).cell bt (j+1) u |>.trans (y 1 b (by rw[d];rfl))⟩
  ·exact .inl t
 clear hvt;rcases l.out with t|⟨a,b,bt,j,d,rfl,L,M⟩
 ·have g:Hid (zV f x=(1,2,(x.w == 0) && (x.i == 0))):=by show _=_;rw[D.out];simp[t]
  have G:((x.to.length:Int) == 2)=false:=by (simp;omega)
  have K:((x.to.length:Int) != 2)=true:=by (rw[bne,G];rfl)
  clear t l D;obtain⟨w0,q⟩:∃w0,(x.w == 0)=w0:=⟨_,rfl⟩;obtain⟨r,p⟩:∃r,(x.i == 0)=r:=⟨_,rfl⟩;rw[q,p]at g;cases w0;all_goals cases r
  all_goals go_enter func93, ntmps93
  all_goals go_wp2_with (first|(go_at_call 103;refine(I.out _).mono ?_;rintro e H ⟨rfl,rfl⟩)|(go_at_call 90;refine(J.out _).mono ?_;rintro e H ⟨rfl,rfl⟩))
  all_goals go_region
  all_goals go_wp2
  all_goals refine yq (by simp[results,results93,go_sem, *];rfl) rfl ?_
  all_goals refine⟨dv (by rw[g.out]<;>rfl),?_⟩
  all_goals first|exact eO.drew|exact eO
 ·have g:Hid (zV f x=(1,2,(x.w == 0) && (x.i == 0) && !(a == b))):=by
   show _=_;rw[D.out,d];by_cases e:a=b<;>simp[e]
  have P:x.to.length=2:=by rw[d];rfl
  clear d l D;obtain⟨w0,q⟩:∃w0,(x.w == 0)=w0:=⟨_,rfl⟩;obtain⟨r,p⟩:∃r,(x.i == 0)=r:=⟨_,rfl⟩;obtain⟨E,m⟩:∃E,(a == b)=E:=⟨_,rfl⟩;rw[q,p,m]at g;cases w0;all_goals cases r
  all_goals cases E
  all_goals try have z:(a != b)=true:=by rw[bne,m];rfl
  all_goals try have z:(a != b)=false:=by rw[bne,m];rfl
  all_goals go_enter func93, ntmps93
  all_goals go_wp2_with (first|(go_at_call 103;refine(I.out _).mono ?_;rintro e H ⟨rfl,rfl⟩)|(go_at_call 90;refine(J.out _).mono ?_;rintro e H ⟨rfl,rfl⟩))
  all_goals go_region
  all_goals go_wp2
  all_goals refine yq (by simp[results,results93,go_sem, *];rfl) rfl ?_
  all_goals refine⟨dv (by rw[g.out]<;>rfl),?_⟩
  all_goals first|exact eO.drew|exact eO
theorem sx (f x vp vb As Aa At cs ca ct w)(hb:ShB f x)(hc:ir x.op=7) :
  ShP f x vp vb As Aa At cs ca ct w:=by
 unfold ShP;unfold ShB at hb;have j:=kP hc;obtain⟨t,d,l⟩:=kO x;have m:Hid (zV f x=(2,0,t && decide (1<=x.i) && decide (x.i<x.w) && (x.w%x.i == 0))):=by show _=_;unfold zV;simp only[hc,d];rfl
 cases t with
 | false =>
  clear hc d
  go_enter func93, ntmps93
  go_wp2_with (first|(go_at_call 103;refine(j.out _).mono ?_;rintro e g ⟨rfl,rfl⟩)|(go_at_call 90;refine(l.out _).mono ?_;rintro e g ⟨rfl,rfl⟩))
  go_region
  all_goals go_wp2
  all_goals refine yq (by simp[results,results93,go_sem, *];rfl) rfl ?_
  all_goals refine⟨dv (by rw[m.out]<;>first|rfl|(simp[*];done)|grind),?_⟩
  all_goals first|exact eO.drew|exact eO
 | true =>
  have z:1<=x.w/\x.w<=32:=by unfold yS at d;simpa using d
  obtain⟨A,B⟩:=z;have u:x.w%4294967296=x.w:=by omega
  clear hc d;rcases (by omega:1<=x.i\/x.i=0) with p|p
  ·rcases (by omega:x.i<x.w\/x.w<=x.i) with q|q
   ·obtain⟨r,y⟩:∃r,(x.w%x.i == 0)=r:=⟨_,rfl⟩;cases r;all_goals go_enter func93, ntmps93
    all_goals go_wp2_with (first|(go_at_call 103;refine(j.out _).mono ?_;rintro e g ⟨rfl,rfl⟩)|(go_at_call 90;refine(l.out _).mono ?_;rintro e g ⟨rfl,rfl⟩))
    all_goals go_region
    all_goals go_wp2
    all_goals refine yq (by simp[results,results93,go_sem, *];rfl) rfl ?_
    all_goals refine⟨dv (by rw[m.out]<;>first|rfl|(simp[*];done)|grind),?_⟩
    all_goals first|exact eO.drew|exact eO
   ·have C:decide (x.i<x.w)=false:=by simp;omega
    go_enter func93, ntmps93
    go_wp2_with (first|(go_at_call 103;refine(j.out _).mono ?_;rintro e g ⟨rfl,rfl⟩)|(go_at_call 90;refine(l.out _).mono ?_;rintro e g ⟨rfl,rfl⟩))
    go_region
    all_goals go_wp2
    all_goals refine yq (by simp[results,results93,go_sem, *];rfl) rfl ?_
    all_goals refine⟨dv (by rw[m.out]<;>first|rfl|(simp[*];done)|grind),?_⟩
    all_goals first|exact eO.drew|exact eO
  ·go_enter func93, ntmps93
   go_wp2_with (first|(go_at_call 103;refine(j.out _).mono ?_;rintro e g ⟨rfl,rfl⟩)|(go_at_call 90;refine(l.out _).mono ?_;rintro e g ⟨rfl,rfl⟩))
   go_region
   all_goals go_wp2
   all_goals refine yq (by simp[results,results93,go_sem, *];rfl) rfl ?_
   all_goals refine⟨dv (by rw[m.out]<;>first|rfl|(simp[*];done)|grind),?_⟩
   all_goals first|exact eO.drew|exact eO
