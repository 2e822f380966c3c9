/- Parts. -/
import Derived.Test.YthfjdhanbegaoaaGreatDoorT05
set_option linter.unusedSimpArgs false
set_option linter.unusedVariables false
set_option maxRecDepth 100000
set_option maxHeartbeats 16000000
open Go.Proofs.Tryz
namespace Go.Proofs.YthfjdhanbegaoaaGreatDoor
open Go.RowKit
theorem mq (f x vp vb As Aa At cs ca ct w)(hb:ShB f x)(hc:Ir.classOf x.op=1) :
  ShP f x vp vb As Aa At cs ca ct w:=by
 unfold ShP;unfold ShB at hb;have t:=iC hc;obtain⟨z,d,u⟩:=iA x
 cases z with
 | true =>
  have y:1<=x.width/\x.width<=32:=by unfold Ref.isWidth at d;simpa using d
  obtain⟨n,r⟩:=pg (show 0<=x.width by omega);have j:Hid (∀g,Calls prog 118 #[.int .i64 x.width] g (RS (.tuple #[.int .u32 (2 ^ n-1),.int .i64 0]) g)):=fun g=>by rw[r];exact nL n g (by omega) (by omega)
  obtain⟨m,q⟩:∃m:Int,(2:Int) ^ n-1=m:=⟨_,rfl⟩;have l:Hid (Ir.shapeOf f x=(0,0,decide (x.imm<=m))):=by show _=_;unfold Ir.shapeOf;simp only[hc,d];simp[r,q]
  rw[q]at j;clear hc d y r q;rcases Decidable.em (x.imm<=m) with p|p;all_goals go_enter func82, ntmps82
  all_goals go_wp2_with (first|(go_at_call 92;refine(t.out _).mono ?_;rintro e g ⟨rfl,rfl⟩)|(go_at_call 79;refine(u.out _).mono ?_;rintro e g ⟨rfl,rfl⟩)|(go_at_call 118;refine(j.out _).mono ?_;rintro e g ⟨rfl,rfl⟩))
  all_goals go_region
  all_goals go_wp2
  all_goals refine pA (by simp[results,results82,go_sem, *];rfl) rfl ?_
  all_goals refine⟨du (by rw[l.out]<;>first|rfl|(simp[*];done)|grind),?_⟩
  all_goals first|exact en.drew|exact en
 | false =>
  have j:Hid (∀g,Calls prog 118 #[.int .i64 x.width] g (RS (.tuple #[.int .u32 0,.int .i64 1]) g)):=fun g=>mP x.width g d;have l:Hid (Ir.shapeOf f x=(0,0,false)):=by show _=_;unfold Ir.shapeOf;simp only[hc];simp[d]
  clear hc d
  go_enter func82, ntmps82
  go_wp2_with (first|(go_at_call 92;refine(t.out _).mono ?_;rintro e g ⟨rfl,rfl⟩)|(go_at_call 79;refine(u.out _).mono ?_;rintro e g ⟨rfl,rfl⟩)|(go_at_call 118;refine(j.out _).mono ?_;rintro e g ⟨rfl,rfl⟩))
  go_region
  all_goals go_wp2
  all_goals refine pA (by simp[results,results82,go_sem, *];rfl) rfl ?_
  all_goals refine⟨du (by rw[l.out]<;>first|rfl|(simp[*];done)|grind),?_⟩
  all_goals first|exact en.drew|exact en
theorem two_of' (l:List Int)(h:l.length=2):∃a b,l=[a,b]:=by
 match l,h with
 | [a,b],_=>exact⟨a,b,rfl⟩
theorem kP (f x vp vb As Aa At cs ca ct w)(hb:ShB f x)(hvt:IntsAt w.heap.size w (.slice At x.to.length ct) x.to)(hc:Ir.classOf x.op=16) :
  ShP f x vp vb As Aa At cs ca ct w:=by
 unfold ShP;unfold ShB at hb;have I:=iC hc;obtain⟨R,F,J⟩:=iA x;have D:Hid (Ir.shapeOf f x=(1,2,(x.width == 0) && (x.imm == 0) && (decide (x.to.length≠2) || decide (x.to.getD 0 0≠x.to.getD 1 0)))):=by show _=_;unfold Ir.shapeOf;simp only[hc];rfl
 clear hc F
 have m:Hid (x.to.length≠2\/∃a b j l,x.to=[a,b]/\At=some ⟨j,l,none⟩/\(∀A B C:Obj,(((w.alloc A).alloc B).alloc C).cell? ⟨j,l,none⟩=some (.int .i64 a))/\(∀A B C:Obj,(((w.alloc A).alloc B).alloc C).cell? ⟨j,l+1,none⟩=some (.int .i64 b))):=by
  show _\/_;by_cases t:x.to.length=2
  ·right;obtain⟨P,Q,e,-,-,g3⟩:=hvt;obtain⟨j,l,N,u,y⟩:=g3 (by omega);obtain⟨a,b,d⟩:=two_of' x.to t;simp only[Value.slice.injEq]at e;exact⟨a,b,j,l,d,e.1.trans N,fun A B C=>((((qj w).alloc A).alloc B).alloc C).cell j l u |>.trans (y 0 a (by rw[d];rfl)),fun A B C=>((((qj w).alloc A).alloc B).alloc C).cell j (l+1) u |>.trans (y 1 b (by rw[d];rfl))⟩
  ·exact .inl t
 clear hvt;rcases m.out with t|⟨a,b,j,l,d,rfl,L,M⟩
 ·have g:Hid (Ir.shapeOf f x=(1,2,(x.width == 0) && (x.imm == 0))):=by show _=_;rw[D.out];simp[t]
  have G:((x.to.length:Int) == 2)=false:=by (simp;omega)
  have K:((x.to.length:Int) != 2)=true:=by (rw[bne,G];rfl)
  clear t m D;obtain⟨w0,r⟩:∃w0,(x.width == 0)=w0:=⟨_,rfl⟩;obtain⟨i0,q⟩:∃i0,(x.imm == 0)=i0:=⟨_,rfl⟩;rw[r,q]at g;cases w0;all_goals cases i0
  all_goals go_enter func82, ntmps82
  all_goals go_wp2_with (first|(go_at_call 92;refine(I.out _).mono ?_;rintro e H ⟨rfl,rfl⟩)|(go_at_call 79;refine(J.out _).mono ?_;rintro e H ⟨rfl,rfl⟩))
  all_goals go_region
  all_goals go_wp2
  all_goals refine pA (by simp[results,results82,go_sem, *];rfl) rfl ?_
  all_goals refine⟨du (by rw[g.out]<;>rfl),?_⟩
  all_goals first|exact en.drew|exact en
 ·have g:Hid (Ir.shapeOf f x=(1,2,(x.width == 0) && (x.imm == 0) && !(a == b))):=by
   show _=_;rw[D.out,d];by_cases e:a=b<;>simp[e]
  have O:x.to.length=2:=by rw[d];rfl
  clear d m D;obtain⟨w0,r⟩:∃w0,(x.width == 0)=w0:=⟨_,rfl⟩;obtain⟨i0,q⟩:∃i0,(x.imm == 0)=i0:=⟨_,rfl⟩;obtain⟨E,p⟩:∃E,(a == b)=E:=⟨_,rfl⟩;rw[r,q,p]at g;cases w0;all_goals cases i0
  all_goals cases E
  all_goals try have z:(a != b)=true:=by rw[bne,p];rfl
  all_goals try have z:(a != b)=false:=by rw[bne,p];rfl
  all_goals go_enter func82, ntmps82
  all_goals go_wp2_with (first|(go_at_call 92;refine(I.out _).mono ?_;rintro e H ⟨rfl,rfl⟩)|(go_at_call 79;refine(J.out _).mono ?_;rintro e H ⟨rfl,rfl⟩))
  all_goals go_region
  all_goals go_wp2
  all_goals refine pA (by simp[results,results82,go_sem, *];rfl) rfl ?_
  all_goals refine⟨du (by rw[g.out]<;>rfl),?_⟩
  all_goals first|exact en.drew|exact en
theorem mx (f x vp vb As Aa At cs ca ct w)(hb:ShB f x)(hc:Ir.classOf x.op=7) :
  ShP f x vp vb As Aa At cs ca ct w:=by
 unfold ShP;unfold ShB at hb;have j:=iC hc;obtain⟨t,d,l⟩:=iA x;have m:Hid (Ir.shapeOf f x=(2,0,t && decide (1<=x.imm) && decide (x.imm<x.width) && (x.width%x.imm == 0))):=by show _=_;unfold Ir.shapeOf;simp only[hc,d];rfl
 cases t with
 | false =>
  clear hc d
  go_enter func82, ntmps82
  go_wp2_with (first|(go_at_call 92;refine(j.out _).mono ?_;rintro e g ⟨rfl,rfl⟩)|(go_at_call 79;refine(l.out _).mono ?_;rintro e g ⟨rfl,rfl⟩))
  go_region
  all_goals go_wp2
  all_goals refine pA (by simp[results,results82,go_sem, *];rfl) rfl ?_
  all_goals refine⟨du (by rw[m.out]<;>first|rfl|(simp[*];done)|grind),?_⟩
  all_goals first|exact en.drew|exact en
 | true =>
  have z:1<=x.width/\x.width<=32:=by unfold Ref.isWidth at d;simpa using d
  obtain⟨A,B⟩:=z;have u:x.width%4294967296=x.width:=by omega
  clear hc d;rcases (by omega:1<=x.imm\/x.imm=0) with p|p
  ·rcases (by omega:x.imm<x.width\/x.width<=x.imm) with q|q
   ·obtain⟨r,y⟩:∃r,(x.width%x.imm == 0)=r:=⟨_,rfl⟩;cases r;all_goals go_enter func82, ntmps82
    all_goals go_wp2_with (first|(go_at_call 92;refine(j.out _).mono ?_;rintro e g ⟨rfl,rfl⟩)|(go_at_call 79;refine(l.out _).mono ?_;rintro e g ⟨rfl,rfl⟩))
    all_goals go_region
    all_goals go_wp2
    all_goals refine pA (by simp[results,results82,go_sem, *];rfl) rfl ?_
    all_goals refine⟨du (by rw[m.out]<;>first|rfl|(simp[*];done)|grind),?_⟩
    all_goals first|exact en.drew|exact en
   ·have hd:decide (x.imm<x.width)=false:=by simp;omega
    go_enter func82, ntmps82
    go_wp2_with (first|(go_at_call 92;refine(j.out _).mono ?_;rintro e g ⟨rfl,rfl⟩)|(go_at_call 79;refine(l.out _).mono ?_;rintro e g ⟨rfl,rfl⟩))
    go_region
    all_goals go_wp2
    all_goals refine pA (by simp[results,results82,go_sem, *];rfl) rfl ?_
    all_goals refine⟨du (by rw[m.out]<;>first|rfl|(simp[*];done)|grind),?_⟩
    all_goals first|exact en.drew|exact en
  ·go_enter func82, ntmps82
   go_wp2_with (first|(go_at_call 92;refine(j.out _).mono ?_;rintro e g ⟨rfl,rfl⟩)|(go_at_call 79;refine(l.out _).mono ?_;rintro e g ⟨rfl,rfl⟩))
   go_region
   all_goals go_wp2
   all_goals refine pA (by simp[results,results82,go_sem, *];rfl) rfl ?_
   all_goals refine⟨du (by rw[m.out]<;>first|rfl|(simp[*];done)|grind),?_⟩
   all_goals first|exact en.drew|exact en
