/- Parts. -/
import Derived.Test.YthfjdhanbegaoaaGreatDoorT05
import Derived.Deep.RegionWith
set_option linter.unusedSimpArgs false
set_option linter.unusedVariables false
set_option maxRecDepth 100000
set_option maxHeartbeats 16000000
open Go.Proofs.Tryz
namespace Go.Proofs.YthfjdhanbegaoaaGreatDoor
open Go.RowKit
theorem kL (f x vp vb As Aa At cs ca ct w)(hb:ShB f x)(hc:Ir.classOf x.op=12) :
  ShP f x vp vb As Aa At cs ca ct w:=by
 unfold ShP;unfold ShB at hb;have l:=iC hc;obtain⟨t,j,p⟩:=iA x;obtain⟨im,d⟩:=xJ (Ref.isMem x.width);have m:Hid (∀g,Calls prog 93 #[.int .i64 x.width] g (RS (.bool im) g)):=fun g=>by rw[<-d];exact fP x.width g
 have q:Hid (Ir.shapeOf f x=(1,0,im && (x.imm == 0))):=by show _=_;unfold Ir.shapeOf;simp only[hc,d];rfl
 clear hc j d;obtain⟨i0,r⟩:∃i0,(x.imm == 0)=i0:=⟨_,rfl⟩;cases i0;all_goals cases im
 all_goals go_enter func82, ntmps82
 all_goals go_wp2_with (first|(go_at_call 92;refine(l.out _).mono ?_;rintro e g ⟨rfl,rfl⟩)|(go_at_call 79;refine(p.out _).mono ?_;rintro e g ⟨rfl,rfl⟩))
 all_goals (first|go_region_with (first|(go_at_call 93;refine(m.out _).mono ?_;rintro e g ⟨rfl,rfl⟩))|fail)
 all_goals go_wp2
 all_goals refine pA (by simp[results,results82,go_sem, *];rfl) rfl ?_
 all_goals refine⟨du (by rw[q.out]<;>first|rfl|(simp[*];done)|grind),?_⟩
 all_goals first|exact en.drew|exact en
theorem mr (f x vp vb As Aa At cs ca ct w)(hb:ShB f x)(hc:Ir.classOf x.op=2) :
  ShP f x vp vb As Aa At cs ca ct w:=by
 unfold ShP;unfold ShB at hb;have j:=iC hc;obtain⟨g,d,l⟩:=iA x;have m:Hid (Ir.shapeOf f x=(2,0,g && (x.imm == 0))):=by show _=_;unfold Ir.shapeOf;simp only[hc,d];rfl
 clear hc d;cases g;all_goals (obtain⟨i0,p⟩:∃i0,(x.imm == 0)=i0:=⟨_,rfl⟩;cases i0)
 all_goals go_enter func82, ntmps82
 all_goals go_wp2_with (first|(go_at_call 92;refine(j.out _).mono ?_;rintro e q ⟨rfl,rfl⟩)|(go_at_call 79;refine(l.out _).mono ?_;rintro e q ⟨rfl,rfl⟩))
 all_goals go_region
 all_goals go_wp2
 all_goals refine pA (by simp[results,results82,go_sem, *];rfl) rfl ?_
 all_goals refine⟨du (by rw[m.out];first|rfl|(simp[*];done)|grind),?_⟩
 all_goals first|exact en.drew|exact en
theorem ms (f x vp vb As Aa At cs ca ct w)(hb:ShB f x)(hc:Ir.classOf x.op=3) :
  ShP f x vp vb As Aa At cs ca ct w:=by
 unfold ShP;unfold ShB at hb;have l:=iC hc;obtain⟨r,j,m⟩:=iA x;have p:Hid (Ir.shapeOf f x=(2,0,(x.width == 1) && decide (x.imm<=9))):=by show _=_;unfold Ir.shapeOf;simp only[hc];rfl
 clear hc j;(obtain⟨g,q⟩:∃g,(x.width == 1)=g:=⟨_,rfl⟩;cases g);all_goals (rcases Decidable.em (x.imm<=9) with d|d)
 all_goals go_enter func82, ntmps82
 all_goals go_wp2_with (first|(go_at_call 92;refine(l.out _).mono ?_;rintro e g ⟨rfl,rfl⟩)|(go_at_call 79;refine(m.out _).mono ?_;rintro e g ⟨rfl,rfl⟩))
 all_goals go_region
 all_goals go_wp2
 all_goals refine pA (by simp[results,results82,go_sem, *];rfl) rfl ?_
 all_goals refine⟨du (by rw[p.out];first|rfl|(simp[*];done)|grind),?_⟩
 all_goals first|exact en.drew|exact en
theorem mt (f x vp vb As Aa At cs ca ct w)(hb:ShB f x)(hc:Ir.classOf x.op=4) :
  ShP f x vp vb As Aa At cs ca ct w:=by
 unfold ShP;unfold ShB at hb;have m:=iC hc;obtain⟨l,g,p⟩:=iA x;have q:Hid (Ir.shapeOf f x=(3,0,(l || (x.width == 33)) && (x.imm == 0))):=by show _=_;unfold Ir.shapeOf;simp only[hc,g];rfl
 clear hc g;cases l;all_goals (obtain⟨d,j⟩:∃d,(x.width == 33)=d:=⟨_,rfl⟩;cases d)
 all_goals (obtain⟨i0,r⟩:∃i0,(x.imm == 0)=i0:=⟨_,rfl⟩;cases i0)
 all_goals go_enter func82, ntmps82
 all_goals go_wp2_with (first|(go_at_call 92;refine(m.out _).mono ?_;rintro e t ⟨rfl,rfl⟩)|(go_at_call 79;refine(p.out _).mono ?_;rintro e t ⟨rfl,rfl⟩))
 all_goals go_region
 all_goals go_wp2
 all_goals refine pA (by simp[results,results82,go_sem, *];rfl) rfl ?_
 all_goals refine⟨du (by rw[q.out];first|rfl|(simp[*];done)|grind),?_⟩
 all_goals first|exact en.drew|exact en
theorem mu (f x vp vb As Aa At cs ca ct w)(hb:ShB f x)(hc:Ir.classOf x.op=5) :
  ShP f x vp vb As Aa At cs ca ct w:=by
 unfold ShP;unfold ShB at hb;have j:=iC hc;obtain⟨g,d,l⟩:=iA x;have m:Hid (Ir.shapeOf f x=(1,0,g && (x.imm == 0))):=by show _=_;unfold Ir.shapeOf;simp only[hc,d];rfl
 clear hc d;cases g;all_goals (obtain⟨i0,p⟩:∃i0,(x.imm == 0)=i0:=⟨_,rfl⟩;cases i0)
 all_goals go_enter func82, ntmps82
 all_goals go_wp2_with (first|(go_at_call 92;refine(j.out _).mono ?_;rintro e q ⟨rfl,rfl⟩)|(go_at_call 79;refine(l.out _).mono ?_;rintro e q ⟨rfl,rfl⟩))
 all_goals go_region
 all_goals go_wp2
 all_goals refine pA (by simp[results,results82,go_sem, *];rfl) rfl ?_
 all_goals refine⟨du (by rw[m.out];first|rfl|(simp[*];done)|grind),?_⟩
 all_goals first|exact en.drew|exact en
theorem mw (f x vp vb As Aa At cs ca ct w)(hb:ShB f x)(hc:Ir.classOf x.op=6) :
  ShP f x vp vb As Aa At cs ca ct w:=by
 unfold ShP;unfold ShB at hb;have j:=iC hc;obtain⟨g,d,l⟩:=iA x;have m:Hid (Ir.shapeOf f x=(1,0,g && (x.imm == 0))):=by show _=_;unfold Ir.shapeOf;simp only[hc,d];rfl
 clear hc d;cases g;all_goals (obtain⟨i0,p⟩:∃i0,(x.imm == 0)=i0:=⟨_,rfl⟩;cases i0)
 all_goals go_enter func82, ntmps82
 all_goals go_wp2_with (first|(go_at_call 92;refine(j.out _).mono ?_;rintro e q ⟨rfl,rfl⟩)|(go_at_call 79;refine(l.out _).mono ?_;rintro e q ⟨rfl,rfl⟩))
 all_goals go_region
 all_goals go_wp2
 all_goals refine pA (by simp[results,results82,go_sem, *];rfl) rfl ?_
 all_goals refine⟨du (by rw[m.out];first|rfl|(simp[*];done)|grind),?_⟩
 all_goals first|exact en.drew|exact en
theorem my (f x vp vb As Aa At cs ca ct w)(hb:ShB f x)(hc:Ir.classOf x.op=8) :
  ShP f x vp vb As Aa At cs ca ct w:=by
 unfold ShP;unfold ShB at hb;have j:=iC hc;obtain⟨g,d,l⟩:=iA x;have m:Hid (Ir.shapeOf f x=(1,0,g && (x.imm == 0))):=by show _=_;unfold Ir.shapeOf;simp only[hc,d];rfl
 clear hc d;cases g;all_goals (obtain⟨i0,p⟩:∃i0,(x.imm == 0)=i0:=⟨_,rfl⟩;cases i0)
 all_goals go_enter func82, ntmps82
 all_goals go_wp2_with (first|(go_at_call 92;refine(j.out _).mono ?_;rintro e q ⟨rfl,rfl⟩)|(go_at_call 79;refine(l.out _).mono ?_;rintro e q ⟨rfl,rfl⟩))
 all_goals go_region
 all_goals go_wp2
 all_goals refine pA (by simp[results,results82,go_sem, *];rfl) rfl ?_
 all_goals refine⟨du (by rw[m.out];first|rfl|(simp[*];done)|grind),?_⟩
 all_goals first|exact en.drew|exact en
theorem mz (f x vp vb As Aa At cs ca ct w)(hb:ShB f x)(hc:Ir.classOf x.op=9) :
  ShP f x vp vb As Aa At cs ca ct w:=by
 unfold ShP;unfold ShB at hb;have j:=iC hc;obtain⟨g,d,l⟩:=iA x;have m:Hid (Ir.shapeOf f x=(0,0,g && (x.imm == 0))):=by show _=_;unfold Ir.shapeOf;simp only[hc,d];rfl
 clear hc d;cases g;all_goals (obtain⟨i0,p⟩:∃i0,(x.imm == 0)=i0:=⟨_,rfl⟩;cases i0)
 all_goals go_enter func82, ntmps82
 all_goals go_wp2_with (first|(go_at_call 92;refine(j.out _).mono ?_;rintro e q ⟨rfl,rfl⟩)|(go_at_call 79;refine(l.out _).mono ?_;rintro e q ⟨rfl,rfl⟩))
 all_goals go_region
 all_goals go_wp2
 all_goals refine pA (by simp[results,results82,go_sem, *];rfl) rfl ?_
 all_goals refine⟨du (by rw[m.out];first|rfl|(simp[*];done)|grind),?_⟩
 all_goals first|exact en.drew|exact en
theorem kJ (f x vp vb As Aa At cs ca ct w)(hb:ShB f x)(hc:Ir.classOf x.op=10) :
  ShP f x vp vb As Aa At cs ca ct w:=by
 unfold ShP;unfold ShB at hb;have m:=iC hc;obtain⟨t,j,p⟩:=iA x;have q:Hid (Ir.shapeOf f x=(0,0,(x.width == 33) && decide (x.imm<f.slots.length))):=by show _=_;unfold Ir.shapeOf;simp only[hc];rfl
 clear hc j;(obtain⟨d,l⟩:∃d,(x.width == 33)=d:=⟨_,rfl⟩;cases d);all_goals (rcases Decidable.em (x.imm<(f.slots.length:Int)) with g|g)
 all_goals go_enter func82, ntmps82
 all_goals go_wp2_with (first|(go_at_call 92;refine(m.out _).mono ?_;rintro e r ⟨rfl,rfl⟩)|(go_at_call 79;refine(p.out _).mono ?_;rintro e r ⟨rfl,rfl⟩))
 all_goals go_region
 all_goals go_wp2
 all_goals refine pA (by simp[results,results82,go_sem, *];rfl) rfl ?_
 all_goals refine⟨du (by rw[q.out];first|rfl|(simp[*];done)|grind),?_⟩
 all_goals first|exact en.drew|exact en
theorem kK (f x vp vb As Aa At cs ca ct w)(hb:ShB f x)(hc:Ir.classOf x.op=11) :
  ShP f x vp vb As Aa At cs ca ct w:=by
 unfold ShP;unfold ShB at hb;have l:=iC hc;obtain⟨t,g,m⟩:=iA x;have p:Hid (Ir.shapeOf f x=(2,0,(x.width == 33) && (x.imm == 0))):=by show _=_;unfold Ir.shapeOf;simp only[hc];rfl
 clear hc g;(obtain⟨d,j⟩:∃d,(x.width == 33)=d:=⟨_,rfl⟩;cases d);all_goals (obtain⟨i0,q⟩:∃i0,(x.imm == 0)=i0:=⟨_,rfl⟩;cases i0)
 all_goals go_enter func82, ntmps82
 all_goals go_wp2_with (first|(go_at_call 92;refine(l.out _).mono ?_;rintro e r ⟨rfl,rfl⟩)|(go_at_call 79;refine(m.out _).mono ?_;rintro e r ⟨rfl,rfl⟩))
 all_goals go_region
 all_goals go_wp2
 all_goals refine pA (by simp[results,results82,go_sem, *];rfl) rfl ?_
 all_goals refine⟨du (by rw[p.out];first|rfl|(simp[*];done)|grind),?_⟩
 all_goals first|exact en.drew|exact en
theorem kM (f x vp vb As Aa At cs ca ct w)(hb:ShB f x)(hc:Ir.classOf x.op=13) :
  ShP f x vp vb As Aa At cs ca ct w:=by
 unfold ShP;unfold ShB at hb;have g:=iC hc;obtain⟨r,d,j⟩:=iA x;have l:Hid (Ir.shapeOf f x=(2,0,(x.width == 0) && (x.imm == 0))):=by show _=_;unfold Ir.shapeOf;simp only[hc];rfl
 clear hc d;(obtain⟨w0,p⟩:∃w0,(x.width == 0)=w0:=⟨_,rfl⟩;cases w0);all_goals (obtain⟨i0,m⟩:∃i0,(x.imm == 0)=i0:=⟨_,rfl⟩;cases i0)
 all_goals go_enter func82, ntmps82
 all_goals go_wp2_with (first|(go_at_call 92;refine(g.out _).mono ?_;rintro e q ⟨rfl,rfl⟩)|(go_at_call 79;refine(j.out _).mono ?_;rintro e q ⟨rfl,rfl⟩))
 all_goals go_region
 all_goals go_wp2
 all_goals refine pA (by simp[results,results82,go_sem, *];rfl) rfl ?_
 all_goals refine⟨du (by rw[l.out];first|rfl|(simp[*];done)|grind),?_⟩
 all_goals first|exact en.drew|exact en
theorem kO (f x vp vb As Aa At cs ca ct w)(hb:ShB f x)(hc:Ir.classOf x.op=15) :
  ShP f x vp vb As Aa At cs ca ct w:=by
 unfold ShP;unfold ShB at hb;have g:=iC hc;obtain⟨r,d,j⟩:=iA x;have l:Hid (Ir.shapeOf f x=(0,1,(x.width == 0) && (x.imm == 0))):=by show _=_;unfold Ir.shapeOf;simp only[hc];rfl
 clear hc d;(obtain⟨w0,p⟩:∃w0,(x.width == 0)=w0:=⟨_,rfl⟩;cases w0);all_goals (obtain⟨i0,m⟩:∃i0,(x.imm == 0)=i0:=⟨_,rfl⟩;cases i0)
 all_goals go_enter func82, ntmps82
 all_goals go_wp2_with (first|(go_at_call 92;refine(g.out _).mono ?_;rintro e q ⟨rfl,rfl⟩)|(go_at_call 79;refine(j.out _).mono ?_;rintro e q ⟨rfl,rfl⟩))
 all_goals go_region
 all_goals go_wp2
 all_goals refine pA (by simp[results,results82,go_sem, *];rfl) rfl ?_
 all_goals refine⟨du (by rw[l.out]<;>first|rfl|(simp[*];done)|grind),?_⟩
 all_goals first|exact en.drew|exact en
theorem kQ (f x vp vb As Aa At cs ca ct w)(hb:ShB f x)(hc:Ir.classOf x.op=17) :
  ShP f x vp vb As Aa At cs ca ct w:=by
 unfold ShP;unfold ShB at hb;have j:=iC hc;obtain⟨t,g,l⟩:=iA x;have m:Hid (Ir.shapeOf f x=(if f.ret<1 then f.ret else 1,0,(x.width == 0) && (x.imm == 0))):=by show _=_;unfold Ir.shapeOf;simp only[hc];rfl
 clear hc g;(obtain⟨w0,q⟩:∃w0,(x.width == 0)=w0:=⟨_,rfl⟩;cases w0);all_goals (obtain⟨i0,p⟩:∃i0,(x.imm == 0)=i0:=⟨_,rfl⟩;cases i0)
 all_goals (rcases Decidable.em (f.ret<1) with d|d)
 all_goals go_enter func82, ntmps82
 all_goals go_wp2_with (first|(go_at_call 92;refine(j.out _).mono ?_;rintro e r ⟨rfl,rfl⟩)|(go_at_call 79;refine(l.out _).mono ?_;rintro e r ⟨rfl,rfl⟩))
 all_goals go_region
 all_goals go_wp2
 all_goals refine pA (by simp[results,results82,go_sem, *];rfl) rfl ?_
 all_goals refine⟨du (by rw[m.out]<;>first|rfl|(simp[*];done)|grind),?_⟩
 all_goals first|exact en.drew|exact en
theorem kR (f x vp vb As Aa At cs ca ct w)(hb:ShB f x)(hc:Ir.classOf x.op=18) :
  ShP f x vp vb As Aa At cs ca ct w:=by
 unfold ShP;unfold ShB at hb;have g:=iC hc;obtain⟨r,d,j⟩:=iA x;have l:Hid (Ir.shapeOf f x=(0,0,(x.width == 0) && (x.imm == 0))):=by show _=_;unfold Ir.shapeOf;simp only[hc];rfl
 clear hc d;(obtain⟨w0,p⟩:∃w0,(x.width == 0)=w0:=⟨_,rfl⟩;cases w0);all_goals (obtain⟨i0,m⟩:∃i0,(x.imm == 0)=i0:=⟨_,rfl⟩;cases i0)
 all_goals go_enter func82, ntmps82
 all_goals go_wp2_with (first|(go_at_call 92;refine(g.out _).mono ?_;rintro e q ⟨rfl,rfl⟩)|(go_at_call 79;refine(j.out _).mono ?_;rintro e q ⟨rfl,rfl⟩))
 all_goals go_region
 all_goals go_wp2
 all_goals refine pA (by simp[results,results82,go_sem, *];rfl) rfl ?_
 all_goals refine⟨du (by rw[l.out]<;>first|rfl|(simp[*];done)|grind),?_⟩
 all_goals first|exact en.drew|exact en
theorem mp (f x vp vb As Aa At cs ca ct w)(hb:ShB f x)(hc:Ir.classOf x.op=0) :
  ShP f x vp vb As Aa At cs ca ct w:=by
 unfold ShP;unfold ShB at hb;have g:=iC hc;obtain⟨p,d,j⟩:=iA x;have l:Hid (Ir.shapeOf f x=(0,0,false)):=by show _=_;unfold Ir.shapeOf;simp only[hc];rfl
 clear hc d;all_goals go_enter func82, ntmps82
 all_goals go_wp2_with (first|(go_at_call 92;refine(g.out _).mono ?_;rintro e m ⟨rfl,rfl⟩)|(go_at_call 79;refine(j.out _).mono ?_;rintro e m ⟨rfl,rfl⟩))
 all_goals go_wp2
 all_goals refine pA (by simp[results,results82,go_sem, *];rfl) rfl ?_
 all_goals refine⟨du (by rw[l.out]<;>first|rfl|(simp[*];done)|grind),?_⟩
 all_goals first|exact en.drew|exact en
