/- Parts. -/
import Derived.Test.YtjkajidbdmbbaaaGreatI07
import Derived.Deep.RegionWith
set_option linter.unusedSimpArgs false
set_option linter.unusedVariables false
set_option maxRecDepth 100000
set_option maxHeartbeats 16000000
open Go.Proofs.Tryz
namespace Go.Proofs.YtjkajidbdmbbaaaGreat
open Go.RowKit
theorem mK (f x vp vb As Aa At cs ca ct w)(hb:ShB f x)(hc:Ir.classOf x.op=12) :
  ShP f x vp vb As Aa At cs ca ct w:=by
 unfold ShP;unfold ShB at hb;have m:=iX hc;obtain⟨u,j,q⟩:=iW x;obtain⟨im,d⟩:=xJ (Ref.isMem x.width);have p:Hid (∀g,Calls prog 104 #[.int .i64 x.width] g (RS (.bool im) g)):=fun g=>by rw[<-d];exact fS x.width g
 have r:Hid (Ir.shapeOf f x=(1,0,im && (x.imm == 0))):=by show _=_;unfold Ir.shapeOf;simp only[hc,d];rfl
 clear hc j d;obtain⟨l,t⟩:∃l,(x.imm == 0)=l:=⟨_,rfl⟩;cases l;all_goals cases im
 all_goals go_enter func93, ntmps93
 all_goals go_wp2_with (first|(go_at_call 103;refine(m.out _).mono ?_;rintro e g ⟨rfl,rfl⟩)|(go_at_call 90;refine(q.out _).mono ?_;rintro e g ⟨rfl,rfl⟩))
 all_goals (first|go_region_with (first|(go_at_call 104;refine(p.out _).mono ?_;rintro e g ⟨rfl,rfl⟩))|fail)
 all_goals go_wp2
 all_goals refine tA (by simp[results,results93,go_sem, *];rfl) rfl ?_
 all_goals refine⟨dk (by rw[r.out]<;>first|rfl|(simp[*];done)|grind),?_⟩
 all_goals first|exact dV.drew|exact dV
theorem oJ (f x vp vb As Aa At cs ca ct w)(hb:ShB f x)(hc:Ir.classOf x.op=2) :
  ShP f x vp vb As Aa At cs ca ct w:=by
 unfold ShP;unfold ShB at hb;have l:=iX hc;obtain⟨j,d,m⟩:=iW x;have p:Hid (Ir.shapeOf f x=(2,0,j && (x.imm == 0))):=by show _=_;unfold Ir.shapeOf;simp only[hc,d];rfl
 clear hc d;cases j;all_goals (obtain⟨g,q⟩:∃g,(x.imm == 0)=g:=⟨_,rfl⟩;cases g)
 all_goals go_enter func93, ntmps93
 all_goals go_wp2_with (first|(go_at_call 103;refine(l.out _).mono ?_;rintro e r ⟨rfl,rfl⟩)|(go_at_call 90;refine(m.out _).mono ?_;rintro e r ⟨rfl,rfl⟩))
 all_goals go_region
 all_goals go_wp2
 all_goals refine tA (by simp[results,results93,go_sem, *];rfl) rfl ?_
 all_goals refine⟨dk (by rw[p.out];first|rfl|(simp[*];done)|grind),?_⟩
 all_goals first|exact dV.drew|exact dV
theorem oK (f x vp vb As Aa At cs ca ct w)(hb:ShB f x)(hc:Ir.classOf x.op=3) :
  ShP f x vp vb As Aa At cs ca ct w:=by
 unfold ShP;unfold ShB at hb;have l:=iX hc;obtain⟨r,j,m⟩:=iW x;have p:Hid (Ir.shapeOf f x=(2,0,(x.width == 1) && decide (x.imm<=9))):=by show _=_;unfold Ir.shapeOf;simp only[hc];rfl
 clear hc j;(obtain⟨g,q⟩:∃g,(x.width == 1)=g:=⟨_,rfl⟩;cases g);all_goals (rcases Decidable.em (x.imm<=9) with d|d)
 all_goals go_enter func93, ntmps93
 all_goals go_wp2_with (first|(go_at_call 103;refine(l.out _).mono ?_;rintro e g ⟨rfl,rfl⟩)|(go_at_call 90;refine(m.out _).mono ?_;rintro e g ⟨rfl,rfl⟩))
 all_goals go_region
 all_goals go_wp2
 all_goals refine tA (by simp[results,results93,go_sem, *];rfl) rfl ?_
 all_goals refine⟨dk (by rw[p.out];first|rfl|(simp[*];done)|grind),?_⟩
 all_goals first|exact dV.drew|exact dV
theorem oL (f x vp vb As Aa At cs ca ct w)(hb:ShB f x)(hc:Ir.classOf x.op=4) :
  ShP f x vp vb As Aa At cs ca ct w:=by
 unfold ShP;unfold ShB at hb;have p:=iX hc;obtain⟨m,g,q⟩:=iW x;have r:Hid (Ir.shapeOf f x=(3,0,(m || (x.width == 33)) && (x.imm == 0))):=by show _=_;unfold Ir.shapeOf;simp only[hc,g];rfl
 clear hc g;cases m;all_goals (obtain⟨d,l⟩:∃d,(x.width == 33)=d:=⟨_,rfl⟩;cases d)
 all_goals (obtain⟨j,t⟩:∃j,(x.imm == 0)=j:=⟨_,rfl⟩;cases j)
 all_goals go_enter func93, ntmps93
 all_goals go_wp2_with (first|(go_at_call 103;refine(p.out _).mono ?_;rintro e u ⟨rfl,rfl⟩)|(go_at_call 90;refine(q.out _).mono ?_;rintro e u ⟨rfl,rfl⟩))
 all_goals go_region
 all_goals go_wp2
 all_goals refine tA (by simp[results,results93,go_sem, *];rfl) rfl ?_
 all_goals refine⟨dk (by rw[r.out];first|rfl|(simp[*];done)|grind),?_⟩
 all_goals first|exact dV.drew|exact dV
theorem oM (f x vp vb As Aa At cs ca ct w)(hb:ShB f x)(hc:Ir.classOf x.op=5) :
  ShP f x vp vb As Aa At cs ca ct w:=by
 unfold ShP;unfold ShB at hb;have l:=iX hc;obtain⟨j,d,m⟩:=iW x;have p:Hid (Ir.shapeOf f x=(1,0,j && (x.imm == 0))):=by show _=_;unfold Ir.shapeOf;simp only[hc,d];rfl
 clear hc d;cases j;all_goals (obtain⟨g,q⟩:∃g,(x.imm == 0)=g:=⟨_,rfl⟩;cases g)
 all_goals go_enter func93, ntmps93
 all_goals go_wp2_with (first|(go_at_call 103;refine(l.out _).mono ?_;rintro e r ⟨rfl,rfl⟩)|(go_at_call 90;refine(m.out _).mono ?_;rintro e r ⟨rfl,rfl⟩))
 all_goals go_region
 all_goals go_wp2
 all_goals refine tA (by simp[results,results93,go_sem, *];rfl) rfl ?_
 all_goals refine⟨dk (by rw[p.out];first|rfl|(simp[*];done)|grind),?_⟩
 all_goals first|exact dV.drew|exact dV
theorem oN (f x vp vb As Aa At cs ca ct w)(hb:ShB f x)(hc:Ir.classOf x.op=6) :
  ShP f x vp vb As Aa At cs ca ct w:=by
 unfold ShP;unfold ShB at hb;have l:=iX hc;obtain⟨j,d,m⟩:=iW x;have p:Hid (Ir.shapeOf f x=(1,0,j && (x.imm == 0))):=by show _=_;unfold Ir.shapeOf;simp only[hc,d];rfl
 clear hc d;cases j;all_goals (obtain⟨g,q⟩:∃g,(x.imm == 0)=g:=⟨_,rfl⟩;cases g)
 all_goals go_enter func93, ntmps93
 all_goals go_wp2_with (first|(go_at_call 103;refine(l.out _).mono ?_;rintro e r ⟨rfl,rfl⟩)|(go_at_call 90;refine(m.out _).mono ?_;rintro e r ⟨rfl,rfl⟩))
 all_goals go_region
 all_goals go_wp2
 all_goals refine tA (by simp[results,results93,go_sem, *];rfl) rfl ?_
 all_goals refine⟨dk (by rw[p.out];first|rfl|(simp[*];done)|grind),?_⟩
 all_goals first|exact dV.drew|exact dV
theorem oP (f x vp vb As Aa At cs ca ct w)(hb:ShB f x)(hc:Ir.classOf x.op=8) :
  ShP f x vp vb As Aa At cs ca ct w:=by
 unfold ShP;unfold ShB at hb;have l:=iX hc;obtain⟨j,d,m⟩:=iW x;have p:Hid (Ir.shapeOf f x=(1,0,j && (x.imm == 0))):=by show _=_;unfold Ir.shapeOf;simp only[hc,d];rfl
 clear hc d;cases j;all_goals (obtain⟨g,q⟩:∃g,(x.imm == 0)=g:=⟨_,rfl⟩;cases g)
 all_goals go_enter func93, ntmps93
 all_goals go_wp2_with (first|(go_at_call 103;refine(l.out _).mono ?_;rintro e r ⟨rfl,rfl⟩)|(go_at_call 90;refine(m.out _).mono ?_;rintro e r ⟨rfl,rfl⟩))
 all_goals go_region
 all_goals go_wp2
 all_goals refine tA (by simp[results,results93,go_sem, *];rfl) rfl ?_
 all_goals refine⟨dk (by rw[p.out];first|rfl|(simp[*];done)|grind),?_⟩
 all_goals first|exact dV.drew|exact dV
theorem oQ (f x vp vb As Aa At cs ca ct w)(hb:ShB f x)(hc:Ir.classOf x.op=9) :
  ShP f x vp vb As Aa At cs ca ct w:=by
 unfold ShP;unfold ShB at hb;have l:=iX hc;obtain⟨j,d,m⟩:=iW x;have p:Hid (Ir.shapeOf f x=(0,0,j && (x.imm == 0))):=by show _=_;unfold Ir.shapeOf;simp only[hc,d];rfl
 clear hc d;cases j;all_goals (obtain⟨g,q⟩:∃g,(x.imm == 0)=g:=⟨_,rfl⟩;cases g)
 all_goals go_enter func93, ntmps93
 all_goals go_wp2_with (first|(go_at_call 103;refine(l.out _).mono ?_;rintro e r ⟨rfl,rfl⟩)|(go_at_call 90;refine(m.out _).mono ?_;rintro e r ⟨rfl,rfl⟩))
 all_goals go_region
 all_goals go_wp2
 all_goals refine tA (by simp[results,results93,go_sem, *];rfl) rfl ?_
 all_goals refine⟨dk (by rw[p.out];first|rfl|(simp[*];done)|grind),?_⟩
 all_goals first|exact dV.drew|exact dV
theorem mI (f x vp vb As Aa At cs ca ct w)(hb:ShB f x)(hc:Ir.classOf x.op=10) :
  ShP f x vp vb As Aa At cs ca ct w:=by
 unfold ShP;unfold ShB at hb;have m:=iX hc;obtain⟨t,j,p⟩:=iW x;have q:Hid (Ir.shapeOf f x=(0,0,(x.width == 33) && decide (x.imm<f.slots.length))):=by show _=_;unfold Ir.shapeOf;simp only[hc];rfl
 clear hc j;(obtain⟨d,l⟩:∃d,(x.width == 33)=d:=⟨_,rfl⟩;cases d);all_goals (rcases Decidable.em (x.imm<(f.slots.length:Int)) with g|g)
 all_goals go_enter func93, ntmps93
 all_goals go_wp2_with (first|(go_at_call 103;refine(m.out _).mono ?_;rintro e r ⟨rfl,rfl⟩)|(go_at_call 90;refine(p.out _).mono ?_;rintro e r ⟨rfl,rfl⟩))
 all_goals go_region
 all_goals go_wp2
 all_goals refine tA (by simp[results,results93,go_sem, *];rfl) rfl ?_
 all_goals refine⟨dk (by rw[q.out];first|rfl|(simp[*];done)|grind),?_⟩
 all_goals first|exact dV.drew|exact dV
theorem mJ (f x vp vb As Aa At cs ca ct w)(hb:ShB f x)(hc:Ir.classOf x.op=11) :
  ShP f x vp vb As Aa At cs ca ct w:=by
 unfold ShP;unfold ShB at hb;have m:=iX hc;obtain⟨u,g,p⟩:=iW x;have q:Hid (Ir.shapeOf f x=(2,0,(x.width == 33) && (x.imm == 0))):=by show _=_;unfold Ir.shapeOf;simp only[hc];rfl
 clear hc g;(obtain⟨d,l⟩:∃d,(x.width == 33)=d:=⟨_,rfl⟩;cases d);all_goals (obtain⟨j,r⟩:∃j,(x.imm == 0)=j:=⟨_,rfl⟩;cases j)
 all_goals go_enter func93, ntmps93
 all_goals go_wp2_with (first|(go_at_call 103;refine(m.out _).mono ?_;rintro e t ⟨rfl,rfl⟩)|(go_at_call 90;refine(p.out _).mono ?_;rintro e t ⟨rfl,rfl⟩))
 all_goals go_region
 all_goals go_wp2
 all_goals refine tA (by simp[results,results93,go_sem, *];rfl) rfl ?_
 all_goals refine⟨dk (by rw[q.out];first|rfl|(simp[*];done)|grind),?_⟩
 all_goals first|exact dV.drew|exact dV
theorem mL (f x vp vb As Aa At cs ca ct w)(hb:ShB f x)(hc:Ir.classOf x.op=13) :
  ShP f x vp vb As Aa At cs ca ct w:=by
 unfold ShP;unfold ShB at hb;have j:=iX hc;obtain⟨t,d,l⟩:=iW x;have m:Hid (Ir.shapeOf f x=(2,0,(x.width == 0) && (x.imm == 0))):=by show _=_;unfold Ir.shapeOf;simp only[hc];rfl
 clear hc d;(obtain⟨w0,q⟩:∃w0,(x.width == 0)=w0:=⟨_,rfl⟩;cases w0);all_goals (obtain⟨g,p⟩:∃g,(x.imm == 0)=g:=⟨_,rfl⟩;cases g)
 all_goals go_enter func93, ntmps93
 all_goals go_wp2_with (first|(go_at_call 103;refine(j.out _).mono ?_;rintro e r ⟨rfl,rfl⟩)|(go_at_call 90;refine(l.out _).mono ?_;rintro e r ⟨rfl,rfl⟩))
 all_goals go_region
 all_goals go_wp2
 all_goals refine tA (by simp[results,results93,go_sem, *];rfl) rfl ?_
 all_goals refine⟨dk (by rw[m.out];first|rfl|(simp[*];done)|grind),?_⟩
 all_goals first|exact dV.drew|exact dV
theorem mN (f x vp vb As Aa At cs ca ct w)(hb:ShB f x)(hc:Ir.classOf x.op=15) :
  ShP f x vp vb As Aa At cs ca ct w:=by
 unfold ShP;unfold ShB at hb;have j:=iX hc;obtain⟨t,d,l⟩:=iW x;have m:Hid (Ir.shapeOf f x=(0,1,(x.width == 0) && (x.imm == 0))):=by show _=_;unfold Ir.shapeOf;simp only[hc];rfl
 clear hc d;(obtain⟨w0,q⟩:∃w0,(x.width == 0)=w0:=⟨_,rfl⟩;cases w0);all_goals (obtain⟨g,p⟩:∃g,(x.imm == 0)=g:=⟨_,rfl⟩;cases g)
 all_goals go_enter func93, ntmps93
 all_goals go_wp2_with (first|(go_at_call 103;refine(j.out _).mono ?_;rintro e r ⟨rfl,rfl⟩)|(go_at_call 90;refine(l.out _).mono ?_;rintro e r ⟨rfl,rfl⟩))
 all_goals go_region
 all_goals go_wp2
 all_goals refine tA (by simp[results,results93,go_sem, *];rfl) rfl ?_
 all_goals refine⟨dk (by rw[m.out]<;>first|rfl|(simp[*];done)|grind),?_⟩
 all_goals first|exact dV.drew|exact dV
theorem mP (f x vp vb As Aa At cs ca ct w)(hb:ShB f x)(hc:Ir.classOf x.op=17) :
  ShP f x vp vb As Aa At cs ca ct w:=by
 unfold ShP;unfold ShB at hb;have l:=iX hc;obtain⟨u,g,m⟩:=iW x;have p:Hid (Ir.shapeOf f x=(if f.ret<1 then f.ret else 1,0,(x.width == 0) && (x.imm == 0))):=by show _=_;unfold Ir.shapeOf;simp only[hc];rfl
 clear hc g;(obtain⟨w0,r⟩:∃w0,(x.width == 0)=w0:=⟨_,rfl⟩;cases w0);all_goals (obtain⟨j,q⟩:∃j,(x.imm == 0)=j:=⟨_,rfl⟩;cases j)
 all_goals (rcases Decidable.em (f.ret<1) with d|d)
 all_goals go_enter func93, ntmps93
 all_goals go_wp2_with (first|(go_at_call 103;refine(l.out _).mono ?_;rintro e t ⟨rfl,rfl⟩)|(go_at_call 90;refine(m.out _).mono ?_;rintro e t ⟨rfl,rfl⟩))
 all_goals go_region
 all_goals go_wp2
 all_goals refine tA (by simp[results,results93,go_sem, *];rfl) rfl ?_
 all_goals refine⟨dk (by rw[p.out]<;>first|rfl|(simp[*];done)|grind),?_⟩
 all_goals first|exact dV.drew|exact dV
theorem mQ (f x vp vb As Aa At cs ca ct w)(hb:ShB f x)(hc:Ir.classOf x.op=18) :
  ShP f x vp vb As Aa At cs ca ct w:=by
 unfold ShP;unfold ShB at hb;have j:=iX hc;obtain⟨t,d,l⟩:=iW x;have m:Hid (Ir.shapeOf f x=(0,0,(x.width == 0) && (x.imm == 0))):=by show _=_;unfold Ir.shapeOf;simp only[hc];rfl
 clear hc d;(obtain⟨w0,q⟩:∃w0,(x.width == 0)=w0:=⟨_,rfl⟩;cases w0);all_goals (obtain⟨g,p⟩:∃g,(x.imm == 0)=g:=⟨_,rfl⟩;cases g)
 all_goals go_enter func93, ntmps93
 all_goals go_wp2_with (first|(go_at_call 103;refine(j.out _).mono ?_;rintro e r ⟨rfl,rfl⟩)|(go_at_call 90;refine(l.out _).mono ?_;rintro e r ⟨rfl,rfl⟩))
 all_goals go_region
 all_goals go_wp2
 all_goals refine tA (by simp[results,results93,go_sem, *];rfl) rfl ?_
 all_goals refine⟨dk (by rw[m.out]<;>first|rfl|(simp[*];done)|grind),?_⟩
 all_goals first|exact dV.drew|exact dV
theorem oH (f x vp vb As Aa At cs ca ct w)(hb:ShB f x)(hc:Ir.classOf x.op=0) :
  ShP f x vp vb As Aa At cs ca ct w:=by
 unfold ShP;unfold ShB at hb;have g:=iX hc;obtain⟨p,d,j⟩:=iW x;have l:Hid (Ir.shapeOf f x=(0,0,false)):=by show _=_;unfold Ir.shapeOf;simp only[hc];rfl
 clear hc d;all_goals go_enter func93, ntmps93
 all_goals go_wp2_with (first|(go_at_call 103;refine(g.out _).mono ?_;rintro e m ⟨rfl,rfl⟩)|(go_at_call 90;refine(j.out _).mono ?_;rintro e m ⟨rfl,rfl⟩))
 all_goals go_wp2
 all_goals refine tA (by simp[results,results93,go_sem, *];rfl) rfl ?_
 all_goals refine⟨dk (by rw[l.out]<;>first|rfl|(simp[*];done)|grind),?_⟩
 all_goals first|exact dV.drew|exact dV
