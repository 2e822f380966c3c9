import Derived.Test.YtjkajidbdmbbaaaGreatN06
import Derived.Deep.RegionWith
set_option linter.unusedSimpArgs false
set_option linter.unusedVariables false
set_option maxRecDepth 100000
set_option maxHeartbeats 16000000
open Go.Proofs.Tryz
namespace Go.Proofs.YtjkajidbdmbbaaaGreat
open Ref Rn Wd Ir Rf
open Go.RowKit
theorem pI (f x vp vb As Aa At cs ca ct w)(hb:ShB f x)(hc:ir x.op=12) :
  ShP f x vp vb As Aa At cs ca ct w:=by
 unfold ShP;unfold ShB at hb;have m:=kP hc;obtain⟨u,j,q⟩:=kO x;obtain⟨im,d⟩:=xJ (Ea x.w);have p:Hid (∀g,Calls prog 104 #[.int .i64 x.w] g (RS (.bool im) g)):=fun g=>by rw[<-d];exact il x.w g
 have r:Hid (zV f x=(1,0,im && (x.i == 0))):=by show _=_;unfold zV;simp only[hc,d];rfl
 clear hc j d;obtain⟨l,t⟩:∃l,(x.i == 0)=l:=⟨_,rfl⟩;cases l;all_goals cases im
 all_goals go_enter func93, ntmps93
 all_goals go_wp2_with (first|(go_at_call 103;refine(m.out _).mono ?_;rintro e g ⟨rfl,rfl⟩)|(go_at_call 90;refine(q.out _).mono ?_;rintro e g ⟨rfl,rfl⟩))
 all_goals (first|go_region_with (first|(go_at_call 104;refine(p.out _).mono ?_;rintro e g ⟨rfl,rfl⟩))|fail)
 all_goals go_wp2
 all_goals refine yq (by simp[results,results93,go_sem, *];rfl) rfl ?_
 all_goals refine⟨dv (by rw[r.out]<;>first|rfl|(simp[*];done)|grind),?_⟩
 all_goals first|exact eO.drew|exact eO
theorem sh (f x vp vb As Aa At cs ca ct w)(hb:ShB f x)(hc:ir x.op=2) :
  ShP f x vp vb As Aa At cs ca ct w:=by
 unfold ShP;unfold ShB at hb;have l:=kP hc;obtain⟨j,d,m⟩:=kO x;have p:Hid (zV f x=(2,0,j && (x.i == 0))):=by show _=_;unfold zV;simp only[hc,d];rfl
 clear hc d;cases j;all_goals (obtain⟨g,q⟩:∃g,(x.i == 0)=g:=⟨_,rfl⟩;cases g)
 all_goals go_enter func93, ntmps93
 all_goals go_wp2_with (first|(go_at_call 103;refine(l.out _).mono ?_;rintro e r ⟨rfl,rfl⟩)|(go_at_call 90;refine(m.out _).mono ?_;rintro e r ⟨rfl,rfl⟩))
 all_goals go_region
 all_goals go_wp2
 all_goals refine yq (by simp[results,results93,go_sem, *];rfl) rfl ?_
 all_goals refine⟨dv (by rw[p.out];first|rfl|(simp[*];done)|grind),?_⟩
 all_goals first|exact eO.drew|exact eO
theorem sn (f x vp vb As Aa At cs ca ct w)(hb:ShB f x)(hc:ir x.op=3) :
  ShP f x vp vb As Aa At cs ca ct w:=by
 unfold ShP;unfold ShB at hb;have l:=kP hc;obtain⟨r,j,m⟩:=kO x;have p:Hid (zV f x=(2,0,(x.w == 1) && decide (x.i<=9))):=by show _=_;unfold zV;simp only[hc];rfl
 clear hc j;(obtain⟨g,q⟩:∃g,(x.w == 1)=g:=⟨_,rfl⟩;cases g);all_goals (rcases Decidable.em (x.i<=9) with d|d)
 all_goals go_enter func93, ntmps93
 all_goals go_wp2_with (first|(go_at_call 103;refine(l.out _).mono ?_;rintro e g ⟨rfl,rfl⟩)|(go_at_call 90;refine(m.out _).mono ?_;rintro e g ⟨rfl,rfl⟩))
 all_goals go_region
 all_goals go_wp2
 all_goals refine yq (by simp[results,results93,go_sem, *];rfl) rfl ?_
 all_goals refine⟨dv (by rw[p.out];first|rfl|(simp[*];done)|grind),?_⟩
 all_goals first|exact eO.drew|exact eO
theorem so (f x vp vb As Aa At cs ca ct w)(hb:ShB f x)(hc:ir x.op=4) :
  ShP f x vp vb As Aa At cs ca ct w:=by
 unfold ShP;unfold ShB at hb;have p:=kP hc;obtain⟨m,g,q⟩:=kO x;have r:Hid (zV f x=(3,0,(m || (x.w == 33)) && (x.i == 0))):=by show _=_;unfold zV;simp only[hc,g];rfl
 clear hc g;cases m;all_goals (obtain⟨d,l⟩:∃d,(x.w == 33)=d:=⟨_,rfl⟩;cases d)
 all_goals (obtain⟨j,t⟩:∃j,(x.i == 0)=j:=⟨_,rfl⟩;cases j)
 all_goals go_enter func93, ntmps93
 all_goals go_wp2_with (first|(go_at_call 103;refine(p.out _).mono ?_;rintro e u ⟨rfl,rfl⟩)|(go_at_call 90;refine(q.out _).mono ?_;rintro e u ⟨rfl,rfl⟩))
 all_goals go_region
 all_goals go_wp2
 all_goals refine yq (by simp[results,results93,go_sem, *];rfl) rfl ?_
 all_goals refine⟨dv (by rw[r.out];first|rfl|(simp[*];done)|grind),?_⟩
 all_goals first|exact eO.drew|exact eO
theorem su (f x vp vb As Aa At cs ca ct w)(hb:ShB f x)(hc:ir x.op=5) :
  ShP f x vp vb As Aa At cs ca ct w:=by
 unfold ShP;unfold ShB at hb;have l:=kP hc;obtain⟨j,d,m⟩:=kO x;have p:Hid (zV f x=(1,0,j && (x.i == 0))):=by show _=_;unfold zV;simp only[hc,d];rfl
 clear hc d;cases j;all_goals (obtain⟨g,q⟩:∃g,(x.i == 0)=g:=⟨_,rfl⟩;cases g)
 all_goals go_enter func93, ntmps93
 all_goals go_wp2_with (first|(go_at_call 103;refine(l.out _).mono ?_;rintro e r ⟨rfl,rfl⟩)|(go_at_call 90;refine(m.out _).mono ?_;rintro e r ⟨rfl,rfl⟩))
 all_goals go_region
 all_goals go_wp2
 all_goals refine yq (by simp[results,results93,go_sem, *];rfl) rfl ?_
 all_goals refine⟨dv (by rw[p.out];first|rfl|(simp[*];done)|grind),?_⟩
 all_goals first|exact eO.drew|exact eO
theorem sw (f x vp vb As Aa At cs ca ct w)(hb:ShB f x)(hc:ir x.op=6) :
  ShP f x vp vb As Aa At cs ca ct w:=by
 unfold ShP;unfold ShB at hb;have l:=kP hc;obtain⟨j,d,m⟩:=kO x;have p:Hid (zV f x=(1,0,j && (x.i == 0))):=by show _=_;unfold zV;simp only[hc,d];rfl
 clear hc d;cases j;all_goals (obtain⟨g,q⟩:∃g,(x.i == 0)=g:=⟨_,rfl⟩;cases g)
 all_goals go_enter func93, ntmps93
 all_goals go_wp2_with (first|(go_at_call 103;refine(l.out _).mono ?_;rintro e r ⟨rfl,rfl⟩)|(go_at_call 90;refine(m.out _).mono ?_;rintro e r ⟨rfl,rfl⟩))
 all_goals go_region
 all_goals go_wp2
 all_goals refine yq (by simp[results,results93,go_sem, *];rfl) rfl ?_
 all_goals refine⟨dv (by rw[p.out];first|rfl|(simp[*];done)|grind),?_⟩
 all_goals first|exact eO.drew|exact eO
theorem sy (f x vp vb As Aa At cs ca ct w)(hb:ShB f x)(hc:ir x.op=8) :
  ShP f x vp vb As Aa At cs ca ct w:=by
 unfold ShP;unfold ShB at hb;have l:=kP hc;obtain⟨j,d,m⟩:=kO x;have p:Hid (zV f x=(1,0,j && (x.i == 0))):=by show _=_;unfold zV;simp only[hc,d];rfl
 clear hc d;cases j;all_goals (obtain⟨g,q⟩:∃g,(x.i == 0)=g:=⟨_,rfl⟩;cases g)
 all_goals go_enter func93, ntmps93
 all_goals go_wp2_with (first|(go_at_call 103;refine(l.out _).mono ?_;rintro e r ⟨rfl,rfl⟩)|(go_at_call 90;refine(m.out _).mono ?_;rintro e r ⟨rfl,rfl⟩))
 all_goals go_region
 all_goals go_wp2
 all_goals refine yq (by simp[results,results93,go_sem, *];rfl) rfl ?_
 all_goals refine⟨dv (by rw[p.out];first|rfl|(simp[*];done)|grind),?_⟩
 all_goals first|exact eO.drew|exact eO
theorem sA (f x vp vb As Aa At cs ca ct w)(hb:ShB f x)(hc:ir x.op=9) :
  ShP f x vp vb As Aa At cs ca ct w:=by
 unfold ShP;unfold ShB at hb;have l:=kP hc;obtain⟨j,d,m⟩:=kO x;have p:Hid (zV f x=(0,0,j && (x.i == 0))):=by show _=_;unfold zV;simp only[hc,d];rfl
 clear hc d;cases j;all_goals (obtain⟨g,q⟩:∃g,(x.i == 0)=g:=⟨_,rfl⟩;cases g)
 all_goals go_enter func93, ntmps93
 all_goals go_wp2_with (first|(go_at_call 103;refine(l.out _).mono ?_;rintro e r ⟨rfl,rfl⟩)|(go_at_call 90;refine(m.out _).mono ?_;rintro e r ⟨rfl,rfl⟩))
 all_goals go_region
 all_goals go_wp2
 all_goals refine yq (by simp[results,results93,go_sem, *];rfl) rfl ?_
 all_goals refine⟨dv (by rw[p.out];first|rfl|(simp[*];done)|grind),?_⟩
 all_goals first|exact eO.drew|exact eO
theorem pG (f x vp vb As Aa At cs ca ct w)(hb:ShB f x)(hc:ir x.op=10) :
  ShP f x vp vb As Aa At cs ca ct w:=by
 unfold ShP;unfold ShB at hb;have m:=kP hc;obtain⟨t,j,p⟩:=kO x;have q:Hid (zV f x=(0,0,(x.w == 33) && decide (x.i<f.s.length))):=by show _=_;unfold zV;simp only[hc];rfl
 clear hc j;(obtain⟨d,l⟩:∃d,(x.w == 33)=d:=⟨_,rfl⟩;cases d);all_goals (rcases Decidable.em (x.i<(f.s.length:Int)) with g|g)
 all_goals go_enter func93, ntmps93
 all_goals go_wp2_with (first|(go_at_call 103;refine(m.out _).mono ?_;rintro e r ⟨rfl,rfl⟩)|(go_at_call 90;refine(p.out _).mono ?_;rintro e r ⟨rfl,rfl⟩))
 all_goals go_region
 all_goals go_wp2
 all_goals refine yq (by simp[results,results93,go_sem, *];rfl) rfl ?_
 all_goals refine⟨dv (by rw[q.out];first|rfl|(simp[*];done)|grind),?_⟩
 all_goals first|exact eO.drew|exact eO
theorem pH (f x vp vb As Aa At cs ca ct w)(hb:ShB f x)(hc:ir x.op=11) :
  ShP f x vp vb As Aa At cs ca ct w:=by
 unfold ShP;unfold ShB at hb;have m:=kP hc;obtain⟨u,g,p⟩:=kO x;have q:Hid (zV f x=(2,0,(x.w == 33) && (x.i == 0))):=by show _=_;unfold zV;simp only[hc];rfl
 clear hc g;(obtain⟨d,l⟩:∃d,(x.w == 33)=d:=⟨_,rfl⟩;cases d);all_goals (obtain⟨j,r⟩:∃j,(x.i == 0)=j:=⟨_,rfl⟩;cases j)
 all_goals go_enter func93, ntmps93
 all_goals go_wp2_with (first|(go_at_call 103;refine(m.out _).mono ?_;rintro e t ⟨rfl,rfl⟩)|(go_at_call 90;refine(p.out _).mono ?_;rintro e t ⟨rfl,rfl⟩))
 all_goals go_region
 all_goals go_wp2
 all_goals refine yq (by simp[results,results93,go_sem, *];rfl) rfl ?_
 all_goals refine⟨dv (by rw[q.out];first|rfl|(simp[*];done)|grind),?_⟩
 all_goals first|exact eO.drew|exact eO
theorem pJ (f x vp vb As Aa At cs ca ct w)(hb:ShB f x)(hc:ir x.op=13) :
  ShP f x vp vb As Aa At cs ca ct w:=by
 unfold ShP;unfold ShB at hb;have j:=kP hc;obtain⟨t,d,l⟩:=kO x;have m:Hid (zV f x=(2,0,(x.w == 0) && (x.i == 0))):=by show _=_;unfold zV;simp only[hc];rfl
 clear hc d;(obtain⟨w0,q⟩:∃w0,(x.w == 0)=w0:=⟨_,rfl⟩;cases w0);all_goals (obtain⟨g,p⟩:∃g,(x.i == 0)=g:=⟨_,rfl⟩;cases g)
 all_goals go_enter func93, ntmps93
 all_goals go_wp2_with (first|(go_at_call 103;refine(j.out _).mono ?_;rintro e r ⟨rfl,rfl⟩)|(go_at_call 90;refine(l.out _).mono ?_;rintro e r ⟨rfl,rfl⟩))
 all_goals go_region
 all_goals go_wp2
 all_goals refine yq (by simp[results,results93,go_sem, *];rfl) rfl ?_
 all_goals refine⟨dv (by rw[m.out];first|rfl|(simp[*];done)|grind),?_⟩
 all_goals first|exact eO.drew|exact eO
theorem pL (f x vp vb As Aa At cs ca ct w)(hb:ShB f x)(hc:ir x.op=15) :
  ShP f x vp vb As Aa At cs ca ct w:=by
 unfold ShP;unfold ShB at hb;have j:=kP hc;obtain⟨t,d,l⟩:=kO x;have m:Hid (zV f x=(0,1,(x.w == 0) && (x.i == 0))):=by show _=_;unfold zV;simp only[hc];rfl
 clear hc d;(obtain⟨w0,q⟩:∃w0,(x.w == 0)=w0:=⟨_,rfl⟩;cases w0);all_goals (obtain⟨g,p⟩:∃g,(x.i == 0)=g:=⟨_,rfl⟩;cases g)
 all_goals go_enter func93, ntmps93
 all_goals go_wp2_with (first|(go_at_call 103;refine(j.out _).mono ?_;rintro e r ⟨rfl,rfl⟩)|(go_at_call 90;refine(l.out _).mono ?_;rintro e r ⟨rfl,rfl⟩))
 all_goals go_region
 all_goals go_wp2
 all_goals refine yq (by simp[results,results93,go_sem, *];rfl) rfl ?_
 all_goals refine⟨dv (by rw[m.out]<;>first|rfl|(simp[*];done)|grind),?_⟩
 all_goals first|exact eO.drew|exact eO
theorem pN (f x vp vb As Aa At cs ca ct w)(hb:ShB f x)(hc:ir x.op=17) :
  ShP f x vp vb As Aa At cs ca ct w:=by
 unfold ShP;unfold ShB at hb;have l:=kP hc;obtain⟨u,g,m⟩:=kO x;have p:Hid (zV f x=(if f.ret<1 then f.ret else 1,0,(x.w == 0) && (x.i == 0))):=by show _=_;unfold zV;simp only[hc];rfl
 clear hc g;(obtain⟨w0,r⟩:∃w0,(x.w == 0)=w0:=⟨_,rfl⟩;cases w0);all_goals (obtain⟨j,q⟩:∃j,(x.i == 0)=j:=⟨_,rfl⟩;cases j)
 all_goals (rcases Decidable.em (f.ret<1) with d|d)
 all_goals go_enter func93, ntmps93
 all_goals go_wp2_with (first|(go_at_call 103;refine(l.out _).mono ?_;rintro e t ⟨rfl,rfl⟩)|(go_at_call 90;refine(m.out _).mono ?_;rintro e t ⟨rfl,rfl⟩))
 all_goals go_region
 all_goals go_wp2
 all_goals refine yq (by simp[results,results93,go_sem, *];rfl) rfl ?_
 all_goals refine⟨dv (by rw[p.out]<;>first|rfl|(simp[*];done)|grind),?_⟩
 all_goals first|exact eO.drew|exact eO
theorem pO (f x vp vb As Aa At cs ca ct w)(hb:ShB f x)(hc:ir x.op=18) :
  ShP f x vp vb As Aa At cs ca ct w:=by
 unfold ShP;unfold ShB at hb;have j:=kP hc;obtain⟨t,d,l⟩:=kO x;have m:Hid (zV f x=(0,0,(x.w == 0) && (x.i == 0))):=by show _=_;unfold zV;simp only[hc];rfl
 clear hc d;(obtain⟨w0,q⟩:∃w0,(x.w == 0)=w0:=⟨_,rfl⟩;cases w0);all_goals (obtain⟨g,p⟩:∃g,(x.i == 0)=g:=⟨_,rfl⟩;cases g)
 all_goals go_enter func93, ntmps93
 all_goals go_wp2_with (first|(go_at_call 103;refine(j.out _).mono ?_;rintro e r ⟨rfl,rfl⟩)|(go_at_call 90;refine(l.out _).mono ?_;rintro e r ⟨rfl,rfl⟩))
 all_goals go_region
 all_goals go_wp2
 all_goals refine yq (by simp[results,results93,go_sem, *];rfl) rfl ?_
 all_goals refine⟨dv (by rw[m.out]<;>first|rfl|(simp[*];done)|grind),?_⟩
 all_goals first|exact eO.drew|exact eO
theorem se (f x vp vb As Aa At cs ca ct w)(hb:ShB f x)(hc:ir x.op=0) :
  ShP f x vp vb As Aa At cs ca ct w:=by
 unfold ShP;unfold ShB at hb;have g:=kP hc;obtain⟨p,d,j⟩:=kO x;have l:Hid (zV f x=(0,0,false)):=by show _=_;unfold zV;simp only[hc];rfl
 clear hc d;all_goals go_enter func93, ntmps93
 all_goals go_wp2_with (first|(go_at_call 103;refine(g.out _).mono ?_;rintro e m ⟨rfl,rfl⟩)|(go_at_call 90;refine(j.out _).mono ?_;rintro e m ⟨rfl,rfl⟩))
 all_goals go_wp2
 all_goals refine yq (by simp[results,results93,go_sem, *];rfl) rfl ?_
 all_goals refine⟨dv (by rw[l.out]<;>first|rfl|(simp[*];done)|grind),?_⟩
 all_goals first|exact eO.drew|exact eO
