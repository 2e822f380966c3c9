/- Parts: Er. -/
import Derived.Test.YthfhamagopbgcaaGreatH38
set_option linter.unusedSimpArgs false
set_option linter.unusedVariables false
set_option maxRecDepth 100000
set_option maxHeartbeats 16000000
open Go.Proofs.Tryz
namespace Go.Proofs.YthfhamagopbgcaaGreat
section
open Go.RowKit
theorem VsAt.three {w:World}{v:Value}{A B D:Rn.V}(h:VsAt w v [A,B,D]):∃b c,v=.slice (some ⟨b,0,none⟩) 3 c/\3<=c/\b<w.heap.size/\(w.cell? ⟨b,0,none⟩=some (.bool A.p)/\w.cell? ⟨b,1,none⟩=some (.int .i64 A.s)/\w.cell? ⟨b,2,none⟩=some (.int .u32 A.n))/\(w.cell? ⟨b,3,none⟩=some (.bool B.p)/\w.cell? ⟨b,4,none⟩=some (.int .i64 B.s)/\w.cell? ⟨b,5,none⟩=some (.int .u32 B.n))/\(w.cell? ⟨b,6,none⟩=some (.bool D.p)/\w.cell? ⟨b,7,none⟩=some (.int .i64 D.s)/\w.cell? ⟨b,8,none⟩=some (.int .u32 D.n)):=by
 obtain⟨b,c,e,m,q,r,t,u⟩:=h.cells (k:=0) rfl;obtain⟨H,I,g,-,-,y,z,C⟩:=h.cells (k:=1) rfl;obtain⟨j,l,d,-,-,E,F,G⟩:=h.cells (k:=2) rfl;rw[e] at g d;injection g with g;injection g with g;injection g with g _;subst g;injection d with d;injection d with d;injection d with d _;subst d;exact⟨b,c,e,m,q,⟨r,t,u⟩,⟨y,z,C⟩,E,F,G⟩
def uc (c:Cfg)(pk:List Int)(w:World)(s':Rn.St)(bl:List Int)(o:Rn.Out)(om wv bv:Value)(r:Option Rn.V)(e:Ending)(w':World):Prop :=
 e=.returned (dC r)/\DLeft c pk w wv bv s' bl o om w'
section
variable {c:Cfg}{pk bl:List Int}{w:World}{s:Rn.St}{o:Rn.Out}{om wv bv:Value}
theorem dI (h:DS c pk w s bl o om wv bv)(x:Ins)(va vt:Value):∃W,(w.alloc (.cells #[.int .i64 x.op,.int .i64 x.width,.int .i64 x.flags,va,.int .u32 x.imm,vt] 67)).alloc (.cells #[.bool false,.int .i64 0,.int .u32 0] 37)=W/\Hid (RB w W (w.heap.size+1)) /\
  Hid (∀v w9,Gr W w9->DLeft c pk w wv bv s bl o om (dw w9 (w.heap.size+1) v)) /\
  Hid (∀w9,Gr W w9->w9.cell? ⟨w.heap.size+1,0,none⟩=some (.bool false)/\w9.cell? ⟨w.heap.size+1,1,none⟩=some (.int .i64 0)/\w9.cell? ⟨w.heap.size+1,2,none⟩=some (.int .u32 0)/\w9.frozen? ⟨w.heap.size+1,0,none⟩=false/\w9.frozen? ⟨w.heap.size+1,1,none⟩=false/\w9.frozen? ⟨w.heap.size+1,2,none⟩=false /\
    w9.cell? ⟨w.heap.size,0,none⟩=some (.int .i64 x.op)/\w9.cell? ⟨w.heap.size,1,none⟩=some (.int .i64 x.width)/\w9.cell? ⟨w.heap.size,2,none⟩=some (.int .i64 x.flags)/\w9.cell? ⟨w.heap.size,3,none⟩=some va/\w9.cell? ⟨w.heap.size,4,none⟩=some (.int .u32 x.imm)/\w9.cell? ⟨w.heap.size,5,none⟩=some vt):=by
 obtain⟨m,j⟩:=xJ (dY w x va vt);obtain⟨W,l⟩:=xJ (fF m);obtain⟨A,z,d⟩:=oO j l;refine⟨W,by rw[<-l,<-j];rfl,d,fun v w9 g=>(h.gr (d.ret g v).1).left (FrS.of_gr (d.ret g v).1),fun w9 g=>?_⟩;obtain⟨p,q,r,t,u,y⟩:=d.cells ⟨w9,g⟩;exact⟨p,q,r,t,u,y,dk (by rw[j];exact z.trans g)⟩
theorem eG {W:World}(r:Hid (RB w W (w.heap.size+1)))(l:Hid (∀v w9,Gr W w9->DLeft c pk w wv bv s bl o om (dw w9 (w.heap.size+1) v))){w9:World}(g:Gr W w9)(p:Bool)(k n:Int) :
  ∃W9,((w9.setCell ⟨w.heap.size+1,0,none⟩ (.bool p)).setCell ⟨w.heap.size+1,1,none⟩ (.int .i64 k)).setCell ⟨w.heap.size+1,2,none⟩ (.int .u32 n)=W9/\W9.cell? ⟨w.heap.size+1,0,none⟩=some (.bool p)/\W9.cell? ⟨w.heap.size+1,1,none⟩=some (.int .i64 k)/\W9.cell? ⟨w.heap.size+1,2,none⟩=some (.int .u32 n)/\Hid (DLeft c pk w wv bv s bl o om W9) :=
 ⟨_,rfl,(r.out.ret g ⟨p,k,n⟩).2.1,(r.out.ret g ⟨p,k,n⟩).2.2.1,(r.out.ret g ⟨p,k,n⟩).2.2.2,l.out ⟨p,k,n⟩ w9 g⟩
theorem mH {W:World}(h:DS c pk w s bl o om wv bv)(r:Hid (RB w W (w.heap.size+1)))(hBm:c.Bm<w.heap.size) :
  Hid (∀(W3:World) (s':Rn.St) (wv' bv':Value) (x:Rn.V),DS c pk W3 s' bl o om wv' bv'->FrS (DO c wv bv) W W3->(∀k,DO c wv' bv' k->DO c wv bv k\/W.heap.size<=k)->DLeft c pk w wv bv s' bl o om (dw W3 (w.heap.size+1) x)) /\
  Hid (∀W3,FrS (DO c wv bv) W W3->W3.heap[w.heap.size+1]?=some (.cells #[.bool false,.int .i64 0,.int .u32 0] 37 (0,0))):=by
 have d:¬DO c wv bv (w.heap.size+1):=fun q=>by have:=h.lt q;omega
 have j:=h.n₀;have g:=cY r.out.row;exact⟨fun W3 s' wv' bv' x p f q=>ku p ((FrS.of_gr r.out.gr).trans f) q (by omega) g (by omega) (by omega) d x,fun W3 f=>(f.block _ g d).trans r.out.row⟩
theorem pA {w7:World}{r:Nat}(h:w7.heap[r]?=some (.cells #[.bool false,.int .i64 0,.int .u32 0] 37 (0,0)))(v:Rn.V) :
  w7.cell? ⟨r,0,none⟩=some (.bool false)/\w7.cell? ⟨r,1,none⟩=some (.int .i64 0)/\w7.cell? ⟨r,2,none⟩=some (.int .u32 0)/\w7.frozen? ⟨r,0,none⟩=false/\w7.frozen? ⟨r,1,none⟩=false/\w7.frozen? ⟨r,2,none⟩=false /\
   ∃W9,((w7.setCell ⟨r,0,none⟩ (.bool v.p)).setCell ⟨r,1,none⟩ (.int .i64 v.s)).setCell ⟨r,2,none⟩ (.int .u32 v.n)=W9/\dw w7 r v=W9/\W9.cell? ⟨r,0,none⟩=some (.bool v.p)/\W9.cell? ⟨r,1,none⟩=some (.int .i64 v.s)/\W9.cell? ⟨r,2,none⟩=some (.int .u32 v.n):=by
 obtain⟨z0,d,g⟩:=eo h v;exact⟨vX _ _ 0 _ _ _ h,vX _ _ 1 _ _ _ h,vX _ _ 2 _ _ _ h,vY _ _ 0 _ _ h,vY _ _ 1 _ _ h,vY _ _ 2 _ _ h,_,rfl,rfl,z0,d,g⟩
end
abbrev fk (c:Cfg)(pk:List Int)(w:World)(bl:List Int)(o:Rn.Out)(om wv bv:Value)(x:Ins)(va vt vl vk:Value)(s':Rn.St)(r:Option Rn.V):Prop :=
 Calls prog 128 #[.pointer (some ⟨c.Bs,0,none⟩),df x va vt,vl,vk] w (uc c pk w s' bl o om wv bv r)
section
variable {c:Cfg}{pk bl:List Int}{w:World}{s:Rn.St}{o:Rn.Out}{om wv bv:Value}
theorem jL (h:DS c pk w s bl o om wv bv)(x:Ins)(va vt vl vk:Value)(ho:x.op=0) :
  fk c pk w bl o om wv bv x va vt vl vk s (some (Rn.word x.imm)):=by
 obtain⟨W,F,d,m,g⟩:=dI h x va vt;have l:=dJ d.out.gr;clear h;unfold fk df;obtain⟨op,H,fl,args,im,G⟩:=x;dsimp only at *;subst ho;obtain⟨q,r,t,u,y,z,A,-,-,-,B,-⟩:=g.out W (wL W)
 go_enter func128, ntmps128
 obtain⟨E,p,z0,C,D,j⟩:=eG d m (wL W) false 0 im;go_wp2;refine vZ (v:=dC (some (Rn.word im))) (by simp[results,dC,vv,Rn.word,Rn.zero,Rn.poison,results128,go_sem,z0,C,D] <;> rfl) rfl ?_;exact⟨rfl,j.out⟩
theorem kw (h:DS c pk w s bl o om wv bv)(x:Ins)(va vt vl vk:Value)(ho:x.op=24)(hi:0<=x.imm/\x.imm<4294967296) :
  fk c pk w bl o om wv bv x va vt vl vk s (some ⟨false,x.imm+1,0⟩):=by
 obtain⟨W,H,d,m,g⟩:=dI h x va vt;have l:=dJ d.out.gr;obtain⟨q,r⟩:=hi;clear h;unfold fk df;obtain⟨op,J,fl,args,im,I⟩:=x;dsimp only at *;subst ho;obtain⟨t,u,y,z,A,B,C,-,-,-,D,-⟩:=g.out W (wL W)
 go_enter func128, ntmps128
 obtain⟨G,p,z0,E,F,j⟩:=eG d m (wL W) false (im+1) 0;go_wp2;refine vZ (v:=dC (some (⟨false,im+1,0⟩:Rn.V))) (by simp[results,dC,vv,Rn.word,Rn.zero,Rn.poison,results128,go_sem,z0,E,F] <;> rfl) rfl ?_;exact⟨rfl,j.out⟩
theorem iZ (h:DS c pk w s bl o om wv bv)(x:Ins)(va vt vl vk:Value)(ho:x.op=22) :
  fk c pk w bl o om wv bv x va vt vl vk s (some Rn.poison):=by
 obtain⟨W,I,d,p,j⟩:=dI h x va vt;have m:=dJ d.out.gr;clear h;unfold fk df;obtain⟨op,K,fl,args,im,J⟩:=x;dsimp only at *;subst ho;obtain⟨u,y,z,A,B,C,D,-,-,-,E,-⟩:=j.out W (wL W)
 go_enter func128, ntmps128
 go_wp2_with (go_at_call 152;refine(dQ _).mono ?_;rintro e t ⟨rfl,q⟩;have g:=dJ (Gr.trans (wL W) q);obtain⟨L,M,N,O,P,Q,-⟩:=j.out t g.out;obtain⟨H,r,z0,F,G,l⟩:=eG d p g.out true 0 0);refine vZ (v:=dC (some Rn.poison)) (by simp[results,dC,vv,Rn.word,Rn.zero,Rn.poison,results128,go_sem,z0,F,G] <;> rfl) rfl ?_;exact⟨rfl,l.out⟩
theorem ky (h:DS c pk w s bl o om wv bv)(x:Ins)(va vt vl vk:Value)(hf:VFn c.f)(hi:Rn.Inv c.f s)(ho:x.op=26)(A:Rn.V)(hl:VsAt w vl [A])(hA:Rn.VOK c.f 33 A)(n:Nat)(hn1:1<=n)(hn:n<=4)(hx:x.width=8*(n:Int)) :
  fk c pk w bl o om wv bv x va vt vl vk s (Rn.load s.mem A n):=by
 obtain⟨W,hW,j,E,d⟩:=dI h x va vt;have g:=dJ j.out.gr;have X0:=fun u:GrW W=>(d.out u.val u.gr).2.2.2.2.2.2.1;have X1:=fun u:GrW W=>(d.out u.val u.gr).2.2.2.2.2.2.2.1;have X2:=fun u:GrW W=>(d.out u.val u.gr).2.2.2.2.2.2.2.2.1;have X3:=fun u:GrW W=>(d.out u.val u.gr).2.2.2.2.2.2.2.2.2.1;have X4:=fun u:GrW W=>(d.out u.val u.gr).2.2.2.2.2.2.2.2.2.2.1;have X5:=fun u:GrW W=>(d.out u.val u.gr).2.2.2.2.2.2.2.2.2.2.2;obtain⟨b,cl,rfl,M,z,F,G,H⟩:=hl.one;have I:=fun(u:GrW W)=>((g.out.trans u.gr).cell _ _ z).trans F;have J:=fun(u:GrW W)=>((g.out.trans u.gr).cell _ _ z).trans G;have K:=fun(u:GrW W)=>((g.out.trans u.gr).cell _ _ z).trans H;have q:=dJ fun(u:GrW W)=>pv (h.gr (g.out.trans u.gr)) hf hi x va vt A hA n hn1 hn hx;obtain⟨r,B⟩:=xJ (Rn.load s.mem A n);rw[B] at q;rw[B];clear h B hf hi hl hA hn1 hn hx F G H;unfold fk df;unfold df vv at q;obtain⟨op,wd,fl,args,im,tt⟩:=x;dsimp only at *;subst ho;cases r;all_goals obtain⟨U,X,Y,Z,aa,ab,af,ag,ah,ai,aj,ak⟩:=d.out W (wL W)
 all_goals have ac:W.cell? _=_:=I ⟨W,wL W⟩
 all_goals have ad:W.cell? _=_:=J ⟨W,wL W⟩
 all_goals have ae:W.cell? _=_:=K ⟨W,wL W⟩
 case none =>
  dsimp only[dC,vv] at q
  go_enter func128, ntmps128
  go_wp2;refine dO (W:=W) 8 (wL W) (by kernel_rfl) (by kernel_rfl) ?_;simp only[wt,List.take_zero,wz,List.drop_zero];repeat (go_big_quiet_step ((rename_i u;go_at_call 154;exact di u (q.out u))))
  refine wpQuiet_nil ?_;intro N l;obtain⟨m,rfl⟩:=l;obtain⟨O,P,Q,R,S,T,-⟩:=d.out m.val m.gr;obtain⟨L,y,z0,C,D,t⟩:=eG j E m.gr false 0 0;go_wp2;refine vZ (v:=dC (none)) (by simp[results,dC,vv,Rn.word,Rn.zero,Rn.poison,results128,go_sem,z0,C,D] <;> rfl) rfl ?_;exact⟨rfl,t.out⟩
 case some r =>
  dsimp only[dC,vv] at q
  go_enter func128, ntmps128
  go_wp2;refine dO (W:=W) 8 (wL W) (by kernel_rfl) (by kernel_rfl) ?_;simp only[wt,List.take_zero,wz,List.drop_zero];repeat (go_big_quiet_step ((rename_i u;go_at_call 154;exact di u (q.out u))))
  refine wpQuiet_nil ?_;intro N l;obtain⟨m,rfl⟩:=l;obtain⟨O,P,Q,R,S,T,-⟩:=d.out m.val m.gr;obtain⟨L,y,z0,C,D,t⟩:=eG j E m.gr r.p r.s r.n;go_wp2;refine vZ (v:=dC (some r)) (by simp[results,dC,vv,Rn.word,Rn.zero,Rn.poison,results128,go_sem,z0,C,D] <;> rfl) rfl ?_;exact⟨rfl,t.out⟩
theorem lM (h:DS c pk w s bl o om wv bv)(x:Ins)(va vt vl vk:Value)(hBm:c.Bm<w.heap.size)(hpk:∀z∈pk,0<=z/\z<4294967296)(hpl:pk.length<=1000)(hn:Wd.Wid x.width)(hw:s.widths.length<=1000)(ho:x.op=23) :
  fk c pk w bl o om wv bv x va vt vl vk (s.chose x.width) (some (Rn.chosen (Rn.given pk) s x.width)):=by
 obtain⟨W,hW,m,T,I⟩:=dI h x va vt;have l:=dJ m.out.gr;obtain⟨j,p⟩:=mH h m hBm;have r:=dJ (ik (h.gr l.out) (by have:=l.out.size;omega) hpk hpl x.width hn hw);obtain⟨R,C⟩:=xJ (Rn.given pk s.widths.length x.width);have g:Rn.chosen (Rn.given pk) s x.width=⟨false,0,R⟩:=by unfold Rn.chosen Rn.word;rw[C]
 rw[g] at r;rw[g];clear h g C hn hw hpk hpl hBm;unfold fk df;unfold vv at r;obtain⟨op,wd,fl,args,im,tt⟩:=x;dsimp only at *;subst ho;obtain⟨J,K,L,M,N,O,P,Q,-,-,S,-⟩:=I.out W (wL W)
 go_enter func128, ntmps128
 go_wp2_with (go_at_call 153;refine r.out.mono ?_;rintro e F ⟨rfl,A,t,E,u,D⟩;have q:=p.out F u;have B:=dJ (j.out F _ A t (⟨false,0,R⟩:Rn.V) E u D);obtain⟨X,Y,Z,z3,z4,z5,U,y,d,z0,G,H⟩:=pA q (⟨false,0,R⟩:Rn.V);rw[d] at B;dsimp only[Rn.word,Rn.zero,Rn.poison] at y z0 G H;clear q E u D d);refine vZ (v:=dC (some (⟨false,0,R⟩:Rn.V))) (by simp[results,dC,vv,Rn.word,Rn.zero,Rn.poison,results128,go_sem,z0,G,H] <;> rfl) rfl ?_;exact⟨rfl,B.out⟩
theorem io (h:DS c pk w s bl o om wv bv)(x:Ins)(va vt vl vk:Value)(hBm:c.Bm<w.heap.size)(hpk:∀z∈pk,0<=z/\z<4294967296)(hpl:pk.length<=1000)(hn:Wd.Wid x.width)(hw:s.widths.length<=1000)(ho:x.op=21)(A:Rn.V)(hA:A.p=true)(hl:VsAt w vl [A]) :
  fk c pk w bl o om wv bv x va vt vl vk (s.chose x.width) (some (Rn.chosen (Rn.given pk) s x.width)):=by
 obtain⟨W,hW,m,HL,Q⟩:=dI h x va vt;have d:=dJ m.out.gr;obtain⟨l,q⟩:=mH h m hBm;obtain⟨b,cl,rfl,U,t,y,L,M⟩:=hl.one;have H:=fun(u:GrW W)=>((d.out.trans u.gr).cell _ _ t).trans y;have S:=fun(u:GrW W)=>((d.out.trans u.gr).cell _ _ t).trans L;have T:=fun(u:GrW W)=>((d.out.trans u.gr).cell _ _ t).trans M;have B:=dJ (ik (h.gr d.out) (by have:=d.out.size;omega) hpk hpl x.width hn hw);obtain⟨R,I⟩:=xJ (Rn.given pk s.widths.length x.width);have j:Rn.chosen (Rn.given pk) s x.width=⟨false,0,R⟩:=by unfold Rn.chosen Rn.word;rw[I]
 rw[j] at B;rw[j];rw[hA] at y;have H:=fun(u:GrW W)=>((d.out.trans u.gr).cell _ _ t).trans y;clear h hl hA y L M j I hn hw hpk hpl hBm;unfold fk df;unfold vv at B;obtain⟨op,wd,fl,args,im,tt⟩:=x;dsimp only at *;subst ho;obtain⟨X,Y,Z,aa,ab,ac,ag,ah,-,-,ai,-⟩:=Q.out W (wL W);have ad:W.cell? _=_:=H ⟨W,wL W⟩;have ae:W.cell? _=_:=S ⟨W,wL W⟩;have af:W.cell? _=_:=T ⟨W,wL W⟩
 go_enter func128, ntmps128
 go_wp2_with (go_at_call 153;refine B.out.mono ?_;rintro e N ⟨rfl,F,C,K,D,J⟩;have r:=q.out N D;have G:=dJ (l.out N _ F C (⟨false,0,R⟩:Rn.V) K D J);obtain⟨e0,e1,e2,z3,z4,z5,W9,E,g,z0,O,P⟩:=pA r (⟨false,0,R⟩:Rn.V);rw[g] at G;dsimp only[Rn.word,Rn.zero,Rn.poison] at E z0 O P;clear r K D J g);refine vZ (v:=dC (some (⟨false,0,R⟩:Rn.V))) (by simp[results,dC,vv,Rn.word,Rn.zero,Rn.poison,results128,go_sem,z0,O,P] <;> rfl) rfl ?_;exact⟨rfl,G.out⟩
theorem iY (h:DS c pk w s bl o om wv bv)(x:Ins)(va vt vl vk:Value)(ho:x.op=21)(A:Rn.V)(hA:A.p=false)(hl:VsAt w vl [A]) :
  fk c pk w bl o om wv bv x va vt vl vk s (some A):=by
 obtain⟨W,Z,g,B,y⟩:=dI h x va vt;have d:=dJ g.out.gr;obtain⟨b,Y,rfl,G,l,q,r,t⟩:=hl.one;have C:=fun(u:GrW W)=>((d.out.trans u.gr).cell _ _ l).trans q;have D:=fun(u:GrW W)=>((d.out.trans u.gr).cell _ _ l).trans r;have E:=fun(u:GrW W)=>((d.out.trans u.gr).cell _ _ l).trans t;obtain⟨X,j,m⟩:=A;clear h hl q r t;unfold fk df;obtain⟨op,wd,fl,args,im,tt⟩:=x;dsimp only at *;subst ho;subst hA;obtain⟨H,I,J,K,L,M,Q,-,-,-,R,-⟩:=y.out W (wL W);have N:W.cell? _=_:=C ⟨W,wL W⟩;have O:W.cell? _=_:=D ⟨W,wL W⟩;have P:W.cell? _=_:=E ⟨W,wL W⟩
 go_enter func128, ntmps128
 obtain⟨U,F,z0,S,T,z⟩:=eG g B (wL W) false j m;go_wp2;refine vZ (v:=dC (some (⟨false,j,m⟩:Rn.V))) (by simp[results,dC,vv,Rn.word,Rn.zero,Rn.poison,results128,go_sem,z0,S,T] <;> rfl) rfl ?_;exact⟨rfl,z.out⟩
theorem ix (h:DS c pk w s bl o om wv bv)(x:Ins)(va vt vl vk:Value)(ho:x.op=15)(A B D:Rn.V)(hA:A.p=true)(hl:VsAt w vl [A,B,D]) :
  fk c pk w bl o om wv bv x va vt vl vk s (some Rn.poison):=by
 obtain⟨W,hW,j,I,m⟩:=dI h x va vt;have d:=dJ j.out.gr;obtain⟨b,cl,rfl,X,g,⟨q,r,t⟩,⟨y,z,C⟩,E,F,G⟩:=hl.three;have J:=fun(u:GrW W)=>((d.out.trans u.gr).cell _ _ g).trans q;have K:=fun(u:GrW W)=>((d.out.trans u.gr).cell _ _ g).trans r;have L:=fun(u:GrW W)=>((d.out.trans u.gr).cell _ _ g).trans t;have M:=fun(u:GrW W)=>((d.out.trans u.gr).cell _ _ g).trans y;have N:=fun(u:GrW W)=>((d.out.trans u.gr).cell _ _ g).trans z;have O:=fun(u:GrW W)=>((d.out.trans u.gr).cell _ _ g).trans C;have P:=fun(u:GrW W)=>((d.out.trans u.gr).cell _ _ g).trans E;have Q:=fun(u:GrW W)=>((d.out.trans u.gr).cell _ _ g).trans F;have R:=fun(u:GrW W)=>((d.out.trans u.gr).cell _ _ g).trans G;obtain⟨ap,S,an⟩:=A;clear h hl q r t y z C E F G;unfold fk df;obtain⟨op,wd,fl,args,im,tt⟩:=x;dsimp only at *;subst ho;subst hA;obtain⟨Z,aa,ab,ac,ad,ae,aq,-,-,-,ar,-⟩:=m.out W (wL W);have af:W.cell? _=_:=J ⟨W,wL W⟩;have ag:W.cell? _=_:=K ⟨W,wL W⟩;have ah:W.cell? _=_:=L ⟨W,wL W⟩;have ai:W.cell? _=_:=M ⟨W,wL W⟩;have aj:W.cell? _=_:=N ⟨W,wL W⟩;have ak:W.cell? _=_:=O ⟨W,wL W⟩;have al:W.cell? _=_:=P ⟨W,wL W⟩;have am:W.cell? _=_:=Q ⟨W,wL W⟩;have ao:W.cell? _=_:=R ⟨W,wL W⟩
 go_enter func128, ntmps128
 go_wp2_with (go_at_call 152;refine(dQ _).mono ?_;rintro e Y ⟨rfl,T⟩;have l:=dJ (Gr.trans (wL W) T);obtain⟨y0,y1,y2,y3,y4,y5,-⟩:=m.out Y l.out;obtain⟨W9,U,z0,z1,z2,H⟩:=eG j I l.out true 0 0);refine vZ (v:=dC (some Rn.poison)) (by simp[results,dC,vv,Rn.word,Rn.zero,Rn.poison,results128,go_sem,z0,z1,z2] <;> rfl) rfl ?_;exact⟨rfl,H.out⟩
theorem ip (h:DS c pk w s bl o om wv bv)(x:Ins)(va vt vl vk:Value)(ho:x.op=15)(A B D:Rn.V)(hA:A.p=false)(hn:A.n=0)(hl:VsAt w vl [A,B,D]) :
  fk c pk w bl o om wv bv x va vt vl vk s (some D):=by
 obtain⟨W,hW,j,K,I⟩:=dI h x va vt;have d:=dJ j.out.gr;obtain⟨b,cl,rfl,Z,g,⟨r,t,y⟩,⟨z,C,E⟩,F,G,H⟩:=hl.three;have L:=fun(u:GrW W)=>((d.out.trans u.gr).cell _ _ g).trans r;have M:=fun(u:GrW W)=>((d.out.trans u.gr).cell _ _ g).trans t;have N:=fun(u:GrW W)=>((d.out.trans u.gr).cell _ _ g).trans y;have O:=fun(u:GrW W)=>((d.out.trans u.gr).cell _ _ g).trans z;have P:=fun(u:GrW W)=>((d.out.trans u.gr).cell _ _ g).trans C;have Q:=fun(u:GrW W)=>((d.out.trans u.gr).cell _ _ g).trans E;have R:=fun(u:GrW W)=>((d.out.trans u.gr).cell _ _ g).trans F;have S:=fun(u:GrW W)=>((d.out.trans u.gr).cell _ _ g).trans G;have T:=fun(u:GrW W)=>((d.out.trans u.gr).cell _ _ g).trans H;obtain⟨ap,U,an⟩:=A;obtain⟨bp,X,bn⟩:=B;obtain⟨q,l,m⟩:=D;clear h hl r t y z C E F G H;unfold fk df;obtain⟨op,wd,fl,args,im,tt⟩:=x;dsimp only at *;subst ho;subst hA;subst hn;obtain⟨aa,ab,ac,ad,ae,af,ar,-,-,-,au,-⟩:=I.out W (wL W);have ag:W.cell? _=_:=L ⟨W,wL W⟩;have ah:W.cell? _=_:=M ⟨W,wL W⟩;have ai:W.cell? _=_:=N ⟨W,wL W⟩;have aj:W.cell? _=_:=O ⟨W,wL W⟩;have ak:W.cell? _=_:=P ⟨W,wL W⟩;have al:W.cell? _=_:=Q ⟨W,wL W⟩;have am:W.cell? _=_:=R ⟨W,wL W⟩;have ao:W.cell? _=_:=S ⟨W,wL W⟩;have aq:W.cell? _=_:=T ⟨W,wL W⟩
 go_enter func128, ntmps128
 obtain⟨W9,Y,z0,z1,z2,J⟩:=eG j K (wL W) q l m;go_wp2;refine vZ (v:=dC (some (⟨q,l,m⟩:Rn.V))) (by simp[results,dC,vv,Rn.word,Rn.zero,Rn.poison,results128,go_sem,z0,z1,z2] <;> rfl) rfl ?_;exact⟨rfl,J.out⟩
theorem iq (h:DS c pk w s bl o om wv bv)(x:Ins)(va vt vl vk:Value)(ho:x.op=15)(A B D:Rn.V)(hA:A.p=false)(hn:A.n=1)(hl:VsAt w vl [A,B,D]) :
  fk c pk w bl o om wv bv x va vt vl vk s (some B):=by
 obtain⟨W,hW,j,K,I⟩:=dI h x va vt;have d:=dJ j.out.gr;obtain⟨b,cl,rfl,Z,g,⟨r,t,y⟩,⟨z,C,E⟩,F,G,H⟩:=hl.three;have L:=fun(u:GrW W)=>((d.out.trans u.gr).cell _ _ g).trans r;have M:=fun(u:GrW W)=>((d.out.trans u.gr).cell _ _ g).trans t;have N:=fun(u:GrW W)=>((d.out.trans u.gr).cell _ _ g).trans y;have O:=fun(u:GrW W)=>((d.out.trans u.gr).cell _ _ g).trans z;have P:=fun(u:GrW W)=>((d.out.trans u.gr).cell _ _ g).trans C;have Q:=fun(u:GrW W)=>((d.out.trans u.gr).cell _ _ g).trans E;have R:=fun(u:GrW W)=>((d.out.trans u.gr).cell _ _ g).trans F;have S:=fun(u:GrW W)=>((d.out.trans u.gr).cell _ _ g).trans G;have T:=fun(u:GrW W)=>((d.out.trans u.gr).cell _ _ g).trans H;obtain⟨ap,U,an⟩:=A;obtain⟨q,l,m⟩:=B;obtain⟨dp,X,dn⟩:=D;clear h hl r t y z C E F G H;unfold fk df;obtain⟨op,wd,fl,args,im,tt⟩:=x;dsimp only at *;subst ho;subst hA;subst hn;obtain⟨aa,ab,ac,ad,ae,af,ar,-,-,-,au,-⟩:=I.out W (wL W);have ag:W.cell? _=_:=L ⟨W,wL W⟩;have ah:W.cell? _=_:=M ⟨W,wL W⟩;have ai:W.cell? _=_:=N ⟨W,wL W⟩;have aj:W.cell? _=_:=O ⟨W,wL W⟩;have ak:W.cell? _=_:=P ⟨W,wL W⟩;have al:W.cell? _=_:=Q ⟨W,wL W⟩;have am:W.cell? _=_:=R ⟨W,wL W⟩;have ao:W.cell? _=_:=S ⟨W,wL W⟩;have aq:W.cell? _=_:=T ⟨W,wL W⟩
 go_enter func128, ntmps128
 obtain⟨W9,Y,z0,z1,z2,J⟩:=eG j K (wL W) q l m;go_wp2;refine vZ (v:=dC (some (⟨q,l,m⟩:Rn.V))) (by simp[results,dC,vv,Rn.word,Rn.zero,Rn.poison,results128,go_sem,z0,z1,z2] <;> rfl) rfl ?_;exact⟨rfl,J.out⟩
theorem ja (h:DS c pk w s bl o om wv bv)(x:Ins)(va vt vl vk:Value)(hBm:c.Bm<w.heap.size)(hf:VFn c.f)(hi:Rn.Inv c.f s)(ho:x.op=27)(A B:Rn.V)(ka kb:Int)(hl:VsAt w vl [A,B])(hk:IntsAt w.heap.size w vk [ka,kb])(hA:Rn.VOK c.f 33 A)(n:Nat)(hn1:1<=n)(hn:n<=4)(hB:0<=B.n/\B.n<4294967296)(hx:kb=8*(n:Int))(hm:Rn.store s.mem A B n=none) :
  fk c pk w bl o om wv bv x va vt vl vk s none:=by
 obtain⟨W,hW,g,I,p⟩:=dI h x va vt;have d:=dJ g.out.gr;obtain⟨q,r⟩:=mH h g hBm;obtain⟨b,cl,rfl,Y,j,⟨z,C,D⟩,E,F,G⟩:=hl.two;have L:=fun(u:GrW W)=>((d.out.trans u.gr).cell _ _ j).trans z;have M:=fun(u:GrW W)=>((d.out.trans u.gr).cell _ _ j).trans C;have N:=fun(u:GrW W)=>((d.out.trans u.gr).cell _ _ j).trans D;have O:=fun(u:GrW W)=>((d.out.trans u.gr).cell _ _ j).trans E;have P:=fun(u:GrW W)=>((d.out.trans u.gr).cell _ _ j).trans F;have Q:=fun(u:GrW W)=>((d.out.trans u.gr).cell _ _ j).trans G;obtain⟨bk,ok,ck,rfl,X,l,t,y⟩:=eT hk;have J:=fun(u:GrW W)=>((d.out.trans u.gr).cell _ _ l).trans t;have K:=fun(u:GrW W)=>((d.out.trans u.gr).cell _ _ l).trans y;have CS:=dJ fun(u:GrW W)=>jk (h.gr (d.out.trans u.gr)) hf hi A B hA n hn1 hn hB kb hx;rw[hm] at CS;obtain⟨ap,R,an⟩:=A;obtain⟨bp,S,bn⟩:=B;clear h hBm hm hf hi hl hk hA hB hn1 hn hx z C D E F G t y J;unfold fk df;dsimp only[vv,lz] at CS;obtain⟨op,wd,fl,args,im,tt⟩:=x;dsimp only at *;subst ho;obtain⟨aa,ab,ac,ad,ae,af,ao,aq,ar,au,av,aw⟩:=p.out W (wL W);have ag:W.cell? _=_:=K ⟨W,wL W⟩;have ah:W.cell? _=_:=L ⟨W,wL W⟩;have ai:W.cell? _=_:=M ⟨W,wL W⟩;have aj:W.cell? _=_:=N ⟨W,wL W⟩;have ak:W.cell? _=_:=O ⟨W,wL W⟩;have al:W.cell? _=_:=P ⟨W,wL W⟩;have am:W.cell? _=_:=Q ⟨W,wL W⟩
 go_enter func128, ntmps128
 go_wp2
 go_region_with (go_at_call 155;(with_reducible refine(CS.out ⟨W.drew,(wL W).drew⟩).mono ?_);rintro e Z ⟨rfl,T⟩;have m:=dJ ((wL W).drew.trans T);obtain⟨y0,y1,y2,y3,y4,y5,-⟩:=p.out Z m.out;obtain⟨W9,U,z0,z1,z2,H⟩:=eG g I m.out false 0 0)
 all_goals go_wp2
 all_goals (refine vZ (v:=dC (none)) (by simp[results,dC,vv,Rn.word,Rn.zero,Rn.poison,results128,go_sem,z0,z1,z2] <;> rfl) rfl ?_;exact⟨rfl,H.out⟩)
theorem jb (h:DS c pk w s bl o om wv bv)(x:Ins)(va vt vl vk:Value)(hBm:c.Bm<w.heap.size)(hf:VFn c.f)(hi:Rn.Inv c.f s)(ho:x.op=27)(A B:Rn.V)(ka kb:Int)(hl:VsAt w vl [A,B])(hk:IntsAt w.heap.size w vk [ka,kb])(hA:Rn.VOK c.f 33 A)(n:Nat)(hn1:1<=n)(hn:n<=4)(hB:0<=B.n/\B.n<4294967296)(hx:kb=8*(n:Int))(m:List (List Int))(hm:Rn.store s.mem A B n=some m) :
  fk c pk w bl o om wv bv x va vt vl vk { s with mem:=m } (some Rn.zero):=by
 obtain⟨W,hW,p,HL,Q⟩:=dI h x va vt;have d:=dJ p.out.gr;obtain⟨l,q⟩:=mH h p hBm;obtain⟨b,cl,rfl,ad,j,⟨I,J,K⟩,L,M,N⟩:=hl.two;have T:=fun(u:GrW W)=>((d.out.trans u.gr).cell _ _ j).trans I;have U:=fun(u:GrW W)=>((d.out.trans u.gr).cell _ _ j).trans J;have X:=fun(u:GrW W)=>((d.out.trans u.gr).cell _ _ j).trans K;have Y:=fun(u:GrW W)=>((d.out.trans u.gr).cell _ _ j).trans L;have Z:=fun(u:GrW W)=>((d.out.trans u.gr).cell _ _ j).trans M;have L5:=fun(u:GrW W)=>((d.out.trans u.gr).cell _ _ j).trans N;obtain⟨bk,ok,ck,rfl,ac,t,F,G⟩:=eT hk;have R:=fun(u:GrW W)=>((d.out.trans u.gr).cell _ _ t).trans F;have S:=fun(u:GrW W)=>((d.out.trans u.gr).cell _ _ t).trans G;have CS:=dJ fun(u:GrW W)=>jk (h.gr (d.out.trans u.gr)) hf hi A B hA n hn1 hn hB kb hx;rw[hm] at CS;obtain⟨ap,aa,an⟩:=A;obtain⟨bp,ab,bn⟩:=B;clear h hBm hm hf hi hl hk hA hB hn1 hn hx I J K L M N F G R;unfold fk df;dsimp only[vv,lz] at CS;obtain⟨op,wd,fl,args,im,tt⟩:=x;dsimp only at *;subst ho;obtain⟨ae,af,ag,ah,ai,aj,av,aw,ax,ay,az,aA⟩:=Q.out W (wL W);have ak:W.cell? _=_:=S ⟨W,wL W⟩;have al:W.cell? _=_:=T ⟨W,wL W⟩;have am:W.cell? _=_:=U ⟨W,wL W⟩;have ao:W.cell? _=_:=X ⟨W,wL W⟩;have aq:W.cell? _=_:=Y ⟨W,wL W⟩;have ar:W.cell? _=_:=Z ⟨W,wL W⟩;have au:W.cell? _=_:=L5 ⟨W,wL W⟩
 go_enter func128, ntmps128
 go_wp2
 go_region_with (go_at_call 155;(with_reducible refine(CS.out ⟨W.drew,(wL W).drew⟩).mono ?_);rintro e C ⟨rfl,H,r⟩;replace r:FrS (DO c wv bv) W C:=(FrS.of_gr (wL W).drew).trans (r.mono fun k hk=>.inl hk);have E:∀k,DO c wv bv k->DO c wv bv k\/W.heap.size<=k:=fun k hk=>.inl hk;have y:=q.out C r;have D:=dJ (l.out C _ wv bv Rn.zero H r E);obtain⟨e0,e1,e2,z3,z4,z5,W9,z,g,z0,O,P⟩:=pA y Rn.zero;rw[g] at D;dsimp only[Rn.word,Rn.zero,Rn.poison] at z z0 O P;clear y H r E g)
 all_goals go_wp2
 all_goals (refine vZ (v:=dC (some Rn.zero)) (by simp[results,dC,vv,Rn.word,Rn.zero,Rn.poison,results128,go_sem,z0,O,P] <;> rfl) rfl ?_;exact⟨rfl,D.out⟩)
theorem lN (h:DS c pk w s bl o om wv bv)(x:Ins)(va vt vl vk:Value)(n0:¬x.op=0)(n22:¬x.op=22)(n23:¬x.op=23)(n24:¬x.op=24)(n21:¬x.op=21)(n15:¬x.op=15)(n26:¬x.op=26)(n27:¬x.op=27)(A B:Rn.V)(hl:VsAt w vl [A,B])(hd:4<=x.op/\x.op<=7->Wd.Wid x.width/\Wd.Word x.width A.n/\Wd.Word x.width B.n)(hbk:iX x.op x.width A B=true) :
  fk c pk w bl o om wv bv x va vt vl vk s none:=by
 obtain⟨W,hW,l,F,g⟩:=dI h x va vt;have d:=dJ l.out.gr;have X0:=fun u:GrW W=>(g.out u.val u.gr).2.2.2.2.2.2.1;have X1:=fun u:GrW W=>(g.out u.val u.gr).2.2.2.2.2.2.2.1;have X2:=fun u:GrW W=>(g.out u.val u.gr).2.2.2.2.2.2.2.2.1;have X3:=fun u:GrW W=>(g.out u.val u.gr).2.2.2.2.2.2.2.2.2.1;have X4:=fun u:GrW W=>(g.out u.val u.gr).2.2.2.2.2.2.2.2.2.2.1;have X5:=fun u:GrW W=>(g.out u.val u.gr).2.2.2.2.2.2.2.2.2.2.2;obtain⟨b,cl,rfl,P,j,⟨r,t,y⟩,z,C,D⟩:=hl.two;have G:=fun(u:GrW W)=>((d.out.trans u.gr).cell _ _ j).trans r;have H:=fun(u:GrW W)=>((d.out.trans u.gr).cell _ _ j).trans t;have I:=fun(u:GrW W)=>((d.out.trans u.gr).cell _ _ j).trans y;have J:=fun(u:GrW W)=>((d.out.trans u.gr).cell _ _ j).trans z;have K:=fun(u:GrW W)=>((d.out.trans u.gr).cell _ _ j).trans C;have L:=fun(u:GrW W)=>((d.out.trans u.gr).cell _ _ j).trans D;have p:=dJ fun(u:GrW W)=>eZ x va vt A B u.val hd;rw[hbk] at p;obtain⟨ap,M,an⟩:=A;obtain⟨bp,N,bn⟩:=B;clear h hd hbk hl r t y z C D;unfold fk df;unfold df vv at p;obtain⟨op,wd,fl,args,im,tt⟩:=x;dsimp only at *;obtain⟨Q,R,S,T,U,X,ae,af,ag,ah,ai,aj⟩:=g.out W (wL W);have Y:W.cell? _=_:=G ⟨W,wL W⟩;have Z:W.cell? _=_:=H ⟨W,wL W⟩;have aa:W.cell? _=_:=I ⟨W,wL W⟩;have ab:W.cell? _=_:=J ⟨W,wL W⟩;have ac:W.cell? _=_:=K ⟨W,wL W⟩;have ad:W.cell? _=_:=L ⟨W,wL W⟩
 go_enter func128, ntmps128
 go_wp2;refine dh (W:=W) (wL W) (by kernel_rfl) (by kernel_rfl) ?_;repeat (go_big_quiet_step ((rename_i u;go_at_call 156;exact di u (p.out u))))
 refine wpQuiet_nil ?_;intro w9 q;obtain⟨m,rfl⟩:=q;have G8:=dJ m.gr;obtain⟨y0,y1,y2,y3,y4,y5,-⟩:=g.out m.val m.gr;obtain⟨W9,O,z0,z1,z2,E⟩:=eG l F m.gr false 0 0;go_wp2;refine vZ (v:=dC (none)) (by simp[results,dC,vv,Rn.word,Rn.zero,Rn.poison,results128,go_sem,z0,z1,z2] <;> rfl) rfl ?_;exact⟨rfl,E.out⟩
theorem kC (h:DS c pk w s bl o om wv bv)(x:Ins)(va vt vl vk:Value)(n0:¬x.op=0)(n22:¬x.op=22)(n23:¬x.op=23)(n24:¬x.op=24)(n21:¬x.op=21)(n15:¬x.op=15)(n26:¬x.op=26)(n27:¬x.op=27)(A B:Rn.V)(hl:VsAt w vl [A,B])(hd:4<=x.op/\x.op<=7->Wd.Wid x.width/\Wd.Word x.width A.n/\Wd.Word x.width B.n)(hbk:iX x.op x.width A B=false)(hA:A.p=true) :
  fk c pk w bl o om wv bv x va vt vl vk s (some Rn.poison):=by
 obtain⟨W,hW,m,HL,g⟩:=dI h x va vt;have d:=dJ m.out.gr;have X0:=fun u:GrW W=>(g.out u.val u.gr).2.2.2.2.2.2.1;have X1:=fun u:GrW W=>(g.out u.val u.gr).2.2.2.2.2.2.2.1;have X2:=fun u:GrW W=>(g.out u.val u.gr).2.2.2.2.2.2.2.2.1;have X3:=fun u:GrW W=>(g.out u.val u.gr).2.2.2.2.2.2.2.2.2.1;have X4:=fun u:GrW W=>(g.out u.val u.gr).2.2.2.2.2.2.2.2.2.2.1;have X5:=fun u:GrW W=>(g.out u.val u.gr).2.2.2.2.2.2.2.2.2.2.2;obtain⟨b,cl,rfl,ad,l,⟨S,T,U⟩,X,Y,Z⟩:=hl.two;have Q:=fun(u:GrW W)=>((d.out.trans u.gr).cell _ _ l).trans S;have L1:=fun(u:GrW W)=>((d.out.trans u.gr).cell _ _ l).trans T;have L2:=fun(u:GrW W)=>((d.out.trans u.gr).cell _ _ l).trans U;have R:=fun(u:GrW W)=>((d.out.trans u.gr).cell _ _ l).trans X;have L4:=fun(u:GrW W)=>((d.out.trans u.gr).cell _ _ l).trans Y;have L5:=fun(u:GrW W)=>((d.out.trans u.gr).cell _ _ l).trans Z;have G:=dJ fun(u:GrW W)=>eZ x va vt A B u.val hd;rw[hbk] at G;obtain⟨ap,aa,an⟩:=A;obtain⟨bp,ab,bn⟩:=B;clear h hd hbk hl S T U X Y Z;unfold fk df;unfold df vv at G;obtain⟨op,wd,fl,args,im,tt⟩:=x;dsimp only at *;subst hA;obtain⟨J,K,L,M,N,O,t,y,z,C,D,E⟩:=g.out W (wL W);have q:W.cell? _=_:=Q ⟨W,wL W⟩;have ae:W.cell? _=_:=L1 ⟨W,wL W⟩;have af:W.cell? _=_:=L2 ⟨W,wL W⟩;have r:W.cell? _=_:=R ⟨W,wL W⟩;have ag:W.cell? _=_:=L4 ⟨W,wL W⟩;have ah:W.cell? _=_:=L5 ⟨W,wL W⟩
 go_enter func128, ntmps128
 go_wp2;refine dh (W:=W) (wL W) (by kernel_rfl) (by kernel_rfl) ?_;repeat (go_big_quiet_step ((rename_i u;go_at_call 156;exact di u (G.out u))))
 refine wpQuiet_nil ?_;intro w9 I;obtain⟨u9,rfl⟩:=I;have G8:=dJ u9.gr;go_wp2
 go_loopw [10] (fun j wr=>∃k:Nat,j=.int .i64 (k:Int)/\k<=0/\Hid (Gr W wr)) (fun j _=>(2-intOf j).toNat)
 case atStart=>exact⟨0,rfl,by omega,G8⟩
 case round =>
  obtain⟨k,rfl,H,F⟩:=hrel;clear q r t y z C D E J K L M N O;have q:wr.cell? _=_:=Q ⟨wr,F.out⟩;have r:wr.cell? _=_:=R ⟨wr,F.out⟩;obtain⟨-,-,-,-,-,-,t,y,z,C,D,E⟩:=g.out wr F.out;by_cases e0:k=0
  ·subst e0;clear H;go_wp2_with (go_at_call 152;refine(dQ _).mono ?_;rintro e w7 ⟨rfl,g7⟩;have P:=dJ (Gr.trans F.out g7);obtain⟨y0,y1,y2,y3,y4,y5,-⟩:=g.out w7 P.out;obtain⟨W9,ac,z0,z1,z2,HE⟩:=eG m HL P.out true 0 0);refine vZ (v:=dC (some Rn.poison)) (by simp[results,dC,vv,Rn.word,Rn.zero,Rn.poison,results128,go_sem,z0,z1,z2] <;> rfl) rfl ?_;exact⟨rfl,HE.out⟩
  ·exfalso;omega
theorem kD (h:DS c pk w s bl o om wv bv)(x:Ins)(va vt vl vk:Value)(n0:¬x.op=0)(n22:¬x.op=22)(n23:¬x.op=23)(n24:¬x.op=24)(n21:¬x.op=21)(n15:¬x.op=15)(n26:¬x.op=26)(n27:¬x.op=27)(A B:Rn.V)(hl:VsAt w vl [A,B])(hd:4<=x.op/\x.op<=7->Wd.Wid x.width/\Wd.Word x.width A.n/\Wd.Word x.width B.n)(hbk:iX x.op x.width A B=false)(hA:A.p=false)(hB:B.p=true) :
  fk c pk w bl o om wv bv x va vt vl vk s (some Rn.poison):=by
 obtain⟨W,hW,m,HL,g⟩:=dI h x va vt;have d:=dJ m.out.gr;have X0:=fun u:GrW W=>(g.out u.val u.gr).2.2.2.2.2.2.1;have X1:=fun u:GrW W=>(g.out u.val u.gr).2.2.2.2.2.2.2.1;have X2:=fun u:GrW W=>(g.out u.val u.gr).2.2.2.2.2.2.2.2.1;have X3:=fun u:GrW W=>(g.out u.val u.gr).2.2.2.2.2.2.2.2.2.1;have X4:=fun u:GrW W=>(g.out u.val u.gr).2.2.2.2.2.2.2.2.2.2.1;have X5:=fun u:GrW W=>(g.out u.val u.gr).2.2.2.2.2.2.2.2.2.2.2;obtain⟨b,cl,rfl,ad,l,⟨T,U,X⟩,Y,Z,q5⟩:=hl.two;have Q:=fun(u:GrW W)=>((d.out.trans u.gr).cell _ _ l).trans T;have L1:=fun(u:GrW W)=>((d.out.trans u.gr).cell _ _ l).trans U;have L2:=fun(u:GrW W)=>((d.out.trans u.gr).cell _ _ l).trans X;have R:=fun(u:GrW W)=>((d.out.trans u.gr).cell _ _ l).trans Y;have L4:=fun(u:GrW W)=>((d.out.trans u.gr).cell _ _ l).trans Z;have L5:=fun(u:GrW W)=>((d.out.trans u.gr).cell _ _ l).trans q5;have H:=dJ fun(u:GrW W)=>eZ x va vt A B u.val hd;rw[hbk] at H;obtain⟨ap,aa,an⟩:=A;obtain⟨bp,ab,bn⟩:=B;clear h hd hbk hl T U X Y Z q5;unfold fk df;unfold df vv at H;obtain⟨op,wd,fl,args,im,tt⟩:=x;dsimp only at *;subst hA;subst hB;obtain⟨J,K,L,M,N,O,z,C,D,E,F,G⟩:=g.out W (wL W);have t:W.cell? _=_:=Q ⟨W,wL W⟩;have ae:W.cell? _=_:=L1 ⟨W,wL W⟩;have af:W.cell? _=_:=L2 ⟨W,wL W⟩;have y:W.cell? _=_:=R ⟨W,wL W⟩;have ag:W.cell? _=_:=L4 ⟨W,wL W⟩;have ah:W.cell? _=_:=L5 ⟨W,wL W⟩
 go_enter func128, ntmps128
 go_wp2;refine dh (W:=W) (wL W) (by kernel_rfl) (by kernel_rfl) ?_;repeat (go_big_quiet_step ((rename_i u;go_at_call 156;exact di u (H.out u))))
 refine wpQuiet_nil ?_;intro w9 I;obtain⟨u9,rfl⟩:=I;have G8:=dJ u9.gr;go_wp2
 go_loopw [10] (fun j wr=>∃k:Nat,j=.int .i64 (k:Int)/\k<=1/\Hid (Gr W wr)) (fun j _=>(2-intOf j).toNat)
 case atStart=>exact⟨0,rfl,by omega,G8⟩
 case round =>
  obtain⟨k,rfl,r,q⟩:=hrel;clear t y z C D E F G J K L M N O;have t:wr.cell? _=_:=Q ⟨wr,q.out⟩;have y:wr.cell? _=_:=R ⟨wr,q.out⟩;obtain⟨-,-,-,-,-,-,z,C,D,E,F,G⟩:=g.out wr q.out;by_cases S:k=0
  ·subst S;clear r;go_wp2;exact⟨⟨1,rfl,by omega,q⟩,by simp[intOf]⟩
  by_cases e1:k=1
  ·subst e1;clear r S;go_wp2_with (go_at_call 152;refine(dQ _).mono ?_;rintro e w7 ⟨rfl,g7⟩;have P:=dJ (Gr.trans q.out g7);obtain⟨y0,y1,y2,y3,y4,y5,-⟩:=g.out w7 P.out;obtain⟨W9,ac,z0,z1,z2,HE⟩:=eG m HL P.out true 0 0);refine vZ (v:=dC (some Rn.poison)) (by simp[results,dC,vv,Rn.word,Rn.zero,Rn.poison,results128,go_sem,z0,z1,z2] <;> rfl) rfl ?_;exact⟨rfl,HE.out⟩
  ·exfalso;omega
theorem kE (h:DS c pk w s bl o om wv bv)(x:Ins)(va vt vl vk:Value)(n0:¬x.op=0)(n22:¬x.op=22)(n23:¬x.op=23)(n24:¬x.op=24)(n21:¬x.op=21)(n15:¬x.op=15)(n26:¬x.op=26)(n27:¬x.op=27)(A B:Rn.V)(hl:VsAt w vl [A,B])(hd:4<=x.op/\x.op<=7->Wd.Wid x.width/\Wd.Word x.width A.n/\Wd.Word x.width B.n)(hbk:iX x.op x.width A B=false)(hA:A.p=false)(hB:B.p=false)(v:Rn.V)(hs:∀w',Gr w w'->Calls prog 157 #[.pointer (some ⟨c.Bs,0,none⟩),df x va vt,vl,vk] w' fun e w''=>e=.returned (vv v)/\Gr w' w'') :
  fk c pk w bl o om wv bv x va vt vl vk s (some v):=by
 obtain⟨W,hW,r,HL,g⟩:=dI h x va vt;have d:=dJ r.out.gr;have X0:=fun u:GrW W=>(g.out u.val u.gr).2.2.2.2.2.2.1;have X1:=fun u:GrW W=>(g.out u.val u.gr).2.2.2.2.2.2.2.1;have X2:=fun u:GrW W=>(g.out u.val u.gr).2.2.2.2.2.2.2.2.1;have X3:=fun u:GrW W=>(g.out u.val u.gr).2.2.2.2.2.2.2.2.2.1;have X4:=fun u:GrW W=>(g.out u.val u.gr).2.2.2.2.2.2.2.2.2.2.1;have X5:=fun u:GrW W=>(g.out u.val u.gr).2.2.2.2.2.2.2.2.2.2.2;obtain⟨b,cl,rfl,ad,q,⟨X,Y,Z⟩,q3,q4,q5⟩:=hl.two;have S:=fun(u:GrW W)=>((d.out.trans u.gr).cell _ _ q).trans X;have L1:=fun(u:GrW W)=>((d.out.trans u.gr).cell _ _ q).trans Y;have L2:=fun(u:GrW W)=>((d.out.trans u.gr).cell _ _ q).trans Z;have T:=fun(u:GrW W)=>((d.out.trans u.gr).cell _ _ q).trans q3;have L4:=fun(u:GrW W)=>((d.out.trans u.gr).cell _ _ q).trans q4;have L5:=fun(u:GrW W)=>((d.out.trans u.gr).cell _ _ q).trans q5;have H:=dJ fun(u:GrW W)=>eZ x va vt A B u.val hd;rw[hbk] at H;obtain⟨ap,aa,an⟩:=A;obtain⟨bp,ab,bn⟩:=B;obtain⟨vp,vs,vn⟩:=v;have CS:=dJ hs;clear h hd hbk hl X Y Z q3 q4 q5 hs;unfold fk df;unfold df vv at H;unfold df vv at CS;obtain⟨op,wd,fl,args,im,tt⟩:=x;dsimp only at *;subst hA;subst hB;obtain⟨K,L,M,N,O,Q,z,C,D,E,F,G⟩:=g.out W (wL W);have t:W.cell? _=_:=S ⟨W,wL W⟩;have ae:W.cell? _=_:=L1 ⟨W,wL W⟩;have af:W.cell? _=_:=L2 ⟨W,wL W⟩;have y:W.cell? _=_:=T ⟨W,wL W⟩;have ag:W.cell? _=_:=L4 ⟨W,wL W⟩;have ah:W.cell? _=_:=L5 ⟨W,wL W⟩
 go_enter func128, ntmps128
 go_wp2;refine dh (W:=W) (wL W) (by kernel_rfl) (by kernel_rfl) ?_;repeat (go_big_quiet_step ((rename_i u;go_at_call 156;exact di u (H.out u))))
 refine wpQuiet_nil ?_;intro w9 J;obtain⟨u9,rfl⟩:=J;have G8:=dJ u9.gr;go_wp2
 go_loopw [10] (fun m wr=>∃k:Nat,m=.int .i64 (k:Int)/\k<=2/\Hid (Gr W wr)) (fun m _=>(2-intOf m).toNat)
 case atStart=>exact⟨0,rfl,by omega,G8⟩
 case round =>
  obtain⟨k,rfl,l,j⟩:=hrel;clear t y z C D E F G K L M N O Q;have t:wr.cell? _=_:=S ⟨wr,j.out⟩;have y:wr.cell? _=_:=T ⟨wr,j.out⟩;obtain⟨-,-,-,-,-,-,z,C,D,E,F,G⟩:=g.out wr j.out;by_cases I:k=0
  ·subst I;clear l;go_wp2;exact⟨⟨1,rfl,by omega,j⟩,by simp[intOf]⟩
  by_cases U:k=1
  ·subst U;clear l I;go_wp2;exact⟨⟨2,rfl,by omega,j⟩,by simp[intOf]⟩
  by_cases e2:k=2
  ·subst e2;clear l I U;go_wp2_with (go_at_call 157;refine(CS.out _ (d.out.trans j.out)).mono ?_;rintro e w7 ⟨rfl,g7⟩;have R:=dJ (Gr.trans j.out g7);obtain⟨y0,y1,y2,y3,y4,y5,-⟩:=g.out w7 R.out;obtain⟨W9,ac,z0,z1,z2,HE⟩:=eG r HL R.out vp vs vn);refine vZ (v:=dC (some (⟨vp,vs,vn⟩:Rn.V))) (by simp[results,dC,vv,Rn.word,Rn.zero,Rn.poison,results128,go_sem,z0,z1,z2] <;> rfl) rfl ?_;exact⟨rfl,HE.out⟩
  ·exfalso;omega
theorem kA (h:DS c pk w s bl o om wv bv)(x:Ins)(va vt vl vk:Value)(n0:¬x.op=0)(n22:¬x.op=22)(n23:¬x.op=23)(n24:¬x.op=24)(n21:¬x.op=21)(n15:¬x.op=15)(n26:¬x.op=26)(n27:¬x.op=27)(A:Rn.V)(hl:VsAt w vl [A])(hA:A.p=true) :
  fk c pk w bl o om wv bv x va vt vl vk s (some Rn.poison):=by
 obtain⟨W,hW,l,T,d⟩:=dI h x va vt;have g:=dJ l.out.gr;have X0:=fun u:GrW W=>(d.out u.val u.gr).2.2.2.2.2.2.1;have X1:=fun u:GrW W=>(d.out u.val u.gr).2.2.2.2.2.2.2.1;have X2:=fun u:GrW W=>(d.out u.val u.gr).2.2.2.2.2.2.2.2.1;have X3:=fun u:GrW W=>(d.out u.val u.gr).2.2.2.2.2.2.2.2.2.1;have X4:=fun u:GrW W=>(d.out u.val u.gr).2.2.2.2.2.2.2.2.2.2.1;have X5:=fun u:GrW W=>(d.out u.val u.gr).2.2.2.2.2.2.2.2.2.2.2;obtain⟨b,cl,rfl,ab,C,O,P,Q⟩:=hl.one;have N:=fun(u:GrW W)=>((g.out.trans u.gr).cell _ _ C).trans O;have U:=fun(u:GrW W)=>((g.out.trans u.gr).cell _ _ C).trans P;have X:=fun(u:GrW W)=>((g.out.trans u.gr).cell _ _ C).trans Q;obtain⟨ap,Y,an⟩:=A;clear h hl O P Q;unfold fk df;obtain⟨op,wd,fl,args,im,tt⟩:=x;dsimp only at *;subst hA;obtain⟨G,H,I,J,K,L,q,r,t,y,z,B⟩:=d.out W (wL W);have m:W.cell? _=_:=N ⟨W,wL W⟩;have ac:W.cell? _=_:=U ⟨W,wL W⟩;have ad:W.cell? _=_:=X ⟨W,wL W⟩
 go_enter func128, ntmps128
 go_wp2;refine dh (W:=W) (wL W) (by kernel_rfl) (by kernel_rfl) ?_;repeat (go_big_quiet_step (fail))
 refine wpQuiet_nil ?_;intro w9 F;obtain⟨u9,rfl⟩:=F;have R:=dJ u9.gr;go_wp2
 go_loopw [10] (fun j wr=>∃k:Nat,j=.int .i64 (k:Int)/\k<=0/\Hid (Gr W wr)) (fun j _=>(1-intOf j).toNat)
 case atStart=>exact⟨0,rfl,by omega,R⟩
 case round =>
  obtain⟨k,rfl,E,D⟩:=hrel;clear m q r t y z B G H I J K L;have m:wr.cell? _=_:=N ⟨wr,D.out⟩;obtain⟨-,-,-,-,-,-,q,r,t,y,z,B⟩:=d.out wr D.out;by_cases Z:k=0
  ·subst Z;clear E;go_wp2_with (go_at_call 152;refine(dQ _).mono ?_;rintro e w7 ⟨rfl,g7⟩;have M:=dJ (Gr.trans D.out g7);obtain⟨y0,y1,y2,y3,y4,y5,-⟩:=d.out w7 M.out;obtain⟨W9,aa,z0,z1,z2,S⟩:=eG l T M.out true 0 0);refine vZ (v:=dC (some Rn.poison)) (by simp[results,dC,vv,Rn.word,Rn.zero,Rn.poison,results128,go_sem,z0,z1,z2] <;> rfl) rfl ?_;exact⟨rfl,S.out⟩
  ·exfalso;omega
theorem kB (h:DS c pk w s bl o om wv bv)(x:Ins)(va vt vl vk:Value)(n0:¬x.op=0)(n22:¬x.op=22)(n23:¬x.op=23)(n24:¬x.op=24)(n21:¬x.op=21)(n15:¬x.op=15)(n26:¬x.op=26)(n27:¬x.op=27)(A:Rn.V)(hl:VsAt w vl [A])(hA:A.p=false)(v:Rn.V)(hs:∀w',Gr w w'->Calls prog 157 #[.pointer (some ⟨c.Bs,0,none⟩),df x va vt,vl,vk] w' fun e w''=>e=.returned (vv v)/\Gr w' w'') :
  fk c pk w bl o om wv bv x va vt vl vk s (some v):=by
 obtain⟨W,hW,l,Y,d⟩:=dI h x va vt;have g:=dJ l.out.gr;have X0:=fun u:GrW W=>(d.out u.val u.gr).2.2.2.2.2.2.1;have X1:=fun u:GrW W=>(d.out u.val u.gr).2.2.2.2.2.2.2.1;have X2:=fun u:GrW W=>(d.out u.val u.gr).2.2.2.2.2.2.2.2.1;have X3:=fun u:GrW W=>(d.out u.val u.gr).2.2.2.2.2.2.2.2.2.1;have X4:=fun u:GrW W=>(d.out u.val u.gr).2.2.2.2.2.2.2.2.2.2.1;have X5:=fun u:GrW W=>(d.out u.val u.gr).2.2.2.2.2.2.2.2.2.2.2;obtain⟨b,cl,rfl,ac,E,Q,R,S⟩:=hl.one;have N:=fun(u:GrW W)=>((g.out.trans u.gr).cell _ _ E).trans Q;have Z:=fun(u:GrW W)=>((g.out.trans u.gr).cell _ _ E).trans R;have L2:=fun(u:GrW W)=>((g.out.trans u.gr).cell _ _ E).trans S;obtain⟨ap,aa,an⟩:=A;obtain⟨vp,vs,T⟩:=v;have CS:=dJ hs;clear h hl Q R S hs;unfold fk df;unfold df vv at CS;obtain⟨op,wd,fl,args,im,tt⟩:=x;dsimp only at *;subst hA;obtain⟨G,H,I,J,K,L,t,y,z,B,C,D⟩:=d.out W (wL W);have r:W.cell? _=_:=N ⟨W,wL W⟩;have ad:W.cell? _=_:=Z ⟨W,wL W⟩;have ae:W.cell? _=_:=L2 ⟨W,wL W⟩
 go_enter func128, ntmps128
 go_wp2;refine dh (W:=W) (wL W) (by kernel_rfl) (by kernel_rfl) ?_;repeat (go_big_quiet_step (fail))
 refine wpQuiet_nil ?_;intro w9 F;obtain⟨u9,rfl⟩:=F;have U:=dJ u9.gr;go_wp2
 go_loopw [10] (fun j wr=>∃k:Nat,j=.int .i64 (k:Int)/\k<=1/\Hid (Gr W wr)) (fun j _=>(1-intOf j).toNat)
 case atStart=>exact⟨0,rfl,by omega,U⟩
 case round =>
  obtain⟨k,rfl,q,m⟩:=hrel;clear r t y z B C D G H I J K L;have r:wr.cell? _=_:=N ⟨wr,m.out⟩;obtain⟨-,-,-,-,-,-,t,y,z,B,C,D⟩:=d.out wr m.out;by_cases O:k=0
  ·subst O;clear q;go_wp2;exact⟨⟨1,rfl,by omega,m⟩,by simp[intOf]⟩
  by_cases e1:k=1
  ·subst e1;clear q O;go_wp2_with (go_at_call 157;refine(CS.out _ (g.out.trans m.out)).mono ?_;rintro e w7 ⟨rfl,g7⟩;have M:=dJ (Gr.trans m.out g7);obtain⟨y0,y1,y2,y3,y4,y5,-⟩:=d.out w7 M.out;obtain⟨W9,ab,z0,z1,z2,X⟩:=eG l Y M.out vp vs T);refine vZ (v:=dC (some (⟨vp,vs,T⟩:Rn.V))) (by simp[results,dC,vv,Rn.word,Rn.zero,Rn.poison,results128,go_sem,z0,z1,z2] <;> rfl) rfl ?_;exact⟨rfl,X.out⟩
  ·exfalso;omega
end
end
end Go.Proofs.YthfhamagopbgcaaGreat
