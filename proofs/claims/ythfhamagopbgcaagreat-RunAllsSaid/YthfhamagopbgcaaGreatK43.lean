/- Parts. -/
import Derived.Test.YthfhamagopbgcaaGreatK42
set_option linter.unusedSimpArgs false
set_option linter.unusedVariables false
set_option maxRecDepth 100000
set_option maxHeartbeats 16000000
open Go.Proofs.Tryz
namespace Go.Proofs.YthfhamagopbgcaaGreat
section
open Go.RowKit
theorem VsAt.three {w:World}{v:Value}{A B D:Rn.V}(h:VsAt w v [A,B,D]):∃b c,v=.slice (some ⟨b,0,none⟩) 3 c/\3<=c/\b<w.heap.size/\(w.cell? ⟨b,0,none⟩=some (.bool A.p)/\w.cell? ⟨b,1,none⟩=some (.int .i64 A.s)/\w.cell? ⟨b,2,none⟩=some (.int .u32 A.n))/\(w.cell? ⟨b,3,none⟩=some (.bool B.p)/\w.cell? ⟨b,4,none⟩=some (.int .i64 B.s)/\w.cell? ⟨b,5,none⟩=some (.int .u32 B.n))/\(w.cell? ⟨b,6,none⟩=some (.bool D.p)/\w.cell? ⟨b,7,none⟩=some (.int .i64 D.s)/\w.cell? ⟨b,8,none⟩=some (.int .u32 D.n)):=by obtain⟨b,c,e,m,q,r,t,u⟩:=h.cells (k:=0) rfl;obtain⟨H,I,g,-,-,y,z,C⟩:=h.cells (k:=1) rfl;obtain⟨j,l,d,-,-,E,F,G⟩:=h.cells (k:=2) rfl;rw[e]at g d;injection g with g;injection g with g;injection g with g _;subst g;injection d with d;injection d with d;injection d with d _;subst d;exact⟨b,c,e,m,q,⟨r,t,u⟩,⟨y,z,C⟩,E,F,G⟩
def uc (c:Cfg)(pk:List Int)(w:World)(s':Rn.St)(bl:List Int)(o:Rn.Out)(om wv bv:Value)(r:Option Rn.V)(e:Ending)(w':World):Prop :=
 e=.returned (dC r)/\DLeft c pk w wv bv s' bl o om w'
section
variable {c:Cfg}{pk bl:List Int}{w:World}{s:Rn.St}{o:Rn.Out}{om wv bv:Value}
theorem dI (h:DS c pk w s bl o om wv bv)(x:Ins)(va vt:Value):∃W,(w.alloc (.cells #[.int .i64 x.op,.int .i64 x.width,.int .i64 x.flags,va,.int .u32 x.imm,vt] 67)).alloc (.cells #[.bool false,.int .i64 0,.int .u32 0] 37)=W/\Hid (RB w W (w.heap.size+1)) /\
  Hid (∀v w9,Gr W w9->DLeft c pk w wv bv s bl o om (dw w9 (w.heap.size+1) v)) /\
  Hid (∀w9,Gr W w9->w9.cell? ⟨w.heap.size+1,0,none⟩=some (.bool false)/\w9.cell? ⟨w.heap.size+1,1,none⟩=some (.int .i64 0)/\w9.cell? ⟨w.heap.size+1,2,none⟩=some (.int .u32 0)/\w9.frozen? ⟨w.heap.size+1,0,none⟩=false/\w9.frozen? ⟨w.heap.size+1,1,none⟩=false/\w9.frozen? ⟨w.heap.size+1,2,none⟩=false /\
    w9.cell? ⟨w.heap.size,0,none⟩=some (.int .i64 x.op)/\w9.cell? ⟨w.heap.size,1,none⟩=some (.int .i64 x.width)/\w9.cell? ⟨w.heap.size,2,none⟩=some (.int .i64 x.flags)/\w9.cell? ⟨w.heap.size,3,none⟩=some va/\w9.cell? ⟨w.heap.size,4,none⟩=some (.int .u32 x.imm)/\w9.cell? ⟨w.heap.size,5,none⟩=some vt):=by
 obtain⟨m,j⟩:=xJ (dY w x va vt);obtain⟨W,l⟩:=xJ (fF m);obtain⟨A,z,d⟩:=oO j l;refine⟨W,by rw[<-l,<-j];rfl,d,fun v w9 g=>(h.gr (d.ret g v).1).left (FrS.of_gr (d.ret g v).1),fun w9 g=>?_⟩;obtain⟨p,q,r,t,u,y⟩:=d.cells ⟨w9,g⟩;exact⟨p,q,r,t,u,y,dk (by rw[j];exact z.trans g)⟩
theorem wT {t:Array Value}{w9:World}{r:Nat}{p b:Bool}{k n:Int}(h8:t[8]?.getD undef=.pointer (some ⟨r,0,none⟩))(h9:t[9]?.getD undef=.bool b)(z0:w9.cell? ⟨r,0,none⟩=some (.bool p))(z1:w9.cell? ⟨r,1,none⟩=some (.int .i64 k))(z2:w9.cell? ⟨r,2,none⟩=some (.int .u32 n)) :
  (results Tryz.f128 t).run prog w9=.ok (.tuple #[.agg #[.bool p,.int .i64 k,.int .u32 n],.bool b]) w9:=by
 simp[results,results128,go_sem,h8,h9,z0,z1,z2]
 try rfl
theorem yf {W:World}{A0 A1 A2 A3 A4 A5 B0 B1 B2 B3 B4 B5:World->Prop}(h:∀w9,Gr W w9->A0 w9/\A1 w9/\A2 w9/\A3 w9/\A4 w9/\A5 w9/\B0 w9/\B1 w9/\B2 w9/\B3 w9/\B4 w9/\B5 w9) :
  (∀u:GrW W,B0 u.val)/\(∀u:GrW W,B1 u.val)/\(∀u:GrW W,B2 u.val)/\(∀u:GrW W,B3 u.val)/\(∀u:GrW W,B4 u.val)/\∀u:GrW W,B5 u.val:=by
 have q:=fun u:GrW W=>(h u.val u.gr).2.2.2.2.2.2;exact⟨fun u=>(q u).1,fun u=>(q u).2.1,fun u=>(q u).2.2.1,fun u=>(q u).2.2.2.1,fun u=>(q u).2.2.2.2.1,fun u=>(q u).2.2.2.2.2⟩
theorem eG {W:World}(r:Hid (RB w W (w.heap.size+1)))(l:Hid (∀v w9,Gr W w9->DLeft c pk w wv bv s bl o om (dw w9 (w.heap.size+1) v))){w9:World}(g:Gr W w9)(p:Bool)(k n:Int) :
  ∃W9,((w9.setCell ⟨w.heap.size+1,0,none⟩ (.bool p)).setCell ⟨w.heap.size+1,1,none⟩ (.int .i64 k)).setCell ⟨w.heap.size+1,2,none⟩ (.int .u32 n)=W9/\W9.cell? ⟨w.heap.size+1,0,none⟩=some (.bool p)/\W9.cell? ⟨w.heap.size+1,1,none⟩=some (.int .i64 k)/\W9.cell? ⟨w.heap.size+1,2,none⟩=some (.int .u32 n)/\Hid (DLeft c pk w wv bv s bl o om W9) :=
 ⟨_,rfl,(r.out.ret g ⟨p,k,n⟩).2.1,(r.out.ret g ⟨p,k,n⟩).2.2.1,(r.out.ret g ⟨p,k,n⟩).2.2.2,l.out ⟨p,k,n⟩ w9 g⟩
theorem mH {W:World}(h:DS c pk w s bl o om wv bv)(r:Hid (RB w W (w.heap.size+1)))(hBm:c.Bm<w.heap.size) :
  Hid (∀(W3:World)(s':Rn.St)(wv' bv':Value)(x:Rn.V),DS c pk W3 s' bl o om wv' bv'->FrS (DO c wv bv) W W3->(∀k,DO c wv' bv' k->DO c wv bv k\/W.heap.size<=k)->DLeft c pk w wv bv s' bl o om (dw W3 (w.heap.size+1) x)) /\
  Hid (∀W3,FrS (DO c wv bv) W W3->W3.heap[w.heap.size+1]?=some (.cells #[.bool false,.int .i64 0,.int .u32 0] 37 (0,0))):=by
 have d:¬DO c wv bv (w.heap.size+1):=fun q=>by have:=h.lt q;omega
 have j:=h.n₀;have g:=cY r.out.row;exact⟨fun W3 s' wv' bv' x p f q=>ku p ((FrS.of_gr r.out.gr).trans f) q (by omega) g (by omega) (by omega) d x,fun W3 f=>(f.block _ g d).trans r.out.row⟩
theorem pA {w7:World}{r:Nat}(h:w7.heap[r]?=some (.cells #[.bool false,.int .i64 0,.int .u32 0] 37 (0,0)))(v:Rn.V) :
  w7.cell? ⟨r,0,none⟩=some (.bool false)/\w7.cell? ⟨r,1,none⟩=some (.int .i64 0)/\w7.cell? ⟨r,2,none⟩=some (.int .u32 0)/\w7.frozen? ⟨r,0,none⟩=false/\w7.frozen? ⟨r,1,none⟩=false/\w7.frozen? ⟨r,2,none⟩=false /\
   ∃W9,((w7.setCell ⟨r,0,none⟩ (.bool v.p)).setCell ⟨r,1,none⟩ (.int .i64 v.s)).setCell ⟨r,2,none⟩ (.int .u32 v.n)=W9/\dw w7 r v=W9/\W9.cell? ⟨r,0,none⟩=some (.bool v.p)/\W9.cell? ⟨r,1,none⟩=some (.int .i64 v.s)/\W9.cell? ⟨r,2,none⟩=some (.int .u32 v.n):=by
 obtain⟨z0,d,g⟩:=eo h v;exact⟨vX _ _ 0 _ _ _ h,vX _ _ 1 _ _ _ h,vX _ _ 2 _ _ _ h,vY _ _ 0 _ _ h,vY _ _ 1 _ _ h,vY _ _ 2 _ _ h,_,rfl,rfl,z0,d,g⟩
end
abbrev fk (c:Cfg)(pk:List Int)(w:World)(bl:List Int)(o:Rn.Out)(om wv bv:Value)(x:Ins)(va vt vl vk:Value)(s':Rn.St)(r:Option Rn.V):Prop :=
 Calls prog 128 #[.pointer (some ⟨c.Bs,0,none⟩),df x va vt,vl,vk] w (uc c pk w s' bl o om wv bv r)
section
variable {c:Cfg}{pk bl:List Int}{w:World}{s:Rn.St}{o:Rn.Out}{om wv bv:Value}
theorem jL (h:DS c pk w s bl o om wv bv)(x:Ins)(va vt vl vk:Value)(ho:x.op=0) :
  fk c pk w bl o om wv bv x va vt vl vk s (some (Rn.word x.imm)):=by
 obtain⟨W,F,d,m,g⟩:=dI h x va vt;have l:=dJ d.out.gr;clear h;unfold fk df;obtain⟨op,H,fl,args,im,G⟩:=x;dsimp only at *;subst ho;obtain⟨q,r,t,u,y,z,A,-,-,-,B,-⟩:=g.out W (wL W)
 go_enter func128, ntmps128
 obtain⟨E,p,z0,C,D,j⟩:=eG d m (wL W) false 0 im;go_wp2;refine vZ (wT rfl rfl z0 C D) rfl ?_;exact⟨rfl,j.out⟩
theorem kw (h:DS c pk w s bl o om wv bv)(x:Ins)(va vt vl vk:Value)(ho:x.op=24)(hi:0<=x.imm/\x.imm<4294967296) :
  fk c pk w bl o om wv bv x va vt vl vk s (some ⟨false,x.imm+1,0⟩):=by
 obtain⟨W,H,d,m,g⟩:=dI h x va vt;have l:=dJ d.out.gr;obtain⟨q,r⟩:=hi;clear h;unfold fk df;obtain⟨op,J,fl,args,im,I⟩:=x;dsimp only at *;subst ho;obtain⟨t,u,y,z,A,B,C,-,-,-,D,-⟩:=g.out W (wL W)
 go_enter func128, ntmps128
 obtain⟨G,p,z0,E,F,j⟩:=eG d m (wL W) false (im+1) 0;go_wp2;refine vZ (wT rfl rfl z0 E F) rfl ?_;exact⟨rfl,j.out⟩
theorem iZ (h:DS c pk w s bl o om wv bv)(x:Ins)(va vt vl vk:Value)(ho:x.op=22) :
  fk c pk w bl o om wv bv x va vt vl vk s (some Rn.poison):=by
 obtain⟨W,I,d,p,j⟩:=dI h x va vt;have m:=dJ d.out.gr;clear h;unfold fk df;obtain⟨op,K,fl,args,im,J⟩:=x;dsimp only at *;subst ho;obtain⟨u,y,z,A,B,C,D,-,-,-,E,-⟩:=j.out W (wL W)
 go_enter func128, ntmps128
 go_wp2_with (go_at_call 152;refine(dQ _).mono ?_;rintro e t ⟨rfl,q⟩;have g:=dJ (Gr.trans (wL W) q);obtain⟨L,M,N,O,P,Q,-⟩:=j.out t g.out;obtain⟨H,r,z0,F,G,l⟩:=eG d p g.out true 0 0);refine vZ (wT rfl rfl z0 F G) rfl ?_;exact⟨rfl,l.out⟩
theorem ky (h:DS c pk w s bl o om wv bv)(x:Ins)(va vt vl vk:Value)(hf:VFn c.f)(hi:Rn.Inv c.f s)(ho:x.op=26)(A:Rn.V)(hl:VsAt w vl [A])(hA:Rn.VOK c.f 33 A)(n:Nat)(hn1:1<=n)(hn:n<=4)(hx:x.width=8*(n:Int)) :
  fk c pk w bl o om wv bv x va vt vl vk s (Rn.load s.mem A n):=by
 obtain⟨W,hW,g,E,q⟩:=dI h x va vt;have d:=dJ g.out.gr;obtain⟨X0,X1,X2,X3,X4,X5⟩:=yf q.out;obtain⟨b,cl,rfl,M,z,F,G,H⟩:=hl.one;have I:=gc d.out z F;have J:=gc d.out z G;have K:=gc d.out z H;have m:=dJ fun(u:GrW W)=>pv (h.gr (d.out.trans u.gr)) hf hi x va vt A hA n hn1 hn hx;obtain⟨r,B⟩:=xJ (Rn.load s.mem A n);rw[B]at m;rw[B];clear h B hf hi hl hA hn1 hn hx F G H;unfold fk df;unfold df vv at m;obtain⟨op,wd,fl,args,im,tt⟩:=x;dsimp only at *;subst ho;cases r;all_goals obtain⟨U,X,Y,Z,aa,ab,af,ag,ah,ai,aj,ak⟩:=q.out W (wL W)
 all_goals have ac:W.cell? _=_:=I ⟨W,wL W⟩
 all_goals have ad:W.cell? _=_:=J ⟨W,wL W⟩
 all_goals have ae:W.cell? _=_:=K ⟨W,wL W⟩
 case none =>
  dsimp only[dC,vv]at m
  go_enter func128, ntmps128
  go_wp2;refine dO (W:=W) 8 (wL W) (by kernel_rfl) (by kernel_rfl) ?_;simp only[wt,List.take_zero,wz,List.drop_zero];repeat (go_big_quiet_step ((rename_i u;go_at_call 154;exact di u (m.out u))))
  refine wpQuiet_nil ?_;intro N j;obtain⟨l,rfl⟩:=j;obtain⟨O,P,Q,R,S,T,-⟩:=q.out l.val l.gr;obtain⟨L,y,z0,C,D,t⟩:=eG g E l.gr false 0 0;go_wp2;refine vZ (wT rfl rfl z0 C D) rfl ?_;exact⟨rfl,t.out⟩
 case some r =>
  dsimp only[dC,vv]at m
  go_enter func128, ntmps128
  go_wp2;refine dO (W:=W) 8 (wL W) (by kernel_rfl) (by kernel_rfl) ?_;simp only[wt,List.take_zero,wz,List.drop_zero];repeat (go_big_quiet_step ((rename_i u;go_at_call 154;exact di u (m.out u))))
  refine wpQuiet_nil ?_;intro N j;obtain⟨l,rfl⟩:=j;obtain⟨O,P,Q,R,S,T,-⟩:=q.out l.val l.gr;obtain⟨L,y,z0,C,D,t⟩:=eG g E l.gr r.p r.s r.n;go_wp2;refine vZ (wT rfl rfl z0 C D) rfl ?_;exact⟨rfl,t.out⟩
theorem lM (h:DS c pk w s bl o om wv bv)(x:Ins)(va vt vl vk:Value)(hBm:c.Bm<w.heap.size)(hpk:∀z∈pk,0<=z/\z<4294967296)(hpl:pk.length<=1000)(hn:Wd.Wid x.width)(hw:s.widths.length<=1000)(ho:x.op=23) :
  fk c pk w bl o om wv bv x va vt vl vk (s.chose x.width) (some (Rn.chosen (Rn.given pk) s x.width)):=by
 obtain⟨W,hW,m,T,I⟩:=dI h x va vt;have l:=dJ m.out.gr;obtain⟨j,p⟩:=mH h m hBm;have r:=dJ (ik (h.gr l.out) (by have:=l.out.size;omega) hpk hpl x.width hn hw);obtain⟨R,C⟩:=xJ (Rn.given pk s.widths.length x.width);have g:Rn.chosen (Rn.given pk) s x.width=⟨false,0,R⟩:=by unfold Rn.chosen Rn.word;rw[C]
 rw[g]at r;rw[g];clear h g C hn hw hpk hpl hBm;unfold fk df;unfold vv at r;obtain⟨op,wd,fl,args,im,tt⟩:=x;dsimp only at *;subst ho;obtain⟨J,K,L,M,N,O,P,Q,-,-,S,-⟩:=I.out W (wL W)
 go_enter func128, ntmps128
 go_wp2_with (go_at_call 153;refine r.out.mono ?_;rintro e F ⟨rfl,A,t,E,u,D⟩;have q:=p.out F u;have B:=dJ (j.out F _ A t (⟨false,0,R⟩:Rn.V) E u D);obtain⟨X,Y,Z,z3,z4,z5,U,y,d,z0,G,H⟩:=pA q (⟨false,0,R⟩:Rn.V);rw[d]at B;dsimp only[Rn.word,Rn.zero,Rn.poison]at y z0 G H;clear q E u D d);refine vZ (wT rfl rfl z0 G H) rfl ?_;exact⟨rfl,B.out⟩
theorem xf (h:DS c pk w s bl o om wv bv)(x:Ins)(va vt vl vk:Value)(hBm:c.Bm<w.heap.size)(hpk:∀z∈pk,0<=z/\z<4294967296)(hpl:pk.length<=1000)(hn:Wd.Wid x.width)(hw:s.widths.length<=1000)(ho:x.op=21)(A:Rn.V)(hA:A.p=true)(hl:VsAt w vl [A]) :
  fk c pk w bl o om wv bv x va vt vl vk (s.chose x.width) (some (Rn.chosen (Rn.given pk) s x.width)):=by
 obtain⟨W,hW,m,HL,P⟩:=dI h x va vt;have d:=dJ m.out.gr;obtain⟨l,q⟩:=mH h m hBm;obtain⟨b,cl,rfl,T,t,u,K,L⟩:=hl.one;have G:=gc d.out t u;have Q:=gc d.out t K;have S:=gc d.out t L;have y:=dJ (ik (h.gr d.out) (by have:=d.out.size;omega) hpk hpl x.width hn hw);obtain⟨R,H⟩:=xJ (Rn.given pk s.widths.length x.width);have j:Rn.chosen (Rn.given pk) s x.width=⟨false,0,R⟩:=by unfold Rn.chosen Rn.word;rw[H]
 rw[j]at y;rw[j];rw[hA]at u;have G:=gc d.out t u;clear h hl hA u K L j H hn hw hpk hpl hBm;unfold fk df;unfold vv at y;obtain⟨op,wd,fl,args,im,tt⟩:=x;dsimp only at *;subst ho;obtain⟨U,X,Y,Z,aa,ab,af,ag,-,-,ah,-⟩:=P.out W (wL W);have ac:W.cell? _=_:=G ⟨W,wL W⟩;have ad:W.cell? _=_:=Q ⟨W,wL W⟩;have ae:W.cell? _=_:=S ⟨W,wL W⟩
 go_enter func128, ntmps128
 go_wp2_with (go_at_call 153;refine y.out.mono ?_;rintro e M ⟨rfl,E,B,J,C,I⟩;have r:=q.out M C;have F:=dJ (l.out M _ E B (⟨false,0,R⟩:Rn.V) J C I);obtain⟨e0,e1,e2,z3,z4,z5,W9,D,g,z0,N,O⟩:=pA r (⟨false,0,R⟩:Rn.V);rw[g]at F;dsimp only[Rn.word,Rn.zero,Rn.poison]at D z0 N O;clear r J C I g);refine vZ (wT rfl rfl z0 N O) rfl ?_;exact⟨rfl,F.out⟩
theorem iY (h:DS c pk w s bl o om wv bv)(x:Ins)(va vt vl vk:Value)(ho:x.op=21)(A:Rn.V)(hA:A.p=false)(hl:VsAt w vl [A]) :
  fk c pk w bl o om wv bv x va vt vl vk s (some A):=by
 obtain⟨W,Y,g,y,t⟩:=dI h x va vt;have d:=dJ g.out.gr;obtain⟨b,X,rfl,F,l,m,q,r⟩:=hl.one;have z:=gc d.out l m;have B:=gc d.out l q;have C:=gc d.out l r;obtain⟨U,j,D⟩:=A;clear h hl m q r;unfold fk df;obtain⟨op,wd,fl,args,im,Z⟩:=x;dsimp only at *;subst ho;subst hA;obtain⟨G,H,I,J,K,L,P,-,-,-,Q,-⟩:=t.out W (wL W);have M:W.cell? _=_:=z ⟨W,wL W⟩;have N:W.cell? _=_:=B ⟨W,wL W⟩;have O:W.cell? _=_:=C ⟨W,wL W⟩
 go_enter func128, ntmps128
 obtain⟨T,E,z0,R,S,u⟩:=eG g y (wL W) false j D;go_wp2;refine vZ (wT rfl rfl z0 R S) rfl ?_;exact⟨rfl,u.out⟩
theorem ix (h:DS c pk w s bl o om wv bv)(x:Ins)(va vt vl vk:Value)(ho:x.op=15)(A B D:Rn.V)(hA:A.p=true)(hl:VsAt w vl [A,B,D]) :
  fk c pk w bl o om wv bv x va vt vl vk s (some Rn.poison):=by
 obtain⟨W,hW,j,H,m⟩:=dI h x va vt;have d:=dJ j.out.gr;obtain⟨b,cl,rfl,U,g,⟨q,r,t⟩,⟨u,y,z⟩,C,E,F⟩:=hl.three;have I:=gc d.out g q;have J:=gc d.out g r;have K:=gc d.out g t;have L:=gc d.out g u;have M:=gc d.out g y;have N:=gc d.out g z;have O:=gc d.out g C;have P:=gc d.out g E;have Q:=gc d.out g F;obtain⟨ap,R,an⟩:=A;clear h hl q r t u y z C E F;unfold fk df;obtain⟨op,wd,fl,args,im,tt⟩:=x;dsimp only at *;subst ho;subst hA;obtain⟨Y,Z,aa,ab,ac,ad,ao,-,-,-,aq,-⟩:=m.out W (wL W);have ae:W.cell? _=_:=I ⟨W,wL W⟩;have af:W.cell? _=_:=J ⟨W,wL W⟩;have ag:W.cell? _=_:=K ⟨W,wL W⟩;have ah:W.cell? _=_:=L ⟨W,wL W⟩;have ai:W.cell? _=_:=M ⟨W,wL W⟩;have aj:W.cell? _=_:=N ⟨W,wL W⟩;have ak:W.cell? _=_:=O ⟨W,wL W⟩;have al:W.cell? _=_:=P ⟨W,wL W⟩;have am:W.cell? _=_:=Q ⟨W,wL W⟩
 go_enter func128, ntmps128
 go_wp2_with (go_at_call 152;refine(dQ _).mono ?_;rintro e X ⟨rfl,S⟩;have l:=dJ (Gr.trans (wL W) S);obtain⟨y0,y1,y2,y3,y4,y5,-⟩:=m.out X l.out;obtain⟨W9,T,z0,z1,z2,G⟩:=eG j H l.out true 0 0);refine vZ (wT rfl rfl z0 z1 z2) rfl ?_;exact⟨rfl,G.out⟩
theorem ip (h:DS c pk w s bl o om wv bv)(x:Ins)(va vt vl vk:Value)(ho:x.op=15)(A B D:Rn.V)(hA:A.p=false)(hn:A.n=0)(hl:VsAt w vl [A,B,D]) :
  fk c pk w bl o om wv bv x va vt vl vk s (some D):=by
 obtain⟨W,hW,j,H,F⟩:=dI h x va vt;have d:=dJ j.out.gr;obtain⟨b,cl,rfl,Y,g,⟨m,q,r⟩,⟨t,u,y⟩,z,C,E⟩:=hl.three;have I:=gc d.out g m;have J:=gc d.out g q;have K:=gc d.out g r;have L:=gc d.out g t;have M:=gc d.out g u;have N:=gc d.out g y;have O:=gc d.out g z;have P:=gc d.out g C;have Q:=gc d.out g E;obtain⟨ap,R,an⟩:=A;obtain⟨bp,S,bn⟩:=B;obtain⟨U,l,T⟩:=D;clear h hl m q r t u y z C E;unfold fk df;obtain⟨op,wd,fl,args,im,tt⟩:=x;dsimp only at *;subst ho;subst hA;subst hn;obtain⟨Z,aa,ab,ac,ad,ae,aq,-,-,-,ar,-⟩:=F.out W (wL W);have af:W.cell? _=_:=I ⟨W,wL W⟩;have ag:W.cell? _=_:=J ⟨W,wL W⟩;have ah:W.cell? _=_:=K ⟨W,wL W⟩;have ai:W.cell? _=_:=L ⟨W,wL W⟩;have aj:W.cell? _=_:=M ⟨W,wL W⟩;have ak:W.cell? _=_:=N ⟨W,wL W⟩;have al:W.cell? _=_:=O ⟨W,wL W⟩;have am:W.cell? _=_:=P ⟨W,wL W⟩;have ao:W.cell? _=_:=Q ⟨W,wL W⟩
 go_enter func128, ntmps128
 obtain⟨W9,X,z0,z1,z2,G⟩:=eG j H (wL W) U l T;go_wp2;refine vZ (wT rfl rfl z0 z1 z2) rfl ?_;exact⟨rfl,G.out⟩
theorem iq (h:DS c pk w s bl o om wv bv)(x:Ins)(va vt vl vk:Value)(ho:x.op=15)(A B D:Rn.V)(hA:A.p=false)(hn:A.n=1)(hl:VsAt w vl [A,B,D]) :
  fk c pk w bl o om wv bv x va vt vl vk s (some B):=by
 obtain⟨W,hW,j,H,F⟩:=dI h x va vt;have d:=dJ j.out.gr;obtain⟨b,cl,rfl,Y,g,⟨m,q,r⟩,⟨t,u,y⟩,z,C,E⟩:=hl.three;have I:=gc d.out g m;have J:=gc d.out g q;have K:=gc d.out g r;have L:=gc d.out g t;have M:=gc d.out g u;have N:=gc d.out g y;have O:=gc d.out g z;have P:=gc d.out g C;have Q:=gc d.out g E;obtain⟨ap,R,an⟩:=A;obtain⟨T,l,S⟩:=B;obtain⟨dp,U,dn⟩:=D;clear h hl m q r t u y z C E;unfold fk df;obtain⟨op,wd,fl,args,im,tt⟩:=x;dsimp only at *;subst ho;subst hA;subst hn;obtain⟨Z,aa,ab,ac,ad,ae,aq,-,-,-,ar,-⟩:=F.out W (wL W);have af:W.cell? _=_:=I ⟨W,wL W⟩;have ag:W.cell? _=_:=J ⟨W,wL W⟩;have ah:W.cell? _=_:=K ⟨W,wL W⟩;have ai:W.cell? _=_:=L ⟨W,wL W⟩;have aj:W.cell? _=_:=M ⟨W,wL W⟩;have ak:W.cell? _=_:=N ⟨W,wL W⟩;have al:W.cell? _=_:=O ⟨W,wL W⟩;have am:W.cell? _=_:=P ⟨W,wL W⟩;have ao:W.cell? _=_:=Q ⟨W,wL W⟩
 go_enter func128, ntmps128
 obtain⟨W9,X,z0,z1,z2,G⟩:=eG j H (wL W) T l S;go_wp2;refine vZ (wT rfl rfl z0 z1 z2) rfl ?_;exact⟨rfl,G.out⟩
theorem ja (h:DS c pk w s bl o om wv bv)(x:Ins)(va vt vl vk:Value)(hBm:c.Bm<w.heap.size)(hf:VFn c.f)(hi:Rn.Inv c.f s)(ho:x.op=27)(A B:Rn.V)(ka kb:Int)(hl:VsAt w vl [A,B])(hk:IntsAt w.heap.size w vk [ka,kb])(hA:Rn.VOK c.f 33 A)(n:Nat)(hn1:1<=n)(hn:n<=4)(hB:0<=B.n/\B.n<4294967296)(hx:kb=8*(n:Int))(hm:Rn.store s.mem A B n=none) :
  fk c pk w bl o om wv bv x va vt vl vk s none:=by
 obtain⟨W,hW,g,I,p⟩:=dI h x va vt;have d:=dJ g.out.gr;obtain⟨q,r⟩:=mH h g hBm;obtain⟨b,cl,rfl,Y,j,⟨z,C,D⟩,E,F,G⟩:=hl.two;have L:=gc d.out j z;have M:=gc d.out j C;have N:=gc d.out j D;have O:=gc d.out j E;have P:=gc d.out j F;have Q:=gc d.out j G;obtain⟨bk,ok,ck,rfl,X,l,t,y⟩:=eT hk;have J:=gc d.out l t;have K:=gc d.out l y;have CS:=dJ fun(u:GrW W)=>jk (h.gr (d.out.trans u.gr)) hf hi A B hA n hn1 hn hB kb hx;rw[hm]at CS;obtain⟨ap,R,an⟩:=A;obtain⟨bp,S,bn⟩:=B;clear h hBm hm hf hi hl hk hA hB hn1 hn hx z C D E F G t y J;unfold fk df;dsimp only[vv,lz]at CS;obtain⟨op,wd,fl,args,im,tt⟩:=x;dsimp only at *;subst ho;obtain⟨aa,ab,ac,ad,ae,af,ao,aq,ar,au,av,aw⟩:=p.out W (wL W);have ag:W.cell? _=_:=K ⟨W,wL W⟩;have ah:W.cell? _=_:=L ⟨W,wL W⟩;have ai:W.cell? _=_:=M ⟨W,wL W⟩;have aj:W.cell? _=_:=N ⟨W,wL W⟩;have ak:W.cell? _=_:=O ⟨W,wL W⟩;have al:W.cell? _=_:=P ⟨W,wL W⟩;have am:W.cell? _=_:=Q ⟨W,wL W⟩
 go_enter func128, ntmps128
 go_wp2
 go_region_with (go_at_call 155;(with_reducible refine(CS.out ⟨W.drew,(wL W).drew⟩).mono ?_);rintro e Z ⟨rfl,T⟩;have m:=dJ ((wL W).drew.trans T);obtain⟨y0,y1,y2,y3,y4,y5,-⟩:=p.out Z m.out;obtain⟨W9,U,z0,z1,z2,H⟩:=eG g I m.out false 0 0)
 all_goals go_wp2
 all_goals (refine vZ (wT rfl rfl z0 z1 z2) rfl ?_;exact⟨rfl,H.out⟩)
theorem jb (h:DS c pk w s bl o om wv bv)(x:Ins)(va vt vl vk:Value)(hBm:c.Bm<w.heap.size)(hf:VFn c.f)(hi:Rn.Inv c.f s)(ho:x.op=27)(A B:Rn.V)(ka kb:Int)(hl:VsAt w vl [A,B])(hk:IntsAt w.heap.size w vk [ka,kb])(hA:Rn.VOK c.f 33 A)(n:Nat)(hn1:1<=n)(hn:n<=4)(hB:0<=B.n/\B.n<4294967296)(hx:kb=8*(n:Int))(m:List (List Int))(hm:Rn.store s.mem A B n=some m) :
  fk c pk w bl o om wv bv x va vt vl vk {s with mem:=m} (some Rn.zero):=by
 obtain⟨W,hW,p,HL,Q⟩:=dI h x va vt;have d:=dJ p.out.gr;obtain⟨l,q⟩:=mH h p hBm;obtain⟨b,cl,rfl,ad,j,⟨I,J,K⟩,L,M,N⟩:=hl.two;have T:=gc d.out j I;have U:=gc d.out j J;have X:=gc d.out j K;have Y:=gc d.out j L;have Z:=gc d.out j M;have L5:=gc d.out j N;obtain⟨bk,ok,ck,rfl,ac,t,F,G⟩:=eT hk;have R:=gc d.out t F;have S:=gc d.out t G;have CS:=dJ fun(u:GrW W)=>jk (h.gr (d.out.trans u.gr)) hf hi A B hA n hn1 hn hB kb hx;rw[hm]at CS;obtain⟨ap,aa,an⟩:=A;obtain⟨bp,ab,bn⟩:=B;clear h hBm hm hf hi hl hk hA hB hn1 hn hx I J K L M N F G R;unfold fk df;dsimp only[vv,lz]at CS;obtain⟨op,wd,fl,args,im,tt⟩:=x;dsimp only at *;subst ho;obtain⟨ae,af,ag,ah,ai,aj,av,aw,ax,ay,az,aA⟩:=Q.out W (wL W);have ak:W.cell? _=_:=S ⟨W,wL W⟩;have al:W.cell? _=_:=T ⟨W,wL W⟩;have am:W.cell? _=_:=U ⟨W,wL W⟩;have ao:W.cell? _=_:=X ⟨W,wL W⟩;have aq:W.cell? _=_:=Y ⟨W,wL W⟩;have ar:W.cell? _=_:=Z ⟨W,wL W⟩;have au:W.cell? _=_:=L5 ⟨W,wL W⟩
 go_enter func128, ntmps128
 go_wp2
 go_region_with (go_at_call 155;(with_reducible refine(CS.out ⟨W.drew,(wL W).drew⟩).mono ?_);rintro e C ⟨rfl,H,r⟩;replace r:FrS (DO c wv bv) W C:=(FrS.of_gr (wL W).drew).trans (r.mono fun k hk=>.inl hk);have E:∀k,DO c wv bv k->DO c wv bv k\/W.heap.size<=k:=fun k hk=>.inl hk;have y:=q.out C r;have D:=dJ (l.out C _ wv bv Rn.zero H r E);obtain⟨e0,e1,e2,z3,z4,z5,W9,z,g,z0,O,P⟩:=pA y Rn.zero;rw[g]at D;dsimp only[Rn.word,Rn.zero,Rn.poison]at z z0 O P;clear y H r E g)
 all_goals go_wp2
 all_goals (refine vZ (wT rfl rfl z0 O P) rfl ?_;exact⟨rfl,D.out⟩)
theorem lN (h:DS c pk w s bl o om wv bv)(x:Ins)(va vt vl vk:Value)(n0:¬x.op=0)(n22:¬x.op=22)(n23:¬x.op=23)(n24:¬x.op=24)(n21:¬x.op=21)(n15:¬x.op=15)(n26:¬x.op=26)(n27:¬x.op=27)(A B:Rn.V)(hl:VsAt w vl [A,B])(hd:4<=x.op/\x.op<=7->Wd.Wid x.width/\Wd.Word x.width A.n/\Wd.Word x.width B.n)(hbk:iX x.op x.width A B=true) :
  fk c pk w bl o om wv bv x va vt vl vk s none:=by
 obtain⟨W,hW,j,F,p⟩:=dI h x va vt;have d:=dJ j.out.gr;obtain⟨X0,X1,X2,X3,X4,X5⟩:=yf p.out;obtain⟨b,cl,rfl,P,g,⟨r,t,y⟩,z,C,D⟩:=hl.two;have G:=gc d.out g r;have H:=gc d.out g t;have I:=gc d.out g y;have J:=gc d.out g z;have K:=gc d.out g C;have L:=gc d.out g D;have m:=dJ fun(u:GrW W)=>eZ x va vt A B u.val hd;rw[hbk]at m;obtain⟨ap,M,an⟩:=A;obtain⟨bp,N,bn⟩:=B;clear h hd hbk hl r t y z C D;unfold fk df;unfold df vv at m;obtain⟨op,wd,fl,args,im,tt⟩:=x;dsimp only at *;obtain⟨Q,R,S,T,U,X,ae,af,ag,ah,ai,aj⟩:=p.out W (wL W);have Y:W.cell? _=_:=G ⟨W,wL W⟩;have Z:W.cell? _=_:=H ⟨W,wL W⟩;have aa:W.cell? _=_:=I ⟨W,wL W⟩;have ab:W.cell? _=_:=J ⟨W,wL W⟩;have ac:W.cell? _=_:=K ⟨W,wL W⟩;have ad:W.cell? _=_:=L ⟨W,wL W⟩
 go_enter func128, ntmps128
 go_wp2;refine dh (W:=W) (wL W) (by kernel_rfl) (by kernel_rfl) ?_;repeat (go_big_quiet_step ((rename_i u;go_at_call 156;exact di u (m.out u))))
 refine wpQuiet_nil ?_;intro w9 q;obtain⟨l,rfl⟩:=q;have G8:=dJ l.gr;obtain⟨y0,y1,y2,y3,y4,y5,-⟩:=p.out l.val l.gr;obtain⟨W9,O,z0,z1,z2,E⟩:=eG j F l.gr false 0 0;go_wp2;refine vZ (wT rfl rfl z0 z1 z2) rfl ?_;exact⟨rfl,E.out⟩
theorem kC (h:DS c pk w s bl o om wv bv)(x:Ins)(va vt vl vk:Value)(n0:¬x.op=0)(n22:¬x.op=22)(n23:¬x.op=23)(n24:¬x.op=24)(n21:¬x.op=21)(n15:¬x.op=15)(n26:¬x.op=26)(n27:¬x.op=27)(A B:Rn.V)(hl:VsAt w vl [A,B])(hd:4<=x.op/\x.op<=7->Wd.Wid x.width/\Wd.Word x.width A.n/\Wd.Word x.width B.n)(hbk:iX x.op x.width A B=false)(hA:A.p=true) :
  fk c pk w bl o om wv bv x va vt vl vk s (some Rn.poison):=by
 obtain⟨W,hW,l,HL,E⟩:=dI h x va vt;have d:=dJ l.out.gr;obtain⟨X0,X1,X2,X3,X4,X5⟩:=yf E.out;obtain⟨b,cl,rfl,ad,j,⟨S,T,U⟩,X,Y,Z⟩:=hl.two;have Q:=gc d.out j S;have L1:=gc d.out j T;have L2:=gc d.out j U;have R:=gc d.out j X;have L4:=gc d.out j Y;have L5:=gc d.out j Z;have G:=dJ fun(u:GrW W)=>eZ x va vt A B u.val hd;rw[hbk]at G;obtain⟨ap,aa,an⟩:=A;obtain⟨bp,ab,bn⟩:=B;clear h hd hbk hl S T U X Y Z;unfold fk df;unfold df vv at G;obtain⟨op,wd,fl,args,im,tt⟩:=x;dsimp only at *;subst hA;obtain⟨J,K,L,M,N,O,r,t,y,z,C,D⟩:=E.out W (wL W);have m:W.cell? _=_:=Q ⟨W,wL W⟩;have ae:W.cell? _=_:=L1 ⟨W,wL W⟩;have af:W.cell? _=_:=L2 ⟨W,wL W⟩;have q:W.cell? _=_:=R ⟨W,wL W⟩;have ag:W.cell? _=_:=L4 ⟨W,wL W⟩;have ah:W.cell? _=_:=L5 ⟨W,wL W⟩
 go_enter func128, ntmps128
 go_wp2;refine dh (W:=W) (wL W) (by kernel_rfl) (by kernel_rfl) ?_;repeat (go_big_quiet_step ((rename_i u;go_at_call 156;exact di u (G.out u))))
 refine wpQuiet_nil ?_;intro w9 I;obtain⟨u9,rfl⟩:=I;have G8:=dJ u9.gr;go_wp2
 go_loopw [10] (fun g wr=>∃k:Nat,g=.int .i64 (k:Int)/\k<=0/\Hid (Gr W wr)) (fun g _=>(2-intOf g).toNat)
 case atStart=>exact⟨0,rfl,by omega,G8⟩
 case round =>
  obtain⟨k,rfl,H,F⟩:=hrel;clear m q r t y z C D J K L M N O;have m:wr.cell? _=_:=Q ⟨wr,F.out⟩;have q:wr.cell? _=_:=R ⟨wr,F.out⟩;obtain⟨-,-,-,-,-,-,r,t,y,z,C,D⟩:=E.out wr F.out;by_cases e0:k=0
  ·subst e0;clear H;go_wp2_with (go_at_call 152;refine(dQ _).mono ?_;rintro e w7 ⟨rfl,g7⟩;have P:=dJ (Gr.trans F.out g7);obtain⟨y0,y1,y2,y3,y4,y5,-⟩:=E.out w7 P.out;obtain⟨W9,ac,z0,z1,z2,HE⟩:=eG l HL P.out true 0 0);refine vZ (wT rfl rfl z0 z1 z2) rfl ?_;exact⟨rfl,HE.out⟩
  ·exfalso;omega
theorem kD (h:DS c pk w s bl o om wv bv)(x:Ins)(va vt vl vk:Value)(n0:¬x.op=0)(n22:¬x.op=22)(n23:¬x.op=23)(n24:¬x.op=24)(n21:¬x.op=21)(n15:¬x.op=15)(n26:¬x.op=26)(n27:¬x.op=27)(A B:Rn.V)(hl:VsAt w vl [A,B])(hd:4<=x.op/\x.op<=7->Wd.Wid x.width/\Wd.Word x.width A.n/\Wd.Word x.width B.n)(hbk:iX x.op x.width A B=false)(hA:A.p=false)(hB:B.p=true) :
  fk c pk w bl o om wv bv x va vt vl vk s (some Rn.poison):=by
 obtain⟨W,hW,l,HL,G⟩:=dI h x va vt;have d:=dJ l.out.gr;obtain⟨X0,X1,X2,X3,X4,X5⟩:=yf G.out;obtain⟨b,cl,rfl,ad,j,⟨T,U,X⟩,Y,Z,q5⟩:=hl.two;have Q:=gc d.out j T;have L1:=gc d.out j U;have L2:=gc d.out j X;have R:=gc d.out j Y;have L4:=gc d.out j Z;have L5:=gc d.out j q5;have H:=dJ fun(u:GrW W)=>eZ x va vt A B u.val hd;rw[hbk]at H;obtain⟨ap,aa,an⟩:=A;obtain⟨bp,ab,bn⟩:=B;clear h hd hbk hl T U X Y Z q5;unfold fk df;unfold df vv at H;obtain⟨op,wd,fl,args,im,tt⟩:=x;dsimp only at *;subst hA;subst hB;obtain⟨J,K,L,M,N,O,y,z,C,D,E,F⟩:=G.out W (wL W);have r:W.cell? _=_:=Q ⟨W,wL W⟩;have ae:W.cell? _=_:=L1 ⟨W,wL W⟩;have af:W.cell? _=_:=L2 ⟨W,wL W⟩;have t:W.cell? _=_:=R ⟨W,wL W⟩;have ag:W.cell? _=_:=L4 ⟨W,wL W⟩;have ah:W.cell? _=_:=L5 ⟨W,wL W⟩
 go_enter func128, ntmps128
 go_wp2;refine dh (W:=W) (wL W) (by kernel_rfl) (by kernel_rfl) ?_;repeat (go_big_quiet_step ((rename_i u;go_at_call 156;exact di u (H.out u))))
 refine wpQuiet_nil ?_;intro w9 I;obtain⟨u9,rfl⟩:=I;have G8:=dJ u9.gr;go_wp2
 go_loopw [10] (fun g wr=>∃k:Nat,g=.int .i64 (k:Int)/\k<=1/\Hid (Gr W wr)) (fun g _=>(2-intOf g).toNat)
 case atStart=>exact⟨0,rfl,by omega,G8⟩
 case round =>
  obtain⟨k,rfl,q,m⟩:=hrel;clear r t y z C D E F J K L M N O;have r:wr.cell? _=_:=Q ⟨wr,m.out⟩;have t:wr.cell? _=_:=R ⟨wr,m.out⟩;obtain⟨-,-,-,-,-,-,y,z,C,D,E,F⟩:=G.out wr m.out;by_cases S:k=0
  ·subst S;clear q;go_wp2;exact⟨⟨1,rfl,by omega,m⟩,by simp[intOf]⟩
  by_cases e1:k=1
  ·subst e1;clear q S;go_wp2_with (go_at_call 152;refine(dQ _).mono ?_;rintro e w7 ⟨rfl,g7⟩;have P:=dJ (Gr.trans m.out g7);obtain⟨y0,y1,y2,y3,y4,y5,-⟩:=G.out w7 P.out;obtain⟨W9,ac,z0,z1,z2,HE⟩:=eG l HL P.out true 0 0);refine vZ (wT rfl rfl z0 z1 z2) rfl ?_;exact⟨rfl,HE.out⟩
  ·exfalso;omega
theorem kE (h:DS c pk w s bl o om wv bv)(x:Ins)(va vt vl vk:Value)(n0:¬x.op=0)(n22:¬x.op=22)(n23:¬x.op=23)(n24:¬x.op=24)(n21:¬x.op=21)(n15:¬x.op=15)(n26:¬x.op=26)(n27:¬x.op=27)(A B:Rn.V)(hl:VsAt w vl [A,B])(hd:4<=x.op/\x.op<=7->Wd.Wid x.width/\Wd.Word x.width A.n/\Wd.Word x.width B.n)(hbk:iX x.op x.width A B=false)(hA:A.p=false)(hB:B.p=false)(v:Rn.V)(hs:∀w',Gr w w'->Calls prog 157 #[.pointer (some ⟨c.Bs,0,none⟩),df x va vt,vl,vk] w' (RG (vv v) w')) :
  fk c pk w bl o om wv bv x va vt vl vk s (some v):=by
 obtain⟨W,hW,q,HL,G⟩:=dI h x va vt;have d:=dJ q.out.gr;obtain⟨X0,X1,X2,X3,X4,X5⟩:=yf G.out;obtain⟨b,cl,rfl,ad,m,⟨X,Y,Z⟩,q3,q4,q5⟩:=hl.two;have S:=gc d.out m X;have L1:=gc d.out m Y;have L2:=gc d.out m Z;have T:=gc d.out m q3;have L4:=gc d.out m q4;have L5:=gc d.out m q5;have H:=dJ fun(u:GrW W)=>eZ x va vt A B u.val hd;rw[hbk]at H;obtain⟨ap,aa,an⟩:=A;obtain⟨bp,ab,bn⟩:=B;obtain⟨vp,vs,vn⟩:=v;have CS:=dJ hs;clear h hd hbk hl X Y Z q3 q4 q5 hs;unfold fk df;unfold df vv at H;unfold df vv at CS;obtain⟨op,wd,fl,args,im,tt⟩:=x;dsimp only at *;subst hA;subst hB;obtain⟨K,L,M,N,O,Q,y,z,C,D,E,F⟩:=G.out W (wL W);have r:W.cell? _=_:=S ⟨W,wL W⟩;have ae:W.cell? _=_:=L1 ⟨W,wL W⟩;have af:W.cell? _=_:=L2 ⟨W,wL W⟩;have t:W.cell? _=_:=T ⟨W,wL W⟩;have ag:W.cell? _=_:=L4 ⟨W,wL W⟩;have ah:W.cell? _=_:=L5 ⟨W,wL W⟩
 go_enter func128, ntmps128
 go_wp2;refine dh (W:=W) (wL W) (by kernel_rfl) (by kernel_rfl) ?_;repeat (go_big_quiet_step ((rename_i u;go_at_call 156;exact di u (H.out u))))
 refine wpQuiet_nil ?_;intro w9 J;obtain⟨u9,rfl⟩:=J;have G8:=dJ u9.gr;go_wp2
 go_loopw [10] (fun l wr=>∃k:Nat,l=.int .i64 (k:Int)/\k<=2/\Hid (Gr W wr)) (fun l _=>(2-intOf l).toNat)
 case atStart=>exact⟨0,rfl,by omega,G8⟩
 case round =>
  obtain⟨k,rfl,j,g⟩:=hrel;clear r t y z C D E F K L M N O Q;have r:wr.cell? _=_:=S ⟨wr,g.out⟩;have t:wr.cell? _=_:=T ⟨wr,g.out⟩;obtain⟨-,-,-,-,-,-,y,z,C,D,E,F⟩:=G.out wr g.out;by_cases I:k=0
  ·subst I;clear j;go_wp2;exact⟨⟨1,rfl,by omega,g⟩,by simp[intOf]⟩
  by_cases U:k=1
  ·subst U;clear j I;go_wp2;exact⟨⟨2,rfl,by omega,g⟩,by simp[intOf]⟩
  by_cases e2:k=2
  ·subst e2;clear j I U;go_wp2_with (go_at_call 157;refine(CS.out _ (d.out.trans g.out)).mono ?_;rintro e w7 ⟨rfl,g7⟩;have R:=dJ (Gr.trans g.out g7);obtain⟨y0,y1,y2,y3,y4,y5,-⟩:=G.out w7 R.out;obtain⟨W9,ac,z0,z1,z2,HE⟩:=eG q HL R.out vp vs vn);refine vZ (wT rfl rfl z0 z1 z2) rfl ?_;exact⟨rfl,HE.out⟩
  ·exfalso;omega
theorem kA (h:DS c pk w s bl o om wv bv)(x:Ins)(va vt vl vk:Value)(n0:¬x.op=0)(n22:¬x.op=22)(n23:¬x.op=23)(n24:¬x.op=24)(n21:¬x.op=21)(n15:¬x.op=15)(n26:¬x.op=26)(n27:¬x.op=27)(A:Rn.V)(hl:VsAt w vl [A])(hA:A.p=true) :
  fk c pk w bl o om wv bv x va vt vl vk s (some Rn.poison):=by
 obtain⟨W,hW,j,S,z⟩:=dI h x va vt;have d:=dJ j.out.gr;obtain⟨X0,X1,X2,X3,X4,X5⟩:=yf z.out;obtain⟨b,cl,rfl,ab,B,N,O,P⟩:=hl.one;have M:=gc d.out B N;have T:=gc d.out B O;have U:=gc d.out B P;obtain⟨ap,X,an⟩:=A;clear h hl N O P;unfold fk df;obtain⟨op,wd,fl,args,im,tt⟩:=x;dsimp only at *;subst hA;obtain⟨F,G,H,I,J,K,m,q,r,t,u,y⟩:=z.out W (wL W);have l:W.cell? _=_:=M ⟨W,wL W⟩;have ac:W.cell? _=_:=T ⟨W,wL W⟩;have ad:W.cell? _=_:=U ⟨W,wL W⟩
 go_enter func128, ntmps128
 go_wp2;refine dh (W:=W) (wL W) (by kernel_rfl) (by kernel_rfl) ?_;repeat (go_big_quiet_step (fail))
 refine wpQuiet_nil ?_;intro w9 E;obtain⟨u9,rfl⟩:=E;have Q:=dJ u9.gr;go_wp2
 go_loopw [10] (fun g wr=>∃k:Nat,g=.int .i64 (k:Int)/\k<=0/\Hid (Gr W wr)) (fun g _=>(1-intOf g).toNat)
 case atStart=>exact⟨0,rfl,by omega,Q⟩
 case round =>
  obtain⟨k,rfl,D,C⟩:=hrel;clear l m q r t u y F G H I J K;have l:wr.cell? _=_:=M ⟨wr,C.out⟩;obtain⟨-,-,-,-,-,-,m,q,r,t,u,y⟩:=z.out wr C.out;by_cases Y:k=0
  ·subst Y;clear D;go_wp2_with (go_at_call 152;refine(dQ _).mono ?_;rintro e w7 ⟨rfl,Z⟩;have L:=dJ (Gr.trans C.out Z);obtain⟨y0,y1,y2,y3,y4,y5,-⟩:=z.out w7 L.out;obtain⟨W9,aa,z0,z1,z2,R⟩:=eG j S L.out true 0 0);refine vZ (wT rfl rfl z0 z1 z2) rfl ?_;exact⟨rfl,R.out⟩
  ·exfalso;omega
theorem kB (h:DS c pk w s bl o om wv bv)(x:Ins)(va vt vl vk:Value)(n0:¬x.op=0)(n22:¬x.op=22)(n23:¬x.op=23)(n24:¬x.op=24)(n21:¬x.op=21)(n15:¬x.op=15)(n26:¬x.op=26)(n27:¬x.op=27)(A:Rn.V)(hl:VsAt w vl [A])(hA:A.p=false)(v:Rn.V)(hs:∀w',Gr w w'->Calls prog 157 #[.pointer (some ⟨c.Bs,0,none⟩),df x va vt,vl,vk] w' (RG (vv v) w')) :
  fk c pk w bl o om wv bv x va vt vl vk s (some v):=by
 obtain⟨W,hW,j,U,C⟩:=dI h x va vt;have d:=dJ j.out.gr;obtain⟨X0,X1,X2,X3,X4,X5⟩:=yf C.out;obtain⟨b,cl,rfl,ab,D,O,Q,R⟩:=hl.one;have M:=gc d.out D O;have X:=gc d.out D Q;have Y:=gc d.out D R;obtain⟨ap,Z,an⟩:=A;obtain⟨vp,vs,vn⟩:=v;have CS:=dJ hs;clear h hl O Q R hs;unfold fk df;unfold df vv at CS;obtain⟨op,wd,fl,args,im,tt⟩:=x;dsimp only at *;subst hA;obtain⟨F,G,H,I,J,K,r,t,u,y,z,B⟩:=C.out W (wL W);have q:W.cell? _=_:=M ⟨W,wL W⟩;have ac:W.cell? _=_:=X ⟨W,wL W⟩;have ad:W.cell? _=_:=Y ⟨W,wL W⟩
 go_enter func128, ntmps128
 go_wp2;refine dh (W:=W) (wL W) (by kernel_rfl) (by kernel_rfl) ?_;repeat (go_big_quiet_step (fail))
 refine wpQuiet_nil ?_;intro w9 E;obtain⟨u9,rfl⟩:=E;have S:=dJ u9.gr;go_wp2
 go_loopw [10] (fun g wr=>∃k:Nat,g=.int .i64 (k:Int)/\k<=1/\Hid (Gr W wr)) (fun g _=>(1-intOf g).toNat)
 case atStart=>exact⟨0,rfl,by omega,S⟩
 case round =>
  obtain⟨k,rfl,m,l⟩:=hrel;clear q r t u y z B F G H I J K;have q:wr.cell? _=_:=M ⟨wr,l.out⟩;obtain⟨-,-,-,-,-,-,r,t,u,y,z,B⟩:=C.out wr l.out;by_cases N:k=0
  ·subst N;clear m;go_wp2;exact⟨⟨1,rfl,by omega,l⟩,by simp[intOf]⟩
  by_cases e1:k=1
  ·subst e1;clear m N;go_wp2_with (go_at_call 157;refine(CS.out _ (d.out.trans l.out)).mono ?_;rintro e w7 ⟨rfl,g7⟩;have L:=dJ (Gr.trans l.out g7);obtain⟨y0,y1,y2,y3,y4,y5,-⟩:=C.out w7 L.out;obtain⟨W9,aa,z0,z1,z2,T⟩:=eG j U L.out vp vs vn);refine vZ (wT rfl rfl z0 z1 z2) rfl ?_;exact⟨rfl,T.out⟩
  ·exfalso;omega
end
end
