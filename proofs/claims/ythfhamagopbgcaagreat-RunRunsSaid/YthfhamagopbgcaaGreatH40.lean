/- Parts: Ei Ta Rr Ej Ek. -/
import Derived.Test.YthfhamagopbgcaaGreatH39
set_option linter.unusedSimpArgs false
set_option linter.unusedVariables false
set_option maxRecDepth 100000
set_option maxHeartbeats 16000000
open Go.Proofs.Tryz
namespace Go.Proofs.YthfhamagopbgcaaGreat
section
open Go.RowKit
def ef:Value:=.slice none 0 0
def pV (c:Cfg)(o:Rn.Out):Value:=if o.kind=0 then c.mv else ef
theorem jJ {c:Cfg}{pk bl:List Int}{w:World}{s:Rn.St}{o:Rn.Out}{om wv bv:Value}(h:DS c pk w s bl o om wv bv)(k:Int)(r:Rn.V)(hk:¬k=0) :
  Calls prog 129 #[.pointer (some ⟨c.Bs,0,none⟩),.int .i64 k,vv r] w fun e w'=>e=.returned (.tuple #[])/\DS c pk w' s bl ⟨k,Rn.zero,[]⟩ ef wv bv/\FrS (·=c.Bs) w w':=by
 obtain⟨W,l⟩:=xJ (w.alloc (.cells #[.bool r.p,.int .i64 r.s,.int .u32 r.n] 37));have d:Gr w W:=by rw[<-l];exact(wL w).alloc _
 have hh:=h.gr d;have I:W.cell? ⟨w.heap.size,0,none⟩=some (.bool r.p):=nx _ _ 0 (by rw[l];exact wL W) rfl;have J:W.cell? ⟨w.heap.size,1,none⟩=some (.int .i64 r.s):=nx _ _ 1 (by rw[l];exact wL W) rfl;have K:W.cell? ⟨w.heap.size,2,none⟩=some (.int .u32 r.n):=nx _ _ 2 (by rw[l];exact wL W) rfl;have H:c.Bs≠w.heap.size:=by have:=cY h.st;omega
 have A:W.cell? ⟨c.Bs,4,none⟩=some (.slice c.Am c.us.length c.cm):=hh.cell 4;have B:W.cell? ⟨c.Bs,6,none⟩=some (.int .i64 o.kind):=hh.cell 6;have C:W.cell? ⟨c.Bs,7,none⟩=some (.bool o.ret.p):=hh.cell 7;have D:W.cell? ⟨c.Bs,8,none⟩=some (.int .i64 o.ret.s):=hh.cell 8;have E:W.cell? ⟨c.Bs,9,none⟩=some (.int .u32 o.ret.n):=hh.cell 9;have u:W.cell? ⟨c.Bs,10,none⟩=some om:=hh.cell 10;obtain⟨f6,F,f8,G,y⟩:=frw5 hh.st 6 7 8 9 10;obtain⟨z,m⟩:=xJ ((((((W.setCell ⟨c.Bs,6,none⟩ (.int .i64 k)).setCell ⟨c.Bs,7,none⟩ (.bool false)).setCell ⟨c.Bs,8,none⟩ (.int .i64 0)).setCell ⟨c.Bs,9,none⟩ (.int .u32 0)).setCell ⟨c.Bs,10,none⟩ (.slice none 0 0)));have g:=(cX (i:=10) (.slice none 0 0) (cX (i:=9) (.int .u32 0) (cX (i:=8) (.int .i64 0) (cX (i:=7) (.bool false) (cX (i:=6) (.int .i64 k) hh.st)))));have j:=((((((FrS.refl (fun k=>k=c.Bs) W).setCell (p:=⟨c.Bs,6,none⟩) rfl (.int .i64 k)).setCell (p:=⟨c.Bs,7,none⟩) rfl (.bool false)).setCell (p:=⟨c.Bs,8,none⟩) rfl (.int .i64 0)).setCell (p:=⟨c.Bs,9,none⟩) rfl (.int .u32 0)).setCell (p:=⟨c.Bs,10,none⟩) rfl (.slice none 0 0));rw[m] at g j;have q:=hh.row (k:=s.steps) (o':=⟨k,Rn.zero,[]⟩) (om':=ef) j g;have t:=dJ (And.intro q ((FrS.of_gr (S:=(·=c.Bs)) d).trans j));clear q;clear g j h hh d;unfold vv
 go_enter func129, ntmps129
 go_wp2
 go_end0
 exact⟨rfl,t.out⟩
theorem kt {c:Cfg}{pk bl:List Int}{w:World}{s:Rn.St}{o:Rn.Out}{om wv bv:Value}(h:DS c pk w s bl o om wv bv)(r:Rn.V) :
  Calls prog 129 #[.pointer (some ⟨c.Bs,0,none⟩),.int .i64 0,vv r] w fun e w'=>e=.returned (.tuple #[])/\DS c pk w' s bl ⟨0,r,s.mem⟩ c.mv wv bv/\FrS (·=c.Bs) w w':=by
 obtain⟨W,u⟩:=xJ (w.alloc (.cells #[.bool r.p,.int .i64 r.s,.int .u32 r.n] 37));have m:Gr w W:=by rw[<-u];exact(wL w).alloc _
 have hh:=h.gr m;have J:W.cell? ⟨w.heap.size,0,none⟩=some (.bool r.p):=nx _ _ 0 (by rw[u];exact wL W) rfl;have K:W.cell? ⟨w.heap.size,1,none⟩=some (.int .i64 r.s):=nx _ _ 1 (by rw[u];exact wL W) rfl;have L:W.cell? ⟨w.heap.size,2,none⟩=some (.int .u32 r.n):=nx _ _ 2 (by rw[u];exact wL W) rfl;have B:c.Bs≠w.heap.size:=by have:=cY h.st;omega
 have M:W.cell? ⟨c.Bs,4,none⟩=some (.slice c.Am c.us.length c.cm):=hh.cell 4;have N:W.cell? ⟨c.Bs,6,none⟩=some (.int .i64 o.kind):=hh.cell 6;have O:W.cell? ⟨c.Bs,7,none⟩=some (.bool o.ret.p):=hh.cell 7;have Q:W.cell? ⟨c.Bs,8,none⟩=some (.int .i64 o.ret.s):=hh.cell 8;have R:W.cell? ⟨c.Bs,9,none⟩=some (.int .u32 o.ret.n):=hh.cell 9;have F:W.cell? ⟨c.Bs,10,none⟩=some om:=hh.cell 10;obtain⟨f6,f7,f8,f9,I⟩:=frw5 hh.st 6 7 8 9 10;obtain⟨g,z⟩:=xJ ((((((W.setCell ⟨c.Bs,6,none⟩ (.int .i64 0)).setCell ⟨c.Bs,7,none⟩ (.bool false)).setCell ⟨c.Bs,8,none⟩ (.int .i64 0)).setCell ⟨c.Bs,9,none⟩ (.int .u32 0)).setCell ⟨c.Bs,10,none⟩ (.slice none 0 0)));have y:=(cX (i:=10) (.slice none 0 0) (cX (i:=9) (.int .u32 0) (cX (i:=8) (.int .i64 0) (cX (i:=7) (.bool false) (cX (i:=6) (.int .i64 0) hh.st)))));have t:=((((((FrS.refl (fun k=>k=c.Bs) W).setCell (p:=⟨c.Bs,6,none⟩) rfl (.int .i64 0)).setCell (p:=⟨c.Bs,7,none⟩) rfl (.bool false)).setCell (p:=⟨c.Bs,8,none⟩) rfl (.int .i64 0)).setCell (p:=⟨c.Bs,9,none⟩) rfl (.int .u32 0)).setCell (p:=⟨c.Bs,10,none⟩) rfl (.slice none 0 0));rw[z] at y t;have j:=hh.row (k:=s.steps) (o':=⟨0,Rn.zero,[]⟩) (om':=ef) t y;obtain⟨E,A⟩:=xJ (((((g.setCell ⟨c.Bs,7,none⟩ (.bool r.p)).setCell ⟨c.Bs,8,none⟩ (.int .i64 r.s)).setCell ⟨c.Bs,9,none⟩ (.int .u32 r.n)).setCell ⟨c.Bs,10,none⟩ (.slice c.Am c.us.length c.cm)));have d:=(cX (i:=10) (.slice c.Am c.us.length c.cm) (cX (i:=9) (.int .u32 r.n) (cX (i:=8) (.int .i64 r.s) (cX (i:=7) (.bool r.p) j.st))));have l:=(((((FrS.refl (fun k=>k=c.Bs) g).setCell (p:=⟨c.Bs,7,none⟩) rfl (.bool r.p)).setCell (p:=⟨c.Bs,8,none⟩) rfl (.int .i64 r.s)).setCell (p:=⟨c.Bs,9,none⟩) rfl (.int .u32 r.n)).setCell (p:=⟨c.Bs,10,none⟩) rfl (.slice c.Am c.us.length c.cm));rw[A] at d l;have C:DS c pk E s bl ⟨0,r,s.mem⟩ c.mv wv bv:=j.row (k:=s.steps) (o':=⟨0,r,s.mem⟩) (om':=c.mv) l d;have D:=dJ (And.intro C ((FrS.of_gr (S:=(·=c.Bs)) m).trans (t.trans l)));have d4:g.cell? ⟨c.Bs,4,none⟩=some (.slice c.Am c.us.length c.cm):=j.cell 4;have T:g.cell? ⟨c.Bs,7,none⟩=some (.bool false):=j.cell 7;have U:g.cell? ⟨c.Bs,8,none⟩=some (.int .i64 0):=j.cell 8;have X:g.cell? ⟨c.Bs,9,none⟩=some (.int .u32 0):=j.cell 9;have G:g.cell? ⟨c.Bs,10,none⟩=some (.slice none 0 0):=j.cell 10;obtain⟨Y,Z,e9,H⟩:=frw4 j.st 7 8 9 10;have w0:g.cell? ⟨w.heap.size,0,none⟩=some (.bool r.p):=(wA (a:=⟨w.heap.size,0,none⟩) (t.block _ (by rw[<-u];simp) (fun q=>B q.symm))).trans J;have w1:g.cell? ⟨w.heap.size,1,none⟩=some (.int .i64 r.s):=(wA (a:=⟨w.heap.size,1,none⟩) (t.block _ (by rw[<-u];simp) (fun q=>B q.symm))).trans K;have w2:g.cell? ⟨w.heap.size,2,none⟩=some (.int .u32 r.n):=(wA (a:=⟨w.heap.size,2,none⟩) (t.block _ (by rw[<-u];simp) (fun q=>B q.symm))).trans L;clear d l C;clear j;clear y t h hh m;unfold vv
 go_enter func129, ntmps129
 go_wp2
 go_end0
 exact⟨rfl,D.out⟩
theorem jl {c:Cfg}{pk bl:List Int}{w:World}{s:Rn.St}{o:Rn.Out}{om wv bv:Value}(h:DS c pk w s bl o om wv bv)(hs:s.steps=400) :
  Calls prog 125 #[.pointer (some ⟨c.Bs,0,none⟩)] w fun e w'=>e=.returned (.bool false)/\DS c pk w' s bl Rn.long ef wv bv/\FrS (·=c.Bs) w w':=by
 have d:w.cell? ⟨c.Bs,13,none⟩=some (.int .i64 ((s.steps:Nat):Int)):=h.cell 13;rw[hs] at d;have g:=dJ (jJ h 2 Rn.zero (by decide));clear h hs;unfold vv Rn.zero at g
 go_enter func125, ntmps125
 go_wp2_with (go_at_call 129;refine g.out.mono ?_;rintro e q ⟨rfl,l,j⟩;have p:=dJ l;have m:=dJ j;clear l j);go_ret;exact⟨rfl,p.out,m.out⟩
theorem mG {c:Cfg}{pk bl:List Int}{w:World}{s:Rn.St}{o:Rn.Out}{om wv bv:Value}(h:DS c pk w s bl o om wv bv)(hs:s.steps<400) :
  Calls prog 125 #[.pointer (some ⟨c.Bs,0,none⟩)] w fun e w'=>e=.returned (.bool true)/\DS c pk w' s.tick bl o om wv bv/\FrS (·=c.Bs) w w':=by
 have m:w.cell? ⟨c.Bs,13,none⟩=some (.int .i64 ((s.steps:Nat):Int)):=h.cell 13;have q:=vY _ _ 13 _ _ h.st;obtain⟨t,j⟩:=xJ (w.setCell ⟨c.Bs,13,none⟩ (.int .i64 ((s.steps:Int)+1)));have d:=cX (i:=13) (.int .i64 ((s.steps:Int)+1)) h.st;have g:=(FrS.refl (fun k=>k=c.Bs) w).setCell (p:=⟨c.Bs,13,none⟩) rfl (.int .i64 ((s.steps:Int)+1));rw[j] at d g;have l:=dJ (And.intro (h.row (k:=s.steps+1) (o':=o) (om':=om) g d) g);have r:¬((s.steps:Nat):Int)=400:=by omega
 have u:(0:Int)<=((s.steps:Nat):Int):=by omega
 have y:((s.steps:Nat):Int)<400:=by omega
 generalize ((s.steps:Nat):Int)=K at *;clear h d g hs
 go_enter func125, ntmps125
 go_wp2;go_ret;exact⟨rfl,l.out⟩
theorem nB {c:Cfg}{pk bl:List Int}{w:World}{s:Rn.St}{o:Rn.Out}{om wv bv:Value}(h:DS c pk w s bl o om wv bv)(x:Ins)(va vt vl:Value)(t:Int)(ho:x.op=29)(ht:IntsAt w.heap.size w vt [t]) :
  Calls prog 127 #[.pointer (some ⟨c.Bs,0,none⟩),df x va vt,vl] w fun e w'=>e=.returned (.int .i64 t)/\Gr w w':=by
 obtain⟨W,d⟩:=xJ (dY w x va vt);have z:Gr w W:=by rw[<-d];exact(wL w).alloc _
 have p:=dJ z;have X:=fun(u:GrW W)=>dk (w:=w) (x:=x) (va:=va) (vt:=vt) (w':=u.val) (by rw[d];exact u.gr);have r:=fun u=>(X u).1;have y:=fun u=>(X u).2.2.2.2.2;have l:=r ⟨W,wL W⟩;have m:=y ⟨W,wL W⟩;dsimp only at l m;obtain⟨C,ok,D,rfl,B,g,A⟩:=mM ht;have q:=fun(u:GrW W)=>((p.out.trans u.gr).cell _ _ g).trans A;have j:=q ⟨W,wL W⟩;dsimp only at j;clear h z X r y q A ht;unfold dY at d;unfold df;obtain⟨op,F,fl,args,im,E⟩:=x;dsimp only at *;subst ho
 go_enter func127, ntmps127
 go_wp2;go_ret;exact⟨rfl,p.out⟩
theorem nD {c:Cfg}{pk bl:List Int}{w:World}{s:Rn.St}{o:Rn.Out}{om wv bv:Value}(h:DS c pk w s bl o om wv bv)(x:Ins)(va vt vl:Value)(ho:x.op=32) :
  Calls prog 127 #[.pointer (some ⟨c.Bs,0,none⟩),df x va vt,vl] w fun e w'=>e=.returned (.int .i64 (-1))/\DS c pk w' s bl Rn.undefd ef wv bv/\FrS (·=c.Bs) w w':=by
 obtain⟨W,d⟩:=xJ (dY w x va vt);have t:Gr w W:=by rw[<-d];exact(wL w).alloc _
 have m:=dJ t;have X:=fun(u:GrW W)=>dk (w:=w) (x:=x) (va:=va) (vt:=vt) (w':=u.val) (by rw[d];exact u.gr);have p:=fun u=>(X u).1;have q:=fun u=>(X u).2.2.2.2.2;have g:=p ⟨W,wL W⟩;have j:=q ⟨W,wL W⟩;dsimp only at g j;have l:=dJ (jJ (h.gr m.out) 1 Rn.zero (by decide));unfold vv Rn.zero at l;clear h t X p q;unfold dY at d;unfold df;obtain⟨op,D,fl,args,im,B⟩:=x;dsimp only at *;subst ho
 go_enter func127, ntmps127
 go_wp2_with (go_at_call 129;refine l.out.mono ?_;rintro e C ⟨rfl,y,r⟩;have A:=dJ y;have z:=dJ ((FrS.of_gr (S:=(·=c.Bs)) m.out).trans r);clear y r);go_ret;exact⟨rfl,A.out,z.out⟩
theorem pt {c:Cfg}{pk bl:List Int}{w:World}{s:Rn.St}{o:Rn.Out}{om wv bv:Value}(h:DS c pk w s bl o om wv bv)(x:Ins)(va vt vl:Value)(t u:Int)(ho:x.op=30)(A:Rn.V)(hA:A.p=true)(hl:VsAt w vl [A]) :
  Calls prog 127 #[.pointer (some ⟨c.Bs,0,none⟩),df x va vt,vl] w fun e w'=>e=.returned (.int .i64 (-1))/\DS c pk w' s bl Rn.undefd ef wv bv/\FrS (·=c.Bs) w w':=by
 obtain⟨W,g⟩:=xJ (dY w x va vt);have H:Gr w W:=by rw[<-g];exact(wL w).alloc _
 have d:=dJ H;have X:=fun(u:GrW W)=>dk (w:=w) (x:=x) (va:=va) (vt:=vt) (w':=u.val) (by rw[g];exact u.gr);have E:=fun u=>(X u).1;have F:=fun u=>(X u).2.2.2.2.2;have r:=E ⟨W,wL W⟩;have y:=F ⟨W,wL W⟩;dsimp only at r y;have z:=dJ (jJ (h.gr d.out) 1 Rn.zero (by decide));unfold vv Rn.zero at z;obtain⟨b,U,rfl,Q,j,J,K,L⟩:=hl.one;have B:=fun(u:GrW W)=>((d.out.trans u.gr).cell _ _ j).trans J;have C:=fun(u:GrW W)=>((d.out.trans u.gr).cell _ _ j).trans K;have D:=fun(u:GrW W)=>((d.out.trans u.gr).cell _ _ j).trans L;have l:=B ⟨W,wL W⟩;have m:=C ⟨W,wL W⟩;have q:=D ⟨W,wL W⟩;dsimp only at l m q;obtain⟨T,O,R⟩:=A;dsimp only at *;subst hA;clear h H X E F B C D J K L hl;unfold dY at g;unfold df;obtain⟨op,wd,fl,args,im,Y⟩:=x;dsimp only at *;subst ho
 go_enter func127, ntmps127
 go_wp2_with (go_at_call 129;refine z.out.mono ?_;rintro e Z ⟨rfl,I,G⟩;have N:=dJ I;have M:=dJ ((FrS.of_gr (S:=(·=c.Bs)) d.out).trans G);clear I G);go_ret;exact⟨rfl,N.out,M.out⟩
theorem pq {c:Cfg}{pk bl:List Int}{w:World}{s:Rn.St}{o:Rn.Out}{om wv bv:Value}(h:DS c pk w s bl o om wv bv)(x:Ins)(va vt vl:Value)(t u:Int)(ho:x.op=30)(ht:IntsAt w.heap.size w vt [t,u])(A:Rn.V)(hA:A.p=false)(hn:A.n=0)(hl:VsAt w vl [A]) :
  Calls prog 127 #[.pointer (some ⟨c.Bs,0,none⟩),df x va vt,vl] w fun e w'=>e=.returned (.int .i64 u)/\Gr w w':=by
 obtain⟨W,j⟩:=xJ (dY w x va vt);have C:Gr w W:=by rw[<-j];exact(wL w).alloc _
 have d:=dJ C;have X:=fun(u:GrW W)=>dk (w:=w) (x:=x) (va:=va) (vt:=vt) (w':=u.val) (by rw[j];exact u.gr);have L:=fun u=>(X u).1;have M:=fun u=>(X u).2.2.2.2.2;have z:=L ⟨W,wL W⟩;have B:=M ⟨W,wL W⟩;dsimp only at z B;obtain⟨Z,ok,ck,rfl,O,g,D,E⟩:=eT ht;have S:=fun(u:GrW W)=>((d.out.trans u.gr).cell _ _ g).trans D;have T:=fun(u:GrW W)=>((d.out.trans u.gr).cell _ _ g).trans E;obtain⟨b,cl,rfl,Q,l,F,G,H⟩:=hl.one;have I:=fun(u:GrW W)=>((d.out.trans u.gr).cell _ _ l).trans F;have J:=fun(u:GrW W)=>((d.out.trans u.gr).cell _ _ l).trans G;have K:=fun(u:GrW W)=>((d.out.trans u.gr).cell _ _ l).trans H;have q:=I ⟨W,wL W⟩;have r:=J ⟨W,wL W⟩;have y:=K ⟨W,wL W⟩;dsimp only at q r y;obtain⟨Y,N,U⟩:=A;dsimp only at *;subst hA;subst hn;clear h C X F G H D E hl ht;unfold dY at j;unfold df;obtain⟨op,wd,fl,args,im,tt⟩:=x;dsimp only at *;subst ho
 go_enter func127, ntmps127
 go_wp2;refine dh (W:=W) (wL W) (by kernel_rfl) (by kernel_rfl) ?_;repeat (go_big_quiet_step (fail))
 refine wpQuiet_nil ?_;intro w9 m;obtain⟨R,rfl⟩:=m;go_wp2;go_ret;exact⟨rfl,d.out.trans R.gr⟩
theorem pr {c:Cfg}{pk bl:List Int}{w:World}{s:Rn.St}{o:Rn.Out}{om wv bv:Value}(h:DS c pk w s bl o om wv bv)(x:Ins)(va vt vl:Value)(t u:Int)(ho:x.op=30)(ht:IntsAt w.heap.size w vt [t,u])(A:Rn.V)(hA:A.p=false)(hn:A.n=1)(hl:VsAt w vl [A]) :
  Calls prog 127 #[.pointer (some ⟨c.Bs,0,none⟩),df x va vt,vl] w fun e w'=>e=.returned (.int .i64 t)/\Gr w w':=by
 obtain⟨W,j⟩:=xJ (dY w x va vt);have C:Gr w W:=by rw[<-j];exact(wL w).alloc _
 have d:=dJ C;have X:=fun(u:GrW W)=>dk (w:=w) (x:=x) (va:=va) (vt:=vt) (w':=u.val) (by rw[j];exact u.gr);have L:=fun u=>(X u).1;have M:=fun u=>(X u).2.2.2.2.2;have z:=L ⟨W,wL W⟩;have B:=M ⟨W,wL W⟩;dsimp only at z B;obtain⟨Z,ok,ck,rfl,O,g,D,E⟩:=eT ht;have S:=fun(u:GrW W)=>((d.out.trans u.gr).cell _ _ g).trans D;have T:=fun(u:GrW W)=>((d.out.trans u.gr).cell _ _ g).trans E;obtain⟨b,cl,rfl,Q,l,F,G,H⟩:=hl.one;have I:=fun(u:GrW W)=>((d.out.trans u.gr).cell _ _ l).trans F;have J:=fun(u:GrW W)=>((d.out.trans u.gr).cell _ _ l).trans G;have K:=fun(u:GrW W)=>((d.out.trans u.gr).cell _ _ l).trans H;have q:=I ⟨W,wL W⟩;have r:=J ⟨W,wL W⟩;have y:=K ⟨W,wL W⟩;dsimp only at q r y;obtain⟨Y,N,U⟩:=A;dsimp only at *;subst hA;subst hn;clear h C X F G H D E hl ht;unfold dY at j;unfold df;obtain⟨op,wd,fl,args,im,tt⟩:=x;dsimp only at *;subst ho
 go_enter func127, ntmps127
 go_wp2;refine dh (W:=W) (wL W) (by kernel_rfl) (by kernel_rfl) ?_;repeat (go_big_quiet_step (fail))
 refine wpQuiet_nil ?_;intro w9 m;obtain⟨R,rfl⟩:=m;go_wp2;go_ret;exact⟨rfl,d.out.trans R.gr⟩
theorem nC {c:Cfg}{pk bl:List Int}{w:World}{s:Rn.St}{o:Rn.Out}{om wv bv:Value}(h:DS c pk w s bl o om wv bv)(x:Ins)(va vt vl:Value)(ho:x.op=31)(hl:VsAt w vl []) :
  Calls prog 127 #[.pointer (some ⟨c.Bs,0,none⟩),df x va vt,vl] w fun e w'=>e=.returned (.int .i64 (-1))/\DS c pk w' s bl ⟨0,Rn.zero,s.mem⟩ c.mv wv bv/\FrS (·=c.Bs) w w':=by
 obtain⟨W,r⟩:=xJ (dY w x va vt);have F:Gr w W:=by rw[<-r];exact(wL w).alloc _
 have A:=dJ F;have X:=fun(u:GrW W)=>dk (w:=w) (x:=x) (va:=va) (vt:=vt) (w':=u.val) (by rw[r];exact u.gr);have C:=fun u=>(X u).1;have D:=fun u=>(X u).2.2.2.2.2;have y:=C ⟨W,wL W⟩;have z:=D ⟨W,wL W⟩;dsimp only at y z;obtain⟨Al,cl,rfl,t⟩:=hl.form;obtain⟨q,l⟩:=xJ (fF W);have G:Gr W q:=by rw[<-l];exact(wL W).alloc _
 have d:q.heap[W.heap.size]?=some (.cells #[.bool false,.int .i64 0,.int .u32 0] 37 (0,0)):=by rw[<-l];exact heap_alloc_new _ _
 obtain⟨B,j⟩:=xJ (dw q W.heap.size Rn.zero);have H:Gr W B:=by rw[<-j];exact gr_frs' G (ei _ _ _) (fun k hk=>by omega)
 have g:B.heap[W.heap.size]?=some (.cells #[.bool false,.int .i64 0,.int .u32 0] 37 (0,0)):=by rw[<-j];exact cX (i:=2) (.int .u32 0) (cX (i:=1) (.int .i64 0) (cX (i:=0) (.bool false) d))
 have L:=vX _ _ 0 _ _ _ d;have T:=vY _ _ 0 _ _ d;have M:=vX _ _ 1 _ _ _ d;have U:=vY _ _ 1 _ _ d;have N:=vX _ _ 2 _ _ _ d;have Y:=vY _ _ 2 _ _ d;have O:=vX _ _ 0 _ _ _ g;have Z:=vY _ _ 0 _ _ g;have Q:=vX _ _ 1 _ _ _ g;have aa:=vY _ _ 1 _ _ g;have R:=vX _ _ 2 _ _ _ g;have ab:=vY _ _ 2 _ _ g;have m:=dJ H;have p:=dJ (kt (h.gr (A.out.trans m.out)) Rn.zero);unfold vv at p
 try dsimp only[Rn.zero] at p
 clear h F X C D G H d g hl t;unfold fF at l;unfold dw at j;dsimp only[Rn.zero] at j;unfold dY at r;unfold df;obtain⟨op,wd,fl,args,im,tt⟩:=x;dsimp only at *;subst ho
 go_enter func127, ntmps127
 go_wp2_with (go_at_call 129;refine p.out.mono ?_;rintro e w7 ⟨rfl,I,E⟩;have K:=dJ I;have J:=dJ ((FrS.of_gr (S:=(·=c.Bs)) (A.out.trans m.out)).trans E);clear I E);go_ret;exact⟨rfl,K.out,J.out⟩
theorem pu {c:Cfg}{pk bl:List Int}{w:World}{s:Rn.St}{o:Rn.Out}{om wv bv:Value}(h:DS c pk w s bl o om wv bv)(x:Ins)(va vt vl:Value)(ho:x.op=31)(A:Rn.V)(hl:VsAt w vl [A]) :
  Calls prog 127 #[.pointer (some ⟨c.Bs,0,none⟩),df x va vt,vl] w fun e w'=>e=.returned (.int .i64 (-1))/\DS c pk w' s bl ⟨0,A,s.mem⟩ c.mv wv bv/\FrS (·=c.Bs) w w':=by
 obtain⟨W,K⟩:=xJ (dY w x va vt);have Z:Gr w W:=by rw[<-K];exact(wL w).alloc _
 have r:=dJ Z;have X:=fun(u:GrW W)=>dk (w:=w) (x:=x) (va:=va) (vt:=vt) (w':=u.val) (by rw[K];exact u.gr);have T:=fun u=>(X u).1;have U:=fun u=>(X u).2.2.2.2.2;have Q:=T ⟨W,wL W⟩;have R:=U ⟨W,wL W⟩;dsimp only at Q R;obtain⟨b,cl,rfl,aa,L,q0,q1,q2⟩:=hl.one;have E:=fun(u:GrW W)=>((r.out.trans u.gr).cell _ _ L).trans q0;have F:=fun(u:GrW W)=>((r.out.trans u.gr).cell _ _ L).trans q1;have G:=fun(u:GrW W)=>((r.out.trans u.gr).cell _ _ L).trans q2;have M:=E ⟨W,wL W⟩;have N:=F ⟨W,wL W⟩;have O:=G ⟨W,wL W⟩;dsimp only at M N O;obtain⟨J,m,I⟩:=A;dsimp only at *;obtain⟨H,p⟩:=xJ (fF W);have gb:Gr W H:=by rw[<-p];exact(wL W).alloc _
 have d:H.heap[W.heap.size]?=some (.cells #[.bool false,.int .i64 0,.int .u32 0] 37 (0,0)):=by rw[<-p];exact heap_alloc_new _ _
 obtain⟨q,j⟩:=xJ (dw H W.heap.size Rn.zero);have y:Gr W q:=by rw[<-j];exact gr_frs' gb (ei _ _ _) (fun k hk=>by omega)
 have g:q.heap[W.heap.size]?=some (.cells #[.bool false,.int .i64 0,.int .u32 0] 37 (0,0)):=by rw[<-j];exact cX (i:=2) (.int .u32 0) (cX (i:=1) (.int .i64 0) (cX (i:=0) (.bool false) d))
 have ab:=vX _ _ 0 _ _ _ d;have ah:=vY _ _ 0 _ _ d;have ac:=vX _ _ 1 _ _ _ d;have ai:=vY _ _ 1 _ _ d;have ad:=vX _ _ 2 _ _ _ d;have aj:=vY _ _ 2 _ _ d;have ae:=vX _ _ 0 _ _ _ g;have ak:=vY _ _ 0 _ _ g;have af:=vX _ _ 1 _ _ _ g;have al:=vY _ _ 1 _ _ g;have ag:=vX _ _ 2 _ _ _ g;have am:=vY _ _ 2 _ _ g;have M0:=E ⟨q,y⟩;have M1:=F ⟨q,y⟩;have M2:=G ⟨q,y⟩;dsimp only at M0 M1 M2;obtain⟨W4,l⟩:=xJ (dw q W.heap.size (⟨J,m,I⟩:Rn.V));have gd:Gr W W4:=by rw[<-l];exact gr_frs' y (ei _ _ _) (fun k hk=>by omega)
 obtain⟨z,B,C⟩:_/\_/\_:=eo g (⟨J,m,I⟩:Rn.V);rw[l] at z B C;dsimp only at z B C;have t:=dJ gd;have D:=dJ (kt (h.gr (r.out.trans t.out)) (⟨J,m,I⟩:Rn.V));unfold vv at D
 try dsimp only[Rn.zero] at D
 clear h Z X T U gb y d g gd hl q0 q1 q2 E F G;unfold fF at p;unfold dw at j l;dsimp only[Rn.zero] at j l;unfold dY at K;unfold df;obtain⟨op,wd,fl,args,im,tt⟩:=x;dsimp only at *;subst ho
 go_enter func127, ntmps127
 go_wp2_with (go_at_call 129;refine D.out.mono ?_;rintro e w7 ⟨rfl,p7,Y⟩;have P7:=dJ p7;have F7:=dJ ((FrS.of_gr (S:=(·=c.Bs)) (r.out.trans t.out)).trans Y);clear p7 Y);go_ret;exact⟨rfl,P7.out,F7.out⟩
@[go_sem] theorem vj (v:Value)(w:World):(Instr.typeAssert (.iface 37 v) 20 37 true).run prog w=.ok (.tuple #[v,.bool true]) w:=by kernel_rfl
@[go_sem] theorem ve (v:Value)(w:World):(Instr.typeAssert (.iface 37 v) 20 174 true).run prog w=.ok (.tuple #[.agg #[.int .i64 0],.bool false]) w:=by kernel_rfl
@[go_sem] theorem vd (v:Value)(w:World):(Instr.typeAssert (.iface 37 v) 20 176 true).run prog w=.ok (.tuple #[.agg #[.int .i64 0,.bool false,.int .i64 0,.int .u32 0,.slice none 0 0],.bool false]) w:=by kernel_rfl
@[go_sem] theorem vc (v:Value)(w:World):(Instr.typeAssert (.iface 218 v) 20 37 true).run prog w=.ok (.tuple #[.agg #[.bool false,.int .i64 0,.int .u32 0],.bool false]) w:=by kernel_rfl
@[go_sem] theorem uZ (v:Value)(w:World):(Instr.typeAssert (.iface 218 v) 20 174 true).run prog w=.ok (.tuple #[.agg #[.int .i64 0],.bool false]) w:=by kernel_rfl
@[go_sem] theorem uY (v:Value)(w:World):(Instr.typeAssert (.iface 218 v) 20 176 true).run prog w=.ok (.tuple #[.agg #[.int .i64 0,.bool false,.int .i64 0,.int .u32 0,.slice none 0 0],.bool false]) w:=by kernel_rfl
@[go_sem] theorem uX (v:Value)(w:World):(Instr.typeAssert (.iface 174 v) 20 37 true).run prog w=.ok (.tuple #[.agg #[.bool false,.int .i64 0,.int .u32 0],.bool false]) w:=by kernel_rfl
@[go_sem] theorem uW (v:Value)(w:World):(Instr.typeAssert (.iface 174 v) 20 174 true).run prog w=.ok (.tuple #[v,.bool true]) w:=by kernel_rfl
@[go_sem] theorem uV (v:Value)(w:World):(Instr.typeAssert (.iface 174 v) 20 176 true).run prog w=.ok (.tuple #[.agg #[.int .i64 0,.bool false,.int .i64 0,.int .u32 0,.slice none 0 0],.bool false]) w:=by kernel_rfl
@[go_sem] theorem uU (v:Value)(w:World):(Instr.typeAssert (.iface 176 v) 20 37 true).run prog w=.ok (.tuple #[.agg #[.bool false,.int .i64 0,.int .u32 0],.bool false]) w:=by kernel_rfl
@[go_sem] theorem uT (v:Value)(w:World):(Instr.typeAssert (.iface 176 v) 20 174 true).run prog w=.ok (.tuple #[.agg #[.int .i64 0],.bool false]) w:=by kernel_rfl
@[go_sem] theorem uS (v:Value)(w:World):(Instr.typeAssert (.iface 176 v) 20 176 true).run prog w=.ok (.tuple #[v,.bool true]) w:=by kernel_rfl
theorem mX {f:Fn}{x:Ins}(h:Rn.Shp f x)(ho:x.op≠28):x.args.length<=40:=by
 cases h with
 | phi q=>exact absurd q ho
 | _=>simp[*]
theorem qM {f:Fn}{x:Ins}(h:Rn.Shp f x)(ho:x.op≠28):∀v∈x.args,0<Ref.kind f v:=by
 intro v hv
 cases h with
 | phi q=>exact absurd q ho
 | const o ha=>simp[ha] at hv
 | arith o a b ha ka kb hw=>rw[ha] at hv;have:=hw.1;simp at hv;rcases hv with rfl|rfl <;> omega
 | cmp o a b ha kb hk=>rw[ha] at hv;have:=hk.1;simp at hv;rcases hv with rfl|rfl <;> omega
 | select o a b c ha ka kb kc hw=>rw[ha] at hv;have:0<x.width:=hw.elim (fun q=>by have:=q.1;omega) (fun q=>by omega);simp at hv;rcases hv with rfl|rfl|rfl <;> omega
 | ext o a ha hk=>rw[ha] at hv;have:=hk.1;simp at hv;subst hv;omega
 | lanes o a b ha ka kb hw=>rw[ha] at hv;have:=hw.1;simp at hv;rcases hv with rfl|rfl <;> omega
 | freeze o a ha ka hw=>rw[ha] at hv;have:=hw.1;simp at hv;subst hv;omega
 | poison o ha=>simp[ha] at hv
 | any o ha=>simp[ha] at hv
 | addr o ha=>simp[ha] at hv
 | gep o a b ha ka kb=>rw[ha] at hv;have:=kb.1;simp at hv;rcases hv with rfl|rfl <;> omega
 | load o a ha ka=>rw[ha] at hv;simp at hv;subst hv;omega
 | store o a b ha ka kb=>rw[ha] at hv;simp at hv;rcases hv with rfl|rfl <;> (try rcases kb with q|q|q) <;> omega
 | jump o ha=>simp[ha] at hv
 | branch o a ha ka=>rw[ha] at hv;simp at hv;subst hv;omega
 | ret0 o ha=>simp[ha] at hv
 | ret o a ha ka hr=>rw[ha] at hv;have:=hr.1;simp at hv;subst hv;omega
 | trap o ha=>simp[ha] at hv
theorem PS.mut_lt {c:Cfg}{w:World}{s:Rn.St}{b frm:Int}{vt:Value}(h:PS c w s b frm vt){k:Nat}(hk:Mut c k):k<w.heap.size:=by
 rcases hk with rfl|rfl|rfl|⟨j,g,d⟩
 ·exact cY h.st
 ·exact cY h.vals
 ·exact cY h.had
 ·have p:=(vy.1 d).1;obtain⟨m,r⟩:∃m,s.mem[j]?=some m:=⟨_,vu (by have:=h.mem.1;omega)⟩;obtain⟨-,-,l,q,-⟩:=h.mem.2 j k g m d r;exact cY q
theorem ll {c:Cfg}{w:World}{s:Rn.St}{b:Nat}{frm:Int}{vt:Value}(h:PS c w s (b:Int) frm vt)(hf:VFn c.f){l:List Ins}(hl:c.f.blocks[b]?=some l){vl:Value}(hvl:BlkAt c.n₀ w vl l)
  (he:Rn.Ent c.f b frm l s) {pick:Rn.Pick} {fin:List Int} (hpk:Rn.PickOk pick) (ch:eD c pick fin) {O:Nat->Prop} (hA:ch.At w s.widths O) (hfin:(Rn.block c.f pick b frm s).2.widths <+: fin) (hst:s.steps<=400) :
  Calls prog 86 #[.pointer (some ⟨c.Bs,0,none⟩),vl] w (ni ch O w (b:Int) frm vt (Rn.block c.f pick b frm s)):=by
 have L:=vz hl;have bP:(Rn.phis l).length<=l.length:=Rn.phis_le l;have bm:0<l.length:=List.length_pos_iff.2 (Rn.val_laid hf.val L).1
 have bk:(Rn.phis l).length<l.length:=by
  rcases wh (Rn.phis l).length l.length with q|q
  ·exact q
  ·obtain⟨x,C⟩:∃x,l[l.length-1]?=some x:=⟨_,vu (by omega)⟩;have h1:=(Rn.last_iff hf.val L C).2 (by omega);have h2:=(Rn.phi_iff hf.val L C).2 (by omega);rw[h2] at h1;exact absurd h1 (by decide)
 have bV:l.length<=1000:=by
  have hc:=Ref.number_count c.f hl;have:=hf.val.size;have e:Ref.count c.f=c.f.params.length+Ref.total c.f.blocks:=by unfold Ref.count Ref.number;rw[wg]
  omega
 have bR:s.vals.length<=1000:=by
  have:=he.toMid.toInv.len;have:=hf.val.size;have e:Ref.count c.f=c.f.params.length+Ref.total c.f.blocks:=by unfold Ref.count Ref.number;rw[wg]
  omega
 obtain⟨rs,aA⟩:=xJ ((Rn.phis l).map (Rn.phiRead s frm));have aL:rs.length=(Rn.phis l).length:=by rw[<-aA,vS]
 obtain⟨R,hR⟩:=xJ (Rn.block c.f pick b frm s)
 have bd:Rn.runIns c.f pick rs l 0 (Ref.number c.f b) s=R:=by
  rw[<-hR];unfold Rn.block;rw[vA,hl];show _=Rn.runIns c.f pick ((Rn.phis l).map (Rn.phiRead s frm)) l 0 _ s;rw[aA]
 have aE:Hid (∀k x,l[k]?=some x->k<(Rn.phis l).length->x.op=28/\frm∈x.to/\x.to.length=x.args.length/\x.to.idxOf frm<x.args.length/\∃z:Nat,x.args[x.to.idxOf frm]?=some (z:Int)/\z<s.vals.length/\rs[k]?=some (s.get (z:Int))/\s.vals[z]?=some (s.get (z:Int))):=by
  intro k x C m;have ad:=(Rn.phi_iff hf.val L C).2 m
  have hp:(Rn.phis l)[k]?=some x:=by
   have:Rn.phis l <+: l:=List.takeWhile_prefix _;obtain⟨t,ht⟩:=this;rw[<-ht,vJ m] at C;exact C
  obtain⟨p1,p2,⟨p3,p4⟩,-,-⟩:=he.phi x (vz hp);have ax:x.to.idxOf frm<x.args.length:=by rw[p2];exact List.idxOf_lt_length_iff.2 p1
  obtain⟨z,hz⟩:=vF p3;rw[hz] at p4;have aM:z<s.vals.length:=by rw[he.toMid.toInv.len];exact Int.ofNat_lt.1 p4
  refine⟨ad,p1,p2.symm,ax,z,?_,aM,?_,?_⟩
  ·rw[vA,vu ax] at hz;rw[vu ax];exact congrArg some hz
  ·rw[<-aA,vH,hp];show some (Rn.phiRead s frm x)=_;unfold Rn.phiRead;rw[hz]
  ·unfold Rn.St.get;rw[vG,vA,vu aM];rfl
 have a8:Hid (∀k x,l[k]?=some x->k=(Rn.phis l).length->(x.op == 28)=false):=by
  intro k x C m;have:=Rn.phi_iff hf.val L C;simp;intro q;have:=this.1 q;omega
 obtain⟨Q,ay⟩:=xJ ((Rn.phis l).length);rw[ay] at bP bk aL aE a8;obtain⟨Al,cl,rfl,l1,l2,l3⟩:=hvl;obtain⟨bl,ol,rfl,aK,l4⟩:=l3 bm;have aN:Hid (∀wr,Below c.n₀ w wr->∀k x,l[k]?=some x->InsAt c.n₀ wr bl (ol+k*6) x):=fun wr hb k x C=>(l4 k x C).below aK hb
 have bD:Hid (∀k x,l[k]?=some x->w.cell? ⟨bl,ol+k*6,none⟩=some (.int .i64 x.op)):=fun k x C=>by
  obtain⟨va,vt,q,-⟩:=l4 k x C;exact q
 have bK:=ff w Q (by omega);obtain⟨W1,aq⟩:=xJ (w.alloc (.cells (dy (List.replicate Q Rn.zero)).toArray 37));rw[aq] at bK;have bJ:Gr w W1:=by rw[<-aq];exact(wL w).alloc _
 have bU:W1.heap.size=w.heap.size+1:=by rw[<-aq];simp
 have bb:Hid (RowV w.heap.size (eN rs Q 0) W1):=by
  show RowV _ _ _;have e:eN rs Q 0=List.replicate Q Rn.zero:=by unfold eN;simp
  rw[e];unfold RowV;rw[<-aq];exact heap_alloc_new w _
 have bA:Hid (∀wr,FrS (·=w.heap.size) W1 wr->Gr w wr):=fun wr aw=>by
  have hB:Below w.heap.size W1 wr:=aw.below (fun k m=>by omega) (by omega);exact Gr.below bJ hB (vV _)
 have HH:=dJ h;have HA:=dJ hA;have HF:=dJ hf;have HE:=dJ he;have HL:=dJ hl;have a5:Hid (R.2.widths <+: fin):=by show _ <+: _;rw[<-hR];exact hfin
 have bE:=dJ bd;have bF:=dJ aA;have aD:=dJ h.n₀;have bs:(Rn.block c.f pick b frm s)=R:=hR;rw[bs];clear h hA he hl hfin bd aA l3 l4 L hR bs aq aK hf
 go_enter func86, ntmps86
 go_wp2
 go_loop [6] (fun s6=>∃k:Nat,k<=Q/\s6=.int .i64 (k:Int)) (fun s6=>Q-(intOf s6).toNat)
 case atStart=>exact⟨0,vU _,rfl⟩
 case round =>
  obtain⟨k,m,rfl⟩:=hrel;obtain⟨x,C⟩:∃x,l[k]?=some x:=⟨_,vu (by omega)⟩;have bf:=bD.out k x C;have bg:k<l.length:=by omega
  by_cases M:k<Q
  ·obtain⟨ad,-⟩:=aE.out k x C M;rw[ad] at bf;clear C ad;go_wp2;go_round;case rel=>exact⟨k+1,by omega,by go_num⟩
   case measure=>simp[intOf];omega
  ·obtain rfl:Q=k:=by omega
   have bh:=a8.out Q x C rfl;clear C;go_wp2;clear bf bh bg M
   go_loopw [36] (fun aY wr=>∃k:Nat,k<=Q/\aY=.int .i64 (k:Int)/\Hid (RowV w.heap.size (eN rs Q k) wr)/\Hid (FrS (·=w.heap.size) W1 wr)) (fun aY _=>Q-(intOf aY).toNat)
   case atStart=>exact⟨0,vU _,rfl,bb,FrS.refl _ _⟩
   case round =>
    obtain⟨k,m,rfl,Y,aw⟩:=hrel;have hG:=bA.out wr aw.out;by_cases M:k<Q
    ·obtain⟨x,C⟩:∃x,l[k]?=some x:=⟨_,vu (by omega)⟩;obtain⟨ad,br,bQ,ax,z,hz,aM,bn,bu⟩:=aE.out k x C M;obtain⟨va,aC,i0,i1,i2,i3,i4,i5,ia,it⟩:=aN.out wr (Below.mono hG aD.out) k x C;obtain⟨Aa,ca,rfl,a1,a2,a3⟩:=ia;obtain⟨ba,oa,rfl,bM,a4⟩:=a3 (by omega);obtain⟨At,ct,rfl,t1,t2,t3⟩:=it;obtain⟨bt,ot,rfl,bN,t4⟩:=t3 (by omega);obtain⟨W,aa⟩:=xJ (dY wr x (.slice (some ⟨ba,oa,none⟩) x.args.length ca) (.slice (some ⟨bt,ot,none⟩) x.to.length ct));have g2:Gr wr W:=by rw[<-aa];exact(wL wr).alloc _
     have aJ:=fun(u:GrW W)=>HH.out.gr ((hG.trans g2).trans u.gr);have U5:∀u:GrW W,u.val.cell? ⟨c.Bs,5,none⟩=some (.slice (some ⟨c.Bv,0,none⟩) s.vals.length s.vals.length):=fun u=>(aJ u).cell 5;have bH:∀u:GrW W,u.val.cell? ⟨c.Bs,10,none⟩=some (.int .i64 frm):=fun u=>(aJ u).cell 10;have X:=fun(u:GrW W)=>dk (w:=wr) (x:=x) (va:=.slice (some ⟨ba,oa,none⟩) x.args.length ca) (vt:=.slice (some ⟨bt,ot,none⟩) x.to.length ct) (w':=u.val) (by rw[aa];exact u.gr);have U3:=fun u=>(X u).2.2.2.1;have U6:=fun u=>(X u).2.2.2.2.2;have aO:ba<wr.heap.size:=by have:=aD.out;have:=hG.size;omega
     have aP:bt<wr.heap.size:=by have:=aD.out;have:=hG.size;omega
     have U7:∀u:GrW W,u.val.cell? ⟨ba,oa+x.to.idxOf frm,none⟩=some (.int .i64 z):=fun u=>((g2.trans u.gr).cell _ _ aO).trans (a4 _ _ hz);have V:=fun(u:GrW W)=>RowV.cells (aJ u).vals bu;have V0:=fun u=>(V u).1;have V1:=fun u=>(V u).2.1;have V2:=fun u=>(V u).2.2
     have CI:Hid (∀u:GrW W,Calls prog 61 #[.slice (some ⟨bt,ot,none⟩) x.to.length ct,.int .i64 frm] u.val fun e w'=>e=.returned (.int .i64 (x.to.idxOf frm:Nat))/\Gr u.val w'):=fun u=>by
      refine el ?_
      have:=Tryz.slices_Index_int bt ot x.to.length ct x.to frm u.val (vV _) (by omega) (fun j hj=>by
        rw[vA,vu hj]
        exact((g2.trans u.gr).cell _ _ aP).trans (t4 j _ (vu hj)))
      rwa [wg,rx br] at this
     obtain⟨q,hq⟩:=xJ (x.to.idxOf frm);rw[hq] at U7 CI ax;obtain⟨y,hy⟩:∃y,(eN rs Q k)[k]?=some y:=⟨_,vu (by rw[jx _ _ _ m aL.symm];exact M)⟩;have H:Hid (∀u:GrW W,RowV w.heap.size (eN rs Q k) u.val):=fun u=>((g2.trans u.gr).heap _ (cY Y.out)).trans Y.out
     have a9:Hid (∀u:GrW W,RowV w.heap.size (eN rs Q (k+1)) (((u.val.setCell ⟨w.heap.size,k*3,none⟩ (.bool (s.get z).p)).setCell ⟨w.heap.size,k*3+1,none⟩ (.int .i64 (s.get z).s)).setCell ⟨w.heap.size,k*3+2,none⟩ (.int .u32 (s.get z).n))):=fun u=>by
      rw[<-mw rs Q k aL.symm _ bn];exact(H.out u).set k _
     have a7:Hid (∀u:GrW W,FrS (·=w.heap.size) W1 (((u.val.setCell ⟨w.heap.size,k*3,none⟩ (.bool (s.get z).p)).setCell ⟨w.heap.size,k*3+1,none⟩ (.int .i64 (s.get z).s)).setCell ⟨w.heap.size,k*3+2,none⟩ (.int .u32 (s.get z).n))):=fun u =>
      (((aw.out.trans (FrS.of_gr (g2.trans u.gr))).setCell (p:=⟨w.heap.size,k*3,none⟩) rfl _).setCell (p:=⟨w.heap.size,k*3+1,none⟩) rfl _).setCell (p:=⟨w.heap.size,k*3+2,none⟩) rfl _
     have HD:Hid (∀u:GrW W,(u.val.cell? ⟨w.heap.size,k*3,none⟩=some (.bool y.p)/\u.val.cell? ⟨w.heap.size,k*3+1,none⟩=some (.int .i64 y.s)/\u.val.cell? ⟨w.heap.size,k*3+2,none⟩=some (.int .u32 y.n))/\u.val.frozen? ⟨w.heap.size,k*3,none⟩=false/\u.val.frozen? ⟨w.heap.size,k*3+1,none⟩=false/\u.val.frozen? ⟨w.heap.size,k*3+2,none⟩=false) :=
      fun u=>⟨(H.out u).cells hy,(H.out u).free _,(H.out u).free _,(H.out u).free _⟩
     have bg:k<l.length:=by omega
     obtain⟨sv,bq⟩:=xJ (s.get (z:Int));rw[bq] at V0 V1 V2 a9 a7;obtain⟨N,hN⟩:=xJ s.vals.length;rw[hN] at U5 aM bR;clear C br bQ hz bn bu a3 a4 t3 t4 X V aJ hq hy aO aP bq hN hG bM bN g2 ad;unfold dY at aa;go_wp2;refine dD 20 (by kernel_rfl) (by kernel_rfl) ?_;simp only[wt,List.take_zero,wz,List.drop_zero];repeat (go_big_quiet_step ((rename_i u;go_at_call 61;exact di u (CI.out u))))
     refine wpQuiet_nil ?_;intro w9 bS;obtain⟨u9,rfl⟩:=bS;obtain⟨⟨d0,d1,d2⟩,f0,f1,f2⟩:=HD.out u9;have bG:=dJ (a9.out u9);have bz:=dJ (a7.out u9);clear U5 bH U3 U6 U7 V0 V1 V2;go_wp2;go_roundw;case rel=>exact⟨k+1,by omega,by go_num,bG,bz⟩
     case measure=>simp[intOf];omega
    ·obtain rfl:Q=k:=by omega
     obtain⟨Wb,bL⟩:∃Wb,Wb=wr:=⟨_,rfl⟩;subst bL;rw[oh rs Q aL.symm] at Y;have bc:ch.At Wb s.widths O:=ch.keep HA.out (FrS.of_gr (S:=fun _=>False) hG) (fun k m=>m.elim);have aI:=HH.out.gr hG;have bB:Hid (Left ch Wb O s (b:Int) frm vt Wb):=Left.of_gr bc aI (wL _);have ap:∀k,O k->c.n₀<=k/\k<w.heap.size:=fun k m=>⟨(ch.apart HA.out k m).1,(ch.apart HA.out k m).2.1⟩
     have aT:Hid (∀s' wr,Left ch Wb O s' (b:Int) frm vt wr->RowV w.heap.size rs wr):=fun s' wr G =>
      (G.block (cY Y.out) (fun hm=>by have:=HH.out.mut_lt hm;omega) (fun ho=>by have:=(ap _ ho).2;omega)).trans Y.out
     have a0:Hid (∀s' wr,Left ch Wb O s' (b:Int) frm vt wr->Below c.n₀ w wr):=fun s' wr ⟨O',p,a,f,o⟩ =>
      Below.trans (Below.mono hG aD.out) (f.below (fun k m=>m.elim (fun q=>aI.mut q) (fun q=>(ap k q).1)) aI.n₀)
     have aF:Hid (∀s' wr,Left ch Wb O s' (b:Int) frm vt wr->Left ch w O s' (b:Int) frm vt wr):=fun s' wr G=>dX (FrS.of_gr hG) (fun k m=>.inl m) G;clear Y aw bc aI ap hG M m;go_wp2
     go_loopw [64] (fun aZ wr=>∃(k:Nat) (s':Rn.St),k<=l.length/\aZ=.int .i64 (k:Int)/\s'.steps<=400/\Hid (Left ch Wb O s' (b:Int) frm vt wr)/\Hid (Rn.Mid c.f b k l s')/\Hid (Rn.runIns c.f pick rs (l.drop k) k (Ref.number c.f b+k) s'=R)) (fun aZ _=>l.length-(intOf aZ).toNat)
     case atStart=>exact⟨0,s,vU _,rfl,hst,bB,HE.out.toMid,by (show _=_);rw[List.drop_zero,Nat.add_zero];exact bE.out⟩
     case round =>
      obtain⟨k,s',m,rfl,bX,G,hm,E⟩:=hrel;by_cases M:k<l.length
      ·obtain⟨x,C⟩:∃x,l[k]?=some x:=⟨_,vu M⟩;have ah:l.drop k=x::l.drop (k+1):=by rw[vM M];congr 1;rw[vu M] at C;injection C
       obtain⟨O',hP,hA,hF,hO⟩:=G.out;obtain⟨va,aC,i0,i1,i2,i3,i4,i5,ia,it⟩:=aN.out wr (a0.out _ _ G.out) k x C;obtain⟨W,aa⟩:=xJ (dY wr x va aC);have g2:Gr wr W:=by rw[<-aa];exact(wL wr).alloc _
       have al:=hP.gr g2;have bI:W.cell? ⟨c.Bs,11,none⟩=some (.int .i64 (s'.steps:Int)):=al.cell 11;by_cases aj:s'.steps=400
       ·have af:Hid (R=(.over Rn.long,s')):=by (show _=_);rw[<-E.out,ah,fT aj]
        rw[show (s'.steps:Int)=400 by omega] at bI;have aS:=dJ fun(w9:World) (g:Gr W w9)=>aF.out _ _ (G.out.gr (g2.trans g));obtain⟨Aa,ca,rfl,-,-,-⟩:=ia;obtain⟨At,ct,rfl,-,-,-⟩:=it;clear C ah hP hA hF hO al hm E g2 G;unfold dY at aa;go_wp2;go_ret2;unfold ni;rw[af.out];exact⟨aS.out _ ((wL _).alloc _),_,_,rfl,heap_alloc_new _ _⟩
       ·have b3:(s'.steps:Int)≠400:=by omega
        obtain⟨W3,aU⟩:=xJ (W.setCell ⟨c.Bs,11,none⟩ (.int .i64 ((s'.steps:Int)+1)));have I:PS c W3 s'.tick (b:Int) frm vt:=by rw[<-aU];exact al.tick
        have b0:W.frozen? ⟨c.Bs,11,none⟩=false:=vY _ _ 11 _ _ al.st;have ag:FrS (Mut c) wr W3:=by rw[<-aU];exact((FrS.of_gr g2).setCell (p:=⟨c.Bs,11,none⟩) (.inl rfl) _)
        have aG:ch.At W3 s'.tick.widths O':=ch.keep hA ag (fun k m=>⟨hP.mut m,fun q=>(ch.apart hA k q).2.2 (.inl m)⟩);have aH:Left ch Wb O s'.tick (b:Int) frm vt W3:=dX hF hO (wG (s:=s') hA I rfl ag (fun k m=>hP.mut m));have c7:W3.cell? ⟨c.Bs,7,none⟩=some (.slice (some ⟨c.Bf,0,none⟩) c.f.blocks.length c.cf):=I.cell 7;have c9:W3.cell? ⟨c.Bs,9,none⟩=some (.int .i64 (b:Int)):=I.cell 9;have aK:=(vy.1 HL.out).1;have cf:=I.firstAt b aK;obtain⟨b1,b2,-⟩:=I.first;have bj:=Ref.number_count c.f HL.out
        have bO:s'.vals.length<=1000/\Ref.count c.f=s'.vals.length:=by
         have h1:=hm.out.toInv.len;have h2:=HE.out.toMid.toInv.len;omega
        obtain⟨aQ,ar⟩:=bO;have XC:=dk (w:=wr) (x:=x) (va:=va) (vt:=aC) (w':=W) (by rw[aa];exact wL _);have be:c.Bs≠wr.heap.size:=by have:=cY hP.st;omega
        have ac:∀i,W3.cell? ⟨wr.heap.size,i,none⟩=W.cell? ⟨wr.heap.size,i,none⟩:=fun i=>by rw[<-aU];exact World.cell?_setCell_far _ ⟨c.Bs,11,none⟩ ⟨wr.heap.size,i,none⟩ _ be
        have X0:=(ac 0).trans XC.1;have X1:=(ac 1).trans XC.2.1;have X2:=(ac 2).trans XC.2.2.1;have X3:=(ac 3).trans XC.2.2.2.1;have X4:=(ac 4).trans XC.2.2.2.2.1;have X5:=(ac 5).trans XC.2.2.2.2.2;have bi:(Ref.number c.f b:Int)+(k:Int)<1000:=by omega
        have aW:Ref.number c.f b+k<s'.tick.vals.length:=by show _<s'.vals.length;omega
        have ai:Rn.Mid c.f b k l s'.tick:=hm.out.like (Rn.like_tick s');have bZ:=dJ ai;have bY:=dJ aH
        have an:Hid (∀(B w6:World) (F:Rn.St) (y:Rn.V),Gr W3 B->Left ch B O' F (b:Int) frm vt w6->F.vals.length=s'.vals.length ->
            Calls prog 130 #[.pointer (some ⟨c.Bs,0,none⟩),.int .i64 ((Ref.number c.f b:Int)+(k:Int)),vv y] w6 fun e w'=>e=.returned (.tuple #[])/\Left ch Wb O (F.set (Ref.number c.f b+k) y) (b:Int) frm vt w'):=by
         intro B w6 F y g4 ab hlen;have bW:=ab;obtain⟨O6,p6,a6,f6,o6⟩:=ab;refine(tG p6 (Ref.number c.f b+k) (by rw[hlen];exact aW) (by rw[hlen];exact aQ) y _ (by simp)).mono fun e w' h=>⟨h.1,?_⟩;have s1:Left ch w6 O6 (F.set (Ref.number c.f b+k) y) (b:Int) frm vt w':=wG (s:=F) a6 h.2.1 rfl h.2.2 (fun k m=>p6.mut m);have bT:Left ch B O' (F.set (Ref.number c.f b+k) y) (b:Int) frm vt w':=dX f6 o6 s1;have s3:Left ch wr O' (F.set (Ref.number c.f b+k) y) (b:Int) frm vt w':=dX ((ag.mono fun k m=>.inl m).trans (FrS.of_gr g4)) (fun k m=>.inl m) bT;exact dX hF hO s3
        by_cases aX:k<Q
        ·obtain⟨ad,-⟩:=aE.out k x C aX;obtain⟨y,hy⟩:∃y,rs[k]?=some y:=⟨_,vu (by omega)⟩;have az:=aT.out _ _ aH;obtain⟨d0,d1,d2⟩:=RowV.cells az hy
         have U:Hid (Rn.runIns c.f pick rs (l.drop (k+1)) (k+1) (Ref.number c.f b+(k+1)) (s'.tick.set (Ref.number c.f b+k) y)=R):=by
          show _=_;rw[<-E.out,ah,jB aj (by omega),vA,hy];rfl
         have T:Hid (Rn.Mid c.f b (k+1) l (s'.tick.set (Ref.number c.f b+k) y)):=by
          have:=Rn.phi_set HF.out.val HE.out ai HL.out C (by rw[ay];exact aX);rw[bF.out,vA,hy] at this;exact this
         have CS:=dJ fun(B:World) (g:Gr W3 B)=>an.out B B s'.tick y g (Left.of_gr (s:=s'.tick) (ch.keep aG (FrS.of_gr (S:=fun _=>False) g) (fun k m=>m.elim)) (I.gr g) (wL _)) rfl;unfold vv at CS;obtain⟨nb,J⟩:=xJ (Ref.number c.f b);have am:=dJ J;rw[J] at cf bi CS U T;obtain⟨Aa,ca,rfl,-,-,-⟩:=ia;obtain⟨At,ct,rfl,-,-,-⟩:=it;have bo:(s'.tick.set (nb+k) y).steps<=400:=by show s'.steps+1<=400;omega
         clear C ah hP hA hF hO al hm E I ag aG aH ai ac XC az hy J aW bj ar g2 G ad;unfold dY at aa;go_wp2;go_quiet ((fail));go_wp2_with (go_at_call 130;refine(CS.out _ ((wL _).drewN _)).mono ?_;rintro e w5 ⟨rfl,D⟩;have Z:=dJ D;clear D);go_roundw;case rel=>exact⟨k+1,_,by omega,by go_num,bo,Z,T,by (show _=_);rw[am.out];exact U.out⟩
         case measure=>simp[intOf];omega
        ·have bv:=vz C;have L:=vz HL.out;have ho:x.op≠28:=fun q=>aX (by rw[<-ay];exact(Rn.phi_iff HF.out.val L C).1 q);have ak:=Rn.shp HF.out.val HF.out.im L bv;have au:=Rn.exec_ok HF.out.val HF.out.im hpk ai HL.out C ho
         have d:pS c.f pick rs (l.drop (k+1)) k (Ref.number c.f b+k) (Rn.exec c.f pick x s'.tick)=R:=by
          rw[<-E.out,ah,iQ aj (by omega)]
         have av:(Rn.exec c.f pick x s'.tick).2.widths <+: fin:=by
          have h1:=Rn.step_prefix c.f pick rs x (l.drop (k+1)) k (Ref.number c.f b+k) s' aj (by omega);rw[<-ah,E.out] at h1;exact h1.trans a5.out
         have aB:=Rn.exec_steps c.f pick x s'.tick;have aV:Below c.n₀ wr W3:=ag.below (fun k m=>hP.mut m) hP.n₀
         have K:Hid (∀B,Gr W3 B->Calls prog 131 #[.pointer (some ⟨c.Bs,0,none⟩),df x va aC] B (en ch O' B (b:Int) frm vt (Rn.exec c.f pick x s'.tick))):=fun B g =>
          qv (I.gr g) HF.out x va aC (ia.below (aV.trans (Below.mono g I.n₀))) (it.below (aV.trans (Below.mono g I.n₀))) (mX ak ho)
           (fun v hv=>by have:=Rn.kind_pos (qM ak ho v hv);rw[ar] at this;exact this) aQ ai.toInv ch (ch.keep aG (FrS.of_gr (S:=fun _=>False) g) (fun k m=>m.elim)) av ak ho (fun v hv m=>Rn.arg_there HF.out.val ai HL.out C ho hv m)
         have ao:Hid (∀(B w6:World) (F:Rn.St),Gr W3 B->Left ch B O' F (b:Int) frm vt w6->Left ch Wb O F (b:Int) frm vt w6):=fun B w6 F g4 ab =>
          dX hF hO (dX ((ag.mono fun k m=>.inl m).trans (FrS.of_gr g4)) (fun k m=>.inl m) ab)
         unfold df at K;obtain⟨nb,J⟩:=xJ (Ref.number c.f b);have am:=dJ J;rw[J] at cf bi an d;obtain⟨Aa,ca,rfl,-,-,-⟩:=ia;obtain⟨At,ct,rfl,-,-,-⟩:=it
         have hvl:(Rn.exec c.f pick x s'.tick).2.vals.length=s'.vals.length\/∃o,(Rn.exec c.f pick x s'.tick).1=.fin o:=by
          exact Rn.exec_ways c.f pick x s'.tick (fun r=>r.2.vals.length=s'.vals.length\/∃o,r.1=.fin o) (fun _=>.inl rfl) (.inr ⟨_,rfl⟩) (fun _=>.inr ⟨_,rfl⟩) (fun _=>.inl rfl) (fun _=>.inl rfl) (fun _=>.inl rfl)
         have bx:Hid (l[k]?=some x):=C;clear C ah hP hA hF hO al hm E I ag aG aH ai ac XC J aW bj ar g2 G ho ak av aV bv L be;unfold dY at aa
         cases hq:Rn.exec c.f pick x s'.tick with
         | mk r F =>
          rw[hq] at K d au hvl aB;have aR:F.steps<=400:=by have e:F.steps=s'.steps+1:=aB;omega
          clear hq aB
          cases r with
          | val y =>
           obtain⟨e1,e2,e3⟩:=au;have hlen:F.vals.length=s'.vals.length:=hvl.elim (fun q=>q) (fun⟨o,q⟩=>by cases q);have U:Hid (Rn.runIns c.f pick rs (l.drop (k+1)) (k+1) (nb+(k+1)) (F.set (nb+k) y)=R):=d
           have T:Hid (Rn.Mid c.f b (k+1) l (F.set (nb+k) y)):=by
            have:=e3.set HL.out bx.out e1 e2;rw[am.out] at this;exact this
           have CS:=dJ fun(B w6:World) (g:Gr W3 B) (ab:Left ch B O' F (b:Int) frm vt w6)=>an.out B w6 F y g ab hlen;unfold vv at CS;have bp:(F.set (nb+k) y).steps<=400:=aR;have ae:Hid (∀B,Gr W3 B->Calls prog 131 #[.pointer (some ⟨c.Bs,0,none⟩),.agg #[.int .i64 x.op,.int .i64 x.width,.int .i64 x.flags,.slice Aa x.args.length ca,.int .u32 x.imm,.slice At x.to.length ct]] B fun e w'=>e=.returned (.iface 37 (.agg #[.bool y.p,.int .i64 y.s,.int .u32 y.n]))/\Left ch B O' F (b:Int) frm vt w'):=K.out;clear e1 e2 e3 hlen d hvl K;go_wp2;go_quiet ((fail))
           go_wp2_with (first|(go_at_call 131;refine(ae.out _ ((wL _).drewN _)).mono ?_;rintro e w5 ⟨rfl,D⟩;have Z:=dJ D;clear D)|(go_at_call 130;(with_reducible refine(CS.out _ _ ((wL _).drewN _) (Z.out.gr ((wL _).alloc _))).mono ?_);rintro e w6 ⟨rfl,ab⟩;have bC:=dJ ab;clear ab))
           refine⟨⟨k+1,_,by omega,by go_num,bp,bC,T,by (show _=_);rw[am.out];exact U.out⟩,by simp[intOf];omega⟩
          | on =>
           obtain⟨e1,e3⟩:=au;have U:Hid (Rn.runIns c.f pick rs (l.drop (k+1)) (k+1) (nb+(k+1)) F=R):=d;have T:Hid (Rn.Mid c.f b (k+1) l F):=e3.skip bx.out e1;have ae:Hid (∀B,Gr W3 B->Calls prog 131 #[.pointer (some ⟨c.Bs,0,none⟩),.agg #[.int .i64 x.op,.int .i64 x.width,.int .i64 x.flags,.slice Aa x.args.length ca,.int .u32 x.imm,.slice At x.to.length ct]] B fun e w'=>e=.returned (.iface 218 (.agg #[]))/\Left ch B O' F (b:Int) frm vt w'):=K.out;clear e1 e3 d hvl K;go_wp2;go_quiet ((fail));go_wp2_with (go_at_call 131;refine(ae.out _ ((wL _).drewN _)).mono ?_;rintro e w5 ⟨rfl,D⟩;have Z:=dJ (ao.out _ _ _ ((wL _).drewN _) D);clear D);refine⟨⟨k+1,_,by omega,by go_num,aR,Z,T,by (show _=_);rw[am.out];exact U.out⟩,by simp[intOf];omega⟩
          | go t =>
           have af:Hid (R=(.run t,F)):=d.symm;have ae:Hid (∀B,Gr W3 B->Calls prog 131 #[.pointer (some ⟨c.Bs,0,none⟩),.agg #[.int .i64 x.op,.int .i64 x.width,.int .i64 x.flags,.slice Aa x.args.length ca,.int .u32 x.imm,.slice At x.to.length ct]] B fun e w'=>e=.returned (.iface 174 (.agg #[.int .i64 t]))/\Left ch B O' F (b:Int) frm vt w'):=K.out;clear d hvl K au;go_wp2;go_quiet ((fail));go_wp2_with (go_at_call 131;refine(ae.out _ ((wL _).drewN _)).mono ?_;rintro e w5 ⟨rfl,D⟩;have Z:=dJ (ao.out _ _ _ ((wL _).drewN _) D);clear D);go_ret2;unfold ni;rw[af.out];exact⟨aF.out _ _ (Z.out.gr ((wL _).alloc _)),rfl⟩
          | fin o =>
           have af:Hid (R=(.over o,F)):=d.symm
           obtain⟨A,n,cp,hM⟩:∃A n cp,(if o.kind=0 then c.mv else Value.slice none 0 0)=.slice A n cp:=by
            split
            ·exact⟨_,_,_,rfl⟩
            ·exact⟨_,_,_,rfl⟩
           have HM:=dJ hM
           have ae:Hid (∀B,Gr W3 B->Calls prog 131 #[.pointer (some ⟨c.Bs,0,none⟩),.agg #[.int .i64 x.op,.int .i64 x.width,.int .i64 x.flags,.slice Aa x.args.length ca,.int .u32 x.imm,.slice At x.to.length ct]] B fun e w'=>e=.returned (.iface 176 (.agg #[.int .i64 o.kind,.bool o.ret.p,.int .i64 o.ret.s,.int .u32 o.ret.n,.slice A n cp]))/\Left ch B O' F (b:Int) frm vt w'):=by
            have:=K.out;unfold en uu at this;simp only[hM] at this;exact this
           clear d hvl K au hM;go_wp2;go_quiet ((fail));go_wp2_with (go_at_call 131;refine(ae.out _ ((wL _).drewN _)).mono ?_;rintro e w5 ⟨rfl,D⟩;have Z:=dJ (ao.out _ _ _ ((wL _).drewN _) D);clear D);go_ret2;unfold ni;rw[af.out];refine⟨aF.out _ _ (Z.out.gr ((wL _).alloc _)),_,176,rfl,?_⟩;unfold jv;rw[HM.out];exact heap_alloc_new _ _
      ·obtain rfl:k=l.length:=by omega
       have af:Hid (R=(.over Rn.undefd,s')):=by (show _=_);rw[<-E.out,vQ (vV l.length)];rfl
       have aS:=dJ fun(w9:World) (g:Gr wr w9)=>aF.out _ _ (G.out.gr g);clear hm E G;go_wp2;go_ret2;unfold ni;rw[af.out];exact⟨aS.out _ ((wL _).alloc _),_,_,rfl,heap_alloc_new _ _⟩
def sA (w:World):World:=w.alloc (.cells #[.int .i64 0,.int .i64 0,.int .i64 0,.slice none 0 0,.int .u32 0,.slice none 0 0] 67)
def oP (w:World)(r:Nat)(x:Ins)(va vt:Value):World:=(((((w.setCell ⟨r,0,none⟩ (.int .i64 x.op)).setCell ⟨r,1,none⟩ (.int .i64 x.width)).setCell ⟨r,2,none⟩ (.int .i64 x.flags)).setCell ⟨r,3,none⟩ va).setCell ⟨r,4,none⟩ (.int .u32 x.imm)).setCell ⟨r,5,none⟩ vt
theorem lw {w:World}{r:Nat}{x:Ins}{va vt:Value}(h:w.heap[r]?=some (.cells #[.int .i64 0,.int .i64 0,.int .i64 0,.slice none 0 0,.int .u32 0,.slice none 0 0] 67 (0,0))) :
  (oP w r x va vt).heap[r]?=some (.cells #[.int .i64 x.op,.int .i64 x.width,.int .i64 x.flags,va,.int .u32 x.imm,vt] 67 (0,0)) :=
 cX (i:=5) vt (cX (i:=4) (.int .u32 x.imm) (cX (i:=3) va (cX (i:=2) (.int .i64 x.flags) (cX (i:=1) (.int .i64 x.width) (cX (i:=0) (.int .i64 x.op) h)))))
theorem lv (w:World)(r:Nat)(x:Ins)(va vt:Value):FrS (·=r) w (oP w r x va vt) :=
 ((((((FrS.refl (fun k=>k=r) w).setCell (p:=⟨r,0,none⟩) rfl (.int .i64 x.op)).setCell (p:=⟨r,1,none⟩) rfl (.int .i64 x.width)).setCell (p:=⟨r,2,none⟩) rfl (.int .i64 x.flags)).setCell (p:=⟨r,3,none⟩) rfl va).setCell (p:=⟨r,4,none⟩) rfl (.int .u32 x.imm)).setCell (p:=⟨r,5,none⟩) rfl vt
theorem mU {B n sz:Nat}{e:TypeId}{w:World}{v:Value}{xs:List Value}(h:w.ownsRow B e sz v n xs){k:Nat}(hk:v.ownBlock=some k):B<=k/\k<w.heap.size:=by
 rcases h.2 with ⟨rfl,_⟩|⟨g,d,j,rfl,l,m,_⟩
 ·simp[Value.ownBlock] at hk
 ·simp[Value.ownBlock] at hk;subst hk;exact⟨l,cY m⟩
theorem qg {B n sz:Nat}{e:TypeId}{w w':World}{v:Value}{xs:List Value}(h:w.ownsRow B e sz v n xs)(hw:∀k,v.ownBlock=some k->w'.heap[k]?=w.heap[k]?):w'.ownsRow B e sz v n xs:=by
 obtain⟨l,j⟩:=h;refine⟨l,?_⟩;rcases j with j|⟨k,d,g,hv,m,p,r⟩
 ·exact .inl j
 ·exact .inr ⟨k,d,g,hv,m,(hw k (by rw[hv];rfl)).trans p,r⟩
theorem DS.write {c:Cfg}{pk bl:List Int}{w:World}{s:Rn.St}{o:Rn.Out}{om wv bv:Value}(h:DS c pk w s bl o om wv bv)(v:Nat)(hv:v<s.vals.length)(x:Rn.V) :
  ∃W2 W3,((w.setCell ⟨c.Bv,v*3,none⟩ (.bool x.p)).setCell ⟨c.Bv,v*3+1,none⟩ (.int .i64 x.s)).setCell ⟨c.Bv,v*3+2,none⟩ (.int .u32 x.n)=W2/\W2.setCell ⟨c.Bh,v,none⟩ (.bool true)=W3 /\
   (∃y:Rn.V,w.cell? ⟨c.Bv,v*3,none⟩=some (.bool y.p)/\w.cell? ⟨c.Bv,v*3+1,none⟩=some (.int .i64 y.s)/\w.cell? ⟨c.Bv,v*3+2,none⟩=some (.int .u32 y.n)) /\
   (w.frozen? ⟨c.Bv,v*3,none⟩=false/\w.frozen? ⟨c.Bv,v*3+1,none⟩=false/\w.frozen? ⟨c.Bv,v*3+2,none⟩=false) /\
   W2.cell? ⟨c.Bs,15,none⟩=some (.slice (some ⟨c.Bh,0,none⟩) s.vals.length s.vals.length)/\(∃z,W2.cell? ⟨c.Bh,v,none⟩=some (.bool z))/\W2.frozen? ⟨c.Bh,v,none⟩=false /\
   FrS (Mut c) w W2/\DS c pk W3 (s.set v x) bl o om wv bv/\FrS (Mut c) w W3:=by
 obtain⟨W2,g⟩:=xJ (((w.setCell ⟨c.Bv,v*3,none⟩ (.bool x.p)).setCell ⟨c.Bv,v*3+1,none⟩ (.int .i64 x.s)).setCell ⟨c.Bv,v*3+2,none⟩ (.int .u32 x.n));obtain⟨W3,j⟩:=xJ (W2.setCell ⟨c.Bh,v,none⟩ (.bool true));obtain⟨y,G⟩:∃y,s.vals[v]?=some y:=⟨_,vu hv⟩;obtain⟨z,H⟩:∃z,s.had[v]?=some z:=⟨_,vu (by rw[h.hlen];exact hv)⟩;obtain⟨D,E,F⟩:=dZ _ _ _ G;rw[Nat.mul_comm] at D E F;have I:c.Bs≠c.Bv:=hE h.st h.vals (by decide);have C:c.Bh≠c.Bv:=hE h.had h.vals (by decide)
 have d:FrS (·=c.Bv) w W2:=by
  rw[<-g];exact(((FrS.refl (fun k=>k=c.Bv) w).setCell (p:=⟨c.Bv,v*3,none⟩) rfl _).setCell (p:=⟨c.Bv,v*3+1,none⟩) rfl _).setCell (p:=⟨c.Bv,v*3+2,none⟩) rfl _
 have q:=cX (i:=v*3+2) (.int .u32 x.n) (cX (i:=v*3+1) (.int .i64 x.s) (cX (i:=v*3) (.bool x.p) h.vals));rw[gp,g] at q;have u:=(d.block _ (cY h.st) I).trans h.st;have l:=(d.block _ (cY h.had) C).trans h.had;have t:=cX (i:=v) (.bool true) l;rw[jY,j] at t;have r:FrS (·=c.Bh) W2 W3:=by rw[<-j];exact(FrS.refl (fun k=>k=c.Bh) W2).setCell (p:=⟨c.Bh,v,none⟩) rfl _
 have A:=(r.block _ (cY q) (fun e=>C e.symm)).trans q;have B:FrS (fun k=>k=c.Bv\/k=c.Bh) w W3:=(d.mono fun k m=>.inl m).trans (r.mono fun k m=>.inr m)
 refine⟨W2,W3,g,j,⟨y,(vX _ _ _ _ _ _ h.vals).trans (by simpa using D),(vX _ _ _ _ _ _ h.vals).trans (by simpa using E),(vX _ _ _ _ _ _ h.vals).trans (by simpa using F)⟩,
   ⟨vY _ _ _ _ _ h.vals,vY _ _ _ _ _ h.vals,vY _ _ _ _ _ h.vals⟩,vX _ _ 15 _ _ _ u,⟨z,(vX _ _ _ _ _ _ l).trans (by simp[H])⟩,vY _ _ _ _ _ l,
   d.mono fun k m=>.inr (.inl m),h.setVal B A t,B.mono fun k m=>m.elim (fun e=>.inr (.inl e)) (fun e=>.inr (.inr (.inl e)))⟩
def uR:Value->Nat
 | .slice _ n _=>n
 | _=>0
def uz (c:Cfg)(pk:List Int)(w:World)(s:Rn.St)(bl:List Int)(o:Rn.Out)(om wv bv:Value)(pick:Rn.Pick)(rs:List Rn.V)(b:Nat)(l:List Ins)(e:Ending)(w':World):Prop :=
 ∃s',FrS (Mut c) w w' /\
  ((e=.returned (.tuple #[.int .i64 0,.bool false])/\DS c pk w' s' bl Rn.long ef wv bv/\Rn.runIns c.f pick rs l 0 (Ref.number c.f b) s=(.over Rn.long,s')) \/
   (e=.returned (.tuple #[.int .i64 (rs.length:Int),.bool true])/\DS c pk w' s' bl o om wv bv/\s'.steps<=400/\Rn.Mid c.f b rs.length l s' /\
     Rn.runIns c.f pick rs l 0 (Ref.number c.f b) s=Rn.runIns c.f pick rs (l.drop rs.length) rs.length (Ref.number c.f b+rs.length) s'/\s'.widths=s.widths/\s.steps<=s'.steps))
theorem px {c:Cfg}{pk bl:List Int}{w:World}{s:Rn.St}{o:Rn.Out}{om wv bv:Value}(h:DS c pk w s bl o om wv bv)(hf:VFn c.f){b:Nat}{frm:Int}{l:List Ins}(hl:c.f.blocks[b]?=some l)(he:Rn.Ent c.f b frm l s)(hst:s.steps<=400)(pick:Rn.Pick) :
  Calls prog 124 #[.pointer (some ⟨c.Bs,0,none⟩),.int .i64 b,.int .i64 frm] w (uz c pk w s bl o om wv bv pick ((Rn.phis l).map (Rn.phiRead s frm)) b l):=by
 obtain⟨iv,bI,bK,bL,bM⟩:=info_parts tV;have I:=vz hl;have bJ:(Rn.phis l).length<=l.length:=Rn.phis_le l;have aj:0<l.length:=List.length_pos_iff.2 (Rn.val_laid hf.val I).1
 have aW:(Rn.phis l).length<l.length:=by
  rcases wh (Rn.phis l).length l.length with q|q
  ·exact q
  ·obtain⟨x,d⟩:∃x,l[l.length-1]?=some x:=⟨_,vu (by omega)⟩;have h1:=(Rn.last_iff hf.val I d).2 (by omega);have h2:=(Rn.phi_iff hf.val I d).2 (by omega);rw[h2] at h1;exact absurd h1 (by decide)
 have ar:=Ref.number_count c.f hl
 have ai:Ref.count c.f<=1000:=by
  have:=hf.val.size;have e:Ref.count c.f=c.f.params.length+Ref.total c.f.blocks:=by unfold Ref.count Ref.number;rw[wg]
  omega
 have be:s.vals.length=Ref.count c.f:=he.toMid.toInv.len;obtain⟨A,M⟩:=xJ ((Rn.phis l).map (Rn.phiRead s frm));have aw:A.length=(Rn.phis l).length:=by rw[<-M,vS]
 have aI:Hid (∀k x,l[k]?=some x->k<(Rn.phis l).length->x.op=28/\frm∈x.to/\x.to.length=x.args.length/\x.to.idxOf frm<x.args.length/\∃z:Nat,x.args[x.to.idxOf frm]?=some (z:Int)/\z<s.vals.length/\A[k]?=some (s.get (z:Int))/\s.vals[z]?=some (s.get (z:Int))):=by
  intro k x d C;have au:=(Rn.phi_iff hf.val I d).2 C
  have hp:(Rn.phis l)[k]?=some x:=by
   have:Rn.phis l <+: l:=List.takeWhile_prefix _;obtain⟨t,J⟩:=this;rw[<-J,vJ C] at d;exact d
  obtain⟨p1,p2,⟨p3,p4⟩,-,-⟩:=he.phi x (vz hp);have K:x.to.idxOf frm<x.args.length:=by rw[p2];exact List.idxOf_lt_length_iff.2 p1
  obtain⟨z,hz⟩:=vF p3;rw[hz] at p4;have ae:z<s.vals.length:=by rw[he.toMid.toInv.len];exact Int.ofNat_lt.1 p4
  refine⟨au,p1,p2.symm,K,z,?_,ae,?_,?_⟩
  ·rw[vA,vu K] at hz;rw[vu K];exact congrArg some hz
  ·rw[<-M,vH,hp];show some (Rn.phiRead s frm x)=_;unfold Rn.phiRead;rw[hz]
  ·unfold Rn.St.get;rw[vG,vA,vu ae];rfl
 have aG:Hid (∀k x,l[k]?=some x->k=(Rn.phis l).length->(x.op == 28)=false):=by
  intro k x d C;have:=Rn.phi_iff hf.val I d;simp;intro q;have:=this.1 q;omega
 have bs:=dJ M;obtain⟨F,L⟩:=xJ ((Rn.phis l).length);rw[L] at bJ aW aw aI aG;have c0:w.cell? ⟨c.Bs,0,none⟩=some c.vp:=h.cell 0;have T:w.cell? ⟨c.Bs,1,none⟩=some (.int .i64 c.f.ret):=h.cell 1;have c2:w.cell? ⟨c.Bs,2,none⟩=some c.vs:=h.cell 2;have c3:w.cell? ⟨c.Bs,3,none⟩=some c.vb:=h.cell 3;have aR:=(vy.1 hl).1;have aS:c.f.blocks.length<=100000:=by have:=hf.val.size.2.2.2.1;omega
 have CN:=dJ (fw (.agg #[c.vp,.int .i64 c.f.ret,c.vs,c.vb]) c.f b w (h.fn.mono h.n₀) (by omega) aS);obtain⟨b8,b9,b7,e,-,-,hb⟩:=h.fn;injection e with e;injection e with e;injection e with e1 e;injection e with _ e;injection e with e3 e;injection e with U _;obtain⟨Ab,cb,bc,b1,b2,b3⟩:=hb;obtain⟨bb,ob,aO,aQ,b4⟩:=b3 (by omega);obtain⟨vl,bd,bG⟩:=b4 b l hl;obtain⟨Al,cl,rfl,l1,l2,l3⟩:=bG;obtain⟨aN,ol,rfl,ah,l4⟩:=l3 aj
 have aL:Hid (∀wr,Gr w wr->wr.cell? ⟨c.Bs,3,none⟩=some (.slice (some ⟨bb,ob,none⟩) c.f.blocks.length cb)/\wr.cell? ⟨bb,ob+b,none⟩=some (.slice (some ⟨aN,ol,none⟩) l.length cl)):=fun wr g=>by
  refine⟨?_,(g.cell _ _ (Nat.lt_of_lt_of_le aQ h.n₀)).trans bd⟩;have:=(h.gr g).cell 3;have e:c.vb=.slice (some ⟨bb,ob,none⟩) c.f.blocks.length cb:=by rw[U,bc,aO]
  rw[<-e];exact this
 have aD:Hid (∀wr,Gr w wr->∀k x,l[k]?=some x->InsAt c.n₀ wr aN (ol+k*6) x):=fun wr g k x d=>(l4 k x d).below ah (Below.mono g h.n₀);have HH:=dJ h;have bk:Hid (c.n₀<=w.heap.size):=h.n₀;have HE:=dJ he;have HF:=dJ hf;have HL:=dJ hl;have bB:=dJ be;have bz:=dJ hst;have bR:=dJ aR;rw[M];have D:=dJ aw;have bQ:l.length<=1000:=by omega
 obtain⟨R,ao⟩:=xJ (Ref.number c.f b);have am:=dJ ao;rw[ao] at CN ar;have aB:=dJ (And.intro ar ai);have aH:=dJ L;obtain⟨bS,ag⟩:=xJ c.f.blocks.length;rw[ag] at aL aS aR;have bO:R<=1000:=by omega
 have aY:w.ownsRow w.heap.size 37 3 (.slice none 0 0) 0 (dy (A.take 0)):=World.ownsRow_nil _ _ _ _;have bn:Hid (∀wr,Gr w wr->wr.ownsRow w.heap.size 37 3 (.slice none 0 0) 0 (dy (A.take 0))):=fun wr g=>ew aY g;clear h he hf hl be hst M aw I L e1 U e3 bc aO bd b1 b2 b3 b4 l1 l2 l3 l4 aQ ah ao ag aY ar ai aj;have d0:=c0;have d1:=T;have d2:=c2;have d3:=c3
 go_enter func124, ntmps124
 go_wp2_with (go_at_call 80;refine CN.out.mono ?_;rintro e S ⟨rfl,g7⟩;have G7:=dJ g7;obtain⟨y3,y4⟩:=aL.out S g7;clear g7 c0 T c2 c3 d0 d1 d2 d3);clear y3 y4
 go_loopw [10] (fun Q wr=>∃(k:Nat) (A1:Option Addr) (T:Nat),k<=F/\Q=.slice A1 k T/\Hid (wr.ownsRow w.heap.size 37 3 (.slice A1 k T) k (dy (A.take k)))/\Hid (Gr w wr)) (fun Q _=>F-uR Q)
 case atStart=>exact⟨0,none,0,vU _,rfl,bn.out _ G7.out,G7⟩
 case round =>
  obtain⟨k,A1,T,C,rfl,hr,hg⟩:=hrel;obtain⟨x,d⟩:∃x,l[k]?=some x:=⟨_,vu (by omega)⟩;obtain⟨va,cc,i0,i1,i2,i3,i4,i5,ia,it⟩:=aD.out wr hg.out k x d;have aU:k<l.length:=by omega
  by_cases m:k<F
  ·obtain⟨au,a9,a8,K,z,hz,ae,a6,bf⟩:=aI.out k x d m;obtain⟨Aa,ca,rfl,a1,a2,a3⟩:=ia;obtain⟨ba,oa,rfl,bF,a4⟩:=a3 (by omega);obtain⟨At,ct,rfl,t1,t2,t3⟩:=it;obtain⟨bt,ot,rfl,bH,t4⟩:=t3 (by omega);obtain⟨op,wd,fl,args,im,tt⟩:=x;dsimp only at *;subst au;rw[a8] at i5;obtain⟨q,hq⟩:=xJ (tt.idxOf frm);have av:q<tt.length:=by rw[<-hq];exact List.idxOf_lt_length_iff.2 a9
   have hT:∀j t,tt[j]?=some t->(t=frm↔j=q)\/q<j:=fun j t J=>by
    rcases Nat.lt_trichotomy j q with e|e|e
    ·refine .inl ⟨fun r=>?_,fun r=>absurd r (by omega)⟩;rw[<-hq] at e;have:=List.not_of_lt_findIdx (p:=(· == frm)) (xs:=tt) (i:=j) e;obtain⟨hj,aq⟩:=vy.1 J;rw[aq,r] at this;simp at this
    ·refine .inl ⟨fun _=>e,fun _=>?_⟩;subst e;have:=List.getElem_idxOf (xs:=tt) (x:=frm) (by rw[hq];exact av);simp only[hq] at this;obtain⟨hj,aq⟩:=vy.1 J;rw[<-aq];exact this
    ·exact .inr e
   have HT:=dJ hT;rw[hq] at hz K;obtain⟨Wa,ap⟩:=xJ (sA wr);obtain⟨E,H⟩:=xJ (oP Wa wr.heap.size (⟨28,wd,fl,args,im,tt⟩:Ins) (.slice (some ⟨ba,oa,none⟩) args.length ca) (.slice (some ⟨bt,ot,none⟩) args.length ct));have ga:Gr wr Wa:=by rw[<-ap];exact(wL wr).alloc _
   have ac:Wa.heap[wr.heap.size]?=some (.cells #[.int .i64 0,.int .i64 0,.int .i64 0,.slice none 0 0,.int .u32 0,.slice none 0 0] 67 (0,0)):=by rw[<-ap];exact heap_alloc_new _ _
   have gb:Gr wr E:=by rw[<-H];exact gr_frs' ga (lv _ _ _ _ _) (fun k C=>by omega)
   have ad:=lw (x:=(⟨28,wd,fl,args,im,tt⟩:Ins)) (va:=.slice (some ⟨ba,oa,none⟩) args.length ca) (vt:=.slice (some ⟨bt,ot,none⟩) args.length ct) ac;rw[H] at ad;obtain⟨r0,r1,r2,r3,r4,r5⟩:=crw6 ac 0 1 2 3 4 5;obtain⟨s0,s1,s2,s3,s4,s5⟩:=frw6 ac 0 1 2 3 4 5
   have HB:Hid (∀w',Gr E w'->w'.cell? ⟨wr.heap.size,3,none⟩=some (.slice (some ⟨ba,oa,none⟩) args.length ca)/\w'.cell? ⟨wr.heap.size,5,none⟩=some (.slice (some ⟨bt,ot,none⟩) args.length ct)/\w'.cell? ⟨ba,oa+q,none⟩=some (.int .i64 z)/\∀j t,tt[j]?=some t->w'.cell? ⟨bt,ot+j,none⟩=some (.int .i64 t)):=fun w' g=>by
    have aZ:=(g.heap _ (cY ad)).trans ad;have b0:=hg.out.size;have bZ:=bk.out;exact⟨vX _ _ 3 _ _ _ aZ,vX _ _ 5 _ _ _ aZ,((gb.trans g).cell _ _ (by omega)).trans (a4 q _ hz),fun j t J=>((gb.trans g).cell _ _ (by omega)).trans (t4 j t J)⟩
   have HV:Hid (∀w',Gr E w'->w'.cell? ⟨c.Bv,z*3,none⟩=some (.bool (s.get z).p)/\w'.cell? ⟨c.Bv,z*3+1,none⟩=some (.int .i64 (s.get z).s)/\w'.cell? ⟨c.Bv,z*3+2,none⟩=some (.int .u32 (s.get z).n)/\w'.cell? ⟨c.Bs,14,none⟩=some (.slice (some ⟨c.Bv,0,none⟩) s.vals.length s.vals.length)):=fun w' g=>by
    have hp:=HH.out.gr ((hg.out.trans gb).trans g);obtain⟨e0,e1,U⟩:=dZ _ _ _ bf;rw[Nat.mul_comm] at e0 e1 U;exact⟨(vX _ _ _ _ _ _ hp.vals).trans (by simpa using e0),(vX _ _ _ _ _ _ hp.vals).trans (by simpa using e1),(vX _ _ _ _ _ _ hp.vals).trans (by simpa using U),hp.cell 14⟩
   have aJ:Hid (A.take (k+1)=A.take k++[s.get z]):=by show _=_;rw[List.take_add_one,a6];rfl
   have bp:Hid ((A.take k).length=k):=by show _=_;rw[List.length_take];have:=D.out;omega
   obtain⟨VN,aP⟩:=xJ s.vals.length;rw[aP] at HV ae;have bP:VN<=1000:=by have:=bB.out;have:=HF.out.val.size;have e:Ref.count c.f=c.f.params.length+Ref.total c.f.blocks:=by { unfold Ref.count Ref.number;rw[wg] };omega
   obtain⟨sv,a7⟩:=xJ (s.get (z:Int));rw[a7] at HV aJ;have HG:=dJ (hg.out.trans gb);have bq:=dJ (ew hr.out gb);have aE:=dJ m;have bA:Hid (∀j,j<=q->∃t,tt[j]?=some t):=fun j hj=>⟨_,vu (Nat.lt_of_le_of_lt hj av)⟩;have bg:Hid (Gr E E):=wL _;clear d a9 a8 av a6 bf hz a3 a4 t3 t4 hT hq ga gb ac ad aP a7 bF bH hg hr m C;unfold sA at ap;unfold oP at H;dsimp only at H;go_wp2;clear r0 r1 r2 r3 r4 r5 s0 s1 s2 s3 s4 s5 i0 i1 i2 i3 i4 i5 aU
   go_loopw [10,12] (fun Q ay w8=>∃j:Nat,j<=q/\ay=.int .i64 (j:Int)/\Q=.slice A1 k T/\Hid (Gr E w8)) (fun _ ay _=>q-(intOf ay).toNat)
   case atStart=>exact⟨0,vU _,rfl,rfl,bg⟩
   case round =>
    obtain⟨j,hj,rfl,rfl,h8⟩:=hrel;obtain⟨t,J⟩:=bA.out j hj;obtain⟨z3,z5,za,zt⟩:=HB.out _ h8.out;have zt:=zt j t J;by_cases ab:j=q
    ·have e:t=frm:=((HT.out j t J).resolve_right (by omega)).2 ab;subst e;subst ab;obtain⟨v0,v1,v2,v3⟩:=HV.out _ h8.out;have G8:=dJ (HG.out.trans h8.out);have R8:=dJ (ew bq.out h8.out);clear J hj;have mixed:(prog).follows .mixedOrders=true:=by kernel_rfl
     have R9:=dJ (ew R8.out ((wL wr).drew));go_wp2
     go_region_law_o ((refine lo (n:=k) (v:=.slice A1 k T) (y:=sv) underlying78 bI bK bL bM rfl (by omega) rfl (.tmp 61) (.tmp 74) rfl bp.out rfl R9.out rfl (by have:=aE.out;omega) (by show _<=wr.heap.size;exact G8.out.size) ?_;intro A6 c6 w6 aX aT;
                        have R6:Hid (w6.ownsRow w.heap.size 37 3 (.slice A6 (k+1) c6) (k+1) (dy (A.take (k+1)))):=(by show World.ownsRow _ _ _ _ _ _ _;rw[aJ.out];exact aX);
                        have G6:=dJ (jP (G8.out.trans (((wL wr).drew).alloc _)) aT (fun k C=>(dx R9.out k C).1));clear aX aT))
     all_goals
      go_wp2;have bX:=aE.out;refine⟨?_,?_⟩
      ·(repeat apply Exists.intro);exact⟨⟨k+1,A6,c6,by omega,rfl,R6,G6⟩,rfl⟩
      ·show F-(k+1)<F-k;omega
    ·have e:¬t=frm:=fun r=>ab (((HT.out j t J).resolve_right (by omega)).1 r);have bW:j<q:=by omega
     clear J hj ab za;go_wp2;exact⟨⟨j+1,by omega,by go_num,rfl,h8⟩,by simp[intOf];omega⟩
  ·obtain rfl:F=k:=by omega
   have aV:=aG.out F x d rfl;obtain⟨E,H⟩:∃E,E=wr:=⟨_,rfl⟩;subst H;clear d i1 i2 i3 i4 i5 ia it;go_wp2;clear i0 aV m C aU;have a5:A.take F=A:=vO (by rw[D.out];exact vV _);rw[a5] at hr;have D0:=dJ (HH.out.gr hg.out);have HR:Hid (∀aA,FrS (Mut c) E aA->aA.ownsRow w.heap.size 37 3 (.slice A1 F T) F (dy A)):=fun aA f=>qg hr.out fun k C=>f.block k (mU hr.out C).2 (fun q=>by have h1:=(mU hr.out C).1;have h2:=HH.out.lt (.inl q);omega);have aK:Hid (∀w',FrS (Mut c) E w'->FrS (Mut c) w w'):=fun w' f=>(FrS.of_gr hg.out).trans f;have aC:Hid (FrS (Mut c) E E):=FrS.refl _ _;have an:Hid (Rn.runIns c.f pick A l 0 R s=Rn.runIns c.f pick A (l.drop 0) 0 (R+0) s):=by show _=_;rw[List.drop_zero,Nat.add_zero]
   have al:Hid (Rn.Mid c.f b 0 l s):=HE.out.toMid;have aM:Hid (s.widths=s.widths/\s.steps<=s.steps):=⟨rfl,vV _⟩;clear a5 hr hg
   go_loopw [13] (fun az wr=>∃(i:Nat) (s':Rn.St),i<=F/\az=.int .i64 (i:Int)/\Hid (s'.steps<=400)/\Hid (DS c pk wr s' bl o om wv bv)/\Hid (FrS (Mut c) E wr)/\Hid (Rn.Mid c.f b i l s')/\Hid (Rn.runIns c.f pick A l 0 R s=Rn.runIns c.f pick A (l.drop i) i (R+i) s')/\Hid (s'.widths=s.widths/\s.steps<=s'.steps)) (fun az _=>F-(intOf az).toNat)
   case atStart=>exact⟨0,s,vU _,rfl,bz,D0,aC,al,an,aM⟩
   case round =>
    obtain⟨i,s',hi,rfl,ak,hd,aa,hm,O,ax⟩:=hrel;by_cases m:i<F
    ·obtain⟨x,d⟩:∃x,l[i]?=some x:=⟨_,vu (by omega)⟩;have Z:l.drop i=x::l.drop (i+1):=by rw[vM (by omega)];congr 1;rw[vu (by omega)] at d;injection d
     obtain⟨y,hy⟩:∃y,A[i]?=some y:=⟨_,vu (by rw[D.out];exact m)⟩;by_cases B:s'.steps=400
     ·have CT:=dJ (jl hd.out B);have bo:Hid (Rn.runIns c.f pick A l 0 R s=(.over Rn.long,s')):=by (show _=_);rw[O.out,Z,fT B]
      clear d Z hy B;go_wp2_with (go_at_call 125;refine CT.out.mono ?_;rintro e S ⟨rfl,p7,f7⟩;have P7:=dJ p7;have F7:=dJ (aK.out _ (aa.out.trans (f7.mono fun k C=>.inl C)));clear p7 f7);go_ret2;exact⟨s',F7.out,.inl ⟨rfl,P7.out,by rw[am.out];exact bo.out⟩⟩
     ·have G:s'.steps<400:=by have:=ak.out;omega
      have CT:=dJ (mG hd.out G);obtain⟨v,hv⟩:=xJ (R+i);have b6:(R:Int)+(i:Int)=(v:Int):=by omega
      have a0:=HR.out wr aa.out;have bu:=dJ (fun w' (f:FrS (Mut c) E w')=>HR.out w' f)
      have af:Hid (v<s'.tick.vals.length):=by
       show v<s'.vals.length;rw[hm.out.toInv.len];have:=aB.out;omega
      obtain⟨N,hN⟩:=xJ s'.vals.length;have b5:v<N:=by rw[<-hN];exact af.out
      have aF:Hid (s'.tick.vals.length=N):=hN;have bT:N<=1000:=by rw[<-hN,hm.out.toInv.len];exact aB.out.2
      have bh:=dJ hy
      have bm:Hid (Rn.runIns c.f pick A l 0 R s=Rn.runIns c.f pick A (l.drop (i+1)) (i+1) (R+(i+1)) (s'.tick.set v y)):=by
       show _=_;rw[O.out,Z,jB B (by rw[D.out];exact m),vA,hy,<-hv];rfl
      have bj:Hid (Rn.Mid c.f b (i+1) l (s'.tick.set v y)):=by
       have:=Rn.phi_set HF.out.val HE.out (hm.out.like (Rn.like_tick s')) HL.out d (by rw[aH.out];exact m);rw[bs.out,am.out,vA,hy,hv] at this;exact this
      have bx:Hid ((s'.tick.set v y).steps<=400):=by show s'.steps+1<=400;omega
      have bi:Hid (i<F):=m;have bC:Hid ((s'.tick.set v y).widths=s.widths/\s.steps<=(s'.tick.set v y).steps):=⟨ax.out.1,Nat.le_succ_of_le ax.out.2⟩;clear d Z B G hN a0;go_wp2_with (go_at_call 125;refine CT.out.mono ?_;rintro e S ⟨rfl,p7,f7⟩;have P7:=dJ p7;have F7:=dJ (aa.out.trans (f7.mono fun k C=>.inl C));clear p7 f7);obtain⟨br,rfl,X,-,Y⟩:=dz (bu.out S F7.out) rfl (by omega);obtain⟨e0,e1,U⟩:=dZ A i y bh.out;rw[Nat.mul_comm] at e0 e1 U;have U0:∀u:GrW S,u.val.cell? ⟨br,i*3,none⟩=some (.bool y.p):=fun u=>(u.gr.cell _ _ X).trans ((Y _ (by omega)).trans e0);have U1:∀u:GrW S,u.val.cell? ⟨br,i*3+1,none⟩=some (.int .i64 y.s):=fun u=>(u.gr.cell _ _ X).trans ((Y _ (by omega)).trans e1);have U2:∀u:GrW S,u.val.cell? ⟨br,i*3+2,none⟩=some (.int .u32 y.n):=fun u=>(u.gr.cell _ _ X).trans ((Y _ (by omega)).trans U)
      have bD:∀u:GrW S,u.val.cell? ⟨c.Bs,14,none⟩=some (.slice (some ⟨c.Bv,0,none⟩) N N):=fun u=>by
       have:=(P7.out.gr u.gr).cell 14;rw[aF.out] at this;exact this
      clear e0 e1 U X Y;refine dO (W:=S) 13 (wL S) (by kernel_rfl) (by kernel_rfl) ?_;simp only[wt,List.take_zero,wz,List.drop_zero];repeat (go_big_quiet_step (fail))
      refine wpQuiet_nil ?_;intro w9 bN;obtain⟨u9,rfl⟩:=bN;clear U0 U1 U2 bD;obtain⟨W2,W3,bU,bV,⟨y',d0,d1,d2⟩,⟨f0,f1,f2⟩,bE,⟨zz,eh⟩,fh,-,p3,f3⟩:=(P7.out.gr u9.gr).write v af.out y;rw[aF.out] at bE;have P3:=dJ p3;have F3:=dJ ((F7.out.trans (FrS.of_gr u9.gr)).trans f3);clear p3 f3;go_wp2;have bY:=bi.out;exact⟨⟨i+1,s'.tick.set v y,by omega,by go_num,bx,P3,F3,bj,bm,bC⟩,by simp[intOf];omega⟩
    ·obtain rfl:i=F:=by omega
     clear m hi;go_wp2;go_ret2;exact⟨s',aK.out _ aa.out,.inr ⟨by rw[D.out];rfl,hd.out,ak.out,by rw[D.out];exact hm.out,by rw[am.out,D.out];exact O.out,ax.out⟩⟩
def DRX (c:Cfg)(pk:List Int)(w:World)(bl:List Int)(o:Rn.Out)(om wv bv:Value)(r:Rn.Res × Rn.St)(e:Ending)(w':World):Prop :=
 match r with
 | (.val v,s')=>uc c pk w s' bl o om wv bv (some v) e w'
 | (.on,s')=>uc c pk w s' bl o om wv bv (some Rn.zero) e w'
 | (.fin _,s')=>uc c pk w s' bl o om wv bv none e w'
 | (.go _,_)=>False
def DLX (c:Cfg)(pk:List Int)(w:World)(s:Rn.St)(bl:List Int)(o:Rn.Out)(om wv bv:Value)(r:Rn.Res × Rn.St)(e:Ending)(w':World):Prop :=
 match r with
 | (.go t,s')=>s'=s/\e=.returned (.int .i64 t)/\DS c pk w' s bl o om wv bv/\FrS (·=c.Bs) w w'
 | (.fin o',s')=>s'=s/\e=.returned (.int .i64 (-1))/\DS c pk w' s bl o' (pV c o') wv bv/\FrS (·=c.Bs) w w'
 | _=>False
section
variable {c:Cfg}{pk bl:List Int}{w:World}{s:Rn.St}{o:Rn.Out}{om wv bv:Value}
theorem po (h:DS c pk w s bl o om wv bv)(pick:Rn.Pick)(x:Ins)(va vt vl:Value)(hs:Rn.Shp c.f x)(ho:29<=x.op)(hv:∀v∈x.args,0<Ref.kind c.f v->Rn.VOK c.f (Ref.kind c.f v) (s.get v))(hl:VsAt w vl (x.args.map s.get))(ht:IntsAt w.heap.size w vt x.to) :
  Calls prog 127 #[.pointer (some ⟨c.Bs,0,none⟩),df x va vt,vl] w (DLX c pk w s bl o om wv bv (Rn.exec c.f pick x s)):=by
 have g:∀{t:Int} {e:Ending} {w':World},Rn.exec c.f pick x s=(.go t,s)->e=.returned (.int .i64 t)/\Gr w w'->DLX c pk w s bl o om wv bv (Rn.exec c.f pick x s) e w':=fun e q=>by
  rw[e];exact⟨rfl,q.1,h.gr q.2,FrS.of_gr q.2⟩
 have fin:∀{o':Rn.Out} {e:Ending} {w':World},Rn.exec c.f pick x s=(.fin o',s)->e=.returned (.int .i64 (-1))/\DS c pk w' s bl o' (pV c o') wv bv/\FrS (·=c.Bs) w w'->DLX c pk w s bl o om wv bv (Rn.exec c.f pick x s) e w':=fun e q=>by
  rw[e];exact⟨rfl,q⟩
 cases hs with
 | jump q ha t ht' hw =>
  rw[ht'] at ht;exact(nB h x va vt vl t q ht).mono fun e w' r=>g (by simp[Rn.exec,q,ha,ht']) r
 | trap q ha hw=>exact(nD h x va vt vl q).mono fun e w' r=>fin (by simp[Rn.exec,q,ha]) r
 | ret0 q ha hr hw =>
  rw[ha] at hl;exact(nC h x va vt vl q hl).mono fun e w' r=>fin (o':=⟨0,Rn.zero,s.mem⟩) (by simp[Rn.exec,q,ha]) r
 | ret q a ha ka hr hw =>
  rw[ha] at hl;exact(pu h x va vt vl q (s.get a) hl).mono fun e w' r=>fin (o':=⟨0,s.get a,s.mem⟩) (by simp[Rn.exec,q,ha]) r
 | branch q a ha ka t u ht' hw =>
  have l:=hv a (by rw[ha];simp) (by omega);rw[ha] at hl;rw[ht'] at ht
  cases hp:(s.get a).p with
  | true=>exact(pt h x va vt vl t u q (s.get a) hp hl).mono fun e w' r=>fin (by simp[Rn.exec,q,ha,hp]) r
  | false =>
   rw[ka] at l;have d:=(l.num ⟨by decide,by decide⟩).2;have m:Wd.sz 1=2:=by decide
   have j:=d.2;rw[m] at j;rcases (by have:=d.1;omega:(s.get a).n=0\/(s.get a).n=1) with hn|hn
   ·exact(pq h x va vt vl t u q ht (s.get a) hp hn hl).mono fun e w' r=>g (by simp[Rn.exec,q,ha,hp,hn,ht']) r
   ·exact(pr h x va vt vl t u q ht (s.get a) hp hn hl).mono fun e w' r=>g (by simp[Rn.exec,q,ha,hp,hn,ht']) r
 | const q=>omega
 | arith q=>omega
 | cmp q=>omega
 | select q=>omega
 | ext q=>omega
 | lanes q=>omega
 | freeze q=>omega
 | poison q=>omega
 | any q=>omega
 | addr q=>omega
 | gep q=>omega
 | load q=>omega
 | store q=>omega
 | phi q=>omega
theorem nr {o fl n:Int}{A B:Rn.V}(hA:A.p=false)(hB:B.p=false)(hb:iX o n A B=false):Rn.arith o fl n A B=some (tN o fl n A.n B.n):=by
 unfold iX at hb;rw[decide_eq_false_iff_not] at hb;unfold Rn.arith;rw[wb hb,wb (by rw[hA,hB];simp)];unfold tN Wd.broken
 cases Wd.op o n A.n B.n with
 | none=>rfl
 | some z =>
  dsimp only;simp only[Option.isSome_some,Bool.true_and];split <;> rfl
theorem pa {o fl n:Int}{A B:Rn.V}(hb:iX o n A B=true):Rn.arith o fl n A B=none:=by
 unfold iX at hb;rw[decide_eq_true_iff] at hb;unfold Rn.arith;rw[wa hb]
theorem pb {o fl n:Int}{A B:Rn.V}(hp:A.p=true\/B.p=true)(hb:iX o n A B=false):Rn.arith o fl n A B=some Rn.poison:=by
 unfold iX at hb;rw[decide_eq_false_iff_not] at hb;unfold Rn.arith;rw[wb hb,wa hp]
theorem lK {o n:Int}{A B:Rn.V}(h:¬(4<=o/\o<=7)):iX o n A B=false:=by
 unfold iX;rw[decide_eq_false_iff_not];exact fun q=>h q.1
theorem gY (h:DS c pk w s bl o om wv bv)(pick:Rn.Pick)(x:Ins)(va vt vl vk:Value)(n0:¬x.op=0)(n22:¬x.op=22)(n23:¬x.op=23)(n24:¬x.op=24)(n21:¬x.op=21)(n15:¬x.op=15)(n26:¬x.op=26)(n27:¬x.op=27)
  (A B:Rn.V) (hl:VsAt w vl [A,B]) (hd:4<=x.op/\x.op<=7->Wd.Wid x.width/\Wd.Word x.width A.n/\Wd.Word x.width B.n) (v:Rn.V) (hs:A.p=false->B.p=false->iX x.op x.width A B=false->∀w',Gr w w'->Calls prog 157 #[.pointer (some ⟨c.Bs,0,none⟩),df x va vt,vl,vk] w' fun e w''=>e=.returned (vv v)/\Gr w' w'')
  (e0:iX x.op x.width A B=true->Rn.exec c.f pick x s=(.fin Rn.undefd,s)) (e1:iX x.op x.width A B=false->(A.p=true\/B.p=true)->Rn.exec c.f pick x s=(.val Rn.poison,s)) (e2:iX x.op x.width A B=false->A.p=false->B.p=false->Rn.exec c.f pick x s=(.val v,s)) :
  Calls prog 128 #[.pointer (some ⟨c.Bs,0,none⟩),df x va vt,vl,vk] w (DRX c pk w bl o om wv bv (Rn.exec c.f pick x s)):=by
 cases hb:iX x.op x.width A B with
 | true=>rw[e0 hb];exact lN h x va vt vl vk n0 n22 n23 n24 n21 n15 n26 n27 A B hl hd hb
 | false =>
  cases hA:A.p with
  | true=>rw[e1 hb (.inl hA)];exact kC h x va vt vl vk n0 n22 n23 n24 n21 n15 n26 n27 A B hl hd hb hA
  | false =>
   cases hB:B.p with
   | true=>rw[e1 hb (.inr hB)];exact kD h x va vt vl vk n0 n22 n23 n24 n21 n15 n26 n27 A B hl hd hb hA hB
   | false=>rw[e2 hb hA hB];exact kE h x va vt vl vk n0 n22 n23 n24 n21 n15 n26 n27 A B hl hd hb hA hB v (hs hA hB hb)
theorem IntsAt.grW {a b:World}{v:Value}{zs:List Int}(h:IntsAt a.heap.size a v zs)(g:Gr a b):IntsAt b.heap.size b v zs:=(h.below g).mono g.size
theorem lL (h:DS c pk w s bl o om wv bv)(hf:VFn c.f)(hi:Rn.Inv c.f s)(hBm:c.Bm<w.heap.size)(hpk:∀z∈pk,0<=z/\z<4294967296)(hpl:pk.length<=1000)(hw:s.widths.length<=1000)(x:Ins)(va vt vl vk:Value)(hs:Rn.Shp c.f x)(ho:x.op<28)
  (hv:∀v∈x.args,0<Ref.kind c.f v->Rn.VOK c.f (Ref.kind c.f v) (s.get v)) (hl:VsAt w vl (x.args.map s.get)) (hk:IntsAt w.heap.size w vk (x.args.map (Ref.kind c.f))) :
  Calls prog 128 #[.pointer (some ⟨c.Bs,0,none⟩),df x va vt,vl,vk] w (DRX c pk w bl o om wv bv (Rn.exec c.f (Rn.given pk) x s)):=by
 cases hs with
 | const q ha hw' hi' =>
  rw[show Rn.exec c.f (Rn.given pk) x s=(.val (Rn.word x.imm),s) by simp[Rn.exec,q,ha,Rn.plain]];exact jL h x va vt vl vk q
 | addr q ha hw' hi' =>
  rw[show Rn.exec c.f (Rn.given pk) x s=(.val ⟨false,x.imm+1,0⟩,s) by simp[Rn.exec,q,ha,Rn.plain]];exact kw h x va vt vl vk q ⟨hi'.1,by have:=hf.val.size.2.1;omega⟩
 | poison q ha hw' =>
  rw[show Rn.exec c.f (Rn.given pk) x s=(.val Rn.poison,s) by simp[Rn.exec,q,ha]];exact iZ h x va vt vl vk q
 | any q ha hw' =>
  rw[show Rn.exec c.f (Rn.given pk) x s=(.val (Rn.chosen (Rn.given pk) s x.width),s.chose x.width) by simp[Rn.exec,q,ha]];exact lM h x va vt vl vk hBm hpk hpl hw' hw q
 | freeze q a ha ka hw' =>
  rw[ha] at hl
  cases j:(s.get a).p with
  | true =>
   rw[show Rn.exec c.f (Rn.given pk) x s=(.val (Rn.chosen (Rn.given pk) s x.width),s.chose x.width) by simp[Rn.exec,q,ha,j]];exact io h x va vt vl vk hBm hpk hpl hw' hw q (s.get a) j hl
  | false =>
   rw[show Rn.exec c.f (Rn.given pk) x s=(.val (s.get a),s) by simp[Rn.exec,q,ha,j]];exact iY h x va vt vl vk q (s.get a) j hl
 | select q a b d ha ka kb kd hw' =>
  have t:=hv a (by rw[ha];simp) (by omega);rw[ha] at hl
  cases j:(s.get a).p with
  | true =>
   rw[show Rn.exec c.f (Rn.given pk) x s=(.val Rn.poison,s) by simp[Rn.exec,q,ha,j]];exact ix h x va vt vl vk q (s.get a) (s.get b) (s.get d) j hl
  | false =>
   rw[ka] at t;have I:=(t.num ⟨by decide,by decide⟩).2;have J:Wd.sz 1=2:=by decide
   have K:=I.2;rw[J] at K;rcases (by have:=I.1;omega:(s.get a).n=0\/(s.get a).n=1) with D|D
   ·rw[show Rn.exec c.f (Rn.given pk) x s=(.val (s.get d),s) by simp[Rn.exec,q,ha,j,D]];exact ip h x va vt vl vk q (s.get a) (s.get b) (s.get d) j D hl
   ·rw[show Rn.exec c.f (Rn.given pk) x s=(.val (s.get b),s) by simp[Rn.exec,q,ha,j,D]];exact iq h x va vt vl vk q (s.get a) (s.get b) (s.get d) j D hl
 | load q a ha ka hw' =>
  have t:=hv a (by rw[ha];simp) (by omega);rw[ka] at t;rw[ha] at hl
  obtain⟨n,E,F,D⟩:∃n:Nat,1<=n/\n<=4/\x.width=8*(n:Int):=by
   rcases hw' with e|e|e
   ·exact⟨1,by omega,by omega,by omega⟩
   ·exact⟨2,by omega,by omega,by omega⟩
   ·exact⟨4,by omega,by omega,by omega⟩
  have G:(x.width / 8).toNat=n:=by omega
  have e:Rn.exec c.f (Rn.given pk) x s=match Rn.load s.mem (s.get a) n with|none=>(Rn.Res.fin Rn.undefd,s)|some v=>(Rn.Res.val v,s):=by
   unfold Rn.exec;simp[q,ha,G];rfl
  have C:=ky h x va vt vl vk hf hi q (s.get a) hl t n E F D;rw[e]
  cases hr:Rn.load s.mem (s.get a) n with
  | none=>rw[hr] at C;exact C
  | some v=>rw[hr] at C;exact C
 | store q a b ha ka kb hw' =>
  have t:=hv a (by rw[ha];simp) (by omega);have B:=hv b (by rw[ha];simp) (by rcases kb with e|e|e <;> omega);have l:=(B.num (by rcases kb with e|e|e <;> rw[e] <;> exact⟨by decide,by decide⟩)).2
  have H:(s.get b).n<4294967296:=by
   have:=Wd.sz_32 (n:=Ref.kind c.f b) (by rcases kb with e|e|e <;> rw[e] <;> exact⟨by decide,by decide⟩);have:=l.2;omega
  rw[ka] at t;rw[ha] at hl hk
  obtain⟨n,E,F,D⟩:∃n:Nat,1<=n/\n<=4/\Ref.kind c.f b=8*(n:Int):=by
   rcases kb with e|e|e
   ·exact⟨1,by omega,by omega,by omega⟩
   ·exact⟨2,by omega,by omega,by omega⟩
   ·exact⟨4,by omega,by omega,by omega⟩
  have G:(Ref.kind c.f b / 8).toNat=n:=by omega
  have e:Rn.exec c.f (Rn.given pk) x s=match Rn.store s.mem (s.get a) (s.get b) n with|none=>(Rn.Res.fin Rn.undefd,s)|some m=>(Rn.Res.on,{ s with mem:=m }):=by
   unfold Rn.exec;simp[q,ha,G];rfl
  rw[e]
  cases hr:Rn.store s.mem (s.get a) (s.get b) n with
  | none=>exact ja h x va vt vl vk hBm hf hi q (s.get a) (s.get b) _ _ hl hk t n E F ⟨l.1,H⟩ D hr
  | some m=>exact jb h x va vt vl vk hBm hf hi q (s.get a) (s.get b) _ _ hl hk t n E F ⟨l.1,H⟩ D m hr
 | arith q a b ha ka kb hw' hfl =>
  have t:=hv a (by rw[ha];simp) (by have:=hw'.1;omega);have B:=hv b (by rw[ha];simp) (by have:=hw'.1;omega);rw[ka] at t;rw[kb] at B;have u:=(t.num hw').2;have l:=(B.num hw').2;rw[ha] at hl hk
  have e:Rn.exec c.f (Rn.given pk) x s=match Rn.arith x.op x.flags x.width (s.get a) (s.get b) with|none=>(Rn.Res.fin Rn.undefd,s)|some v=>(Rn.Res.val v,s):=by
   unfold Rn.exec;dsimp only;repeat rw[wb (by omega)]
   rw[wa q,ha];rfl
  exact gY h (Rn.given pk) x va vt vl vk (by omega) (by omega) (by omega) (by omega) (by omega) (by omega) (by omega) (by omega) (s.get a) (s.get b) hl (fun _=>⟨hw',u,l⟩) (tN x.op x.flags x.width (s.get a).n (s.get b).n)
   (fun _ _ _ w' g=>jN c.Bs x va vt vl vk (s.get a) (s.get b) _ _ (hl.gr g) (hk.grW g) q hfl hw' u l)
   (fun A=>by rw[e,pa A]) (fun A j=>by rw[e,pb j A]) (fun A j y=>by rw[e,nr j y A])
 | cmp q a b ha kb hk' hw' him =>
  have t:=hv a (by rw[ha];simp) (by have:=hk'.1;omega);have B:=hv b (by rw[ha];simp) (by have:=hk'.1;omega);rw[kb] at B;have u:=(t.num hk').2;have l:=(B.num hk').2;rw[ha] at hl hk
  exact gY h (Rn.given pk) x va vt vl vk (by omega) (by omega) (by omega) (by omega) (by omega) (by omega) (by omega) (by omega) (s.get a) (s.get b) hl (fun r=>by omega) (Rn.truth (Wd.cmp x.imm (Ref.kind c.f a) (s.get a).n (s.get b).n))
   (fun _ _ _ w' g=>lO c.Bs x va vt vl vk (s.get a) (s.get b) _ _ (hl.gr g) (hk.grW g) q him hk' u l)
   (fun A=>by rw[lK (by omega)] at A;cases A) (fun _ j=>by rcases j with j|j <;> simp[Rn.exec,q,ha,j]) (fun _ j y=>by simp[Rn.exec,q,ha,j,y,Rn.plain])
 | lanes q a b ha ka kb hw' h1 J h3 =>
  have t:=hv a (by rw[ha];simp) (by have:=hw'.1;omega);have B:=hv b (by rw[ha];simp) (by have:=hw'.1;omega);rw[ka] at t;rw[kb] at B;have u:=(t.num hw').2;have l:=(B.num hw').2;rw[ha] at hl hk
  exact gY h (Rn.given pk) x va vt vl vk (by omega) (by omega) (by omega) (by omega) (by omega) (by omega) (by omega) (by omega) (s.get a) (s.get b) hl (fun r=>by omega) (Rn.word (Wd.lanes x.op x.imm (x.width / x.imm).toNat (s.get a).n (s.get b).n))
   (fun _ _ _ w' g=>jO c.Bs x va vt vl vk (s.get a) (s.get b) _ _ (hl.gr g) (hk.grW g) q hw' u l h1 J h3)
   (fun A=>by rw[lK (by omega)] at A;cases A) (fun _ j=>by rcases q with q|q <;> rcases j with j|j <;> simp[Rn.exec,q,ha,j]) (fun _ j y=>by rcases q with q|q <;> simp[Rn.exec,q,ha,j,y,Rn.plain])
 | gep q a b ha ka kb hw' hfl =>
  have t:=hv a (by rw[ha];simp) (by omega);have B:=hv b (by rw[ha];simp) (by have:=kb.1;omega);rw[ka] at t;have l:=(B.num kb).2;rw[ha] at hl hk
  exact gY h (Rn.given pk) x va vt vl vk (by omega) (by omega) (by omega) (by omega) (by omega) (by omega) (by omega) (by omega) (s.get a) (s.get b) hl (fun r=>by omega) (Rn.gep c.f.slots x.flags (Ref.kind c.f b) (s.get a) (s.get b))
   (fun j _ _ w' g=>lQ (h.gr g) hf x va vt vl vk (s.get a) (s.get b) _ _ (hl.gr g) (hk.grW g) q t j kb l)
   (fun A=>by rw[lK (by omega)] at A;cases A) (fun _ j=>by rcases j with j|j <;> simp[Rn.exec,q,ha,j]) (fun _ j y=>by simp[Rn.exec,q,ha,j,y,Rn.plain])
 | ext q a ha hk' hw' hd =>
  have t:=hv a (by rw[ha];simp) (by have:=hk'.1;omega);have u:=(t.num hk').2;rw[ha] at hl hk
  cases j:(s.get a).p with
  | true =>
   rw[show Rn.exec c.f (Rn.given pk) x s=(.val Rn.poison,s) by rcases q with q|q|q <;> simp[Rn.exec,q,ha,j]];exact kA h x va vt vl vk (by omega) (by omega) (by omega) (by omega) (by omega) (by omega) (by omega) (by omega) (s.get a) hl j
  | false =>
   rw[show Rn.exec c.f (Rn.given pk) x s=(.val (Rn.word (Wd.ext x.op (Ref.kind c.f a) x.width (s.get a).n)),s) by rcases q with q|q|q <;> simp[Rn.exec,q,ha,j,Rn.plain]]
   exact kB h x va vt vl vk (by omega) (by omega) (by omega) (by omega) (by omega) (by omega) (by omega) (by omega) (s.get a) hl j _
    (fun w' g=>lP c.Bs x va vt vl vk (s.get a) _ (hl.gr g) (hk.grW g) q hk' hw' u hd)
 | phi q=>omega
 | jump q=>omega
 | branch q=>omega
 | ret0 q=>omega
 | ret q=>omega
 | trap q=>omega
end
end
end Go.Proofs.YthfhamagopbgcaaGreat
