import Derived.Test.YtjkajidbdmbbaaaGreatN42
set_option linter.unusedSimpArgs false
set_option linter.unusedVariables false
set_option maxRecDepth 100000
set_option maxHeartbeats 16000000
open Go.Proofs.Tryz
namespace Go.Proofs.YtjkajidbdmbbaaaGreat
open Ref Rn Wd Ir Rf
variable {a:Act}{K:Act->World->Prop}{ops:Array Oper}{args:Array Value}{c:Cfg}{Q:Exit->Act->World->Prop}{f:Fn}{x:Ins}{fl frm n:Int}{mem:List (List Int)}{had:List Bool}{l:List Ins}{bl picks pk ys zs:List Int}{xs:List Value}{B Bh Bv C N b g k r sz:Nat}{S:Nat->Prop}{o:Oper}{A A8:Option Addr}{P:Program}{e t:TypeId}{bv om u v vf vm wv z:Value}{T W w w':World}
section
open Go.RowKit
def ed:Value:=.slice none 0 0
def rD (c:Cfg)(o:zO):Value:=if o.kind=0 then c.mv else ed
theorem kr {s:AN}{o:zO}(h:DS c pk w s bl o om wv bv)(k:Int)(r:Rn.V)(hk:¬k=0) :
  Calls prog 158 #[.pointer (some ⟨c.Bs,0,none⟩),.int .i64 k,vv r] w fun e w'=>e=.returned (.tuple #[])/\DS c pk w' s bl ⟨k,Rn.zero,[]⟩ ed wv bv/\FrS (·=c.Bs) w w':=by
 obtain⟨W,l⟩:=xJ (w.alloc (.cells #[.bool r.p,.int .i64 r.s,.int .u32 r.n] 24));have d:Gr w W:=by rw[<-l];exact(yO w).alloc _
 have hh:=h.gr d;have I:W.cell? ⟨w.heap.size,0,none⟩=some (.bool r.p):=df _ _ 0 (by rw[l];exact yO W) rfl;have J:W.cell? ⟨w.heap.size,1,none⟩=some (.int .i64 r.s):=df _ _ 1 (by rw[l];exact yO W) rfl;have K:W.cell? ⟨w.heap.size,2,none⟩=some (.int .u32 r.n):=df _ _ 2 (by rw[l];exact yO W) rfl;have H:c.Bs≠w.heap.size:=by have:=cY h.st;omega
 have A:W.cell? ⟨c.Bs,4,none⟩=some (.slice c.Am c.us.length c.cm):=hh.cell 4;have B:W.cell? ⟨c.Bs,6,none⟩=some (.int .i64 o.kind):=hh.cell 6;have C:W.cell? ⟨c.Bs,7,none⟩=some (.bool o.ret.p):=hh.cell 7;have D:W.cell? ⟨c.Bs,8,none⟩=some (.int .i64 o.ret.s):=hh.cell 8;have E:W.cell? ⟨c.Bs,9,none⟩=some (.int .u32 o.ret.n):=hh.cell 9;have u:W.cell? ⟨c.Bs,10,none⟩=some om:=hh.cell 10;obtain⟨f6,F,f8,G,y⟩:=frw5 hh.st 6 7 8 9 10;obtain⟨z,m⟩:=xJ ((((((W.setCell ⟨c.Bs,6,none⟩ (.int .i64 k)).setCell ⟨c.Bs,7,none⟩ (.bool false)).setCell ⟨c.Bs,8,none⟩ (.int .i64 0)).setCell ⟨c.Bs,9,none⟩ (.int .u32 0)).setCell ⟨c.Bs,10,none⟩ (.slice none 0 0)));have g:=(cX (i:=10) (.slice none 0 0) (cX (i:=9) (.int .u32 0) (cX (i:=8) (.int .i64 0) (cX (i:=7) (.bool false) (cX (i:=6) (.int .i64 k) hh.st)))));have j:=((((((FrS.refl (fun k=>k=c.Bs) W).setCell (p:=⟨c.Bs,6,none⟩) rfl (.int .i64 k)).setCell (p:=⟨c.Bs,7,none⟩) rfl (.bool false)).setCell (p:=⟨c.Bs,8,none⟩) rfl (.int .i64 0)).setCell (p:=⟨c.Bs,9,none⟩) rfl (.int .u32 0)).setCell (p:=⟨c.Bs,10,none⟩) rfl (.slice none 0 0));rw[m]at g j;have q:=hh.row (k:=s.t) (o':=⟨k,Rn.zero,[]⟩) (om':=ed) j g;have t:=dJ (And.intro q ((FrS.of_gr (S:=(·=c.Bs)) d).trans j));clear q;clear g j h hh d;unfold vv
 go_enter func158, ntmps158
 go_wp2
 go_end0
 exact⟨rfl,t.out⟩
theorem lk {s:AN}{o:zO}(h:DS c pk w s bl o om wv bv)(r:Rn.V) :
  Calls prog 158 #[.pointer (some ⟨c.Bs,0,none⟩),.int .i64 0,vv r] w fun e w'=>e=.returned (.tuple #[])/\DS c pk w' s bl ⟨0,r,s.mem⟩ c.mv wv bv/\FrS (·=c.Bs) w w':=by
 obtain⟨W,u⟩:=xJ (w.alloc (.cells #[.bool r.p,.int .i64 r.s,.int .u32 r.n] 24));have m:Gr w W:=by rw[<-u];exact(yO w).alloc _
 have hh:=h.gr m;have J:W.cell? ⟨w.heap.size,0,none⟩=some (.bool r.p):=df _ _ 0 (by rw[u];exact yO W) rfl;have K:W.cell? ⟨w.heap.size,1,none⟩=some (.int .i64 r.s):=df _ _ 1 (by rw[u];exact yO W) rfl;have L:W.cell? ⟨w.heap.size,2,none⟩=some (.int .u32 r.n):=df _ _ 2 (by rw[u];exact yO W) rfl;have B:c.Bs≠w.heap.size:=by have:=cY h.st;omega
 have M:W.cell? ⟨c.Bs,4,none⟩=some (.slice c.Am c.us.length c.cm):=hh.cell 4;have N:W.cell? ⟨c.Bs,6,none⟩=some (.int .i64 o.kind):=hh.cell 6;have O:W.cell? ⟨c.Bs,7,none⟩=some (.bool o.ret.p):=hh.cell 7;have Q:W.cell? ⟨c.Bs,8,none⟩=some (.int .i64 o.ret.s):=hh.cell 8;have R:W.cell? ⟨c.Bs,9,none⟩=some (.int .u32 o.ret.n):=hh.cell 9;have F:W.cell? ⟨c.Bs,10,none⟩=some om:=hh.cell 10;obtain⟨f6,f7,f8,f9,I⟩:=frw5 hh.st 6 7 8 9 10;obtain⟨g,z⟩:=xJ ((((((W.setCell ⟨c.Bs,6,none⟩ (.int .i64 0)).setCell ⟨c.Bs,7,none⟩ (.bool false)).setCell ⟨c.Bs,8,none⟩ (.int .i64 0)).setCell ⟨c.Bs,9,none⟩ (.int .u32 0)).setCell ⟨c.Bs,10,none⟩ (.slice none 0 0)));have y:=(cX (i:=10) (.slice none 0 0) (cX (i:=9) (.int .u32 0) (cX (i:=8) (.int .i64 0) (cX (i:=7) (.bool false) (cX (i:=6) (.int .i64 0) hh.st)))));have t:=((((((FrS.refl (fun k=>k=c.Bs) W).setCell (p:=⟨c.Bs,6,none⟩) rfl (.int .i64 0)).setCell (p:=⟨c.Bs,7,none⟩) rfl (.bool false)).setCell (p:=⟨c.Bs,8,none⟩) rfl (.int .i64 0)).setCell (p:=⟨c.Bs,9,none⟩) rfl (.int .u32 0)).setCell (p:=⟨c.Bs,10,none⟩) rfl (.slice none 0 0));rw[z]at y t;have j:=hh.row (k:=s.t) (o':=⟨0,Rn.zero,[]⟩) (om':=ed) t y;obtain⟨E,A⟩:=xJ (((((g.setCell ⟨c.Bs,7,none⟩ (.bool r.p)).setCell ⟨c.Bs,8,none⟩ (.int .i64 r.s)).setCell ⟨c.Bs,9,none⟩ (.int .u32 r.n)).setCell ⟨c.Bs,10,none⟩ (.slice c.Am c.us.length c.cm)));have d:=(cX (i:=10) (.slice c.Am c.us.length c.cm) (cX (i:=9) (.int .u32 r.n) (cX (i:=8) (.int .i64 r.s) (cX (i:=7) (.bool r.p) j.st))));have l:=(((((FrS.refl (fun k=>k=c.Bs) g).setCell (p:=⟨c.Bs,7,none⟩) rfl (.bool r.p)).setCell (p:=⟨c.Bs,8,none⟩) rfl (.int .i64 r.s)).setCell (p:=⟨c.Bs,9,none⟩) rfl (.int .u32 r.n)).setCell (p:=⟨c.Bs,10,none⟩) rfl (.slice c.Am c.us.length c.cm));rw[A]at d l;have C:DS c pk E s bl ⟨0,r,s.mem⟩ c.mv wv bv:=j.row (k:=s.t) (o':=⟨0,r,s.mem⟩) (om':=c.mv) l d;have D:=dJ (And.intro C ((FrS.of_gr (S:=(·=c.Bs)) m).trans (t.trans l)));have d4:g.cell? ⟨c.Bs,4,none⟩=some (.slice c.Am c.us.length c.cm):=j.cell 4;have T:g.cell? ⟨c.Bs,7,none⟩=some (.bool false):=j.cell 7;have U:g.cell? ⟨c.Bs,8,none⟩=some (.int .i64 0):=j.cell 8;have X:g.cell? ⟨c.Bs,9,none⟩=some (.int .u32 0):=j.cell 9;have G:g.cell? ⟨c.Bs,10,none⟩=some (.slice none 0 0):=j.cell 10;obtain⟨Y,Z,e9,H⟩:=frw4 j.st 7 8 9 10;have w0:g.cell? ⟨w.heap.size,0,none⟩=some (.bool r.p):=(yE (a:=⟨w.heap.size,0,none⟩) (t.block _ (by rw[<-u];simp) (fun q=>B q.symm))).trans J;have w1:g.cell? ⟨w.heap.size,1,none⟩=some (.int .i64 r.s):=(yE (a:=⟨w.heap.size,1,none⟩) (t.block _ (by rw[<-u];simp) (fun q=>B q.symm))).trans K;have w2:g.cell? ⟨w.heap.size,2,none⟩=some (.int .u32 r.n):=(yE (a:=⟨w.heap.size,2,none⟩) (t.block _ (by rw[<-u];simp) (fun q=>B q.symm))).trans L;clear d l C;clear j;clear y t h hh m;unfold vv
 go_enter func158, ntmps158
 go_wp2
 go_end0
 exact⟨rfl,D.out⟩
theorem jL {s:AN}{o:zO}(h:DS c pk w s bl o om wv bv)(hs:s.t=400) :
  Calls prog 154 #[.pointer (some ⟨c.Bs,0,none⟩)] w fun e w'=>e=.returned (.bool false)/\DS c pk w' s bl ID ed wv bv/\FrS (·=c.Bs) w w':=by
 have d:w.cell? ⟨c.Bs,13,none⟩=some (.int .i64 ((s.t:Nat):Int)):=h.cell 13;rw[hs]at d;have g:=dJ (kr h 2 Rn.zero (by decide));clear h hs;unfold vv Rn.zero at g
 go_enter func154, ntmps154
 go_wp2_with (go_at_call 158;refine g.out.mono ?_;rintro e q ⟨rfl,l,j⟩;have p:=dJ l;have m:=dJ j;clear l j);go_ret;exact⟨rfl,p.out,m.out⟩
theorem nL {s:AN}{o:zO}(h:DS c pk w s bl o om wv bv)(hs:s.t<400) :
  Calls prog 154 #[.pointer (some ⟨c.Bs,0,none⟩)] w fun e w'=>e=.returned (.bool true)/\DS c pk w' s.tick bl o om wv bv/\FrS (·=c.Bs) w w':=by
 have m:w.cell? ⟨c.Bs,13,none⟩=some (.int .i64 ((s.t:Nat):Int)):=h.cell 13;have q:=yp _ _ 13 _ _ h.st;obtain⟨t,j⟩:=xJ (w.setCell ⟨c.Bs,13,none⟩ (.int .i64 ((s.t:Int)+1)));have d:=cX (i:=13) (.int .i64 ((s.t:Int)+1)) h.st;have g:=(FrS.refl (fun k=>k=c.Bs) w).setCell (p:=⟨c.Bs,13,none⟩) rfl (.int .i64 ((s.t:Int)+1));rw[j]at d g;have l:=dJ (And.intro (h.row (k:=s.t+1) (o':=o) (om':=om) g d) g);have r:¬((s.t:Nat):Int)=400:=by omega
 have u:(0:Int)<=((s.t:Nat):Int):=by omega
 have y:((s.t:Nat):Int)<400:=by omega
 generalize ((s.t:Nat):Int)=K at *;clear h d g hs
 go_enter func154, ntmps154
 go_wp2;go_ret;exact⟨rfl,l.out⟩
theorem oP {s:AN}{o:zO}(h:DS c pk w s bl o om wv bv)(x:Ins)(va vt vl:Value)(t:Int)(ho:x.op=29)(ht:IntsAt w.heap.size w vt [t]) :
  Calls prog 156 #[.pointer (some ⟨c.Bs,0,none⟩),dj x va vt,vl] w (RG (.int .i64 t) w):=by
 obtain⟨W,d⟩:=xJ (dW w x va vt);have z:Gr w W:=by rw[<-d];exact(yO w).alloc _
 have p:=dJ z;have X:=fun(u:GrW W)=>dl (w:=w) (x:=x) (va:=va) (vt:=vt) (w':=u.val) (by rw[d];exact u.gr);have r:=fun u=>(X u).1;have y:=fun u=>(X u).2.2.2.2.2;have l:=r ⟨W,yO W⟩;have m:=y ⟨W,yO W⟩;dsimp only at l m;obtain⟨C,ok,D,rfl,B,g,A⟩:=nS ht;have q:=gc p.out g A;have j:=q ⟨W,yO W⟩;dsimp only at j;clear h z X r y q A ht;unfold dW at d;unfold dj;obtain⟨op,F,fl,args,im,E⟩:=x;dsimp only at *;subst ho
 go_enter func156, ntmps156
 go_wp2;go_ret;exact⟨rfl,p.out⟩
theorem oR {s:AN}{o:zO}(h:DS c pk w s bl o om wv bv)(x:Ins)(va vt vl:Value)(ho:x.op=32) :
  Calls prog 156 #[.pointer (some ⟨c.Bs,0,none⟩),dj x va vt,vl] w fun e w'=>e=.returned (.int .i64 (-1))/\DS c pk w' s bl Dw ed wv bv/\FrS (·=c.Bs) w w':=by
 obtain⟨W,d⟩:=xJ (dW w x va vt);have t:Gr w W:=by rw[<-d];exact(yO w).alloc _
 have m:=dJ t;have X:=fun(u:GrW W)=>dl (w:=w) (x:=x) (va:=va) (vt:=vt) (w':=u.val) (by rw[d];exact u.gr);have p:=fun u=>(X u).1;have q:=fun u=>(X u).2.2.2.2.2;have g:=p ⟨W,yO W⟩;have j:=q ⟨W,yO W⟩;dsimp only at g j;have l:=dJ (kr (h.gr m.out) 1 Rn.zero (by decide));unfold vv Rn.zero at l;clear h t X p q;unfold dW at d;unfold dj;obtain⟨op,D,fl,args,im,B⟩:=x;dsimp only at *;subst ho
 go_enter func156, ntmps156
 go_wp2_with (go_at_call 158;refine l.out.mono ?_;rintro e C ⟨rfl,y,r⟩;have A:=dJ y;have z:=dJ ((FrS.of_gr (S:=(·=c.Bs)) m.out).trans r);clear y r);go_ret;exact⟨rfl,A.out,z.out⟩
theorem qM {s:AN}{o:zO}(h:DS c pk w s bl o om wv bv)(x:Ins)(va vt vl:Value)(t u:Int)(ho:x.op=30)(A:Rn.V)(hA:A.p=true)(hl:VsAt w vl [A]) :
  Calls prog 156 #[.pointer (some ⟨c.Bs,0,none⟩),dj x va vt,vl] w fun e w'=>e=.returned (.int .i64 (-1))/\DS c pk w' s bl Dw ed wv bv/\FrS (·=c.Bs) w w':=by
 obtain⟨W,g⟩:=xJ (dW w x va vt);have H:Gr w W:=by rw[<-g];exact(yO w).alloc _
 have d:=dJ H;have X:=fun(u:GrW W)=>dl (w:=w) (x:=x) (va:=va) (vt:=vt) (w':=u.val) (by rw[g];exact u.gr);have E:=fun u=>(X u).1;have F:=fun u=>(X u).2.2.2.2.2;have r:=E ⟨W,yO W⟩;have y:=F ⟨W,yO W⟩;dsimp only at r y;have z:=dJ (kr (h.gr d.out) 1 Rn.zero (by decide));unfold vv Rn.zero at z;obtain⟨b,U,rfl,Q,j,J,K,L⟩:=hl.one;have B:=gc d.out j J;have C:=gc d.out j K;have D:=gc d.out j L;have l:=B ⟨W,yO W⟩;have m:=C ⟨W,yO W⟩;have q:=D ⟨W,yO W⟩;dsimp only at l m q;obtain⟨T,O,R⟩:=A;dsimp only at *;subst hA;clear h H X E F B C D J K L hl;unfold dW at g;unfold dj;obtain⟨op,wd,fl,args,im,Y⟩:=x;dsimp only at *;subst ho
 go_enter func156, ntmps156
 go_wp2_with (go_at_call 158;refine z.out.mono ?_;rintro e Z ⟨rfl,I,G⟩;have N:=dJ I;have M:=dJ ((FrS.of_gr (S:=(·=c.Bs)) d.out).trans G);clear I G);go_ret;exact⟨rfl,N.out,M.out⟩
theorem qK {s:AN}{o:zO}(h:DS c pk w s bl o om wv bv)(x:Ins)(va vt vl:Value)(t u:Int)(ho:x.op=30)(ht:IntsAt w.heap.size w vt [t,u])(A:Rn.V)(hA:A.p=false)(hn:A.n=0)(hl:VsAt w vl [A]) :
  Calls prog 156 #[.pointer (some ⟨c.Bs,0,none⟩),dj x va vt,vl] w (RG (.int .i64 u) w):=by
 obtain⟨W,j⟩:=xJ (dW w x va vt);have C:Gr w W:=by rw[<-j];exact(yO w).alloc _
 have d:=dJ C;have X:=fun(u:GrW W)=>dl (w:=w) (x:=x) (va:=va) (vt:=vt) (w':=u.val) (by rw[j];exact u.gr);have L:=fun u=>(X u).1;have M:=fun u=>(X u).2.2.2.2.2;have z:=L ⟨W,yO W⟩;have B:=M ⟨W,yO W⟩;dsimp only at z B;obtain⟨Z,ok,ck,rfl,O,g,D,E⟩:=eU ht;have S:=gc d.out g D;have T:=gc d.out g E;obtain⟨b,cl,rfl,Q,l,F,G,H⟩:=hl.one;have I:=gc d.out l F;have J:=gc d.out l G;have K:=gc d.out l H;have q:=I ⟨W,yO W⟩;have r:=J ⟨W,yO W⟩;have y:=K ⟨W,yO W⟩;dsimp only at q r y;obtain⟨Y,N,U⟩:=A;dsimp only at *;subst hA;subst hn;clear h C X F G H D E hl ht;unfold dW at j;unfold dj;obtain⟨op,wd,fl,args,im,tt⟩:=x;dsimp only at *;subst ho
 go_enter func156, ntmps156
 go_wp2;refine dh (W:=W) (yO W) (by kernel_rfl) (by kernel_rfl) ?_;repeat (go_big_quiet_step (fail))
 refine wpQuiet_nil ?_;intro w9 m;obtain⟨R,rfl⟩:=m;go_wp2;go_ret;exact⟨rfl,d.out.trans R.gr⟩
theorem qL {s:AN}{o:zO}(h:DS c pk w s bl o om wv bv)(x:Ins)(va vt vl:Value)(t u:Int)(ho:x.op=30)(ht:IntsAt w.heap.size w vt [t,u])(A:Rn.V)(hA:A.p=false)(hn:A.n=1)(hl:VsAt w vl [A]) :
  Calls prog 156 #[.pointer (some ⟨c.Bs,0,none⟩),dj x va vt,vl] w (RG (.int .i64 t) w):=by
 obtain⟨W,j⟩:=xJ (dW w x va vt);have C:Gr w W:=by rw[<-j];exact(yO w).alloc _
 have d:=dJ C;have X:=fun(u:GrW W)=>dl (w:=w) (x:=x) (va:=va) (vt:=vt) (w':=u.val) (by rw[j];exact u.gr);have L:=fun u=>(X u).1;have M:=fun u=>(X u).2.2.2.2.2;have z:=L ⟨W,yO W⟩;have B:=M ⟨W,yO W⟩;dsimp only at z B;obtain⟨Z,ok,ck,rfl,O,g,D,E⟩:=eU ht;have S:=gc d.out g D;have T:=gc d.out g E;obtain⟨b,cl,rfl,Q,l,F,G,H⟩:=hl.one;have I:=gc d.out l F;have J:=gc d.out l G;have K:=gc d.out l H;have q:=I ⟨W,yO W⟩;have r:=J ⟨W,yO W⟩;have y:=K ⟨W,yO W⟩;dsimp only at q r y;obtain⟨Y,N,U⟩:=A;dsimp only at *;subst hA;subst hn;clear h C X F G H D E hl ht;unfold dW at j;unfold dj;obtain⟨op,wd,fl,args,im,tt⟩:=x;dsimp only at *;subst ho
 go_enter func156, ntmps156
 go_wp2;refine dh (W:=W) (yO W) (by kernel_rfl) (by kernel_rfl) ?_;repeat (go_big_quiet_step (fail))
 refine wpQuiet_nil ?_;intro w9 m;obtain⟨R,rfl⟩:=m;go_wp2;go_ret;exact⟨rfl,d.out.trans R.gr⟩
theorem oQ {s:AN}{o:zO}(h:DS c pk w s bl o om wv bv)(x:Ins)(va vt vl:Value)(ho:x.op=31)(hl:VsAt w vl []) :
  Calls prog 156 #[.pointer (some ⟨c.Bs,0,none⟩),dj x va vt,vl] w fun e w'=>e=.returned (.int .i64 (-1))/\DS c pk w' s bl ⟨0,Rn.zero,s.mem⟩ c.mv wv bv/\FrS (·=c.Bs) w w':=by
 obtain⟨W,r⟩:=xJ (dW w x va vt);have F:Gr w W:=by rw[<-r];exact(yO w).alloc _
 have A:=dJ F;have X:=fun(u:GrW W)=>dl (w:=w) (x:=x) (va:=va) (vt:=vt) (w':=u.val) (by rw[r];exact u.gr);have C:=fun u=>(X u).1;have D:=fun u=>(X u).2.2.2.2.2;have y:=C ⟨W,yO W⟩;have z:=D ⟨W,yO W⟩;dsimp only at y z;obtain⟨Al,cl,rfl,t⟩:=hl.form;obtain⟨q,l⟩:=xJ (fR W);have G:Gr W q:=by rw[<-l];exact(yO W).alloc _
 have d:q.heap[W.heap.size]?=some (.cells #[.bool false,.int .i64 0,.int .u32 0] 24 (0,0)):=by rw[<-l];exact heap_alloc_new _ _
 obtain⟨B,j⟩:=xJ (dy q W.heap.size Rn.zero);have gc:Gr W B:=by rw[<-j];exact gr_frs' G (ef _ _ _) (fun k hk=>by omega)
 have g:B.heap[W.heap.size]?=some (.cells #[.bool false,.int .i64 0,.int .u32 0] 24 (0,0)):=by rw[<-j];exact cX (i:=2) (.int .u32 0) (cX (i:=1) (.int .i64 0) (cX (i:=0) (.bool false) d))
 have K:=yo _ _ 0 _ _ _ d;have R:=yp _ _ 0 _ _ d;have L:=yo _ _ 1 _ _ _ d;have T:=yp _ _ 1 _ _ d;have M:=yo _ _ 2 _ _ _ d;have U:=yp _ _ 2 _ _ d;have N:=yo _ _ 0 _ _ _ g;have Y:=yp _ _ 0 _ _ g;have O:=yo _ _ 1 _ _ _ g;have Z:=yp _ _ 1 _ _ g;have Q:=yo _ _ 2 _ _ _ g;have aa:=yp _ _ 2 _ _ g;have m:=dJ gc;have p:=dJ (lk (h.gr (A.out.trans m.out)) Rn.zero);unfold vv at p
 try dsimp only[Rn.zero]at p
 clear h F X C D G gc d g hl t;unfold fR at l;unfold dy at j;dsimp only[Rn.zero]at j;unfold dW at r;unfold dj;obtain⟨op,wd,fl,args,im,tt⟩:=x;dsimp only at *;subst ho
 go_enter func156, ntmps156
 go_wp2_with (go_at_call 158;refine p.out.mono ?_;rintro e w7 ⟨rfl,H,E⟩;have J:=dJ H;have I:=dJ ((FrS.of_gr (S:=(·=c.Bs)) (A.out.trans m.out)).trans E);clear H E);go_ret;exact⟨rfl,J.out,I.out⟩
theorem qN {s:AN}{o:zO}(h:DS c pk w s bl o om wv bv)(x:Ins)(va vt vl:Value)(ho:x.op=31)(A:Rn.V)(hl:VsAt w vl [A]) :
  Calls prog 156 #[.pointer (some ⟨c.Bs,0,none⟩),dj x va vt,vl] w fun e w'=>e=.returned (.int .i64 (-1))/\DS c pk w' s bl ⟨0,A,s.mem⟩ c.mv wv bv/\FrS (·=c.Bs) w w':=by
 obtain⟨W,J⟩:=xJ (dW w x va vt);have Y:Gr w W:=by rw[<-J];exact(yO w).alloc _
 have r:=dJ Y;have X:=fun(u:GrW W)=>dl (w:=w) (x:=x) (va:=va) (vt:=vt) (w':=u.val) (by rw[J];exact u.gr);have R:=fun u=>(X u).1;have T:=fun u=>(X u).2.2.2.2.2;have O:=R ⟨W,yO W⟩;have Q:=T ⟨W,yO W⟩;dsimp only at O Q;obtain⟨b,cl,rfl,aa,K,q0,q1,q2⟩:=hl.one;have D:=gc r.out K q0;have E:=gc r.out K q1;have F:=gc r.out K q2;have L:=D ⟨W,yO W⟩;have M:=E ⟨W,yO W⟩;have N:=F ⟨W,yO W⟩;dsimp only at L M N;obtain⟨I,m,H⟩:=A;dsimp only at *;obtain⟨G,p⟩:=xJ (fR W);have Z:Gr W G:=by rw[<-p];exact(yO W).alloc _
 have d:G.heap[W.heap.size]?=some (.cells #[.bool false,.int .i64 0,.int .u32 0] 24 (0,0)):=by rw[<-p];exact heap_alloc_new _ _
 obtain⟨q,j⟩:=xJ (dy G W.heap.size Rn.zero);have gc:Gr W q:=by rw[<-j];exact gr_frs' Z (ef _ _ _) (fun k hk=>by omega)
 have g:q.heap[W.heap.size]?=some (.cells #[.bool false,.int .i64 0,.int .u32 0] 24 (0,0)):=by rw[<-j];exact cX (i:=2) (.int .u32 0) (cX (i:=1) (.int .i64 0) (cX (i:=0) (.bool false) d))
 have ab:=yo _ _ 0 _ _ _ d;have ah:=yp _ _ 0 _ _ d;have ac:=yo _ _ 1 _ _ _ d;have ai:=yp _ _ 1 _ _ d;have ad:=yo _ _ 2 _ _ _ d;have aj:=yp _ _ 2 _ _ d;have ae:=yo _ _ 0 _ _ _ g;have ak:=yp _ _ 0 _ _ g;have af:=yo _ _ 1 _ _ _ g;have al:=yp _ _ 1 _ _ g;have ag:=yo _ _ 2 _ _ _ g;have am:=yp _ _ 2 _ _ g;have M0:=D ⟨q,gc⟩;have M1:=E ⟨q,gc⟩;have M2:=F ⟨q,gc⟩;dsimp only at M0 M1 M2;obtain⟨W4,l⟩:=xJ (dy q W.heap.size (⟨I,m,H⟩:Rn.V));have gd:Gr W W4:=by rw[<-l];exact gr_frs' gc (ef _ _ _) (fun k hk=>by omega)
 obtain⟨y,z,B⟩:_/\_/\_:=el g (⟨I,m,H⟩:Rn.V);rw[l]at y z B;dsimp only at y z B;have t:=dJ gd;have C:=dJ (lk (h.gr (r.out.trans t.out)) (⟨I,m,H⟩:Rn.V));unfold vv at C
 try dsimp only[Rn.zero]at C
 clear h Y X R T Z gc d g gd hl q0 q1 q2 D E F;unfold fR at p;unfold dy at j l;dsimp only[Rn.zero]at j l;unfold dW at J;unfold dj;obtain⟨op,wd,fl,args,im,tt⟩:=x;dsimp only at *;subst ho
 go_enter func156, ntmps156
 go_wp2_with (go_at_call 158;refine C.out.mono ?_;rintro e w7 ⟨rfl,p7,U⟩;have P7:=dJ p7;have F7:=dJ ((FrS.of_gr (S:=(·=c.Bs)) (r.out.trans t.out)).trans U);clear p7 U);go_ret;exact⟨rfl,P7.out,F7.out⟩
def uz (w:World):World:=w.alloc (.cells #[.int .i64 0,.int .i64 0,.int .i64 0,.slice none 0 0,.int .u32 0,.slice none 0 0] 68)
def qb (w:World)(r:Nat)(x:Ins)(va vt:Value):World:=(((((w.setCell ⟨r,0,none⟩ (.int .i64 x.op)).setCell ⟨r,1,none⟩ (.int .i64 x.w)).setCell ⟨r,2,none⟩ (.int .i64 x.g)).setCell ⟨r,3,none⟩ va).setCell ⟨r,4,none⟩ (.int .u32 x.i)).setCell ⟨r,5,none⟩ vt
theorem mm {va vt:Value}(h:w.heap[r]?=some (.cells #[.int .i64 0,.int .i64 0,.int .i64 0,.slice none 0 0,.int .u32 0,.slice none 0 0] 68 (0,0))) :
  (qb w r x va vt).heap[r]?=some (.cells #[.int .i64 x.op,.int .i64 x.w,.int .i64 x.g,va,.int .u32 x.i,vt] 68 (0,0)) :=
 cX (i:=5) vt (cX (i:=4) (.int .u32 x.i) (cX (i:=3) va (cX (i:=2) (.int .i64 x.g) (cX (i:=1) (.int .i64 x.w) (cX (i:=0) (.int .i64 x.op) h)))))
theorem ml (w:World)(r:Nat)(x:Ins)(va vt:Value):FrS (·=r) w (qb w r x va vt) :=
 ((((((FrS.refl (fun k=>k=r) w).setCell (p:=⟨r,0,none⟩) rfl (.int .i64 x.op)).setCell (p:=⟨r,1,none⟩) rfl (.int .i64 x.w)).setCell (p:=⟨r,2,none⟩) rfl (.int .i64 x.g)).setCell (p:=⟨r,3,none⟩) rfl va).setCell (p:=⟨r,4,none⟩) rfl (.int .u32 x.i)).setCell (p:=⟨r,5,none⟩) rfl vt
theorem nZ {n:Nat}(h:w.ownsRow B e sz v n xs)(hk:v.ownBlock=some k):B<=k/\k<w.heap.size:=by
 rcases h.2 with ⟨rfl,_⟩|⟨g,d,j,rfl,l,m,_⟩
 ·simp[Value.ownBlock]at hk
 ·simp[Value.ownBlock]at hk;subst hk;exact⟨l,cY m⟩
theorem rN {n:Nat}(h:w.ownsRow B e sz v n xs)(hw:∀k,v.ownBlock=some k->w'.heap[k]?=w.heap[k]?):w'.ownsRow B e sz v n xs:=by
 obtain⟨l,j⟩:=h;refine⟨l,?_⟩;rcases j with j|⟨k,d,g,hv,m,p,r⟩
 ·exact .inl j
 ·exact .inr ⟨k,d,g,hv,m,(hw k (by rw[hv];rfl)).trans p,r⟩
theorem DS.write {s:AN}{o:zO}(h:DS c pk w s bl o om wv bv)(v:Nat)(hv:v<s.v.length)(x:Rn.V) :
  ∃W2 W3,((w.setCell ⟨c.Bv,v*3,none⟩ (.bool x.p)).setCell ⟨c.Bv,v*3+1,none⟩ (.int .i64 x.s)).setCell ⟨c.Bv,v*3+2,none⟩ (.int .u32 x.n)=W2/\W2.setCell ⟨c.Bh,v,none⟩ (.bool true)=W3 /\
   (∃y:Rn.V,w.cell? ⟨c.Bv,v*3,none⟩=some (.bool y.p)/\w.cell? ⟨c.Bv,v*3+1,none⟩=some (.int .i64 y.s)/\w.cell? ⟨c.Bv,v*3+2,none⟩=some (.int .u32 y.n)) /\
   (w.frozen? ⟨c.Bv,v*3,none⟩=false/\w.frozen? ⟨c.Bv,v*3+1,none⟩=false/\w.frozen? ⟨c.Bv,v*3+2,none⟩=false) /\
   W2.cell? ⟨c.Bs,15,none⟩=some (.slice (some ⟨c.Bh,0,none⟩) s.v.length s.v.length)/\(∃z,W2.cell? ⟨c.Bh,v,none⟩=some (.bool z))/\W2.frozen? ⟨c.Bh,v,none⟩=false /\
   FrS (Mut c) w W2/\DS c pk W3 (s.set v x) bl o om wv bv/\FrS (Mut c) w W3:=by
 obtain⟨W2,g⟩:=xJ (((w.setCell ⟨c.Bv,v*3,none⟩ (.bool x.p)).setCell ⟨c.Bv,v*3+1,none⟩ (.int .i64 x.s)).setCell ⟨c.Bv,v*3+2,none⟩ (.int .u32 x.n));obtain⟨W3,j⟩:=xJ (W2.setCell ⟨c.Bh,v,none⟩ (.bool true));obtain⟨y,G⟩:∃y,s.v[v]?=some y:=⟨_,xR hv⟩;obtain⟨z,H⟩:∃z,s.had[v]?=some z:=⟨_,xR (by rw[h.hlen];exact hv)⟩;obtain⟨D,E,F⟩:=dX _ _ _ G;rw[Nat.mul_comm]at D E F;have I:c.Bs≠c.Bv:=de h.st h.v (by decide);have C:c.Bh≠c.Bv:=de h.had h.v (by decide)
 have d:FrS (·=c.Bv) w W2:=by rw[<-g];exact(((FrS.refl (fun k=>k=c.Bv) w).setCell (p:=⟨c.Bv,v*3,none⟩) rfl _).setCell (p:=⟨c.Bv,v*3+1,none⟩) rfl _).setCell (p:=⟨c.Bv,v*3+2,none⟩) rfl _
 have q:=cX (i:=v*3+2) (.int .u32 x.n) (cX (i:=v*3+1) (.int .i64 x.s) (cX (i:=v*3) (.bool x.p) h.v));rw[gQ,g]at q;have u:=(d.block _ (cY h.st) I).trans h.st;have l:=(d.block _ (cY h.had) C).trans h.had;have t:=cX (i:=v) (.bool true) l;rw[kN,j]at t;have r:FrS (·=c.Bh) W2 W3:=by rw[<-j];exact(FrS.refl (fun k=>k=c.Bh) W2).setCell (p:=⟨c.Bh,v,none⟩) rfl _
 have A:=(r.block _ (cY q) (fun e=>C e.symm)).trans q;have B:FrS (fun k=>k=c.Bv\/k=c.Bh) w W3:=(d.mono fun k m=>.inl m).trans (r.mono fun k m=>.inr m)
 refine⟨W2,W3,g,j,⟨y,(yo _ _ _ _ _ _ h.v).trans (by simpa using D),(yo _ _ _ _ _ _ h.v).trans (by simpa using E),(yo _ _ _ _ _ _ h.v).trans (by simpa using F)⟩,
   ⟨yp _ _ _ _ _ h.v,yp _ _ _ _ _ h.v,yp _ _ _ _ _ h.v⟩,yo _ _ 15 _ _ _ u,⟨z,(yo _ _ _ _ _ _ l).trans (by simp[H])⟩,yp _ _ _ _ _ l,
   d.mono fun k m=>.inr (.inl m),h.setVal B A t,B.mono fun k m=>m.elim (fun e=>.inr (.inl e)) (fun e=>.inr (.inr (.inl e)))⟩
def xD:Value->Nat
 | .slice _ n _=>n
 | _=>0
def xn (c:Cfg)(pk:List Int)(w:World)(s:AN)(bl:List Int)(o:zO)(om wv bv:Value)(pick:Dk)(rs:List Rn.V)(b:Nat)(l:List Ins)(e:Ending)(w':World):Prop :=
 ∃s',FrS (Mut c) w w' /\
  ((e=.returned (.tuple #[.int .i64 0,.bool false])/\DS c pk w' s' bl ID ed wv bv/\AO c.f pick rs l 0 (yZ c.f b) s=(.over ID,s')) \/
   (e=.returned (.tuple #[.int .i64 (rs.length:Int),.bool true])/\DS c pk w' s' bl o om wv bv/\s'.t<=400/\Rn.Mid c.f b rs.length l s' /\
     AO c.f pick rs l 0 (yZ c.f b) s=AO c.f pick rs (l.drop rs.length) rs.length (yZ c.f b+rs.length) s'/\s'.z=s.z/\s.t<=s'.t))
theorem qQ {s:AN}{o:zO}(h:DS c pk w s bl o om wv bv)(hf:VFn c.f)(hl:c.f.b[b]?=some l)(he:JO c.f b frm l s)(hst:s.t<=400)(pick:Dk) :
  Calls prog 153 #[.pointer (some ⟨c.Bs,0,none⟩),.int .i64 b,.int .i64 frm] w (xn c pk w s bl o om wv bv pick ((Do l).map (Eh s frm)) b l):=by
 obtain⟨iv,bI,bK,bL,bM⟩:=info_parts wD;have I:=xT hl;have bJ:(Do l).length<=l.length:=Kv l;have aj:0<l.length:=List.length_pos_iff.2 (GR hf.val I).1
 have aW:(Do l).length<l.length:=by
  rcases yw (Do l).length l.length with q|q
  ·exact q
  ·obtain⟨x,d⟩:∃x,l[l.length-1]?=some x:=⟨_,xR (by omega)⟩;have h1:=(Iy hf.val I d).2 (by omega);have h2:=(Fv hf.val I d).2 (by omega);rw[h2]at h1;exact absurd h1 (by decide)
 have ar:=EK c.f hl
 have ai:An c.f<=1000:=by
  have:=hf.val.size;have e:An c.f=c.f.p.length+AX c.f.b:=by unfold An yZ;rw[yv]
  omega
 have be:s.v.length=An c.f:=he.toMid.toInv.len;obtain⟨A,M⟩:=xJ ((Do l).map (Eh s frm));have aw:A.length=(Do l).length:=by rw[<-M,yl]
 have aI:Hid (∀k x,l[k]?=some x->k<(Do l).length->x.op=28/\frm∈x.to/\x.to.length=x.args.length/\x.to.idxOf frm<x.args.length/\∃z:Nat,x.args[x.to.idxOf frm]?=some (z:Int)/\z<s.v.length/\A[k]?=some (s.get (z:Int))/\s.v[z]?=some (s.get (z:Int))):=by
  intro k x d C;have au:=(Fv hf.val I d).2 C
  have hp:(Do l)[k]?=some x:=by have:Do l <+: l:=List.takeWhile_prefix _;obtain⟨t,J⟩:=this;rw[<-J,yd C]at d;exact d
  obtain⟨p1,p2,⟨p3,p4⟩,-,-⟩:=he.phi x (xT hp);have K:x.to.idxOf frm<x.args.length:=by rw[p2];exact List.idxOf_lt_length_iff.2 p1
  obtain⟨z,hz⟩:=xZ p3;rw[hz]at p4;have ae:z<s.v.length:=by rw[he.toMid.toInv.len];exact Int.ofNat_lt.1 p4
  refine⟨au,p1,p2.symm,K,z,?_,ae,?_,?_⟩
  ·rw[xU,xR K]at hz;rw[xR K];exact congrArg some hz
  ·rw[<-M,yc,hp];show some (Eh s frm x)=_;unfold Eh;rw[hz]
  ·unfold AN.get;rw[ya,xU,xR ae];rfl
 have aG:Hid (∀k x,l[k]?=some x->k=(Do l).length->(x.op == 28)=false):=by intro k x d C;have:=Fv hf.val I d;simp;intro q;have:=this.1 q;omega
 have bs:=dJ M;obtain⟨F,L⟩:=xJ ((Do l).length);rw[L]at bJ aW aw aI aG;have c0:w.cell? ⟨c.Bs,0,none⟩=some c.vp:=h.cell 0;have T:w.cell? ⟨c.Bs,1,none⟩=some (.int .i64 c.f.ret):=h.cell 1;have c2:w.cell? ⟨c.Bs,2,none⟩=some c.vs:=h.cell 2;have c3:w.cell? ⟨c.Bs,3,none⟩=some c.vb:=h.cell 3;have aR:=(xS.1 hl).1;have aS:c.f.b.length<=100000:=by have:=hf.val.size.2.2.2.1;omega
 have CN:=dJ (fK (.agg #[c.vp,.int .i64 c.f.ret,c.vs,c.vb]) c.f b w (h.fn.mono h.n₀) (by omega) aS);obtain⟨b8,b9,b7,e,-,-,hb⟩:=h.fn;injection e with e;injection e with e;injection e with e1 e;injection e with _ e;injection e with e3 e;injection e with U _;obtain⟨Ab,cb,bc,b1,b2,b3⟩:=hb;obtain⟨bb,ob,aO,aQ,b4⟩:=b3 (by omega);obtain⟨vl,bd,bG⟩:=b4 b l hl;obtain⟨Al,cl,rfl,l1,l2,l3⟩:=bG;obtain⟨aN,ol,rfl,ah,l4⟩:=l3 aj
 have aL:Hid (∀wr,Gr w wr->wr.cell? ⟨c.Bs,3,none⟩=some (.slice (some ⟨bb,ob,none⟩) c.f.b.length cb)/\wr.cell? ⟨bb,ob+b,none⟩=some (.slice (some ⟨aN,ol,none⟩) l.length cl)):=fun wr g=>by
  refine⟨?_,(g.cell _ _ (Nat.lt_of_lt_of_le aQ h.n₀)).trans bd⟩;have:=(h.gr g).cell 3;have e:c.vb=.slice (some ⟨bb,ob,none⟩) c.f.b.length cb:=by rw[U,bc,aO]
  rw[<-e];exact this
 have aD:Hid (∀wr,Gr w wr->∀k x,l[k]?=some x->InsAt c.n₀ wr aN (ol+k*6) x):=fun wr g k x d=>(l4 k x d).below ah (Below.mono g h.n₀);have HH:=dJ h;have bk:Hid (c.n₀<=w.heap.size):=h.n₀;have HE:=dJ he;have HF:=dJ hf;have HL:=dJ hl;have bB:=dJ be;have bz:=dJ hst;have bR:=dJ aR;rw[M];have D:=dJ aw;have bQ:l.length<=1000:=by omega
 obtain⟨R,ao⟩:=xJ (yZ c.f b);have am:=dJ ao;rw[ao]at CN ar;have aB:=dJ (And.intro ar ai);have aH:=dJ L;obtain⟨bS,ag⟩:=xJ c.f.b.length;rw[ag]at aL aS aR;have bO:R<=1000:=by omega
 have aY:w.ownsRow w.heap.size 24 3 (.slice none 0 0) 0 (dB (A.take 0)):=World.ownsRow_nil _ _ _ _;have bn:Hid (∀wr,Gr w wr->wr.ownsRow w.heap.size 24 3 (.slice none 0 0) 0 (dB (A.take 0))):=fun wr g=>ec aY g;clear h he hf hl be hst M aw I L e1 U e3 bc aO bd b1 b2 b3 b4 l1 l2 l3 l4 aQ ah ao ag aY ar ai aj;have d0:=c0;have d1:=T;have d2:=c2;have d3:=c3
 go_enter func153, ntmps153
 go_wp2_with (go_at_call 128;refine CN.out.mono ?_;rintro e S ⟨rfl,g7⟩;have G7:=dJ g7;obtain⟨y3,y4⟩:=aL.out S g7;clear g7 c0 T c2 c3 d0 d1 d2 d3);clear y3 y4
 go_loopw [10] (fun Q wr=>∃(k:Nat)(A1:Option Addr)(T:Nat),k<=F/\Q=.slice A1 k T/\Hid (wr.ownsRow w.heap.size 24 3 (.slice A1 k T) k (dB (A.take k)))/\Hid (Gr w wr)) (fun Q _=>F-xD Q)
 case atStart=>exact⟨0,none,0,yI _,rfl,bn.out _ G7.out,G7⟩
 case round =>
  obtain⟨k,A1,T,C,rfl,hr,hg⟩:=hrel;obtain⟨x,d⟩:∃x,l[k]?=some x:=⟨_,xR (by omega)⟩;obtain⟨va,cc,i0,i1,i2,i3,i4,i5,ia,it⟩:=aD.out wr hg.out k x d;have aU:k<l.length:=by omega
  by_cases m:k<F
  ·obtain⟨au,a9,a8,K,z,hz,ae,a6,bf⟩:=aI.out k x d m;obtain⟨Aa,ca,rfl,a1,a2,a3⟩:=ia;obtain⟨ba,oa,rfl,bF,a4⟩:=a3 (by omega);obtain⟨At,ct,rfl,t1,t2,t3⟩:=it;obtain⟨bt,ot,rfl,bH,t4⟩:=t3 (by omega);obtain⟨op,wd,fl,args,im,tt⟩:=x;dsimp only at *;subst au;rw[a8]at i5;obtain⟨q,hq⟩:=xJ (tt.idxOf frm);have av:q<tt.length:=by rw[<-hq];exact List.idxOf_lt_length_iff.2 a9
   have hT:∀j t,tt[j]?=some t->(t=frm↔j=q)\/q<j:=fun j t J=>by
    rcases Nat.lt_trichotomy j q with e|e|e
    ·refine .inl ⟨fun r=>?_,fun r=>absurd r (by omega)⟩;rw[<-hq]at e;have:=List.not_of_lt_findIdx (p:=(· == frm)) (xs:=tt) (i:=j) e;obtain⟨hj,aq⟩:=xS.1 J;rw[aq,r]at this;simp at this
    ·refine .inl ⟨fun _=>e,fun _=>?_⟩;subst e;have:=List.getElem_idxOf (xs:=tt) (x:=frm) (by rw[hq];exact av);simp only[hq]at this;obtain⟨hj,aq⟩:=xS.1 J;rw[<-aq];exact this
    ·exact .inr e
   have HT:=dJ hT;rw[hq]at hz K;obtain⟨Wa,ap⟩:=xJ (uz wr);obtain⟨E,H⟩:=xJ (qb Wa wr.heap.size (⟨28,wd,fl,args,im,tt⟩:Ins) (.slice (some ⟨ba,oa,none⟩) args.length ca) (.slice (some ⟨bt,ot,none⟩) args.length ct));have ga:Gr wr Wa:=by rw[<-ap];exact(yO wr).alloc _
   have ac:Wa.heap[wr.heap.size]?=some (.cells #[.int .i64 0,.int .i64 0,.int .i64 0,.slice none 0 0,.int .u32 0,.slice none 0 0] 68 (0,0)):=by rw[<-ap];exact heap_alloc_new _ _
   have gb:Gr wr E:=by rw[<-H];exact gr_frs' ga (ml _ _ _ _ _) (fun k C=>by omega)
   have ad:=mm (x:=(⟨28,wd,fl,args,im,tt⟩:Ins)) (va:=.slice (some ⟨ba,oa,none⟩) args.length ca) (vt:=.slice (some ⟨bt,ot,none⟩) args.length ct) ac;rw[H]at ad;obtain⟨r0,r1,r2,r3,r4,r5⟩:=crw6 ac 0 1 2 3 4 5;obtain⟨s0,s1,s2,s3,s4,s5⟩:=frw6 ac 0 1 2 3 4 5
   have HB:Hid (∀w',Gr E w'->w'.cell? ⟨wr.heap.size,3,none⟩=some (.slice (some ⟨ba,oa,none⟩) args.length ca)/\w'.cell? ⟨wr.heap.size,5,none⟩=some (.slice (some ⟨bt,ot,none⟩) args.length ct)/\w'.cell? ⟨ba,oa+q,none⟩=some (.int .i64 z)/\∀j t,tt[j]?=some t->w'.cell? ⟨bt,ot+j,none⟩=some (.int .i64 t)):=fun w' g=>by have aZ:=(g.heap _ (cY ad)).trans ad;have b0:=hg.out.size;have bZ:=bk.out;exact⟨yo _ _ 3 _ _ _ aZ,yo _ _ 5 _ _ _ aZ,((gb.trans g).cell _ _ (by omega)).trans (a4 q _ hz),fun j t J=>((gb.trans g).cell _ _ (by omega)).trans (t4 j t J)⟩
   have HV:Hid (∀w',Gr E w'->w'.cell? ⟨c.Bv,z*3,none⟩=some (.bool (s.get z).p)/\w'.cell? ⟨c.Bv,z*3+1,none⟩=some (.int .i64 (s.get z).s)/\w'.cell? ⟨c.Bv,z*3+2,none⟩=some (.int .u32 (s.get z).n)/\w'.cell? ⟨c.Bs,14,none⟩=some (.slice (some ⟨c.Bv,0,none⟩) s.v.length s.v.length)):=fun w' g=>by have hp:=HH.out.gr ((hg.out.trans gb).trans g);obtain⟨e0,e1,U⟩:=dX _ _ _ bf;rw[Nat.mul_comm]at e0 e1 U;exact⟨(yo _ _ _ _ _ _ hp.v).trans (by simpa using e0),(yo _ _ _ _ _ _ hp.v).trans (by simpa using e1),(yo _ _ _ _ _ _ hp.v).trans (by simpa using U),hp.cell 14⟩
   have aJ:Hid (A.take (k+1)=A.take k++[s.get z]):=by show _=_;rw[List.take_add_one,a6];rfl
   have bp:Hid ((A.take k).length=k):=by show _=_;rw[List.length_take];have:=D.out;omega
   obtain⟨VN,aP⟩:=xJ s.v.length;rw[aP]at HV ae;have bP:VN<=1000:=by have:=bB.out;have:=HF.out.val.size;have e:An c.f=c.f.p.length+AX c.f.b:=by {unfold An yZ;rw[yv]};omega
   obtain⟨sv,a7⟩:=xJ (s.get (z:Int));rw[a7]at HV aJ;have HG:=dJ (hg.out.trans gb);have bq:=dJ (ec hr.out gb);have aE:=dJ m;have bA:Hid (∀j,j<=q->∃t,tt[j]?=some t):=fun j hj=>⟨_,xR (Nat.lt_of_le_of_lt hj av)⟩;have bg:Hid (Gr E E):=yO _;clear d a9 a8 av a6 bf hz a3 a4 t3 t4 hT hq ga gb ac ad aP a7 bF bH hg hr m C;unfold uz at ap;unfold qb at H;dsimp only at H;go_wp2;clear r0 r1 r2 r3 r4 r5 s0 s1 s2 s3 s4 s5 i0 i1 i2 i3 i4 i5 aU
   go_loopw [10,12] (fun Q ay w8=>∃j:Nat,j<=q/\ay=.int .i64 (j:Int)/\Q=.slice A1 k T/\Hid (Gr E w8)) (fun _ ay _=>q-(intOf ay).toNat)
   case atStart=>exact⟨0,yI _,rfl,rfl,bg⟩
   case round =>
    obtain⟨j,hj,rfl,rfl,h8⟩:=hrel;obtain⟨t,J⟩:=bA.out j hj;obtain⟨z3,z5,za,zt⟩:=HB.out _ h8.out;have zt:=zt j t J;by_cases ab:j=q
    ·have e:t=frm:=((HT.out j t J).resolve_right (by omega)).2 ab;subst e;subst ab;obtain⟨v0,v1,v2,v3⟩:=HV.out _ h8.out;have G8:=dJ (HG.out.trans h8.out);have R8:=dJ (ec bq.out h8.out);clear J hj;have mixed:(prog).follows .mixedOrders=true:=by kernel_rfl
     have R9:=dJ (ec R8.out ((yO wr).drew));go_wp2
     go_region_law_o ((refine me (n:=k) (v:=.slice A1 k T) (y:=sv) underlying110 bI bK bL bM rfl (by omega) rfl (.tmp 61) (.tmp 74) rfl bp.out rfl R9.out rfl (by have:=aE.out;omega) (by show _<=wr.heap.size;exact G8.out.size) ?_;intro A6 c6 w6 aX aT;
                        have R6:Hid (w6.ownsRow w.heap.size 24 3 (.slice A6 (k+1) c6) (k+1) (dB (A.take (k+1)))):=(by show World.ownsRow _ _ _ _ _ _ _;rw[aJ.out];exact aX);
                        have G6:=dJ (kA (G8.out.trans (((yO wr).drew).alloc _)) aT (fun k C=>(dt R9.out k C).1));clear aX aT))
     all_goals
      go_wp2;have bX:=aE.out;refine⟨?_,?_⟩
      ·(repeat apply Exists.intro);exact⟨⟨k+1,A6,c6,by omega,rfl,R6,G6⟩,rfl⟩
      ·show F-(k+1)<F-k;omega
    ·have e:¬t=frm:=fun r=>ab (((HT.out j t J).resolve_right (by omega)).1 r);have bW:j<q:=by omega
     clear J hj ab za;go_wp2;exact⟨⟨j+1,by omega,by go_num,rfl,h8⟩,by simp[intOf];omega⟩
  ·obtain rfl:F=k:=by omega
   have aV:=aG.out F x d rfl;obtain⟨E,H⟩:∃E,E=wr:=⟨_,rfl⟩;subst H;clear d i1 i2 i3 i4 i5 ia it;go_wp2;clear i0 aV m C aU;have a5:A.take F=A:=yh (by rw[D.out];exact yJ _);rw[a5]at hr;have D0:=dJ (HH.out.gr hg.out);have HR:Hid (∀aA,FrS (Mut c) E aA->aA.ownsRow w.heap.size 24 3 (.slice A1 F T) F (dB A)):=fun aA f=>rN hr.out fun k C=>f.block k (nZ hr.out C).2 (fun q=>by have h1:=(nZ hr.out C).1;have h2:=HH.out.lt (.inl q);omega);have aK:Hid (∀w',FrS (Mut c) E w'->FrS (Mut c) w w'):=fun w' f=>(FrS.of_gr hg.out).trans f;have aC:Hid (FrS (Mut c) E E):=FrS.refl _ _;have an:Hid (AO c.f pick A l 0 R s=AO c.f pick A (l.drop 0) 0 (R+0) s):=by show _=_;rw[List.drop_zero,Nat.add_zero]
   have al:Hid (Rn.Mid c.f b 0 l s):=HE.out.toMid;have aM:Hid (s.z=s.z/\s.t<=s.t):=⟨rfl,yJ _⟩;clear a5 hr hg
   go_loopw [13] (fun az wr=>∃(i:Nat)(s':AN),i<=F/\az=.int .i64 (i:Int)/\Hid (s'.t<=400)/\Hid (DS c pk wr s' bl o om wv bv)/\Hid (FrS (Mut c) E wr)/\Hid (Rn.Mid c.f b i l s')/\Hid (AO c.f pick A l 0 R s=AO c.f pick A (l.drop i) i (R+i) s')/\Hid (s'.z=s.z/\s.t<=s'.t)) (fun az _=>F-(intOf az).toNat)
   case atStart=>exact⟨0,s,yI _,rfl,bz,D0,aC,al,an,aM⟩
   case round =>
    obtain⟨i,s',hi,rfl,ak,hd,aa,hm,O,ax⟩:=hrel;by_cases m:i<F
    ·obtain⟨x,d⟩:∃x,l[i]?=some x:=⟨_,xR (by omega)⟩;have Z:l.drop i=x::l.drop (i+1):=by rw[yg (by omega)];congr 1;rw[xR (by omega)]at d;injection d
     obtain⟨y,hy⟩:∃y,A[i]?=some y:=⟨_,xR (by rw[D.out];exact m)⟩;by_cases B:s'.t=400
     ·have CT:=dJ (jL hd.out B);have bo:Hid (AO c.f pick A l 0 R s=(.over ID,s')):=by (show _=_);rw[O.out,Z,gm B]
      clear d Z hy B;go_wp2_with (go_at_call 154;refine CT.out.mono ?_;rintro e S ⟨rfl,p7,f7⟩;have P7:=dJ p7;have F7:=dJ (aK.out _ (aa.out.trans (f7.mono fun k C=>.inl C)));clear p7 f7);go_ret2;exact⟨s',F7.out,.inl ⟨rfl,P7.out,by rw[am.out];exact bo.out⟩⟩
     ·have G:s'.t<400:=by have:=ak.out;omega
      have CT:=dJ (nL hd.out G);obtain⟨v,hv⟩:=xJ (R+i);have b6:(R:Int)+(i:Int)=(v:Int):=by omega
      have a0:=HR.out wr aa.out;have bu:=dJ (fun w' (f:FrS (Mut c) E w')=>HR.out w' f)
      have af:Hid (v<s'.tick.v.length):=by show v<s'.v.length;rw[hm.out.toInv.len];have:=aB.out;omega
      obtain⟨N,hN⟩:=xJ s'.v.length;have b5:v<N:=by rw[<-hN];exact af.out
      have aF:Hid (s'.tick.v.length=N):=hN;have bT:N<=1000:=by rw[<-hN,hm.out.toInv.len];exact aB.out.2
      have bh:=dJ hy
      have bm:Hid (AO c.f pick A l 0 R s=AO c.f pick A (l.drop (i+1)) (i+1) (R+(i+1)) (s'.tick.set v y)):=by show _=_;rw[O.out,Z,ki B (by rw[D.out];exact m),xU,hy,<-hv];rfl
      have bj:Hid (Rn.Mid c.f b (i+1) l (s'.tick.set v y)):=by have:=KU HF.out.val HE.out (hm.out.like (I0 s')) HL.out d (by rw[aH.out];exact m);rw[bs.out,am.out,xU,hy,hv]at this;exact this
      have bx:Hid ((s'.tick.set v y).t<=400):=by show s'.t+1<=400;omega
      have bi:Hid (i<F):=m;have bC:Hid ((s'.tick.set v y).z=s.z/\s.t<=(s'.tick.set v y).t):=⟨ax.out.1,Nat.le_succ_of_le ax.out.2⟩;clear d Z B G hN a0;go_wp2_with (go_at_call 154;refine CT.out.mono ?_;rintro e S ⟨rfl,p7,f7⟩;have P7:=dJ p7;have F7:=dJ (aa.out.trans (f7.mono fun k C=>.inl C));clear p7 f7);obtain⟨br,rfl,X,-,Y⟩:=dx (bu.out S F7.out) rfl (by omega);obtain⟨e0,e1,U⟩:=dX A i y bh.out;rw[Nat.mul_comm]at e0 e1 U;have U0:∀u:GrW S,u.val.cell? ⟨br,i*3,none⟩=some (.bool y.p):=fun u=>(u.gr.cell _ _ X).trans ((Y _ (by omega)).trans e0);have U1:∀u:GrW S,u.val.cell? ⟨br,i*3+1,none⟩=some (.int .i64 y.s):=fun u=>(u.gr.cell _ _ X).trans ((Y _ (by omega)).trans e1);have U2:∀u:GrW S,u.val.cell? ⟨br,i*3+2,none⟩=some (.int .u32 y.n):=fun u=>(u.gr.cell _ _ X).trans ((Y _ (by omega)).trans U)
      have bD:∀u:GrW S,u.val.cell? ⟨c.Bs,14,none⟩=some (.slice (some ⟨c.Bv,0,none⟩) N N):=fun u=>by have:=(P7.out.gr u.gr).cell 14;rw[aF.out]at this;exact this
      clear e0 e1 U X Y;refine dQ (W:=S) 13 (yO S) (by kernel_rfl) (by kernel_rfl) ?_;simp only[yA,List.take_zero,yD,List.drop_zero];repeat (go_big_quiet_step (fail))
      refine wpQuiet_nil ?_;intro w9 bN;obtain⟨u9,rfl⟩:=bN;clear U0 U1 U2 bD;obtain⟨W2,W3,bU,bV,⟨y',d0,d1,d2⟩,⟨f0,f1,f2⟩,bE,⟨zz,eh⟩,fh,-,p3,f3⟩:=(P7.out.gr u9.gr).write v af.out y;rw[aF.out]at bE;have P3:=dJ p3;have F3:=dJ ((F7.out.trans (FrS.of_gr u9.gr)).trans f3);clear p3 f3;go_wp2;have bY:=bi.out;exact⟨⟨i+1,s'.tick.set v y,by omega,by go_num,bx,P3,F3,bj,bm,bC⟩,by simp[intOf];omega⟩
    ·obtain rfl:i=F:=by omega
     clear m hi;go_wp2;go_ret2;exact⟨s',aK.out _ aa.out,.inr ⟨by rw[D.out];rfl,hd.out,ak.out,by rw[D.out];exact hm.out,by rw[am.out,D.out];exact O.out,ax.out⟩⟩
def DRX (c:Cfg)(pk:List Int)(w:World)(bl:List Int)(o:zO)(om wv bv:Value)(r:FH × AN)(e:Ending)(w':World):Prop :=
 match r with
 | (.val v,s')=>wP c pk w s' bl o om wv bv (some v) e w'
 | (.on,s')=>wP c pk w s' bl o om wv bv (some Rn.zero) e w'
 | (.fin _,s')=>wP c pk w s' bl o om wv bv none e w'
 | (.go _,_)=>False
def DLX (c:Cfg)(pk:List Int)(w:World)(s:AN)(bl:List Int)(o:zO)(om wv bv:Value)(r:FH × AN)(e:Ending)(w':World):Prop :=
 match r with
 | (.go t,s')=>s'=s/\e=.returned (.int .i64 t)/\DS c pk w' s bl o om wv bv/\FrS (·=c.Bs) w w'
 | (.fin o',s')=>s'=s/\e=.returned (.int .i64 (-1))/\DS c pk w' s bl o' (rD c o') wv bv/\FrS (·=c.Bs) w w'
 | _=>False
section
variable {c:Cfg}{pk bl:List Int}{w:World}{s:AN}{o:zO}{om wv bv:Value}
theorem qJ (h:DS c pk w s bl o om wv bv)(pick:Dk)(x:Ins)(va vt vl:Value)(hs:Kp c.f x)(ho:29<=x.op)(hv:∀v∈x.args,0<Ref.kind c.f v->Fp c.f (Ref.kind c.f v) (s.get v))(hl:VsAt w vl (x.args.map s.get))(ht:IntsAt w.heap.size w vt x.to) :
  Calls prog 156 #[.pointer (some ⟨c.Bs,0,none⟩),dj x va vt,vl] w (DLX c pk w s bl o om wv bv (ze c.f pick x s)):=by
 have g:∀{t:Int} {e:Ending} {w':World},ze c.f pick x s=(.go t,s)->e=.returned (.int .i64 t)/\Gr w w'->DLX c pk w s bl o om wv bv (ze c.f pick x s) e w':=fun e q=>by rw[e];exact⟨rfl,q.1,h.gr q.2,FrS.of_gr q.2⟩
 have fin:∀{o':zO} {e:Ending} {w':World},ze c.f pick x s=(.fin o',s)->e=.returned (.int .i64 (-1))/\DS c pk w' s bl o' (rD c o') wv bv/\FrS (·=c.Bs) w w'->DLX c pk w s bl o om wv bv (ze c.f pick x s) e w':=fun e q=>by rw[e];exact⟨rfl,q⟩
 cases hs with
 | jump q ha t ht' hw =>
  rw[ht']at ht;exact(oP h x va vt vl t q ht).mono fun e w' r=>g (by simp[ze,q,ha,ht']) r
 | trap q ha hw=>exact(oR h x va vt vl q).mono fun e w' r=>fin (by simp[ze,q,ha]) r
 | ret0 q ha hr hw =>
  rw[ha]at hl;exact(oQ h x va vt vl q hl).mono fun e w' r=>fin (o':=⟨0,Rn.zero,s.mem⟩) (by simp[ze,q,ha]) r
 | ret q a ha ka hr hw =>
  rw[ha]at hl;exact(qN h x va vt vl q (s.get a) hl).mono fun e w' r=>fin (o':=⟨0,s.get a,s.mem⟩) (by simp[ze,q,ha]) r
 | branch q a ha ka t u ht' hw =>
  have l:=hv a (by rw[ha];simp) (by omega);rw[ha]at hl;rw[ht']at ht
  cases hp:(s.get a).p with
  | true=>exact(qM h x va vt vl t u q (s.get a) hp hl).mono fun e w' r=>fin (by simp[ze,q,ha,hp]) r
  | false =>
   rw[ka]at l;have d:=(l.num ⟨by decide,by decide⟩).2;have m:m9 1=2:=by decide
   have j:=d.2;rw[m]at j;rcases (by have:=d.1;omega:(s.get a).n=0\/(s.get a).n=1) with hn|hn
   ·exact(qK h x va vt vl t u q ht (s.get a) hp hn hl).mono fun e w' r=>g (by simp[ze,q,ha,hp,hn,ht']) r
   ·exact(qL h x va vt vl t u q ht (s.get a) hp hn hl).mono fun e w' r=>g (by simp[ze,q,ha,hp,hn,ht']) r
 | const q=>omega
 | arith q=>omega
 | cmp q=>omega
 | select q=>omega
 | ext q=>omega
 | lanes q=>omega
 | freeze q=>omega
 | poison q=>omega
 | any q=>omega
 | addr q=>omega
 | gep q=>omega
 | load q=>omega
 | store q=>omega
 | phi q=>omega
theorem oJ {o:Int}{A B:Rn.V}(hA:A.p=false)(hB:B.p=false)(hb:ju o n A B=false):DR o fl n A B=some (wh o fl n A.n B.n):=by
 unfold ju at hb;rw[decide_eq_false_iff_not]at hb;unfold DR;rw[yt hb,yt (by rw[hA,hB];simp)];unfold wh BZ
 cases Wd.op o n A.n B.n with
 | none=>rfl
 | some z =>
  dsimp only;simp only[Option.isSome_some,Bool.true_and];split<;>rfl
theorem qv {o:Int}{A B:Rn.V}(hb:ju o n A B=true):DR o fl n A B=none:=by unfold ju at hb;rw[decide_eq_true_iff]at hb;unfold DR;rw[yr hb]
theorem qw {o:Int}{A B:Rn.V}(hp:A.p=true\/B.p=true)(hb:ju o n A B=false):DR o fl n A B=some zX:=by unfold ju at hb;rw[decide_eq_false_iff_not]at hb;unfold DR;rw[yt hb,yr hp]
theorem mD {o:Int}{A B:Rn.V}(h:¬(4<=o/\o<=7)):ju o n A B=false:=by unfold ju;rw[decide_eq_false_iff_not];exact fun q=>h q.1
theorem iB (h:DS c pk w s bl o om wv bv)(pick:Dk)(x:Ins)(va vt vl vk:Value)(n0:¬x.op=0)(n22:¬x.op=22)(n23:¬x.op=23)(n24:¬x.op=24)(n21:¬x.op=21)(n15:¬x.op=15)(n26:¬x.op=26)(n27:¬x.op=27)
  (A B:Rn.V) (hl:VsAt w vl [A,B]) (hd:4<=x.op/\x.op<=7->zi x.w/\yX x.w A.n/\yX x.w B.n) (v:Rn.V) (hs:A.p=false->B.p=false->ju x.op x.w A B=false->∀w',Gr w w'->Calls prog 181 #[.pointer (some ⟨c.Bs,0,none⟩),dj x va vt,vl,vk] w' (RG (vv v) w'))
  (e0:ju x.op x.w A B=true->ze c.f pick x s=(.fin Dw,s)) (e1:ju x.op x.w A B=false->(A.p=true\/B.p=true)->ze c.f pick x s=(.val zX,s)) (e2:ju x.op x.w A B=false->A.p=false->B.p=false->ze c.f pick x s=(.val v,s)) :
  Calls prog 157 #[.pointer (some ⟨c.Bs,0,none⟩),dj x va vt,vl,vk] w (DRX c pk w bl o om wv bv (ze c.f pick x s)):=by
 cases hb:ju x.op x.w A B with
 | true=>rw[e0 hb];exact mG h x va vt vl vk n0 n22 n23 n24 n21 n15 n26 n27 A B hl hd hb
 | false =>
  cases hA:A.p with
  | true=>rw[e1 hb (.inl hA)];exact ls h x va vt vl vk n0 n22 n23 n24 n21 n15 n26 n27 A B hl hd hb hA
  | false =>
   cases hB:B.p with
   | true=>rw[e1 hb (.inr hB)];exact lu h x va vt vl vk n0 n22 n23 n24 n21 n15 n26 n27 A B hl hd hb hA hB
   | false=>rw[e2 hb hA hB];exact lv h x va vt vl vk n0 n22 n23 n24 n21 n15 n26 n27 A B hl hd hb hA hB v (hs hA hB hb)
theorem IntsAt.grW {a b:World}(h:IntsAt a.heap.size a v zs)(g:Gr a b):IntsAt b.heap.size b v zs:=(h.below g).mono g.size
theorem mE (h:DS c pk w s bl o om wv bv)(hf:VFn c.f)(hi:Rn.Inv c.f s)(hBm:c.Bm<w.heap.size)(hpk:∀z∈pk,0<=z/\z<4294967296)(hpl:pk.length<=1000)(hw:s.z.length<=1000)(x:Ins)(va vt vl vk:Value)(hs:Kp c.f x)(ho:x.op<28)
  (hv:∀v∈x.args,0<Ref.kind c.f v->Fp c.f (Ref.kind c.f v) (s.get v)) (hl:VsAt w vl (x.args.map s.get)) (hk:IntsAt w.heap.size w vk (x.args.map (Ref.kind c.f))) :
  Calls prog 157 #[.pointer (some ⟨c.Bs,0,none⟩),dj x va vt,vl,vk] w (DRX c pk w bl o om wv bv (ze c.f (zo pk) x s)):=by
 cases hs with
 | const q ha hw' hi' =>
  rw[show ze c.f (zo pk) x s=(.val (Ae x.i),s) by simp[ze,q,ha,Ep]];exact ku h x va vt vl vk q
 | addr q ha hw' hi' =>
  rw[show ze c.f (zo pk) x s=(.val ⟨false,x.i+1,0⟩,s) by simp[ze,q,ha,Ep]];exact lm h x va vt vl vk q ⟨hi'.1,by have:=hf.val.size.2.1;omega⟩
 | poison q ha hw' =>
  rw[show ze c.f (zo pk) x s=(.val zX,s) by simp[ze,q,ha]];exact jw h x va vt vl vk q
 | any q ha hw' =>
  rw[show ze c.f (zo pk) x s=(.val (DD (zo pk) s x.w),s.chose x.w) by simp[ze,q,ha]];exact mF h x va vt vl vk hBm hpk hpl hw' hw q
 | freeze q a ha ka hw' =>
  rw[ha]at hl
  cases j:(s.get a).p with
  | true =>
   rw[show ze c.f (zo pk) x s=(.val (DD (zo pk) s x.w),s.chose x.w) by simp[ze,q,ha,j]];exact iO h x va vt vl vk hBm hpk hpl hw' hw q (s.get a) j hl
  | false =>
   rw[show ze c.f (zo pk) x s=(.val (s.get a),s) by simp[ze,q,ha,j]];exact jv h x va vt vl vk q (s.get a) j hl
 | select q a b d ha ka kb kd hw' =>
  have t:=hv a (by rw[ha];simp) (by omega);rw[ha]at hl
  cases j:(s.get a).p with
  | true =>
   rw[show ze c.f (zo pk) x s=(.val zX,s) by simp[ze,q,ha,j]];exact iR h x va vt vl vk q (s.get a) (s.get b) (s.get d) j hl
  | false =>
   rw[ka]at t;have I:=(t.num ⟨by decide,by decide⟩).2;have J:m9 1=2:=by decide
   have K:=I.2;rw[J]at K;rcases (by have:=I.1;omega:(s.get a).n=0\/(s.get a).n=1) with D|D
   ·rw[show ze c.f (zo pk) x s=(.val (s.get d),s) by simp[ze,q,ha,j,D]];exact iP h x va vt vl vk q (s.get a) (s.get b) (s.get d) j D hl
   ·rw[show ze c.f (zo pk) x s=(.val (s.get b),s) by simp[ze,q,ha,j,D]];exact iQ h x va vt vl vk q (s.get a) (s.get b) (s.get d) j D hl
 | load q a ha ka hw' =>
  have t:=hv a (by rw[ha];simp) (by omega);rw[ka]at t;rw[ha]at hl
  obtain⟨n,E,F,D⟩:∃n:Nat,1<=n/\n<=4/\x.w=8*(n:Int):=by
   rcases hw' with e|e|e
   ·exact⟨1,by omega,by omega,by omega⟩
   ·exact⟨2,by omega,by omega,by omega⟩
   ·exact⟨4,by omega,by omega,by omega⟩
  have G:(x.w / 8).toNat=n:=by omega
  have e:ze c.f (zo pk) x s=match Em s.mem (s.get a) n with|none=>(FH.fin Dw,s)|some v=>(FH.val v,s):=by unfold ze;simp[q,ha,G];rfl
  have C:=lo h x va vt vl vk hf hi q (s.get a) hl t n E F D;rw[e]
  cases hr:Em s.mem (s.get a) n with
  | none=>rw[hr]at C;exact C
  | some v=>rw[hr]at C;exact C
 | store q a b ha ka kb hw' =>
  have t:=hv a (by rw[ha];simp) (by omega);have B:=hv b (by rw[ha];simp) (by rcases kb with e|e|e<;>omega);have l:=(B.num (by rcases kb with e|e|e<;>rw[e]<;>exact⟨by decide,by decide⟩)).2
  have H:(s.get b).n<4294967296:=by have:=C4 (n:=Ref.kind c.f b) (by rcases kb with e|e|e<;>rw[e]<;>exact⟨by decide,by decide⟩);have:=l.2;omega
  rw[ka]at t;rw[ha]at hl hk
  obtain⟨n,E,F,D⟩:∃n:Nat,1<=n/\n<=4/\Ref.kind c.f b=8*(n:Int):=by
   rcases kb with e|e|e
   ·exact⟨1,by omega,by omega,by omega⟩
   ·exact⟨2,by omega,by omega,by omega⟩
   ·exact⟨4,by omega,by omega,by omega⟩
  have G:(Ref.kind c.f b / 8).toNat=n:=by omega
  have e:ze c.f (zo pk) x s=match DT s.mem (s.get a) (s.get b) n with|none=>(FH.fin Dw,s)|some m=>(FH.on,{s with mem:=m}):=by unfold ze;simp[q,ha,G];rfl
  rw[e]
  cases hr:DT s.mem (s.get a) (s.get b) n with
  | none=>exact jx h x va vt vl vk hBm hf hi q (s.get a) (s.get b) _ _ hl hk t n E F ⟨l.1,H⟩ D hr
  | some m=>exact jy h x va vt vl vk hBm hf hi q (s.get a) (s.get b) _ _ hl hk t n E F ⟨l.1,H⟩ D m hr
 | arith q a b ha ka kb hw' hfl =>
  have t:=hv a (by rw[ha];simp) (by have:=hw'.1;omega);have B:=hv b (by rw[ha];simp) (by have:=hw'.1;omega);rw[ka]at t;rw[kb]at B;have u:=(t.num hw').2;have l:=(B.num hw').2;rw[ha]at hl hk
  have e:ze c.f (zo pk) x s=match DR x.op x.g x.w (s.get a) (s.get b) with|none=>(FH.fin Dw,s)|some v=>(FH.val v,s):=by
   unfold ze;dsimp only;repeat rw[yt (by omega)]
   rw[yr q,ha];rfl
  exact iB h (zo pk) x va vt vl vk (by omega) (by omega) (by omega) (by omega) (by omega) (by omega) (by omega) (by omega) (s.get a) (s.get b) hl (fun _=>⟨hw',u,l⟩) (wh x.op x.g x.w (s.get a).n (s.get b).n)
   (fun _ _ _ w' g=>kw c.Bs x va vt vl vk (s.get a) (s.get b) _ _ (hl.gr g) (hk.grW g) q hfl hw' u l)
   (fun A=>by rw[e,qv A]) (fun A j=>by rw[e,qw j A]) (fun A j y=>by rw[e,oJ j y A])
 | cmp q a b ha kb hk' hw' him =>
  have t:=hv a (by rw[ha];simp) (by have:=hk'.1;omega);have B:=hv b (by rw[ha];simp) (by have:=hk'.1;omega);rw[kb]at B;have u:=(t.num hk').2;have l:=(B.num hk').2;rw[ha]at hl hk
  exact iB h (zo pk) x va vt vl vk (by omega) (by omega) (by omega) (by omega) (by omega) (by omega) (by omega) (by omega) (s.get a) (s.get b) hl (fun r=>by omega) (Jy (Gy x.i (Ref.kind c.f a) (s.get a).n (s.get b).n))
   (fun _ _ _ w' g=>mH c.Bs x va vt vl vk (s.get a) (s.get b) _ _ (hl.gr g) (hk.grW g) q him hk' u l)
   (fun A=>by rw[mD (by omega)]at A;cases A) (fun _ j=>by rcases j with j|j<;>simp[ze,q,ha,j]) (fun _ j y=>by simp[ze,q,ha,j,y,Ep])
 | lanes q a b ha ka kb hw' h1 J h3 =>
  have t:=hv a (by rw[ha];simp) (by have:=hw'.1;omega);have B:=hv b (by rw[ha];simp) (by have:=hw'.1;omega);rw[ka]at t;rw[kb]at B;have u:=(t.num hw').2;have l:=(B.num hw').2;rw[ha]at hl hk
  exact iB h (zo pk) x va vt vl vk (by omega) (by omega) (by omega) (by omega) (by omega) (by omega) (by omega) (by omega) (s.get a) (s.get b) hl (fun r=>by omega) (Ae (CP x.op x.i (x.w / x.i).toNat (s.get a).n (s.get b).n))
   (fun _ _ _ w' g=>ky c.Bs x va vt vl vk (s.get a) (s.get b) _ _ (hl.gr g) (hk.grW g) q hw' u l h1 J h3)
   (fun A=>by rw[mD (by omega)]at A;cases A) (fun _ j=>by rcases q with q|q<;>rcases j with j|j<;>simp[ze,q,ha,j]) (fun _ j y=>by rcases q with q|q<;>simp[ze,q,ha,j,y,Ep])
 | gep q a b ha ka kb hw' hfl =>
  have t:=hv a (by rw[ha];simp) (by omega);have B:=hv b (by rw[ha];simp) (by have:=kb.1;omega);rw[ka]at t;have l:=(B.num kb).2;rw[ha]at hl hk
  exact iB h (zo pk) x va vt vl vk (by omega) (by omega) (by omega) (by omega) (by omega) (by omega) (by omega) (by omega) (s.get a) (s.get b) hl (fun r=>by omega) (GQ c.f.s x.g (Ref.kind c.f b) (s.get a) (s.get b))
   (fun j _ _ w' g=>mJ (h.gr g) hf x va vt vl vk (s.get a) (s.get b) _ _ (hl.gr g) (hk.grW g) q t j kb l)
   (fun A=>by rw[mD (by omega)]at A;cases A) (fun _ j=>by rcases j with j|j<;>simp[ze,q,ha,j]) (fun _ j y=>by simp[ze,q,ha,j,y,Ep])
 | ext q a ha hk' hw' hd =>
  have t:=hv a (by rw[ha];simp) (by have:=hk'.1;omega);have u:=(t.num hk').2;rw[ha]at hl hk
  cases j:(s.get a).p with
  | true =>
   rw[show ze c.f (zo pk) x s=(.val zX,s) by rcases q with q|q|q<;>simp[ze,q,ha,j]];exact lp h x va vt vl vk (by omega) (by omega) (by omega) (by omega) (by omega) (by omega) (by omega) (by omega) (s.get a) hl j
  | false =>
   rw[show ze c.f (zo pk) x s=(.val (Ae (E0 x.op (Ref.kind c.f a) x.w (s.get a).n)),s) by rcases q with q|q|q<;>simp[ze,q,ha,j,Ep]]
   exact lr h x va vt vl vk (by omega) (by omega) (by omega) (by omega) (by omega) (by omega) (by omega) (by omega) (s.get a) hl j _
    (fun w' g=>mI c.Bs x va vt vl vk (s.get a) _ (hl.gr g) (hk.grW g) q hk' hw' u hd)
 | phi q=>omega
 | jump q=>omega
 | branch q=>omega
 | ret0 q=>omega
 | ret q=>omega
 | trap q=>omega
end
def xm (c:Cfg)(pk:List Int)(w:World)(wv bv:Value)(bl:List Int)(o:zO)(om:Value)(r:NW × AN)(e:Ending)(w':World):Prop :=
 match r with
 | (.run t,s')=>e=.returned (.int .i64 t)/\DLeft c pk w wv bv s' bl o om w'
 | (.over o',s')=>e=.returned (.int .i64 (-1))/\DLeft c pk w wv bv s' bl o' (rD c o') w'
theorem um (h:Kp f x)(hw:x.w≠0):0<x.w:=by
 cases h<;>(try unfold zi at *)<;>(try unfold LZ at *)<;>omega
theorem wL (h:Kp f x)(ho:x.op≠28)(hl:Cb x.op=false):x.op<28:=by unfold Cb at hl;simp at hl;cases h<;>omega
theorem oO {s:AN}{o:zO}(h:DS c pk w s bl o om wv bv)(hf:VFn c.f)(hBm:c.Bm<w.heap.size)(hpk:∀z∈pk,0<=z/\z<4294967296)(hpl:pk.length<=1000)(hbl:bl.length<=1000)
     (hl:c.f.b[b]?=some l) (he:JO c.f b frm l s) (hst:s.t<=400) (hwo:Jr s) :
  Calls prog 129 #[.pointer (some ⟨c.Bs,0,none⟩),.int .i64 b,.int .i64 frm] w (xm c pk w wv bv (bl++[(b:Int)]) o om (Rn.block c.f (zo pk) b frm s)):=by
 obtain⟨i0,hi,bY,bZ,b0⟩:=info_parts dK;obtain⟨A,cw,rfl⟩:=h.blk.form;rw[yl]at h;rw[yl];obtain⟨N,hN⟩:=xJ bl.length;have HN:=dJ hN;obtain⟨rs,aw⟩:=xJ ((Do l).map (Eh s frm));have Q:=xT hl;have ae:(Do l).length<=l.length:=Kv l;have X:rs.length=(Do l).length:=by rw[<-aw,yl]
 have aB:=(xS.1 hl).1;have bk:c.f.b.length<=100000:=by have:=hf.val.size.2.2.2.1;omega
 have bx:0<l.length:=List.length_pos_iff.2 (GR hf.val Q).1;have br:=EK c.f hl
 have aC:An c.f<=1000:=by
  have:=hf.val.size;have e:An c.f=c.f.p.length+AX c.f.b:=by unfold An yZ;rw[yv]
  omega
 obtain⟨R,hR⟩:=xJ (Rn.block c.f (zo pk) b frm s)
 have bf:AO c.f (zo pk) rs l 0 (yZ c.f b) s=R:=by rw[<-hR];unfold Rn.block;rw[xU,hl];show _=AO c.f (zo pk) ((Do l).map (Eh s frm)) l 0 _ s;rw[aw]
 rw[hR];have bQ:w.cell? ⟨c.Bs,12,none⟩=some (.slice A bl.length cw):=h.cell 12;have cq:w.frozen? ⟨c.Bs,12,none⟩=false:=yp _ _ 12 _ _ h.st;have HH:=dJ h;have aG:Hid (c.n₀<=w.heap.size):=h.n₀;have L:=dJ hf;have HL:=dJ hl;have HE:=dJ he;have bM:=dJ hst;have ba:=dJ hwo;have a4:=dJ bf;have a5:=dJ aw;have aK:=dJ X;have aI:=dJ ae;have bJ:=dJ hpk;have bG:=dJ hBm;have HB:=dJ aB;have aU:=dJ bk;have ag:=dJ (And.intro br aC);have ce:N<=1000:=by omega
 rw[hN]at bQ HH ⊢;clear h hf hl he hst hwo hR bf aw X ae hpk hBm aB bk br aC Q hN hbl
 go_enter func129, ntmps129
 go_wp2_with (first
   | (at_builtin;refine kZ (n:=N) (v:=.slice A N cw) underlying33 hi bY bZ b0 rfl (by omega) rfl (.tmp 21) (.tmp 23) rfl (by rw[yl];exact HN.out) rfl HH.out.blk rfl rfl (by omega) aG.out ?_;intro A2 c2 w2 bu bn aA;
       obtain⟨r0,r1,r2,r3⟩:=HH.out.pushB bn bu aA;have ck:w2.cell? ⟨c.Bs,12,none⟩=some (.slice A N cw):=yo _ _ 12 _ _ _ r0;have y0:w2.frozen? ⟨c.Bs,12,none⟩=false:=yp _ _ 12 _ _ r0;
       obtain⟨W3,bg⟩:=xJ (w2.setCell ⟨c.Bs,12,none⟩ (.slice A2 (N+1) c2));rw[bg]at r1 r2;have H3:=dJ r1;have F3:=dJ r2;have O3:=dJ r3;clear r0 r1 r2 r3 bu bn aA))
 go_at_call 153
 (with_reducible refine(qQ H3.out L.out HL.out HE.out bM.out (zo pk)).mono ?_);rintro e w7 ⟨s1,f7,⟨rfl,J,r7⟩|⟨rfl,J,bA,av,r7,ax⟩⟩
 ·have P7:=dJ J;have F7:=dJ (F3.out.trans (f7.mono fun k d=>.inl d));have aJ:Hid (R=(.over ID,s1)):=by (show _=_);rw[<-a4.out,<-a5.out];exact r7
  clear J f7 r7;go_wp2;go_ret;rw[aJ.out];exact⟨rfl,_,_,P7.out,F7.out,O3.out⟩
 ·rw[a5.out]at av r7;have U:=r7.symm.trans a4.out;obtain⟨np,ae⟩:=xJ ((Do l).length);have X:=aK.out;rw[ae]at X;have aI:=dJ ae;have aK:=dJ X;rw[X]at av U
  have bs:np<l.length:=by
   rcases yw np l.length with q|q
   ·exact q
   ·obtain⟨x,hx⟩:∃x,l[l.length-1]?=some x:=⟨_,xR (by omega)⟩;have h1:=(Iy L.out.val (xT HL.out) hx).2 (by omega);have h2:=(Fv L.out.val (xT HL.out) hx).2 (by omega);rw[h2]at h1;exact absurd h1 (by decide)
  have aT:DLeft c pk w wv (.slice A N cw) s1 (bl++[(b:Int)]) o om w7:=⟨_,_,J,F3.out.trans (f7.mono fun k d=>.inl d),O3.out⟩;have bO:Hid (Jr s1):=⟨by rw[ax.1];exact Nat.le_trans ba.out.1 ax.2,by rw[ax.1];exact ba.out.2⟩;have c0:w7.cell? ⟨c.Bs,0,none⟩=some c.vp:=J.cell 0;have c1:w7.cell? ⟨c.Bs,1,none⟩=some (.int .i64 c.f.ret):=J.cell 1;have bR:w7.cell? ⟨c.Bs,2,none⟩=some c.vs:=J.cell 2;have c3:w7.cell? ⟨c.Bs,3,none⟩=some c.vb:=J.cell 3;have CN:=dJ (fK (.agg #[c.vp,.int .i64 c.f.ret,c.vs,c.vb]) c.f b w7 (J.fn.mono J.n₀) (by have:=HB.out;omega) aU.out);obtain⟨cn,co,cm,e,-,-,hb⟩:=HH.out.fn;injection e with e;injection e with e;injection e with e1 e;injection e with _ e;injection e with e3 e;injection e with e2 _;obtain⟨Ab,cb,bB,b1,b2,b3⟩:=hb;obtain⟨bb,ob,be,bh,b4⟩:=b3 (by have:=HB.out;omega);obtain⟨vl,bC,bU⟩:=b4 b l HL.out;obtain⟨Al,cl,rfl,l1,l2,l3⟩:=bU;obtain⟨bi,ol,rfl,bj,l4⟩:=l3 bx
  have a8:Hid (∀s' wr,DLeft c pk w wv (.slice A N cw) s' (bl++[(b:Int)]) o om wr->wr.cell? ⟨c.Bs,3,none⟩=some (.slice (some ⟨bb,ob,none⟩) c.f.b.length cb)/\wr.cell? ⟨bb,ob+b,none⟩=some (.slice (some ⟨bi,ol,none⟩) l.length cl)):=fun s' wr ⟨_,_,p,f,_⟩=>by
   have ab:=f.below (fun k d=>HH.out.dlt d) aG.out;refine⟨?_,(ab.cell (p:=⟨bb,ob+b,none⟩) bh).trans bC⟩;have:=p.cell 3;have e:c.vb=.slice (some ⟨bb,ob,none⟩) c.f.b.length cb:=by rw[e2,bB,be]
   rw[<-e];exact this
  have aX:Hid (∀s' wr,DLeft c pk w wv (.slice A N cw) s' (bl++[(b:Int)]) o om wr->∀k x,l[k]?=some x->InsAt c.n₀ wr bi (ol+k*6) x):=fun s' wr ⟨_,_,p,f,_⟩ k x hx=>(l4 k x hx).below bj (f.below (fun k d=>HH.out.dlt d) aG.out);have bH:=dJ aT;have bI:=dJ av;have bL:=dJ bA;obtain⟨NB,aN⟩:=xJ (yZ c.f b);have aZ:=dJ aN;rw[aN]at CN U;have bK:=dJ U;have b9:l.length<=1000:=by have:=ag.out;omega
  have b7:NB<=1000:=by have:=ag.out;omega
  clear J f7 bA av ax r7 U ae X e1 e2 e3 bB be bC b1 b2 b3 b4 l1 l2 l3 l4 bh bj aT aN;obtain⟨bc,aa⟩:=xJ c.f.b.length;rw[aa]at a8;have cg:b<bc:=by rw[<-aa];exact HB.out
  have bT:bc<=100000:=by rw[<-aa];exact aU.out
  clear aa
  go_wp2_with (first|(go_at_call 128;refine CN.out.mono ?_;rintro e w8 ⟨rfl,g8⟩;have D8:=dJ (bH.out.gr g8);clear g8 c0 c1 bR c3))
  go_loopw [10] (fun aR wr=>∃(i:Nat)(s':AN),i<l.length/\np<=i/\aR=.int .i64 (i:Int)/\Hid (s'.t<=400)/\Hid (Jr s')/\Hid (DLeft c pk w wv (.slice A N cw) s' (bl++[(b:Int)]) o om wr)/\Hid (Rn.Mid c.f b i l s')/\Hid (AO c.f (zo pk) rs (l.drop i) i (NB+i) s'=R)) (fun aR _=>l.length-(intOf aR).toNat)
  case atStart=>exact⟨np,s1,bs,yJ _,by rw[aI.out],bL,bO,D8,bI,bK⟩
  case round =>
   obtain⟨i,s',hi,cc,rfl,aE,ao,aQ,hm,aD⟩:=hrel;obtain⟨y3,y4⟩:=a8.out _ _ aQ.out;by_cases aj:i<l.length
   ·obtain⟨x,hx⟩:∃x,l[i]?=some x:=⟨_,xR aj⟩;have Q:=xT HL.out;have an:=NR L.out.val L.out.im Q (xT hx);have ho:x.op≠28:=fun e=>by have:=(Fv L.out.val Q hx).1 e;rw[aI.out]at this;omega
    have au:l.drop i=x::l.drop (i+1):=by rw[yg aj];congr 1;rw[xR aj]at hx;injection hx
    obtain⟨va,cp,i0,i1,i2,i3,i4,i5,ia,it⟩:=aX.out _ _ aQ.out i x hx;obtain⟨ay,aq,p,f,q⟩:=aQ.out;have b5:=ia;have b6:=it;obtain⟨Aa,ca,rfl,-,-,-⟩:=b5;obtain⟨At,ct,rfl,-,-,-⟩:=b6;obtain⟨Wa,aO⟩:=xJ (uz wr);obtain⟨Wb,aP⟩:=xJ (qb Wa wr.heap.size x (.slice Aa x.args.length ca) (.slice At x.to.length ct));have ga:Gr wr Wa:=by rw[<-aO];exact(yO wr).alloc _
    have al:Wa.heap[wr.heap.size]?=some (.cells #[.int .i64 0,.int .i64 0,.int .i64 0,.slice none 0 0,.int .u32 0,.slice none 0 0] 68 (0,0)):=by rw[<-aO];exact heap_alloc_new _ _
    have gb:Gr wr Wb:=by rw[<-aP];exact gr_frs' ga (ml _ _ _ _ _) (fun k d=>by omega)
    have am:=mm (x:=x) (va:=.slice Aa x.args.length ca) (vt:=.slice At x.to.length ct) al;rw[aP]at am;obtain⟨r0,r1,r2,r3,r4,r5⟩:=crw6 al 0 1 2 3 4 5;obtain⟨s0,s1,s2,s3,s4,s5⟩:=frw6 al 0 1 2 3 4 5;have ak:=p.gr gb;have F0:=dJ (f.trans (FrS.of_gr (S:=DO c wv (.slice A N cw)) gb));have Q0:=dJ q;unfold uz at aO;unfold qb at aP;by_cases H:s'.t=400
    ·have CT:=dJ (jL ak H);have aJ:Hid (R=(.over ID,s')):=by (show _=_);rw[<-aD.out,au,gm H]
     clear hx au H Q an ho p f q ga gb al am ak ia it
     go_wp2_with (first|(go_at_call 154;refine CT.out.mono ?_;rintro e w7 ⟨rfl,J,f7⟩;have P7:=dJ J;have F7:=dJ (F0.out.trans (f7.mono fun k d=>.inl (.inl d)));clear J f7))
     go_ret;rw[aJ.out];exact⟨rfl,_,_,P7.out,F7.out,Q0.out⟩
    ·have ac:s'.t<400:=by have:=aE.out;omega
     have CT:=dJ (nL ak ac);have bp:Rn.Mid c.f b i l s'.tick:=hm.out.like (I0 s');have HM:=dJ bp
     have M:Hid (rB c.f (zo pk) rs (l.drop (i+1)) i (NB+i) (ze c.f (zo pk) x s'.tick)=R):=by show _=_;rw[<-aD.out,au,jl H (by rw[aK.out];omega)]
     have HX:=dJ hx;have ad:=dJ an;have HO:=dJ ho;have aY:Hid (i<l.length):=aj;have a6:Hid (s'.tick.t<=400):=by show s'.t+1<=400;omega
     have B:Hid (∀w',FrS (DO c ay aq) Wb w'->w'.heap[wr.heap.size]?=some (.cells #[.int .i64 x.op,.int .i64 x.w,.int .i64 x.g,.slice Aa x.args.length ca,.int .u32 x.i,.slice At x.to.length ct] 68 (0,0))):=fun w' f'=>(f'.block _ (cY am) (fun e=>by have:=p.lt e;omega)).trans am
     have aW:Hid (∀w',FrS (DO c ay aq) Wb w'->IntsAt c.n₀ w' (.slice Aa x.args.length ca) x.args/\IntsAt c.n₀ w' (.slice At x.to.length ct) x.to):=fun w' f'=>by have ab:=(Below.mono gb p.n₀).trans (f'.below (fun k d=>p.dlt d) ak.n₀);exact⟨ia.below ab,it.below ab⟩
     have cd:=dJ (fun k (d:DO c ay aq k)=>p.lt d);clear hx au H Q an ho p f q ga gb al am ak ia it bp ac
     go_wp2_with (first
       | (go_at_call 154;refine CT.out.mono ?_;rintro e w7 ⟨rfl,J,f7⟩;have P7:=dJ J;have G7:=dJ (f7.mono (S':=DO c ay aq) fun k d=>.inl (.inl d));
           have U:=B.out w7 G7.out;obtain⟨x0,x1,x2,x3,x4,x5⟩:=crw6 U 0 1 2 3 4 5;clear J f7 U))
     have CA:=dJ (qH P7.out L.out x (.slice Aa x.args.length ca) (.slice At x.to.length ct) (aW.out w7 G7.out).1 (oo ad.out HO.out) (fun v hv=>by
       have:=EX (sC ad.out HO.out v hv)
       rw[<-HM.out.toInv.len]at this;exact this) HM.out.toInv.len (by rw[HM.out.toInv.len];exact ag.out.2))
     unfold dj at CA
     go_at_call 155
     (with_reducible refine CA.out.mono ?_);rintro e w8 ⟨A3,c3,A4,c4,rfl,bE,bo,g8⟩;have VS:=dJ bE;have KS:=dJ bo;have G8:=dJ g8;have aV:Hid (c.Bm<w8.heap.size):=by have h1:=bG.out;have h2:=F0.out.size;have h3:=G7.out.size;have h4:=g8.size;show _<_;omega
     have P8:=dJ (P7.out.gr g8);have K:=dJ (G7.out.trans (FrS.of_gr g8));have bz:=B.out w8 K.out;obtain⟨x0,x1,x2,x3,x4,x5⟩:=crw6 bz 0 1 2 3 4 5;obtain⟨la,O⟩:=xJ (Cb x.op);have CI:=dJ (fun w1=>jS x.op w1);rw[O]at CI;have a7:Hid (∀v∈x.args,0<Ref.kind c.f v->Fp c.f (Ref.kind c.f v) (s'.tick.get v)):=fun v hv d=>Jc L.out.val HM.out HL.out HX.out HO.out hv d;have bm:=KT (pick:=zo pk) L.out.val L.out.im (Jj pk) HM.out HL.out HX.out HO.out;have aH:=dJ bm;clear bE bo g8 bz bm CA
     cases la with
     | true =>
      have bd:29<=x.op:=by unfold Cb at O;simp at O;omega
      have CL:=dJ (qJ P8.out (zo pk) x (.slice Aa x.args.length ca) (.slice At x.to.length ct) _ ad.out bd a7.out VS.out (((aW.out w8 K.out).2).mono P8.out.n₀));clear O bd;unfold dj at CL
      go_wp2_with (first|(go_at_call 109;refine(CI.out _).mono ?_;rintro e g ⟨rfl,rfl⟩))
      go_at_call 156
      (with_reducible refine CL.out.mono ?_);intro e g D;rcases hq:ze c.f (zo pk) x s'.tick with ⟨_|_|t|o',s2⟩;all_goals rw[hq]at D M
      ·exact D.elim
      ·exact D.elim
      ·obtain⟨rfl,rfl,p9,E⟩:=D;have D9:=dJ (dR F0.out Q0.out ⟨_,_,p9,K.out.trans (E.mono fun k d=>.inl (.inl d)),fun k d=>.inl d⟩);clear p9 E hq;go_wp2;go_ret;rw[<-M.out];exact⟨rfl,D9.out⟩
      ·obtain⟨rfl,rfl,p9,E⟩:=D;have D9:=dJ (dR F0.out Q0.out ⟨_,_,p9,K.out.trans (E.mono fun k d=>.inl (.inl d)),fun k d=>.inl d⟩);clear p9 E hq;go_wp2;go_ret;rw[<-M.out];exact⟨rfl,D9.out⟩
     | false =>
      have aM:=wL ad.out HO.out O
      have a3:Hid (i+1<l.length):=by
       have h1:=Iy L.out.val (xT HL.out) HX.out;have h2:=aY.out;have h3:i+1≠l.length:=fun e=>by have:=h1.2 e;rw[O]at this;cases this
       show _<_;omega
      have bF:=dJ aM;have CR:=dJ (mE P8.out L.out HM.out.toInv (by have:=aV.out;omega) bJ.out hpl (by have:=ao.out.1;have:=aE.out;show s'.z.length<=1000;omega) x (.slice Aa x.args.length ca) (.slice At x.to.length ct) _ _ ad.out aM a7.out VS.out KS.out);clear O aM;unfold dj at CR
      go_wp2_with (first|(go_at_call 109;refine(CI.out _).mono ?_;rintro e g ⟨rfl,rfl⟩))
      go_at_call 157
      (with_reducible refine CR.out.mono ?_);intro e g D;rcases hq:ze c.f (zo pk) x s'.tick with ⟨v|_|t|o',s2⟩;all_goals rw[hq]at D M aH
      ·obtain⟨rfl,aS,aL,p9,E,q9⟩:=D;obtain⟨af,aF,T⟩:=aH.out;obtain⟨Y,C⟩:=xJ (fR g);obtain⟨Wz,y⟩:=xJ (dy Y g.heap.size v);have G:Gr g Y:=by rw[<-C];exact(yO g).alloc _
       have m:Y.heap[g.heap.size]?=some (.cells #[.bool false,.int .i64 0,.int .u32 0] 24 (0,0)):=by rw[<-C];exact heap_alloc_new _ _
       have Z:Gr g Wz:=by rw[<-y];exact gr_frs' G (ef _ _ _) (fun k d=>by omega)
       have j:=cX (i:=2) (.int .u32 v.n) (cX (i:=1) (.int .i64 v.s) (cX (i:=0) (.bool v.p) m));change (dy Y g.heap.size v).heap[g.heap.size]?=_ at j;rw[y]at j;obtain⟨a0,a1,a2⟩:=crw3 m 0 1 2;obtain⟨t0,t1,t2⟩:=frw3 m 0 1 2;have I:=(Z.heap _ (by have:=cY (B.out g (K.out.trans E));exact this)).trans (B.out g (K.out.trans E));have x1:=yo _ _ 1 _ _ _ I;have PZ:=dJ (p9.gr Z);have FZ:=dJ ((K.out.trans E).trans (FrS.of_gr Z));have cj:0<x.w:=um ad.out af;have ai:Hid (Jr s2):=by have:=Kr (f:=c.f) (pick:=zo pk) (x:=x) (s:=s') (Js L.out.val L.out.im HL.out x (xT HX.out)) ao.out;rw[hq]at this;exact this
       have ah:Hid (s2.t<=400):=by have:=GT c.f (zo pk) x s'.tick;rw[hq]at this;show s2.t<=400;rw[this];exact a6.out
       have bq:=T.set HL.out HX.out af aF;have ap:=dJ bq;obtain⟨vn,bD⟩:=xJ (NB+i);have ci:(NB:Int)+(i:Int)=(vn:Int):=by omega
       rw[aZ.out,bD]at ap;have az:Hid (vn<s2.v.length):=by show vn<_;rw[T.toInv.len];have:=ag.out;have:=aY.out;have:=aZ.out;omega
       obtain⟨VN,ar⟩:=xJ s2.v.length;have a9:=dJ ar;have ch:vn<VN:=by rw[<-ar];exact az.out
       have b8:VN<=1000:=by rw[<-ar,T.toInv.len];exact ag.out.2
       have bP:∀u:GrW Wz,u.val.cell? ⟨c.Bs,14,none⟩=some (.slice (some ⟨c.Bv,0,none⟩) VN VN):=fun u=>by have:=(PZ.out.gr u.gr).cell 14;rw[a9.out]at this;exact this
       have U0:∀u:GrW Wz,u.val.cell? ⟨g.heap.size,0,none⟩=some (.bool v.p):=fun u=>(u.gr.cell _ _ (cY j)).trans (yo _ _ 0 _ _ _ j);have U1:∀u:GrW Wz,u.val.cell? ⟨g.heap.size,1,none⟩=some (.int .i64 v.s):=fun u=>(u.gr.cell _ _ (cY j)).trans (yo _ _ 1 _ _ _ j);have U2:∀u:GrW Wz,u.val.cell? ⟨g.heap.size,2,none⟩=some (.int .u32 v.n):=fun u=>(u.gr.cell _ _ (cY j)).trans (yo _ _ 2 _ _ _ j);have DQ:=dJ q9;unfold fR at C;unfold dy at y;dsimp only[fT,vv];clear p9 E q9 af aF T bq G m Z j I hq ar;go_wp2;refine dQ (W:=Wz) 10 (yO Wz) (by kernel_rfl) (by kernel_rfl) ?_;simp only[yA,List.take_zero,yD,List.drop_zero];repeat (go_big_quiet_step (fail))
       refine wpQuiet_nil ?_;intro w6 bX;obtain⟨u9,rfl⟩:=bX;clear U0 U1 U2 bP;obtain⟨W2,W3,cf,bg,⟨y',d0,d1,d2⟩,⟨f0,f1,f2⟩,bS,⟨zz,eh⟩,fh,-,p3,f3⟩:=(PZ.out.gr u9.gr).write vn az.out v;rw[a9.out]at bS;have D3:=dJ (dR F0.out Q0.out (dR FZ.out (fun k d=>(DQ.out k d).imp (fun e=>e) (fun e=>Nat.le_trans K.out.size e)) ⟨_,_,p3,(FrS.of_gr u9.gr).trans (f3.mono fun k d=>.inl d),fun k d=>.inl d⟩));clear p3 f3;go_wp2;have bV:=a3.out;exact⟨⟨i+1,s2.set vn v,by omega,by omega,by go_num,ah,ai,D3,ap,by show _=_;rw[<-M.out,<-bD];rfl⟩,by simp[intOf];omega⟩
      ·obtain⟨rfl,aS,aL,p9,E,q9⟩:=D;obtain⟨af,T⟩:=aH.out;obtain⟨Y,C⟩:=xJ (fR g);obtain⟨Wz,y⟩:=xJ (dy Y g.heap.size Rn.zero);have G:Gr g Y:=by rw[<-C];exact(yO g).alloc _
       have m:Y.heap[g.heap.size]?=some (.cells #[.bool false,.int .i64 0,.int .u32 0] 24 (0,0)):=by rw[<-C];exact heap_alloc_new _ _
       have Z:Gr g Wz:=by rw[<-y];exact gr_frs' G (ef _ _ _) (fun k d=>by omega)
       have j:=cX (i:=2) (.int .u32 (0:Int)) (cX (i:=1) (.int .i64 (0:Int)) (cX (i:=0) (.bool false) m));change (dy Y g.heap.size Rn.zero).heap[g.heap.size]?=_ at j;rw[y]at j;obtain⟨a0,a1,a2⟩:=crw3 m 0 1 2;obtain⟨t0,t1,t2⟩:=frw3 m 0 1 2;have I:=(Z.heap _ (by have:=cY (B.out g (K.out.trans E));exact this)).trans (B.out g (K.out.trans E));have x1:=yo _ _ 1 _ _ _ I;have PZ:=dJ (p9.gr Z);have FZ:=dJ ((K.out.trans E).trans (FrS.of_gr Z));have ai:Hid (Jr s2):=by have:=Kr (f:=c.f) (pick:=zo pk) (x:=x) (s:=s') (Js L.out.val L.out.im HL.out x (xT HX.out)) ao.out;rw[hq]at this;exact this
       have ah:Hid (s2.t<=400):=by have:=GT c.f (zo pk) x s'.tick;rw[hq]at this;show s2.t<=400;rw[this];exact a6.out
       have ap:=dJ (T.skip HX.out af);have D3:=dJ (dR F0.out Q0.out (dR FZ.out (fun k d=>(q9 k d).imp (fun e=>e) (fun e=>Nat.le_trans K.out.size e)) (PZ.out.left (FrS.refl _ _))));rw[af]at x1;unfold fR at C;unfold dy at y;dsimp only[Rn.zero]at y;dsimp only[fT,vv,Rn.zero];clear p9 E q9 T G m Z j I hq;go_wp2;have bV:=a3.out;exact⟨⟨i+1,s2,by omega,by omega,by go_num,ah,ai,D3,ap,by show _=_;rw[<-M.out];rfl⟩,by simp[intOf];omega⟩
      ·exact D.elim
      ·obtain⟨rfl,aS,aL,p9,E,q9⟩:=D;have bW:o'=Dw:=(LG c.f (zo pk) x s'.tick (o:=o') (by rw[hq])).resolve_right (fun r=>by have:=bF.out;omega);subst bW;obtain⟨Y,C⟩:=xJ (fR g);obtain⟨Wz,y⟩:=xJ (dy Y g.heap.size Rn.zero);have G:Gr g Y:=by rw[<-C];exact(yO g).alloc _
       have m:Y.heap[g.heap.size]?=some (.cells #[.bool false,.int .i64 0,.int .u32 0] 24 (0,0)):=by rw[<-C];exact heap_alloc_new _ _
       have Z:Gr g Wz:=by rw[<-y];exact gr_frs' G (ef _ _ _) (fun k d=>by omega)
       have j:=cX (i:=2) (.int .u32 (0:Int)) (cX (i:=1) (.int .i64 (0:Int)) (cX (i:=0) (.bool false) m));change (dy Y g.heap.size Rn.zero).heap[g.heap.size]?=_ at j;rw[y]at j;obtain⟨a0,a1,a2⟩:=crw3 m 0 1 2;obtain⟨t0,t1,t2⟩:=frw3 m 0 1 2;have I:=(Z.heap _ (by have:=cY (B.out g (K.out.trans E));exact this)).trans (B.out g (K.out.trans E));have x1:=yo _ _ 1 _ _ _ I;have PZ:=dJ (p9.gr Z);have FZ:=dJ ((K.out.trans E).trans (FrS.of_gr Z));have CE:=dJ (kr PZ.out 1 Rn.zero (by decide));have bN:=dJ (fun(w':World)(P:DS c pk w' s2 (bl++[(b:Int)]) Dw ed aS aL)(F:FrS (·=c.Bs) Wz w')=>dR F0.out Q0.out (dR FZ.out (fun k d=>(q9 k d).imp (fun e=>e) (fun e=>Nat.le_trans K.out.size e)) (P.left (F.mono fun k d=>.inl (.inl d)))));unfold vv Rn.zero at CE;unfold fR at C;unfold dy at y;dsimp only[Rn.zero]at y;dsimp only[fT];clear p9 E q9 G m Z j I hq
       go_wp2_with (first|(go_at_call 158;refine CE.out.mono ?_;rintro e w6 ⟨rfl,p6,f6⟩;have D6:=dJ (bN.out w6 p6 f6);clear p6 f6))
       go_ret;rw[<-M.out];exact⟨rfl,D6.out⟩
   ·exact absurd hi aj
def eq {α:Type}(d:α)(rs:List α)(n k:Nat):List α:=rs.take k++List.replicate (n-k) d
theorem fD {α:Type}(d:α)(rs:List α)(n k:Nat)(h:k<=rs.length)(hn:rs.length<=n):(eq d rs n k).length=n:=by unfold eq;simp;omega
theorem fM {α:Type}(d:α)(rs:List α)(n:Nat):eq d rs n 0=List.replicate n d:=by unfold eq;simp
theorem fL {α:Type}(d:α)(rs:List α)(n k:Nat)(hn:rs.length<=n)(v:α)(h:rs[k]?=some v):(eq d rs n k).set k v=eq d rs n (k+1):=by
 have p:=(xS.1 h).1;apply List.ext_getElem?;intro i;have g:(rs.take k).length=k:=by simp;omega
 have j:(rs.take (k+1)).length=k+1:=by simp;omega
 by_cases e:k=i
 ·subst e;rw[yC (by rw[fD _ _ _ _ (by omega) hn];omega)];unfold eq;rw[yd (by omega),yf,yr (by omega),h]
 ·rw[List.getElem?_set_ne e];unfold eq;by_cases l:i<k
  ·rw[yd (by omega),yd (by omega),yf,yf,yr l,yr (by omega)]
  ·rw[ye (by omega),ye (by omega),g,j,yk,yk];by_cases m:i<n
   ·rw[yr (by omega),yr (by omega)]
   ·rw[yt (by omega),yt (by omega)]
theorem tN (n:Nat):madeCells #[Value.bool false] (n*1)=((List.replicate n false).map Value.bool).toArray:=by
 apply Array.ext_getElem?;intro i;rcases yw i n with h|h
 ·unfold madeCells;rw[Array.getElem?_map,Array.getElem?_range,yr (by omega)];simp[h,Nat.mod_one]
 ·rw[Array.getElem?_eq_none (by rw[size_madeCells];omega),Array.getElem?_eq_none (by simp;omega)]
theorem nU (w:World)(n:Nat)(hn:n<=1000):(Instr.makeSlice 111 (.int .i64 n) (.int .i64 n)).run prog w=.ok (.slice (some ⟨w.heap.size,0,none⟩) n n) (w.alloc (.cells ((List.replicate n false).map Value.bool).toArray 4)):=by obtain⟨m,g,j,d,l⟩:=info_parts lH;have:=run_makeSlice (P:=prog) (w:=w) 111 4 m _ underlying111 g j .i64 .i64 n n (by omega) (by omega) (by rw[d];omega) (by rw[l];omega) (by omega);rw[this,d];simp only[ya];rw[show (Value.bool false).cells=#[Value.bool false] from rfl,tN]
def wK (vp:Value)(ret:Int)(vs vb ch a5 a6 a7 a8:Value):Array Value:=#[vp,.int .i64 ret,vs,vb,ch,a5,a6,a7,a8,.int .i64 0,.int .i64 (-1),.int .i64 0,.slice none 0 0]
structure SS (N:Nat)(w0 w:World)(vp:Value)(ret:Int)(vs vb ch va vm a5 a6 a7 a8:Value):Prop where
 gr:Gr w0 w
 n:N=w0.heap.size
 fb:w.heap[N]?=some (.cells #[vp,.int .i64 ret,vs,vb] 36 (0,0))
 ib:w.heap[N+1]?=some (.cells #[va,vm] 41 (0,0))
 st:w.heap[N+2]?=some (.cells (wK vp ret vs vb ch a5 a6 a7 a8) 145 (0,0))
section
variable {N:Nat}{w0 w w' w2:World}{vp vs vb ch va vm a5 a6 a7 a8 v':Value}{ret:Int}{S:Nat->Prop}{e:TypeId}{xs ys:List Value}{tmp:Obj}
theorem SS.lt (h:SS N w0 w vp ret vs vb ch va vm a5 a6 a7 a8):N+3<=w.heap.size:=by have:=cY h.st;omega
theorem SS.keep (h:SS N w0 w vp ret vs vb ch va vm a5 a6 a7 a8)(hF:FrS S w w')(hS:∀k,S k->N+3<=k):SS N w0 w' vp ret vs vb ch va vm a5 a6 a7 a8 where
 gr:=Gr.below h.gr (hF.below (n:=N) (fun k d=>by have:=hS k d;omega) (by have:=h.lt;omega)) (by rw[h.n];exact yJ _)
 n:=h.n
 fb:=(hF.block _ (cY h.fb) (fun q=>by have:=hS _ q;omega)).trans h.fb
 ib:=(hF.block _ (cY h.ib) (fun q=>by have:=hS _ q;omega)).trans h.ib
 st:=(hF.block _ (cY h.st) (fun q=>by have:=hS _ q;omega)).trans h.st
theorem SS.grow (h:SS N w0 w vp ret vs vb ch va vm a5 a6 a7 a8)(g:Gr w w'):SS N w0 w' vp ret vs vb ch va vm a5 a6 a7 a8:=h.keep (FrS.of_gr (S:=fun _=>False) g) (fun _ q=>q.elim)
theorem SS.put (h:SS N w0 w vp ret vs vb ch va vm a5 a6 a7 a8)(i:Nat)(v:Value){b5 b6 b7 b8:Value}(hr:(wK vp ret vs vb ch a5 a6 a7 a8).setIfInBounds i v=wK vp ret vs vb ch b5 b6 b7 b8):SS N w0 (w.setCell ⟨N+2,i,none⟩ v) vp ret vs vb ch va vm b5 b6 b7 b8 where
 gr:=Gr.setCell h.gr (p:=⟨N+2,i,none⟩) (by have:=h.n;show w0.heap.size<=N+2;omega) v
 n:=h.n
 fb:=(yy _ _ _ _ (by show N≠N+2;omega)).trans h.fb
 ib:=(yy _ _ _ _ (by show N+1≠N+2;omega)).trans h.ib
 st:=by have:=cX (i:=i) v h.st;rw[hr]at this;exact this
theorem SS.push (h:SS N w0 w vp ret vs vb ch va vm a5 a6 a7 a8)(ho:Own1 (N+3) e w v xs)(hg:(w.alloc tmp).grownBy w2 v.ownBlock)(ho2:Own1 (N+3) e w2 v' ys) :
  SS N w0 w2 vp ret vs vb ch va vm a5 a6 a7 a8/\(∀i,Own1 (N+3) e (w2.setCell ⟨N+2,i,none⟩ v') v' ys)/\∀i,FrS (fun k=>v.ownBlock=some k\/k=N+2) w (w2.setCell ⟨N+2,i,none⟩ v'):=by
 have g:FrS (fun k=>v.ownBlock=some k) w w2:=((FrS.refl _ w).alloc tmp).grown hg (fun k d=>.inl d);refine⟨h.keep g (fun k d=>(di ho d).1),fun i=>dm ho2 fun k d=>yy _ _ _ _ (by have:=(di ho2 d).1;show k≠N+2;omega),fun i=>(g.mono fun k d=>.inl d).setCell (p:=⟨N+2,i,none⟩) (.inr rfl) _⟩
end
def frL (f:Fn)(k:Nat):List Value:=(List.range k).map fun j=>Value.int .i64 (yZ f j:Nat)
theorem mO (f:Fn)(k:Nat):(frL f k).length=k:=by unfold frL;simp
theorem tB (f:Fn)(k:Nat):frL f (k+1)=frL f k++[Value.int .i64 (yZ f k:Nat)]:=by unfold frL;rw[List.range_succ,List.map_append];rfl
structure MK (N:Nat)(W T:World)(row:Array Value)(bs:List (Nat × Obj)):Prop where
 fr:FrS (·=N+2) W T
 st:T.heap[N+2]?=some (.cells row 145 (0,0))
 at_:∀p∈bs,T.heap[p.1]?=some p.2/\W.heap.size<=p.1
theorem MK.alloc {row:Array Value}{bs:List (Nat × Obj)}(h:MK N W T row bs)(o:Obj):MK N W (T.alloc o) row ((T.heap.size,o)::bs) where
 fr:=h.fr.alloc o
 st:=(((yO T).alloc o).heap _ (cY h.st)).trans h.st
 at_:=fun p d=>by
  rcases List.mem_cons.1 d with rfl|d
  ·exact⟨heap_alloc_new T o,h.fr.size⟩
  ·exact⟨(((yO T).alloc o).heap _ (cY (h.at_ p d).1)).trans (h.at_ p d).1,(h.at_ p d).2⟩
theorem MK.set {row:Array Value}{bs:List (Nat × Obj)}(h:MK N W T row bs)(hN:N+2<W.heap.size)(i:Nat)(v:Value):MK N W (T.setCell ⟨N+2,i,none⟩ v) (row.setIfInBounds i v) bs where
 fr:=h.fr.setCell (p:=⟨N+2,i,none⟩) rfl v
 st:=cX v h.st
 at_:=fun p d=>⟨(yy _ _ _ _ (by have:=(h.at_ p d).2;show p.1≠N+2;omega)).trans (h.at_ p d).1,(h.at_ p d).2⟩
theorem MK.mono {row:Array Value}{bs bs':List (Nat × Obj)}(h:MK N W T row bs)(hb:∀p∈bs',p∈bs):MK N W T row bs':=⟨h.fr,h.st,fun p d=>h.at_ p (hb p d)⟩
theorem uH {row:Array Value}(h:W.heap[N+2]?=some (.cells row 145 (0,0)))(v5 v6:Value)(c1 c2:Array Value)(t1 t2:TypeId) :
  MK N W (((((W.setCell ⟨N+2,5,none⟩ v5).setCell ⟨N+2,6,none⟩ v6).alloc (.cells c1 t1)).alloc (.cells c2 t2)).drew) ((row.setIfInBounds 5 v5).setIfInBounds 6 v6) [(W.heap.size,.cells c1 t1 (0,0)),(W.heap.size+1,.cells c2 t2 (0,0))]:=by
 have hN:=cY h;have m:MK N W W row []:=⟨FrS.refl _ W,h,fun p d=>by cases d⟩;have g:=(((m.set hN 5 v5).set hN 6 v6).alloc (.cells c1 t1)).alloc (.cells c2 t2);have j:((W.setCell ⟨N+2,5,none⟩ v5).setCell ⟨N+2,6,none⟩ v6).heap.size=W.heap.size:=by simp
 have l:(((W.setCell ⟨N+2,5,none⟩ v5).setCell ⟨N+2,6,none⟩ v6).alloc (.cells c1 t1)).heap.size=W.heap.size+1:=by simp
 rw[j,l]at g
 exact⟨g.fr.drew,g.st,fun p d=>g.at_ p (by
   rcases List.mem_cons.1 d with rfl|d
   · exact List.mem_cons_of_mem _ (List.mem_cons_self)
   · rcases List.mem_cons.1 d with rfl|d
     · exact List.mem_cons_self
     · cases d)⟩
def usV (us:List (Nat × Nat))(mem:List (List Int)):List Value:=List.zipWith (fun u l=>Value.slice (some ⟨u.1,0,none⟩) l.length u.2) us mem
structure MU (N:Nat)(w:World)(us:List (Nat × Nat))(mem:List (List Int))(vf:Value):Prop where
 row:∀(j b cp:Nat)(l:List Int),us[j]?=some (b,cp)->mem[j]?=some l->N+3<=b/\l.length<=cp/\cp<=9223372036854775807/\∃cur:Array Value,w.heap[b]?=some (.cells cur 3 (0,0))/\∀(i:Nat)(z:Int),l[i]?=some z->cur[i]?=some (.int .i64 z)
 apart:(us.map (·.1)).Nodup
 off:∀u∈us,vf.ownBlock≠some u.1
 all:∀u∈us,u.1<w.heap.size
theorem MU.nil (N:Nat)(w:World)(mem:List (List Int))(vf:Value):MU N w [] mem vf:=⟨fun j b d l h=>by simp at h,List.nodup_nil,fun u h=>(by cases h),fun u h=>(by cases h)⟩
theorem MU.keep {us:List (Nat × Nat)}(h:MU N w us mem vf)(hle:us.length<=mem.length)(hF:FrS S w w')(hS:∀u∈us,¬S u.1):MU N w' us mem vf where
 row:=fun j b p l g q=>by obtain⟨t,y,z,d,m,A⟩:=h.row j b p l g q;exact⟨t,y,z,d,(hF.block b (cY m) (hS _ (xT g))).trans m,A⟩
 apart:=h.apart
 off:=h.off
 all:=fun u r=>by have:=h.all u r;have:=hF.size;omega
theorem ie (us:List (Nat × Nat))(mem:List (List Int))(h:us.length<=mem.length):(usV us mem).length=us.length:=by unfold usV;simp;omega
theorem kS:∀(us:List (Nat × Nat))(mem:List (List Int))(u:Nat × Nat)(l:List Int),mem[us.length]?=some l->usV (us++[u]) mem=usV us mem++[Value.slice (some ⟨u.1,0,none⟩) l.length u.2]
 | [],[],u,l,h=>by simp at h
 | [],m::ms,u,l,h=>by simp at h;subst h;simp[usV]
 | v::vs,[],u,l,h=>by simp at h
 | v::vs,m::ms,u,l,h=>by
  have:=kS vs ms u l (by simpa using h)
  simp only[usV,List.cons_append,List.zipWith_cons_cons]at this ⊢;rw[this]
theorem pR {F:Prop}{f:FuncId}
  (hg:o.guard=none) (hr:(execOp a.eval o).run P w=.ok (.enter f args) w) (hc:Calls P f args w fun e w'=>∃v,e=.returned v/\K (a.put o.dst v) w') :
  if Region.wanted o (yielded ops a.tmps)=true then Oper.wp P o a w K Q else F:=by
 have j:Region.wanted o (yielded ops a.tmps)=true:=by simp[Region.wanted,hg]
 rw[yr j];unfold Oper.wp;rw[hr];exact hc.mono fun e w' ⟨v,d,g⟩=>by subst d;exact g
def wi (w:World)(m b cap:Nat)(l:List Int):Prop:=m<=b/\l.length<=cap/\cap<=9223372036854775807/\∃cur:Array Value,w.heap[b]?=some (.cells cur 3 (0,0))/\∀(i:Nat)(z:Int),l[i]?=some z->cur[i]?=some (.int .i64 z)
section
variable {P:Program}{w:World}
theorem fw (t ty e:TypeId)(i:TypeInfo)(z:Value)(ht:P.underlying t=some (.slice e))(hi:P.info? e=some i)(hz:i.zero=some z)(hsize:i.size=1)(hzs:z.cells.size=1)
  (g:Nat) (u:Value) (ys:List Value) (hu:Src w u 1 ys.length ys) (hn:ys.length<=17592186044416) (hb:ys.length*i.bytes<=140737488355328) (h1:∀y∈ys,y.oneCell'=true) :
  ∃A c w',(Builtin.append_ #[t,t] ty #[.slice (some ⟨g,0,none⟩) 0 0,u]).run P w=.ok (.slice A ys.length c) w'/\Gr w w'/\ys.length<=c/\(0<ys.length->Own1 w.heap.size e w' (.slice A ys.length c) ys):=by
 obtain⟨A,c,rfl,hl,q⟩:=hu;rcases Nat.eq_zero_or_pos ys.length with m|m
 ·refine⟨some ⟨g,0,none⟩,0,w,?_,yO w,by omega,by omega⟩;rw[m]
  cases A with
  | none=>simp[Builtin.append_,run_underlying ht,sizeOf,typeInfo,hi,Builtin.lenOf,Builtin.firstCells,storeCells]
  | some l=>simp[Builtin.append_,run_underlying ht,sizeOf,typeInfo,hi,Builtin.lenOf,Builtin.firstCells,loadCells,loadCellsFrom,storeCells]
 ·obtain⟨l,rfl,d⟩:=q m;obtain⟨F,w',p,C,D,-,E⟩:=run_append_own_at (P:=P) w w.heap.size t ty e i z 1 i.bytes ht hi hz hsize rfl (by rw[hzs]) (by omega) (.slice none 0 0) 0 [] (World.ownsRow_nil _ _ _ _) l ys.length c ys hl d h1 (by simp only[maxLen];omega) (by rw[Nat.zero_add];exact hb) (yJ _);have r:=run_append_grow (P:=P) w t ty e i z ht hi hz ⟨g,0,none⟩ 0 0 [] (by simp) (by simp) l ys.length c ys (by rw[hsize];exact hl) d (by omega) (by omega) (by rw[Nat.zero_add,nextslicecap_zero m];omega);have j:=run_append_nil (P:=P) w t ty e i z ht hi hz l ys.length c ys (by rw[hsize];exact hl) d (by omega) (by omega) (by omega);rw[j]at p;injection p with hv B;subst hv;subst B;refine⟨_,_,_,?_,?_,?_,fun _=>by unfold Own1;simpa using C⟩
  ·rw[r];simp
  ·exact(Gr.drew (yO w)).alloc _
  ·have:=grownCap_ge w ys.length 0 e;omega
theorem Own1.irow {c:Nat}{l:List Int}(h:Own1 B 3 w (.slice A l.length c) (l.map (Value.int .i64)))(hp:0<l.length):∃b,A=some ⟨b,0,none⟩/\wi w B b c l:=by
 obtain⟨-,H⟩:=h;rcases H with ⟨e,-⟩|⟨g,t,d,e,F,E,j,C,I,D⟩
 ·injection e with _ e _;omega
 ·injection e with u _ y;subst y;rw[yl]at j;refine⟨g,u,F,j,by unfold maxLen at C;omega,d,E,fun q z p=>?_⟩;have G:=(xS.1 p).1;have m:=congrArg (fun r=>r[q]?) D;simp only[yf,yl,yc,p,Option.map_some,Nat.mul_one,yr G]at m;simpa using m
theorem sG {F:Prop}{i:TypeInfo}
  (ht:P.underlying t=some (.slice 3)) (hi:P.info? 3=some i) (hz:i.zero=some z) (hsize:i.size=1) (hby:i.bytes=8) (hzs:z.cells.size=1)
  (hgd:o.guard=none) (s x:Operand) (ho:o.op=.call {callee:=.builtin .append,args:=#[s,x],argTypes:=#[t,t]})  (hs:a.eval s=.slice (some ⟨g,0,none⟩) 0 0)   (hu:IntsAt C w u ys) (hx:a.eval x=u) (hp:0<ys.length)
  (h:∀b cap w',wi w' w.heap.size b cap ys->Gr w w'->K (a.put o.dst (.slice (some ⟨b,0,none⟩) ys.length cap)) w'):if Region.wanted o (yielded ops a.tmps)=true then Oper.wp P o a w K Q else F:=by
 have p:Region.wanted o (yielded ops a.tmps)=true:=by simp[Region.wanted,hgd]
 rw[yr p];have hl:(ys.map (Value.int .i64)).length=ys.length:=yl _;have m:ys.length<=17592186044416:=by obtain⟨_,_,_,_,q,_⟩:=hu;exact q
 obtain⟨A,c,w',d,r,y,j⟩:=fw (P:=P) (w:=w) t o.type 3 i z ht hi hz hsize hzs g u (ys.map (Value.int .i64)) (by rw[hl];exact Src.ints hu) (by rw[hl];exact m) (by rw[hl,hby];omega) (jd _ _);rw[hl]at d y j;unfold Oper.wp execOp;simp only[ho,resolve,invoke,builtin,Sem.run_bind,Sem.run_pure,Result.andThen_ok,List.map_toArray,List.map_cons,List.map_nil,hs,hx,d];obtain⟨b,rfl,l⟩:=(j hp).irow hp;exact h b c w' l r
end
def tb (vp:Value)(ret:Int)(vs vb vm pk va vh:Value):Array Value:=#[vp,.int .i64 ret,vs,vb,vm,pk,.int .i64 0,.bool false,.int .i64 0,.int .u32 0,ed,ed,ed,.int .i64 0,va,vh]
structure WS (N:Nat)(W w:World)(row:Array Value):Prop where
 fr:FrS (·=N) W w
 st:w.heap[N]?=some (.cells row 158 (0,0))
section
variable {N:Nat}{W w w' w2:World}{row row':Array Value}{v v':Value}{e:TypeId}{xs ys:List Value}{tmp:Obj}{S:Nat->Prop}
theorem WS.keep (h:WS N W w row)(hF:FrS S w w')(hS:∀k,S k->W.heap.size<=k)(hN:N<W.heap.size):WS N W w' row where
 fr:=by refine(FrS.weaken (S:=fun k=>k=N\/W.heap.size<=k) ((h.fr.mono fun k hk=>.inl hk).trans (hF.mono fun k hk=>.inr (hS k hk))) fun k hk q=>q.elim (fun e=>e) (fun e=>by omega))
 st:=(hF.block _ (cY h.st) (fun q=>by have:=hS _ q;omega)).trans h.st
theorem WS.grow (h:WS N W w row)(g:Gr w w')(hN:N<W.heap.size):WS N W w' row:=h.keep (FrS.of_gr (S:=fun _=>False) g) (fun _ q=>q.elim) hN
theorem WS.put (h:WS N W w row)(i:Nat)(v:Value)(hr:row.setIfInBounds i v=row'):WS N W (w.setCell ⟨N,i,none⟩ v) row':=⟨h.fr.setCell (p:=⟨N,i,none⟩) rfl v,by have:=cX (i:=i) v h.st;rw[hr]at this;exact this⟩
end
def rA (c:Cfg)(r:zO × AN × List Int)(wv bv:Value):Array Value :=
 #[.int .i64 r.1.kind,.bool r.1.ret.p,.int .i64 r.1.ret.s,.int .u32 r.1.ret.n,rD c r.1,wv,bv,.int .i64 r.2.1.t,.slice (some ⟨c.Bv,0,none⟩) r.2.1.v.length r.2.1.v.length,.slice (some ⟨c.Bh,0,none⟩) r.2.1.v.length r.2.1.v.length]
def wT (f:Fn)(i:CG)(picks:List Int)(B:Nat)(e:Ending)(w':World):Prop :=
 ∃(c:Cfg)(wv bv:Value),e=.returned (.agg (rA c (DC f (zo picks) i) wv bv))/\c.f=f /\
  DS c picks w' (DC f (zo picks) i).2.1 (DC f (zo picks) i).2.2 (DC f (zo picks) i).1 (rD c (DC f (zo picks) i).1) wv bv/\(∀k,DO c wv bv k->B<=k)/\B<=c.Bm/\c.Bm<w'.heap.size
section
variable {N k n b cap c8 c2:Nat}{W w wr w1 w2:World}{vp vs vb pk va vh:Value}{ret:Int}{us:List (Nat × Nat)}{mem:List (List Int)}{l:List Int}{A8 A2:Option Addr}{tmp:Obj}
theorem we (hW:W.heap.size=N+4)(h:WS (N+3) W wr (tb vp ret vs vb (.slice A8 k c8) pk ed ed))(hmu:MU (N+1) wr us mem ed)(hrow:Own1 (N+4) 33 wr (.slice A8 k c8) (usV us mem))(hus:us.length=k)(hl:mem[k]?=some l)
  (g1:Gr wr w1) (hb:wi w1 wr.heap.size b cap l) (hg:(w1.alloc tmp).grownBy w2 (Value.slice A8 k c8).ownBlock) (ho2:Own1 (N+4) 33 w2 (.slice A2 (k+1) c2) (usV us mem++[.slice (some ⟨b,0,none⟩) l.length cap])) :
  (w2.cell? ⟨N+3,4,none⟩=some (.slice A8 k c8)/\w2.frozen? ⟨N+3,4,none⟩=false)/\WS (N+3) W (w2.setCell ⟨N+3,4,none⟩ (.slice A2 (k+1) c2)) (tb vp ret vs vb (.slice A2 (k+1) c2) pk ed ed) /\
   MU (N+1) (w2.setCell ⟨N+3,4,none⟩ (.slice A2 (k+1) c2)) (us++[(b,cap)]) mem ed/\Own1 (N+4) 33 (w2.setCell ⟨N+3,4,none⟩ (.slice A2 (k+1) c2)) (.slice A2 (k+1) c2) (usV (us++[(b,cap)]) mem):=by
 have hN:N+3<W.heap.size:=by omega
 have C:=hrow.gr g1;have B:FrS (fun q=>(Value.slice A8 k c8).ownBlock=some q) w1 w2:=((FrS.refl _ w1).alloc tmp).grown hg (fun q d=>.inl d);have m:=(h.grow g1 hN).keep B (fun q d=>by have:=(di C d).1;omega) hN;have H:FrS (fun q=>(Value.slice A8 k c8).ownBlock=some q\/q=N+3) w1 (w2.setCell ⟨N+3,4,none⟩ (.slice A2 (k+1) c2)):=(B.mono fun q d=>.inl d).setCell (p:=⟨N+3,4,none⟩) (.inr rfl) _
 have A:∀{q:Nat} {g:Array Value} {t:TypeId},w1.heap[q]?=some (.cells g t (0,0))->t≠33->N+4<=q->(w2.setCell ⟨N+3,4,none⟩ (.slice A2 (k+1) c2)).heap[q]?=some (.cells g t (0,0)):=fun d ht hN3=>(H.block _ (cY d) (by
   rintro (e|e)
   · obtain⟨-,-,r,F⟩:=di C e
     exact de d F ht rfl
   · omega)).trans d
 obtain⟨Y,M,O,g,G,P⟩:=hb;have I:=g1.size;have J:w1.heap.size<=(w2.setCell ⟨N+3,4,none⟩ (.slice A2 (k+1) c2)).heap.size:=H.size;have Q:W.heap.size<=wr.heap.size:=h.fr.size;refine⟨⟨yo _ _ 4 _ _ _ m.st,yp _ _ 4 _ _ m.st⟩,m.put 4 _ rfl,⟨?_,?_,fun u _ e=>by (cases e),?_⟩,?_⟩
 ·intro j q D S y m;rcases yw j us.length with E|E
  ·rw[yd E]at y;obtain⟨K,T,U,r,L,X⟩:=hmu.row j q D S y m;exact⟨K,T,U,r,A ((g1.heap _ (cY L)).trans L) (by decide) K,X⟩
  ·rw[ye E]at y
   obtain rfl:j=us.length:=by
    rcases yw us.length j with q|q
    ·rw[yi (by simp;omega)]at y;cases y
    ·omega
   rw[Nat.sub_self]at y;simp at y;obtain⟨rfl,rfl⟩:=y;rw[hus,hl]at m;injection m with m;subst m;exact⟨by omega,M,O,g,A G (by decide) (by omega),P⟩
 ·rw[List.map_append,List.nodup_append];refine⟨hmu.apart,by simp,fun a R q d=>?_⟩;simp at d;subst d;obtain⟨u,z,rfl⟩:=List.mem_map.1 R;have:=hmu.all u z;omega
 ·intro u z;rcases yz.1 z with z|z
  ·have:=hmu.all u z;omega
  ·simp at z;subst z;have:=cY G;show b<_;omega
 ·rw[kS us mem (b,cap) l (by rw[hus];exact hl)];exact dm ho2 fun q d=>yy _ _ _ _ (by have:=(di ho2 d).1;show q≠N+3;omega)
structure WM (N n:Nat)(W w:World)(vp:Value)(ret:Int)(vs vb vm pk:Value)(us:List (Nat × Nat))(mem:List (List Int))(Bv Bh:Nat)(vals:List Rn.V)(had:List Bool):Prop where
 ws:WS (N+3) W w (tb vp ret vs vb vm pk (.slice (some ⟨Bv,0,none⟩) n n) (.slice (some ⟨Bh,0,none⟩) n n))
 mu:MU (N+1) w us mem ed
 row:Own1 (N+4) 33 w vm (usV us mem)
 hv:w.heap[Bv]?=some (.cells (dB vals).toArray 24 (0,0))
 hh:w.heap[Bh]?=some (.cells (had.map Value.bool).toArray 4 (0,0))
 vN:N+4<=Bv
 hN:N+4<=Bh
theorem WM.grow (hW:W.heap.size=N+4){vals:List Rn.V}(h:WM N n W wr vp ret vs vb vm pk us mem Bv Bh vals had)(hle:us.length<=mem.length)(g:Gr wr w1):WM N n W w1 vp ret vs vb vm pk us mem Bv Bh vals had where
 ws:=h.ws.grow g (by omega)
 mu:=h.mu.keep hle (FrS.of_gr (S:=fun _=>False) g) (fun _ _ q=>q)
 row:=h.row.gr g
 hv:=(g.heap _ (cY h.hv)).trans h.hv
 hh:=(g.heap _ (cY h.hh)).trans h.hh
 vN:=h.vN
 hN:=h.hN
theorem wb (hW:W.heap.size=N+4)(h:WS (N+3) W wr (tb vp ret vs vb vm pk ed ed))(hmu:MU (N+1) wr us mem ed)(hrow:Own1 (N+4) 33 wr vm (usV us mem))(hle:us.length<=mem.length)(vals:List Rn.V)(had:List Bool) :
  WM N n W ((((wr.setCell ⟨N+3,14,none⟩ (.slice (some ⟨wr.heap.size,0,none⟩) n n)).setCell ⟨N+3,15,none⟩ (.slice (some ⟨wr.heap.size+1,0,none⟩) n n)).alloc (.cells (dB vals).toArray 24)).alloc (.cells (had.map Value.bool).toArray 4)) vp ret vs vb vm pk us mem wr.heap.size (wr.heap.size+1) vals had:=by
 have hN:N+3<W.heap.size:=by omega
 have E:W.heap.size<=wr.heap.size:=h.fr.size;obtain⟨r,d⟩:=xJ ((wr.setCell ⟨N+3,14,none⟩ (.slice (some ⟨wr.heap.size,0,none⟩) n n)).setCell ⟨N+3,15,none⟩ (.slice (some ⟨wr.heap.size+1,0,none⟩) n n));have D:FrS (·=N+3) wr r:=by rw[<-d];exact((FrS.refl (·=N+3) wr).setCell (p:=⟨N+3,14,none⟩) rfl _).setCell (p:=⟨N+3,15,none⟩) rfl _
 have C:r.heap.size=wr.heap.size:=by rw[<-d];simp
 have I:WS (N+3) W r (tb vp ret vs vb vm pk (.slice (some ⟨wr.heap.size,0,none⟩) n n) (.slice (some ⟨wr.heap.size+1,0,none⟩) n n)):=by rw[<-d];exact(h.put 14 _ rfl).put 15 _ rfl
 rw[d];obtain⟨t,g⟩:=xJ (r.alloc (.cells (dB vals).toArray 24));have A:Gr r t:=by rw[<-g];exact(yO _).alloc _
 have H:t.heap.size=wr.heap.size+1:=by rw[<-g];simp[C]
 have v3:t.heap[wr.heap.size]?=some (.cells (dB vals).toArray 24 (0,0)):=by rw[<-g,<-C];exact heap_alloc_new _ _
 rw[g];obtain⟨y,m⟩:=xJ (t.alloc (.cells (had.map Value.bool).toArray 4));have z:Gr t y:=by rw[<-m];exact(yO _).alloc _
 have v4:y.heap[wr.heap.size+1]?=some (.cells (had.map Value.bool).toArray 4 (0,0)):=by rw[<-m,<-H];exact heap_alloc_new _ _
 rw[m];have F:FrS (·=N+3) wr y:=D.trans (FrS.of_gr (A.trans z));refine⟨I.grow (A.trans z) hN,hmu.keep hle F fun u G e=>?_,dm hrow fun q hq=>F.block q (di hrow hq).2.1 (by have:=(di hrow hq).1;omega),(z.heap _ (cY v3)).trans v3,v4,by omega,by omega⟩;obtain⟨j,B⟩:=List.getElem?_of_mem G;obtain⟨l,hl⟩:∃l,mem[j]?=some l:=⟨_,xR (by have:=(xS.1 B).1;omega)⟩;have:=(hmu.row j u.1 u.2 l B hl).1;omega
theorem uJ (hW:W.heap.size=N+4){vals:List Rn.V}(h:WM N n W wr vp ret vs vb vm pk us mem Bv Bh vals had)(hle:us.length<=mem.length)(x:Int) :
  WM N n W ((((wr.setCell ⟨Bv,k*3,none⟩ (.bool false)).setCell ⟨Bv,k*3+1,none⟩ (.int .i64 0)).setCell ⟨Bv,k*3+2,none⟩ (.int .u32 x)).setCell ⟨Bh,k,none⟩ (.bool true)) vp ret vs vb vm pk us mem Bv Bh (vals.set k (Ae x)) (had.set k true):=by
 have d:Bv≠Bh:=de h.hv h.hh (by decide);have A:=h.vN;have B:=h.hN
 have r:FrS (fun q=>q=Bv\/q=Bh) wr ((((wr.setCell ⟨Bv,k*3,none⟩ (.bool false)).setCell ⟨Bv,k*3+1,none⟩ (.int .i64 0)).setCell ⟨Bv,k*3+2,none⟩ (.int .u32 x)).setCell ⟨Bh,k,none⟩ (.bool true)) :=
  ((((FrS.refl (fun q=>q=Bv\/q=Bh) wr).setCell (p:=⟨Bv,k*3,none⟩) (.inl rfl) _).setCell (p:=⟨Bv,k*3+1,none⟩) (.inl rfl) _).setCell (p:=⟨Bv,k*3+2,none⟩) (.inl rfl) _).setCell (p:=⟨Bh,k,none⟩) (.inr rfl) _
 refine⟨h.ws.keep r (fun q t=>by omega) (by omega),h.mu.keep hle r fun u hu e=>?_,dm h.row fun q t=>r.block q (di h.row t).2.1 ?_,?_,?_,A,B⟩
 ·obtain⟨j,y⟩:=List.getElem?_of_mem hu;obtain⟨l,hl⟩:∃l,mem[j]?=some l:=⟨_,xR (by have:=(xS.1 y).1;omega)⟩;obtain⟨-,-,-,m,g,-⟩:=h.mu.row j u.1 u.2 l y hl;rcases e with e|e
  ·rw[e]at g;exact de g h.hv (by decide) rfl
  ·rw[e]at g;exact de g h.hh (by decide) rfl
 ·obtain⟨-,-,m,z⟩:=di h.row t;rintro (e|e)
  ·subst e;exact de z h.hv (by decide) rfl
  ·subst e;exact de z h.hh (by decide) rfl
 ·rw[<-gQ];exact(yy _ _ _ _ d).trans (cX (i:=k*3+2) (.int .u32 x) (cX (i:=k*3+1) (.int .i64 0) (cX (i:=k*3) (.bool false) h.hv)))
 ·rw[<-kN];exact cX (i:=k) (.bool true) ((yy _ _ _ _ d.symm).trans ((yy _ _ _ _ d.symm).trans ((yy _ _ _ _ d.symm).trans h.hh)))
end
theorem xd {n c8:Nat}{wr:World}{vp vs vb pk:Value}{us:List (Nat × Nat)}{i:CG}(hW:W.heap.size=N+4)(h:WM N n W wr vp f.ret vs vb (.slice A8 us.length c8) pk us i.mem Bv Bh (BN f i).v (BN f i).had)
  (hul:us.length=i.mem.length) (hn:(BN f i).v.length=n) (hsl:i.mem.map (fun r=>(r.length:Int))=f.s) (hfn:FnAt N wr (.agg #[vp,.int .i64 f.ret,vs,vb]) f) (hpk:U32At N wr pk picks) :
  ∃c:Cfg,c.n₀=N/\c.f=f/\c.Bs=N+3/\DS c picks wr (BN f i) [] ⟨0,Rn.zero,[]⟩ ed ed ed/\(∀k,DO c ed ed k->N+3<=k)/\N+3<=c.Bm/\c.Bm<wr.heap.size:=by
 have p:=h.vN;have t:=h.hN;have J:=cY h.ws.st
 have H:i.mem.length<=c8/\c8<=9223372036854775807:=by
  obtain⟨-,I⟩:=id h.row;rcases I with ⟨e,M⟩|⟨g,D,d,e,-,-,p,t,-⟩
  ·injection e with _ E O;omega
  ·injection e with _ E O;unfold maxLen at t;rw[ie _ _ (by omega)]at p;omega
 obtain⟨Bm,y,A,B⟩:∃Bm:Nat,N+3<=Bm/\Bm<wr.heap.size/\(0<us.length->A8=some ⟨Bm,0,none⟩/\∃d:Array Value,wr.heap[Bm]?=some (.cells d 33 (0,0))/\∀j v,(usV us i.mem)[j]?=some v->d[j]?=some v):=by
  by_cases M:0<us.length
  ·obtain⟨-,I⟩:=id h.row;rcases I with ⟨e,p⟩|⟨g,D,d,e,p,t,-,-,-,P⟩
   ·rw[ie _ _ (by omega)]at p;omega
   ·injection e with E _ _;refine⟨g,by omega,cY t,fun _=>⟨E,d,t,fun j v u=>?_⟩⟩;rw[<-P,yf]at u;split at u
    ·simpa using u
    ·cases u
  ·exact⟨N+3,yJ _,J,fun q=>absurd q M⟩
 have C:∀(j b m:Nat),us[j]?=some (b,m)->N+4<=b:=fun j b m u=>by obtain⟨l,hl⟩:∃l,i.mem[j]?=some l:=⟨_,xR (by have:=(xS.1 u).1;omega)⟩;have:=(h.mu.row j b m l u hl).1;omega
 refine⟨{n₀:=N,f:=f,vp:=vp,vs:=vs,vb:=vb,ch:=pk,Bf:=0,cf:=0,Am:=A8,Bm:=Bm,cm:=c8,us:=us,Bs:=N+3,Bv:=Bv,Bh:=Bh},rfl,rfl,rfl,?_,?_,y,A⟩
 ·exact {
     st:=by rw[hn];exact h.ws.st
     v:=h.hv
     had:=h.hh
     hlen:=by unfold BN;simp
     mem:=⟨hul.symm,fun j b m l p t=>(h.mu.row j b m l p t).2⟩
     s:=⟨by show us.length<=c8;omega,H.2,fun G=>by
       obtain⟨S,d,T,U⟩:=B G
       refine⟨S,d,T,fun j b m z p t=>U j _ ?_⟩
       have R:i.mem[j]?.map (fun r=>(r.length:Int))=some z:=by rw[<-yc,hsl];exact t
       obtain⟨l,hl,K⟩:=Option.map_eq_some_iff.1 R
       unfold usV
       rw[List.getElem?_zipWith,p,hl,<-K]
       rfl⟩
     fn:=hfn
     picks:=hpk
     wid:=Own1.nil _ _ _
     blk:=Own1.nil _ _ _
     old:=⟨by show N<=N+3;omega,by show N<=Bv;omega,by show N<=Bh;omega,by show N<=Bm;omega,fun j b m u=>by have:=C j b m u;show N<=b;omega⟩
     apart:=h.mu.apart
     farW:=fun k F=>by cases F
     farB:=fun k F=>by cases F}
 ·intro q Q;rcases Q with (e|e|e|⟨j,m,e⟩)|e|e
  ·have L:q=N+3:=e;omega
  ·have L:q=Bv:=e;omega
  ·have L:q=Bh:=e;omega
  ·have:=C j q m e;omega
  ·cases e
  ·cases e
end
