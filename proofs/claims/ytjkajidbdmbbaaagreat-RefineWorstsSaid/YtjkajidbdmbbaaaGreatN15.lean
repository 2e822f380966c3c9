import Derived.Test.YtjkajidbdmbbaaaGreatN14
import Derived.Deep.DeepCutAuto
set_option linter.unusedSimpArgs false
set_option linter.unusedVariables false
set_option maxRecDepth 100000
set_option maxHeartbeats 16000000
open Go.Proofs.Tryz
namespace Go.Proofs.YtjkajidbdmbbaaaGreat
open Ref Rn Wd Ir Rf
open Go.RowKit
theorem uu {l:List Int}(h:l.length=2):∃a b,l=[a,b]:=by match l,h with|[a,b],_=>exact⟨a,b,rfl⟩
theorem ul (f:Fn)(x:Ins)(h:x.op=30):(zY f x).2.1=2:=by simp[zY,h]
theorem ld (f:Fn)(x:Ins)(v vx:Value)(w:World)(hf:FnAt w.heap.size w v f)(hx:wQ w.heap.size w vx x)(h1:0<=x.i)(h2:x.i<4294967296) :
  Calls prog 69 #[v,vx] w (RG (.bool (zm f x)) w):=by
 obtain⟨vp,vs,vb,rfl,-,⟨U,cs,rfl,-,-,-⟩,⟨T,cb,rfl,-,-,-⟩⟩:=hf;obtain⟨va,vt,rfl,⟨S,ca,rfl,-,ah,-⟩,⟨At,ct,rfl,-,ak,K⟩⟩:=hx;unfold dj;obtain⟨W,O⟩:=xJ ((w.alloc (.cells #[vp,.int .i64 f.ret,.slice U f.s.length cs,.slice T f.b.length cb] 36)).alloc (.cells #[.int .i64 x.op,.int .i64 x.w,.int .i64 x.g,.slice S x.args.length ca,.int .u32 x.i,.slice At x.to.length ct] 68));have l:Gr w W:=by rw[<-O];exact((yO w).alloc _).alloc _
 have ag:W.heap.size=w.heap.size+2:=by rw[<-O];simp
 have H:∀o,W.cell? ⟨w.heap.size,o,none⟩=(#[vp,.int .i64 f.ret,.slice U f.s.length cs,.slice T f.b.length cb]:Array Value)[o]?:=by intro o;rw[<-O];exact yo _ _ _ _ _ _ (heap_alloc2_old w _ _)
 have B:∀o,W.cell? ⟨w.heap.size+1,o,none⟩=(#[.int .i64 x.op,.int .i64 x.w,.int .i64 x.g,.slice S x.args.length ca,.int .u32 x.i,.slice At x.to.length ct]:Array Value)[o]?:=by intro o;rw[<-O];exact yo _ _ _ _ _ _ (heap_alloc2_new w _ _)
 have C:=sB f vp (.slice T f.b.length cb) (.slice At x.to.length ct) U S cs ca x W h1 h2;have g:=dJ (ul f x);have G:Hid (zm f x=((zY f x).2.2 && Dj (zY f x) x && x.to.all (fun z=>decide (0<=z) && decide (z<f.b.length)) && (decide (x.op≠30) || decide (x.to.getD 0 0≠x.to.getD 1 0)))):=rfl
 revert C g G
 generalize zm f x=R;obtain⟨op,width,flags,args,imm,d⟩:=x;generalize zY f _=s;obtain⟨E,st,ok⟩:=s;dsimp only at *;intro C g G;have HC:=dJ C;clear C
 have fin:Hid (ok=true->Dj (E,st,true) ⟨op,width,flags,args,imm,d⟩=true->R=(d.all (fun z=>decide (0<=z) && decide (z<f.b.length)) && (decide (op≠30) || decide (d.getD 0 0≠d.getD 1 0)))):=by intro e1 e2;subst e1;rw[G.out,e2];simp
 have t:Hid (ok=false->R=false):=by intro e;subst e;rw[G.out];simp
 have u:Hid (ok=true->Dj (E,st,true) ⟨op,width,flags,args,imm,d⟩=false->R=false):=by intro e e2;subst e;rw[G.out,e2];simp
 clear G;have k0:=H 0;have k1:=H 1;have k2:=H 2;have k3:=H 3;have l0:=B 0;have l1:=B 1;have l2:=B 2;have l3:=B 3;have l4:=B 4;have l5:=B 5;simp at k0 k1 k2 k3 l0 l1 l2 l3 l4 l5;have B0:=dJ H;have M:=dJ B;have I:=dJ K;clear H B K
 cases ok with
 | false =>
  have X:Hid (R=false):=t.out rfl;clear fin t u
  go_enter func69, ntmps69
  go_wp2_with (go_at_call 108;refine HC.out.mono ?_;rintro e L ⟨rfl,D⟩);go_ret;exact⟨cZ (by rw[X.out]),l.trans (D.alloc _)⟩
 | true =>
  have Y:Hid (Dj (E,st,true) ⟨op,width,flags,args,imm,d⟩=true->R=(d.all (fun z=>decide (0<=z) && decide (z<f.b.length)) && (decide (op≠30) || decide (d.getD 0 0≠d.getD 1 0)))):=fin.out rfl;have Z:Hid (Dj (E,st,true) ⟨op,width,flags,args,imm,d⟩=false->R=false):=u.out rfl;clear fin t u
  go_enter func69, ntmps69
  go_upto_region 4 with (go_at_call 108;refine HC.out.mono ?_;rintro e L ⟨rfl,D⟩;have x3:=(D.cell (w.heap.size+1) 3 (by omega)).trans (M.out 3);have x5:=(D.cell (w.heap.size+1) 5 (by omega)).trans (M.out 5);simp at x3 x5;have al:w.heap.size<L.heap.size:=by {have:=D.size;omega};have am:w.heap.size+1<L.heap.size:=by {have:=D.size;omega})
  go_cut [50] (fun ae wx=>ae=.bool (!Dj (E,st,true) ⟨op,width,flags,args,imm,d⟩)/\wx=L.alloc (.cells #[.int .i64 E,.int .i64 st,.bool true] 134))
  case first =>
   go_wp2;all_goals (go_meet;exact⟨by unfold Dj;congr 1;grind,rfl⟩)
  case rest =>
  obtain⟨rfl,rfl⟩:=hcut
  cases hcn:Dj (E,st,true) ⟨op,width,flags,args,imm,d⟩ with
  | false =>
   have X:Hid (R=false):=Z.out hcn;clear Y Z hcn;go_wp2;go_ret;exact⟨cZ (by rw[X.out]),l.trans (D.alloc _)⟩
  | true =>
   have ac:Hid (op=30->d.length=2):=by intro e;have af:=g.out e;unfold Dj at hcn;grind
   have N:Hid (R=(d.all (fun z=>decide (0<=z) && decide (z<f.b.length)) && (decide (op≠30) || decide (d.getD 0 0≠d.getD 1 0)))):=Y.out hcn;have gW:Gr W (L.alloc (.cells #[.int .i64 E,.int .i64 st,.bool true] 134)):=D.alloc _;clear Y Z g hcn;go_wp2;clear k0 k1 k2 k3 l0 l1 l2 l3 l4 l5
   go_loopw [6] (fun i wr=>∃k:Nat,k<=d.length/\i=.int .i64 k/\Gr W wr/\Hid (d.all (fun z=>decide (0<=z) && decide (z<f.b.length))=(d.drop k).all (fun z=>decide (0<=z) && decide (z<f.b.length)))) (fun i _=>d.length-(intOf i).toNat)
   case atStart=>exact⟨0,yI _,rfl,gW,rfl⟩
   case round =>
    obtain⟨k,hk,rfl,j,m⟩:=hrel;have ai:=j.size;have y3:=(j.cell w.heap.size 3 (by omega)).trans (B0.out 3);have y0:=(j.cell (w.heap.size+1) 0 (by omega)).trans (M.out 0);have y5:=(j.cell (w.heap.size+1) 5 (by omega)).trans (M.out 5);simp at y3 y0 y5;rcases hr:d.drop k with _|⟨z,r⟩
    ·have ab:=dw hr hk;have A:Hid (d.all (fun z=>decide (0<=z) && decide (z<f.b.length))=true):=by show _=_;rw[m.out,hr];rfl
     subst ab;clear hr m;by_cases g:op=30
     ·obtain⟨t0,t1,rfl⟩:=uu (ac.out g);obtain⟨bt,Q,rfl,y,p⟩:=I.out (by simp);have q0:=((l.trans j).cell bt (Q+0) y).trans (p 0 t0 rfl);have q1:=((l.trans j).cell bt (Q+1) y).trans (p 1 t1 rfl);simp at q0 q1;have ad:(op != 30)=false:=by simp[g]
      have F:=dJ g;clear p g;go_wp2;go_quiet (fail);go_wp2;go_ret;exact⟨cZ (by rw[N.out,A.out];simp[F.out];grind),(l.trans j).drewN _⟩
     ·have ad:(op != 30)=true:=by simp[g]
      have F:=dJ g;clear g;go_wp2;go_quiet (fail);go_wp2;go_ret;exact⟨cZ (by rw[N.out,A.out];simp[F.out]),(l.trans j).drewN _⟩
    ·obtain⟨aj,hl,J⟩:=dr hr;obtain⟨bt,Q,rfl,y,p⟩:=I.out (by omega);have q:=((l.trans j).cell bt (Q+k) y).trans (p k z hl)
     have HR:Hid (d.all (fun z=>decide (0<=z) && decide (z<f.b.length))=(decide (0<=z) && decide (z<f.b.length) && r.all (fun z=>decide (0<=z) && decide (z<f.b.length)))):=by show _=_;rw[m.out,hr];rfl
     have aa:Hid (d.drop (k+1)=r):=J;have z0:(0:Int)<=k:=by omega
     have z1:(k:Int)<(d.length:Int):=by omega
     clear hr hl J m p;by_cases hz:z<0
     ·go_wp2;go_quiet (fail);go_wp2;go_ret
      exact⟨cZ (by rw[N.out,HR.out];have:¬0<=z:=by omega
                   simp[this]),(l.trans j).drewN _⟩
     ·go_wp2;go_quiet (fail);go_wp2
      ·go_ret
       exact⟨cZ (by rw[N.out,HR.out];have:¬z<f.b.length:=by omega
                    simp[this]),(l.trans j).drewN _⟩
      ·go_roundw
       case rel =>
        (repeat apply Exists.intro);exact⟨⟨k+1,by omega,by go_num,j.drewN _,by (show _=_;rw[HR.out,aa.out];have h1:0<=z:=(by omega);have h2:z<f.b.length:=(by omega);simp[h1,h2])⟩,rfl⟩
       case measure=>simp[intOf];omega
