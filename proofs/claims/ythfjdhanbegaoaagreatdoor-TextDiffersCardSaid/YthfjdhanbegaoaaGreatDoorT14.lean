/- Parts. -/
import Derived.Test.YthfjdhanbegaoaaGreatDoorT13
import Derived.Deep.DeepCutAuto
set_option linter.unusedSimpArgs false
set_option linter.unusedVariables false
set_option maxRecDepth 100000
set_option maxHeartbeats 16000000
open Go.Proofs.Tryz
namespace Go.Proofs.YthfjdhanbegaoaaGreatDoor
open Go.RowKit
theorem nA {l:List Int}(h:l.length=2):∃a b,l=[a,b]:=by match l,h with|[a,b],_=>exact⟨a,b,rfl⟩
theorem nu (f:Fn)(x:Ins)(h:x.op=30):(Ref.shape f x).2.1=2:=by simp[Ref.shape,h]
theorem iG (f:Fn)(x:Ins)(v vx:Value)(w:World)(hf:FnAt w.heap.size w v f)(hx:jS w.heap.size w vx x)(h1:0<=x.imm)(h2:x.imm<4294967296) :
  Calls prog 59 #[v,vx] w (RG (.bool (Ref.argument f x)) w):=by
 obtain⟨vp,vs,vb,rfl,-,⟨X,cs,rfl,-,-,-⟩,⟨V,cb,rfl,-,-,-⟩⟩:=hf;obtain⟨va,vt,rfl,⟨U,ca,rfl,-,ah,-⟩,⟨Y,ct,rfl,-,ak,J⟩⟩:=hx;unfold ef;obtain⟨W,O⟩:=xJ ((w.alloc (.cells #[vp,.int .i64 f.ret,.slice X f.slots.length cs,.slice V f.blocks.length cb] 25)).alloc (.cells #[.int .i64 x.op,.int .i64 x.width,.int .i64 x.flags,.slice U x.args.length ca,.int .u32 x.imm,.slice Y x.to.length ct] 50));have l:Gr w W:=by rw[<-O];exact((qj w).alloc _).alloc _
 have ag:W.heap.size=w.heap.size+2:=by rw[<-O];simp
 have G:∀o,W.cell? ⟨w.heap.size,o,none⟩=(#[vp,.int .i64 f.ret,.slice X f.slots.length cs,.slice V f.blocks.length cb]:Array Value)[o]?:=by intro o;rw[<-O];exact px _ _ _ _ _ _ (heap_alloc2_old w _ _)
 have b1:∀o,W.cell? ⟨w.heap.size+1,o,none⟩=(#[.int .i64 x.op,.int .i64 x.width,.int .i64 x.flags,.slice U x.args.length ca,.int .u32 x.imm,.slice Y x.to.length ct]:Array Value)[o]?:=by intro o;rw[<-O];exact px _ _ _ _ _ _ (heap_alloc2_new w _ _)
 have C:=mA f vp (.slice V f.blocks.length cb) (.slice Y x.to.length ct) X U cs ca x W h1 h2;have g:=dJ (nu f x);have F:Hid (Ref.argument f x=((Ref.shape f x).2.2 && Ref.counts (Ref.shape f x) x && x.to.all (fun z=>decide (0<=z) && decide (z<f.blocks.length)) && (decide (x.op≠30) || decide (x.to.getD 0 0≠x.to.getD 1 0)))):=rfl
 revert C g F
 generalize Ref.argument f x=R;obtain⟨op,width,flags,args,imm,d⟩:=x;generalize Ref.shape f _=s;obtain⟨B,st,Q⟩:=s;dsimp only at *;intro C g F;have HC:=dJ C;clear C
 have E:Hid (Q=true->Ref.counts (B,st,true) ⟨op,width,flags,args,imm,d⟩=true->R=(d.all (fun z=>decide (0<=z) && decide (z<f.blocks.length)) && (decide (op≠30) || decide (d.getD 0 0≠d.getD 1 0)))):=by intro e1 e2;subst e1;rw[F.out,e2];simp
 have t:Hid (Q=false->R=false):=by intro e;subst e;rw[F.out];simp
 have u:Hid (Q=true->Ref.counts (B,st,true) ⟨op,width,flags,args,imm,d⟩=false->R=false):=by intro e e2;subst e;rw[F.out,e2];simp
 clear F;have k0:=G 0;have k1:=G 1;have k2:=G 2;have k3:=G 3;have l0:=b1 0;have l1:=b1 1;have l2:=b1 2;have l3:=b1 3;have l4:=b1 4;have l5:=b1 5;simp at k0 k1 k2 k3 l0 l1 l2 l3 l4 l5;have B0:=dJ G;have L:=dJ b1;have H:=dJ J;clear G b1 J
 cases Q with
 | false =>
  have Z:Hid (R=false):=t.out rfl;clear E t u
  go_enter func59, ntmps59
  go_wp2_with (go_at_call 100;refine HC.out.mono ?_;rintro e K ⟨rfl,g1⟩);go_ret;exact⟨dc (by rw[Z.out]),l.trans (g1.alloc _)⟩
 | true =>
  have F1:Hid (Ref.counts (B,st,true) ⟨op,width,flags,args,imm,d⟩=true->R=(d.all (fun z=>decide (0<=z) && decide (z<f.blocks.length)) && (decide (op≠30) || decide (d.getD 0 0≠d.getD 1 0)))):=E.out rfl;have F2:Hid (Ref.counts (B,st,true) ⟨op,width,flags,args,imm,d⟩=false->R=false):=u.out rfl;clear E t u
  go_enter func59, ntmps59
  go_upto_region 4 with (go_at_call 100;refine HC.out.mono ?_;rintro e K ⟨rfl,g1⟩;have x3:=(g1.cell (w.heap.size+1) 3 (by omega)).trans (L.out 3);have x5:=(g1.cell (w.heap.size+1) 5 (by omega)).trans (L.out 5);simp at x3 x5;have al:w.heap.size<K.heap.size:=by {have:=g1.size;omega};have am:w.heap.size+1<K.heap.size:=by {have:=g1.size;omega})
  go_cut [50] (fun ae wx=>ae=.bool (!Ref.counts (B,st,true) ⟨op,width,flags,args,imm,d⟩)/\wx=K.alloc (.cells #[.int .i64 B,.int .i64 st,.bool true] 130))
  case first =>
   go_wp2;all_goals (go_meet;exact⟨by unfold Ref.counts;congr 1;grind,rfl⟩)
  case rest =>
  obtain⟨rfl,rfl⟩:=hcut
  cases hcn:Ref.counts (B,st,true) ⟨op,width,flags,args,imm,d⟩ with
  | false =>
   have Z:Hid (R=false):=F2.out hcn;clear F1 F2 hcn;go_wp2;go_ret;exact⟨dc (by rw[Z.out]),l.trans (g1.alloc _)⟩
  | true =>
   have ac:Hid (op=30->d.length=2):=by intro e;have af:=g.out e;unfold Ref.counts at hcn;grind
   have M:Hid (R=(d.all (fun z=>decide (0<=z) && decide (z<f.blocks.length)) && (decide (op≠30) || decide (d.getD 0 0≠d.getD 1 0)))):=F1.out hcn;have gW:Gr W (K.alloc (.cells #[.int .i64 B,.int .i64 st,.bool true] 130)):=g1.alloc _;clear F1 F2 g hcn;go_wp2;clear k0 k1 k2 k3 l0 l1 l2 l3 l4 l5
   go_loopw [6] (fun i wr=>∃k:Nat,k<=d.length/\i=.int .i64 k/\Gr W wr/\Hid (d.all (fun z=>decide (0<=z) && decide (z<f.blocks.length))=(d.drop k).all (fun z=>decide (0<=z) && decide (z<f.blocks.length)))) (fun i _=>d.length-(intOf i).toNat)
   case atStart=>exact⟨0,pR _,rfl,gW,rfl⟩
   case round =>
    obtain⟨k,hk,rfl,j,m⟩:=hrel;have ai:=j.size;have y3:=(j.cell w.heap.size 3 (by omega)).trans (B0.out 3);have y0:=(j.cell (w.heap.size+1) 0 (by omega)).trans (L.out 0);have y5:=(j.cell (w.heap.size+1) 5 (by omega)).trans (L.out 5);simp at y3 y0 y5;rcases hr:d.drop k with _|⟨z,r⟩
    ·have ab:=dm hr hk;have A:Hid (d.all (fun z=>decide (0<=z) && decide (z<f.blocks.length))=true):=by show _=_;rw[m.out,hr];rfl
     subst ab;clear hr m;by_cases g:op=30
     ·obtain⟨t0,t1,rfl⟩:=nA (ac.out g);obtain⟨N,T,rfl,y,p⟩:=H.out (by simp);have q0:=((l.trans j).cell N (T+0) y).trans (p 0 t0 rfl);have q1:=((l.trans j).cell N (T+1) y).trans (p 1 t1 rfl);simp at q0 q1;have ad:(op != 30)=false:=by simp[g]
      have D:=dJ g;clear p g;go_wp2;go_quiet (fail);go_wp2;go_ret;exact⟨dc (by rw[M.out,A.out];simp[D.out];grind),(l.trans j).drewN _⟩
     ·have ad:(op != 30)=true:=by simp[g]
      have D:=dJ g;clear g;go_wp2;go_quiet (fail);go_wp2;go_ret;exact⟨dc (by rw[M.out,A.out];simp[D.out]),(l.trans j).drewN _⟩
    ·obtain⟨aj,hl,I⟩:=dj hr;obtain⟨N,T,rfl,y,p⟩:=H.out (by omega);have q:=((l.trans j).cell N (T+k) y).trans (p k z hl)
     have HR:Hid (d.all (fun z=>decide (0<=z) && decide (z<f.blocks.length))=(decide (0<=z) && decide (z<f.blocks.length) && r.all (fun z=>decide (0<=z) && decide (z<f.blocks.length)))):=by show _=_;rw[m.out,hr];rfl
     have aa:Hid (d.drop (k+1)=r):=I;have z0:(0:Int)<=k:=by omega
     have z1:(k:Int)<(d.length:Int):=by omega
     clear hr hl I m p;by_cases hz:z<0
     ·go_wp2;go_quiet (fail);go_wp2;go_ret
      exact⟨dc (by rw[M.out,HR.out];have:¬0<=z:=by omega
                   simp[this]),(l.trans j).drewN _⟩
     ·go_wp2;go_quiet (fail);go_wp2
      ·go_ret
       exact⟨dc (by rw[M.out,HR.out];have:¬z<f.blocks.length:=by omega
                    simp[this]),(l.trans j).drewN _⟩
      ·go_roundw
       case rel =>
        (repeat apply Exists.intro);exact⟨⟨k+1,by omega,by go_num,j.drewN _,by (show _=_;rw[HR.out,aa.out];have h1:0<=z:=(by omega);have h2:z<f.blocks.length:=(by omega);simp[h1,h2])⟩,rfl⟩
       case measure=>simp[intOf];omega
