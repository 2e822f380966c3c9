/- Parts. -/
import Derived.Test.YthfjdhanbegaoaaGreatDoorT39
import Derived.Test.YthfjdhanbegaoaaGreatDoorT40
set_option linter.unusedSimpArgs false
set_option linter.unusedVariables false
set_option maxRecDepth 100000
set_option maxHeartbeats 16000000
open Go.Proofs.Tryz
namespace Go.Proofs.YthfjdhanbegaoaaGreatDoor
section
open Go.RowKit
theorem iZ {s:List UInt8}{f:Fn}(h:Tx.readP s=some f)(hs:s.length<=80000):ia f:=by
 unfold Tx.readP at h;split at h
 ·split at h
  ·injection h with h;subst h;exact(Tx.parsedP_fit _).nice (by rw[List.length_dropLast];omega) (by rw[List.length_dropLast];omega)
  ·cases h
 ·cases h
theorem nY (w:World):Calls prog 27 #[] w (RS (.string (bs Tx.sumS)) w):=by
 go_enter func27, ntmps27
 go_wp2;go_ret;exact⟨rfl,rfl⟩
theorem ky (w:World)(ht:TabW w):Calls prog 11 #[] w (RG (.bool true) w):=by
 have HT:=dJ ht;have r:=fI (by decide) Tx.sum_read ht;have A:=fI (by decide) Tx.bad_read ht
 have W:Hid (∀d,Calls prog 19 #[.string (bs [115,117,98])] d (RG (.tuple #[.int .i64 2,.int .i64 0]) d)):=dJ fun d=>by have:=ix [115,117,98] d;unfold ew at this;rw[Tx.sub_op]at this;exact this
 have I:=iZ Tx.sum_read (by decide)
 have j:Hid (∀(v:Value)(d:World),Gr w d->FnAt d.heap.size d v Tx.sumF->Calls prog 12 #[v] d (RG (.tuple #[.string (bs Tx.sumS),.int .i64 0]) d)):=dJ fun v d g h=>by have:=dW v Tx.sumF d h I Tx.sum_im (ht.gr g);unfold di at this;rw[pB Tx.sum_valid,Tx.sum_text,Tx.sum_valid]at this;exact this
 simp only[Option.getD_some,Option.isSome_some,if_true]at r;simp only[Option.getD_none,Option.isSome_none,Bool.false_eq_true,if_false]at A;have l:Tx.sumF.params.length=2:=rfl;have p:Hid (∀d,Calls prog 27 #[] d (RS (.string (bs Tx.sumS)) d)):=nY;obtain⟨f,M⟩:=xJ Tx.sumF;obtain⟨g,N⟩:=xJ Tx.fn0;obtain⟨S,L⟩:=xJ Tx.sumS;obtain⟨Y,q⟩:=xJ (bs Tx.badS);have X:Hid (Y=bs Tx.badS):=dJ q.symm;rw[M]at j r l;rw[N]at A;rw[L]at j r p;have e1:=dZ (rfl:S=S);have C:=dJ l;clear L M N ht I q l;have O:=True.intro
 go_enter func11, ntmps11
 go_wp2_with (first|(go_at_call 27;refine(p.out _).mono ?_;rintro e wz ⟨rfl,rfl⟩)|(have _t:=O;go_at_call 14;(with_reducible refine(r.out _ (qj _)).mono ?_);rintro e d ⟨T,cp,U,cs,R,Z,rfl,B,g1⟩;obtain⟨K,aa,m,J⟩:=dz d (.slice T f.params.length cp) (.int .i64 f.ret) (.slice U f.slots.length cs) (.slice R f.blocks.length Z);have z:=dJ (g1.trans m.out);obtain⟨k0,k1,k2,k3⟩:=J.out K (qj _);clear g1 O _t)|(go_at_call 12;refine(j.out _ _ z.out (B.out.gr m.out)).mono ?_;rintro e w2 ⟨rfl,g2⟩;have G:=dJ g2;clear g2)|(go_at_call 14;refine(A.out _ (z.out.trans G.out)).mono ?_;rintro e w3 ⟨u,E,y,F,t,D,rfl,-,g3⟩;have V:=dJ ((G.out.trans g3).alloc (.cells #[.slice u g.params.length E,.int .i64 g.ret,.slice y g.slots.length F,.slice t g.blocks.length D] 25));clear g3)|(go_at_call 19;refine(W.out _).mono ?_;rintro e Q ⟨rfl,g4⟩;have H:Hid (Gr K Q):=dJ (V.out.trans g4);obtain⟨l0,l1,l2,l3⟩:=J.out Q H.out;rw[C.out]at l0;clear g4))
 go_ret;exact⟨rfl,z.out.trans H.out⟩
theorem ow (x y:Ins):decide (x=y)=((x.op == y.op) && (x.width == y.width) && (x.flags == y.flags) && (x.imm == y.imm) && decide (x.args=y.args) && decide (x.to=y.to)):=by
 obtain⟨a,b,c,d,e,f⟩:=x;obtain⟨r,t,u,z,A,B⟩:=y;rw[Bool.eq_iff_iff];simp only[decide_eq_true_eq,pD,beq_iff_eq,Ins.mk.injEq];constructor
 ·rintro⟨g,j,l,m,p,q⟩;exact⟨⟨⟨⟨⟨g,j⟩,l⟩,p⟩,m⟩,q⟩
 ·rintro⟨⟨⟨⟨⟨g,j⟩,l⟩,p⟩,m⟩,q⟩;exact⟨g,j,l,m,p,q⟩
theorem iE (x y:Ins)(vx vy:Value)(w:World)(hx:jS w.heap.size w vx x)(hy:jS w.heap.size w vy y) :
  Calls prog 36 #[vx,vy] w fun e w'=>e=.returned (.bool (decide (x=y)))/\Gr w w':=by
 obtain⟨va,vt,rfl,A,B⟩:=hx;obtain⟨Q,R,rfl,C,D⟩:=hy;have r:Hid (∀j,Gr w j->Calls prog 35 #[va,Q] j fun e w'=>e=.returned (.bool (decide (x.args=y.args)))/\Gr j w'):=fun j q=>ec va Q _ _ j (A.gr q) (C.gr q);have t:Hid (∀j,Gr w j->Calls prog 35 #[vt,R] j fun e w'=>e=.returned (.bool (decide (x.to=y.to)))/\Gr j w'):=fun j q=>ec vt R _ _ j (B.gr q) (D.gr q);have p:=dJ (ow x y);obtain⟨F,ca,rfl,-,-,-⟩:=A;obtain⟨G,ct,rfl,-,-,-⟩:=B;obtain⟨H,K,rfl,-,-,-⟩:=C;obtain⟨I,L,rfl,-,-,-⟩:=D;obtain⟨W,E⟩:=xJ ((w.alloc (.cells #[.int .i64 x.op,.int .i64 x.width,.int .i64 x.flags,.slice F x.args.length ca,.int .u32 x.imm,.slice G x.to.length ct] 50)).alloc (.cells #[.int .i64 y.op,.int .i64 y.width,.int .i64 y.flags,.slice H y.args.length K,.int .u32 y.imm,.slice I y.to.length L] 50));have d:Gr w W:=by rw[<-E];exact((qj w).alloc _).alloc _
 have Y:W.heap.size=w.heap.size+2:=by rw[<-E];simp
 have l:Hid (∀w' o,Gr W w'->w'.cell? ⟨w.heap.size,o,none⟩=(#[.int .i64 x.op,.int .i64 x.width,.int .i64 x.flags,.slice F x.args.length ca,.int .u32 x.imm,.slice G x.to.length ct]:Array Value)[o]?):=by intro w' o g;refine(g.cell w.heap.size o (by omega)).trans ?_;rw[<-E];exact(((qj _).alloc _).cell w.heap.size o (by simp)).trans (px _ _ _ _ _ _ (heap_alloc_new w _))
 have m:Hid (∀w' o,Gr W w'->w'.cell? ⟨w.heap.size+1,o,none⟩=(#[.int .i64 y.op,.int .i64 y.width,.int .i64 y.flags,.slice H y.args.length K,.int .u32 y.imm,.slice I y.to.length L]:Array Value)[o]?):=by intro w' o g;refine(g.cell (w.heap.size+1) o (by omega)).trans ?_;rw[<-E];exact px _ _ _ _ _ _ (heap_alloc2_new w _ _)
 have O:Hid (∀w',Gr W w'->(w'.cell? ⟨w.heap.size,0,none⟩=some (.int .i64 x.op)/\w'.cell? ⟨w.heap.size,1,none⟩=some (.int .i64 x.width)/\w'.cell? ⟨w.heap.size,2,none⟩=some (.int .i64 x.flags)/\w'.cell? ⟨w.heap.size,3,none⟩=some (.slice F x.args.length ca)/\w'.cell? ⟨w.heap.size,4,none⟩=some (.int .u32 x.imm)/\w'.cell? ⟨w.heap.size,5,none⟩=some (.slice G x.to.length ct)) /\
     (w'.cell? ⟨w.heap.size+1,0,none⟩=some (.int .i64 y.op)/\w'.cell? ⟨w.heap.size+1,1,none⟩=some (.int .i64 y.width)/\w'.cell? ⟨w.heap.size+1,2,none⟩=some (.int .i64 y.flags)/\w'.cell? ⟨w.heap.size+1,3,none⟩=some (.slice H y.args.length K)/\w'.cell? ⟨w.heap.size+1,4,none⟩=some (.int .u32 y.imm)/\w'.cell? ⟨w.heap.size+1,5,none⟩=some (.slice I y.to.length L))) :=
  fun w' g=>⟨⟨l.out _ 0 g,l.out _ 1 g,l.out _ 2 g,l.out _ 3 g,l.out _ 4 g,l.out _ 5 g⟩,⟨m.out _ 0 g,m.out _ 1 g,m.out _ 2 g,m.out _ 3 g,m.out _ 4 g,m.out _ 5 g⟩⟩
 obtain⟨⟨c0,c1,c2,c3,c4,c5⟩,⟨d0,d1,d2,d3,d4,d5⟩⟩:=O.out W (qj _);obtain⟨b1,T⟩:∃b,(x.op == y.op)=b:=⟨_,rfl⟩;obtain⟨b2,U⟩:∃b,(x.width == y.width)=b:=⟨_,rfl⟩;obtain⟨J,V⟩:∃b,(x.flags == y.flags)=b:=⟨_,rfl⟩;obtain⟨u,X⟩:∃b,(x.imm == y.imm)=b:=⟨_,rfl⟩;obtain⟨z,M⟩:∃b,decide (x.args=y.args)=b:=⟨_,rfl⟩;obtain⟨Z,N⟩:∃b,decide (x.to=y.to)=b:=⟨_,rfl⟩;rw[T,U,V,X,M,N]at p;rw[M]at r;rw[N]at t;clear M N l m;unfold ef;rcases (by cases b1<;>cases b2<;>cases J<;>simp:b1=false\/(b1=true/\b2=false)\/(b1=true/\b2=true/\J=false)\/(b1=true/\b2=true/\J=true)) with rfl|⟨rfl,rfl⟩|⟨rfl,rfl,rfl⟩|⟨rfl,rfl,rfl⟩
 rotate_right 1
 ·rcases (by cases u<;>cases z<;>simp:(u=false/\z=false)\/(u=false/\z=true)\/(u=true/\z=false)\/(u=true/\z=true)) with ⟨rfl,rfl⟩|⟨rfl,rfl⟩|⟨rfl,rfl⟩|⟨rfl,rfl⟩
  all_goals
   go_enter func36, ntmps36
   go_wp2_with (first|(go_at_call 35;with_reducible refine(r.out _ d).mono ?_;rintro e j ⟨rfl,g1⟩;obtain⟨⟨k0,k1,k2,k3,k4,k5⟩,⟨m0,m1,m2,m3,m4,m5⟩⟩:=O.out _ g1)|(go_at_call 35;with_reducible refine(t.out _ (d.trans g1)).mono ?_;rintro e w2 ⟨rfl,g2⟩))
   go_ret
   first
    | exact⟨dc (by rw[p.out];simp),d.trans (g1.trans g2)⟩
    | exact⟨dc (by rw[p.out];simp),d.trans g1⟩
    | exact⟨dc (by rw[p.out];simp),d⟩
 all_goals
  go_enter func36, ntmps36
  go_wp2;go_ret;exact⟨dc (by rw[p.out];simp),d⟩
end
section
theorem jf {α:Type}[DecidableEq α]{a b:List α}{k:Nat}{x y:α}(h:a.take k=b.take k)(hx:a[k]?=some x)(hy:b[k]?=some y)(e:x=y):a.take (k+1)=b.take (k+1):=by rw[List.take_add_one,List.take_add_one,h,hx,hy,e]
theorem jG {α:Type}{a b:List α}{k:Nat}{x y:α}(hx:a[k]?=some x)(hy:b[k]?=some y)(e:x≠y):a≠b:=by intro h;rw[h,hy]at hx;exact e (Option.some.inj hx).symm
theorem kf {α:Type}{a b:List α}(h:a.take a.length=b.take a.length)(hl:a.length=b.length):a=b:=by rwa [pE,hl,pE]at h
end
section
open Go.RowKit
theorem fK {P:Program}{id:Nat}{Q:Exit->Act->World->Prop}{a:Act}{w:World}{l:List Oper}(hm:P.follows .mixedOrders=true)(hB:Region.lexB .any l.toArray=true)
  (h:wpQuiet P l.toArray (fun w'=>∃u:GrW w,w'=u.val) (fun a'=>∀w',(∃u:GrW w,w'=u.val)->Q .normal a' w') l a):(Code.region id l.toArray true).wp P Q a w :=
 wp_region_quiet (C:=fun w'=>∃u:GrW w,w'=u.val) hm hB ⟨⟨w.drew,(qj w).drew⟩,rfl⟩ (by simpa using h)
instance (w:World):Nonempty (GrW w):=⟨⟨w,qj w⟩⟩
theorem mU {P:Program}{f:FuncId}{args:Array Value}{w:World}{v:Value}(u:GrW w)
  (h:Calls P f args u.val fun e w'=>e=.returned v/\Gr u.val w'):Calls P f args u.val fun e w''=>e=.returned v/\∃u':GrW w,w''=u'.val :=
 h.mono fun _ w' ⟨d,g⟩=>⟨d,⟨w',u.gr.trans g⟩,rfl⟩
theorem oE (f g:Fn):decide (f=g)=(decide (f.params=g.params) && (f.ret == g.ret) && decide (f.slots=g.slots) && decide (f.blocks=g.blocks)):=by
 obtain⟨a,b,c,d⟩:=f;obtain⟨q,r,t,u⟩:=g;rw[Bool.eq_iff_iff];simp only[decide_eq_true_eq,pD,beq_iff_eq,Fn.mk.injEq];constructor
 ·rintro⟨j,l,m,p⟩;exact⟨⟨⟨j,l⟩,m⟩,p⟩
 ·rintro⟨⟨⟨j,l⟩,m⟩,p⟩;exact⟨j,l,m,p⟩
abbrev FBox (B:Nat)(w:World)(f:Fn)(Ap As Ab:Option Addr)(cp cs cb:Nat):Prop :=
 w.cell? ⟨B,0,none⟩=some (.slice Ap f.params.length cp)/\w.cell? ⟨B,1,none⟩=some (.int .i64 f.ret)/\w.cell? ⟨B,2,none⟩=some (.slice As f.slots.length cs)/\w.cell? ⟨B,3,none⟩=some (.slice Ab f.blocks.length cb)
theorem FBox.gr {B:Nat}{w w':World}{f:Fn}{Ap As Ab:Option Addr}{cp cs cb:Nat}(h:FBox B w f Ap As Ab cp cs cb)(hB:B<w.heap.size)(q:Gr w w'):FBox B w' f Ap As Ab cp cs cb :=
 ⟨(q.cell _ _ hB).trans h.1,(q.cell _ _ hB).trans h.2.1,(q.cell _ _ hB).trans h.2.2.1,(q.cell _ _ hB).trans h.2.2.2⟩
theorem FBox.new {B:Nat}{V W:World}{f:Fn}{Ap As Ab:Option Addr}{cp cs cb:Nat}(g:Gr (V.alloc (.cells #[.slice Ap f.params.length cp,.int .i64 f.ret,.slice As f.slots.length cs,.slice Ab f.blocks.length cb] 25)) W)(hB:V.heap.size=B):FBox B W f Ap As Ab cp cs cb :=
 ⟨dg _ _ 0 g hB,dg _ _ 1 g hB,dg _ _ 2 g hB,dg _ _ 3 g hB⟩
theorem gx (vf vg:Value)(f g:Fn)(w:World)(hf:FnAt w.heap.size w vf f)(hg:FnAt w.heap.size w vg g) :
  Calls prog 15 #[vf,vg] w fun e w'=>e=.returned (.bool (decide (f=g)))/\Gr w w':=by
 obtain⟨vp,vs,vb,rfl,hp,aj,hb⟩:=hf;obtain⟨up,us,ub,rfl,gp,ae,gb⟩:=hg;have D:Hid (∀z,Gr w z->Calls prog 35 #[vp,up] z fun e w'=>e=.returned (.bool (decide (f.params=g.params)))/\Gr z w'):=fun z q=>ec vp up _ _ z (hp.gr q) (gp.gr q);have M:Hid (∀z,Gr w z->Calls prog 35 #[vs,us] z fun e w'=>e=.returned (.bool (decide (f.slots=g.slots)))/\Gr z w'):=fun z q=>ec vs us _ _ z (aj.gr q) (ae.gr q);have HE:=dJ (oE f g);obtain⟨Ap,cp,rfl,-,-,-⟩:=hp;obtain⟨As,cs,rfl,-,-,-⟩:=aj;obtain⟨Ab,cb,rfl,-,aH,af⟩:=hb;obtain⟨Dp,dp,rfl,-,-,-⟩:=gp;obtain⟨Ds,ds,rfl,-,-,-⟩:=ae;obtain⟨Db,db,rfl,-,aF,ad⟩:=gb;have H3:Hid (0<f.blocks.length->∃b t,Ab=some ⟨b,t,none⟩/\b<w.heap.size/\∀j l,f.blocks[j]?=some l->∃u,w.cell? ⟨b,t+j,none⟩=some u/\BlkAt w.heap.size w u l):=af;have J3:Hid (0<g.blocks.length->∃b t,Db=some ⟨b,t,none⟩/\b<w.heap.size/\∀j l,g.blocks[j]?=some l->∃u,w.cell? ⟨b,t+j,none⟩=some u/\BlkAt w.heap.size w u l):=ad;clear af ad;obtain⟨W,hW⟩:=xJ ((w.alloc (.cells #[.slice Ap f.params.length cp,.int .i64 f.ret,.slice As f.slots.length cs,.slice Ab f.blocks.length cb] 25)).alloc (.cells #[.slice Dp g.params.length dp,.int .i64 g.ret,.slice Ds g.slots.length ds,.slice Db g.blocks.length db] 25));have p:Gr w W:=by rw[<-hW];exact((qj w).alloc _).alloc _
 have aG:W.heap.size=w.heap.size+2:=by rw[<-hW];simp
 have C:Hid (∀w',Gr W w'->FBox w.heap.size w' f Ap As Ab cp cs cb/\FBox (w.heap.size+1) w' g Dp Ds Db dp ds db):=by intro w' q;refine⟨(FBox.new (V:=w) (by rw[<-hW];exact(qj _).alloc _) rfl).gr (by omega) q,(FBox.new (V:=w.alloc _) (by rw[hW];exact qj _) (by simp)).gr (by omega) q⟩
 obtain⟨⟨c0,c1,c2,c3⟩,⟨d0,d1,d2,d3⟩⟩:=C.out W (qj _);obtain⟨b1,h1⟩:∃b,decide (f.params=g.params)=b:=⟨_,rfl⟩;obtain⟨b2,h2⟩:∃b,(f.ret == g.ret)=b:=⟨_,rfl⟩;obtain⟨aq,ax⟩:∃b,(f.ret != g.ret)=b:=⟨_,rfl⟩;have e2:aq=!b2:=by rw[<-h2,<-ax];rfl
 obtain⟨b3,h3⟩:∃b,decide (f.slots=g.slots)=b:=⟨_,rfl⟩;rw[h1,h2,h3]at HE;rw[h1]at D;rw[h3]at M;clear h1 h3
 cases b1 with
 | false =>
  go_enter func15, ntmps15
  go_wp2_with (go_at_call 35;with_reducible refine(D.out _ p).mono ?_;rintro e z ⟨rfl,g1⟩;obtain⟨⟨k0,k1,k2,k3⟩,⟨m0,m1,m2,m3⟩⟩:=C.out _ g1);go_ret;exact⟨dc (by rw[HE.out];simp),p.trans g1⟩
 | true =>
  cases b2 with
  | false =>
   subst e2
   go_enter func15, ntmps15
   go_wp2_with (go_at_call 35;with_reducible refine(D.out _ p).mono ?_;rintro e z ⟨rfl,g1⟩;obtain⟨⟨k0,k1,k2,k3⟩,⟨m0,m1,m2,m3⟩⟩:=C.out _ g1);go_ret;exact⟨dc (by rw[HE.out];simp),p.trans g1⟩
  | true =>
   subst e2
   cases b3 with
   | false =>
    go_enter func15, ntmps15
    go_wp2_with (first|(go_at_call 35;with_reducible refine(D.out _ p).mono ?_;rintro e z ⟨rfl,g1⟩;obtain⟨⟨k0,k1,k2,k3⟩,⟨m0,m1,m2,m3⟩⟩:=C.out _ g1)|(go_at_call 35;with_reducible refine(M.out _ (p.trans g1)).mono ?_;rintro e w2 ⟨rfl,g2⟩;have U:=g1.trans g2;obtain⟨⟨i0,i1,i2,i3⟩,⟨j0,j1,j2,j3⟩⟩:=C.out _ U))
    go_ret;exact⟨dc (by rw[HE.out];simp),p.trans U⟩
   | true =>
    have K:Hid (decide (f=g)=decide (f.blocks=g.blocks)):=by show _=_;rw[HE.out];simp
    clear HE;by_cases A:f.blocks.length=g.blocks.length
    ·have aA:((f.blocks.length:Int) != (g.blocks.length:Int))=false:=by rw[A];simp
     have HL:Hid (f.blocks.length=g.blocks.length):=A;clear A
     go_enter func15, ntmps15
     go_wp2_with (first|(go_at_call 35;with_reducible refine(D.out _ p).mono ?_;rintro e z ⟨rfl,g1⟩;obtain⟨⟨k0,k1,k2,k3⟩,⟨m0,m1,m2,m3⟩⟩:=C.out _ g1)|(go_at_call 35;with_reducible refine(M.out _ (p.trans g1)).mono ?_;rintro e w2 ⟨rfl,g2⟩;have U:=g1.trans g2;obtain⟨⟨i0,i1,i2,i3⟩,⟨j0,j1,j2,j3⟩⟩:=C.out _ U))
     clear c0 c1 c2 c3 d0 d1 d2 d3 k0 k1 k2 k3 m0 m1 m2 m3 i0 i1 i2 i3 j0 j1 j2 j3
     go_loopw [5,6] (fun i _ wr=>∃k:Nat,k<=f.blocks.length/\i=.int .i64 k/\Hid (f.blocks.take k=g.blocks.take k)/\Gr W wr) (fun i _ _=>f.blocks.length-(intOf i).toNat)
     case atStart=>exact⟨0,pR _,rfl,rfl,U⟩
     case round =>
      obtain⟨k,hk,rfl,J,G⟩:=hrel;obtain⟨⟨-,-,-,c3⟩,⟨-,-,-,d3⟩⟩:=C.out _ G;by_cases ai:k<f.blocks.length
      ·have Q:k<g.blocks.length:=by have:=HL.out;omega
       obtain⟨ba,oa,rfl,ay,ag⟩:=H3.out (by omega);obtain⟨bb,ob,rfl,az,ah⟩:=J3.out (by omega);obtain⟨l,hl⟩:∃x,f.blocks[k]?=some x:=⟨_,oY ai⟩;obtain⟨m,hm⟩:∃x,g.blocks[k]?=some x:=⟨_,oY Q⟩;obtain⟨u1,x1,i1⟩:=ag k l hl;obtain⟨u2,x2,i2⟩:=ah k m hm;obtain⟨Al,al,rfl,-,aD,I3⟩:=i1;obtain⟨Bl,bl,rfl,-,aE,K3⟩:=i2;have I4:Hid (0<l.length->∃b t,Al=some ⟨b,t,none⟩/\b<w.heap.size/\∀j x,l[j]?=some x->InsAt w.heap.size w b (t+j*6) x):=I3;have K4:Hid (0<m.length->∃b t,Bl=some ⟨b,t,none⟩/\b<w.heap.size/\∀j x,m[j]?=some x->InsAt w.heap.size w b (t+j*6) x):=K3;have N:Hid (∀w',Gr W w'->w'.cell? ⟨ba,oa+k,none⟩=some (.slice Al l.length al)/\w'.cell? ⟨bb,ob+k,none⟩=some (.slice Bl m.length bl)):=fun w' q=>⟨((p.trans q).cell _ _ ay).trans x1,((p.trans q).cell _ _ az).trans x2⟩;have HX:=dJ hl;have HY:=dJ hm;have z1:(0:Int)<=(k:Int):=by omega
       have z2:(k:Int)<(f.blocks.length:Int):=by omega
       have z3:(k:Int)<(g.blocks.length:Int):=by omega
       obtain⟨y1,y2⟩:=N.out _ G;clear hl hm ag ah ai Q x1 x2 I3 K3;by_cases H:l.length=m.length
       ·have aB:((l.length:Int) != (m.length:Int))=false:=by rw[H];simp
        have L:Hid (l.length=m.length):=H;clear H;go_wp2;go_quiet (fail);go_wp2
        go_loopw [6] (fun i wr=>∃j:Nat,j<=l.length/\i=.int .i64 j/\Hid (l.take j=m.take j)/\Gr W wr) (fun i _=>l.length-(intOf i).toNat)
        case atStart=>exact⟨0,pR _,rfl,rfl,G.drewN _⟩
        case round =>
         obtain⟨j,hj,rfl,B,r⟩:=hrel;obtain⟨⟨-,-,-,c3⟩,⟨-,-,-,d3⟩⟩:=C.out _ r;obtain⟨y1,y2⟩:=N.out _ r;by_cases O:j<l.length
         ·have I:j<m.length:=by have:=L.out;omega
          obtain⟨Y,qa,rfl,E,R⟩:=I4.out (by omega);obtain⟨Z,qb,rfl,F,T⟩:=K4.out (by omega);obtain⟨x,hx⟩:∃x,l[j]?=some x:=⟨_,oY O⟩;obtain⟨y,hy⟩:∃x,m[j]?=some x:=⟨_,oY I⟩;obtain⟨va,vt,a0,a1,a2,a3,a4,a5,ak,am⟩:=R j x hx;obtain⟨ua,ut,e0,e1,e2,e3,e4,e5,an,ao⟩:=T j y hy
          have HC:Hid (∀z,Gr w z->Calls prog 36 #[ef x va vt,ef y ua ut] z fun e w'=>e=.returned (.bool (decide (x=y)))/\Gr z w') :=
           fun z q=>iE x y _ _ z ⟨va,vt,rfl,ak.gr q,am.gr q⟩ ⟨ua,ut,rfl,an.gr q,ao.gr q⟩
          obtain⟨Aa,ar,rfl,-,-,-⟩:=ak;obtain⟨At,au,rfl,-,-,-⟩:=am;obtain⟨Da,av,rfl,-,-,-⟩:=an;obtain⟨Dt,aw,rfl,-,-,-⟩:=ao;unfold ef at HC;obtain⟨ev,X⟩:∃ev,decide (x=y)=ev:=⟨_,rfl⟩;rw[X]at HC;have aa:=dJ X;have ab:=dJ hx;have ac:=dJ hy;have z4:(0:Int)<=(j:Int):=by omega
          have z5:(j:Int)<(l.length:Int):=by omega
          have z6:(j:Int)<(m.length:Int):=by omega
          have d:Gr w wr:=p.trans r;have U1:∀u:GrW wr,u.val.cell? ⟨w.heap.size,3,none⟩=some (.slice (some ⟨ba,oa,none⟩) f.blocks.length cb):=fun u=>(C.out _ (r.trans u.gr)).1.2.2.2;have U2:∀u:GrW wr,u.val.cell? ⟨w.heap.size+1,3,none⟩=some (.slice (some ⟨bb,ob,none⟩) g.blocks.length db):=fun u=>(C.out _ (r.trans u.gr)).2.2.2.2;have U3:∀u:GrW wr,u.val.cell? ⟨ba,oa+k,none⟩=some (.slice (some ⟨Y,qa,none⟩) l.length al):=fun u=>(N.out _ (r.trans u.gr)).1;have U4:∀u:GrW wr,u.val.cell? ⟨bb,ob+k,none⟩=some (.slice (some ⟨Z,qb,none⟩) m.length bl):=fun u=>(N.out _ (r.trans u.gr)).2;have V0:∀u:GrW wr,u.val.cell? ⟨Y,qa+j*6,none⟩=some (.int .i64 x.op):=fun u=>((d.trans u.gr).cell _ _ E).trans a0;have V1:∀u:GrW wr,u.val.cell? ⟨Y,qa+j*6+1,none⟩=some (.int .i64 x.width):=fun u=>((d.trans u.gr).cell _ _ E).trans a1;have V2:∀u:GrW wr,u.val.cell? ⟨Y,qa+j*6+2,none⟩=some (.int .i64 x.flags):=fun u=>((d.trans u.gr).cell _ _ E).trans a2;have V3:∀u:GrW wr,u.val.cell? ⟨Y,qa+j*6+3,none⟩=some (.slice Aa x.args.length ar):=fun u=>((d.trans u.gr).cell _ _ E).trans a3;have V4:∀u:GrW wr,u.val.cell? ⟨Y,qa+j*6+4,none⟩=some (.int .u32 x.imm):=fun u=>((d.trans u.gr).cell _ _ E).trans a4;have V5:∀u:GrW wr,u.val.cell? ⟨Y,qa+j*6+5,none⟩=some (.slice At x.to.length au):=fun u=>((d.trans u.gr).cell _ _ E).trans a5;have X0:∀u:GrW wr,u.val.cell? ⟨Z,qb+j*6,none⟩=some (.int .i64 y.op):=fun u=>((d.trans u.gr).cell _ _ F).trans e0;have X1:∀u:GrW wr,u.val.cell? ⟨Z,qb+j*6+1,none⟩=some (.int .i64 y.width):=fun u=>((d.trans u.gr).cell _ _ F).trans e1;have X2:∀u:GrW wr,u.val.cell? ⟨Z,qb+j*6+2,none⟩=some (.int .i64 y.flags):=fun u=>((d.trans u.gr).cell _ _ F).trans e2;have X3:∀u:GrW wr,u.val.cell? ⟨Z,qb+j*6+3,none⟩=some (.slice Da y.args.length av):=fun u=>((d.trans u.gr).cell _ _ F).trans e3;have X4:∀u:GrW wr,u.val.cell? ⟨Z,qb+j*6+4,none⟩=some (.int .u32 y.imm):=fun u=>((d.trans u.gr).cell _ _ F).trans e4;have X5:∀u:GrW wr,u.val.cell? ⟨Z,qb+j*6+5,none⟩=some (.slice Dt y.to.length aw):=fun u=>((d.trans u.gr).cell _ _ F).trans e5;clear hx hy R T X O I a0 a1 a2 a3 a4 a5 e0 e1 e2 e3 e4 e5;have ap:=dJ d;go_wp2;refine fK (by kernel_rfl) (by kernel_rfl) ?_;repeat (go_big_quiet_step ((rename_i u;go_at_call 36;exact mU u (HC.out _ (ap.out.trans u.gr)))))
          refine wpQuiet_nil ?_;intro w9 aC;obtain⟨u9,rfl⟩:=aC;have g6:=u9.gr;clear U1 U2 U3 U4 V0 V1 V2 V3 V4 V5 X0 X1 X2 X3 X4 X5
          cases ev with
          | true =>
           go_wp2;go_roundw;case rel=>exact⟨j+1,by omega,by go_num,jf B.out ab.out ac.out (of_decide_eq_true aa.out),r.trans g6⟩
           case measure=>simp[intOf];omega
          | false =>
           go_wp2;go_ret;exact⟨dc (by rw[K.out];exact(decide_eq_false (jG HX.out HY.out (jG ab.out ac.out (of_decide_eq_false aa.out)))).symm),d.trans g6⟩
         ·obtain rfl:j=l.length:=by omega
          go_wp2;go_roundw;case rel=>exact⟨k+1,by omega,by go_num,jf J.out HX.out HY.out (kf B.out L.out),r⟩
          case measure=>simp[intOf];omega
       ·have aB:((l.length:Int) != (m.length:Int))=true:=by simp;omega
        have L:Hid (l≠m):=fun h=>H (by rw[h]);clear H;go_wp2;go_quiet (fail);go_wp2;go_ret;exact⟨dc (by rw[K.out];exact(decide_eq_false (jG HX.out HY.out L.out)).symm),(p.trans G).drewN _⟩
      ·obtain rfl:k=f.blocks.length:=by omega
       go_wp2;go_ret;exact⟨dc (by rw[K.out];exact(decide_eq_true (kf J.out HL.out)).symm),p.trans G⟩
    ·have aA:((f.blocks.length:Int) != (g.blocks.length:Int))=true:=by simp;omega
     have HL:Hid (f.blocks≠g.blocks):=fun h=>A (by rw[h]);clear A
     go_enter func15, ntmps15
     go_wp2_with (first|(go_at_call 35;with_reducible refine(D.out _ p).mono ?_;rintro e z ⟨rfl,g1⟩;obtain⟨⟨k0,k1,k2,k3⟩,⟨m0,m1,m2,m3⟩⟩:=C.out _ g1)|(go_at_call 35;with_reducible refine(M.out _ (p.trans g1)).mono ?_;rintro e w2 ⟨rfl,g2⟩;have U:=g1.trans g2;obtain⟨⟨i0,i1,i2,i3⟩,⟨j0,j1,j2,j3⟩⟩:=C.out _ U))
     go_ret;exact⟨dc (by rw[K.out];exact(decide_eq_false HL.out).symm),p.trans U⟩
theorem gn {v:Value}{f:Fn}{w:World}(hf:FnAt w.heap.size w v f):Hid (∀w1,Gr w w1->Calls prog 10 #[v] w1 (RG (.bool (dA f)) w1)):=dJ fun w1 g=>(mO v f w1 (hf.gr g)).mono fun e w' ⟨h1,h2⟩=>⟨h1,h2⟩
theorem eG {w:World}(ht:TabW w):Hid (∀w1,Gr w w1->Calls prog 11 #[] w1 (RG (.bool true) w1)):=dJ fun w1 g=>ky w1 (ht.gr g)
theorem gB (f:Fn):Hid (∀(v1 v2:Value)(w1:World),FnAt w1.heap.size w1 v1 f->FnAt w1.heap.size w1 v2 f->Calls prog 15 #[v1,v2] w1 (RG (.bool true) w1)):=dJ fun v1 v2 w1 d g=>(gx v1 v2 f f w1 d g).mono fun e w' ⟨q1,q2⟩=>⟨by rw[q1,decide_eq_true rfl],q2⟩
theorem lawTextPrints_any (v:Value)(f:Fn)(w:World)(hf:FnAt w.heap.size w v f)(hn:dA f=false->ia f)(hi:Tx.Im f)(ht:TabW w) :
  Calls prog 3 #[v] w (RG (.bool true) w):=by
 have E:=gn hf;have L:=eG ht;have HF:=dJ hf;have r:Hid (dA f=false->∀d,Gr w d->Calls prog 12 #[v] d (RG (.tuple #[.string (bs (di f)),.int .i64 (Ref.validate f)]) d)):=dJ fun h d g=>dW v f d (hf.gr g) (hn h) hi (ht.gr g);have u:Hid (dA f=false->∀d,Gr w d->Calls prog 13 #[v] d (RG (.tuple #[.string (bs (di f)),.int .i64 (Ref.validate f)]) d)):=dJ fun h d g=>kF v f d (hf.gr g) (hn h) hi (ht.gr g)
 have t:Hid (Ref.validate f=0->∀d,Gr w d->Calls prog 14 #[.string (bs (di f))] d fun e w'=>ff d w' f 0 e):=dJ fun h=>by
  have e:di f=Tx.textS f:=by unfold di;rw[pB h]
  rw[e];exact(fI (by have:=Tx.textS_len h hi;omega) (Tx.readP_text h hi) ht).out
 have N:=gB f;obtain⟨vp,vs,vb,rfl,hp,hs,hb⟩:=id hf;obtain⟨Ap,cp,rfl,-⟩:=hp;obtain⟨As,cs,rfl,-⟩:=hs;obtain⟨Ab,cb,rfl,-⟩:=hb;obtain⟨W,hW,q,y⟩:=dz w (.slice Ap f.params.length cp) (.int .i64 f.ret) (.slice As f.slots.length cs) (.slice Ab f.blocks.length cb);obtain⟨k0,k1,k2,k3⟩:=y.out W (qj _);obtain⟨lg,D⟩:=xJ (dA f);obtain⟨e,he⟩:=xJ (Ref.validate f);obtain⟨S,hS⟩:=xJ (di f);rw[D]at E r u;rw[he]at r u t;rw[hS]at r u t;have e1:=dZ (rfl:S=S);clear D he hS hn hi ht hf
 cases lg with
 | true =>
  clear r u t
  go_enter func3, ntmps3
  go_wp2_with (first|(go_at_call 10;refine(E.out _ q.out).mono ?_;rintro e d ⟨rfl,g1⟩;have l:=dJ (q.out.trans g1);clear g1)|(go_at_call 11;refine(L.out _ l.out).mono ?_;rintro e F ⟨rfl,g2⟩))
  go_ret;exact⟨rfl,l.out.trans g2⟩
 | false =>
  have B:=dJ (r.out rfl);have C:=dJ (u.out rfl);clear r u;by_cases h0:e=0
  ·have M:=dJ (t.out h0);subst h0;clear t
   go_enter func3, ntmps3
   go_wp2_with (first|(go_at_call 10;refine(E.out _ q.out).mono ?_;rintro e d ⟨rfl,g1⟩;have l:=dJ (q.out.trans g1);have m:=dJ g1;obtain⟨l0,l1,l2,l3⟩:=y.out d g1;clear g1)|(go_at_call 12;refine(B.out _ l.out).mono ?_;rintro e F ⟨rfl,g2⟩;have z:=dJ (l.out.trans g2);have j:=dJ (m.out.trans g2);obtain⟨m0,m1,m2,m3⟩:=y.out F j.out;clear g2)|(go_at_call 13;refine(C.out _ z.out).mono ?_;rintro e w3 ⟨rfl,g3⟩;have A:=dJ (z.out.trans g3);have J:=dJ (j.out.trans g3);clear g3)|(go_at_call 14;refine(M.out _ A.out).mono ?_;rintro e w4 ⟨H,R,I,T,G,Q,rfl,K,g4⟩;obtain⟨Y,aa,p,O⟩:=dz w4 (.slice H f.params.length R) (.int .i64 f.ret) (.slice I f.slots.length T) (.slice G f.blocks.length Q);have V:=dJ (A.out.trans (g4.trans p.out));obtain⟨n0,n1,n2,n3⟩:=y.out Y (J.out.trans (g4.trans p.out));obtain⟨p0,p1,p2,p3⟩:=O.out Y (qj _);clear g4)|(go_at_call 15;refine(N.out _ _ _ (HF.out.gr V.out) (K.out.gr p.out)).mono ?_;rintro e w5 ⟨rfl,Z⟩;have X:=dJ (V.out.trans Z);clear Z)|(go_at_call 11;refine(L.out _ X.out).mono ?_;rintro e w6 ⟨rfl,U⟩))
   go_ret;exact⟨rfl,X.out.trans U⟩
  ·have c1:(e != 0)=true:=by simpa using h0
   clear t h0
   go_enter func3, ntmps3
   go_wp2_with (first|(go_at_call 10;refine(E.out _ q.out).mono ?_;rintro e d ⟨rfl,g1⟩;have l:=dJ (q.out.trans g1);have m:=dJ g1;obtain⟨l0,l1,l2,l3⟩:=y.out d g1;clear g1)|(go_at_call 12;refine(B.out _ l.out).mono ?_;rintro e F ⟨rfl,g2⟩;have z:=dJ (l.out.trans g2);have j:=dJ (m.out.trans g2);obtain⟨m0,m1,m2,m3⟩:=y.out F j.out;clear g2)|(go_at_call 13;refine(C.out _ z.out).mono ?_;rintro e w3 ⟨rfl,g3⟩;have A:=dJ (z.out.trans g3);clear g3)|(go_at_call 11;refine(L.out _ A.out).mono ?_;rintro e w6 ⟨rfl,U⟩))
   go_ret;exact⟨rfl,A.out.trans U⟩
theorem lawTextParses_any (s:List UInt8)(w:World)(ht:TabW w) :
  Calls prog 4 #[.string (bs s)] w (RG (.bool true) w):=by
 have HK:=eG ht;have HT:=dJ ht;have ad:((bs s).size:Int)=(s.length:Int):=by rw[dv]
 by_cases hl:s.length<=4000
 ·obtain⟨r,Y⟩:=xJ (Tx.readP s);have HP:Hid (∀d,Gr w d->Calls prog 14 #[.string (bs s)] d fun e w'=>ff d w' (r.getD Tx.fn0) (dU r) e):=fI (by omega) Y ht;have HR:Hid (∀d,Gr w d->Calls prog 16 #[.string (bs s)] d fun e w'=>ff d w' (r.getD Tx.fn0) (dU r) e):=gv (by omega) Y ht
  have p:Hid (dU r=0->∀(v:Value)(d:World),Gr w d->FnAt d.heap.size d v (r.getD Tx.fn0)->Calls prog 12 #[v] d (RG (.tuple #[.string (bs s),.int .i64 0]) d)):=dJ fun h v d g q=>by
   cases r with
   | none=>simp[dU]at h
   | some f =>
    obtain⟨h1,h2,h3⟩:=Tx.read_iff.1 Y;have:=dW v f d q (iZ Y (by omega)) h3 (ht.gr g);unfold di at this
    rwa [pB h1,h2,h1]at this
  obtain⟨f,hf⟩:=xJ (r.getD Tx.fn0);obtain⟨E,hE⟩:=xJ (dU r);rw[hf,hE]at HP HR p;have T:=gB f;have e1:=dZ (rfl:s=s);have ac:(s.length:Int)<=4000:=by omega
  clear hf hE Y ht hl;by_cases h0:E=0
  ·have R:=dJ (p.out h0);subst h0;clear p
   go_enter func4, ntmps4
   go_wp2_with (first|(go_at_call 14;refine(HP.out _ (qj _)).mono ?_;rintro e w4 ⟨z,M,B,O,u,K,rfl,m,g4⟩;obtain⟨U,aa,j,t⟩:=dz w4 (.slice z f.params.length M) (.int .i64 f.ret) (.slice B f.slots.length O) (.slice u f.blocks.length K);have D:=dJ (g4.trans j.out);clear g4)|(go_at_call 16;refine(HR.out _ D.out).mono ?_;rintro e w5 ⟨A,N,C,Q,y,L,rfl,H,V⟩;obtain⟨J,ab,l,I⟩:=dz w5 (.slice A f.params.length N) (.int .i64 f.ret) (.slice C f.slots.length Q) (.slice y f.blocks.length L);have F:Hid (Gr U J):=dJ (V.trans l.out);obtain⟨n0,n1,n2,n3⟩:=t.out J F.out;obtain⟨p0,p1,p2,p3⟩:=I.out J (qj _);clear V)|(go_at_call 15;refine(T.out _ _ _ (m.out.gr (j.out.trans F.out)) (H.out.gr l.out)).mono ?_;rintro e Z ⟨rfl,W⟩;have G:Hid (Gr U Z):=dJ (F.out.trans W);obtain⟨q0,q1,q2,q3⟩:=t.out Z G.out;clear W)|(go_at_call 12;refine(R.out _ _ (D.out.trans G.out) (m.out.gr (j.out.trans G.out))).mono ?_;rintro e w7 ⟨rfl,g7⟩;have G7:=dJ (D.out.trans (G.out.trans g7));clear g7)|(go_at_call 11;refine(HK.out _ G7.out).mono ?_;rintro e w8 ⟨rfl,X⟩))
   go_ret;exact⟨rfl,G7.out.trans X⟩
  ·have c1:(E != 0)=true:=by simpa using h0
   have c2:(E == E)=true:=by simp
   clear p h0
   go_enter func4, ntmps4
   go_wp2_with (first|(go_at_call 14;refine(HP.out _ (qj _)).mono ?_;rintro e w4 ⟨z,M,B,O,u,K,rfl,m,g4⟩;obtain⟨U,aa,j,t⟩:=dz w4 (.slice z f.params.length M) (.int .i64 f.ret) (.slice B f.slots.length O) (.slice u f.blocks.length K);have D:=dJ (g4.trans j.out);clear g4)|(go_at_call 16;refine(HR.out _ D.out).mono ?_;rintro e w5 ⟨A,N,C,Q,y,L,rfl,H,V⟩;obtain⟨J,ab,l,I⟩:=dz w5 (.slice A f.params.length N) (.int .i64 f.ret) (.slice C f.slots.length Q) (.slice y f.blocks.length L);have F:Hid (Gr U J):=dJ (V.trans l.out);obtain⟨n0,n1,n2,n3⟩:=t.out J F.out;obtain⟨p0,p1,p2,p3⟩:=I.out J (qj _);clear V)|(go_at_call 15;refine(T.out _ _ _ (m.out.gr (j.out.trans F.out)) (H.out.gr l.out)).mono ?_;rintro e Z ⟨rfl,W⟩;have G:Hid (Gr U Z):=dJ (F.out.trans W);clear W)|(go_at_call 11;refine(HK.out _ (D.out.trans G.out)).mono ?_;rintro e w8 ⟨rfl,X⟩))
   go_ret;exact⟨rfl,(D.out.trans G.out).trans X⟩
 ·have ac:(4000:Int)<(s.length:Int):=by omega
  clear ht hl
  go_enter func4, ntmps4
  go_wp2_with (go_at_call 11;refine(HK.out _ (qj _)).mono ?_;rintro e w8 ⟨rfl,X⟩);go_ret;exact⟨rfl,X⟩
end
