import Derived.Test.YtjkajidbdmbbaaaGreatN31
import Derived.Deep.CutRange
import Derived.Deep.CutBlock
set_option linter.unusedSimpArgs false
set_option linter.unusedVariables false
set_option maxRecDepth 100000
set_option maxHeartbeats 16000000
open Go.Proofs.Tryz
namespace Go.Proofs.YtjkajidbdmbbaaaGreat
open Ref Rn Wd Ir Rf
section
open Go.RowKit
section
variable {c:Cfg}{w:World}{s:AN}{b frm:Int}{vt:Value}
theorem nh (x:Ins)(va vt' vl:Value)(o:x.op=0)(p:Value):Calls prog 173 #[p,dj x va vt',vl] w (RG (vI (Ae x.i)) w):=by
 unfold dj;rw[o]
 go_enter func173, ntmps173
 go_wp2;go_ret;exact⟨rfl,(yO w).alloc _⟩
theorem pv (x:Ins)(va vt' vl:Value)(o:x.op=24)(p:Value)(h0:0<=x.i)(h1:x.i<=1000000):Calls prog 173 #[p,dj x va vt',vl] w (RG (vI ⟨false,x.i+1,0⟩) w):=by
 unfold dj;rw[o]
 go_enter func173, ntmps173
 go_wp2;go_ret;exact⟨rfl,(yO w).alloc _⟩
theorem rQ (h:PS c w s b frm vt)(hf:VFn c.f)(x:Ins)(va vt':Value)(hx:IntsAt c.n₀ w va x.args)(vl:Value)(l0 l1:Rn.V)(hl:LAt w vl [l0,l1])(o:x.op=25)(a d:Int)(ha:x.args=[a,d])(hfl:x.g=0\/x.g=8)(hk:zi (Ref.kind c.f d))(h0:Fp c.f 33 l0)(hp:l0.p=false)(h1:yX (Ref.kind c.f d) l1.n) :
  Calls prog 173 #[.pointer (some ⟨c.Bs,0,none⟩),dj x va vt',vl] w (RG (vI (GQ c.f.s x.g (Ref.kind c.f d) l0 l1)) w):=by
 obtain⟨W,F⟩:=xJ (dW w x va vt');have m:Gr w W:=by rw[<-F];exact(yO w).alloc _
 have g0:Gr (dW w x va vt') W:=by rw[F];exact yO _
 have L:=EX (f:=c.f) (v:=d) (by have:=hk.1;omega);have CK:=dJ fun(u:GrW W)=>ff (h.gr (m.trans u.gr)) hf d L.1 L.2;obtain⟨k,N⟩:=xJ (Ref.kind c.f d);rw[N]at CK hk h1 ⊢;have Y:=dJ fun(l:World)=>mt k l1.n l hk h1;have sr:=Eo hk h1;have sb:=Ops.sg_bd hk h1;obtain⟨B,hB⟩:=xJ (zU k l1.n);rw[hB]at Y sr sb;obtain⟨p1,p2,p3,p4⟩:=h0.ptr hp;obtain⟨n,O⟩:∃n,c.f.s[(l0.s-1).toNat]?=some n:=⟨_,xR (by omega)⟩
 have ac:1<=n/\n<=8:=by have:=ym.1 hf.val.head.2 n (xT O);unfold BH at this;simp at this;omega
 obtain⟨Z,S⟩:=xJ ((l0.n+B)%4294967296)
 have HR:Hid (GQ c.f.s x.g k l0 l1=if x.g=8/\n<Z then zX else ⟨false,l0.s,Z⟩):=by show _=_;unfold GQ;rw[hB,S,xU,O];rfl
 have ab:=h.fn;obtain⟨an,ao,am,e,-,hs,-⟩:=ab;injection e with e;injection e with e;injection e with e1 e;injection e with _ e;injection e with e3 e;have cs:w.cell? ⟨c.Bs,2,none⟩=some c.vs:=h.cell 2;rw[e3]at cs;obtain⟨As,J,rfl,s1,s2,s3⟩:=hs;obtain⟨H,T,rfl,ai,s4⟩:=s3 (by omega);have y:H<w.heap.size:=by have:=h.n₀;omega
 obtain⟨j,hj⟩:=xZ (show 0<=l0.s-1 by omega);have M:(l0.s-1).toNat=j:=by omega
 rw[M]at O;have cn:=s4 j n O;have ak:j<c.f.s.length:=by omega
 have ag:(j:Int)<c.f.s.length:=by omega
 have K:=cY h.st;obtain⟨R,rfl,r⟩:=hl;obtain⟨Aa,ca,rfl,a1,a2,a3⟩:=hx;rw[ha]at a1 a3;obtain⟨ba,oa,rfl,aj,a4⟩:=a3 (by simp);have z:ba<w.heap.size:=by have:=h.n₀;omega
 have c1:=a4 1 d rfl;have X:=fun(u:GrW W)=>dl (g0.trans u.gr);have V0:∀u:GrW W,u.val.cell? ⟨w.heap.size,0,none⟩=some (.int .i64 25):=fun u=>by rw[<-o];exact(X u).1
 have aa:W.cell? ⟨w.heap.size,0,none⟩=some (.int .i64 25):=V0 ⟨W,yO _⟩;have V3:∀u:GrW W,u.val.cell? ⟨w.heap.size,3,none⟩=some (.slice (some ⟨ba,oa,none⟩) 2 ca):=fun u=>by have:=(X u).2.2.2.1;rw[ha]at this;exact this
 have A1:∀u:GrW W,u.val.cell? ⟨ba,oa+1,none⟩=some (.int .i64 d):=fun u=>((m.trans u.gr).cell _ _ z).trans c1;have L1:∀u:GrW W,u.val.cell? ⟨R,5,none⟩=some (.int .u32 l1.n):=fun u=>(LAt.cells (((m.trans u.gr).heap _ (cY r)).trans r) (k:=1) rfl).2.2
 have A:Hid (∀l,Gr W l->(l.cell? ⟨R,1,none⟩=some (.int .i64 l0.s)/\l.cell? ⟨R,2,none⟩=some (.int .u32 l0.n))/\l.cell? ⟨w.heap.size,2,none⟩=some (.int .i64 x.g)/\l.cell? ⟨c.Bs,2,none⟩=some (.slice (some ⟨H,T,none⟩) c.f.s.length J)/\l.cell? ⟨H,T+j,none⟩=some (.int .i64 n)/\(R<l.heap.size/\w.heap.size<l.heap.size/\c.Bs<l.heap.size/\H<l.heap.size)):=fun l g=>by
  have q:=LAt.cells (((m.trans g).heap _ (cY r)).trans r) (k:=0) rfl;have al:=g.size;have ah:w.heap.size<W.heap.size:=by rw[<-F];unfold dW;simp
  have:=cY r;exact⟨⟨q.2.1,q.2.2⟩,(dl (g0.trans g)).2.2.1,((m.trans g).cell _ _ K).trans cs,((m.trans g).cell _ _ y).trans cn,by omega,by omega,by omega,by omega⟩
 have HG:=dJ m;have HZ:=dJ S;unfold dW at F;rw[ha,show [a,d].length=2 from rfl]at F ⊢;unfold dj;rw[o]at F ⊢;obtain⟨n1,n2⟩:=ac;obtain⟨z0,z1⟩:0<=Z/\Z<4294967296:=by rw[<-S];exact⟨Int.emod_nonneg _ (by decide),Int.emod_lt_of_pos _ (by decide)⟩
 clear h hf N hk h0 hp h1 a3 a4 c1 r X g0 m hB sr s3 s4 cn cs e1 e e3 O M K y z;have e2:(l0.n+B%4294967296)%4294967296=Z:=by rw[<-S];omega
 have E3:Hid (IntKind.u32.wrap (l0.n+IntKind.u32.wrap B)=Z):=by show _=_;rw[fu,fu];exact e2
 clear e2;have WS:Hid (IntKind.i64.wrap (l0.s-1)=(j:Int)):=by show _=_;rw[IntWalk.i64_in _ (by omega)];exact hj
 have WN:Hid (IntKind.u32.wrap n=n):=by show _=_;rw[fu];omega
 go_enter func173, ntmps173
 go_wp2;refine dc (by kernel_rfl) (by kernel_rfl) ?_;repeat (go_big_quiet_step ((rename_i u;first|(go_at_call 170;exact dk u (CK.out u))|(go_at_call 196;exact dk u (Y.out u.val)))))
 refine wpQuiet_nil ?_;intro w9 ae;obtain⟨G,rfl⟩:=ae;obtain⟨⟨k0,k1⟩,k2,k3,k4,r1,r2,r3,r4⟩:=A.out G.val G.gr;have t:=dJ (HG.out.trans G.gr)
 have D:Hid (∀l,Gr G.val l->l.cell? ⟨w.heap.size,2,none⟩=some (.int .i64 x.g)/\l.cell? ⟨c.Bs,2,none⟩=some (.slice (some ⟨H,T,none⟩) c.f.s.length J)/\l.cell? ⟨H,T+j,none⟩=some (.int .i64 n)):=fun l g=>by obtain⟨-,Q,q3,q4,-⟩:=A.out l (G.gr.trans g);exact⟨Q,q3,q4⟩
 obtain⟨V,hV⟩:=xJ G.val;rw[hV]at k0 k1 k2 k3 k4 r1 r2 r3 r4 t D ⊢;clear V0 aa V3 A1 L1 A CK Y hV G F;go_wp2
 go_upto_region 20 with (fail)
 go_cut [12] (fun af U=>∃C:Nat,af=.pointer (some ⟨C,0,none⟩)/\Hid (Gr V U/\U.cell? ⟨C,0,none⟩=some (.bool false)/\U.cell? ⟨C,1,none⟩=some (.int .i64 l0.s)/\U.cell? ⟨C,2,none⟩=some (.int .u32 Z)))
 case first =>
  go_region_with (fail)
  all_goals go_wp2
  all_goals go_meet
  all_goals exact⟨_,rfl,⟨by repeat (first|with_reducible exact yO _|with_reducible refine Gr.drew ?_|with_reducible refine Gr.alloc ?_ _|with_reducible refine Gr.setCell ?_ (yJ _) _),by simp,by simp,by simp;exact E3.out⟩⟩
 case rest =>
  obtain⟨C,rfl,hC⟩:=hcut;obtain⟨gV,m0,m1,m2⟩:=hC.out;obtain⟨Q,q3,q4⟩:=D.out _ gV;have E:=dJ gV;have ws:=WS.out;have wn:=WN.out;have d0:(bits .and .i64 0 8 != 0)=false:=by decide
  have d8:(bits .and .i64 8 8 != 0)=true:=by decide
  clear gV k2 k3 k4 k0 k1 D r1 r2 r3 r4;rcases hfl with hfl|hfl
  ·have I:Hid (GQ c.f.s x.g k l0 l1=⟨false,l0.s,Z⟩):=by show _=_;rw[HR.out,yt (by omega)]
   rw[hfl]at Q;clear hfl;go_wp2;go_quiet ((fail));all_goals go_wp2
   all_goals go_ret
   all_goals exact⟨by rw[I.out];rfl,(t.out.trans E.out).drewN _⟩
  ·by_cases ad:n<Z
   ·have I:Hid (GQ c.f.s x.g k l0 l1=zX):=by show _=_;rw[HR.out,yr ⟨hfl,ad⟩]
    rw[hfl]at Q;clear hfl;go_wp2;go_quiet ((fail));all_goals go_wp2_with (go_at_call 171;refine(du _).mono ?_;rintro e w8 ⟨rfl,g8⟩)
    all_goals go_ret
    all_goals exact⟨by rw[I.out];rfl,((t.out.trans E.out).drewN _).trans g8⟩
   ·have I:Hid (GQ c.f.s x.g k l0 l1=⟨false,l0.s,Z⟩):=by show _=_;rw[HR.out,yt (by omega)]
    rw[hfl]at Q;clear hfl;go_wp2;go_quiet ((fail));all_goals go_wp2
    all_goals go_ret
    all_goals exact⟨by rw[I.out];rfl,(t.out.trans E.out).drewN _⟩
end
end
