/- Parts: Ob Ed. -/
import Derived.Test.YthfhamagopbgcaaGreatH33
import Derived.Test.YthfhamagopbgcaaGreatH32
set_option linter.unusedSimpArgs false
set_option linter.unusedVariables false
set_option maxRecDepth 100000
set_option maxHeartbeats 16000000
open Go.Proofs.Tryz
namespace Go.Proofs.YthfhamagopbgcaaGreat
open Go.RowKit
def fd:List Int->Int
 | []=>0
 | x::r=>if x=0 then fd r else x
namespace Rn
def five (a b:Out):List Int:=[sgn a.kind b.kind,sgn (bit a.ret.p) (bit b.ret.p),sgn a.ret.s b.ret.s,sgn a.ret.n b.ret.n,cmpMem a.mem b.mem]
theorem five_cmp (a b:Out):fd (five a b)=cmpOut a b:=by
 unfold five cmpOut heads;simp only[fd,cmpInts]
 repeat' split
 all_goals first
  | rfl
  | contradiction
  | omega
end Rn
theorem tW {B:Nat}{w:World}{v:Value}{zs:List Int}(hv:IntsAt B w v zs) :
  Calls prog 87 #[v] w fun e w'=>e=.returned (.int .i64 (fd zs))/\w'=w:=by
 obtain⟨A,ca,rfl,y,z,a3⟩:=hv;obtain⟨R,m⟩:=xJ (fd zs);have t:=dJ m;rw[m];clear m
 go_enter func87, ntmps87
 go_wp2
 go_loop [8] (fun p=>∃k:Nat,k<=zs.length/\p=.int .i64 (k:Int)/\Hid (fd (zs.drop k)=R)) (fun p=>zs.length-(intOf p).toNat)
 case atStart=>exact⟨0,vU _,rfl,t⟩
 case round =>
  obtain⟨k,E,rfl,g⟩:=hrel;by_cases d:k<zs.length
  ·obtain⟨x,j⟩:∃x,zs[k]?=some x:=⟨_,vu d⟩;obtain⟨C,F,rfl,-,a4⟩:=a3 (by omega);have D:=a4 k x j
   have q:Hid ((if x=0 then fd (zs.drop (k+1)) else x)=R):=by
    show _=_;have u:zs.drop k=x::zs.drop (k+1):=by rw[vM d];congr 1;rw[vu d] at j;injection j
    have:=g.out;rw[u,fd] at this;exact this
   clear j a3 a4 g;by_cases r:x=0
   ·subst r;go_wp2;go_round;case rel=>exact⟨k+1,by omega,by go_num,by (show _=_);have:=q.out;simpa using this⟩
    case measure=>simp[intOf];omega
   ·have l:Hid (R=x):=by show _=_;have:=q.out;rw[wb r] at this;exact this.symm
    go_wp2;go_ret;exact⟨de l.out.symm,rfl⟩
  ·obtain rfl:k=zs.length:=by omega
   have l:Hid (R=0):=by
    show _=_;have:=g.out;rw[vQ (vV zs.length),fd] at this;exact this.symm
   clear a3 g;go_wp2;go_ret;exact⟨de l.out.symm,rfl⟩
theorem qe (a b:Bool)(w:World):Calls prog 89 #[.bool a,.bool b] w fun e w'=>e=.returned (.int .i64 (Rn.sgn (Rn.bit a) (Rn.bit b)))/\w'=w:=by
 cases a <;> cases b
 all_goals
  go_enter func89, ntmps89
  go_wp2;go_ret;exact⟨de (by decide),rfl⟩
def gS (o:Rn.Out)(vm:Value):Value:=.agg #[.int .i64 o.kind,.bool o.ret.p,.int .i64 o.ret.s,.int .u32 o.ret.n,vm]
def ml (w:World)(o:Rn.Out)(vm:Value):World:=w.alloc (.cells #[.int .i64 o.kind,.bool o.ret.p,.int .i64 o.ret.s,.int .u32 o.ret.n,vm] 39)
theorem ed {w:World}{o:Rn.Out}{vm:Value}{w':World}(g:Gr (ml w o vm) w') :
  w'.cell? ⟨w.heap.size,0,none⟩=some (.int .i64 o.kind)/\w'.cell? ⟨w.heap.size,1,none⟩=some (.bool o.ret.p)/\w'.cell? ⟨w.heap.size,2,none⟩=some (.int .i64 o.ret.s)/\w'.cell? ⟨w.heap.size,3,none⟩=some (.int .u32 o.ret.n)/\w'.cell? ⟨w.heap.size,4,none⟩=some vm :=
 ⟨nx _ _ 0 g rfl,nx _ _ 1 g rfl,nx _ _ 2 g rfl,nx _ _ 3 g rfl,nx _ _ 4 g rfl⟩
theorem el {P:Program}{f:FuncId}{args:Array Value}{w:World}{v:Value}(h:Calls P f args w fun e w'=>e=.returned v/\w'=w):Calls P f args w fun e w'=>e=.returned v/\Gr w w' :=
 h.mono fun _ _ q=>⟨q.1,by rw[q.2];exact wL _⟩
theorem uk {w:World}{d1 d2 d3 d4 d5:Int}{t:TypeId}:IntsAt (w.alloc (.cells #[.int .i64 d1,.int .i64 d2,.int .i64 d3,.int .i64 d4,.int .i64 d5] t)).heap.size (w.alloc (.cells #[.int .i64 d1,.int .i64 d2,.int .i64 d3,.int .i64 d4,.int .i64 d5] t)) (.slice (some ⟨w.heap.size,0,none⟩) 5 5) [d1,d2,d3,d4,d5]:=by
 refine⟨_,_,rfl,vV 5,by show 5<=17592186044416;decide,fun _=>⟨w.heap.size,0,rfl,by simp,fun j z hz=>?_⟩⟩;rw[vX _ _ _ _ _ _ (heap_alloc_new w _)]
 match j,hz with
 | 0,hz=>simp at hz;subst hz;rfl
 | 1,hz=>simp at hz;subst hz;rfl
 | 2,hz=>simp at hz;subst hz;rfl
 | 3,hz=>simp at hz;subst hz;rfl
 | 4,hz=>simp at hz;subst hz;rfl
theorem fQ {B:Nat}{w:World}{a b:Rn.Out}{va vb:Value}(ha:TabAt B w va a.mem)(hb:TabAt B w vb b.mem)(hB:B<=w.heap.size) :
  Calls prog 50 #[gS a va,gS b vb] w fun e w'=>e=.returned (.int .i64 (Rn.cmpOut a b))/\Gr w w':=by
 obtain⟨g,d⟩:=xJ (ml w a va);obtain⟨W,y⟩:=xJ (ml g b vb);have r:Gr w g:=by rw[<-d];exact(wL w).alloc _
 have q:Gr g W:=by rw[<-y];exact(wL g).alloc _
 have U:g.heap.size=w.heap.size+1:=by rw[<-d];unfold ml;simp
 have j:=fun(u:GrW W)=>ed (w:=w) (o:=a) (vm:=va) (w':=u.val) (by rw[d];exact q.trans u.gr);have l:=fun(u:GrW W)=>ed (w:=g) (o:=b) (vm:=vb) (w':=u.val) (by rw[y];exact u.gr);have A:=fun u=>(j u).1;have C:=fun u=>(j u).2.1;have D:=fun u=>(j u).2.2.1;have E:=fun u=>(j u).2.2.2.1;have F:=fun u=>(j u).2.2.2.2;have B0:=fun u=>(l u).1;have G:=fun u=>(l u).2.1;have H:=fun u=>(l u).2.2.1;have I:=fun u=>(l u).2.2.2.1;have J:=fun u=>(l u).2.2.2.2;have K:=dJ fun(u:GrW W)=>el (jH a.kind b.kind u.val);have L:=dJ fun(u:GrW W)=>el (qe a.ret.p b.ret.p u.val);have M:=dJ fun(u:GrW W)=>el (jH a.ret.s b.ret.s u.val);have N:=dJ fun(u:GrW W)=>el (ro a.ret.n b.ret.n u.val);have O:=dJ fun(u:GrW W)=>el (ny (w:=u.val) (ha.below (Below.mono ((r.trans q).trans u.gr) hB)) (hb.below (Below.mono ((r.trans q).trans u.gr) hB)))
 have T:Hid (∀m:World,Calls prog 87 #[.slice (some ⟨m.heap.size,0,none⟩) 5 5] (m.alloc (.cells #[.int .i64 (Rn.sgn a.kind b.kind),.int .i64 (Rn.sgn (Rn.bit a.ret.p) (Rn.bit b.ret.p)),.int .i64 (Rn.sgn a.ret.s b.ret.s),.int .i64 (Rn.sgn a.ret.n b.ret.n),.int .i64 (Rn.cmpMem a.mem b.mem)] 3)) fun e w'=>e=.returned (.int .i64 (Rn.cmpOut a b))/\w'=(m.alloc (.cells #[.int .i64 (Rn.sgn a.kind b.kind),.int .i64 (Rn.sgn (Rn.bit a.ret.p) (Rn.bit b.ret.p)),.int .i64 (Rn.sgn a.ret.s b.ret.s),.int .i64 (Rn.sgn a.ret.n b.ret.n),.int .i64 (Rn.cmpMem a.mem b.mem)] 3))):=fun m=>by
  have:=tW (uk (w:=m) (d1:=Rn.sgn a.kind b.kind) (d2:=Rn.sgn (Rn.bit a.ret.p) (Rn.bit b.ret.p)) (d3:=Rn.sgn a.ret.s b.ret.s) (d4:=Rn.sgn a.ret.n b.ret.n) (d5:=Rn.cmpMem a.mem b.mem) (t:=3))
  rwa [show [Rn.sgn a.kind b.kind,Rn.sgn (Rn.bit a.ret.p) (Rn.bit b.ret.p),Rn.sgn a.ret.s b.ret.s,Rn.sgn a.ret.n b.ret.n,Rn.cmpMem a.mem b.mem]=Rn.five a b from rfl,Rn.five_cmp] at this
 have S:=dJ (r.trans q);obtain⟨Y,ca,rfl,-,-,-⟩:=ha;obtain⟨Z,cb,rfl,-,-,-⟩:=hb;generalize Rn.sgn a.kind b.kind=d1 at *;generalize Rn.sgn (Rn.bit a.ret.p) (Rn.bit b.ret.p)=d2 at *;generalize Rn.sgn a.ret.s b.ret.s=d3 at *;generalize Rn.sgn a.ret.n b.ret.n=d4 at *;generalize Rn.cmpMem a.mem b.mem=d5 at *;generalize Rn.cmpOut a b=R at *;clear j l U r q;unfold ml at d y;unfold gS
 go_enter func50, ntmps50
 go_wp2;refine dD 31 (by kernel_rfl) (by kernel_rfl) ?_;simp only[wt,List.take_zero,wz,List.drop_zero]
 repeat (go_big_quiet_step (first|(rename_i u;go_at_call 88;with_reducible exact di u (K.out u))|(rename_i u;go_at_call 88;with_reducible exact di u (M.out u))|(rename_i u;go_at_call 89;exact di u (L.out u))|(rename_i u;go_at_call 90;exact di u (N.out u))|(rename_i u;go_at_call 91;exact di u (O.out u))))
 refine wpQuiet_nil ?_;intro m z;obtain⟨X,rfl⟩:=z;have Q:=dJ X.gr;clear A C D E F B0 G H I J;go_wp2_with (go_at_call 87;refine(T.out _).mono ?_;rintro e w8 ⟨rfl,rfl⟩);go_ret;exact⟨rfl,(S.out.trans Q.out).alloc _⟩
theorem DS.slot {c:Cfg}{pk bl:List Int}{w:World}{s:Rn.St}{o:Rn.Out}{om wv bv:Value}(h:DS c pk w s bl o om wv bv)(hf:VFn c.f)(hi:Rn.Inv c.f s){p:Rn.V}(h1:1<=p.s)(h2:p.s<=c.f.slots.length) :
  ∃(j bj cp:Nat) (l:List Int),p.s-1=(j:Int)/\(p.s-1).toNat=j/\c.us[j]?=some (bj,cp)/\s.mem[j]?=some l/\s.mem.getD (p.s-1).toNat []=l/\l.length<=cp/\cp<=9223372036854775807/\j<c.us.length/\c.us.length<=c.cm/\c.cm<=9223372036854775807 /\
   c.Am=some ⟨c.Bm,0,none⟩/\w.cell? ⟨c.Bm,j,none⟩=some (.slice (some ⟨bj,0,none⟩) l.length cp)/\l.length<=8 /\
   RowIs bj l w:=by
 have A:=hi.mem;have hlen:s.mem.length=c.f.slots.length:=by rw[<-A];simp
 have B:s.mem.length=c.us.length:=h.mem.1;obtain⟨j,z⟩:=xJ ((p.s-1).toNat);have d:j<c.us.length:=by omega
 obtain⟨⟨bj,cp⟩,t⟩:∃u,c.us[j]?=some u:=⟨_,vu d⟩;obtain⟨l,hl⟩:∃l,s.mem[j]?=some l:=⟨_,vu (by omega)⟩;obtain⟨n,r⟩:∃n,c.f.slots[j]?=some n:=⟨_,vu (by omega)⟩
 have m:(l.length:Int)=n:=by
  have:=congrArg (fun q=>q[j]?) A;simp only[vH,hl,r,Option.map_some] at this;injection this
 obtain⟨C,D,g,E,F⟩:=h.mem.2 j bj cp l t hl;obtain⟨G,H,I⟩:=h.slots;obtain⟨J,y,K,L⟩:=I (by omega);refine⟨j,bj,cp,l,by omega,z,t,hl,by rw[z,vA,hl];rfl,C,D,d,G,H,J,?_,?_,g,E,F⟩
 ·rw[vX _ _ j _ _ _ K,L j bj cp n t r,<-m];rfl
 ·have:=vT.1 hf.val.head.2 n (vz r);unfold Ref.isSlot at this;simp at this;omega
theorem il (n p k:Int)(w:World)(hp:0<=p/\p<4294967296)(hk:0<=k/\k<=1000):Calls prog 172 #[.int .i64 n,.int .u32 p,.int .i64 k] w fun e w'=>e=.returned (.bool (decide (p+k<=n)))/\w'=w:=by
 obtain⟨j,l⟩:=hp;obtain⟨d,g⟩:=hk
 go_enter func172, ntmps172
 go_wp2;go_ret;exact⟨rfl,rfl⟩
theorem dQ (w:World):Calls prog 152 #[] w fun e w'=>e=.returned (.agg #[.bool true,.int .i64 0,.int .u32 0])/\Gr w w':=by
 go_enter func152, ntmps152
 go_wp2;exact vZ (v:=.agg #[.bool true,.int .i64 0,.int .u32 0]) (by simp[results,results152,go_sem]) rfl ⟨rfl,by repeat (first|with_reducible exact wL _|with_reducible refine Gr.alloc ?_ _|with_reducible refine Gr.setCell ?_ (vV _) _)⟩
def dC:Option Rn.V->Value
 | none=>.tuple #[.agg #[.bool false,.int .i64 0,.int .u32 0],.bool false]
 | some v=>.tuple #[vv v,.bool true]
theorem pv {c:Cfg}{pk bl:List Int}{w:World}{s:Rn.St}{o:Rn.Out}{om wv bv:Value}(h:DS c pk w s bl o om wv bv)(hf:VFn c.f)(hi:Rn.Inv c.f s)(x:Ins)(va vt:Value)(p:Rn.V)(hp:Rn.VOK c.f 33 p)(n:Nat)(hn1:1<=n)(hn:n<=4)(hx:x.width=8*(n:Int)) :
  Calls prog 154 #[.pointer (some ⟨c.Bs,0,none⟩),df x va vt,vv p] w fun e w'=>e=.returned (dC (Rn.load s.mem p n))/\Gr w w':=by
 obtain⟨W0,A⟩:=xJ (dY w x va vt);obtain⟨W1,D⟩:=xJ (W0.alloc (.cells #[.bool p.p,.int .i64 p.s,.int .u32 p.n] 37));obtain⟨W,hW⟩:=xJ (fF W1);have g0:Gr w W0:=by rw[<-A];exact(wL w).alloc _
 have g1:Gr W0 W1:=by rw[<-D];exact(wL W0).alloc _
 have g2:Gr W1 W:=by rw[<-hW];exact(wL W1).alloc _
 have s0:W0.heap.size=w.heap.size+1:=by rw[<-A];unfold dY;simp
 have s1:W1.heap.size=w.heap.size+2:=by rw[<-D];simp[s0]
 have s2:W.heap.size=w.heap.size+3:=by rw[<-hW];unfold fF;simp[s1]
 have gW:Gr w W:=(g0.trans g1).trans g2;have O:W1.heap[w.heap.size+1]?=some (.cells #[.bool p.p,.int .i64 p.s,.int .u32 p.n] 37 (0,0)):=by rw[<-D,<-s0];exact heap_alloc_new _ _
 have T:W.heap[w.heap.size+2]?=some (.cells #[.bool false,.int .i64 0,.int .u32 0] 37 (0,0)):=by rw[<-hW,<-s1];exact heap_alloc_new _ _
 have ao:Hid (∀w',Gr W w'->w'.heap[w.heap.size+1+1]?=some (.cells #[.bool false,.int .i64 0,.int .u32 0] 37 (0,0))):=fun w' g=>(g.heap _ (cY T)).trans T;have M:=fun(u:GrW W)=>(dk (w:=w) (x:=x) (va:=va) (vt:=vt) (w':=u.val) (by rw[A];exact(g1.trans g2).trans u.gr)).2.1;have Z:∀u:GrW W,u.val.cell? ⟨w.heap.size+1,0,none⟩=some (.bool p.p):=fun u=>vX _ _ 0 _ _ _ (((g2.trans u.gr).heap _ (by omega)).trans O);have aa:∀u:GrW W,u.val.cell? ⟨w.heap.size+1,1,none⟩=some (.int .i64 p.s):=fun u=>vX _ _ 1 _ _ _ (((g2.trans u.gr).heap _ (by omega)).trans O);have ab:∀u:GrW W,u.val.cell? ⟨w.heap.size+1,2,none⟩=some (.int .u32 p.n):=fun u=>vX _ _ 2 _ _ _ (((g2.trans u.gr).heap _ (by omega)).trans O);have a2:=dJ gW
 have I:∀(Y:World) (v:Rn.V),Gr W Y->Gr w (dw Y (w.heap.size+1+1) v)/\((dw Y (w.heap.size+1+1) v).cell? ⟨w.heap.size+1+1,0,none⟩=some (.bool v.p)/\(dw Y (w.heap.size+1+1) v).cell? ⟨w.heap.size+1+1,1,none⟩=some (.int .i64 v.s)/\(dw Y (w.heap.size+1+1) v).cell? ⟨w.heap.size+1+1,2,none⟩=some (.int .u32 v.n)):=fun Y v g =>
  ⟨gr_frs' (gW.trans g) (ei _ _ v) (fun k hk=>by omega),eo (ao.out Y g) v⟩
 have G:=dJ I
 have ac:Hid (∀w',Gr W w'->(w'.cell? ⟨w.heap.size+1+1,0,none⟩=some (.bool false)/\w'.cell? ⟨w.heap.size+1+1,1,none⟩=some (.int .i64 0)/\w'.cell? ⟨w.heap.size+1+1,2,none⟩=some (.int .u32 0))/\w'.frozen? ⟨w.heap.size+1+1,0,none⟩=false/\w'.frozen? ⟨w.heap.size+1+1,1,none⟩=false/\w'.frozen? ⟨w.heap.size+1+1,2,none⟩=false):=fun w' g=>by
  have r:=ao.out w' g;exact⟨⟨vX _ _ 0 _ _ _ r,vX _ _ 1 _ _ _ r,vX _ _ 2 _ _ _ r⟩,vY _ _ 0 _ _ r,vY _ _ 1 _ _ r,vY _ _ 2 _ _ r⟩
 cases hpp:p.p with
 | true =>
  have HE:Hid (Rn.load s.mem p n=none):=by show _=_;unfold Rn.load Rn.bytesAt;rw[wa (.inl hpp)];rfl
  rw[hpp] at Z;unfold vv df;rw[hpp,HE.out];rw[hpp] at D;clear h hi hp g0 g1 g2 gW O T s0 s1 s2 hpp I hx;subst D;subst A;unfold fF dY at hW
  go_enter func154, ntmps154
  go_wp2;refine dc (by kernel_rfl) (by kernel_rfl) ?_;repeat (go_big_quiet_step (fail))
  refine wpQuiet_nil ?_;intro Y F;obtain⟨L,rfl⟩:=F;obtain⟨⟨r0,r1,r2⟩,f0,f1,f2⟩:=ac.out L.val L.gr;obtain⟨G9,B,C,t⟩:=G.out L.val Rn.zero L.gr;clear M Z aa ab;obtain⟨W9,d⟩:=xJ (dw L.val (w.heap.size+1+1) Rn.zero);rw[d] at G9 B C t;unfold dw at d;dsimp only[Rn.zero] at d B C t;go_wp2;refine vZ (v:=dC none) (by simp[results,results154,go_sem,B,C,t];rfl) rfl ?_;exact⟨rfl,G9⟩
 | false =>
  obtain⟨p1,p2,p3,p4⟩:=hp.ptr hpp;obtain⟨j,bj,cp,l,hj,av,az,aw,hl,aT,aQ,aR,aW,aP,hA,E,aS,J⟩:=h.slot hf hi p1 p2
  have aq:c.Bm<w.heap.size:=by
   obtain⟨-,-,q⟩:=h.slots;obtain⟨-,aN,t,-⟩:=q (by omega);exact cY t
  have a1:bj<w.heap.size:=by obtain⟨aN,q,-⟩:=J;exact cY q
  have U4:∀u:GrW W,u.val.cell? ⟨c.Bs,4,none⟩=some (.slice (some ⟨c.Bm,0,none⟩) c.us.length c.cm):=fun u=>by
   have:u.val.cell? ⟨c.Bs,4,none⟩=some c.mv:=(h.gr (gW.trans u.gr)).cell 4;rw[this];unfold Cfg.mv;rw[hA]
  have UM:∀u:GrW W,u.val.cell? ⟨c.Bm,j,none⟩=some (.slice (some ⟨bj,0,none⟩) l.length cp):=fun u=>((gW.trans u.gr).cell _ _ aq).trans E;obtain⟨pp,S,PN⟩:=p;dsimp only at *;subst hpp;obtain rfl:S=(j:Int)+1:=by omega
  have CI:=dJ fun(u:GrW W)=>el (il (l.length:Int) PN (n:Int) u.val ⟨p3,p4⟩ ⟨by omega,by omega⟩);have aB:x.width.tdiv 8=(n:Int):=by rw[Int.tdiv_eq_ediv_of_nonneg (by omega)];omega
  have af:x.width / 8=(n:Int):=by omega
  have aA:0<=x.width:=by omega
  have ae:x.width<=32:=by omega
  obtain⟨wd,U⟩:=xJ x.width;unfold dY at A;rw[U] at aB af aA ae M A;by_cases aj:PN+(n:Int)<=(l.length:Int)
  ·obtain⟨N,rfl⟩:=vF p3;have au:N+n<=l.length:=by omega
   obtain⟨H,ai⟩:=xJ ((l.drop N).take n)
   have ah:Rn.bytesAt s.mem ⟨false,(j:Int)+1,(N:Int)⟩ n=some H:=by
    unfold Rn.bytesAt;dsimp only at hl ⊢;rw[hl,wb (by simp;omega),vG,ai]
   obtain⟨bl,br⟩:=Rn.bytesAt_range hi.bytes ah
   have HR:Hid (Rn.load s.mem ⟨false,(j:Int)+1,(N:Int)⟩ n=if H.any (fun b=>decide (b<0))=true then some Rn.poison else some (Rn.word (Rn.numB H))):=by
    show _=_;unfold Rn.load;rw[ah];simp only[Option.map_some];split <;> rfl
   have aE:Hid (∀k z,H[k]?=some z->∀u:GrW W,u.val.cell? ⟨bj,N+k,none⟩=some (.int .i64 z)):=fun k z K u=>by
    have hr:=J.gr (gW.trans u.gr);refine hr.cell ?_;rw[<-ai,vL] at K;split at K
    ·rwa [List.getElem?_drop] at K
    ·cases K
   have aD:=dJ br;obtain⟨R,hR⟩:=xJ (dC (Rn.load s.mem ⟨false,(j:Int)+1,(N:Int)⟩ n))
   have ap:Hid (R=if H.any (fun b=>decide (b<0))=true then dC (some Rn.poison) else dC (some (Rn.word (Rn.numB H)))):=by
    show _=_;rw[<-hR,HR.out];split <;> rfl
   unfold vv df;dsimp only;rw[hR,U];have hd:decide ((N:Int)+(n:Int)<=(l.length:Int))=true:=by simpa using aj
   rw[hd] at CI;clear h hi hp g0 g1 g2 gW O T s0 s1 s2 I ai ah hl az aw J E hA hR U hf hx br hd hj av p1 p2;subst D;subst A;unfold fF at hW
   go_enter func154, ntmps154
   go_wp2;refine dc (by kernel_rfl) (by kernel_rfl) ?_;repeat (go_big_quiet_step ((rename_i u;go_at_call 172;exact di u (CI.out u))))
   refine wpQuiet_nil ?_;intro Y F;obtain⟨L,rfl⟩:=F;have a3:=M L;have G9:=dJ L.gr;have a0:=dJ M;have am:=dJ aa;have an:=dJ ab;have aL:=dJ U4;have aM:=dJ UM;clear M Z aa ab U4 UM;go_wp2
   go_loopw [8,9] (fun s8 s9 wr=>∃(m:Nat) (zz X:Int),m<=n/\zz=(m:Int)-1/\s9=.int .i64 zz/\s8=.int .i64 X/\Hid (X=Rn.numB (H.drop m)/\∀z∈H.drop m,0<=z/\z<=255)/\Hid (Gr W wr)) (fun _ s9 _=>(intOf s9+1).toNat)
   case atStart=>exact⟨n,(n:Int)-1,0,vV _,rfl,rfl,rfl,⟨by rw[vQ (by omega)];rfl,fun z K=>by rw[vQ (by omega)] at K;cases K⟩,G9⟩
   case round =>
    obtain⟨m,zz,X,hm,aC,rfl,rfl,hx,hg⟩:=hrel;by_cases ax:m=0
    ·subst ax;obtain rfl:zz=-1:=by omega
     clear aC hm
     have HE:Hid (dC (some (Rn.word X))=R):=by
      show _=_;have:=hx.out;rw[List.drop_zero] at this;rw[ap.out,wb,<-this.1];rw[wC];rintro⟨y,hy,aX⟩;have:=this.2 y hy;simp at aX;omega
     have hX:0<=X/\X<4294967296:=by
      have:=hx.out;obtain⟨r0,r1⟩:=Rn.numB_range _ this.2;rw[this.1];rw[List.drop_zero,bl,Rn.pow_256 n (8*n) rfl] at r1;rw[List.drop_zero] at r0 ⊢;refine⟨r0,Int.lt_of_lt_of_le r1 ?_⟩;rcases (by omega:n=1\/n=2\/n=3\/n=4) with rfl|rfl|rfl|rfl <;> decide
     obtain⟨x0,x1⟩:=hX;obtain⟨⟨r0,r1,r2⟩,f0,f1,f2⟩:=ac.out wr hg.out;obtain⟨GE,B,C,t⟩:=G.out wr (Rn.word X) hg.out;obtain⟨W9,d⟩:=xJ (dw wr (w.heap.size+1+1) (Rn.word X));rw[d] at GE B C t;unfold dw Rn.word at d;unfold Rn.word at B C t;dsimp only at d B C t;have ag:=dJ GE;clear GE;go_wp2;refine vZ (v:=dC (some (Rn.word X))) (by simp[results,results154,go_sem,B,C,t];rfl) rfl ?_;exact⟨by rw[HE.out],ag.out⟩
    ·obtain⟨k,rfl⟩:∃k,m=k+1:=⟨m-1,by omega⟩;obtain rfl:zz=(k:Int):=by omega
     obtain⟨z,K⟩:∃z,H[k]?=some z:=⟨_,vu (by omega)⟩;have UZ:=fun(u:GrW wr)=>aE.out k z K ⟨u.val,hg.out.trans u.gr⟩;have V4:=fun(u:GrW wr)=>aL.out ⟨u.val,hg.out.trans u.gr⟩;have VM:=fun(u:GrW wr)=>aM.out ⟨u.val,hg.out.trans u.gr⟩;have V1:=fun(u:GrW wr)=>am.out ⟨u.val,hg.out.trans u.gr⟩;have V2:=fun(u:GrW wr)=>an.out ⟨u.val,hg.out.trans u.gr⟩;have aZ:=aD.out z (vz K);obtain⟨z1,z2⟩:=aZ;have ar:H.drop k=z::H.drop (k+1):=by rw[vM (by omega)];congr 1;rw[vu (by omega)] at K;injection K
     have hX:0<=X/\X<=16777215:=by
      have:=hx.out;obtain⟨r0,r1⟩:=Rn.numB_range _ this.2;rw[this.1];rw[List.length_drop,bl,Rn.pow_256 (n-(k+1)) (8*(n-(k+1))) rfl] at r1;refine⟨r0,?_⟩
      have:(2:Int) ^ (8*(n-(k+1)))<=16777216:=by
       rcases (by omega:n-(k+1)=0\/n-(k+1)=1\/n-(k+1)=2\/n-(k+1)=3) with e|e|e|e <;> rw[e] <;> decide
      omega
     obtain⟨x0,x1⟩:=hX
     have aH:Hid (¬z<0->256*X+z=Rn.numB (H.drop k)/\∀y∈H.drop k,0<=y/\y<=255):=fun q=>by
      rw[ar,Rn.numB,<-hx.out.1];refine⟨by omega,fun y hy=>?_⟩;rcases List.mem_cons.1 hy with rfl|hy
      ·exact⟨by omega,z2⟩
      ·exact hx.out.2 y hy
     have aK:Hid (z∈H):=vz K;have ak:k<n:=by omega
     have al:Hid (k<n):=ak;have aO:N+k<l.length:=by omega
     clear K ar ax hm aC;by_cases Q:z<0
     all_goals
      go_wp2;refine dc (by kernel_rfl) (by kernel_rfl) ?_;repeat (go_big_quiet_step (fail))
      refine wpQuiet_nil ?_;intro Y F;obtain⟨u8,rfl⟩:=F;have G8:=dJ (hg.out.trans u8.gr);clear UZ V4 VM V1 V2
     ·have HE:Hid (dC (some Rn.poison)=R):=by
       show _=_;rw[ap.out,wa];rw[wC];exact⟨z,aK.out,by simpa using Q⟩
      go_wp2_with (go_at_call 152;refine(dQ _).mono ?_;rintro e w7 ⟨rfl,g7⟩;have G7:=dJ (G8.out.trans g7);obtain⟨⟨r0,r1,r2⟩,f0,f1,f2⟩:=ac.out w7 G7.out;obtain⟨GE,B,C,t⟩:=G.out w7 Rn.poison G7.out;obtain⟨W9,d⟩:=xJ (dw w7 (w.heap.size+1+1) Rn.poison);rw[d] at GE B C t;unfold dw at d;dsimp only[Rn.poison] at d B C t;have ag:=dJ GE;clear GE);refine vZ (v:=dC (some Rn.poison)) (by simp[results,results154,go_sem,B,C,t];rfl) rfl ?_;exact⟨by rw[HE.out],ag.out⟩
     ·have aG:=dJ (aH.out Q);have aY:0<=z:=by omega
      have a6:0<=256*X:=by omega
      have aJ:=dJ z2;have a7:256*X<=4294967040:=by omega
      have aU:0<=256*X+z:=by omega
      have ay:256*X+z<=4294967295:=by omega
      have aI:=dJ ay;clear aB af aA ae aj au aO ak aR aW aP aT aQ aS Q z1 x0 x1 z2 aU ay;obtain⟨kk,ad⟩:∃kk:Int,(k:Int)=kk:=⟨_,rfl⟩;have a4:0<=kk:=by omega
      have a5:kk<=3:=by have:=al.out;omega
      have aF:=dJ ad;have aV:z<=255:=by have:=aI.out;have:=aJ.out;omega
      have a9:decide (z<0)=false:=by simp;omega
      have a8:IntKind.i64.wrap (256*X+z)=256*X+z:=IntWalk.i64_in _ (by omega);rw[ad];clear ad aY aV;go_wp2;have ak:=al.out;have ad:=aF.out;exact⟨⟨k,kk-1,256*X+z,by omega,by omega,rfl,rfl,aG.out,G8⟩,by simp[intOf];omega⟩
  ·have HE:Hid (Rn.load s.mem ⟨false,(j:Int)+1,PN⟩ n=none):=by
    show _=_;unfold Rn.load Rn.bytesAt;dsimp only at hl ⊢;rw[hl,wa (.inr (by omega))];rfl
   unfold vv df;dsimp only;rw[HE.out,U];have hd:decide (PN+(n:Int)<=(l.length:Int))=false:=by simpa using aj
   rw[hd] at CI;clear h hi hp g0 g1 g2 gW O T s0 s1 s2 I hl az aw J E hA U hf hx hd hj av p1 p2;subst D;subst A;unfold fF at hW
   go_enter func154, ntmps154
   go_wp2;refine dc (by kernel_rfl) (by kernel_rfl) ?_;repeat (go_big_quiet_step ((rename_i u;go_at_call 172;exact di u (CI.out u))))
   refine wpQuiet_nil ?_;intro Y F;obtain⟨L,rfl⟩:=F;obtain⟨⟨r0,r1,r2⟩,f0,f1,f2⟩:=ac.out L.val L.gr;obtain⟨G9,B,C,t⟩:=G.out L.val Rn.zero L.gr;clear M Z aa ab U4 UM;obtain⟨W9,d⟩:=xJ (dw L.val (w.heap.size+1+1) Rn.zero);rw[d] at G9 B C t;unfold dw at d;dsimp only[Rn.zero] at d B C t;go_wp2;refine vZ (v:=dC none) (by simp[results,results154,go_sem,B,C,t];rfl) rfl ?_;exact⟨rfl,G9⟩
end Go.Proofs.YthfhamagopbgcaaGreat
