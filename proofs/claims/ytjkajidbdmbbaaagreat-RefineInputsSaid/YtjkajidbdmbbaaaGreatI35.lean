/- Parts. -/
import Derived.Test.YtjkajidbdmbbaaaGreatI34
import Derived.Test.YtjkajidbdmbbaaaGreatI33
set_option linter.unusedSimpArgs false
set_option linter.unusedVariables false
set_option maxRecDepth 100000
set_option maxHeartbeats 16000000
open Go.Proofs.Tryz
namespace Go.Proofs.YtjkajidbdmbbaaaGreat
open Go.RowKit
def ey:List Int->Int
 | []=>0
 | x::r=>if x=0 then ey r else x
namespace Rn
def five (a b:Out):List Int:=[sgn a.kind b.kind,sgn (bit a.ret.p) (bit b.ret.p),sgn a.ret.s b.ret.s,sgn a.ret.n b.ret.n,cmpMem a.mem b.mem]
theorem five_cmp (a b:Out):ey (five a b)=cmpOut a b:=by
 unfold five cmpOut heads;simp only[ey,cmpInts]
 repeat' split
 all_goals first
  | rfl
  | contradiction
  | omega
end Rn
theorem rI {B:Nat}{w:World}{v:Value}{zs:List Int}(hv:IntsAt B w v zs) :
  Calls prog 119 #[v] w (RT (.int .i64 (ey zs)) w):=by
 obtain⟨A,ca,rfl,y,z,a3⟩:=hv;obtain⟨R,m⟩:=xJ (ey zs);have t:=dJ m;rw[m];clear m
 go_enter func119, ntmps119
 go_wp2
 go_loop [8] (fun p=>∃k:Nat,k<=zs.length/\p=.int .i64 (k:Int)/\Hid (ey (zs.drop k)=R)) (fun p=>zs.length-(intOf p).toNat)
 case atStart=>exact⟨0,tR _,rfl,t⟩
 case round =>
  obtain⟨k,E,rfl,g⟩:=hrel;by_cases d:k<zs.length
  ·obtain⟨x,j⟩:∃x,zs[k]?=some x:=⟨_,sQ d⟩;obtain⟨C,F,rfl,-,a4⟩:=a3 (by omega);have D:=a4 k x j
   have q:Hid ((if x=0 then ey (zs.drop (k+1)) else x)=R):=by
    show _=_;have u:zs.drop k=x::zs.drop (k+1):=by rw[tl d];congr 1;rw[sQ d]at j;injection j
    have:=g.out;rw[u,ey]at this;exact this
   clear j a3 a4 g;by_cases r:x=0
   ·subst r;go_wp2;go_round;case rel=>exact⟨k+1,by omega,by go_num,by (show _=_);have:=q.out;simpa using this⟩
    case measure=>simp[intOf];omega
   ·have l:Hid (R=x):=by show _=_;have:=q.out;rw[tC r]at this;exact this.symm
    go_wp2;go_ret;exact⟨dc l.out.symm,rfl⟩
  ·obtain rfl:k=zs.length:=by omega
   have l:Hid (R=0):=by show _=_;have:=g.out;rw[tq (tS zs.length),ey]at this;exact this.symm
   clear a3 g;go_wp2;go_ret;exact⟨dc l.out.symm,rfl⟩
theorem od (a b:Bool)(w:World):Calls prog 121 #[.bool a,.bool b] w (RT (.int .i64 (Rn.sgn (Rn.bit a) (Rn.bit b))) w):=by
 cases a<;>cases b
 all_goals
  go_enter func121, ntmps121
  go_wp2;go_ret;exact⟨dc (by decide),rfl⟩
def gG (o:Rn.Out)(vm:Value):Value:=.agg #[.int .i64 o.kind,.bool o.ret.p,.int .i64 o.ret.s,.int .u32 o.ret.n,vm]
def jD (w:World)(o:Rn.Out)(vm:Value):World:=w.alloc (.cells #[.int .i64 o.kind,.bool o.ret.p,.int .i64 o.ret.s,.int .u32 o.ret.n,vm] 27)
theorem dK {w:World}{o:Rn.Out}{vm:Value}{w':World}(g:Gr (jD w o vm) w') :
  w'.cell? ⟨w.heap.size,0,none⟩=some (.int .i64 o.kind)/\w'.cell? ⟨w.heap.size,1,none⟩=some (.bool o.ret.p)/\w'.cell? ⟨w.heap.size,2,none⟩=some (.int .i64 o.ret.s)/\w'.cell? ⟨w.heap.size,3,none⟩=some (.int .u32 o.ret.n)/\w'.cell? ⟨w.heap.size,4,none⟩=some vm :=
 ⟨da _ _ 0 g rfl,da _ _ 1 g rfl,da _ _ 2 g rfl,da _ _ 3 g rfl,da _ _ 4 g rfl⟩
theorem eS {P:Program}{f:FuncId}{args:Array Value}{w:World}{v:Value}(h:Calls P f args w (RT v w)):Calls P f args w (RG v w) :=
 h.mono fun _ _ q=>⟨q.1,by rw[q.2];exact tX _⟩
theorem rT {w:World}{d1 d2 d3 d4 d5:Int}{t:TypeId}:IntsAt (w.alloc (.cells #[.int .i64 d1,.int .i64 d2,.int .i64 d3,.int .i64 d4,.int .i64 d5] t)).heap.size (w.alloc (.cells #[.int .i64 d1,.int .i64 d2,.int .i64 d3,.int .i64 d4,.int .i64 d5] t)) (.slice (some ⟨w.heap.size,0,none⟩) 5 5) [d1,d2,d3,d4,d5]:=by
 refine⟨_,_,rfl,tS 5,by show 5<=17592186044416;decide,fun _=>⟨w.heap.size,0,rfl,by simp,fun j z hz=>?_⟩⟩;rw[tv _ _ _ _ _ _ (heap_alloc_new w _)]
 match j,hz with
 | 0,hz=>simp at hz;subst hz;rfl
 | 1,hz=>simp at hz;subst hz;rfl
 | 2,hz=>simp at hz;subst hz;rfl
 | 3,hz=>simp at hz;subst hz;rfl
 | 4,hz=>simp at hz;subst hz;rfl
theorem kk {B:Nat}{w:World}{a b:Rn.Out}{va vb:Value}(ha:TabAt B w va a.mem)(hb:TabAt B w vb b.mem)(hB:B<=w.heap.size) :
  Calls prog 82 #[gG a va,gG b vb] w (RG (.int .i64 (Rn.cmpOut a b)) w):=by
 obtain⟨g,d⟩:=xJ (jD w a va);obtain⟨W,y⟩:=xJ (jD g b vb);have r:Gr w g:=by rw[<-d];exact(tX w).alloc _
 have q:Gr g W:=by rw[<-y];exact(tX g).alloc _
 have U:g.heap.size=w.heap.size+1:=by rw[<-d];unfold jD;simp
 have j:=fun(u:GrW W)=>dK (w:=w) (o:=a) (vm:=va) (w':=u.val) (by rw[d];exact q.trans u.gr);have l:=fun(u:GrW W)=>dK (w:=g) (o:=b) (vm:=vb) (w':=u.val) (by rw[y];exact u.gr);have A:=fun u=>(j u).1;have C:=fun u=>(j u).2.1;have D:=fun u=>(j u).2.2.1;have E:=fun u=>(j u).2.2.2.1;have F:=fun u=>(j u).2.2.2.2;have B0:=fun u=>(l u).1;have G:=fun u=>(l u).2.1;have H:=fun u=>(l u).2.2.1;have I:=fun u=>(l u).2.2.2.1;have J:=fun u=>(l u).2.2.2.2;have K:=dJ fun(u:GrW W)=>eS (iF a.kind b.kind u.val);have L:=dJ fun(u:GrW W)=>eS (od a.ret.p b.ret.p u.val);have M:=dJ fun(u:GrW W)=>eS (iF a.ret.s b.ret.s u.val);have N:=dJ fun(u:GrW W)=>eS (pr a.ret.n b.ret.n u.val);have O:=dJ fun(u:GrW W)=>eS (lU (w:=u.val) (ha.below (Below.mono ((r.trans q).trans u.gr) hB)) (hb.below (Below.mono ((r.trans q).trans u.gr) hB)))
 have T:Hid (∀m:World,Calls prog 119 #[.slice (some ⟨m.heap.size,0,none⟩) 5 5] (m.alloc (.cells #[.int .i64 (Rn.sgn a.kind b.kind),.int .i64 (Rn.sgn (Rn.bit a.ret.p) (Rn.bit b.ret.p)),.int .i64 (Rn.sgn a.ret.s b.ret.s),.int .i64 (Rn.sgn a.ret.n b.ret.n),.int .i64 (Rn.cmpMem a.mem b.mem)] 3)) fun e w'=>e=.returned (.int .i64 (Rn.cmpOut a b))/\w'=(m.alloc (.cells #[.int .i64 (Rn.sgn a.kind b.kind),.int .i64 (Rn.sgn (Rn.bit a.ret.p) (Rn.bit b.ret.p)),.int .i64 (Rn.sgn a.ret.s b.ret.s),.int .i64 (Rn.sgn a.ret.n b.ret.n),.int .i64 (Rn.cmpMem a.mem b.mem)] 3))):=fun m=>by
  have:=rI (rT (w:=m) (d1:=Rn.sgn a.kind b.kind) (d2:=Rn.sgn (Rn.bit a.ret.p) (Rn.bit b.ret.p)) (d3:=Rn.sgn a.ret.s b.ret.s) (d4:=Rn.sgn a.ret.n b.ret.n) (d5:=Rn.cmpMem a.mem b.mem) (t:=3))
  rwa [show [Rn.sgn a.kind b.kind,Rn.sgn (Rn.bit a.ret.p) (Rn.bit b.ret.p),Rn.sgn a.ret.s b.ret.s,Rn.sgn a.ret.n b.ret.n,Rn.cmpMem a.mem b.mem]=Rn.five a b from rfl,Rn.five_cmp]at this
 have S:=dJ (r.trans q);obtain⟨Y,ca,rfl,-,-,-⟩:=ha;obtain⟨Z,cb,rfl,-,-,-⟩:=hb;generalize Rn.sgn a.kind b.kind=d1 at *;generalize Rn.sgn (Rn.bit a.ret.p) (Rn.bit b.ret.p)=d2 at *;generalize Rn.sgn a.ret.s b.ret.s=d3 at *;generalize Rn.sgn a.ret.n b.ret.n=d4 at *;generalize Rn.cmpMem a.mem b.mem=d5 at *;generalize Rn.cmpOut a b=R at *;clear j l U r q;unfold jD at d y;unfold gG
 go_enter func82, ntmps82
 go_wp2;refine dG 31 (by kernel_rfl) (by kernel_rfl) ?_;simp only[tJ,List.take_zero,tM,List.drop_zero]
 repeat (go_big_quiet_step (first|(rename_i u;go_at_call 120;with_reducible exact dt u (K.out u))|(rename_i u;go_at_call 120;with_reducible exact dt u (M.out u))|(rename_i u;go_at_call 121;exact dt u (L.out u))|(rename_i u;go_at_call 122;exact dt u (N.out u))|(rename_i u;go_at_call 123;exact dt u (O.out u))))
 refine wpQuiet_nil ?_;intro m z;obtain⟨X,rfl⟩:=z;have Q:=dJ X.gr;clear A C D E F B0 G H I J;go_wp2_with (go_at_call 119;refine(T.out _).mono ?_;rintro e w8 ⟨rfl,rfl⟩);go_ret;exact⟨rfl,(S.out.trans Q.out).alloc _⟩
theorem DS.slot {c:Cfg}{pk bl:List Int}{w:World}{s:Rn.St}{o:Rn.Out}{om wv bv:Value}(h:DS c pk w s bl o om wv bv)(hf:VFn c.f)(hi:Rn.Inv c.f s){p:Rn.V}(h1:1<=p.s)(h2:p.s<=c.f.slots.length) :
  ∃(j bj cp:Nat)(l:List Int),p.s-1=(j:Int)/\(p.s-1).toNat=j/\c.us[j]?=some (bj,cp)/\s.mem[j]?=some l/\s.mem.getD (p.s-1).toNat []=l/\l.length<=cp/\cp<=9223372036854775807/\j<c.us.length/\c.us.length<=c.cm/\c.cm<=9223372036854775807 /\
   c.Am=some ⟨c.Bm,0,none⟩/\w.cell? ⟨c.Bm,j,none⟩=some (.slice (some ⟨bj,0,none⟩) l.length cp)/\l.length<=8 /\
   RowIs bj l w:=by
 have B:=hi.mem;have hlen:s.mem.length=c.f.slots.length:=by rw[<-B];simp
 have C:s.mem.length=c.us.length:=h.mem.1;obtain⟨j,A⟩:=xJ ((p.s-1).toNat);have d:j<c.us.length:=by omega
 obtain⟨⟨bj,cp⟩,y⟩:∃u,c.us[j]?=some u:=⟨_,sQ d⟩;obtain⟨l,g⟩:∃l,s.mem[j]?=some l:=⟨_,sQ (by omega)⟩;obtain⟨n,t⟩:∃n,c.f.slots[j]?=some n:=⟨_,sQ (by omega)⟩
 have r:(l.length:Int)=n:=by have:=congrArg (fun q=>q[j]?) B;simp only[td,g,t,Option.map_some]at this;injection this
 obtain⟨D,E,m,F,G⟩:=h.mem.2 j bj cp l y g;obtain⟨H,I,J⟩:=h.slots;obtain⟨K,z,L,M⟩:=J (by omega);refine⟨j,bj,cp,l,by omega,A,y,g,by rw[A,sU,g];rfl,D,E,d,H,I,K,?_,?_,m,F,G⟩
 ·rw[tv _ _ j _ _ _ L,M j bj cp n y t,<-r];rfl
 ·have:=tu.1 hf.val.head.2 n (sS t);unfold Ref.isSlot at this;simp at this;omega
